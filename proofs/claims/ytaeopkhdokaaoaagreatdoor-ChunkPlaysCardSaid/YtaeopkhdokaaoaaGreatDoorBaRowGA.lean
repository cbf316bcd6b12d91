/-
  Part of the proof in YtaeopkhdokaaoaaGreatDoorBaRowG.
-/
import Derived.Test.YtaeopkhdokaaoaaGreatDoorBa5
import Derived.Test.YtaeopkhdokaaoaaGreatDoorBa1
namespace Go.Proofs.YtaeopkhdokaaoaaGreatDoor
open Go Go.Sh
set_option maxRecDepth 100000
set_option maxHeartbeats 4000000
set_option linter.unusedSimpArgs false
set_option linter.unusedVariables false
def ActsR (m : Nat) (w : World) (v : Value) (al : List (List Int × List Nat × List Int)) : Prop := ∃ a cap, v = .slice a al.length cap ∧ ∀ j x, al[j]? = some x → ∃ b o s1 s2 s3, a = some ⟨b, o, none⟩ ∧ b < m ∧ w.cell? ⟨b, o + j * 3, none⟩ = some s1 ∧ w.cell? ⟨b, o + j * 3 + 1, none⟩ = some s2 ∧ w.cell? ⟨b, o + j * 3 + 2, none⟩ = some s3 ∧ RdS m w s1 (i64L x.1) ∧ RdS m w s2 (u8L x.2.1) ∧ RdS m w s3 (i64L x.2.2)
def actOk (x : List Int × List Nat × List Int) : Prop := x.1.length ≤ maxLen ∧ x.2.1.length ≤ maxLen ∧ x.2.2.length ≤ maxLen ∧ ∀ k ∈ x.2.1, k < 256
section
variable {w w' : World} {Y : Lay} {D : DS} {l m : Nat} {v : Value} {al : List (List Int × List Nat × List Int)}
theorem ActsR.ext (h : ActsR m w v al) (e : Ext w w') : ActsR m w' v al := by
  obtain ⟨a, cap, hv, h⟩ := h
  refine ⟨a, cap, hv, fun j x hx => ?_⟩
  obtain ⟨b, o, s1, s2, s3, ha, hb, c1, c2, c3, r1, r2, r3⟩ := h j x hx
  exact ⟨b, o, s1, s2, s3, ha, hb, e.cell_some c1, e.cell_some c2, e.cell_some c3, r1.ext e, r2.ext e, r3.ext e⟩
theorem elU64 : ElT Tryz.prog 72 72 33 1 8 (.int .u64 0) := el_72_72
def wdL (W : Nat → Nat) (n : Nat) : List Value := (List.range n).map fun j => u64 (W j)
theorem wdL_snoc (W : Nat → Nat) (n : Nat) : wdL W (n + 1) = wdL W n ++ [u64 (W n)] := by simp [wdL, List.range_succ]
theorem wdL_get {W : Nat → Nat} {n j : Nat} (h : j < n) : (wdL W n)[j]? = some (u64 (W j)) := by simp [wdL, h]
theorem Wm.of_sl {W : Nat → Nat} {b o n cap : Nat} (h : SlO w 33 1 (.slice (some ⟨b, o, none⟩) n cap) 256 (wdL W 256)) : Wm w b o W := ⟨fun hi => h.cell rfl (wdL_get hi), fun i => h.frz rfl i⟩
theorem k_words (h : Dv w Y D) (g : Good D) (ho : D.off = false) (hl : l + 32 ≤ D.n) (K : K1) (hK : ∀ b o cap w', SlO w' 33 1 (wsV b o cap) 256 (wdL (wd D l) 256) → Ext w w' → w.heap.size ≤ b → K (wsV b o cap) w') :
    callS Tryz.prog 40 #[.pointer (some ⟨Y.tb 0, 0, none⟩), .int .i64 (l : Int)] w K := by
  have hn := g.n
  have ld : ∀ (i : Nat) (w1 : World) (K : K1), Ext w w1 → i < 256 → callS Tryz.prog 52 #[.pointer (some ⟨Y.tb 0, 0, none⟩), .int .u64 ((l * 64 + i * 8 : Nat) : Int)] w1 K = K (.int .u64 (wd D l i : Int)) w1 := fun i w1 K e hi => by
    rw [c_Load (h.ext e) g 0 (by omega) ho (l * 64 + i * 8) (by omega) (by omega) K, show (l * 64 + i * 8) / 8 = l * 8 + i by omega]; unfold wd; rfl
  refine f40_call _ _ _ _ ?_
  unfold f40_t
  apply f40_l1_rule (I := fun x z w' => ∃ k : Nat, z = .int .i64 (k : Int) ∧ k ≤ 256 ∧ SlO w' 33 1 x k (wdL (wd D l) k) ∧ Frm Nob w w' ∧ NewV w.heap.size x) (μ := fun _ z _ => 256 - (Go.RowKit.intOf z).toNat)
  · exact ⟨0, rfl, by omega, SlO.nil _ _ _, Frm.refl _ _, fun b hb => by cases hb⟩
  · intros; rename_i x5 x7 w1 hI E1 hE
    obtain ⟨k, rfl, hk, hs, hf, hnw⟩ := hI
    have e1 : Ext w w1 := hf.to_ext (fun _ _ h => h)
    by_cases hk2 : k < 256
    · have e8 : (64 * l + 8 * k) = l * 64 + k * 8 := by omega
      have ldk := fun (w1 : World) (K : K1) (e : Ext w w1) => ld k w1 K e hk2
      obtain ⟨pa, pc, rfl, hpc⟩ := hs.isS'
      generalize hx : wd D l k = x at *
      unfold f40_l1_t
      simp (disch := first | omega | simp only [RO] | (simp only [RZ] <;> omega) | (with_reducible (repeat (first | assumption | exact Ext.refl _ | refine Ext.alloc ?_ _ | refine Ext.drew ?_ | refine Ext.trans ?_ (by assumption)))) | fail) only [↓RBp, ↓RA, ↓reduceIte, Nat.reduceAdd, Nat.reduceMul, Nat.reduceEqDiff, RB, RX, RA2, e8, ldk, Int.toNat_natCast]
      refine app_new elU64 (w0 := w) (hs.ext (by repeat (first | (with_reducible first | refine Sh.eB ?_ (by first | omega | (simp only [RZ] <;> omega)) _ | assumption | exact Sh.eR _ | refine Sh.eA ?_ _ | refine Sh.eD ?_ | refine Sh.eT ?_ (by assumption)) | exact Sh.eR _))) (hf.ext (by repeat (first | (with_reducible first | refine Sh.eB ?_ (by first | omega | (simp only [RZ] <;> omega)) _ | assumption | exact Sh.eR _ | refine Sh.eA ?_ _ | refine Sh.eD ?_ | refine Sh.eT ?_ (by assumption)) | exact Sh.eR _))) hnw (m := 1) (news := [u64 x]) rfl ?_ rfl (by omega) (by omega) (by omega) (fun v' w4 hsp hf4 n4 hfr4 hb4 => ?_)
      · intro j u hj
        obtain ⟨rfl, rfl⟩ := one_get hj
        simp (disch := first | omega | simp only [RO] | (simp only [RZ] <;> omega) | fail) only [↓RBp, ↓RA, ↓reduceIte, Nat.reduceAdd, Nat.reduceMul, Nat.reduceEqDiff, RB, RX, RA2]
      simp (disch := first | omega | simp only [RO] | (simp only [RZ] <;> omega) | fail) only [↓RBp, ↓RA, ↓reduceIte, Nat.reduceAdd, Nat.reduceMul, Nat.reduceEqDiff, RB, RX, RA2]
      apply hE
      · exact ⟨k + 1, by simp, by omega, by rw [wdL_snoc, hx]; exact hsp, hf4, n4⟩
      · simp [Go.RowKit.intOf]; omega
    · have : k = 256 := by omega
      subst this
      obtain ⟨b, ob, cap, rfl, _⟩ := hs.isS (by omega)
      unfold f40_l1_t
      simp (disch := first | omega | simp only [RO] | (simp only [RZ] <;> omega) | fail) only [↓RBp, ↓RA, ↓reduceIte, Nat.reduceAdd, Nat.reduceMul, Nat.reduceEqDiff, RB, RX, RA2, f40_k1_eq, f40_k1_t]
      exact hK _ _ _ _ hs e1 (hnw b rfl)
theorem k_same (W : Nat → Nat) (b o cap b' o' cap' : Nat) (h : Wm w b o W) (h' : Wm w b' o' W) (hW : ∀ j, j < 256 → W j < 18446744073709551616) (K : K1) (hK : ∀ w', Ext w w' → K (.bool true) w') :
    callS Tryz.prog 39 #[wsV b o cap, wsV b' o' cap'] w K := by
  refine f39_call _ _ _ _ ?_
  unfold f39_t
  simp (disch := first | omega | simp only [RO] | (simp only [RZ] <;> omega) | fail) only [↓RBp, ↓RA, ↓reduceIte, Nat.reduceAdd, Nat.reduceMul, Nat.reduceEqDiff, RB, RX, RA2]
  apply f39_l1_rule (I := fun z w' => ∃ k : Nat, z = .int .i64 (k : Int) ∧ k ≤ 256 ∧ Ext w w') (μ := fun z _ => 256 - (Go.RowKit.intOf z).toNat)
  · exact ⟨0, rfl, by omega, Ext.refl _⟩
  · intros; rename_i x13 w1 hI E1 hE
    obtain ⟨k, rfl, hk, e1⟩ := hI
    by_cases hk2 : k < 256
    · have c1 := e1.cell_some (h.cell hk2)
      have c2 := e1.cell_some (h'.cell hk2)
      have hx := hW k hk2
      generalize W k = x at c1 c2 hx
      unfold f39_l1_t
      simp (disch := first | omega | simp only [RO] | (simp only [RZ] <;> omega) | fail) only [↓RBp, ↓RA, ↓reduceIte, Nat.reduceAdd, Nat.reduceMul, Nat.reduceEqDiff, RB, RX, RA2, c1, c2]
      apply hE
      · exact ⟨k + 1, by simp, by omega, (by repeat (first | (with_reducible first | refine Sh.eB ?_ (by first | omega | (simp only [RZ] <;> omega)) _ | assumption | exact Sh.eR _ | refine Sh.eA ?_ _ | refine Sh.eD ?_ | refine Sh.eT ?_ (by assumption)) | exact Sh.eR _))⟩
      · simp [Go.RowKit.intOf]; omega
    · unfold f39_l1_t
      simp (disch := first | omega | simp only [RO] | (simp only [RZ] <;> omega) | fail) only [↓RBp, ↓RA, ↓reduceIte, Nat.reduceAdd, Nat.reduceMul, Nat.reduceEqDiff, RB, RX, RA2, f39_k1_eq, f39_k1_t]
      exact hK _ e1
abbrev acO (s1 s2 s3 : Value) : Obj := .cells #[s1, s2, s3] 77
theorem c_great (a1 a2 a3 : Option Addr) (n1 n2 n3 k1 k2 k3 : Nat) (h1 : n1 < 9223372036854775808) (h2 : n2 < 9223372036854775808) (h3 : n3 < 9223372036854775808) (w : World) (K : K1) :
    callS Tryz.prog 36 #[.agg #[.slice a1 n1 k1, .slice a2 n2 k2, .slice a3 n3 k3]] w K = K (.bool (decide (70 < n1) || (decide (70 < n2) || decide (70 < n3)))) (w.alloc (acO (.slice a1 n1 k1) (.slice a2 n2 k2) (.slice a3 n3 k3))) := by
  refine callS_det (by kernel_rfl) (f36_call _ _ _ ?_) K
  unfold f36_t
  by_cases g1 : 70 < n1
  · have e : (decide (70 < n1) || (decide (70 < n2) || decide (70 < n3))) = true := by simp [g1]
    rw [e]
    simp (disch := first | omega | simp only [RO] | (simp only [RZ] <;> omega) | fail) only [↓RBp, ↓RA, ↓reduceIte, Nat.reduceAdd, Nat.reduceMul, Nat.reduceEqDiff, RB, RX, RA2]
  · by_cases g2 : 70 < n2
    · have e : (decide (70 < n1) || (decide (70 < n2) || decide (70 < n3))) = true := by simp [g2]
      rw [e]
      simp (disch := first | omega | simp only [RO] | (simp only [RZ] <;> omega) | fail) only [↓RBp, ↓RA, ↓reduceIte, Nat.reduceAdd, Nat.reduceMul, Nat.reduceEqDiff, RB, RX, RA2]
    · by_cases g3 : 70 < n3
      · have e : (decide (70 < n1) || (decide (70 < n2) || decide (70 < n3))) = true := by simp [g3]
        rw [e]
        simp (disch := first | omega | simp only [RO] | (simp only [RZ] <;> omega) | fail) only [↓RBp, ↓RA, ↓reduceIte, Nat.reduceAdd, Nat.reduceMul, Nat.reduceEqDiff, RB, RX, RA2]
      · have e : (decide (70 < n1) || (decide (70 < n2) || decide (70 < n3))) = false := by simp [g1, g2, g3]
        rw [e]
        simp (disch := first | omega | simp only [RO] | (simp only [RZ] <;> omega) | fail) only [↓RBp, ↓RA, ↓reduceIte, Nat.reduceAdd, Nat.reduceMul, Nat.reduceEqDiff, RB, RX, RA2]
end
end Go.Proofs.YtaeopkhdokaaoaaGreatDoor
namespace Go.Proofs.YtaeopkhdokaaoaaGreatDoor
open Go Go.Sh
set_option linter.unusedSimpArgs false
set_option linter.unusedVariables false
theorem onc_of {per : Int} : ∀ {L : List Int} {m : Nat}, (∀ x ∈ L, 0 ≤ x ∧ x < per) → (∀ x ∈ L, bitB m x.toNat = false) → L.Nodup → ∃ m', onc per L m = some m' := by
  intro L
  induction L with
  | nil => intro m _ _ _; exact ⟨m, rfl⟩
  | cons x L ih =>
    intro m hr hb hn
    simp only [onc]
    have h1 := hr x (by simp)
    have h2 := hb x (by simp)
    rw [if_pos ⟨h1, h2⟩]
    rw [List.nodup_cons] at hn
    refine ih (fun y hy => hr y (by simp [hy])) (fun y hy => ?_) hn.2
    rw [bit_or, bit_pow, hb y (by simp [hy])]
    have hy1 := hr y (by simp [hy])
    have hne : y ≠ x := fun e => hn.1 (e ▸ hy)
    have : ¬ x.toNat = y.toNat := by omega
    simp [this]
theorem actA_iff {c : Int} {L M : List Int} {ks : List Nat} : ActA c L ks M ↔ ks.length = L.length ∧ (∀ (i k : Nat), ks[i]? = some k → k ≠ 0 ∧ k ≤ 127) ∧ (∀ (i : Nat) (x : Int), (L ++ M)[i]? = some x → 0 ≤ x ∧ x < perS c) ∧ ∀ (i j : Nat) (x y : Int), j < i → (L ++ M)[i]? = some x → (L ++ M)[j]? = some y → y ≠ x := by
  constructor
  · intro h
    have hL := h.vL; have hM := h.vM
    obtain ⟨n1, n2, n3⟩ := h.nd
    have nd : (L ++ M).Nodup := by
      rw [List.nodup_append]
      refine ⟨List.Pairwise.of_map Int.toNat (fun a b h e => h (by rw [e])) n1, List.Pairwise.of_map Int.toNat (fun a b h e => h (by rw [e])) n2, fun a ha b hb e => ?_⟩
      subst e
      have h1 := hasI_of ha
      have h2 := hasI_of hb
      rw [n3 _ h1] at h2; cases h2
    refine ⟨h.len, fun i k hk => h.kin k (List.mem_of_getElem? hk), fun i x hx => ?_, fun i j x y hji hx hy e => ?_⟩
    · rcases List.mem_append.1 (List.mem_of_getElem? hx) with h1 | h1
      · exact hL x h1
      · exact hM x h1
    · subst e
      have hj := (List.getElem?_eq_some_iff.1 hy).1
      have := (List.getElem?_inj hj nd).1 (hy.trans hx.symm)
      omega
  · intro ⟨h1, h2, h3, h4⟩
    have hin : ∀ x ∈ L ++ M, 0 ≤ x ∧ x < perS c := fun x hx => by
      obtain ⟨i, hi⟩ := List.mem_iff_getElem?.1 hx
      exact h3 i x hi
    have nd : (L ++ M).Nodup := by
      rw [List.nodup_iff_pairwise_ne, List.pairwise_iff_getElem]
      intro i j hi hj hij e
      exact h4 j i _ _ hij (List.getElem?_eq_getElem hj) (List.getElem?_eq_getElem hi) e
    rw [List.nodup_append] at nd
    refine ⟨h1, fun k hk => ?_, ?_⟩
    · obtain ⟨i, hi⟩ := List.mem_iff_getElem?.1 hk
      exact h2 i k hi
    · obtain ⟨m, hm⟩ := onc_of (L := L) (m := 0) (fun x hx => hin x (by simp [hx])) (fun x _ => by simp [bitB]) nd.1
      obtain ⟨_, _, hb⟩ := onc_spec hm
      obtain ⟨m', hm'⟩ := onc_of (L := M) (m := m) (fun x hx => hin x (by simp [hx])) (fun x hx => by
        rw [hb]
        cases hh : hasI L x.toNat with
        | false => simp [bitB]
        | true =>
          obtain ⟨y, hy, hyx⟩ := hasI_mem hh
          have := hin x (by simp [hx]); have := hin y (by simp [hy])
          have e : y = x := by omega
          exact absurd e (nd.2.2 y hy x hx)) nd.2.1
      rw [hm, Option.bind_some, hm']; rfl
end Go.Proofs.YtaeopkhdokaaoaaGreatDoor
namespace Go.Proofs.YtaeopkhdokaaoaaGreatDoor
open Go Go.Sh
set_option maxRecDepth 100000
set_option maxHeartbeats 4000000
set_option linter.unusedSimpArgs false
set_option linter.unusedVariables false
section
variable {w0 w w' : World} {Y Y' : Lay} {D D' : DS} {B l k : Nat} {c o : Int} {g : Nat} {K : K1} {E1 : VP1}
theorem Wm.ext {b ob : Nat} {W : Nat → Nat} (h : Wm w b ob W) (e : Ext w w') : Wm w' b ob W := ⟨fun hi => e.cell_some (h.cell hi), fun i => by
  have hc := h.cell (i := 0) (by omega)
  have hlt := lt_of_cell hc
  have := h.frz i
  unfold World.frozen? at this ⊢
  simp only at this ⊢
  rw [e.blk b hlt]; exact this⟩
theorem Loc.base {wI : World} (h : Loc w0 w Y D B l c o g) (e : Ext wI w0) (hG : Glob wI) : Loc wI w Y D B l c o g := ⟨⟨h.L.dv, h.L.gd, e.trans h.L.ex, fun x hx => Nat.le_trans e.size (h.L.nw x hx)⟩, h.bx, h.nb, h.on, h.lt, hG, h.c0, h.c5⟩
theorem Snd.parts (h : Snd D l c o) {k : Nat} (hk : (k : Int) < perS c) : okP (wd D l (offN c k)) = true ∧ bG (wd D l (offN c k)) = gX (wd D l (offN c k)) ∧ bK (wd D l (offN c k)) = kX (wd D l (offN c k)) ∧ bS (wd D l (offN c k)) = sX (wd D l (offN c k)) := by
  have h1 := h.sl k hk
  have h2 := h.gd k hk
  have e1 : bG (wd D l (offN c k)) = gX (wd D l (offN c k)) := by unfold bG; rw [if_pos h1]
  have e2 : bK (wd D l (offN c k)) = kX (wd D l (offN c k)) := by unfold bK; rw [if_pos h1]
  have e3 : bS (wd D l (offN c k)) = sX (wd D l (offN c k)) := by unfold bS; rw [if_pos h1]
  refine ⟨?_, e1, e2, e3⟩
  rw [e1, e2, e3] at h2
  unfold okP; rw [h1, h2]; rfl
theorem Snd.isR (h : Snd D l c o) (hp : perS c ≤ 64) {k : Nat} (hk : (k : Int) < perS c) : isR (wd D l) c (k : Int) 177 = decide (bS (wd D l (offN c k)) = 177) := by
  obtain ⟨p1, p2, p3, p4⟩ := h.parts hk
  have hb := h.bit k (by omega)
  unfold Go.Proofs.YtaeopkhdokaaoaaGreatDoor.isR
  rw [decide_eq_true (show 0 ≤ (k : Int) ∧ (k : Int) < perS c from ⟨by omega, hk⟩), Int.toNat_natCast, p1, ← p4, hb, decide_eq_true hk]
  by_cases hs : bS (wd D l (offN c k)) = 177
  · simp [hs]
  · simp [hs]
abbrev fmC (w : World) (A a b c g : Nat) : Prop := w.cell? ⟨A, 0, none⟩ = some (.int .u8 (a : Int)) ∧ w.cell? ⟨A, 1, none⟩ = some (.int .u8 (b : Int)) ∧ w.cell? ⟨A, 2, none⟩ = some (.int .u8 (c : Int)) ∧ w.cell? ⟨A, 3, none⟩ = some (.int .u16 (g : Int))
def fF (a b c g : Nat) (j : Nat) : Value := [Value.int .u8 (a : Int), .int .u8 (b : Int), .int .u8 (c : Int), .int .u16 (g : Int)].getD j undef
theorem fF_C {A a b c g : Nat} (h : Cells w A 67 4 (fF a b c g)) : fmC w A a b c g := ⟨h.cell (i := 0) (by omega), h.cell (i := 1) (by omega), h.cell (i := 2) (by omega), h.cell (i := 3) (by omega)⟩
end
end Go.Proofs.YtaeopkhdokaaoaaGreatDoor
namespace Go.Proofs.YtaeopkhdokaaoaaGreatDoor
open Go Go.Sh
set_option maxRecDepth 100000
set_option maxHeartbeats 4000000
set_option linter.unusedSimpArgs false
set_option linter.unusedVariables false
def rwL (l : Nat) : List (Nat × Nat) → List Value
  | [] => []
  | (o, v) :: r => .int .i64 (((o - l * 64) / 8 : Nat) : Int) :: u64 v :: rwL l r
theorem rwL_append (l : Nat) (a b : List (Nat × Nat)) : rwL l (a ++ b) = rwL l a ++ rwL l b := by
  induction a with
  | nil => rfl
  | cons x a ih => obtain ⟨o, v⟩ := x; simp [rwL, ih]
theorem rwL_get (l : Nat) : ∀ (ws : List (Nat × Nat)) (i : Nat) (x : Nat × Nat), ws[i]? = some x → (rwL l ws)[i * 2]? = some (.int .i64 (((x.1 - l * 64) / 8 : Nat) : Int)) ∧ (rwL l ws)[i * 2 + 1]? = some (.int .u64 (x.2 : Int)) := by
  intro ws
  induction ws with
  | nil => intro i x h; simp at h
  | cons y ws ih =>
    intro i x h
    obtain ⟨o, v⟩ := y
    cases i with
    | zero => simp only [List.getElem?_cons_zero, Option.some.injEq] at h; subst h; exact ⟨rfl, rfl⟩
    | succ i =>
      simp only [List.getElem?_cons_succ] at h
      have := ih i x h
      rw [show (i + 1) * 2 = i * 2 + 1 + 1 by omega]
      simpa [rwL] using this
theorem app_rd {t tx e ty : TypeId} {bytes : Nat} {zv : Value} (E : ElT Tryz.prog t tx e 1 bytes zv) {cs : Array Bool} {w0 w : World} {v : Value} {n m : Nat} {L R : List Value} {x : Value} (hv : SlO w e 1 v n L) (hf : Frm Nob w0 w) (hn : NewV w0.heap.size v) (hx : RdS m w x R) (h1 : allOne R = true) (hb : (n + R.length) * bytes ≤ 140737488355328) (hm' : n + R.length < 9223372036854775807) {k : K1}
    (h : ∀ v' w', SlO w' e 1 v' (n + R.length) (L ++ R) → Frm Nob w0 w' → NewV w0.heap.size v' → k v' w') :
    bltS Tryz.prog .append #[t, tx] ty cs #[v, x] w k := by
  obtain ⟨a, cap, rfl, hc⟩ := hx
  rcases hc with rfl | ⟨b, o, rfl, _, hc⟩
  · obtain ⟨va, vc, rfl, hvc⟩ := hv.isS'
    simp only [List.length_nil, List.append_nil, Nat.add_zero] at h ⊢
    rw [blt_append0 E va n vc hvc a cap k]
    exact h _ _ hv hf hn
  · by_cases h0 : R.length = 0
    · have : R = [] := List.length_eq_zero_iff.1 h0
      subst this
      obtain ⟨va, vc, rfl, hvc⟩ := hv.isS'
      simp only [List.length_nil, List.append_nil, Nat.add_zero] at h ⊢
      rw [blt_append0 E va n vc hvc _ cap k]
      exact h _ _ hv hf hn
    · exact app_new E hv hf hn (m := R.length) (news := R) (by omega) hc h1 (by omega) hb hm' (fun v' w' hs hf2 hn2 _ _ => h v' w' hs hf2 hn2)
theorem i64L_one (L : List Int) : allOne (i64L L) = true := by
  unfold i64L
  induction L with
  | nil => rfl
  | cons x L ih => simp only [List.map_cons, allOne]; exact ih
def stA (D : DS) (l : Nat) (c : Int) (L M : List Int) (ks : List Nat) (k : Nat) (acc : List (Nat × Nat)) (b : Nat) : Prop :=
  (k ≤ L.length ∧ chT D l c (L.drop k) (ks.drop k) acc b = chT D l c L ks [] (wd D l 1)) ∨ (L.length ≤ k ∧ ∃ acc1 b1, chT D l c L ks [] (wd D l 1) = some (acc1, b1) ∧ chDr D l c (M.drop (k - L.length)) acc b = chDr D l c M acc1 b1)
theorem actN_none1 {D : DS} {l : Nat} {c : Int} {L M : List Int} {ks : List Nat} (h0 : ¬ (L.length = 0 ∧ M.length = 0)) (h : chT D l c L ks [] (wd D l 1) = none) : actN D l c L ks M = none := by
  unfold actN
  rw [if_neg h0, h]
theorem actN_none2 {D : DS} {l : Nat} {c : Int} {L M : List Int} {ks : List Nat} {a1 : List (Nat × Nat)} {b1 : Nat} (h0 : ¬ (L.length = 0 ∧ M.length = 0)) (h : chT D l c L ks [] (wd D l 1) = some (a1, b1)) (h2 : chDr D l c M a1 b1 = none) : actN D l c L ks M = none := by
  unfold actN
  rw [if_neg h0, h]
  simp only [h2]
theorem stA_zero (D : DS) (l : Nat) (c : Int) (L M : List Int) (ks : List Nat) : stA D l c L M ks 0 [] (wd D l 1) := by
  left
  rw [List.drop_zero, List.drop_zero]
  exact ⟨by omega, rfl⟩
theorem stA_take {D : DS} {l : Nat} {c : Int} {L M : List Int} {ks : List Nat} {k b : Nat} {acc : List (Nat × Nat)} (h : stA D l c L M ks k acc b) (hk : k < L.length) (lk : ks.length = L.length) {x : Int} {kk : Nat} (hx : L[k]? = some x) (hkk : ks[k]? = some kk) :
    (tkOk D l c x.toNat = true → stA D l c L M ks (k + 1) (acc ++ [tkW D l c x.toNat kk]) (b ||| 2 ^ x.toNat)) ∧ (tkOk D l c x.toNat = false → actN D l c L ks M = none) := by
  have ex : L[k] = x := by rw [List.getElem?_eq_getElem hk] at hx; exact Option.some.inj hx
  have ek : ks[k]'(by omega) = kk := by rw [List.getElem?_eq_getElem (by omega)] at hkk; exact Option.some.inj hkk
  rcases h with ⟨_, h⟩ | ⟨h1, _⟩
  · rw [chT_drop hk lk, ex, ek] at h
    constructor
    · intro ht
      rw [if_pos ht] at h
      exact .inl ⟨by omega, h⟩
    · intro ht
      rw [if_neg (by simp [ht])] at h
      exact actN_none1 (by omega) h.symm
  · omega
theorem stA_mid {D : DS} {l : Nat} {c : Int} {L M : List Int} {ks : List Nat} {k b : Nat} {acc : List (Nat × Nat)} (h : stA D l c L M ks k acc b) (hk : L.length ≤ k) : ∃ acc1 b1, chT D l c L ks [] (wd D l 1) = some (acc1, b1) ∧ chDr D l c (M.drop (k - L.length)) acc b = chDr D l c M acc1 b1 := by
  rcases h with ⟨h1, h⟩ | ⟨_, h⟩
  · have e : k = L.length := by omega
    subst e
    rw [List.drop_length, chT_nil] at h
    exact ⟨acc, b, h.symm, by rw [Nat.sub_self, List.drop_zero]⟩
  · exact h
theorem stA_drop {D : DS} {l : Nat} {c : Int} {L M : List Int} {ks : List Nat} {k b : Nat} {acc : List (Nat × Nat)} (h : stA D l c L M ks k acc b) (hk : L.length ≤ k) {x : Int} (hx : M[k - L.length]? = some x) :
    (dpOk D l c x.toNat = true → stA D l c L M ks (k + 1) (acc ++ [dpW D l c x.toNat]) (dpB D l c x.toNat b)) ∧ (dpOk D l c x.toNat = false → actN D l c L ks M = none) := by
  obtain ⟨a1, b1, h1, h2⟩ := stA_mid h hk
  have hm := (List.getElem?_eq_some_iff.1 hx).1
  have ex : M[k - L.length] = x := by rw [List.getElem?_eq_getElem hm] at hx; exact Option.some.inj hx
  rw [chDr_drop hm, ex] at h2
  constructor
  · intro ht
    rw [if_pos ht] at h2
    exact .inr ⟨by omega, a1, b1, h1, by rw [show k + 1 - L.length = k - L.length + 1 by omega]; exact h2⟩
  · intro ht
    rw [if_neg (by simp [ht])] at h2
    exact actN_none2 (by omega) h1 h2.symm
theorem stA_end {D : DS} {l : Nat} {c : Int} {L M : List Int} {ks : List Nat} {b : Nat} {acc : List (Nat × Nat)} (h : stA D l c L M ks (L.length + M.length) acc b) : (¬ (L.length = 0 ∧ M.length = 0) → actN D l c L ks M = some (acc ++ [(l * 64 + 8, b)])) ∧ ((L.length = 0 ∧ M.length = 0) → actN D l c L ks M = some []) := by
  refine ⟨fun h0 => ?_, fun h0 => by unfold actN; rw [if_pos h0]⟩
  obtain ⟨a1, b1, h1, h2⟩ := stA_mid h (by omega)
  rw [show L.length + M.length - L.length = M.length by omega, List.drop_length, chDr_nil] at h2
  exact actN_eq h0 h1 h2.symm
section
variable {w w' : World} {D : DS} {l bw ow cw : Nat} {c o : Int}
theorem isR_in {W : Nat → Nat} {i s : Nat} (hi : (i : Int) < perS c) : isR W c (i : Int) s = (okP (W (offN c i)) && (decide (sX (W (offN c i)) = s) && (bitB (W 1) i == !decide (s = 176)))) := by
  unfold isR
  rw [decide_eq_true (show 0 ≤ (i : Int) ∧ (i : Int) < perS c from ⟨by omega, hi⟩), Int.toNat_natCast, Bool.true_and]
theorem isR_tk (h : Snd D l c o) {i : Nat} (hi : (i : Int) < perS c) : isR (wd D l) c (i : Int) 176 = tkOk D l c i := by
  rw [isR_in hi]
  have hp := h.parts hi
  have s1 := h.sl i hi
  have s2 := h.gd i hi
  unfold tkOk
  rw [hp.1, s1, s2, hp.2.2.2]
  cases bitB (wd D l 1) i <;> cases decide (sX (wd D l (offN c i)) = 176) <;> rfl
theorem isR_dp (h : Snd D l c o) {i : Nat} (hi : (i : Int) < perS c) : isR (wd D l) c (i : Int) 177 = dpOk D l c i := by
  rw [isR_in hi]
  have hp := h.parts hi
  have s1 := h.sl i hi
  unfold dpOk
  rw [hp.1, s1, hp.2.2.2]
  cases bitB (wd D l 1) i <;> cases decide (sX (wd D l (offN c i)) = 177) <;> rfl
theorem k_rActions (hW : Wm w bw ow (wd D l)) (hWl : ∀ j, j < 256 → wd D l j < 18446744073709551616) (hs : Snd D l c o) (c0 : 0 ≤ c) (c5 : c < 5) (L M : List Int) (ks : List Nat) (v kv u : Value) {m : Nat} (hL : RdS m w v (i64L L)) (hk : RdS m w kv (u8L ks)) (hM : RdS m w u (i64L M)) (lL : L.length < 1000) (lM : M.length < 1000) (lk : ks.length < 1000) (hks : ∀ k ∈ ks, k < 256) (K : K1)
    (hbad : ¬ ActA c L ks M → ∀ w', Ext w w' → K (.tuple #[.slice none 0 0, .int .i64 1]) w')
    (hno : ActA c L ks M → actN D l c L ks M = none → ∀ w', Ext w w' → K (.tuple #[.slice none 0 0, .int .i64 8]) w')
    (hyes : ActA c L ks M → ∀ ws, actN D l c L ks M = some ws → ∀ v' w', Ext w w' → NewV w.heap.size v' → SlO w' 87 2 v' ws.length (rwL l ws) → K (.tuple #[v', .int .i64 0]) w') : callS Tryz.prog 38 #[wsV bw ow cw, .int .i64 c, v, kv, u] w K := by
  have hp := perS_in c0 c5
  obtain ⟨np, hnp⟩ : ∃ n : Nat, perS c = (n : Int) := ⟨(perS c).toNat, by omega⟩
  have l1 : (i64L L).length = L.length := by simp
  have l2 : (i64L M).length = M.length := by simp
  have l3 : (u8L ks).length = ks.length := by simp
  obtain ⟨la, lc, rfl, _⟩ := id hL
  obtain ⟨ma, mc, rfl, _⟩ := id hM
  obtain ⟨ka, kc, rfl, _⟩ := id hk
  rw [l1] at hL ⊢
  rw [l2] at hM ⊢
  rw [l3] at hk ⊢
  have hA := actA_iff (c := c) (L := L) (M := M) (ks := ks)
  refine f38_call _ _ _ _ _ _ _ ?_
  unfold f38_t
  by_cases hlen : ks.length = L.length
  · have hz : ((ks.length : Nat) : Int) = (L.length : Int) := by omega
    simp (disch := first | omega | simp only [RO] | (simp only [RZ] <;> omega) | fail) only [↓RBp, ↓RA, ↓reduceIte, Nat.reduceAdd, Nat.reduceMul, Nat.reduceEqDiff, RB, RX, RA2, hz]
    refine app_rd el_74_74 (w0 := w) (SlO.nil _ _ _) (Frm.refl _ _) (fun b hb => by cases hb) hL (i64L_one L) (by rw [l1]; omega) (by rw [l1]; omega) (fun v1 w1 s1 f1 n1 => ?_)
    rw [l1, Nat.zero_add, List.nil_append] at s1
    have e1 : Ext w w1 := f1.to_ext (fun _ _ h => h)
    refine app_rd el_74_74 (w0 := w) s1 f1 n1 (hM.ext e1) (i64L_one M) (by rw [l2]; omega) (by rw [l2]; omega) (fun v2 w2 s2 f2 n2 => ?_)
    rw [l2, ← List.map_append, show L.length + M.length = (L ++ M).length by simp] at s2
    have hlA : (L ++ M).length = L.length + M.length := by simp
    have e2 : Ext w w2 := f2.to_ext (fun _ _ h => h)
    obtain ⟨aa, ac, rfl, hac⟩ := s2.isS'
    have hA1 := fun (k : Nat) (x : Int) (hx : (L ++ M)[k]? = some x) (w3 : World) (e3 : Ext w2 w3) => (show ∃ b o, aa = some ⟨b, o, none⟩ ∧ w3.cell? ⟨b, o + k, none⟩ = some (.int .i64 x) from by
      have hkl := (List.getElem?_eq_some_iff.1 hx).1
      have hsi := s2.isS (by omega)
      obtain ⟨b, o, cap, hv, _⟩ := hsi
      injection hv with hv _ _
      subst hv
      exact ⟨b, o, rfl, e3.cell_some (s2.cell rfl (by rw [List.getElem?_map, hx]; rfl))⟩)
    have hK1 := fun (k x : Nat) (hx : ks[k]? = some x) (w3 : World) (e3 : Ext w w3) => (show ∃ b o, ka = some ⟨b, o, none⟩ ∧ w3.cell? ⟨b, o + k, none⟩ = some (.int .u8 (x : Int)) from by
      have hkl := (List.getElem?_eq_some_iff.1 hx).1
      have hg := (hk.ext e3).get (u8L_get hkl)
      obtain ⟨b, o, cap, hv, hc⟩ := hg
      injection hv with hv _ _
      subst hv
      have : ks[k] = x := by rw [List.getElem?_eq_getElem hkl] at hx; exact Option.some.inj hx
      rw [this] at hc
      exact ⟨b, o, rfl, hc⟩)
    generalize hAA : L ++ M = A at *
    have hrp := c_rPer c
    rw [hnp] at hrp
    have second : ActA c L ks M → ∀ w3, Ext w2 w3 → f38_k1 K (wsV bw ow cw) (.int .i64 c) (.slice la L.length lc) (.slice ka ks.length kc) (.slice aa A.length ac) w3 := by
      intro hAct w3 e3
      have e03 := e2.trans e3
      have cw1 := e03.cell_some (hW.cell (i := 1) (by omega))
      have w1l := hWl 1 (by omega)
      have lt3 := lt_of_cell cw1
      have hrg := (hA.1 hAct).2.2.1
      rw [f38_k1_eq]
      unfold f38_k1_t
      simp (disch := first | omega | simp only [RO] | (simp only [RZ] <;> omega) | fail) only [↓RBp, ↓RA, ↓reduceIte, Nat.reduceAdd, Nat.reduceMul, Nat.reduceEqDiff, RB, RX, RA2, cw1, Int.reduceToNat]
      apply f38_l2_rule (I := fun x y z w' => ∃ (k b : Nat) (acc : List (Nat × Nat)), z = .int .i64 (k : Int) ∧ y = .int .u64 (b : Int) ∧ b < 18446744073709551616 ∧ k ≤ A.length ∧ acc.length = k ∧ SlO w' 87 2 x acc.length (rwL l acc) ∧ Frm Nob w3 w' ∧ NewV w3.heap.size x ∧ stA D l c L M ks k acc b) (μ := fun _ _ z _ => A.length - (Go.RowKit.intOf z).toNat)
      · exact ⟨0, wd D l 1, [], rfl, rfl, w1l, by omega, rfl, SlO.nil _ _ _, Frm.refl _ _, (fun b hb => by cases hb), stA_zero D l c L M ks⟩
      · intros; rename_i w4 hI E1 hE
        obtain ⟨k, b, acc, rfl, rfl, hb, hkA, ha, sp, f4, n4, hst⟩ := hI
        have e34 : Ext w3 w4 := f4.to_ext (fun _ _ h => h)
        have e4 := e03.trans e34
        obtain ⟨pa, pc, rfl, hpc⟩ := sp.isS'
        by_cases hkl : k < A.length
        · obtain ⟨x, hx⟩ : ∃ x, A[k]? = some x := ⟨_, List.getElem?_eq_getElem hkl⟩
          have hxr := hrg k x hx
          obtain ⟨ab, ao, rfl, hxc⟩ := hA1 k x hx w4 (e3.trans e34)
          have hcL : k < L.length → L[k]? = some x := fun h => by rw [← hAA, List.getElem?_append_left h] at hx; exact hx
          have hcM : ¬ k < L.length → M[k - L.length]? = some x := fun h => by rw [← hAA, List.getElem?_append_right (by omega)] at hx; exact hx
          obtain ⟨i, rfl⟩ : ∃ i : Nat, x = (i : Int) := ⟨x.toNat, by omega⟩
          have bd := offN_bd c0 c5 hxr.2
          have hpt := hs.parts hxr.2
          have hro : ∀ (w : World) (K : K1), callS Tryz.prog 20 #[.int .i64 c, .int .i64 (i : Int)] w K = K (.int .i64 (offN c i : Int)) w := fun w K => by rw [c_rOff c i w K (by omega) (by omega), bd.1]
          have hxl := hWl _ bd.2.2
          have cx := e4.cell_some (hW.cell bd.2.2)
          have rp := fun (w : World) (K : K1) => c_rParts (wd D l (offN c i)) w K hxl
          have ris : ∀ (s : Nat) (w5 : World) (K : K1), Ext w w5 → callS Tryz.prog 48 #[wsV bw ow cw, .int .i64 c, .int .i64 (i : Int), .int .u32 (s : Int)] w5 K = K (.bool (isR (wd D l) c (i : Int) s)) w5 := fun s w5 K e => c_rIs (hW.ext e) hWl c0 c5 i s K
          have hg16 : gX (wd D l (offN c i)) < 65536 := by unfold gX; omega
          have hqq : (l * 64 + offN c i * 8 - l * 64) / 8 = offN c i := by omega
          have hpw := pow_lt64 (show i < 64 by omega)
          have hs1 : 1 * 2 ^ i % 18446744073709551616 = 2 ^ i := by rw [Nat.one_mul]; exact Nat.mod_eq_of_lt hpw
          by_cases hkL : k < L.length
          · obtain ⟨kk, hkk⟩ : ∃ y, ks[k]? = some y := ⟨_, List.getElem?_eq_getElem (by omega)⟩
            obtain ⟨kb, ko, rfl, hkc⟩ := hK1 k kk hkk w4 e4
            have hk8 := hks kk (List.mem_of_getElem? hkk)
            have hst2 := stA_take hst hkL hlen (hcL hkL) hkk
            rw [Int.toNat_natCast] at hst2
            have ris1 := ris 176
            rw [isR_tk hs hxr.2] at ris1
            have htw : tkW D l c i kk = (l * 64 + offN c i * 8, sealN (blkX (gX (wd D l (offN c i))) kk 177)) := by unfold tkW; rw [hpt.2.1]
            have hor := or_lt64 hb hpw
            have hbl : ∀ (w : World) (K : K1), callS Tryz.prog 21 #[.int .u16 (gX (wd D l (offN c i)) : Int), .int .u8 (kk : Int), .int .u32 ((177 : Nat) : Int)] w K = K (.int .u64 ((sealN (blkX (gX (wd D l (offN c i))) kk 177) : Nat) : Int)) w := fun w K => c_rBlock _ kk 177 w K hg16 hk8 (by omega)
            cases htk : tkOk D l c i with
            | false =>
              have hn := hno hAct (hst2.2 htk)
              rw [htk] at ris1
              unfold f38_l2_t
              simp (disch := first | omega | simp only [RO] | (simp only [RZ] <;> omega) | (with_reducible (repeat (first | assumption | exact Ext.refl _ | refine Ext.alloc ?_ _ | refine Ext.drew ?_ | refine Ext.trans ?_ (by assumption)))) | fail) only [↓RBp, ↓RA, ↓reduceIte, Nat.reduceAdd, Nat.reduceMul, Nat.reduceEqDiff, RB, RX, RA2, hxc, hro, cx, rp, ris1]
              exact hn _ (by repeat (first | (with_reducible first | refine Sh.eB ?_ (by first | omega | (simp only [RZ] <;> omega)) _ | assumption | exact Sh.eR _ | refine Sh.eA ?_ _ | refine Sh.eD ?_ | refine Sh.eT ?_ (by assumption)) | exact Sh.eR _))
            | true =>
              have hnx := hst2.1 htk
              rw [htk] at ris1
              unfold f38_l2_t
              simp (disch := first | omega | simp only [RO] | (simp only [RZ] <;> omega) | (with_reducible (repeat (first | assumption | exact Ext.refl _ | refine Ext.alloc ?_ _ | refine Ext.drew ?_ | refine Ext.trans ?_ (by assumption)))) | fail) only [↓RBp, ↓RA, ↓reduceIte, Nat.reduceAdd, Nat.reduceMul, Nat.reduceEqDiff, RB, RX, RA2, hxc, hro, cx, rp, ris1, hs1, hkc, hbl]
              refine app_new el_81_81 (w0 := w3) (sp.ext (by repeat (first | (with_reducible first | refine Sh.eB ?_ (by first | omega | (simp only [RZ] <;> omega)) _ | assumption | exact Sh.eR _ | refine Sh.eA ?_ _ | refine Sh.eD ?_ | refine Sh.eT ?_ (by assumption)) | exact Sh.eR _))) (f4.ext (by repeat (first | (with_reducible first | refine Sh.eB ?_ (by first | omega | (simp only [RZ] <;> omega)) _ | assumption | exact Sh.eR _ | refine Sh.eA ?_ _ | refine Sh.eD ?_ | refine Sh.eT ?_ (by assumption)) | exact Sh.eR _))) n4 (m := 1) (news := rwL l [tkW D l c i kk]) (by rw [htw]; rfl) ?_ (by rw [htw]; rfl) (by omega) (by omega) (by omega) (fun v' w5 hsp hf5 n5 _ _ => ?_)
              · intro q u hq
                rw [Nat.zero_add, cell_new _ _ _ _ _ (by simp only [RZ])]
                rw [htw] at hq
                simpa [rwL, hqq, u64] using hq
              simp (disch := first | omega | simp only [RO] | (simp only [RZ] <;> omega) | fail) only [↓RBp, ↓RA, ↓reduceIte, Nat.reduceAdd, Nat.reduceMul, Nat.reduceEqDiff, RB, RX, RA2, hs1, f38_k5_eq, f38_k5_t]
              apply hE
              · refine ⟨k + 1, _, acc ++ [tkW D l c i kk], by simp, rfl, hor, by omega, by simp [ha], ?_, hf5, n5, hnx⟩
                rw [rwL_append, List.length_append]; exact hsp
              · simp [Go.RowKit.intOf]; omega
          · have hst2 := stA_drop hst (by omega) (hcM hkL)
            rw [Int.toNat_natCast] at hst2
            have ris1 := ris 177
            rw [isR_dp hs hxr.2] at ris1
            have dpw : ∀ g s, freG (gX (wd D l (offN c i))) = g → freS (gX (wd D l (offN c i))) = s → dpW D l c i = (l * 64 + offN c i * 8, sealN (blkX g 0 s)) := fun g s h1 h2 => by unfold dpW; rw [hpt.2.1, h1, h2]
            have dpb : ∀ s, freS (gX (wd D l (offN c i))) = s → dpB D l c i b = if s = 176 then b &&& (18446744073709551615 ^^^ 2 ^ i) else b := fun s h2 => by unfold dpB; rw [hpt.2.1, h2]
            have rAN : ∀ (x y : Operand) (w : World) (k : K1), ev Tryz.prog (binM .andNot 33 x y (.int .u64 (b : Int)) (.int .u64 ((2 ^ i : Nat) : Int))) w k = k (.int .u64 ((b &&& (18446744073709551615 ^^^ 2 ^ i) : Nat) : Int)) w := fun x y w k => ev_of_run (run_andNot _ _ _ b (2 ^ i) w hb hpw) k
            have han : b &&& (18446744073709551615 ^^^ 2 ^ i) < 18446744073709551616 := Nat.lt_of_le_of_lt Nat.and_le_left hb
            cases htk : dpOk D l c i with
            | false =>
              have hn := hno hAct (hst2.2 htk)
              rw [htk] at ris1
              unfold f38_l2_t
              simp (disch := first | omega | simp only [RO] | (simp only [RZ] <;> omega) | (with_reducible (repeat (first | assumption | exact Ext.refl _ | refine Ext.alloc ?_ _ | refine Ext.drew ?_ | refine Ext.trans ?_ (by assumption)))) | fail) only [↓RBp, ↓RA, ↓reduceIte, Nat.reduceAdd, Nat.reduceMul, Nat.reduceEqDiff, RB, RX, RA2, hxc, hro, cx, rp, ris1]
              exact hn _ (by repeat (first | (with_reducible first | refine Sh.eB ?_ (by first | omega | (simp only [RZ] <;> omega)) _ | assumption | exact Sh.eR _ | refine Sh.eA ?_ _ | refine Sh.eD ?_ | refine Sh.eT ?_ (by assumption)) | exact Sh.eR _))
            | true =>
              have hnx := hst2.1 htk
              rw [htk] at ris1
              by_cases h65 : gX (wd D l (offN c i)) = 65535
              · have hw := dpw 65535 178 (by rw [h65]; decide) (by rw [h65]; decide)
                have hbb := dpb 178 (by rw [h65]; decide)
                rw [if_neg (by omega)] at hbb
                rw [hbb] at hnx
                have hbl : ∀ (w : World) (K : K1), callS Tryz.prog 21 #[.int .u16 ((65535 : Nat) : Int), .int .u8 ((0 : Nat) : Int), .int .u32 ((178 : Nat) : Int)] w K = K (.int .u64 ((sealN (blkX 65535 0 178) : Nat) : Int)) w := fun w K => c_rBlock _ 0 178 w K (by omega) (by omega) (by omega)
                rw [h65] at rp
                unfold f38_l2_t
                simp (disch := first | omega | simp only [RO] | (simp only [RZ] <;> omega) | (with_reducible (repeat (first | assumption | exact Ext.refl _ | refine Ext.alloc ?_ _ | refine Ext.drew ?_ | refine Ext.trans ?_ (by assumption)))) | fail) only [↓RBp, ↓RA, ↓reduceIte, Nat.reduceAdd, Nat.reduceMul, Nat.reduceEqDiff, RB, RX, RA2, hxc, hro, cx, rp, ris1, hbl]
                refine app_new el_81_81 (w0 := w3) (sp.ext (by repeat (first | (with_reducible first | refine Sh.eB ?_ (by first | omega | (simp only [RZ] <;> omega)) _ | assumption | exact Sh.eR _ | refine Sh.eA ?_ _ | refine Sh.eD ?_ | refine Sh.eT ?_ (by assumption)) | exact Sh.eR _))) (f4.ext (by repeat (first | (with_reducible first | refine Sh.eB ?_ (by first | omega | (simp only [RZ] <;> omega)) _ | assumption | exact Sh.eR _ | refine Sh.eA ?_ _ | refine Sh.eD ?_ | refine Sh.eT ?_ (by assumption)) | exact Sh.eR _))) n4 (m := 1) (news := rwL l [dpW D l c i]) (by rw [hw]; rfl) ?_ (by rw [hw]; rfl) (by omega) (by omega) (by omega) (fun v' w5 hsp hf5 n5 _ _ => ?_)
                · intro q u hq
                  rw [Nat.zero_add, cell_new _ _ _ _ _ (by simp only [RZ])]
                  rw [hw] at hq
                  simpa [rwL, hqq, u64] using hq
                simp (disch := first | omega | simp only [RO] | (simp only [RZ] <;> omega) | fail) only [↓RBp, ↓RA, ↓reduceIte, Nat.reduceAdd, Nat.reduceMul, Nat.reduceEqDiff, RB, RX, RA2, f38_k5_eq, f38_k5_t]
                apply hE
                · refine ⟨k + 1, _, acc ++ [dpW D l c i], by simp, rfl, hb, by omega, by simp [ha], ?_, hf5, n5, hnx⟩
                  rw [rwL_append, List.length_append]; exact hsp
                · simp [Go.RowKit.intOf]; omega
              · have hfg : freG (gX (wd D l (offN c i))) = gX (wd D l (offN c i)) + 1 := by unfold freG; rw [if_neg h65]
                have hfs : freS (gX (wd D l (offN c i))) = 176 := by unfold freS; rw [if_neg h65]
                have hw := dpw _ 176 hfg hfs
                have hbb := dpb 176 hfs
                rw [if_pos rfl] at hbb
                rw [hbb] at hnx
                have hbl : ∀ (w : World) (K : K1), callS Tryz.prog 21 #[.int .u16 ((gX (wd D l (offN c i)) + 1 : Nat) : Int), .int .u8 ((0 : Nat) : Int), .int .u32 ((176 : Nat) : Int)] w K = K (.int .u64 ((sealN (blkX (gX (wd D l (offN c i)) + 1) 0 176) : Nat) : Int)) w := fun w K => c_rBlock _ 0 176 w K (by omega) (by omega) (by omega)
                unfold f38_l2_t
                simp (disch := first | omega | simp only [RO] | (simp only [RZ] <;> omega) | (with_reducible (repeat (first | assumption | exact Ext.refl _ | refine Ext.alloc ?_ _ | refine Ext.drew ?_ | refine Ext.trans ?_ (by assumption)))) | fail) only [↓RBp, ↓RA, ↓reduceIte, Nat.reduceAdd, Nat.reduceMul, Nat.reduceEqDiff, RB, RX, RA2, hxc, hro, cx, rp, ris1, h65, hs1, rAN, hbl]
                refine app_new el_81_81 (w0 := w3) (sp.ext (by repeat (first | (with_reducible first | refine Sh.eB ?_ (by first | omega | (simp only [RZ] <;> omega)) _ | assumption | exact Sh.eR _ | refine Sh.eA ?_ _ | refine Sh.eD ?_ | refine Sh.eT ?_ (by assumption)) | exact Sh.eR _))) (f4.ext (by repeat (first | (with_reducible first | refine Sh.eB ?_ (by first | omega | (simp only [RZ] <;> omega)) _ | assumption | exact Sh.eR _ | refine Sh.eA ?_ _ | refine Sh.eD ?_ | refine Sh.eT ?_ (by assumption)) | exact Sh.eR _))) n4 (m := 1) (news := rwL l [dpW D l c i]) (by rw [hw]; rfl) ?_ (by rw [hw]; rfl) (by omega) (by omega) (by omega) (fun v' w5 hsp hf5 n5 _ _ => ?_)
                · intro q u hq
                  rw [Nat.zero_add, cell_new _ _ _ _ _ (by simp only [RZ])]
                  rw [hw] at hq
                  simpa [rwL, hqq, u64] using hq
                simp (disch := first | omega | simp only [RO] | (simp only [RZ] <;> omega) | fail) only [↓RBp, ↓RA, ↓reduceIte, Nat.reduceAdd, Nat.reduceMul, Nat.reduceEqDiff, RB, RX, RA2, f38_k5_eq, f38_k5_t]
                apply hE
                · refine ⟨k + 1, _, acc ++ [dpW D l c i], by simp, rfl, han, by omega, by simp [ha], ?_, hf5, n5, hnx⟩
                  rw [rwL_append, List.length_append]; exact hsp
                · simp [Go.RowKit.intOf]; omega
        · have hkA' : k = L.length + M.length := by omega
          subst hkA'
          have hend := stA_end hst
          by_cases h0 : L.length = 0 ∧ M.length = 0
          · have hy := hyes hAct [] (hend.2 h0)
            have hacc : acc = [] := List.length_eq_zero_iff.1 (by omega)
            subst hacc
            have hA0 : A.length = 0 := by omega
            unfold f38_l2_t
            simp (disch := first | omega | simp only [RO] | (simp only [RZ] <;> omega) | fail) only [↓RBp, ↓RA, ↓reduceIte, Nat.reduceAdd, Nat.reduceMul, Nat.reduceEqDiff, RB, RX, RA2, hA0, f38_k2_eq, f38_k2_t, f38_k4_eq, f38_k4_t]
            exact hy _ _ e4 (fun q hq => Nat.le_trans e03.size (n4 q hq)) sp
          · have hy := hyes hAct _ (hend.1 h0)
            have hq1 : (l * 64 + 8 - l * 64) / 8 = 1 := by omega
            unfold f38_l2_t
            simp (disch := first | omega | simp only [RO] | (simp only [RZ] <;> omega) | fail) only [↓RBp, ↓RA, ↓reduceIte, Nat.reduceAdd, Nat.reduceMul, Nat.reduceEqDiff, RB, RX, RA2, f38_k2_eq, f38_k2_t]
            refine app_new el_81_81 (w0 := w3) (sp.ext (by repeat (first | (with_reducible first | refine Sh.eB ?_ (by first | omega | (simp only [RZ] <;> omega)) _ | assumption | exact Sh.eR _ | refine Sh.eA ?_ _ | refine Sh.eD ?_ | refine Sh.eT ?_ (by assumption)) | exact Sh.eR _))) (f4.ext (by repeat (first | (with_reducible first | refine Sh.eB ?_ (by first | omega | (simp only [RZ] <;> omega)) _ | assumption | exact Sh.eR _ | refine Sh.eA ?_ _ | refine Sh.eD ?_ | refine Sh.eT ?_ (by assumption)) | exact Sh.eR _))) n4 (m := 1) (news := rwL l [(l * 64 + 8, b)]) rfl ?_ rfl (by omega) (by omega) (by omega) (fun v' w5 hsp hf5 n5 _ _ => ?_)
            · intro q u hq
              rw [Nat.zero_add, cell_new _ _ _ _ _ (by simp only [RZ])]
              simpa [rwL, hq1, u64] using hq
            simp (disch := first | omega | simp only [RO] | (simp only [RZ] <;> omega) | fail) only [↓RBp, ↓RA, ↓reduceIte, Nat.reduceAdd, Nat.reduceMul, Nat.reduceEqDiff, RB, RX, RA2, f38_k4_eq, f38_k4_t]
            refine hy v' w5 (e03.trans (hf5.to_ext (fun _ _ h => h))) (fun q hq => Nat.le_trans e03.size (n5 q hq)) ?_
            rw [rwL_append, List.length_append]; exact hsp
    apply f38_l1_rule (I := fun z w' => ∃ k : Nat, z = .int .i64 (k : Int) ∧ k ≤ A.length ∧ Ext w2 w' ∧ (∀ i x, i < k → ks[i]? = some x → x ≠ 0 ∧ x ≤ 127) ∧ (∀ i x, i < k → A[i]? = some x → 0 ≤ x ∧ x < perS c) ∧ ∀ i j x y, i < k → j < i → A[i]? = some x → A[j]? = some y → y ≠ x) (μ := fun z _ => A.length - (Go.RowKit.intOf z).toNat)
    · exact ⟨0, rfl, by omega, Ext.refl _, fun i x hi => by omega, fun i x hi => by omega, fun i j x y hi => by omega⟩
    · intros; rename_i w3 hI E1 hE
      obtain ⟨k, rfl, hkA, e3, i1, i2, i3⟩ := hI
      by_cases hkl : k < A.length
      · obtain ⟨x, hx⟩ : ∃ x, A[k]? = some x := ⟨_, List.getElem?_eq_getElem hkl⟩
        obtain ⟨ab, ao, rfl, hxc⟩ := hA1 k x hx w3 e3
        have e03 := e2.trans e3
        have bad : (∃ kk, ks[k]? = some kk ∧ ¬ (kk ≠ 0 ∧ kk ≤ 127)) ∨ ¬ (0 ≤ x ∧ x < perS c) → ∀ w', Ext w w' → K (.tuple #[.slice none 0 0, .int .i64 1]) w' := fun h => hbad (fun ha => by
          obtain ⟨_, a1, a2, _⟩ := hA.1 ha
          rcases h with ⟨kk, h1, h2⟩ | h
          · exact h2 (a1 k kk h1)
          · exact h (a2 k x hx))
        have good : (∀ kk, ks[k]? = some kk → kk ≠ 0 ∧ kk ≤ 127) → 0 ≤ x ∧ x < perS c → ∀ w4, Ext w3 w4 → f38_l3 K E1 (wsV bw ow cw) (.int .i64 c) (.slice la L.length lc) (.slice ka ks.length kc) (.slice (some ⟨ab, ao, none⟩) A.length ac) (.int .i64 (k : Int)) (.int .i64 0) w4 := by
          intro hg1 hg2 w4 e4
          apply f38_l3_rule (I := fun z w' => ∃ j : Nat, z = .int .i64 (j : Int) ∧ j ≤ k ∧ Ext w2 w' ∧ ∀ i y, i < j → A[i]? = some y → y ≠ x) (μ := fun z _ => k - (Go.RowKit.intOf z).toNat)
          · exact ⟨0, rfl, by omega, e3.trans e4, fun i y hi => by omega⟩
          · intros; rename_i w5 hI5 E5 hE5
            obtain ⟨j, rfl, hj, e5, hjn⟩ := hI5
            have e05 := e2.trans e5
            by_cases hjk : j < k
            · obtain ⟨y, hy⟩ : ∃ y, A[j]? = some y := ⟨_, List.getElem?_eq_getElem (by omega)⟩
              obtain ⟨_, _, he, hyc⟩ := hA1 j y hy w5 e5
              injection he with he
              injection he with he1 he2 _
              subst he1; subst he2
              obtain ⟨_, _, he, hxc5⟩ := hA1 k x hx w5 e5
              injection he with he
              injection he with he1 he2 _
              subst he1; subst he2
              unfold f38_l3_t
              by_cases hxy : y = x
              · subst hxy
                simp (disch := first | omega | simp only [RO] | (simp only [RZ] <;> omega) | fail) only [↓RBp, ↓RA, ↓reduceIte, Nat.reduceAdd, Nat.reduceMul, Nat.reduceEqDiff, RB, RX, RA2, hyc, hxc5]
                exact hbad (fun ha => (hA.1 ha).2.2.2 k j y y hjk hx hy rfl) _ (by repeat (first | (with_reducible first | refine Sh.eB ?_ (by first | omega | (simp only [RZ] <;> omega)) _ | assumption | exact Sh.eR _ | refine Sh.eA ?_ _ | refine Sh.eD ?_ | refine Sh.eT ?_ (by assumption)) | exact Sh.eR _))
              · simp (disch := first | omega | simp only [RO] | (simp only [RZ] <;> omega) | fail) only [↓RBp, ↓RA, ↓reduceIte, Nat.reduceAdd, Nat.reduceMul, Nat.reduceEqDiff, RB, RX, RA2, hyc, hxc5, hxy]
                apply hE5
                · exact ⟨j + 1, by simp, by omega, (by repeat (first | (with_reducible first | refine Sh.eB ?_ (by first | omega | (simp only [RZ] <;> omega)) _ | assumption | exact Sh.eR _ | refine Sh.eA ?_ _ | refine Sh.eD ?_ | refine Sh.eT ?_ (by assumption)) | exact Sh.eR _)), fun i z hi hz => by
                    by_cases hij : i = j
                    · subst hij; rw [hy] at hz; injection hz with hz; subst hz; exact hxy
                    · exact hjn i z (by omega) hz⟩
                · simp [Go.RowKit.intOf]; omega
            · have : j = k := by omega
              subst this
              unfold f38_l3_t
              simp (disch := first | omega | simp only [RO] | (simp only [RZ] <;> omega) | fail) only [↓RBp, ↓RA, ↓reduceIte, Nat.reduceAdd, Nat.reduceMul, Nat.reduceEqDiff, RB, RX, RA2, f38_k3_eq, f38_k3_t]
              apply hE
              · refine ⟨j + 1, by simp, by omega, e5, fun i z hi hz => ?_, fun i z hi hz => ?_, fun i q z y hi hq hz hy => ?_⟩
                · by_cases hij : i = j
                  · subst hij; exact hg1 z hz
                  · exact i1 i z (by omega) hz
                · by_cases hij : i = j
                  · subst hij; rw [hx] at hz; injection hz with hz; subst hz; exact hg2
                  · exact i2 i z (by omega) hz
                · by_cases hij : i = j
                  · subst hij; rw [hx] at hz; injection hz with hz; subst hz; exact hjn q y hq hy
                  · exact i3 i q z y (by omega) hq hz hy
              · simp [Go.RowKit.intOf]; omega
        have hrp3 := fun (w : World) (K : K1) => hrp w K
        have xb : ∀ w4, Ext w3 w4 → (0 ≤ x ∧ x < perS c → f38_l3 K E1 (wsV bw ow cw) (.int .i64 c) (.slice la L.length lc) (.slice ka ks.length kc) (.slice (some ⟨ab, ao, none⟩) A.length ac) (.int .i64 (k : Int)) (.int .i64 0) w4) → True := fun _ _ _ => trivial
        unfold f38_l1_t
        rw [hnp] at good bad
        by_cases hkk : k < ks.length
        · obtain ⟨kk, hkk1⟩ : ∃ y, ks[k]? = some y := ⟨_, List.getElem?_eq_getElem hkk⟩
          obtain ⟨kb, ko, rfl, hkc⟩ := hK1 k kk hkk1 w3 e03
          have hk8 := hks kk (List.mem_of_getElem? hkk1)
          by_cases k0 : kk = 0
          · have := bad (.inl ⟨kk, hkk1, by omega⟩)
            subst k0
            (repeat' (first | (with_reducible refine brS_mk (fun _ => ?_) (fun _ => ?_)) | (with_reducible refine And.intro ?_ ?_) | (simp (disch := first | omega | simp only [RO] | (simp only [RZ] <;> omega) | (with_reducible (repeat (first | assumption | exact Ext.refl _ | refine Ext.alloc ?_ _ | refine Ext.drew ?_ | refine Ext.trans ?_ (by assumption)))) | fail) only [↓RBp, ↓RA, ↓reduceIte, Nat.reduceAdd, Nat.reduceMul, Nat.reduceEqDiff, RB, RX, RA2, hkc, hxc, hrp3])))
            exact this _ (by repeat (first | (with_reducible first | refine Sh.eB ?_ (by first | omega | (simp only [RZ] <;> omega)) _ | assumption | exact Sh.eR _ | refine Sh.eA ?_ _ | refine Sh.eD ?_ | refine Sh.eT ?_ (by assumption)) | exact Sh.eR _))
          · by_cases k1 : 127 < kk
            · have := bad (.inl ⟨kk, hkk1, by omega⟩)
              (repeat' (first | (with_reducible refine brS_mk (fun _ => ?_) (fun _ => ?_)) | (with_reducible refine And.intro ?_ ?_) | (simp (disch := first | omega | simp only [RO] | (simp only [RZ] <;> omega) | (with_reducible (repeat (first | assumption | exact Ext.refl _ | refine Ext.alloc ?_ _ | refine Ext.drew ?_ | refine Ext.trans ?_ (by assumption)))) | fail) only [↓RBp, ↓RA, ↓reduceIte, Nat.reduceAdd, Nat.reduceMul, Nat.reduceEqDiff, RB, RX, RA2, hkc, hxc, hrp3, k0])))
              exact this _ (by repeat (first | (with_reducible first | refine Sh.eB ?_ (by first | omega | (simp only [RZ] <;> omega)) _ | assumption | exact Sh.eR _ | refine Sh.eA ?_ _ | refine Sh.eD ?_ | refine Sh.eT ?_ (by assumption)) | exact Sh.eR _))
            · have hg := good (fun z hz => by rw [hkk1] at hz; injection hz with hz; omega)
              by_cases x0 : x < 0
              · have := bad (.inr (by omega))
                (repeat' (first | (with_reducible refine brS_mk (fun _ => ?_) (fun _ => ?_)) | (with_reducible refine And.intro ?_ ?_) | (simp (disch := first | omega | simp only [RO] | (simp only [RZ] <;> omega) | (with_reducible (repeat (first | assumption | exact Ext.refl _ | refine Ext.alloc ?_ _ | refine Ext.drew ?_ | refine Ext.trans ?_ (by assumption)))) | fail) only [↓RBp, ↓RA, ↓reduceIte, Nat.reduceAdd, Nat.reduceMul, Nat.reduceEqDiff, RB, RX, RA2, hkc, hxc, hrp3, k0])))
                exact this _ (by repeat (first | (with_reducible first | refine Sh.eB ?_ (by first | omega | (simp only [RZ] <;> omega)) _ | assumption | exact Sh.eR _ | refine Sh.eA ?_ _ | refine Sh.eD ?_ | refine Sh.eT ?_ (by assumption)) | exact Sh.eR _))
              · by_cases x1 : (np : Int) ≤ x
                · have := bad (.inr (by omega))
                  (repeat' (first | (with_reducible refine brS_mk (fun _ => ?_) (fun _ => ?_)) | (with_reducible refine And.intro ?_ ?_) | (simp (disch := first | omega | simp only [RO] | (simp only [RZ] <;> omega) | (with_reducible (repeat (first | assumption | exact Ext.refl _ | refine Ext.alloc ?_ _ | refine Ext.drew ?_ | refine Ext.trans ?_ (by assumption)))) | fail) only [↓RBp, ↓RA, ↓reduceIte, Nat.reduceAdd, Nat.reduceMul, Nat.reduceEqDiff, RB, RX, RA2, hkc, hxc, hrp3, k0])))
                  exact this _ (by repeat (first | (with_reducible first | refine Sh.eB ?_ (by first | omega | (simp only [RZ] <;> omega)) _ | assumption | exact Sh.eR _ | refine Sh.eA ?_ _ | refine Sh.eD ?_ | refine Sh.eT ?_ (by assumption)) | exact Sh.eR _))
                · have := hg ⟨by omega, by omega⟩
                  (repeat' (first | (with_reducible refine brS_mk (fun _ => ?_) (fun _ => ?_)) | (with_reducible refine And.intro ?_ ?_) | (simp (disch := first | omega | simp only [RO] | (simp only [RZ] <;> omega) | (with_reducible (repeat (first | assumption | exact Ext.refl _ | refine Ext.alloc ?_ _ | refine Ext.drew ?_ | refine Ext.trans ?_ (by assumption)))) | fail) only [↓RBp, ↓RA, ↓reduceIte, Nat.reduceAdd, Nat.reduceMul, Nat.reduceEqDiff, RB, RX, RA2, hkc, hxc, hrp3, k0])))
                  exact this _ (by repeat (first | (with_reducible first | refine Sh.eB ?_ (by first | omega | (simp only [RZ] <;> omega)) _ | assumption | exact Sh.eR _ | refine Sh.eA ?_ _ | refine Sh.eD ?_ | refine Sh.eT ?_ (by assumption)) | exact Sh.eR _))
        · have hkn : ks[k]? = none := List.getElem?_eq_none (by omega)
          have hg := good (fun z hz => by rw [hkn] at hz; cases hz)
          by_cases x0 : x < 0
          · have := bad (.inr (by omega))
            (repeat' (first | (with_reducible refine brS_mk (fun _ => ?_) (fun _ => ?_)) | (with_reducible refine And.intro ?_ ?_) | (simp (disch := first | omega | simp only [RO] | (simp only [RZ] <;> omega) | (with_reducible (repeat (first | assumption | exact Ext.refl _ | refine Ext.alloc ?_ _ | refine Ext.drew ?_ | refine Ext.trans ?_ (by assumption)))) | fail) only [↓RBp, ↓RA, ↓reduceIte, Nat.reduceAdd, Nat.reduceMul, Nat.reduceEqDiff, RB, RX, RA2, hxc, hrp3])))
            exact this _ (by repeat (first | (with_reducible first | refine Sh.eB ?_ (by first | omega | (simp only [RZ] <;> omega)) _ | assumption | exact Sh.eR _ | refine Sh.eA ?_ _ | refine Sh.eD ?_ | refine Sh.eT ?_ (by assumption)) | exact Sh.eR _))
          · by_cases x1 : (np : Int) ≤ x
            · have := bad (.inr (by omega))
              (repeat' (first | (with_reducible refine brS_mk (fun _ => ?_) (fun _ => ?_)) | (with_reducible refine And.intro ?_ ?_) | (simp (disch := first | omega | simp only [RO] | (simp only [RZ] <;> omega) | (with_reducible (repeat (first | assumption | exact Ext.refl _ | refine Ext.alloc ?_ _ | refine Ext.drew ?_ | refine Ext.trans ?_ (by assumption)))) | fail) only [↓RBp, ↓RA, ↓reduceIte, Nat.reduceAdd, Nat.reduceMul, Nat.reduceEqDiff, RB, RX, RA2, hxc, hrp3])))
              exact this _ (by repeat (first | (with_reducible first | refine Sh.eB ?_ (by first | omega | (simp only [RZ] <;> omega)) _ | assumption | exact Sh.eR _ | refine Sh.eA ?_ _ | refine Sh.eD ?_ | refine Sh.eT ?_ (by assumption)) | exact Sh.eR _))
            · have := hg ⟨by omega, by omega⟩
              (repeat' (first | (with_reducible refine brS_mk (fun _ => ?_) (fun _ => ?_)) | (with_reducible refine And.intro ?_ ?_) | (simp (disch := first | omega | simp only [RO] | (simp only [RZ] <;> omega) | (with_reducible (repeat (first | assumption | exact Ext.refl _ | refine Ext.alloc ?_ _ | refine Ext.drew ?_ | refine Ext.trans ?_ (by assumption)))) | fail) only [↓RBp, ↓RA, ↓reduceIte, Nat.reduceAdd, Nat.reduceMul, Nat.reduceEqDiff, RB, RX, RA2, hxc, hrp3])))
              exact this _ (by repeat (first | (with_reducible first | refine Sh.eB ?_ (by first | omega | (simp only [RZ] <;> omega)) _ | assumption | exact Sh.eR _ | refine Sh.eA ?_ _ | refine Sh.eD ?_ | refine Sh.eT ?_ (by assumption)) | exact Sh.eR _))
      · have hkA' : k = A.length := by omega
        subst hkA'
        have hAct : ActA c L ks M := hA.2 ⟨hlen, fun i x hi => i1 i x (by have := (List.getElem?_eq_some_iff.1 hi).1; omega) hi, fun i x hx => i2 i x (List.getElem?_eq_some_iff.1 hx).1 hx, fun i j x y hj hx hy => i3 i j x y (List.getElem?_eq_some_iff.1 hx).1 hj hx hy⟩
        unfold f38_l1_t
        simp (disch := first | omega | simp only [RO] | (simp only [RZ] <;> omega) | fail) only [↓RBp, ↓RA, ↓reduceIte, Nat.reduceAdd, Nat.reduceMul, Nat.reduceEqDiff, RB, RX, RA2]
        exact second hAct _ e3
  · have hz : ¬ ((ks.length : Nat) : Int) = (L.length : Int) := by omega
    simp (disch := first | omega | simp only [RO] | (simp only [RZ] <;> omega) | fail) only [↓RBp, ↓RA, ↓reduceIte, Nat.reduceAdd, Nat.reduceMul, Nat.reduceEqDiff, RB, RX, RA2, hz]
    exact hbad (fun h => hlen h.len) _ (by repeat (first | (with_reducible first | refine Sh.eB ?_ (by first | omega | (simp only [RZ] <;> omega)) _ | assumption | exact Sh.eR _ | refine Sh.eA ?_ _ | refine Sh.eD ?_ | refine Sh.eT ?_ (by assumption)) | exact Sh.eR _))
end
end Go.Proofs.YtaeopkhdokaaoaaGreatDoor
namespace Go.Proofs.YtaeopkhdokaaoaaGreatDoor
open Go Go.Sh
set_option maxRecDepth 100000
set_option maxHeartbeats 4000000
set_option linter.unusedSimpArgs false
set_option linter.unusedVariables false
theorem SlO.upd {w : World} {t : TypeId} {b o n cap : Nat} {L : List Value} (h : SlO w t 1 (.slice (some ⟨b, o, none⟩) n cap) n L) {i : Nat} (u : Value) (hi : i < n) : SlO (w.setCell ⟨b, o + i, none⟩ u) t 1 (.slice (some ⟨b, o, none⟩) n cap) n (L.set i u) := by
  obtain ⟨hl, h | ⟨b', o', cap', a, hv, hh, hnc, hcm, hsz, hg⟩⟩ := h
  · cases h.1
  · injection hv with hv h2 h3
    injection hv with hv
    injection hv with h4 h5 _
    subst h4; subst h5; subst h3
    have hC : Cells w b t a.size (fun j => (a[j]?).getD undef) := ⟨a, hh, Nat.le_refl _, fun j hj => by simp only [Array.getElem?_eq_getElem hj, Option.getD_some]⟩
    have hC2 := hC.set (i := o + i) u (by omega)
    obtain ⟨a', hh', hs', hg'⟩ := hC2
    refine ⟨by rw [List.length_set]; exact hl, .inr ⟨b, o, cap, a', rfl, hh', hnc, hcm, by omega, fun j x hj => ?_⟩⟩
    have hjn : j < n := by
      have := (List.getElem?_eq_some_iff.1 hj).1
      rw [List.length_set] at this; omega
    rw [hg' (o + j) (by omega)]
    simp only
    rw [List.getElem?_set] at hj
    by_cases e : i = j
    · subst e
      rw [if_pos rfl, if_pos (by omega)] at hj
      rw [if_pos rfl]; exact hj
    · rw [if_neg e] at hj
      rw [if_neg (by omega), hg j x hj, Option.getD_some]
theorem wdL_set (W : Nat → Nat) (n i x : Nat) : (wdL W n).set i (u64 x) = wdL (fun j => if j = i then x else W j) n := by
  apply List.ext_getElem?
  intro j
  rw [List.getElem?_set]
  by_cases hj : j < n
  · rw [wdL_get hj]
    by_cases e : i = j
    · subst e
      rw [if_pos rfl, if_pos (by simpa [wdL] using hj), wdL_get hj, if_pos rfl]
    · rw [if_neg e, wdL_get hj, if_neg (fun h => e h.symm)]
  · have h1 : (wdL W n)[j]? = none := List.getElem?_eq_none (by simp [wdL]; omega)
    have h2 : (wdL (fun j => if j = i then x else W j) n)[j]? = none := List.getElem?_eq_none (by simp [wdL]; omega)
    rw [h2]
    by_cases e : i = j
    · subst e
      rw [if_pos rfl, if_neg (by simp [wdL]; omega)]
    · rw [if_neg e, h1]
section
variable {w w' : World} {D : DS} {l bw ow cw : Nat} {c o : Int}
theorem wdL_congr {W V : Nat → Nat} {n : Nat} (h : ∀ i, i < n → W i = V i) : wdL W n = wdL V n := by
  unfold wdL
  rw [List.map_inj_left]
  intro i hi
  rw [h i (List.mem_range.1 hi)]
theorem isR_mk (h : Snd D l c o) (s : Nat) (hs : s = 177 ∨ s = 178) (i : Int) : isR (wd D l) c i s = mkB D l c i s := by
  unfold isR mkB
  by_cases hi : 0 ≤ i ∧ i < perS c
  · have hi' : (i.toNat : Int) < perS c := by omega
    have hp := h.parts hi'
    have s1 := h.sl _ hi'
    rw [hp.1, s1, hp.2.2.2]
    have h176 : decide (s = 176) = false := by simp; omega
    rw [h176]
    cases bitB (wd D l 1) i.toNat <;> cases decide (sX (wd D l (offN c i.toNat)) = s) <;> rfl
  · rw [decide_eq_false hi, Bool.false_and, Bool.false_and]
theorem isR_ok (h : Snd D l c o) {i : Nat} (hi : (i : Int) < perS c) : isR (wd D l) c (i : Int) 176 = okF D l c i := by
  rw [isR_tk h hi]
  have s1 := h.sl i hi
  have s2 := h.gd i hi
  have s3 := good_g s2
  unfold tkOk okF
  rw [s1, s2, decide_eq_false s3]; simp
theorem k_rCount (hW : Wm w bw ow (wd D l)) (hWl : ∀ j, j < 256 → wd D l j < 18446744073709551616) (hs : Snd D l c o) (c0 : 0 ≤ c) (c5 : c < 5) (K : K1) (hK : ∀ w', Ext w w' → K (.int .i64 ((cntN D l c (perS c).toNat : Nat) : Int)) w') :
    callS Tryz.prog 46 #[wsV bw ow cw, .int .i64 c] w K := by
  have hp := perS_in c0 c5
  obtain ⟨n, hn⟩ : ∃ n : Nat, perS c = (n : Int) := ⟨(perS c).toNat, by omega⟩
  have hrp := c_rPer c
  rw [hn] at hrp
  rw [hn, Int.toNat_natCast] at hK
  refine f46_call _ _ _ _ ?_
  unfold f46_t
  apply f46_l1_rule (I := fun x z w' => ∃ i : Nat, z = .int .i64 (i : Int) ∧ i ≤ n ∧ x = .int .i64 ((cntN D l c i : Nat) : Int) ∧ Ext w w') (μ := fun _ z _ => n - (Go.RowKit.intOf z).toNat)
  · exact ⟨0, rfl, by omega, rfl, Ext.refl _⟩
  · intros; rename_i w1 hI E1 hE
    obtain ⟨i, rfl, hi, rfl, e1⟩ := hI
    have hle := cntN_le D l c i
    by_cases hin : i < n
    · have ris : ∀ (w5 : World) (K : K1), Ext w w5 → callS Tryz.prog 48 #[wsV bw ow cw, .int .i64 c, .int .i64 (i : Int), .int .u32 ((177 : Nat) : Int)] w5 K = K (.bool (mkB D l c (i : Int) 177)) w5 := fun w5 K e => by rw [c_rIs (hW.ext e) hWl c0 c5 i 177 K, isR_mk hs 177 (.inl rfl)]
      cases ht : mkB D l c (i : Int) 177 with
      | true =>
        rw [ht] at ris
        unfold f46_l1_t
        simp (disch := first | omega | simp only [RO] | (simp only [RZ] <;> omega) | (with_reducible (repeat (first | assumption | exact Ext.refl _ | refine Ext.alloc ?_ _ | refine Ext.drew ?_ | refine Ext.trans ?_ (by assumption)))) | fail) only [↓RBp, ↓RA, ↓reduceIte, Nat.reduceAdd, Nat.reduceMul, Nat.reduceEqDiff, RB, RX, RA2, hrp, ris, f46_k2_eq, f46_k2_t]
        apply hE
        · exact ⟨i + 1, by simp, by omega, by simp [cntN, ht], e1⟩
        · simp [Go.RowKit.intOf]; omega
      | false =>
        rw [ht] at ris
        unfold f46_l1_t
        simp (disch := first | omega | simp only [RO] | (simp only [RZ] <;> omega) | (with_reducible (repeat (first | assumption | exact Ext.refl _ | refine Ext.alloc ?_ _ | refine Ext.drew ?_ | refine Ext.trans ?_ (by assumption)))) | fail) only [↓RBp, ↓RA, ↓reduceIte, Nat.reduceAdd, Nat.reduceMul, Nat.reduceEqDiff, RB, RX, RA2, hrp, ris, f46_k2_eq, f46_k2_t]
        apply hE
        · exact ⟨i + 1, by simp, by omega, by simp [cntN, ht], e1⟩
        · simp [Go.RowKit.intOf]; omega
    · have : i = n := by omega
      subst this
      unfold f46_l1_t
      simp (disch := first | omega | simp only [RO] | (simp only [RZ] <;> omega) | fail) only [↓RBp, ↓RA, ↓reduceIte, Nat.reduceAdd, Nat.reduceMul, Nat.reduceEqDiff, RB, RX, RA2, hrp, f46_k1_eq, f46_k1_t]
      exact hK _ e1
theorem k_rNext (hW : Wm w bw ow (wd D l)) (hWl : ∀ j, j < 256 → wd D l j < 18446744073709551616) (hs : Snd D l c o) (c0 : 0 ≤ c) (c5 : c < 5) (K : K1) (hK : ∀ w', Ext w w' → K (.tuple #[.int .u16 ((if alF D l c (perS c).toNat = true then mxG D l c (perS c).toNat else 0 : Nat) : Int), .bool (alF D l c (perS c).toNat)]) w') :
    callS Tryz.prog 44 #[wsV bw ow cw, .int .i64 c] w K := by
  have hp := perS_in c0 c5
  obtain ⟨n, hn⟩ : ∃ n : Nat, perS c = (n : Int) := ⟨(perS c).toNat, by omega⟩
  have hrp := c_rPer c
  rw [hn] at hrp
  rw [hn, Int.toNat_natCast] at hK
  refine f44_call _ _ _ _ ?_
  unfold f44_t
  apply f44_l1_rule (I := fun x z w' => ∃ i : Nat, z = .int .i64 (i : Int) ∧ i ≤ n ∧ x = .int .u16 ((mxG D l c i : Nat) : Int) ∧ alF D l c i = true ∧ Ext w w') (μ := fun _ z _ => n - (Go.RowKit.intOf z).toNat)
  · exact ⟨0, rfl, by omega, rfl, rfl, Ext.refl _⟩
  · intros; rename_i w1 hI E1 hE
    obtain ⟨i, rfl, hi, rfl, hal, e1⟩ := hI
    by_cases hin : i < n
    · have hper : (i : Int) < perS c := by omega
      have bd := offN_bd c0 c5 hper
      have ris : ∀ (w5 : World) (K : K1), Ext w w5 → callS Tryz.prog 48 #[wsV bw ow cw, .int .i64 c, .int .i64 (i : Int), .int .u32 ((176 : Nat) : Int)] w5 K = K (.bool (okF D l c i)) w5 := fun w5 K e => by rw [c_rIs (hW.ext e) hWl c0 c5 i 176 K, isR_ok hs hper]
      have hro : ∀ (w : World) (K : K1), callS Tryz.prog 20 #[.int .i64 c, .int .i64 (i : Int)] w K = K (.int .i64 (offN c i : Int)) w := fun w K => by rw [c_rOff c i w K (by omega) (by omega), bd.1]
      have cx := e1.cell_some (hW.cell bd.2.2)
      have hxl := hWl _ bd.2.2
      have hpt := (hs.parts hper).2.1
      have hgx : wd D l (offN c i) % 65536 = bG (wd D l (offN c i)) := by rw [hpt]; rfl
      cases ht : okF D l c i with
      | true =>
        rw [ht] at ris
        unfold f44_l1_t
        simp (disch := first | omega | simp only [RO] | (simp only [RZ] <;> omega) | (with_reducible (repeat (first | assumption | exact Ext.refl _ | refine Ext.alloc ?_ _ | refine Ext.drew ?_ | refine Ext.trans ?_ (by assumption)))) | fail) only [↓RBp, ↓RA, ↓reduceIte, Nat.reduceAdd, Nat.reduceMul, Nat.reduceEqDiff, RB, RX, RA2, hrp, ris, hro, cx, hgx]
        apply hE
        · refine ⟨i + 1, by simp, by omega, ?_, by simp [alF, hal, ht], e1⟩
          simp only [mxG]
          split <;> split <;> first | rfl | omega
        · simp [Go.RowKit.intOf]; omega
      | false =>
        rw [ht] at ris
        have := fun w' e => hK w' e
        rw [alF_no hin ht] at this
        unfold f44_l1_t
        simp (disch := first | omega | simp only [RO] | (simp only [RZ] <;> omega) | (with_reducible (repeat (first | assumption | exact Ext.refl _ | refine Ext.alloc ?_ _ | refine Ext.drew ?_ | refine Ext.trans ?_ (by assumption)))) | fail) only [↓RBp, ↓RA, ↓reduceIte, Nat.reduceAdd, Nat.reduceMul, Nat.reduceEqDiff, RB, RX, RA2, hrp, ris]
        exact this _ e1
    · have : i = n := by omega
      subst this
      rw [hal, if_pos rfl] at hK
      unfold f44_l1_t
      simp (disch := first | omega | simp only [RO] | (simp only [RZ] <;> omega) | fail) only [↓RBp, ↓RA, ↓reduceIte, Nat.reduceAdd, Nat.reduceMul, Nat.reduceEqDiff, RB, RX, RA2, hrp, f44_k1_eq, f44_k1_t]
      exact hK _ e1
theorem isB_iff (c : Int) (j : Nat) : isB c j = true ↔ ∃ i, i < (perS c).toNat ∧ offN c i = j := by
  unfold isB
  rw [List.any_eq_true]
  constructor
  · intro ⟨i, h1, h2⟩; exact ⟨i, List.mem_range.1 h1, by simpa using h2⟩
  · intro ⟨i, h1, h2⟩; exact ⟨i, List.mem_range.2 h1, by simpa using h2⟩
theorem k_rFormat {g : Nat} {v : Value} (hv : SlO w 33 1 v 256 (wdL (fun _ => 0) 256)) (c0 : 0 ≤ c) (c5 : c < 5) (o0 : 0 ≤ o) (o8 : o < 8) (hg : g < 65536) (K : K1)
    (hK : ∀ b ow cap w', Ext w w' → w.heap.size ≤ b → SlO w' 33 1 (wsV b ow cap) 256 (wdL (fmtW c o g) 256) → K (wsV b ow cap) w') :
    callS Tryz.prog 35 #[v, .agg #[.int .i64 c, .int .i64 o, .int .u16 (g : Int)]] w K := by
  have hp := perS_in c0 c5
  obtain ⟨n, hn⟩ : ∃ n : Nat, perS c = (n : Int) := ⟨(perS c).toNat, by omega⟩
  have hrp := c_rPer c
  rw [hn] at hrp
  obtain ⟨xb, xo, xc, rfl, hxc⟩ := hv.isS (by omega)
  refine f35_call _ _ _ _ ?_
  unfold f35_t
  simp (disch := first | omega | simp only [RO] | (simp only [RZ] <;> omega) | fail) only [↓RBp, ↓RA, ↓reduceIte, Nat.reduceAdd, Nat.reduceMul, Nat.reduceEqDiff, RB, RX, RA2]
  have ea : Ext w (w.alloc (rhO c o g)) := Ext.alloc_self _ _
  have lz : (wdL (fun _ => 0) 256).length = 256 := by simp [wdL]
  refine app_new elU64 (w0 := w.alloc (rhO c o g)) (SlO.nil _ _ _) (Frm.refl _ _) (fun b hb => by cases hb) (m := 256) (news := wdL (fun _ => 0) 256) (by rw [lz]) (fun j u hj => (hv.ext ea).cell rfl hj) (by kernel_rfl) (by omega) (by omega) (by omega) (fun v1 w1 s1 f1 n1 _ _ => ?_)
  rw [Nat.zero_add, List.nil_append] at s1
  have e1 : Ext (w.alloc (rhO c o g)) w1 := f1.to_ext (fun _ _ h => h)
  have rhc := Cells.new w [Value.int .i64 c, .int .i64 o, .int .u16 (g : Int)] 35
  obtain ⟨b, ob, cap, rfl, hbc⟩ := s1.isS (by omega)
  have hb1 := n1 b rfl
  have hbw : w.heap.size ≤ b := Nat.le_trans ea.size hb1
  have hbn : w.heap.size < b := by simp only [RZ] at hb1; omega
  have hs0 := sealN_lt (blkX g 0 176) (blkX_lt hg (by omega) (by omega))
  have hd0 := sealN_lt (hdX c o g) (hdX_lt (by omega) c5 (by omega) o8 hg)
  apply f35_l1_rule (I := fun z w' => ∃ k : Nat, z = .int .i64 (k : Int) ∧ 1 ≤ k ∧ k ≤ 8 ∧ Ext (w.alloc (rhO c o g)) w' ∧ SlO w' 33 1 (wsV b ob cap) 256 (wdL (fun _ => 0) 256)) (μ := fun z _ => 8 - (Go.RowKit.intOf z).toNat)
  · exact ⟨1, rfl, by omega, by omega, e1, s1⟩
  · intros; rename_i w2 hI E1 hE
    obtain ⟨k, rfl, hk1, hk8, e2, s2⟩ := hI
    by_cases hk : k < 8
    · have hup := SlO.upd s2 (u64 0) (i := k) (by omega)
      rw [wdL_set] at hup
      have hfz := fun i => s2.frz (b := b) rfl i
      have hc := s2.cell rfl (wdL_get (W := fun _ => 0) (n := 256) (j := k) (by omega))
      have hlt := lt_of_cell hc
      unfold f35_l1_t
      simp (disch := first | omega | simp only [RO] | (simp only [RZ] <;> omega) | fail) only [↓RBp, ↓RA, ↓reduceIte, Nat.reduceAdd, Nat.reduceMul, Nat.reduceEqDiff, RB, RX, RA2, hfz, hc, Int.toNat_natCast]
      apply hE
      · refine ⟨k + 1, by simp, by omega, by omega, (by repeat (first | (with_reducible first | refine Sh.eB ?_ (by first | omega | (simp only [RZ] <;> omega)) _ | assumption | exact Sh.eR _ | refine Sh.eA ?_ _ | refine Sh.eD ?_ | refine Sh.eT ?_ (by assumption)) | exact Sh.eR _)), ?_⟩
        rw [wdL_congr (V := fun _ => 0) (fun i _ => by split <;> rfl)] at hup
        exact hup
      · simp [Go.RowKit.intOf]; omega
    · have hk8 : k = 8 := by omega
      subst hk8
      unfold f35_l1_t
      simp (disch := first | omega | simp only [RO] | (simp only [RZ] <;> omega) | fail) only [↓RBp, ↓RA, ↓reduceIte, Nat.reduceAdd, Nat.reduceMul, Nat.reduceEqDiff, RB, RX, RA2, f35_k1_eq, f35_k1_t]
      apply f35_l2_rule (I := fun z w' => ∃ (k : Nat) (W : Nat → Nat), z = .int .i64 (k : Int) ∧ k ≤ n ∧ Ext (w.alloc (rhO c o g)) w' ∧ SlO w' 33 1 (wsV b ob cap) 256 (wdL W 256) ∧ ∀ j, ((∃ i, i < k ∧ offN c i = j) → W j = sealN (blkX g 0 176)) ∧ ((¬ ∃ i, i < k ∧ offN c i = j) → W j = 0)) (μ := fun z _ => n - (Go.RowKit.intOf z).toNat)
      · exact ⟨0, fun _ => 0, rfl, by omega, e2, s2, fun j => ⟨fun ⟨i, hi, _⟩ => by omega, fun _ => rfl⟩⟩
      · intros; rename_i w3 hI3 E3 hE3
        obtain ⟨k, W, rfl, hkn, e3, s3, hWj⟩ := hI3
        have r0 : w3.cell? ⟨w.heap.size, 0, none⟩ = some (.int .i64 c) := (rhc.ext e3).cell (i := 0) (by simp)
        have r1 : w3.cell? ⟨w.heap.size, 1, none⟩ = some (.int .i64 o) := (rhc.ext e3).cell (i := 1) (by simp)
        have r2 : w3.cell? ⟨w.heap.size, 2, none⟩ = some (.int .u16 (g : Int)) := (rhc.ext e3).cell (i := 2) (by simp)
        have ltr := lt_of_cell r0
        have hfz := fun i => s3.frz (b := b) rfl i
        by_cases hk : k < n
        · have hper : (k : Int) < perS c := by omega
          have bd := offN_bd c0 c5 hper
          have hro : ∀ (w : World) (K : K1), callS Tryz.prog 20 #[.int .i64 c, .int .i64 (k : Int)] w K = K (.int .i64 (offN c k : Int)) w := fun w K => by rw [c_rOff c k w K (by omega) (by omega), bd.1]
          have hbl : ∀ (w : World) (K : K1), callS Tryz.prog 21 #[.int .u16 (g : Int), .int .u8 ((0 : Nat) : Int), .int .u32 ((176 : Nat) : Int)] w K = K (.int .u64 ((sealN (blkX g 0 176) : Nat) : Int)) w := fun w K => c_rBlock g 0 176 w K hg (by omega) (by omega)
          have hup := SlO.upd s3 (u64 (sealN (blkX g 0 176))) (i := offN c k) (by omega)
          rw [wdL_set] at hup
          have hc := s3.cell rfl (wdL_get (W := W) (n := 256) (j := offN c k) (by omega))
          have hlt := lt_of_cell hc
          have hnx : ∀ j, ((∃ i, i < k + 1 ∧ offN c i = j) → (if j = offN c k then sealN (blkX g 0 176) else W j) = sealN (blkX g 0 176)) ∧ ((¬ ∃ i, i < k + 1 ∧ offN c i = j) → (if j = offN c k then sealN (blkX g 0 176) else W j) = 0) := by
            intro j
            constructor
            · intro ⟨i, hi, he⟩
              by_cases e : j = offN c k
              · rw [if_pos e]
              · rw [if_neg e]
                refine (hWj j).1 ⟨i, ?_, he⟩
                by_cases ei : i = k
                · subst ei; exact absurd he.symm e
                · omega
            · intro hno
              have e : j ≠ offN c k := fun e => hno ⟨k, by omega, e.symm⟩
              rw [if_neg e]
              exact (hWj j).2 (fun ⟨i, hi, he⟩ => hno ⟨i, by omega, he⟩)
          generalize sealN (blkX g 0 176) = V at *
          generalize offN c k = q at *
          unfold f35_l2_t
          (repeat' (first | (with_reducible refine brS_mk (fun _ => ?_) (fun _ => ?_)) | (with_reducible refine And.intro ?_ ?_) | (simp (disch := first | omega | simp only [RO] | (simp only [RZ] <;> omega) | (with_reducible (repeat (first | assumption | exact Ext.refl _ | refine Ext.alloc ?_ _ | refine Ext.drew ?_ | refine Ext.trans ?_ (by assumption)))) | fail) only [↓RBp, ↓RA, ↓reduceIte, Nat.reduceAdd, Nat.reduceMul, Nat.reduceEqDiff, RB, RX, RA2, r0, r1, r2, hrp, hro, hbl, hfz, hc, Int.toNat_natCast])))
          apply hE3
          · exact ⟨k + 1, _, by simp, by omega, (by repeat (first | (with_reducible first | refine Sh.eB ?_ (by first | omega | (simp only [RZ] <;> omega)) _ | assumption | exact Sh.eR _ | refine Sh.eA ?_ _ | refine Sh.eD ?_ | refine Sh.eT ?_ (by assumption)) | exact Sh.eR _)), hup, hnx⟩
          · simp [Go.RowKit.intOf]; omega
        · have hkn' : k = n := by omega
          subst hkn'
          have hup := SlO.upd s3 (u64 (sealN (hdX c o g))) (i := 0) (by omega)
          rw [wdL_set] at hup
          have hc := s3.cell rfl (wdL_get (W := W) (n := 256) (j := 0) (by omega))
          rw [Nat.add_zero] at hc hup
          have hlt := lt_of_cell hc
          have hfi : ∀ (w : World) (K : K1), callS Tryz.prog 16 #[.agg #[.int .i64 c, .int .i64 o, .int .u16 (g : Int)]] w K = K (.int .u64 ((sealN (hdX c o g) : Nat) : Int)) (w.alloc (rhO c o g)) := fun w K => c_rFirst c o g w K hg (.inr ⟨c0, c5, o0, o8⟩)
          have hfin : ∀ i, i < 256 → (if i = 0 then sealN (hdX c o g) else W i) = fmtW c o g i := fun i hi => by
            unfold fmtW
            by_cases h0 : i = 0
            · rw [if_pos h0, if_pos h0]
            · rw [if_neg h0, if_neg h0]
              by_cases hb : isB c i = true
              · rw [if_pos hb]
                obtain ⟨q, h1, h2⟩ := (isB_iff c i).1 hb
                exact (hWj i).1 ⟨q, by omega, h2⟩
              · rw [if_neg hb]
                exact (hWj i).2 (fun ⟨q, h1, h2⟩ => hb ((isB_iff c i).2 ⟨q, by omega, h2⟩))
          generalize sealN (hdX c o g) = V at *
          unfold f35_l2_t
          simp (disch := first | omega | simp only [RO] | (simp only [RZ] <;> omega) | fail) only [↓RBp, ↓RA, ↓reduceIte, Nat.reduceAdd, Nat.reduceMul, Nat.reduceEqDiff, RB, RX, RA2, r0, r1, r2, hrp, f35_k2_eq, f35_k2_t, hfi, hfz, hc, Int.reduceToNat, Nat.add_zero]
          refine hK b ob cap _ (by repeat (first | (with_reducible first | refine Sh.eB ?_ (by first | omega | (simp only [RZ] <;> omega)) _ | assumption | exact Sh.eR _ | refine Sh.eA ?_ _ | refine Sh.eD ?_ | refine Sh.eT ?_ (by assumption)) | exact Sh.eR _)) hbw ?_
          rw [wdL_congr hfin] at hup
          exact hup.ext (Ext.alloc_self _ _)
end
end Go.Proofs.YtaeopkhdokaaoaaGreatDoor
namespace Go.Proofs.YtaeopkhdokaaoaaGreatDoor
open Go Go.Sh
set_option maxRecDepth 100000
set_option linter.unusedVariables false
noncomputable def f5_u : Code × Dec := ((Tryz.f5.body).getD .skip, (.s .o (.s .o (.s .o (.s .o (.s .o (.s .o (.x 2568 (.s .o (.b (.l [49] 422212465069708 53919893334301279589334030174039261347274288845081144399257334177856 (.s .o (.s .o (.x 985162418491020 (.b (.s .o (.s .o (.s .o (.s .o (.s .o (.x 985162418491020 (.s .o (.b (.l [100] 633825300114115685910770175628 89202980794121224915542644861191949321502784 (.s .o (.s .o (.s (.b (.s .o (.x 1901475900342345087407474167436 .o .o))) .o)))))) (.s .o (.x 985162419539596 (.s .o (.b (.l [20, 21] 985162418491020 2921576026969099876526311379463116544175485485056 (.s .o (.x 985162421636748 .o .o))))) .o))))))))) .o)))))) .o))))))))
abbrev f5_e (K : K1) : KF := endK Tryz.prog Tryz.f5.results.toList K
def f5_k1_o (K : K1) : KF := fun fr w => ∀ σ, cP (pr (pr (pr (pr (pr (pr (pr f5_u))))))) (f5_e K) (f5_e K) nX (mixF 2568 σ 0 fr) w
def f5_k1 (K : K1) (x3 x9 x11 : Value) (w : World) : Prop := f5_k1_o K (fz 231 0 [(3, x3), (9, x9), (11, x11)]) w
def f5_l1 (K : K1) (x2 x3 x7 x9 x10 x11 x47 x48 x49 : Value) (w : World) : Prop := loopT [49] 422212465069708 (fun E => cP (pl (pl (pr (pl (pr (pr (pr (pr (pr (pr f5_u)))))))))) E (f5_e K) (exB 0 (f5_k1_o K) nX)) (fz 231 0 [(2, x2), (3, x3), (7, x7), (9, x9), (10, x10), (11, x11), (47, x47), (48, x48), (49, x49)]) w
def f5_k2_o (K : K1) (E1 : VP1) : KF := fun fr w => ∀ σ, cP (pr (pr (pr (pl (pl (pr (pl (pr (pr (pr (pr (pr (pr f5_u))))))))))))) (fun fr w => E1 (sv fr 49) w) (f5_e K) (exB 0 (f5_k1_o K) nX) (mixF 985162418491020 σ 0 fr) w
def f5_k2 (K : K1) (E1 : VP1) (x2 x3 x7 x9 x10 x11 x47 x48 x49 : Value) (w : World) : Prop := f5_k2_o K E1 (fz 231 0 [(2, x2), (3, x3), (7, x7), (9, x9), (10, x10), (11, x11), (47, x47), (48, x48), (49, x49)]) w
def f5_k3_o (K : K1) (E1 : VP1) : KF := fun fr w => ∀ σ, cP (pr (pr (pr (pr (pr (pr (pl (pl (pr (pr (pl (pl (pr (pl (pr (pr (pr (pr (pr (pr f5_u)))))))))))))))))))) (f5_k2_o K E1) (f5_e K) (exB 1 (f5_k2_o K E1) (exB 0 (f5_k1_o K) nX)) (mixF 985162418491020 σ 0 fr) w
def f5_k3 (K : K1) (E1 : VP1) (x2 x3 x7 x9 x10 x11 x47 x48 x49 : Value) (w : World) : Prop := f5_k3_o K E1 (fz 231 0 [(2, x2), (3, x3), (7, x7), (9, x9), (10, x10), (11, x11), (47, x47), (48, x48), (49, x49)]) w
def f5_l2 (K : K1) (E1 : VP1) (x2 x3 x7 x9 x10 x11 x14 x16 x47 x48 x49 x99 x100 : Value) (w : World) : Prop := loopT [100] 633825300114115685910770175628 (fun E => cP (pl (pl (pr (pl (pr (pr (pr (pr (pr (pl (pl (pr (pr (pl (pl (pr (pl (pr (pr (pr (pr (pr (pr f5_u))))))))))))))))))))))) E (f5_e K) (exB 2 (f5_k3_o K E1) (exB 1 (f5_k2_o K E1) (exB 0 (f5_k1_o K) nX)))) (fz 231 0 [(2, x2), (3, x3), (7, x7), (9, x9), (10, x10), (11, x11), (14, x14), (16, x16), (47, x47), (48, x48), (49, x49), (99, x99), (100, x100)]) w
def f5_k4_o (K : K1) (E1 : VP1) : KF := fun fr w => ∀ σ, cP (pr (pr (pr (pr (pr (pr (pr (pr (pl (pl (pr (pr (pl (pl (pr (pl (pr (pr (pr (pr (pr (pr f5_u)))))))))))))))))))))) (f5_k2_o K E1) (f5_e K) (exB 1 (f5_k2_o K E1) (exB 0 (f5_k1_o K) nX)) (mixF 985162419539596 σ 0 fr) w
def f5_k4 (K : K1) (E1 : VP1) (x2 x3 x7 x9 x10 x11 x20 x47 x48 x49 : Value) (w : World) : Prop := f5_k4_o K E1 (fz 231 0 [(2, x2), (3, x3), (7, x7), (9, x9), (10, x10), (11, x11), (20, x20), (47, x47), (48, x48), (49, x49)]) w
def f5_l3 (K : K1) (E1 : VP1) (x2 x3 x7 x9 x10 x11 x20 x21 x47 x48 x49 : Value) (w : World) : Prop := loopT [20, 21] 985162418491020 (fun E => cP (pl (pl (pr (pl (pr (pr (pr (pr (pr (pr (pr (pl (pl (pr (pr (pl (pl (pr (pl (pr (pr (pr (pr (pr (pr f5_u))))))))))))))))))))))))) E (f5_e K) (exB 4 (f5_k4_o K E1) (exB 1 (f5_k2_o K E1) (exB 0 (f5_k1_o K) nX)))) (fz 231 0 [(2, x2), (3, x3), (7, x7), (9, x9), (10, x10), (11, x11), (20, x20), (21, x21), (47, x47), (48, x48), (49, x49)]) w
def f5_k5_o (K : K1) (E1 : VP1) (E2 : VP1) : KF := fun fr w => ∀ σ, cP (pr (pr (pl (pl (pr (pr (pl (pl (pr (pl (pr (pr (pr (pr (pr (pl (pl (pr (pr (pl (pl (pr (pl (pr (pr (pr (pr (pr (pr f5_u))))))))))))))))))))))))))))) (cP (pr (pr (pr (pl (pl (pr (pl (pr (pr (pr (pr (pr (pl (pl (pr (pr (pl (pl (pr (pl (pr (pr (pr (pr (pr (pr f5_u)))))))))))))))))))))))))) (fun fr w => E2 (sv fr 100) w) (f5_e K) (exB 2 (f5_k3_o K E1) (exB 1 (f5_k2_o K E1) (exB 0 (f5_k1_o K) nX)))) (f5_e K) (exB 3 (cP (pr (pr (pr (pl (pl (pr (pl (pr (pr (pr (pr (pr (pl (pl (pr (pr (pl (pl (pr (pl (pr (pr (pr (pr (pr (pr f5_u)))))))))))))))))))))))))) (fun fr w => E2 (sv fr 100) w) (f5_e K) (exB 2 (f5_k3_o K E1) (exB 1 (f5_k2_o K E1) (exB 0 (f5_k1_o K) nX)))) (exB 2 (f5_k3_o K E1) (exB 1 (f5_k2_o K E1) (exB 0 (f5_k1_o K) nX)))) (mixF 1901475900342345087407474167436 σ 0 fr) w
def f5_k5 (K : K1) (E1 : VP1) (E2 : VP1) (x2 x3 x7 x9 x10 x11 x14 x16 x18 x19 x47 x48 x49 x99 x100 : Value) (w : World) : Prop := f5_k5_o K E1 E2 (fz 231 0 [(2, x2), (3, x3), (7, x7), (9, x9), (10, x10), (11, x11), (14, x14), (16, x16), (18, x18), (19, x19), (47, x47), (48, x48), (49, x49), (99, x99), (100, x100)]) w
def f5_k6_o (K : K1) (E1 : VP1) (E2 : VP2) : KF := fun fr w => ∀ σ, cP (pr (pr (pl (pl (pr (pl (pr (pr (pr (pr (pr (pr (pr (pl (pl (pr (pr (pl (pl (pr (pl (pr (pr (pr (pr (pr (pr f5_u))))))))))))))))))))))))))) (fun fr w => E2 (sv fr 20) (sv fr 21) w) (f5_e K) (exB 4 (f5_k4_o K E1) (exB 1 (f5_k2_o K E1) (exB 0 (f5_k1_o K) nX))) (mixF 985162421636748 σ 0 fr) w
def f5_k6 (K : K1) (E1 : VP1) (E2 : VP2) (x2 x3 x7 x9 x10 x11 x20 x21 x47 x48 x49 : Value) (w : World) : Prop := f5_k6_o K E1 E2 (fz 231 0 [(2, x2), (3, x3), (7, x7), (9, x9), (10, x10), (11, x11), (20, x20), (21, x21), (47, x47), (48, x48), (49, x49)]) w
def f5_k1_t (x3 x9 x11 : Value) (K : K1) (w : World) : Prop :=
 ldS Tryz.prog 67 x3 w fun t226 w_1 =>
 callS Tryz.prog 41 (pA #[t226]) w_1 fun t227 w_2 =>
 callS Tryz.prog 40 (pA #[x9, t227]) w_2 fun t228 w_3 =>
 callS Tryz.prog 39 (pA #[t228, x11]) w_3 fun t230 w_4 =>
 K t230 w_4
theorem f5_k1_eq (K : K1) (x3 x9 x11 : Value) (w : World) : f5_k1 K x3 x9 x11 w = f5_k1_t x3 x9 x11 K w := cutE fun σ => by kernel_rfl
def f5_l1_t (x2 x3 x7 x9 x10 x11 x47 x48 x49 : Value) (K : K1) (E1 : VP1) (w : World) : Prop :=
 ev Tryz.prog (binM .lss 3 (.tmp 49) (.tmp 48) x49 x48) w fun t50 w_1 =>
 cndS t50 (
 ev Tryz.prog (Instr.indexAt 68 x47 x49) w_1 fun t51 w_2 =>
 ldS Tryz.prog 77 t51 w_2 fun t52 w_3 =>
 ev Tryz.prog (Instr.alloc 77 true (.tuple #[])) w_3 fun t13 w_4 =>
 stS Tryz.prog 77 t13 t52 w_4 fun w_5 =>
 ldS Tryz.prog 77 t13 w_5 fun t53 w_6 =>
 callS Tryz.prog 36 (pA #[t53]) w_6 fun t54 w_7 =>
 cndS t54 (
 K (.bool true) w_7) (
 ldS Tryz.prog 58 x7 w_7 fun t56 w_8 =>
 ev Tryz.prog (Instr.fieldAt 77 t13 0) w_8 fun t57 w_9 =>
 ldS Tryz.prog 74 t57 w_9 fun t58 w_10 =>
 ev Tryz.prog (Instr.fieldAt 77 t13 1) w_10 fun t59 w_11 =>
 ldS Tryz.prog 75 t59 w_11 fun t60 w_12 =>
 ev Tryz.prog (Instr.fieldAt 77 t13 2) w_12 fun t61 w_13 =>
 ldS Tryz.prog 74 t61 w_13 fun t62 w_14 =>
 callS Tryz.prog 37 (pA #[t56, t58, t60, t62]) w_14 fun t63 w_15 =>
 ev Tryz.prog (Instr.extract t63 0) w_15 fun t64 w_16 =>
 ev Tryz.prog (Instr.extract t63 1) w_16 fun t65 w_17 =>
 ev Tryz.prog (Instr.fieldAt 24 x10 0) w_17 fun t68 w_18 =>
 ldS Tryz.prog 3 t68 w_18 fun t69 w_19 =>
 ev Tryz.prog (Instr.fieldAt 77 t13 0) w_19 fun t70 w_20 =>
 ldS Tryz.prog 74 t70 w_20 fun t71 w_21 =>
 ev Tryz.prog (Instr.fieldAt 77 t13 1) w_21 fun t72 w_22 =>
 ldS Tryz.prog 75 t72 w_22 fun t73 w_23 =>
 ev Tryz.prog (Instr.fieldAt 77 t13 2) w_23 fun t74 w_24 =>
 ldS Tryz.prog 74 t74 w_24 fun t75 w_25 =>
 callS Tryz.prog 38 (pA #[x11, t69, t71, t73, t75]) w_25 fun t76 w_26 =>
 ev Tryz.prog (Instr.extract t76 0) w_26 fun t77 w_27 =>
 ev Tryz.prog (Instr.extract t76 1) w_27 fun t78 w_28 =>
 ev Tryz.prog (binM .neq 3 (.tmp 79) (.tmp 80) t65 t78) w_28 fun t81 w_29 =>
 gd t81 false (fun k => k t64 w_29) w_29 fun t83 w_30 =>
 gd t81 false (fun k => bltS Tryz.prog .len #[38] 3 #[false] #[t83] w_30 k) w_30 fun t84 w_31 =>
 gd t81 false (fun k => k t77 w_31) w_31 fun t85 w_32 =>
 gd t81 false (fun k => bltS Tryz.prog .len #[81] 3 #[false] #[t85] w_32 k) w_32 fun t86 w_33 =>
 gd t81 false (fun k => ev Tryz.prog (binM .neq 3 (.tmp 84) (.tmp 86) t84 t86) w_33 k) w_33 fun t87 w_34 =>
 pickS t81 (.bool true) t87 w_34 fun t88 w_35 =>
 gd t88 false (fun k => k x9 w_35) w_35 fun t90 w_36 =>
 gd t88 false (fun k => ldS Tryz.prog 67 x3 w_36 k) w_36 fun t91 w_37 =>
 gd t88 false (fun k => callS Tryz.prog 41 (pA #[t91]) w_37 k) w_37 fun t92 w_38 =>
 gd t88 false (fun k => callS Tryz.prog 40 (pA #[t90, t92]) w_38 k) w_38 fun t93 w_39 =>
 gd t88 false (fun k => k x11 w_39) w_39 fun t94 w_40 =>
 gd t88 false (fun k => callS Tryz.prog 39 (pA #[t93, t94]) w_40 k) w_40 fun t95 w_41 =>
 gd t88 false (fun k => ev Tryz.prog (Op.unary .not t95) w_41 k) w_41 fun t96 w_42 =>
 pickS t88 (.bool true) t96 w_42 fun t97 w_43 =>
 cndS t97 (
 K (.bool false) w_43) (
 bltS Tryz.prog .len #[81] 3 #[false] #[t77] w_43 fun t99 w_44 =>
 f5_l2 K E1 x2 x3 x7 x9 x10 x11 t64 t77 x47 x48 x49 t99 (.int .i64 0) w_44))) (
 f5_k1 K x3 x9 x11 w_1)
theorem f5_l1_rule (x2 x3 x7 x9 x10 x11 x47 x48 x49 : Value) (K : K1) (w : World) (I : VP1) (μ : Value → World → Nat) (h0 : I x49 w)
    (hr : ∀ (x49 : Value) (w : World), I x49 w → ∀ E1 : VP1, (∀ (y49 : Value) (w' : World), I y49 w' → μ y49 w' < μ x49 w → E1 y49 w') → f5_l1_t x2 x3 x7 x9 x10 x11 x47 x48 x49 K E1 w) : f5_l1 K x2 x3 x7 x9 x10 x11 x47 x48 x49 w :=
  ⟨I, μ, h0, fun σ w hI E hE => cast (by kernel_rfl) (hr (σ 49) w hI E hE)⟩
def f5_k2_t (x2 x3 x7 x9 x10 x11 x47 x48 x49 : Value) (K : K1) (E1 : VP1) (w : World) : Prop :=
 ev Tryz.prog (binM .add 3 (.tmp 49) (.const (.int .i64 1)) x49 (.int .i64 1)) w fun t224 w_1 =>
 E1 t224 w_1
theorem f5_k2_eq (K : K1) (E1 : VP1) (x2 x3 x7 x9 x10 x11 x47 x48 x49 : Value) (w : World) : f5_k2 K E1 x2 x3 x7 x9 x10 x11 x47 x48 x49 w = f5_k2_t x2 x3 x7 x9 x10 x11 x47 x48 x49 K E1 w := cutE fun σ => by kernel_rfl
def f5_k3_t (x2 x3 x7 x9 x10 x11 x47 x48 x49 : Value) (K : K1) (E1 : VP1) (w : World) : Prop :=
 ev Tryz.prog (Instr.fieldAt 24 x10 0) w fun t146 w_1 =>
 ldS Tryz.prog 3 t146 w_1 fun t147 w_2 =>
 callS Tryz.prog 19 (pA #[t147]) w_2 fun t148 w_3 =>
 ev Tryz.prog (binM .sub 3 (.tmp 148) (.const (.int .i64 1)) t148 (.int .i64 1)) w_3 fun t149 w_4 =>
 f5_l3 K E1 x2 x3 x7 x9 x10 x11 (.int .i64 (-1)) t149 x47 x48 x49 w_4
theorem f5_k3_eq (K : K1) (E1 : VP1) (x2 x3 x7 x9 x10 x11 x47 x48 x49 : Value) (w : World) : f5_k3 K E1 x2 x3 x7 x9 x10 x11 x47 x48 x49 w = f5_k3_t x2 x3 x7 x9 x10 x11 x47 x48 x49 K E1 w := cutE fun σ => by kernel_rfl
def f5_l2_t (x2 x3 x7 x9 x10 x11 x14 x16 x47 x48 x49 x99 x100 : Value) (K : K1) (E1 : VP1) (E2 : VP1) (w : World) : Prop :=
 ev Tryz.prog (binM .lss 3 (.tmp 100) (.tmp 99) x100 x99) w fun t101 w_1 =>
 cndS t101 (
 ldR Tryz.prog 67 x3 w_1.drew fun t103 =>
 rd Tryz.prog (Instr.indexAt 81 x16 x100) w_1.drew fun t109 =>
 rd Tryz.prog (Instr.fieldAt 87 t109 0) w_1.drew fun t110 =>
 ldR Tryz.prog 3 t110 w_1.drew fun t111 =>
 rd Tryz.prog (convert 3 33 t111) w_1.drew fun t112 =>
 rd Tryz.prog (binM .mul 33 (.const (.int .u64 ((8 : Nat) : Int))) (.tmp 112) (.int .u64 ((8 : Nat) : Int)) t112) w_1.drew fun t113 =>
 rd Tryz.prog (Instr.indexAt 81 x16 x100) w_1.drew fun t117 =>
 rd Tryz.prog (Instr.fieldAt 87 t117 1) w_1.drew fun t118 =>
 ldR Tryz.prog 33 t118 w_1.drew fun t119 =>
 (callS Tryz.prog 41 (pA #[t103]) w_1.drew fun t104 w_2 =>
 (ag Tryz.prog (Instr.indexAt 81 x16 x100) w_2 t109) ∧
 (ag Tryz.prog (Instr.fieldAt 87 t109 0) w_2 t110) ∧
 (ldG Tryz.prog 3 t110 w_2 t111) ∧
 (ag Tryz.prog (convert 3 33 t111) w_2 t112) ∧
 (ag Tryz.prog (binM .mul 33 (.const (.int .u64 ((8 : Nat) : Int))) (.tmp 112) (.int .u64 ((8 : Nat) : Int)) t112) w_2 t113) ∧
 (ag Tryz.prog (Instr.indexAt 81 x16 x100) w_2 t117) ∧
 (ag Tryz.prog (Instr.fieldAt 87 t117 1) w_2 t118) ∧
 (ldG Tryz.prog 33 t118 w_2 t119) ∧
 rd Tryz.prog (convert 3 33 t104) w_2 fun t105 =>
 rd Tryz.prog (binM .mul 33 (.const (.int .u64 ((64 : Nat) : Int))) (.tmp 105) (.int .u64 ((64 : Nat) : Int)) t105) w_2 fun t106 =>
 rd Tryz.prog (binM .add 33 (.tmp 106) (.tmp 113) t106 t113) w_2 fun t114 =>
 rd Tryz.prog (Instr.build 37 #[(0, t114), (1, t119)]) w_2 fun t120 =>
 ev Tryz.prog (Instr.alloc 37 true (.tuple #[])) w_2 fun t19 w_3 =>
 (ldG Tryz.prog 67 x3 w_3 t103) ∧
 (ag Tryz.prog (convert 3 33 t104) w_3 t105) ∧
 (ag Tryz.prog (binM .mul 33 (.const (.int .u64 ((64 : Nat) : Int))) (.tmp 105) (.int .u64 ((64 : Nat) : Int)) t105) w_3 t106) ∧
 (ag Tryz.prog (Instr.indexAt 81 x16 x100) w_3 t109) ∧
 (ag Tryz.prog (Instr.fieldAt 87 t109 0) w_3 t110) ∧
 (ldG Tryz.prog 3 t110 w_3 t111) ∧
 (ag Tryz.prog (convert 3 33 t111) w_3 t112) ∧
 (ag Tryz.prog (binM .mul 33 (.const (.int .u64 ((8 : Nat) : Int))) (.tmp 112) (.int .u64 ((8 : Nat) : Int)) t112) w_3 t113) ∧
 (ag Tryz.prog (binM .add 33 (.tmp 106) (.tmp 113) t106 t113) w_3 t114) ∧
 (ag Tryz.prog (Instr.indexAt 81 x16 x100) w_3 t117) ∧
 (ag Tryz.prog (Instr.fieldAt 87 t117 1) w_3 t118) ∧
 (ldG Tryz.prog 33 t118 w_3 t119) ∧
 (ag Tryz.prog (Instr.build 37 #[(0, t114), (1, t119)]) w_3 t120) ∧
 stS Tryz.prog 37 t19 t120 w_3 fun w_4 =>
 f5_k5 K E1 E2 x2 x3 x7 x9 x10 x11 x14 x16 x100 t19 x47 x48 x49 x99 x100 w_4) ∧
 (ev Tryz.prog (Instr.alloc 37 true (.tuple #[])) w_1.drew fun t19_1 w_5 =>
 (ldG Tryz.prog 67 x3 w_5 t103) ∧
 (ag Tryz.prog (Instr.indexAt 81 x16 x100) w_5 t109) ∧
 (ag Tryz.prog (Instr.fieldAt 87 t109 0) w_5 t110) ∧
 (ldG Tryz.prog 3 t110 w_5 t111) ∧
 (ag Tryz.prog (convert 3 33 t111) w_5 t112) ∧
 (ag Tryz.prog (binM .mul 33 (.const (.int .u64 ((8 : Nat) : Int))) (.tmp 112) (.int .u64 ((8 : Nat) : Int)) t112) w_5 t113) ∧
 (ag Tryz.prog (Instr.indexAt 81 x16 x100) w_5 t117) ∧
 (ag Tryz.prog (Instr.fieldAt 87 t117 1) w_5 t118) ∧
 (ldG Tryz.prog 33 t118 w_5 t119) ∧
 callS Tryz.prog 41 (pA #[t103]) w_5 fun t104_1 w_6 =>
 (ag Tryz.prog (Instr.indexAt 81 x16 x100) w_6 t109) ∧
 (ag Tryz.prog (Instr.fieldAt 87 t109 0) w_6 t110) ∧
 (ldG Tryz.prog 3 t110 w_6 t111) ∧
 (ag Tryz.prog (convert 3 33 t111) w_6 t112) ∧
 (ag Tryz.prog (binM .mul 33 (.const (.int .u64 ((8 : Nat) : Int))) (.tmp 112) (.int .u64 ((8 : Nat) : Int)) t112) w_6 t113) ∧
 (ag Tryz.prog (Instr.indexAt 81 x16 x100) w_6 t117) ∧
 (ag Tryz.prog (Instr.fieldAt 87 t117 1) w_6 t118) ∧
 (ldG Tryz.prog 33 t118 w_6 t119) ∧
 rd Tryz.prog (convert 3 33 t104_1) w_6 fun t105_1 =>
 rd Tryz.prog (binM .mul 33 (.const (.int .u64 ((64 : Nat) : Int))) (.tmp 105) (.int .u64 ((64 : Nat) : Int)) t105_1) w_6 fun t106_1 =>
 rd Tryz.prog (binM .add 33 (.tmp 106) (.tmp 113) t106_1 t113) w_6 fun t114_1 =>
 rd Tryz.prog (Instr.build 37 #[(0, t114_1), (1, t119)]) w_6 fun t120_1 =>
 stS Tryz.prog 37 t19_1 t120_1 w_6 fun w_7 =>
 f5_k5 K E1 E2 x2 x3 x7 x9 x10 x11 x14 x16 x100 t19_1 x47 x48 x49 x99 x100 w_7)) (
 f5_k3 K E1 x2 x3 x7 x9 x10 x11 x47 x48 x49 w_1)
theorem f5_l2_rule (x2 x3 x7 x9 x10 x11 x14 x16 x47 x48 x49 x99 x100 : Value) (K : K1) (E1 : VP1) (w : World) (I : VP1) (μ : Value → World → Nat) (h0 : I x100 w)
    (hr : ∀ (x100 : Value) (w : World), I x100 w → ∀ E2 : VP1, (∀ (y100 : Value) (w' : World), I y100 w' → μ y100 w' < μ x100 w → E2 y100 w') → f5_l2_t x2 x3 x7 x9 x10 x11 x14 x16 x47 x48 x49 x99 x100 K E1 E2 w) : f5_l2 K E1 x2 x3 x7 x9 x10 x11 x14 x16 x47 x48 x49 x99 x100 w :=
  ⟨I, μ, h0, fun σ w hI E hE => cast (by kernel_rfl) (hr (σ 100) w hI E hE)⟩
def f5_k4_t (x2 x3 x7 x9 x10 x11 x20 x47 x48 x49 : Value) (K : K1) (E1 : VP1) (w : World) : Prop :=
 ldS Tryz.prog 58 x7 w fun t162 w_1 =>
 callS Tryz.prog 43 (pA #[t162]) w_1 fun t163 w_2 =>
 ev Tryz.prog (Instr.extract t163 0) w_2 fun t164 w_3 =>
 ev Tryz.prog (Instr.extract t163 1) w_3 fun t165 w_4 =>
 ev Tryz.prog (Instr.fieldAt 24 x10 0) w_4 fun t168 w_5 =>
 ldS Tryz.prog 3 t168 w_5 fun t169 w_6 =>
 callS Tryz.prog 44 (pA #[x11, t169]) w_6 fun t170 w_7 =>
 ev Tryz.prog (Instr.extract t170 0) w_7 fun t171 w_8 =>
 ev Tryz.prog (Instr.extract t170 1) w_8 fun t172 w_9 =>
 ldR Tryz.prog 58 x7 w_9.drew fun t173 =>
 rd Tryz.prog (Instr.fieldAt 24 x10 0) w_9.drew fun t176 =>
 ldR Tryz.prog 3 t176 w_9.drew fun t177 =>
 callS Tryz.prog 45 (pA #[t173]) w_9.drew fun t174 w_10 =>
 (ag Tryz.prog (Instr.fieldAt 24 x10 0) w_10 t176) ∧
 (ldG Tryz.prog 3 t176 w_10 t177) ∧
 callS Tryz.prog 46 (pA #[x11, t177]) w_10 fun t178 w_11 =>
 rd Tryz.prog (binM .neq 3 (.tmp 174) (.tmp 178) t174 t178) w_11 fun t179 =>
 gdR t179 false (fun k => ldR Tryz.prog 58 x7 w_11 k) fun t181 =>
 gdR t179 false (fun k => k x2) fun t182 =>
 gdR t179 false (fun k => k x11) fun t184 =>
 gdR t179 false (fun k => rd Tryz.prog (Instr.fieldAt 24 x10 0) w_11 k) fun t185 =>
 gdR t179 false (fun k => ldR Tryz.prog 3 t185 w_11 k) fun t186 =>
 gdR t179 false (fun k => k x2) fun t187 =>
 gd t179 false (fun k => callS Tryz.prog 47 (pA #[t181, t182]) w_11 k) w_11 fun t183 w_12 =>
 (gq t179 false (ag Tryz.prog (Instr.fieldAt 24 x10 0) w_12 t185)) ∧
 (gq t179 false (ldG Tryz.prog 3 t185 w_12 t186)) ∧
 gd t179 false (fun k => callS Tryz.prog 48 (pA #[t184, t186, t187, (.int .u32 ((177 : Nat) : Int))]) w_12 k) w_12 fun t188 w_13 =>
 gdR t179 false (fun k => rd Tryz.prog (binM .neq 4 (.tmp 183) (.tmp 188) t183 t188) w_13 k) fun t189 =>
 pickV t179 (.bool true) t189 fun t190 =>
 gdR t190 false (fun k => ldR Tryz.prog 58 x7 w_13 k) fun t192 =>
 gdR t190 false (fun k => k x2) fun t193 =>
 gdR t190 false (fun k => k x11) fun t195 =>
 gdR t190 false (fun k => rd Tryz.prog (Instr.fieldAt 24 x10 0) w_13 k) fun t196 =>
 gdR t190 false (fun k => ldR Tryz.prog 3 t196 w_13 k) fun t197 =>
 gdR t190 false (fun k => k x2) fun t198 =>
 gd t190 false (fun k => callS Tryz.prog 49 (pA #[t192, t193]) w_13 k) w_13 fun t194 w_14 =>
 (gq t190 false (ag Tryz.prog (Instr.fieldAt 24 x10 0) w_14 t196)) ∧
 (gq t190 false (ldG Tryz.prog 3 t196 w_14 t197)) ∧
 gd t190 false (fun k => callS Tryz.prog 48 (pA #[t195, t197, t198, (.int .u32 ((178 : Nat) : Int))]) w_14 k) w_14 fun t199 w_15 =>
 gdR t190 false (fun k => rd Tryz.prog (binM .neq 4 (.tmp 194) (.tmp 199) t194 t199) w_15 k) fun t200 =>
 pickV t190 (.bool true) t200 fun t201 =>
 gdR t201 false (fun k => ldR Tryz.prog 58 x7 w_15 k) fun t203 =>
 gdR t201 false (fun k => k x2) fun t204 =>
 gdR t201 false (fun k => k x20) fun t206 =>
 gd t201 false (fun k => callS Tryz.prog 50 (pA #[t203, t204]) w_15 k) w_15 fun t205 w_16 =>
 gdR t201 false (fun k => rd Tryz.prog (binM .neq 3 (.tmp 205) (.tmp 206) t205 t206) w_16 k) fun t207 =>
 pickV t201 (.bool true) t207 fun t208 =>
 gdR t208 false (fun k => k t164) fun t210 =>
 gdR t208 false (fun k => k t171) fun t211 =>
 gdR t208 false (fun k => rd Tryz.prog (binM .neq 22 (.tmp 210) (.tmp 211) t210 t211) w_16 k) fun t212 =>
 pickV t208 (.bool true) t212 fun t213 =>
 gdR t213 false (fun k => k t165) fun t215 =>
 gdR t213 false (fun k => k t172) fun t216 =>
 gdR t213 false (fun k => rd Tryz.prog (binM .neq 4 (.tmp 215) (.tmp 216) t215 t216) w_16 k) fun t217 =>
 pickV t213 (.bool true) t217 fun t218 =>
 gdR t218 false (fun k => ldR Tryz.prog 58 x7 w_16 k) fun t220 =>
 gd t218 false (fun k => callS Tryz.prog 51 (pA #[t220]) w_16 k) w_16 fun t221 w_17 =>
 gdR t218 false (fun k => rd Tryz.prog (binM .neq 28 (.tmp 221) (.const (.int .i64 0)) t221 (.int .i64 0)) w_17 k) fun t222 =>
 pickV t218 (.bool true) t222 fun t223 =>
 cndS t223 (
 K (.bool false) w_17) (
 f5_k2 K E1 x2 x3 x7 x9 x10 x11 x47 x48 x49 w_17)
theorem f5_k4_eq (K : K1) (E1 : VP1) (x2 x3 x7 x9 x10 x11 x20 x47 x48 x49 : Value) (w : World) : f5_k4 K E1 x2 x3 x7 x9 x10 x11 x20 x47 x48 x49 w = f5_k4_t x2 x3 x7 x9 x10 x11 x20 x47 x48 x49 K E1 w := cutE fun σ => by kernel_rfl
def f5_l3_t (x2 x3 x7 x9 x10 x11 x20 x21 x47 x48 x49 : Value) (K : K1) (E1 : VP1) (E2 : VP2) (w : World) : Prop :=
 bltS Tryz.prog .max #[3, 3] 3 #[false, true] #[x2, (.int .i64 0)] w fun t152 w_1 =>
 ev Tryz.prog (binM .geq 3 (.tmp 150) (.tmp 152) x21 t152) w_1 fun t153 w_2 =>
 cndS t153 (
 callS Tryz.prog 42 (pA #[x11, x21]) w_2 fun t158 w_3 =>
 ev Tryz.prog (Op.unary .not t158) w_3 fun t159 w_4 =>
 cndS t159 (
 f5_k6 K E1 E2 x2 x3 x7 x9 x10 x11 x21 x21 x47 x48 x49 w_4) (
 f5_k6 K E1 E2 x2 x3 x7 x9 x10 x11 x20 x21 x47 x48 x49 w_4)) (
 f5_k4 K E1 x2 x3 x7 x9 x10 x11 x20 x47 x48 x49 w_2)
theorem f5_l3_rule (x2 x3 x7 x9 x10 x11 x20 x21 x47 x48 x49 : Value) (K : K1) (E1 : VP1) (w : World) (I : VP2) (μ : Value → Value → World → Nat) (h0 : I x20 x21 w)
    (hr : ∀ (x20 x21 : Value) (w : World), I x20 x21 w → ∀ E2 : VP2, (∀ (y20 y21 : Value) (w' : World), I y20 y21 w' → μ y20 y21 w' < μ x20 x21 w → E2 y20 y21 w') → f5_l3_t x2 x3 x7 x9 x10 x11 x20 x21 x47 x48 x49 K E1 E2 w) : f5_l3 K E1 x2 x3 x7 x9 x10 x11 x20 x21 x47 x48 x49 w :=
  ⟨I, μ, h0, fun σ w hI E hE => cast (by kernel_rfl) (hr (σ 20) (σ 21) w hI E hE)⟩
def f5_k5_t (x2 x3 x7 x9 x10 x11 x14 x16 x18 x19 x47 x48 x49 x99 x100 : Value) (K : K1) (E1 : VP1) (E2 : VP1) (w : World) : Prop :=
 rd Tryz.prog (Instr.indexAt 38 x14 x18) w.drew fun t123 =>
 ldR Tryz.prog 37 t123 w.drew fun t124 =>
 ldR Tryz.prog 37 x19 w.drew fun t125 =>
 rd Tryz.prog (binM .neq 37 (.tmp 124) (.tmp 125) t124 t125) w.drew fun t126 =>
 cndS t126 (
 K (.bool false) w.drew) (
 ev Tryz.prog (Instr.fieldAt 37 x19 0) w.drew fun t128 w_1 =>
 ldS Tryz.prog 33 t128 w_1 fun t129 w_2 =>
 ev Tryz.prog (Instr.fieldAt 37 x19 1) w_2 fun t130 w_3 =>
 ldS Tryz.prog 33 t130 w_3 fun t131 w_4 =>
 callS Tryz.prog 25 (pA #[x9, t129, t131]) w_4 fun t132 w_5 =>
 rd Tryz.prog (Instr.indexAt 81 x16 x18) w_5.drew fun t136 =>
 rd Tryz.prog (Instr.fieldAt 87 t136 0) w_5.drew fun t137 =>
 ldR Tryz.prog 3 t137 w_5.drew fun t138 =>
 rd Tryz.prog (Instr.indexAt 81 x16 x18) w_5.drew fun t141 =>
 rd Tryz.prog (Instr.fieldAt 87 t141 1) w_5.drew fun t142 =>
 ldR Tryz.prog 33 t142 w_5.drew fun t143 =>
 rd Tryz.prog (Instr.indexAt 72 x11 t138) w_5.drew fun t144 =>
 stS Tryz.prog 33 t144 t143 w_5.drew fun w_6 =>
 ev Tryz.prog (binM .add 3 (.tmp 100) (.const (.int .i64 1)) x100 (.int .i64 1)) w_6 fun t145 w_7 =>
 E2 t145 w_7)
theorem f5_k5_eq (K : K1) (E1 : VP1) (E2 : VP1) (x2 x3 x7 x9 x10 x11 x14 x16 x18 x19 x47 x48 x49 x99 x100 : Value) (w : World) : f5_k5 K E1 E2 x2 x3 x7 x9 x10 x11 x14 x16 x18 x19 x47 x48 x49 x99 x100 w = f5_k5_t x2 x3 x7 x9 x10 x11 x14 x16 x18 x19 x47 x48 x49 x99 x100 K E1 E2 w := cutE fun σ => by kernel_rfl
def f5_k6_t (x2 x3 x7 x9 x10 x11 x20 x21 x47 x48 x49 : Value) (K : K1) (E1 : VP1) (E2 : VP2) (w : World) : Prop :=
 ev Tryz.prog (binM .sub 3 (.tmp 154) (.const (.int .i64 1)) x21 (.int .i64 1)) w fun t155 w_1 =>
 E2 x20 t155 w_1
theorem f5_k6_eq (K : K1) (E1 : VP1) (E2 : VP2) (x2 x3 x7 x9 x10 x11 x20 x21 x47 x48 x49 : Value) (w : World) : f5_k6 K E1 E2 x2 x3 x7 x9 x10 x11 x20 x21 x47 x48 x49 w = f5_k6_t x2 x3 x7 x9 x10 x11 x20 x21 x47 x48 x49 K E1 E2 w := cutE fun σ => by kernel_rfl
def f5_t (x0 x1 x2 : Value) (K : K1) (w : World) : Prop :=
 ev Tryz.prog (Instr.box 67 x0) w fun t3 w_1 =>
 callS Tryz.prog 12 (pA #[]) w_1 fun t26 w_2 =>
 ev Tryz.prog (Op.unary .not t26) w_2 fun t27 w_3 =>
 gd t27 false (fun k => k x1 w_3) w_3 fun t29 w_4 =>
 gd t27 false (fun k => bltS Tryz.prog .len #[68] 3 #[false] #[t29] w_4 k) w_4 fun t30 w_5 =>
 gd t27 false (fun k => ev Tryz.prog (binM .gtr 3 (.tmp 30) (.const (.int .i64 12)) t30 (.int .i64 12)) w_5 k) w_5 fun t31 w_6 =>
 pickS t27 (.bool true) t31 w_6 fun t32 w_7 =>
 cndS t32 (
 callS Tryz.prog 12 (pA #[]) w_7 fun t33 w_8 =>
 K t33 w_8) (
 ldS Tryz.prog 67 t3 w_7 fun t35 w_9 =>
 callS Tryz.prog 33 (pA #[t35]) w_9 fun t36 w_10 =>
 ev Tryz.prog (Instr.extract t36 0) w_10 fun t37 w_11 =>
 ev Tryz.prog (Instr.extract t36 1) w_11 fun t38 w_12 =>
 ev Tryz.prog (Instr.extract t36 2) w_12 fun t39 w_13 =>
 ev Tryz.prog (Instr.alloc 58 true (.tuple #[])) w_13 fun t7 w_14 =>
 stS Tryz.prog 58 t7 t37 w_14 fun w_15 =>
 ev Tryz.prog (binM .eql 48 (.tmp 40) (.const (.pointer none)) t39 (.pointer none)) w_15 fun t41 w_16 =>
 cndS t41 (
 K (.bool false) w_16) (
 ldS Tryz.prog 67 t3 w_16 fun t42 w_17 =>
 callS Tryz.prog 34 (pA #[t42]) w_17 fun t43 w_18 =>
 ev Tryz.prog (Instr.alloc 24 true (.tuple #[])) w_18 fun t10 w_19 =>
 stS Tryz.prog 24 t10 t43 w_19 fun w_20 =>
 ldR Tryz.prog 24 t10 w_20.drew fun t45 =>
 ev Tryz.prog (Instr.makeSlice 72 (.int .i64 256) (.int .i64 256)) w_20.drew fun t44 w_21 =>
 (ldG Tryz.prog 24 t10 w_21 t45) ∧
 callS Tryz.prog 35 (pA #[t44, t45]) w_21 fun t46 w_22 =>
 bltS Tryz.prog .len #[68] 3 #[false] #[x1] w_22 fun t48 w_23 =>
 f5_l1 K x2 t3 t7 t39 t10 t46 x1 t48 (.int .i64 0) w_23))
theorem f5_call (x0 x1 x2 : Value) (K : K1) (w : World) (h : f5_t x0 x1 x2 K w) : callS Tryz.prog 5 #[x0, x1, x2] w K :=
  call_of_txt (args := [x0, x1, x2]) mixed Tryz.func5 f5_u.2 (by kernel_rfl) (cast (by kernel_rfl) h)
end Go.Proofs.YtaeopkhdokaaoaaGreatDoor
namespace Go.Proofs.YtaeopkhdokaaoaaGreatDoor
open Go Go.Sh
set_option maxRecDepth 100000
set_option maxHeartbeats 4000000
set_option linter.unusedSimpArgs false
set_option linter.unusedVariables false
theorem eqWr (x y : Operand) (a b : Nat) (w : World) : (binM .neq 37 x y (.agg #[.int .u64 (a : Int), .int .u64 (b : Int)]) (.agg #[.int .u64 (a : Int), .int .u64 (b : Int)])).run Tryz.prog w = .ok (.bool false) w := by
  have h := run_st_neq (P := Tryz.prog) (t := 37) (n := 2) (by kernel_rfl) x y [.int .u64 (a : Int), .int .u64 (b : Int)] [.int .u64 (a : Int), .int .u64 (b : Int)] rfl (by simp [kin]) w
  have e : eqL [Value.int .u64 (a : Int), .int .u64 (b : Int)] [.int .u64 (a : Int), .int .u64 (b : Int)] = true := by simp [eqL]
  rw [e] at h
  exact h
theorem rdWr (x y : Operand) (a b : Nat) (w : World) (k : Value → Prop) : rd Tryz.prog (binM .neq 37 x y (.agg #[.int .u64 (a : Int), .int .u64 (b : Int)]) (.agg #[.int .u64 (a : Int), .int .u64 (b : Int)])) w k = k (.bool false) := rd_of_run (eqWr x y a b w) k
def hdF (c o : Int) (g : Nat) (j : Nat) : Value := [Value.int .i64 c, .int .i64 o, .int .u16 (g : Int)].getD j undef
section
variable {w0 w w' : World} {Y Y' : Lay} {D D' : DS} {B l k T H mb mo mc : Nat} {c o : Int} {g : Nat} {K : K1} {E1 E2 : VP1}
theorem act_in (c0 : 0 ≤ c) (c5 : c < 5) {L M : List Int} {ks : List Nat} {ws : List (Nat × Nat)} (ha : ActA c L ks M) (hs : actN D l c L ks M = some ws) : ∀ x ∈ ws, ∃ q, q < 256 ∧ x.1 = l * 64 + q * 8 := by
  obtain ⟨h1, h2, h3⟩ := actN_spec ha.len hs
  have vL := ha.vL
  have vM := ha.vM
  have bdi : ∀ x : Int, 0 ≤ x ∧ x < perS c → offN c x.toNat < 256 := fun x hx => (offN_bd c0 c5 (i := x.toNat) (by omega)).2.2
  intro y hy
  rcases h3 with ⟨rfl, _⟩ | rfl
  · cases hy
  · simp only [List.mem_append, List.mem_map, List.mem_singleton] at hy
    rcases hy with (hy | ⟨x, hx, rfl⟩) | rfl
    · obtain ⟨x, hx, k, hk, e, _⟩ := zipW_mem hy
      subst e
      exact ⟨offN c x.toNat, bdi x (vL x hx), rfl⟩
    · exact ⟨offN c x.toNat, bdi x (vM x hx), rfl⟩
    · exact ⟨1, by omega, rfl⟩
theorem wd_store (on : On D) {q : Nat} (hq : q < 256) (hl : l + 32 ≤ D.n) (v j : Nat) : wd (D.store 0 (l * 64 + q * 8) v) l j = if j = q then v else wd D l j := by
  have hv : vOff D (l * 64 + q * 8) = true := by unfold vOff; rw [decide_eq_true (by omega), decide_eq_true (by omega)]; rfl
  unfold wd
  rw [on.storeCur _ _ hv]
  simp only
  by_cases h : j = q
  · subst h; rw [if_pos (by omega), if_pos rfl]
  · rw [if_neg (by omega), if_neg h]
structure PlS (w0 w : World) (Y : Lay) (D : DS) (B l : Nat) (c o : Int) (g T H mb mo mc : Nat) : Prop where
  h : Loc w0 w Y D B l c o g
  tb : Y.tb 0 = T
  m : SlO w 33 1 (wsV mb mo mc) 256 (wdL (wd D l) 256)
  om : w0.heap.size ≤ mb ∧ ¬ Y.F mb ∧ mb ≠ B
  hd : Cells w H 24 3 (hdF c o g)
  oh : w0.heap.size ≤ H ∧ ¬ Y.F H ∧ H ≠ B ∧ H ≠ mb
theorem PlS.ext (p : PlS w0 w Y D B l c o g T H mb mo mc) (e : Ext w w') : PlS w0 w' Y D B l c o g T H mb mo mc := ⟨p.h.ext e, p.tb, p.m.ext e, p.om, p.hd.ext e, p.oh⟩
theorem PlS.ltm (p : PlS w0 w Y D B l c o g T H mb mo mc) : mb < w.heap.size := p.m.lt rfl
theorem PlS.wm (p : PlS w0 w Y D B l c o g T H mb mo mc) : Wm w mb mo (wd D l) := Wm.of_sl p.m
theorem PlS.wr (p : PlS w0 w Y D B l c o g T H mb mo mc) {w1 : World} {Y1 : Lay} {D1 : DS} (st : Stp w Y w1 Y1 D1) (gd : Good D1) (on : On D1) (hn : D1.n = D.n) {q v : Nat} (hq : q < 256) (hD : ∀ j, wd D1 l j = if j = q then v else wd D l j) :
    PlS w0 (w1.setCell ⟨mb, mo + q, none⟩ (u64 v)) Y1 D1 B l c o g T H mb mo mc := by
  have hm1 : ¬ Y1.F mb := fun hf => by
    rcases st.fr mb hf with h1 | h1
    · exact p.om.2.1 h1
    · have := p.ltm; omega
  have hH1 : ¬ Y1.F H := fun hf => by
    rcases st.fr H hf with h1 | h1
    · exact p.oh.2.1 h1
    · have := p.hd.lt; omega
  have m1 := SlO.upd (p.m.frm st.frm (fun b hb => by injection hb with hb; subst hb; exact p.om.2.1)) (u64 v) hq
  rw [wdL_set, wdL_congr (V := wd D1 l) (fun i _ => (hD i).symm)] at m1
  exact ⟨(p.h.step st gd on hn).frm (Frm.one w1 mb (mo + q) (u64 v)) (fun b hb => by subst hb; exact ⟨p.om.1, hm1, p.om.2.2⟩), by rw [st.tb]; exact p.tb, m1, ⟨p.om.1, hm1, p.om.2.2⟩, (p.hd.frm st.frm p.oh.2.1).set_ne _ p.oh.2.2.2, ⟨p.oh.1, hH1, p.oh.2.2⟩⟩
theorem pl_k5 (p : PlS w0 w Y D B l c o g T H mb mo mc) {A : Nat} {ws : List (Nat × Nat)} {u v : Value} (hu : SlO w 37 2 u ws.length (wrL ws)) (ou : Out w0 Y B u) (nu : ∀ b, u.ownBlock = some b → b ≠ mb) (hv : SlO w 87 2 v ws.length (rwL l ws)) (ov : Out w0 Y B v) (nv : ∀ b, v.ownBlock = some b → b ≠ mb) {k q xv : Nat} (hk : ws[k]? = some (l * 64 + q * 8, xv)) (hq : q < 256) (hxv : xv < 18446744073709551616) (hwl : ws.length < 1000) (hx : D.exe < 1000000000) {N : Nat} (n0 : w.cell? ⟨N, 0, none⟩ = some (.int .u64 ((64 * l + 8 * q : Nat) : Int))) (n1 : w.cell? ⟨N, 1, none⟩ = some (.int .u64 (xv : Int))) (x2 x47 x48 x49 x99 : Value)
    (HE : ∀ w' Y', PlS w0 w' Y' (D.store 0 (l * 64 + q * 8) xv) B l c o g T H mb mo mc → SlO w' 37 2 u ws.length (wrL ws) → Out w0 Y' B u → SlO w' 87 2 v ws.length (rwL l ws) → Out w0 Y' B v → E2 (.int .i64 ((k + 1 : Nat) : Int)) w') :
    f5_k5 K E1 E2 x2 (.pointer (some ⟨A, 0, none⟩)) (.pointer (some ⟨B, 0, none⟩)) (.pointer (some ⟨T, 0, none⟩)) (.pointer (some ⟨H, 0, none⟩)) (wsV mb mo mc) u v (.int .i64 (k : Int)) (.pointer (some ⟨N, 0, none⟩)) x47 x48 x49 x99 (.int .i64 (k : Int)) w := by
  have hkl := (List.getElem?_eq_some_iff.1 hk).1
  have hlt := p.h.lt; have hnn := p.h.L.gd.n
  have hwk : ws[k] = (l * 64 + q * 8, xv) := by rw [List.getElem?_eq_getElem hkl] at hk; exact Option.some.inj hk
  have e64 : l * 64 + q * 8 = 64 * l + 8 * q := by omega
  have hD := wd_store (l := l) p.h.on hq hlt xv
  have hgd : Good (D.store 0 (l * 64 + q * 8) xv) := by
    have := strs_good p.h.L.gd (ws := [(l * 64 + q * 8, xv)]) (fun x hx => by simp only [List.mem_singleton] at hx; subst hx; exact ⟨by simp only; omega, hxv⟩)
    exact this
  have hon : On (D.store 0 (l * 64 + q * 8) xv) := p.h.on.storeOn _ _ (by unfold vOff; rw [decide_eq_true (by omega), decide_eq_true (by omega)]; rfl)
  have hn := store_n D 0 (l * 64 + q * 8) xv
  rw [e64] at HE hD hgd hon hn
  have hcu := wr_cells hu hkl
  rw [hwk, e64] at hcu
  obtain ⟨ub, uo, uc, rfl, hc1, hc2⟩ := hcu
  simp only at hc1 hc2
  have hvi := hv.isS (by omega)
  obtain ⟨vb, vo, vc, rfl, _⟩ := hvi
  have hgv := rwL_get l ws k _ hk
  have hq1 : (64 * l + 8 * q - l * 64) / 8 = q := by omega
  simp only at hgv
  rw [e64, hq1] at hgv
  have lt0 := lt_of_cell n0
  have lt1 := lt_of_cell hc1
  have hT := p.tb
  have hmm := p.m
  rw [f5_k5_eq]
  unfold f5_k5_t
  (repeat' (first | (with_reducible refine brS_mk (fun _ => ?_) (fun _ => ?_)) | (with_reducible refine And.intro ?_ ?_) | (simp (disch := first | omega | simp only [RO] | (simp only [RZ] <;> omega) | (with_reducible (repeat (first | assumption | exact Ext.refl _ | refine Ext.alloc ?_ _ | refine Ext.drew ?_ | refine Ext.trans ?_ (by assumption)))) | fail) only [↓RBp, ↓RA, ↓reduceIte, Nat.reduceAdd, Nat.reduceMul, Nat.reduceEqDiff, RB, RX, RA2, hc1, hc2, n0, n1, rdWr, Int.toNat_natCast])))
  rw [← hT]
  refine k_Store (p.h.L.dv.ext (by repeat (first | (with_reducible first | refine Sh.eB ?_ (by first | omega | (simp only [RZ] <;> omega)) _ | assumption | exact Sh.eR _ | refine Sh.eA ?_ _ | refine Sh.eD ?_ | refine Sh.eT ?_ (by assumption)) | exact Sh.eR _))) p.h.L.gd 0 (by omega) (64 * l + 8 * q) xv (by omega) _ (fun w1 Y1 st => ?_)
  have st0 : Stp w Y w1 Y1 (D.store 0 (64 * l + 8 * q) xv) := Stp.pre (by repeat (first | (with_reducible first | refine Sh.eB ?_ (by first | omega | (simp only [RZ] <;> omega)) _ | assumption | exact Sh.eR _ | refine Sh.eA ?_ _ | refine Sh.eD ?_ | refine Sh.eT ?_ (by assumption)) | exact Sh.eR _)) (fun b hb => p.h.L.dv.lt hb) st
  have su := ou.step hu st0
  have sv := ov.step hv st0
  have p1 := p.wr st0 hgd hon hn hq hD
  have m1 := p.m.frm st0.frm (fun b hb => by injection hb with hb; subst hb; exact p.om.2.1)
  have hfz := fun i => m1.frz (b := mb) rfl i
  have hcm := m1.cell rfl (wdL_get (W := wd D l) (n := 256) (j := q) hq)
  have v1 := sv.2.cell rfl hgv.1
  have v2 := sv.2.cell rfl hgv.2
  rw [← Nat.add_assoc] at v2
  have su2 := su.2.of_heap (w' := w1.setCell ⟨mb, mo + q, none⟩ (u64 xv)) (fun b hb => heap_set_ne _ (nu b hb))
  have sv2 := sv.2.of_heap (w' := w1.setCell ⟨mb, mo + q, none⟩ (u64 xv)) (fun b hb => heap_set_ne _ (nv b hb))
  (repeat' (first | (with_reducible refine brS_mk (fun _ => ?_) (fun _ => ?_)) | (with_reducible refine And.intro ?_ ?_) | (simp (disch := first | omega | simp only [RO] | (simp only [RZ] <;> omega) | (with_reducible (repeat (first | assumption | exact Ext.refl _ | refine Ext.alloc ?_ _ | refine Ext.drew ?_ | refine Ext.trans ?_ (by assumption)))) | fail) only [↓RBp, ↓RA, ↓reduceIte, Nat.reduceAdd, Nat.reduceMul, Nat.reduceEqDiff, RB, RX, RA2, v1, v2, hfz, hcm, Int.toNat_natCast])))
  exact HE _ Y1 (p1.ext (Ext.drew (Ext.refl _))) (su2.ext (Ext.drew (Ext.refl _))) su.1 (sv2.ext (Ext.drew (Ext.refl _))) sv.1
theorem pl_l2 (p : PlS w0 w Y D B l c o g T H mb mo mc) {A fa fb fc fg : Nat} (hfa : fa < 256) (hl : fa % 9 = l) (hfm : fmC w0 A fa fb fc fg) {ws : List (Nat × Nat)} {u v : Value} (hu : SlO w 37 2 u ws.length (wrL ws)) (ou : Out w0 Y B u) (nu : ∀ b, u.ownBlock = some b → b ≠ mb) (hv : SlO w 87 2 v ws.length (rwL l ws)) (ov : Out w0 Y B v) (nv : ∀ b, v.ownBlock = some b → b ≠ mb) (hok : ∀ x ∈ ws, x.2 < 18446744073709551616 ∧ ∃ q, q < 256 ∧ x.1 = l * 64 + q * 8) (hwl : ws.length < 1000) (hx : D.exe < 100000000) (x2 x47 x48 x49 : Value)
    (HE : ∀ w' Y', PlS w0 w' Y' (D.strs ws) B l c o g T H mb mo mc → f5_k3 K E1 x2 (.pointer (some ⟨A, 0, none⟩)) (.pointer (some ⟨B, 0, none⟩)) (.pointer (some ⟨T, 0, none⟩)) (.pointer (some ⟨H, 0, none⟩)) (wsV mb mo mc) x47 x48 x49 w') :
    f5_l2 K E1 x2 (.pointer (some ⟨A, 0, none⟩)) (.pointer (some ⟨B, 0, none⟩)) (.pointer (some ⟨T, 0, none⟩)) (.pointer (some ⟨H, 0, none⟩)) (wsV mb mo mc) u v x47 x48 x49 (.int .i64 (ws.length : Int)) (.int .i64 0) w := by
  have hli := fun w1 K => c_fline fa fb fc fg hfa w1 K
  rw [hl] at hli
  have hl9 : l < 9 := by omega
  have xt : ∀ j, (D.strs (ws.take j)).exe ≤ D.exe + ws.length := fun j => by
    have := strs_exe D (ws.take j); rw [List.length_take] at this
    have := Nat.min_le_right j ws.length; omega
  apply f5_l2_rule (I := fun z w' => ∃ (k : Nat) (Y' : Lay), z = .int .i64 (k : Int) ∧ k ≤ ws.length ∧ PlS w0 w' Y' (D.strs (ws.take k)) B l c o g T H mb mo mc ∧ SlO w' 37 2 u ws.length (wrL ws) ∧ Out w0 Y' B u ∧ SlO w' 87 2 v ws.length (rwL l ws) ∧ Out w0 Y' B v) (μ := fun z _ => ws.length - (Go.RowKit.intOf z).toNat)
  · exact ⟨0, Y, rfl, by omega, by rw [strs_zero]; exact p, hu, ou, hv, ov⟩
  · intros; rename_i w1 hI E3 hE
    obtain ⟨k, Y1, rfl, hkl, p1, hu1, ou1, hv1, ov1⟩ := hI
    by_cases hk : k < ws.length
    · obtain ⟨x, hx1⟩ : ∃ x, ws[k]? = some x := ⟨_, List.getElem?_eq_getElem hk⟩
      obtain ⟨hxv, q, hq, hxo⟩ := hok x (List.mem_of_getElem? hx1)
      have hgv := rwL_get l ws k _ hx1
      obtain ⟨xo, xv⟩ := x
      simp only at hxv hxo hgv
      subst hxo
      have htk := strs_take (D := D) hx1
      simp only at htk
      have xk := xt k
      rw [show (l * 64 + q * 8 - l * 64) / 8 = q by omega] at hgv
      have hvi := hv1.isS (by omega)
      obtain ⟨vb, vo, vc, rfl, _⟩ := hvi
      have v1 := hv1.cell rfl hgv.1
      have v2 := hv1.cell rfl hgv.2
      rw [← Nat.add_assoc] at v2
      have a0 := p1.h.L.ex.cell_some hfm.1; have a1 := p1.h.L.ex.cell_some hfm.2.1; have a2 := p1.h.L.ex.cell_some hfm.2.2.1; have a3 := p1.h.L.ex.cell_some hfm.2.2.2
      have ltA := lt_of_cell a0
      have ltv := lt_of_cell v1
      have fin : ∀ (w2 : World) (N : Nat), Ext w1 w2 → w2.cell? ⟨N, 0, none⟩ = some (.int .u64 ((64 * l + 8 * q : Nat) : Int)) → w2.cell? ⟨N, 1, none⟩ = some (.int .u64 (xv : Int)) → f5_k5 K E1 E3 x2 (.pointer (some ⟨A, 0, none⟩)) (.pointer (some ⟨B, 0, none⟩)) (.pointer (some ⟨T, 0, none⟩)) (.pointer (some ⟨H, 0, none⟩)) (wsV mb mo mc) u (.slice (some ⟨vb, vo, none⟩) ws.length vc) (.int .i64 (k : Int)) (.pointer (some ⟨N, 0, none⟩)) x47 x48 x49 (.int .i64 (ws.length : Int)) (.int .i64 (k : Int)) w2 := by
        intro w2 N e2 n0 n1
        refine pl_k5 (p1.ext e2) (hu1.ext e2) ou1 nu (hv1.ext e2) ov1 nv hx1 hq hxv hwl (by omega) n0 n1 _ _ _ _ _ (fun w3 Y3 p3 hu3 ou3 hv3 ov3 => ?_)
        apply hE
        · exact ⟨k + 1, Y3, rfl, by omega, by rw [htk]; exact p3, hu3, ou3, hv3, ov3⟩
        · simp [Go.RowKit.intOf]; omega
      have agB := fun (w : World) (z : Value) => ag_of_run (P := Tryz.prog) (build_37_0_1 (.int .u64 ((64 * l + 8 * q : Nat) : Int)) (.int .u64 (xv : Int)) rfl rfl w) z
      unfold f5_l2_t
      (repeat' (first | (with_reducible refine brS_mk (fun _ => ?_) (fun _ => ?_)) | (with_reducible refine And.intro ?_ ?_) | (simp (disch := first | omega | simp only [RO] | (simp only [RZ] <;> omega) | (with_reducible (repeat (first | assumption | exact Ext.refl _ | refine Ext.alloc ?_ _ | refine Ext.drew ?_ | refine Ext.trans ?_ (by assumption)))) | fail) only [↓RBp, ↓RA, ↓reduceIte, Nat.reduceAdd, Nat.reduceMul, Nat.reduceEqDiff, RB, RX, RA2, v1, v2, a0, a1, a2, a3, hli, agB])))
      all_goals refine fin _ _ (by repeat (first | (with_reducible first | refine Sh.eB ?_ (by first | omega | (simp only [RZ] <;> omega)) _ | assumption | exact Sh.eR _ | refine Sh.eA ?_ _ | refine Sh.eD ?_ | refine Sh.eT ?_ (by assumption)) | exact Sh.eR _)) ?_ ?_
      all_goals first | (rw [cell_drew, cell_new _ _ _ _ _ (by simp only [RZ])]; rfl) | (rw [cell_drew, cell_old _ _ _ _ (by simp only [RZ]; omega), cell_new _ _ _ _ _ rfl]; rfl)
    · have : k = ws.length := by omega
      subst this
      rw [List.take_length] at p1
      unfold f5_l2_t
      simp (disch := first | omega | simp only [RO] | (simp only [RZ] <;> omega) | fail) only [↓RBp, ↓RA, ↓reduceIte, Nat.reduceAdd, Nat.reduceMul, Nat.reduceEqDiff, RB, RX, RA2]
      exact HE _ _ p1
end
end Go.Proofs.YtaeopkhdokaaoaaGreatDoor
namespace Go.Proofs.YtaeopkhdokaaoaaGreatDoor
open Go Go.Sh
set_option maxRecDepth 100000
set_option maxHeartbeats 4000000
set_option linter.unusedSimpArgs false
set_option linter.unusedVariables false
section
variable {w0 w w' : World} {Y Y' : Lay} {D D' : DS} {B l k T H mb mo mc : Nat} {c o : Int} {g : Nat} {K : K1} {E1 E2 : VP1}
theorem pl_l3 (p : PlS w0 w Y D B l c o g T H mb mo mc) {A n : Nat} (hn : perS c = (n : Int)) (i : Int) (x47 x48 x49 : Value)
    (HE : ∀ w', Ext w w' → f5_k4 K E1 (.int .i64 i) (.pointer (some ⟨A, 0, none⟩)) (.pointer (some ⟨B, 0, none⟩)) (.pointer (some ⟨T, 0, none⟩)) (.pointer (some ⟨H, 0, none⟩)) (wsV mb mo mc) (.int .i64 (frN (wd D l 1) (n - i.toNat) i.toNat)) x47 x48 x49 w') :
    f5_l3 K E1 (.int .i64 i) (.pointer (some ⟨A, 0, none⟩)) (.pointer (some ⟨B, 0, none⟩)) (.pointer (some ⟨T, 0, none⟩)) (.pointer (some ⟨H, 0, none⟩)) (wsV mb mo mc) (.int .i64 (-1)) (.int .i64 ((n : Int) - 1)) x47 x48 x49 w := by
  have hp := perS_in p.h.c0 p.h.c5
  have hw1 : wd D l 1 < 18446744073709551616 := by unfold wd; exact p.h.L.gd.cur _ (by have := p.h.lt; omega)
  have hmx : (if i < 0 then (0 : Int) else i) = (i.toNat : Int) := by split <;> omega
  have hbit : ∀ (j : Nat) (w1 : World) (K : K1), j < 64 → Ext w w1 → callS Tryz.prog 42 #[wsV mb mo mc, .int .i64 (j : Int)] w1 K = K (.bool (bitB (wd D l 1) j)) w1 := fun j w1 K hj e => c_rBit (p.wm.ext e) hw1 j hj K
  generalize wd D l 1 = y at *
  generalize hsi : i.toNat = s at *
  apply f5_l3_rule (I := fun x z w' => ∃ m : Nat, z = .int .i64 ((m : Int) - 1) ∧ m ≤ n ∧ (s ≤ m ∨ m = n) ∧ x = .int .i64 (frN y (n - m) m) ∧ Ext w w') (μ := fun _ z _ => (Go.RowKit.intOf z + 1).toNat)
  · exact ⟨n, rfl, by omega, .inr rfl, by rw [Nat.sub_self]; rfl, Ext.refl _⟩
  · intros; rename_i x20 z w1 hI E3 hE
    obtain ⟨m, rfl, hmn, hsm, rfl, e1⟩ := hI
    by_cases hm : s + 1 ≤ m
    · obtain ⟨q, rfl⟩ : ∃ q, m = q + 1 := ⟨m - 1, by omega⟩
      have f0 : (((q + 1 : Nat) : Int) - 1) = (q : Int) := by omega
      have hb := fun (w1 : World) (K : K1) e => hbit q w1 K (by omega) e
      have hfr : frN y (n - q) q = if bitB y q = true then frN y (n - (q + 1)) (q + 1) else (q : Int) := by
        rw [show n - q = (n - (q + 1)) + 1 by omega]; rfl
      cases hbq : bitB y q with
      | true =>
        rw [hbq] at hb hfr
        rw [if_pos rfl] at hfr
        rw [f0]
        unfold f5_l3_t
        simp (disch := first | omega | simp only [RO] | (simp only [RZ] <;> omega) | (with_reducible (repeat (first | assumption | exact Ext.refl _ | refine Ext.alloc ?_ _ | refine Ext.drew ?_ | refine Ext.trans ?_ (by assumption)))) | fail) only [↓RBp, ↓RA, ↓reduceIte, Nat.reduceAdd, Nat.reduceMul, Nat.reduceEqDiff, RB, RX, RA2, hmx, hb, f5_k6_eq, f5_k6_t]
        apply hE
        · exact ⟨q, rfl, by omega, .inl (by omega), by rw [hfr], e1⟩
        · simp [Go.RowKit.intOf]
      | false =>
        rw [hbq] at hb hfr
        rw [if_neg (by simp)] at hfr
        rw [f0]
        unfold f5_l3_t
        simp (disch := first | omega | simp only [RO] | (simp only [RZ] <;> omega) | (with_reducible (repeat (first | assumption | exact Ext.refl _ | refine Ext.alloc ?_ _ | refine Ext.drew ?_ | refine Ext.trans ?_ (by assumption)))) | fail) only [↓RBp, ↓RA, ↓reduceIte, Nat.reduceAdd, Nat.reduceMul, Nat.reduceEqDiff, RB, RX, RA2, hmx, hb, f5_k6_eq, f5_k6_t]
        apply hE
        · exact ⟨q, rfl, by omega, .inl (by omega), by rw [hfr], e1⟩
        · simp [Go.RowKit.intOf]
    · have hfin : frN y (n - m) m = frN y (n - s) s := by
        rcases hsm with h | h
        · rw [show m = s by omega]
        · subst h
          rw [Nat.sub_self, show m - s = 0 by omega]; rfl
      rw [hfin]
      unfold f5_l3_t
      simp (disch := first | omega | simp only [RO] | (simp only [RZ] <;> omega) | fail) only [↓RBp, ↓RA, ↓reduceIte, Nat.reduceAdd, Nat.reduceMul, Nat.reduceEqDiff, RB, RX, RA2, hmx]
      exact HE _ e1
theorem pl_k4 (p : PlS w0 w Y D B l c o g T H mb mo mc) (hs : Snd D l c o) {A n : Nat} (hn : perS c = (n : Int)) (i : Int) (x47 x48 : Value) (j : Nat) (hj : j < 1000)
    (HE : ∀ w', Ext w w' → E1 (.int .i64 ((j + 1 : Nat) : Int)) w') :
    f5_k4 K E1 (.int .i64 i) (.pointer (some ⟨A, 0, none⟩)) (.pointer (some ⟨B, 0, none⟩)) (.pointer (some ⟨T, 0, none⟩)) (.pointer (some ⟨H, 0, none⟩)) (wsV mb mo mc) (.int .i64 (frN (wd D l 1) (n - i.toNat) i.toNat)) x47 x48 (.int .i64 (j : Int)) w := by
  have hcc := p.h.c0; have hc5 := p.h.c5
  have hWl : ∀ j, j < 256 → wd D l j < 18446744073709551616 := fun j hj => by unfold wd; exact p.h.L.gd.cur _ (by have := p.h.lt; omega)
  have hcon := hs.con p.h.L.gd p.h.lt hcc hc5
  have cell := fun (w1 : World) (e : Ext w w1) => (p.ext e).h.cells
  have hdc : ∀ (w1 : World) (e : Ext w w1), w1.cell? ⟨H, 0, none⟩ = some (.int .i64 c) := fun w1 e => (p.ext e).hd.cell (i := 0) (by omega)
  have ltB := fun (w1 : World) (e : Ext w w1) => (p.ext e).h.ltB
  have ltH := fun (w1 : World) (e : Ext w w1) => (p.ext e).hd.lt
  have bqs : ∀ b : Bool, (b == b) = true := fun b => by cases b <;> rfl
  have ris : ∀ (s : Nat) (w5 : World) (K : K1), Ext w w5 → (s = 177 ∨ s = 178) → callS Tryz.prog 48 #[wsV mb mo mc, .int .i64 c, .int .i64 i, .int .u32 (s : Int)] w5 K = K (.bool (mkB D l c i s)) w5 := fun s w5 K e hs2 => by rw [c_rIs (p.wm.ext e) hWl hcc hc5 i s K, isR_mk hs s hs2]
  have ris7 := fun w5 K e => ris 177 w5 K e (.inl rfl)
  have ris8 := fun w5 K e => ris 178 w5 K e (.inr rfl)
  have ob1 := cell w (Ext.refl _); have c0 := ob1.1; have c1 := ob1.2.1; have c2 := ob1.2.2.1; have c3 := ob1.2.2.2.1; have c4 := ob1.2.2.2.2
  rw [f5_k4_eq]
  unfold f5_k4_t
  simp (disch := first | omega | simp only [RO] | (simp only [RZ] <;> omega) | fail) only [↓RBp, ↓RA, ↓reduceIte, Nat.reduceAdd, Nat.reduceMul, Nat.reduceEqDiff, RB, RX, RA2, c0, c1, c2, c3, c4]
  refine k_Next (p.h.ext (by repeat (first | (with_reducible first | refine Sh.eB ?_ (by first | omega | (simp only [RZ] <;> omega)) _ | assumption | exact Sh.eR _ | refine Sh.eA ?_ _ | refine Sh.eD ?_ | refine Sh.eT ?_ (by assumption)) | exact Sh.eR _))).cx o g _ (fun w1 e1 => ?_)
  have d0 := hdc w1 e1
  have ltH1 := ltH w1 e1
  simp (disch := first | omega | simp only [RO] | (simp only [RZ] <;> omega) | fail) only [↓RBp, ↓RA, ↓reduceIte, Nat.reduceAdd, Nat.reduceMul, Nat.reduceEqDiff, RB, RX, RA2, d0]
  refine k_rNext (p.wm.ext e1) hWl hs hcc hc5 _ (fun w2 e2 => ?_)
  have e02 := e1.trans e2
  have ob2 := cell w2 e02; have c0 := ob2.1; have c1 := ob2.2.1; have c2 := ob2.2.2.1; have c3 := ob2.2.2.2.1; have c4 := ob2.2.2.2.2
  have d0 := hdc w2 e02
  have ltB2 := ltB w2 e02
  (repeat' (first | (with_reducible refine brS_mk (fun _ => ?_) (fun _ => ?_)) | (with_reducible refine And.intro ?_ ?_) | (simp (disch := first | omega | simp only [RO] | (simp only [RZ] <;> omega) | (with_reducible (repeat (first | assumption | exact Ext.refl _ | refine Ext.alloc ?_ _ | refine Ext.drew ?_ | refine Ext.trans ?_ (by assumption)))) | fail) only [↓RBp, ↓RA, ↓reduceIte, Nat.reduceAdd, Nat.reduceMul, Nat.reduceEqDiff, RB, RX, RA2, c0, c1, c2, c3, c4, d0])))
  refine k_Count (p.h.ext (e02.trans (by repeat (first | (with_reducible first | refine Sh.eB ?_ (by first | omega | (simp only [RZ] <;> omega)) _ | assumption | exact Sh.eR _ | refine Sh.eA ?_ _ | refine Sh.eD ?_ | refine Sh.eT ?_ (by assumption)) | exact Sh.eR _)))).cx o g _ (fun w3 e3 => ?_)
  have e03 := e02.trans (Ext.trans (by repeat (first | (with_reducible first | refine Sh.eB ?_ (by first | omega | (simp only [RZ] <;> omega)) _ | assumption | exact Sh.eR _ | refine Sh.eA ?_ _ | refine Sh.eD ?_ | refine Sh.eT ?_ (by assumption)) | exact Sh.eR _)) e3)
  have d0 := hdc w3 e03
  (repeat' (first | (with_reducible refine brS_mk (fun _ => ?_) (fun _ => ?_)) | (with_reducible refine And.intro ?_ ?_) | (simp (disch := first | omega | simp only [RO] | (simp only [RZ] <;> omega) | (with_reducible (repeat (first | assumption | exact Ext.refl _ | refine Ext.alloc ?_ _ | refine Ext.drew ?_ | refine Ext.trans ?_ (by assumption)))) | fail) only [↓RBp, ↓RA, ↓reduceIte, Nat.reduceAdd, Nat.reduceMul, Nat.reduceEqDiff, RB, RX, RA2, d0])))
  refine k_rCount (p.wm.ext e03) hWl hs hcc hc5 _ (fun w4 e4 => ?_)
  have e04 := e03.trans e4
  have ob3 := cell w4 e04; have c0 := ob3.1; have c1 := ob3.2.1; have c2 := ob3.2.2.1; have c3 := ob3.2.2.2.1; have c4 := ob3.2.2.2.2
  have d0 := hdc w4 e04
  have ltB2 := ltB w4 e04
  (repeat' (first | (with_reducible refine brS_mk (fun _ => ?_) (fun _ => ?_)) | (with_reducible refine And.intro ?_ ?_) | (simp (disch := first | omega | simp only [RO] | (simp only [RZ] <;> omega) | (with_reducible (repeat (first | assumption | exact Ext.refl _ | refine Ext.alloc ?_ _ | refine Ext.drew ?_ | refine Ext.trans ?_ (by assumption)))) | fail) only [↓RBp, ↓RA, ↓reduceIte, Nat.reduceAdd, Nat.reduceMul, Nat.reduceEqDiff, RB, RX, RA2, c0, c1, c2, c3, c4, d0])))
  refine k_Taken (p.h.ext e04).cx o g i _ (fun w5 e5 => ?_)
  have e05 := e04.trans e5
  have ob4 := cell w5 e05; have c0 := ob4.1; have c1 := ob4.2.1; have c2 := ob4.2.2.1; have c3 := ob4.2.2.2.1; have c4 := ob4.2.2.2.2
  have d0 := hdc w5 e05
  have ltB2 := ltB w5 e05
  (repeat' (first | (with_reducible refine brS_mk (fun _ => ?_) (fun _ => ?_)) | (with_reducible refine And.intro ?_ ?_) | (simp (disch := first | omega | simp only [RO] | (simp only [RZ] <;> omega) | (with_reducible (repeat (first | assumption | exact Ext.refl _ | refine Ext.alloc ?_ _ | refine Ext.drew ?_ | refine Ext.trans ?_ (by assumption)))) | fail) only [↓RBp, ↓RA, ↓reduceIte, Nat.reduceAdd, Nat.reduceMul, Nat.reduceEqDiff, RB, RX, RA2, c0, c1, c2, c3, c4, d0, ris7, bqs])))
  refine k_Spent (p.h.ext e05).cx o g i _ (fun w6 e6 => ?_)
  have e06 := e05.trans e6
  have ob5 := cell w6 e06; have c0 := ob5.1; have c1 := ob5.2.1; have c2 := ob5.2.2.1; have c3 := ob5.2.2.2.1; have c4 := ob5.2.2.2.2
  have d0 := hdc w6 e06
  have ltB2 := ltB w6 e06
  (repeat' (first | (with_reducible refine brS_mk (fun _ => ?_) (fun _ => ?_)) | (with_reducible refine And.intro ?_ ?_) | (simp (disch := first | omega | simp only [RO] | (simp only [RZ] <;> omega) | (with_reducible (repeat (first | assumption | exact Ext.refl _ | refine Ext.alloc ?_ _ | refine Ext.drew ?_ | refine Ext.trans ?_ (by assumption)))) | fail) only [↓RBp, ↓RA, ↓reduceIte, Nat.reduceAdd, Nat.reduceMul, Nat.reduceEqDiff, RB, RX, RA2, c0, c1, c2, c3, c4, d0, ris8, bqs])))
  refine k_Free (p.h.ext e06).cx o g i _ (fun w7 e7 => ?_)
  rw [hn, Int.toNat_natCast]
  have e07 := e06.trans e7
  have ob6 := cell w7 e07; have c0 := ob6.1; have c1 := ob6.2.1; have c2 := ob6.2.2.1; have c3 := ob6.2.2.2.1; have c4 := ob6.2.2.2.2
  (repeat' (first | (with_reducible refine brS_mk (fun _ => ?_) (fun _ => ?_)) | (with_reducible refine And.intro ?_ ?_) | (simp (disch := first | omega | simp only [RO] | (simp only [RZ] <;> omega) | (with_reducible (repeat (first | assumption | exact Ext.refl _ | refine Ext.alloc ?_ _ | refine Ext.drew ?_ | refine Ext.trans ?_ (by assumption)))) | fail) only [↓RBp, ↓RA, ↓reduceIte, Nat.reduceAdd, Nat.reduceMul, Nat.reduceEqDiff, RB, RX, RA2, c0, c1, c2, c3, c4, bqs])))
  refine k_Check (p.h.ext e07).cx p.h.on.err o g _ (fun w8 e8 => ?_)
  rw [if_pos hcon]
  have e08 := e07.trans e8
  simp (disch := first | omega | simp only [RO] | (simp only [RZ] <;> omega) | (with_reducible (repeat (first | assumption | exact Ext.refl _ | refine Ext.alloc ?_ _ | refine Ext.drew ?_ | refine Ext.trans ?_ (by assumption)))) | fail) only [↓RBp, ↓RA, ↓reduceIte, Nat.reduceAdd, Nat.reduceMul, Nat.reduceEqDiff, RB, RX, RA2, bqs, f5_k2_eq, f5_k2_t]
  exact HE _ e08
end
end Go.Proofs.YtaeopkhdokaaoaaGreatDoor
namespace Go.Proofs.YtaeopkhdokaaoaaGreatDoor
open Go Go.Sh
set_option maxRecDepth 100000
set_option maxHeartbeats 4000000
set_option linter.unusedSimpArgs false
set_option linter.unusedVariables false
section
variable {w0 w w' : World} {Y Y' : Lay} {D D' : DS} {B l k T H mb mo mc : Nat} {c o : Int} {g : Nat} {K : K1} {E1 E2 : VP1}
theorem pl_k3 (p : PlS w0 w Y D B l c o g T H mb mo mc) (hs : Snd D l c o) {A : Nat} (i : Int) (x47 x48 : Value) (j : Nat) (hj : j < 1000)
    (HE : ∀ w', Ext w w' → E1 (.int .i64 ((j + 1 : Nat) : Int)) w') :
    f5_k3 K E1 (.int .i64 i) (.pointer (some ⟨A, 0, none⟩)) (.pointer (some ⟨B, 0, none⟩)) (.pointer (some ⟨T, 0, none⟩)) (.pointer (some ⟨H, 0, none⟩)) (wsV mb mo mc) x47 x48 (.int .i64 (j : Int)) w := by
  have hp := perS_in p.h.c0 p.h.c5
  obtain ⟨n, hn⟩ : ∃ n : Nat, perS c = (n : Int) := ⟨(perS c).toNat, by omega⟩
  have hrp := c_rPer c
  rw [hn] at hrp
  have d0 : w.cell? ⟨H, 0, none⟩ = some (.int .i64 c) := p.hd.cell (i := 0) (by omega)
  have lth := lt_of_cell d0
  rw [f5_k3_eq]
  unfold f5_k3_t
  simp (disch := first | omega | simp only [RO] | (simp only [RZ] <;> omega) | fail) only [↓RBp, ↓RA, ↓reduceIte, Nat.reduceAdd, Nat.reduceMul, Nat.reduceEqDiff, RB, RX, RA2, d0, hrp]
  refine pl_l3 p hn i x47 x48 _ (fun w1 e1 => ?_)
  exact pl_k4 (p.ext e1) hs hn i x47 x48 j hj (fun w2 e2 => HE w2 (e1.trans e2))
theorem pl_l1 (p : PlS w0 w Y D B l c o g T H mb mo mc) (hs : Snd D l c o) {A fa fb fc fg : Nat} (hfa : fa < 256) (hl : fa % 9 = l) (hfm : fmC w0 A fa fb fc fg) {m : Nat} {v : Value} {al : List (List Int × List Nat × List Int)} (hal : ActsR m w0 v al) (hok : ∀ x ∈ al, actOk x) (hln : al.length ≤ 100) (hx : D.exe ≤ 400) (i : Int) (hK : ∀ w', Ext w0 w' → K (.bool true) w') :
    f5_l1 K (.int .i64 i) (.pointer (some ⟨A, 0, none⟩)) (.pointer (some ⟨B, 0, none⟩)) (.pointer (some ⟨T, 0, none⟩)) (.pointer (some ⟨H, 0, none⟩)) (wsV mb mo mc) v (.int .i64 (al.length : Int)) (.int .i64 0) w := by
  have hli := fun w1 K => c_fline fa fb fc fg hfa w1 K
  rw [hl] at hli
  have hl9 : l < 9 := by omega
  apply f5_l1_rule (I := fun z w' => ∃ (j : Nat) (Y' : Lay) (D' : DS), z = .int .i64 (j : Int) ∧ j ≤ al.length ∧ PlS w0 w' Y' D' B l c o g T H mb mo mc ∧ Snd D' l c o ∧ D'.exe ≤ 400 + 200 * j) (μ := fun z _ => al.length - (Go.RowKit.intOf z).toNat)
  · exact ⟨0, Y, D, rfl, by omega, p, hs, by omega⟩
  · intros; rename_i x52 w1 hI E1 hE
    obtain ⟨j, Y1, D1, rfl, hj, p1, hs1, hx1⟩ := hI
    have h1 := p1.h
    have hcc := h1.c0; have hc5 := h1.c5
    have hWl : ∀ j, j < 256 → wd D1 l j < 18446744073709551616 := fun j hj => by unfold wd; exact h1.L.gd.cur _ (by have := h1.lt; omega)
    have ltm := p1.ltm
    by_cases hjl : j < al.length
    · have hA := hal.ext h1.L.ex
      obtain ⟨av, ac, rfl, hget⟩ := hA
      obtain ⟨b, ob, s1, s2, s3, rfl, hb, q1, q2, q3, r1, r2, r3⟩ := hget j al[j] (List.getElem?_eq_getElem hjl)
      have hoj := hok al[j] (List.getElem_mem hjl)
      generalize al[j] = x at r1 r2 r3 hoj
      obtain ⟨L, ks, M⟩ := x
      obtain ⟨lL, lk, lM, bk⟩ := hoj
      simp only at r1 r2 r3 lL lk lM bk
      obtain ⟨a1, k1, rfl, _⟩ := id r1
      obtain ⟨a2, k2, rfl, _⟩ := id r2
      obtain ⟨a3, k3, rfl, _⟩ := id r3
      rw [show (i64L L).length = L.length by simp] at r1 q1
      rw [show (u8L ks).length = ks.length by simp] at r2 q2
      rw [show (i64L M).length = M.length by simp] at r3 q3
      have hml : maxLen < 9223372036854775808 := by decide
      have hgr := fun w K => c_great a1 a2 a3 L.length ks.length M.length k1 k2 k3 (by omega) (by omega) (by omega) w K
      have hB1 := h1.ltB
      have ob1 := h1.cells; have c0 := ob1.1; have c1 := ob1.2.1; have c2 := ob1.2.2.1; have c3 := ob1.2.2.2.1; have c4 := ob1.2.2.2.2
      have e01 := h1.L.ex
      have tail : ∀ (ws : List (Nat × Nat)) (u v : Value) (w2 : World), Ext w1 w2 → (∀ x ∈ ws, x.2 < 18446744073709551616 ∧ ∃ q, q < 256 ∧ x.1 = l * 64 + q * 8) → ws.length ≤ 150 → SlO w2 37 2 u ws.length (wrL ws) → NewV w1.heap.size u → SlO w2 87 2 v ws.length (rwL l ws) → NewV w1.heap.size v → Snd (D1.strs ws) l c o → f5_l2 K E1 (.int .i64 i) (.pointer (some ⟨A, 0, none⟩)) (.pointer (some ⟨B, 0, none⟩)) (.pointer (some ⟨T, 0, none⟩)) (.pointer (some ⟨H, 0, none⟩)) (wsV mb mo mc) u v (.slice (some ⟨b, ob, none⟩) al.length ac) (.int .i64 (al.length : Int)) (.int .i64 (j : Int)) (.int .i64 (ws.length : Int)) (.int .i64 0) w2 := by
        intro ws u v w2 e2 hwok hwl hu nu hv nv hsn
        refine pl_l2 (p1.ext e2) hfa hl hfm hu (Out.new h1 nu) (fun b hb => by have := nu b hb; omega) hv (Out.new h1 nv) (fun b hb => by have := nv b hb; omega) hwok (by omega) (by omega) _ _ _ _ (fun w3 Y3 p3 => ?_)
        refine pl_k3 p3 hsn i _ _ j (by omega) (fun w4 e4 => ?_)
        apply hE
        · exact ⟨j + 1, Y3, _, rfl, by omega, p3.ext e4, hsn, by have := strs_exe D1 ws; omega⟩
        · simp [Go.RowKit.intOf]; omega
      have hnil : Snd (D1.strs []) l c o := by
        have : D1.strs [] = D1 := strs_zero D1 []
        rw [this]; exact hs1
      by_cases hgt : (decide (70 < L.length) || (decide (70 < ks.length) || decide (70 < M.length))) = true
      · rw [hgt] at hgr
        unfold f5_l1_t
        simp (disch := first | omega | simp only [RO] | (simp only [RZ] <;> omega) | fail) only [↓RBp, ↓RA, ↓reduceIte, Nat.reduceAdd, Nat.reduceMul, Nat.reduceEqDiff, RB, RX, RA2, q1, q2, q3, hgr]
        exact hK _ (e01.trans (by repeat (first | (with_reducible first | refine Sh.eB ?_ (by first | omega | (simp only [RZ] <;> omega)) _ | assumption | exact Sh.eR _ | refine Sh.eA ?_ _ | refine Sh.eD ?_ | refine Sh.eT ?_ (by assumption)) | exact Sh.eR _)))
      · have hgt : (decide (70 < L.length) || (decide (70 < ks.length) || decide (70 < M.length))) = false := by simpa using hgt
        rw [hgt] at hgr
        simp only [Bool.or_eq_false_iff, decide_eq_false_iff_not] at hgt
        have hcells := fun (w2 : World) (e2 : Ext (w1.alloc (acO (.slice a1 L.length k1) (.slice a2 ks.length k2) (.slice a3 M.length k3))) w2) => (Cells.new w1 [.slice a1 L.length k1, .slice a2 ks.length k2, .slice a3 M.length k3] 77).ext e2
        have hf0 : ∀ (w2 : World), Ext w1 w2 → w2.cell? ⟨A, 0, none⟩ = some (.int .u8 (fa : Int)) ∧ w2.cell? ⟨A, 1, none⟩ = some (.int .u8 (fb : Int)) ∧ w2.cell? ⟨A, 2, none⟩ = some (.int .u8 (fc : Int)) ∧ w2.cell? ⟨A, 3, none⟩ = some (.int .u16 (fg : Int)) := fun w2 e2 => ⟨(e01.trans e2).cell_some hfm.1, (e01.trans e2).cell_some hfm.2.1, (e01.trans e2).cell_some hfm.2.2.1, (e01.trans e2).cell_some hfm.2.2.2⟩
        have hd0 : ∀ (w2 : World), Ext w1 w2 → w2.cell? ⟨H, 0, none⟩ = some (.int .i64 c) := fun w2 e2 => (p1.ext e2).hd.cell (i := 0) (by omega)
        have hTb := p1.tb
        unfold f5_l1_t
        simp (disch := first | omega | simp only [RO] | (simp only [RZ] <;> omega) | fail) only [↓RBp, ↓RA, ↓reduceIte, Nat.reduceAdd, Nat.reduceMul, Nat.reduceEqDiff, RB, RX, RA2, q1, q2, q3, hgr, c0, c1, c2, c3, c4]
        refine k_Actions (h1.ext (by repeat (first | (with_reducible first | refine Sh.eB ?_ (by first | omega | (simp only [RZ] <;> omega)) _ | assumption | exact Sh.eR _ | refine Sh.eA ?_ _ | refine Sh.eD ?_ | refine Sh.eT ?_ (by assumption)) | exact Sh.eR _))).cx h1.on.err o g L M ks _ _ _ (r1.ext (by repeat (first | (with_reducible first | refine Sh.eB ?_ (by first | omega | (simp only [RZ] <;> omega)) _ | assumption | exact Sh.eR _ | refine Sh.eA ?_ _ | refine Sh.eD ?_ | refine Sh.eT ?_ (by assumption)) | exact Sh.eR _))) (r2.ext (by repeat (first | (with_reducible first | refine Sh.eB ?_ (by first | omega | (simp only [RZ] <;> omega)) _ | assumption | exact Sh.eR _ | refine Sh.eA ?_ _ | refine Sh.eD ?_ | refine Sh.eT ?_ (by assumption)) | exact Sh.eR _))) (r3.ext (by repeat (first | (with_reducible first | refine Sh.eB ?_ (by first | omega | (simp only [RZ] <;> omega)) _ | assumption | exact Sh.eR _ | refine Sh.eA ?_ _ | refine Sh.eD ?_ | refine Sh.eT ?_ (by assumption)) | exact Sh.eR _))) (by omega) (by omega) (by omega) bk _ (fun hb1 w2 e2 => ?_) (fun ha hn1 w2 e2 => ?_) (fun ha ws hws v' w2 e2 hnv hsl => ?_)
        · have ea : Ext (w1.alloc (acO (.slice a1 L.length k1) (.slice a2 ks.length k2) (.slice a3 M.length k3))) w2 := Ext.trans (by repeat (first | (with_reducible first | refine Sh.eB ?_ (by first | omega | (simp only [RZ] <;> omega)) _ | assumption | exact Sh.eR _ | refine Sh.eA ?_ _ | refine Sh.eD ?_ | refine Sh.eT ?_ (by assumption)) | exact Sh.eR _)) e2
          have e12 : Ext w1 w2 := Ext.trans (by repeat (first | (with_reducible first | refine Sh.eB ?_ (by first | omega | (simp only [RZ] <;> omega)) _ | assumption | exact Sh.eR _ | refine Sh.eA ?_ _ | refine Sh.eD ?_ | refine Sh.eT ?_ (by assumption)) | exact Sh.eR _)) ea
          have t0 : w2.cell? ⟨w1.heap.size, 0, none⟩ = some (.slice a1 L.length k1) := (hcells w2 ea).cell (i := 0) (by simp)
          have t1 : w2.cell? ⟨w1.heap.size, 1, none⟩ = some (.slice a2 ks.length k2) := (hcells w2 ea).cell (i := 1) (by simp)
          have t2 : w2.cell? ⟨w1.heap.size, 2, none⟩ = some (.slice a3 M.length k3) := (hcells w2 ea).cell (i := 2) (by simp)
          have ltt := lt_of_cell t0
          have d0 := hd0 w2 e12
          have ltd := lt_of_cell d0
          simp (disch := first | omega | simp only [RO] | (simp only [RZ] <;> omega) | fail) only [↓RBp, ↓RA, ↓reduceIte, Nat.reduceAdd, Nat.reduceMul, Nat.reduceEqDiff, RB, RX, RA2, t0, t1, t2, d0]
          refine k_rActions (p1.ext e12).wm hWl hs1 hcc hc5 L M ks _ _ _ (r1.ext e12) (r2.ext e12) (r3.ext e12) (by omega) (by omega) (by omega) bk _ (fun _ w3 e3 => ?_) (fun ha _ _ _ => absurd ha hb1) (fun ha _ _ _ _ _ _ _ => absurd ha hb1)
          have e13 := e12.trans e3
          have ob2 := hf0 w3 e13; have f0 := ob2.1; have f1 := ob2.2.1; have f2 := ob2.2.2.1; have f3 := ob2.2.2.2
          have ltf := lt_of_cell f0
          simp (disch := first | omega | simp only [RO] | (simp only [RZ] <;> omega) | fail) only [↓RBp, ↓RA, ↓reduceIte, Nat.reduceAdd, Nat.reduceMul, Nat.reduceEqDiff, RB, RX, RA2, f0, f1, f2, f3, hli]
          rw [← hTb]
          refine k_words ((h1.ext e13).L.dv.ext (by repeat (first | (with_reducible first | refine Sh.eB ?_ (by first | omega | (simp only [RZ] <;> omega)) _ | assumption | exact Sh.eR _ | refine Sh.eA ?_ _ | refine Sh.eD ?_ | refine Sh.eT ?_ (by assumption)) | exact Sh.eR _))) h1.L.gd h1.on.off h1.lt _ (fun bw ow cw w4 hsl e4 hbw => ?_)
          have e14 := e13.trans (Ext.trans (by repeat (first | (with_reducible first | refine Sh.eB ?_ (by first | omega | (simp only [RZ] <;> omega)) _ | assumption | exact Sh.eR _ | refine Sh.eA ?_ _ | refine Sh.eD ?_ | refine Sh.eT ?_ (by assumption)) | exact Sh.eR _)) e4)
          simp (disch := first | omega | simp only [RO] | (simp only [RZ] <;> omega) | fail) only [↓RBp, ↓RA, ↓reduceIte, Nat.reduceAdd, Nat.reduceMul, Nat.reduceEqDiff, RB, RX, RA2]
          refine k_same (wd D1 l) bw ow cw mb mo mc (Wm.of_sl hsl) (p1.ext e14).wm hWl _ (fun w5 e5 => ?_)
          simp (disch := first | omega | simp only [RO] | (simp only [RZ] <;> omega) | fail) only [↓RBp, ↓RA, ↓reduceIte, Nat.reduceAdd, Nat.reduceMul, Nat.reduceEqDiff, RB, RX, RA2]
          rw [hTb]
          exact tail [] _ _ w5 (e14.trans e5) (fun x hx => by cases hx) (by simp) (SlO.nil _ _ _) (fun b hb => by cases hb) (SlO.nil _ _ _) (fun b hb => by cases hb) hnil
        · have ea : Ext (w1.alloc (acO (.slice a1 L.length k1) (.slice a2 ks.length k2) (.slice a3 M.length k3))) w2 := Ext.trans (by repeat (first | (with_reducible first | refine Sh.eB ?_ (by first | omega | (simp only [RZ] <;> omega)) _ | assumption | exact Sh.eR _ | refine Sh.eA ?_ _ | refine Sh.eD ?_ | refine Sh.eT ?_ (by assumption)) | exact Sh.eR _)) e2
          have e12 : Ext w1 w2 := Ext.trans (by repeat (first | (with_reducible first | refine Sh.eB ?_ (by first | omega | (simp only [RZ] <;> omega)) _ | assumption | exact Sh.eR _ | refine Sh.eA ?_ _ | refine Sh.eD ?_ | refine Sh.eT ?_ (by assumption)) | exact Sh.eR _)) ea
          have t0 : w2.cell? ⟨w1.heap.size, 0, none⟩ = some (.slice a1 L.length k1) := (hcells w2 ea).cell (i := 0) (by simp)
          have t1 : w2.cell? ⟨w1.heap.size, 1, none⟩ = some (.slice a2 ks.length k2) := (hcells w2 ea).cell (i := 1) (by simp)
          have t2 : w2.cell? ⟨w1.heap.size, 2, none⟩ = some (.slice a3 M.length k3) := (hcells w2 ea).cell (i := 2) (by simp)
          have ltt := lt_of_cell t0
          have d0 := hd0 w2 e12
          have ltd := lt_of_cell d0
          simp (disch := first | omega | simp only [RO] | (simp only [RZ] <;> omega) | fail) only [↓RBp, ↓RA, ↓reduceIte, Nat.reduceAdd, Nat.reduceMul, Nat.reduceEqDiff, RB, RX, RA2, t0, t1, t2, d0]
          refine k_rActions (p1.ext e12).wm hWl hs1 hcc hc5 L M ks _ _ _ (r1.ext e12) (r2.ext e12) (r3.ext e12) (by omega) (by omega) (by omega) bk _ (fun hb _ _ => absurd ha hb) (fun _ _ w3 e3 => ?_) (fun _ ws hws _ _ _ _ _ => by rw [hn1] at hws; cases hws)
          have e13 := e12.trans e3
          have ob3 := hf0 w3 e13; have f0 := ob3.1; have f1 := ob3.2.1; have f2 := ob3.2.2.1; have f3 := ob3.2.2.2
          have ltf := lt_of_cell f0
          simp (disch := first | omega | simp only [RO] | (simp only [RZ] <;> omega) | fail) only [↓RBp, ↓RA, ↓reduceIte, Nat.reduceAdd, Nat.reduceMul, Nat.reduceEqDiff, RB, RX, RA2, f0, f1, f2, f3, hli]
          rw [← hTb]
          refine k_words ((h1.ext e13).L.dv.ext (by repeat (first | (with_reducible first | refine Sh.eB ?_ (by first | omega | (simp only [RZ] <;> omega)) _ | assumption | exact Sh.eR _ | refine Sh.eA ?_ _ | refine Sh.eD ?_ | refine Sh.eT ?_ (by assumption)) | exact Sh.eR _))) h1.L.gd h1.on.off h1.lt _ (fun bw ow cw w4 hsl e4 hbw => ?_)
          have e14 := e13.trans (Ext.trans (by repeat (first | (with_reducible first | refine Sh.eB ?_ (by first | omega | (simp only [RZ] <;> omega)) _ | assumption | exact Sh.eR _ | refine Sh.eA ?_ _ | refine Sh.eD ?_ | refine Sh.eT ?_ (by assumption)) | exact Sh.eR _)) e4)
          simp (disch := first | omega | simp only [RO] | (simp only [RZ] <;> omega) | fail) only [↓RBp, ↓RA, ↓reduceIte, Nat.reduceAdd, Nat.reduceMul, Nat.reduceEqDiff, RB, RX, RA2]
          refine k_same (wd D1 l) bw ow cw mb mo mc (Wm.of_sl hsl) (p1.ext e14).wm hWl _ (fun w5 e5 => ?_)
          simp (disch := first | omega | simp only [RO] | (simp only [RZ] <;> omega) | fail) only [↓RBp, ↓RA, ↓reduceIte, Nat.reduceAdd, Nat.reduceMul, Nat.reduceEqDiff, RB, RX, RA2]
          rw [hTb]
          exact tail [] _ _ w5 (e14.trans e5) (fun x hx => by cases hx) (by simp) (SlO.nil _ _ _) (fun b hb => by cases hb) (SlO.nil _ _ _) (fun b hb => by cases hb) hnil
        · have ea : Ext (w1.alloc (acO (.slice a1 L.length k1) (.slice a2 ks.length k2) (.slice a3 M.length k3))) w2 := Ext.trans (by repeat (first | (with_reducible first | refine Sh.eB ?_ (by first | omega | (simp only [RZ] <;> omega)) _ | assumption | exact Sh.eR _ | refine Sh.eA ?_ _ | refine Sh.eD ?_ | refine Sh.eT ?_ (by assumption)) | exact Sh.eR _)) e2
          have e12 : Ext w1 w2 := Ext.trans (by repeat (first | (with_reducible first | refine Sh.eB ?_ (by first | omega | (simp only [RZ] <;> omega)) _ | assumption | exact Sh.eR _ | refine Sh.eA ?_ _ | refine Sh.eD ?_ | refine Sh.eT ?_ (by assumption)) | exact Sh.eR _)) ea
          have t0 : w2.cell? ⟨w1.heap.size, 0, none⟩ = some (.slice a1 L.length k1) := (hcells w2 ea).cell (i := 0) (by simp)
          have t1 : w2.cell? ⟨w1.heap.size, 1, none⟩ = some (.slice a2 ks.length k2) := (hcells w2 ea).cell (i := 1) (by simp)
          have t2 : w2.cell? ⟨w1.heap.size, 2, none⟩ = some (.slice a3 M.length k3) := (hcells w2 ea).cell (i := 2) (by simp)
          have ltt := lt_of_cell t0
          have d0 := hd0 w2 e12
          have ltd := lt_of_cell d0
          have hAS := h1.acts hs1 ha hws
          have hin := act_in (l := l) hcc hc5 ha hws
          have hwl : ws.length ≤ 150 := by have := hAS.e.len; omega
          obtain ⟨pa, pc, rfl, hpc⟩ := hsl.isS'
          have nu : NewV w1.heap.size (.slice pa ws.length pc) := fun b hb => Nat.le_trans (by simp only [RZ]; omega) (hnv b hb)
          simp (disch := first | omega | simp only [RO] | (simp only [RZ] <;> omega) | fail) only [↓RBp, ↓RA, ↓reduceIte, Nat.reduceAdd, Nat.reduceMul, Nat.reduceEqDiff, RB, RX, RA2, t0, t1, t2, d0]
          refine k_rActions (p1.ext e12).wm hWl hs1 hcc hc5 L M ks _ _ _ (r1.ext e12) (r2.ext e12) (r3.ext e12) (by omega) (by omega) (by omega) bk _ (fun hb _ _ => absurd ha hb) (fun _ hn1 _ _ => by rw [hws] at hn1; cases hn1) (fun _ ws2 hws2 v2 w3 e3 nv2 hsv => ?_)
          obtain rfl : ws = ws2 := by rw [hws] at hws2; exact Option.some.inj hws2
          have e13 := e12.trans e3
          obtain ⟨pb, pd, rfl, hpd⟩ := hsv.isS'
          have nv : NewV w1.heap.size (.slice pb ws.length pd) := fun b hb => Nat.le_trans e12.size (nv2 b hb)
          have ob4 := hf0 w3 e13; have f0 := ob4.1; have f1 := ob4.2.1; have f2 := ob4.2.2.1; have f3 := ob4.2.2.2
          have ltf := lt_of_cell f0
          simp (disch := first | omega | simp only [RO] | (simp only [RZ] <;> omega) | fail) only [↓RBp, ↓RA, ↓reduceIte, Nat.reduceAdd, Nat.reduceMul, Nat.reduceEqDiff, RB, RX, RA2, f0, f1, f2, f3, hli]
          rw [← hTb]
          refine k_words ((h1.ext e13).L.dv.ext (by repeat (first | (with_reducible first | refine Sh.eB ?_ (by first | omega | (simp only [RZ] <;> omega)) _ | assumption | exact Sh.eR _ | refine Sh.eA ?_ _ | refine Sh.eD ?_ | refine Sh.eT ?_ (by assumption)) | exact Sh.eR _))) h1.L.gd h1.on.off h1.lt _ (fun bw ow cw w4 hsl4 e4 hbw => ?_)
          have e34 : Ext w3 w4 := Ext.trans (by repeat (first | (with_reducible first | refine Sh.eB ?_ (by first | omega | (simp only [RZ] <;> omega)) _ | assumption | exact Sh.eR _ | refine Sh.eA ?_ _ | refine Sh.eD ?_ | refine Sh.eT ?_ (by assumption)) | exact Sh.eR _)) e4
          have e14 := e13.trans e34
          simp (disch := first | omega | simp only [RO] | (simp only [RZ] <;> omega) | fail) only [↓RBp, ↓RA, ↓reduceIte, Nat.reduceAdd, Nat.reduceMul, Nat.reduceEqDiff, RB, RX, RA2]
          refine k_same (wd D1 l) bw ow cw mb mo mc (Wm.of_sl hsl4) (p1.ext e14).wm hWl _ (fun w5 e5 => ?_)
          simp (disch := first | omega | simp only [RO] | (simp only [RZ] <;> omega) | fail) only [↓RBp, ↓RA, ↓reduceIte, Nat.reduceAdd, Nat.reduceMul, Nat.reduceEqDiff, RB, RX, RA2]
          rw [hTb]
          exact tail ws _ _ w5 (e14.trans e5) (fun x hx => ⟨(hAS.e.ok x hx).2.2, hin x hx⟩) hwl ((hsl.ext e3).ext (e34.trans e5)) nu (hsv.ext (e34.trans e5)) nv hAS.snd
    · have hjl : j = al.length := by omega
      subst hjl
      have a0 := h1.L.ex.cell_some hfm.1; have a1 := h1.L.ex.cell_some hfm.2.1; have a2 := h1.L.ex.cell_some hfm.2.2.1; have a3 := h1.L.ex.cell_some hfm.2.2.2
      have ltA := lt_of_cell a0
      have hTb := p1.tb
      unfold f5_l1_t
      simp (disch := first | omega | simp only [RO] | (simp only [RZ] <;> omega) | fail) only [↓RBp, ↓RA, ↓reduceIte, Nat.reduceAdd, Nat.reduceMul, Nat.reduceEqDiff, RB, RX, RA2, f5_k1_eq, f5_k1_t, a0, a1, a2, a3, hli]
      rw [← hTb]
      refine k_words (h1.L.dv.ext (by repeat (first | (with_reducible first | refine Sh.eB ?_ (by first | omega | (simp only [RZ] <;> omega)) _ | assumption | exact Sh.eR _ | refine Sh.eA ?_ _ | refine Sh.eD ?_ | refine Sh.eT ?_ (by assumption)) | exact Sh.eR _))) h1.L.gd h1.on.off h1.lt _ (fun bw ow cw w4 hsl e4 hbw => ?_)
      have e14 : Ext w1 w4 := Ext.trans (by repeat (first | (with_reducible first | refine Sh.eB ?_ (by first | omega | (simp only [RZ] <;> omega)) _ | assumption | exact Sh.eR _ | refine Sh.eA ?_ _ | refine Sh.eD ?_ | refine Sh.eT ?_ (by assumption)) | exact Sh.eR _)) e4
      simp (disch := first | omega | simp only [RO] | (simp only [RZ] <;> omega) | fail) only [↓RBp, ↓RA, ↓reduceIte, Nat.reduceAdd, Nat.reduceMul, Nat.reduceEqDiff, RB, RX, RA2]
      refine k_same (wd D1 l) bw ow cw mb mo mc (Wm.of_sl hsl) (p1.ext e14).wm hWl _ (fun w5 e5 => ?_)
      try simp (disch := first | omega | simp only [RO] | (simp only [RZ] <;> omega) | fail) only [↓RBp, ↓RA, ↓reduceIte, Nat.reduceAdd, Nat.reduceMul, Nat.reduceEqDiff, RB, RX, RA2]
      exact hK _ (h1.L.ex.trans (e14.trans e5))
end
theorem sl_cells {w : World} {b n : Nat} {t : TypeId} {f : Nat → Value} (h : Cells w b t n f) (hn : n ≤ maxLen) : SlO w t 1 (.slice (some ⟨b, 0, none⟩) n n) n ((List.range n).map f) := by
  obtain ⟨a, h1, h2, h3⟩ := h
  refine ⟨by simp, .inr ⟨b, 0, n, a, rfl, h1, Nat.le_refl _, hn, by omega, fun i u hi => ?_⟩⟩
  rw [Nat.zero_add]
  have hin : i < n := by
    have := (List.getElem?_eq_some_iff.1 hi).1; simpa using this
  rw [h3 i hin]
  simpa [hin] using hi
section
variable {w w' : World}
theorem law_plays (hG : Glob w) (a b c g : Nat) (ha : a < 256) (hb : b < 256) (hc : c < 256) (hg : g < 65536) {v : Value} {al : List (List Int × List Nat × List Int)} (hal : ActsR w.heap.size w v al) (hok : ∀ x ∈ al, actOk x) (hln : al.length ≤ maxLen) (i : Int) (K : K1) (hK : ∀ w', Ext w w' → K (.bool true) w') :
    callS Tryz.prog 5 #[fmV a b c g, v, .int .i64 i] w K := by
  have l8 : a % 9 ≤ 8 := by omega
  have c0 : (0 : Int) ≤ ((b % 5 : Nat) : Int) := by omega
  have c5 : ((b % 5 : Nat) : Int) < 5 := by omega
  have o0 : (0 : Int) ≤ ((c % 8 : Nat) : Int) := by omega
  have o8 : ((c % 8 : Nat) : Int) < 8 := by omega
  have hgn : genN g ≠ 0 ∧ genN g < 65536 := by unfold genN; split <;> omega
  have hfo := fun (w : World) (hG : Glob w) (K : K1) hK => k_fopen hG a b c g ha hb hc hg K hK
  have hhe := fun w1 K => c_fheader a b c g hb hc hg w1 K
  obtain ⟨va, vc, rfl, _⟩ := id hal
  have hlm : al.length < 9223372036854775808 := by unfold maxLen at hln; omega
  generalize hgg : genN g = gg at *
  generalize hll : a % 9 = ll at *
  generalize hcc : ((b % 5 : Nat) : Int) = cc at *
  generalize hoo : ((c % 8 : Nat) : Int) = oo at *
  have hone := opened_on l8 c0 c5 o0 o8 hgn.2
  have hexe := (opened_exe l8 c0 c5 oo gg).1
  have hsnd := opened_snd l8 c0 c5 o0 o8 hgn.1 hgn.2
  have hn := opened_n ll cc oo gg
  have hwd := wdL_congr (n := 256) (fun j hj => (opened_wd l8 c0 c5 o0 o8 hgn.2 j hj).symm)
  generalize DS.opened ll cc oo gg = D at *
  refine f5_call _ _ _ _ _ ?_
  unfold f5_t
  simp (disch := first | omega | simp only [RO] | (simp only [RZ] <;> omega) | fail) only [↓RBp, ↓RA, ↓reduceIte, Nat.reduceAdd, Nat.reduceMul, Nat.reduceEqDiff, RB, RX, RA2]
  refine k_awake (hG.ext (by repeat (first | (with_reducible first | refine Sh.eB ?_ (by first | omega | (simp only [RZ] <;> omega)) _ | assumption | exact Sh.eR _ | refine Sh.eA ?_ _ | refine Sh.eD ?_ | refine Sh.eT ?_ (by assumption)) | exact Sh.eR _))) _ (fun w1 he1 => ?_)
  have eA : Ext (w.alloc (fmO a b c g)) w1 := he1
  have e01 : Ext w w1 := (Ext.alloc_self _ _).trans eA
  by_cases h6 : 12 < al.length
  · simp (disch := first | omega | simp only [RO] | (simp only [RZ] <;> omega) | fail) only [↓RBp, ↓RA, ↓reduceIte, Nat.reduceAdd, Nat.reduceMul, Nat.reduceEqDiff, RB, RX, RA2]
    refine k_awake (hG.ext e01) _ (fun w2 he2 => ?_)
    exact hK _ (e01.trans he2)
  · have ob5 := fmCells eA; have q0 := ob5.1; have q1 := ob5.2.1; have q2 := ob5.2.2.1; have q3 := ob5.2.2.2
    have lt1 : w.heap.size < w1.heap.size := lt_of_cell q0
    simp (disch := first | omega | simp only [RO] | (simp only [RZ] <;> omega) | fail) only [↓RBp, ↓RA, ↓reduceIte, Nat.reduceAdd, Nat.reduceMul, Nat.reduceEqDiff, RB, RX, RA2, q0, q1, q2, q3]
    refine hfo _ (hG.ext e01) _ (fun w2 Y L2 => ?_)
    have eB := eA.trans L2.ex
    have ob6 := fmCells eB; have r0 := ob6.1; have r1 := ob6.2.1; have r2 := ob6.2.2.1; have r3 := ob6.2.2.2
    have lt2 : w.heap.size < w2.heap.size := lt_of_cell r0
    have s12 := L2.ex.size
    have nt : ∀ x, w2.heap.size ≤ x → ¬ Y.F x := fun x hx hf => by have := L2.dv.lt hf; omega
    have hloc : Loc w1 (w2.alloc (chO Y ll cc oo gg)) Y D w2.heap.size ll cc oo gg := ⟨L2.ext (Ext.alloc_self _ _), Cells.new w2 [Value.iface 48 (.pointer (some ⟨Y.tb 0, 0, none⟩)), .int .i64 (ll : Int), .int .i64 cc, .int .i64 oo, .int .u16 (gg : Int)] 58, nt _ (by omega), hone.1, by omega, hG.ext e01, c0, c5⟩
    (repeat' (first | (with_reducible refine brS_mk (fun _ => ?_) (fun _ => ?_)) | (with_reducible refine And.intro ?_ ?_) | (simp (disch := first | omega | simp only [RO] | (simp only [RZ] <;> omega) | (with_reducible (repeat (first | assumption | exact Ext.refl _ | refine Ext.alloc ?_ _ | refine Ext.drew ?_ | refine Ext.trans ?_ (by assumption)))) | fail) only [↓RBp, ↓RA, ↓reduceIte, Nat.reduceAdd, Nat.reduceMul, Nat.reduceEqDiff, RB, RX, RA2, r0, r1, r2, r3, hhe])))
    refine k_rFormat ?_ c0 c5 o0 o8 hgn.2 _ (fun mb mo mc w3 e3 hmb hm => ?_)
    · have hz := (zrow_cells ((((w2.alloc (chO Y ll cc oo gg)).alloc (fmO a b c g)).alloc (hdO cc oo gg)).alloc (hdO cc oo gg)) (.int .u64 ((0 : Nat) : Int)) 256 33).drew
      have hs0 := sl_cells hz (by decide)
      have el : ((List.range 256).map fun i => (Value.int .u64 ((0 : Nat) : Int)).cells[i % (Value.int .u64 ((0 : Nat) : Int)).cells.size]!) = wdL (fun _ => 0) 256 := by
        unfold wdL
        refine List.map_congr_left (fun i _ => ?_)
        show (#[Value.int .u64 ((0 : Nat) : Int)])[i % 1]! = _
        rw [Nat.mod_one]; rfl
      rw [el] at hs0
      simp only [RZ] at hs0
      exact hs0
    rw [hwd] at hm
    have eX : Ext (w2.alloc (chO Y ll cc oo gg)) w3 := Ext.trans (by repeat (first | (with_reducible first | refine Sh.eB ?_ (by first | omega | (simp only [RZ] <;> omega)) _ | assumption | exact Sh.eR _ | refine Sh.eA ?_ _ | refine Sh.eD ?_ | refine Sh.eT ?_ (by assumption)) | exact Sh.eR _)) e3
    have hH : Cells w3 (w2.heap.size + 1 + 1 + 1) 24 3 (hdF cc oo gg) := by
      have h1 := Cells.new (((w2.alloc (chO Y ll cc oo gg)).alloc (fmO a b c g)).alloc (hdO cc oo gg)) [Value.int .i64 cc, .int .i64 oo, .int .u16 (gg : Int)] 24
      simp only [size_alloc] at h1
      exact (h1.ext (Ext.trans (by repeat (first | (with_reducible first | refine Sh.eB ?_ (by first | omega | (simp only [RZ] <;> omega)) _ | assumption | exact Sh.eR _ | refine Sh.eA ?_ _ | refine Sh.eD ?_ | refine Sh.eT ?_ (by assumption)) | exact Sh.eR _)) e3) :)
    simp only [RZ] at hmb
    have p : PlS w1 w3 Y D w2.heap.size ll cc oo gg (Y.tb 0) (w2.heap.size + 1 + 1 + 1) mb mo mc := ⟨hloc.ext eX, rfl, hm, ⟨by omega, nt _ (by omega), by omega⟩, hH, ⟨by omega, nt _ (by omega), by omega, by omega⟩⟩
    simp (disch := first | omega | simp only [RO] | (simp only [RZ] <;> omega) | fail) only [↓RBp, ↓RA, ↓reduceIte, Nat.reduceAdd, Nat.reduceMul, Nat.reduceEqDiff, RB, RX, RA2]
    exact pl_l1 p hsnd ha hll ⟨q0, q1, q2, q3⟩ (hal.ext e01) hok (by omega) hexe i (fun w' e => hK w' (e01.trans e))
end
end Go.Proofs.YtaeopkhdokaaoaaGreatDoor
