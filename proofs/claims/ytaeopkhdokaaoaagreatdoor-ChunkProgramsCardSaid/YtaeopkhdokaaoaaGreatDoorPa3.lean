/-
  Part 3 of the proof in YtaeopkhdokaaoaaGreatDoorPa6.
-/
import Derived.Test.YtaeopkhdokaaoaaGreatDoorPa2
import Derived.Sort.AssemblyPlain
import Derived.Sort.LotD4
import Derived.Sort.LotD5
import Derived.Test.YtaeopkhdokaaoaaGreatDoorPa1
namespace Go.Proofs.YtaeopkhdokaaoaaGreatDoor
open Go Go.Sh
set_option maxRecDepth 100000
set_option maxHeartbeats 4000000
set_option linter.unusedSimpArgs false
set_option linter.unusedVariables false
def ltN (x y : Nat) : Bool := decide (x < y)
theorem ltN_swo : Go.Sort.SWO ltN := ⟨fun x => by simp [ltN], fun x y z => by simp [ltN]; omega, fun x y z => by simp [ltN]; omega⟩
def Ar (w : World) (b o : Nat) (d : Array Nat) : Prop := ∃ a : Array Value, w.heap[b]? = some (.cells a 33 (0, 0)) ∧ o + d.size ≤ a.size ∧ ∀ i, i < d.size → a[o + i]? = some (.int .u64 ((d[i]! : Nat) : Int))
section
variable {w w' : World} {b o : Nat} {d : Array Nat}
theorem Ar.lt (h : Ar w b o d) : b < w.heap.size := by obtain ⟨a, h, _⟩ := h; exact lt_of_heap h
theorem Ar.drew (h : Ar w b o d) : Ar w.drew b o d := h
theorem Ar.cell (h : Ar w b o d) (i : Nat) (hi : i < d.size) : w.cell? ⟨b, o + i, none⟩ = some (.int .u64 ((d[i]! : Nat) : Int)) := by
  obtain ⟨a, h, _, h2⟩ := h
  rw [cell_of_blk h]; exact h2 i hi
theorem Ar.frz (h : Ar w b o d) (i : Nat) : w.frozen? ⟨b, i, none⟩ = false := by
  obtain ⟨a, h, _⟩ := h
  unfold World.frozen?; simp only [h]; simp
theorem Ar.set (h : Ar w b o d) (i x : Nat) (hi : i < d.size) : Ar (w.setCell ⟨b, o + i, none⟩ (.int .u64 (x : Int))) b o (d.setIfInBounds i x) := by
  obtain ⟨a, h, hs, hf⟩ := h
  refine ⟨a.setIfInBounds (o + i) (.int .u64 (x : Int)), ?_, by simpa using hs, ?_⟩
  · simp only [World.setCell, Array.getElem?_modify, h]; simp
  · intro j hj
    rw [Array.size_setIfInBounds] at hj
    rw [Array.getElem?_setIfInBounds]
    by_cases e : i = j
    · subst e
      have : o + i < a.size := by omega
      simp [this, hi]
    · have e' : ¬ o + i = o + j := by omega
      rw [if_neg e', hf j hj]
      simp [Array.getElem!_eq_getD, Array.getD_eq_getD_getElem?, Array.getElem?_setIfInBounds, e]
theorem Ar.set_ne (h : Ar w b o d) (b' i : Nat) (v : Value) (hb : b' ≠ b) : Ar (w.setCell ⟨b', i, none⟩ v) b o d := by
  obtain ⟨a, h, h2⟩ := h
  exact ⟨a, by rw [heap_set_ne v (Ne.symm hb)]; exact h, h2⟩
theorem Ar.alloc (h : Ar w b o d) (x : Obj) : Ar (w.alloc x) b o d := by
  have hl := h.lt
  obtain ⟨a, h, h2⟩ := h
  exact ⟨a, by rw [heap_alloc_lt _ hl]; exact h, h2⟩
theorem Ar.frm {F : Nat → Prop} (h : Ar w b o d) (e : Frm F w w') (hF : ¬ F b) : Ar w' b o d := by
  have hl := h.lt
  obtain ⟨a, h, h2⟩ := h
  exact ⟨a, by rw [e.block b hl hF]; exact h, h2⟩
def okD (d : Array Nat) : Prop := ∀ i : Nat, d[i]! < 18446744073709551616
theorem swp_eq (d : Array Nat) (i j : Nat) : Go.Sort.swp d i j = (d.setIfInBounds i d[j]!).setIfInBounds j d[i]! := rfl
theorem swp_size (d : Array Nat) (i j : Nat) : (Go.Sort.swp d i j).size = d.size := by simp [swp_eq]
structure SW (w0 w : World) (b o : Nat) (d : Array Nat) : Prop where
  ar : Ar w b o d
  frm : Frm (fun x => x = b) w0 w
theorem SW.refl (h : Ar w b o d) : SW w w b o d := ⟨h, Frm.refl _ _⟩
theorem SW.drew {w0 : World} (h : SW w0 w b o d) : SW w0 w.drew b o d := ⟨h.ar, h.frm.drew⟩
theorem SW.trans {w0 w1 w2 : World} {d1 d2 : Array Nat} (h : SW w0 w1 b o d1) (k : SW w1 w2 b o d2) : SW w0 w2 b o d2 := ⟨k.ar, h.frm.trans k.frm (fun _ _ h => h)⟩
theorem SW.swp {w0 : World} (h : SW w0 w b o d) (i j : Nat) (hi : i < d.size) (hj : j < d.size) : SW w0 ((w.setCell ⟨b, o + i, none⟩ (.int .u64 ((d[j]! : Nat) : Int))).setCell ⟨b, o + j, none⟩ (.int .u64 ((d[i]! : Nat) : Int))) b o (Go.Sort.swp d i j) := by
  refine ⟨?_, (h.frm.set _ (fun _ => rfl)).set _ (fun _ => rfl)⟩
  have := (h.ar.set i d[j]! hi).set j d[i]! (by simpa using hj)
  rw [swp_eq]; exact this
theorem SW.set1 {w0 : World} (h : SW w0 w b o d) (i x : Nat) (hi : i < d.size) : SW w0 (w.setCell ⟨b, o + i, none⟩ (.int .u64 (x : Int))) b o (d.setIfInBounds i x) := ⟨h.ar.set i x hi, h.frm.set _ (fun _ => rfl)⟩
end
theorem c_nan (x : Nat) (w : World) (K : K1) : callS Tryz.prog 140 #[.int .u64 (x : Int)] w K = K (.bool false) w := by
  refine callS_det (by kernel_rfl) (f140_call _ _ _ ?_) K
  unfold f140_t
  (repeat' (first | (with_reducible refine brS_mk (fun _ => ?_) (fun _ => ?_)) | (with_reducible refine And.intro ?_ ?_) | (simp (disch := first | omega | simp only [RO] | (simp only [RZ] <;> omega) | fail) only [↓RBp, ↓RA, ↓reduceIte, Nat.reduceAdd, Nat.reduceMul, Nat.reduceEqDiff, RB, RBr, RW, RS, RA2])))
theorem c_Less (x y : Nat) (w : World) (K : K1) : callS Tryz.prog 127 #[.int .u64 (x : Int), .int .u64 (y : Int)] w K = K (.bool (ltN x y)) w := by
  refine callS_det (by kernel_rfl) (f127_call _ _ _ _ ?_) K
  unfold f127_t ltN
  (repeat' (first | (with_reducible refine brS_mk (fun _ => ?_) (fun _ => ?_)) | (with_reducible refine And.intro ?_ ?_) | (simp (disch := first | omega | simp only [RO] | (simp only [RZ] <;> omega) | fail) only [↓RBp, ↓RA, ↓reduceIte, Nat.reduceAdd, Nat.reduceMul, Nat.reduceEqDiff, RB, RBr, RW, RS, RA2, c_nan])))
theorem insInner_zero (a : Nat) (d : Array Nat) : Go.Sort.insInner ltN a 0 d = d := rfl
theorem insInner_succ (a j : Nat) (d : Array Nat) : Go.Sort.insInner ltN a (j + 1) d = if (decide (j + 1 > a) && ltN d[j + 1]! d[j]!) = true then Go.Sort.insInner ltN a j (Go.Sort.swp d (j + 1) j) else d := rfl
theorem insOuter_eq (a b i : Nat) (d : Array Nat) : Go.Sort.insOuter ltN a b i d = if i < b then Go.Sort.insOuter ltN a b (i + 1) (Go.Sort.insInner ltN a i d) else d := by rw [Go.Sort.insOuter]
section
variable {w w' : World} {q o cap : Nat} {d : Array Nat}
theorem k_ins (h : Ar w q o d) (hd : d.size < 1099511627776) (a b : Nat) (hab : a ≤ b) (hb : b ≤ d.size) (K : K1) (hK : ∀ w', SW w w' q o (Go.Sort.insertionSort ltN d a b) → (Go.Sort.insertionSort ltN d a b).size = d.size → K (.tuple #[]) w') :
    callS Tryz.prog 121 #[.slice (some ⟨q, o, none⟩) d.size cap, .int .i64 (a : Int), .int .i64 (b : Int)] w K := by
  refine f121_call _ _ _ _ _ ?_
  unfold f121_t
  simp (disch := first | omega | simp only [RO] | (simp only [RZ] <;> omega) | fail) only [↓RBp, ↓RA, ↓reduceIte, Nat.reduceAdd, Nat.reduceMul, Nat.reduceEqDiff, RB, RBr, RW, RS, RA2]
  apply f121_l1_rule (I := fun x w' => ∃ (i : Nat) (d' : Array Nat), x = .int .i64 (i : Int) ∧ a + 1 ≤ i ∧ i ≤ b + 1 ∧ d'.size = d.size ∧ SW w w' q o d' ∧ Go.Sort.insOuter ltN a b i d' = Go.Sort.insertionSort ltN d a b) (μ := fun x _ => b + 1 - (Go.RowKit.intOf x).toNat)
  · exact ⟨a + 1, d, by simp, by omega, by omega, rfl, SW.refl h, rfl⟩
  · intros; rename_i w1 hI E1 hE
    obtain ⟨i, d1, rfl, hi1, hi2, hs1, sw1, e1⟩ := hI
    unfold f121_l1_t
    rw [insOuter_eq] at e1
    by_cases hib : i < b
    · rw [if_pos hib] at e1
      simp (disch := first | omega | simp only [RO] | (simp only [RZ] <;> omega) | fail) only [↓RBp, ↓RA, ↓reduceIte, Nat.reduceAdd, Nat.reduceMul, Nat.reduceEqDiff, RB, RBr, RW, RS, RA2]
      apply f121_l2_rule (I := fun x w' => ∃ (j : Nat) (d' : Array Nat), x = .int .i64 (j : Int) ∧ a ≤ j ∧ j ≤ i ∧ d'.size = d.size ∧ SW w w' q o d' ∧ Go.Sort.insInner ltN a j d' = Go.Sort.insInner ltN a i d1) (μ := fun x _ => (Go.RowKit.intOf x).toNat)
      · exact ⟨i, d1, rfl, by omega, by omega, hs1, sw1, rfl⟩
      · intros; rename_i w2 hI2 E2 hE2
        obtain ⟨j, d2, rfl, hj1, hj2, hs2, sw2, e2⟩ := hI2
        unfold f121_l2_t
        have ar := sw2.ar
        cases j with
        | zero =>
          rw [insInner_zero] at e2
          simp (disch := first | omega | simp only [RO] | (simp only [RZ] <;> omega) | fail) only [↓RBp, ↓RA, ↓reduceIte, Nat.reduceAdd, Nat.reduceMul, Nat.reduceEqDiff, RB, RBr, RW, RS, RA2, f121_k1_eq, f121_k1_t]
          apply hE
          · exact ⟨i + 1, d2, by simp, by omega, by omega, hs2, sw2.drew, by rw [e2, e1]⟩
          · simp [Go.RowKit.intOf]; omega
        | succ j =>
          rw [insInner_succ] at e2
          have ej : ((j + 1 : Nat) : Int) - 1 = (j : Int) := by omega
          by_cases hja : a < j + 1
          · have c1 := ar.cell (j + 1) (by omega)
            have c2 := ar.cell j (by omega)
            by_cases hlt : ltN d2[j + 1]! d2[j]! = true
            · have ar2 := ar.set (j + 1) d2[j]! (by omega)
              have c3 := ar2.cell j (by simp; omega)
              have ssw := sw2.swp (j + 1) j (by omega) (by omega)
              (repeat' (first | (with_reducible refine brS_mk (fun _ => ?_) (fun _ => ?_)) | (with_reducible refine And.intro ?_ ?_) | (simp (disch := first | omega | simp only [RO] | (simp only [RZ] <;> omega) | fail) only [↓RBp, ↓RA, ↓reduceIte, Nat.reduceAdd, Nat.reduceMul, Nat.reduceEqDiff, RB, RBr, RW, RS, RA2, ej, c1, c2, ar.frz, c_Less, hlt, c3, ar2.frz])))
              apply hE2
              · exact ⟨j, _, rfl, by omega, by omega, (swp_size _ _ _).trans hs2, ssw.drew.drew, by rw [if_pos (by simp [hlt]; omega)] at e2; exact e2⟩
              · simp [Go.RowKit.intOf]
            · have hlt' : ltN d2[j + 1]! d2[j]! = false := by simpa using hlt
              (repeat' (first | (with_reducible refine brS_mk (fun _ => ?_) (fun _ => ?_)) | (with_reducible refine And.intro ?_ ?_) | (simp (disch := first | omega | simp only [RO] | (simp only [RZ] <;> omega) | fail) only [↓RBp, ↓RA, ↓reduceIte, Nat.reduceAdd, Nat.reduceMul, Nat.reduceEqDiff, RB, RBr, RW, RS, RA2, ej, c1, c2, ar.frz, c_Less, hlt', f121_k1_eq, f121_k1_t])))
              apply hE
              · exact ⟨i + 1, d2, by simp, by omega, by omega, hs2, sw2.drew, by rw [if_neg (by simp [hlt'])] at e2; rw [e2, e1]⟩
              · simp [Go.RowKit.intOf]; omega
          · simp (disch := first | omega | simp only [RO] | (simp only [RZ] <;> omega) | fail) only [↓RBp, ↓RA, ↓reduceIte, Nat.reduceAdd, Nat.reduceMul, Nat.reduceEqDiff, RB, RBr, RW, RS, RA2, f121_k1_eq, f121_k1_t]
            apply hE
            · exact ⟨i + 1, d2, by simp, by omega, by omega, hs2, sw2.drew, by rw [if_neg (by simp; omega)] at e2; rw [e2, e1]⟩
            · simp [Go.RowKit.intOf]; omega
    · rw [if_neg hib] at e1
      simp (disch := first | omega | simp only [RO] | (simp only [RZ] <;> omega) | fail) only [↓RBp, ↓RA, ↓reduceIte, Nat.reduceAdd, Nat.reduceMul, Nat.reduceEqDiff, RB, RBr, RW, RS, RA2]
      rw [← e1] at hK
      exact hK _ sw1 hs1
end
end Go.Proofs.YtaeopkhdokaaoaaGreatDoor
namespace Go.Proofs.YtaeopkhdokaaoaaGreatDoor
open Go Go.Sh
set_option maxRecDepth 100000
set_option maxHeartbeats 4000000
set_option linter.unusedSimpArgs false
set_option linter.unusedVariables false
section
variable {w w' : World} {q o cap : Nat} {d : Array Nat}
def Sp (w : World) (s k : Nat) : Prop := Cells w s 3 1 (fun _ => .int .i64 (k : Int))
theorem Sp.cell {s k : Nat} (h : Sp w s k) : w.cell? ⟨s, 0, none⟩ = some (.int .i64 (k : Int)) := Cells.cell h (by omega)
theorem Sp.frz {s k : Nat} (h : Sp w s k) : w.frozen? ⟨s, 0, none⟩ = false := Cells.frz h 0
structure CW (w0 w : World) (q o s : Nat) (d : Array Nat) (k : Nat) : Prop where
  ar : Ar w q o d
  sp : Sp w s k
  frm : Frm (fun x => x = s) w0 w
theorem ne_sq {s k : Nat} (h : Ar w q o d) (hs : Sp w s k) : s ≠ q := by
  intro e; subst e
  obtain ⟨a, h, _⟩ := h
  obtain ⟨a', h', _⟩ := hs
  rw [h] at h'; injection h' with h'; injection h' with _ h'; exact absurd h' (by decide)
theorem k_order2 {s k : Nat} (h : Ar w q o d) (hs : Sp w s k) (hd : d.size < 1099511627776) (hk : k < 1099511627776) (a b : Nat) (ha : a < d.size) (hb : b < d.size) (K : K1)
    (hK : ∀ w', CW w w' q o s d (Go.Sort.order2 ltN d a b k).2.2 → K (.tuple #[.int .i64 (((Go.Sort.order2 ltN d a b k).1 : Nat) : Int), .int .i64 (((Go.Sort.order2 ltN d a b k).2.1 : Nat) : Int)]) w') :
    callS Tryz.prog 142 #[.slice (some ⟨q, o, none⟩) d.size cap, .int .i64 (a : Int), .int .i64 (b : Int), .pointer (some ⟨s, 0, none⟩)] w K := by
  refine f142_call _ _ _ _ _ _ ?_
  unfold f142_t
  have c1 := h.cell a ha
  have c2 := h.cell b hb
  have ns := ne_sq h hs
  unfold Go.Sort.order2 at hK
  by_cases hl : ltN d[b]! d[a]! = true
  · rw [if_pos hl] at hK
    (repeat' (first | (with_reducible refine brS_mk (fun _ => ?_) (fun _ => ?_)) | (with_reducible refine And.intro ?_ ?_) | (simp (disch := first | omega | simp only [RO] | (simp only [RZ] <;> omega) | fail) only [↓RBp, ↓RA, ↓reduceIte, Nat.reduceAdd, Nat.reduceMul, Nat.reduceEqDiff, RB, RBr, RW, RS, RA2, c1, c2, c_Less, hl, hs.cell, hs.frz])))
    have hs2 : Sp (w.setCell ⟨s, 0, none⟩ (.int .i64 ((k : Int) + 1))) s (k + 1) := by
      refine (Cells.set hs (i := 0) (.int .i64 ((k : Int) + 1)) (by omega)).congr ?_
      intro i hi
      have e : i = 0 := by omega
      rw [if_pos e]; simp
    exact hK _ ⟨(h.set_ne s 0 _ ns).drew, hs2, ((Frm.refl (fun x => x = s) w).set _ (fun _ => rfl)).drew⟩
  · rw [if_neg hl] at hK
    have hl' : ltN d[b]! d[a]! = false := by simpa using hl
    (repeat' (first | (with_reducible refine brS_mk (fun _ => ?_) (fun _ => ?_)) | (with_reducible refine And.intro ?_ ?_) | (simp (disch := first | omega | simp only [RO] | (simp only [RZ] <;> omega) | fail) only [↓RBp, ↓RA, ↓reduceIte, Nat.reduceAdd, Nat.reduceMul, Nat.reduceEqDiff, RB, RBr, RW, RS, RA2, c1, c2, c_Less, hl'])))
    exact hK _ ⟨h.drew, hs, (Frm.refl _ w).drew⟩
theorem CW.trans {w0 w1 w2 : World} {s k k' : Nat} (h : CW w0 w1 q o s d k) (h' : CW w1 w2 q o s d k') : CW w0 w2 q o s d k' := ⟨h'.ar, h'.sp, h.frm.trans h'.frm (fun _ _ h => h)⟩
theorem o2_lt (a b k n : Nat) (ha : a < n) (hb : b < n) : (Go.Sort.order2 ltN d a b k).1 < n ∧ (Go.Sort.order2 ltN d a b k).2.1 < n ∧ (Go.Sort.order2 ltN d a b k).2.2 ≤ k + 1 := by
  unfold Go.Sort.order2; split <;> simp <;> omega
theorem k_median {s k : Nat} (h : Ar w q o d) (hs : Sp w s k) (hd : d.size < 1099511627776) (hk : k < 1099511627770) (a b c : Nat) (ha : a < d.size) (hb : b < d.size) (hc : c < d.size) (K : K1)
    (hK : ∀ w', CW w w' q o s d (Go.Sort.median ltN d a b c k).2 → K (.int .i64 (((Go.Sort.median ltN d a b c k).1 : Nat) : Int)) w') :
    callS Tryz.prog 139 #[.slice (some ⟨q, o, none⟩) d.size cap, .int .i64 (a : Int), .int .i64 (b : Int), .int .i64 (c : Int), .pointer (some ⟨s, 0, none⟩)] w K := by
  refine f139_call _ _ _ _ _ _ _ ?_
  unfold f139_t
  have l1 := o2_lt (d := d) a b k _ ha hb
  have l2 := o2_lt (d := d) (Go.Sort.order2 ltN d a b k).2.1 c (Go.Sort.order2 ltN d a b k).2.2 _ l1.2.1 hc
  have l3 := o2_lt (d := d) (Go.Sort.order2 ltN d a b k).1 (Go.Sort.order2 ltN d (Go.Sort.order2 ltN d a b k).2.1 c (Go.Sort.order2 ltN d a b k).2.2).1 (Go.Sort.order2 ltN d (Go.Sort.order2 ltN d a b k).2.1 c (Go.Sort.order2 ltN d a b k).2.2).2.2 _ l1.1 l2.1
  simp (disch := first | omega | simp only [RO] | (simp only [RZ] <;> omega) | fail) only [↓RBp, ↓RA, ↓reduceIte, Nat.reduceAdd, Nat.reduceMul, Nat.reduceEqDiff, RB, RBr, RW, RS, RA2]
  refine k_order2 h hs hd (by omega) a b ha hb _ (fun w1 h1 => ?_)
  simp (disch := first | omega | simp only [RO] | (simp only [RZ] <;> omega) | fail) only [↓RBp, ↓RA, ↓reduceIte, Nat.reduceAdd, Nat.reduceMul, Nat.reduceEqDiff, RB, RBr, RW, RS, RA2]
  refine k_order2 h1.ar h1.sp hd (by omega) _ c l1.2.1 hc _ (fun w2 h2 => ?_)
  simp (disch := first | omega | simp only [RO] | (simp only [RZ] <;> omega) | fail) only [↓RBp, ↓RA, ↓reduceIte, Nat.reduceAdd, Nat.reduceMul, Nat.reduceEqDiff, RB, RBr, RW, RS, RA2]
  refine k_order2 h2.ar h2.sp hd (by omega) _ _ l1.1 l2.1 _ (fun w3 h3 => ?_)
  simp (disch := first | omega | simp only [RO] | (simp only [RZ] <;> omega) | fail) only [↓RBp, ↓RA, ↓reduceIte, Nat.reduceAdd, Nat.reduceMul, Nat.reduceEqDiff, RB, RBr, RW, RS, RA2]
  exact hK _ ((h1.trans h2).trans h3)
theorem k_medadj {s k : Nat} (h : Ar w q o d) (hs : Sp w s k) (hd : d.size < 1099511627776) (hk : k < 1099511627770) (a : Nat) (h0 : 0 < a) (ha : a + 1 < d.size) (K : K1)
    (hK : ∀ w', CW w w' q o s d (Go.Sort.medianAdjacent ltN d a k).2 → K (.int .i64 (((Go.Sort.medianAdjacent ltN d a k).1 : Nat) : Int)) w') :
    callS Tryz.prog 138 #[.slice (some ⟨q, o, none⟩) d.size cap, .int .i64 (a : Int), .pointer (some ⟨s, 0, none⟩)] w K := by
  refine f138_call _ _ _ _ _ ?_
  unfold f138_t
  have e1 : (a : Int) - 1 = ((a - 1 : Nat) : Int) := by omega
  have e2 : (a : Int) + 1 = ((a + 1 : Nat) : Int) := by omega
  simp (disch := first | omega | simp only [RO] | (simp only [RZ] <;> omega) | fail) only [↓RBp, ↓RA, ↓reduceIte, Nat.reduceAdd, Nat.reduceMul, Nat.reduceEqDiff, RB, RBr, RW, RS, RA2, e1, e2]
  refine k_median h hs hd hk (a - 1) a (a + 1) (by omega) (by omega) ha _ (fun w1 h1 => ?_)
  exact hK _ h1
def hintN : Go.Sort.Hint → Int
  | .unknown => 0
  | .increasing => 1
  | .decreasing => 2
theorem k_reverse (h : Ar w q o d) (hd : d.size < 1099511627776) (a b : Nat) (hab : a < b) (hb : b ≤ d.size) (K : K1) (hK : ∀ w', SW w w' q o (Go.Sort.reverseRange d a b) → (Go.Sort.reverseRange d a b).size = d.size → K (.tuple #[]) w') :
    callS Tryz.prog 125 #[.slice (some ⟨q, o, none⟩) d.size cap, .int .i64 (a : Int), .int .i64 (b : Int)] w K := by
  refine f125_call _ _ _ _ _ ?_
  unfold f125_t
  have e1 : (b : Int) - 1 = ((b - 1 : Nat) : Int) := by omega
  simp (disch := first | omega | simp only [RO] | (simp only [RZ] <;> omega) | fail) only [↓RBp, ↓RA, ↓reduceIte, Nat.reduceAdd, Nat.reduceMul, Nat.reduceEqDiff, RB, RBr, RW, RS, RA2, e1]
  apply f125_l1_rule (I := fun x y w' => ∃ (i j : Nat) (d' : Array Nat), x = .int .i64 (i : Int) ∧ y = .int .i64 (j : Int) ∧ j < d.size ∧ d'.size = d.size ∧ SW w w' q o d' ∧ Go.Sort.reverseLoop i j d' = Go.Sort.reverseRange d a b) (μ := fun x y _ => (Go.RowKit.intOf y).toNat - (Go.RowKit.intOf x).toNat)
  · exact ⟨a, b - 1, d, rfl, rfl, by omega, rfl, SW.refl h, rfl⟩
  · intros; rename_i w1 hI E1 hE
    obtain ⟨i, j, d1, rfl, rfl, hj, hs, sw, e⟩ := hI
    unfold f125_l1_t
    rw [Go.Sort.reverseLoop] at e
    by_cases hij : i < j
    · rw [if_pos hij] at e
      have ar := sw.ar
      have c1 := ar.cell i (by omega)
      have c2 := ar.cell j (by omega)
      have ar2 := ar.set i d1[j]! (by omega)
      have c3 := ar2.cell j (by simp; omega)
      have ssw := sw.swp i j (by omega) (by omega)
      have e2 : (j : Int) - 1 = ((j - 1 : Nat) : Int) := by omega
      have e3 : (i : Int) + 1 = ((i + 1 : Nat) : Int) := by omega
      (repeat' (first | (with_reducible refine brS_mk (fun _ => ?_) (fun _ => ?_)) | (with_reducible refine And.intro ?_ ?_) | (simp (disch := first | omega | simp only [RO] | (simp only [RZ] <;> omega) | fail) only [↓RBp, ↓RA, ↓reduceIte, Nat.reduceAdd, Nat.reduceMul, Nat.reduceEqDiff, RB, RBr, RW, RS, RA2, c1, c2, c3, ar.frz, ar2.frz, e2, e3])))
      apply hE
      · exact ⟨i + 1, j - 1, _, rfl, rfl, by omega, (swp_size _ _ _).trans hs, ssw.drew, e⟩
      · simp [Go.RowKit.intOf]; omega
    · rw [if_neg hij] at e
      simp (disch := first | omega | simp only [RO] | (simp only [RZ] <;> omega) | fail) only [↓RBp, ↓RA, ↓reduceIte, Nat.reduceAdd, Nat.reduceMul, Nat.reduceEqDiff, RB, RBr, RW, RS, RA2]
      rw [← e] at hK
      exact hK _ sw hs
theorem fst_lt (d : Array Nat) (a b c k n : Nat) (ha : a < n) (hb : b < n) (hc : c < n) : (Go.Sort.median ltN d a b c k).1 < n := by
  rcases Go.Sort.median_mem ltN d a b c k with h | h | h <;> rw [h] <;> assumption
theorem med_k (d : Array Nat) (a b c k : Nat) : (Go.Sort.median ltN d a b c k).2 ≤ k + 3 := Go.Sort.median_count ltN d a b c k
theorem hint_eq (r k : Nat) : (if k = 0 then Go.Sort.Hint.increasing else if k = 12 then Go.Sort.Hint.decreasing else Go.Sort.Hint.unknown) = Go.Sort.Hint.increasing ∧ k = 0 ∨ k ≠ 0 := by
  by_cases h : k = 0
  · left; simp [h]
  · right; exact h
def pkH (r : Nat × Nat) : Nat × Go.Sort.Hint := (r.1, if r.2 = 0 then .increasing else if r.2 = 12 then .decreasing else .unknown)
theorem k_choose (h : Ar w q o d) (hd : d.size < 1099511627776) (a b : Nat) (hab : a + 12 < b) (hb : b ≤ d.size) (K : K1)
    (hK : ∀ w', Ext w w' → K (.tuple #[.int .i64 (((Go.Sort.choosePivot ltN d a b).1 : Nat) : Int), .int .i64 (hintN (Go.Sort.choosePivot ltN d a b).2)]) w') :
    callS Tryz.prog 124 #[.slice (some ⟨q, o, none⟩) d.size cap, .int .i64 (a : Int), .int .i64 (b : Int)] w K := by
  have e0 : (b : Int) - (a : Int) = ((b - a : Nat) : Int) := by omega
  have e1 : (a : Int) + ((b - a : Nat) : Int) / 4 * 1 = ((a + (b - a) / 4 * 1 : Nat) : Int) := by omega
  have e2 : (a : Int) + ((b - a : Nat) : Int) / 4 * 2 = ((a + (b - a) / 4 * 2 : Nat) : Int) := by omega
  have e3 : (a : Int) + ((b - a : Nat) : Int) / 4 * 3 = ((a + (b - a) / 4 * 3 : Nat) : Int) := by omega
  have hsp : Sp (w.alloc (.cells #[.int .i64 0] 3)) w.heap.size 0 := (Cells.new w [.int .i64 0] 3).congr (fun i hi => by have e : i = 0 := (by simpa using hi); subst e; rfl)
  have h' := h.alloc (.cells #[.int .i64 0] 3)
  have fin : ∀ w1 p k, CW (w.alloc (.cells #[.int .i64 0] 3)) w1 q o w.heap.size d k → k < 1099511627776 → p = (Go.Sort.choosePivot ltN d a b).1 → hintN (if k = 0 then Go.Sort.Hint.increasing else if k = 12 then Go.Sort.Hint.decreasing else Go.Sort.Hint.unknown) = hintN (Go.Sort.choosePivot ltN d a b).2 →
      f124_k1_t (.pointer (some ⟨w.heap.size, 0, none⟩)) (.int .i64 (p : Int)) K w1 := by
    intro w1 p k hc hk hp hh
    unfold f124_k1_t
    rw [← hh, ← hp] at hK
    have he : Ext w w1 := Frm.to_ext (F := fun x => x = w.heap.size) ((Frm.of_ext (Ext.alloc_self w _)).trans hc.frm (fun _ _ h => h)) (fun x hx => by omega)
    by_cases hk0 : k = 0
    · subst hk0
      simp (disch := first | omega | simp only [RO] | (simp only [RZ] <;> omega) | fail) only [↓RBp, ↓RA, ↓reduceIte, Nat.reduceAdd, Nat.reduceMul, Nat.reduceEqDiff, RB, RBr, RW, RS, RA2, hc.sp.cell]
      exact hK _ he
    · rw [if_neg hk0] at hK
      by_cases hk2 : k = 12
      · subst hk2
        simp (disch := first | omega | simp only [RO] | (simp only [RZ] <;> omega) | fail) only [↓RBp, ↓RA, ↓reduceIte, Nat.reduceAdd, Nat.reduceMul, Nat.reduceEqDiff, RB, RBr, RW, RS, RA2, hc.sp.cell]
        exact hK _ he
      · rw [if_neg hk2] at hK
        simp (disch := first | omega | simp only [RO] | (simp only [RZ] <;> omega) | fail) only [↓RBp, ↓RA, ↓reduceIte, Nat.reduceAdd, Nat.reduceMul, Nat.reduceEqDiff, RB, RBr, RW, RS, RA2, hc.sp.cell]
        exact hK _ he
  have hcp : Go.Sort.choosePivot ltN d a b = pkH (if b - a ≥ 50 then Go.Sort.median ltN d (Go.Sort.medianAdjacent ltN d (a + (b - a) / 4 * 1) 0).1 (Go.Sort.medianAdjacent ltN d (a + (b - a) / 4 * 2) (Go.Sort.medianAdjacent ltN d (a + (b - a) / 4 * 1) 0).2).1 (Go.Sort.medianAdjacent ltN d (a + (b - a) / 4 * 3) (Go.Sort.medianAdjacent ltN d (a + (b - a) / 4 * 2) (Go.Sort.medianAdjacent ltN d (a + (b - a) / 4 * 1) 0).2).2).1 (Go.Sort.medianAdjacent ltN d (a + (b - a) / 4 * 3) (Go.Sort.medianAdjacent ltN d (a + (b - a) / 4 * 2) (Go.Sort.medianAdjacent ltN d (a + (b - a) / 4 * 1) 0).2).2).2
      else Go.Sort.median ltN d (a + (b - a) / 4 * 1) (a + (b - a) / 4 * 2) (a + (b - a) / 4 * 3) 0) := by
    unfold Go.Sort.choosePivot pkH; simp only [if_pos (show b - a ≥ 8 by omega)]
  have bi1 : 0 < a + (b - a) / 4 * 1 ∧ a + (b - a) / 4 * 1 + 1 < d.size := by omega
  have bi2 : 0 < a + (b - a) / 4 * 2 ∧ a + (b - a) / 4 * 2 + 1 < d.size := by omega
  have bi3 : 0 < a + (b - a) / 4 * 3 ∧ a + (b - a) / 4 * 3 + 1 < d.size := by omega
  generalize a + (b - a) / 4 * 1 = i1 at *
  generalize a + (b - a) / 4 * 2 = i2 at *
  generalize a + (b - a) / 4 * 3 = i3 at *
  by_cases h50 : b - a ≥ 50
  · rw [if_pos h50] at hcp
    have m1 := Go.Sort.medianAdjacent_count ltN d i1 0
    have a1 := Go.Sort.medianAdjacent_mem ltN d i1 0
    have kk1 := fun K hK => k_medadj (cap := cap) (K := K) h' hsp hd (by omega) i1 bi1.1 bi1.2 hK
    generalize Go.Sort.medianAdjacent ltN d i1 0 = r1 at *
    have m2 := Go.Sort.medianAdjacent_count ltN d i2 r1.2
    have a2 := Go.Sort.medianAdjacent_mem ltN d i2 r1.2
    have kk2 := fun w1 (h1 : CW (w.alloc (.cells #[.int .i64 0] 3)) w1 q o w.heap.size d r1.2) K hK => k_medadj (cap := cap) (K := K) h1.ar h1.sp hd (by omega) i2 bi2.1 bi2.2 hK
    generalize Go.Sort.medianAdjacent ltN d i2 r1.2 = r2 at *
    have m3 := Go.Sort.medianAdjacent_count ltN d i3 r2.2
    have a3 := Go.Sort.medianAdjacent_mem ltN d i3 r2.2
    have kk3 := fun w1 (h1 : CW (w.alloc (.cells #[.int .i64 0] 3)) w1 q o w.heap.size d r2.2) K hK => k_medadj (cap := cap) (K := K) h1.ar h1.sp hd (by omega) i3 bi3.1 bi3.2 hK
    generalize Go.Sort.medianAdjacent ltN d i3 r2.2 = r3 at *
    have m4 := med_k d r1.1 r2.1 r3.1 r3.2
    have kk4 := fun w1 (h1 : CW (w.alloc (.cells #[.int .i64 0] 3)) w1 q o w.heap.size d r3.2) K hK => k_median (cap := cap) (K := K) h1.ar h1.sp hd (by omega) r1.1 r2.1 r3.1 (by omega) (by omega) (by omega) hK
    generalize Go.Sort.median ltN d r1.1 r2.1 r3.1 r3.2 = r4 at *
    refine f124_call _ _ _ _ _ ?_
    unfold f124_t
    simp (disch := first | omega | simp only [RO] | (simp only [RZ] <;> omega) | fail) only [↓RBp, ↓RA, ↓reduceIte, Nat.reduceAdd, Nat.reduceMul, Nat.reduceEqDiff, RB, RBr, RW, RS, RA2, e0, e1, e2, e3]
    refine kk1 _ (fun w1 h1 => ?_)
    simp (disch := first | omega | simp only [RO] | (simp only [RZ] <;> omega) | fail) only [↓RBp, ↓RA, ↓reduceIte, Nat.reduceAdd, Nat.reduceMul, Nat.reduceEqDiff, RB, RBr, RW, RS, RA2, e0, e1, e2, e3]
    refine kk2 _ h1 _ (fun w2 h2 => ?_)
    simp (disch := first | omega | simp only [RO] | (simp only [RZ] <;> omega) | fail) only [↓RBp, ↓RA, ↓reduceIte, Nat.reduceAdd, Nat.reduceMul, Nat.reduceEqDiff, RB, RBr, RW, RS, RA2, e0, e1, e2, e3]
    refine kk3 _ (h1.trans h2) _ (fun w3 h3 => ?_)
    simp (disch := first | omega | simp only [RO] | (simp only [RZ] <;> omega) | fail) only [↓RBp, ↓RA, ↓reduceIte, Nat.reduceAdd, Nat.reduceMul, Nat.reduceEqDiff, RB, RBr, RW, RS, RA2, e0, e1, e2, e3, f124_k2_eq, f124_k2_t]
    refine kk4 _ ((h1.trans h2).trans h3) _ (fun w4 h4 => ?_)
    simp (disch := first | omega | simp only [RO] | (simp only [RZ] <;> omega) | fail) only [↓RBp, ↓RA, ↓reduceIte, Nat.reduceAdd, Nat.reduceMul, Nat.reduceEqDiff, RB, RBr, RW, RS, RA2, f124_k1_eq]
    exact fin _ _ _ (((h1.trans h2).trans h3).trans h4) (by omega) (by rw [hcp]; rfl) (by rw [hcp]; rfl)
  · rw [if_neg h50] at hcp
    have m4 := med_k d i1 i2 i3 0
    have kk4 := fun K hK => k_median (cap := cap) (K := K) h' hsp hd (by omega) i1 i2 i3 (by omega) (by omega) (by omega) hK
    generalize Go.Sort.median ltN d i1 i2 i3 0 = r4 at *
    refine f124_call _ _ _ _ _ ?_
    unfold f124_t
    simp (disch := first | omega | simp only [RO] | (simp only [RZ] <;> omega) | fail) only [↓RBp, ↓RA, ↓reduceIte, Nat.reduceAdd, Nat.reduceMul, Nat.reduceEqDiff, RB, RBr, RW, RS, RA2, e0, e1, e2, e3, f124_k2_eq, f124_k2_t]
    refine kk4 _ (fun w4 h4 => ?_)
    simp (disch := first | omega | simp only [RO] | (simp only [RZ] <;> omega) | fail) only [↓RBp, ↓RA, ↓reduceIte, Nat.reduceAdd, Nat.reduceMul, Nat.reduceEqDiff, RB, RBr, RW, RS, RA2, f124_k1_eq]
    exact fin _ _ _ h4 (by omega) (by rw [hcp]; rfl) (by rw [hcp]; rfl)
end
end Go.Proofs.YtaeopkhdokaaoaaGreatDoor
namespace Go.Proofs.YtaeopkhdokaaoaaGreatDoor
open Go Go.Sh
set_option maxRecDepth 100000
set_option maxHeartbeats 4000000
set_option linter.unusedSimpArgs false
set_option linter.unusedVariables false
theorem bitsLen_div (n k : Nat) (h : 2 ^ k ≤ n) : Go.Sort.bitsLen n = k + Go.Sort.bitsLen (n / 2 ^ k) := by
  apply Nat.le_antisymm
  · rw [Go.Sort.bitsLen_le_iff, Nat.pow_add]
    have := Go.Sort.lt_two_pow_bitsLen (n / 2 ^ k)
    have h3 := (Nat.div_lt_iff_lt_mul (Nat.two_pow_pos k)).1 this
    rw [Nat.mul_comm]; exact h3
  · have h1 := Go.Sort.lt_two_pow_bitsLen n
    have hk : k ≤ Go.Sort.bitsLen n := by
      rcases Nat.lt_or_ge (Go.Sort.bitsLen n) k with h2 | h2
      · have := Nat.pow_le_pow_right (show 0 < 2 by omega) (Nat.le_of_lt h2)
        omega
      · exact h2
    have h2 : Go.Sort.bitsLen (n / 2 ^ k) ≤ Go.Sort.bitsLen n - k := by
      rw [Go.Sort.bitsLen_le_iff, Nat.div_lt_iff_lt_mul (Nat.two_pow_pos k), ← Nat.pow_add]
      rw [Nat.sub_add_cancel hk]; exact h1
    omega
def strT (P : Program) (t : TypeId) : Bool :=
  match P.underlying t with
  | some .string => true
  | _ => false
theorem ev_strIdx {P : Program} {t : TypeId} (ht : strT P t = true) (s : ByteArray) (k : IntKind) (i : Nat) (b : UInt8) (w : World) (kk : K1) (h : s[i]? = some b) : ev P (Instr.index t (.string s) (.int k (i : Int))) w kk = kk (.int .u8 ((b.toNat : Nat) : Int)) w := by
  unfold strT at ht
  split at ht
  · rename_i hu
    refine ev_of_run ?_ kk
    simp [Instr.index, asIntOf, run_underlying_some hu, h]
  · cases ht
def tab8 : ByteArray := { data := #[0, 1, 2, 2, 3, 3, 3, 3, 4, 4, 4, 4, 4, 4, 4, 4, 5, 5, 5, 5, 5, 5, 5, 5, 5, 5, 5, 5, 5, 5, 5, 5, 6, 6, 6, 6, 6, 6, 6, 6, 6, 6, 6, 6, 6, 6, 6, 6, 6, 6, 6, 6, 6, 6, 6, 6, 6, 6, 6, 6, 6, 6, 6, 6, 7, 7, 7, 7, 7, 7, 7, 7, 7, 7, 7, 7, 7, 7, 7, 7, 7, 7, 7, 7, 7, 7, 7, 7, 7, 7, 7, 7, 7, 7, 7, 7, 7, 7, 7, 7, 7, 7, 7, 7, 7, 7, 7, 7, 7, 7, 7, 7, 7, 7, 7, 7, 7, 7, 7, 7, 7, 7, 7, 7, 7, 7, 7, 7, 8, 8, 8, 8, 8, 8, 8, 8, 8, 8, 8, 8, 8, 8, 8, 8, 8, 8, 8, 8, 8, 8, 8, 8, 8, 8, 8, 8, 8, 8, 8, 8, 8, 8, 8, 8, 8, 8, 8, 8, 8, 8, 8, 8, 8, 8, 8, 8, 8, 8, 8, 8, 8, 8, 8, 8, 8, 8, 8, 8, 8, 8, 8, 8, 8, 8, 8, 8, 8, 8, 8, 8, 8, 8, 8, 8, 8, 8, 8, 8, 8, 8, 8, 8, 8, 8, 8, 8, 8, 8, 8, 8, 8, 8, 8, 8, 8, 8, 8, 8, 8, 8, 8, 8, 8, 8, 8, 8, 8, 8, 8, 8, 8, 8, 8, 8, 8, 8, 8, 8, 8, 8, 8, 8, 8, 8, 8, 8] }
theorem tab8_get : ∀ i : Nat, i < 256 → tab8[i]? = some (UInt8.ofNat (Go.Sort.bitsLen i)) := by decide +kernel
theorem bitsLen_8 {i : Nat} (h : i < 256) : (UInt8.ofNat (Go.Sort.bitsLen i)).toNat = Go.Sort.bitsLen i := by
  have : Go.Sort.bitsLen i ≤ 8 := (Go.Sort.bitsLen_le_iff i 8).2 h
  rw [UInt8.toNat_ofNat']; omega
theorem strT_s : strT Tryz.prog 9 = true := by kernel_rfl
theorem c_Len64 (n : Nat) (hn : n < 18446744073709551616) (w : World) (K : K1) : callS Tryz.prog 131 #[.int .u64 (n : Int)] w K = K (.int .i64 ((Go.Sort.bitsLen n : Nat) : Int)) w := by
  refine callS_det (by kernel_rfl) (f131_call _ _ _ ?_) K
  unfold f131_t
  have fin : ∀ (m : Nat) (k : Int), m < 256 → 0 ≤ k → k < 100 → ((Go.Sort.bitsLen n : Nat) : Int) = k + ((Go.Sort.bitsLen m : Nat) : Int) → f131_k3_t (.int .u64 (m : Int)) (.int .i64 k) (fun v w' => v = .int .i64 ((Go.Sort.bitsLen n : Nat) : Int) ∧ w' = w) w := by
    intro m k hm hk0 hk e
    unfold f131_k3_t
    have hb := (Go.Sort.bitsLen_le_iff m 8).2 hm
    have e2 := bitsLen_8 hm
    have em : m % 256 = m := by omega
    have r1 := fun k w kk => ev_strIdx strT_s tab8 k m _ w kk (tab8_get m hm)
    simp (disch := first | omega | simp only [RO] | (simp only [RZ] <;> omega) | fail) only [↓RBp, ↓RA, ↓reduceIte, Nat.reduceAdd, Nat.reduceMul, Nat.reduceEqDiff, RB, RBr, RW, RS, RA2, em]
    refine (r1 .u8 w _).symm ▸ ?_
    simp (disch := first | omega | simp only [RO] | (simp only [RZ] <;> omega) | fail) only [↓RBp, ↓RA, ↓reduceIte, Nat.reduceAdd, Nat.reduceMul, Nat.reduceEqDiff, RB, RBr, RW, RS, RA2, e2, e]
  have b0 : ∀ m k : Nat, 2 ^ k ≤ m → ((Go.Sort.bitsLen m : Nat) : Int) = (k : Int) + ((Go.Sort.bitsLen (m / 2 ^ k) : Nat) : Int) := fun m k h => by rw [bitsLen_div m k h]; omega
  by_cases h1 : 4294967296 ≤ n
  · have q1 := b0 n 32 h1
    by_cases h2 : 65536 ≤ n / 2 ^ 32
    · have q2 := b0 (n / 2 ^ 32) 16 h2
      by_cases h3 : 256 ≤ n / 2 ^ 32 / 2 ^ 16
      · have q3 := b0 (n / 2 ^ 32 / 2 ^ 16) 8 h3
        simp (disch := first | omega | simp only [RO] | (simp only [RZ] <;> omega) | fail) only [↓RBp, ↓RA, ↓reduceIte, Nat.reduceAdd, Nat.reduceMul, Nat.reduceEqDiff, RB, RBr, RW, RS, RA2, f131_k1_eq, f131_k1_t, f131_k2_eq, f131_k2_t, f131_k3_eq]
        exact fin _ _ (by omega) (by omega) (by omega) (by omega)
      · simp (disch := first | omega | simp only [RO] | (simp only [RZ] <;> omega) | fail) only [↓RBp, ↓RA, ↓reduceIte, Nat.reduceAdd, Nat.reduceMul, Nat.reduceEqDiff, RB, RBr, RW, RS, RA2, f131_k1_eq, f131_k1_t, f131_k2_eq, f131_k2_t, f131_k3_eq]
        exact fin _ _ (by omega) (by omega) (by omega) (by omega)
    · by_cases h3 : 256 ≤ n / 2 ^ 32
      · have q3 := b0 (n / 2 ^ 32) 8 h3
        simp (disch := first | omega | simp only [RO] | (simp only [RZ] <;> omega) | fail) only [↓RBp, ↓RA, ↓reduceIte, Nat.reduceAdd, Nat.reduceMul, Nat.reduceEqDiff, RB, RBr, RW, RS, RA2, f131_k1_eq, f131_k1_t, f131_k2_eq, f131_k2_t, f131_k3_eq]
        exact fin _ _ (by omega) (by omega) (by omega) (by omega)
      · simp (disch := first | omega | simp only [RO] | (simp only [RZ] <;> omega) | fail) only [↓RBp, ↓RA, ↓reduceIte, Nat.reduceAdd, Nat.reduceMul, Nat.reduceEqDiff, RB, RBr, RW, RS, RA2, f131_k1_eq, f131_k1_t, f131_k2_eq, f131_k2_t, f131_k3_eq]
        exact fin _ _ (by omega) (by omega) (by omega) (by omega)
  · by_cases h2 : 65536 ≤ n
    · have q2 := b0 n 16 h2
      by_cases h3 : 256 ≤ n / 2 ^ 16
      · have q3 := b0 (n / 2 ^ 16) 8 h3
        simp (disch := first | omega | simp only [RO] | (simp only [RZ] <;> omega) | fail) only [↓RBp, ↓RA, ↓reduceIte, Nat.reduceAdd, Nat.reduceMul, Nat.reduceEqDiff, RB, RBr, RW, RS, RA2, f131_k1_eq, f131_k1_t, f131_k2_eq, f131_k2_t, f131_k3_eq]
        exact fin _ _ (by omega) (by omega) (by omega) (by omega)
      · simp (disch := first | omega | simp only [RO] | (simp only [RZ] <;> omega) | fail) only [↓RBp, ↓RA, ↓reduceIte, Nat.reduceAdd, Nat.reduceMul, Nat.reduceEqDiff, RB, RBr, RW, RS, RA2, f131_k1_eq, f131_k1_t, f131_k2_eq, f131_k2_t, f131_k3_eq]
        exact fin _ _ (by omega) (by omega) (by omega) (by omega)
    · by_cases h3 : 256 ≤ n
      · have q3 := b0 n 8 h3
        simp (disch := first | omega | simp only [RO] | (simp only [RZ] <;> omega) | fail) only [↓RBp, ↓RA, ↓reduceIte, Nat.reduceAdd, Nat.reduceMul, Nat.reduceEqDiff, RB, RBr, RW, RS, RA2, f131_k1_eq, f131_k1_t, f131_k2_eq, f131_k2_t, f131_k3_eq]
        exact fin _ _ (by omega) (by omega) (by omega) (by omega)
      · simp (disch := first | omega | simp only [RO] | (simp only [RZ] <;> omega) | fail) only [↓RBp, ↓RA, ↓reduceIte, Nat.reduceAdd, Nat.reduceMul, Nat.reduceEqDiff, RB, RBr, RW, RS, RA2, f131_k1_eq, f131_k1_t, f131_k2_eq, f131_k2_t, f131_k3_eq]
        exact fin _ _ (by omega) (by omega) (by omega) (by omega)
theorem c_Len (n : Nat) (hn : n < 18446744073709551616) (w : World) (K : K1) : callS Tryz.prog 108 #[.int .u64 (n : Int)] w K = K (.int .i64 ((Go.Sort.bitsLen n : Nat) : Int)) w := by
  refine callS_det (by kernel_rfl) (f108_call _ _ _ ?_) K
  unfold f108_t
  simp (disch := first | omega | simp only [RO] | (simp only [RZ] <;> omega) | fail) only [↓RBp, ↓RA, ↓reduceIte, Nat.reduceAdd, Nat.reduceMul, Nat.reduceEqDiff, RB, RBr, RW, RS, RA2, c_Len64]
theorem c_npow (n : Nat) (hn : n < 1099511627776) (w : World) (K : K1) : callS Tryz.prog 136 #[.int .i64 (n : Int)] w K = K (.int .u64 ((2 ^ Go.Sort.bitsLen n : Nat) : Int)) w := by
  refine callS_det (by kernel_rfl) (f136_call _ _ _ ?_) K
  unfold f136_t
  have hb : Go.Sort.bitsLen n ≤ 40 := (Go.Sort.bitsLen_le_iff n 40).2 (by omega)
  have e : 1 * 2 ^ Go.Sort.bitsLen n % 18446744073709551616 = 2 ^ Go.Sort.bitsLen n := by
    rw [Nat.one_mul]
    exact Nat.mod_eq_of_lt (Nat.lt_of_le_of_lt (Nat.pow_le_pow_right (by omega) hb) (by decide))
  simp (disch := first | omega | simp only [RO] | (simp only [RZ] <;> omega) | fail) only [↓RBp, ↓RA, ↓reduceIte, Nat.reduceAdd, Nat.reduceMul, Nat.reduceEqDiff, RB, RBr, RW, RS, RA2, c_Len, e]
section
variable {w w' : World} {q o cap : Nat} {d : Array Nat}
def Rn (w : World) (s x : Nat) : Prop := Cells w s 195 1 (fun _ => .int .u64 (x : Int))
theorem Rn.cell {s k : Nat} (h : Rn w s k) : w.cell? ⟨s, 0, none⟩ = some (.int .u64 (k : Int)) := Cells.cell h (by omega)
theorem Rn.frz {s k : Nat} (h : Rn w s k) : w.frozen? ⟨s, 0, none⟩ = false := Cells.frz h 0
theorem Rn.set {s k : Nat} (h : Rn w s k) (x : Nat) : Rn (w.setCell ⟨s, 0, none⟩ (.int .u64 (x : Int))) s x := by
  refine (Cells.set h (i := 0) (.int .u64 (x : Int)) (by omega)).congr ?_
  intro i hi
  have e : i = 0 := by omega
  rw [if_pos e]
theorem k_xor {s x : Nat} (h : Rn w s x) (hx : x < 18446744073709551616) (K : K1) (hK : ∀ w', Rn w' s (Go.Sort.xorNextN x) → Frm (fun b => b = s) w w' → K (.int .u64 ((Go.Sort.xorNextN x : Nat) : Int)) w') : callS Tryz.prog 137 #[.pointer (some ⟨s, 0, none⟩)] w K := by
  refine f137_call _ _ _ ?_
  unfold f137_t
  have p : (18446744073709551616 : Nat) = 2 ^ 64 := by decide
  have g1 : x ^^^ (x * 2 ^ 13 % 18446744073709551616) < 18446744073709551616 := Nat.xor_lt_two_pow (n := 64) (by omega) (by omega)
  have h1 := h.set (x ^^^ (x * 2 ^ 13 % 18446744073709551616))
  have g2 : (x ^^^ (x * 2 ^ 13 % 18446744073709551616)) ^^^ ((x ^^^ (x * 2 ^ 13 % 18446744073709551616)) / 2 ^ 7) < 18446744073709551616 := Nat.xor_lt_two_pow (n := 64) g1 (by omega)
  have h2 := h1.set ((x ^^^ (x * 2 ^ 13 % 18446744073709551616)) ^^^ ((x ^^^ (x * 2 ^ 13 % 18446744073709551616)) / 2 ^ 7))
  have h3 := h2.set (((x ^^^ (x * 2 ^ 13 % 18446744073709551616)) ^^^ ((x ^^^ (x * 2 ^ 13 % 18446744073709551616)) / 2 ^ 7)) ^^^ (((x ^^^ (x * 2 ^ 13 % 18446744073709551616)) ^^^ ((x ^^^ (x * 2 ^ 13 % 18446744073709551616)) / 2 ^ 7)) * 2 ^ 17 % 18446744073709551616))
  have m1 : ∀ y : Nat, y % 18446744073709551616 < 18446744073709551616 := fun y => Nat.mod_lt _ (by omega)
  have m2 : (x ^^^ (x * 2 ^ 13 % 18446744073709551616)) / 2 ^ 7 < 18446744073709551616 := by omega
  have m3 := m1 (x * 2 ^ 13)
  have m4 := m1 (((x ^^^ (x * 2 ^ 13 % 18446744073709551616)) ^^^ ((x ^^^ (x * 2 ^ 13 % 18446744073709551616)) / 2 ^ 7)) * 2 ^ 17)
  have e : Go.Sort.xorNextN x = ((x ^^^ (x * 2 ^ 13 % 18446744073709551616)) ^^^ ((x ^^^ (x * 2 ^ 13 % 18446744073709551616)) / 2 ^ 7)) ^^^ (((x ^^^ (x * 2 ^ 13 % 18446744073709551616)) ^^^ ((x ^^^ (x * 2 ^ 13 % 18446744073709551616)) / 2 ^ 7)) * 2 ^ 17 % 18446744073709551616) := rfl
  rw [← e] at h3
  simp (disch := first | assumption | decide | simp only [RO] | fail) only [↓RBp, ↓RA, ↓reduceIte, Nat.reduceAdd, Nat.reduceMul, Nat.reduceEqDiff, RB, RBr, RW, RS, RA2, h.cell, h.frz, h1.cell, h1.frz, h2.cell, h2.frz, h3.cell, ← e]
  refine hK _ h3 ?_
  exact (((((Frm.refl (fun b => b = s) w).set _ (fun _ => rfl)).set _ (fun _ => rfl)).set _ (fun _ => rfl)).drew.drew).drew
def bst (a len m : Nat) (st : UInt64 × Array Nat) (idx : Nat) : Nat → UInt64 × Array Nat
  | 0 => st
  | k + 1 => Go.Sort.breakStep a len m (bst a len m st idx k) (idx + k)
theorem bst_size (a len m : Nat) (st : UInt64 × Array Nat) (idx : Nat) : ∀ k, (bst a len m st idx k).2.size = st.2.size := by
  intro k
  induction k with
  | zero => rfl
  | succ k ih => show (Go.Sort.swp _ _ _).size = _; rw [swp_size, ih]
theorem break_eq (d : Array Nat) (a b : Nat) (h : b - a ≥ 8) : Go.Sort.breakPatterns d a b = (bst a (b - a) (1 <<< Go.Sort.bitsLen (b - a)) (UInt64.ofNat (b - a), d) (a + (b - a) / 4 * 2 - 1) 3).2 := by
  unfold Go.Sort.breakPatterns; simp only [if_pos h]; rfl
theorem k_break (h : Ar w q o d) (hd : d.size < 1099511627776) (a b : Nat) (hab : a + 12 < b) (hb : b ≤ d.size) (K : K1) (hK : ∀ w', SW w w' q o (Go.Sort.breakPatterns d a b) → (Go.Sort.breakPatterns d a b).size = d.size → K (.tuple #[]) w') :
    callS Tryz.prog 123 #[.slice (some ⟨q, o, none⟩) d.size cap, .int .i64 (a : Int), .int .i64 (b : Int)] w K := by
  have h8 : b - a ≥ 8 := by omega
  rw [break_eq d a b h8] at hK
  have e0 : (b : Int) - (a : Int) = ((b - a : Nat) : Int) := by omega
  have e1 : (a : Int) + ((b - a : Nat) : Int) / 4 * 2 = ((a + (b - a) / 4 * 2 : Nat) : Int) := by omega
  have e2 : ((a + (b - a) / 4 * 2 : Nat) : Int) - 1 = ((a + (b - a) / 4 * 2 - 1 : Nat) : Int) := by omega
  have e3 : ((a + (b - a) / 4 * 2 : Nat) : Int) + 1 = ((a + (b - a) / 4 * 2 + 1 : Nat) : Int) := by omega
  have hm : 1 <<< Go.Sort.bitsLen (b - a) = 2 ^ Go.Sort.bitsLen (b - a) := by rw [Nat.shiftLeft_eq, Nat.one_mul]
  have hm2 := Go.Sort.two_pow_bitsLen_le (n := b - a) (by omega)
  have hm0 := Nat.two_pow_pos (Go.Sort.bitsLen (b - a))
  have hlen : b - a < 1099511627776 := by omega
  have cn := fun w K => c_npow (b - a) hlen w K
  rw [hm] at hK
  generalize 2 ^ Go.Sort.bitsLen (b - a) = m at *
  have hidx : a + (b - a) / 4 * 2 - 1 + 2 < b ∧ a ≤ a + (b - a) / 4 * 2 - 1 ∧ a + (b - a) / 4 * 2 + 1 = a + (b - a) / 4 * 2 - 1 + 2 := by omega
  rw [hidx.2.2] at e3
  generalize a + (b - a) / 4 * 2 - 1 = ix at *
  have hu : (UInt64.ofNat (b - a)).toNat = b - a := by rw [UInt64.toNat_ofNat']; omega
  refine f123_call _ _ _ _ _ ?_
  unfold f123_t
  simp (disch := first | omega | simp only [RO] | (simp only [RZ] <;> omega) | fail) only [↓RBp, ↓RA, ↓reduceIte, Nat.reduceAdd, Nat.reduceMul, Nat.reduceEqDiff, RB, RBr, RW, RS, RA2, e0, e1, e2, cn]
  have hrn : Rn (w.alloc (.cells #[.int .u64 ((b - a : Nat) : Int)] 195)) w.heap.size (b - a) := (Cells.new w [.int .u64 ((b - a : Nat) : Int)] 195).congr (fun i hi => by have e : i = 0 := (by simpa using hi); subst e; rfl)
  have h' := h.alloc (.cells #[.int .u64 ((b - a : Nat) : Int)] 195)
  have hqs := h.lt
  apply f123_l1_rule (I := fun x w' => ∃ k : Nat, x = .int .i64 ((ix + k : Nat) : Int) ∧ k ≤ 3 ∧ Rn w' w.heap.size (bst a (b - a) m (UInt64.ofNat (b - a), d) ix k).1.toNat ∧ Ar w' q o (bst a (b - a) m (UInt64.ofNat (b - a), d) ix k).2 ∧ Frm (fun x => x = q ∨ x = w.heap.size) (w.alloc (.cells #[.int .u64 ((b - a : Nat) : Int)] 195)) w') (μ := fun x _ => ix + 3 - (Go.RowKit.intOf x).toNat)
  · exact ⟨0, rfl, by omega, by rw [show (bst a (b - a) m (UInt64.ofNat (b - a), d) ix 0).1.toNat = b - a from hu]; exact hrn, h', Frm.refl _ _⟩
  · intros; rename_i w1 hI E1 hE
    obtain ⟨k, rfl, hk, hr, ar, hf⟩ := hI
    have hsz : (bst a (b - a) m (UInt64.ofNat (b - a), d) ix k).2.size = d.size := bst_size a (b - a) m (UInt64.ofNat (b - a), d) ix k
    by_cases hk3 : k < 3
    · have hst : bst a (b - a) m (UInt64.ofNat (b - a), d) ix (k + 1) = Go.Sort.breakStep a (b - a) m (bst a (b - a) m (UInt64.ofNat (b - a), d) ix k) (ix + k) := rfl
      generalize hB : bst a (b - a) m (UInt64.ofNat (b - a), d) ix k = B at *
      have hlt : B.1.toNat < 18446744073709551616 := B.1.toNat_lt
      have hxl := Go.Sort.xorNextN_lt _ hlt
      have hxe := Go.Sort.xorNext_toNat B.1
      unfold f123_l1_t
      simp (disch := first | omega | simp only [RO] | (simp only [RZ] <;> omega) | fail) only [↓RBp, ↓RA, ↓reduceIte, Nat.reduceAdd, Nat.reduceMul, Nat.reduceEqDiff, RB, RBr, RW, RS, RA2, e1, e3]
      refine k_xor hr hlt _ (fun w2 hr2 hf2 => ?_)
      have hand : Go.Sort.xorNextN B.1.toNat &&& (m - 1) ≤ m - 1 := Nat.and_le_right
      have ar2 : Ar w2 q o B.2 := ar.frm hf2 (by omega)
      generalize hy : Go.Sort.xorNextN B.1.toNat &&& (m - 1) = y at *
      have hstep : ∀ ot, ot = (if y ≥ b - a then y - (b - a) else y) → bst a (b - a) m (UInt64.ofNat (b - a), d) ix (k + 1) = (Go.Sort.xorNext B.1, Go.Sort.swp B.2 (ix + k) (a + ot)) := by
        intro ot ho
        rw [hst]; unfold Go.Sort.breakStep; simp only [hxe, hy, ← ho]
      have fin : ∀ ot, ot = (if y ≥ b - a then y - (b - a) else y) → a + ot < b → ∀ (w3 : World), w3 = ((w2.setCell ⟨q, o + (ix + k), none⟩ (.int .u64 ((B.2[a + ot]! : Nat) : Int))).setCell ⟨q, o + (a + ot), none⟩ (.int .u64 ((B.2[ix + k]! : Nat) : Int))).drew →
          ∃ k' : Nat, Value.int .i64 (((ix + k : Nat) : Int) + 1) = .int .i64 ((ix + k' : Nat) : Int) ∧ k' ≤ 3 ∧ Rn w3 w.heap.size (bst a (b - a) m (UInt64.ofNat (b - a), d) ix k').1.toNat ∧ Ar w3 q o (bst a (b - a) m (UInt64.ofNat (b - a), d) ix k').2 ∧ Frm (fun x => x = q ∨ x = w.heap.size) (w.alloc (.cells #[.int .u64 ((b - a : Nat) : Int)] 195)) w3 := by
        intro ot ho hob w3 hw3
        subst hw3
        refine ⟨k + 1, by congr 1, by omega, ?_, ?_, ?_⟩
        · rw [hstep ot ho]
          show Rn _ _ (Go.Sort.xorNext B.1).toNat
          rw [hxe]
          exact ((Cells.set_ne hr2 _ (by show w.heap.size ≠ q; omega)).set_ne _ (by show w.heap.size ≠ q; omega)).drew
        · rw [hstep ot ho]
          exact ((SW.refl ar2).swp (ix + k) (a + ot) (by rw [hsz]; omega) (by rw [hsz]; omega)).drew.ar
        · exact (((hf.trans (hf2.mono (fun x hx => (.inr hx : x = q ∨ x = w.heap.size))) (fun _ _ h => h)).set _ (fun _ => .inl rfl)).set _ (fun _ => .inl rfl)).drew
      by_cases hyl : y ≥ b - a
      · have hot : y - (b - a) = (if y ≥ b - a then y - (b - a) else y) := by rw [if_pos hyl]
        have e4 : (y : Int) - ((b - a : Nat) : Int) = ((y - (b - a) : Nat) : Int) := by omega
        have e5 : (a : Int) + ((y - (b - a) : Nat) : Int) = ((a + (y - (b - a)) : Nat) : Int) := by omega
        have hob : a + (y - (b - a)) < b := by omega
        have fin2 := fin _ hot hob _ rfl
        generalize y - (b - a) = ot at *
        have c1 := ar2.cell (a + ot) (by rw [hsz]; omega)
        have c2 := ar2.cell (ix + k) (by rw [hsz]; omega)
        have ar3 := ar2.set (ix + k) B.2[a + ot]! (by rw [hsz]; omega)
        have c3 := ar3.cell (a + ot) (by simp; rw [hsz]; omega)
        (repeat' (first | (with_reducible refine brS_mk (fun _ => ?_) (fun _ => ?_)) | (with_reducible refine And.intro ?_ ?_) | (simp (disch := first | omega | simp only [RO] | (simp only [RZ] <;> omega) | fail) only [↓RBp, ↓RA, ↓reduceIte, Nat.reduceAdd, Nat.reduceMul, Nat.reduceEqDiff, RB, RBr, RW, RS, RA2, hy, e4, e5, c1, c2, c3, ar2.frz, ar3.frz, f123_k1_eq, f123_k1_t])))
        apply hE
        · exact fin2
        · simp [Go.RowKit.intOf]; omega
      · have hot : y = (if y ≥ b - a then y - (b - a) else y) := by rw [if_neg hyl]
        have e5 : (a : Int) + (y : Int) = ((a + y : Nat) : Int) := by omega
        have hob : a + y < b := by omega
        have fin2 := fin _ hot hob _ rfl
        have c1 := ar2.cell (a + y) (by rw [hsz]; omega)
        have c2 := ar2.cell (ix + k) (by rw [hsz]; omega)
        have ar3 := ar2.set (ix + k) B.2[a + y]! (by rw [hsz]; omega)
        have c3 := ar3.cell (a + y) (by simp; rw [hsz]; omega)
        (repeat' (first | (with_reducible refine brS_mk (fun _ => ?_) (fun _ => ?_)) | (with_reducible refine And.intro ?_ ?_) | (simp (disch := first | omega | simp only [RO] | (simp only [RZ] <;> omega) | fail) only [↓RBp, ↓RA, ↓reduceIte, Nat.reduceAdd, Nat.reduceMul, Nat.reduceEqDiff, RB, RBr, RW, RS, RA2, hy, e5, c1, c2, c3, ar2.frz, ar3.frz, f123_k1_eq, f123_k1_t])))
        apply hE
        · exact fin2
        · simp [Go.RowKit.intOf]; omega
    · have : k = 3 := by omega
      subst this
      unfold f123_l1_t
      simp (disch := first | omega | simp only [RO] | (simp only [RZ] <;> omega) | fail) only [↓RBp, ↓RA, ↓reduceIte, Nat.reduceAdd, Nat.reduceMul, Nat.reduceEqDiff, RB, RBr, RW, RS, RA2, e1, e3]
      refine hK _ ⟨ar, ?_⟩ hsz
      have hf3 := (Frm.of_ext (F := fun x => x = q ∨ x = w.heap.size) (Ext.alloc_self w (.cells #[.int .u64 ((b - a : Nat) : Int)] 195))).trans hf (fun _ _ h => h)
      exact ⟨hf3.os, hf3.tape, hf3.output, hf3.size, fun x hx hn => hf3.block x hx (by rintro (h | h); exact hn h; omega)⟩
end
end Go.Proofs.YtaeopkhdokaaoaaGreatDoor
namespace Go.Proofs.YtaeopkhdokaaoaaGreatDoor
open Go Go.Sh
set_option maxRecDepth 100000
set_option maxHeartbeats 4000000
set_option linter.unusedSimpArgs false
set_option linter.unusedVariables false
section
variable {w w' : World} {q o cap : Nat} {d : Array Nat}
theorem sift_eq (hi first root : Nat) (d : Array Nat) : Go.Sort.siftDown ltN hi first root d = if 2 * root + 1 ≥ hi then d else
    if (decide (2 * root + 1 + 1 < hi) && ltN d[first + (2 * root + 1)]! d[first + (2 * root + 1) + 1]!) = true then
      (if ltN d[first + root]! d[first + (2 * root + 2)]! = true then Go.Sort.siftDown ltN hi first (2 * root + 2) (Go.Sort.swp d (first + root) (first + (2 * root + 2))) else d)
    else (if ltN d[first + root]! d[first + (2 * root + 1)]! = true then Go.Sort.siftDown ltN hi first (2 * root + 1) (Go.Sort.swp d (first + root) (first + (2 * root + 1))) else d) := by
  rw [Go.Sort.siftDown]
  by_cases h1 : 2 * root + 1 ≥ hi
  · rw [dif_pos h1, if_pos h1]
  · rw [dif_neg h1, if_neg h1]
    by_cases h2 : (decide (2 * root + 1 + 1 < hi) && ltN d[first + (2 * root + 1)]! d[first + (2 * root + 1) + 1]!) = true
    · rw [if_pos h2, if_pos h2]
      have h3 : 2 * root + 2 < hi := by simp at h2; omega
      cases h4 : ltN d[first + root]! d[first + (2 * root + 2)]! with
      | true => simp [h3]
      | false => simp
    · rw [if_neg h2, if_neg h2]
      cases h4 : ltN d[first + root]! d[first + (2 * root + 1)]! with
      | true => simp
      | false => simp
theorem k_sift (h : Ar w q o d) (hd : d.size < 1099511627776) (lo hi first : Nat) (hlo : lo ≤ hi + 1) (hb : first + hi ≤ d.size) (K : K1) (hK : ∀ w', SW w w' q o (Go.Sort.siftDown ltN hi first lo d) → (Go.Sort.siftDown ltN hi first lo d).size = d.size → K (.tuple #[]) w') :
    callS Tryz.prog 135 #[.slice (some ⟨q, o, none⟩) d.size cap, .int .i64 (lo : Int), .int .i64 (hi : Int), .int .i64 (first : Int)] w K := by
  refine f135_call _ _ _ _ _ _ ?_
  unfold f135_t
  apply f135_l1_rule (I := fun x w' => ∃ (root : Nat) (d' : Array Nat), x = .int .i64 (root : Int) ∧ root ≤ hi + 1 ∧ d'.size = d.size ∧ SW w w' q o d' ∧ Go.Sort.siftDown ltN hi first root d' = Go.Sort.siftDown ltN hi first lo d) (μ := fun x _ => hi + 1 - (Go.RowKit.intOf x).toNat)
  · exact ⟨lo, d, rfl, hlo, rfl, SW.refl h, rfl⟩
  · intros; rename_i w1 hI E1 hE
    obtain ⟨root, d1, rfl, hr, hs, sw, e⟩ := hI
    rw [sift_eq] at e
    have ar := sw.ar
    have g1 : 2 * (root : Int) + 1 = ((2 * root + 1 : Nat) : Int) := by omega
    have g2 : ((2 * root + 1 : Nat) : Int) + 1 = ((2 * root + 2 : Nat) : Int) := by omega
    have g3 : (first : Int) + ((2 * root + 1 : Nat) : Int) = ((first + (2 * root + 1) : Nat) : Int) := by omega
    have g4 : ((first + (2 * root + 1) : Nat) : Int) + 1 = ((first + (2 * root + 1) + 1 : Nat) : Int) := by omega
    have g5 : (first : Int) + ((2 * root + 2 : Nat) : Int) = ((first + (2 * root + 2) : Nat) : Int) := by omega
    have g6 : (first : Int) + (root : Int) = ((first + root : Nat) : Int) := by omega
    by_cases h1 : 2 * root + 1 ≥ hi
    · rw [if_pos h1] at e
      unfold f135_l1_t
      simp (disch := first | omega | simp only [RO] | (simp only [RZ] <;> omega) | fail) only [↓RBp, ↓RA, ↓reduceIte, Nat.reduceAdd, Nat.reduceMul, Nat.reduceEqDiff, RB, RBr, RW, RS, RA2, g1]
      rw [← e] at hK
      exact hK _ sw hs
    · rw [if_neg h1] at e
      have c1 := ar.cell (first + (2 * root + 1)) (by omega)
      have c0 := ar.cell (first + root) (by omega)
      have r12 : first + (2 * root + 1) + 1 = first + (2 * root + 2) := by omega
      by_cases h2 : 2 * root + 1 + 1 < hi
      · have c2 := ar.cell (first + (2 * root + 2)) (by omega)
        rw [r12] at g4 e
        cases h3 : ltN d1[first + (2 * root + 1)]! d1[first + (2 * root + 2)]! with
        | true =>
          rw [h3, if_pos (by simp; omega)] at e
          cases h4 : ltN d1[first + root]! d1[first + (2 * root + 2)]! with
          | true =>
            rw [h4, if_pos rfl] at e
            have ar2 := ar.set (first + root) d1[first + (2 * root + 2)]! (by omega)
            have c3 := ar2.cell (first + (2 * root + 2)) (by simp; omega)
            have ssw := sw.swp (first + root) (first + (2 * root + 2)) (by omega) (by omega)
            unfold f135_l1_t
            (repeat' (first | (with_reducible refine brS_mk (fun _ => ?_) (fun _ => ?_)) | (with_reducible refine And.intro ?_ ?_) | (simp (disch := first | omega | simp only [RO] | (simp only [RZ] <;> omega) | fail) only [↓RBp, ↓RA, ↓reduceIte, Nat.reduceAdd, Nat.reduceMul, Nat.reduceEqDiff, RB, RBr, RW, RS, RA2, g1, g2, g3, g4, g5, g6, c0, c1, c2, c_Less, h3, h4, c3, ar.frz, ar2.frz, f135_k1_eq, f135_k1_t])))
            apply hE
            · exact ⟨2 * root + 2, _, rfl, by omega, (swp_size _ _ _).trans hs, ssw.drew.drew.drew, e⟩
            · simp [Go.RowKit.intOf]; omega
          | false =>
            rw [h4, if_neg (by simp)] at e
            unfold f135_l1_t
            (repeat' (first | (with_reducible refine brS_mk (fun _ => ?_) (fun _ => ?_)) | (with_reducible refine And.intro ?_ ?_) | (simp (disch := first | omega | simp only [RO] | (simp only [RZ] <;> omega) | fail) only [↓RBp, ↓RA, ↓reduceIte, Nat.reduceAdd, Nat.reduceMul, Nat.reduceEqDiff, RB, RBr, RW, RS, RA2, g1, g2, g3, g4, g5, g6, c0, c1, c2, c_Less, h3, h4, f135_k1_eq, f135_k1_t])))
            rw [← e] at hK
            exact hK _ sw.drew.drew hs
        | false =>
          rw [h3, if_neg (by simp)] at e
          cases h4 : ltN d1[first + root]! d1[first + (2 * root + 1)]! with
          | true =>
            rw [h4, if_pos rfl] at e
            have ar2 := ar.set (first + root) d1[first + (2 * root + 1)]! (by omega)
            have c3 := ar2.cell (first + (2 * root + 1)) (by simp; omega)
            have ssw := sw.swp (first + root) (first + (2 * root + 1)) (by omega) (by omega)
            unfold f135_l1_t
            (repeat' (first | (with_reducible refine brS_mk (fun _ => ?_) (fun _ => ?_)) | (with_reducible refine And.intro ?_ ?_) | (simp (disch := first | omega | simp only [RO] | (simp only [RZ] <;> omega) | fail) only [↓RBp, ↓RA, ↓reduceIte, Nat.reduceAdd, Nat.reduceMul, Nat.reduceEqDiff, RB, RBr, RW, RS, RA2, g1, g2, g3, g4, g5, g6, c0, c1, c2, c_Less, h3, h4, c3, ar.frz, ar2.frz, f135_k1_eq, f135_k1_t])))
            apply hE
            · exact ⟨2 * root + 1, _, rfl, by omega, (swp_size _ _ _).trans hs, ssw.drew.drew.drew, e⟩
            · simp [Go.RowKit.intOf]; omega
          | false =>
            rw [h4, if_neg (by simp)] at e
            unfold f135_l1_t
            (repeat' (first | (with_reducible refine brS_mk (fun _ => ?_) (fun _ => ?_)) | (with_reducible refine And.intro ?_ ?_) | (simp (disch := first | omega | simp only [RO] | (simp only [RZ] <;> omega) | fail) only [↓RBp, ↓RA, ↓reduceIte, Nat.reduceAdd, Nat.reduceMul, Nat.reduceEqDiff, RB, RBr, RW, RS, RA2, g1, g2, g3, g4, g5, g6, c0, c1, c2, c_Less, h3, h4, f135_k1_eq, f135_k1_t])))
            rw [← e] at hK
            exact hK _ sw.drew.drew hs
      · rw [if_neg (by simp; omega)] at e
        have h3 : True := trivial
        cases h4 : ltN d1[first + root]! d1[first + (2 * root + 1)]! with
        | true =>
          rw [h4, if_pos rfl] at e
          have ar2 := ar.set (first + root) d1[first + (2 * root + 1)]! (by omega)
          have c3 := ar2.cell (first + (2 * root + 1)) (by simp; omega)
          have ssw := sw.swp (first + root) (first + (2 * root + 1)) (by omega) (by omega)
          unfold f135_l1_t
          (repeat' (first | (with_reducible refine brS_mk (fun _ => ?_) (fun _ => ?_)) | (with_reducible refine And.intro ?_ ?_) | (simp (disch := first | omega | simp only [RO] | (simp only [RZ] <;> omega) | fail) only [↓RBp, ↓RA, ↓reduceIte, Nat.reduceAdd, Nat.reduceMul, Nat.reduceEqDiff, RB, RBr, RW, RS, RA2, g1, g2, g3, g4, g5, g6, c0, c1, c_Less, h4, c3, ar.frz, ar2.frz, f135_k1_eq, f135_k1_t])))
          apply hE
          · exact ⟨2 * root + 1, _, rfl, by omega, (swp_size _ _ _).trans hs, ssw.drew.drew.drew, e⟩
          · simp [Go.RowKit.intOf]; omega
        | false =>
          rw [h4, if_neg (by simp)] at e
          unfold f135_l1_t
          (repeat' (first | (with_reducible refine brS_mk (fun _ => ?_) (fun _ => ?_)) | (with_reducible refine And.intro ?_ ?_) | (simp (disch := first | omega | simp only [RO] | (simp only [RZ] <;> omega) | fail) only [↓RBp, ↓RA, ↓reduceIte, Nat.reduceAdd, Nat.reduceMul, Nat.reduceEqDiff, RB, RBr, RW, RS, RA2, g1, g2, g3, g4, g5, g6, c0, c1, c_Less, h4, f135_k1_eq, f135_k1_t])))
          rw [← e] at hK
          exact hK _ sw.drew.drew hs
theorem sift_size : ∀ (m hi first root : Nat) (d : Array Nat), hi - root ≤ m → (Go.Sort.siftDown ltN hi first root d).size = d.size := by
  intro m
  induction m with
  | zero => intro hi first root d h; rw [sift_eq, if_pos (by omega)]
  | succ m ih =>
    intro hi first root d h
    rw [sift_eq]
    split
    · rfl
    · split
      · split
        · rw [ih _ _ _ _ (by omega), swp_size]
        · rfl
      · split
        · rw [ih _ _ _ _ (by omega), swp_size]
        · rfl
theorem k_heap (h : Ar w q o d) (hd : d.size < 1099511627776) (a b : Nat) (hab : a < b) (hb : b ≤ d.size) (K : K1) (hK : ∀ w', SW w w' q o (Go.Sort.heapSort ltN d a b) → (Go.Sort.heapSort ltN d a b).size = d.size → K (.tuple #[]) w') :
    callS Tryz.prog 122 #[.slice (some ⟨q, o, none⟩) d.size cap, .int .i64 (a : Int), .int .i64 (b : Int)] w K := by
  have e0 : (b : Int) - (a : Int) = ((b - a : Nat) : Int) := by omega
  have e1 : (((b - a : Nat) : Int) - 1) / 2 = (((b - a - 1) / 2 + 1 : Nat) : Int) - 1 := by omega
  refine f122_call _ _ _ _ _ ?_
  unfold f122_t
  simp (disch := first | omega | simp only [RO] | (simp only [RZ] <;> omega) | fail) only [↓RBp, ↓RA, ↓reduceIte, Nat.reduceAdd, Nat.reduceMul, Nat.reduceEqDiff, RB, RBr, RW, RS, RA2, e0, e1]
  apply f122_l1_rule (I := fun x w' => ∃ (k : Nat) (d' : Array Nat), x = .int .i64 ((k : Int) - 1) ∧ k ≤ (b - a - 1) / 2 + 1 ∧ d'.size = d.size ∧ SW w w' q o d' ∧ Go.Sort.heapPop ltN a (b - a) (Go.Sort.heapBuild ltN (b - a) a k d') = Go.Sort.heapSort ltN d a b) (μ := fun x _ => ((Go.RowKit.intOf x) + 1).toNat)
  · exact ⟨(b - a - 1) / 2 + 1, d, rfl, by omega, rfl, SW.refl h, rfl⟩
  · intros; rename_i w1 hI E1 hE
    obtain ⟨k, d1, rfl, hk, hs, sw, e⟩ := hI
    cases k with
    | zero =>
      unfold f122_l1_t
      have e2 : ((b - a : Nat) : Int) - 1 = ((b - a : Nat) : Int) - 1 := rfl
      simp (disch := first | omega | simp only [RO] | (simp only [RZ] <;> omega) | fail) only [↓RBp, ↓RA, ↓reduceIte, Nat.reduceAdd, Nat.reduceMul, Nat.reduceEqDiff, RB, RBr, RW, RS, RA2, f122_k1_eq, f122_k1_t]
      apply f122_l2_rule (I := fun x w' => ∃ (k : Nat) (d' : Array Nat), x = .int .i64 ((k : Int) - 1) ∧ k ≤ b - a ∧ d'.size = d.size ∧ SW w w' q o d' ∧ Go.Sort.heapPop ltN a k d' = Go.Sort.heapSort ltN d a b) (μ := fun x _ => ((Go.RowKit.intOf x) + 1).toNat)
      · exact ⟨b - a, d1, rfl, by omega, hs, sw, e⟩
      · intros; rename_i w2 hI2 E2 hE2
        obtain ⟨k, d2, rfl, hk2, hs2, sw2, e3⟩ := hI2
        cases k with
        | zero =>
          unfold f122_l2_t
          have e4 : Go.Sort.heapPop ltN a 0 d2 = d2 := rfl
          rw [e4] at e3
          simp (disch := first | omega | simp only [RO] | (simp only [RZ] <;> omega) | fail) only [↓RBp, ↓RA, ↓reduceIte, Nat.reduceAdd, Nat.reduceMul, Nat.reduceEqDiff, RB, RBr, RW, RS, RA2]
          rw [← e3] at hK
          exact hK _ sw2 hs2
        | succ k =>
          have e4 : Go.Sort.heapPop ltN a (k + 1) d2 = Go.Sort.heapPop ltN a k (Go.Sort.siftDown ltN k a 0 (Go.Sort.swp d2 a (a + k))) := rfl
          rw [e4] at e3
          have g1 : ((k + 1 : Nat) : Int) - 1 = (k : Int) := by omega
          have g2 : (a : Int) + (k : Int) = ((a + k : Nat) : Int) := by omega
          have ar := sw2.ar
          have c0 := ar.cell a (by omega)
          have c1 := ar.cell (a + k) (by omega)
          have ar2 := ar.set a d2[a + k]! (by omega)
          have c3 := ar2.cell (a + k) (by simp; omega)
          have ssw := sw2.swp a (a + k) (by omega) (by omega)
          have hsz := swp_size d2 a (a + k)
          unfold f122_l2_t
          (repeat' (first | (with_reducible refine brS_mk (fun _ => ?_) (fun _ => ?_)) | (with_reducible refine And.intro ?_ ?_) | (simp (disch := first | omega | simp only [RO] | (simp only [RZ] <;> omega) | fail) only [↓RBp, ↓RA, ↓reduceIte, Nat.reduceAdd, Nat.reduceMul, Nat.reduceEqDiff, RB, RBr, RW, RS, RA2, g1, g2, c0, c1, c3, ar.frz, ar2.frz])))
          have hb2 : d.size = (Go.Sort.swp d2 a (a + k)).size := by rw [hsz, hs2]
          rw [hb2]
          refine k_sift (cap := cap) ssw.drew.ar (by omega) 0 k a (by omega) (by omega) _ (fun w3 h3 hz3 => ?_)
          rw [← hb2] at hz3; try rw [← hb2]
          simp (disch := first | omega | simp only [RO] | (simp only [RZ] <;> omega) | fail) only [↓RBp, ↓RA, ↓reduceIte, Nat.reduceAdd, Nat.reduceMul, Nat.reduceEqDiff, RB, RBr, RW, RS, RA2]
          apply hE2
          · exact ⟨k, _, by rw [g1], by omega, hz3, ssw.drew.trans h3, e3⟩
          · simp [Go.RowKit.intOf]
    | succ k =>
      have e4 : Go.Sort.heapBuild ltN (b - a) a (k + 1) d1 = Go.Sort.heapBuild ltN (b - a) a k (Go.Sort.siftDown ltN (b - a) a k d1) := rfl
      rw [e4] at e
      have g1 : ((k + 1 : Nat) : Int) - 1 = (k : Int) := by omega
      unfold f122_l1_t
      simp (disch := first | omega | simp only [RO] | (simp only [RZ] <;> omega) | fail) only [↓RBp, ↓RA, ↓reduceIte, Nat.reduceAdd, Nat.reduceMul, Nat.reduceEqDiff, RB, RBr, RW, RS, RA2, g1]
      rw [← hs]
      refine k_sift (cap := cap) sw.ar (by omega) k (b - a) a (by omega) (by omega) _ (fun w3 h3 hz3 => ?_)
      rw [hs] at hz3; try rw [hs]
      simp (disch := first | omega | simp only [RO] | (simp only [RZ] <;> omega) | fail) only [↓RBp, ↓RA, ↓reduceIte, Nat.reduceAdd, Nat.reduceMul, Nat.reduceEqDiff, RB, RBr, RW, RS, RA2]
      apply hE
      · exact ⟨k, _, by rw [g1], by omega, hz3, sw.trans h3, e⟩
      · simp [Go.RowKit.intOf]
end
end Go.Proofs.YtaeopkhdokaaoaaGreatDoor
namespace Go.Proofs.YtaeopkhdokaaoaaGreatDoor
open Go Go.Sh
set_option maxRecDepth 100000
set_option maxHeartbeats 8000000
set_option linter.unusedSimpArgs false
set_option linter.unusedVariables false
section
variable {w w' : World} {q o cap : Nat} {d : Array Nat}
theorem scanUp_eq (p : Nat → Bool) (d : Array Nat) (j i : Nat) : Go.Sort.scanUp p d j i = if (decide (i ≤ j) && p d[i]!) = true then Go.Sort.scanUp p d j (i + 1) else i := by rw [Go.Sort.scanUp]
theorem scanDown_succ (p : Nat → Bool) (d : Array Nat) (i j : Nat) : Go.Sort.scanDown p d i (j + 1) = if (decide (i ≤ j + 1) && p d[j + 1]!) = true then Go.Sort.scanDown p d i j else j + 1 := rfl
theorem k_part (h : Ar w q o d) (hd : d.size < 1099511627776) (a b pv : Nat) (hab : a + 1 < b) (hb : b ≤ d.size) (hp : a ≤ pv) (hp2 : pv < b) (K : K1) (hK : ∀ w', SW w w' q o (Go.Sort.partition ltN d a b pv).2.2 → (Go.Sort.partition ltN d a b pv).2.2.size = d.size → K (.tuple #[.int .i64 (((Go.Sort.partition ltN d a b pv).1 : Nat) : Int), .bool (Go.Sort.partition ltN d a b pv).2.1]) w') :
    callS Tryz.prog 129 #[.slice (some ⟨q, o, none⟩) d.size cap, .int .i64 (a : Int), .int .i64 (b : Int), .int .i64 (pv : Int)] w K := by
  have c0 := h.cell a (by omega)
  have cp := h.cell pv (by omega)
  have ar0 := h.set a d[pv]! (by omega)
  have cq := ar0.cell pv (by simp; omega)
  have sw0 := (SW.refl h).swp a pv (by omega) (by omega)
  have hz0 := swp_size d a pv
  unfold Go.Sort.partition at hK
  simp only at hK
  generalize hD : Go.Sort.swp d a pv = D at *
  have e1 : (a : Int) + 1 = ((a + 1 : Nat) : Int) := by omega
  have e2 : (b : Int) - 1 = ((b - 1 : Nat) : Int) := by omega
  have t3 : ∀ (i0 j0 : Nat) (D0 : Array Nat), D0.size = d.size → (∀ w', SW w w' q o (Go.Sort.swp (Go.Sort.partLoop ltN a i0 j0 D0).2 (Go.Sort.partLoop ltN a i0 j0 D0).1 a) → (Go.Sort.swp (Go.Sort.partLoop ltN a i0 j0 D0).2 (Go.Sort.partLoop ltN a i0 j0 D0).1 a).size = d.size → K (.tuple #[.int .i64 (((Go.Sort.partLoop ltN a i0 j0 D0).1 : Nat) : Int), .bool false]) w') → a + 1 ≤ i0 → i0 ≤ b → i0 ≤ j0 + 2 → a ≤ j0 → j0 < b → ∀ w0, SW w w0 q o D0 →
      f129_l3 K (.slice (some ⟨q, o, none⟩) d.size cap) (.int .i64 ((a : Nat) : Int)) (.int .i64 ((i0 : Nat) : Int)) (.int .i64 ((j0 : Nat) : Int)) w0 := by
    intro i0 j0 D0 hz hK3 b1 b2 b0 b3 b4 w0 s0
    apply f129_l3_rule (I := fun x y w' => ∃ (i j : Nat) (D1 : Array Nat), x = .int .i64 (i : Int) ∧ y = .int .i64 (j : Int) ∧ a + 1 ≤ i ∧ i ≤ b ∧ i ≤ j + 2 ∧ a ≤ j ∧ j < b ∧ D1.size = d.size ∧ SW w w' q o D1 ∧ Go.Sort.partLoop ltN a i j D1 = Go.Sort.partLoop ltN a i0 j0 D0) (μ := fun x y _ => (Go.RowKit.intOf y).toNat + 1 - (Go.RowKit.intOf x).toNat)
    · exact ⟨i0, j0, D0, rfl, rfl, b1, b2, b0, b3, b4, hz, s0, rfl⟩
    · intros; rename_i w1 hI E1 hE
      obtain ⟨i1, j1, D1, rfl, rfl, b5, b6, b9, b7, b8, hz1, sw1, eP⟩ := hI
      rw [Go.Sort.partLoop] at eP
      have t5 : ∀ (i j : Nat) wB, SW w wB q o D1 → i1 ≤ i → i ≤ b → j ≤ j1 → a ≤ j → Go.Sort.scanUp (fun x => ltN x D1[a]!) D1 j1 i1 = i → Go.Sort.scanDown (fun x => !ltN x D1[a]!) D1 i j1 = j → f129_k5 K E1 (.slice (some ⟨q, o, none⟩) d.size cap) (.int .i64 ((a : Nat) : Int)) (.int .i64 ((i : Nat) : Int)) (.int .i64 ((j : Nat) : Int)) wB := by
        intro i j wB swB h1 h2 h3 h4 eu ed
        simp only [eu, ed] at eP
        by_cases hij : i > j
        · rw [if_pos hij] at eP
          rw [← eP] at hK3
          have arB := swB.ar
          have d1 := arB.cell a (by omega)
          have d2 := arB.cell j (by omega)
          have ar2 := arB.set j D1[a]! (by omega)
          have d3 := ar2.cell a (by simp; omega)
          have ssw := swB.swp j a (by omega) (by omega)
          (repeat' (first | (with_reducible refine brS_mk (fun _ => ?_) (fun _ => ?_)) | (with_reducible refine And.intro ?_ ?_) | (simp (disch := first | omega | simp only [RO] | (simp only [RZ] <;> omega) | fail) only [↓RBp, ↓RA, ↓reduceIte, Nat.reduceAdd, Nat.reduceMul, Nat.reduceEqDiff, RB, RBr, RW, RS, RA2, f129_k5_eq, f129_k5_t, f129_k3_eq, f129_k3_t, d1, d2, d3, arB.frz, ar2.frz])))
          exact hK3 _ ssw.drew ((swp_size _ _ _).trans hz1)
        · rw [if_neg hij, dif_pos (by omega)] at eP
          have arB := swB.ar
          have d1 := arB.cell i (by omega)
          have d2 := arB.cell j (by omega)
          have ar2 := arB.set i D1[j]! (by omega)
          have d3 := ar2.cell j (by simp; omega)
          have ssw := swB.swp i j (by omega) (by omega)
          have g1 : (i : Int) + 1 = ((i + 1 : Nat) : Int) := by omega
          have g2 : (j : Int) - 1 = ((j - 1 : Nat) : Int) := by omega
          (repeat' (first | (with_reducible refine brS_mk (fun _ => ?_) (fun _ => ?_)) | (with_reducible refine And.intro ?_ ?_) | (simp (disch := first | omega | simp only [RO] | (simp only [RZ] <;> omega) | fail) only [↓RBp, ↓RA, ↓reduceIte, Nat.reduceAdd, Nat.reduceMul, Nat.reduceEqDiff, RB, RBr, RW, RS, RA2, f129_k5_eq, f129_k5_t, d1, d2, d3, arB.frz, ar2.frz, g1, g2])))
          apply hE
          · exact ⟨i + 1, j - 1, _, rfl, rfl, by omega, by omega, by omega, by omega, by omega, (swp_size _ _ _).trans hz1, ssw.drew, eP⟩
          · simp [Go.RowKit.intOf]; omega
      have t4 : ∀ (i : Nat) wB, SW w wB q o D1 → i1 ≤ i → i ≤ b → Go.Sort.scanUp (fun x => ltN x D1[a]!) D1 j1 i1 = i → f129_l5 K E1 (.slice (some ⟨q, o, none⟩) d.size cap) (.int .i64 ((a : Nat) : Int)) (.int .i64 ((i : Nat) : Int)) (.int .i64 ((j1 : Nat) : Int)) wB := by
        intro i wB swB h1 h2 eu
        apply f129_l5_rule (I := fun x w' => ∃ j : Nat, x = .int .i64 (j : Int) ∧ j ≤ j1 ∧ a ≤ j ∧ SW w w' q o D1 ∧ Go.Sort.scanDown (fun x => !ltN x D1[a]!) D1 i j = Go.Sort.scanDown (fun x => !ltN x D1[a]!) D1 i j1) (μ := fun x _ => (Go.RowKit.intOf x).toNat)
        · exact ⟨j1, rfl, by omega, by omega, swB, rfl⟩
        · intros; rename_i wA hIA EA hEA
          obtain ⟨j, rfl, hj1, hj2, swA, eA⟩ := hIA
          have arA := swA.ar
          cases j with
          | zero =>
            have e0 : Go.Sort.scanDown (fun x => !ltN x D1[a]!) D1 i 0 = 0 := rfl
            rw [e0] at eA
            unfold f129_l5_t
            (repeat' (first | (with_reducible refine brS_mk (fun _ => ?_) (fun _ => ?_)) | (with_reducible refine And.intro ?_ ?_) | (simp (disch := first | omega | simp only [RO] | (simp only [RZ] <;> omega) | fail) only [↓RBp, ↓RA, ↓reduceIte, Nat.reduceAdd, Nat.reduceMul, Nat.reduceEqDiff, RB, RBr, RW, RS, RA2])))
            apply t5 i 0 _ swA.drew (by omega) (by omega) (by omega) (by omega) eu eA.symm
          | succ j =>
            rw [scanDown_succ] at eA
            have gj : ((j + 1 : Nat) : Int) - 1 = (j : Int) := by omega
            by_cases hij : i ≤ j + 1
            · have c1 := arA.cell (j + 1) (by omega)
              have c2 := arA.cell a (by omega)
              cases hl : ltN D1[j + 1]! D1[a]! with
              | false =>
                rw [if_pos (by simp [hl]; omega)] at eA
                unfold f129_l5_t
                (repeat' (first | (with_reducible refine brS_mk (fun _ => ?_) (fun _ => ?_)) | (with_reducible refine And.intro ?_ ?_) | (simp (disch := first | omega | simp only [RO] | (simp only [RZ] <;> omega) | fail) only [↓RBp, ↓RA, ↓reduceIte, Nat.reduceAdd, Nat.reduceMul, Nat.reduceEqDiff, RB, RBr, RW, RS, RA2, gj, c1, c2, c_Less, hl])))
                apply hEA
                · exact ⟨j, rfl, by omega, by omega, swA.drew, eA⟩
                · simp [Go.RowKit.intOf]
              | true =>
                rw [if_neg (by simp [hl])] at eA
                unfold f129_l5_t
                (repeat' (first | (with_reducible refine brS_mk (fun _ => ?_) (fun _ => ?_)) | (with_reducible refine And.intro ?_ ?_) | (simp (disch := first | omega | simp only [RO] | (simp only [RZ] <;> omega) | fail) only [↓RBp, ↓RA, ↓reduceIte, Nat.reduceAdd, Nat.reduceMul, Nat.reduceEqDiff, RB, RBr, RW, RS, RA2, gj, c1, c2, c_Less, hl])))
                apply t5 i (j + 1) _ swA.drew (by omega) (by omega) (by omega) (by omega) eu eA.symm
            · rw [if_neg (by simp; omega)] at eA
              unfold f129_l5_t
              (repeat' (first | (with_reducible refine brS_mk (fun _ => ?_) (fun _ => ?_)) | (with_reducible refine And.intro ?_ ?_) | (simp (disch := first | omega | simp only [RO] | (simp only [RZ] <;> omega) | fail) only [↓RBp, ↓RA, ↓reduceIte, Nat.reduceAdd, Nat.reduceMul, Nat.reduceEqDiff, RB, RBr, RW, RS, RA2])))
              apply t5 i (j + 1) _ swA.drew (by omega) (by omega) (by omega) (by omega) eu eA.symm
      unfold f129_l3_t
      apply f129_l4_rule (I := fun x w' => ∃ i : Nat, x = .int .i64 (i : Int) ∧ i1 ≤ i ∧ i ≤ j1 + 2 ∧ i ≤ b ∧ SW w w' q o D1 ∧ Go.Sort.scanUp (fun x => ltN x D1[a]!) D1 j1 i = Go.Sort.scanUp (fun x => ltN x D1[a]!) D1 j1 i1) (μ := fun x _ => j1 + 3 - (Go.RowKit.intOf x).toNat)
      · exact ⟨i1, rfl, by omega, by omega, by omega, sw1, rfl⟩
      · intros; rename_i wA hIA EA hEA
        obtain ⟨i, rfl, hi1, hi2, hi3, swA, eA⟩ := hIA
        rw [scanUp_eq] at eA
        have arA := swA.ar
        have gi : (i : Int) + 1 = ((i + 1 : Nat) : Int) := by omega
        by_cases hij : i ≤ j1
        · have c1 := arA.cell i (by omega)
          have c2 := arA.cell a (by omega)
          cases hl : ltN D1[i]! D1[a]! with
          | true =>
            rw [if_pos (by simp [hl]; omega)] at eA
            unfold f129_l4_t
            (repeat' (first | (with_reducible refine brS_mk (fun _ => ?_) (fun _ => ?_)) | (with_reducible refine And.intro ?_ ?_) | (simp (disch := first | omega | simp only [RO] | (simp only [RZ] <;> omega) | fail) only [↓RBp, ↓RA, ↓reduceIte, Nat.reduceAdd, Nat.reduceMul, Nat.reduceEqDiff, RB, RBr, RW, RS, RA2, gi, c1, c2, c_Less, hl])))
            apply hEA
            · exact ⟨i + 1, rfl, by omega, by omega, by omega, swA.drew, eA⟩
            · simp [Go.RowKit.intOf]; omega
          | false =>
            rw [if_neg (by simp [hl])] at eA
            unfold f129_l4_t
            (repeat' (first | (with_reducible refine brS_mk (fun _ => ?_) (fun _ => ?_)) | (with_reducible refine And.intro ?_ ?_) | (simp (disch := first | omega | simp only [RO] | (simp only [RZ] <;> omega) | fail) only [↓RBp, ↓RA, ↓reduceIte, Nat.reduceAdd, Nat.reduceMul, Nat.reduceEqDiff, RB, RBr, RW, RS, RA2, gi, c1, c2, c_Less, hl, f129_k4_eq, f129_k4_t])))
            apply t4 i _ swA.drew (by omega) (by omega) eA.symm
        · rw [if_neg (by simp; omega)] at eA
          unfold f129_l4_t
          (repeat' (first | (with_reducible refine brS_mk (fun _ => ?_) (fun _ => ?_)) | (with_reducible refine And.intro ?_ ?_) | (simp (disch := first | omega | simp only [RO] | (simp only [RZ] <;> omega) | fail) only [↓RBp, ↓RA, ↓reduceIte, Nat.reduceAdd, Nat.reduceMul, Nat.reduceEqDiff, RB, RBr, RW, RS, RA2, gi, f129_k4_eq, f129_k4_t])))
          apply t4 i _ swA.drew (by omega) (by omega) eA.symm
  have t2 : ∀ (i j : Nat) wB, SW w wB q o D → a + 1 ≤ i → i ≤ b → j ≤ b - 1 → a ≤ j → Go.Sort.scanUp (fun x => ltN x D[a]!) D (b - 1) (a + 1) = i → Go.Sort.scanDown (fun x => !ltN x D[a]!) D i (b - 1) = j → f129_k2 K (.slice (some ⟨q, o, none⟩) d.size cap) (.int .i64 ((a : Nat) : Int)) (.int .i64 ((i : Nat) : Int)) (.int .i64 ((j : Nat) : Int)) wB := by
    intro i j wB swB h1 h2 h3 h4 eu ed
    simp only [eu, ed] at hK
    by_cases hij : i > j
    · simp only [if_pos hij] at hK
      have arB := swB.ar
      have d1 := arB.cell a (by omega)
      have d2 := arB.cell j (by omega)
      have ar2 := arB.set j D[a]! (by omega)
      have d3 := ar2.cell a (by simp; omega)
      have ssw := swB.swp j a (by omega) (by omega)
      (repeat' (first | (with_reducible refine brS_mk (fun _ => ?_) (fun _ => ?_)) | (with_reducible refine And.intro ?_ ?_) | (simp (disch := first | omega | simp only [RO] | (simp only [RZ] <;> omega) | fail) only [↓RBp, ↓RA, ↓reduceIte, Nat.reduceAdd, Nat.reduceMul, Nat.reduceEqDiff, RB, RBr, RW, RS, RA2, f129_k2_eq, f129_k2_t, d1, d2, d3, arB.frz, ar2.frz])))
      exact hK _ ssw.drew ((swp_size _ _ _).trans hz0)
    · simp only [if_neg hij] at hK
      have arB := swB.ar
      have d1 := arB.cell i (by omega)
      have d2 := arB.cell j (by omega)
      have ar2 := arB.set i D[j]! (by omega)
      have d3 := ar2.cell j (by simp; omega)
      have ssw := swB.swp i j (by omega) (by omega)
      have g1 : (i : Int) + 1 = ((i + 1 : Nat) : Int) := by omega
      have g2 : (j : Int) - 1 = ((j - 1 : Nat) : Int) := by omega
      (repeat' (first | (with_reducible refine brS_mk (fun _ => ?_) (fun _ => ?_)) | (with_reducible refine And.intro ?_ ?_) | (simp (disch := first | omega | simp only [RO] | (simp only [RZ] <;> omega) | fail) only [↓RBp, ↓RA, ↓reduceIte, Nat.reduceAdd, Nat.reduceMul, Nat.reduceEqDiff, RB, RBr, RW, RS, RA2, f129_k2_eq, f129_k2_t, d1, d2, d3, arB.frz, ar2.frz, g1, g2])))
      apply t3 (i + 1) (j - 1) _ ((swp_size _ _ _).trans hz0) hK (by omega) (by omega) (by omega) (by omega) (by omega) _ ssw.drew
  have t1 : ∀ (i : Nat) wB, SW w wB q o D → a + 1 ≤ i → i ≤ b → Go.Sort.scanUp (fun x => ltN x D[a]!) D (b - 1) (a + 1) = i → f129_l2 K (.slice (some ⟨q, o, none⟩) d.size cap) (.int .i64 ((a : Nat) : Int)) (.int .i64 ((i : Nat) : Int)) (.int .i64 ((b - 1 : Nat) : Int)) wB := by
    intro i wB swB h1 h2 eu
    apply f129_l2_rule (I := fun x w' => ∃ j : Nat, x = .int .i64 (j : Int) ∧ j ≤ b - 1 ∧ a ≤ j ∧ SW w w' q o D ∧ Go.Sort.scanDown (fun x => !ltN x D[a]!) D i j = Go.Sort.scanDown (fun x => !ltN x D[a]!) D i (b - 1)) (μ := fun x _ => (Go.RowKit.intOf x).toNat)
    · exact ⟨b - 1, rfl, by omega, by omega, swB, rfl⟩
    · intros; rename_i wA hIA EA hEA
      obtain ⟨j, rfl, hj1, hj2, swA, eA⟩ := hIA
      have arA := swA.ar
      cases j with
      | zero =>
        have e0 : Go.Sort.scanDown (fun x => !ltN x D[a]!) D i 0 = 0 := rfl
        rw [e0] at eA
        unfold f129_l2_t
        (repeat' (first | (with_reducible refine brS_mk (fun _ => ?_) (fun _ => ?_)) | (with_reducible refine And.intro ?_ ?_) | (simp (disch := first | omega | simp only [RO] | (simp only [RZ] <;> omega) | fail) only [↓RBp, ↓RA, ↓reduceIte, Nat.reduceAdd, Nat.reduceMul, Nat.reduceEqDiff, RB, RBr, RW, RS, RA2])))
        apply t2 i 0 _ swA.drew (by omega) (by omega) (by omega) (by omega) eu eA.symm
      | succ j =>
        rw [scanDown_succ] at eA
        have gj : ((j + 1 : Nat) : Int) - 1 = (j : Int) := by omega
        by_cases hij : i ≤ j + 1
        · have c1 := arA.cell (j + 1) (by omega)
          have c2 := arA.cell a (by omega)
          cases hl : ltN D[j + 1]! D[a]! with
          | false =>
            rw [if_pos (by simp [hl]; omega)] at eA
            unfold f129_l2_t
            (repeat' (first | (with_reducible refine brS_mk (fun _ => ?_) (fun _ => ?_)) | (with_reducible refine And.intro ?_ ?_) | (simp (disch := first | omega | simp only [RO] | (simp only [RZ] <;> omega) | fail) only [↓RBp, ↓RA, ↓reduceIte, Nat.reduceAdd, Nat.reduceMul, Nat.reduceEqDiff, RB, RBr, RW, RS, RA2, gj, c1, c2, c_Less, hl])))
            apply hEA
            · exact ⟨j, rfl, by omega, by omega, swA.drew, eA⟩
            · simp [Go.RowKit.intOf]
          | true =>
            rw [if_neg (by simp [hl])] at eA
            unfold f129_l2_t
            (repeat' (first | (with_reducible refine brS_mk (fun _ => ?_) (fun _ => ?_)) | (with_reducible refine And.intro ?_ ?_) | (simp (disch := first | omega | simp only [RO] | (simp only [RZ] <;> omega) | fail) only [↓RBp, ↓RA, ↓reduceIte, Nat.reduceAdd, Nat.reduceMul, Nat.reduceEqDiff, RB, RBr, RW, RS, RA2, gj, c1, c2, c_Less, hl])))
            apply t2 i (j + 1) _ swA.drew (by omega) (by omega) (by omega) (by omega) eu eA.symm
        · rw [if_neg (by simp; omega)] at eA
          unfold f129_l2_t
          (repeat' (first | (with_reducible refine brS_mk (fun _ => ?_) (fun _ => ?_)) | (with_reducible refine And.intro ?_ ?_) | (simp (disch := first | omega | simp only [RO] | (simp only [RZ] <;> omega) | fail) only [↓RBp, ↓RA, ↓reduceIte, Nat.reduceAdd, Nat.reduceMul, Nat.reduceEqDiff, RB, RBr, RW, RS, RA2])))
          apply t2 i (j + 1) _ swA.drew (by omega) (by omega) (by omega) (by omega) eu eA.symm
  refine f129_call _ _ _ _ _ _ ?_
  unfold f129_t
  (repeat' (first | (with_reducible refine brS_mk (fun _ => ?_) (fun _ => ?_)) | (with_reducible refine And.intro ?_ ?_) | (simp (disch := first | omega | simp only [RO] | (simp only [RZ] <;> omega) | fail) only [↓RBp, ↓RA, ↓reduceIte, Nat.reduceAdd, Nat.reduceMul, Nat.reduceEqDiff, RB, RBr, RW, RS, RA2, e1, e2, c0, cp, cq, h.frz, ar0.frz])))
  apply f129_l1_rule (I := fun x w' => ∃ i : Nat, x = .int .i64 (i : Int) ∧ (a + 1) ≤ i ∧ i ≤ (b - 1) + 2 ∧ i ≤ b ∧ SW w w' q o D ∧ Go.Sort.scanUp (fun x => ltN x D[a]!) D (b - 1) i = Go.Sort.scanUp (fun x => ltN x D[a]!) D (b - 1) (a + 1)) (μ := fun x _ => (b - 1) + 3 - (Go.RowKit.intOf x).toNat)
  · exact ⟨(a + 1), rfl, by omega, by omega, by omega, sw0.drew, rfl⟩
  · intros; rename_i wA hIA EA hEA
    obtain ⟨i, rfl, hi1, hi2, hi3, swA, eA⟩ := hIA
    rw [scanUp_eq] at eA
    have arA := swA.ar
    have gi : (i : Int) + 1 = ((i + 1 : Nat) : Int) := by omega
    by_cases hij : i ≤ (b - 1)
    · have c1 := arA.cell i (by omega)
      have c2 := arA.cell a (by omega)
      cases hl : ltN D[i]! D[a]! with
      | true =>
        rw [if_pos (by simp [hl]; omega)] at eA
        unfold f129_l1_t
        (repeat' (first | (with_reducible refine brS_mk (fun _ => ?_) (fun _ => ?_)) | (with_reducible refine And.intro ?_ ?_) | (simp (disch := first | omega | simp only [RO] | (simp only [RZ] <;> omega) | fail) only [↓RBp, ↓RA, ↓reduceIte, Nat.reduceAdd, Nat.reduceMul, Nat.reduceEqDiff, RB, RBr, RW, RS, RA2, gi, c1, c2, c_Less, hl])))
        apply hEA
        · exact ⟨i + 1, rfl, by omega, by omega, by omega, swA.drew, eA⟩
        · simp [Go.RowKit.intOf]; omega
      | false =>
        rw [if_neg (by simp [hl])] at eA
        unfold f129_l1_t
        (repeat' (first | (with_reducible refine brS_mk (fun _ => ?_) (fun _ => ?_)) | (with_reducible refine And.intro ?_ ?_) | (simp (disch := first | omega | simp only [RO] | (simp only [RZ] <;> omega) | fail) only [↓RBp, ↓RA, ↓reduceIte, Nat.reduceAdd, Nat.reduceMul, Nat.reduceEqDiff, RB, RBr, RW, RS, RA2, gi, c1, c2, c_Less, hl, f129_k1_eq, f129_k1_t])))
        apply t1 i _ swA.drew (by omega) (by omega) eA.symm
    · rw [if_neg (by simp; omega)] at eA
      unfold f129_l1_t
      (repeat' (first | (with_reducible refine brS_mk (fun _ => ?_) (fun _ => ?_)) | (with_reducible refine And.intro ?_ ?_) | (simp (disch := first | omega | simp only [RO] | (simp only [RZ] <;> omega) | fail) only [↓RBp, ↓RA, ↓reduceIte, Nat.reduceAdd, Nat.reduceMul, Nat.reduceEqDiff, RB, RBr, RW, RS, RA2, gi, f129_k1_eq, f129_k1_t])))
      apply t1 i _ swA.drew (by omega) (by omega) eA.symm
end
end Go.Proofs.YtaeopkhdokaaoaaGreatDoor
namespace Go.Proofs.YtaeopkhdokaaoaaGreatDoor
open Go Go.Sh
set_option maxRecDepth 100000
set_option maxHeartbeats 8000000
set_option linter.unusedSimpArgs false
set_option linter.unusedVariables false
section
variable {w w' : World} {q o cap : Nat} {d : Array Nat}
theorem k_partEq (h : Ar w q o d) (hd : d.size < 1099511627776) (a b pv : Nat) (hab : a + 1 < b) (hb : b ≤ d.size) (hp : a ≤ pv) (hp2 : pv < b) (K : K1) (hK : ∀ w', SW w w' q o (Go.Sort.partitionEqual ltN d a b pv).2 → (Go.Sort.partitionEqual ltN d a b pv).2.size = d.size → a < (Go.Sort.partitionEqual ltN d a b pv).1 ∧ (Go.Sort.partitionEqual ltN d a b pv).1 ≤ b → K (.int .i64 (((Go.Sort.partitionEqual ltN d a b pv).1 : Nat) : Int)) w') :
    callS Tryz.prog 128 #[.slice (some ⟨q, o, none⟩) d.size cap, .int .i64 (a : Int), .int .i64 (b : Int), .int .i64 (pv : Int)] w K := by
  have c0 := h.cell a (by omega)
  have cp := h.cell pv (by omega)
  have ar0 := h.set a d[pv]! (by omega)
  have cq := ar0.cell pv (by simp; omega)
  have sw0 := (SW.refl h).swp a pv (by omega) (by omega)
  have hz0 := swp_size d a pv
  unfold Go.Sort.partitionEqual at hK
  generalize hD : Go.Sort.swp d a pv = D at *
  have e1 : (a : Int) + 1 = ((a + 1 : Nat) : Int) := by omega
  have e2 : (b : Int) - 1 = ((b - 1 : Nat) : Int) := by omega
  have t3 : ∀ (i0 j0 : Nat) (D0 : Array Nat), D0.size = d.size → (∀ w', SW w w' q o (Go.Sort.partEqLoop ltN a i0 j0 D0).2 → (Go.Sort.partEqLoop ltN a i0 j0 D0).2.size = d.size → a < (Go.Sort.partEqLoop ltN a i0 j0 D0).1 ∧ (Go.Sort.partEqLoop ltN a i0 j0 D0).1 ≤ b → K (.int .i64 (((Go.Sort.partEqLoop ltN a i0 j0 D0).1 : Nat) : Int)) w') → a + 1 ≤ i0 → i0 ≤ b → i0 ≤ j0 + 2 → a ≤ j0 → j0 < b → ∀ w0, SW w w0 q o D0 →
      f128_l1 K (.slice (some ⟨q, o, none⟩) d.size cap) (.int .i64 ((a : Nat) : Int)) (.int .i64 ((i0 : Nat) : Int)) (.int .i64 ((j0 : Nat) : Int)) w0 := by
    intro i0 j0 D0 hz hK3 b1 b2 b0 b3 b4 w0 s0
    apply f128_l1_rule (I := fun x y w' => ∃ (i j : Nat) (D1 : Array Nat), x = .int .i64 (i : Int) ∧ y = .int .i64 (j : Int) ∧ a + 1 ≤ i ∧ i ≤ b ∧ i ≤ j + 2 ∧ a ≤ j ∧ j < b ∧ D1.size = d.size ∧ SW w w' q o D1 ∧ Go.Sort.partEqLoop ltN a i j D1 = Go.Sort.partEqLoop ltN a i0 j0 D0) (μ := fun x y _ => (Go.RowKit.intOf y).toNat + 1 - (Go.RowKit.intOf x).toNat)
    · exact ⟨i0, j0, D0, rfl, rfl, b1, b2, b0, b3, b4, hz, s0, rfl⟩
    · intros; rename_i w1 hI E1 hE
      obtain ⟨i1, j1, D1, rfl, rfl, b5, b6, b9, b7, b8, hz1, sw1, eP⟩ := hI
      rw [Go.Sort.partEqLoop] at eP
      have t5 : ∀ (i j : Nat) wB, SW w wB q o D1 → i1 ≤ i → i ≤ b → j ≤ j1 → a ≤ j → Go.Sort.scanUp (fun x => !ltN D1[a]! x) D1 j1 i1 = i → Go.Sort.scanDown (fun x => ltN D1[a]! x) D1 i j1 = j → f128_k3 K E1 (.slice (some ⟨q, o, none⟩) d.size cap) (.int .i64 ((a : Nat) : Int)) (.int .i64 ((i : Nat) : Int)) (.int .i64 ((j : Nat) : Int)) wB := by
        intro i j wB swB h1 h2 h3 h4 eu ed
        simp only [eu, ed] at eP
        by_cases hij : i > j
        · rw [if_pos hij] at eP
          rw [← eP] at hK3
          (repeat' (first | (with_reducible refine brS_mk (fun _ => ?_) (fun _ => ?_)) | (with_reducible refine And.intro ?_ ?_) | (simp (disch := first | omega | simp only [RO] | (simp only [RZ] <;> omega) | fail) only [↓RBp, ↓RA, ↓reduceIte, Nat.reduceAdd, Nat.reduceMul, Nat.reduceEqDiff, RB, RBr, RW, RS, RA2, f128_k3_eq, f128_k3_t, f128_k1_eq, f128_k1_t])))
          exact hK3 _ swB hz1 ⟨by show a < i; omega, h2⟩
        · rw [if_neg hij, dif_pos (by omega)] at eP
          have arB := swB.ar
          have d1 := arB.cell i (by omega)
          have d2 := arB.cell j (by omega)
          have ar2 := arB.set i D1[j]! (by omega)
          have d3 := ar2.cell j (by simp; omega)
          have ssw := swB.swp i j (by omega) (by omega)
          have g1 : (i : Int) + 1 = ((i + 1 : Nat) : Int) := by omega
          have g2 : (j : Int) - 1 = ((j - 1 : Nat) : Int) := by omega
          (repeat' (first | (with_reducible refine brS_mk (fun _ => ?_) (fun _ => ?_)) | (with_reducible refine And.intro ?_ ?_) | (simp (disch := first | omega | simp only [RO] | (simp only [RZ] <;> omega) | fail) only [↓RBp, ↓RA, ↓reduceIte, Nat.reduceAdd, Nat.reduceMul, Nat.reduceEqDiff, RB, RBr, RW, RS, RA2, f128_k3_eq, f128_k3_t, d1, d2, d3, arB.frz, ar2.frz, g1, g2])))
          apply hE
          · exact ⟨i + 1, j - 1, _, rfl, rfl, by omega, by omega, by omega, by omega, by omega, (swp_size _ _ _).trans hz1, ssw.drew, eP⟩
          · simp [Go.RowKit.intOf]; omega
      have t4 : ∀ (i : Nat) wB, SW w wB q o D1 → i1 ≤ i → i ≤ b → Go.Sort.scanUp (fun x => !ltN D1[a]! x) D1 j1 i1 = i → f128_l3 K E1 (.slice (some ⟨q, o, none⟩) d.size cap) (.int .i64 ((a : Nat) : Int)) (.int .i64 ((i : Nat) : Int)) (.int .i64 ((j1 : Nat) : Int)) wB := by
        intro i wB swB h1 h2 eu
        apply f128_l3_rule (I := fun x w' => ∃ j : Nat, x = .int .i64 (j : Int) ∧ j ≤ j1 ∧ a ≤ j ∧ SW w w' q o D1 ∧ Go.Sort.scanDown (fun x => ltN D1[a]! x) D1 i j = Go.Sort.scanDown (fun x => ltN D1[a]! x) D1 i j1) (μ := fun x _ => (Go.RowKit.intOf x).toNat)
        · exact ⟨j1, rfl, by omega, by omega, swB, rfl⟩
        · intros; rename_i wA hIA EA hEA
          obtain ⟨j, rfl, hj1, hj2, swA, eA⟩ := hIA
          have arA := swA.ar
          cases j with
          | zero =>
            have e0 : Go.Sort.scanDown (fun x => ltN D1[a]! x) D1 i 0 = 0 := rfl
            rw [e0] at eA
            unfold f128_l3_t
            (repeat' (first | (with_reducible refine brS_mk (fun _ => ?_) (fun _ => ?_)) | (with_reducible refine And.intro ?_ ?_) | (simp (disch := first | omega | simp only [RO] | (simp only [RZ] <;> omega) | fail) only [↓RBp, ↓RA, ↓reduceIte, Nat.reduceAdd, Nat.reduceMul, Nat.reduceEqDiff, RB, RBr, RW, RS, RA2])))
            apply t5 i 0 _ swA.drew (by omega) (by omega) (by omega) (by omega) eu eA.symm
          | succ j =>
            rw [scanDown_succ] at eA
            have gj : ((j + 1 : Nat) : Int) - 1 = (j : Int) := by omega
            by_cases hij : i ≤ j + 1
            · have c1 := arA.cell (j + 1) (by omega)
              have c2 := arA.cell a (by omega)
              cases hl : ltN D1[a]! D1[j + 1]! with
              | true =>
                rw [if_pos (by simp [hl]; omega)] at eA
                unfold f128_l3_t
                (repeat' (first | (with_reducible refine brS_mk (fun _ => ?_) (fun _ => ?_)) | (with_reducible refine And.intro ?_ ?_) | (simp (disch := first | omega | simp only [RO] | (simp only [RZ] <;> omega) | fail) only [↓RBp, ↓RA, ↓reduceIte, Nat.reduceAdd, Nat.reduceMul, Nat.reduceEqDiff, RB, RBr, RW, RS, RA2, gj, c1, c2, c_Less, hl])))
                apply hEA
                · exact ⟨j, rfl, by omega, by omega, swA.drew, eA⟩
                · simp [Go.RowKit.intOf]
              | false =>
                rw [if_neg (by simp [hl])] at eA
                unfold f128_l3_t
                (repeat' (first | (with_reducible refine brS_mk (fun _ => ?_) (fun _ => ?_)) | (with_reducible refine And.intro ?_ ?_) | (simp (disch := first | omega | simp only [RO] | (simp only [RZ] <;> omega) | fail) only [↓RBp, ↓RA, ↓reduceIte, Nat.reduceAdd, Nat.reduceMul, Nat.reduceEqDiff, RB, RBr, RW, RS, RA2, gj, c1, c2, c_Less, hl])))
                apply t5 i (j + 1) _ swA.drew (by omega) (by omega) (by omega) (by omega) eu eA.symm
            · rw [if_neg (by simp; omega)] at eA
              unfold f128_l3_t
              (repeat' (first | (with_reducible refine brS_mk (fun _ => ?_) (fun _ => ?_)) | (with_reducible refine And.intro ?_ ?_) | (simp (disch := first | omega | simp only [RO] | (simp only [RZ] <;> omega) | fail) only [↓RBp, ↓RA, ↓reduceIte, Nat.reduceAdd, Nat.reduceMul, Nat.reduceEqDiff, RB, RBr, RW, RS, RA2])))
              apply t5 i (j + 1) _ swA.drew (by omega) (by omega) (by omega) (by omega) eu eA.symm
      unfold f128_l1_t
      apply f128_l2_rule (I := fun x w' => ∃ i : Nat, x = .int .i64 (i : Int) ∧ i1 ≤ i ∧ i ≤ j1 + 2 ∧ i ≤ b ∧ SW w w' q o D1 ∧ Go.Sort.scanUp (fun x => !ltN D1[a]! x) D1 j1 i = Go.Sort.scanUp (fun x => !ltN D1[a]! x) D1 j1 i1) (μ := fun x _ => j1 + 3 - (Go.RowKit.intOf x).toNat)
      · exact ⟨i1, rfl, by omega, by omega, by omega, sw1, rfl⟩
      · intros; rename_i wA hIA EA hEA
        obtain ⟨i, rfl, hi1, hi2, hi3, swA, eA⟩ := hIA
        rw [scanUp_eq] at eA
        have arA := swA.ar
        have gi : (i : Int) + 1 = ((i + 1 : Nat) : Int) := by omega
        by_cases hij : i ≤ j1
        · have c1 := arA.cell i (by omega)
          have c2 := arA.cell a (by omega)
          cases hl : ltN D1[a]! D1[i]! with
          | false =>
            rw [if_pos (by simp [hl]; omega)] at eA
            unfold f128_l2_t
            (repeat' (first | (with_reducible refine brS_mk (fun _ => ?_) (fun _ => ?_)) | (with_reducible refine And.intro ?_ ?_) | (simp (disch := first | omega | simp only [RO] | (simp only [RZ] <;> omega) | fail) only [↓RBp, ↓RA, ↓reduceIte, Nat.reduceAdd, Nat.reduceMul, Nat.reduceEqDiff, RB, RBr, RW, RS, RA2, gi, c1, c2, c_Less, hl])))
            apply hEA
            · exact ⟨i + 1, rfl, by omega, by omega, by omega, swA.drew, eA⟩
            · simp [Go.RowKit.intOf]; omega
          | true =>
            rw [if_neg (by simp [hl])] at eA
            unfold f128_l2_t
            (repeat' (first | (with_reducible refine brS_mk (fun _ => ?_) (fun _ => ?_)) | (with_reducible refine And.intro ?_ ?_) | (simp (disch := first | omega | simp only [RO] | (simp only [RZ] <;> omega) | fail) only [↓RBp, ↓RA, ↓reduceIte, Nat.reduceAdd, Nat.reduceMul, Nat.reduceEqDiff, RB, RBr, RW, RS, RA2, gi, c1, c2, c_Less, hl, f128_k2_eq, f128_k2_t])))
            apply t4 i _ swA.drew (by omega) (by omega) eA.symm
        · rw [if_neg (by simp; omega)] at eA
          unfold f128_l2_t
          (repeat' (first | (with_reducible refine brS_mk (fun _ => ?_) (fun _ => ?_)) | (with_reducible refine And.intro ?_ ?_) | (simp (disch := first | omega | simp only [RO] | (simp only [RZ] <;> omega) | fail) only [↓RBp, ↓RA, ↓reduceIte, Nat.reduceAdd, Nat.reduceMul, Nat.reduceEqDiff, RB, RBr, RW, RS, RA2, gi, f128_k2_eq, f128_k2_t])))
          apply t4 i _ swA.drew (by omega) (by omega) eA.symm
  refine f128_call _ _ _ _ _ _ ?_
  unfold f128_t
  (repeat' (first | (with_reducible refine brS_mk (fun _ => ?_) (fun _ => ?_)) | (with_reducible refine And.intro ?_ ?_) | (simp (disch := first | omega | simp only [RO] | (simp only [RZ] <;> omega) | fail) only [↓RBp, ↓RA, ↓reduceIte, Nat.reduceAdd, Nat.reduceMul, Nat.reduceEqDiff, RB, RBr, RW, RS, RA2, e1, e2, c0, cp, cq, h.frz, ar0.frz])))
  apply t3 (a + 1) (b - 1) D hz0 hK (by omega) (by omega) (by omega) (by omega) (by omega) _ sw0.drew
end
end Go.Proofs.YtaeopkhdokaaoaaGreatDoor
namespace Go.Proofs.YtaeopkhdokaaoaaGreatDoor
open Go Go.Sh
set_option maxRecDepth 100000
set_option maxHeartbeats 8000000
set_option linter.unusedSimpArgs false
set_option linter.unusedVariables false
section
variable {w w' : World} {q o cap : Nat} {d : Array Nat}
theorem scanSorted_eq (d : Array Nat) (b i : Nat) : Go.Sort.scanSorted ltN d b i = if (decide (i < b) && !ltN d[i]! d[i - 1]!) = true then Go.Sort.scanSorted ltN d b (i + 1) else i := by rw [Go.Sort.scanSorted]
theorem shiftDown_succ (j : Nat) (d : Array Nat) : Go.Sort.shiftDown ltN (j + 1) d = if (!ltN d[j + 1]! d[j]!) = true then d else Go.Sort.shiftDown ltN j (Go.Sort.swp d (j + 1) j) := rfl
theorem shiftUp_eq (b j : Nat) (d : Array Nat) : Go.Sort.shiftUp ltN b j d = if j < b then (if (!ltN d[j]! d[j - 1]!) = true then d else Go.Sort.shiftUp ltN b (j + 1) (Go.Sort.swp d j (j - 1))) else d := by rw [Go.Sort.shiftUp]
theorem partialIns_succ (a b s i : Nat) (d : Array Nat) : Go.Sort.partialIns ltN a b (s + 1) i d = (if Go.Sort.scanSorted ltN d b i = b then (d, true) else if b - a < 50 then (d, false) else
    Go.Sort.partialIns ltN a b s (Go.Sort.scanSorted ltN d b i) (if b - Go.Sort.scanSorted ltN d b i ≥ 2 then Go.Sort.shiftUp ltN b (Go.Sort.scanSorted ltN d b i + 1) (if Go.Sort.scanSorted ltN d b i - a ≥ 2 then Go.Sort.shiftDown ltN (Go.Sort.scanSorted ltN d b i - 1) (Go.Sort.swp d (Go.Sort.scanSorted ltN d b i) (Go.Sort.scanSorted ltN d b i - 1)) else Go.Sort.swp d (Go.Sort.scanSorted ltN d b i) (Go.Sort.scanSorted ltN d b i - 1)) else (if Go.Sort.scanSorted ltN d b i - a ≥ 2 then Go.Sort.shiftDown ltN (Go.Sort.scanSorted ltN d b i - 1) (Go.Sort.swp d (Go.Sort.scanSorted ltN d b i) (Go.Sort.scanSorted ltN d b i - 1)) else Go.Sort.swp d (Go.Sort.scanSorted ltN d b i) (Go.Sort.scanSorted ltN d b i - 1)))) := rfl
theorem k_pis (h : Ar w q o d) (hd : d.size < 1099511627776) (a b : Nat) (hab : a + 1 < b) (hb : b ≤ d.size) (K : K1) (hK : ∀ w', SW w w' q o (Go.Sort.partialInsertionSort ltN d a b).1 → (Go.Sort.partialInsertionSort ltN d a b).1.size = d.size → K (.bool (Go.Sort.partialInsertionSort ltN d a b).2) w') :
    callS Tryz.prog 126 #[.slice (some ⟨q, o, none⟩) d.size cap, .int .i64 (a : Int), .int .i64 (b : Int)] w K := by
  have e1 : (a : Int) + 1 = ((a + 1 : Nat) : Int) := by omega
  refine f126_call _ _ _ _ _ ?_
  unfold f126_t
  simp (disch := first | omega | simp only [RO] | (simp only [RZ] <;> omega) | fail) only [↓RBp, ↓RA, ↓reduceIte, Nat.reduceAdd, Nat.reduceMul, Nat.reduceEqDiff, RB, RBr, RW, RS, RA2, e1]
  generalize hT : Go.Sort.partialInsertionSort ltN d a b = T at *
  apply f126_l1_rule (I := fun x y w' => ∃ (i j : Nat) (D : Array Nat), x = .int .i64 (i : Int) ∧ y = .int .i64 (j : Int) ∧ j ≤ 5 ∧ a + 1 ≤ i ∧ i ≤ b ∧ D.size = d.size ∧ SW w w' q o D ∧ Go.Sort.partialIns ltN a b (5 - j) i D = T) (μ := fun _ y _ => 6 - (Go.RowKit.intOf y).toNat)
  · exact ⟨a + 1, 0, d, rfl, rfl, by omega, by omega, by omega, rfl, SW.refl h, hT⟩
  · intro x7 x8 w1 hI E1 hE
    obtain ⟨i0, jj, D, rfl, rfl, hj5, b1, b2, hz, sw, eT⟩ := hI
    by_cases hj : jj < 5
    · obtain ⟨s, hs⟩ : ∃ s, 5 - jj = s + 1 := ⟨4 - jj, by omega⟩
      rw [hs, partialIns_succ] at eT
      have es : 5 - (jj + 1) = s := by omega
      have gj : (jj : Int) + 1 = ((jj + 1 : Nat) : Int) := by omega
      have t2 : ∀ (i : Nat) (D3 : Array Nat) wB, a + 1 ≤ i → i ≤ b → D3.size = d.size → SW w wB q o D3 → Go.Sort.partialIns ltN a b s i D3 = T → f126_k2 K E1 (.slice (some ⟨q, o, none⟩) d.size cap) (.int .i64 ((a : Nat) : Int)) (.int .i64 ((b : Nat) : Int)) (.int .i64 ((i : Nat) : Int)) (.int .i64 ((jj : Nat) : Int)) wB := by
        intro i D3 wB h1 h2 hz3 sw3 e3
        simp (disch := first | omega | simp only [RO] | (simp only [RZ] <;> omega) | fail) only [↓RBp, ↓RA, ↓reduceIte, Nat.reduceAdd, Nat.reduceMul, Nat.reduceEqDiff, RB, RBr, RW, RS, RA2, f126_k2_eq, f126_k2_t, gj]
        apply hE
        · exact ⟨i, jj + 1, D3, rfl, rfl, by omega, h1, h2, hz3, sw3, by rw [es]; exact e3⟩
        · simp [Go.RowKit.intOf]; omega
      have t4 : ∀ (i : Nat) (D2 : Array Nat) wB, a + 1 ≤ i → i < b → D2.size = d.size → SW w wB q o D2 → Go.Sort.partialIns ltN a b s i (if b - i ≥ 2 then Go.Sort.shiftUp ltN b (i + 1) D2 else D2) = T → f126_k4 K E1 (.slice (some ⟨q, o, none⟩) d.size cap) (.int .i64 ((a : Nat) : Int)) (.int .i64 ((b : Nat) : Int)) (.int .i64 ((i : Nat) : Int)) (.int .i64 ((jj : Nat) : Int)) wB := by
        intro i D2 wB h1 h2 hz2 sw2 e2
        have g1 : (b : Int) - (i : Int) = ((b - i : Nat) : Int) := by omega
        have g2 : (i : Int) + 1 = ((i + 1 : Nat) : Int) := by omega
        by_cases hbi : b - i ≥ 2
        · rw [if_pos hbi] at e2
          simp (disch := first | omega | simp only [RO] | (simp only [RZ] <;> omega) | fail) only [↓RBp, ↓RA, ↓reduceIte, Nat.reduceAdd, Nat.reduceMul, Nat.reduceEqDiff, RB, RBr, RW, RS, RA2, f126_k4_eq, f126_k4_t, g1, g2]
          apply f126_l4_rule (I := fun x w' => ∃ (j : Nat) (D3 : Array Nat), x = .int .i64 (j : Int) ∧ i + 1 ≤ j ∧ j ≤ b ∧ D3.size = d.size ∧ SW w w' q o D3 ∧ Go.Sort.shiftUp ltN b j D3 = Go.Sort.shiftUp ltN b (i + 1) D2) (μ := fun x _ => b + 1 - (Go.RowKit.intOf x).toNat)
          · exact ⟨i + 1, D2, rfl, by omega, by omega, hz2, sw2, rfl⟩
          · intros; rename_i wA hIA EA hEA
            obtain ⟨j, D3, rfl, h3, h4, hz3, swA, eA⟩ := hIA
            rw [shiftUp_eq] at eA
            have arA := swA.ar
            have q1 : (j : Int) - 1 = ((j - 1 : Nat) : Int) := by omega
            have q2 : (j : Int) + 1 = ((j + 1 : Nat) : Int) := by omega
            by_cases hjb : j < b
            · rw [if_pos hjb] at eA
              have c1 := arA.cell j (by omega)
              have c2 := arA.cell (j - 1) (by omega)
              cases hl : ltN D3[j]! D3[j - 1]! with
              | true =>
                rw [hl, if_neg (by simp)] at eA
                have ar2 := arA.set j D3[j - 1]! (by omega)
                have c3 := ar2.cell (j - 1) (by simp; omega)
                have ssw := swA.swp j (j - 1) (by omega) (by omega)
                unfold f126_l4_t
                (repeat' (first | (with_reducible refine brS_mk (fun _ => ?_) (fun _ => ?_)) | (with_reducible refine And.intro ?_ ?_) | (simp (disch := first | omega | simp only [RO] | (simp only [RZ] <;> omega) | fail) only [↓RBp, ↓RA, ↓reduceIte, Nat.reduceAdd, Nat.reduceMul, Nat.reduceEqDiff, RB, RBr, RW, RS, RA2, q1, q2, c1, c2, c3, c_Less, hl, arA.frz, ar2.frz])))
                apply hEA
                · exact ⟨j + 1, _, rfl, by omega, by omega, (swp_size _ _ _).trans hz3, ssw.drew.drew, eA⟩
                · simp [Go.RowKit.intOf]; omega
              | false =>
                rw [hl, if_pos (by simp)] at eA
                unfold f126_l4_t
                (repeat' (first | (with_reducible refine brS_mk (fun _ => ?_) (fun _ => ?_)) | (with_reducible refine And.intro ?_ ?_) | (simp (disch := first | omega | simp only [RO] | (simp only [RZ] <;> omega) | fail) only [↓RBp, ↓RA, ↓reduceIte, Nat.reduceAdd, Nat.reduceMul, Nat.reduceEqDiff, RB, RBr, RW, RS, RA2, q1, q2, c1, c2, c_Less, hl])))
                apply t2 i D3 _ h1 (by omega) hz3 swA.drew (by rw [eA]; exact e2)
            · rw [if_neg hjb] at eA
              unfold f126_l4_t
              (repeat' (first | (with_reducible refine brS_mk (fun _ => ?_) (fun _ => ?_)) | (with_reducible refine And.intro ?_ ?_) | (simp (disch := first | omega | simp only [RO] | (simp only [RZ] <;> omega) | fail) only [↓RBp, ↓RA, ↓reduceIte, Nat.reduceAdd, Nat.reduceMul, Nat.reduceEqDiff, RB, RBr, RW, RS, RA2, q1, q2])))
              apply t2 i D3 _ h1 (by omega) hz3 swA (by rw [eA]; exact e2)
        · rw [if_neg hbi] at e2
          simp (disch := first | omega | simp only [RO] | (simp only [RZ] <;> omega) | fail) only [↓RBp, ↓RA, ↓reduceIte, Nat.reduceAdd, Nat.reduceMul, Nat.reduceEqDiff, RB, RBr, RW, RS, RA2, f126_k4_eq, f126_k4_t, g1, g2]
          apply t2 i D2 _ h1 (by omega) hz2 sw2 e2
      have t3 : ∀ (i : Nat) wB, a + 1 ≤ i → i ≤ b → SW w wB q o D → Go.Sort.scanSorted ltN D b i0 = i → f126_k3 K E1 (.slice (some ⟨q, o, none⟩) d.size cap) (.int .i64 ((a : Nat) : Int)) (.int .i64 ((b : Nat) : Int)) (.int .i64 ((i : Nat) : Int)) (.int .i64 ((jj : Nat) : Int)) wB := by
        intro i wB h1 h2 swB ei
        rw [ei] at eT
        by_cases hib : i = b
        · rw [if_pos hib] at eT
          rw [← eT] at hK
          subst hib
          simp (disch := first | omega | simp only [RO] | (simp only [RZ] <;> omega) | fail) only [↓RBp, ↓RA, ↓reduceIte, Nat.reduceAdd, Nat.reduceMul, Nat.reduceEqDiff, RB, RBr, RW, RS, RA2, f126_k3_eq, f126_k3_t]
          exact hK _ swB hz
        · rw [if_neg hib] at eT
          have g1 : (b : Int) - (a : Int) = ((b - a : Nat) : Int) := by omega
          have g2 : (i : Int) - 1 = ((i - 1 : Nat) : Int) := by omega
          have g3 : (i : Int) - (a : Int) = ((i - a : Nat) : Int) := by omega
          by_cases h50 : b - a < 50
          · rw [if_pos h50] at eT
            rw [← eT] at hK
            simp (disch := first | omega | simp only [RO] | (simp only [RZ] <;> omega) | fail) only [↓RBp, ↓RA, ↓reduceIte, Nat.reduceAdd, Nat.reduceMul, Nat.reduceEqDiff, RB, RBr, RW, RS, RA2, f126_k3_eq, f126_k3_t, g1]
            exact hK _ swB hz
          · rw [if_neg h50] at eT
            have arB := swB.ar
            have c1 := arB.cell i (by omega)
            have c2 := arB.cell (i - 1) (by omega)
            have ar2 := arB.set i D[i - 1]! (by omega)
            have c3 := ar2.cell (i - 1) (by simp; omega)
            have ssw := swB.swp i (i - 1) (by omega) (by omega)
            have hz1 := (swp_size D i (i - 1)).trans hz
            by_cases hia : i - a ≥ 2
            · rw [if_pos hia] at eT
              (repeat' (first | (with_reducible refine brS_mk (fun _ => ?_) (fun _ => ?_)) | (with_reducible refine And.intro ?_ ?_) | (simp (disch := first | omega | simp only [RO] | (simp only [RZ] <;> omega) | fail) only [↓RBp, ↓RA, ↓reduceIte, Nat.reduceAdd, Nat.reduceMul, Nat.reduceEqDiff, RB, RBr, RW, RS, RA2, f126_k3_eq, f126_k3_t, g1, g2, g3, c1, c2, c3, arB.frz, ar2.frz])))
              apply f126_l3_rule (I := fun x w' => ∃ (j : Nat) (D2 : Array Nat), x = .int .i64 (j : Int) ∧ j ≤ i - 1 ∧ D2.size = d.size ∧ SW w w' q o D2 ∧ Go.Sort.shiftDown ltN j D2 = Go.Sort.shiftDown ltN (i - 1) (Go.Sort.swp D i (i - 1))) (μ := fun x _ => (Go.RowKit.intOf x).toNat)
              · exact ⟨i - 1, _, rfl, by omega, hz1, ssw.drew, rfl⟩
              · intros; rename_i wA hIA EA hEA
                obtain ⟨j, D2, rfl, h3, hz2, swA, eA⟩ := hIA
                have arA := swA.ar
                cases j with
                | zero =>
                  have e0 : Go.Sort.shiftDown ltN 0 D2 = D2 := rfl
                  rw [e0] at eA
                  unfold f126_l3_t
                  (repeat' (first | (with_reducible refine brS_mk (fun _ => ?_) (fun _ => ?_)) | (with_reducible refine And.intro ?_ ?_) | (simp (disch := first | omega | simp only [RO] | (simp only [RZ] <;> omega) | fail) only [↓RBp, ↓RA, ↓reduceIte, Nat.reduceAdd, Nat.reduceMul, Nat.reduceEqDiff, RB, RBr, RW, RS, RA2])))
                  apply t4 i D2 _ h1 (by omega) hz2 swA (by rw [eA]; exact eT)
                | succ j =>
                  rw [shiftDown_succ] at eA
                  have q1 : ((j + 1 : Nat) : Int) - 1 = (j : Int) := by omega
                  have d1 := arA.cell (j + 1) (by omega)
                  have d2 := arA.cell j (by omega)
                  cases hl : ltN D2[j + 1]! D2[j]! with
                  | true =>
                    rw [hl, if_neg (by simp)] at eA
                    have ar3 := arA.set (j + 1) D2[j]! (by omega)
                    have d3 := ar3.cell j (by simp; omega)
                    have ssw2 := swA.swp (j + 1) j (by omega) (by omega)
                    unfold f126_l3_t
                    (repeat' (first | (with_reducible refine brS_mk (fun _ => ?_) (fun _ => ?_)) | (with_reducible refine And.intro ?_ ?_) | (simp (disch := first | omega | simp only [RO] | (simp only [RZ] <;> omega) | fail) only [↓RBp, ↓RA, ↓reduceIte, Nat.reduceAdd, Nat.reduceMul, Nat.reduceEqDiff, RB, RBr, RW, RS, RA2, q1, d1, d2, d3, c_Less, hl, arA.frz, ar3.frz])))
                    apply hEA
                    · exact ⟨j, _, rfl, by omega, (swp_size _ _ _).trans hz2, ssw2.drew.drew, eA⟩
                    · simp [Go.RowKit.intOf]
                  | false =>
                    rw [hl, if_pos (by simp)] at eA
                    unfold f126_l3_t
                    (repeat' (first | (with_reducible refine brS_mk (fun _ => ?_) (fun _ => ?_)) | (with_reducible refine And.intro ?_ ?_) | (simp (disch := first | omega | simp only [RO] | (simp only [RZ] <;> omega) | fail) only [↓RBp, ↓RA, ↓reduceIte, Nat.reduceAdd, Nat.reduceMul, Nat.reduceEqDiff, RB, RBr, RW, RS, RA2, q1, d1, d2, c_Less, hl])))
                    apply t4 i D2 _ h1 (by omega) hz2 swA.drew (by rw [eA]; exact eT)
            · rw [if_neg hia] at eT
              (repeat' (first | (with_reducible refine brS_mk (fun _ => ?_) (fun _ => ?_)) | (with_reducible refine And.intro ?_ ?_) | (simp (disch := first | omega | simp only [RO] | (simp only [RZ] <;> omega) | fail) only [↓RBp, ↓RA, ↓reduceIte, Nat.reduceAdd, Nat.reduceMul, Nat.reduceEqDiff, RB, RBr, RW, RS, RA2, f126_k3_eq, f126_k3_t, g1, g2, g3, c1, c2, c3, arB.frz, ar2.frz])))
              apply t4 i _ _ h1 (by omega) hz1 ssw.drew eT
      unfold f126_l1_t
      simp (disch := first | omega | simp only [RO] | (simp only [RZ] <;> omega) | fail) only [↓RBp, ↓RA, ↓reduceIte, Nat.reduceAdd, Nat.reduceMul, Nat.reduceEqDiff, RB, RBr, RW, RS, RA2]
      apply f126_l2_rule (I := fun x w' => ∃ i : Nat, x = .int .i64 (i : Int) ∧ a + 1 ≤ i ∧ i ≤ b ∧ SW w w' q o D ∧ Go.Sort.scanSorted ltN D b i = Go.Sort.scanSorted ltN D b i0) (μ := fun x _ => b + 1 - (Go.RowKit.intOf x).toNat)
      · exact ⟨i0, rfl, b1, b2, sw, rfl⟩
      · intros; rename_i wA hIA EA hEA
        obtain ⟨i, rfl, h1, h2, swA, eA⟩ := hIA
        rw [scanSorted_eq] at eA
        have arA := swA.ar
        have q1 : (i : Int) - 1 = ((i - 1 : Nat) : Int) := by omega
        have q2 : (i : Int) + 1 = ((i + 1 : Nat) : Int) := by omega
        by_cases hib : i < b
        · have c1 := arA.cell i (by omega)
          have c2 := arA.cell (i - 1) (by omega)
          cases hl : ltN D[i]! D[i - 1]! with
          | false =>
            rw [if_pos (by simp [hl]; omega)] at eA
            unfold f126_l2_t
            (repeat' (first | (with_reducible refine brS_mk (fun _ => ?_) (fun _ => ?_)) | (with_reducible refine And.intro ?_ ?_) | (simp (disch := first | omega | simp only [RO] | (simp only [RZ] <;> omega) | fail) only [↓RBp, ↓RA, ↓reduceIte, Nat.reduceAdd, Nat.reduceMul, Nat.reduceEqDiff, RB, RBr, RW, RS, RA2, q1, q2, c1, c2, c_Less, hl])))
            apply hEA
            · exact ⟨i + 1, rfl, by omega, by omega, swA.drew, eA⟩
            · simp [Go.RowKit.intOf]; omega
          | true =>
            rw [if_neg (by simp [hl])] at eA
            unfold f126_l2_t
            (repeat' (first | (with_reducible refine brS_mk (fun _ => ?_) (fun _ => ?_)) | (with_reducible refine And.intro ?_ ?_) | (simp (disch := first | omega | simp only [RO] | (simp only [RZ] <;> omega) | fail) only [↓RBp, ↓RA, ↓reduceIte, Nat.reduceAdd, Nat.reduceMul, Nat.reduceEqDiff, RB, RBr, RW, RS, RA2, q1, q2, c1, c2, c_Less, hl])))
            apply t3 i _ h1 h2 swA.drew eA.symm
        · rw [if_neg (by simp; omega)] at eA
          unfold f126_l2_t
          (repeat' (first | (with_reducible refine brS_mk (fun _ => ?_) (fun _ => ?_)) | (with_reducible refine And.intro ?_ ?_) | (simp (disch := first | omega | simp only [RO] | (simp only [RZ] <;> omega) | fail) only [↓RBp, ↓RA, ↓reduceIte, Nat.reduceAdd, Nat.reduceMul, Nat.reduceEqDiff, RB, RBr, RW, RS, RA2])))
          apply t3 i _ h1 h2 swA.drew eA.symm
    · have : jj = 5 := by omega
      subst this
      have e0 : Go.Sort.partialIns ltN a b (5 - 5) i0 D = (D, false) := rfl
      rw [e0] at eT
      rw [← eT] at hK
      unfold f126_l1_t
      simp (disch := first | omega | simp only [RO] | (simp only [RZ] <;> omega) | fail) only [↓RBp, ↓RA, ↓reduceIte, Nat.reduceAdd, Nat.reduceMul, Nat.reduceEqDiff, RB, RBr, RW, RS, RA2, f126_k1_eq, f126_k1_t]
      exact hK _ sw hz
end
end Go.Proofs.YtaeopkhdokaaoaaGreatDoor
namespace Go.Proofs.YtaeopkhdokaaoaaGreatDoor
open Go Go.Sh
set_option maxRecDepth 100000
set_option maxHeartbeats 8000000
set_option linter.unusedSimpArgs false
set_option linter.unusedVariables false
section
variable {w w' : World} {q o cap : Nat} {d : Array Nat}
def pd3 (D : Array Nat) (a b lim pv : Nat) (wb wp : Bool) : Array Nat :=
  if (decide (a > 0) && !ltN D[a - 1]! D[pv]!) = true then
    match Go.Sort.partitionEqual ltN D a b pv with
    | (mid, d4) => if _h : a < mid ∧ mid ≤ b then Go.Sort.pdq ltN d4 mid b lim wb wp else d4
  else
    match Go.Sort.partition ltN D a b pv with
    | (mid, ap, d4) =>
      if _h : a ≤ mid ∧ mid < b then
        if mid - a < b - mid then Go.Sort.pdq ltN (Go.Sort.pdq ltN d4 a mid lim true true) (mid + 1) b lim (decide (mid - a ≥ (b - a) / 8)) ap
        else Go.Sort.pdq ltN (Go.Sort.pdq ltN d4 (mid + 1) b lim true true) a mid lim (decide (b - mid ≥ (b - a) / 8)) ap
      else d4
def pd2 (D : Array Nat) (a b lim pv : Nat) (hint : Go.Sort.Hint) (wb wp : Bool) : Array Nat :=
  let pi := if wb && wp && hint = .increasing then Go.Sort.partialInsertionSort ltN D a b else (D, false)
  if pi.2 then pi.1 else pd3 pi.1 a b lim pv wb wp
def pd1 (D : Array Nat) (a b lim : Nat) (wb wp : Bool) : Array Nat :=
  let c := Go.Sort.choosePivot ltN D a b
  pd2 (if c.2 = .decreasing then Go.Sort.reverseRange D a b else D) a b lim (if c.2 = .decreasing then (b - 1) - (c.1 - a) else c.1) (if c.2 = .decreasing then Go.Sort.Hint.increasing else c.2) wb wp
theorem pdq_eq (D : Array Nat) (a b lim : Nat) (wb wp : Bool) : Go.Sort.pdq ltN D a b lim wb wp = if b - a ≤ 12 then Go.Sort.insertionSort ltN D a b else if lim = 0 then Go.Sort.heapSort ltN D a b else pd1 (if !wb then Go.Sort.breakPatterns D a b else D) a b (if !wb then lim - 1 else lim) wb wp := by
  rw [Go.Sort.pdq]
  rfl
theorem k_pdq : ∀ (N : Nat) (w : World) (d : Array Nat) (a0 b0 lim0 : Nat) (K : K1), b0 - a0 ≤ N → Ar w q o d → d.size < 1099511627776 → a0 ≤ b0 → b0 ≤ d.size → lim0 < 1099511627776 → (∀ w', SW w w' q o (Go.Sort.pdq ltN d a0 b0 lim0 true true) → (Go.Sort.pdq ltN d a0 b0 lim0 true true).size = d.size → K (.tuple #[]) w') →
    callS Tryz.prog 107 #[.slice (some ⟨q, o, none⟩) d.size cap, .int .i64 (a0 : Int), .int .i64 (b0 : Int), .int .i64 (lim0 : Int)] w K := by
  intro N
  induction N using Nat.strongRecOn with
  | ind N ih =>
  intro w d a0 b0 lim0 K hN h hd hab hb hlim hK
  refine f107_call _ _ _ _ _ _ ?_
  unfold f107_t
  generalize hT : Go.Sort.pdq ltN d a0 b0 lim0 true true = T at *
  apply f107_l1_rule (I := fun x1 x2 x3 x8 x9 w' => ∃ (a b lim : Nat) (wb wp : Bool) (D : Array Nat), x1 = .int .i64 (a : Int) ∧ x2 = .int .i64 (b : Int) ∧ x3 = .int .i64 (lim : Int) ∧ x8 = .bool wb ∧ x9 = .bool wp ∧ b - a ≤ b0 - a0 ∧ a ≤ b ∧ b ≤ d.size ∧ lim ≤ lim0 ∧ D.size = d.size ∧ SW w w' q o D ∧ Go.Sort.pdq ltN D a b lim wb wp = T) (μ := fun x1 x2 _ _ _ _ => (Go.RowKit.intOf x2).toNat - (Go.RowKit.intOf x1).toNat)
  · exact ⟨a0, b0, lim0, true, true, d, rfl, rfl, rfl, rfl, rfl, Nat.le_refl _, hab, hb, Nat.le_refl _, rfl, SW.refl h, hT⟩
  · intro x1 x2 x3 x8 x9 w1 hI E1 hE
    obtain ⟨a, b, lim0', wb, wp, D, rfl, rfl, rfl, rfl, rfl, hba, hab1, hb1, hl1, hz, sw, eT⟩ := hI
    rw [pdq_eq] at eT
    have g0 : (b : Int) - (a : Int) = ((b - a : Nat) : Int) := by omega
    by_cases h12 : b - a ≤ 12
    · rw [if_pos h12] at eT
      unfold f107_l1_t
      simp (disch := first | omega | simp only [RO] | (simp only [RZ] <;> omega) | fail) only [↓RBp, ↓RA, ↓reduceIte, Nat.reduceAdd, Nat.reduceMul, Nat.reduceEqDiff, RB, RBr, RW, RS, RA2, g0]
      rw [← hz]
      refine k_ins sw.ar (by omega) a b hab1 (by omega) _ (fun w2 h2 hz2 => ?_)
      rw [eT] at h2 hz2
      exact hK _ (sw.trans h2) (hz2.trans hz)
    · rw [if_neg h12] at eT
      by_cases hl0 : lim0' = 0
      · rw [if_pos hl0] at eT
        subst hl0
        unfold f107_l1_t
        simp (disch := first | omega | simp only [RO] | (simp only [RZ] <;> omega) | fail) only [↓RBp, ↓RA, ↓reduceIte, Nat.reduceAdd, Nat.reduceMul, Nat.reduceEqDiff, RB, RBr, RW, RS, RA2, g0]
        rw [← hz]
        refine k_heap sw.ar (by omega) a b (by omega) (by omega) _ (fun w2 h2 hz2 => ?_)
        rw [eT] at h2 hz2
        exact hK _ (sw.trans h2) (hz2.trans hz)
      · rw [if_neg hl0] at eT
        have t3 : ∀ (lim pv : Nat) (D3 : Array Nat) wB, lim ≤ lim0' → a ≤ pv → pv < b → D3.size = d.size → SW w wB q o D3 → pd3 D3 a b lim pv wb wp = T → f107_k3 K E1 (.slice (some ⟨q, o, none⟩) d.size cap) (.int .i64 ((a : Nat) : Int)) (.int .i64 ((b : Nat) : Int)) (.int .i64 ((lim : Nat) : Int)) (.bool wb) (.bool wp) (.int .i64 (((b - a) : Nat) : Int)) (.int .i64 ((pv : Nat) : Int)) wB := by
          intro lim pv D3 wB hl hp1 hp2 hz3 sw3 e3
          unfold pd3 at e3
          have ar3 := sw3.ar
          have cc := ar3.cell pv (by omega)
          by_cases ha : a > 0
          · have ga : (a : Int) - 1 = ((a - 1 : Nat) : Int) := by omega
            have ca := ar3.cell (a - 1) (by omega)
            cases hlt : ltN D3[a - 1]! D3[pv]! with
            | false =>
              rw [hlt, if_pos (by simp; omega)] at e3
              have kk := fun K hK => k_partEq (cap := cap) (K := K) sw3.drew.ar (by omega) a b pv (by omega) (by omega) hp1 hp2 hK
              generalize Go.Sort.partitionEqual ltN D3 a b pv = R at *
              obtain ⟨mid, d4⟩ := R
              simp only at e3 kk
              (repeat' (first | (with_reducible refine brS_mk (fun _ => ?_) (fun _ => ?_)) | (with_reducible refine And.intro ?_ ?_) | (simp (disch := first | omega | simp only [RO] | (simp only [RZ] <;> omega) | fail) only [↓RBp, ↓RA, ↓reduceIte, Nat.reduceAdd, Nat.reduceMul, Nat.reduceEqDiff, RB, RBr, RW, RS, RA2, f107_k3_eq, f107_k3_t, ga, ca, cc, c_Less, hlt])))
              rw [← hz3]
              refine kk _ (fun w4 h4 hz4 hr4 => ?_)
              rw [dif_pos hr4] at e3
              try rw [hz3]
              apply hE
              · exact ⟨mid, b, lim, wb, wp, d4, rfl, rfl, rfl, rfl, rfl, by omega, by omega, by omega, by omega, hz4.trans hz3, sw3.drew.trans h4, e3⟩
              · simp [Go.RowKit.intOf]; omega
            | true =>
              rw [hlt, if_neg (by simp)] at e3
              (repeat' (first | (with_reducible refine brS_mk (fun _ => ?_) (fun _ => ?_)) | (with_reducible refine And.intro ?_ ?_) | (simp (disch := first | omega | simp only [RO] | (simp only [RZ] <;> omega) | fail) only [↓RBp, ↓RA, ↓reduceIte, Nat.reduceAdd, Nat.reduceMul, Nat.reduceEqDiff, RB, RBr, RW, RS, RA2, f107_k3_eq, f107_k3_t, ga, ca, cc, c_Less, hlt])))
              have hst := Go.Sort.partition_holds ltN ltN_swo D3 a b pv hp1 hp2 (by omega)
              have kk := fun K hK => k_part (cap := cap) (K := K) sw3.drew.ar (by omega) a b pv (by omega) (by omega) hp1 hp2 hK
              generalize Go.Sort.partition ltN D3 a b pv = R at *
              obtain ⟨mid, ap, d4⟩ := R
              simp only at e3 hst kk
              obtain ⟨m1, m2, _⟩ := hst
              rw [dif_pos ⟨m1, m2⟩] at e3
              rw [← hz3]
              refine kk _ (fun w4 h4 hz4 => ?_)
              have g1 : (mid : Int) - (a : Int) = ((mid - a : Nat) : Int) := by omega
              have g2 : (b : Int) - (mid : Int) = ((b - mid : Nat) : Int) := by omega
              have g3 : (mid : Int) + 1 = ((mid + 1 : Nat) : Int) := by omega
              have g4 : ((b - a : Nat) : Int) / 8 = (((b - a) / 8 : Nat) : Int) := by omega
              have hz5 : d4.size = d.size := hz4.trans hz3
              have f1 : decide (((b - a : Nat) : Int) / 8 ≤ (mid : Int) - (a : Int)) = decide (mid - a ≥ (b - a) / 8) := by
                have : (((b - a : Nat) : Int) / 8 ≤ (mid : Int) - (a : Int)) = (mid - a ≥ (b - a) / 8) := propext (by omega)
                simp only [this]
              have f2 : decide (((b - a : Nat) : Int) / 8 ≤ (b : Int) - (mid : Int)) = decide (b - mid ≥ (b - a) / 8) := by
                have : (((b - a : Nat) : Int) / 8 ≤ (b : Int) - (mid : Int)) = (b - mid ≥ (b - a) / 8) := propext (by omega)
                simp only [this]
              by_cases hmm : mid - a < b - mid
              · rw [if_pos hmm] at e3
                simp (disch := first | omega | simp only [RO] | (simp only [RZ] <;> omega) | fail) only [↓RBp, ↓RA, ↓reduceIte, Nat.reduceAdd, Nat.reduceMul, Nat.reduceEqDiff, RB, RBr, RW, RS, RA2, g0, f1, f2, g1, g2, g4]
                rw [hz3, ← hz5]
                refine ih (mid - a) (by omega) w4 d4 a mid lim _ (Nat.le_refl _) h4.ar (by omega) m1 (by omega) (by omega) (fun w5 h5 hz6 => ?_)
                try rw [hz5]
                simp (disch := first | omega | simp only [RO] | (simp only [RZ] <;> omega) | fail) only [↓RBp, ↓RA, ↓reduceIte, Nat.reduceAdd, Nat.reduceMul, Nat.reduceEqDiff, RB, RBr, RW, RS, RA2, g3]
                apply hE
                · exact ⟨mid + 1, b, lim, decide (mid - a ≥ (b - a) / 8), ap, _, rfl, rfl, rfl, by rw [f1], rfl, by omega, by omega, by omega, by omega, hz6.trans hz5, (sw3.drew.trans h4).trans h5, e3⟩
                · simp [Go.RowKit.intOf]; omega
              · rw [if_neg hmm] at e3
                simp (disch := first | omega | simp only [RO] | (simp only [RZ] <;> omega) | fail) only [↓RBp, ↓RA, ↓reduceIte, Nat.reduceAdd, Nat.reduceMul, Nat.reduceEqDiff, RB, RBr, RW, RS, RA2, g0, f1, f2, g1, g2, g3, g4]
                rw [hz3, ← hz5]
                refine ih (b - (mid + 1)) (by omega) w4 d4 (mid + 1) b lim _ (Nat.le_refl _) h4.ar (by omega) (by omega) (by omega) (by omega) (fun w5 h5 hz6 => ?_)
                try rw [hz5]
                apply hE
                · exact ⟨a, mid, lim, decide (b - mid ≥ (b - a) / 8), ap, _, rfl, rfl, rfl, by rw [f2], rfl, by omega, by omega, by omega, by omega, hz6.trans hz5, (sw3.drew.trans h4).trans h5, e3⟩
                · simp [Go.RowKit.intOf]; omega
          · rw [if_neg (by simp [ha])] at e3
            (repeat' (first | (with_reducible refine brS_mk (fun _ => ?_) (fun _ => ?_)) | (with_reducible refine And.intro ?_ ?_) | (simp (disch := first | omega | simp only [RO] | (simp only [RZ] <;> omega) | fail) only [↓RBp, ↓RA, ↓reduceIte, Nat.reduceAdd, Nat.reduceMul, Nat.reduceEqDiff, RB, RBr, RW, RS, RA2, f107_k3_eq, f107_k3_t])))
            have hst := Go.Sort.partition_holds ltN ltN_swo D3 a b pv hp1 hp2 (by omega)
            have kk := fun K hK => k_part (cap := cap) (K := K) sw3.drew.ar (by omega) a b pv (by omega) (by omega) hp1 hp2 hK
            generalize Go.Sort.partition ltN D3 a b pv = R at *
            obtain ⟨mid, ap, d4⟩ := R
            simp only at e3 hst kk
            obtain ⟨m1, m2, _⟩ := hst
            rw [dif_pos ⟨m1, m2⟩] at e3
            rw [← hz3]
            refine kk _ (fun w4 h4 hz4 => ?_)
            have g1 : (mid : Int) - (a : Int) = ((mid - a : Nat) : Int) := by omega
            have g2 : (b : Int) - (mid : Int) = ((b - mid : Nat) : Int) := by omega
            have g3 : (mid : Int) + 1 = ((mid + 1 : Nat) : Int) := by omega
            have g4 : ((b - a : Nat) : Int) / 8 = (((b - a) / 8 : Nat) : Int) := by omega
            have hz5 : d4.size = d.size := hz4.trans hz3
            have f1 : decide (((b - a : Nat) : Int) / 8 ≤ (mid : Int) - (a : Int)) = decide (mid - a ≥ (b - a) / 8) := by
              have : (((b - a : Nat) : Int) / 8 ≤ (mid : Int) - (a : Int)) = (mid - a ≥ (b - a) / 8) := propext (by omega)
              simp only [this]
            have f2 : decide (((b - a : Nat) : Int) / 8 ≤ (b : Int) - (mid : Int)) = decide (b - mid ≥ (b - a) / 8) := by
              have : (((b - a : Nat) : Int) / 8 ≤ (b : Int) - (mid : Int)) = (b - mid ≥ (b - a) / 8) := propext (by omega)
              simp only [this]
            by_cases hmm : mid - a < b - mid
            · rw [if_pos hmm] at e3
              simp (disch := first | omega | simp only [RO] | (simp only [RZ] <;> omega) | fail) only [↓RBp, ↓RA, ↓reduceIte, Nat.reduceAdd, Nat.reduceMul, Nat.reduceEqDiff, RB, RBr, RW, RS, RA2, g0, f1, f2, g1, g2, g4]
              rw [hz3, ← hz5]
              refine ih (mid - a) (by omega) w4 d4 a mid lim _ (Nat.le_refl _) h4.ar (by omega) m1 (by omega) (by omega) (fun w5 h5 hz6 => ?_)
              try rw [hz5]
              simp (disch := first | omega | simp only [RO] | (simp only [RZ] <;> omega) | fail) only [↓RBp, ↓RA, ↓reduceIte, Nat.reduceAdd, Nat.reduceMul, Nat.reduceEqDiff, RB, RBr, RW, RS, RA2, g3]
              apply hE
              · exact ⟨mid + 1, b, lim, decide (mid - a ≥ (b - a) / 8), ap, _, rfl, rfl, rfl, by rw [f1], rfl, by omega, by omega, by omega, by omega, hz6.trans hz5, (sw3.drew.trans h4).trans h5, e3⟩
              · simp [Go.RowKit.intOf]; omega
            · rw [if_neg hmm] at e3
              simp (disch := first | omega | simp only [RO] | (simp only [RZ] <;> omega) | fail) only [↓RBp, ↓RA, ↓reduceIte, Nat.reduceAdd, Nat.reduceMul, Nat.reduceEqDiff, RB, RBr, RW, RS, RA2, g0, f1, f2, g1, g2, g3, g4]
              rw [hz3, ← hz5]
              refine ih (b - (mid + 1)) (by omega) w4 d4 (mid + 1) b lim _ (Nat.le_refl _) h4.ar (by omega) (by omega) (by omega) (by omega) (fun w5 h5 hz6 => ?_)
              try rw [hz5]
              apply hE
              · exact ⟨a, mid, lim, decide (b - mid ≥ (b - a) / 8), ap, _, rfl, rfl, rfl, by rw [f2], rfl, by omega, by omega, by omega, by omega, hz6.trans hz5, (sw3.drew.trans h4).trans h5, e3⟩
              · simp [Go.RowKit.intOf]; omega
        have t2 : ∀ (lim pv : Nat) (hh : Go.Sort.Hint) (D2 : Array Nat) wB, lim ≤ lim0' → a ≤ pv → pv < b → D2.size = d.size → SW w wB q o D2 → pd2 D2 a b lim pv hh wb wp = T → f107_k2 K E1 (.slice (some ⟨q, o, none⟩) d.size cap) (.int .i64 ((a : Nat) : Int)) (.int .i64 ((b : Nat) : Int)) (.int .i64 ((lim : Nat) : Int)) (.bool wb) (.bool wp) (.int .i64 (((b - a) : Nat) : Int)) (.int .i64 ((pv : Nat) : Int)) (.int .i64 (hintN hh)) wB := by
          intro lim pv hh D2 wB hl hp1 hp2 hz2 sw2 e2
          unfold pd2 at e2
          have nopi : (wb && wp && decide (hh = .increasing)) = false → pd3 D2 a b lim pv wb wp = T := by
            intro hc
            simpa [hc] using e2
          cases hwb : wb with
          | false =>
            rw [hwb] at nopi t3
            simp (disch := first | omega | simp only [RO] | (simp only [RZ] <;> omega) | fail) only [↓RBp, ↓RA, ↓reduceIte, Nat.reduceAdd, Nat.reduceMul, Nat.reduceEqDiff, RB, RBr, RW, RS, RA2, f107_k2_eq, f107_k2_t]
            apply t3 lim pv D2 _ hl hp1 hp2 hz2 sw2 (nopi (by simp))
          | true =>
            cases hwp : wp with
            | false =>
              rw [hwb, hwp] at nopi t3
              simp (disch := first | omega | simp only [RO] | (simp only [RZ] <;> omega) | fail) only [↓RBp, ↓RA, ↓reduceIte, Nat.reduceAdd, Nat.reduceMul, Nat.reduceEqDiff, RB, RBr, RW, RS, RA2, f107_k2_eq, f107_k2_t]
              apply t3 lim pv D2 _ hl hp1 hp2 hz2 sw2 (nopi (by simp))
            | true =>
              rw [hwb, hwp] at nopi t3 e2
              by_cases hi : hh = .increasing
              · have e2' : (if (Go.Sort.partialInsertionSort ltN D2 a b).2 = true then (Go.Sort.partialInsertionSort ltN D2 a b).1 else pd3 (Go.Sort.partialInsertionSort ltN D2 a b).1 a b lim pv true true) = T := by simpa [hi] using e2
                have kk := fun K hK => k_pis (cap := cap) (K := K) sw2.ar (by omega) a b (by omega) (by omega) hK
                generalize Go.Sort.partialInsertionSort ltN D2 a b = R at *
                obtain ⟨d5, r5⟩ := R
                simp only at e2' kk
                subst hi
                have hn1 : hintN .increasing = 1 := rfl
                simp (disch := first | omega | simp only [RO] | (simp only [RZ] <;> omega) | fail) only [↓RBp, ↓RA, ↓reduceIte, Nat.reduceAdd, Nat.reduceMul, Nat.reduceEqDiff, RB, RBr, RW, RS, RA2, f107_k2_eq, f107_k2_t, hn1]
                rw [← hz2]
                refine kk _ (fun w4 h4 hz4 => ?_)
                try rw [hz2]
                cases r5 with
                | true =>
                  rw [if_pos rfl] at e2'
                  rw [← e2'] at hK
                  simp (disch := first | omega | simp only [RO] | (simp only [RZ] <;> omega) | fail) only [↓RBp, ↓RA, ↓reduceIte, Nat.reduceAdd, Nat.reduceMul, Nat.reduceEqDiff, RB, RBr, RW, RS, RA2]
                  exact hK _ (sw2.trans h4) (hz4.trans hz2)
                | false =>
                  rw [if_neg (by simp)] at e2'
                  simp (disch := first | omega | simp only [RO] | (simp only [RZ] <;> omega) | fail) only [↓RBp, ↓RA, ↓reduceIte, Nat.reduceAdd, Nat.reduceMul, Nat.reduceEqDiff, RB, RBr, RW, RS, RA2]
                  apply t3 lim pv d5 _ hl hp1 hp2 (hz4.trans hz2) (sw2.trans h4) e2'
              · have hn1 : ¬ hintN hh = 1 := by cases hh <;> simp_all [hintN]
                simp (disch := first | omega | simp only [RO] | (simp only [RZ] <;> omega) | fail) only [↓RBp, ↓RA, ↓reduceIte, Nat.reduceAdd, Nat.reduceMul, Nat.reduceEqDiff, RB, RBr, RW, RS, RA2, f107_k2_eq, f107_k2_t, dec_false hn1]
                apply t3 lim pv D2 _ hl hp1 hp2 hz2 sw2 (nopi (by simp [hi]))
        have t1 : ∀ (lim : Nat) (D1 : Array Nat) wB, lim ≤ lim0' → D1.size = d.size → SW w wB q o D1 → pd1 D1 a b lim wb wp = T → f107_k1 K E1 (.slice (some ⟨q, o, none⟩) d.size cap) (.int .i64 ((a : Nat) : Int)) (.int .i64 ((b : Nat) : Int)) (.int .i64 ((lim : Nat) : Int)) (.bool wb) (.bool wp) (.int .i64 (((b - a) : Nat) : Int)) wB := by
          intro lim D1 wB hl hz1 sw1 e1
          unfold pd1 at e1
          have hcp := Go.Sort.choosePivot_holds ltN D1 a b (by omega)
          have kk := fun K hK => k_choose (cap := cap) (K := K) sw1.ar (by omega) a b (by omega) (by omega) hK
          generalize Go.Sort.choosePivot ltN D1 a b = C at *
          obtain ⟨pv, hh⟩ := C
          simp only at e1 hcp kk
          simp (disch := first | omega | simp only [RO] | (simp only [RZ] <;> omega) | fail) only [↓RBp, ↓RA, ↓reduceIte, Nat.reduceAdd, Nat.reduceMul, Nat.reduceEqDiff, RB, RBr, RW, RS, RA2, f107_k1_eq, f107_k1_t]
          rw [← hz1]
          refine kk _ (fun w2 h2 => ?_)
          try rw [hz1]
          have sw2 : SW w w2 q o D1 := ⟨sw1.ar.frm (Frm.of_ext (F := fun _ => False) h2) (fun h => h), sw1.frm.ext h2⟩
          by_cases hdec : hh = .decreasing
          · subst hdec
            simp only [if_true] at e1
            have hn1 : hintN .decreasing = 2 := rfl
            have g1 : (b : Int) - 1 = ((b - 1 : Nat) : Int) := by omega
            have g2 : (pv : Int) - (a : Int) = ((pv - a : Nat) : Int) := by omega
            have g3 : ((b - 1 : Nat) : Int) - ((pv - a : Nat) : Int) = ((b - 1 - (pv - a) : Nat) : Int) := by omega
            simp (disch := first | omega | simp only [RO] | (simp only [RZ] <;> omega) | fail) only [↓RBp, ↓RA, ↓reduceIte, Nat.reduceAdd, Nat.reduceMul, Nat.reduceEqDiff, RB, RBr, RW, RS, RA2, hn1]
            rw [← hz1]
            refine k_reverse sw2.ar (by omega) a b (by omega) (by omega) _ (fun w3 h3 hz3 => ?_)
            try rw [hz1]
            simp (disch := first | omega | simp only [RO] | (simp only [RZ] <;> omega) | fail) only [↓RBp, ↓RA, ↓reduceIte, Nat.reduceAdd, Nat.reduceMul, Nat.reduceEqDiff, RB, RBr, RW, RS, RA2, g1, g2, g3]
            have tt := t2 lim (b - 1 - (pv - a)) .increasing (Go.Sort.reverseRange D1 a b) w3 hl (by omega) (by omega) (hz3.trans hz1) (sw2.trans h3) e1
            rw [show hintN .increasing = 1 from rfl] at tt
            apply tt
          · simp only [hdec, if_false] at e1
            have hn1 : ¬ hintN hh = 2 := by cases hh <;> simp_all [hintN]
            simp (disch := first | omega | simp only [RO] | (simp only [RZ] <;> omega) | fail) only [↓RBp, ↓RA, ↓reduceIte, Nat.reduceAdd, Nat.reduceMul, Nat.reduceEqDiff, RB, RBr, RW, RS, RA2, dec_false hn1]
            apply t2 lim pv hh D1 _ hl hcp.1 hcp.2 hz1 sw2 e1
        have gl : (lim0' : Int) - 1 = ((lim0' - 1 : Nat) : Int) := by omega
        unfold f107_l1_t
        (repeat' (first | (with_reducible refine brS_mk (fun _ => ?_) (fun _ => ?_)) | (with_reducible refine And.intro ?_ ?_) | (simp (disch := first | omega | simp only [RO] | (simp only [RZ] <;> omega) | fail) only [↓RBp, ↓RA, ↓reduceIte, Nat.reduceAdd, Nat.reduceMul, Nat.reduceEqDiff, RB, RBr, RW, RS, RA2, g0])))
        · rename_i hw
          have i1 : (if (!wb) = true then Go.Sort.breakPatterns D a b else D) = D := if_neg (by simp [hw])
          have i2 : (if (!wb) = true then lim0' - 1 else lim0') = lim0' := if_neg (by simp [hw])
          rw [i1, i2] at eT
          apply t1 lim0' D _ (Nat.le_refl _) hz sw eT
        · rename_i hw
          have hw' : wb = false := by simpa using hw
          have i1 : (if (!wb) = true then Go.Sort.breakPatterns D a b else D) = Go.Sort.breakPatterns D a b := if_pos (by simp [hw'])
          have i2 : (if (!wb) = true then lim0' - 1 else lim0') = lim0' - 1 := if_pos (by simp [hw'])
          rw [i1, i2] at eT
          rw [← hz]
          refine k_break sw.ar (by omega) a b (by omega) (by omega) _ (fun w2 h2 hz2 => ?_)
          try rw [hz]
          simp (disch := first | omega | simp only [RO] | (simp only [RZ] <;> omega) | fail) only [↓RBp, ↓RA, ↓reduceIte, Nat.reduceAdd, Nat.reduceMul, Nat.reduceEqDiff, RB, RBr, RW, RS, RA2, gl, g0]
          apply t1 (lim0' - 1) _ _ (by omega) (hz2.trans hz) (sw.trans h2) eT
end
end Go.Proofs.YtaeopkhdokaaoaaGreatDoor
namespace Go.Proofs.YtaeopkhdokaaoaaGreatDoor
open Go Go.Sh
set_option maxRecDepth 100000
set_option linter.unusedVariables false
noncomputable def f23_c : Code := (Tryz.f23.body).getD .skip
def f23_rs : List ResultVar := [.tmp 0, .tmp 1]
abbrev f23_e (K : K1) : KF := endK Tryz.prog f23_rs K
def f23_t (K : K1) (w : World) : Prop :=
 callS Tryz.prog 80 (pA #[(.int .i64 40)]) w fun t5 w_1 =>
 ev Tryz.prog (Instr.extract t5 0) w_1 fun t6 w_2 =>
 ev Tryz.prog (Instr.extract t5 1) w_2 fun t7 w_3 =>
 ev Tryz.prog (binM .neq 28 (.tmp 8) (.const (.int .i64 0)) t7 (.int .i64 0)) w_3 fun t9 w_4 =>
 gd t9 false (fun k => k t6 w_4) w_4 fun t11 w_5 =>
 gd t9 false (fun k => ev Tryz.prog (binM .eql 47 (.tmp 11) (.const (.pointer none)) t11 (.pointer none)) w_5 k) w_5 fun t12 w_6 =>
 pickS t9 (.bool true) t12 w_6 fun t13 w_7 =>
 gd t13 false (fun k => k t6 w_7) w_7 fun t15 w_8 =>
 gd t13 false (fun k => callS Tryz.prog 65 (pA #[t15, (.int .i64 0)]) w_8 k) w_8 fun t16 w_9 =>
 gd t13 false (fun k => ev Tryz.prog (binM .eql 48 (.tmp 16) (.const (.pointer none)) t16 (.pointer none)) w_9 k) w_9 fun t17 w_10 =>
 pickS t13 (.bool true) t17 w_10 fun t18 w_11 =>
 cndS t18 (
 K (.tuple #[(.pointer none), (.pointer none)]) w_11) (
 callS Tryz.prog 65 (pA #[t6, (.int .i64 0)]) w_11 fun t21 w_12 =>
 K (.tuple #[t6, t21]) w_12)
theorem f23_sk (K : K1) (w : World) : (cS f23_c (f23_e K) (f23_e K) nX ([] ++ List.replicate (22 - 0) undef) w) = f23_t K w := by kernel_rfl
theorem f23_ok : codeOk Tryz.prog 22 f23_c = true := by kernel_rfl
theorem f23_call (K : K1) (w : World) (h : f23_t K w) : callS Tryz.prog 23 #[] w K :=
  calls_of_codeS (args := []) mixed Tryz.func23 (show Tryz.f23.body = some f23_c from rfl) rfl (show Tryz.f23.results = f23_rs.toArray from rfl) f23_ok (by simp) (cast ((Eq.trans (by kernel_rfl) (f23_sk K w) : (cS f23_c (f23_e K) (f23_e K) nX ([] ++ List.replicate (22 - 0) undef) w) = f23_t K w)).symm h)
noncomputable def f25_c : Code := (Tryz.f25.body).getD .skip
def f25_rs : List ResultVar := []
abbrev f25_e (K : K1) : KF := endK Tryz.prog f25_rs K
def f25_t (x0 x1 x2 : Value) (K : K1) (w : World) : Prop :=
 ev Tryz.prog (binM .eql 48 (.tmp 6) (.const (.pointer none)) x0 (.pointer none)) w fun t7 w_1 =>
 gd t7 false (fun k => k x0 w_1) w_1 fun t9 w_2 =>
 gd t7 false (fun k => nilS Tryz.prog t9 w_2 k) w_2 fun t10 w_3 =>
 gd t7 false (fun k => ev Tryz.prog (Instr.fieldAt 142 t10 0) w_3 k) w_3 fun t11 w_4 =>
 gd t7 false (fun k => ldS Tryz.prog 47 t11 w_4 k) w_4 fun t12 w_5 =>
 gd t7 false (fun k => ev Tryz.prog (binM .eql 47 (.tmp 12) (.const (.pointer none)) t12 (.pointer none)) w_5 k) w_5 fun t13 w_6 =>
 pickS t7 (.bool true) t13 w_6 fun t14 w_7 =>
 gd t14 false (fun k => k x0 w_7) w_7 fun t16 w_8 =>
 gd t14 false (fun k => k x0 w_8) w_8 fun t17 w_9 =>
 gd t14 false (fun k => k x1 w_9) w_9 fun t18 w_10 =>
 gd t14 false (fun k => callS Tryz.prog 83 (pA #[t17, t18]) w_10 k) w_10 fun t19 w_11 =>
 gd t14 false (fun k => callS Tryz.prog 82 (pA #[t16, t19]) w_11 k) w_11 fun t20 w_12 =>
 gd t14 false (fun k => ev Tryz.prog (Op.unary .not t20) w_12 k) w_12 fun t21 w_13 =>
 pickS t14 (.bool true) t21 w_13 fun t22 w_14 =>
 cndS t22 (
 K (.tuple #[]) w_14) (
 callS Tryz.prog 84 (pA #[x0, x1, x2]) w_14 fun t26 w_15 =>
 K (.tuple #[]) w_15)
theorem f25_sk (x0 x1 x2 : Value) (K : K1) (w : World) : (cS f25_c (f25_e K) (f25_e K) nX ([x0, x1, x2] ++ List.replicate (27 - 3) undef) w) = f25_t x0 x1 x2 K w := by kernel_rfl
theorem f25_ok : codeOk Tryz.prog 27 f25_c = true := by kernel_rfl
theorem f25_call (x0 x1 x2 : Value) (K : K1) (w : World) (h : f25_t x0 x1 x2 K w) : callS Tryz.prog 25 #[x0, x1, x2] w K :=
  calls_of_codeS (args := [x0, x1, x2]) mixed Tryz.func25 (show Tryz.f25.body = some f25_c from rfl) rfl (show Tryz.f25.results = f25_rs.toArray from rfl) f25_ok (by simp) (cast ((Eq.trans (by kernel_rfl) (f25_sk x0 x1 x2 K w) : (cS f25_c (f25_e K) (f25_e K) nX ([x0, x1, x2] ++ List.replicate (27 - 3) undef) w) = f25_t x0 x1 x2 K w)).symm h)
noncomputable def f28_c : Code := (Tryz.f28.body).getD .skip
def f28_rs : List ResultVar := [.tmp 2]
abbrev f28_e (K : K1) : KF := endK Tryz.prog f28_rs K
def f28_t (x0 : Value) (K : K1) (w : World) : Prop :=
 ev Tryz.prog (binM .eql 48 (.tmp 3) (.const (.pointer none)) x0 (.pointer none)) w fun t4 w_1 =>
 gd t4 false (fun k => k x0 w_1) w_1 fun t6 w_2 =>
 gd t4 false (fun k => nilS Tryz.prog t6 w_2 k) w_2 fun t7 w_3 =>
 gd t4 false (fun k => ev Tryz.prog (Instr.fieldAt 142 t7 0) w_3 k) w_3 fun t8 w_4 =>
 gd t4 false (fun k => ldS Tryz.prog 47 t8 w_4 k) w_4 fun t9 w_5 =>
 gd t4 false (fun k => ev Tryz.prog (binM .eql 47 (.tmp 9) (.const (.pointer none)) t9 (.pointer none)) w_5 k) w_5 fun t10 w_6 =>
 pickS t4 (.bool true) t10 w_6 fun t11 w_7 =>
 cndS t11 (
 K (.int .i64 1) w_7) (
 nilS Tryz.prog x0 w_7 fun t13 w_8 =>
 ev Tryz.prog (Instr.fieldAt 142 t13 2) w_8 fun t14 w_9 =>
 ldS Tryz.prog 28 t14 w_9 fun t15 w_10 =>
 K t15 w_10)
theorem f28_sk (x0 : Value) (K : K1) (w : World) : (cS f28_c (f28_e K) (f28_e K) nX ([x0] ++ List.replicate (16 - 1) undef) w) = f28_t x0 K w := by kernel_rfl
theorem f28_ok : codeOk Tryz.prog 16 f28_c = true := by kernel_rfl
theorem f28_call (x0 : Value) (K : K1) (w : World) (h : f28_t x0 K w) : callS Tryz.prog 28 #[x0] w K :=
  calls_of_codeS (args := [x0]) mixed Tryz.func28 (show Tryz.f28.body = some f28_c from rfl) rfl (show Tryz.f28.results = f28_rs.toArray from rfl) f28_ok (by simp) (cast ((Eq.trans (by kernel_rfl) (f28_sk x0 K w) : (cS f28_c (f28_e K) (f28_e K) nX ([x0] ++ List.replicate (16 - 1) undef) w) = f28_t x0 K w)).symm h)
noncomputable def f52_c : Code := (Tryz.f52.body).getD .skip
def f52_rs : List ResultVar := [.tmp 4]
abbrev f52_e (K : K1) : KF := endK Tryz.prog f52_rs K
def f52_t (x0 x1 : Value) (K : K1) (w : World) : Prop :=
 ev Tryz.prog (binM .eql 48 (.tmp 5) (.const (.pointer none)) x0 (.pointer none)) w fun t6 w_1 =>
 gd t6 false (fun k => k x0 w_1) w_1 fun t8 w_2 =>
 gd t6 false (fun k => nilS Tryz.prog t8 w_2 k) w_2 fun t9 w_3 =>
 gd t6 false (fun k => ev Tryz.prog (Instr.fieldAt 142 t9 0) w_3 k) w_3 fun t10 w_4 =>
 gd t6 false (fun k => ldS Tryz.prog 47 t10 w_4 k) w_4 fun t11 w_5 =>
 gd t6 false (fun k => ev Tryz.prog (binM .eql 47 (.tmp 11) (.const (.pointer none)) t11 (.pointer none)) w_5 k) w_5 fun t12 w_6 =>
 pickS t6 (.bool true) t12 w_6 fun t13 w_7 =>
 gd t13 false (fun k => k x0 w_7) w_7 fun t15 w_8 =>
 gd t13 false (fun k => k x0 w_8) w_8 fun t16 w_9 =>
 gd t13 false (fun k => k x1 w_9) w_9 fun t17 w_10 =>
 gd t13 false (fun k => callS Tryz.prog 83 (pA #[t16, t17]) w_10 k) w_10 fun t18 w_11 =>
 gd t13 false (fun k => callS Tryz.prog 94 (pA #[t15, t18]) w_11 k) w_11 fun t19 w_12 =>
 gd t13 false (fun k => ev Tryz.prog (Op.unary .not t19) w_12 k) w_12 fun t20 w_13 =>
 pickS t13 (.bool true) t20 w_13 fun t21 w_14 =>
 cndS t21 (
 K (.int .u64 ((0 : Nat) : Int)) w_14) (
 nilS Tryz.prog x0 w_14 fun t23 w_15 =>
 ev Tryz.prog (Instr.fieldAt 142 t23 0) w_15 fun t24 w_16 =>
 ldS Tryz.prog 47 t24 w_16 fun t25 w_17 =>
 nilS Tryz.prog t25 w_17 fun t26 w_18 =>
 ev Tryz.prog (Instr.fieldAt 156 t26 1) w_18 fun t27 w_19 =>
 ldS Tryz.prog 72 t27 w_19 fun t28 w_20 =>
 ev Tryz.prog (binM .quo 33 (.tmp 29) (.const (.int .u64 ((8 : Nat) : Int))) x1 (.int .u64 ((8 : Nat) : Int))) w_20 fun t30 w_21 =>
 ev Tryz.prog (Instr.indexAt 72 t28 t30) w_21 fun t31 w_22 =>
 ldS Tryz.prog 33 t31 w_22 fun t32 w_23 =>
 K t32 w_23)
theorem f52_sk (x0 x1 : Value) (K : K1) (w : World) : (cS f52_c (f52_e K) (f52_e K) nX ([x0, x1] ++ List.replicate (33 - 2) undef) w) = f52_t x0 x1 K w := by kernel_rfl
theorem f52_ok : codeOk Tryz.prog 33 f52_c = true := by kernel_rfl
theorem f52_call (x0 x1 : Value) (K : K1) (w : World) (h : f52_t x0 x1 K w) : callS Tryz.prog 52 #[x0, x1] w K :=
  calls_of_codeS (args := [x0, x1]) mixed Tryz.func52 (show Tryz.f52.body = some f52_c from rfl) rfl (show Tryz.f52.results = f52_rs.toArray from rfl) f52_ok (by simp) (cast ((Eq.trans (by kernel_rfl) (f52_sk x0 x1 K w) : (cS f52_c (f52_e K) (f52_e K) nX ([x0, x1] ++ List.replicate (33 - 2) undef) w) = f52_t x0 x1 K w)).symm h)
noncomputable def f63_c : Code := (Tryz.f63.body).getD .skip
def f63_rs : List ResultVar := []
abbrev f63_e (K : K1) : KF := endK Tryz.prog f63_rs K
def f63_t (x0 x1 : Value) (K : K1) (w : World) : Prop :=
 ev Tryz.prog (binM .eql 47 (.tmp 4) (.const (.pointer none)) x0 (.pointer none)) w fun t5 w_1 =>
 gd t5 false (fun k => k x0 w_1) w_1 fun t7 w_2 =>
 gd t5 false (fun k => nilS Tryz.prog t7 w_2 k) w_2 fun t8 w_3 =>
 gd t5 false (fun k => ev Tryz.prog (Instr.fieldAt 156 t8 4) w_3 k) w_3 fun t9 w_4 =>
 gd t5 false (fun k => ldS Tryz.prog 4 t9 w_4 k) w_4 fun t10 w_5 =>
 pickS t5 (.bool true) t10 w_5 fun t11 w_6 =>
 cndS t11 (
 K (.tuple #[]) w_6) (
 ev Tryz.prog (binM .geq 3 (.tmp 13) (.const (.int .i64 0)) x1 (.int .i64 0)) w_6 fun t14 w_7 =>
 nilS Tryz.prog x0 w_7 fun t15 w_8 =>
 ev Tryz.prog (Instr.fieldAt 156 t15 5) w_8 fun t16 w_9 =>
 stS Tryz.prog 4 t16 t14 w_9 fun w_10 =>
 bltS Tryz.prog .max #[3, 3] 3 #[false, true] #[x1, (.int .i64 0)] w_10 fun t19 w_11 =>
 nilS Tryz.prog x0 w_11 fun t20 w_12 =>
 ev Tryz.prog (Instr.fieldAt 156 t20 6) w_12 fun t21 w_13 =>
 stS Tryz.prog 3 t21 t19 w_13 fun w_14 =>
 K (.tuple #[]) w_14)
theorem f63_sk (x0 x1 : Value) (K : K1) (w : World) : (cS f63_c (f63_e K) (f63_e K) nX ([x0, x1] ++ List.replicate (22 - 2) undef) w) = f63_t x0 x1 K w := by kernel_rfl
theorem f63_ok : codeOk Tryz.prog 22 f63_c = true := by kernel_rfl
theorem f63_call (x0 x1 : Value) (K : K1) (w : World) (h : f63_t x0 x1 K w) : callS Tryz.prog 63 #[x0, x1] w K :=
  calls_of_codeS (args := [x0, x1]) mixed Tryz.func63 (show Tryz.f63.body = some f63_c from rfl) rfl (show Tryz.f63.results = f63_rs.toArray from rfl) f63_ok (by simp) (cast ((Eq.trans (by kernel_rfl) (f63_sk x0 x1 K w) : (cS f63_c (f63_e K) (f63_e K) nX ([x0, x1] ++ List.replicate (22 - 2) undef) w) = f63_t x0 x1 K w)).symm h)
noncomputable def f65_c : Code := (Tryz.f65.body).getD .skip
def f65_rs : List ResultVar := [.tmp 4]
abbrev f65_e (K : K1) : KF := endK Tryz.prog f65_rs K
def f65_t (x0 x1 : Value) (K : K1) (w : World) : Prop :=
 ev Tryz.prog (binM .eql 47 (.tmp 5) (.const (.pointer none)) x0 (.pointer none)) w fun t6 w_1 =>
 gd t6 false (fun k => k x1 w_1) w_1 fun t8 w_2 =>
 gd t6 false (fun k => ev Tryz.prog (binM .lss 3 (.tmp 8) (.const (.int .i64 0)) t8 (.int .i64 0)) w_2 k) w_2 fun t9 w_3 =>
 pickS t6 (.bool true) t9 w_3 fun t10 w_4 =>
 gd t10 false (fun k => k x1 w_4) w_4 fun t12 w_5 =>
 gd t10 false (fun k => ev Tryz.prog (binM .geq 3 (.tmp 12) (.const (.int .i64 8)) t12 (.int .i64 8)) w_5 k) w_5 fun t13 w_6 =>
 pickS t10 (.bool true) t13 w_6 fun t14 w_7 =>
 cndS t14 (
 K (.pointer none) w_7) (
 nilS Tryz.prog x0 w_7 fun t17 w_8 =>
 ev Tryz.prog (Instr.fieldAt 156 t17 3) w_8 fun t18 w_9 =>
 ev Tryz.prog (Instr.indexAt 154 t18 x1) w_9 fun t19 w_10 =>
 ldS Tryz.prog 48 t19 w_10 fun t20 w_11 =>
 K t20 w_11)
theorem f65_sk (x0 x1 : Value) (K : K1) (w : World) : (cS f65_c (f65_e K) (f65_e K) nX ([x0, x1] ++ List.replicate (21 - 2) undef) w) = f65_t x0 x1 K w := by kernel_rfl
theorem f65_ok : codeOk Tryz.prog 21 f65_c = true := by kernel_rfl
theorem f65_call (x0 x1 : Value) (K : K1) (w : World) (h : f65_t x0 x1 K w) : callS Tryz.prog 65 #[x0, x1] w K :=
  calls_of_codeS (args := [x0, x1]) mixed Tryz.func65 (show Tryz.f65.body = some f65_c from rfl) rfl (show Tryz.f65.results = f65_rs.toArray from rfl) f65_ok (by simp) (cast ((Eq.trans (by kernel_rfl) (f65_sk x0 x1 K w) : (cS f65_c (f65_e K) (f65_e K) nX ([x0, x1] ++ List.replicate (21 - 2) undef) w) = f65_t x0 x1 K w)).symm h)
noncomputable def f66_c : Code := (Tryz.f66.body).getD .skip
def f66_rs : List ResultVar := [.tmp 2]
abbrev f66_e (K : K1) : KF := endK Tryz.prog f66_rs K
def f66_t (x0 : Value) (K : K1) (w : World) : Prop :=
 ev Tryz.prog (binM .neq 47 (.tmp 3) (.const (.pointer none)) x0 (.pointer none)) w fun t4 w_1 =>
 gd t4 true (fun k => k x0 w_1) w_1 fun t6 w_2 =>
 gd t4 true (fun k => nilS Tryz.prog t6 w_2 k) w_2 fun t7 w_3 =>
 gd t4 true (fun k => ev Tryz.prog (Instr.fieldAt 156 t7 4) w_3 k) w_3 fun t8 w_4 =>
 gd t4 true (fun k => ldS Tryz.prog 4 t8 w_4 k) w_4 fun t9 w_5 =>
 pickS t4 t9 (.bool false) w_5 fun t10 w_6 =>
 K t10 w_6
theorem f66_sk (x0 : Value) (K : K1) (w : World) : (cS f66_c (f66_e K) (f66_e K) nX ([x0] ++ List.replicate (11 - 1) undef) w) = f66_t x0 K w := by kernel_rfl
theorem f66_ok : codeOk Tryz.prog 11 f66_c = true := by kernel_rfl
theorem f66_call (x0 : Value) (K : K1) (w : World) (h : f66_t x0 K w) : callS Tryz.prog 66 #[x0] w K :=
  calls_of_codeS (args := [x0]) mixed Tryz.func66 (show Tryz.f66.body = some f66_c from rfl) rfl (show Tryz.f66.results = f66_rs.toArray from rfl) f66_ok (by simp) (cast ((Eq.trans (by kernel_rfl) (f66_sk x0 K w) : (cS f66_c (f66_e K) (f66_e K) nX ([x0] ++ List.replicate (11 - 1) undef) w) = f66_t x0 K w)).symm h)
noncomputable def f67_c : Code := (Tryz.f67.body).getD .skip
def f67_rs : List ResultVar := []
abbrev f67_e (K : K1) : KF := endK Tryz.prog f67_rs K
def f67_k1_t (x0 : Value) (K : K1) (w : World) : Prop :=
 nilS Tryz.prog x0 w fun t54 w_1 =>
 ev Tryz.prog (Instr.fieldAt 142 t54 3) w_1 fun t55 w_2 =>
 ldS Tryz.prog 140 t55 w_2 fun t56 w_3 =>
 bltS Tryz.prog .clear #[140] 0 #[false] (pA #[t56]) w_3 fun _ w_4 =>
 K (.tuple #[]) w_4
theorem f67_k1_sk (z : Nat → Value) (K : K1) (w : World) : (cS (cr (cr f67_c)) (f67_e K) (f67_e K) nX (frL 57 z 0) w) = f67_k1_t (z 0) K w := by kernel_rfl
def f67_k1 (K : K1) (x0 : Value) (w : World) : Prop := f67_k1_t x0 K w
theorem f67_k1_eq (K : K1) (x0 : Value) (w : World) : f67_k1 K x0 w = f67_k1_t x0 K w := rfl
def f67_k1_o (K : K1) : KF := fun fr w => cS (cr (cr f67_c)) (f67_e K) (f67_e K) nX fr w
theorem f67_k1_s (K : K1)  (f0 : Fr) (hn : f0.length = 57) (fr : Fr) (w : World) (hs : Same 144115188075855871 f0 fr) (h : f67_k1 K (sv fr 0) w) : f67_k1_o K fr w := by
  have h1 := cast (f67_k1_sk (fun i => sv fr i) K w).symm h
  rw [show frL 57 (fun i => sv fr i) 0 = fr from frL_of (hs.len.trans hn)] at h1
  have h2 : cS (cr (cr f67_c)) (f67_e K) (f67_e K) nX fr w := (codeS_mono (m := 144115188075855871) (f0 := f0) (cr (cr f67_c)) (by kernel_rfl) (fun _ _ _ h => h) (fun _ _ _ h => h) (fun _ _ _ _ h => h) fr w hs) h1
  exact cast (by kernel_rfl) h2
def f67_l1_t (x0 x23 : Value) (K : K1) (E1 : World → Prop) (c_f67_k1 : Value → World → Prop) (w : World) : Prop :=
 ev Tryz.prog (Instr.next x23 false 0) w fun t24 w_1 =>
 ev Tryz.prog (Instr.extract t24 0) w_1 fun t25 w_2 =>
 cndS t25 (
 ev Tryz.prog (Instr.entry x23) w_2 fun t26 w_3 =>
 ev Tryz.prog (Instr.extract t26 0) w_3 fun t27 w_4 =>
 ev Tryz.prog (Instr.extract t26 1) w_4 fun t28 w_5 =>
 nilS Tryz.prog x0 w_5 fun t30 w_6 =>
 ev Tryz.prog (Instr.fieldAt 142 t30 0) w_6 fun t31 w_7 =>
 ldS Tryz.prog 47 t31 w_7 fun t32 w_8 =>
 nilS Tryz.prog t32 w_8 fun t33 w_9 =>
 ev Tryz.prog (Instr.fieldAt 156 t33 2) w_9 fun t34 w_10 =>
 ldS Tryz.prog 153 t34 w_10 fun t35 w_11 =>
 ev Tryz.prog (Instr.indexAt 153 t35 t27) w_11 fun t37 w_12 =>
 ev Tryz.prog (Instr.fieldAt 163 t37 0) w_12 fun t38 w_13 =>
 ldS Tryz.prog 33 t38 w_13 fun t39 w_14 =>
 ev Tryz.prog (binM .gtr 33 (.tmp 40) (.tmp 41) t28 t39) w_14 fun t42 w_15 =>
 cndS t42 (
 nilS Tryz.prog x0 w_15 fun t44 w_16 =>
 ev Tryz.prog (Instr.fieldAt 142 t44 0) w_16 fun t45 w_17 =>
 ldS Tryz.prog 47 t45 w_17 fun t46 w_18 =>
 ev Tryz.prog (binM .sub 33 (.tmp 48) (.tmp 49) t28 t39) w_18 fun t50 w_19 =>
 ev Tryz.prog (convert 33 3 t50) w_19 fun t51 w_20 =>
 callS Tryz.prog 104 (pA #[t46, t27, t51]) w_20 fun t52 w_21 =>
 E1 w_21) (
 E1 w_15)) (
 c_f67_k1 x0 w_2)
theorem f67_l1_sk (z : Nat → Value) (K : K1) (E1 : World → Prop) (c_f67_k1 : Value → World → Prop) (w : World) : (cS (cl (cl (cr (cl (cr f67_c))))) (fun fr w => E1 w) (f67_e K) (exB 0 (fun fr w => c_f67_k1 (sv fr 0) w) nX) (frL 57 z 0) w) = f67_l1_t (z 0) (z 23) K E1 c_f67_k1 w := by kernel_rfl
def f67_l1 (K : K1) (x0 x23 : Value) (w : World) : Prop := ∃ (I : World → Prop) (μ : World → Nat), I w ∧ ∀ (w : World), I w → ∀ E1 : World → Prop, (∀ (w' : World), I w' → μ w' < μ w → E1 w') → f67_l1_t x0 x23 K E1 (f67_k1 K) w
theorem f67_l1_rule (x0 x23 : Value) (K : K1) (w : World) (I : World → Prop) (μ : World → Nat) (h0 : I w)
    (hr : ∀ (w : World), I w → ∀ E1 : World → Prop, (∀ (w' : World), I w' → μ w' < μ w → E1 w') → f67_l1_t x0 x23 K E1 (f67_k1 K) w) : f67_l1 K x0 x23 w := ⟨I, μ, h0, hr⟩
def f67_l1_o (K : K1) : KF := fun fr w => cS (cl (cr (cl (cr f67_c)))) (fun _ _ => False) (f67_e K) (exB 0 (f67_k1_o K) nX) fr w
theorem f67_l1_b (K : K1)  (E1 : World → Prop) (F1 : KF) (f0 : Fr) (hn : f0.length = 57) (f1 : Fr) (a1 : Same 144115188075855871 f0 f1) (b1 : ∀ fr w, Same 9007199237963804 f1 fr → E1 w → F1 fr w) (fr : Fr) (w : World) (hs : Same 9007199237963804 f1 fr) (h : f67_l1_t (sv fr 0) (sv fr 23) K E1 (f67_k1 K) w) : cS (cl (cl (cr (cl (cr f67_c))))) F1 (f67_e K) (exB 0 (f67_k1_o K) nX) fr w := by
  have h1 := cast (f67_l1_sk (fun i => sv fr i) K E1 (f67_k1 K) w).symm h
  rw [show frL 57 (fun i => sv fr i) 0 = fr from frL_of (hs.len.trans (a1.len.trans hn))] at h1
  have h2 : cS (cl (cl (cr (cl (cr f67_c))))) F1 (f67_e K) (exB 0 (f67_k1_o K) nX) fr w := (codeS_mono (m := 9007199237963804) (f0 := f1) (cl (cl (cr (cl (cr f67_c))))) (by kernel_rfl) (fun fr w hs h => b1 fr w hs h) (fun _ _ _ h => h) (exB_mono (fun fr w hs h => f67_k1_s K f0 hn fr w (Same.up (by kernel_rfl) a1 hs) h) (fun _ _ _ _ h => h)) fr w hs) h1
  exact cast (by kernel_rfl) h2
theorem f67_l1_s (K : K1)  (f0 : Fr) (hn : f0.length = 57) (fr : Fr) (w : World) (hs : Same 144115188075855871 f0 fr) (h : f67_l1 K (sv fr 0) (sv fr 23) w) : f67_l1_o K fr w := by
  obtain ⟨I, μ, h0, hr⟩ := h
  have hL : loopS (fun E fr w => cS (cl (cl (cr (cl (cr f67_c))))) E (f67_e K) (exB 0 (f67_k1_o K) nX) fr w) fr w := by
    refine ⟨fun f' w' => Same 9007199237963804 fr f' ∧ I w', fun f' w' => μ w', ⟨Same.refl _ _, h0⟩, ?_⟩
    intro f' w' hI
    have hb := hr w' hI.2 (fun w2 => I w2 ∧ μ w2 < μ w') (fun w2 a b => ⟨a, b⟩)
    rw [← hI.1.sv 0 (by kernel_rfl), ← hI.1.sv 23 (by kernel_rfl)] at hb
    exact f67_l1_b K _ _ f0 hn fr hs (fun f w h1 h2 => ⟨⟨h1, h2.1⟩, h2.2⟩) f' w' hI.1 hb
  exact cast (by kernel_rfl) hL
def f67_t (x0 : Value) (K : K1) (c_f67_l1 : Value → Value → World → Prop) (w : World) : Prop :=
 ev Tryz.prog (binM .eql 48 (.tmp 5) (.const (.pointer none)) x0 (.pointer none)) w fun t6 w_1 =>
 gd t6 false (fun k => k x0 w_1) w_1 fun t8 w_2 =>
 gd t6 false (fun k => nilS Tryz.prog t8 w_2 k) w_2 fun t9 w_3 =>
 gd t6 false (fun k => ev Tryz.prog (Instr.fieldAt 142 t9 0) w_3 k) w_3 fun t10 w_4 =>
 gd t6 false (fun k => ldS Tryz.prog 47 t10 w_4 k) w_4 fun t11 w_5 =>
 gd t6 false (fun k => ev Tryz.prog (binM .eql 47 (.tmp 11) (.const (.pointer none)) t11 (.pointer none)) w_5 k) w_5 fun t12 w_6 =>
 pickS t6 (.bool true) t12 w_6 fun t13 w_7 =>
 gd t13 false (fun k => k x0 w_7) w_7 fun t15 w_8 =>
 gd t13 false (fun k => callS Tryz.prog 82 (pA #[t15, (.bool true)]) w_8 k) w_8 fun t16 w_9 =>
 gd t13 false (fun k => ev Tryz.prog (Op.unary .not t16) w_9 k) w_9 fun t17 w_10 =>
 pickS t13 (.bool true) t17 w_10 fun t18 w_11 =>
 cndS t18 (
 K (.tuple #[]) w_11) (
 nilS Tryz.prog x0 w_11 fun t20 w_12 =>
 ev Tryz.prog (Instr.fieldAt 142 t20 3) w_12 fun t21 w_13 =>
 ldS Tryz.prog 140 t21 w_13 fun t22 w_14 =>
 ev Tryz.prog (Instr.range 140 t22) w_14 fun t23 w_15 =>
 c_f67_l1 x0 t23 w_15)
theorem f67_sk (x0 : Value) (K : K1) (c_f67_l1 : Value → Value → World → Prop) (w : World) : (cS (cl f67_c) (fun fr w => cS (cl (cl (cr f67_c))) (fun fr w => c_f67_l1 (sv fr 0) (sv fr 23) w) (f67_e K) nX fr w) (f67_e K) nX ([x0] ++ List.replicate (57 - 1) undef) w) = f67_t x0 K c_f67_l1 w := by kernel_rfl
theorem f67_ok : codeOk Tryz.prog 57 f67_c = true := by kernel_rfl
theorem f67_m (K : K1) (f0 : Fr) (hn : f0.length = 57) (w : World) (h1 : cS (cl f67_c) (fun fr w => cS (cl (cl (cr f67_c))) (fun fr w => f67_l1 K (sv fr 0) (sv fr 23) w) (f67_e K) nX fr w) (f67_e K) nX f0 w) : cS f67_c (f67_e K) (f67_e K) nX f0 w := by
  have hs := Same.refl 144115188075855871 f0
  let fr := f0
  have h2 : cS (cl f67_c) (fun fr w => cS (cl (cl (cr f67_c))) (fun fr w => f67_l1_o K fr w) (f67_e K) nX fr w) (f67_e K) nX fr w := (codeS_mono (m := 144115188075855871) (f0 := f0) (cl f67_c) (by kernel_rfl) (fun fr w hs => codeS_mono (m := 144115188075855871) (f0 := f0) (cl (cl (cr f67_c))) (by kernel_rfl) (fun fr w hs => (fun h => f67_l1_s K f0 hn fr w hs h)) (fun _ _ _ h => h) (fun _ _ _ _ h => h) fr w hs) (fun _ _ _ h => h) (fun _ _ _ _ h => h) fr w hs) h1
  exact cast (by kernel_rfl) h2
theorem f67_call (x0 : Value) (K : K1) (w : World) (h : f67_t x0 K (f67_l1 K) w) : callS Tryz.prog 67 #[x0] w K :=
  calls_of_codeS (args := [x0]) mixed Tryz.func67 (show Tryz.f67.body = some f67_c from rfl) rfl (show Tryz.f67.results = f67_rs.toArray from rfl) f67_ok (by simp) (f67_m K _ (by simp) w (cast (f67_sk x0 K (f67_l1 K) w).symm h))
noncomputable def f80_c : Code := (Tryz.f80.body).getD .skip
def f80_rs : List ResultVar := [.tmp 2, .tmp 3]
abbrev f80_e (K : K1) : KF := endK Tryz.prog f80_rs K
def f80_t (x0 : Value) (K : K1) (w : World) : Prop :=
 ev Tryz.prog (binM .lss 3 (.tmp 4) (.const (.int .i64 1)) x0 (.int .i64 1)) w fun t5 w_1 =>
 gd t5 false (fun k => k x0 w_1) w_1 fun t7 w_2 =>
 gd t5 false (fun k => ev Tryz.prog (binM .gtr 3 (.tmp 7) (.const (.int .i64 4096)) t7 (.int .i64 4096)) w_2 k) w_2 fun t8 w_3 =>
 pickS t5 (.bool true) t8 w_3 fun t9 w_4 =>
 cndS t9 (
 K (.tuple #[(.pointer none), (.int .i64 1)]) w_4) (
 ev Tryz.prog (binM .mul 3 (.tmp 10) (.const (.int .i64 8)) x0 (.int .i64 8)) w_4 fun t11 w_5 =>
 ev Tryz.prog (Instr.makeSlice 72 t11 t11) w_5 fun t12 w_6 =>
 callS Tryz.prog 110 (pA #[t12]) w_6 fun t13 w_7 =>
 K (.tuple #[t13, (.int .i64 0)]) w_7)
theorem f80_sk (x0 : Value) (K : K1) (w : World) : (cS f80_c (f80_e K) (f80_e K) nX ([x0] ++ List.replicate (14 - 1) undef) w) = f80_t x0 K w := by kernel_rfl
theorem f80_ok : codeOk Tryz.prog 14 f80_c = true := by kernel_rfl
theorem f80_call (x0 : Value) (K : K1) (w : World) (h : f80_t x0 K w) : callS Tryz.prog 80 #[x0] w K :=
  calls_of_codeS (args := [x0]) mixed Tryz.func80 (show Tryz.f80.body = some f80_c from rfl) rfl (show Tryz.f80.results = f80_rs.toArray from rfl) f80_ok (by simp) (cast ((Eq.trans (by kernel_rfl) (f80_sk x0 K w) : (cS f80_c (f80_e K) (f80_e K) nX ([x0] ++ List.replicate (14 - 1) undef) w) = f80_t x0 K w)).symm h)
noncomputable def f82_c : Code := (Tryz.f82.body).getD .skip
def f82_rs : List ResultVar := [.tmp 4]
abbrev f82_e (K : K1) : KF := endK Tryz.prog f82_rs K
def f82_k1_t (x5 : Value) (K : K1) (w : World) : Prop :=
 nilS Tryz.prog x5 w fun t36 w_1 =>
 ev Tryz.prog (Instr.fieldAt 156 t36 7) w_1 fun t37 w_2 =>
 ldS Tryz.prog 33 t37 w_2 fun t38 w_3 =>
 ev Tryz.prog (binM .add 33 (.tmp 38) (.const (.int .u64 ((1 : Nat) : Int))) t38 (.int .u64 ((1 : Nat) : Int))) w_3 fun t39 w_4 =>
 nilS Tryz.prog x5 w_4 fun t40 w_5 =>
 ev Tryz.prog (Instr.fieldAt 156 t40 7) w_5 fun t41 w_6 =>
 stS Tryz.prog 33 t41 t39 w_6 fun w_7 =>
 K (.bool true) w_7
theorem f82_k1_sk (z : Nat → Value) (K : K1) (w : World) : (cS (cr (cr (cr (cr f82_c)))) (f82_e K) (f82_e K) nX (frL 42 z 0) w) = f82_k1_t (z 5) K w := by kernel_rfl
def f82_k1 (K : K1) (x5 : Value) (w : World) : Prop := f82_k1_t x5 K w
theorem f82_k1_eq (K : K1) (x5 : Value) (w : World) : f82_k1 K x5 w = f82_k1_t x5 K w := rfl
def f82_k1_o (K : K1) : KF := fun fr w => cS (cr (cr (cr (cr f82_c)))) (f82_e K) (f82_e K) nX fr w
theorem f82_k1_s (K : K1)  (f0 : Fr) (hn : f0.length = 42) (fr : Fr) (w : World) (hs : Same 4398046511103 f0 fr) (h : f82_k1 K (sv fr 5) w) : f82_k1_o K fr w := by
  have h1 := cast (f82_k1_sk (fun i => sv fr i) K w).symm h
  rw [show frL 42 (fun i => sv fr i) 0 = fr from frL_of (hs.len.trans hn)] at h1
  have h2 : cS (cr (cr (cr (cr f82_c)))) (f82_e K) (f82_e K) nX fr w := (codeS_mono (m := 4398046511103) (f0 := f0) (cr (cr (cr (cr f82_c)))) (by kernel_rfl) (fun _ _ _ h => h) (fun _ _ _ h => h) (fun _ _ _ _ h => h) fr w hs) h1
  exact cast (by kernel_rfl) h2
def f82_t (x0 x1 : Value) (K : K1) (c_f82_k1 : Value → World → Prop) (w : World) : Prop :=
 callS Tryz.prog 94 (pA #[x0, x1]) w fun t8 w_1 =>
 ev Tryz.prog (Op.unary .not t8) w_1 fun t9 w_2 =>
 cndS t9 (
 K (.bool false) w_2) (
 nilS Tryz.prog x0 w_2 fun t11 w_3 =>
 ev Tryz.prog (Instr.fieldAt 142 t11 0) w_3 fun t12 w_4 =>
 ldS Tryz.prog 47 t12 w_4 fun t13 w_5 =>
 nilS Tryz.prog t13 w_5 fun t15 w_6 =>
 ev Tryz.prog (Instr.fieldAt 156 t15 5) w_6 fun t16 w_7 =>
 ldS Tryz.prog 4 t16 w_7 fun t17 w_8 =>
 cndS t17 (
 nilS Tryz.prog t13 w_8 fun t19 w_9 =>
 ev Tryz.prog (Instr.fieldAt 156 t19 6) w_9 fun t20 w_10 =>
 ldS Tryz.prog 3 t20 w_10 fun t21 w_11 =>
 ev Tryz.prog (binM .eql 3 (.tmp 21) (.const (.int .i64 0)) t21 (.int .i64 0)) w_11 fun t22 w_12 =>
 cndS t22 (
 nilS Tryz.prog t13 w_12 fun t24 w_13 =>
 ev Tryz.prog (Instr.fieldAt 156 t24 4) w_13 fun t25 w_14 =>
 stS Tryz.prog 4 t25 (.bool true) w_14 fun w_15 =>
 callS Tryz.prog 111 (pA #[x0, (.int .i64 3)]) w_15 fun t27 w_16 =>
 K (.bool false) w_16) (
 nilS Tryz.prog t13 w_12 fun t29 w_17 =>
 ev Tryz.prog (Instr.fieldAt 156 t29 6) w_17 fun t30 w_18 =>
 ldS Tryz.prog 3 t30 w_18 fun t31 w_19 =>
 ev Tryz.prog (binM .sub 3 (.tmp 31) (.const (.int .i64 1)) t31 (.int .i64 1)) w_19 fun t32 w_20 =>
 nilS Tryz.prog t13 w_20 fun t33 w_21 =>
 ev Tryz.prog (Instr.fieldAt 156 t33 6) w_21 fun t34 w_22 =>
 stS Tryz.prog 3 t34 t32 w_22 fun w_23 =>
 c_f82_k1 t13 w_23)) (
 c_f82_k1 t13 w_8))
theorem f82_sk (x0 x1 : Value) (K : K1) (c_f82_k1 : Value → World → Prop) (w : World) : (cS (cl f82_c) (fun fr w => cS (cl (cr f82_c)) (fun fr w => cS (cl (cr (cr f82_c))) (fun fr w => cS (cl (cr (cr (cr f82_c)))) (fun fr w => c_f82_k1 (sv fr 5) w) (f82_e K) nX fr w) (f82_e K) nX fr w) (f82_e K) nX fr w) (f82_e K) nX ([x0, x1] ++ List.replicate (42 - 2) undef) w) = f82_t x0 x1 K c_f82_k1 w := by kernel_rfl
theorem f82_ok : codeOk Tryz.prog 42 f82_c = true := by kernel_rfl
theorem f82_m (K : K1) (f0 : Fr) (hn : f0.length = 42) (w : World) (h1 : cS (cl f82_c) (fun fr w => cS (cl (cr f82_c)) (fun fr w => cS (cl (cr (cr f82_c))) (fun fr w => cS (cl (cr (cr (cr f82_c)))) (fun fr w => f82_k1 K (sv fr 5) w) (f82_e K) nX fr w) (f82_e K) nX fr w) (f82_e K) nX fr w) (f82_e K) nX f0 w) : cS f82_c (f82_e K) (f82_e K) nX f0 w := by
  have hs := Same.refl 4398046511103 f0
  let fr := f0
  have h2 : cS (cl f82_c) (fun fr w => cS (cl (cr f82_c)) (fun fr w => cS (cl (cr (cr f82_c))) (fun fr w => cS (cl (cr (cr (cr f82_c)))) (f82_k1_o K) (f82_e K) nX fr w) (f82_e K) nX fr w) (f82_e K) nX fr w) (f82_e K) nX fr w := (codeS_mono (m := 4398046511103) (f0 := f0) (cl f82_c) (by kernel_rfl) (fun fr w hs => codeS_mono (m := 4398046511103) (f0 := f0) (cl (cr f82_c)) (by kernel_rfl) (fun fr w hs => codeS_mono (m := 4398046511103) (f0 := f0) (cl (cr (cr f82_c))) (by kernel_rfl) (fun fr w hs => codeS_mono (m := 4398046511103) (f0 := f0) (cl (cr (cr (cr f82_c)))) (by kernel_rfl) (fun fr w hs h => f82_k1_s K f0 hn fr w hs h) (fun _ _ _ h => h) (fun _ _ _ _ h => h) fr w hs) (fun _ _ _ h => h) (fun _ _ _ _ h => h) fr w hs) (fun _ _ _ h => h) (fun _ _ _ _ h => h) fr w hs) (fun _ _ _ h => h) (fun _ _ _ _ h => h) fr w hs) h1
  exact cast (by kernel_rfl) h2
theorem f82_call (x0 x1 : Value) (K : K1) (w : World) (h : f82_t x0 x1 K (f82_k1 K) w) : callS Tryz.prog 82 #[x0, x1] w K :=
  calls_of_codeS (args := [x0, x1]) mixed Tryz.func82 (show Tryz.f82.body = some f82_c from rfl) rfl (show Tryz.f82.results = f82_rs.toArray from rfl) f82_ok (by simp) (f82_m K _ (by simp) w (cast (f82_sk x0 x1 K (f82_k1 K) w).symm h))
noncomputable def f83_c : Code := (Tryz.f83.body).getD .skip
def f83_rs : List ResultVar := [.tmp 4]
abbrev f83_e (K : K1) : KF := endK Tryz.prog f83_rs K
def f83_t (x0 x1 : Value) (K : K1) (w : World) : Prop :=
 ev Tryz.prog (binM .rem 33 (.tmp 5) (.const (.int .u64 ((8 : Nat) : Int))) x1 (.int .u64 ((8 : Nat) : Int))) w fun t6 w_1 =>
 ev Tryz.prog (binM .eql 33 (.tmp 6) (.const (.int .u64 ((0 : Nat) : Int))) t6 (.int .u64 ((0 : Nat) : Int))) w_1 fun t7 w_2 =>
 gd t7 true (fun k => k x1 w_2) w_2 fun t9 w_3 =>
 gd t7 true (fun k => k x0 w_3) w_3 fun t10 w_4 =>
 gd t7 true (fun k => nilS Tryz.prog t10 w_4 k) w_4 fun t11 w_5 =>
 gd t7 true (fun k => ev Tryz.prog (Instr.fieldAt 142 t11 0) w_5 k) w_5 fun t12 w_6 =>
 gd t7 true (fun k => ldS Tryz.prog 47 t12 w_6 k) w_6 fun t13 w_7 =>
 gd t7 true (fun k => callS Tryz.prog 112 (pA #[t13]) w_7 k) w_7 fun t14 w_8 =>
 gd t7 true (fun k => ev Tryz.prog (binM .lss 33 (.tmp 9) (.tmp 14) t9 t14) w_8 k) w_8 fun t15 w_9 =>
 pickS t7 t15 (.bool false) w_9 fun t16 w_10 =>
 K t16 w_10
theorem f83_sk (x0 x1 : Value) (K : K1) (w : World) : (cS f83_c (f83_e K) (f83_e K) nX ([x0, x1] ++ List.replicate (17 - 2) undef) w) = f83_t x0 x1 K w := by kernel_rfl
theorem f83_ok : codeOk Tryz.prog 17 f83_c = true := by kernel_rfl
theorem f83_call (x0 x1 : Value) (K : K1) (w : World) (h : f83_t x0 x1 K w) : callS Tryz.prog 83 #[x0, x1] w K :=
  calls_of_codeS (args := [x0, x1]) mixed Tryz.func83 (show Tryz.f83.body = some f83_c from rfl) rfl (show Tryz.f83.results = f83_rs.toArray from rfl) f83_ok (by simp) (cast ((Eq.trans (by kernel_rfl) (f83_sk x0 x1 K w) : (cS f83_c (f83_e K) (f83_e K) nX ([x0, x1] ++ List.replicate (17 - 2) undef) w) = f83_t x0 x1 K w)).symm h)
noncomputable def f84_c : Code := (Tryz.f84.body).getD .skip
def f84_rs : List ResultVar := []
abbrev f84_e (K : K1) : KF := endK Tryz.prog f84_rs K
def f84_t (x0 x1 x2 : Value) (K : K1) (w : World) : Prop :=
 nilS Tryz.prog x0 w fun t8 w_1 =>
 ev Tryz.prog (Instr.fieldAt 142 t8 0) w_1 fun t9 w_2 =>
 ldS Tryz.prog 47 t9 w_2 fun t10 w_3 =>
 nilS Tryz.prog t10 w_3 fun t11 w_4 =>
 ev Tryz.prog (Instr.fieldAt 156 t11 2) w_4 fun t12 w_5 =>
 ldS Tryz.prog 153 t12 w_5 fun t13 w_6 =>
 ev Tryz.prog (binM .quo 33 (.tmp 14) (.const (.int .u64 ((64 : Nat) : Int))) x1 (.int .u64 ((64 : Nat) : Int))) w_6 fun t15 w_7 =>
 ev Tryz.prog (Instr.indexAt 153 t13 t15) w_7 fun t16 w_8 =>
 nilS Tryz.prog t16 w_8 fun t19 w_9 =>
 ev Tryz.prog (Instr.fieldAt 163 t19 1) w_9 fun t20 w_10 =>
 ldS Tryz.prog 38 t20 w_10 fun t21 w_11 =>
 ev Tryz.prog (Instr.build 37 #[(0, x1), (1, x2)]) w_11 fun t24 w_12 =>
 ev Tryz.prog (Instr.buildSlice 38 1 #[(0, t24)]) w_12 fun t25 w_13 =>
 bltS Tryz.prog .append #[38, 38] 38 #[false, false] (pA #[t21, t25]) w_13 fun t26 w_14 =>
 nilS Tryz.prog t16 w_14 fun t27 w_15 =>
 ev Tryz.prog (Instr.fieldAt 163 t27 1) w_15 fun t28 w_16 =>
 stS Tryz.prog 38 t28 t26 w_16 fun w_17 =>
 nilS Tryz.prog x0 w_17 fun t30 w_18 =>
 ev Tryz.prog (Instr.fieldAt 142 t30 0) w_18 fun t31 w_19 =>
 ldS Tryz.prog 47 t31 w_19 fun t32 w_20 =>
 nilS Tryz.prog t32 w_20 fun t33 w_21 =>
 ev Tryz.prog (Instr.fieldAt 156 t33 1) w_21 fun t34 w_22 =>
 ldS Tryz.prog 72 t34 w_22 fun t35 w_23 =>
 ev Tryz.prog (binM .quo 33 (.tmp 36) (.const (.int .u64 ((8 : Nat) : Int))) x1 (.int .u64 ((8 : Nat) : Int))) w_23 fun t37 w_24 =>
 ev Tryz.prog (Instr.indexAt 72 t35 t37) w_24 fun t39 w_25 =>
 stS Tryz.prog 33 t39 x2 w_25 fun w_26 =>
 K (.tuple #[]) w_26
theorem f84_sk (x0 x1 x2 : Value) (K : K1) (w : World) : (cS f84_c (f84_e K) (f84_e K) nX ([x0, x1, x2] ++ List.replicate (40 - 3) undef) w) = f84_t x0 x1 x2 K w := by kernel_rfl
theorem f84_ok : codeOk Tryz.prog 40 f84_c = true := by kernel_rfl
theorem f84_call (x0 x1 x2 : Value) (K : K1) (w : World) (h : f84_t x0 x1 x2 K w) : callS Tryz.prog 84 #[x0, x1, x2] w K :=
  calls_of_codeS (args := [x0, x1, x2]) mixed Tryz.func84 (show Tryz.f84.body = some f84_c from rfl) rfl (show Tryz.f84.results = f84_rs.toArray from rfl) f84_ok (by simp) (cast ((Eq.trans (by kernel_rfl) (f84_sk x0 x1 x2 K w) : (cS f84_c (f84_e K) (f84_e K) nX ([x0, x1, x2] ++ List.replicate (40 - 3) undef) w) = f84_t x0 x1 x2 K w)).symm h)
noncomputable def f94_c : Code := (Tryz.f94.body).getD .skip
def f94_rs : List ResultVar := [.tmp 4]
abbrev f94_e (K : K1) : KF := endK Tryz.prog f94_rs K
def f94_k1_t (K : K1) (w : World) : Prop :=
 K (.bool false) w
theorem f94_k1_sk (z : Nat → Value) (K : K1) (w : World) : (cS (cr (cr f94_c)) (f94_e K) (f94_e K) nX (frL 20 z 0) w) = f94_k1_t K w := by kernel_rfl
def f94_k1 (K : K1) (w : World) : Prop := f94_k1_t K w
theorem f94_k1_eq (K : K1) (w : World) : f94_k1 K w = f94_k1_t K w := rfl
def f94_k1_o (K : K1) : KF := fun fr w => cS (cr (cr f94_c)) (f94_e K) (f94_e K) nX fr w
theorem f94_k1_s (K : K1)  (f0 : Fr) (hn : f0.length = 20) (fr : Fr) (w : World) (hs : Same 1048575 f0 fr) (h : f94_k1 K w) : f94_k1_o K fr w := by
  have h1 := cast (f94_k1_sk (fun i => sv fr i) K w).symm h
  rw [show frL 20 (fun i => sv fr i) 0 = fr from frL_of (hs.len.trans hn)] at h1
  have h2 : cS (cr (cr f94_c)) (f94_e K) (f94_e K) nX fr w := (codeS_mono (m := 1048575) (f0 := f0) (cr (cr f94_c)) (by kernel_rfl) (fun _ _ _ h => h) (fun _ _ _ h => h) (fun _ _ _ _ h => h) fr w hs) h1
  exact cast (by kernel_rfl) h2
def f94_t (x0 x1 : Value) (K : K1) (c_f94_k1 : World → Prop) (w : World) : Prop :=
 nilS Tryz.prog x0 w fun t7 w_1 =>
 ev Tryz.prog (Instr.fieldAt 142 t7 0) w_1 fun t8 w_2 =>
 ldS Tryz.prog 47 t8 w_2 fun t9 w_3 =>
 nilS Tryz.prog t9 w_3 fun t10 w_4 =>
 ev Tryz.prog (Instr.fieldAt 156 t10 4) w_4 fun t11 w_5 =>
 ldS Tryz.prog 4 t11 w_5 fun t12 w_6 =>
 cndS t12 (
 callS Tryz.prog 111 (pA #[x0, (.int .i64 3)]) w_6 fun t14 w_7 =>
 c_f94_k1 w_7) (
 ev Tryz.prog (Op.unary .not x1) w_6 fun t17 w_8 =>
 cndS t17 (
 callS Tryz.prog 111 (pA #[x0, (.int .i64 2)]) w_8 fun t19 w_9 =>
 c_f94_k1 w_9) (
 K (.bool true) w_8))
theorem f94_sk (x0 x1 : Value) (K : K1) (c_f94_k1 : World → Prop) (w : World) : (cS (cl f94_c) (fun fr w => cS (cl (cr f94_c)) (fun fr w => c_f94_k1 w) (f94_e K) nX fr w) (f94_e K) nX ([x0, x1] ++ List.replicate (20 - 2) undef) w) = f94_t x0 x1 K c_f94_k1 w := by kernel_rfl
theorem f94_ok : codeOk Tryz.prog 20 f94_c = true := by kernel_rfl
theorem f94_m (K : K1) (f0 : Fr) (hn : f0.length = 20) (w : World) (h1 : cS (cl f94_c) (fun fr w => cS (cl (cr f94_c)) (fun fr w => f94_k1 K w) (f94_e K) nX fr w) (f94_e K) nX f0 w) : cS f94_c (f94_e K) (f94_e K) nX f0 w := by
  have hs := Same.refl 1048575 f0
  let fr := f0
  have h2 : cS (cl f94_c) (fun fr w => cS (cl (cr f94_c)) (f94_k1_o K) (f94_e K) nX fr w) (f94_e K) nX fr w := (codeS_mono (m := 1048575) (f0 := f0) (cl f94_c) (by kernel_rfl) (fun fr w hs => codeS_mono (m := 1048575) (f0 := f0) (cl (cr f94_c)) (by kernel_rfl) (fun fr w hs h => f94_k1_s K f0 hn fr w hs h) (fun _ _ _ h => h) (fun _ _ _ _ h => h) fr w hs) (fun _ _ _ h => h) (fun _ _ _ _ h => h) fr w hs) h1
  exact cast (by kernel_rfl) h2
theorem f94_call (x0 x1 : Value) (K : K1) (w : World) (h : f94_t x0 x1 K (f94_k1 K) w) : callS Tryz.prog 94 #[x0, x1] w K :=
  calls_of_codeS (args := [x0, x1]) mixed Tryz.func94 (show Tryz.f94.body = some f94_c from rfl) rfl (show Tryz.f94.results = f94_rs.toArray from rfl) f94_ok (by simp) (f94_m K _ (by simp) w (cast (f94_sk x0 x1 K (f94_k1 K) w).symm h))
noncomputable def f104_c : Code := (Tryz.f104.body).getD .skip
def f104_rs : List ResultVar := []
abbrev f104_e (K : K1) : KF := endK Tryz.prog f104_rs K
def f104_t (x0 x1 x2 : Value) (K : K1) (w : World) : Prop :=
 nilS Tryz.prog x0 w fun t8 w_1 =>
 ev Tryz.prog (Instr.fieldAt 156 t8 2) w_1 fun t9 w_2 =>
 ldS Tryz.prog 153 t9 w_2 fun t10 w_3 =>
 ev Tryz.prog (Instr.indexAt 153 t10 x1) w_3 fun t12 w_4 =>
 nilR Tryz.prog x0 w_4.drew fun t14 =>
 rd Tryz.prog (Instr.fieldAt 156 t14 0) w_4.drew fun t15 =>
 ldR Tryz.prog 72 t15 w_4.drew fun t16 =>
 nilR Tryz.prog t12 w_4.drew fun t18 =>
 rd Tryz.prog (Instr.fieldAt 163 t18 1) w_4.drew fun t19 =>
 ldR Tryz.prog 38 t19 w_4.drew fun t20 =>
 rd Tryz.prog (Instr.sliceAt 38 t20 none (some x2) none) w_4.drew fun t22 =>
 callS Tryz.prog 118 (pA #[t16, t22]) w_4.drew fun t23 w_5 =>
 nilS Tryz.prog t12 w_5 fun t25 w_6 =>
 ev Tryz.prog (Instr.fieldAt 163 t25 0) w_6 fun t26 w_7 =>
 ldS Tryz.prog 33 t26 w_7 fun t27 w_8 =>
 ev Tryz.prog (convert 3 33 x2) w_8 fun t29 w_9 =>
 ev Tryz.prog (binM .add 33 (.tmp 27) (.tmp 29) t27 t29) w_9 fun t30 w_10 =>
 nilS Tryz.prog t12 w_10 fun t31 w_11 =>
 ev Tryz.prog (Instr.fieldAt 163 t31 0) w_11 fun t32 w_12 =>
 stS Tryz.prog 33 t32 t30 w_12 fun w_13 =>
 nilS Tryz.prog t12 w_13 fun t35 w_14 =>
 ev Tryz.prog (Instr.fieldAt 163 t35 1) w_14 fun t36 w_15 =>
 ldS Tryz.prog 38 t36 w_15 fun t37 w_16 =>
 ev Tryz.prog (Instr.sliceAt 38 t37 (some x2) none none) w_16 fun t39 w_17 =>
 nilS Tryz.prog t12 w_17 fun t40 w_18 =>
 ev Tryz.prog (Instr.fieldAt 163 t40 1) w_18 fun t41 w_19 =>
 stS Tryz.prog 38 t41 t39 w_19 fun w_20 =>
 nilS Tryz.prog t12 w_20 fun t43 w_21 =>
 ev Tryz.prog (Instr.fieldAt 163 t43 1) w_21 fun t44 w_22 =>
 ldS Tryz.prog 38 t44 w_22 fun t45 w_23 =>
 bltS Tryz.prog .len #[38] 3 #[false] #[t45] w_23 fun t46 w_24 =>
 ev Tryz.prog (binM .eql 3 (.tmp 46) (.const (.int .i64 0)) t46 (.int .i64 0)) w_24 fun t47 w_25 =>
 cndS t47 (
 nilS Tryz.prog t12 w_25 fun t49 w_26 =>
 ev Tryz.prog (Instr.fieldAt 163 t49 1) w_26 fun t50 w_27 =>
 stS Tryz.prog 38 t50 (.slice none 0 0) w_27 fun w_28 =>
 K (.tuple #[]) w_28) (
 K (.tuple #[]) w_25)
theorem f104_sk (x0 x1 x2 : Value) (K : K1) (w : World) : (cS f104_c (f104_e K) (f104_e K) nX ([x0, x1, x2] ++ List.replicate (51 - 3) undef) w) = f104_t x0 x1 x2 K w := by kernel_rfl
theorem f104_ok : codeOk Tryz.prog 51 f104_c = true := by kernel_rfl
theorem f104_call (x0 x1 x2 : Value) (K : K1) (w : World) (h : f104_t x0 x1 x2 K w) : callS Tryz.prog 104 #[x0, x1, x2] w K :=
  calls_of_codeS (args := [x0, x1, x2]) mixed Tryz.func104 (show Tryz.f104.body = some f104_c from rfl) rfl (show Tryz.f104.results = f104_rs.toArray from rfl) f104_ok (by simp) (cast ((Eq.trans (by kernel_rfl) (f104_sk x0 x1 x2 K w) : (cS f104_c (f104_e K) (f104_e K) nX ([x0, x1, x2] ++ List.replicate (51 - 3) undef) w) = f104_t x0 x1 x2 K w)).symm h)
noncomputable def f110_c : Code := (Tryz.f110.body).getD .skip
def f110_rs : List ResultVar := [.tmp 2]
abbrev f110_e (K : K1) : KF := endK Tryz.prog f110_rs K
def f110_k2_t (x3 : Value) (K : K1) (w : World) : Prop :=
 K x3 w
theorem f110_k2_sk (z : Nat → Value) (K : K1) (w : World) : (cS (cr (cr (cr f110_c))) (f110_e K) (f110_e K) nX (frL 29 z 0) w) = f110_k2_t (z 3) K w := by kernel_rfl
def f110_k2 (K : K1) (x3 : Value) (w : World) : Prop := f110_k2_t x3 K w
theorem f110_k2_eq (K : K1) (x3 : Value) (w : World) : f110_k2 K x3 w = f110_k2_t x3 K w := rfl
def f110_k2_o (K : K1) : KF := fun fr w => cS (cr (cr (cr f110_c))) (f110_e K) (f110_e K) nX fr w
theorem f110_k2_s (K : K1)  (f0 : Fr) (hn : f0.length = 29) (fr : Fr) (w : World) (hs : Same 536870911 f0 fr) (h : f110_k2 K (sv fr 3) w) : f110_k2_o K fr w := by
  have h1 := cast (f110_k2_sk (fun i => sv fr i) K w).symm h
  rw [show frL 29 (fun i => sv fr i) 0 = fr from frL_of (hs.len.trans hn)] at h1
  have h2 : cS (cr (cr (cr f110_c))) (f110_e K) (f110_e K) nX fr w := (codeS_mono (m := 536870911) (f0 := f0) (cr (cr (cr f110_c))) (by kernel_rfl) (fun _ _ _ h => h) (fun _ _ _ h => h) (fun _ _ _ _ h => h) fr w hs) h1
  exact cast (by kernel_rfl) h2
def f110_l1_t (x3 x14 : Value) (K : K1) (E1 : Value → World → Prop) (c_f110_k2 : Value → World → Prop) (w : World) : Prop :=
 ev Tryz.prog (binM .lss 3 (.tmp 14) (.const (.int .i64 8)) x14 (.int .i64 8)) w fun t15 w_1 =>
 cndS t15 (
 ev Tryz.prog (Instr.makeMap 140 none) w_1 fun t21 w_2 =>
 ev Tryz.prog (Instr.build 142 #[(0, x3), (1, x14), (3, t21)]) w_2 fun t22 w_3 =>
 ev Tryz.prog (Instr.box 142 t22) w_3 fun t23 w_4 =>
 nilS Tryz.prog x3 w_4 fun t24 w_5 =>
 ev Tryz.prog (Instr.fieldAt 156 t24 3) w_5 fun t25 w_6 =>
 ev Tryz.prog (Instr.indexAt 154 t25 x14) w_6 fun t26 w_7 =>
 stS Tryz.prog 48 t26 t23 w_7 fun w_8 =>
 ev Tryz.prog (binM .add 3 (.tmp 14) (.const (.int .i64 1)) x14 (.int .i64 1)) w_8 fun t27 w_9 =>
 E1 t27 w_9) (
 c_f110_k2 x3 w_1)
theorem f110_l1_sk (z : Nat → Value) (K : K1) (E1 : Value → World → Prop) (c_f110_k2 : Value → World → Prop) (w : World) : (cS (cl (cl (cr (cl (cr (cr f110_c)))))) (fun fr w => E1 (sv fr 14) w) (f110_e K) (exB 0 (fun fr w => c_f110_k2 (sv fr 3) w) nX) (frL 29 z 0) w) = f110_l1_t (z 3) (z 14) K E1 c_f110_k2 w := by kernel_rfl
def f110_l1 (K : K1) (x3 x14 : Value) (w : World) : Prop := ∃ (I : Value → World → Prop) (μ : Value → World → Nat), I x14 w ∧ ∀ (x14 : Value) (w : World), I x14 w → ∀ E1 : Value → World → Prop, (∀ (y14 : Value) (w' : World), I y14 w' → μ y14 w' < μ x14 w → E1 y14 w') → f110_l1_t x3 x14 K E1 (f110_k2 K) w
theorem f110_l1_rule (x3 x14 : Value) (K : K1) (w : World) (I : Value → World → Prop) (μ : Value → World → Nat) (h0 : I x14 w)
    (hr : ∀ (x14 : Value) (w : World), I x14 w → ∀ E1 : Value → World → Prop, (∀ (y14 : Value) (w' : World), I y14 w' → μ y14 w' < μ x14 w → E1 y14 w') → f110_l1_t x3 x14 K E1 (f110_k2 K) w) : f110_l1 K x3 x14 w := ⟨I, μ, h0, hr⟩
def f110_l1_o (K : K1) : KF := fun fr w => cS (cl (cr (cl (cr (cr f110_c))))) (fun _ _ => False) (f110_e K) (exB 0 (f110_k2_o K) nX) fr w
theorem f110_l1_b (K : K1)  (E1 : Value → World → Prop) (F1 : KF) (f0 : Fr) (hn : f0.length = 29) (f1 : Fr) (a1 : Same 536870911 f0 f1) (b1 : ∀ fr w, Same 268419088 f1 fr → E1 (sv fr 14) w → F1 fr w) (fr : Fr) (w : World) (hs : Same 268419088 f1 fr) (h : f110_l1_t (sv fr 3) (sv fr 14) K E1 (f110_k2 K) w) : cS (cl (cl (cr (cl (cr (cr f110_c)))))) F1 (f110_e K) (exB 0 (f110_k2_o K) nX) fr w := by
  have h1 := cast (f110_l1_sk (fun i => sv fr i) K E1 (f110_k2 K) w).symm h
  rw [show frL 29 (fun i => sv fr i) 0 = fr from frL_of (hs.len.trans (a1.len.trans hn))] at h1
  have h2 : cS (cl (cl (cr (cl (cr (cr f110_c)))))) F1 (f110_e K) (exB 0 (f110_k2_o K) nX) fr w := (codeS_mono (m := 268419088) (f0 := f1) (cl (cl (cr (cl (cr (cr f110_c)))))) (by kernel_rfl) (fun fr w hs h => b1 fr w hs h) (fun _ _ _ h => h) (exB_mono (fun fr w hs h => f110_k2_s K f0 hn fr w (Same.up (by kernel_rfl) a1 hs) h) (fun _ _ _ _ h => h)) fr w hs) h1
  exact cast (by kernel_rfl) h2
theorem f110_l1_s (K : K1)  (f0 : Fr) (hn : f0.length = 29) (fr : Fr) (w : World) (hs : Same 536870911 f0 fr) (h : f110_l1 K (sv fr 3) (sv fr 14) w) : f110_l1_o K fr w := by
  obtain ⟨I, μ, h0, hr⟩ := h
  have hL : loopS (fun E fr w => cS (cl (cl (cr (cl (cr (cr f110_c)))))) E (f110_e K) (exB 0 (f110_k2_o K) nX) fr w) fr w := by
    refine ⟨fun f' w' => Same 268419088 fr f' ∧ I (sv f' 14) w', fun f' w' => μ (sv f' 14) w', ⟨Same.refl _ _, h0⟩, ?_⟩
    intro f' w' hI
    have hb := hr (sv f' 14) w' hI.2 (fun y14 w2 => I y14 w2 ∧ μ y14 w2 < μ (sv f' 14) w') (fun y14 w2 a b => ⟨a, b⟩)
    rw [← hI.1.sv 3 (by kernel_rfl)] at hb
    exact f110_l1_b K _ _ f0 hn fr hs (fun f w h1 h2 => ⟨⟨h1, h2.1⟩, h2.2⟩) f' w' hI.1 hb
  exact cast (by kernel_rfl) hL
def f110_k1_t (x3 : Value) (K : K1) (c_f110_l1 : Value → Value → World → Prop) (w : World) : Prop :=
 c_f110_l1 x3 (.int .i64 0) w
theorem f110_k1_sk (z : Nat → Value) (K : K1) (c_f110_l1 : Value → Value → World → Prop) (w : World) : (cS (cl (cl (cr (cr f110_c)))) (fun fr w => c_f110_l1 (sv fr 3) (sv fr 14) w) (f110_e K) nX (frL 29 z 0) w) = f110_k1_t (z 3) K c_f110_l1 w := by kernel_rfl
def f110_k1 (K : K1) (x3 : Value) (w : World) : Prop := f110_k1_t x3 K (f110_l1 K) w
theorem f110_k1_eq (K : K1) (x3 : Value) (w : World) : f110_k1 K x3 w = f110_k1_t x3 K (f110_l1 K) w := rfl
def f110_k1_o (K : K1) : KF := fun fr w => cS (cr (cr f110_c)) (f110_e K) (f110_e K) nX fr w
theorem f110_k1_s (K : K1)  (f0 : Fr) (hn : f0.length = 29) (fr : Fr) (w : World) (hs : Same 536870911 f0 fr) (h : f110_k1 K (sv fr 3) w) : f110_k1_o K fr w := by
  have h1 := cast (f110_k1_sk (fun i => sv fr i) K (f110_l1 K) w).symm h
  rw [show frL 29 (fun i => sv fr i) 0 = fr from frL_of (hs.len.trans hn)] at h1
  have h2 : cS (cl (cl (cr (cr f110_c)))) (fun fr w => f110_l1_o K fr w) (f110_e K) nX fr w := (codeS_mono (m := 536870911) (f0 := f0) (cl (cl (cr (cr f110_c)))) (by kernel_rfl) (fun fr w hs => (fun h => f110_l1_s K f0 hn fr w hs h)) (fun _ _ _ h => h) (fun _ _ _ _ h => h) fr w hs) h1
  exact cast (by kernel_rfl) h2
def f110_t (x0 : Value) (K : K1) (c_f110_k1 : Value → World → Prop) (w : World) : Prop :=
 rd Tryz.prog (Builtin.len_ #[72] 3 #[x0]) w.drew fun t9 =>
 rd Tryz.prog (binM .quo 3 (.tmp 9) (.const (.int .i64 8)) t9 (.int .i64 8)) w.drew fun t10 =>
 (callS Tryz.prog 116 (pA #[x0]) w.drew fun t7 w_1 =>
 (ag Tryz.prog (Builtin.len_ #[72] 3 #[x0]) w_1 t9) ∧
 (ag Tryz.prog (binM .quo 3 (.tmp 9) (.const (.int .i64 8)) t9 (.int .i64 8)) w_1 t10) ∧
 ev Tryz.prog (Instr.makeSlice 153 t10 t10) w_1 fun t11 w_2 =>
 rd Tryz.prog (Instr.build 156 #[(0, x0), (1, t7), (2, t11)]) w_2 fun t12 =>
 ev Tryz.prog (Instr.box 156 t12) w_2 fun t13 w_3 =>
 c_f110_k1 t13 w_3) ∧
 (ev Tryz.prog (Instr.makeSlice 153 t10 t10) w.drew fun t11_1 w_4 =>
 callS Tryz.prog 116 (pA #[x0]) w_4 fun t7_1 w_5 =>
 (ag Tryz.prog (Builtin.len_ #[72] 3 #[x0]) w_5 t9) ∧
 (ag Tryz.prog (binM .quo 3 (.tmp 9) (.const (.int .i64 8)) t9 (.int .i64 8)) w_5 t10) ∧
 rd Tryz.prog (Instr.build 156 #[(0, x0), (1, t7_1), (2, t11_1)]) w_5 fun t12_1 =>
 ev Tryz.prog (Instr.box 156 t12_1) w_5 fun t13_1 w_6 =>
 c_f110_k1 t13_1 w_6)
theorem f110_sk (x0 : Value) (K : K1) (c_f110_k1 : Value → World → Prop) (w : World) : (cS (cl f110_c) (fun fr w => cS (cl (cr f110_c)) (fun fr w => c_f110_k1 (sv fr 3) w) (f110_e K) nX fr w) (f110_e K) nX ([x0] ++ List.replicate (29 - 1) undef) w) = f110_t x0 K c_f110_k1 w := by kernel_rfl
theorem f110_ok : codeOk Tryz.prog 29 f110_c = true := by kernel_rfl
theorem f110_m (K : K1) (f0 : Fr) (hn : f0.length = 29) (w : World) (h1 : cS (cl f110_c) (fun fr w => cS (cl (cr f110_c)) (fun fr w => f110_k1 K (sv fr 3) w) (f110_e K) nX fr w) (f110_e K) nX f0 w) : cS f110_c (f110_e K) (f110_e K) nX f0 w := by
  have hs := Same.refl 536870911 f0
  let fr := f0
  have h2 : cS (cl f110_c) (fun fr w => cS (cl (cr f110_c)) (f110_k1_o K) (f110_e K) nX fr w) (f110_e K) nX fr w := (codeS_mono (m := 536870911) (f0 := f0) (cl f110_c) (by kernel_rfl) (fun fr w hs => codeS_mono (m := 536870911) (f0 := f0) (cl (cr f110_c)) (by kernel_rfl) (fun fr w hs h => f110_k1_s K f0 hn fr w hs h) (fun _ _ _ h => h) (fun _ _ _ _ h => h) fr w hs) (fun _ _ _ h => h) (fun _ _ _ _ h => h) fr w hs) h1
  exact cast (by kernel_rfl) h2
theorem f110_call (x0 : Value) (K : K1) (w : World) (h : f110_t x0 K (f110_k1 K) w) : callS Tryz.prog 110 #[x0] w K :=
  calls_of_codeS (args := [x0]) mixed Tryz.func110 (show Tryz.f110.body = some f110_c from rfl) rfl (show Tryz.f110.results = f110_rs.toArray from rfl) f110_ok (by simp) (f110_m K _ (by simp) w (cast (f110_sk x0 K (f110_k1 K) w).symm h))
noncomputable def f111_c : Code := (Tryz.f111.body).getD .skip
def f111_rs : List ResultVar := []
abbrev f111_e (K : K1) : KF := endK Tryz.prog f111_rs K
def f111_t (x0 x1 : Value) (K : K1) (w : World) : Prop :=
 nilS Tryz.prog x0 w fun t5 w_1 =>
 ev Tryz.prog (Instr.fieldAt 142 t5 2) w_1 fun t6 w_2 =>
 ldS Tryz.prog 28 t6 w_2 fun t7 w_3 =>
 ev Tryz.prog (binM .eql 28 (.tmp 7) (.const (.int .i64 0)) t7 (.int .i64 0)) w_3 fun t8 w_4 =>
 cndS t8 (
 nilS Tryz.prog x0 w_4 fun t11 w_5 =>
 ev Tryz.prog (Instr.fieldAt 142 t11 2) w_5 fun t12 w_6 =>
 stS Tryz.prog 28 t12 x1 w_6 fun w_7 =>
 K (.tuple #[]) w_7) (
 K (.tuple #[]) w_4)
theorem f111_sk (x0 x1 : Value) (K : K1) (w : World) : (cS f111_c (f111_e K) (f111_e K) nX ([x0, x1] ++ List.replicate (13 - 2) undef) w) = f111_t x0 x1 K w := by kernel_rfl
theorem f111_ok : codeOk Tryz.prog 13 f111_c = true := by kernel_rfl
theorem f111_call (x0 x1 : Value) (K : K1) (w : World) (h : f111_t x0 x1 K w) : callS Tryz.prog 111 #[x0, x1] w K :=
  calls_of_codeS (args := [x0, x1]) mixed Tryz.func111 (show Tryz.f111.body = some f111_c from rfl) rfl (show Tryz.f111.results = f111_rs.toArray from rfl) f111_ok (by simp) (cast ((Eq.trans (by kernel_rfl) (f111_sk x0 x1 K w) : (cS f111_c (f111_e K) (f111_e K) nX ([x0, x1] ++ List.replicate (13 - 2) undef) w) = f111_t x0 x1 K w)).symm h)
noncomputable def f112_c : Code := (Tryz.f112.body).getD .skip
def f112_rs : List ResultVar := [.tmp 2]
abbrev f112_e (K : K1) : KF := endK Tryz.prog f112_rs K
def f112_t (x0 : Value) (K : K1) (w : World) : Prop :=
 callS Tryz.prog 132 (pA #[x0]) w fun t4 w_1 =>
 ev Tryz.prog (convert 3 33 t4) w_1 fun t5 w_2 =>
 ev Tryz.prog (binM .mul 33 (.tmp 5) (.const (.int .u64 ((64 : Nat) : Int))) t5 (.int .u64 ((64 : Nat) : Int))) w_2 fun t6 w_3 =>
 K t6 w_3
theorem f112_sk (x0 : Value) (K : K1) (w : World) : (cS f112_c (f112_e K) (f112_e K) nX ([x0] ++ List.replicate (7 - 1) undef) w) = f112_t x0 K w := by kernel_rfl
theorem f112_ok : codeOk Tryz.prog 7 f112_c = true := by kernel_rfl
theorem f112_call (x0 : Value) (K : K1) (w : World) (h : f112_t x0 K w) : callS Tryz.prog 112 #[x0] w K :=
  calls_of_codeS (args := [x0]) mixed Tryz.func112 (show Tryz.f112.body = some f112_c from rfl) rfl (show Tryz.f112.results = f112_rs.toArray from rfl) f112_ok (by simp) (cast ((Eq.trans (by kernel_rfl) (f112_sk x0 K w) : (cS f112_c (f112_e K) (f112_e K) nX ([x0] ++ List.replicate (7 - 1) undef) w) = f112_t x0 K w)).symm h)
noncomputable def f116_c : Code := (Tryz.f116.body).getD .skip
def f116_rs : List ResultVar := [.tmp 2]
abbrev f116_e (K : K1) : KF := endK Tryz.prog f116_rs K
def f116_t (x0 : Value) (K : K1) (w : World) : Prop :=
 ev Tryz.prog (binM .eql 72 (.tmp 3) (.const (.slice none 0 0)) x0 (.slice none 0 0)) w fun t4 w_1 =>
 cndS t4 (
 K (.slice none 0 0) w_1) (
 ev Tryz.prog (Instr.buildSlice 72 0 #[]) w_1 fun t5 w_2 =>
 bltS Tryz.prog .append #[72, 72] 72 #[false, false] (pA #[t5, x0]) w_2 fun t7 w_3 =>
 K t7 w_3)
theorem f116_sk (x0 : Value) (K : K1) (w : World) : (cS f116_c (f116_e K) (f116_e K) nX ([x0] ++ List.replicate (8 - 1) undef) w) = f116_t x0 K w := by kernel_rfl
theorem f116_ok : codeOk Tryz.prog 8 f116_c = true := by kernel_rfl
theorem f116_call (x0 : Value) (K : K1) (w : World) (h : f116_t x0 K w) : callS Tryz.prog 116 #[x0] w K :=
  calls_of_codeS (args := [x0]) mixed Tryz.func116 (show Tryz.f116.body = some f116_c from rfl) rfl (show Tryz.f116.results = f116_rs.toArray from rfl) f116_ok (by simp) (cast ((Eq.trans (by kernel_rfl) (f116_sk x0 K w) : (cS f116_c (f116_e K) (f116_e K) nX ([x0] ++ List.replicate (8 - 1) undef) w) = f116_t x0 K w)).symm h)
noncomputable def f118_c : Code := (Tryz.f118.body).getD .skip
def f118_rs : List ResultVar := []
abbrev f118_e (K : K1) : KF := endK Tryz.prog f118_rs K
def f118_l1_t (x0 x6 x7 x8 : Value) (K : K1) (E1 : Value → World → Prop) (w : World) : Prop :=
 ev Tryz.prog (binM .lss 3 (.tmp 8) (.tmp 7) x8 x7) w fun t9 w_1 =>
 cndS t9 (
 ev Tryz.prog (Instr.indexAt 38 x6 x8) w_1 fun t10 w_2 =>
 ldS Tryz.prog 37 t10 w_2 fun t11 w_3 =>
 ev Tryz.prog (Instr.alloc 37 true (.tuple #[])) w_3 fun t5 w_4 =>
 stS Tryz.prog 37 t5 t11 w_4 fun w_5 =>
 ev Tryz.prog (Instr.fieldAt 37 t5 0) w_5 fun t13 w_6 =>
 ldS Tryz.prog 33 t13 w_6 fun t14 w_7 =>
 ev Tryz.prog (binM .quo 33 (.tmp 14) (.const (.int .u64 ((8 : Nat) : Int))) t14 (.int .u64 ((8 : Nat) : Int))) w_7 fun t15 w_8 =>
 ev Tryz.prog (Instr.fieldAt 37 t5 1) w_8 fun t16 w_9 =>
 ldS Tryz.prog 33 t16 w_9 fun t17 w_10 =>
 ev Tryz.prog (Instr.indexAt 72 x0 t15) w_10 fun t18 w_11 =>
 stS Tryz.prog 33 t18 t17 w_11 fun w_12 =>
 ev Tryz.prog (binM .add 3 (.tmp 8) (.const (.int .i64 1)) x8 (.int .i64 1)) w_12 fun t19 w_13 =>
 E1 t19 w_13) (
 K (.tuple #[]) w_1)
theorem f118_l1_sk (z : Nat → Value) (K : K1) (E1 : Value → World → Prop) (w : World) : (cS (cl (cl (cr f118_c))) (fun fr w => E1 (sv fr 8) w) (f118_e K) (exB 0 (f118_e K) nX) (frL 20 z 0) w) = f118_l1_t (z 0) (z 6) (z 7) (z 8) K E1 w := by kernel_rfl
def f118_l1 (K : K1) (x0 x6 x7 x8 : Value) (w : World) : Prop := ∃ (I : Value → World → Prop) (μ : Value → World → Nat), I x8 w ∧ ∀ (x8 : Value) (w : World), I x8 w → ∀ E1 : Value → World → Prop, (∀ (y8 : Value) (w' : World), I y8 w' → μ y8 w' < μ x8 w → E1 y8 w') → f118_l1_t x0 x6 x7 x8 K E1 w
theorem f118_l1_rule (x0 x6 x7 x8 : Value) (K : K1) (w : World) (I : Value → World → Prop) (μ : Value → World → Nat) (h0 : I x8 w)
    (hr : ∀ (x8 : Value) (w : World), I x8 w → ∀ E1 : Value → World → Prop, (∀ (y8 : Value) (w' : World), I y8 w' → μ y8 w' < μ x8 w → E1 y8 w') → f118_l1_t x0 x6 x7 x8 K E1 w) : f118_l1 K x0 x6 x7 x8 w := ⟨I, μ, h0, hr⟩
def f118_l1_o (K : K1) : KF := fun fr w => cS (cl (cr f118_c)) (fun _ _ => False) (f118_e K) (exB 0 (f118_e K) nX) fr w
theorem f118_l1_b (K : K1)  (E1 : Value → World → Prop) (F1 : KF) (f0 : Fr) (hn : f0.length = 20) (f1 : Fr) (a1 : Same 1048575 f0 f1) (b1 : ∀ fr w, Same 1048352 f1 fr → E1 (sv fr 8) w → F1 fr w) (fr : Fr) (w : World) (hs : Same 1048352 f1 fr) (h : f118_l1_t (sv fr 0) (sv fr 6) (sv fr 7) (sv fr 8) K E1 w) : cS (cl (cl (cr f118_c))) F1 (f118_e K) (exB 0 (f118_e K) nX) fr w := by
  have h1 := cast (f118_l1_sk (fun i => sv fr i) K E1 w).symm h
  rw [show frL 20 (fun i => sv fr i) 0 = fr from frL_of (hs.len.trans (a1.len.trans hn))] at h1
  have h2 : cS (cl (cl (cr f118_c))) F1 (f118_e K) (exB 0 (f118_e K) nX) fr w := (codeS_mono (m := 1048352) (f0 := f1) (cl (cl (cr f118_c))) (by kernel_rfl) (fun fr w hs h => b1 fr w hs h) (fun _ _ _ h => h) (exB_mono (fun _ _ _ h => h) (fun _ _ _ _ h => h)) fr w hs) h1
  exact cast (by kernel_rfl) h2
theorem f118_l1_s (K : K1)  (f0 : Fr) (hn : f0.length = 20) (fr : Fr) (w : World) (hs : Same 1048575 f0 fr) (h : f118_l1 K (sv fr 0) (sv fr 6) (sv fr 7) (sv fr 8) w) : f118_l1_o K fr w := by
  obtain ⟨I, μ, h0, hr⟩ := h
  have hL : loopS (fun E fr w => cS (cl (cl (cr f118_c))) E (f118_e K) (exB 0 (f118_e K) nX) fr w) fr w := by
    refine ⟨fun f' w' => Same 1048352 fr f' ∧ I (sv f' 8) w', fun f' w' => μ (sv f' 8) w', ⟨Same.refl _ _, h0⟩, ?_⟩
    intro f' w' hI
    have hb := hr (sv f' 8) w' hI.2 (fun y8 w2 => I y8 w2 ∧ μ y8 w2 < μ (sv f' 8) w') (fun y8 w2 a b => ⟨a, b⟩)
    rw [← hI.1.sv 0 (by kernel_rfl), ← hI.1.sv 6 (by kernel_rfl), ← hI.1.sv 7 (by kernel_rfl)] at hb
    exact f118_l1_b K _ _ f0 hn fr hs (fun f w h1 h2 => ⟨⟨h1, h2.1⟩, h2.2⟩) f' w' hI.1 hb
  exact cast (by kernel_rfl) hL
def f118_t (x0 x1 : Value) (K : K1) (c_f118_l1 : Value → Value → Value → Value → World → Prop) (w : World) : Prop :=
 bltS Tryz.prog .len #[38] 3 #[false] #[x1] w fun t7 w_1 =>
 c_f118_l1 x0 x1 t7 (.int .i64 0) w_1
theorem f118_sk (x0 x1 : Value) (K : K1) (c_f118_l1 : Value → Value → Value → Value → World → Prop) (w : World) : (cS (cl f118_c) (fun fr w => c_f118_l1 (sv fr 0) (sv fr 6) (sv fr 7) (sv fr 8) w) (f118_e K) nX ([x0, x1] ++ List.replicate (20 - 2) undef) w) = f118_t x0 x1 K c_f118_l1 w := by kernel_rfl
theorem f118_ok : codeOk Tryz.prog 20 f118_c = true := by kernel_rfl
theorem f118_m (K : K1) (f0 : Fr) (hn : f0.length = 20) (w : World) (h1 : cS (cl f118_c) (fun fr w => f118_l1 K (sv fr 0) (sv fr 6) (sv fr 7) (sv fr 8) w) (f118_e K) nX f0 w) : cS f118_c (f118_e K) (f118_e K) nX f0 w := by
  have hs := Same.refl 1048575 f0
  let fr := f0
  have h2 : cS (cl f118_c) (fun fr w => f118_l1_o K fr w) (f118_e K) nX fr w := (codeS_mono (m := 1048575) (f0 := f0) (cl f118_c) (by kernel_rfl) (fun fr w hs => (fun h => f118_l1_s K f0 hn fr w hs h)) (fun _ _ _ h => h) (fun _ _ _ _ h => h) fr w hs) h1
  exact cast (by kernel_rfl) h2
theorem f118_call (x0 x1 : Value) (K : K1) (w : World) (h : f118_t x0 x1 K (f118_l1 K) w) : callS Tryz.prog 118 #[x0, x1] w K :=
  calls_of_codeS (args := [x0, x1]) mixed Tryz.func118 (show Tryz.f118.body = some f118_c from rfl) rfl (show Tryz.f118.results = f118_rs.toArray from rfl) f118_ok (by simp) (f118_m K _ (by simp) w (cast (f118_sk x0 x1 K (f118_l1 K) w).symm h))
noncomputable def f132_c : Code := (Tryz.f132.body).getD .skip
def f132_rs : List ResultVar := [.tmp 2]
abbrev f132_e (K : K1) : KF := endK Tryz.prog f132_rs K
def f132_t (x0 : Value) (K : K1) (w : World) : Prop :=
 ev Tryz.prog (binM .eql 47 (.tmp 3) (.const (.pointer none)) x0 (.pointer none)) w fun t4 w_1 =>
 cndS t4 (
 K (.int .i64 0) w_1) (
 nilS Tryz.prog x0 w_1 fun t6 w_2 =>
 ev Tryz.prog (Instr.fieldAt 156 t6 2) w_2 fun t7 w_3 =>
 ldS Tryz.prog 153 t7 w_3 fun t8 w_4 =>
 bltS Tryz.prog .len #[153] 3 #[false] #[t8] w_4 fun t9 w_5 =>
 K t9 w_5)
theorem f132_sk (x0 : Value) (K : K1) (w : World) : (cS f132_c (f132_e K) (f132_e K) nX ([x0] ++ List.replicate (10 - 1) undef) w) = f132_t x0 K w := by kernel_rfl
theorem f132_ok : codeOk Tryz.prog 10 f132_c = true := by kernel_rfl
theorem f132_call (x0 : Value) (K : K1) (w : World) (h : f132_t x0 K w) : callS Tryz.prog 132 #[x0] w K :=
  calls_of_codeS (args := [x0]) mixed Tryz.func132 (show Tryz.f132.body = some f132_c from rfl) rfl (show Tryz.f132.results = f132_rs.toArray from rfl) f132_ok (by simp) (cast ((Eq.trans (by kernel_rfl) (f132_sk x0 K w) : (cS f132_c (f132_e K) (f132_e K) nX ([x0] ++ List.replicate (10 - 1) undef) w) = f132_t x0 K w)).symm h)
noncomputable def f161_c : Code := (Tryz.f161.body).getD .skip
def f161_rs : List ResultVar := []
abbrev f161_e (K : K1) : KF := endK Tryz.prog f161_rs K
def f161_t (x0 x1 : Value) (K : K1) (w : World) : Prop :=
 ev Tryz.prog (binM .eql 48 (.tmp 6) (.const (.pointer none)) x0 (.pointer none)) w fun t7 w_1 =>
 gd t7 false (fun k => k x0 w_1) w_1 fun t9 w_2 =>
 gd t7 false (fun k => nilS Tryz.prog t9 w_2 k) w_2 fun t10 w_3 =>
 gd t7 false (fun k => ev Tryz.prog (Instr.fieldAt 142 t10 0) w_3 k) w_3 fun t11 w_4 =>
 gd t7 false (fun k => ldS Tryz.prog 47 t11 w_4 k) w_4 fun t12 w_5 =>
 gd t7 false (fun k => ev Tryz.prog (binM .eql 47 (.tmp 12) (.const (.pointer none)) t12 (.pointer none)) w_5 k) w_5 fun t13 w_6 =>
 pickS t7 (.bool true) t13 w_6 fun t14 w_7 =>
 gd t14 false (fun k => k x0 w_7) w_7 fun t16 w_8 =>
 gd t14 false (fun k => k x1 w_8) w_8 fun t17 w_9 =>
 gd t14 false (fun k => k x0 w_9) w_9 fun t18 w_10 =>
 gd t14 false (fun k => nilS Tryz.prog t18 w_10 k) w_10 fun t19 w_11 =>
 gd t14 false (fun k => ev Tryz.prog (Instr.fieldAt 142 t19 0) w_11 k) w_11 fun t20 w_12 =>
 gd t14 false (fun k => ldS Tryz.prog 47 t20 w_12 k) w_12 fun t21 w_13 =>
 gd t14 false (fun k => callS Tryz.prog 112 (pA #[t21]) w_13 k) w_13 fun t22 w_14 =>
 gd t14 false (fun k => ev Tryz.prog (binM .lss 33 (.tmp 17) (.tmp 22) t17 t22) w_14 k) w_14 fun t23 w_15 =>
 gd t14 false (fun k => callS Tryz.prog 82 (pA #[t16, t23]) w_15 k) w_15 fun t24 w_16 =>
 gd t14 false (fun k => ev Tryz.prog (Op.unary .not t24) w_16 k) w_16 fun t25 w_17 =>
 pickS t14 (.bool true) t25 w_17 fun t26 w_18 =>
 cndS t26 (
 K (.tuple #[]) w_18) (
 ev Tryz.prog (binM .quo 33 (.tmp 27) (.const (.int .u64 ((64 : Nat) : Int))) x1 (.int .u64 ((64 : Nat) : Int))) w_18 fun t28 w_19 =>
 ev Tryz.prog (convert 33 3 t28) w_19 fun t29 w_20 =>
 nilS Tryz.prog x0 w_20 fun t31 w_21 =>
 ev Tryz.prog (Instr.fieldAt 142 t31 0) w_21 fun t32 w_22 =>
 ldS Tryz.prog 47 t32 w_22 fun t33 w_23 =>
 nilS Tryz.prog t33 w_23 fun t34 w_24 =>
 ev Tryz.prog (Instr.fieldAt 156 t34 2) w_24 fun t35 w_25 =>
 ldS Tryz.prog 153 t35 w_25 fun t36 w_26 =>
 ev Tryz.prog (Instr.indexAt 153 t36 t29) w_26 fun t38 w_27 =>
 nilR Tryz.prog x0 w_27.drew fun t40 =>
 rd Tryz.prog (Instr.fieldAt 142 t40 3) w_27.drew fun t41 =>
 ldR Tryz.prog 140 t41 w_27.drew fun t42 =>
 nilR Tryz.prog t38 w_27.drew fun t45 =>
 rd Tryz.prog (Instr.fieldAt 163 t45 0) w_27.drew fun t46 =>
 ldR Tryz.prog 33 t46 w_27.drew fun t47 =>
 nilR Tryz.prog t38 w_27.drew fun t49 =>
 rd Tryz.prog (Instr.fieldAt 163 t49 1) w_27.drew fun t50 =>
 ldR Tryz.prog 38 t50 w_27.drew fun t51 =>
 rd Tryz.prog (Builtin.len_ #[38] 3 #[t51]) w_27.drew fun t52 =>
 rd Tryz.prog (convert 3 33 t52) w_27.drew fun t53 =>
 rd Tryz.prog (binM .add 33 (.tmp 47) (.tmp 53) t47 t53) w_27.drew fun t54 =>
 ac Tryz.prog (Instr.mapUpdate 140 t42 t29 t54) w_27.drew fun w_28 =>
 K (.tuple #[]) w_28)
theorem f161_sk (x0 x1 : Value) (K : K1) (w : World) : (cS f161_c (f161_e K) (f161_e K) nX ([x0, x1] ++ List.replicate (55 - 2) undef) w) = f161_t x0 x1 K w := by kernel_rfl
theorem f161_ok : codeOk Tryz.prog 55 f161_c = true := by kernel_rfl
theorem f161_call (x0 x1 : Value) (K : K1) (w : World) (h : f161_t x0 x1 K w) : callS Tryz.prog 161 #[x0, x1] w K :=
  calls_of_codeS (args := [x0, x1]) mixed Tryz.func161 (show Tryz.f161.body = some f161_c from rfl) rfl (show Tryz.f161.results = f161_rs.toArray from rfl) f161_ok (by simp) (cast ((Eq.trans (by kernel_rfl) (f161_sk x0 x1 K w) : (cS f161_c (f161_e K) (f161_e K) nX ([x0, x1] ++ List.replicate (55 - 2) undef) w) = f161_t x0 x1 K w)).symm h)
noncomputable def f162_c : Code := (Tryz.f162.body).getD .skip
def f162_rs : List ResultVar := [.tmp 2]
abbrev f162_e (K : K1) : KF := endK Tryz.prog f162_rs K
def f162_t (x0 : Value) (K : K1) (w : World) : Prop :=
 ev Tryz.prog (binM .eql 48 (.tmp 3) (.const (.pointer none)) x0 (.pointer none)) w fun t4 w_1 =>
 cndS t4 (
 K (.int .u64 ((0 : Nat) : Int)) w_1) (
 nilS Tryz.prog x0 w_1 fun t6 w_2 =>
 ev Tryz.prog (Instr.fieldAt 142 t6 0) w_2 fun t7 w_3 =>
 ldS Tryz.prog 47 t7 w_3 fun t8 w_4 =>
 callS Tryz.prog 112 (pA #[t8]) w_4 fun t9 w_5 =>
 K t9 w_5)
theorem f162_sk (x0 : Value) (K : K1) (w : World) : (cS f162_c (f162_e K) (f162_e K) nX ([x0] ++ List.replicate (10 - 1) undef) w) = f162_t x0 K w := by kernel_rfl
theorem f162_ok : codeOk Tryz.prog 10 f162_c = true := by kernel_rfl
theorem f162_call (x0 : Value) (K : K1) (w : World) (h : f162_t x0 K w) : callS Tryz.prog 162 #[x0] w K :=
  calls_of_codeS (args := [x0]) mixed Tryz.func162 (show Tryz.f162.body = some f162_c from rfl) rfl (show Tryz.f162.results = f162_rs.toArray from rfl) f162_ok (by simp) (cast ((Eq.trans (by kernel_rfl) (f162_sk x0 K w) : (cS f162_c (f162_e K) (f162_e K) nX ([x0] ++ List.replicate (10 - 1) undef) w) = f162_t x0 K w)).symm h)
end Go.Proofs.YtaeopkhdokaaoaaGreatDoor
namespace Go.Proofs.YtaeopkhdokaaoaaGreatDoor
open Go Go.Sh
set_option maxRecDepth 100000
set_option maxHeartbeats 4000000
set_option linter.unusedSimpArgs false
set_option linter.unusedVariables false
structure DS where
  n : Nat
  cur : Nat → Nat
  pers : Nat → Nat
  done : Nat → Nat
  hist : Nat → List (Nat × Nat)
  off : Bool
  armed : Bool
  left : Int
  exe : Nat
  err : Nat → Int
  notes : Nat → Int → Option Nat
structure Lay where
  n : Nat
  d : Nat
  pb : Nat
  cb : Nat
  pc : Nat
  cc : Nat
  lb : Nat
  tb : Nat → Nat
  nb : Nat → Nat
  hv : Nat → Value
inductive Role
  | dev | pe | cu | li
  | th (i : Nat) | nt (i : Nat) | hs (l : Nat)
def Lay.blk (Y : Lay) : Role → Option Nat
  | .dev => some Y.d
  | .pe => some Y.pb
  | .cu => some Y.cb
  | .li => some Y.lb
  | .th i => if i < 8 then some (Y.tb i) else none
  | .nt i => if i < 8 then some (Y.nb i) else none
  | .hs l => if l < Y.n then (Y.hv l).ownBlock else none
def Lay.F (Y : Lay) (b : Nat) : Prop := ∃ r, Y.blk r = some b
abbrev bp (b : Nat) : Value := .pointer (some ⟨b, 0, none⟩)
abbrev u64 (n : Nat) : Value := .int .u64 (n : Int)
abbrev sl (b n c : Nat) : Value := .slice (some ⟨b, 0, none⟩) n c
def devF (Y : Lay) (D : DS) (i : Nat) : Value :=
  if i = 0 then sl Y.pb (8 * D.n) Y.pc else if i = 1 then sl Y.cb (8 * D.n) Y.cc else if i = 2 then sl Y.lb D.n D.n else
  if i < 11 then bp (Y.tb (i - 3)) else if i = 11 then .bool D.off else if i = 12 then .bool D.armed else if i = 13 then .int .i64 D.left else u64 D.exe
def linF (Y : Lay) (D : DS) (i : Nat) : Value := if i % 2 = 0 then u64 (D.done (i / 2)) else Y.hv (i / 2)
def thF (Y : Lay) (D : DS) (id i : Nat) : Value := if i = 0 then bp Y.d else if i = 1 then .int .i64 (id : Int) else if i = 2 then .int .i64 (D.err id) else .map (some (Y.nb id))
def wrL : List (Nat × Nat) → List Value
  | [] => []
  | (o, v) :: l => u64 o :: u64 v :: wrL l
def ntF (D : DS) (id : Nat) (i : Int) : Option Value := (D.notes id i).map u64
structure Good (D : DS) : Prop where
  n0 : 0 < D.n
  n : D.n ≤ 4096
  cur : ∀ i, i < 8 * D.n → D.cur i < 18446744073709551616
  pers : ∀ i, i < 8 * D.n → D.pers i < 18446744073709551616
  hist : ∀ l, l < D.n → ∀ o v, (o, v) ∈ D.hist l → o % 8 = 0 ∧ o / 64 = l ∧ v < 18446744073709551616
  cnt : ∀ l, l < D.n → D.done l + (D.hist l).length ≤ D.exe
  left : 0 ≤ D.left ∧ D.left < 9223372036854775808
  notes : ∀ id, id < 8 → ∀ k p, D.notes id k = some p → 0 ≤ k ∧ k < D.n ∧ p ≤ D.done k.toNat + (D.hist k.toNat).length
structure Dv (w : World) (Y : Lay) (D : DS) : Prop where
  yn : Y.n = D.n
  dev : Cells w Y.d 156 15 (devF Y D)
  pe : Cells w Y.pb 33 (8 * D.n) (fun i => u64 (D.pers i))
  cu : Cells w Y.cb 33 (8 * D.n) (fun i => u64 (D.cur i))
  li : Cells w Y.lb 163 (2 * D.n) (linF Y D)
  hs : ∀ l, l < D.n → SlO w 37 2 (Y.hv l) (D.hist l).length (wrL (D.hist l))
  th : ∀ i, i < 8 → Cells w (Y.tb i) 142 4 (thF Y D i)
  nt : ∀ i, i < 8 → ∃ es c, MapI w (Y.nb i) es c (ntF D i)
  inj : ∀ r r' b, Y.blk r = some b → Y.blk r' = some b → r = r'
theorem Dv.lt {w : World} {Y : Lay} {D : DS} (h : Dv w Y D) {b : Nat} (hb : Y.F b) : b < w.heap.size := by
  obtain ⟨r, hr⟩ := hb
  cases r with
  | dev => injection hr with hr; subst hr; exact h.dev.lt
  | pe => injection hr with hr; subst hr; exact h.pe.lt
  | cu => injection hr with hr; subst hr; exact h.cu.lt
  | li => injection hr with hr; subst hr; exact h.li.lt
  | th i => simp only [Lay.blk] at hr; split at hr <;> cases hr; exact (h.th i (by assumption)).lt
  | nt i =>
    simp only [Lay.blk] at hr; split at hr <;> cases hr
    obtain ⟨es, c, hm⟩ := h.nt i (by assumption)
    exact hm.lt
  | hs l =>
    simp only [Lay.blk] at hr; split at hr
    · exact (h.hs l (by have := h.yn; omega)).lt hr
    · cases hr
theorem Dv.of_heap {w w' : World} {Y : Lay} {D : DS} (h : Dv w Y D) (e : ∀ b, Y.F b → w'.heap[b]? = w.heap[b]?) : Dv w' Y D where
  yn := h.yn
  dev := h.dev.of_heap (e _ ⟨.dev, rfl⟩)
  pe := h.pe.of_heap (e _ ⟨.pe, rfl⟩)
  cu := h.cu.of_heap (e _ ⟨.cu, rfl⟩)
  li := h.li.of_heap (e _ ⟨.li, rfl⟩)
  hs l hl := (h.hs l hl).of_heap (fun b hb => e b ⟨.hs l, by have := h.yn; simp only [Lay.blk]; rw [if_pos (by omega)]; exact hb⟩)
  th i hi := (h.th i hi).of_heap (e _ ⟨.th i, by simp [Lay.blk, hi]⟩)
  nt i hi := by obtain ⟨es, c, hm⟩ := h.nt i hi; exact ⟨es, c, hm.of_heap (e _ ⟨.nt i, by simp [Lay.blk, hi]⟩)⟩
  inj := h.inj
theorem Dv.ext {w w' : World} {Y : Lay} {D : DS} (h : Dv w Y D) (e : Ext w w') : Dv w' Y D := h.of_heap (fun b hb => e.blk b (h.lt hb))
theorem Dv.frm {w w' : World} {Y : Lay} {D : DS} {G : Nat → Prop} (h : Dv w Y D) (e : Frm G w w') (hG : ∀ b, Y.F b → ¬ G b) : Dv w' Y D := h.of_heap (fun b hb => e.block b (h.lt hb) (hG b hb))
structure Stp (w : World) (Y : Lay) (w' : World) (Y' : Lay) (D' : DS) : Prop where
  dv : Dv w' Y' D'
  y : Y' = { Y with hv := Y'.hv }
  frm : Frm Y.F w w'
  fr : ∀ b, Y'.F b → Y.F b ∨ w.heap.size ≤ b
theorem Stp.refl {w : World} {Y : Lay} {D : DS} (h : Dv w Y D) : Stp w Y w Y D := ⟨h, rfl, Frm.refl _ _, fun b hb => .inl hb⟩
theorem Stp.ext {w w' : World} {Y : Lay} {D : DS} (h : Dv w Y D) (e : Ext w w') : Stp w Y w' Y D := ⟨h.ext e, rfl, Frm.of_ext e, fun b hb => .inl hb⟩
theorem Stp.trans {w w' w'' : World} {Y Y' Y'' : Lay} {D' D'' : DS} (h : Stp w Y w' Y' D') (k : Stp w' Y' w'' Y'' D'') : Stp w Y w'' Y'' D'' where
  dv := k.dv
  y := by rw [k.y, h.y]
  frm := h.frm.trans k.frm (fun x hx hf => by
    rcases h.fr x hf with h1 | h1
    · exact h1
    · omega)
  fr b hb := by
    rcases k.fr b hb with h1 | h1
    · exact h.fr b h1
    · exact .inr (Nat.le_trans h.frm.size h1)
theorem Stp.grow {w w' w'' : World} {Y Y' : Lay} {D' : DS} (h : Stp w Y w' Y' D') (e : Ext w' w'') : Stp w Y w'' Y' D' := h.trans (Stp.ext h.dv e)
theorem Stp.pre {w0 w w' : World} {Y Y' : Lay} {D' : DS} (e : Ext w0 w) (hl : ∀ b, Y.F b → b < w0.heap.size) (h : Stp w Y w' Y' D') : Stp w0 Y w' Y' D' where
  dv := h.dv
  y := h.y
  frm := (Frm.of_ext e : Frm Y.F w0 w).trans h.frm (fun _ _ h => h)
  fr b hb := by
    rcases h.fr b hb with h1 | h1
    · exact .inl h1
    · exact .inr (Nat.le_trans e.size h1)
theorem Stp.to {w w' : World} {Y Y' : Lay} {D1 D2 : DS} (h : Stp w Y w' Y' D1) (e : D1 = D2) : Stp w Y w' Y' D2 := e ▸ h
theorem Stp.tb {w w' : World} {Y Y' : Lay} {D' : DS} (h : Stp w Y w' Y' D') : Y'.tb = Y.tb := by rw [h.y]
theorem Stp.d {w w' : World} {Y Y' : Lay} {D' : DS} (h : Stp w Y w' Y' D') : Y'.d = Y.d := by rw [h.y]
theorem Frm.one (w : World) (b i : Nat) (v : Value) : Frm (fun x => x = b) w (w.setCell ⟨b, i, none⟩ v) := (Frm.refl _ w).set v (fun _ => rfl)
section
variable {w w' : World} {Y : Lay} {D D' : DS}
theorem Dv.setDev (h : Dv w Y D) (i : Nat) (v : Value) (hi : i < 15) (hv : ∀ j, j < 15 → devF Y D' j = if j = i then v else devF Y D j)
    (e : D'.n = D.n ∧ D'.pers = D.pers ∧ D'.cur = D.cur ∧ D'.done = D.done ∧ D'.hist = D.hist ∧ D'.err = D.err ∧ D'.notes = D.notes) : Stp w Y (w.setCell ⟨Y.d, i, none⟩ v) Y D' := by
  have hf := Frm.one w Y.d i v
  have ne : ∀ r b, Y.blk r = some b → r ≠ .dev → b ≠ Y.d := fun r b hr hn e => hn (h.inj r .dev b hr (by rw [e]; rfl))
  obtain ⟨e1, e2, e3, e4, e5, e6, e7⟩ := e
  refine ⟨⟨by rw [e1]; exact h.yn, (h.dev.set v hi).congr (fun j hj => (hv j hj).symm), ?_, ?_, ?_, ?_, ?_, ?_, h.inj⟩, rfl, hf.mono (fun b hb => ⟨.dev, by rw [hb]; rfl⟩), fun b hb => .inl hb⟩
  · rw [e1, e2]; exact h.pe.frm hf (ne .pe _ rfl (by simp))
  · rw [e1, e3]; exact h.cu.frm hf (ne .cu _ rfl (by simp))
  · have : linF Y D' = linF Y D := by funext j; simp [linF, e4]
    rw [e1, this]; exact h.li.frm hf (ne .li _ rfl (by simp))
  · rw [e1, e5]; exact fun l hl => (h.hs l hl).frm hf (fun b hb => ne (.hs l) b (by simp only [Lay.blk]; rw [if_pos (by have := h.yn; omega)]; exact hb) (by simp))
  · intro j hj
    have : thF Y D' j = thF Y D j := by funext q; simp [thF, e6]
    rw [this]; exact (h.th j hj).frm hf (ne (.th j) _ (by simp [Lay.blk, hj]) (by simp))
  · intro j hj
    have : ntF D' j = ntF D j := by funext q; simp [ntF, e7]
    rw [this]
    obtain ⟨es, c, hm⟩ := h.nt j hj
    exact ⟨es, c, hm.of_heap (hf.block _ hm.lt (ne (.nt j) _ (by simp [Lay.blk, hj]) (by simp)))⟩
theorem Dv.setErr (h : Dv w Y D) (id : Nat) (hid : id < 8) (x : Int) : Stp w Y (w.setCell ⟨Y.tb id, 2, none⟩ (.int .i64 x)) Y { D with err := fun j => if j = id then x else D.err j } := by
  have hf := Frm.one w (Y.tb id) 2 (.int .i64 x)
  have hb : Y.blk (.th id) = some (Y.tb id) := by simp [Lay.blk, hid]
  have ne : ∀ r b, Y.blk r = some b → r ≠ .th id → b ≠ Y.tb id := fun r b hr hn e => hn (h.inj r (.th id) b hr (by rw [e]; exact hb))
  refine ⟨⟨h.yn, h.dev.frm hf (ne .dev _ rfl (by simp)), h.pe.frm hf (ne .pe _ rfl (by simp)), h.cu.frm hf (ne .cu _ rfl (by simp)), h.li.frm hf (ne .li _ rfl (by simp)), ?_, ?_, ?_, h.inj⟩, rfl, hf.mono (fun b hb' => ⟨.th id, by rw [hb']; exact hb⟩), fun b hb => .inl hb⟩
  · exact fun l hl => (h.hs l hl).frm hf (fun b hb => ne (.hs l) b (by simp only [Lay.blk]; rw [if_pos (by have := h.yn; have : l < D.n := hl; omega)]; exact hb) (by simp))
  · intro j hj
    by_cases hji : j = id
    · subst hji
      refine ((h.th j hj).set _ (by omega)).congr (fun q hq => ?_)
      have hq' : q = 0 ∨ q = 1 ∨ q = 2 ∨ q = 3 := by omega
      rcases hq' with rfl | rfl | rfl | rfl <;> simp [thF]
    · have : thF Y { D with err := fun j => if j = id then x else D.err j } j = thF Y D j := by funext q; simp [thF, hji]
      rw [this]; exact (h.th j hj).frm hf (ne (.th j) _ (by simp [Lay.blk, hj]) (by simpa using hji))
  · intro j hj
    obtain ⟨es, c, hm⟩ := h.nt j hj
    exact ⟨es, c, hm.of_heap (hf.block _ hm.lt (ne (.nt j) _ (by simp [Lay.blk, hj]) (by simp)))⟩
theorem Dv.setCur (h : Dv w Y D) (i x : Nat) (hi : i < 8 * D.n) : Stp w Y (w.setCell ⟨Y.cb, i, none⟩ (u64 x)) Y { D with cur := fun j => if j = i then x else D.cur j } := by
  have hf := Frm.one w Y.cb i (u64 x)
  have ne : ∀ r b, Y.blk r = some b → r ≠ .cu → b ≠ Y.cb := fun r b hr hn e => hn (h.inj r .cu b hr (by rw [e]; rfl))
  refine ⟨⟨h.yn, h.dev.frm hf (ne .dev _ rfl (by simp)), h.pe.frm hf (ne .pe _ rfl (by simp)), ?_, h.li.frm hf (ne .li _ rfl (by simp)), ?_, ?_, ?_, h.inj⟩, rfl, hf.mono (fun b hb' => ⟨.cu, by rw [hb']; rfl⟩), fun b hb => .inl hb⟩
  · exact (h.cu.set (u64 x) hi).congr (fun j hj => by show _ = u64 (if j = i then x else D.cur j); split <;> simp_all)
  · exact fun l hl => (h.hs l hl).frm hf (fun b hb => ne (.hs l) b (by simp only [Lay.blk]; rw [if_pos (by have := h.yn; have : l < D.n := hl; omega)]; exact hb) (by simp))
  · exact fun j hj => (h.th j hj).frm hf (ne (.th j) _ (by simp [Lay.blk, hj]) (by simp))
  · intro j hj
    obtain ⟨es, c, hm⟩ := h.nt j hj
    exact ⟨es, c, hm.of_heap (hf.block _ hm.lt (ne (.nt j) _ (by simp [Lay.blk, hj]) (by simp)))⟩
theorem Dv.setPers (h : Dv w Y D) (i x : Nat) (hi : i < 8 * D.n) : Stp w Y (w.setCell ⟨Y.pb, i, none⟩ (u64 x)) Y { D with pers := fun j => if j = i then x else D.pers j } := by
  have hf := Frm.one w Y.pb i (u64 x)
  have ne : ∀ r b, Y.blk r = some b → r ≠ .pe → b ≠ Y.pb := fun r b hr hn e => hn (h.inj r .pe b hr (by rw [e]; rfl))
  refine ⟨⟨h.yn, h.dev.frm hf (ne .dev _ rfl (by simp)), ?_, h.cu.frm hf (ne .cu _ rfl (by simp)), h.li.frm hf (ne .li _ rfl (by simp)), ?_, ?_, ?_, h.inj⟩, rfl, hf.mono (fun b hb' => ⟨.pe, by rw [hb']; rfl⟩), fun b hb => .inl hb⟩
  · exact (h.pe.set (u64 x) hi).congr (fun j hj => by show _ = u64 (if j = i then x else D.pers j); split <;> simp_all)
  · exact fun l hl => (h.hs l hl).frm hf (fun b hb => ne (.hs l) b (by simp only [Lay.blk]; rw [if_pos (by have := h.yn; have : l < D.n := hl; omega)]; exact hb) (by simp))
  · exact fun j hj => (h.th j hj).frm hf (ne (.th j) _ (by simp [Lay.blk, hj]) (by simp))
  · intro j hj
    obtain ⟨es, c, hm⟩ := h.nt j hj
    exact ⟨es, c, hm.of_heap (hf.block _ hm.lt (ne (.nt j) _ (by simp [Lay.blk, hj]) (by simp)))⟩
theorem Dv.setDone (h : Dv w Y D) (l x : Nat) (hl : l < D.n) : Stp w Y (w.setCell ⟨Y.lb, l * 2, none⟩ (u64 x)) Y { D with done := fun j => if j = l then x else D.done j } := by
  have hf := Frm.one w Y.lb (l * 2) (u64 x)
  have ne : ∀ r b, Y.blk r = some b → r ≠ .li → b ≠ Y.lb := fun r b hr hn e => hn (h.inj r .li b hr (by rw [e]; rfl))
  refine ⟨⟨h.yn, h.dev.frm hf (ne .dev _ rfl (by simp)), h.pe.frm hf (ne .pe _ rfl (by simp)), h.cu.frm hf (ne .cu _ rfl (by simp)), ?_, ?_, ?_, ?_, h.inj⟩, rfl, hf.mono (fun b hb' => ⟨.li, by rw [hb']; rfl⟩), fun b hb => .inl hb⟩
  · refine (h.li.set (u64 x) (i := l * 2) (by omega)).congr (fun j hj => ?_)
    by_cases e : j = l * 2
    · subst e
      have e1 : l * 2 % 2 = 0 := by omega
      have e2 : l * 2 / 2 = l := by omega
      simp [linF, e1, e2]
    · rw [if_neg e]
      by_cases e2 : j % 2 = 0
      · have : ¬ j / 2 = l := by omega
        simp [linF, e2, this]
      · simp [linF, e2]
  · exact fun l hl => (h.hs l hl).frm hf (fun b hb => ne (.hs l) b (by simp only [Lay.blk]; rw [if_pos (by have := h.yn; have : l < D.n := hl; omega)]; exact hb) (by simp))
  · exact fun j hj => (h.th j hj).frm hf (ne (.th j) _ (by simp [Lay.blk, hj]) (by simp))
  · intro j hj
    obtain ⟨es, c, hm⟩ := h.nt j hj
    exact ⟨es, c, hm.of_heap (hf.block _ hm.lt (ne (.nt j) _ (by simp [Lay.blk, hj]) (by simp)))⟩
theorem Dv.setHist (h : Dv w Y D) (l : Nat) (hl : l < D.n) (v : Value) (H : List (Nat × Nat)) (hv : SlO w' 37 2 v H.length (wrL H)) (hf : Frm (fun b => (Y.hv l).ownBlock = some b) w w') (hn : ∀ b, v.ownBlock = some b → (Y.hv l).ownBlock = some b ∨ w.heap.size ≤ b) :
    Stp w Y (w'.setCell ⟨Y.lb, l * 2 + 1, none⟩ v) { Y with hv := fun j => if j = l then v else Y.hv j } { D with hist := fun j => if j = l then H else D.hist j } := by
  have hyn := h.yn
  have hbl : ∀ b, (Y.hv l).ownBlock = some b → Y.blk (.hs l) = some b := fun b hb => by simp only [Lay.blk]; rw [if_pos (by omega)]; exact hb
  have ne : ∀ r b, Y.blk r = some b → r ≠ .hs l → ¬ (Y.hv l).ownBlock = some b := fun r b hr hn e => hn (h.inj r (.hs l) b hr (hbl b e))
  have hli := h.li.frm hf (ne .li _ rfl (by simp))
  have hf2 := Frm.one w' Y.lb (l * 2 + 1) v
  have ne2 : ∀ r b, Y.blk r = some b → r ≠ .li → b ≠ Y.lb := fun r b hr hn e => hn (h.inj r .li b hr (by rw [e]; rfl))
  have hvl : ∀ b, v.ownBlock = some b → b ≠ Y.lb := by
    intro b hb e
    rcases hn b hb with h1 | h1
    · exact ne2 (.hs l) b (hbl b h1) (by simp) e
    · have := h.li.lt; omega
  have blk' : ∀ r, r ≠ .hs l → Lay.blk { Y with hv := fun j => if j = l then v else Y.hv j } r = Y.blk r := by
    intro r hr
    cases r with
    | hs q => have : ¬ q = l := fun e => hr (by rw [e]); simp [Lay.blk, this]
    | _ => rfl
  have blkl : Lay.blk { Y with hv := fun j => if j = l then v else Y.hv j } (.hs l) = v.ownBlock := by simp [Lay.blk]; omega
  have both : Frm Y.F w (w'.setCell ⟨Y.lb, l * 2 + 1, none⟩ v) := (hf.mono (fun b hb => (⟨.hs l, hbl b hb⟩ : Y.F b))).trans (hf2.mono (fun b hb => (⟨.li, by rw [hb]; rfl⟩ : Y.F b))) (fun _ _ h => h)
  have hnew : ∀ b, v.ownBlock = some b → ∀ r, r ≠ .hs l → Y.blk r = some b → False := by
    intro b hb r hr hrb
    rcases hn b hb with h1 | h1
    · exact ne r b hrb hr h1
    · have := h.lt ⟨r, hrb⟩; omega
  refine ⟨⟨h.yn, ?_, ?_, ?_, ?_, ?_, ?_, ?_, ?_⟩, rfl, both, ?_⟩
  · exact (h.dev.frm hf (ne .dev _ rfl (by simp))).frm hf2 (ne2 .dev _ rfl (by simp))
  · exact (h.pe.frm hf (ne .pe _ rfl (by simp))).frm hf2 (ne2 .pe _ rfl (by simp))
  · exact (h.cu.frm hf (ne .cu _ rfl (by simp))).frm hf2 (ne2 .cu _ rfl (by simp))
  · refine (hli.set v (i := l * 2 + 1) (by omega)).congr (fun j hj => ?_)
    by_cases e : j = l * 2 + 1
    · subst e
      have e1 : (l * 2 + 1) % 2 = 1 := by omega
      have e2 : (l * 2 + 1) / 2 = l := by omega
      simp [linF, e1, e2]
    · rw [if_neg e]
      by_cases e2 : j % 2 = 0
      · simp [linF, e2]
      · have : ¬ j / 2 = l := by omega
        simp [linF, e2, this]
  · intro q hq
    have hq' : q < D.n := hq
    by_cases e : q = l
    · subst e
      simp only [if_true]
      exact hv.frm hf2 hvl
    · simp only [e, if_false]
      have hqb : ∀ b, (Y.hv q).ownBlock = some b → Y.blk (.hs q) = some b := fun b hb => by simp only [Lay.blk]; rw [if_pos (by omega)]; exact hb
      exact ((h.hs q hq').frm hf (fun b hb => ne (.hs q) b (hqb b hb) (by simpa using e))).frm hf2 (fun b hb => ne2 (.hs q) b (hqb b hb) (by simp))
  · intro j hj
    exact ((h.th j hj).frm hf (ne (.th j) _ (by simp [Lay.blk, hj]) (by simp))).frm hf2 (ne2 (.th j) _ (by simp [Lay.blk, hj]) (by simp))
  · intro j hj
    obtain ⟨es, c, hm⟩ := h.nt j hj
    have hm1 := hm.of_heap (hf.block _ hm.lt (ne (.nt j) _ (by simp [Lay.blk, hj]) (by simp)))
    exact ⟨es, c, hm1.of_heap (hf2.block _ hm1.lt (ne2 (.nt j) _ (by simp [Lay.blk, hj]) (by simp)))⟩
  · intro r r' b hr hr'
    by_cases e1 : r = .hs l
    · by_cases e2 : r' = .hs l
      · rw [e1, e2]
      · rw [e1, blkl] at hr; rw [blk' r' e2] at hr'
        exact (hnew b hr r' e2 hr').elim
    · by_cases e2 : r' = .hs l
      · rw [e2, blkl] at hr'; rw [blk' r e1] at hr
        exact (hnew b hr' r e1 hr).elim
      · rw [blk' r e1] at hr; rw [blk' r' e2] at hr'; exact h.inj r r' b hr hr'
  · rintro b ⟨r, hr⟩
    by_cases e1 : r = .hs l
    · rw [e1, blkl] at hr
      rcases hn b hr with h1 | h1
      · exact .inl ⟨.hs l, hbl b h1⟩
      · exact .inr h1
    · rw [blk' r e1] at hr; exact .inl ⟨r, hr⟩
theorem Dv.setNote (h : Dv w Y D) (id : Nat) (hid : id < 8) (m : Int → Option Nat) {es : Array MapEntry} {c : Nat} (hm : MapI w' (Y.nb id) es c (fun i => (m i).map u64)) (hf : Frm (fun b => b = Y.nb id) w w') :
    Stp w Y w' Y { D with notes := fun j => if j = id then m else D.notes j } := by
  have hb : Y.blk (.nt id) = some (Y.nb id) := by simp [Lay.blk, hid]
  have ne : ∀ r b, Y.blk r = some b → r ≠ .nt id → b ≠ Y.nb id := fun r b hr hn e => hn (h.inj r (.nt id) b hr (by rw [e]; exact hb))
  refine ⟨⟨h.yn, h.dev.frm hf (ne .dev _ rfl (by simp)), h.pe.frm hf (ne .pe _ rfl (by simp)), h.cu.frm hf (ne .cu _ rfl (by simp)), h.li.frm hf (ne .li _ rfl (by simp)), ?_, ?_, ?_, h.inj⟩, rfl, hf.mono (fun b hb' => ⟨.nt id, by rw [hb']; exact hb⟩), fun b hb => .inl hb⟩
  · exact fun l hl => (h.hs l hl).frm hf (fun b hb => ne (.hs l) b (by simp only [Lay.blk]; rw [if_pos (by have := h.yn; have : l < D.n := hl; omega)]; exact hb) (by simp))
  · exact fun j hj => (h.th j hj).frm hf (ne (.th j) _ (by simp [Lay.blk, hj]) (by simp))
  · intro j hj
    by_cases e : j = id
    · subst e
      have e : ntF { D with notes := fun q => if q = j then m else D.notes q } j = fun i => (m i).map u64 := by funext q; simp [ntF]
      rw [e]; exact ⟨es, c, hm⟩
    · obtain ⟨es', c', hm'⟩ := h.nt j hj
      have : ntF { D with notes := fun j => if j = id then m else D.notes j } j = ntF D j := by funext q; simp [ntF, e]
      rw [this]
      exact ⟨es', c', hm'.of_heap (hf.block _ hm'.lt (ne (.nt j) _ (by simp [Lay.blk, hj]) (by simpa using e)))⟩
end
end Go.Proofs.YtaeopkhdokaaoaaGreatDoor
namespace Go.Proofs.YtaeopkhdokaaoaaGreatDoor
open Go Go.Sh
set_option maxRecDepth 100000
set_option maxHeartbeats 4000000
set_option linter.unusedSimpArgs false
set_option linter.unusedVariables false
def ptr0 (b : Nat) : Value := .pointer (some ⟨b, 0, none⟩)
section
variable {w w' : World} {Y : Lay} {D D' : DS}
theorem Dv.c_tdev (h : Dv w Y D) (id : Nat) (hi : id < 8) : w.cell? ⟨Y.tb id, 0, none⟩ = some (.pointer (some ⟨Y.d, 0, none⟩)) := (h.th id hi).cell (by omega)
theorem Dv.c_tid (h : Dv w Y D) (id : Nat) (hi : id < 8) : w.cell? ⟨Y.tb id, 1, none⟩ = some (.int .i64 (id : Int)) := (h.th id hi).cell (by omega)
theorem Dv.c_err (h : Dv w Y D) (id : Nat) (hi : id < 8) : w.cell? ⟨Y.tb id, 2, none⟩ = some (.int .i64 (D.err id)) := (h.th id hi).cell (by omega)
theorem Dv.c_nb (h : Dv w Y D) (id : Nat) (hi : id < 8) : w.cell? ⟨Y.tb id, 3, none⟩ = some (.map (some (Y.nb id))) := (h.th id hi).cell (by omega)
theorem Dv.z_t (h : Dv w Y D) (id i : Nat) (hi : id < 8) : w.frozen? ⟨Y.tb id, i, none⟩ = false := (h.th id hi).frz i
theorem Dv.c_pe (h : Dv w Y D) : w.cell? ⟨Y.d, 0, none⟩ = some (.slice (some ⟨Y.pb, 0, none⟩) (8 * D.n) Y.pc) := h.dev.cell (by omega)
theorem Dv.c_cu (h : Dv w Y D) : w.cell? ⟨Y.d, 1, none⟩ = some (.slice (some ⟨Y.cb, 0, none⟩) (8 * D.n) Y.cc) := h.dev.cell (by omega)
theorem Dv.c_li (h : Dv w Y D) : w.cell? ⟨Y.d, 2, none⟩ = some (.slice (some ⟨Y.lb, 0, none⟩) D.n D.n) := h.dev.cell (by omega)
theorem Dv.c_th (h : Dv w Y D) (i : Nat) (h1 : 3 ≤ i) (h2 : i < 11) : w.cell? ⟨Y.d, i, none⟩ = some (.pointer (some ⟨Y.tb (i - 3), 0, none⟩)) := by
  rw [h.dev.cell (by omega)]; unfold devF; rw [if_neg (by omega), if_neg (by omega), if_neg (by omega), if_pos h2]
theorem Dv.c_off (h : Dv w Y D) : w.cell? ⟨Y.d, 11, none⟩ = some (.bool D.off) := h.dev.cell (by omega)
theorem Dv.c_arm (h : Dv w Y D) : w.cell? ⟨Y.d, 12, none⟩ = some (.bool D.armed) := h.dev.cell (by omega)
theorem Dv.c_left (h : Dv w Y D) : w.cell? ⟨Y.d, 13, none⟩ = some (.int .i64 D.left) := h.dev.cell (by omega)
theorem Dv.c_exe (h : Dv w Y D) : w.cell? ⟨Y.d, 14, none⟩ = some (.int .u64 (D.exe : Int)) := h.dev.cell (by omega)
theorem Dv.z_d (h : Dv w Y D) (i : Nat) : w.frozen? ⟨Y.d, i, none⟩ = false := h.dev.frz i
theorem Dv.c_cur (h : Dv w Y D) (i : Nat) (hi : i < 8 * D.n) : w.cell? ⟨Y.cb, i, none⟩ = some (.int .u64 (D.cur i : Int)) := h.cu.cell hi
theorem Dv.z_c (h : Dv w Y D) (i : Nat) : w.frozen? ⟨Y.cb, i, none⟩ = false := h.cu.frz i
theorem Dv.c_pers (h : Dv w Y D) (i : Nat) (hi : i < 8 * D.n) : w.cell? ⟨Y.pb, i, none⟩ = some (.int .u64 (D.pers i : Int)) := h.pe.cell hi
theorem Dv.z_p (h : Dv w Y D) (i : Nat) : w.frozen? ⟨Y.pb, i, none⟩ = false := h.pe.frz i
theorem Dv.c_done (h : Dv w Y D) (l : Nat) (hl : l < D.n) : w.cell? ⟨Y.lb, l * 2, none⟩ = some (.int .u64 (D.done l : Int)) := by
  rw [h.li.cell (by omega)]; unfold linF; rw [if_pos (by omega), show l * 2 / 2 = l by omega]
theorem Dv.c_hist (h : Dv w Y D) (l : Nat) (hl : l < D.n) : w.cell? ⟨Y.lb, l * 2 + 1, none⟩ = some (Y.hv l) := by
  rw [h.li.cell (by omega)]; unfold linF; rw [if_neg (by omega), show (l * 2 + 1) / 2 = l by omega]
theorem Dv.z_l (h : Dv w Y D) (i : Nat) : w.frozen? ⟨Y.lb, i, none⟩ = false := h.li.frz i
set_option linter.defProp false in
def Dv.R (h : Dv w Y D) := And.intro h.c_tdev <| And.intro h.c_err <| And.intro h.c_nb <| And.intro h.z_t <| And.intro h.c_pe <| And.intro h.c_cu <| And.intro h.c_li <| And.intro h.c_th <| And.intro h.c_off <| And.intro h.c_arm <| And.intro h.c_left <| And.intro h.c_exe <| And.intro h.z_d <| And.intro h.c_cur <| And.intro h.z_c <| And.intro h.c_pers <| And.intro h.z_p <| And.intro h.c_done <| And.intro h.c_hist h.z_l
end
def DS.fail (D : DS) (id : Nat) (e : Int) : DS := if D.err id = 0 then { D with err := fun j => if j = id then e else D.err j } else D
theorem k_fail {w : World} {Y : Lay} {D : DS} (h : Dv w Y D) (id : Nat) (hid : id < 8) (e : Int) (K : K1) (hK : ∀ w', Stp w Y w' Y (D.fail id e) → K (.tuple #[]) w') : callS Tryz.prog 111 #[.pointer (some ⟨Y.tb id, 0, none⟩), .int .i64 e] w K := by
  refine f111_call _ _ _ _ ?_
  unfold f111_t
  (repeat' (first | (with_reducible refine brS_mk (fun _ => ?_) (fun _ => ?_)) | (with_reducible refine And.intro ?_ ?_) | (simp (disch := first | omega | simp only [RO] | (simp only [RZ] <;> omega) | fail) only [↓RBp, ↓RA, ↓reduceIte, Nat.reduceAdd, Nat.reduceMul, Nat.reduceEqDiff, RB, RBr, RW, RS, RA2, h.R])))
  · rename_i h0
    refine hK _ ?_
    unfold DS.fail; rw [if_pos h0]; exact h.setErr id hid e
  · rename_i h0
    refine hK _ ?_
    unfold DS.fail; rw [if_neg h0]; exact Stp.refl h
def DS.on (D : DS) (id : Nat) (v : Bool) : DS := if D.off = true then D.fail id 3 else if v = true then D else D.fail id 2
theorem k_on {w : World} {Y : Lay} {D : DS} (h : Dv w Y D) (id : Nat) (hid : id < 8) (v : Bool) (K : K1) (hK : ∀ w', Stp w Y w' Y (D.on id v) → K (.bool (!D.off && v)) w') : callS Tryz.prog 94 #[.pointer (some ⟨Y.tb id, 0, none⟩), .bool v] w K := by
  refine f94_call _ _ _ _ ?_
  unfold f94_t
  unfold DS.on at hK
  (repeat' (first | (with_reducible refine brS_mk (fun _ => ?_) (fun _ => ?_)) | (with_reducible refine And.intro ?_ ?_) | (simp (disch := first | omega | simp only [RO] | (simp only [RZ] <;> omega) | fail) only [↓RBp, ↓RA, ↓reduceIte, Nat.reduceAdd, Nat.reduceMul, Nat.reduceEqDiff, RB, RBr, RW, RS, RA2, h.R])))
  · rename_i h0
    refine k_fail h id hid 3 _ (fun w' hs => ?_)
    simp (disch := first | omega | simp only [RO] | (simp only [RZ] <;> omega) | fail) only [↓RBp, ↓RA, ↓reduceIte, Nat.reduceAdd, Nat.reduceMul, Nat.reduceEqDiff, RB, RBr, RW, RS, RA2, f94_k1_eq, f94_k1_t]
    simpa [h0] using hK w' (by simpa [h0] using hs)
  · rename_i h0 h1
    simpa [h0, h1] using hK w (by simpa [h0, h1] using Stp.refl h)
  · rename_i h0 h1
    refine k_fail h id hid 2 _ (fun w' hs => ?_)
    simp (disch := first | omega | simp only [RO] | (simp only [RZ] <;> omega) | fail) only [↓RBp, ↓RA, ↓reduceIte, Nat.reduceAdd, Nat.reduceMul, Nat.reduceEqDiff, RB, RBr, RW, RS, RA2, f94_k1_eq, f94_k1_t]
    simpa [h0, h1] using hK w' (by simpa [h0, h1] using hs)
def DS.counted (D : DS) (id : Nat) (v : Bool) : DS :=
  if D.off = true then D.fail id 3 else if v = false then D.fail id 2 else
  if D.armed = true then if D.left = 0 then ({ D with off := true } : DS).fail id 3 else { D with left := D.left - 1, exe := D.exe + 1 } else { D with exe := D.exe + 1 }
def DS.runs (D : DS) (v : Bool) : Bool := !D.off && v && !(D.armed && decide (D.left = 0))
theorem devF_off (Y : Lay) (D : DS) (b : Bool) (j : Nat) : devF Y { D with off := b } j = if j = 11 then .bool b else devF Y D j := by
  unfold devF
  by_cases h : j = 11
  · subst h; simp
  · simp [h]
theorem devF_left (Y : Lay) (D : DS) (x : Int) (j : Nat) : devF Y { D with left := x } j = if j = 13 then .int .i64 x else devF Y D j := by
  unfold devF
  by_cases h : j = 13
  · subst h; simp
  · simp [h]
theorem devF_exe (Y : Lay) (D : DS) (x : Nat) (j : Nat) (hj : j < 15) : devF Y { D with exe := x } j = if j = 14 then .int .u64 (x : Int) else devF Y D j := by
  unfold devF
  by_cases h : j = 14
  · subst h; simp [u64]
  · rw [if_neg h]; simp; repeat (first | rfl | split | omega)
theorem Dv.setOff {w : World} {Y : Lay} {D : DS} (h : Dv w Y D) (b : Bool) : Stp w Y (w.setCell ⟨Y.d, 11, none⟩ (.bool b)) Y { D with off := b } := h.setDev 11 _ (by omega) (fun j hj => devF_off Y D b j) ⟨rfl, rfl, rfl, rfl, rfl, rfl, rfl⟩
theorem Dv.setLeft {w : World} {Y : Lay} {D : DS} (h : Dv w Y D) (x : Int) : Stp w Y (w.setCell ⟨Y.d, 13, none⟩ (.int .i64 x)) Y { D with left := x } := h.setDev 13 _ (by omega) (fun j hj => devF_left Y D x j) ⟨rfl, rfl, rfl, rfl, rfl, rfl, rfl⟩
theorem Dv.setExe {w : World} {Y : Lay} {D : DS} (h : Dv w Y D) (x : Nat) : Stp w Y (w.setCell ⟨Y.d, 14, none⟩ (.int .u64 (x : Int))) Y { D with exe := x } := h.setDev 14 _ (by omega) (fun j hj => devF_exe Y D x j hj) ⟨rfl, rfl, rfl, rfl, rfl, rfl, rfl⟩
theorem k_counted {w : World} {Y : Lay} {D : DS} (h : Dv w Y D) (id : Nat) (hid : id < 8) (v : Bool) (hx : D.exe < 1099511627776) (hl : 0 ≤ D.left) (hl' : D.left < 9223372036854775808) (K : K1) (hK : ∀ w', Stp w Y w' Y (D.counted id v) → K (.bool (D.runs v)) w') : callS Tryz.prog 82 #[.pointer (some ⟨Y.tb id, 0, none⟩), .bool v] w K := by
  refine f82_call _ _ _ _ ?_
  unfold f82_t
  unfold DS.counted DS.runs at hK
  simp (disch := first | omega | simp only [RO] | (simp only [RZ] <;> omega) | fail) only [↓RBp, ↓RA, ↓reduceIte, Nat.reduceAdd, Nat.reduceMul, Nat.reduceEqDiff, RB, RBr, RW, RS, RA2]
  refine k_on h id hid v _ (fun w1 h1 => ?_)
  by_cases ho : D.off = true
  · simp (disch := first | omega | simp only [RO] | (simp only [RZ] <;> omega) | fail) only [↓RBp, ↓RA, ↓reduceIte, Nat.reduceAdd, Nat.reduceMul, Nat.reduceEqDiff, RB, RBr, RW, RS, RA2, ho]
    simp only [DS.on, ho, if_true] at h1
    simpa [ho] using hK w1 (by simpa [ho] using h1)
  · by_cases hv : v = true
    · have e : D.on id v = D := by simp [DS.on, ho, hv]
      rw [e] at h1
      have ho' : D.off = false := by simpa using ho
      subst hv
      (repeat' (first | (with_reducible refine brS_mk (fun _ => ?_) (fun _ => ?_)) | (with_reducible refine And.intro ?_ ?_) | (simp (disch := first | omega | simp only [RO] | (simp only [RZ] <;> omega) | fail) only [↓RBp, ↓RA, ↓reduceIte, Nat.reduceAdd, Nat.reduceMul, Nat.reduceEqDiff, RB, RBr, RW, RS, RA2, ho', h1.dv.R, f82_k1_eq, f82_k1_t])))
      · rename_i ha hz
        have h2 := h1.trans (h1.dv.setOff true)
        refine k_fail h2.dv id hid 3 _ (fun w3 h3 => ?_)
        simpa [ho', ha, hz] using hK w3 (by simpa [ho', ha, hz] using h2.trans h3)
      · rename_i ha hz
        have h2 := h1.trans (h1.dv.setLeft (D.left - 1))
        simp (disch := first | omega | simp only [RO] | (simp only [RZ] <;> omega) | fail) only [↓RBp, ↓RA, ↓reduceIte, Nat.reduceAdd, Nat.reduceMul, Nat.reduceEqDiff, RB, RBr, RW, RS, RA2, h2.dv.R]
        simpa [ho', ha, hz] using hK _ (by simpa [ho', ha, hz] using h2.trans (h2.dv.setExe (D.exe + 1)))
      · rename_i ha
        simpa [ho', ha] using hK _ (by simpa [ho', ha] using h1.trans (h1.dv.setExe (D.exe + 1)))
    · have hv' : v = false := by simpa using hv
      subst hv'
      simp (disch := first | omega | simp only [RO] | (simp only [RZ] <;> omega) | fail) only [↓RBp, ↓RA, ↓reduceIte, Nat.reduceAdd, Nat.reduceMul, Nat.reduceEqDiff, RB, RBr, RW, RS, RA2]
      have ho' : D.off = false := by simpa using ho
      have e : D.on id false = D.fail id 2 := by simp [DS.on, ho']
      rw [e] at h1
      simpa [ho'] using hK _ (by simpa [ho'] using h1)
end Go.Proofs.YtaeopkhdokaaoaaGreatDoor
