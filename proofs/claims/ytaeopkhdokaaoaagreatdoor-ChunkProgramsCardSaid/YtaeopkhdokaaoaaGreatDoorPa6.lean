/-
  ChunkPrograms: for every line and every header the law returns true, and its arguments read as before. Condition: the two listed package variables hold at the call's start what the program's text lays (the card ties them to that text).
-/
import Derived.Test.YtaeopkhdokaaoaaGreatDoorPa5
import Derived.Test.YtaeopkhdokaaoaaGreatDoorPa1
import Derived.Test.YtaeopkhdokaaoaaGreatDoorRows
import Derived.ProofKit
import Derived.LaidMore
import Derived.OpenShut
import Derived.Stop.Joined
import Derived.Lib.SmallJoins
import Derived.Test.YtaeopkhdokaaoaaGreatDoorCards
import Derived.Test.YtaeopkhdokaaoaaGreatDoorTie
namespace Go.Proofs.YtaeopkhdokaaoaaGreatDoor
open Go Go.Sh
set_option maxRecDepth 100000
set_option maxHeartbeats 4000000
set_option linter.unusedSimpArgs false
set_option linter.unusedVariables false
@[irreducible] def tkOk (D : DS) (l : Nat) (c : Int) (i : Nat) : Bool := isS (wd D l (offN c i)) && (!bitB (wd D l 1) i && (decide (bS (wd D l (offN c i)) = 176) && goodB (bG (wd D l (offN c i))) (bK (wd D l (offN c i))) (bS (wd D l (offN c i)))))
@[irreducible] def dpOk (D : DS) (l : Nat) (c : Int) (i : Nat) : Bool := isS (wd D l (offN c i)) && (bitB (wd D l 1) i && decide (bS (wd D l (offN c i)) = 177))
def tkW (D : DS) (l : Nat) (c : Int) (i k : Nat) : Nat × Nat := (l * 64 + offN c i * 8, sealN (blkX (bG (wd D l (offN c i))) k 177))
def dpW (D : DS) (l : Nat) (c : Int) (i : Nat) : Nat × Nat := (l * 64 + offN c i * 8, sealN (blkX (freG (bG (wd D l (offN c i)))) 0 (freS (bG (wd D l (offN c i))))))
def dpB (D : DS) (l : Nat) (c : Int) (i b : Nat) : Nat := if freS (bG (wd D l (offN c i))) = 176 then b &&& (18446744073709551615 ^^^ 2 ^ i) else b
def chT (D : DS) (l : Nat) (c : Int) : List Int → List Nat → List (Nat × Nat) → Nat → Option (List (Nat × Nat) × Nat)
  | i :: r, k :: ks, acc, b => if tkOk D l c i.toNat = true then chT D l c r ks (acc ++ [tkW D l c i.toNat k]) (b ||| 2 ^ i.toNat) else none
  | _, _, acc, b => some (acc, b)
def chDr (D : DS) (l : Nat) (c : Int) : List Int → List (Nat × Nat) → Nat → Option (List (Nat × Nat) × Nat)
  | i :: r, acc, b => if dpOk D l c i.toNat = true then chDr D l c r (acc ++ [dpW D l c i.toNat]) (dpB D l c i.toNat b) else none
  | [], acc, b => some (acc, b)
def actN (D : DS) (l : Nat) (c : Int) (take : List Int) (kinds : List Nat) (drop : List Int) : Option (List (Nat × Nat)) :=
  if take.length = 0 ∧ drop.length = 0 then some [] else
  match chT D l c take kinds [] (wd D l 1) with
  | none => none
  | some (ws, b) => match chDr D l c drop ws b with
    | none => none
    | some (ws, b) => some (ws ++ [(l * 64 + 8, b)])
theorem chT_drop {D : DS} {l : Nat} {c : Int} {L : List Int} {ks : List Nat} {j b : Nat} {acc : List (Nat × Nat)} (h : j < L.length) (h2 : ks.length = L.length) : chT D l c (L.drop j) (ks.drop j) acc b = if tkOk D l c L[j].toNat = true then chT D l c (L.drop (j + 1)) (ks.drop (j + 1)) (acc ++ [tkW D l c L[j].toNat (ks[j]'(by omega))]) (b ||| 2 ^ L[j].toNat) else none := by
  rw [List.drop_eq_getElem_cons h, List.drop_eq_getElem_cons (show j < ks.length by omega)]; rfl
theorem chDr_drop {D : DS} {l : Nat} {c : Int} {L : List Int} {j b : Nat} {acc : List (Nat × Nat)} (h : j < L.length) : chDr D l c (L.drop j) acc b = if dpOk D l c L[j].toNat = true then chDr D l c (L.drop (j + 1)) (acc ++ [dpW D l c L[j].toNat]) (dpB D l c L[j].toNat b) else none := by
  rw [List.drop_eq_getElem_cons h]; rfl
theorem bG_lt (x : Nat) : bG x < 65536 := by unfold bG gX; split <;> omega
theorem bK_lt (x : Nat) : bK x < 256 := by unfold bK kX; split <;> omega
theorem bS_lt (x : Nat) : bS x < 256 := by unfold bS sX; split <;> omega
theorem freG_lt {g : Nat} (h : g < 65536) : freG g < 65536 := by unfold freG; split <;> omega
theorem freS_lt (g : Nat) : freS g < 256 := by unfold freS; split <;> omega
section
variable {w w' : World} {Y : Lay} {D : DS} {l : Nat} {c o : Int} {g : Nat}
theorem k_changes (h : Cx w Y D l c) (o : Int) (g : Nat) (L M : List Int) (ks : List Nat) (v kv u : Value) {m : Nat} (hL : RdS m w v (i64L L)) (hk : RdS m w kv (u8L ks)) (hM : RdS m w u (i64L M)) (lL : L.length < 1073741824) (lM : M.length < 1073741824) (lk : ks.length = L.length) (hks : ∀ k ∈ ks, k < 256) (vL : ∀ i ∈ L, 0 ≤ i ∧ i < perS c) (vM : ∀ i ∈ M, 0 ≤ i ∧ i < perS c) (K : K1)
    (hno : actN D l c L ks M = none → ∀ w', Ext w w' → K (.tuple #[.slice none 0 0, .bool false]) w')
    (hyes : ∀ ws, actN D l c L ks M = some ws → ∀ v' w', Ext w w' → NewV w.heap.size v' → SlO w' 37 2 v' ws.length (wrL ws) → K (.tuple #[v', .bool true]) w') : callS Tryz.prog 87 #[chV Y l c o g, v, kv, u] w K := by
  have hp := perS_in h.c0 h.c5
  have hbt := h.bits o g
  have hy := h.wd_lt 1 (by omega)
  have hat := h.at_ o g
  have hbw : ∀ (w1 : World) (a b d : Nat) (K : K1), Ext w w1 → a < 65536 → b < 256 → d < 256 → callS Tryz.prog 72 #[.agg #[.int .u16 (a : Int), .int .u8 (b : Int), .int .u8 (d : Int)]] w1 K = K (.int .u64 ((sealN (blkX a b d) : Nat) : Int)) ((w1.alloc (blkO a b d)).alloc (sealO (blkX a b d))) := fun w1 a b d K he ha hb hd => c_bword a b d w1 K (h.gl.ext he) ha hb hd
  have l1 : (i64L L).length = L.length := by simp
  have l2 : (i64L M).length = M.length := by simp
  have l3 : (u8L ks).length = L.length := by simp [lk]
  obtain ⟨la, lc, rfl, _⟩ := id hL
  obtain ⟨ma, mc, rfl, _⟩ := id hM
  rw [l1] at hL ⊢
  rw [l2] at hM ⊢
  refine f87_call _ _ _ _ _ _ ?_
  unfold f87_t
  have e0 : Ext w (w.alloc (chO Y l c o g)) := Ext.alloc_self _ _
  have s0 : w.heap.size ≤ (w.alloc (chO Y l c o g)).heap.size := by simp only [RZ]; omega
  have main : L.length + M.length ≠ 0 → ∀ w1, Ext (w.alloc (chO Y l c o g)) w1 → f87_l1 K kv (.slice ma M.length mc) (.pointer (some ⟨w.heap.size, 0, none⟩)) (.slice none 0 0) (.int .u64 (wd D l 1 : Int)) (.slice la L.length lc) (.int .i64 (L.length : Int)) (.int .i64 0) w1 := by
    intro hne w1 he1
    have hact : actN D l c L ks M = match chT D l c L ks [] (wd D l 1) with
      | none => none
      | some (ws, b) => match chDr D l c M ws b with
        | none => none
        | some (ws, b) => some (ws ++ [(l * 64 + 8, b)]) := by unfold actN; rw [if_neg (by omega)]
    apply f87_l1_rule (I := fun x y z w' => ∃ (j b : Nat) (acc : List (Nat × Nat)), z = .int .i64 (j : Int) ∧ y = .int .u64 (b : Int) ∧ b < 18446744073709551616 ∧ j ≤ L.length ∧ acc.length = j ∧ SlO w' 37 2 x acc.length (wrL acc) ∧ Frm Nob (w.alloc (chO Y l c o g)) w' ∧ NewV (w.alloc (chO Y l c o g)).heap.size x ∧ chT D l c (L.drop j) (ks.drop j) acc b = chT D l c L ks [] (wd D l 1)) (μ := fun _ _ z _ => L.length - (Go.RowKit.intOf z).toNat)
    · exact ⟨0, wd D l 1, [], rfl, rfl, hy, by omega, rfl, SlO.nil _ _ _, Frm.of_ext he1, (fun b hb => by cases hb), rfl⟩
    · intros; rename_i w2 hI E1 hE
      obtain ⟨j, b, acc, rfl, rfl, hb, hj, ha, sp, f2, n2, hch⟩ := hI
      have he2 : Ext (w.alloc (chO Y l c o g)) w2 := f2.to_ext (fun _ _ h => h)
      have e2 : Ext w w2 := e0.trans he2
      obtain ⟨c0, c1, c2, c3, c4⟩ := chCells he2
      obtain ⟨pa, pc, rfl, hpc⟩ := sp.isS'
      by_cases hjl : j < L.length
      · obtain ⟨sb, so, sc, ev1, hc⟩ := (hL.ext e2).get (i64L_get hjl)
        injection ev1 with ev1 _ ev2; subst ev1; subst ev2
        have hv := vL L[j] (List.getElem_mem hjl)
        have hkm := hks (ks[j]'(by omega)) (List.getElem_mem _)
        have hku := (hk.ext e2).get (u8L_get (l := ks) (j := j) (by omega))
        rw [chT_drop hjl lk] at hch
        generalize L[j] = x at hch hc hv
        generalize ks[j]'(by omega) = kj at hch hkm hku
        obtain ⟨i, rfl⟩ : ∃ i : Nat, x = (i : Int) := ⟨x.toNat, by omega⟩
        rw [Int.toNat_natCast] at hch
        obtain ⟨kb, ko, kc, rfl, hkc⟩ := hku
        rw [l3]
        unfold f87_l1_t
        simp (disch := first | omega | simp only [RO] | (simp only [RZ] <;> omega) | fail) only [↓RBp, ↓RA, ↓reduceIte, Nat.reduceAdd, Nat.reduceMul, Nat.reduceEqDiff, RB, RBr, RW, RS, RA2, hc, c0, c1, c2, c3, c4]
        refine k_read (h.ext e2) o g i hv.2 _ (fun w3 he3 => ?_)
        have e3 : Ext w w3 := e2.trans he3
        have he13 := he2.trans he3
        have dd := chCells he13
        have d0 := dd.1
        have d1 := dd.2.1
        have d2 := dd.2.2.1
        have d3 := dd.2.2.2.1
        have d4 := dd.2.2.2.2
        have hkc3 := he3.cell_some hkc
        have ltk := lt_of_cell hkc3
        have lt3 : w.heap.size < w3.heap.size := lt_of_cell d0
        have b1 := bG_lt (wd D l (offN c i))
        have b2 := bK_lt (wd D l (offN c i))
        have bad : tkOk D l c i = false → ∀ w', Ext w w' → K (.tuple #[.slice none 0 0, .bool false]) w' := by
          intro hf
          rw [if_neg (by simp [hf])] at hch
          exact hno (by rw [hact, ← hch])
        by_cases t1 : isS (wd D l (offN c i)) = true
        · by_cases t2 : bitB (wd D l 1) i = true
          · simp (disch := first | omega | simp only [RO] | (simp only [RZ] <;> omega) | fail) only [↓RBp, ↓RA, ↓reduceIte, Nat.reduceAdd, Nat.reduceMul, Nat.reduceEqDiff, RB, RBr, RW, RS, RA2, t1, t2]
            exact bad (by simp [tkOk, t2]) _ (by repeat (first | with_reducible refine eB ?_ (by omega) _ | with_reducible refine eB ?_ (by simp only [RZ] <;> omega) _ | with_reducible assumption | exact eR _ | with_reducible refine eA ?_ _ | with_reducible refine eD ?_ | with_reducible refine eT ?_ (by assumption)))
          · have t2 : bitB (wd D l 1) i = false := by simpa using t2
            by_cases t3 : bS (wd D l (offN c i)) = 176
            · by_cases t4 : goodB (bG (wd D l (offN c i))) (bK (wd D l (offN c i))) 176 = true
              · have hok : tkOk D l c i = true := by simp [tkOk, t1, t2, t3, t4]
                rw [if_pos hok] at hch
                have hpw := pow_lt64 (show i < 64 by omega)
                have hs1 : 1 * 2 ^ i % 18446744073709551616 = 2 ^ i := by rw [Nat.one_mul]; exact Nat.mod_eq_of_lt hpw
                have hor := or_lt64 hb hpw
                (repeat' (first | (with_reducible refine brS_mk (fun _ => ?_) (fun _ => ?_)) | (with_reducible refine And.intro ?_ ?_) | (simp (disch := first | omega | simp only [RO] | (simp only [RZ] <;> omega) | (with_reducible (repeat (first | assumption | exact Ext.refl _ | refine Ext.alloc ?_ _ | refine Ext.drew ?_ | refine Ext.trans ?_ (by assumption)))) | fail) only [↓RBp, ↓RA, ↓reduceIte, Nat.reduceAdd, Nat.reduceMul, Nat.reduceEqDiff, RB, RBr, RW, RS, RA2, t1, t2, t3, c_good, t4, hkc3, d0, d1, d2, d3, d4, hat, hbw])))
                refine app_new elWrite (w0 := w.alloc (chO Y l c o g)) ((sp.ext he3).ext (by repeat (first | with_reducible refine eB ?_ (by omega) _ | with_reducible refine eB ?_ (by simp only [RZ] <;> omega) _ | with_reducible assumption | exact eR _ | with_reducible refine eA ?_ _ | with_reducible refine eD ?_ | with_reducible refine eT ?_ (by assumption)))) ((f2.ext he3).ext (by repeat (first | with_reducible refine eB ?_ (by omega) _ | with_reducible refine eB ?_ (by simp only [RZ] <;> omega) _ | with_reducible assumption | exact eR _ | with_reducible refine eA ?_ _ | with_reducible refine eD ?_ | with_reducible refine eT ?_ (by assumption)))) n2 (m := 1) (news := wrL [tkW D l c i kj]) (by simp [wrL, tkW]) ?_ rfl (by omega) (by omega) (by omega) (fun v' w4 hsp hf4 n4 _ _ => ?_)
                · intro q u hq
                  rw [Nat.zero_add, cell_drew, cell_new _ _ _ _ _ (by simp only [RZ])]
                  simpa [wrL, tkW, u64] using hq
                simp (disch := first | omega | simp only [RO] | (simp only [RZ] <;> omega) | fail) only [↓RBp, ↓RA, ↓reduceIte, Nat.reduceAdd, Nat.reduceMul, Nat.reduceEqDiff, RB, RBr, RW, RS, RA2, hs1]
                apply hE
                · refine ⟨j + 1, _, acc ++ [tkW D l c i kj], by simp, rfl, hor, by omega, by simp [ha], ?_, hf4, n4, hch⟩
                  rw [wrL_append, List.length_append]; exact hsp
                · simp [Go.RowKit.intOf]; omega
              · have t4 : goodB (bG (wd D l (offN c i))) (bK (wd D l (offN c i))) 176 = false := by simpa using t4
                simp (disch := first | omega | simp only [RO] | (simp only [RZ] <;> omega) | fail) only [↓RBp, ↓RA, ↓reduceIte, Nat.reduceAdd, Nat.reduceMul, Nat.reduceEqDiff, RB, RBr, RW, RS, RA2, t1, t2, t3, c_good, t4]
                exact bad (by simp [tkOk, t3, t4]) _ (by repeat (first | with_reducible refine eB ?_ (by omega) _ | with_reducible refine eB ?_ (by simp only [RZ] <;> omega) _ | with_reducible assumption | exact eR _ | with_reducible refine eA ?_ _ | with_reducible refine eD ?_ | with_reducible refine eT ?_ (by assumption)))
            · simp (disch := first | omega | simp only [RO] | (simp only [RZ] <;> omega) | fail) only [↓RBp, ↓RA, ↓reduceIte, Nat.reduceAdd, Nat.reduceMul, Nat.reduceEqDiff, RB, RBr, RW, RS, RA2, t1, t2, t3]
              exact bad (by simp [tkOk, t3]) _ (by repeat (first | with_reducible refine eB ?_ (by omega) _ | with_reducible refine eB ?_ (by simp only [RZ] <;> omega) _ | with_reducible assumption | exact eR _ | with_reducible refine eA ?_ _ | with_reducible refine eD ?_ | with_reducible refine eT ?_ (by assumption)))
        · have t1 : isS (wd D l (offN c i)) = false := by simpa using t1
          simp (disch := first | omega | simp only [RO] | (simp only [RZ] <;> omega) | fail) only [↓RBp, ↓RA, ↓reduceIte, Nat.reduceAdd, Nat.reduceMul, Nat.reduceEqDiff, RB, RBr, RW, RS, RA2, t1]
          exact bad (by simp [tkOk, t1]) _ (by repeat (first | with_reducible refine eB ?_ (by omega) _ | with_reducible refine eB ?_ (by simp only [RZ] <;> omega) _ | with_reducible assumption | exact eR _ | with_reducible refine eA ?_ _ | with_reducible refine eD ?_ | with_reducible refine eT ?_ (by assumption)))
      · have hjL : j = L.length := by omega
        subst hjL
        have hd1 : L.drop L.length = [] := List.drop_length
        rw [hd1] at hch
        have hch2 : chT D l c L ks [] (wd D l 1) = some (acc, b) := by rw [← hch]; simp [chT]
        rw [hch2] at hact
        simp only at hact
        unfold f87_l1_t
        simp (disch := first | omega | simp only [RO] | (simp only [RZ] <;> omega) | fail) only [↓RBp, ↓RA, ↓reduceIte, Nat.reduceAdd, Nat.reduceMul, Nat.reduceEqDiff, RB, RBr, RW, RS, RA2, f87_k1_eq, f87_k1_t]
        apply f87_l2_rule (I := fun x y z w' => ∃ (j b' : Nat) (acc' : List (Nat × Nat)), z = .int .i64 (j : Int) ∧ y = .int .u64 (b' : Int) ∧ b' < 18446744073709551616 ∧ j ≤ M.length ∧ acc'.length = L.length + j ∧ SlO w' 37 2 x acc'.length (wrL acc') ∧ Frm Nob (w.alloc (chO Y l c o g)) w' ∧ NewV (w.alloc (chO Y l c o g)).heap.size x ∧ chDr D l c (M.drop j) acc' b' = chDr D l c M acc b) (μ := fun _ _ z _ => M.length - (Go.RowKit.intOf z).toNat)
        · exact ⟨0, b, acc, rfl, rfl, hb, by omega, ha, sp, f2, n2, rfl⟩
        · intros; rename_i w3 hI3 E3 hE3
          obtain ⟨j, b', acc', rfl, rfl, hb', hj', ha', sp3, f3, n3, hch3⟩ := hI3
          have he3 : Ext (w.alloc (chO Y l c o g)) w3 := f3.to_ext (fun _ _ h => h)
          have e3 : Ext w w3 := e0.trans he3
          obtain ⟨c0, c1, c2, c3, c4⟩ := chCells he3
          obtain ⟨pa3, pc3, rfl, hpc3⟩ := sp3.isS'
          by_cases hjM : j < M.length
          · obtain ⟨sb, so, sc, ev1, hc⟩ := (hM.ext e3).get (i64L_get hjM)
            injection ev1 with ev1 _ ev2; subst ev1; subst ev2
            have hv := vM M[j] (List.getElem_mem hjM)
            rw [chDr_drop hjM] at hch3
            generalize M[j] = x at hch3 hc hv
            obtain ⟨i, rfl⟩ : ∃ i : Nat, x = (i : Int) := ⟨x.toNat, by omega⟩
            rw [Int.toNat_natCast] at hch3
            unfold f87_l2_t
            simp (disch := first | omega | simp only [RO] | (simp only [RZ] <;> omega) | fail) only [↓RBp, ↓RA, ↓reduceIte, Nat.reduceAdd, Nat.reduceMul, Nat.reduceEqDiff, RB, RBr, RW, RS, RA2, hc, c0, c1, c2, c3, c4]
            refine k_read (h.ext e3) o g i hv.2 _ (fun w4 he4 => ?_)
            have e4 : Ext w w4 := e3.trans he4
            have he14 := he3.trans he4
            have dd := chCells he14
            have d0 := dd.1
            have d1 := dd.2.1
            have d2 := dd.2.2.1
            have d3 := dd.2.2.2.1
            have d4 := dd.2.2.2.2
            have lt4 : w.heap.size < w4.heap.size := lt_of_cell d0
            have b1 := bG_lt (wd D l (offN c i))
            have b2 := freG_lt b1
            have b3 := freS_lt (bG (wd D l (offN c i)))
            have bad : dpOk D l c i = false → ∀ w', Ext w w' → K (.tuple #[.slice none 0 0, .bool false]) w' := by
              intro hf
              rw [if_neg (by simp [hf])] at hch3
              exact hno (by rw [hact, ← hch3])
            by_cases t1 : isS (wd D l (offN c i)) = true
            · by_cases t2 : bitB (wd D l 1) i = true
              · by_cases t3 : bS (wd D l (offN c i)) = 177
                · have hok : dpOk D l c i = true := by simp [dpOk, t1, t2, t3]
                  rw [if_pos hok] at hch3
                  have hpw := pow_lt64 (show i < 64 by omega)
                  have hs1 : 1 * 2 ^ i % 18446744073709551616 = 2 ^ i := by rw [Nat.one_mul]; exact Nat.mod_eq_of_lt hpw
                  have han : b' &&& (18446744073709551615 ^^^ 2 ^ i) < 18446744073709551616 := Nat.lt_of_le_of_lt Nat.and_le_left hb'
                  have rAN : ∀ (w : World) (k : K1), ev Tryz.prog (binM .andNot 33 (.tmp 120) (.tmp 123) (.int .u64 (b' : Int)) (.int .u64 ((2 ^ i : Nat) : Int))) w k = k (.int .u64 ((b' &&& (18446744073709551615 ^^^ 2 ^ i) : Nat) : Int)) w := fun w k => ev_of_run (run_andNot _ _ _ b' (2 ^ i) w hb' hpw) k
                  (repeat' (first | (with_reducible refine brS_mk (fun _ => ?_) (fun _ => ?_)) | (with_reducible refine And.intro ?_ ?_) | (simp (disch := first | omega | simp only [RO] | (simp only [RZ] <;> omega) | (with_reducible (repeat (first | assumption | exact Ext.refl _ | refine Ext.alloc ?_ _ | refine Ext.drew ?_ | refine Ext.trans ?_ (by assumption)))) | fail) only [↓RBp, ↓RA, ↓reduceIte, Nat.reduceAdd, Nat.reduceMul, Nat.reduceEqDiff, RB, RBr, RW, RS, RA2, t1, t2, t3, c_freed, d0, d1, d2, d3, d4, hat, hbw])))
                  refine app_new elWrite (w0 := w.alloc (chO Y l c o g)) ((sp3.ext he4).ext (by repeat (first | with_reducible refine eB ?_ (by omega) _ | with_reducible refine eB ?_ (by simp only [RZ] <;> omega) _ | with_reducible assumption | exact eR _ | with_reducible refine eA ?_ _ | with_reducible refine eD ?_ | with_reducible refine eT ?_ (by assumption)))) ((f3.ext he4).ext (by repeat (first | with_reducible refine eB ?_ (by omega) _ | with_reducible refine eB ?_ (by simp only [RZ] <;> omega) _ | with_reducible assumption | exact eR _ | with_reducible refine eA ?_ _ | with_reducible refine eD ?_ | with_reducible refine eT ?_ (by assumption)))) n3 (m := 1) (news := wrL [dpW D l c i]) (by simp [wrL, dpW]) ?_ rfl (by omega) (by omega) (by omega) (fun v' w5 hsp hf5 n5 hfr5 _ => ?_)
                  · intro q u hq
                    rw [Nat.zero_add, cell_drew, cell_new _ _ _ _ _ (by simp only [RZ])]
                    simpa [wrL, dpW, u64] using hq
                  have ltq : ∀ q, (Value.slice pa3 acc'.length pc3).ownBlock = some q → q < w4.heap.size := fun q hq => (sp3.ext he4).lt hq
                  have cq : w5.cell? ⟨w4.heap.size, 2, none⟩ = some (.int .u8 ((freS (bG (wd D l (offN c i))) : Nat) : Int)) := by
                    rw [hfr5.cell w4.heap.size 2 (by simp only [RZ]; omega) (fun hq => by have := ltq _ hq; omega)]
                    simp (disch := first | omega | simp only [RO] | (simp only [RZ] <;> omega) | fail) only [↓RBp, ↓RA, ↓reduceIte, Nat.reduceAdd, Nat.reduceMul, Nat.reduceEqDiff, RB, RBr, RW, RS, RA2]
                  by_cases hfs : freS (bG (wd D l (offN c i))) = 176
                  · have hdB : dpB D l c i b' = b' &&& (18446744073709551615 ^^^ 2 ^ i) := by unfold dpB; rw [if_pos hfs]
                    rw [hfs] at cq
                    simp (disch := first | omega | simp only [RO] | (simp only [RZ] <;> omega) | fail) only [↓RBp, ↓RA, ↓reduceIte, Nat.reduceAdd, Nat.reduceMul, Nat.reduceEqDiff, RB, RBr, RW, RS, RA2, cq, hs1, rAN, f87_k3_eq, f87_k3_t]
                    apply hE3
                    · refine ⟨j + 1, _, acc' ++ [dpW D l c i], by simp, rfl, han, by omega, by simp [ha']; omega, ?_, hf5, n5, by rw [← hdB]; exact hch3⟩
                      rw [wrL_append, List.length_append]; exact hsp
                    · simp [Go.RowKit.intOf]; omega
                  · have hdB : dpB D l c i b' = b' := by unfold dpB; rw [if_neg hfs]
                    rw [hdB] at hch3
                    simp (disch := first | omega | simp only [RO] | (simp only [RZ] <;> omega) | fail) only [↓RBp, ↓RA, ↓reduceIte, Nat.reduceAdd, Nat.reduceMul, Nat.reduceEqDiff, RB, RBr, RW, RS, RA2, cq, hfs, f87_k3_eq, f87_k3_t]
                    apply hE3
                    · refine ⟨j + 1, _, acc' ++ [dpW D l c i], by simp, rfl, hb', by omega, by simp [ha']; omega, ?_, hf5, n5, hch3⟩
                      rw [wrL_append, List.length_append]; exact hsp
                    · simp [Go.RowKit.intOf]; omega
                · simp (disch := first | omega | simp only [RO] | (simp only [RZ] <;> omega) | fail) only [↓RBp, ↓RA, ↓reduceIte, Nat.reduceAdd, Nat.reduceMul, Nat.reduceEqDiff, RB, RBr, RW, RS, RA2, t1, t2, t3]
                  exact bad (by simp [dpOk, t3]) _ (by repeat (first | with_reducible refine eB ?_ (by omega) _ | with_reducible refine eB ?_ (by simp only [RZ] <;> omega) _ | with_reducible assumption | exact eR _ | with_reducible refine eA ?_ _ | with_reducible refine eD ?_ | with_reducible refine eT ?_ (by assumption)))
              · have t2 : bitB (wd D l 1) i = false := by simpa using t2
                simp (disch := first | omega | simp only [RO] | (simp only [RZ] <;> omega) | fail) only [↓RBp, ↓RA, ↓reduceIte, Nat.reduceAdd, Nat.reduceMul, Nat.reduceEqDiff, RB, RBr, RW, RS, RA2, t1, t2]
                exact bad (by simp [dpOk, t2]) _ (by repeat (first | with_reducible refine eB ?_ (by omega) _ | with_reducible refine eB ?_ (by simp only [RZ] <;> omega) _ | with_reducible assumption | exact eR _ | with_reducible refine eA ?_ _ | with_reducible refine eD ?_ | with_reducible refine eT ?_ (by assumption)))
            · have t1 : isS (wd D l (offN c i)) = false := by simpa using t1
              simp (disch := first | omega | simp only [RO] | (simp only [RZ] <;> omega) | fail) only [↓RBp, ↓RA, ↓reduceIte, Nat.reduceAdd, Nat.reduceMul, Nat.reduceEqDiff, RB, RBr, RW, RS, RA2, t1]
              exact bad (by simp [dpOk, t1]) _ (by repeat (first | with_reducible refine eB ?_ (by omega) _ | with_reducible refine eB ?_ (by simp only [RZ] <;> omega) _ | with_reducible assumption | exact eR _ | with_reducible refine eA ?_ _ | with_reducible refine eD ?_ | with_reducible refine eT ?_ (by assumption)))
          · have hjM' : j = M.length := by omega
            subst hjM'
            rw [List.drop_length] at hch3
            have hch4 : chDr D l c M acc b = some (acc', b') := by rw [← hch3]; simp [chDr]
            rw [hch4] at hact
            simp only at hact
            have lt3 : w.heap.size < w3.heap.size := lt_of_cell c0
            have hl' := h.hl; have hn' := h.n
            unfold f87_l2_t
            simp (disch := first | omega | simp only [RO] | (simp only [RZ] <;> omega) | (with_reducible (repeat (first | assumption | exact Ext.refl _ | refine Ext.alloc ?_ _ | refine Ext.drew ?_ | refine Ext.trans ?_ (by assumption)))) | fail) only [↓RBp, ↓RA, ↓reduceIte, Nat.reduceAdd, Nat.reduceMul, Nat.reduceEqDiff, RB, RBr, RW, RS, RA2, c0, c1, c2, c3, c4, c_line, Int.toNat_natCast, f87_k2_eq, f87_k2_t]
            refine app_new elWrite (w0 := w.alloc (chO Y l c o g)) (sp3.ext (by repeat (first | with_reducible refine eB ?_ (by omega) _ | with_reducible refine eB ?_ (by simp only [RZ] <;> omega) _ | with_reducible assumption | exact eR _ | with_reducible refine eA ?_ _ | with_reducible refine eD ?_ | with_reducible refine eT ?_ (by assumption)))) (f3.ext (by repeat (first | with_reducible refine eB ?_ (by omega) _ | with_reducible refine eB ?_ (by simp only [RZ] <;> omega) _ | with_reducible assumption | exact eR _ | with_reducible refine eA ?_ _ | with_reducible refine eD ?_ | with_reducible refine eT ?_ (by assumption)))) n3 (m := 1) (news := wrL [(l * 64 + 8, b')]) (by simp [wrL]) ?_ rfl (by omega) (by omega) (by omega) (fun v' w5 hsp hf5 n5 hfr5 _ => ?_)
            · intro q u hq
              rw [Nat.zero_add, cell_new _ _ _ _ _ (by simp only [RZ])]
              simpa [wrL, u64] using hq
            try simp (disch := first | omega | simp only [RO] | (simp only [RZ] <;> omega) | fail) only [↓RBp, ↓RA, ↓reduceIte, Nat.reduceAdd, Nat.reduceMul, Nat.reduceEqDiff, RB, RBr, RW, RS, RA2]
            refine hyes _ hact v' w5 (e0.trans (hf5.to_ext (fun _ _ h => h))) (fun q hq => Nat.le_trans s0 (n5 q hq)) ?_
            rw [wrL_append, List.length_append]; exact hsp
  by_cases hL0 : L.length = 0
  · by_cases hM0 : M.length = 0
    · simp (disch := first | omega | simp only [RO] | (simp only [RZ] <;> omega) | fail) only [↓RBp, ↓RA, ↓reduceIte, Nat.reduceAdd, Nat.reduceMul, Nat.reduceEqDiff, RB, RBr, RW, RS, RA2, hL0, hM0]
      exact hyes [] (by unfold actN; rw [if_pos ⟨hL0, hM0⟩]) _ _ (by repeat (first | with_reducible refine eB ?_ (by omega) _ | with_reducible refine eB ?_ (by simp only [RZ] <;> omega) _ | with_reducible assumption | exact eR _ | with_reducible refine eA ?_ _ | with_reducible refine eD ?_ | with_reducible refine eT ?_ (by assumption))) (fun b hb => by cases hb) (SlO.nil _ _ _)
    · have hz : ((L.length : Nat) : Int) = 0 := by omega
      have hnz : ¬ ((M.length : Nat) : Int) = 0 := by omega
      simp (disch := first | omega | simp only [RO] | (simp only [RZ] <;> omega) | (with_reducible (repeat (first | assumption | exact Ext.refl _ | refine Ext.alloc ?_ _ | refine Ext.drew ?_ | refine Ext.trans ?_ (by assumption)))) | fail) only [↓RBp, ↓RA, ↓reduceIte, Nat.reduceAdd, Nat.reduceMul, Nat.reduceEqDiff, RB, RBr, RW, RS, RA2, dec_true hz, dec_false hnz, hbt]
      exact main (by omega) _ (by repeat (first | with_reducible refine eB ?_ (by omega) _ | with_reducible refine eB ?_ (by simp only [RZ] <;> omega) _ | with_reducible assumption | exact eR _ | with_reducible refine eA ?_ _ | with_reducible refine eD ?_ | with_reducible refine eT ?_ (by assumption)))
  · have hnz : ¬ ((L.length : Nat) : Int) = 0 := by omega
    simp (disch := first | omega | simp only [RO] | (simp only [RZ] <;> omega) | (with_reducible (repeat (first | assumption | exact Ext.refl _ | refine Ext.alloc ?_ _ | refine Ext.drew ?_ | refine Ext.trans ?_ (by assumption)))) | fail) only [↓RBp, ↓RA, ↓reduceIte, Nat.reduceAdd, Nat.reduceMul, Nat.reduceEqDiff, RB, RBr, RW, RS, RA2, dec_false hnz, hbt]
    exact main (by omega) _ (by repeat (first | with_reducible refine eB ?_ (by omega) _ | with_reducible refine eB ?_ (by simp only [RZ] <;> omega) _ | with_reducible assumption | exact eR _ | with_reducible refine eA ?_ _ | with_reducible refine eD ?_ | with_reducible refine eT ?_ (by assumption)))
end
end Go.Proofs.YtaeopkhdokaaoaaGreatDoor
namespace Go.Proofs.YtaeopkhdokaaoaaGreatDoor
open Go Go.Sh
set_option maxRecDepth 100000
set_option linter.unusedSimpArgs false
set_option linter.unusedVariables false
structure On (D : DS) : Prop where
  off : D.off = false
  arm : D.armed = false
  err : D.err 0 = 0
section
variable {D : DS}
theorem On.runs (h : On D) : D.runs true = true := by simp [DS.runs, h.off, h.arm]
theorem On.counted (h : On D) : D.counted 0 true = { D with exe := D.exe + 1 } := by
  rw [DS.counted_run h.runs, if_neg (by simp [h.arm])]
theorem On.store (h : On D) (off v : Nat) (hv : vOff D off = true) : D.store 0 off v = ({ D with exe := D.exe + 1 } : DS).write off v := by
  unfold DS.store; rw [hv, if_pos h.runs, h.counted]
theorem On.storeOn (h : On D) (off v : Nat) (hv : vOff D off = true) : On (D.store 0 off v) := by
  rw [h.store off v hv]; exact ⟨h.off, h.arm, h.err⟩
theorem On.storeCur (h : On D) (off v : Nat) (hv : vOff D off = true) : (D.store 0 off v).cur = fun j => if j = off / 8 then v else D.cur j := by
  rw [h.store off v hv]; rfl
theorem On.flush (h : On D) (off : Nat) (hv : fOff D off = true) : D.flush 0 off = ({ D with exe := D.exe + 1 } : DS).note 0 ((off / 64 : Nat) : Int) (D.done (off / 64) + (D.hist (off / 64)).length) := by
  unfold DS.flush; rw [hv, if_pos h.runs, h.counted]
theorem On.flushOn (h : On D) (off : Nat) (hv : fOff D off = true) : On (D.flush 0 off) := by
  rw [h.flush off hv]; exact ⟨h.off, h.arm, h.err⟩
theorem On.flushCur (h : On D) (off : Nat) (hv : fOff D off = true) : (D.flush 0 off).cur = D.cur := by
  rw [h.flush off hv]; rfl
theorem On.fence (h : On D) : D.fence 0 = (({ D with exe := D.exe + 1 } : DS).parts (D.due 0)).clr 0 := by
  unfold DS.fence; rw [if_pos h.runs, h.counted]
theorem On.fenceOn (h : On D) : On (D.fence 0) := by
  rw [h.fence]; exact ⟨h.off, h.arm, h.err⟩
theorem On.fenceCur (h : On D) : (D.fence 0).cur = D.cur := by
  rw [h.fence]; rfl
theorem On.zero (n : Nat) : On (DS.zero n) := ⟨rfl, rfl, rfl⟩
theorem run_cons (D : DS) (i : Ins) (p : List Ins) : D.run 0 (i :: p) = (D.exec 0 i).run 0 p := rfl
theorem On.runW : ∀ (ws : List (Nat × Nat)) (D : DS), On D → (∀ x ∈ ws, x.1 % 8 = 0 ∧ x.1 < D.n * 64) → On (D.run 0 (ws.map wrI)) ∧ (D.run 0 (ws.map wrI)).cur = applyH ws D.cur := by
  intro ws
  induction ws with
  | nil => intro D h _; exact ⟨h, rfl⟩
  | cons x ws ih =>
    intro D h hv
    rw [List.map_cons, run_cons]
    have e : D.exec 0 (wrI x) = D.store 0 x.1 x.2 := rfl
    have hx : vOff D x.1 = true := by simp [vOff, hv x (by simp)]
    rw [e]
    have hn := store_n D 0 x.1 x.2
    have := ih (D.store 0 x.1 x.2) (h.storeOn _ _ hx) (fun y hy => by rw [hn]; exact hv y (by simp [hy]))
    refine ⟨this.1, ?_⟩
    rw [this.2, h.storeCur _ _ hx]; rfl
theorem On.runF : ∀ (ls : List Nat) (D : DS), On D → (∀ x ∈ ls, x < D.n * 64) → On (D.run 0 (ls.map flI)) ∧ (D.run 0 (ls.map flI)).cur = D.cur := by
  intro ls
  induction ls with
  | nil => intro D h _; exact ⟨h, rfl⟩
  | cons x ls ih =>
    intro D h hv
    rw [List.map_cons, run_cons]
    have e : D.exec 0 (flI x) = D.flush 0 x := rfl
    have hx : fOff D x = true := by simp [fOff, hv x (by simp)]
    rw [e]
    have hn := flush_n D 0 x
    have := ih (D.flush 0 x) (h.flushOn _ hx) (fun y hy => by rw [hn]; exact hv y (by simp [hy]))
    exact ⟨this.1, this.2.trans (h.flushCur _ hx)⟩
theorem kpN_mem (d : Array Nat) : ∀ n, n ≤ d.size → ∀ x ∈ kpN d n, x ∈ d.toList := by
  intro n
  induction n with
  | zero => intro _ x hx; simp [kpN] at hx
  | succ n ih =>
    intro hn x hx
    simp only [kpN, List.mem_append] at hx
    rcases hx with hx | hx
    · exact ih (by omega) x hx
    · split at hx
      · simp only [List.mem_singleton] at hx
        subst hx
        rw [getElem!_pos d n (by omega)]
        simp
      · cases hx
theorem cmpN_mem {l : List Nat} {x : Nat} (h : x ∈ cmpN l) : x ∈ l := by
  have := kpN_mem l.toArray l.length (by simp) x h
  simpa using this
theorem storesI_line {ws : List (Nat × Nat)} {x : Nat} (h : x ∈ cmpN (srtN (ws.map fun x => lineS x.1))) : ∃ y ∈ ws, x = lineS y.1 := by
  have h1 := cmpN_mem h
  have h2 := (srtN_perm _).mem_iff.1 h1
  obtain ⟨y, hy, rfl⟩ := List.mem_map.1 h2
  exact ⟨y, hy, rfl⟩
theorem On.stores (h : On D) (ws : List (Nat × Nat)) (hv : ∀ x ∈ ws, x.1 % 8 = 0 ∧ x.1 < D.n * 64) : On (D.run 0 (storesI ws)) ∧ (D.run 0 (storesI ws)).cur = applyH ws D.cur := by
  unfold storesI
  rw [run_append, run_append]
  have h1 := On.runW ws D h hv
  have n1 := run_n 0 (ws.map wrI) D
  have h2 := On.runF (cmpN (srtN (ws.map fun x => lineS x.1))) (D.run 0 (ws.map wrI)) h1.1 (fun x hx => by
    obtain ⟨y, hy, rfl⟩ := storesI_line hx
    have := hv y hy
    rw [n1]; unfold lineS; omega)
  refine ⟨h2.1.fenceOn, ?_⟩
  show (DS.fence _ 0).cur = _
  rw [h2.1.fenceCur, h2.2, h1.2]
theorem okI_stores {ws : List (Nat × Nat)} (h : ∀ x ∈ ws, x.1 < 18446744073709551616 ∧ x.2 < 18446744073709551616) : ∀ i ∈ storesI ws, okI i := by
  intro i hi
  simp only [storesI, List.mem_append, List.mem_map, List.mem_singleton] at hi
  rcases hi with (⟨x, hx, rfl⟩ | ⟨x, hx, rfl⟩) | rfl
  · have := h x hx; exact ⟨by simp [wrI], by simp [wrI], this.1, this.2⟩
  · obtain ⟨y, hy, rfl⟩ := storesI_line hx
    have := h y hy
    exact ⟨by simp [flI], by simp [flI], by simp only [flI, lineS]; omega, by simp [flI]⟩
  · exact ⟨by simp, by simp, by simp, by simp⟩
end
theorem seal_lo (x : Nat) (h : x < 4294967296) : sealN x % 4294967296 = x := by unfold sealN; omega
theorem isS_seal {x : Nat} (h : x < 4294967296) : isS (sealN x) = true := by unfold isS; rw [seal_lo x h]; simp
theorem gX_seal (x : Nat) : gX (sealN x) = gX x := by unfold gX sealN; omega
theorem kX_seal (x : Nat) : kX (sealN x) = kX x := by unfold kX sealN; omega
theorem sX_seal (x : Nat) : sX (sealN x) = sX x := by unfold sX sealN; omega
theorem hC_seal (x : Nat) : hC (sealN x) = hC x := by unfold hC sealN; omega
theorem hO_seal (x : Nat) : hO (sealN x) = hO x := by unfold hO sealN; omega
section
variable {g k s : Nat}
theorem blkX_lt (hg : g < 65536) (hk : k < 256) (hs : s < 256) : blkX g k s < 4294967296 := by unfold blkX; omega
theorem isS_blk (hg : g < 65536) (hk : k < 256) (hs : s < 256) : isS (sealN (blkX g k s)) = true := isS_seal (blkX_lt hg hk hs)
theorem bG_blk (hg : g < 65536) (hk : k < 256) (hs : s < 256) : bG (sealN (blkX g k s)) = g := by unfold bG; rw [isS_blk hg hk hs, if_pos rfl, gX_seal]; unfold gX blkX; omega
theorem bK_blk (hg : g < 65536) (hk : k < 256) (hs : s < 256) : bK (sealN (blkX g k s)) = k := by unfold bK; rw [isS_blk hg hk hs, if_pos rfl, kX_seal]; unfold kX blkX; omega
theorem bS_blk (hg : g < 65536) (hk : k < 256) (hs : s < 256) : bS (sealN (blkX g k s)) = s := by unfold bS; rw [isS_blk hg hk hs, if_pos rfl, sX_seal]; unfold sX blkX; omega
end
section
variable {c o : Int} {g : Nat}
theorem hdX_lt (hc : -1 ≤ c) (hc' : c < 5) (ho : -1 ≤ o) (ho' : o < 8) (hg : g < 65536) : hdX c o g < 4294967296 := by unfold hdX; split <;> omega
theorem hd_ok (hc : 0 ≤ c) (hc' : c < 5) (ho : 0 ≤ o) (ho' : o < 8) (hg : g ≠ 0) (hg' : g < 65536) : hdOk (sealN (hdX c o g)) = true ∧ hC (sealN (hdX c o g)) = c ∧ hO (sealN (hdX c o g)) = o ∧ gX (sealN (hdX c o g)) = g := by
  have h1 : hC (sealN (hdX c o g)) = c := by rw [hC_seal]; unfold hC hdX; rw [if_pos hc]; omega
  have h2 : hO (sealN (hdX c o g)) = o := by rw [hO_seal]; unfold hO hdX; rw [if_pos hc]; omega
  have h3 : gX (sealN (hdX c o g)) = g := by rw [gX_seal]; unfold gX hdX; rw [if_pos hc]; omega
  have h4 : sX (sealN (hdX c o g)) = 197 := by rw [sX_seal]; unfold sX hdX; rw [if_pos hc]; omega
  refine ⟨?_, h1, h2, h3⟩
  unfold hdOk
  rw [h1, h2, h3, h4, isS_seal (hdX_lt (by omega) hc' (by omega) ho' hg')]
  simp [hg, fmtB, hc, hc', ho, ho']
theorem hd_free (hg : g ≠ 0) (hg' : g < 65536) : hdOk (sealN (hdX (-1) (-1) g)) = true ∧ hC (sealN (hdX (-1) (-1) g)) = -1 ∧ hO (sealN (hdX (-1) (-1) g)) = -1 ∧ gX (sealN (hdX (-1) (-1) g)) = g := by
  have e : hdX (-1) (-1) g = g + 3305111552 := by unfold hdX; rw [if_neg (by omega)]
  have h1 : hC (sealN (hdX (-1) (-1) g)) = -1 := by rw [hC_seal, e]; unfold hC; omega
  have h2 : hO (sealN (hdX (-1) (-1) g)) = -1 := by rw [hO_seal, e]; unfold hO; omega
  have h3 : gX (sealN (hdX (-1) (-1) g)) = g := by rw [gX_seal, e]; unfold gX; omega
  have h4 : sX (sealN (hdX (-1) (-1) g)) = 197 := by rw [sX_seal, e]; unfold sX; omega
  refine ⟨?_, h1, h2, h3⟩
  unfold hdOk
  rw [h1, h2, h3, h4, isS_seal (hdX_lt (by omega) (by omega) (by omega) (by omega) hg')]
  simp [hg]
end
end Go.Proofs.YtaeopkhdokaaoaaGreatDoor
namespace Go.Proofs.YtaeopkhdokaaoaaGreatDoor
open Go Go.Sh
set_option maxRecDepth 100000
set_option maxHeartbeats 4000000
set_option linter.unusedSimpArgs false
set_option linter.unusedVariables false
theorem rd_mf {P : Program} (f : Fn) (a c : Array Value) (w : World) (k : Value → Prop) : rd P (Instr.makeFunc f a c) w k = k (.func f a c) := rd_of_run rfl k
theorem ag_mf {P : Program} (f : Fn) (a c : Array Value) (w : World) (u : Value) : ag P (Instr.makeFunc f a c) w u = (Value.func f a c = u) := ag_of_run rfl u
theorem nilR_Load (b i : Nat) (w : World) (k : Value → Prop) : nilR Tryz.prog (.func (.method "Load") #[.iface 48 (.pointer (some ⟨b, i, none⟩))] #[]) w k = k (.func (.method "Load") #[.iface 48 (.pointer (some ⟨b, i, none⟩))] #[]) := by
  have h : (execOp (fun _ => (.func (.method "Load") #[.iface 48 (.pointer (some ⟨b, i, none⟩))] #[])) nilOp).run Tryz.prog w = .ok (.value (.func (.method "Load") #[.iface 48 (.pointer (some ⟨b, i, none⟩))] #[])) w := by kernel_rfl
  unfold nilR; rw [h]; simp
abbrev thV (Y : Lay) : Value := .iface 48 (.pointer (some ⟨Y.tb 0, 0, none⟩))
section
variable {w w' : World} {Y : Lay} {D : DS}
theorem cells5 {b t : Nat} {f : Nat → Value} (h : Cells w b t 5 f) (v0 v1 v2 v3 v4 : Value) : (((((w.setCell ⟨b, 0, none⟩ v0).setCell ⟨b, 1, none⟩ v1).setCell ⟨b, 2, none⟩ v2).setCell ⟨b, 3, none⟩ v3).setCell ⟨b, 4, none⟩ v4).cell? ⟨b, 0, none⟩ = some v0 ∧ (((((w.setCell ⟨b, 0, none⟩ v0).setCell ⟨b, 1, none⟩ v1).setCell ⟨b, 2, none⟩ v2).setCell ⟨b, 3, none⟩ v3).setCell ⟨b, 4, none⟩ v4).cell? ⟨b, 1, none⟩ = some v1 ∧ (((((w.setCell ⟨b, 0, none⟩ v0).setCell ⟨b, 1, none⟩ v1).setCell ⟨b, 2, none⟩ v2).setCell ⟨b, 3, none⟩ v3).setCell ⟨b, 4, none⟩ v4).cell? ⟨b, 2, none⟩ = some v2 ∧ (((((w.setCell ⟨b, 0, none⟩ v0).setCell ⟨b, 1, none⟩ v1).setCell ⟨b, 2, none⟩ v2).setCell ⟨b, 3, none⟩ v3).setCell ⟨b, 4, none⟩ v4).cell? ⟨b, 3, none⟩ = some v3 ∧ (((((w.setCell ⟨b, 0, none⟩ v0).setCell ⟨b, 1, none⟩ v1).setCell ⟨b, 2, none⟩ v2).setCell ⟨b, 3, none⟩ v3).setCell ⟨b, 4, none⟩ v4).cell? ⟨b, 4, none⟩ = some v4 := by
  have h3 := ((((h.set v0 (i := 0) (by omega)).set v1 (i := 1) (by omega)).set v2 (i := 2) (by omega)).set v3 (i := 3) (by omega)).set v4 (i := 4) (by omega)
  exact ⟨h3.cell (i := 0) (by omega), h3.cell (i := 1) (by omega), h3.cell (i := 2) (by omega), h3.cell (i := 3) (by omega), h3.cell (i := 4) (by omega)⟩
theorem k_Look (h : Dv w Y D) (g : Good D) (hG : Glob w) (ho : D.off = false) (he : D.err 0 = 0) (l : Nat) (hl : l + 32 ≤ D.n) (hok : hdOk (wd D l 0) = true) (K : K1)
    (hK : ∀ w', Ext w w' → K (.tuple #[.agg #[.int .i64 (hC (wd D l 0)), .int .i64 (hO (wd D l 0)), .int .u16 (gX (wd D l 0) : Int)], .int .i64 0]) w') :
    callS Tryz.prog 26 #[thV Y, .int .i64 (l : Int)] w K := by
  have hn := g.n
  have hsz : ∀ (w1 : World) (K : K1), Ext w w1 → callS Tryz.prog 162 #[.pointer (some ⟨Y.tb 0, 0, none⟩)] w1 K = K (.int .u64 ((D.n * 64 : Nat) : Int)) w1 := fun w1 K e => c_TSize (h.ext e) g 0 (by omega) K
  have her : ∀ (w1 : World) (K : K1), Ext w w1 → callS Tryz.prog 28 #[.pointer (some ⟨Y.tb 0, 0, none⟩)] w1 K = K (.int .i64 0) w1 := fun w1 K e => by rw [c_Err (h.ext e) 0 (by omega) K, he]
  have hld : ∀ (w1 : World) (K : K1), Ext w w1 → callS Tryz.prog 52 #[.pointer (some ⟨Y.tb 0, 0, none⟩), .int .u64 ((l * 64 : Nat) : Int)] w1 K = K (.int .u64 (wd D l 0 : Int)) w1 := fun w1 K e => by
    rw [c_Load (h.ext e) g 0 (by omega) ho (l * 64) (by omega) (by omega) K, show l * 64 / 8 = l * 8 + 0 by omega]; unfold wd; rfl
  have hx : wd D l 0 < 18446744073709551616 := by unfold wd; exact g.cur _ (by omega)
  have hq : D.n * 64 / 64 = D.n := by omega
  generalize wd D l 0 = x at *
  refine f26_call _ _ _ _ ?_
  unfold thV f26_t
  (repeat' (first | (with_reducible refine brS_mk (fun _ => ?_) (fun _ => ?_)) | (with_reducible refine And.intro ?_ ?_) | (simp (disch := first | omega | simp only [RO] | (simp only [RZ] <;> omega) | (with_reducible (repeat (first | assumption | exact Ext.refl _ | refine Ext.alloc ?_ _ | refine Ext.drew ?_ | refine Ext.trans ?_ (by assumption)))) | fail) only [↓RBp, ↓RA, ↓reduceIte, Nat.reduceAdd, Nat.reduceMul, Nat.reduceEqDiff, RB, RBr, RW, RS, RA2, hsz, her, hld, hq, c_line, Int.toNat_natCast, rd_mf, ag_mf, nilR_Load])))
  refine k_header x _ _ (hG.ext (by repeat (first | with_reducible refine eB ?_ (by omega) _ | with_reducible refine eB ?_ (by simp only [RZ] <;> omega) _ | with_reducible assumption | exact eR _ | with_reducible refine eA ?_ _ | with_reducible refine eD ?_ | with_reducible refine eT ?_ (by assumption)))) hx (fun w1 he1 => ?_)
  have e1 : Ext w w1 := Ext.trans (by repeat (first | with_reducible refine eB ?_ (by omega) _ | with_reducible refine eB ?_ (by simp only [RZ] <;> omega) _ | with_reducible assumption | exact eR _ | with_reducible refine eA ?_ _ | with_reducible refine eD ?_ | with_reducible refine eT ?_ (by assumption))) he1
  have hC0 : Cells w1 w.heap.size 24 3 (fun i => [Value.int .i64 0, .int .i64 0, .int .u16 ((0 : Nat) : Int)].getD i undef) := by
    have := (Cells.new w [Value.int .i64 0, .int .i64 0, .int .u16 ((0 : Nat) : Int)] 24)
    exact this.ext (Ext.trans (by repeat (first | with_reducible refine eB ?_ (by omega) _ | with_reducible refine eB ?_ (by simp only [RZ] <;> omega) _ | with_reducible assumption | exact eR _ | with_reducible refine eA ?_ _ | with_reducible refine eD ?_ | with_reducible refine eT ?_ (by assumption))) he1)
  have c0 := hC0.cell (i := 0) (by omega)
  have c1 := hC0.cell (i := 1) (by omega)
  have c2 := hC0.cell (i := 2) (by omega)
  have lt1 := hC0.lt
  rw [hok]
  unfold hdV
  have ob1 := cells3 hC0 (.int .i64 (hC x)) (.int .i64 (hO x)) (.int .u16 (gX x : Int)); have d0 := ob1.1; have d1 := ob1.2.1; have d2 := ob1.2.2.1; have hD := ob1.2.2.2
  simp (disch := first | omega | simp only [RO] | (simp only [RZ] <;> omega) | fail) only [↓RBp, ↓RA, ↓reduceIte, Nat.reduceAdd, Nat.reduceMul, Nat.reduceEqDiff, RB, RBr, RW, RS, RA2, c0, c1, c2, hC0.frz, d0, d1, d2]
  exact hK _ (by repeat (first | with_reducible refine eB ?_ (by omega) _ | with_reducible refine eB ?_ (by simp only [RZ] <;> omega) _ | with_reducible assumption | exact eR _ | with_reducible refine eA ?_ _ | with_reducible refine eD ?_ | with_reducible refine eT ?_ (by assumption)))
theorem k_LookForm (h : Dv w Y D) (g : Good D) (hG : Glob w) (ho : D.off = false) (he : D.err 0 = 0) (l : Nat) (hl : l + 32 ≤ D.n) (hok : hdOk (wd D l 0) = false) (K : K1)
    (hK : ∀ w', Ext w w' → K (.tuple #[.agg #[.int .i64 0, .int .i64 0, .int .u16 ((0 : Nat) : Int)], .int .i64 11]) w') :
    callS Tryz.prog 26 #[thV Y, .int .i64 (l : Int)] w K := by
  have hn := g.n
  have hsz : ∀ (w1 : World) (K : K1), Ext w w1 → callS Tryz.prog 162 #[.pointer (some ⟨Y.tb 0, 0, none⟩)] w1 K = K (.int .u64 ((D.n * 64 : Nat) : Int)) w1 := fun w1 K e => c_TSize (h.ext e) g 0 (by omega) K
  have her : ∀ (w1 : World) (K : K1), Ext w w1 → callS Tryz.prog 28 #[.pointer (some ⟨Y.tb 0, 0, none⟩)] w1 K = K (.int .i64 0) w1 := fun w1 K e => by rw [c_Err (h.ext e) 0 (by omega) K, he]
  have hld : ∀ (w1 : World) (K : K1), Ext w w1 → callS Tryz.prog 52 #[.pointer (some ⟨Y.tb 0, 0, none⟩), .int .u64 ((l * 64 : Nat) : Int)] w1 K = K (.int .u64 (wd D l 0 : Int)) w1 := fun w1 K e => by
    rw [c_Load (h.ext e) g 0 (by omega) ho (l * 64) (by omega) (by omega) K, show l * 64 / 8 = l * 8 + 0 by omega]; unfold wd; rfl
  have hx : wd D l 0 < 18446744073709551616 := by unfold wd; exact g.cur _ (by omega)
  have hq : D.n * 64 / 64 = D.n := by omega
  generalize wd D l 0 = x at *
  refine f26_call _ _ _ _ ?_
  unfold thV f26_t
  (repeat' (first | (with_reducible refine brS_mk (fun _ => ?_) (fun _ => ?_)) | (with_reducible refine And.intro ?_ ?_) | (simp (disch := first | omega | simp only [RO] | (simp only [RZ] <;> omega) | (with_reducible (repeat (first | assumption | exact Ext.refl _ | refine Ext.alloc ?_ _ | refine Ext.drew ?_ | refine Ext.trans ?_ (by assumption)))) | fail) only [↓RBp, ↓RA, ↓reduceIte, Nat.reduceAdd, Nat.reduceMul, Nat.reduceEqDiff, RB, RBr, RW, RS, RA2, hsz, her, hld, hq, c_line, Int.toNat_natCast, rd_mf, ag_mf, nilR_Load])))
  refine k_header x _ _ (hG.ext (by repeat (first | with_reducible refine eB ?_ (by omega) _ | with_reducible refine eB ?_ (by simp only [RZ] <;> omega) _ | with_reducible assumption | exact eR _ | with_reducible refine eA ?_ _ | with_reducible refine eD ?_ | with_reducible refine eT ?_ (by assumption)))) hx (fun w1 he1 => ?_)
  have e1 : Ext w w1 := Ext.trans (by repeat (first | with_reducible refine eB ?_ (by omega) _ | with_reducible refine eB ?_ (by simp only [RZ] <;> omega) _ | with_reducible assumption | exact eR _ | with_reducible refine eA ?_ _ | with_reducible refine eD ?_ | with_reducible refine eT ?_ (by assumption))) he1
  have hC0 : Cells w1 w.heap.size 24 3 (fun i => [Value.int .i64 0, .int .i64 0, .int .u16 ((0 : Nat) : Int)].getD i undef) := by
    have := (Cells.new w [Value.int .i64 0, .int .i64 0, .int .u16 ((0 : Nat) : Int)] 24)
    exact this.ext (Ext.trans (by repeat (first | with_reducible refine eB ?_ (by omega) _ | with_reducible refine eB ?_ (by simp only [RZ] <;> omega) _ | with_reducible assumption | exact eR _ | with_reducible refine eA ?_ _ | with_reducible refine eD ?_ | with_reducible refine eT ?_ (by assumption))) he1)
  have c0 := hC0.cell (i := 0) (by omega)
  have c1 := hC0.cell (i := 1) (by omega)
  have c2 := hC0.cell (i := 2) (by omega)
  have lt1 := hC0.lt
  rw [hok]
  unfold hdV
  have ob2 := cells3 hC0 (.int .i64 0) (.int .i64 0) (.int .u16 ((0 : Nat) : Int)); have d0 := ob2.1; have d1 := ob2.2.1; have d2 := ob2.2.2.1; have hD := ob2.2.2.2
  simp (disch := first | omega | simp only [RO] | (simp only [RZ] <;> omega) | fail) only [↓RBp, ↓RA, ↓reduceIte, Nat.reduceAdd, Nat.reduceMul, Nat.reduceEqDiff, RB, RBr, RW, RS, RA2, c0, c1, c2, hC0.frz, d0, d1, d2]
  exact hK _ (by repeat (first | with_reducible refine eB ?_ (by omega) _ | with_reducible refine eB ?_ (by simp only [RZ] <;> omega) _ | with_reducible assumption | exact eR _ | with_reducible refine eA ?_ _ | with_reducible refine eD ?_ | with_reducible refine eT ?_ (by assumption)))
theorem k_LookBad (h : Dv w Y D) (g : Good D) (l : Int) (hl : ¬ (0 ≤ l ∧ l + 32 ≤ D.n)) (hl2 : l < 9223372036854775808) (hl3 : -9223372036854775808 ≤ l) (K : K1)
    (hK : ∀ w', Ext w w' → K (.tuple #[.agg #[.int .i64 0, .int .i64 0, .int .u16 ((0 : Nat) : Int)], .int .i64 1]) w') :
    callS Tryz.prog 26 #[thV Y, .int .i64 l] w K := by
  have hn := g.n
  have hsz : ∀ (w1 : World) (K : K1), Ext w w1 → callS Tryz.prog 162 #[.pointer (some ⟨Y.tb 0, 0, none⟩)] w1 K = K (.int .u64 ((D.n * 64 : Nat) : Int)) w1 := fun w1 K e => c_TSize (h.ext e) g 0 (by omega) K
  have hq : D.n * 64 / 64 = D.n := by omega
  refine f26_call _ _ _ _ ?_
  unfold thV f26_t
  by_cases h0 : l < 0
  · simp (disch := first | omega | simp only [RO] | (simp only [RZ] <;> omega) | (with_reducible (repeat (first | assumption | exact Ext.refl _ | refine Ext.alloc ?_ _ | refine Ext.drew ?_ | refine Ext.trans ?_ (by assumption)))) | fail) only [↓RBp, ↓RA, ↓reduceIte, Nat.reduceAdd, Nat.reduceMul, Nat.reduceEqDiff, RB, RBr, RW, RS, RA2, hsz, hq]
    exact hK _ (by repeat (first | with_reducible refine eB ?_ (by omega) _ | with_reducible refine eB ?_ (by simp only [RZ] <;> omega) _ | with_reducible assumption | exact eR _ | with_reducible refine eA ?_ _ | with_reducible refine eD ?_ | with_reducible refine eT ?_ (by assumption)))
  · obtain ⟨n, rfl⟩ : ∃ n : Nat, l = (n : Int) := ⟨l.toNat, by omega⟩
    by_cases h1 : D.n < 32
    · simp (disch := first | omega | simp only [RO] | (simp only [RZ] <;> omega) | (with_reducible (repeat (first | assumption | exact Ext.refl _ | refine Ext.alloc ?_ _ | refine Ext.drew ?_ | refine Ext.trans ?_ (by assumption)))) | fail) only [↓RBp, ↓RA, ↓reduceIte, Nat.reduceAdd, Nat.reduceMul, Nat.reduceEqDiff, RB, RBr, RW, RS, RA2, hsz, hq]
      exact hK _ (by repeat (first | with_reducible refine eB ?_ (by omega) _ | with_reducible refine eB ?_ (by simp only [RZ] <;> omega) _ | with_reducible assumption | exact eR _ | with_reducible refine eA ?_ _ | with_reducible refine eD ?_ | with_reducible refine eT ?_ (by assumption)))
    · simp (disch := first | omega | simp only [RO] | (simp only [RZ] <;> omega) | (with_reducible (repeat (first | assumption | exact Ext.refl _ | refine Ext.alloc ?_ _ | refine Ext.drew ?_ | refine Ext.trans ?_ (by assumption)))) | fail) only [↓RBp, ↓RA, ↓reduceIte, Nat.reduceAdd, Nat.reduceMul, Nat.reduceEqDiff, RB, RBr, RW, RS, RA2, hsz, hq]
      exact hK _ (by repeat (first | with_reducible refine eB ?_ (by omega) _ | with_reducible refine eB ?_ (by simp only [RZ] <;> omega) _ | with_reducible assumption | exact eR _ | with_reducible refine eA ?_ _ | with_reducible refine eD ?_ | with_reducible refine eT ?_ (by assumption)))
theorem k_LookErr (h : Dv w Y D) (g : Good D) (he : D.err 0 ≠ 0) (l : Nat) (hl : l + 32 ≤ D.n) (K : K1)
    (hK : ∀ w', Ext w w' → K (.tuple #[.agg #[.int .i64 0, .int .i64 0, .int .u16 ((0 : Nat) : Int)], .int .i64 (D.err 0)]) w') :
    callS Tryz.prog 26 #[thV Y, .int .i64 (l : Int)] w K := by
  have hn := g.n
  have hsz : ∀ (w1 : World) (K : K1), Ext w w1 → callS Tryz.prog 162 #[.pointer (some ⟨Y.tb 0, 0, none⟩)] w1 K = K (.int .u64 ((D.n * 64 : Nat) : Int)) w1 := fun w1 K e => c_TSize (h.ext e) g 0 (by omega) K
  have her : ∀ (w1 : World) (K : K1), Ext w w1 → callS Tryz.prog 28 #[.pointer (some ⟨Y.tb 0, 0, none⟩)] w1 K = K (.int .i64 (D.err 0)) w1 := fun w1 K e => by rw [c_Err (h.ext e) 0 (by omega) K]
  have hq : D.n * 64 / 64 = D.n := by omega
  generalize D.err 0 = e at *
  refine f26_call _ _ _ _ ?_
  unfold thV f26_t
  simp (disch := first | omega | simp only [RO] | (simp only [RZ] <;> omega) | (with_reducible (repeat (first | assumption | exact Ext.refl _ | refine Ext.alloc ?_ _ | refine Ext.drew ?_ | refine Ext.trans ?_ (by assumption)))) | fail) only [↓RBp, ↓RA, ↓reduceIte, Nat.reduceAdd, Nat.reduceMul, Nat.reduceEqDiff, RB, RBr, RW, RS, RA2, hsz, her, hq]
  exact hK _ (by repeat (first | with_reducible refine eB ?_ (by omega) _ | with_reducible refine eB ?_ (by simp only [RZ] <;> omega) _ | with_reducible assumption | exact eR _ | with_reducible refine eA ?_ _ | with_reducible refine eD ?_ | with_reducible refine eT ?_ (by assumption)))
theorem k_LookNil (l : Int) (K : K1)
    (hK : ∀ w', Ext w w' → K (.tuple #[.agg #[.int .i64 0, .int .i64 0, .int .u16 ((0 : Nat) : Int)], .int .i64 1]) w') :
    callS Tryz.prog 26 #[.nilIface, .int .i64 l] w K := by
  refine f26_call _ _ _ _ ?_
  unfold f26_t
  simp (disch := first | omega | simp only [RO] | (simp only [RZ] <;> omega) | (with_reducible (repeat (first | assumption | exact Ext.refl _ | refine Ext.alloc ?_ _ | refine Ext.drew ?_ | refine Ext.trans ?_ (by assumption)))) | fail) only [↓RBp, ↓RA, ↓reduceIte, Nat.reduceAdd, Nat.reduceMul, Nat.reduceEqDiff, RB, RBr, RW, RS, RA2]
  exact hK _ (by repeat (first | with_reducible refine eB ?_ (by omega) _ | with_reducible refine eB ?_ (by simp only [RZ] <;> omega) _ | with_reducible assumption | exact eR _ | with_reducible refine eA ?_ _ | with_reducible refine eD ?_ | with_reducible refine eT ?_ (by assumption)))
abbrev chZ : Value := .agg #[.nilIface, .int .i64 0, .int .i64 0, .int .i64 0, .int .u16 ((0 : Nat) : Int)]
theorem k_OpenErr (m : Value) (l : Int) (e : Int) (he : e ≠ 0) (K : K1)
    (hL : ∀ (w1 : World) (K1 : K1), Ext w w1 → (∀ w', Ext w1 w' → K1 (.tuple #[.agg #[.int .i64 0, .int .i64 0, .int .u16 ((0 : Nat) : Int)], .int .i64 e]) w') → callS Tryz.prog 26 #[m, .int .i64 l] w1 K1)
    (hK : ∀ w', Ext w w' → K (.tuple #[chZ, .int .i64 e]) w') :
    callS Tryz.prog 27 #[m, .int .i64 l] w K := by
  refine f27_call _ _ _ _ ?_
  unfold f27_t
  simp (disch := first | omega | simp only [RO] | (simp only [RZ] <;> omega) | fail) only [↓RBp, ↓RA, ↓reduceIte, Nat.reduceAdd, Nat.reduceMul, Nat.reduceEqDiff, RB, RBr, RW, RS, RA2]
  refine hL _ _ (by repeat (first | with_reducible refine eB ?_ (by omega) _ | with_reducible refine eB ?_ (by simp only [RZ] <;> omega) _ | with_reducible assumption | exact eR _ | with_reducible refine eA ?_ _ | with_reducible refine eD ?_ | with_reducible refine eT ?_ (by assumption))) (fun w1 he1 => ?_)
  have e1 : Ext w w1 := Ext.trans (by repeat (first | with_reducible refine eB ?_ (by omega) _ | with_reducible refine eB ?_ (by simp only [RZ] <;> omega) _ | with_reducible assumption | exact eR _ | with_reducible refine eA ?_ _ | with_reducible refine eD ?_ | with_reducible refine eT ?_ (by assumption))) he1
  have hC0 : Cells w1 w.heap.size 58 5 (fun i => [Value.nilIface, .int .i64 0, .int .i64 0, .int .i64 0, .int .u16 ((0 : Nat) : Int)].getD i undef) := by
    have := (Cells.new w [Value.nilIface, .int .i64 0, .int .i64 0, .int .i64 0, .int .u16 ((0 : Nat) : Int)] 58)
    exact this.ext (Ext.trans (by repeat (first | with_reducible refine eB ?_ (by omega) _ | with_reducible refine eB ?_ (by simp only [RZ] <;> omega) _ | with_reducible assumption | exact eR _ | with_reducible refine eA ?_ _ | with_reducible refine eD ?_ | with_reducible refine eT ?_ (by assumption))) he1)
  have c0 := hC0.cell (i := 0) (by omega)
  have c1 := hC0.cell (i := 1) (by omega)
  have c2 := hC0.cell (i := 2) (by omega)
  have c3 := hC0.cell (i := 3) (by omega)
  have c4 := hC0.cell (i := 4) (by omega)
  have lt1 := hC0.lt
  have ob3 := cells5 hC0 .nilIface (.int .i64 0) (.int .i64 0) (.int .i64 0) (.int .u16 ((0 : Nat) : Int)); have d0 := ob3.1; have d1 := ob3.2.1; have d2 := ob3.2.2.1; have d3 := ob3.2.2.2.1; have d4 := ob3.2.2.2.2
  simp (disch := first | omega | simp only [RO] | (simp only [RZ] <;> omega) | fail) only [↓RBp, ↓RA, ↓reduceIte, Nat.reduceAdd, Nat.reduceMul, Nat.reduceEqDiff, RB, RBr, RW, RS, RA2, c0, c1, c2, c3, c4, hC0.frz, d0, d1, d2, d3, d4]
  exact hK _ (by repeat (first | with_reducible refine eB ?_ (by omega) _ | with_reducible refine eB ?_ (by simp only [RZ] <;> omega) _ | with_reducible assumption | exact eR _ | with_reducible refine eA ?_ _ | with_reducible refine eD ?_ | with_reducible refine eT ?_ (by assumption)))
theorem k_OpenAt (h : Dv w Y D) (g : Good D) (hG : Glob w) (ho : D.off = false) (he : D.err 0 = 0) (l : Nat) (hl : l + 32 ≤ D.n) (hok : hdOk (wd D l 0) = true) (K : K1)
    (hK : ∀ w', Ext w w' → K (if hC (wd D l 0) < 0 then .tuple #[chZ, .int .i64 8] else .tuple #[chV Y l (hC (wd D l 0)) (hO (wd D l 0)) (gX (wd D l 0)), .int .i64 0]) w') :
    callS Tryz.prog 27 #[thV Y, .int .i64 (l : Int)] w K := by
  refine f27_call _ _ _ _ ?_
  unfold thV f27_t
  simp (disch := first | omega | simp only [RO] | (simp only [RZ] <;> omega) | fail) only [↓RBp, ↓RA, ↓reduceIte, Nat.reduceAdd, Nat.reduceMul, Nat.reduceEqDiff, RB, RBr, RW, RS, RA2]
  refine k_Look (h.ext (by repeat (first | with_reducible refine eB ?_ (by omega) _ | with_reducible refine eB ?_ (by simp only [RZ] <;> omega) _ | with_reducible assumption | exact eR _ | with_reducible refine eA ?_ _ | with_reducible refine eD ?_ | with_reducible refine eT ?_ (by assumption)))) g (hG.ext (by repeat (first | with_reducible refine eB ?_ (by omega) _ | with_reducible refine eB ?_ (by simp only [RZ] <;> omega) _ | with_reducible assumption | exact eR _ | with_reducible refine eA ?_ _ | with_reducible refine eD ?_ | with_reducible refine eT ?_ (by assumption)))) ho he l hl hok _ (fun w1 he1 => ?_)
  have e1 : Ext w w1 := Ext.trans (by repeat (first | with_reducible refine eB ?_ (by omega) _ | with_reducible refine eB ?_ (by simp only [RZ] <;> omega) _ | with_reducible assumption | exact eR _ | with_reducible refine eA ?_ _ | with_reducible refine eD ?_ | with_reducible refine eT ?_ (by assumption))) he1
  have hC0 : Cells w1 w.heap.size 58 5 (fun i => [Value.nilIface, .int .i64 0, .int .i64 0, .int .i64 0, .int .u16 ((0 : Nat) : Int)].getD i undef) := by
    have := (Cells.new w [Value.nilIface, .int .i64 0, .int .i64 0, .int .i64 0, .int .u16 ((0 : Nat) : Int)] 58)
    exact this.ext (Ext.trans (by repeat (first | with_reducible refine eB ?_ (by omega) _ | with_reducible refine eB ?_ (by simp only [RZ] <;> omega) _ | with_reducible assumption | exact eR _ | with_reducible refine eA ?_ _ | with_reducible refine eD ?_ | with_reducible refine eT ?_ (by assumption))) he1)
  have c0 := hC0.cell (i := 0) (by omega)
  have c1 := hC0.cell (i := 1) (by omega)
  have c2 := hC0.cell (i := 2) (by omega)
  have c3 := hC0.cell (i := 3) (by omega)
  have c4 := hC0.cell (i := 4) (by omega)
  have lt1 := hC0.lt
  by_cases hc : hC (wd D l 0) < 0
  · rw [if_pos hc] at hK
    have ob4 := cells5 hC0 .nilIface (.int .i64 0) (.int .i64 0) (.int .i64 0) (.int .u16 ((0 : Nat) : Int)); have d0 := ob4.1; have d1 := ob4.2.1; have d2 := ob4.2.2.1; have d3 := ob4.2.2.2.1; have d4 := ob4.2.2.2.2
    simp (disch := first | omega | simp only [RO] | (simp only [RZ] <;> omega) | fail) only [↓RBp, ↓RA, ↓reduceIte, Nat.reduceAdd, Nat.reduceMul, Nat.reduceEqDiff, RB, RBr, RW, RS, RA2, c0, c1, c2, c3, c4, hC0.frz, d0, d1, d2, d3, d4]
    exact hK _ (by repeat (first | with_reducible refine eB ?_ (by omega) _ | with_reducible refine eB ?_ (by simp only [RZ] <;> omega) _ | with_reducible assumption | exact eR _ | with_reducible refine eA ?_ _ | with_reducible refine eD ?_ | with_reducible refine eT ?_ (by assumption)))
  · rw [if_neg hc] at hK
    have ob5 := cells5 hC0 (.iface 48 (.pointer (some ⟨Y.tb 0, 0, none⟩))) (.int .i64 (l : Int)) (.int .i64 (hC (wd D l 0))) (.int .i64 (hO (wd D l 0))) (.int .u16 (gX (wd D l 0) : Int)); have d0 := ob5.1; have d1 := ob5.2.1; have d2 := ob5.2.2.1; have d3 := ob5.2.2.2.1; have d4 := ob5.2.2.2.2
    simp (disch := first | omega | simp only [RO] | (simp only [RZ] <;> omega) | fail) only [↓RBp, ↓RA, ↓reduceIte, Nat.reduceAdd, Nat.reduceMul, Nat.reduceEqDiff, RB, RBr, RW, RS, RA2, c0, c1, c2, c3, c4, hC0.frz, d0, d1, d2, d3, d4]
    exact hK _ (by repeat (first | with_reducible refine eB ?_ (by omega) _ | with_reducible refine eB ?_ (by simp only [RZ] <;> omega) _ | with_reducible assumption | exact eR _ | with_reducible refine eA ?_ _ | with_reducible refine eD ?_ | with_reducible refine eT ?_ (by assumption)))
end
end Go.Proofs.YtaeopkhdokaaoaaGreatDoor
namespace Go.Proofs.YtaeopkhdokaaoaaGreatDoor
open Go Go.Sh
set_option maxRecDepth 100000
set_option maxHeartbeats 4000000
set_option linter.unusedSimpArgs false
set_option linter.unusedVariables false
theorem onc_valid {per : Int} : ∀ {L : List Int} {m m' : Nat}, onc per L m = some m' → ∀ i ∈ L, 0 ≤ i ∧ i < per := by
  intro L
  induction L with
  | nil => intro m m' _ i hi; cases hi
  | cons x L ih =>
    intro m m' h i hi
    simp only [onc] at h
    split at h
    · rename_i hx
      rcases List.mem_cons.1 hi with rfl | hi
      · exact hx.1
      · exact ih h i hi
    · cases h
structure ActA (c : Int) (L : List Int) (ks : List Nat) (M : List Int) : Prop where
  len : ks.length = L.length
  kin : ∀ k ∈ ks, k ≠ 0 ∧ k ≤ 127
  onc : ((onc (perS c) L 0).bind (onc (perS c) M)).isSome = true
theorem ActA.vL {c : Int} {L M : List Int} {ks : List Nat} (h : ActA c L ks M) : ∀ i ∈ L, 0 ≤ i ∧ i < perS c := by
  have := h.onc
  cases h1 : Go.Proofs.YtaeopkhdokaaoaaGreatDoor.onc (perS c) L 0 with
  | none => rw [h1] at this; cases this
  | some m => exact onc_valid h1
theorem ActA.vM {c : Int} {L M : List Int} {ks : List Nat} (h : ActA c L ks M) : ∀ i ∈ M, 0 ≤ i ∧ i < perS c := by
  have := h.onc
  cases h1 : Go.Proofs.YtaeopkhdokaaoaaGreatDoor.onc (perS c) L 0 with
  | none => rw [h1] at this; cases this
  | some m =>
    rw [h1, Option.bind_some] at this
    cases h2 : Go.Proofs.YtaeopkhdokaaoaaGreatDoor.onc (perS c) M m with
    | none => rw [h2] at this; cases this
    | some m' => exact onc_valid h2
section
variable {w w' : World} {Y : Lay} {D : DS} {l : Nat} {c o : Int} {g : Nat}
theorem k_Actions (h : Cx w Y D l c) (he : D.err 0 = 0) (o : Int) (g : Nat) (L M : List Int) (ks : List Nat) (v kv u : Value) {m : Nat} (hL : RdS m w v (i64L L)) (hk : RdS m w kv (u8L ks)) (hM : RdS m w u (i64L M)) (lL : L.length < 1073741824) (lM : M.length < 1073741824) (lk : ks.length < 1073741824) (hks : ∀ k ∈ ks, k < 256) (K : K1)
    (hbad : ¬ ActA c L ks M → ∀ w', Ext w w' → K (.tuple #[.slice none 0 0, .int .i64 1]) w')
    (hno : ActA c L ks M → actN D l c L ks M = none → ∀ w', Ext w w' → K (.tuple #[.slice none 0 0, .int .i64 8]) w')
    (hyes : ActA c L ks M → ∀ ws, actN D l c L ks M = some ws → ∀ v' w', Ext w w' → NewV w.heap.size v' → SlO w' 37 2 v' ws.length (wrL ws) → K (.tuple #[v', .int .i64 0]) w') : callS Tryz.prog 37 #[chV Y l c o g, v, kv, u] w K := by
  have her : ∀ (w1 : World) (K : K1), Ext w w1 → callS Tryz.prog 28 #[.pointer (some ⟨Y.tb 0, 0, none⟩)] w1 K = K (.int .i64 0) w1 := fun w1 K e => by rw [c_Err (h.dv.ext e) 0 (by omega) K, he]
  have l1 : (i64L L).length = L.length := by simp
  have l2 : (i64L M).length = M.length := by simp
  have l3 : (u8L ks).length = ks.length := by simp
  obtain ⟨la, lc, rfl, _⟩ := id hL
  obtain ⟨ma, mc, rfl, _⟩ := id hM
  obtain ⟨ka, kc, rfl, _⟩ := id hk
  rw [l1] at hL ⊢
  rw [l2] at hM ⊢
  rw [l3] at hk ⊢
  have e0 : Ext w (w.alloc (chO Y l c o g)) := Ext.alloc_self _ _
  refine f37_call _ _ _ _ _ _ ?_
  by_cases hln : ks.length = L.length
  · have hz : ((ks.length : Nat) : Int) = ((L.length : Nat) : Int) := by omega
    have hb2 : ∀ j, (hj : j < ks.length) → ¬ (ks[j] ≠ 0 ∧ ks[j] ≤ 127) → ∀ w', Ext w w' → K (.tuple #[.slice none 0 0, .int .i64 1]) w' := fun j hj hn => hbad (fun ha => hn (ha.kin _ (List.getElem_mem hj)))
    unfold f37_t
    simp (disch := first | omega | simp only [RO] | (simp only [RZ] <;> omega) | fail) only [↓RBp, ↓RA, ↓reduceIte, Nat.reduceAdd, Nat.reduceMul, Nat.reduceEqDiff, RB, RBr, RW, RS, RA2, dec_true hz]
    apply f37_l1_rule (I := fun z w' => ∃ j : Nat, z = .int .i64 (j : Int) ∧ j ≤ ks.length ∧ (∀ q, (hq : q < ks.length) → q < j → ks[q] ≠ 0 ∧ ks[q] ≤ 127) ∧ Ext (w.alloc (chO Y l c o g)) w') (μ := fun z _ => ks.length - (Go.RowKit.intOf z).toNat)
    · exact ⟨0, rfl, by omega, fun q _ h => by omega, (by repeat (first | with_reducible refine eB ?_ (by omega) _ | with_reducible refine eB ?_ (by simp only [RZ] <;> omega) _ | with_reducible assumption | exact eR _ | with_reducible refine eA ?_ _ | with_reducible refine eD ?_ | with_reducible refine eT ?_ (by assumption)))⟩
    · intros; rename_i w1 hI E1 hE
      obtain ⟨j, rfl, hj, hgd, he1⟩ := hI
      have e1 : Ext w w1 := e0.trans he1
      obtain ⟨c0, c1, c2, c3, c4⟩ := chCells he1
      by_cases hjl : j < ks.length
      · obtain ⟨sb, so, sc, ev1, hc⟩ := (hk.ext e1).get (u8L_get hjl)
        injection ev1 with ev1 _ ev2; subst ev1; subst ev2
        have hkj := hks ks[j] (List.getElem_mem hjl)
        have hb3 := hb2 j hjl
        have hgd' : (ks[j] ≠ 0 ∧ ks[j] ≤ 127) → ∀ q, (hq : q < ks.length) → q < j + 1 → ks[q] ≠ 0 ∧ ks[q] ≤ 127 := by
          intro hh q hq hq1
          by_cases e : q = j
          · subst e; exact hh
          · exact hgd q hq (by omega)
        generalize ks[j] = x at hc hkj hb3 hgd'
        unfold f37_l1_t
        by_cases x0 : x = 0
        · subst x0
          simp (disch := first | omega | simp only [RO] | (simp only [RZ] <;> omega) | fail) only [↓RBp, ↓RA, ↓reduceIte, Nat.reduceAdd, Nat.reduceMul, Nat.reduceEqDiff, RB, RBr, RW, RS, RA2, hc]
          exact hb3 (by simp) _ e1
        · by_cases x1 : x ≤ 127
          · simp (disch := first | omega | simp only [RO] | (simp only [RZ] <;> omega) | fail) only [↓RBp, ↓RA, ↓reduceIte, Nat.reduceAdd, Nat.reduceMul, Nat.reduceEqDiff, RB, RBr, RW, RS, RA2, hc]
            apply hE
            · exact ⟨j + 1, by simp, by omega, hgd' ⟨x0, x1⟩, he1⟩
            · simp [Go.RowKit.intOf]; omega
          · simp (disch := first | omega | simp only [RO] | (simp only [RZ] <;> omega) | fail) only [↓RBp, ↓RA, ↓reduceIte, Nat.reduceAdd, Nat.reduceMul, Nat.reduceEqDiff, RB, RBr, RW, RS, RA2, hc]
            exact hb3 (by omega) _ e1
      · have hjk : j = ks.length := by omega
        subst hjk
        have hkin : ∀ k ∈ ks, k ≠ 0 ∧ k ≤ 127 := by
          intro k hk
          obtain ⟨q, hq, rfl⟩ := List.mem_iff_getElem.1 hk
          exact hgd q hq hq
        unfold f37_l1_t
        simp (disch := first | omega | simp only [RO] | (simp only [RZ] <;> omega) | fail) only [↓RBp, ↓RA, ↓reduceIte, Nat.reduceAdd, Nat.reduceMul, Nat.reduceEqDiff, RB, RBr, RW, RS, RA2, c0, c1, c2, c3, c4, f37_k1_eq, f37_k1_t]
        refine k_once (h.ext (by repeat (first | with_reducible refine eB ?_ (by omega) _ | with_reducible refine eB ?_ (by simp only [RZ] <;> omega) _ | with_reducible assumption | exact eR _ | with_reducible refine eA ?_ _ | with_reducible refine eD ?_ | with_reducible refine eT ?_ (by assumption)))) o g L M _ _ (hL.ext (by repeat (first | with_reducible refine eB ?_ (by omega) _ | with_reducible refine eB ?_ (by simp only [RZ] <;> omega) _ | with_reducible assumption | exact eR _ | with_reducible refine eA ?_ _ | with_reducible refine eD ?_ | with_reducible refine eT ?_ (by assumption)))) (hM.ext (by repeat (first | with_reducible refine eB ?_ (by omega) _ | with_reducible refine eB ?_ (by simp only [RZ] <;> omega) _ | with_reducible assumption | exact eR _ | with_reducible refine eA ?_ _ | with_reducible refine eD ?_ | with_reducible refine eT ?_ (by assumption)))) (by omega) (by omega) _ _ (by simp (disch := first | omega | simp only [RO] | (simp only [RZ] <;> omega) | fail) only [↓RBp, ↓RA, ↓reduceIte, Nat.reduceAdd, Nat.reduceMul, Nat.reduceEqDiff, RB, RBr, RW, RS, RA2]) (by simp (disch := first | omega | simp only [RO] | (simp only [RZ] <;> omega) | fail) only [↓RBp, ↓RA, ↓reduceIte, Nat.reduceAdd, Nat.reduceMul, Nat.reduceEqDiff, RB, RBr, RW, RS, RA2]) _ (fun w2 he2 => ?_)
        have e12 : Ext w1 w2 := Ext.trans (by repeat (first | with_reducible refine eB ?_ (by omega) _ | with_reducible refine eB ?_ (by simp only [RZ] <;> omega) _ | with_reducible assumption | exact eR _ | with_reducible refine eA ?_ _ | with_reducible refine eD ?_ | with_reducible refine eT ?_ (by assumption))) he2
        have e2 : Ext w w2 := e1.trans e12
        have he13 := he1.trans e12
        have ob1 := chCells he13; have d0 := ob1.1; have d1 := ob1.2.1; have d2 := ob1.2.2.1; have d3 := ob1.2.2.2.1; have d4 := ob1.2.2.2.2
        cases hon : ((onc (perS c) L 0).bind (onc (perS c) M)).isSome with
        | false =>
          simp (disch := first | omega | simp only [RO] | (simp only [RZ] <;> omega) | fail) only [↓RBp, ↓RA, ↓reduceIte, Nat.reduceAdd, Nat.reduceMul, Nat.reduceEqDiff, RB, RBr, RW, RS, RA2]
          exact hbad (fun ha => by have := ha.onc; rw [hon] at this; cases this) _ e2
        | true =>
          have hA : ActA c L ks M := ⟨hln, hkin, hon⟩
          simp (disch := first | omega | simp only [RO] | (simp only [RZ] <;> omega) | (with_reducible (repeat (first | assumption | exact Ext.refl _ | refine Ext.alloc ?_ _ | refine Ext.drew ?_ | refine Ext.trans ?_ (by assumption)))) | fail) only [↓RBp, ↓RA, ↓reduceIte, Nat.reduceAdd, Nat.reduceMul, Nat.reduceEqDiff, RB, RBr, RW, RS, RA2, d0, d1, d2, d3, d4, her]
          refine k_changes (h.ext e2) o g L M ks _ _ _ (hL.ext e2) (hk.ext e2) (hM.ext e2) lL lM hln hks hA.vL hA.vM _ (fun hn w3 he3 => ?_) (fun ws hs v' w3 he3 hnv hsl => ?_)
          · have e3 := e2.trans he3
            have he14 := he13.trans he3
            have ob2 := chCells he14; have g0 := ob2.1; have g1 := ob2.2.1; have g2 := ob2.2.2.1; have g3 := ob2.2.2.2.1; have g4 := ob2.2.2.2.2
            simp (disch := first | omega | simp only [RO] | (simp only [RZ] <;> omega) | (with_reducible (repeat (first | assumption | exact Ext.refl _ | refine Ext.alloc ?_ _ | refine Ext.drew ?_ | refine Ext.trans ?_ (by assumption)))) | fail) only [↓RBp, ↓RA, ↓reduceIte, Nat.reduceAdd, Nat.reduceMul, Nat.reduceEqDiff, RB, RBr, RW, RS, RA2, g0, g1, g2, g3, g4, her]
            exact hno hA hn _ e3
          · have e3 := e2.trans he3
            have he14 := he13.trans he3
            have ob3 := chCells he14; have g0 := ob3.1; have g1 := ob3.2.1; have g2 := ob3.2.2.1; have g3 := ob3.2.2.2.1; have g4 := ob3.2.2.2.2
            simp (disch := first | omega | simp only [RO] | (simp only [RZ] <;> omega) | (with_reducible (repeat (first | assumption | exact Ext.refl _ | refine Ext.alloc ?_ _ | refine Ext.drew ?_ | refine Ext.trans ?_ (by assumption)))) | fail) only [↓RBp, ↓RA, ↓reduceIte, Nat.reduceAdd, Nat.reduceMul, Nat.reduceEqDiff, RB, RBr, RW, RS, RA2, g0, g1, g2, g3, g4, her]
            exact hyes hA ws hs _ _ e3 (fun b hb => Nat.le_trans e2.size (hnv b hb)) hsl
  · have hnz : ¬ ((ks.length : Nat) : Int) = ((L.length : Nat) : Int) := by omega
    unfold f37_t
    simp (disch := first | omega | simp only [RO] | (simp only [RZ] <;> omega) | fail) only [↓RBp, ↓RA, ↓reduceIte, Nat.reduceAdd, Nat.reduceMul, Nat.reduceEqDiff, RB, RBr, RW, RS, RA2, dec_false hnz]
    exact hbad (fun ha => hln ha.len) _ (by repeat (first | with_reducible refine eB ?_ (by omega) _ | with_reducible refine eB ?_ (by simp only [RZ] <;> omega) _ | with_reducible assumption | exact eR _ | with_reducible refine eA ?_ _ | with_reducible refine eD ?_ | with_reducible refine eT ?_ (by assumption)))
end
end Go.Proofs.YtaeopkhdokaaoaaGreatDoor
namespace Go.Proofs.YtaeopkhdokaaoaaGreatDoor
open Go Go.Sh
set_option maxRecDepth 100000
set_option maxHeartbeats 4000000
set_option linter.unusedSimpArgs false
set_option linter.unusedVariables false
abbrev fmO (a b c g : Nat) : Obj := .cells #[.int .u8 (a : Int), .int .u8 (b : Int), .int .u8 (c : Int), .int .u16 (g : Int)] 67
abbrev fmV (a b c g : Nat) : Value := .agg #[.int .u8 (a : Int), .int .u8 (b : Int), .int .u8 (c : Int), .int .u16 (g : Int)]
structure Lv (w0 w : World) (Y : Lay) (D : DS) : Prop where
  dv : Dv w Y D
  gd : Good D
  ex : Ext w0 w
  nw : ∀ x, Y.F x → w0.heap.size ≤ x
section
variable {w0 w w' : World} {Y Y' : Lay} {D D' : DS} {a b c g : Nat}
theorem Lv.ext (h : Lv w0 w Y D) (e : Ext w w') : Lv w0 w' Y D := ⟨h.dv.ext e, h.gd, h.ex.trans e, h.nw⟩
theorem Ext.frm {F : Nat → Prop} (h : Ext w0 w) (f : Frm F w w') (hF : ∀ x, F x → w0.heap.size ≤ x) : Ext w0 w' :=
  (Frm.trans (F := Nob) (G := F) (Frm.of_ext h) f (fun x hx hf => by have := hF x hf; omega)).to_ext (fun _ _ h => h)
theorem Lv.step (h : Lv w0 w Y D) (s : Stp w Y w' Y' D') (g : Good D') : Lv w0 w' Y' D' := by
  refine ⟨s.dv, g, Ext.frm h.ex s.frm h.nw, fun x hx => ?_⟩
  rcases s.fr x hx with h1 | h1
  · exact h.nw x h1
  · exact Nat.le_trans h.ex.size h1
theorem Lv.frm {G : Nat → Prop} (h : Lv w0 w Y D) (f : Frm G w w') (hG : ∀ b, G b → b < w0.heap.size) : Dv w' Y D :=
  h.dv.frm f (fun b hb hg => by have := h.nw b hb; have := hG b hg; omega)
theorem Lv.out {v : Value} (h : Lv w0 w Y D) (hv : NewV w.heap.size v) : ∀ b, v.ownBlock = some b → ¬ Y.F b := fun b hb hf => by
  have h1 := h.dv.lt hf; have h2 := hv b hb; omega
theorem fmCells {w1 : World} (he : Ext (w.alloc (fmO a b c g)) w1) : w1.cell? ⟨w.heap.size, 0, none⟩ = some (.int .u8 (a : Int)) ∧ w1.cell? ⟨w.heap.size, 1, none⟩ = some (.int .u8 (b : Int)) ∧ w1.cell? ⟨w.heap.size, 2, none⟩ = some (.int .u8 (c : Int)) ∧ w1.cell? ⟨w.heap.size, 3, none⟩ = some (.int .u16 (g : Int)) := by
  have : ∀ i, w1.cell? ⟨w.heap.size, i, none⟩ = _ := fun i => he.cell _ i (by simp only [RZ]; omega)
  refine ⟨?_, ?_, ?_, ?_⟩ <;> (rw [this, cell_new _ _ _ _ _ rfl]; rfl)
theorem c_fline (a b c g : Nat) (ha : a < 256) (w : World) (K : K1) : callS Tryz.prog 41 #[fmV a b c g] w K = K (.int .i64 ((a % 9 : Nat) : Int)) (w.alloc (fmO a b c g)) := by
  refine callS_det (by kernel_rfl) (f41_call _ _ _ ?_) K
  unfold f41_t
  have e1 : ((a : Int) % 9) = ((a % 9 : Nat) : Int) := by omega
  simp (disch := first | omega | simp only [RO] | (simp only [RZ] <;> omega) | fail) only [↓RBp, ↓RA, ↓reduceIte, Nat.reduceAdd, Nat.reduceMul, Nat.reduceEqDiff, RB, RBr, RW, RS, RA2, e1]
def genN (g : Nat) : Nat := if g < 1 then 1 else g
theorem c_fheader (a b c g : Nat) (hb : b < 256) (hc : c < 256) (hg : g < 65536) (w : World) (K : K1) : callS Tryz.prog 34 #[fmV a b c g] w K = K (.agg #[.int .i64 ((b % 5 : Nat) : Int), .int .i64 ((c % 8 : Nat) : Int), .int .u16 ((genN g : Nat) : Int)]) ((w.alloc (fmO a b c g)).alloc (hdO ((b % 5 : Nat) : Int) ((c % 8 : Nat) : Int) (genN g))) := by
  refine callS_det (by kernel_rfl) (f34_call _ _ _ ?_) K
  unfold f34_t hdO
  have e1 : ((b : Int) % 5) = ((b % 5 : Nat) : Int) := by omega
  have e2 : ((c : Int) % 8) = ((c % 8 : Nat) : Int) := by omega
  have e3 : (if ((g : Nat) : Int) < ((1 : Nat) : Int) then ((1 : Nat) : Int) else ((g : Nat) : Int)) = ((genN g : Nat) : Int) := by unfold genN; split <;> split <;> omega
  simp (disch := first | omega | simp only [RO] | (simp only [RZ] <;> omega) | fail) only [↓RBp, ↓RA, ↓reduceIte, Nat.reduceAdd, Nat.reduceMul, Nat.reduceEqDiff, RB, RBr, RW, RS, RA2, e1, e2, e3]
end
end Go.Proofs.YtaeopkhdokaaoaaGreatDoor
namespace Go.Proofs.YtaeopkhdokaaoaaGreatDoor
open Go Go.Sh
set_option maxRecDepth 100000
set_option linter.unusedVariables false
noncomputable def f12_c : Code := (Tryz.f12.body).getD .skip
def f12_rs : List ResultVar := [.tmp 0]
abbrev f12_e (K : K1) : KF := endK Tryz.prog f12_rs K
def f12_k1_t (x1 x4 x5 x7 : Value) (K : K1) (w : World) : Prop :=
 gd x5 true (fun k => k x4 w) w fun t50 w_1 =>
 gd x5 true (fun k => ev Tryz.prog (binM .eql 22 (.tmp 50) (.const (.int .u16 ((1 : Nat) : Int))) t50 (.int .u16 ((1 : Nat) : Int))) w_1 k) w_1 fun t51 w_2 =>
 pickS x5 t51 (.bool false) w_2 fun t52 w_3 =>
 gd t52 true (fun k => k x7 w_3) w_3 fun t54 w_4 =>
 gd t52 true (fun k => ev Tryz.prog (binM .eql 28 (.tmp 54) (.const (.int .i64 0)) t54 (.int .i64 0)) w_4 k) w_4 fun t55 w_5 =>
 pickS t52 t55 (.bool false) w_5 fun t56 w_6 =>
 gd t56 true (fun k => ldS Tryz.prog 58 x1 w_6 k) w_6 fun t58 w_7 =>
 gd t56 true (fun k => callS Tryz.prog 47 (pA #[t58, (.int .i64 0)]) w_7 k) w_7 fun t59 w_8 =>
 pickS t56 t59 (.bool false) w_8 fun t60 w_9 =>
 gd t60 true (fun k => ldS Tryz.prog 58 x1 w_9 k) w_9 fun t62 w_10 =>
 gd t60 true (fun k => callS Tryz.prog 45 (pA #[t62]) w_10 k) w_10 fun t63 w_11 =>
 gd t60 true (fun k => ev Tryz.prog (binM .eql 3 (.tmp 63) (.const (.int .i64 1)) t63 (.int .i64 1)) w_11 k) w_11 fun t64 w_12 =>
 pickS t60 t64 (.bool false) w_12 fun t65 w_13 =>
 gd t65 true (fun k => ldS Tryz.prog 58 x1 w_13 k) w_13 fun t67 w_14 =>
 gd t65 true (fun k => callS Tryz.prog 50 (pA #[t67, (.int .i64 0)]) w_14 k) w_14 fun t68 w_15 =>
 gd t65 true (fun k => ev Tryz.prog (binM .eql 3 (.tmp 68) (.const (.int .i64 1)) t68 (.int .i64 1)) w_15 k) w_15 fun t69 w_16 =>
 pickS t65 t69 (.bool false) w_16 fun t70 w_17 =>
 K t70 w_17
theorem f12_k1_sk (z : Nat → Value) (K : K1) (w : World) : (cS (cr (cr (cr (cr (cr (cr f12_c)))))) (f12_e K) (f12_e K) nX (frL 71 z 0) w) = f12_k1_t (z 1) (z 4) (z 5) (z 7) K w := by kernel_rfl
def f12_k1 (K : K1) (x1 x4 x5 x7 : Value) (w : World) : Prop := f12_k1_t x1 x4 x5 x7 K w
theorem f12_k1_eq (K : K1) (x1 x4 x5 x7 : Value) (w : World) : f12_k1 K x1 x4 x5 x7 w = f12_k1_t x1 x4 x5 x7 K w := rfl
def f12_k1_o (K : K1) : KF := fun fr w => cS (cr (cr (cr (cr (cr (cr f12_c)))))) (f12_e K) (f12_e K) nX fr w
theorem f12_k1_s (K : K1)  (f0 : Fr) (hn : f0.length = 71) (fr : Fr) (w : World) (hs : Same 2361183241434822606847 f0 fr) (h : f12_k1 K (sv fr 1) (sv fr 4) (sv fr 5) (sv fr 7) w) : f12_k1_o K fr w := by
  have h1 := cast (f12_k1_sk (fun i => sv fr i) K w).symm h
  rw [show frL 71 (fun i => sv fr i) 0 = fr from frL_of (hs.len.trans hn)] at h1
  have h2 : cS (cr (cr (cr (cr (cr (cr f12_c)))))) (f12_e K) (f12_e K) nX fr w := (codeS_mono (m := 2361183241434822606847) (f0 := f0) (cr (cr (cr (cr (cr (cr f12_c)))))) (by kernel_rfl) (fun _ _ _ h => h) (fun _ _ _ h => h) (fun _ _ _ _ h => h) fr w hs) h1
  exact cast (by kernel_rfl) h2
def f12_l1_t (x1 x3 x4 x5 x7 x35 x36 x37 : Value) (K : K1) (E1 : Value → World → Prop) (c_f12_k1 : Value → Value → Value → Value → World → Prop) (w : World) : Prop :=
 ev Tryz.prog (binM .lss 3 (.tmp 37) (.tmp 36) x37 x36) w fun t38 w_1 =>
 cndS t38 (
 ev Tryz.prog (Instr.indexAt 38 x35 x37) w_1 fun t39 w_2 =>
 ldS Tryz.prog 37 t39 w_2 fun t40 w_3 =>
 ev Tryz.prog (Instr.alloc 37 true (.tuple #[])) w_3 fun t9 w_4 =>
 stS Tryz.prog 37 t9 t40 w_4 fun w_5 =>
 ev Tryz.prog (Instr.fieldAt 37 t9 0) w_5 fun t42 w_6 =>
 ldS Tryz.prog 33 t42 w_6 fun t43 w_7 =>
 ev Tryz.prog (Instr.fieldAt 37 t9 1) w_7 fun t44 w_8 =>
 ldS Tryz.prog 33 t44 w_8 fun t45 w_9 =>
 callS Tryz.prog 25 (pA #[x3, t43, t45]) w_9 fun t46 w_10 =>
 ev Tryz.prog (binM .add 3 (.tmp 37) (.const (.int .i64 1)) x37 (.int .i64 1)) w_10 fun t47 w_11 =>
 E1 t47 w_11) (
 c_f12_k1 x1 x4 x5 x7 w_1)
theorem f12_l1_sk (z : Nat → Value) (K : K1) (E1 : Value → World → Prop) (c_f12_k1 : Value → Value → Value → Value → World → Prop) (w : World) : (cS (cl (cl (cr (cl (cr (cr (cr (cr (cr f12_c))))))))) (fun fr w => E1 (sv fr 37) w) (f12_e K) (exB 0 (fun fr w => c_f12_k1 (sv fr 1) (sv fr 4) (sv fr 5) (sv fr 7) w) nX) (frL 71 z 0) w) = f12_l1_t (z 1) (z 3) (z 4) (z 5) (z 7) (z 35) (z 36) (z 37) K E1 c_f12_k1 w := by kernel_rfl
def f12_l1 (K : K1) (x1 x3 x4 x5 x7 x35 x36 x37 : Value) (w : World) : Prop := ∃ (I : Value → World → Prop) (μ : Value → World → Nat), I x37 w ∧ ∀ (x37 : Value) (w : World), I x37 w → ∀ E1 : Value → World → Prop, (∀ (y37 : Value) (w' : World), I y37 w' → μ y37 w' < μ x37 w → E1 y37 w') → f12_l1_t x1 x3 x4 x5 x7 x35 x36 x37 K E1 (f12_k1 K) w
theorem f12_l1_rule (x1 x3 x4 x5 x7 x35 x36 x37 : Value) (K : K1) (w : World) (I : Value → World → Prop) (μ : Value → World → Nat) (h0 : I x37 w)
    (hr : ∀ (x37 : Value) (w : World), I x37 w → ∀ E1 : Value → World → Prop, (∀ (y37 : Value) (w' : World), I y37 w' → μ y37 w' < μ x37 w → E1 y37 w') → f12_l1_t x1 x3 x4 x5 x7 x35 x36 x37 K E1 (f12_k1 K) w) : f12_l1 K x1 x3 x4 x5 x7 x35 x36 x37 w := ⟨I, μ, h0, hr⟩
def f12_l1_o (K : K1) : KF := fun fr w => cS (cl (cr (cl (cr (cr (cr (cr (cr f12_c)))))))) (fun _ _ => False) (f12_e K) (exB 0 (f12_k1_o K) nX) fr w
theorem f12_l1_b (K : K1)  (E1 : Value → World → Prop) (F1 : KF) (f0 : Fr) (hn : f0.length = 71) (f1 : Fr) (a1 : Same 2361183241434822606847 f0 f1) (b1 : ∀ fr w, Same 281337537757696 f1 fr → E1 (sv fr 37) w → F1 fr w) (fr : Fr) (w : World) (hs : Same 281337537757696 f1 fr) (h : f12_l1_t (sv fr 1) (sv fr 3) (sv fr 4) (sv fr 5) (sv fr 7) (sv fr 35) (sv fr 36) (sv fr 37) K E1 (f12_k1 K) w) : cS (cl (cl (cr (cl (cr (cr (cr (cr (cr f12_c))))))))) F1 (f12_e K) (exB 0 (f12_k1_o K) nX) fr w := by
  have h1 := cast (f12_l1_sk (fun i => sv fr i) K E1 (f12_k1 K) w).symm h
  rw [show frL 71 (fun i => sv fr i) 0 = fr from frL_of (hs.len.trans (a1.len.trans hn))] at h1
  have h2 : cS (cl (cl (cr (cl (cr (cr (cr (cr (cr f12_c))))))))) F1 (f12_e K) (exB 0 (f12_k1_o K) nX) fr w := (codeS_mono (m := 281337537757696) (f0 := f1) (cl (cl (cr (cl (cr (cr (cr (cr (cr f12_c))))))))) (by kernel_rfl) (fun fr w hs h => b1 fr w hs h) (fun _ _ _ h => h) (exB_mono (fun fr w hs h => f12_k1_s K f0 hn fr w (Same.up (by kernel_rfl) a1 hs) h) (fun _ _ _ _ h => h)) fr w hs) h1
  exact cast (by kernel_rfl) h2
theorem f12_l1_s (K : K1)  (f0 : Fr) (hn : f0.length = 71) (fr : Fr) (w : World) (hs : Same 2361183241434822606847 f0 fr) (h : f12_l1 K (sv fr 1) (sv fr 3) (sv fr 4) (sv fr 5) (sv fr 7) (sv fr 35) (sv fr 36) (sv fr 37) w) : f12_l1_o K fr w := by
  obtain ⟨I, μ, h0, hr⟩ := h
  have hL : loopS (fun E fr w => cS (cl (cl (cr (cl (cr (cr (cr (cr (cr f12_c))))))))) E (f12_e K) (exB 0 (f12_k1_o K) nX) fr w) fr w := by
    refine ⟨fun f' w' => Same 281337537757696 fr f' ∧ I (sv f' 37) w', fun f' w' => μ (sv f' 37) w', ⟨Same.refl _ _, h0⟩, ?_⟩
    intro f' w' hI
    have hb := hr (sv f' 37) w' hI.2 (fun y37 w2 => I y37 w2 ∧ μ y37 w2 < μ (sv f' 37) w') (fun y37 w2 a b => ⟨a, b⟩)
    rw [← hI.1.sv 1 (by kernel_rfl), ← hI.1.sv 3 (by kernel_rfl), ← hI.1.sv 4 (by kernel_rfl), ← hI.1.sv 5 (by kernel_rfl), ← hI.1.sv 7 (by kernel_rfl), ← hI.1.sv 35 (by kernel_rfl), ← hI.1.sv 36 (by kernel_rfl)] at hb
    exact f12_l1_b K _ _ f0 hn fr hs (fun f w h1 h2 => ⟨⟨h1, h2.1⟩, h2.2⟩) f' w' hI.1 hb
  exact cast (by kernel_rfl) hL
def f12_t (K : K1) (c_f12_l1 : Value → Value → Value → Value → Value → Value → Value → Value → World → Prop) (w : World) : Prop :=
 ev Tryz.prog (Instr.build 67 #[(1, (.int .u8 ((4 : Nat) : Int)))]) w fun t11 w_1 =>
 callS Tryz.prog 33 (pA #[t11]) w_1 fun t12 w_2 =>
 ev Tryz.prog (Instr.extract t12 0) w_2 fun t13 w_3 =>
 ev Tryz.prog (Instr.extract t12 1) w_3 fun t14 w_4 =>
 ev Tryz.prog (Instr.extract t12 2) w_4 fun t15 w_5 =>
 ev Tryz.prog (Instr.alloc 58 true (.tuple #[])) w_5 fun t1 w_6 =>
 stS Tryz.prog 58 t1 t13 w_6 fun w_7 =>
 ev Tryz.prog (binM .eql 48 (.tmp 16) (.const (.pointer none)) t15 (.pointer none)) w_7 fun t17 w_8 =>
 gd t17 false (fun k => ldS Tryz.prog 58 t1 w_8 k) w_8 fun t19 w_9 =>
 gd t17 false (fun k => callS Tryz.prog 50 (pA #[t19, (.int .i64 0)]) w_9 k) w_9 fun t20 w_10 =>
 gd t17 false (fun k => ev Tryz.prog (binM .neq 3 (.tmp 20) (.const (.int .i64 0)) t20 (.int .i64 0)) w_10 k) w_10 fun t21 w_11 =>
 pickS t17 (.bool true) t21 w_11 fun t22 w_12 =>
 cndS t22 (
 K (.bool false) w_12) (
 ldS Tryz.prog 58 t1 w_12 fun t24 w_13 =>
 callS Tryz.prog 43 (pA #[t24]) w_13 fun t25 w_14 =>
 ev Tryz.prog (Instr.extract t25 0) w_14 fun t26 w_15 =>
 ev Tryz.prog (Instr.extract t25 1) w_15 fun t27 w_16 =>
 ldS Tryz.prog 58 t1 w_16 fun t29 w_17 =>
 ev Tryz.prog (Instr.buildSlice 74 1 #[(0, (.int .i64 0))]) w_17 fun t30 w_18 =>
 ev Tryz.prog (Instr.buildSlice 75 1 #[(0, (.int .u8 ((64 : Nat) : Int)))]) w_18 fun t31 w_19 =>
 callS Tryz.prog 37 (pA #[t29, t30, t31, (.slice none 0 0)]) w_19 fun t32 w_20 =>
 ev Tryz.prog (Instr.extract t32 0) w_20 fun t33 w_21 =>
 ev Tryz.prog (Instr.extract t32 1) w_21 fun t34 w_22 =>
 bltS Tryz.prog .len #[38] 3 #[false] #[t33] w_22 fun t36 w_23 =>
 c_f12_l1 t1 t15 t26 t27 t34 t33 t36 (.int .i64 0) w_23)
theorem f12_sk (K : K1) (c_f12_l1 : Value → Value → Value → Value → Value → Value → Value → Value → World → Prop) (w : World) : (cS (cl f12_c) (fun fr w => cS (cl (cr f12_c)) (fun fr w => cS (cl (cr (cr f12_c))) (fun fr w => cS (cl (cr (cr (cr f12_c)))) (fun fr w => cS (cl (cr (cr (cr (cr f12_c))))) (fun fr w => cS (cl (cl (cr (cr (cr (cr (cr f12_c))))))) (fun fr w => c_f12_l1 (sv fr 1) (sv fr 3) (sv fr 4) (sv fr 5) (sv fr 7) (sv fr 35) (sv fr 36) (sv fr 37) w) (f12_e K) nX fr w) (f12_e K) nX fr w) (f12_e K) nX fr w) (f12_e K) nX fr w) (f12_e K) nX fr w) (f12_e K) nX ([] ++ List.replicate (71 - 0) undef) w) = f12_t K c_f12_l1 w := by kernel_rfl
theorem f12_ok : codeOk Tryz.prog 71 f12_c = true := by kernel_rfl
theorem f12_m (K : K1) (f0 : Fr) (hn : f0.length = 71) (w : World) (h1 : cS (cl f12_c) (fun fr w => cS (cl (cr f12_c)) (fun fr w => cS (cl (cr (cr f12_c))) (fun fr w => cS (cl (cr (cr (cr f12_c)))) (fun fr w => cS (cl (cr (cr (cr (cr f12_c))))) (fun fr w => cS (cl (cl (cr (cr (cr (cr (cr f12_c))))))) (fun fr w => f12_l1 K (sv fr 1) (sv fr 3) (sv fr 4) (sv fr 5) (sv fr 7) (sv fr 35) (sv fr 36) (sv fr 37) w) (f12_e K) nX fr w) (f12_e K) nX fr w) (f12_e K) nX fr w) (f12_e K) nX fr w) (f12_e K) nX fr w) (f12_e K) nX f0 w) : cS f12_c (f12_e K) (f12_e K) nX f0 w := by
  have hs := Same.refl 2361183241434822606847 f0
  let fr := f0
  have h2 : cS (cl f12_c) (fun fr w => cS (cl (cr f12_c)) (fun fr w => cS (cl (cr (cr f12_c))) (fun fr w => cS (cl (cr (cr (cr f12_c)))) (fun fr w => cS (cl (cr (cr (cr (cr f12_c))))) (fun fr w => cS (cl (cl (cr (cr (cr (cr (cr f12_c))))))) (fun fr w => f12_l1_o K fr w) (f12_e K) nX fr w) (f12_e K) nX fr w) (f12_e K) nX fr w) (f12_e K) nX fr w) (f12_e K) nX fr w) (f12_e K) nX fr w := (codeS_mono (m := 2361183241434822606847) (f0 := f0) (cl f12_c) (by kernel_rfl) (fun fr w hs => codeS_mono (m := 2361183241434822606847) (f0 := f0) (cl (cr f12_c)) (by kernel_rfl) (fun fr w hs => codeS_mono (m := 2361183241434822606847) (f0 := f0) (cl (cr (cr f12_c))) (by kernel_rfl) (fun fr w hs => codeS_mono (m := 2361183241434822606847) (f0 := f0) (cl (cr (cr (cr f12_c)))) (by kernel_rfl) (fun fr w hs => codeS_mono (m := 2361183241434822606847) (f0 := f0) (cl (cr (cr (cr (cr f12_c))))) (by kernel_rfl) (fun fr w hs => codeS_mono (m := 2361183241434822606847) (f0 := f0) (cl (cl (cr (cr (cr (cr (cr f12_c))))))) (by kernel_rfl) (fun fr w hs => (fun h => f12_l1_s K f0 hn fr w hs h)) (fun _ _ _ h => h) (fun _ _ _ _ h => h) fr w hs) (fun _ _ _ h => h) (fun _ _ _ _ h => h) fr w hs) (fun _ _ _ h => h) (fun _ _ _ _ h => h) fr w hs) (fun _ _ _ h => h) (fun _ _ _ _ h => h) fr w hs) (fun _ _ _ h => h) (fun _ _ _ _ h => h) fr w hs) (fun _ _ _ h => h) (fun _ _ _ _ h => h) fr w hs) h1
  exact cast (by kernel_rfl) h2
theorem f12_call (K : K1) (w : World) (h : f12_t K (f12_l1 K) w) : callS Tryz.prog 12 #[] w K :=
  calls_of_codeS (args := []) mixed Tryz.func12 (show Tryz.f12.body = some f12_c from rfl) rfl (show Tryz.f12.results = f12_rs.toArray from rfl) f12_ok (by simp) (f12_m K _ (by simp) w (cast (f12_sk K (f12_l1 K) w).symm h))
noncomputable def f17_c : Code := (Tryz.f17.body).getD .skip
def f17_rs : List ResultVar := [.tmp 4]
abbrev f17_e (K : K1) : KF := endK Tryz.prog f17_rs K
def f17_k1_t (K : K1) (w : World) : Prop :=
 K (.bool true) w
theorem f17_k1_sk (z : Nat → Value) (K : K1) (w : World) : (cS (cr (cr (cr f17_c))) (f17_e K) (f17_e K) nX (frL 26 z 0) w) = f17_k1_t K w := by kernel_rfl
def f17_k1 (K : K1) (w : World) : Prop := f17_k1_t K w
theorem f17_k1_eq (K : K1) (w : World) : f17_k1 K w = f17_k1_t K w := rfl
def f17_k1_o (K : K1) : KF := fun fr w => cS (cr (cr (cr f17_c))) (f17_e K) (f17_e K) nX fr w
theorem f17_k1_s (K : K1)  (f0 : Fr) (hn : f0.length = 26) (fr : Fr) (w : World) (hs : Same 67108863 f0 fr) (h : f17_k1 K w) : f17_k1_o K fr w := by
  have h1 := cast (f17_k1_sk (fun i => sv fr i) K w).symm h
  rw [show frL 26 (fun i => sv fr i) 0 = fr from frL_of (hs.len.trans hn)] at h1
  have h2 : cS (cr (cr (cr f17_c))) (f17_e K) (f17_e K) nX fr w := (codeS_mono (m := 67108863) (f0 := f0) (cr (cr (cr f17_c))) (by kernel_rfl) (fun _ _ _ h => h) (fun _ _ _ h => h) (fun _ _ _ _ h => h) fr w hs) h1
  exact cast (by kernel_rfl) h2
def f17_l1_t (x0 x1 x12 x13 : Value) (K : K1) (E1 : Value → World → Prop) (c_f17_k1 : World → Prop) (w : World) : Prop :=
 ev Tryz.prog (binM .lss 3 (.tmp 13) (.tmp 12) x13 x12) w fun t14 w_1 =>
 cndS t14 (
 rd Tryz.prog (Instr.indexAt 27 x0 x13) w_1.drew fun t18 =>
 ldR Tryz.prog 133 t18 w_1.drew fun t19 =>
 rd Tryz.prog (Instr.indexAt 27 x1 x13) w_1.drew fun t22 =>
 ldR Tryz.prog 133 t22 w_1.drew fun t23 =>
 rd Tryz.prog (binM .neq 133 (.tmp 19) (.tmp 23) t19 t23) w_1.drew fun t24 =>
 cndS t24 (
 K (.bool false) w_1.drew) (
 ev Tryz.prog (binM .add 3 (.tmp 13) (.const (.int .i64 1)) x13 (.int .i64 1)) w_1.drew fun t25 w_2 =>
 E1 t25 w_2)) (
 c_f17_k1 w_1)
theorem f17_l1_sk (z : Nat → Value) (K : K1) (E1 : Value → World → Prop) (c_f17_k1 : World → Prop) (w : World) : (cS (cl (cl (cr (cl (cr (cr f17_c)))))) (fun fr w => E1 (sv fr 13) w) (f17_e K) (exB 0 (fun fr w => c_f17_k1 w) nX) (frL 26 z 0) w) = f17_l1_t (z 0) (z 1) (z 12) (z 13) K E1 c_f17_k1 w := by kernel_rfl
def f17_l1 (K : K1) (x0 x1 x12 x13 : Value) (w : World) : Prop := ∃ (I : Value → World → Prop) (μ : Value → World → Nat), I x13 w ∧ ∀ (x13 : Value) (w : World), I x13 w → ∀ E1 : Value → World → Prop, (∀ (y13 : Value) (w' : World), I y13 w' → μ y13 w' < μ x13 w → E1 y13 w') → f17_l1_t x0 x1 x12 x13 K E1 (f17_k1 K) w
theorem f17_l1_rule (x0 x1 x12 x13 : Value) (K : K1) (w : World) (I : Value → World → Prop) (μ : Value → World → Nat) (h0 : I x13 w)
    (hr : ∀ (x13 : Value) (w : World), I x13 w → ∀ E1 : Value → World → Prop, (∀ (y13 : Value) (w' : World), I y13 w' → μ y13 w' < μ x13 w → E1 y13 w') → f17_l1_t x0 x1 x12 x13 K E1 (f17_k1 K) w) : f17_l1 K x0 x1 x12 x13 w := ⟨I, μ, h0, hr⟩
def f17_l1_o (K : K1) : KF := fun fr w => cS (cl (cr (cl (cr (cr f17_c))))) (fun _ _ => False) (f17_e K) (exB 0 (f17_k1_o K) nX) fr w
theorem f17_l1_b (K : K1)  (E1 : Value → World → Prop) (F1 : KF) (f0 : Fr) (hn : f0.length = 26) (f1 : Fr) (a1 : Same 67108863 f0 f1) (b1 : ∀ fr w, Same 67100720 f1 fr → E1 (sv fr 13) w → F1 fr w) (fr : Fr) (w : World) (hs : Same 67100720 f1 fr) (h : f17_l1_t (sv fr 0) (sv fr 1) (sv fr 12) (sv fr 13) K E1 (f17_k1 K) w) : cS (cl (cl (cr (cl (cr (cr f17_c)))))) F1 (f17_e K) (exB 0 (f17_k1_o K) nX) fr w := by
  have h1 := cast (f17_l1_sk (fun i => sv fr i) K E1 (f17_k1 K) w).symm h
  rw [show frL 26 (fun i => sv fr i) 0 = fr from frL_of (hs.len.trans (a1.len.trans hn))] at h1
  have h2 : cS (cl (cl (cr (cl (cr (cr f17_c)))))) F1 (f17_e K) (exB 0 (f17_k1_o K) nX) fr w := (codeS_mono (m := 67100720) (f0 := f1) (cl (cl (cr (cl (cr (cr f17_c)))))) (by kernel_rfl) (fun fr w hs h => b1 fr w hs h) (fun _ _ _ h => h) (exB_mono (fun fr w hs h => f17_k1_s K f0 hn fr w (Same.up (by kernel_rfl) a1 hs) h) (fun _ _ _ _ h => h)) fr w hs) h1
  exact cast (by kernel_rfl) h2
theorem f17_l1_s (K : K1)  (f0 : Fr) (hn : f0.length = 26) (fr : Fr) (w : World) (hs : Same 67108863 f0 fr) (h : f17_l1 K (sv fr 0) (sv fr 1) (sv fr 12) (sv fr 13) w) : f17_l1_o K fr w := by
  obtain ⟨I, μ, h0, hr⟩ := h
  have hL : loopS (fun E fr w => cS (cl (cl (cr (cl (cr (cr f17_c)))))) E (f17_e K) (exB 0 (f17_k1_o K) nX) fr w) fr w := by
    refine ⟨fun f' w' => Same 67100720 fr f' ∧ I (sv f' 13) w', fun f' w' => μ (sv f' 13) w', ⟨Same.refl _ _, h0⟩, ?_⟩
    intro f' w' hI
    have hb := hr (sv f' 13) w' hI.2 (fun y13 w2 => I y13 w2 ∧ μ y13 w2 < μ (sv f' 13) w') (fun y13 w2 a b => ⟨a, b⟩)
    rw [← hI.1.sv 0 (by kernel_rfl), ← hI.1.sv 1 (by kernel_rfl), ← hI.1.sv 12 (by kernel_rfl)] at hb
    exact f17_l1_b K _ _ f0 hn fr hs (fun f w h1 h2 => ⟨⟨h1, h2.1⟩, h2.2⟩) f' w' hI.1 hb
  exact cast (by kernel_rfl) hL
def f17_t (x0 x1 : Value) (K : K1) (c_f17_l1 : Value → Value → Value → Value → World → Prop) (w : World) : Prop :=
 bltS Tryz.prog .len #[27] 3 #[false] #[x0] w fun t7 w_1 =>
 bltS Tryz.prog .len #[27] 3 #[false] #[x1] w_1 fun t9 w_2 =>
 ev Tryz.prog (binM .neq 3 (.tmp 7) (.tmp 9) t7 t9) w_2 fun t10 w_3 =>
 cndS t10 (
 K (.bool false) w_3) (
 bltS Tryz.prog .len #[27] 3 #[false] #[x0] w_3 fun t12 w_4 =>
 c_f17_l1 x0 x1 t12 (.int .i64 0) w_4)
theorem f17_sk (x0 x1 : Value) (K : K1) (c_f17_l1 : Value → Value → Value → Value → World → Prop) (w : World) : (cS (cl f17_c) (fun fr w => cS (cl (cr f17_c)) (fun fr w => cS (cl (cl (cr (cr f17_c)))) (fun fr w => c_f17_l1 (sv fr 0) (sv fr 1) (sv fr 12) (sv fr 13) w) (f17_e K) nX fr w) (f17_e K) nX fr w) (f17_e K) nX ([x0, x1] ++ List.replicate (26 - 2) undef) w) = f17_t x0 x1 K c_f17_l1 w := by kernel_rfl
theorem f17_ok : codeOk Tryz.prog 26 f17_c = true := by kernel_rfl
theorem f17_m (K : K1) (f0 : Fr) (hn : f0.length = 26) (w : World) (h1 : cS (cl f17_c) (fun fr w => cS (cl (cr f17_c)) (fun fr w => cS (cl (cl (cr (cr f17_c)))) (fun fr w => f17_l1 K (sv fr 0) (sv fr 1) (sv fr 12) (sv fr 13) w) (f17_e K) nX fr w) (f17_e K) nX fr w) (f17_e K) nX f0 w) : cS f17_c (f17_e K) (f17_e K) nX f0 w := by
  have hs := Same.refl 67108863 f0
  let fr := f0
  have h2 : cS (cl f17_c) (fun fr w => cS (cl (cr f17_c)) (fun fr w => cS (cl (cl (cr (cr f17_c)))) (fun fr w => f17_l1_o K fr w) (f17_e K) nX fr w) (f17_e K) nX fr w) (f17_e K) nX fr w := (codeS_mono (m := 67108863) (f0 := f0) (cl f17_c) (by kernel_rfl) (fun fr w hs => codeS_mono (m := 67108863) (f0 := f0) (cl (cr f17_c)) (by kernel_rfl) (fun fr w hs => codeS_mono (m := 67108863) (f0 := f0) (cl (cl (cr (cr f17_c)))) (by kernel_rfl) (fun fr w hs => (fun h => f17_l1_s K f0 hn fr w hs h)) (fun _ _ _ h => h) (fun _ _ _ _ h => h) fr w hs) (fun _ _ _ h => h) (fun _ _ _ _ h => h) fr w hs) (fun _ _ _ h => h) (fun _ _ _ _ h => h) fr w hs) h1
  exact cast (by kernel_rfl) h2
theorem f17_call (x0 x1 : Value) (K : K1) (w : World) (h : f17_t x0 x1 K (f17_l1 K) w) : callS Tryz.prog 17 #[x0, x1] w K :=
  calls_of_codeS (args := [x0, x1]) mixed Tryz.func17 (show Tryz.f17.body = some f17_c from rfl) rfl (show Tryz.f17.results = f17_rs.toArray from rfl) f17_ok (by simp) (f17_m K _ (by simp) w (cast (f17_sk x0 x1 K (f17_l1 K) w).symm h))
end Go.Proofs.YtaeopkhdokaaoaaGreatDoor
namespace Go.Proofs.YtaeopkhdokaaoaaGreatDoor
open Go Go.Sh
set_option maxRecDepth 100000
set_option maxHeartbeats 4000000
set_option linter.unusedSimpArgs false
set_option linter.unusedVariables false
theorem applyH_val {ws : List (Nat × Nat)} : ∀ {f : Nat → Nat} {x v : Nat}, (∀ y ∈ ws, y.1 / 8 = x → y.2 = v) → ((∃ y ∈ ws, y.1 / 8 = x) ∨ f x = v) → applyH ws f x = v := by
  induction ws with
  | nil =>
    intro f x v _ h
    rcases h with ⟨y, hy, _⟩ | h
    · cases hy
    · exact h
  | cons z ws ih =>
    intro f x v h1 h2
    rw [applyH_cons]
    refine ih (fun y hy => h1 y (by simp [hy])) ?_
    by_cases hx : x = z.1 / 8
    · right
      simp only [hx, if_true]
      exact h1 z (by simp) hx.symm
    · rcases h2 with ⟨y, hy, hyx⟩ | h2
      · rcases List.mem_cons.1 hy with rfl | hy
        · exact absurd hyx.symm hx
        · exact .inl ⟨y, hy, hyx⟩
      · right; simp only [hx, if_false]; exact h2
def DS.opened (l : Nat) (c o : Int) (g : Nat) : DS := ((DS.zero 40).run 0 (clrI l g)).run 0 (planI l c o g)
def isB (c : Int) (j : Nat) : Bool := (List.range (perS c).toNat).any fun i => offN c i == j
def fmtW (c o : Int) (g j : Nat) : Nat := if j = 0 then sealN (hdX c o g) else if isB c j = true then sealN (blkX g 0 176) else 0
section
variable {l g : Nat} {c o : Int}
theorem planW_ok (hl : l ≤ 8) (c0 : 0 ≤ c) (c5 : c < 5) (hg : g < 65536) : ∀ x ∈ planW l c g, (x.1 % 8 = 0 ∧ x.1 < 40 * 64) ∧ x.1 < 18446744073709551616 ∧ x.2 < 18446744073709551616 := by
  have hp := perS_in c0 c5
  have hw := wordsS_in c0 c5
  have hs := sealN_lt (blkX g 0 176) (blkX_lt hg (by omega) (by omega))
  intro x hx
  rcases List.mem_append.1 hx with hx | hx
  · obtain ⟨j, hj, rfl⟩ := List.mem_map.1 hx
    have hb2 := offS_bd c0 c5 (show 0 ≤ (j : Int) by omega) (by rw [List.mem_range] at hj; omega)
    simp only; omega
  · obtain ⟨j, hj, rfl⟩ := List.mem_map.1 hx
    rw [List.mem_range] at hj
    simp only; omega
theorem opened_n (l : Nat) (c o : Int) (g : Nat) : (DS.opened l c o g).n = 40 := by unfold DS.opened; rw [run_n, run_n]; rfl
theorem opened_exe (hl : l ≤ 8) (c0 : 0 ≤ c) (c5 : c < 5) (o : Int) (g : Nat) : (DS.opened l c o g).exe ≤ 400 ∧ ((DS.zero 40).run 0 (clrI l g)).exe ≤ 100 ∧ (planI l c o g).length ≤ 200 ∧ (clrI l g).length ≤ 10 := by
  have hp := perS_in c0 c5
  have h1 := run_exe 0 (clrI l g) (DS.zero 40)
  have h2 := run_exe 0 (planI l c o g) ((DS.zero 40).run 0 (clrI l g))
  have h3 := storesI_le [(l * 64, sealN (hdX (-1) (-1) g))]
  have h4 := storesI_le (planW l c g)
  have h5 := storesI_le [(l * 64, sealN (hdX c o g))]
  have h6 := planW_len l c g
  have h7 : (planI l c o g).length = (storesI (planW l c g)).length + (storesI [(l * 64, sealN (hdX c o g))]).length := by unfold planI; rw [List.length_append]
  have h8 : (clrI l g).length = (storesI [(l * 64, sealN (hdX (-1) (-1) g))]).length := rfl
  have h9 : (DS.zero 40).exe = 0 := rfl
  simp only [List.length_singleton] at h3 h5
  unfold DS.opened
  omega
theorem clr_ok (hl : l ≤ 8) (hg : g < 65536) : ∀ x ∈ [(l * 64, sealN (hdX (-1) (-1) g))], (x.1 % 8 = 0 ∧ x.1 < 40 * 64) ∧ x.1 < 18446744073709551616 ∧ x.2 < 18446744073709551616 := by
  have hs := sealN_lt (hdX (-1) (-1) g) (hdX_lt (by omega) (by omega) (by omega) (by omega) hg)
  intro x hx; simp only [List.mem_singleton] at hx; subst hx; simp only; omega
theorem head_ok (hl : l ≤ 8) (c0 : 0 ≤ c) (c5 : c < 5) (o0 : 0 ≤ o) (o8 : o < 8) (hg : g < 65536) : ∀ x ∈ [(l * 64, sealN (hdX c o g))], (x.1 % 8 = 0 ∧ x.1 < 40 * 64) ∧ x.1 < 18446744073709551616 ∧ x.2 < 18446744073709551616 := by
  have hs := sealN_lt (hdX c o g) (hdX_lt (by omega) c5 (by omega) o8 hg)
  intro x hx; simp only [List.mem_singleton] at hx; subst hx; simp only; omega
theorem clr_on (hl : l ≤ 8) (hg : g < 65536) : On ((DS.zero 40).run 0 (clrI l g)) ∧ ((DS.zero 40).run 0 (clrI l g)).cur = applyH [(l * 64, sealN (hdX (-1) (-1) g))] (DS.zero 40).cur := On.stores (On.zero 40) _ (fun x hx => (clr_ok hl hg x hx).1)
theorem clr_good (hl : l ≤ 8) (hg : g < 65536) : (∀ i ∈ clrI l g, okI i) ∧ Good ((DS.zero 40).run 0 (clrI l g)) := by
  have h := okI_stores (fun x hx => (clr_ok (l := l) hl hg x hx).2)
  exact ⟨h, Good.run 0 (by omega) _ _ (Good.zero 40 (by omega) (by omega)) h⟩
theorem plan_ok (hl : l ≤ 8) (c0 : 0 ≤ c) (c5 : c < 5) (o0 : 0 ≤ o) (o8 : o < 8) (hg : g < 65536) : ∀ i ∈ planI l c o g, okI i := by
  intro i hi
  rcases List.mem_append.1 hi with hi | hi
  · exact okI_stores (fun x hx => (planW_ok hl c0 c5 hg x hx).2) i hi
  · exact okI_stores (fun x hx => (head_ok hl c0 c5 o0 o8 hg x hx).2) i hi
theorem opened_good (hl : l ≤ 8) (c0 : 0 ≤ c) (c5 : c < 5) (o0 : 0 ≤ o) (o8 : o < 8) (hg : g < 65536) : Good (DS.opened l c o g) :=
  Good.run 0 (by omega) _ _ (clr_good hl hg).2 (plan_ok hl c0 c5 o0 o8 hg)
theorem opened_on (hl : l ≤ 8) (c0 : 0 ≤ c) (c5 : c < 5) (o0 : 0 ≤ o) (o8 : o < 8) (hg : g < 65536) : On (DS.opened l c o g) ∧ (DS.opened l c o g).cur = applyH [(l * 64, sealN (hdX c o g))] (applyH (planW l c g) (applyH [(l * 64, sealN (hdX (-1) (-1) g))] (DS.zero 40).cur)) := by
  unfold DS.opened planI
  rw [run_append]
  have h1 := clr_on (l := l) hl hg
  have n1 : ((DS.zero 40).run 0 (clrI l g)).n = 40 := by rw [run_n]; rfl
  have h2 := On.stores h1.1 (planW l c g) (fun x hx => by rw [n1]; exact (planW_ok hl c0 c5 hg x hx).1)
  have n2 : (((DS.zero 40).run 0 (clrI l g)).run 0 (storesI (planW l c g))).n = 40 := by rw [run_n]; exact n1
  have h3 := On.stores h2.1 [(l * 64, sealN (hdX c o g))] (fun x hx => by rw [n2]; exact (head_ok hl c0 c5 o0 o8 hg x hx).1)
  exact ⟨h3.1, by rw [h3.2, h2.2, h1.2]⟩
theorem opened_wd (hl : l ≤ 8) (c0 : 0 ≤ c) (c5 : c < 5) (o0 : 0 ≤ o) (o8 : o < 8) (hg : g < 65536) (j : Nat) (hj : j < 256) : wd (DS.opened l c o g) l j = fmtW c o g j := by
  unfold wd fmtW
  rw [(opened_on hl c0 c5 o0 o8 hg).2]
  have hp := perS_in c0 c5
  by_cases h0 : j = 0
  · subst h0
    rw [if_pos rfl]
    refine applyH_val (fun y hy _ => ?_) (.inl ⟨(l * 64, sealN (hdX c o g)), by simp, by simp only; omega⟩)
    simp only [List.mem_singleton] at hy; subst hy; rfl
  · rw [if_neg h0]
    have ho : ∀ (v : Nat) (f : Nat → Nat), applyH [(l * 64, v)] f (l * 8 + j) = f (l * 8 + j) := fun v f => applyH_other _ _ _ (fun y hy => by simp only [List.mem_singleton] at hy; subst hy; simp only; omega)
    rw [ho]
    have hA : ∀ y ∈ planW l c g, y.1 / 8 = l * 8 + j → (isB c j = true ∧ y.2 = sealN (blkX g 0 176)) ∨ (j < 8 ∧ y.2 = 0) := by
      intro y hy hyj
      rcases List.mem_append.1 hy with hy | hy
      · obtain ⟨i, hi, rfl⟩ := List.mem_map.1 hy
        rw [List.mem_range] at hi
        have hb2 := offS_bd c0 c5 (show 0 ≤ (i : Int) by omega) (by omega)
        left
        refine ⟨?_, rfl⟩
        unfold isB
        rw [List.any_eq_true]
        refine ⟨i, List.mem_range.2 hi, ?_⟩
        simp only [beq_iff_eq]
        simp only at hyj
        unfold offN; omega
      · obtain ⟨i, hi, rfl⟩ := List.mem_map.1 hy
        rw [List.mem_range] at hi
        right
        simp only at hyj
        exact ⟨by omega, rfl⟩
    have hB : isB c j = true → 8 ≤ j ∧ ∃ y ∈ planW l c g, y.1 / 8 = l * 8 + j := by
      intro hb
      unfold isB at hb
      rw [List.any_eq_true] at hb
      obtain ⟨i, hi, hb⟩ := hb
      have hi' := List.mem_range.1 hi
      have bd := offN_bd c0 c5 (i := i) (by omega)
      simp only [beq_iff_eq] at hb
      refine ⟨by omega, _, List.mem_append_left _ (List.mem_map.2 ⟨i, hi, rfl⟩), ?_⟩
      have : (offS c (i : Int)).toNat = j := by rw [← hb]; unfold offN; rfl
      simp only [this]; omega
    by_cases hb : isB c j = true
    · rw [if_pos hb]
      refine applyH_val (fun y hy hyj => ?_) (.inl (hB hb).2)
      rcases hA y hy hyj with h | h
      · exact h.2
      · have := (hB hb).1; omega
    · rw [if_neg hb]
      refine applyH_val (fun y hy hyj => ?_) (.inr ?_)
      · rcases hA y hy hyj with h | h
        · exact absurd h.1 hb
        · exact h.2
      · rw [ho]; exact zero_cur 40 _
theorem fmt_at (hl : l ≤ 8) (c0 : 0 ≤ c) (c5 : c < 5) (o0 : 0 ≤ o) (o8 : o < 8) (hg : g < 65536) (i : Nat) (hi : (i : Int) < perS c) : wd (DS.opened l c o g) l (offN c i) = sealN (blkX g 0 176) := by
  have bd := offN_bd c0 c5 hi
  rw [opened_wd hl c0 c5 o0 o8 hg _ bd.2.2]
  unfold fmtW
  rw [if_neg (by omega), if_pos]
  unfold isB
  rw [List.any_eq_true]
  exact ⟨i, List.mem_range.2 (by omega), by simp⟩
theorem fmt_low (hl : l ≤ 8) (c0 : 0 ≤ c) (c5 : c < 5) (o0 : 0 ≤ o) (o8 : o < 8) (hg : g < 65536) (j : Nat) (h0 : j ≠ 0) (hj : j < 8) : wd (DS.opened l c o g) l j = 0 := by
  rw [opened_wd hl c0 c5 o0 o8 hg _ (by omega)]
  unfold fmtW
  rw [if_neg h0, if_neg]
  intro hb
  unfold isB at hb
  rw [List.any_eq_true] at hb
  obtain ⟨i, hi, hb⟩ := hb
  have hp := perS_in c0 c5
  have hi' := List.mem_range.1 hi
  have bd := offN_bd c0 c5 (i := i) (by omega)
  simp only [beq_iff_eq] at hb
  omega
end
end Go.Proofs.YtaeopkhdokaaoaaGreatDoor
namespace Go.Proofs.YtaeopkhdokaaoaaGreatDoor
open Go Go.Sh
set_option maxRecDepth 100000
set_option maxHeartbeats 4000000
set_option linter.unusedSimpArgs false
set_option linter.unusedVariables false
abbrev chzO : Obj := .cells #[.nilIface, .int .i64 0, .int .i64 0, .int .i64 0, .int .u16 ((0 : Nat) : Int)] 58
section
variable {w w' : World} {Y : Lay} {D : DS}
theorem k_fopen (hG : Glob w) (a b c g : Nat) (ha : a < 256) (hb : b < 256) (hc : c < 256) (hg : g < 65536) (K : K1)
    (hK : ∀ w' Y, Lv w w' Y (DS.opened (a % 9) ((b % 5 : Nat) : Int) ((c % 8 : Nat) : Int) (genN g)) → K (.tuple #[chV Y (a % 9) ((b % 5 : Nat) : Int) ((c % 8 : Nat) : Int) (genN g), .pointer (some ⟨Y.d, 0, none⟩), .pointer (some ⟨Y.tb 0, 0, none⟩)]) w') :
    callS Tryz.prog 33 #[fmV a b c g] w K := by
  have l8 : a % 9 ≤ 8 := by omega
  have c0 : (0 : Int) ≤ ((b % 5 : Nat) : Int) := by omega
  have c5 : ((b % 5 : Nat) : Int) < 5 := by omega
  have o0 : (0 : Int) ≤ ((c % 8 : Nat) : Int) := by omega
  have o8 : ((c % 8 : Nat) : Int) < 8 := by omega
  have hgn : genN g ≠ 0 ∧ genN g < 65536 := by unfold genN; split <;> omega
  have hli := fun w1 K => c_fline a b c g ha w1 K
  have hhe := fun w1 K => c_fheader a b c g hb hc hg w1 K
  generalize genN g = gg at *
  generalize hll : a % 9 = ll at *
  generalize hcc : ((b % 5 : Nat) : Int) = cc at *
  generalize hoo : ((c % 8 : Nat) : Int) = oo at *
  have hone := opened_on l8 c0 c5 o0 o8 hgn.2
  have hgood := opened_good l8 c0 c5 o0 o8 hgn.2
  have hexe := opened_exe l8 c0 c5 oo gg
  have hclr := clr_good l8 hgn.2
  have hclo := clr_on l8 hgn.2
  have hpok := plan_ok l8 c0 c5 o0 o8 hgn.2
  have hwd0 : wd (DS.opened ll cc oo gg) ll 0 = sealN (hdX cc oo gg) := by rw [opened_wd l8 c0 c5 o0 o8 hgn.2 0 (by omega)]; rfl
  have hhd := hd_ok c0 c5 o0 o8 hgn.1 hgn.2
  rw [← hwd0] at hhd
  refine f33_call _ _ _ ?_
  unfold f33_t
  simp (disch := first | omega | simp only [RO] | (simp only [RZ] <;> omega) | fail) only [↓RBp, ↓RA, ↓reduceIte, Nat.reduceAdd, Nat.reduceMul, Nat.reduceEqDiff, RB, RBr, RW, RS, RA2]
  refine k_begin _ (fun w1 Y he1 hd1 hn1 => ?_)
  have L1 : Lv ((w.alloc (fmO a b c g)).alloc chzO) w1 Y (DS.zero 40) := ⟨hd1, Good.zero 40 (by omega) (by omega), he1, hn1⟩
  have ea : Ext (w.alloc (fmO a b c g)) w1 := Ext.trans (by repeat (first | with_reducible refine eB ?_ (by omega) _ | with_reducible refine eB ?_ (by simp only [RZ] <;> omega) _ | with_reducible assumption | exact eR _ | with_reducible refine eA ?_ _ | with_reducible refine eD ?_ | with_reducible refine eT ?_ (by assumption))) he1
  have ob1 := fmCells ea; have q0 := ob1.1; have q1 := ob1.2.1; have q2 := ob1.2.2.1; have q3 := ob1.2.2.2
  have lt1 : w.heap.size < w1.heap.size := lt_of_cell q0
  have e1 : Ext w w1 := Ext.trans (by repeat (first | with_reducible refine eB ?_ (by omega) _ | with_reducible refine eB ?_ (by simp only [RZ] <;> omega) _ | with_reducible assumption | exact eR _ | with_reducible refine eA ?_ _ | with_reducible refine eD ?_ | with_reducible refine eT ?_ (by assumption))) he1
  (repeat' (first | (with_reducible refine brS_mk (fun _ => ?_) (fun _ => ?_)) | (with_reducible refine And.intro ?_ ?_) | (simp (disch := first | omega | simp only [RO] | (simp only [RZ] <;> omega) | (with_reducible (repeat (first | assumption | exact Ext.refl _ | refine Ext.alloc ?_ _ | refine Ext.drew ?_ | refine Ext.trans ?_ (by assumption)))) | fail) only [↓RBp, ↓RA, ↓reduceIte, Nat.reduceAdd, Nat.reduceMul, Nat.reduceEqDiff, RB, RBr, RW, RS, RA2, q0, q1, q2, q3, hli, hhe])))
  refine k_Clear (hG.ext (by repeat (first | with_reducible refine eB ?_ (by omega) _ | with_reducible refine eB ?_ (by simp only [RZ] <;> omega) _ | with_reducible assumption | exact eR _ | with_reducible refine eA ?_ _ | with_reducible refine eD ?_ | with_reducible refine eT ?_ (by assumption)))) ll gg (by omega) hgn.1 hgn.2 _ (fun v2 w2 s2 he2 n2 => ?_)
  have e12 : Ext w1 w2 := Ext.trans (by repeat (first | with_reducible refine eB ?_ (by omega) _ | with_reducible refine eB ?_ (by simp only [RZ] <;> omega) _ | with_reducible assumption | exact eR _ | with_reducible refine eA ?_ _ | with_reducible refine eD ?_ | with_reducible refine eT ?_ (by assumption))) he2
  have L2 := L1.ext e12
  have eb := ea.trans e12
  have ob2 := fmCells eb; have r0 := ob2.1; have r1 := ob2.2.1; have r2 := ob2.2.2.1; have r3 := ob2.2.2.2
  have lt2 : w.heap.size < w2.heap.size := lt_of_cell r0
  have n2' : NewV w1.heap.size v2 := fun b hb => Nat.le_trans (by simp only [RZ]; omega) (n2 b hb)
  (repeat' (first | (with_reducible refine brS_mk (fun _ => ?_) (fun _ => ?_)) | (with_reducible refine And.intro ?_ ?_) | (simp (disch := first | omega | simp only [RO] | (simp only [RZ] <;> omega) | (with_reducible (repeat (first | assumption | exact Ext.refl _ | refine Ext.alloc ?_ _ | refine Ext.drew ?_ | refine Ext.trans ?_ (by assumption)))) | fail) only [↓RBp, ↓RA, ↓reduceIte, Nat.reduceAdd, Nat.reduceMul, Nat.reduceEqDiff, RB, RBr, RW, RS, RA2, r0, r1, r2, r3, hli, hhe])))
  refine k_Plan (hG.ext (e1.trans (e12.trans (by repeat (first | with_reducible refine eB ?_ (by omega) _ | with_reducible refine eB ?_ (by simp only [RZ] <;> omega) _ | with_reducible assumption | exact eR _ | with_reducible refine eA ?_ _ | with_reducible refine eD ?_ | with_reducible refine eT ?_ (by assumption)))))) ll cc oo gg (by omega) c0 c5 o0 o8 hgn.1 hgn.2 _ (fun v3 w3 s3 he3 n3 => ?_)
  have e23 : Ext w2 w3 := Ext.trans (by repeat (first | with_reducible refine eB ?_ (by omega) _ | with_reducible refine eB ?_ (by simp only [RZ] <;> omega) _ | with_reducible assumption | exact eR _ | with_reducible refine eA ?_ _ | with_reducible refine eD ?_ | with_reducible refine eT ?_ (by assumption))) he3
  have L3 := L2.ext e23
  have n3' : NewV w2.heap.size v3 := fun b hb => Nat.le_trans (by simp only [RZ]; omega) (n3 b hb)
  have o2 : ∀ b, v2.ownBlock = some b → ¬ Y.F b := L1.out n2'
  have o3 : ∀ b, v3.ownBlock = some b → ¬ Y.F b := L2.out n3'
  simp (disch := first | omega | simp only [RO] | (simp only [RZ] <;> omega) | fail) only [↓RBp, ↓RA, ↓reduceIte, Nat.reduceAdd, Nat.reduceMul, Nat.reduceEqDiff, RB, RBr, RW, RS, RA2]
  refine k_Run L3.dv L3.gd 0 (by omega) (clrI ll gg) v2 (s2.ext e23) o2 hclr.1 (by have : (DS.zero 40).exe = 0 := rfl; omega) _ (fun w4 Y4 st4 => ?_)
  have L4 := L3.step st4 hclr.2
  have s3' := s3.frm st4.frm o3
  have o3' : ∀ b, v3.ownBlock = some b → ¬ Y4.F b := fun b hb hf => by
    rcases st4.fr b hf with h | h
    · exact o3 b hb h
    · have := s3.lt hb; omega
  have tb4 := st4.tb
  rw [hclo.1.err]
  simp (disch := first | omega | simp only [RO] | (simp only [RZ] <;> omega) | fail) only [↓RBp, ↓RA, ↓reduceIte, Nat.reduceAdd, Nat.reduceMul, Nat.reduceEqDiff, RB, RBr, RW, RS, RA2]
  rw [← tb4]
  refine k_Run L4.dv L4.gd 0 (by omega) (planI ll cc oo gg) v3 s3' o3' hpok (by omega) _ (fun w5 Y5 st5 => ?_)
  have L5 : Lv _ w5 Y5 (DS.opened ll cc oo gg) := L4.step st5 hgood
  have tb5 := st5.tb
  have dd5 : Y5.d = Y.d := by rw [st5.d, st4.d]
  have hz : (((DS.zero 40).run 0 (clrI ll gg)).run 0 (planI ll cc oo gg)).err 0 = 0 := hone.1.err
  rw [hz, tb4, ← tb4, ← tb5, ← dd5]
  have ec : Ext (w.alloc (fmO a b c g)) w5 := Ext.trans (by repeat (first | with_reducible refine eB ?_ (by omega) _ | with_reducible refine eB ?_ (by simp only [RZ] <;> omega) _ | with_reducible assumption | exact eR _ | with_reducible refine eA ?_ _ | with_reducible refine eD ?_ | with_reducible refine eT ?_ (by assumption))) L5.ex
  have ob3 := fmCells ec; have x0 := ob3.1; have x1 := ob3.2.1; have x2 := ob3.2.2.1; have x3 := ob3.2.2.2
  have lt5 : w.heap.size + 1 < w5.heap.size := by have := L5.ex.size; simp only [RZ] at this; omega
  have e5 : Ext w w5 := Ext.trans (by repeat (first | with_reducible refine eB ?_ (by omega) _ | with_reducible refine eB ?_ (by simp only [RZ] <;> omega) _ | with_reducible assumption | exact eR _ | with_reducible refine eA ?_ _ | with_reducible refine eD ?_ | with_reducible refine eT ?_ (by assumption))) ec
  have hCz : Cells w5 (w.heap.size + 1) 58 5 (fun i => [Value.nilIface, .int .i64 0, .int .i64 0, .int .i64 0, .int .u16 ((0 : Nat) : Int)].getD i undef) := by
    have := (Cells.new (w.alloc (fmO a b c g)) [Value.nilIface, .int .i64 0, .int .i64 0, .int .i64 0, .int .u16 ((0 : Nat) : Int)] 58)
    rw [size_alloc] at this
    exact this.ext L5.ex
  simp (disch := first | omega | simp only [RO] | (simp only [RZ] <;> omega) | (with_reducible (repeat (first | assumption | exact Ext.refl _ | refine Ext.alloc ?_ _ | refine Ext.drew ?_ | refine Ext.trans ?_ (by assumption)))) | fail) only [↓RBp, ↓RA, ↓reduceIte, Nat.reduceAdd, Nat.reduceMul, Nat.reduceEqDiff, RB, RBr, RW, RS, RA2, x0, x1, x2, x3, hli]
  refine k_OpenAt (L5.dv.ext (by repeat (first | with_reducible refine eB ?_ (by omega) _ | with_reducible refine eB ?_ (by simp only [RZ] <;> omega) _ | with_reducible assumption | exact eR _ | with_reducible refine eA ?_ _ | with_reducible refine eD ?_ | with_reducible refine eT ?_ (by assumption)))) hgood (hG.ext (by repeat (first | with_reducible refine eB ?_ (by omega) _ | with_reducible refine eB ?_ (by simp only [RZ] <;> omega) _ | with_reducible assumption | exact eR _ | with_reducible refine eA ?_ _ | with_reducible refine eD ?_ | with_reducible refine eT ?_ (by assumption)))) hone.1.off hone.1.err ll (by rw [opened_n]; omega) hhd.1 _ (fun w6 he6 => ?_)
  have e56 : Ext w5 w6 := Ext.trans (by repeat (first | with_reducible refine eB ?_ (by omega) _ | with_reducible refine eB ?_ (by simp only [RZ] <;> omega) _ | with_reducible assumption | exact eR _ | with_reducible refine eA ?_ _ | with_reducible refine eD ?_ | with_reducible refine eT ?_ (by assumption))) he6
  rw [hhd.2.1, hhd.2.2.1, hhd.2.2.2, if_neg (by omega)]
  have hC6 := hCz.ext e56
  have lt6 := hC6.lt
  have p0 := hC6.cell (i := 0) (by omega)
  have p1 := hC6.cell (i := 1) (by omega)
  have p2 := hC6.cell (i := 2) (by omega)
  have p3 := hC6.cell (i := 3) (by omega)
  have p4 := hC6.cell (i := 4) (by omega)
  have e6 := e5.trans e56
  have ob4 := cells5 hC6 (.iface 48 (.pointer (some ⟨Y5.tb 0, 0, none⟩))) (.int .i64 (ll : Int)) (.int .i64 cc) (.int .i64 oo) (.int .u16 (gg : Int)); have d0 := ob4.1; have d1 := ob4.2.1; have d2 := ob4.2.2.1; have d3 := ob4.2.2.2.1; have d4 := ob4.2.2.2.2
  simp (disch := first | omega | simp only [RO] | (simp only [RZ] <;> omega) | fail) only [↓RBp, ↓RA, ↓reduceIte, Nat.reduceAdd, Nat.reduceMul, Nat.reduceEqDiff, RB, RBr, RW, RS, RA2, p0, p1, p2, p3, p4, hC6.frz, d0, d1, d2, d3, d4]
  refine hK _ Y5 ⟨(L5.ext e56).frm (G := fun b => b = w.heap.size + 1) (by repeat (first | exact Frm.refl _ _ | with_reducible refine Frm.set ?_ _ (fun _ => rfl) | with_reducible refine Frm.alloc ?_ _ | with_reducible refine Frm.drew ?_)) (fun b hb => by simp only [RZ]; omega), hgood, (by repeat (first | with_reducible refine eB ?_ (by omega) _ | with_reducible refine eB ?_ (by simp only [RZ] <;> omega) _ | with_reducible assumption | exact eR _ | with_reducible refine eA ?_ _ | with_reducible refine eD ?_ | with_reducible refine eT ?_ (by assumption))), fun x hx => Nat.le_trans (by simp only [RZ]; omega) (L5.nw x hx)⟩
end
end Go.Proofs.YtaeopkhdokaaoaaGreatDoor
namespace Go.Proofs.YtaeopkhdokaaoaaGreatDoor
open Go Go.Sh
set_option maxRecDepth 100000
set_option maxHeartbeats 4000000
set_option linter.unusedSimpArgs false
set_option linter.unusedVariables false
def DS.strs (D : DS) (ws : List (Nat × Nat)) : DS := D.run 0 (ws.map wrI)
theorem strs_take {D : DS} {ws : List (Nat × Nat)} {j : Nat} {x : Nat × Nat} (h : ws[j]? = some x) : D.strs (ws.take (j + 1)) = (D.strs (ws.take j)).store 0 x.1 x.2 := by
  unfold DS.strs
  rw [take_snoc' h, List.map_append, run_append]; rfl
theorem strs_good {D : DS} (g : Good D) {ws : List (Nat × Nat)} (h : ∀ x ∈ ws, x.1 < 18446744073709551616 ∧ x.2 < 18446744073709551616) : Good (D.strs ws) := by
  refine Good.run 0 (by omega) _ _ g (fun i hi => ?_)
  obtain ⟨x, hx, rfl⟩ := List.mem_map.1 hi
  have := h x hx
  exact ⟨by simp [wrI], by simp [wrI], this.1, this.2⟩
theorem strs_n (D : DS) (ws : List (Nat × Nat)) : (D.strs ws).n = D.n := run_n 0 _ D
theorem strs_exe (D : DS) (ws : List (Nat × Nat)) : (D.strs ws).exe ≤ D.exe + ws.length := by
  have := run_exe 0 (ws.map wrI) D
  rw [List.length_map] at this; exact this
theorem strs_on {D : DS} (h : On D) {ws : List (Nat × Nat)} (hv : ∀ x ∈ ws, x.1 % 8 = 0 ∧ x.1 < D.n * 64) : On (D.strs ws) ∧ (D.strs ws).cur = applyH ws D.cur := On.runW ws D h hv
theorem mem_take {α : Type} {l : List α} {j : Nat} {x : α} (h : x ∈ l.take j) : x ∈ l := List.mem_of_mem_take h
section
variable {w w' : World} {Y : Lay} {D : DS}
theorem per4 : perS 4 = 4 := by decide
theorem off40 : offN 4 0 = 8 := by unfold offN; decide
def awW : List (Nat × Nat) := [(64, sealN (blkX 1 64 177)), (8, 1)]
theorem awActA : ActA 4 [0] [64] [] := ⟨rfl, by decide, by decide⟩
theorem aw_seal : sealN (blkX 1 64 177) < 18446744073709551616 := sealN_lt _ (blkX_lt (by omega) (by omega) (by omega))
abbrev awD : DS := DS.opened 0 4 0 1
theorem aw_on : On awD := (opened_on (by omega) (by omega) (by omega) (by omega) (by omega) (by omega)).1
theorem aw_good : Good awD := opened_good (by omega) (by omega) (by omega) (by omega) (by omega) (by omega)
theorem aw_blk (i : Nat) (hi : i < 4) : wd awD 0 (offN 4 i) = sealN (blkX 1 0 176) := fmt_at (by omega) (by omega) (by omega) (by omega) (by omega) (by omega) i (by rw [per4]; omega)
theorem aw_map : wd awD 0 1 = 0 := fmt_low (by omega) (by omega) (by omega) (by omega) (by omega) (by omega) 1 (by omega) (by omega)
theorem bit0 (i : Nat) : bitB 0 i = false := by simp [bitB]
theorem aw_fr : frN (wd awD 0 1) ((perS 4).toNat - (0 : Int).toNat) (0 : Int).toNat = 0 := by rw [aw_map, per4]; decide
theorem blk1 : isS (sealN (blkX 1 0 176)) = true ∧ bG (sealN (blkX 1 0 176)) = 1 ∧ bK (sealN (blkX 1 0 176)) = 0 ∧ bS (sealN (blkX 1 0 176)) = 176 := ⟨isS_blk (by omega) (by omega) (by omega), bG_blk (by omega) (by omega) (by omega), bK_blk (by omega) (by omega) (by omega), bS_blk (by omega) (by omega) (by omega)⟩
theorem aw_okF (i : Nat) (hi : i < 4) : okF awD 0 4 i = true := by
  unfold okF
  rw [aw_blk i hi, aw_map, bit0, blk1.1, blk1.2.1, blk1.2.2.2]; rfl
theorem aw_alF : alF awD 0 4 4 = true := by
  simp only [alF, aw_okF 0 (by omega), aw_okF 1 (by omega), aw_okF 2 (by omega), aw_okF 3 (by omega)]; rfl
theorem aw_mxG : mxG awD 0 4 4 = 1 := by
  simp only [mxG, aw_blk 0 (by omega), aw_blk 1 (by omega), aw_blk 2 (by omega), aw_blk 3 (by omega), blk1.2.1]; decide
theorem aw_act : actN awD 0 4 [0] [64] [] = some awW := by
  have ht : tkOk awD 0 4 0 = true := by
    unfold tkOk
    rw [aw_blk 0 (by omega), aw_map, bit0, blk1.1, blk1.2.1, blk1.2.2.1, blk1.2.2.2]; rfl
  have hw : tkW awD 0 4 0 64 = (64, sealN (blkX 1 64 177)) := by
    unfold tkW
    rw [aw_blk 0 (by omega), blk1.2.1, off40]
  unfold actN
  rw [if_neg (by simp)]
  simp only [chT, chDr, show (0 : Int).toNat = 0 from rfl, ht, if_true, hw, aw_map]
  rfl
theorem aw_ok : ∀ x ∈ awW, x.1 % 8 = 0 ∧ x.1 < awD.n * 64 ∧ x.1 < 18446744073709551616 ∧ x.2 < 18446744073709551616 := by
  have := aw_seal
  have hn : awD.n = 40 := opened_n _ _ _ _
  rw [hn]
  intro x hx
  simp only [awW, List.mem_cons, List.not_mem_nil, or_false] at hx
  rcases hx with rfl | rfl
  · exact ⟨by decide, by decide, by decide, aw_seal⟩
  · exact ⟨by decide, by decide, by decide, by decide⟩
abbrev awE : DS := awD.strs awW
theorem awE_on : On awE ∧ awE.cur = applyH awW awD.cur := strs_on aw_on (fun x hx => ⟨(aw_ok x hx).1, (aw_ok x hx).2.1⟩)
theorem awE_good : Good awE := strs_good aw_good (fun x hx => (aw_ok x hx).2.2)
theorem awE_n : awE.n = 40 := (strs_n _ _).trans (opened_n _ _ _ _)
theorem awE_map : wd awE 0 1 = 1 := by
  unfold wd; rw [awE_on.2]; rfl
theorem awE_blk : wd awE 0 8 = sealN (blkX 1 64 177) := by
  unfold wd; rw [awE_on.2]; rfl
theorem blk2 : isS (sealN (blkX 1 64 177)) = true ∧ bS (sealN (blkX 1 64 177)) = 177 := ⟨isS_blk (by omega) (by omega) (by omega), bS_blk (by omega) (by omega) (by omega)⟩
theorem awE_mk0 : mkB awE 0 4 0 177 = true := by
  unfold mkB
  rw [awE_map, show (0 : Int).toNat = 0 from rfl, off40, awE_blk, blk2.1, blk2.2]; decide
theorem awE_mk (i : Nat) (hi : i = 1 ∨ i = 2 ∨ i = 3) : mkB awE 0 4 (i : Int) 177 = false := by
  unfold mkB
  rw [awE_map]
  have : bitB 1 ((i : Nat) : Int).toNat = false := by rcases hi with rfl | rfl | rfl <;> decide
  rw [this]; simp
theorem awE_cnt : cntN awE 0 4 4 = 1 := by
  have h1 := awE_mk 1 (by omega); have h2 := awE_mk 2 (by omega); have h3 := awE_mk 3 (by omega)
  simp only [cntN, h1, h2, h3, show ((0 : Nat) : Int) = 0 from rfl, awE_mk0]; decide
theorem awE_fr : frN (wd awE 0 1) ((perS 4).toNat - (0 : Int).toNat) (0 : Int).toNat = 1 := by rw [awE_map, per4]; decide
end
end Go.Proofs.YtaeopkhdokaaoaaGreatDoor
namespace Go.Proofs.YtaeopkhdokaaoaaGreatDoor
open Go Go.Sh
set_option maxRecDepth 100000
set_option maxHeartbeats 4000000
set_option linter.unusedSimpArgs false
set_option linter.unusedVariables false
section
variable {w w' : World} {Y Y' : Lay} {D D' : DS}
theorem Lv.cx {w0 : World} {l : Nat} {c : Int} (h : Lv w0 w Y D) (hG : Glob w0) (on : D.off = false) (hl : l + 32 ≤ D.n) (c0 : 0 ≤ c) (c5 : c < 5) : Cx w Y D l c := ⟨h.dv, h.gd, hG.ext h.ex, on, hl, c0, c5⟩
theorem wr_get {ws : List (Nat × Nat)} {j : Nat} (h : j < ws.length) : ws[j]? = some ws[j] := List.getElem?_eq_getElem h
theorem wr_cells {v : Value} {ws : List (Nat × Nat)} (s : SlO w 37 2 v ws.length (wrL ws)) {j : Nat} (h : j < ws.length) : ∃ b o cap, v = .slice (some ⟨b, o, none⟩) ws.length cap ∧ w.cell? ⟨b, o + j * 2, none⟩ = some (.int .u64 (ws[j].1 : Int)) ∧ w.cell? ⟨b, o + j * 2 + 1, none⟩ = some (.int .u64 (ws[j].2 : Int)) := by
  obtain ⟨b, o, cap, rfl, _⟩ := s.isS (by omega)
  have hg := wrL_get ws j ws[j] (wr_get h)
  refine ⟨b, o, cap, rfl, s.cell rfl hg.1, ?_⟩
  have := s.cell rfl hg.2
  rw [← Nat.add_assoc] at this; exact this
theorem strs_zero (D : DS) (ws : List (Nat × Nat)) : D.strs (ws.take 0) = D := by simp [DS.strs, DS.run]
theorem one_get {x u : Value} {j : Nat} (h : [x][j]? = some u) : j = 0 ∧ u = x := by
  rcases j with _ | j
  · simp at h; exact ⟨rfl, h.symm⟩
  · simp at h
theorem aw_exe (j : Nat) : (awD.strs (awW.take j)).exe ≤ 402 := by
  have h1 := strs_exe awD (awW.take j)
  have h2 : awD.exe ≤ 400 := (opened_exe (l := 0) (c := 4) (by omega) (by omega) (by omega) 0 1).1
  have h3 : (awW.take j).length ≤ 2 := by rw [List.length_take]; exact Nat.min_le_right _ _
  omega
theorem aw_goodT (j : Nat) : Good (awD.strs (awW.take j)) := strs_good aw_good (fun x hx => (aw_ok x (mem_take hx)).2.2)
theorem k_fopen4 (hG : Glob w) (K : K1) (hK : ∀ w' Y, Lv w w' Y awD → K (.tuple #[chV Y 0 4 0 1, .pointer (some ⟨Y.d, 0, none⟩), .pointer (some ⟨Y.tb 0, 0, none⟩)]) w') :
    callS Tryz.prog 33 #[.agg #[.int .u8 ((0 : Nat) : Int), .int .u8 ((4 : Nat) : Int), .int .u8 ((0 : Nat) : Int), .int .u16 ((0 : Nat) : Int)]] w K :=
  k_fopen hG 0 4 0 0 (by omega) (by omega) (by omega) (by omega) K (fun w' Y L => hK w' Y L)
theorem k_awake (hG : Glob w) (K : K1) (hK : ∀ w', Ext w w' → K (.bool true) w') : callS Tryz.prog 12 #[] w K := by
  refine f12_call _ _ ?_
  unfold f12_t
  simp (disch := first | omega | simp only [RO] | (simp only [RZ] <;> omega) | fail) only [↓RBp, ↓RA, ↓reduceIte, Nat.reduceAdd, Nat.reduceMul, Nat.reduceEqDiff, RB, RBr, RW, RS, RA2]
  refine k_fopen4 hG _ (fun w1 Y L1 => ?_)
  have e1 := L1.ex
  have x1 := L1.cx hG aw_on.off (l := 0) (c := 4) (by rw [opened_n]; omega) (by omega) (by omega)
  have nt1 : ¬ Y.F w1.heap.size := fun hf => by have := L1.dv.lt hf; omega
  simp (disch := first | omega | simp only [RO] | (simp only [RZ] <;> omega) | fail) only [↓RBp, ↓RA, ↓reduceIte, Nat.reduceAdd, Nat.reduceMul, Nat.reduceEqDiff, RB, RBr, RW, RS, RA2]
  refine k_Free (x1.ext (by repeat (first | with_reducible refine eB ?_ (by omega) _ | with_reducible refine eB ?_ (by simp only [RZ] <;> omega) _ | with_reducible assumption | exact eR _ | with_reducible refine eA ?_ _ | with_reducible refine eD ?_ | with_reducible refine eT ?_ (by assumption)))) 0 1 0 _ (fun w2 he2 => ?_)
  rw [aw_fr]
  have e12 : Ext w1 w2 := Ext.trans (by repeat (first | with_reducible refine eB ?_ (by omega) _ | with_reducible refine eB ?_ (by simp only [RZ] <;> omega) _ | with_reducible assumption | exact eR _ | with_reducible refine eA ?_ _ | with_reducible refine eD ?_ | with_reducible refine eT ?_ (by assumption))) he2
  have e2 := e1.trans e12
  have x2 := x1.ext e12
  have ob1 := chCells he2; have q0 := ob1.1; have q1 := ob1.2.1; have q2 := ob1.2.2.1; have q3 := ob1.2.2.2.1; have q4 := ob1.2.2.2.2
  simp (disch := first | omega | simp only [RO] | (simp only [RZ] <;> omega) | fail) only [↓RBp, ↓RA, ↓reduceIte, Nat.reduceAdd, Nat.reduceMul, Nat.reduceEqDiff, RB, RBr, RW, RS, RA2, q0, q1, q2, q3, q4]
  refine k_Next x2 0 1 _ (fun w3 he3 => ?_)
  rw [per4, show (4 : Int).toNat = 4 from rfl, aw_alF, if_pos rfl, aw_mxG]
  have e13 := he2.trans he3
  have x3 := x2.ext he3
  have e3 := e2.trans he3
  have L3 := L1.ext (e12.trans he3)
  have ob2 := chCells e13; have r0 := ob2.1; have r1 := ob2.2.1; have r2 := ob2.2.2.1; have r3 := ob2.2.2.2.1; have r4 := ob2.2.2.2.2
  have lt3 : w1.heap.size < w3.heap.size := lt_of_cell r0
  simp (disch := first | omega | simp only [RO] | (simp only [RZ] <;> omega) | fail) only [↓RBp, ↓RA, ↓reduceIte, Nat.reduceAdd, Nat.reduceMul, Nat.reduceEqDiff, RB, RBr, RW, RS, RA2, r0, r1, r2, r3, r4]
  refine k_Actions (m := w3.heap.size + 2) (x3.ext (by repeat (first | with_reducible refine eB ?_ (by omega) _ | with_reducible refine eB ?_ (by simp only [RZ] <;> omega) _ | with_reducible assumption | exact eR _ | with_reducible refine eA ?_ _ | with_reducible refine eD ?_ | with_reducible refine eT ?_ (by assumption)))) aw_on.err 0 1 [0] [] [64] _ _ _ ⟨some ⟨w3.heap.size, 0, none⟩, 1, rfl, .inr ⟨_, _, rfl, by omega, ?_⟩⟩ ⟨some ⟨w3.heap.size + 1, 0, none⟩, 1, rfl, .inr ⟨_, _, rfl, by omega, ?_⟩⟩ (RdS.nil _ _) (by simp) (by simp) (by simp) (by simp) _ (fun hn => absurd awActA hn) (fun _ hn => by rw [aw_act] at hn; cases hn) (fun _ ws hws v' w4 he4 hnv sl => ?_)
  · intro j u hj
    obtain ⟨rfl, rfl⟩ := one_get hj
    simp (disch := first | omega | simp only [RO] | (simp only [RZ] <;> omega) | fail) only [↓RBp, ↓RA, ↓reduceIte, Nat.reduceAdd, Nat.reduceMul, Nat.reduceEqDiff, RB, RBr, RW, RS, RA2]
  · intro j u hj
    obtain ⟨rfl, rfl⟩ := one_get hj
    simp (disch := first | omega | simp only [RO] | (simp only [RZ] <;> omega) | fail) only [↓RBp, ↓RA, ↓reduceIte, Nat.reduceAdd, Nat.reduceMul, Nat.reduceEqDiff, RB, RBr, RW, RS, RA2]
  rw [aw_act] at hws
  injection hws with hws
  subst hws
  have e34 : Ext w3 w4 := Ext.trans (by repeat (first | with_reducible refine eB ?_ (by omega) _ | with_reducible refine eB ?_ (by simp only [RZ] <;> omega) _ | with_reducible assumption | exact eR _ | with_reducible refine eA ?_ _ | with_reducible refine eD ?_ | with_reducible refine eT ?_ (by assumption))) he4
  have L4 := L3.ext e34
  have e14 := e13.trans e34
  have ob3 := chCells e14; have s0 := ob3.1; have s1 := ob3.2.1; have s2 := ob3.2.2.1; have s3 := ob3.2.2.2.1; have s4 := ob3.2.2.2.2
  have lt4 : w1.heap.size < w4.heap.size := lt_of_cell s0
  have out : ∀ b, v'.ownBlock = some b → ¬ Y.F b := L3.out (fun b hb => Nat.le_trans (by simp only [RZ]; omega) (hnv b hb))
  obtain ⟨pa, pc, rfl, hpc⟩ := sl.isS'
  have hlen : awW.length = 2 := rfl
  simp (disch := first | omega | simp only [RO] | (simp only [RZ] <;> omega) | fail) only [↓RBp, ↓RA, ↓reduceIte, Nat.reduceAdd, Nat.reduceMul, Nat.reduceEqDiff, RB, RBr, RW, RS, RA2, hlen]
  apply f12_l1_rule (I := fun z w' => ∃ (j : Nat) (Y' : Lay), z = .int .i64 (j : Int) ∧ j ≤ 2 ∧ Stp w4 Y w' Y' (awD.strs (awW.take j))) (μ := fun z _ => 2 - (Go.RowKit.intOf z).toNat)
  · exact ⟨0, Y, rfl, by omega, (Stp.refl L4.dv).to (strs_zero _ _).symm⟩
  · intros; rename_i w5 hI E1 hE
    obtain ⟨j, Y5, rfl, hj, st⟩ := hI
    have tb : Y5.tb 0 = Y.tb 0 := by rw [st.tb]
    have L5 := L4.step st (aw_goodT j)
    have lt5 : w1.heap.size < w5.heap.size := Nat.lt_of_lt_of_le lt4 st.frm.size
    have fc : ∀ i, w5.cell? ⟨w1.heap.size, i, none⟩ = w4.cell? ⟨w1.heap.size, i, none⟩ := fun i => st.frm.cell _ i lt4 nt1
    by_cases hj2 : j < 2
    · have hx := aw_exe j
      have hxm := aw_ok awW[j] (List.getElem_mem (by omega))
      have htk := strs_take (D := awD) (wr_get (ws := awW) (j := j) (by omega))
      obtain ⟨b, o, cap, ev1, hc1, hc2⟩ := wr_cells (sl.frm st.frm out) (j := j) (by omega)
      injection ev1 with ev1 _ ev2; subst ev1; subst ev2
      generalize awW[j] = x at hc1 hc2 hxm htk
      obtain ⟨xo, xv⟩ := x
      simp only at hc1 hc2 hxm htk
      unfold f12_l1_t
      simp (disch := first | omega | simp only [RO] | (simp only [RZ] <;> omega) | fail) only [↓RBp, ↓RA, ↓reduceIte, Nat.reduceAdd, Nat.reduceMul, Nat.reduceEqDiff, RB, RBr, RW, RS, RA2, hc1, hc2]
      have stg := st.grow (Ext.alloc_self w5 (.cells #[.int .u64 (xo : Int), .int .u64 (xv : Int)] 37))
      rw [← tb]
      refine k_Store stg.dv (aw_goodT j) 0 (by omega) xo xv (by omega) _ (fun w6 Y6 st6 => ?_)
      simp (disch := first | omega | simp only [RO] | (simp only [RZ] <;> omega) | fail) only [↓RBp, ↓RA, ↓reduceIte, Nat.reduceAdd, Nat.reduceMul, Nat.reduceEqDiff, RB, RBr, RW, RS, RA2]
      apply hE
      · exact ⟨j + 1, Y6, by simp, by omega, by rw [htk]; exact stg.trans st6⟩
      · simp [Go.RowKit.intOf]; omega
    · have : j = 2 := by omega
      subst this
      have L5' : Lv w w5 Y5 awE := L5
      have x5 := L5'.cx hG awE_on.1.off (l := 0) (c := 4) (by rw [awE_n]; omega) (by omega) (by omega)
      have e5 := L5'.ex
      rw [← fc] at s0 s1 s2 s3 s4
      rw [← tb] at s0
      unfold f12_l1_t
      simp (disch := first | omega | simp only [RO] | (simp only [RZ] <;> omega) | fail) only [↓RBp, ↓RA, ↓reduceIte, Nat.reduceAdd, Nat.reduceMul, Nat.reduceEqDiff, RB, RBr, RW, RS, RA2, s0, s1, s2, s3, s4, f12_k1_eq, f12_k1_t]
      refine k_Taken x5 0 1 0 _ (fun w6 e56 => ?_)
      rw [awE_mk0]
      have a0 := e56.cell_some s0
      have a1 := e56.cell_some s1
      have a2 := e56.cell_some s2
      have a3 := e56.cell_some s3
      have a4 := e56.cell_some s4
      simp (disch := first | omega | simp only [RO] | (simp only [RZ] <;> omega) | fail) only [↓RBp, ↓RA, ↓reduceIte, Nat.reduceAdd, Nat.reduceMul, Nat.reduceEqDiff, RB, RBr, RW, RS, RA2, a0, a1, a2, a3, a4]
      refine k_Count (x5.ext e56) 0 1 _ (fun w7 e67 => ?_)
      rw [per4, show (4 : Int).toNat = 4 from rfl, awE_cnt]
      have b0 := e67.cell_some a0
      have b1 := e67.cell_some a1
      have b2 := e67.cell_some a2
      have b3 := e67.cell_some a3
      have b4 := e67.cell_some a4
      have z1 : (((1 : Nat) : Int) = 1) := rfl
      simp (disch := first | omega | simp only [RO] | (simp only [RZ] <;> omega) | fail) only [↓RBp, ↓RA, ↓reduceIte, Nat.reduceAdd, Nat.reduceMul, Nat.reduceEqDiff, RB, RBr, RW, RS, RA2, b0, b1, b2, b3, b4, z1]
      refine k_Free (x5.ext (e56.trans e67)) 0 1 0 _ (fun w8 e78 => ?_)
      rw [awE_fr]
      simp (disch := first | omega | simp only [RO] | (simp only [RZ] <;> omega) | fail) only [↓RBp, ↓RA, ↓reduceIte, Nat.reduceAdd, Nat.reduceMul, Nat.reduceEqDiff, RB, RBr, RW, RS, RA2]
      exact hK _ (e5.trans (e56.trans (e67.trans e78)))
end
end Go.Proofs.YtaeopkhdokaaoaaGreatDoor
namespace Go.Proofs.YtaeopkhdokaaoaaGreatDoor
open Go Go.Sh Go.ChangeShapes Go.WideShapes Go.ChangeAt Go.RowKit Go.Joins
set_option maxRecDepth 100000
set_option linter.unusedVariables false
theorem Tryz.own : ownKnob Tryz.prog.godebug = none := by kernel_rfl
theorem Tryz.laidOut : laidOutB Tryz.prog = true := by kernel_rfl
abbrev laidL : List (String × DataW Unit) := [("bedrock/crc.nibbles", Rows.laid_bedrock_crc_nibbles), ("bedrock/sizeclass.payload", Rows.laid_bedrock_sizeclass_payload)]
theorem gNib : Tryz.prog.globalNamed "bedrock/crc.nibbles" = some 1 := by kernel_rfl
theorem gPay : Tryz.prog.globalNamed "bedrock/sizeclass.payload" = some 0 := by kernel_rfl
theorem tNib : (Tryz.prog.globals[1]?).map (·.type) = some 204 := by kernel_rfl
theorem tPay : (Tryz.prog.globals[0]?).map (·.type) = some 165 := by kernel_rfl
theorem arr_ints {H : Type} {enc : TypeId × Value → H} {P : Program} {w : World} {base : Nat} {spare : Nat → Bool} {held : Bool} {fuel : Nat} {t e : TypeId} {n : Nat} {k : IntKind} {cs : List Value} {l : List Int} {ps : List MemPlace} (hu : P.underlying t = some (.array n e)) (he : P.underlying e = some (.int k)) (hc : P.cellsOf e = 1)
    (h : DataW.trod enc P w base spare held fuel t cs = some (.agg (l.map fun z => .lit (.int k z)), ps)) (i : Nat) (hi : i < n) : ∃ z, l[i]? = some z ∧ cs[i]? = some (.int k z) := by
  obtain ⟨xs, m, rfl, hx, hlen, hn, hel⟩ := DataW.trod_array hu h
  have h1 := hel i hi
  have hxi : xs[i]? = some xs[i] := List.getElem?_eq_getElem (by omega)
  rw [hxi, hc, Nat.mul_one] at h1
  obtain ⟨z, e1, e2, _⟩ := DataW.trod_int he h1
  refine ⟨z, ?_, ?_⟩
  · simp only [Prod.mk.injEq, DataW.agg.injEq] at hx
    have h2 : (l.map fun z => (DataW.lit (.int k z) : DataW H))[i]? = (xs.map (·.1))[i]? := by rw [hx.1]
    rw [List.getElem?_map, List.getElem?_map, hxi, e2] at h2
    cases hl : l[i]? with
    | none => rw [hl] at h2; cases h2
    | some z' =>
      rw [hl] at h2
      simp only [Option.map_some, Option.some.injEq, DataW.lit.injEq, Lit.int.injEq, true_and] at h2
      rw [h2]
  · have h3 : ((cs.drop i).take 1)[0]? = some (.int k z) := by rw [e1]; rfl
    rw [List.getElem?_take, List.getElem?_drop] at h3
    simpa using h3
theorem glob_of_laid {W : World} (h : laidMetH Tryz.prog laidL W) : Glob W := by
  rw [MakeChecks.laidMetH_plain _ _ _ (by kernel_rfl)] at h
  obtain ⟨ps, ⟨g0, t0, cs0, f0, p0, q0, hg0, ht0, hv0, hd0, ⟨g1, t1, cs1, f1, p1, q1, hg1, ht1, hv1, hd1, _, _⟩, _⟩, _, _⟩ := h
  obtain rfl := Option.some.inj (gNib.symm.trans hg0)
  obtain rfl := Option.some.inj (gPay.symm.trans hg1)
  obtain rfl := Option.some.inj (tNib.symm.trans ht0)
  obtain rfl := Option.some.inj (tPay.symm.trans ht1)
  refine ⟨fun i hi => ?_, fun i hi => ?_⟩
  · obtain ⟨z, hz, hc⟩ := arr_ints (l := [3, 7, 15, 31, 60]) (show Tryz.prog.underlying 165 = some (.array 5 3) by kernel_rfl) (show Tryz.prog.underlying 3 = some (.int .i64) by kernel_rfl) (by kernel_rfl) hd1 i hi
    rw [World.var?_cell hg1 hv1 i]
    have : payN i = z := by unfold payN; rw [List.getD_eq_getElem?_getD, hz]; rfl
    rw [this]; simpa using hc
  · obtain ⟨z, hz, hc⟩ := arr_ints (l := [0, 274646895, 549293790, 820201905, 1098587580, 1361435347, 1640403810, 1905808397, 2197175160, 2460548119, 2722870694, 2987750089, 3280807620, 3553878443, 3811616794, 4084100981]) (show Tryz.prog.underlying 204 = some (.array 16 44) by kernel_rfl) (show Tryz.prog.underlying 44 = some (.int .u32) by kernel_rfl) (by kernel_rfl) hd0 i hi
    rw [World.var?_cell hg0 hv0 i]
    have : ((nibN i : Nat) : Int) = z := by
      have hq : ∀ q : Fin 16, ([0, 274646895, 549293790, 820201905, 1098587580, 1361435347, 1640403810, 1905808397, 2197175160, 2460548119, 2722870694, 2987750089, 3280807620, 3553878443, 3811616794, 4084100981] : List Int)[q.1]? = some ((nibN q.1 : Nat) : Int) := by decide
      exact Option.some.inj ((hq ⟨i, hi⟩).symm.trans hz)
    rw [this]; simpa using hc
theorem door_met (os : Os) (args : Array Value) : laidMetH Tryz.prog laidL ((World.doorLaid Tryz.prog 400 os).forCall (fun _ _ => 0) ⟨#[], args, []⟩).memory :=
  laidMetH_of_parts3 (fuel := 8) (laidMet_of_run' 8 (by kernel_rfl) (by kernel_rfl)) (by kernel_rfl) (by kernel_rfl)
section
variable {H : Type} {enc : TypeId × Value → H}
theorem trodAll_lt {P : Program} {W : World} {ts : List TypeId} {apart : Bool} {vs : List Value} {ds gs : List (DataW H)} {before : List MemPlace} {vars : List String} (hW : DataW.Whole enc P ts vars apart W vs ds gs before) : ∀ x ∈ before, x.block < W.heap.size := fun x hx => by simpa using hW.lt x hx
theorem trodAll_ext {P : Program} (hl : laidOutB P = true) {W W' : World} (hb : Ext W W') : ∀ {ts : List TypeId} {vs : List Value} {ds : List (DataW H)} {ps : List MemPlace}, (∀ t ∈ ts, P.readableRec t = true ∧ t < P.types.size) → DataW.TrodAll enc P W 0 (fun _ => true) true ts vs ds ps → (∀ x ∈ ps, x.block < W.heap.size) → DataW.TrodAll enc P W' 0 (fun b => decide (b < W.heap.size)) true ts vs ds ps := by
  intro ts
  induction ts with
  | nil => intro vs ds ps _ h _; cases vs <;> cases ds <;> first | exact h | exact h.elim
  | cons t ts ih =>
    intro vs ds ps hr h hlt
    cases vs with
    | nil => exact h.elim
    | cons v vs =>
      cases ds with
      | nil => exact h.elim
      | cons d ds =>
        obtain ⟨p, q, h0, h1, rfl⟩ := h
        refine ⟨p, q, Below.trod hl (hr t (by simp)).1 (hr t (by simp)).2 h0 hb (fun x hx => hlt x (by simp [hx])), ih (fun u hu => hr u (by simp [hu])) h1 (fun x hx => hlt x (by simp [hx])), rfl⟩
theorem post_ext {f : Func} {s : ChangeSpec} {W W' : World} {args : Array Value} {ds : List (DataW H)} {before : List MemPlace} (hv : s.vars = []) (hr : f.resultTypes = #[4]) (hrd : ∀ t ∈ f.params.toList, Tryz.prog.readableRec t = true ∧ t < Tryz.prog.types.size)
    (hW : DataW.Whole enc Tryz.prog f.params.toList s.vars false W args.toList ds [] before) (hs : s.fn H (ds ++ []) = { results := [.lit (.bool true)], args := ds }) (hb : Ext W W') : s.post enc Tryz.prog f false true false false W args (.bool true) W' := by
  have hW' := hW
  obtain ⟨p, q, hA, hV, rfl, hfz, hnd⟩ := hW
  rw [hv] at hV
  have hq : q = [] := hV
  subst hq
  have hlt := trodAll_lt hW'
  refine ⟨ds, [], p ++ [], [], p, [], hW', ?_, ?_, ?_, Below.frame hb _, fun h => by cases h⟩
  · rw [hs, hr]
    exact trodAll_mk1 (shut_bool (show Tryz.prog.underlying 4 = some .bool by kernel_rfl) true)
  · rw [hs]; exact trodAll_ext Tryz.laidOut hb hrd hA (fun x hx => hlt x (by simp [hx]))
  · rw [hs, hv]; rfl
end
end Go.Proofs.YtaeopkhdokaaoaaGreatDoor
namespace Go.Proofs.YtaeopkhdokaaoaaGreatDoor
open Go Go.Sh
set_option maxRecDepth 100000
set_option maxHeartbeats 4000000
set_option linter.unusedSimpArgs false
set_option linter.unusedVariables false
section
variable {w w' : World} {Y Y' : Lay} {D D' : DS}
theorem in_cells {v : Value} {p : List Ins} (s : SlO w 133 3 v p.length (inL p)) {j : Nat} (h : j < p.length) : ∃ b o cap, v = .slice (some ⟨b, o, none⟩) p.length cap ∧ w.cell? ⟨b, o + j * 3, none⟩ = some (.int .u8 (p[j].op : Int)) ∧ w.cell? ⟨b, o + j * 3 + 1, none⟩ = some (.int .u64 (p[j].off : Int)) ∧ w.cell? ⟨b, o + j * 3 + 2, none⟩ = some (.int .u64 (p[j].val : Int)) := by
  obtain ⟨b, o, cap, rfl, _⟩ := s.isS (by omega)
  have hg := inL_get p j p[j] (List.getElem?_eq_getElem h)
  refine ⟨b, o, cap, rfl, s.cell rfl hg.1, ?_, ?_⟩
  · have := s.cell rfl hg.2.1
    rw [← Nat.add_assoc] at this; exact this
  · have := s.cell rfl hg.2.2
    rw [← Nat.add_assoc] at this; exact this
theorem ne_instr (x y : Operand) (a b c : Nat) (w : World) (k : Value → Prop) : rd Tryz.prog (binM .neq 133 x y (.agg #[.int .u8 (a : Int), .int .u64 (b : Int), .int .u64 (c : Int)]) (.agg #[.int .u8 (a : Int), .int .u64 (b : Int), .int .u64 (c : Int)])) w k = k (.bool false) := by
  have h := run_st_neq (P := Tryz.prog) (t := 133) (n := 3) (by kernel_rfl) x y [.int .u8 (a : Int), .int .u64 (b : Int), .int .u64 (c : Int)] [.int .u8 (a : Int), .int .u64 (b : Int), .int .u64 (c : Int)] rfl (by simp [kin]) w
  have e : eqL [Value.int .u8 (a : Int), .int .u64 (b : Int), .int .u64 (c : Int)] [.int .u8 (a : Int), .int .u64 (b : Int), .int .u64 (c : Int)] = true := by simp [eqL]
  rw [e] at h
  exact rd_of_run h k
theorem k_equal (p : List Ins) (v u : Value) (hv : SlO w 133 3 v p.length (inL p)) (hu : SlO w 133 3 u p.length (inL p)) (hl : p.length < 1099511627776) (K : K1) (hK : ∀ w', Ext w w' → K (.bool true) w') : callS Tryz.prog 17 #[v, u] w K := by
  obtain ⟨va, vc, rfl, _⟩ := hv.isS'
  obtain ⟨ua, uc, rfl, _⟩ := hu.isS'
  refine f17_call _ _ _ _ ?_
  unfold f17_t
  simp (disch := first | omega | simp only [RO] | (simp only [RZ] <;> omega) | fail) only [↓RBp, ↓RA, ↓reduceIte, Nat.reduceAdd, Nat.reduceMul, Nat.reduceEqDiff, RB, RBr, RW, RS, RA2]
  apply f17_l1_rule (I := fun z w' => ∃ j : Nat, z = .int .i64 (j : Int) ∧ j ≤ p.length ∧ Ext w w') (μ := fun z _ => p.length - (Go.RowKit.intOf z).toNat)
  · exact ⟨0, rfl, by omega, (by repeat (first | with_reducible refine eB ?_ (by omega) _ | with_reducible refine eB ?_ (by simp only [RZ] <;> omega) _ | with_reducible assumption | exact eR _ | with_reducible refine eA ?_ _ | with_reducible refine eD ?_ | with_reducible refine eT ?_ (by assumption)))⟩
  · intros; rename_i w1 hI E1 hE
    obtain ⟨j, rfl, hj, e1⟩ := hI
    by_cases hjl : j < p.length
    · obtain ⟨b, o, cap, ev1, a0, a1, a2⟩ := in_cells (hv.ext e1) hjl
      obtain ⟨b', o', cap', ev1', b0, b1, b2⟩ := in_cells (hu.ext e1) hjl
      injection ev1 with ev1 _ ev2; subst ev1; subst ev2
      injection ev1' with ev1' _ ev2'; subst ev1'; subst ev2'
      generalize p[j] = x at a0 a1 a2 b0 b1 b2
      obtain ⟨xo, xf, xv⟩ := x
      simp only at a0 a1 a2 b0 b1 b2
      unfold f17_l1_t
      simp (disch := first | omega | simp only [RO] | (simp only [RZ] <;> omega) | fail) only [↓RBp, ↓RA, ↓reduceIte, Nat.reduceAdd, Nat.reduceMul, Nat.reduceEqDiff, RB, RBr, RW, RS, RA2, a0, a1, a2, b0, b1, b2, ne_instr]
      apply hE
      · exact ⟨j + 1, by simp, by omega, (by repeat (first | with_reducible refine eB ?_ (by omega) _ | with_reducible refine eB ?_ (by simp only [RZ] <;> omega) _ | with_reducible assumption | exact eR _ | with_reducible refine eA ?_ _ | with_reducible refine eD ?_ | with_reducible refine eT ?_ (by assumption)))⟩
      · simp [Go.RowKit.intOf]; omega
    · unfold f17_l1_t
      simp (disch := first | omega | simp only [RO] | (simp only [RZ] <;> omega) | fail) only [↓RBp, ↓RA, ↓reduceIte, Nat.reduceAdd, Nat.reduceMul, Nat.reduceEqDiff, RB, RBr, RW, RS, RA2, f17_k1_eq, f17_k1_t]
      exact hK _ e1
end
end Go.Proofs.YtaeopkhdokaaoaaGreatDoor
namespace Go.Proofs.YtaeopkhdokaaoaaGreatDoor
open Go Go.Sh
set_option maxRecDepth 100000
set_option linter.unusedVariables false
noncomputable def f3_c : Code := (Tryz.f3.body).getD .skip
def f3_rs : List ResultVar := [.tmp 4]
abbrev f3_e (K : K1) : KF := endK Tryz.prog f3_rs K
def f3_k3_t (x0 x7 x8 x11 x12 : Value) (K : K1) (w : World) : Prop :=
 rd Tryz.prog (convert 3 33 x0) w.drew fun t129 =>
 rd Tryz.prog (binM .mul 33 (.const (.int .u64 ((64 : Nat) : Int))) (.tmp 129) (.int .u64 ((64 : Nat) : Int)) t129) w.drew fun t130 =>
 ldR Tryz.prog 35 x11 w.drew fun t131 =>
 callS Tryz.prog 15 (pA #[x12]) w.drew fun t127 w_1 =>
 (ag Tryz.prog (convert 3 33 x0) w_1 t129) ∧
 (ag Tryz.prog (binM .mul 33 (.const (.int .u64 ((64 : Nat) : Int))) (.tmp 129) (.int .u64 ((64 : Nat) : Int)) t129) w_1 t130) ∧
 (ldG Tryz.prog 35 x11 w_1 t131) ∧
 callS Tryz.prog 16 (pA #[t131]) w_1 fun t132 w_2 =>
 (ag Tryz.prog (convert 3 33 x0) w_2 t129) ∧
 (ag Tryz.prog (binM .mul 33 (.const (.int .u64 ((64 : Nat) : Int))) (.tmp 129) (.int .u64 ((64 : Nat) : Int)) t129) w_2 t130) ∧
 rd Tryz.prog (Instr.build 37 #[(0, t130), (1, t132)]) w_2 fun t133 =>
 ev Tryz.prog (Instr.buildSlice 38 1 #[(0, t133)]) w_2 fun t134 w_3 =>
 callS Tryz.prog 15 (pA #[t134]) w_3 fun t135 w_4 =>
 callS Tryz.prog 22 (pA #[t127, t135]) w_4 fun t136 w_5 =>
 ev Tryz.prog (binM .eql 28 (.tmp 137) (.const (.int .i64 0)) x8 (.int .i64 0)) w_5 fun t138 w_6 =>
 gd t138 true (fun k => k x7 w_6) w_6 fun t140 w_7 =>
 gd t138 true (fun k => k t136 w_7) w_7 fun t141 w_8 =>
 gd t138 true (fun k => callS Tryz.prog 17 (pA #[t140, t141]) w_8 k) w_8 fun t142 w_9 =>
 pickS t138 t142 (.bool false) w_9 fun t143 w_10 =>
 K t143 w_10
theorem f3_k3_sk (z : Nat → Value) (K : K1) (w : World) : (cS (cr (cr (cr (cr (cr (cr (cr (cr (cr (cr (cr f3_c))))))))))) (f3_e K) (f3_e K) nX (frL 144 z 0) w) = f3_k3_t (z 0) (z 7) (z 8) (z 11) (z 12) K w := by kernel_rfl
def f3_k3 (K : K1) (x0 x7 x8 x11 x12 : Value) (w : World) : Prop := f3_k3_t x0 x7 x8 x11 x12 K w
theorem f3_k3_eq (K : K1) (x0 x7 x8 x11 x12 : Value) (w : World) : f3_k3 K x0 x7 x8 x11 x12 w = f3_k3_t x0 x7 x8 x11 x12 K w := rfl
def f3_k3_o (K : K1) : KF := fun fr w => cS (cr (cr (cr (cr (cr (cr (cr (cr (cr (cr (cr f3_c))))))))))) (f3_e K) (f3_e K) nX fr w
theorem f3_k3_s (K : K1)  (f0 : Fr) (hn : f0.length = 144) (fr : Fr) (w : World) (hs : Same 22300745198530623141535718272648361505980415 f0 fr) (h : f3_k3 K (sv fr 0) (sv fr 7) (sv fr 8) (sv fr 11) (sv fr 12) w) : f3_k3_o K fr w := by
  have h1 := cast (f3_k3_sk (fun i => sv fr i) K w).symm h
  rw [show frL 144 (fun i => sv fr i) 0 = fr from frL_of (hs.len.trans hn)] at h1
  have h2 : cS (cr (cr (cr (cr (cr (cr (cr (cr (cr (cr (cr f3_c))))))))))) (f3_e K) (f3_e K) nX fr w := (codeS_mono (m := 22300745198530623141535718272648361505980415) (f0 := f0) (cr (cr (cr (cr (cr (cr (cr (cr (cr (cr (cr f3_c))))))))))) (by kernel_rfl) (fun _ _ _ h => h) (fun _ _ _ h => h) (fun _ _ _ _ h => h) fr w hs) h1
  exact cast (by kernel_rfl) h2
def f3_l2_t (x0 x7 x8 x11 x12 x14 : Value) (K : K1) (E1 : Value → Value → World → Prop) (c_f3_k3 : Value → Value → Value → Value → Value → World → Prop) (w : World) : Prop :=
 ev Tryz.prog (binM .lss 33 (.tmp 112) (.const (.int .u64 ((8 : Nat) : Int))) x14 (.int .u64 ((8 : Nat) : Int))) w fun t113 w_1 =>
 cndS t113 (
 ev Tryz.prog (convert 3 33 x0) w_1 fun t118 w_2 =>
 ev Tryz.prog (binM .mul 33 (.const (.int .u64 ((64 : Nat) : Int))) (.tmp 118) (.int .u64 ((64 : Nat) : Int)) t118) w_2 fun t119 w_3 =>
 ev Tryz.prog (binM .mul 33 (.const (.int .u64 ((8 : Nat) : Int))) (.tmp 120) (.int .u64 ((8 : Nat) : Int)) x14) w_3 fun t121 w_4 =>
 ev Tryz.prog (binM .add 33 (.tmp 119) (.tmp 121) t119 t121) w_4 fun t122 w_5 =>
 ev Tryz.prog (Instr.build 37 #[(0, t122)]) w_5 fun t123 w_6 =>
 ev Tryz.prog (Instr.buildSlice 38 1 #[(0, t123)]) w_6 fun t124 w_7 =>
 bltS Tryz.prog .append #[38, 38] 38 #[false, false] (pA #[x12, t124]) w_7 fun t125 w_8 =>
 ev Tryz.prog (binM .add 33 (.tmp 114) (.const (.int .u64 ((1 : Nat) : Int))) x14 (.int .u64 ((1 : Nat) : Int))) w_8 fun t115 w_9 =>
 E1 t125 t115 w_9) (
 c_f3_k3 x0 x7 x8 x11 x12 w_1)
theorem f3_l2_sk (z : Nat → Value) (K : K1) (E1 : Value → Value → World → Prop) (c_f3_k3 : Value → Value → Value → Value → Value → World → Prop) (w : World) : (cS (cl (cl (cr (cl (cr (cr (cr (cr (cr (cr (cr (cr (cr (cr f3_c)))))))))))))) (fun fr w => E1 (sv fr 12) (sv fr 14) w) (f3_e K) (exB 2 (fun fr w => c_f3_k3 (sv fr 0) (sv fr 7) (sv fr 8) (sv fr 11) (sv fr 12) w) nX) (frL 144 z 0) w) = f3_l2_t (z 0) (z 7) (z 8) (z 11) (z 12) (z 14) K E1 c_f3_k3 w := by kernel_rfl
def f3_l2 (K : K1) (x0 x7 x8 x11 x12 x14 : Value) (w : World) : Prop := ∃ (I : Value → Value → World → Prop) (μ : Value → Value → World → Nat), I x12 x14 w ∧ ∀ (x12 x14 : Value) (w : World), I x12 x14 w → ∀ E1 : Value → Value → World → Prop, (∀ (y12 y14 : Value) (w' : World), I y12 y14 w' → μ y12 y14 w' < μ x12 x14 w → E1 y12 y14 w') → f3_l2_t x0 x7 x8 x11 x12 x14 K E1 (f3_k3 K) w
theorem f3_l2_rule (x0 x7 x8 x11 x12 x14 : Value) (K : K1) (w : World) (I : Value → Value → World → Prop) (μ : Value → Value → World → Nat) (h0 : I x12 x14 w)
    (hr : ∀ (x12 x14 : Value) (w : World), I x12 x14 w → ∀ E1 : Value → Value → World → Prop, (∀ (y12 y14 : Value) (w' : World), I y12 y14 w' → μ y12 y14 w' < μ x12 x14 w → E1 y12 y14 w') → f3_l2_t x0 x7 x8 x11 x12 x14 K E1 (f3_k3 K) w) : f3_l2 K x0 x7 x8 x11 x12 x14 w := ⟨I, μ, h0, hr⟩
def f3_l2_o (K : K1) : KF := fun fr w => cS (cl (cr (cl (cr (cr (cr (cr (cr (cr (cr (cr (cr (cr f3_c))))))))))))) (fun _ _ => False) (f3_e K) (exB 2 (f3_k3_o K) nX) fr w
theorem f3_l2_b (K : K1)  (E1 : Value → Value → World → Prop) (F1 : KF) (f0 : Fr) (hn : f0.length = 144) (f1 : Fr) (a1 : Same 22300745198530623141535718272648361505980415 f0 f1) (b1 : ∀ fr w, Same 85065399433376081038215121361612853248 f1 fr → E1 (sv fr 12) (sv fr 14) w → F1 fr w) (fr : Fr) (w : World) (hs : Same 85065399433376081038215121361612853248 f1 fr) (h : f3_l2_t (sv fr 0) (sv fr 7) (sv fr 8) (sv fr 11) (sv fr 12) (sv fr 14) K E1 (f3_k3 K) w) : cS (cl (cl (cr (cl (cr (cr (cr (cr (cr (cr (cr (cr (cr (cr f3_c)))))))))))))) F1 (f3_e K) (exB 2 (f3_k3_o K) nX) fr w := by
  have h1 := cast (f3_l2_sk (fun i => sv fr i) K E1 (f3_k3 K) w).symm h
  rw [show frL 144 (fun i => sv fr i) 0 = fr from frL_of (hs.len.trans (a1.len.trans hn))] at h1
  have h2 : cS (cl (cl (cr (cl (cr (cr (cr (cr (cr (cr (cr (cr (cr (cr f3_c)))))))))))))) F1 (f3_e K) (exB 2 (f3_k3_o K) nX) fr w := (codeS_mono (m := 85065399433376081038215121361612853248) (f0 := f1) (cl (cl (cr (cl (cr (cr (cr (cr (cr (cr (cr (cr (cr (cr f3_c)))))))))))))) (by kernel_rfl) (fun fr w hs h => b1 fr w hs h) (fun _ _ _ h => h) (exB_mono (fun fr w hs h => f3_k3_s K f0 hn fr w (Same.up (by kernel_rfl) a1 hs) h) (fun _ _ _ _ h => h)) fr w hs) h1
  exact cast (by kernel_rfl) h2
theorem f3_l2_s (K : K1)  (f0 : Fr) (hn : f0.length = 144) (fr : Fr) (w : World) (hs : Same 22300745198530623141535718272648361505980415 f0 fr) (h : f3_l2 K (sv fr 0) (sv fr 7) (sv fr 8) (sv fr 11) (sv fr 12) (sv fr 14) w) : f3_l2_o K fr w := by
  obtain ⟨I, μ, h0, hr⟩ := h
  have hL : loopS (fun E fr w => cS (cl (cl (cr (cl (cr (cr (cr (cr (cr (cr (cr (cr (cr (cr f3_c)))))))))))))) E (f3_e K) (exB 2 (f3_k3_o K) nX) fr w) fr w := by
    refine ⟨fun f' w' => Same 85065399433376081038215121361612853248 fr f' ∧ I (sv f' 12) (sv f' 14) w', fun f' w' => μ (sv f' 12) (sv f' 14) w', ⟨Same.refl _ _, h0⟩, ?_⟩
    intro f' w' hI
    have hb := hr (sv f' 12) (sv f' 14) w' hI.2 (fun y12 y14 w2 => I y12 y14 w2 ∧ μ y12 y14 w2 < μ (sv f' 12) (sv f' 14) w') (fun y12 y14 w2 a b => ⟨a, b⟩)
    rw [← hI.1.sv 0 (by kernel_rfl), ← hI.1.sv 7 (by kernel_rfl), ← hI.1.sv 8 (by kernel_rfl), ← hI.1.sv 11 (by kernel_rfl)] at hb
    exact f3_l2_b K _ _ f0 hn fr hs (fun f w h1 h2 => ⟨⟨h1, h2.1⟩, h2.2⟩) f' w' hI.1 hb
  exact cast (by kernel_rfl) hL
def f3_k2_t (x0 x7 x8 x11 x12 : Value) (K : K1) (c_f3_l2 : Value → Value → Value → Value → Value → Value → World → Prop) (w : World) : Prop :=
 c_f3_l2 x0 x7 x8 x11 x12 (.int .u64 ((1 : Nat) : Int)) w
theorem f3_k2_sk (z : Nat → Value) (K : K1) (c_f3_l2 : Value → Value → Value → Value → Value → Value → World → Prop) (w : World) : (cS (cl (cl (cr (cr (cr (cr (cr (cr (cr (cr (cr (cr f3_c)))))))))))) (fun fr w => c_f3_l2 (sv fr 0) (sv fr 7) (sv fr 8) (sv fr 11) (sv fr 12) (sv fr 14) w) (f3_e K) nX (frL 144 z 0) w) = f3_k2_t (z 0) (z 7) (z 8) (z 11) (z 12) K c_f3_l2 w := by kernel_rfl
def f3_k2 (K : K1) (x0 x7 x8 x11 x12 : Value) (w : World) : Prop := f3_k2_t x0 x7 x8 x11 x12 K (f3_l2 K) w
theorem f3_k2_eq (K : K1) (x0 x7 x8 x11 x12 : Value) (w : World) : f3_k2 K x0 x7 x8 x11 x12 w = f3_k2_t x0 x7 x8 x11 x12 K (f3_l2 K) w := rfl
def f3_k2_o (K : K1) : KF := fun fr w => cS (cr (cr (cr (cr (cr (cr (cr (cr (cr (cr f3_c)))))))))) (f3_e K) (f3_e K) nX fr w
theorem f3_k2_s (K : K1)  (f0 : Fr) (hn : f0.length = 144) (fr : Fr) (w : World) (hs : Same 22300745198530623141535718272648361505980415 f0 fr) (h : f3_k2 K (sv fr 0) (sv fr 7) (sv fr 8) (sv fr 11) (sv fr 12) w) : f3_k2_o K fr w := by
  have h1 := cast (f3_k2_sk (fun i => sv fr i) K (f3_l2 K) w).symm h
  rw [show frL 144 (fun i => sv fr i) 0 = fr from frL_of (hs.len.trans hn)] at h1
  have h2 : cS (cl (cl (cr (cr (cr (cr (cr (cr (cr (cr (cr (cr f3_c)))))))))))) (fun fr w => f3_l2_o K fr w) (f3_e K) nX fr w := (codeS_mono (m := 22300745198530623141535718272648361505980415) (f0 := f0) (cl (cl (cr (cr (cr (cr (cr (cr (cr (cr (cr (cr f3_c)))))))))))) (by kernel_rfl) (fun fr w hs => (fun h => f3_l2_s K f0 hn fr w hs h)) (fun _ _ _ h => h) (fun _ _ _ _ h => h) fr w hs) h1
  exact cast (by kernel_rfl) h2
def f3_l1_t (x0 x3 x7 x8 x11 x12 x90 x91 : Value) (K : K1) (E1 : Value → Value → World → Prop) (c_f3_k2 : Value → Value → Value → Value → Value → World → Prop) (w : World) : Prop :=
 ev Tryz.prog (binM .lss 3 (.tmp 91) (.tmp 90) x91 x90) w fun t92 w_1 =>
 cndS t92 (
 rd Tryz.prog (convert 3 33 x0) w_1.drew fun t96 =>
 rd Tryz.prog (binM .mul 33 (.const (.int .u64 ((64 : Nat) : Int))) (.tmp 96) (.int .u64 ((64 : Nat) : Int)) t96) w_1.drew fun t97 =>
 rd Tryz.prog (Instr.fieldAt 24 x3 0) w_1.drew fun t98 =>
 ldR Tryz.prog 3 t98 w_1.drew fun t99 =>
 rd Tryz.prog (Instr.fieldAt 24 x3 2) w_1.drew fun t105 =>
 ldR Tryz.prog 22 t105 w_1.drew fun t106 =>
 callS Tryz.prog 20 (pA #[t99, x91]) w_1.drew fun t101 w_2 =>
 (ag Tryz.prog (convert 3 33 x0) w_2 t96) ∧
 (ag Tryz.prog (binM .mul 33 (.const (.int .u64 ((64 : Nat) : Int))) (.tmp 96) (.int .u64 ((64 : Nat) : Int)) t96) w_2 t97) ∧
 (ag Tryz.prog (Instr.fieldAt 24 x3 2) w_2 t105) ∧
 (ldG Tryz.prog 22 t105 w_2 t106) ∧
 rd Tryz.prog (convert 3 33 t101) w_2 fun t102 =>
 rd Tryz.prog (binM .mul 33 (.const (.int .u64 ((8 : Nat) : Int))) (.tmp 102) (.int .u64 ((8 : Nat) : Int)) t102) w_2 fun t103 =>
 rd Tryz.prog (binM .add 33 (.tmp 97) (.tmp 103) t97 t103) w_2 fun t104 =>
 callS Tryz.prog 21 (pA #[t106, (.int .u8 ((0 : Nat) : Int)), (.int .u32 ((176 : Nat) : Int))]) w_2 fun t107 w_3 =>
 (ag Tryz.prog (convert 3 33 x0) w_3 t96) ∧
 (ag Tryz.prog (binM .mul 33 (.const (.int .u64 ((64 : Nat) : Int))) (.tmp 96) (.int .u64 ((64 : Nat) : Int)) t96) w_3 t97) ∧
 (ag Tryz.prog (convert 3 33 t101) w_3 t102) ∧
 (ag Tryz.prog (binM .mul 33 (.const (.int .u64 ((8 : Nat) : Int))) (.tmp 102) (.int .u64 ((8 : Nat) : Int)) t102) w_3 t103) ∧
 (ag Tryz.prog (binM .add 33 (.tmp 97) (.tmp 103) t97 t103) w_3 t104) ∧
 rd Tryz.prog (Instr.build 37 #[(0, t104), (1, t107)]) w_3 fun t108 =>
 ev Tryz.prog (Instr.buildSlice 38 1 #[(0, t108)]) w_3 fun t109 w_4 =>
 bltS Tryz.prog .append #[38, 38] 38 #[false, false] (pA #[x12, t109]) w_4 fun t110 w_5 =>
 ev Tryz.prog (binM .add 3 (.tmp 91) (.const (.int .i64 1)) x91 (.int .i64 1)) w_5 fun t111 w_6 =>
 E1 t110 t111 w_6) (
 c_f3_k2 x0 x7 x8 x11 x12 w_1)
theorem f3_l1_sk (z : Nat → Value) (K : K1) (E1 : Value → Value → World → Prop) (c_f3_k2 : Value → Value → Value → Value → Value → World → Prop) (w : World) : (cS (cl (cl (cr (cl (cr (cr (cr (cr (cr (cr (cr (cr (cr f3_c))))))))))))) (fun fr w => E1 (sv fr 12) (sv fr 91) w) (f3_e K) (exB 0 (fun fr w => c_f3_k2 (sv fr 0) (sv fr 7) (sv fr 8) (sv fr 11) (sv fr 12) w) nX) (frL 144 z 0) w) = f3_l1_t (z 0) (z 3) (z 7) (z 8) (z 11) (z 12) (z 90) (z 91) K E1 c_f3_k2 w := by kernel_rfl
def f3_l1 (K : K1) (x0 x3 x7 x8 x11 x12 x90 x91 : Value) (w : World) : Prop := ∃ (I : Value → Value → World → Prop) (μ : Value → Value → World → Nat), I x12 x91 w ∧ ∀ (x12 x91 : Value) (w : World), I x12 x91 w → ∀ E1 : Value → Value → World → Prop, (∀ (y12 y91 : Value) (w' : World), I y12 y91 w' → μ y12 y91 w' < μ x12 x91 w → E1 y12 y91 w') → f3_l1_t x0 x3 x7 x8 x11 x12 x90 x91 K E1 (f3_k2 K) w
theorem f3_l1_rule (x0 x3 x7 x8 x11 x12 x90 x91 : Value) (K : K1) (w : World) (I : Value → Value → World → Prop) (μ : Value → Value → World → Nat) (h0 : I x12 x91 w)
    (hr : ∀ (x12 x91 : Value) (w : World), I x12 x91 w → ∀ E1 : Value → Value → World → Prop, (∀ (y12 y91 : Value) (w' : World), I y12 y91 w' → μ y12 y91 w' < μ x12 x91 w → E1 y12 y91 w') → f3_l1_t x0 x3 x7 x8 x11 x12 x90 x91 K E1 (f3_k2 K) w) : f3_l1 K x0 x3 x7 x8 x11 x12 x90 x91 w := ⟨I, μ, h0, hr⟩
def f3_l1_o (K : K1) : KF := fun fr w => cS (cl (cr (cl (cr (cr (cr (cr (cr (cr (cr (cr (cr f3_c)))))))))))) (fun _ _ => False) (f3_e K) (exB 0 (f3_k2_o K) nX) fr w
theorem f3_l1_b (K : K1)  (E1 : Value → Value → World → Prop) (F1 : KF) (f0 : Fr) (hn : f0.length = 144) (f1 : Fr) (a1 : Same 22300745198530623141535718272648361505980415 f0 f1) (b1 : ∀ fr w, Same 5192294382654749057769946530983936 f1 fr → E1 (sv fr 12) (sv fr 91) w → F1 fr w) (fr : Fr) (w : World) (hs : Same 5192294382654749057769946530983936 f1 fr) (h : f3_l1_t (sv fr 0) (sv fr 3) (sv fr 7) (sv fr 8) (sv fr 11) (sv fr 12) (sv fr 90) (sv fr 91) K E1 (f3_k2 K) w) : cS (cl (cl (cr (cl (cr (cr (cr (cr (cr (cr (cr (cr (cr f3_c))))))))))))) F1 (f3_e K) (exB 0 (f3_k2_o K) nX) fr w := by
  have h1 := cast (f3_l1_sk (fun i => sv fr i) K E1 (f3_k2 K) w).symm h
  rw [show frL 144 (fun i => sv fr i) 0 = fr from frL_of (hs.len.trans (a1.len.trans hn))] at h1
  have h2 : cS (cl (cl (cr (cl (cr (cr (cr (cr (cr (cr (cr (cr (cr f3_c))))))))))))) F1 (f3_e K) (exB 0 (f3_k2_o K) nX) fr w := (codeS_mono (m := 5192294382654749057769946530983936) (f0 := f1) (cl (cl (cr (cl (cr (cr (cr (cr (cr (cr (cr (cr (cr f3_c))))))))))))) (by kernel_rfl) (fun fr w hs h => b1 fr w hs h) (fun _ _ _ h => h) (exB_mono (fun fr w hs h => f3_k2_s K f0 hn fr w (Same.up (by kernel_rfl) a1 hs) h) (fun _ _ _ _ h => h)) fr w hs) h1
  exact cast (by kernel_rfl) h2
theorem f3_l1_s (K : K1)  (f0 : Fr) (hn : f0.length = 144) (fr : Fr) (w : World) (hs : Same 22300745198530623141535718272648361505980415 f0 fr) (h : f3_l1 K (sv fr 0) (sv fr 3) (sv fr 7) (sv fr 8) (sv fr 11) (sv fr 12) (sv fr 90) (sv fr 91) w) : f3_l1_o K fr w := by
  obtain ⟨I, μ, h0, hr⟩ := h
  have hL : loopS (fun E fr w => cS (cl (cl (cr (cl (cr (cr (cr (cr (cr (cr (cr (cr (cr f3_c))))))))))))) E (f3_e K) (exB 0 (f3_k2_o K) nX) fr w) fr w := by
    refine ⟨fun f' w' => Same 5192294382654749057769946530983936 fr f' ∧ I (sv f' 12) (sv f' 91) w', fun f' w' => μ (sv f' 12) (sv f' 91) w', ⟨Same.refl _ _, h0⟩, ?_⟩
    intro f' w' hI
    have hb := hr (sv f' 12) (sv f' 91) w' hI.2 (fun y12 y91 w2 => I y12 y91 w2 ∧ μ y12 y91 w2 < μ (sv f' 12) (sv f' 91) w') (fun y12 y91 w2 a b => ⟨a, b⟩)
    rw [← hI.1.sv 0 (by kernel_rfl), ← hI.1.sv 3 (by kernel_rfl), ← hI.1.sv 7 (by kernel_rfl), ← hI.1.sv 8 (by kernel_rfl), ← hI.1.sv 11 (by kernel_rfl), ← hI.1.sv 90 (by kernel_rfl)] at hb
    exact f3_l1_b K _ _ f0 hn fr hs (fun f w h1 h2 => ⟨⟨h1, h2.1⟩, h2.2⟩) f' w' hI.1 hb
  exact cast (by kernel_rfl) hL
def f3_k1_t (x0 x3 x7 x8 x9 : Value) (K : K1) (c_f3_l1 : Value → Value → Value → Value → Value → Value → Value → Value → World → Prop) (w : World) : Prop :=
 ldS Tryz.prog 24 x3 w fun t68 w_1 =>
 ev Tryz.prog (Instr.alloc 35 true (.tuple #[])) w_1 fun t11 w_2 =>
 stS Tryz.prog 35 t11 t68 w_2 fun w_3 =>
 ev Tryz.prog (Op.unary .not x9) w_3 fun t70 w_4 =>
 gd t70 false (fun k => ev Tryz.prog (Instr.fieldAt 24 x3 0) w_4 k) w_4 fun t72 w_5 =>
 gd t70 false (fun k => ldS Tryz.prog 3 t72 w_5 k) w_5 fun t73 w_6 =>
 gd t70 false (fun k => ev Tryz.prog (binM .lss 3 (.tmp 73) (.const (.int .i64 0)) t73 (.int .i64 0)) w_6 k) w_6 fun t74 w_7 =>
 pickS t70 (.bool true) t74 w_7 fun t75 w_8 =>
 gd t75 false (fun k => ldS Tryz.prog 35 t11 w_8 k) w_8 fun t77 w_9 =>
 gd t75 false (fun k => callS Tryz.prog 18 (pA #[t77]) w_9 k) w_9 fun t78 w_10 =>
 gd t75 false (fun k => ev Tryz.prog (Op.unary .not t78) w_10 k) w_10 fun t79 w_11 =>
 pickS t75 (.bool true) t79 w_11 fun t80 w_12 =>
 cndS t80 (
 ev Tryz.prog (binM .eql 28 (.tmp 81) (.const (.int .i64 1)) x8 (.int .i64 1)) w_12 fun t82 w_13 =>
 gd t82 true (fun k => k x7 w_13) w_13 fun t84 w_14 =>
 gd t82 true (fun k => bltS Tryz.prog .len #[27] 3 #[false] #[t84] w_14 k) w_14 fun t85 w_15 =>
 gd t82 true (fun k => ev Tryz.prog (binM .eql 3 (.tmp 85) (.const (.int .i64 0)) t85 (.int .i64 0)) w_15 k) w_15 fun t86 w_16 =>
 pickS t82 t86 (.bool false) w_16 fun t87 w_17 =>
 K t87 w_17) (
 ev Tryz.prog (Instr.fieldAt 24 x3 0) w_12 fun t88 w_18 =>
 ldS Tryz.prog 3 t88 w_18 fun t89 w_19 =>
 callS Tryz.prog 19 (pA #[t89]) w_19 fun t90 w_20 =>
 c_f3_l1 x0 x3 x7 x8 t11 (.slice none 0 0) t90 (.int .i64 0) w_20)
theorem f3_k1_sk (z : Nat → Value) (K : K1) (c_f3_l1 : Value → Value → Value → Value → Value → Value → Value → Value → World → Prop) (w : World) : (cS (cl (cr (cr (cr (cr (cr (cr f3_c))))))) (fun fr w => cS (cl (cr (cr (cr (cr (cr (cr (cr f3_c)))))))) (fun fr w => cS (cl (cr (cr (cr (cr (cr (cr (cr (cr f3_c))))))))) (fun fr w => cS (cl (cl (cr (cr (cr (cr (cr (cr (cr (cr (cr f3_c))))))))))) (fun fr w => c_f3_l1 (sv fr 0) (sv fr 3) (sv fr 7) (sv fr 8) (sv fr 11) (sv fr 12) (sv fr 90) (sv fr 91) w) (f3_e K) nX fr w) (f3_e K) nX fr w) (f3_e K) nX fr w) (f3_e K) nX (frL 144 z 0) w) = f3_k1_t (z 0) (z 3) (z 7) (z 8) (z 9) K c_f3_l1 w := by kernel_rfl
def f3_k1 (K : K1) (x0 x3 x7 x8 x9 : Value) (w : World) : Prop := f3_k1_t x0 x3 x7 x8 x9 K (f3_l1 K) w
theorem f3_k1_eq (K : K1) (x0 x3 x7 x8 x9 : Value) (w : World) : f3_k1 K x0 x3 x7 x8 x9 w = f3_k1_t x0 x3 x7 x8 x9 K (f3_l1 K) w := rfl
def f3_k1_o (K : K1) : KF := fun fr w => cS (cr (cr (cr (cr (cr (cr f3_c)))))) (f3_e K) (f3_e K) nX fr w
theorem f3_k1_s (K : K1)  (f0 : Fr) (hn : f0.length = 144) (fr : Fr) (w : World) (hs : Same 22300745198530623141535718272648361505980415 f0 fr) (h : f3_k1 K (sv fr 0) (sv fr 3) (sv fr 7) (sv fr 8) (sv fr 9) w) : f3_k1_o K fr w := by
  have h1 := cast (f3_k1_sk (fun i => sv fr i) K (f3_l1 K) w).symm h
  rw [show frL 144 (fun i => sv fr i) 0 = fr from frL_of (hs.len.trans hn)] at h1
  have h2 : cS (cl (cr (cr (cr (cr (cr (cr f3_c))))))) (fun fr w => cS (cl (cr (cr (cr (cr (cr (cr (cr f3_c)))))))) (fun fr w => cS (cl (cr (cr (cr (cr (cr (cr (cr (cr f3_c))))))))) (fun fr w => cS (cl (cl (cr (cr (cr (cr (cr (cr (cr (cr (cr f3_c))))))))))) (fun fr w => f3_l1_o K fr w) (f3_e K) nX fr w) (f3_e K) nX fr w) (f3_e K) nX fr w) (f3_e K) nX fr w := (codeS_mono (m := 22300745198530623141535718272648361505980415) (f0 := f0) (cl (cr (cr (cr (cr (cr (cr f3_c))))))) (by kernel_rfl) (fun fr w hs => codeS_mono (m := 22300745198530623141535718272648361505980415) (f0 := f0) (cl (cr (cr (cr (cr (cr (cr (cr f3_c)))))))) (by kernel_rfl) (fun fr w hs => codeS_mono (m := 22300745198530623141535718272648361505980415) (f0 := f0) (cl (cr (cr (cr (cr (cr (cr (cr (cr f3_c))))))))) (by kernel_rfl) (fun fr w hs => codeS_mono (m := 22300745198530623141535718272648361505980415) (f0 := f0) (cl (cl (cr (cr (cr (cr (cr (cr (cr (cr (cr f3_c))))))))))) (by kernel_rfl) (fun fr w hs => (fun h => f3_l1_s K f0 hn fr w hs h)) (fun _ _ _ h => h) (fun _ _ _ _ h => h) fr w hs) (fun _ _ _ h => h) (fun _ _ _ _ h => h) fr w hs) (fun _ _ _ h => h) (fun _ _ _ _ h => h) fr w hs) (fun _ _ _ h => h) (fun _ _ _ _ h => h) fr w hs) h1
  exact cast (by kernel_rfl) h2
def f3_t (x0 x1 : Value) (K : K1) (c_f3_k1 : Value → Value → Value → Value → Value → World → Prop) (w : World) : Prop :=
 ev Tryz.prog (Instr.box 24 x1) w fun t3 w_1 =>
 callS Tryz.prog 12 (pA #[]) w_1 fun t16 w_2 =>
 ev Tryz.prog (Op.unary .not t16) w_2 fun t17 w_3 =>
 cndS t17 (
 K (.bool false) w_3) (
 ev Tryz.prog (Instr.fieldAt 24 t3 2) w_3 fun t20 w_4 =>
 ldS Tryz.prog 22 t20 w_4 fun t21 w_5 =>
 callS Tryz.prog 13 (pA #[x0, t21]) w_5 fun t22 w_6 =>
 ev Tryz.prog (Instr.extract t22 0) w_6 fun t23 w_7 =>
 ev Tryz.prog (Instr.extract t22 1) w_7 fun t24 w_8 =>
 ldS Tryz.prog 24 t3 w_8 fun t27 w_9 =>
 callS Tryz.prog 14 (pA #[x0, t27]) w_9 fun t28 w_10 =>
 ev Tryz.prog (Instr.extract t28 0) w_10 fun t29 w_11 =>
 ev Tryz.prog (Instr.extract t28 1) w_11 fun t30 w_12 =>
 ev Tryz.prog (binM .geq 3 (.tmp 31) (.const (.int .i64 0)) x0 (.int .i64 0)) w_12 fun t32 w_13 =>
 gd t32 true (fun k => k x0 w_13) w_13 fun t34 w_14 =>
 gd t32 true (fun k => ev Tryz.prog (binM .leq 3 (.tmp 34) (.const (.int .i64 4064)) t34 (.int .i64 4064)) w_14 k) w_14 fun t35 w_15 =>
 pickS t32 t35 (.bool false) w_15 fun t36 w_16 =>
 gd t36 true (fun k => ev Tryz.prog (Instr.fieldAt 24 t3 2) w_16 k) w_16 fun t39 w_17 =>
 gd t36 true (fun k => ldS Tryz.prog 22 t39 w_17 k) w_17 fun t40 w_18 =>
 gd t36 true (fun k => ev Tryz.prog (binM .gtr 22 (.tmp 40) (.const (.int .u16 ((0 : Nat) : Int))) t40 (.int .u16 ((0 : Nat) : Int))) w_18 k) w_18 fun t41 w_19 =>
 pickS t36 t41 (.bool false) w_19 fun t42 w_20 =>
 cndS t42 (
 ev Tryz.prog (convert 3 33 x0) w_20 fun t44 w_21 =>
 ev Tryz.prog (binM .mul 33 (.const (.int .u64 ((64 : Nat) : Int))) (.tmp 44) (.int .u64 ((64 : Nat) : Int)) t44) w_21 fun t45 w_22 =>
 ev Tryz.prog (Instr.fieldAt 24 t3 2) w_22 fun t46 w_23 =>
 ldS Tryz.prog 22 t46 w_23 fun t47 w_24 =>
 ev Tryz.prog (Instr.build 35 #[(0, (.int .i64 (-1))), (1, (.int .i64 (-1))), (2, t47)]) w_24 fun t48 w_25 =>
 callS Tryz.prog 16 (pA #[t48]) w_25 fun t49 w_26 =>
 ev Tryz.prog (Instr.build 37 #[(0, t45), (1, t49)]) w_26 fun t50 w_27 =>
 ev Tryz.prog (Instr.buildSlice 38 1 #[(0, t50)]) w_27 fun t51 w_28 =>
 callS Tryz.prog 15 (pA #[t51]) w_28 fun t52 w_29 =>
 ev Tryz.prog (binM .neq 28 (.tmp 53) (.const (.int .i64 0)) t24 (.int .i64 0)) w_29 fun t54 w_30 =>
 gd t54 false (fun k => k t23 w_30) w_30 fun t56 w_31 =>
 gd t54 false (fun k => k t52 w_31) w_31 fun t57 w_32 =>
 gd t54 false (fun k => callS Tryz.prog 17 (pA #[t56, t57]) w_32 k) w_32 fun t58 w_33 =>
 gd t54 false (fun k => ev Tryz.prog (Op.unary .not t58) w_33 k) w_33 fun t59 w_34 =>
 pickS t54 (.bool true) t59 w_34 fun t60 w_35 =>
 cndS t60 (
 K (.bool false) w_35) (
 c_f3_k1 x0 t3 t29 t30 t36 w_35)) (
 ev Tryz.prog (binM .neq 28 (.tmp 61) (.const (.int .i64 1)) t24 (.int .i64 1)) w_20 fun t62 w_36 =>
 gd t62 false (fun k => k t23 w_36) w_36 fun t64 w_37 =>
 gd t62 false (fun k => bltS Tryz.prog .len #[27] 3 #[false] #[t64] w_37 k) w_37 fun t65 w_38 =>
 gd t62 false (fun k => ev Tryz.prog (binM .gtr 3 (.tmp 65) (.const (.int .i64 0)) t65 (.int .i64 0)) w_38 k) w_38 fun t66 w_39 =>
 pickS t62 (.bool true) t66 w_39 fun t67 w_40 =>
 cndS t67 (
 K (.bool false) w_40) (
 c_f3_k1 x0 t3 t29 t30 t36 w_40)))
theorem f3_sk (x0 x1 : Value) (K : K1) (c_f3_k1 : Value → Value → Value → Value → Value → World → Prop) (w : World) : (cS (cl f3_c) (fun fr w => cS (cl (cr f3_c)) (fun fr w => cS (cl (cr (cr f3_c))) (fun fr w => cS (cl (cr (cr (cr f3_c)))) (fun fr w => cS (cl (cr (cr (cr (cr f3_c))))) (fun fr w => cS (cl (cr (cr (cr (cr (cr f3_c)))))) (fun fr w => c_f3_k1 (sv fr 0) (sv fr 3) (sv fr 7) (sv fr 8) (sv fr 9) w) (f3_e K) nX fr w) (f3_e K) nX fr w) (f3_e K) nX fr w) (f3_e K) nX fr w) (f3_e K) nX fr w) (f3_e K) nX ([x0, x1] ++ List.replicate (144 - 2) undef) w) = f3_t x0 x1 K c_f3_k1 w := by kernel_rfl
theorem f3_ok : codeOk Tryz.prog 144 f3_c = true := by kernel_rfl
theorem f3_m (K : K1) (f0 : Fr) (hn : f0.length = 144) (w : World) (h1 : cS (cl f3_c) (fun fr w => cS (cl (cr f3_c)) (fun fr w => cS (cl (cr (cr f3_c))) (fun fr w => cS (cl (cr (cr (cr f3_c)))) (fun fr w => cS (cl (cr (cr (cr (cr f3_c))))) (fun fr w => cS (cl (cr (cr (cr (cr (cr f3_c)))))) (fun fr w => f3_k1 K (sv fr 0) (sv fr 3) (sv fr 7) (sv fr 8) (sv fr 9) w) (f3_e K) nX fr w) (f3_e K) nX fr w) (f3_e K) nX fr w) (f3_e K) nX fr w) (f3_e K) nX fr w) (f3_e K) nX f0 w) : cS f3_c (f3_e K) (f3_e K) nX f0 w := by
  have hs := Same.refl 22300745198530623141535718272648361505980415 f0
  let fr := f0
  have h2 : cS (cl f3_c) (fun fr w => cS (cl (cr f3_c)) (fun fr w => cS (cl (cr (cr f3_c))) (fun fr w => cS (cl (cr (cr (cr f3_c)))) (fun fr w => cS (cl (cr (cr (cr (cr f3_c))))) (fun fr w => cS (cl (cr (cr (cr (cr (cr f3_c)))))) (f3_k1_o K) (f3_e K) nX fr w) (f3_e K) nX fr w) (f3_e K) nX fr w) (f3_e K) nX fr w) (f3_e K) nX fr w) (f3_e K) nX fr w := (codeS_mono (m := 22300745198530623141535718272648361505980415) (f0 := f0) (cl f3_c) (by kernel_rfl) (fun fr w hs => codeS_mono (m := 22300745198530623141535718272648361505980415) (f0 := f0) (cl (cr f3_c)) (by kernel_rfl) (fun fr w hs => codeS_mono (m := 22300745198530623141535718272648361505980415) (f0 := f0) (cl (cr (cr f3_c))) (by kernel_rfl) (fun fr w hs => codeS_mono (m := 22300745198530623141535718272648361505980415) (f0 := f0) (cl (cr (cr (cr f3_c)))) (by kernel_rfl) (fun fr w hs => codeS_mono (m := 22300745198530623141535718272648361505980415) (f0 := f0) (cl (cr (cr (cr (cr f3_c))))) (by kernel_rfl) (fun fr w hs => codeS_mono (m := 22300745198530623141535718272648361505980415) (f0 := f0) (cl (cr (cr (cr (cr (cr f3_c)))))) (by kernel_rfl) (fun fr w hs h => f3_k1_s K f0 hn fr w hs h) (fun _ _ _ h => h) (fun _ _ _ _ h => h) fr w hs) (fun _ _ _ h => h) (fun _ _ _ _ h => h) fr w hs) (fun _ _ _ h => h) (fun _ _ _ _ h => h) fr w hs) (fun _ _ _ h => h) (fun _ _ _ _ h => h) fr w hs) (fun _ _ _ h => h) (fun _ _ _ _ h => h) fr w hs) (fun _ _ _ h => h) (fun _ _ _ _ h => h) fr w hs) h1
  exact cast (by kernel_rfl) h2
theorem f3_call (x0 x1 : Value) (K : K1) (w : World) (h : f3_t x0 x1 K (f3_k1 K) w) : callS Tryz.prog 3 #[x0, x1] w K :=
  calls_of_codeS (args := [x0, x1]) mixed Tryz.func3 (show Tryz.f3.body = some f3_c from rfl) rfl (show Tryz.f3.results = f3_rs.toArray from rfl) f3_ok (by simp) (f3_m K _ (by simp) w (cast (f3_sk x0 x1 K (f3_k1 K) w).symm h))
end Go.Proofs.YtaeopkhdokaaoaaGreatDoor
namespace Go.Proofs.YtaeopkhdokaaoaaGreatDoor
open Go Go.Sh
set_option maxRecDepth 100000
set_option maxHeartbeats 8000000
set_option linter.unusedSimpArgs false
set_option linter.unusedVariables false
section
variable {w w' : World} {Y Y' : Lay} {D D' : DS} {c o : Int} {g : Nat}
theorem hdCells {w1 : World} (he : Ext (w.alloc (hdO c o g)) w1) : w1.cell? ⟨w.heap.size, 0, none⟩ = some (.int .i64 c) ∧ w1.cell? ⟨w.heap.size, 1, none⟩ = some (.int .i64 o) ∧ w1.cell? ⟨w.heap.size, 2, none⟩ = some (.int .u16 (g : Int)) := by
  have : ∀ i, w1.cell? ⟨w.heap.size, i, none⟩ = _ := fun i => he.cell _ i (by simp only [RZ]; omega)
  refine ⟨?_, ?_, ?_⟩ <;> (rw [this]; unfold hdO; rw [cell_new _ _ _ _ _ rfl]; rfl)
theorem rhCells {w1 : World} (he : Ext (w.alloc (rhO c o g)) w1) : w1.cell? ⟨w.heap.size, 0, none⟩ = some (.int .i64 c) ∧ w1.cell? ⟨w.heap.size, 1, none⟩ = some (.int .i64 o) ∧ w1.cell? ⟨w.heap.size, 2, none⟩ = some (.int .u16 (g : Int)) := by
  have : ∀ i, w1.cell? ⟨w.heap.size, i, none⟩ = _ := fun i => he.cell _ i (by simp only [RZ]; omega)
  refine ⟨?_, ?_, ?_⟩ <;> (rw [this]; unfold rhO; rw [cell_new _ _ _ _ _ rfl]; rfl)
theorem f3_bad (line : Int) (ib : Bool) (h : ib = false ∨ fmtB c o = false ∨ g = 0) {w1 : World} (he : Ext (w.alloc (hdO c o g)) w1) (K : K1) (hK : ∀ w', Ext w w' → K (.bool true) w') :
    f3_k1 K (.int .i64 line) (.pointer (some ⟨w.heap.size, 0, none⟩)) (.slice none 0 0) (.int .i64 1) (.bool ib) w1 := by
  have ob1 := hdCells he; have c0 := ob1.1; have c1 := ob1.2.1; have c2 := ob1.2.2
  have lt1 : w.heap.size < w1.heap.size := lt_of_cell c0
  have e1 : Ext w w1 := Ext.trans (by unfold hdO; exact Ext.alloc_self _ _) he
  have hr : ∀ (w2 : World) (K : K1), callS Tryz.prog 18 #[.agg #[.int .i64 c, .int .i64 o, .int .u16 (g : Int)]] w2 K = K (.bool (rightB c o g)) (w2.alloc (rhO c o g)) := fun w2 K => c_rRight c o g w2 K
  rw [f3_k1_eq]
  unfold f3_k1_t
  cases ib with
  | false =>
    simp (disch := first | omega | simp only [RO] | (simp only [RZ] <;> omega) | fail) only [↓RBp, ↓RA, ↓reduceIte, Nat.reduceAdd, Nat.reduceMul, Nat.reduceEqDiff, RB, RBr, RW, RS, RA2, c0, c1, c2]
    exact hK _ (by repeat (first | with_reducible refine eB ?_ (by omega) _ | with_reducible refine eB ?_ (by simp only [RZ] <;> omega) _ | with_reducible assumption | exact eR _ | with_reducible refine eA ?_ _ | with_reducible refine eD ?_ | with_reducible refine eT ?_ (by assumption)))
  | true =>
    by_cases hc : c < 0
    · simp (disch := first | omega | simp only [RO] | (simp only [RZ] <;> omega) | fail) only [↓RBp, ↓RA, ↓reduceIte, Nat.reduceAdd, Nat.reduceMul, Nat.reduceEqDiff, RB, RBr, RW, RS, RA2, c0, c1, c2]
      exact hK _ (by repeat (first | with_reducible refine eB ?_ (by omega) _ | with_reducible refine eB ?_ (by simp only [RZ] <;> omega) _ | with_reducible assumption | exact eR _ | with_reducible refine eA ?_ _ | with_reducible refine eD ?_ | with_reducible refine eT ?_ (by assumption)))
    · have hrb : rightB c o g = false := by
        unfold rightB
        have : decide (c = -1) = false := by simp; omega
        rcases h with h | h | h
        · cases h
        · rw [h, this]; simp
        · simp [h]
      rw [hrb] at hr
      simp (disch := first | omega | simp only [RO] | (simp only [RZ] <;> omega) | fail) only [↓RBp, ↓RA, ↓reduceIte, Nat.reduceAdd, Nat.reduceMul, Nat.reduceEqDiff, RB, RBr, RW, RS, RA2, c0, c1, c2, hr]
      exact hK _ (by repeat (first | with_reducible refine eB ?_ (by omega) _ | with_reducible refine eB ?_ (by simp only [RZ] <;> omega) _ | with_reducible assumption | exact eR _ | with_reducible refine eA ?_ _ | with_reducible refine eD ?_ | with_reducible refine eT ?_ (by assumption)))
theorem f3_good (hG : Glob w) (l : Nat) (hl : l ≤ 4064) (hc0 : 0 ≤ c) (hc : c < 5) (ho0 : 0 ≤ o) (ho : o < 8) (hg : g ≠ 0) (hg' : g < 65536) {w1 : World} (he : Ext (w.alloc (hdO c o g)) w1) (v : Value) (sv : SlO w1 133 3 v (planI l c o g).length (inL (planI l c o g))) (K : K1) (hK : ∀ w', Ext w w' → K (.bool true) w') :
    f3_k1 K (.int .i64 (l : Int)) (.pointer (some ⟨w.heap.size, 0, none⟩)) v (.int .i64 0) (.bool true) w1 := by
  have e1 : Ext w w1 := Ext.trans (by unfold hdO; exact Ext.alloc_self _ _) he
  have hp := perS_in hc0 hc
  have hwd := wordsS_in hc0 hc
  have hr : ∀ (w2 : World) (K : K1), callS Tryz.prog 18 #[.agg #[.int .i64 c, .int .i64 o, .int .u16 (g : Int)]] w2 K = K (.bool true) (w2.alloc (rhO c o g)) := fun w2 K => by
    rw [c_rRight c o g w2 K]
    have : rightB c o g = true := by simp [rightB, fmtB, hc0, hc, ho0, ho, hg]
    rw [this]
  have hf : ∀ (w2 : World) (K : K1), callS Tryz.prog 16 #[.agg #[.int .i64 c, .int .i64 o, .int .u16 (g : Int)]] w2 K = K (.int .u64 ((sealN (hdX c o g) : Nat) : Int)) (w2.alloc (rhO c o g)) := fun w2 K => c_rFirst c o g w2 K hg' (.inr ⟨hc0, hc, ho0, ho⟩)
  have hpc : ∀ (w2 : World) (K : K1), callS Tryz.prog 19 #[.int .i64 c] w2 K = K (.int .i64 (perS c)) w2 := fun w2 K => c_rPer c w2 K
  have hbk : ∀ (w2 : World) (K : K1), callS Tryz.prog 21 #[.int .u16 (g : Int), .int .u8 ((0 : Nat) : Int), .int .u32 ((176 : Nat) : Int)] w2 K = K (.int .u64 ((sealN (blkX g 0 176) : Nat) : Int)) w2 := fun w2 K => c_rBlock g 0 176 w2 K hg' (by omega) (by omega)
  have hof : ∀ (i : Nat) (w2 : World) (K : K1), i < (perS c).toNat → callS Tryz.prog 20 #[.int .i64 c, .int .i64 (i : Int)] w2 K = K (.int .i64 (((offS c (i : Int)).toNat : Nat) : Int)) w2 := fun i w2 K hi => by
    have hb := offS_bd hc0 hc (show 0 ≤ (i : Int) by omega) (by omega)
    rw [c_rOff c i w2 K (by omega) (by omega), show (((offS c (i : Int)).toNat : Nat) : Int) = offS c i by omega]
  have e64 : 64 * l = l * 64 := Nat.mul_comm _ _
  have hex : hdO c o g = .cells #[.int .i64 c, .int .i64 o, .int .u16 (g : Int)] 24 := rfl
  have hcell : ∀ w', Ext w1 w' → w'.cell? ⟨w.heap.size, 0, none⟩ = some (.int .i64 c) ∧ w'.cell? ⟨w.heap.size, 1, none⟩ = some (.int .i64 o) ∧ w'.cell? ⟨w.heap.size, 2, none⟩ = some (.int .u16 (g : Int)) := fun w' h => hdCells (he.trans h)
  have ob2 := hcell w1 (Ext.refl _); have q0 := ob2.1; have q1 := ob2.2.1; have q2 := ob2.2.2
  have lt1 : w.heap.size < w1.heap.size := lt_of_cell q0
  rw [f3_k1_eq]
  unfold f3_k1_t
  simp (disch := first | omega | simp only [RO] | (simp only [RZ] <;> omega) | fail) only [↓RBp, ↓RA, ↓reduceIte, Nat.reduceAdd, Nat.reduceMul, Nat.reduceEqDiff, RB, RBr, RW, RS, RA2, q0, q1, q2, hr, hpc]
  have ea : Ext w1 ((w1.alloc (.cells #[.int .i64 c, .int .i64 o, .int .u16 (g : Int)] 35)).alloc (rhO c o g)) := (by repeat (first | with_reducible refine eB ?_ (by omega) _ | with_reducible refine eB ?_ (by simp only [RZ] <;> omega) _ | with_reducible assumption | exact eR _ | with_reducible refine eA ?_ _ | with_reducible refine eD ?_ | with_reducible refine eT ?_ (by assumption)))
  have eb : Ext (w1.alloc (rhO c o g)) ((w1.alloc (.cells #[.int .i64 c, .int .i64 o, .int .u16 (g : Int)] 35)).alloc (rhO c o g)) := Ext.alloc_self _ _
  generalize hA : (List.range (perS c).toNat).map (fun (i : Nat) => (l * 64 + (offS c (i : Int)).toNat * 8, sealN (blkX g 0 176))) = A
  have hAl : A.length = (perS c).toNat := by rw [← hA]; simp
  generalize hB : (List.range 7).map (fun k => (l * 64 + (k + 1) * 8, 0)) = B
  have hBl : B.length = 7 := by rw [← hB]; simp
  have hAB : planW l c g = A ++ B := by unfold planW; rw [hA, hB]
  have hper : perS c = (((perS c).toNat : Nat) : Int) := by omega
  generalize hn : (perS c).toNat = n at *
  generalize hw2 : (w1.alloc (.cells #[.int .i64 c, .int .i64 o, .int .u16 (g : Int)] 35)).alloc (rhO c o g) = w2 at *
  have hcell2 : ∀ w', Ext w2 w' → w'.cell? ⟨w1.heap.size, 0, none⟩ = some (.int .i64 c) ∧ w'.cell? ⟨w1.heap.size, 1, none⟩ = some (.int .i64 o) ∧ w'.cell? ⟨w1.heap.size, 2, none⟩ = some (.int .u16 (g : Int)) := fun w' h => rhCells (eb.trans h)
  have hcell1 : ∀ w', Ext w2 w' → w'.cell? ⟨w.heap.size, 0, none⟩ = some (.int .i64 c) ∧ w'.cell? ⟨w.heap.size, 1, none⟩ = some (.int .i64 o) ∧ w'.cell? ⟨w.heap.size, 2, none⟩ = some (.int .u16 (g : Int)) := fun w' h => hcell w' (ea.trans h)
  have lt2 : w1.heap.size < w2.heap.size := lt_of_cell (hcell2 w2 (Ext.refl _)).1
  have e02 : Ext w w2 := e1.trans ea
  have sv2 := sv.ext ea
  clear hcell eb
  rw [hper]
  apply f3_l1_rule (I := fun x z w' => ∃ i : Nat, z = .int .i64 (i : Int) ∧ i ≤ n ∧ SlO w' 37 2 x i (wrL (A.take i)) ∧ Frm Nob w2 w' ∧ NewV w2.heap.size x) (μ := fun _ z _ => n - (Go.RowKit.intOf z).toNat)
  · exact ⟨0, rfl, by omega, SlO.nil _ _ _, Frm.refl _ _, fun b hb => by cases hb⟩
  · intros; rename_i w3 hI E1 hE
    obtain ⟨i, rfl, hi, sp, f3, n3⟩ := hI
    have e3 : Ext w2 w3 := f3.to_ext (fun _ _ h => h)
    obtain ⟨p0, p1, p2⟩ := hcell1 w3 e3
    obtain ⟨pa, pc, rfl, hpc2⟩ := sp.isS'
    have lt3 : w1.heap.size < w3.heap.size := Nat.lt_of_lt_of_le lt2 e3.size
    by_cases hin : i < n
    · have hb2 := offS_bd hc0 hc (show 0 ≤ (i : Int) by omega) (by omega)
      have hof2 := fun w2 K => hof i w2 K hin
      generalize ho2 : (offS c (i : Int)).toNat = oi at *
      have hA2 : A[i]? = some (l * 64 + oi * 8, sealN (blkX g 0 176)) := by rw [← hA]; simp [hin, ho2]
      have e8 : 8 * oi = oi * 8 := Nat.mul_comm _ _
      unfold f3_l1_t
      (repeat' (first | (with_reducible refine brS_mk (fun _ => ?_) (fun _ => ?_)) | (with_reducible refine And.intro ?_ ?_) | (simp (disch := first | omega | simp only [RO] | (simp only [RZ] <;> omega) | (with_reducible (repeat (first | assumption | exact Ext.refl _ | refine Ext.alloc ?_ _ | refine Ext.drew ?_ | refine Ext.trans ?_ (by assumption)))) | fail) only [↓RBp, ↓RA, ↓reduceIte, Nat.reduceAdd, Nat.reduceMul, Nat.reduceEqDiff, RB, RBr, RW, RS, RA2, p0, p1, p2, hof2, hbk, e64, e8])))
      refine app_new elWrite (w0 := w2) (sp.ext (by repeat (first | with_reducible refine eB ?_ (by omega) _ | with_reducible refine eB ?_ (by simp only [RZ] <;> omega) _ | with_reducible assumption | exact eR _ | with_reducible refine eA ?_ _ | with_reducible refine eD ?_ | with_reducible refine eT ?_ (by assumption)))) (f3.ext (by repeat (first | with_reducible refine eB ?_ (by omega) _ | with_reducible refine eB ?_ (by simp only [RZ] <;> omega) _ | with_reducible assumption | exact eR _ | with_reducible refine eA ?_ _ | with_reducible refine eD ?_ | with_reducible refine eT ?_ (by assumption)))) n3 (m := 1) (news := wrL [(l * 64 + oi * 8, sealN (blkX g 0 176))]) (by simp [wrL]) ?_ rfl (by omega) (by omega) (by omega) (fun v' w4 hsp hf4 n4 _ _ => ?_)
      · intro j u hj
        rw [Nat.zero_add, cell_drew, cell_new _ _ _ _ _ (by simp only [RZ])]
        simpa [wrL, u64] using hj
      simp (disch := first | omega | simp only [RO] | (simp only [RZ] <;> omega) | fail) only [↓RBp, ↓RA, ↓reduceIte, Nat.reduceAdd, Nat.reduceMul, Nat.reduceEqDiff, RB, RBr, RW, RS, RA2]
      apply hE
      · refine ⟨i + 1, by simp, by omega, ?_, hf4, n4⟩
        rw [take_snoc' hA2, wrL_append]; exact hsp
      · simp [Go.RowKit.intOf]; omega
    · have : i = n := by omega
      subst this
      have hAt : A.take i = A := by rw [← hAl, List.take_length]
      rw [hAt] at sp
      unfold f3_l1_t
      simp (disch := first | omega | simp only [RO] | (simp only [RZ] <;> omega) | fail) only [↓RBp, ↓RA, ↓reduceIte, Nat.reduceAdd, Nat.reduceMul, Nat.reduceEqDiff, RB, RBr, RW, RS, RA2, f3_k2_eq, f3_k2_t]
      apply f3_l2_rule (I := fun x z w' => ∃ k : Nat, z = .int .u64 ((k + 1 : Nat) : Int) ∧ k ≤ 7 ∧ SlO w' 37 2 x (i + k) (wrL (A ++ B.take k)) ∧ Frm Nob w2 w' ∧ NewV w2.heap.size x) (μ := fun _ z _ => 8 - (Go.RowKit.intOf z).toNat)
      · exact ⟨0, rfl, by omega, by simpa using sp, f3, n3⟩
      · intros; rename_i w4 hI3 E3 hE3
        obtain ⟨k, rfl, hk, sp3, f4, n4⟩ := hI3
        have e4 : Ext w2 w4 := f4.to_ext (fun _ _ h => h)
        obtain ⟨p0, p1, p2⟩ := hcell2 w4 e4
        obtain ⟨pa3, pc3, rfl, hpc3⟩ := sp3.isS'
        have lt4 : w1.heap.size < w4.heap.size := Nat.lt_of_lt_of_le lt2 e4.size
        by_cases hk7 : k < 7
        · have hB2 : B[k]? = some (l * 64 + (k + 1) * 8, 0) := by rw [← hB]; simp [hk7]
          have e8 : 8 * (k + 1) = (k + 1) * 8 := Nat.mul_comm _ _
          unfold f3_l2_t
          simp (disch := first | omega | simp only [RO] | (simp only [RZ] <;> omega) | (with_reducible (repeat (first | assumption | exact Ext.refl _ | refine Ext.alloc ?_ _ | refine Ext.drew ?_ | refine Ext.trans ?_ (by assumption)))) | fail) only [↓RBp, ↓RA, ↓reduceIte, Nat.reduceAdd, Nat.reduceMul, Nat.reduceEqDiff, RB, RBr, RW, RS, RA2, e64, e8]
          refine app_new elWrite (w0 := w2) (sp3.ext (by repeat (first | with_reducible refine eB ?_ (by omega) _ | with_reducible refine eB ?_ (by simp only [RZ] <;> omega) _ | with_reducible assumption | exact eR _ | with_reducible refine eA ?_ _ | with_reducible refine eD ?_ | with_reducible refine eT ?_ (by assumption)))) (f4.ext (by repeat (first | with_reducible refine eB ?_ (by omega) _ | with_reducible refine eB ?_ (by simp only [RZ] <;> omega) _ | with_reducible assumption | exact eR _ | with_reducible refine eA ?_ _ | with_reducible refine eD ?_ | with_reducible refine eT ?_ (by assumption)))) n4 (m := 1) (news := wrL [(l * 64 + (k + 1) * 8, 0)]) (by simp [wrL]) ?_ rfl (by omega) (by omega) (by omega) (fun v' w5 hsp hf5 n5 _ _ => ?_)
          · intro j u hj
            rw [Nat.zero_add, cell_new _ _ _ _ _ (by simp only [RZ])]
            simpa [wrL, u64] using hj
          simp (disch := first | omega | simp only [RO] | (simp only [RZ] <;> omega) | fail) only [↓RBp, ↓RA, ↓reduceIte, Nat.reduceAdd, Nat.reduceMul, Nat.reduceEqDiff, RB, RBr, RW, RS, RA2]
          apply hE3
          · refine ⟨k + 1, by simp, by omega, ?_, hf5, n5⟩
            rw [take_snoc' hB2, ← List.append_assoc, wrL_append]; exact hsp
          · simp [Go.RowKit.intOf]; omega
        · have : k = 7 := by omega
          subst this
          have hBt : B.take 7 = B := by rw [← hBl, List.take_length]
          rw [hBt, ← hAB] at sp3
          have hpl : i + 7 = (planW l c g).length := by rw [hAB]; simp [hAl, hBl]
          rw [hpl] at sp3 ⊢
          have hok : ∀ x ∈ planW l c g, x.1 < 18446744073709551616 := by
            rw [hAB]
            intro x hx
            rcases List.mem_append.1 hx with hx | hx
            · rw [← hA] at hx
              obtain ⟨j, hj, rfl⟩ := List.mem_map.1 hx
              have hb2 := offS_bd hc0 hc (show 0 ≤ (j : Int) by omega) (by rw [List.mem_range] at hj; omega)
              simp only; omega
            · rw [← hB] at hx
              obtain ⟨j, hj, rfl⟩ := List.mem_map.1 hx
              rw [List.mem_range] at hj
              simp only; omega
          have l1 := storesI_le (planW l c g)
          have l2 := storesI_le [(l * 64, sealN (hdX c o g))]
          simp only [List.length_singleton] at l2
          have l3 : (planI l c o g).length = (storesI (planW l c g)).length + (storesI [(l * 64, sealN (hdX c o g))]).length := by unfold planI; rw [List.length_append]
          unfold f3_l2_t
          (repeat' (first | (with_reducible refine brS_mk (fun _ => ?_) (fun _ => ?_)) | (with_reducible refine And.intro ?_ ?_) | (simp (disch := first | omega | simp only [RO] | (simp only [RZ] <;> omega) | (with_reducible (repeat (first | assumption | exact Ext.refl _ | refine Ext.alloc ?_ _ | refine Ext.drew ?_ | refine Ext.trans ?_ (by assumption)))) | fail) only [↓RBp, ↓RA, ↓reduceIte, Nat.reduceAdd, Nat.reduceMul, Nat.reduceEqDiff, RB, RBr, RW, RS, RA2, p0, p1, p2, e64, f3_k3_eq, f3_k3_t])))
          refine k_Stores (planW l c g) _ (sp3.ext (Ext.refl _).drew) (by omega) (by omega) hok _ (fun v5 w5 s5 e5 n5 => ?_)
          have e45 : Ext w4 w5 := Ext.trans (by repeat (first | with_reducible refine eB ?_ (by omega) _ | with_reducible refine eB ?_ (by simp only [RZ] <;> omega) _ | with_reducible assumption | exact eR _ | with_reducible refine eA ?_ _ | with_reducible refine eD ?_ | with_reducible refine eT ?_ (by assumption))) e5
          obtain ⟨r0, r1, r2⟩ := hcell2 w5 (e4.trans e45)
          have lt5 : w1.heap.size < w5.heap.size := lt_of_cell r0
          (repeat' (first | (with_reducible refine brS_mk (fun _ => ?_) (fun _ => ?_)) | (with_reducible refine And.intro ?_ ?_) | (simp (disch := first | omega | simp only [RO] | (simp only [RZ] <;> omega) | (with_reducible (repeat (first | assumption | exact Ext.refl _ | refine Ext.alloc ?_ _ | refine Ext.drew ?_ | refine Ext.trans ?_ (by assumption)))) | fail) only [↓RBp, ↓RA, ↓reduceIte, Nat.reduceAdd, Nat.reduceMul, Nat.reduceEqDiff, RB, RBr, RW, RS, RA2, r0, r1, r2, hf, e64])))
          refine k_Stores [(l * 64, sealN (hdX c o g))] _ ?_ (by simp) (by simp) ?_ _ (fun v6 w6 s6 e6 n6 => ?_)
          · exact (SlO.lit' _ 37 2 1 (wrL [(l * 64, sealN (hdX c o g))]) rfl (by decide) (by simp only [RZ]))
          · intro x hx; simp only [List.mem_singleton] at hx; subst hx; simp only; omega
          have e56 : Ext w5 w6 := Ext.trans (by repeat (first | with_reducible refine eB ?_ (by omega) _ | with_reducible refine eB ?_ (by simp only [RZ] <;> omega) _ | with_reducible assumption | exact eR _ | with_reducible refine eA ?_ _ | with_reducible refine eD ?_ | with_reducible refine eT ?_ (by assumption))) e6
          try simp (disch := first | omega | simp only [RO] | (simp only [RZ] <;> omega) | fail) only [↓RBp, ↓RA, ↓reduceIte, Nat.reduceAdd, Nat.reduceMul, Nat.reduceEqDiff, RB, RBr, RW, RS, RA2]
          refine k_Then _ _ v5 v6 (s5.ext e56) s6 (storesI_pos _) (storesI_pos _) (by omega) (by omega) _ (fun v7 w7 s7 e7 n7 => ?_)
          simp (disch := first | omega | simp only [RO] | (simp only [RZ] <;> omega) | fail) only [↓RBp, ↓RA, ↓reduceIte, Nat.reduceAdd, Nat.reduceMul, Nat.reduceEqDiff, RB, RBr, RW, RS, RA2]
          have e27 : Ext w2 w7 := ((e4.trans e45).trans e56).trans e7
          refine k_equal (planI l c o g) v v7 (sv2.ext e27) s7 (by omega) _ (fun w8 e8 => ?_)
          simp (disch := first | omega | simp only [RO] | (simp only [RZ] <;> omega) | fail) only [↓RBp, ↓RA, ↓reduceIte, Nat.reduceAdd, Nat.reduceMul, Nat.reduceEqDiff, RB, RBr, RW, RS, RA2]
          exact hK _ (e02.trans (e27.trans e8))
theorem law_programs (hG : Glob w) (line c o : Int) (g : Nat) (hg : g < 65536) (K : K1) (hK : ∀ w', Ext w w' → K (.bool true) w') :
    callS Tryz.prog 3 #[.int .i64 line, .agg #[.int .i64 c, .int .i64 o, .int .u16 (g : Int)]] w K := by
  refine f3_call _ _ _ _ ?_
  unfold f3_t
  have hex : hdO c o g = .cells #[.int .i64 c, .int .i64 o, .int .u16 (g : Int)] 24 := rfl
  simp (disch := first | omega | simp only [RO] | (simp only [RZ] <;> omega) | fail) only [↓RBp, ↓RA, ↓reduceIte, Nat.reduceAdd, Nat.reduceMul, Nat.reduceEqDiff, RB, RBr, RW, RS, RA2]
  rw [← hex]
  refine k_awake (hG.ext (by repeat (first | with_reducible refine eB ?_ (by omega) _ | with_reducible refine eB ?_ (by simp only [RZ] <;> omega) _ | with_reducible assumption | exact eR _ | with_reducible refine eA ?_ _ | with_reducible refine eD ?_ | with_reducible refine eT ?_ (by assumption)))) _ (fun w1 e1 => ?_)
  have e01 : Ext w w1 := Ext.trans (by repeat (first | with_reducible refine eB ?_ (by omega) _ | with_reducible refine eB ?_ (by simp only [RZ] <;> omega) _ | with_reducible assumption | exact eR _ | with_reducible refine eA ?_ _ | with_reducible refine eD ?_ | with_reducible refine eT ?_ (by assumption))) e1
  have ob3 := hdCells e1; have c0 := ob3.1; have c1 := ob3.2.1; have c2 := ob3.2.2
  have lt1 : w.heap.size < w1.heap.size := lt_of_cell c0
  simp (disch := first | omega | simp only [RO] | (simp only [RZ] <;> omega) | fail) only [↓RBp, ↓RA, ↓reduceIte, Nat.reduceAdd, Nat.reduceMul, Nat.reduceEqDiff, RB, RBr, RW, RS, RA2, c0, c1, c2]
  by_cases hin : 0 ≤ line ∧ line ≤ 4064
  · obtain ⟨l, rfl⟩ : ∃ l : Nat, line = (l : Int) := ⟨line.toNat, by omega⟩
    by_cases hg0 : g = 0
    · subst hg0
      refine k_ClearBad (l : Int) 0 (.inr rfl) _ ?_
      simp (disch := first | omega | simp only [RO] | (simp only [RZ] <;> omega) | fail) only [↓RBp, ↓RA, ↓reduceIte, Nat.reduceAdd, Nat.reduceMul, Nat.reduceEqDiff, RB, RBr, RW, RS, RA2, c0, c1, c2]
      refine k_PlanBad (hG.ext e01) (l : Int) c o 0 (.inr (.inr rfl)) _ (fun w2 e2 => ?_)
      have e12 := e1.trans e2
      have ob4 := hdCells e12; have d0 := ob4.1; have d1 := ob4.2.1; have d2 := ob4.2.2
      simp (disch := first | omega | simp only [RO] | (simp only [RZ] <;> omega) | fail) only [↓RBp, ↓RA, ↓reduceIte, Nat.reduceAdd, Nat.reduceMul, Nat.reduceEqDiff, RB, RBr, RW, RS, RA2, d0, d1, d2]
      exact f3_bad (l : Int) true (.inr (.inr rfl)) e12 K hK
    · have e64 : 64 * l = l * 64 := Nat.mul_comm _ _
      have hff : ∀ (w2 : World) (K : K1), callS Tryz.prog 16 #[.agg #[.int .i64 (-1), .int .i64 (-1), .int .u16 (g : Int)]] w2 K = K (.int .u64 ((sealN (hdX (-1) (-1) g) : Nat) : Int)) (w2.alloc (rhO (-1) (-1) g)) := fun w2 K => c_rFirst (-1) (-1) g w2 K hg (.inl ⟨rfl, rfl⟩)
      have hcl := storesI_le [(l * 64, sealN (hdX (-1) (-1) g))]
      simp only [List.length_singleton] at hcl
      have hcl2 : (clrI l g).length < 1099511627776 := by unfold clrI; omega
      refine k_Clear (hG.ext e01) l g (by omega) hg0 hg _ (fun v2 w2 s2 e2 n2 => ?_)
      have e12 := e1.trans e2
      have ob5 := hdCells e12; have d0 := ob5.1; have d1 := ob5.2.1; have d2 := ob5.2.2
      have lt2 : w.heap.size < w2.heap.size := lt_of_cell d0
      simp (disch := first | omega | simp only [RO] | (simp only [RZ] <;> omega) | fail) only [↓RBp, ↓RA, ↓reduceIte, Nat.reduceAdd, Nat.reduceMul, Nat.reduceEqDiff, RB, RBr, RW, RS, RA2, d0, d1, d2]
      by_cases hf : fmtB c o = true
      · have hf' : 0 ≤ c ∧ c < 5 ∧ 0 ≤ o ∧ o < 8 := by simpa [fmtB, and_assoc] using hf
        refine k_Plan (hG.ext (e01.trans e2)) l c o g (by omega) hf'.1 hf'.2.1 hf'.2.2.1 hf'.2.2.2 hg0 hg _ (fun v3 w3 s3 e3 n3 => ?_)
        have e13 := e12.trans e3
        have ob6 := hdCells e13; have q0 := ob6.1; have q1 := ob6.2.1; have q2 := ob6.2.2
        have lt3 : w.heap.size < w3.heap.size := lt_of_cell q0
        simp (disch := first | omega | simp only [RO] | (simp only [RZ] <;> omega) | fail) only [↓RBp, ↓RA, ↓reduceIte, Nat.reduceAdd, Nat.reduceMul, Nat.reduceEqDiff, RB, RBr, RW, RS, RA2, q0, q1, q2, hff, e64]
        refine k_Stores [(l * 64, sealN (hdX (-1) (-1) g))] _ ?_ (by simp) (by simp) ?_ _ (fun v4 w4 s4 e4 n4 => ?_)
        · exact (SlO.lit' _ 37 2 1 (wrL [(l * 64, sealN (hdX (-1) (-1) g))]) rfl (by decide) (by simp only [RZ]))
        · intro x hx; simp only [List.mem_singleton] at hx; subst hx; simp only; omega
        have e34 : Ext w3 w4 := Ext.trans (by repeat (first | with_reducible refine eB ?_ (by omega) _ | with_reducible refine eB ?_ (by simp only [RZ] <;> omega) _ | with_reducible assumption | exact eR _ | with_reducible refine eA ?_ _ | with_reducible refine eD ?_ | with_reducible refine eT ?_ (by assumption))) e4
        simp (disch := first | omega | simp only [RO] | (simp only [RZ] <;> omega) | fail) only [↓RBp, ↓RA, ↓reduceIte, Nat.reduceAdd, Nat.reduceMul, Nat.reduceEqDiff, RB, RBr, RW, RS, RA2]
        refine k_equal (clrI l g) v2 v4 (s2.ext (e3.trans e34)) s4 hcl2 _ (fun w5 e5 => ?_)
        simp (disch := first | omega | simp only [RO] | (simp only [RZ] <;> omega) | fail) only [↓RBp, ↓RA, ↓reduceIte, Nat.reduceAdd, Nat.reduceMul, Nat.reduceEqDiff, RB, RBr, RW, RS, RA2]
        exact f3_good hG l (by omega) hf'.1 hf'.2.1 hf'.2.2.1 hf'.2.2.2 hg0 hg (e13.trans (e34.trans e5)) v3 (s3.ext (e34.trans e5)) K hK
      · have hf' : fmtB c o = false := by simpa using hf
        refine k_PlanBad (hG.ext (e01.trans e2)) (l : Int) c o g (.inr (.inl hf')) _ (fun w3 e3 => ?_)
        have e13 := e12.trans e3
        have ob7 := hdCells e13; have q0 := ob7.1; have q1 := ob7.2.1; have q2 := ob7.2.2
        have lt3 : w.heap.size < w3.heap.size := lt_of_cell q0
        simp (disch := first | omega | simp only [RO] | (simp only [RZ] <;> omega) | fail) only [↓RBp, ↓RA, ↓reduceIte, Nat.reduceAdd, Nat.reduceMul, Nat.reduceEqDiff, RB, RBr, RW, RS, RA2, q0, q1, q2, hff, e64]
        refine k_Stores [(l * 64, sealN (hdX (-1) (-1) g))] _ ?_ (by simp) (by simp) ?_ _ (fun v4 w4 s4 e4 n4 => ?_)
        · exact (SlO.lit' _ 37 2 1 (wrL [(l * 64, sealN (hdX (-1) (-1) g))]) rfl (by decide) (by simp only [RZ]))
        · intro x hx; simp only [List.mem_singleton] at hx; subst hx; simp only; omega
        have e34 : Ext w3 w4 := Ext.trans (by repeat (first | with_reducible refine eB ?_ (by omega) _ | with_reducible refine eB ?_ (by simp only [RZ] <;> omega) _ | with_reducible assumption | exact eR _ | with_reducible refine eA ?_ _ | with_reducible refine eD ?_ | with_reducible refine eT ?_ (by assumption))) e4
        simp (disch := first | omega | simp only [RO] | (simp only [RZ] <;> omega) | fail) only [↓RBp, ↓RA, ↓reduceIte, Nat.reduceAdd, Nat.reduceMul, Nat.reduceEqDiff, RB, RBr, RW, RS, RA2]
        refine k_equal (clrI l g) v2 v4 (s2.ext (e3.trans e34)) s4 hcl2 _ (fun w5 e5 => ?_)
        simp (disch := first | omega | simp only [RO] | (simp only [RZ] <;> omega) | fail) only [↓RBp, ↓RA, ↓reduceIte, Nat.reduceAdd, Nat.reduceMul, Nat.reduceEqDiff, RB, RBr, RW, RS, RA2]
        exact f3_bad (l : Int) true (.inr (.inl hf')) (e13.trans (e34.trans e5)) K hK
  · refine k_ClearBad line g (.inl hin) _ ?_
    simp (disch := first | omega | simp only [RO] | (simp only [RZ] <;> omega) | fail) only [↓RBp, ↓RA, ↓reduceIte, Nat.reduceAdd, Nat.reduceMul, Nat.reduceEqDiff, RB, RBr, RW, RS, RA2, c0, c1, c2]
    refine k_PlanBad (hG.ext e01) line c o g (.inl hin) _ (fun w2 e2 => ?_)
    have e12 := e1.trans e2
    have ob8 := hdCells e12; have d0 := ob8.1; have d1 := ob8.2.1; have d2 := ob8.2.2
    have lt2 : w.heap.size < w2.heap.size := lt_of_cell d0
    by_cases h0 : 0 ≤ line
    · have h1 : ¬ line ≤ 4064 := by omega
      simp (disch := first | omega | simp only [RO] | (simp only [RZ] <;> omega) | fail) only [↓RBp, ↓RA, ↓reduceIte, Nat.reduceAdd, Nat.reduceMul, Nat.reduceEqDiff, RB, RBr, RW, RS, RA2, d0, d1, d2]
      exact f3_bad line false (.inl rfl) e12 K hK
    · simp (disch := first | omega | simp only [RO] | (simp only [RZ] <;> omega) | fail) only [↓RBp, ↓RA, ↓reduceIte, Nat.reduceAdd, Nat.reduceMul, Nat.reduceEqDiff, RB, RBr, RW, RS, RA2, d0, d1, d2]
      exact f3_bad line false (.inl rfl) e12 K hK
end
end Go.Proofs.YtaeopkhdokaaoaaGreatDoor
namespace Go.Proofs.YtaeopkhdokaaoaaGreatDoor
open Go Go.Sh Go.ChangeShapes Go.WideShapes Go.ChangeAt Go.RowKit Go.Joins
set_option maxRecDepth 100000
set_option linter.unusedVariables false
theorem chunkPrograms_lifted (os : Os) (started : os.Started) (H : Type) (enc : TypeId × Value → H) :
    ReturnsInHanded {} Tryz.checked os 3 .any (fun w args => (Rows.chunkProgramsSpec.pre enc Tryz.prog Tryz.f3 [] false w args ∧ laidMetH Tryz.prog laidL w) ∧ sizedMet enc Tryz.prog Tryz.f3 (OpenSpec.ofChange Rows.chunkProgramsSpec) false w args)
      (Rows.chunkProgramsSpec.post enc Tryz.prog Tryz.f3 false true false false) := by
  refine returnsInHanded_of_change_and (C := Tryz.checked) (X := fun w _ => laidMetH Tryz.prog laidL w) (fun _ _ _ hh h => h.of_heap hh) Tryz.own started (by kernel_rfl) Tryz.func3
    (ChangeSpec.witness_shaped (enc := enc) (C := Tryz.checked) (os := os) (X := fun w _ => laidMetH Tryz.prog laidL w) false (World.doorLaid Tryz.prog 400 os) #[.int .i64 0, .agg #[.int .i64 0, .int .i64 0, .int .u16 0]] 8 rfl (World.shaped_of_RefB (by kernel_rfl) (by kernel_rfl)) (by kernel_rfl) (by kernel_rfl) (by kernel_rfl) (door_met os _)) ?_
  intro W base args ds gs before hval0 hW _ _ hL _
  have hval : ∀ (j : Nat) t v, Tryz.f3.params[j]? = some t → args[j]? = some v → Value.okWide Tryz.prog W .any base t v := hval0
  have hW' : DataW.Whole enc Tryz.prog Tryz.f3.params.toList Rows.chunkProgramsSpec.vars false W args.toList ds gs before := hW
  obtain ⟨p, q, hA0, hV, rfl, hfz, hnd⟩ := hW
  have hA : DataW.TrodAll enc Tryz.prog W 0 (fun _ => true) true Tryz.f3.params.toList args.toList ds p := hA0
  have hp : Tryz.f3.params = #[3, 24] := by kernel_rfl
  rw [hp] at hA hval
  obtain ⟨v0, v1, d0, d1, p0, p1, rfl, rfl, rfl, h0, h1⟩ := trodAll_two hA
  obtain ⟨rfl, rfl⟩ := trodVars_none hV
  obtain ⟨line, rfl, hd0, hp0, wl⟩ := open_int (show Tryz.prog.underlying 3 = some (.int .i64) by kernel_rfl) (hval 0 3 v0 rfl rfl) h0
  obtain ⟨c0, c1, c2, y0, y1, y2, m, rfl, hd1, hp1, t0, t1, t2⟩ := open_agg3 Tryz.underlying24 (by kernel_rfl) (by kernel_rfl) (hval 1 24 v1 rfl rfl) h1
  obtain ⟨c, e0, _, wc⟩ := DataW.trod_int (show Tryz.prog.underlying 3 = some (.int .i64) by kernel_rfl) t0
  obtain ⟨o, e1, _, wo⟩ := DataW.trod_int (show Tryz.prog.underlying 3 = some (.int .i64) by kernel_rfl) t1
  obtain ⟨g, e2, _, wg⟩ := DataW.trod_int (show Tryz.prog.underlying 22 = some (.int .u16) by kernel_rfl) t2
  simp only [List.cons.injEq, and_true] at e0 e1 e2
  subst e0; subst e1; subst e2
  obtain ⟨gn, rfl⟩ : ∃ n : Nat, g = (n : Int) := ⟨g.toNat, by have := bounds_u16 wg; omega⟩
  have hg16 := bounds_u16 wg
  simp only [List.append_nil] at hW'
  have hrun := law_programs (glob_of_laid hL) line c o gn (by omega) (fun v w' => v = .bool true ∧ Ext W w') (fun w' he => ⟨rfl, he⟩)
  refine Calls.mono hrun (fun e W' hh => ?_)
  cases e with
  | returned v =>
    obtain ⟨rfl, he⟩ := hh
    exact ⟨_, rfl, post_ext rfl (by kernel_rfl) (by rw [hp]; intro t ht; simp only [List.mem_cons, List.not_mem_nil, or_false] at ht; rcases ht with rfl | rfl <;> exact ⟨by kernel_rfl, of_decide_eq_true (by kernel_rfl)⟩) hW' rfl he⟩
  | _ => exact hh.elim
theorem chunkPrograms_said : Rows.ChunkProgramsSaid :=
  OpenClaim.holds_of_wide 3 Tryz.f3 rfl rfl rfl rfl rfl rfl rfl ⟨rfl, rfl, rfl, rfl, rfl⟩ rfl rfl rfl rfl rfl (by kernel_rfl) Tryz.func3 (by kernel_rfl)
    (of_decide_eq_true (by kernel_rfl)) (by unfold Func.isWrapper; first | (rw [if_pos (by decide +kernel)]; kernel_rfl) | (rw [if_neg (by decide +kernel)]; exact ⟨rfl, rfl⟩))
    (fun os started H enc _ => chunkPrograms_lifted os started H enc)
theorem chunkPrograms_holds : Rows.ChunkProgramsCardSaid :=
  Claim7.holds_tied_plain_at .later [] [.data, .data] true (true, "24470021dd94d15a10437493892302ffd2cce9043b76962bff25473f24497a03") false
    chunkPrograms_said (fun _ h => by cases h) (by kernel_rfl) (fun _ h => by cases h) chunkPrograms_row_tie rfl ⟨rfl, rfl⟩ (by kernel_rfl) rfl
    (fun f fn hf hfn => by
      obtain rfl : f = 3 := Option.some.inj ((show Tryz.prog.funcNamed "bedrock/bedrocklaw21.ChunkPrograms" = some 3 by kernel_rfl).symm.trans hf) |>.symm
      obtain rfl : fn = Tryz.f3 := (Option.some.inj (Tryz.func3.symm.trans hfn)).symm
      exact ⟨by kernel_rfl, fun j t ht => by
        rw [show Tryz.f3.params = #[3, 24] by kernel_rfl] at ht
        have hm : t ∈ [3, 24] := by simpa using Array.mem_of_getElem? ht
        have hall : ([3, 24].all fun u => !Tryz.prog.wantsStandIn u) = true := by kernel_rfl
        exact (show Tryz.prog.wantsStandIn t = false by simpa using List.all_eq_true.1 hall t hm)⟩)
    (by kernel_rfl)
#print axioms chunkPrograms_holds
end Go.Proofs.YtaeopkhdokaaoaaGreatDoor
