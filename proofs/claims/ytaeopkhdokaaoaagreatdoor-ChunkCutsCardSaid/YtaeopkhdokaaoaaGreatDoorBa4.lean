/-
  Part 4 of what the proofs of this seat share.
-/
import Derived.Test.YtaeopkhdokaaoaaGreatDoorBa3
import Derived.Test.YtaeopkhdokaaoaaGreatDoorBa2
import Derived.Test.YtaeopkhdokaaoaaGreatDoorBa1
namespace Go.Proofs.YtaeopkhdokaaoaaGreatDoor
open Go Go.Sh
set_option maxRecDepth 100000
set_option maxHeartbeats 4000000
set_option linter.unusedSimpArgs false
set_option linter.unusedVariables false
theorem run_hi_nil {P : Program} {t e : TypeId} {z bytes : Nat} {zv : Value} (E : ElT P t t e z bytes zv) (k : IntKind) (w : World) : (Instr.sliceAt t (.slice none 0 0) none (some (.int k ((0 : Nat) : Int))) none).run P w = .ok (.slice none 0 0) w := by
  obtain ⟨i, hi, rfl, hz, rfl⟩ := E.info
  have hb : (Instr.sliceBounds true 0 0 none (some (.int k ((0 : Nat) : Int))) none).run P w = .ok (0, 0, 0) w := by
    have := fun c => run_bound (P := P) k 0 0 c w (Nat.le_refl _)
    simp only [Int.ofNat_eq_natCast, Int.cast_ofNat_Int] at this
    simp [Instr.sliceBounds, this]
  simp only [Instr.sliceAt, Sem.run_bind, run_underlying_some E.un, Result.andThen_ok, Instr.slice, hb]
  simp only [sizeOf, typeInfo, Sem.run_bind, program, Sem.run, hi, Result.andThen_ok, Sem.run_pure, Option.map_none]
  simp
theorem run_hi0 {P : Program} {t e : TypeId} {z bytes : Nat} {zv : Value} (E : ElT P t t e z bytes zv) (b o len cap : Nat) (w : World) (k : K1) : ev P (Instr.sliceAt t (.slice (some ⟨b, o, none⟩) len cap) none (some (.int .i64 ((0 : Nat) : Int))) none) w k = k (.slice (some ⟨b, o, none⟩) 0 cap) w := ev_of_run (run_hi E b o len cap .i64 0 w (by omega)) k
section
variable {w w' : World}
theorem elPZ : ElT Tryz.prog 27 27 133 3 24 (.agg #[.int .u8 0, .int .u64 0, .int .u64 0]) := el_27_27
theorem k_Grow (m : Nat) (hm : 0 < m) (hm2 : m < 1099511627776) (K : K1) (hK : ∀ c w', Ext w w' → SlO w' 133 3 (.slice (some ⟨w.heap.size, 0, none⟩) 0 c) 0 [] → m ≤ c → K (.slice (some ⟨w.heap.size, 0, none⟩) 0 c) w') :
    callS Tryz.prog 109 #[.slice none 0 0, .int .i64 (m : Int)] w K := by
  refine f109_call _ _ _ _ ?_
  unfold f109_t
  have r1 := @blt_cap Tryz.prog 27 (by kernel_rfl)
  have r2 : ∀ (w : World) (k : K1), ev Tryz.prog (Instr.sliceAt 27 (.slice none 0 0) none (some (.int .i64 ((0 : Nat) : Int))) none) w k = k (.slice none 0 0) w := fun w k => ev_of_run (run_hi_nil elPZ .i64 w) k
  have r3 := fun b o len cap w k => @run_hi0 Tryz.prog 27 _ _ _ _ elPZ b o len cap w k
  have z0 : ((0 : Nat) : Int) - ((0 : Nat) : Int) = 0 := rfl
  have z1 : (m : Int) - 0 = (m : Int) := by omega
  simp (disch := first | omega | simp only [RO] | (simp only [RZ] <;> omega) | fail) only [↓RBp, ↓RA, ↓reduceIte, Nat.reduceAdd, Nat.reduceMul, Nat.reduceEqDiff, RB, RX, RA2, r1, r2, r3, z0, z1, f109_k1_eq, f109_k1_t, f109_k2_eq, f109_k2_t]
  refine blt_appendZ elPZ (by kernel_rfl) hm (by omega) (by omega) (fun c w' he hs hc => ?_)
  simp (disch := first | omega | simp only [RO] | (simp only [RZ] <;> omega) | fail) only [↓RBp, ↓RA, ↓reduceIte, Nat.reduceAdd, Nat.reduceMul, Nat.reduceEqDiff, RB, RX, RA2, r1, r2, r3, z0, z1, f109_k2_eq, f109_k2_t]
  exact hK c w' he hs hc
theorem allOne_inL (l : List Ins) : allOne (inL l) = true := by
  induction l with
  | nil => rfl
  | cons a l ih => simp [inL, allOne, isOne, ih]
theorem k_Then (p q : List Ins) (v u : Value) (hp : SlO w 133 3 v p.length (inL p)) (hq : SlO w 133 3 u q.length (inL q)) (h1 : 0 < p.length) (h2 : 0 < q.length) (h3 : p.length < 1073741824) (h4 : q.length < 1073741824) (K : K1)
    (hK : ∀ v' w', SlO w' 133 3 v' (p ++ q).length (inL (p ++ q)) → Ext w w' → NewV w.heap.size v' → K v' w') : callS Tryz.prog 22 #[v, u] w K := by
  obtain ⟨pb, po, pc, rfl, hpc⟩ := hp.isS h1
  obtain ⟨qb, qo, qc, rfl, hqc⟩ := hq.isS h2
  refine f22_call _ _ _ _ ?_
  unfold f22_t
  simp (disch := first | omega | simp only [RO] | (simp only [RZ] <;> omega) | fail) only [↓RBp, ↓RA, ↓reduceIte, Nat.reduceAdd, Nat.reduceMul, Nat.reduceEqDiff, RB, RX, RA2]
  refine f79_call _ _ _ ?_
  unfold f79_t
  simp (disch := first | omega | simp only [RO] | (simp only [RZ] <;> omega) | fail) only [↓RBp, ↓RA, ↓reduceIte, Nat.reduceAdd, Nat.reduceMul, Nat.reduceEqDiff, RB, RX, RA2]
  have d1 : ∀ (w' : World), Ext (w.alloc (.cells #[.slice (some ⟨pb, po, none⟩) p.length pc, .slice (some ⟨qb, qo, none⟩) q.length qc] 27)) w' → w'.cell? ⟨w.heap.size, 0, none⟩ = some (.slice (some ⟨pb, po, none⟩) p.length pc) ∧ w'.cell? ⟨w.heap.size, 1, none⟩ = some (.slice (some ⟨qb, qo, none⟩) q.length qc) := by
    intro w' he
    constructor
    · rw [he.cell _ _ (by simp only [RZ]; omega), cell_new _ _ _ _ _ rfl]; rfl
    · rw [he.cell _ _ (by simp only [RZ]; omega), cell_new _ _ _ _ _ rfl]; rfl
  generalize hw1 : w.alloc (.cells #[.slice (some ⟨pb, po, none⟩) p.length pc, .slice (some ⟨qb, qo, none⟩) q.length qc] 27) = w1 at *
  have e1 : Ext w w1 := by rw [← hw1]; exact Ext.alloc_self _ _
  apply f79_l1_rule (I := fun x z w' => w' = w1 ∧ ∃ i : Nat, z = .int .i64 (i : Int) ∧ i ≤ 2 ∧ x = .int .i64 (((if i = 0 then 0 else if i = 1 then p.length else p.length + q.length : Nat)) : Int)) (μ := fun _ z _ => 2 - (Go.RowKit.intOf z).toNat)
  · exact ⟨rfl, 0, rfl, by omega, rfl⟩
  · intros; rename_i w2 hI E1 hE
    obtain ⟨rfl, i, rfl, hi, hx⟩ := hI
    obtain ⟨c0, c1⟩ := d1 w2 (Ext.refl _)
    have hcs : i = 0 ∨ i = 1 ∨ i = 2 := by omega
    rcases hcs with rfl | rfl | rfl
    · simp only [↓reduceIte] at hx
      subst hx
      unfold f79_l1_t
      simp (disch := first | omega | simp only [RO] | (simp only [RZ] <;> omega) | fail) only [↓RBp, ↓RA, ↓reduceIte, Nat.reduceAdd, Nat.reduceMul, Nat.reduceEqDiff, RB, RX, RA2, c0, f79_k3_eq, f79_k3_t]
      apply hE
      · exact ⟨rfl, 1, rfl, by omega, by simp⟩
      · simp [Go.RowKit.intOf]
    · simp only [↓reduceIte, Nat.one_ne_zero] at hx
      subst hx
      unfold f79_l1_t
      simp (disch := first | omega | simp only [RO] | (simp only [RZ] <;> omega) | fail) only [↓RBp, ↓RA, ↓reduceIte, Nat.reduceAdd, Nat.reduceMul, Nat.reduceEqDiff, RB, RX, RA2, c1, f79_k3_eq, f79_k3_t]
      apply hE
      · exact ⟨rfl, 2, rfl, by omega, by simp⟩
      · simp [Go.RowKit.intOf]
    · simp only [↓reduceIte, Nat.reduceEqDiff] at hx
      subst hx
      unfold f79_l1_t
      have gg : ∀ K' : K1, (∀ c w', Ext w2 w' → SlO w' 133 3 (.slice (some ⟨w2.heap.size, 0, none⟩) 0 c) 0 [] → p.length + q.length ≤ c → K' (.slice (some ⟨w2.heap.size, 0, none⟩) 0 c) w') → callS Tryz.prog 109 #[.slice none 0 0, .int .i64 ((p.length + q.length : Nat) : Int)] w2 K' := fun K' h => k_Grow (p.length + q.length) (by omega) (by omega) K' h
      simp (disch := first | omega | simp only [RO] | (simp only [RZ] <;> omega) | fail) only [↓RBp, ↓RA, ↓reduceIte, Nat.reduceAdd, Nat.reduceMul, Nat.reduceEqDiff, RB, RX, RA2, f79_k1_eq, f79_k1_t]
      refine gg _ (fun c w3 he3 hs3 hc3 => ?_)
      simp (disch := first | omega | simp only [RO] | (simp only [RZ] <;> omega) | fail) only [↓RBp, ↓RA, ↓reduceIte, Nat.reduceAdd, Nat.reduceMul, Nat.reduceEqDiff, RB, RX, RA2]
      have ap : ∀ i, i ≤ 2 → (if i = 0 then [] else if i = 1 then p else p ++ q : List Ins).length = if i = 0 then 0 else if i = 1 then p.length else p.length + q.length := by
        intro i hi
        split
        · rfl
        · split <;> simp
      apply f79_l2_rule (I := fun x z w' => ∃ i : Nat, z = .int .i64 (i : Int) ∧ i ≤ 2 ∧ SlO w' 133 3 x (if i = 0 then [] else if i = 1 then p else p ++ q : List Ins).length (inL (if i = 0 then [] else if i = 1 then p else p ++ q)) ∧ Frm Nob w2 w' ∧ NewV w2.heap.size x) (μ := fun _ z _ => 2 - (Go.RowKit.intOf z).toNat)
      · refine ⟨0, rfl, by omega, hs3, Frm.of_ext he3, ?_⟩
        intro b hb; injection hb with hb; subst hb; exact Nat.le_refl _
      · intros; rename_i w4 hI4 E4 hE4
        obtain ⟨i, rfl, hi, s4, f4, n4⟩ := hI4
        unfold f79_l2_t
        have e4 : Ext w2 w4 := f4.to_ext (fun _ _ h => h)
        obtain ⟨c0, c1⟩ := d1 w4 e4
        obtain ⟨xa, xc, rfl, hxc⟩ := s4.isS'
        have hcs : i = 0 ∨ i = 1 ∨ i = 2 := by omega
        rcases hcs with rfl | rfl | rfl
        · simp only [↓reduceIte, List.length_nil] at s4 ⊢
          simp (disch := first | omega | simp only [RO] | (simp only [RZ] <;> omega) | fail) only [↓RBp, ↓RA, ↓reduceIte, Nat.reduceAdd, Nat.reduceMul, Nat.reduceEqDiff, RB, RX, RA2, c0]
          refine app_new elPZ (w0 := w2) s4 f4 n4 (news := inL p) (inL_length p) (fun j u hj => (hp.ext (e1.trans e4)).cell rfl hj) (allOne_inL p) h1 (by omega) (by omega) (fun v' w5 s5 f5 n5 _ _ => ?_)
          simp (disch := first | omega | simp only [RO] | (simp only [RZ] <;> omega) | fail) only [↓RBp, ↓RA, ↓reduceIte, Nat.reduceAdd, Nat.reduceMul, Nat.reduceEqDiff, RB, RX, RA2]
          apply hE4
          · exact ⟨1, rfl, by omega, by simpa [inL] using s5, f5, n5⟩
          · simp [Go.RowKit.intOf]
        · simp only [↓reduceIte, Nat.one_ne_zero] at s4 ⊢
          simp (disch := first | omega | simp only [RO] | (simp only [RZ] <;> omega) | fail) only [↓RBp, ↓RA, ↓reduceIte, Nat.reduceAdd, Nat.reduceMul, Nat.reduceEqDiff, RB, RX, RA2, c1]
          refine app_new elPZ (w0 := w2) s4 f4 n4 (news := inL q) (inL_length q) (fun j u hj => (hq.ext (e1.trans e4)).cell rfl hj) (allOne_inL q) h2 (by omega) (by omega) (fun v' w5 s5 f5 n5 _ _ => ?_)
          simp (disch := first | omega | simp only [RO] | (simp only [RZ] <;> omega) | fail) only [↓RBp, ↓RA, ↓reduceIte, Nat.reduceAdd, Nat.reduceMul, Nat.reduceEqDiff, RB, RX, RA2]
          apply hE4
          · refine ⟨2, rfl, by omega, ?_, f5, n5⟩
            simp only [Nat.reduceEqDiff, if_false, List.length_append, inL_append]
            exact s5
          · simp [Go.RowKit.intOf]
        · simp only [↓reduceIte, Nat.reduceEqDiff] at s4 ⊢
          simp (disch := first | omega | simp only [RO] | (simp only [RZ] <;> omega) | fail) only [↓RBp, ↓RA, ↓reduceIte, Nat.reduceAdd, Nat.reduceMul, Nat.reduceEqDiff, RB, RX, RA2, f79_k2_eq, f79_k2_t]
          refine hK _ _ s4 (e1.trans e4) (fun b hb => Nat.le_trans e1.size (n4 b hb))
end
end Go.Proofs.YtaeopkhdokaaoaaGreatDoor
namespace Go.Proofs.YtaeopkhdokaaoaaGreatDoor
open Go Go.Sh
set_option maxRecDepth 100000
set_option linter.unusedSimpArgs false
theorem Glob.ext {w w' : World} (h : Glob w) (e : Ext w w') : Glob w' := ⟨fun i hi => e.cell_some (h.pay i hi), fun i hi => e.cell_some (h.nib i hi)⟩
def Row (w : World) (b o : Nat) (l : List Value) : Prop := ∀ i v, l[i]? = some v → w.cell? ⟨b, o + i, none⟩ = some v
theorem Row.ext {w w' : World} {b o : Nat} {l : List Value} (h : Row w b o l) (e : Ext w w') : Row w' b o l := fun i v hv => e.cell_some (h i v hv)
def u8s (l : List Nat) : List Value := l.map fun (n : Nat) => Value.int .u8 (n : Int)
theorem u8s_get {l : List Nat} {k : Nat} (h : k < l.length) : (u8s l)[k]? = some (.int .u8 ((l.getD k 0 : Nat) : Int)) := by
  simp [u8s, List.getElem?_map, List.getElem?_eq_getElem h, List.getD_eq_getElem?_getD]
theorem take_snoc {l : List Nat} {k : Nat} (h : k < l.length) : l.take (k + 1) = l.take k ++ [l.getD k 0] := by
  rw [List.take_succ_eq_append_getElem h]; simp [List.getD_eq_getElem?_getD, List.getElem?_eq_getElem h]
theorem c_possible (line : Int) (w : World) (K : K1) : callS Tryz.prog 68 #[.int .i64 line] w K = K (.bool (decide (0 ≤ line) && decide (line ≤ 4064))) w := by
  refine callS_det (by kernel_rfl) (f68_call _ _ _ ?_) K
  unfold f68_t
  by_cases h0 : 0 ≤ line
  · by_cases h1 : line ≤ 4064
    · simp (disch := first | omega | simp only [RO] | (simp only [RZ] <;> omega) | fail) only [↓RA, ↓reduceIte, Nat.reduceAdd, Nat.reduceMul, Nat.reduceEqDiff, RB]
    · simp (disch := first | omega | simp only [RO] | (simp only [RZ] <;> omega) | fail) only [↓RA, ↓reduceIte, Nat.reduceAdd, Nat.reduceMul, Nat.reduceEqDiff, RB]
  · simp (disch := first | omega | simp only [RO] | (simp only [RZ] <;> omega) | fail) only [↓RA, ↓reduceIte, Nat.reduceAdd, Nat.reduceMul, Nat.reduceEqDiff, RB]
theorem c_line (line : Int) (w : World) (K : K1) (h0 : 0 ≤ line) (h1 : line < 144115188075855872) : callS Tryz.prog 69 #[.int .i64 line] w K = K (.int .u64 ((line.toNat * 64 : Nat) : Int)) w := by
  refine callS_det (by kernel_rfl) (f69_call _ _ _ ?_) K
  unfold f69_t
  simp (disch := first | omega | simp only [RO] | (simp only [RZ] <;> omega) | fail) only [↓RA, ↓reduceIte, Nat.reduceAdd, Nat.reduceMul, Nat.reduceEqDiff, RB]
def offS (c i : Int) : Int := 8 + i * (wordsS c + 1)
theorem perS_in {c : Int} (h0 : 0 ≤ c) (h1 : c < 5) : perS c = 248 / (wordsS c + 1) ∧ 4 ≤ perS c ∧ perS c ≤ 62 := by
  have hw := wordsS_in h0 h1
  have e : perS c = 248 / (wordsS c + 1) := by unfold perS; rw [if_neg (by omega)]
  refine ⟨e, ?_⟩
  have : c = 0 ∨ c = 1 ∨ c = 2 ∨ c = 3 ∨ c = 4 := by omega
  rcases this with rfl | rfl | rfl | rfl | rfl <;> (rw [e, hw.1]; decide)
theorem offS_bd {c i : Int} (h0 : 0 ≤ c) (h1 : c < 5) (hi : 0 ≤ i) (hi' : i < perS c) : 8 ≤ offS c i ∧ offS c i + wordsS c < 256 := by
  have hp := perS_in h0 h1
  have hw := wordsS_in h0 h1
  unfold offS
  have : c = 0 ∨ c = 1 ∨ c = 2 ∨ c = 3 ∨ c = 4 := by omega
  rcases this with rfl | rfl | rfl | rfl | rfl <;> (rw [hp.1, hw.1] at hi'; rw [hw.1]; simp [payN] at hi' ⊢; omega)
theorem c_Offset (c i : Int) (w : World) (K : K1) (hG : Glob w) (h0 : 0 ≤ c) (h1 : c < 5) (hi : 0 ≤ i) (hi' : i < perS c) : callS Tryz.prog 74 #[.int .i64 c, .int .i64 i] w K = K (.tuple #[.int .i64 (offS c i), .int .i64 0]) w := by
  refine callS_det (by kernel_rfl) (f74_call _ _ _ _ ?_) K
  unfold f74_t
  have hp := perS_in h0 h1
  have hw := wordsS_in h0 h1
  have hb := offS_bd h0 h1 hi hi'
  have hm : 0 ≤ i * (wordsS c + 1) ∧ i * (wordsS c + 1) ≤ 256 := by unfold offS at hb; omega
  unfold offS
  simp (disch := first | omega | simp only [RO] | (simp only [RZ] <;> omega) | fail) only [↓RA, ↓reduceIte, Nat.reduceAdd, Nat.reduceMul, Nat.reduceEqDiff, RB, c_PerChunk c w _ hG, hG.pay, ← hw.1]
theorem c_step (r b : Nat) (w : World) (K : K1) (hG : Glob w) (hr : r < 4294967296) (hb : b < 256) : callS Tryz.prog 141 #[.int .u32 r, .int .u8 b] w K = K (.int .u32 ((stepN r b : Nat) : Int)) w := by
  refine callS_det (by kernel_rfl) (f141_call _ _ _ _ ?_) K
  unfold f141_t
  have h1 : r ^^^ b < 4294967296 := Nat.xor_lt_two_pow (n := 32) hr (by omega)
  have hm : ∀ x : Nat, x &&& 15 = x % 16 := fun x => Nat.and_two_pow_sub_one_eq_mod x 4
  have h2 : nb (r ^^^ b) < 4294967296 := nb_lt _ h1
  have e2 : (r ^^^ b) / 2 ^ 4 ^^^ nibN ((r ^^^ b) % 16) = nb (r ^^^ b) := rfl
  have e3 : nb (r ^^^ b) / 2 ^ 4 ^^^ nibN (nb (r ^^^ b) % 16) = stepN r b := rfl
  have n1 := nibN_lt ((r ^^^ b) % 16)
  have n2 := nibN_lt (nb (r ^^^ b) % 16)
  simp (disch := first | omega | simp only [RO] | (simp only [RZ] <;> omega) | fail) only [↓RA, ↓reduceIte, Nat.reduceAdd, Nat.reduceMul, Nat.reduceEqDiff, RB, hm, hG.nib, e2, e3]
theorem foldl_lt : ∀ (l : List Nat) (r : Nat), r < 4294967296 → (∀ x ∈ l, x < 256) → l.foldl stepN r < 4294967296 := by
  intro l
  induction l with
  | nil => intro r h _; exact h
  | cons x l ih => intro r h hl; exact ih _ (stepN_lt r x h (hl x List.mem_cons_self)) (fun y hy => hl y (List.mem_cons_of_mem _ hy))
theorem c_Update (l : List Nat) (b o cap : Nat) (w : World) (K : K1) (hG : Glob w) (hl : ∀ x ∈ l, x < 256) (hn : l.length < 1000) (hr : Row w b o (u8s l)) : callS Tryz.prog 134 #[.int .u32 ((0 : Nat) : Int), .slice (some ⟨b, o, none⟩) l.length cap] w K = K (.int .u32 ((sumL l : Nat) : Int)) w := by
  refine callS_det (by kernel_rfl) (f134_call _ _ _ _ ?_) K
  unfold f134_t
  simp (disch := first | omega | simp only [RO] | (simp only [RZ] <;> omega) | fail) only [↓RA, ↓reduceIte, Nat.reduceAdd, Nat.reduceMul, Nat.reduceEqDiff, RB]
  apply f134_l1_rule (I := fun x5 x12 w' => ∃ k : Nat, k ≤ l.length ∧ w' = w ∧ x12 = .int .i64 (k : Int) ∧ x5 = .int .u32 (((l.take k).foldl stepN (4294967295 ^^^ 0) : Nat) : Int)) (μ := fun _ x12 _ => l.length - (Go.RowKit.intOf x12).toNat)
  · exact ⟨0, by omega, rfl, rfl, rfl⟩
  · rintro x5 x12 w' ⟨k, hk, rfl, rfl, rfl⟩ E1 hE
    unfold f134_l1_t
    have hf : (l.take k).foldl stepN (4294967295 ^^^ 0) < 4294967296 := foldl_lt _ _ (by decide) (fun x hx => hl x (List.mem_of_mem_take hx))
    by_cases h : k < l.length
    · have hc := hr k _ (u8s_get h)
      have hx : l.getD k 0 < 256 := by
        have : l.getD k 0 = l[k] := by simp [List.getD_eq_getElem?_getD, List.getElem?_eq_getElem h]
        rw [this]; exact hl _ (List.getElem_mem h)
      have ht := take_snoc h
      simp (disch := first | omega | simp only [RO] | (simp only [RZ] <;> omega) | fail) only [↓RA, ↓reduceIte, Nat.reduceAdd, Nat.reduceMul, Nat.reduceEqDiff, RB, hc, c_step _ _ _ _ hG hf hx]
      refine hE _ _ _ ⟨k + 1, by omega, rfl, by simp, ?_⟩ ?_
      · rw [ht, List.foldl_append]; rfl
      · simp [Go.RowKit.intOf]; omega
    · have hk' : k = l.length := by omega
      subst hk'
      simp (disch := first | omega | simp only [RO] | (simp only [RZ] <;> omega) | fail) only [↓RA, ↓reduceIte, Nat.reduceAdd, Nat.reduceMul, Nat.reduceEqDiff, RB, f134_k1_eq]
      unfold f134_k1_t
      rw [List.take_length] at hf ⊢
      simp (disch := first | omega | simp only [RO] | (simp only [RZ] <;> omega) | fail) only [↓RA, ↓reduceIte, Nat.reduceAdd, Nat.reduceMul, Nat.reduceEqDiff, RB, sumL]
end Go.Proofs.YtaeopkhdokaaoaaGreatDoor
namespace Go.Proofs.YtaeopkhdokaaoaaGreatDoor
open Go Go.Sh
set_option maxRecDepth 100000
set_option linter.unusedSimpArgs false
theorem Glob.alloc {w : World} (h : Glob w) (o : Obj) : Glob (w.alloc o) := h.ext (Ext.alloc_self w o)
theorem Glob.drew {w : World} (h : Glob w) : Glob w.drew := h.ext (Ext.refl w).drew
theorem row_new (w : World) (l : List Value) (t : TypeId) : Row (w.alloc (.cells l.toArray t)) w.heap.size 0 l := by
  intro i v hv
  rw [Nat.zero_add, cell_new _ _ _ _ _ rfl]
  simpa using hv
theorem c_Sum (l : List Nat) (b o cap : Nat) (w : World) (K : K1) (hG : Glob w) (hl : ∀ x ∈ l, x < 256) (hn : l.length < 1000) (hr : Row w b o (u8s l)) : callS Tryz.prog 120 #[.slice (some ⟨b, o, none⟩) l.length cap] w K = K (.int .u32 ((sumL l : Nat) : Int)) w := by
  refine callS_det (by kernel_rfl) (f120_call _ _ _ ?_) K
  unfold f120_t
  simp (disch := first | omega | simp only [RO] | (simp only [RZ] <;> omega) | fail) only [↓RA, ↓reduceIte, Nat.reduceAdd, Nat.reduceMul, Nat.reduceEqDiff, RB, c_Update l b o cap w _ hG hl hn hr]
def bytes4 (x : Nat) : List Nat := [x % 256, x / 256 % 256, x / 65536 % 256, x / 16777216 % 256]
theorem or_add {a b k : Nat} (hb : b < 2 ^ k) : (2 ^ k * a) ||| b = 2 ^ k * a + b := (Nat.two_pow_add_eq_or_of_lt hb a).symm
theorem sealN_lt (x : Nat) (h : x < 4294967296) : sealN x < 18446744073709551616 := by have := sumN_lt x h; unfold sealN; omega
def sealO (x : Nat) : Obj := .cells (u8s (bytes4 x)).toArray 5
theorem c_seal (x : Nat) (w : World) (K : K1) (hG : Glob w) (hx : x < 4294967296) : callS Tryz.prog 105 #[.int .u32 x] w K = K (.int .u64 ((sealN x : Nat) : Int)) (w.alloc (sealO x)) := by
  refine callS_det (by kernel_rfl) (f105_call _ _ _ ?_) K
  unfold f105_t
  have hs := sumN_lt x hx
  have e0 : x % 256 < 256 := by omega
  have hrow := row_new w (u8s (bytes4 x)) 5
  have hc := fun K => c_Sum (bytes4 x) w.heap.size 0 4 (w.alloc (sealO x)) K (hG.alloc _) (by simp [bytes4]; omega) (by simp [bytes4]) hrow
  have e1 : sumL (bytes4 x) = sumN x := sumL_bytes x hx
  have e2 : (sumN x * 2 ^ 32 % 18446744073709551616 ||| x) = sealN x := by
    have : sumN x * 2 ^ 32 % 18446744073709551616 = 2 ^ 32 * sumN x := by omega
    rw [this, or_add (by omega)]; unfold sealN; omega
  rw [e1] at hc
  have eo : w.alloc (.cells #[.int .u8 ((x % 256 : Nat) : Int), .int .u8 ((x / 2 ^ 8 % 256 : Nat) : Int), .int .u8 ((x / 2 ^ 16 % 256 : Nat) : Int), .int .u8 ((x / 2 ^ 24 % 256 : Nat) : Int)] 5) = w.alloc (sealO x) := rfl
  have el : (bytes4 x).length = 4 := rfl
  rw [el] at hc
  simp (disch := first | omega | simp only [RO] | (simp only [RZ] <;> omega) | fail) only [↓RA, ↓reduceIte, Nat.reduceAdd, Nat.reduceMul, Nat.reduceEqDiff, RB, eo, hc, e2]
theorem or16 {g k : Nat} (hg : g < 65536) (hk : k < 65536) : g ||| (k * 2 ^ 16 % 4294967296) = g + k * 65536 := by
  have : k * 2 ^ 16 % 4294967296 = 2 ^ 16 * k := by omega
  rw [this, Nat.or_comm, or_add (by omega)]; omega
theorem or24 {x s : Nat} (hx : x < 16777216) (hs : s < 256) : x ||| (s * 2 ^ 24 % 4294967296) = x + s * 16777216 := by
  have : s * 2 ^ 24 % 4294967296 = 2 ^ 24 * s := by omega
  rw [this, Nat.or_comm, or_add (by omega)]; omega
theorem shl16_eq {c : Nat} (h : c < 65536) : c * 2 ^ 16 % 4294967296 = c * 65536 := by omega
theorem shl20_eq {c : Nat} (h : c < 4096) : c * 2 ^ 20 % 4294967296 = c * 1048576 := by omega
theorem shl24_eq {c : Nat} (h : c < 256) : c * 2 ^ 24 % 4294967296 = c * 16777216 := by omega
theorem hd1 {o : Nat} (ho : o < 16) : 3305111552 ||| o * 1048576 = 1048576 * (3152 + o) := by
  have := or_add (a := 197) (b := o * 1048576) (k := 24) (by omega)
  simp only [Nat.reducePow, Nat.reduceMul] at this
  omega
theorem hd2 {o c : Nat} (hc : c < 16) : 1048576 * (3152 + o) ||| c * 65536 = 65536 * (50432 + o * 16 + c) := by
  have := or_add (a := 3152 + o) (b := c * 65536) (k := 20) (by omega)
  simp only [Nat.reducePow] at this
  omega
theorem hd3 {x g : Nat} (hg : g < 65536) : 65536 * x ||| g = 65536 * x + g := by
  have := or_add (a := x) (b := g) (k := 16) (by omega)
  simp only [Nat.reducePow] at this
  exact this
theorem hd4 {c o : Nat} (hc : c < 16) (ho : o < 16) : c * 65536 ||| o * 1048576 < 4294967296 := Nat.or_lt_two_pow (n := 32) (by omega) (by omega)
theorem hd_or {g c o : Nat} (hg : g < 65536) (hc : c < 16) (ho : o < 16) : (g ||| 3305111552) ||| (c * 65536 ||| o * 1048576) = g + c * 65536 + o * 1048576 + 3305111552 := by
  rw [Nat.or_assoc, Nat.or_comm (c * 65536), ← Nat.or_assoc 3305111552, hd1 ho, hd2 hc, Nat.or_comm g, hd3 hg]
  omega
theorem hd0 {g : Nat} (hg : g < 65536) : g ||| 3305111552 = g + 3305111552 := by
  have := or_add (a := 197) (b := g) (k := 24) (by omega)
  simp only [Nat.reducePow, Nat.reduceMul] at this
  rw [Nat.or_comm, this]; omega
theorem hd_or' {g c o : Nat} (hg : g < 65536) (hc : c < 16) (ho : o < 16) : (g + 3305111552) ||| (c * 65536 ||| o * 1048576) = g + c * 65536 + o * 1048576 + 3305111552 := by rw [← hd0 hg]; exact hd_or hg hc ho
def blkX (g k s : Nat) : Nat := g + k * 65536 + s * 16777216
def hdX (c o : Int) (g : Nat) : Nat := if 0 ≤ c then g + (c + 1).toNat * 65536 + (o + 1).toNat * 1048576 + 3305111552 else g + 3305111552
def blkO (g k s : Nat) : Obj := .cells #[.int .u16 (g : Int), .int .u8 (k : Int), .int .u8 (s : Int)] 129
def hdO (c o : Int) (g : Nat) : Obj := .cells #[.int .i64 c, .int .i64 o, .int .u16 (g : Int)] 24
theorem c_bword (g k s : Nat) (w : World) (K : K1) (hG : Glob w) (hg : g < 65536) (hk : k < 256) (hs : s < 256) : callS Tryz.prog 72 #[.agg #[.int .u16 (g : Int), .int .u8 (k : Int), .int .u8 (s : Int)]] w K = K (.int .u64 ((sealN (blkX g k s) : Nat) : Int)) ((w.alloc (blkO g k s)).alloc (sealO (blkX g k s))) := by
  refine callS_det (by kernel_rfl) (f72_call _ _ _ ?_) K
  unfold f72_t
  simp (disch := first | omega | simp only [RO] | (simp only [RZ] <;> omega) | fail) only [↓RA, ↓reduceIte, Nat.reduceAdd, Nat.reduceMul, Nat.reduceEqDiff, RB, RW, or16 hg (show k < 65536 by omega), or24 (show g + k * 65536 < 16777216 by omega) hs, fun o x K => c_seal x (w.alloc o) K (hG.alloc o), blkO, blkX]
theorem c_hword (c o : Int) (g : Nat) (w : World) (K : K1) (hG : Glob w) (hg : g < 65536) (hc : -1 ≤ c) (hc' : c < 5) (ho : -1 ≤ o) (ho' : o < 8) : callS Tryz.prog 70 #[.agg #[.int .i64 c, .int .i64 o, .int .u16 (g : Int)]] w K = K (.int .u64 ((sealN (hdX c o g) : Nat) : Int)) ((w.alloc (hdO c o g)).alloc (sealO (hdX c o g))) := by
  refine callS_det (by kernel_rfl) (f70_call _ _ _ ?_) K
  unfold f70_t
  by_cases h : 0 ≤ c
  · have hm3 := hd4 (show (c + 1).toNat < 16 by omega) (show (o + 1).toNat < 16 by omega)
    have e : hdX c o g = g + (c + 1).toNat * 65536 + (o + 1).toNat * 1048576 + 3305111552 := by unfold hdX; rw [if_pos h]
    simp (disch := first | omega | simp only [RO] | (simp only [RZ] <;> omega) | fail) only [↓RA, ↓reduceIte, Nat.reduceAdd, Nat.reduceMul, Nat.reduceEqDiff, RB, RW, hd0 hg, shl16_eq (show (c + 1).toNat < 65536 by omega), shl20_eq (show (o + 1).toNat < 4096 by omega), hd_or' hg (show (c + 1).toNat < 16 by omega) (show (o + 1).toNat < 16 by omega), fun o x K => c_seal x (w.alloc o) K (hG.alloc o), hdO, e, f70_k1_eq, f70_k1_t]
  · have e : hdX c o g = g + 3305111552 := by unfold hdX; rw [if_neg h]
    simp (disch := first | omega | simp only [RO] | (simp only [RZ] <;> omega) | fail) only [↓RA, ↓reduceIte, Nat.reduceAdd, Nat.reduceMul, Nat.reduceEqDiff, RB, RW, hd0 hg, fun o x K => c_seal x (w.alloc o) K (hG.alloc o), hdO, e, f70_k1_eq, f70_k1_t]
end Go.Proofs.YtaeopkhdokaaoaaGreatDoor
namespace Go.Proofs.YtaeopkhdokaaoaaGreatDoor
open Go Go.Sh
set_option maxRecDepth 100000
set_option maxHeartbeats 4000000
set_option linter.unusedSimpArgs false
set_option linter.unusedVariables false
def blkV (g k s : Nat) : Value := .agg #[.int .u16 (g : Int), .int .u8 (k : Int), .int .u8 (s : Int)]
def isS (x : Nat) : Bool := decide (sealN (x % 4294967296) = x)
def gX (x : Nat) : Nat := x % 65536
def kX (x : Nat) : Nat := x / 65536 % 256
def sX (x : Nat) : Nat := x / 16777216 % 256
theorem k_sealed (x : Nat) (w : World) (K : K1) (hG : Glob w) (hx : x < 18446744073709551616) (h : ∀ w', Ext w w' → K (.tuple #[if isS x then blkV (gX x) (kX x) (sX x) else blkV 0 0 0, .bool (isS x)]) w') : callS Tryz.prog 114 #[.int .u64 x] w K := by
  refine f114_call _ _ _ ?_
  unfold f114_t
  by_cases hs : sealN (x % 4294967296) = x
  · have e : isS x = true := decide_eq_true hs
    rw [e] at h
    have e1 : x % 4294967296 % 65536 = gX x := by unfold gX; omega
    have e2 : x % 4294967296 / 2 ^ 16 % 256 = kX x := by unfold kX; omega
    have e3 : x % 4294967296 / 2 ^ 24 % 256 = sX x := by unfold sX; omega
    simp (disch := first | omega | simp only [RO] | (simp only [RZ] <;> omega) | fail) only [↓RA, ↓reduceIte, Nat.reduceAdd, Nat.reduceMul, Nat.reduceEqDiff, RB, RW, RS, fun o x K => c_seal x (w.alloc o) K (hG.alloc o), hs, e1, e2, e3]
    exact h _ (by repeat (first | (with_reducible first | refine eB ?_ (by first | omega | (simp only [RZ] <;> omega)) _ | assumption | exact eR _ | refine eA ?_ _ | refine eD ?_ | refine eT ?_ (by assumption)) | exact eR _))
  · have e : isS x = false := decide_eq_false hs
    rw [e] at h
    simp (disch := first | omega | simp only [RO] | (simp only [RZ] <;> omega) | fail) only [↓RA, ↓reduceIte, Nat.reduceAdd, Nat.reduceMul, Nat.reduceEqDiff, RB, RW, RS, fun o x K => c_seal x (w.alloc o) K (hG.alloc o), hs]
    exact h _ (by repeat (first | (with_reducible first | refine eB ?_ (by first | omega | (simp only [RZ] <;> omega)) _ | assumption | exact eR _ | refine eA ?_ _ | refine eD ?_ | refine eT ?_ (by assumption)) | exact eR _))
def hdV (c o : Int) (g : Nat) : Value := .agg #[.int .i64 c, .int .i64 o, .int .u16 (g : Int)]
def fmtB (c o : Int) : Bool := decide (0 ≤ c) && decide (c < 5) && decide (0 ≤ o) && decide (o < 8)
theorem perS_out {c : Int} (h : ¬ (0 ≤ c ∧ c < 5)) : perS c = 0 := by unfold perS; rw [if_pos (wordsS_out h)]
theorem c_formatted (c o : Int) (g : Nat) (w : World) (K : K1) (hG : Glob w) : callS Tryz.prog 71 #[.agg #[.int .i64 c, .int .i64 o, .int .u16 (g : Int)]] w K = K (.bool (fmtB c o)) (w.alloc (hdO c o g)) := by
  refine callS_det (by kernel_rfl) (f71_call _ _ _ ?_) K
  unfold f71_t fmtB
  by_cases h : 0 ≤ c ∧ c < 5
  · have hp := perS_in h.1 h.2
    by_cases h1 : 0 ≤ o
    · by_cases h2 : o < 8
      · simp (disch := first | omega | simp only [RO] | (simp only [RZ] <;> omega) | fail) only [↓RA, ↓reduceIte, Nat.reduceAdd, Nat.reduceMul, Nat.reduceEqDiff, RB, RW, RS, fun q x K => c_PerChunk x (w.alloc q) K (hG.alloc q), hdO]
      · simp (disch := first | omega | simp only [RO] | (simp only [RZ] <;> omega) | fail) only [↓RA, ↓reduceIte, Nat.reduceAdd, Nat.reduceMul, Nat.reduceEqDiff, RB, RW, RS, fun q x K => c_PerChunk x (w.alloc q) K (hG.alloc q), hdO]
    · simp (disch := first | omega | simp only [RO] | (simp only [RZ] <;> omega) | fail) only [↓RA, ↓reduceIte, Nat.reduceAdd, Nat.reduceMul, Nat.reduceEqDiff, RB, RW, RS, fun q x K => c_PerChunk x (w.alloc q) K (hG.alloc q), hdO]
  · have hp := perS_out h
    have e : (decide (0 ≤ c) && decide (c < 5)) = false := by simp only [Bool.and_eq_false_iff, decide_eq_false_iff_not]; omega
    simp (disch := first | omega | simp only [RO] | (simp only [RZ] <;> omega) | fail) only [↓RA, ↓reduceIte, Nat.reduceAdd, Nat.reduceMul, Nat.reduceEqDiff, RB, RW, RS, fun q x K => c_PerChunk x (w.alloc q) K (hG.alloc q), hdO, hp, e]
def hC (x : Nat) : Int := ((x / 65536 % 16 : Nat) : Int) - 1
def hO (x : Nat) : Int := ((x / 1048576 % 16 : Nat) : Int) - 1
def hdOk (x : Nat) : Bool := isS x && decide (sX x = 197) && !decide (gX x = 0) && ((decide (hC x < 0) && decide (hO x < 0)) || fmtB (hC x) (hO x))
theorem and15 (x : Nat) : x &&& 15 = x % 16 := Nat.and_two_pow_sub_one_eq_mod x 4
theorem k_header (x : Nat) (w : World) (K : K1) (hG : Glob w) (hx : x < 18446744073709551616) (h : ∀ w', Ext w w' → K (.tuple #[if hdOk x then hdV (hC x) (hO x) (gX x) else hdV 0 0 0, .bool (hdOk x)]) w') : callS Tryz.prog 85 #[.int .u64 x] w K := by
  refine f85_call _ _ _ ?_
  unfold f85_t
  by_cases hs : sealN (x % 4294967296) = x
  · have e0 : isS x = true := decide_eq_true hs
    have e3 : x % 4294967296 / 2 ^ 24 = sX x := by unfold sX; omega
    have e1 : x % 4294967296 % 65536 = gX x := by unfold gX; omega
    by_cases hm : sX x = 197
    · by_cases hg : gX x = 0
      · have e : hdOk x = false := by simp [hdOk, hg]
        rw [e] at h
        simp (disch := first | omega | simp only [RO] | (simp only [RZ] <;> omega) | fail) only [↓RA, ↓reduceIte, Nat.reduceAdd, Nat.reduceMul, Nat.reduceEqDiff, RB, RW, RS, fun o x K => c_seal x (w.alloc o) K (hG.alloc o), hs, e3, e1, hm, hg]
        exact h _ (by repeat (first | (with_reducible first | refine eB ?_ (by first | omega | (simp only [RZ] <;> omega)) _ | assumption | exact eR _ | refine eA ?_ _ | refine eD ?_ | refine eT ?_ (by assumption)) | exact eR _))
      · have c1 : ((x % 4294967296 / 2 ^ 16 % 16 : Nat) : Int) - 1 = hC x := by unfold hC; omega
        have c2 : ((x % 4294967296 / 2 ^ 20 % 16 : Nat) : Int) - 1 = hO x := by unfold hO; omega
        have b1 : -1 ≤ hC x ∧ hC x ≤ 14 := by unfold hC; omega
        have b2 : -1 ≤ hO x ∧ hO x ≤ 14 := by unfold hO; omega
        have e : hdOk x = ((decide (hC x < 0) && decide (hO x < 0)) || fmtB (hC x) (hO x)) := by simp [hdOk, e0, hm, hg]
        rw [e] at h
        clear e
        by_cases n1 : hC x < 0
        · by_cases n2 : hO x < 0
          · have e : ((decide (hC x < 0) && decide (hO x < 0)) || fmtB (hC x) (hO x)) = true := by simp [n1, n2]
            rw [e] at h
            simp (disch := first | omega | simp only [RO] | (simp only [RZ] <;> omega) | fail) only [↓RA, ↓reduceIte, Nat.reduceAdd, Nat.reduceMul, Nat.reduceEqDiff, RB, RW, RS, fun o x K => c_seal x (w.alloc o) K (hG.alloc o), hs, e3, e1, hm, hg, and15, c1, c2]
            exact h _ (by repeat (first | (with_reducible first | refine eB ?_ (by first | omega | (simp only [RZ] <;> omega)) _ | assumption | exact eR _ | refine eA ?_ _ | refine eD ?_ | refine eT ?_ (by assumption)) | exact eR _))
          · have e : ((decide (hC x < 0) && decide (hO x < 0)) || fmtB (hC x) (hO x)) = false := by simp [fmtB, n2]; omega
            have ef : fmtB (hC x) (hO x) = false := by simp [fmtB]; omega
            rw [e] at h
            simp (disch := first | omega | simp only [RO] | (simp only [RZ] <;> omega) | fail) only [↓RA, ↓reduceIte, Nat.reduceAdd, Nat.reduceMul, Nat.reduceEqDiff, RB, RW, RS, fun o x K => c_seal x (w.alloc o) K (hG.alloc o), fun a b c d e g K => c_formatted d e g (((w.alloc a).alloc b).alloc c) K (((hG.alloc a).alloc b).alloc c), hs, e3, e1, hm, hg, and15, c1, c2, ef]
            exact h _ (by repeat (first | (with_reducible first | refine eB ?_ (by first | omega | (simp only [RZ] <;> omega)) _ | assumption | exact eR _ | refine eA ?_ _ | refine eD ?_ | refine eT ?_ (by assumption)) | exact eR _))
        · have e : ((decide (hC x < 0) && decide (hO x < 0)) || fmtB (hC x) (hO x)) = fmtB (hC x) (hO x) := by simp [n1]
          rw [e] at h
          cases ef : fmtB (hC x) (hO x) with
          | true =>
            rw [ef] at h
            simp (disch := first | omega | simp only [RO] | (simp only [RZ] <;> omega) | fail) only [↓RA, ↓reduceIte, Nat.reduceAdd, Nat.reduceMul, Nat.reduceEqDiff, RB, RW, RS, fun o x K => c_seal x (w.alloc o) K (hG.alloc o), fun a b c d e g K => c_formatted d e g (((w.alloc a).alloc b).alloc c) K (((hG.alloc a).alloc b).alloc c), hs, e3, e1, hm, hg, and15, c1, c2, ef]
            exact h _ (by repeat (first | (with_reducible first | refine eB ?_ (by first | omega | (simp only [RZ] <;> omega)) _ | assumption | exact eR _ | refine eA ?_ _ | refine eD ?_ | refine eT ?_ (by assumption)) | exact eR _))
          | false =>
            rw [ef] at h
            simp (disch := first | omega | simp only [RO] | (simp only [RZ] <;> omega) | fail) only [↓RA, ↓reduceIte, Nat.reduceAdd, Nat.reduceMul, Nat.reduceEqDiff, RB, RW, RS, fun o x K => c_seal x (w.alloc o) K (hG.alloc o), fun a b c d e g K => c_formatted d e g (((w.alloc a).alloc b).alloc c) K (((hG.alloc a).alloc b).alloc c), hs, e3, e1, hm, hg, and15, c1, c2, ef]
            exact h _ (by repeat (first | (with_reducible first | refine eB ?_ (by first | omega | (simp only [RZ] <;> omega)) _ | assumption | exact eR _ | refine eA ?_ _ | refine eD ?_ | refine eT ?_ (by assumption)) | exact eR _))
    · have e : hdOk x = false := by simp [hdOk, hm]
      rw [e] at h
      simp (disch := first | omega | simp only [RO] | (simp only [RZ] <;> omega) | fail) only [↓RA, ↓reduceIte, Nat.reduceAdd, Nat.reduceMul, Nat.reduceEqDiff, RB, RW, RS, fun o x K => c_seal x (w.alloc o) K (hG.alloc o), hs, e3, hm]
      exact h _ (by repeat (first | (with_reducible first | refine eB ?_ (by first | omega | (simp only [RZ] <;> omega)) _ | assumption | exact eR _ | refine eA ?_ _ | refine eD ?_ | refine eT ?_ (by assumption)) | exact eR _))
  · have e0 : isS x = false := decide_eq_false hs
    have e : hdOk x = false := by simp [hdOk, e0]
    rw [e] at h
    simp (disch := first | omega | simp only [RO] | (simp only [RZ] <;> omega) | fail) only [↓RA, ↓reduceIte, Nat.reduceAdd, Nat.reduceMul, Nat.reduceEqDiff, RB, RW, RS, fun o x K => c_seal x (w.alloc o) K (hG.alloc o), hs]
    exact h _ (by repeat (first | (with_reducible first | refine eB ?_ (by first | omega | (simp only [RZ] <;> omega)) _ | assumption | exact eR _ | refine eA ?_ _ | refine eD ?_ | refine eT ?_ (by assumption)) | exact eR _))
end Go.Proofs.YtaeopkhdokaaoaaGreatDoor
namespace Go.Proofs.YtaeopkhdokaaoaaGreatDoor
open Go Go.Sh
set_option maxRecDepth 100000
set_option maxHeartbeats 4000000
set_option linter.unusedSimpArgs false
set_option linter.unusedVariables false
def goodB (g k s : Nat) : Bool := if s = 176 then decide (g ≠ 0) && decide (k = 0) else if s = 177 then decide (g ≠ 0) && decide (k ≠ 0) && decide (k ≤ 127) else if s = 178 then decide (g = 65535) && decide (k = 0) else false
theorem c_good (g k s : Nat) (w : World) (K : K1) : callS Tryz.prog 95 #[.agg #[.int .u16 (g : Int), .int .u8 (k : Int), .int .u8 (s : Int)]] w K = K (.bool (goodB g k s)) (w.alloc (blkO g k s)) := by
  refine callS_det (by kernel_rfl) (f95_call _ _ _ ?_) K
  unfold f95_t goodB
  by_cases h1 : s = 176
  · by_cases h2 : g = 0
    · simp (disch := first | omega | simp only [RO] | (simp only [RZ] <;> omega) | fail) only [↓RA, ↓reduceIte, Nat.reduceAdd, Nat.reduceMul, Nat.reduceEqDiff, RB, RW, RS, blkO, h1, h2]
    · by_cases h3 : k = 0
      · simp (disch := first | omega | simp only [RO] | (simp only [RZ] <;> omega) | fail) only [↓RA, ↓reduceIte, Nat.reduceAdd, Nat.reduceMul, Nat.reduceEqDiff, RB, RW, RS, blkO, h1, h2, h3]
      · simp (disch := first | omega | simp only [RO] | (simp only [RZ] <;> omega) | fail) only [↓RA, ↓reduceIte, Nat.reduceAdd, Nat.reduceMul, Nat.reduceEqDiff, RB, RW, RS, blkO, h1, h2, h3]
  · by_cases h2 : s = 177
    · by_cases h3 : g = 0
      · simp (disch := first | omega | simp only [RO] | (simp only [RZ] <;> omega) | fail) only [↓RA, ↓reduceIte, Nat.reduceAdd, Nat.reduceMul, Nat.reduceEqDiff, RB, RW, RS, blkO, h1, h2, h3]
      · by_cases h4 : k = 0
        · simp (disch := first | omega | simp only [RO] | (simp only [RZ] <;> omega) | fail) only [↓RA, ↓reduceIte, Nat.reduceAdd, Nat.reduceMul, Nat.reduceEqDiff, RB, RW, RS, blkO, h1, h2, h3, h4]
        · by_cases h5 : k ≤ 127
          · simp (disch := first | omega | simp only [RO] | (simp only [RZ] <;> omega) | fail) only [↓RA, ↓reduceIte, Nat.reduceAdd, Nat.reduceMul, Nat.reduceEqDiff, RB, RW, RS, blkO, h1, h2, h3, h4, h5]
          · simp (disch := first | omega | simp only [RO] | (simp only [RZ] <;> omega) | fail) only [↓RA, ↓reduceIte, Nat.reduceAdd, Nat.reduceMul, Nat.reduceEqDiff, RB, RW, RS, blkO, h1, h2, h3, h4, h5]
    · by_cases h3 : s = 178
      · by_cases h4 : g = 65535
        · by_cases h5 : k = 0
          · simp (disch := first | omega | simp only [RO] | (simp only [RZ] <;> omega) | fail) only [↓RA, ↓reduceIte, Nat.reduceAdd, Nat.reduceMul, Nat.reduceEqDiff, RB, RW, RS, blkO, h1, h2, h3, h4, h5]
          · simp (disch := first | omega | simp only [RO] | (simp only [RZ] <;> omega) | fail) only [↓RA, ↓reduceIte, Nat.reduceAdd, Nat.reduceMul, Nat.reduceEqDiff, RB, RW, RS, blkO, h1, h2, h3, h4, h5]
        · simp (disch := first | omega | simp only [RO] | (simp only [RZ] <;> omega) | fail) only [↓RA, ↓reduceIte, Nat.reduceAdd, Nat.reduceMul, Nat.reduceEqDiff, RB, RW, RS, blkO, h1, h2, h3, h4]
      · simp (disch := first | omega | simp only [RO] | (simp only [RZ] <;> omega) | fail) only [↓RA, ↓reduceIte, Nat.reduceAdd, Nat.reduceMul, Nat.reduceEqDiff, RB, RW, RS, blkO, h1, h2, h3]
theorem c_NextGen (g : Nat) (w : World) (K : K1) (hg : g < 65536) : callS Tryz.prog 133 #[.int .u16 (g : Int)] w K = K (.tuple #[.int .u16 ((if g = 65535 then 0 else g + 1 : Nat) : Int), .bool (!decide (g = 65535))]) w := by
  refine callS_det (by kernel_rfl) (f133_call _ _ _ ?_) K
  unfold f133_t
  by_cases h : g = 65535
  · simp (disch := first | omega | simp only [RO] | (simp only [RZ] <;> omega) | fail) only [↓RA, ↓reduceIte, Nat.reduceAdd, Nat.reduceMul, Nat.reduceEqDiff, RB, RW, RS, h]
  · simp (disch := first | omega | simp only [RO] | (simp only [RZ] <;> omega) | fail) only [↓RA, ↓reduceIte, Nat.reduceAdd, Nat.reduceMul, Nat.reduceEqDiff, RB, RW, RS, h]
def freG (g : Nat) : Nat := if g = 65535 then 65535 else g + 1
def freS (g : Nat) : Nat := if g = 65535 then 178 else 176
theorem c_freed (g k s : Nat) (w : World) (K : K1) (hg : g < 65536) : callS Tryz.prog 113 #[.agg #[.int .u16 (g : Int), .int .u8 (k : Int), .int .u8 (s : Int)]] w K = K (.agg #[.int .u16 ((freG g : Nat) : Int), .int .u8 ((0 : Nat) : Int), .int .u8 ((freS g : Nat) : Int)]) ((w.alloc (blkO g k s)).alloc (blkO (freG g) 0 (freS g))) := by
  refine callS_det (by kernel_rfl) (f113_call _ _ _ ?_) K
  unfold f113_t
  by_cases h : g = 65535
  · simp (disch := first | omega | simp only [RO] | (simp only [RZ] <;> omega) | fail) only [↓RA, ↓reduceIte, Nat.reduceAdd, Nat.reduceMul, Nat.reduceEqDiff, RB, RW, RS, h, c_NextGen, freG, freS, blkO]
  · simp (disch := first | omega | simp only [RO] | (simp only [RZ] <;> omega) | fail) only [↓RA, ↓reduceIte, Nat.reduceAdd, Nat.reduceMul, Nat.reduceEqDiff, RB, RW, RS, h, c_NextGen, freG, freS, blkO]
def ptrOk (off g k : Nat) : Bool := decide (off ≠ 0) && decide (off % 8 = 0) && decide (g ≠ 0) && decide (k ≠ 0) && decide (k ≤ 127)
def ptrN (off g k : Nat) : Nat := off / 8 + g * 4294967296 + k * 281474976710656
theorem ptr_or {a g k : Nat} (ha : a < 4294967296) (hg : g < 65536) (hk : k < 65536) : (a ||| g * 2 ^ 32) ||| k * 2 ^ 48 = a + g * 4294967296 + k * 281474976710656 := by
  have h1 := or_add (a := g) (b := a) (k := 32) (by omega)
  rw [Nat.mul_comm g, Nat.mul_comm k, Nat.or_comm a, h1]
  have h2 := or_add (a := k) (b := 2 ^ 32 * g + a) (k := 48) (by omega)
  rw [Nat.or_comm, h2]; omega
theorem ptr_s1 {g : Nat} (hg : g < 65536) : g * 2 ^ 32 % 18446744073709551616 = g * 2 ^ 32 := Nat.mod_eq_of_lt (by omega)
theorem ptr_s2 {k : Nat} (hk : k < 256) : k * 2 ^ 48 % 18446744073709551616 = k * 2 ^ 48 := Nat.mod_eq_of_lt (by omega)
theorem ptr_lt {a g : Nat} (ha : a < 4294967296) (hg : g < 65536) : (a ||| g * 2 ^ 32 < 18446744073709551616) = True := eq_true (Nat.or_lt_two_pow (n := 64) (by omega) (by omega))
theorem c_Make (off g k : Nat) (w : World) (K : K1) (ho : off < 18446744073709551616) (hg : g < 65536) (hk : k < 256) : callS Tryz.prog 57 #[.int .u64 (off : Int), .int .u16 (g : Int), .int .u8 (k : Int)] w K = K (.tuple #[.int .u64 ((if ptrOk off g k = true ∧ off ≤ 34359738360 then ptrN off g k else 0 : Nat) : Int), .int .i64 (if ptrOk off g k = true then if off ≤ 34359738360 then 0 else 2 else 1)]) w := by
  refine callS_det (by kernel_rfl) (f57_call _ _ _ _ _ ?_) K
  unfold f57_t
  cases hb : ptrOk off g k with
  | false =>
    by_cases h1 : off = 0
    · simp (disch := first | omega | simp only [RO] | (simp only [RZ] <;> omega) | fail) only [↓RA, ↓reduceIte, Nat.reduceAdd, Nat.reduceMul, Nat.reduceEqDiff, RB, RW, RS, RI, h1]
    · by_cases h2 : off % 8 = 0
      · by_cases h3 : g = 0
        · simp (disch := first | omega | simp only [RO] | (simp only [RZ] <;> omega) | fail) only [↓RA, ↓reduceIte, Nat.reduceAdd, Nat.reduceMul, Nat.reduceEqDiff, RB, RW, RS, RI, h1, h2, h3]
        · by_cases h4 : k = 0
          · simp (disch := first | omega | simp only [RO] | (simp only [RZ] <;> omega) | fail) only [↓RA, ↓reduceIte, Nat.reduceAdd, Nat.reduceMul, Nat.reduceEqDiff, RB, RW, RS, RI, h1, h2, h3, h4]
          · have h5 : ¬ k ≤ 127 := by simp [ptrOk, h1, h2, h3, h4] at hb; omega
            simp (disch := first | omega | simp only [RO] | (simp only [RZ] <;> omega) | fail) only [↓RA, ↓reduceIte, Nat.reduceAdd, Nat.reduceMul, Nat.reduceEqDiff, RB, RW, RS, RI, h1, h2, h3, h4, h5]
      · simp (disch := first | omega | simp only [RO] | (simp only [RZ] <;> omega) | fail) only [↓RA, ↓reduceIte, Nat.reduceAdd, Nat.reduceMul, Nat.reduceEqDiff, RB, RW, RS, RI, h1, h2]
  | true =>
    have h : off ≠ 0 ∧ off % 8 = 0 ∧ g ≠ 0 ∧ k ≠ 0 ∧ k ≤ 127 := by simpa [ptrOk, and_assoc] using hb
    by_cases h6 : off ≤ 34359738360
    · have s3 : off / 8 ||| g * 2 ^ 32 < 18446744073709551616 := of_eq_true (ptr_lt (show off / 8 < 4294967296 by omega) hg)
      simp (disch := first | omega | simp only [RO] | (simp only [RZ] <;> omega) | fail) only [↓RA, ↓reduceIte, Nat.reduceAdd, Nat.reduceMul, Nat.reduceEqDiff, RB, RW, RS, RI, h6, ptrN, ptr_s1 hg, ptr_s2 hk, ptr_or (show off / 8 < 4294967296 by omega) hg (show k < 65536 by omega)]
    · simp (disch := first | omega | simp only [RO] | (simp only [RZ] <;> omega) | fail) only [↓RA, ↓reduceIte, Nat.reduceAdd, Nat.reduceMul, Nat.reduceEqDiff, RB, RW, RS, RI, h6]
end Go.Proofs.YtaeopkhdokaaoaaGreatDoor
namespace Go.Proofs.YtaeopkhdokaaoaaGreatDoor
open Go Go.Sh
set_option maxRecDepth 100000
set_option maxHeartbeats 4000000
set_option linter.unusedSimpArgs false
set_option linter.unusedVariables false
theorem c_rWords (c : Int) (w : World) (K : K1) : callS Tryz.prog 78 #[.int .i64 c] w K = K (.int .i64 (wordsS c)) w := by
  refine callS_det (by kernel_rfl) (f78_call _ _ _ ?_) K
  unfold f78_t
  by_cases h : 0 ≤ c ∧ c < 5
  · have h' : c = 0 ∨ c = 1 ∨ c = 2 ∨ c = 3 ∨ c = 4 := by omega
    rcases h' with rfl | rfl | rfl | rfl | rfl
    · simp (disch := first | omega | simp only [RO] | (simp only [RZ] <;> omega) | fail) only [↓RA, ↓reduceIte, Nat.reduceAdd, Nat.reduceMul, Nat.reduceEqDiff, RB, show wordsS 0 = 3 from rfl]
    · simp (disch := first | omega | simp only [RO] | (simp only [RZ] <;> omega) | fail) only [↓RA, ↓reduceIte, Nat.reduceAdd, Nat.reduceMul, Nat.reduceEqDiff, RB, show wordsS 1 = 7 from rfl]
    · simp (disch := first | omega | simp only [RO] | (simp only [RZ] <;> omega) | fail) only [↓RA, ↓reduceIte, Nat.reduceAdd, Nat.reduceMul, Nat.reduceEqDiff, RB, show wordsS 2 = 15 from rfl]
    · simp (disch := first | omega | simp only [RO] | (simp only [RZ] <;> omega) | fail) only [↓RA, ↓reduceIte, Nat.reduceAdd, Nat.reduceMul, Nat.reduceEqDiff, RB, show wordsS 3 = 31 from rfl]
    · simp (disch := first | omega | simp only [RO] | (simp only [RZ] <;> omega) | fail) only [↓RA, ↓reduceIte, Nat.reduceAdd, Nat.reduceMul, Nat.reduceEqDiff, RB, show wordsS 4 = 60 from rfl]
  · simp (disch := first | omega | simp only [RO] | (simp only [RZ] <;> omega) | fail) only [↓RA, ↓reduceIte, Nat.reduceAdd, Nat.reduceMul, Nat.reduceEqDiff, RB, wordsS_out h]
theorem per_mul {c n : Int} (h0 : 0 ≤ c) (h1 : c < 5) : (8 + (n + 1) * (wordsS c + 1) ≤ 256) = (n < perS c) := by
  have hp := perS_in h0 h1
  have hw := wordsS_in h0 h1
  have : c = 0 ∨ c = 1 ∨ c = 2 ∨ c = 3 ∨ c = 4 := by omega
  rcases this with rfl | rfl | rfl | rfl | rfl <;> (rw [hp.1, hw.1]; simp [payN]; omega)
theorem c_rPer (c : Int) (w : World) (K : K1) : callS Tryz.prog 19 #[.int .i64 c] w K = K (.int .i64 (perS c)) w := by
  refine callS_det (by kernel_rfl) (f19_call _ _ _ ?_) K
  unfold f19_t
  by_cases h : 0 ≤ c ∧ c < 5
  · have hp := perS_in h.1 h.2
    have hw := wordsS_in h.1 h.2
    apply f19_l1_rule (I := fun x3 w' => ∃ k : Int, 0 ≤ k ∧ k ≤ perS c ∧ w' = w ∧ x3 = .int .i64 k) (μ := fun x3 _ => 100 - (Go.RowKit.intOf x3).toNat)
    · exact ⟨0, by omega, by omega, rfl, rfl⟩
    · rintro x3 w' ⟨k, hk0, hk, rfl, rfl⟩ E1 hE
      unfold f19_l1_t
      have hm := per_mul (n := k) h.1 h.2
      have hb : 0 ≤ (k + 1) * (wordsS c + 1) ∧ (k + 1) * (wordsS c + 1) ≤ 6000 := ⟨Int.mul_nonneg (by omega) (by omega), Int.le_trans (Int.mul_le_mul (show k + 1 ≤ 63 by omega) (show wordsS c + 1 ≤ 61 by omega) (by omega) (by omega)) (by omega)⟩
      by_cases hk' : k < perS c
      · have hm' : 8 + (k + 1) * (wordsS c + 1) ≤ 256 := by rw [hm]; exact hk'
        simp (disch := first | omega | simp only [RO] | (simp only [RZ] <;> omega) | fail) only [↓RA, ↓reduceIte, Nat.reduceAdd, Nat.reduceMul, Nat.reduceEqDiff, RB, c_rWords]
        refine hE _ _ ⟨k + 1, by omega, by omega, rfl, rfl⟩ ?_
        simp [Go.RowKit.intOf]; omega
      · have hm' : ¬ 8 + (k + 1) * (wordsS c + 1) ≤ 256 := by rw [hm]; exact hk'
        have e : perS c = k := by omega
        simp (disch := first | omega | simp only [RO] | (simp only [RZ] <;> omega) | fail) only [↓RA, ↓reduceIte, Nat.reduceAdd, Nat.reduceMul, Nat.reduceEqDiff, RB, c_rWords, f19_k1_eq, f19_k1_t, e]
  · have hp := perS_out h
    have hw := wordsS_out h
    apply f19_l1_rule (I := fun x3 w' => w' = w ∧ x3 = .int .i64 0) (μ := fun x3 _ => 0)
    · exact ⟨rfl, rfl⟩
    · rintro x3 w' ⟨rfl, rfl⟩ E1 hE
      unfold f19_l1_t
      simp (disch := first | omega | simp only [RO] | (simp only [RZ] <;> omega) | fail) only [↓RA, ↓reduceIte, Nat.reduceAdd, Nat.reduceMul, Nat.reduceEqDiff, RB, c_rWords, hw, hp, f19_k1_eq, f19_k1_t]
theorem c_rOff (c i : Int) (w : World) (K : K1) (hi : 0 ≤ i) (hi' : i < 1000) : callS Tryz.prog 20 #[.int .i64 c, .int .i64 i] w K = K (.int .i64 (offS c i)) w := by
  refine callS_det (by kernel_rfl) (f20_call _ _ _ _ ?_) K
  unfold f20_t
  have hw : 0 ≤ wordsS c ∧ wordsS c ≤ 60 := by
    by_cases h : 0 ≤ c ∧ c < 5
    · have := wordsS_in h.1 h.2; omega
    · rw [wordsS_out h]; omega
  have hb : 0 ≤ i * (wordsS c + 1) ∧ i * (wordsS c + 1) ≤ 61000 := ⟨Int.mul_nonneg (by omega) (by omega), Int.le_trans (Int.mul_le_mul (show i ≤ 1000 by omega) (show wordsS c + 1 ≤ 61 by omega) (by omega) (by omega)) (by omega)⟩
  simp (disch := first | omega | simp only [RO] | (simp only [RZ] <;> omega) | fail) only [↓RA, ↓reduceIte, Nat.reduceAdd, Nat.reduceMul, Nat.reduceEqDiff, RB, c_rWords, offS]
theorem c_rSum (x : Nat) (w : World) (K : K1) (hx : x < 4294967296) : callS Tryz.prog 81 #[.int .u32 (x : Int)] w K = K (.int .u32 ((sumN x : Nat) : Int)) w := by
  refine callS_det (by kernel_rfl) (f81_call _ _ _ ?_) K
  unfold f81_t
  have h0 : 4294967295 ^^^ x < 4294967296 := Nat.xor_lt_two_pow (n := 32) (by omega) hx
  simp (disch := first | omega | simp only [RO] | (simp only [RZ] <;> omega) | fail) only [↓RA, ↓reduceIte, Nat.reduceAdd, Nat.reduceMul, Nat.reduceEqDiff, RB]
  apply f81_l1_rule (I := fun x3 x4 w' => ∃ k : Nat, k ≤ 32 ∧ w' = w ∧ x3 = .int .u32 ((bsN k (4294967295 ^^^ x) : Nat) : Int) ∧ x4 = .int .i64 (k : Int)) (μ := fun _ x4 _ => 100 - (Go.RowKit.intOf x4).toNat)
  · exact ⟨0, by omega, rfl, rfl, rfl⟩
  · rintro x3 x4 w' ⟨k, hk, rfl, rfl, rfl⟩ E1 hE
    unfold f81_l1_t
    have hc := bsN_lt k _ h0
    have hs : bsN (k + 1) (4294967295 ^^^ x) = bs (bsN k (4294967295 ^^^ x)) := bsN_add k 1 _
    generalize hg : bsN k (4294967295 ^^^ x) = c at hc hs
    by_cases hk' : k < 32
    · by_cases h2 : c % 2 = 1
      · have e : bs c = c / 2 ^ 1 ^^^ 2197175160 := by unfold bs; rw [if_pos h2]
        simp (disch := first | omega | simp only [RO] | (simp only [RZ] <;> omega) | fail) only [↓RA, ↓reduceIte, Nat.reduceAdd, Nat.reduceMul, Nat.reduceEqDiff, RB, f81_k2_eq, f81_k2_t]
        refine hE _ _ _ ⟨k + 1, by omega, rfl, ?_, by simp⟩ ?_
        · rw [hs, e]
        · simp [Go.RowKit.intOf]; omega
      · have e : bs c = c / 2 ^ 1 := by unfold bs; rw [if_neg h2]
        simp (disch := first | omega | simp only [RO] | (simp only [RZ] <;> omega) | fail) only [↓RA, ↓reduceIte, Nat.reduceAdd, Nat.reduceMul, Nat.reduceEqDiff, RB, f81_k2_eq, f81_k2_t]
        refine hE _ _ _ ⟨k + 1, by omega, rfl, ?_, by simp⟩ ?_
        · rw [hs, e]
        · simp [Go.RowKit.intOf]; omega
    · have e : k = 32 := by omega
      subst e
      simp (disch := first | omega | simp only [RO] | (simp only [RZ] <;> omega) | fail) only [↓RA, ↓reduceIte, Nat.reduceAdd, Nat.reduceMul, Nat.reduceEqDiff, RB, f81_k1_eq, f81_k1_t, sumN, hg]
theorem seal_s {y : Nat} (h : y < 4294967296) : y * 2 ^ 32 % 18446744073709551616 = y * 4294967296 := Nat.mod_eq_of_lt (by omega)
theorem c_rSeal (x : Nat) (w : World) (K : K1) (hx : x < 4294967296) : callS Tryz.prog 24 #[.int .u32 (x : Int)] w K = K (.int .u64 ((sealN x : Nat) : Int)) w := by
  refine callS_det (by kernel_rfl) (f24_call _ _ _ ?_) K
  unfold f24_t
  have hs := sumN_lt x hx
  simp (disch := first | omega | simp only [RO] | (simp only [RZ] <;> omega) | fail) only [↓RA, ↓reduceIte, Nat.reduceAdd, Nat.reduceMul, Nat.reduceEqDiff, RB, c_rSum, seal_s hs, sealN]
theorem c_rSealed (x : Nat) (w : World) (K : K1) (hx : x < 18446744073709551616) : callS Tryz.prog 97 #[.int .u64 (x : Int)] w K = K (.bool (isS x)) w := by
  refine callS_det (by kernel_rfl) (f97_call _ _ _ ?_) K
  unfold f97_t
  by_cases h : sealN (x % 4294967296) = x
  · have e : isS x = true := decide_eq_true h
    simp (disch := first | omega | simp only [RO] | (simp only [RZ] <;> omega) | fail) only [↓RA, ↓reduceIte, Nat.reduceAdd, Nat.reduceMul, Nat.reduceEqDiff, RB, c_rSeal, h, e]
  · have e : isS x = false := decide_eq_false h
    simp (disch := first | omega | simp only [RO] | (simp only [RZ] <;> omega) | fail) only [↓RA, ↓reduceIte, Nat.reduceAdd, Nat.reduceMul, Nat.reduceEqDiff, RB, c_rSeal, e]
end Go.Proofs.YtaeopkhdokaaoaaGreatDoor
namespace Go.Proofs.YtaeopkhdokaaoaaGreatDoor
open Go Go.Sh
set_option maxRecDepth 100000
set_option maxHeartbeats 4000000
set_option linter.unusedSimpArgs false
set_option linter.unusedVariables false
def rhO (c o : Int) (g : Nat) : Obj := .cells #[.int .i64 c, .int .i64 o, .int .u16 (g : Int)] 35
theorem rh_s1 {y : Nat} (h : y < 16) : y * 2 ^ 16 % 4294967296 = y * 65536 := by rw [Nat.mod_eq_of_lt] <;> omega
theorem rh_s2 {y : Nat} (h : y < 16) : y * 2 ^ 20 % 4294967296 = y * 1048576 := by rw [Nat.mod_eq_of_lt] <;> omega
theorem c_rFirst (c o : Int) (g : Nat) (w : World) (K : K1) (hg : g < 65536) (h : (c = -1 ∧ o = -1) ∨ (0 ≤ c ∧ c < 5 ∧ 0 ≤ o ∧ o < 8)) : callS Tryz.prog 16 #[.agg #[.int .i64 c, .int .i64 o, .int .u16 (g : Int)]] w K = K (.int .u64 ((sealN (hdX c o g) : Nat) : Int)) (w.alloc (rhO c o g)) := by
  refine callS_det (by kernel_rfl) (f16_call _ _ _ ?_) K
  unfold f16_t
  have e : g + (c + 1).toNat * 65536 + (o + 1).toNat * 1048576 + 3305111552 = hdX c o g := by
    unfold hdX
    by_cases h0 : 0 ≤ c
    · rw [if_pos h0]
    · rw [if_neg h0]; omega
  simp (disch := first | omega | simp only [RO] | (simp only [RZ] <;> omega) | fail) only [↓RA, ↓reduceIte, Nat.reduceAdd, Nat.reduceMul, Nat.reduceEqDiff, RB, RX, rhO, c_rSeal, rh_s1 (show (c + 1).toNat < 16 by omega), rh_s2 (show (o + 1).toNat < 16 by omega), e]
def rightB (c o : Int) (g : Nat) : Bool := !decide (g = 0) && ((decide (c = -1) && decide (o = -1)) || fmtB c o)
theorem c_rRight (c o : Int) (g : Nat) (w : World) (K : K1) : callS Tryz.prog 18 #[.agg #[.int .i64 c, .int .i64 o, .int .u16 (g : Int)]] w K = K (.bool (rightB c o g)) (w.alloc (rhO c o g)) := by
  refine callS_det (by kernel_rfl) (f18_call _ _ _ ?_) K
  unfold f18_t rightB fmtB
  (repeat' (first | (with_reducible refine brS_mk (fun _ => ?_) (fun _ => ?_)) | (with_reducible refine And.intro ?_ ?_) | (simp (disch := first | omega | simp only [RO] | (simp only [RZ] <;> omega) | fail) only [↓RBp, ↓RA, ↓reduceIte, Nat.reduceAdd, Nat.reduceMul, Nat.reduceEqDiff, RB, RX, rhO])))
  all_goals (simp only [Value.bool.injEq]; simp; try omega)
theorem rb_s1 {y : Nat} (h : y < 256) : y * 2 ^ 16 % 4294967296 = y * 65536 := by rw [Nat.mod_eq_of_lt] <;> omega
theorem rb_s2 {y : Nat} (h : y < 256) : y * 2 ^ 24 % 4294967296 = y * 16777216 := by rw [Nat.mod_eq_of_lt] <;> omega
theorem c_rBlock (g k s : Nat) (w : World) (K : K1) (hg : g < 65536) (hk : k < 256) (hs : s < 256) : callS Tryz.prog 21 #[.int .u16 (g : Int), .int .u8 (k : Int), .int .u32 (s : Int)] w K = K (.int .u64 ((sealN (blkX g k s) : Nat) : Int)) w := by
  refine callS_det (by kernel_rfl) (f21_call _ _ _ _ _ ?_) K
  unfold f21_t
  simp (disch := first | omega | simp only [RO] | (simp only [RZ] <;> omega) | fail) only [↓RA, ↓reduceIte, Nat.reduceAdd, Nat.reduceMul, Nat.reduceEqDiff, RB, c_rSeal, rb_s1 hk, rb_s2 hs, blkX]
end Go.Proofs.YtaeopkhdokaaoaaGreatDoor
namespace Go.Proofs.YtaeopkhdokaaoaaGreatDoor
open Go Go.Sh
set_option maxRecDepth 100000
set_option linter.unusedVariables false
def f26_t (x0 x1 : Value) (K : K1) (w : World) : Prop :=
 ev Tryz.prog (Instr.alloc 24 true (.tuple #[])) w fun t4 w_1 =>
 ev Tryz.prog (binM .eql 56 (.tmp 12) (.const .nilIface) x0 .nilIface) w_1 fun t13 w_2 =>
 gd t13 false (fun k => k x1 w_2) w_2 fun t15 w_3 =>
 gd t13 false (fun k => ev Tryz.prog (binM .lss 3 (.tmp 15) (.const (.int .i64 0)) t15 (.int .i64 0)) w_3 k) w_3 fun t16 w_4 =>
 pickS t13 (.bool true) t16 w_4 fun t17 w_5 =>
 cndS t17 (
 ev Tryz.prog (Instr.build 24 #[]) w_5 fun t18 w_6 =>
 stS Tryz.prog 24 t4 t18 w_6 fun w_7 =>
 ldR Tryz.prog 24 t4 w_7 fun r =>
 K (.tuple #[r, (.int .i64 1)]) w_7) (
 invS Tryz.prog x0 "Size" (pA #[]) w_5 fun t20 w_8 =>
 ev Tryz.prog (binM .quo 33 (.tmp 20) (.const (.int .u64 ((64 : Nat) : Int))) t20 (.int .u64 ((64 : Nat) : Int))) w_8 fun t21 w_9 =>
 ev Tryz.prog (binM .lss 33 (.tmp 22) (.const (.int .u64 ((32 : Nat) : Int))) t21 (.int .u64 ((32 : Nat) : Int))) w_9 fun t23 w_10 =>
 gd t23 false (fun k => k x1 w_10) w_10 fun t25 w_11 =>
 gd t23 false (fun k => ev Tryz.prog (convert 3 33 t25) w_11 k) w_11 fun t26 w_12 =>
 gd t23 false (fun k => k t21 w_12) w_12 fun t27 w_13 =>
 gd t23 false (fun k => ev Tryz.prog (binM .sub 33 (.tmp 27) (.const (.int .u64 ((32 : Nat) : Int))) t27 (.int .u64 ((32 : Nat) : Int))) w_13 k) w_13 fun t28 w_14 =>
 gd t23 false (fun k => ev Tryz.prog (binM .gtr 33 (.tmp 26) (.tmp 28) t26 t28) w_14 k) w_14 fun t29 w_15 =>
 pickS t23 (.bool true) t29 w_15 fun t30 w_16 =>
 cndS t30 (
 ev Tryz.prog (Instr.build 24 #[]) w_16 fun t31 w_17 =>
 stS Tryz.prog 24 t4 t31 w_17 fun w_18 =>
 ldR Tryz.prog 24 t4 w_18 fun r_1 =>
 K (.tuple #[r_1, (.int .i64 1)]) w_18) (
 invS Tryz.prog x0 "Err" (pA #[]) w_16 fun t33 w_19 =>
 ev Tryz.prog (binM .neq 28 (.tmp 34) (.const (.int .i64 0)) t33 (.int .i64 0)) w_19 fun t35 w_20 =>
 cndS t35 (
 ev Tryz.prog (Instr.build 24 #[]) w_20 fun t36 w_21 =>
 stS Tryz.prog 24 t4 t36 w_21 fun w_22 =>
 ldR Tryz.prog 24 t4 w_22 fun r_2 =>
 K (.tuple #[r_2, t33]) w_22) (
 rd Tryz.prog (Instr.makeFunc (.method "Load") #[x0] #[]) w_20.drew fun t41 =>
 nilR Tryz.prog t41 w_20.drew fun t42 =>
 callS Tryz.prog 69 (pA #[x1]) w_20.drew fun t40 w_23 =>
 (ag Tryz.prog (Instr.makeFunc (.method "Load") #[x0] #[]) w_23 t41) ∧
 (nilR Tryz.prog t41 w_23 (fun u => u = t42)) ∧
 invS Tryz.prog x0 "Load" (pA #[t40]) w_23 fun t44 w_24 =>
 invS Tryz.prog x0 "Err" (pA #[]) w_24 fun t46 w_25 =>
 ev Tryz.prog (binM .neq 28 (.tmp 47) (.const (.int .i64 0)) t46 (.int .i64 0)) w_25 fun t48 w_26 =>
 cndS t48 (
 ev Tryz.prog (Instr.build 24 #[]) w_26 fun t49 w_27 =>
 stS Tryz.prog 24 t4 t49 w_27 fun w_28 =>
 ldR Tryz.prog 24 t4 w_28 fun r_3 =>
 K (.tuple #[r_3, t46]) w_28) (
 callS Tryz.prog 85 (pA #[t44]) w_26 fun t53 w_29 =>
 ev Tryz.prog (Instr.extract t53 0) w_29 fun t54 w_30 =>
 ev Tryz.prog (Instr.extract t53 1) w_30 fun t55 w_31 =>
 ev Tryz.prog (Instr.alloc 24 true (.tuple #[])) w_31 fun t10 w_32 =>
 stS Tryz.prog 24 t10 t54 w_32 fun w_33 =>
 ev Tryz.prog (Op.unary .not t55) w_33 fun t57 w_34 =>
 cndS t57 (
 ev Tryz.prog (Instr.build 24 #[]) w_34 fun t58 w_35 =>
 stS Tryz.prog 24 t4 t58 w_35 fun w_36 =>
 ldR Tryz.prog 24 t4 w_36 fun r_4 =>
 K (.tuple #[r_4, (.int .i64 11)]) w_36) (
 ldS Tryz.prog 24 t10 w_34 fun t59 w_37 =>
 stS Tryz.prog 24 t4 t59 w_37 fun w_38 =>
 ldR Tryz.prog 24 t4 w_38 fun r_5 =>
 K (.tuple #[r_5, (.int .i64 0)]) w_38)))))
theorem f26_call (x0 x1 : Value) (K : K1) (w : World) (h : f26_t x0 x1 K w) : callS Tryz.prog 26 #[x0, x1] w K :=
  call_of_txt (args := [x0, x1]) mixed Tryz.func26 .o (by kernel_rfl) (cast (by kernel_rfl) h)
def f27_t (x0 x1 : Value) (K : K1) (w : World) : Prop :=
 ev Tryz.prog (Instr.alloc 58 true (.tuple #[])) w fun t4 w_1 =>
 callS Tryz.prog 26 (pA #[x0, x1]) w_1 fun t11 w_2 =>
 ev Tryz.prog (Instr.extract t11 0) w_2 fun t12 w_3 =>
 ev Tryz.prog (Instr.extract t11 1) w_3 fun t13 w_4 =>
 ev Tryz.prog (Instr.alloc 24 true (.tuple #[])) w_4 fun t6 w_5 =>
 stS Tryz.prog 24 t6 t12 w_5 fun w_6 =>
 ev Tryz.prog (binM .neq 28 (.tmp 14) (.const (.int .i64 0)) t13 (.int .i64 0)) w_6 fun t15 w_7 =>
 cndS t15 (
 ev Tryz.prog (Instr.build 58 #[]) w_7 fun t16 w_8 =>
 stS Tryz.prog 58 t4 t16 w_8 fun w_9 =>
 ldR Tryz.prog 58 t4 w_9 fun r =>
 K (.tuple #[r, t13]) w_9) (
 ev Tryz.prog (Instr.fieldAt 24 t6 0) w_7 fun t18 w_10 =>
 ldS Tryz.prog 3 t18 w_10 fun t19 w_11 =>
 ev Tryz.prog (binM .lss 3 (.tmp 19) (.const (.int .i64 0)) t19 (.int .i64 0)) w_11 fun t20 w_12 =>
 cndS t20 (
 ev Tryz.prog (Instr.build 58 #[]) w_12 fun t21 w_13 =>
 stS Tryz.prog 58 t4 t21 w_13 fun w_14 =>
 ldR Tryz.prog 58 t4 w_14 fun r_1 =>
 K (.tuple #[r_1, (.int .i64 8)]) w_14) (
 ldS Tryz.prog 24 t6 w_12 fun t24 w_15 =>
 ev Tryz.prog (Instr.build 58 #[(0, x0), (1, x1), (2, t24)]) w_15 fun t25 w_16 =>
 stS Tryz.prog 58 t4 t25 w_16 fun w_17 =>
 ldR Tryz.prog 58 t4 w_17 fun r_2 =>
 K (.tuple #[r_2, (.int .i64 0)]) w_17))
theorem f27_call (x0 x1 : Value) (K : K1) (w : World) (h : f27_t x0 x1 K w) : callS Tryz.prog 27 #[x0, x1] w K :=
  call_of_txt (args := [x0, x1]) mixed Tryz.func27 .o (by kernel_rfl) (cast (by kernel_rfl) h)
def f30_t (x0 : Value) (K : K1) (w : World) : Prop :=
 ev Tryz.prog (Instr.box 58 x0) w fun t1 w_1 =>
 ev Tryz.prog (Instr.fieldAt 58 t1 1) w_1 fun t3 w_2 =>
 ldS Tryz.prog 3 t3 w_2 fun t4 w_3 =>
 K t4 w_3
theorem f30_call (x0 : Value) (K : K1) (w : World) (h : f30_t x0 K w) : callS Tryz.prog 30 #[x0] w K :=
  call_of_txt (args := [x0]) mixed Tryz.func30 .o (by kernel_rfl) (cast (by kernel_rfl) h)
def f31_t (x0 : Value) (K : K1) (w : World) : Prop :=
 ev Tryz.prog (Instr.box 58 x0) w fun t1 w_1 =>
 ev Tryz.prog (Instr.fieldAt 58 t1 0) w_1 fun t3 w_2 =>
 ldS Tryz.prog 56 t3 w_2 fun t4 w_3 =>
 ev Tryz.prog (binM .eql 56 (.tmp 4) (.const .nilIface) t4 .nilIface) w_3 fun t5 w_4 =>
 cndS t5 (
 K (.int .i64 (-1)) w_4) (
 ev Tryz.prog (Instr.fieldAt 58 t1 2) w_4 fun t6 w_5 =>
 ev Tryz.prog (Instr.fieldAt 24 t6 0) w_5 fun t7 w_6 =>
 ldS Tryz.prog 3 t7 w_6 fun t8 w_7 =>
 K t8 w_7)
theorem f31_call (x0 : Value) (K : K1) (w : World) (h : f31_t x0 K w) : callS Tryz.prog 31 #[x0] w K :=
  call_of_txt (args := [x0]) mixed Tryz.func31 .o (by kernel_rfl) (cast (by kernel_rfl) h)
def f32_t (x0 : Value) (K : K1) (w : World) : Prop :=
 ev Tryz.prog (Instr.box 58 x0) w fun t1 w_1 =>
 ev Tryz.prog (Instr.fieldAt 58 t1 0) w_1 fun t3 w_2 =>
 ldS Tryz.prog 56 t3 w_2 fun t4 w_3 =>
 ev Tryz.prog (binM .eql 56 (.tmp 4) (.const .nilIface) t4 .nilIface) w_3 fun t5 w_4 =>
 cndS t5 (
 K (.int .i64 (-1)) w_4) (
 ev Tryz.prog (Instr.fieldAt 58 t1 2) w_4 fun t6 w_5 =>
 ev Tryz.prog (Instr.fieldAt 24 t6 1) w_5 fun t7 w_6 =>
 ldS Tryz.prog 3 t7 w_6 fun t8 w_7 =>
 K t8 w_7)
theorem f32_call (x0 : Value) (K : K1) (w : World) (h : f32_t x0 K w) : callS Tryz.prog 32 #[x0] w K :=
  call_of_txt (args := [x0]) mixed Tryz.func32 .o (by kernel_rfl) (cast (by kernel_rfl) h)
def f33_t (x0 : Value) (K : K1) (w : World) : Prop :=
 ev Tryz.prog (Instr.box 67 x0) w fun t1 w_1 =>
 ev Tryz.prog (Instr.alloc 58 true (.tuple #[])) w_1 fun t2 w_2 =>
 callS Tryz.prog 23 (pA #[]) w_2 fun t13 w_3 =>
 ev Tryz.prog (Instr.extract t13 0) w_3 fun t14 w_4 =>
 ev Tryz.prog (Instr.extract t13 1) w_4 fun t15 w_5 =>
 ev Tryz.prog (binM .eql 48 (.tmp 16) (.const (.pointer none)) t15 (.pointer none)) w_5 fun t17 w_6 =>
 cndS t17 (
 ev Tryz.prog (Instr.build 58 #[]) w_6 fun t18 w_7 =>
 stS Tryz.prog 58 t2 t18 w_7 fun w_8 =>
 ldR Tryz.prog 58 t2 w_8 fun r =>
 K (.tuple #[r, (.pointer none), (.pointer none)]) w_8) (
 ldR Tryz.prog 67 t1 w_6.drew fun t20 =>
 ldR Tryz.prog 67 t1 w_6.drew fun t22 =>
 callS Tryz.prog 41 (pA #[t20]) w_6.drew fun t21 w_9 =>
 (ldG Tryz.prog 67 t1 w_9 t22) ∧
 callS Tryz.prog 34 (pA #[t22]) w_9 fun t23 w_10 =>
 rd Tryz.prog (Instr.field 24 t23 2) w_10 fun t24 =>
 callS Tryz.prog 13 (pA #[t21, t24]) w_10 fun t25 w_11 =>
 rd Tryz.prog (Instr.extract t25 0) w_11 fun t26 =>
 rd Tryz.prog (Instr.extract t25 1) w_11 fun t27 =>
 ldR Tryz.prog 67 t1 w_11.drew fun t29 =>
 ldR Tryz.prog 67 t1 w_11.drew fun t31 =>
 callS Tryz.prog 41 (pA #[t29]) w_11.drew fun t30 w_12 =>
 (ldG Tryz.prog 67 t1 w_12 t31) ∧
 callS Tryz.prog 34 (pA #[t31]) w_12 fun t32 w_13 =>
 callS Tryz.prog 14 (pA #[t30, t32]) w_13 fun t33 w_14 =>
 rd Tryz.prog (Instr.extract t33 0) w_14 fun t34 =>
 rd Tryz.prog (Instr.extract t33 1) w_14 fun t35 =>
 ev Tryz.prog (binM .neq 28 (.tmp 36) (.const (.int .i64 0)) t27 (.int .i64 0)) w_14 fun t37 w_15 =>
 gd t37 false (fun k => k t35 w_15) w_15 fun t39 w_16 =>
 gd t37 false (fun k => ev Tryz.prog (binM .neq 28 (.tmp 39) (.const (.int .i64 0)) t39 (.int .i64 0)) w_16 k) w_16 fun t40 w_17 =>
 pickS t37 (.bool true) t40 w_17 fun t41 w_18 =>
 gd t41 false (fun k => k t26 w_18) w_18 fun t43 w_19 =>
 gd t41 false (fun k => k t15 w_19) w_19 fun t44 w_20 =>
 gd t41 false (fun k => ev Tryz.prog (Instr.makeInterface 48 t44) w_20 k) w_20 fun t45 w_21 =>
 gd t41 false (fun k => callS Tryz.prog 62 (pA #[t43, t45]) w_21 k) w_21 fun t46 w_22 =>
 gd t41 false (fun k => ev Tryz.prog (binM .neq 28 (.tmp 46) (.const (.int .i64 0)) t46 (.int .i64 0)) w_22 k) w_22 fun t47 w_23 =>
 pickS t41 (.bool true) t47 w_23 fun t48 w_24 =>
 gd t48 false (fun k => k t34 w_24) w_24 fun t50 w_25 =>
 gd t48 false (fun k => k t15 w_25) w_25 fun t51 w_26 =>
 gd t48 false (fun k => ev Tryz.prog (Instr.makeInterface 48 t51) w_26 k) w_26 fun t52 w_27 =>
 gd t48 false (fun k => callS Tryz.prog 62 (pA #[t50, t52]) w_27 k) w_27 fun t53 w_28 =>
 gd t48 false (fun k => ev Tryz.prog (binM .neq 28 (.tmp 53) (.const (.int .i64 0)) t53 (.int .i64 0)) w_28 k) w_28 fun t54 w_29 =>
 pickS t48 (.bool true) t54 w_29 fun t55 w_30 =>
 cndS t55 (
 ev Tryz.prog (Instr.build 58 #[]) w_30 fun t56 w_31 =>
 stS Tryz.prog 58 t2 t56 w_31 fun w_32 =>
 ldR Tryz.prog 58 t2 w_32 fun r_1 =>
 K (.tuple #[r_1, (.pointer none), (.pointer none)]) w_32) (
 ev Tryz.prog (Instr.makeInterface 48 t15) w_30 fun t59 w_33 =>
 ldS Tryz.prog 67 t1 w_33 fun t60 w_34 =>
 callS Tryz.prog 41 (pA #[t60]) w_34 fun t61 w_35 =>
 callS Tryz.prog 27 (pA #[t59, t61]) w_35 fun t62 w_36 =>
 ev Tryz.prog (Instr.extract t62 0) w_36 fun t63 w_37 =>
 ev Tryz.prog (Instr.extract t62 1) w_37 fun t64 w_38 =>
 ev Tryz.prog (Instr.alloc 58 true (.tuple #[])) w_38 fun t11 w_39 =>
 stS Tryz.prog 58 t11 t63 w_39 fun w_40 =>
 ev Tryz.prog (binM .neq 28 (.tmp 65) (.const (.int .i64 0)) t64 (.int .i64 0)) w_40 fun t66 w_41 =>
 cndS t66 (
 ldS Tryz.prog 58 t11 w_41 fun t67 w_42 =>
 stS Tryz.prog 58 t2 t67 w_42 fun w_43 =>
 ldR Tryz.prog 58 t2 w_43 fun r_2 =>
 K (.tuple #[r_2, (.pointer none), (.pointer none)]) w_43) (
 ldS Tryz.prog 58 t11 w_41 fun t68 w_44 =>
 stS Tryz.prog 58 t2 t68 w_44 fun w_45 =>
 ldR Tryz.prog 58 t2 w_45 fun r_3 =>
 K (.tuple #[r_3, t14, t15]) w_45)))
theorem f33_call (x0 : Value) (K : K1) (w : World) (h : f33_t x0 K w) : callS Tryz.prog 33 #[x0] w K :=
  call_of_txt (args := [x0]) mixed Tryz.func33 .o (by kernel_rfl) (cast (by kernel_rfl) h)
noncomputable def f37_u : Code × Dec := ((Tryz.f37.body).getD .skip, (.s .o (.s .o (.x 30 (.s .o (.b (.l [23] 6291486 17171483392 .o))) .o))))
abbrev f37_e (K : K1) : KF := endK Tryz.prog Tryz.f37.results.toList K
def f37_k1_o (K : K1) : KF := fun fr w => ∀ σ, cP (pr (pr (pr f37_u))) (f37_e K) (f37_e K) nX (mixF 30 σ 0 fr) w
def f37_k1 (K : K1) (x1 x2 x3 x4 : Value) (w : World) : Prop := f37_k1_o K (fz 66 0 [(1, x1), (2, x2), (3, x3), (4, x4)]) w
def f37_l1 (K : K1) (x1 x2 x3 x4 x21 x22 x23 : Value) (w : World) : Prop := loopT [23] 6291486 (fun E => cP (pl (pl (pr (pl (pr (pr f37_u)))))) E (f37_e K) (exB 0 (f37_k1_o K) nX)) (fz 66 0 [(1, x1), (2, x2), (3, x3), (4, x4), (21, x21), (22, x22), (23, x23)]) w
def f37_k1_t (x1 x2 x3 x4 : Value) (K : K1) (w : World) : Prop :=
 ldS Tryz.prog 58 x4 w fun t34 w_1 =>
 ev Tryz.prog (Instr.buildSlice 173 2 #[(0, x1), (1, x3)]) w_1 fun t37 w_2 =>
 callS Tryz.prog 86 (pA #[t34, t37]) w_2 fun t38 w_3 =>
 ev Tryz.prog (Op.unary .not t38) w_3 fun t39 w_4 =>
 cndS t39 (
 K (.tuple #[(.slice none 0 0), (.int .i64 1)]) w_4) (
 ev Tryz.prog (Instr.fieldAt 58 x4 0) w_4 fun t40 w_5 =>
 ldS Tryz.prog 56 t40 w_5 fun t41 w_6 =>
 ev Tryz.prog (binM .eql 56 (.tmp 41) (.const .nilIface) t41 .nilIface) w_6 fun t42 w_7 =>
 cndS t42 (
 K (.tuple #[(.slice none 0 0), (.int .i64 0)]) w_7) (
 ev Tryz.prog (Instr.fieldAt 58 x4 0) w_7 fun t43 w_8 =>
 ldS Tryz.prog 56 t43 w_8 fun t44 w_9 =>
 invS Tryz.prog t44 "Err" (pA #[]) w_9 fun t45 w_10 =>
 ev Tryz.prog (binM .neq 28 (.tmp 46) (.const (.int .i64 0)) t45 (.int .i64 0)) w_10 fun t47 w_11 =>
 cndS t47 (
 K (.tuple #[(.slice none 0 0), t45]) w_11) (
 ldS Tryz.prog 58 x4 w_11 fun t50 w_12 =>
 callS Tryz.prog 87 (pA #[t50, x1, x2, x3]) w_12 fun t54 w_13 =>
 ev Tryz.prog (Instr.extract t54 0) w_13 fun t55 w_14 =>
 ev Tryz.prog (Instr.extract t54 1) w_14 fun t56 w_15 =>
 ev Tryz.prog (Instr.fieldAt 58 x4 0) w_15 fun t57 w_16 =>
 ldS Tryz.prog 56 t57 w_16 fun t58 w_17 =>
 invS Tryz.prog t58 "Err" (pA #[]) w_17 fun t59 w_18 =>
 ev Tryz.prog (binM .neq 28 (.tmp 60) (.const (.int .i64 0)) t59 (.int .i64 0)) w_18 fun t61 w_19 =>
 cndS t61 (
 K (.tuple #[(.slice none 0 0), t59]) w_19) (
 ev Tryz.prog (Op.unary .not t56) w_19 fun t64 w_20 =>
 cndS t64 (
 K (.tuple #[(.slice none 0 0), (.int .i64 8)]) w_20) (
 K (.tuple #[t55, (.int .i64 0)]) w_20)))))
theorem f37_k1_eq (K : K1) (x1 x2 x3 x4 : Value) (w : World) : f37_k1 K x1 x2 x3 x4 w = f37_k1_t x1 x2 x3 x4 K w := cutE fun σ => by kernel_rfl
def f37_l1_t (x1 x2 x3 x4 x21 x22 x23 : Value) (K : K1) (E1 : VP1) (w : World) : Prop :=
 ev Tryz.prog (binM .lss 3 (.tmp 23) (.tmp 22) x23 x22) w fun t24 w_1 =>
 cndS t24 (
 ev Tryz.prog (Instr.indexAt 75 x21 x23) w_1 fun t25 w_2 =>
 ldS Tryz.prog 5 t25 w_2 fun t26 w_3 =>
 ev Tryz.prog (binM .eql 5 (.tmp 27) (.const (.int .u8 ((0 : Nat) : Int))) t26 (.int .u8 ((0 : Nat) : Int))) w_3 fun t28 w_4 =>
 gd t28 false (fun k => k t26 w_4) w_4 fun t30 w_5 =>
 gd t28 false (fun k => ev Tryz.prog (binM .gtr 5 (.tmp 30) (.const (.int .u8 ((127 : Nat) : Int))) t30 (.int .u8 ((127 : Nat) : Int))) w_5 k) w_5 fun t31 w_6 =>
 pickS t28 (.bool true) t31 w_6 fun t32 w_7 =>
 cndS t32 (
 K (.tuple #[(.slice none 0 0), (.int .i64 1)]) w_7) (
 ev Tryz.prog (binM .add 3 (.tmp 23) (.const (.int .i64 1)) x23 (.int .i64 1)) w_7 fun t33 w_8 =>
 E1 t33 w_8)) (
 f37_k1 K x1 x2 x3 x4 w_1)
theorem f37_l1_rule (x1 x2 x3 x4 x21 x22 x23 : Value) (K : K1) (w : World) (I : VP1) (μ : Value → World → Nat) (h0 : I x23 w)
    (hr : ∀ (x23 : Value) (w : World), I x23 w → ∀ E1 : VP1, (∀ (y23 : Value) (w' : World), I y23 w' → μ y23 w' < μ x23 w → E1 y23 w') → f37_l1_t x1 x2 x3 x4 x21 x22 x23 K E1 w) : f37_l1 K x1 x2 x3 x4 x21 x22 x23 w :=
  ⟨I, μ, h0, fun σ w hI E hE => cast (by kernel_rfl) (hr (σ 23) w hI E hE)⟩
def f37_t (x0 x1 x2 x3 : Value) (K : K1) (w : World) : Prop :=
 ev Tryz.prog (Instr.box 58 x0) w fun t4 w_1 =>
 bltS Tryz.prog .len #[75] 3 #[false] #[x2] w_1 fun t17 w_2 =>
 bltS Tryz.prog .len #[74] 3 #[false] #[x1] w_2 fun t19 w_3 =>
 ev Tryz.prog (binM .neq 3 (.tmp 17) (.tmp 19) t17 t19) w_3 fun t20 w_4 =>
 cndS t20 (
 K (.tuple #[(.slice none 0 0), (.int .i64 1)]) w_4) (
 bltS Tryz.prog .len #[75] 3 #[false] #[x2] w_4 fun t22 w_5 =>
 f37_l1 K x1 x2 x3 t4 x2 t22 (.int .i64 0) w_5)
theorem f37_call (x0 x1 x2 x3 : Value) (K : K1) (w : World) (h : f37_t x0 x1 x2 x3 K w) : callS Tryz.prog 37 #[x0, x1, x2, x3] w K :=
  call_of_txt (args := [x0, x1, x2, x3]) mixed Tryz.func37 f37_u.2 (by kernel_rfl) (cast (by kernel_rfl) h)
noncomputable def f43_u : Code × Dec := ((Tryz.f43.body).getD .skip, (.s .o (.s .o (.s .o (.x 16 (.s .o (.b (.l [4, 14] 8194 17592186028540 .o))) .o)))))
abbrev f43_e (K : K1) : KF := endK Tryz.prog Tryz.f43.results.toList K
def f43_k1_o (K : K1) : KF := fun fr w => ∀ σ, cP (pr (pr (pr (pr f43_u)))) (f43_e K) (f43_e K) nX (mixF 16 σ 0 fr) w
def f43_k1 (K : K1) (x4 : Value) (w : World) : Prop := f43_k1_o K (fz 45 0 [(4, x4)]) w
def f43_l1 (K : K1) (x1 x4 x13 x14 : Value) (w : World) : Prop := loopT [4, 14] 8194 (fun E => cP (pl (pl (pr (pl (pr (pr (pr f43_u))))))) E (f43_e K) (exB 0 (f43_k1_o K) nX)) (fz 45 0 [(1, x1), (4, x4), (13, x13), (14, x14)]) w
def f43_k1_t (x4 : Value) (K : K1) (w : World) : Prop :=
 K (.tuple #[x4, (.bool true)]) w
theorem f43_k1_eq (K : K1) (x4 : Value) (w : World) : f43_k1 K x4 w = f43_k1_t x4 K w := cutE fun σ => by kernel_rfl
def f43_l1_t (x1 x4 x13 x14 : Value) (K : K1) (E1 : VP2) (w : World) : Prop :=
 ev Tryz.prog (binM .lss 3 (.tmp 14) (.tmp 13) x14 x13) w fun t15 w_1 =>
 cndS t15 (
 ldS Tryz.prog 58 x1 w_1 fun t18 w_2 =>
 callS Tryz.prog 89 (pA #[t18, x14]) w_2 fun t20 w_3 =>
 ev Tryz.prog (Instr.extract t20 0) w_3 fun t21 w_4 =>
 ev Tryz.prog (Instr.extract t20 1) w_4 fun t22 w_5 =>
 ev Tryz.prog (Instr.extract t20 2) w_5 fun t23 w_6 =>
 ev Tryz.prog (Instr.alloc 129 true (.tuple #[])) w_6 fun t6 w_7 =>
 stS Tryz.prog 129 t6 t21 w_7 fun w_8 =>
 ev Tryz.prog (Op.unary .not t22) w_8 fun t25 w_9 =>
 gd t25 false (fun k => k t23 w_9) w_9 fun t27 w_10 =>
 pickS t25 (.bool true) t27 w_10 fun t28 w_11 =>
 gd t28 false (fun k => ev Tryz.prog (Instr.fieldAt 129 t6 2) w_11 k) w_11 fun t30 w_12 =>
 gd t28 false (fun k => ldS Tryz.prog 5 t30 w_12 k) w_12 fun t31 w_13 =>
 gd t28 false (fun k => ev Tryz.prog (binM .neq 5 (.tmp 31) (.const (.int .u8 ((176 : Nat) : Int))) t31 (.int .u8 ((176 : Nat) : Int))) w_13 k) w_13 fun t32 w_14 =>
 pickS t28 (.bool true) t32 w_14 fun t33 w_15 =>
 gd t33 false (fun k => ev Tryz.prog (Instr.fieldAt 129 t6 0) w_15 k) w_15 fun t35 w_16 =>
 gd t33 false (fun k => ldS Tryz.prog 22 t35 w_16 k) w_16 fun t36 w_17 =>
 gd t33 false (fun k => ev Tryz.prog (binM .eql 22 (.tmp 36) (.const (.int .u16 ((0 : Nat) : Int))) t36 (.int .u16 ((0 : Nat) : Int))) w_17 k) w_17 fun t37 w_18 =>
 pickS t33 (.bool true) t37 w_18 fun t38 w_19 =>
 cndS t38 (
 K (.tuple #[(.int .u16 ((0 : Nat) : Int)), (.bool false)]) w_19) (
 ev Tryz.prog (Instr.fieldAt 129 t6 0) w_19 fun t40 w_20 =>
 ldS Tryz.prog 22 t40 w_20 fun t41 w_21 =>
 bltS Tryz.prog .max #[22, 22] 22 #[false, false] #[x4, t41] w_21 fun t42 w_22 =>
 ev Tryz.prog (binM .add 3 (.tmp 14) (.const (.int .i64 1)) x14 (.int .i64 1)) w_22 fun t43 w_23 =>
 E1 t42 t43 w_23)) (
 f43_k1 K x4 w_1)
theorem f43_l1_rule (x1 x4 x13 x14 : Value) (K : K1) (w : World) (I : VP2) (μ : Value → Value → World → Nat) (h0 : I x4 x14 w)
    (hr : ∀ (x4 x14 : Value) (w : World), I x4 x14 w → ∀ E1 : VP2, (∀ (y4 y14 : Value) (w' : World), I y4 y14 w' → μ y4 y14 w' < μ x4 x14 w → E1 y4 y14 w') → f43_l1_t x1 x4 x13 x14 K E1 w) : f43_l1 K x1 x4 x13 x14 w :=
  ⟨I, μ, h0, fun σ w hI E hE => cast (by kernel_rfl) (hr (σ 4) (σ 14) w hI E hE)⟩
def f43_t (x0 : Value) (K : K1) (w : World) : Prop :=
 ev Tryz.prog (Instr.box 58 x0) w fun t1 w_1 =>
 ev Tryz.prog (Instr.fieldAt 58 t1 0) w_1 fun t9 w_2 =>
 ldS Tryz.prog 56 t9 w_2 fun t10 w_3 =>
 ev Tryz.prog (binM .eql 56 (.tmp 10) (.const .nilIface) t10 .nilIface) w_3 fun t11 w_4 =>
 cndS t11 (
 K (.tuple #[(.int .u16 ((0 : Nat) : Int)), (.bool false)]) w_4) (
 ldS Tryz.prog 58 t1 w_4 fun t12 w_5 =>
 callS Tryz.prog 88 (pA #[t12]) w_5 fun t13 w_6 =>
 f43_l1 K t1 (.int .u16 ((0 : Nat) : Int)) t13 (.int .i64 0) w_6)
theorem f43_call (x0 : Value) (K : K1) (w : World) (h : f43_t x0 K w) : callS Tryz.prog 43 #[x0] w K :=
  call_of_txt (args := [x0]) mixed Tryz.func43 f43_u.2 (by kernel_rfl) (cast (by kernel_rfl) h)
noncomputable def f45_u : Code × Dec := ((Tryz.f45.body).getD .skip, (.s .o (.s .o (.x 8 (.s .o (.b (.l [3, 7] 66 65432 (.s .o (.s .o (.x 202 .o .o)))))) .o))))
abbrev f45_e (K : K1) : KF := endK Tryz.prog Tryz.f45.results.toList K
def f45_k1_o (K : K1) : KF := fun fr w => ∀ σ, cP (pr (pr (pr f45_u))) (f45_e K) (f45_e K) nX (mixF 8 σ 0 fr) w
def f45_k1 (K : K1) (x3 : Value) (w : World) : Prop := f45_k1_o K (fz 17 0 [(3, x3)]) w
def f45_l1 (K : K1) (x1 x3 x6 x7 : Value) (w : World) : Prop := loopT [3, 7] 66 (fun E => cP (pl (pl (pr (pl (pr (pr f45_u)))))) E (f45_e K) (exB 0 (f45_k1_o K) nX)) (fz 17 0 [(1, x1), (3, x3), (6, x6), (7, x7)]) w
def f45_k2_o (K : K1) (E1 : VP2) : KF := fun fr w => ∀ σ, cP (pr (pr (pr (pl (pl (pr (pl (pr (pr f45_u))))))))) (fun fr w => E1 (sv fr 3) (sv fr 7) w) (f45_e K) (exB 0 (f45_k1_o K) nX) (mixF 202 σ 0 fr) w
def f45_k2 (K : K1) (E1 : VP2) (x1 x3 x6 x7 : Value) (w : World) : Prop := f45_k2_o K E1 (fz 17 0 [(1, x1), (3, x3), (6, x6), (7, x7)]) w
def f45_k1_t (x3 : Value) (K : K1) (w : World) : Prop :=
 K x3 w
theorem f45_k1_eq (K : K1) (x3 : Value) (w : World) : f45_k1 K x3 w = f45_k1_t x3 K w := cutE fun σ => by kernel_rfl
def f45_l1_t (x1 x3 x6 x7 : Value) (K : K1) (E1 : VP2) (w : World) : Prop :=
 ev Tryz.prog (binM .lss 3 (.tmp 7) (.tmp 6) x7 x6) w fun t8 w_1 =>
 cndS t8 (
 ldS Tryz.prog 58 x1 w_1 fun t10 w_2 =>
 callS Tryz.prog 47 (pA #[t10, x7]) w_2 fun t12 w_3 =>
 cndS t12 (
 ev Tryz.prog (binM .add 3 (.tmp 13) (.const (.int .i64 1)) x3 (.int .i64 1)) w_3 fun t14 w_4 =>
 f45_k2 K E1 x1 t14 x6 x7 w_4) (
 f45_k2 K E1 x1 x3 x6 x7 w_3)) (
 f45_k1 K x3 w_1)
theorem f45_l1_rule (x1 x3 x6 x7 : Value) (K : K1) (w : World) (I : VP2) (μ : Value → Value → World → Nat) (h0 : I x3 x7 w)
    (hr : ∀ (x3 x7 : Value) (w : World), I x3 x7 w → ∀ E1 : VP2, (∀ (y3 y7 : Value) (w' : World), I y3 y7 w' → μ y3 y7 w' < μ x3 x7 w → E1 y3 y7 w') → f45_l1_t x1 x3 x6 x7 K E1 w) : f45_l1 K x1 x3 x6 x7 w :=
  ⟨I, μ, h0, fun σ w hI E hE => cast (by kernel_rfl) (hr (σ 3) (σ 7) w hI E hE)⟩
def f45_k2_t (x1 x3 x6 x7 : Value) (K : K1) (E1 : VP2) (w : World) : Prop :=
 ev Tryz.prog (binM .add 3 (.tmp 7) (.const (.int .i64 1)) x7 (.int .i64 1)) w fun t15 w_1 =>
 E1 x3 t15 w_1
theorem f45_k2_eq (K : K1) (E1 : VP2) (x1 x3 x6 x7 : Value) (w : World) : f45_k2 K E1 x1 x3 x6 x7 w = f45_k2_t x1 x3 x6 x7 K E1 w := cutE fun σ => by kernel_rfl
def f45_t (x0 : Value) (K : K1) (w : World) : Prop :=
 ev Tryz.prog (Instr.box 58 x0) w fun t1 w_1 =>
 ldS Tryz.prog 58 t1 w_1 fun t5 w_2 =>
 callS Tryz.prog 88 (pA #[t5]) w_2 fun t6 w_3 =>
 f45_l1 K t1 (.int .i64 0) t6 (.int .i64 0) w_3
theorem f45_call (x0 : Value) (K : K1) (w : World) (h : f45_t x0 K w) : callS Tryz.prog 45 #[x0] w K :=
  call_of_txt (args := [x0]) mixed Tryz.func45 f45_u.2 (by kernel_rfl) (cast (by kernel_rfl) h)
def f47_t (x0 x1 : Value) (K : K1) (w : World) : Prop :=
 ev Tryz.prog (Instr.box 58 x0) w fun t2 w_1 =>
 ldS Tryz.prog 58 t2 w_1 fun t5 w_2 =>
 callS Tryz.prog 90 (pA #[t5, x1, (.int .u8 ((177 : Nat) : Int))]) w_2 fun t7 w_3 =>
 K t7 w_3
theorem f47_call (x0 x1 : Value) (K : K1) (w : World) (h : f47_t x0 x1 K w) : callS Tryz.prog 47 #[x0, x1] w K :=
  call_of_txt (args := [x0, x1]) mixed Tryz.func47 .o (by kernel_rfl) (cast (by kernel_rfl) h)
def f49_t (x0 x1 : Value) (K : K1) (w : World) : Prop :=
 ev Tryz.prog (Instr.box 58 x0) w fun t2 w_1 =>
 ldS Tryz.prog 58 t2 w_1 fun t5 w_2 =>
 callS Tryz.prog 90 (pA #[t5, x1, (.int .u8 ((178 : Nat) : Int))]) w_2 fun t7 w_3 =>
 K t7 w_3
theorem f49_call (x0 x1 : Value) (K : K1) (w : World) (h : f49_t x0 x1 K w) : callS Tryz.prog 49 #[x0, x1] w K :=
  call_of_txt (args := [x0, x1]) mixed Tryz.func49 .o (by kernel_rfl) (cast (by kernel_rfl) h)
noncomputable def f50_u : Code × Dec := ((Tryz.f50.body).getD .skip, (.s .o (.x 6 .o (.s .o (.s .o (.x 0 (.s .o (.b (.l [6] 36 536805456 .o))) .o))))))
abbrev f50_e (K : K1) : KF := endK Tryz.prog Tryz.f50.results.toList K
def f50_k1_o (K : K1) : KF := fun fr w => ∀ σ, cP (pr (pr f50_u)) (f50_e K) (f50_e K) nX (mixF 6 σ 0 fr) w
def f50_k1 (K : K1) (x1 x2 : Value) (w : World) : Prop := f50_k1_o K (fz 29 0 [(1, x1), (2, x2)]) w
def f50_k2_o (K : K1) : KF := fun fr w => ∀ σ, cP (pr (pr (pr (pr (pr f50_u))))) (f50_e K) (f50_e K) nX (mixF 0 σ 0 fr) w
def f50_k2 (K : K1) (w : World) : Prop := f50_k2_o K (fz 29 0 []) w
def f50_l1 (K : K1) (x2 x5 x6 : Value) (w : World) : Prop := loopT [6] 36 (fun E => cP (pl (pl (pr (pl (pr (pr (pr (pr f50_u)))))))) E (f50_e K) (exB 0 (f50_k2_o K) nX)) (fz 29 0 [(2, x2), (5, x5), (6, x6)]) w
def f50_k1_t (x1 x2 : Value) (K : K1) (w : World) : Prop :=
 ldS Tryz.prog 58 x2 w fun t9 w_1 =>
 callS Tryz.prog 91 (pA #[t9, x1]) w_1 fun t11 w_2 =>
 ev Tryz.prog (Op.unary .not t11) w_2 fun t12 w_3 =>
 cndS t12 (
 K (.int .i64 (-1)) w_3) (
 ldS Tryz.prog 58 x2 w_3 fun t13 w_4 =>
 callS Tryz.prog 92 (pA #[t13]) w_4 fun t14 w_5 =>
 f50_l1 K x2 t14 x1 w_5)
theorem f50_k1_eq (K : K1) (x1 x2 : Value) (w : World) : f50_k1 K x1 x2 w = f50_k1_t x1 x2 K w := cutE fun σ => by kernel_rfl
def f50_k2_t (K : K1) (w : World) : Prop :=
 K (.int .i64 (-1)) w
theorem f50_k2_eq (K : K1) (w : World) : f50_k2 K w = f50_k2_t K w := cutE fun σ => by kernel_rfl
def f50_l1_t (x2 x5 x6 : Value) (K : K1) (E1 : VP1) (w : World) : Prop :=
 ldS Tryz.prog 58 x2 w fun t17 w_1 =>
 callS Tryz.prog 88 (pA #[t17]) w_1 fun t18 w_2 =>
 ev Tryz.prog (binM .lss 3 (.tmp 16) (.tmp 18) x6 t18) w_2 fun t19 w_3 =>
 cndS t19 (
 ev Tryz.prog (convert 3 100 x6) w_3 fun t24 w_4 =>
 ev Tryz.prog (binM .shr 33 (.tmp 22) (.tmp 24) x5 t24) w_4 fun t25 w_5 =>
 ev Tryz.prog (binM .and 33 (.tmp 25) (.const (.int .u64 ((1 : Nat) : Int))) t25 (.int .u64 ((1 : Nat) : Int))) w_5 fun t26 w_6 =>
 ev Tryz.prog (binM .eql 33 (.tmp 26) (.const (.int .u64 ((0 : Nat) : Int))) t26 (.int .u64 ((0 : Nat) : Int))) w_6 fun t27 w_7 =>
 cndS t27 (
 K x6 w_7) (
 ev Tryz.prog (binM .add 3 (.tmp 20) (.const (.int .i64 1)) x6 (.int .i64 1)) w_7 fun t21 w_8 =>
 E1 t21 w_8)) (
 f50_k2 K w_3)
theorem f50_l1_rule (x2 x5 x6 : Value) (K : K1) (w : World) (I : VP1) (μ : Value → World → Nat) (h0 : I x6 w)
    (hr : ∀ (x6 : Value) (w : World), I x6 w → ∀ E1 : VP1, (∀ (y6 : Value) (w' : World), I y6 w' → μ y6 w' < μ x6 w → E1 y6 w') → f50_l1_t x2 x5 x6 K E1 w) : f50_l1 K x2 x5 x6 w :=
  ⟨I, μ, h0, fun σ w hI E hE => cast (by kernel_rfl) (hr (σ 6) w hI E hE)⟩
def f50_t (x0 x1 : Value) (K : K1) (w : World) : Prop :=
 ev Tryz.prog (Instr.box 58 x0) w fun t2 w_1 =>
 ev Tryz.prog (binM .lss 3 (.tmp 7) (.const (.int .i64 0)) x1 (.int .i64 0)) w_1 fun t8 w_2 =>
 cndS t8 (
 f50_k1 K (.int .i64 0) t2 w_2) (
 f50_k1 K x1 t2 w_2)
theorem f50_call (x0 x1 : Value) (K : K1) (w : World) (h : f50_t x0 x1 K w) : callS Tryz.prog 50 #[x0, x1] w K :=
  call_of_txt (args := [x0, x1]) mixed Tryz.func50 f50_u.2 (by kernel_rfl) (cast (by kernel_rfl) h)
def f51_t (x0 : Value) (K : K1) (w : World) : Prop :=
 ev Tryz.prog (Instr.box 58 x0) w fun t1 w_1 =>
 ev Tryz.prog (Instr.fieldAt 58 t1 0) w_1 fun t6 w_2 =>
 ldS Tryz.prog 56 t6 w_2 fun t7 w_3 =>
 ev Tryz.prog (binM .eql 56 (.tmp 7) (.const .nilIface) t7 .nilIface) w_3 fun t8 w_4 =>
 cndS t8 (
 K (.int .i64 11) w_4) (
 ev Tryz.prog (Instr.fieldAt 58 t1 0) w_4 fun t9 w_5 =>
 ldS Tryz.prog 56 t9 w_5 fun t10 w_6 =>
 invS Tryz.prog t10 "Err" (pA #[]) w_6 fun t11 w_7 =>
 ev Tryz.prog (binM .neq 28 (.tmp 12) (.const (.int .i64 0)) t11 (.int .i64 0)) w_7 fun t13 w_8 =>
 cndS t13 (
 K t11 w_8) (
 ldS Tryz.prog 58 t1 w_8 fun t15 w_9 =>
 callS Tryz.prog 93 (pA #[t15]) w_9 fun t16 w_10 =>
 ev Tryz.prog (Instr.fieldAt 58 t1 0) w_10 fun t17 w_11 =>
 ldS Tryz.prog 56 t17 w_11 fun t18 w_12 =>
 invS Tryz.prog t18 "Err" (pA #[]) w_12 fun t19 w_13 =>
 ev Tryz.prog (binM .neq 28 (.tmp 20) (.const (.int .i64 0)) t19 (.int .i64 0)) w_13 fun t21 w_14 =>
 cndS t21 (
 K t19 w_14) (
 ev Tryz.prog (Op.unary .not t16) w_14 fun t24 w_15 =>
 cndS t24 (
 K (.int .i64 11) w_15) (
 K (.int .i64 0) w_15))))
theorem f51_call (x0 : Value) (K : K1) (w : World) (h : f51_t x0 K w) : callS Tryz.prog 51 #[x0] w K :=
  call_of_txt (args := [x0]) mixed Tryz.func51 .o (by kernel_rfl) (cast (by kernel_rfl) h)
noncomputable def f55_u : Code × Dec := ((Tryz.f55.body).getD .skip, (.s .o (.s .o (.s .o (.s .o (.s .o (.s .o (.x 526 .o .o))))))))
abbrev f55_e (K : K1) : KF := endK Tryz.prog Tryz.f55.results.toList K
def f55_k1_o (K : K1) : KF := fun fr w => ∀ σ, cP (pr (pr (pr (pr (pr (pr (pr f55_u))))))) (f55_e K) (f55_e K) nX (mixF 526 σ 0 fr) w
def f55_k1 (K : K1) (x1 x2 x3 x9 : Value) (w : World) : Prop := f55_k1_o K (fz 74 0 [(1, x1), (2, x2), (3, x3), (9, x9)]) w
def f55_k1_t (x1 x2 x3 x9 : Value) (K : K1) (w : World) : Prop :=
 ldR Tryz.prog 58 x3 w.drew fun t64 =>
 rd Tryz.prog (Instr.fieldAt 129 x9 0) w.drew fun t68 =>
 ldR Tryz.prog 22 t68 w.drew fun t69 =>
 callS Tryz.prog 96 (pA #[t64, x1]) w.drew fun t66 w_1 =>
 (ag Tryz.prog (Instr.fieldAt 129 x9 0) w_1 t68) ∧
 (ldG Tryz.prog 22 t68 w_1 t69) ∧
 rd Tryz.prog (binM .add 33 (.tmp 66) (.const (.int .u64 ((8 : Nat) : Int))) t66 (.int .u64 ((8 : Nat) : Int))) w_1 fun t67 =>
 callS Tryz.prog 57 (pA #[t67, t69, x2]) w_1 fun t71 w_2 =>
 rd Tryz.prog (Instr.extract t71 0) w_2 fun t72 =>
 rd Tryz.prog (Instr.extract t71 1) w_2 fun t73 =>
 K (.tuple #[t72, t73]) w_2
theorem f55_k1_eq (K : K1) (x1 x2 x3 x9 : Value) (w : World) : f55_k1 K x1 x2 x3 x9 w = f55_k1_t x1 x2 x3 x9 K w := cutE fun σ => by kernel_rfl
def f55_t (x0 x1 x2 : Value) (K : K1) (w : World) : Prop :=
 ev Tryz.prog (Instr.box 58 x0) w fun t3 w_1 =>
 ldS Tryz.prog 58 t3 w_1 fun t13 w_2 =>
 callS Tryz.prog 91 (pA #[t13, x1]) w_2 fun t15 w_3 =>
 ev Tryz.prog (Op.unary .not t15) w_3 fun t16 w_4 =>
 cndS t16 (
 K (.tuple #[(.int .u64 ((0 : Nat) : Int)), (.int .i64 2)]) w_4) (
 ev Tryz.prog (Instr.fieldAt 58 t3 0) w_4 fun t17 w_5 =>
 ldS Tryz.prog 56 t17 w_5 fun t18 w_6 =>
 invS Tryz.prog t18 "Err" (pA #[]) w_6 fun t19 w_7 =>
 ev Tryz.prog (binM .neq 28 (.tmp 20) (.const (.int .i64 0)) t19 (.int .i64 0)) w_7 fun t21 w_8 =>
 cndS t21 (
 K (.tuple #[(.int .u64 ((0 : Nat) : Int)), t19]) w_8) (
 ldS Tryz.prog 58 t3 w_8 fun t24 w_9 =>
 callS Tryz.prog 89 (pA #[t24, x1]) w_9 fun t26 w_10 =>
 ev Tryz.prog (Instr.extract t26 0) w_10 fun t27 w_11 =>
 ev Tryz.prog (Instr.extract t26 1) w_11 fun t28 w_12 =>
 ev Tryz.prog (Instr.extract t26 2) w_12 fun t29 w_13 =>
 ev Tryz.prog (Instr.alloc 129 true (.tuple #[])) w_13 fun t9 w_14 =>
 stS Tryz.prog 129 t9 t27 w_14 fun w_15 =>
 ev Tryz.prog (Instr.fieldAt 58 t3 0) w_15 fun t30 w_16 =>
 ldS Tryz.prog 56 t30 w_16 fun t31 w_17 =>
 invS Tryz.prog t31 "Err" (pA #[]) w_17 fun t32 w_18 =>
 ev Tryz.prog (binM .neq 28 (.tmp 33) (.const (.int .i64 0)) t32 (.int .i64 0)) w_18 fun t34 w_19 =>
 cndS t34 (
 K (.tuple #[(.int .u64 ((0 : Nat) : Int)), t32]) w_19) (
 ev Tryz.prog (Op.unary .not t28) w_19 fun t37 w_20 =>
 gd t37 false (fun k => ldS Tryz.prog 129 t9 w_20 k) w_20 fun t39 w_21 =>
 gd t37 false (fun k => callS Tryz.prog 95 (pA #[t39]) w_21 k) w_21 fun t40 w_22 =>
 gd t37 false (fun k => ev Tryz.prog (Op.unary .not t40) w_22 k) w_22 fun t41 w_23 =>
 pickS t37 (.bool true) t41 w_23 fun t42 w_24 =>
 gd t42 false (fun k => k t29 w_24) w_24 fun t44 w_25 =>
 gd t42 false (fun k => ev Tryz.prog (Instr.fieldAt 129 t9 2) w_25 k) w_25 fun t45 w_26 =>
 gd t42 false (fun k => ldS Tryz.prog 5 t45 w_26 k) w_26 fun t46 w_27 =>
 gd t42 false (fun k => ev Tryz.prog (binM .neq 5 (.tmp 46) (.const (.int .u8 ((176 : Nat) : Int))) t46 (.int .u8 ((176 : Nat) : Int))) w_27 k) w_27 fun t47 w_28 =>
 gd t42 false (fun k => ev Tryz.prog (binM .neq 4 (.tmp 44) (.tmp 47) t44 t47) w_28 k) w_28 fun t48 w_29 =>
 pickS t42 (.bool true) t48 w_29 fun t49 w_30 =>
 cndS t49 (
 K (.tuple #[(.int .u64 ((0 : Nat) : Int)), (.int .i64 11)]) w_30) (
 ev Tryz.prog (Instr.fieldAt 129 t9 2) w_30 fun t50 w_31 =>
 ldS Tryz.prog 5 t50 w_31 fun t51 w_32 =>
 ev Tryz.prog (binM .eql 5 (.tmp 51) (.const (.int .u8 ((178 : Nat) : Int))) t51 (.int .u8 ((178 : Nat) : Int))) w_32 fun t59 w_33 =>
 cndS t59 (
 K (.tuple #[(.int .u64 ((0 : Nat) : Int)), (.int .i64 12)]) w_33) (
 ev Tryz.prog (binM .eql 5 (.tmp 51) (.const (.int .u8 ((177 : Nat) : Int))) t51 (.int .u8 ((177 : Nat) : Int))) w_33 fun t61 w_34 =>
 cndS t61 (
 ev Tryz.prog (Instr.fieldAt 129 t9 1) w_34 fun t62 w_35 =>
 ldS Tryz.prog 5 t62 w_35 fun t63 w_36 =>
 f55_k1 K x1 t63 t3 t9 w_36) (
 ev Tryz.prog (binM .eql 5 (.tmp 52) (.const (.int .u8 ((0 : Nat) : Int))) x2 (.int .u8 ((0 : Nat) : Int))) w_34 fun t53 w_37 =>
 gd t53 false (fun k => k x2 w_37) w_37 fun t55 w_38 =>
 gd t53 false (fun k => ev Tryz.prog (binM .gtr 5 (.tmp 55) (.const (.int .u8 ((127 : Nat) : Int))) t55 (.int .u8 ((127 : Nat) : Int))) w_38 k) w_38 fun t56 w_39 =>
 pickS t53 (.bool true) t56 w_39 fun t57 w_40 =>
 cndS t57 (
 K (.tuple #[(.int .u64 ((0 : Nat) : Int)), (.int .i64 1)]) w_40) (
 f55_k1 K x1 x2 t3 t9 w_40)))))))
theorem f55_call (x0 x1 x2 : Value) (K : K1) (w : World) (h : f55_t x0 x1 x2 K w) : callS Tryz.prog 55 #[x0, x1, x2] w K :=
  call_of_txt (args := [x0, x1, x2]) mixed Tryz.func55 f55_u.2 (by kernel_rfl) (cast (by kernel_rfl) h)
def f58_t (x0 x1 : Value) (K : K1) (w : World) : Prop :=
 ev Tryz.prog (Instr.box 58 x0) w fun t2 w_1 =>
 callS Tryz.prog 98 (pA #[x1]) w_1 fun t13 w_2 =>
 cndS t13 (
 K (.tuple #[(.int .i64 0), (.int .i64 1)]) w_2) (
 ldR Tryz.prog 58 t2 w_2.drew fun t15 =>
 callS Tryz.prog 59 (pA #[x1]) w_2.drew fun t17 w_3 =>
 (ldG Tryz.prog 58 t2 w_3 t15) ∧
 callS Tryz.prog 99 (pA #[t15, t17]) w_3 fun t18 w_4 =>
 rd Tryz.prog (Instr.extract t18 0) w_4 fun t19 =>
 rd Tryz.prog (Instr.extract t18 1) w_4 fun t20 =>
 ev Tryz.prog (Op.unary .not t20) w_4 fun t22 w_5 =>
 gd t22 false (fun k => k x1 w_5) w_5 fun t24 w_6 =>
 gd t22 false (fun k => ev Tryz.prog (binM .shr 103 (.tmp 24) (.const (.int .u64 ((56 : Nat) : Int))) t24 (.int .u64 ((56 : Nat) : Int))) w_6 k) w_6 fun t25 w_7 =>
 gd t22 false (fun k => ev Tryz.prog (binM .neq 103 (.tmp 25) (.const (.int .u64 ((0 : Nat) : Int))) t25 (.int .u64 ((0 : Nat) : Int))) w_7 k) w_7 fun t26 w_8 =>
 pickS t22 (.bool true) t26 w_8 fun t27 w_9 =>
 cndS t27 (
 K (.tuple #[(.int .i64 0), (.int .i64 2)]) w_9) (
 ev Tryz.prog (Instr.fieldAt 58 t2 0) w_9 fun t28 w_10 =>
 ldS Tryz.prog 56 t28 w_10 fun t29 w_11 =>
 invS Tryz.prog t29 "Err" (pA #[]) w_11 fun t30 w_12 =>
 ev Tryz.prog (binM .neq 28 (.tmp 31) (.const (.int .i64 0)) t30 (.int .i64 0)) w_12 fun t32 w_13 =>
 cndS t32 (
 K (.tuple #[(.int .i64 0), t30]) w_13) (
 ldS Tryz.prog 58 t2 w_13 fun t35 w_14 =>
 callS Tryz.prog 89 (pA #[t35, t19]) w_14 fun t37 w_15 =>
 ev Tryz.prog (Instr.extract t37 0) w_15 fun t38 w_16 =>
 ev Tryz.prog (Instr.extract t37 1) w_16 fun t39 w_17 =>
 ev Tryz.prog (Instr.extract t37 2) w_17 fun t40 w_18 =>
 ev Tryz.prog (Instr.alloc 129 true (.tuple #[])) w_18 fun t9 w_19 =>
 stS Tryz.prog 129 t9 t38 w_19 fun w_20 =>
 ev Tryz.prog (Instr.fieldAt 58 t2 0) w_20 fun t41 w_21 =>
 ldS Tryz.prog 56 t41 w_21 fun t42 w_22 =>
 invS Tryz.prog t42 "Err" (pA #[]) w_22 fun t43 w_23 =>
 ev Tryz.prog (binM .neq 28 (.tmp 44) (.const (.int .i64 0)) t43 (.int .i64 0)) w_23 fun t45 w_24 =>
 cndS t45 (
 K (.tuple #[(.int .i64 0), t43]) w_24) (
 rd Tryz.prog (Op.unary .not t39) w_24.drew fun t48 =>
 gdR t48 false (fun k => k t40) fun t50 =>
 gdR t48 false (fun k => rd Tryz.prog (Op.unary .not t50) w_24.drew k) fun t51 =>
 pickV t48 (.bool true) t51 fun t52 =>
 gdR t52 false (fun k => rd Tryz.prog (Instr.fieldAt 129 t9 2) w_24.drew k) fun t54 =>
 gdR t52 false (fun k => ldR Tryz.prog 5 t54 w_24.drew k) fun t55 =>
 gdR t52 false (fun k => rd Tryz.prog (binM .neq 5 (.tmp 55) (.const (.int .u8 ((177 : Nat) : Int))) t55 (.int .u8 ((177 : Nat) : Int))) w_24.drew k) fun t56 =>
 pickV t52 (.bool true) t56 fun t57 =>
 gdR t57 false (fun k => rd Tryz.prog (Instr.fieldAt 129 t9 0) w_24.drew k) fun t59 =>
 gdR t57 false (fun k => ldR Tryz.prog 22 t59 w_24.drew k) fun t60 =>
 gdR t57 false (fun k => k x1) fun t61 =>
 gd t57 false (fun k => callS Tryz.prog 60 (pA #[t61]) w_24.drew k) w_24.drew fun t62 w_25 =>
 (gq t57 false (ag Tryz.prog (Instr.fieldAt 129 t9 0) w_25 t59)) ∧
 (gq t57 false (ldG Tryz.prog 22 t59 w_25 t60)) ∧
 gdR t57 false (fun k => rd Tryz.prog (binM .neq 22 (.tmp 60) (.tmp 62) t60 t62) w_25 k) fun t63 =>
 pickV t57 (.bool true) t63 fun t64 =>
 cndS t64 (
 K (.tuple #[(.int .i64 0), (.int .i64 12)]) w_25) (
 rd Tryz.prog (Instr.fieldAt 129 t9 1) w_25.drew fun t65 =>
 ldR Tryz.prog 5 t65 w_25.drew fun t66 =>
 callS Tryz.prog 61 (pA #[x1]) w_25.drew fun t68 w_26 =>
 (ag Tryz.prog (Instr.fieldAt 129 t9 1) w_26 t65) ∧
 (ldG Tryz.prog 5 t65 w_26 t66) ∧
 rd Tryz.prog (binM .neq 5 (.tmp 66) (.tmp 68) t66 t68) w_26 fun t69 =>
 cndS t69 (
 K (.tuple #[(.int .i64 0), (.int .i64 13)]) w_26) (
 K (.tuple #[t19, (.int .i64 0)]) w_26))))))
theorem f58_call (x0 x1 : Value) (K : K1) (w : World) (h : f58_t x0 x1 K w) : callS Tryz.prog 58 #[x0, x1] w K :=
  call_of_txt (args := [x0, x1]) mixed Tryz.func58 .o (by kernel_rfl) (cast (by kernel_rfl) h)
noncomputable def f86_u : Code × Dec := ((Tryz.f86.body).getD .skip, (.s .o (.s .o (.x 0 (.s .o (.b (.l [5, 12] 3076 2199023252144 (.s .o (.s .o (.x 7204 (.b (.s .o (.s .o (.b (.l [5, 18] 203780 1099511366192 .o))))) .o)))))) .o))))
abbrev f86_e (K : K1) : KF := endK Tryz.prog Tryz.f86.results.toList K
def f86_k1_o (K : K1) : KF := fun fr w => ∀ σ, cP (pr (pr (pr f86_u))) (f86_e K) (f86_e K) nX (mixF 0 σ 0 fr) w
def f86_k1 (K : K1) (w : World) : Prop := f86_k1_o K (fz 41 0 []) w
def f86_l1 (K : K1) (x2 x5 x10 x11 x12 : Value) (w : World) : Prop := loopT [5, 12] 3076 (fun E => cP (pl (pl (pr (pl (pr (pr f86_u)))))) E (f86_e K) (exB 0 (f86_k1_o K) nX)) (fz 41 0 [(2, x2), (5, x5), (10, x10), (11, x11), (12, x12)]) w
def f86_k2_o (K : K1) (E1 : VP2) : KF := fun fr w => ∀ σ, cP (pr (pr (pr (pl (pl (pr (pl (pr (pr f86_u))))))))) (fun fr w => E1 (sv fr 5) (sv fr 12) w) (f86_e K) (exB 0 (f86_k1_o K) nX) (mixF 7204 σ 0 fr) w
def f86_k2 (K : K1) (E1 : VP2) (x2 x5 x10 x11 x12 : Value) (w : World) : Prop := f86_k2_o K E1 (fz 41 0 [(2, x2), (5, x5), (10, x10), (11, x11), (12, x12)]) w
def f86_l2 (K : K1) (E1 : VP2) (x2 x5 x10 x11 x12 x16 x17 x18 : Value) (w : World) : Prop := loopT [5, 18] 203780 (fun E => cP (pl (pl (pr (pr (pl (pl (pr (pr (pl (pl (pr (pl (pr (pr f86_u)))))))))))))) E (f86_e K) (exB 2 (f86_k2_o K E1) (exB 1 (f86_k2_o K E1) (exB 0 (f86_k1_o K) nX)))) (fz 41 0 [(2, x2), (5, x5), (10, x10), (11, x11), (12, x12), (16, x16), (17, x17), (18, x18)]) w
def f86_k1_t (K : K1) (w : World) : Prop :=
 K (.bool true) w
theorem f86_k1_eq (K : K1) (w : World) : f86_k1 K w = f86_k1_t K w := cutE fun σ => by kernel_rfl
def f86_l1_t (x2 x5 x10 x11 x12 : Value) (K : K1) (E1 : VP2) (w : World) : Prop :=
 ev Tryz.prog (binM .lss 3 (.tmp 12) (.tmp 11) x12 x11) w fun t13 w_1 =>
 cndS t13 (
 ev Tryz.prog (Instr.indexAt 173 x10 x12) w_1 fun t14 w_2 =>
 ldS Tryz.prog 74 t14 w_2 fun t15 w_3 =>
 bltS Tryz.prog .len #[74] 3 #[false] #[t15] w_3 fun t17 w_4 =>
 f86_l2 K E1 x2 x5 x10 x11 x12 t15 t17 (.int .i64 0) w_4) (
 f86_k1 K w_1)
theorem f86_l1_rule (x2 x5 x10 x11 x12 : Value) (K : K1) (w : World) (I : VP2) (μ : Value → Value → World → Nat) (h0 : I x5 x12 w)
    (hr : ∀ (x5 x12 : Value) (w : World), I x5 x12 w → ∀ E1 : VP2, (∀ (y5 y12 : Value) (w' : World), I y5 y12 w' → μ y5 y12 w' < μ x5 x12 w → E1 y5 y12 w') → f86_l1_t x2 x5 x10 x11 x12 K E1 w) : f86_l1 K x2 x5 x10 x11 x12 w :=
  ⟨I, μ, h0, fun σ w hI E hE => cast (by kernel_rfl) (hr (σ 5) (σ 12) w hI E hE)⟩
def f86_k2_t (x2 x5 x10 x11 x12 : Value) (K : K1) (E1 : VP2) (w : World) : Prop :=
 ev Tryz.prog (binM .add 3 (.tmp 12) (.const (.int .i64 1)) x12 (.int .i64 1)) w fun t40 w_1 =>
 E1 x5 t40 w_1
theorem f86_k2_eq (K : K1) (E1 : VP2) (x2 x5 x10 x11 x12 : Value) (w : World) : f86_k2 K E1 x2 x5 x10 x11 x12 w = f86_k2_t x2 x5 x10 x11 x12 K E1 w := cutE fun σ => by kernel_rfl
def f86_l2_t (x2 x5 x10 x11 x12 x16 x17 x18 : Value) (K : K1) (E1 : VP2) (E2 : VP2) (w : World) : Prop :=
 ev Tryz.prog (binM .lss 3 (.tmp 18) (.tmp 17) x18 x17) w fun t19 w_1 =>
 cndS t19 (
 ev Tryz.prog (Instr.indexAt 74 x16 x18) w_1 fun t20 w_2 =>
 ldS Tryz.prog 3 t20 w_2 fun t21 w_3 =>
 ldS Tryz.prog 58 x2 w_3 fun t22 w_4 =>
 callS Tryz.prog 91 (pA #[t22, t21]) w_4 fun t24 w_5 =>
 ev Tryz.prog (Op.unary .not t24) w_5 fun t25 w_6 =>
 gd t25 false (fun k => k x5 w_6) w_6 fun t27 w_7 =>
 gd t25 false (fun k => k t21 w_7) w_7 fun t28 w_8 =>
 gd t25 false (fun k => ev Tryz.prog (convert 3 100 t28) w_8 k) w_8 fun t29 w_9 =>
 gd t25 false (fun k => ev Tryz.prog (binM .shr 33 (.tmp 27) (.tmp 29) t27 t29) w_9 k) w_9 fun t30 w_10 =>
 gd t25 false (fun k => ev Tryz.prog (binM .and 33 (.tmp 30) (.const (.int .u64 ((1 : Nat) : Int))) t30 (.int .u64 ((1 : Nat) : Int))) w_10 k) w_10 fun t31 w_11 =>
 gd t25 false (fun k => ev Tryz.prog (binM .eql 33 (.tmp 31) (.const (.int .u64 ((1 : Nat) : Int))) t31 (.int .u64 ((1 : Nat) : Int))) w_11 k) w_11 fun t32 w_12 =>
 pickS t25 (.bool true) t32 w_12 fun t33 w_13 =>
 cndS t33 (
 K (.bool false) w_13) (
 ev Tryz.prog (convert 3 100 t21) w_13 fun t36 w_14 =>
 ev Tryz.prog (binM .shl 33 (.const (.int .u64 ((1 : Nat) : Int))) (.tmp 36) (.int .u64 ((1 : Nat) : Int)) t36) w_14 fun t37 w_15 =>
 ev Tryz.prog (binM .or 33 (.tmp 34) (.tmp 37) x5 t37) w_15 fun t38 w_16 =>
 ev Tryz.prog (binM .add 3 (.tmp 18) (.const (.int .i64 1)) x18 (.int .i64 1)) w_16 fun t39 w_17 =>
 E2 t38 t39 w_17)) (
 f86_k2 K E1 x2 x5 x10 x11 x12 w_1)
theorem f86_l2_rule (x2 x5 x10 x11 x12 x16 x17 x18 : Value) (K : K1) (E1 : VP2) (w : World) (I : VP2) (μ : Value → Value → World → Nat) (h0 : I x5 x18 w)
    (hr : ∀ (x5 x18 : Value) (w : World), I x5 x18 w → ∀ E2 : VP2, (∀ (y5 y18 : Value) (w' : World), I y5 y18 w' → μ y5 y18 w' < μ x5 x18 w → E2 y5 y18 w') → f86_l2_t x2 x5 x10 x11 x12 x16 x17 x18 K E1 E2 w) : f86_l2 K E1 x2 x5 x10 x11 x12 x16 x17 x18 w :=
  ⟨I, μ, h0, fun σ w hI E hE => cast (by kernel_rfl) (hr (σ 5) (σ 18) w hI E hE)⟩
def f86_t (x0 x1 : Value) (K : K1) (w : World) : Prop :=
 ev Tryz.prog (Instr.box 58 x0) w fun t2 w_1 =>
 bltS Tryz.prog .len #[173] 3 #[false] #[x1] w_1 fun t11 w_2 =>
 f86_l1 K t2 (.int .u64 ((0 : Nat) : Int)) x1 t11 (.int .i64 0) w_2
theorem f86_call (x0 x1 : Value) (K : K1) (w : World) (h : f86_t x0 x1 K w) : callS Tryz.prog 86 #[x0, x1] w K :=
  call_of_txt (args := [x0, x1]) mixed Tryz.func86 f86_u.2 (by kernel_rfl) (cast (by kernel_rfl) h)
noncomputable def f87_u : Code × Dec := ((Tryz.f87.body).getD .skip, (.s .o (.s .o (.s .o (.s .o (.x 3096 (.s .o (.b (.l [10, 11, 34] 12884901916 4835703278458499519086336 .o))) (.x 3088 (.s .o (.b (.l [10, 11, 84] 14507109835375550096474128 85070591730215273052729817791150690048 (.s .o (.s .o (.x 33849922949209616891776016 .o .o)))))) .o)))))))
abbrev f87_e (K : K1) : KF := endK Tryz.prog Tryz.f87.results.toList K
def f87_k1_o (K : K1) : KF := fun fr w => ∀ σ, cP (pr (pr (pr (pr (pr f87_u))))) (f87_e K) (f87_e K) nX (mixF 3096 σ 0 fr) w
def f87_k1 (K : K1) (x3 x4 x10 x11 : Value) (w : World) : Prop := f87_k1_o K (fz 135 0 [(3, x3), (4, x4), (10, x10), (11, x11)]) w
def f87_l1 (K : K1) (x2 x3 x4 x10 x11 x32 x33 x34 : Value) (w : World) : Prop := loopT [10, 11, 34] 12884901916 (fun E => cP (pl (pl (pr (pl (pr (pr (pr (pr f87_u)))))))) E (f87_e K) (exB 0 (f87_k1_o K) nX)) (fz 135 0 [(2, x2), (3, x3), (4, x4), (10, x10), (11, x11), (32, x32), (33, x33), (34, x34)]) w
def f87_k2_o (K : K1) : KF := fun fr w => ∀ σ, cP (pr (pr (pr (pr (pr (pr f87_u)))))) (f87_e K) (f87_e K) nX (mixF 3088 σ 0 fr) w
def f87_k2 (K : K1) (x4 x10 x11 : Value) (w : World) : Prop := f87_k2_o K (fz 135 0 [(4, x4), (10, x10), (11, x11)]) w
def f87_l2 (K : K1) (x4 x10 x11 x82 x83 x84 : Value) (w : World) : Prop := loopT [10, 11, 84] 14507109835375550096474128 (fun E => cP (pl (pl (pr (pl (pr (pr (pr (pr (pr f87_u))))))))) E (f87_e K) (exB 2 (f87_k2_o K) nX)) (fz 135 0 [(4, x4), (10, x10), (11, x11), (82, x82), (83, x83), (84, x84)]) w
def f87_k3_o (K : K1) (E1 : VP3) : KF := fun fr w => ∀ σ, cP (pr (pr (pr (pl (pl (pr (pl (pr (pr (pr (pr (pr f87_u)))))))))))) (fun fr w => E1 (sv fr 10) (sv fr 11) (sv fr 84) w) (f87_e K) (exB 2 (f87_k2_o K) nX) (mixF 33849922949209616891776016 σ 0 fr) w
def f87_k3 (K : K1) (E1 : VP3) (x4 x10 x11 x82 x83 x84 : Value) (w : World) : Prop := f87_k3_o K E1 (fz 135 0 [(4, x4), (10, x10), (11, x11), (82, x82), (83, x83), (84, x84)]) w
def f87_k1_t (x3 x4 x10 x11 : Value) (K : K1) (w : World) : Prop :=
 bltS Tryz.prog .len #[74] 3 #[false] #[x3] w fun t83 w_1 =>
 f87_l2 K x4 x10 x11 x3 t83 (.int .i64 0) w_1
theorem f87_k1_eq (K : K1) (x3 x4 x10 x11 : Value) (w : World) : f87_k1 K x3 x4 x10 x11 w = f87_k1_t x3 x4 x10 x11 K w := cutE fun σ => by kernel_rfl
def f87_l1_t (x2 x3 x4 x10 x11 x32 x33 x34 : Value) (K : K1) (E1 : VP3) (w : World) : Prop :=
 ev Tryz.prog (binM .lss 3 (.tmp 34) (.tmp 33) x34 x33) w fun t35 w_1 =>
 cndS t35 (
 ev Tryz.prog (Instr.indexAt 74 x32 x34) w_1 fun t37 w_2 =>
 ldS Tryz.prog 3 t37 w_2 fun t38 w_3 =>
 ldS Tryz.prog 58 x4 w_3 fun t40 w_4 =>
 callS Tryz.prog 89 (pA #[t40, t38]) w_4 fun t42 w_5 =>
 ev Tryz.prog (Instr.extract t42 0) w_5 fun t43 w_6 =>
 ev Tryz.prog (Instr.extract t42 1) w_6 fun t44 w_7 =>
 ev Tryz.prog (Instr.extract t42 2) w_7 fun t45 w_8 =>
 ev Tryz.prog (Instr.alloc 129 true (.tuple #[])) w_8 fun t14 w_9 =>
 stS Tryz.prog 129 t14 t43 w_9 fun w_10 =>
 ev Tryz.prog (Op.unary .not t44) w_10 fun t47 w_11 =>
 gd t47 false (fun k => k t45 w_11) w_11 fun t49 w_12 =>
 pickS t47 (.bool true) t49 w_12 fun t50 w_13 =>
 gd t50 false (fun k => ev Tryz.prog (Instr.fieldAt 129 t14 2) w_13 k) w_13 fun t52 w_14 =>
 gd t50 false (fun k => ldS Tryz.prog 5 t52 w_14 k) w_14 fun t53 w_15 =>
 gd t50 false (fun k => ev Tryz.prog (binM .neq 5 (.tmp 53) (.const (.int .u8 ((176 : Nat) : Int))) t53 (.int .u8 ((176 : Nat) : Int))) w_15 k) w_15 fun t54 w_16 =>
 pickS t50 (.bool true) t54 w_16 fun t55 w_17 =>
 gd t55 false (fun k => ldS Tryz.prog 129 t14 w_17 k) w_17 fun t57 w_18 =>
 gd t55 false (fun k => callS Tryz.prog 95 (pA #[t57]) w_18 k) w_18 fun t58 w_19 =>
 gd t55 false (fun k => ev Tryz.prog (Op.unary .not t58) w_19 k) w_19 fun t59 w_20 =>
 pickS t55 (.bool true) t59 w_20 fun t60 w_21 =>
 cndS t60 (
 K (.tuple #[(.slice none 0 0), (.bool false)]) w_21) (
 ev Tryz.prog (Instr.indexAt 75 x2 x34) w_21 fun t63 w_22 =>
 ldS Tryz.prog 5 t63 w_22 fun t64 w_23 =>
 ev Tryz.prog (Instr.fieldAt 129 t14 1) w_23 fun t65 w_24 =>
 stS Tryz.prog 5 t65 t64 w_24 fun w_25 =>
 ev Tryz.prog (Instr.fieldAt 129 t14 2) w_25 fun t66 w_26 =>
 stS Tryz.prog 5 t66 (.int .u8 ((177 : Nat) : Int)) w_26 fun w_27 =>
 ldR Tryz.prog 58 x4 w_27.drew fun t68 =>
 ldR Tryz.prog 129 t14 w_27.drew fun t71 =>
 callS Tryz.prog 96 (pA #[t68, t38]) w_27.drew fun t70 w_28 =>
 (ldG Tryz.prog 129 t14 w_28 t71) ∧
 callS Tryz.prog 72 (pA #[t71]) w_28 fun t72 w_29 =>
 rd Tryz.prog (Instr.build 37 #[(0, t70), (1, t72)]) w_29 fun t73 =>
 ev Tryz.prog (Instr.buildSlice 38 1 #[(0, t73)]) w_29 fun t74 w_30 =>
 bltS Tryz.prog .append #[38, 38] 38 #[false, false] (pA #[x10, t74]) w_30 fun t75 w_31 =>
 ev Tryz.prog (convert 3 100 t38) w_31 fun t78 w_32 =>
 ev Tryz.prog (binM .shl 33 (.const (.int .u64 ((1 : Nat) : Int))) (.tmp 78) (.int .u64 ((1 : Nat) : Int)) t78) w_32 fun t79 w_33 =>
 ev Tryz.prog (binM .or 33 (.tmp 76) (.tmp 79) x11 t79) w_33 fun t80 w_34 =>
 ev Tryz.prog (binM .add 3 (.tmp 34) (.const (.int .i64 1)) x34 (.int .i64 1)) w_34 fun t81 w_35 =>
 E1 t75 t80 t81 w_35)) (
 f87_k1 K x3 x4 x10 x11 w_1)
theorem f87_l1_rule (x2 x3 x4 x10 x11 x32 x33 x34 : Value) (K : K1) (w : World) (I : VP3) (μ : Value → Value → Value → World → Nat) (h0 : I x10 x11 x34 w)
    (hr : ∀ (x10 x11 x34 : Value) (w : World), I x10 x11 x34 w → ∀ E1 : VP3, (∀ (y10 y11 y34 : Value) (w' : World), I y10 y11 y34 w' → μ y10 y11 y34 w' < μ x10 x11 x34 w → E1 y10 y11 y34 w') → f87_l1_t x2 x3 x4 x10 x11 x32 x33 x34 K E1 w) : f87_l1 K x2 x3 x4 x10 x11 x32 x33 x34 w :=
  ⟨I, μ, h0, fun σ w hI E hE => cast (by kernel_rfl) (hr (σ 10) (σ 11) (σ 34) w hI E hE)⟩
def f87_k2_t (x4 x10 x11 : Value) (K : K1) (w : World) : Prop :=
 ev Tryz.prog (Instr.fieldAt 58 x4 1) w fun t127 w_1 =>
 ldS Tryz.prog 3 t127 w_1 fun t128 w_2 =>
 callS Tryz.prog 69 (pA #[t128]) w_2 fun t129 w_3 =>
 ev Tryz.prog (binM .add 33 (.tmp 129) (.const (.int .u64 ((8 : Nat) : Int))) t129 (.int .u64 ((8 : Nat) : Int))) w_3 fun t130 w_4 =>
 ev Tryz.prog (Instr.build 37 #[(0, t130), (1, x11)]) w_4 fun t132 w_5 =>
 ev Tryz.prog (Instr.buildSlice 38 1 #[(0, t132)]) w_5 fun t133 w_6 =>
 bltS Tryz.prog .append #[38, 38] 38 #[false, false] (pA #[x10, t133]) w_6 fun t134 w_7 =>
 K (.tuple #[t134, (.bool true)]) w_7
theorem f87_k2_eq (K : K1) (x4 x10 x11 : Value) (w : World) : f87_k2 K x4 x10 x11 w = f87_k2_t x4 x10 x11 K w := cutE fun σ => by kernel_rfl
def f87_l2_t (x4 x10 x11 x82 x83 x84 : Value) (K : K1) (E1 : VP3) (w : World) : Prop :=
 ev Tryz.prog (binM .lss 3 (.tmp 84) (.tmp 83) x84 x83) w fun t85 w_1 =>
 cndS t85 (
 ev Tryz.prog (Instr.indexAt 74 x82 x84) w_1 fun t86 w_2 =>
 ldS Tryz.prog 3 t86 w_2 fun t87 w_3 =>
 ldS Tryz.prog 58 x4 w_3 fun t89 w_4 =>
 callS Tryz.prog 89 (pA #[t89, t87]) w_4 fun t91 w_5 =>
 ev Tryz.prog (Instr.extract t91 0) w_5 fun t92 w_6 =>
 ev Tryz.prog (Instr.extract t91 1) w_6 fun t93 w_7 =>
 ev Tryz.prog (Instr.extract t91 2) w_7 fun t94 w_8 =>
 ev Tryz.prog (Instr.alloc 129 true (.tuple #[])) w_8 fun t19 w_9 =>
 stS Tryz.prog 129 t19 t92 w_9 fun w_10 =>
 ev Tryz.prog (Op.unary .not t93) w_10 fun t96 w_11 =>
 gd t96 false (fun k => k t94 w_11) w_11 fun t98 w_12 =>
 gd t96 false (fun k => ev Tryz.prog (Op.unary .not t98) w_12 k) w_12 fun t99 w_13 =>
 pickS t96 (.bool true) t99 w_13 fun t100 w_14 =>
 gd t100 false (fun k => ev Tryz.prog (Instr.fieldAt 129 t19 2) w_14 k) w_14 fun t102 w_15 =>
 gd t100 false (fun k => ldS Tryz.prog 5 t102 w_15 k) w_15 fun t103 w_16 =>
 gd t100 false (fun k => ev Tryz.prog (binM .neq 5 (.tmp 103) (.const (.int .u8 ((177 : Nat) : Int))) t103 (.int .u8 ((177 : Nat) : Int))) w_16 k) w_16 fun t104 w_17 =>
 pickS t100 (.bool true) t104 w_17 fun t105 w_18 =>
 cndS t105 (
 K (.tuple #[(.slice none 0 0), (.bool false)]) w_18) (
 ldS Tryz.prog 129 t19 w_18 fun t106 w_19 =>
 callS Tryz.prog 113 (pA #[t106]) w_19 fun t107 w_20 =>
 stS Tryz.prog 129 t19 t107 w_20 fun w_21 =>
 ldR Tryz.prog 58 x4 w_21.drew fun t109 =>
 ldR Tryz.prog 129 t19 w_21.drew fun t112 =>
 callS Tryz.prog 96 (pA #[t109, t87]) w_21.drew fun t111 w_22 =>
 (ldG Tryz.prog 129 t19 w_22 t112) ∧
 callS Tryz.prog 72 (pA #[t112]) w_22 fun t113 w_23 =>
 rd Tryz.prog (Instr.build 37 #[(0, t111), (1, t113)]) w_23 fun t114 =>
 ev Tryz.prog (Instr.buildSlice 38 1 #[(0, t114)]) w_23 fun t115 w_24 =>
 bltS Tryz.prog .append #[38, 38] 38 #[false, false] (pA #[x10, t115]) w_24 fun t116 w_25 =>
 ev Tryz.prog (Instr.fieldAt 129 t19 2) w_25 fun t117 w_26 =>
 ldS Tryz.prog 5 t117 w_26 fun t118 w_27 =>
 ev Tryz.prog (binM .eql 5 (.tmp 118) (.const (.int .u8 ((176 : Nat) : Int))) t118 (.int .u8 ((176 : Nat) : Int))) w_27 fun t119 w_28 =>
 cndS t119 (
 ev Tryz.prog (convert 3 100 t87) w_28 fun t122 w_29 =>
 ev Tryz.prog (binM .shl 33 (.const (.int .u64 ((1 : Nat) : Int))) (.tmp 122) (.int .u64 ((1 : Nat) : Int)) t122) w_29 fun t123 w_30 =>
 ev Tryz.prog (binM .andNot 33 (.tmp 120) (.tmp 123) x11 t123) w_30 fun t124 w_31 =>
 f87_k3 K E1 x4 t116 t124 x82 x83 x84 w_31) (
 f87_k3 K E1 x4 t116 x11 x82 x83 x84 w_28))) (
 f87_k2 K x4 x10 x11 w_1)
theorem f87_l2_rule (x4 x10 x11 x82 x83 x84 : Value) (K : K1) (w : World) (I : VP3) (μ : Value → Value → Value → World → Nat) (h0 : I x10 x11 x84 w)
    (hr : ∀ (x10 x11 x84 : Value) (w : World), I x10 x11 x84 w → ∀ E1 : VP3, (∀ (y10 y11 y84 : Value) (w' : World), I y10 y11 y84 w' → μ y10 y11 y84 w' < μ x10 x11 x84 w → E1 y10 y11 y84 w') → f87_l2_t x4 x10 x11 x82 x83 x84 K E1 w) : f87_l2 K x4 x10 x11 x82 x83 x84 w :=
  ⟨I, μ, h0, fun σ w hI E hE => cast (by kernel_rfl) (hr (σ 10) (σ 11) (σ 84) w hI E hE)⟩
def f87_k3_t (x4 x10 x11 x82 x83 x84 : Value) (K : K1) (E1 : VP3) (w : World) : Prop :=
 ev Tryz.prog (binM .add 3 (.tmp 84) (.const (.int .i64 1)) x84 (.int .i64 1)) w fun t125 w_1 =>
 E1 x10 x11 t125 w_1
theorem f87_k3_eq (K : K1) (E1 : VP3) (x4 x10 x11 x82 x83 x84 : Value) (w : World) : f87_k3 K E1 x4 x10 x11 x82 x83 x84 w = f87_k3_t x4 x10 x11 x82 x83 x84 K E1 w := cutE fun σ => by kernel_rfl
def f87_t (x0 x1 x2 x3 : Value) (K : K1) (w : World) : Prop :=
 ev Tryz.prog (Instr.box 58 x0) w fun t4 w_1 =>
 bltS Tryz.prog .len #[74] 3 #[false] #[x1] w_1 fun t23 w_2 =>
 ev Tryz.prog (binM .eql 3 (.tmp 23) (.const (.int .i64 0)) t23 (.int .i64 0)) w_2 fun t24 w_3 =>
 gd t24 true (fun k => k x3 w_3) w_3 fun t26 w_4 =>
 gd t24 true (fun k => bltS Tryz.prog .len #[74] 3 #[false] #[t26] w_4 k) w_4 fun t27 w_5 =>
 gd t24 true (fun k => ev Tryz.prog (binM .eql 3 (.tmp 27) (.const (.int .i64 0)) t27 (.int .i64 0)) w_5 k) w_5 fun t28 w_6 =>
 pickS t24 t28 (.bool false) w_6 fun t29 w_7 =>
 cndS t29 (
 K (.tuple #[(.slice none 0 0), (.bool true)]) w_7) (
 ldS Tryz.prog 58 t4 w_7 fun t30 w_8 =>
 callS Tryz.prog 92 (pA #[t30]) w_8 fun t31 w_9 =>
 bltS Tryz.prog .len #[74] 3 #[false] #[x1] w_9 fun t33 w_10 =>
 f87_l1 K x2 x3 t4 (.slice none 0 0) t31 x1 t33 (.int .i64 0) w_10)
theorem f87_call (x0 x1 x2 x3 : Value) (K : K1) (w : World) (h : f87_t x0 x1 x2 x3 K w) : callS Tryz.prog 87 #[x0, x1, x2, x3] w K :=
  call_of_txt (args := [x0, x1, x2, x3]) mixed Tryz.func87 f87_u.2 (by kernel_rfl) (cast (by kernel_rfl) h)
def f88_t (x0 : Value) (K : K1) (w : World) : Prop :=
 ev Tryz.prog (Instr.box 58 x0) w fun t1 w_1 =>
 ldS Tryz.prog 58 t1 w_1 fun t3 w_2 =>
 callS Tryz.prog 31 (pA #[t3]) w_2 fun t4 w_3 =>
 callS Tryz.prog 73 (pA #[t4]) w_3 fun t5 w_4 =>
 K t5 w_4
theorem f88_call (x0 : Value) (K : K1) (w : World) (h : f88_t x0 K w) : callS Tryz.prog 88 #[x0] w K :=
  call_of_txt (args := [x0]) mixed Tryz.func88 .o (by kernel_rfl) (cast (by kernel_rfl) h)
def f89_t (x0 x1 : Value) (K : K1) (w : World) : Prop :=
 ev Tryz.prog (Instr.box 58 x0) w fun t2 w_1 =>
 ev Tryz.prog (Instr.alloc 129 true (.tuple #[])) w_1 fun t4 w_2 =>
 ldS Tryz.prog 58 t2 w_2 fun t7 w_3 =>
 callS Tryz.prog 92 (pA #[t7]) w_3 fun t8 w_4 =>
 ev Tryz.prog (convert 3 100 x1) w_4 fun t10 w_5 =>
 ev Tryz.prog (binM .shr 33 (.tmp 8) (.tmp 10) t8 t10) w_5 fun t11 w_6 =>
 ev Tryz.prog (binM .and 33 (.tmp 11) (.const (.int .u64 ((1 : Nat) : Int))) t11 (.int .u64 ((1 : Nat) : Int))) w_6 fun t12 w_7 =>
 ev Tryz.prog (binM .eql 33 (.tmp 12) (.const (.int .u64 ((1 : Nat) : Int))) t12 (.int .u64 ((1 : Nat) : Int))) w_7 fun t13 w_8 =>
 rd Tryz.prog (Instr.fieldAt 58 t2 0) w_8.drew fun t15 =>
 ldR Tryz.prog 56 t15 w_8.drew fun t16 =>
 ldR Tryz.prog 58 t2 w_8.drew fun t17 =>
 nilR Tryz.prog t16 w_8.drew fun t20 =>
 callS Tryz.prog 96 (pA #[t17, x1]) w_8.drew fun t19 w_9 =>
 (ag Tryz.prog (Instr.fieldAt 58 t2 0) w_9 t15) ∧
 (ldG Tryz.prog 56 t15 w_9 t16) ∧
 (nilR Tryz.prog t16 w_9 (fun u => u = t20)) ∧
 invS Tryz.prog t16 "Load" (pA #[t19]) w_9 fun t22 w_10 =>
 callS Tryz.prog 114 (pA #[t22]) w_10 fun t23 w_11 =>
 rd Tryz.prog (Instr.extract t23 0) w_11 fun t24 =>
 rd Tryz.prog (Instr.extract t23 1) w_11 fun t25 =>
 stS Tryz.prog 129 t4 t24 w_11 fun w_12 =>
 ldS Tryz.prog 129 t4 w_12 fun t26 w_13 =>
 stS Tryz.prog 129 t4 t26 w_13 fun w_14 =>
 ldR Tryz.prog 129 t4 w_14 fun r =>
 K (.tuple #[r, t25, t13]) w_14
theorem f89_call (x0 x1 : Value) (K : K1) (w : World) (h : f89_t x0 x1 K w) : callS Tryz.prog 89 #[x0, x1] w K :=
  call_of_txt (args := [x0, x1]) mixed Tryz.func89 .o (by kernel_rfl) (cast (by kernel_rfl) h)
def f90_t (x0 x1 x2 : Value) (K : K1) (w : World) : Prop :=
 ev Tryz.prog (Instr.box 58 x0) w fun t3 w_1 =>
 ldS Tryz.prog 58 t3 w_1 fun t10 w_2 =>
 callS Tryz.prog 91 (pA #[t10, x1]) w_2 fun t12 w_3 =>
 ev Tryz.prog (Op.unary .not t12) w_3 fun t13 w_4 =>
 cndS t13 (
 K (.bool false) w_4) (
 ldS Tryz.prog 58 t3 w_4 fun t15 w_5 =>
 callS Tryz.prog 89 (pA #[t15, x1]) w_5 fun t17 w_6 =>
 ev Tryz.prog (Instr.extract t17 0) w_6 fun t18 w_7 =>
 ev Tryz.prog (Instr.extract t17 1) w_7 fun t19 w_8 =>
 ev Tryz.prog (Instr.extract t17 2) w_8 fun t20 w_9 =>
 ev Tryz.prog (Instr.alloc 129 true (.tuple #[])) w_9 fun t7 w_10 =>
 stS Tryz.prog 129 t7 t18 w_10 fun w_11 =>
 gd t19 true (fun k => k t20 w_11) w_11 fun t23 w_12 =>
 pickS t19 t23 (.bool false) w_12 fun t24 w_13 =>
 gd t24 true (fun k => ev Tryz.prog (Instr.fieldAt 129 t7 2) w_13 k) w_13 fun t26 w_14 =>
 gd t24 true (fun k => ldS Tryz.prog 5 t26 w_14 k) w_14 fun t27 w_15 =>
 gd t24 true (fun k => k x2 w_15) w_15 fun t28 w_16 =>
 gd t24 true (fun k => ev Tryz.prog (binM .eql 5 (.tmp 27) (.tmp 28) t27 t28) w_16 k) w_16 fun t29 w_17 =>
 pickS t24 t29 (.bool false) w_17 fun t30 w_18 =>
 K t30 w_18)
theorem f90_call (x0 x1 x2 : Value) (K : K1) (w : World) (h : f90_t x0 x1 x2 K w) : callS Tryz.prog 90 #[x0, x1, x2] w K :=
  call_of_txt (args := [x0, x1, x2]) mixed Tryz.func90 .o (by kernel_rfl) (cast (by kernel_rfl) h)
def f91_t (x0 x1 : Value) (K : K1) (w : World) : Prop :=
 ev Tryz.prog (Instr.box 58 x0) w fun t2 w_1 =>
 ev Tryz.prog (binM .geq 3 (.tmp 5) (.const (.int .i64 0)) x1 (.int .i64 0)) w_1 fun t6 w_2 =>
 gd t6 true (fun k => k x1 w_2) w_2 fun t8 w_3 =>
 gd t6 true (fun k => ldS Tryz.prog 58 t2 w_3 k) w_3 fun t9 w_4 =>
 gd t6 true (fun k => callS Tryz.prog 88 (pA #[t9]) w_4 k) w_4 fun t10 w_5 =>
 gd t6 true (fun k => ev Tryz.prog (binM .lss 3 (.tmp 8) (.tmp 10) t8 t10) w_5 k) w_5 fun t11 w_6 =>
 pickS t6 t11 (.bool false) w_6 fun t12 w_7 =>
 K t12 w_7
theorem f91_call (x0 x1 : Value) (K : K1) (w : World) (h : f91_t x0 x1 K w) : callS Tryz.prog 91 #[x0, x1] w K :=
  call_of_txt (args := [x0, x1]) mixed Tryz.func91 .o (by kernel_rfl) (cast (by kernel_rfl) h)
def f92_t (x0 : Value) (K : K1) (w : World) : Prop :=
 ev Tryz.prog (Instr.box 58 x0) w fun t1 w_1 =>
 rd Tryz.prog (Instr.fieldAt 58 t1 0) w_1.drew fun t3 =>
 ldR Tryz.prog 56 t3 w_1.drew fun t4 =>
 rd Tryz.prog (Instr.fieldAt 58 t1 1) w_1.drew fun t5 =>
 ldR Tryz.prog 3 t5 w_1.drew fun t6 =>
 nilR Tryz.prog t4 w_1.drew fun t9 =>
 callS Tryz.prog 69 (pA #[t6]) w_1.drew fun t7 w_2 =>
 (ag Tryz.prog (Instr.fieldAt 58 t1 0) w_2 t3) ∧
 (ldG Tryz.prog 56 t3 w_2 t4) ∧
 (nilR Tryz.prog t4 w_2 (fun u => u = t9)) ∧
 rd Tryz.prog (binM .add 33 (.tmp 7) (.const (.int .u64 ((8 : Nat) : Int))) t7 (.int .u64 ((8 : Nat) : Int))) w_2 fun t8 =>
 invS Tryz.prog t4 "Load" (pA #[t8]) w_2 fun t11 w_3 =>
 K t11 w_3
theorem f92_call (x0 : Value) (K : K1) (w : World) (h : f92_t x0 K w) : callS Tryz.prog 92 #[x0] w K :=
  call_of_txt (args := [x0]) mixed Tryz.func92 .o (by kernel_rfl) (cast (by kernel_rfl) h)
noncomputable def f93_u : Code × Dec := ((Tryz.f93.body).getD .skip, (.s .o (.s .o (.s .o (.s .o (.x 2 (.s .o (.b (.l [6] 10 4502500115742788 .o))) (.s .o (.x 130 (.s .o (.b (.l [7, 56] 36028797018963970 154742504838614940324464516 (.s .o (.s .o (.x 108086391056892034 (.b (.s .o (.x 108086391056893826 .o .o))) .o)))))) .o))))))))
abbrev f93_e (K : K1) : KF := endK Tryz.prog Tryz.f93.results.toList K
def f93_k1_o (K : K1) : KF := fun fr w => ∀ σ, cP (pr (pr (pr (pr (pr f93_u))))) (f93_e K) (f93_e K) nX (mixF 2 σ 0 fr) w
def f93_k1 (K : K1) (x1 : Value) (w : World) : Prop := f93_k1_o K (fz 91 0 [(1, x1)]) w
def f93_l1 (K : K1) (x1 x3 x6 : Value) (w : World) : Prop := loopT [6] 10 (fun E => cP (pl (pl (pr (pl (pr (pr (pr (pr f93_u)))))))) E (f93_e K) (exB 0 (f93_k1_o K) nX)) (fz 91 0 [(1, x1), (3, x3), (6, x6)]) w
def f93_k2_o (K : K1) : KF := fun fr w => ∀ σ, cP (pr (pr (pr (pr (pr (pr (pr f93_u))))))) (f93_e K) (f93_e K) nX (mixF 130 σ 0 fr) w
def f93_k2 (K : K1) (x1 x7 : Value) (w : World) : Prop := f93_k2_o K (fz 91 0 [(1, x1), (7, x7)]) w
def f93_l2 (K : K1) (x1 x7 x55 x56 : Value) (w : World) : Prop := loopT [7, 56] 36028797018963970 (fun E => cP (pl (pl (pr (pl (pr (pr (pr (pr (pr (pr f93_u)))))))))) E (f93_e K) (exB 2 (f93_k2_o K) nX)) (fz 91 0 [(1, x1), (7, x7), (55, x55), (56, x56)]) w
def f93_k3_o (K : K1) (E1 : VP2) : KF := fun fr w => ∀ σ, cP (pr (pr (pr (pl (pl (pr (pl (pr (pr (pr (pr (pr (pr f93_u))))))))))))) (fun fr w => E1 (sv fr 7) (sv fr 56) w) (f93_e K) (exB 2 (f93_k2_o K) nX) (mixF 108086391056892034 σ 0 fr) w
def f93_k3 (K : K1) (E1 : VP2) (x1 x7 x55 x56 : Value) (w : World) : Prop := f93_k3_o K E1 (fz 91 0 [(1, x1), (7, x7), (55, x55), (56, x56)]) w
def f93_k4_o (K : K1) (E1 : VP2) : KF := fun fr w => ∀ σ, cP (pr (pr (pl (pl (pr (pr (pl (pl (pr (pl (pr (pr (pr (pr (pr (pr f93_u)))))))))))))))) (f93_k3_o K E1) (f93_e K) (exB 3 (f93_k3_o K E1) (exB 2 (f93_k2_o K) nX)) (mixF 108086391056893826 σ 0 fr) w
def f93_k4 (K : K1) (E1 : VP2) (x1 x7 x8 x9 x10 x55 x56 : Value) (w : World) : Prop := f93_k4_o K E1 (fz 91 0 [(1, x1), (7, x7), (8, x8), (9, x9), (10, x10), (55, x55), (56, x56)]) w
def f93_k1_t (x1 : Value) (K : K1) (w : World) : Prop :=
 ev Tryz.prog (Instr.fieldAt 58 x1 2) w fun t52 w_1 =>
 ev Tryz.prog (Instr.fieldAt 24 t52 0) w_1 fun t53 w_2 =>
 ldS Tryz.prog 3 t53 w_2 fun t54 w_3 =>
 callS Tryz.prog 73 (pA #[t54]) w_3 fun t55 w_4 =>
 f93_l2 K x1 (.int .u64 ((0 : Nat) : Int)) t55 (.int .i64 0) w_4
theorem f93_k1_eq (K : K1) (x1 : Value) (w : World) : f93_k1 K x1 w = f93_k1_t x1 K w := cutE fun σ => by kernel_rfl
def f93_l1_t (x1 x3 x6 : Value) (K : K1) (E1 : VP1) (w : World) : Prop :=
 ev Tryz.prog (binM .lss 33 (.tmp 40) (.const (.int .u64 ((8 : Nat) : Int))) x6 (.int .u64 ((8 : Nat) : Int))) w fun t41 w_1 =>
 cndS t41 (
 ev Tryz.prog (Instr.fieldAt 58 x1 0) w_1 fun t44 w_2 =>
 ldS Tryz.prog 56 t44 w_2 fun t45 w_3 =>
 ev Tryz.prog (binM .mul 33 (.tmp 47) (.const (.int .u64 ((8 : Nat) : Int))) x6 (.int .u64 ((8 : Nat) : Int))) w_3 fun t48 w_4 =>
 ev Tryz.prog (binM .add 33 (.tmp 46) (.tmp 48) x3 t48) w_4 fun t49 w_5 =>
 invS Tryz.prog t45 "Load" (pA #[t49]) w_5 fun t50 w_6 =>
 ev Tryz.prog (binM .neq 33 (.tmp 50) (.const (.int .u64 ((0 : Nat) : Int))) t50 (.int .u64 ((0 : Nat) : Int))) w_6 fun t51 w_7 =>
 cndS t51 (
 K (.bool false) w_7) (
 ev Tryz.prog (binM .add 33 (.tmp 42) (.const (.int .u64 ((1 : Nat) : Int))) x6 (.int .u64 ((1 : Nat) : Int))) w_7 fun t43 w_8 =>
 E1 t43 w_8)) (
 f93_k1 K x1 w_1)
theorem f93_l1_rule (x1 x3 x6 : Value) (K : K1) (w : World) (I : VP1) (μ : Value → World → Nat) (h0 : I x6 w)
    (hr : ∀ (x6 : Value) (w : World), I x6 w → ∀ E1 : VP1, (∀ (y6 : Value) (w' : World), I y6 w' → μ y6 w' < μ x6 w → E1 y6 w') → f93_l1_t x1 x3 x6 K E1 w) : f93_l1 K x1 x3 x6 w :=
  ⟨I, μ, h0, fun σ w hI E hE => cast (by kernel_rfl) (hr (σ 6) w hI E hE)⟩
def f93_k2_t (x1 x7 : Value) (K : K1) (w : World) : Prop :=
 ldS Tryz.prog 58 x1 w fun t87 w_1 =>
 callS Tryz.prog 92 (pA #[t87]) w_1 fun t88 w_2 =>
 ev Tryz.prog (binM .eql 33 (.tmp 88) (.tmp 89) t88 x7) w_2 fun t90 w_3 =>
 K t90 w_3
theorem f93_k2_eq (K : K1) (x1 x7 : Value) (w : World) : f93_k2 K x1 x7 w = f93_k2_t x1 x7 K w := cutE fun σ => by kernel_rfl
def f93_l2_t (x1 x7 x55 x56 : Value) (K : K1) (E1 : VP2) (w : World) : Prop :=
 ev Tryz.prog (binM .lss 3 (.tmp 56) (.tmp 55) x56 x55) w fun t57 w_1 =>
 cndS t57 (
 rd Tryz.prog (Instr.fieldAt 58 x1 0) w_1.drew fun t60 =>
 ldR Tryz.prog 56 t60 w_1.drew fun t61 =>
 ldR Tryz.prog 58 x1 w_1.drew fun t62 =>
 nilR Tryz.prog t61 w_1.drew fun t65 =>
 (callS Tryz.prog 96 (pA #[t62, x56]) w_1.drew fun t64 w_2 =>
 (ag Tryz.prog (Instr.fieldAt 58 x1 0) w_2 t60) ∧
 (ldG Tryz.prog 56 t60 w_2 t61) ∧
 (nilR Tryz.prog t61 w_2 (fun u => u = t65)) ∧
 (invS Tryz.prog t61 "Load" (pA #[t64]) w_2 fun t67 w_3 =>
 (callS Tryz.prog 114 (pA #[t67]) w_3 fun t68 w_4 =>
 rd Tryz.prog (Instr.extract t68 0) w_4 fun t69 =>
 rd Tryz.prog (Instr.extract t68 1) w_4 fun t70 =>
 ev Tryz.prog (Instr.alloc 129 true (.tuple #[])) w_4 fun t9 w_5 =>
 (ag Tryz.prog (Instr.fieldAt 58 x1 0) w_5 t60) ∧
 (ldG Tryz.prog 56 t60 w_5 t61) ∧
 (ldG Tryz.prog 58 x1 w_5 t62) ∧
 (nilR Tryz.prog t61 w_5 (fun u => u = t65)) ∧
 stS Tryz.prog 129 t9 t69 w_5 fun w_6 =>
 f93_k4 K E1 x1 x7 x56 t9 t70 x55 x56 w_6) ∧
 (ev Tryz.prog (Instr.alloc 129 true (.tuple #[])) w_3 fun t9_1 w_7 =>
 (ag Tryz.prog (Instr.fieldAt 58 x1 0) w_7 t60) ∧
 (ldG Tryz.prog 56 t60 w_7 t61) ∧
 (ldG Tryz.prog 58 x1 w_7 t62) ∧
 (nilR Tryz.prog t61 w_7 (fun u => u = t65)) ∧
 callS Tryz.prog 114 (pA #[t67]) w_7 fun t68_1 w_8 =>
 rd Tryz.prog (Instr.extract t68_1 0) w_8 fun t69_1 =>
 rd Tryz.prog (Instr.extract t68_1 1) w_8 fun t70_1 =>
 stS Tryz.prog 129 t9_1 t69_1 w_8 fun w_9 =>
 f93_k4 K E1 x1 x7 x56 t9_1 t70_1 x55 x56 w_9)) ∧
 (ev Tryz.prog (Instr.alloc 129 true (.tuple #[])) w_2 fun t9_2 w_10 =>
 (ag Tryz.prog (Instr.fieldAt 58 x1 0) w_10 t60) ∧
 (ldG Tryz.prog 56 t60 w_10 t61) ∧
 (ldG Tryz.prog 58 x1 w_10 t62) ∧
 (nilR Tryz.prog t61 w_10 (fun u => u = t65)) ∧
 invS Tryz.prog t61 "Load" (pA #[t64]) w_10 fun t67_1 w_11 =>
 callS Tryz.prog 114 (pA #[t67_1]) w_11 fun t68_2 w_12 =>
 rd Tryz.prog (Instr.extract t68_2 0) w_12 fun t69_2 =>
 rd Tryz.prog (Instr.extract t68_2 1) w_12 fun t70_2 =>
 stS Tryz.prog 129 t9_2 t69_2 w_12 fun w_13 =>
 f93_k4 K E1 x1 x7 x56 t9_2 t70_2 x55 x56 w_13)) ∧
 (ev Tryz.prog (Instr.alloc 129 true (.tuple #[])) w_1.drew fun t9_3 w_14 =>
 (ag Tryz.prog (Instr.fieldAt 58 x1 0) w_14 t60) ∧
 (ldG Tryz.prog 56 t60 w_14 t61) ∧
 (ldG Tryz.prog 58 x1 w_14 t62) ∧
 (nilR Tryz.prog t61 w_14 (fun u => u = t65)) ∧
 callS Tryz.prog 96 (pA #[t62, x56]) w_14 fun t64_1 w_15 =>
 (ag Tryz.prog (Instr.fieldAt 58 x1 0) w_15 t60) ∧
 (ldG Tryz.prog 56 t60 w_15 t61) ∧
 (nilR Tryz.prog t61 w_15 (fun u => u = t65)) ∧
 invS Tryz.prog t61 "Load" (pA #[t64_1]) w_15 fun t67_2 w_16 =>
 callS Tryz.prog 114 (pA #[t67_2]) w_16 fun t68_3 w_17 =>
 rd Tryz.prog (Instr.extract t68_3 0) w_17 fun t69_3 =>
 rd Tryz.prog (Instr.extract t68_3 1) w_17 fun t70_3 =>
 stS Tryz.prog 129 t9_3 t69_3 w_17 fun w_18 =>
 f93_k4 K E1 x1 x7 x56 t9_3 t70_3 x55 x56 w_18)) (
 f93_k2 K x1 x7 w_1)
theorem f93_l2_rule (x1 x7 x55 x56 : Value) (K : K1) (w : World) (I : VP2) (μ : Value → Value → World → Nat) (h0 : I x7 x56 w)
    (hr : ∀ (x7 x56 : Value) (w : World), I x7 x56 w → ∀ E1 : VP2, (∀ (y7 y56 : Value) (w' : World), I y7 y56 w' → μ y7 y56 w' < μ x7 x56 w → E1 y7 y56 w') → f93_l2_t x1 x7 x55 x56 K E1 w) : f93_l2 K x1 x7 x55 x56 w :=
  ⟨I, μ, h0, fun σ w hI E hE => cast (by kernel_rfl) (hr (σ 7) (σ 56) w hI E hE)⟩
def f93_k3_t (x1 x7 x55 x56 : Value) (K : K1) (E1 : VP2) (w : World) : Prop :=
 ev Tryz.prog (binM .add 3 (.tmp 56) (.const (.int .i64 1)) x56 (.int .i64 1)) w fun t86 w_1 =>
 E1 x7 t86 w_1
theorem f93_k3_eq (K : K1) (E1 : VP2) (x1 x7 x55 x56 : Value) (w : World) : f93_k3 K E1 x1 x7 x55 x56 w = f93_k3_t x1 x7 x55 x56 K E1 w := cutE fun σ => by kernel_rfl
def f93_k4_t (x1 x7 x8 x9 x10 x55 x56 : Value) (K : K1) (E1 : VP2) (w : World) : Prop :=
 ev Tryz.prog (Op.unary .not x10) w fun t72 w_1 =>
 gd t72 false (fun k => ldS Tryz.prog 129 x9 w_1 k) w_1 fun t74 w_2 =>
 gd t72 false (fun k => callS Tryz.prog 95 (pA #[t74]) w_2 k) w_2 fun t75 w_3 =>
 gd t72 false (fun k => ev Tryz.prog (Op.unary .not t75) w_3 k) w_3 fun t76 w_4 =>
 pickS t72 (.bool true) t76 w_4 fun t77 w_5 =>
 cndS t77 (
 K (.bool false) w_5) (
 ev Tryz.prog (Instr.fieldAt 129 x9 2) w_5 fun t78 w_6 =>
 ldS Tryz.prog 5 t78 w_6 fun t79 w_7 =>
 ev Tryz.prog (binM .neq 5 (.tmp 79) (.const (.int .u8 ((176 : Nat) : Int))) t79 (.int .u8 ((176 : Nat) : Int))) w_7 fun t80 w_8 =>
 cndS t80 (
 ev Tryz.prog (convert 3 100 x8) w_8 fun t83 w_9 =>
 ev Tryz.prog (binM .shl 33 (.const (.int .u64 ((1 : Nat) : Int))) (.tmp 83) (.int .u64 ((1 : Nat) : Int)) t83) w_9 fun t84 w_10 =>
 ev Tryz.prog (binM .or 33 (.tmp 81) (.tmp 84) x7 t84) w_10 fun t85 w_11 =>
 f93_k3 K E1 x1 t85 x55 x56 w_11) (
 f93_k3 K E1 x1 x7 x55 x56 w_8))
theorem f93_k4_eq (K : K1) (E1 : VP2) (x1 x7 x8 x9 x10 x55 x56 : Value) (w : World) : f93_k4 K E1 x1 x7 x8 x9 x10 x55 x56 w = f93_k4_t x1 x7 x8 x9 x10 x55 x56 K E1 w := cutE fun σ => by kernel_rfl
def f93_t (x0 : Value) (K : K1) (w : World) : Prop :=
 ev Tryz.prog (Instr.box 58 x0) w fun t1 w_1 =>
 ev Tryz.prog (Instr.fieldAt 58 t1 1) w_1 fun t11 w_2 =>
 ldS Tryz.prog 3 t11 w_2 fun t12 w_3 =>
 callS Tryz.prog 69 (pA #[t12]) w_3 fun t13 w_4 =>
 ev Tryz.prog (Instr.fieldAt 58 t1 0) w_4 fun t15 w_5 =>
 ldS Tryz.prog 56 t15 w_5 fun t16 w_6 =>
 invS Tryz.prog t16 "Load" (pA #[t13]) w_6 fun t18 w_7 =>
 callS Tryz.prog 85 (pA #[t18]) w_7 fun t19 w_8 =>
 ev Tryz.prog (Instr.extract t19 0) w_8 fun t20 w_9 =>
 ev Tryz.prog (Instr.extract t19 1) w_9 fun t21 w_10 =>
 ev Tryz.prog (Instr.alloc 24 true (.tuple #[])) w_10 fun t4 w_11 =>
 stS Tryz.prog 24 t4 t20 w_11 fun w_12 =>
 ev Tryz.prog (Op.unary .not t21) w_12 fun t23 w_13 =>
 gd t23 false (fun k => ev Tryz.prog (Instr.fieldAt 24 t4 0) w_13 k) w_13 fun t25 w_14 =>
 gd t23 false (fun k => ldS Tryz.prog 3 t25 w_14 k) w_14 fun t26 w_15 =>
 gd t23 false (fun k => ev Tryz.prog (Instr.fieldAt 58 t1 2) w_15 k) w_15 fun t27 w_16 =>
 gd t23 false (fun k => ev Tryz.prog (Instr.fieldAt 24 t27 0) w_16 k) w_16 fun t28 w_17 =>
 gd t23 false (fun k => ldS Tryz.prog 3 t28 w_17 k) w_17 fun t29 w_18 =>
 gd t23 false (fun k => ev Tryz.prog (binM .neq 3 (.tmp 26) (.tmp 29) t26 t29) w_18 k) w_18 fun t30 w_19 =>
 pickS t23 (.bool true) t30 w_19 fun t31 w_20 =>
 gd t31 false (fun k => ev Tryz.prog (Instr.fieldAt 24 t4 1) w_20 k) w_20 fun t33 w_21 =>
 gd t31 false (fun k => ldS Tryz.prog 3 t33 w_21 k) w_21 fun t34 w_22 =>
 gd t31 false (fun k => ev Tryz.prog (Instr.fieldAt 58 t1 2) w_22 k) w_22 fun t35 w_23 =>
 gd t31 false (fun k => ev Tryz.prog (Instr.fieldAt 24 t35 1) w_23 k) w_23 fun t36 w_24 =>
 gd t31 false (fun k => ldS Tryz.prog 3 t36 w_24 k) w_24 fun t37 w_25 =>
 gd t31 false (fun k => ev Tryz.prog (binM .neq 3 (.tmp 34) (.tmp 37) t34 t37) w_25 k) w_25 fun t38 w_26 =>
 pickS t31 (.bool true) t38 w_26 fun t39 w_27 =>
 cndS t39 (
 K (.bool false) w_27) (
 f93_l1 K t1 t13 (.int .u64 ((2 : Nat) : Int)) w_27)
theorem f93_call (x0 : Value) (K : K1) (w : World) (h : f93_t x0 K w) : callS Tryz.prog 93 #[x0] w K :=
  call_of_txt (args := [x0]) mixed Tryz.func93 f93_u.2 (by kernel_rfl) (cast (by kernel_rfl) h)
def f96_t (x0 x1 : Value) (K : K1) (w : World) : Prop :=
 ev Tryz.prog (Instr.box 58 x0) w fun t2 w_1 =>
 ev Tryz.prog (Instr.fieldAt 58 t2 2) w_1 fun t8 w_2 =>
 ev Tryz.prog (Instr.fieldAt 24 t8 0) w_2 fun t9 w_3 =>
 ldS Tryz.prog 3 t9 w_3 fun t10 w_4 =>
 callS Tryz.prog 74 (pA #[t10, x1]) w_4 fun t12 w_5 =>
 ev Tryz.prog (Instr.extract t12 0) w_5 fun t13 w_6 =>
 ev Tryz.prog (Instr.extract t12 1) w_6 fun t14 w_7 =>
 ev Tryz.prog (Instr.fieldAt 58 t2 1) w_7 fun t15 w_8 =>
 ldS Tryz.prog 3 t15 w_8 fun t16 w_9 =>
 callS Tryz.prog 69 (pA #[t16]) w_9 fun t17 w_10 =>
 ev Tryz.prog (convert 3 33 t13) w_10 fun t19 w_11 =>
 ev Tryz.prog (binM .mul 33 (.tmp 19) (.const (.int .u64 ((8 : Nat) : Int))) t19 (.int .u64 ((8 : Nat) : Int))) w_11 fun t20 w_12 =>
 ev Tryz.prog (binM .add 33 (.tmp 17) (.tmp 20) t17 t20) w_12 fun t21 w_13 =>
 K t21 w_13
theorem f96_call (x0 x1 : Value) (K : K1) (w : World) (h : f96_t x0 x1 K w) : callS Tryz.prog 96 #[x0, x1] w K :=
  call_of_txt (args := [x0, x1]) mixed Tryz.func96 .o (by kernel_rfl) (cast (by kernel_rfl) h)
def f99_t (x0 x1 : Value) (K : K1) (w : World) : Prop :=
 ev Tryz.prog (Instr.box 58 x0) w fun t2 w_1 =>
 ev Tryz.prog (Instr.fieldAt 58 t2 1) w_1 fun t7 w_2 =>
 ldS Tryz.prog 3 t7 w_2 fun t8 w_3 =>
 callS Tryz.prog 69 (pA #[t8]) w_3 fun t9 w_4 =>
 ev Tryz.prog (Instr.fieldAt 58 t2 0) w_4 fun t10 w_5 =>
 ldS Tryz.prog 56 t10 w_5 fun t11 w_6 =>
 ev Tryz.prog (binM .eql 56 (.tmp 11) (.const .nilIface) t11 .nilIface) w_6 fun t12 w_7 =>
 gd t12 false (fun k => k x1 w_7) w_7 fun t14 w_8 =>
 gd t12 false (fun k => k t9 w_8) w_8 fun t15 w_9 =>
 gd t12 false (fun k => ev Tryz.prog (binM .lss 33 (.tmp 14) (.tmp 15) t14 t15) w_9 k) w_9 fun t16 w_10 =>
 pickS t12 (.bool true) t16 w_10 fun t17 w_11 =>
 gd t17 false (fun k => k x1 w_11) w_11 fun t19 w_12 =>
 gd t17 false (fun k => k t9 w_12) w_12 fun t20 w_13 =>
 gd t17 false (fun k => ev Tryz.prog (binM .sub 33 (.tmp 19) (.tmp 20) t19 t20) w_13 k) w_13 fun t21 w_14 =>
 gd t17 false (fun k => ev Tryz.prog (binM .geq 33 (.tmp 21) (.const (.int .u64 ((2048 : Nat) : Int))) t21 (.int .u64 ((2048 : Nat) : Int))) w_14 k) w_14 fun t22 w_15 =>
 pickS t17 (.bool true) t22 w_15 fun t23 w_16 =>
 cndS t23 (
 K (.tuple #[(.int .i64 0), (.bool false)]) w_16) (
 ev Tryz.prog (Instr.fieldAt 58 t2 2) w_16 fun t24 w_17 =>
 ev Tryz.prog (Instr.fieldAt 24 t24 0) w_17 fun t25 w_18 =>
 ldS Tryz.prog 3 t25 w_18 fun t26 w_19 =>
 ev Tryz.prog (binM .sub 33 (.tmp 27) (.tmp 28) x1 t9) w_19 fun t29 w_20 =>
 ev Tryz.prog (binM .quo 33 (.tmp 29) (.const (.int .u64 ((8 : Nat) : Int))) t29 (.int .u64 ((8 : Nat) : Int))) w_20 fun t30 w_21 =>
 ev Tryz.prog (convert 33 3 t30) w_21 fun t31 w_22 =>
 callS Tryz.prog 115 (pA #[t26, t31]) w_22 fun t32 w_23 =>
 ev Tryz.prog (Instr.extract t32 0) w_23 fun t33 w_24 =>
 ev Tryz.prog (Instr.extract t32 1) w_24 fun t34 w_25 =>
 K (.tuple #[t33, t34]) w_25)
theorem f99_call (x0 x1 : Value) (K : K1) (w : World) (h : f99_t x0 x1 K w) : callS Tryz.prog 99 #[x0, x1] w K :=
  call_of_txt (args := [x0, x1]) mixed Tryz.func99 .o (by kernel_rfl) (cast (by kernel_rfl) h)
end Go.Proofs.YtaeopkhdokaaoaaGreatDoor
namespace Go.Proofs.YtaeopkhdokaaoaaGreatDoor
open Go Go.Sh
set_option maxRecDepth 100000
set_option maxHeartbeats 4000000
set_option linter.unusedSimpArgs false
set_option linter.unusedVariables false
section
variable {w w' : World}
def clrI (l g : Nat) : List Ins := storesI [(l * 64, sealN (hdX (-1) (-1) g))]
theorem storesI_pos (ws : List (Nat × Nat)) : 0 < (storesI ws).length := by simp [storesI]; omega
theorem k_Clear (hG : Glob w) (l g : Nat) (hl : l ≤ 4064) (hg : g ≠ 0) (hg' : g < 65536) (K : K1) (hK : ∀ v' w', SlO w' 133 3 v' (clrI l g).length (inL (clrI l g)) → Ext w w' → NewV w.heap.size v' → K (.tuple #[v', .int .i64 0]) w') :
    callS Tryz.prog 13 #[.int .i64 (l : Int), .int .u16 (g : Int)] w K := by
  refine f13_call _ _ _ _ ?_
  unfold f13_t
  have hw : ∀ (w1 : World) (K : K1), Ext w w1 → callS Tryz.prog 70 #[.agg #[.int .i64 (-1), .int .i64 (-1), .int .u16 (g : Int)]] w1 K = K (.int .u64 ((sealN (hdX (-1) (-1) g) : Nat) : Int)) ((w1.alloc (hdO (-1) (-1) g)).alloc (sealO (hdX (-1) (-1) g))) := fun w1 K he => c_hword (-1) (-1) g w1 K (hG.ext he) hg' (by omega) (by omega) (by omega) (by omega)
  (repeat' (first | (with_reducible refine brS_mk (fun _ => ?_) (fun _ => ?_)) | (with_reducible refine And.intro ?_ ?_) | (simp (disch := first | omega | simp only [RO] | (simp only [RZ] <;> omega) | (with_reducible (repeat (first | assumption | exact Ext.refl _ | refine Ext.alloc ?_ _ | refine Ext.drew ?_ | refine Ext.trans ?_ (by assumption)))) | fail) only [↓RBp, ↓RA, ↓reduceIte, Nat.reduceAdd, Nat.reduceMul, Nat.reduceEqDiff, RB, RX, RA2, c_possible, c_line, hw, Int.toNat_natCast])))
  refine k_Stores [(l * 64, sealN (hdX (-1) (-1) g))] _ ?_ (by simp) (by simp) ?_ _ (fun v' w' hs he hn => ?_)
  · exact (SlO.lit' _ 37 2 1 (wrL [(l * 64, sealN (hdX (-1) (-1) g))]) rfl (by decide) (by simp only [RZ])).ext (Ext.refl _).drew
  · intro x hx; simp only [List.mem_singleton] at hx; subst hx; simp only; omega
  · refine hK v' w' hs (Ext.trans (by repeat (first | (with_reducible first | refine eB ?_ (by first | omega | (simp only [RZ] <;> omega)) _ | assumption | exact eR _ | refine eA ?_ _ | refine eD ?_ | refine eT ?_ (by assumption)) | exact eR _)) he) (fun b hb => Nat.le_trans ?_ (hn b hb))
    simp only [RZ]; omega
theorem k_ClearBad (l : Int) (g : Nat) (h : ¬ (0 ≤ l ∧ l ≤ 4064) ∨ g = 0) (K : K1) (hK : K (.tuple #[.slice none 0 0, .int .i64 1]) w) :
    callS Tryz.prog 13 #[.int .i64 l, .int .u16 (g : Int)] w K := by
  refine f13_call _ _ _ _ ?_
  unfold f13_t
  by_cases hl : 0 ≤ l ∧ l ≤ 4064
  · have hg : g = 0 := by rcases h with h | h; exact absurd hl h; exact h
    subst hg
    have e : (decide (0 ≤ l) && decide (l ≤ 4064)) = true := by simp [hl]
    simp (disch := first | omega | simp only [RO] | (simp only [RZ] <;> omega) | fail) only [↓RBp, ↓RA, ↓reduceIte, Nat.reduceAdd, Nat.reduceMul, Nat.reduceEqDiff, RB, RX, RA2, c_possible, e]
    exact hK
  · have e : (decide (0 ≤ l) && decide (l ≤ 4064)) = false := by simp; omega
    simp (disch := first | omega | simp only [RO] | (simp only [RZ] <;> omega) | fail) only [↓RBp, ↓RA, ↓reduceIte, Nat.reduceAdd, Nat.reduceMul, Nat.reduceEqDiff, RB, RX, RA2, c_possible, e]
    exact hK
def planW (l : Nat) (c : Int) (g : Nat) : List (Nat × Nat) := (List.range (perS c).toNat).map (fun (i : Nat) => (l * 64 + (offS c (i : Int)).toNat * 8, sealN (blkX g 0 176))) ++ (List.range 7).map (fun k => (l * 64 + (k + 1) * 8, 0))
def planI (l : Nat) (c o : Int) (g : Nat) : List Ins := storesI (planW l c g) ++ storesI [(l * 64, sealN (hdX c o g))]
theorem planW_len (l : Nat) (c : Int) (g : Nat) : (planW l c g).length = (perS c).toNat + 7 := by simp [planW]
theorem k_Plan (hG : Glob w) (l : Nat) (c o : Int) (g : Nat) (hl : l ≤ 4064) (hc0 : 0 ≤ c) (hc : c < 5) (ho0 : 0 ≤ o) (ho : o < 8) (hg : g ≠ 0) (hg' : g < 65536) (K : K1) (hK : ∀ v' w', SlO w' 133 3 v' (planI l c o g).length (inL (planI l c o g)) → Ext w w' → NewV w.heap.size v' → K (.tuple #[v', .int .i64 0]) w') :
    callS Tryz.prog 14 #[.int .i64 (l : Int), .agg #[.int .i64 c, .int .i64 o, .int .u16 (g : Int)]] w K := by
  refine f14_call _ _ _ _ ?_
  unfold f14_t
  have hp := perS_in hc0 hc
  have hwd := wordsS_in hc0 hc
  have hf : ∀ (w1 : World) (K : K1), Ext w w1 → callS Tryz.prog 71 #[.agg #[.int .i64 c, .int .i64 o, .int .u16 (g : Int)]] w1 K = K (.bool true) (w1.alloc (hdO c o g)) := fun w1 K he => by
    rw [c_formatted c o g w1 K (hG.ext he)]
    have : fmtB c o = true := by simp [fmtB]; omega
    rw [this]
  have hb : ∀ (w1 : World) (K : K1), Ext w w1 → callS Tryz.prog 72 #[.agg #[.int .u16 (g : Int), .int .u8 ((0 : Nat) : Int), .int .u8 ((176 : Nat) : Int)]] w1 K = K (.int .u64 ((sealN (blkX g 0 176) : Nat) : Int)) ((w1.alloc (blkO g 0 176)).alloc (sealO (blkX g 0 176))) := fun w1 K he => c_bword g 0 176 w1 K (hG.ext he) hg' (by omega) (by omega)
  have hpc : ∀ (w1 : World) (K : K1), Ext w w1 → callS Tryz.prog 73 #[.int .i64 c] w1 K = K (.int .i64 (perS c)) w1 := fun w1 K he => c_PerChunk c w1 K (hG.ext he)
  have hw : ∀ (w1 : World) (K : K1), Ext w w1 → callS Tryz.prog 70 #[.agg #[.int .i64 c, .int .i64 o, .int .u16 (g : Int)]] w1 K = K (.int .u64 ((sealN (hdX c o g) : Nat) : Int)) ((w1.alloc (hdO c o g)).alloc (sealO (hdX c o g))) := fun w1 K he => c_hword c o g w1 K (hG.ext he) hg' (by omega) (by omega) (by omega) (by omega)
  have hof : ∀ (i : Nat) (w1 : World) (K : K1), Ext w w1 → i < (perS c).toNat → callS Tryz.prog 74 #[.int .i64 c, .int .i64 (i : Int)] w1 K = K (.tuple #[.int .i64 (((offS c (i : Int)).toNat : Nat) : Int), .int .i64 0]) w1 := fun i w1 K he hi => by
    have hb := offS_bd hc0 hc (show 0 ≤ (i : Int) by omega) (by omega)
    rw [c_Offset c i w1 K (hG.ext he) hc0 hc (by omega) (by omega), show (((offS c (i : Int)).toNat : Nat) : Int) = offS c i by omega]
  (repeat' (first | (with_reducible refine brS_mk (fun _ => ?_) (fun _ => ?_)) | (with_reducible refine And.intro ?_ ?_) | (simp (disch := first | omega | simp only [RO] | (simp only [RZ] <;> omega) | (with_reducible (repeat (first | assumption | exact Ext.refl _ | refine Ext.alloc ?_ _ | refine Ext.drew ?_ | refine Ext.trans ?_ (by assumption)))) | fail) only [↓RBp, ↓RA, ↓reduceIte, Nat.reduceAdd, Nat.reduceMul, Nat.reduceEqDiff, RB, RX, RA2, c_possible, c_line, hf, hb, hpc, Int.toNat_natCast])))
  have e1 : Ext w (w.alloc (.cells #[.int .i64 c, .int .i64 o, .int .u16 (g : Int)] 24)) := Ext.alloc_self _ _
  have hcell : ∀ w', Ext (w.alloc (.cells #[.int .i64 c, .int .i64 o, .int .u16 (g : Int)] 24)) w' → w'.cell? ⟨w.heap.size, 0, none⟩ = some (.int .i64 c) ∧ w'.cell? ⟨w.heap.size, 1, none⟩ = some (.int .i64 o) ∧ w'.cell? ⟨w.heap.size, 2, none⟩ = some (.int .u16 (g : Int)) := by
    intro w' he
    have : ∀ i, w'.cell? ⟨w.heap.size, i, none⟩ = _ := fun i => he.cell _ i (by simp only [RZ]; omega)
    refine ⟨?_, ?_, ?_⟩ <;> (rw [this, cell_new _ _ _ _ _ rfl]; rfl)
  generalize hw1 : w.alloc (.cells #[.int .i64 c, .int .i64 o, .int .u16 (g : Int)] 24) = w1 at *
  have s1 : w.heap.size < w1.heap.size := by rw [← hw1]; simp only [RZ]; omega
  generalize hA : (List.range (perS c).toNat).map (fun (i : Nat) => (l * 64 + (offS c (i : Int)).toNat * 8, sealN (blkX g 0 176))) = A
  have hAl : A.length = (perS c).toNat := by rw [← hA]; simp
  generalize hB : (List.range 7).map (fun k => (l * 64 + (k + 1) * 8, 0)) = B
  have hBl : B.length = 7 := by rw [← hB]; simp
  have hAB : planW l c g = A ++ B := by unfold planW; rw [hA, hB]
  have hper : perS c = (((perS c).toNat : Nat) : Int) := by omega
  generalize hn : (perS c).toNat = n at *
  rw [hper]
  apply f14_l1_rule (I := fun x z w' => ∃ i : Nat, z = .int .i64 (i : Int) ∧ i ≤ n ∧ SlO w' 37 2 x i (wrL (A.take i)) ∧ Frm Nob w1 w' ∧ NewV w1.heap.size x) (μ := fun _ z _ => n - (Go.RowKit.intOf z).toNat)
  · exact ⟨0, rfl, by omega, SlO.nil _ _ _, Frm.of_ext (by repeat (first | (with_reducible first | refine eB ?_ (by first | omega | (simp only [RZ] <;> omega)) _ | assumption | exact eR _ | refine eA ?_ _ | refine eD ?_ | refine eT ?_ (by assumption)) | exact eR _)), fun b hb => by cases hb⟩
  · intros; rename_i w2 hI E1 hE
    obtain ⟨i, rfl, hi, sp, f2, n2⟩ := hI
    have e2 : Ext w1 w2 := f2.to_ext (fun _ _ h => h)
    have e02 : Ext w w2 := e1.trans e2
    obtain ⟨q0, q1, q2⟩ := hcell w2 e2
    obtain ⟨pa, pc, rfl, hpc2⟩ := sp.isS'
    have lt2 : w.heap.size < w2.heap.size := Nat.lt_of_lt_of_le s1 e2.size
    unfold f14_l1_t
    by_cases hin : i < n
    · have hb2 := offS_bd hc0 hc (show 0 ≤ (i : Int) by omega) (by omega)
      generalize ho2 : (offS c (i : Int)).toNat = oi at *
      have hA2 : A[i]? = some (l * 64 + oi * 8, sealN (blkX g 0 176)) := by rw [← hA]; simp [hin, ho2]
      have hof2 : ∀ (w1 : World) (K : K1), Ext w w1 → callS Tryz.prog 74 #[.int .i64 c, .int .i64 (i : Int)] w1 K = K (.tuple #[.int .i64 (oi : Int), .int .i64 0]) w1 := fun w1 K he => by rw [hof i w1 K he hin, ho2]
      simp (disch := first | omega | simp only [RO] | (simp only [RZ] <;> omega) | (with_reducible (repeat (first | assumption | exact Ext.refl _ | refine Ext.alloc ?_ _ | refine Ext.drew ?_ | refine Ext.trans ?_ (by assumption)))) | fail) only [↓RBp, ↓RA, ↓reduceIte, Nat.reduceAdd, Nat.reduceMul, Nat.reduceEqDiff, RB, RX, RA2, q0, q1, q2, hof2, c_line, Int.toNat_natCast]
      refine app_new elWrite (w0 := w1) (sp.ext (by repeat (first | (with_reducible first | refine eB ?_ (by first | omega | (simp only [RZ] <;> omega)) _ | assumption | exact eR _ | refine eA ?_ _ | refine eD ?_ | refine eT ?_ (by assumption)) | exact eR _))) (f2.ext (by repeat (first | (with_reducible first | refine eB ?_ (by first | omega | (simp only [RZ] <;> omega)) _ | assumption | exact eR _ | refine eA ?_ _ | refine eD ?_ | refine eT ?_ (by assumption)) | exact eR _))) n2 (m := 1) (news := wrL [(l * 64 + oi * 8, sealN (blkX g 0 176))]) (by simp [wrL]) ?_ rfl (by omega) (by omega) (by omega) (fun v' w3 hsp hf3 n3 _ _ => ?_)
      · intro j u hj
        rw [Nat.zero_add, cell_new _ _ _ _ _ (by simp only [RZ])]
        simpa [wrL, u64] using hj
      simp (disch := first | omega | simp only [RO] | (simp only [RZ] <;> omega) | fail) only [↓RBp, ↓RA, ↓reduceIte, Nat.reduceAdd, Nat.reduceMul, Nat.reduceEqDiff, RB, RX, RA2]
      apply hE
      · refine ⟨i + 1, by simp, by omega, ?_, hf3, n3⟩
        rw [take_snoc' hA2, wrL_append]; exact hsp
      · simp [Go.RowKit.intOf]; omega
    · have : i = n := by omega
      subst this
      have hAt : A.take i = A := by rw [← hAl, List.take_length]
      rw [hAt] at sp
      simp (disch := first | omega | simp only [RO] | (simp only [RZ] <;> omega) | fail) only [↓RBp, ↓RA, ↓reduceIte, Nat.reduceAdd, Nat.reduceMul, Nat.reduceEqDiff, RB, RX, RA2, f14_k1_eq, f14_k1_t]
      apply f14_l2_rule (I := fun x z w' => ∃ k : Nat, z = .int .u64 ((k + 1 : Nat) : Int) ∧ k ≤ 7 ∧ SlO w' 37 2 x (i + k) (wrL (A ++ B.take k)) ∧ Frm Nob w1 w' ∧ NewV w1.heap.size x) (μ := fun _ z _ => 8 - (Go.RowKit.intOf z).toNat)
      · exact ⟨0, rfl, by omega, by simpa using sp, f2, n2⟩
      · intros; rename_i w3 hI3 E3 hE3
        obtain ⟨k, rfl, hk, sp3, f3, n3⟩ := hI3
        have e3 : Ext w1 w3 := f3.to_ext (fun _ _ h => h)
        have e03 : Ext w w3 := e1.trans e3
        obtain ⟨q0, q1, q2⟩ := hcell w3 e3
        obtain ⟨pa3, pc3, rfl, hpc3⟩ := sp3.isS'
        have lt3 : w.heap.size < w3.heap.size := Nat.lt_of_lt_of_le s1 e3.size
        unfold f14_l2_t
        by_cases hk7 : k < 7
        · have hB2 : B[k]? = some (l * 64 + (k + 1) * 8, 0) := by rw [← hB]; simp [hk7]
          simp (disch := first | omega | simp only [RO] | (simp only [RZ] <;> omega) | (with_reducible (repeat (first | assumption | exact Ext.refl _ | refine Ext.alloc ?_ _ | refine Ext.drew ?_ | refine Ext.trans ?_ (by assumption)))) | fail) only [↓RBp, ↓RA, ↓reduceIte, Nat.reduceAdd, Nat.reduceMul, Nat.reduceEqDiff, RB, RX, RA2, c_line, Int.toNat_natCast]
          refine app_new elWrite (w0 := w1) (sp3.ext (by repeat (first | (with_reducible first | refine eB ?_ (by first | omega | (simp only [RZ] <;> omega)) _ | assumption | exact eR _ | refine eA ?_ _ | refine eD ?_ | refine eT ?_ (by assumption)) | exact eR _))) (f3.ext (by repeat (first | (with_reducible first | refine eB ?_ (by first | omega | (simp only [RZ] <;> omega)) _ | assumption | exact eR _ | refine eA ?_ _ | refine eD ?_ | refine eT ?_ (by assumption)) | exact eR _))) n3 (m := 1) (news := wrL [(l * 64 + (k + 1) * 8, 0)]) (by simp [wrL]) ?_ rfl (by omega) (by omega) (by omega) (fun v' w4 hsp hf4 n4 _ _ => ?_)
          · intro j u hj
            rw [Nat.zero_add, cell_new _ _ _ _ _ (by simp only [RZ])]
            simpa [wrL, u64] using hj
          simp (disch := first | omega | simp only [RO] | (simp only [RZ] <;> omega) | fail) only [↓RBp, ↓RA, ↓reduceIte, Nat.reduceAdd, Nat.reduceMul, Nat.reduceEqDiff, RB, RX, RA2]
          apply hE3
          · refine ⟨k + 1, by simp, by omega, ?_, hf4, n4⟩
            rw [take_snoc' hB2, ← List.append_assoc, wrL_append]; exact hsp
          · simp [Go.RowKit.intOf]; omega
        · have : k = 7 := by omega
          subst this
          have hBt : B.take 7 = B := by rw [← hBl, List.take_length]
          rw [hBt, ← hAB] at sp3
          have hpl : i + 7 = (planW l c g).length := by rw [hAB]; simp [hAl, hBl]
          rw [hpl] at sp3
          (repeat' (first | (with_reducible refine brS_mk (fun _ => ?_) (fun _ => ?_)) | (with_reducible refine And.intro ?_ ?_) | (simp (disch := first | omega | simp only [RO] | (simp only [RZ] <;> omega) | (with_reducible (repeat (first | assumption | exact Ext.refl _ | refine Ext.alloc ?_ _ | refine Ext.drew ?_ | refine Ext.trans ?_ (by assumption)))) | fail) only [↓RBp, ↓RA, ↓reduceIte, Nat.reduceAdd, Nat.reduceMul, Nat.reduceEqDiff, RB, RX, RA2, q0, q1, q2, hw, c_line, Int.toNat_natCast, f14_k2_eq, f14_k2_t])))
          refine k_Stores [(l * 64, sealN (hdX c o g))] _ ?_ (by simp) (by simp) ?_ _ (fun v4 w4 s4 e4 n4 => ?_)
          · exact (SlO.lit' _ 37 2 1 (wrL [(l * 64, sealN (hdX c o g))]) rfl (by decide) (by simp only [RZ])).ext (Ext.refl _).drew
          · intro x hx; simp only [List.mem_singleton] at hx; subst hx; simp only; omega
          have e34 : Ext w3 w4 := Ext.trans (by repeat (first | (with_reducible first | refine eB ?_ (by first | omega | (simp only [RZ] <;> omega)) _ | assumption | exact eR _ | refine eA ?_ _ | refine eD ?_ | refine eT ?_ (by assumption)) | exact eR _)) e4
          try simp (disch := first | omega | simp only [RO] | (simp only [RZ] <;> omega) | fail) only [↓RBp, ↓RA, ↓reduceIte, Nat.reduceAdd, Nat.reduceMul, Nat.reduceEqDiff, RB, RX, RA2]
          rw [hpl]
          refine k_Stores (planW l c g) _ (sp3.ext e34) (by omega) (by omega) ?_ _ (fun v5 w5 s5 e5 n5 => ?_)
          · rw [hAB]
            intro x hx
            rcases List.mem_append.1 hx with hx | hx
            · rw [← hA] at hx
              obtain ⟨j, hj, rfl⟩ := List.mem_map.1 hx
              have hb2 := offS_bd hc0 hc (show 0 ≤ (j : Int) by omega) (by rw [List.mem_range] at hj; omega)
              simp only; omega
            · rw [← hB] at hx
              obtain ⟨j, hj, rfl⟩ := List.mem_map.1 hx
              rw [List.mem_range] at hj
              simp only; omega
          try simp (disch := first | omega | simp only [RO] | (simp only [RZ] <;> omega) | fail) only [↓RBp, ↓RA, ↓reduceIte, Nat.reduceAdd, Nat.reduceMul, Nat.reduceEqDiff, RB, RX, RA2]
          have l1 := storesI_le (planW l c g)
          have l2 := storesI_le [(l * 64, sealN (hdX c o g))]
          simp only [List.length_singleton] at l2
          refine k_Then _ _ v5 v4 s5 (s4.ext e5) (storesI_pos _) (storesI_pos _) (by omega) (by omega) _ (fun v6 w6 s6 e6 n6 => ?_)
          have e06 : Ext w w6 := ((e03.trans e34).trans e5).trans e6
          refine hK v6 w6 s6 e06 (fun b hb => Nat.le_trans ?_ (n6 b hb))
          exact ((e03.trans e34).trans e5).size
theorem k_PlanBad (hG : Glob w) (l c o : Int) (g : Nat) (h : ¬ (0 ≤ l ∧ l ≤ 4064) ∨ fmtB c o = false ∨ g = 0) (K : K1) (hK : ∀ w', Ext w w' → K (.tuple #[.slice none 0 0, .int .i64 1]) w') :
    callS Tryz.prog 14 #[.int .i64 l, .agg #[.int .i64 c, .int .i64 o, .int .u16 (g : Int)]] w K := by
  refine f14_call _ _ _ _ ?_
  unfold f14_t
  have hf : ∀ (w1 : World) (K : K1), Ext w w1 → callS Tryz.prog 71 #[.agg #[.int .i64 c, .int .i64 o, .int .u16 (g : Int)]] w1 K = K (.bool (fmtB c o)) (w1.alloc (hdO c o g)) := fun w1 K he => c_formatted c o g w1 K (hG.ext he)
  by_cases hl : 0 ≤ l ∧ l ≤ 4064
  · have e : (decide (0 ≤ l) && decide (l ≤ 4064)) = true := by simp [hl]
    cases hfm : fmtB c o with
    | false =>
      rw [hfm] at hf
      simp (disch := first | omega | simp only [RO] | (simp only [RZ] <;> omega) | (with_reducible (repeat (first | assumption | exact Ext.refl _ | refine Ext.alloc ?_ _ | refine Ext.drew ?_ | refine Ext.trans ?_ (by assumption)))) | fail) only [↓RBp, ↓RA, ↓reduceIte, Nat.reduceAdd, Nat.reduceMul, Nat.reduceEqDiff, RB, RX, RA2, c_possible, e, hf]
      exact hK _ (by repeat (first | (with_reducible first | refine eB ?_ (by first | omega | (simp only [RZ] <;> omega)) _ | assumption | exact eR _ | refine eA ?_ _ | refine eD ?_ | refine eT ?_ (by assumption)) | exact eR _))
    | true =>
      rw [hfm] at hf
      have hg : g = 0 := by rcases h with h | h | h; exact absurd hl h; (rw [hfm] at h; cases h); exact h
      subst hg
      simp (disch := first | omega | simp only [RO] | (simp only [RZ] <;> omega) | (with_reducible (repeat (first | assumption | exact Ext.refl _ | refine Ext.alloc ?_ _ | refine Ext.drew ?_ | refine Ext.trans ?_ (by assumption)))) | fail) only [↓RBp, ↓RA, ↓reduceIte, Nat.reduceAdd, Nat.reduceMul, Nat.reduceEqDiff, RB, RX, RA2, c_possible, e, hf]
      exact hK _ (by repeat (first | (with_reducible first | refine eB ?_ (by first | omega | (simp only [RZ] <;> omega)) _ | assumption | exact eR _ | refine eA ?_ _ | refine eD ?_ | refine eT ?_ (by assumption)) | exact eR _))
  · have e : (decide (0 ≤ l) && decide (l ≤ 4064)) = false := by simp; omega
    simp (disch := first | omega | simp only [RO] | (simp only [RZ] <;> omega) | (with_reducible (repeat (first | assumption | exact Ext.refl _ | refine Ext.alloc ?_ _ | refine Ext.drew ?_ | refine Ext.trans ?_ (by assumption)))) | fail) only [↓RBp, ↓RA, ↓reduceIte, Nat.reduceAdd, Nat.reduceMul, Nat.reduceEqDiff, RB, RX, RA2, c_possible, e]
    exact hK _ (by repeat (first | (with_reducible first | refine eB ?_ (by first | omega | (simp only [RZ] <;> omega)) _ | assumption | exact eR _ | refine eA ?_ _ | refine eD ?_ | refine eT ?_ (by assumption)) | exact eR _))
end
end Go.Proofs.YtaeopkhdokaaoaaGreatDoor
namespace Go.Proofs.YtaeopkhdokaaoaaGreatDoor
open Go Go.Sh
set_option maxRecDepth 100000
set_option maxHeartbeats 4000000
set_option linter.unusedSimpArgs false
set_option linter.unusedVariables false
def u64L (l : List Nat) : List Value := l.map u64
section
variable {w w' : World} {Y : Lay} {D D' : DS}
theorem allOne_map_u64 (l : List Nat) : allOne (l.map u64) = true := by
  induction l with
  | nil => rfl
  | cons a l ih => simp [allOne, isOne, ih]
theorem k_Clone64 (l : List Nat) (b o cap : Nat) (hx : ∀ j u, (l.map u64)[j]? = some u → w.cell? ⟨b, o + j, none⟩ = some u) (hb : b < w.heap.size) (h0 : 0 < l.length) (hl : l.length < 1099511627776) (K : K1)
    (hK : ∀ b' c' w', Ext w w' → Cells w' b' 33 l.length (fun i => u64 (l.getD i 0)) → w.heap.size ≤ b' → l.length ≤ c' → K (.slice (some ⟨b', 0, none⟩) l.length c') w') : callS Tryz.prog 116 #[.slice (some ⟨b, o, none⟩) l.length cap] w K := by
  refine f116_call _ _ _ ?_
  unfold f116_t
  simp (disch := first | omega | simp only [RO] | (simp only [RZ] <;> omega) | fail) only [↓RBp, ↓RA, ↓reduceIte, Nat.reduceAdd, Nat.reduceMul, Nat.reduceEqDiff, RB, RX, RA2]
  refine blt_append el_72_72 (SlO.lit0 w 33 1) (news := l.map u64) (by simp) ?_ (allOne_map_u64 l) h0 (by omega) (by omega) (fun v' w' hv hf hn ho => ?_)
  · intro j u hj
    rw [cell_old _ _ _ _ hb]; exact hx j u hj
  · have he : Ext w w' := Frm.to_ext (F := fun b => b = w.heap.size) (((Frm.of_ext (Ext.alloc_self w _)).trans hf (fun x _ e => by injection e with e; exact e.symm))) (fun b hb => by omega)
    have hv2 := hv.2
    rw [Nat.zero_add] at hv2
    rcases hv2 with ⟨_, e⟩ | ⟨b', o', c', a, rfl, hh, h1, h2, h3, h4⟩
    · omega
    · have ho' : o' = 0 := by rcases ho with h | h <;> simpa [sOff] using h
      subst ho'
      refine hK b' c' w' he ⟨a, hh, by omega, ?_⟩ ?_ h1
      · intro i hi
        have h6 := h4 i (u64 (l.getD i 0)) (by simp [List.getElem?_map, List.getElem?_eq_getElem hi, List.getD_eq_getElem?_getD])
        simpa using h6
      · rcases hn b' rfl with h | h
        · have h' : w.heap.size = b' := by simpa [Value.ownBlock] using h
          omega
        · rw [size_alloc] at h; omega
def DS.init (n : Nat) (l : List Nat) : DS := { n := n, cur := fun i => l.getD i 0, pers := fun i => l.getD i 0, done := fun _ => 0, hist := fun _ => [], off := false, armed := false, left := 0, exe := 0, err := fun _ => 0, notes := fun _ _ => none }
theorem Good.init (n : Nat) (l : List Nat) (h0 : 0 < n) (hn : n ≤ 4096) (hl : ∀ x ∈ l, x < 18446744073709551616) : Good (DS.init n l) := by
  have hg : ∀ i, l.getD i 0 < 18446744073709551616 := by
    intro i
    rw [List.getD_eq_getElem?_getD]
    cases h : l[i]? with
    | none => simp
    | some x => exact hl x (List.mem_of_getElem? h)
  exact ⟨h0, hn, fun i _ => hg i, fun i _ => hg i, fun l _ o v h => by simp [DS.init] at h, fun l _ => Nat.le_refl _, ⟨Int.le_refl _, by show (0 : Int) < _; omega⟩, fun id _ k p h => by simp [DS.init] at h⟩
def tagO : Option Obj → Nat
  | some (.cells _ t _) => t
  | some (.map _ _) => 1000000
  | _ => 2000000
def devC (b cb cc lb n : Nat) : Array Value := #[.slice (some ⟨b, 0, none⟩) (8 * n) (8 * n), .slice (some ⟨cb, 0, none⟩) (8 * n) cc, .slice (some ⟨lb, 0, none⟩) n n, .pointer none, .pointer none, .pointer none, .pointer none, .pointer none, .pointer none, .pointer none, .pointer none, .bool false, .bool false, .int .i64 0, .int .u64 ((0 : Nat) : Int)]
structure Prt (w0 w : World) (d b cb cc lb n : Nat) (tb nb : Nat → Nat) (i : Nat) : Prop where
  dev : Cells w d 156 15 (fun j => if 3 ≤ j ∧ j < 3 + i then .pointer (some ⟨tb (j - 3), 0, none⟩) else (devC b cb cc lb n).getD j undef)
  th : ∀ j, j < i → Cells w (tb j) 142 4 (fun q => if q = 0 then .pointer (some ⟨d, 0, none⟩) else if q = 1 then .int .i64 (j : Int) else if q = 2 then .int .i64 0 else .map (some (nb j)))
  nt : ∀ j, j < i → w.heap[nb j]? = some (.map #[] 0)
  lo : ∀ j, j < i → d < tb j ∧ d < nb j
  inj : ∀ j q, j < i → q < i → (tb j = tb q ∨ nb j = nb q) → j = q
  ext : Frm (fun x => x = d) w0 w
theorem k_of1 (l : List Nat) (n b cb cc lb d : Nat) (w w1 : World) (hd : d = w1.heap.size) (h0 : 0 < n) (hn : n ≤ 4096) (hl : l.length = 8 * n) (hb : Cells w b 33 (8 * n) (fun i => u64 (l.getD i 0))) (he : Ext w w1) (hcb : Cells w1 cb 33 (8 * n) (fun i => u64 (l.getD i 0))) (h1 : w.heap.size ≤ cb) (hlb : Cells w1 lb 163 (2 * n) (fun i => (#[Value.int .u64 ((0 : Nat) : Int), .slice none 0 0])[i % 2]!)) (h2 : w.heap.size ≤ lb) (K : K1)
    (hK : ∀ w' Y, Ext w w' → Dv w' Y (DS.init n l) → (∀ x, Y.F x → x = b ∨ w.heap.size ≤ x) → K (.pointer (some ⟨Y.d, 0, none⟩)) w') : f110_k1 K (.pointer (some ⟨d, 0, none⟩)) (w1.alloc (.cells (devC b cb cc lb n) 156)) := by
  rw [f110_k1_eq]
  unfold f110_k1_t
  apply f110_l1_rule (I := fun x w' => ∃ (i : Nat) (tb nb : Nat → Nat), x = .int .i64 (i : Int) ∧ i ≤ 8 ∧ Prt (w1.alloc (.cells (devC b cb cc lb n) 156)) w' d b cb cc lb n tb nb i) (μ := fun x _ => 8 - (Go.RowKit.intOf x).toNat)
  · refine ⟨0, fun _ => 0, fun _ => 0, rfl, by omega, ⟨?_, fun j hj => by omega, fun j hj => by omega, fun j hj => by omega, fun j q hj => by omega, Frm.refl _ _⟩⟩
    subst hd
    refine (Cells.new w1 (devC b cb cc lb n).toList 156).congr (fun j hj => ?_)
    rw [if_neg (by omega)]; simp [List.getD_eq_getElem?_getD]
  · intros; rename_i w2 hI E1 hE
    obtain ⟨i, tb, nb, rfl, hi, hp⟩ := hI
    unfold f110_l1_t
    by_cases hi8 : i < 8
    · have c1 := hp.dev.cell (i := 3 + i) (by omega)
      have z1 := hp.dev.frz
      have lt := hp.dev.lt
      simp (disch := first | omega | simp only [RO] | (simp only [RZ] <;> omega) | fail) only [↓RBp, ↓RA, ↓reduceIte, Nat.reduceAdd, Nat.reduceMul, Nat.reduceEqDiff, RB, RX, RA2, c1, z1]
      have tl : ∀ j, j < i → tb j < w2.heap.size := fun j hj => (hp.th j hj).lt
      have nl : ∀ j, j < i → nb j < w2.heap.size := fun j hj => lt_of_heap (hp.nt j hj)
      apply hE
      · refine ⟨i + 1, fun j => if j = i then w2.heap.size + 1 else tb j, fun j => if j = i then w2.heap.size else nb j, by simp, by omega, ⟨?_, ?_, ?_, ?_, ?_, ?_⟩⟩
        · refine (((hp.dev.set _ (i := 3 + i) (by omega)).alloc _).alloc _).congr (fun j hj => ?_)
          by_cases e : j = 3 + i
          · subst e
            rw [if_pos rfl, if_pos (by omega), if_pos (by omega)]
          · rw [if_neg e]
            by_cases e2 : 3 ≤ j ∧ j < 3 + i
            · rw [if_pos e2, if_pos (by omega), if_neg (by omega)]
            · rw [if_neg e2, if_neg (by omega)]
        · intro j hj
          by_cases e : j = i
          · subst e
            simp only [if_true]
            have hnew := Cells.new ((w2.setCell ⟨d, 3 + j, none⟩ (.pointer (some ⟨w2.heap.size + 1, 0, none⟩))).alloc (.map #[] 0)) [.pointer (some ⟨d, 0, none⟩), .int .i64 (j : Int), .int .i64 0, .map (some w2.heap.size)] 142
            rw [size_alloc, size_set] at hnew
            refine hnew.congr (fun q hq => ?_)
            have hq' : q = 0 ∨ q = 1 ∨ q = 2 ∨ q = 3 := by simp at hq; omega
            rcases hq' with rfl | rfl | rfl | rfl <;> simp
          · have hj' : j < i := by omega
            simp only [e, if_false]
            exact (((hp.th j hj').set_ne _ (by show tb j ≠ d; have := (hp.lo j hj').1; omega)).alloc _).alloc _
        · intro j hj
          by_cases e : j = i
          · subst e
            simp only [if_true]
            rw [heap_alloc_lt _ (by rw [size_alloc, size_set]; omega)]
            have := heap_alloc_eq (w2.setCell ⟨d, 3 + j, none⟩ (.pointer (some ⟨w2.heap.size + 1, 0, none⟩))) (.map #[] 0)
            rw [size_set] at this; exact this
          · have hj' : j < i := by omega
            simp only [e, if_false]
            rw [heap_alloc_lt _ (by rw [size_alloc, size_set]; have := nl j hj'; omega), heap_alloc_lt _ (by rw [size_set]; exact nl j hj'), heap_set_ne _ (by show nb j ≠ d; have := (hp.lo j hj').2; omega)]
            exact hp.nt j hj'
        · intro j hj
          by_cases e : j = i
          · simp only [e, if_true]; omega
          · simp only [e, if_false]; exact hp.lo j (by omega)
        · intro j q hj hq hh
          by_cases e : j = i
          · by_cases e2 : q = i
            · omega
            · have a1 := tl q (by omega)
              have a2 := nl q (by omega)
              simp only [e, e2, if_true, if_false] at hh; omega
          · by_cases e2 : q = i
            · have a1 := tl j (by omega)
              have a2 := nl j (by omega)
              simp only [e, e2, if_true, if_false] at hh; omega
            · simp only [e, e2, if_false] at hh; exact hp.inj j q (by omega) (by omega) hh
        · exact ((hp.ext.set _ (fun _ => rfl)).alloc _).alloc _
      · simp [Go.RowKit.intOf]; omega
    · have : i = 8 := by omega
      subst this
      simp (disch := first | omega | simp only [RO] | (simp only [RZ] <;> omega) | fail) only [↓RBp, ↓RA, ↓reduceIte, Nat.reduceAdd, Nat.reduceMul, Nat.reduceEqDiff, RB, RX, RA2, f110_k2_eq, f110_k2_t]
      have ha := Frm.of_ext (F := fun x => x = d) (Ext.alloc_self w1 (.cells (devC b cb cc lb n) 156))
      have hf := ha.trans hp.ext (fun _ _ h => h)
      have hE2 : Ext w w2 := Frm.to_ext (F := fun x => x = d) ((Frm.of_ext he).trans hf (fun _ _ h => h)) (fun x hx => by have := he.size; omega)
      have c1 := hb.ext hE2
      have c2 := hcb.frm hf (by have := hcb.lt; omega)
      have c3 := hlb.frm hf (by have := hlb.lt; omega)
      have lb1 := hb.lt
      have wle := he.size
      refine hK w2 { n := n, d := d, pb := b, cb := cb, pc := 8 * n, cc := cc, lb := lb, tb := tb, nb := nb, hv := fun _ => .slice none 0 0 } hE2 ⟨rfl, ?_, c1, c2, ?_, ?_, ?_, ?_, ?_⟩ ?_
      · refine hp.dev.congr (fun j hj => ?_)
        by_cases e : 3 ≤ j ∧ j < 11
        · rw [if_pos (by omega)]; unfold devF; rw [if_neg (by omega), if_neg (by omega), if_neg (by omega), if_pos (by omega)]
        · rw [if_neg (by omega)]
          have hj' : j = 0 ∨ j = 1 ∨ j = 2 ∨ j = 11 ∨ j = 12 ∨ j = 13 ∨ j = 14 := by omega
          rcases hj' with rfl | rfl | rfl | rfl | rfl | rfl | rfl <;> rfl
      · refine c3.congr (fun j hj => ?_)
        have hj' : j % 2 = 0 ∨ j % 2 = 1 := by omega
        rcases hj' with e | e <;> simp [linF, DS.init, e]
      · intro q hq; exact SlO.nil _ _ _
      · intro j hj
        refine (hp.th j hj).congr (fun q hq => ?_)
        simp only [thF, DS.init]
      · intro j hj
        refine ⟨#[], 0, ?_⟩
        have : ntF (DS.init n l) j = fun _ => none := by funext q; rfl
        rw [this]; exact MapI.empty (hp.nt j hj)
      · obtain ⟨a1, o1, _⟩ := hp.dev
        obtain ⟨a2, o2, _⟩ := c1
        obtain ⟨a3, o3, _⟩ := c2
        obtain ⟨a4, o4, _⟩ := c3
        have nbc : b ≠ cb := by omega
        intro r r' x hr hr'
        have key : ∀ r, Lay.blk { n := n, d := d, pb := b, cb := cb, pc := 8 * n, cc := cc, lb := lb, tb := tb, nb := nb, hv := fun _ => .slice none 0 0 } r = some x →
            (r = .dev ∧ tagO w2.heap[x]? = 156) ∨ (r = .pe ∧ tagO w2.heap[x]? = 33 ∧ x = b) ∨ (r = .cu ∧ tagO w2.heap[x]? = 33 ∧ x = cb) ∨ (r = .li ∧ tagO w2.heap[x]? = 163) ∨ (∃ j, j < 8 ∧ r = .th j ∧ tagO w2.heap[x]? = 142 ∧ x = tb j) ∨ (∃ j, j < 8 ∧ r = .nt j ∧ tagO w2.heap[x]? = 1000000 ∧ x = nb j) := by
          intro r hr
          cases r with
          | dev => simp [Lay.blk] at hr; subst hr; exact .inl ⟨rfl, by rw [o1]; rfl⟩
          | pe => simp [Lay.blk] at hr; subst hr; exact .inr (.inl ⟨rfl, by rw [o2]; rfl, rfl⟩)
          | cu => simp [Lay.blk] at hr; subst hr; exact .inr (.inr (.inl ⟨rfl, by rw [o3]; rfl, rfl⟩))
          | li => simp [Lay.blk] at hr; subst hr; exact .inr (.inr (.inr (.inl ⟨rfl, by rw [o4]; rfl⟩)))
          | th j =>
            simp [Lay.blk] at hr
            obtain ⟨a, o, _⟩ := hp.th j hr.1
            exact .inr (.inr (.inr (.inr (.inl ⟨j, hr.1, rfl, by rw [← hr.2, o]; rfl, hr.2.symm⟩))))
          | nt j => simp [Lay.blk] at hr; exact .inr (.inr (.inr (.inr (.inr ⟨j, hr.1, rfl, by rw [← hr.2, hp.nt j hr.1]; rfl, hr.2.symm⟩))))
          | hs q => simp [Lay.blk, Value.ownBlock] at hr
        rcases key r hr with ⟨rfl, e1⟩ | ⟨rfl, e1, f1⟩ | ⟨rfl, e1, f1⟩ | ⟨rfl, e1⟩ | ⟨j, hj, rfl, e1, f1⟩ | ⟨j, hj, rfl, e1, f1⟩ <;>
        rcases key r' hr' with ⟨rfl, e2⟩ | ⟨rfl, e2, f2⟩ | ⟨rfl, e2, f2⟩ | ⟨rfl, e2⟩ | ⟨q, hq, rfl, e2, f2⟩ | ⟨q, hq, rfl, e2, f2⟩ <;>
        first
          | rfl
          | (exfalso; clear hr hr' key hK hl; omega)
          | (rw [hp.inj j q hj hq (.inl (f1.symm.trans f2))])
          | (rw [hp.inj j q hj hq (.inr (f1.symm.trans f2))])
      · rintro x ⟨r, hr⟩
        cases r with
        | dev => simp [Lay.blk] at hr; omega
        | pe => simp [Lay.blk] at hr; omega
        | cu => simp [Lay.blk] at hr; omega
        | li => simp [Lay.blk] at hr; omega
        | th j => simp [Lay.blk] at hr; have := (hp.lo j hr.1).1; omega
        | nt j => simp [Lay.blk] at hr; have := (hp.lo j hr.1).2; omega
        | hs q => simp [Lay.blk, Value.ownBlock] at hr
theorem k_of (l : List Nat) (n b : Nat) (h0 : 0 < n) (hn : n ≤ 4096) (hl : l.length = 8 * n) (hc : Cells w b 33 (8 * n) (fun i => u64 (l.getD i 0))) (K : K1)
    (hK : ∀ w' Y, Ext w w' → Dv w' Y (DS.init n l) → (∀ x, Y.F x → x = b ∨ w.heap.size ≤ x) → K (.pointer (some ⟨Y.d, 0, none⟩)) w') : callS Tryz.prog 110 #[.slice (some ⟨b, 0, none⟩) (8 * n) (8 * n)] w K := by
  have hx : ∀ (w : World) (hc : Cells w b 33 (8 * n) (fun i => u64 (l.getD i 0))) j u, (l.map u64)[j]? = some u → w.cell? ⟨b, 0 + j, none⟩ = some u := by
    intro w hc j u hj
    rw [Nat.zero_add]
    have hj' := (List.getElem?_eq_some_iff.1 hj).1
    rw [List.length_map] at hj'
    rw [hc.cell (by omega), ← hj]
    simp [List.getElem?_map, List.getElem?_eq_getElem hj', List.getD_eq_getElem?_getD]
  refine f110_call _ _ _ ?_
  unfold f110_t
  have hd := hc.drew
  have e8 : ((8 * n : Nat) : Int) / 8 = (n : Int) := by omega
  (repeat' (first | (with_reducible refine brS_mk (fun _ => ?_) (fun _ => ?_)) | (with_reducible refine And.intro ?_ ?_) | (simp (disch := first | omega | simp only [RO] | (simp only [RZ] <;> omega) | fail) only [↓RBp, ↓RA, ↓reduceIte, Nat.reduceAdd, Nat.reduceMul, Nat.reduceEqDiff, RB, RX, RA2, e8])))
  · rw [← hl]
    refine k_Clone64 l b 0 _ (hx _ hd) hd.lt (by omega) (by omega) _ (fun b' c' w1 he hcb hb' hc' => ?_)
    rw [hl] at hcb ⊢
    have hlt := hcb.lt
    (repeat' (first | (with_reducible refine brS_mk (fun _ => ?_) (fun _ => ?_)) | (with_reducible refine And.intro ?_ ?_) | (simp (disch := first | omega | simp only [RO] | (simp only [RZ] <;> omega) | fail) only [↓RBp, ↓RA, ↓reduceIte, Nat.reduceAdd, Nat.reduceMul, Nat.reduceEqDiff, RB, RX, RA2, e8])))
    refine k_of1 l n b b' c' w1.heap.size _ w (w1.alloc (.cells (zrow (.agg #[.int .u64 ((0 : Nat) : Int), .slice none 0 0]) (n * 2)) 163)) (by rw [size_alloc]) h0 hn hl hc (((Ext.refl w).drew.trans he).alloc _) (hcb.alloc _) hb' ?_ (by have := he.size; exact this) K hK
    rw [Nat.mul_comm 2 n]; exact zrow_cells w1 _ (n * 2) _
  · have hd2 := (hc.alloc (.cells (zrow (.agg #[.int .u64 ((0 : Nat) : Int), .slice none 0 0]) (n * 2)) 163)).drew
    rw [← hl]
    refine k_Clone64 l b 0 _ (hx _ hd2) hd2.lt (by omega) (by omega) _ (fun b' c' w1 he hcb hb' hc' => ?_)
    rw [hl] at hcb ⊢
    have hlt := hcb.lt
    have hlc := (zrow_cells w (.agg #[.int .u64 ((0 : Nat) : Int), .slice none 0 0]) (n * 2) 163).drew.ext he
    (repeat' (first | (with_reducible refine brS_mk (fun _ => ?_) (fun _ => ?_)) | (with_reducible refine And.intro ?_ ?_) | (simp (disch := first | omega | simp only [RO] | (simp only [RZ] <;> omega) | fail) only [↓RBp, ↓RA, ↓reduceIte, Nat.reduceAdd, Nat.reduceMul, Nat.reduceEqDiff, RB, RX, RA2, e8])))
    refine k_of1 l n b b' c' w.heap.size _ w w1 rfl h0 hn hl hc ((Ext.alloc_self w _).drew.trans he) hcb (by have h9 := hb'; rw [size_drew, size_alloc] at h9; omega) ?_ (Nat.le_refl _) K hK
    rw [Nat.mul_comm 2 n]; exact hlc
end
end Go.Proofs.YtaeopkhdokaaoaaGreatDoor
namespace Go.Proofs.YtaeopkhdokaaoaaGreatDoor
open Go Go.Sh
set_option maxRecDepth 100000
set_option maxHeartbeats 4000000
set_option linter.unusedSimpArgs false
set_option linter.unusedVariables false
section
variable {w w' : World} {Y : Lay} {D D' : DS}
def DS.zero (n : Nat) : DS := DS.init n (List.replicate (8 * n) 0)
theorem Good.zero (n : Nat) (h0 : 0 < n) (hn : n ≤ 4096) : Good (DS.zero n) := Good.init n _ h0 hn (fun x hx => by rw [List.eq_of_mem_replicate hx]; decide)
theorem zero_cur (n i : Nat) : (DS.zero n).cur i = 0 := by
  show (List.replicate (8 * n) 0).getD i 0 = 0
  rw [List.getD_eq_getElem?_getD, List.getElem?_replicate]
  split <;> rfl
theorem k_New (n : Nat) (h0 : 0 < n) (hn : n ≤ 4096) (K : K1) (hK : ∀ w' Y, Ext w w' → Dv w' Y (DS.zero n) → (∀ x, Y.F x → w.heap.size ≤ x) → K (.tuple #[.pointer (some ⟨Y.d, 0, none⟩), .int .i64 0]) w') : callS Tryz.prog 80 #[.int .i64 (n : Int)] w K := by
  refine f80_call _ _ _ ?_
  unfold f80_t
  have e1 : ((n : Int) * 8) = ((8 * n : Nat) : Int) := by omega
  (repeat' (first | (with_reducible refine brS_mk (fun _ => ?_) (fun _ => ?_)) | (with_reducible refine And.intro ?_ ?_) | (simp (disch := first | omega | simp only [RO] | (simp only [RZ] <;> omega) | fail) only [↓RBp, ↓RA, ↓reduceIte, Nat.reduceAdd, Nat.reduceMul, Nat.reduceEqDiff, RB, RX, RA2, e1])))
  have hc := zrow_cells w (.int .u64 ((0 : Nat) : Int)) (8 * n) 33
  have e2 : (fun i => (Value.int .u64 ((0 : Nat) : Int)).cells[i % (Value.int .u64 ((0 : Nat) : Int)).cells.size]!) = fun i => u64 ((List.replicate (8 * n) 0).getD i 0) := by
    funext i
    have := zero_cur n i
    show _ = u64 ((DS.zero n).cur i)
    rw [this]; simp [Value.cells, Nat.mod_one]
  rw [e2] at hc
  refine k_of (List.replicate (8 * n) 0) n w.heap.size h0 hn (by simp) hc _ (fun w' Y he hd hF => ?_)
  refine hK w' Y ((Ext.alloc_self w _).trans he) hd (fun x hx => ?_)
  rcases hF x hx with h | h
  · omega
  · rw [size_alloc] at h; omega
def DS.arm (D : DS) (n : Int) : DS := if D.off = true then D else { D with armed := decide (0 ≤ n), left := if n < 0 then 0 else n }
theorem devF_arm (Y : Lay) (D : DS) (b : Bool) (j : Nat) : devF Y { D with armed := b } j = if j = 12 then .bool b else devF Y D j := by
  unfold devF
  by_cases h : j = 12
  · subst h; simp
  · simp [h]
theorem Dv.setArm (h : Dv w Y D) (b : Bool) : Stp w Y (w.setCell ⟨Y.d, 12, none⟩ (.bool b)) Y { D with armed := b } := h.setDev 12 _ (by omega) (fun j hj => devF_arm Y D b j) ⟨rfl, rfl, rfl, rfl, rfl, rfl, rfl⟩
theorem k_Arm (h : Dv w Y D) (n : Int) (K : K1) (hK : ∀ w', Stp w Y w' Y (D.arm n) → K (.tuple #[]) w') : callS Tryz.prog 63 #[.pointer (some ⟨Y.d, 0, none⟩), .int .i64 n] w K := by
  refine f63_call _ _ _ _ ?_
  unfold f63_t
  unfold DS.arm at hK
  (repeat' (first | (with_reducible refine brS_mk (fun _ => ?_) (fun _ => ?_)) | (with_reducible refine And.intro ?_ ?_) | (simp (disch := first | omega | simp only [RO] | (simp only [RZ] <;> omega) | fail) only [↓RBp, ↓RA, ↓reduceIte, Nat.reduceAdd, Nat.reduceMul, Nat.reduceEqDiff, RB, RX, RA2, h.R])))
  · rename_i e
    rw [if_pos e] at hK
    exact hK _ (Stp.refl h)
  · rename_i e
    rw [if_neg e] at hK
    have h2 := h.setArm (decide (0 ≤ n))
    simp (disch := first | omega | simp only [RO] | (simp only [RZ] <;> omega) | fail) only [↓RBp, ↓RA, ↓reduceIte, Nat.reduceAdd, Nat.reduceMul, Nat.reduceEqDiff, RB, RX, RA2, h2.dv.R]
    exact hK _ (h2.trans (h2.dv.setLeft _))
theorem k_begin (K : K1) (hK : ∀ w' Y, Ext w w' → Dv w' Y (DS.zero 40) → (∀ x, Y.F x → w.heap.size ≤ x) → K (.tuple #[.pointer (some ⟨Y.d, 0, none⟩), .pointer (some ⟨Y.tb 0, 0, none⟩)]) w') : callS Tryz.prog 23 #[] w K := by
  refine f23_call _ _ ?_
  unfold f23_t
  simp (disch := first | omega | simp only [RO] | (simp only [RZ] <;> omega) | fail) only [↓RBp, ↓RA, ↓reduceIte, Nat.reduceAdd, Nat.reduceMul, Nat.reduceEqDiff, RB, RX, RA2]
  refine k_New 40 (by omega) (by omega) _ (fun w1 Y he hd hF => ?_)
  have hT : ∀ K, callS Tryz.prog 65 #[.pointer (some ⟨Y.d, 0, none⟩), .int .i64 0] w1 K = K (.pointer (some ⟨Y.tb 0, 0, none⟩)) w1 := fun K => c_Thread hd 0 (by omega) K
  simp (disch := first | omega | simp only [RO] | (simp only [RZ] <;> omega) | fail) only [↓RBp, ↓RA, ↓reduceIte, Nat.reduceAdd, Nat.reduceMul, Nat.reduceEqDiff, RB, RX, RA2, hT]
  exact hK _ _ he hd hF
end
end Go.Proofs.YtaeopkhdokaaoaaGreatDoor
namespace Go.Proofs.YtaeopkhdokaaoaaGreatDoor
open Go Go.Sh
set_option maxRecDepth 100000
set_option maxHeartbeats 4000000
set_option linter.unusedSimpArgs false
set_option linter.unusedVariables false
abbrev chV (Y : Lay) (l : Nat) (c o : Int) (g : Nat) : Value := .agg #[.iface 48 (.pointer (some ⟨Y.tb 0, 0, none⟩)), .int .i64 (l : Int), .int .i64 c, .int .i64 o, .int .u16 (g : Int)]
abbrev chO (Y : Lay) (l : Nat) (c o : Int) (g : Nat) : Obj := .cells #[.iface 48 (.pointer (some ⟨Y.tb 0, 0, none⟩)), .int .i64 (l : Int), .int .i64 c, .int .i64 o, .int .u16 (g : Int)] 58
structure Cx (w : World) (Y : Lay) (D : DS) (l : Nat) (c : Int) : Prop where
  dv : Dv w Y D
  gd : Good D
  gl : Glob w
  on : D.off = false
  hl : l + 32 ≤ D.n
  c0 : 0 ≤ c
  c5 : c < 5
section
variable {w w' : World} {Y : Lay} {D : DS} {l : Nat} {c o : Int} {g : Nat}
theorem Cx.ext (h : Cx w Y D l c) (e : Ext w w') : Cx w' Y D l c := ⟨h.dv.ext e, h.gd, h.gl.ext e, h.on, h.hl, h.c0, h.c5⟩
theorem Cx.n (h : Cx w Y D l c) : D.n ≤ 4096 := h.gd.n
@[irreducible] def wd (D : DS) (l i : Nat) : Nat := D.cur (l * 8 + i)
def bitB (x i : Nat) : Bool := decide (x / 2 ^ i % 2 = 1)
def bG (x : Nat) : Nat := if isS x then gX x else 0
def bK (x : Nat) : Nat := if isS x then kX x else 0
def bS (x : Nat) : Nat := if isS x then sX x else 0
@[irreducible] def offN (c : Int) (i : Nat) : Nat := (offS c (i : Int)).toNat
theorem offN_bd {c : Int} {i : Nat} (h0 : 0 ≤ c) (h5 : c < 5) (hi : (i : Int) < perS c) : offS c (i : Int) = (offN c i : Int) ∧ 8 ≤ offN c i ∧ offN c i < 256 := by
  have := offS_bd h0 h5 (show 0 ≤ (i : Int) by omega) hi
  have hw := wordsS_in h0 h5
  unfold offN
  omega
theorem Cx.wd_lt (h : Cx w Y D l c) (i : Nat) (hi : i < 256) : wd D l i < 18446744073709551616 := by unfold wd; exact h.gd.cur _ (by have := h.hl; omega)
theorem Cx.load (h : Cx w Y D l c) (i : Nat) (hi : i < 256) (K : K1) : callS Tryz.prog 52 #[.pointer (some ⟨Y.tb 0, 0, none⟩), .int .u64 ((l * 64 + i * 8 : Nat) : Int)] w K = K (.int .u64 (wd D l i : Int)) w := by
  have hl := h.hl
  have := c_Load h.dv h.gd 0 (by omega) h.on (l * 64 + i * 8) (by omega) (by omega) K
  rw [this, show (l * 64 + i * 8) / 8 = l * 8 + i by omega]; unfold wd; rfl
theorem Cx.loadE (h : Cx w Y D l c) : ∀ (w1 : World) (i : Nat) (K : K1), Ext w w1 → i < 256 → callS Tryz.prog 52 #[.pointer (some ⟨Y.tb 0, 0, none⟩), .int .u64 ((l * 64 + i * 8 : Nat) : Int)] w1 K = K (.int .u64 (wd D l i : Int)) w1 := fun w1 i K he hi => (h.ext he).load i hi K
theorem c_Class (K : K1) : callS Tryz.prog 31 #[chV Y l c o g] w K = K (.int .i64 c) (w.alloc (chO Y l c o g)) := by
  refine callS_det (by kernel_rfl) (f31_call _ _ _ ?_) K
  unfold f31_t
  simp (disch := first | omega | simp only [RO] | (simp only [RZ] <;> omega) | fail) only [↓RBp, ↓RA, ↓reduceIte, Nat.reduceAdd, Nat.reduceMul, Nat.reduceEqDiff, RB, RX, RA2]
structure Cg (w : World) (c : Int) : Prop where
  gl : Glob w
  c0 : 0 ≤ c
  c5 : c < 5
theorem Cg.ext (h : Cg w c) (e : Ext w w') : Cg w' c := ⟨h.gl.ext e, h.c0, h.c5⟩
theorem Cx.cg (h : Cx w Y D l c) : Cg w c := ⟨h.gl, h.c0, h.c5⟩
theorem c_blocks (hG : Glob w) (Y : Lay) (l : Nat) (c o : Int) (g : Nat) : ∀ (w1 : World) (K : K1), Ext w w1 → callS Tryz.prog 88 #[chV Y l c o g] w1 K = K (.int .i64 (perS c)) ((w1.alloc (chO Y l c o g)).alloc (chO Y l c o g)) := by
  intro w1 K he
  refine callS_det (by kernel_rfl) (f88_call _ _ _ ?_) K
  unfold f88_t
  have hG := hG.ext he
  simp (disch := first | omega | simp only [RO] | (simp only [RZ] <;> omega) | fail) only [↓RBp, ↓RA, ↓reduceIte, Nat.reduceAdd, Nat.reduceMul, Nat.reduceEqDiff, RB, RX, RA2, c_Class, fun a b c K => c_PerChunk c ((w1.alloc a).alloc b) K ((hG.alloc a).alloc b)]
theorem Cx.blocks (h : Cx w Y D l c) (o : Int) (g : Nat) : ∀ (w1 : World) (K : K1), Ext w w1 → callS Tryz.prog 88 #[chV Y l c o g] w1 K = K (.int .i64 (perS c)) ((w1.alloc (chO Y l c o g)).alloc (chO Y l c o g)) := c_blocks h.gl Y l c o g
theorem k_hasG (hG : Glob w) (Y : Lay) (l : Nat) (c o : Int) (g : Nat) (i : Int) (K : K1) (hK : ∀ w', Ext w w' → K (.bool (decide (0 ≤ i) && decide (i < perS c))) w') : callS Tryz.prog 91 #[chV Y l c o g, .int .i64 i] w K := by
  refine f91_call _ _ _ _ ?_
  unfold f91_t
  have hb := c_blocks hG Y l c o g
  by_cases h0 : 0 ≤ i
  · have e : (decide (0 ≤ i) && decide (i < perS c)) = decide (i < perS c) := by simp [h0]
    rw [e] at hK
    simp (disch := first | omega | simp only [RO] | (simp only [RZ] <;> omega) | (with_reducible (repeat (first | assumption | exact Ext.refl _ | refine Ext.alloc ?_ _ | refine Ext.drew ?_ | refine Ext.trans ?_ (by assumption)))) | fail) only [↓RBp, ↓RA, ↓reduceIte, Nat.reduceAdd, Nat.reduceMul, Nat.reduceEqDiff, RB, RX, RA2, hb]
    exact hK _ (by repeat (first | (with_reducible first | refine eB ?_ (by first | omega | (simp only [RZ] <;> omega)) _ | assumption | exact eR _ | refine eA ?_ _ | refine eD ?_ | refine eT ?_ (by assumption)) | exact eR _))
  · have e : (decide (0 ≤ i) && decide (i < perS c)) = false := by simp [h0]
    rw [e] at hK
    simp (disch := first | omega | simp only [RO] | (simp only [RZ] <;> omega) | (with_reducible (repeat (first | assumption | exact Ext.refl _ | refine Ext.alloc ?_ _ | refine Ext.drew ?_ | refine Ext.trans ?_ (by assumption)))) | fail) only [↓RBp, ↓RA, ↓reduceIte, Nat.reduceAdd, Nat.reduceMul, Nat.reduceEqDiff, RB, RX, RA2, hb]
    exact hK _ (by repeat (first | (with_reducible first | refine eB ?_ (by first | omega | (simp only [RZ] <;> omega)) _ | assumption | exact eR _ | refine eA ?_ _ | refine eD ?_ | refine eT ?_ (by assumption)) | exact eR _))
theorem k_has (h : Cx w Y D l c) (o : Int) (g : Nat) (i : Int) (K : K1) (hK : ∀ w', Ext w w' → K (.bool (decide (0 ≤ i) && decide (i < perS c))) w') : callS Tryz.prog 91 #[chV Y l c o g, .int .i64 i] w K := k_hasG h.gl Y l c o g i K hK
theorem Cx.at_ (h : Cx w Y D l c) (o : Int) (g : Nat) : ∀ (w1 : World) (i : Nat) (K : K1), Ext w w1 → (i : Int) < perS c → callS Tryz.prog 96 #[chV Y l c o g, .int .i64 (i : Int)] w1 K = K (.int .u64 ((l * 64 + offN c i * 8 : Nat) : Int)) (w1.alloc (chO Y l c o g)) := by
  intro w1 i K he hi
  refine callS_det (by kernel_rfl) (f96_call _ _ _ _ ?_) K
  unfold f96_t
  have hG := h.gl.ext he
  have hb := offN_bd h.c0 h.c5 hi
  have hl := h.hl; have hn := h.n
  have hof : ∀ (a : Obj) (K : K1), callS Tryz.prog 74 #[.int .i64 c, .int .i64 (i : Int)] (w1.alloc a) K = K (.tuple #[.int .i64 (offN c i : Int), .int .i64 0]) (w1.alloc a) := fun a K => by
    rw [c_Offset c i (w1.alloc a) K (hG.alloc a) h.c0 h.c5 (by omega) hi, hb.1]
  generalize offN c i = q at *
  simp (disch := first | omega | simp only [RO] | (simp only [RZ] <;> omega) | fail) only [↓RBp, ↓RA, ↓reduceIte, Nat.reduceAdd, Nat.reduceMul, Nat.reduceEqDiff, RB, RX, RA2, hof, c_line, Int.toNat_natCast]
theorem Cx.bits (h : Cx w Y D l c) (o : Int) (g : Nat) : ∀ (w1 : World) (K : K1), Ext w w1 → callS Tryz.prog 92 #[chV Y l c o g] w1 K = K (.int .u64 (wd D l 1 : Int)) ((w1.alloc (chO Y l c o g)).drew) := by
  intro w1 K he
  refine callS_det (by kernel_rfl) (f92_call _ _ _ ?_) K
  unfold f92_t
  have h1 := (h.ext he)
  have hl := h.hl; have hn := h.n
  have ld : ∀ (w2 : World) (K : K1), Ext w1 w2 → callS Tryz.prog 52 #[.pointer (some ⟨Y.tb 0, 0, none⟩), .int .u64 ((l * 64 + 8 : Nat) : Int)] w2 K = K (.int .u64 (wd D l 1 : Int)) w2 := fun w2 K he => h1.loadE w2 1 K he (by omega)
  (repeat' (first | (with_reducible refine brS_mk (fun _ => ?_) (fun _ => ?_)) | (with_reducible refine And.intro ?_ ?_) | (simp (disch := first | omega | simp only [RO] | (simp only [RZ] <;> omega) | (with_reducible (repeat (first | assumption | exact Ext.refl _ | refine Ext.alloc ?_ _ | refine Ext.drew ?_ | refine Ext.trans ?_ (by assumption)))) | fail) only [↓RBp, ↓RA, ↓reduceIte, Nat.reduceAdd, Nat.reduceMul, Nat.reduceEqDiff, RB, RX, RA2, c_line, Int.toNat_natCast, ld])))
theorem k_sealed' (x : Nat) (w : World) (K : K1) (hG : Glob w) (hx : x < 18446744073709551616) (h : ∀ w', Ext w w' → K (.tuple #[.agg #[.int .u16 (bG x : Int), .int .u8 (bK x : Int), .int .u8 (bS x : Int)], .bool (isS x)]) w') : callS Tryz.prog 114 #[.int .u64 x] w K := by
  refine k_sealed x w K hG hx (fun w' he => ?_)
  have := h w' he
  unfold bG bK bS at this
  cases hs : isS x with
  | true => simp only [hs, if_true] at this ⊢; exact this
  | false => simp only [hs, if_false] at this ⊢; exact this
theorem cells3 {b t : Nat} {f : Nat → Value} (h : Cells w b t 3 f) (v0 v1 v2 : Value) : (((w.setCell ⟨b, 0, none⟩ v0).setCell ⟨b, 1, none⟩ v1).setCell ⟨b, 2, none⟩ v2).cell? ⟨b, 0, none⟩ = some v0 ∧ (((w.setCell ⟨b, 0, none⟩ v0).setCell ⟨b, 1, none⟩ v1).setCell ⟨b, 2, none⟩ v2).cell? ⟨b, 1, none⟩ = some v1 ∧ (((w.setCell ⟨b, 0, none⟩ v0).setCell ⟨b, 1, none⟩ v1).setCell ⟨b, 2, none⟩ v2).cell? ⟨b, 2, none⟩ = some v2 ∧ Cells (((w.setCell ⟨b, 0, none⟩ v0).setCell ⟨b, 1, none⟩ v1).setCell ⟨b, 2, none⟩ v2) b t 3 (fun i => if i = 0 then v0 else if i = 1 then v1 else v2) := by
  have h3 := ((h.set v0 (i := 0) (by omega)).set v1 (i := 1) (by omega)).set v2 (i := 2) (by omega)
  exact ⟨h3.cell (i := 0) (by omega), h3.cell (i := 1) (by omega), h3.cell (i := 2) (by omega), h3.congr (fun i hi => by
    have : i = 0 ∨ i = 1 ∨ i = 2 := by omega
    rcases this with rfl | rfl | rfl <;> simp)⟩
theorem k_read (h : Cx w Y D l c) (o : Int) (g : Nat) (i : Nat) (hi : (i : Int) < perS c) (K : K1) (hK : ∀ w', Ext w w' → K (.tuple #[.agg #[.int .u16 (bG (wd D l (offN c i)) : Int), .int .u8 (bK (wd D l (offN c i)) : Int), .int .u8 (bS (wd D l (offN c i)) : Int)], .bool (isS (wd D l (offN c i))), .bool (bitB (wd D l 1) i)]) w') :
    callS Tryz.prog 89 #[chV Y l c o g, .int .i64 (i : Int)] w K := by
  refine f89_call _ _ _ _ ?_
  unfold f89_t
  have hb := h.bits o g
  have ha := h.at_ o g
  have hl := h.loadE
  have bd := offN_bd h.c0 h.c5 hi
  have hp := perS_in h.c0 h.c5
  have hw := h.wd_lt (offN c i) bd.2.2
  have hw1 := h.wd_lt 1 (by omega)
  generalize hx : wd D l (offN c i) = x at *
  generalize hy : wd D l 1 = y at *
  have an : ∀ z : Nat, z &&& 1 = z % 2 := fun z => Nat.and_one_is_mod z
  have hdv : y / 2 ^ i < 18446744073709551616 := Nat.lt_of_le_of_lt (Nat.div_le_self _ _) hw1
  (repeat' (first | (with_reducible refine brS_mk (fun _ => ?_) (fun _ => ?_)) | (with_reducible refine And.intro ?_ ?_) | (simp (disch := first | omega | simp only [RO] | (simp only [RZ] <;> omega) | (with_reducible (repeat (first | assumption | exact Ext.refl _ | refine Ext.alloc ?_ _ | refine Ext.drew ?_ | refine Ext.trans ?_ (by assumption)))) | fail) only [↓RBp, ↓RA, ↓reduceIte, Nat.reduceAdd, Nat.reduceMul, Nat.reduceEqDiff, RB, RX, RA2, hb, ha, hl, hx])))
  refine k_sealed' x _ _ (h.gl.ext (by repeat (first | (with_reducible first | refine eB ?_ (by first | omega | (simp only [RZ] <;> omega)) _ | assumption | exact eR _ | refine eA ?_ _ | refine eD ?_ | refine eT ?_ (by assumption)) | exact eR _))) hw (fun w1 he1 => ?_)
  have hC : Cells w1 (w.heap.size + 1) 129 3 (fun i => [Value.int .u16 ((0 : Nat) : Int), .int .u8 ((0 : Nat) : Int), .int .u8 ((0 : Nat) : Int)].getD i undef) := by
    have := (Cells.new (w.alloc (chO Y l c o g)) [Value.int .u16 ((0 : Nat) : Int), .int .u8 ((0 : Nat) : Int), .int .u8 ((0 : Nat) : Int)] 129)
    rw [size_alloc] at this
    exact this.ext (Ext.trans (by repeat (first | (with_reducible first | refine eB ?_ (by first | omega | (simp only [RZ] <;> omega)) _ | assumption | exact eR _ | refine eA ?_ _ | refine eD ?_ | refine eT ?_ (by assumption)) | exact eR _)) he1)
  have e1 : Ext w w1 := Ext.trans (by repeat (first | (with_reducible first | refine eB ?_ (by first | omega | (simp only [RZ] <;> omega)) _ | assumption | exact eR _ | refine eA ?_ _ | refine eD ?_ | refine eT ?_ (by assumption)) | exact eR _)) he1
  have c0 := hC.cell (i := 0) (by omega)
  have c1 := hC.cell (i := 1) (by omega)
  have c2 := hC.cell (i := 2) (by omega)
  obtain ⟨d0, d1, d2, hD⟩ := cells3 hC (.int .u16 (bG x : Int)) (.int .u8 (bK x : Int)) (.int .u8 (bS x : Int))
  obtain ⟨f0, f1, f2, hF⟩ := cells3 hD (.int .u16 (bG x : Int)) (.int .u8 (bK x : Int)) (.int .u8 (bS x : Int))
  have hbit : decide (y / 2 ^ i &&& 1 = 1) = bitB y i := by unfold bitB; simp only [an]
  simp (disch := first | omega | simp only [RO] | (simp only [RZ] <;> omega) | fail) only [↓RBp, ↓RA, ↓reduceIte, Nat.reduceAdd, Nat.reduceMul, Nat.reduceEqDiff, RB, RX, RA2, c0, c1, c2, hC.frz, d0, d1, d2, hD.frz, f0, f1, f2, hbit]
  exact hK _ (by repeat (first | (with_reducible first | refine eB ?_ (by first | omega | (simp only [RZ] <;> omega)) _ | assumption | exact eR _ | refine eA ?_ _ | refine eD ?_ | refine eT ?_ (by assumption)) | exact eR _))
end
end Go.Proofs.YtaeopkhdokaaoaaGreatDoor
namespace Go.Proofs.YtaeopkhdokaaoaaGreatDoor
open Go Go.Sh
set_option maxRecDepth 100000
set_option maxHeartbeats 1000000
set_option linter.unusedSimpArgs false
set_option linter.unusedVariables false
section
variable {w w' : World} {Y : Lay} {D : DS} {l : Nat} {c o : Int} {g : Nat}
theorem chCells {w1 : World} (he : Ext (w.alloc (chO Y l c o g)) w1) : w1.cell? ⟨w.heap.size, 0, none⟩ = some (.iface 48 (.pointer (some ⟨Y.tb 0, 0, none⟩))) ∧ w1.cell? ⟨w.heap.size, 1, none⟩ = some (.int .i64 (l : Int)) ∧ w1.cell? ⟨w.heap.size, 2, none⟩ = some (.int .i64 c) ∧ w1.cell? ⟨w.heap.size, 3, none⟩ = some (.int .i64 o) ∧ w1.cell? ⟨w.heap.size, 4, none⟩ = some (.int .u16 (g : Int)) := by
  have : ∀ i, w1.cell? ⟨w.heap.size, i, none⟩ = _ := fun i => he.cell _ i (by simp only [RZ]; omega)
  refine ⟨?_, ?_, ?_, ?_, ?_⟩ <;> (rw [this, cell_new _ _ _ _ _ rfl]; rfl)
@[irreducible] def mkB (D : DS) (l : Nat) (c i : Int) (s : Nat) : Bool := decide (0 ≤ i ∧ i < perS c) && (isS (wd D l (offN c i.toNat)) && (bitB (wd D l 1) i.toNat && decide (bS (wd D l (offN c i.toNat)) = s)))
theorem k_marked (h : Cx w Y D l c) (o : Int) (g : Nat) (i : Int) (s : Nat) (K : K1) (hK : ∀ w', Ext w w' → K (.bool (mkB D l c i s)) w') :
    callS Tryz.prog 90 #[chV Y l c o g, .int .i64 i, .int .u8 (s : Int)] w K := by
  refine f90_call _ _ _ _ _ ?_
  unfold mkB at hK
  unfold f90_t
  simp (disch := first | omega | simp only [RO] | (simp only [RZ] <;> omega) | fail) only [↓RBp, ↓RA, ↓reduceIte, Nat.reduceAdd, Nat.reduceMul, Nat.reduceEqDiff, RB, RX, RA2]
  refine k_has (h.ext (by repeat (first | (with_reducible first | refine eB ?_ (by first | omega | (simp only [RZ] <;> omega)) _ | assumption | exact eR _ | refine eA ?_ _ | refine eD ?_ | refine eT ?_ (by assumption)) | exact eR _))) o g i _ (fun w1 he1 => ?_)
  have e1 : Ext w w1 := Ext.trans (by repeat (first | (with_reducible first | refine eB ?_ (by first | omega | (simp only [RZ] <;> omega)) _ | assumption | exact eR _ | refine eA ?_ _ | refine eD ?_ | refine eT ?_ (by assumption)) | exact eR _)) he1
  obtain ⟨c0, c1, c2, c3, c4⟩ := chCells he1
  by_cases hi : 0 ≤ i ∧ i < perS c
  · obtain ⟨n, rfl⟩ : ∃ n : Nat, i = (n : Int) := ⟨i.toNat, by omega⟩
    have e : (decide (0 ≤ (n : Int)) && decide ((n : Int) < perS c)) = true := by simp [hi]
    rw [decide_eq_true hi, Bool.true_and] at hK
    rw [e]
    simp only [Int.toNat_natCast] at hK
    simp (disch := first | omega | simp only [RO] | (simp only [RZ] <;> omega) | fail) only [↓RBp, ↓RA, ↓reduceIte, Nat.reduceAdd, Nat.reduceMul, Nat.reduceEqDiff, RB, RX, RA2, c0, c1, c2, c3, c4]
    refine k_read (h.ext e1) o g n hi.2 _ (fun w2 he2 => ?_)
    have e2 : Ext w w2 := e1.trans he2
    by_cases hs : isS (wd D l (offN c n)) = true
    · rw [hs, Bool.true_and] at hK
      by_cases hbt : bitB (wd D l 1) n = true
      · rw [hbt, Bool.true_and] at hK
        simp (disch := first | omega | simp only [RO] | (simp only [RZ] <;> omega) | fail) only [↓RBp, ↓RA, ↓reduceIte, Nat.reduceAdd, Nat.reduceMul, Nat.reduceEqDiff, RB, RX, RA2, hs, hbt]
        exact hK _ (by repeat (first | (with_reducible first | refine eB ?_ (by first | omega | (simp only [RZ] <;> omega)) _ | assumption | exact eR _ | refine eA ?_ _ | refine eD ?_ | refine eT ?_ (by assumption)) | exact eR _))
      · have hbt : bitB (wd D l 1) n = false := by simpa using hbt
        rw [hbt, Bool.false_and] at hK
        simp (disch := first | omega | simp only [RO] | (simp only [RZ] <;> omega) | fail) only [↓RBp, ↓RA, ↓reduceIte, Nat.reduceAdd, Nat.reduceMul, Nat.reduceEqDiff, RB, RX, RA2, hs, hbt]
        exact hK _ (by repeat (first | (with_reducible first | refine eB ?_ (by first | omega | (simp only [RZ] <;> omega)) _ | assumption | exact eR _ | refine eA ?_ _ | refine eD ?_ | refine eT ?_ (by assumption)) | exact eR _))
    · have hs : isS (wd D l (offN c n)) = false := by simpa using hs
      rw [hs, Bool.false_and] at hK
      simp (disch := first | omega | simp only [RO] | (simp only [RZ] <;> omega) | fail) only [↓RBp, ↓RA, ↓reduceIte, Nat.reduceAdd, Nat.reduceMul, Nat.reduceEqDiff, RB, RX, RA2, hs]
      exact hK _ (by repeat (first | (with_reducible first | refine eB ?_ (by first | omega | (simp only [RZ] <;> omega)) _ | assumption | exact eR _ | refine eA ?_ _ | refine eD ?_ | refine eT ?_ (by assumption)) | exact eR _))
  · have e : (decide (0 ≤ i) && decide (i < perS c)) = false := by simp; omega
    rw [decide_eq_false hi, Bool.false_and] at hK
    rw [e]
    simp (disch := first | omega | simp only [RO] | (simp only [RZ] <;> omega) | fail) only [↓RBp, ↓RA, ↓reduceIte, Nat.reduceAdd, Nat.reduceMul, Nat.reduceEqDiff, RB, RX, RA2]
    exact hK _ (by repeat (first | (with_reducible first | refine eB ?_ (by first | omega | (simp only [RZ] <;> omega)) _ | assumption | exact eR _ | refine eA ?_ _ | refine eD ?_ | refine eT ?_ (by assumption)) | exact eR _))
theorem k_Taken (h : Cx w Y D l c) (o : Int) (g : Nat) (i : Int) (K : K1) (hK : ∀ w', Ext w w' → K (.bool (mkB D l c i 177)) w') : callS Tryz.prog 47 #[chV Y l c o g, .int .i64 i] w K := by
  refine f47_call _ _ _ _ ?_
  unfold f47_t
  simp (disch := first | omega | simp only [RO] | (simp only [RZ] <;> omega) | fail) only [↓RBp, ↓RA, ↓reduceIte, Nat.reduceAdd, Nat.reduceMul, Nat.reduceEqDiff, RB, RX, RA2]
  refine k_marked (h.ext (by repeat (first | (with_reducible first | refine eB ?_ (by first | omega | (simp only [RZ] <;> omega)) _ | assumption | exact eR _ | refine eA ?_ _ | refine eD ?_ | refine eT ?_ (by assumption)) | exact eR _))) o g i 177 _ (fun w1 he1 => ?_)
  exact hK _ (Ext.trans (by repeat (first | (with_reducible first | refine eB ?_ (by first | omega | (simp only [RZ] <;> omega)) _ | assumption | exact eR _ | refine eA ?_ _ | refine eD ?_ | refine eT ?_ (by assumption)) | exact eR _)) he1)
theorem k_Spent (h : Cx w Y D l c) (o : Int) (g : Nat) (i : Int) (K : K1) (hK : ∀ w', Ext w w' → K (.bool (mkB D l c i 178)) w') : callS Tryz.prog 49 #[chV Y l c o g, .int .i64 i] w K := by
  refine f49_call _ _ _ _ ?_
  unfold f49_t
  simp (disch := first | omega | simp only [RO] | (simp only [RZ] <;> omega) | fail) only [↓RBp, ↓RA, ↓reduceIte, Nat.reduceAdd, Nat.reduceMul, Nat.reduceEqDiff, RB, RX, RA2]
  refine k_marked (h.ext (by repeat (first | (with_reducible first | refine eB ?_ (by first | omega | (simp only [RZ] <;> omega)) _ | assumption | exact eR _ | refine eA ?_ _ | refine eD ?_ | refine eT ?_ (by assumption)) | exact eR _))) o g i 178 _ (fun w1 he1 => ?_)
  exact hK _ (Ext.trans (by repeat (first | (with_reducible first | refine eB ?_ (by first | omega | (simp only [RZ] <;> omega)) _ | assumption | exact eR _ | refine eA ?_ _ | refine eD ?_ | refine eT ?_ (by assumption)) | exact eR _)) he1)
def cntN (D : DS) (l : Nat) (c : Int) : Nat → Nat
  | 0 => 0
  | n + 1 => cntN D l c n + (if mkB D l c (n : Int) 177 = true then 1 else 0)
theorem cntN_le (D : DS) (l : Nat) (c : Int) : ∀ n, cntN D l c n ≤ n := by
  intro n
  induction n with
  | zero => simp [cntN]
  | succ n ih => simp only [cntN]; split <;> omega
theorem k_Count (h : Cx w Y D l c) (o : Int) (g : Nat) (K : K1) (hK : ∀ w', Ext w w' → K (.int .i64 ((cntN D l c (perS c).toNat : Nat) : Int)) w') : callS Tryz.prog 45 #[chV Y l c o g] w K := by
  have hp := perS_in h.c0 h.c5
  obtain ⟨n, hn⟩ : ∃ n : Nat, perS c = (n : Int) := ⟨(perS c).toNat, by omega⟩
  rw [hn, Int.toNat_natCast] at hK
  have hb := h.blocks o g
  rw [hn] at hb
  refine f45_call _ _ _ ?_
  unfold f45_t
  simp (disch := first | omega | simp only [RO] | (simp only [RZ] <;> omega) | (with_reducible (repeat (first | assumption | exact Ext.refl _ | refine Ext.alloc ?_ _ | refine Ext.drew ?_ | refine Ext.trans ?_ (by assumption)))) | fail) only [↓RBp, ↓RA, ↓reduceIte, Nat.reduceAdd, Nat.reduceMul, Nat.reduceEqDiff, RB, RX, RA2, hb]
  apply f45_l1_rule (I := fun x z w' => ∃ i : Nat, z = .int .i64 (i : Int) ∧ i ≤ n ∧ x = .int .i64 ((cntN D l c i : Nat) : Int) ∧ Ext (w.alloc (chO Y l c o g)) w') (μ := fun _ z _ => n - (Go.RowKit.intOf z).toNat)
  · exact ⟨0, rfl, by omega, rfl, (by repeat (first | (with_reducible first | refine eB ?_ (by first | omega | (simp only [RZ] <;> omega)) _ | assumption | exact eR _ | refine eA ?_ _ | refine eD ?_ | refine eT ?_ (by assumption)) | exact eR _))⟩
  · intros; rename_i w1 hI E1 hE
    obtain ⟨i, rfl, hi, rfl, he1⟩ := hI
    obtain ⟨c0, c1, c2, c3, c4⟩ := chCells he1
    have e1 : Ext w w1 := Ext.trans (by repeat (first | (with_reducible first | refine eB ?_ (by first | omega | (simp only [RZ] <;> omega)) _ | assumption | exact eR _ | refine eA ?_ _ | refine eD ?_ | refine eT ?_ (by assumption)) | exact eR _)) he1
    have hle := cntN_le D l c i
    unfold f45_l1_t
    by_cases hin : i < n
    · simp (disch := first | omega | simp only [RO] | (simp only [RZ] <;> omega) | fail) only [↓RBp, ↓RA, ↓reduceIte, Nat.reduceAdd, Nat.reduceMul, Nat.reduceEqDiff, RB, RX, RA2, c0, c1, c2, c3, c4]
      refine k_Taken (h.ext e1) o g i _ (fun w2 he2 => ?_)
      have e2 := he1.trans he2
      by_cases ht : mkB D l c (i : Int) 177 = true
      · simp (disch := first | omega | simp only [RO] | (simp only [RZ] <;> omega) | fail) only [↓RBp, ↓RA, ↓reduceIte, Nat.reduceAdd, Nat.reduceMul, Nat.reduceEqDiff, RB, RX, RA2, ht, f45_k2_eq, f45_k2_t]
        apply hE
        · exact ⟨i + 1, by simp, by omega, by simp [cntN, ht], e2⟩
        · simp [Go.RowKit.intOf]; omega
      · have ht' : mkB D l c (i : Int) 177 = false := by simpa using ht
        simp (disch := first | omega | simp only [RO] | (simp only [RZ] <;> omega) | fail) only [↓RBp, ↓RA, ↓reduceIte, Nat.reduceAdd, Nat.reduceMul, Nat.reduceEqDiff, RB, RX, RA2, ht', f45_k2_eq, f45_k2_t]
        apply hE
        · exact ⟨i + 1, by simp, by omega, by simp [cntN, ht'], e2⟩
        · simp [Go.RowKit.intOf]; omega
    · have : i = n := by omega
      subst this
      simp (disch := first | omega | simp only [RO] | (simp only [RZ] <;> omega) | fail) only [↓RBp, ↓RA, ↓reduceIte, Nat.reduceAdd, Nat.reduceMul, Nat.reduceEqDiff, RB, RX, RA2, f45_k1_eq, f45_k1_t]
      exact hK _ e1
def frN (y : Nat) : Nat → Nat → Int
  | 0, _ => -1
  | m + 1, i => if bitB y i = true then frN y m (i + 1) else (i : Int)
theorem k_Free (h : Cx w Y D l c) (o : Int) (g : Nat) (i : Int) (K : K1) (hK : ∀ w', Ext w w' → K (.int .i64 (frN (wd D l 1) ((perS c).toNat - i.toNat) i.toNat)) w') : callS Tryz.prog 50 #[chV Y l c o g, .int .i64 i] w K := by
  have hp := perS_in h.c0 h.c5
  have hb := h.blocks o g
  have hbt := h.bits o g
  have hy := h.wd_lt 1 (by omega)
  refine f50_call _ _ _ _ ?_
  unfold f50_t
  have tail : ∀ (j : Nat) (w1 : World), Ext (w.alloc (chO Y l c o g)) w1 → (∀ w', Ext w w' → K (.int .i64 (frN (wd D l 1) ((perS c).toNat - j) j)) w') → f50_k1 K (.int .i64 (j : Int)) (.pointer (some ⟨w.heap.size, 0, none⟩)) w1 := by
    intro j w1 he1 hK
    obtain ⟨c0, c1, c2, c3, c4⟩ := chCells he1
    have e1 : Ext w w1 := Ext.trans (by repeat (first | (with_reducible first | refine eB ?_ (by first | omega | (simp only [RZ] <;> omega)) _ | assumption | exact eR _ | refine eA ?_ _ | refine eD ?_ | refine eT ?_ (by assumption)) | exact eR _)) he1
    rw [f50_k1_eq]
    unfold f50_k1_t
    simp (disch := first | omega | simp only [RO] | (simp only [RZ] <;> omega) | fail) only [↓RBp, ↓RA, ↓reduceIte, Nat.reduceAdd, Nat.reduceMul, Nat.reduceEqDiff, RB, RX, RA2, c0, c1, c2, c3, c4]
    refine k_has (h.ext e1) o g j _ (fun w2 he2 => ?_)
    have e2 := e1.trans he2
    obtain ⟨d0, d1, d2, d3, d4⟩ := chCells (he1.trans he2)
    by_cases hj : (j : Int) < perS c
    · have eb : (decide (0 ≤ (j : Int)) && decide ((j : Int) < perS c)) = true := by simp [hj]
      rw [eb]
      simp (disch := first | omega | simp only [RO] | (simp only [RZ] <;> omega) | (with_reducible (repeat (first | assumption | exact Ext.refl _ | refine Ext.alloc ?_ _ | refine Ext.drew ?_ | refine Ext.trans ?_ (by assumption)))) | fail) only [↓RBp, ↓RA, ↓reduceIte, Nat.reduceAdd, Nat.reduceMul, Nat.reduceEqDiff, RB, RX, RA2, d0, d1, d2, d3, d4, hbt]
      apply f50_l1_rule (I := fun z w' => ∃ q : Nat, z = .int .i64 (q : Int) ∧ q ≤ (perS c).toNat ∧ frN (wd D l 1) ((perS c).toNat - q) q = frN (wd D l 1) ((perS c).toNat - j) j ∧ Ext (w.alloc (chO Y l c o g)) w') (μ := fun z _ => (perS c).toNat - (Go.RowKit.intOf z).toNat)
      · exact ⟨j, rfl, by omega, rfl, (he1.trans he2).trans (by repeat (first | (with_reducible first | refine eB ?_ (by first | omega | (simp only [RZ] <;> omega)) _ | assumption | exact eR _ | refine eA ?_ _ | refine eD ?_ | refine eT ?_ (by assumption)) | exact eR _))⟩
      · intros; rename_i w3 hI E1 hE
        obtain ⟨q, rfl, hq, hfr, he3⟩ := hI
        obtain ⟨g0, g1, g2, g3, g4⟩ := chCells he3
        have e3 : Ext w w3 := Ext.trans (by repeat (first | (with_reducible first | refine eB ?_ (by first | omega | (simp only [RZ] <;> omega)) _ | assumption | exact eR _ | refine eA ?_ _ | refine eD ?_ | refine eT ?_ (by assumption)) | exact eR _)) he3
        unfold f50_l1_t
        by_cases hqp : (q : Int) < perS c
        · have hdv : wd D l 1 / 2 ^ q < 18446744073709551616 := Nat.lt_of_le_of_lt (Nat.div_le_self _ _) hy
          have hs : (perS c).toNat - q = ((perS c).toNat - (q + 1)) + 1 := by omega
          rw [hs] at hfr
          simp only [frN] at hfr
          by_cases hbq : bitB (wd D l 1) q = true
          · rw [if_pos hbq] at hfr
            have e0 : ¬ (wd D l 1 / 2 ^ q &&& 1 = 0) := by
              rw [Nat.and_one_is_mod]; unfold bitB at hbq; simp at hbq; omega
            simp (disch := first | omega | simp only [RO] | (simp only [RZ] <;> omega) | (with_reducible (repeat (first | assumption | exact Ext.refl _ | refine Ext.alloc ?_ _ | refine Ext.drew ?_ | refine Ext.trans ?_ (by assumption)))) | fail) only [↓RBp, ↓RA, ↓reduceIte, Nat.reduceAdd, Nat.reduceMul, Nat.reduceEqDiff, RB, RX, RA2, g0, g1, g2, g3, g4, hb, e0]
            apply hE
            · exact ⟨q + 1, by simp, by omega, hfr, (by repeat (first | (with_reducible first | refine eB ?_ (by first | omega | (simp only [RZ] <;> omega)) _ | assumption | exact eR _ | refine eA ?_ _ | refine eD ?_ | refine eT ?_ (by assumption)) | exact eR _))⟩
            · simp [Go.RowKit.intOf]; omega
          · rw [if_neg hbq] at hfr
            have e0 : wd D l 1 / 2 ^ q &&& 1 = 0 := by
              rw [Nat.and_one_is_mod]; unfold bitB at hbq; simp at hbq; omega
            simp (disch := first | omega | simp only [RO] | (simp only [RZ] <;> omega) | (with_reducible (repeat (first | assumption | exact Ext.refl _ | refine Ext.alloc ?_ _ | refine Ext.drew ?_ | refine Ext.trans ?_ (by assumption)))) | fail) only [↓RBp, ↓RA, ↓reduceIte, Nat.reduceAdd, Nat.reduceMul, Nat.reduceEqDiff, RB, RX, RA2, g0, g1, g2, g3, g4, hb, e0]
            rw [hfr]
            exact hK _ (by repeat (first | (with_reducible first | refine eB ?_ (by first | omega | (simp only [RZ] <;> omega)) _ | assumption | exact eR _ | refine eA ?_ _ | refine eD ?_ | refine eT ?_ (by assumption)) | exact eR _))
        · have hs : (perS c).toNat - q = 0 := by omega
          rw [hs] at hfr
          simp only [frN] at hfr
          simp (disch := first | omega | simp only [RO] | (simp only [RZ] <;> omega) | (with_reducible (repeat (first | assumption | exact Ext.refl _ | refine Ext.alloc ?_ _ | refine Ext.drew ?_ | refine Ext.trans ?_ (by assumption)))) | fail) only [↓RBp, ↓RA, ↓reduceIte, Nat.reduceAdd, Nat.reduceMul, Nat.reduceEqDiff, RB, RX, RA2, g0, g1, g2, g3, g4, hb, f50_k2_eq, f50_k2_t]
          rw [hfr]
          exact hK _ (by repeat (first | (with_reducible first | refine eB ?_ (by first | omega | (simp only [RZ] <;> omega)) _ | assumption | exact eR _ | refine eA ?_ _ | refine eD ?_ | refine eT ?_ (by assumption)) | exact eR _))
    · have eb : (decide (0 ≤ (j : Int)) && decide ((j : Int) < perS c)) = false := by simp; omega
      rw [eb]
      have : (perS c).toNat - j = 0 := by omega
      rw [this] at hK
      simp only [frN] at hK
      simp (disch := first | omega | simp only [RO] | (simp only [RZ] <;> omega) | fail) only [↓RBp, ↓RA, ↓reduceIte, Nat.reduceAdd, Nat.reduceMul, Nat.reduceEqDiff, RB, RX, RA2]
      exact hK _ (by repeat (first | (with_reducible first | refine eB ?_ (by first | omega | (simp only [RZ] <;> omega)) _ | assumption | exact eR _ | refine eA ?_ _ | refine eD ?_ | refine eT ?_ (by assumption)) | exact eR _))
  by_cases hi : i < 0
  · have : i.toNat = 0 := by omega
    rw [this] at hK
    simp (disch := first | omega | simp only [RO] | (simp only [RZ] <;> omega) | fail) only [↓RBp, ↓RA, ↓reduceIte, Nat.reduceAdd, Nat.reduceMul, Nat.reduceEqDiff, RB, RX, RA2]
    exact tail 0 _ (by repeat (first | (with_reducible first | refine eB ?_ (by first | omega | (simp only [RZ] <;> omega)) _ | assumption | exact eR _ | refine eA ?_ _ | refine eD ?_ | refine eT ?_ (by assumption)) | exact eR _)) hK
  · obtain ⟨j, rfl⟩ : ∃ j : Nat, i = (j : Int) := ⟨i.toNat, by omega⟩
    rw [Int.toNat_natCast] at hK
    simp (disch := first | omega | simp only [RO] | (simp only [RZ] <;> omega) | fail) only [↓RBp, ↓RA, ↓reduceIte, Nat.reduceAdd, Nat.reduceMul, Nat.reduceEqDiff, RB, RX, RA2]
    exact tail j _ (by repeat (first | (with_reducible first | refine eB ?_ (by first | omega | (simp only [RZ] <;> omega)) _ | assumption | exact eR _ | refine eA ?_ _ | refine eD ?_ | refine eT ?_ (by assumption)) | exact eR _)) hK
@[irreducible] def okF (D : DS) (l : Nat) (c : Int) (i : Nat) : Bool := isS (wd D l (offN c i)) && (!bitB (wd D l 1) i && (decide (bS (wd D l (offN c i)) = 176) && !decide (bG (wd D l (offN c i)) = 0)))
def mxG (D : DS) (l : Nat) (c : Int) : Nat → Nat
  | 0 => 0
  | n + 1 => if mxG D l c n < bG (wd D l (offN c n)) then bG (wd D l (offN c n)) else mxG D l c n
def alF (D : DS) (l : Nat) (c : Int) : Nat → Bool
  | 0 => true
  | n + 1 => alF D l c n && okF D l c n
theorem alF_no {D : DS} {l : Nat} {c : Int} : ∀ {n i : Nat}, i < n → okF D l c i = false → alF D l c n = false := by
  intro n
  induction n with
  | zero => intro i h; omega
  | succ n ih =>
    intro i h he
    simp only [alF]
    by_cases e : i = n
    · subst e; simp [he]
    · rw [ih (i := i) (by omega) he]; rfl
theorem k_Next (h : Cx w Y D l c) (o : Int) (g : Nat) (K : K1) (hK : ∀ w', Ext w w' → K (.tuple #[.int .u16 ((if alF D l c (perS c).toNat = true then mxG D l c (perS c).toNat else 0 : Nat) : Int), .bool (alF D l c (perS c).toNat)]) w') : callS Tryz.prog 43 #[chV Y l c o g] w K := by
  have hp := perS_in h.c0 h.c5
  obtain ⟨n, hn⟩ : ∃ n : Nat, perS c = (n : Int) := ⟨(perS c).toNat, by omega⟩
  rw [hn, Int.toNat_natCast] at hK
  have hb := h.blocks o g
  rw [hn] at hb
  refine f43_call _ _ _ ?_
  unfold f43_t
  simp (disch := first | omega | simp only [RO] | (simp only [RZ] <;> omega) | (with_reducible (repeat (first | assumption | exact Ext.refl _ | refine Ext.alloc ?_ _ | refine Ext.drew ?_ | refine Ext.trans ?_ (by assumption)))) | fail) only [↓RBp, ↓RA, ↓reduceIte, Nat.reduceAdd, Nat.reduceMul, Nat.reduceEqDiff, RB, RX, RA2, hb]
  apply f43_l1_rule (I := fun x z w' => ∃ i : Nat, z = .int .i64 (i : Int) ∧ i ≤ n ∧ x = .int .u16 ((mxG D l c i : Nat) : Int) ∧ alF D l c i = true ∧ Ext (w.alloc (chO Y l c o g)) w') (μ := fun _ z _ => n - (Go.RowKit.intOf z).toNat)
  · exact ⟨0, rfl, by omega, rfl, rfl, (by repeat (first | (with_reducible first | refine eB ?_ (by first | omega | (simp only [RZ] <;> omega)) _ | assumption | exact eR _ | refine eA ?_ _ | refine eD ?_ | refine eT ?_ (by assumption)) | exact eR _))⟩
  · intros; rename_i w1 hI E1 hE
    obtain ⟨i, rfl, hi, rfl, hal, he1⟩ := hI
    obtain ⟨c0, c1, c2, c3, c4⟩ := chCells he1
    have e1 : Ext w w1 := Ext.trans (by repeat (first | (with_reducible first | refine eB ?_ (by first | omega | (simp only [RZ] <;> omega)) _ | assumption | exact eR _ | refine eA ?_ _ | refine eD ?_ | refine eT ?_ (by assumption)) | exact eR _)) he1
    unfold f43_l1_t
    by_cases hin : i < n
    · simp (disch := first | omega | simp only [RO] | (simp only [RZ] <;> omega) | fail) only [↓RBp, ↓RA, ↓reduceIte, Nat.reduceAdd, Nat.reduceMul, Nat.reduceEqDiff, RB, RX, RA2, c0, c1, c2, c3, c4]
      refine k_read (h.ext e1) o g i (by omega) _ (fun w2 he2 => ?_)
      have e2 := he1.trans he2
      have e02 := e1.trans he2
      have bad : okF D l c i = false → ∀ w', Ext w w' → K (.tuple #[.int .u16 ((0 : Nat) : Int), .bool false]) w' := by
        intro hf w' he
        have := hK w' he
        rw [alF_no hin hf] at this
        exact this
      by_cases b1 : isS (wd D l (offN c i)) = true
      · by_cases b2 : bitB (wd D l 1) i = true
        · simp (disch := first | omega | simp only [RO] | (simp only [RZ] <;> omega) | fail) only [↓RBp, ↓RA, ↓reduceIte, Nat.reduceAdd, Nat.reduceMul, Nat.reduceEqDiff, RB, RX, RA2, b1, b2]
          exact bad (by simp [okF, b2]) _ (by repeat (first | (with_reducible first | refine eB ?_ (by first | omega | (simp only [RZ] <;> omega)) _ | assumption | exact eR _ | refine eA ?_ _ | refine eD ?_ | refine eT ?_ (by assumption)) | exact eR _))
        · have b2 : bitB (wd D l 1) i = false := by simpa using b2
          by_cases b3 : bS (wd D l (offN c i)) = 176
          · by_cases b4 : bG (wd D l (offN c i)) = 0
            · simp (disch := first | omega | simp only [RO] | (simp only [RZ] <;> omega) | fail) only [↓RBp, ↓RA, ↓reduceIte, Nat.reduceAdd, Nat.reduceMul, Nat.reduceEqDiff, RB, RX, RA2, b1, b2, b3, b4]
              exact bad (by simp [okF, b4]) _ (by repeat (first | (with_reducible first | refine eB ?_ (by first | omega | (simp only [RZ] <;> omega)) _ | assumption | exact eR _ | refine eA ?_ _ | refine eD ?_ | refine eT ?_ (by assumption)) | exact eR _))
            · simp (disch := first | omega | simp only [RO] | (simp only [RZ] <;> omega) | fail) only [↓RBp, ↓RA, ↓reduceIte, Nat.reduceAdd, Nat.reduceMul, Nat.reduceEqDiff, RB, RX, RA2, b1, b2, b3]
              apply hE
              · refine ⟨i + 1, by simp, by omega, ?_, ?_, (by repeat (first | (with_reducible first | refine eB ?_ (by first | omega | (simp only [RZ] <;> omega)) _ | assumption | exact eR _ | refine eA ?_ _ | refine eD ?_ | refine eT ?_ (by assumption)) | exact eR _))⟩
                · simp only [mxG]
                  split <;> split <;> first | rfl | omega
                · simp [alF, hal, okF, b1, b2, b3, b4]
              · simp [Go.RowKit.intOf]; omega
          · simp (disch := first | omega | simp only [RO] | (simp only [RZ] <;> omega) | fail) only [↓RBp, ↓RA, ↓reduceIte, Nat.reduceAdd, Nat.reduceMul, Nat.reduceEqDiff, RB, RX, RA2, b1, b2, b3]
            exact bad (by simp [okF, b3]) _ (by repeat (first | (with_reducible first | refine eB ?_ (by first | omega | (simp only [RZ] <;> omega)) _ | assumption | exact eR _ | refine eA ?_ _ | refine eD ?_ | refine eT ?_ (by assumption)) | exact eR _))
      · have b1 : isS (wd D l (offN c i)) = false := by simpa using b1
        simp (disch := first | omega | simp only [RO] | (simp only [RZ] <;> omega) | fail) only [↓RBp, ↓RA, ↓reduceIte, Nat.reduceAdd, Nat.reduceMul, Nat.reduceEqDiff, RB, RX, RA2, b1]
        exact bad (by simp [okF, b1]) _ (by repeat (first | (with_reducible first | refine eB ?_ (by first | omega | (simp only [RZ] <;> omega)) _ | assumption | exact eR _ | refine eA ?_ _ | refine eD ?_ | refine eT ?_ (by assumption)) | exact eR _))
    · have : i = n := by omega
      subst this
      rw [hal, if_pos rfl] at hK
      simp (disch := first | omega | simp only [RO] | (simp only [RZ] <;> omega) | fail) only [↓RBp, ↓RA, ↓reduceIte, Nat.reduceAdd, Nat.reduceMul, Nat.reduceEqDiff, RB, RX, RA2, f43_k1_eq, f43_k1_t]
      exact hK _ e1
end
end Go.Proofs.YtaeopkhdokaaoaaGreatDoor
namespace Go.Proofs.YtaeopkhdokaaoaaGreatDoor
open Go Go.Sh
set_option maxRecDepth 100000
set_option maxHeartbeats 4000000
set_option linter.unusedSimpArgs false
set_option linter.unusedVariables false
def RdS (m : Nat) (w : World) (v : Value) (L : List Value) : Prop := ∃ a cap, v = .slice a L.length cap ∧ (L = [] ∨ ∃ b o, a = some ⟨b, o, none⟩ ∧ b < m ∧ ∀ j u, L[j]? = some u → w.cell? ⟨b, o + j, none⟩ = some u)
section
variable {w w' : World} {m : Nat} {v : Value} {L : List Value}
theorem RdS.ext (h : RdS m w v L) (e : Ext w w') : RdS m w' v L := by
  obtain ⟨a, cap, hv, h⟩ := h
  refine ⟨a, cap, hv, ?_⟩
  rcases h with h | ⟨b, o, ha, hb, hc⟩
  · exact .inl h
  · exact .inr ⟨b, o, ha, hb, fun j u hj => e.cell_some (hc j u hj)⟩
theorem RdS.frm {F : Nat → Prop} (h : RdS m w v L) (e : Frm F w w') (hF : ∀ b, b < m → ¬ F b) : RdS m w' v L := by
  obtain ⟨a, cap, hv, h⟩ := h
  refine ⟨a, cap, hv, ?_⟩
  rcases h with h | ⟨b, o, ha, hb, hc⟩
  · exact .inl h
  · refine .inr ⟨b, o, ha, hb, fun j u hj => ?_⟩
    have h1 := hc j u hj
    rw [e.cell b _ (lt_of_cell h1) (hF b hb)]; exact h1
theorem RdS.get (h : RdS m w v L) {j : Nat} {u : Value} (hj : L[j]? = some u) : ∃ b o cap, v = .slice (some ⟨b, o, none⟩) L.length cap ∧ w.cell? ⟨b, o + j, none⟩ = some u := by
  obtain ⟨a, cap, hv, h⟩ := h
  rcases h with h | ⟨b, o, ha, hb, hc⟩
  · rw [h] at hj; simp at hj
  · subst ha; exact ⟨b, o, cap, hv, hc j u hj⟩
theorem RdS.nil (w : World) (m : Nat) : RdS m w (.slice none 0 0) [] := ⟨none, 0, rfl, .inl rfl⟩
end
abbrev i64L (l : List Int) : List Value := l.map fun i => Value.int .i64 i
abbrev u8L (l : List Nat) : List Value := l.map fun (n : Nat) => Value.int .u8 (n : Int)
theorem i64L_get {l : List Int} {j : Nat} (h : j < l.length) : (i64L l)[j]? = some (.int .i64 l[j]) := by simp [h]
theorem u8L_get {l : List Nat} {j : Nat} (h : j < l.length) : (u8L l)[j]? = some (.int .u8 ((l[j] : Nat) : Int)) := by simp [h]
def onc (per : Int) : List Int → Nat → Option Nat
  | [], m => some m
  | i :: l, m => if (0 ≤ i ∧ i < per) ∧ bitB m i.toNat = false then onc per l (m ||| 2 ^ i.toNat) else none
theorem onc_drop {per : Int} {l : List Int} {j m : Nat} (h : j < l.length) : onc per (l.drop j) m = if (0 ≤ l[j] ∧ l[j] < per) ∧ bitB m l[j].toNat = false then onc per (l.drop (j + 1)) (m ||| 2 ^ l[j].toNat) else none := by
  rw [List.drop_eq_getElem_cons h]; rfl
theorem pow_lt64 {i : Nat} (h : i < 64) : 2 ^ i < 18446744073709551616 := by
  have : 2 ^ i < 2 ^ 64 := Nat.pow_lt_pow_right (by decide) h
  simpa using this
theorem or_lt64 {a b : Nat} (ha : a < 18446744073709551616) (hb : b < 18446744073709551616) : a ||| b < 18446744073709551616 := Nat.or_lt_two_pow (n := 64) ha hb
section
variable {w w' : World} {Y : Lay} {D : DS} {l : Nat} {c o : Int} {g : Nat}
theorem k_onceG (h : Cg w c) (Y : Lay) (l : Nat) (o : Int) (g : Nat) (L M : List Int) (v u : Value) {m : Nat} (hL : RdS m w v (i64L L)) (hM : RdS m w u (i64L M)) (lL : L.length < 1099511627776) (lM : M.length < 1099511627776) (b cap : Nat) (hb0 : w.cell? ⟨b, 0, none⟩ = some v) (hb1 : w.cell? ⟨b, 1, none⟩ = some u) (K : K1)
    (hK : ∀ w', Ext w w' → K (.bool ((onc (perS c) L 0).bind (onc (perS c) M)).isSome) w') : callS Tryz.prog 86 #[chV Y l c o g, .slice (some ⟨b, 0, none⟩) 2 cap] w K := by
  have hp := perS_in h.c0 h.c5
  refine f86_call _ _ _ _ ?_
  unfold f86_t
  simp (disch := first | omega | simp only [RO] | (simp only [RZ] <;> omega) | fail) only [↓RBp, ↓RA, ↓reduceIte, Nat.reduceAdd, Nat.reduceMul, Nat.reduceEqDiff, RB, RX, RA2]
  have inner : ∀ (E1 : Value → Value → World → Prop) (L : List Int) (v : Value) (q m0 : Nat) (w1 : World), Ext (w.alloc (chO Y l c o g)) w1 → RdS m w v (i64L L) → L.length < 1099511627776 → m0 < 18446744073709551616 → (onc (perS c) L m0 = none → ∀ w', Ext w w' → K (.bool false) w') → (∀ m1 w', onc (perS c) L m0 = some m1 → m1 < 18446744073709551616 → Ext (w.alloc (chO Y l c o g)) w' → E1 (.int .u64 (m1 : Int)) (.int .i64 ((q + 1 : Nat) : Int)) w') → q < 1000 →
      f86_l2 K E1 (.pointer (some ⟨w.heap.size, 0, none⟩)) (.int .u64 (m0 : Int)) (.slice (some ⟨b, 0, none⟩) 2 cap) (.int .i64 2) (.int .i64 (q : Int)) v (.int .i64 (L.length : Int)) (.int .i64 0) w1 := by
    intro E1 L v q m0 w1 he1 hL lL hm0 hbad hgood hq
    apply f86_l2_rule (I := fun x z w' => ∃ j mm : Nat, z = .int .i64 (j : Int) ∧ x = .int .u64 (mm : Int) ∧ mm < 18446744073709551616 ∧ j ≤ L.length ∧ onc (perS c) (L.drop j) mm = onc (perS c) L m0 ∧ Ext (w.alloc (chO Y l c o g)) w') (μ := fun _ z _ => L.length - (Go.RowKit.intOf z).toNat)
    · exact ⟨0, m0, rfl, rfl, hm0, by omega, rfl, he1⟩
    · intros; rename_i w2 hI E2 hE
      obtain ⟨j, mm, rfl, rfl, hmm, hj, hon, he2⟩ := hI
      obtain ⟨c0, c1, c2, c3, c4⟩ := chCells he2
      have e2 : Ext w w2 := Ext.trans (by repeat (first | (with_reducible first | refine eB ?_ (by first | omega | (simp only [RZ] <;> omega)) _ | assumption | exact eR _ | refine eA ?_ _ | refine eD ?_ | refine eT ?_ (by assumption)) | exact eR _)) he2
      unfold f86_l2_t
      by_cases hjl : j < L.length
      · obtain ⟨sb, so, sc, rfl, hc⟩ := (hL.ext e2).get (i64L_get hjl)
        rw [onc_drop hjl] at hon
        generalize L[j] = x at hon hc
        simp (disch := first | omega | simp only [RO] | (simp only [RZ] <;> omega) | fail) only [↓RBp, ↓RA, ↓reduceIte, Nat.reduceAdd, Nat.reduceMul, Nat.reduceEqDiff, RB, RX, RA2, hc, c0, c1, c2, c3, c4, List.length_map]
        refine k_hasG (h.gl.ext e2) Y l c o g x _ (fun w3 he3 => ?_)
        have e3 : Ext w w3 := e2.trans he3
        have he13 := he2.trans he3
        by_cases hx : 0 ≤ x ∧ x < perS c
        · have eb : (decide (0 ≤ x) && decide (x < perS c)) = true := by simp [hx]
          rw [eb]
          obtain ⟨i, rfl⟩ : ∃ i : Nat, x = (i : Int) := ⟨x.toNat, by omega⟩
          rw [Int.toNat_natCast] at hon
          have hdv : mm / 2 ^ i < 18446744073709551616 := Nat.lt_of_le_of_lt (Nat.div_le_self _ _) hmm
          have hpw := pow_lt64 (show i < 64 by omega)
          have hs1 : 1 * 2 ^ i % 18446744073709551616 = 2 ^ i := by rw [Nat.one_mul]; exact Nat.mod_eq_of_lt hpw
          have hor := or_lt64 hmm hpw
          by_cases hbt : bitB mm i = true
          · rw [if_neg (by simp [hbt])] at hon
            have e1 : mm / 2 ^ i &&& 1 = 1 := by rw [Nat.and_one_is_mod]; simpa [bitB] using hbt
            simp (disch := first | omega | simp only [RO] | (simp only [RZ] <;> omega) | fail) only [↓RBp, ↓RA, ↓reduceIte, Nat.reduceAdd, Nat.reduceMul, Nat.reduceEqDiff, RB, RX, RA2, e1]
            exact hbad hon.symm _ e3
          · rw [if_pos ⟨hx, by simpa using hbt⟩] at hon
            have e1 : ¬ (mm / 2 ^ i &&& 1 = 1) := by rw [Nat.and_one_is_mod]; simpa [bitB] using hbt
            simp (disch := first | omega | simp only [RO] | (simp only [RZ] <;> omega) | fail) only [↓RBp, ↓RA, ↓reduceIte, Nat.reduceAdd, Nat.reduceMul, Nat.reduceEqDiff, RB, RX, RA2, e1, hs1]
            apply hE
            · exact ⟨j + 1, _, by simp, rfl, hor, by omega, hon, he13⟩
            · simp [Go.RowKit.intOf]; omega
        · have eb : (decide (0 ≤ x) && decide (x < perS c)) = false := by simp; omega
          rw [eb]
          rw [if_neg (fun hh => hx hh.1)] at hon
          simp (disch := first | omega | simp only [RO] | (simp only [RZ] <;> omega) | fail) only [↓RBp, ↓RA, ↓reduceIte, Nat.reduceAdd, Nat.reduceMul, Nat.reduceEqDiff, RB, RX, RA2]
          exact hbad hon.symm _ e3
      · have : j = L.length := by omega
        subst this
        rw [List.drop_length] at hon
        simp only [onc] at hon
        simp (disch := first | omega | simp only [RO] | (simp only [RZ] <;> omega) | fail) only [↓RBp, ↓RA, ↓reduceIte, Nat.reduceAdd, Nat.reduceMul, Nat.reduceEqDiff, RB, RX, RA2, f86_k2_eq, f86_k2_t]
        have := hgood mm w2 hon.symm hmm he2
        simpa using this
  apply f86_l1_rule (I := fun x z w' => ∃ i mm : Nat, z = .int .i64 (i : Int) ∧ x = .int .u64 (mm : Int) ∧ mm < 18446744073709551616 ∧ i ≤ 2 ∧ (i = 0 → mm = 0) ∧ (i = 1 → onc (perS c) L 0 = some mm) ∧ (i = 2 → (onc (perS c) L 0).bind (onc (perS c) M) = some mm) ∧ Ext (w.alloc (chO Y l c o g)) w') (μ := fun _ z _ => 2 - (Go.RowKit.intOf z).toNat)
  · exact ⟨0, 0, rfl, rfl, by omega, by omega, fun _ => rfl, fun h => by omega, fun h => by omega, (by repeat (first | (with_reducible first | refine eB ?_ (by first | omega | (simp only [RZ] <;> omega)) _ | assumption | exact eR _ | refine eA ?_ _ | refine eD ?_ | refine eT ?_ (by assumption)) | exact eR _))⟩
  · intros; rename_i w1 hI E1 hE
    obtain ⟨i, mm, rfl, rfl, hmm, hi, i0, i1, i2, he1⟩ := hI
    have e1 : Ext w w1 := Ext.trans (by repeat (first | (with_reducible first | refine eB ?_ (by first | omega | (simp only [RZ] <;> omega)) _ | assumption | exact eR _ | refine eA ?_ _ | refine eD ?_ | refine eT ?_ (by assumption)) | exact eR _)) he1
    have d0 := e1.cell_some hb0
    have d1 := e1.cell_some hb1
    unfold f86_l1_t
    have hcs : i = 0 ∨ i = 1 ∨ i = 2 := by omega
    rcases hcs with rfl | rfl | rfl
    · have := i0 rfl
      subst this
      obtain ⟨a, sc, rfl, _⟩ := id hL
      have hL' : RdS m w (.slice a L.length sc) (i64L L) := by rw [show (i64L L).length = L.length by simp] at hL; exact hL
      simp (disch := first | omega | simp only [RO] | (simp only [RZ] <;> omega) | fail) only [↓RBp, ↓RA, ↓reduceIte, Nat.reduceAdd, Nat.reduceMul, Nat.reduceEqDiff, RB, RX, RA2, d0, List.length_map]
      refine inner E1 L _ 0 0 w1 he1 hL' lL (by omega) (fun hn w' he => ?_) (fun m1 w' hs hm1 he => ?_) (by omega)
      · have := hK w' he; rw [hn] at this; exact this
      · apply hE
        · exact ⟨1, m1, rfl, rfl, hm1, by omega, fun h => by omega, fun _ => hs, fun h => by omega, he⟩
        · simp [Go.RowKit.intOf]
    · have h1 := i1 rfl
      obtain ⟨a, sc, rfl, _⟩ := id hM
      have hM' : RdS m w (.slice a M.length sc) (i64L M) := by rw [show (i64L M).length = M.length by simp] at hM; exact hM
      simp (disch := first | omega | simp only [RO] | (simp only [RZ] <;> omega) | fail) only [↓RBp, ↓RA, ↓reduceIte, Nat.reduceAdd, Nat.reduceMul, Nat.reduceEqDiff, RB, RX, RA2, d1, List.length_map]
      refine inner E1 M _ 1 mm w1 he1 hM' lM hmm (fun hn w' he => ?_) (fun m1 w' hs hm1 he => ?_) (by omega)
      · have := hK w' he; rw [h1, Option.bind_some, hn] at this; exact this
      · apply hE
        · exact ⟨2, m1, rfl, rfl, hm1, by omega, fun h => by omega, fun h => by omega, fun _ => by rw [h1, Option.bind_some]; exact hs, he⟩
        · simp [Go.RowKit.intOf]
    · have h2 := i2 rfl
      rw [h2] at hK
      simp (disch := first | omega | simp only [RO] | (simp only [RZ] <;> omega) | fail) only [↓RBp, ↓RA, ↓reduceIte, Nat.reduceAdd, Nat.reduceMul, Nat.reduceEqDiff, RB, RX, RA2, f86_k1_eq, f86_k1_t]
      exact hK _ e1
theorem k_once (h : Cx w Y D l c) (o : Int) (g : Nat) (L M : List Int) (v u : Value) {m : Nat} (hL : RdS m w v (i64L L)) (hM : RdS m w u (i64L M)) (lL : L.length < 1099511627776) (lM : M.length < 1099511627776) (b cap : Nat) (hb0 : w.cell? ⟨b, 0, none⟩ = some v) (hb1 : w.cell? ⟨b, 1, none⟩ = some u) (K : K1)
    (hK : ∀ w', Ext w w' → K (.bool ((onc (perS c) L 0).bind (onc (perS c) M)).isSome) w') : callS Tryz.prog 86 #[chV Y l c o g, .slice (some ⟨b, 0, none⟩) 2 cap] w K := k_onceG h.cg Y l o g L M v u hL hM lL lM b cap hb0 hb1 K hK
end
end Go.Proofs.YtaeopkhdokaaoaaGreatDoor
namespace Go.Proofs.YtaeopkhdokaaoaaGreatDoor
open Go Go.Sh
set_option maxRecDepth 100000
set_option maxHeartbeats 4000000
set_option linter.unusedSimpArgs false
set_option linter.unusedVariables false
@[irreducible] def tkOk (D : DS) (l : Nat) (c : Int) (i : Nat) : Bool := isS (wd D l (offN c i)) && (!bitB (wd D l 1) i && (decide (bS (wd D l (offN c i)) = 176) && goodB (bG (wd D l (offN c i))) (bK (wd D l (offN c i))) (bS (wd D l (offN c i)))))
@[irreducible] def dpOk (D : DS) (l : Nat) (c : Int) (i : Nat) : Bool := isS (wd D l (offN c i)) && (bitB (wd D l 1) i && decide (bS (wd D l (offN c i)) = 177))
def tkW (D : DS) (l : Nat) (c : Int) (i k : Nat) : Nat × Nat := (l * 64 + offN c i * 8, sealN (blkX (bG (wd D l (offN c i))) k 177))
def dpW (D : DS) (l : Nat) (c : Int) (i : Nat) : Nat × Nat := (l * 64 + offN c i * 8, sealN (blkX (freG (bG (wd D l (offN c i)))) 0 (freS (bG (wd D l (offN c i))))))
def dpB (D : DS) (l : Nat) (c : Int) (i b : Nat) : Nat := if freS (bG (wd D l (offN c i))) = 176 then b &&& (18446744073709551615 ^^^ 2 ^ i) else b
def chT (D : DS) (l : Nat) (c : Int) : List Int → List Nat → List (Nat × Nat) → Nat → Option (List (Nat × Nat) × Nat)
  | i :: r, k :: ks, acc, b => if tkOk D l c i.toNat = true then chT D l c r ks (acc ++ [tkW D l c i.toNat k]) (b ||| 2 ^ i.toNat) else none
  | _, _, acc, b => some (acc, b)
def chDr (D : DS) (l : Nat) (c : Int) : List Int → List (Nat × Nat) → Nat → Option (List (Nat × Nat) × Nat)
  | i :: r, acc, b => if dpOk D l c i.toNat = true then chDr D l c r (acc ++ [dpW D l c i.toNat]) (dpB D l c i.toNat b) else none
  | [], acc, b => some (acc, b)
def actN (D : DS) (l : Nat) (c : Int) (take : List Int) (kinds : List Nat) (drop : List Int) : Option (List (Nat × Nat)) :=
  if take.length = 0 ∧ drop.length = 0 then some [] else
  match chT D l c take kinds [] (wd D l 1) with
  | none => none
  | some (ws, b) => match chDr D l c drop ws b with
    | none => none
    | some (ws, b) => some (ws ++ [(l * 64 + 8, b)])
theorem chT_drop {D : DS} {l : Nat} {c : Int} {L : List Int} {ks : List Nat} {j b : Nat} {acc : List (Nat × Nat)} (h : j < L.length) (h2 : ks.length = L.length) : chT D l c (L.drop j) (ks.drop j) acc b = if tkOk D l c L[j].toNat = true then chT D l c (L.drop (j + 1)) (ks.drop (j + 1)) (acc ++ [tkW D l c L[j].toNat (ks[j]'(by omega))]) (b ||| 2 ^ L[j].toNat) else none := by
  rw [List.drop_eq_getElem_cons h, List.drop_eq_getElem_cons (show j < ks.length by omega)]; rfl
theorem chDr_drop {D : DS} {l : Nat} {c : Int} {L : List Int} {j b : Nat} {acc : List (Nat × Nat)} (h : j < L.length) : chDr D l c (L.drop j) acc b = if dpOk D l c L[j].toNat = true then chDr D l c (L.drop (j + 1)) (acc ++ [dpW D l c L[j].toNat]) (dpB D l c L[j].toNat b) else none := by
  rw [List.drop_eq_getElem_cons h]; rfl
theorem bG_lt (x : Nat) : bG x < 65536 := by unfold bG gX; split <;> omega
theorem bK_lt (x : Nat) : bK x < 256 := by unfold bK kX; split <;> omega
theorem bS_lt (x : Nat) : bS x < 256 := by unfold bS sX; split <;> omega
theorem freG_lt {g : Nat} (h : g < 65536) : freG g < 65536 := by unfold freG; split <;> omega
theorem freS_lt (g : Nat) : freS g < 256 := by unfold freS; split <;> omega
section
variable {w w' : World} {Y : Lay} {D : DS} {l : Nat} {c o : Int} {g : Nat}
theorem k_changes (h : Cx w Y D l c) (o : Int) (g : Nat) (L M : List Int) (ks : List Nat) (v kv u : Value) {m : Nat} (hL : RdS m w v (i64L L)) (hk : RdS m w kv (u8L ks)) (hM : RdS m w u (i64L M)) (lL : L.length < 1073741824) (lM : M.length < 1073741824) (lk : ks.length = L.length) (hks : ∀ k ∈ ks, k < 256) (vL : ∀ i ∈ L, 0 ≤ i ∧ i < perS c) (vM : ∀ i ∈ M, 0 ≤ i ∧ i < perS c) (K : K1)
    (hno : actN D l c L ks M = none → ∀ w', Ext w w' → K (.tuple #[.slice none 0 0, .bool false]) w')
    (hyes : ∀ ws, actN D l c L ks M = some ws → ∀ v' w', Ext w w' → NewV w.heap.size v' → SlO w' 37 2 v' ws.length (wrL ws) → K (.tuple #[v', .bool true]) w') : callS Tryz.prog 87 #[chV Y l c o g, v, kv, u] w K := by
  have hp := perS_in h.c0 h.c5
  have hbt := h.bits o g
  have hy := h.wd_lt 1 (by omega)
  have hat := h.at_ o g
  have hbw : ∀ (w1 : World) (a b d : Nat) (K : K1), Ext w w1 → a < 65536 → b < 256 → d < 256 → callS Tryz.prog 72 #[.agg #[.int .u16 (a : Int), .int .u8 (b : Int), .int .u8 (d : Int)]] w1 K = K (.int .u64 ((sealN (blkX a b d) : Nat) : Int)) ((w1.alloc (blkO a b d)).alloc (sealO (blkX a b d))) := fun w1 a b d K he ha hb hd => c_bword a b d w1 K (h.gl.ext he) ha hb hd
  have l1 : (i64L L).length = L.length := by simp
  have l2 : (i64L M).length = M.length := by simp
  have l3 : (u8L ks).length = L.length := by simp [lk]
  obtain ⟨la, lc, rfl, _⟩ := id hL
  obtain ⟨ma, mc, rfl, _⟩ := id hM
  rw [l1] at hL ⊢
  rw [l2] at hM ⊢
  refine f87_call _ _ _ _ _ _ ?_
  unfold f87_t
  have e0 : Ext w (w.alloc (chO Y l c o g)) := Ext.alloc_self _ _
  have s0 : w.heap.size ≤ (w.alloc (chO Y l c o g)).heap.size := by simp only [RZ]; omega
  have main : L.length + M.length ≠ 0 → ∀ w1, Ext (w.alloc (chO Y l c o g)) w1 → f87_l1 K kv (.slice ma M.length mc) (.pointer (some ⟨w.heap.size, 0, none⟩)) (.slice none 0 0) (.int .u64 (wd D l 1 : Int)) (.slice la L.length lc) (.int .i64 (L.length : Int)) (.int .i64 0) w1 := by
    intro hne w1 he1
    have hact : actN D l c L ks M = match chT D l c L ks [] (wd D l 1) with
      | none => none
      | some (ws, b) => match chDr D l c M ws b with
        | none => none
        | some (ws, b) => some (ws ++ [(l * 64 + 8, b)]) := by unfold actN; rw [if_neg (by omega)]
    apply f87_l1_rule (I := fun x y z w' => ∃ (j b : Nat) (acc : List (Nat × Nat)), z = .int .i64 (j : Int) ∧ y = .int .u64 (b : Int) ∧ b < 18446744073709551616 ∧ j ≤ L.length ∧ acc.length = j ∧ SlO w' 37 2 x acc.length (wrL acc) ∧ Frm Nob (w.alloc (chO Y l c o g)) w' ∧ NewV (w.alloc (chO Y l c o g)).heap.size x ∧ chT D l c (L.drop j) (ks.drop j) acc b = chT D l c L ks [] (wd D l 1)) (μ := fun _ _ z _ => L.length - (Go.RowKit.intOf z).toNat)
    · exact ⟨0, wd D l 1, [], rfl, rfl, hy, by omega, rfl, SlO.nil _ _ _, Frm.of_ext he1, (fun b hb => by cases hb), rfl⟩
    · intros; rename_i w2 hI E1 hE
      obtain ⟨j, b, acc, rfl, rfl, hb, hj, ha, sp, f2, n2, hch⟩ := hI
      have he2 : Ext (w.alloc (chO Y l c o g)) w2 := f2.to_ext (fun _ _ h => h)
      have e2 : Ext w w2 := e0.trans he2
      obtain ⟨c0, c1, c2, c3, c4⟩ := chCells he2
      obtain ⟨pa, pc, rfl, hpc⟩ := sp.isS'
      by_cases hjl : j < L.length
      · obtain ⟨sb, so, sc, ev1, hc⟩ := (hL.ext e2).get (i64L_get hjl)
        injection ev1 with ev1 _ ev2; subst ev1; subst ev2
        have hv := vL L[j] (List.getElem_mem hjl)
        have hkm := hks (ks[j]'(by omega)) (List.getElem_mem _)
        have hku := (hk.ext e2).get (u8L_get (l := ks) (j := j) (by omega))
        rw [chT_drop hjl lk] at hch
        generalize L[j] = x at hch hc hv
        generalize ks[j]'(by omega) = kj at hch hkm hku
        obtain ⟨i, rfl⟩ : ∃ i : Nat, x = (i : Int) := ⟨x.toNat, by omega⟩
        rw [Int.toNat_natCast] at hch
        obtain ⟨kb, ko, kc, rfl, hkc⟩ := hku
        rw [l3]
        unfold f87_l1_t
        simp (disch := first | omega | simp only [RO] | (simp only [RZ] <;> omega) | fail) only [↓RBp, ↓RA, ↓reduceIte, Nat.reduceAdd, Nat.reduceMul, Nat.reduceEqDiff, RB, RX, RA2, hc, c0, c1, c2, c3, c4]
        refine k_read (h.ext e2) o g i hv.2 _ (fun w3 he3 => ?_)
        have e3 : Ext w w3 := e2.trans he3
        have he13 := he2.trans he3
        have dd := chCells he13
        have d0 := dd.1
        have d1 := dd.2.1
        have d2 := dd.2.2.1
        have d3 := dd.2.2.2.1
        have d4 := dd.2.2.2.2
        have hkc3 := he3.cell_some hkc
        have ltk := lt_of_cell hkc3
        have lt3 : w.heap.size < w3.heap.size := lt_of_cell d0
        have b1 := bG_lt (wd D l (offN c i))
        have b2 := bK_lt (wd D l (offN c i))
        have bad : tkOk D l c i = false → ∀ w', Ext w w' → K (.tuple #[.slice none 0 0, .bool false]) w' := by
          intro hf
          rw [if_neg (by simp [hf])] at hch
          exact hno (by rw [hact, ← hch])
        by_cases t1 : isS (wd D l (offN c i)) = true
        · by_cases t2 : bitB (wd D l 1) i = true
          · simp (disch := first | omega | simp only [RO] | (simp only [RZ] <;> omega) | fail) only [↓RBp, ↓RA, ↓reduceIte, Nat.reduceAdd, Nat.reduceMul, Nat.reduceEqDiff, RB, RX, RA2, t1, t2]
            exact bad (by simp [tkOk, t2]) _ (by repeat (first | (with_reducible first | refine eB ?_ (by first | omega | (simp only [RZ] <;> omega)) _ | assumption | exact eR _ | refine eA ?_ _ | refine eD ?_ | refine eT ?_ (by assumption)) | exact eR _))
          · have t2 : bitB (wd D l 1) i = false := by simpa using t2
            by_cases t3 : bS (wd D l (offN c i)) = 176
            · by_cases t4 : goodB (bG (wd D l (offN c i))) (bK (wd D l (offN c i))) 176 = true
              · have hok : tkOk D l c i = true := by simp [tkOk, t1, t2, t3, t4]
                rw [if_pos hok] at hch
                have hpw := pow_lt64 (show i < 64 by omega)
                have hs1 : 1 * 2 ^ i % 18446744073709551616 = 2 ^ i := by rw [Nat.one_mul]; exact Nat.mod_eq_of_lt hpw
                have hor := or_lt64 hb hpw
                (repeat' (first | (with_reducible refine brS_mk (fun _ => ?_) (fun _ => ?_)) | (with_reducible refine And.intro ?_ ?_) | (simp (disch := first | omega | simp only [RO] | (simp only [RZ] <;> omega) | (with_reducible (repeat (first | assumption | exact Ext.refl _ | refine Ext.alloc ?_ _ | refine Ext.drew ?_ | refine Ext.trans ?_ (by assumption)))) | fail) only [↓RBp, ↓RA, ↓reduceIte, Nat.reduceAdd, Nat.reduceMul, Nat.reduceEqDiff, RB, RX, RA2, t1, t2, t3, c_good, t4, hkc3, d0, d1, d2, d3, d4, hat, hbw])))
                refine app_new elWrite (w0 := w.alloc (chO Y l c o g)) ((sp.ext he3).ext (by repeat (first | (with_reducible first | refine eB ?_ (by first | omega | (simp only [RZ] <;> omega)) _ | assumption | exact eR _ | refine eA ?_ _ | refine eD ?_ | refine eT ?_ (by assumption)) | exact eR _))) ((f2.ext he3).ext (by repeat (first | (with_reducible first | refine eB ?_ (by first | omega | (simp only [RZ] <;> omega)) _ | assumption | exact eR _ | refine eA ?_ _ | refine eD ?_ | refine eT ?_ (by assumption)) | exact eR _))) n2 (m := 1) (news := wrL [tkW D l c i kj]) (by simp [wrL, tkW]) ?_ rfl (by omega) (by omega) (by omega) (fun v' w4 hsp hf4 n4 _ _ => ?_)
                · intro q u hq
                  rw [Nat.zero_add, cell_drew, cell_new _ _ _ _ _ (by simp only [RZ])]
                  simpa [wrL, tkW, u64] using hq
                simp (disch := first | omega | simp only [RO] | (simp only [RZ] <;> omega) | fail) only [↓RBp, ↓RA, ↓reduceIte, Nat.reduceAdd, Nat.reduceMul, Nat.reduceEqDiff, RB, RX, RA2, hs1]
                apply hE
                · refine ⟨j + 1, _, acc ++ [tkW D l c i kj], by simp, rfl, hor, by omega, by simp [ha], ?_, hf4, n4, hch⟩
                  rw [wrL_append, List.length_append]; exact hsp
                · simp [Go.RowKit.intOf]; omega
              · have t4 : goodB (bG (wd D l (offN c i))) (bK (wd D l (offN c i))) 176 = false := by simpa using t4
                simp (disch := first | omega | simp only [RO] | (simp only [RZ] <;> omega) | fail) only [↓RBp, ↓RA, ↓reduceIte, Nat.reduceAdd, Nat.reduceMul, Nat.reduceEqDiff, RB, RX, RA2, t1, t2, t3, c_good, t4]
                exact bad (by simp [tkOk, t3, t4]) _ (by repeat (first | (with_reducible first | refine eB ?_ (by first | omega | (simp only [RZ] <;> omega)) _ | assumption | exact eR _ | refine eA ?_ _ | refine eD ?_ | refine eT ?_ (by assumption)) | exact eR _))
            · simp (disch := first | omega | simp only [RO] | (simp only [RZ] <;> omega) | fail) only [↓RBp, ↓RA, ↓reduceIte, Nat.reduceAdd, Nat.reduceMul, Nat.reduceEqDiff, RB, RX, RA2, t1, t2, t3]
              exact bad (by simp [tkOk, t3]) _ (by repeat (first | (with_reducible first | refine eB ?_ (by first | omega | (simp only [RZ] <;> omega)) _ | assumption | exact eR _ | refine eA ?_ _ | refine eD ?_ | refine eT ?_ (by assumption)) | exact eR _))
        · have t1 : isS (wd D l (offN c i)) = false := by simpa using t1
          simp (disch := first | omega | simp only [RO] | (simp only [RZ] <;> omega) | fail) only [↓RBp, ↓RA, ↓reduceIte, Nat.reduceAdd, Nat.reduceMul, Nat.reduceEqDiff, RB, RX, RA2, t1]
          exact bad (by simp [tkOk, t1]) _ (by repeat (first | (with_reducible first | refine eB ?_ (by first | omega | (simp only [RZ] <;> omega)) _ | assumption | exact eR _ | refine eA ?_ _ | refine eD ?_ | refine eT ?_ (by assumption)) | exact eR _))
      · have hjL : j = L.length := by omega
        subst hjL
        have hd1 : L.drop L.length = [] := List.drop_length
        rw [hd1] at hch
        have hch2 : chT D l c L ks [] (wd D l 1) = some (acc, b) := by rw [← hch]; simp [chT]
        rw [hch2] at hact
        simp only at hact
        unfold f87_l1_t
        simp (disch := first | omega | simp only [RO] | (simp only [RZ] <;> omega) | fail) only [↓RBp, ↓RA, ↓reduceIte, Nat.reduceAdd, Nat.reduceMul, Nat.reduceEqDiff, RB, RX, RA2, f87_k1_eq, f87_k1_t]
        apply f87_l2_rule (I := fun x y z w' => ∃ (j b' : Nat) (acc' : List (Nat × Nat)), z = .int .i64 (j : Int) ∧ y = .int .u64 (b' : Int) ∧ b' < 18446744073709551616 ∧ j ≤ M.length ∧ acc'.length = L.length + j ∧ SlO w' 37 2 x acc'.length (wrL acc') ∧ Frm Nob (w.alloc (chO Y l c o g)) w' ∧ NewV (w.alloc (chO Y l c o g)).heap.size x ∧ chDr D l c (M.drop j) acc' b' = chDr D l c M acc b) (μ := fun _ _ z _ => M.length - (Go.RowKit.intOf z).toNat)
        · exact ⟨0, b, acc, rfl, rfl, hb, by omega, ha, sp, f2, n2, rfl⟩
        · intros; rename_i w3 hI3 E3 hE3
          obtain ⟨j, b', acc', rfl, rfl, hb', hj', ha', sp3, f3, n3, hch3⟩ := hI3
          have he3 : Ext (w.alloc (chO Y l c o g)) w3 := f3.to_ext (fun _ _ h => h)
          have e3 : Ext w w3 := e0.trans he3
          obtain ⟨c0, c1, c2, c3, c4⟩ := chCells he3
          obtain ⟨pa3, pc3, rfl, hpc3⟩ := sp3.isS'
          by_cases hjM : j < M.length
          · obtain ⟨sb, so, sc, ev1, hc⟩ := (hM.ext e3).get (i64L_get hjM)
            injection ev1 with ev1 _ ev2; subst ev1; subst ev2
            have hv := vM M[j] (List.getElem_mem hjM)
            rw [chDr_drop hjM] at hch3
            generalize M[j] = x at hch3 hc hv
            obtain ⟨i, rfl⟩ : ∃ i : Nat, x = (i : Int) := ⟨x.toNat, by omega⟩
            rw [Int.toNat_natCast] at hch3
            unfold f87_l2_t
            simp (disch := first | omega | simp only [RO] | (simp only [RZ] <;> omega) | fail) only [↓RBp, ↓RA, ↓reduceIte, Nat.reduceAdd, Nat.reduceMul, Nat.reduceEqDiff, RB, RX, RA2, hc, c0, c1, c2, c3, c4]
            refine k_read (h.ext e3) o g i hv.2 _ (fun w4 he4 => ?_)
            have e4 : Ext w w4 := e3.trans he4
            have he14 := he3.trans he4
            have dd := chCells he14
            have d0 := dd.1
            have d1 := dd.2.1
            have d2 := dd.2.2.1
            have d3 := dd.2.2.2.1
            have d4 := dd.2.2.2.2
            have lt4 : w.heap.size < w4.heap.size := lt_of_cell d0
            have b1 := bG_lt (wd D l (offN c i))
            have b2 := freG_lt b1
            have b3 := freS_lt (bG (wd D l (offN c i)))
            have bad : dpOk D l c i = false → ∀ w', Ext w w' → K (.tuple #[.slice none 0 0, .bool false]) w' := by
              intro hf
              rw [if_neg (by simp [hf])] at hch3
              exact hno (by rw [hact, ← hch3])
            by_cases t1 : isS (wd D l (offN c i)) = true
            · by_cases t2 : bitB (wd D l 1) i = true
              · by_cases t3 : bS (wd D l (offN c i)) = 177
                · have hok : dpOk D l c i = true := by simp [dpOk, t1, t2, t3]
                  rw [if_pos hok] at hch3
                  have hpw := pow_lt64 (show i < 64 by omega)
                  have hs1 : 1 * 2 ^ i % 18446744073709551616 = 2 ^ i := by rw [Nat.one_mul]; exact Nat.mod_eq_of_lt hpw
                  have han : b' &&& (18446744073709551615 ^^^ 2 ^ i) < 18446744073709551616 := Nat.lt_of_le_of_lt Nat.and_le_left hb'
                  have rAN : ∀ (w : World) (k : K1), ev Tryz.prog (binM .andNot 33 (.tmp 120) (.tmp 123) (.int .u64 (b' : Int)) (.int .u64 ((2 ^ i : Nat) : Int))) w k = k (.int .u64 ((b' &&& (18446744073709551615 ^^^ 2 ^ i) : Nat) : Int)) w := fun w k => ev_of_run (run_andNot _ _ _ b' (2 ^ i) w hb' hpw) k
                  (repeat' (first | (with_reducible refine brS_mk (fun _ => ?_) (fun _ => ?_)) | (with_reducible refine And.intro ?_ ?_) | (simp (disch := first | omega | simp only [RO] | (simp only [RZ] <;> omega) | (with_reducible (repeat (first | assumption | exact Ext.refl _ | refine Ext.alloc ?_ _ | refine Ext.drew ?_ | refine Ext.trans ?_ (by assumption)))) | fail) only [↓RBp, ↓RA, ↓reduceIte, Nat.reduceAdd, Nat.reduceMul, Nat.reduceEqDiff, RB, RX, RA2, t1, t2, t3, c_freed, d0, d1, d2, d3, d4, hat, hbw])))
                  refine app_new elWrite (w0 := w.alloc (chO Y l c o g)) ((sp3.ext he4).ext (by repeat (first | (with_reducible first | refine eB ?_ (by first | omega | (simp only [RZ] <;> omega)) _ | assumption | exact eR _ | refine eA ?_ _ | refine eD ?_ | refine eT ?_ (by assumption)) | exact eR _))) ((f3.ext he4).ext (by repeat (first | (with_reducible first | refine eB ?_ (by first | omega | (simp only [RZ] <;> omega)) _ | assumption | exact eR _ | refine eA ?_ _ | refine eD ?_ | refine eT ?_ (by assumption)) | exact eR _))) n3 (m := 1) (news := wrL [dpW D l c i]) (by simp [wrL, dpW]) ?_ rfl (by omega) (by omega) (by omega) (fun v' w5 hsp hf5 n5 hfr5 _ => ?_)
                  · intro q u hq
                    rw [Nat.zero_add, cell_drew, cell_new _ _ _ _ _ (by simp only [RZ])]
                    simpa [wrL, dpW, u64] using hq
                  have ltq : ∀ q, (Value.slice pa3 acc'.length pc3).ownBlock = some q → q < w4.heap.size := fun q hq => (sp3.ext he4).lt hq
                  have cq : w5.cell? ⟨w4.heap.size, 2, none⟩ = some (.int .u8 ((freS (bG (wd D l (offN c i))) : Nat) : Int)) := by
                    rw [hfr5.cell w4.heap.size 2 (by simp only [RZ]; omega) (fun hq => by have := ltq _ hq; omega)]
                    simp (disch := first | omega | simp only [RO] | (simp only [RZ] <;> omega) | fail) only [↓RBp, ↓RA, ↓reduceIte, Nat.reduceAdd, Nat.reduceMul, Nat.reduceEqDiff, RB, RX, RA2]
                  by_cases hfs : freS (bG (wd D l (offN c i))) = 176
                  · have hdB : dpB D l c i b' = b' &&& (18446744073709551615 ^^^ 2 ^ i) := by unfold dpB; rw [if_pos hfs]
                    rw [hfs] at cq
                    simp (disch := first | omega | simp only [RO] | (simp only [RZ] <;> omega) | fail) only [↓RBp, ↓RA, ↓reduceIte, Nat.reduceAdd, Nat.reduceMul, Nat.reduceEqDiff, RB, RX, RA2, cq, hs1, rAN, f87_k3_eq, f87_k3_t]
                    apply hE3
                    · refine ⟨j + 1, _, acc' ++ [dpW D l c i], by simp, rfl, han, by omega, by simp [ha']; omega, ?_, hf5, n5, by rw [← hdB]; exact hch3⟩
                      rw [wrL_append, List.length_append]; exact hsp
                    · simp [Go.RowKit.intOf]; omega
                  · have hdB : dpB D l c i b' = b' := by unfold dpB; rw [if_neg hfs]
                    rw [hdB] at hch3
                    simp (disch := first | omega | simp only [RO] | (simp only [RZ] <;> omega) | fail) only [↓RBp, ↓RA, ↓reduceIte, Nat.reduceAdd, Nat.reduceMul, Nat.reduceEqDiff, RB, RX, RA2, cq, hfs, f87_k3_eq, f87_k3_t]
                    apply hE3
                    · refine ⟨j + 1, _, acc' ++ [dpW D l c i], by simp, rfl, hb', by omega, by simp [ha']; omega, ?_, hf5, n5, hch3⟩
                      rw [wrL_append, List.length_append]; exact hsp
                    · simp [Go.RowKit.intOf]; omega
                · simp (disch := first | omega | simp only [RO] | (simp only [RZ] <;> omega) | fail) only [↓RBp, ↓RA, ↓reduceIte, Nat.reduceAdd, Nat.reduceMul, Nat.reduceEqDiff, RB, RX, RA2, t1, t2, t3]
                  exact bad (by simp [dpOk, t3]) _ (by repeat (first | (with_reducible first | refine eB ?_ (by first | omega | (simp only [RZ] <;> omega)) _ | assumption | exact eR _ | refine eA ?_ _ | refine eD ?_ | refine eT ?_ (by assumption)) | exact eR _))
              · have t2 : bitB (wd D l 1) i = false := by simpa using t2
                simp (disch := first | omega | simp only [RO] | (simp only [RZ] <;> omega) | fail) only [↓RBp, ↓RA, ↓reduceIte, Nat.reduceAdd, Nat.reduceMul, Nat.reduceEqDiff, RB, RX, RA2, t1, t2]
                exact bad (by simp [dpOk, t2]) _ (by repeat (first | (with_reducible first | refine eB ?_ (by first | omega | (simp only [RZ] <;> omega)) _ | assumption | exact eR _ | refine eA ?_ _ | refine eD ?_ | refine eT ?_ (by assumption)) | exact eR _))
            · have t1 : isS (wd D l (offN c i)) = false := by simpa using t1
              simp (disch := first | omega | simp only [RO] | (simp only [RZ] <;> omega) | fail) only [↓RBp, ↓RA, ↓reduceIte, Nat.reduceAdd, Nat.reduceMul, Nat.reduceEqDiff, RB, RX, RA2, t1]
              exact bad (by simp [dpOk, t1]) _ (by repeat (first | (with_reducible first | refine eB ?_ (by first | omega | (simp only [RZ] <;> omega)) _ | assumption | exact eR _ | refine eA ?_ _ | refine eD ?_ | refine eT ?_ (by assumption)) | exact eR _))
          · have hjM' : j = M.length := by omega
            subst hjM'
            rw [List.drop_length] at hch3
            have hch4 : chDr D l c M acc b = some (acc', b') := by rw [← hch3]; simp [chDr]
            rw [hch4] at hact
            simp only at hact
            have lt3 : w.heap.size < w3.heap.size := lt_of_cell c0
            have hl' := h.hl; have hn' := h.n
            unfold f87_l2_t
            simp (disch := first | omega | simp only [RO] | (simp only [RZ] <;> omega) | (with_reducible (repeat (first | assumption | exact Ext.refl _ | refine Ext.alloc ?_ _ | refine Ext.drew ?_ | refine Ext.trans ?_ (by assumption)))) | fail) only [↓RBp, ↓RA, ↓reduceIte, Nat.reduceAdd, Nat.reduceMul, Nat.reduceEqDiff, RB, RX, RA2, c0, c1, c2, c3, c4, c_line, Int.toNat_natCast, f87_k2_eq, f87_k2_t]
            refine app_new elWrite (w0 := w.alloc (chO Y l c o g)) (sp3.ext (by repeat (first | (with_reducible first | refine eB ?_ (by first | omega | (simp only [RZ] <;> omega)) _ | assumption | exact eR _ | refine eA ?_ _ | refine eD ?_ | refine eT ?_ (by assumption)) | exact eR _))) (f3.ext (by repeat (first | (with_reducible first | refine eB ?_ (by first | omega | (simp only [RZ] <;> omega)) _ | assumption | exact eR _ | refine eA ?_ _ | refine eD ?_ | refine eT ?_ (by assumption)) | exact eR _))) n3 (m := 1) (news := wrL [(l * 64 + 8, b')]) (by simp [wrL]) ?_ rfl (by omega) (by omega) (by omega) (fun v' w5 hsp hf5 n5 hfr5 _ => ?_)
            · intro q u hq
              rw [Nat.zero_add, cell_new _ _ _ _ _ (by simp only [RZ])]
              simpa [wrL, u64] using hq
            try simp (disch := first | omega | simp only [RO] | (simp only [RZ] <;> omega) | fail) only [↓RBp, ↓RA, ↓reduceIte, Nat.reduceAdd, Nat.reduceMul, Nat.reduceEqDiff, RB, RX, RA2]
            refine hyes _ hact v' w5 (e0.trans (hf5.to_ext (fun _ _ h => h))) (fun q hq => Nat.le_trans s0 (n5 q hq)) ?_
            rw [wrL_append, List.length_append]; exact hsp
  by_cases hL0 : L.length = 0
  · by_cases hM0 : M.length = 0
    · simp (disch := first | omega | simp only [RO] | (simp only [RZ] <;> omega) | fail) only [↓RBp, ↓RA, ↓reduceIte, Nat.reduceAdd, Nat.reduceMul, Nat.reduceEqDiff, RB, RX, RA2, hL0, hM0]
      exact hyes [] (by unfold actN; rw [if_pos ⟨hL0, hM0⟩]) _ _ (by repeat (first | (with_reducible first | refine eB ?_ (by first | omega | (simp only [RZ] <;> omega)) _ | assumption | exact eR _ | refine eA ?_ _ | refine eD ?_ | refine eT ?_ (by assumption)) | exact eR _)) (fun b hb => by cases hb) (SlO.nil _ _ _)
    · have hz : ((L.length : Nat) : Int) = 0 := by omega
      have hnz : ¬ ((M.length : Nat) : Int) = 0 := by omega
      simp (disch := first | omega | simp only [RO] | (simp only [RZ] <;> omega) | (with_reducible (repeat (first | assumption | exact Ext.refl _ | refine Ext.alloc ?_ _ | refine Ext.drew ?_ | refine Ext.trans ?_ (by assumption)))) | fail) only [↓RBp, ↓RA, ↓reduceIte, Nat.reduceAdd, Nat.reduceMul, Nat.reduceEqDiff, RB, RX, RA2, dec_true hz, dec_false hnz, hbt]
      exact main (by omega) _ (by repeat (first | (with_reducible first | refine eB ?_ (by first | omega | (simp only [RZ] <;> omega)) _ | assumption | exact eR _ | refine eA ?_ _ | refine eD ?_ | refine eT ?_ (by assumption)) | exact eR _))
  · have hnz : ¬ ((L.length : Nat) : Int) = 0 := by omega
    simp (disch := first | omega | simp only [RO] | (simp only [RZ] <;> omega) | (with_reducible (repeat (first | assumption | exact Ext.refl _ | refine Ext.alloc ?_ _ | refine Ext.drew ?_ | refine Ext.trans ?_ (by assumption)))) | fail) only [↓RBp, ↓RA, ↓reduceIte, Nat.reduceAdd, Nat.reduceMul, Nat.reduceEqDiff, RB, RX, RA2, dec_false hnz, hbt]
    exact main (by omega) _ (by repeat (first | (with_reducible first | refine eB ?_ (by first | omega | (simp only [RZ] <;> omega)) _ | assumption | exact eR _ | refine eA ?_ _ | refine eD ?_ | refine eT ?_ (by assumption)) | exact eR _))
end
end Go.Proofs.YtaeopkhdokaaoaaGreatDoor
namespace Go.Proofs.YtaeopkhdokaaoaaGreatDoor
open Go Go.Sh
set_option maxRecDepth 100000
set_option linter.unusedSimpArgs false
set_option linter.unusedVariables false
structure On (D : DS) : Prop where
  off : D.off = false
  arm : D.armed = false
  err : D.err 0 = 0
section
variable {D : DS}
theorem On.runs (h : On D) : D.runs true = true := by simp [DS.runs, h.off, h.arm]
theorem On.counted (h : On D) : D.counted 0 true = { D with exe := D.exe + 1 } := by
  rw [DS.counted_run h.runs, if_neg (by simp [h.arm])]
theorem On.store (h : On D) (off v : Nat) (hv : vOff D off = true) : D.store 0 off v = ({ D with exe := D.exe + 1 } : DS).write off v := by
  unfold DS.store; rw [hv, if_pos h.runs, h.counted]
theorem On.storeOn (h : On D) (off v : Nat) (hv : vOff D off = true) : On (D.store 0 off v) := by
  rw [h.store off v hv]; exact ⟨h.off, h.arm, h.err⟩
theorem On.storeCur (h : On D) (off v : Nat) (hv : vOff D off = true) : (D.store 0 off v).cur = fun j => if j = off / 8 then v else D.cur j := by
  rw [h.store off v hv]; rfl
theorem On.flush (h : On D) (off : Nat) (hv : fOff D off = true) : D.flush 0 off = ({ D with exe := D.exe + 1 } : DS).note 0 ((off / 64 : Nat) : Int) (D.done (off / 64) + (D.hist (off / 64)).length) := by
  unfold DS.flush; rw [hv, if_pos h.runs, h.counted]
theorem On.flushOn (h : On D) (off : Nat) (hv : fOff D off = true) : On (D.flush 0 off) := by
  rw [h.flush off hv]; exact ⟨h.off, h.arm, h.err⟩
theorem On.flushCur (h : On D) (off : Nat) (hv : fOff D off = true) : (D.flush 0 off).cur = D.cur := by
  rw [h.flush off hv]; rfl
theorem On.fence (h : On D) : D.fence 0 = (({ D with exe := D.exe + 1 } : DS).parts (D.due 0)).clr 0 := by
  unfold DS.fence; rw [if_pos h.runs, h.counted]
theorem On.fenceOn (h : On D) : On (D.fence 0) := by
  rw [h.fence]; exact ⟨h.off, h.arm, h.err⟩
theorem On.fenceCur (h : On D) : (D.fence 0).cur = D.cur := by
  rw [h.fence]; rfl
theorem On.zero (n : Nat) : On (DS.zero n) := ⟨rfl, rfl, rfl⟩
theorem run_cons (D : DS) (i : Ins) (p : List Ins) : D.run 0 (i :: p) = (D.exec 0 i).run 0 p := rfl
theorem On.runW : ∀ (ws : List (Nat × Nat)) (D : DS), On D → (∀ x ∈ ws, x.1 % 8 = 0 ∧ x.1 < D.n * 64) → On (D.run 0 (ws.map wrI)) ∧ (D.run 0 (ws.map wrI)).cur = applyH ws D.cur := by
  intro ws
  induction ws with
  | nil => intro D h _; exact ⟨h, rfl⟩
  | cons x ws ih =>
    intro D h hv
    rw [List.map_cons, run_cons]
    have e : D.exec 0 (wrI x) = D.store 0 x.1 x.2 := rfl
    have hx : vOff D x.1 = true := by simp [vOff, hv x (by simp)]
    rw [e]
    have hn := store_n D 0 x.1 x.2
    have := ih (D.store 0 x.1 x.2) (h.storeOn _ _ hx) (fun y hy => by rw [hn]; exact hv y (by simp [hy]))
    refine ⟨this.1, ?_⟩
    rw [this.2, h.storeCur _ _ hx]; rfl
theorem On.runF : ∀ (ls : List Nat) (D : DS), On D → (∀ x ∈ ls, x < D.n * 64) → On (D.run 0 (ls.map flI)) ∧ (D.run 0 (ls.map flI)).cur = D.cur := by
  intro ls
  induction ls with
  | nil => intro D h _; exact ⟨h, rfl⟩
  | cons x ls ih =>
    intro D h hv
    rw [List.map_cons, run_cons]
    have e : D.exec 0 (flI x) = D.flush 0 x := rfl
    have hx : fOff D x = true := by simp [fOff, hv x (by simp)]
    rw [e]
    have hn := flush_n D 0 x
    have := ih (D.flush 0 x) (h.flushOn _ hx) (fun y hy => by rw [hn]; exact hv y (by simp [hy]))
    exact ⟨this.1, this.2.trans (h.flushCur _ hx)⟩
theorem kpN_mem (d : Array Nat) : ∀ n, n ≤ d.size → ∀ x ∈ kpN d n, x ∈ d.toList := by
  intro n
  induction n with
  | zero => intro _ x hx; simp [kpN] at hx
  | succ n ih =>
    intro hn x hx
    simp only [kpN, List.mem_append] at hx
    rcases hx with hx | hx
    · exact ih (by omega) x hx
    · split at hx
      · simp only [List.mem_singleton] at hx
        subst hx
        rw [getElem!_pos d n (by omega)]
        simp
      · cases hx
theorem cmpN_mem {l : List Nat} {x : Nat} (h : x ∈ cmpN l) : x ∈ l := by
  have := kpN_mem l.toArray l.length (by simp) x h
  simpa using this
theorem storesI_line {ws : List (Nat × Nat)} {x : Nat} (h : x ∈ cmpN (srtN (ws.map fun x => lineS x.1))) : ∃ y ∈ ws, x = lineS y.1 := by
  have h1 := cmpN_mem h
  have h2 := (srtN_perm _).mem_iff.1 h1
  obtain ⟨y, hy, rfl⟩ := List.mem_map.1 h2
  exact ⟨y, hy, rfl⟩
theorem On.stores (h : On D) (ws : List (Nat × Nat)) (hv : ∀ x ∈ ws, x.1 % 8 = 0 ∧ x.1 < D.n * 64) : On (D.run 0 (storesI ws)) ∧ (D.run 0 (storesI ws)).cur = applyH ws D.cur := by
  unfold storesI
  rw [run_append, run_append]
  have h1 := On.runW ws D h hv
  have n1 := run_n 0 (ws.map wrI) D
  have h2 := On.runF (cmpN (srtN (ws.map fun x => lineS x.1))) (D.run 0 (ws.map wrI)) h1.1 (fun x hx => by
    obtain ⟨y, hy, rfl⟩ := storesI_line hx
    have := hv y hy
    rw [n1]; unfold lineS; omega)
  refine ⟨h2.1.fenceOn, ?_⟩
  show (DS.fence _ 0).cur = _
  rw [h2.1.fenceCur, h2.2, h1.2]
theorem okI_stores {ws : List (Nat × Nat)} (h : ∀ x ∈ ws, x.1 < 18446744073709551616 ∧ x.2 < 18446744073709551616) : ∀ i ∈ storesI ws, okI i := by
  intro i hi
  simp only [storesI, List.mem_append, List.mem_map, List.mem_singleton] at hi
  rcases hi with (⟨x, hx, rfl⟩ | ⟨x, hx, rfl⟩) | rfl
  · have := h x hx; exact ⟨by simp [wrI], by simp [wrI], this.1, this.2⟩
  · obtain ⟨y, hy, rfl⟩ := storesI_line hx
    have := h y hy
    exact ⟨by simp [flI], by simp [flI], by simp only [flI, lineS]; omega, by simp [flI]⟩
  · exact ⟨by simp, by simp, by simp, by simp⟩
end
theorem seal_lo (x : Nat) (h : x < 4294967296) : sealN x % 4294967296 = x := by unfold sealN; omega
theorem isS_seal {x : Nat} (h : x < 4294967296) : isS (sealN x) = true := by unfold isS; rw [seal_lo x h]; simp
theorem gX_seal (x : Nat) : gX (sealN x) = gX x := by unfold gX sealN; omega
theorem kX_seal (x : Nat) : kX (sealN x) = kX x := by unfold kX sealN; omega
theorem sX_seal (x : Nat) : sX (sealN x) = sX x := by unfold sX sealN; omega
theorem hC_seal (x : Nat) : hC (sealN x) = hC x := by unfold hC sealN; omega
theorem hO_seal (x : Nat) : hO (sealN x) = hO x := by unfold hO sealN; omega
section
variable {g k s : Nat}
theorem blkX_lt (hg : g < 65536) (hk : k < 256) (hs : s < 256) : blkX g k s < 4294967296 := by unfold blkX; omega
theorem isS_blk (hg : g < 65536) (hk : k < 256) (hs : s < 256) : isS (sealN (blkX g k s)) = true := isS_seal (blkX_lt hg hk hs)
theorem bG_blk (hg : g < 65536) (hk : k < 256) (hs : s < 256) : bG (sealN (blkX g k s)) = g := by unfold bG; rw [isS_blk hg hk hs, if_pos rfl, gX_seal]; unfold gX blkX; omega
theorem bK_blk (hg : g < 65536) (hk : k < 256) (hs : s < 256) : bK (sealN (blkX g k s)) = k := by unfold bK; rw [isS_blk hg hk hs, if_pos rfl, kX_seal]; unfold kX blkX; omega
theorem bS_blk (hg : g < 65536) (hk : k < 256) (hs : s < 256) : bS (sealN (blkX g k s)) = s := by unfold bS; rw [isS_blk hg hk hs, if_pos rfl, sX_seal]; unfold sX blkX; omega
end
section
variable {c o : Int} {g : Nat}
theorem hdX_lt (hc : -1 ≤ c) (hc' : c < 5) (ho : -1 ≤ o) (ho' : o < 8) (hg : g < 65536) : hdX c o g < 4294967296 := by unfold hdX; split <;> omega
theorem hd_ok (hc : 0 ≤ c) (hc' : c < 5) (ho : 0 ≤ o) (ho' : o < 8) (hg : g ≠ 0) (hg' : g < 65536) : hdOk (sealN (hdX c o g)) = true ∧ hC (sealN (hdX c o g)) = c ∧ hO (sealN (hdX c o g)) = o ∧ gX (sealN (hdX c o g)) = g := by
  have h1 : hC (sealN (hdX c o g)) = c := by rw [hC_seal]; unfold hC hdX; rw [if_pos hc]; omega
  have h2 : hO (sealN (hdX c o g)) = o := by rw [hO_seal]; unfold hO hdX; rw [if_pos hc]; omega
  have h3 : gX (sealN (hdX c o g)) = g := by rw [gX_seal]; unfold gX hdX; rw [if_pos hc]; omega
  have h4 : sX (sealN (hdX c o g)) = 197 := by rw [sX_seal]; unfold sX hdX; rw [if_pos hc]; omega
  refine ⟨?_, h1, h2, h3⟩
  unfold hdOk
  rw [h1, h2, h3, h4, isS_seal (hdX_lt (by omega) hc' (by omega) ho' hg')]
  simp [hg, fmtB, hc, hc', ho, ho']
theorem hd_free (hg : g ≠ 0) (hg' : g < 65536) : hdOk (sealN (hdX (-1) (-1) g)) = true ∧ hC (sealN (hdX (-1) (-1) g)) = -1 ∧ hO (sealN (hdX (-1) (-1) g)) = -1 ∧ gX (sealN (hdX (-1) (-1) g)) = g := by
  have e : hdX (-1) (-1) g = g + 3305111552 := by unfold hdX; rw [if_neg (by omega)]
  have h1 : hC (sealN (hdX (-1) (-1) g)) = -1 := by rw [hC_seal, e]; unfold hC; omega
  have h2 : hO (sealN (hdX (-1) (-1) g)) = -1 := by rw [hO_seal, e]; unfold hO; omega
  have h3 : gX (sealN (hdX (-1) (-1) g)) = g := by rw [gX_seal, e]; unfold gX; omega
  have h4 : sX (sealN (hdX (-1) (-1) g)) = 197 := by rw [sX_seal, e]; unfold sX; omega
  refine ⟨?_, h1, h2, h3⟩
  unfold hdOk
  rw [h1, h2, h3, h4, isS_seal (hdX_lt (by omega) (by omega) (by omega) (by omega) hg')]
  simp [hg]
end
end Go.Proofs.YtaeopkhdokaaoaaGreatDoor
namespace Go.Proofs.YtaeopkhdokaaoaaGreatDoor
open Go Go.Sh
set_option maxRecDepth 100000
set_option maxHeartbeats 4000000
set_option linter.unusedSimpArgs false
set_option linter.unusedVariables false
theorem rd_mf {P : Program} (f : Fn) (a c : Array Value) (w : World) (k : Value → Prop) : rd P (Instr.makeFunc f a c) w k = k (.func f a c) := rd_of_run rfl k
theorem ag_mf {P : Program} (f : Fn) (a c : Array Value) (w : World) (u : Value) : ag P (Instr.makeFunc f a c) w u = (Value.func f a c = u) := ag_of_run rfl u
theorem nilR_Load (b i : Nat) (w : World) (k : Value → Prop) : nilR Tryz.prog (.func (.method "Load") #[.iface 48 (.pointer (some ⟨b, i, none⟩))] #[]) w k = k (.func (.method "Load") #[.iface 48 (.pointer (some ⟨b, i, none⟩))] #[]) := by
  have h : (execOp (fun _ => (.func (.method "Load") #[.iface 48 (.pointer (some ⟨b, i, none⟩))] #[])) nilOp).run Tryz.prog w = .ok (.value (.func (.method "Load") #[.iface 48 (.pointer (some ⟨b, i, none⟩))] #[])) w := by kernel_rfl
  unfold nilR; rw [h]; simp
abbrev thV (Y : Lay) : Value := .iface 48 (.pointer (some ⟨Y.tb 0, 0, none⟩))
section
variable {w w' : World} {Y : Lay} {D : DS}
theorem cells5 {b t : Nat} {f : Nat → Value} (h : Cells w b t 5 f) (v0 v1 v2 v3 v4 : Value) : (((((w.setCell ⟨b, 0, none⟩ v0).setCell ⟨b, 1, none⟩ v1).setCell ⟨b, 2, none⟩ v2).setCell ⟨b, 3, none⟩ v3).setCell ⟨b, 4, none⟩ v4).cell? ⟨b, 0, none⟩ = some v0 ∧ (((((w.setCell ⟨b, 0, none⟩ v0).setCell ⟨b, 1, none⟩ v1).setCell ⟨b, 2, none⟩ v2).setCell ⟨b, 3, none⟩ v3).setCell ⟨b, 4, none⟩ v4).cell? ⟨b, 1, none⟩ = some v1 ∧ (((((w.setCell ⟨b, 0, none⟩ v0).setCell ⟨b, 1, none⟩ v1).setCell ⟨b, 2, none⟩ v2).setCell ⟨b, 3, none⟩ v3).setCell ⟨b, 4, none⟩ v4).cell? ⟨b, 2, none⟩ = some v2 ∧ (((((w.setCell ⟨b, 0, none⟩ v0).setCell ⟨b, 1, none⟩ v1).setCell ⟨b, 2, none⟩ v2).setCell ⟨b, 3, none⟩ v3).setCell ⟨b, 4, none⟩ v4).cell? ⟨b, 3, none⟩ = some v3 ∧ (((((w.setCell ⟨b, 0, none⟩ v0).setCell ⟨b, 1, none⟩ v1).setCell ⟨b, 2, none⟩ v2).setCell ⟨b, 3, none⟩ v3).setCell ⟨b, 4, none⟩ v4).cell? ⟨b, 4, none⟩ = some v4 := by
  have h3 := ((((h.set v0 (i := 0) (by omega)).set v1 (i := 1) (by omega)).set v2 (i := 2) (by omega)).set v3 (i := 3) (by omega)).set v4 (i := 4) (by omega)
  exact ⟨h3.cell (i := 0) (by omega), h3.cell (i := 1) (by omega), h3.cell (i := 2) (by omega), h3.cell (i := 3) (by omega), h3.cell (i := 4) (by omega)⟩
theorem k_Look (h : Dv w Y D) (g : Good D) (hG : Glob w) (ho : D.off = false) (he : D.err 0 = 0) (l : Nat) (hl : l + 32 ≤ D.n) (hok : hdOk (wd D l 0) = true) (K : K1)
    (hK : ∀ w', Ext w w' → K (.tuple #[.agg #[.int .i64 (hC (wd D l 0)), .int .i64 (hO (wd D l 0)), .int .u16 (gX (wd D l 0) : Int)], .int .i64 0]) w') :
    callS Tryz.prog 26 #[thV Y, .int .i64 (l : Int)] w K := by
  have hn := g.n
  have hsz : ∀ (w1 : World) (K : K1), Ext w w1 → callS Tryz.prog 162 #[.pointer (some ⟨Y.tb 0, 0, none⟩)] w1 K = K (.int .u64 ((D.n * 64 : Nat) : Int)) w1 := fun w1 K e => c_TSize (h.ext e) g 0 (by omega) K
  have her : ∀ (w1 : World) (K : K1), Ext w w1 → callS Tryz.prog 28 #[.pointer (some ⟨Y.tb 0, 0, none⟩)] w1 K = K (.int .i64 0) w1 := fun w1 K e => by rw [c_Err (h.ext e) 0 (by omega) K, he]
  have hld : ∀ (w1 : World) (K : K1), Ext w w1 → callS Tryz.prog 52 #[.pointer (some ⟨Y.tb 0, 0, none⟩), .int .u64 ((l * 64 : Nat) : Int)] w1 K = K (.int .u64 (wd D l 0 : Int)) w1 := fun w1 K e => by
    rw [c_Load (h.ext e) g 0 (by omega) ho (l * 64) (by omega) (by omega) K, show l * 64 / 8 = l * 8 + 0 by omega]; unfold wd; rfl
  have hx : wd D l 0 < 18446744073709551616 := by unfold wd; exact g.cur _ (by omega)
  have hq : D.n * 64 / 64 = D.n := by omega
  generalize wd D l 0 = x at *
  refine f26_call _ _ _ _ ?_
  unfold thV f26_t
  (repeat' (first | (with_reducible refine brS_mk (fun _ => ?_) (fun _ => ?_)) | (with_reducible refine And.intro ?_ ?_) | (simp (disch := first | omega | simp only [RO] | (simp only [RZ] <;> omega) | (with_reducible (repeat (first | assumption | exact Ext.refl _ | refine Ext.alloc ?_ _ | refine Ext.drew ?_ | refine Ext.trans ?_ (by assumption)))) | fail) only [↓RBp, ↓RA, ↓reduceIte, Nat.reduceAdd, Nat.reduceMul, Nat.reduceEqDiff, RB, RX, RA2, hsz, her, hld, hq, c_line, Int.toNat_natCast, rd_mf, ag_mf, nilR_Load])))
  refine k_header x _ _ (hG.ext (by repeat (first | (with_reducible first | refine eB ?_ (by first | omega | (simp only [RZ] <;> omega)) _ | assumption | exact eR _ | refine eA ?_ _ | refine eD ?_ | refine eT ?_ (by assumption)) | exact eR _))) hx (fun w1 he1 => ?_)
  have e1 : Ext w w1 := Ext.trans (by repeat (first | (with_reducible first | refine eB ?_ (by first | omega | (simp only [RZ] <;> omega)) _ | assumption | exact eR _ | refine eA ?_ _ | refine eD ?_ | refine eT ?_ (by assumption)) | exact eR _)) he1
  have hC0 : Cells w1 w.heap.size 24 3 (fun i => [Value.int .i64 0, .int .i64 0, .int .u16 ((0 : Nat) : Int)].getD i undef) := by
    have := (Cells.new w [Value.int .i64 0, .int .i64 0, .int .u16 ((0 : Nat) : Int)] 24)
    exact this.ext (Ext.trans (by repeat (first | (with_reducible first | refine eB ?_ (by first | omega | (simp only [RZ] <;> omega)) _ | assumption | exact eR _ | refine eA ?_ _ | refine eD ?_ | refine eT ?_ (by assumption)) | exact eR _)) he1)
  have c0 := hC0.cell (i := 0) (by omega)
  have c1 := hC0.cell (i := 1) (by omega)
  have c2 := hC0.cell (i := 2) (by omega)
  have lt1 := hC0.lt
  rw [hok]
  unfold hdV
  have ob1 := cells3 hC0 (.int .i64 (hC x)) (.int .i64 (hO x)) (.int .u16 (gX x : Int)); have d0 := ob1.1; have d1 := ob1.2.1; have d2 := ob1.2.2.1; have hD := ob1.2.2.2
  simp (disch := first | omega | simp only [RO] | (simp only [RZ] <;> omega) | fail) only [↓RBp, ↓RA, ↓reduceIte, Nat.reduceAdd, Nat.reduceMul, Nat.reduceEqDiff, RB, RX, RA2, c0, c1, c2, hC0.frz, d0, d1, d2]
  exact hK _ (by repeat (first | (with_reducible first | refine eB ?_ (by first | omega | (simp only [RZ] <;> omega)) _ | assumption | exact eR _ | refine eA ?_ _ | refine eD ?_ | refine eT ?_ (by assumption)) | exact eR _))
theorem k_LookForm (h : Dv w Y D) (g : Good D) (hG : Glob w) (ho : D.off = false) (he : D.err 0 = 0) (l : Nat) (hl : l + 32 ≤ D.n) (hok : hdOk (wd D l 0) = false) (K : K1)
    (hK : ∀ w', Ext w w' → K (.tuple #[.agg #[.int .i64 0, .int .i64 0, .int .u16 ((0 : Nat) : Int)], .int .i64 11]) w') :
    callS Tryz.prog 26 #[thV Y, .int .i64 (l : Int)] w K := by
  have hn := g.n
  have hsz : ∀ (w1 : World) (K : K1), Ext w w1 → callS Tryz.prog 162 #[.pointer (some ⟨Y.tb 0, 0, none⟩)] w1 K = K (.int .u64 ((D.n * 64 : Nat) : Int)) w1 := fun w1 K e => c_TSize (h.ext e) g 0 (by omega) K
  have her : ∀ (w1 : World) (K : K1), Ext w w1 → callS Tryz.prog 28 #[.pointer (some ⟨Y.tb 0, 0, none⟩)] w1 K = K (.int .i64 0) w1 := fun w1 K e => by rw [c_Err (h.ext e) 0 (by omega) K, he]
  have hld : ∀ (w1 : World) (K : K1), Ext w w1 → callS Tryz.prog 52 #[.pointer (some ⟨Y.tb 0, 0, none⟩), .int .u64 ((l * 64 : Nat) : Int)] w1 K = K (.int .u64 (wd D l 0 : Int)) w1 := fun w1 K e => by
    rw [c_Load (h.ext e) g 0 (by omega) ho (l * 64) (by omega) (by omega) K, show l * 64 / 8 = l * 8 + 0 by omega]; unfold wd; rfl
  have hx : wd D l 0 < 18446744073709551616 := by unfold wd; exact g.cur _ (by omega)
  have hq : D.n * 64 / 64 = D.n := by omega
  generalize wd D l 0 = x at *
  refine f26_call _ _ _ _ ?_
  unfold thV f26_t
  (repeat' (first | (with_reducible refine brS_mk (fun _ => ?_) (fun _ => ?_)) | (with_reducible refine And.intro ?_ ?_) | (simp (disch := first | omega | simp only [RO] | (simp only [RZ] <;> omega) | (with_reducible (repeat (first | assumption | exact Ext.refl _ | refine Ext.alloc ?_ _ | refine Ext.drew ?_ | refine Ext.trans ?_ (by assumption)))) | fail) only [↓RBp, ↓RA, ↓reduceIte, Nat.reduceAdd, Nat.reduceMul, Nat.reduceEqDiff, RB, RX, RA2, hsz, her, hld, hq, c_line, Int.toNat_natCast, rd_mf, ag_mf, nilR_Load])))
  refine k_header x _ _ (hG.ext (by repeat (first | (with_reducible first | refine eB ?_ (by first | omega | (simp only [RZ] <;> omega)) _ | assumption | exact eR _ | refine eA ?_ _ | refine eD ?_ | refine eT ?_ (by assumption)) | exact eR _))) hx (fun w1 he1 => ?_)
  have e1 : Ext w w1 := Ext.trans (by repeat (first | (with_reducible first | refine eB ?_ (by first | omega | (simp only [RZ] <;> omega)) _ | assumption | exact eR _ | refine eA ?_ _ | refine eD ?_ | refine eT ?_ (by assumption)) | exact eR _)) he1
  have hC0 : Cells w1 w.heap.size 24 3 (fun i => [Value.int .i64 0, .int .i64 0, .int .u16 ((0 : Nat) : Int)].getD i undef) := by
    have := (Cells.new w [Value.int .i64 0, .int .i64 0, .int .u16 ((0 : Nat) : Int)] 24)
    exact this.ext (Ext.trans (by repeat (first | (with_reducible first | refine eB ?_ (by first | omega | (simp only [RZ] <;> omega)) _ | assumption | exact eR _ | refine eA ?_ _ | refine eD ?_ | refine eT ?_ (by assumption)) | exact eR _)) he1)
  have c0 := hC0.cell (i := 0) (by omega)
  have c1 := hC0.cell (i := 1) (by omega)
  have c2 := hC0.cell (i := 2) (by omega)
  have lt1 := hC0.lt
  rw [hok]
  unfold hdV
  have ob2 := cells3 hC0 (.int .i64 0) (.int .i64 0) (.int .u16 ((0 : Nat) : Int)); have d0 := ob2.1; have d1 := ob2.2.1; have d2 := ob2.2.2.1; have hD := ob2.2.2.2
  simp (disch := first | omega | simp only [RO] | (simp only [RZ] <;> omega) | fail) only [↓RBp, ↓RA, ↓reduceIte, Nat.reduceAdd, Nat.reduceMul, Nat.reduceEqDiff, RB, RX, RA2, c0, c1, c2, hC0.frz, d0, d1, d2]
  exact hK _ (by repeat (first | (with_reducible first | refine eB ?_ (by first | omega | (simp only [RZ] <;> omega)) _ | assumption | exact eR _ | refine eA ?_ _ | refine eD ?_ | refine eT ?_ (by assumption)) | exact eR _))
theorem k_LookBad (h : Dv w Y D) (g : Good D) (l : Int) (hl : ¬ (0 ≤ l ∧ l + 32 ≤ D.n)) (hl2 : l < 9223372036854775808) (hl3 : -9223372036854775808 ≤ l) (K : K1)
    (hK : ∀ w', Ext w w' → K (.tuple #[.agg #[.int .i64 0, .int .i64 0, .int .u16 ((0 : Nat) : Int)], .int .i64 1]) w') :
    callS Tryz.prog 26 #[thV Y, .int .i64 l] w K := by
  have hn := g.n
  have hsz : ∀ (w1 : World) (K : K1), Ext w w1 → callS Tryz.prog 162 #[.pointer (some ⟨Y.tb 0, 0, none⟩)] w1 K = K (.int .u64 ((D.n * 64 : Nat) : Int)) w1 := fun w1 K e => c_TSize (h.ext e) g 0 (by omega) K
  have hq : D.n * 64 / 64 = D.n := by omega
  refine f26_call _ _ _ _ ?_
  unfold thV f26_t
  by_cases h0 : l < 0
  · simp (disch := first | omega | simp only [RO] | (simp only [RZ] <;> omega) | (with_reducible (repeat (first | assumption | exact Ext.refl _ | refine Ext.alloc ?_ _ | refine Ext.drew ?_ | refine Ext.trans ?_ (by assumption)))) | fail) only [↓RBp, ↓RA, ↓reduceIte, Nat.reduceAdd, Nat.reduceMul, Nat.reduceEqDiff, RB, RX, RA2, hsz, hq]
    exact hK _ (by repeat (first | (with_reducible first | refine eB ?_ (by first | omega | (simp only [RZ] <;> omega)) _ | assumption | exact eR _ | refine eA ?_ _ | refine eD ?_ | refine eT ?_ (by assumption)) | exact eR _))
  · obtain ⟨n, rfl⟩ : ∃ n : Nat, l = (n : Int) := ⟨l.toNat, by omega⟩
    by_cases h1 : D.n < 32
    · simp (disch := first | omega | simp only [RO] | (simp only [RZ] <;> omega) | (with_reducible (repeat (first | assumption | exact Ext.refl _ | refine Ext.alloc ?_ _ | refine Ext.drew ?_ | refine Ext.trans ?_ (by assumption)))) | fail) only [↓RBp, ↓RA, ↓reduceIte, Nat.reduceAdd, Nat.reduceMul, Nat.reduceEqDiff, RB, RX, RA2, hsz, hq]
      exact hK _ (by repeat (first | (with_reducible first | refine eB ?_ (by first | omega | (simp only [RZ] <;> omega)) _ | assumption | exact eR _ | refine eA ?_ _ | refine eD ?_ | refine eT ?_ (by assumption)) | exact eR _))
    · simp (disch := first | omega | simp only [RO] | (simp only [RZ] <;> omega) | (with_reducible (repeat (first | assumption | exact Ext.refl _ | refine Ext.alloc ?_ _ | refine Ext.drew ?_ | refine Ext.trans ?_ (by assumption)))) | fail) only [↓RBp, ↓RA, ↓reduceIte, Nat.reduceAdd, Nat.reduceMul, Nat.reduceEqDiff, RB, RX, RA2, hsz, hq]
      exact hK _ (by repeat (first | (with_reducible first | refine eB ?_ (by first | omega | (simp only [RZ] <;> omega)) _ | assumption | exact eR _ | refine eA ?_ _ | refine eD ?_ | refine eT ?_ (by assumption)) | exact eR _))
theorem k_LookErr (h : Dv w Y D) (g : Good D) (he : D.err 0 ≠ 0) (l : Nat) (hl : l + 32 ≤ D.n) (K : K1)
    (hK : ∀ w', Ext w w' → K (.tuple #[.agg #[.int .i64 0, .int .i64 0, .int .u16 ((0 : Nat) : Int)], .int .i64 (D.err 0)]) w') :
    callS Tryz.prog 26 #[thV Y, .int .i64 (l : Int)] w K := by
  have hn := g.n
  have hsz : ∀ (w1 : World) (K : K1), Ext w w1 → callS Tryz.prog 162 #[.pointer (some ⟨Y.tb 0, 0, none⟩)] w1 K = K (.int .u64 ((D.n * 64 : Nat) : Int)) w1 := fun w1 K e => c_TSize (h.ext e) g 0 (by omega) K
  have her : ∀ (w1 : World) (K : K1), Ext w w1 → callS Tryz.prog 28 #[.pointer (some ⟨Y.tb 0, 0, none⟩)] w1 K = K (.int .i64 (D.err 0)) w1 := fun w1 K e => by rw [c_Err (h.ext e) 0 (by omega) K]
  have hq : D.n * 64 / 64 = D.n := by omega
  generalize D.err 0 = e at *
  refine f26_call _ _ _ _ ?_
  unfold thV f26_t
  simp (disch := first | omega | simp only [RO] | (simp only [RZ] <;> omega) | (with_reducible (repeat (first | assumption | exact Ext.refl _ | refine Ext.alloc ?_ _ | refine Ext.drew ?_ | refine Ext.trans ?_ (by assumption)))) | fail) only [↓RBp, ↓RA, ↓reduceIte, Nat.reduceAdd, Nat.reduceMul, Nat.reduceEqDiff, RB, RX, RA2, hsz, her, hq]
  exact hK _ (by repeat (first | (with_reducible first | refine eB ?_ (by first | omega | (simp only [RZ] <;> omega)) _ | assumption | exact eR _ | refine eA ?_ _ | refine eD ?_ | refine eT ?_ (by assumption)) | exact eR _))
theorem k_LookNil (l : Int) (K : K1)
    (hK : ∀ w', Ext w w' → K (.tuple #[.agg #[.int .i64 0, .int .i64 0, .int .u16 ((0 : Nat) : Int)], .int .i64 1]) w') :
    callS Tryz.prog 26 #[.nilIface, .int .i64 l] w K := by
  refine f26_call _ _ _ _ ?_
  unfold f26_t
  simp (disch := first | omega | simp only [RO] | (simp only [RZ] <;> omega) | (with_reducible (repeat (first | assumption | exact Ext.refl _ | refine Ext.alloc ?_ _ | refine Ext.drew ?_ | refine Ext.trans ?_ (by assumption)))) | fail) only [↓RBp, ↓RA, ↓reduceIte, Nat.reduceAdd, Nat.reduceMul, Nat.reduceEqDiff, RB, RX, RA2]
  exact hK _ (by repeat (first | (with_reducible first | refine eB ?_ (by first | omega | (simp only [RZ] <;> omega)) _ | assumption | exact eR _ | refine eA ?_ _ | refine eD ?_ | refine eT ?_ (by assumption)) | exact eR _))
abbrev chZ : Value := .agg #[.nilIface, .int .i64 0, .int .i64 0, .int .i64 0, .int .u16 ((0 : Nat) : Int)]
theorem k_OpenErr (m : Value) (l : Int) (e : Int) (he : e ≠ 0) (K : K1)
    (hL : ∀ (w1 : World) (K1 : K1), Ext w w1 → (∀ w', Ext w1 w' → K1 (.tuple #[.agg #[.int .i64 0, .int .i64 0, .int .u16 ((0 : Nat) : Int)], .int .i64 e]) w') → callS Tryz.prog 26 #[m, .int .i64 l] w1 K1)
    (hK : ∀ w', Ext w w' → K (.tuple #[chZ, .int .i64 e]) w') :
    callS Tryz.prog 27 #[m, .int .i64 l] w K := by
  refine f27_call _ _ _ _ ?_
  unfold f27_t
  simp (disch := first | omega | simp only [RO] | (simp only [RZ] <;> omega) | fail) only [↓RBp, ↓RA, ↓reduceIte, Nat.reduceAdd, Nat.reduceMul, Nat.reduceEqDiff, RB, RX, RA2]
  refine hL _ _ (by repeat (first | (with_reducible first | refine eB ?_ (by first | omega | (simp only [RZ] <;> omega)) _ | assumption | exact eR _ | refine eA ?_ _ | refine eD ?_ | refine eT ?_ (by assumption)) | exact eR _)) (fun w1 he1 => ?_)
  have e1 : Ext w w1 := Ext.trans (by repeat (first | (with_reducible first | refine eB ?_ (by first | omega | (simp only [RZ] <;> omega)) _ | assumption | exact eR _ | refine eA ?_ _ | refine eD ?_ | refine eT ?_ (by assumption)) | exact eR _)) he1
  have hC0 : Cells w1 w.heap.size 58 5 (fun i => [Value.nilIface, .int .i64 0, .int .i64 0, .int .i64 0, .int .u16 ((0 : Nat) : Int)].getD i undef) := by
    have := (Cells.new w [Value.nilIface, .int .i64 0, .int .i64 0, .int .i64 0, .int .u16 ((0 : Nat) : Int)] 58)
    exact this.ext (Ext.trans (by repeat (first | (with_reducible first | refine eB ?_ (by first | omega | (simp only [RZ] <;> omega)) _ | assumption | exact eR _ | refine eA ?_ _ | refine eD ?_ | refine eT ?_ (by assumption)) | exact eR _)) he1)
  have c0 := hC0.cell (i := 0) (by omega)
  have c1 := hC0.cell (i := 1) (by omega)
  have c2 := hC0.cell (i := 2) (by omega)
  have c3 := hC0.cell (i := 3) (by omega)
  have c4 := hC0.cell (i := 4) (by omega)
  have lt1 := hC0.lt
  have ob3 := cells5 hC0 .nilIface (.int .i64 0) (.int .i64 0) (.int .i64 0) (.int .u16 ((0 : Nat) : Int)); have d0 := ob3.1; have d1 := ob3.2.1; have d2 := ob3.2.2.1; have d3 := ob3.2.2.2.1; have d4 := ob3.2.2.2.2
  simp (disch := first | omega | simp only [RO] | (simp only [RZ] <;> omega) | fail) only [↓RBp, ↓RA, ↓reduceIte, Nat.reduceAdd, Nat.reduceMul, Nat.reduceEqDiff, RB, RX, RA2, c0, c1, c2, c3, c4, hC0.frz, d0, d1, d2, d3, d4]
  exact hK _ (by repeat (first | (with_reducible first | refine eB ?_ (by first | omega | (simp only [RZ] <;> omega)) _ | assumption | exact eR _ | refine eA ?_ _ | refine eD ?_ | refine eT ?_ (by assumption)) | exact eR _))
theorem k_OpenAt (h : Dv w Y D) (g : Good D) (hG : Glob w) (ho : D.off = false) (he : D.err 0 = 0) (l : Nat) (hl : l + 32 ≤ D.n) (hok : hdOk (wd D l 0) = true) (K : K1)
    (hK : ∀ w', Ext w w' → K (if hC (wd D l 0) < 0 then .tuple #[chZ, .int .i64 8] else .tuple #[chV Y l (hC (wd D l 0)) (hO (wd D l 0)) (gX (wd D l 0)), .int .i64 0]) w') :
    callS Tryz.prog 27 #[thV Y, .int .i64 (l : Int)] w K := by
  refine f27_call _ _ _ _ ?_
  unfold thV f27_t
  simp (disch := first | omega | simp only [RO] | (simp only [RZ] <;> omega) | fail) only [↓RBp, ↓RA, ↓reduceIte, Nat.reduceAdd, Nat.reduceMul, Nat.reduceEqDiff, RB, RX, RA2]
  refine k_Look (h.ext (by repeat (first | (with_reducible first | refine eB ?_ (by first | omega | (simp only [RZ] <;> omega)) _ | assumption | exact eR _ | refine eA ?_ _ | refine eD ?_ | refine eT ?_ (by assumption)) | exact eR _))) g (hG.ext (by repeat (first | (with_reducible first | refine eB ?_ (by first | omega | (simp only [RZ] <;> omega)) _ | assumption | exact eR _ | refine eA ?_ _ | refine eD ?_ | refine eT ?_ (by assumption)) | exact eR _))) ho he l hl hok _ (fun w1 he1 => ?_)
  have e1 : Ext w w1 := Ext.trans (by repeat (first | (with_reducible first | refine eB ?_ (by first | omega | (simp only [RZ] <;> omega)) _ | assumption | exact eR _ | refine eA ?_ _ | refine eD ?_ | refine eT ?_ (by assumption)) | exact eR _)) he1
  have hC0 : Cells w1 w.heap.size 58 5 (fun i => [Value.nilIface, .int .i64 0, .int .i64 0, .int .i64 0, .int .u16 ((0 : Nat) : Int)].getD i undef) := by
    have := (Cells.new w [Value.nilIface, .int .i64 0, .int .i64 0, .int .i64 0, .int .u16 ((0 : Nat) : Int)] 58)
    exact this.ext (Ext.trans (by repeat (first | (with_reducible first | refine eB ?_ (by first | omega | (simp only [RZ] <;> omega)) _ | assumption | exact eR _ | refine eA ?_ _ | refine eD ?_ | refine eT ?_ (by assumption)) | exact eR _)) he1)
  have c0 := hC0.cell (i := 0) (by omega)
  have c1 := hC0.cell (i := 1) (by omega)
  have c2 := hC0.cell (i := 2) (by omega)
  have c3 := hC0.cell (i := 3) (by omega)
  have c4 := hC0.cell (i := 4) (by omega)
  have lt1 := hC0.lt
  by_cases hc : hC (wd D l 0) < 0
  · rw [if_pos hc] at hK
    have ob4 := cells5 hC0 .nilIface (.int .i64 0) (.int .i64 0) (.int .i64 0) (.int .u16 ((0 : Nat) : Int)); have d0 := ob4.1; have d1 := ob4.2.1; have d2 := ob4.2.2.1; have d3 := ob4.2.2.2.1; have d4 := ob4.2.2.2.2
    simp (disch := first | omega | simp only [RO] | (simp only [RZ] <;> omega) | fail) only [↓RBp, ↓RA, ↓reduceIte, Nat.reduceAdd, Nat.reduceMul, Nat.reduceEqDiff, RB, RX, RA2, c0, c1, c2, c3, c4, hC0.frz, d0, d1, d2, d3, d4]
    exact hK _ (by repeat (first | (with_reducible first | refine eB ?_ (by first | omega | (simp only [RZ] <;> omega)) _ | assumption | exact eR _ | refine eA ?_ _ | refine eD ?_ | refine eT ?_ (by assumption)) | exact eR _))
  · rw [if_neg hc] at hK
    have ob5 := cells5 hC0 (.iface 48 (.pointer (some ⟨Y.tb 0, 0, none⟩))) (.int .i64 (l : Int)) (.int .i64 (hC (wd D l 0))) (.int .i64 (hO (wd D l 0))) (.int .u16 (gX (wd D l 0) : Int)); have d0 := ob5.1; have d1 := ob5.2.1; have d2 := ob5.2.2.1; have d3 := ob5.2.2.2.1; have d4 := ob5.2.2.2.2
    simp (disch := first | omega | simp only [RO] | (simp only [RZ] <;> omega) | fail) only [↓RBp, ↓RA, ↓reduceIte, Nat.reduceAdd, Nat.reduceMul, Nat.reduceEqDiff, RB, RX, RA2, c0, c1, c2, c3, c4, hC0.frz, d0, d1, d2, d3, d4]
    exact hK _ (by repeat (first | (with_reducible first | refine eB ?_ (by first | omega | (simp only [RZ] <;> omega)) _ | assumption | exact eR _ | refine eA ?_ _ | refine eD ?_ | refine eT ?_ (by assumption)) | exact eR _))
end
end Go.Proofs.YtaeopkhdokaaoaaGreatDoor
namespace Go.Proofs.YtaeopkhdokaaoaaGreatDoor
open Go Go.Sh
set_option maxRecDepth 100000
set_option maxHeartbeats 4000000
set_option linter.unusedSimpArgs false
set_option linter.unusedVariables false
theorem onc_valid {per : Int} : ∀ {L : List Int} {m m' : Nat}, onc per L m = some m' → ∀ i ∈ L, 0 ≤ i ∧ i < per := by
  intro L
  induction L with
  | nil => intro m m' _ i hi; cases hi
  | cons x L ih =>
    intro m m' h i hi
    simp only [onc] at h
    split at h
    · rename_i hx
      rcases List.mem_cons.1 hi with rfl | hi
      · exact hx.1
      · exact ih h i hi
    · cases h
structure ActA (c : Int) (L : List Int) (ks : List Nat) (M : List Int) : Prop where
  len : ks.length = L.length
  kin : ∀ k ∈ ks, k ≠ 0 ∧ k ≤ 127
  onc : ((onc (perS c) L 0).bind (onc (perS c) M)).isSome = true
theorem ActA.vL {c : Int} {L M : List Int} {ks : List Nat} (h : ActA c L ks M) : ∀ i ∈ L, 0 ≤ i ∧ i < perS c := by
  have := h.onc
  cases h1 : Go.Proofs.YtaeopkhdokaaoaaGreatDoor.onc (perS c) L 0 with
  | none => rw [h1] at this; cases this
  | some m => exact onc_valid h1
theorem ActA.vM {c : Int} {L M : List Int} {ks : List Nat} (h : ActA c L ks M) : ∀ i ∈ M, 0 ≤ i ∧ i < perS c := by
  have := h.onc
  cases h1 : Go.Proofs.YtaeopkhdokaaoaaGreatDoor.onc (perS c) L 0 with
  | none => rw [h1] at this; cases this
  | some m =>
    rw [h1, Option.bind_some] at this
    cases h2 : Go.Proofs.YtaeopkhdokaaoaaGreatDoor.onc (perS c) M m with
    | none => rw [h2] at this; cases this
    | some m' => exact onc_valid h2
section
variable {w w' : World} {Y : Lay} {D : DS} {l : Nat} {c o : Int} {g : Nat}
theorem k_Actions (h : Cx w Y D l c) (he : D.err 0 = 0) (o : Int) (g : Nat) (L M : List Int) (ks : List Nat) (v kv u : Value) {m : Nat} (hL : RdS m w v (i64L L)) (hk : RdS m w kv (u8L ks)) (hM : RdS m w u (i64L M)) (lL : L.length < 1073741824) (lM : M.length < 1073741824) (lk : ks.length < 1073741824) (hks : ∀ k ∈ ks, k < 256) (K : K1)
    (hbad : ¬ ActA c L ks M → ∀ w', Ext w w' → K (.tuple #[.slice none 0 0, .int .i64 1]) w')
    (hno : ActA c L ks M → actN D l c L ks M = none → ∀ w', Ext w w' → K (.tuple #[.slice none 0 0, .int .i64 8]) w')
    (hyes : ActA c L ks M → ∀ ws, actN D l c L ks M = some ws → ∀ v' w', Ext w w' → NewV w.heap.size v' → SlO w' 37 2 v' ws.length (wrL ws) → K (.tuple #[v', .int .i64 0]) w') : callS Tryz.prog 37 #[chV Y l c o g, v, kv, u] w K := by
  have her : ∀ (w1 : World) (K : K1), Ext w w1 → callS Tryz.prog 28 #[.pointer (some ⟨Y.tb 0, 0, none⟩)] w1 K = K (.int .i64 0) w1 := fun w1 K e => by rw [c_Err (h.dv.ext e) 0 (by omega) K, he]
  have l1 : (i64L L).length = L.length := by simp
  have l2 : (i64L M).length = M.length := by simp
  have l3 : (u8L ks).length = ks.length := by simp
  obtain ⟨la, lc, rfl, _⟩ := id hL
  obtain ⟨ma, mc, rfl, _⟩ := id hM
  obtain ⟨ka, kc, rfl, _⟩ := id hk
  rw [l1] at hL ⊢
  rw [l2] at hM ⊢
  rw [l3] at hk ⊢
  have e0 : Ext w (w.alloc (chO Y l c o g)) := Ext.alloc_self _ _
  refine f37_call _ _ _ _ _ _ ?_
  by_cases hln : ks.length = L.length
  · have hz : ((ks.length : Nat) : Int) = ((L.length : Nat) : Int) := by omega
    have hb2 : ∀ j, (hj : j < ks.length) → ¬ (ks[j] ≠ 0 ∧ ks[j] ≤ 127) → ∀ w', Ext w w' → K (.tuple #[.slice none 0 0, .int .i64 1]) w' := fun j hj hn => hbad (fun ha => hn (ha.kin _ (List.getElem_mem hj)))
    unfold f37_t
    simp (disch := first | omega | simp only [RO] | (simp only [RZ] <;> omega) | fail) only [↓RBp, ↓RA, ↓reduceIte, Nat.reduceAdd, Nat.reduceMul, Nat.reduceEqDiff, RB, RX, RA2, dec_true hz]
    apply f37_l1_rule (I := fun z w' => ∃ j : Nat, z = .int .i64 (j : Int) ∧ j ≤ ks.length ∧ (∀ q, (hq : q < ks.length) → q < j → ks[q] ≠ 0 ∧ ks[q] ≤ 127) ∧ Ext (w.alloc (chO Y l c o g)) w') (μ := fun z _ => ks.length - (Go.RowKit.intOf z).toNat)
    · exact ⟨0, rfl, by omega, fun q _ h => by omega, (by repeat (first | (with_reducible first | refine eB ?_ (by first | omega | (simp only [RZ] <;> omega)) _ | assumption | exact eR _ | refine eA ?_ _ | refine eD ?_ | refine eT ?_ (by assumption)) | exact eR _))⟩
    · intros; rename_i w1 hI E1 hE
      obtain ⟨j, rfl, hj, hgd, he1⟩ := hI
      have e1 : Ext w w1 := e0.trans he1
      obtain ⟨c0, c1, c2, c3, c4⟩ := chCells he1
      by_cases hjl : j < ks.length
      · obtain ⟨sb, so, sc, ev1, hc⟩ := (hk.ext e1).get (u8L_get hjl)
        injection ev1 with ev1 _ ev2; subst ev1; subst ev2
        have hkj := hks ks[j] (List.getElem_mem hjl)
        have hb3 := hb2 j hjl
        have hgd' : (ks[j] ≠ 0 ∧ ks[j] ≤ 127) → ∀ q, (hq : q < ks.length) → q < j + 1 → ks[q] ≠ 0 ∧ ks[q] ≤ 127 := by
          intro hh q hq hq1
          by_cases e : q = j
          · subst e; exact hh
          · exact hgd q hq (by omega)
        generalize ks[j] = x at hc hkj hb3 hgd'
        unfold f37_l1_t
        by_cases x0 : x = 0
        · subst x0
          simp (disch := first | omega | simp only [RO] | (simp only [RZ] <;> omega) | fail) only [↓RBp, ↓RA, ↓reduceIte, Nat.reduceAdd, Nat.reduceMul, Nat.reduceEqDiff, RB, RX, RA2, hc]
          exact hb3 (by simp) _ e1
        · by_cases x1 : x ≤ 127
          · simp (disch := first | omega | simp only [RO] | (simp only [RZ] <;> omega) | fail) only [↓RBp, ↓RA, ↓reduceIte, Nat.reduceAdd, Nat.reduceMul, Nat.reduceEqDiff, RB, RX, RA2, hc]
            apply hE
            · exact ⟨j + 1, by simp, by omega, hgd' ⟨x0, x1⟩, he1⟩
            · simp [Go.RowKit.intOf]; omega
          · simp (disch := first | omega | simp only [RO] | (simp only [RZ] <;> omega) | fail) only [↓RBp, ↓RA, ↓reduceIte, Nat.reduceAdd, Nat.reduceMul, Nat.reduceEqDiff, RB, RX, RA2, hc]
            exact hb3 (by omega) _ e1
      · have hjk : j = ks.length := by omega
        subst hjk
        have hkin : ∀ k ∈ ks, k ≠ 0 ∧ k ≤ 127 := by
          intro k hk
          obtain ⟨q, hq, rfl⟩ := List.mem_iff_getElem.1 hk
          exact hgd q hq hq
        unfold f37_l1_t
        simp (disch := first | omega | simp only [RO] | (simp only [RZ] <;> omega) | fail) only [↓RBp, ↓RA, ↓reduceIte, Nat.reduceAdd, Nat.reduceMul, Nat.reduceEqDiff, RB, RX, RA2, c0, c1, c2, c3, c4, f37_k1_eq, f37_k1_t]
        refine k_once (h.ext (by repeat (first | (with_reducible first | refine eB ?_ (by first | omega | (simp only [RZ] <;> omega)) _ | assumption | exact eR _ | refine eA ?_ _ | refine eD ?_ | refine eT ?_ (by assumption)) | exact eR _))) o g L M _ _ (hL.ext (by repeat (first | (with_reducible first | refine eB ?_ (by first | omega | (simp only [RZ] <;> omega)) _ | assumption | exact eR _ | refine eA ?_ _ | refine eD ?_ | refine eT ?_ (by assumption)) | exact eR _))) (hM.ext (by repeat (first | (with_reducible first | refine eB ?_ (by first | omega | (simp only [RZ] <;> omega)) _ | assumption | exact eR _ | refine eA ?_ _ | refine eD ?_ | refine eT ?_ (by assumption)) | exact eR _))) (by omega) (by omega) _ _ (by simp (disch := first | omega | simp only [RO] | (simp only [RZ] <;> omega) | fail) only [↓RBp, ↓RA, ↓reduceIte, Nat.reduceAdd, Nat.reduceMul, Nat.reduceEqDiff, RB, RX, RA2]) (by simp (disch := first | omega | simp only [RO] | (simp only [RZ] <;> omega) | fail) only [↓RBp, ↓RA, ↓reduceIte, Nat.reduceAdd, Nat.reduceMul, Nat.reduceEqDiff, RB, RX, RA2]) _ (fun w2 he2 => ?_)
        have e12 : Ext w1 w2 := Ext.trans (by repeat (first | (with_reducible first | refine eB ?_ (by first | omega | (simp only [RZ] <;> omega)) _ | assumption | exact eR _ | refine eA ?_ _ | refine eD ?_ | refine eT ?_ (by assumption)) | exact eR _)) he2
        have e2 : Ext w w2 := e1.trans e12
        have he13 := he1.trans e12
        have ob1 := chCells he13; have d0 := ob1.1; have d1 := ob1.2.1; have d2 := ob1.2.2.1; have d3 := ob1.2.2.2.1; have d4 := ob1.2.2.2.2
        cases hon : ((onc (perS c) L 0).bind (onc (perS c) M)).isSome with
        | false =>
          simp (disch := first | omega | simp only [RO] | (simp only [RZ] <;> omega) | fail) only [↓RBp, ↓RA, ↓reduceIte, Nat.reduceAdd, Nat.reduceMul, Nat.reduceEqDiff, RB, RX, RA2]
          exact hbad (fun ha => by have := ha.onc; rw [hon] at this; cases this) _ e2
        | true =>
          have hA : ActA c L ks M := ⟨hln, hkin, hon⟩
          simp (disch := first | omega | simp only [RO] | (simp only [RZ] <;> omega) | (with_reducible (repeat (first | assumption | exact Ext.refl _ | refine Ext.alloc ?_ _ | refine Ext.drew ?_ | refine Ext.trans ?_ (by assumption)))) | fail) only [↓RBp, ↓RA, ↓reduceIte, Nat.reduceAdd, Nat.reduceMul, Nat.reduceEqDiff, RB, RX, RA2, d0, d1, d2, d3, d4, her]
          refine k_changes (h.ext e2) o g L M ks _ _ _ (hL.ext e2) (hk.ext e2) (hM.ext e2) lL lM hln hks hA.vL hA.vM _ (fun hn w3 he3 => ?_) (fun ws hs v' w3 he3 hnv hsl => ?_)
          · have e3 := e2.trans he3
            have he14 := he13.trans he3
            have ob2 := chCells he14; have g0 := ob2.1; have g1 := ob2.2.1; have g2 := ob2.2.2.1; have g3 := ob2.2.2.2.1; have g4 := ob2.2.2.2.2
            simp (disch := first | omega | simp only [RO] | (simp only [RZ] <;> omega) | (with_reducible (repeat (first | assumption | exact Ext.refl _ | refine Ext.alloc ?_ _ | refine Ext.drew ?_ | refine Ext.trans ?_ (by assumption)))) | fail) only [↓RBp, ↓RA, ↓reduceIte, Nat.reduceAdd, Nat.reduceMul, Nat.reduceEqDiff, RB, RX, RA2, g0, g1, g2, g3, g4, her]
            exact hno hA hn _ e3
          · have e3 := e2.trans he3
            have he14 := he13.trans he3
            have ob3 := chCells he14; have g0 := ob3.1; have g1 := ob3.2.1; have g2 := ob3.2.2.1; have g3 := ob3.2.2.2.1; have g4 := ob3.2.2.2.2
            simp (disch := first | omega | simp only [RO] | (simp only [RZ] <;> omega) | (with_reducible (repeat (first | assumption | exact Ext.refl _ | refine Ext.alloc ?_ _ | refine Ext.drew ?_ | refine Ext.trans ?_ (by assumption)))) | fail) only [↓RBp, ↓RA, ↓reduceIte, Nat.reduceAdd, Nat.reduceMul, Nat.reduceEqDiff, RB, RX, RA2, g0, g1, g2, g3, g4, her]
            exact hyes hA ws hs _ _ e3 (fun b hb => Nat.le_trans e2.size (hnv b hb)) hsl
  · have hnz : ¬ ((ks.length : Nat) : Int) = ((L.length : Nat) : Int) := by omega
    unfold f37_t
    simp (disch := first | omega | simp only [RO] | (simp only [RZ] <;> omega) | fail) only [↓RBp, ↓RA, ↓reduceIte, Nat.reduceAdd, Nat.reduceMul, Nat.reduceEqDiff, RB, RX, RA2, dec_false hnz]
    exact hbad (fun ha => hln ha.len) _ (by repeat (first | (with_reducible first | refine eB ?_ (by first | omega | (simp only [RZ] <;> omega)) _ | assumption | exact eR _ | refine eA ?_ _ | refine eD ?_ | refine eT ?_ (by assumption)) | exact eR _))
end
end Go.Proofs.YtaeopkhdokaaoaaGreatDoor
