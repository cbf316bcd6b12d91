/-
  Part 6 of what the proofs of this seat share.
-/
import Derived.Test.YtmpehclnnjgmcaaGreatDoorCb5
import Derived.Test.YtmpehclnnjgmcaaGreatDoorCb4
import Derived.Test.YtmpehclnnjgmcaaGreatDoorCb3
import Derived.Test.YtmpehclnnjgmcaaGreatDoorCb1
set_option linter.unusedSimpArgs false
set_option linter.unusedVariables false
set_option maxHeartbeats 20000000
set_option maxRecDepth 100000
open Go.Proofs.Tryz (prog)
open Go.RowKit (intOf)
namespace Go.Proofs.YtmpehclnnjgmcaaGreatDoor
open Go Go.Sh
def sttF (n fr bl ws:Nat) (i:Nat):Value:= [Value.int .i64 (n:Int),.int .i64 (fr:Int),.int .i64 (bl:Int),.int .i64 (ws:Int)].getD i undef
def wsmL (f:Idx) (L:List Nat):Nat:=(L.map fun p=>(wordsS (f (hk p)).1).toNat).sum
section
variable {Q:Nat→Prop} {w0 w w':World} {Y Y':Lay} {D:DS} {H:HL} {n k i l b p fr:Nat} {c:Int} {f:Idx} {R:List Nat}
theorem wsm_snoc (L:List Nat) (p:Nat):wsmL f (L++ [p])=wsmL f L+(wordsS (f (hk p)).1).toNat:=by
 unfold wsmL
 rw [List.map_append,List.sum_append];simp
theorem words_le (c:Int):(wordsS c).toNat≤60∧0≤wordsS c:=by
 by_cases h:0≤c∧c<5
 ·have:=wordsS_in h.1 h.2;omega
 ·rw [wordsS_out h];omega
theorem wsm_le:∀(L:List Nat),wsmL f L≤60*L.length:=by
 intro L
 induction L with
 |nil=>simp [wsmL]
 |cons p L ih=>
  have:=(words_le (f (hk p)).1).1
  unfold wsmL at ih ⊢
  simp only [List.map_cons,List.sum_cons,List.length_cons];omega
theorem livI_len:∀m,(livI D l c m).length≤m:=by
 intro m
 induction m with
 |zero=>simp [livI]
 |succ m ih=>
  rw [livI,List.length_append]
  split
  ·simp;omega
  ·simp;omega
theorem livN_len (rg:RgS D 26 n f):∀m,m≤n→(livN D f m).length≤62*m:=by
 intro m
 induction m with
 |zero=>intro _;simp [livN]
 |succ m ih=>
  intro hm
  have i:=ih oM
  rw [livN,List.length_append]
  split
  ·simp;omega
  ·have a:=livI_len (D:=D) (l:=26+32*m) (c:=(f m).1) (perS (f m).1).toNat
   have b:=perS_in (show 0≤(f m).1 by omega) (rg.cls (show m<n by omega)).1
   omega
theorem st_tail (h:HpS w0 w Y D H n f R) {w1:World} (e:Ext w w1) {b1 b2 b3 b4:Nat} {g2:Nat→Value} (c1:Cells w1 b1 33 1 (fun _=>hpV H)) (c4:Cells w1 b4 33 1 (fun _=>hpV H)) (c2:Cells w1 b2 73 4 g2) (c3:Cells w1 b3 73 4 (sttF n fr 0 0)) (hb3:w.heap.size≤b3) (ne:b3≠b1∧b3≠b2∧b3≠b4) {x0 x7 x8 x10 x11 x12 x13 x14 x15 x16 x17 x18 x19 x20 x21 x22 x23:Value} {KN KR:List Nat→World→Prop}
  (hKN:∀w',Ext w w'→w'.heap[w1.heap.size]? =some (.deferred (some []))→Cells w' b2 73 4 g2→Cells w' b3 73 4 (sttF n fr (livN D f n).length (wsmL f (livN D f n)))→KN [w1.heap.size] w'):
  rgT prog (.func (.func 134) #[] #[.pointer (some ⟨b4,0,none⟩)]) #[24] f39_r1_a f39_r1_b KN KR [] (f39_r1_f x0 (.pointer (some ⟨b1,0,none⟩)) (.pointer (some ⟨b2,0,none⟩)) (.pointer (some ⟨b3,0,none⟩)) x7 x8 x10 x11 x12 x13 x14 x15 x16 x17 x18 x19 x20 x21 x22 x23) w1:=by
 have hn4:=h.n4
 have lt1:=c1.lt;have lt2:=c2.lt;have lt3:=c3.lt;have lt4:=c4.lt
 have hll:=livN_len h.rg n (Nat.le_refl _)
 have hr:∀p∈R,p<18446744073709551616:=fun p hp=>by
  have:=((h.rv p hp).kn oM h.rg).2.2.2.1
  omega
 refine ⟨by kernel_rfl,fun fn w2 e2 hs2 hD hLp=> ?_⟩
 have e02:=e.trans e2
 show callS prog 134 #[.func (.yield (w1.heap.size+1)) #[] #[],.pointer (some ⟨b4,0,none⟩)] w2 _
 refine k_Live1 (h.ext e02) (c4.ext e2) (fun x=>x=w1.heap.size+1∨x=b3) (fun x hx=> ?_) (fun s w3=>Lp w3 (w1.heap.size+1) fn #[24] f39_r1_a f39_r1_b (f39_r1_f x0 (.pointer (some ⟨b1,0,none⟩)) (.pointer (some ⟨b2,0,none⟩)) (.pointer (some ⟨b3,0,none⟩)) x7 x8 x10 x11 x12 x13 x14 x15 x16 x17 x18 x19 x20 x21 x22 x23) w1.heap.size .ready none∧w3.heap[w1.heap.size]? =some (.deferred (some []))∧Ext w w3∧Cells w3 b1 33 1 (fun _=>hpV H)∧Cells w3 b2 73 4 g2∧Cells w3 b3 73 4 (sttF n fr s.length (wsmL f s))) (fun _=>False) (fun w3 e3=> ?_) (fun s w3 w4 hj e4=> ?_) (fun s w3 hj=>h.ext hj.2.2.1) (fun s p t w3 K' hl hj hK' _=> ?_) _ (fun w3 hj=> ?_) (fun w3 hf=>hf.elim)
 ·rcases hx with e1|e1
  ·exact ⟨by omega,by omega⟩
  ·exact ⟨by omega,by rw [e1];exact ne.2.2⟩
 ·exact ⟨hLp.ext e3,(e3.blk _ (lt_of_heap hD)).trans hD,e02.trans e3,c1.ext (e2.trans e3),c2.ext (e2.trans e3),c3.ext (e2.trans e3)⟩
 ·obtain ⟨j1,j2,j3,j4,j5,j6⟩:=hj
  exact ⟨j1.ext e4,(e4.blk _ (lt_of_heap j2)).trans j2,j3.trans e4,j4.ext e4,j5.ext e4,j6.ext e4⟩
 ·obtain ⟨j1,j2,j3,j4,j5,j6⟩:=hj
  have hlv:Liv D f n p:=(liv_mem h.rg).1 (by rw [hl];simp)
  have hat:=hlv.at_ oM h.rg
  have hsl:s.length<(livN D f n).length:=by rw [hl];simp
  have hwl:=wsm_le (f:=f) s
  have hwp:=words_le (f (hk p)).1
  have es:(s.length:Int)+1=(((s++ [p]).length:Nat):Int):=by simp
  have ew:(wsmL f s:Int)+wordsS (f (hk p)).1=((wsmL f (s++ [p]):Nat):Int):=by rw [wsm_snoc];omega
  have hwb:wsmL f (s++ [p])<1000000000:=by rw [wsm_snoc];omega
  have hsb:(s++ [p]).length<1000000000:=by rw [List.length_append,List.length_singleton];omega
  refine f39_r1_y j1 ?_
  unfold f39_r1_t begS
  refine ⟨j1,fun w4 g4 j1'=> ?_⟩
  have e04:Ext w w4:=ext_frm j3 g4 (fun x hx=>by have:=e.size;omega)
  have k2:=(g4.block _ (lt_of_heap j2) oM).trans j2
  have k4:=j4.frm g4 oM
  have k5:=j5.frm g4 oM
  have k6:=j6.frm g4 oM
  have hc1:w4.cell? ⟨b1,0,none⟩=some (hpV H):=k4.cell (i:=0) oM
  have ltb1:=k4.lt
  have hwd:=fun (w5:World) (e5:Ext w w5) (K:K1) hK=>k_hWords (h.ext e5) hr hat.1.1 hat.1.2.1 hat.1.2.2.2.1 (show p<18446744073709551616 by omega) hat.2.2.2 hat.1.2.2.2.2 (.inr hlv) K hK
  generalize wordsS (f (hk p)).1=wd1 at*
  generalize wsmL f s=ws1 at*
  generalize hs':s.length=sl at*
  simp (disch:=try exact dZ) only [↓RBp,↓RA,↓reduceIte,Nat.reduceAdd,Nat.reduceMul,Nat.reduceEqDiff,RB,RX,RA2,hc1]
  refine hwd _ (e04.trans xZ) _ (fun w5 e5=> ?_)
  have e45:Ext w4 w5:=Ext.trans xZ e5
  have m2:=(e45.blk _ (lt_of_heap k2)).trans k2
  have m5:=k5.ext e45
  have m6:=k6.ext e45
  have lp5:=j1'.ext e45
  have z2:w5.cell? ⟨b3,2,none⟩=some (.int .i64 (sl:Int)):=m6.cell (i:=2) oM
  have z3:w5.cell? ⟨b3,3,none⟩=some (.int .i64 (ws1:Int)):=m6.cell (i:=3) oM
  have fz:=m6.frz
  have ltb3:=m6.lt
  have m7:=m6.set (i:=2) (.int .i64 (((s++ [p]).length:Nat):Int)) oM
  have z8:(w5.setCell ⟨b3,2,none⟩ (.int .i64 (((s++ [p]).length:Nat):Int))).cell? ⟨b3,3,none⟩=some (.int .i64 (ws1:Int)):=m7.cell (i:=3) oM
  have fz8:=m7.frz 3
  have m8:=m7.set (i:=3) (.int .i64 ((wsmL f (s++ [p]):Nat):Int)) oM
  have gset:Frm (fun x=>x=b3) w5 ((w5.setCell ⟨b3,2,none⟩ (.int .i64 (((s++ [p]).length:Nat):Int))).setCell ⟨b3,3,none⟩ (.int .i64 ((wsmL f (s++ [p]):Nat):Int))):=Frm.set (F:=fun x=>x=b3) (Frm.set (F:=fun x=>x=b3) (Frm.refl _ w5) (p:=⟨b3,2,none⟩) _ (fun _=>rfl)) (p:=⟨b3,3,none⟩) _ (fun _=>rfl)
  simp (disch:=try exact dZ) only [↓RBp,↓RA,↓reduceIte,Nat.reduceAdd,Nat.reduceMul,Nat.reduceEqDiff,RB,RX,RA2,z2,z3,fz,z8,fz8,es,ew]
  have lp6:=lp5.frm gset oM
  have m3:=(gset.block _ (lt_of_heap m2) oM).trans m2
  refine ⟨lp6,fun w6 g6 lp6'=> ?_⟩
  have g36:Frm (fun x=>x=w1.heap.size+1∨x=b3) w3 w6:=(((g4.mono (fun x h=> .inl h)).trans (Frm.of_ext (F:=fun x=>x=w1.heap.size+1∨x=b3) e45) (fun _ _ h=>h)).trans gset (fun x _ h=> .inr h)).trans g6 (fun x _ h=> .inl h)
  have m5':=(m5.frm gset (fun e=>ne.2.1 e.symm)).frm g6 oM
  have m4':=((k4.ext e45).frm gset (fun e=>ne.1 e.symm)).frm g6 oM
  refine hK' w6 g36 ⟨lp6',(g6.block _ (lt_of_heap m3) oM).trans m3,ext_frm j3 g36 (fun x hx=>by have:=e.size;omega),m4',m5',(m8.congr (fun i hi=> ?_)).frm g6 oM⟩
  rcases i with _|_|_|_|i
  ·rfl
  ·rfl
  ·rfl
  ·rfl
  ·omega
 ·obtain ⟨j1,j2,j3,j4,j5,j6⟩:=hj
  refine ⟨.ready,none,by simp,j1,fun w4 g4=> ?_⟩
  exact hKN w4 (ext_frm j3 g4 (fun x h=>by have:=e.size;omega)) ((g4.block _ (lt_of_heap j2) oM).trans j2) (j5.frm g4 oM) (j6.frm g4 oM)
theorem st_out {b2 b3 bl ws:Nat} {g2:Nat→Value} (c2:Cells w b2 73 4 g2) (c3:Cells w b3 73 4 (sttF n fr bl ws)) (ne:b3≠b2) (K:K1) (hK:∀w',Frm (fun x=>x=b2) w w'→K (.agg #[.int .i64 (n:Int),.int .i64 (fr:Int),.int .i64 (bl:Int),.int .i64 (ws:Int)]) w'):
  ldS prog 73 (.pointer (some ⟨b3,0,none⟩)) w fun t42 w_13=>stS prog 73 (.pointer (some ⟨b2,0,none⟩)) t42 w_13 fun w_14=>ldR prog 73 (.pointer (some ⟨b2,0,none⟩)) w_14 fun r=>K r w_14:=by
 have x0:w.cell? ⟨b3,0,none⟩=some (.int .i64 (n:Int)):=c3.cell (i:=0) oM
 have x1:w.cell? ⟨b3,1,none⟩=some (.int .i64 (fr:Int)):=c3.cell (i:=1) oM
 have x2:w.cell? ⟨b3,2,none⟩=some (.int .i64 (bl:Int)):=c3.cell (i:=2) oM
 have x3:w.cell? ⟨b3,3,none⟩=some (.int .i64 (ws:Int)):=c3.cell (i:=3) oM
 have y0:=c2.cell (i:=0) oM
 have y1:=c2.cell (i:=1) oM
 have y2:=c2.cell (i:=2) oM
 have y3:=c2.cell (i:=3) oM
 have fz:=c2.frz
 have d1:=c2.set (i:=0) (.int .i64 (n:Int)) oM
 have d2:=d1.set (i:=1) (.int .i64 (fr:Int)) oM
 have d3:=d2.set (i:=2) (.int .i64 (bl:Int)) oM
 have d4:=d3.set (i:=3) (.int .i64 (ws:Int)) oM
 have z0:((((w.setCell ⟨b2,0,none⟩ (.int .i64 (n:Int))).setCell ⟨b2,1,none⟩ (.int .i64 (fr:Int))).setCell ⟨b2,2,none⟩ (.int .i64 (bl:Int))).setCell ⟨b2,3,none⟩ (.int .i64 (ws:Int))).cell? ⟨b2,0,none⟩=some (.int .i64 (n:Int)):=d4.cell (i:=0) oM
 have z1:((((w.setCell ⟨b2,0,none⟩ (.int .i64 (n:Int))).setCell ⟨b2,1,none⟩ (.int .i64 (fr:Int))).setCell ⟨b2,2,none⟩ (.int .i64 (bl:Int))).setCell ⟨b2,3,none⟩ (.int .i64 (ws:Int))).cell? ⟨b2,1,none⟩=some (.int .i64 (fr:Int)):=d4.cell (i:=1) oM
 have z2:((((w.setCell ⟨b2,0,none⟩ (.int .i64 (n:Int))).setCell ⟨b2,1,none⟩ (.int .i64 (fr:Int))).setCell ⟨b2,2,none⟩ (.int .i64 (bl:Int))).setCell ⟨b2,3,none⟩ (.int .i64 (ws:Int))).cell? ⟨b2,2,none⟩=some (.int .i64 (bl:Int)):=d4.cell (i:=2) oM
 have z3:((((w.setCell ⟨b2,0,none⟩ (.int .i64 (n:Int))).setCell ⟨b2,1,none⟩ (.int .i64 (fr:Int))).setCell ⟨b2,2,none⟩ (.int .i64 (bl:Int))).setCell ⟨b2,3,none⟩ (.int .i64 (ws:Int))).cell? ⟨b2,3,none⟩=some (.int .i64 (ws:Int)):=d4.cell (i:=3) oM
 have g:Frm (fun x=>x=b2) w ((((w.setCell ⟨b2,0,none⟩ (.int .i64 (n:Int))).setCell ⟨b2,1,none⟩ (.int .i64 (fr:Int))).setCell ⟨b2,2,none⟩ (.int .i64 (bl:Int))).setCell ⟨b2,3,none⟩ (.int .i64 (ws:Int))):=
  Frm.set (F:=fun x=>x=b2) (Frm.set (F:=fun x=>x=b2) (Frm.set (F:=fun x=>x=b2) (Frm.set (F:=fun x=>x=b2) (Frm.refl _ w) (p:=⟨b2,0,none⟩) _ (fun _=>rfl)) (p:=⟨b2,1,none⟩) _ (fun _=>rfl)) (p:=⟨b2,2,none⟩) _ (fun _=>rfl)) (p:=⟨b2,3,none⟩) _ (fun _=>rfl)
 simp (disch:=try exact dZ) only [↓RBp,↓RA,↓reduceIte,Nat.reduceAdd,Nat.reduceMul,Nat.reduceEqDiff,RB,RX,RA2,x0,x1,x2,x3,y0,y1,y2,y3,fz,z0,z1,z2,z3]
 exact hK _ g
theorem k_Live (K:K1) (hK:K (.func (.func 134) #[] #[.pointer (some ⟨w.heap.size,0,none⟩)]) (w.alloc (.cells #[hpV H] 33))):callS prog 80 #[hpV H] w K:=by
 refine f80_call _ _ _ ?_
 unfold f80_t
 simp (disch:=try exact dZ) only [↓RBp,↓RA,↓reduceIte,Nat.reduceAdd,Nat.reduceMul,Nat.reduceEqDiff,RB,RX,RA2,ev_mkf]
 exact hK
theorem k_Stats (h:HpS w0 w Y D H n f R) (K:K1) (hK:∀w',Ext w w'→K (.agg #[.int .i64 (n:Int),.int .i64 (frC f n:Int),.int .i64 ((livN D f n).length:Int),.int .i64 ((wsmL f (livN D f n):Nat):Int)]) w'):
  callS prog 39 #[hpV H] w K:=by
 have ln:=lnT_get 26 n
 have hlin:=fun (w1:World) (e:Ext w w1) (K:K1) (hK:∀a cap w',Ext w1 w'→K (.slice a n cap) w')=>k_Lines ((h.ext e).ar) K (fun v w' e' _ hs=>by
  rw [ln.1] at hs
  obtain ⟨a,cap,rfl⟩:=SlO.form hs
  exact hK a cap w' e')
 have hfc:=fun (w1:World) (e:Ext w w1) (K:K1) hK=>k_FreeChunks ((h.ext e).ar) K hK
 have q3:∀w1,Ext w w1→w1.cell? ⟨H.p,3,none⟩=some (stV H.S):=fun w1 e=>(h.ext e).cell.2.2.2.1
 have p3:=q3 w (Ext.refl _)
 have ltp:=h.ltp
 have cA:Cells (w.alloc (.cells #[hpV H] 33)) w.heap.size 33 1 (fun _=>hpV H):=(Cells.new w [hpV H] 33).congr (fun i hi=>by rw [show i=0 by simpa using hi];rfl)
 have sA:(w.alloc (.cells #[hpV H] 33)).heap.size=w.heap.size+1:=size_alloc _ _
 have cB:=Cells.new (w.alloc (.cells #[hpV H] 33)) [Value.int .i64 0,.int .i64 0,.int .i64 0,.int .i64 0] 73
 rw [sA] at cB
 obtain ⟨wB,hwB⟩:∃wB,(w.alloc (.cells #[hpV H] 33)).alloc (.cells [Value.int .i64 0,.int .i64 0,.int .i64 0,.int .i64 0].toArray 73)=wB:=⟨_,rfl⟩
 have eAB:Ext (w.alloc (.cells #[hpV H] 33)) wB:=by rw [←hwB];exact Ext.alloc_self _ _
 rw [hwB] at cB
 have sB:wB.heap.size=w.heap.size+2:=by rw [←hwB,size_alloc,sA]
 have eB:Ext w wB:=(Ext.alloc_self _ _).trans eAB
 have cA:=cA.ext eAB
 have agb:∀w1:World,ag prog (Instr.build 73 #[(0,.int .i64 (n:Int)),(1,.int .i64 (frC f n:Int))]) w1 (.agg #[.int .i64 (n:Int),.int .i64 (frC f n:Int),.int .i64 0,.int .i64 0])=True:=fun w1=>by rw [ag_of_run (build_73_0_1 _ _ rfl rfl w1)];simp
 have fin:∀(w5:World) (b1 b2 b3 frn:Nat),b1=w.heap.size→b2=w.heap.size+1→frn=frC f n→Ext wB w5→w.heap.size+2≤b3→Cells w5 b3 73 4 (sttF n frn 0 0)→∀x7 x8 x10 x11 x12 x13 x14 x15 x16 x17 x18 x19 x20 x21 x22:Value,
   callS prog 80 #[hpV H] w5 fun t23 w_12=>rgT prog t23 #[24] f39_r1_a f39_r1_b (fun rs w=>(fun (K:K1)=>ldS prog 73 (.pointer (some ⟨b3,0,none⟩)) w fun t42 w_13=>stS prog 73 (.pointer (some ⟨b2,0,none⟩)) t42 w_13 fun w_14=>ldR prog 73 (.pointer (some ⟨b2,0,none⟩)) w_14 fun r=>K r w_14) (rsK K rs)) (fun rs w=>(fun (K:K1)=>ldR prog 73 (.pointer (some ⟨b2,0,none⟩)) w fun r=>K r w) (rsK K rs)) [] (f39_r1_f (hpV H) (.pointer (some ⟨b1,0,none⟩)) (.pointer (some ⟨b2,0,none⟩)) (.pointer (some ⟨b3,0,none⟩)) x7 x8 x10 x11 x12 x13 x14 x15 x16 x17 x18 x19 x20 x21 x22 t23) w_12:=by
  intro w5 b1 b2 b3 frn e1 e2 e3 e5 hb3 c3 x7 x8 x10 x11 x12 x13 x14 x15 x16 x17 x18 x19 x20 x21 x22
  subst e1;subst e2;subst e3
  have c4:Cells (w5.alloc (.cells #[hpV H] 33)) w5.heap.size 33 1 (fun _=>hpV H):=(Cells.new w5 [hpV H] 33).congr (fun i hi=>by rw [show i=0 by simpa using hi];rfl)
  have e56:Ext w5 (w5.alloc (.cells #[hpV H] 33)):=Ext.alloc_self _ _
  have lt3:=c3.lt
  have st:=fun {KN KR:List Nat→World→Prop}=>st_tail (KN:=KN) (KR:=KR) (x0:=hpV H) (x7:=x7) (x8:=x8) (x10:=x10) (x11:=x11) (x12:=x12) (x13:=x13) (x14:=x14) (x15:=x15) (x16:=x16) (x17:=x17) (x18:=x18) (x19:=x19) (x20:=x20) (x21:=x21) (x22:=x22) (x23:= .func (.func 134) #[] #[.pointer (some ⟨w5.heap.size,0,none⟩)]) h (eB.trans (e5.trans e56)) ((cA.ext e5).ext e56) c4 ((cB.ext e5).ext e56) (c3.ext e56) oM ⟨by omega,by omega,by omega⟩
  refine k_Live _ ?_
  refine st (fun w6 e6 d6 c26 c36=> ?_)
  refine st_out c26 c36 oM (rsK K [(w5.alloc (.cells #[hpV H] 33)).heap.size]) (fun w7 g7=>⟨?_,fun w8 g8=> ?_⟩)
  ·have s5:(w5.alloc (.cells #[hpV H] 33)).heap.size=w5.heap.size+1:=size_alloc _ _
   exact (g7.block _ (lt_of_heap d6) oM).trans d6
  ·have s5:(w5.alloc (.cells #[hpV H] 33)).heap.size=w5.heap.size+1:=size_alloc _ _
   have:=e5.size
   exact hK w8 (ext_frm (ext_frm e6 g7 (fun x hx=>by omega)) g8 (fun x hx=>by omega))
 refine f39_call _ _ _ ?_
 unfold f39_t
 (repeat' (first|(with_reducible first|refine brS_mk (fun _=> ?_) (fun _=> ?_)|refine And.intro ?_ ?_)|(simp (disch:=try exact dX) only [↓RBp,↓RA,↓reduceIte,Nat.reduceAdd,Nat.reduceMul,Nat.reduceEqDiff,RB,RX,RA2,p3])))
 ·have hwB':(w.alloc (.cells #[hpV H] 33)).alloc (.cells #[Value.int .i64 0,.int .i64 0,.int .i64 0,.int .i64 0] 73)=wB:=hwB
  refine hlin _ xZ _ (fun a cap w1 e1=> ?_)
  have e01:Ext w w1:=Ext.trans xZ e1
  have eB1:Ext wB w1:=by
   rw [←hwB'];exact Ext.trans xZ e1
  have p31:=q3 w1 e01
  have lt1:=(h.ext e01).ltp
  have r0:w1.cell? ⟨w.heap.size,0,none⟩=some (hpV H):=(cA.ext eB1).cell (i:=0) oM
  have ltr:=lt_of_cell r0
  (repeat' (first|(with_reducible first|refine brS_mk (fun _=> ?_) (fun _=> ?_)|refine And.intro ?_ ?_)|(simp (disch:=try exact dX) only [↓RBp,↓RA,↓reduceIte,Nat.reduceAdd,Nat.reduceMul,Nat.reduceEqDiff,RB,RX,RA2,p31,r0])))
  ·refine hfc _ (e01.trans xZ) _ (fun w2 e2=> ?_)
   have e12:Ext w1 w2:=Ext.trans xZ e2
   have r02:w2.cell? ⟨w.heap.size,0,none⟩=some (hpV H):=(cA.ext (eB1.trans e12)).cell (i:=0) oM
   have ltr2:=lt_of_cell r02
   have p32:=q3 w2 (e01.trans e12)
   have lt2:=(h.ext (e01.trans e12)).ltp
   have cN:=Cells.new w2 [Value.int .i64 (n:Int),.int .i64 (frC f n:Int),.int .i64 0,.int .i64 0] 73
   (repeat' (first|(with_reducible first|refine brS_mk (fun _=> ?_) (fun _=> ?_)|refine And.intro ?_ ?_)|(simp (disch:=try exact dX) only [↓RBp,↓RA,↓reduceIte,Nat.reduceAdd,Nat.reduceMul,Nat.reduceEqDiff,RB,RX,RA2,p32,r02,agb])))
   refine fin _ _ _ _ _ rfl (size_alloc _ _) rfl (eB1.trans (e12.trans xZ)) (by have:=(eB1.trans e12).size;omega) cN _ _ _ _ _ _ _ _ _ _ _ _ _ _ _
  ·have szB:=eB1.size
   have cN:=Cells.new w1 [Value.int .i64 0,.int .i64 0,.int .i64 0,.int .i64 0] 73
   refine hfc _ (e01.trans xZ) _ (fun w2 e2=> ?_)
   have e12:Ext w1 w2:=Ext.trans xZ e2
   have r02:w2.cell? ⟨w.heap.size,0,none⟩=some (hpV H):=(cA.ext (eB1.trans e12)).cell (i:=0) oM
   have ltr2:=lt_of_cell r02
   have p32:=q3 w2 (e01.trans e12)
   have lt2:=(h.ext (e01.trans e12)).ltp
   have cN2:=cN.ext e2
   have ltN:=cN2.lt
   have y0:=cN2.cell (i:=0) (by simp)
   have y1:=cN2.cell (i:=1) (by simp)
   have y2:=cN2.cell (i:=2) (by simp)
   have y3:=cN2.cell (i:=3) (by simp)
   have fz:=cN2.frz
   have d4:=(((cN2.set (i:=0) (.int .i64 (n:Int)) (by simp)).set (i:=1) (.int .i64 (frC f n:Int)) (by simp)).set (i:=2) (.int .i64 0) (by simp)).set (i:=3) (.int .i64 0) (by simp)
   have g4:Frm (fun x=>x=w1.heap.size) w2 ((((w2.setCell ⟨w1.heap.size,0,none⟩ (.int .i64 (n:Int))).setCell ⟨w1.heap.size,1,none⟩ (.int .i64 (frC f n:Int))).setCell ⟨w1.heap.size,2,none⟩ (.int .i64 0)).setCell ⟨w1.heap.size,3,none⟩ (.int .i64 0)):=Frm.set (F:=fun x=>x=w1.heap.size) (Frm.set (F:=fun x=>x=w1.heap.size) (Frm.set (F:=fun x=>x=w1.heap.size) (Frm.set (F:=fun x=>x=w1.heap.size) (Frm.refl _ w2) (p:=⟨w1.heap.size,0,none⟩) _ (fun _=>rfl)) (p:=⟨w1.heap.size,1,none⟩) _ (fun _=>rfl)) (p:=⟨w1.heap.size,2,none⟩) _ (fun _=>rfl)) (p:=⟨w1.heap.size,3,none⟩) _ (fun _=>rfl)
   have zA:((((w2.setCell ⟨w1.heap.size,0,none⟩ (.int .i64 (n:Int))).setCell ⟨w1.heap.size,1,none⟩ (.int .i64 (frC f n:Int))).setCell ⟨w1.heap.size,2,none⟩ (.int .i64 0)).setCell ⟨w1.heap.size,3,none⟩ (.int .i64 0)).cell? ⟨w.heap.size,0,none⟩=some (hpV H):=((cA.ext (eB1.trans e12)).frm g4 oM).cell (i:=0) oM
   (repeat' (first|(with_reducible first|refine brS_mk (fun _=> ?_) (fun _=> ?_)|refine And.intro ?_ ?_)|(simp (disch:=try exact dX) only [↓RBp,↓RA,↓reduceIte,Nat.reduceAdd,Nat.reduceMul,Nat.reduceEqDiff,RB,RX,RA2,p32,r02,agb,y0,y1,y2,y3,fz,zA])))
   refine fin _ _ _ _ _ rfl (size_alloc _ _) rfl ?_ oM (d4.congr (fun i hi=> ?_)) _ _ _ _ _ _ _ _ _ _ _ _ _ _ _
   ·exact Ext.setB (Ext.setB (Ext.setB (Ext.setB (eB1.trans e12) oM _) oM _) oM _) oM _
   ·have hi:i<4:=hi
    rcases i with _|_|_|_|i
    ·rfl
    ·rfl
    ·rfl
    ·rfl
    ·omega
 ·have hwB':(w.alloc (.cells #[hpV H] 33)).alloc (.cells #[Value.int .i64 0,.int .i64 0,.int .i64 0,.int .i64 0] 73)=wB:=hwB
  have cN:=Cells.new wB [Value.int .i64 0,.int .i64 0,.int .i64 0,.int .i64 0] 73
  rw [hwB']
  obtain ⟨wC,hwC⟩:∃wC,wB.alloc (.cells [Value.int .i64 0,.int .i64 0,.int .i64 0,.int .i64 0].toArray 73)=wC:=⟨_,rfl⟩
  have hwC':wB.alloc (.cells #[Value.int .i64 0,.int .i64 0,.int .i64 0,.int .i64 0] 73)=wC:=hwC
  rw [hwC] at cN
  rw [hwC']
  have eBC:Ext wB wC:=by rw [←hwC];exact Ext.alloc_self _ _
  have szC:=eBC.size
  have eC:Ext w wC:=eB.trans eBC
  refine hlin _ (eC.trans xZ) _ (fun a cap w1 e1=> ?_)
  have eC1:Ext wC w1:=Ext.trans xZ e1
  have p31:=q3 w1 (eC.trans eC1)
  have lt1:=(h.ext (eC.trans eC1)).ltp
  have r0:w1.cell? ⟨w.heap.size,0,none⟩=some (hpV H):=(cA.ext (eBC.trans eC1)).cell (i:=0) oM
  have ltr:=lt_of_cell r0
  (repeat' (first|(with_reducible first|refine brS_mk (fun _=> ?_) (fun _=> ?_)|refine And.intro ?_ ?_)|(simp (disch:=try exact dX) only [↓RBp,↓RA,↓reduceIte,Nat.reduceAdd,Nat.reduceMul,Nat.reduceEqDiff,RB,RX,RA2,p31,r0])))
  refine hfc _ ((eC.trans eC1).trans xZ) _ (fun w2 e2=> ?_)
  have e12:Ext w1 w2:=Ext.trans xZ e2
  have r02:w2.cell? ⟨w.heap.size,0,none⟩=some (hpV H):=(cA.ext ((eBC.trans eC1).trans e12)).cell (i:=0) oM
  have ltr2:=lt_of_cell r02
  have p32:=q3 w2 ((eC.trans eC1).trans e12)
  have lt2:=(h.ext ((eC.trans eC1).trans e12)).ltp
  have cN2:=cN.ext (eC1.trans e12)
  rw [sB,show w.heap.size+2=w.heap.size+1+1 by omega] at cN2
  have ltN:=cN2.lt
  have y0:=cN2.cell (i:=0) (by simp)
  have y1:=cN2.cell (i:=1) (by simp)
  have y2:=cN2.cell (i:=2) (by simp)
  have y3:=cN2.cell (i:=3) (by simp)
  have fz:=cN2.frz
  have d4:=(((cN2.set (i:=0) (.int .i64 (n:Int)) (by simp)).set (i:=1) (.int .i64 (frC f n:Int)) (by simp)).set (i:=2) (.int .i64 0) (by simp)).set (i:=3) (.int .i64 0) (by simp)
  have g4:Frm (fun x=>x=w.heap.size+1+1) w2 ((((w2.setCell ⟨w.heap.size+1+1,0,none⟩ (.int .i64 (n:Int))).setCell ⟨w.heap.size+1+1,1,none⟩ (.int .i64 (frC f n:Int))).setCell ⟨w.heap.size+1+1,2,none⟩ (.int .i64 0)).setCell ⟨w.heap.size+1+1,3,none⟩ (.int .i64 0)):=Frm.set (F:=fun x=>x=w.heap.size+1+1) (Frm.set (F:=fun x=>x=w.heap.size+1+1) (Frm.set (F:=fun x=>x=w.heap.size+1+1) (Frm.set (F:=fun x=>x=w.heap.size+1+1) (Frm.refl _ w2) (p:=⟨w.heap.size+1+1,0,none⟩) _ (fun _=>rfl)) (p:=⟨w.heap.size+1+1,1,none⟩) _ (fun _=>rfl)) (p:=⟨w.heap.size+1+1,2,none⟩) _ (fun _=>rfl)) (p:=⟨w.heap.size+1+1,3,none⟩) _ (fun _=>rfl)
  have zA:((((w2.setCell ⟨w.heap.size+1+1,0,none⟩ (.int .i64 (n:Int))).setCell ⟨w.heap.size+1+1,1,none⟩ (.int .i64 (frC f n:Int))).setCell ⟨w.heap.size+1+1,2,none⟩ (.int .i64 0)).setCell ⟨w.heap.size+1+1,3,none⟩ (.int .i64 0)).cell? ⟨w.heap.size,0,none⟩=some (hpV H):=((cA.ext ((eBC.trans eC1).trans e12)).frm g4 oM).cell (i:=0) oM
  (repeat' (first|(with_reducible first|refine brS_mk (fun _=> ?_) (fun _=> ?_)|refine And.intro ?_ ?_)|(simp (disch:=try exact dX) only [↓RBp,↓RA,↓reduceIte,Nat.reduceAdd,Nat.reduceMul,Nat.reduceEqDiff,RB,RX,RA2,p32,r02,agb,y0,y1,y2,y3,fz,zA])))
  refine fin _ _ _ _ _ rfl (by simp only [RZ]) rfl (Ext.setB (Ext.setB (Ext.setB (Ext.setB ((eBC.trans eC1).trans e12) oM _) oM _) oM _) oM _) (by simp only [RZ];omega) (by
   simp only [RZ]
   refine d4.congr (fun i hi=> ?_)
   have hi:i<4:=hi
   rcases i with _|_|_|_|i
   ·rfl
   ·rfl
   ·rfl
   ·rfl
   ·omega) _ _ _ _ _ _ _ _ _ _ _ _ _ _ _
end
section
variable {w0 w w':World} {Y Y':Lay} {D:DS} {n k B:Nat} {f:Idx}
theorem own_cls {x:Nat} (h:hdOk x=true) (ho:0≤hO x):0≤hC x:=by
 simp only [hdOk,Bool.and_eq_true,Bool.or_eq_true,decide_eq_true_eq] at h
 rcases h.2 with h|h
 ·omega
 ·unfold fmtB at h
  simp only [Bool.and_eq_true,decide_eq_true_eq] at h
  omega
theorem k_HOpen (h:Lv w0 w Y D) (gl:Glob w0) (n0:0<n) (rg:RgS D 26 n (opF D 26)) (lg:Cells w B 171 3 (lgF (Y.tb 0))) (hB:w0.heap.size≤B∧¬Y.F B) (er:∀k,k<8→D.err k=0) (idl:D.cur 0=0) (dt:Y.dt=Y.tb∧∀i,Y.ids i=i) (K:K1)
  (hK:∀H w',Ext w w'→H.B=B→H.av=none→H.avl= []→H.lk=false→HpS w0 w' Y D H n (opF D 26) []→K (.tuple #[hpV H,.int .i64 0]) w'):
  callS prog 109 #[.iface 31 (.pointer (some ⟨Y.tb 0,0,none⟩)),.int .i64 ((26:Nat):Int),.int .i64 ((32*n:Nat):Int)] w K:=by
 have hn4:=h.gd.n
 have hlt:=rg.lt
 have hq:32*n/32=n:=by omega
 have ln:=lnT_get 26 n
 have lk:(i64L (lnL (fun _=>true) 26 n)).length=n:=by simp [ln.1]
 have fin:∀w1 S b o cp,Ext w w1→w.heap.size≤S→w.heap.size≤b→ArS w0 w1 Y D S b o cp 26 n (opF D 26)→f109_k1 K (.iface 31 (.pointer (some ⟨Y.tb 0,0,none⟩))) (.int .i64 ((26:Nat):Int)) (.int .i64 ((32*n:Nat):Int)) (stV S) w1:=by
  intro w1 S b o cp e1 hS hb ar
  rw [f109_k1_eq]
  unfold f109_k1_t
  obtain ⟨w3,hw3⟩:∃w3,(w1.alloc (.map #[] 0)).alloc (.map #[] 0)=w3:=⟨_,rfl⟩
  have s2:(w1.alloc (.map #[] 0)).heap.size=w1.heap.size+1:=size_alloc _ _
  have s3:w3.heap.size=w1.heap.size+2:=by rw [←hw3,size_alloc,s2]
  have e3:Ext w1 w3:=by rw [←hw3];exact xZ
  have m1:MapK .u64 w3 w1.heap.size []:=by
   refine MapK.empty (clock:=0) ?_
   rw [←hw3,heap_alloc_lt _ (by rw [s2];omega)];exact heap_alloc_eq _ _
  have m2:MapK .i64 w3 (w1.heap.size+1) []:=by
   refine MapK.empty (clock:=0) ?_
   rw [←hw3,←s2];exact heap_alloc_eq _ _
  have hN:=Cells.new w3 [Value.iface 31 (.pointer (some ⟨Y.tb 0,0,none⟩)),.int .i64 ((26:Nat):Int),.int .i64 ((32*n:Nat):Int),stV S,.map (some w1.heap.size),.map (some (w1.heap.size+1)),.map none,.bool false] 112
  have e4:Ext w3 (w3.alloc (.cells #[Value.iface 31 (.pointer (some ⟨Y.tb 0,0,none⟩)),.int .i64 ((26:Nat):Int),.int .i64 ((32*n:Nat):Int),stV S,.map (some w1.heap.size),.map (some (w1.heap.size+1)),.map none,.bool false] 112)):=Ext.alloc_self _ _
  have Blt:=lg.lt
  have sz:=e1.size
  have nF:∀x,w1.heap.size≤x→¬Y.F x:=fun x hx hf=>by have:=ar.L.dv.lt hf;omega
  have blt:=ar.pl.lt (b:=b) rfl
  have Slt:=ar.st.lt
  have ok:HpS w0 (w3.alloc (.cells #[Value.iface 31 (.pointer (some ⟨Y.tb 0,0,none⟩)),.int .i64 ((26:Nat):Int),.int .i64 ((32*n:Nat):Int),stV S,.map (some w1.heap.size),.map (some (w1.heap.size+1)),.map none,.bool false] 112)) Y D ⟨S,b,o,cp,w3.heap.size,w1.heap.size,w1.heap.size+1,none,[],false,B⟩ n (opF D 26) []:=by
   refine ⟨ar.ext (e3.trans e4),rg,hN,((lg.ext e1).ext e3).ext e4,m1.ext e4,⟨[],m2.ext e4,fun k _=>rfl⟩,by simp,fun p hp=>(by cases hp),fun k _=>rfl,er,idl,.inl ⟨rfl,rfl⟩,fun x hx=> ?_,?_,dt⟩
   ·have w0l:=h.ex.size
    rcases hx with rfl|rfl|rfl|rfl|hx
    ·exact ⟨by simp only;omega,nF _ (by simp only;omega),by simp only;omega,by simp only;omega⟩
    ·exact ⟨by simp only;omega,nF _ (by simp only;omega),by simp only;omega,by simp only;omega⟩
    ·exact ⟨by simp only;omega,nF _ (by simp only;omega),by simp only;omega,by simp only;omega⟩
    ·exact ⟨hB.1,hB.2,by simp only;omega,by simp only;omega⟩
    ·cases hx
   ·simp only;omega
  have:=hK ⟨S,b,o,cp,w3.heap.size,w1.heap.size,w1.heap.size+1,none,[],false,B⟩ _ (e1.trans (e3.trans e4)) rfl rfl rfl rfl ok
  have hp:(hpV ⟨S,b,o,cp,w3.heap.size,w1.heap.size,w1.heap.size+1,none,[],false,B⟩:Value)= .pointer (some ⟨w1.heap.size+1+1,0,none⟩):=by
   show Value.pointer (some ⟨w3.heap.size,0,none⟩)=_
   rw [s3]
  rw [hp] at this
  simp (disch:=try exact dZ) only [↓RBp,↓RA,↓reduceIte,Nat.reduceAdd,Nat.reduceMul,Nat.reduceEqDiff,RB,RX,RA2]
  rw [hw3]
  exact this
 refine f109_call _ _ _ _ _ ?_
 unfold f109_t
 simp (disch:=try exact dZ) only [↓RBp,↓RA,↓reduceIte,Nat.reduceAdd,Nat.reduceMul,Nat.reduceEqDiff,RB,RX,RA2]
 refine k_AOpen (l0:=26) (q:=32*n) (n:=n) h gl rg.on.off rg.on.err oM oM hq _ (fun hn=>absurd (fun k hk=>(rg.ag k hk).1) hn) (fun _ S b o cp w1 e1 hS hb ar=> ?_)
 have fin:=fin
 simp (disch:=try exact dZ) only [↓RBp,↓RA,↓reduceIte,Nat.reduceAdd,Nat.reduceMul,Nat.reduceEqDiff,RB,RX,RA2]
 refine k_Lines (ar.ext xZ) _ (fun v w2 e2 nv hv=> ?_)
 have e12:Ext w1 w2:=Ext.trans xZ e2
 rw [ln.1] at hv
 obtain ⟨a,cap,rfl⟩:=SlO.form hv
 have hRd:RdS w2.heap.size w2 (.slice a n cap) (i64L (lnL (fun _=>true) 26 n)):=RdS.of_slR (t:=3) (by rw [lk];exact hv)
 simp (disch:=try exact dZ) only [↓RBp,↓RA,↓reduceIte,Nat.reduceAdd,Nat.reduceMul,Nat.reduceEqDiff,RB,RX,RA2]
 apply f109_l1_rule (I:=fun z w3=>∃k:Nat,z= .int .i64 (k:Int)∧k≤n∧Ext w2 w3) (μ:=fun z _=>n-(intOf z).toNat)
 ·exact ⟨0,rfl,by omega,xZ⟩
 ·intros
  rename_i w3 hI E1 hE1
  obtain ⟨k,rfl,hk,e3⟩:=hI
  have e13:=e12.trans e3
  have ar3:=ar.ext e13
  have h3:=h.ext (e1.trans e13)
  by_cases hkn:k<n
  ·have lkk:(i64L (lnL (fun _=>true) 26 n))[k]? =some (.int .i64 ((26+32*k:Nat):Int)):=by
    rw [i64L,List.getElem?_map,ln.2 k hkn];rfl
   obtain ⟨sb,so,sc,ev1,hc⟩:=(hRd.ext e3).get lkk
   rw [lk] at ev1
   injection ev1 with ev1 _ ev2
   subst ev1;subst ev2
   have ek:(k:Int)+1=((k+1:Nat):Int):=by omega
   have ha:=rg.ag k hkn
   have hfin:∀w4,Ext w3 w4→E1 (.int .i64 ((k+1:Nat):Int)) w4:=fun w4 e4=>by
    apply hE1
    ·exact ⟨k+1,rfl,by omega,e3.trans e4⟩
    ·simp [intOf];omega
   have hown:=fun (w4:World) (e:Ext w3 w4) (K:K1) hK=>k_OwnerAt (ar3.ext e) hkn K hK
   have ho:(opF D 26 k).2.1=hO (wd D (26+32*k) 0):=rfl
   have hcl:(opF D 26 k).1=hC (wd D (26+32*k) 0):=rfl
   by_cases hneg:(opF D 26 k).2.1<0
   ·generalize (opF D 26 k).2.1=ow at*
    unfold f109_l1_t
    simp (disch:=try exact dZ) only [↓RBp,↓RA,↓reduceIte,Nat.reduceAdd,Nat.reduceMul,Nat.reduceEqDiff,RB,RX,RA2,hc]
    refine hown _ xZ _ (fun w4 e4=> ?_)
    simp (disch:=try exact dZ) only [↓RBp,↓RA,↓reduceIte,Nat.reduceAdd,Nat.reduceMul,Nat.reduceEqDiff,RB,RX,RA2,hneg]
    rw [f109_k2_eq]
    unfold f109_k2_t
    simp (disch:=try exact dZ) only [↓RBp,↓RA,↓reduceIte,Nat.reduceAdd,Nat.reduceMul,Nat.reduceEqDiff,RB,RX,RA2,ek]
    exact hfin _ (Ext.trans xZ (e4.trans xZ))
   ·have hc0:0≤hC (wd D (26+32*k) 0):=own_cls ha.1 (by rw [←ho];omega)
    have c5:=(rg.cls hkn).1
    have hs:=rg.sn k hkn (by rw [hcl];exact hc0)
    have hcon:=hs.con h.gd oM (by rw [hcl];exact hc0) c5
    have hgl:=gl.ext h3.ex
    have hcx:Cx w3 Y D (26+32*k) (hC (wd D (26+32*k) 0)):=⟨h3.dv,h3.gd,hgl,rg.on.off,by omega,hc0,by rw [←hcl];exact c5⟩
    have hop:=fun (w4:World) (e:Ext w3 w4) (K:K1) (hK:∀w5,Ext w4 w5→K (.tuple #[chV Y (26+32*k) (hC (wd D (26+32*k) 0)) (hO (wd D (26+32*k) 0)) (gX (wd D (26+32*k) 0)),.int .i64 0]) w5)=>k_OpenAt (h3.dv.ext e) h3.gd (hgl.ext e) rg.on.off rg.on.err (26+32*k) oM ha.1 K (fun w5 e5=>by
     rw [if_neg oM];exact hK w5 e5)
    have hck:=fun (w4:World) (e:Ext w3 w4) (K:K1) (hK:∀w',Ext w4 w'→K (.int .i64 0) w')=>k_Check (hcx.ext e) (er 0 oM) (hO (wd D (26+32*k) 0)) (gX (wd D (26+32*k) 0)) K (fun w5 e5=>by
     rw [hcl,ho] at hcon
     rw [if_pos hcon];exact hK w5 e5)
    rw [ho] at hneg hown
    generalize hC (wd D (26+32*k) 0)=cc at*
    generalize hO (wd D (26+32*k) 0)=ow at*
    generalize gX (wd D (26+32*k) 0)=gg at*
    unfold f109_l1_t
    simp (disch:=try exact dZ) only [↓RBp,↓RA,↓reduceIte,Nat.reduceAdd,Nat.reduceMul,Nat.reduceEqDiff,RB,RX,RA2,hc]
    refine hown _ xZ _ (fun w4 e4=> ?_)
    have e34:Ext w3 w4:=Ext.trans xZ e4
    simp (disch:=try exact dZ) only [↓RBp,↓RA,↓reduceIte,Nat.reduceAdd,Nat.reduceMul,Nat.reduceEqDiff,RB,RX,RA2,hneg]
    refine hop _ (e34.trans xZ) _ (fun w5 e5=> ?_)
    have e35:Ext w3 w5:=e34.trans (Ext.trans xZ e5)
    have hN:=Cells.new w5 [Value.iface 31 (.pointer (some ⟨Y.tb 0,0,none⟩)),.int .i64 ((26+32*k:Nat):Int),.int .i64 cc,.int .i64 ow,.int .u16 (gg:Int)] 134
    have ob14:=chD hN;have g0:=ob14.1;have g1:=ob14.2.1;have g2:=ob14.2.2.1;have g3:=ob14.2.2.2.1;have g4:=ob14.2.2.2.2
    simp (disch:=try exact dX) only [↓RBp,↓RA,↓reduceIte,Nat.reduceAdd,Nat.reduceMul,Nat.reduceEqDiff,RB,RX,RA2,g0,g1,g2,g3,g4]
    refine hck _ (e35.trans xZ) _ (fun w6 e6=> ?_)
    simp (disch:=try exact dZ) only [↓RBp,↓RA,↓reduceIte,Nat.reduceAdd,Nat.reduceMul,Nat.reduceEqDiff,RB,RX,RA2]
    rw [f109_k2_eq]
    unfold f109_k2_t
    simp (disch:=try exact dZ) only [↓RBp,↓RA,↓reduceIte,Nat.reduceAdd,Nat.reduceMul,Nat.reduceEqDiff,RB,RX,RA2,ek]
    exact hfin _ (e35.trans (Ext.trans xZ (e6.trans xZ)))
  ·have hk2:k=n:=by omega
   subst hk2
   unfold f109_l1_t
   simp (disch:=try exact dZ) only [↓RBp,↓RA,↓reduceIte,Nat.reduceAdd,Nat.reduceMul,Nat.reduceEqDiff,RB,RX,RA2]
   exact fin w3 S b o cp (e1.trans e13) hS hb ar3
end
section
variable {w0 w w':World} {Y:Lay} {D D2:DS} {S b o cp l0 n k g:Nat} {f f2:Nat→Int×Int×Bool} {c t:Int}
theorem fmt_wd (on:On D) (gd:Good D) (hl:l0+32*n≤D.n):∀m,m≤n→∀k,k<n→∀i,i<256→wd (fmtD D l0 m) (l0+32*k) i=if i=0∧k<m then sealN (hdX (-1) (-1) 1) else wd D (l0+32*k) i
 |0,_,k,hk,i,hi=>by rw [if_neg oM];rfl
 |m+1,hm,k,hk,i,hi=>by
  obtain ⟨h1,h2,h3,h4⟩:=fmtD_ok on gd hl m oM
  have ih:=fmt_wd on gd hl m oM k hk i hi
  have cg:=clr_gen h1 h2 (l:=l0+32*m) (g:=1) oM oM
  have cc:=clr_cur (l:=l0+32*m) (g:=1) h1.off h1.err oM cg.1.err
  have w1:=fun l'=>wd_one (l':=l') cc.1
  show wd ((fmtD D l0 m).run 0 (clrI (l0+32*m) 1)) (l0+32*k) i=_
  by_cases e:k=m
  ·subst e
   rw [(w1 0).1 i hi,ih]
   by_cases h0:i=0
   ·rw [if_pos h0,if_pos oM]
   ·rw [if_neg h0,if_neg oM,if_neg oM]
  ·rw [(w1 (l0+32*k)).2 oM i hi,ih]
   by_cases h0:i=0∧k<m
   ·rw [if_pos h0,if_pos oM]
   ·rw [if_neg h0,if_neg oM]
theorem ClOk.al (h:ClOk D l0 n f c t D2 f2 k g) (c0:0≤c) (c5:c<5):alF D2 (l0+32*k) c (perS c).toNat=true:=by
 refine alF_of (fun i hi=> ?_)
 have hp:=perS_in c0 c5
 have hi':(i:Int)<perS c:=by omega
 have bd:=offN_bd c0 c5 hi'
 have h1:=h.own (offN c i) bd.2.2
 have h2:=h.own 1 oM
 have e1:planF c t g (wd D (l0+32*k)) (offN c i)=sealN (blkX g 0 176):=by
  unfold planF;rw [if_neg oM,if_pos (isB_mem.2 ⟨i,hi,rfl⟩)]
 have e2:planF c t g (wd D (l0+32*k)) 1=0:=by
  unfold planF
  rw [if_neg oM,if_neg,if_pos oM]
  intro hb
  obtain ⟨q,hq,he⟩:=isB_mem.1 hb
  have:=offN_bd c0 c5 (show (q:Int)<perS c by omega)
  omega
 unfold okF
 rw [h1,h2,e1,e2,isS_blk h.g6 oM oM,bit0,bS_blk h.g6 oM oM,bG_blk h.g6 oM oM]
 have:=h.g0
 simp [this]
end
def hlD (n:Nat):DS:=(DS.zero (26+32*n)).run 0 (storesI [(0,0)])
def hbD (n:Nat):DS:=fmtD (hlD n) 26 n
def wlF (Y:Lay) (H:HL) (n:Nat) (lv hd dd:Value) (i:Nat):Value:= [Value.pointer (some ⟨Y.d,0,none⟩),.pointer (some ⟨Y.tb 0,0,none⟩),.pointer (some ⟨H.B,0,none⟩),hpV H,.int .i64 (n:Int),lv,hd,dd].getD i undef
section
variable {w0 w w':World} {Y Y':Lay} {D:DS} {n k B:Nat} {f:Idx}
theorem hl_ok (n7:n≤120):On (hlD n)∧Good (hlD n)∧(hlD n).n=26+32*n∧(hlD n).exe≤3∧(∀j,(hlD n).err j=0)∧∀j,(hlD n).cur j=0:=by
 have zn:(DS.zero (26+32*n)).n=26+32*n:=rfl
 have h1:=On.stores (On.zero (26+32*n)) [(0,0)] (fun x hx=>by
  simp only [List.mem_singleton] at hx;subst hx
  exact ⟨rfl,show 0<(26+32*n)*64 by omega⟩)
 have zc:∀j,(DS.zero (26+32*n)).cur j=0:=fun j=>by
  show (List.replicate (8*(26+32*n)) 0).getD j 0=0
  rw [List.getD_eq_getElem?_getD,List.getElem?_replicate]
  split<;>rfl
 refine ⟨h1.1,Good.run 0 oM _ _ (Good.zero _ oM oM) (okI_stores (fun x hx=>by simp only [List.mem_singleton] at hx;subst hx;simp only;omega)),run_n 0 _ _,?_,fun j=> ?_,fun j=> ?_⟩
 ·have a:=run_exe 0 (storesI [(0,0)]) (DS.zero (26+32*n))
  have b:=storesI_le [((0:Nat),(0:Nat))]
  have c:(DS.zero (26+32*n)).exe=0:=rfl
  unfold hlD
  simp only [List.length_singleton] at b
  omega
 ·by_cases e:j=0
  ·subst e;exact h1.1.err
  ·unfold hlD
   rw [run_err e];rfl
 ·unfold hlD
  rw [h1.2]
  simp only [applyH,List.foldl_cons,List.foldl_nil]
  split
  ·rfl
  ·exact zc j
theorem fm_rest (on:On D) (gd:Good D) (hl:26+32*n≤D.n):∀m,m≤n→(∀j,(fmtD D 26 m).err j=D.err j)∧(fmtD D 26 m).cur 0=D.cur 0:=by
 intro m
 induction m with
 |zero=>intro _;exact ⟨fun _=>rfl,rfl⟩
 |succ m ih=>
  intro hm
  have i:=ih oM
  obtain ⟨h1,h2,h3,h4⟩:=fmtD_ok on gd hl m oM
  have cg:=clr_gen h1 h2 (l:=26+32*m) (g:=1) oM oM
  have cc:=clr_cur (l:=26+32*m) (g:=1) h1.off h1.err oM cg.1.err
  refine ⟨fun j=> ?_,?_⟩
  ·show ((fmtD D 26 m).run 0 (clrI (26+32*m) 1)).err j=_
   by_cases e:j=0
   ·subst e;rw [cg.1.err,on.err]
   ·rw [run_err e];exact i.1 j
  ·show ((fmtD D 26 m).run 0 (clrI (26+32*m) 1)).cur 0=_
   rw [cc.1]
   simp only
   rw [if_neg oM];exact i.2
theorem hb_ok (n7:n≤120):RgS (hbD n) 26 n (opF (hbD n) 26)∧(hbD n).n=26+32*n∧(hbD n).exe≤3+3*n∧(∀j,(hbD n).err j=0)∧(hbD n).cur 0=0∧∀k,k<n→∀i,i<256→wd (hbD n) (26+32*k) i=if i=0 then sealN (hdX (-1) (-1) 1) else 0:=by
 obtain ⟨a1,a2,a3,a4,a5,a6⟩:=hl_ok n7
 have hlt:26+32*n≤(hlD n).n:=by omega
 obtain ⟨h1,h2,h3,h4⟩:=fmtD_ok a1 a2 hlt n (Nat.le_refl _)
 have fr:=fm_rest a1 a2 hlt n (Nat.le_refl _)
 have hw:∀k,k<n→∀i,i<256→wd (hbD n) (26+32*k) i=if i=0 then sealN (hdX (-1) (-1) 1) else 0:=fun k hk i hi=>by
  have:=fmt_wd a1 a2 hlt n (Nat.le_refl _) k hk i hi
  unfold hbD
  rw [this]
  by_cases e:i=0
  ·rw [if_pos ⟨e,hk⟩,if_pos e]
  ·rw [if_neg oM,if_neg e]
   unfold wd;exact a6 _
 have hfr:=hd_free (g:=1) oM oM
 refine ⟨⟨h1,h2,by unfold hbD;rw [h3];exact hlt,fun k hk=> ?_,fun k hk hh=> ?_⟩,by unfold hbD;rw [h3,a3],by unfold hbD;omega,fun j=>by unfold hbD;rw [fr.1,a5],by unfold hbD;rw [fr.2,a6],hw⟩
 ·refine ⟨?_,rfl,rfl⟩
  rw [hw k hk 0 oM,if_pos rfl];exact hfr.1
 ·have hh:0≤hC (wd (hbD n) (26+32*k) 0):=hh
  rw [hw k hk 0 oM,if_pos rfl,hfr.2.1] at hh
  exact absurd hh (by decide)
theorem hb_f {k:Nat} (n7:n≤120) (hk:k<n):opF (hbD n) 26 k=(-1,-1,false):=by
 have hw:=(hb_ok n7).2.2.2.2.2 k hk 0 oM
 rw [if_pos rfl] at hw
 have hfr:=hd_free (g:=1) oM oM
 unfold opF
 rw [hw,hfr.2.1,hfr.2.2.1]
theorem k_hopen (h:Lv w0 w Y D) (gl:Glob w0) (n0:0<n) (rg:RgS D 26 n (opF D 26)) (er:∀k,k<8→D.err k=0) (idl:D.cur 0=0) (dt:Y.dt=Y.tb∧∀i,Y.ids i=i) (K:K1)
  (hK:∀Wb H w',Ext w w'→w.heap.size≤Wb→Cells w' Wb 38 8 (wlF Y H n (.slice none 0 0) (.slice none 0 0) (.slice none 0 0))→H.av=none→H.avl= []→H.lk=false→HpS w0 w' Y D H n (opF D 26) []→(¬Y.F Wb∧Wb≠H.b∧Wb≠H.p∧Wb≠H.rm∧Wb≠H.hm)→K (.pointer (some ⟨Wb,0,none⟩)) w'):
  callS prog 57 #[.pointer (some ⟨Y.d,0,none⟩),.int .i64 (n:Int)] w K:=by
 have hn4:=h.gd.n
 have hlt:=rg.lt
 have e0:(32:Int)*(n:Int)=((32*n:Nat):Int):=by omega
 have hT:∀(w1:World) (K:K1),Ext w w1→callS prog 50 #[.pointer (some ⟨Y.d,0,none⟩),.int .i64 0] w1 K=K (.pointer (some ⟨Y.tb 0,0,none⟩)) w1:=fun w1 K e=>by rw [←dt.1];exact c_Thread (h.dv.ext e) 0 oM K
 have hro:=fun (w1:World) (e:Ext w w1) (K:K1) hK=>k_ROpen (h.dv.ext e) h.gd oM rfl K hK
 have hrc:=fun (w1:World) (e:Ext w w1) (B:Nat) hC (K:K1) hK=>k_RecoverI (B:=B) (h.dv.ext e) h.gd oM rfl hC rg.on.off rg.on.err idl K hK
 refine f57_call _ _ _ _ ?_
 unfold f57_t
 simp (disch:=try exact dX) only [↓RBp,↓RA,↓reduceIte,Nat.reduceAdd,Nat.reduceMul,Nat.reduceEqDiff,RB,RX,RA2,hT]
 refine hro _ xZ _ (fun B w1 e1 hB lg=> ?_)
 have e01:Ext w w1:=Ext.trans xZ e1
 simp (disch:=try exact dZ) only [↓RBp,↓RA,↓reduceIte,Nat.reduceAdd,Nat.reduceMul,Nat.reduceEqDiff,RB,RX,RA2]
 refine hrc _ (e01.trans xZ) B (lg.ext xZ) _ (fun w2 e2=> ?_)
 have e02:Ext w w2:=e01.trans (Ext.trans xZ e2)
 have lg2:=lg.ext (Ext.trans xZ e2)
 have nB:w0.heap.size≤B∧¬Y.F B:=⟨by have:=h.ex.size;omega,fun hf=>by have:=h.dv.lt hf;omega⟩
 simp (disch:=try exact dZ) only [↓RBp,↓RA,↓reduceIte,Nat.reduceAdd,Nat.reduceMul,Nat.reduceEqDiff,RB,RX,RA2,e0]
 refine k_HOpen (h.ext (e02.trans xZ)) gl n0 rg (lg2.ext xZ) nB er idl dt _ (fun H w3 e3 hHB h1 h2 h3 hp=> ?_)
 have e03:Ext w w3:=e02.trans (Ext.trans xZ e3)
 subst hHB
 have sz:=e03.size
 have hN:=Cells.new w3 [Value.pointer (some ⟨Y.d,0,none⟩),.pointer (some ⟨Y.tb 0,0,none⟩),.pointer (some ⟨H.B,0,none⟩),hpV H,.int .i64 (n:Int),.slice none 0 0,.slice none 0 0,.slice none 0 0] 38
 have e4:Ext w3 (w3.alloc (.cells #[Value.pointer (some ⟨Y.d,0,none⟩),.pointer (some ⟨Y.tb 0,0,none⟩),.pointer (some ⟨H.B,0,none⟩),hpV H,.int .i64 (n:Int),.slice none 0 0,.slice none 0 0,.slice none 0 0] 38)):=Ext.alloc_self _ _
 have fin:=hK w3.heap.size H _ (e03.trans e4) sz hN h1 h2 h3 (hp.ext e4) (hp.new (Nat.le_refl _))
 simp (disch:=try exact dZ) only [↓RBp,↓RA,↓reduceIte,Nat.reduceAdd,Nat.reduceMul,Nat.reduceEqDiff,RB,RX,RA2,List.getElem?_toArray,List.getElem?_cons_succ,List.getElem?_cons_zero,Option.isSome_some,Bool.and_self,List.setIfInBounds_toArray,List.set_cons_succ,List.set_cons_zero]
 exact fin
theorem k_hbegin (hG:Glob w) (n0:0<n) (n7:n≤120) (K:K1)
  (hK:∀Wb H Y w',Ext w w'→w.heap.size≤Wb→Cells w' Wb 38 8 (wlF Y H n (.slice none 0 0) (.slice none 0 0) (.slice none 0 0))→H.av=none→H.avl= []→H.lk=false→HpS w w' Y (hbD n) H n (opF (hbD n) 26) []→(¬Y.F Wb∧Wb≠H.b∧Wb≠H.p∧Wb≠H.rm∧Wb≠H.hm)→K (.pointer (some ⟨Wb,0,none⟩)) w'):
  callS prog 14 #[.int .i64 (n:Int)] w K:=by
 obtain ⟨a1,a2,a3,a4,a5,a6⟩:=hl_ok n7
 obtain ⟨b1,b2,b3,b4,b5,b6⟩:=hb_ok n7
 have zn:(DS.zero (26+32*n)).n=26+32*n:=rfl
 have zx:(DS.zero (26+32*n)).exe=0:=rfl
 have e0:(32:Int)*(n:Int)=((32*n:Nat):Int):=by omega
 have e1:(26:Int)+((32*n:Nat):Int)=((26+32*n:Nat):Int):=by omega
 have hz:=On.zero (26+32*n)
 have hgz:=Good.zero (26+32*n) oM oM
 have hqn:32*n/32=n:=by omega
 refine f14_call _ _ _ ?_
 unfold f14_t
 simp (disch:=try exact dZ) only [↓RBp,↓RA,↓reduceIte,Nat.reduceAdd,Nat.reduceMul,Nat.reduceEqDiff,RB,RX,RA2,e0,e1]
 refine k_New (26+32*n) oM oM _ (fun w1 Y he hd hF hdt=> ?_)
 have L1:Lv w w1 Y (DS.zero (26+32*n)):=⟨hd,hgz,he.trans xZ,hF⟩
 have hT:∀(w2:World) (K:K1),Ext w1 w2→callS prog 50 #[.pointer (some ⟨Y.d,0,none⟩),.int .i64 0] w2 K=K (.pointer (some ⟨Y.tb 0,0,none⟩)) w2:=fun w2 K e=>by rw [←hdt.1];exact c_Thread (hd.ext e) 0 oM K
 have hRF:=fun (w2:World) (e:Ext w1 w2) (K:K1) hK=>k_RFormat (L1.ext e).dv hgz hz (by rw [zn];omega) (by rw [zx];omega) rfl K hK
 have hAF:∀w2 w3 Y2,Ext w1 w2→Stp w2 Y w3 Y2 (hlD n)→∀(w4:World) (K:K1),Ext w3 w4→(∀w5 Y5,Stp w4 Y2 w5 Y5 (hbD n)→K (.int .i64 0) w5)→callS prog 63 #[.iface 31 (.pointer (some ⟨Y.tb 0,0,none⟩)),.int .i64 ((26:Nat):Int),.int .i64 ((32*n:Nat):Int)] w4 K:=fun w2 w3 Y2 e2 st w4 K e4 hK5=>by
  have L3:=((L1.ext e2).step st a2).ext e4
  rw [←show Y2.tb=Y.tb from st.tb]
  refine f63_call _ _ _ _ _ ?_
  unfold f63_t
  refine k_AFormat (l0:=26) (q:=32*n) L3 hG a1 a2 oM oM oM _ (fun w5 Y5 s5=> ?_)
  rw [hqn] at s5
  exact hK5 w5 Y5 s5
 have hOp:∀w2 w3 Y2 w4 w5 Y5,Ext w1 w2→Stp w2 Y w3 Y2 (hlD n)→Ext w3 w4→Stp w4 Y2 w5 Y5 (hbD n)→∀(w6:World),Ext w5 w6→callS prog 57 #[.pointer (some ⟨Y.d,0,none⟩),.int .i64 (n:Int)] w6 K:=fun w2 w3 Y2 w4 w5 Y5 e2 st e4 s5 w6 e6=>by
  have L3:=((L1.ext e2).step st a2).ext e4
  have L5:=(L3.step s5 b1.gd).ext e6
  have hd2:Y5.d=Y.d:=s5.d.trans st.d
  rw [←hd2]
  have dt5:Y5.dt=Y5.tb∧∀i,Y5.ids i=i:=by
   rw [s5.y,st.y];exact hdt
  exact k_hopen L5 hG n0 b1 (fun k _=>b4 k) b5 dt5 K (fun Wb H w' e7 hW c h1 h2 h3 hp ne=>hK Wb H Y5 w' (L5.ex.trans e7) (Nat.le_trans L5.ex.size hW) c h1 h2 h3 hp ne)
 simp (disch:=try exact dX) only [↓RBp,↓RA,↓reduceIte,Nat.reduceAdd,Nat.reduceMul,Nat.reduceEqDiff,RB,RX,RA2,hT,e0,e1]
 refine hRF _ xZ _ (fun w3 Y2 st=> ?_)
 have st1:Stp w1 Y w3 Y2 (hlD n):=st
 have hAF:=hAF w1 w3 Y2 (Ext.refl _) st1
 have hOp:=hOp w1 w3 Y2
 simp (disch:=try exact dX) only [↓RBp,↓RA,↓reduceIte,Nat.reduceAdd,Nat.reduceMul,Nat.reduceEqDiff,RB,RX,RA2,hT,e0,e1]
 refine hAF _ _ xZ (fun w5 Y5 s5=> ?_)
 simp (disch:=try exact dZ) only [↓RBp,↓RA,↓reduceIte,Nat.reduceAdd,Nat.reduceMul,Nat.reduceEqDiff,RB,RX,RA2]
 exact hOp _ w5 Y5 (Ext.refl _) st1 xZ s5 _ xZ
end
section
variable {D D2 D3:DS} {f f2 f3:Idx} {R:List Nat} {n k i p q kd:Nat} {A:List Int} {t c:Int}
theorem liv_zero (rg:RgS D 26 n f) (nn:D.n≤4096) (hk:k<n) (h0:0≤(f k).1) (hi:(i:Int)<perS (f k).1) (hf:∀j,(f3 j).1=(f j).1):Liv (zeD D (26+32*k) (f k).1 i) f3 n q↔Liv D f n q:=by
 have hlt:=rg.lt
 have z:=zero_wd rg.on (l:=26+32*k) oM nn h0 (rg.cls hk).1 hi
 have e:∀j i',j<n→0≤(f j).1→((i':Nat):Int)<perS (f j).1→wd (zeD D (26+32*k) (f k).1 i) (26+32*j) (offN (f j).1 i')=wd D (26+32*j) (offN (f j).1 i'):=fun j i' hj h0' hi'=>by
  by_cases e:j=k
  ·subst e;exact z.2.1 i' hi'
  ·exact z.2.2 _ oM _ (offN_bd h0' (rg.cls hj).1 hi').2.2
 constructor
 ·rintro ⟨j,i',a1,a2,a3,a4,a5⟩
  rw [hf] at a2 a3 a4 a5
  rw [e j i' a1 a2 a3] at a4 a5
  exact ⟨j,i',a1,a2,a3,a4,a5⟩
 ·rintro ⟨j,i',a1,a2,a3,a4,a5⟩
  rw [←e j i' a1 a2 a3] at a4 a5
  refine ⟨j,i',a1,?_,?_,?_,?_⟩<;>rw [hf]<;>assumption
theorem plan_177 {g:Nat} {F:Nat→Nat} (c0:0≤c) (c5:c<5) (hi:(i:Int)<perS c) (g6:g<65536):planF c t g F (offN c i)=sealN (blkX g 0 176)∧bS (sealN (blkX g 0 176))=176:=by
 have hp:=perS_in c0 c5
 have bd:=offN_bd c0 c5 hi
 refine ⟨?_,bS_blk g6 oM oM⟩
 unfold planF;rw [if_neg oM,if_pos (isB_mem.2 ⟨i,by omega,rfl⟩)]
theorem rv_liv (rg:RgS D 26 n f) (nn:D.n≤4096) (V:RvOk D f R n A t c kd D2 f2 D3 f3 p k i):Liv D3 f3 n q↔Liv D f n q:=by
 have hlt:=rg.lt
 have n2:D2.n≤4096:=by
  have:=V.n3
  rw [V.d3] at this
  have h:=run_n 0 (storesI (zW (pOff (26+32*k) c i) (wordsS c).toNat)) D2
  have h':(zeD D2 (26+32*k) c i).n=D2.n:=h
  omega
 have hz:Liv D3 f3 n q↔Liv D2 f2 n q:=by
  rw [V.d3,←V.fc]
  refine liv_zero V.rg2 n2 V.kn (by rw [V.fc];exact V.c0) (by rw [V.fc];exact V.iN) (fun j=> ?_)
  rw [V.f3]
  by_cases e:j=k
  ·subst e;rw [upF_eq,V.fc]
  ·rw [upF_ne _ _ e]
 rw [hz]
 rcases V.how with ⟨e1,e2,_⟩|⟨⟨g,ok⟩,_⟩
 ·rw [e1,e2]
 ·have old:∀j,j≠k→f2 j=f j:=fun j hj=>by rw [ok.fe,upF_ne _ _ hj]
  have wo:∀j i',j<n→j≠k→0≤(f j).1→((i':Nat):Int)<perS (f j).1→wd D2 (26+32*j) (offN (f j).1 i')=wd D (26+32*j) (offN (f j).1 i'):=fun j i' hj hjk h0 hi'=>ok.oth j hj hjk _ (offN_bd h0 (rg.cls hj).1 hi').2.2
  constructor
  ·rintro ⟨j,i',a1,a2,a3,a4,a5⟩
   by_cases e:j=k
   ·subst e
    rw [V.fc] at a3 a5
    rw [ok.own _ (offN_bd V.c0 V.c5 a3).2.2] at a5
    have:=plan_177 (t:=t) (F:=wd D (26+32*j)) V.c0 V.c5 a3 ok.g6
    rw [this.1,this.2] at a5
    cases a5
   ·rw [old j e] at a2 a3 a4 a5
    rw [wo j i' a1 e a2 a3] at a4 a5
    exact ⟨j,i',a1,a2,a3,a4,a5⟩
  ·rintro ⟨j,i',a1,a2,a3,a4,a5⟩
   by_cases e:j=k
   ·subst e
    rcases ok.how with ⟨h,_⟩|⟨_,h,_⟩
    ·omega
    ·unfold emG at h
     rw [if_neg oM] at h
     split at h
     ·cases h
     ·split at h
      ·rename_i _ hal
       have ho:=alF_ok hal i' oM
       unfold okF at ho
       simp only [Bool.and_eq_true,decide_eq_true_eq] at ho
       have:=ho.2.2.1
       omega
      ·cases h
   ·rw [←wo j i' a1 e a2 a3] at a4 a5
    refine ⟨j,i',a1,?_,?_,?_,?_⟩<;>rw [old j e]<;>assumption
theorem Rsv.not_liv (h:Rsv D f n p) (hn:26+32*n≤4096) (rg:RgS D 26 n f):¬Liv D f n p:=fun hl=>by
 have a:=(h.at_ hn rg).2.1
 have b:=(hl.at_ hn rg).2.1.2.2.2.2
 omega
theorem livI_nd {l:Nat} (c0:0≤c) (c5:c<5) (hl:l≤4096):∀m:Nat,(m:Int)≤perS c→(livI D l c m).Nodup∧∀p∈livI D l c m,∃i:Nat,i<m∧pO p=pOff l c i:=by
 intro m
 induction m with
 |zero=>intro _;exact ⟨by simp [livI],fun p hp=>by cases hp⟩
 |succ m ih=>
  intro hm
  obtain ⟨a,b⟩:=ih oM
  have hpo:=pOff_bd (l:=l) (i:=m) hl c0 c5 oM
  have hpm:=pO_ptr (pOff l c m) (bG (wd D l (offN c m))) (bK (wd D l (offN c m))) hpo.1 hpo.2.1
  rw [livI]
  by_cases hk:mkB D l c (m:Int) 177=true
  ·rw [if_pos hk]
   refine ⟨List.nodup_append.2 ⟨a,by simp,fun x hx y hy e=> ?_⟩,fun p hp=> ?_⟩
   ·simp only [List.mem_singleton] at hy
    obtain ⟨i,hi,hpi⟩:=b x hx
    rw [e,hy,hpm] at hpi
    have:=pOff_i (k:=0) c0 c5 hpi
    omega
   ·rcases List.mem_append.1 hp with hp|hp
    ·obtain ⟨i,hi,h⟩:=b p hp;exact ⟨i,by omega,h⟩
    ·simp only [List.mem_singleton] at hp
     exact ⟨m,by omega,by rw [hp,hpm]⟩
  ·rw [if_neg hk,List.append_nil]
   exact ⟨a,fun p hp=>by obtain ⟨i,hi,h⟩:=b p hp;exact ⟨i,by omega,h⟩⟩
theorem livN_nd (rg:RgS D 26 n f) (nn:D.n≤4096):∀m,m≤n→(livN D f m).Nodup:=by
 intro m
 induction m with
 |zero=>intro _;simp [livN]
 |succ m ih=>
  intro hm
  have hlt:=rg.lt
  rw [livN]
  split
  ·rw [List.append_nil];exact ih oM
  ·rename_i h0
   have c5:=(rg.cls (show m<n by omega)).1
   have hp:=perS_in (show 0≤(f m).1 by omega) c5
   have a:=livI_nd (D:=D) (l:=26+32*m) (c:=(f m).1) oM c5 oM (perS (f m).1).toNat oM
   refine List.nodup_append.2 ⟨ih oM,a.1,fun x hx y hy e=> ?_⟩
   obtain ⟨j,hj,hj0,hx⟩:=livN_mem.1 hx
   have cj:=(rg.cls (show j<n by omega)).1
   have hpj:=perS_in hj0 cj
   have b:=livI_nd (D:=D) (l:=26+32*j) (c:=(f j).1) hj0 cj oM (perS (f j).1).toNat oM
   obtain ⟨i1,h1,e1⟩:=b.2 x hx
   obtain ⟨i2,h2,e2⟩:=a.2 y hy
   have p1:=pOff_in (k:=j) (n:=n) hj0 cj (i:=i1) oM
   have p2:=pOff_in (k:=m) (n:=n) (show 0≤(f m).1 by omega) c5 (i:=i2) oM
   rw [←e1] at p1
   rw [←e2,←e] at p2
   omega
theorem livN_len_of (rg:RgS D 26 n f) (nn:D.n≤4096) {L:List Nat} (hn:L.Nodup) (h:∀q,Liv D f n q↔q∈L):(livN D f n).length=L.length:=
 ((List.perm_ext_iff_of_nodup (livN_nd rg nn n (Nat.le_refl _)) hn).2 (fun q=>(liv_mem rg).trans (h q))).length_eq
end
noncomputable def f18_u:Code×Dec:=((Tryz.f18.body).getD .skip,(.s .o (.s .o (.x 0 (.s .o (.b (.l [4] 1 65436 .o))) .o))))
abbrev f18_e (K:K1):KF:=endK prog Tryz.f18.results.toList K
def f18_k1_o (K:K1):KF:=fun fr w=>∀σ,cP (pr (pr (pr f18_u))) (f18_e K) (f18_e K) nX (mixF 0 σ 0 fr) w
def f18_k1 (K:K1) (w:World):Prop:=f18_k1_o K (fz 16 0 []) w
def f18_l1 (K:K1) (x0 x4:Value) (w:World):Prop:=loopT [4] 1 (fun E=>cP (pl (pl (pr (pl (pr (pr f18_u)))))) E (f18_e K) (exB 0 (f18_k1_o K) nX)) (fz 16 0 [(0,x0),(4,x4)]) w
def f18_k1_t (K:K1) (w:World):Prop:=
 K (.tuple #[(.int .i64 0),(.int .i64 9)]) w
theorem f18_k1_eq (K:K1) (w:World):f18_k1 K w=f18_k1_t K w:=cutE fun σ=>by kernel_rfl
def f18_l1_t (x0 x4:Value) (K:K1) (E1:VP1) (w:World):Prop:=
 bC .lss 3 7 5 x4 w fun a w=>
 cndS a (
 cL 56 (pA #[x4]) w fun b w=>
 bT .geq 3 12 13 b x0 w fun c w=>
 cndS c (
 K (.tuple #[x4,(.int .i64 0)]) w) (
 bC .add 3 9 1 x4 w fun d w=>
 E1 d w)) (
 f18_k1 K w)
theorem f18_l1_rule (x0 x4:Value) (K:K1) (w:World) (I:VP1) (μ:Value→World→Nat) (h0:I x4 w)
  (hr:∀(x4:Value) (w:World),I x4 w→∀E1:VP1,(∀(y4:Value) (w':World),I y4 w'→μ y4 w'<μ x4 w→E1 y4 w')→f18_l1_t x0 x4 K E1 w):f18_l1 K x0 x4 w:=
 ⟨I,μ,h0,fun σ w hI E hE=>cast kR (hr (σ 4) w hI E hE)⟩
def f18_t (x0:Value) (K:K1) (w:World):Prop:=
 bC .lss 3 5 1 x0 w fun a w=>
 cndS a (
 K (.tuple #[(.int .i64 0),(.int .i64 1)]) w) (
 f18_l1 K x0 (.int .i64 0) w)
theorem f18_call (x0:Value) (K:K1) (w:World) (h:f18_t x0 K w):callS prog 18 #[x0] w K:=
 call_of_txt (args:= [x0]) mixed Tryz.func18 f18_u.2 kR (cast kR h)
theorem k_rClass (x:Int) (w:World) (K:K1) (h1:x<1→K (.tuple #[.int .i64 0,.int .i64 1]) w) (h2:1≤x→x≤60→K (.tuple #[.int .i64 (clsN x),.int .i64 0]) w) (h3:60<x→K (.tuple #[.int .i64 0,.int .i64 9]) w):
  callS prog 18 #[.int .i64 x] w K:=by
 refine f18_call _ _ _ ?_
 unfold f18_t
 by_cases e1:x<1
 ·have h1:=h1 e1
  simp (disch:=try exact dZ) only [↓RBp,↓RA,↓reduceIte,Nat.reduceAdd,Nat.reduceMul,Nat.reduceEqDiff,RB,RX,RA2]
  exact h1
 ·simp (disch:=try exact dZ) only [↓RBp,↓RA,↓reduceIte,Nat.reduceAdd,Nat.reduceMul,Nat.reduceEqDiff,RB,RX,RA2]
  apply f18_l1_rule (I:=fun z w'=>∃i:Nat,z= .int .i64 (i:Int)∧((i:Int)≤clsN x∨60<x∧i≤5)∧w'=w) (μ:=fun z _=>6-(intOf z).toNat)
  ·exact ⟨0,rfl,.inl (by have:=clsN_bd x;omega),rfl⟩
  ·intros;rename_i w1 hI E1 hE
   obtain ⟨i,rfl,hi,rfl⟩:=hI
   have hb:=clsN_bd x
   by_cases e5:i=5
   ·have e60:60<x:=by omega
    have h3:=h3 e60
    subst e5
    unfold f18_l1_t
    simp (disch:=try exact dZ) only [↓RBp,↓RA,↓reduceIte,Nat.reduceAdd,Nat.reduceMul,Nat.reduceEqDiff,RB,RX,RA2]
    rw [f18_k1_eq]
    exact h3
   ·have hi5:i<5:=by omega
    have hw:wordsS (i:Int)=payN i:=by unfold wordsS;rw [if_pos ⟨by omega,by omega⟩];rfl
    have hc:i=0∨i=1∨i=2∨i=3∨i=4:=by omega
    have es:(i:Int)+1=((i+1:Nat):Int):=by omega
    by_cases e:x≤payN i
    ·have hx:x≤60:=by have:=payN_bd i hi5;omega
     have hcl:clsN x=(i:Int):=by
      unfold clsN at hi ⊢
      rcases hc with rfl|rfl|rfl|rfl|rfl<;>simp only [payN,List.getD_cons_zero,List.getD_cons_succ] at e<;>(repeat' split)<;>(repeat' split at hi)<;>omega
     have h2:=h2 oM hx
     rw [hcl] at h2
     unfold f18_l1_t
     simp (disch:=try exact dZ) only [↓RBp,↓RA,↓reduceIte,Nat.reduceAdd,Nat.reduceMul,Nat.reduceEqDiff,RB,RX,RA2,c_rWords,hw]
     exact h2
    ·have nx:(((i+1:Nat):Int)≤clsN x∨60<x∧i+1≤5):=by
      by_cases e60:60<x
      ·exact .inr ⟨e60,by omega⟩
      ·refine .inl ?_
       unfold clsN at hi ⊢
       rcases hc with rfl|rfl|rfl|rfl|rfl<;>simp only [payN,List.getD_cons_zero,List.getD_cons_succ] at e<;>(repeat' split)<;>(repeat' split at hi)<;>omega
     unfold f18_l1_t
     simp (disch:=try exact dZ) only [↓RBp,↓RA,↓reduceIte,Nat.reduceAdd,Nat.reduceMul,Nat.reduceEqDiff,RB,RX,RA2,c_rWords,hw,es]
     apply hE
     ·exact ⟨i+1,rfl,nx,rfl⟩
     ·simp only [intOf]
      omega
structure LW (w0 w:World) (Wb:Nat) (lv hd dd:Value) (Y:Lay) (D:DS) (H:HL) (n:Nat) (f:Idx) (R:List Nat):Prop where
 hp:HpS w0 w Y D H n f R
 bx:Cells w Wb 38 8 (wlF Y H n lv hd dd)
 n0:w0.heap.size≤Wb
 ne:¬Y.F Wb∧Wb≠H.b∧Wb≠H.p∧Wb≠H.rm∧Wb≠H.hm
section
variable {w0 w w':World} {Y Y':Lay} {D D2 D3:DS} {H:HL} {n k i p q kd Wb:Nat} {f f2 f3:Idx} {R R2:List Nat} {A:List Int} {lv hd dd:Value} {c t:Int}
theorem wl_cells (b:Cells w Wb 38 8 (wlF Y H n lv hd dd)):w.cell? ⟨Wb,0,none⟩=some (.pointer (some ⟨Y.d,0,none⟩))∧w.cell? ⟨Wb,1,none⟩=some (.pointer (some ⟨Y.tb 0,0,none⟩))∧w.cell? ⟨Wb,2,none⟩=some (.pointer (some ⟨H.B,0,none⟩))∧w.cell? ⟨Wb,3,none⟩=some (hpV H)∧w.cell? ⟨Wb,4,none⟩=some (.int .i64 (n:Int))∧w.cell? ⟨Wb,5,none⟩=some lv∧w.cell? ⟨Wb,6,none⟩=some hd∧w.cell? ⟨Wb,7,none⟩=some dd:=
 ⟨b.cell oM,b.cell oM,b.cell oM,b.cell oM,b.cell oM,b.cell oM,b.cell oM,b.cell oM⟩
theorem LW.st (h:LW w0 w Wb lv hd dd Y D H n f R) (s:HSt w Y H w' Y') (hp:HpS w0 w' Y' D2 H n f2 R2):LW w0 w' Wb lv hd dd Y' D2 H n f2 R2:=by
 have hl:=h.bx.lt
 have hb:=h.bx.frm s.frm (fun hf=>hf.elim h.ne.1 (fun hf=>hf.elim h.ne.2.1 (fun hf=>hf.elim h.ne.2.2.1 (fun hf=>hf.elim h.ne.2.2.2.1 h.ne.2.2.2.2))))
 refine ⟨hp,hb.congr (fun i _=> ?_),h.n0,fun hf=> ?_,h.ne.2⟩
 ·unfold wlF;rw [s.d,s.tb]
 ·rcases s.fr _ hf with a|a
  ·exact h.ne.1 a
  ·omega
theorem LW.ext (h:LW w0 w Wb lv hd dd Y D H n f R) (e:Ext w w'):LW w0 w' Wb lv hd dd Y D H n f R:=h.st (HSt.of_ext Y H e) (h.hp.ext e)
theorem LW.space (h:LW w0 w Wb lv hd dd Y D H n f R) (hk:k<8) (K:K1)
  (hK:∀B w',Ext w w'→w.heap.size≤B→Spc w' Y H B k→K (.pointer (some ⟨B,0,none⟩)) w'):
  callS prog 16 #[.pointer (some ⟨Wb,0,none⟩),.int .i64 (k:Int)] w K:=
 k_space h.hp (wl_cells h.bx).1 (wl_cells h.bx).2.2.1 (wl_cells h.bx).2.2.2.1 hk K hK
theorem HpG.ex {Q:Nat→Prop} (h:HpG Q w0 w Y D H n f R):Ext w0 w:=h.ar.L.ex
theorem k_lbegin (hG:Glob w) (n0:0<n) (n7:n≤120) (K:K1)
  (hK:∀Wb H Y w',H.av=none→H.avl= []→H.lk=false→LW w w' Wb (.slice none 0 0) (.slice none 0 0) (.slice none 0 0) Y (hbD n) H n (opF (hbD n) 26) []→K (.pointer (some ⟨Wb,0,none⟩)) w'):
  callS prog 14 #[.int .i64 (n:Int)] w K:=
 k_hbegin hG n0 n7 K (fun Wb H Y w' _ hW c h1 h2 h3 hp ne=>hK Wb H Y w' h1 h2 h3 ⟨hp,c,hW,ne⟩)
theorem rds_one {w:World} {u:Value} {e:TypeId}:RdS (w.alloc (.cells #[u] e)).heap.size (w.alloc (.cells #[u] e)) (.slice (some ⟨w.heap.size,0,none⟩) 1 1) [u]:=by
 have hC:=Cells.new w [u] e
 refine ⟨_,_,rfl,.inr ⟨w.heap.size,0,rfl,by rw [size_alloc];omega,fun j x hj=> ?_⟩⟩
 obtain ⟨rfl,rfl⟩:=one_get hj
 exact hC.cell (i:=0) (by simp)
theorem rdh_one {Q:Nat→Prop} (h:HpG Q w0 w Y D H n f R) (u:Value) (e:TypeId):RdH (w.alloc (.cells #[u] e)) Y H (.slice (some ⟨w.heap.size,0,none⟩) 1 1) [u]:=
 ⟨rds_one,fun _ b hb=>by injection hb with hb;subst hb;exact h.new (Nat.le_refl _)⟩
theorem hb_no {j:Nat} (n7:n≤120) (hj:j<n):(opF (hbD n) 26 j).1= -1:=by rw [hb_f n7 hj]
theorem hb_liv (n7:n≤120):¬Liv (hbD n) (opF (hbD n) 26) n q:=by
 rintro ⟨k,i,hk,h0,_⟩
 rw [hb_no n7 hk] at h0
 omega
theorem RvOk.sp (V:RvOk D f R n A t c kd D2 f2 D3 f3 p k i) (nn:D.n≤4096) (hr:Rsv D3 f3 n p) (k7:kd≤127) (rg3:RgS D3 26 n f3):pO p=pOff (26+32*k) c i∧hk p=k∧pK p=kd∧(f3 k).1=c∧p≠0∧p<72057594037927936∧pG p=bG (wd D2 (26+32*k) (offN c i)):=by
 have hlt:=V.rg2.lt
 have hlt3:=rg3.lt
 have n3:=V.n3
 have kn:=V.kn
 have a:=hr.at_ oM rg3
 have bd:=pOff_bd (l:=26+32*k) (i:=i) oM V.c0 V.c5 V.iN
 have hp:=hk_ptr (k:=k) (i:=i) (g:=bG (wd D2 (26+32*k) (offN c i))) (kd:=kd) V.c0 V.c5 oM V.iN
 rw [←V.p] at hp
 refine ⟨hp.1,hp.2,?_,by rw [V.f3,upF_eq],a.2.2.2.2.2.2,a.2.2.2.2.2.1,?_⟩
 ·rw [V.p];exact pK_ptr _ _ _ bd.2.1 (bG_lt _) oM
 ·rw [V.p];exact pG_ptr _ _ _ bd.2.1 (bG_lt _)
theorem k_awake23 (hG:Glob w) (K:K1) (hK:∀w',Ext w w'→K (.bool true) w'):
  callS prog 13 #[] w K:=by
 obtain ⟨b1,b2,b3,b4,b5,b6⟩:=hb_ok (n:=2) oM
 refine f13_call _ _ ?_
 unfold f13_t
 refine k_lbegin (n:=2) hG oM oM _ (fun Wb H Y w1 hav havl hlk L=> ?_)
 have h03:=(wl_cells L.bx).2.2.2.1
 have fz:(26:Int)=26:=rfl
 simp (disch:=try exact dZ) only [↓RBp,↓RA,↓reduceIte,Nat.reduceAdd,Nat.reduceMul,Nat.reduceEqDiff,RB,RX,RA2,h03]
 refine k_Reserve (L.hp.ext xZ) hav (t:=0) (x:=4) oM oM oM oM 64 oM oM oM (by simp) _ (fun _ hn _=>absurd (hn 0 oM) (by rw [hb_no oM oM];decide)) (fun D2 f2 D3 f3 p k i V w2 Y2 s2 hp2=> ?_)
 have L2:=L.st s2 hp2
 have hR:=hp2.rv p (by simp)
 have nn:(hbD 2).n≤4096:=by omega
 have n3:=V.n3
 have hlt3:=hp2.rg.lt
 have n4:26+32*2≤4096:=by omega
 have sp:=V.sp nn hR oM hp2.rg
 have kn:=V.kn
 have c1:clsN 4=1:=rfl
 have hw7:wordsS 1=7:=rfl
 have h13:=(wl_cells L2.bx).2.2.2.1
 have hr:∀q∈([]:List Nat)++ [p],q<18446744073709551616:=fun q hq=>by simp only [List.nil_append,List.mem_singleton] at hq;subst hq;omega
 have pk:=sp.2.2.1
 simp (disch:=try exact dZ) only [↓RBp,↓RA,↓reduceIte,Nat.reduceAdd,Nat.reduceMul,Nat.reduceEqDiff,RB,RX,RA2,h13]
 refine k_hWords (k:=k) (i:=i) hp2 hr kn (by rw [sp.2.2.2.1];exact V.c0) (by rw [sp.2.2.2.1];exact V.iN) oM sp.2.2.2.2.1 (by rw [sp.2.2.2.1];exact sp.1) (.inl (by simp)) _ (fun w3 e3=> ?_)
 rw [sp.2.2.2.1,c1,hw7]
 have L3:=L2.ext e3
 have h23:=(wl_cells L3.bx).2.2.2.1
 simp (disch:=try exact dZ) only [↓RBp,↓RA,↓reduceIte,Nat.reduceAdd,Nat.reduceMul,Nat.reduceEqDiff,RB,RX,RA2,h23,c_PKind,pk]
 refine k_hCheck L3.hp (p:=p) oM 0 oM _ (fun hl=>absurd hl (hR.not_liv n4 hp2.rg)) (fun _ e _ he w4 e4=> ?_)
 have L4:=L3.ext e4
 obtain rfl:=he hR
 have hSp:=fun (K:K1) hK=>L4.space (k:=0) oM K hK
 simp (disch:=try exact dZ) only [↓RBp,↓RA,↓reduceIte,Nat.reduceAdd,Nat.reduceMul,Nat.reduceEqDiff,RB,RX,RA2]
 refine hSp _ (fun B w5 e5 hB sB=> ?_)
 have L5:=L4.ext e5
 have L6:=L5.ext (Ext.alloc_self w5 (.cells #[.int .u64 (p:Int)] 27))
 have rd:=rdh_one L5.hp (.int .u64 (p:Int)) 27
 have sB6:=sB.st (HSt.of_ext Y2 H (Ext.alloc_self w5 (.cells #[.int .u64 (p:Int)] 27)))
 have x3:=V.x3
 have rv:=fun q=>rv_liv (q:=q) L.hp.rg nn V
 simp (disch:=try exact dZ) only [↓RBp,↓RA,↓reduceIte,Nat.reduceAdd,Nat.reduceMul,Nat.reduceEqDiff,RB,RX,RA2]
 refine k_Publish (keep:= [p]) (free:= []) L6.hp hlk oM sB6 (by simp) (by simp) rd (RdH.nil _ _ _) (by simp) (by simp) oM _ (fun h=> ?_) (fun h=> ?_) (fun D7 f7 w7 Y7 hd pr s7 hp7=> ?_)
 ·exact absurd ⟨by simp,by simp only [List.append_nil,List.mem_singleton];exact fun h=>sp.2.2.2.2.1 h.symm⟩ h
 ·simp at h
 have L7:=L6.st s7 hp7
 have h73:=(wl_cells L7.bx).2.2.2.1
 have lv7:∀q,Liv D7 f7 2 q↔q∈ [p]:=fun q=>by
  rw [pr.fs.liv,pr.E.liv pr.P,rv q]
  exact ⟨fun h=>h.elim id (fun h=>absurd h.1 (hb_liv oM)),.inl⟩
 have hS:=fun (w:World) (e:Ext w7 w) (K:K1) hK=>k_Stats (L7.ext e).hp K hK
 have ll:=livN_len_of hp7.rg (by have:=pr.n2;omega) (L:= [p]) (by simp) lv7
 rw [ll] at hS
 simp (disch:=try exact dZ) only [↓RBp,↓RA,↓reduceIte,Nat.reduceAdd,Nat.reduceMul,Nat.reduceEqDiff,RB,RX,RA2,h73]
 refine k_hCheck L7.hp (p:=p) oM 0 oM _ (fun _ w8 e8=> ?_) (fun hl=>absurd ((lv7 p).2 (by simp)) hl)
 rw [if_pos (Or.inl rfl)]
 have h83:=(wl_cells (L7.ext e8).bx).2.2.2.1
 simp (disch:=try exact dZ) only [↓RBp,↓RA,↓reduceIte,Nat.reduceAdd,Nat.reduceMul,Nat.reduceEqDiff,RB,RX,RA2,h83]
 refine hS w8 e8 _ (fun w9 e9=> ?_)
 have fin:=hK w9 (L7.hp.ex.trans (e8.trans e9))
 simp (disch:=try exact dZ) only [↓RBp,↓RA,↓reduceIte,Nat.reduceAdd,Nat.reduceMul,Nat.reduceEqDiff,RB,RX,RA2,List.length_singleton]
 exact fin
end
def OwnB (w0:World) (Y:Lay) (H:HL) (Wb b:Nat):Prop:=w0.heap.size≤b∧¬Y.F b∧b≠Wb∧∀x,(x=H.S∨x=H.b∨x=H.p∨x=H.rm∨x=H.hm∨x=H.B∨H.av=some x)→b≠x
def OutH (w0:World) (Y:Lay) (H:HL) (Wb:Nat) (v:Value):Prop:=∀b,v.ownBlock=some b→OwnB w0 Y H Wb b
theorem OutH.nil (w0:World) (Y:Lay) (H:HL) (Wb:Nat):OutH w0 Y H Wb (.slice none 0 0):=fun b hb=>by cases hb
section
variable {Q:Nat→Prop} {w0 w w':World} {Y Y':Lay} {D D2 D3:DS} {H:HL} {n k i p q kd Wb b m:Nat} {f f2 f3:Idx} {R R2:List Nat} {lv hd dd v:Value} {c t:Int} {T:TypeId} {L:List Value}
theorem OwnB.st (h:OwnB w0 Y H Wb b) (hb:b<w.heap.size) (s:HSt w Y H w' Y'):OwnB w0 Y' H Wb b:=
 ⟨h.1,fun hf=>(s.fr _ hf).elim h.2.1 (fun h=>by omega),h.2.2⟩
theorem OwnB.frm (h:OwnB w0 Y H Wb b):¬(Y.F b∨b=H.b∨b=H.p∨b=H.rm∨b=H.hm):=by
 obtain ⟨_,a,_,d⟩:=h
 rintro (e|e|e|e|e)
 ·exact a e
 ·exact d _ (.inr (.inl rfl)) e
 ·exact d _ (.inr (.inr (.inl rfl))) e
 ·exact d _ (.inr (.inr (.inr (.inl rfl)))) e
 ·exact d _ (.inr (.inr (.inr (.inr (.inl rfl))))) e
theorem OutH.st (h:OutH w0 Y H Wb v) (hs:SlO w T k v m L) (s:HSt w Y H w' Y'):OutH w0 Y' H Wb v∧SlO w' T k v m L:=
 ⟨fun b hb=>(h b hb).st (hs.lt hb) s,hs.frm s.frm (fun b hb=>(h b hb).frm)⟩
theorem LW.own (h:LW w0 w Wb lv hd dd Y D H n f R) (hb:w.heap.size≤b):OwnB w0 Y H Wb b:=by
 have l:=h.hp.lts
 have sz:=h.hp.ex.size
 have hw:=h.bx.lt
 have hS:=h.hp.ar.st.lt
 have hB:=h.hp.lg.lt
 refine ⟨by omega,(h.hp.new hb).1,by omega,fun x hx e=> ?_⟩
 rcases hx with a|a|a|a|a|a|a
 ·omega
 ·omega
 ·omega
 ·omega
 ·omega
 ·omega
 ·rcases h.hp.avm with ⟨g,_⟩|⟨r,g,g2,_⟩
  ·rw [g] at a;cases a
  ·rw [g] at a;injection a with a;have:=g2.lt;omega
theorem LW.new (h:LW w0 w Wb lv hd dd Y D H n f R) (hv:NewV w.heap.size v):OutH w0 Y H Wb v:=fun b hb=>h.own (hv b hb)
theorem LW.frm {G:Nat→Prop} (h:LW w0 w Wb lv hd dd Y D H n f R) (g:Frm G w w') (hG:∀x,G x→OwnB w0 Y H Wb x):LW w0 w' Wb lv hd dd Y D H n f R:=by
 have ne:∀x,(x=H.S∨x=H.b∨x=H.p∨x=H.rm∨x=H.hm∨x=H.B∨H.av=some x)→¬G x:=fun x hx hg=>(hG x hg).2.2.2 x hx rfl
 obtain ⟨M,m1,m2⟩:=h.hp.hd
 have p:=h.hp
 refine ⟨⟨p.ar.frmH g (fun x hx=> ?_),p.rg,p.hp.frm g (ne _ (.inr (.inr (.inl rfl)))),p.lg.frm g (ne _ (.inr (.inr (.inr (.inr (.inr (.inl rfl))))))),p.rs.frm g (ne _ (.inr (.inr (.inr (.inl rfl))))),⟨M,m1.frm g (ne _ (.inr (.inr (.inr (.inr (.inl rfl)))))),m2⟩,p.nd,p.rv,p.ho,p.er,p.idl,p.avm.imp id (fun ⟨r,a,b,c⟩=>⟨r,a,b.frm g (ne _ (.inr (.inr (.inr (.inr (.inr (.inr a))))))),c⟩),p.sep,p.dif,p.dt⟩,h.bx.frm g (fun hf=>(hG _ hf).2.2.1 rfl),h.n0,h.ne⟩
 have a:=hG x hx
 exact ⟨a.1,a.2.1,a.2.2.2 _ (.inr (.inl rfl)),a.2.2.2 _ (.inl rfl)⟩
theorem elP:ElT prog 25 25 27 1 8 (.int .u64 0):=el_25_25
theorem u64L_app (L:List Nat) (x:Nat):u64L (L++ [x])=u64L L++ [.int .u64 (x:Int)]:=by unfold u64L;rw [List.map_append];rfl
theorem LW.app {P:List Nat} {cs:Array Bool} {ty:TypeId} {xb xo cap:Nat} (h:LW w0 w Wb lv hd dd Y D H n f R) (o:OutH w0 Y H Wb v) (hs:SlO w 27 1 v P.length (u64L P)) (hl:P.length<1000000) (hx:w.cell? ⟨xb,xo,none⟩=some (.int .u64 (p:Int))) {K:K1}
  (hK:∀v' w',LW w0 w' Wb lv hd dd Y D H n f R→OutH w0 Y H Wb v'→SlO w' 27 1 v' (P++ [p]).length (u64L (P++ [p]))→Frm (fun b=>v.ownBlock=some b) w w'→K v' w'):
  bltS prog .append #[25,25] ty cs #[v,.slice (some ⟨xb,xo,none⟩) 1 cap] w K:=by
 refine blt_append elP hs (m:=1) (news:= [.int .u64 (p:Int)]) rfl (fun j u hj=> ?_) rfl oM oM oM (fun v' w' s2 f2 n2 _=> ?_)
 ·obtain ⟨rfl,rfl⟩:=one_get hj
  exact hx
 ·rw [←u64L_app] at s2
  refine hK v' w' (h.frm f2 (fun x hx=>o x hx)) (fun b hb=> ?_) (by rw [List.length_append];exact s2) f2
  rcases n2 b hb with e|e
  ·exact o b e
  ·exact h.own e
end
section
variable {D D2 D3 D7:DS} {f f2 f3 f7:Idx} {R P A':List Nat} {A:List Int} {n k i p q kd:Nat} {t c:Int}
theorem emG_liv (h:Liv D f n p) (hn:26+32*n≤4096) (rg:RgS D 26 n f):emG D 26 f (hk p)=none:=by
 have a:=h.at_ hn rg
 have hp:=perS_in a.1.2.1 a.1.2.2.1
 unfold emG
 rw [if_neg (by have:=a.1.2.1;omega)]
 split
 ·rfl
 ·split
  ·rename_i _ hal
   have ho:=alF_ok hal (ixP f p) (by have:=a.1.2.2.2.1;omega)
   unfold okF at ho
   simp only [Bool.and_eq_true,decide_eq_true_eq] at ho
   have:=ho.2.2.1
   have:=a.2.1.2.2.2.2
   omega
  ·rfl
theorem used_nil {l:Nat}:usedB D [] l c i=bitB (wd D l 1) i:=by unfold usedB rsB;rw [List.any_nil,Bool.or_false]
theorem bit_st (rg:RgS D 26 n f) (hk:k<n) (h0:0≤(f k).1) (hi:(i:Int)<perS (f k).1):bitB (wd D (26+32*k) 1) i= !decide (bS (wd D (26+32*k) (offN (f k).1 i))=176):=by
 have hp:=perS_in h0 (rg.cls hk).1
 rw [(rg.sn k hk h0).bit i oM,decide_eq_true hi,Bool.true_and]
structure BkS (D:DS) (f:Idx) (c:Int) (P:List Nat):Prop where
 nd:P.Nodup
 lv:∀q,Liv D f 1 q↔q∈P
 fc:P≠ []→(f 0).1=c∧(f 0).2.1=2
 g1:∀i:Nat,0≤(f 0).1→(i:Int)<perS (f 0).1→bG (wd D (26+32*0) (offN (f 0).1 i))=1
 ini:P= []→(f 0).1<0∧gX (wd D (26+32*0) 0)=1
theorem BkS.begin (c:Int):BkS (hbD 1) (opF (hbD 1) 26) c []:=by
 have hw:=(hb_ok (n:=1) oM).2.2.2.2.2 0 oM 0 oM
 rw [if_pos rfl] at hw
 have hn:=hb_no (n:=1) (j:=0) oM oM
 exact ⟨List.nodup_nil,fun q=>⟨fun h=>absurd h (hb_liv oM),fun h=>by cases h⟩,fun h=>absurd rfl h,fun i h0=>by rw [hn] at h0;omega,fun _=>⟨by rw [hn];decide,by rw [hw];exact (hd_free oM oM).2.2.2⟩⟩
theorem BkS.le (B:BkS D f c P) (rg:RgS D 26 1 f) (nn:D.n≤4096):P.length≤62:=by
 have a:=livN_len rg 1 (Nat.le_refl _)
 have b:=livN_len_of rg nn B.nd B.lv
 omega
theorem hk0 (h:Liv D f 1 p) (hn:D.n≤4096) (rg:RgS D 26 1 f):hk p=0:=by
 have hlt:=rg.lt
 have:=(h.at_ oM rg).1.1
 omega
theorem BkS.take (B:BkS D f c P) (rg:RgS D 26 1 f) (nn:D.n≤4096) (V:RvOk D f [] 1 A 2 c 64 D2 f2 D3 f3 p k i) (rg3:RgS D3 26 1 f3) (rs3:Rsv D3 f3 1 p) (pr:PubR D3 f3 1 [p] [] D7 f7):BkS D7 f7 c (P++ [p]):=by
 have hlt:=rg.lt
 have sp:=V.sp nn rs3 oM rg3
 have k0:k=0:=by have:=V.kn;omega
 subst k0
 have f30:(f3 0).1=c∧(f3 0).2.1=2:=⟨sp.2.2.2.1,by rw [V.f3,upF_eq]⟩
 have f70:(f7 0).1=c∧(f7 0).2.1=2:=⟨(pr.fs 0).1.trans f30.1,(pr.fs 0).2.trans f30.2⟩
 have lv3:∀q,Liv D3 f3 1 q↔q∈P:=fun q=>(rv_liv rg nn V).trans (B.lv q)
 have hp:p∉P:=fun h=>rs3.not_liv oM rg3 ((lv3 p).2 h)
 have g2:∀i:Nat,(i:Int)<perS c→bG (wd D2 (26+32*0) (offN c i))=1:=fun i hi=>by
  rcases V.how with ⟨e1,e2,_⟩|⟨⟨g,ok⟩,_⟩
  ·have fc:=V.fc
   rw [e2] at fc
   have:=B.g1 i (by rw [fc];exact V.c0) (by rw [fc];exact hi)
   rw [fc] at this
   rw [e1];exact this
  ·have pl:=plan_177 (t:=2) (F:=wd D (26+32*0)) V.c0 V.c5 hi ok.g6
   have e:=ok.own _ (offN_bd V.c0 V.c5 hi).2.2
   rw [pl.1] at e
   rw [e,bG_blk ok.g6 oM oM]
   by_cases hP:P= []
   ·have ini:=B.ini hP
    rcases ok.how with ⟨_,_,h⟩|⟨h,_⟩
    ·rw [h];exact ini.2
    ·exact absurd ini.1 (h 0 oM)
   ·obtain ⟨q,hq⟩:=List.exists_mem_of_ne_nil _ hP
    have lq:=(B.lv q).2 hq
    have fc:=B.fc hP
    have c0:=V.c0
    rcases ok.how with ⟨h,_⟩|⟨_,h,_⟩
    ·omega
    ·have:=emG_liv lq oM rg
     rw [hk0 lq nn rg,h] at this
     cases this
 have n2:D2.n≤4096:=by
  have:=V.n3
  rw [V.d3] at this
  have h:=run_n 0 (storesI (zW (pOff (26+32*0) c i) (wordsS c).toNat)) D2
  have h':(zeD D2 (26+32*0) c i).n=D2.n:=h
  omega
 have hlt2:=V.rg2.lt
 have z:=zero_wd V.rg2.on (l:=26+32*0) oM n2 V.c0 V.c5 V.iN
 have g3:∀i:Nat,(i:Int)<perS c→bG (wd D3 (26+32*0) (offN c i))=1:=fun i' hi=>by
  rw [V.d3,z.2.1 i' hi];exact g2 i' hi
 refine ⟨List.nodup_append.2 ⟨B.nd,by simp,fun x hx y hy e=> ?_⟩,fun q=> ?_,fun _=>f70,fun i' h0 hi=> ?_,fun h=>by simp at h⟩
 ·simp only [List.mem_singleton] at hy
  subst hy;subst e;exact hp hx
 ·rw [pr.fs.liv,pr.E.liv pr.P,lv3,List.mem_append]
  simp only [List.mem_singleton,List.not_mem_nil,not_false_iff,and_true]
  exact Or.comm
 ·rw [f70.1] at hi ⊢
  have c0:=V.c0
  have c5:=V.c5
  have bd:=pOff_bd (l:=26+32*0) (i:=i') oM c0 c5 hi
  have hq:At f3 1 (ptrN (pOff (26+32*0) c i') 1 1) 0 i':=⟨by omega,by rw [f30.1];exact c0,by rw [f30.1];exact c5,by rw [f30.1];exact hi,by rw [f30.1];exact pO_ptr _ _ _ bd.1 bd.2.1⟩
  by_cases e:ixP f3 p=i'
  ·have kp:=pr.E.kept pr.P (p:=p) (by simp)
   have s1:=(kp.sp (f:=f3) (D:=D7) oM pr.E.rg).2.2.2.2.1
   rw [sp.2.1,e,f30.1] at s1
   have s2:=(V.sp nn rs3 oM rg3).2.2.2.2.2.2
   rw [←s1,s2];exact g2 i V.iN
  ·have sm:=pr.E.same hq (fun ⟨y,hy,_,hi⟩=>by simp only [List.mem_singleton] at hy;subst hy;exact e hi) (fun ⟨y,hy,_⟩=>by cases hy)
   rw [f30.1] at sm
   rw [sm];exact g3 i' hi
theorem BkS.full (B:BkS D f c P) (rg:RgS D 26 1 f) (nn:D.n≤4096) (c0:0≤c) (c5:c<5) (h1:∀k,k<1→(f k).2.1=2→(f k).1=c→∀i:Nat,(i:Int)<perS c→usedB D [] (26+32*k) c i=true) (h2:∀j,j<1→¬(f j).1<0):P≠ []∧(f 0).1=c∧(f 0).2.1=2∧(∀i:Nat,(i:Int)<perS c→bS (wd D (26+32*0) (offN c i))=177)∧(P.length:Int)=perS c:=by
 have hP:P≠ []:=fun h=>h2 0 oM (B.ini h).1
 have fc:=B.fc hP
 have hper:=perS_in c0 c5
 have st:∀i:Nat,(i:Int)<perS c→bS (wd D (26+32*0) (offN c i))=177:=fun i hi=>by
  have u:=h1 0 oM fc.2 fc.1 i hi
  rw [used_nil] at u
  have b:=bit_st (k:=0) (i:=i) rg oM (by rw [fc.1];exact c0) (by rw [fc.1];exact hi)
  have g:=B.g1 i (by rw [fc.1];exact c0) (by rw [fc.1];exact hi)
  have gd:=(rg.sn 0 oM (by rw [fc.1];exact c0)).gd i (by rw [fc.1];exact hi)
  rw [fc.1] at b g gd
  rw [u] at b
  have b:=b.symm
  rw [Bool.not_eq_true',decide_eq_false_iff_not] at b
  rw [g] at gd
  unfold goodB at gd
  rw [if_neg b] at gd
  split at gd
  ·assumption
  ·split at gd
   ·simp at gd
   ·cases gd
 refine ⟨hP,fc.1,fc.2,st,?_⟩
 have ll:=livN_len_of rg nn B.nd B.lv
 have li:∀m:Nat,(m:Int)≤perS c→(livI D (26+32*0) c m).length=m:=by
  intro m
  induction m with
  |zero=>intro _;rfl
  |succ m ih=>
   intro hm
   have hmk:=(mk_liv rg (k:=0) oM (by rw [fc.1];exact c0) m).2 ⟨by rw [fc.1];omega,by rw [fc.1];exact st m oM⟩
   rw [fc.1] at hmk
   rw [livI,if_pos hmk,List.length_append,ih oM];rfl
 have e:livN D f 1= []++livI D (26+32*0) c (perS c).toNat:=by
  rw [livN,if_neg (h2 0 oM),fc.1];rfl
 rw [e,List.nil_append,li _ oM] at ll
 omega
structure BkF (D:DS) (f:Idx) (c:Int) (p:Nat):Prop where
 fc:(f 0).1=c∧(f 0).2.1=2
 nl:¬Liv D f 1 p
 em:emG D 26 f 0=none
 g:pG p=1
 ix:∃i0:Nat,(i0:Int)<perS c∧pO p=pOff (26+32*0) c i0∧bS (wd D (26+32*0) (offN c i0))=176∧bG (wd D (26+32*0) (offN c i0))=2∧∀i:Nat,(i:Int)<perS c→i≠i0→bS (wd D (26+32*0) (offN c i))=177
theorem BkS.free (B:BkS D f c P) (rg:RgS D 26 1 f) (nn:D.n≤4096) (c0:0≤c) (c5:c<5) (fc:(f 0).1=c∧(f 0).2.1=2) (st:∀i:Nat,(i:Int)<perS c→bS (wd D (26+32*0) (offN c i))=177) (hp:p∈P) (h2:2≤P.length) (pr:PubR D f 1 [] [p] D7 f7) (rg7:RgS D7 26 1 f7):BkF D7 f7 c p:=by
 have hlt:=rg.lt
 have lp:=(B.lv p).2 hp
 have a:=lp.at_ oM rg
 have k0:=hk0 lp nn rg
 have s:=a.2.1.sp oM rg
 have fr:=pr.E.freed pr.P (p:=p) (by simp)
 have i1:=a.1.2.2.2.1
 have o1:=a.1.2.2.2.2
 rw [k0,fc.1] at i1 o1
 rw [k0,fc.1] at fr s
 have g1:=B.g1 (ixP f p) (by rw [fc.1];exact c0) (by rw [fc.1];exact i1)
 rw [fc.1] at g1
 have gp:pG p=1:=s.2.2.2.2.1.trans g1
 rw [gp] at fr
 have f70:(f7 0).1=c∧(f7 0).2.1=2:=⟨(pr.fs 0).1.trans fc.1,(pr.fs 0).2.trans fc.2⟩
 have lv7:∀q,Liv D7 f7 1 q↔q∈P∧q≠p:=fun q=>by
  rw [pr.fs.liv,pr.E.liv pr.P,B.lv]
  simp
 refine ⟨f70,fun h=>((lv7 p).1 h).2 rfl,?_,gp,ixP f p,i1,o1,fr.2,fr.1,fun i hi ne=> ?_⟩
 ·have hq:∃q,q∈P∧q≠p:=by
   match P,h2,B.nd with
   |x::y::L,_,nd=>
    by_cases e:x=p
    ·refine ⟨y,by simp,fun e2=> ?_⟩
     rw [List.nodup_cons] at nd
     exact nd.1 (by rw [e,←e2];simp)
    ·exact ⟨x,by simp,e⟩
  obtain ⟨q,h⟩:=hq
  have lq:=(lv7 q).2 h
  have n7:=pr.n2
  have:=emG_liv lq oM rg7
  rwa [hk0 lq oM rg7] at this
 ·have bd:=pOff_bd (l:=26+32*0) (i:=i) oM c0 c5 hi
  have hq:At f 1 (ptrN (pOff (26+32*0) c i) 1 1) 0 i:=⟨by omega,by rw [fc.1];exact c0,by rw [fc.1];exact c5,by rw [fc.1];exact hi,by rw [fc.1];exact pO_ptr _ _ _ bd.1 bd.2.1⟩
  have sm:=pr.E.same hq (fun ⟨y,hy,_⟩=>by cases hy) (fun ⟨y,hy,_,h⟩=>by simp only [List.mem_singleton] at hy;subst hy;exact ne h.symm)
  rw [fc.1] at sm
  rw [sm];exact st i hi
theorem BkF.no3 (B:BkF D f c p) (c0:0≤c) (ht:t≠2) (V:RvOk D f [] 1 A t c kd D2 f2 D3 f3 q k i):False:=by
 have k0:k=0:=by have:=V.kn;omega
 subst k0
 rcases V.how with ⟨_,e2,_⟩|⟨⟨g,ok⟩,_⟩
 ·have:=V.ft
  rw [e2,B.fc.2] at this
  exact ht this.symm
 ·rcases ok.how with ⟨h,_⟩|⟨_,h,_⟩
  ·rw [B.fc.1] at h;omega
  ·rw [B.em] at h;cases h
theorem BkF.no2 (B:BkF D f c p) (rg:RgS D 26 1 f) (c0:0≤c) (h1:∀k,k<1→(f k).2.1=2→(f k).1=c→∀i:Nat,(i:Int)<perS c→usedB D [] (26+32*k) c i=true):False:=by
 obtain ⟨i0,h0,_,h,_⟩:=B.ix
 have u:=h1 0 oM B.fc.2 B.fc.1 i0 h0
 have b:=bit_st (k:=0) (i:=i0) rg oM (by rw [B.fc.1];exact c0) (by rw [B.fc.1];exact h0)
 rw [used_nil] at u
 rw [B.fc.1,u,h] at b
 cases b
theorem BkF.yes (B:BkF D f c p) (rg:RgS D 26 1 f) (nn:D.n≤4096) (V:RvOk D f [] 1 A 2 c 64 D2 f2 D3 f3 q k i) (rg3:RgS D3 26 1 f3) (rs3:Rsv D3 f3 1 q):pO q=pO p∧q≠p∧¬Liv D3 f3 1 p:=by
 have sp:=V.sp nn rs3 oM rg3
 refine (and_assoc.1 ⟨?_,fun h=>B.nl ((rv_liv rg nn V).1 h)⟩)
 have k0:k=0:=by have:=V.kn;omega
 subst k0
 have c0:=V.c0
 rcases V.how with ⟨e1,e2,_⟩|⟨⟨g,ok⟩,_⟩
 ·have u:=V.us
  rw [used_nil,e1] at u
  have b:=bit_st (k:=0) (i:=i) rg oM (by rw [B.fc.1];exact c0) (by rw [B.fc.1];exact V.iN)
  rw [B.fc.1,u] at b
  have b:=b.symm
  rw [Bool.not_eq_false',decide_eq_true_eq] at b
  obtain ⟨i0,h0,h1,h2,h3,h4⟩:=B.ix
  have e:i=i0:=Decidable.byContradiction (fun ne=>by have:=h4 i V.iN ne;omega)
  subst e
  refine ⟨by rw [sp.1,h1],fun e=> ?_⟩
  have g:=sp.2.2.2.2.2.2
  rw [e1,h3,e,B.g] at g
  cases g
 ·rcases ok.how with ⟨h,_⟩|⟨_,h,_⟩
  ·rw [B.fc.1] at h;omega
  ·rw [B.em] at h;cases h
end
noncomputable def f3_u:Code×Dec:=((Tryz.f3.body).getD .skip,(.s .o (.s .o (.s .o (.s .o (.s .o (.s .o (.x 902 (.s .o (.b (.l [9,28] 390 72057593769496128 .o))) .o))))))))
abbrev f3_e (K:K1):KF:=endK prog Tryz.f3.results.toList K
def f3_k1_o (K:K1):KF:=fun fr w=>∀σ,cP (pr (pr (pr (pr (pr (pr (pr f3_u))))))) (f3_e K) (f3_e K) nX (mixF 902 σ 0 fr) w
def f3_k1 (K:K1) (x1 x2 x7 x8 x9:Value) (w:World):Prop:=f3_k1_o K (fz 137 0 [(1,x1),(2,x2),(7,x7),(8,x8),(9,x9)]) w
def f3_l1 (K:K1) (x1 x2 x7 x8 x9 x28:Value) (w:World):Prop:=loopT [9,28] 390 (fun E=>cP (pl (pl (pr (pl (pr (pr (pr (pr (pr (pr f3_u)))))))))) E (f3_e K) (exB 0 (f3_k1_o K) nX)) (fz 137 0 [(1,x1),(2,x2),(7,x7),(8,x8),(9,x9),(28,x28)]) w
def f3_k1_t (x1 x2 x7 x8 x9:Value) (K:K1) (w:World):Prop:=
 cL 18 (pA #[x8]) w fun a w=>
 eX a 0 w fun b w=>
 eX a 1 w fun c w=>
 lN 25 x9 w fun d w=>
 cL 19 (pA #[b]) w fun e w=>
 bT .neq 3 62 64 d e w fun f w=>
 cndS f (
 K (.bool false) w) (
 cV 5 3 x1 w fun g w=>
 lN 25 x9 w fun h w=>
 bT .rem 3 68 70 g h w fun i w=>
 iA 25 x9 i w fun j w=>
 lD 27 j w fun l w=>
 cV 5 3 x2 w fun m w=>
 bC .rem 3 76 8 m w fun n w=>
 cL 16 (pA #[x7,n]) w fun o w=>
 ev prog (Instr.buildSlice 25 1 #[(0,l)]) w fun p w=>
 cL 17 (pA #[o,(.slice none 0 0),(.slice none 0 0),p]) w fun q w=>
 bC .neq 28 81 0 q w fun s w=>
 cndS s (
 K (.bool false) w) (
 nS x7 w fun t w=>
 fA 38 t 3 w fun v w=>
 lD 33 v w fun y w=>
 cL 15 (pA #[y,(.int .i64 3),x8,(.int .u8 ((64:Nat):Int))]) w fun z w=>
 eX z 0 w fun a0 w=>
 eX z 1 w fun a1 w=>
 nS x7 w fun a2 w=>
 fA 38 a2 3 w fun a3 w=>
 lD 33 a3 w fun a4 w=>
 cL 15 (pA #[a4,(.int .i64 2),x8,(.int .u8 ((64:Nat):Int))]) w fun a5 w=>
 eX a5 0 w fun a6 w=>
 eX a5 1 w fun a7 w=>
 lN 25 x9 w fun a8 w=>
 bC .gtr 3 102 1 a8 w fun a9 w=>
 bC .eql 28 104 4 a1 w fun b0 w=>
 bT .eql 4 103 105 a9 b0 w fun b1 w=>
 gV b1 true x9 w fun b2 w=>
 gd b1 true (fun k=>lN 25 b2 w k) w fun b3 w=>
 gd b1 true (fun k=>bC .eql 3 109 1 b3 w k) w fun b4 w=>
 gV b1 true b4 w fun b5 w=>
 gV b5 false a7 w fun b6 w=>
 gd b5 false (fun k=>bC .eql 28 112 0 b6 w k) w fun b7 w=>
 gV b5 false b7 w fun b8 w=>
 gV b8 true a6 w fun b9 w=>
 gV b8 true l w fun c0 w=>
 gd b8 true (fun k=>bT .neq 27 115 116 b9 c0 w k) w fun c1 w=>
 gd b5 false (fun k=>pickS b8 c1 (.bool false) w k) w fun c2 w=>
 gV b5 false c2 w fun c3 w=>
 gV c3 true a6 w fun c4 w=>
 gC c3 true 20 (pA #[c4]) w fun c5 w=>
 gV c3 true l w fun c6 w=>
 gC c3 true 20 (pA #[c6]) w fun c7 w=>
 gd c3 true (fun k=>bT .eql 26 121 123 c5 c7 w k) w fun c8 w=>
 gd b5 false (fun k=>pickS c3 c8 (.bool false) w k) w fun c9 w=>
 gd b1 true (fun k=>pickS b5 (.bool true) c9 w k) w fun d0 w=>
 pickS b1 d0 (.bool false) w fun d1 w=>
 gV d1 true x7 w fun d2 w=>
 gd d1 true (fun k=>nS d2 w k) w fun d3 w=>
 gd d1 true (fun k=>fA 38 d3 3 w k) w fun d4 w=>
 gd d1 true (fun k=>lD 33 d4 w k) w fun d5 w=>
 gV d1 true l w fun d6 w=>
 gC d1 true 21 (pA #[d5,d6,(.int .u8 ((0:Nat):Int))]) w fun d7 w=>
 gd d1 true (fun k=>bC .neq 28 134 0 d7 w k) w fun d8 w=>
 pickS d1 d8 (.bool false) w fun d9 w=>
 K d9 w))
theorem f3_k1_eq (K:K1) (x1 x2 x7 x8 x9:Value) (w:World):f3_k1 K x1 x2 x7 x8 x9 w=f3_k1_t x1 x2 x7 x8 x9 K w:=cutE fun σ=>by kernel_rfl
def f3_l1_t (x1 x2 x7 x8 x9 x28:Value) (K:K1) (E1:VP2) (w:World):Prop:=
 bC .lss 3 28 70 x28 w fun a w=>
 cndS a (
 nS x7 w fun b w=>
 fA 38 b 3 w fun c w=>
 lD 33 c w fun d w=>
 cL 15 (pA #[d,(.int .i64 2),x8,(.int .u8 ((64:Nat):Int))]) w fun e w=>
 eX e 0 w fun f w=>
 eX e 1 w fun g w=>
 bC .eql 28 39 4 g w fun h w=>
 cndS h (
 f3_k1 K x1 x2 x7 x8 x9 w) (
 bC .neq 28 41 0 g w fun i w=>
 gV i false x7 w fun j w=>
 gC i false 16 (pA #[j,(.int .i64 2)]) w fun l w=>
 gV i false f w fun m w=>
 gd i false (fun k=>ev prog (Instr.buildSlice 25 1 #[(0,m)]) w k) w fun n w=>
 gC i false 17 (pA #[l,(.slice none 0 0),n,(.slice none 0 0)]) w fun o w=>
 gd i false (fun k=>bC .neq 28 48 0 o w k) w fun p w=>
 pickS i (.bool true) p w fun q w=>
 cndS q (
 K (.bool false) w) (
 ev prog (Instr.buildSlice 25 1 #[(0,f)]) w fun s w=>
 bltS prog .append #[25,25] 25 #[false,false] (pA #[x9,s]) w fun t w=>
 bC .add 3 28 1 x28 w fun v w=>
 E1 t v w))) (
 f3_k1 K x1 x2 x7 x8 x9 w)
theorem f3_l1_rule (x1 x2 x7 x8 x9 x28:Value) (K:K1) (w:World) (I:VP2) (μ:Value→Value→World→Nat) (h0:I x9 x28 w)
  (hr:∀(x9 x28:Value) (w:World),I x9 x28 w→∀E1:VP2,(∀(y9 y28:Value) (w':World),I y9 y28 w'→μ y9 y28 w'<μ x9 x28 w→E1 y9 y28 w')→f3_l1_t x1 x2 x7 x8 x9 x28 K E1 w):f3_l1 K x1 x2 x7 x8 x9 x28 w:=
 ⟨I,μ,h0,fun σ w hI E hE=>cast kR (hr (σ 9) (σ 28) w hI E hE)⟩
def f3_t (x0 x1 x2:Value) (K:K1) (w:World):Prop:=
 cL 13 (pA #[]) w fun a w=>
 ev prog (Op.unary .not a) w fun b w=>
 cndS b (
 K (.bool false) w) (
 cL 14 (pA #[(.int .i64 1)]) w fun c w=>
 bM .eql 23 (.tmp 22) (.const (.pointer none)) c (.pointer none) w fun d w=>
 cndS d (
 K (.bool false) w) (
 cV 5 3 x0 w fun e w=>
 bC .rem 3 25 60 e w fun f w=>
 bM .add 3 (ci 1) (.tmp 26) (.int .i64 1) f w fun g w=>
 f3_l1 K x1 x2 c g (.slice none 0 0) (.int .i64 0) w))
theorem f3_call (x0 x1 x2:Value) (K:K1) (w:World) (h:f3_t x0 x1 x2 K w):callS prog 3 #[x0,x1,x2] w K:=
 call_of_txt (args:= [x0,x1,x2]) mixed Tryz.func3 f3_u.2 kR (cast kR h)
section
variable {w0 w w':World} {Y:Lay} {D:DS} {H:HL} {a b j Wb:Nat} {f:Idx} {P:List Nat} {v lv hd dd:Value} {x:Int}
theorem bk_k1 (L:LW w0 w Wb lv hd dd Y D H 1 f []) (hav:H.av=none) (hlk:H.lk=false) (B:BkS D f (clsN x) P) (hx:D.exe<800000000) (fc:(f 0).1=clsN x∧(f 0).2.1=2) (st:∀i:Nat,(i:Int)<perS (clsN x)→bS (wd D (26+32*0) (offN (clsN x) i))=177) (hlen:(P.length:Int)=perS (clsN x)) (o:OutH w0 Y H Wb v) (hs:SlO w 27 1 v P.length (u64L P)) (ha:a<256) (hb:b<256) (x1:1≤x) (x60:x≤60) (K:K1) (hK:∀w',Ext w0 w'→K (.bool true) w'):
  f3_k1 K (.int .u8 (a:Int)) (.int .u8 (b:Int)) (.pointer (some ⟨Wb,0,none⟩)) (.int .i64 x) v w:=by
 have cl:=clsN_bd x
 have hper:=perS_in cl.1 cl.2
 have hl4:4≤P.length:=by omega
 have hl62:P.length≤62:=by omega
 have nn:=L.hp.n4
 obtain ⟨bb,oo,cap,rfl,hcap⟩:=hs.isS oM
 have em:(a:Int)%(P.length:Int)=((a%P.length:Nat):Int):=by omega
 have hml:a%P.length<P.length:=Nat.mod_lt _ oM
 generalize hm:a%P.length=m at em hml
 have e8:(b:Int)%8=((b%8:Nat):Int):=by omega
 have h8:b%8<8:=Nat.mod_lt _ oM
 generalize hm8:b%8=m8 at e8 h8
 obtain ⟨p,hp⟩:∃p,P[m]? =some p:=⟨_,List.getElem?_eq_getElem hml⟩
 have hpm:p∈P:=List.mem_of_getElem? hp
 have hpu:(u64L P)[m]? =some (.int .u64 (p:Int)):=by unfold u64L;rw [List.getElem?_map,hp];rfl
 have hc:=hs.cell rfl hpu
 have hlt:=lt_of_cell hc
 have lp:=(B.lv p).2 hpm
 have p56:=(lp.at_ oM L.hp.rg).2.2
 have c3:=(wl_cells L.bx).2.2.2.1
 have c3l:=lt_of_cell c3
 have hSp:=fun (w1:World) (e:Ext w w1) (K:K1) hK=>(L.ext e).space (k:=m8) h8 K hK
 have eper:perS (clsN x)=(P.length:Int):=hlen.symm
 rw [f3_k1_eq]
 unfold f3_k1_t
 refine k_rClass x _ _ (fun h=>absurd h oM) (fun _ _=> ?_) (fun h=>absurd h oM)
 simp (disch:=try exact dZ) only [↓RBp,↓RA,↓reduceIte,Nat.reduceAdd,Nat.reduceMul,Nat.reduceEqDiff,RB,RX,RA2,c_rPer,eper,em,e8,hc]
 refine hSp _ xZ _ (fun B1 w2 e2 hB1 sB=> ?_)
 have L2:=L.ext e2
 have L3:=L2.ext (Ext.alloc_self w2 (.cells #[.int .u64 (p:Int)] 27))
 have rd:=rdh_one L2.hp (.int .u64 (p:Int)) 27
 have sB3:=sB.st (HSt.of_ext Y H (Ext.alloc_self w2 (.cells #[.int .u64 (p:Int)] 27)))
 simp (disch:=try exact dZ) only [↓RBp,↓RA,↓reduceIte,Nat.reduceAdd,Nat.reduceMul,Nat.reduceEqDiff,RB,RX,RA2]
 refine k_Publish (keep:= []) (free:= [p]) L3.hp hlk h8 sB3 (by simp) (fun q hq=>by simp only [List.mem_singleton] at hq;subst hq;exact lp) (RdH.nil _ _ _) rd (by simp) (by simp) oM _ (fun h=> ?_) (fun h=> ?_) (fun D7 f7 w7 Y7 hd7 pr s7 hp7=> ?_)
 ·exact absurd ⟨by simp,by simp only [List.nil_append,List.mem_singleton];exact fun h=>p56.2 h.symm⟩ h
 ·simp at h
 have L7:=L3.st s7 hp7
 have x7:=pr.exe
 have n7:=pr.n2
 have F:=B.free L.hp.rg nn.1 cl.1 cl.2 fc st hpm oM pr hp7.rg
 have c7:=(wl_cells L7.bx).2.2.2.1
 have c7l:=lt_of_cell c7
 simp (disch:=try exact dZ) only [↓RBp,↓RA,↓reduceIte,Nat.reduceAdd,Nat.reduceMul,Nat.reduceEqDiff,RB,RX,RA2,c7]
 refine k_Reserve (R:= []) L7.hp hav (t:=3) (x:=x) oM oM x1 x60 64 oM oM oM (by simp) _ (fun _ _ _ w8 Y8 s8 hp8=> ?_) (fun D2 f2 D3 f3 q k i V=>absurd (F.no3 cl.1 oM V) id)
 have L8:=L7.st s8 hp8
 have c8:=(wl_cells L8.bx).2.2.2.1
 have c8l:=lt_of_cell c8
 simp (disch:=try exact dZ) only [↓RBp,↓RA,↓reduceIte,Nat.reduceAdd,Nat.reduceMul,Nat.reduceEqDiff,RB,RX,RA2,c8]
 refine k_Reserve (R:= []) L8.hp hav (t:=2) (x:=x) oM oM x1 x60 64 oM oM oM (by simp) _ (fun h _ _=>absurd (F.no2 hp8.rg cl.1 h) id) (fun D2 f2 D3 f3 q k i V w9 Y9 s9 hp9=> ?_)
 have L9:=L8.st s9 hp9
 have Z:=F.yes hp8.rg oM V hp9.rg (hp9.rv q (by simp))
 have n9:=V.n3
 have hlt9:=hp9.rg.lt
 have q56:=((hp9.rv q (by simp)).at_ oM hp9.rg).2.2.2.2.2.1
 have c9:=(wl_cells L9.bx).2.2.2.1
 have c9l:=lt_of_cell c9
 have eo:=Z.1
 have ne:=Z.2.1
 have g1:(1:Int)<(P.length:Int):=by omega
 have gd1:(decide ((1:Int)<(P.length:Int))==decide ((4:Int)=4))=true:=by rw [decide_eq_true g1];rfl
 have ne1:¬(P.length:Int)=1:=by omega
 have qp:¬(q:Int)=(p:Int):=by omega
 simp (disch:=try exact dZ) only [↓RBp,↓RA,↓reduceIte,Nat.reduceAdd,Nat.reduceMul,Nat.reduceEqDiff,RB,RX,RA2,c9,c_POff,eo,gd1,ne1,qp,beq_self_eq_true]
 refine k_hCheck L9.hp (p:=p) oM 0 oM _ (fun hl=>absurd hl Z.2.2) (fun _ e he _ w10 e10=> ?_)
 have fin:=hK w10 (L9.hp.ex.trans e10)
 simp (disch:=try exact dZ) only [↓RBp,↓RA,↓reduceIte,Nat.reduceAdd,Nat.reduceMul,Nat.reduceEqDiff,RB,RX,RA2,he]
 exact fin
theorem bk_l1 (L:LW w0 w Wb lv hd dd Y (hbD 1) H 1 (opF (hbD 1) 26) []) (hav:H.av=none) (hlk:H.lk=false) (ha:a<256) (hb:b<256) (x1:1≤x) (x60:x≤60) (K:K1) (hK:∀w',Ext w0 w'→K (.bool true) w'):
  f3_l1 K (.int .u8 (a:Int)) (.int .u8 (b:Int)) (.pointer (some ⟨Wb,0,none⟩)) (.int .i64 x) (.slice none 0 0) (.int .i64 0) w:=by
 have cl:=clsN_bd x
 obtain ⟨_,_,b3,_⟩:=hb_ok (n:=1) oM
 apply f3_l1_rule (I:=fun z9 z28 w'=>∃(P:List Nat) (Y:Lay) (D:DS) (f:Idx),z28= .int .i64 (P.length:Int)∧LW w0 w' Wb lv hd dd Y D H 1 f []∧BkS D f (clsN x) P∧OutH w0 Y H Wb z9∧SlO w' 27 1 z9 P.length (u64L P)∧D.exe≤10+1340*P.length) (μ:=fun _ z _=>70-(intOf z).toNat)
 ·exact ⟨[],Y,hbD 1,_,rfl,L,BkS.begin _,OutH.nil _ _ _ _,SlO.nil _ _ _,by simp only [List.length_nil];omega⟩
 ·intros;rename_i z9 z28 w1 hI E1 hE
  obtain ⟨P,Y1,D1,f1,rfl,L1,B1,o1,hs1,hx1⟩:=hI
  have nn:=L1.hp.n4
  have hl:=B1.le L1.hp.rg nn.1
  have c3:=(wl_cells L1.bx).2.2.2.1
  have c3l:=lt_of_cell c3
  have es:(P.length:Int)+1=((P.length+1:Nat):Int):=by omega
  unfold f3_l1_t
  simp (disch:=try exact dZ) only [↓RBp,↓RA,↓reduceIte,Nat.reduceAdd,Nat.reduceMul,Nat.reduceEqDiff,RB,RX,RA2,c3]
  refine k_Reserve (R:= []) L1.hp hav (t:=2) (x:=x) oM oM x1 x60 64 oM oM oM (by simp) _ (fun h1 h2 _ w2 Y2 s2 hp2=> ?_) (fun D2 f2 D3 f3 p k i V w2 Y2 s2 hp2=> ?_)
  ·have L2:=L1.st s2 hp2
   have F:=B1.full L1.hp.rg nn.1 cl.1 cl.2 h1 h2
   have o2:=o1.st hs1 s2
   have fin:=bk_k1 L2 hav hlk B1 oM ⟨F.2.1,F.2.2.1⟩ F.2.2.2.1 F.2.2.2.2 o2.1 o2.2 ha hb x1 x60 K hK
   simp (disch:=try exact dZ) only [↓RBp,↓RA,↓reduceIte,Nat.reduceAdd,Nat.reduceMul,Nat.reduceEqDiff,RB,RX,RA2]
   exact fin
  ·have L2:=L1.st s2 hp2
   have rs:=hp2.rv p (by simp)
   have hlt2:=hp2.rg.lt
   have n3:=V.n3
   have x3:=V.x3
   have rsA:=rs.at_ oM hp2.rg
   have p56:=rsA.2.2.2.2.2
   have o2:=o1.st hs1 s2
   have hSp:=fun (w:World) (e:Ext w2 w) (K:K1) hK=>(L2.ext e).space (k:=2) oM K hK
   simp (disch:=try exact dZ) only [↓RBp,↓RA,↓reduceIte,Nat.reduceAdd,Nat.reduceMul,Nat.reduceEqDiff,RB,RX,RA2]
   refine hSp _ xZ _ (fun B2 w3 e3 hB2 sB=> ?_)
   have L3:=L2.ext e3
   have e4:=Ext.alloc_self w3 (.cells #[.int .u64 (p:Int)] 27)
   have L4:=L3.ext e4
   have rd:=rdh_one L3.hp (.int .u64 (p:Int)) 27
   have sB4:=sB.st (HSt.of_ext Y2 H e4)
   have o4:=o2.1.st o2.2 (HSt.of_ext Y2 H (e3.trans e4))
   simp (disch:=try exact dZ) only [↓RBp,↓RA,↓reduceIte,Nat.reduceAdd,Nat.reduceMul,Nat.reduceEqDiff,RB,RX,RA2]
   refine k_Publish (keep:= [p]) (free:= []) L4.hp hlk oM sB4 (by simp) (by simp) rd (RdH.nil _ _ _) (by simp) (by simp) oM _ (fun h=> ?_) (fun h=> ?_) (fun D7 f7 w7 Y7 hd7 pr s7 hp7=> ?_)
   ·exact absurd ⟨by simp,by simp only [List.append_nil,List.mem_singleton];exact fun h=>p56.2 h.symm⟩ h
   ·simp at h
   have L7:=L4.st s7 hp7
   have o7:=o4.1.st o4.2 s7
   have B7:=B1.take L1.hp.rg nn.1 V hp2.rg rs pr
   have x7:=pr.exe
   have er:rmL ([]++ [p]) [p]= []:=by simp [rmL]
   rw [er] at L7
   have e8:=Ext.alloc_self w7 (.cells #[.int .u64 (p:Int)] 27)
   have L8:=L7.ext e8
   have o8:=o7.1.st o7.2 (HSt.of_ext Y7 H e8)
   have c8:(w7.alloc (.cells #[.int .u64 (p:Int)] 27)).cell? ⟨w7.heap.size,0,none⟩=some (.int .u64 (p:Int)):=(Cells.new w7 [.int .u64 (p:Int)] 27).cell (i:=0) (by simp)
   simp (disch:=try exact dZ) only [↓RBp,↓RA,↓reduceIte,Nat.reduceAdd,Nat.reduceMul,Nat.reduceEqDiff,RB,RX,RA2]
   refine L8.app o8.1 o8.2 oM c8 (fun v' w9 L9 o9 hs9 f9=> ?_)
   simp (disch:=try exact dZ) only [↓RBp,↓RA,↓reduceIte,Nat.reduceAdd,Nat.reduceMul,Nat.reduceEqDiff,RB,RX,RA2,es]
   apply hE
   ·refine ⟨P++ [p],Y7,D7,f7,by simp,L9,B7,o9,hs9,?_⟩
    rw [List.length_append,List.length_singleton]
    omega
   ·simp only [intOf]
    omega
theorem law_back (hG:Glob w) {c a b:Nat} (hc:c<256) (ha:a<256) (hb:b<256) (K:K1) (hK:∀w',Ext w w'→K (.bool true) w'):
  callS prog 3 #[.int .u8 (c:Int),.int .u8 (a:Int),.int .u8 (b:Int)] w K:=by
 have e1:(c:Int)%60=((c%60:Nat):Int):=by omega
 have e2:1+((c%60:Nat):Int)=((1+c%60:Nat):Int):=by omega
 refine f3_call _ _ _ _ _ ?_
 unfold f3_t
 refine k_awake23 hG _ (fun w1 h1=> ?_)
 have hG1:=hG.ext h1
 simp (disch:=try exact dZ) only [↓RBp,↓RA,↓reduceIte,Nat.reduceAdd,Nat.reduceMul,Nat.reduceEqDiff,RB,RX,RA2]
 refine k_lbegin (n:=1) hG1 oM oM _ (fun Wb H Y w2 hav havl hlk L=> ?_)
 have fin:=bk_l1 (x:=((1+c%60:Nat):Int)) L hav hlk ha hb oM oM K (fun w' e=>hK w' (h1.trans e))
 simp (disch:=try exact dZ) only [↓RBp,↓RA,↓reduceIte,Nat.reduceAdd,Nat.reduceMul,Nat.reduceEqDiff,RB,RX,RA2,e1,e2]
 exact fin
end
end Go.Proofs.YtmpehclnnjgmcaaGreatDoor
