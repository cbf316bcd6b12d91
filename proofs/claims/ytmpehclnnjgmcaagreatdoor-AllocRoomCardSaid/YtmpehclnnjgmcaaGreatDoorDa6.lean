/-
  Part 6 of what the proofs of this seat share.
-/
import Derived.Test.YtmpehclnnjgmcaaGreatDoorDa5
import Derived.Test.YtmpehclnnjgmcaaGreatDoorDa2
import Derived.Test.YtmpehclnnjgmcaaGreatDoorDa4
import Derived.Test.YtmpehclnnjgmcaaGreatDoorDa3
import Derived.Test.YtmpehclnnjgmcaaGreatDoorDa1
set_option linter.unusedSimpArgs false
set_option linter.unusedVariables false
set_option maxHeartbeats 20000000
set_option maxRecDepth 100000
set_option linter.defProp false
open Go.Proofs.Tryz (prog)
open Go.RowKit (intOf)
open Bool renaming and_eq_true->cW
open Go renaming World->bb,Value->bL
open Go.Instr renaming buildSlice->ds
open Go.Sem renaming run_pure->f9
open List renaming length_append->aA,getElem_mem->bk,length_take->b0,getElem?_eq_getElem->b7,mem_singleton->b8,append_nil->b9,getD_eq_getElem?_getD->ca,length_singleton->cb,length_filter_le->ce,take_succ_eq_append_getElem->ch,map_append->cm,length_cons->cq,take_length->ct,mem_cons_of_mem->cv,mem_cons->cw,length_nil->cx,perm_ext_iff_of_nodup->cy,map_cons->cU,getElem_cons_zero->c7,mem_filter->c8,mem_append->c9,take_zero->db,filter_sublist->dm,takeWhile_append_dropWhile->dr,eq_nil_of_length_eq_zero->d5,nil_append->d8,length_map->d9,sum_cons->ei,getElem?_cons_succ->el,getD_cons_zero->eu,getD_cons_succ->ey,length_range->eF,append_assoc->eP,nodup_range->fi,length_drop->fq,filter_cons->fu,sum_append->fx,nodup_cons->fF,mem_range->f6
open Nat renaming le_refl->aB,le_trans->cF,mod_lt->ef,add_zero->en,add_assoc->f8
namespace Go.Proofs.YtmpehclnnjgmcaaGreatDoor
open Go Go.Sh
def aaY (n fr bl ws:Nat) (i:Nat):bL:= [Value.int .i64 (n:Int),.int .i64 (fr:Int),.int .i64 (bl:Int),.int .i64 (ws:Int)].getD i undef
def wsmL (f:Idx) (L:List Nat):Nat:=(L.map λp=>(wordsS (f (hk p)).1).toNat).sum
section
variable {Q:Nat->Prop} {w0 w w':bb} {Y Y':Lay} {D:DS} {H:HL} {n k i l b p fr:Nat} {c:Int} {f:Idx} {R:List Nat}
def Hm (L:List Nat) (p:Nat):wsmL f (L++ [p])=wsmL f L+(wordsS (f (hk p)).1).toNat:=by
 unfold wsmL;rw [cm,fx];simp
def gR (c:Int):(wordsS c).toNat<=60/\0<=wordsS c:=by
 by_cases h:0<=c/\c<5
 ·have:=aO h.1 h.2;omega
 ·rw [fC h];omega
def aaZ:∀(L:List Nat),wsmL f L<=60*L.length:=by
 intro L
 induction L with
 |nil=>simp [wsmL]
 |cons p L ih=>
  have:=(gR (f (hk p)).1).1;unfold wsmL at ih ⊢;simp only [cU,ei,cq];omega
def aa0:∀m,(livI D l c m).length<=m:=by
 intro m
 induction m with
 |zero=>simp [livI]
 |succ m ih=>
  rw [livI,aA];split
  ·simp;omega
  ·simp;omega
def gT (rg:RgS D 26 n f):∀m,m<=n->(livN D f m).length<=62*m:=by
 intro m
 induction m with
 |zero=>intro _;simp [livN]
 |succ m ih=>
  intro hm;have i:=ih oM;rw [livN,aA];split
  ·simp;omega
  ·have a:=aa0 (D:=D) (l:=26+32*m) (c:=(f m).1) (perS (f m).1).toNat
   have b:=aN (show 0<=(f m).1 by omega) (rg.cls (show m<n by omega)).1;omega
def aeg (h:HpS w0 w Y D H n f R) {w1:bb} (e:Ext w w1) {b1 b2 b3 b4:Nat} {g2:Nat->bL} (c1:ah w1 b1 33 1 (λ_=>hpV H)) (c4:ah w1 b4 33 1 (λ_=>hpV H)) (c2:ah w1 b2 73 4 g2) (c3:ah w1 b3 73 4 (aaY n fr 0 0)) (S:w.heap.size<=b3) (ne:b3≠b1/\b3≠b2/\b3≠b4) {x0 x7 x8 x10 x11 x12 x13 x14 x15 x16 x17 x18 x19 x20 x21 x22 x23:bL} {KN KR:List Nat->bb->Prop}
  (v:∀w',Ext w w'->w'.heap[w1.heap.size]? =some (.deferred (some []))->ah w' b2 73 4 g2->ah w' b3 73 4 (aaY n fr (livN D f n).length (wsmL f (livN D f n)))->KN [w1.heap.size] w'):
  rgT prog (.func (.func 134) #[] #[.pointer (some ⟨b4,0,none⟩)]) #[24] fg fh KN KR [] (fj x0 (.pointer (some ⟨b1,0,none⟩)) (.pointer (some ⟨b2,0,none⟩)) (.pointer (some ⟨b3,0,none⟩)) x7 x8 x10 x11 x12 x13 x14 x15 x16 x17 x18 x19 x20 x21 x22 x23) w1:=by
 have X:=h.n4;have P:=c1.lt;have J:=c2.lt;have N:=c3.lt;have L:=c4.lt;have O:=gT h.rg n (aB _);have hr:∀p∈R,p<18446744073709551616:=λp hp=>by
  have:=((h.rv p hp).kn oM h.rg).2.2.2.1;omega
 refine ⟨by kernel_rfl,λfn w2 e2 W hD E=> ?_⟩;have g:=e.trans e2;show ae prog 134 #[.func (.yield (w1.heap.size+1)) #[] #[],.pointer (some ⟨b4,0,none⟩)] w2 _;refine PB (h.ext g) (c4.ext e2) (λx=>x=w1.heap.size+1\/x=b3) (λx hx=> ?_) (λs w3=>Lp w3 (w1.heap.size+1) fn #[24] fg fh (fj x0 (.pointer (some ⟨b1,0,none⟩)) (.pointer (some ⟨b2,0,none⟩)) (.pointer (some ⟨b3,0,none⟩)) x7 x8 x10 x11 x12 x13 x14 x15 x16 x17 x18 x19 x20 x21 x22 x23) w1.heap.size .ready none/\w3.heap[w1.heap.size]? =some (.deferred (some []))/\Ext w w3/\ah w3 b1 33 1 (λ_=>hpV H)/\ah w3 b2 73 4 g2/\ah w3 b3 73 4 (aaY n fr s.length (wsmL f s))) (λ_=>False) (λw3 e3=> ?_) (λs w3 w4 hj e4=> ?_) (λs w3 hj=>h.ext hj.2.2.1) (λs p t w3 K' hl hj B _=> ?_) _ (λw3 hj=> ?_) (λw3 hf=>hf.elim)
 ·rcases hx with e1|e1
  ·exact ⟨by omega,by omega⟩
  ·exact ⟨by omega,by rw [e1];exact ne.2.2⟩
 ·exact ⟨E.ext e3,(e3.blk _ (ay hD)).trans hD,g.trans e3,c1.ext (e2.trans e3),c2.ext (e2.trans e3),c3.ext (e2.trans e3)⟩
 ·obtain ⟨j1,j2,j3,j4,j5,j6⟩:=hj;exact ⟨j1.ext e4,(e4.blk _ (ay j2)).trans j2,j3.trans e4,j4.ext e4,j5.ext e4,j6.ext e4⟩
 ·obtain ⟨j1,j2,j3,j4,j5,j6⟩:=hj;have k:Liv D f n p:=(bn h.rg).1 (by rw [hl];simp);have c:=k.at_ oM h.rg;have U:s.length<(livN D f n).length:=by rw [hl];simp
  have V:=aaZ (f:=f) s;have Q:=gR (f (hk p)).1;have es:(s.length:Int)+1=(((s++ [p]).length:Nat):Int):=by simp
  have ew:(wsmL f s:Int)+wordsS (f (hk p)).1=((wsmL f (s++ [p]):Nat):Int):=by rw [Hm];omega
  have M:wsmL f (s++ [p])<1000000000:=by rw [Hm];omega
  have T:(s++ [p]).length<1000000000:=by rw [aA,cb];omega
  refine aax j1 ?_;unfold G8 LX;refine ⟨j1,λw4 g4 A=> ?_⟩;have C:Ext w w4:=bA j3 g4 (λx hx=>by have:=e.size;omega);have k2:=(g4.block _ (ay j2) oM).trans j2;have k4:=j4.frm g4 oM;have k5:=j5.frm g4 oM;have k6:=j6.frm g4 oM;have z:w4.cell? ⟨b1,0,none⟩=some (hpV H):=k4.cell (i:=0) oM;have G:=k4.lt;have r:=λ(w5:bb) (e5:Ext w w5) (K:K1) hK=>mv (h.ext e5) hr c.1.1 c.1.2.1 c.1.2.2.2.1 (show p<18446744073709551616 by omega) c.2.2.2 c.1.2.2.2.2 (.inr k) K hK
  generalize wordsS (f (hk p)).1=wd1 at*;generalize wsmL f s=j at*;generalize hs':s.length=sl at*;refine zS1 z ?_;refine r _ (C.trans xZ) _ (λw5 e5=> ?_);have b:Ext w4 w5:=Ext.trans xZ e5;have m2:=(b.blk _ (ay k2)).trans k2;have m5:=k5.ext b;have m6:=k6.ext b;have o:=A.ext b;have z2:w5.cell? ⟨b3,2,none⟩=some (.int .i64 (sl:Int)):=m6.cell (i:=2) oM;have z3:w5.cell? ⟨b3,3,none⟩=some (.int .i64 (j:Int)):=m6.cell (i:=3) oM;have fz:=m6.frz;have I:=m6.lt;have m7:=m6.set (i:=2) (.int .i64 (((s++ [p]).length:Nat):Int)) oM;have z8:(w5.setCell ⟨b3,2,none⟩ (.int .i64 (((s++ [p]).length:Nat):Int))).cell? ⟨b3,3,none⟩=some (.int .i64 (j:Int)):=m7.cell (i:=3) oM;have q:=m7.frz 3;have m8:=m7.set (i:=3) (.int .i64 ((wsmL f (s++ [p]):Nat):Int)) oM;have a:Frm (λx=>x=b3) w5 ((w5.setCell ⟨b3,2,none⟩ (.int .i64 (((s++ [p]).length:Nat):Int))).setCell ⟨b3,3,none⟩ (.int .i64 ((wsmL f (s++ [p]):Nat):Int))):=Frm.set (F:=λx=>x=b3) (Frm.set (F:=λx=>x=b3) (Frm.refl _ w5) (p:=⟨b3,2,none⟩) _ (λ_=>rfl)) (p:=⟨b3,3,none⟩) _ (λ_=>rfl);refine zS8 z2 z3 fz z8 q es ew ew ?_;have m:=o.frm a oM;have m3:=(a.block _ (ay m2) oM).trans m2;refine ⟨m,λw6 g6 l=> ?_⟩;have d:Frm (λx=>x=w1.heap.size+1\/x=b3) w3 w6:=(((g4.mono (λx h=> .inl h)).trans (Frm.of_ext (F:=λx=>x=w1.heap.size+1\/x=b3) b) (λ_ _ h=>h)).trans a (λx _ h=> .inr h)).trans g6 (λx _ h=> .inl h);have u:=(m5.frm a (λe=>ne.2.1 e.symm)).frm g6 oM;have y:=((k4.ext b).frm a (λe=>ne.1 e.symm)).frm g6 oM;refine B w6 d ⟨l,(g6.block _ (ay m3) oM).trans m3,bA j3 d (λx hx=>by have:=e.size;omega),y,u,(m8.congr (λi hi=> ?_)).frm g6 oM⟩;rcases i with _|_|_|_|i
  ·rfl
  ·rfl
  ·rfl
  ·rfl
  ·omega
 ·obtain ⟨j1,j2,j3,j4,j5,j6⟩:=hj;refine ⟨.ready,none,by simp,j1,λw4 g4=> ?_⟩;exact v w4 (bA j3 g4 (λx h=>by have:=e.size;omega)) ((g4.block _ (ay j2) oM).trans j2) (j5.frm g4 oM) (j6.frm g4 oM)
def ah2 {b2 b3 bl ws:Nat} {g2:Nat->bL} (c2:ah w b2 73 4 g2) (c3:ah w b3 73 4 (aaY n fr bl ws)) (ne:b3≠b2) (K:K1) (hK:∀w',Frm (λx=>x=b2) w w'->K (.agg #[.int .i64 (n:Int),.int .i64 (fr:Int),.int .i64 (bl:Int),.int .i64 (ws:Int)]) w'):
  ldS prog 73 (.pointer (some ⟨b3,0,none⟩)) w λc b=>stS prog 73 (.pointer (some ⟨b2,0,none⟩)) c b λa=>ldR prog 73 (.pointer (some ⟨b2,0,none⟩)) a λr=>K r a:=by
 have x0:w.cell? ⟨b3,0,none⟩=some (.int .i64 (n:Int)):=c3.cell (i:=0) oM;have x1:w.cell? ⟨b3,1,none⟩=some (.int .i64 (fr:Int)):=c3.cell (i:=1) oM;have x2:w.cell? ⟨b3,2,none⟩=some (.int .i64 (bl:Int)):=c3.cell (i:=2) oM;have x3:w.cell? ⟨b3,3,none⟩=some (.int .i64 (ws:Int)):=c3.cell (i:=3) oM;have y0:=c2.cell (i:=0) oM;have y1:=c2.cell (i:=1) oM;have y2:=c2.cell (i:=2) oM;have y3:=c2.cell (i:=3) oM;have fz:=c2.frz;have d1:=c2.set (i:=0) (.int .i64 (n:Int)) oM;have d2:=d1.set (i:=1) (.int .i64 (fr:Int)) oM;have d3:=d2.set (i:=2) (.int .i64 (bl:Int)) oM;have d4:=d3.set (i:=3) (.int .i64 (ws:Int)) oM;have z0:((((w.setCell ⟨b2,0,none⟩ (.int .i64 (n:Int))).setCell ⟨b2,1,none⟩ (.int .i64 (fr:Int))).setCell ⟨b2,2,none⟩ (.int .i64 (bl:Int))).setCell ⟨b2,3,none⟩ (.int .i64 (ws:Int))).cell? ⟨b2,0,none⟩=some (.int .i64 (n:Int)):=d4.cell (i:=0) oM;have z1:((((w.setCell ⟨b2,0,none⟩ (.int .i64 (n:Int))).setCell ⟨b2,1,none⟩ (.int .i64 (fr:Int))).setCell ⟨b2,2,none⟩ (.int .i64 (bl:Int))).setCell ⟨b2,3,none⟩ (.int .i64 (ws:Int))).cell? ⟨b2,1,none⟩=some (.int .i64 (fr:Int)):=d4.cell (i:=1) oM;have z2:((((w.setCell ⟨b2,0,none⟩ (.int .i64 (n:Int))).setCell ⟨b2,1,none⟩ (.int .i64 (fr:Int))).setCell ⟨b2,2,none⟩ (.int .i64 (bl:Int))).setCell ⟨b2,3,none⟩ (.int .i64 (ws:Int))).cell? ⟨b2,2,none⟩=some (.int .i64 (bl:Int)):=d4.cell (i:=2) oM;have z3:((((w.setCell ⟨b2,0,none⟩ (.int .i64 (n:Int))).setCell ⟨b2,1,none⟩ (.int .i64 (fr:Int))).setCell ⟨b2,2,none⟩ (.int .i64 (bl:Int))).setCell ⟨b2,3,none⟩ (.int .i64 (ws:Int))).cell? ⟨b2,3,none⟩=some (.int .i64 (ws:Int)):=d4.cell (i:=3) oM;have g:Frm (λx=>x=b2) w ((((w.setCell ⟨b2,0,none⟩ (.int .i64 (n:Int))).setCell ⟨b2,1,none⟩ (.int .i64 (fr:Int))).setCell ⟨b2,2,none⟩ (.int .i64 (bl:Int))).setCell ⟨b2,3,none⟩ (.int .i64 (ws:Int))):=
  Frm.set (F:=λx=>x=b2) (Frm.set (F:=λx=>x=b2) (Frm.set (F:=λx=>x=b2) (Frm.set (F:=λx=>x=b2) (Frm.refl _ w) (p:=⟨b2,0,none⟩) _ (λ_=>rfl)) (p:=⟨b2,1,none⟩) _ (λ_=>rfl)) (p:=⟨b2,2,none⟩) _ (λ_=>rfl)) (p:=⟨b2,3,none⟩) _ (λ_=>rfl)
 refine VD x0 x1 x2 x3 y0 y1 y2 y3 fz z0 z1 z2 z3 z3 ?_;exact hK _ g
def aa1 (K:K1) (hK:K (.func (.func 134) #[] #[.pointer (some ⟨w.heap.size,0,none⟩)]) (w.alloc (.cells #[hpV H] 33))):ae prog 80 #[hpV H] w K:=by
 refine ZH _ _ _ ?_;unfold afS;refine zS1 @Mc ?_;exact hK
def PC (h:HpS w0 w Y D H n f R) (K:K1) (hK:∀w',Ext w w'->K (.agg #[.int .i64 (n:Int),.int .i64 (frC f n:Int),.int .i64 ((livN D f n).length:Int),.int .i64 ((wsmL f (livN D f n):Nat):Int)]) w'):
  ae prog 39 #[hpV H] w K:=by
 have ln:=Er 26 n;have z:=λ(w1:bb) (e:Ext w w1) (K:K1) (hK:∀a cap w',Ext w1 w'->K (.slice a n cap) w')=>DJ ((h.ext e).ar) K (λv w' e' _ hs=>by
  rw [ln.1] at hs;obtain ⟨a,cap,rfl⟩:=SlO.form hs;exact hK a cap w' e')
 have B:=λ(w1:bb) (e:Ext w w1) (K:K1) hK=>DI ((h.ext e).ar) K hK
 have q3:∀w1,Ext w w1->w1.cell? ⟨H.p,3,none⟩=some (stV H.S):=λw1 e=>(h.ext e).cell.2.2.2.1
 have p3:=q3 w (Ext.refl _);have ltp:=h.ltp;have cA:ah (w.alloc (.cells #[hpV H] 33)) w.heap.size 33 1 (λ_=>hpV H):=(ah.new w [hpV H] 33).congr (λi hi=>by rw [show i=0 by simpa using hi];rfl);have sA:(w.alloc (.cells #[hpV H] 33)).heap.size=w.heap.size+1:=size_alloc _ _;have cB:=ah.new (w.alloc (.cells #[hpV H] 33)) [Value.int .i64 0,.int .i64 0,.int .i64 0,.int .i64 0] 73;rw [sA] at cB;obtain ⟨wB,s⟩:∃wB,(w.alloc (.cells #[hpV H] 33)).alloc (.cells [Value.int .i64 0,.int .i64 0,.int .i64 0,.int .i64 0].toArray 73)=wB:=⟨_,rfl⟩;have I:Ext (w.alloc (.cells #[hpV H] 33)) wB:=by rw [<-s];exact Ext.alloc_self _ _
 rw [s] at cB;have sB:wB.heap.size=w.heap.size+2:=by rw [<-s,size_alloc,sA]
 have eB:Ext w wB:=(Ext.alloc_self _ _).trans I;have cA:=cA.ext I;have m:∀w1:bb,ag prog (Instr.build 73 #[(0,.int .i64 (n:Int)),(1,.int .i64 (frC f n:Int))]) w1 (.agg #[.int .i64 (n:Int),.int .i64 (frC f n:Int),.int .i64 0,.int .i64 0])=True:=λw1=>by rw [aW (pu _ _ rfl rfl w1)];simp
 have A:∀(w5:bb) (b1 b2 b3 G:Nat),b1=w.heap.size->b2=w.heap.size+1->G=frC f n->Ext wB w5->w.heap.size+2<=b3->ah w5 b3 73 4 (aaY n G 0 0)->∀x7 x8 x10 x11 x12 x13 x14 x15 x16 x17 x18 x19 x20 x21 x22:bL,
   ae prog 80 #[hpV H] w5 λL M=>rgT prog L #[24] fg fh (λrs w=>(λ(K:K1)=>ldS prog 73 (.pointer (some ⟨b3,0,none⟩)) w λQ N=>stS prog 73 (.pointer (some ⟨b2,0,none⟩)) Q N λy=>ldR prog 73 (.pointer (some ⟨b2,0,none⟩)) y λr=>K r y) (rsK K rs)) (λrs w=>(λ(K:K1)=>ldR prog 73 (.pointer (some ⟨b2,0,none⟩)) w λr=>K r w) (rsK K rs)) [] (fj (hpV H) (.pointer (some ⟨b1,0,none⟩)) (.pointer (some ⟨b2,0,none⟩)) (.pointer (some ⟨b3,0,none⟩)) x7 x8 x10 x11 x12 x13 x14 x15 x16 x17 x18 x19 x20 x21 x22 L) M:=by
  intro w5 b1 b2 b3 G e1 e2 e3 e5 Z c3 x7 x8 x10 x11 x12 x13 x14 x15 x16 x17 x18 x19 x20 x21 x22;subst e1;subst e2;subst e3;have c4:ah (w5.alloc (.cells #[hpV H] 33)) w5.heap.size 33 1 (λ_=>hpV H):=(ah.new w5 [hpV H] 33).congr (λi hi=>by rw [show i=0 by simpa using hi];rfl);have u:Ext w5 (w5.alloc (.cells #[hpV H] 33)):=Ext.alloc_self _ _;have W:=c3.lt;have st:=λ{KN KR:List Nat->bb->Prop}=>aeg (KN:=KN) (KR:=KR) (x0:=hpV H) (x7:=x7) (x8:=x8) (x10:=x10) (x11:=x11) (x12:=x12) (x13:=x13) (x14:=x14) (x15:=x15) (x16:=x16) (x17:=x17) (x18:=x18) (x19:=x19) (x20:=x20) (x21:=x21) (x22:=x22) (x23:= .func (.func 134) #[] #[.pointer (some ⟨w5.heap.size,0,none⟩)]) h (eB.trans (e5.trans u)) ((cA.ext e5).ext u) c4 ((cB.ext e5).ext u) (c3.ext u) oM ⟨by omega,by omega,by omega⟩
  refine aa1 _ ?_;refine st (λw6 e6 d6 T U=> ?_);refine ah2 T U oM (rsK K [(w5.alloc (.cells #[hpV H] 33)).heap.size]) (λw7 g7=>⟨?_,λw8 g8=> ?_⟩)
  ·have s5:(w5.alloc (.cells #[hpV H] 33)).heap.size=w5.heap.size+1:=size_alloc _ _;exact (g7.block _ (ay d6) oM).trans d6
  ·have s5:(w5.alloc (.cells #[hpV H] 33)).heap.size=w5.heap.size+1:=size_alloc _ _;have:=e5.size;exact hK w8 (bA (bA e6 g7 (λx hx=>by omega)) g8 (λx hx=>by omega))
 refine aaw _ _ _ ?_;unfold af6
 (repeat' first|refine am (λ_=> ?_) (λ_=> ?_)|refine ao ?_ ?_|refine jI p3 ?_|exact yh p3|fail)
 ·have t:(w.alloc (.cells #[hpV H] 33)).alloc (.cells #[Value.int .i64 0,.int .i64 0,.int .i64 0,.int .i64 0] 73)=wB:=s;refine z _ xZ _ (λa cap w1 e1=> ?_);have j:Ext w w1:=Ext.trans xZ e1;have l:Ext wB w1:=by
   rw [<-t];exact Ext.trans xZ e1
  have q:=q3 w1 j;have P:=(h.ext j).ltp;have r0:w1.cell? ⟨w.heap.size,0,none⟩=some (hpV H):=(cA.ext l).cell (i:=0) oM;have V:=ax r0
  (repeat' first|refine am (λ_=> ?_) (λ_=> ?_)|refine ao ?_ ?_|refine jm q r0 ?_|exact JR q r0|fail)
  ·refine B _ (j.trans xZ) _ (λw2 e2=> ?_);have b:Ext w1 w2:=Ext.trans xZ e2;have d:w2.cell? ⟨w.heap.size,0,none⟩=some (hpV H):=(cA.ext (l.trans b)).cell (i:=0) oM;have C:=ax d;have k:=q3 w2 (j.trans b);have J:=(h.ext (j.trans b)).ltp;have cN:=ah.new w2 [Value.int .i64 (n:Int),.int .i64 (frC f n:Int),.int .i64 0,.int .i64 0] 73
   (repeat' first|refine am (λ_=> ?_) (λ_=> ?_)|refine ao ?_ ?_|refine ia k d m ?_|exact Fp k d m|fail)
   refine A _ _ _ _ _ rfl (size_alloc _ _) rfl (l.trans (b.trans xZ)) (by have:=(l.trans b).size;omega) cN _ _ _ _ _ _ _ _ _ _ _ _ _ _ _
  ·have a0:=l.size;have cN:=ah.new w1 [Value.int .i64 0,.int .i64 0,.int .i64 0,.int .i64 0] 73;refine B _ (j.trans xZ) _ (λw2 e2=> ?_);have b:Ext w1 w2:=Ext.trans xZ e2;have d:w2.cell? ⟨w.heap.size,0,none⟩=some (hpV H):=(cA.ext (l.trans b)).cell (i:=0) oM;have C:=ax d;have k:=q3 w2 (j.trans b);have J:=(h.ext (j.trans b)).ltp;have c:=cN.ext e2;have ltN:=c.lt;have y0:=c.cell (i:=0) (by simp);have y1:=c.cell (i:=1) (by simp);have y2:=c.cell (i:=2) (by simp);have y3:=c.cell (i:=3) (by simp);have fz:=c.frz;have d4:=(((c.set (i:=0) (.int .i64 (n:Int)) (by simp)).set (i:=1) (.int .i64 (frC f n:Int)) (by simp)).set (i:=2) (.int .i64 0) (by simp)).set (i:=3) (.int .i64 0) (by simp);have g4:Frm (λx=>x=w1.heap.size) w2 ((((w2.setCell ⟨w1.heap.size,0,none⟩ (.int .i64 (n:Int))).setCell ⟨w1.heap.size,1,none⟩ (.int .i64 (frC f n:Int))).setCell ⟨w1.heap.size,2,none⟩ (.int .i64 0)).setCell ⟨w1.heap.size,3,none⟩ (.int .i64 0)):=Frm.set (F:=λx=>x=w1.heap.size) (Frm.set (F:=λx=>x=w1.heap.size) (Frm.set (F:=λx=>x=w1.heap.size) (Frm.set (F:=λx=>x=w1.heap.size) (Frm.refl _ w2) (p:=⟨w1.heap.size,0,none⟩) _ (λ_=>rfl)) (p:=⟨w1.heap.size,1,none⟩) _ (λ_=>rfl)) (p:=⟨w1.heap.size,2,none⟩) _ (λ_=>rfl)) (p:=⟨w1.heap.size,3,none⟩) _ (λ_=>rfl);have zA:((((w2.setCell ⟨w1.heap.size,0,none⟩ (.int .i64 (n:Int))).setCell ⟨w1.heap.size,1,none⟩ (.int .i64 (frC f n:Int))).setCell ⟨w1.heap.size,2,none⟩ (.int .i64 0)).setCell ⟨w1.heap.size,3,none⟩ (.int .i64 0)).cell? ⟨w.heap.size,0,none⟩=some (hpV H):=((cA.ext (l.trans b)).frm g4 oM).cell (i:=0) oM
   (repeat' first|refine am (λ_=> ?_) (λ_=> ?_)|refine ao ?_ ?_|refine jJ k d m y0 y1 y2 y3 fz zA zA zA ?_|exact vg k d m y0 y1 y2 y3 fz zA zA zA|fail)
   refine A _ _ _ _ _ rfl (size_alloc _ _) rfl ?_ oM (d4.congr (λi hi=> ?_)) _ _ _ _ _ _ _ _ _ _ _ _ _ _ _
   ·exact Ext.setB (Ext.setB (Ext.setB (Ext.setB (l.trans b) oM _) oM _) oM _) oM _
   ·have hi:i<4:=hi;rcases i with _|_|_|_|i
    ·rfl
    ·rfl
    ·rfl
    ·rfl
    ·omega
 ·have t:(w.alloc (.cells #[hpV H] 33)).alloc (.cells #[Value.int .i64 0,.int .i64 0,.int .i64 0,.int .i64 0] 73)=wB:=s;have cN:=ah.new wB [Value.int .i64 0,.int .i64 0,.int .i64 0,.int .i64 0] 73;rw [t];obtain ⟨wC,E⟩:∃wC,wB.alloc (.cells [Value.int .i64 0,.int .i64 0,.int .i64 0,.int .i64 0].toArray 73)=wC:=⟨_,rfl⟩;have O:wB.alloc (.cells #[Value.int .i64 0,.int .i64 0,.int .i64 0,.int .i64 0] 73)=wC:=E;rw [E] at cN;rw [O];have o:Ext wB wC:=by rw [<-E];exact Ext.alloc_self _ _
  have X:=o.size;have eC:Ext w wC:=eB.trans o;refine z _ (eC.trans xZ) _ (λa cap w1 e1=> ?_);have g:Ext wC w1:=Ext.trans xZ e1;have q:=q3 w1 (eC.trans g);have P:=(h.ext (eC.trans g)).ltp;have r0:w1.cell? ⟨w.heap.size,0,none⟩=some (hpV H):=(cA.ext (o.trans g)).cell (i:=0) oM;have V:=ax r0
  (repeat' first|refine am (λ_=> ?_) (λ_=> ?_)|refine ao ?_ ?_|refine jm q r0 ?_|exact JR q r0|fail)
  refine B _ ((eC.trans g).trans xZ) _ (λw2 e2=> ?_);have b:Ext w1 w2:=Ext.trans xZ e2;have d:w2.cell? ⟨w.heap.size,0,none⟩=some (hpV H):=(cA.ext ((o.trans g).trans b)).cell (i:=0) oM;have C:=ax d;have k:=q3 w2 ((eC.trans g).trans b);have J:=(h.ext ((eC.trans g).trans b)).ltp;have c:=cN.ext (g.trans b);rw [sB,show w.heap.size+2=w.heap.size+1+1 by omega] at c;have ltN:=c.lt;have y0:=c.cell (i:=0) (by simp);have y1:=c.cell (i:=1) (by simp);have y2:=c.cell (i:=2) (by simp);have y3:=c.cell (i:=3) (by simp);have fz:=c.frz;have d4:=(((c.set (i:=0) (.int .i64 (n:Int)) (by simp)).set (i:=1) (.int .i64 (frC f n:Int)) (by simp)).set (i:=2) (.int .i64 0) (by simp)).set (i:=3) (.int .i64 0) (by simp);have g4:Frm (λx=>x=w.heap.size+1+1) w2 ((((w2.setCell ⟨w.heap.size+1+1,0,none⟩ (.int .i64 (n:Int))).setCell ⟨w.heap.size+1+1,1,none⟩ (.int .i64 (frC f n:Int))).setCell ⟨w.heap.size+1+1,2,none⟩ (.int .i64 0)).setCell ⟨w.heap.size+1+1,3,none⟩ (.int .i64 0)):=Frm.set (F:=λx=>x=w.heap.size+1+1) (Frm.set (F:=λx=>x=w.heap.size+1+1) (Frm.set (F:=λx=>x=w.heap.size+1+1) (Frm.set (F:=λx=>x=w.heap.size+1+1) (Frm.refl _ w2) (p:=⟨w.heap.size+1+1,0,none⟩) _ (λ_=>rfl)) (p:=⟨w.heap.size+1+1,1,none⟩) _ (λ_=>rfl)) (p:=⟨w.heap.size+1+1,2,none⟩) _ (λ_=>rfl)) (p:=⟨w.heap.size+1+1,3,none⟩) _ (λ_=>rfl);have zA:((((w2.setCell ⟨w.heap.size+1+1,0,none⟩ (.int .i64 (n:Int))).setCell ⟨w.heap.size+1+1,1,none⟩ (.int .i64 (frC f n:Int))).setCell ⟨w.heap.size+1+1,2,none⟩ (.int .i64 0)).setCell ⟨w.heap.size+1+1,3,none⟩ (.int .i64 0)).cell? ⟨w.heap.size,0,none⟩=some (hpV H):=((cA.ext ((o.trans g).trans b)).frm g4 oM).cell (i:=0) oM
  (repeat' first|refine am (λ_=> ?_) (λ_=> ?_)|refine ao ?_ ?_|refine jJ k d m y0 y1 y2 y3 fz zA zA zA ?_|exact vg k d m y0 y1 y2 y3 fz zA zA zA|fail)
  refine A _ _ _ _ _ rfl (by simp only [RZ]) rfl (Ext.setB (Ext.setB (Ext.setB (Ext.setB ((o.trans g).trans b) oM _) oM _) oM _) oM _) (by simp only [RZ];omega) (by
   simp only [RZ];refine d4.congr (λi hi=> ?_);have hi:i<4:=hi;rcases i with _|_|_|_|i
   ·rfl
   ·rfl
   ·rfl
   ·rfl
   ·omega) _ _ _ _ _ _ _ _ _ _ _ _ _ _ _
end
section
variable {w0 w w':bb} {Y Y':Lay} {D:DS} {n k B:Nat} {f:Idx}
def aeh {x:Nat} (h:fK x=true) (ho:0<=hO x):0<=hC x:=by
 simp only [fK,cW,Bool.or_eq_true,decide_eq_true_eq] at h;rcases h.2 with h|h
 ·omega
 ·unfold lZ at h;simp only [cW,decide_eq_true_eq] at h;omega
def aei (h:Lv w0 w Y D) (gl:bt w0) (n0:0<n) (rg:RgS D 26 n (opF D 26)) (lg:ah w B 171 3 (lgF (Y.tb 0))) (hB:w0.heap.size<=B/\¬Y.F B) (er:∀k,k<8->D.err k=0) (O:D.cur 0=0) (dt:Y.dt=Y.tb/\∀i,Y.ids i=i) (K:K1)
  (hK:∀H w',Ext w w'->H.B=B->H.av=none->H.avl= []->H.lk=false->HpS w0 w' Y D H n (opF D 26) []->(∀x,(x=H.S\/x=H.b\/x=H.p\/x=H.rm\/x=H.hm)->w.heap.size<=x)->K (.tuple #[hpV H,.int .i64 0]) w'):
  ae prog 109 #[.iface 31 (.pointer (some ⟨Y.tb 0,0,none⟩)),.int .i64 ((26:Nat):Int),.int .i64 ((32*n:Nat):Int)] w K:=by
 have Z:=h.gd.n;have W:=rg.lt;have hq:32*n/32=n:=oM;have ln:=Er 26 n;have lk:(aX (lnL (λ_=>true) 26 n)).length=n:=by simp [ln.1]
 have m:∀w1 S b o cp,Ext w w1->w.heap.size<=S->w.heap.size<=b->ArS w0 w1 Y D S b o cp 26 n (opF D 26)->DV K (.iface 31 (.pointer (some ⟨Y.tb 0,0,none⟩))) (.int .i64 ((26:Nat):Int)) (.int .i64 ((32*n:Nat):Int)) (stV S) w1:=by
  intro w1 S b o cp e1 hS hb ar;rw [LI];unfold Bh;obtain ⟨w3,d⟩:∃w3,(w1.alloc (.map #[] 0)).alloc (.map #[] 0)=w3:=⟨_,rfl⟩;have s2:(w1.alloc (.map #[] 0)).heap.size=w1.heap.size+1:=size_alloc _ _;have s3:w3.heap.size=w1.heap.size+2:=by rw [<-d,size_alloc,s2]
  have e3:Ext w1 w3:=by rw [<-d];exact xZ
  have m1:bN .u64 w3 w1.heap.size []:=by
   refine bN.empty (clock:=0) ?_;rw [<-d,bv _ (by rw [s2];omega)];exact aQ _ _
  have m2:bN .i64 w3 (w1.heap.size+1) []:=by
   refine bN.empty (clock:=0) ?_;rw [<-d,<-s2];exact aQ _ _
  have hN:=ah.new w3 [Value.iface 31 (.pointer (some ⟨Y.tb 0,0,none⟩)),.int .i64 ((26:Nat):Int),.int .i64 ((32*n:Nat):Int),stV S,.map (some w1.heap.size),.map (some (w1.heap.size+1)),.map none,.bool false] 112;have e4:Ext w3 (w3.alloc (.cells #[Value.iface 31 (.pointer (some ⟨Y.tb 0,0,none⟩)),.int .i64 ((26:Nat):Int),.int .i64 ((32*n:Nat):Int),stV S,.map (some w1.heap.size),.map (some (w1.heap.size+1)),.map none,.bool false] 112)):=Ext.alloc_self _ _;have X:=lg.lt;have sz:=e1.size;have nF:∀x,w1.heap.size<=x->¬Y.F x:=λx hx hf=>by have:=ar.L.dv.lt hf;omega
  have a0:=ar.pl.lt (b:=b) rfl;have U:=ar.st.lt;have ok:HpS w0 (w3.alloc (.cells #[Value.iface 31 (.pointer (some ⟨Y.tb 0,0,none⟩)),.int .i64 ((26:Nat):Int),.int .i64 ((32*n:Nat):Int),stV S,.map (some w1.heap.size),.map (some (w1.heap.size+1)),.map none,.bool false] 112)) Y D ⟨S,b,o,cp,w3.heap.size,w1.heap.size,w1.heap.size+1,none,[],false,B⟩ n (opF D 26) []:=by
   refine ⟨ar.ext (e3.trans e4),rg,hN,((lg.ext e1).ext e3).ext e4,m1.ext e4,⟨[],m2.ext e4,λk _=>rfl⟩,by simp,λp hp=>(by cases hp),λk _=>rfl,er,O,.inl ⟨rfl,rfl⟩,λx hx=> ?_,?_,dt⟩
   ·have V:=h.ex.size;rcases hx with rfl|rfl|rfl|rfl|hx
    ·exact ⟨by simp only;omega,nF _ (by simp only;omega),by simp only;omega,by simp only;omega⟩
    ·exact ⟨by simp only;omega,nF _ (by simp only;omega),by simp only;omega,by simp only;omega⟩
    ·exact ⟨by simp only;omega,nF _ (by simp only;omega),by simp only;omega,by simp only;omega⟩
    ·exact ⟨hB.1,hB.2,by simp only;omega,by simp only;omega⟩
    ·cases hx
   ·simp only;omega
  have:=hK ⟨S,b,o,cp,w3.heap.size,w1.heap.size,w1.heap.size+1,none,[],false,B⟩ _ (e1.trans (e3.trans e4)) rfl rfl rfl rfl ok (λx hx=>by simp only at hx;omega);have hp:(hpV ⟨S,b,o,cp,w3.heap.size,w1.heap.size,w1.heap.size+1,none,[],false,B⟩:bL)= .pointer (some ⟨w1.heap.size+1+1,0,none⟩):=by
   show Value.pointer (some ⟨w3.heap.size,0,none⟩)=_;rw [s3]
  rw [hp] at this;refine zS0 ?_;rw [d];exact this
 refine TT _ _ _ _ _ ?_;unfold ZV;refine zS0 ?_;refine adM (l0:=26) (q:=32*n) (n:=n) h gl rg.on.off rg.on.err oM oM hq _ (λhn=>absurd (λk hk=>(rg.ag k hk).1) hn) (λ_ S b o cp w1 e1 hS hb ar=> ?_);have m:=m;refine zS0 ?_;refine DJ (ar.ext xZ) _ (λv w2 e2 nv hv=> ?_);have N:Ext w1 w2:=Ext.trans xZ e2;rw [ln.1] at hv;obtain ⟨a,cap,rfl⟩:=SlO.form hv;have R:RdS w2.heap.size w2 (.slice a n cap) (aX (lnL (λ_=>true) 26 n)):=RdS.of_slR (t:=3) (by rw [lk];exact hv);refine zS0 ?_;apply DX (I:=λz w3=>∃k:Nat,z= .int .i64 (k:Int)/\k<=n/\Ext w2 w3) (μ:=λz _=>n-(intOf z).toNat)
 ·exact ⟨0,rfl,by omega,xZ⟩
 ·intros;rename_i w3 hI E1 G;obtain ⟨k,rfl,hk,e3⟩:=hI;have l:=N.trans e3;have y:=ar.ext l;have h3:=h.ext (e1.trans l);by_cases hkn:k<n
  ·have T:(aX (lnL (λ_=>true) 26 n))[k]? =some (.int .i64 ((26+32*k:Nat):Int)):=by
    rw [aX,List.getElem?_map,ln.2 k hkn];rfl
   obtain ⟨sb,so,sc,g,hc⟩:=(R.ext e3).get T;rw [lk] at g;injection g with g _ ev2;subst g;subst ev2;have ek:(k:Int)+1=((k+1:Nat):Int):=oM;have ha:=rg.ag k hkn;have u:∀w4,Ext w3 w4->E1 (.int .i64 ((k+1:Nat):Int)) w4:=λw4 e4=>by
    apply G
    ·exact ⟨k+1,rfl,by omega,e3.trans e4⟩
    ·simp [intOf];omega
   have f:=λ(w4:bb) (e:Ext w3 w4) (K:K1) hK=>Ty (y.ext e) hkn K hK
   have ho:(opF D 26 k).2.1=hO (wd D (26+32*k) 0):=rfl;have j:(opF D 26 k).1=hC (wd D (26+32*k) 0):=rfl;by_cases hneg:(opF D 26 k).2.1<0
   ·generalize (opF D 26 k).2.1=ow at*;unfold nK;refine zS1 hc ?_;refine f _ xZ _ (λw4 e4=> ?_);refine zS1 hneg ?_;rw [wY];unfold sk;refine zS1 ek ?_;exact u _ (Ext.trans xZ (e4.trans xZ))
   ·have s:0<=hC (wd D (26+32*k) 0):=aeh ha.1 (by rw [<-ho];omega);have c5:=(rg.cls hkn).1;have hs:=rg.sn k hkn (by rw [j];exact s);have r:=hs.con h.gd oM (by rw [j];exact s) c5;have C:=gl.ext h3.ex;have Q:Cx w3 Y D (26+32*k) (hC (wd D (26+32*k) 0)):=⟨h3.dv,h3.gd,C,rg.on.off,by omega,s,by rw [<-j];exact c5⟩;have J:=λ(w4:bb) (e:Ext w3 w4) (K:K1) (hK:∀w5,Ext w4 w5->K (.tuple #[chV Y (26+32*k) (hC (wd D (26+32*k) 0)) (hO (wd D (26+32*k) 0)) (gX (wd D (26+32*k) 0)),.int .i64 0]) w5)=>pS (h3.dv.ext e) h3.gd (C.ext e) rg.on.off rg.on.err (26+32*k) oM ha.1 K (λw5 e5=>by
     rw [if_neg oM];exact hK w5 e5)
    have M:=λ(w4:bb) (e:Ext w3 w4) (K:K1) (hK:∀w',Ext w4 w'->K (.int .i64 0) w')=>adE (Q.ext e) (er 0 oM) (hO (wd D (26+32*k) 0)) (gX (wd D (26+32*k) 0)) K (λw5 e5=>by
     rw [j,ho] at r;rw [if_pos r];exact hK w5 e5)
    rw [ho] at hneg f;generalize hC (wd D (26+32*k) 0)=cc at*;generalize hO (wd D (26+32*k) 0)=ow at*;generalize gX (wd D (26+32*k) 0)=gg at*;unfold nK;refine zS1 hc ?_;refine f _ xZ _ (λw4 e4=> ?_);have A:Ext w3 w4:=Ext.trans xZ e4;refine zS1 hneg ?_;refine J _ (A.trans xZ) _ (λw5 e5=> ?_);have E:Ext w3 w5:=A.trans (Ext.trans xZ e5);have hN:=ah.new w5 [Value.iface 31 (.pointer (some ⟨Y.tb 0,0,none⟩)),.int .i64 ((26+32*k:Nat):Int),.int .i64 cc,.int .i64 ow,.int .u16 (gg:Int)] 134;have c:=chD hN;have g0:=c.1;have g1:=c.2.1;have g2:=c.2.2.1;have g3:=c.2.2.2.1;have g4:=c.2.2.2.2;refine fJ g0 g1 g2 g3 g4 g4 ?_;refine M _ (E.trans xZ) _ (λw6 e6=> ?_);refine zS0 ?_;rw [wY];unfold sk;refine zS1 ek ?_;exact u _ (E.trans (Ext.trans xZ (e6.trans xZ)))
  ·have P:k=n:=oM;subst P;unfold nK;refine zS0 ?_;exact m w3 S b o cp (e1.trans l) hS hb y
end
section
variable {w0 w w':bb} {Y:Lay} {D D2:DS} {S b o cp l0 n k g:Nat} {f f2:Nat->Int×Int×Bool} {c t:Int}
def aa2 (on:On D) (gd:aM D) (hl:l0+32*n<=D.n):∀m,m<=n->∀k,k<n->∀i,i<256->wd (jq D l0 m) (l0+32*k) i=if i=0/\k<m then sealN (hdX (-1) (-1) 1) else wd D (l0+32*k) i
 |0,_,k,hk,i,hi=>by rw [if_neg oM];rfl
 |m+1,hm,k,hk,i,hi=>by
  obtain ⟨h1,h2,h3,h4⟩:=nE on gd hl m oM;have ih:=aa2 on gd hl m oM k hk i hi;have cg:=nC h1 h2 (l:=l0+32*m) (g:=1) oM oM;have cc:=ui (l:=l0+32*m) (g:=1) h1.off h1.err oM cg.1.err;have w1:=λl'=>YT (l':=l') cc.1
  show wd ((jq D l0 m).run 0 (dC (l0+32*m) 1)) (l0+32*k) i=_;by_cases e:k=m
  ·subst e;rw [(w1 0).1 i hi,ih];by_cases h0:i=0
   ·rw [if_pos h0,if_pos oM]
   ·rw [if_neg h0,if_neg oM,if_neg oM]
  ·rw [(w1 (l0+32*k)).2 oM i hi,ih];by_cases h0:i=0/\k<m
   ·rw [if_pos h0,if_pos oM]
   ·rw [if_neg h0,if_neg oM]
def yp.al (h:yp D l0 n f c t D2 f2 k g) (c0:0<=c) (c5:c<5):alF D2 (l0+32*k) c (perS c).toNat=true:=by
 refine ahG (λi hi=> ?_);have hp:=aN c0 c5;have a:(i:Int)<perS c:=oM;have bd:=aK c0 c5 a;have h1:=h.own (offN c i) bd.2.2;have h2:=h.own 1 oM;have e1:jQ c t g (wd D (l0+32*k)) (offN c i)=sealN (dT g 0 176):=by
  unfold jQ;rw [if_neg oM,if_pos (nG.2 ⟨i,hi,rfl⟩)]
 have e2:jQ c t g (wd D (l0+32*k)) 1=0:=by
  unfold jQ;rw [if_neg oM,if_neg,if_pos oM];intro hb;obtain ⟨q,hq,he⟩:=nG.1 hb;have:=aK c0 c5 (show (q:Int)<perS c by omega);omega
 unfold okF;rw [h1,h2,e1,e2,kK h.g6 oM oM,aiD,rS h.g6 oM oM,vV h.g6 oM oM];have:=h.g0;simp [this]
end
def hlD (n:Nat):DS:=(DS.zero (26+32*n)).run 0 (aF [(0,0)])
def hbD (n:Nat):DS:=jq (hlD n) 26 n
def wlF (Y:Lay) (H:HL) (n:Nat) (lv hd dd:bL) (i:Nat):bL:= [Value.pointer (some ⟨Y.d,0,none⟩),.pointer (some ⟨Y.tb 0,0,none⟩),.pointer (some ⟨H.B,0,none⟩),hpV H,.int .i64 (n:Int),lv,hd,dd].getD i undef
section
variable {w0 w w':bb} {Y Y':Lay} {D:DS} {n k B:Nat} {f:Idx}
def aa3 (n7:n<=120):On (hlD n)/\aM (hlD n)/\(hlD n).n=26+32*n/\(hlD n).exe<=3/\(∀j,(hlD n).err j=0)/\∀j,(hlD n).cur j=0:=by
 have zn:(DS.zero (26+32*n)).n=26+32*n:=rfl;have h1:=On.stores (On.zero (26+32*n)) [(0,0)] (λx hx=>by
  simp only [b8] at hx;subst hx;exact ⟨rfl,show 0<(26+32*n)*64 by omega⟩)
 have zc:∀j,(DS.zero (26+32*n)).cur j=0:=λj=>by
  show (List.replicate (8*(26+32*n)) 0).getD j 0=0;rw [ca,List.getElem?_replicate];split<;>rfl
 refine ⟨h1.1,aM.run 0 oM _ _ (aM.zero _ oM oM) (bI (λx hx=>by simp only [b8] at hx;subst hx;simp only;omega)),gK 0 _ _,?_,λj=> ?_,λj=> ?_⟩
 ·have a:=gA 0 (aF [(0,0)]) (DS.zero (26+32*n));have b:=ba [((0:Nat),(0:Nat))];have c:(DS.zero (26+32*n)).exe=0:=rfl;unfold hlD;simp only [cb] at b;omega
 ·by_cases e:j=0
  ·subst e;exact h1.1.err
  ·unfold hlD;rw [gD e];rfl
 ·unfold hlD;rw [h1.2];simp only [aI,List.foldl_cons,List.foldl_nil];split
  ·rfl
  ·exact zc j
def aej (on:On D) (gd:aM D) (hl:26+32*n<=D.n):∀m,m<=n->(∀j,(jq D 26 m).err j=D.err j)/\(jq D 26 m).cur 0=D.cur 0:=by
 intro m
 induction m with
 |zero=>intro _;exact ⟨λ_=>rfl,rfl⟩
 |succ m ih=>
  intro hm;have i:=ih oM;obtain ⟨h1,h2,h3,h4⟩:=nE on gd hl m oM;have cg:=nC h1 h2 (l:=26+32*m) (g:=1) oM oM;have cc:=ui (l:=26+32*m) (g:=1) h1.off h1.err oM cg.1.err;refine ⟨λj=> ?_,?_⟩
  ·show ((jq D 26 m).run 0 (dC (26+32*m) 1)).err j=_;by_cases e:j=0
   ·subst e;rw [cg.1.err,on.err]
   ·rw [gD e];exact i.1 j
  ·show ((jq D 26 m).run 0 (dC (26+32*m) 1)).cur 0=_;rw [cc.1];simp only;rw [if_neg oM];exact i.2
def qk (n7:n<=120):RgS (hbD n) 26 n (opF (hbD n) 26)/\(hbD n).n=26+32*n/\(hbD n).exe<=3+3*n/\(∀j,(hbD n).err j=0)/\(hbD n).cur 0=0/\∀k,k<n->∀i,i<256->wd (hbD n) (26+32*k) i=if i=0 then sealN (hdX (-1) (-1) 1) else 0:=by
 obtain ⟨a1,a2,a3,a4,a5,a6⟩:=aa3 n7;have a:26+32*n<=(hlD n).n:=oM;obtain ⟨h1,h2,h3,h4⟩:=nE a1 a2 a n (aB _);have fr:=aej a1 a2 a n (aB _);have hw:∀k,k<n->∀i,i<256->wd (hbD n) (26+32*k) i=if i=0 then sealN (hdX (-1) (-1) 1) else 0:=λk hk i hi=>by
  have:=aa2 a1 a2 a n (aB _) k hk i hi;unfold hbD;rw [this];by_cases e:i=0
  ·rw [if_pos ⟨e,hk⟩,if_pos e]
  ·rw [if_neg oM,if_neg e];unfold wd;exact a6 _
 have b:=Dm (g:=1) oM oM;refine ⟨⟨h1,h2,by unfold hbD;rw [h3];exact a,λk hk=> ?_,λk hk hh=> ?_⟩,by unfold hbD;rw [h3,a3],by unfold hbD;omega,λj=>by unfold hbD;rw [fr.1,a5],by unfold hbD;rw [fr.2,a6],hw⟩
 ·refine ⟨?_,rfl,rfl⟩;rw [hw k hk 0 oM,if_pos rfl];exact b.1
 ·have hh:0<=hC (wd (hbD n) (26+32*k) 0):=hh;rw [hw k hk 0 oM,if_pos rfl,b.2.1] at hh;exact absurd hh (by decide)
def aki {k:Nat} (n7:n<=120) (hk:k<n):opF (hbD n) 26 k=(-1,-1,false):=by
 have hw:=(qk n7).2.2.2.2.2 k hk 0 oM;rw [if_pos rfl] at hw;have a:=Dm (g:=1) oM oM;unfold opF;rw [hw,a.2.1,a.2.2.1]
def PD (h:Lv w0 w Y D) (gl:bt w0) (n0:0<n) (rg:RgS D 26 n (opF D 26)) (er:∀k,k<8->D.err k=0) (j:D.cur 0=0) (dt:Y.dt=Y.tb/\∀i,Y.ids i=i) (K:K1)
  (hK:∀Wb H w',Ext w w'->w.heap.size<=Wb->ah w' Wb 38 8 (wlF Y H n (.slice none 0 0) (.slice none 0 0) (.slice none 0 0))->H.av=none->H.avl= []->H.lk=false->HpS w0 w' Y D H n (opF D 26) []->(¬Y.F Wb/\Wb≠H.b/\Wb≠H.p/\Wb≠H.rm/\Wb≠H.hm)->(∀x,(x=H.S\/x=H.b\/x=H.p\/x=H.rm\/x=H.hm\/x=H.B\/H.av=some x)->w.heap.size<=x)->K (.pointer (some ⟨Wb,0,none⟩)) w'):
  ae prog 57 #[.pointer (some ⟨Y.d,0,none⟩),.int .i64 (n:Int)] w K:=by
 have v:=h.gd.n;have u:=rg.lt;have e0:(32:Int)*(n:Int)=((32*n:Nat):Int):=oM;have hT:∀(w1:bb) (K:K1),Ext w w1->ae prog 50 #[.pointer (some ⟨Y.d,0,none⟩),.int .i64 0] w1 K=K (.pointer (some ⟨Y.tb 0,0,none⟩)) w1:=λw1 K e=>by rw [<-dt.1];exact vx (h.dv.ext e) 0 oM K
 have m:=λ(w1:bb) (e:Ext w w1) (K:K1) hK=>adZ (h.dv.ext e) h.gd oM rfl K hK
 have t:=λ(w1:bb) (e:Ext w w1) (B:Nat) hC (K:K1) hK=>LR (B:=B) (h.dv.ext e) h.gd oM rfl hC rg.on.off rg.on.err j K hK
 refine aaU _ _ _ _ ?_;unfold agh;refine jI hT ?_;refine m _ xZ _ (λB w1 e1 hB lg=> ?_);have l:Ext w w1:=Ext.trans xZ e1;have r:w.heap.size<=B:=by simpa only [RZ] using hB
 refine zS0 ?_;refine t _ (l.trans xZ) B (lg.ext xZ) _ (λw2 e2=> ?_);have f:Ext w w2:=l.trans (Ext.trans xZ e2);have o:=lg.ext (Ext.trans xZ e2);have nB:w0.heap.size<=B/\¬Y.F B:=⟨by have:=h.ex.size;omega,λhf=>by have:=h.dv.lt hf;omega⟩;refine zS1 e0 ?_;refine aei (h.ext (f.trans xZ)) gl n0 rg (o.ext xZ) nB er j dt _ (λH w3 e3 q h1 h2 h3 hp c=> ?_);have g:Ext w w3:=f.trans (Ext.trans xZ e3);subst q;have sz:=g.size;have a:=f.size;have hN:=ah.new w3 [Value.pointer (some ⟨Y.d,0,none⟩),.pointer (some ⟨Y.tb 0,0,none⟩),.pointer (some ⟨H.B,0,none⟩),hpV H,.int .i64 (n:Int),.slice none 0 0,.slice none 0 0,.slice none 0 0] 38;have e4:Ext w3 (w3.alloc (.cells #[Value.pointer (some ⟨Y.d,0,none⟩),.pointer (some ⟨Y.tb 0,0,none⟩),.pointer (some ⟨H.B,0,none⟩),hpV H,.int .i64 (n:Int),.slice none 0 0,.slice none 0 0,.slice none 0 0] 38)):=Ext.alloc_self _ _;have s:=hK w3.heap.size H _ (g.trans e4) sz hN h1 h2 h3 (hp.ext e4) (hp.new (aB _)) (λx hx=>by
  rcases hx with hx|hx|hx|hx|hx|rfl|hx
  ·exact cF (by simpa only [RZ] using a) (c x (.inl hx))
  ·exact cF (by simpa only [RZ] using a) (c x (.inr (.inl hx)))
  ·exact cF (by simpa only [RZ] using a) (c x (.inr (.inr (.inl hx))))
  ·exact cF (by simpa only [RZ] using a) (c x (.inr (.inr (.inr (.inl hx)))))
  ·exact cF (by simpa only [RZ] using a) (c x (.inr (.inr (.inr (.inr hx)))))
  ·exact r
  ·rw [h1] at hx;cases hx)
 simp (disch:=try exact dZ) only [↓RBp,↓RA,↓reduceIte,Nat.reduceAdd,Nat.reduceMul,Nat.reduceEqDiff,RB,RX,RA2,List.getElem?_toArray,el,List.getElem?_cons_zero,Option.isSome_some,Bool.and_self,List.setIfInBounds_toArray,List.set_cons_succ,List.set_cons_zero];exact s
def aa4 (hG:bt w) (n0:0<n) (n7:n<=120) (K:K1)
  (hK:∀Wb H Y w',Ext w w'->w.heap.size<=Wb->ah w' Wb 38 8 (wlF Y H n (.slice none 0 0) (.slice none 0 0) (.slice none 0 0))->H.av=none->H.avl= []->H.lk=false->HpS w w' Y (hbD n) H n (opF (hbD n) 26) []->(¬Y.F Wb/\Wb≠H.b/\Wb≠H.p/\Wb≠H.rm/\Wb≠H.hm)->K (.pointer (some ⟨Wb,0,none⟩)) w'):
  ae prog 14 #[.int .i64 (n:Int)] w K:=by
 obtain ⟨a1,a2,a3,a4,a5,a6⟩:=aa3 n7;obtain ⟨b1,b2,b3,b4,b5,b6⟩:=qk n7;have zn:(DS.zero (26+32*n)).n=26+32*n:=rfl;have zx:(DS.zero (26+32*n)).exe=0:=rfl;have e0:(32:Int)*(n:Int)=((32*n:Nat):Int):=oM;have e1:(26:Int)+((32*n:Nat):Int)=((26+32*n:Nat):Int):=oM;have hz:=On.zero (26+32*n);have h:=aM.zero (26+32*n) oM oM;have l:32*n/32=n:=oM;refine aaJ _ _ _ ?_;unfold aga;refine zS2 e0 e1 ?_;refine aiC (26+32*n) oM oM _ (λw1 Y he hd hF g=> ?_);have L1:Lv w w1 Y (DS.zero (26+32*n)):=⟨hd,h,he.trans xZ,hF⟩;have hT:∀(w2:bb) (K:K1),Ext w1 w2->ae prog 50 #[.pointer (some ⟨Y.d,0,none⟩),.int .i64 0] w2 K=K (.pointer (some ⟨Y.tb 0,0,none⟩)) w2:=λw2 K e=>by rw [<-g.1];exact vx (hd.ext e) 0 oM K
 have r:=λ(w2:bb) (e:Ext w1 w2) (K:K1) hK=>T6 (L1.ext e).dv h hz (by rw [zn];omega) (by rw [zx];omega) rfl K hK
 have f:∀w2 w3 Y2,Ext w1 w2->Stp w2 Y w3 Y2 (hlD n)->∀(w4:bb) (K:K1),Ext w3 w4->(∀w5 Y5,Stp w4 Y2 w5 Y5 (hbD n)->K (.int .i64 0) w5)->ae prog 63 #[.iface 31 (.pointer (some ⟨Y.tb 0,0,none⟩)),.int .i64 ((26:Nat):Int),.int .i64 ((32*n:Nat):Int)] w4 K:=λw2 w3 Y2 e2 st w4 K e4 o=>by
  have L3:=((L1.ext e2).step st a2).ext e4;rw [<-show Y2.tb=Y.tb from st.tb];refine Zm _ _ _ _ _ ?_;unfold afL;refine TA (l0:=26) (q:=32*n) L3 hG a1 a2 oM oM oM _ (λw5 Y5 s5=> ?_);rw [l] at s5;exact o w5 Y5 s5
 have a:∀w2 w3 Y2 w4 w5 Y5,Ext w1 w2->Stp w2 Y w3 Y2 (hlD n)->Ext w3 w4->Stp w4 Y2 w5 Y5 (hbD n)->∀(w6:bb),Ext w5 w6->ae prog 57 #[.pointer (some ⟨Y.d,0,none⟩),.int .i64 (n:Int)] w6 K:=λw2 w3 Y2 w4 w5 Y5 e2 st e4 s5 w6 e6=>by
  have L3:=((L1.ext e2).step st a2).ext e4;have L5:=(L3.step s5 b1.gd).ext e6;have hd2:Y5.d=Y.d:=s5.d.trans st.d;rw [<-hd2];have m:Y5.dt=Y5.tb/\∀i,Y5.ids i=i:=by
   rw [s5.y,st.y];exact g
  exact PD L5 hG n0 b1 (λk _=>b4 k) b5 m K (λWb H w' e7 hW c h1 h2 h3 hp ne _=>hK Wb H Y5 w' (L5.ex.trans e7) (cF L5.ex.size hW) c h1 h2 h3 hp ne)
 refine ia hT e0 e1 ?_;refine r _ xZ _ (λw3 Y2 st=> ?_);have j:Stp w1 Y w3 Y2 (hlD n):=st;have f:=f w1 w3 Y2 (Ext.refl _) j;have a:=a w1 w3 Y2;refine ia hT e0 e1 ?_;refine f _ _ xZ (λw5 Y5 s5=> ?_);refine zS0 ?_;exact a _ w5 Y5 (Ext.refl _) j xZ s5 _ xZ
end
section
variable {D D2 D3:DS} {f f2 f3:Idx} {R:List Nat} {n k i p q kd:Nat} {A:List Int} {t c:Int}
def aa5 (rg:RgS D 26 n f) (nn:D.n<=4096) (hk:k<n) (h0:0<=(f k).1) (hi:(i:Int)<perS (f k).1) (hf:∀j,(f3 j).1=(f j).1):Liv (zeD D (26+32*k) (f k).1 i) f3 n q↔Liv D f n q:=by
 have c:=rg.lt;have z:=uq rg.on (l:=26+32*k) oM nn h0 (rg.cls hk).1 hi;have e:∀j i',j<n->0<=(f j).1->((i':Nat):Int)<perS (f j).1->wd (zeD D (26+32*k) (f k).1 i) (26+32*j) (offN (f j).1 i')=wd D (26+32*j) (offN (f j).1 i'):=λj i' hj b a=>by
  by_cases e:j=k
  ·subst e;exact z.2.1 i' a
  ·exact z.2.2 _ oM _ (aK b (rg.cls hj).1 a).2.2
 constructor
 ·rintro ⟨j,i',a1,a2,a3,a4,a5⟩;rw [hf] at a2 a3 a4 a5;rw [e j i' a1 a2 a3] at a4 a5;exact ⟨j,i',a1,a2,a3,a4,a5⟩
 ·rintro ⟨j,i',a1,a2,a3,a4,a5⟩;rw [<-e j i' a1 a2 a3] at a4 a5;refine ⟨j,i',a1,?_,?_,?_,?_⟩<;>rw [hf]<;>assumption
def xA {g:Nat} {F:Nat->Nat} (c0:0<=c) (c5:c<5) (hi:(i:Int)<perS c) (g6:g<65536):jQ c t g F (offN c i)=sealN (dT g 0 176)/\bS (sealN (dT g 0 176))=176:=by
 have hp:=aN c0 c5;have bd:=aK c0 c5 hi;refine ⟨?_,rS g6 oM oM⟩;unfold jQ;rw [if_neg oM,if_pos (nG.2 ⟨i,by omega,rfl⟩)]
def Ml (rg:RgS D 26 n f) (nn:D.n<=4096) (V:qe D f R n A t c kd D2 f2 D3 f3 p k i):Liv D3 f3 n q↔Liv D f n q:=by
 have l:=rg.lt;have n2:D2.n<=4096:=by
  have:=V.n3;rw [V.d3] at this;have h:=gK 0 (aF (zW (pOff (26+32*k) c i) (wordsS c).toNat)) D2;have h':(zeD D2 (26+32*k) c i).n=D2.n:=h;omega
 have hz:Liv D3 f3 n q↔Liv D2 f2 n q:=by
  rw [V.d3,<-V.fc];refine aa5 V.rg2 n2 V.kn (by rw [V.fc];exact V.c0) (by rw [V.fc];exact V.iN) (λj=> ?_);rw [V.f3];by_cases e:j=k
  ·subst e;rw [cS,V.fc]
  ·rw [dN _ _ e]
 rw [hz];rcases V.how with ⟨e1,e2,_⟩|⟨⟨g,ok⟩,_⟩
 ·rw [e1,e2]
 ·have old:∀j,j≠k->f2 j=f j:=λj hj=>by rw [ok.fe,dN _ _ hj]
  have wo:∀j i',j<n->j≠k->0<=(f j).1->((i':Nat):Int)<perS (f j).1->wd D2 (26+32*j) (offN (f j).1 i')=wd D (26+32*j) (offN (f j).1 i'):=λj i' hj a h0 d=>ok.oth j hj a _ (aK h0 (rg.cls hj).1 d).2.2
  constructor
  ·rintro ⟨j,i',a1,a2,a3,a4,a5⟩;by_cases e:j=k
   ·subst e;rw [V.fc] at a3 a5;rw [ok.own _ (aK V.c0 V.c5 a3).2.2] at a5;have:=xA (t:=t) (F:=wd D (26+32*j)) V.c0 V.c5 a3 ok.g6;rw [this.1,this.2] at a5
    cases a5
   ·rw [old j e] at a2 a3 a4 a5;rw [wo j i' a1 e a2 a3] at a4 a5;exact ⟨j,i',a1,a2,a3,a4,a5⟩
  ·rintro ⟨j,i',a1,a2,a3,a4,a5⟩;by_cases e:j=k
   ·subst e;rcases ok.how with ⟨h,_⟩|⟨_,h,_⟩
    ·omega
    ·unfold emG at h;rw [if_neg oM] at h;split at h
     ·cases h
     ·split at h
      ·rename_i _ b;have ho:=Lk b i' oM;unfold okF at ho;simp only [cW,decide_eq_true_eq] at ho;have:=ho.2.2.1;omega
      ·cases h
   ·rw [<-wo j i' a1 e a2 a3] at a4 a5;refine ⟨j,i',a1,?_,?_,?_,?_⟩<;>rw [old j e]<;>assumption
def Rsv.not_liv (h:Rsv D f n p) (hn:26+32*n<=4096) (rg:RgS D 26 n f):¬Liv D f n p:=λhl=>by
 have a:=(h.at_ hn rg).2.1;have b:=(hl.at_ hn rg).2.1.2.2.2.2;omega
def ql {l:Nat} (c0:0<=c) (c5:c<5) (hl:l<=4096):∀m:Nat,(m:Int)<=perS c->(livI D l c m).Nodup/\∀p∈livI D l c m,∃i:Nat,i<m/\pO p=pOff l c i:=by
 intro m
 induction m with
 |zero=>intro _;exact ⟨by simp [livI],λp hp=>by cases hp⟩
 |succ m ih=>
  intro hm;obtain ⟨a,b⟩:=ih oM;have d:=cY (l:=l) (i:=m) hl c0 c5 oM;have g:=rW (pOff l c m) (bG (wd D l (offN c m))) (bK (wd D l (offN c m))) d.1 d.2.1;rw [livI];by_cases hk:mkB D l c (m:Int) 177=true
  ·rw [if_pos hk];refine ⟨List.nodup_append.2 ⟨a,by simp,λx hx y hy e=> ?_⟩,λp hp=> ?_⟩
   ·simp only [b8] at hy;obtain ⟨i,hi,f⟩:=b x hx;rw [e,hy,g] at f;have:=El (k:=0) c0 c5 f;omega
   ·rcases List.mem_append.1 hp with hp|hp
    ·obtain ⟨i,hi,h⟩:=b p hp;exact ⟨i,by omega,h⟩
    ·simp only [b8] at hp;exact ⟨m,by omega,by rw [hp,g]⟩
  ·rw [if_neg hk,b9];exact ⟨a,λp hp=>by obtain ⟨i,hi,h⟩:=b p hp;exact ⟨i,by omega,h⟩⟩
def aek (rg:RgS D 26 n f) (nn:D.n<=4096):∀m,m<=n->(livN D f m).Nodup:=by
 intro m
 induction m with
 |zero=>intro _;simp [livN]
 |succ m ih=>
  intro hm;have g:=rg.lt;rw [livN];split
  ·rw [b9];exact ih oM
  ·rename_i h0;have c5:=(rg.cls (show m<n by omega)).1;have hp:=aN (show 0<=(f m).1 by omega) c5;have a:=ql (D:=D) (l:=26+32*m) (c:=(f m).1) oM c5 oM (perS (f m).1).toNat oM;refine List.nodup_append.2 ⟨ih oM,a.1,λx hx y hy e=> ?_⟩;obtain ⟨j,hj,d,hx⟩:=xz.1 hx;have cj:=(rg.cls (show j<n by omega)).1;have h:=aN d cj;have b:=ql (D:=D) (l:=26+32*j) (c:=(f j).1) d cj oM (perS (f j).1).toNat oM;obtain ⟨i1,h1,e1⟩:=b.2 x hx;obtain ⟨i2,h2,e2⟩:=a.2 y hy;have p1:=kS (k:=j) (n:=n) d cj (i:=i1) oM;have p2:=kS (k:=m) (n:=n) (show 0<=(f m).1 by omega) c5 (i:=i2) oM;rw [<-e1] at p1;rw [<-e2,<-e] at p2;omega
def Hn (rg:RgS D 26 n f) (nn:D.n<=4096) {L:List Nat} (hn:L.Nodup) (h:∀q,Liv D f n q↔q∈L):(livN D f n).length=L.length:=
 ((cy (aek rg nn n (aB _)) hn).2 (λq=>(bn rg).trans (h q))).length_eq
end
noncomputable section
variable (K:K1) (x0 x1 x2 x3 x4 x5 x6 x7 x8 x9 x10 x11 x12 x13 x14:bL) (w:bb)
noncomputable def aa6:=uD Tryz.f18 (.s .o (.s .o (.x 0 (.s .o (.b (.l [4] 1 65436 .o))) .o)))
abbrev aa7:=aU prog Tryz.f18.results.toList
def Ho:KF:=kO 0 (cP (pw aa6 3 7) (aa7 K) (aa7 K) nX)
def aa8:Prop:=Ho K (fy 16 0 []) w
def aa9:Prop:=aH [4] 1 (λE=>cP (pw aa6 6 11) E (aa7 K) (exB 0 (Ho K) nX)) (fy 16 17 [x0,x4]) w
def aba:Prop:=
 K (.tuple #[(.int .i64 0),(.int .i64 9)]) w
def Um:aa8 K w=aba K w:=aJ λσ=>kR
def qm (E1:VP1):Prop:=
 bC .lss 3 7 5 x4 w λa w=>
 af a (
 cL 56 (pA #[x4]) w λb w=>
 bT .geq 3 12 13 b x0 w λc w=>
 af c (
 K (.tuple #[x4,(.int .i64 0)]) w) (
 bC .add 3 9 1 x4 w λd w=>
 E1 d w)) (
 aa8 K w)
def Hp (I:VP1) (μ:M1) (h0:I x4 w) (hr:∀x4 w,I x4 w->∀E1,Q1 I μ x4 w E1->qm K x0 x4 w E1):aa9 K x0 x4 w:=⟨I,μ,h0,λσ w hI E hE=>cast kR (hr (σ 4) w hI E hE)⟩
def agi:Prop:=
 bC .lss 3 5 1 x0 w λa w=>
 af a (
 K (.tuple #[(.int .i64 0),(.int .i64 1)]) w) (
 aa9 K x0 (.int .i64 0) w)
def abb:=cA1 Tryz.func18 aa6.2 agi
noncomputable def abc:=uD Tryz.f22 (.s .o (.s .o (.x 8 (.s .o (.b (.l [3,4] 1 67108856 .o))) .o)))
abbrev abd:=aU prog Tryz.f22.results.toList
def Hq:KF:=kO 8 (cP (pw abc 3 7) (abd K) (abd K) nX)
def abe:Prop:=Hq K (fy 27 8 [x3]) w
def abf:Prop:=aH [3,4] 1 (λE=>cP (pw abc 6 11) E (abd K) (exB 0 (Hq K) nX)) (fy 27 25 [x0,x3,x4]) w
def abg:Prop:=
 K x3 w
def Un:abe K x3 w=abg K x3 w:=aJ λσ=>kR
def xB (E1:VP2):Prop:=
 lN 50 x0 w λa w=>
 bT .lss 3 6 8 x4 a w λb w=>
 af b (
 bC .rem 3 12 5 x4 w λc w=>
 cL 19 (pA #[c]) w λd w=>
 iA 50 x0 x4 w λe w=>
 lD 3 e w λf w=>
 bT .add 3 19 20 f d w λg w=>
 bC .sub 3 21 1 g w λh w=>
 bT .quo 3 22 23 h d w λi w=>
 bT .add 3 15 24 x3 i w λj w=>
 bC .add 3 10 1 x4 w λl w=>
 E1 j l w) (
 abe K x3 w)
def Hr (I:VP2) (μ:M2) (h0:I x3 x4 w) (hr:∀x3 x4 w,I x3 x4 w->∀E1,Q2 I μ x3 x4 w E1->xB K x0 x3 x4 w E1):abf K x0 x3 x4 w:=⟨I,μ,h0,λσ w hI E hE=>cast kR (hr (σ 3) (σ 4) w hI E hE)⟩
def agj:Prop:=
 abf K x0 (.int .i64 0) (.int .i64 0) w
def abh:=cA1 Tryz.func22 abc.2 agj
noncomputable def qp:=uD Tryz.f24 (.s .o (.s .o (.s .o (.s .o (.x 78 (.s .o (.b (.l [9] 334 562949949228672 (.s .o (.x 846 (.b (.s .o (.s .o (.b (.l [10] 846 562932773553280 .o))))) .o))))) (.s .o (.x 2124 (.s .o (.b (.l [12] 2126 1208925818488729267875968 .o))) (.x 2112 (.s .o (.b (.l [14] 2124 332306998945020042406337135895429248 .o))) .o))))))))
abbrev mz:=aU prog Tryz.f24.results.toList
def qr:KF:=kO 78 (cP (pw qp 5 31) (mz K) (mz K) nX)
def Mm:Prop:=qr K (fy 119 78 [x1,x2,x3,x6]) w
def Mn:Prop:=aH [9] 334 (λE=>cP (pw qp 8 47) E (mz K) (exB 0 (qr K) nX)) (fy 119 846 [x1,x2,x3,x6,x8,x9]) w
def Hs:KF:=kO 2124 (cP (pw qp 7 127) (mz K) (mz K) nX)
def Mo:Prop:=Hs K (fy 119 2124 [x2,x3,x6,x11]) w
def Mp:Prop:=aH [12] 2126 (λE=>cP (pw qp 10 191) E (mz K) (exB 4 (Hs K) nX)) (fy 119 6222 [x1,x2,x3,x6,x11,x12]) w
def xC (E1:VP1):KF:=kO 846 (cP (pw qp 10 815) (sE1 E1 9) (mz K) (exB 0 (qr K) nX))
def Mq (K:K1) (E1:VP1) (x1 x2 x3 x6 x8 x9:bL) (w:bb):Prop:=xC K E1 (fy 119 846 [x1,x2,x3,x6,x8,x9]) w
def Mr (K:K1) (E1:VP1) (x1 x2 x3 x6 x8 x9 x10:bL) (w:bb):Prop:=aH [10] 846 (λE=>cP (pw qp 15 6447) E (mz K) (exB 2 (xC K E1) (exB 1 (xC K E1) (exB 0 (qr K) nX)))) (fy 119 1870 [x1,x2,x3,x6,x8,x9,x10]) w
def Ht:KF:=kO 2112 (cP (pw qp 8 255) (mz K) (mz K) nX)
def abi:Prop:=Ht K (fy 119 2112 [x6,x11]) w
def Ms:Prop:=aH [14] 2124 (λE=>cP (pw qp 11 383) E (mz K) (exB 6 (Ht K) nX)) (fy 119 18508 [x2,x3,x6,x11,x14]) w
def Hu:Prop:=
 lD 36 x3 w λa w=>
 ev prog (Instr.alloc 36 true (.tuple #[])) w λb w=>
 sD 36 b a w λw=>
 Mp K x1 x2 x3 x6 b (.int .i64 0) w
def Uo:Mm K x1 x2 x3 x6 w=Hu K x1 x2 x3 x6 w:=aJ λσ=>kR
def qt (E1:VP1):Prop:=
 lN 58 x8 w λa w=>
 bT .lss 3 22 24 x9 a w λb w=>
 af b (
 iA 58 x8 x9 w λc w=>
 lD 26 c w λd w=>
 bU .eql 26 31 .u64 0 d w λe w=>
 af e (
 lD 36 x3 w λf w=>
 sD 36 x6 f w λw=>
 lR 36 x6 w λr=>
 K (.tuple #[r,(.int .i64 1)]) w) (
 Mr K E1 x1 x2 x3 x6 x8 x9 (.int .i64 0) w)) (
 Mm K x1 x2 x3 x6 w)
def Hv (I:VP1) (μ:M1) (h0:I x9 w) (hr:∀x9 w,I x9 w->∀E1,Q1 I μ x9 w E1->qt K x1 x2 x3 x6 x8 x9 w E1):Mn K x1 x2 x3 x6 x8 x9 w:=⟨I,μ,h0,λσ w hI E hE=>cast kR (hr (σ 9) w hI E hE)⟩
def Hw:Prop:=
 Ms K x2 x3 x6 x11 (.int .i64 0) w
def Up:Mo K x2 x3 x6 x11 w=Hw K x2 x3 x6 x11 w:=aJ λσ=>kR
def xD (E1:VP1):Prop:=
 lN 58 x1 w λa w=>
 bT .lss 3 50 52 x12 a w λb w=>
 af b (
 fR 36 x11 1 w.drew λc=>
 lR 34 c w.drew λd=>
 iR 58 x1 x12 w.drew λe=>
 lR 26 e w.drew λf=>
 cL 59 (pA #[d,f]) w.drew λg w=>
 bC .lss 3 63 0 g w λh w=>
 af h (
 lD 36 x3 w λi w=>
 sD 36 x6 i w λw=>
 lR 36 x6 w λr=>
 K (.tuple #[r,(.int .i64 8)]) w) (
 fR 36 x11 0 w.drew λj=>
 lR 34 j w.drew λl=>
 fR 36 x11 1 w.drew λm=>
 lR 34 m w.drew λn=>
 iR 34 n g w.drew λo=>
 lR 63 o w.drew λp=>
 cL 58 (pA #[l,p]) w.drew λq w=>
 fR 36 x11 0 w λs=>
 sD 34 s q w λw=>
 fA 36 x11 1 w λt w=>
 lD 34 t w λv w=>
 cL 79 (pA #[v,g]) w λy w=>
 fA 36 x11 1 w λz w=>
 sD 34 z y w λw=>
 bC .add 3 54 1 x12 w λa0 w=>
 E1 a0 w)) (
 Mo K x2 x3 x6 x11 w)
def Hz (I:VP1) (μ:M1) (h0:I x12 w) (hr:∀x12 w,I x12 w->∀E1,Q1 I μ x12 w E1->xD K x1 x2 x3 x6 x11 x12 w E1):Mp K x1 x2 x3 x6 x11 x12 w:=⟨I,μ,h0,λσ w hI E hE=>cast kR (hr (σ 12) w hI E hE)⟩
def HA (E1:VP1):Prop:=
 bC .add 3 26 1 x9 w λa w=>
 E1 a w
def Uq (E1:VP1):Mq K E1 x1 x2 x3 x6 x8 x9 w=HA x9 w E1:=aJ λσ=>kR
def qu (E1:VP1) (E2:VP1):Prop:=
 bT .lss 3 34 35 x10 x9 w λa w=>
 af a (
 iR 58 x8 x10 w.drew λb=>
 lR 26 b w.drew λc=>
 iR 58 x8 x9 w.drew λd=>
 lR 26 d w.drew λe=>
 rT .eql 26 42 46 c e w.drew λf=>
 af f (
 lD 36 x3 w.drew λg w=>
 sD 36 x6 g w λw=>
 lR 36 x6 w λr=>
 K (.tuple #[r,(.int .i64 1)]) w) (
 bC .add 3 37 1 x10 w.drew λh w=>
 E2 h w)) (
 Mq K E1 x1 x2 x3 x6 x8 x9 w)
def HB (E1:VP1) (I:VP1) (μ:M1) (h0:I x10 w) (hr:∀x10 w,I x10 w->∀E2,Q1 I μ x10 w E2->qu K x1 x2 x3 x6 x8 x9 x10 w E1 E2):Mr K E1 x1 x2 x3 x6 x8 x9 x10 w:=⟨I,μ,h0,λσ w hI E hE=>cast kR (hr (σ 10) w hI E hE)⟩
def HC:Prop:=
 lD 36 x11 w λa w=>
 sD 36 x6 a w λw=>
 lR 36 x6 w λr=>
 K (.tuple #[r,(.int .i64 0)]) w
def Ur:abi K x6 x11 w=HC K x6 x11 w:=aJ λσ=>kR
def xE (E1:VP1):Prop:=
 lN 58 x2 w λa w=>
 bT .lss 3 80 82 x14 a w λb w=>
 af b (
 fR 36 x3 0 w.drew λc=>
 lR 34 c w.drew λd=>
 iR 58 x2 x14 w.drew λe=>
 lR 26 e w.drew λf=>
 cL 59 (pA #[d,f]) w.drew λg w=>
 bC .lss 3 93 0 g w λh w=>
 af h (
 lD 36 x3 w λi w=>
 sD 36 x6 i w λw=>
 lR 36 x6 w λr=>
 K (.tuple #[r,(.int .i64 99)]) w) (
 fR 36 x11 0 w.drew λj=>
 lR 34 j w.drew λl=>
 iR 58 x2 x14 w.drew λm=>
 lR 26 m w.drew λn=>
 cL 59 (pA #[l,n]) w.drew λo w=>
 fR 36 x11 2 w.drew λp=>
 lR 34 p w.drew λq=>
 fR 36 x11 0 w.drew λs=>
 lR 34 s w.drew λt=>
 iR 34 t o w.drew λv=>
 lR 63 v w.drew λy=>
 ev prog (ds 34 1 #[(0,y)]) w.drew λz w=>
 (fG 36 x11 2 w p)/\
 (lG 34 p w q)/\
 aV prog .append #[34,34] 34 #[false,false] (pA #[q,z]) w λa0 w=>
 fR 36 x11 2 w λa1=>
 sD 34 a1 a0 w λw=>
 fA 36 x11 0 w λa2 w=>
 lD 34 a2 w λa3 w=>
 cL 79 (pA #[a3,o]) w λa4 w=>
 fA 36 x11 0 w λa5 w=>
 sD 34 a5 a4 w λw=>
 bC .add 3 84 1 x14 w λa6 w=>
 E1 a6 w)) (
 abi K x6 x11 w)
def HD (I:VP1) (μ:M1) (h0:I x14 w) (hr:∀x14 w,I x14 w->∀E1,Q1 I μ x14 w E1->xE K x2 x3 x6 x11 x14 w E1):Ms K x2 x3 x6 x11 x14 w:=⟨I,μ,h0,λσ w hI E hE=>cast kR (hr (σ 14) w hI E hE)⟩
def agk:Prop:=
 ev prog (Instr.box 36 x0) w λa w=>
 ev prog (Instr.alloc 36 true (.tuple #[])) w λb w=>
 aV prog .append #[58,58] 58 #[false,false] (pA #[(.slice none 0 0),x1]) w λc w=>
 aV prog .append #[58,58] 58 #[false,false] (pA #[c,x2]) w λd w=>
 Mn K x1 x2 a b d (.int .i64 0) w
def abj:=cA3 Tryz.func24 qp.2 agk
noncomputable def abk:=uD Tryz.f58 (.s .o (.s .o (.s .o (.x 105 (.b (.l [5,6] 9 4294967264 .o)) .o))))
abbrev abl:=aU prog Tryz.f58.results.toList
def HE:KF:=kO 105 (cP (pw abk 4 15) (abl K) (abl K) nX)
def Mt:Prop:=HE K (fy 41 105 [x0,x3,x5,x6]) w
def abm:Prop:=aH [5,6] 9 (λE=>cP (pw abk 6 7) E (abl K) (exB 0 (HE K) nX)) (fy 41 105 [x0,x3,x5,x6]) w
def HF:Prop:=
 lD 63 x3 w λa w=>
 ev prog (ds 34 1 #[(0,a)]) w λb w=>
 aV prog .append #[34,34] 34 #[false,false] (pA #[x5,b]) w λc w=>
 ev prog (Instr.sliceAt 34 x0 (some x6) none none) w λd w=>
 aV prog .append #[34,34] 34 #[false,false] (pA #[c,d]) w λe w=>
 K e w
def Us:Mt K x0 x3 x5 x6 w=HF K x0 x3 x5 x6 w:=aJ λσ=>kR
def qv (E1:VP2):Prop:=
 rd prog (Builtin.len_ #[34] 3 #[x0]) w.drew λa=>
 rT .lss 3 7 9 x6 a w.drew λb=>
 gW b true x0 λc=>
 gW b true x6 λd=>
 gI b true 34 c d w.drew λe=>
 gF b true 63 e 0 w.drew λf=>
 gL b true 26 f w.drew λg=>
 gF b true 63 x3 0 w.drew λh=>
 gL b true 26 h w.drew λi=>
 gC b true 110 (pA #[g]) w.drew λj w=>
 (gq b true (fG 63 x3 0 w h))/\
 (gq b true (lG 26 h w i))/\
 gC b true 110 (pA #[i]) w λl w=>
 gdR b true (λk=>rT .lss 26 17 20 j l w k) λm=>
 bh b m (.bool false) λn=>
 af n (
 iA 34 x0 x6 w λo w=>
 lD 63 o w λp w=>
 ev prog (ds 34 1 #[(0,p)]) w λq w=>
 aV prog .append #[34,34] 34 #[false,false] (pA #[x5,q]) w λs w=>
 bC .add 3 30 1 x6 w λt w=>
 E1 s t w) (
 Mt K x0 x3 x5 x6 w)
def HG (I:VP2) (μ:M2) (h0:I x5 x6 w) (hr:∀x5 x6 w,I x5 x6 w->∀E1,Q2 I μ x5 x6 w E1->qv K x0 x3 x5 x6 w E1):abm K x0 x3 x5 x6 w:=⟨I,μ,h0,λσ w hI E hE=>cast kR (hr (σ 5) (σ 6) w hI E hE)⟩
def agl:Prop:=
 ev prog (Instr.box 63 x1) w λa w=>
 abm K x0 a (.slice none 0 0) (.int .i64 0) w
def abn:=cA2 Tryz.func58 abk.2 agl
noncomputable def abo:=uD Tryz.f59 (.s .o (.x 0 (.s .o (.b (.l [5] 3 1048560 .o))) .o))
abbrev abp:=aU prog Tryz.f59.results.toList
def HH:KF:=kO 0 (cP (pr (pr abo)) (abp K) (abp K) nX)
def abq:Prop:=HH K (fy 20 0 []) w
def abr:Prop:=aH [5] 3 (λE=>cP (pw abo 5 5) E (abp K) (exB 0 (HH K) nX)) (fy 20 35 [x0,x1,x5]) w
def abt:Prop:=
 K (.int .i64 (-1)) w
def Ut:abq K w=abt K w:=aJ λσ=>kR
def qw (E1:VP1):Prop:=
 lN 34 x0 w λa w=>
 bT .lss 3 6 8 x5 a w λb w=>
 af b (
 iA 34 x0 x5 w λc w=>
 fA 63 c 0 w λd w=>
 lD 26 d w λe w=>
 bT .eql 26 16 17 e x1 w λf w=>
 af f (
 K x5 w) (
 bC .add 3 10 1 x5 w λg w=>
 E1 g w)) (
 abq K w)
def HI (I:VP1) (μ:M1) (h0:I x5 w) (hr:∀x5 w,I x5 w->∀E1,Q1 I μ x5 w E1->qw K x0 x1 x5 w E1):abr K x0 x1 x5 w:=⟨I,μ,h0,λσ w hI E hE=>cast kR (hr (σ 5) w hI E hE)⟩
def agm:Prop:=
 abr K x0 x1 (.int .i64 0) w
def abu:=cA2 Tryz.func59 abo.2 agm
noncomputable def abv:=uD Tryz.f78 (.s .o (.s .o (.s .o (.x 0 (.s .o (.b (.l [7] 97 4503599625273744 .o))) .o))))
abbrev abw:=aU prog Tryz.f78.results.toList
def HJ:KF:=kO 0 (cP (pw abv 4 15) (abw K) (abw K) nX)
def abx:Prop:=HJ K (fy 52 0 []) w
def aby:Prop:=aH [7] 97 (λE=>cP (pw abv 7 23) E (abw K) (exB 0 (HJ K) nX)) (fy 52 225 [x0,x5,x6,x7]) w
def abz:Prop:=
 K (.bool true) w
def Uu:abx K w=abz K w:=aJ λσ=>kR
def qx (E1:VP1):Prop:=
 lN 34 x0 w λa w=>
 bT .lss 3 21 23 x7 a w λb w=>
 af b (
 iA 34 x0 x7 w λc w=>
 fA 63 c 0 w λd w=>
 lD 26 d w λe w=>
 cL 110 (pA #[e]) w λf w=>
 bU .sub 26 32 .u64 8 f w λg w=>
 bT .lss 26 34 35 g x6 w λh w=>
 gV h true x5 w λi w=>
 gV h true g w λj w=>
 gV h true x0 w λl w=>
 gV h true x7 w λm w=>
 gd h true (λk=>iA 34 l m w k) w λn w=>
 gd h true (λk=>fA 63 n 1 w k) w λo w=>
 gd h true (λk=>lD 3 o w k) w λp w=>
 gC h true 56 (pA #[p]) w λq w=>
 gd h true (λk=>bM .add 3 (ci 1) (.tmp 45) (.int .i64 1) q w k) w λs w=>
 gd h true (λk=>cV 3 26 s w k) w λt w=>
 gd h true (λk=>bM .mul 26 (cu .u64 8) (.tmp 47) (.int .u64 ((8:Nat):Int)) t w k) w λv w=>
 gd h true (λk=>bT .add 26 39 48 j v w k) w λy w=>
 gd h true (λk=>bT .lss 26 38 49 i y w k) w λz w=>
 au h z (.bool false) w λa0 w=>
 af a0 (
 K (.bool false) w) (
 bC .add 3 25 1 x7 w λa1 w=>
 E1 a1 w)) (
 abx K w)
def HK (I:VP1) (μ:M1) (h0:I x7 w) (hr:∀x7 w,I x7 w->∀E1,Q1 I μ x7 w E1->qx K x0 x5 x6 x7 w E1):aby K x0 x5 x6 x7 w:=⟨I,μ,h0,λσ w hI E hE=>cast kR (hr (σ 7) w hI E hE)⟩
def agn:Prop:=
 ev prog (Instr.box 63 x1) w λa w=>
 fA 63 a 0 w λb w=>
 lD 26 b w λc w=>
 cL 110 (pA #[c]) w λd w=>
 bU .sub 26 11 .u64 8 d w λe w=>
 fA 63 a 1 w λf w=>
 lD 3 f w λg w=>
 cL 56 (pA #[g]) w λh w=>
 bM .add 3 (ci 1) (.tmp 16) (.int .i64 1) h w λi w=>
 cV 3 26 i w λj w=>
 bM .mul 26 (cu .u64 8) (.tmp 18) (.int .u64 ((8:Nat):Int)) j w λl w=>
 bT .add 26 13 19 e l w λm w=>
 aby K x0 e m (.int .i64 0) w
def abA:=cA2 Tryz.func78 abv.2 agn
def ago:Prop:=
 ev prog (Instr.sliceAt 34 x0 none (some x1) none) w λa w=>
 aV prog .append #[34,34] 34 #[false,false] (pA #[(.slice none 0 0),a]) w λb w=>
 bC .add 3 13 1 x1 w λc w=>
 ev prog (Instr.sliceAt 34 x0 (some c) none none) w λd w=>
 aV prog .append #[34,34] 34 #[false,false] (pA #[b,d]) w λe w=>
 K e w
def abB:=cA2 Tryz.func79 .o ago
noncomputable def abC:=uD Tryz.f81 (.s .o (.s .o (.x 8 (.s .o (.b (.l [3,4] 1 524280 .o))) .o)))
abbrev abD:=aU prog Tryz.f81.results.toList
def HM:KF:=kO 8 (cP (pw abC 3 7) (abD K) (abD K) nX)
def abE:Prop:=HM K (fy 20 8 [x3]) w
def abF:Prop:=aH [3,4] 1 (λE=>cP (pw abC 6 11) E (abD K) (exB 0 (HM K) nX)) (fy 20 25 [x0,x3,x4]) w
def abG:Prop:=
 K x3 w
def Uv:abE K x3 w=abG K x3 w:=aJ λσ=>kR
def xF (E1:VP2):Prop:=
 lN 34 x0 w λa w=>
 bT .lss 3 5 7 x4 a w λb w=>
 af b (
 iA 34 x0 x4 w λc w=>
 fA 63 c 1 w λd w=>
 lD 3 d w λe w=>
 cL 56 (pA #[e]) w λf w=>
 bT .add 3 11 17 x3 f w λg w=>
 bC .add 3 9 1 x4 w λh w=>
 E1 g h w) (
 abE K x3 w)
def HN (I:VP2) (μ:M2) (h0:I x3 x4 w) (hr:∀x3 x4 w,I x3 x4 w->∀E1,Q2 I μ x3 x4 w E1->xF K x0 x3 x4 w E1):abF K x0 x3 x4 w:=⟨I,μ,h0,λσ w hI E hE=>cast kR (hr (σ 3) (σ 4) w hI E hE)⟩
def agp:Prop:=
 abF K x0 (.int .i64 0) (.int .i64 0) w
def abH:=cA1 Tryz.func81 abC.2 agp
end
def fP (x:Int) (w:bb) (K:K1) (h1:x<1->K (.tuple #[.int .i64 0,.int .i64 1]) w) (h2:1<=x->x<=60->K (.tuple #[.int .i64 (clsN x),.int .i64 0]) w) (h3:60<x->K (.tuple #[.int .i64 0,.int .i64 9]) w):
  ae prog 18 #[.int .i64 x] w K:=by
 refine abb _ _ _ ?_;unfold agi;by_cases e1:x<1
 ·have h1:=h1 e1;refine zS0 ?_;exact h1
 ·refine zS0 ?_;apply Hp (I:=λz w'=>∃i:Nat,z= .int .i64 (i:Int)/\((i:Int)<=clsN x\/60<x/\i<=5)/\w'=w) (μ:=λz _=>6-(intOf z).toNat)
  ·exact ⟨0,rfl,.inl (by have:=kP x;omega),rfl⟩
  ·intros;rename_i w1 hI E1 hE;obtain ⟨i,rfl,hi,rfl⟩:=hI;have hb:=kP x;by_cases e5:i=5
   ·have a:60<x:=oM;have h3:=h3 a;subst e5;unfold qm;refine zS0 ?_;rw [Um];exact h3
   ·have c:i<5:=oM;have hw:wordsS (i:Int)=gJ i:=by unfold wordsS;rw [if_pos ⟨by omega,by omega⟩];rfl
    have hc:i=0\/i=1\/i=2\/i=3\/i=4:=oM;have es:(i:Int)+1=((i+1:Nat):Int):=oM;by_cases e:x<=gJ i
    ·have hx:x<=60:=by have:=NP i c;omega
     have b:clsN x=(i:Int):=by
      unfold clsN at hi ⊢;rcases hc with rfl|rfl|rfl|rfl|rfl<;>simp only [gJ,eu,ey] at e<;>(repeat' split)<;>(repeat' split at hi)<;>omega
     have h2:=h2 oM hx;rw [b] at h2;unfold qm;refine zS2 @dI hw ?_;exact h2
    ·have nx:(((i+1:Nat):Int)<=clsN x\/60<x/\i+1<=5):=by
      by_cases a:60<x
      ·exact .inr ⟨a,by omega⟩
      ·refine .inl ?_;unfold clsN at hi ⊢;rcases hc with rfl|rfl|rfl|rfl|rfl<;>simp only [gJ,eu,ey] at e<;>(repeat' split)<;>(repeat' split at hi)<;>omega
     unfold qm;refine zS3 @dI hw es ?_;apply hE
     ·exact ⟨i+1,rfl,nx,rfl⟩
     ·simp only [intOf];omega
structure LW (w0 w:bb) (Wb:Nat) (lv hd dd:bL) (Y:Lay) (D:DS) (H:HL) (n:Nat) (f:Idx) (R:List Nat):Prop where
 hp:HpS w0 w Y D H n f R
 bx:ah w Wb 38 8 (wlF Y H n lv hd dd)
 n0:w0.heap.size<=Wb
 ne:¬Y.F Wb/\Wb≠H.b/\Wb≠H.p/\Wb≠H.rm/\Wb≠H.hm
section
variable {w0 w w':bb} {Y Y':Lay} {D D2 D3:DS} {H:HL} {n k i p q kd Wb:Nat} {f f2 f3:Idx} {R R2:List Nat} {A:List Int} {lv hd dd:bL} {c t:Int}
def aE (b:ah w Wb 38 8 (wlF Y H n lv hd dd)):w.cell? ⟨Wb,0,none⟩=some (.pointer (some ⟨Y.d,0,none⟩))/\w.cell? ⟨Wb,1,none⟩=some (.pointer (some ⟨Y.tb 0,0,none⟩))/\w.cell? ⟨Wb,2,none⟩=some (.pointer (some ⟨H.B,0,none⟩))/\w.cell? ⟨Wb,3,none⟩=some (hpV H)/\w.cell? ⟨Wb,4,none⟩=some (.int .i64 (n:Int))/\w.cell? ⟨Wb,5,none⟩=some lv/\w.cell? ⟨Wb,6,none⟩=some hd/\w.cell? ⟨Wb,7,none⟩=some dd:=
 ⟨b.cell oM,b.cell oM,b.cell oM,b.cell oM,b.cell oM,b.cell oM,b.cell oM,b.cell oM⟩
def LW.st (h:LW w0 w Wb lv hd dd Y D H n f R) (s:HSt w Y H w' Y') (hp:HpS w0 w' Y' D2 H n f2 R2):LW w0 w' Wb lv hd dd Y' D2 H n f2 R2:=by
 have hl:=h.bx.lt;have hb:=h.bx.frm s.frm (λhf=>hf.elim h.ne.1 (λhf=>hf.elim h.ne.2.1 (λhf=>hf.elim h.ne.2.2.1 (λhf=>hf.elim h.ne.2.2.2.1 h.ne.2.2.2.2))));refine ⟨hp,hb.congr (λi _=> ?_),h.n0,λhf=> ?_,h.ne.2⟩
 ·unfold wlF;rw [s.d,s.tb]
 ·rcases s.fr _ hf with a|a
  ·exact h.ne.1 a
  ·omega
def LW.ext (h:LW w0 w Wb lv hd dd Y D H n f R) (e:Ext w w'):LW w0 w' Wb lv hd dd Y D H n f R:=h.st (HSt.of_ext Y H e) (h.hp.ext e)
def LW.space (h:LW w0 w Wb lv hd dd Y D H n f R) (hk:k<8) (K:K1)
  (hK:∀B w',Ext w w'->w.heap.size<=B->Spc w' Y H B k->K (.pointer (some ⟨B,0,none⟩)) w'):
  ae prog 16 #[.pointer (some ⟨Wb,0,none⟩),.int .i64 (k:Int)] w K:=
 aef h.hp (aE h.bx).1 (aE h.bx).2.2.1 (aE h.bx).2.2.2.1 hk K hK
def HpG.ex {Q:Nat->Prop} (h:HpG Q w0 w Y D H n f R):Ext w0 w:=h.ar.L.ex
def jS (hG:bt w) (n0:0<n) (n7:n<=120) (K:K1)
  (hK:∀Wb H Y w',H.av=none->H.avl= []->H.lk=false->LW w w' Wb (.slice none 0 0) (.slice none 0 0) (.slice none 0 0) Y (hbD n) H n (opF (hbD n) 26) []->K (.pointer (some ⟨Wb,0,none⟩)) w'):
  ae prog 14 #[.int .i64 (n:Int)] w K:=
 aa4 hG n0 n7 K (λWb H Y w' _ hW c h1 h2 h3 hp ne=>hK Wb H Y w' h1 h2 h3 ⟨hp,c,hW,ne⟩)
def ael {w:bb} {u:bL} {e:TypeId}:RdS (w.alloc (.cells #[u] e)).heap.size (w.alloc (.cells #[u] e)) (.slice (some ⟨w.heap.size,0,none⟩) 1 1) [u]:=by
 have hC:=ah.new w [u] e;refine ⟨_,_,rfl,.inr ⟨w.heap.size,0,rfl,by rw [size_alloc];omega,λj x hj=> ?_⟩⟩;obtain ⟨rfl,rfl⟩:=jg hj;exact hC.cell (i:=0) (by simp)
def PE {Q:Nat->Prop} (h:HpG Q w0 w Y D H n f R) (u:bL) (e:TypeId):RdH (w.alloc (.cells #[u] e)) Y H (.slice (some ⟨w.heap.size,0,none⟩) 1 1) [u]:=
 ⟨ael,λ_ b hb=>by injection hb with hb;subst hb;exact h.new (aB _)⟩
def PF {j:Nat} (n7:n<=120) (hj:j<n):(opF (hbD n) 26 j).1= -1:=by rw [aki n7 hj]
def Mu (n7:n<=120):¬Liv (hbD n) (opF (hbD n) 26) n q:=by
 rintro ⟨k,i,hk,h0,_⟩;rw [PF n7 hk] at h0;omega
def qe.sp (V:qe D f R n A t c kd D2 f2 D3 f3 p k i) (nn:D.n<=4096) (hr:Rsv D3 f3 n p) (k7:kd<=127) (b:RgS D3 26 n f3):pO p=pOff (26+32*k) c i/\hk p=k/\pK p=kd/\(f3 k).1=c/\p≠0/\p<72057594037927936/\pG p=bG (wd D2 (26+32*k) (offN c i)):=by
 have e:=V.rg2.lt;have d:=b.lt;have n3:=V.n3;have kn:=V.kn;have a:=hr.at_ oM b;have bd:=cY (l:=26+32*k) (i:=i) oM V.c0 V.c5 V.iN;have hp:=mt (k:=k) (i:=i) (g:=bG (wd D2 (26+32*k) (offN c i))) (kd:=kd) V.c0 V.c5 oM V.iN;rw [<-V.p] at hp;refine ⟨hp.1,hp.2,?_,by rw [V.f3,cS],a.2.2.2.2.2.2,a.2.2.2.2.2.1,?_⟩
 ·rw [V.p];exact KY _ _ _ bd.2.1 (dJ _) oM
 ·rw [V.p];exact vZ _ _ _ bd.2.1 (dJ _)
def dA (hG:bt w) (K:K1) (hK:∀w',Ext w w'->K (.bool true) w'):
  ae prog 13 #[] w K:=by
 obtain ⟨b1,b2,b3,b4,b5,b6⟩:=qk (n:=2) oM;refine aaI _ _ ?_;unfold af9;refine jS (n:=2) hG oM oM _ (λWb H Y w1 g y u L=> ?_);have m:=(aE L.bx).2.2.2.1;have fz:(26:Int)=26:=rfl;refine zS1 m ?_;refine sM (L.hp.ext xZ) g (t:=0) (x:=4) oM oM oM oM 64 oM oM oM (by simp) _ (λ_ hn _=>absurd (hn 0 oM) (by rw [PF oM oM];decide)) (λD2 f2 D3 f3 p k i V w2 Y2 s2 a=> ?_);have L2:=L.st s2 a;have hR:=a.rv p (by simp);have nn:(hbD 2).n<=4096:=oM;have n3:=V.n3;have z:=a.rg.lt;have n4:26+32*2<=4096:=oM;have sp:=V.sp nn hR oM a.rg;have kn:=V.kn;have c1:clsN 4=1:=rfl;have v:wordsS 1=7:=rfl;have s:=(aE L2.bx).2.2.2.1;have hr:∀q∈([]:List Nat)++ [p],q<18446744073709551616:=λq hq=>by simp only [d8,b8] at hq;subst hq;omega
 have pk:=sp.2.2.1;refine zS1 s ?_;refine mv (k:=k) (i:=i) a hr kn (by rw [sp.2.2.2.1];exact V.c0) (by rw [sp.2.2.2.1];exact V.iN) oM sp.2.2.2.2.1 (by rw [sp.2.2.2.1];exact sp.1) (.inl (by simp)) _ (λw3 e3=> ?_);rw [sp.2.2.2.1,c1,v];have L3:=L2.ext e3;have l:=(aE L3.bx).2.2.2.1;refine zS3 l @gB pk ?_;refine gQ L3.hp (p:=p) oM 0 oM _ (λhl=>absurd hl (hR.not_liv n4 a.rg)) (λ_ e _ he w4 e4=> ?_);have L4:=L3.ext e4;obtain rfl:=he hR;have r:=λ(K:K1) hK=>L4.space (k:=0) oM K hK
 refine zS0 ?_;refine r _ (λB w5 e5 hB sB=> ?_);have L5:=L4.ext e5;have L6:=L5.ext (Ext.alloc_self w5 (.cells #[.int .u64 (p:Int)] 27));have rd:=PE L5.hp (.int .u64 (p:Int)) 27;have f:=sB.st (HSt.of_ext Y2 H (Ext.alloc_self w5 (.cells #[.int .u64 (p:Int)] 27)));have x3:=V.x3;have rv:=λq=>Ml (q:=q) L.hp.rg nn V
 refine zS0 ?_;refine sS (keep:= [p]) (free:= []) L6.hp u oM f (by simp) (by simp) rd (RdH.nil _ _ _) (by simp) (by simp) oM _ (λh=> ?_) (λh=> ?_) (λD7 f7 w7 Y7 hd pr s7 c=> ?_)
 ·exact absurd ⟨by simp,by simp only [b9,b8];exact λh=>sp.2.2.2.2.1 h.symm⟩ h
 ·simp at h
 have L7:=L6.st s7 c;have o:=(aE L7.bx).2.2.2.1;have b:∀q,Liv D7 f7 2 q↔q∈ [p]:=λq=>by
  rw [pr.fs.liv,pr.E.liv pr.P,rv q];exact ⟨λh=>h.elim id (λh=>absurd h.1 (Mu oM)),.inl⟩
 have hS:=λ(w:bb) (e:Ext w7 w) (K:K1) hK=>PC (L7.ext e).hp K hK
 have ll:=Hn c.rg (by have:=pr.n2;omega) (L:= [p]) (by simp) b;rw [ll] at hS;refine zS1 o ?_;refine gQ L7.hp (p:=p) oM 0 oM _ (λ_ w8 e8=> ?_) (λhl=>absurd ((b p).2 (by simp)) hl);rw [if_pos (Or.inl rfl)];have d:=(aE (L7.ext e8).bx).2.2.2.1;refine zS1 d ?_;refine hS w8 e8 _ (λw9 e9=> ?_);have j:=hK w9 (L7.hp.ex.trans (e8.trans e9));simp (disch:=try exact dZ) only [↓RBp,↓RA,↓reduceIte,Nat.reduceAdd,Nat.reduceMul,Nat.reduceEqDiff,RB,RX,RA2,cb];exact j
end
def lE (w0:bb) (Y:Lay) (H:HL) (Wb b:Nat):Prop:=w0.heap.size<=b/\¬Y.F b/\b≠Wb/\∀x,(x=H.S\/x=H.b\/x=H.p\/x=H.rm\/x=H.hm\/x=H.B\/H.av=some x)->b≠x
def eh (w0:bb) (Y:Lay) (H:HL) (Wb:Nat) (v:bL):Prop:=∀b,v.ownBlock=some b->lE w0 Y H Wb b
def eh.nil (w0:bb) (Y:Lay) (H:HL) (Wb:Nat):eh w0 Y H Wb (.slice none 0 0):=λb hb=>by cases hb
section
variable {Q:Nat->Prop} {w0 w w':bb} {Y Y':Lay} {D D2 D3:DS} {H:HL} {n k i p q kd Wb b m:Nat} {f f2 f3:Idx} {R R2:List Nat} {lv hd dd v:bL} {c t:Int} {T:TypeId} {L:List bL}
def lE.st (h:lE w0 Y H Wb b) (hb:b<w.heap.size) (s:HSt w Y H w' Y'):lE w0 Y' H Wb b:=
 ⟨h.1,λhf=>(s.fr _ hf).elim h.2.1 (λh=>by omega),h.2.2⟩
def lE.frm (h:lE w0 Y H Wb b):¬(Y.F b\/b=H.b\/b=H.p\/b=H.rm\/b=H.hm):=by
 obtain ⟨_,a,_,d⟩:=h;rintro (e|e|e|e|e)
 ·exact a e
 ·exact d _ (.inr (.inl rfl)) e
 ·exact d _ (.inr (.inr (.inl rfl))) e
 ·exact d _ (.inr (.inr (.inr (.inl rfl)))) e
 ·exact d _ (.inr (.inr (.inr (.inr (.inl rfl))))) e
def eh.st (h:eh w0 Y H Wb v) (hs:SlO w T k v m L) (s:HSt w Y H w' Y'):eh w0 Y' H Wb v/\SlO w' T k v m L:=
 ⟨λb hb=>(h b hb).st (hs.lt hb) s,hs.frm s.frm (λb hb=>(h b hb).frm)⟩
def LW.own (h:LW w0 w Wb lv hd dd Y D H n f R) (hb:w.heap.size<=b):lE w0 Y H Wb b:=by
 have l:=h.hp.lts;have sz:=h.hp.ex.size;have hw:=h.bx.lt;have hS:=h.hp.ar.st.lt;have hB:=h.hp.lg.lt;refine ⟨by omega,(h.hp.new hb).1,by omega,λx hx e=> ?_⟩;rcases hx with a|a|a|a|a|a|a
 ·omega
 ·omega
 ·omega
 ·omega
 ·omega
 ·omega
 ·rcases h.hp.avm with ⟨g,_⟩|⟨r,g,g2,_⟩
  ·rw [g] at a;cases a
  ·rw [g] at a;injection a with a;have:=g2.lt;omega
def LW.new (h:LW w0 w Wb lv hd dd Y D H n f R) (hv:bi w.heap.size v):eh w0 Y H Wb v:=λb hb=>h.own (hv b hb)
def eh.rdh (h:eh w0 Y H Wb v) (hs:SlO w T 1 v L.length L):RdH w Y H v L:=by
 refine ⟨?_,λ_ b hb=> ?_⟩
 ·obtain ⟨pa,pc,rfl,_⟩:=hs.isS';refine ⟨pa,pc,rfl,?_⟩;by_cases h0:L= []
  ·exact .inl h0
  ·right;have hl:0<L.length:=List.length_pos_iff.2 h0;obtain ⟨b,o,c,hv,_⟩:=hs.isS hl;injection hv with hv _ _;exact ⟨b,o,hv,hs.lt (by rw [hv];rfl),λj u hj=>hs.cell (by rw [hv]) hj⟩
 ·have h:=h b hb;have h2:=h.frm;exact ⟨h.2.1,λe=>h2 (.inr (.inl e)),λe=>h2 (.inr (.inr (.inl e))),λe=>h2 (.inr (.inr (.inr (.inl e)))),λe=>h2 (.inr (.inr (.inr (.inr e))))⟩
def LW.frm {G:Nat->Prop} (h:LW w0 w Wb lv hd dd Y D H n f R) (g:Frm G w w') (hG:∀x,G x->lE w0 Y H Wb x):LW w0 w' Wb lv hd dd Y D H n f R:=by
 have ne:∀x,(x=H.S\/x=H.b\/x=H.p\/x=H.rm\/x=H.hm\/x=H.B\/H.av=some x)->¬G x:=λx hx hg=>(hG x hg).2.2.2 x hx rfl
 obtain ⟨M,m1,m2⟩:=h.hp.hd;have p:=h.hp;refine ⟨⟨p.ar.frmH g (λx hx=> ?_),p.rg,p.hp.frm g (ne _ (.inr (.inr (.inl rfl)))),p.lg.frm g (ne _ (.inr (.inr (.inr (.inr (.inr (.inl rfl))))))),p.rs.frm g (ne _ (.inr (.inr (.inr (.inl rfl))))),⟨M,m1.frm g (ne _ (.inr (.inr (.inr (.inr (.inl rfl)))))),m2⟩,p.nd,p.rv,p.ho,p.er,p.idl,p.avm.imp id (λ⟨r,a,b,c⟩=>⟨r,a,b.frm g (ne _ (.inr (.inr (.inr (.inr (.inr (.inr a))))))),c⟩),p.sep,p.dif,p.dt⟩,h.bx.frm g (λhf=>(hG _ hf).2.2.1 rfl),h.n0,h.ne⟩;have a:=hG x hx;exact ⟨a.1,a.2.1,a.2.2.2 _ (.inr (.inl rfl)),a.2.2.2 _ (.inl rfl)⟩
def elP:ElT prog 25 25 27 1 8 (.int .u64 0):=VC
def xG (L:List Nat) (x:Nat):bc (L++ [x])=bc L++ [.int .u64 (x:Int)]:=by unfold bc;rw [cm];rfl
def fm (L:List Nat):(bc L).length=L.length:=by unfold bc;rw [d9]
def LW.app {P:List Nat} {cs:Array Bool} {ty:TypeId} {xb xo cap:Nat} (h:LW w0 w Wb lv hd dd Y D H n f R) (o:eh w0 Y H Wb v) (hs:SlO w 27 1 v P.length (bc P)) (hl:P.length<1000000) (hx:w.cell? ⟨xb,xo,none⟩=some (.int .u64 (p:Int))) {K:K1}
  (hK:∀v' w',LW w0 w' Wb lv hd dd Y D H n f R->eh w0 Y H Wb v'->SlO w' 27 1 v' (P++ [p]).length (bc (P++ [p]))->Frm (λb=>v.ownBlock=some b) w w'->K v' w'):
  aV prog .append #[25,25] ty cs #[v,.slice (some ⟨xb,xo,none⟩) 1 cap] w K:=by
 refine du elP hs (m:=1) (news:= [.int .u64 (p:Int)]) rfl (λj u hj=> ?_) rfl oM oM oM (λv' w' s2 f2 n2 _=> ?_)
 ·obtain ⟨rfl,rfl⟩:=jg hj;exact hx
 ·rw [<-xG] at s2;refine hK v' w' (h.frm f2 (λx hx=>o x hx)) (λb hb=> ?_) (by rw [aA];exact s2) f2;rcases n2 b hb with e|e
  ·exact o b e
  ·exact h.own e
end
structure aiX (D:DS) (f:Idx) (R:List Nat) (n:Nat) (t c:Int) (D3:DS) (f3:Idx) (k i:Nat):Prop where
 fs:FS f f3
 fc:(f k).1=c
 ft:(f k).2.1=t
 us:cM D R (26+32*k) c i=false
 we:∀j,j<n->0<=(f j).1->∀i':Nat,(i':Int)<perS (f j).1->wd D3 (26+32*j) (offN (f j).1 i')=wd D (26+32*j) (offN (f j).1 i')
 hd:∀j,j<n->wd D3 (26+32*j) 0=wd D (26+32*j) 0
structure aiY (D:DS) (f:Idx) (R:List Nat) (n:Nat) (A:List Int) (t c:Int) (D3:DS) (f3:Idx) (k g:Nat):Prop where
 g0:g≠0
 g6:g<65536
 how:((f k).1<0/\g=gX (wd D (26+32*k) 0))\/emG D 26 f k=some g
 oth:∀j,j≠k->f3 j=f j
 fk:(f3 k).1=c/\(f3 k).2.1=t
 we:∀j,j<n->j≠k->∀i,i<256->wd D3 (26+32*j) i=wd D (26+32*j) i
 own:∀i:Nat,(i:Int)<perS c->wd D3 (26+32*k) (offN c i)=sealN (dT g 0 176)
 hd:wd D3 (26+32*k) 0=sealN (hdX c t g)
 cn:cnR R k=0
 full:∀k,k<n->(f k).2.1=t->(f k).1=c->((26+32*k:Nat):Int)∉A->∀i:Nat,(i:Int)<perS c->cM D R (26+32*k) c i=true
section
variable {D D2 D3:DS} {f f2 f3:Idx} {R U:List Nat} {n k i p q kd:Nat} {A:List Int} {t c:Int}
def qe.cases (rg:RgS D 26 n f) (nn:D.n<=4096) (V:qe D f R n A t c kd D2 f2 D3 f3 p k i):aiX D f R n t c D3 f3 k i\/∃g,aiY D f R n A t c D3 f3 k g:=by
 have a:=rg.lt;have n2:D2.n=D.n:=by
  have:=V.n3;rw [V.d3] at this;have h:=gK 0 (aF (zW (pOff (26+32*k) c i) (wordsS c).toNat)) D2;have h':(zeD D2 (26+32*k) c i).n=D2.n:=h;omega
 have kn:=V.kn;have z:=uq V.rg2.on (l:=26+32*k) oM oM V.c0 V.c5 V.iN;rw [<-V.d3] at z;rcases V.how with ⟨e1,e2,_⟩|⟨⟨g,ok⟩,cn,fl⟩
 ·left;subst e1;subst e2;refine ⟨λj=> ?_,V.fc,V.ft,V.us,λj hj h0 i' hi=> ?_,λj hj=> ?_⟩
  ·rw [V.f3];by_cases e:j=k
   ·subst e;rw [cS];exact ⟨V.fc.symm,V.ft.symm⟩
   ·rw [dN _ _ e];exact ⟨rfl,rfl⟩
  ·by_cases e:j=k
   ·subst e;rw [V.fc] at hi ⊢;exact z.2.1 i' hi
   ·exact z.2.2 _ oM _ (aK h0 (rg.cls hj).1 hi).2.2
  ·by_cases e:j=k
   ·subst e;exact z.1 0 oM
   ·exact z.2.2 _ oM _ oM
 ·right;refine ⟨g,ok.g0,ok.g6,?_,λj hj=> ?_,?_,λj hj ne x hx=> ?_,λi' hi=> ?_,?_,cn,fl⟩
  ·rcases ok.how with ⟨h,_,e⟩|⟨_,h,_⟩
   ·exact .inl ⟨h,e⟩
   ·exact .inr h
  ·rw [V.f3,dN _ _ hj,ok.fe,dN _ _ hj]
  ·rw [V.f3,cS];exact ⟨rfl,rfl⟩
  ·rw [z.2.2 _ oM _ hx,ok.oth j hj ne x hx]
  ·rw [z.2.1 i' hi,ok.own _ (aK V.c0 V.c5 hi).2.2];exact (xA V.c0 V.c5 hi ok.g6).1
  ·rw [z.1 0 oM,ok.own 0 oM];unfold jQ;rw [if_pos rfl]
def aem (rg:RgS D 26 n f) (hk:k<n) (h0:0<=(f k).1) (hi:(i:Int)<perS (f k).1):cM D R (26+32*k) (f k).1 i=(!decide (bS (wd D (26+32*k) (offN (f k).1 i))=176)||rsB R (pOff (26+32*k) (f k).1 i)):=by
 have hp:=aN h0 (rg.cls hk).1;unfold cM;rw [(rg.sn k hk h0).bit i oM,decide_eq_true hi,Bool.true_and]
def Mv {g:Nat} (he:emG D 26 f k=some g):(f k).2.2=false/\0<=(f k).1/\∀i:Nat,(i:Int)<perS (f k).1->bS (wd D (26+32*k) (offN (f k).1 i))=176:=by
 unfold emG at he;split at he
 ·cases he
 ·rename_i h0;split at he
  ·cases he
  ·rename_i h2;split at he
   ·rename_i a;refine ⟨by simpa using h2,by omega,λi hi=> ?_⟩;have ho:=Lk a i oM;unfold okF at ho;simp only [cW,decide_eq_true_eq] at ho;exact ho.2.2.1
   ·cases he
def agq {L:List Nat} {m:Nat} (hn:L.Nodup) (h:∀x∈L,x<m):L.length<=m:=by
 have hp:L.Perm ((List.range m).filter λx=>decide (x∈L)):=(cy hn (List.Nodup.sublist dm fi)).2 (λx=>by
  rw [c8,f6];simp only [decide_eq_true_eq];exact ⟨λhx=>⟨h x hx,hx⟩,λhx=>hx.2⟩)
 have:=ce (λx=>decide (x∈L)) (List.range m);rw [eF] at this;rw [hp.length_eq];exact this
def aiZ {L:List Nat} {m:Nat} (hn:L.Nodup) (h:∀x,x<m->x∈L):m<=L.length:=by
 have hp:((L.filter λx=>decide (x<m))).Perm (List.range m):=(cy (List.Nodup.sublist dm hn) fi).2 (λx=>by
  rw [c8,f6];simp only [decide_eq_true_eq];exact ⟨λhx=>hx.2,λhx=>⟨h x hx,hx⟩⟩)
 have:=ce (λx=>decide (x<m)) L;have e:=hp.length_eq;rw [eF] at e;omega
structure UsL (D:DS) (f:Idx) (n:Nat) (R U:List Nat):Prop where
 nd:U.Nodup
 mem:∀q,q∈U↔Liv D f n q\/q∈R
def Es (f:Idx) (U:List Nat) (k:Nat):List Nat:=(U.filter λp=>decide (hk p=k)).map (ixP f)
def xH:(Es f U k).length=cnR U k:=by unfold Es cnR;rw [d9]
def HO {x:Nat}:x∈Es f U k↔∃p∈U,hk p=k/\ixP f p=x:=by
 unfold Es;rw [List.mem_map];exact ⟨λ⟨p,hp,e⟩=>by rw [c8] at hp;exact ⟨p,hp.1,by simpa using hp.2,e⟩,λ⟨p,hp,e1,e⟩=>⟨p,List.mem_filter.2 ⟨hp,by simpa using e1⟩,e⟩⟩
def UsL.at_ (h:UsL D f n R U) (rg:RgS D 26 n f) (nn:D.n<=4096) (rv:∀p∈R,Rsv D f n p) (hp:p∈U):At f n p (hk p) (ixP f p):=by
 have b:=rg.lt;rcases (h.mem p).1 hp with a|a
 ·exact (a.at_ oM rg).1
 ·exact ((rv p a).at_ oM rg).1
def UsL.pos_nd (h:UsL D f n R U) (rg:RgS D 26 n f) (nn:D.n<=4096) (rv:∀p∈R,Rsv D f n p) (nd:(R.map pO).Nodup):(Es f U k).Nodup:=by
 have c:=rg.lt;refine eO _ (λa ha b hb e=> ?_) (List.Nodup.sublist dm h.nd);rw [c8] at ha hb;have ea:hk a=k:=by simpa using ha.2
 have eb:hk b=k:=by simpa using hb.2
 rcases (h.mem a).1 ha.1 with x|x<;>rcases (h.mem b).1 hb.1 with y|y
 ·exact x.uniq y oM rg (ea.trans eb.symm) e
 ·have u:=(x.at_ oM rg).2.1.2.2.2.2;have v:=((rv b y).at_ oM rg).2.1;rw [eb,<-e] at v;rw [ea] at u;omega
 ·have u:=(y.at_ oM rg).2.1.2.2.2.2;have v:=((rv a x).at_ oM rg).2.1;rw [ea,e] at v;rw [eb] at u;omega
 ·exact sO nd x y (At.uniq ((rv a x).at_ oM rg).1 ((rv b y).at_ oM rg).1 (ea.trans eb.symm) e)
def UsL.used (h:UsL D f n R U) (rg:RgS D 26 n f) (nn:D.n<=4096) (rv:∀p∈R,Rsv D f n p) (b:k<n) (h0:0<=(f k).1) (hi:(i:Int)<perS (f k).1) (h8:bS (wd D (26+32*k) (offN (f k).1 i))≠178):i∈Es f U k↔cM D R (26+32*k) (f k).1 i=true:=by
 have c:=rg.lt;have c5:=(rg.cls b).1;have bd:=cY (l:=26+32*k) (i:=i) oM h0 c5 hi;rw [aem rg b h0 hi,HO];constructor
 ·rintro ⟨p,hp,e1,e2⟩;rcases (h.mem p).1 hp with a|a
  ·have s:=(a.at_ oM rg).2.1.2.2.2.2;rw [e1,e2] at s;rw [s];rfl
  ·have s:=((rv p a).at_ oM rg).1.2.2.2.2;rw [e1,e2] at s;have:rsB R (pOff (26+32*k) (f k).1 i)=true:=List.any_eq_true.2 ⟨p,a,by simpa using s⟩;rw [this,Bool.or_true]
 ·intro hu;rcases Bool.or_eq_true_iff.1 hu with a|a
  ·have s6:¬bS (wd D (26+32*k) (offN (f k).1 i))=176:=by simpa using a
   have gd:=(rg.sn k b h0).gd i hi;have s7:bS (wd D (26+32*k) (offN (f k).1 i))=177:=by
    unfold cK at gd;rw [if_neg s6] at gd;split at gd
    ·assumption
    ·first
     |cases gd
     |(rw [if_neg h8] at gd;cases gd)
     |(exact absurd ‹_› h8)
   have lv:=(rg.sn k b h0).live h0 c5 hi s7;have hq:=mt (k:=k) (i:=i) (g:=bG (wd D (26+32*k) (offN (f k).1 i))) (kd:=bK (wd D (26+32*k) (offN (f k).1 i))) h0 c5 oM hi;have ix:At f n _ k i:=⟨b,h0,c5,hi,hq.1⟩;exact ⟨_,(h.mem _).2 (.inl ⟨k,i,b,h0,hi,rfl,s7⟩),ix.ix.1,ix.ix.2⟩
  ·obtain ⟨q,hq,e⟩:=List.any_eq_true.1 a;have ix:At f n q k i:=⟨b,h0,c5,hi,by simpa using e⟩;exact ⟨q,(h.mem q).2 (.inr hq),ix.ix.1,ix.ix.2⟩
def UsL.cn (h:UsL D f n R U) (rg:RgS D 26 n f) (nn:D.n<=4096) (rv:∀p∈R,Rsv D f n p) (nd:(R.map pO).Nodup) (a:k<n) (h0:0<=(f k).1) (h8:∀i:Nat,(i:Int)<perS (f k).1->bS (wd D (26+32*k) (offN (f k).1 i))≠178):
  cnR U k<=(perS (f k).1).toNat/\((∀i:Nat,(i:Int)<perS (f k).1->cM D R (26+32*k) (f k).1 i=true)->cnR U k=(perS (f k).1).toNat)/\∀i:Nat,(i:Int)<perS (f k).1->cM D R (26+32*k) (f k).1 i=false->cnR U k<(perS (f k).1).toNat:=by
 have hp:=aN h0 (rg.cls a).1;have pn:=h.pos_nd (k:=k) rg nn rv nd;have lt:∀x∈Es f U k,x<(perS (f k).1).toNat:=λx hx=>by
  obtain ⟨p,hp,e1,e2⟩:=HO.1 hx;have:=(h.at_ rg nn rv hp).2.2.2.1;rw [e1,e2] at this;omega
 have le:=agq pn lt;rw [xH] at le;refine ⟨le,λha=> ?_,λi hi hu=> ?_⟩
 ·have:=aiZ (m:=(perS (f k).1).toNat) pn (λx hx=>(h.used (i:=x) rg nn rv a h0 oM (h8 x oM)).2 (ha x oM));rw [xH] at this;omega
 ·have ni:i∉Es f U k:=λhx=>by
   rw [(h.used rg nn rv a h0 hi (h8 i hi)).1 hx] at hu;cases hu
  have:=agq (L:=i::Es f U k) (m:=(perS (f k).1).toNat) (List.nodup_cons.2 ⟨ni,pn⟩) (λx hx=>by
   rcases List.mem_cons.1 hx with e|e
   ·omega
   ·exact lt x e)
  rw [cq,xH] at this;omega
def UsL.take (h:UsL D f n R U) (rg:RgS D 26 n f) (nn:D.n<=4096) (V:qe D f R n A t c kd D2 f2 D3 f3 p k i) (b:RgS D3 26 n f3) (n3:D3.n<=4096) (d:Rsv D3 f3 n p) (hp:p∉R):UsL D3 f3 n (R++ [p]) (U++ [p]):=by
 have g:=b.lt;have lv:∀q,Liv D3 f3 n q↔Liv D f n q:=λq=>Ml rg nn V
 have np:p∉U:=λhu=>by
  rcases (h.mem p).1 hu with a|a
  ·exact d.not_liv oM b ((lv p).2 a)
  ·exact hp a
 refine ⟨List.nodup_append.2 ⟨h.nd,by simp,λx hx y hy e=> ?_⟩,λq=> ?_⟩
 ·simp only [b8] at hy;subst hy;subst e;exact np hx
 ·rw [c9,c9,h.mem,lv];exact ⟨λa=>a.elim (λa=>a.elim .inl (λa=> .inr (.inl a))) (λa=> .inr (.inr a)),λa=>a.elim (λa=> .inl (.inl a)) (λa=>a.elim (λa=> .inl (.inr a)) .inr)⟩
def UsL.pub (h:UsL D f n R U) (hp:p∈R) (pr:yq D f n [p] [] D2 f2):UsL D2 f2 n (rmL R [p]) U:=by
 refine ⟨h.nd,λq=> ?_⟩;rw [h.mem,pr.fs.liv,pr.E.liv pr.P,eQ];simp only [b8,List.not_mem_nil,not_false_iff,and_true];constructor
 ·rintro (a|a)
  ·exact .inl (.inr a)
  ·by_cases e:q=p
   ·exact .inl (.inl e)
   ·exact .inr ⟨a,e⟩
 ·rintro ((e|a)|a)
  ·subst e;exact .inr hp
  ·exact .inl a
  ·exact .inr a.1
end
def GnS (D:DS) (f:Idx) (n:Nat):Prop:=∀k,k<n->0<=(f k).1->∀i:Nat,(i:Int)<perS (f k).1->gX (wd D (26+32*k) 0)<=bG (wd D (26+32*k) (offN (f k).1 i))
def DdP (D:DS) (f:Idx) (n p:Nat):Prop:=hk p<n/\p<18446744073709551616/\(pG p<gX (wd D (26+32*hk p) 0)\/(0<=(f (hk p)).1/\∃i:Nat,(i:Int)<perS (f (hk p)).1/\pO p=pOff (26+32*hk p) (f (hk p)).1 i/\(pG p<bG (wd D (26+32*hk p) (offN (f (hk p)).1 i))\/bS (wd D (26+32*hk p) (offN (f (hk p)).1 i))=178)))
section
variable {D D2 D3:DS} {f f2 f3:Idx} {R U keep free:List Nat} {n k i p q kd:Nat} {A:List Int} {t c:Int}
def GnS.fs (h:GnS D f n) (e:FS f f2):GnS D f2 n:=λk hk h0 i hi=>by
 rw [(e k).1] at h0 hi ⊢;exact h k hk h0 i hi
def DdP.fs (h:DdP D f n p) (e:FS f f2):DdP D f2 n p:=by
 obtain ⟨a,b,c⟩:=h;refine ⟨a,b,?_⟩;rw [(e (hk p)).1];exact c
def GnS.same (h:GnS D f n) (hw:∀j,j<n->0<=(f j).1->∀i':Nat,(i':Int)<perS (f j).1->wd D3 (26+32*j) (offN (f j).1 i')=wd D (26+32*j) (offN (f j).1 i')) (hd:∀j,j<n->wd D3 (26+32*j) 0=wd D (26+32*j) 0):GnS D3 f n:=λk hk h0 i hi=>by
 rw [hw k hk h0 i hi,hd k hk];exact h k hk h0 i hi
def DdP.same (h:DdP D f n p) (hw:∀j,j<n->0<=(f j).1->∀i':Nat,(i':Int)<perS (f j).1->wd D3 (26+32*j) (offN (f j).1 i')=wd D (26+32*j) (offN (f j).1 i')) (hd:∀j,j<n->wd D3 (26+32*j) 0=wd D (26+32*j) 0):DdP D3 f n p:=by
 obtain ⟨a,b,c⟩:=h;refine ⟨a,b,c.imp (λh=>by rw [hd _ a];exact h) (λ⟨h0,i,hi,e,h⟩=>⟨h0,i,hi,e,by rw [hw _ a h0 i hi];exact h⟩)⟩
def abI {g:Nat} (he:emG D 26 f k=some g) (i:Nat) (hi:(i:Int)<perS (f k).1):bG (wd D (26+32*k) (offN (f k).1 i))<=g:=by
 unfold emG at he;split at he
 ·cases he
 ·split at he
  ·cases he
  ·split at he
   ·injection he with he;rw [<-he];exact YN _ _ oM
   ·cases he
def ai0 (rg:RgS D 26 n f) (nn:D.n<=4096) (V:qe D f R n A t c kd D2 f2 D3 f3 p k i) (t0:0<=t/\t<8) (g:GnS D f n):GnS D3 f3 n/\∀q,DdP D f n q->DdP D3 f3 n q:=by
 rcases V.cases rg nn with O|⟨gg,N⟩
 ·exact ⟨(g.same O.we O.hd).fs O.fs,λq hq=>(hq.same O.we O.hd).fs O.fs⟩
 ·have hg:=(afm V.c0 V.c5 t0.1 t0.2 N.g0 N.g6).2.2.2;refine ⟨λj hj h0 i' hi=> ?_,λq ⟨a,b,h⟩=>⟨a,b,?_⟩⟩
  ·by_cases e:j=k
   ·subst e;rw [N.fk.1] at hi ⊢;rw [N.hd,hg,N.own i' hi,vV N.g6 oM oM];exact aB _
   ·rw [N.oth j e] at h0 hi ⊢;rw [N.we j hj e _ (aK h0 (rg.cls hj).1 hi).2.2,N.we j hj e 0 oM];exact g j hj h0 i' hi
  ·by_cases e:hk q=k
   ·left;rw [e,N.hd,hg];rw [e] at h;rcases N.how with ⟨h1,h2⟩|h1
    ·rcases h with h|⟨h,_⟩
     ·rw [h2];exact h
     ·omega
    ·have em:=Mv h1;have pp:=aN em.2.1 (rg.cls V.kn).1;rcases h with h|⟨_,i',hi,_,h|h⟩
     ·have:=abI h1 0 oM;have:=g k V.kn em.2.1 0 oM;omega
     ·have:=abI h1 i' hi;omega
     ·rw [em.2.2 i' hi] at h;cases h
   ·rw [N.oth _ e];rcases h with h|⟨h0,i',hi,eo,h⟩
    ·left;rw [N.we _ a e 0 oM];exact h
    ·right;refine ⟨h0,i',hi,eo,?_⟩;rw [N.we _ a e _ (aK h0 (rg.cls a).1 hi).2.2];exact h
def abJ {g:Nat} (h:g<=65535):g<=freG g/\(g<freG g\/freS g=178):=by
 unfold freG freS;by_cases e:g=65535
 ·rw [if_pos e,if_pos e];exact ⟨by omega,.inr rfl⟩
 ·rw [if_neg e,if_neg e];exact ⟨by omega,.inl oM⟩
def agr (h:p<72057594037927936):pG p<=65535:=by unfold pG;omega
def abK (rg:RgS D 26 n f) (pr:yq D f n keep free D2 f2) (a:k<n) (h0:0<=(f k).1) (hi:(i:Int)<perS (f k).1):
  bG (wd D (26+32*k) (offN (f k).1 i))<=bG (wd D2 (26+32*k) (offN (f k).1 i))/\(bS (wd D (26+32*k) (offN (f k).1 i))=178->bS (wd D2 (26+32*k) (offN (f k).1 i))=178):=by
 have b:=rg.lt;have nn:=pr.P.nn;have c5:=(rg.cls a).1;have bd:=cY (l:=26+32*k) (i:=i) oM h0 c5 hi;have hq:At f n (ptrN (pOff (26+32*k) (f k).1 i) 1 1) k i:=⟨a,h0,c5,hi,rW _ _ _ bd.1 bd.2.1⟩;by_cases e1:∃p∈keep,hk p=k/\ixP f p=i
 ·obtain ⟨p,hp,e1,e2⟩:=e1;have rs:=(pr.P.kp p hp).at_ oM rg;have kp:=pr.E.kept pr.P hp;have g1:=(kp.sp oM pr.E.rg).2.2.2.2.1;have g2:=congrArg pG rs.2.2.1;have bq:=cY (l:=26+32*k) (i:=i) oM h0 c5 hi;have po:=rs.1.2.2.2.2;have s:=rs.2.1;rw [e1,e2] at g1 g2 po s;rw [po,vZ _ _ _ bq.2.1 (dJ _)] at g2;exact ⟨by omega,λh=>by omega⟩
 ·by_cases e2:∃p∈free,hk p=k/\ixP f p=i
  ·obtain ⟨p,hp,e1,e2⟩:=e2;have lv:=(pr.P.fr p hp).at_ oM rg;have fr:=pr.E.freed pr.P hp;have g1:=(lv.2.1.sp oM rg).2.2.2.2.1;have s:=lv.2.1.2.2.2.2;rw [e1,e2] at g1 s fr;have:=abJ (agr lv.2.2.1);exact ⟨by rw [fr.1];omega,λh=>by omega⟩
  ·rw [pr.E.same hq e1 e2];exact ⟨aB _,id⟩
def abL (rg:RgS D 26 n f) (pr:yq D f n keep free D2 f2) (a:k<n):wd D2 (26+32*k) 0=wd D (26+32*k) 0:=by
 refine pr.E.rest k a 0 oM (λi h0 hi e=> ?_) oM;have:=aK h0 (rg.cls a).1 hi;omega
def ah3 (rg:RgS D 26 n f) (pr:yq D f n keep free D2 f2) (g:GnS D f n):GnS D2 f2 n/\(∀q,DdP D f n q->DdP D2 f2 n q)/\∀q∈free,DdP D2 f2 n q:=by
 have d:=rg.lt;have nn:=pr.P.nn;refine ⟨GnS.fs (λk c h0 i hi=> ?_) pr.fs,λq hq=>DdP.fs ?_ pr.fs,λq hq=>DdP.fs ?_ pr.fs⟩
 ·rw [abL rg pr c];have:=(abK rg pr c h0 hi).1;have:=g k c h0 i hi;omega
 ·obtain ⟨a,b,h⟩:=hq;refine ⟨a,b,h.imp (λh=>by rw [abL rg pr a];exact h) (λ⟨h0,i,hi,e,h⟩=>⟨h0,i,hi,e,?_⟩)⟩;have w:=abK rg pr a h0 hi;exact h.imp (λh=>by omega) w.2
 ·have lv:=(pr.P.fr q hq).at_ oM rg;have fr:=pr.E.freed pr.P hq;have l1:=lv.1;refine ⟨l1.1,by omega,.inr ⟨l1.2.1,ixP f q,l1.2.2.2.1,l1.2.2.2.2,?_⟩⟩;rw [fr.1,fr.2];exact (abJ (agr lv.2.2.1)).2
def DdP.no (h:DdP D f n p) (rg:RgS D 26 n f) (nn:D.n<=4096) (g:GnS D f n):¬Liv D f n p/\¬Rsv D f n p:=by
 have c:=rg.lt;have key:∀i:Nat,0<=(f (hk p)).1->(i:Int)<perS (f (hk p)).1->pO p=pOff (26+32*hk p) (f (hk p)).1 i->pG p=bG (wd D (26+32*hk p) (offN (f (hk p)).1 i))->bS (wd D (26+32*hk p) (offN (f (hk p)).1 i))≠178->False:=λi h0 hi eo eg es=>by
  rcases h.2.2 with h1|⟨_,j,hj,ej,h1⟩
  ·have:=g _ h.1 h0 i hi;omega
  ·have:i=j:=El (k:=0) h0 (rg.cls h.1).1 (eo.symm.trans ej);subst this;rcases h1 with h1|h1
   ·omega
   ·exact es h1
 constructor
 ·intro l;have a:=l.at_ oM rg;have s:=a.2.1.sp oM rg;have b:=a.2.1.2.2.2.2;exact key _ a.1.2.1 a.1.2.2.2.1 a.1.2.2.2.2 s.2.2.2.2.1 oM
 ·intro r;have a:=r.at_ oM rg;have bd:=cY (l:=26+32*hk p) (i:=ixP f p) (by have:=a.1.1;omega) a.1.2.1 a.1.2.2.1 a.1.2.2.2.1;have eg:=congrArg pG a.2.2.1;rw [a.1.2.2.2.2,vZ _ _ _ bd.2.1 (dJ _)] at eg;exact key _ a.1.2.1 a.1.2.2.2.1 a.1.2.2.2.2 eg oM
end
def js (L:List Nat) (p:Nat):List Nat:=L.takeWhile (λq=>decide (pO q<pO p))++p::L.dropWhile (λq=>decide (pO q<pO p))
def gu (L keep:List Nat):List Nat:=keep.foldl js L
abbrev Asc (L:List Nat):Prop:=L.Pairwise λa b=>pO a<pO b
def kU:∀{L M:List Nat},Asc L->Asc M->(∀x,x∈L↔x∈M)->L=M
 | [],[],_,_,_=>rfl
 | [],b::M,_,_,h=>absurd ((h b).2 (by simp)) (by simp)
 |a::L,[],_,_,h=>absurd ((h a).1 (by simp)) (by simp)
 |a::L,b::M,hl,hm,h=>by
  have l:=List.pairwise_cons.1 hl;have m:=List.pairwise_cons.1 hm;have e:a=b:=by
   rcases List.mem_cons.1 ((h a).1 (by simp)) with e|ha
   ·exact e
   ·rcases List.mem_cons.1 ((h b).2 (by simp)) with e|hb
    ·exact e.symm
    ·have:=m.1 a ha;have:=l.1 b hb;omega
  subst e;rw [kU l.2 m.2 (λx=>⟨λhx=> ?_,λhx=> ?_⟩)]
  ·rcases List.mem_cons.1 ((h x).1 (cv _ hx)) with e|hx'
   ·subst e;have:=l.1 x hx;omega
   ·exact hx'
  ·rcases List.mem_cons.1 ((h x).2 (cv _ hx)) with e|hx'
   ·subst e;have:=m.1 x hx;omega
   ·exact hx'
def PG {p:Nat}:∀{L:List Nat},Asc L->(∀q∈L,pO q≠pO p)->Asc (js L p)/\∀x,x∈js L p↔x=p\/x∈L
 | [],_,_=>⟨by simp [js,Asc],λx=>by simp [js]⟩
 |a::L,h,hn=>by
  have l:=List.pairwise_cons.1 h;have na:=hn a (by simp);by_cases e:pO a<pO p
  ·obtain ⟨i1,i2⟩:=PG (p:=p) l.2 (λq hq=>hn q (cv _ hq));have eq:js (a::L) p=a::js L p:=by
    unfold js;rw [List.takeWhile_cons_of_pos (by simpa using e),List.dropWhile_cons_of_pos (by simpa using e)];rfl
   rw [eq];refine ⟨List.pairwise_cons.2 ⟨λx hx=> ?_,i1⟩,λx=> ?_⟩
   ·rcases (i2 x).1 hx with e2|hx
    ·subst e2;exact e
    ·exact l.1 x hx
   ·rw [cw,i2,cw];exact ⟨λh=>h.elim (λh=> .inr (.inl h)) (λh=>h.elim .inl (λh=> .inr (.inr h))),λh=>h.elim (λh=> .inr (.inl h)) (λh=>h.elim .inl (λh=> .inr (.inr h)))⟩
  ·have eq:js (a::L) p=p::a::L:=by
    unfold js;rw [List.takeWhile_cons_of_neg (by simpa using e),List.dropWhile_cons_of_neg (by simpa using e)];rfl
   rw [eq];refine ⟨List.pairwise_cons.2 ⟨λx hx=> ?_,h⟩,λx=>by rw [cw]⟩;rcases List.mem_cons.1 hx with e2|hx
   ·subst e2;omega
   ·have:=l.1 x hx;omega
def HP {keep:List Nat}:∀{L:List Nat},Asc L->((keep.map pO).Nodup)->(∀p∈keep,∀q∈L,pO q≠pO p)->Asc (gu L keep)/\∀x,x∈gu L keep↔x∈keep\/x∈L:=by
 induction keep with
 |nil=>intro L h _ _;exact ⟨h,λx=>by simp [gu]⟩
 |cons p t ih=>
  intro L h nd hn;rw [cU,fF] at nd;obtain ⟨a1,a2⟩:=PG h (hn p (by simp));obtain ⟨b1,b2⟩:=ih (L:=js L p) a1 nd.2 (λq hq x hx e=>by
   rcases (a2 x).1 hx with e2|hx
   ·subst e2;exact nd.1 (by rw [e];exact List.mem_map.2 ⟨q,hq,rfl⟩)
   ·exact hn q (cv _ hq) x hx e)
  refine ⟨b1,λx=> ?_⟩;have:gu L (p::t)=gu (js L p) t:=rfl;rw [this,b2,a2,cw];exact ⟨λh=>h.elim (λh=> .inl (.inr h)) (λh=>h.elim (λh=> .inl (.inl h)) .inr),λh=>h.elim (λh=>h.elim (λh=> .inr (.inl h)) .inl) (λh=> .inr (.inr h))⟩
def sT {c:Int} (c0:0<=c) (c5:c<5) {i j:Nat} (h:i<j):offN c i+1+(wordsS c).toNat<=offN c j:=by
 obtain ⟨z,n,hz,hn,d,z3,b,a⟩:=pT c0 c5;rw [a,a,hz,Int.toNat_natCast];have:=Nat.mul_le_mul_right (z+1) (show i+1<=j by omega);rw [Nat.add_mul,Nat.one_mul] at this;omega
section
variable {D D2 D3:DS} {f f2 f3:Idx} {R U keep free:List Nat} {n k i j l p q kd:Nat} {A:List Int} {t c:Int}
def HQ (rg:RgS D 26 n f) (nn:D.n<=4096) (h:At f n p (hk p) (ixP f p)) (h':At f n q (hk q) (ixP f q)) (ne:pO p≠pO q):pO p+8*(wordsS (f (hk p)).1).toNat<pO q\/pO q+8*(wordsS (f (hk q)).1).toNat<pO p:=by
 have a:=rg.lt;have a1:=aK h.2.1 h.2.2.1 h.2.2.2.1;have a2:=aK h'.2.1 h'.2.2.1 h'.2.2.2.1;have o1:=bB h.2.1 h.2.2.1 oM h.2.2.2.1;have o2:=bB h'.2.1 h'.2.2.1 oM h'.2.2.2.1;have w1:=aO h.2.1 h.2.2.1;have w2:=aO h'.2.1 h'.2.2.1;rw [h.2.2.2.2,h'.2.2.2.2] at ne ⊢;unfold pOff at ne ⊢;by_cases e:hk p=hk q
 ·rw [<-e] at ne w2 a2 o2 ⊢;rcases Nat.lt_trichotomy (ixP f p) (ixP f q) with e2|e2|e2
  ·have:=sT h.2.1 h.2.2.1 e2;left;omega
  ·rw [e2] at ne;exact absurd rfl ne
  ·have:=sT h.2.1 h.2.2.1 e2;right;omega
 ·rcases Nat.lt_or_gt_of_ne e with e2|e2
  ·left;omega
  ·right;omega
def abM (c0:0<=c) (c5:c<5) (hl:l<=4096):∀m:Nat,(m:Int)<=perS c->Asc (livI D l c m):=by
 intro m
 induction m with
 |zero=>intro _;exact List.Pairwise.nil
 |succ m ih=>
  intro hm;have b:=(ql (D:=D) c0 c5 hl m oM).2;have a:=cY (l:=l) (i:=m) hl c0 c5 oM;have d:=rW (pOff l c m) (bG (wd D l (offN c m))) (bK (wd D l (offN c m))) a.1 a.2.1;rw [livI];split
  ·refine List.pairwise_append.2 ⟨ih oM,by simp,λx hx y hy=> ?_⟩;simp only [b8] at hy;obtain ⟨i,hi,e⟩:=b x hx;rw [hy,d,e];have:=sT c0 c5 hi;unfold pOff;omega
  ·rw [b9];exact ih oM
def dB (rg:RgS D 26 n f) (nn:D.n<=4096):∀m,m<=n->Asc (livN D f m):=by
 intro m
 induction m with
 |zero=>intro _;exact List.Pairwise.nil
 |succ m ih=>
  intro hm;have e:=rg.lt;rw [livN];split
  ·rw [b9];exact ih oM
  ·rename_i h0;have c5:=(rg.cls (show m<n by omega)).1;have hp:=aN (show 0<=(f m).1 by omega) c5;have a:=ql (D:=D) (l:=26+32*m) (c:=(f m).1) oM c5 oM (perS (f m).1).toNat oM;refine List.pairwise_append.2 ⟨ih oM,abM oM c5 oM _ oM,λx hx y hy=> ?_⟩;obtain ⟨j,hj,d,hx⟩:=xz.1 hx;have cj:=(rg.cls (show j<n by omega)).1;have g:=aN d cj;have b:=ql (D:=D) (l:=26+32*j) (c:=(f j).1) d cj oM (perS (f j).1).toNat oM;obtain ⟨i1,h1,e1⟩:=b.2 x hx;obtain ⟨i2,h2,e2⟩:=a.2 y hy;have p1:=aK d cj (i:=i1) oM;have p2:=aK (show 0<=(f m).1 by omega) c5 (i:=i2) oM;have q1:=bB d cj (i:=i1) oM oM;rw [e1,e2];unfold pOff;omega
def PH (rg:RgS D 26 n f) (nn:D.n<=4096) (pr:yq D f n keep free D2 f2) (b:RgS D2 26 n f2):Asc (gu (livN D f n) keep)/\(∀x,x∈gu (livN D f n) keep↔x∈keep\/Liv D f n x)/\livN D2 f2 n=rmL (gu (livN D f n) keep) free:=by
 have c:=rg.lt;have n2:=pr.n2;have a:=HP (dB rg nn n (aB _)) pr.P.nk (λp hp q hq e=>by
  have rs:=(pr.P.kp p hp).at_ oM rg;have lv:=((bn rg).1 hq).at_ oM rg;have s1:=rs.2.1;have s2:=lv.2.1.2.2.2.2;have i1:At f n q (hk p) (ixP f p):=⟨rs.1.1,rs.1.2.1,rs.1.2.2.1,rs.1.2.2.2.1,e.trans rs.1.2.2.2.2⟩;have j:=i1.ix;rw [j.1,j.2] at s2;omega)
 refine ⟨a.1,λx=>by rw [a.2,bn rg],?_⟩;refine kU (dB b oM n (aB _)) (List.Pairwise.filter _ a.1) (λx=> ?_);rw [bn b,pr.fs.liv,pr.E.liv pr.P];have:x∈rmL (gu (livN D f n) keep) free↔x∈gu (livN D f n) keep/\x∉free:=eQ;rw [this,a.2,bn rg];constructor
 ·rintro (h|⟨h,h2⟩)
  ·refine ⟨.inl h,λhf=> ?_⟩;exact (pr.P.kp x h).not_liv oM rg (pr.P.fr x hf)
  ·exact ⟨.inr h,h2⟩
 ·rintro ⟨h|h,h2⟩
  ·exact .inl h
  ·exact .inr ⟨h,h2⟩
def aen (rg:RgS D 26 n f) (nn:D.n<=4096) (V:qe D f R n A t c kd D2 f2 D3 f3 p k i) (a:RgS D3 26 n f3):livN D3 f3 n=livN D f n:=by
 have:=V.n3;exact kU (dB a oM n (aB _)) (dB rg nn n (aB _)) (λx=>by rw [bn a,bn rg];exact Ml rg nn V)
def aeo (rg:RgS D 26 n f) (a:RgS D 26 n f2) (nn:D.n<=4096) (e:FS f f2):livN D f2 n=livN D f n:=
 kU (dB a nn n (aB _)) (dB rg nn n (aB _)) (λx=>by rw [bn a,bn rg];exact e.liv)
def abN (rg:RgS D 26 n f) (nn:D.n<=4096) (V:qe D f R n A t c kd D2 f2 D3 f3 p k i) (hq:Liv D f n q\/q∈R):(f3 (hk q)).1=(f (hk q)).1:=by
 have d:=rg.lt;rcases V.cases rg nn with O|⟨g,N⟩
 ·exact (O.fs _).1
 ·by_cases e:hk q=k
  ·exfalso;rcases hq with h|h
   ·have a:=(h.at_ oM rg);rcases N.how with ⟨h1,_⟩|h1
    ·have:=a.1.2.1;rw [e] at this;omega
    ·have em:=Mv h1;have b:=a.2.1.2.2.2.2;have i1:=a.1.2.2.2.1;rw [e] at b i1;rw [em.2.2 _ i1] at b;cases b
   ·exact (e▸Eg h:cnR R k≠0) N.cn
  ·rw [N.oth _ e]
end
def bkL:List (Nat×Int)->List bL
 | []=> []
 |(p,c)::l=> .int .u64 (p:Int):: .int .i64 c::bkL l
def Mw (a b:List (Nat×Int)):bkL (a++b)=bkL a++bkL b:=by
 induction a with
 |nil=>rfl
 |cons x a ih=>obtain ⟨o,v⟩:=x;simp [bkL,ih]
def Mx (a:List (Nat×Int)):(bkL a).length=a.length*2:=by
 induction a with
 |nil=>rfl
 |cons x a ih=>obtain ⟨o,v⟩:=x;simp [bkL,ih];omega
def aep:∀(l:List (Nat×Int)) (i:Nat) (x:Nat×Int),l[i]? =some x->(bkL l)[i*2]? =some (.int .u64 (x.1:Int))/\(bkL l)[i*2+1]? =some (.int .i64 x.2):=by
 intro l
 induction l with
 |nil=>intro i x h;simp at h
 |cons y l ih=>
  intro i x h;obtain ⟨o,v⟩:=y
  cases i with
  |zero=>simp at h;subst h;exact ⟨rfl,rfl⟩
  |succ i=>
   have:=ih i x (by simpa using h);simp only [bkL,show (i+1)*2=i*2+1+1 by omega,el];exact this
def abO (k:Nat) (l:List (Nat×Int)):bkL (l.drop k)=(bkL l).drop (k*2):=by
 induction k generalizing l with
 |zero=>simp
 |succ k ih=>
  cases l with
  |nil=>simp [bkL]
  |cons x l=>obtain ⟨o,v⟩:=x;simp only [List.drop_succ_cons,ih,bkL,show (k+1)*2=k*2+1+1 by omega]
def abP (k:Nat) (l:List (Nat×Int)):bkL (l.take k)=(bkL l).take (k*2):=by
 induction k generalizing l with
 |zero=>simp [bkL]
 |succ k ih=>
  cases l with
  |nil=>simp [bkL]
  |cons x l=>obtain ⟨o,v⟩:=x;simp only [List.take_succ_cons,ih,bkL,show (k+1)*2=k*2+1+1 by omega]
def ah4:∀(l:List (Nat×Int)),bO (bkL l)=true:=by
 intro l
 induction l with
 |nil=>rfl
 |cons x l ih=>obtain ⟨a,b⟩:=x;simp [bkL,bO,aj,ih]
def elB:ElT prog 34 34 63 2 16 (.agg #[.int .u64 0,.int .i64 0]):=lX
abbrev BlS (w:bb) (v:bL) (L:List (Nat×Int)):Prop:=SlO w 63 2 v L.length (bkL L)
section
variable {w w':bb} {v:bL} {L M:List (Nat×Int)} {b:Nat}
def ez (s:BlS w v L) {j:Nat} (h:j<L.length):∃b o cap,v= .slice (some ⟨b,o,none⟩) L.length cap/\b<w.heap.size/\(∀(j:Nat) (h:j<L.length),w.cell? ⟨b,o+j*2,none⟩=some (.int .u64 ((L[j]).1:Int))/\w.cell? ⟨b,o+j*2+1,none⟩=some (.int .i64 (L[j]).2))/\L.length<=cap:=by
 obtain ⟨b,o,cap,rfl,hc⟩:=s.isS oM;refine ⟨b,o,cap,rfl,s.lt rfl,λj h=> ?_,hc⟩;have hg:=aep L j L[j] (b7 h);refine ⟨s.cell rfl hg.1,?_⟩;have:=s.cell rfl hg.2;rw [<-f8] at this;exact this
def KpB (w w':bb) (v v':bL):Prop:=∀v0 M0,BlS w v0 M0->(v0.ownBlock=v.ownBlock->pD 2 v0<=pD 2 v)->BlS w' v0 M0/\(v0.ownBlock=v'.ownBlock->pD 2 v0<=pD 2 v')
def PI {cs:Array Bool} {ty:TypeId} (h:BlS w v L) {x:Option Addr} {m c:Nat} (hM:M.length=m) (hx:m=0\/∃xb xo,x=some ⟨xb,xo,none⟩/\∀j u,(bkL M)[j]? =some u->w.cell? ⟨xb,xo+j,none⟩=some u) (hl:L.length+m<1000000) {K:K1}
  (hK:∀v' w',BlS w' v' (L++M)->Frm (λb=>v.ownBlock=some b) w w'->(∀b,v'.ownBlock=some b->v.ownBlock=some b\/w.heap.size<=b)->KpB w w' v v'->K v' w'):
  aV prog .append #[34,34] ty cs #[v,.slice x m c] w K:=by
 by_cases e:m=0
 ·have d:M= []:=d5 oM;subst d;subst e;have f:=hK v w (by rw [b9];exact h) (Frm.refl _ _) (λb hb=> .inl hb) (λv0 M0 s0 e0=>⟨s0,e0⟩);obtain ⟨a,cap,rfl,hc⟩:=h.isS';rw [jd elB a L.length cap hc];exact f
 ·rcases hx with h0|⟨xb,xo,rfl,hx⟩
  ·exact absurd h0 e
  refine tg elB h (m:=m) (news:=bkL M) (by rw [Mx,hM]) hx (ah4 M) oM oM oM (λv' w' hs hf hn _ kp=> ?_);refine hK v' w' ?_ hf hn (λv0 M0 s0 e0=>kp v0 _ _ s0 e0);rw [<-Mw] at hs;have e2:(L++M).length=L.length+m:=by rw [aA,hM]
  show SlO _ _ _ _ _ _;rw [e2];exact hs
def sU {cs:Array Bool} {ty:TypeId} (h:BlS w v L) {x:Option Addr} {m c:Nat} (hM:M.length=m) (hx:m=0\/∃xb xo,x=some ⟨xb,xo,none⟩/\∀j u,(bkL M)[j]? =some u->w.cell? ⟨xb,xo+j,none⟩=some u) (hl:L.length+m<1000000) {K:K1}
  (hK:∀v' w',BlS w' v' (L++M)->Frm (λb=>v.ownBlock=some b) w w'->(∀b,v'.ownBlock=some b->v.ownBlock=some b\/w.heap.size<=b)->K v' w'):
  aV prog .append #[34,34] ty cs #[v,.slice x m c] w K:=
 PI h hM hx hl λv' w' a b c _=>hK v' w' a b c
end
def blM (f:Idx) (L:List Nat):List (Nat×Int):=L.map λp=>(p,(f (hk p)).1)
def bE (f:Idx) (L:List Nat):(blM f L).length=L.length:=by unfold blM;rw [d9]
def jk {f:Idx} {L:List Nat} {j:Nat} (h:j<(blM f L).length):(blM f L)[j]=(L[j]'(by rw [<-bE f];exact h),(f (hk (L[j]'(by rw [<-bE f];exact h)))).1):=by
 exact List.getElem_map _
def jT {f f2:Idx} {L:List Nat} (h:∀p∈L,(f2 (hk p)).1=(f (hk p)).1):blM f2 L=blM f L:=by
 unfold blM;exact List.map_congr_left λp hp=>by rw [h p hp]
def PJ (f:Idx) (L M:List Nat):blM f (L++M)=blM f L++blM f M:=by unfold blM;rw [cm]
def aeq (L:List (Nat×Int)) (x:Nat×Int):List (Nat×Int):=L.takeWhile (λq=>decide (pO q.1<pO x.1))++x::L.dropWhile (λq=>decide (pO q.1<pO x.1))
def aer (f:Idx) (L:List Nat) (p:Nat):aeq (blM f L) (p,(f (hk p)).1)=blM f (js L p):=by
 unfold aeq js blM;rw [cm,cU,List.takeWhile_map,List.dropWhile_map];rfl
def abQ {L:List Nat} {j:Nat} (hn:L.Nodup) (h:j<L.length):L.eraseIdx j=rmR L L[j]:=by
 induction L generalizing j with
 |nil=>simp at h
 |cons x L ih=>
  rw [fF] at hn;unfold rmR
  cases j with
  |zero=>
   simp only [List.eraseIdx_cons_zero,c7,fu];simp only [decide_true,Bool.not_true,Bool.false_eq_true,if_false];symm;rw [List.filter_eq_self];intro a ha;have:¬a=x:=λe=>hn.1 (e▸ha)
   simp [this]
  |succ j=>
   simp only [cq] at h;have hj:j<L.length:=oM;simp only [List.eraseIdx_cons_succ,List.getElem_cons_succ,fu];have:¬x=L[j]:=λe=>hn.1 (e▸bk hj)
   simp only [this,decide_false,Bool.not_false,if_true];rw [ih hn.2 hj];rfl
def Br (f:Idx):∀{L:List Nat} {j:Nat},(blM f L).eraseIdx j=blM f (L.eraseIdx j)
 | [],j=>by simp [blM]
 |x::L,0=>rfl
 |x::L,j+1=>by
  have:=Br f (L:=L) (j:=j);show (x,(f (hk x)).1)::(blM f L).eraseIdx j=_;rw [this];rfl
section
variable {w0 w w':bb} {Y Y':Lay} {D D2 D3:DS} {H:HL} {n k i p q kd Wb b m:Nat} {f f2 f3:Idx} {R R2 U keep free:List Nat} {lv hd dd lv' hd' dd' v:bL} {A:List Int} {c t:Int} {LL RL DD:List (Nat×Int)}
def LW.wne (h:LW w0 w Wb lv hd dd Y D H n f R):∀x,(x=H.S\/x=H.b\/x=H.p\/x=H.rm\/x=H.hm\/x=H.B\/H.av=some x)->Wb≠x:=by
 intro x hx;rcases hx with rfl|rfl|rfl|rfl|rfl|rfl|hx
 ·exact h.bx.ne h.hp.ar.st (by decide)
 ·exact h.ne.2.1
 ·exact h.ne.2.2.1
 ·exact h.ne.2.2.2.1
 ·exact h.ne.2.2.2.2
 ·exact h.bx.ne h.hp.lg (by decide)
 ·rintro rfl;rcases h.hp.avm with ⟨a,_⟩|⟨r,a,⟨es,cl,e,_⟩,_⟩
  ·rw [a] at hx;cases hx
  ·rw [a] at hx;injection hx with hx;subst hx;obtain ⟨c,e2,_⟩:=h.bx;rw [e] at e2;cases e2
def LW.put (h:LW w0 w Wb lv hd dd Y D H n f R) (g:Frm (λx=>x=Wb) w w') (b:ah w' Wb 38 8 (wlF Y H n lv' hd' dd')):LW w0 w' Wb lv' hd' dd' Y D H n f R:=by
 have ne:∀x,(x=H.S\/x=H.b\/x=H.p\/x=H.rm\/x=H.hm\/x=H.B\/H.av=some x)->¬x=Wb:=λx hx hg=>h.wne x hx hg.symm
 obtain ⟨M,m1,m2⟩:=h.hp.hd;have p:=h.hp;refine ⟨⟨p.ar.frmH g (λx hx=> ?_),p.rg,p.hp.frm g (ne _ (.inr (.inr (.inl rfl)))),p.lg.frm g (ne _ (.inr (.inr (.inr (.inr (.inr (.inl rfl))))))),p.rs.frm g (ne _ (.inr (.inr (.inr (.inl rfl))))),⟨M,m1.frm g (ne _ (.inr (.inr (.inr (.inr (.inl rfl)))))),m2⟩,p.nd,p.rv,p.ho,p.er,p.idl,p.avm.imp id (λ⟨r,a,b,c⟩=>⟨r,a,b.frm g (ne _ (.inr (.inr (.inr (.inr (.inr (.inr a))))))),c⟩),p.sep,p.dif,p.dt⟩,b,h.n0,h.ne⟩;subst hx;exact ⟨h.n0,h.ne.1,h.wne _ (.inr (.inl rfl)),h.wne _ (.inl rfl)⟩
def xI (h:LW w0 w Wb lv hd dd Y D H n f R):(∀v,LW w0 (w.setCell ⟨Wb,5,none⟩ v) Wb v hd dd Y D H n f R)/\(∀v,LW w0 (w.setCell ⟨Wb,6,none⟩ v) Wb lv v dd Y D H n f R)/\∀v,LW w0 (w.setCell ⟨Wb,7,none⟩ v) Wb lv hd v Y D H n f R:=by
 have hi:∀i,i<8->i=0\/i=1\/i=2\/i=3\/i=4\/i=5\/i=6\/i=7:=λi h=>by omega
 refine ⟨λv=> ?_,λv=> ?_,λv=> ?_⟩<;>
  (refine h.put ((Frm.refl _ _).set _ (λ_=>rfl)) ((h.bx.set v oM).congr (λi a=> ?_))
   rcases hi i a with rfl|rfl|rfl|rfl|rfl|rfl|rfl|rfl<;>rfl)
structure PlM (w0 w:bb) (Wb:Nat) (lv hd dd:bL) (Y:Lay) (D:DS) (H:HL) (n:Nat) (f:Idx) (R:List Nat) (LL RL DD:List (Nat×Int)):Prop where
 L:LW w0 w Wb lv hd dd Y D H n f R
 oL:eh w0 Y H Wb lv
 oH:eh w0 Y H Wb hd
 oD:eh w0 Y H Wb dd
 sL:BlS w lv LL
 sH:BlS w hd RL
 sD:BlS w dd DD
 hl:∀b,hd.ownBlock=some b->lv.ownBlock≠some b
 hdd:∀b,hd.ownBlock=some b->dd.ownBlock≠some b
 dl:∀b,dd.ownBlock=some b->lv.ownBlock≠some b
structure PlS (w0 w:bb) (Wb:Nat) (lv hd dd:bL) (Y:Lay) (D:DS) (H:HL) (n:Nat) (f:Idx) (R:List Nat) (DD:List (Nat×Int)):Prop where
 m:PlM w0 w Wb lv hd dd Y D H n f R (blM f (livN D f n)) (blM f R) DD
 gn:GnS D f n
 dp:∀x∈DD,DdP D f n x.1
def PlM.ext (h:PlM w0 w Wb lv hd dd Y D H n f R LL RL DD) (e:Ext w w'):PlM w0 w' Wb lv hd dd Y D H n f R LL RL DD:=
 ⟨h.L.ext e,h.oL,h.oH,h.oD,h.sL.ext e,h.sH.ext e,h.sD.ext e,h.hl,h.hdd,h.dl⟩
def PlM.st (h:PlM w0 w Wb lv hd dd Y D H n f R LL RL DD) (s:HSt w Y H w' Y') (hp:HpS w0 w' Y' D2 H n f2 R2):PlM w0 w' Wb lv hd dd Y' D2 H n f2 R2 LL RL DD:=
 ⟨h.L.st s hp,(h.oL.st h.sL s).1,(h.oH.st h.sH s).1,(h.oD.st h.sD s).1,(h.oL.st h.sL s).2,(h.oH.st h.sH s).2,(h.oD.st h.sD s).2,h.hl,h.hdd,h.dl⟩
def PlS.ext (h:PlS w0 w Wb lv hd dd Y D H n f R DD) (e:Ext w w'):PlS w0 w' Wb lv hd dd Y D H n f R DD:=⟨h.m.ext e,h.gn,h.dp⟩
def PlM.nn (h:PlM w0 w Wb lv hd dd Y D H n f R LL RL DD):D.n<=4096/\26+32*n<=D.n:=h.L.hp.n4
def LW.at_ (h:LW w0 w Wb lv hd dd Y D H n f R) (hp:p∈R\/Liv D f n p):At f n p (hk p) (ixP f p)/\p≠0/\p<72057594037927936:=by
 have nn:=h.hp.n4;rcases hp with hp|hp
 ·have a:=(h.hp.rv p hp).at_ oM h.hp.rg;exact ⟨a.1,a.2.2.2.2.2.2,a.2.2.2.2.2.1⟩
 ·have a:=hp.at_ oM h.hp.rg;exact ⟨a.1,a.2.2.2,a.2.2.1⟩
def PlM.appH {cs:Array Bool} {ty:TypeId} {x:Nat×Int} (h:PlM w0 w Wb lv hd dd Y D H n f R LL RL DD) {xb xo cp:Nat} (c0:w.cell? ⟨xb,xo,none⟩=some (.int .u64 (x.1:Int))) (c1:w.cell? ⟨xb,xo+1,none⟩=some (.int .i64 x.2)) (hl:RL.length<100000) {K:K1}
  (hK:∀hd' w',LW w0 w' Wb lv hd dd Y D H n f R->PlM w0 (w'.setCell ⟨Wb,6,none⟩ hd') Wb lv hd' dd Y D H n f R LL (RL++ [x]) DD->aj hd'=true->Frm (λb=>hd.ownBlock=some b) w w'->(∀b,hd'.ownBlock=some b->hd.ownBlock=some b\/w.heap.size<=b)->K hd' w'):
  aV prog .append #[34,34] ty cs #[hd,.slice (some ⟨xb,xo,none⟩) 1 cp] w K:=by
 refine sU (M:= [x]) (m:=1) h.sH rfl (.inr ⟨xb,xo,rfl,λj u hj=> ?_⟩) oM (λv' w' s f o=> ?_)
 ·rcases j with _|_|j
  ·injection hj with hj;subst hj;exact c0
  ·injection hj with hj;subst hj;exact c1
  ·simp [bkL] at hj
 have l2:=h.L.frm f (λy hy=>h.oH y hy);have lw:=(xI l2).2.1 v';have nw:∀b,v'.ownBlock=some b->lE w0 Y H Wb b:=λb hb=>(o b hb).elim (λe=>h.oH b e) (λe=>h.L.own e)
 have fz:∀{u:bL} {X:List (Nat×Int)},eh w0 Y H Wb u->BlS w' u X->BlS (w'.setCell ⟨Wb,6,none⟩ v') u X:=λou su=>su.frm (F:=λx=>x=Wb) ((Frm.refl _ _).set _ (λ_=>rfl)) (λb hb e=>(ou b hb).2.2.1 e)
 refine hK v' w' l2 ⟨lw,h.oL,nw,h.oD,fz h.oL (h.sL.frm f (λb hb e=>h.hl b e hb)),fz nw s,fz h.oD (h.sD.frm f (λb hb e=>h.hdd b e hb)),λb hb e=> ?_,λb hb e=> ?_,h.dl⟩ (aP s) f o
 ·rcases o b hb with g|g
  ·exact h.hl b g e
  ·have:=h.sL.lt e;omega
 ·rcases o b hb with g|g
  ·exact h.hdd b g e
  ·have:=h.sD.lt e;omega
end
section
variable {w w':bb} {v:bL} {L M:List (Nat×Int)} {b:Nat}
def uu (p:Nat) (w:bb) (K:K1) (hp:p<18446744073709551616):ae prog 110 #[.int .u64 (p:Int)] w K=K (.int .u64 ((pO p:Nat):Int)) w:=by
 refine aD (by kernel_rfl) (Tj _ _ _ ?_) K;unfold Ys;have e:p%4294967296*8=pO p:=by unfold pO;omega
 exact yS1 e
def uv (hs:BlS w v L) (p:Nat) (hl:L.length<1000000) (K:K1) (h0:(∀(i:Nat) (h:i<L.length),(L[i]).1≠p)->K (.int .i64 (-1)) w) (h1:∀(j:Nat) (h:j<L.length),(L[j]).1=p->K (.int .i64 (j:Int)) w):
  ae prog 59 #[v,.int .u64 (p:Int)] w K:=by
 refine abu _ _ _ _ ?_;unfold agm;apply HI (I:=λz w'=>∃j:Nat,z= .int .i64 (j:Int)/\j<=L.length/\w'=w/\∀(i:Nat) (h:i<L.length),i<j->(L[i]).1≠p) (μ:=λz _=>L.length-(intOf z).toNat)
 ·exact ⟨0,rfl,by omega,rfl,λi _ h=>by omega⟩
 ·intros;rename_i w1 hI E1 hE;obtain ⟨j,rfl,hj,rfl,hn⟩:=hI;by_cases e:j<L.length
  ·obtain ⟨b,o,cap,rfl,hb,hc,_⟩:=ez hs e;have c0:=(hc j e).1;have es:(j:Int)+1=((j+1:Nat):Int):=oM;by_cases e2:(L[j]).1=p
   ·have c:=h1 j e e2;rw [e2] at c0;unfold qw;refine zS1 c0 ?_;exact c
   ·have ne:¬(((L[j]).1:Nat):Int)=(p:Int):=oM;unfold qw;refine zS3 c0 ne es ?_;apply hE
    ·refine ⟨j+1,rfl,by omega,rfl,λi h hi=> ?_⟩;by_cases e3:i=j
     ·subst e3;exact e2
     ·exact hn i h oM
    ·simp only [intOf];omega
  ·have c:=h0 (λi h=>hn i h oM);obtain ⟨a,cap,rfl,_⟩:=hs.isS';unfold qw;refine zS0 ?_;rw [Ut];exact c
def abR {F:Nat->Prop} (h:Frm F w w') (hF:∀b,F b->w.heap.size<=b):Ext w w':=h.to_ext (λb hb hf=>by have:=hF b hf;omega)
def PK (hs:BlS w v L) {k:Nat} (hk:k<=L.length):∃a c,(∀(w2:bb) (K:K1),ev prog (Instr.sliceAt 34 v (some (.int .i64 (k:Int))) none none) w2 K=K (.slice a (L.length-k) c) w2)/\(L.length-k=0\/∃xb xo,a=some ⟨xb,xo,none⟩/\xb<w.heap.size/\∀j u,(bkL (L.drop k))[j]? =some u->w.cell? ⟨xb,xo+j,none⟩=some u):=by
 have h2:=hs;obtain ⟨_,⟨rfl,h0⟩|⟨b,o,cap,a,rfl,h3⟩⟩:=h2
 ·obtain rfl:k=0:=oM;refine ⟨none,0,λw2 K=> ?_,.inl oM⟩;have r:(Instr.sliceAt 34 (.slice none 0 0) (some (.int .i64 ((0:Nat):Int))) none none).run prog w2= .ok (.slice none 0 0) w2:=by
   obtain ⟨i,hi,e1,hz,e2⟩:=elB.info;simp only [Instr.sliceAt,Sem.run_bind,aC elB.un,Result.andThen_ok,Instr.slice,Instr.sliceBounds,mM _ _ _ _ _ (aB 0),sizeOf,typeInfo,program,Sem.run,hi,f9,Option.map_none,ite_self,Nat.sub_self]
  rw [ad r,show L.length-0=0 by omega]
 ·have r2:=λ(w:bb) k'=>ad (P:=prog) (jl elB b o L.length cap .i64 k w hk) k'
  refine ⟨_,_,r2,?_⟩;by_cases e0:L.length-k=0
  ·exact .inl e0
  ·right;have hc:=(hs.view).2;refine ⟨b,o+k*2,by rw [if_neg oM],hs.lt rfl,λj u hj=> ?_⟩;rw [abO,List.getElem?_drop] at hj;rw [f8];exact hs.cell rfl hj
def oX (hs:BlS w v L) {k:Nat} (hk:k<L.length) (hl:L.length<100000) (K:K1) (hK:∀v' w',Ext w w'->bi w.heap.size v'->BlS w' v' (L.eraseIdx k)->K v' w'):
  ae prog 79 #[v,.int .i64 (k:Int)] w K:=by
 obtain ⟨ta,tc,r2,ht⟩:=PK hs (k:=k+1) hk;obtain ⟨b,o,cap,rfl,hb,hc,a⟩:=ez hs hk;have r1:=λ(w:bb) k'=>ad (P:=prog) (gY elB b o L.length cap .i64 k w oM) k'
 have es:(k:Int)+1=((k+1:Nat):Int):=oM;refine abB _ _ _ _ ?_;unfold ago;refine zS1 r1 ?_;refine sU (L:= []) (m:=k) (M:=L.take k) (SlO.nil _ _ _) (by rw [b0];omega) ?_ (by simp only [cx];omega) (λv1 w1 s1 f1 o1=> ?_)
 ·right;refine ⟨b,o,rfl,λj u hj=> ?_⟩;rw [abP,List.getElem?_take] at hj;split at hj
  ·exact hs.cell rfl hj
  ·cases hj
 have e1:Ext w w1:=abR f1 (λb hb=>by cases hb);have n1:bi w.heap.size v1:=λb hb=>(o1 b hb).elim (λh=>by cases h) id
 refine zS2 es r2 ?_;refine sU (M:=L.drop (k+1)) (m:=L.length-(k+1)) s1 (by rw [fq]) ?_ (by rw [d8,b0];omega) (λv2 w2 s2 f2 o2=> ?_)
 ·rcases ht with h|⟨xb,xo,h1,h2,h3⟩
  ·exact .inl h
  ·exact .inr ⟨xb,xo,h1,λj u hj=>e1.cell_some (h3 j u hj)⟩
 refine hK v2 w2 (bA e1 f2 (λx hx=>n1 x hx)) (λb hb=> ?_) ?_
 ·rcases o2 b hb with h|h
  ·exact n1 b h
  ·have:=e1.size;omega
 ·rw [List.eraseIdx_eq_take_drop_succ];rw [d8] at s2;exact s2
def HR {x:Nat×Int} {j:Nat} {u:bL} {B:Nat} {T:TypeId} (hC:ah w B T 2 (λi=> [Value.int .u64 (x.1:Int),.int .i64 x.2].getD i undef)) (hj:(bkL [x])[j]? =some u):w.cell? ⟨B,0+j,none⟩=some u:=by
 rw [Nat.zero_add];rcases j with _|_|j
 ·injection hj with hj;subst hj;exact hC.cell (i:=0) oM
 ·injection hj with hj;subst hj;exact hC.cell (i:=1) oM
 ·simp [bkL] at hj
def HS {P:Nat×Int->Bool}:∀{L:List (Nat×Int)} {k:Nat},k<=L.length->(∀(i:Nat) (h:i<L.length),i<k->P L[i]=true)->(∀h:k<L.length,P L[k]=false)->L.takeWhile P=L.take k/\L.dropWhile P=L.drop k
 | [],0,_,_,_=>⟨rfl,rfl⟩
 | [],k+1,h,_,_=>by simp at h
 |x::L,0,_,_,h=>by
  have:=h (by simp);simp only [c7] at this;simp [this]
 |x::L,k+1,h,h1,h2=>by
  have a:=h1 0 (by simp) oM;simp only [c7] at a;have ih:=HS (P:=P) (L:=L) (k:=k) (by simpa using h) (λi hi hk=>h1 (i+1) (by simpa using hi) oM) (λhk=>h2 (by simpa using hk));simp [a,ih]
def ah5 (hs:BlS w v L) (x:Nat×Int) (hl:L.length<100000) (hp:∀(i:Nat) (h:i<L.length),(L[i]).1<18446744073709551616) (hx:x.1<18446744073709551616) (K:K1) (hK:∀v' w',Ext w w'->bi w.heap.size v'->BlS w' v' (aeq L x)->K v' w'):
  ae prog 58 #[v,.agg #[.int .u64 (x.1:Int),.int .i64 x.2]] w K:=by
 have cB:=ah.new w [.int .u64 (x.1:Int),.int .i64 x.2] 63;have eB:=Ext.alloc_self w (.cells #[.int .u64 (x.1:Int),.int .i64 x.2] 63);have l:=hs.ext eB;refine abn _ _ _ _ ?_;unfold agl;refine zS0 ?_;generalize hwB:w.alloc (.cells #[.int .u64 (x.1:Int),.int .i64 x.2] 63)=wB at*;apply HG (I:=λz5 z6 w'=>∃k:Nat,z6= .int .i64 (k:Int)/\k<=L.length/\Ext wB w'/\bi wB.heap.size z5/\BlS w' z5 (L.take k)/\∀(i:Nat) (h:i<L.length),i<k->decide (pO (L[i]).1<pO x.1)=true) (μ:=λ_ z _=>L.length-(intOf z).toNat)
 ·exact ⟨0,rfl,by omega,Ext.refl _,(λb hb=>by cases hb),SlO.nil _ _ _,λi _ h=>by omega⟩
 ·intros;rename_i z5 z6 w1 hI E1 hE;obtain ⟨k,rfl,hk,e1,n1,s1,hw⟩:=hI;have x0:w1.cell? ⟨w.heap.size,0,none⟩=some (.int .u64 (x.1:Int)):=(cB.ext e1).cell (i:=0) (by simp);have x1:w1.cell? ⟨w.heap.size,1,none⟩=some (.int .i64 x.2):=(cB.ext e1).cell (i:=1) (by simp);have xl:=ax x0;have d:(∀h:k<L.length,decide (pO (L[k]).1<pO x.1)=false)->Mt K v (.pointer (some ⟨w.heap.size,0,none⟩)) z5 (.int .i64 (k:Int)) w1.drew:=λhn=>by
   have g:=HS (P:=λq=>decide (pO q.1<pO x.1)) hk hw hn;obtain ⟨ta,tc,r2,ht⟩:=PK l hk;have e1:Ext wB w1.drew:=e1.drew;have x0:w1.drew.cell? ⟨w.heap.size,0,none⟩=some (.int .u64 (x.1:Int)):=x0;have x1:w1.drew.cell? ⟨w.heap.size,1,none⟩=some (.int .i64 x.2):=x1;have e2:=Ext.alloc_self w1.drew (.cells #[.int .u64 (x.1:Int),.int .i64 x.2] 63);have cN:=ah.new w1.drew [.int .u64 (x.1:Int),.int .i64 x.2] 63;have s2:=(s1.ext (Ext.refl w1).drew).ext e2;rw [Us];unfold HF;refine zS2 x0 x1 ?_;refine sU (M:= [x]) (m:=1) s2 rfl (.inr ⟨w1.drew.heap.size,0,rfl,λj u hj=>HR cN hj⟩) (by rw [b0];omega) (λv3 w3 s3 f3 o3=> ?_);have n3:bi wB.heap.size v3:=λb hb=>(o3 b hb).elim (λh=>n1 b h) (λh=>by have:=e1.size;have:=e2.size;omega)
   have e3:Ext wB w3:=bA (e1.trans e2) f3 (λb hb=>n1 b hb);refine zS1 r2 ?_;refine sU (M:=L.drop k) (m:=L.length-k) s3 (by rw [fq]) ?_ (by rw [aA,b0,cb];omega) (λv4 w4 s4 f4 o4=> ?_)
   ·rcases ht with h|⟨xb,xo,h1,h2,h3⟩
    ·exact .inl h
    ·refine .inr ⟨xb,xo,h1,λj u hj=> ?_⟩;exact e3.cell_some (h3 j u hj)
   refine hK v4 w4 (eB.trans (bA e3 f4 (λb hb=>n3 b hb))) (λb hb=> ?_) ?_
   ·have a:=eB.size;rcases o4 b hb with h|h
    ·have:=n3 b h;omega
    ·have:=e3.size;omega
   ·unfold aeq;rw [g.1,g.2];rw [eP] at s4;exact s4
  have es:(k:Int)+1=((k+1:Nat):Int):=oM;by_cases e:k<L.length
  ·obtain ⟨b,o,cap,rfl,hb,hc,p⟩:=ez (l.ext e1) e;have c0:=(hc k e).1;have c1:=(hc k e).2;have n:=hp k e;have ho:=λ(w:bb) (K:K1)=>uu (L[k]).1 w K n
   have f:=λ(w:bb) (K:K1)=>uu x.1 w K hx
   by_cases lt:pO (L[k]).1<pO x.1
   ·have c:pO (L[k]).1<pO x.1:=lt;have e2:=Ext.alloc_self w1 (.cells #[.int .u64 (((L[k]).1:Nat):Int),.int .i64 (L[k]).2] 63);have cN:=ah.new w1 [.int .u64 (((L[k]).1:Nat):Int),.int .i64 (L[k]).2] 63;have s2:=s1.ext e2.drew;have ht:=cR (b7 e);unfold qv
    (repeat' first|refine am (λ_=> ?_) (λ_=> ?_)|refine ao ?_ ?_|refine gH c0 c1 x0 x1 ho f c c ?_|exact yi c0 c1 x0 x1 ho f c c|fail)
    refine sU (M:= [L[k]]) (m:=1) s2 rfl (.inr ⟨w1.heap.size,0,rfl,λj u hj=>HR cN.drew hj⟩) (by rw [b0];omega) (λv3 w3 s3 f3 o3=> ?_);refine zS1 es ?_;apply hE
    ·refine ⟨k+1,rfl,e,bA (e1.trans e2.drew) f3 (λb hb=>n1 b hb),λb hb=> ?_,by rw [ht];exact s3,λi h hi=> ?_⟩
     ·rcases o3 b hb with h|h
      ·exact n1 b h
      ·have:=e1.size;have:=e2.drew.size;omega
     ·by_cases e3:i=k
      ·subst e3;exact decide_eq_true lt
      ·exact hw i h oM
    ·simp only [intOf];omega
   ·have d:=d (λ_=>decide_eq_false lt);have c:¬pO (L[k]).1<pO x.1:=lt;unfold qv
    (repeat' first|refine am (λ_=> ?_) (λ_=> ?_)|refine ao ?_ ?_|refine gH c0 c1 x0 x1 ho f c c ?_|exact yi c0 c1 x0 x1 ho f c c|fail)
    exact d
  ·have d:=d (λh=>absurd h e);obtain rfl:k=L.length:=oM;obtain ⟨a,cap,rfl,_⟩:=hs.isS';unfold qv
   (repeat' first|refine am (λ_=> ?_) (λ_=> ?_)|refine ao ?_ ?_|refine Rr ?_|exact aj9|fail)
   exact d
def HT (hs:BlS w v L) (x:Nat×Int) (hl:L.length<100000) (hx:x.1<18446744073709551616) (x8:8<=pO x.1) (hp:∀(i:Nat) (h:i<L.length),(L[i]).1<18446744073709551616/\8<=pO (L[i]).1/\(pO (L[i]).1+8*(wordsS (L[i]).2).toNat<pO x.1\/pO x.1+8*(wordsS x.2).toNat<pO (L[i]).1)) (K:K1) (hK:∀w',Ext w w'->K (.bool true) w'):
  ae prog 78 #[v,.agg #[.int .u64 (x.1:Int),.int .i64 x.2]] w K:=by
 have cB:=ah.new w [.int .u64 (x.1:Int),.int .i64 x.2] 63;have eB:=Ext.alloc_self w (.cells #[.int .u64 (x.1:Int),.int .i64 x.2] 63);have c:=hs.ext eB;have m:pO x.1<34359738368:=by unfold pO;omega
 have d:=λ(w:bb) (K:K1)=>uu x.1 w K hx
 have hw:=gR x.2;have e2:1+wordsS x.2=((1+(wordsS x.2).toNat:Nat):Int):=oM;refine abA _ _ _ _ ?_;unfold agn;refine zS3 d @dI e2 ?_;generalize hwB:w.alloc (.cells #[.int .u64 (x.1:Int),.int .i64 x.2] 63)=wB at*;apply HK (I:=λz w'=>∃k:Nat,z= .int .i64 (k:Int)/\k<=L.length/\w'=wB) (μ:=λz _=>L.length-(intOf z).toNat)
 ·exact ⟨0,rfl,by omega,rfl⟩
 ·intros;rename_i z w1 hI E1 hE;obtain ⟨k,rfl,hk,rfl⟩:=hI;have es:(k:Int)+1=((k+1:Nat):Int):=oM;by_cases e:k<L.length
  ·obtain ⟨b,o,cap,rfl,hb,hc,l⟩:=ez c e;have c0:=(hc k e).1;have c1:=(hc k e).2;obtain ⟨g,p,j⟩:=hp k e;have ho:=λ(w:bb) (K:K1)=>uu (L[k]).1 w K g
   have n:pO (L[k]).1<34359738368:=by unfold pO;omega
   have wy:=gR (L[k]).2;have m1:pO (L[k]).1%8=0:=by unfold pO;omega
   have m2:pO x.1%8=0:=by unfold pO;omega
   generalize hy:pO (L[k]).1=y at*;have f2:1+wordsS (L[k]).2=((1+(wordsS (L[k]).2).toNat:Nat):Int):=oM;rcases j with h|h
   ·have g1:y-8<pO x.1-8+8*(1+(wordsS x.2).toNat):=oM;have g2:¬pO x.1-8<y-8+8*(1+(wordsS (L[k]).2).toNat):=oM;unfold qx;refine zS8 c0 c1 ho @dI f2 g1 g2 es ?_;apply hE
    ·exact ⟨k+1,rfl,e,rfl⟩
    ·simp only [intOf];omega
   ·have g1:¬y-8<pO x.1-8+8*(1+(wordsS x.2).toNat):=oM;unfold qx;refine zS8 c0 c1 ho @dI f2 g1 es es ?_;apply hE
    ·exact ⟨k+1,rfl,e,rfl⟩
    ·simp only [intOf];omega
  ·have f:=hK w1 eB;obtain rfl:k=L.length:=oM;obtain ⟨a,cap,rfl,_⟩:=hs.isS';unfold qx;refine zS0 ?_;rw [Uu];exact f
def wsB (L:List (Nat×Int)):Nat:=(L.map λx=>(wordsS x.2).toNat).sum
def abS {k:Nat} (h:k<L.length):wsB (L.take (k+1))=wsB (L.take k)+(wordsS (L[k]).2).toNat:=by
 unfold wsB;rw [cR (b7 h),cm,fx];simp only [cU,List.map_nil,ei,List.sum_nil,en]
def abT:∀(L:List (Nat×Int)),wsB L<=60*L.length
 | []=>aB _
 |x::L=>by
  have:=abT L;have:=(gR x.2).1;unfold wsB at*;simp only [cU,ei,cq];omega
def Uw (hs:BlS w v L) (hl:L.length<100000) (K:K1) (hK:K (.int .i64 (wsB L:Int)) w):
  ae prog 81 #[v] w K:=by
 refine abH _ _ _ ?_;unfold agp;apply HN (I:=λy z w'=>∃k:Nat,z= .int .i64 (k:Int)/\k<=L.length/\y= .int .i64 (wsB (L.take k):Int)/\w'=w) (μ:=λ_ z _=>L.length-(intOf z).toNat)
 ·exact ⟨0,rfl,by omega,rfl,rfl⟩
 ·intros;rename_i y z w1 hI E1 hE;obtain ⟨k,rfl,hk,rfl,rfl⟩:=hI;have es:(k:Int)+1=((k+1:Nat):Int):=oM;by_cases e:k<L.length
  ·obtain ⟨b,o,cap,rfl,hb,hc,c⟩:=ez hs e;have c1:=(hc k e).2;have wy:=gR (L[k]).2;have wt:=abS e;have wl:=abT (L.take k);rw [b0] at wl;have ew:(wsB (L.take k):Int)+wordsS (L[k]).2=((wsB (L.take (k+1)):Nat):Int):=oM;unfold xF;refine zS4 c1 @dI ew es ?_;apply hE
   ·exact ⟨k+1,rfl,e,rfl,rfl⟩
   ·simp only [intOf];omega
  ·obtain rfl:k=L.length:=oM;rw [ct];obtain ⟨a,cap,rfl,_⟩:=hs.isS';unfold xF;refine zS0 ?_;rw [Uv];exact hK
def aes (f:Idx) (L:List Nat):wsB (blM f L)=wsmL f L:=by
 unfold wsB wsmL blM;rw [List.map_map];rfl
end
section
variable {w0 w w':bb} {Y Y':Lay} {D D2 D3:DS} {H:HL} {n k i p q kd Wb b m b1 b2:Nat} {f f2 f3:Idx} {R R2 U keep free:List Nat} {lv hd dd lv' hd' dd' v:bL} {A:List Int} {c t:Int} {LL RL DD:List (Nat×Int)}
def PlS.boxes (h:PlS w0 w Wb lv hd dd Y D H n f R DD):w.cell? ⟨Wb,3,none⟩=some (hpV H)/\w.cell? ⟨Wb,4,none⟩=some (.int .i64 (n:Int))/\w.cell? ⟨Wb,5,none⟩=some lv/\w.cell? ⟨Wb,6,none⟩=some hd/\w.cell? ⟨Wb,7,none⟩=some dd/\Wb<w.heap.size:=by
 have a:=aE h.m.L.bx;exact ⟨a.2.2.2.1,a.2.2.2.2.1,a.2.2.2.2.2.1,a.2.2.2.2.2.2.1,a.2.2.2.2.2.2.2,h.m.L.bx.lt⟩
def PlS.cell (h:PlS w0 w Wb lv hd dd Y D H n f R DD) {L:List Nat} (s:BlS w v (blM f L)) {j:Nat} (e:j<L.length):∃b o cap,v= .slice (some ⟨b,o,none⟩) L.length cap/\b<w.heap.size/\w.cell? ⟨b,o+j*2,none⟩=some (.int .u64 ((L[j]:Nat):Int))/\w.cell? ⟨b,o+j*2+1,none⟩=some (.int .i64 (f (hk L[j])).1):=by
 have e':j<(blM f L).length:=by rw [bE];exact e
 obtain ⟨b,o,cap,hv,hb,hc,c⟩:=ez s e';rw [bE] at hv;have a:=hc j e';rw [jk e'] at a;exact ⟨b,o,cap,hv,hb,a.1,a.2⟩
def ai1 (h:PlS w0 w Wb lv hd dd Y D H n f R DD) (c1:ah w b1 23 1 (λ_=> .pointer (some ⟨Wb,0,none⟩))) (c2:ah w b2 4 1 (λ_=> .bool false)) (hl:DD.length<1000000) (K:K1) (hK:∀w',Frm (λx=>x=b2) w w'->K (.bool true) w'):
  L8 K (.pointer (some ⟨b1,0,none⟩)) (.pointer (some ⟨b2,0,none⟩)) dd (.int .i64 (DD.length:Int)) (.int .i64 0) w:=by
 have nn:=h.m.nn;apply G6 (I:=λz w'=>∃j:Nat,z= .int .i64 (j:Int)/\j<=DD.length/\Ext w w') (μ:=λz _=>DD.length-(intOf z).toNat)
 ·exact ⟨0,rfl,by omega,Ext.refl _⟩
 ·intros;rename_i z w1 hI E1 hE;obtain ⟨j,rfl,hj,e1⟩:=hI;have h1:=h.ext e1;have es:(j:Int)+1=((j+1:Nat):Int):=oM;by_cases e:j<DD.length
  ·obtain ⟨b,o,cap,rfl,hb,hc,g⟩:=ez h1.m.sD e;have q0:=(hc j e).1;have q4:=(hc j e).2;have q1:w1.cell? ⟨b1,0,none⟩=some (.pointer (some ⟨Wb,0,none⟩)):=(c1.ext e1).cell (i:=0) oM;have l1:=ax q1;have q3:=h1.boxes.1;have lW:=h1.boxes.2.2.2.2.2;have dp:=h.dp _ (bk e);have nl:=(dp.no h.m.L.hp.rg nn.1 h.gn).1;have hp:=dp.2.1;unfold xk;refine zS4 q0 q4 q1 q3 ?_;refine gQ (h1.m.L.hp.ext xZ) hp 0 oM _ (λhl=>absurd hl nl) (λ_ x hx _ w2 e2=> ?_);have c:Ext w1 w2:=Ext.trans xZ e2;refine zS2 hx es ?_;apply hE
   ·exact ⟨j+1,rfl,e,e1.trans c⟩
   ·simp only [intOf];omega
  ·obtain rfl:j=DD.length:=oM;have g2:=c2.ext e1;have q2:w1.cell? ⟨b2,0,none⟩=some (.bool false):=g2.cell (i:=0) oM;have fz:=g2.frz 0;have l2:=ax q2;have q3:(w1.setCell ⟨b2,0,none⟩ (.bool true)).cell? ⟨b2,0,none⟩=some (.bool true):=(g2.set (i:=0) (.bool true) oM).cell (i:=0) oM;have d:=hK (w1.setCell ⟨b2,0,none⟩ (.bool true)) (((Frm.refl _ _).ext e1).set _ (λ_=>rfl));obtain ⟨a,cap,rfl,_⟩:=h.m.sD.isS';unfold xk;refine zS0 ?_;rw [Uc];unfold G5;refine zS3 q2 fz q3 ?_;exact d
def ai2 (h:PlS w0 w Wb lv hd dd Y D H n f R DD) (c1:ah w b1 23 1 (λ_=> .pointer (some ⟨Wb,0,none⟩))) (c2:ah w b2 4 1 (λ_=> .bool false)) (hl:DD.length<1000000) (hR:R.length<1000000) (K:K1) (hK:∀w',Frm (λx=>x=b2) w w'->K (.bool true) w'):
  LZ K (.pointer (some ⟨b1,0,none⟩)) (.pointer (some ⟨b2,0,none⟩)) hd (.int .i64 (R.length:Int)) (.int .i64 0) w:=by
 have nn:=h.m.nn;have hr:∀p∈R,p<18446744073709551616:=λp hp=>by have:=(h.m.L.at_ (.inl hp)).2.2;omega
 apply G4 (I:=λz w'=>∃j:Nat,z= .int .i64 (j:Int)/\j<=R.length/\Ext w w') (μ:=λz _=>R.length-(intOf z).toNat)
 ·exact ⟨0,rfl,by omega,Ext.refl _⟩
 ·intros;rename_i z w1 hI E1 hE;obtain ⟨j,rfl,hj,e1⟩:=hI;have h1:=h.ext e1;have es:(j:Int)+1=((j+1:Nat):Int):=oM;have q1:w1.cell? ⟨b1,0,none⟩=some (.pointer (some ⟨Wb,0,none⟩)):=(c1.ext e1).cell (i:=0) oM;have l1:=ax q1;have q3:=h1.boxes.1;have q7:=h1.boxes.2.2.2.2.1;have lW:=h1.boxes.2.2.2.2.2;by_cases e:j<R.length
  ·obtain ⟨b,o,cap,rfl,hb,q0,q4⟩:=h1.cell h1.m.sH e;have hm:R[j]∈R:=bk e;generalize R[j]=p at*;obtain ⟨at_,p0,pl⟩:=h.m.L.at_ (.inl hm);have rs:=h.m.L.hp.rv p hm;have nl:=rs.not_liv oM h.m.L.hp.rg;unfold xj;refine zS4 q0 q4 q1 q3 ?_;refine mv (h1.m.L.hp.ext xZ) hr at_.1 at_.2.1 at_.2.2.2.1 oM p0 at_.2.2.2.2 (.inl hm) _ (λw2 e2=> ?_);have c:Ext w1 w2:=Ext.trans xZ e2;have h2:=h1.ext c;have u3:=h2.boxes.1;have mW:=h2.boxes.2.2.2.2.2;have u1:=c.cell_some q1;have m1:=ax u1;have v0:w2.cell? ⟨w1.heap.size,0,none⟩=some (.int .u64 (p:Int)):=e2.cell_some (by simp (disch:=try exact dZ) only [↓RBp,↓RA,↓reduceIte,Nat.reduceAdd,Nat.reduceMul,Nat.reduceEqDiff,RB,RX,RA2]);have v1:w2.cell? ⟨w1.heap.size,1,none⟩=some (.int .i64 (f (hk p)).1):=e2.cell_some (by simp (disch:=try exact dZ) only [↓RBp,↓RA,↓reduceIte,Nat.reduceAdd,Nat.reduceMul,Nat.reduceEqDiff,RB,RX,RA2]);refine zS6 @dI u1 u3 v0 v1 v1 ?_;refine gQ (h2.m.L.hp.ext xZ) (p:=p) oM 0 oM _ (λhl=>absurd hl nl) (λ_ e _ he w3 e3=> ?_);have ee:=he rs;subst ee;have d:Ext w1 w3:=Ext.trans c (Ext.trans xZ e3);have h3:=h1.ext d;refine zS0 ?_;apply hE
   ·exact ⟨j+1,by rw [es],by omega,e1.trans d⟩
   ·simp only [intOf];omega
  ·obtain rfl:j=R.length:=oM;have k:=ai1 h1 (c1.ext e1) (c2.ext e1) hl K (λw' g=>hK w' (((Frm.of_ext e1).trans g (λx _ h=>h))));obtain ⟨a,cap,e5,_⟩:=h.m.sD.isS';subst e5;unfold xj;refine zS0 ?_;rw [Ub];unfold G3;refine zS2 q1 q7 ?_;exact k
def ai3 (h:PlS w0 w Wb lv hd dd Y D H n f R DD) (c1:ah w b1 23 1 (λ_=> .pointer (some ⟨Wb,0,none⟩))) (c2:ah w b2 4 1 (λ_=> .bool false)) (hl:DD.length<1000000) (hR:R.length<1000000) (K:K1) (hK:∀w',Frm (λx=>x=b2) w w'->K (.bool true) w'):
  LY K (.pointer (some ⟨b1,0,none⟩)) (.pointer (some ⟨b2,0,none⟩)) lv (.int .i64 ((livN D f n).length:Int)) (.int .i64 0) w:=by
 have nn:=h.m.nn;have r:=gT h.m.L.hp.rg n (aB _);have hr:∀p∈R,p<18446744073709551616:=λp hp=>by have:=(h.m.L.at_ (.inl hp)).2.2;omega
 apply G2 (I:=λz w'=>∃j:Nat,z= .int .i64 (j:Int)/\j<=(livN D f n).length/\Ext w w') (μ:=λz _=>(livN D f n).length-(intOf z).toNat)
 ·exact ⟨0,rfl,by omega,Ext.refl _⟩
 ·intros;rename_i z w1 hI E1 hE;obtain ⟨j,rfl,hj,e1⟩:=hI;have h1:=h.ext e1;have es:(j:Int)+1=((j+1:Nat):Int):=oM;have q1:w1.cell? ⟨b1,0,none⟩=some (.pointer (some ⟨Wb,0,none⟩)):=(c1.ext e1).cell (i:=0) oM;have l1:=ax q1;have q3:=h1.boxes.1;have q6:=h1.boxes.2.2.2.1;have lW:=h1.boxes.2.2.2.2.2;by_cases e:j<(livN D f n).length
  ·obtain ⟨b,o,cap,rfl,hb,q0,q4⟩:=h1.cell h1.m.sL e;have hm:(livN D f n)[j]∈livN D f n:=bk e;generalize (livN D f n)[j]=p at*;have lp:=(bn h.m.L.hp.rg).1 hm;obtain ⟨at_,p0,pl⟩:=h.m.L.at_ (.inr lp);have kp:pK p<256:=by unfold pK;omega
   unfold xi;refine zS4 q0 q4 q1 q3 ?_;refine mv (h1.m.L.hp.ext xZ) hr at_.1 at_.2.1 at_.2.2.2.1 oM p0 at_.2.2.2.2 (.inr lp) _ (λw2 e2=> ?_);have d:Ext w1 w2:=Ext.trans xZ e2;have h2:=h1.ext d;have u3:=h2.boxes.1;have mW:=h2.boxes.2.2.2.2.2;have u1:=d.cell_some q1;have m1:=ax u1;have v0:w2.cell? ⟨w1.heap.size,0,none⟩=some (.int .u64 (p:Int)):=e2.cell_some (by simp (disch:=try exact dZ) only [↓RBp,↓RA,↓reduceIte,Nat.reduceAdd,Nat.reduceMul,Nat.reduceEqDiff,RB,RX,RA2]);have v1:w2.cell? ⟨w1.heap.size,1,none⟩=some (.int .i64 (f (hk p)).1):=e2.cell_some (by simp (disch:=try exact dZ) only [↓RBp,↓RA,↓reduceIte,Nat.reduceAdd,Nat.reduceMul,Nat.reduceEqDiff,RB,RX,RA2]);refine zS6 @dI u1 u3 v0 v1 v1 ?_;refine gQ (h2.m.L.hp.ext xZ) (p:=p) oM 0 oM _ (λhl w3 e3=> ?_) (λhn=>absurd lp hn);have c:Ext w1 w3:=Ext.trans d (Ext.trans xZ e3);have h3:=h1.ext c;have x3:=h3.boxes.1;have xW:=h3.boxes.2.2.2.2.2;have x1:=c.cell_some q1;have y1:=ax x1;have z0:w3.cell? ⟨w1.heap.size,0,none⟩=some (.int .u64 (p:Int)):=(Ext.trans xZ e3:Ext w2 w3).cell_some v0;have k:∀(w2:bb) (K:K1),ae prog 60 #[.int .u64 (p:Int)] w2 K=K (.int .u8 ((pK p:Nat):Int)) w2:=λw2 K=>gB p w2 K oM
   refine zS6 k x1 x3 z0 @true_or @true_or ?_;refine ⟨trivial,trivial,trivial,trivial,trivial,trivial,?_⟩;refine gQ (h3.m.L.hp.ext xZ) (p:=p) oM (pK p) oM _ (λhl w4 e4=> ?_) (λhn=>absurd lp hn);have q:Ext w1 w4:=Ext.trans c (Ext.trans xZ e4);refine zS2 @or_true @true_or ?_;apply hE
   ·exact ⟨j+1,by rw [es],by omega,e1.trans q⟩
   ·simp only [intOf];omega
  ·obtain rfl:j=(livN D f n).length:=oM;have l:=ai2 h1 (c1.ext e1) (c2.ext e1) hl hR K (λw' g=>hK w' (((Frm.of_ext e1).trans g (λx _ h=>h))));obtain ⟨a,cap,e5,_⟩:=h.m.sH.isS';rw [bE] at e5;subst e5;unfold xi;refine zS0 ?_;rw [Ua];unfold G1;refine zS2 q1 q6 ?_;exact l
def aet (h:PlS w0 w Wb lv hd dd Y D H n f R DD) {w1:bb} (e:Ext w w1) {b3 b4:Nat} (c1:ah w1 b1 23 1 (λ_=> .pointer (some ⟨Wb,0,none⟩))) (c4:ah w1 b4 33 1 (λ_=>hpV H)) (c2:ah w1 b2 4 1 (λ_=> .bool false)) (c3:ah w1 b3 3 1 (λ_=> .int .i64 ((0:Nat):Int))) (N:w.heap.size<=b3) (ne:b3≠b1/\b3≠b2/\b3≠b4) {x0 x16 x17 x18 x19 x20:bL} {KN KR:List Nat->bb->Prop}
  (r:∀w',Ext w w'->w'.heap[w1.heap.size]? =some (.deferred (some []))->ah w' b1 23 1 (λ_=> .pointer (some ⟨Wb,0,none⟩))->ah w' b2 4 1 (λ_=> .bool false)->ah w' b3 3 1 (λ_=> .int .i64 ((livN D f n).length:Int))->KN [w1.heap.size] w'):
  rgT prog (.func (.func 134) #[] #[.pointer (some ⟨b4,0,none⟩)]) #[21] iV iW KN KR [] (iX x0 (.pointer (some ⟨b1,0,none⟩)) (.pointer (some ⟨b2,0,none⟩)) (.pointer (some ⟨b3,0,none⟩)) x16 x17 x18 x19 x20) w1:=by
 have nn:=h.m.nn;have M:=c1.lt;have G:=c2.lt;have J:=c3.lt;have I:=c4.lt;have K:=gT h.m.L.hp.rg n (aB _);refine ⟨by kernel_rfl,λfn w2 e2 P hD B=> ?_⟩;have c:=e.trans e2;show ae prog 134 #[.func (.yield (w1.heap.size+1)) #[] #[],.pointer (some ⟨b4,0,none⟩)] w2 _;refine PB (h.m.L.hp.ext c) (c4.ext e2) (λx=>x=w1.heap.size+1\/x=b3) (λx hx=> ?_) (λs w3=>Lp w3 (w1.heap.size+1) fn #[21] iV iW (iX x0 (.pointer (some ⟨b1,0,none⟩)) (.pointer (some ⟨b2,0,none⟩)) (.pointer (some ⟨b3,0,none⟩)) x16 x17 x18 x19 x20) w1.heap.size .ready none/\w3.heap[w1.heap.size]? =some (.deferred (some []))/\Ext w w3/\ah w3 b1 23 1 (λ_=> .pointer (some ⟨Wb,0,none⟩))/\ah w3 b2 4 1 (λ_=> .bool false)/\ah w3 b3 3 1 (λ_=> .int .i64 (s.length:Int))) (λ_=>False) (λw3 e3=> ?_) (λs w3 w4 hj e4=> ?_) (λs w3 hj=>h.m.L.hp.ext hj.2.2.1) (λs p t w3 K' hl hj z _=> ?_) _ (λw3 hj=> ?_) (λw3 hx=>hx.elim)
 ·rcases hx with e1|e1
  ·exact ⟨by omega,by omega⟩
  ·exact ⟨by omega,by rw [e1];exact ne.2.2⟩
 ·exact ⟨B.ext e3,(e3.blk _ (ay hD)).trans hD,c.trans e3,c1.ext (e2.trans e3),c2.ext (e2.trans e3),c3.ext (e2.trans e3)⟩
 ·obtain ⟨j1,j2,j3,j4,j5,j6⟩:=hj;exact ⟨j1.ext e4,(e4.blk _ (ay j2)).trans j2,j3.trans e4,j4.ext e4,j5.ext e4,j6.ext e4⟩
 ·obtain ⟨j1,j2,j3,j4,j5,j6⟩:=hj;have v:s.length<(livN D f n).length:=by rw [hl];simp
  have l:(livN D f n)[s.length]=p:=by simp [hl]
  have es:(s.length:Int)+1=(((s++ [p]).length:Nat):Int):=by simp
  have O:(s++ [p]).length<1000000000:=by rw [aA,cb];omega
  refine aau j1 ?_;unfold G7 LX;refine ⟨j1,λw4 g4 y=> ?_⟩;have A:Ext w w4:=bA j3 g4 (λx hx=>by have:=e.size;omega);have k2:=(g4.block _ (ay j2) oM).trans j2;have k4:=j4.frm g4 oM;have k5:=j5.frm g4 oM;have k6:=j6.frm g4 oM;have h4:=h.ext A;obtain ⟨b,o,cap,rfl,hb,q0,q4⟩:=h4.cell h4.m.sL v;rw [l] at q0;have q3:=h4.boxes.1;have q6:=h4.boxes.2.2.1;have lW:=h4.boxes.2.2.2.2.2;have u:w4.cell? ⟨b1,0,none⟩=some (.pointer (some ⟨Wb,0,none⟩)):=k4.cell (i:=0) oM;have q:w4.cell? ⟨b3,0,none⟩=some (.int .i64 (s.length:Int)):=k6.cell (i:=0) oM;have C:=k4.lt;have E:=k6.lt;have fz:=k6.frz 0;have m7:=k6.set (i:=0) (.int .i64 (((s++ [p]).length:Nat):Int)) oM;have g:Frm (λx=>x=b3) w4 (w4.setCell ⟨b3,0,none⟩ (.int .i64 (((s++ [p]).length:Nat):Int))):=Frm.set (F:=λx=>x=b3) (Frm.refl _ w4) (p:=⟨b3,0,none⟩) _ (λ_=>rfl);have d:¬((s.length:Int)>=((livN D f n).length:Int)):=oM;generalize hs':s.length=sl at*;refine zS8 u q q6 q0 fz es d d ?_;have gd:=g.drew;have k:=y.frm gd oM;have m3:=(gd.block _ (ay k2) oM).trans k2;refine ⟨k,λw6 g6 j=> ?_⟩;have a:Frm (λx=>x=w1.heap.size+1\/x=b3) w3 w6:=((g4.mono (λx h=> .inl h)).trans gd (λx _ h=> .inr h)).trans g6 (λx _ h=> .inl h);have z4:=(k4.frm gd (λe=>ne.1 e.symm)).frm g6 oM;have z5:=(k5.frm gd (λe=>ne.2.1 e.symm)).frm g6 oM;exact z w6 a ⟨j,(g6.block _ (ay m3) oM).trans m3,bA j3 a (λx hx=>by have:=e.size;omega),z4,z5,((m7.congr (λi hi=>by rw [show i=0 by omega,if_pos rfl])).drew).frm g6 oM⟩
 ·obtain ⟨j1,j2,j3,j4,j5,j6⟩:=hj;refine ⟨.ready,none,by simp,j1,λw4 g4=> ?_⟩;exact r w4 (bA j3 g4 (λx h=>by have:=e.size;omega)) ((g4.block _ (ay j2) oM).trans j2) (j4.frm g4 oM) (j5.frm g4 oM) (j6.frm g4 oM)
def yr {T:TypeId} {u:bL}:∀w:bb,ah (w.alloc (.cells #[u] T)) w.heap.size T 1 (λ_=>u):=λw=>(ah.new w [u] T).congr (λi hi=>by rw [show i=0 by simpa using hi];rfl)
def ai4 {k:K1} (h:∀b w1,Ext w w1->w.heap.size<=b->b<w1.heap.size->ah w1 b 23 1 (λ_=> .pointer (some ⟨Wb,0,none⟩))->k (.pointer (some ⟨b,0,none⟩)) w1):ev prog (Instr.box 23 (.pointer (some ⟨Wb,0,none⟩))) w k:=by
 have h1:=h w.heap.size _ (Ext.alloc_self w _) oM (by rw [size_alloc];omega) (yr w);refine zS0 ?_;exact h1
def ai5 {k:K1} (h:∀b w1,Ext w w1->w.heap.size<=b->b<w1.heap.size->ah w1 b 4 1 (λ_=> .bool false)->k (.pointer (some ⟨b,0,none⟩)) w1):ev prog (Instr.alloc 4 true (.tuple #[])) w k:=by
 have h1:=h w.heap.size _ (Ext.alloc_self w _) oM (by rw [size_alloc];omega) (yr w);refine zS0 ?_;exact h1
def ai6 {k:K1} (h:∀b w1,Ext w w1->w.heap.size<=b->b<w1.heap.size->ah w1 b 3 1 (λ_=> .int .i64 ((0:Nat):Int))->k (.pointer (some ⟨b,0,none⟩)) w1):ev prog (Instr.alloc 3 true (.tuple #[])) w k:=by
 have h1:=h w.heap.size _ (Ext.alloc_self w _) oM (by rw [size_alloc];omega) (yr w);refine zS0 ?_;exact h1
def ai7 {k:K1} (h:∀b w1,Ext w w1->w.heap.size<=b->b<w1.heap.size->ah w1 b 33 1 (λ_=>hpV H)->k (.func (.func 134) #[] #[.pointer (some ⟨b,0,none⟩)]) w1):ae prog 80 #[hpV H] w k:=aa1 k (h w.heap.size _ (Ext.alloc_self w _) oM (by rw [size_alloc];omega) (yr w))
def gU (h:PlS w0 w Wb lv hd dd Y D H n f R DD) (hl:DD.length<1000000) (hR:R.length<1000000) (K:K1) (hK:∀w',Ext w w'->K (.bool true) w'):
  ae prog 25 #[.pointer (some ⟨Wb,0,none⟩)] w K:=by
 have nn:=h.m.nn;have o:=gT h.m.L.hp.rg n (aB _);have r:=Li f n;obtain ⟨la,lc,rfl,_⟩:=h.m.sL.isS';obtain ⟨ha,hc,rfl,_⟩:=h.m.sH.isS';have b:=bE f (livN D f n);have e:=bE f R;refine aat _ _ _ ?_;unfold af5;refine ai4 (λb1 wA eA n1 l1 c1=>ai5 (λb2 wB eB n2 l2 c2=>ai6 (λb3 wC eC n3 l3 c3=> ?_)));have zA:=eA.size;have zB:=eB.size;have zC:=eC.size;have r1:wC.cell? ⟨b1,0,none⟩=some (.pointer (some ⟨Wb,0,none⟩)):=(c1.ext (eB.trans eC)).cell (i:=0) oM;have fz:=c3.frz 0;have r3:=c3.cell (i:=0) oM;have eS:Ext w (wC.setCell ⟨b3,0,none⟩ (.int .i64 0)):=Ext.setB (eA.trans (eB.trans eC)) oM _;have gS:Frm (λx=>x=b3) wC (wC.setCell ⟨b3,0,none⟩ (.int .i64 0)):=(Frm.refl _ _).set (p:=⟨b3,0,none⟩) _ (λ_=>rfl);have s1:=(c1.ext (eB.trans eC)).frm gS oM;have s2:=(c2.ext eC).frm gS oM;have s3:ah (wC.setCell ⟨b3,0,none⟩ (.int .i64 0)) b3 3 1 (λ_=> .int .i64 ((0:Nat):Int)):=(c3.set (i:=0) (.int .i64 0) oM).congr (λi hi=>by rw [show i=0 by omega,if_pos rfl];rfl);have u1:=s1.cell (i:=0) oM;have hS:=h.ext eS;have qS:=hS.boxes.1;have lW:=hS.boxes.2.2.2.2.2;have l5:=s1.lt;refine zS6 r1 fz r3 u1 qS qS ?_;refine ai7 (λb4 wD eD n4 l4 c4=> ?_);have x1:=s1.ext eD;refine aet h (eS.trans eD) x1 c4 (s2.ext eD) (s3.ext eD) oM (by have:=s2.lt;have:=s3.lt;omega) (λw6 e6 d6 m1 m2 m3=> ?_);have h6:=h.ext e6;have q3:=h6.boxes.1;have q4:=h6.boxes.2.1;have q5:=h6.boxes.2.2.1;have q6:=h6.boxes.2.2.2.1;have q7:=h6.boxes.2.2.2.2.1;have lW:=h6.boxes.2.2.2.2.2;have v1:=m1.cell (i:=0) oM;have v3:=m3.cell (i:=0) oM;have l1:=m1.lt;refine zS2 v1 q3 ?_;refine PC h6.m.L.hp _ (λw7 e7=> ?_);have h7:=h6.ext e7;have z3:=h7.boxes.1;have z4:=h7.boxes.2.1;have z5:=h7.boxes.2.2.1;have z6:=h7.boxes.2.2.2.1;have z7:=h7.boxes.2.2.2.2.1;have q:=h7.boxes.2.2.2.2.2;have y1:=(m1.ext e7).cell (i:=0) oM;have y3:=(m3.ext e7).cell (i:=0) oM;have l1:=(m1.ext e7).lt;have l3:=(m3.ext e7).lt;refine zS8 y1 y3 z3 z4 z5 z6 b b ?_;refine Uw (L:=blM f (livN D f n)) (by rw [<-b];exact h7.m.sL.ext xZ) oM _ ?_;have t:=aaZ (f:=f) (livN D f n);have l:¬((frC f n:Int)<0):=oM;have k:¬((frC f n:Int)>(n:Int)):=oM;refine jH @aes y1 y3 z3 z4 z5 z6 b e l k ?_;refine ⟨trivial,trivial,?_⟩;refine LU (h7.m.L.hp.ext xZ) _ (λw9 e9=> ?_);have a:Ext w7 w9:=Ext.trans xZ e9;have h9:=h7.ext a;have t3:=h9.boxes.1;have t4:=h9.boxes.2.1;have t5:=h9.boxes.2.2.1;have t6:=h9.boxes.2.2.2.1;have t7:=h9.boxes.2.2.2.2.1;have u:=h9.boxes.2.2.2.2.2;have zS:(wC.setCell ⟨b3,0,none⟩ (.int .i64 0)).heap.size=wC.heap.size:=by simp only [RZ]
 have zD:=eD.size;have c:=(m1.ext e7).ext a;have j:=(m2.ext e7).ext a;have r1:=c.cell (i:=0) oM;have s:=c.lt;have nl:¬((n:Int)<(frC f n:Int)):=oM;have d:=ai3 h9 c j hl hR (rsK K [wD.heap.size]) (λw' g=>⟨(g.block _ (ay ((a.blk _ (ay ((e7.blk _ (ay d6)).trans d6))).trans ((e7.blk _ (ay d6)).trans d6))) oM).trans ((a.blk _ (ay ((e7.blk _ (ay d6)).trans d6))).trans ((e7.blk _ (ay d6)).trans d6)),λw'' g'=>hK w'' (bA (bA (e6.trans (e7.trans a)) g (λx hx=>by omega)) g' (λx hx=>by omega))⟩);refine zS8 r1 t3 t4 t5 t6 nl b e ?_;rw [b] at d;exact ⟨trivial,trivial,trivial,trivial,trivial,trivial,d⟩
end
def abU (p:Nat) (w:bb) (K:K1) (hp:p<72057594037927936) (o0:pO p≠0) (g0:pG p≠0) (k0:pK p≠0) (k7:pK p<=127):ae prog 133 #[.int .u64 (p:Int)] w K=K (.bool true) w:=by
 refine aD (by kernel_rfl) (Ts _ _ _ ?_) K;unfold YB;have e:p/2^56=0:=oM;have hO:=λ(w:bb) (K:K1)=>fN p w K oM
 have hG:=λ(w:bb) (K:K1)=>oP p w K oM
 have hK:=λ(w:bb) (K:K1)=>gB p w K oM
 have b1:¬(pO p:Int)=0:=oM;have b2:¬(pG p:Int)=0:=oM;have b3:¬(pK p:Int)=0:=oM;have b4:(pK p:Int)<=127:=oM;have c4:¬(127:Int)<(pK p:Int):=oM;exact yg e hO hG hK b1 b2 b3 b4 c4 c4 c4
def abV (p s:Nat) (w:bb) (K:K1) (hp:p<72057594037927936) (o0:pO p≠0) (g0:pG p≠0) (k0:pK p≠0) (k7:pK p<=127) (hs:pO p<s) (a:s<18446744073709551616):ae prog 77 #[.int .u64 (p:Int),.int .u64 (s:Int)] w K=K (.bool true) w:=by
 refine aD (by kernel_rfl) (Yh _ _ _ _ ?_) K;unfold afr;have hO:=λ(w:bb) (K:K1)=>fN p w K oM
 have hF:=λ(w:bb) (K:K1)=>abU p w K hp o0 g0 k0 k7
 have b1:(pO p:Int)<(s:Int):=oM;exact yS3 hO hF b1
section
variable {w0 w w':bb} {Y Y':Lay} {D D2 D3:DS} {H:HL} {n k i p q kd Wb b m b1 b2:Nat} {f f2 f3:Idx} {R R2 U keep free:List Nat} {lv hd dd lv' hd' dd' v:bL} {A:List Int} {c t x:Int} {LL RL DD:List (Nat×Int)}
def Rsv.okp (h:Rsv D f n p) (nn:D.n<=4096) (rg:RgS D 26 n f):pO p≠0/\pG p≠0/\1664<=pO p/\pO p+8*(wordsS (f (hk p)).1).toNat<=D.n*64/\pO p%8=0:=by
 have i:=rg.lt;have a:=h.at_ oM rg;obtain ⟨⟨a1,a2,a3,a4,a5⟩,b,c,d⟩:=a;have hb:=aK a2 a3 a4;have j:=bB a2 a3 (show 0<=(ixP f p:Int) by omega) a4;have hg:=X2 ((rg.sn _ a1 a2).gd _ a4);have ho:pO p=(26+32*hk p)*64+offN (f (hk p)).1 (ixP f p)*8+8:=a5;have e:=dJ (wd D (26+32*hk p) (offN (f (hk p)).1 (ixP f p)));have hw:=gR (f (hk p)).1;generalize bG (wd D (26+32*hk p) (offN (f (hk p)).1 (ixP f p)))=g at*;have gp:pG p=g:=(congrArg pG c).trans (vZ _ _ _ oM e);generalize wordsS (f (hk p)).1=ww at*;generalize offN (f (hk p)).1 (ixP f p)=oo at*;generalize hk p=kk at*;omega
def ai8 {wv:Int} (h:LW w0 w Wb lv hd dd Y D H n f R) (b:wv=(m:Int)) (hp:p<18446744073709551616) (p0:p≠0) {b11:Nat} (hm:m<=60) (hz:∀j,j<m->D.cur (pO p/8+j)=0) (h8:pO p%8=0) (hl:pO p+8*m<=D.n*64) (K:K1) (hK:∀w',Ext w w'->Ep K (.pointer (some ⟨Wb,0,none⟩)) (.pointer (some ⟨b11,0,none⟩)) w'):
  Md K (.pointer (some ⟨Wb,0,none⟩)) (.int .u64 (p:Int)) (.pointer (some ⟨b11,0,none⟩)) (.int .i64 wv) (.int .i64 0) w:=by
 subst b;have nn:=h.hp.n4;apply Hf (I:=λz w'=>∃j:Nat,z= .int .i64 (j:Int)/\j<=m/\Ext w w') (μ:=λz _=>m-(intOf z).toNat)
 ·exact ⟨0,rfl,by omega,Ext.refl _⟩
 ·intros;rename_i z w1 hI E1 hE;obtain ⟨j,rfl,hj,e1⟩:=hI;have h1:=h.ext e1;have es:(j:Int)+1=((j+1:Nat):Int):=oM;have q1:=(aE h1.bx).2.1;have lW:=h1.bx.lt;by_cases e:j<m
  ·have hA:=λ(w:bb) (K:K1)=>Pu p j w K p0 hp oM
   have ed:(pO p+8*j)/8=pO p/8+j:=oM;have hL:=λ(w2:bb) (e:Ext w1 w2) (K:K1)=>oB ((h1.ext e).hp.ar.L.dv) h1.hp.rg.gd 0 oM h1.hp.rg.on.1 (pO p+8*j) oM oM K
   rw [ed,hz j e] at hL;unfold xq;refine ia q1 hA hL ?_;refine ⟨trivial,trivial,trivial,?_⟩;apply hE
   ·exact ⟨j+1,by rw [es],by omega,e1.trans xZ⟩
   ·simp only [intOf];omega
  ·obtain rfl:j=m:=oM;have a:=hK w1 e1;unfold xq;refine zS0 ?_;exact a
def ai9 {hd:bL} {x:Nat×Int} {b11:Nat} (h:PlM w0 w Wb lv hd dd Y D H n f R LL RL DD) (hn:w0.heap.size<=b11) (hC:ah w b11 63 2 (λi=> [Value.int .u64 (x.1:Int),.int .i64 x.2].getD i undef)) (hl:RL.length<100000) (K:K1)
  (hK:∀hd' w',PlM w0 w' Wb lv hd' dd Y D H n f R LL (RL++ [x]) DD->Frm (λb=>b=Wb\/hd.ownBlock=some b) w w'->(∀b,hd'.ownBlock=some b->hd.ownBlock=some b\/w.heap.size<=b)->K (.bool true) w'):
  Ep K (.pointer (some ⟨Wb,0,none⟩)) (.pointer (some ⟨b11,0,none⟩)) w:=by
 have c6:=(aE h.L.bx).2.2.2.2.2.2.1;have lW:=h.L.bx.lt;have d0:w.cell? ⟨b11,0,none⟩=some (.int .u64 (x.1:Int)):=hC.cell (i:=0) oM;have d1:w.cell? ⟨b11,1,none⟩=some (.int .i64 x.2):=hC.cell (i:=1) oM;have c:=hC.lt;rw [Uj];unfold He;have eN:Ext w (w.alloc (.cells #[.int .u64 (x.1:Int),.int .i64 x.2] 63)).drew:=Ext.drew (Ext.alloc_self _ _);have cN:ah (w.alloc (.cells #[.int .u64 (x.1:Int),.int .i64 x.2] 63)).drew w.heap.size 63 2 (λi=> [Value.int .u64 (x.1:Int),.int .i64 x.2].getD i undef):=(ah.new w [.int .u64 (x.1:Int),.int .i64 x.2] 63).drew;refine zS3 c6 d0 d1 ?_;refine ⟨trivial,trivial,trivial,trivial,?_⟩;refine (h.ext eN).appH (x:=x) (cN.cell (i:=0) oM) (cN.cell (i:=1) oM) hl (λhd' w' L' P' o1 f' a=> ?_);have z6:=(aE L'.bx).2.2.2.2.2.2.1;have fz:=L'.bx.frz 6;have lz:=L'.bx.lt;refine zS3 o1 z6 fz ?_;refine hK hd' _ P' ?_ (λb hb=>(a b hb).imp id (λe=>by have:=eN.size;omega));exact (((Frm.of_ext eN).trans (f'.mono (λx h=> .inr h)) (λx _ h=>h)).set (p:=⟨Wb,6,none⟩) _ (λ_=> .inl rfl))
def aja {f:Idx} {L:List Nat} {i:Nat} (h:i<(blM f L).length):∃q∈L,(blM f L)[i]=(q,(f (hk q)).1):=by
 rw [jk h];exact ⟨_,bk _,rfl⟩
def ags (h:LW w0 w Wb lv hd dd Y D H n f (R++ [p])) {L:List Nat} (hL:∀q∈L,Liv D f n q\/q∈R) (hc:(f (hk p)).1=c):∀(i:Nat) (e:i<(blM f L).length),((blM f L)[i]).1<18446744073709551616/\8<=pO ((blM f L)[i]).1/\(pO ((blM f L)[i]).1+8*(wordsS ((blM f L)[i]).2).toNat<pO p\/pO p+8*(wordsS c).toNat<pO ((blM f L)[i]).1):=by
 intro i e;obtain ⟨q,hq,eq⟩:=aja e;rw [eq];have nn:=h.hp.n4;have rg:=h.hp.rg;have rs:=h.hp.rv p (by simp);have ap:=rs.at_ oM rg;have aq:=h.at_ (p:=q) ((hL q hq).symm.imp (λh=>List.mem_append_left _ h) id);have ne:pO q≠pO p:=by
  intro eo;rcases hL q hq with l|l
  ·have a:=(l.at_ oM rg).2.1.2.2.2.2;have e1:hk q=hk p:=by unfold hk;rw [eo]
   have e2:ixP f q=ixP f p:=by unfold ixP;rw [eo,e1]
   rw [e1,e2,ap.2.1] at a;omega
  ·have nd:=h.hp.nd;rw [cm,List.nodup_append] at nd;exact nd.2.2 (pO q) (List.mem_map_of_mem l) (pO p) (by simp) eo
 have aa:=HQ rg oM aq.1 ap.1 ne;rw [hc] at aa;obtain ⟨⟨k1,k2,k3,k4,k5⟩,_,k6⟩:=aq;refine ⟨by omega,?_,aa⟩;rw [k5];unfold pOff;omega
def abW (h:PlM w0 w Wb lv hd dd Y D H n f (R++ [p]) (blM f (livN D f n)) (blM f R) DD) (gn:GnS D f n) (dp:∀x∈DD,DdP D f n x.1) (x1:1<=x) (x60:x<=60) (hc:(f (hk p)).1=clsN x) (kd:Nat) (k7:kd<=127) (l:pK p=kd) (hz:∀j,j<(wordsS (clsN x)).toNat->D.cur (pO p/8+j)=0) (hR:R.length<100000) (A:DD.length<100000) (K:K1)
  (hK:∀hd' w',PlS w0 w' Wb lv hd' dd Y D H n f (R++ [p]) DD->Frm (λb=>b=Wb\/hd.ownBlock=some b) w w'->(∀b,hd'.ownBlock=some b->hd.ownBlock=some b\/w.heap.size<=b)->K (.bool true) w'):
  ae prog 23 #[.pointer (some ⟨Wb,0,none⟩),.int .u64 (p:Int),.int .i64 x,.int .u8 (kd:Int)] w K:=by
 have nn:=h.L.hp.n4;have rg:=h.L.hp.rg;have rs:=h.L.hp.rv p (by simp);have at_:=(rs.at_ oM rg);have ok:=rs.okp oM rg;have z:=gT rg n (aB _);have hw:=gR (clsN x);have C:3<=wordsS (clsN x):=by
  have:=kP x;obtain e|e|e|e|e:clsN x=0\/clsN x=1\/clsN x=2\/clsN x=3\/clsN x=4:=oM
  all_goals (rw [e];decide)
 rw [hc] at ok;have u:=at_.2.2.2.2.2.1;have p0:=at_.2.2.2.2.2.2;have k0:=at_.2.2.2.1;have E:=fP x;have hV:=λ(w:bb) (K:K1)=>abV p (D.n*64) w K u ok.1 ok.2.1 oM oM oM oM
 have hO:=λ(w:bb) (K:K1)=>fN p w K oM
 have k:=λ(w:bb) (K:K1)=>gB p w K oM
 have r:=λ(w2:bb) (e:Ext w w2) (K:K1)=>mQ (h.L.ext e).hp.ar.L.dv rg.gd K
 rw [l] at k;refine aaN _ _ _ _ _ _ ?_;unfold agc;refine fP x _ _ (λh=>absurd h oM) (λ_ _=> ?_) (λh=>absurd h oM);have q0:=(aE h.L.bx).1;have q5:=(aE h.L.bx).2.2.2.2.2.1;have q6:=(aE h.L.bx).2.2.2.2.2.2.1;have q7:=(aE h.L.bx).2.2.2.2.2.2.2;have lW:=h.L.bx.lt;have d:¬(pO p:Int)<1664:=oM;have c:¬pO p<1664:=oM;refine jJ k hV hO r q0 q5 q6 q7 d c c ?_;have eN:Ext w (w.alloc (.cells #[.int .u64 (p:Int),.int .i64 (clsN x)] 63)).drew:=Ext.drew (Ext.alloc_self _ _);have cN:ah (w.alloc (.cells #[.int .u64 (p:Int),.int .i64 (clsN x)] 63)).drew w.heap.size 63 2 (λi=> [Value.int .u64 (p:Int),.int .i64 (clsN x)].getD i undef):=(ah.new w [.int .u64 (p:Int),.int .i64 (clsN x)] 63).drew;have hN:=h.ext eN;have t:=ags h.L (L:=livN D f n) (λq hq=> .inl ((bn rg).1 hq)) hc;have s:=ags h.L (L:=R) (λq hq=> .inr hq) hc;have y:=bE f (livN D f n);have B:=bE f R;have o:∀j (hj:j<DD.length),(DD[j]).1≠p:=λj hj e=>by
  have a:=dp _ (bk hj);rw [e] at a;exact (a.no rg oM gn).2 rs
 refine uv hN.sD p oM _ (λ_=> ?_) (λj hj e=>absurd e (o j hj));have hg:¬((-1:Int)>=0):=oM;refine zS4 d c q5 q6 ?_;refine HT hN.sL (p,clsN x) oM (by show p<_;omega) (by show 8<=pO p;omega) t _ (λw2 e2=> ?_);have h2:=hN.ext e2;have c2:=cN.ext e2;have u6:=(aE h2.L.bx).2.2.2.2.2.2.1;have l2:=h2.L.bx.lt;have d0:=c2.cell (i:=0) oM;have d1:=c2.cell (i:=1) oM;have v:=c2.lt;refine zS6 d c u6 d0 d1 d1 ?_;refine HT h2.sH (p,clsN x) oM (by show p<_;omega) (by show 8<=pO p;omega) s _ (λw3 e3=> ?_);have h3:=h2.ext e3;have c3:=c2.ext e3;refine zS1 @dI ?_;refine ai8 (m:=(wordsS (clsN x)).toNat) h3.L oM oM p0 oM hz oM oM K (λw4 e4=> ?_);refine ai9 (x:=(p,clsN x)) (h3.ext e4) (by have:=h.L.hp.ex.size;omega) (c3.ext e4) oM K (λhd' w5 P5 f5 o5=> ?_);have g:Ext w w4:=eN.trans (e2.trans (e3.trans e4));refine hK hd' w5 ⟨?_,gn,dp⟩ ((Frm.of_ext g).trans f5 (λx _ h=>h)) (λb hb=>(o5 b hb).imp id (λe=>by have:=g.size;omega));rw [PJ,show blM f [p]= [(p,clsN x)] by simp [blM,hc]];exact P5
end
def PL {t tx e ty:TypeId} {c:Nat} {zv:bL} (E:ElT prog t tx e 1 c zv) {cs:Array Bool} {w0 w:bb} {v:bL} {n m:Nat} {L R:List bL} {x:bL} (hv:SlO w e 1 v n L) (hf:Frm Nob w0 w) (hn:bi w0.heap.size v) (hx:RdS m w x R) (h1:bO R=true) (hb:(n+R.length)*c<=140737488355328) (g:n+R.length<9223372036854775807) {k:K1}
  (h:∀v' w',SlO w' e 1 v' (n+R.length) (L++R)->Frm Nob w0 w'->bi w0.heap.size v'->k v' w'):
  aV prog .append #[t,tx] ty cs #[v,x] w k:=by
 obtain ⟨a,cap,rfl,hc⟩:=hx;rcases hc with rfl|⟨b,o,rfl,_,hc⟩
 ·obtain ⟨va,vc,rfl,d⟩:=hv.isS';simp only [cx,b9,en] at h ⊢;rw [jd E va n vc d a cap k];exact h _ _ hv hf hn
 ·by_cases h0:R.length=0
  ·have:R= []:=List.length_eq_zero_iff.1 h0;subst this;obtain ⟨va,vc,rfl,d⟩:=hv.isS';simp only [cx,b9,en] at h ⊢;rw [jd E va n vc d _ cap k];exact h _ _ hv hf hn
  ·exact bH E hv hf hn (m:=R.length) (news:=R) oM hc h1 oM hb g (λv' w' hs i f _ _=>h v' w' hs i f)
def elU:ElT prog 58 58 26 1 8 (.int .u64 0):=dH
def HU (L:List Nat):bO (bc L)=true:=by
 induction L with
 |nil=>rfl
 |cons x l ih=>exact ih
def Ux (L M:List Nat):bc (L++M)=bc L++bc M:=by unfold bc;rw [cm]
def RdS.at_ {w:bb} {m j:Nat} {v:bL} {L:List Nat} (h:RdS m w v (bc L)) (hj:j<L.length):∃b o cap,v= .slice (some ⟨b,o,none⟩) L.length cap/\b<m/\w.cell? ⟨b,o+j,none⟩=some (.int .u64 ((L[j]:Nat):Int)):=by
 obtain ⟨a,cap,rfl,hc⟩:=h;rcases hc with hc|⟨b,o,rfl,hb,hc⟩
 ·have:=congrArg List.length hc;rw [fm,cx] at this;omega
 ·rw [fm];exact ⟨b,o,cap,rfl,hb,hc j _ (gP hj)⟩
def RdS.form {w:bb} {m:Nat} {v:bL} {L:List Nat} (h:RdS m w v (bc L)):∃a cap,v= .slice a L.length cap:=by
 obtain ⟨a,cap,rfl,_⟩:=h;rw [fm];exact ⟨a,cap,rfl⟩
section
variable {w0 w w1 w' wS:bb} {n k i p q m b3 b6 b11:Nat} {f:Idx} {R L A keep free:List Nat} {lv hd dd lv0 hd0 dd0 v x1 x2:bL} {LL RL DD:List (Nat×Int)}
def hpA (lv hd dd:bL) (i:Nat):bL:= [lv,hd,dd].getD i undef
def sV (c3:ah w b3 36 3 (hpA lv hd dd)):w.cell? ⟨b3,0,none⟩=some lv/\w.cell? ⟨b3,1,none⟩=some hd/\w.cell? ⟨b3,2,none⟩=some dd/\b3<w.heap.size:=⟨c3.cell (i:=0) oM,c3.cell (i:=1) oM,c3.cell (i:=2) oM,c3.lt⟩
def ah6 {g:Nat->bL} (c6:ah w b6 36 3 g):w.cell? ⟨b6,0,none⟩=some (g 0)/\w.cell? ⟨b6,1,none⟩=some (g 1)/\w.cell? ⟨b6,2,none⟩=some (g 2)/\b6<w.heap.size/\w.frozen? ⟨b6,0,none⟩=false/\w.frozen? ⟨b6,1,none⟩=false/\w.frozen? ⟨b6,2,none⟩=false:=⟨c6.cell (i:=0) oM,c6.cell (i:=1) oM,c6.cell (i:=2) oM,c6.lt,c6.frz 0,c6.frz 1,c6.frz 2⟩
def aeu {g:Nat->bL} (c6:ah w b6 36 3 g) (a b c:bL):(((w.setCell ⟨b6,0,none⟩ a).setCell ⟨b6,1,none⟩ b).setCell ⟨b6,2,none⟩ c).cell? ⟨b6,0,none⟩=some a/\(((w.setCell ⟨b6,0,none⟩ a).setCell ⟨b6,1,none⟩ b).setCell ⟨b6,2,none⟩ c).cell? ⟨b6,1,none⟩=some b/\(((w.setCell ⟨b6,0,none⟩ a).setCell ⟨b6,1,none⟩ b).setCell ⟨b6,2,none⟩ c).cell? ⟨b6,2,none⟩=some c/\Frm (λx=>x=b6) w (((w.setCell ⟨b6,0,none⟩ a).setCell ⟨b6,1,none⟩ b).setCell ⟨b6,2,none⟩ c):=by
 have d1:=c6.set (i:=0) a oM;have d2:=d1.set (i:=1) b oM;have d3:=d2.set (i:=2) c oM;have y0:=d3.cell (i:=0) oM;have y1:=d3.cell (i:=1) oM;have y2:=d3.cell (i:=2) oM;simp only [if_true,if_false,Nat.reduceEqDiff] at y0 y1 y2;exact ⟨y0,y1,y2,(((Frm.refl (λx=>x=b6) _).set (p:=⟨b6,0,none⟩) _ (λ_=>rfl)).set (p:=⟨b6,1,none⟩) _ (λ_=>rfl)).set (p:=⟨b6,2,none⟩) _ (λ_=>rfl)⟩
def ajb {o6:Nat} {x8:bL} (h8:RdS m w x8 (bc A)) (hi:i<A.length) (hl:A.length<1000000) (c3:ah w b3 36 3 (hpA lv hd dd)) {g:Nat->bL} (c6:ah w b6 36 3 g) (o1:aj lv=true) (o2:aj hd=true) (o3:aj dd=true) (K:K1) (E1:VP1)
  (d:(∃j,∃h:j<i,A[j]=A[i])->∀w',Frm (λx=>x=b6) w w'->K (.tuple #[.agg #[lv,hd,dd],.int .i64 1]) w')
  (c:(∀j,∀h:j<i,A[j]≠A[i])->∀w',Ext w w'->Mq K E1 x1 x2 (.pointer (some ⟨b3,0,none⟩)) (.pointer (some ⟨b6,0,none⟩)) x8 (.int .i64 (i:Int)) w'):
  Mr K E1 x1 x2 (.pointer (some ⟨b3,0,none⟩)) (.pointer (some ⟨b6,0,none⟩)) x8 (.int .i64 (i:Int)) (.int .i64 0) w:=by
 apply HB (I:=λz w'=>∃j:Nat,z= .int .i64 (j:Int)/\j<=i/\Ext w w'/\∀j',∀h:j'<j,∀h':j'<A.length,A[j']≠A[i]) (μ:=λz _=>i-(intOf z).toNat)
 ·exact ⟨0,rfl,by omega,Ext.refl _,λj h=>by omega⟩
 ·intros;rename_i z w1 hI E2 hE;obtain ⟨j,rfl,hj,e1,hn⟩:=hI;have es:(j:Int)+1=((j+1:Nat):Int):=oM;have r8:=h8.ext e1;by_cases e:j<i
  ·obtain ⟨b,o,cap,rfl,hb,q0⟩:=r8.at_ (j:=j) oM;obtain ⟨b',o',f,e8,k,q1⟩:=r8.at_ (j:=i) oM;injection e8 with e8 _ _;injection e8 with e8;injection e8 with e8 e9 _;subst e8;subst e9;by_cases ee:A[j]=A[i]
   ·have er:((A[j]:Nat):Int)=((A[i]:Nat):Int):=by rw [ee]
    rw [er] at q0;obtain ⟨h0,h1,h2,l3⟩:=sV (c3.ext e1);obtain ⟨g0,g1,g2,l6,f0,f1,f2⟩:=ah6 (c6.ext e1);obtain ⟨_,_,_,fy⟩:=aeu ((c6.ext e1).drew) lv hd dd;obtain ⟨y0,y1,y2,_⟩:=aeu (c6.ext e1) lv hd dd;have a:=d ⟨j,e,ee⟩ _ ((((Frm.of_ext e1).drew).trans fy (λx _ h=>h)));unfold qu;refine Rq q0 q1 h0 h1 h2 g0 g1 g2 f0 f1 f2 o1 o2 o3 y0 y1 y2 y2 ?_;exact a
   ·have ne:¬((A[j]:Nat):Int)=((A[i]:Nat):Int):=oM;unfold qu;refine zS4 q0 q1 ne es ?_;apply hE
    ·exact ⟨j+1,rfl,by omega,e1.trans xZ,λj' h' hA=>by
      by_cases e4:j'=j
      ·subst e4;exact ee
      ·exact hn j' oM hA⟩
    ·simp only [intOf];omega
  ·obtain rfl:j=i:=oM;have a:=c (λj h=>hn j h oM) w1 e1;unfold qu;refine zS0 ?_;exact a
def ajc:¬fa A->(∀j,∀h:j<A.length,A[j]≠0)->(∀i,∀h:i<A.length,∀j,∀h':j<i,A[j]≠A[i])->False:=by
 intro h h0 hn;refine h ⟨?_,λhm=> ?_⟩
 ·exact List.pairwise_iff_getElem.2 (λi j hi hj a=>hn j hj i a)
 ·obtain ⟨j,hj,e⟩:=List.mem_iff_getElem.1 hm;exact h0 j hj e
def ajd {x8:bL} (h8:RdS m w x8 (bc A)) (hl:A.length<1000000) (c3:ah w b3 36 3 (hpA lv hd dd)) {g:Nat->bL} (c6:ah w b6 36 3 g) (o1:aj lv=true) (o2:aj hd=true) (o3:aj dd=true) (K:K1)
  (f:¬fa A->∀w',Frm (λx=>x=b6) w w'->K (.tuple #[.agg #[lv,hd,dd],.int .i64 1]) w')
  (c:fa A->∀w',Ext w w'->Mm K x1 x2 (.pointer (some ⟨b3,0,none⟩)) (.pointer (some ⟨b6,0,none⟩)) w'):
  Mn K x1 x2 (.pointer (some ⟨b3,0,none⟩)) (.pointer (some ⟨b6,0,none⟩)) x8 (.int .i64 0) w:=by
 apply Hv (I:=λz w'=>∃j:Nat,z= .int .i64 (j:Int)/\j<=A.length/\Ext w w'/\∀i,∀h:i<A.length,i<j->A[i]≠0/\∀j',∀h':j'<i,A[j']≠A[i]) (μ:=λz _=>A.length-(intOf z).toNat)
 ·exact ⟨0,rfl,by omega,Ext.refl _,λi _ h=>by omega⟩
 ·intros;rename_i z w1 hI E1 hE;obtain ⟨j,rfl,hj,e1,hn⟩:=hI;have es:(j:Int)+1=((j+1:Nat):Int):=oM;have r8:=h8.ext e1;by_cases e:j<A.length
  ·have l3:=λ(K:K1) (x8:bL) (E1:VP1) w2 (e2:Ext w1 w2) (r8:RdS m w2 x8 (bc A)) f c=>ajb (x1:=x1) (x2:=x2) (i:=j) (o6:=0) (x8:=x8) r8 e hl ((c3.ext e1).ext e2) ((c6.ext e1).ext e2) o1 o2 o3 K E1 f c
   obtain ⟨b,o,cap,rfl,hb,q0⟩:=r8.at_ (j:=j) oM;by_cases ee:A[j]=0
   ·rw [ee] at q0;obtain ⟨h0,h1,h2,l3⟩:=sV (c3.ext e1);obtain ⟨g0,g1,g2,l6,f0,f1,f2⟩:=ah6 (c6.ext e1);obtain ⟨y0,y1,y2,fy⟩:=aeu (c6.ext e1) lv hd dd;have k:=f (λd=>d.2 (ee▸bk e)) _ ((Frm.of_ext e1).trans fy (λx _ h=>h));unfold qt;refine Rq q0 h0 h1 h2 g0 g1 g2 f0 f1 f2 o1 o2 o3 y0 y1 y2 y2 y2 ?_;exact k
   ·have ne:¬((A[j]:Nat):Int)=0:=oM;unfold qt;refine zS2 q0 ne ?_;refine l3 K _ E1 _ xZ (r8.ext xZ) (λ⟨j',h',e'⟩ w' f'=>f (λd=> ?_) w' ((Frm.of_ext (e1.trans xZ)).trans f' (λx _ h=>h))) (λl w' e'=> ?_)
    ·exact List.pairwise_iff_getElem.1 d.1 j' j oM e h' e'
    ·rw [Uq];unfold HA;refine zS1 es ?_;apply hE
     ·exact ⟨j+1,rfl,by omega,e1.trans (Ext.trans xZ e'),λi hi h'=>by
       by_cases e4:i=j
       ·subst e4;exact ⟨ee,l⟩
       ·exact hn i hi oM⟩
     ·simp only [intOf];omega
  ·obtain rfl:j=A.length:=oM;have k:=c (Classical.byContradiction λd=>ajc d (λi hi=>(hn i hi hi).1) (λi hi=>(hn i hi hi).2)) w1 e1;obtain ⟨a,cap,rfl⟩:=r8.form;unfold qt;refine zS0 ?_;exact k
structure PuI (wS w:bb) (b3 b6 b11:Nat) (lv0 hd0 dd0 lv hd dd:bL) (LL RL DD:List (Nat×Int)):Prop where
 e:Frm (λb=>dd0.ownBlock=some b) wS w
 nb:wS.heap.size<=b11
 bx:ah w b11 36 3 (hpA lv hd dd)
 c3:ah w b3 36 3 (hpA lv0 hd0 dd0)
 c6:∃g,ah w b6 36 3 g
 ne:b3≠b11/\b6≠b11/\wS.heap.size<=b3/\wS.heap.size<=b6
 sL:BlS w lv LL
 sH:BlS w hd RL
 sD:BlS w dd DD
 oL:∀b,lv.ownBlock=some b->(lv0.ownBlock=some b\/wS.heap.size<=b)/\b≠b11/\b≠b3/\b≠b6
 oH:∀b,hd.ownBlock=some b->(hd0.ownBlock=some b\/wS.heap.size<=b)/\b≠b11/\b≠b3/\b≠b6
 oD:∀b,dd.ownBlock=some b->(dd0.ownBlock=some b\/wS.heap.size<=b)/\b≠b11/\b≠b3/\b≠b6
 hl:∀b,hd.ownBlock=some b->lv.ownBlock≠some b
 hdd:∀b,hd.ownBlock=some b->dd.ownBlock≠some b
 dl:∀b,dd.ownBlock=some b->lv.ownBlock≠some b
 dk:∀M0,BlS wS dd0 M0->BlS w dd0 M0/\(dd0.ownBlock=dd.ownBlock->pD 2 dd0<=pD 2 dd)
def PuI.ext (h:PuI wS w b3 b6 b11 lv0 hd0 dd0 lv hd dd LL RL DD) (e:Ext w w'):PuI wS w' b3 b6 b11 lv0 hd0 dd0 lv hd dd LL RL DD:=
 ⟨h.e.ext e,h.nb,h.bx.ext e,h.c3.ext e,h.c6.imp (λg c=>c.ext e),h.ne,h.sL.ext e,h.sH.ext e,h.sD.ext e,h.oL,h.oH,h.oD,h.hl,h.hdd,h.dl,λM0 s0=>⟨(h.dk M0 s0).1.ext e,(h.dk M0 s0).2⟩⟩
def PuI.setL (h:PuI wS w b3 b6 b11 lv0 hd0 dd0 lv hd dd LL RL DD) (e:Ext w w') {v:bL} {M:List (Nat×Int)} (s:BlS w' v M) (hn:bi w.heap.size v):PuI wS (w'.setCell ⟨b11,0,none⟩ v) b3 b6 b11 lv0 hd0 dd0 v hd dd M RL DD:=by
 have h':=h.ext e;have g:Frm (λx=>x=b11) w' (w'.setCell ⟨b11,0,none⟩ v):=(Frm.refl _ _).set (p:=⟨b11,0,none⟩) _ (λ_=>rfl);have lb:=h.bx.lt;have l3:=h.c3.lt;obtain ⟨g6,c6⟩:=h.c6;have l6:=c6.lt;have nw:∀b,v.ownBlock=some b->(wS.heap.size<=b)/\b≠b11/\b≠b3/\b≠b6:=λb hb=>by have:=hn b hb;have:=h.e.size;omega
 exact ⟨h'.e.trans g (λx hx e=>by subst e;have:=h.nb;omega),h.nb,(h'.bx.set (i:=0) v oM).congr (λi hi=>by
   obtain rfl|rfl|rfl:i=0\/i=1\/i=2:=oM
   all_goals rfl),h'.c3.frm g h.ne.1,⟨g6,(c6.ext e).frm g h.ne.2.1⟩,h.ne,s.frm g (λb hb e=>(nw b hb).2.1 e),h'.sH.frm g (λb hb e=>(h.oH b hb).2.1 e),h'.sD.frm g (λb hb e=>(h.oD b hb).2.1 e),λb hb=>⟨.inr (nw b hb).1,(nw b hb).2⟩,h.oH,h.oD,λb hb e=>by have:=hn b e;have:=h.sH.lt hb;omega,h.hdd,λb hb e=>by have:=hn b e;have:=h.sD.lt hb;omega,λM0 s0=>⟨((h.dk M0 s0).1.ext e).frm g (λb hb e=>by have:=s0.lt hb;have:=h.nb;omega),(h.dk M0 s0).2⟩⟩
def PuI.setH (h:PuI wS w b3 b6 b11 lv0 hd0 dd0 lv hd dd LL RL DD) (e:Ext w w') {v:bL} {M:List (Nat×Int)} (s:BlS w' v M) (hn:bi w.heap.size v):PuI wS (w'.setCell ⟨b11,1,none⟩ v) b3 b6 b11 lv0 hd0 dd0 lv v dd LL M DD:=by
 have h':=h.ext e;have g:Frm (λx=>x=b11) w' (w'.setCell ⟨b11,1,none⟩ v):=(Frm.refl _ _).set (p:=⟨b11,1,none⟩) _ (λ_=>rfl);have lb:=h.bx.lt;have l3:=h.c3.lt;obtain ⟨g6,c6⟩:=h.c6;have l6:=c6.lt;have nw:∀b,v.ownBlock=some b->(wS.heap.size<=b)/\b≠b11/\b≠b3/\b≠b6:=λb hb=>by have:=hn b hb;have:=h.e.size;omega
 exact ⟨h'.e.trans g (λx hx e=>by subst e;have:=h.nb;omega),h.nb,(h'.bx.set (i:=1) v oM).congr (λi hi=>by
   obtain rfl|rfl|rfl:i=0\/i=1\/i=2:=oM
   all_goals rfl),h'.c3.frm g h.ne.1,⟨g6,(c6.ext e).frm g h.ne.2.1⟩,h.ne,h'.sL.frm g (λb hb e=>(h.oL b hb).2.1 e),s.frm g (λb hb e=>(nw b hb).2.1 e),h'.sD.frm g (λb hb e=>(h.oD b hb).2.1 e),h.oL,λb hb=>⟨.inr (nw b hb).1,(nw b hb).2⟩,h.oD,λb hb e=>by have:=hn b hb;have:=h.sL.lt e;omega,λb hb e=>by have:=hn b hb;have:=h.sD.lt e;omega,h.dl,λM0 s0=>⟨((h.dk M0 s0).1.ext e).frm g (λb hb e=>by have:=s0.lt hb;have:=h.nb;omega),(h.dk M0 s0).2⟩⟩
def PuI.setD (h:PuI wS w b3 b6 b11 lv0 hd0 dd0 lv hd dd LL RL DD) (f:Frm (λb=>dd.ownBlock=some b) w w') {v:bL} {M:List (Nat×Int)} (s:BlS w' v M) (hn:∀b,v.ownBlock=some b->dd.ownBlock=some b\/w.heap.size<=b) (kp:KpB w w' dd v):PuI wS (w'.setCell ⟨b11,2,none⟩ v) b3 b6 b11 lv0 hd0 dd0 lv hd v LL RL M:=by
 have g:Frm (λx=>x=b11) w' (w'.setCell ⟨b11,2,none⟩ v):=(Frm.refl _ _).set (p:=⟨b11,2,none⟩) _ (λ_=>rfl);have lb:=h.bx.lt;have l3:=h.c3.lt;obtain ⟨g6,c6⟩:=h.c6;have l6:=c6.lt;have es:=h.e.size;have nd:∀x,x=b11\/x=b3\/x=b6->¬dd.ownBlock=some x:=λx hx e=>by have:=(h.oD x e).2;omega
 have nw:∀b,v.ownBlock=some b->(dd0.ownBlock=some b\/wS.heap.size<=b)/\b≠b11/\b≠b3/\b≠b6:=λb hb=>(hn b hb).elim (h.oD b) (λe=>⟨.inr oM,by omega,by omega,by omega⟩)
 refine ⟨(h.e.trans f (λx hx e=>(h.oD x e).1.elim id (λe2=>by omega))).trans g (λx hx e=>by subst e;have:=h.nb;omega),h.nb,((h.bx.frm f (nd _ (.inl rfl))).set (i:=2) v oM).congr (λi hi=>by
   obtain rfl|rfl|rfl:i=0\/i=1\/i=2:=oM
   all_goals rfl),(h.c3.frm f (nd _ (.inr (.inl rfl)))).frm g h.ne.1,⟨g6,(c6.frm f (nd _ (.inr (.inr rfl)))).frm g h.ne.2.1⟩,h.ne,(h.sL.frm f (λb hb e=>h.dl b e hb)).frm g (λb hb e=>(h.oL b hb).2.1 e),(h.sH.frm f (λb hb e=>h.hdd b hb e)).frm g (λb hb e=>(h.oH b hb).2.1 e),s.frm g (λb hb e=>(nw b hb).2.1 e),h.oL,h.oH,nw,h.hl,λb hb e=> ?_,λb hb e=> ?_,λM0 s0=> ?_⟩
 ·rcases hn b e with e2|e2
  ·exact h.hdd b hb e2
  ·have:=h.sH.lt hb;omega
 ·rcases hn b hb with e2|e2
  ·exact h.dl b e2 e
  ·have:=h.sL.lt e;omega
 ·have a:=h.dk M0 s0;have b:=kp dd0 M0 a.1 a.2;exact ⟨b.1.frm g (λb hb e=>by have:=s0.lt hb;have:=h.nb;omega),b.2⟩
def abX (L:List Nat) (p:Nat):(js L p).length=L.length+1:=by
 unfold js;have:=congrArg List.length (dr (p:=λq=>decide (pO q<pO p)) (l:=L));rw [aA] at this;rw [aA,cq];omega
def Uy (L M:List Nat) (p:Nat):gu L (M++ [p])=js (gu L M) p:=by unfold gu;rw [List.foldl_append];rfl
def HV (L:List Nat):∀M:List Nat,(gu L M).length=L.length+M.length:=by
 intro M
 induction M generalizing L with
 |nil=>rfl
 |cons x M ih=>
  show (gu (js L x) M).length=_;rw [ih,abX,cq];omega
def abY {L:List Nat} {p x:Nat}:x∈js L p↔x=p\/x∈L:=by
 unfold js;have:x∈L↔x∈L.takeWhile (λq=>decide (pO q<pO p))\/x∈L.dropWhile (λq=>decide (pO q<pO p)):=by
  rw [<-c9,dr]
 rw [this,c9,cw];constructor
 ·rintro (h|h|h)
  ·exact .inr (.inl h)
  ·exact .inl h
  ·exact .inr (.inr h)
 ·rintro (h|h|h)
  ·exact .inr (.inl h)
  ·exact .inl h
  ·exact .inr (.inr h)
def HW {x:Nat}:∀{M L:List Nat},x∈gu L M↔x∈M\/x∈L:=by
 intro M
 induction M with
 |nil=>intro L;simp [gu]
 |cons y M ih=>
  intro L;show x∈gu (js L y) M↔_;rw [ih,abY,cw];constructor
  ·rintro (h|h|h)
   ·exact .inl (.inr h)
   ·exact .inl (.inl h)
   ·exact .inr h
  ·rintro ((h|h)|h)
   ·exact .inr (.inl h)
   ·exact .inl h
   ·exact .inr (.inr h)
def PM {A:List Nat} {j:Nat} (hn:A.Nodup) (e:j<A.length):A[j]∉A.take j:=by
 intro hm;obtain ⟨i,hi,he⟩:=List.mem_iff_getElem.1 hm;rw [b0] at hi;rw [List.getElem_take] at he;exact List.pairwise_iff_getElem.1 hn i j oM e oM he
def Et {L:List Nat} {p:Nat} (hp:p∈L):¬∀(i:Nat) (h:i<(blM f L).length),((blM f L)[i]).1≠p:=by
 intro h;obtain ⟨i,hi,e⟩:=List.mem_iff_getElem.1 hp;have:=h i (by rw [bE];exact hi);rw [jk] at this;exact this e
def Eu {L:List Nat} {p j:Nat} (h:j<(blM f L).length) (e:((blM f L)[j]).1=p):j<L.length/\(blM f L)[j]=(p,(f (hk p)).1)/\(L.Nodup->(blM f L).eraseIdx j=blM f (rmR L p)):=by
 rw [jk h] at e ⊢;have hj:j<L.length:=by rw [<-bE f];exact h
 simp only at e;refine ⟨hj,by rw [e],λhn=> ?_⟩;rw [Br,abQ hn hj,e]
def aje (h:PuI wS w b3 b6 b11 lv0 hd0 dd0 lv hd dd (blM f L) (blM f R) DD) (hx:∀w',Frm (λb=>dd0.ownBlock=some b) wS w'->RdS m w' x1 (bc keep)) (kR:∀p∈keep,p∈R) (kn:keep.Nodup) (rn:R.Nodup) (l:∀q,q∈L\/q∈R->q<18446744073709551616) (ln:L.length+keep.length<90000) (rl:R.length<90000) (K:K1)
  (hK:∀lv' hd' w',PuI wS w' b3 b6 b11 lv0 hd0 dd0 lv' hd' dd (blM f (gu L keep)) (blM f (rmL R keep)) DD->Mo K x2 (.pointer (some ⟨b3,0,none⟩)) (.pointer (some ⟨b6,0,none⟩)) (.pointer (some ⟨b11,0,none⟩)) w'):
  Mp K x1 x2 (.pointer (some ⟨b3,0,none⟩)) (.pointer (some ⟨b6,0,none⟩)) (.pointer (some ⟨b11,0,none⟩)) (.int .i64 0) w:=by
 apply Hz (I:=λz w'=>∃(j:Nat) (lv' hd':bL),z= .int .i64 (j:Int)/\j<=keep.length/\PuI wS w' b3 b6 b11 lv0 hd0 dd0 lv' hd' dd (blM f (gu L (keep.take j))) (blM f (rmL R (keep.take j))) DD) (μ:=λz _=>keep.length-(intOf z).toNat)
 ·exact ⟨0,lv,hd,rfl,by omega,by rw [db,Eo];exact h⟩
 ·intros;rename_i z w1 hI E1 hE;obtain ⟨j,u,hd1,rfl,hj,h1⟩:=hI;have es:(j:Int)+1=((j+1:Nat):Int):=oM;have r1:=hx w1 h1.e;by_cases e:j<keep.length
  ·obtain ⟨b,o,cap,rfl,hb,q0⟩:=r1.at_ (j:=j) e;have t:keep[j]∈keep:=bk e;have k:=kR _ t;have r:keep[j]∈rmL R (keep.take j):=eQ.2 ⟨k,PM kn e⟩;have ts:=ch e;have A:(rmL R (keep.take j)).Nodup:=rn.filter _;have l1:(rmL R (keep.take j)).length<=R.length:=ce _ _;have l2:(gu L (keep.take j)).length=L.length+j:=by rw [HV,b0];omega
   have e1:=bE f (rmL R (keep.take j));have e2:=bE f (gu L (keep.take j));have D:∀q∈gu L (keep.take j),q<18446744073709551616:=λq hq=>l q ((HW.1 hq).elim (λa=> .inr (kR q (List.mem_of_mem_take a))) .inl)
   have n:=l _ (.inr k);generalize keep[j]=p at*;have g0:=(sV h1.bx).1;have g1:=(sV h1.bx).2.1;have g2:=(sV h1.bx).2.2.1;have l6:=(sV h1.bx).2.2.2;have fz:=h1.bx.frz;unfold xD;refine zS2 q0 g1 ?_;refine uv (h1.sH.ext xZ) p oM _ (λhn=>absurd hn (Et r)) (λi hi hp=> ?_);obtain ⟨g,v,C⟩:=Eu hi hp;obtain ⟨G,H,F,rfl,E,c,_⟩:=ez (h1.sH) hi;have c0:=(c i hi).1;have c1:=(c i hi).2;rw [v] at c0 c1;have ni:¬(i:Int)<0:=oM;refine zS6 ni g0 g1 c0 c1 c1 ?_;refine ah5 (h1.sL.ext xZ) (p,(f (hk p)).1) oM (λi' g=>by rw [jk g];exact D _ (bk _)) n _ (λv2 w2 x n2 s2=> ?_);have d:Ext w1 w2:=Ext.trans xZ x;rw [aer,<-Uy,<-ts] at s2;have h2:=h1.setL d s2 (λb hb=>by have:=n2 b hb;simp only [RZ] at this;exact this);have k0:=(sV (h1.ext d).bx);obtain ⟨k0,k1,k2,kl⟩:=k0;have y:=(h1.ext d).bx.frz;have m0:=(sV h2.bx).1;have m1:=(sV h2.bx).2.1;have m2:=(sV h2.bx).2.2.1;have ml:=(sV h2.bx).2.2.2;have o2:=aP s2;refine zS4 k0 y o2 m1 ?_;refine oX h2.sH hi oM _ (λv3 w3 e3 n3 s3=> ?_);rw [C A,<-xn,<-ts] at s3;have h3:=h2.setH e3 s3 n3;obtain ⟨k0,k1,k2,kl⟩:=sV (h2.ext e3).bx;have s:=(h2.ext e3).bx.frz;have o3:=aP s3;refine zS4 k1 s o3 es ?_;apply hE
   ·exact ⟨j+1,v2,v3,rfl,by omega,h3⟩
   ·simp only [intOf];omega
  ·obtain rfl:j=keep.length:=oM;rw [ct] at h1;have B:=hK u hd1 w1 h1;obtain ⟨a,cap,rfl⟩:=r1.form;unfold xD;refine zS0 ?_;exact B
def PuI.frm6 (h:PuI wS w b3 b6 b11 lv0 hd0 dd0 lv hd dd LL RL DD) (g:Frm (λx=>x=b6) w w') {u:Nat->bL} (c:ah w' b6 36 3 u) (a:b3≠b6):PuI wS w' b3 b6 b11 lv0 hd0 dd0 lv hd dd LL RL DD:=
 ⟨h.e.trans g (λx hx e=>by subst e;have:=h.ne.2.2.2;omega),h.nb,h.bx.frm g (λe=>h.ne.2.1 e.symm),h.c3.frm g a,⟨u,c⟩,h.ne,h.sL.frm g (λb hb e=>(h.oL b hb).2.2.2 e),h.sH.frm g (λb hb e=>(h.oH b hb).2.2.2 e),h.sD.frm g (λb hb e=>(h.oD b hb).2.2.2 e),h.oL,h.oH,h.oD,h.hl,h.hdd,h.dl,λM0 s0=>⟨(h.dk M0 s0).1.frm g (λb hb e=>by have:=s0.lt hb;have:=h.ne.2.2.2;omega),(h.dk M0 s0).2⟩⟩
def ajf (h:PuI wS w b3 b6 b11 lv0 hd0 dd0 lv hd dd (blM f A) RL DD) (hx:∀w',Frm (λb=>dd0.ownBlock=some b) wS w'->RdS m w' x2 (bc free)/\BlS w' lv0 (blM f L)) (kL:∀p∈free,p∈L/\p∈A) (kn:free.Nodup) (an:A.Nodup) (C:b3≠b6) (ln:L.length<90000) (al:A.length<90000) (dl:DD.length+free.length<90000) (E:∀q,q∈L->q<18446744073709551616) (K:K1)
  (hK:∀lv' dd' w',PuI wS w' b3 b6 b11 lv0 hd0 dd0 lv' hd dd' (blM f (rmL A free)) RL (DD++blM f free)->K (.tuple #[.agg #[lv',hd,dd'],.int .i64 0]) w'):
  Ms K x2 (.pointer (some ⟨b3,0,none⟩)) (.pointer (some ⟨b6,0,none⟩)) (.pointer (some ⟨b11,0,none⟩)) (.int .i64 0) w:=by
 apply HD (I:=λz w'=>∃(j:Nat) (lv' dd':bL),z= .int .i64 (j:Int)/\j<=free.length/\PuI wS w' b3 b6 b11 lv0 hd0 dd0 lv' hd dd' (blM f (rmL A (free.take j))) RL (DD++blM f (free.take j))) (μ:=λz _=>free.length-(intOf z).toNat)
 ·exact ⟨0,lv,dd,rfl,by omega,by rw [db,Eo,show blM f []= [] from rfl,b9];exact h⟩
 ·intros;rename_i z w1 hI E1 hE;obtain ⟨j,g,k,rfl,hj,h1⟩:=hI;have es:(j:Int)+1=((j+1:Nat):Int):=oM;obtain ⟨r1,s0⟩:=hx w1 h1.e;by_cases e:j<free.length
  ·obtain ⟨b,o,cap,rfl,hb,q0⟩:=r1.at_ (j:=j) e;have t:free[j]∈free:=bk e;obtain ⟨l,hpA⟩:=kL _ t;have n:free[j]∈rmL A (free.take j):=eQ.2 ⟨hpA,PM kn e⟩;have ts:=ch e;have y:(rmL A (free.take j)).Nodup:=an.filter _;have l1:(rmL A (free.take j)).length<=A.length:=ce _ _;have e1:=bE f (rmL A (free.take j));have e2:=bE f L;have e4:(DD++blM f (free.take j)).length=DD.length+j:=by rw [aA,bE,b0];omega
   have G:=E _ l;generalize free[j]=p at*;have g0:=(sV h1.bx).1;have g1:=(sV h1.bx).2.1;have g2:=(sV h1.bx).2.2.1;have l6:=(sV h1.bx).2.2.2;obtain ⟨t0,t1,t2,l3⟩:=sV h1.c3;have fz:=h1.bx.frz;unfold xE;refine zS2 q0 t0 ?_;refine uv (s0.ext xZ) p oM _ (λhn=>absurd hn (Et l)) (λi0 _ _=> ?_);have s:¬(i0:Int)<0:=oM;refine zS3 s q0 g0 ?_;refine uv (h1.sL.ext xZ) p oM _ (λhn=>absurd hn (Et n)) (λi hi hp=> ?_);obtain ⟨N,v,D⟩:=Eu hi hp;obtain ⟨J,O,H,rfl,F,d,_⟩:=ez (h1.sL) hi;have c0:=(d i hi).1;have c1:=(d i hi).2;rw [v] at c0 c1;have eN:Ext w1 (w1.alloc (.cells #[.int .u64 (p:Int),.int .i64 (f (hk p)).1] 63)).drew.drew.drew:=Ext.drew (Ext.drew (Ext.drew (Ext.alloc_self _ _)));have cN:ah (w1.alloc (.cells #[.int .u64 (p:Int),.int .i64 (f (hk p)).1] 63)).drew.drew.drew w1.heap.size 63 2 (λi=> [Value.int .u64 (p:Int),.int .i64 (f (hk p)).1].getD i undef):=(((ah.new w1 [.int .u64 (p:Int),.int .i64 (f (hk p)).1] 63).drew).drew).drew;refine zS4 g0 g2 c0 c1 ?_;refine ⟨trivial,trivial,?_⟩;refine PI (M:= [(p,(f (hk p)).1)]) (m:=1) (h1.sD.ext eN) rfl (.inr ⟨_,_,rfl,λj' u c=> ?_⟩) oM (λv2 w2 s2 f2 n2 kp=> ?_)
   ·rcases j' with _|_|j'
    ·injection c with c;subst c;exact cN.cell (i:=0) oM
    ·injection c with c;subst c;exact cN.cell (i:=1) oM
    ·simp [bkL] at c
   rw [eP,show [(p,(f (hk p)).1)]=blM f [p] from rfl,<-PJ,<-ts] at s2;have h2:=(h1.ext eN).setD f2 s2 n2 kp;have x:=((h1.ext eN).bx.frm f2 (λe=>((h1.oD _ e).2.1 rfl))).frz;obtain ⟨k0,k1,k2,kl⟩:=sV ((h1.ext eN).bx.frm f2 (λe=>((h1.oD _ e).2.1 rfl)));have m0:=(sV h2.bx).1;have m1:=(sV h2.bx).2.1;have m2:=(sV h2.bx).2.2.1;have ml:=(sV h2.bx).2.2.2;have o2:=aP s2;refine zS4 k2 x o2 m0 ?_;refine oX h2.sL hi oM _ (λv3 w3 e3 n3 s3=> ?_);rw [D y,<-xn,<-ts] at s3;have h3:=h2.setL e3 s3 n3;obtain ⟨k0,k1,k2,kl⟩:=sV (h2.ext e3).bx;have r:=(h2.ext e3).bx.frz;have o3:=aP s3;refine zS4 k0 r o3 es ?_;apply hE
   ·exact ⟨j+1,v3,v2,rfl,by omega,h3⟩
   ·simp only [intOf];omega
  ·obtain rfl:j=free.length:=oM;rw [ct] at h1;obtain ⟨a,cap,rfl⟩:=r1.form;have h0:=(sV h1.bx).1;have hh:=(sV h1.bx).2.1;have h2:=(sV h1.bx).2.2.1;have l3:=(sV h1.bx).2.2.2;obtain ⟨u6,c6⟩:=h1.c6;obtain ⟨g0,g1,g2,l6,f0,f1,f2⟩:=ah6 c6;obtain ⟨y0,y1,y2,fy⟩:=aeu c6 g hd k;have o1:=aP h1.sL;have o2:=aP h1.sH;have o3:=aP h1.sD;have B:=hK g k _ (h1.frm6 fy (((c6.set (i:=0) g oM).set (i:=1) hd oM).set (i:=2) k oM) C);unfold xE;refine zS0 ?_;rw [Ur];unfold HC;refine Rq h0 hh h2 g0 g1 g2 f0 f1 f2 o1 o2 o3 y0 y1 y2 y2 y2 y2 ?_;exact B
def ajg {k:K1} (h:∀b w1,Ext w w1->w.heap.size<=b->b<w1.heap.size->ah w1 b 36 3 (hpA lv hd dd)->k (.pointer (some ⟨b,0,none⟩)) w1):ev prog (Instr.box 36 (.agg #[lv,hd,dd])) w k:=by
 have h1:=h w.heap.size _ (Ext.alloc_self w _) oM (by rw [size_alloc];omega) (ah.new w [lv,hd,dd] 36);refine zS0 ?_;exact h1
def ajh {k:K1} (h:∀b w1,Ext w w1->w.heap.size<=b->b<w1.heap.size->ah w1 b 36 3 (hpA (.slice none 0 0) (.slice none 0 0) (.slice none 0 0))->k (.pointer (some ⟨b,0,none⟩)) w1):ev prog (Instr.alloc 36 true (.tuple #[])) w k:=by
 have h1:=h w.heap.size _ (Ext.alloc_self w _) oM (by rw [size_alloc];omega) (ah.new w [.slice none 0 0,.slice none 0 0,.slice none 0 0] 36);refine zS0 ?_;exact h1
def oY (sL:BlS w lv (blM f L)) (sH:BlS w hd (blM f R)) (sD:BlS w dd DD) (hl:∀b,hd.ownBlock=some b->lv.ownBlock≠some b) (hdd:∀b,hd.ownBlock=some b->dd.ownBlock≠some b) (dl:∀b,dd.ownBlock=some b->lv.ownBlock≠some b)
  (j:∀w',Frm (λb=>dd.ownBlock=some b) w w'->RdS m w' x1 (bc keep)) (l:∀w',Frm (λb=>dd.ownBlock=some b) w w'->RdS m w' x2 (bc free)) (hm:m<=w.heap.size) (kR:∀p∈keep,p∈R) (rn:R.Nodup) (kL:∀p∈free,p∈L) (an:fa (keep++free)->(gu L keep).Nodup) (n:∀q,q∈L\/q∈R->q<18446744073709551616) (ln:L.length+keep.length<90000) (rl:R.length<90000) (dn:DD.length+free.length<90000) (K:K1)
  (z:¬fa (keep++free)->∀w',Ext w w'->K (.tuple #[.agg #[lv,hd,dd],.int .i64 1]) w')
  (o:fa (keep++free)->∀lv' hd' dd' w',Frm (λb=>dd.ownBlock=some b) w w'->BlS w' lv' (blM f (rmL (gu L keep) free))->BlS w' hd' (blM f (rmL R keep))->BlS w' dd' (DD++blM f free)->BlS w' dd DD->(∀b,lv'.ownBlock=some b->lv.ownBlock=some b\/w.heap.size<=b)->(∀b,hd'.ownBlock=some b->hd.ownBlock=some b\/w.heap.size<=b)->(∀b,dd'.ownBlock=some b->dd.ownBlock=some b\/w.heap.size<=b)->(∀b,hd'.ownBlock=some b->lv'.ownBlock≠some b)->(∀b,hd'.ownBlock=some b->dd'.ownBlock≠some b)->(∀b,dd'.ownBlock=some b->lv'.ownBlock≠some b)->K (.tuple #[.agg #[lv',hd',dd'],.int .i64 0]) w'):
  ae prog 24 #[.agg #[lv,hd,dd],x1,x2] w K:=by
 have o1:=aP sL;have o2:=aP sH;have o3:=aP sD;refine abj _ _ _ _ _ ?_;unfold agk;refine ajg (λb3 wA eA n3 l3 c3=>ajh (λb6 wB eB n6 l6 c6=> ?_));have d:=eA.trans eB;have E:=eA.size;refine zS0 ?_;refine PL (m:=m) (R:=bc keep) elU (SlO.nil _ _ _) (Frm.refl _ wB) (λb hb=>by cases hb) (j wB (Frm.of_ext d)) (HU _) (by rw [fm];omega) (by rw [fm];omega) (λv2 w2 s2 f2 n2=> ?_);have u:Ext wB w2:=f2.to_ext (λ_ _ h=>h);refine zS0 ?_;refine PL (m:=m) (R:=bc free) elU s2 f2 n2 ((l wB (Frm.of_ext d)).ext u) (HU _) (by rw [fm,fm];omega) (by rw [fm,fm];omega) (λv3 w3 s3 f3 n3=> ?_);have a:Ext wB w3:=f3.to_ext (λ_ _ h=>h);have r3:RdS w3.heap.size w3 v3 (bc (keep++free)):=by
  rw [Ux];exact RdS.of_slR (t:=26) (by rw [aA];simpa using s3)
 refine ajd r3 (by rw [aA];omega) (c3.ext (eB.trans a)) (c6.ext a) o1 o2 o3 K (λhd' w' f'=>z hd' w' ?_) (λhd' w4 e4=> ?_)
 ·exact bA (d.trans a) f' (λx hx=>by omega)
 have B:=(d.trans a).trans e4;have k:=(c3.ext (eB.trans a)).ext e4;obtain ⟨t0,t1,t2,C⟩:=sV k;rw [Uo];unfold Hu;refine zS3 t0 t1 t2 ?_;have i:Ext w4 (w4.alloc (.cells #[lv,hd,dd] 36)):=Ext.alloc_self _ _;have r:ah (w4.alloc (.cells #[lv,hd,dd] 36)) w4.heap.size 36 3 (hpA lv hd dd):=ah.new w4 [lv,hd,dd] 36;have c:=B.trans i;have zA:=eA.size;have zB:=eB.size;have z2:=a.size;have z4:=e4.size;have ol:=λ{v:bL} {M:List (Nat×Int)} (s:BlS w v M) (b:Nat) (hb:v.ownBlock=some b)=>s.lt hb
 have I0:PuI w (w4.alloc (.cells #[lv,hd,dd] 36)) b3 b6 w4.heap.size lv hd dd lv hd dd (blM f L) (blM f R) DD:=
  ⟨Frm.of_ext c,by omega,r,k.ext i,⟨_,((c6.ext a).ext e4).ext i⟩,by omega,sL.ext c,sH.ext c,sD.ext c,λb hb=>⟨.inl hb,by have:=ol sL b hb;omega,by have:=ol sL b hb;omega,by have:=ol sL b hb;omega⟩,λb hb=>⟨.inl hb,by have:=ol sH b hb;omega,by have:=ol sH b hb;omega,by have:=ol sH b hb;omega⟩,λb hb=>⟨.inl hb,by have:=ol sD b hb;omega,by have:=ol sD b hb;omega,by have:=ol sD b hb;omega⟩,hl,hdd,dl,λM0 s0=>⟨s0.ext c,λ_=>aB _⟩⟩
 refine aje I0 j kR (List.nodup_append.1 hd'.1).1 rn n ln rl K (λD hd1 w5 I5=> ?_);rw [Up];unfold Hw;refine ajf (L:=L) I5 (λw' g=>⟨l w' g,sL.frm g (λb hb e=>dl b e hb)⟩) (λp hp=>⟨kL p hp,HW.2 (.inr (kL p hp))⟩) (List.nodup_append.1 hd'.1).2.1 (an hd') oM oM (by rw [HV];omega) dn (λq hq=>n q (.inl hq)) K (λy A w6 I6=> ?_);exact o hd' y hd1 A w6 I6.e I6.sL I6.sH I6.sD (I6.dk _ sD).1 (λb hb=>(I6.oL b hb).1) (λb hb=>(I6.oH b hb).1) (λb hb=>(I6.oD b hb).1) I6.hl I6.hdd I6.dl
end
section
variable {w0 w w1 w':bb} {Y Y':Lay} {D D2 D3:DS} {H:HL} {n k i p q kd Wb b m:Nat} {f f2 f3:Idx} {R R2 U keep free:List Nat} {lv hd dd lv' hd' dd' v:bL} {A:List Int} {c t x:Int} {LL RL DD LL' RL' DD':List (Nat×Int)}
abbrev abZ (w:bb) (b o:Nat) (x y z:bL):bb:=((w.setCell ⟨b,o,none⟩ x).setCell ⟨b,o+1,none⟩ y).setCell ⟨b,o+2,none⟩ z
def HX (w:bb) (b o:Nat) (x y z:bL):Frm (λi=>i=b) w (abZ w b o x y z):=(((Frm.refl (λx=>x=b) w).set (p:=⟨b,o,none⟩) _ (λ_=>rfl)).set (p:=⟨b,o+1,none⟩) _ (λ_=>rfl)).set (p:=⟨b,o+2,none⟩) _ (λ_=>rfl)
def ab0 {L:List Nat} (h:Asc L):L.Nodup:=List.Pairwise.imp (λh e=>by subst e;omega) h
def PlM.own {u u':bL} (h:PlM w0 w Wb lv hd dd Y D H n f R LL RL DD) (ou:eh w0 Y H Wb u) (hu:∀b,u'.ownBlock=some b->u.ownBlock=some b\/w.heap.size<=b):eh w0 Y H Wb u':=λb hb=>(hu b hb).elim (ou b) (λe=>h.L.own e)
def PlM.put3 (h:PlM w0 w Wb lv hd dd Y D H n f R LL RL DD) (g:Frm (λb=>dd.ownBlock=some b) w w1) (sL:BlS w1 lv' LL') (sH:BlS w1 hd' RL') (sD:BlS w1 dd' DD') (L1:eh w0 Y H Wb lv') (L2:eh w0 Y H Wb hd') (L3:eh w0 Y H Wb dd') (hl:∀b,hd'.ownBlock=some b->lv'.ownBlock≠some b) (a:∀b,hd'.ownBlock=some b->dd'.ownBlock≠some b) (dl:∀b,dd'.ownBlock=some b->lv'.ownBlock≠some b):
  LW w0 w1 Wb lv hd dd Y D H n f R/\PlM w0 (abZ w1 Wb 5 lv' hd' dd') Wb lv' hd' dd' Y D H n f R LL' RL' DD':=by
 have l1:=h.L.frm g (λx hx=>h.oD x hx);have l2:=(xI l1).1 lv';have l3:=(xI l2).2.1 hd';have l4:=(xI l3).2.2 dd';have fr:=HX w1 Wb 5 lv' hd' dd';have fz:∀{u:bL} {X:List (Nat×Int)},eh w0 Y H Wb u->BlS w1 u X->BlS (abZ w1 Wb 5 lv' hd' dd') u X:=λou su=>su.frm fr (λb hb e=>(ou b hb).2.2.1 e)
 exact ⟨l1,l4,L1,L2,L3,fz L1 sL,fz L2 sH,fz L3 sD,hl,a,dl⟩
def PlM.newH (h:PlM w0 w Wb lv hd dd Y D H n f R LL RL DD) (e:Ext w w') (s:BlS w' v RL') (nv:bi w.heap.size v):PlM w0 (w'.setCell ⟨Wb,6,none⟩ v) Wb lv v dd Y D H n f R LL RL' DD:=by
 have h':=h.ext e;have lw:=(xI h'.L).2.1 v;have nw:∀b,v.ownBlock=some b->lE w0 Y H Wb b:=λb hb=>h.L.own (nv b hb)
 have fz:∀{u:bL} {X:List (Nat×Int)},eh w0 Y H Wb u->BlS w' u X->BlS (w'.setCell ⟨Wb,6,none⟩ v) u X:=λou su=>su.frm (F:=λx=>x=Wb) ((Frm.refl _ _).set _ (λ_=>rfl)) (λb hb e=>(ou b hb).2.2.1 e)
 exact ⟨lw,h.oL,nw,h.oD,fz h.oL h'.sL,fz nw s,fz h.oD h'.sD,λb hb e=>by have:=nv b hb;have:=h.sL.lt e;omega,λb hb e=>by have:=nv b hb;have:=h.sD.lt e;omega,h.dl⟩
def PlM.drop (h:PlM w0 w Wb lv hd dd Y D H n f R LL RL DD) (g:Frm (λb=>dd.ownBlock=some b) w w') (s:BlS w' dd DD):PlM w0 w' Wb lv hd dd Y D H n f R LL RL DD:=
 ⟨h.L.frm g (λx hx=>h.oD x hx),h.oL,h.oH,h.oD,h.sL.frm g (λb hb e=>h.dl b e hb),h.sH.frm g (λb hb e=>h.hdd b hb e),s,h.hl,h.hdd,h.dl⟩
def PN (V:qe D f R n A t c kd D2 f2 D3 f3 p k i) (nn:D.n<=4096) (ep:pO p=pOff (26+32*k) c i):∀jj,jj<(wordsS c).toNat->D3.cur (pO p/8+jj)=0:=by
 intro jj a;have n3:=V.n3;rw [V.d3] at n3;have zr:=(Eh V.rg2 V.kn (by rw [V.fc];exact V.c0) (by rw [V.fc];exact V.iN)).2.1;rw [V.fc] at zr;have z:=(um V.rg2.on (l:=26+32*k) (by have:=V.rg2.lt;have:=V.kn;omega) oM V.c0 V.c5 V.iN).2.2 jj a;rw [V.d3,ep];have b:=aK V.c0 V.c5 V.iN;rw [show pOff (26+32*k) c i/8+jj=(26+32*k)*8+offN c i+1+jj by unfold pOff;omega];exact z
def agt (rg:RgS D 26 n f) (nn:D.n<=4096) (nk:(keep.map pO).Nodup) (kp:∀p∈keep,Rsv D f n p):(gu (livN D f n) keep).Nodup:=by
 have a:=rg.lt;refine ab0 (HP (dB rg nn n (aB _)) nk (λp hp q hq e=> ?_)).1;have rs:=(kp p hp).at_ oM rg;have lv:=((bn rg).1 hq).at_ oM rg;have s1:=rs.2.1;have s2:=lv.2.1.2.2.2.2;have i1:At f n q (hk p) (ixP f p):=⟨rs.1.1,rs.1.2.1,rs.1.2.2.1,rs.1.2.2.2.1,e.trans rs.1.2.2.2.2⟩;have j:=i1.ix;rw [j.1,j.2] at s2;omega
def agu (h:(R.map pO).Nodup) (hk:∀p∈keep,p∈R) (kn:keep.Nodup):(keep.map pO).Nodup:=
 List.pairwise_map.2 (List.Pairwise.imp_of_mem (λha hb a e=>a (sO h (hk _ ha) (hk _ hb) e)) kn)
def ab1 (h:PlS w0 w Wb lv hd dd Y D H n f R DD) (V:qe D f R n A t c kd D2 f2 D3 f3 p k i) (t0:0<=t/\t<8) (s:HSt w Y H w' Y') (hp:HpS w0 w' Y' D3 H n f3 (R++ [p])):PlM w0 w' Wb lv hd dd Y' D3 H n f3 (R++ [p]) (blM f3 (livN D3 f3 n)) (blM f3 R) DD/\GnS D3 f3 n/\∀x∈DD,DdP D3 f3 n x.1:=by
 have rg:=h.m.L.hp.rg;have nn:=h.m.nn;have m1:=h.m.st s hp;have g:=ai0 rg oM V t0 h.gn;rw [aen rg oM V hp.rg,jT (f2:=f3) (f:=f) (L:=livN D f n) (λq hq=>abN rg oM V (.inl ((bn rg).1 hq))),jT (f2:=f3) (f:=f) (L:=R) (λq hq=>abN rg oM V (.inr hq))];exact ⟨m1,g.1,λx hx=>g.2 _ (h.dp x hx)⟩
def ah7 (h:PlS w0 w Wb lv hd dd Y D H n f R DD) (e:FS f f2) (hp:HpS w0 w' Y' D H n f2 R2) (m:PlM w0 w' Wb lv' hd' dd' Y' D H n f2 R2 (blM f (livN D f n)) (blM f R2) DD):PlS w0 w' Wb lv' hd' dd' Y' D H n f2 R2 DD:=by
 have rg:=h.m.L.hp.rg;have nn:=h.m.nn;have ec:=λL=>jT (f2:=f2) (f:=f) (L:=L) (λq _=>(e (hk q)).1)
 refine ⟨?_,h.gn.fs e,λx hx=>(h.dp x hx).fs e⟩;rw [aeo rg hp.rg oM e,ec,ec];exact m
def Ev (g:GnS D f n) (dp:∀x∈DD,DdP D f n x.1) (rg:RgS D 26 n f) (nn:D.n<=4096) (pr:yq D f n keep free D2 f2) (m:PlM w0 w' Wb lv' hd' dd' Y' D2 H n f2 (rmL R keep) (blM f (rmL (gu (livN D f n) keep) free)) (blM f (rmL R keep)) (DD++blM f free)):PlS w0 w' Wb lv' hd' dd' Y' D2 H n f2 (rmL R keep) (DD++blM f free):=by
 have a:=m.L.hp.rg;have ec:=λL=>jT (f2:=f2) (f:=f) (L:=L) (λq _=>(pr.fs (hk q)).1)
 have pl:=PH rg nn pr a;have pg:=ah3 rg pr g;refine ⟨?_,pg.1,λx hx=> ?_⟩
 ·rw [pl.2.2,ec,ec];exact m
 ·rcases List.mem_append.1 hx with hx|hx
  ·exact pg.2.1 _ (dp x hx)
  ·unfold blM at hx;obtain ⟨q,hq,rfl⟩:=List.mem_map.1 hx;exact pg.2.2 q hq
def jU (n7:n<=120) (L:LW w0 w Wb (.slice none 0 0) (.slice none 0 0) (.slice none 0 0) Y (hbD n) H n (opF (hbD n) 26) []):PlS w0 w Wb (.slice none 0 0) (.slice none 0 0) (.slice none 0 0) Y (hbD n) H n (opF (hbD n) 26) [] []:=by
 have hb:=qk (n:=n) n7;have hn:livN (hbD n) (opF (hbD n) 26) n= []:=by
  rcases hl:livN (hbD n) (opF (hbD n) 26) n with _|⟨q,t⟩
  ·rfl
  ·exact absurd ((bn (p:=q) hb.1).1 (by rw [hl];simp)) (Mu n7)
 have no:∀b,(Value.slice none 0 0).ownBlock≠some b:=λb h=>nomatch h
 refine ⟨?_,λk hk h0=> ?_,λx hx=>nomatch hx⟩
 ·rw [hn];exact ⟨L,eh.nil _ _ _ _,eh.nil _ _ _ _,eh.nil _ _ _ _,SlO.nil _ _ _,SlO.nil _ _ _,SlO.nil _ _ _,λb _=>no b,λb _=>no b,λb _=>no b⟩
 ·rw [PF n7 hk] at h0;omega
end
structure eU where new::
 kd:Nat
 th:Int
 wd:Int
 mk:Nat
 L:List Nat
 M:List Nat
def apF (x:eU) (tv dv:bL) (i:Nat):bL:= [Value.int .u8 (x.kd:Int),.int .i64 x.th,.int .i64 x.wd,.int .u8 (x.mk:Int),tv,dv].getD i undef
def dO (x:eU):Prop:=x.kd<256/\x.mk<256/\(-9223372036854775808<=x.th/\x.th<9223372036854775808)/\(-9223372036854775808<=x.wd/\x.wd<9223372036854775808)/\((∀y∈x.L,y<256)/\∀y∈x.M,y<256)/\x.L.length<=maxLen/\x.M.length<=maxLen
def eE (m:Nat) (w:bb) (v:bL) (al:List eU):Prop:=∃a cap,v= .slice a al.length cap/\∀j x,al[j]? =some x->∃b o tv dv,a=some ⟨b,o,none⟩/\b<m/\(∀i,i<6->w.cell? ⟨b,o+j*6+i,none⟩=some (apF x tv dv i))/\RdS m w tv (u8L x.L)/\RdS m w dv (u8L x.M)
def eE.ext {m:Nat} {w w':bb} {v:bL} {al:List eU} (h:eE m w v al) (e:Ext w w'):eE m w' v al:=by
 obtain ⟨a,cap,hv,h⟩:=h;refine ⟨a,cap,hv,λj x hx=> ?_⟩;obtain ⟨b,o,tv,dv,ha,hb,c,r1,r2⟩:=h j x hx;exact ⟨b,o,tv,dv,ha,hb,λi hi=>e.cell_some (c i hi),r1.ext e,r2.ext e⟩
section
variable {w0 w w1 w':bb} {Y Y':Lay} {D D2 D3:DS} {H:HL} {n k i p q kd Wb b m:Nat} {f f2 f3:Idx} {R M L:List Nat} {lv hd dd v va vb tv:bL} {RL LL DD:List (Nat×Int)}
def pkL (R L:List Nat):List Nat:=if R= [] then [] else L.map λk=>R.getD (k%R.length) 0
def PO {x:Nat} (h:x∈pkL R L):x∈R:=by
 unfold pkL at h;split at h
 ·cases h
 ·rename_i hR;obtain ⟨k,_,rfl⟩:=List.mem_map.1 h;have hl:k%R.length<R.length:=ef _ (List.length_pos_iff.2 hR);rw [ca,b7 hl];exact bk hl
def uw:(pkL R L).length<=L.length:=by
 unfold pkL;split
 ·simp
 ·simp
def PP (R:List Nat):pkL R []= []:=by unfold pkL;split<;>simp
def HY (hR:R≠ []) (L:List Nat) (k:Nat):pkL R (L++ [k])=pkL R L++ [R.getD (k%R.length) 0]:=by
 unfold pkL;rw [if_neg hR,if_neg hR,cm];rfl
structure TwL (w0 w:bb) (va vb:bL) (L:List Nat):Prop where
 e:Ext w0 w
 a:SlO w 27 1 va L.length (bc L)
 b:SlO w 26 1 vb L.length (bc L)
 na:bi w0.heap.size va
 nb:bi w0.heap.size vb
 dj:∀x,va.ownBlock=some x->vb.ownBlock≠some x
def TwL.nil (w:bb):TwL w w (.slice none 0 0) (.slice none 0 0) []:=⟨Ext.refl _,SlO.nil _ _ _,SlO.nil _ _ _,λb h=>(nomatch h),λb h=>(nomatch h),λb h=>(nomatch h)⟩
def TwL.ext (h:TwL w0 w va vb L) (e:Ext w w'):TwL w0 w' va vb L:=⟨h.e.trans e,h.a.ext e,h.b.ext e,h.na,h.nb,h.dj⟩
def TwL.appA {cs:Array Bool} {ty:TypeId} {xb cap:Nat} (h:TwL w0 w va vb L) (hl:L.length<1000000) (hx:w.cell? ⟨xb,0,none⟩=some (.int .u64 (p:Int))) {K:K1}
  (hK:∀c w',Ext w0 w'->SlO w' 27 1 c (L++ [p]).length (bc (L++ [p]))->SlO w' 26 1 vb L.length (bc L)->bi w0.heap.size c->(∀x,c.ownBlock=some x->vb.ownBlock≠some x)->K c w'):
  aV prog .append #[25,25] ty cs #[va,.slice (some ⟨xb,0,none⟩) 1 cap] w K:=by
 refine bH elP (w0:=w0) h.a (Frm.of_ext h.e) h.na (m:=1) (news:= [.int .u64 (p:Int)]) rfl (λj u hj=> ?_) rfl oM oM oM (λv' w' s2 f2 n2 g2 o2=> ?_)
 ·obtain ⟨rfl,rfl⟩:=jg hj;exact hx
 ·rw [<-xG] at s2;refine hK v' w' (f2.to_ext (λ_ _ h=>h)) (by rw [aA];exact s2) (h.b.frm g2 (λb hb e=>h.dj b e hb)) n2 (λx d e=> ?_);rcases o2 x d with e2|e2
  ·exact h.dj x e2 e
  ·have:=h.b.lt e;omega
def TwL.appB {cs:Array Bool} {ty:TypeId} {xb cap:Nat} (he:Ext w0 w) (ha:SlO w 27 1 va (L++ [p]).length (bc (L++ [p]))) (hb:SlO w 26 1 vb L.length (bc L)) (na:bi w0.heap.size va) (nb:bi w0.heap.size vb) (dj:∀x,va.ownBlock=some x->vb.ownBlock≠some x) (hl:L.length<1000000) (hx:w.cell? ⟨xb,0,none⟩=some (.int .u64 (p:Int))) {K:K1}
  (hK:∀c w',TwL w0 w' va c (L++ [p])->K c w'):
  aV prog .append #[58,58] ty cs #[vb,.slice (some ⟨xb,0,none⟩) 1 cap] w K:=by
 refine bH elU (w0:=w0) hb (Frm.of_ext he) nb (m:=1) (news:= [.int .u64 (p:Int)]) rfl (λj u hj=> ?_) rfl oM oM oM (λv' w' s2 f2 n2 g2 o2=> ?_)
 ·obtain ⟨rfl,rfl⟩:=jg hj;exact hx
 ·rw [<-xG] at s2;refine hK v' w' ⟨f2.to_ext (λ_ _ h=>h),ha.frm g2 (λb d e=>dj b d e),by rw [aA];exact s2,na,n2,λx a e=> ?_⟩;rcases o2 x e with e2|e2
  ·exact dj x a e2
  ·have:=ha.lt a;omega
def xJ {A:List Nat} (s:BlS w v (blM f A)) {j:Nat} (e:j<A.length):∃b o cap,v= .slice (some ⟨b,o,none⟩) A.length cap/\b<w.heap.size/\w.cell? ⟨b,o+j*2,none⟩=some (.int .u64 ((A.getD j 0:Nat):Int)):=by
 have e':j<(blM f A).length:=by rw [bE];exact e
 obtain ⟨b,o,cap,hv,hb,hc,c⟩:=ez s e';rw [bE] at hv;have a:=(hc j e').1;rw [jk e'] at a;refine ⟨b,o,cap,hv,hb,?_⟩;rw [ca,b7 e];exact a
def agv {w:bb} {m j:Nat} {v:bL} {L:List Nat} (h:RdS m w v (u8L L)) (hj:j<L.length):∃b o cap,v= .slice (some ⟨b,o,none⟩) L.length cap/\b<m/\w.cell? ⟨b,o+j,none⟩=some (.int .u8 ((L[j]:Nat):Int)):=by
 obtain ⟨a,cap,rfl,hc⟩:=h;have hl:(u8L L).length=L.length:=by simp [u8L]
 rcases hc with hc|⟨b,o,rfl,hb,hc⟩
 ·have:=congrArg List.length hc;rw [hl,cx] at this;omega
 ·rw [hl];refine ⟨b,o,cap,rfl,hb,hc j _ ?_⟩;simp [u8L,hj]
def dg {w:bb} {m:Nat} {v:bL} {L:List Nat} (h:RdS m w v (u8L L)):∃a cap,v= .slice a L.length cap:=by
 obtain ⟨a,cap,rfl,_⟩:=h;exact ⟨a,cap,by simp [u8L]⟩
def aji {x3 x5 x7 tv:bL} (h:PlM w0 w Wb lv hd dd Y D H n f R LL (blM f M) DD) (hM:M.length<1000000) (rk:RdS m w tv (u8L L)) (hb:∀x∈L,x<256) (hl:L.length<=1000) (K:K1)
  (hK:∀va vb w',TwL w w' va vb (pkL M L)->Me K (.pointer (some ⟨Wb,0,none⟩)) x3 va x5 vb x7 w'):
  Mf K (.pointer (some ⟨Wb,0,none⟩)) x3 (.slice none 0 0) x5 (.slice none 0 0) x7 tv (.int .i64 (L.length:Int)) (.int .i64 0) w:=by
 apply Hi (I:=λz4 z6 z w'=>∃j:Nat,z= .int .i64 (j:Int)/\j<=L.length/\TwL w w' z4 z6 (pkL M (L.take j))) (μ:=λ_ _ z _=>L.length-(intOf z).toNat)
 ·exact ⟨0,rfl,by omega,by rw [db,PP];exact TwL.nil w⟩
 ·intros;rename_i z4 z6 z w1 hI E1 hE;obtain ⟨j,rfl,hj,t⟩:=hI;have es:(j:Int)+1=((j+1:Nat):Int):=oM;have h1:=h.ext t.e;have r1:=rk.ext t.e;have q6:=(aE h1.L.bx).2.2.2.2.2.2.1;have lW:=h1.L.bx.lt;have ln:=bE f M;by_cases e:j<L.length
  ·obtain ⟨b,o,cap,rfl,u,c0⟩:=agv r1 e;have q:=hb _ (bk e);have ts:=ch e;have tl:(L.take j).length=j:=by rw [b0];omega
   have pl:=uw (R:=M) (L:=L.take j);generalize L[j]=kk at*;by_cases hM0:M= []
   ·obtain ⟨ha,hc,rfl,_⟩:=h1.sH.isS';have tE:pkL M (L.take (j+1))=pkL M (L.take j):=by unfold pkL;rw [if_pos hM0,if_pos hM0]
    have l0:M.length=0:=by rw [hM0];rfl
    rw [ln,l0] at q6;unfold qi;refine zS2 c0 q6 ?_;rw [Bp];unfold xx;refine zS1 es ?_;apply hE
    ·exact ⟨j+1,rfl,by omega,by rw [tE];exact t⟩
    ·simp only [intOf];omega
   ·have lp:0<M.length:=List.length_pos_iff.2 hM0;have hk:kk%M.length<M.length:=ef _ lp;obtain ⟨s,y,r,rfl,l,d⟩:=xJ h1.sH hk;have em:(kk:Int)%(M.length:Int)=((kk%M.length:Nat):Int):=oM;have tE:pkL M (L.take (j+1))=pkL M (L.take j)++ [M.getD (kk%M.length) 0]:=by rw [ts,HY hM0]
    generalize M.getD (kk%M.length) 0=p at*;have gp:(M.length:Int)>0:=oM;have k:¬(M.length:Int)=0:=oM;unfold qi;refine zS6 c0 q6 gp k em d ?_;refine (t.ext (Ext.drew (Ext.alloc_self w1 (.cells #[.int .u64 (p:Int)] 27)))).appA (p:=p) oM (((yr w1).drew).cell (i:=0) oM) (λv w2 e2 sA sB nA dj=> ?_);refine zS0 ?_;have c:Ext w2 (w2.alloc (.cells #[.int .u64 (p:Int)] 26)):=Ext.alloc_self _ _;refine TwL.appB (p:=p) (e2.trans c) (sA.ext c) (sB.ext c) nA t.nb dj oM ((yr w2).cell (i:=0) oM) (λA w3 t3=> ?_);rw [Bp];unfold xx;refine zS1 es ?_;apply hE
    ·exact ⟨j+1,rfl,by omega,by rw [tE];exact t3⟩
    ·simp only [intOf];omega
  ·obtain rfl:j=L.length:=oM;rw [ct] at t;have g:=hK z4 z6 w1 t;obtain ⟨a,cap,rfl⟩:=dg r1;unfold qi;refine zS0 ?_;exact g
def ajj {x4 x6 tv:bL} (h:PlM w0 w Wb lv hd dd Y D H n f R (blM f M) RL DD) (hM:M.length<1000000) (rk:RdS m w tv (u8L L)) (hb:∀x∈L,x<256) (hl:L.length<=1000) (K:K1)
  (hK:∀va vb w',TwL w w' va vb (pkL M L)->Mg K x4 va x6 vb w'):
  Mh K (.pointer (some ⟨Wb,0,none⟩)) x4 (.slice none 0 0) x6 (.slice none 0 0) tv (.int .i64 (L.length:Int)) (.int .i64 0) w:=by
 apply Hk (I:=λz4 z6 z w'=>∃j:Nat,z= .int .i64 (j:Int)/\j<=L.length/\TwL w w' z4 z6 (pkL M (L.take j))) (μ:=λ_ _ z _=>L.length-(intOf z).toNat)
 ·exact ⟨0,rfl,by omega,by rw [db,PP];exact TwL.nil w⟩
 ·intros;rename_i z4 z6 z w1 hI E1 hE;obtain ⟨j,rfl,hj,t⟩:=hI;have es:(j:Int)+1=((j+1:Nat):Int):=oM;have h1:=h.ext t.e;have r1:=rk.ext t.e;have q6:=(aE h1.L.bx).2.2.2.2.2.1;have lW:=h1.L.bx.lt;have ln:=bE f M;by_cases e:j<L.length
  ·obtain ⟨b,o,cap,rfl,u,c0⟩:=agv r1 e;have q:=hb _ (bk e);have ts:=ch e;have tl:(L.take j).length=j:=by rw [b0];omega
   have pl:=uw (R:=M) (L:=L.take j);generalize L[j]=kk at*;by_cases hM0:M= []
   ·obtain ⟨ha,hc,rfl,_⟩:=h1.sL.isS';have tE:pkL M (L.take (j+1))=pkL M (L.take j):=by unfold pkL;rw [if_pos hM0,if_pos hM0]
    have l0:M.length=0:=by rw [hM0];rfl
    rw [ln,l0] at q6;unfold qj;refine zS2 c0 q6 ?_;rw [Bq];unfold xy;refine zS1 es ?_;apply hE
    ·exact ⟨j+1,rfl,by omega,by rw [tE];exact t⟩
    ·simp only [intOf];omega
   ·have lp:0<M.length:=List.length_pos_iff.2 hM0;have hk:kk%M.length<M.length:=ef _ lp;obtain ⟨s,y,r,rfl,l,d⟩:=xJ h1.sL hk;have em:(kk:Int)%(M.length:Int)=((kk%M.length:Nat):Int):=oM;have tE:pkL M (L.take (j+1))=pkL M (L.take j)++ [M.getD (kk%M.length) 0]:=by rw [ts,HY hM0]
    generalize M.getD (kk%M.length) 0=p at*;have gp:(M.length:Int)>0:=oM;have k:¬(M.length:Int)=0:=oM;unfold qj;refine zS6 c0 q6 gp k em d ?_;refine (t.ext (Ext.drew (Ext.alloc_self w1 (.cells #[.int .u64 (p:Int)] 27)))).appA (p:=p) oM (((yr w1).drew).cell (i:=0) oM) (λv w2 e2 sA sB nA dj=> ?_);refine zS0 ?_;have c:Ext w2 (w2.alloc (.cells #[.int .u64 (p:Int)] 26)):=Ext.alloc_self _ _;refine TwL.appB (p:=p) (e2.trans c) (sA.ext c) (sB.ext c) nA t.nb dj oM ((yr w2).cell (i:=0) oM) (λA w3 t3=> ?_);rw [Bq];unfold xy;refine zS1 es ?_;apply hE
    ·exact ⟨j+1,rfl,by omega,by rw [tE];exact t3⟩
    ·simp only [intOf];omega
  ·obtain rfl:j=L.length:=oM;rw [ct] at t;have g:=hK z4 z6 w1 t;obtain ⟨a,cap,rfl⟩:=dg r1;unfold qj;refine zS0 ?_;exact g
def aev {d c y0 y1 y2 y3:bL} {L2:List Nat} (h:PlM w0 w Wb lv hd dd Y D H n f R (blM f M) (blM f R) DD) (hM:M.length<1000000) (hR:R.length<1000000) (r1:RdS m w d (u8L L)) (r2:RdS m w c (u8L L2)) (b1:∀x∈L,x<256) (b2:∀x∈L2,x<256) (l1:L.length<=1000) (l2:L2.length<=1000) (o0:aj y0=true) (o1:aj y1=true) (o2:aj y2=true) (o3:aj y3=true) (K:K1)
  (hK:∀va vb vc vd w' w1,Ext w w1->TwL w w1 va vc (pkL R L)->TwL w1 w' vb vd (pkL M L2)->K (.tuple #[va,vb,vc,vd]) w'):
  ae prog 40 #[.pointer (some ⟨Wb,0,none⟩),.agg #[y0,y1,y2,y3,d,c]] w K:=by
 obtain ⟨a1,c1,rfl⟩:=dg r1;obtain ⟨a2,c2,rfl⟩:=dg r2;have cN:=ah.new w [y0,y1,y2,y3,.slice a1 L.length c1,.slice a2 L2.length c2] 53;have eN:Ext w (w.alloc (.cells #[y0,y1,y2,y3,.slice a1 L.length c1,.slice a2 L2.length c2] 53)):=Ext.alloc_self _ _;refine aaT _ _ _ _ ?_;unfold agf;refine zS0 ?_;refine aji (L:=L) (h.ext eN) hR (r1.ext eN) b1 l1 K (λva vc w2 t2=> ?_);have c5:w2.cell? ⟨w.heap.size,5,none⟩=some (.slice a2 L2.length c2):=(cN.ext t2.e).cell (i:=5) (by simp);have g:=ax c5;rw [Uk];unfold Hh;refine zS1 c5 ?_;refine ajj (L:=L2) ((h.ext eN).ext t2.e) hM ((r2.ext eN).ext t2.e) b2 l2 K (λvb vd w3 t3=> ?_);rw [Ul];unfold Hj;have t1:TwL w w2 va vc (pkL R L):=⟨eN.trans t2.e,t2.a,t2.b,λb hb=>by have:=t2.na b hb;have:=eN.size;omega,λb hb=>by have:=t2.nb b hb;have:=eN.size;omega,t2.dj⟩;exact hK va vb vc vd w3 w2 (eN.trans t2.e) t1 t3
end
section
variable {w0 w w':bb} {Y Y':Lay} {D:DS} {H:HL} {n k B:Nat} {f:Idx} {R:List Nat}
def akj (h:Dv w Y D) (k:Nat) (hk:k<8) (K:K1):ae prog 90 #[.pointer (some ⟨Y.tb k,0,none⟩)] w K=K (.int .i64 (Y.ids k:Int)) w:=by
 have c:=h.c_tid k hk;refine aD (by kernel_rfl) (Yi _ _ _ ?_) K;unfold afs
 (repeat' first|refine am (λ_=> ?_) (λ_=> ?_)|refine ao ?_ ?_|refine zS2 h.R c ?_|exact yS2 h.R c|fail)
def ab2 (h:HpS w0 w Y D H n f R) (v:H.av=none) (hk:k<8) (sp:Spc w Y H B k) (x:Int) (kd:Nat) (q:kd<256) (hx:D.exe<900000000) (hR:R.length<1000000) (K:K1)
  (r:x<1\/kd=0\/127<kd->∀w',Ext w w'->K (.tuple #[.int .u64 ((0:Nat):Int),.int .i64 1]) w')
  (o:1<=x->kd≠0->kd<=127->60<x->∀w',Ext w w'->K (.tuple #[.int .u64 ((0:Nat):Int),.int .i64 9]) w')
  (l:H.lk=true->1<=x->kd≠0->kd<=127->x<=60->∀w',Ext w w'->K (.tuple #[.int .u64 ((0:Nat):Int),.int .i64 7]) w')
  (u:H.lk=false->1<=x->kd≠0->kd<=127->x<=60->∀w' Y',HSt w Y H w' Y'->HpS w0 w' Y' D H n f R->K (.tuple #[.int .u64 ((0:Nat):Int),.int .i64 4]) w')
  (s:H.lk=false->1<=x->kd≠0->kd<=127->x<=60->∀D2 f2 D3 f3 p k' i,qe D f R n H.avl (k:Int) (clsN x) kd D2 f2 D3 f3 p k' i->∀w' Y',HSt w Y H w' Y'->HpS w0 w' Y' D3 H n f3 (R++ [p])->K (.tuple #[.int .u64 (p:Int),.int .i64 0]) w'):
  ae prog 36 #[.pointer (some ⟨B,0,none⟩),.int .i64 x,.int .u8 (kd:Int)] w K:=by
 have d:=h.erE;have j:∀(w1:bb) (K:K1),Ext w w1->ae prog 28 #[.pointer (some ⟨Y.tb k,0,none⟩)] w1 K=K (.int .i64 0) w1:=λw1 K e=>by rw [fV (h.ar.L.dv.ext e) k hk K,h.er k hk]
 have g:∀(w1:bb) (K:K1),Ext w w1->ae prog 90 #[.pointer (some ⟨Y.tb k,0,none⟩)] w1 K=K (.int .i64 (k:Int)) w1:=λw1 K e=>by rw [akj (h.ar.L.dv.ext e) k hk K,h.dt.2]
 have m:=λ(w1:bb) (e:Ext w w1) (x1:1<=x) (x60:x<=60) (k0:kd≠0) (k7:kd<=127) (K:K1) a b=>sM (h.ext e) v (t:=(k:Int)) oM oM x1 x60 kd k0 k7 hx hR K a b
 obtain ⟨q0,q1,q2⟩:=sp.cells;have q3:=h.cell.1;have q7:w.cell? ⟨H.p,7,none⟩=some (.bool H.lk):=h.cell.2.2.2.2.2.2.2;have ltp:=h.ltp;have ltB:=ax q0;have c:=tr (k:Int) x kd q;refine Zb _ _ _ _ _ ?_;unfold afE;by_cases a:x<1\/kd=0\/127<kd
 ·rw [if_neg oM] at c;refine fJ q0 q1 q2 g c c ?_;exact r a _ xZ
 ·rw [if_pos oM] at c;by_cases b:x<=60
  ·rw [if_pos b] at c;by_cases hl:H.lk=true
   ·rw [hl] at q7;refine jJ q0 q1 q2 q3 q7 g c j d d d ?_;exact l hl oM oM oM b _ xZ
   ·have hl:H.lk=false:=by simpa using hl
    rw [hl] at q7;refine jJ q0 q1 q2 q3 q7 g c j d d d ?_;refine ⟨trivial,trivial,trivial,?_⟩;refine m _ xZ oM b oM oM _ (λ_ _ _ w2 Y2 s2 h2=> ?_) (λD2 f2 D3 f3 p k' i V w2 Y2 s2 h2=> ?_)
    ·refine zS0 ?_;exact u hl oM oM oM b w2 Y2 ((HSt.of_ext Y H xZ).trans s2) h2
    ·refine zS0 ?_;exact s hl oM oM oM b D2 f2 D3 f3 p k' i V w2 Y2 ((HSt.of_ext Y H xZ).trans s2) h2
  ·rw [if_neg b] at c;refine fJ q0 q1 q2 g c c ?_;exact o oM oM oM oM _ xZ
end
def My (n:Nat) (h:n<4):IntKind.i64.wrap (n:Int)=(n:Int):=by
 have:n=0\/n=1\/n=2\/n=3:=by omega
 rcases this with rfl|rfl|rfl|rfl<;>rfl
def akk (a:Int):IntKind.i64.wrap ((BitVec.ofInt 64 a&&&BitVec.ofInt 64 3).toNat:Int)=a%4:=by
 have h3:(BitVec.ofInt 64 3).toNat=2^2-1:=by decide
 have h:(BitVec.ofInt 64 a&&&BitVec.ofInt 64 3).toNat=(BitVec.ofInt 64 a).toNat%4:=by
  rw [BitVec.toNat_and,h3,Nat.and_two_pow_sub_one_eq_mod]
 have h2:(BitVec.ofInt 64 a).toNat=(a%18446744073709551616).toNat:=by rw [BitVec.toNat_ofInt];rfl
 rw [My _ (by rw [h];omega),h,h2];omega
def Ew (P:Program) (t:TypeId) (x y:Operand) (a:Int) (w:bb) (k:K1):ev P (aG .and t x y (.int .i64 a) (.int .i64 3)) w k=k (.int .i64 (a%4)) w:=by
 refine ad ?_ k;rw [bg];simp only [binOp,ne_eq,not_true,if_false,Op.intBits];rw [f9];exact congrArg (λz=>Result.ok (Value.int .i64 z) w) (akk a)
structure PlD (D:DS) (R:List Nat) (DD:List (Nat×Int)) (D':DS) (R':List Nat) (DD':List (Nat×Int)):Prop where
 ex:D'.exe<=D.exe+1000
 rl:R'.length<=R.length+1
 dl:DD'.length<=DD.length+100
 cl:Cln D.co->Cln D'.co
section
variable {w0 w w1 w':bb} {Y Y':Lay} {D D2 D3:DS} {H:HL} {n k i p q kd Wb b m ab:Nat} {f f2 f3:Idx} {R M L:List Nat} {lv hd dd v va vb tv dv z:bL} {RL LL DD:List (Nat×Int)} {x:eU}
def PlD.refl:PlD D R DD D R DD:=⟨by omega,by omega,by omega,id⟩
def ajk (h:PlS w0 w Wb lv hd dd Y D H n f R DD) (s:H.av=none) (v:H.lk=false) (cA:ah w ab 53 6 (apF x tv dv)) (oA:lE w0 Y H Wb ab) (nA:hd.ownBlock≠some ab) (j:x.mk<256) (hx:D.exe<800000000) (hR:R.length<50000) (C:DD.length<50000) (K:K1)
  (hK:∀Y' D' f' R' hd' w',PlS w0 w' Wb lv hd' dd Y' D' H n f' R' DD->PlD D R DD D' R' DD->K (.bool true) w'):
  mw K (.pointer (some ⟨Wb,0,none⟩)) (.pointer (some ⟨ab,0,none⟩)) z (.bool true) w:=by
 have a1:w.cell? ⟨ab,1,none⟩=some (.int .i64 x.th):=cA.cell (i:=1) oM;obtain ⟨t,et,ht⟩:∃t:Nat,x.th%4=(t:Int)/\t<8:=⟨(x.th%4).toNat,by omega,by omega⟩;have r:=λ(w':bb) (e:Ext w w') (K:K1) hK=>(h.m.L.ext e).space (k:=t) ht K hK
 have F:=cA.lt;have nn:=h.m.nn;rw [nL];unfold my;refine zS3 a1 @Ew et ?_;refine r _ xZ _ (λB w1 e1 hB sB=> ?_);have g:Ext w w1:=Ext.trans xZ e1;have c1:=cA.ext g;have b2:w1.cell? ⟨ab,2,none⟩=some (.int .i64 x.wd):=c1.cell (i:=2) oM;have b3:w1.cell? ⟨ab,3,none⟩=some (.int .u8 (x.mk:Int)):=c1.cell (i:=3) oM;have h1:=h.ext g;have A:=c1.lt;refine zS2 b2 b3 ?_;refine ab2 h1.m.L.hp s ht sB x.wd x.mk j oM oM _ (λu w2 e2=> ?_) (λp1 p2 p3 p4 w2 e2=> ?_) (λhl=>by rw [v] at hl;cases hl) (λ_ p1 p2 p3 p4 w2 Y2 s2 c=> ?_) (λ_ p1 p2 p3 p4 D2 f2 D3 f3 p k i V w2 Y2 s2 c=> ?_)
 ·have c2:=c1.ext e2;have d2:w2.cell? ⟨ab,2,none⟩=some (.int .i64 x.wd):=c2.cell (i:=2) oM;have d3:w2.cell? ⟨ab,3,none⟩=some (.int .u8 (x.mk:Int)):=c2.cell (i:=3) oM;have d:=c2.lt;have b:=hK Y D f R hd w2 (h1.ext e2) PlD.refl;refine zS1 d2 ?_;rcases u with a|a|a
  ·refine fP x.wd _ _ (λ_=> ?_) (λq _=>absurd q oM) (λq=>absurd q oM);refine zS0 ?_;exact b
  ·have m0:(x.mk:Int)=0:=oM;refine fP x.wd _ _ (λ_=> ?_) (λ_ _=> ?_) (λ_=> ?_)<;>(simp (disch:=try exact dZ) only [↓RBp,↓RA,↓reduceIte,Nat.reduceAdd,Nat.reduceMul,Nat.reduceEqDiff,RB,RX,RA2,d3,m0];exact b)
  ·have m0:¬(x.mk:Int)=0:=oM;have m7:127<(x.mk:Int):=oM;refine fP x.wd _ _ (λ_=> ?_) (λ_ _=> ?_) (λ_=> ?_)<;>(simp (disch:=try exact dZ) only [↓RBp,↓RA,↓reduceIte,Nat.reduceAdd,Nat.reduceMul,Nat.reduceEqDiff,RB,RX,RA2,d3,m0,m7];exact b)
 ·have c2:=c1.ext e2;have d2:w2.cell? ⟨ab,2,none⟩=some (.int .i64 x.wd):=c2.cell (i:=2) oM;have d3:w2.cell? ⟨ab,3,none⟩=some (.int .u8 (x.mk:Int)):=c2.cell (i:=3) oM;have d:=c2.lt;have b:=hK Y D f R hd w2 (h1.ext e2) PlD.refl;have m0:¬(x.mk:Int)=0:=oM;have m7:¬127<(x.mk:Int):=oM;refine zS1 d2 ?_;refine fP x.wd _ _ (λq=>absurd q oM) (λ_ q=>absurd q oM) (λ_=> ?_);refine zS3 d3 m0 m7 ?_;exact b
 ·have c2:=c1.frm s2.frm oA.frm;have d2:w2.cell? ⟨ab,2,none⟩=some (.int .i64 x.wd):=c2.cell (i:=2) oM;have d3:w2.cell? ⟨ab,3,none⟩=some (.int .u8 (x.mk:Int)):=c2.cell (i:=3) oM;have d:=c2.lt;have b:=hK Y2 D f R hd w2 ⟨h1.m.st s2 c,h1.gn,h1.dp⟩ PlD.refl;have m0:¬(x.mk:Int)=0:=oM;have m7:¬127<(x.mk:Int):=oM;refine zS1 d2 ?_;refine fP x.wd _ _ (λq=>absurd q oM) (λ_ _=> ?_) (λq=>absurd q oM);refine zS3 d3 m0 m7 ?_;exact b
 ·have c2:=c1.frm s2.frm oA.frm;have d2:w2.cell? ⟨ab,2,none⟩=some (.int .i64 x.wd):=c2.cell (i:=2) oM;have d3:w2.cell? ⟨ab,3,none⟩=some (.int .u8 (x.mk:Int)):=c2.cell (i:=3) oM;have d:=c2.lt;have m0:¬(x.mk:Int)=0:=oM;have m7:¬127<(x.mk:Int):=oM;obtain ⟨m3,o,l⟩:=ab1 h1 V oM s2 c;have y:=c.rg.lt;have n3:=V.n3;have E:=V.x3;have vs:=V.sp oM (c.rv p (by simp)) oM c.rg;have hz:=PN V oM vs.1;refine zS1 d2 ?_;refine fP x.wd _ _ (λq=>absurd q oM) (λ_ _=> ?_) (λq=>absurd q oM);refine zS4 d2 d3 m0 m7 ?_;refine abW m3 o l p1 p4 (by rw [vs.2.1];exact vs.2.2.2.1) x.mk p3 vs.2.2.1 hz oM oM _ (λhd3 w3 P3 g3 o3=> ?_);refine zS0 ?_;exact hK Y2 D3 f3 (R++ [p]) hd3 w3 P3 ⟨by omega,by rw [aA,cb];omega,by omega,V.cl⟩
end
section
variable {w0 w w1 w':bb} {Y Y':Lay} {D D2 D3:DS} {H:HL} {n k i p q kd Wb b m ab:Nat} {f f2 f3:Idx} {R M L:List Nat} {lv hd dd v va vb tv dv z:bL} {RL LL DD:List (Nat×Int)} {x:eU}
def PQ {t:TypeId} {V:List bL} (h:SlO w t 1 v V.length V) (hm:∀b,v.ownBlock=some b->b<m):RdS m w v V:=by
 obtain ⟨a,cap,hv,_⟩:=h.isS';subst hv;refine ⟨a,cap,rfl,?_⟩;rcases Nat.eq_zero_or_pos V.length with e|e
 ·exact .inl (d5 e)
 ·obtain ⟨b,o,c,ev,_⟩:=h.isS e;injection ev with e1 _ e3;subst e1;subst e3;exact .inr ⟨b,o,rfl,hm b rfl,λj u hj=>h.cell rfl hj⟩
def slU {t:TypeId} (h:SlO w t 1 v L.length (bc L)):SlO w t 1 v (bc L).length (bc L):=by rw [fm];exact h
structure LsI (w w2:bb) (R A:List Nat) (va vb vc vd:bL) (keep free:List Nat):Prop where
 e:Ext w w2
 ik:∀p∈keep,p∈R
 jf:∀p∈free,p∈A
 lk:keep.length<=100
 lf:free.length<=100
 a:SlO w2 27 1 va keep.length (bc keep)
 b:SlO w2 27 1 vb free.length (bc free)
 c:SlO w2 26 1 vc keep.length (bc keep)
 d:SlO w2 26 1 vd free.length (bc free)
 na:bi w.heap.size va
 nb:bi w.heap.size vb
 nc:bi w.heap.size vc
 nd:bi w.heap.size vd
def HZ {d c y0 y1 y2 y3:bL} {L2:List Nat} (h:PlM w0 w Wb lv hd dd Y D H n f R (blM f M) (blM f R) DD) (hM:M.length<1000000) (hR:R.length<1000000) (r1:RdS m w d (u8L L)) (r2:RdS m w c (u8L L2)) (b1:∀x∈L,x<256) (b2:∀x∈L2,x<256) (l1:L.length<=100) (l2:L2.length<=100) (o0:aj y0=true) (o1:aj y1=true) (o2:aj y2=true) (o3:aj y3=true) (K:K1)
  (hK:∀(xa:Option Addr) (ya:Nat) (xb:Option Addr) (yb:Nat) (vc vd:bL) (keep free:List Nat) (w2:bb),LsI w w2 R M (.slice xa keep.length ya) (.slice xb free.length yb) vc vd keep free->K (.tuple #[.slice xa keep.length ya,.slice xb free.length yb,vc,vd]) w2):
  ae prog 40 #[.pointer (some ⟨Wb,0,none⟩),.agg #[y0,y1,y2,y3,d,c]] w K:=by
 refine aev h hM hR r1 r2 b1 b2 oM oM o0 o1 o2 o3 K (λva vb vc vd w2 w1 e1 t1 t2=> ?_);have lk:=uw (R:=R) (L:=L);have lf:=uw (R:=M) (L:=L2);have mk:∀p∈pkL R L,p∈R:=λp hp=>PO hp
 have mf:∀p∈pkL M L2,p∈M:=λp hp=>PO hp
 generalize pkL R L=keep at*;generalize pkL M L2=free at*;have n1:=e1.size;obtain ⟨xa,ya,rfl,_⟩:=id t1.a.isS';obtain ⟨xb,yb,rfl,_⟩:=id t2.a.isS';exact hK xa ya xb yb vc vd keep free w2 ⟨e1.trans t2.e,mk,mf,by omega,by omega,t1.a.ext t2.e,t2.a,t1.b.ext t2.e,t2.b,t1.na,λb hb=>by have:=t2.na b hb;omega,t1.nb,λb hb=>by have:=t2.nb b hb;omega⟩
def ajl (h:PlS w0 w Wb lv hd dd Y D H n f R DD) (U:H.lk=false) (cA:ah w ab 53 6 (apF x tv dv)) (oA:lE w0 Y H Wb ab) (nA:dd.ownBlock≠some ab) (ok:dO x) (r1:RdS m w tv (u8L x.L)) (r2:RdS m w dv (u8L x.M)) (l1:x.L.length<=100) (l2:x.M.length<=100) (V:n<=120) (hx:D.exe<800000000) (hR:R.length<50000) (Z:DD.length<50000) {kz:Nat} (a8:4<kz) (K:K1)
  (hK:∀Y' D' f' R' DD' lv' hd' dd' w',PlS w0 w' Wb lv' hd' dd' Y' D' H n f' R' DD'->PlD D R DD D' R' DD'->K (.bool true) w'):
  mw K (.pointer (some ⟨Wb,0,none⟩)) (.pointer (some ⟨ab,0,none⟩)) (.int .u8 (kz:Int)) (.bool false) w:=by
 have hc:∀i,i<6->w.cell? ⟨ab,i,none⟩=some (apF x tv dv i):=λi hi=>cA.cell hi
 have a0:w.cell? ⟨ab,0,none⟩=some (.int .u8 (x.kd:Int)):=hc 0 oM;have a1:w.cell? ⟨ab,1,none⟩=some (.int .i64 x.th):=hc 1 oM;have a2:w.cell? ⟨ab,2,none⟩=some (.int .i64 x.wd):=hc 2 oM;have a3:w.cell? ⟨ab,3,none⟩=some (.int .u8 (x.mk:Int)):=hc 3 oM;have a4:w.cell? ⟨ab,4,none⟩=some tv:=hc 4 oM;have a5:w.cell? ⟨ab,5,none⟩=some dv:=hc 5 oM;obtain ⟨th,et,ht⟩:∃t:Nat,x.th%4=(t:Int)/\t<8:=⟨(x.th%4).toNat,by omega,by omega⟩;have a7:=cA.lt;have nn:=h.m.nn;have rg:=h.m.L.hp.rg;have hz:¬(kz:Int)=4:=oM;have W:=gT rg n (aB _);obtain ⟨ta,tc,rfl⟩:=dg r1;obtain ⟨da,dc,rfl⟩:=dg r2;have lW:=h.m.L.bx.lt;rw [nL];unfold my;refine zS8 a0 a1 a2 a3 a4 a5 hz hz ?_;refine HZ (M:=livN D f n) h.m oM oM r1 r2 ok.2.2.2.2.1.1 ok.2.2.2.2.1.2 l1 l2 rfl rfl rfl rfl _ (λxa ya xb yb vc vd keep free w2 t=> ?_);have h2:=h.ext t.e;have b2:=aE h2.m.L.bx;have q5:=b2.2.2.2.2.2.1;have q6:=b2.2.2.2.2.2.2.1;have q7:=b2.2.2.2.2.2.2.2;have X:=h2.m.L.bx.lt;have C:=h.m.L.hp.nd;have lk:=t.lk;have lf:=t.lf;have y:∀b,dd.ownBlock=some b->b<w.heap.size:=λb hb=>h.m.sD.lt hb
 have fl:∀p∈free,Liv D f n p:=λp hp=>(bn rg).1 (t.jf p hp)
 have cA2:=cA.ext t.e;have pub:=λ(w9:bb) (g9:Frm (λb=>dd.ownBlock=some b) w2 w9) (s9:BlS w9 dd DD) (o:bb) (l:Ext w9 o) (B:Nat) (sB:Spc o Y H B th) (K:K1)=>
  sS (keep:=keep) (free:=free) ((h2.m.drop g9 s9).ext l).L.hp U ht sB t.ik fl
   (eh.rdh (λb hb=>h.m.L.own (t.na b hb)) (slU (L:=keep)<|((t.a.frm g9 (λb hb e=>by have:=t.na b hb;have:=y b e;omega)).ext l)))
   (eh.rdh (λb hb=>h.m.L.own (t.nb b hb)) (slU (L:=free)<|((t.b.frm g9 (λb hb e=>by have:=t.nb b hb;have:=y b e;omega)).ext l))) oM oM oM K
 have F:=λ(w9:bb) (g9:Frm (λb=>dd.ownBlock=some b) w2 w9) (s9:BlS w9 dd DD) (w':bb) (e:Ext w9 w') (K:K1) hK=>((h2.m.drop g9 s9).ext e).L.space (k:=th) ht K hK
 refine zS3 q5 q6 q7 ?_;refine oY (L:=livN D f n) (R:=R) (f:=f) (keep:=keep) (free:=free) (m:=w2.heap.size) h2.m.sL h2.m.sH h2.m.sD h.m.hl h.m.hdd h.m.dl (λw' g=> ?_) (λw' g=> ?_) (aB _) t.ik (aan C) t.jf (λd=>agt rg nn.1 (agu C t.ik (List.nodup_append.1 d.1).1) (λp hp=>h.m.L.hp.rv p (t.ik p hp))) (λq hq=> ?_) oM oM oM _ (λS w9 e9=> ?_) (λP lv' hd' dd' w9 g9 sL sH sD sK oL oH oD hl hdd dl=> ?_)
 ·exact PQ (t:=26) (slU (L:=keep)<|t.c.frm g (λb hb e=>by have:=t.nc b hb;have:=y b e;omega)) (λb hb=>t.c.lt hb)
 ·exact PQ (t:=26) (slU (L:=free)<|t.d.frm g (λb hb e=>by have:=t.nd b hb;have:=y b e;omega)) (λb hb=>t.d.lt hb)
 ·have:=(h.m.L.at_ (p:=q) (hq.symm.imp id (λh=>(bn rg).1 h))).2.2;omega
 ·
  have g9:Frm (λb=>dd.ownBlock=some b) w2 w9:=Frm.of_ext e9;have M9:=h2.m.drop g9 (h2.m.sD.ext e9);have s9:=h2.m.sD.ext e9;have o1:=aP h.m.sL;have o2:=aP h.m.sH;have o3:=aP h.m.sD;have cA9:=cA2.ext e9;have a9:w9.cell? ⟨ab,1,none⟩=some (.int .i64 x.th):=cA9.cell (i:=1) oM;have J:=cA9.lt;have eB:=Ext.alloc_self w9 (.cells #[lv,hd,dd] 36);have cB:=ah.new w9 [lv,hd,dd] 36;have lB:w9.heap.size<(w9.alloc (.cells #[lv,hd,dd] 36)).heap.size:=cB.lt;refine zS6 o1 o2 o3 a9 @Ew et ?_;refine F w9 g9 s9 _ xZ _ (λB o l hB sB=> ?_);have eC:Ext w9 o:=Ext.trans xZ l;have cC:=cB.ext l;refine zS0 ?_;refine pub w9 g9 s9 o eC B sB _ (λ_ v u=> ?_) (λO v u=> ?_) (λD7 f7 w7 Y7 d7=>absurd d7 S)
  ·have j:=M9.ext (eC.trans u);have cD:=cC.ext u;have y0:v.cell? ⟨w9.heap.size,0,none⟩=some lv:=cD.cell (i:=0) (by simp);have y1:v.cell? ⟨w9.heap.size,1,none⟩=some hd:=cD.cell (i:=1) (by simp);have y2:v.cell? ⟨w9.heap.size,2,none⟩=some dd:=cD.cell (i:=2) (by simp);have s:=aE j.L.bx;have z5:=s.2.2.2.2.2.1;have z6:=s.2.2.2.2.2.2.1;have z7:=s.2.2.2.2.2.2.2;have z:=j.L.bx.frz;have T:=j.L.bx.lt;have lD:=cD.lt;have r:=hK Y D f R DD lv hd dd _ ⟨(j.put3 (Frm.refl _ _) j.sL j.sH j.sD j.oL j.oH j.oD j.hl j.hdd j.dl).2,h.gn,h.dp⟩ PlD.refl;refine jH y0 y1 y2 z5 z6 z7 z o1 o2 o3 o3 ?_;exact r
  ·have A:(keep.length:Int)+(free.length:Int)>40:=oM;have r:=hK Y D f R DD lv hd dd _ ⟨M9.ext (eC.trans u),h.gn,h.dp⟩ PlD.refl;refine zS1 A ?_;exact r
 ·have M9:=h2.m.drop g9 sK;have o1:=aP sL;have o2:=aP sH;have o3:=aP sD;have cA9:=cA2.frm g9 nA;have a9:w9.cell? ⟨ab,1,none⟩=some (.int .i64 x.th):=cA9.cell (i:=1) oM;have J:=cA9.lt;have cB:=ah.new w9 [lv',hd',dd'] 36;have lB:w9.heap.size<(w9.alloc (.cells #[lv',hd',dd'] 36)).heap.size:=cB.lt;have ow:lE w0 Y H Wb w9.heap.size:=M9.L.own (aB _);have L1:=h2.m.own h2.m.oL oL;have L2:=h2.m.own h2.m.oH oH;have L3:=h2.m.own h2.m.oD oD;refine zS6 o1 o2 o3 a9 @Ew et ?_;refine F w9 g9 sK _ xZ _ (λB o l hB sB=> ?_);have eC:Ext w9 o:=Ext.trans xZ l;have cC:=cB.ext l;refine zS0 ?_;refine pub w9 g9 sK o eC B sB _ (λnd _ _=>absurd P nd) (λO v u=> ?_) (λD7 f7 w7 Y7 d7 pr s7 N=> ?_)
  ·have A:(keep.length:Int)+(free.length:Int)>40:=oM;have r:=hK Y D f R DD lv hd dd _ ⟨M9.ext (eC.trans u),h.gn,h.dp⟩ PlD.refl;refine zS1 A ?_;exact r
  ·have M7:=(M9.ext eC).st s7 N;have I:=L1.st (sL.ext eC) s7;have E:=L2.st (sH.ext eC) s7;have G:=L3.st (sD.ext eC) s7;have cD:=cC.frm s7.frm ow.frm;have y0:w7.cell? ⟨w9.heap.size,0,none⟩=some lv':=cD.cell (i:=0) (by simp);have y1:w7.cell? ⟨w9.heap.size,1,none⟩=some hd':=cD.cell (i:=1) (by simp);have y2:w7.cell? ⟨w9.heap.size,2,none⟩=some dd':=cD.cell (i:=2) (by simp);have s:=aE M7.L.bx;have z5:=s.2.2.2.2.2.1;have z6:=s.2.2.2.2.2.2.1;have z7:=s.2.2.2.2.2.2.2;have z:=M7.L.bx.frz;have T:=M7.L.bx.lt;have lD:=cD.lt;have pm:=M7.put3 (Frm.refl _ _) I.2 E.2 G.2 I.1 E.1 G.1 hl hdd dl;have px:=pr.exe;have a6:(rmL R keep).length<=R.length:=ce _ _;have Q:=bE f free;have r:=hK Y7 D7 f7 (rmL R keep) (DD++blM f free) lv' hd' dd' _ (Ev h.gn h.dp rg nn.1 pr pm.2) ⟨by omega,by omega,by rw [aA,Q];omega,pr.cl⟩;refine jH y0 y1 y2 z5 z6 z7 z o1 o2 o3 o3 ?_;exact r
end
section
variable {w0 w w1 w':bb} {Y Y':Lay} {D D2 D3:DS} {H:HL} {n k i p q kd Wb b m ab:Nat} {f f2 f3:Idx} {R M L:List Nat} {lv hd dd v va vb tv dv z:bL} {RL LL DD:List (Nat×Int)} {x:eU}
def agw {a:Int} (e:a%18446744073709551616=(p:Int)) (w:bb) (k:bL->Prop):rd prog (convert 3 27 (.int .i64 a)) w k=k (.int .u64 (p:Int)):=
 ai ((Go.Sh.run_convert (P:=prog) (j:= .i64) (k:= .u64) (by kernel_rfl) (by kernel_rfl) .i64 a w).trans (by rw [show IntKind.u64.wrap a=a%18446744073709551616 from rfl,e])) k
def ajm (h:PlS w0 w Wb lv hd dd Y D H n f R DD) (cA:ah w ab 53 6 (apF x tv dv)) (s:x.mk<256) (hR:R.length<50000) (K:K1)
  (hK:∀D' f' R' hd' w',PlS w0 w' Wb lv hd' dd Y D' H n f' R' DD->PlD D R DD D' R' DD->K (.bool true) w'):
  mw K (.pointer (some ⟨Wb,0,none⟩)) (.pointer (some ⟨ab,0,none⟩)) (.int .u8 ((4:Nat):Int)) (.bool false) w:=by
 have a2:w.cell? ⟨ab,2,none⟩=some (.int .i64 x.wd):=cA.cell (i:=2) oM;have a3:w.cell? ⟨ab,3,none⟩=some (.int .u8 (x.mk:Int)):=cA.cell (i:=3) oM;have B:=cA.lt;have nn:=h.m.nn;have v:=h.m.L.hp.rg.lt;have q6:=(aE h.m.L.bx).2.2.2.2.2.2.1;have q3:=(aE h.m.L.bx).2.2.2.1;have lW:=h.m.L.bx.lt;have ln:=bE f R;have hr:∀p∈R,p<18446744073709551616:=λp hp=>by have:=(h.m.L.at_ (.inl hp)).2.2;omega
 by_cases hM0:R= []
 ·obtain ⟨ha,hc,rfl,_⟩:=h.m.sH.isS';have l0:R.length=0:=by rw [hM0];rfl
  rw [ln,l0] at q6;obtain ⟨p,ep,hp⟩:∃p:Nat,x.wd%18446744073709551616=(p:Int)/\p<18446744073709551616:=⟨(x.wd%18446744073709551616).toNat,by omega,by omega⟩;rw [nL];unfold my;refine zS6 q6 q3 a2 a3 (agw ep) (agw ep) ?_;refine xh (h.m.L.hp.ext xZ) hr hp oM _ (λ_ w2 e2=> ?_) (λhm=>absurd hm (by rw [hM0];simp));refine zS0 ?_;exact hK D f R _ w2 ((h.ext xZ).ext e2) PlD.refl
 ·have lp:0<R.length:=List.length_pos_iff.2 hM0;have hk:x.mk%R.length<R.length:=ef _ lp;obtain ⟨u,z,t,rfl,r,e⟩:=xJ h.m.sH hk;have em:(x.mk:Int)%(R.length:Int)=((x.mk%R.length:Nat):Int):=oM;have gp:(R.length:Int)>0:=oM;have k:¬(R.length:Int)=0:=oM;have d:x.mk%R.length<(blM f R).length:=by rw [ln];exact hk
  have c:R.getD (x.mk%R.length) 0∈R:=by rw [ca,b7 hk];exact bk hk
  have o:=Eu d (p:=R.getD (x.mk%R.length) 0) (by rw [jk d,ca,b7 hk];rfl);have l:=o.2.2 (aan h.m.L.hp.nd);generalize R.getD (x.mk%R.length) 0=p at*;generalize x.mk%R.length=kk at*;rw [nL];unfold my;refine zS8 q6 q3 a2 a3 em gp k e ?_;refine oX (h.m.sH.ext xZ) d oM _ (λv3 w3 e3 n3 s3=> ?_);rw [l] at s3;have a:Ext w w3:=Ext.trans xZ e3;have M3:=h.m.newH a s3 (λb hb=>by have:=n3 b hb;simp only [RZ] at this;exact this);have k6:=(aE (h.m.L.ext a).bx).2.2.2.2.2.2.1;have j:=(h.m.L.ext a).bx.frz;have A:=(h.m.L.ext a).bx.lt;have k3:=(aE M3.L.bx).2.2.2.1;have o3:=aP s3;refine zS4 k6 j o3 k3 ?_;refine xh M3.L.hp hr (hr p c) oM _ (λhn=>absurd c hn) (λ_ w4 f4 fs s4 g=> ?_);have M4:=M3.st s4 g;have k4:=(aE M4.L.bx).2.2.2.1;have y:=M4.L.bx.lt;have rl:(rmR R p).length<=R.length:=ce _ _;refine zS1 k4 ?_;refine xh M4.L.hp (λq hq=>hr q (List.mem_filter.1 hq).1) (hr p c) oM _ (λ_ w5 e5=> ?_) (λhm=>absurd (List.mem_filter.1 hm).2 (by simp));refine zS0 ?_;exact hK D f4 (rmR R p) v3 w5 ((ah7 h fs g M4).ext e5) ⟨by omega,by omega,by omega,id⟩
end
section
variable {w0 w w1 w':bb} {Y Y':Lay} {D D2 D3:DS} {H:HL} {n k i p q kd Wb b m ab:Nat} {f f2 f3:Idx} {R M L:List Nat} {lv hd dd v va vb tv dv z:bL} {RL LL DD:List (Nat×Int)} {x:eU}
def Ex {ta da:Option Addr} {tc dc lT lD:Nat} (K:K1) (h1:100<lT\/100<lD->∀w',Ext w w'->K (.bool true) w') (h0:lT<=100->lD<=100->∀w',Ext w w'->K (.bool false) w') {a b c d:bL} (oa:aj a=true) (ob:aj b=true) (oc:aj c=true) (od:aj d=true):
  ae prog 26 #[.agg #[a,b,c,d,.slice ta lT tc,.slice da lD dc]] w K:=by
 have cB:=ah.new w [a,b,c,d,.slice ta lT tc,.slice da lD dc] 53;have c4:(w.alloc (.cells #[a,b,c,d,.slice ta lT tc,.slice da lD dc] 53)).cell? ⟨w.heap.size,4,none⟩=some (.slice ta lT tc):=cB.cell (i:=4) (by simp);have c5:(w.alloc (.cells #[a,b,c,d,.slice ta lT tc,.slice da lD dc] 53)).cell? ⟨w.heap.size,5,none⟩=some (.slice da lD dc):=cB.cell (i:=5) (by simp);refine aaO _ _ _ ?_;unfold agd;by_cases a1:100<lT
 ·have g:(100:Int)<(lT:Int):=oM;have e:=h1 (.inl a1) _ (Ext.alloc_self w (.cells #[a,b,c,d,.slice ta lT tc,.slice da lD dc] 53));refine zS2 c4 g ?_;exact e
 ·have g:¬(100:Int)<(lT:Int):=oM;by_cases a2:100<lD
  ·have g2:(100:Int)<(lD:Int):=oM;have e:=h1 (.inr a2) _ (Ext.alloc_self w (.cells #[a,b,c,d,.slice ta lT tc,.slice da lD dc] 53));refine zS4 c4 c5 g g2 ?_;exact e
  ·have g2:¬(100:Int)<(lD:Int):=oM;have e:=h0 oM oM _ (Ext.alloc_self w (.cells #[a,b,c,d,.slice ta lT tc,.slice da lD dc] 53));refine zS4 c4 c5 g g2 ?_;exact e
def Ey (h:PlS w0 w Wb lv hd dd Y D H n f R DD) (k:H.av=none) (g:H.lk=false) (ok:dO x) (r1:RdS m w tv (u8L x.L)) (r2:RdS m w dv (u8L x.M)) (hl:4<x.kd%8->x.L.length<=100/\x.M.length<=100) (j:n<=120) (hx:D.exe<800000000) (hR:R.length<50000) (d:DD.length<50000) (K:K1)
  (hK:∀Y' D' f' R' DD' lv' hd' dd' w',PlS w0 w' Wb lv' hd' dd' Y' D' H n f' R' DD'->PlD D R DD D' R' DD'->K (.bool true) w'):
  ae prog 27 #[.pointer (some ⟨Wb,0,none⟩),.agg #[.int .u8 (x.kd:Int),.int .i64 x.th,.int .i64 x.wd,.int .u8 (x.mk:Int),tv,dv]] w K:=by
 have eB:=Ext.alloc_self w (.cells #[.int .u8 (x.kd:Int),.int .i64 x.th,.int .i64 x.wd,.int .u8 (x.mk:Int),tv,dv] 53);have cB:ah (w.alloc (.cells #[.int .u8 (x.kd:Int),.int .i64 x.th,.int .i64 x.wd,.int .u8 (x.mk:Int),tv,dv] 53)) w.heap.size 53 6 (apF x tv dv):=ah.new w [.int .u8 (x.kd:Int),.int .i64 x.th,.int .i64 x.wd,.int .u8 (x.mk:Int),tv,dv] 53;have c0:(w.alloc (.cells #[.int .u8 (x.kd:Int),.int .i64 x.th,.int .i64 x.wd,.int .u8 (x.mk:Int),tv,dv] 53)).cell? ⟨w.heap.size,0,none⟩=some (.int .u8 (x.kd:Int)):=cB.cell (i:=0) oM;have hB:=h.ext eB;have ow:=h.m.L.own (b:=w.heap.size) (aB _);have nH:hd.ownBlock≠some w.heap.size:=λe=>by have:=h.m.sH.lt e;omega
 have nD:dd.ownBlock≠some w.heap.size:=λe=>by have:=h.m.sD.lt e;omega
 obtain ⟨ta,tc,e1⟩:=dg r1;obtain ⟨da,dc,e2⟩:=dg r2;have o1:aj tv=true:=by rw [e1];rfl
 have o2:aj dv=true:=by rw [e2];rfl
 obtain ⟨kz,e8⟩:∃kz:Nat,x.kd%8=kz:=⟨_,rfl⟩;have c:=ok.2.1;have rv:=λz=>ajk (z:=z) hB k g cB ow nH c hx hR d K (λY' D' f' R' hd' w' a b=>hK Y' D' f' R' DD lv hd' dd w' a b)
 have hk:kz=0\/kz=1\/kz=2\/kz=3\/kz=4\/4<kz:=oM;rcases hk with rfl|rfl|rfl|rfl|rfl|hz
 all_goals
  refine aaQ _ _ _ _ ?_;unfold age
 ·refine zS2 c0 e8 ?_;exact rv _
 ·refine zS2 c0 e8 ?_;exact rv _
 ·refine zS2 c0 e8 ?_;exact rv _
 ·refine zS2 c0 e8 ?_;exact rv _
 ·refine zS2 c0 e8 ?_;exact ajm hB cB c hR K (λD' f' R' hd' w' a b=>hK Y D' f' R' DD lv hd' dd w' a b)
 ·have z0:¬(kz:Int)=0:=oM;have z1:¬(kz:Int)=1:=oM;have z2:¬(kz:Int)=2:=oM;have z3:¬(kz:Int)=3:=oM;refine zS6 c0 e8 z0 z1 z2 z3 ?_;exact ajl hB g cB ow nD ok (r1.ext eB) (r2.ext eB) (hl oM).1 (hl oM).2 j hx hR d hz K hK
def PlA (w0 w:bb) (Wb:Nat) (H:HL) (n j:Nat):Prop:=∃(Y:Lay) (D:DS) (f:Idx) (R:List Nat) (DD:List (Nat×Int)) (lv hd dd:bL),PlS w0 w Wb lv hd dd Y D H n f R DD/\D.exe<=100+1000*j/\R.length<=j/\DD.length<=100*j
def PlA.ext {j:Nat} (h:PlA w0 w Wb H n j) (e:Ext w w'):PlA w0 w' Wb H n j:=by
 obtain ⟨Y,D,f,R,DD,lv,hd,dd,a,b⟩:=h;exact ⟨Y,D,f,R,DD,lv,hd,dd,a.ext e,b⟩
end
end Go.Proofs.YtmpehclnnjgmcaaGreatDoor
