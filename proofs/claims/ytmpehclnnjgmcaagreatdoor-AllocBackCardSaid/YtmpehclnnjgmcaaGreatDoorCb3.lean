/-
  Part 3 of what the proofs of this seat share.
-/
import Derived.Test.YtmpehclnnjgmcaaGreatDoorCb2
import Derived.Laws.StructEq
import Derived.Test.YtmpehclnnjgmcaaGreatDoorCb1
set_option linter.unusedSimpArgs false
set_option linter.unusedVariables false
set_option maxHeartbeats 20000000
set_option maxRecDepth 100000
open Go.Proofs.Tryz (prog)
open Go.RowKit (intOf)
namespace Go.Proofs.YtmpehclnnjgmcaaGreatDoor
open Go Go.Sh
structure Ins where
 op:Nat
 off:Nat
 val:Nat
def inL:List Ins→List Value
 | []=> []
 |i::l=> .int .u8 (i.op:Int):: .int .u64 (i.off:Int):: .int .u64 (i.val:Int)::inL l
theorem inL_append (a b:List Ins):inL (a++b)=inL a++inL b:=by
 induction a with
 |nil=>rfl
 |cons x a ih=>simp [inL,ih]
theorem inL_length (a:List Ins):(inL a).length=a.length*3:=by
 induction a with
 |nil=>rfl
 |cons x a ih=>simp [inL,ih];omega
theorem inL_get:∀(l:List Ins) (i:Nat) (x:Ins),l[i]? =some x→(inL l)[i*3]? =some (.int .u8 (x.op:Int))∧(inL l)[i*3+1]? =some (.int .u64 (x.off:Int))∧(inL l)[i*3+2]? =some (.int .u64 (x.val:Int)):=by
 intro l
 induction l with
 |nil=>intro i x h;simp at h
 |cons y l ih=>
  intro i x h
  cases i with
  |zero=>simp at h;subst h;exact ⟨rfl,rfl,rfl⟩
  |succ i=>
   have:=ih i x (by simpa using h)
   simp only [inL,show (i+1)*3=i*3+1+1+1 by omega,List.getElem?_cons_succ]
   exact this
def okI (i:Ins):Prop:=1≤i.op∧i.op≤3∧i.off<18446744073709551616∧i.val<18446744073709551616
def DS.exec (D:DS) (id:Nat) (i:Ins):DS:=if i.op=1 then D.store id i.off i.val else if i.op=2 then D.flush id i.off else D.fence id
def DS.run (D:DS) (id:Nat) (p:List Ins):DS:=p.foldl (fun D i=>D.exec id i) D
section
variable {w w':World} {Y:Lay} {D D':DS}
theorem store_exe (D:DS) (id off v:Nat):(D.store id off v).exe≤D.exe+1:=by
 unfold DS.store;split
 ·exact DS.counted_exe D id _
 ·exact DS.counted_exe D id _
theorem flush_exe (D:DS) (id off:Nat):(D.flush id off).exe≤D.exe+1:=by
 unfold DS.flush;split
 ·exact DS.counted_exe D id _
 ·exact DS.counted_exe D id _
theorem fence_exe (D:DS) (id:Nat):(D.fence id).exe≤D.exe+1:=by
 unfold DS.fence;split
 ·exact DS.counted_exe D id _
 ·exact DS.counted_exe D id _
theorem store_n (D:DS) (id off v:Nat):(D.store id off v).n=D.n:=by
 unfold DS.store;split
 ·exact DS.counted_n D id _
 ·exact DS.counted_n D id _
theorem flush_n (D:DS) (id off:Nat):(D.flush id off).n=D.n:=by
 unfold DS.flush;split
 ·exact DS.counted_n D id _
 ·exact DS.counted_n D id _
theorem fence_n (D:DS) (id:Nat):(D.fence id).n=D.n:=by
 unfold DS.fence;split
 ·exact DS.counted_n D id _
 ·exact DS.counted_n D id _
theorem exec_exe (D:DS) (id:Nat) (i:Ins):(D.exec id i).exe≤D.exe+1:=by
 unfold DS.exec;split
 ·exact store_exe _ _ _ _
 ·split
  ·exact flush_exe _ _ _
  ·exact fence_exe _ _
theorem exec_n (D:DS) (id:Nat) (i:Ins):(D.exec id i).n=D.n:=by
 unfold DS.exec;split
 ·exact store_n _ _ _ _
 ·split
  ·exact flush_n _ _ _
  ·exact fence_n _ _
theorem Good.exec (g:Good D) (id:Nat) (hid:id<8) (i:Ins) (hi:okI i):Good (D.exec id i):=by
 unfold DS.exec;split
 ·exact g.store _ _ _ hi.2.2.2
 ·split
  ·exact g.flush _ _
  ·exact g.fence _ hid
theorem run_exe (id:Nat):∀(p:List Ins) (D:DS),(D.run id p).exe≤D.exe+p.length:=by
 intro p
 induction p with
 |nil=>intro D;exact Nat.le_refl _
 |cons i p ih=>intro D;have:=ih (D.exec id i);have h2:=exec_exe D id i;simp only [List.length_cons];show ((D.exec id i).run id p).exe≤_;omega
theorem run_n (id:Nat):∀(p:List Ins) (D:DS),(D.run id p).n=D.n:=by
 intro p
 induction p with
 |nil=>intro D;rfl
 |cons i p ih=>intro D;show ((D.exec id i).run id p).n=_;rw [ih,exec_n]
theorem Good.run (id:Nat) (hid:id<8):∀(p:List Ins) (D:DS),Good D→(∀i∈p,okI i)→Good (D.run id p):=by
 intro p
 induction p with
 |nil=>intro D g _;exact g
 |cons i p ih=>intro D g h;exact ih _ (g.exec id hid i (h i List.mem_cons_self)) (fun j hj=>h j (List.mem_cons_of_mem _ hj))
theorem run_append (D:DS) (id:Nat) (p q:List Ins):D.run id (p++q)=(D.run id p).run id q:=by simp [DS.run,List.foldl_append]
theorem k_execute (h:Dv w Y D) (g:Good D) (id:Nat) (hid:id<8) (i:Ins) (hi:okI i) (hx:D.exe<1099511627775) (K:K1) (hK:∀w' Y',Stp w Y w' Y' (D.exec id i)→K (.tuple #[]) w'):callS prog 146 #[.agg #[.int .u8 (i.op:Int),.int .u64 (i.off:Int),.int .u64 (i.val:Int)],.iface 31 (.pointer (some ⟨Y.tb id,0,none⟩))] w K:=by
 refine f146_call _ _ _ _ ?_
 unfold f146_t
 have h':=h.ext (Ext.alloc_self w (.cells #[.int .u8 (i.op:Int),.int .u64 (i.off:Int),.int .u64 (i.val:Int)] 220))
 have hp:∀w' Y' D',Stp (w.alloc (.cells #[.int .u8 (i.op:Int),.int .u64 (i.off:Int),.int .u64 (i.val:Int)] 220)) Y w' Y' D'→Stp w Y w' Y' D':=fun w' Y' D' hs=>Stp.pre (Ext.alloc_self w _) (fun b hb=>h.lt hb) hs
 unfold DS.exec at hK
 obtain ⟨o1,o2,o3,o4⟩:=hi
 (repeat' (first|(with_reducible first|refine brS_mk (fun _=> ?_) (fun _=> ?_)|refine And.intro ?_ ?_)|(simp (disch:=try exact dZ) only [↓RBp,↓RA,↓reduceIte,Nat.reduceAdd,Nat.reduceMul,Nat.reduceEqDiff,RB,RX,RA2])))
 ·rename_i e
  rw [if_pos e] at hK
  refine k_Store h' g id hid i.off i.val hx _ (fun w' Y' hs=> ?_)
  exact hK _ _ (hp _ _ _ hs)
 ·rename_i e e2
  rw [if_neg e,if_pos e2] at hK
  refine k_Flush h' g id hid i.off hx _ (fun w' hs=> ?_)
  exact hK _ _ (hp _ _ _ hs)
 ·rename_i e e2
  rw [if_neg e,if_neg e2] at hK
  refine k_Fence h' g id hid hx _ (fun w' Y' hs=> ?_)
  exact hK _ _ (hp _ _ _ hs)
theorem k_valid (p:List Ins) (v:Value) (h:SlO w 220 3 v p.length (inL p)) (hp:∀i∈p,okI i) (hl:p.length<1099511627776) (K:K1) (hK:∀w',Ext w w'→K (.bool true) w'):callS prog 145 #[v] w K:=by
 have hv:∃a cap,v= .slice a p.length cap:=by
  rcases h.2 with ⟨e,e2⟩|⟨b,o,cap,a,e,_⟩
  ·rw [e,e2];exact ⟨_,_,rfl⟩
  ·exact ⟨_,_,e⟩
 obtain ⟨a,cap,rfl⟩:=hv
 refine f145_call _ _ _ ?_
 unfold f145_t
 simp (disch:=try exact dZ) only [↓RBp,↓RA,↓reduceIte,Nat.reduceAdd,Nat.reduceMul,Nat.reduceEqDiff,RB,RX,RA2]
 apply f145_l1_rule (I:=fun x w'=>∃j:Nat,x= .int .i64 (j:Int)∧j≤p.length∧Ext w w') (μ:=fun x _=>p.length-(intOf x).toNat)
 ·exact ⟨0,rfl,by omega,Ext.refl _⟩
 ·intros;rename_i w1 hI E1 hE
  obtain ⟨j,rfl,hj,he⟩:=hI
  by_cases hjk:j<p.length
  ·obtain ⟨x,hx⟩:∃x,p[j]? =some x:=⟨_,List.getElem?_eq_getElem hjk⟩
   have hw:=inL_get _ _ _ hx
   obtain ⟨b,o,cap',ev,hc⟩:=h.isS oM
   injection ev with e1 e2 e3;subst e1;subst e3
   have hS:=h.ext he
   have c1:=hS.cell rfl hw.1
   have c2:=hS.cell rfl hw.2.1
   have c3:=hS.cell rfl hw.2.2
   rw [←Nat.add_assoc] at c2 c3
   obtain ⟨o1,o2,o3,o4⟩:=hp x (List.mem_of_getElem? hx)
   have lt:=hS.lt rfl
   unfold f145_l1_t
   simp (disch:=try exact dZ) only [↓RBp,↓RA,↓reduceIte,Nat.reduceAdd,Nat.reduceMul,Nat.reduceEqDiff,RB,RX,RA2,c1,c2,c3]
   apply hE
   ·exact ⟨j+1,by simp,by omega,he.alloc _⟩
   ·simp [intOf];omega
  ·have:j=p.length:=by omega
   subst this
   unfold f145_l1_t
   simp (disch:=try exact dZ) only [↓RBp,↓RA,↓reduceIte,Nat.reduceAdd,Nat.reduceMul,Nat.reduceEqDiff,RB,RX,RA2,f145_k1_eq,f145_k1_t]
   exact hK _ he
theorem k_Run (h:Dv w Y D) (g:Good D) (id:Nat) (hid:id<8) (p:List Ins) (v:Value) (hS:SlO w 220 3 v p.length (inL p)) (hvF:∀b,v.ownBlock=some b→¬Y.F b) (hp:∀i∈p,okI i) (hx:D.exe+p.length<1099511627775) (K:K1)
  (hK:∀w' Y',Stp w Y w' Y' (D.run id p)→K (.int .i64 ((D.run id p).err id)) w'):callS prog 99 #[v,.iface 31 (.pointer (some ⟨Y.tb id,0,none⟩))] w K:=by
 have hv:∃a cap,v= .slice a p.length cap:=by
  rcases hS.2 with ⟨e,e2⟩|⟨b,o,cap,a,e,_⟩
  ·rw [e,e2];exact ⟨_,_,rfl⟩
  ·exact ⟨_,_,e⟩
 obtain ⟨a,cap,rfl⟩:=hv
 refine f99_call _ _ _ _ ?_
 unfold f99_t
 simp (disch:=try exact dZ) only [↓RBp,↓RA,↓reduceIte,Nat.reduceAdd,Nat.reduceMul,Nat.reduceEqDiff,RB,RX,RA2]
 refine k_valid p _ hS hp oM _ (fun w1 he1=> ?_)
 simp (disch:=try exact dZ) only [↓RBp,↓RA,↓reduceIte,Nat.reduceAdd,Nat.reduceMul,Nat.reduceEqDiff,RB,RX,RA2]
 apply f99_l1_rule (I:=fun x w'=>∃(j:Nat) (Y':Lay),x= .int .i64 (j:Int)∧j≤p.length∧Stp w Y w' Y' (D.run id (p.take j))) (μ:=fun x _=>p.length-(intOf x).toNat)
 ·exact ⟨0,Y,rfl,by omega,Stp.ext h he1⟩
 ·intros;rename_i w2 hI E1 hE
  obtain ⟨j,Y',rfl,hj,hs⟩:=hI
  obtain ⟨hv',rfl⟩:∃hv',Y'={Y with hv:=hv'}:=⟨_,hs.y⟩
  by_cases hjk:j<p.length
  ·obtain ⟨x,hx'⟩:∃x,p[j]? =some x:=⟨_,List.getElem?_eq_getElem hjk⟩
   have hw:=inL_get _ _ _ hx'
   obtain ⟨b,o,cap',ev,hc⟩:=hS.isS oM
   injection ev with e1 e2 e3;subst e1;subst e3
   have hS2:=hS.frm hs.frm hvF
   have c1:=hS2.cell rfl hw.1
   have c2:=hS2.cell rfl hw.2.1
   have c3:=hS2.cell rfl hw.2.2
   rw [←Nat.add_assoc] at c2 c3
   have lt:=hS2.lt rfl
   have hok:=hp x (List.mem_of_getElem? hx')
   have hex:(D.run id (p.take j)).exe<1099511627775:=by have:=run_exe id (p.take j) D;rw [List.length_take] at this;omega
   have gj:=Good.run id hid (p.take j) D g (fun i hi=>hp i (List.mem_of_mem_take hi))
   unfold f99_l1_t
   simp (disch:=try exact dZ) only [↓RBp,↓RA,↓reduceIte,Nat.reduceAdd,Nat.reduceMul,Nat.reduceEqDiff,RB,RX,RA2,c1,c2,c3]
   refine k_execute (hs.dv.ext (Ext.alloc_self _ _)) gj id hid x hok hex _ (fun w3 Y3 h3=> ?_)
   simp (disch:=try exact dZ) only [↓RBp,↓RA,↓reduceIte,Nat.reduceAdd,Nat.reduceMul,Nat.reduceEqDiff,RB,RX,RA2]
   apply hE
   ·refine ⟨j+1,Y3,by simp,by omega,?_⟩
    rw [take_snoc' hx',run_append]
    exact hs.trans (Stp.pre (Ext.alloc_self _ _) (fun b hb=>hs.dv.lt hb) h3)
   ·simp [intOf];omega
  ·have:j=p.length:=by omega
   subst this
   rw [List.take_length] at hs
   unfold f99_l1_t
   simp (disch:=try exact dZ) only [↓RBp,↓RA,↓reduceIte,Nat.reduceAdd,Nat.reduceMul,Nat.reduceEqDiff,RB,RX,RA2,f99_k1_eq,f99_k1_t,c_Err hs.dv id hid]
   exact hK _ _ hs
end
end Go.Proofs.YtmpehclnnjgmcaaGreatDoor
namespace Go.Sh
open Go
theorem sliceT_un {P:Program} {t:TypeId} (h:sliceT P t=true):∃e,P.underlying t=some (.slice e):=by
 unfold sliceT at h
 split at h
 ·rename_i e hu;exact ⟨e,hu⟩
 ·cases h
theorem blt_cap {P:Program} {t:TypeId} (h:sliceT P t=true) (ty:TypeId) (cs:Array Bool) (a:Option Addr) (n c:Nat) (w:World) (k:K1):bltS P .cap #[t] ty cs #[.slice a n c] w k=k (.int .i64 c) w:=by
 obtain ⟨e,hu⟩:=sliceT_un h
 have:(Builtin.cap_ #[t] ty #[.slice a n c]).run P w= .ok (.int .i64 c) w:=by
  simp [Builtin.cap_,run_underlying hu,goInt]
 unfold bltS builtin
 rw [Sem.run_bind,this];rfl
theorem blt_clearS {P:Program} {t e ty:TypeId} {z bytes:Nat} {zv:Value} (E:ElT P t t e z bytes zv) (h1:allOne zv.cells.toList=true) {cs:Array Bool} {w:World} {b o n c:Nat} {a:Array Value} (hh:w.heap[b]? =some (.cells a e (0,0))) (hn:0<n) (hsz:o+n*z≤a.size) (k:K1):
  bltS P .clear #[t] ty cs #[.slice (some ⟨b,o,none⟩) n c] w k=k (.tuple #[]) (w.setRow b (a.toList.take o++(Builtin.zeroCells zv.cells n).toList++a.toList.drop (o+n*z)).toArray):=by
 obtain ⟨i,hi,rfl,hz,rfl⟩:=E.info
 have hl:(Builtin.zeroCells zv.cells n).toList.length=n*i.size:=by
  rw [Array.length_toList,size_zeroCells,E.zs]
 have ho:∀u∈(Builtin.zeroCells zv.cells n).toList,u.oneCell'=true:=by
  intro u hu
  rw [Builtin.zeroCells] at hu
  simp only [Array.toList_map,List.mem_map] at hu
  obtain ⟨j,hj,rfl⟩:=hu
  simp only [Array.toList_range,List.mem_range] at hj
  by_cases hzs:zv.cells.size=0
  ·rw [hzs] at hj;omega
  ·refine allOne_mem h1 _ ?_
   have:j%zv.cells.size<zv.cells.size:=Nat.mod_lt _ oM
   rw [getElem!_pos zv.cells _ this]
   exact Array.getElem_mem_toList this
 have hst:=run_storeCells_at P b o e (Builtin.zeroCells zv.cells n).toList 0 a w hh (by rw [hl];simpa using hsz) ho
 simp only [Nat.add_zero,hl] at hst
 cases n with
 |zero=>omega
 |succ n=>
  have:(Builtin.clear_ #[t] ty #[.slice (some ⟨b,o,none⟩) (n+1) c]).run P w= .ok (.tuple #[]) (w.setRow b (a.toList.take o++(Builtin.zeroCells zv.cells (n+1)).toList++a.toList.drop (o+(n+1)*i.size)).toArray):=by
   simp [Builtin.clear_,run_underlying E.un,zeroValue,typeInfo,hi,hz,hst]
  unfold bltS builtin
  rw [Sem.run_bind,this];rfl
theorem blt_append0 {P:Program} {t tx e ty:TypeId} {z bytes:Nat} {zv:Value} (E:ElT P t tx e z bytes zv) {cs:Array Bool} {w:World} (base:Option Addr) (n cap:Nat) (hc:n≤cap) (x:Option Addr) (c:Nat) (k:K1):
  bltS P .append #[t,tx] ty cs #[.slice base n cap,.slice x 0 c] w k=k (.slice base n cap) w:=by
 obtain ⟨i,hi,rfl,hz,rfl⟩:=E.info
 have:(Builtin.append_ #[t,tx] ty #[.slice base n cap,.slice x 0 c]).run P w= .ok (.slice base n cap) w:=by
  have hf:(Builtin.firstCells i.size 0 (.slice x 0 c)).run P w= .ok #[] w:=by
   cases x with
   |none=>exact run_firstCells_none _ _ _ _ _
   |some a=>exact run_firstCells_some (P:=P) w i.size 0 a 0 c [] (by simp) (by simp)
  cases base with
  |none=>simp [Builtin.append_,run_underlying E.un,run_underlying E.ux,sizeOf,typeInfo,hi,Builtin.lenOf,hc,hf]
  |some a=>simp [Builtin.append_,run_underlying E.un,run_underlying E.ux,sizeOf,typeInfo,hi,Builtin.lenOf,hc,hf,storeCells]
 unfold bltS builtin
 rw [Sem.run_bind,this];rfl
theorem blt_appendZ {P:Program} {t tx e ty:TypeId} {z bytes:Nat} {zv:Value} (E:ElT P t t e z bytes zv) (hx:intT P tx=some .i64) {cs:Array Bool} {w:World} {m:Nat} (hm:0<m) (hb:m*bytes≤140737488355328) (hm':m<9223372036854775807) {k:K1}
  (h:∀c w',Ext w w'→SlO w' e z (.slice (some ⟨w.heap.size,0,none⟩) 0 c) 0 []→m≤c→k (.slice (some ⟨w.heap.size,0,none⟩) m c) w'):
  bltS P .append #[t,tx] ty cs #[.slice none 0 0,.int .i64 (m:Int)] w k:=by
 obtain ⟨i,hi,rfl,hz,rfl⟩:=E.info
 have hux:=underlying_of_intT hx
 have hwr:IntKind.i64.wrap (m:Int)=m:=wrap_i64 oM oM
 have h0:¬((m:Int)<0):=by omega
 have h48:¬(281474976710656<(m:Int)*(i.bytes:Int)):=by
  have:((m*i.bytes:Nat):Int)=(m:Int)*(i.bytes:Int):=by simp
  omega
 have hg:¬(m≤0):=by omega
 have hne:¬m=0:=by omega
 have h63:¬(9223372036854775807<(m:Int)):=by omega
 have hfit:=growslice_fits (need:=m) (old:=0) oM (show m*i.bytes≤140737488355328 from hb)
 have hfit':¬(281474976710656<Builtin.nextslicecap m 0*i.bytes):=by omega
 have hai:(asIntOf (.int .i64 (m:Int))).run P w= .ok (.i64,(m:Int)) w:=rfl
 have hr:(Builtin.append_ #[t,tx] ty #[.slice none 0 0,.int .i64 (m:Int)]).run P w= .ok (.slice (some ⟨w.heap.size,0,none⟩) m (grownCap w m 0 e)) (w.drew.alloc (.cells ((if m*i.size=0 then #[] else Builtin.zeroCells zv.cells m)++Builtin.zeroCells zv.cells (grownCap w m 0 e-m)) e)):=by
  by_cases hz0:m*i.size=0
  ·simp [Builtin.append_,run_underlying E.un,run_underlying hux,sizeOf,typeInfo,zeroValue,hi,hz,hwr,h0,h48,asInt,hai,hg,h63,hfit',Question.forced,newRow,grownCap,Builtin.firstCells,hz0,hne]
  ·simp [Builtin.append_,run_underlying E.un,run_underlying hux,sizeOf,typeInfo,zeroValue,hi,hz,hwr,h0,h48,asInt,hai,hg,h63,hfit',Question.forced,newRow,grownCap,Builtin.firstCells,hz0,hne]
 unfold bltS builtin
 rw [Sem.run_bind,hr]
 have hge:=grownCap_ge w m 0 e
 have hcm:grownCap w m 0 e≤maxLen:=grownCap_le_maxLen w m 0 e (by simp only [maxLen];omega)
 refine h _ _ (((Ext.refl w).drew).alloc _) ⟨by simp,.inr ⟨w.heap.size,0,_,_,rfl,heap_alloc_eq w.drew _,Nat.zero_le _,hcm,?_,by simp⟩⟩ hge
 have hsz:∀q,(Builtin.zeroCells zv.cells q).size=q*i.size:=fun q=>by rw [size_zeroCells,E.zs]
 rw [Array.size_append,hsz]
 split
 ·rename_i e0
  have:i.size=0:=by rcases Nat.mul_eq_zero.1 e0 with h|h;omega;exact h
  simp [this]
 ·rw [hsz,←Nat.add_mul,Nat.zero_add];exact Nat.mul_le_mul_right _ oM
def kin:List Value→List Value→Bool
 | [],[]=>true
 | .int k _::l,.int k' _::l'=>decide (k=k')&&kin l l'
 |_,_=>false
theorem run_andNot {P:Program} (t:TypeId) (x y:Operand) (a b:Nat) (w:World) (ha:a<18446744073709551616) (hb:b<18446744073709551616):(binM .andNot t x y (.int .u64 (a:Int)) (.int .u64 (b:Int))).run P w= .ok (.int .u64 ((a&&&(18446744073709551615^^^b):Nat):Int)) w:=by
 rw [run_binM_int]
 simp only [binOp,Op.intBits]
 have e1:(BitVec.ofInt 64 (a:Int)).toNat=a:=by rw [ofInt_toNat oM oM];simp
 have e2:(BitVec.ofInt 64 (b:Int)).toNat=b:=by rw [ofInt_toNat oM oM];simp
 have e3:((BitVec.ofInt 64 (a:Int))&&& ~~~(BitVec.ofInt 64 (b:Int))).toNat=a&&&(18446744073709551615^^^b):=by
  rw [BitVec.toNat_and,BitVec.toNat_not,e1,e2]
  congr 1
  apply Nat.eq_of_testBit_eq
  intro i
  rw [show (18446744073709551615:Nat)=2^64-1 from rfl,Nat.testBit_xor,Nat.testBit_two_pow_sub_one]
  have:=Nat.testBit_two_pow_sub_succ (x:=b) (n:=64) hb i
  rw [show (2:Nat)^64-1-b=2^64-(b+1) by omega,this]
  by_cases hi:i<64
  ·simp [hi]
  ·have hbi:b.testBit i=false:=by
    have hpw:2^64≤2^i:=Nat.pow_le_pow_right (by decide) oM
    exact Nat.testBit_lt_two_pow (Nat.lt_of_lt_of_le hb hpw)
   simp [hi,hbi]
 show Result.ok (Value.int IntKind.u64 (IntKind.u64.wrap (((BitVec.ofInt 64 (a:Int))&&& ~~~(BitVec.ofInt 64 (b:Int))).toNat:Int))) w=_
 rw [e3,wrap_u64 oM ?_]
 have:a&&&(18446744073709551615^^^b)≤a:=Nat.and_le_left
 omega
end Go.Sh
namespace Go.Proofs.YtmpehclnnjgmcaaGreatDoor
open Go Go.Sh
section
variable {w w':World} {q o cap:Nat} {d:Array Nat}
theorem k_Sort (h:Ar w q o d) (hd:d.size<1099511627776) (K:K1) (hK:∀w',SW w w' q o (Go.Sort.sort ltN d)→(Go.Sort.sort ltN d).size=d.size→K (.tuple #[]) w'):
  callS prog 172 #[.slice (some ⟨q,o,none⟩) d.size cap] w K:=by
 refine f172_call _ _ _ ?_
 unfold f172_t
 have hb:Go.Sort.bitsLen d.size≤40:=(Go.Sort.bitsLen_le_iff d.size 40).2 oM
 simp (disch:=try exact dZ) only [↓RBp,↓RA,↓reduceIte,Nat.reduceAdd,Nat.reduceMul,Nat.reduceEqDiff,RB,RX,RA2,c_Len]
 refine k_pdq d.size w d 0 d.size (Go.Sort.bitsLen d.size) _ oM h hd oM oM oM (fun w' h1 h2=> ?_)
 exact hK w' h1 h2
def kpN (d:Array Nat):Nat→List Nat
 |0=> []
 |n+1=>kpN d n++(if n=0∨d[n]!≠d[n-1]! then [d[n]!] else [])
theorem kpN_le (d:Array Nat):∀n,(kpN d n).length≤n:=by
 intro n
 induction n with
 |zero=>simp [kpN]
 |succ n ih=>simp only [kpN,List.length_append];split<;>simp<;>omega
def Beg (D:Array Nat) (l:List Nat):Prop:=l.length≤D.size∧∀i,i<l.length→D[i]! =l[i]!
theorem Ar.beg {D:Array Nat} (h:Ar w q o D) {l:List Nat} (hb:Beg D l):Ar w q o l.toArray:=by
 obtain ⟨a,h1,h2,h3⟩:=h
 refine ⟨a,h1,by have:=hb.1;simp;omega,fun i hi=> ?_⟩
 simp only [List.size_toArray] at hi
 have e:=hb.2 i hi
 rw [h3 i (by have:=hb.1;omega),e]
 simp
theorem getBang_set (D:Array Nat) (i x j:Nat) (hi:i<D.size):(D.setIfInBounds i x)[j]! =if j=i then x else D[j]! :=by
 simp only [getElem!_def,Array.getElem?_setIfInBounds]
 by_cases e:i=j
 ·subst e;simp [hi]
 ·rw [if_neg e,if_neg (fun h=>e h.symm)]
theorem k_Compact (h:Ar w q o d) (hd:d.size<1099511627776) (hc:d.size≤cap) (h0:0<d.size) (K:K1) (hK:∀w',Ar w' q o (kpN d d.size).toArray→Frm (fun x=>x=q) w w'→K (.slice (some ⟨q,o,none⟩) (kpN d d.size).length cap) w'):
  callS prog 173 #[.slice (some ⟨q,o,none⟩) d.size cap] w K:=by
 refine f173_call _ _ _ ?_
 unfold f173_t
 have full:∀k,k≤d.size→(kpN d k).length=k→Beg d (kpN d k):=by
  intro k
  induction k with
  |zero=>intro _ _;exact ⟨by simp [kpN],by simp [kpN]⟩
  |succ k ih=>
   intro hk hl
   have h1:=kpN_le d k
   have hl2:(kpN d k).length=k:=by
    simp only [kpN,List.length_append] at hl
    split at hl<;>simp at hl<;>omega
   have hb:=ih oM hl2
   refine ⟨by rw [hl];exact hk,fun i hi=> ?_⟩
   rw [hl] at hi
   by_cases e:i=k
   ·subst e
    have hc2:i=0∨d[i]!≠d[i-1]! :=by
     by_cases hh:i=0∨d[i]!≠d[i-1]!
     ·exact hh
     ·simp only [kpN,if_neg hh,List.append_nil] at hl;omega
    simp only [kpN,if_pos hc2]
    rw [getElem!_def (kpN d i++ [d[i]!]),List.getElem?_append_right oM,hl2]
    simp
   ·have:=hb.2 i oM
    rw [this]
    simp only [kpN]
    rw [getElem!_def,getElem!_def,List.getElem?_append_left oM]
 by_cases h2:d.size<2
 ·have e1:d.size=1:=by omega
  simp (disch:=try exact dZ) only [↓RBp,↓RA,↓reduceIte,Nat.reduceAdd,Nat.reduceMul,Nat.reduceEqDiff,RB,RX,RA2]
  have hk1:kpN d d.size= [d[0]!]:=by rw [e1];simp [kpN]
  have hb:=full d.size oM (by rw [hk1];simp [e1])
  have:=hK w (h.beg hb) (Frm.refl _ _)
  rw [hk1] at this
  simp only [List.length_singleton] at this
  rw [←e1] at this
  exact this
 ·simp (disch:=try exact dZ) only [↓RBp,↓RA,↓reduceIte,Nat.reduceAdd,Nat.reduceMul,Nat.reduceEqDiff,RB,RX,RA2]
  apply f173_l1_rule (I:=fun x w'=>∃k:Nat,x= .int .i64 (k:Int)∧1≤k∧k≤d.size∧(kpN d k).length=k∧SW w w' q o d) (μ:=fun x _=>d.size-(intOf x).toNat)
  ·exact ⟨1,by simp,by omega,by omega,by simp [kpN],SW.refl h⟩
  ·intros;rename_i w1 hI E1 hE
   obtain ⟨k,rfl,hk1,hk2,hkl,sw⟩:=hI
   unfold f173_l1_t
   have ar:=sw.ar
   by_cases hk:k<d.size
   ·have c1:=ar.cell k hk
    have c2:=ar.cell (k-1) oM
    have e0:(k:Int)-1=((k-1:Nat):Int):=by omega
    by_cases he:d[k]! =d[k-1]!
    ·have hnc:¬cap=k:=by omega
     have e1:kpN d (k+1)=kpN d k:=by
      simp only [kpN]
      rw [if_neg (by rintro (h|h);omega;exact h he),List.append_nil]
     simp (disch:=try exact dZ) only [↓RBp,↓RA,↓reduceIte,Nat.reduceAdd,Nat.reduceMul,Nat.reduceEqDiff,RB,RX,RA2,e0,c1,c2,he,hnc]
     apply f173_l2_rule (I:=fun x y w'=>∃(k2:Nat) (D:Array Nat),y= .int .i64 (k2:Int)∧x= .int .i64 (((kpN d (k+k2)).length:Nat):Int)∧1≤k2∧k+k2≤d.size∧D.size=d.size∧SW w w' q o D∧Beg D (kpN d (k+k2))∧(∀j,k+k2-1≤j→D[j]! =d[j]!)∧(kpN d (k+k2)).length≤k+k2-1) (μ:=fun _ y _=>d.size-(intOf y).toNat)
     ·refine ⟨1,d,by simp,by rw [e1,hkl],by omega,by omega,rfl,sw.drew,?_,fun _ _=>rfl,by rw [e1,hkl];omega⟩
      rw [e1];exact full k oM hkl
     ·intros;rename_i w2 hI2 E2 hE2
      obtain ⟨k2,D,rfl,rfl,hk3,hk4,hsz,sw2,hbeg,hsame,hle⟩:=hI2
      unfold f173_l2_t
      have ar2:=sw2.ar
      by_cases hk5:k+k2<d.size
      ·have c3:=ar2.cell (k+k2) oM
       have c4:=ar2.cell (k+k2-1) oM
       have a3:o+k+k2=o+(k+k2):=by omega
       have a4:o+k+(k2-1)=o+(k+k2-1):=by omega
       have g0:(k2:Int)-1=((k2-1:Nat):Int):=by omega
       have g1:((d.size-k:Nat):Int)=(d.size:Int)-(k:Int):=by omega
       generalize hm:(kpN d (k+k2)).length=m at*
       by_cases he2:d[k+k2]! =d[k+k2-1]!
       ·have e2:kpN d (k+k2+1)=kpN d (k+k2):=by
         simp only [kpN]
         rw [if_neg (by rintro (h|h);omega;exact h he2),List.append_nil]
        have he3:D[k+k2]! =D[k+k2-1]! :=by rw [hsame _ oM,hsame _ oM,he2]
        rw [he3] at c3
        simp (disch:=try exact dZ) only [↓RBp,↓RA,↓reduceIte,Nat.reduceAdd,Nat.reduceMul,Nat.reduceEqDiff,RB,RX,RA2,g0,a3,a4,c3,c4,f173_k4_eq,f173_k4_t]
        apply hE2
        ·refine ⟨k2+1,D,by simp,by rw [←Nat.add_assoc,e2,hm],by omega,by omega,hsz,sw2.drew,by rw [←Nat.add_assoc,e2];exact hbeg,fun j hj=>hsame j oM,by rw [←Nat.add_assoc,e2];omega⟩
        ·simp [intOf];omega
       ·have e2:kpN d (k+k2+1)=kpN d (k+k2)++ [d[k+k2]!]:=by
         simp only [kpN]
         rw [if_pos (.inr he2)]
        have he3:¬D[k+k2]! =D[k+k2-1]! :=by rw [hsame _ oM,hsame _ oM];exact he2
        have c5:=ar2.cell m oM
        have he4:¬((D[k+k2]! :Nat):Int)=((D[k+k2-1]! :Nat):Int):=by omega
        simp (disch:=try exact dZ) only [↓RBp,↓RA,↓reduceIte,Nat.reduceAdd,Nat.reduceMul,Nat.reduceEqDiff,RB,RX,RA2,g0,a3,a4,c3,c4,c5,ar2.frz,he4,f173_k4_eq,f173_k4_t]
        apply hE2
        ·refine ⟨k2+1,D.setIfInBounds m D[k+k2]!,by simp,?_,by omega,by omega,by simp [hsz],(sw2.set1 m _ oM).drew,?_,?_,?_⟩
         ·rw [←Nat.add_assoc,e2];simp [hm]
         ·rw [←Nat.add_assoc,e2]
          refine ⟨by simp;omega,fun i hi=> ?_⟩
          rw [getBang_set _ _ _ _ oM]
          simp only [List.length_append,List.length_singleton,hm] at hi
          by_cases e:i=m
          ·subst e
           rw [if_pos rfl,hsame _ oM,getElem!_def (kpN d (k+k2)++ [d[k+k2]!]),List.getElem?_append_right oM,hm];simp
          ·rw [if_neg e,hbeg.2 i oM,getElem!_def,getElem!_def,List.getElem?_append_left oM]
         ·intro j hj
          rw [getBang_set _ _ _ _ oM,if_neg oM]
          exact hsame j oM
         ·rw [←Nat.add_assoc,e2];simp only [List.length_append,List.length_singleton,hm];omega
        ·simp [intOf];omega
      ·have ek:k+k2=d.size:=by omega
       have g1:((d.size-k:Nat):Int)=(k2:Int):=by omega
       rw [ek] at hbeg hle
       rw [ek]
       generalize hm:(kpN d d.size).length=m at*
       obtain ⟨a,hh,hs,hf⟩:=ar2
       have hnc2:¬cap=m:=by omega
       have cl:∀(c:Nat) K,bltS prog .clear #[58] 0 #[false] #[.slice (some ⟨q,o+m,none⟩) (d.size-m) c] w2 K=K (.tuple #[]) _:=fun c K=>blt_clearS el_58_58 rfl hh oM oM K
       simp (disch:=try exact dZ) only [↓RBp,↓RA,↓reduceIte,Nat.reduceAdd,Nat.reduceMul,Nat.reduceEqDiff,RB,RX,RA2,g1,hnc2,cl,f173_k3_eq,f173_k3_t]
       refine hK _ ?_ ?_
       ·refine ⟨_,setRow_heap_eq hh _,?_,fun i hi=> ?_⟩
        ·simp [Builtin.zeroCells];omega
        ·simp only [List.size_toArray,hm] at hi
         rw [List.getElem?_toArray,List.append_assoc,List.getElem?_append_left (by simp;omega),List.getElem?_take_of_lt oM,Array.getElem?_toList,hf i oM,hbeg.2 i oM]
         simp
       ·exact sw2.frm.trans (b:=w2) (G:=fun x=>x=q) ⟨rfl,rfl,rfl,by simp,fun x _ hx=>setRow_heap_ne _ hx⟩ (fun _ _ h=>h)
    ·have hne:¬((d[k]! :Nat):Int)=((d[k-1]! :Nat):Int):=by omega
     simp (disch:=try exact dZ) only [↓RBp,↓RA,↓reduceIte,Nat.reduceAdd,Nat.reduceMul,Nat.reduceEqDiff,RB,RX,RA2,e0,c1,c2,hne,f173_k2_eq,f173_k2_t]
     apply hE
     ·refine ⟨k+1,by simp,by omega,by omega,?_,sw.drew⟩
      simp only [kpN]
      rw [if_pos (.inr he)];simp [hkl]
     ·simp [intOf];omega
   ·have ek:k=d.size:=by omega
    subst ek
    simp (disch:=try exact dZ) only [↓RBp,↓RA,↓reduceIte,Nat.reduceAdd,Nat.reduceMul,Nat.reduceEqDiff,RB,RX,RA2,f173_k1_eq,f173_k1_t]
    have:=hK w1 (ar.beg (full _ (Nat.le_refl _) hkl)) sw.frm
    rw [hkl] at this
    exact this
end
end Go.Proofs.YtmpehclnnjgmcaaGreatDoor
namespace Go.Sh
open Go
variable {w w':World}
theorem Frm.cell {F:Nat→Prop} (h:Frm F w w') (b i:Nat) (hb:b<w.heap.size) (hn:¬F b):w'.cell? ⟨b,i,none⟩=w.cell? ⟨b,i,none⟩:=by
 have:=h.block b hb hn
 unfold World.cell?
 simp only [this]
theorem SlO.isS' {t:TypeId} {z n:Nat} {v:Value} {L:List Value} (h:SlO w t z v n L):∃a cap,v= .slice a n cap∧n≤cap:=by
 rcases h.2 with ⟨rfl,rfl⟩|⟨b,o,cap,a,rfl,_,h2,_⟩
 ·exact ⟨_,_,rfl,Nat.le_refl _⟩
 ·exact ⟨_,_,rfl,h2⟩
theorem SlO.lit' (w:World) (t:TypeId) (z n:Nat) (l:List Value) (hl:l.length=n*z) (hm:n≤maxLen) {b:Nat} (hb:b=w.heap.size):SlO (w.alloc (.cells l.toArray t)) t z (.slice (some ⟨b,0,none⟩) n n) n l:=by subst hb;exact SlO.lit w t z n l hl hm
end Go.Sh
namespace Go.Proofs.YtmpehclnnjgmcaaGreatDoor
open Go Go.Sh
def srtN (l:List Nat):List Nat:=(Go.Sort.sort ltN l.toArray).toList
def cmpN (l:List Nat):List Nat:=kpN l.toArray l.length
def lineS (x:Nat):Nat:=x-x%64
def wrI (x:Nat×Nat):Ins:=⟨1,x.1,x.2⟩
def flI (x:Nat):Ins:=⟨2,x,0⟩
def storesI (ws:List (Nat×Nat)):List Ins:=ws.map wrI++(cmpN (srtN (ws.map fun x=>lineS x.1))).map flI++ [⟨3,0,0⟩]
theorem cmpN_le (l:List Nat):(cmpN l).length≤l.length:=kpN_le _ _
theorem srtN_perm (l:List Nat):(srtN l).Perm l:=by
 have:=(Go.Sort.sort_sorts ltN ltN_swo l.toArray).1
 have h3:=this.2.2
 have h1:=this.1
 unfold srtN
 rw [Array.extract_eq_self_of_le (by rw [h1];exact Nat.le_refl _)] at h3
 rw [Array.extract_eq_self_of_le (Nat.le_refl _)] at h3
 simpa using h3
theorem srtN_length (l:List Nat):(srtN l).length=l.length:=(srtN_perm l).length_eq
theorem storesI_le (ws:List (Nat×Nat)):(storesI ws).length≤2*ws.length+1:=by
 have:=cmpN_le (srtN (ws.map fun x=>lineS x.1))
 rw [srtN_length] at this
 simp only [storesI,List.length_append,List.length_map,List.length_singleton] at this ⊢
 omega
def NewV (n:Nat) (v:Value):Prop:=∀b,v.ownBlock=some b→n≤b
abbrev Nob:Nat→Prop:=fun _=>False
section
variable {w w':World}
theorem app_new {t tx e ty:TypeId} {z bytes:Nat} {zv:Value} (E:ElT prog t tx e z bytes zv) {cs:Array Bool} {w0 w:World} {v:Value} {n:Nat} {L:List Value} (hv:SlO w e z v n L) (hf:Frm Nob w0 w) (hn:NewV w0.heap.size v)
  {xb xo m c:Nat} {news:List Value} (hl:news.length=m*z) (hx:∀j u,news[j]? =some u→w.cell? ⟨xb,xo+j,none⟩=some u) (h1:allOne news=true) (hm:0<m) (hb:(n+m)*bytes≤140737488355328) (hm':n+m<9223372036854775807) {k:K1}
  (h:∀v' w',SlO w' e z v' (n+m) (L++news)→Frm Nob w0 w'→NewV w0.heap.size v'→Frm (fun b=>v.ownBlock=some b) w w'→(∀b,v'.ownBlock=some b→v.ownBlock=some b∨w.heap.size≤b)→k v' w'):
  bltS prog .append #[t,tx] ty cs #[v,.slice (some ⟨xb,xo,none⟩) m c] w k:=by
 refine blt_append E hv hl hx h1 hm hb hm' (fun v' w' hs hfr hb2 _=> ?_)
 refine h v' w' hs (hf.trans hfr (fun x hx e=>by have:=hn x e;omega)) ?_ hfr hb2
 intro b hb3
 rcases hb2 b hb3 with e|e
 ·exact hn b e
 ·exact Nat.le_trans hf.size e
theorem Ar.of_heap {b o:Nat} {d:Array Nat} (h:Ar w b o d) (e:w'.heap[b]? =w.heap[b]?):Ar w' b o d:=by
 obtain ⟨a,h,h2⟩:=h;exact ⟨a,e.trans h,h2⟩
theorem Ar.of_sl {q o cap n:Nat} {l:List Nat} (h:SlO w 26 1 (.slice (some ⟨q,o,none⟩) n cap) n (l.map u64)):Ar w q o l.toArray:=by
 have hl:l.length=n:=by have:=h.1;simpa using this
 rcases h.2 with ⟨e,_⟩|⟨b,o',c,a,e,hh,h1,h2,h3,h4⟩
 ·cases e
 ·injection e with e1 e2 e3
  injection e1 with e1;injection e1 with e4 e5 e6
  subst e4;subst e5;subst e3
  refine ⟨a,hh,by simp;omega,fun i hi=> ?_⟩
  simp only [List.size_toArray] at hi
  have:=h4 i (u64 l[i]) (by simp [List.getElem?_eq_getElem hi])
  rw [this];simp [hi,u64]
theorem isOne_sl {t:TypeId} {z n:Nat} {v:Value} {L:List Value} (h:SlO w t z v n L):isOne v=true:=by
 rcases h.2 with ⟨rfl,_⟩|⟨_,_,_,_,rfl,_⟩<;>rfl
theorem k_Stores (ws:List (Nat×Nat)) (v:Value) (hS:SlO w 98 2 v ws.length (wrL ws)) (h0:0<ws.length) (hl:ws.length<1073741824) (hw:∀x∈ws,x.1<18446744073709551616) (K:K1)
  (hK:∀v' w',SlO w' 220 3 v' (storesI ws).length (inL (storesI ws))→Ext w w'→NewV w.heap.size v'→K v' w'):callS prog 123 #[v] w K:=by
 obtain ⟨sb,so,scap,rfl,hsc⟩:=hS.isS h0
 refine f123_call _ _ _ ?_
 unfold f123_t
 have hmk:∀K:K1,ev prog (Instr.makeSlice 58 (.int .i64 0) (.int .i64 (ws.length:Int))) w K=K (.slice (some ⟨w.heap.size,0,none⟩) 0 ws.length) (w.alloc (.cells (zrow (.int .u64 0) (ws.length*1)) 26)):=fun K=>by
  have:=ev_make el_58_58 0 (ws.length:Int) w K oM oM oM oM
  simpa using this
 simp (disch:=try exact dZ) only [↓RBp,↓RA,↓reduceIte,Nat.reduceAdd,Nat.reduceMul,Nat.reduceEqDiff,RB,RX,RA2,hmk]
 apply f123_l1_rule (I:=fun x y z w'=>∃(i:Nat),z= .int .i64 (i:Int)∧i≤ws.length∧SlO w' 220 3 x i (inL ((ws.take i).map wrI))∧SlO w' 26 1 y i (((ws.take i).map fun x=>lineS x.1).map u64)∧Frm Nob w w'∧NewV w.heap.size x∧NewV w.heap.size y∧(∀b,x.ownBlock=some b→y.ownBlock≠some b)) (μ:=fun _ _ z _=>ws.length-(intOf z).toNat)
 ·refine ⟨0,rfl,by omega,SlO.nil _ _ _,?_,Frm.of_ext (Ext.alloc_self _ _),?_,?_,?_⟩
  ·have:=zrow_sl w (.int .u64 0) ws.length 1 26 (by simp only [maxLen];omega)
   rw [Nat.mul_one] at this;exact this
  ·intro b hb;cases hb
  ·intro b hb;injection hb with hb;subst hb;exact Nat.le_refl _
  ·intro b hb;cases hb
 ·intros;rename_i w2 hI E1 hE
  obtain ⟨i,rfl,hi,sp,sl',hf,np,nl,hd⟩:=hI
  obtain ⟨pa,pc,rfl,hpc⟩:=sp.isS'
  obtain ⟨la,lc,rfl,hlc⟩:=sl'.isS'
  unfold f123_l1_t
  by_cases hik:i<ws.length
  ·obtain ⟨x,hx⟩:∃x,ws[i]? =some x:=⟨_,List.getElem?_eq_getElem hik⟩
   have hxw:=hw x (List.mem_of_getElem? hx)
   obtain ⟨xo,xv⟩:=x
   have hg:=wrL_get _ _ _ hx
   have hS2:=hS.frm hf (fun _ _ h=>h)
   have c1:=hS2.cell rfl hg.1
   have c2:=hS2.cell rfl hg.2
   rw [←Nat.add_assoc] at c2
   have lt:=hS2.lt rfl
   simp (disch:=try exact dZ) only [↓RBp,↓RA,↓reduceIte,Nat.reduceAdd,Nat.reduceMul,Nat.reduceEqDiff,RB,RX,RA2,c1,c2]
   have et:ws.take (i+1)=ws.take i++ [(xo,xv)]:=take_snoc' hx
   refine app_new el_120_120 (w0:=w) (sp.ext xZ) (hf.ext xZ) np (news:=inL [wrI (xo,xv)]) (by simp [inL]) ?_ rfl oM oM oM (fun vp' w3 hsp hf3 np' hfr hb3=> ?_)
   ·intro j u hj
    rw [Nat.zero_add,cell_new _ _ _ _ _ (by simp only [RZ])]
    simpa [inL,wrI] using hj
   obtain ⟨pa',pc',rfl,hpc'⟩:=hsp.isS'
   have ltp:∀b,(Value.slice pa i pc).ownBlock=some b→b<w2.heap.size:=fun b hb=>sp.lt hb
   have c3:w3.cell? ⟨w2.heap.size,0,none⟩=some (.int .u64 (xo:Int)):=by
    rw [hfr.cell _ _ (by simp only [RZ];omega) (fun e=>by have:=ltp _ e;omega),cell_old _ _ _ _ (by simp only [RZ];omega),cell_new _ _ _ _ _ rfl];rfl
   have lt3:w2.heap.size<w3.heap.size:=by have:=hfr.size;simp only [RZ] at this;omega
   have sl3:SlO w3 26 1 (.slice la i lc) i (((ws.take i).map fun x=>lineS x.1).map u64):=(sl'.ext xZ).frm hfr (fun b hb e=>hd b e hb)
   simp (disch:=try exact dZ) only [↓RBp,↓RA,↓reduceIte,Nat.reduceAdd,Nat.reduceMul,Nat.reduceEqDiff,RB,RX,RA2,c3,c_start]
   have hdl:∀b,(Value.slice pa' (i+1) pc').ownBlock=some b→(Value.slice la i lc).ownBlock≠some b:=by
    intro b hb e
    rcases hb3 b hb with h1|h1
    ·exact hd b h1 e
    ·have:=sl'.lt e;simp only [RZ] at h1;omega
   refine app_new el_58_58 (w0:=w) (sl3.ext xZ) (hf3.ext xZ) nl (news:= [u64 (lineS xo)]) (by simp) ?_ rfl oM oM oM (fun vl' w4 hsl hf4 nl' hfr4 hb4=> ?_)
   ·intro j u hj
    rw [Nat.zero_add,cell_new _ _ _ _ _ (by simp only [RZ])]
    simpa [u64,lineS] using hj
   obtain ⟨la',lc',rfl,hlc'⟩:=hsl.isS'
   simp (disch:=try exact dZ) only [↓RBp,↓RA,↓reduceIte,Nat.reduceAdd,Nat.reduceMul,Nat.reduceEqDiff,RB,RX,RA2]
   apply hE
   ·refine ⟨i+1,by simp,by omega,?_,?_,hf4,np',nl',?_⟩
    ·rw [et,List.map_append,inL_append]
     exact (hsp.ext xZ).frm hfr4 (fun b hb e=>hdl b hb e)
    ·rw [et];simpa using hsl
    ·intro b hb e
     rcases hb4 b e with h1|h1
     ·exact hdl b hb h1
     ·have:=hsp.lt hb;simp only [RZ] at h1;omega
   ·simp [intOf];omega
  ·have:i=ws.length:=by omega
   subst this
   rw [List.take_length] at sp sl'
   obtain ⟨q,o,cap,ev,hc⟩:=sl'.isS h0
   injection ev with e1 _ e3;subst e1;subst e3
   have ar:=Ar.of_sl sl'
   have hsz:(List.map (fun x:Nat×Nat=>lineS x.1) ws).toArray.size=ws.length:=by simp
   generalize hls:(List.map (fun x:Nat×Nat=>lineS x.1) ws)=ls at*
   have hqp:(Value.slice pa ws.length pc).ownBlock≠some q:=fun e=>hd q e rfl
   have hqn:=nl q rfl
   simp (disch:=try exact dZ) only [↓RBp,↓RA,↓reduceIte,Nat.reduceAdd,Nat.reduceMul,Nat.reduceEqDiff,RB,RX,RA2,f123_k1_eq,f123_k1_t]
   rw [←hsz]
   refine k_Sort ar oM _ (fun w3 sw3 hz3=> ?_)
   rw [←hz3]
   try simp (disch:=try exact dZ) only [↓RBp,↓RA,↓reduceIte,Nat.reduceAdd,Nat.reduceMul,Nat.reduceEqDiff,RB,RX,RA2]
   refine k_Compact sw3.ar oM oM oM _ (fun w4 ar4 fr4=> ?_)
   have hkp:kpN (Go.Sort.sort ltN ls.toArray) (Go.Sort.sort ltN ls.toArray).size=cmpN (srtN ls):=by
    unfold cmpN srtN;simp
   rw [hkp] at ar4 ⊢
   rw [hz3.trans hsz]
   have hcl:(cmpN (srtN ls)).length≤ws.length:=by
    have h1:=cmpN_le (srtN ls);rw [srtN_length] at h1;simp at hsz;omega
   have hst:storesI ws=ws.map wrI++(cmpN (srtN ls)).map flI++ [⟨3,0,0⟩]:=by unfold storesI;rw [hls]
   have fq:Frm (fun x=>x=q) w2 w4:=sw3.frm.trans fr4 (fun _ _ h=>h)
   have f4:Frm Nob w w4:=hf.trans fq (fun x hx e=>by omega)
   have sp4:SlO w4 220 3 (.slice pa ws.length pc) ws.length (inL (ws.map wrI)):=sp.frm fq (fun b hb e=>hqp (by rw [hb,e]))
   generalize hcs:cmpN (srtN ls)=cs at*
   simp (disch:=try exact dZ) only [↓RBp,↓RA,↓reduceIte,Nat.reduceAdd,Nat.reduceMul,Nat.reduceEqDiff,RB,RX,RA2]
   apply f123_l2_rule (I:=fun x z w'=>∃(j:Nat),z= .int .i64 (j:Int)∧j≤cs.length∧SlO w' 220 3 x (ws.length+j) (inL (ws.map wrI++(cs.take j).map flI))∧Frm Nob w w'∧NewV w.heap.size x∧x.ownBlock≠some q∧Ar w' q o cs.toArray) (μ:=fun _ z _=>cs.length-(intOf z).toNat)
   ·exact ⟨0,rfl,by omega,by simpa using sp4,f4,np,hqp,ar4⟩
   ·intros;rename_i w5 hI2 E2 hE2
    obtain ⟨j,rfl,hj,sp5,f5,np5,hq5,ar5⟩:=hI2
    obtain ⟨pa5,pc5,rfl,hpc5⟩:=sp5.isS'
    unfold f123_l2_t
    by_cases hjk:j<cs.length
    ·have c1:=ar5.cell j (by simpa using hjk)
     have c1':(cs.toArray)[j]! =cs[j]:=by simp [hjk]
     rw [c1'] at c1
     have ltq:=ar5.lt
     simp (disch:=try exact dZ) only [↓RBp,↓RA,↓reduceIte,Nat.reduceAdd,Nat.reduceMul,Nat.reduceEqDiff,RB,RX,RA2,c1]
     refine app_new el_120_120 (w0:=w) (sp5.ext xZ) (f5.ext xZ) np5 (news:=inL [flI cs[j]]) (by simp [inL]) ?_ rfl oM oM oM (fun vp' w6 hsp hf6 np' hfr hb6=> ?_)
     ·intro j u hj
      rw [Nat.zero_add,cell_new _ _ _ _ _ (by simp only [RZ])]
      simpa [inL,flI] using hj
     have et:cs.take (j+1)=cs.take j++ [cs[j]]:=take_snoc' (List.getElem?_eq_getElem hjk)
     simp (disch:=try exact dZ) only [↓RBp,↓RA,↓reduceIte,Nat.reduceAdd,Nat.reduceMul,Nat.reduceEqDiff,RB,RX,RA2]
     apply hE2
     ·refine ⟨j+1,by simp,by omega,?_,hf6,np',?_,?_⟩
      ·rw [et,List.map_append,←List.append_assoc,inL_append,←Nat.add_assoc];exact hsp
      ·intro e
       rcases hb6 q e with h1|h1
       ·exact hq5 h1
       ·simp only [RZ] at h1;omega
      ·exact (ar5.of_heap (heap_alloc_lt _ ltq)).frm hfr (fun e=>hq5 e)
     ·simp [intOf];omega
    ·have:j=cs.length:=by omega
     subst this
     rw [List.take_length] at sp5
     simp (disch:=try exact dZ) only [↓RBp,↓RA,↓reduceIte,Nat.reduceAdd,Nat.reduceMul,Nat.reduceEqDiff,RB,RX,RA2,f123_k2_eq,f123_k2_t]
     refine app_new el_120_120 (w0:=w) (sp5.ext xZ) (f5.ext xZ) np5 (news:=inL [⟨3,0,0⟩]) (by simp [inL]) ?_ rfl oM oM oM (fun vp' w6 hsp hf6 np' hfr hb6=> ?_)
     ·intro j u hj
      rw [Nat.zero_add,cell_new _ _ _ _ _ (by simp only [RZ])]
      simpa [inL] using hj
     rw [←inL_append,←hst] at hsp
     have hln:ws.length+cs.length+1=(storesI ws).length:=by rw [hst];simp [Nat.add_assoc]
     rw [hln] at hsp
     exact hK _ _ hsp (hf6.to_ext (fun _ _ h=>h)) np'
end
theorem run_hi_nil {P:Program} {t e:TypeId} {z bytes:Nat} {zv:Value} (E:ElT P t t e z bytes zv) (k:IntKind) (w:World):(Instr.sliceAt t (.slice none 0 0) none (some (.int k ((0:Nat):Int))) none).run P w= .ok (.slice none 0 0) w:=by
 obtain ⟨i,hi,rfl,hz,rfl⟩:=E.info
 have hb:(Instr.sliceBounds true 0 0 none (some (.int k ((0:Nat):Int))) none).run P w= .ok (0,0,0) w:=by
  have:=fun c=>run_bound (P:=P) k 0 0 c w (Nat.le_refl _)
  simp only [Int.ofNat_eq_natCast,Int.cast_ofNat_Int] at this
  simp [Instr.sliceBounds,this]
 simp only [Instr.sliceAt,Sem.run_bind,run_underlying_some E.un,Result.andThen_ok,Instr.slice,hb]
 simp only [sizeOf,typeInfo,Sem.run_bind,program,Sem.run,hi,Result.andThen_ok,Sem.run_pure,Option.map_none]
 simp
theorem run_hi0 {P:Program} {t e:TypeId} {z bytes:Nat} {zv:Value} (E:ElT P t t e z bytes zv) (b o len cap:Nat) (w:World) (k:K1):ev P (Instr.sliceAt t (.slice (some ⟨b,o,none⟩) len cap) none (some (.int .i64 ((0:Nat):Int))) none) w k=k (.slice (some ⟨b,o,none⟩) 0 cap) w:=ev_of_run (run_hi E b o len cap .i64 0 w oM) k
section
variable {w w':World}
theorem elPZ:ElT prog 120 120 220 3 24 (.agg #[.int .u8 0,.int .u64 0,.int .u64 0]):=el_120_120
theorem k_Grow (m:Nat) (hm:0<m) (hm2:m<1099511627776) (K:K1) (hK:∀c w',Ext w w'→SlO w' 220 3 (.slice (some ⟨w.heap.size,0,none⟩) 0 c) 0 []→m≤c→K (.slice (some ⟨w.heap.size,0,none⟩) 0 c) w'):
  callS prog 186 #[.slice none 0 0,.int .i64 (m:Int)] w K:=by
 refine f186_call _ _ _ _ ?_
 unfold f186_t
 have r1:= @blt_cap prog 120 (by kernel_rfl)
 have r2:∀(w:World) (k:K1),ev prog (Instr.sliceAt 120 (.slice none 0 0) none (some (.int .i64 ((0:Nat):Int))) none) w k=k (.slice none 0 0) w:=fun w k=>ev_of_run (run_hi_nil elPZ .i64 w) k
 have r3:=fun b o len cap w k=> @run_hi0 prog 120 _ _ _ _ elPZ b o len cap w k
 have z0:((0:Nat):Int)-((0:Nat):Int)=0:=rfl
 have z1:(m:Int)-0=(m:Int):=by omega
 simp (disch:=try exact dZ) only [↓RBp,↓RA,↓reduceIte,Nat.reduceAdd,Nat.reduceMul,Nat.reduceEqDiff,RB,RX,RA2,r1,r2,r3,z0,z1,f186_k1_eq,f186_k1_t,f186_k2_eq,f186_k2_t]
 refine blt_appendZ elPZ (by kernel_rfl) hm oM oM (fun c w' he hs hc=> ?_)
 simp (disch:=try exact dZ) only [↓RBp,↓RA,↓reduceIte,Nat.reduceAdd,Nat.reduceMul,Nat.reduceEqDiff,RB,RX,RA2,r1,r2,r3,z0,z1,f186_k2_eq,f186_k2_t]
 exact hK c w' he hs hc
theorem allOne_inL (l:List Ins):allOne (inL l)=true:=by
 induction l with
 |nil=>rfl
 |cons a l ih=>simp [inL,allOne,isOne,ih]
theorem k_Then (p q:List Ins) (v u:Value) (hp:SlO w 220 3 v p.length (inL p)) (hq:SlO w 220 3 u q.length (inL q)) (h1:0<p.length) (h2:0<q.length) (h3:p.length<1073741824) (h4:q.length<1073741824) (K:K1)
  (hK:∀v' w',SlO w' 220 3 v' (p++q).length (inL (p++q))→Ext w w'→NewV w.heap.size v'→K v' w'):callS prog 119 #[v,u] w K:=by
 obtain ⟨pb,po,pc,rfl,hpc⟩:=hp.isS h1
 obtain ⟨qb,qo,qc,rfl,hqc⟩:=hq.isS h2
 refine f119_call _ _ _ _ ?_
 unfold f119_t
 simp (disch:=try exact dZ) only [↓RBp,↓RA,↓reduceIte,Nat.reduceAdd,Nat.reduceMul,Nat.reduceEqDiff,RB,RX,RA2]
 refine f164_call _ _ _ ?_
 unfold f164_t
 simp (disch:=try exact dZ) only [↓RBp,↓RA,↓reduceIte,Nat.reduceAdd,Nat.reduceMul,Nat.reduceEqDiff,RB,RX,RA2]
 have d1:∀(w':World),Ext (w.alloc (.cells #[.slice (some ⟨pb,po,none⟩) p.length pc,.slice (some ⟨qb,qo,none⟩) q.length qc] 120)) w'→w'.cell? ⟨w.heap.size,0,none⟩=some (.slice (some ⟨pb,po,none⟩) p.length pc)∧w'.cell? ⟨w.heap.size,1,none⟩=some (.slice (some ⟨qb,qo,none⟩) q.length qc):=by
  intro w' he
  constructor
  ·rw [he.cell _ _ (by simp only [RZ];omega),cell_new _ _ _ _ _ rfl];rfl
  ·rw [he.cell _ _ (by simp only [RZ];omega),cell_new _ _ _ _ _ rfl];rfl
 generalize hw1:w.alloc (.cells #[.slice (some ⟨pb,po,none⟩) p.length pc,.slice (some ⟨qb,qo,none⟩) q.length qc] 120)=w1 at*
 have e1:Ext w w1:=by rw [←hw1];exact Ext.alloc_self _ _
 apply f164_l1_rule (I:=fun x z w'=>w'=w1∧∃i:Nat,z= .int .i64 (i:Int)∧i≤2∧x= .int .i64 (((if i=0 then 0 else if i=1 then p.length else p.length+q.length:Nat)):Int)) (μ:=fun _ z _=>2-(intOf z).toNat)
 ·exact ⟨rfl,0,rfl,by omega,rfl⟩
 ·intros;rename_i w2 hI E1 hE
  obtain ⟨rfl,i,rfl,hi,hx⟩:=hI
  obtain ⟨c0,c1⟩:=d1 w2 (Ext.refl _)
  have hcs:i=0∨i=1∨i=2:=by omega
  rcases hcs with rfl|rfl|rfl
  ·simp only [↓reduceIte] at hx
   subst hx
   unfold f164_l1_t
   simp (disch:=try exact dZ) only [↓RBp,↓RA,↓reduceIte,Nat.reduceAdd,Nat.reduceMul,Nat.reduceEqDiff,RB,RX,RA2,c0,f164_k3_eq,f164_k3_t]
   apply hE
   ·exact ⟨rfl,1,rfl,by omega,by simp⟩
   ·simp [intOf]
  ·simp only [↓reduceIte,Nat.one_ne_zero] at hx
   subst hx
   unfold f164_l1_t
   simp (disch:=try exact dZ) only [↓RBp,↓RA,↓reduceIte,Nat.reduceAdd,Nat.reduceMul,Nat.reduceEqDiff,RB,RX,RA2,c1,f164_k3_eq,f164_k3_t]
   apply hE
   ·exact ⟨rfl,2,rfl,by omega,by simp⟩
   ·simp [intOf]
  ·simp only [↓reduceIte,Nat.reduceEqDiff] at hx
   subst hx
   unfold f164_l1_t
   have gg:∀K':K1,(∀c w',Ext w2 w'→SlO w' 220 3 (.slice (some ⟨w2.heap.size,0,none⟩) 0 c) 0 []→p.length+q.length≤c→K' (.slice (some ⟨w2.heap.size,0,none⟩) 0 c) w')→callS prog 186 #[.slice none 0 0,.int .i64 ((p.length+q.length:Nat):Int)] w2 K':=fun K' h=>k_Grow (p.length+q.length) oM oM K' h
   simp (disch:=try exact dZ) only [↓RBp,↓RA,↓reduceIte,Nat.reduceAdd,Nat.reduceMul,Nat.reduceEqDiff,RB,RX,RA2,f164_k1_eq,f164_k1_t]
   refine gg _ (fun c w3 he3 hs3 hc3=> ?_)
   simp (disch:=try exact dZ) only [↓RBp,↓RA,↓reduceIte,Nat.reduceAdd,Nat.reduceMul,Nat.reduceEqDiff,RB,RX,RA2]
   have ap:∀i,i≤2→(if i=0 then [] else if i=1 then p else p++q:List Ins).length=if i=0 then 0 else if i=1 then p.length else p.length+q.length:=by
    intro i hi
    split
    ·rfl
    ·split<;>simp
   apply f164_l2_rule (I:=fun x z w'=>∃i:Nat,z= .int .i64 (i:Int)∧i≤2∧SlO w' 220 3 x (if i=0 then [] else if i=1 then p else p++q:List Ins).length (inL (if i=0 then [] else if i=1 then p else p++q))∧Frm Nob w2 w'∧NewV w2.heap.size x) (μ:=fun _ z _=>2-(intOf z).toNat)
   ·refine ⟨0,rfl,by omega,hs3,Frm.of_ext he3,?_⟩
    intro b hb;injection hb with hb;subst hb;exact Nat.le_refl _
   ·intros;rename_i w4 hI4 E4 hE4
    obtain ⟨i,rfl,hi,s4,f4,n4⟩:=hI4
    unfold f164_l2_t
    have e4:Ext w2 w4:=f4.to_ext (fun _ _ h=>h)
    obtain ⟨c0,c1⟩:=d1 w4 e4
    obtain ⟨xa,xc,rfl,hxc⟩:=s4.isS'
    have hcs:i=0∨i=1∨i=2:=by omega
    rcases hcs with rfl|rfl|rfl
    ·simp only [↓reduceIte,List.length_nil] at s4 ⊢
     simp (disch:=try exact dZ) only [↓RBp,↓RA,↓reduceIte,Nat.reduceAdd,Nat.reduceMul,Nat.reduceEqDiff,RB,RX,RA2,c0]
     refine app_new elPZ (w0:=w2) s4 f4 n4 (news:=inL p) (inL_length p) (fun j u hj=>(hp.ext (e1.trans e4)).cell rfl hj) (allOne_inL p) h1 oM oM (fun v' w5 s5 f5 n5 _ _=> ?_)
     simp (disch:=try exact dZ) only [↓RBp,↓RA,↓reduceIte,Nat.reduceAdd,Nat.reduceMul,Nat.reduceEqDiff,RB,RX,RA2]
     apply hE4
     ·exact ⟨1,rfl,by omega,by simpa [inL] using s5,f5,n5⟩
     ·simp [intOf]
    ·simp only [↓reduceIte,Nat.one_ne_zero] at s4 ⊢
     simp (disch:=try exact dZ) only [↓RBp,↓RA,↓reduceIte,Nat.reduceAdd,Nat.reduceMul,Nat.reduceEqDiff,RB,RX,RA2,c1]
     refine app_new elPZ (w0:=w2) s4 f4 n4 (news:=inL q) (inL_length q) (fun j u hj=>(hq.ext (e1.trans e4)).cell rfl hj) (allOne_inL q) h2 oM oM (fun v' w5 s5 f5 n5 _ _=> ?_)
     simp (disch:=try exact dZ) only [↓RBp,↓RA,↓reduceIte,Nat.reduceAdd,Nat.reduceMul,Nat.reduceEqDiff,RB,RX,RA2]
     apply hE4
     ·refine ⟨2,rfl,by omega,?_,f5,n5⟩
      simp only [Nat.reduceEqDiff,if_false,List.length_append,inL_append]
      exact s5
     ·simp [intOf]
    ·simp only [↓reduceIte,Nat.reduceEqDiff] at s4 ⊢
     simp (disch:=try exact dZ) only [↓RBp,↓RA,↓reduceIte,Nat.reduceAdd,Nat.reduceMul,Nat.reduceEqDiff,RB,RX,RA2,f164_k2_eq,f164_k2_t]
     refine hK _ _ s4 (e1.trans e4) (fun b hb=>Nat.le_trans e1.size (n4 b hb))
end
theorem Glob.ext {w w':World} (h:Glob w) (e:Ext w w'):Glob w':=⟨fun i hi=>e.cell_some (h.pay i hi),fun i hi=>e.cell_some (h.nib i hi)⟩
def Row (w:World) (b o:Nat) (l:List Value):Prop:=∀i v,l[i]? =some v→w.cell? ⟨b,o+i,none⟩=some v
theorem Row.ext {w w':World} {b o:Nat} {l:List Value} (h:Row w b o l) (e:Ext w w'):Row w' b o l:=fun i v hv=>e.cell_some (h i v hv)
def u8s (l:List Nat):List Value:=l.map fun (n:Nat)=>Value.int .u8 (n:Int)
theorem u8s_get {l:List Nat} {k:Nat} (h:k<l.length):(u8s l)[k]? =some (.int .u8 ((l.getD k 0:Nat):Int)):=by
 simp [u8s,List.getElem?_map,List.getElem?_eq_getElem h,List.getD_eq_getElem?_getD]
theorem take_snoc {l:List Nat} {k:Nat} (h:k<l.length):l.take (k+1)=l.take k++ [l.getD k 0]:=by
 rw [List.take_succ_eq_append_getElem h];simp [List.getD_eq_getElem?_getD,List.getElem?_eq_getElem h]
theorem c_possible (line:Int) (w:World) (K:K1):callS prog 158 #[.int .i64 line] w K=K (.bool (decide (0≤line)&&decide (line≤4064))) w:=by
 refine callS_det (by kernel_rfl) (f158_call _ _ _ ?_) K
 unfold f158_t
 by_cases h0:0≤line
 ·by_cases h1:line≤4064
  ·simp (disch:=first|omega|simp only [RO]|(simp only [RZ]<;>omega)|fail) only [↓RA,↓reduceIte,Nat.reduceAdd,Nat.reduceMul,Nat.reduceEqDiff,RB]
  ·simp (disch:=first|omega|simp only [RO]|(simp only [RZ]<;>omega)|fail) only [↓RA,↓reduceIte,Nat.reduceAdd,Nat.reduceMul,Nat.reduceEqDiff,RB]
 ·simp (disch:=first|omega|simp only [RO]|(simp only [RZ]<;>omega)|fail) only [↓RA,↓reduceIte,Nat.reduceAdd,Nat.reduceMul,Nat.reduceEqDiff,RB]
theorem c_line (line:Int) (w:World) (K:K1) (h0:0≤line) (h1:line<144115188075855872):callS prog 162 #[.int .i64 line] w K=K (.int .u64 ((line.toNat*64:Nat):Int)) w:=by
 refine callS_det (by kernel_rfl) (f162_call _ _ _ ?_) K
 unfold f162_t
 simp (disch:=first|omega|simp only [RO]|(simp only [RZ]<;>omega)|fail) only [↓RA,↓reduceIte,Nat.reduceAdd,Nat.reduceMul,Nat.reduceEqDiff,RB]
def offS (c i:Int):Int:=8+i*(wordsS c+1)
theorem perS_in {c:Int} (h0:0≤c) (h1:c<5):perS c=248/(wordsS c+1)∧4≤perS c∧perS c≤62:=by
 have hw:=wordsS_in h0 h1
 have e:perS c=248/(wordsS c+1):=by unfold perS;rw [if_neg (by omega)]
 refine ⟨e,?_⟩
 have:c=0∨c=1∨c=2∨c=3∨c=4:=by omega
 rcases this with rfl|rfl|rfl|rfl|rfl<;>(rw [e,hw.1];decide)
theorem offS_bd {c i:Int} (h0:0≤c) (h1:c<5) (hi:0≤i) (hi':i<perS c):8≤offS c i∧offS c i+wordsS c<256:=by
 have hp:=perS_in h0 h1
 have hw:=wordsS_in h0 h1
 unfold offS
 have:c=0∨c=1∨c=2∨c=3∨c=4:=by omega
 rcases this with rfl|rfl|rfl|rfl|rfl<;>(rw [hp.1,hw.1] at hi';rw [hw.1];simp [payN] at hi' ⊢;omega)
theorem c_Offset (c i:Int) (w:World) (K:K1) (hG:Glob w) (h0:0≤c) (h1:c<5) (hi:0≤i) (hi':i<perS c):callS prog 161 #[.int .i64 c,.int .i64 i] w K=K (.tuple #[.int .i64 (offS c i),.int .i64 0]) w:=by
 refine callS_det (by kernel_rfl) (f161_call _ _ _ _ ?_) K
 unfold f161_t
 have hp:=perS_in h0 h1
 have hw:=wordsS_in h0 h1
 have hb:=offS_bd h0 h1 hi hi'
 have hm:0≤i*(wordsS c+1)∧i*(wordsS c+1)≤256:=by unfold offS at hb;omega
 unfold offS
 simp (disch:=first|omega|simp only [RO]|(simp only [RZ]<;>omega)|fail) only [↓RA,↓reduceIte,Nat.reduceAdd,Nat.reduceMul,Nat.reduceEqDiff,RB,c_PerChunk c w _ hG,hG.pay,←hw.1]
theorem c_step (r b:Nat) (w:World) (K:K1) (hG:Glob w) (hr:r<4294967296) (hb:b<256):callS prog 174 #[.int .u32 r,.int .u8 b] w K=K (.int .u32 ((stepN r b:Nat):Int)) w:=by
 refine callS_det (by kernel_rfl) (f174_call _ _ _ _ ?_) K
 unfold f174_t
 have h1:r^^^b<4294967296:=Nat.xor_lt_two_pow (n:=32) hr (by omega)
 have hm:∀x:Nat,x&&&15=x%16:=fun x=>Nat.and_two_pow_sub_one_eq_mod x 4
 have h2:nb (r^^^b)<4294967296:=nb_lt _ h1
 have e2:(r^^^b)/2^4^^^nibN ((r^^^b)%16)=nb (r^^^b):=rfl
 have e3:nb (r^^^b)/2^4^^^nibN (nb (r^^^b)%16)=stepN r b:=rfl
 have n1:=nibN_lt ((r^^^b)%16)
 have n2:=nibN_lt (nb (r^^^b)%16)
 simp (disch:=first|omega|simp only [RO]|(simp only [RZ]<;>omega)|fail) only [↓RA,↓reduceIte,Nat.reduceAdd,Nat.reduceMul,Nat.reduceEqDiff,RB,hm,hG.nib,e2,e3]
theorem foldl_lt:∀(l:List Nat) (r:Nat),r<4294967296→(∀x∈l,x<256)→l.foldl stepN r<4294967296:=by
 intro l
 induction l with
 |nil=>intro r h _;exact h
 |cons x l ih=>intro r h hl;exact ih _ (stepN_lt r x h (hl x List.mem_cons_self)) (fun y hy=>hl y (List.mem_cons_of_mem _ hy))
theorem c_Update (l:List Nat) (b o cap:Nat) (w:World) (K:K1) (hG:Glob w) (hl:∀x∈l,x<256) (hn:l.length<1000) (hr:Row w b o (u8s l)):callS prog 216 #[.int .u32 ((0:Nat):Int),.slice (some ⟨b,o,none⟩) l.length cap] w K=K (.int .u32 ((sumL l:Nat):Int)) w:=by
 refine callS_det (by kernel_rfl) (f216_call _ _ _ _ ?_) K
 unfold f216_t
 simp (disch:=first|omega|simp only [RO]|(simp only [RZ]<;>omega)|fail) only [↓RA,↓reduceIte,Nat.reduceAdd,Nat.reduceMul,Nat.reduceEqDiff,RB]
 apply f216_l1_rule (I:=fun x5 x12 w'=>∃k:Nat,k≤l.length∧w'=w∧x12= .int .i64 (k:Int)∧x5= .int .u32 (((l.take k).foldl stepN (4294967295^^^0):Nat):Int)) (μ:=fun _ x12 _=>l.length-(intOf x12).toNat)
 ·exact ⟨0,by omega,rfl,rfl,rfl⟩
 ·rintro x5 x12 w' ⟨k,hk,rfl,rfl,rfl⟩ E1 hE
  unfold f216_l1_t
  have hf:(l.take k).foldl stepN (4294967295^^^0)<4294967296:=foldl_lt _ _ (by decide) (fun x hx=>hl x (List.mem_of_mem_take hx))
  by_cases h:k<l.length
  ·have hc:=hr k _ (u8s_get h)
   have hx:l.getD k 0<256:=by
    have:l.getD k 0=l[k]:=by simp [List.getD_eq_getElem?_getD,List.getElem?_eq_getElem h]
    rw [this];exact hl _ (List.getElem_mem h)
   have ht:=take_snoc h
   simp (disch:=first|omega|simp only [RO]|(simp only [RZ]<;>omega)|fail) only [↓RA,↓reduceIte,Nat.reduceAdd,Nat.reduceMul,Nat.reduceEqDiff,RB,hc,c_step _ _ _ _ hG hf hx]
   refine hE _ _ _ ⟨k+1,by omega,rfl,by simp,?_⟩ ?_
   ·rw [ht,List.foldl_append];rfl
   ·simp [intOf];omega
  ·have hk':k=l.length:=by omega
   subst hk'
   simp (disch:=first|omega|simp only [RO]|(simp only [RZ]<;>omega)|fail) only [↓RA,↓reduceIte,Nat.reduceAdd,Nat.reduceMul,Nat.reduceEqDiff,RB,f216_k1_eq]
   unfold f216_k1_t
   rw [List.take_length] at hf ⊢
   simp (disch:=first|omega|simp only [RO]|(simp only [RZ]<;>omega)|fail) only [↓RA,↓reduceIte,Nat.reduceAdd,Nat.reduceMul,Nat.reduceEqDiff,RB,sumL]
theorem Glob.alloc {w:World} (h:Glob w) (o:Obj):Glob (w.alloc o):=h.ext (Ext.alloc_self w o)
theorem Glob.drew {w:World} (h:Glob w):Glob w.drew:=h.ext (Ext.refl w).drew
theorem row_new (w:World) (l:List Value) (t:TypeId):Row (w.alloc (.cells l.toArray t)) w.heap.size 0 l:=by
 intro i v hv
 rw [Nat.zero_add,cell_new _ _ _ _ _ rfl]
 simpa using hv
theorem c_Sum (l:List Nat) (b o cap:Nat) (w:World) (K:K1) (hG:Glob w) (hl:∀x∈l,x<256) (hn:l.length<1000) (hr:Row w b o (u8s l)):callS prog 200 #[.slice (some ⟨b,o,none⟩) l.length cap] w K=K (.int .u32 ((sumL l:Nat):Int)) w:=by
 refine callS_det (by kernel_rfl) (f200_call _ _ _ ?_) K
 unfold f200_t
 simp (disch:=first|omega|simp only [RO]|(simp only [RZ]<;>omega)|fail) only [↓RA,↓reduceIte,Nat.reduceAdd,Nat.reduceMul,Nat.reduceEqDiff,RB,c_Update l b o cap w _ hG hl hn hr]
def bytes4 (x:Nat):List Nat:= [x%256,x/256%256,x/65536%256,x/16777216%256]
theorem or_add {a b k:Nat} (hb:b<2^k):(2^k*a)|||b=2^k*a+b:=(Nat.two_pow_add_eq_or_of_lt hb a).symm
theorem sealN_lt (x:Nat) (h:x<4294967296):sealN x<18446744073709551616:=by have:=sumN_lt x h;unfold sealN;omega
def sealO (x:Nat):Obj:= .cells (u8s (bytes4 x)).toArray 5
theorem c_seal (x:Nat) (w:World) (K:K1) (hG:Glob w) (hx:x<4294967296):callS prog 185 #[.int .u32 x] w K=K (.int .u64 ((sealN x:Nat):Int)) (w.alloc (sealO x)):=by
 refine callS_det (by kernel_rfl) (f185_call _ _ _ ?_) K
 unfold f185_t
 have hs:=sumN_lt x hx
 have e0:x%256<256:=by omega
 have hrow:=row_new w (u8s (bytes4 x)) 5
 have hc:=fun K=>c_Sum (bytes4 x) w.heap.size 0 4 (w.alloc (sealO x)) K (hG.alloc _) (by simp [bytes4];omega) (by simp [bytes4]) hrow
 have e1:sumL (bytes4 x)=sumN x:=sumL_bytes x hx
 have e2:(sumN x*2^32%18446744073709551616|||x)=sealN x:=by
  have:sumN x*2^32%18446744073709551616=2^32*sumN x:=by omega
  rw [this,or_add (by omega)];unfold sealN;omega
 rw [e1] at hc
 have eo:w.alloc (.cells #[.int .u8 ((x%256:Nat):Int),.int .u8 ((x/2^8%256:Nat):Int),.int .u8 ((x/2^16%256:Nat):Int),.int .u8 ((x/2^24%256:Nat):Int)] 5)=w.alloc (sealO x):=rfl
 have el:(bytes4 x).length=4:=rfl
 rw [el] at hc
 simp (disch:=first|omega|simp only [RO]|(simp only [RZ]<;>omega)|fail) only [↓RA,↓reduceIte,Nat.reduceAdd,Nat.reduceMul,Nat.reduceEqDiff,RB,eo,hc,e2]
theorem or16 {g k:Nat} (hg:g<65536) (hk:k<65536):g|||(k*2^16%4294967296)=g+k*65536:=by
 have:k*2^16%4294967296=2^16*k:=by omega
 rw [this,Nat.or_comm,or_add (by omega)];omega
theorem or24 {x s:Nat} (hx:x<16777216) (hs:s<256):x|||(s*2^24%4294967296)=x+s*16777216:=by
 have:s*2^24%4294967296=2^24*s:=by omega
 rw [this,Nat.or_comm,or_add (by omega)];omega
theorem shl16_eq {c:Nat} (h:c<65536):c*2^16%4294967296=c*65536:=by omega
theorem shl20_eq {c:Nat} (h:c<4096):c*2^20%4294967296=c*1048576:=by omega
theorem hd1 {o:Nat} (ho:o<16):3305111552|||o*1048576=1048576*(3152+o):=by
 have:=or_add (a:=197) (b:=o*1048576) (k:=24) (by omega)
 simp only [Nat.reducePow,Nat.reduceMul] at this
 omega
theorem hd2 {o c:Nat} (hc:c<16):1048576*(3152+o)|||c*65536=65536*(50432+o*16+c):=by
 have:=or_add (a:=3152+o) (b:=c*65536) (k:=20) (by omega)
 simp only [Nat.reducePow] at this
 omega
theorem hd3 {x g:Nat} (hg:g<65536):65536*x|||g=65536*x+g:=by
 have:=or_add (a:=x) (b:=g) (k:=16) (by omega)
 simp only [Nat.reducePow] at this
 exact this
theorem hd4 {c o:Nat} (hc:c<16) (ho:o<16):c*65536|||o*1048576<4294967296:=Nat.or_lt_two_pow (n:=32) (by omega) (by omega)
theorem hd_or {g c o:Nat} (hg:g<65536) (hc:c<16) (ho:o<16):(g|||3305111552)|||(c*65536|||o*1048576)=g+c*65536+o*1048576+3305111552:=by
 rw [Nat.or_assoc,Nat.or_comm (c*65536),←Nat.or_assoc 3305111552,hd1 ho,hd2 hc,Nat.or_comm g,hd3 hg]
 omega
theorem hd0 {g:Nat} (hg:g<65536):g|||3305111552=g+3305111552:=by
 have:=or_add (a:=197) (b:=g) (k:=24) (by omega)
 simp only [Nat.reducePow,Nat.reduceMul] at this
 rw [Nat.or_comm,this];omega
theorem hd_or' {g c o:Nat} (hg:g<65536) (hc:c<16) (ho:o<16):(g+3305111552)|||(c*65536|||o*1048576)=g+c*65536+o*1048576+3305111552:=by rw [←hd0 hg];exact hd_or hg hc ho
def blkX (g k s:Nat):Nat:=g+k*65536+s*16777216
def hdX (c o:Int) (g:Nat):Nat:=if 0≤c then g+(c+1).toNat*65536+(o+1).toNat*1048576+3305111552 else g+3305111552
def blkO (g k s:Nat):Obj:= .cells #[.int .u16 (g:Int),.int .u8 (k:Int),.int .u8 (s:Int)] 200
def hdO (c o:Int) (g:Nat):Obj:= .cells #[.int .i64 c,.int .i64 o,.int .u16 (g:Int)] 132
theorem c_bword (g k s:Nat) (w:World) (K:K1) (hG:Glob w) (hg:g<65536) (hk:k<256) (hs:s<256):callS prog 160 #[.agg #[.int .u16 (g:Int),.int .u8 (k:Int),.int .u8 (s:Int)]] w K=K (.int .u64 ((sealN (blkX g k s):Nat):Int)) ((w.alloc (blkO g k s)).alloc (sealO (blkX g k s))):=by
 refine callS_det (by kernel_rfl) (f160_call _ _ _ ?_) K
 unfold f160_t
 simp (disch:=first|omega|simp only [RO]|(simp only [RZ]<;>omega)|fail) only [↓RA,↓reduceIte,Nat.reduceAdd,Nat.reduceMul,Nat.reduceEqDiff,RB,RW,or16 hg (show k<65536 by omega),or24 (show g+k*65536<16777216 by omega) hs,fun o x K=>c_seal x (w.alloc o) K (hG.alloc o),blkO,blkX]
theorem c_hword (c o:Int) (g:Nat) (w:World) (K:K1) (hG:Glob w) (hg:g<65536) (hc: -1≤c) (hc':c<5) (ho: -1≤o) (ho':o<8):callS prog 163 #[.agg #[.int .i64 c,.int .i64 o,.int .u16 (g:Int)]] w K=K (.int .u64 ((sealN (hdX c o g):Nat):Int)) ((w.alloc (hdO c o g)).alloc (sealO (hdX c o g))):=by
 refine callS_det (by kernel_rfl) (f163_call _ _ _ ?_) K
 unfold f163_t
 by_cases h:0≤c
 ·have hm3:=hd4 (show (c+1).toNat<16 by omega) (show (o+1).toNat<16 by omega)
  have e:hdX c o g=g+(c+1).toNat*65536+(o+1).toNat*1048576+3305111552:=by unfold hdX;rw [if_pos h]
  simp (disch:=first|omega|simp only [RO]|(simp only [RZ]<;>omega)|fail) only [↓RA,↓reduceIte,Nat.reduceAdd,Nat.reduceMul,Nat.reduceEqDiff,RB,RW,hd0 hg,shl16_eq (show (c+1).toNat<65536 by omega),shl20_eq (show (o+1).toNat<4096 by omega),hd_or' hg (show (c+1).toNat<16 by omega) (show (o+1).toNat<16 by omega),fun o x K=>c_seal x (w.alloc o) K (hG.alloc o),hdO,e,f163_k1_eq,f163_k1_t]
 ·have e:hdX c o g=g+3305111552:=by unfold hdX;rw [if_neg h]
  simp (disch:=first|omega|simp only [RO]|(simp only [RZ]<;>omega)|fail) only [↓RA,↓reduceIte,Nat.reduceAdd,Nat.reduceMul,Nat.reduceEqDiff,RB,RW,hd0 hg,fun o x K=>c_seal x (w.alloc o) K (hG.alloc o),hdO,e,f163_k1_eq,f163_k1_t]
def blkV (g k s:Nat):Value:= .agg #[.int .u16 (g:Int),.int .u8 (k:Int),.int .u8 (s:Int)]
def isS (x:Nat):Bool:=decide (sealN (x%4294967296)=x)
def gX (x:Nat):Nat:=x%65536
def kX (x:Nat):Nat:=x/65536%256
def sX (x:Nat):Nat:=x/16777216%256
theorem k_sealed (x:Nat) (w:World) (K:K1) (hG:Glob w) (hx:x<18446744073709551616) (h:∀w',Ext w w'→K (.tuple #[if isS x then blkV (gX x) (kX x) (sX x) else blkV 0 0 0,.bool (isS x)]) w'):callS prog 176 #[.int .u64 x] w K:=by
 refine f176_call _ _ _ ?_
 unfold f176_t
 by_cases hs:sealN (x%4294967296)=x
 ·have e:isS x=true:=decide_eq_true hs
  rw [e] at h
  have e1:x%4294967296%65536=gX x:=by unfold gX;omega
  have e2:x%4294967296/2^16%256=kX x:=by unfold kX;omega
  have e3:x%4294967296/2^24%256=sX x:=by unfold sX;omega
  simp (disch:=first|omega|simp only [RO]|(simp only [RZ]<;>omega)|fail) only [↓RA,↓reduceIte,Nat.reduceAdd,Nat.reduceMul,Nat.reduceEqDiff,RB,RW,RS,fun o x K=>c_seal x (w.alloc o) K (hG.alloc o),hs,e1,e2,e3]
  exact h _ (by repeat (first|(with_reducible first|refine eB ?_ _|assumption|exact eR _|refine eA ?_ _|refine eD ?_|refine eT ?_ (by assumption))|exact eR _))
 ·have e:isS x=false:=decide_eq_false hs
  rw [e] at h
  simp (disch:=first|omega|simp only [RO]|(simp only [RZ]<;>omega)|fail) only [↓RA,↓reduceIte,Nat.reduceAdd,Nat.reduceMul,Nat.reduceEqDiff,RB,RW,RS,fun o x K=>c_seal x (w.alloc o) K (hG.alloc o),hs]
  exact h _ (by repeat (first|(with_reducible first|refine eB ?_ _|assumption|exact eR _|refine eA ?_ _|refine eD ?_|refine eT ?_ (by assumption))|exact eR _))
def hdV (c o:Int) (g:Nat):Value:= .agg #[.int .i64 c,.int .i64 o,.int .u16 (g:Int)]
def fmtB (c o:Int):Bool:=decide (0≤c)&&decide (c<5)&&decide (0≤o)&&decide (o<8)
theorem perS_out {c:Int} (h:¬(0≤c∧c<5)):perS c=0:=by unfold perS;rw [if_pos (wordsS_out h)]
theorem c_formatted (c o:Int) (g:Nat) (w:World) (K:K1) (hG:Glob w):callS prog 159 #[.agg #[.int .i64 c,.int .i64 o,.int .u16 (g:Int)]] w K=K (.bool (fmtB c o)) (w.alloc (hdO c o g)):=by
 refine callS_det (by kernel_rfl) (f159_call _ _ _ ?_) K
 unfold f159_t fmtB
 by_cases h:0≤c∧c<5
 ·have hp:=perS_in h.1 h.2
  by_cases h1:0≤o
  ·by_cases h2:o<8
   ·simp (disch:=first|omega|simp only [RO]|(simp only [RZ]<;>omega)|fail) only [↓RA,↓reduceIte,Nat.reduceAdd,Nat.reduceMul,Nat.reduceEqDiff,RB,RW,RS,fun q x K=>c_PerChunk x (w.alloc q) K (hG.alloc q),hdO]
   ·simp (disch:=first|omega|simp only [RO]|(simp only [RZ]<;>omega)|fail) only [↓RA,↓reduceIte,Nat.reduceAdd,Nat.reduceMul,Nat.reduceEqDiff,RB,RW,RS,fun q x K=>c_PerChunk x (w.alloc q) K (hG.alloc q),hdO]
  ·simp (disch:=first|omega|simp only [RO]|(simp only [RZ]<;>omega)|fail) only [↓RA,↓reduceIte,Nat.reduceAdd,Nat.reduceMul,Nat.reduceEqDiff,RB,RW,RS,fun q x K=>c_PerChunk x (w.alloc q) K (hG.alloc q),hdO]
 ·have hp:=perS_out h
  have e:(decide (0≤c)&&decide (c<5))=false:=by simp only [Bool.and_eq_false_iff,decide_eq_false_iff_not];omega
  simp (disch:=first|omega|simp only [RO]|(simp only [RZ]<;>omega)|fail) only [↓RA,↓reduceIte,Nat.reduceAdd,Nat.reduceMul,Nat.reduceEqDiff,RB,RW,RS,fun q x K=>c_PerChunk x (w.alloc q) K (hG.alloc q),hdO,hp,e]
def hC (x:Nat):Int:=((x/65536%16:Nat):Int)-1
def hO (x:Nat):Int:=((x/1048576%16:Nat):Int)-1
def hdOk (x:Nat):Bool:=isS x&&decide (sX x=197)&& !decide (gX x=0)&&((decide (hC x<0)&&decide (hO x<0))||fmtB (hC x) (hO x))
theorem and15 (x:Nat):x&&&15=x%16:=Nat.and_two_pow_sub_one_eq_mod x 4
theorem k_header (x:Nat) (w:World) (K:K1) (hG:Glob w) (hx:x<18446744073709551616) (h:∀w',Ext w w'→K (.tuple #[if hdOk x then hdV (hC x) (hO x) (gX x) else hdV 0 0 0,.bool (hdOk x)]) w'):callS prog 175 #[.int .u64 x] w K:=by
 refine f175_call _ _ _ ?_
 unfold f175_t
 by_cases hs:sealN (x%4294967296)=x
 ·have e0:isS x=true:=decide_eq_true hs
  have e3:x%4294967296/2^24=sX x:=by unfold sX;omega
  have e1:x%4294967296%65536=gX x:=by unfold gX;omega
  by_cases hm:sX x=197
  ·by_cases hg:gX x=0
   ·have e:hdOk x=false:=by simp [hdOk,hg]
    rw [e] at h
    simp (disch:=first|omega|simp only [RO]|(simp only [RZ]<;>omega)|fail) only [↓RA,↓reduceIte,Nat.reduceAdd,Nat.reduceMul,Nat.reduceEqDiff,RB,RW,RS,fun o x K=>c_seal x (w.alloc o) K (hG.alloc o),hs,e3,e1,hm,hg]
    exact h _ (by repeat (first|(with_reducible first|refine eB ?_ _|assumption|exact eR _|refine eA ?_ _|refine eD ?_|refine eT ?_ (by assumption))|exact eR _))
   ·have c1:((x%4294967296/2^16%16:Nat):Int)-1=hC x:=by unfold hC;omega
    have c2:((x%4294967296/2^20%16:Nat):Int)-1=hO x:=by unfold hO;omega
    have b1: -1≤hC x∧hC x≤14:=by unfold hC;omega
    have b2: -1≤hO x∧hO x≤14:=by unfold hO;omega
    have e:hdOk x=((decide (hC x<0)&&decide (hO x<0))||fmtB (hC x) (hO x)):=by simp [hdOk,e0,hm,hg]
    rw [e] at h
    clear e
    by_cases n1:hC x<0
    ·by_cases n2:hO x<0
     ·have e:((decide (hC x<0)&&decide (hO x<0))||fmtB (hC x) (hO x))=true:=by simp [n1,n2]
      rw [e] at h
      simp (disch:=first|omega|simp only [RO]|(simp only [RZ]<;>omega)|fail) only [↓RA,↓reduceIte,Nat.reduceAdd,Nat.reduceMul,Nat.reduceEqDiff,RB,RW,RS,fun o x K=>c_seal x (w.alloc o) K (hG.alloc o),hs,e3,e1,hm,hg,and15,c1,c2]
      exact h _ (by repeat (first|(with_reducible first|refine eB ?_ _|assumption|exact eR _|refine eA ?_ _|refine eD ?_|refine eT ?_ (by assumption))|exact eR _))
     ·have e:((decide (hC x<0)&&decide (hO x<0))||fmtB (hC x) (hO x))=false:=by simp [fmtB,n2];omega
      have ef:fmtB (hC x) (hO x)=false:=by simp [fmtB];omega
      rw [e] at h
      simp (disch:=first|omega|simp only [RO]|(simp only [RZ]<;>omega)|fail) only [↓RA,↓reduceIte,Nat.reduceAdd,Nat.reduceMul,Nat.reduceEqDiff,RB,RW,RS,fun o x K=>c_seal x (w.alloc o) K (hG.alloc o),fun a b c d e g K=>c_formatted d e g (((w.alloc a).alloc b).alloc c) K (((hG.alloc a).alloc b).alloc c),hs,e3,e1,hm,hg,and15,c1,c2,ef]
      exact h _ (by repeat (first|(with_reducible first|refine eB ?_ _|assumption|exact eR _|refine eA ?_ _|refine eD ?_|refine eT ?_ (by assumption))|exact eR _))
    ·have e:((decide (hC x<0)&&decide (hO x<0))||fmtB (hC x) (hO x))=fmtB (hC x) (hO x):=by simp [n1]
     rw [e] at h
     cases ef:fmtB (hC x) (hO x) with
     |true=>
      rw [ef] at h
      simp (disch:=first|omega|simp only [RO]|(simp only [RZ]<;>omega)|fail) only [↓RA,↓reduceIte,Nat.reduceAdd,Nat.reduceMul,Nat.reduceEqDiff,RB,RW,RS,fun o x K=>c_seal x (w.alloc o) K (hG.alloc o),fun a b c d e g K=>c_formatted d e g (((w.alloc a).alloc b).alloc c) K (((hG.alloc a).alloc b).alloc c),hs,e3,e1,hm,hg,and15,c1,c2,ef]
      exact h _ (by repeat (first|(with_reducible first|refine eB ?_ _|assumption|exact eR _|refine eA ?_ _|refine eD ?_|refine eT ?_ (by assumption))|exact eR _))
     |false=>
      rw [ef] at h
      simp (disch:=first|omega|simp only [RO]|(simp only [RZ]<;>omega)|fail) only [↓RA,↓reduceIte,Nat.reduceAdd,Nat.reduceMul,Nat.reduceEqDiff,RB,RW,RS,fun o x K=>c_seal x (w.alloc o) K (hG.alloc o),fun a b c d e g K=>c_formatted d e g (((w.alloc a).alloc b).alloc c) K (((hG.alloc a).alloc b).alloc c),hs,e3,e1,hm,hg,and15,c1,c2,ef]
      exact h _ (by repeat (first|(with_reducible first|refine eB ?_ _|assumption|exact eR _|refine eA ?_ _|refine eD ?_|refine eT ?_ (by assumption))|exact eR _))
  ·have e:hdOk x=false:=by simp [hdOk,hm]
   rw [e] at h
   simp (disch:=first|omega|simp only [RO]|(simp only [RZ]<;>omega)|fail) only [↓RA,↓reduceIte,Nat.reduceAdd,Nat.reduceMul,Nat.reduceEqDiff,RB,RW,RS,fun o x K=>c_seal x (w.alloc o) K (hG.alloc o),hs,e3,hm]
   exact h _ (by repeat (first|(with_reducible first|refine eB ?_ _|assumption|exact eR _|refine eA ?_ _|refine eD ?_|refine eT ?_ (by assumption))|exact eR _))
 ·have e0:isS x=false:=decide_eq_false hs
  have e:hdOk x=false:=by simp [hdOk,e0]
  rw [e] at h
  simp (disch:=first|omega|simp only [RO]|(simp only [RZ]<;>omega)|fail) only [↓RA,↓reduceIte,Nat.reduceAdd,Nat.reduceMul,Nat.reduceEqDiff,RB,RW,RS,fun o x K=>c_seal x (w.alloc o) K (hG.alloc o),hs]
  exact h _ (by repeat (first|(with_reducible first|refine eB ?_ _|assumption|exact eR _|refine eA ?_ _|refine eD ?_|refine eT ?_ (by assumption))|exact eR _))
def goodB (g k s:Nat):Bool:=if s=176 then decide (g≠0)&&decide (k=0) else if s=177 then decide (g≠0)&&decide (k≠0)&&decide (k≤127) else if s=178 then decide (g=65535)&&decide (k=0) else false
theorem c_good (g k s:Nat) (w:World) (K:K1):callS prog 168 #[.agg #[.int .u16 (g:Int),.int .u8 (k:Int),.int .u8 (s:Int)]] w K=K (.bool (goodB g k s)) (w.alloc (blkO g k s)):=by
 refine callS_det (by kernel_rfl) (f168_call _ _ _ ?_) K
 unfold f168_t goodB
 by_cases h1:s=176
 ·by_cases h2:g=0
  ·simp (disch:=first|omega|simp only [RO]|(simp only [RZ]<;>omega)|fail) only [↓RA,↓reduceIte,Nat.reduceAdd,Nat.reduceMul,Nat.reduceEqDiff,RB,RW,RS,blkO,h1,h2]
  ·by_cases h3:k=0
   ·simp (disch:=first|omega|simp only [RO]|(simp only [RZ]<;>omega)|fail) only [↓RA,↓reduceIte,Nat.reduceAdd,Nat.reduceMul,Nat.reduceEqDiff,RB,RW,RS,blkO,h1,h2,h3]
   ·simp (disch:=first|omega|simp only [RO]|(simp only [RZ]<;>omega)|fail) only [↓RA,↓reduceIte,Nat.reduceAdd,Nat.reduceMul,Nat.reduceEqDiff,RB,RW,RS,blkO,h1,h2,h3]
 ·by_cases h2:s=177
  ·by_cases h3:g=0
   ·simp (disch:=first|omega|simp only [RO]|(simp only [RZ]<;>omega)|fail) only [↓RA,↓reduceIte,Nat.reduceAdd,Nat.reduceMul,Nat.reduceEqDiff,RB,RW,RS,blkO,h1,h2,h3]
   ·by_cases h4:k=0
    ·simp (disch:=first|omega|simp only [RO]|(simp only [RZ]<;>omega)|fail) only [↓RA,↓reduceIte,Nat.reduceAdd,Nat.reduceMul,Nat.reduceEqDiff,RB,RW,RS,blkO,h1,h2,h3,h4]
    ·by_cases h5:k≤127
     ·simp (disch:=first|omega|simp only [RO]|(simp only [RZ]<;>omega)|fail) only [↓RA,↓reduceIte,Nat.reduceAdd,Nat.reduceMul,Nat.reduceEqDiff,RB,RW,RS,blkO,h1,h2,h3,h4,h5]
     ·simp (disch:=first|omega|simp only [RO]|(simp only [RZ]<;>omega)|fail) only [↓RA,↓reduceIte,Nat.reduceAdd,Nat.reduceMul,Nat.reduceEqDiff,RB,RW,RS,blkO,h1,h2,h3,h4,h5]
  ·by_cases h3:s=178
   ·by_cases h4:g=65535
    ·by_cases h5:k=0
     ·simp (disch:=first|omega|simp only [RO]|(simp only [RZ]<;>omega)|fail) only [↓RA,↓reduceIte,Nat.reduceAdd,Nat.reduceMul,Nat.reduceEqDiff,RB,RW,RS,blkO,h1,h2,h3,h4,h5]
     ·simp (disch:=first|omega|simp only [RO]|(simp only [RZ]<;>omega)|fail) only [↓RA,↓reduceIte,Nat.reduceAdd,Nat.reduceMul,Nat.reduceEqDiff,RB,RW,RS,blkO,h1,h2,h3,h4,h5]
    ·simp (disch:=first|omega|simp only [RO]|(simp only [RZ]<;>omega)|fail) only [↓RA,↓reduceIte,Nat.reduceAdd,Nat.reduceMul,Nat.reduceEqDiff,RB,RW,RS,blkO,h1,h2,h3,h4]
   ·simp (disch:=first|omega|simp only [RO]|(simp only [RZ]<;>omega)|fail) only [↓RA,↓reduceIte,Nat.reduceAdd,Nat.reduceMul,Nat.reduceEqDiff,RB,RW,RS,blkO,h1,h2,h3]
theorem c_NextGen (g:Nat) (w:World) (K:K1) (hg:g<65536):callS prog 199 #[.int .u16 (g:Int)] w K=K (.tuple #[.int .u16 ((if g=65535 then 0 else g+1:Nat):Int),.bool (!decide (g=65535))]) w:=by
 refine callS_det (by kernel_rfl) (f199_call _ _ _ ?_) K
 unfold f199_t
 by_cases h:g=65535
 ·simp (disch:=first|omega|simp only [RO]|(simp only [RZ]<;>omega)|fail) only [↓RA,↓reduceIte,Nat.reduceAdd,Nat.reduceMul,Nat.reduceEqDiff,RB,RW,RS,h]
 ·simp (disch:=first|omega|simp only [RO]|(simp only [RZ]<;>omega)|fail) only [↓RA,↓reduceIte,Nat.reduceAdd,Nat.reduceMul,Nat.reduceEqDiff,RB,RW,RS,h]
def freG (g:Nat):Nat:=if g=65535 then 65535 else g+1
def freS (g:Nat):Nat:=if g=65535 then 178 else 176
theorem c_freed (g k s:Nat) (w:World) (K:K1) (hg:g<65536):callS prog 181 #[.agg #[.int .u16 (g:Int),.int .u8 (k:Int),.int .u8 (s:Int)]] w K=K (.agg #[.int .u16 ((freG g:Nat):Int),.int .u8 ((0:Nat):Int),.int .u8 ((freS g:Nat):Int)]) ((w.alloc (blkO g k s)).alloc (blkO (freG g) 0 (freS g))):=by
 refine callS_det (by kernel_rfl) (f181_call _ _ _ ?_) K
 unfold f181_t
 by_cases h:g=65535
 ·simp (disch:=first|omega|simp only [RO]|(simp only [RZ]<;>omega)|fail) only [↓RA,↓reduceIte,Nat.reduceAdd,Nat.reduceMul,Nat.reduceEqDiff,RB,RW,RS,h,c_NextGen,freG,freS,blkO]
 ·simp (disch:=first|omega|simp only [RO]|(simp only [RZ]<;>omega)|fail) only [↓RA,↓reduceIte,Nat.reduceAdd,Nat.reduceMul,Nat.reduceEqDiff,RB,RW,RS,h,c_NextGen,freG,freS,blkO]
def ptrOk (off g k:Nat):Bool:=decide (off≠0)&&decide (off%8=0)&&decide (g≠0)&&decide (k≠0)&&decide (k≤127)
def ptrN (off g k:Nat):Nat:=off/8+g*4294967296+k*281474976710656
theorem ptr_or {a g k:Nat} (ha:a<4294967296) (hg:g<65536) (hk:k<65536):(a|||g*2^32)|||k*2^48=a+g*4294967296+k*281474976710656:=by
 have h1:=or_add (a:=g) (b:=a) (k:=32) (by omega)
 rw [Nat.mul_comm g,Nat.mul_comm k,Nat.or_comm a,h1]
 have h2:=or_add (a:=k) (b:=2^32*g+a) (k:=48) (by omega)
 rw [Nat.or_comm,h2];omega
theorem ptr_s1 {g:Nat} (hg:g<65536):g*2^32%18446744073709551616=g*2^32:=Nat.mod_eq_of_lt (by omega)
theorem ptr_s2 {k:Nat} (hk:k<256):k*2^48%18446744073709551616=k*2^48:=Nat.mod_eq_of_lt (by omega)
theorem ptr_lt {a g:Nat} (ha:a<4294967296) (hg:g<65536):(a|||g*2^32<18446744073709551616)=True:=eq_true (Nat.or_lt_two_pow (n:=64) (by omega) (by omega))
theorem c_Make (off g k:Nat) (w:World) (K:K1) (ho:off<18446744073709551616) (hg:g<65536) (hk:k<256):callS prog 169 #[.int .u64 (off:Int),.int .u16 (g:Int),.int .u8 (k:Int)] w K=K (.tuple #[.int .u64 ((if ptrOk off g k=true∧off≤34359738360 then ptrN off g k else 0:Nat):Int),.int .i64 (if ptrOk off g k=true then if off≤34359738360 then 0 else 2 else 1)]) w:=by
 refine callS_det (by kernel_rfl) (f169_call _ _ _ _ _ ?_) K
 unfold f169_t
 cases hb:ptrOk off g k with
 |false=>
  by_cases h1:off=0
  ·simp (disch:=first|omega|simp only [RO]|(simp only [RZ]<;>omega)|fail) only [↓RA,↓reduceIte,Nat.reduceAdd,Nat.reduceMul,Nat.reduceEqDiff,RB,RW,RS,RI,h1]
  ·by_cases h2:off%8=0
   ·by_cases h3:g=0
    ·simp (disch:=first|omega|simp only [RO]|(simp only [RZ]<;>omega)|fail) only [↓RA,↓reduceIte,Nat.reduceAdd,Nat.reduceMul,Nat.reduceEqDiff,RB,RW,RS,RI,h1,h2,h3]
    ·by_cases h4:k=0
     ·simp (disch:=first|omega|simp only [RO]|(simp only [RZ]<;>omega)|fail) only [↓RA,↓reduceIte,Nat.reduceAdd,Nat.reduceMul,Nat.reduceEqDiff,RB,RW,RS,RI,h1,h2,h3,h4]
     ·have h5:¬k≤127:=by simp [ptrOk,h1,h2,h3,h4] at hb;omega
      simp (disch:=first|omega|simp only [RO]|(simp only [RZ]<;>omega)|fail) only [↓RA,↓reduceIte,Nat.reduceAdd,Nat.reduceMul,Nat.reduceEqDiff,RB,RW,RS,RI,h1,h2,h3,h4,h5]
   ·simp (disch:=first|omega|simp only [RO]|(simp only [RZ]<;>omega)|fail) only [↓RA,↓reduceIte,Nat.reduceAdd,Nat.reduceMul,Nat.reduceEqDiff,RB,RW,RS,RI,h1,h2]
 |true=>
  have h:off≠0∧off%8=0∧g≠0∧k≠0∧k≤127:=by simpa [ptrOk,and_assoc] using hb
  by_cases h6:off≤34359738360
  ·have s3:off/8|||g*2^32<18446744073709551616:=of_eq_true (ptr_lt (show off/8<4294967296 by omega) hg)
   simp (disch:=first|omega|simp only [RO]|(simp only [RZ]<;>omega)|fail) only [↓RA,↓reduceIte,Nat.reduceAdd,Nat.reduceMul,Nat.reduceEqDiff,RB,RW,RS,RI,h6,ptrN,ptr_s1 hg,ptr_s2 hk,ptr_or (show off/8<4294967296 by omega) hg (show k<65536 by omega)]
  ·simp (disch:=first|omega|simp only [RO]|(simp only [RZ]<;>omega)|fail) only [↓RA,↓reduceIte,Nat.reduceAdd,Nat.reduceMul,Nat.reduceEqDiff,RB,RW,RS,RI,h6]
theorem c_rWords (c:Int) (w:World) (K:K1):callS prog 56 #[.int .i64 c] w K=K (.int .i64 (wordsS c)) w:=by
 refine callS_det (by kernel_rfl) (f56_call _ _ _ ?_) K
 unfold f56_t
 by_cases h:0≤c∧c<5
 ·have h':c=0∨c=1∨c=2∨c=3∨c=4:=by omega
  rcases h' with rfl|rfl|rfl|rfl|rfl
  ·simp (disch:=first|omega|simp only [RO]|(simp only [RZ]<;>omega)|fail) only [↓RA,↓reduceIte,Nat.reduceAdd,Nat.reduceMul,Nat.reduceEqDiff,RB,show wordsS 0=3 from rfl]
  ·simp (disch:=first|omega|simp only [RO]|(simp only [RZ]<;>omega)|fail) only [↓RA,↓reduceIte,Nat.reduceAdd,Nat.reduceMul,Nat.reduceEqDiff,RB,show wordsS 1=7 from rfl]
  ·simp (disch:=first|omega|simp only [RO]|(simp only [RZ]<;>omega)|fail) only [↓RA,↓reduceIte,Nat.reduceAdd,Nat.reduceMul,Nat.reduceEqDiff,RB,show wordsS 2=15 from rfl]
  ·simp (disch:=first|omega|simp only [RO]|(simp only [RZ]<;>omega)|fail) only [↓RA,↓reduceIte,Nat.reduceAdd,Nat.reduceMul,Nat.reduceEqDiff,RB,show wordsS 3=31 from rfl]
  ·simp (disch:=first|omega|simp only [RO]|(simp only [RZ]<;>omega)|fail) only [↓RA,↓reduceIte,Nat.reduceAdd,Nat.reduceMul,Nat.reduceEqDiff,RB,show wordsS 4=60 from rfl]
 ·simp (disch:=first|omega|simp only [RO]|(simp only [RZ]<;>omega)|fail) only [↓RA,↓reduceIte,Nat.reduceAdd,Nat.reduceMul,Nat.reduceEqDiff,RB,wordsS_out h]
theorem per_mul {c n:Int} (h0:0≤c) (h1:c<5):(8+(n+1)*(wordsS c+1)≤256)=(n<perS c):=by
 have hp:=perS_in h0 h1
 have hw:=wordsS_in h0 h1
 have:c=0∨c=1∨c=2∨c=3∨c=4:=by omega
 rcases this with rfl|rfl|rfl|rfl|rfl<;>(rw [hp.1,hw.1];simp [payN];omega)
theorem c_rPer (c:Int) (w:World) (K:K1):callS prog 19 #[.int .i64 c] w K=K (.int .i64 (perS c)) w:=by
 refine callS_det (by kernel_rfl) (f19_call _ _ _ ?_) K
 unfold f19_t
 by_cases h:0≤c∧c<5
 ·have hp:=perS_in h.1 h.2
  have hw:=wordsS_in h.1 h.2
  apply f19_l1_rule (I:=fun x3 w'=>∃k:Int,0≤k∧k≤perS c∧w'=w∧x3= .int .i64 k) (μ:=fun x3 _=>100-(intOf x3).toNat)
  ·exact ⟨0,by omega,by omega,rfl,rfl⟩
  ·rintro x3 w' ⟨k,hk0,hk,rfl,rfl⟩ E1 hE
   unfold f19_l1_t
   have hm:=per_mul (n:=k) h.1 h.2
   have hb:0≤(k+1)*(wordsS c+1)∧(k+1)*(wordsS c+1)≤6000:=⟨Int.mul_nonneg (by omega) (by omega),Int.le_trans (Int.mul_le_mul (show k+1≤63 by omega) (show wordsS c+1≤61 by omega) (by omega) (by omega)) (by omega)⟩
   by_cases hk':k<perS c
   ·have hm':8+(k+1)*(wordsS c+1)≤256:=by rw [hm];exact hk'
    simp (disch:=first|omega|simp only [RO]|(simp only [RZ]<;>omega)|fail) only [↓RA,↓reduceIte,Nat.reduceAdd,Nat.reduceMul,Nat.reduceEqDiff,RB,c_rWords]
    refine hE _ _ ⟨k+1,by omega,by omega,rfl,rfl⟩ ?_
    simp [intOf];omega
   ·have hm':¬8+(k+1)*(wordsS c+1)≤256:=by rw [hm];exact hk'
    have e:perS c=k:=by omega
    simp (disch:=first|omega|simp only [RO]|(simp only [RZ]<;>omega)|fail) only [↓RA,↓reduceIte,Nat.reduceAdd,Nat.reduceMul,Nat.reduceEqDiff,RB,c_rWords,f19_k1_eq,f19_k1_t,e]
 ·have hp:=perS_out h
  have hw:=wordsS_out h
  apply f19_l1_rule (I:=fun x3 w'=>w'=w∧x3= .int .i64 0) (μ:=fun x3 _=>0)
  ·exact ⟨rfl,rfl⟩
  ·rintro x3 w' ⟨rfl,rfl⟩ E1 hE
   unfold f19_l1_t
   simp (disch:=first|omega|simp only [RO]|(simp only [RZ]<;>omega)|fail) only [↓RA,↓reduceIte,Nat.reduceAdd,Nat.reduceMul,Nat.reduceEqDiff,RB,c_rWords,hw,hp,f19_k1_eq,f19_k1_t]
def f75_t (x0 x1:Value) (K:K1) (w:World):Prop:=
 ev prog (Instr.alloc 134 true (.tuple #[])) w fun a w=>
 cL 129 (pA #[x0,x1]) w fun b w=>
 eX b 0 w fun c w=>
 eX b 1 w fun d w=>
 ev prog (Instr.alloc 132 true (.tuple #[])) w fun e w=>
 sD 132 e c w fun w=>
 bC .neq 28 14 0 d w fun f w=>
 cndS f (
 ev prog (Instr.build 134 #[]) w fun g w=>
 sD 134 a g w fun w=>
 lR 134 a w fun r=>
 K (.tuple #[r,d]) w) (
 fA 132 e 0 w fun h w=>
 lD 3 h w fun i w=>
 bC .lss 3 19 0 i w fun j w=>
 cndS j (
 ev prog (Instr.build 134 #[]) w fun l w=>
 sD 134 a l w fun w=>
 lR 134 a w fun r_1=>
 K (.tuple #[r_1,(.int .i64 8)]) w) (
 lD 132 e w fun m w=>
 ev prog (Instr.build 134 #[(0,x0),(1,x1),(2,m)]) w fun n w=>
 sD 134 a n w fun w=>
 lR 134 a w fun r_2=>
 K (.tuple #[r_2,(.int .i64 0)]) w))
theorem f75_call (x0 x1:Value) (K:K1) (w:World) (h:f75_t x0 x1 K w):callS prog 75 #[x0,x1] w K:=
 call_of_txt (args:= [x0,x1]) mixed Tryz.func75 .o kR (cast kR h)
def f76_t (x0 x1:Value) (K:K1) (w:World):Prop:=
 ev prog (Instr.box 134 x0) w fun a w=>
 cL 73 (pA #[x1]) w fun b w=>
 cndS b (
 K (.tuple #[(.int .i64 0),(.int .i64 1)]) w) (
 lR 134 a w.drew fun c=>
 cL 20 (pA #[x1]) w.drew fun d w=>
 (lG 134 a w c)∧
 cL 130 (pA #[c,d]) w fun e w=>
 xR e 0 w fun f=>
 xR e 1 w fun g=>
 ev prog (Op.unary .not g) w fun h w=>
 gV h false x1 w fun i w=>
 gd h false (fun k=>bU .shr 27 24 .u64 56 i w k) w fun j w=>
 gd h false (fun k=>bU .neq 27 25 .u64 0 j w k) w fun l w=>
 pickS h (.bool true) l w fun m w=>
 cndS m (
 K (.tuple #[(.int .i64 0),(.int .i64 2)]) w) (
 fA 134 a 0 w fun n w=>
 lD 106 n w fun o w=>
 invS prog o "Err" (pA #[]) w fun p w=>
 bC .neq 28 31 0 p w fun q w=>
 cndS q (
 K (.tuple #[(.int .i64 0),p]) w) (
 lD 134 a w fun s w=>
 cL 131 (pA #[s,f]) w fun t w=>
 eX t 0 w fun v w=>
 eX t 1 w fun y w=>
 eX t 2 w fun z w=>
 ev prog (Instr.alloc 200 true (.tuple #[])) w fun a0 w=>
 sD 200 a0 v w fun w=>
 fA 134 a 0 w fun a1 w=>
 lD 106 a1 w fun a2 w=>
 invS prog a2 "Err" (pA #[]) w fun a3 w=>
 bC .neq 28 44 0 a3 w fun a4 w=>
 cndS a4 (
 K (.tuple #[(.int .i64 0),a3]) w) (
 rd prog (Op.unary .not y) w.drew fun a5=>
 gW a5 false z fun a6=>
 gdR a5 false (fun k=>rd prog (Op.unary .not a6) w.drew k) fun a7=>
 pickV a5 (.bool true) a7 fun a8=>
 gF a8 false 200 a0 2 w.drew fun a9=>
 gL a8 false 5 a9 w.drew fun b0=>
 gdR a8 false (fun k=>rU .neq 5 55 .u8 177 b0 w.drew k) fun b1=>
 pickV a8 (.bool true) b1 fun b2=>
 gF b2 false 200 a0 0 w.drew fun b3=>
 gL b2 false 130 b3 w.drew fun b4=>
 gW b2 false x1 fun b5=>
 gC b2 false 132 (pA #[b5]) w.drew fun b6 w=>
 (gq b2 false (fG 200 a0 0 w b3))∧
 (gq b2 false (lG 130 b3 w b4))∧
 gdR b2 false (fun k=>rT .neq 130 60 62 b4 b6 w k) fun b7=>
 pickV b2 (.bool true) b7 fun b8=>
 cndS b8 (
 K (.tuple #[(.int .i64 0),(.int .i64 12)]) w) (
 fR 200 a0 1 w.drew fun b9=>
 lR 5 b9 w.drew fun c0=>
 cL 60 (pA #[x1]) w.drew fun c1 w=>
 (fG 200 a0 1 w b9)∧
 (lG 5 b9 w c0)∧
 rT .neq 5 66 68 c0 c1 w fun c2=>
 cndS c2 (
 K (.tuple #[(.int .i64 0),(.int .i64 13)]) w) (
 K (.tuple #[f,(.int .i64 0)]) w))))))
theorem f76_call (x0 x1:Value) (K:K1) (w:World) (h:f76_t x0 x1 K w):callS prog 76 #[x0,x1] w K:=
 call_of_txt (args:= [x0,x1]) mixed Tryz.func76 .o kR (cast kR h)
noncomputable def f98_u:Code×Dec:=((Tryz.f98.body).getD .skip,(.s .o (.s .o (.x 30 (.s .o (.b (.l [23] 6291486 17171483392 .o))) .o))))
abbrev f98_e (K:K1):KF:=endK prog Tryz.f98.results.toList K
def f98_k1_o (K:K1):KF:=fun fr w=>∀σ,cP (pr (pr (pr f98_u))) (f98_e K) (f98_e K) nX (mixF 30 σ 0 fr) w
def f98_k1 (K:K1) (x1 x2 x3 x4:Value) (w:World):Prop:=f98_k1_o K (fz 66 0 [(1,x1),(2,x2),(3,x3),(4,x4)]) w
def f98_l1 (K:K1) (x1 x2 x3 x4 x21 x22 x23:Value) (w:World):Prop:=loopT [23] 6291486 (fun E=>cP (pl (pl (pr (pl (pr (pr f98_u)))))) E (f98_e K) (exB 0 (f98_k1_o K) nX)) (fz 66 0 [(1,x1),(2,x2),(3,x3),(4,x4),(21,x21),(22,x22),(23,x23)]) w
def f98_k1_t (x1 x2 x3 x4:Value) (K:K1) (w:World):Prop:=
 lD 134 x4 w fun a w=>
 ev prog (Instr.buildSlice 248 2 #[(0,x1),(1,x3)]) w fun b w=>
 cL 143 (pA #[a,b]) w fun c w=>
 ev prog (Op.unary .not c) w fun d w=>
 cndS d (
 K (.tuple #[(.slice none 0 0),(.int .i64 1)]) w) (
 fA 134 x4 0 w fun e w=>
 lD 106 e w fun f w=>
 bM .eql 106 (.tmp 41) (.const .nilIface) f .nilIface w fun g w=>
 cndS g (
 K (.tuple #[(.slice none 0 0),(.int .i64 0)]) w) (
 fA 134 x4 0 w fun h w=>
 lD 106 h w fun i w=>
 invS prog i "Err" (pA #[]) w fun j w=>
 bC .neq 28 46 0 j w fun l w=>
 cndS l (
 K (.tuple #[(.slice none 0 0),j]) w) (
 lD 134 x4 w fun m w=>
 cL 144 (pA #[m,x1,x2,x3]) w fun n w=>
 eX n 0 w fun o w=>
 eX n 1 w fun p w=>
 fA 134 x4 0 w fun q w=>
 lD 106 q w fun s w=>
 invS prog s "Err" (pA #[]) w fun t w=>
 bC .neq 28 60 0 t w fun v w=>
 cndS v (
 K (.tuple #[(.slice none 0 0),t]) w) (
 ev prog (Op.unary .not p) w fun y w=>
 cndS y (
 K (.tuple #[(.slice none 0 0),(.int .i64 8)]) w) (
 K (.tuple #[o,(.int .i64 0)]) w)))))
theorem f98_k1_eq (K:K1) (x1 x2 x3 x4:Value) (w:World):f98_k1 K x1 x2 x3 x4 w=f98_k1_t x1 x2 x3 x4 K w:=cutE fun σ=>by kernel_rfl
def f98_l1_t (x1 x2 x3 x4 x21 x22 x23:Value) (K:K1) (E1:VP1) (w:World):Prop:=
 bT .lss 3 23 22 x23 x22 w fun a w=>
 cndS a (
 iA 51 x21 x23 w fun b w=>
 lD 5 b w fun c w=>
 bU .eql 5 27 .u8 0 c w fun d w=>
 gV d false c w fun e w=>
 gd d false (fun k=>bU .gtr 5 30 .u8 127 e w k) w fun f w=>
 pickS d (.bool true) f w fun g w=>
 cndS g (
 K (.tuple #[(.slice none 0 0),(.int .i64 1)]) w) (
 bC .add 3 23 1 x23 w fun h w=>
 E1 h w)) (
 f98_k1 K x1 x2 x3 x4 w)
theorem f98_l1_rule (x1 x2 x3 x4 x21 x22 x23:Value) (K:K1) (w:World) (I:VP1) (μ:Value→World→Nat) (h0:I x23 w)
  (hr:∀(x23:Value) (w:World),I x23 w→∀E1:VP1,(∀(y23:Value) (w':World),I y23 w'→μ y23 w'<μ x23 w→E1 y23 w')→f98_l1_t x1 x2 x3 x4 x21 x22 x23 K E1 w):f98_l1 K x1 x2 x3 x4 x21 x22 x23 w:=
 ⟨I,μ,h0,fun σ w hI E hE=>cast kR (hr (σ 23) w hI E hE)⟩
def f98_t (x0 x1 x2 x3:Value) (K:K1) (w:World):Prop:=
 ev prog (Instr.box 134 x0) w fun a w=>
 lN 51 x2 w fun b w=>
 lN 50 x1 w fun c w=>
 bT .neq 3 17 19 b c w fun d w=>
 cndS d (
 K (.tuple #[(.slice none 0 0),(.int .i64 1)]) w) (
 lN 51 x2 w fun e w=>
 f98_l1 K x1 x2 x3 a x2 e (.int .i64 0) w)
theorem f98_call (x0 x1 x2 x3:Value) (K:K1) (w:World) (h:f98_t x0 x1 x2 x3 K w):callS prog 98 #[x0,x1,x2,x3] w K:=
 call_of_txt (args:= [x0,x1,x2,x3]) mixed Tryz.func98 f98_u.2 kR (cast kR h)
noncomputable def f121_u:Code×Dec:=((Tryz.f121.body).getD .skip,(.s .o (.x 6 .o (.s .o (.s .o (.x 0 (.s .o (.b (.l [6] 36 536805456 .o))) .o))))))
abbrev f121_e (K:K1):KF:=endK prog Tryz.f121.results.toList K
def f121_k1_o (K:K1):KF:=fun fr w=>∀σ,cP (pr (pr f121_u)) (f121_e K) (f121_e K) nX (mixF 6 σ 0 fr) w
def f121_k1 (K:K1) (x1 x2:Value) (w:World):Prop:=f121_k1_o K (fz 29 0 [(1,x1),(2,x2)]) w
def f121_k2_o (K:K1):KF:=fun fr w=>∀σ,cP (pr (pr (pr (pr (pr f121_u))))) (f121_e K) (f121_e K) nX (mixF 0 σ 0 fr) w
def f121_k2 (K:K1) (w:World):Prop:=f121_k2_o K (fz 29 0 []) w
def f121_l1 (K:K1) (x2 x5 x6:Value) (w:World):Prop:=loopT [6] 36 (fun E=>cP (pl (pl (pr (pl (pr (pr (pr (pr f121_u)))))))) E (f121_e K) (exB 0 (f121_k2_o K) nX)) (fz 29 0 [(2,x2),(5,x5),(6,x6)]) w
def f121_k1_t (x1 x2:Value) (K:K1) (w:World):Prop:=
 lD 134 x2 w fun a w=>
 cL 165 (pA #[a,x1]) w fun b w=>
 ev prog (Op.unary .not b) w fun c w=>
 cndS c (
 K (.int .i64 (-1)) w) (
 lD 134 x2 w fun d w=>
 cL 166 (pA #[d]) w fun e w=>
 f121_l1 K x2 e x1 w)
theorem f121_k1_eq (K:K1) (x1 x2:Value) (w:World):f121_k1 K x1 x2 w=f121_k1_t x1 x2 K w:=cutE fun σ=>by kernel_rfl
def f121_k2_t (K:K1) (w:World):Prop:=
 K (.int .i64 (-1)) w
theorem f121_k2_eq (K:K1) (w:World):f121_k2 K w=f121_k2_t K w:=cutE fun σ=>by kernel_rfl
def f121_l1_t (x2 x5 x6:Value) (K:K1) (E1:VP1) (w:World):Prop:=
 lD 134 x2 w fun a w=>
 cL 167 (pA #[a]) w fun b w=>
 bT .lss 3 16 18 x6 b w fun c w=>
 cndS c (
 cV 3 129 x6 w fun d w=>
 bT .shr 26 22 24 x5 d w fun e w=>
 bU .and 26 25 .u64 1 e w fun f w=>
 bU .eql 26 26 .u64 0 f w fun g w=>
 cndS g (
 K x6 w) (
 bC .add 3 20 1 x6 w fun h w=>
 E1 h w)) (
 f121_k2 K w)
theorem f121_l1_rule (x2 x5 x6:Value) (K:K1) (w:World) (I:VP1) (μ:Value→World→Nat) (h0:I x6 w)
  (hr:∀(x6:Value) (w:World),I x6 w→∀E1:VP1,(∀(y6:Value) (w':World),I y6 w'→μ y6 w'<μ x6 w→E1 y6 w')→f121_l1_t x2 x5 x6 K E1 w):f121_l1 K x2 x5 x6 w:=
 ⟨I,μ,h0,fun σ w hI E hE=>cast kR (hr (σ 6) w hI E hE)⟩
def f121_t (x0 x1:Value) (K:K1) (w:World):Prop:=
 ev prog (Instr.box 134 x0) w fun a w=>
 bC .lss 3 7 0 x1 w fun b w=>
 cndS b (
 f121_k1 K (.int .i64 0) a w) (
 f121_k1 K x1 a w)
theorem f121_call (x0 x1:Value) (K:K1) (w:World) (h:f121_t x0 x1 K w):callS prog 121 #[x0,x1] w K:=
 call_of_txt (args:= [x0,x1]) mixed Tryz.func121 f121_u.2 kR (cast kR h)
noncomputable def f122_u:Code×Dec:=((Tryz.f122.body).getD .skip,(.s .o (.s .o (.s .o (.s .o (.s .o (.s .o (.x 526 .o .o))))))))
abbrev f122_e (K:K1):KF:=endK prog Tryz.f122.results.toList K
def f122_k1_o (K:K1):KF:=fun fr w=>∀σ,cP (pr (pr (pr (pr (pr (pr (pr f122_u))))))) (f122_e K) (f122_e K) nX (mixF 526 σ 0 fr) w
def f122_k1 (K:K1) (x1 x2 x3 x9:Value) (w:World):Prop:=f122_k1_o K (fz 74 0 [(1,x1),(2,x2),(3,x3),(9,x9)]) w
def f122_k1_t (x1 x2 x3 x9:Value) (K:K1) (w:World):Prop:=
 lR 134 x3 w.drew fun a=>
 fR 200 x9 0 w.drew fun b=>
 lR 130 b w.drew fun c=>
 cL 170 (pA #[a,x1]) w.drew fun d w=>
 (fG 200 x9 0 w b)∧
 (lG 130 b w c)∧
 rU .add 26 66 .u64 8 d w fun e=>
 cL 169 (pA #[e,c,x2]) w fun f w=>
 xR f 0 w fun g=>
 xR f 1 w fun h=>
 K (.tuple #[g,h]) w
theorem f122_k1_eq (K:K1) (x1 x2 x3 x9:Value) (w:World):f122_k1 K x1 x2 x3 x9 w=f122_k1_t x1 x2 x3 x9 K w:=cutE fun σ=>by kernel_rfl
def f122_t (x0 x1 x2:Value) (K:K1) (w:World):Prop:=
 ev prog (Instr.box 134 x0) w fun a w=>
 lD 134 a w fun b w=>
 cL 165 (pA #[b,x1]) w fun c w=>
 ev prog (Op.unary .not c) w fun d w=>
 cndS d (
 K (.tuple #[(.int .u64 ((0:Nat):Int)),(.int .i64 2)]) w) (
 fA 134 a 0 w fun e w=>
 lD 106 e w fun f w=>
 invS prog f "Err" (pA #[]) w fun g w=>
 bC .neq 28 20 0 g w fun h w=>
 cndS h (
 K (.tuple #[(.int .u64 ((0:Nat):Int)),g]) w) (
 lD 134 a w fun i w=>
 cL 131 (pA #[i,x1]) w fun j w=>
 eX j 0 w fun l w=>
 eX j 1 w fun m w=>
 eX j 2 w fun n w=>
 ev prog (Instr.alloc 200 true (.tuple #[])) w fun o w=>
 sD 200 o l w fun w=>
 fA 134 a 0 w fun p w=>
 lD 106 p w fun q w=>
 invS prog q "Err" (pA #[]) w fun s w=>
 bC .neq 28 33 0 s w fun t w=>
 cndS t (
 K (.tuple #[(.int .u64 ((0:Nat):Int)),s]) w) (
 ev prog (Op.unary .not m) w fun v w=>
 gd v false (fun k=>lD 200 o w k) w fun y w=>
 gC v false 168 (pA #[y]) w fun z w=>
 gd v false (fun k=>ev prog (Op.unary .not z) w k) w fun a0 w=>
 pickS v (.bool true) a0 w fun a1 w=>
 gV a1 false n w fun a2 w=>
 gd a1 false (fun k=>fA 200 o 2 w k) w fun a3 w=>
 gd a1 false (fun k=>lD 5 a3 w k) w fun a4 w=>
 gd a1 false (fun k=>bU .neq 5 46 .u8 176 a4 w k) w fun a5 w=>
 gd a1 false (fun k=>bT .neq 4 44 47 a2 a5 w k) w fun a6 w=>
 pickS a1 (.bool true) a6 w fun a7 w=>
 cndS a7 (
 K (.tuple #[(.int .u64 ((0:Nat):Int)),(.int .i64 11)]) w) (
 fA 200 o 2 w fun a8 w=>
 lD 5 a8 w fun a9 w=>
 bU .eql 5 51 .u8 178 a9 w fun b0 w=>
 cndS b0 (
 K (.tuple #[(.int .u64 ((0:Nat):Int)),(.int .i64 12)]) w) (
 bU .eql 5 51 .u8 177 a9 w fun b1 w=>
 cndS b1 (
 fA 200 o 1 w fun b2 w=>
 lD 5 b2 w fun b3 w=>
 f122_k1 K x1 b3 a o w) (
 bU .eql 5 52 .u8 0 x2 w fun b4 w=>
 gV b4 false x2 w fun b5 w=>
 gd b4 false (fun k=>bU .gtr 5 55 .u8 127 b5 w k) w fun b6 w=>
 pickS b4 (.bool true) b6 w fun b7 w=>
 cndS b7 (
 K (.tuple #[(.int .u64 ((0:Nat):Int)),(.int .i64 1)]) w) (
 f122_k1 K x1 x2 a o w)))))))
theorem f122_call (x0 x1 x2:Value) (K:K1) (w:World) (h:f122_t x0 x1 x2 K w):callS prog 122 #[x0,x1,x2] w K:=
 call_of_txt (args:= [x0,x1,x2]) mixed Tryz.func122 f122_u.2 kR (cast kR h)
def f129_t (x0 x1:Value) (K:K1) (w:World):Prop:=
 ev prog (Instr.alloc 132 true (.tuple #[])) w fun a w=>
 bM .eql 106 (.tmp 12) (.const .nilIface) x0 .nilIface w fun b w=>
 gV b false x1 w fun c w=>
 gd b false (fun k=>bC .lss 3 15 0 c w k) w fun d w=>
 pickS b (.bool true) d w fun e w=>
 cndS e (
 ev prog (Instr.build 132 #[]) w fun f w=>
 sD 132 a f w fun w=>
 lR 132 a w fun r=>
 K (.tuple #[r,(.int .i64 1)]) w) (
 invS prog x0 "Size" (pA #[]) w fun g w=>
 bU .quo 26 20 .u64 64 g w fun h w=>
 bU .lss 26 22 .u64 32 h w fun i w=>
 gV i false x1 w fun j w=>
 gd i false (fun k=>cV 3 26 j w k) w fun l w=>
 gV i false h w fun m w=>
 gd i false (fun k=>bU .sub 26 27 .u64 32 m w k) w fun n w=>
 gd i false (fun k=>bT .gtr 26 26 28 l n w k) w fun o w=>
 pickS i (.bool true) o w fun p w=>
 cndS p (
 ev prog (Instr.build 132 #[]) w fun q w=>
 sD 132 a q w fun w=>
 lR 132 a w fun r_1=>
 K (.tuple #[r_1,(.int .i64 1)]) w) (
 invS prog x0 "Err" (pA #[]) w fun s w=>
 bC .neq 28 34 0 s w fun t w=>
 cndS t (
 ev prog (Instr.build 132 #[]) w fun v w=>
 sD 132 a v w fun w=>
 lR 132 a w fun r_2=>
 K (.tuple #[r_2,s]) w) (
 rd prog (Instr.makeFunc (.method "Load") #[x0] #[]) w.drew fun y=>
 nR y w.drew fun z=>
 cL 162 (pA #[x1]) w.drew fun a0 w=>
 (ag prog (Instr.makeFunc (.method "Load") #[x0] #[]) w y)∧
 (nilR prog y w (fun u=>u=z))∧
 invS prog x0 "Load" (pA #[a0]) w fun a1 w=>
 invS prog x0 "Err" (pA #[]) w fun a2 w=>
 bC .neq 28 47 0 a2 w fun a3 w=>
 cndS a3 (
 ev prog (Instr.build 132 #[]) w fun a4 w=>
 sD 132 a a4 w fun w=>
 lR 132 a w fun r_3=>
 K (.tuple #[r_3,a2]) w) (
 cL 175 (pA #[a1]) w fun a5 w=>
 eX a5 0 w fun a6 w=>
 eX a5 1 w fun a7 w=>
 ev prog (Instr.alloc 132 true (.tuple #[])) w fun a8 w=>
 sD 132 a8 a6 w fun w=>
 ev prog (Op.unary .not a7) w fun a9 w=>
 cndS a9 (
 ev prog (Instr.build 132 #[]) w fun b0 w=>
 sD 132 a b0 w fun w=>
 lR 132 a w fun r_4=>
 K (.tuple #[r_4,(.int .i64 11)]) w) (
 lD 132 a8 w fun b1 w=>
 sD 132 a b1 w fun w=>
 lR 132 a w fun r_5=>
 K (.tuple #[r_5,(.int .i64 0)]) w)))))
theorem f129_call (x0 x1:Value) (K:K1) (w:World) (h:f129_t x0 x1 K w):callS prog 129 #[x0,x1] w K:=
 call_of_txt (args:= [x0,x1]) mixed Tryz.func129 .o kR (cast kR h)
def f130_t (x0 x1:Value) (K:K1) (w:World):Prop:=
 ev prog (Instr.box 134 x0) w fun a w=>
 fA 134 a 1 w fun b w=>
 lD 3 b w fun c w=>
 cL 162 (pA #[c]) w fun d w=>
 fA 134 a 0 w fun e w=>
 lD 106 e w fun f w=>
 bM .eql 106 (.tmp 11) (.const .nilIface) f .nilIface w fun g w=>
 gV g false x1 w fun h w=>
 gV g false d w fun i w=>
 gd g false (fun k=>bT .lss 26 14 15 h i w k) w fun j w=>
 pickS g (.bool true) j w fun l w=>
 gV l false x1 w fun m w=>
 gV l false d w fun n w=>
 gd l false (fun k=>bT .sub 26 19 20 m n w k) w fun o w=>
 gd l false (fun k=>bU .geq 26 21 .u64 2048 o w k) w fun p w=>
 pickS l (.bool true) p w fun q w=>
 cndS q (
 K (.tuple #[(.int .i64 0),(.bool false)]) w) (
 fA 134 a 2 w fun s w=>
 fA 132 s 0 w fun t w=>
 lD 3 t w fun v w=>
 bT .sub 26 27 28 x1 d w fun y w=>
 bU .quo 26 29 .u64 8 y w fun z w=>
 cV 26 3 z w fun a0 w=>
 cL 138 (pA #[v,a0]) w fun a1 w=>
 eX a1 0 w fun a2 w=>
 eX a1 1 w fun a3 w=>
 K (.tuple #[a2,a3]) w)
theorem f130_call (x0 x1:Value) (K:K1) (w:World) (h:f130_t x0 x1 K w):callS prog 130 #[x0,x1] w K:=
 call_of_txt (args:= [x0,x1]) mixed Tryz.func130 .o kR (cast kR h)
def f131_t (x0 x1:Value) (K:K1) (w:World):Prop:=
 ev prog (Instr.box 134 x0) w fun a w=>
 ev prog (Instr.alloc 200 true (.tuple #[])) w fun b w=>
 lD 134 a w fun c w=>
 cL 166 (pA #[c]) w fun d w=>
 cV 3 129 x1 w fun e w=>
 bT .shr 26 8 10 d e w fun f w=>
 bU .and 26 11 .u64 1 f w fun g w=>
 bU .eql 26 12 .u64 1 g w fun h w=>
 fR 134 a 0 w.drew fun i=>
 lR 106 i w.drew fun j=>
 lR 134 a w.drew fun l=>
 nR j w.drew fun m=>
 cL 170 (pA #[l,x1]) w.drew fun n w=>
 (fG 134 a 0 w i)∧
 (lG 106 i w j)∧
 (nilR prog j w (fun u=>u=m))∧
 invS prog j "Load" (pA #[n]) w fun o w=>
 cL 176 (pA #[o]) w fun p w=>
 xR p 0 w fun q=>
 xR p 1 w fun s=>
 sD 200 b q w fun w=>
 lD 200 b w fun t w=>
 sD 200 b t w fun w=>
 lR 200 b w fun r=>
 K (.tuple #[r,s,h]) w
theorem f131_call (x0 x1:Value) (K:K1) (w:World) (h:f131_t x0 x1 K w):callS prog 131 #[x0,x1] w K:=
 call_of_txt (args:= [x0,x1]) mixed Tryz.func131 .o kR (cast kR h)
def f136_t (x0:Value) (K:K1) (w:World):Prop:=
 ev prog (Instr.box 134 x0) w fun a w=>
 fA 134 a 0 w fun b w=>
 lD 106 b w fun c w=>
 bM .eql 106 (.tmp 4) (.const .nilIface) c .nilIface w fun d w=>
 cndS d (
 K (.int .i64 (-1)) w) (
 fA 134 a 2 w fun e w=>
 fA 132 e 0 w fun f w=>
 lD 3 f w fun g w=>
 K g w)
theorem f136_call (x0:Value) (K:K1) (w:World) (h:f136_t x0 K w):callS prog 136 #[x0] w K:=
 call_of_txt (args:= [x0]) mixed Tryz.func136 .o kR (cast kR h)
def f137_t (x0 x1:Value) (K:K1) (w:World):Prop:=
 ev prog (Instr.box 134 x0) w fun a w=>
 lD 134 a w fun b w=>
 cL 177 (pA #[b,x1,(.int .u8 ((177:Nat):Int))]) w fun c w=>
 K c w
theorem f137_call (x0 x1:Value) (K:K1) (w:World) (h:f137_t x0 x1 K w):callS prog 137 #[x0,x1] w K:=
 call_of_txt (args:= [x0,x1]) mixed Tryz.func137 .o kR (cast kR h)
noncomputable def f143_u:Code×Dec:=((Tryz.f143.body).getD .skip,(.s .o (.s .o (.x 0 (.s .o (.b (.l [5,12] 3076 2199023252144 (.s .o (.s .o (.x 7204 (.b (.s .o (.s .o (.b (.l [5,18] 203780 1099511366192 .o))))) .o)))))) .o))))
abbrev f143_e (K:K1):KF:=endK prog Tryz.f143.results.toList K
def f143_k1_o (K:K1):KF:=fun fr w=>∀σ,cP (pr (pr (pr f143_u))) (f143_e K) (f143_e K) nX (mixF 0 σ 0 fr) w
def f143_k1 (K:K1) (w:World):Prop:=f143_k1_o K (fz 41 0 []) w
def f143_l1 (K:K1) (x2 x5 x10 x11 x12:Value) (w:World):Prop:=loopT [5,12] 3076 (fun E=>cP (pl (pl (pr (pl (pr (pr f143_u)))))) E (f143_e K) (exB 0 (f143_k1_o K) nX)) (fz 41 0 [(2,x2),(5,x5),(10,x10),(11,x11),(12,x12)]) w
def f143_k2_o (K:K1) (E1:VP2):KF:=fun fr w=>∀σ,cP (pr (pr (pr (pl (pl (pr (pl (pr (pr f143_u))))))))) (fun fr w=>E1 (sv fr 5) (sv fr 12) w) (f143_e K) (exB 0 (f143_k1_o K) nX) (mixF 7204 σ 0 fr) w
def f143_k2 (K:K1) (E1:VP2) (x2 x5 x10 x11 x12:Value) (w:World):Prop:=f143_k2_o K E1 (fz 41 0 [(2,x2),(5,x5),(10,x10),(11,x11),(12,x12)]) w
def f143_l2 (K:K1) (E1:VP2) (x2 x5 x10 x11 x12 x16 x17 x18:Value) (w:World):Prop:=loopT [5,18] 203780 (fun E=>cP (pl (pl (pr (pr (pl (pl (pr (pr (pl (pl (pr (pl (pr (pr f143_u)))))))))))))) E (f143_e K) (exB 2 (f143_k2_o K E1) (exB 1 (f143_k2_o K E1) (exB 0 (f143_k1_o K) nX)))) (fz 41 0 [(2,x2),(5,x5),(10,x10),(11,x11),(12,x12),(16,x16),(17,x17),(18,x18)]) w
def f143_k1_t (K:K1) (w:World):Prop:=
 K (.bool true) w
theorem f143_k1_eq (K:K1) (w:World):f143_k1 K w=f143_k1_t K w:=cutE fun σ=>by kernel_rfl
def f143_l1_t (x2 x5 x10 x11 x12:Value) (K:K1) (E1:VP2) (w:World):Prop:=
 bT .lss 3 12 11 x12 x11 w fun a w=>
 cndS a (
 iA 248 x10 x12 w fun b w=>
 lD 50 b w fun c w=>
 lN 50 c w fun d w=>
 f143_l2 K E1 x2 x5 x10 x11 x12 c d (.int .i64 0) w) (
 f143_k1 K w)
theorem f143_l1_rule (x2 x5 x10 x11 x12:Value) (K:K1) (w:World) (I:VP2) (μ:Value→Value→World→Nat) (h0:I x5 x12 w)
  (hr:∀(x5 x12:Value) (w:World),I x5 x12 w→∀E1:VP2,(∀(y5 y12:Value) (w':World),I y5 y12 w'→μ y5 y12 w'<μ x5 x12 w→E1 y5 y12 w')→f143_l1_t x2 x5 x10 x11 x12 K E1 w):f143_l1 K x2 x5 x10 x11 x12 w:=
 ⟨I,μ,h0,fun σ w hI E hE=>cast kR (hr (σ 5) (σ 12) w hI E hE)⟩
def f143_k2_t (x2 x5 x10 x11 x12:Value) (K:K1) (E1:VP2) (w:World):Prop:=
 bC .add 3 12 1 x12 w fun a w=>
 E1 x5 a w
theorem f143_k2_eq (K:K1) (E1:VP2) (x2 x5 x10 x11 x12:Value) (w:World):f143_k2 K E1 x2 x5 x10 x11 x12 w=f143_k2_t x2 x5 x10 x11 x12 K E1 w:=cutE fun σ=>by kernel_rfl
def f143_l2_t (x2 x5 x10 x11 x12 x16 x17 x18:Value) (K:K1) (E1:VP2) (E2:VP2) (w:World):Prop:=
 bT .lss 3 18 17 x18 x17 w fun a w=>
 cndS a (
 iA 50 x16 x18 w fun b w=>
 lD 3 b w fun c w=>
 lD 134 x2 w fun d w=>
 cL 165 (pA #[d,c]) w fun e w=>
 ev prog (Op.unary .not e) w fun f w=>
 gV f false x5 w fun g w=>
 gV f false c w fun h w=>
 gd f false (fun k=>cV 3 129 h w k) w fun i w=>
 gd f false (fun k=>bT .shr 26 27 29 g i w k) w fun j w=>
 gd f false (fun k=>bU .and 26 30 .u64 1 j w k) w fun l w=>
 gd f false (fun k=>bU .eql 26 31 .u64 1 l w k) w fun m w=>
 pickS f (.bool true) m w fun n w=>
 cndS n (
 K (.bool false) w) (
 cV 3 129 c w fun o w=>
 bM .shl 26 (cu .u64 1) (.tmp 36) (.int .u64 ((1:Nat):Int)) o w fun p w=>
 bT .or 26 34 37 x5 p w fun q w=>
 bC .add 3 18 1 x18 w fun s w=>
 E2 q s w)) (
 f143_k2 K E1 x2 x5 x10 x11 x12 w)
theorem f143_l2_rule (x2 x5 x10 x11 x12 x16 x17 x18:Value) (K:K1) (E1:VP2) (w:World) (I:VP2) (μ:Value→Value→World→Nat) (h0:I x5 x18 w)
  (hr:∀(x5 x18:Value) (w:World),I x5 x18 w→∀E2:VP2,(∀(y5 y18:Value) (w':World),I y5 y18 w'→μ y5 y18 w'<μ x5 x18 w→E2 y5 y18 w')→f143_l2_t x2 x5 x10 x11 x12 x16 x17 x18 K E1 E2 w):f143_l2 K E1 x2 x5 x10 x11 x12 x16 x17 x18 w:=
 ⟨I,μ,h0,fun σ w hI E hE=>cast kR (hr (σ 5) (σ 18) w hI E hE)⟩
def f143_t (x0 x1:Value) (K:K1) (w:World):Prop:=
 ev prog (Instr.box 134 x0) w fun a w=>
 lN 248 x1 w fun b w=>
 f143_l1 K a (.int .u64 ((0:Nat):Int)) x1 b (.int .i64 0) w
theorem f143_call (x0 x1:Value) (K:K1) (w:World) (h:f143_t x0 x1 K w):callS prog 143 #[x0,x1] w K:=
 call_of_txt (args:= [x0,x1]) mixed Tryz.func143 f143_u.2 kR (cast kR h)
noncomputable def f144_u:Code×Dec:=((Tryz.f144.body).getD .skip,(.s .o (.s .o (.s .o (.s .o (.x 3096 (.s .o (.b (.l [10,11,34] 12884901916 4835703278458499519086336 .o))) (.x 3088 (.s .o (.b (.l [10,11,84] 14507109835375550096474128 85070591730215273052729817791150690048 (.s .o (.s .o (.x 33849922949209616891776016 .o .o)))))) .o)))))))
abbrev f144_e (K:K1):KF:=endK prog Tryz.f144.results.toList K
def f144_k1_o (K:K1):KF:=fun fr w=>∀σ,cP (pr (pr (pr (pr (pr f144_u))))) (f144_e K) (f144_e K) nX (mixF 3096 σ 0 fr) w
def f144_k1 (K:K1) (x3 x4 x10 x11:Value) (w:World):Prop:=f144_k1_o K (fz 135 0 [(3,x3),(4,x4),(10,x10),(11,x11)]) w
def f144_l1 (K:K1) (x2 x3 x4 x10 x11 x32 x33 x34:Value) (w:World):Prop:=loopT [10,11,34] 12884901916 (fun E=>cP (pl (pl (pr (pl (pr (pr (pr (pr f144_u)))))))) E (f144_e K) (exB 0 (f144_k1_o K) nX)) (fz 135 0 [(2,x2),(3,x3),(4,x4),(10,x10),(11,x11),(32,x32),(33,x33),(34,x34)]) w
def f144_k2_o (K:K1):KF:=fun fr w=>∀σ,cP (pr (pr (pr (pr (pr (pr f144_u)))))) (f144_e K) (f144_e K) nX (mixF 3088 σ 0 fr) w
def f144_k2 (K:K1) (x4 x10 x11:Value) (w:World):Prop:=f144_k2_o K (fz 135 0 [(4,x4),(10,x10),(11,x11)]) w
def f144_l2 (K:K1) (x4 x10 x11 x82 x83 x84:Value) (w:World):Prop:=loopT [10,11,84] 14507109835375550096474128 (fun E=>cP (pl (pl (pr (pl (pr (pr (pr (pr (pr f144_u))))))))) E (f144_e K) (exB 2 (f144_k2_o K) nX)) (fz 135 0 [(4,x4),(10,x10),(11,x11),(82,x82),(83,x83),(84,x84)]) w
def f144_k3_o (K:K1) (E1:VP3):KF:=fun fr w=>∀σ,cP (pr (pr (pr (pl (pl (pr (pl (pr (pr (pr (pr (pr f144_u)))))))))))) (fun fr w=>E1 (sv fr 10) (sv fr 11) (sv fr 84) w) (f144_e K) (exB 2 (f144_k2_o K) nX) (mixF 33849922949209616891776016 σ 0 fr) w
def f144_k3 (K:K1) (E1:VP3) (x4 x10 x11 x82 x83 x84:Value) (w:World):Prop:=f144_k3_o K E1 (fz 135 0 [(4,x4),(10,x10),(11,x11),(82,x82),(83,x83),(84,x84)]) w
def f144_k1_t (x3 x4 x10 x11:Value) (K:K1) (w:World):Prop:=
 lN 50 x3 w fun a w=>
 f144_l2 K x4 x10 x11 x3 a (.int .i64 0) w
theorem f144_k1_eq (K:K1) (x3 x4 x10 x11:Value) (w:World):f144_k1 K x3 x4 x10 x11 w=f144_k1_t x3 x4 x10 x11 K w:=cutE fun σ=>by kernel_rfl
def f144_l1_t (x2 x3 x4 x10 x11 x32 x33 x34:Value) (K:K1) (E1:VP3) (w:World):Prop:=
 bT .lss 3 34 33 x34 x33 w fun a w=>
 cndS a (
 iA 50 x32 x34 w fun b w=>
 lD 3 b w fun c w=>
 lD 134 x4 w fun d w=>
 cL 131 (pA #[d,c]) w fun e w=>
 eX e 0 w fun f w=>
 eX e 1 w fun g w=>
 eX e 2 w fun h w=>
 ev prog (Instr.alloc 200 true (.tuple #[])) w fun i w=>
 sD 200 i f w fun w=>
 ev prog (Op.unary .not g) w fun j w=>
 gV j false h w fun l w=>
 pickS j (.bool true) l w fun m w=>
 gd m false (fun k=>fA 200 i 2 w k) w fun n w=>
 gd m false (fun k=>lD 5 n w k) w fun o w=>
 gd m false (fun k=>bU .neq 5 53 .u8 176 o w k) w fun p w=>
 pickS m (.bool true) p w fun q w=>
 gd q false (fun k=>lD 200 i w k) w fun s w=>
 gC q false 168 (pA #[s]) w fun t w=>
 gd q false (fun k=>ev prog (Op.unary .not t) w k) w fun v w=>
 pickS q (.bool true) v w fun y w=>
 cndS y (
 K (.tuple #[(.slice none 0 0),(.bool false)]) w) (
 iA 51 x2 x34 w fun z w=>
 lD 5 z w fun a0 w=>
 fA 200 i 1 w fun a1 w=>
 sD 5 a1 a0 w fun w=>
 fA 200 i 2 w fun a2 w=>
 sD 5 a2 (.int .u8 ((177:Nat):Int)) w fun w=>
 lR 134 x4 w.drew fun a3=>
 lR 200 i w.drew fun a4=>
 cL 170 (pA #[a3,c]) w.drew fun a5 w=>
 (lG 200 i w a4)∧
 cL 160 (pA #[a4]) w fun a6 w=>
 rd prog (Instr.build 98 #[(0,a5),(1,a6)]) w fun a7=>
 ev prog (Instr.buildSlice 79 1 #[(0,a7)]) w fun a8 w=>
 bltS prog .append #[79,79] 79 #[false,false] (pA #[x10,a8]) w fun a9 w=>
 cV 3 129 c w fun b0 w=>
 bM .shl 26 (cu .u64 1) (.tmp 78) (.int .u64 ((1:Nat):Int)) b0 w fun b1 w=>
 bT .or 26 76 79 x11 b1 w fun b2 w=>
 bC .add 3 34 1 x34 w fun b3 w=>
 E1 a9 b2 b3 w)) (
 f144_k1 K x3 x4 x10 x11 w)
theorem f144_l1_rule (x2 x3 x4 x10 x11 x32 x33 x34:Value) (K:K1) (w:World) (I:VP3) (μ:Value→Value→Value→World→Nat) (h0:I x10 x11 x34 w)
  (hr:∀(x10 x11 x34:Value) (w:World),I x10 x11 x34 w→∀E1:VP3,(∀(y10 y11 y34:Value) (w':World),I y10 y11 y34 w'→μ y10 y11 y34 w'<μ x10 x11 x34 w→E1 y10 y11 y34 w')→f144_l1_t x2 x3 x4 x10 x11 x32 x33 x34 K E1 w):f144_l1 K x2 x3 x4 x10 x11 x32 x33 x34 w:=
 ⟨I,μ,h0,fun σ w hI E hE=>cast kR (hr (σ 10) (σ 11) (σ 34) w hI E hE)⟩
def f144_k2_t (x4 x10 x11:Value) (K:K1) (w:World):Prop:=
 fA 134 x4 1 w fun a w=>
 lD 3 a w fun b w=>
 cL 162 (pA #[b]) w fun c w=>
 bU .add 26 129 .u64 8 c w fun d w=>
 ev prog (Instr.build 98 #[(0,d),(1,x11)]) w fun e w=>
 ev prog (Instr.buildSlice 79 1 #[(0,e)]) w fun f w=>
 bltS prog .append #[79,79] 79 #[false,false] (pA #[x10,f]) w fun g w=>
 K (.tuple #[g,(.bool true)]) w
theorem f144_k2_eq (K:K1) (x4 x10 x11:Value) (w:World):f144_k2 K x4 x10 x11 w=f144_k2_t x4 x10 x11 K w:=cutE fun σ=>by kernel_rfl
def f144_l2_t (x4 x10 x11 x82 x83 x84:Value) (K:K1) (E1:VP3) (w:World):Prop:=
 bT .lss 3 84 83 x84 x83 w fun a w=>
 cndS a (
 iA 50 x82 x84 w fun b w=>
 lD 3 b w fun c w=>
 lD 134 x4 w fun d w=>
 cL 131 (pA #[d,c]) w fun e w=>
 eX e 0 w fun f w=>
 eX e 1 w fun g w=>
 eX e 2 w fun h w=>
 ev prog (Instr.alloc 200 true (.tuple #[])) w fun i w=>
 sD 200 i f w fun w=>
 ev prog (Op.unary .not g) w fun j w=>
 gV j false h w fun l w=>
 gd j false (fun k=>ev prog (Op.unary .not l) w k) w fun m w=>
 pickS j (.bool true) m w fun n w=>
 gd n false (fun k=>fA 200 i 2 w k) w fun o w=>
 gd n false (fun k=>lD 5 o w k) w fun p w=>
 gd n false (fun k=>bU .neq 5 103 .u8 177 p w k) w fun q w=>
 pickS n (.bool true) q w fun s w=>
 cndS s (
 K (.tuple #[(.slice none 0 0),(.bool false)]) w) (
 lD 200 i w fun t w=>
 cL 181 (pA #[t]) w fun v w=>
 sD 200 i v w fun w=>
 lR 134 x4 w.drew fun y=>
 lR 200 i w.drew fun z=>
 cL 170 (pA #[y,c]) w.drew fun a0 w=>
 (lG 200 i w z)∧
 cL 160 (pA #[z]) w fun a1 w=>
 rd prog (Instr.build 98 #[(0,a0),(1,a1)]) w fun a2=>
 ev prog (Instr.buildSlice 79 1 #[(0,a2)]) w fun a3 w=>
 bltS prog .append #[79,79] 79 #[false,false] (pA #[x10,a3]) w fun a4 w=>
 fA 200 i 2 w fun a5 w=>
 lD 5 a5 w fun a6 w=>
 bU .eql 5 118 .u8 176 a6 w fun a7 w=>
 cndS a7 (
 cV 3 129 c w fun a8 w=>
 bM .shl 26 (cu .u64 1) (.tmp 122) (.int .u64 ((1:Nat):Int)) a8 w fun a9 w=>
 bT .andNot 26 120 123 x11 a9 w fun b0 w=>
 f144_k3 K E1 x4 a4 b0 x82 x83 x84 w) (
 f144_k3 K E1 x4 a4 x11 x82 x83 x84 w))) (
 f144_k2 K x4 x10 x11 w)
theorem f144_l2_rule (x4 x10 x11 x82 x83 x84:Value) (K:K1) (w:World) (I:VP3) (μ:Value→Value→Value→World→Nat) (h0:I x10 x11 x84 w)
  (hr:∀(x10 x11 x84:Value) (w:World),I x10 x11 x84 w→∀E1:VP3,(∀(y10 y11 y84:Value) (w':World),I y10 y11 y84 w'→μ y10 y11 y84 w'<μ x10 x11 x84 w→E1 y10 y11 y84 w')→f144_l2_t x4 x10 x11 x82 x83 x84 K E1 w):f144_l2 K x4 x10 x11 x82 x83 x84 w:=
 ⟨I,μ,h0,fun σ w hI E hE=>cast kR (hr (σ 10) (σ 11) (σ 84) w hI E hE)⟩
def f144_k3_t (x4 x10 x11 x82 x83 x84:Value) (K:K1) (E1:VP3) (w:World):Prop:=
 bC .add 3 84 1 x84 w fun a w=>
 E1 x10 x11 a w
theorem f144_k3_eq (K:K1) (E1:VP3) (x4 x10 x11 x82 x83 x84:Value) (w:World):f144_k3 K E1 x4 x10 x11 x82 x83 x84 w=f144_k3_t x4 x10 x11 x82 x83 x84 K E1 w:=cutE fun σ=>by kernel_rfl
def f144_t (x0 x1 x2 x3:Value) (K:K1) (w:World):Prop:=
 ev prog (Instr.box 134 x0) w fun a w=>
 lN 50 x1 w fun b w=>
 bC .eql 3 23 0 b w fun c w=>
 gV c true x3 w fun d w=>
 gd c true (fun k=>lN 50 d w k) w fun e w=>
 gd c true (fun k=>bC .eql 3 27 0 e w k) w fun f w=>
 pickS c f (.bool false) w fun g w=>
 cndS g (
 K (.tuple #[(.slice none 0 0),(.bool true)]) w) (
 lD 134 a w fun h w=>
 cL 166 (pA #[h]) w fun i w=>
 lN 50 x1 w fun j w=>
 f144_l1 K x2 x3 a (.slice none 0 0) i x1 j (.int .i64 0) w)
theorem f144_call (x0 x1 x2 x3:Value) (K:K1) (w:World) (h:f144_t x0 x1 x2 x3 K w):callS prog 144 #[x0,x1,x2,x3] w K:=
 call_of_txt (args:= [x0,x1,x2,x3]) mixed Tryz.func144 f144_u.2 kR (cast kR h)
def f153_t (x0:Value) (K:K1) (w:World):Prop:=
 ev prog (Instr.box 134 x0) w fun a w=>
 fA 134 a 0 w fun b w=>
 lD 106 b w fun c w=>
 bM .eql 106 (.tmp 7) (.const .nilIface) c .nilIface w fun d w=>
 cndS d (
 K (.int .i64 11) w) (
 fA 134 a 0 w fun e w=>
 lD 106 e w fun f w=>
 invS prog f "Err" (pA #[]) w fun g w=>
 bC .neq 28 12 0 g w fun h w=>
 cndS h (
 K g w) (
 lD 134 a w fun i w=>
 cL 182 (pA #[i]) w fun j w=>
 fA 134 a 0 w fun l w=>
 lD 106 l w fun m w=>
 invS prog m "Err" (pA #[]) w fun n w=>
 bC .neq 28 20 0 n w fun o w=>
 cndS o (
 K n w) (
 ev prog (Op.unary .not j) w fun p w=>
 cndS p (
 K (.int .i64 11) w) (
 K (.int .i64 0) w))))
theorem f153_call (x0:Value) (K:K1) (w:World) (h:f153_t x0 K w):callS prog 153 #[x0] w K:=
 call_of_txt (args:= [x0]) mixed Tryz.func153 .o kR (cast kR h)
noncomputable def f157_u:Code×Dec:=((Tryz.f157.body).getD .skip,(.s .o (.s .o (.s .o (.x 16 (.s .o (.b (.l [4,14] 8194 17592186028540 .o))) .o)))))
abbrev f157_e (K:K1):KF:=endK prog Tryz.f157.results.toList K
def f157_k1_o (K:K1):KF:=fun fr w=>∀σ,cP (pr (pr (pr (pr f157_u)))) (f157_e K) (f157_e K) nX (mixF 16 σ 0 fr) w
def f157_k1 (K:K1) (x4:Value) (w:World):Prop:=f157_k1_o K (fz 45 0 [(4,x4)]) w
def f157_l1 (K:K1) (x1 x4 x13 x14:Value) (w:World):Prop:=loopT [4,14] 8194 (fun E=>cP (pl (pl (pr (pl (pr (pr (pr f157_u))))))) E (f157_e K) (exB 0 (f157_k1_o K) nX)) (fz 45 0 [(1,x1),(4,x4),(13,x13),(14,x14)]) w
def f157_k1_t (x4:Value) (K:K1) (w:World):Prop:=
 K (.tuple #[x4,(.bool true)]) w
theorem f157_k1_eq (K:K1) (x4:Value) (w:World):f157_k1 K x4 w=f157_k1_t x4 K w:=cutE fun σ=>by kernel_rfl
def f157_l1_t (x1 x4 x13 x14:Value) (K:K1) (E1:VP2) (w:World):Prop:=
 bT .lss 3 14 13 x14 x13 w fun a w=>
 cndS a (
 lD 134 x1 w fun b w=>
 cL 131 (pA #[b,x14]) w fun c w=>
 eX c 0 w fun d w=>
 eX c 1 w fun e w=>
 eX c 2 w fun f w=>
 ev prog (Instr.alloc 200 true (.tuple #[])) w fun g w=>
 sD 200 g d w fun w=>
 ev prog (Op.unary .not e) w fun h w=>
 gV h false f w fun i w=>
 pickS h (.bool true) i w fun j w=>
 gd j false (fun k=>fA 200 g 2 w k) w fun l w=>
 gd j false (fun k=>lD 5 l w k) w fun m w=>
 gd j false (fun k=>bU .neq 5 31 .u8 176 m w k) w fun n w=>
 pickS j (.bool true) n w fun o w=>
 gd o false (fun k=>fA 200 g 0 w k) w fun p w=>
 gd o false (fun k=>lD 130 p w k) w fun q w=>
 gd o false (fun k=>bU .eql 130 36 .u16 0 q w k) w fun s w=>
 pickS o (.bool true) s w fun t w=>
 cndS t (
 K (.tuple #[(.int .u16 ((0:Nat):Int)),(.bool false)]) w) (
 fA 200 g 0 w fun v w=>
 lD 130 v w fun y w=>
 bltS prog .max #[130,130] 130 #[false,false] #[x4,y] w fun z w=>
 bC .add 3 14 1 x14 w fun a0 w=>
 E1 z a0 w)) (
 f157_k1 K x4 w)
theorem f157_l1_rule (x1 x4 x13 x14:Value) (K:K1) (w:World) (I:VP2) (μ:Value→Value→World→Nat) (h0:I x4 x14 w)
  (hr:∀(x4 x14:Value) (w:World),I x4 x14 w→∀E1:VP2,(∀(y4 y14:Value) (w':World),I y4 y14 w'→μ y4 y14 w'<μ x4 x14 w→E1 y4 y14 w')→f157_l1_t x1 x4 x13 x14 K E1 w):f157_l1 K x1 x4 x13 x14 w:=
 ⟨I,μ,h0,fun σ w hI E hE=>cast kR (hr (σ 4) (σ 14) w hI E hE)⟩
def f157_t (x0:Value) (K:K1) (w:World):Prop:=
 ev prog (Instr.box 134 x0) w fun a w=>
 fA 134 a 0 w fun b w=>
 lD 106 b w fun c w=>
 bM .eql 106 (.tmp 10) (.const .nilIface) c .nilIface w fun d w=>
 cndS d (
 K (.tuple #[(.int .u16 ((0:Nat):Int)),(.bool false)]) w) (
 lD 134 a w fun e w=>
 cL 167 (pA #[e]) w fun f w=>
 f157_l1 K a (.int .u16 ((0:Nat):Int)) f (.int .i64 0) w)
theorem f157_call (x0:Value) (K:K1) (w:World) (h:f157_t x0 K w):callS prog 157 #[x0] w K:=
 call_of_txt (args:= [x0]) mixed Tryz.func157 f157_u.2 kR (cast kR h)
def f165_t (x0 x1:Value) (K:K1) (w:World):Prop:=
 ev prog (Instr.box 134 x0) w fun a w=>
 bC .geq 3 5 0 x1 w fun b w=>
 gV b true x1 w fun c w=>
 gd b true (fun k=>lD 134 a w k) w fun d w=>
 gC b true 167 (pA #[d]) w fun e w=>
 gd b true (fun k=>bT .lss 3 8 10 c e w k) w fun f w=>
 pickS b f (.bool false) w fun g w=>
 K g w
theorem f165_call (x0 x1:Value) (K:K1) (w:World) (h:f165_t x0 x1 K w):callS prog 165 #[x0,x1] w K:=
 call_of_txt (args:= [x0,x1]) mixed Tryz.func165 .o kR (cast kR h)
def f166_t (x0:Value) (K:K1) (w:World):Prop:=
 ev prog (Instr.box 134 x0) w fun a w=>
 fR 134 a 0 w.drew fun b=>
 lR 106 b w.drew fun c=>
 fR 134 a 1 w.drew fun d=>
 lR 3 d w.drew fun e=>
 nR c w.drew fun f=>
 cL 162 (pA #[e]) w.drew fun g w=>
 (fG 134 a 0 w b)∧
 (lG 106 b w c)∧
 (nilR prog c w (fun u=>u=f))∧
 rU .add 26 7 .u64 8 g w fun h=>
 invS prog c "Load" (pA #[h]) w fun i w=>
 K i w
theorem f166_call (x0:Value) (K:K1) (w:World) (h:f166_t x0 K w):callS prog 166 #[x0] w K:=
 call_of_txt (args:= [x0]) mixed Tryz.func166 .o kR (cast kR h)
def f167_t (x0:Value) (K:K1) (w:World):Prop:=
 ev prog (Instr.box 134 x0) w fun a w=>
 lD 134 a w fun b w=>
 cL 136 (pA #[b]) w fun c w=>
 cL 135 (pA #[c]) w fun d w=>
 K d w
theorem f167_call (x0:Value) (K:K1) (w:World) (h:f167_t x0 K w):callS prog 167 #[x0] w K:=
 call_of_txt (args:= [x0]) mixed Tryz.func167 .o kR (cast kR h)
def f170_t (x0 x1:Value) (K:K1) (w:World):Prop:=
 ev prog (Instr.box 134 x0) w fun a w=>
 fA 134 a 2 w fun b w=>
 fA 132 b 0 w fun c w=>
 lD 3 c w fun d w=>
 cL 161 (pA #[d,x1]) w fun e w=>
 eX e 0 w fun f w=>
 eX e 1 w fun g w=>
 fA 134 a 1 w fun h w=>
 lD 3 h w fun i w=>
 cL 162 (pA #[i]) w fun j w=>
 cV 3 26 f w fun l w=>
 bU .mul 26 19 .u64 8 l w fun m w=>
 bT .add 26 17 20 j m w fun n w=>
 K n w
theorem f170_call (x0 x1:Value) (K:K1) (w:World) (h:f170_t x0 x1 K w):callS prog 170 #[x0,x1] w K:=
 call_of_txt (args:= [x0,x1]) mixed Tryz.func170 .o kR (cast kR h)
def f177_t (x0 x1 x2:Value) (K:K1) (w:World):Prop:=
 ev prog (Instr.box 134 x0) w fun a w=>
 lD 134 a w fun b w=>
 cL 165 (pA #[b,x1]) w fun c w=>
 ev prog (Op.unary .not c) w fun d w=>
 cndS d (
 K (.bool false) w) (
 lD 134 a w fun e w=>
 cL 131 (pA #[e,x1]) w fun f w=>
 eX f 0 w fun g w=>
 eX f 1 w fun h w=>
 eX f 2 w fun i w=>
 ev prog (Instr.alloc 200 true (.tuple #[])) w fun j w=>
 sD 200 j g w fun w=>
 gV h true i w fun l w=>
 pickS h l (.bool false) w fun m w=>
 gd m true (fun k=>fA 200 j 2 w k) w fun n w=>
 gd m true (fun k=>lD 5 n w k) w fun o w=>
 gV m true x2 w fun p w=>
 gd m true (fun k=>bT .eql 5 27 28 o p w k) w fun q w=>
 pickS m q (.bool false) w fun s w=>
 K s w)
theorem f177_call (x0 x1 x2:Value) (K:K1) (w:World) (h:f177_t x0 x1 x2 K w):callS prog 177 #[x0,x1,x2] w K:=
 call_of_txt (args:= [x0,x1,x2]) mixed Tryz.func177 .o kR (cast kR h)
noncomputable def f182_u:Code×Dec:=((Tryz.f182.body).getD .skip,(.s .o (.s .o (.s .o (.s .o (.x 2 (.s .o (.b (.l [6] 10 4502500115742788 .o))) (.s .o (.x 130 (.s .o (.b (.l [7,56] 36028797018963970 154742504838614940324464516 (.s .o (.s .o (.x 108086391056892034 (.b (.s .o (.x 108086391056893826 .o .o))) .o)))))) .o))))))))
abbrev f182_e (K:K1):KF:=endK prog Tryz.f182.results.toList K
def f182_k1_o (K:K1):KF:=fun fr w=>∀σ,cP (pr (pr (pr (pr (pr f182_u))))) (f182_e K) (f182_e K) nX (mixF 2 σ 0 fr) w
def f182_k1 (K:K1) (x1:Value) (w:World):Prop:=f182_k1_o K (fz 91 0 [(1,x1)]) w
def f182_l1 (K:K1) (x1 x3 x6:Value) (w:World):Prop:=loopT [6] 10 (fun E=>cP (pl (pl (pr (pl (pr (pr (pr (pr f182_u)))))))) E (f182_e K) (exB 0 (f182_k1_o K) nX)) (fz 91 0 [(1,x1),(3,x3),(6,x6)]) w
def f182_k2_o (K:K1):KF:=fun fr w=>∀σ,cP (pr (pr (pr (pr (pr (pr (pr f182_u))))))) (f182_e K) (f182_e K) nX (mixF 130 σ 0 fr) w
def f182_k2 (K:K1) (x1 x7:Value) (w:World):Prop:=f182_k2_o K (fz 91 0 [(1,x1),(7,x7)]) w
def f182_l2 (K:K1) (x1 x7 x55 x56:Value) (w:World):Prop:=loopT [7,56] 36028797018963970 (fun E=>cP (pl (pl (pr (pl (pr (pr (pr (pr (pr (pr f182_u)))))))))) E (f182_e K) (exB 2 (f182_k2_o K) nX)) (fz 91 0 [(1,x1),(7,x7),(55,x55),(56,x56)]) w
def f182_k3_o (K:K1) (E1:VP2):KF:=fun fr w=>∀σ,cP (pr (pr (pr (pl (pl (pr (pl (pr (pr (pr (pr (pr (pr f182_u))))))))))))) (fun fr w=>E1 (sv fr 7) (sv fr 56) w) (f182_e K) (exB 2 (f182_k2_o K) nX) (mixF 108086391056892034 σ 0 fr) w
def f182_k3 (K:K1) (E1:VP2) (x1 x7 x55 x56:Value) (w:World):Prop:=f182_k3_o K E1 (fz 91 0 [(1,x1),(7,x7),(55,x55),(56,x56)]) w
def f182_k4_o (K:K1) (E1:VP2):KF:=fun fr w=>∀σ,cP (pr (pr (pl (pl (pr (pr (pl (pl (pr (pl (pr (pr (pr (pr (pr (pr f182_u)))))))))))))))) (f182_k3_o K E1) (f182_e K) (exB 3 (f182_k3_o K E1) (exB 2 (f182_k2_o K) nX)) (mixF 108086391056893826 σ 0 fr) w
def f182_k4 (K:K1) (E1:VP2) (x1 x7 x8 x9 x10 x55 x56:Value) (w:World):Prop:=f182_k4_o K E1 (fz 91 0 [(1,x1),(7,x7),(8,x8),(9,x9),(10,x10),(55,x55),(56,x56)]) w
def f182_k1_t (x1:Value) (K:K1) (w:World):Prop:=
 fA 134 x1 2 w fun a w=>
 fA 132 a 0 w fun b w=>
 lD 3 b w fun c w=>
 cL 135 (pA #[c]) w fun d w=>
 f182_l2 K x1 (.int .u64 ((0:Nat):Int)) d (.int .i64 0) w
theorem f182_k1_eq (K:K1) (x1:Value) (w:World):f182_k1 K x1 w=f182_k1_t x1 K w:=cutE fun σ=>by kernel_rfl
def f182_l1_t (x1 x3 x6:Value) (K:K1) (E1:VP1) (w:World):Prop:=
 bU .lss 26 40 .u64 8 x6 w fun a w=>
 cndS a (
 fA 134 x1 0 w fun b w=>
 lD 106 b w fun c w=>
 bU .mul 26 47 .u64 8 x6 w fun d w=>
 bT .add 26 46 48 x3 d w fun e w=>
 invS prog c "Load" (pA #[e]) w fun f w=>
 bU .neq 26 50 .u64 0 f w fun g w=>
 cndS g (
 K (.bool false) w) (
 bU .add 26 42 .u64 1 x6 w fun h w=>
 E1 h w)) (
 f182_k1 K x1 w)
theorem f182_l1_rule (x1 x3 x6:Value) (K:K1) (w:World) (I:VP1) (μ:Value→World→Nat) (h0:I x6 w)
  (hr:∀(x6:Value) (w:World),I x6 w→∀E1:VP1,(∀(y6:Value) (w':World),I y6 w'→μ y6 w'<μ x6 w→E1 y6 w')→f182_l1_t x1 x3 x6 K E1 w):f182_l1 K x1 x3 x6 w:=
 ⟨I,μ,h0,fun σ w hI E hE=>cast kR (hr (σ 6) w hI E hE)⟩
def f182_k2_t (x1 x7:Value) (K:K1) (w:World):Prop:=
 lD 134 x1 w fun a w=>
 cL 166 (pA #[a]) w fun b w=>
 bT .eql 26 88 89 b x7 w fun c w=>
 K c w
theorem f182_k2_eq (K:K1) (x1 x7:Value) (w:World):f182_k2 K x1 x7 w=f182_k2_t x1 x7 K w:=cutE fun σ=>by kernel_rfl
def f182_l2_t (x1 x7 x55 x56:Value) (K:K1) (E1:VP2) (w:World):Prop:=
 bT .lss 3 56 55 x56 x55 w fun a w=>
 cndS a (
 fR 134 x1 0 w.drew fun b=>
 lR 106 b w.drew fun c=>
 lR 134 x1 w.drew fun d=>
 nR c w.drew fun e=>
 (cL 170 (pA #[d,x56]) w.drew fun f w=>
 (fG 134 x1 0 w b)∧
 (lG 106 b w c)∧
 (nilR prog c w (fun u=>u=e))∧
 (invS prog c "Load" (pA #[f]) w fun g w=>
 (cL 176 (pA #[g]) w fun h w=>
 xR h 0 w fun i=>
 xR h 1 w fun j=>
 ev prog (Instr.alloc 200 true (.tuple #[])) w fun l w=>
 (fG 134 x1 0 w b)∧
 (lG 106 b w c)∧
 (lG 134 x1 w d)∧
 (nilR prog c w (fun u=>u=e))∧
 sD 200 l i w fun w=>
 f182_k4 K E1 x1 x7 x56 l j x55 x56 w)∧
 (ev prog (Instr.alloc 200 true (.tuple #[])) w fun m w=>
 (fG 134 x1 0 w b)∧
 (lG 106 b w c)∧
 (lG 134 x1 w d)∧
 (nilR prog c w (fun u=>u=e))∧
 cL 176 (pA #[g]) w fun n w=>
 xR n 0 w fun o=>
 xR n 1 w fun p=>
 sD 200 m o w fun w=>
 f182_k4 K E1 x1 x7 x56 m p x55 x56 w))∧
 (ev prog (Instr.alloc 200 true (.tuple #[])) w fun q w=>
 (fG 134 x1 0 w b)∧
 (lG 106 b w c)∧
 (lG 134 x1 w d)∧
 (nilR prog c w (fun u=>u=e))∧
 invS prog c "Load" (pA #[f]) w fun s w=>
 cL 176 (pA #[s]) w fun t w=>
 xR t 0 w fun v=>
 xR t 1 w fun y=>
 sD 200 q v w fun w=>
 f182_k4 K E1 x1 x7 x56 q y x55 x56 w))∧
 (ev prog (Instr.alloc 200 true (.tuple #[])) w.drew fun z w=>
 (fG 134 x1 0 w b)∧
 (lG 106 b w c)∧
 (lG 134 x1 w d)∧
 (nilR prog c w (fun u=>u=e))∧
 cL 170 (pA #[d,x56]) w fun a0 w=>
 (fG 134 x1 0 w b)∧
 (lG 106 b w c)∧
 (nilR prog c w (fun u=>u=e))∧
 invS prog c "Load" (pA #[a0]) w fun a1 w=>
 cL 176 (pA #[a1]) w fun a2 w=>
 xR a2 0 w fun a3=>
 xR a2 1 w fun a4=>
 sD 200 z a3 w fun w=>
 f182_k4 K E1 x1 x7 x56 z a4 x55 x56 w)) (
 f182_k2 K x1 x7 w)
theorem f182_l2_rule (x1 x7 x55 x56:Value) (K:K1) (w:World) (I:VP2) (μ:Value→Value→World→Nat) (h0:I x7 x56 w)
  (hr:∀(x7 x56:Value) (w:World),I x7 x56 w→∀E1:VP2,(∀(y7 y56:Value) (w':World),I y7 y56 w'→μ y7 y56 w'<μ x7 x56 w→E1 y7 y56 w')→f182_l2_t x1 x7 x55 x56 K E1 w):f182_l2 K x1 x7 x55 x56 w:=
 ⟨I,μ,h0,fun σ w hI E hE=>cast kR (hr (σ 7) (σ 56) w hI E hE)⟩
def f182_k3_t (x1 x7 x55 x56:Value) (K:K1) (E1:VP2) (w:World):Prop:=
 bC .add 3 56 1 x56 w fun a w=>
 E1 x7 a w
theorem f182_k3_eq (K:K1) (E1:VP2) (x1 x7 x55 x56:Value) (w:World):f182_k3 K E1 x1 x7 x55 x56 w=f182_k3_t x1 x7 x55 x56 K E1 w:=cutE fun σ=>by kernel_rfl
def f182_k4_t (x1 x7 x8 x9 x10 x55 x56:Value) (K:K1) (E1:VP2) (w:World):Prop:=
 ev prog (Op.unary .not x10) w fun a w=>
 gd a false (fun k=>lD 200 x9 w k) w fun b w=>
 gC a false 168 (pA #[b]) w fun c w=>
 gd a false (fun k=>ev prog (Op.unary .not c) w k) w fun d w=>
 pickS a (.bool true) d w fun e w=>
 cndS e (
 K (.bool false) w) (
 fA 200 x9 2 w fun f w=>
 lD 5 f w fun g w=>
 bU .neq 5 79 .u8 176 g w fun h w=>
 cndS h (
 cV 3 129 x8 w fun i w=>
 bM .shl 26 (cu .u64 1) (.tmp 83) (.int .u64 ((1:Nat):Int)) i w fun j w=>
 bT .or 26 81 84 x7 j w fun l w=>
 f182_k3 K E1 x1 l x55 x56 w) (
 f182_k3 K E1 x1 x7 x55 x56 w))
theorem f182_k4_eq (K:K1) (E1:VP2) (x1 x7 x8 x9 x10 x55 x56:Value) (w:World):f182_k4 K E1 x1 x7 x8 x9 x10 x55 x56 w=f182_k4_t x1 x7 x8 x9 x10 x55 x56 K E1 w:=cutE fun σ=>by kernel_rfl
def f182_t (x0:Value) (K:K1) (w:World):Prop:=
 ev prog (Instr.box 134 x0) w fun a w=>
 fA 134 a 1 w fun b w=>
 lD 3 b w fun c w=>
 cL 162 (pA #[c]) w fun d w=>
 fA 134 a 0 w fun e w=>
 lD 106 e w fun f w=>
 invS prog f "Load" (pA #[d]) w fun g w=>
 cL 175 (pA #[g]) w fun h w=>
 eX h 0 w fun i w=>
 eX h 1 w fun j w=>
 ev prog (Instr.alloc 132 true (.tuple #[])) w fun l w=>
 sD 132 l i w fun w=>
 ev prog (Op.unary .not j) w fun m w=>
 gd m false (fun k=>fA 132 l 0 w k) w fun n w=>
 gd m false (fun k=>lD 3 n w k) w fun o w=>
 gd m false (fun k=>fA 134 a 2 w k) w fun p w=>
 gd m false (fun k=>fA 132 p 0 w k) w fun q w=>
 gd m false (fun k=>lD 3 q w k) w fun s w=>
 gd m false (fun k=>bT .neq 3 26 29 o s w k) w fun t w=>
 pickS m (.bool true) t w fun v w=>
 gd v false (fun k=>fA 132 l 1 w k) w fun y w=>
 gd v false (fun k=>lD 3 y w k) w fun z w=>
 gd v false (fun k=>fA 134 a 2 w k) w fun a0 w=>
 gd v false (fun k=>fA 132 a0 1 w k) w fun a1 w=>
 gd v false (fun k=>lD 3 a1 w k) w fun a2 w=>
 gd v false (fun k=>bT .neq 3 34 37 z a2 w k) w fun a3 w=>
 pickS v (.bool true) a3 w fun a4 w=>
 cndS a4 (
 K (.bool false) w) (
 f182_l1 K a d (.int .u64 ((2:Nat):Int)) w)
theorem f182_call (x0:Value) (K:K1) (w:World) (h:f182_t x0 K w):callS prog 182 #[x0] w K:=
 call_of_txt (args:= [x0]) mixed Tryz.func182 f182_u.2 kR (cast kR h)
section
variable {w w':World}
def clrI (l g:Nat):List Ins:=storesI [(l*64,sealN (hdX (-1) (-1) g))]
theorem storesI_pos (ws:List (Nat×Nat)):0<(storesI ws).length:=by simp [storesI];omega
theorem k_Clear (hG:Glob w) (l g:Nat) (hl:l≤4064) (hg:g≠0) (hg':g<65536) (K:K1) (hK:∀v' w',SlO w' 220 3 v' (clrI l g).length (inL (clrI l g))→Ext w w'→NewV w.heap.size v'→K (.tuple #[v',.int .i64 0]) w'):
  callS prog 155 #[.int .i64 (l:Int),.int .u16 (g:Int)] w K:=by
 refine f155_call _ _ _ _ ?_
 unfold f155_t
 have hw:∀(w1:World) (K:K1),Ext w w1→callS prog 163 #[.agg #[.int .i64 (-1),.int .i64 (-1),.int .u16 (g:Int)]] w1 K=K (.int .u64 ((sealN (hdX (-1) (-1) g):Nat):Int)) ((w1.alloc (hdO (-1) (-1) g)).alloc (sealO (hdX (-1) (-1) g))):=fun w1 K he=>c_hword (-1) (-1) g w1 K (hG.ext he) hg' oM oM oM oM
 (repeat' (first|(with_reducible first|refine brS_mk (fun _=> ?_) (fun _=> ?_)|refine And.intro ?_ ?_)|(simp (disch:=try exact dX) only [↓RBp,↓RA,↓reduceIte,Nat.reduceAdd,Nat.reduceMul,Nat.reduceEqDiff,RB,RX,RA2,c_possible,c_line,hw,Int.toNat_natCast])))
 refine k_Stores [(l*64,sealN (hdX (-1) (-1) g))] _ ?_ (by simp) (by simp) ?_ _ (fun v' w' hs he hn=> ?_)
 ·exact (SlO.lit' _ 98 2 1 (wrL [(l*64,sealN (hdX (-1) (-1) g))]) rfl (by decide) (by simp only [RZ])).ext (Ext.refl _).drew
 ·intro x hx;simp only [List.mem_singleton] at hx;subst hx;simp only;omega
 ·refine hK v' w' hs (Ext.trans xZ he) (fun b hb=>Nat.le_trans ?_ (hn b hb))
  simp only [RZ];omega
def planW (l:Nat) (c:Int) (g:Nat):List (Nat×Nat):=(List.range (perS c).toNat).map (fun (i:Nat)=>(l*64+(offS c (i:Int)).toNat*8,sealN (blkX g 0 176)))++(List.range 7).map (fun k=>(l*64+(k+1)*8,0))
def planI (l:Nat) (c o:Int) (g:Nat):List Ins:=storesI (planW l c g)++storesI [(l*64,sealN (hdX c o g))]
theorem planW_len (l:Nat) (c:Int) (g:Nat):(planW l c g).length=(perS c).toNat+7:=by simp [planW]
theorem k_Plan (hG:Glob w) (l:Nat) (c o:Int) (g:Nat) (hl:l≤4064) (hc0:0≤c) (hc:c<5) (ho0:0≤o) (ho:o<8) (hg:g≠0) (hg':g<65536) (K:K1) (hK:∀v' w',SlO w' 220 3 v' (planI l c o g).length (inL (planI l c o g))→Ext w w'→NewV w.heap.size v'→K (.tuple #[v',.int .i64 0]) w'):
  callS prog 118 #[.int .i64 (l:Int),.agg #[.int .i64 c,.int .i64 o,.int .u16 (g:Int)]] w K:=by
 refine f118_call _ _ _ _ ?_
 unfold f118_t
 have hp:=perS_in hc0 hc
 have hwd:=wordsS_in hc0 hc
 have hf:∀(w1:World) (K:K1),Ext w w1→callS prog 159 #[.agg #[.int .i64 c,.int .i64 o,.int .u16 (g:Int)]] w1 K=K (.bool true) (w1.alloc (hdO c o g)):=fun w1 K he=>by
  rw [c_formatted c o g w1 K (hG.ext he)]
  have:fmtB c o=true:=by simp [fmtB];omega
  rw [this]
 have hb:∀(w1:World) (K:K1),Ext w w1→callS prog 160 #[.agg #[.int .u16 (g:Int),.int .u8 ((0:Nat):Int),.int .u8 ((176:Nat):Int)]] w1 K=K (.int .u64 ((sealN (blkX g 0 176):Nat):Int)) ((w1.alloc (blkO g 0 176)).alloc (sealO (blkX g 0 176))):=fun w1 K he=>c_bword g 0 176 w1 K (hG.ext he) hg' oM oM
 have hpc:∀(w1:World) (K:K1),Ext w w1→callS prog 135 #[.int .i64 c] w1 K=K (.int .i64 (perS c)) w1:=fun w1 K he=>c_PerChunk c w1 K (hG.ext he)
 have hw:∀(w1:World) (K:K1),Ext w w1→callS prog 163 #[.agg #[.int .i64 c,.int .i64 o,.int .u16 (g:Int)]] w1 K=K (.int .u64 ((sealN (hdX c o g):Nat):Int)) ((w1.alloc (hdO c o g)).alloc (sealO (hdX c o g))):=fun w1 K he=>c_hword c o g w1 K (hG.ext he) hg' oM oM oM oM
 have hof:∀(i:Nat) (w1:World) (K:K1),Ext w w1→i<(perS c).toNat→callS prog 161 #[.int .i64 c,.int .i64 (i:Int)] w1 K=K (.tuple #[.int .i64 (((offS c (i:Int)).toNat:Nat):Int),.int .i64 0]) w1:=fun i w1 K he hi=>by
  have hb:=offS_bd hc0 hc (show 0≤(i:Int) by omega) oM
  rw [c_Offset c i w1 K (hG.ext he) hc0 hc oM oM,show (((offS c (i:Int)).toNat:Nat):Int)=offS c i by omega]
 (repeat' (first|(with_reducible first|refine brS_mk (fun _=> ?_) (fun _=> ?_)|refine And.intro ?_ ?_)|(simp (disch:=try exact dX) only [↓RBp,↓RA,↓reduceIte,Nat.reduceAdd,Nat.reduceMul,Nat.reduceEqDiff,RB,RX,RA2,c_possible,c_line,hf,hb,hpc,Int.toNat_natCast])))
 have e1:Ext w (w.alloc (.cells #[.int .i64 c,.int .i64 o,.int .u16 (g:Int)] 132)):=Ext.alloc_self _ _
 have hcell:∀w',Ext (w.alloc (.cells #[.int .i64 c,.int .i64 o,.int .u16 (g:Int)] 132)) w'→w'.cell? ⟨w.heap.size,0,none⟩=some (.int .i64 c)∧w'.cell? ⟨w.heap.size,1,none⟩=some (.int .i64 o)∧w'.cell? ⟨w.heap.size,2,none⟩=some (.int .u16 (g:Int)):=by
  intro w' he
  have:∀i,w'.cell? ⟨w.heap.size,i,none⟩=_:=fun i=>he.cell _ i (by simp only [RZ];omega)
  refine ⟨?_,?_,?_⟩<;>(rw [this,cell_new _ _ _ _ _ rfl];rfl)
 generalize hw1:w.alloc (.cells #[.int .i64 c,.int .i64 o,.int .u16 (g:Int)] 132)=w1 at*
 have s1:w.heap.size<w1.heap.size:=by rw [←hw1];simp only [RZ];omega
 generalize hA:(List.range (perS c).toNat).map (fun (i:Nat)=>(l*64+(offS c (i:Int)).toNat*8,sealN (blkX g 0 176)))=A
 have hAl:A.length=(perS c).toNat:=by rw [←hA];simp
 generalize hB:(List.range 7).map (fun k=>(l*64+(k+1)*8,0))=B
 have hBl:B.length=7:=by rw [←hB];simp
 have hAB:planW l c g=A++B:=by unfold planW;rw [hA,hB]
 have hper:perS c=(((perS c).toNat:Nat):Int):=by omega
 generalize hn:(perS c).toNat=n at*
 rw [hper]
 apply f118_l1_rule (I:=fun x z w'=>∃i:Nat,z= .int .i64 (i:Int)∧i≤n∧SlO w' 98 2 x i (wrL (A.take i))∧Frm Nob w1 w'∧NewV w1.heap.size x) (μ:=fun _ z _=>n-(intOf z).toNat)
 ·exact ⟨0,rfl,by omega,SlO.nil _ _ _,Frm.of_ext xZ,fun b hb=>by cases hb⟩
 ·intros;rename_i w2 hI E1 hE
  obtain ⟨i,rfl,hi,sp,f2,n2⟩:=hI
  have e2:Ext w1 w2:=f2.to_ext (fun _ _ h=>h)
  have e02:Ext w w2:=e1.trans e2
  obtain ⟨q0,q1,q2⟩:=hcell w2 e2
  obtain ⟨pa,pc,rfl,hpc2⟩:=sp.isS'
  have lt2:w.heap.size<w2.heap.size:=Nat.lt_of_lt_of_le s1 e2.size
  unfold f118_l1_t
  by_cases hin:i<n
  ·have hb2:=offS_bd hc0 hc (show 0≤(i:Int) by omega) oM
   generalize ho2:(offS c (i:Int)).toNat=oi at*
   have hA2:A[i]? =some (l*64+oi*8,sealN (blkX g 0 176)):=by rw [←hA];simp [hin,ho2]
   have hof2:∀(w1:World) (K:K1),Ext w w1→callS prog 161 #[.int .i64 c,.int .i64 (i:Int)] w1 K=K (.tuple #[.int .i64 (oi:Int),.int .i64 0]) w1:=fun w1 K he=>by rw [hof i w1 K he hin,ho2]
   simp (disch:=try exact dX) only [↓RBp,↓RA,↓reduceIte,Nat.reduceAdd,Nat.reduceMul,Nat.reduceEqDiff,RB,RX,RA2,q0,q1,q2,hof2,c_line,Int.toNat_natCast]
   refine app_new elWrite (w0:=w1) (sp.ext xZ) (f2.ext xZ) n2 (m:=1) (news:=wrL [(l*64+oi*8,sealN (blkX g 0 176))]) (by simp [wrL]) ?_ rfl oM oM oM (fun v' w3 hsp hf3 n3 _ _=> ?_)
   ·intro j u hj
    rw [Nat.zero_add,cell_new _ _ _ _ _ (by simp only [RZ])]
    simpa [wrL,u64] using hj
   simp (disch:=try exact dZ) only [↓RBp,↓RA,↓reduceIte,Nat.reduceAdd,Nat.reduceMul,Nat.reduceEqDiff,RB,RX,RA2]
   apply hE
   ·refine ⟨i+1,by simp,by omega,?_,hf3,n3⟩
    rw [take_snoc' hA2,wrL_append];exact hsp
   ·simp [intOf];omega
  ·have:i=n:=by omega
   subst this
   have hAt:A.take i=A:=by rw [←hAl,List.take_length]
   rw [hAt] at sp
   simp (disch:=try exact dZ) only [↓RBp,↓RA,↓reduceIte,Nat.reduceAdd,Nat.reduceMul,Nat.reduceEqDiff,RB,RX,RA2,f118_k1_eq,f118_k1_t]
   apply f118_l2_rule (I:=fun x z w'=>∃k:Nat,z= .int .u64 ((k+1:Nat):Int)∧k≤7∧SlO w' 98 2 x (i+k) (wrL (A++B.take k))∧Frm Nob w1 w'∧NewV w1.heap.size x) (μ:=fun _ z _=>8-(intOf z).toNat)
   ·exact ⟨0,rfl,by omega,by simpa using sp,f2,n2⟩
   ·intros;rename_i w3 hI3 E3 hE3
    obtain ⟨k,rfl,hk,sp3,f3,n3⟩:=hI3
    have e3:Ext w1 w3:=f3.to_ext (fun _ _ h=>h)
    have e03:Ext w w3:=e1.trans e3
    obtain ⟨q0,q1,q2⟩:=hcell w3 e3
    obtain ⟨pa3,pc3,rfl,hpc3⟩:=sp3.isS'
    have lt3:w.heap.size<w3.heap.size:=Nat.lt_of_lt_of_le s1 e3.size
    unfold f118_l2_t
    by_cases hk7:k<7
    ·have hB2:B[k]? =some (l*64+(k+1)*8,0):=by rw [←hB];simp [hk7]
     simp (disch:=try exact dX) only [↓RBp,↓RA,↓reduceIte,Nat.reduceAdd,Nat.reduceMul,Nat.reduceEqDiff,RB,RX,RA2,c_line,Int.toNat_natCast]
     refine app_new elWrite (w0:=w1) (sp3.ext xZ) (f3.ext xZ) n3 (m:=1) (news:=wrL [(l*64+(k+1)*8,0)]) (by simp [wrL]) ?_ rfl oM oM oM (fun v' w4 hsp hf4 n4 _ _=> ?_)
     ·intro j u hj
      rw [Nat.zero_add,cell_new _ _ _ _ _ (by simp only [RZ])]
      simpa [wrL,u64] using hj
     simp (disch:=try exact dZ) only [↓RBp,↓RA,↓reduceIte,Nat.reduceAdd,Nat.reduceMul,Nat.reduceEqDiff,RB,RX,RA2]
     apply hE3
     ·refine ⟨k+1,by simp,by omega,?_,hf4,n4⟩
      rw [take_snoc' hB2,←List.append_assoc,wrL_append];exact hsp
     ·simp [intOf];omega
    ·have:k=7:=by omega
     subst this
     have hBt:B.take 7=B:=by rw [←hBl,List.take_length]
     rw [hBt,←hAB] at sp3
     have hpl:i+7=(planW l c g).length:=by rw [hAB];simp [hAl,hBl]
     rw [hpl] at sp3
     (repeat' (first|(with_reducible first|refine brS_mk (fun _=> ?_) (fun _=> ?_)|refine And.intro ?_ ?_)|(simp (disch:=try exact dX) only [↓RBp,↓RA,↓reduceIte,Nat.reduceAdd,Nat.reduceMul,Nat.reduceEqDiff,RB,RX,RA2,q0,q1,q2,hw,c_line,Int.toNat_natCast,f118_k2_eq,f118_k2_t])))
     refine k_Stores [(l*64,sealN (hdX c o g))] _ ?_ (by simp) (by simp) ?_ _ (fun v4 w4 s4 e4 n4=> ?_)
     ·exact (SlO.lit' _ 98 2 1 (wrL [(l*64,sealN (hdX c o g))]) rfl (by decide) (by simp only [RZ])).ext (Ext.refl _).drew
     ·intro x hx;simp only [List.mem_singleton] at hx;subst hx;simp only;omega
     have e34:Ext w3 w4:=Ext.trans xZ e4
     try simp (disch:=try exact dZ) only [↓RBp,↓RA,↓reduceIte,Nat.reduceAdd,Nat.reduceMul,Nat.reduceEqDiff,RB,RX,RA2]
     rw [hpl]
     refine k_Stores (planW l c g) _ (sp3.ext e34) oM oM ?_ _ (fun v5 w5 s5 e5 n5=> ?_)
     ·rw [hAB]
      intro x hx
      rcases List.mem_append.1 hx with hx|hx
      ·rw [←hA] at hx
       obtain ⟨j,hj,rfl⟩:=List.mem_map.1 hx
       have hb2:=offS_bd hc0 hc (show 0≤(j:Int) by omega) (by rw [List.mem_range] at hj;omega)
       simp only;omega
      ·rw [←hB] at hx
       obtain ⟨j,hj,rfl⟩:=List.mem_map.1 hx
       rw [List.mem_range] at hj
       simp only;omega
     try simp (disch:=try exact dZ) only [↓RBp,↓RA,↓reduceIte,Nat.reduceAdd,Nat.reduceMul,Nat.reduceEqDiff,RB,RX,RA2]
     have l1:=storesI_le (planW l c g)
     have l2:=storesI_le [(l*64,sealN (hdX c o g))]
     simp only [List.length_singleton] at l2
     refine k_Then _ _ v5 v4 s5 (s4.ext e5) (storesI_pos _) (storesI_pos _) oM oM _ (fun v6 w6 s6 e6 n6=> ?_)
     have e06:Ext w w6:=((e03.trans e34).trans e5).trans e6
     refine hK v6 w6 s6 e06 (fun b hb=>Nat.le_trans ?_ (n6 b hb))
     exact ((e03.trans e34).trans e5).size
end
def u64L (l:List Nat):List Value:=l.map u64
section
variable {w w':World} {Y:Lay} {D D':DS}
theorem allOne_map_u64 (l:List Nat):allOne (l.map u64)=true:=by
 induction l with
 |nil=>rfl
 |cons a l ih=>simp [allOne,isOne,ih]
theorem k_Clone64 (l:List Nat) (b o cap:Nat) (hx:∀j u,(l.map u64)[j]? =some u→w.cell? ⟨b,o+j,none⟩=some u) (hb:b<w.heap.size) (h0:0<l.length) (hl:l.length<1099511627776) (K:K1)
  (hK:∀b' c' w',Ext w w'→Cells w' b' 26 l.length (fun i=>u64 (l.getD i 0))→w.heap.size≤b'→l.length≤c'→K (.slice (some ⟨b',0,none⟩) l.length c') w'):callS prog 148 #[.slice (some ⟨b,o,none⟩) l.length cap] w K:=by
 refine f148_call _ _ _ ?_
 unfold f148_t
 simp (disch:=try exact dZ) only [↓RBp,↓RA,↓reduceIte,Nat.reduceAdd,Nat.reduceMul,Nat.reduceEqDiff,RB,RX,RA2]
 refine blt_append el_58_58 (SlO.lit0 w 26 1) (news:=l.map u64) (by simp) ?_ (allOne_map_u64 l) h0 oM oM (fun v' w' hv hf hn ho=> ?_)
 ·intro j u hj
  rw [cell_old _ _ _ _ hb];exact hx j u hj
 ·have he:Ext w w':=Frm.to_ext (F:=fun b=>b=w.heap.size) (((Frm.of_ext (Ext.alloc_self w _)).trans hf (fun x _ e=>by injection e with e;exact e.symm))) (fun b hb=>by omega)
  have hv2:=hv.2
  rw [Nat.zero_add] at hv2
  rcases hv2 with ⟨_,e⟩|⟨b',o',c',a,rfl,hh,h1,h2,h3,h4⟩
  ·omega
  ·have ho':o'=0:=by rcases ho with h|h<;>simpa [sOff] using h
   subst ho'
   refine hK b' c' w' he ⟨a,hh,by omega,?_⟩ ?_ h1
   ·intro i hi
    have h6:=h4 i (u64 (l.getD i 0)) (by simp [List.getElem?_map,List.getElem?_eq_getElem hi,List.getD_eq_getElem?_getD])
    simpa using h6
   ·rcases hn b' rfl with h|h
    ·have h':w.heap.size=b':=by simpa [Value.ownBlock] using h
     omega
    ·rw [size_alloc] at h;omega
def DS.init (n:Nat) (l:List Nat):DS:={n:=n,cur:=fun i=>l.getD i 0,pers:=fun i=>l.getD i 0,done:=fun _=>0,hist:=fun _=> [],off:=false,armed:=false,left:=0,exe:=0,err:=fun _=>0,notes:=fun _ _=>none}
theorem Good.init (n:Nat) (l:List Nat) (h0:0<n) (hn:n≤4096) (hl:∀x∈l,x<18446744073709551616):Good (DS.init n l):=by
 have hg:∀i,l.getD i 0<18446744073709551616:=by
  intro i
  rw [List.getD_eq_getElem?_getD]
  cases h:l[i]? with
  |none=>simp
  |some x=>exact hl x (List.mem_of_getElem? h)
 exact ⟨h0,hn,fun i _=>hg i,fun i _=>hg i,fun l _ o v h=>by simp [DS.init] at h,fun l _=>Nat.le_refl _,⟨Int.le_refl _,by show (0:Int)<_;omega⟩,fun id _ k p h=>by simp [DS.init] at h⟩
def tagO:Option Obj→Nat
 |some (.cells _ t _)=>t
 |some (.map _ _)=>1000000
 |_=>2000000
def devC (b cb cc lb n:Nat):Array Value:= #[.slice (some ⟨b,0,none⟩) (8*n) (8*n),.slice (some ⟨cb,0,none⟩) (8*n) cc,.slice (some ⟨lb,0,none⟩) n n,.pointer none,.pointer none,.pointer none,.pointer none,.pointer none,.pointer none,.pointer none,.pointer none,.bool false,.bool false,.int .i64 0,.int .u64 ((0:Nat):Int)]
structure Prt (w0 w:World) (d b cb cc lb n:Nat) (tb nb:Nat→Nat) (i:Nat):Prop where
 dev:Cells w d 155 15 (fun j=>if 3≤j∧j<3+i then .pointer (some ⟨tb (j-3),0,none⟩) else (devC b cb cc lb n).getD j undef)
 th:∀j,j<i→Cells w (tb j) 147 4 (fun q=>if q=0 then .pointer (some ⟨d,0,none⟩) else if q=1 then .int .i64 (j:Int) else if q=2 then .int .i64 0 else .map (some (nb j)))
 nt:∀j,j<i→w.heap[nb j]? =some (.map #[] 0)
 lo:∀j,j<i→d<tb j∧d<nb j
 inj:∀j q,j<i→q<i→(tb j=tb q∨nb j=nb q)→j=q
 ext:Frm (fun x=>x=d) w0 w
theorem k_of1 (l:List Nat) (n b cb cc lb d:Nat) (w w1:World) (hd:d=w1.heap.size) (h0:0<n) (hn:n≤4096) (hl:l.length=8*n) (hb:Cells w b 26 (8*n) (fun i=>u64 (l.getD i 0))) (he:Ext w w1) (hcb:Cells w1 cb 26 (8*n) (fun i=>u64 (l.getD i 0))) (h1:w.heap.size≤cb) (hlb:Cells w1 lb 209 (2*n) (fun i=>(#[Value.int .u64 ((0:Nat):Int),.slice none 0 0])[i%2]!)) (h2:w.heap.size≤lb) (K:K1)
  (hK:∀w' Y,Ext w w'→Dv w' Y (DS.init n l)→(∀x,Y.F x→x=b∨w.heap.size≤x)→(Y.dt=Y.tb∧∀i,Y.ids i=i)→K (.pointer (some ⟨Y.d,0,none⟩)) w'):f111_k1 K (.pointer (some ⟨d,0,none⟩)) (w1.alloc (.cells (devC b cb cc lb n) 155)):=by
 rw [f111_k1_eq]
 unfold f111_k1_t
 apply f111_l1_rule (I:=fun x w'=>∃(i:Nat) (tb nb:Nat→Nat),x= .int .i64 (i:Int)∧i≤8∧Prt (w1.alloc (.cells (devC b cb cc lb n) 155)) w' d b cb cc lb n tb nb i) (μ:=fun x _=>8-(intOf x).toNat)
 ·refine ⟨0,fun _=>0,fun _=>0,rfl,by omega,⟨?_,fun j hj=>by omega,fun j hj=>by omega,fun j hj=>by omega,fun j q hj=>by omega,Frm.refl _ _⟩⟩
  subst hd
  refine (Cells.new w1 (devC b cb cc lb n).toList 155).congr (fun j hj=> ?_)
  rw [if_neg oM];simp [List.getD_eq_getElem?_getD]
 ·intros;rename_i w2 hI E1 hE
  obtain ⟨i,tb,nb,rfl,hi,hp⟩:=hI
  unfold f111_l1_t
  by_cases hi8:i<8
  ·have c1:=hp.dev.cell (i:=3+i) oM
   have z1:=hp.dev.frz
   have lt:=hp.dev.lt
   simp (disch:=try exact dZ) only [↓RBp,↓RA,↓reduceIte,Nat.reduceAdd,Nat.reduceMul,Nat.reduceEqDiff,RB,RX,RA2,c1,z1]
   have tl:∀j,j<i→tb j<w2.heap.size:=fun j hj=>(hp.th j hj).lt
   have nl:∀j,j<i→nb j<w2.heap.size:=fun j hj=>lt_of_heap (hp.nt j hj)
   apply hE
   ·refine ⟨i+1,fun j=>if j=i then w2.heap.size+1 else tb j,fun j=>if j=i then w2.heap.size else nb j,by simp,by omega,⟨?_,?_,?_,?_,?_,?_⟩⟩
    ·refine (((hp.dev.set _ (i:=3+i) oM).alloc _).alloc _).congr (fun j hj=> ?_)
     by_cases e:j=3+i
     ·subst e
      rw [if_pos rfl,if_pos oM,if_pos oM]
     ·rw [if_neg e]
      by_cases e2:3≤j∧j<3+i
      ·rw [if_pos e2,if_pos oM,if_neg oM]
      ·rw [if_neg e2,if_neg oM]
    ·intro j hj
     by_cases e:j=i
     ·subst e
      simp only [if_true]
      have hnew:=Cells.new ((w2.setCell ⟨d,3+j,none⟩ (.pointer (some ⟨w2.heap.size+1,0,none⟩))).alloc (.map #[] 0)) [.pointer (some ⟨d,0,none⟩),.int .i64 (j:Int),.int .i64 0,.map (some w2.heap.size)] 147
      rw [size_alloc,size_set] at hnew
      refine hnew.congr (fun q hq=> ?_)
      have hq':q=0∨q=1∨q=2∨q=3:=by simp at hq;omega
      rcases hq' with rfl|rfl|rfl|rfl<;>simp
     ·have hj':j<i:=by omega
      simp only [e,if_false]
      exact (((hp.th j hj').set_ne _ (by show tb j≠d;have:=(hp.lo j hj').1;omega)).alloc _).alloc _
    ·intro j hj
     by_cases e:j=i
     ·subst e
      simp only [if_true]
      rw [heap_alloc_lt _ (by rw [size_alloc,size_set];omega)]
      have:=heap_alloc_eq (w2.setCell ⟨d,3+j,none⟩ (.pointer (some ⟨w2.heap.size+1,0,none⟩))) (.map #[] 0)
      rw [size_set] at this;exact this
     ·have hj':j<i:=by omega
      simp only [e,if_false]
      rw [heap_alloc_lt _ (by rw [size_alloc,size_set];have:=nl j hj';omega),heap_alloc_lt _ (by rw [size_set];exact nl j hj'),heap_set_ne _ (by show nb j≠d;have:=(hp.lo j hj').2;omega)]
      exact hp.nt j hj'
    ·intro j hj
     by_cases e:j=i
     ·simp only [e,if_true];omega
     ·simp only [e,if_false];exact hp.lo j oM
    ·intro j q hj hq hh
     by_cases e:j=i
     ·by_cases e2:q=i
      ·omega
      ·have a1:=tl q oM
       have a2:=nl q oM
       simp only [e,e2,if_true,if_false] at hh;omega
     ·by_cases e2:q=i
      ·have a1:=tl j oM
       have a2:=nl j oM
       simp only [e,e2,if_true,if_false] at hh;omega
      ·simp only [e,e2,if_false] at hh;exact hp.inj j q oM oM hh
    ·exact ((hp.ext.set _ (fun _=>rfl)).alloc _).alloc _
   ·simp [intOf];omega
  ·have:i=8:=by omega
   subst this
   simp (disch:=try exact dZ) only [↓RBp,↓RA,↓reduceIte,Nat.reduceAdd,Nat.reduceMul,Nat.reduceEqDiff,RB,RX,RA2,f111_k2_eq,f111_k2_t]
   have ha:=Frm.of_ext (F:=fun x=>x=d) (Ext.alloc_self w1 (.cells (devC b cb cc lb n) 155))
   have hf:=ha.trans hp.ext (fun _ _ h=>h)
   have hE2:Ext w w2:=Frm.to_ext (F:=fun x=>x=d) ((Frm.of_ext he).trans hf (fun _ _ h=>h)) (fun x hx=>by have:=he.size;omega)
   have c1:=hb.ext hE2
   have c2:=hcb.frm hf (by have:=hcb.lt;omega)
   have c3:=hlb.frm hf (by have:=hlb.lt;omega)
   have lb1:=hb.lt
   have wle:=he.size
   refine hK w2 {n:=n,d:=d,pb:=b,cb:=cb,pc:=8*n,cc:=cc,lb:=lb,tb:=tb,nb:=nb,dt:=tb,ids:=fun i=>i,hv:=fun _=> .slice none 0 0} hE2 ⟨rfl,?_,c1,c2,?_,?_,?_,?_,?_⟩ ?_ ⟨rfl,fun _=>rfl⟩
   ·refine hp.dev.congr (fun j hj=> ?_)
    by_cases e:3≤j∧j<11
    ·rw [if_pos oM];unfold devF;rw [if_neg oM,if_neg oM,if_neg oM,if_pos oM]
    ·rw [if_neg oM]
     have hj':j=0∨j=1∨j=2∨j=11∨j=12∨j=13∨j=14:=by omega
     rcases hj' with rfl|rfl|rfl|rfl|rfl|rfl|rfl<;>rfl
   ·refine c3.congr (fun j hj=> ?_)
    have hj':j%2=0∨j%2=1:=by omega
    rcases hj' with e|e<;>simp [linF,DS.init,e]
   ·intro q hq;exact SlO.nil _ _ _
   ·intro j hj
    refine (hp.th j hj).congr (fun q hq=> ?_)
    simp only [thF,DS.init]
   ·intro j hj
    refine ⟨#[],0,?_⟩
    have:ntF (DS.init n l) j=fun _=>none:=by funext q;rfl
    rw [this];exact MapI.empty (hp.nt j hj)
   ·obtain ⟨a1,o1,_⟩:=hp.dev
    obtain ⟨a2,o2,_⟩:=c1
    obtain ⟨a3,o3,_⟩:=c2
    obtain ⟨a4,o4,_⟩:=c3
    have nbc:b≠cb:=by omega
    intro r r' x hr hr'
    have key:∀r,Lay.blk {n:=n,d:=d,pb:=b,cb:=cb,pc:=8*n,cc:=cc,lb:=lb,tb:=tb,nb:=nb,dt:=tb,ids:=fun i=>i,hv:=fun _=> .slice none 0 0} r=some x→
      (r= .dev∧tagO w2.heap[x]? =155)∨(r= .pe∧tagO w2.heap[x]? =26∧x=b)∨(r= .cu∧tagO w2.heap[x]? =26∧x=cb)∨(r= .li∧tagO w2.heap[x]? =209)∨(∃j,j<8∧r= .th j∧tagO w2.heap[x]? =147∧x=tb j)∨(∃j,j<8∧r= .nt j∧tagO w2.heap[x]? =1000000∧x=nb j):=by
     intro r hr
     cases r with
     |dev=>simp [Lay.blk] at hr;subst hr;exact .inl ⟨rfl,by rw [o1];rfl⟩
     |pe=>simp [Lay.blk] at hr;subst hr;exact .inr (.inl ⟨rfl,by rw [o2];rfl,rfl⟩)
     |cu=>simp [Lay.blk] at hr;subst hr;exact .inr (.inr (.inl ⟨rfl,by rw [o3];rfl,rfl⟩))
     |li=>simp [Lay.blk] at hr;subst hr;exact .inr (.inr (.inr (.inl ⟨rfl,by rw [o4];rfl⟩)))
     |th j=>
      simp [Lay.blk] at hr
      obtain ⟨a,o,_⟩:=hp.th j hr.1
      exact .inr (.inr (.inr (.inr (.inl ⟨j,hr.1,rfl,by rw [←hr.2,o];rfl,hr.2.symm⟩))))
     |nt j=>simp [Lay.blk] at hr;exact .inr (.inr (.inr (.inr (.inr ⟨j,hr.1,rfl,by rw [←hr.2,hp.nt j hr.1];rfl,hr.2.symm⟩))))
     |hs q=>simp [Lay.blk,Value.ownBlock] at hr
    rcases key r hr with ⟨rfl,e1⟩|⟨rfl,e1,f1⟩|⟨rfl,e1,f1⟩|⟨rfl,e1⟩|⟨j,hj,rfl,e1,f1⟩|⟨j,hj,rfl,e1,f1⟩<;>
    rcases key r' hr' with ⟨rfl,e2⟩|⟨rfl,e2,f2⟩|⟨rfl,e2,f2⟩|⟨rfl,e2⟩|⟨q,hq,rfl,e2,f2⟩|⟨q,hq,rfl,e2,f2⟩<;>
    first
     |rfl
     |(exfalso;clear hr hr' key hK hl;omega)
     |(rw [hp.inj j q hj hq (.inl (f1.symm.trans f2))])
     |(rw [hp.inj j q hj hq (.inr (f1.symm.trans f2))])
   ·rintro x ⟨r,hr⟩
    cases r with
    |dev=>simp [Lay.blk] at hr;omega
    |pe=>simp [Lay.blk] at hr;omega
    |cu=>simp [Lay.blk] at hr;omega
    |li=>simp [Lay.blk] at hr;omega
    |th j=>simp [Lay.blk] at hr;have:=(hp.lo j hr.1).1;omega
    |nt j=>simp [Lay.blk] at hr;have:=(hp.lo j hr.1).2;omega
    |hs q=>simp [Lay.blk,Value.ownBlock] at hr
theorem k_of (l:List Nat) (n b:Nat) (h0:0<n) (hn:n≤4096) (hl:l.length=8*n) (hc:Cells w b 26 (8*n) (fun i=>u64 (l.getD i 0))) (K:K1)
  (hK:∀w' Y,Ext w w'→Dv w' Y (DS.init n l)→(∀x,Y.F x→x=b∨w.heap.size≤x)→(Y.dt=Y.tb∧∀i,Y.ids i=i)→K (.pointer (some ⟨Y.d,0,none⟩)) w'):callS prog 111 #[.slice (some ⟨b,0,none⟩) (8*n) (8*n)] w K:=by
 have hx:∀(w:World) (hc:Cells w b 26 (8*n) (fun i=>u64 (l.getD i 0))) j u,(l.map u64)[j]? =some u→w.cell? ⟨b,0+j,none⟩=some u:=by
  intro w hc j u hj
  rw [Nat.zero_add]
  have hj':=(List.getElem?_eq_some_iff.1 hj).1
  rw [List.length_map] at hj'
  rw [hc.cell oM,←hj]
  simp [List.getElem?_map,List.getElem?_eq_getElem hj',List.getD_eq_getElem?_getD]
 refine f111_call _ _ _ ?_
 unfold f111_t
 have hd:=hc.drew
 have e8:((8*n:Nat):Int)/8=(n:Int):=by omega
 (repeat' (first|(with_reducible first|refine brS_mk (fun _=> ?_) (fun _=> ?_)|refine And.intro ?_ ?_)|(simp (disch:=try exact dZ) only [↓RBp,↓RA,↓reduceIte,Nat.reduceAdd,Nat.reduceMul,Nat.reduceEqDiff,RB,RX,RA2,e8])))
 ·rw [←hl]
  refine k_Clone64 l b 0 _ (hx _ hd) hd.lt oM oM _ (fun b' c' w1 he hcb hb' hc'=> ?_)
  rw [hl] at hcb ⊢
  have hlt:=hcb.lt
  (repeat' (first|(with_reducible first|refine brS_mk (fun _=> ?_) (fun _=> ?_)|refine And.intro ?_ ?_)|(simp (disch:=try exact dZ) only [↓RBp,↓RA,↓reduceIte,Nat.reduceAdd,Nat.reduceMul,Nat.reduceEqDiff,RB,RX,RA2,e8])))
  refine k_of1 l n b b' c' w1.heap.size _ w (w1.alloc (.cells (zrow (.agg #[.int .u64 ((0:Nat):Int),.slice none 0 0]) (n*2)) 209)) (by rw [size_alloc]) h0 hn hl hc (((Ext.refl w).drew.trans he).alloc _) (hcb.alloc _) hb' ?_ (by have:=he.size;exact this) K hK
  rw [Nat.mul_comm 2 n];exact zrow_cells w1 _ (n*2) _
 ·have hd2:=(hc.alloc (.cells (zrow (.agg #[.int .u64 ((0:Nat):Int),.slice none 0 0]) (n*2)) 209)).drew
  rw [←hl]
  refine k_Clone64 l b 0 _ (hx _ hd2) hd2.lt oM oM _ (fun b' c' w1 he hcb hb' hc'=> ?_)
  rw [hl] at hcb ⊢
  have hlt:=hcb.lt
  have hlc:=(zrow_cells w (.agg #[.int .u64 ((0:Nat):Int),.slice none 0 0]) (n*2) 209).drew.ext he
  (repeat' (first|(with_reducible first|refine brS_mk (fun _=> ?_) (fun _=> ?_)|refine And.intro ?_ ?_)|(simp (disch:=try exact dZ) only [↓RBp,↓RA,↓reduceIte,Nat.reduceAdd,Nat.reduceMul,Nat.reduceEqDiff,RB,RX,RA2,e8])))
  refine k_of1 l n b b' c' w.heap.size _ w w1 rfl h0 hn hl hc ((Ext.alloc_self w _).drew.trans he) hcb (by have h9:=hb';rw [size_drew,size_alloc] at h9;omega) ?_ (Nat.le_refl _) K hK
  rw [Nat.mul_comm 2 n];exact hlc
end
section
variable {w w':World} {Y:Lay} {D D':DS}
def DS.zero (n:Nat):DS:=DS.init n (List.replicate (8*n) 0)
theorem Good.zero (n:Nat) (h0:0<n) (hn:n≤4096):Good (DS.zero n):=Good.init n _ h0 hn (fun x hx=>by rw [List.eq_of_mem_replicate hx];decide)
theorem zero_cur (n i:Nat):(DS.zero n).cur i=0:=by
 show (List.replicate (8*n) 0).getD i 0=0
 rw [List.getD_eq_getElem?_getD,List.getElem?_replicate]
 split<;>rfl
theorem k_New (n:Nat) (h0:0<n) (hn:n≤4096) (K:K1) (hK:∀w' Y,Ext w w'→Dv w' Y (DS.zero n)→(∀x,Y.F x→w.heap.size≤x)→(Y.dt=Y.tb∧∀i,Y.ids i=i)→K (.tuple #[.pointer (some ⟨Y.d,0,none⟩),.int .i64 0]) w'):callS prog 61 #[.int .i64 (n:Int)] w K:=by
 refine f61_call _ _ _ ?_
 unfold f61_t
 have e1:((n:Int)*8)=((8*n:Nat):Int):=by omega
 (repeat' (first|(with_reducible first|refine brS_mk (fun _=> ?_) (fun _=> ?_)|refine And.intro ?_ ?_)|(simp (disch:=try exact dZ) only [↓RBp,↓RA,↓reduceIte,Nat.reduceAdd,Nat.reduceMul,Nat.reduceEqDiff,RB,RX,RA2,e1])))
 have hc:=zrow_cells w (.int .u64 ((0:Nat):Int)) (8*n) 26
 have e2:(fun i=>(Value.int .u64 ((0:Nat):Int)).cells[i%(Value.int .u64 ((0:Nat):Int)).cells.size]!)=fun i=>u64 ((List.replicate (8*n) 0).getD i 0):=by
  funext i
  have:=zero_cur n i
  show _=u64 ((DS.zero n).cur i)
  rw [this];simp [Value.cells,Nat.mod_one]
 rw [e2] at hc
 refine k_of (List.replicate (8*n) 0) n w.heap.size h0 hn (by simp) hc _ (fun w' Y he hd hF hdt=> ?_)
 refine hK w' Y ((Ext.alloc_self w _).trans he) hd (fun x hx=> ?_) hdt
 rcases hF x hx with h|h
 ·omega
 ·rw [size_alloc] at h;omega
def DS.arm (D:DS) (n:Int):DS:=if D.off=true then D else {D with armed:=decide (0≤n),left:=if n<0 then 0 else n}
end
abbrev chV (Y:Lay) (l:Nat) (c o:Int) (g:Nat):Value:= .agg #[.iface 31 (.pointer (some ⟨Y.tb 0,0,none⟩)),.int .i64 (l:Int),.int .i64 c,.int .i64 o,.int .u16 (g:Int)]
abbrev chO (Y:Lay) (l:Nat) (c o:Int) (g:Nat):Obj:= .cells #[.iface 31 (.pointer (some ⟨Y.tb 0,0,none⟩)),.int .i64 (l:Int),.int .i64 c,.int .i64 o,.int .u16 (g:Int)] 134
structure Cx (w:World) (Y:Lay) (D:DS) (l:Nat) (c:Int):Prop where
 dv:Dv w Y D
 gd:Good D
 gl:Glob w
 on:D.off=false
 hl:l+32≤D.n
 c0:0≤c
 c5:c<5
section
variable {w w':World} {Y:Lay} {D:DS} {l:Nat} {c o:Int} {g:Nat}
theorem Cx.ext (h:Cx w Y D l c) (e:Ext w w'):Cx w' Y D l c:=⟨h.dv.ext e,h.gd,h.gl.ext e,h.on,h.hl,h.c0,h.c5⟩
theorem Cx.n (h:Cx w Y D l c):D.n≤4096:=h.gd.n
@[irreducible] def wd (D:DS) (l i:Nat):Nat:=D.cur (l*8+i)
def bitB (x i:Nat):Bool:=decide (x/2^i%2=1)
def bG (x:Nat):Nat:=if isS x then gX x else 0
def bK (x:Nat):Nat:=if isS x then kX x else 0
def bS (x:Nat):Nat:=if isS x then sX x else 0
@[irreducible] def offN (c:Int) (i:Nat):Nat:=(offS c (i:Int)).toNat
theorem offN_bd {c:Int} {i:Nat} (h0:0≤c) (h5:c<5) (hi:(i:Int)<perS c):offS c (i:Int)=(offN c i:Int)∧8≤offN c i∧offN c i<256:=by
 have:=offS_bd h0 h5 (show 0≤(i:Int) by omega) hi
 have hw:=wordsS_in h0 h5
 unfold offN
 omega
theorem Cx.wd_lt (h:Cx w Y D l c) (i:Nat) (hi:i<256):wd D l i<18446744073709551616:=by unfold wd;exact h.gd.cur _ (by have:=h.hl;omega)
theorem Cx.load (h:Cx w Y D l c) (i:Nat) (hi:i<256) (K:K1):callS prog 32 #[.pointer (some ⟨Y.tb 0,0,none⟩),.int .u64 ((l*64+i*8:Nat):Int)] w K=K (.int .u64 (wd D l i:Int)) w:=by
 have hl:=h.hl
 have:=c_Load h.dv h.gd 0 oM h.on (l*64+i*8) oM oM K
 rw [this,show (l*64+i*8)/8=l*8+i by omega];unfold wd;rfl
theorem Cx.loadE (h:Cx w Y D l c):∀(w1:World) (i:Nat) (K:K1),Ext w w1→i<256→callS prog 32 #[.pointer (some ⟨Y.tb 0,0,none⟩),.int .u64 ((l*64+i*8:Nat):Int)] w1 K=K (.int .u64 (wd D l i:Int)) w1:=fun w1 i K he hi=>(h.ext he).load i hi K
theorem c_Class (K:K1):callS prog 136 #[chV Y l c o g] w K=K (.int .i64 c) (w.alloc (chO Y l c o g)):=by
 refine callS_det (by kernel_rfl) (f136_call _ _ _ ?_) K
 unfold f136_t
 simp (disch:=try exact dZ) only [↓RBp,↓RA,↓reduceIte,Nat.reduceAdd,Nat.reduceMul,Nat.reduceEqDiff,RB,RX,RA2]
structure Cg (w:World) (c:Int):Prop where
 gl:Glob w
 c0:0≤c
 c5:c<5
theorem Cg.ext (h:Cg w c) (e:Ext w w'):Cg w' c:=⟨h.gl.ext e,h.c0,h.c5⟩
theorem Cx.cg (h:Cx w Y D l c):Cg w c:=⟨h.gl,h.c0,h.c5⟩
theorem c_blocks (hG:Glob w) (Y:Lay) (l:Nat) (c o:Int) (g:Nat):∀(w1:World) (K:K1),Ext w w1→callS prog 167 #[chV Y l c o g] w1 K=K (.int .i64 (perS c)) ((w1.alloc (chO Y l c o g)).alloc (chO Y l c o g)):=by
 intro w1 K he
 refine callS_det (by kernel_rfl) (f167_call _ _ _ ?_) K
 unfold f167_t
 have hG:=hG.ext he
 simp (disch:=try exact dZ) only [↓RBp,↓RA,↓reduceIte,Nat.reduceAdd,Nat.reduceMul,Nat.reduceEqDiff,RB,RX,RA2,c_Class,fun a b c K=>c_PerChunk c ((w1.alloc a).alloc b) K ((hG.alloc a).alloc b)]
theorem Cx.blocks (h:Cx w Y D l c) (o:Int) (g:Nat):∀(w1:World) (K:K1),Ext w w1→callS prog 167 #[chV Y l c o g] w1 K=K (.int .i64 (perS c)) ((w1.alloc (chO Y l c o g)).alloc (chO Y l c o g)):=c_blocks h.gl Y l c o g
theorem k_hasG (hG:Glob w) (Y:Lay) (l:Nat) (c o:Int) (g:Nat) (i:Int) (K:K1) (hK:∀w',Ext w w'→K (.bool (decide (0≤i)&&decide (i<perS c))) w'):callS prog 165 #[chV Y l c o g,.int .i64 i] w K:=by
 refine f165_call _ _ _ _ ?_
 unfold f165_t
 have hb:=c_blocks hG Y l c o g
 by_cases h0:0≤i
 ·have e:(decide (0≤i)&&decide (i<perS c))=decide (i<perS c):=by simp [h0]
  rw [e] at hK
  simp (disch:=try exact dX) only [↓RBp,↓RA,↓reduceIte,Nat.reduceAdd,Nat.reduceMul,Nat.reduceEqDiff,RB,RX,RA2,hb]
  exact hK _ xZ
 ·have e:(decide (0≤i)&&decide (i<perS c))=false:=by simp [h0]
  rw [e] at hK
  simp (disch:=try exact dX) only [↓RBp,↓RA,↓reduceIte,Nat.reduceAdd,Nat.reduceMul,Nat.reduceEqDiff,RB,RX,RA2,hb]
  exact hK _ xZ
theorem k_has (h:Cx w Y D l c) (o:Int) (g:Nat) (i:Int) (K:K1) (hK:∀w',Ext w w'→K (.bool (decide (0≤i)&&decide (i<perS c))) w'):callS prog 165 #[chV Y l c o g,.int .i64 i] w K:=k_hasG h.gl Y l c o g i K hK
theorem Cx.at_ (h:Cx w Y D l c) (o:Int) (g:Nat):∀(w1:World) (i:Nat) (K:K1),Ext w w1→(i:Int)<perS c→callS prog 170 #[chV Y l c o g,.int .i64 (i:Int)] w1 K=K (.int .u64 ((l*64+offN c i*8:Nat):Int)) (w1.alloc (chO Y l c o g)):=by
 intro w1 i K he hi
 refine callS_det (by kernel_rfl) (f170_call _ _ _ _ ?_) K
 unfold f170_t
 have hG:=h.gl.ext he
 have hb:=offN_bd h.c0 h.c5 hi
 have hl:=h.hl;have hn:=h.n
 have hof:∀(a:Obj) (K:K1),callS prog 161 #[.int .i64 c,.int .i64 (i:Int)] (w1.alloc a) K=K (.tuple #[.int .i64 (offN c i:Int),.int .i64 0]) (w1.alloc a):=fun a K=>by
  rw [c_Offset c i (w1.alloc a) K (hG.alloc a) h.c0 h.c5 oM hi,hb.1]
 generalize offN c i=q at*
 simp (disch:=try exact dZ) only [↓RBp,↓RA,↓reduceIte,Nat.reduceAdd,Nat.reduceMul,Nat.reduceEqDiff,RB,RX,RA2,hof,c_line,Int.toNat_natCast]
theorem Cx.bits (h:Cx w Y D l c) (o:Int) (g:Nat):∀(w1:World) (K:K1),Ext w w1→callS prog 166 #[chV Y l c o g] w1 K=K (.int .u64 (wd D l 1:Int)) ((w1.alloc (chO Y l c o g)).drew):=by
 intro w1 K he
 refine callS_det (by kernel_rfl) (f166_call _ _ _ ?_) K
 unfold f166_t
 have h1:=(h.ext he)
 have hl:=h.hl;have hn:=h.n
 have ld:∀(w2:World) (K:K1),Ext w1 w2→callS prog 32 #[.pointer (some ⟨Y.tb 0,0,none⟩),.int .u64 ((l*64+8:Nat):Int)] w2 K=K (.int .u64 (wd D l 1:Int)) w2:=fun w2 K he=>h1.loadE w2 1 K he oM
 (repeat' (first|(with_reducible first|refine brS_mk (fun _=> ?_) (fun _=> ?_)|refine And.intro ?_ ?_)|(simp (disch:=try exact dX) only [↓RBp,↓RA,↓reduceIte,Nat.reduceAdd,Nat.reduceMul,Nat.reduceEqDiff,RB,RX,RA2,c_line,Int.toNat_natCast,ld])))
theorem k_sealed' (x:Nat) (w:World) (K:K1) (hG:Glob w) (hx:x<18446744073709551616) (h:∀w',Ext w w'→K (.tuple #[.agg #[.int .u16 (bG x:Int),.int .u8 (bK x:Int),.int .u8 (bS x:Int)],.bool (isS x)]) w'):callS prog 176 #[.int .u64 x] w K:=by
 refine k_sealed x w K hG hx (fun w' he=> ?_)
 have:=h w' he
 unfold bG bK bS at this
 cases hs:isS x with
 |true=>simp only [hs,if_true] at this ⊢;exact this
 |false=>simp only [hs,if_false] at this ⊢;exact this
theorem cells3 {b t:Nat} {f:Nat→Value} (h:Cells w b t 3 f) (v0 v1 v2:Value):(((w.setCell ⟨b,0,none⟩ v0).setCell ⟨b,1,none⟩ v1).setCell ⟨b,2,none⟩ v2).cell? ⟨b,0,none⟩=some v0∧(((w.setCell ⟨b,0,none⟩ v0).setCell ⟨b,1,none⟩ v1).setCell ⟨b,2,none⟩ v2).cell? ⟨b,1,none⟩=some v1∧(((w.setCell ⟨b,0,none⟩ v0).setCell ⟨b,1,none⟩ v1).setCell ⟨b,2,none⟩ v2).cell? ⟨b,2,none⟩=some v2∧Cells (((w.setCell ⟨b,0,none⟩ v0).setCell ⟨b,1,none⟩ v1).setCell ⟨b,2,none⟩ v2) b t 3 (fun i=>if i=0 then v0 else if i=1 then v1 else v2):=by
 have h3:=((h.set v0 (i:=0) oM).set v1 (i:=1) oM).set v2 (i:=2) oM
 exact ⟨h3.cell (i:=0) oM,h3.cell (i:=1) oM,h3.cell (i:=2) oM,h3.congr (fun i hi=>by
  have:i=0∨i=1∨i=2:=by omega
  rcases this with rfl|rfl|rfl<;>simp)⟩
theorem k_read (h:Cx w Y D l c) (o:Int) (g:Nat) (i:Nat) (hi:(i:Int)<perS c) (K:K1) (hK:∀w',Ext w w'→K (.tuple #[.agg #[.int .u16 (bG (wd D l (offN c i)):Int),.int .u8 (bK (wd D l (offN c i)):Int),.int .u8 (bS (wd D l (offN c i)):Int)],.bool (isS (wd D l (offN c i))),.bool (bitB (wd D l 1) i)]) w'):
  callS prog 131 #[chV Y l c o g,.int .i64 (i:Int)] w K:=by
 refine f131_call _ _ _ _ ?_
 unfold f131_t
 have hb:=h.bits o g
 have ha:=h.at_ o g
 have hl:=h.loadE
 have bd:=offN_bd h.c0 h.c5 hi
 have hp:=perS_in h.c0 h.c5
 have hw:=h.wd_lt (offN c i) bd.2.2
 have hw1:=h.wd_lt 1 oM
 generalize hx:wd D l (offN c i)=x at*
 generalize hy:wd D l 1=y at*
 have an:∀z:Nat,z&&&1=z%2:=fun z=>Nat.and_one_is_mod z
 have hdv:y/2^i<18446744073709551616:=Nat.lt_of_le_of_lt (Nat.div_le_self _ _) hw1
 (repeat' (first|(with_reducible first|refine brS_mk (fun _=> ?_) (fun _=> ?_)|refine And.intro ?_ ?_)|(simp (disch:=try exact dX) only [↓RBp,↓RA,↓reduceIte,Nat.reduceAdd,Nat.reduceMul,Nat.reduceEqDiff,RB,RX,RA2,hb,ha,hl,hx])))
 refine k_sealed' x _ _ (h.gl.ext xZ) hw (fun w1 he1=> ?_)
 have hC:Cells w1 (w.heap.size+1) 200 3 (fun i=> [Value.int .u16 ((0:Nat):Int),.int .u8 ((0:Nat):Int),.int .u8 ((0:Nat):Int)].getD i undef):=by
  have:=(Cells.new (w.alloc (chO Y l c o g)) [Value.int .u16 ((0:Nat):Int),.int .u8 ((0:Nat):Int),.int .u8 ((0:Nat):Int)] 200)
  rw [size_alloc] at this
  exact this.ext (Ext.trans xZ he1)
 have e1:Ext w w1:=Ext.trans xZ he1
 have c0:=hC.cell (i:=0) oM
 have c1:=hC.cell (i:=1) oM
 have c2:=hC.cell (i:=2) oM
 obtain ⟨d0,d1,d2,hD⟩:=cells3 hC (.int .u16 (bG x:Int)) (.int .u8 (bK x:Int)) (.int .u8 (bS x:Int))
 obtain ⟨f0,f1,f2,hF⟩:=cells3 hD (.int .u16 (bG x:Int)) (.int .u8 (bK x:Int)) (.int .u8 (bS x:Int))
 have hbit:decide (y/2^i&&&1=1)=bitB y i:=by unfold bitB;simp only [an]
 simp (disch:=try exact dZ) only [↓RBp,↓RA,↓reduceIte,Nat.reduceAdd,Nat.reduceMul,Nat.reduceEqDiff,RB,RX,RA2,c0,c1,c2,hC.frz,d0,d1,d2,hD.frz,f0,f1,f2,hbit]
 exact hK _ xZ
end
section
variable {w w':World} {Y:Lay} {D:DS} {l:Nat} {c o:Int} {g:Nat}
theorem chCells {w1:World} (he:Ext (w.alloc (chO Y l c o g)) w1):w1.cell? ⟨w.heap.size,0,none⟩=some (.iface 31 (.pointer (some ⟨Y.tb 0,0,none⟩)))∧w1.cell? ⟨w.heap.size,1,none⟩=some (.int .i64 (l:Int))∧w1.cell? ⟨w.heap.size,2,none⟩=some (.int .i64 c)∧w1.cell? ⟨w.heap.size,3,none⟩=some (.int .i64 o)∧w1.cell? ⟨w.heap.size,4,none⟩=some (.int .u16 (g:Int)):=by
 have:∀i,w1.cell? ⟨w.heap.size,i,none⟩=_:=fun i=>he.cell _ i (by simp only [RZ];omega)
 refine ⟨?_,?_,?_,?_,?_⟩<;>(rw [this,cell_new _ _ _ _ _ rfl];rfl)
@[irreducible] def mkB (D:DS) (l:Nat) (c i:Int) (s:Nat):Bool:=decide (0≤i∧i<perS c)&&(isS (wd D l (offN c i.toNat))&&(bitB (wd D l 1) i.toNat&&decide (bS (wd D l (offN c i.toNat))=s)))
theorem k_marked (h:Cx w Y D l c) (o:Int) (g:Nat) (i:Int) (s:Nat) (K:K1) (hK:∀w',Ext w w'→K (.bool (mkB D l c i s)) w'):
  callS prog 177 #[chV Y l c o g,.int .i64 i,.int .u8 (s:Int)] w K:=by
 refine f177_call _ _ _ _ _ ?_
 unfold mkB at hK
 unfold f177_t
 simp (disch:=try exact dZ) only [↓RBp,↓RA,↓reduceIte,Nat.reduceAdd,Nat.reduceMul,Nat.reduceEqDiff,RB,RX,RA2]
 refine k_has (h.ext xZ) o g i _ (fun w1 he1=> ?_)
 have e1:Ext w w1:=Ext.trans xZ he1
 obtain ⟨c0,c1,c2,c3,c4⟩:=chCells he1
 by_cases hi:0≤i∧i<perS c
 ·obtain ⟨n,rfl⟩:∃n:Nat,i=(n:Int):=⟨i.toNat,by omega⟩
  have e:(decide (0≤(n:Int))&&decide ((n:Int)<perS c))=true:=by simp [hi]
  rw [decide_eq_true hi,Bool.true_and] at hK
  rw [e]
  simp only [Int.toNat_natCast] at hK
  simp (disch:=try exact dZ) only [↓RBp,↓RA,↓reduceIte,Nat.reduceAdd,Nat.reduceMul,Nat.reduceEqDiff,RB,RX,RA2,c0,c1,c2,c3,c4]
  refine k_read (h.ext e1) o g n hi.2 _ (fun w2 he2=> ?_)
  have e2:Ext w w2:=e1.trans he2
  by_cases hs:isS (wd D l (offN c n))=true
  ·rw [hs,Bool.true_and] at hK
   by_cases hbt:bitB (wd D l 1) n=true
   ·rw [hbt,Bool.true_and] at hK
    simp (disch:=try exact dZ) only [↓RBp,↓RA,↓reduceIte,Nat.reduceAdd,Nat.reduceMul,Nat.reduceEqDiff,RB,RX,RA2,hs,hbt]
    exact hK _ xZ
   ·have hbt:bitB (wd D l 1) n=false:=by simpa using hbt
    rw [hbt,Bool.false_and] at hK
    simp (disch:=try exact dZ) only [↓RBp,↓RA,↓reduceIte,Nat.reduceAdd,Nat.reduceMul,Nat.reduceEqDiff,RB,RX,RA2,hs,hbt]
    exact hK _ xZ
  ·have hs:isS (wd D l (offN c n))=false:=by simpa using hs
   rw [hs,Bool.false_and] at hK
   simp (disch:=try exact dZ) only [↓RBp,↓RA,↓reduceIte,Nat.reduceAdd,Nat.reduceMul,Nat.reduceEqDiff,RB,RX,RA2,hs]
   exact hK _ xZ
 ·have e:(decide (0≤i)&&decide (i<perS c))=false:=by simp;omega
  rw [decide_eq_false hi,Bool.false_and] at hK
  rw [e]
  simp (disch:=try exact dZ) only [↓RBp,↓RA,↓reduceIte,Nat.reduceAdd,Nat.reduceMul,Nat.reduceEqDiff,RB,RX,RA2]
  exact hK _ xZ
theorem k_Taken (h:Cx w Y D l c) (o:Int) (g:Nat) (i:Int) (K:K1) (hK:∀w',Ext w w'→K (.bool (mkB D l c i 177)) w'):callS prog 137 #[chV Y l c o g,.int .i64 i] w K:=by
 refine f137_call _ _ _ _ ?_
 unfold f137_t
 simp (disch:=try exact dZ) only [↓RBp,↓RA,↓reduceIte,Nat.reduceAdd,Nat.reduceMul,Nat.reduceEqDiff,RB,RX,RA2]
 refine k_marked (h.ext xZ) o g i 177 _ (fun w1 he1=> ?_)
 exact hK _ (Ext.trans xZ he1)
def frN (y:Nat):Nat→Nat→Int
 |0,_=> -1
 |m+1,i=>if bitB y i=true then frN y m (i+1) else (i:Int)
theorem k_Free (h:Cx w Y D l c) (o:Int) (g:Nat) (i:Int) (K:K1) (hK:∀w',Ext w w'→K (.int .i64 (frN (wd D l 1) ((perS c).toNat-i.toNat) i.toNat)) w'):callS prog 121 #[chV Y l c o g,.int .i64 i] w K:=by
 have hp:=perS_in h.c0 h.c5
 have hb:=h.blocks o g
 have hbt:=h.bits o g
 have hy:=h.wd_lt 1 oM
 refine f121_call _ _ _ _ ?_
 unfold f121_t
 have tail:∀(j:Nat) (w1:World),Ext (w.alloc (chO Y l c o g)) w1→(∀w',Ext w w'→K (.int .i64 (frN (wd D l 1) ((perS c).toNat-j) j)) w')→f121_k1 K (.int .i64 (j:Int)) (.pointer (some ⟨w.heap.size,0,none⟩)) w1:=by
  intro j w1 he1 hK
  obtain ⟨c0,c1,c2,c3,c4⟩:=chCells he1
  have e1:Ext w w1:=Ext.trans xZ he1
  rw [f121_k1_eq]
  unfold f121_k1_t
  simp (disch:=try exact dZ) only [↓RBp,↓RA,↓reduceIte,Nat.reduceAdd,Nat.reduceMul,Nat.reduceEqDiff,RB,RX,RA2,c0,c1,c2,c3,c4]
  refine k_has (h.ext e1) o g j _ (fun w2 he2=> ?_)
  have e2:=e1.trans he2
  obtain ⟨d0,d1,d2,d3,d4⟩:=chCells (he1.trans he2)
  by_cases hj:(j:Int)<perS c
  ·have eb:(decide (0≤(j:Int))&&decide ((j:Int)<perS c))=true:=by simp [hj]
   rw [eb]
   simp (disch:=try exact dX) only [↓RBp,↓RA,↓reduceIte,Nat.reduceAdd,Nat.reduceMul,Nat.reduceEqDiff,RB,RX,RA2,d0,d1,d2,d3,d4,hbt]
   apply f121_l1_rule (I:=fun z w'=>∃q:Nat,z= .int .i64 (q:Int)∧q≤(perS c).toNat∧frN (wd D l 1) ((perS c).toNat-q) q=frN (wd D l 1) ((perS c).toNat-j) j∧Ext (w.alloc (chO Y l c o g)) w') (μ:=fun z _=>(perS c).toNat-(intOf z).toNat)
   ·exact ⟨j,rfl,by omega,rfl,(he1.trans he2).trans xZ⟩
   ·intros;rename_i w3 hI E1 hE
    obtain ⟨q,rfl,hq,hfr,he3⟩:=hI
    obtain ⟨g0,g1,g2,g3,g4⟩:=chCells he3
    have e3:Ext w w3:=Ext.trans xZ he3
    unfold f121_l1_t
    by_cases hqp:(q:Int)<perS c
    ·have hdv:wd D l 1/2^q<18446744073709551616:=Nat.lt_of_le_of_lt (Nat.div_le_self _ _) hy
     have hs:(perS c).toNat-q=((perS c).toNat-(q+1))+1:=by omega
     rw [hs] at hfr
     simp only [frN] at hfr
     by_cases hbq:bitB (wd D l 1) q=true
     ·rw [if_pos hbq] at hfr
      have e0:¬(wd D l 1/2^q&&&1=0):=by
       rw [Nat.and_one_is_mod];unfold bitB at hbq;simp at hbq;omega
      simp (disch:=try exact dX) only [↓RBp,↓RA,↓reduceIte,Nat.reduceAdd,Nat.reduceMul,Nat.reduceEqDiff,RB,RX,RA2,g0,g1,g2,g3,g4,hb,e0]
      apply hE
      ·exact ⟨q+1,by simp,by omega,hfr,xZ⟩
      ·simp [intOf];omega
     ·rw [if_neg hbq] at hfr
      have e0:wd D l 1/2^q&&&1=0:=by
       rw [Nat.and_one_is_mod];unfold bitB at hbq;simp at hbq;omega
      simp (disch:=try exact dX) only [↓RBp,↓RA,↓reduceIte,Nat.reduceAdd,Nat.reduceMul,Nat.reduceEqDiff,RB,RX,RA2,g0,g1,g2,g3,g4,hb,e0]
      rw [hfr]
      exact hK _ xZ
    ·have hs:(perS c).toNat-q=0:=by omega
     rw [hs] at hfr
     simp only [frN] at hfr
     simp (disch:=try exact dX) only [↓RBp,↓RA,↓reduceIte,Nat.reduceAdd,Nat.reduceMul,Nat.reduceEqDiff,RB,RX,RA2,g0,g1,g2,g3,g4,hb,f121_k2_eq,f121_k2_t]
     rw [hfr]
     exact hK _ xZ
  ·have eb:(decide (0≤(j:Int))&&decide ((j:Int)<perS c))=false:=by simp;omega
   rw [eb]
   have:(perS c).toNat-j=0:=by omega
   rw [this] at hK
   simp only [frN] at hK
   simp (disch:=try exact dZ) only [↓RBp,↓RA,↓reduceIte,Nat.reduceAdd,Nat.reduceMul,Nat.reduceEqDiff,RB,RX,RA2]
   exact hK _ xZ
 by_cases hi:i<0
 ·have:i.toNat=0:=by omega
  rw [this] at hK
  simp (disch:=try exact dZ) only [↓RBp,↓RA,↓reduceIte,Nat.reduceAdd,Nat.reduceMul,Nat.reduceEqDiff,RB,RX,RA2]
  exact tail 0 _ xZ hK
 ·obtain ⟨j,rfl⟩:∃j:Nat,i=(j:Int):=⟨i.toNat,by omega⟩
  rw [Int.toNat_natCast] at hK
  simp (disch:=try exact dZ) only [↓RBp,↓RA,↓reduceIte,Nat.reduceAdd,Nat.reduceMul,Nat.reduceEqDiff,RB,RX,RA2]
  exact tail j _ xZ hK
@[irreducible] def okF (D:DS) (l:Nat) (c:Int) (i:Nat):Bool:=isS (wd D l (offN c i))&&(!bitB (wd D l 1) i&&(decide (bS (wd D l (offN c i))=176)&& !decide (bG (wd D l (offN c i))=0)))
def mxG (D:DS) (l:Nat) (c:Int):Nat→Nat
 |0=>0
 |n+1=>if mxG D l c n<bG (wd D l (offN c n)) then bG (wd D l (offN c n)) else mxG D l c n
def alF (D:DS) (l:Nat) (c:Int):Nat→Bool
 |0=>true
 |n+1=>alF D l c n&&okF D l c n
theorem alF_no {D:DS} {l:Nat} {c:Int}:∀{n i:Nat},i<n→okF D l c i=false→alF D l c n=false:=by
 intro n
 induction n with
 |zero=>intro i h;omega
 |succ n ih=>
  intro i h he
  simp only [alF]
  by_cases e:i=n
  ·subst e;simp [he]
  ·rw [ih (i:=i) oM he];rfl
theorem k_Next (h:Cx w Y D l c) (o:Int) (g:Nat) (K:K1) (hK:∀w',Ext w w'→K (.tuple #[.int .u16 ((if alF D l c (perS c).toNat=true then mxG D l c (perS c).toNat else 0:Nat):Int),.bool (alF D l c (perS c).toNat)]) w'):callS prog 157 #[chV Y l c o g] w K:=by
 have hp:=perS_in h.c0 h.c5
 obtain ⟨n,hn⟩:∃n:Nat,perS c=(n:Int):=⟨(perS c).toNat,by omega⟩
 rw [hn,Int.toNat_natCast] at hK
 have hb:=h.blocks o g
 rw [hn] at hb
 refine f157_call _ _ _ ?_
 unfold f157_t
 simp (disch:=try exact dX) only [↓RBp,↓RA,↓reduceIte,Nat.reduceAdd,Nat.reduceMul,Nat.reduceEqDiff,RB,RX,RA2,hb]
 apply f157_l1_rule (I:=fun x z w'=>∃i:Nat,z= .int .i64 (i:Int)∧i≤n∧x= .int .u16 ((mxG D l c i:Nat):Int)∧alF D l c i=true∧Ext (w.alloc (chO Y l c o g)) w') (μ:=fun _ z _=>n-(intOf z).toNat)
 ·exact ⟨0,rfl,by omega,rfl,rfl,xZ⟩
 ·intros;rename_i w1 hI E1 hE
  obtain ⟨i,rfl,hi,rfl,hal,he1⟩:=hI
  obtain ⟨c0,c1,c2,c3,c4⟩:=chCells he1
  have e1:Ext w w1:=Ext.trans xZ he1
  unfold f157_l1_t
  by_cases hin:i<n
  ·simp (disch:=try exact dZ) only [↓RBp,↓RA,↓reduceIte,Nat.reduceAdd,Nat.reduceMul,Nat.reduceEqDiff,RB,RX,RA2,c0,c1,c2,c3,c4]
   refine k_read (h.ext e1) o g i oM _ (fun w2 he2=> ?_)
   have e2:=he1.trans he2
   have e02:=e1.trans he2
   have bad:okF D l c i=false→∀w',Ext w w'→K (.tuple #[.int .u16 ((0:Nat):Int),.bool false]) w':=by
    intro hf w' he
    have:=hK w' he
    rw [alF_no hin hf] at this
    exact this
   by_cases b1:isS (wd D l (offN c i))=true
   ·by_cases b2:bitB (wd D l 1) i=true
    ·simp (disch:=try exact dZ) only [↓RBp,↓RA,↓reduceIte,Nat.reduceAdd,Nat.reduceMul,Nat.reduceEqDiff,RB,RX,RA2,b1,b2]
     exact bad (by simp [okF,b2]) _ xZ
    ·have b2:bitB (wd D l 1) i=false:=by simpa using b2
     by_cases b3:bS (wd D l (offN c i))=176
     ·by_cases b4:bG (wd D l (offN c i))=0
      ·simp (disch:=try exact dZ) only [↓RBp,↓RA,↓reduceIte,Nat.reduceAdd,Nat.reduceMul,Nat.reduceEqDiff,RB,RX,RA2,b1,b2,b3,b4]
       exact bad (by simp [okF,b4]) _ xZ
      ·simp (disch:=try exact dZ) only [↓RBp,↓RA,↓reduceIte,Nat.reduceAdd,Nat.reduceMul,Nat.reduceEqDiff,RB,RX,RA2,b1,b2,b3]
       apply hE
       ·refine ⟨i+1,by simp,by omega,?_,?_,xZ⟩
        ·simp only [mxG]
         split<;>split<;>first|rfl|omega
        ·simp [alF,hal,okF,b1,b2,b3,b4]
       ·simp [intOf];omega
     ·simp (disch:=try exact dZ) only [↓RBp,↓RA,↓reduceIte,Nat.reduceAdd,Nat.reduceMul,Nat.reduceEqDiff,RB,RX,RA2,b1,b2,b3]
      exact bad (by simp [okF,b3]) _ xZ
   ·have b1:isS (wd D l (offN c i))=false:=by simpa using b1
    simp (disch:=try exact dZ) only [↓RBp,↓RA,↓reduceIte,Nat.reduceAdd,Nat.reduceMul,Nat.reduceEqDiff,RB,RX,RA2,b1]
    exact bad (by simp [okF,b1]) _ xZ
  ·have:i=n:=by omega
   subst this
   rw [hal,if_pos rfl] at hK
   simp (disch:=try exact dZ) only [↓RBp,↓RA,↓reduceIte,Nat.reduceAdd,Nat.reduceMul,Nat.reduceEqDiff,RB,RX,RA2,f157_k1_eq,f157_k1_t]
   exact hK _ e1
end
def RdS (m:Nat) (w:World) (v:Value) (L:List Value):Prop:=∃a cap,v= .slice a L.length cap∧(L= []∨∃b o,a=some ⟨b,o,none⟩∧b<m∧∀j u,L[j]? =some u→w.cell? ⟨b,o+j,none⟩=some u)
section
variable {w w':World} {m:Nat} {v:Value} {L:List Value}
theorem RdS.ext (h:RdS m w v L) (e:Ext w w'):RdS m w' v L:=by
 obtain ⟨a,cap,hv,h⟩:=h
 refine ⟨a,cap,hv,?_⟩
 rcases h with h|⟨b,o,ha,hb,hc⟩
 ·exact .inl h
 ·exact .inr ⟨b,o,ha,hb,fun j u hj=>e.cell_some (hc j u hj)⟩
theorem RdS.frm {F:Nat→Prop} (h:RdS m w v L) (e:Frm F w w') (hF:∀b,b<m→¬F b):RdS m w' v L:=by
 obtain ⟨a,cap,hv,h⟩:=h
 refine ⟨a,cap,hv,?_⟩
 rcases h with h|⟨b,o,ha,hb,hc⟩
 ·exact .inl h
 ·refine .inr ⟨b,o,ha,hb,fun j u hj=> ?_⟩
  have h1:=hc j u hj
  rw [e.cell b _ (lt_of_cell h1) (hF b hb)];exact h1
theorem RdS.get (h:RdS m w v L) {j:Nat} {u:Value} (hj:L[j]? =some u):∃b o cap,v= .slice (some ⟨b,o,none⟩) L.length cap∧w.cell? ⟨b,o+j,none⟩=some u:=by
 obtain ⟨a,cap,hv,h⟩:=h
 rcases h with h|⟨b,o,ha,hb,hc⟩
 ·rw [h] at hj;simp at hj
 ·subst ha;exact ⟨b,o,cap,hv,hc j u hj⟩
theorem RdS.nil (w:World) (m:Nat):RdS m w (.slice none 0 0) []:=⟨none,0,rfl,.inl rfl⟩
end
abbrev i64L (l:List Int):List Value:=l.map fun i=>Value.int .i64 i
abbrev u8L (l:List Nat):List Value:=l.map fun (n:Nat)=>Value.int .u8 (n:Int)
theorem i64L_get {l:List Int} {j:Nat} (h:j<l.length):(i64L l)[j]? =some (.int .i64 l[j]):=by simp [h]
theorem u8L_get {l:List Nat} {j:Nat} (h:j<l.length):(u8L l)[j]? =some (.int .u8 ((l[j]:Nat):Int)):=by simp [h]
def onc (per:Int):List Int→Nat→Option Nat
 | [],m=>some m
 |i::l,m=>if (0≤i∧i<per)∧bitB m i.toNat=false then onc per l (m|||2^i.toNat) else none
theorem onc_drop {per:Int} {l:List Int} {j m:Nat} (h:j<l.length):onc per (l.drop j) m=if (0≤l[j]∧l[j]<per)∧bitB m l[j].toNat=false then onc per (l.drop (j+1)) (m|||2^l[j].toNat) else none:=by
 rw [List.drop_eq_getElem_cons h];rfl
theorem pow_lt64 {i:Nat} (h:i<64):2^i<18446744073709551616:=by
 have:2^i<2^64:=Nat.pow_lt_pow_right (by decide) h
 simpa using this
theorem or_lt64 {a b:Nat} (ha:a<18446744073709551616) (hb:b<18446744073709551616):a|||b<18446744073709551616:=Nat.or_lt_two_pow (n:=64) ha hb
section
variable {w w':World} {Y:Lay} {D:DS} {l:Nat} {c o:Int} {g:Nat}
theorem k_onceG (h:Cg w c) (Y:Lay) (l:Nat) (o:Int) (g:Nat) (L M:List Int) (v u:Value) {m:Nat} (hL:RdS m w v (i64L L)) (hM:RdS m w u (i64L M)) (lL:L.length<1099511627776) (lM:M.length<1099511627776) (b cap:Nat) (hb0:w.cell? ⟨b,0,none⟩=some v) (hb1:w.cell? ⟨b,1,none⟩=some u) (K:K1)
  (hK:∀w',Ext w w'→K (.bool ((onc (perS c) L 0).bind (onc (perS c) M)).isSome) w'):callS prog 143 #[chV Y l c o g,.slice (some ⟨b,0,none⟩) 2 cap] w K:=by
 have hp:=perS_in h.c0 h.c5
 refine f143_call _ _ _ _ ?_
 unfold f143_t
 simp (disch:=try exact dZ) only [↓RBp,↓RA,↓reduceIte,Nat.reduceAdd,Nat.reduceMul,Nat.reduceEqDiff,RB,RX,RA2]
 have inner:∀(E1:Value→Value→World→Prop) (L:List Int) (v:Value) (q m0:Nat) (w1:World),Ext (w.alloc (chO Y l c o g)) w1→RdS m w v (i64L L)→L.length<1099511627776→m0<18446744073709551616→(onc (perS c) L m0=none→∀w',Ext w w'→K (.bool false) w')→(∀m1 w',onc (perS c) L m0=some m1→m1<18446744073709551616→Ext (w.alloc (chO Y l c o g)) w'→E1 (.int .u64 (m1:Int)) (.int .i64 ((q+1:Nat):Int)) w')→q<1000→
   f143_l2 K E1 (.pointer (some ⟨w.heap.size,0,none⟩)) (.int .u64 (m0:Int)) (.slice (some ⟨b,0,none⟩) 2 cap) (.int .i64 2) (.int .i64 (q:Int)) v (.int .i64 (L.length:Int)) (.int .i64 0) w1:=by
  intro E1 L v q m0 w1 he1 hL lL hm0 hbad hgood hq
  apply f143_l2_rule (I:=fun x z w'=>∃j mm:Nat,z= .int .i64 (j:Int)∧x= .int .u64 (mm:Int)∧mm<18446744073709551616∧j≤L.length∧onc (perS c) (L.drop j) mm=onc (perS c) L m0∧Ext (w.alloc (chO Y l c o g)) w') (μ:=fun _ z _=>L.length-(intOf z).toNat)
  ·exact ⟨0,m0,rfl,rfl,hm0,by omega,rfl,he1⟩
  ·intros;rename_i w2 hI E2 hE
   obtain ⟨j,mm,rfl,rfl,hmm,hj,hon,he2⟩:=hI
   obtain ⟨c0,c1,c2,c3,c4⟩:=chCells he2
   have e2:Ext w w2:=Ext.trans xZ he2
   unfold f143_l2_t
   by_cases hjl:j<L.length
   ·obtain ⟨sb,so,sc,rfl,hc⟩:=(hL.ext e2).get (i64L_get hjl)
    rw [onc_drop hjl] at hon
    generalize L[j]=x at hon hc
    simp (disch:=try exact dZ) only [↓RBp,↓RA,↓reduceIte,Nat.reduceAdd,Nat.reduceMul,Nat.reduceEqDiff,RB,RX,RA2,hc,c0,c1,c2,c3,c4,List.length_map]
    refine k_hasG (h.gl.ext e2) Y l c o g x _ (fun w3 he3=> ?_)
    have e3:Ext w w3:=e2.trans he3
    have he13:=he2.trans he3
    by_cases hx:0≤x∧x<perS c
    ·have eb:(decide (0≤x)&&decide (x<perS c))=true:=by simp [hx]
     rw [eb]
     obtain ⟨i,rfl⟩:∃i:Nat,x=(i:Int):=⟨x.toNat,by omega⟩
     rw [Int.toNat_natCast] at hon
     have hdv:mm/2^i<18446744073709551616:=Nat.lt_of_le_of_lt (Nat.div_le_self _ _) hmm
     have hpw:=pow_lt64 (show i<64 by omega)
     have hs1:1*2^i%18446744073709551616=2^i:=by rw [Nat.one_mul];exact Nat.mod_eq_of_lt hpw
     have hor:=or_lt64 hmm hpw
     by_cases hbt:bitB mm i=true
     ·rw [if_neg (by simp [hbt])] at hon
      have e1:mm/2^i&&&1=1:=by rw [Nat.and_one_is_mod];simpa [bitB] using hbt
      simp (disch:=try exact dZ) only [↓RBp,↓RA,↓reduceIte,Nat.reduceAdd,Nat.reduceMul,Nat.reduceEqDiff,RB,RX,RA2,e1]
      exact hbad hon.symm _ e3
     ·rw [if_pos ⟨hx,by simpa using hbt⟩] at hon
      have e1:¬(mm/2^i&&&1=1):=by rw [Nat.and_one_is_mod];simpa [bitB] using hbt
      simp (disch:=try exact dZ) only [↓RBp,↓RA,↓reduceIte,Nat.reduceAdd,Nat.reduceMul,Nat.reduceEqDiff,RB,RX,RA2,e1,hs1]
      apply hE
      ·exact ⟨j+1,_,by simp,rfl,hor,by omega,hon,he13⟩
      ·simp [intOf];omega
    ·have eb:(decide (0≤x)&&decide (x<perS c))=false:=by simp;omega
     rw [eb]
     rw [if_neg (fun hh=>hx hh.1)] at hon
     simp (disch:=try exact dZ) only [↓RBp,↓RA,↓reduceIte,Nat.reduceAdd,Nat.reduceMul,Nat.reduceEqDiff,RB,RX,RA2]
     exact hbad hon.symm _ e3
   ·have:j=L.length:=by omega
    subst this
    rw [List.drop_length] at hon
    simp only [onc] at hon
    simp (disch:=try exact dZ) only [↓RBp,↓RA,↓reduceIte,Nat.reduceAdd,Nat.reduceMul,Nat.reduceEqDiff,RB,RX,RA2,f143_k2_eq,f143_k2_t]
    have:=hgood mm w2 hon.symm hmm he2
    simpa using this
 apply f143_l1_rule (I:=fun x z w'=>∃i mm:Nat,z= .int .i64 (i:Int)∧x= .int .u64 (mm:Int)∧mm<18446744073709551616∧i≤2∧(i=0→mm=0)∧(i=1→onc (perS c) L 0=some mm)∧(i=2→(onc (perS c) L 0).bind (onc (perS c) M)=some mm)∧Ext (w.alloc (chO Y l c o g)) w') (μ:=fun _ z _=>2-(intOf z).toNat)
 ·exact ⟨0,0,rfl,rfl,by omega,by omega,fun _=>rfl,fun h=>by omega,fun h=>by omega,xZ⟩
 ·intros;rename_i w1 hI E1 hE
  obtain ⟨i,mm,rfl,rfl,hmm,hi,i0,i1,i2,he1⟩:=hI
  have e1:Ext w w1:=Ext.trans xZ he1
  have d0:=e1.cell_some hb0
  have d1:=e1.cell_some hb1
  unfold f143_l1_t
  have hcs:i=0∨i=1∨i=2:=by omega
  rcases hcs with rfl|rfl|rfl
  ·have:=i0 rfl
   subst this
   obtain ⟨a,sc,rfl,_⟩:=id hL
   have hL':RdS m w (.slice a L.length sc) (i64L L):=by rw [show (i64L L).length=L.length by simp] at hL;exact hL
   simp (disch:=try exact dZ) only [↓RBp,↓RA,↓reduceIte,Nat.reduceAdd,Nat.reduceMul,Nat.reduceEqDiff,RB,RX,RA2,d0,List.length_map]
   refine inner E1 L _ 0 0 w1 he1 hL' lL oM (fun hn w' he=> ?_) (fun m1 w' hs hm1 he=> ?_) oM
   ·have:=hK w' he;rw [hn] at this;exact this
   ·apply hE
    ·exact ⟨1,m1,rfl,rfl,hm1,by omega,fun h=>by omega,fun _=>hs,fun h=>by omega,he⟩
    ·simp [intOf]
  ·have h1:=i1 rfl
   obtain ⟨a,sc,rfl,_⟩:=id hM
   have hM':RdS m w (.slice a M.length sc) (i64L M):=by rw [show (i64L M).length=M.length by simp] at hM;exact hM
   simp (disch:=try exact dZ) only [↓RBp,↓RA,↓reduceIte,Nat.reduceAdd,Nat.reduceMul,Nat.reduceEqDiff,RB,RX,RA2,d1,List.length_map]
   refine inner E1 M _ 1 mm w1 he1 hM' lM hmm (fun hn w' he=> ?_) (fun m1 w' hs hm1 he=> ?_) oM
   ·have:=hK w' he;rw [h1,Option.bind_some,hn] at this;exact this
   ·apply hE
    ·exact ⟨2,m1,rfl,rfl,hm1,by omega,fun h=>by omega,fun h=>by omega,fun _=>by rw [h1,Option.bind_some];exact hs,he⟩
    ·simp [intOf]
  ·have h2:=i2 rfl
   rw [h2] at hK
   simp (disch:=try exact dZ) only [↓RBp,↓RA,↓reduceIte,Nat.reduceAdd,Nat.reduceMul,Nat.reduceEqDiff,RB,RX,RA2,f143_k1_eq,f143_k1_t]
   exact hK _ e1
theorem k_once (h:Cx w Y D l c) (o:Int) (g:Nat) (L M:List Int) (v u:Value) {m:Nat} (hL:RdS m w v (i64L L)) (hM:RdS m w u (i64L M)) (lL:L.length<1099511627776) (lM:M.length<1099511627776) (b cap:Nat) (hb0:w.cell? ⟨b,0,none⟩=some v) (hb1:w.cell? ⟨b,1,none⟩=some u) (K:K1)
  (hK:∀w',Ext w w'→K (.bool ((onc (perS c) L 0).bind (onc (perS c) M)).isSome) w'):callS prog 143 #[chV Y l c o g,.slice (some ⟨b,0,none⟩) 2 cap] w K:=k_onceG h.cg Y l o g L M v u hL hM lL lM b cap hb0 hb1 K hK
end
@[irreducible] def tkOk (D:DS) (l:Nat) (c:Int) (i:Nat):Bool:=isS (wd D l (offN c i))&&(!bitB (wd D l 1) i&&(decide (bS (wd D l (offN c i))=176)&&goodB (bG (wd D l (offN c i))) (bK (wd D l (offN c i))) (bS (wd D l (offN c i)))))
@[irreducible] def dpOk (D:DS) (l:Nat) (c:Int) (i:Nat):Bool:=isS (wd D l (offN c i))&&(bitB (wd D l 1) i&&decide (bS (wd D l (offN c i))=177))
def tkW (D:DS) (l:Nat) (c:Int) (i k:Nat):Nat×Nat:=(l*64+offN c i*8,sealN (blkX (bG (wd D l (offN c i))) k 177))
def dpW (D:DS) (l:Nat) (c:Int) (i:Nat):Nat×Nat:=(l*64+offN c i*8,sealN (blkX (freG (bG (wd D l (offN c i)))) 0 (freS (bG (wd D l (offN c i))))))
def dpB (D:DS) (l:Nat) (c:Int) (i b:Nat):Nat:=if freS (bG (wd D l (offN c i)))=176 then b&&&(18446744073709551615^^^2^i) else b
def chT (D:DS) (l:Nat) (c:Int):List Int→List Nat→List (Nat×Nat)→Nat→Option (List (Nat×Nat)×Nat)
 |i::r,k::ks,acc,b=>if tkOk D l c i.toNat=true then chT D l c r ks (acc++ [tkW D l c i.toNat k]) (b|||2^i.toNat) else none
 |_,_,acc,b=>some (acc,b)
def chDr (D:DS) (l:Nat) (c:Int):List Int→List (Nat×Nat)→Nat→Option (List (Nat×Nat)×Nat)
 |i::r,acc,b=>if dpOk D l c i.toNat=true then chDr D l c r (acc++ [dpW D l c i.toNat]) (dpB D l c i.toNat b) else none
 | [],acc,b=>some (acc,b)
def actN (D:DS) (l:Nat) (c:Int) (take:List Int) (kinds:List Nat) (drop:List Int):Option (List (Nat×Nat)):=
 if take.length=0∧drop.length=0 then some [] else
 match chT D l c take kinds [] (wd D l 1) with
 |none=>none
 |some (ws,b)=>match chDr D l c drop ws b with
  |none=>none
  |some (ws,b)=>some (ws++ [(l*64+8,b)])
theorem chT_drop {D:DS} {l:Nat} {c:Int} {L:List Int} {ks:List Nat} {j b:Nat} {acc:List (Nat×Nat)} (h:j<L.length) (h2:ks.length=L.length):chT D l c (L.drop j) (ks.drop j) acc b=if tkOk D l c L[j].toNat=true then chT D l c (L.drop (j+1)) (ks.drop (j+1)) (acc++ [tkW D l c L[j].toNat (ks[j]'oM)]) (b|||2^L[j].toNat) else none:=by
 rw [List.drop_eq_getElem_cons h,List.drop_eq_getElem_cons (show j<ks.length by omega)];rfl
theorem chDr_drop {D:DS} {l:Nat} {c:Int} {L:List Int} {j b:Nat} {acc:List (Nat×Nat)} (h:j<L.length):chDr D l c (L.drop j) acc b=if dpOk D l c L[j].toNat=true then chDr D l c (L.drop (j+1)) (acc++ [dpW D l c L[j].toNat]) (dpB D l c L[j].toNat b) else none:=by
 rw [List.drop_eq_getElem_cons h];rfl
theorem bG_lt (x:Nat):bG x<65536:=by unfold bG gX;split<;>omega
theorem bK_lt (x:Nat):bK x<256:=by unfold bK kX;split<;>omega
theorem freG_lt {g:Nat} (h:g<65536):freG g<65536:=by unfold freG;split<;>omega
theorem freS_lt (g:Nat):freS g<256:=by unfold freS;split<;>omega
section
variable {w w':World} {Y:Lay} {D:DS} {l:Nat} {c o:Int} {g:Nat}
theorem k_changes (h:Cx w Y D l c) (o:Int) (g:Nat) (L M:List Int) (ks:List Nat) (v kv u:Value) {m:Nat} (hL:RdS m w v (i64L L)) (hk:RdS m w kv (u8L ks)) (hM:RdS m w u (i64L M)) (lL:L.length<1073741824) (lM:M.length<1073741824) (lk:ks.length=L.length) (hks:∀k∈ks,k<256) (vL:∀i∈L,0≤i∧i<perS c) (vM:∀i∈M,0≤i∧i<perS c) (K:K1)
  (hno:actN D l c L ks M=none→∀w',Ext w w'→K (.tuple #[.slice none 0 0,.bool false]) w')
  (hyes:∀ws,actN D l c L ks M=some ws→∀v' w',Ext w w'→NewV w.heap.size v'→SlO w' 98 2 v' ws.length (wrL ws)→K (.tuple #[v',.bool true]) w'):callS prog 144 #[chV Y l c o g,v,kv,u] w K:=by
 have hp:=perS_in h.c0 h.c5
 have hbt:=h.bits o g
 have hy:=h.wd_lt 1 oM
 have hat:=h.at_ o g
 have hbw:∀(w1:World) (a b d:Nat) (K:K1),Ext w w1→a<65536→b<256→d<256→callS prog 160 #[.agg #[.int .u16 (a:Int),.int .u8 (b:Int),.int .u8 (d:Int)]] w1 K=K (.int .u64 ((sealN (blkX a b d):Nat):Int)) ((w1.alloc (blkO a b d)).alloc (sealO (blkX a b d))):=fun w1 a b d K he ha hb hd=>c_bword a b d w1 K (h.gl.ext he) ha hb hd
 have l1:(i64L L).length=L.length:=by simp
 have l2:(i64L M).length=M.length:=by simp
 have l3:(u8L ks).length=L.length:=by simp [lk]
 obtain ⟨la,lc,rfl,_⟩:=id hL
 obtain ⟨ma,mc,rfl,_⟩:=id hM
 rw [l1] at hL ⊢
 rw [l2] at hM ⊢
 refine f144_call _ _ _ _ _ _ ?_
 unfold f144_t
 have e0:Ext w (w.alloc (chO Y l c o g)):=Ext.alloc_self _ _
 have s0:w.heap.size≤(w.alloc (chO Y l c o g)).heap.size:=by simp only [RZ];omega
 have main:L.length+M.length≠0→∀w1,Ext (w.alloc (chO Y l c o g)) w1→f144_l1 K kv (.slice ma M.length mc) (.pointer (some ⟨w.heap.size,0,none⟩)) (.slice none 0 0) (.int .u64 (wd D l 1:Int)) (.slice la L.length lc) (.int .i64 (L.length:Int)) (.int .i64 0) w1:=by
  intro hne w1 he1
  have hact:actN D l c L ks M=match chT D l c L ks [] (wd D l 1) with
   |none=>none
   |some (ws,b)=>match chDr D l c M ws b with
    |none=>none
    |some (ws,b)=>some (ws++ [(l*64+8,b)]):=by unfold actN;rw [if_neg oM]
  apply f144_l1_rule (I:=fun x y z w'=>∃(j b:Nat) (acc:List (Nat×Nat)),z= .int .i64 (j:Int)∧y= .int .u64 (b:Int)∧b<18446744073709551616∧j≤L.length∧acc.length=j∧SlO w' 98 2 x acc.length (wrL acc)∧Frm Nob (w.alloc (chO Y l c o g)) w'∧NewV (w.alloc (chO Y l c o g)).heap.size x∧chT D l c (L.drop j) (ks.drop j) acc b=chT D l c L ks [] (wd D l 1)) (μ:=fun _ _ z _=>L.length-(intOf z).toNat)
  ·exact ⟨0,wd D l 1,[],rfl,rfl,hy,by omega,rfl,SlO.nil _ _ _,Frm.of_ext he1,(fun b hb=>by cases hb),rfl⟩
  ·intros;rename_i w2 hI E1 hE
   obtain ⟨j,b,acc,rfl,rfl,hb,hj,ha,sp,f2,n2,hch⟩:=hI
   have he2:Ext (w.alloc (chO Y l c o g)) w2:=f2.to_ext (fun _ _ h=>h)
   have e2:Ext w w2:=e0.trans he2
   obtain ⟨c0,c1,c2,c3,c4⟩:=chCells he2
   obtain ⟨pa,pc,rfl,hpc⟩:=sp.isS'
   by_cases hjl:j<L.length
   ·obtain ⟨sb,so,sc,ev1,hc⟩:=(hL.ext e2).get (i64L_get hjl)
    injection ev1 with ev1 _ ev2;subst ev1;subst ev2
    have hv:=vL L[j] (List.getElem_mem hjl)
    have hkm:=hks (ks[j]'oM) (List.getElem_mem _)
    have hku:=(hk.ext e2).get (u8L_get (l:=ks) (j:=j) oM)
    rw [chT_drop hjl lk] at hch
    generalize L[j]=x at hch hc hv
    generalize ks[j]'oM=kj at hch hkm hku
    obtain ⟨i,rfl⟩:∃i:Nat,x=(i:Int):=⟨x.toNat,by omega⟩
    rw [Int.toNat_natCast] at hch
    obtain ⟨kb,ko,kc,rfl,hkc⟩:=hku
    rw [l3]
    unfold f144_l1_t
    simp (disch:=try exact dZ) only [↓RBp,↓RA,↓reduceIte,Nat.reduceAdd,Nat.reduceMul,Nat.reduceEqDiff,RB,RX,RA2,hc,c0,c1,c2,c3,c4]
    refine k_read (h.ext e2) o g i hv.2 _ (fun w3 he3=> ?_)
    have e3:Ext w w3:=e2.trans he3
    have he13:=he2.trans he3
    have dd:=chCells he13
    have d0:=dd.1
    have d1:=dd.2.1
    have d2:=dd.2.2.1
    have d3:=dd.2.2.2.1
    have d4:=dd.2.2.2.2
    have hkc3:=he3.cell_some hkc
    have ltk:=lt_of_cell hkc3
    have lt3:w.heap.size<w3.heap.size:=lt_of_cell d0
    have b1:=bG_lt (wd D l (offN c i))
    have b2:=bK_lt (wd D l (offN c i))
    have bad:tkOk D l c i=false→∀w',Ext w w'→K (.tuple #[.slice none 0 0,.bool false]) w':=by
     intro hf
     rw [if_neg (by simp [hf])] at hch
     exact hno (by rw [hact,←hch])
    by_cases t1:isS (wd D l (offN c i))=true
    ·by_cases t2:bitB (wd D l 1) i=true
     ·simp (disch:=try exact dZ) only [↓RBp,↓RA,↓reduceIte,Nat.reduceAdd,Nat.reduceMul,Nat.reduceEqDiff,RB,RX,RA2,t1,t2]
      exact bad (by simp [tkOk,t2]) _ xZ
     ·have t2:bitB (wd D l 1) i=false:=by simpa using t2
      by_cases t3:bS (wd D l (offN c i))=176
      ·by_cases t4:goodB (bG (wd D l (offN c i))) (bK (wd D l (offN c i))) 176=true
       ·have hok:tkOk D l c i=true:=by simp [tkOk,t1,t2,t3,t4]
        rw [if_pos hok] at hch
        have hpw:=pow_lt64 (show i<64 by omega)
        have hs1:1*2^i%18446744073709551616=2^i:=by rw [Nat.one_mul];exact Nat.mod_eq_of_lt hpw
        have hor:=or_lt64 hb hpw
        (repeat' (first|(with_reducible first|refine brS_mk (fun _=> ?_) (fun _=> ?_)|refine And.intro ?_ ?_)|(simp (disch:=try exact dX) only [↓RBp,↓RA,↓reduceIte,Nat.reduceAdd,Nat.reduceMul,Nat.reduceEqDiff,RB,RX,RA2,t1,t2,t3,c_good,t4,hkc3,d0,d1,d2,d3,d4,hat,hbw])))
        refine app_new elWrite (w0:=w.alloc (chO Y l c o g)) ((sp.ext he3).ext xZ) ((f2.ext he3).ext xZ) n2 (m:=1) (news:=wrL [tkW D l c i kj]) (by simp [wrL,tkW]) ?_ rfl oM oM oM (fun v' w4 hsp hf4 n4 _ _=> ?_)
        ·intro q u hq
         rw [Nat.zero_add,cell_drew,cell_new _ _ _ _ _ (by simp only [RZ])]
         simpa [wrL,tkW,u64] using hq
        simp (disch:=try exact dZ) only [↓RBp,↓RA,↓reduceIte,Nat.reduceAdd,Nat.reduceMul,Nat.reduceEqDiff,RB,RX,RA2,hs1]
        apply hE
        ·refine ⟨j+1,_,acc++ [tkW D l c i kj],by simp,rfl,hor,by omega,by simp [ha],?_,hf4,n4,hch⟩
         rw [wrL_append,List.length_append];exact hsp
        ·simp [intOf];omega
       ·have t4:goodB (bG (wd D l (offN c i))) (bK (wd D l (offN c i))) 176=false:=by simpa using t4
        simp (disch:=try exact dZ) only [↓RBp,↓RA,↓reduceIte,Nat.reduceAdd,Nat.reduceMul,Nat.reduceEqDiff,RB,RX,RA2,t1,t2,t3,c_good,t4]
        exact bad (by simp [tkOk,t3,t4]) _ xZ
      ·simp (disch:=try exact dZ) only [↓RBp,↓RA,↓reduceIte,Nat.reduceAdd,Nat.reduceMul,Nat.reduceEqDiff,RB,RX,RA2,t1,t2,t3]
       exact bad (by simp [tkOk,t3]) _ xZ
    ·have t1:isS (wd D l (offN c i))=false:=by simpa using t1
     simp (disch:=try exact dZ) only [↓RBp,↓RA,↓reduceIte,Nat.reduceAdd,Nat.reduceMul,Nat.reduceEqDiff,RB,RX,RA2,t1]
     exact bad (by simp [tkOk,t1]) _ xZ
   ·have hjL:j=L.length:=by omega
    subst hjL
    have hd1:L.drop L.length= []:=List.drop_length
    rw [hd1] at hch
    have hch2:chT D l c L ks [] (wd D l 1)=some (acc,b):=by rw [←hch];simp [chT]
    rw [hch2] at hact
    simp only at hact
    unfold f144_l1_t
    simp (disch:=try exact dZ) only [↓RBp,↓RA,↓reduceIte,Nat.reduceAdd,Nat.reduceMul,Nat.reduceEqDiff,RB,RX,RA2,f144_k1_eq,f144_k1_t]
    apply f144_l2_rule (I:=fun x y z w'=>∃(j b':Nat) (acc':List (Nat×Nat)),z= .int .i64 (j:Int)∧y= .int .u64 (b':Int)∧b'<18446744073709551616∧j≤M.length∧acc'.length=L.length+j∧SlO w' 98 2 x acc'.length (wrL acc')∧Frm Nob (w.alloc (chO Y l c o g)) w'∧NewV (w.alloc (chO Y l c o g)).heap.size x∧chDr D l c (M.drop j) acc' b'=chDr D l c M acc b) (μ:=fun _ _ z _=>M.length-(intOf z).toNat)
    ·exact ⟨0,b,acc,rfl,rfl,hb,by omega,ha,sp,f2,n2,rfl⟩
    ·intros;rename_i w3 hI3 E3 hE3
     obtain ⟨j,b',acc',rfl,rfl,hb',hj',ha',sp3,f3,n3,hch3⟩:=hI3
     have he3:Ext (w.alloc (chO Y l c o g)) w3:=f3.to_ext (fun _ _ h=>h)
     have e3:Ext w w3:=e0.trans he3
     obtain ⟨c0,c1,c2,c3,c4⟩:=chCells he3
     obtain ⟨pa3,pc3,rfl,hpc3⟩:=sp3.isS'
     by_cases hjM:j<M.length
     ·obtain ⟨sb,so,sc,ev1,hc⟩:=(hM.ext e3).get (i64L_get hjM)
      injection ev1 with ev1 _ ev2;subst ev1;subst ev2
      have hv:=vM M[j] (List.getElem_mem hjM)
      rw [chDr_drop hjM] at hch3
      generalize M[j]=x at hch3 hc hv
      obtain ⟨i,rfl⟩:∃i:Nat,x=(i:Int):=⟨x.toNat,by omega⟩
      rw [Int.toNat_natCast] at hch3
      unfold f144_l2_t
      simp (disch:=try exact dZ) only [↓RBp,↓RA,↓reduceIte,Nat.reduceAdd,Nat.reduceMul,Nat.reduceEqDiff,RB,RX,RA2,hc,c0,c1,c2,c3,c4]
      refine k_read (h.ext e3) o g i hv.2 _ (fun w4 he4=> ?_)
      have e4:Ext w w4:=e3.trans he4
      have he14:=he3.trans he4
      have dd:=chCells he14
      have d0:=dd.1
      have d1:=dd.2.1
      have d2:=dd.2.2.1
      have d3:=dd.2.2.2.1
      have d4:=dd.2.2.2.2
      have lt4:w.heap.size<w4.heap.size:=lt_of_cell d0
      have b1:=bG_lt (wd D l (offN c i))
      have b2:=freG_lt b1
      have b3:=freS_lt (bG (wd D l (offN c i)))
      have bad:dpOk D l c i=false→∀w',Ext w w'→K (.tuple #[.slice none 0 0,.bool false]) w':=by
       intro hf
       rw [if_neg (by simp [hf])] at hch3
       exact hno (by rw [hact,←hch3])
      by_cases t1:isS (wd D l (offN c i))=true
      ·by_cases t2:bitB (wd D l 1) i=true
       ·by_cases t3:bS (wd D l (offN c i))=177
        ·have hok:dpOk D l c i=true:=by simp [dpOk,t1,t2,t3]
         rw [if_pos hok] at hch3
         have hpw:=pow_lt64 (show i<64 by omega)
         have hs1:1*2^i%18446744073709551616=2^i:=by rw [Nat.one_mul];exact Nat.mod_eq_of_lt hpw
         have han:b'&&&(18446744073709551615^^^2^i)<18446744073709551616:=Nat.lt_of_le_of_lt Nat.and_le_left hb'
         have rAN:∀(w:World) (k:K1),ev prog (binM .andNot 26 (.tmp 120) (.tmp 123) (.int .u64 (b':Int)) (.int .u64 ((2^i:Nat):Int))) w k=k (.int .u64 ((b'&&&(18446744073709551615^^^2^i):Nat):Int)) w:=fun w k=>ev_of_run (run_andNot _ _ _ b' (2^i) w hb' hpw) k
         (repeat' (first|(with_reducible first|refine brS_mk (fun _=> ?_) (fun _=> ?_)|refine And.intro ?_ ?_)|(simp (disch:=try exact dX) only [↓RBp,↓RA,↓reduceIte,Nat.reduceAdd,Nat.reduceMul,Nat.reduceEqDiff,RB,RX,RA2,t1,t2,t3,c_freed,d0,d1,d2,d3,d4,hat,hbw])))
         refine app_new elWrite (w0:=w.alloc (chO Y l c o g)) ((sp3.ext he4).ext xZ) ((f3.ext he4).ext xZ) n3 (m:=1) (news:=wrL [dpW D l c i]) (by simp [wrL,dpW]) ?_ rfl oM oM oM (fun v' w5 hsp hf5 n5 hfr5 _=> ?_)
         ·intro q u hq
          rw [Nat.zero_add,cell_drew,cell_new _ _ _ _ _ (by simp only [RZ])]
          simpa [wrL,dpW,u64] using hq
         have ltq:∀q,(Value.slice pa3 acc'.length pc3).ownBlock=some q→q<w4.heap.size:=fun q hq=>(sp3.ext he4).lt hq
         have cq:w5.cell? ⟨w4.heap.size,2,none⟩=some (.int .u8 ((freS (bG (wd D l (offN c i))):Nat):Int)):=by
          rw [hfr5.cell w4.heap.size 2 (by simp only [RZ];omega) (fun hq=>by have:=ltq _ hq;omega)]
          simp (disch:=try exact dZ) only [↓RBp,↓RA,↓reduceIte,Nat.reduceAdd,Nat.reduceMul,Nat.reduceEqDiff,RB,RX,RA2]
         by_cases hfs:freS (bG (wd D l (offN c i)))=176
         ·have hdB:dpB D l c i b'=b'&&&(18446744073709551615^^^2^i):=by unfold dpB;rw [if_pos hfs]
          rw [hfs] at cq
          simp (disch:=try exact dZ) only [↓RBp,↓RA,↓reduceIte,Nat.reduceAdd,Nat.reduceMul,Nat.reduceEqDiff,RB,RX,RA2,cq,hs1,rAN,f144_k3_eq,f144_k3_t]
          apply hE3
          ·refine ⟨j+1,_,acc'++ [dpW D l c i],by simp,rfl,han,by omega,by simp [ha'];omega,?_,hf5,n5,by rw [←hdB];exact hch3⟩
           rw [wrL_append,List.length_append];exact hsp
          ·simp [intOf];omega
         ·have hdB:dpB D l c i b'=b':=by unfold dpB;rw [if_neg hfs]
          rw [hdB] at hch3
          simp (disch:=try exact dZ) only [↓RBp,↓RA,↓reduceIte,Nat.reduceAdd,Nat.reduceMul,Nat.reduceEqDiff,RB,RX,RA2,cq,hfs,f144_k3_eq,f144_k3_t]
          apply hE3
          ·refine ⟨j+1,_,acc'++ [dpW D l c i],by simp,rfl,hb',by omega,by simp [ha'];omega,?_,hf5,n5,hch3⟩
           rw [wrL_append,List.length_append];exact hsp
          ·simp [intOf];omega
        ·simp (disch:=try exact dZ) only [↓RBp,↓RA,↓reduceIte,Nat.reduceAdd,Nat.reduceMul,Nat.reduceEqDiff,RB,RX,RA2,t1,t2,t3]
         exact bad (by simp [dpOk,t3]) _ xZ
       ·have t2:bitB (wd D l 1) i=false:=by simpa using t2
        simp (disch:=try exact dZ) only [↓RBp,↓RA,↓reduceIte,Nat.reduceAdd,Nat.reduceMul,Nat.reduceEqDiff,RB,RX,RA2,t1,t2]
        exact bad (by simp [dpOk,t2]) _ xZ
      ·have t1:isS (wd D l (offN c i))=false:=by simpa using t1
       simp (disch:=try exact dZ) only [↓RBp,↓RA,↓reduceIte,Nat.reduceAdd,Nat.reduceMul,Nat.reduceEqDiff,RB,RX,RA2,t1]
       exact bad (by simp [dpOk,t1]) _ xZ
     ·have hjM':j=M.length:=by omega
      subst hjM'
      rw [List.drop_length] at hch3
      have hch4:chDr D l c M acc b=some (acc',b'):=by rw [←hch3];simp [chDr]
      rw [hch4] at hact
      simp only at hact
      have lt3:w.heap.size<w3.heap.size:=lt_of_cell c0
      have hl':=h.hl;have hn':=h.n
      unfold f144_l2_t
      simp (disch:=try exact dX) only [↓RBp,↓RA,↓reduceIte,Nat.reduceAdd,Nat.reduceMul,Nat.reduceEqDiff,RB,RX,RA2,c0,c1,c2,c3,c4,c_line,Int.toNat_natCast,f144_k2_eq,f144_k2_t]
      refine app_new elWrite (w0:=w.alloc (chO Y l c o g)) (sp3.ext xZ) (f3.ext xZ) n3 (m:=1) (news:=wrL [(l*64+8,b')]) (by simp [wrL]) ?_ rfl oM oM oM (fun v' w5 hsp hf5 n5 hfr5 _=> ?_)
      ·intro q u hq
       rw [Nat.zero_add,cell_new _ _ _ _ _ (by simp only [RZ])]
       simpa [wrL,u64] using hq
      try simp (disch:=try exact dZ) only [↓RBp,↓RA,↓reduceIte,Nat.reduceAdd,Nat.reduceMul,Nat.reduceEqDiff,RB,RX,RA2]
      refine hyes _ hact v' w5 (e0.trans (hf5.to_ext (fun _ _ h=>h))) (fun q hq=>Nat.le_trans s0 (n5 q hq)) ?_
      rw [wrL_append,List.length_append];exact hsp
 by_cases hL0:L.length=0
 ·by_cases hM0:M.length=0
  ·simp (disch:=try exact dZ) only [↓RBp,↓RA,↓reduceIte,Nat.reduceAdd,Nat.reduceMul,Nat.reduceEqDiff,RB,RX,RA2,hL0,hM0]
   exact hyes [] (by unfold actN;rw [if_pos ⟨hL0,hM0⟩]) _ _ xZ (fun b hb=>by cases hb) (SlO.nil _ _ _)
  ·have hz:((L.length:Nat):Int)=0:=by omega
   have hnz:¬((M.length:Nat):Int)=0:=by omega
   simp (disch:=try exact dX) only [↓RBp,↓RA,↓reduceIte,Nat.reduceAdd,Nat.reduceMul,Nat.reduceEqDiff,RB,RX,RA2,dec_true hz,dec_false hnz,hbt]
   exact main oM _ xZ
 ·have hnz:¬((L.length:Nat):Int)=0:=by omega
  simp (disch:=try exact dX) only [↓RBp,↓RA,↓reduceIte,Nat.reduceAdd,Nat.reduceMul,Nat.reduceEqDiff,RB,RX,RA2,dec_false hnz,hbt]
  exact main oM _ xZ
end
structure On (D:DS):Prop where
 off:D.off=false
 arm:D.armed=false
 err:D.err 0=0
section
variable {D:DS}
theorem On.runs (h:On D):D.runs true=true:=by simp [DS.runs,h.off,h.arm]
theorem On.counted (h:On D):D.counted 0 true={D with exe:=D.exe+1}:=by
 rw [DS.counted_run h.runs,if_neg (by simp [h.arm])]
theorem On.store (h:On D) (off v:Nat) (hv:vOff D off=true):D.store 0 off v=({D with exe:=D.exe+1}:DS).write off v:=by
 unfold DS.store;rw [hv,if_pos h.runs,h.counted]
theorem On.storeOn (h:On D) (off v:Nat) (hv:vOff D off=true):On (D.store 0 off v):=by
 rw [h.store off v hv];exact ⟨h.off,h.arm,h.err⟩
theorem On.storeCur (h:On D) (off v:Nat) (hv:vOff D off=true):(D.store 0 off v).cur=fun j=>if j=off/8 then v else D.cur j:=by
 rw [h.store off v hv];rfl
theorem On.flush (h:On D) (off:Nat) (hv:fOff D off=true):D.flush 0 off=({D with exe:=D.exe+1}:DS).note 0 ((off/64:Nat):Int) (D.done (off/64)+(D.hist (off/64)).length):=by
 unfold DS.flush;rw [hv,if_pos h.runs,h.counted]
theorem On.flushOn (h:On D) (off:Nat) (hv:fOff D off=true):On (D.flush 0 off):=by
 rw [h.flush off hv];exact ⟨h.off,h.arm,h.err⟩
theorem On.flushCur (h:On D) (off:Nat) (hv:fOff D off=true):(D.flush 0 off).cur=D.cur:=by
 rw [h.flush off hv];rfl
theorem On.fence (h:On D):D.fence 0=(({D with exe:=D.exe+1}:DS).parts (D.due 0)).clr 0:=by
 unfold DS.fence;rw [if_pos h.runs,h.counted]
theorem On.fenceOn (h:On D):On (D.fence 0):=by
 rw [h.fence];exact ⟨h.off,h.arm,h.err⟩
theorem On.fenceCur (h:On D):(D.fence 0).cur=D.cur:=by
 rw [h.fence];rfl
theorem On.zero (n:Nat):On (DS.zero n):=⟨rfl,rfl,rfl⟩
theorem run_cons (D:DS) (i:Ins) (p:List Ins):D.run 0 (i::p)=(D.exec 0 i).run 0 p:=rfl
theorem On.runW:∀(ws:List (Nat×Nat)) (D:DS),On D→(∀x∈ws,x.1%8=0∧x.1<D.n*64)→On (D.run 0 (ws.map wrI))∧(D.run 0 (ws.map wrI)).cur=applyH ws D.cur:=by
 intro ws
 induction ws with
 |nil=>intro D h _;exact ⟨h,rfl⟩
 |cons x ws ih=>
  intro D h hv
  rw [List.map_cons,run_cons]
  have e:D.exec 0 (wrI x)=D.store 0 x.1 x.2:=rfl
  have hx:vOff D x.1=true:=by simp [vOff,hv x (by simp)]
  rw [e]
  have hn:=store_n D 0 x.1 x.2
  have:=ih (D.store 0 x.1 x.2) (h.storeOn _ _ hx) (fun y hy=>by rw [hn];exact hv y (by simp [hy]))
  refine ⟨this.1,?_⟩
  rw [this.2,h.storeCur _ _ hx];rfl
theorem On.runF:∀(ls:List Nat) (D:DS),On D→(∀x∈ls,x<D.n*64)→On (D.run 0 (ls.map flI))∧(D.run 0 (ls.map flI)).cur=D.cur:=by
 intro ls
 induction ls with
 |nil=>intro D h _;exact ⟨h,rfl⟩
 |cons x ls ih=>
  intro D h hv
  rw [List.map_cons,run_cons]
  have e:D.exec 0 (flI x)=D.flush 0 x:=rfl
  have hx:fOff D x=true:=by simp [fOff,hv x (by simp)]
  rw [e]
  have hn:=flush_n D 0 x
  have:=ih (D.flush 0 x) (h.flushOn _ hx) (fun y hy=>by rw [hn];exact hv y (by simp [hy]))
  exact ⟨this.1,this.2.trans (h.flushCur _ hx)⟩
theorem kpN_mem (d:Array Nat):∀n,n≤d.size→∀x∈kpN d n,x∈d.toList:=by
 intro n
 induction n with
 |zero=>intro _ x hx;simp [kpN] at hx
 |succ n ih=>
  intro hn x hx
  simp only [kpN,List.mem_append] at hx
  rcases hx with hx|hx
  ·exact ih oM x hx
  ·split at hx
   ·simp only [List.mem_singleton] at hx
    subst hx
    rw [getElem!_pos d n oM]
    simp
   ·cases hx
theorem cmpN_mem {l:List Nat} {x:Nat} (h:x∈cmpN l):x∈l:=by
 have:=kpN_mem l.toArray l.length (by simp) x h
 simpa using this
theorem storesI_line {ws:List (Nat×Nat)} {x:Nat} (h:x∈cmpN (srtN (ws.map fun x=>lineS x.1))):∃y∈ws,x=lineS y.1:=by
 have h1:=cmpN_mem h
 have h2:=(srtN_perm _).mem_iff.1 h1
 obtain ⟨y,hy,rfl⟩:=List.mem_map.1 h2
 exact ⟨y,hy,rfl⟩
theorem On.stores (h:On D) (ws:List (Nat×Nat)) (hv:∀x∈ws,x.1%8=0∧x.1<D.n*64):On (D.run 0 (storesI ws))∧(D.run 0 (storesI ws)).cur=applyH ws D.cur:=by
 unfold storesI
 rw [run_append,run_append]
 have h1:=On.runW ws D h hv
 have n1:=run_n 0 (ws.map wrI) D
 have h2:=On.runF (cmpN (srtN (ws.map fun x=>lineS x.1))) (D.run 0 (ws.map wrI)) h1.1 (fun x hx=>by
  obtain ⟨y,hy,rfl⟩:=storesI_line hx
  have:=hv y hy
  rw [n1];unfold lineS;omega)
 refine ⟨h2.1.fenceOn,?_⟩
 show (DS.fence _ 0).cur=_
 rw [h2.1.fenceCur,h2.2,h1.2]
theorem okI_stores {ws:List (Nat×Nat)} (h:∀x∈ws,x.1<18446744073709551616∧x.2<18446744073709551616):∀i∈storesI ws,okI i:=by
 intro i hi
 simp only [storesI,List.mem_append,List.mem_map,List.mem_singleton] at hi
 rcases hi with (⟨x,hx,rfl⟩|⟨x,hx,rfl⟩)|rfl
 ·have:=h x hx;exact ⟨by simp [wrI],by simp [wrI],this.1,this.2⟩
 ·obtain ⟨y,hy,rfl⟩:=storesI_line hx
  have:=h y hy
  exact ⟨by simp [flI],by simp [flI],by simp only [flI,lineS];omega,by simp [flI]⟩
 ·exact ⟨by simp,by simp,by simp,by simp⟩
end
theorem seal_lo (x:Nat) (h:x<4294967296):sealN x%4294967296=x:=by unfold sealN;omega
theorem isS_seal {x:Nat} (h:x<4294967296):isS (sealN x)=true:=by unfold isS;rw [seal_lo x h];simp
theorem gX_seal (x:Nat):gX (sealN x)=gX x:=by unfold gX sealN;omega
theorem kX_seal (x:Nat):kX (sealN x)=kX x:=by unfold kX sealN;omega
theorem sX_seal (x:Nat):sX (sealN x)=sX x:=by unfold sX sealN;omega
theorem hC_seal (x:Nat):hC (sealN x)=hC x:=by unfold hC sealN;omega
theorem hO_seal (x:Nat):hO (sealN x)=hO x:=by unfold hO sealN;omega
section
variable {g k s:Nat}
theorem blkX_lt (hg:g<65536) (hk:k<256) (hs:s<256):blkX g k s<4294967296:=by unfold blkX;omega
theorem isS_blk (hg:g<65536) (hk:k<256) (hs:s<256):isS (sealN (blkX g k s))=true:=isS_seal (blkX_lt hg hk hs)
theorem bG_blk (hg:g<65536) (hk:k<256) (hs:s<256):bG (sealN (blkX g k s))=g:=by unfold bG;rw [isS_blk hg hk hs,if_pos rfl,gX_seal];unfold gX blkX;omega
theorem bK_blk (hg:g<65536) (hk:k<256) (hs:s<256):bK (sealN (blkX g k s))=k:=by unfold bK;rw [isS_blk hg hk hs,if_pos rfl,kX_seal];unfold kX blkX;omega
theorem bS_blk (hg:g<65536) (hk:k<256) (hs:s<256):bS (sealN (blkX g k s))=s:=by unfold bS;rw [isS_blk hg hk hs,if_pos rfl,sX_seal];unfold sX blkX;omega
end
section
variable {c o:Int} {g:Nat}
theorem hdX_lt (hc: -1≤c) (hc':c<5) (ho: -1≤o) (ho':o<8) (hg:g<65536):hdX c o g<4294967296:=by unfold hdX;split<;>omega
theorem hd_ok (hc:0≤c) (hc':c<5) (ho:0≤o) (ho':o<8) (hg:g≠0) (hg':g<65536):hdOk (sealN (hdX c o g))=true∧hC (sealN (hdX c o g))=c∧hO (sealN (hdX c o g))=o∧gX (sealN (hdX c o g))=g:=by
 have h1:hC (sealN (hdX c o g))=c:=by rw [hC_seal];unfold hC hdX;rw [if_pos hc];omega
 have h2:hO (sealN (hdX c o g))=o:=by rw [hO_seal];unfold hO hdX;rw [if_pos hc];omega
 have h3:gX (sealN (hdX c o g))=g:=by rw [gX_seal];unfold gX hdX;rw [if_pos hc];omega
 have h4:sX (sealN (hdX c o g))=197:=by rw [sX_seal];unfold sX hdX;rw [if_pos hc];omega
 refine ⟨?_,h1,h2,h3⟩
 unfold hdOk
 rw [h1,h2,h3,h4,isS_seal (hdX_lt oM hc' oM ho' hg')]
 simp [hg,fmtB,hc,hc',ho,ho']
theorem hd_free (hg:g≠0) (hg':g<65536):hdOk (sealN (hdX (-1) (-1) g))=true∧hC (sealN (hdX (-1) (-1) g))= -1∧hO (sealN (hdX (-1) (-1) g))= -1∧gX (sealN (hdX (-1) (-1) g))=g:=by
 have e:hdX (-1) (-1) g=g+3305111552:=by unfold hdX;rw [if_neg oM]
 have h1:hC (sealN (hdX (-1) (-1) g))= -1:=by rw [hC_seal,e];unfold hC;omega
 have h2:hO (sealN (hdX (-1) (-1) g))= -1:=by rw [hO_seal,e];unfold hO;omega
 have h3:gX (sealN (hdX (-1) (-1) g))=g:=by rw [gX_seal,e];unfold gX;omega
 have h4:sX (sealN (hdX (-1) (-1) g))=197:=by rw [sX_seal,e];unfold sX;omega
 refine ⟨?_,h1,h2,h3⟩
 unfold hdOk
 rw [h1,h2,h3,h4,isS_seal (hdX_lt oM oM oM oM hg')]
 simp [hg]
end
theorem rd_mf {P:Program} (f:Fn) (a c:Array Value) (w:World) (k:Value→Prop):rd P (Instr.makeFunc f a c) w k=k (.func f a c):=rd_of_run rfl k
theorem ag_mf {P:Program} (f:Fn) (a c:Array Value) (w:World) (u:Value):ag P (Instr.makeFunc f a c) w u=(Value.func f a c=u):=ag_of_run rfl u
theorem nilR_Load (b i:Nat) (w:World) (k:Value→Prop):nilR prog (.func (.method "Load") #[.iface 31 (.pointer (some ⟨b,i,none⟩))] #[]) w k=k (.func (.method "Load") #[.iface 31 (.pointer (some ⟨b,i,none⟩))] #[]):=by
 have h:(execOp (fun _=>(.func (.method "Load") #[.iface 31 (.pointer (some ⟨b,i,none⟩))] #[])) nilOp).run prog w= .ok (.value (.func (.method "Load") #[.iface 31 (.pointer (some ⟨b,i,none⟩))] #[])) w:=by kernel_rfl
 unfold nilR;rw [h];simp
abbrev thV (Y:Lay):Value:= .iface 31 (.pointer (some ⟨Y.tb 0,0,none⟩))
section
variable {w w':World} {Y:Lay} {D:DS}
theorem cells5 {b t:Nat} {f:Nat→Value} (h:Cells w b t 5 f) (v0 v1 v2 v3 v4:Value):(((((w.setCell ⟨b,0,none⟩ v0).setCell ⟨b,1,none⟩ v1).setCell ⟨b,2,none⟩ v2).setCell ⟨b,3,none⟩ v3).setCell ⟨b,4,none⟩ v4).cell? ⟨b,0,none⟩=some v0∧(((((w.setCell ⟨b,0,none⟩ v0).setCell ⟨b,1,none⟩ v1).setCell ⟨b,2,none⟩ v2).setCell ⟨b,3,none⟩ v3).setCell ⟨b,4,none⟩ v4).cell? ⟨b,1,none⟩=some v1∧(((((w.setCell ⟨b,0,none⟩ v0).setCell ⟨b,1,none⟩ v1).setCell ⟨b,2,none⟩ v2).setCell ⟨b,3,none⟩ v3).setCell ⟨b,4,none⟩ v4).cell? ⟨b,2,none⟩=some v2∧(((((w.setCell ⟨b,0,none⟩ v0).setCell ⟨b,1,none⟩ v1).setCell ⟨b,2,none⟩ v2).setCell ⟨b,3,none⟩ v3).setCell ⟨b,4,none⟩ v4).cell? ⟨b,3,none⟩=some v3∧(((((w.setCell ⟨b,0,none⟩ v0).setCell ⟨b,1,none⟩ v1).setCell ⟨b,2,none⟩ v2).setCell ⟨b,3,none⟩ v3).setCell ⟨b,4,none⟩ v4).cell? ⟨b,4,none⟩=some v4:=by
 have h3:=((((h.set v0 (i:=0) oM).set v1 (i:=1) oM).set v2 (i:=2) oM).set v3 (i:=3) oM).set v4 (i:=4) oM
 exact ⟨h3.cell (i:=0) oM,h3.cell (i:=1) oM,h3.cell (i:=2) oM,h3.cell (i:=3) oM,h3.cell (i:=4) oM⟩
theorem k_Look (h:Dv w Y D) (g:Good D) (hG:Glob w) (ho:D.off=false) (he:D.err 0=0) (l:Nat) (hl:l+32≤D.n) (hok:hdOk (wd D l 0)=true) (K:K1)
  (hK:∀w',Ext w w'→K (.tuple #[.agg #[.int .i64 (hC (wd D l 0)),.int .i64 (hO (wd D l 0)),.int .u16 (gX (wd D l 0):Int)],.int .i64 0]) w'):
  callS prog 129 #[thV Y,.int .i64 (l:Int)] w K:=by
 have hn:=g.n
 have hsz:∀(w1:World) (K:K1),Ext w w1→callS prog 105 #[.pointer (some ⟨Y.tb 0,0,none⟩)] w1 K=K (.int .u64 ((D.n*64:Nat):Int)) w1:=fun w1 K e=>c_TSize (h.ext e) g 0 oM K
 have her:∀(w1:World) (K:K1),Ext w w1→callS prog 28 #[.pointer (some ⟨Y.tb 0,0,none⟩)] w1 K=K (.int .i64 0) w1:=fun w1 K e=>by rw [c_Err (h.ext e) 0 oM K,he]
 have hld:∀(w1:World) (K:K1),Ext w w1→callS prog 32 #[.pointer (some ⟨Y.tb 0,0,none⟩),.int .u64 ((l*64:Nat):Int)] w1 K=K (.int .u64 (wd D l 0:Int)) w1:=fun w1 K e=>by
  rw [c_Load (h.ext e) g 0 oM ho (l*64) oM oM K,show l*64/8=l*8+0 by omega];unfold wd;rfl
 have hx:wd D l 0<18446744073709551616:=by unfold wd;exact g.cur _ oM
 have hq:D.n*64/64=D.n:=by omega
 generalize wd D l 0=x at*
 refine f129_call _ _ _ _ ?_
 unfold thV f129_t
 (repeat' (first|(with_reducible first|refine brS_mk (fun _=> ?_) (fun _=> ?_)|refine And.intro ?_ ?_)|(simp (disch:=try exact dX) only [↓RBp,↓RA,↓reduceIte,Nat.reduceAdd,Nat.reduceMul,Nat.reduceEqDiff,RB,RX,RA2,hsz,her,hld,hq,c_line,Int.toNat_natCast,rd_mf,ag_mf,nilR_Load])))
 refine k_header x _ _ (hG.ext xZ) hx (fun w1 he1=> ?_)
 have e1:Ext w w1:=Ext.trans xZ he1
 have hC0:Cells w1 w.heap.size 132 3 (fun i=> [Value.int .i64 0,.int .i64 0,.int .u16 ((0:Nat):Int)].getD i undef):=by
  have:=(Cells.new w [Value.int .i64 0,.int .i64 0,.int .u16 ((0:Nat):Int)] 132)
  exact this.ext (Ext.trans xZ he1)
 have c0:=hC0.cell (i:=0) oM
 have c1:=hC0.cell (i:=1) oM
 have c2:=hC0.cell (i:=2) oM
 have lt1:=hC0.lt
 rw [hok]
 unfold hdV
 have ob1:=cells3 hC0 (.int .i64 (hC x)) (.int .i64 (hO x)) (.int .u16 (gX x:Int));have d0:=ob1.1;have d1:=ob1.2.1;have d2:=ob1.2.2.1;have hD:=ob1.2.2.2
 simp (disch:=try exact dZ) only [↓RBp,↓RA,↓reduceIte,Nat.reduceAdd,Nat.reduceMul,Nat.reduceEqDiff,RB,RX,RA2,c0,c1,c2,hC0.frz,d0,d1,d2]
 exact hK _ xZ
theorem k_LookForm (h:Dv w Y D) (g:Good D) (hG:Glob w) (ho:D.off=false) (he:D.err 0=0) (l:Nat) (hl:l+32≤D.n) (hok:hdOk (wd D l 0)=false) (K:K1)
  (hK:∀w',Ext w w'→K (.tuple #[.agg #[.int .i64 0,.int .i64 0,.int .u16 ((0:Nat):Int)],.int .i64 11]) w'):
  callS prog 129 #[thV Y,.int .i64 (l:Int)] w K:=by
 have hn:=g.n
 have hsz:∀(w1:World) (K:K1),Ext w w1→callS prog 105 #[.pointer (some ⟨Y.tb 0,0,none⟩)] w1 K=K (.int .u64 ((D.n*64:Nat):Int)) w1:=fun w1 K e=>c_TSize (h.ext e) g 0 oM K
 have her:∀(w1:World) (K:K1),Ext w w1→callS prog 28 #[.pointer (some ⟨Y.tb 0,0,none⟩)] w1 K=K (.int .i64 0) w1:=fun w1 K e=>by rw [c_Err (h.ext e) 0 oM K,he]
 have hld:∀(w1:World) (K:K1),Ext w w1→callS prog 32 #[.pointer (some ⟨Y.tb 0,0,none⟩),.int .u64 ((l*64:Nat):Int)] w1 K=K (.int .u64 (wd D l 0:Int)) w1:=fun w1 K e=>by
  rw [c_Load (h.ext e) g 0 oM ho (l*64) oM oM K,show l*64/8=l*8+0 by omega];unfold wd;rfl
 have hx:wd D l 0<18446744073709551616:=by unfold wd;exact g.cur _ oM
 have hq:D.n*64/64=D.n:=by omega
 generalize wd D l 0=x at*
 refine f129_call _ _ _ _ ?_
 unfold thV f129_t
 (repeat' (first|(with_reducible first|refine brS_mk (fun _=> ?_) (fun _=> ?_)|refine And.intro ?_ ?_)|(simp (disch:=try exact dX) only [↓RBp,↓RA,↓reduceIte,Nat.reduceAdd,Nat.reduceMul,Nat.reduceEqDiff,RB,RX,RA2,hsz,her,hld,hq,c_line,Int.toNat_natCast,rd_mf,ag_mf,nilR_Load])))
 refine k_header x _ _ (hG.ext xZ) hx (fun w1 he1=> ?_)
 have e1:Ext w w1:=Ext.trans xZ he1
 have hC0:Cells w1 w.heap.size 132 3 (fun i=> [Value.int .i64 0,.int .i64 0,.int .u16 ((0:Nat):Int)].getD i undef):=by
  have:=(Cells.new w [Value.int .i64 0,.int .i64 0,.int .u16 ((0:Nat):Int)] 132)
  exact this.ext (Ext.trans xZ he1)
 have c0:=hC0.cell (i:=0) oM
 have c1:=hC0.cell (i:=1) oM
 have c2:=hC0.cell (i:=2) oM
 have lt1:=hC0.lt
 rw [hok]
 unfold hdV
 have ob2:=cells3 hC0 (.int .i64 0) (.int .i64 0) (.int .u16 ((0:Nat):Int));have d0:=ob2.1;have d1:=ob2.2.1;have d2:=ob2.2.2.1;have hD:=ob2.2.2.2
 simp (disch:=try exact dZ) only [↓RBp,↓RA,↓reduceIte,Nat.reduceAdd,Nat.reduceMul,Nat.reduceEqDiff,RB,RX,RA2,c0,c1,c2,hC0.frz,d0,d1,d2]
 exact hK _ xZ
abbrev chZ:Value:= .agg #[.nilIface,.int .i64 0,.int .i64 0,.int .i64 0,.int .u16 ((0:Nat):Int)]
theorem k_OpenAt (h:Dv w Y D) (g:Good D) (hG:Glob w) (ho:D.off=false) (he:D.err 0=0) (l:Nat) (hl:l+32≤D.n) (hok:hdOk (wd D l 0)=true) (K:K1)
  (hK:∀w',Ext w w'→K (if hC (wd D l 0)<0 then .tuple #[chZ,.int .i64 8] else .tuple #[chV Y l (hC (wd D l 0)) (hO (wd D l 0)) (gX (wd D l 0)),.int .i64 0]) w'):
  callS prog 75 #[thV Y,.int .i64 (l:Int)] w K:=by
 refine f75_call _ _ _ _ ?_
 unfold thV f75_t
 simp (disch:=try exact dZ) only [↓RBp,↓RA,↓reduceIte,Nat.reduceAdd,Nat.reduceMul,Nat.reduceEqDiff,RB,RX,RA2]
 refine k_Look (h.ext xZ) g (hG.ext xZ) ho he l hl hok _ (fun w1 he1=> ?_)
 have e1:Ext w w1:=Ext.trans xZ he1
 have hC0:Cells w1 w.heap.size 134 5 (fun i=> [Value.nilIface,.int .i64 0,.int .i64 0,.int .i64 0,.int .u16 ((0:Nat):Int)].getD i undef):=by
  have:=(Cells.new w [Value.nilIface,.int .i64 0,.int .i64 0,.int .i64 0,.int .u16 ((0:Nat):Int)] 134)
  exact this.ext (Ext.trans xZ he1)
 have c0:=hC0.cell (i:=0) oM
 have c1:=hC0.cell (i:=1) oM
 have c2:=hC0.cell (i:=2) oM
 have c3:=hC0.cell (i:=3) oM
 have c4:=hC0.cell (i:=4) oM
 have lt1:=hC0.lt
 by_cases hc:hC (wd D l 0)<0
 ·rw [if_pos hc] at hK
  have ob4:=cells5 hC0 .nilIface (.int .i64 0) (.int .i64 0) (.int .i64 0) (.int .u16 ((0:Nat):Int));have d0:=ob4.1;have d1:=ob4.2.1;have d2:=ob4.2.2.1;have d3:=ob4.2.2.2.1;have d4:=ob4.2.2.2.2
  simp (disch:=try exact dZ) only [↓RBp,↓RA,↓reduceIte,Nat.reduceAdd,Nat.reduceMul,Nat.reduceEqDiff,RB,RX,RA2,c0,c1,c2,c3,c4,hC0.frz,d0,d1,d2,d3,d4]
  exact hK _ xZ
 ·rw [if_neg hc] at hK
  have ob5:=cells5 hC0 (.iface 31 (.pointer (some ⟨Y.tb 0,0,none⟩))) (.int .i64 (l:Int)) (.int .i64 (hC (wd D l 0))) (.int .i64 (hO (wd D l 0))) (.int .u16 (gX (wd D l 0):Int));have d0:=ob5.1;have d1:=ob5.2.1;have d2:=ob5.2.2.1;have d3:=ob5.2.2.2.1;have d4:=ob5.2.2.2.2
  simp (disch:=try exact dZ) only [↓RBp,↓RA,↓reduceIte,Nat.reduceAdd,Nat.reduceMul,Nat.reduceEqDiff,RB,RX,RA2,c0,c1,c2,c3,c4,hC0.frz,d0,d1,d2,d3,d4]
  exact hK _ xZ
end
theorem onc_valid {per:Int}:∀{L:List Int} {m m':Nat},onc per L m=some m'→∀i∈L,0≤i∧i<per:=by
 intro L
 induction L with
 |nil=>intro m m' _ i hi;cases hi
 |cons x L ih=>
  intro m m' h i hi
  simp only [onc] at h
  split at h
  ·rename_i hx
   rcases List.mem_cons.1 hi with rfl|hi
   ·exact hx.1
   ·exact ih h i hi
  ·cases h
structure ActA (c:Int) (L:List Int) (ks:List Nat) (M:List Int):Prop where
 len:ks.length=L.length
 kin:∀k∈ks,k≠0∧k≤127
 onc:((onc (perS c) L 0).bind (onc (perS c) M)).isSome=true
theorem ActA.vL {c:Int} {L M:List Int} {ks:List Nat} (h:ActA c L ks M):∀i∈L,0≤i∧i<perS c:=by
 have:=h.onc
 cases h1:Go.Proofs.YtmpehclnnjgmcaaGreatDoor.onc (perS c) L 0 with
 |none=>rw [h1] at this;cases this
 |some m=>exact onc_valid h1
theorem ActA.vM {c:Int} {L M:List Int} {ks:List Nat} (h:ActA c L ks M):∀i∈M,0≤i∧i<perS c:=by
 have:=h.onc
 cases h1:Go.Proofs.YtmpehclnnjgmcaaGreatDoor.onc (perS c) L 0 with
 |none=>rw [h1] at this;cases this
 |some m=>
  rw [h1,Option.bind_some] at this
  cases h2:Go.Proofs.YtmpehclnnjgmcaaGreatDoor.onc (perS c) M m with
  |none=>rw [h2] at this;cases this
  |some m'=>exact onc_valid h2
section
variable {w w':World} {Y:Lay} {D:DS} {l:Nat} {c o:Int} {g:Nat}
theorem k_Actions (h:Cx w Y D l c) (he:D.err 0=0) (o:Int) (g:Nat) (L M:List Int) (ks:List Nat) (v kv u:Value) {m:Nat} (hL:RdS m w v (i64L L)) (hk:RdS m w kv (u8L ks)) (hM:RdS m w u (i64L M)) (lL:L.length<1073741824) (lM:M.length<1073741824) (lk:ks.length<1073741824) (hks:∀k∈ks,k<256) (K:K1)
  (hbad:¬ActA c L ks M→∀w',Ext w w'→K (.tuple #[.slice none 0 0,.int .i64 1]) w')
  (hno:ActA c L ks M→actN D l c L ks M=none→∀w',Ext w w'→K (.tuple #[.slice none 0 0,.int .i64 8]) w')
  (hyes:ActA c L ks M→∀ws,actN D l c L ks M=some ws→∀v' w',Ext w w'→NewV w.heap.size v'→SlO w' 98 2 v' ws.length (wrL ws)→K (.tuple #[v',.int .i64 0]) w'):callS prog 98 #[chV Y l c o g,v,kv,u] w K:=by
 have her:∀(w1:World) (K:K1),Ext w w1→callS prog 28 #[.pointer (some ⟨Y.tb 0,0,none⟩)] w1 K=K (.int .i64 0) w1:=fun w1 K e=>by rw [c_Err (h.dv.ext e) 0 oM K,he]
 have l1:(i64L L).length=L.length:=by simp
 have l2:(i64L M).length=M.length:=by simp
 have l3:(u8L ks).length=ks.length:=by simp
 obtain ⟨la,lc,rfl,_⟩:=id hL
 obtain ⟨ma,mc,rfl,_⟩:=id hM
 obtain ⟨ka,kc,rfl,_⟩:=id hk
 rw [l1] at hL ⊢
 rw [l2] at hM ⊢
 rw [l3] at hk ⊢
 have e0:Ext w (w.alloc (chO Y l c o g)):=Ext.alloc_self _ _
 refine f98_call _ _ _ _ _ _ ?_
 by_cases hln:ks.length=L.length
 ·have hz:((ks.length:Nat):Int)=((L.length:Nat):Int):=by omega
  have hb2:∀j,(hj:j<ks.length)→¬(ks[j]≠0∧ks[j]≤127)→∀w',Ext w w'→K (.tuple #[.slice none 0 0,.int .i64 1]) w':=fun j hj hn=>hbad (fun ha=>hn (ha.kin _ (List.getElem_mem hj)))
  unfold f98_t
  simp (disch:=try exact dZ) only [↓RBp,↓RA,↓reduceIte,Nat.reduceAdd,Nat.reduceMul,Nat.reduceEqDiff,RB,RX,RA2,dec_true hz]
  apply f98_l1_rule (I:=fun z w'=>∃j:Nat,z= .int .i64 (j:Int)∧j≤ks.length∧(∀q,(hq:q<ks.length)→q<j→ks[q]≠0∧ks[q]≤127)∧Ext (w.alloc (chO Y l c o g)) w') (μ:=fun z _=>ks.length-(intOf z).toNat)
  ·exact ⟨0,rfl,by omega,fun q _ h=>by omega,xZ⟩
  ·intros;rename_i w1 hI E1 hE
   obtain ⟨j,rfl,hj,hgd,he1⟩:=hI
   have e1:Ext w w1:=e0.trans he1
   obtain ⟨c0,c1,c2,c3,c4⟩:=chCells he1
   by_cases hjl:j<ks.length
   ·obtain ⟨sb,so,sc,ev1,hc⟩:=(hk.ext e1).get (u8L_get hjl)
    injection ev1 with ev1 _ ev2;subst ev1;subst ev2
    have hkj:=hks ks[j] (List.getElem_mem hjl)
    have hb3:=hb2 j hjl
    have hgd':(ks[j]≠0∧ks[j]≤127)→∀q,(hq:q<ks.length)→q<j+1→ks[q]≠0∧ks[q]≤127:=by
     intro hh q hq hq1
     by_cases e:q=j
     ·subst e;exact hh
     ·exact hgd q hq oM
    generalize ks[j]=x at hc hkj hb3 hgd'
    unfold f98_l1_t
    by_cases x0:x=0
    ·subst x0
     simp (disch:=try exact dZ) only [↓RBp,↓RA,↓reduceIte,Nat.reduceAdd,Nat.reduceMul,Nat.reduceEqDiff,RB,RX,RA2,hc]
     exact hb3 (by simp) _ e1
    ·by_cases x1:x≤127
     ·simp (disch:=try exact dZ) only [↓RBp,↓RA,↓reduceIte,Nat.reduceAdd,Nat.reduceMul,Nat.reduceEqDiff,RB,RX,RA2,hc]
      apply hE
      ·exact ⟨j+1,by simp,by omega,hgd' ⟨x0,x1⟩,he1⟩
      ·simp [intOf];omega
     ·simp (disch:=try exact dZ) only [↓RBp,↓RA,↓reduceIte,Nat.reduceAdd,Nat.reduceMul,Nat.reduceEqDiff,RB,RX,RA2,hc]
      exact hb3 oM _ e1
   ·have hjk:j=ks.length:=by omega
    subst hjk
    have hkin:∀k∈ks,k≠0∧k≤127:=by
     intro k hk
     obtain ⟨q,hq,rfl⟩:=List.mem_iff_getElem.1 hk
     exact hgd q hq hq
    unfold f98_l1_t
    simp (disch:=try exact dZ) only [↓RBp,↓RA,↓reduceIte,Nat.reduceAdd,Nat.reduceMul,Nat.reduceEqDiff,RB,RX,RA2,c0,c1,c2,c3,c4,f98_k1_eq,f98_k1_t]
    refine k_once (h.ext xZ) o g L M _ _ (hL.ext xZ) (hM.ext xZ) oM oM _ _ (by simp (disch:=try exact dZ) only [↓RBp,↓RA,↓reduceIte,Nat.reduceAdd,Nat.reduceMul,Nat.reduceEqDiff,RB,RX,RA2]) (by simp (disch:=try exact dZ) only [↓RBp,↓RA,↓reduceIte,Nat.reduceAdd,Nat.reduceMul,Nat.reduceEqDiff,RB,RX,RA2]) _ (fun w2 he2=> ?_)
    have e12:Ext w1 w2:=Ext.trans xZ he2
    have e2:Ext w w2:=e1.trans e12
    have he13:=he1.trans e12
    have ob6:=chCells he13;have d0:=ob6.1;have d1:=ob6.2.1;have d2:=ob6.2.2.1;have d3:=ob6.2.2.2.1;have d4:=ob6.2.2.2.2
    cases hon:((onc (perS c) L 0).bind (onc (perS c) M)).isSome with
    |false=>
     simp (disch:=try exact dZ) only [↓RBp,↓RA,↓reduceIte,Nat.reduceAdd,Nat.reduceMul,Nat.reduceEqDiff,RB,RX,RA2]
     exact hbad (fun ha=>by have:=ha.onc;rw [hon] at this;cases this) _ e2
    |true=>
     have hA:ActA c L ks M:=⟨hln,hkin,hon⟩
     simp (disch:=try exact dX) only [↓RBp,↓RA,↓reduceIte,Nat.reduceAdd,Nat.reduceMul,Nat.reduceEqDiff,RB,RX,RA2,d0,d1,d2,d3,d4,her]
     refine k_changes (h.ext e2) o g L M ks _ _ _ (hL.ext e2) (hk.ext e2) (hM.ext e2) lL lM hln hks hA.vL hA.vM _ (fun hn w3 he3=> ?_) (fun ws hs v' w3 he3 hnv hsl=> ?_)
     ·have e3:=e2.trans he3
      have he14:=he13.trans he3
      have ob7:=chCells he14;have g0:=ob7.1;have g1:=ob7.2.1;have g2:=ob7.2.2.1;have g3:=ob7.2.2.2.1;have g4:=ob7.2.2.2.2
      simp (disch:=try exact dX) only [↓RBp,↓RA,↓reduceIte,Nat.reduceAdd,Nat.reduceMul,Nat.reduceEqDiff,RB,RX,RA2,g0,g1,g2,g3,g4,her]
      exact hno hA hn _ e3
     ·have e3:=e2.trans he3
      have he14:=he13.trans he3
      have ob8:=chCells he14;have g0:=ob8.1;have g1:=ob8.2.1;have g2:=ob8.2.2.1;have g3:=ob8.2.2.2.1;have g4:=ob8.2.2.2.2
      simp (disch:=try exact dX) only [↓RBp,↓RA,↓reduceIte,Nat.reduceAdd,Nat.reduceMul,Nat.reduceEqDiff,RB,RX,RA2,g0,g1,g2,g3,g4,her]
      exact hyes hA ws hs _ _ e3 (fun b hb=>Nat.le_trans e2.size (hnv b hb)) hsl
 ·have hnz:¬((ks.length:Nat):Int)=((L.length:Nat):Int):=by omega
  unfold f98_t
  simp (disch:=try exact dZ) only [↓RBp,↓RA,↓reduceIte,Nat.reduceAdd,Nat.reduceMul,Nat.reduceEqDiff,RB,RX,RA2,dec_false hnz]
  exact hbad (fun ha=>hln ha.len) _ xZ
end
structure Lv (w0 w:World) (Y:Lay) (D:DS):Prop where
 dv:Dv w Y D
 gd:Good D
 ex:Ext w0 w
 nw:∀x,Y.F x→w0.heap.size≤x
section
variable {w0 w w':World} {Y Y':Lay} {D D':DS} {a b c g:Nat}
theorem Lv.ext (h:Lv w0 w Y D) (e:Ext w w'):Lv w0 w' Y D:=⟨h.dv.ext e,h.gd,h.ex.trans e,h.nw⟩
theorem Ext.frm {F:Nat→Prop} (h:Ext w0 w) (f:Frm F w w') (hF:∀x,F x→w0.heap.size≤x):Ext w0 w':=
 (Frm.trans (F:=Nob) (G:=F) (Frm.of_ext h) f (fun x hx hf=>by have:=hF x hf;omega)).to_ext (fun _ _ h=>h)
theorem Lv.step (h:Lv w0 w Y D) (s:Stp w Y w' Y' D') (g:Good D'):Lv w0 w' Y' D':=by
 refine ⟨s.dv,g,Ext.frm h.ex s.frm h.nw,fun x hx=> ?_⟩
 rcases s.fr x hx with h1|h1
 ·exact h.nw x h1
 ·exact Nat.le_trans h.ex.size h1
theorem Lv.frm {G:Nat→Prop} (h:Lv w0 w Y D) (f:Frm G w w') (hG:∀b,G b→b<w0.heap.size):Dv w' Y D:=
 h.dv.frm f (fun b hb hg=>by have:=h.nw b hb;have:=hG b hg;omega)
end
theorem applyH_val {ws:List (Nat×Nat)}:∀{f:Nat→Nat} {x v:Nat},(∀y∈ws,y.1/8=x→y.2=v)→((∃y∈ws,y.1/8=x)∨f x=v)→applyH ws f x=v:=by
 induction ws with
 |nil=>
  intro f x v _ h
  rcases h with ⟨y,hy,_⟩|h
  ·cases hy
  ·exact h
 |cons z ws ih=>
  intro f x v h1 h2
  rw [applyH_cons]
  refine ih (fun y hy=>h1 y (by simp [hy])) ?_
  by_cases hx:x=z.1/8
  ·right
   simp only [hx,if_true]
   exact h1 z (by simp) hx.symm
  ·rcases h2 with ⟨y,hy,hyx⟩|h2
   ·rcases List.mem_cons.1 hy with rfl|hy
    ·exact absurd hyx.symm hx
    ·exact .inl ⟨y,hy,hyx⟩
   ·right;simp only [hx,if_false];exact h2
def isB (c:Int) (j:Nat):Bool:=(List.range (perS c).toNat).any fun i=>offN c i==j
section
variable {l g:Nat} {c o:Int}
end
section
variable {w w':World} {Y:Lay} {D:DS}
end
def DS.strs (D:DS) (ws:List (Nat×Nat)):DS:=D.run 0 (ws.map wrI)
theorem strs_on {D:DS} (h:On D) {ws:List (Nat×Nat)} (hv:∀x∈ws,x.1%8=0∧x.1<D.n*64):On (D.strs ws)∧(D.strs ws).cur=applyH ws D.cur:=On.runW ws D h hv
section
variable {w w':World} {Y:Lay} {D:DS}
theorem bit0 (i:Nat):bitB 0 i=false:=by simp [bitB]
end
section
variable {w w':World} {Y Y':Lay} {D D':DS}
theorem Lv.cx {w0:World} {l:Nat} {c:Int} (h:Lv w0 w Y D) (hG:Glob w0) (on:D.off=false) (hl:l+32≤D.n) (c0:0≤c) (c5:c<5):Cx w Y D l c:=⟨h.dv,h.gd,hG.ext h.ex,on,hl,c0,c5⟩
theorem one_get {x u:Value} {j:Nat} (h: [x][j]? =some u):j=0∧u=x:=by
 rcases j with _|j
 ·simp at h;exact ⟨rfl,h.symm⟩
 ·simp at h
end
section
variable {w w':World} {Y Y':Lay} {D D':DS}
variable {c o:Int} {g:Nat}
end
abbrev pE (p:Nat) (e:Int):Value:= .tuple #[.int .u64 (p:Int),.int .i64 e]
def sndB (D:DS) (l:Nat) (c:Int) (i:Nat):Prop:=isS (wd D l (offN c i))=true∧goodB (bG (wd D l (offN c i))) (bK (wd D l (offN c i))) (bS (wd D l (offN c i)))=true∧bitB (wd D l 1) i= !decide (bS (wd D l (offN c i))=176)
def pOff (l:Nat) (c:Int) (i:Nat):Nat:=l*64+offN c i*8+8
section
variable {w w':World} {Y:Lay} {D:DS} {l:Nat} {c o:Int} {g:Nat}
theorem bq1:(true==false)=false:=rfl
theorem bq2:(false==true)=false:=rfl
theorem bq3:(true==true)=true:=rfl
theorem bq4:(false==false)=true:=rfl
theorem c_MakeOk (off g k:Nat) (w:World) (K:K1) (h0:off≠0) (h8:off%8=0) (ho:off≤34359738360) (hg:g≠0) (hg':g<65536) (hk:k≠0) (hk':k≤127):callS prog 169 #[.int .u64 (off:Int),.int .u16 (g:Int),.int .u8 (k:Int)] w K=K (.tuple #[.int .u64 ((ptrN off g k:Nat):Int),.int .i64 0]) w:=by
 rw [c_Make off g k w K oM hg' oM]
 have e:ptrOk off g k=true:=by simp [ptrOk,h0,h8,hg,hk,hk']
 rw [if_pos ⟨e,ho⟩,if_pos e,if_pos ho]
theorem good177 {g k:Nat} (h:goodB g k 177=true):g≠0∧k≠0∧k≤127:=by simpa [goodB,and_assoc] using h
theorem good176 {g k:Nat} (h:goodB g k 176=true):g≠0∧k=0:=by simpa [goodB] using h
theorem goodS {g k s:Nat} (h:goodB g k s=true):s=176∨s=177∨s=178:=by
 unfold goodB at h
 split at h
 ·exact .inl (by assumption)
 ·split at h
  ·exact .inr (.inl (by assumption))
  ·split at h
   ·exact .inr (.inr (by assumption))
   ·cases h
theorem k_Pointer (h:Cx w Y D l c) (he:D.err 0=0) (o:Int) (g:Nat) (i:Int) (k:Nat) (hk:k<256) (K:K1)
  (hR:¬(0≤i∧i<perS c)→∀w',Ext w w'→K (pE 0 2) w')
  (hF:∀j:Nat,i=(j:Int)→(j:Int)<perS c→¬sndB D l c j→∀w',Ext w w'→K (pE 0 11) w')
  (hS:∀j:Nat,i=(j:Int)→(j:Int)<perS c→sndB D l c j→bS (wd D l (offN c j))=178→∀w',Ext w w'→K (pE 0 12) w')
  (hT:∀j:Nat,i=(j:Int)→(j:Int)<perS c→sndB D l c j→bS (wd D l (offN c j))=177→∀w',Ext w w'→K (pE (ptrN (pOff l c j) (bG (wd D l (offN c j))) (bK (wd D l (offN c j)))) 0) w')
  (hA:∀j:Nat,i=(j:Int)→(j:Int)<perS c→sndB D l c j→bS (wd D l (offN c j))=176→(k=0∨127<k)→∀w',Ext w w'→K (pE 0 1) w')
  (hN:∀j:Nat,i=(j:Int)→(j:Int)<perS c→sndB D l c j→bS (wd D l (offN c j))=176→k≠0→k≤127→∀w',Ext w w'→K (pE (ptrN (pOff l c j) (bG (wd D l (offN c j))) k) 0) w'):
  callS prog 122 #[chV Y l c o g,.int .i64 i,.int .u8 (k:Int)] w K:=by
 have her:∀(w1:World) (K:K1),Ext w w1→callS prog 28 #[.pointer (some ⟨Y.tb 0,0,none⟩)] w1 K=K (.int .i64 0) w1:=fun w1 K e=>by rw [c_Err (h.dv.ext e) 0 oM K,he]
 have hat:=h.at_ o g
 have hhl:=h.hl
 have hhn:=h.n
 have hhas:=fun (w1:World) (K:K1) (e:Ext w w1) (hk:∀w',Ext w1 w'→K (.bool (decide (0≤i)&&decide (i<perS c))) w')=>k_has (h.ext e) o g i K hk
 by_cases hi:0≤i∧i<perS c
 ·obtain ⟨j,rfl⟩:∃j:Nat,i=(j:Int):=⟨i.toNat,by omega⟩
  have eb:(decide (0≤(j:Int))&&decide ((j:Int)<perS c))=true:=by simp [hi]
  rw [eb] at hhas
  have hF:=hF j rfl hi.2;have hS:=hS j rfl hi.2;have hT:=hT j rfl hi.2;have hA:=hA j rfl hi.2;have hN:=hN j rfl hi.2
  have hrd:=fun (w1:World) (K:K1) (e:Ext w w1) hk=>k_read (h.ext e) o g j hi.2 K hk
  have bd:=offN_bd h.c0 h.c5 hi.2
  have hat2:∀(w1:World) (K:K1),Ext w w1→callS prog 170 #[chV Y l c o g,.int .i64 (j:Int)] w1 K=K (.int .u64 ((l*64+offN c j*8:Nat):Int)) (w1.alloc (chO Y l c o g)):=fun w1 K e=>hat w1 j K e hi.2
  have hg16:=bG_lt (wd D l (offN c j))
  have hk8:=bK_lt (wd D l (offN c j))
  unfold sndB pOff at*
  clear hat
  generalize hx:wd D l (offN c j)=x at*
  generalize hy:wd D l 1=y at*
  generalize offN c j=q at*
  have e00:Ext w (w.alloc (chO Y l c o g)):=Ext.alloc_self _ _
  refine f122_call _ _ _ _ _ ?_
  unfold f122_t
  simp (disch:=try exact dZ) only [↓RBp,↓RA,↓reduceIte,Nat.reduceAdd,Nat.reduceMul,Nat.reduceEqDiff,RB,RX,RA2]
  refine hhas _ _ xZ (fun w1 he1=> ?_)
  have e1:Ext w w1:=e00.trans he1
  have ob9:=chCells he1;have c0:=ob9.1;have c1:=ob9.2.1;have c2:=ob9.2.2.1;have c3:=ob9.2.2.2.1;have c4:=ob9.2.2.2.2
  simp (disch:=try exact dX) only [↓RBp,↓RA,↓reduceIte,Nat.reduceAdd,Nat.reduceMul,Nat.reduceEqDiff,RB,RX,RA2,c0,c1,c2,c3,c4,her]
  refine hrd _ _ e1 (fun w2 he2=> ?_)
  have e2:Ext w w2:=e1.trans he2
  have he12:=he1.trans he2
  have ob10:=chCells he12;have d0:=ob10.1;have d1:=ob10.2.1;have d2:=ob10.2.2.1;have d3:=ob10.2.2.2.1;have d4:=ob10.2.2.2.2
  have lt2:w.heap.size<w2.heap.size:=lt_of_cell d0
  have tail:∀(ss kk:Nat) (w3:World),kk≠0→kk≤127→bG x≠0→Ext (w2.alloc (.cells #[.int .u16 (bG x:Int),.int .u8 (bK x:Int),.int .u8 (ss:Int)] 200)) w3→(∀w',Ext w w'→K (pE (ptrN (l*64+q*8+8) (bG x) kk) 0) w')→f122_k1 K (.int .i64 (j:Int)) (.int .u8 (kk:Int)) (.pointer (some ⟨w.heap.size,0,none⟩)) (.pointer (some ⟨w2.heap.size,0,none⟩)) w3:=by
   intro ss kk w3 hk0 hk1 hg0 e3 hK
   have e23:Ext w2 w3:=Ext.trans xZ e3
   have e03:=e2.trans e23
   have he13:=he12.trans e23
   have ob11:=chCells he13;have a0:=ob11.1;have a1:=ob11.2.1;have a2:=ob11.2.2.1;have a3:=ob11.2.2.2.1;have a4:=ob11.2.2.2.2
   have z0:w3.cell? ⟨w2.heap.size,0,none⟩=some (.int .u16 (bG x:Int)):=by
    rw [e3.cell _ 0 (by simp only [RZ];omega),cell_new _ _ _ _ _ rfl];rfl
   have lt3:w2.heap.size<w3.heap.size:=lt_of_cell z0
   have hmk:∀(w4:World) (K:K1),callS prog 169 #[.int .u64 ((l*64+q*8+8:Nat):Int),.int .u16 (bG x:Int),.int .u8 (kk:Int)] w4 K=K (.tuple #[.int .u64 ((ptrN (l*64+q*8+8) (bG x) kk:Nat):Int),.int .i64 0]) w4:=fun w4 K=>c_MakeOk _ _ _ w4 K oM oM oM hg0 hg16 hk0 hk1
   rw [f122_k1_eq]
   unfold f122_k1_t
   (repeat' (first|(with_reducible first|refine brS_mk (fun _=> ?_) (fun _=> ?_)|refine And.intro ?_ ?_)|(simp (disch:=try exact dX) only [↓RBp,↓RA,↓reduceIte,Nat.reduceAdd,Nat.reduceMul,Nat.reduceEqDiff,RB,RX,RA2,a0,a1,a2,a3,a4,z0,hat2,hmk])))
   exact hK _ xZ
  by_cases t1:isS x=true
  ·by_cases t2:goodB (bG x) (bK x) (bS x)=true
   ·rcases goodS t2 with s|s|s
    ·have t2':=t2
     rw [s] at t2'
     by_cases t3:bitB y j=true
     ·simp (disch:=try exact dX) only [↓RBp,↓RA,↓reduceIte,Nat.reduceAdd,Nat.reduceMul,Nat.reduceEqDiff,RB,RX,RA2,d0,d1,d2,d3,d4,her,t1,t2',t3,s,c_good,bq1,bq2,bq3,bq4]
      exact hF (fun hs=>by have:=hs.2.2;simp [t3,s] at this) _ xZ
     ·have t3:bitB y j=false:=by simpa using t3
      have hok:isS x=true∧goodB (bG x) (bK x) (bS x)=true∧bitB y j= !decide (bS x=176):=⟨t1,t2,by simp [t3,s]⟩
      by_cases k0:k=0
      ·subst k0
       simp (disch:=try exact dX) only [↓RBp,↓RA,↓reduceIte,Nat.reduceAdd,Nat.reduceMul,Nat.reduceEqDiff,RB,RX,RA2,d0,d1,d2,d3,d4,her,t1,t2',t3,s,c_good,bq1,bq2,bq3,bq4]
       exact hA hok s (.inl rfl) _ xZ
      ·by_cases k1:k≤127
       ·simp (disch:=try exact dX) only [↓RBp,↓RA,↓reduceIte,Nat.reduceAdd,Nat.reduceMul,Nat.reduceEqDiff,RB,RX,RA2,d0,d1,d2,d3,d4,her,t1,t2',t3,s,c_good,bq1,bq2,bq3,bq4]
        exact tail 176 k _ k0 k1 (good176 t2').1 xZ (hN hok s k0 k1)
       ·simp (disch:=try exact dX) only [↓RBp,↓RA,↓reduceIte,Nat.reduceAdd,Nat.reduceMul,Nat.reduceEqDiff,RB,RX,RA2,d0,d1,d2,d3,d4,her,t1,t2',t3,s,c_good,bq1,bq2,bq3,bq4]
        exact hA hok s (.inr oM) _ xZ
    ·have t2':=t2
     rw [s] at t2'
     by_cases t3:bitB y j=true
     ·have hok:isS x=true∧goodB (bG x) (bK x) (bS x)=true∧bitB y j= !decide (bS x=176):=⟨t1,t2,by simp [t3,s]⟩
      have g7:=good177 t2'
      simp (disch:=try exact dX) only [↓RBp,↓RA,↓reduceIte,Nat.reduceAdd,Nat.reduceMul,Nat.reduceEqDiff,RB,RX,RA2,d0,d1,d2,d3,d4,her,t1,t2',t3,s,c_good,bq1,bq2,bq3,bq4]
      exact tail 177 (bK x) _ g7.2.1 g7.2.2 g7.1 xZ (hT hok s)
     ·have t3:bitB y j=false:=by simpa using t3
      simp (disch:=try exact dX) only [↓RBp,↓RA,↓reduceIte,Nat.reduceAdd,Nat.reduceMul,Nat.reduceEqDiff,RB,RX,RA2,d0,d1,d2,d3,d4,her,t1,t2',t3,s,c_good,bq1,bq2,bq3,bq4]
      exact hF (fun hs=>by have:=hs.2.2;simp [t3,s] at this) _ xZ
    ·have t2':=t2
     rw [s] at t2'
     by_cases t3:bitB y j=true
     ·have hok:isS x=true∧goodB (bG x) (bK x) (bS x)=true∧bitB y j= !decide (bS x=176):=⟨t1,t2,by simp [t3,s]⟩
      simp (disch:=try exact dX) only [↓RBp,↓RA,↓reduceIte,Nat.reduceAdd,Nat.reduceMul,Nat.reduceEqDiff,RB,RX,RA2,d0,d1,d2,d3,d4,her,t1,t2',t3,s,c_good,bq1,bq2,bq3,bq4]
      exact hS hok s _ xZ
     ·have t3:bitB y j=false:=by simpa using t3
      simp (disch:=try exact dX) only [↓RBp,↓RA,↓reduceIte,Nat.reduceAdd,Nat.reduceMul,Nat.reduceEqDiff,RB,RX,RA2,d0,d1,d2,d3,d4,her,t1,t2',t3,s,c_good,bq1,bq2,bq3,bq4]
      exact hF (fun hs=>by have:=hs.2.2;simp [t3,s] at this) _ xZ
   ·have t2':goodB (bG x) (bK x) (bS x)=false:=by simpa using t2
    simp (disch:=try exact dX) only [↓RBp,↓RA,↓reduceIte,Nat.reduceAdd,Nat.reduceMul,Nat.reduceEqDiff,RB,RX,RA2,d0,d1,d2,d3,d4,her,t1,t2',c_good]
    exact hF (fun hs=>t2 hs.2.1) _ xZ
  ·have t1':isS x=false:=by simpa using t1
   simp (disch:=try exact dX) only [↓RBp,↓RA,↓reduceIte,Nat.reduceAdd,Nat.reduceMul,Nat.reduceEqDiff,RB,RX,RA2,d0,d1,d2,d3,d4,her,t1']
   exact hF (fun hs=>t1 hs.1) _ xZ
 ·have eb:(decide (0≤i)&&decide (i<perS c))=false:=by simp;omega
  rw [eb] at hhas
  refine f122_call _ _ _ _ _ ?_
  unfold f122_t
  simp (disch:=try exact dZ) only [↓RBp,↓RA,↓reduceIte,Nat.reduceAdd,Nat.reduceMul,Nat.reduceEqDiff,RB,RX,RA2]
  refine hhas _ _ xZ (fun w1 he1=> ?_)
  have e1:Ext w w1:=(Ext.alloc_self _ _).trans he1
  simp (disch:=try exact dZ) only [↓RBp,↓RA,↓reduceIte,Nat.reduceAdd,Nat.reduceMul,Nat.reduceEqDiff,RB,RX,RA2]
  exact hR hi _ e1
end
section
variable {w w':World} {Y:Lay} {D:DS} {l:Nat} {c o:Int} {g:Nat}
theorem offN_eq {c:Int} (h0:0≤c) (h5:c<5):∃z n:Nat,wordsS c=(z:Int)∧perS c=(n:Int)∧n*(z+1)≤248∧3≤z∧z≤60∧∀k:Nat,offN c k=8+k*(z+1):=by
 have hw:=wordsS_in h0 h5
 have hp:=perS_in h0 h5
 obtain ⟨z,hz⟩:∃z:Nat,wordsS c=(z:Int):=⟨(wordsS c).toNat,by omega⟩
 have e:(248:Int)/((z:Int)+1)=((248/(z+1):Nat):Int):=by
  rw [Int.natCast_ediv];rfl
 refine ⟨z,248/(z+1),hz,by rw [hp.1,hz,e],Nat.div_mul_le_self _ _,by omega,by omega,fun k=> ?_⟩
 unfold offN offS
 rw [hz]
 have:(8+(k:Int)*((z:Int)+1))=((8+k*(z+1):Nat):Int):=by simp
 rw [this,Int.toNat_natCast]
theorem k_Find (hG:Glob w) (h0:0≤c) (h5:c<5) (word:Nat) (hw:word<256) (K:K1)
  (hno:(∀k:Nat,(k:Int)<perS c→word≠offN c k+1)→K (.tuple #[.int .i64 0,.bool false]) w)
  (hyes:∀k:Nat,(k:Int)<perS c→word=offN c k+1→K (.tuple #[.int .i64 (k:Int),.bool true]) w):
  callS prog 138 #[.int .i64 c,.int .i64 (word:Int)] w K:=by
 obtain ⟨z,n,hz,hn,hzn,z3,z60,hof⟩:=offN_eq h0 h5
 have hwp:=(wordsS_in h0 h5).1
 rw [hz] at hwp
 have hpc:∀K:K1,callS prog 135 #[.int .i64 c] w K=K (.int .i64 (n:Int)) w:=fun K=>by rw [c_PerChunk c w K hG,hn]
 have hn0:0<n:=by have:=perS_in h0 h5;omega
 refine f138_call _ _ _ _ ?_
 unfold f138_t
 rw [hn] at hno hyes
 by_cases h8:word≤8
 ·simp (disch:=try exact dZ) only [↓RBp,↓RA,↓reduceIte,Nat.reduceAdd,Nat.reduceMul,Nat.reduceEqDiff,RB,RX,RA2,hpc]
  exact hno (fun k hk=>by rw [hof];omega)
 ·obtain ⟨a,rfl⟩:∃a,word=a+9:=⟨word-9,by omega⟩
  have ea:(((a+9:Nat):Int)-8-1)=(a:Int):=by omega
  have eb:((z:Int)+1)=((z+1:Nat):Int):=by omega
  have ec:((a:Nat):Int)%((z+1:Nat):Int)=((a%(z+1):Nat):Int):=by omega
  have ed:((a:Nat):Int)/((z+1:Nat):Int)=((a/(z+1):Nat):Int):=by omega
  have dm:=Nat.div_add_mod a (z+1)
  have key:∀k,a+9=offN c k+1↔a=k*(z+1):=fun k=>by rw [hof];omega
  by_cases hm:a%(z+1)=0
  ·have hq:a=a/(z+1)*(z+1):=by rw [hm,Nat.mul_comm] at dm;omega
   by_cases hl:a/(z+1)<n
   ·simp (disch:=try exact dZ) only [↓RBp,↓RA,↓reduceIte,Nat.reduceAdd,Nat.reduceMul,Nat.reduceEqDiff,RB,RX,RA2,hpc,hG.pay,←hwp,ea,eb,ec,ed,hm]
    exact hyes _ oM ((key _).2 hq)
   ·simp (disch:=try exact dZ) only [↓RBp,↓RA,↓reduceIte,Nat.reduceAdd,Nat.reduceMul,Nat.reduceEqDiff,RB,RX,RA2,hpc,hG.pay,←hwp,ea,eb,ec,ed,hm]
    refine hno (fun k hk he=> ?_)
    have h1:=(key k).1 he
    apply hl
    rw [h1,Nat.mul_div_cancel _ oM];omega
  ·simp (disch:=try exact dZ) only [↓RBp,↓RA,↓reduceIte,Nat.reduceAdd,Nat.reduceMul,Nat.reduceEqDiff,RB,RX,RA2,hpc,hG.pay,←hwp,ea,eb,ec,ed,hm]
   refine hno (fun k hk he=> ?_)
   have h1:=(key k).1 he
   apply hm
   rw [h1];exact Nat.mul_mod_left _ _
theorem offN_inj {c:Int} (h0:0≤c) (h5:c<5) {j k:Nat} (h:offN c j=offN c k):j=k:=by
 obtain ⟨z,n,hz,hn,hzn,z3,z60,hof⟩:=offN_eq h0 h5
 rw [hof,hof] at h
 have:j*(z+1)=k*(z+1):=by omega
 exact Nat.eq_of_mul_eq_mul_right oM this
theorem k_find (hG:Glob w) (h0:0≤c) (h5:c<5) (hl:l≤4096) (Y:Lay) (o:Int) (g off:Nat) (h8:off%8=0) (hof:off<18446744073709551616) (K:K1)
  (hno:(∀k:Nat,(k:Int)<perS c→off≠pOff l c k)→∀w',Ext w w'→K (.tuple #[.int .i64 0,.bool false]) w')
  (hyes:∀k:Nat,(k:Int)<perS c→off=pOff l c k→∀w',Ext w w'→K (.tuple #[.int .i64 (k:Int),.bool true]) w'):
  callS prog 130 #[chV Y l c o g,.int .u64 (off:Int)] w K:=by
 have bd:∀k:Nat,(k:Int)<perS c→8≤offN c k∧offN c k<255:=fun k hk=>by
  have h1:=offN_bd h0 h5 hk
  have h2:=offS_bd h0 h5 (show 0≤(k:Int) by omega) hk
  have h3:=wordsS_in h0 h5
  omega
 unfold pOff at*
 refine f130_call _ _ _ _ ?_
 unfold f130_t
 by_cases h1:off<l*64
 ·simp (disch:=try exact dZ) only [↓RBp,↓RA,↓reduceIte,Nat.reduceAdd,Nat.reduceMul,Nat.reduceEqDiff,RB,RX,RA2,c_line,Int.toNat_natCast]
  exact hno (fun k hk=>by have:=bd k hk;omega) _ xZ
 ·obtain ⟨q,rfl⟩:∃q,off=l*64+q*8:=⟨(off-l*64)/8,by omega⟩
  have e1:l*64+q*8-l*64=q*8:=by omega
  have e2:q*8/8=q:=by omega
  by_cases h2:256≤q
  ·have h3:2048≤q*8:=by omega
   simp (disch:=try exact dZ) only [↓RBp,↓RA,↓reduceIte,Nat.reduceAdd,Nat.reduceMul,Nat.reduceEqDiff,RB,RX,RA2,c_line,Int.toNat_natCast,e1,e2]
   exact hno (fun k hk=>by have:=bd k hk;omega) _ xZ
  ·have h3:¬2048≤q*8:=by omega
   simp (disch:=try exact dZ) only [↓RBp,↓RA,↓reduceIte,Nat.reduceAdd,Nat.reduceMul,Nat.reduceEqDiff,RB,RX,RA2,c_line,Int.toNat_natCast,e1,e2]
   refine k_Find (hG.ext xZ) h0 h5 q oM _ (fun hn=> ?_) (fun k hk he=> ?_)
   ·simp (disch:=try exact dZ) only [↓RBp,↓RA,↓reduceIte,Nat.reduceAdd,Nat.reduceMul,Nat.reduceEqDiff,RB,RX,RA2]
    exact hno (fun k hk he=>hn k hk oM) _ xZ
   ·simp (disch:=try exact dZ) only [↓RBp,↓RA,↓reduceIte,Nat.reduceAdd,Nat.reduceMul,Nat.reduceEqDiff,RB,RX,RA2]
    exact hyes k hk oM _ xZ
end
section
variable {w w':World} {Y:Lay} {D:DS} {l:Nat} {c o:Int} {g:Nat}
def pO (p:Nat):Nat:=p%4294967296*8
def pG (p:Nat):Nat:=p/4294967296%65536
def pK (p:Nat):Nat:=p/281474976710656%256
theorem c_PNil (p:Nat) (w:World) (K:K1) (hp:p<18446744073709551616):callS prog 73 #[.int .u64 (p:Int)] w K=K (.bool (decide (p=0))) w:=by
 refine callS_det (by kernel_rfl) (f73_call _ _ _ ?_) K
 unfold f73_t
 simp (disch:=try exact dZ) only [↓RBp,↓RA,↓reduceIte,Nat.reduceAdd,Nat.reduceMul,Nat.reduceEqDiff,RB,RX,RA2]
theorem c_POff (p:Nat) (w:World) (K:K1) (hp:p<18446744073709551616):callS prog 20 #[.int .u64 (p:Int)] w K=K (.int .u64 ((pO p:Nat):Int)) w:=by
 refine callS_det (by kernel_rfl) (f20_call _ _ _ ?_) K
 unfold f20_t pO
 simp (disch:=try exact dZ) only [↓RBp,↓RA,↓reduceIte,Nat.reduceAdd,Nat.reduceMul,Nat.reduceEqDiff,RB,RX,RA2]
theorem c_PGen (p:Nat) (w:World) (K:K1) (hp:p<18446744073709551616):callS prog 132 #[.int .u64 (p:Int)] w K=K (.int .u16 ((pG p:Nat):Int)) w:=by
 refine callS_det (by kernel_rfl) (f132_call _ _ _ ?_) K
 unfold f132_t pG
 simp (disch:=try exact dZ) only [↓RBp,↓RA,↓reduceIte,Nat.reduceAdd,Nat.reduceMul,Nat.reduceEqDiff,RB,RX,RA2]
theorem c_PKind (p:Nat) (w:World) (K:K1) (hp:p<18446744073709551616):callS prog 60 #[.int .u64 (p:Int)] w K=K (.int .u8 ((pK p:Nat):Int)) w:=by
 refine callS_det (by kernel_rfl) (f60_call _ _ _ ?_) K
 unfold f60_t pK
 simp (disch:=try exact dZ) only [↓RBp,↓RA,↓reduceIte,Nat.reduceAdd,Nat.reduceMul,Nat.reduceEqDiff,RB,RX,RA2]
abbrev iE (i e:Int):Value:= .tuple #[.int .i64 i,.int .i64 e]
def liveB (D:DS) (l:Nat) (c:Int) (k gg:Nat):Prop:=isS (wd D l (offN c k))=true∧bitB (wd D l 1) k=true∧bS (wd D l (offN c k))=177∧bG (wd D l (offN c k))=gg
theorem k_Block (h:Cx w Y D l c) (he:D.err 0=0) (o:Int) (g:Nat) (p:Nat) (hp:p<18446744073709551616) (K:K1)
  (hZ:p=0→∀w',Ext w w'→K (iE 0 1) w')
  (hR:p≠0→(72057594037927936≤p∨∀k:Nat,(k:Int)<perS c→pO p≠pOff l c k)→∀w',Ext w w'→K (iE 0 2) w')
  (hS:p≠0→p<72057594037927936→∀k:Nat,(k:Int)<perS c→pO p=pOff l c k→¬liveB D l c k (pG p)→∀w',Ext w w'→K (iE 0 12) w')
  (hW:p≠0→p<72057594037927936→∀k:Nat,(k:Int)<perS c→pO p=pOff l c k→liveB D l c k (pG p)→bK (wd D l (offN c k))≠pK p→∀w',Ext w w'→K (iE 0 13) w')
  (hY:p≠0→p<72057594037927936→∀k:Nat,(k:Int)<perS c→pO p=pOff l c k→liveB D l c k (pG p)→bK (wd D l (offN c k))=pK p→∀w',Ext w w'→K (iE (k:Int) 0) w'):
  callS prog 76 #[chV Y l c o g,.int .u64 (p:Int)] w K:=by
 have her:∀(w1:World) (K:K1),Ext w w1→callS prog 28 #[.pointer (some ⟨Y.tb 0,0,none⟩)] w1 K=K (.int .i64 0) w1:=fun w1 K e=>by rw [c_Err (h.dv.ext e) 0 oM K,he]
 have hl:=h.hl;have hn:=h.n
 have ho8:pO p%8=0:=by unfold pO;omega
 have hoL:pO p<18446744073709551616:=by unfold pO;omega
 have hg16:pG p<65536:=by unfold pG;omega
 have hk8:pK p<256:=by unfold pK;omega
 refine f76_call _ _ _ _ ?_
 unfold f76_t
 by_cases p0:p=0
 ·subst p0
  simp (disch:=try exact dZ) only [↓RBp,↓RA,↓reduceIte,Nat.reduceAdd,Nat.reduceMul,Nat.reduceEqDiff,RB,RX,RA2,c_PNil]
  exact hZ rfl _ xZ
 ·have hR:=hR p0;have hS:=hS p0;have hW:=hW p0;have hY:=hY p0
  have e0:Ext w (w.alloc (chO Y l c o g)):=Ext.alloc_self _ _
  (repeat' (first|(with_reducible first|refine brS_mk (fun _=> ?_) (fun _=> ?_)|refine And.intro ?_ ?_)|(simp (disch:=try exact dX) only [↓RBp,↓RA,↓reduceIte,Nat.reduceAdd,Nat.reduceMul,Nat.reduceEqDiff,RB,RX,RA2,c_PNil,c_POff,p0])))
  refine k_find (h.gl.ext xZ) h.c0 h.c5 oM Y o g (pO p) ho8 hoL _ (fun hno w1 e1=> ?_) (fun k hk hof w1 e1=> ?_)
  ·have e01:Ext w w1:=Ext.trans xZ e1
   simp (disch:=try exact dZ) only [↓RBp,↓RA,↓reduceIte,Nat.reduceAdd,Nat.reduceMul,Nat.reduceEqDiff,RB,RX,RA2]
   exact hR (.inr hno) _ e01
  ·have e01:Ext w w1:=Ext.trans xZ e1
   have ea:Ext (w.alloc (chO Y l c o g)) w1:=Ext.trans xZ e1
   have ob12:=chCells ea;have c0:=ob12.1;have c1:=ob12.2.1;have c2:=ob12.2.2.1;have c3:=ob12.2.2.2.1;have c4:=ob12.2.2.2.2
   have hdiv:p/72057594037927936=0↔p<72057594037927936:=by omega
   by_cases hp56:p<72057594037927936
   ·have hd0:=hdiv.2 hp56
    have hS:=hS hp56 k hk hof;have hW:=hW hp56 k hk hof;have hY:=hY hp56 k hk hof
    simp (disch:=try exact dX) only [↓RBp,↓RA,↓reduceIte,Nat.reduceAdd,Nat.reduceMul,Nat.reduceEqDiff,RB,RX,RA2,c0,c1,c2,c3,c4,her,hd0]
    refine k_read (h.ext e01) o g k hk _ (fun w2 e2=> ?_)
    have e02:=e01.trans e2
    have eb:=ea.trans e2
    have ob13:=chCells eb;have d0:=ob13.1;have d1:=ob13.2.1;have d2:=ob13.2.2.1;have d3:=ob13.2.2.2.1;have d4:=ob13.2.2.2.2
    have lt2:w.heap.size<w2.heap.size:=lt_of_cell d0
    have hx16:=bG_lt (wd D l (offN c k))
    have hxk8:=bK_lt (wd D l (offN c k))
    unfold liveB at hS hW hY
    generalize wd D l (offN c k)=x at*
    generalize wd D l 1=y at*
    by_cases t1:isS x=true
    ·by_cases t2:bitB y k=true
     ·by_cases t3:bS x=177
      ·by_cases t4:bG x=pG p
       ·have hok:isS x=true∧bitB y k=true∧bS x=177∧bG x=pG p:=⟨t1,t2,t3,t4⟩
        by_cases t5:bK x=pK p
        ·(repeat' (first|(with_reducible first|refine brS_mk (fun _=> ?_) (fun _=> ?_)|refine And.intro ?_ ?_)|(simp (disch:=try exact dX) only [↓RBp,↓RA,↓reduceIte,Nat.reduceAdd,Nat.reduceMul,Nat.reduceEqDiff,RB,RX,RA2,d0,d1,d2,d3,d4,her,t1,t2,t3,t4,c_PGen,c_PKind,t5])))
         exact hY hok t5 _ xZ
        ·(repeat' (first|(with_reducible first|refine brS_mk (fun _=> ?_) (fun _=> ?_)|refine And.intro ?_ ?_)|(simp (disch:=try exact dX) only [↓RBp,↓RA,↓reduceIte,Nat.reduceAdd,Nat.reduceMul,Nat.reduceEqDiff,RB,RX,RA2,d0,d1,d2,d3,d4,her,t1,t2,t3,t4,c_PGen,c_PKind,t5])))
         exact hW hok t5 _ xZ
       ·(repeat' (first|(with_reducible first|refine brS_mk (fun _=> ?_) (fun _=> ?_)|refine And.intro ?_ ?_)|(simp (disch:=try exact dX) only [↓RBp,↓RA,↓reduceIte,Nat.reduceAdd,Nat.reduceMul,Nat.reduceEqDiff,RB,RX,RA2,d0,d1,d2,d3,d4,her,t1,t2,t3,t4,c_PGen])))
        exact hS (fun hs=>t4 hs.2.2.2) _ xZ
      ·(repeat' (first|(with_reducible first|refine brS_mk (fun _=> ?_) (fun _=> ?_)|refine And.intro ?_ ?_)|(simp (disch:=try exact dX) only [↓RBp,↓RA,↓reduceIte,Nat.reduceAdd,Nat.reduceMul,Nat.reduceEqDiff,RB,RX,RA2,d0,d1,d2,d3,d4,her,t1,t2,t3])))
       exact hS (fun hs=>t3 hs.2.2.1) _ xZ
     ·have t2':bitB y k=false:=by simpa using t2
      (repeat' (first|(with_reducible first|refine brS_mk (fun _=> ?_) (fun _=> ?_)|refine And.intro ?_ ?_)|(simp (disch:=try exact dX) only [↓RBp,↓RA,↓reduceIte,Nat.reduceAdd,Nat.reduceMul,Nat.reduceEqDiff,RB,RX,RA2,d0,d1,d2,d3,d4,her,t1,t2'])))
      exact hS (fun hs=>t2 hs.2.1) _ xZ
    ·have t1':isS x=false:=by simpa using t1
     (repeat' (first|(with_reducible first|refine brS_mk (fun _=> ?_) (fun _=> ?_)|refine And.intro ?_ ?_)|(simp (disch:=try exact dX) only [↓RBp,↓RA,↓reduceIte,Nat.reduceAdd,Nat.reduceMul,Nat.reduceEqDiff,RB,RX,RA2,d0,d1,d2,d3,d4,her,t1'])))
     exact hS (fun hs=>t1 hs.1) _ xZ
   ·have hd0:¬p/72057594037927936=0:=fun h=>hp56 (hdiv.1 h)
    simp (disch:=try exact dX) only [↓RBp,↓RA,↓reduceIte,Nat.reduceAdd,Nat.reduceMul,Nat.reduceEqDiff,RB,RX,RA2,hd0]
    exact hR (.inl oM) _ e01
end
section
variable {w w':World} {Y:Lay} {D:DS} {l:Nat} {c o:Int} {g:Nat}
def mskN (D:DS) (l:Nat) (c:Int):Nat→Nat
 |0=>0
 |n+1=>if bS (wd D l (offN c n))=176 then mskN D l c n else mskN D l c n|||2^n
def gdN (D:DS) (l:Nat) (c:Int):Nat→Bool
 |0=>true
 |n+1=>gdN D l c n&&(isS (wd D l (offN c n))&&goodB (bG (wd D l (offN c n))) (bK (wd D l (offN c n))) (bS (wd D l (offN c n))))
def zerN (D:DS) (l:Nat):Nat→Bool
 |0=>true
 |n+1=>zerN D l n&&decide (wd D l (n+2)=0)
theorem mskN_lt (D:DS) (l:Nat) (c:Int):∀n,mskN D l c n<2^n:=by
 intro n
 induction n with
 |zero=>simp [mskN]
 |succ n ih=>
  have h2:2^n<2^(n+1):=Nat.pow_lt_pow_right (by decide) oM
  simp only [mskN]
  split
  ·omega
  ·exact Nat.or_lt_two_pow oM h2
theorem gdN_no {D:DS} {l:Nat} {c:Int}:∀{n i:Nat},i<n→(isS (wd D l (offN c i))&&goodB (bG (wd D l (offN c i))) (bK (wd D l (offN c i))) (bS (wd D l (offN c i))))=false→gdN D l c n=false:=by
 intro n
 induction n with
 |zero=>intro i h;omega
 |succ n ih=>
  intro i h he
  simp only [gdN]
  by_cases e:i=n
  ·subst e;simp only [he,Bool.and_false]
  ·rw [ih (i:=i) oM he];rfl
theorem zerN_no {D:DS} {l:Nat}:∀{n i:Nat},i<n→wd D l (i+2)≠0→zerN D l n=false:=by
 intro n
 induction n with
 |zero=>intro i h;omega
 |succ n ih=>
  intro i h he
  simp only [zerN]
  by_cases e:i=n
  ·subst e;simp [he]
  ·rw [ih (i:=i) oM he];rfl
def conB (D:DS) (l:Nat) (c o:Int):Bool:=hdOk (wd D l 0)&&(decide (hC (wd D l 0)=c)&&(decide (hO (wd D l 0)=o)&&(zerN D l 6&&(gdN D l c (perS c).toNat&&decide (wd D l 1=mskN D l c (perS c).toNat)))))
theorem k_consistent (h:Cx w Y D l c) (o:Int) (g:Nat) (K:K1) (hK:∀w',Ext w w'→K (.bool (conB D l c o)) w'):
  callS prog 182 #[chV Y l c o g] w K:=by
 have hp:=perS_in h.c0 h.c5
 obtain ⟨n,hn⟩:∃n:Nat,perS c=(n:Int):=⟨(perS c).toNat,by omega⟩
 have hl:=h.hl;have hnn:=h.n
 have ld:∀(w1:World) (K:K1),Ext w w1→callS prog 32 #[.pointer (some ⟨Y.tb 0,0,none⟩),.int .u64 ((l*64:Nat):Int)] w1 K=K (.int .u64 (wd D l 0:Int)) w1:=fun w1 K he=>h.loadE w1 0 K he oM
 have hx0:=h.wd_lt 0 oM
 have e0:Ext w (w.alloc (chO Y l c o g)):=Ext.alloc_self _ _
 have no:conB D l c o=false→∀w',Ext w w'→K (.bool false) w':=fun hf w' e=>by have:=hK w' e;rw [hf] at this;exact this
 refine f182_call _ _ _ ?_
 unfold f182_t
 simp (disch:=try exact dX) only [↓RBp,↓RA,↓reduceIte,Nat.reduceAdd,Nat.reduceMul,Nat.reduceEqDiff,RB,RX,RA2,c_line,Int.toNat_natCast,ld]
 refine k_header (wd D l 0) _ _ (h.gl.ext xZ) hx0 (fun w1 e1=> ?_)
 have ea:Ext (w.alloc (chO Y l c o g)) w1:=Ext.trans xZ e1
 have e01:=e0.trans ea
 have ob14:=chCells ea;have c0:=ob14.1;have c1:=ob14.2.1;have c2:=ob14.2.2.1;have c3:=ob14.2.2.2.1;have c4:=ob14.2.2.2.2
 have lt1:w.heap.size<w1.heap.size:=lt_of_cell c0
 unfold conB at hK no
 rw [hn,Int.toNat_natCast] at hK no
 cases hh:hdOk (wd D l 0) with
 |false=>
  rw [hh] at no
  unfold hdV
  simp (disch:=try exact dX) only [↓RBp,↓RA,↓reduceIte,Nat.reduceAdd,Nat.reduceMul,Nat.reduceEqDiff,RB,RX,RA2,c0,c1,c2,c3,c4]
  exact no rfl _ xZ
 |true=>
  by_cases hc:hC (wd D l 0)=c
  ·by_cases ho:hO (wd D l 0)=o
   ·rw [hh,decide_eq_true hc,decide_eq_true ho] at hK no
    simp only [Bool.true_and] at hK no
    simp only [if_true]
    unfold hdV
    rw [hc,ho]
    simp (disch:=try exact dX) only [↓RBp,↓RA,↓reduceIte,Nat.reduceAdd,Nat.reduceMul,Nat.reduceEqDiff,RB,RX,RA2,c0,c1,c2,c3,c4]
    generalize gX (wd D l 0)=gx
    have hld:=h.loadE
    apply f182_l1_rule (I:=fun z w'=>∃q:Nat,z= .int .u64 ((q+2:Nat):Int)∧q≤6∧zerN D l q=true∧Ext (w.alloc (chO Y l c o g)) w') (μ:=fun z _=>8-(intOf z).toNat)
    ·exact ⟨0,rfl,by omega,rfl,xZ⟩
    ·intros;rename_i w2 hI E1 hE
     obtain ⟨q,rfl,hq,hz,eb⟩:=hI
     have e02:=e0.trans eb
     have ob15:=chCells eb;have d0:=ob15.1;have d1:=ob15.2.1;have d2:=ob15.2.2.1;have d3:=ob15.2.2.2.1;have d4:=ob15.2.2.2.2
     unfold f182_l1_t
     by_cases hq6:q<6
     ·have e8:(q+2)*8+l*64=l*64+(q+2)*8:=by omega
      by_cases hw0:wd D l (q+2)=0
      ·simp (disch:=try exact dX) only [↓RBp,↓RA,↓reduceIte,Nat.reduceAdd,Nat.reduceMul,Nat.reduceEqDiff,RB,RX,RA2,d0,d1,d2,d3,d4,hld,hw0]
       apply hE
       ·exact ⟨q+1,by simp;omega,by omega,by simp [zerN,hz,hw0],eb⟩
       ·simp [intOf];omega
      ·simp (disch:=try exact dX) only [↓RBp,↓RA,↓reduceIte,Nat.reduceAdd,Nat.reduceMul,Nat.reduceEqDiff,RB,RX,RA2,d0,d1,d2,d3,d4,hld,hw0]
       exact no (by rw [zerN_no hq6 hw0];rfl) _ e02
     ·have hq6:q=6:=by omega
      subst hq6
      rw [hz] at hK no
      simp only [Bool.true_and] at hK no
      have hpc:∀(w1:World) (K:K1),Ext w w1→callS prog 135 #[.int .i64 c] w1 K=K (.int .i64 (n:Int)) w1:=fun w1 K he=>by rw [c_PerChunk c w1 K (h.gl.ext he),hn]
      simp (disch:=try exact dX) only [↓RBp,↓RA,↓reduceIte,Nat.reduceAdd,Nat.reduceMul,Nat.reduceEqDiff,RB,RX,RA2,d0,d1,d2,d3,d4,hpc,f182_k1_eq,f182_k1_t]
      apply f182_l2_rule (I:=fun y z w'=>∃i:Nat,z= .int .i64 (i:Int)∧i≤n∧y= .int .u64 ((mskN D l c i:Nat):Int)∧gdN D l c i=true∧Ext (w.alloc (chO Y l c o g)) w') (μ:=fun _ z _=>n-(intOf z).toNat)
      ·exact ⟨0,rfl,by omega,rfl,rfl,eb⟩
      ·intros;rename_i w3 hI3 E3 hE3
       obtain ⟨i,rfl,hi,rfl,hg,ec⟩:=hI3
       have e03:=e0.trans ec
       have ob16:=chCells ec;have q0:=ob16.1;have q1:=ob16.2.1;have q2:=ob16.2.2.1;have q3:=ob16.2.2.2.1;have q4:=ob16.2.2.2.2
       have lt3:w.heap.size<w3.heap.size:=lt_of_cell q0
       by_cases hin:i<n
       ·have bd:=offN_bd h.c0 h.c5 (i:=i) oM
        have hat:=h.at_ o g
        have hwx:=h.wd_lt (offN c i) bd.2.2
        have hm:=mskN_lt D l c i
        have hm64:mskN D l c i<18446744073709551616:=Nat.lt_of_lt_of_le hm (by have:=pow_lt64 (show i<64 by omega);omega)
        have hpw:=pow_lt64 (show i<64 by omega)
        have hs1:1*2^i%18446744073709551616=2^i:=by rw [Nat.one_mul];exact Nat.mod_eq_of_lt hpw
        have hor:=or_lt64 hm64 hpw
        have hgn:gdN D l c (i+1)=(isS (wd D l (offN c i))&&goodB (bG (wd D l (offN c i))) (bK (wd D l (offN c i))) (bS (wd D l (offN c i)))):=by simp only [gdN,hg,Bool.true_and]
        have hmn:mskN D l c (i+1)=if bS (wd D l (offN c i))=176 then mskN D l c i else mskN D l c i|||2^i:=rfl
        have hbad:=fun hf=>no (by rw [gdN_no (D:=D) (l:=l) (c:=c) hin hf];rfl)
        have hatw:∀(w1:World) (K:K1),Ext w w1→callS prog 170 #[chV Y l c o g,.int .i64 (i:Int)] w1 K=K (.int .u64 ((l*64+offN c i*8:Nat):Int)) (w1.alloc (chO Y l c o g)):=fun w1 K e=>hat w1 i K e oM
        have hldw:∀(w1:World) (K:K1),Ext w w1→callS prog 32 #[.pointer (some ⟨Y.tb 0,0,none⟩),.int .u64 ((l*64+offN c i*8:Nat):Int)] w1 K=K (.int .u64 (wd D l (offN c i):Int)) w1:=fun w1 K e=>hld w1 _ K e bd.2.2
        have hsl:∀(w1:World) (K:K1),Ext w w1→(∀w',Ext w1 w'→K (.tuple #[.agg #[.int .u16 (bG (wd D l (offN c i)):Int),.int .u8 (bK (wd D l (offN c i)):Int),.int .u8 (bS (wd D l (offN c i)):Int)],.bool (isS (wd D l (offN c i)))]) w')→callS prog 176 #[.int .u64 (wd D l (offN c i):Int)] w1 K:=fun w1 K e hk=>k_sealed' _ w1 K (h.gl.ext e) hwx hk
        clear hat hld
        generalize wd D l (offN c i)=x at*
        generalize offN c i=qq at*
        have tail:∀(b:Nat) (w4:World),w4.cell? ⟨b,0,none⟩=some (.int .u16 (bG x:Int))→w4.cell? ⟨b,1,none⟩=some (.int .u8 (bK x:Int))→w4.cell? ⟨b,2,none⟩=some (.int .u8 (bS x:Int))→Ext (w.alloc (chO Y l c o g)) w4→f182_k4 K E3 (.pointer (some ⟨w.heap.size,0,none⟩)) (.int .u64 ((mskN D l c i:Nat):Int)) (.int .i64 (i:Int)) (.pointer (some ⟨b,0,none⟩)) (.bool (isS x)) (.int .i64 (n:Int)) (.int .i64 (i:Int)) w4:=by
         intro b w4 a0 a1 a2 ed
         have e04:=e0.trans ed
         have ltb:b<w4.heap.size:=lt_of_cell a0
         rw [f182_k4_eq]
         unfold f182_k4_t
         have k3:∀(y:Nat) (w5:World),Ext w4 w5→gdN D l c (i+1)=true→mskN D l c (i+1)=y→f182_k3 K E3 (.pointer (some ⟨w.heap.size,0,none⟩)) (.int .u64 (y:Int)) (.int .i64 (n:Int)) (.int .i64 (i:Int)) w5:=by
          intro y w5 e5 hg5 hm5
          rw [f182_k3_eq]
          unfold f182_k3_t
          simp (disch:=try exact dZ) only [↓RBp,↓RA,↓reduceIte,Nat.reduceAdd,Nat.reduceMul,Nat.reduceEqDiff,RB,RX,RA2]
          apply hE3
          ·exact ⟨i+1,by simp,by omega,by rw [hm5],hg5,ed.trans e5⟩
          ·simp [intOf];omega
         by_cases t1:isS x=true
         ·by_cases t2:goodB (bG x) (bK x) (bS x)=true
          ·rw [t1,t2] at hgn
           by_cases t3:bS x=176
           ·rw [if_pos t3] at hmn
            have t2':=t2
            rw [t3] at t2'
            simp (disch:=try exact dX) only [↓RBp,↓RA,↓reduceIte,Nat.reduceAdd,Nat.reduceMul,Nat.reduceEqDiff,RB,RX,RA2,a0,a1,a2,t1,t2',t3,c_good]
            exact k3 _ _ xZ hgn hmn
           ·rw [if_neg t3] at hmn
            simp (disch:=try exact dX) only [↓RBp,↓RA,↓reduceIte,Nat.reduceAdd,Nat.reduceMul,Nat.reduceEqDiff,RB,RX,RA2,a0,a1,a2,t1,t2,t3,c_good,hs1]
            exact k3 _ _ xZ hgn hmn
          ·have t2':goodB (bG x) (bK x) (bS x)=false:=by simpa using t2
           simp (disch:=try exact dX) only [↓RBp,↓RA,↓reduceIte,Nat.reduceAdd,Nat.reduceMul,Nat.reduceEqDiff,RB,RX,RA2,a0,a1,a2,t1,t2',c_good]
           exact hbad (by rw [t1,t2'];rfl) _ xZ
         ·have t1':isS x=false:=by simpa using t1
          simp (disch:=try exact dX) only [↓RBp,↓RA,↓reduceIte,Nat.reduceAdd,Nat.reduceMul,Nat.reduceEqDiff,RB,RX,RA2,a0,a1,a2,t1']
          exact hbad (by rw [t1'];rfl) _ xZ
        unfold f182_l2_t
        (repeat' (first|(with_reducible first|refine brS_mk (fun _=> ?_) (fun _=> ?_)|refine And.intro ?_ ?_)|(simp (disch:=try exact dX) only [↓RBp,↓RA,↓reduceIte,Nat.reduceAdd,Nat.reduceMul,Nat.reduceEqDiff,RB,RX,RA2,q0,q1,q2,q3,q4,hatw,hldw])))
        ·refine hsl _ _ xZ (fun w4 e4=> ?_)
         have e34:Ext w3 w4:=Ext.trans xZ e4
         have ed:=ec.trans e34
         have ob17:=chCells ed;have s0:=ob17.1;have s1:=ob17.2.1;have s2:=ob17.2.2.1;have s3:=ob17.2.2.2.1;have s4:=ob17.2.2.2.2
         have lt4:w.heap.size<w4.heap.size:=lt_of_cell s0
         (repeat' (first|(with_reducible first|refine brS_mk (fun _=> ?_) (fun _=> ?_)|refine And.intro ?_ ?_)|(simp (disch:=try exact dX) only [↓RBp,↓RA,↓reduceIte,Nat.reduceAdd,Nat.reduceMul,Nat.reduceEqDiff,RB,RX,RA2,s0,s1,s2,s3,s4])))
         refine tail _ _ ?_ ?_ ?_ xZ<;>simp (disch:=try exact dZ) only [↓RBp,↓RA,↓reduceIte,Nat.reduceAdd,Nat.reduceMul,Nat.reduceEqDiff,RB,RX,RA2]
        ·refine hsl _ _ xZ (fun w4 e4=> ?_)
         have e34:Ext w3 w4:=Ext.trans xZ e4
         have ed:=ec.trans e34
         have hC:Cells w4 (w3.heap.size+1) 200 3 (fun i=> [Value.int .u16 ((0:Nat):Int),.int .u8 ((0:Nat):Int),.int .u8 ((0:Nat):Int)].getD i undef):=by
          have:=(Cells.new (w3.alloc (chO Y l c o g)) [Value.int .u16 ((0:Nat):Int),.int .u8 ((0:Nat):Int),.int .u8 ((0:Nat):Int)] 200)
          try rw [size_alloc] at this
          exact this.ext (Ext.trans xZ e4)
         have p0:=hC.cell (i:=0) oM
         have p1:=hC.cell (i:=1) oM
         have p2:=hC.cell (i:=2) oM
         have ob18:=cells3 hC (.int .u16 (bG x:Int)) (.int .u8 (bK x:Int)) (.int .u8 (bS x:Int));have r0:=ob18.1;have r1:=ob18.2.1;have r2:=ob18.2.2.1;have hD:=ob18.2.2.2
         simp (disch:=try exact dZ) only [↓RBp,↓RA,↓reduceIte,Nat.reduceAdd,Nat.reduceMul,Nat.reduceEqDiff,RB,RX,RA2,p0,p1,p2,hC.frz,r0,r1,r2]
         exact tail _ _ r0 r1 r2 xZ
        ·refine hsl _ _ xZ (fun w4 e4=> ?_)
         have e34:Ext w3 w4:=Ext.trans xZ e4
         have ed:=ec.trans e34
         have hC:Cells w4 (w3.heap.size+1) 200 3 (fun i=> [Value.int .u16 ((0:Nat):Int),.int .u8 ((0:Nat):Int),.int .u8 ((0:Nat):Int)].getD i undef):=by
          have:=(Cells.new (w3.alloc (chO Y l c o g)) [Value.int .u16 ((0:Nat):Int),.int .u8 ((0:Nat):Int),.int .u8 ((0:Nat):Int)] 200)
          try rw [size_alloc] at this
          exact this.ext (Ext.trans xZ e4)
         have p0:=hC.cell (i:=0) oM
         have p1:=hC.cell (i:=1) oM
         have p2:=hC.cell (i:=2) oM
         have ob19:=cells3 hC (.int .u16 (bG x:Int)) (.int .u8 (bK x:Int)) (.int .u8 (bS x:Int));have r0:=ob19.1;have r1:=ob19.2.1;have r2:=ob19.2.2.1;have hD:=ob19.2.2.2
         simp (disch:=try exact dZ) only [↓RBp,↓RA,↓reduceIte,Nat.reduceAdd,Nat.reduceMul,Nat.reduceEqDiff,RB,RX,RA2,p0,p1,p2,hC.frz,r0,r1,r2]
         exact tail _ _ r0 r1 r2 xZ
        ·refine hsl _ _ xZ (fun w4 e4=> ?_)
         have e34:Ext w3 w4:=Ext.trans xZ e4
         have ed:=ec.trans e34
         have hC:Cells w4 (w3.heap.size) 200 3 (fun i=> [Value.int .u16 ((0:Nat):Int),.int .u8 ((0:Nat):Int),.int .u8 ((0:Nat):Int)].getD i undef):=by
          have:=(Cells.new w3 [Value.int .u16 ((0:Nat):Int),.int .u8 ((0:Nat):Int),.int .u8 ((0:Nat):Int)] 200)
          try rw [size_alloc] at this
          exact this.ext (Ext.trans xZ e4)
         have p0:=hC.cell (i:=0) oM
         have p1:=hC.cell (i:=1) oM
         have p2:=hC.cell (i:=2) oM
         have ob20:=cells3 hC (.int .u16 (bG x:Int)) (.int .u8 (bK x:Int)) (.int .u8 (bS x:Int));have r0:=ob20.1;have r1:=ob20.2.1;have r2:=ob20.2.2.1;have hD:=ob20.2.2.2
         simp (disch:=try exact dZ) only [↓RBp,↓RA,↓reduceIte,Nat.reduceAdd,Nat.reduceMul,Nat.reduceEqDiff,RB,RX,RA2,p0,p1,p2,hC.frz,r0,r1,r2]
         exact tail _ _ r0 r1 r2 xZ
       ·have:i=n:=by omega
        subst this
        rw [hg] at hK
        simp only [Bool.true_and] at hK
        have hbt:=h.bits o g
        unfold f182_l2_t
        simp (disch:=try exact dX) only [↓RBp,↓RA,↓reduceIte,Nat.reduceAdd,Nat.reduceMul,Nat.reduceEqDiff,RB,RX,RA2,q0,q1,q2,q3,q4,hbt,f182_k2_eq,f182_k2_t]
        exact hK _ xZ
   ·rw [hh,decide_eq_true hc,decide_eq_false ho] at no
    simp only [if_true]
    unfold hdV
    simp (disch:=try exact dX) only [↓RBp,↓RA,↓reduceIte,Nat.reduceAdd,Nat.reduceMul,Nat.reduceEqDiff,RB,RX,RA2,c0,c1,c2,c3,c4,hc,ho]
    exact no rfl _ xZ
  ·rw [hh,decide_eq_false hc] at no
   simp only [if_true]
   unfold hdV
   simp (disch:=try exact dX) only [↓RBp,↓RA,↓reduceIte,Nat.reduceAdd,Nat.reduceMul,Nat.reduceEqDiff,RB,RX,RA2,c0,c1,c2,c3,c4,hc]
   exact no rfl _ xZ
theorem k_Check (h:Cx w Y D l c) (he:D.err 0=0) (o:Int) (g:Nat) (K:K1) (hK:∀w',Ext w w'→K (.int .i64 (if conB D l c o=true then 0 else 11)) w'):
  callS prog 153 #[chV Y l c o g] w K:=by
 have her:∀(w1:World) (K:K1),Ext w w1→callS prog 28 #[.pointer (some ⟨Y.tb 0,0,none⟩)] w1 K=K (.int .i64 0) w1:=fun w1 K e=>by rw [c_Err (h.dv.ext e) 0 oM K,he]
 refine f153_call _ _ _ ?_
 unfold f153_t
 simp (disch:=try exact dX) only [↓RBp,↓RA,↓reduceIte,Nat.reduceAdd,Nat.reduceMul,Nat.reduceEqDiff,RB,RX,RA2,her]
 refine k_consistent (h.ext xZ) o g _ (fun w1 e1=> ?_)
 have ea:Ext (w.alloc (chO Y l c o g)) w1:=Ext.trans xZ e1
 have e01:Ext w w1:=(Ext.alloc_self _ _).trans ea
 have ob21:=chCells ea;have c0:=ob21.1;have c1:=ob21.2.1;have c2:=ob21.2.2.1;have c3:=ob21.2.2.2.1;have c4:=ob21.2.2.2.2
 cases hb:conB D l c o with
 |true=>
  rw [if_pos hb] at hK
  simp (disch:=try exact dX) only [↓RBp,↓RA,↓reduceIte,Nat.reduceAdd,Nat.reduceMul,Nat.reduceEqDiff,RB,RX,RA2,c0,c1,c2,c3,c4,her]
  exact hK _ xZ
 |false=>
  rw [hb,if_neg (by simp)] at hK
  simp (disch:=try exact dX) only [↓RBp,↓RA,↓reduceIte,Nat.reduceAdd,Nat.reduceMul,Nat.reduceEqDiff,RB,RX,RA2,c0,c1,c2,c3,c4,her]
  exact hK _ xZ
end
theorem bit_tb (x i:Nat):bitB x i=x.testBit i:=by unfold bitB;rw [Nat.testBit_eq_decide_div_mod_eq]
theorem bit_or (x y i:Nat):bitB (x|||y) i=(bitB x i||bitB y i):=by simp only [bit_tb,Nat.testBit_or]
theorem bit_pow (m i:Nat):bitB (2^m) i=decide (m=i):=by rw [bit_tb,Nat.testBit_two_pow]
theorem bit_clr (x m i:Nat) (hi:i<64):bitB (x&&&(18446744073709551615^^^2^m)) i=(bitB x i&& !decide (m=i)):=by
 have h:(18446744073709551615:Nat).testBit i=true:=by
  have:(18446744073709551615:Nat)=2^64-1:=by decide
  rw [this,Nat.testBit_two_pow_sub_one];simp [hi]
 simp only [bit_tb,Nat.testBit_and,Nat.testBit_xor,h,Nat.testBit_two_pow]
 cases x.testBit i<;>cases decide (m=i)<;>rfl
def hasI (L:List Int) (i:Nat):Bool:=L.any fun x=>decide (x.toNat=i)
theorem hasI_cons (x:Int) (L:List Int) (i:Nat):hasI (x::L) i=(decide (x.toNat=i)||hasI L i):=rfl
theorem hasI_mem {L:List Int} {i:Nat} (h:hasI L i=true):∃x∈L,x.toNat=i:=by
 unfold hasI at h;rw [List.any_eq_true] at h;obtain ⟨x,hx,he⟩:=h;exact ⟨x,hx,by simpa using he⟩
theorem hasI_of {L:List Int} {x:Int} (h:x∈L):hasI L x.toNat=true:=by
 unfold hasI;rw [List.any_eq_true];exact ⟨x,h,by simp⟩
theorem onc_spec {per:Int}:∀{L:List Int} {m m':Nat},onc per L m=some m'→(∀x∈L,bitB m x.toNat=false)∧(L.map Int.toNat).Nodup∧∀i,bitB m' i=(bitB m i||hasI L i):=by
 intro L
 induction L with
 |nil=>intro m m' h;injection h with h;subst h;exact ⟨fun x hx=>(by cases hx),by simp,fun i=>by simp [hasI]⟩
 |cons x L ih=>
  intro m m' h
  simp only [onc] at h
  split at h
  ·rename_i hx
   obtain ⟨h1,h2,h3⟩:=ih h
   refine ⟨fun y hy=> ?_,?_,fun i=> ?_⟩
   ·rcases List.mem_cons.1 hy with rfl|hy
    ·exact hx.2
    ·have:=h1 y hy;rw [bit_or] at this;simp at this;exact this.1
   ·rw [List.map_cons,List.nodup_cons]
    refine ⟨fun hm=> ?_,h2⟩
    obtain ⟨y,hy,he⟩:=List.mem_map.1 hm
    have:=h1 y hy
    rw [bit_or,he,bit_pow] at this;simp at this
   ·rw [h3,bit_or,bit_pow,hasI_cons,Bool.or_assoc]
  ·cases h
theorem ActA.nd {c:Int} {L M:List Int} {ks:List Nat} (h:ActA c L ks M):(L.map Int.toNat).Nodup∧(M.map Int.toNat).Nodup∧∀i,hasI L i=true→hasI M i=false:=by
 have h0:=h.onc
 cases h1:Go.Proofs.YtmpehclnnjgmcaaGreatDoor.onc (perS c) L 0 with
 |none=>rw [h1] at h0;cases h0
 |some m=>
  rw [h1,Option.bind_some] at h0
  cases h2:Go.Proofs.YtmpehclnnjgmcaaGreatDoor.onc (perS c) M m with
  |none=>rw [h2] at h0;cases h0
  |some m'=>
   obtain ⟨a1,a2,a3⟩:=onc_spec h1
   obtain ⟨b1,b2,b3⟩:=onc_spec h2
   refine ⟨a2,b2,fun i hi=> ?_⟩
   cases hM:hasI M i with
   |false=>rfl
   |true=>
    obtain ⟨x,hx,rfl⟩:=hasI_mem hM
    have:=b1 x hx
    rw [a3,hi] at this;simp at this
def zipW (D:DS) (l:Nat) (c:Int):List Int→List Nat→List (Nat×Nat)
 |x::L,k::ks=>tkW D l c x.toNat k::zipW D l c L ks
 |_,_=> []
def orL (L:List Int) (b:Nat):Nat:=L.foldl (fun b x=>b|||2^x.toNat) b
def dpL (D:DS) (l:Nat) (c:Int) (L:List Int) (b:Nat):Nat:=L.foldl (fun b x=>dpB D l c x.toNat b) b
theorem orL_cons (x:Int) (L:List Int) (b:Nat):orL (x::L) b=orL L (b|||2^x.toNat):=List.foldl_cons ..
theorem dpL_cons (D:DS) (l:Nat) (c:Int) (x:Int) (L:List Int) (b:Nat):dpL D l c (x::L) b=dpL D l c L (dpB D l c x.toNat b):=List.foldl_cons ..
def kOf:List Int→List Nat→Nat→Option Nat
 |x::L,k::ks,i=>if x.toNat=i then some k else kOf L ks i
 |_,_,_=>none
section
variable {D:DS} {l:Nat} {c o:Int}
theorem chT_spec:∀{L:List Int} {ks:List Nat} {acc:List (Nat×Nat)} {b:Nat} {r:List (Nat×Nat)×Nat},ks.length=L.length→chT D l c L ks acc b=some r→(∀x∈L,tkOk D l c x.toNat=true)∧r.1=acc++zipW D l c L ks∧r.2=orL L b:=by
 intro L
 induction L with
 |nil=>
  intro ks acc b r hk h
  have:ks= []:=by simpa using hk
  subst this
  simp only [chT] at h;injection h with h;subst h
  exact ⟨fun x hx=>(by cases hx),by simp [zipW],rfl⟩
 |cons x L ih=>
  intro ks acc b r hk h
  cases ks with
  |nil=>simp at hk
  |cons k ks=>
   simp only [chT] at h
   split at h
   ·rename_i hx
    obtain ⟨h1,h2,h3⟩:=ih (by simpa using hk) h
    refine ⟨fun y hy=> ?_,?_,by rw [orL_cons];exact h3⟩
    ·rcases List.mem_cons.1 hy with rfl|hy
     ·exact hx
     ·exact h1 y hy
    ·rw [h2,zipW,List.append_assoc];rfl
   ·cases h
theorem chDr_spec:∀{M:List Int} {acc:List (Nat×Nat)} {b:Nat} {r:List (Nat×Nat)×Nat},chDr D l c M acc b=some r→(∀x∈M,dpOk D l c x.toNat=true)∧r.1=acc++M.map (fun x=>dpW D l c x.toNat)∧r.2=dpL D l c M b:=by
 intro M
 induction M with
 |nil=>intro acc b r h;simp only [chDr] at h;injection h with h;subst h;exact ⟨fun x hx=>(by cases hx),by simp,rfl⟩
 |cons x M ih=>
  intro acc b r h
  simp only [chDr] at h
  split at h
  ·rename_i hx
   obtain ⟨h1,h2,h3⟩:=ih h
   refine ⟨fun y hy=> ?_,?_,by rw [dpL_cons];exact h3⟩
   ·rcases List.mem_cons.1 hy with rfl|hy
    ·exact hx
    ·exact h1 y hy
   ·rw [h2,List.map_cons,List.append_assoc];rfl
  ·cases h
theorem bit_orL:∀(L:List Int) (b i:Nat),bitB (orL L b) i=(bitB b i||hasI L i):=by
 intro L
 induction L with
 |nil=>intro b i;simp [orL,hasI]
 |cons x L ih=>intro b i;rw [orL_cons,ih,bit_or,bit_pow,hasI_cons,Bool.or_assoc]
theorem bit_dpL:∀(M:List Int) (b i:Nat),i<64→bitB (dpL D l c M b) i=(bitB b i&& !(hasI M i&&decide (freS (bG (wd D l (offN c i)))=176))):=by
 intro M
 induction M with
 |nil=>intro b i _;simp [dpL,hasI]
 |cons x M ih=>
  intro b i hi
  rw [dpL_cons,ih _ _ hi,hasI_cons]
  unfold dpB
  by_cases hx:x.toNat=i
  ·rw [hx]
   by_cases hf:freS (bG (wd D l (offN c i)))=176
   ·rw [if_pos hf,bit_clr _ _ _ hi];simp [hf]
   ·rw [if_neg hf];simp [hf]
  ·rw [decide_eq_false hx,Bool.false_or]
   split
   ·rw [bit_clr _ _ _ hi,decide_eq_false hx];simp
   ·rfl
theorem orL_lt:∀(L:List Int) (b:Nat),(∀x∈L,x.toNat<64)→b<18446744073709551616→orL L b<18446744073709551616:=by
 intro L
 induction L with
 |nil=>intro b _ h;exact h
 |cons x L ih=>intro b hx h;rw [orL_cons];exact ih _ (fun y hy=>hx y (by simp [hy])) (or_lt64 h (pow_lt64 (hx x (by simp))))
theorem dpL_lt:∀(M:List Int) (b:Nat),b<18446744073709551616→dpL D l c M b<18446744073709551616:=by
 intro M
 induction M with
 |nil=>intro b h;exact h
 |cons x M ih=>
  intro b h
  rw [dpL_cons]
  refine ih _ ?_
  unfold dpB
  split
  ·exact Nat.lt_of_le_of_lt Nat.and_le_left h
  ·exact h
theorem zipW_mem:∀{L:List Int} {ks:List Nat} {y:Nat×Nat},y∈zipW D l c L ks→∃x∈L,∃k∈ks,y=tkW D l c x.toNat k∧((L.map Int.toNat).Nodup→kOf L ks x.toNat=some k):=by
 intro L
 induction L with
 |nil=>intro ks y h;simp [zipW] at h
 |cons x L ih=>
  intro ks y h
  cases ks with
  |nil=>simp [zipW] at h
  |cons k ks=>
   simp only [zipW,List.mem_cons] at h
   rcases h with rfl|h
   ·exact ⟨x,by simp,k,by simp,rfl,fun _=>by simp [kOf]⟩
   ·obtain ⟨x',hx',k',hk',rfl,hof⟩:=ih h
    refine ⟨x',by simp [hx'],k',by simp [hk'],rfl,fun hn=> ?_⟩
    rw [List.map_cons,List.nodup_cons] at hn
    have hne:¬x.toNat=x'.toNat:=fun he=>hn.1 (by rw [he];exact List.mem_map.2 ⟨x',hx',rfl⟩)
    rw [kOf,if_neg hne];exact hof hn.2
theorem kOf_mem:∀{L:List Int} {ks:List Nat} {i k:Nat},kOf L ks i=some k→tkW D l c i k∈zipW D l c L ks∧hasI L i=true∧k∈ks:=by
 intro L
 induction L with
 |nil=>intro ks i k h;simp [kOf] at h
 |cons x L ih=>
  intro ks i k h
  cases ks with
  |nil=>simp [kOf] at h
  |cons k' ks=>
   simp only [kOf] at h
   split at h
   ·rename_i hx;injection h with h;subst h;subst hx
    exact ⟨by simp [zipW],by simp [hasI_cons],by simp⟩
   ·obtain ⟨h1,h2,h3⟩:=ih h
    exact ⟨by simp [zipW,h1],by simp [hasI_cons,h2],by simp [h3]⟩
theorem kOf_none:∀{L:List Int} {ks:List Nat} {i:Nat},ks.length=L.length→kOf L ks i=none→hasI L i=false:=by
 intro L
 induction L with
 |nil=>intro ks i _ _;rfl
 |cons x L ih=>
  intro ks i hk h
  cases ks with
  |nil=>simp at hk
  |cons k' ks=>
   simp only [kOf] at h
   split at h
   ·cases h
   ·rename_i hx;rw [hasI_cons,decide_eq_false hx,Bool.false_or];exact ih (by simpa using hk) h
def actX (D:DS) (l:Nat) (c:Int) (L:List Int) (ks:List Nat) (M:List Int) (i:Nat):Nat:=
 match kOf L ks i with
 |some k=>(tkW D l c i k).2
 |none=>if hasI M i=true then (dpW D l c i).2 else wd D l (offN c i)
theorem actN_spec {L M:List Int} {ks:List Nat} {ws:List (Nat×Nat)} (hk:ks.length=L.length) (h:actN D l c L ks M=some ws):(∀x∈L,tkOk D l c x.toNat=true)∧(∀x∈M,dpOk D l c x.toNat=true)∧((ws= []∧L= []∧M= [])∨ws=zipW D l c L ks++M.map (fun x=>dpW D l c x.toNat)++ [(l*64+8,dpL D l c M (orL L (wd D l 1)))]):=by
 unfold actN at h
 split at h
 ·rename_i h0
  injection h with h
  have e1:L= []:=by simpa using h0.1
  have e2:M= []:=by simpa using h0.2
  subst e1;subst e2
  exact ⟨fun x hx=>(by cases hx),fun x hx=>(by cases hx),.inl ⟨h.symm,rfl,rfl⟩⟩
 ·cases h1:chT D l c L ks [] (wd D l 1) with
  |none=>rw [h1] at h;cases h
  |some r=>
   obtain ⟨a1,a2,a3⟩:=chT_spec hk h1
   obtain ⟨r1,r2⟩:=r
   rw [h1] at h
   simp only at h a2 a3
   cases h2:chDr D l c M r1 r2 with
   |none=>rw [h2] at h;cases h
   |some q=>
    obtain ⟨b1,b2,b3⟩:=chDr_spec h2
    obtain ⟨q1,q2⟩:=q
    rw [h2] at h
    simp only at h b2 b3
    injection h with h
    refine ⟨a1,b1,.inr ?_⟩
    rw [←h,b2,b3,a2,a3,List.nil_append]
end
structure ActE (D D':DS) (l:Nat) (c:Int) (L:List Int) (ks:List Nat) (M:List Int) (ws:List (Nat×Nat)):Prop where
 ok:∀x∈ws,x.1%8=0∧x.1<D.n*64∧x.2<18446744073709551616
 on:On D'
 rest:∀j,j<256→(∀i:Nat,(i:Int)<perS c→j≠offN c i)→j≠1→wd D' l j=wd D l j
 blk:∀i:Nat,(i:Int)<perS c→wd D' l (offN c i)=actX D l c L ks M i
 map:wd D' l 1=dpL D l c M (orL L (wd D l 1))
 far:∀j,(j<l*8∨l*8+256≤j)→D'.cur j=D.cur j
 len:ws.length≤L.length+M.length+1
 tk:∀x∈L,tkOk D l c x.toNat=true
 dp:∀x∈M,dpOk D l c x.toNat=true
theorem act_wd {D:DS} {l:Nat} {c:Int} (on:On D) (hg:Good D) (hl:l+32≤D.n) (c0:0≤c) (c5:c<5) {L M:List Int} {ks:List Nat} {ws:List (Nat×Nat)} (ha:ActA c L ks M) (hs:actN D l c L ks M=some ws):ActE D (D.strs ws) l c L ks M ws:=by
 have hn:=hg.n
 have hp:=perS_in c0 c5
 obtain ⟨h1,h2,h3⟩:=actN_spec ha.len hs
 have vL:=ha.vL
 have vM:=ha.vM
 obtain ⟨n1,n2,n3⟩:=ha.nd
 have hw1:wd D l 1<18446744073709551616:=by unfold wd;exact hg.cur _ oM
 have zl:∀(L:List Int) (ks:List Nat),(zipW D l c L ks).length≤L.length:=by
  intro L
  induction L with
  |nil=>intro ks;simp [zipW]
  |cons x L ih=>intro ks;cases ks with
   |nil=>simp [zipW]
   |cons k ks=>simp only [zipW,List.length_cons];have:=ih ks;omega
 have tkw:∀x∈L,∀k∈ks,(tkW D l c x.toNat k).1=l*64+offN c x.toNat*8∧(tkW D l c x.toNat k).2<18446744073709551616:=fun x hx k hk=>⟨rfl,sealN_lt _ (blkX_lt (bG_lt _) (by have:=(ha.kin k hk).2;omega) oM)⟩
 have dpw:∀x∈M,(dpW D l c x.toNat).1=l*64+offN c x.toNat*8∧(dpW D l c x.toNat).2<18446744073709551616:=fun x hx=>⟨rfl,sealN_lt _ (blkX_lt (freG_lt (bG_lt _)) oM (freS_lt _))⟩
 have bdi:∀x:Int,0≤x∧x<perS c→8≤offN c x.toNat∧offN c x.toNat<256∧(x.toNat:Int)<perS c:=fun x hx=>by
  have:=offN_bd c0 c5 (i:=x.toNat) oM
  omega
 have mem:∀y∈ws,(∃x∈L,∃k∈ks,y=tkW D l c x.toNat k∧kOf L ks x.toNat=some k)∨(∃x∈M,y=dpW D l c x.toNat)∨y=(l*64+8,dpL D l c M (orL L (wd D l 1))):=by
  intro y hy
  rcases h3 with ⟨rfl,_⟩|rfl
  ·cases hy
  ·simp only [List.mem_append,List.mem_map,List.mem_singleton] at hy
   rcases hy with (hy|⟨x,hx,rfl⟩)|rfl
   ·obtain ⟨x,hx,k,hk,e,hf⟩:=zipW_mem hy
    exact .inl ⟨x,hx,k,hk,e,hf n1⟩
   ·exact .inr (.inl ⟨x,hx,rfl⟩)
   ·exact .inr (.inr rfl)
 have ok:∀x∈ws,x.1%8=0∧x.1<D.n*64∧x.2<18446744073709551616:=by
  intro y hy
  rcases mem y hy with ⟨x,hx,k,hk,rfl,_⟩|⟨x,hx,rfl⟩|rfl
  ·have:=tkw x hx k hk;have:=bdi x (vL x hx);omega
  ·have:=dpw x hx;have:=bdi x (vM x hx);omega
  ·exact ⟨by simp only;omega,by simp only;omega,dpL_lt _ _ (orL_lt _ _ (fun x hx=>by have:=vL x hx;omega) hw1)⟩
 obtain ⟨o1,o2⟩:=strs_on on (fun x hx=>⟨(ok x hx).1,(ok x hx).2.1⟩)
 refine ⟨ok,o1,fun j hj hji hj1=> ?_,fun i hi=> ?_,?_,fun j hj=> ?_,?_,h1,h2⟩
 ·unfold wd;rw [o2]
  refine applyH_other _ _ _ (fun y hy=> ?_)
  rcases mem y hy with ⟨x,hx,k,hk,rfl,_⟩|⟨x,hx,rfl⟩|rfl
  ·have h4:=bdi x (vL x hx);have:=hji _ h4.2.2;rw [(tkw x hx k hk).1];omega
  ·have h4:=bdi x (vM x hx);have:=hji _ h4.2.2;rw [(dpw x hx).1];omega
  ·simp only;omega
 ·have bd:=offN_bd c0 c5 hi
  have inj:∀x:Int,0≤x∧x<perS c→l*64+offN c x.toNat*8=(l*8+offN c i)*8→x.toNat=i:=fun x hx he=>offN_inj c0 c5 oM
  unfold wd;rw [o2];unfold actX
  cases hk:kOf L ks i with
  |some k=>
   obtain ⟨k1,k2,k3⟩:=kOf_mem (D:=D) (l:=l) (c:=c) hk
   have hm:=n3 i k2
   refine applyH_val (fun y hy he=> ?_) (.inl ⟨tkW D l c i k,?_,by show (l*64+offN c i*8)/8=_;omega⟩)
   ·rcases mem y hy with ⟨x,hx,k',hk',rfl,hf⟩|⟨x,hx,rfl⟩|rfl
    ·have:=inj x (vL x hx) (by rw [(tkw x hx k' hk').1] at he;omega)
     subst this
     rw [hk] at hf;injection hf with hf;subst hf;rfl
    ·have:=inj x (vM x hx) (by rw [(dpw x hx).1] at he;omega)
     subst this
     rw [hasI_of hx] at hm;cases hm
    ·simp only at he;omega
   ·rcases h3 with ⟨_,e,_⟩|rfl
    ·rw [e] at k2;cases k2
    ·simp [k1]
  |none=>
   have hLn:=kOf_none ha.len hk
   by_cases hm:hasI M i=true
   ·rw [if_pos hm]
    obtain ⟨x0,hx0,e0⟩:=hasI_mem hm
    refine applyH_val (fun y hy he=> ?_) (.inl ⟨dpW D l c i,?_,by show (l*64+offN c i*8)/8=_;omega⟩)
    ·rcases mem y hy with ⟨x,hx,k',hk',rfl,hf⟩|⟨x,hx,rfl⟩|rfl
     ·have:=inj x (vL x hx) (by rw [(tkw x hx k' hk').1] at he;omega)
      subst this
      rw [hasI_of hx] at hLn;cases hLn
     ·have:=inj x (vM x hx) (by rw [(dpw x hx).1] at he;omega)
      subst this;rfl
     ·simp only at he;omega
    ·rcases h3 with ⟨_,_,e⟩|rfl
     ·rw [e] at hx0;cases hx0
     ·have:dpW D l c i∈M.map (fun x=>dpW D l c x.toNat):=List.mem_map.2 ⟨x0,hx0,by rw [e0]⟩
      simp only [List.mem_append];exact .inl (.inr this)
   ·rw [if_neg hm]
    unfold wd
    refine applyH_other _ _ _ (fun y hy he=> ?_)
    rcases mem y hy with ⟨x,hx,k',hk',rfl,hf⟩|⟨x,hx,rfl⟩|rfl
    ·have:=inj x (vL x hx) (by rw [(tkw x hx k' hk').1] at he;omega)
     subst this
     rw [hasI_of hx] at hLn;cases hLn
    ·have:=inj x (vM x hx) (by rw [(dpw x hx).1] at he;omega)
     subst this;exact hm (hasI_of hx)
    ·simp only at he;omega
 ·rcases h3 with ⟨rfl,rfl,rfl⟩|e
  ·unfold wd;rw [o2];rfl
  ·have:wd (D.strs ws) l 1=applyH ws D.cur (l*8+1):=by unfold wd;rw [o2]
   rw [this]
   refine applyH_val (fun y hy he=> ?_) (.inl ⟨(l*64+8,dpL D l c M (orL L (wd D l 1))),by rw [e];simp,by simp only;omega⟩)
   rcases mem y hy with ⟨x,hx,k',hk',rfl,hf⟩|⟨x,hx,rfl⟩|rfl
   ·have h4:=bdi x (vL x hx);rw [(tkw x hx k' hk').1] at he;omega
   ·have h4:=bdi x (vM x hx);rw [(dpw x hx).1] at he;omega
   ·rfl
 ·rw [o2]
  refine applyH_other _ _ _ (fun y hy=> ?_)
  rcases mem y hy with ⟨x,hx,k,hk,rfl,_⟩|⟨x,hx,rfl⟩|rfl
  ·have h4:=bdi x (vL x hx);rw [(tkw x hx k hk).1];omega
  ·have h4:=bdi x (vM x hx);rw [(dpw x hx).1];omega
  ·simp only;omega
 ·rcases h3 with ⟨rfl,_⟩|rfl
  ·simp
  ·have:=zl L ks;simp;omega
end Go.Proofs.YtmpehclnnjgmcaaGreatDoor
