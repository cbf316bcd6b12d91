/-
  Part 5 of what the proofs of this seat share.
-/
import Derived.Test.YtmpehclnnjgmcaaGreatDoorCb4
import Derived.Test.YtmpehclnnjgmcaaGreatDoorCb1
import Derived.RangeFuncRecord
import Derived.Maps.RangeRun
import Derived.Test.YtmpehclnnjgmcaaGreatDoorCb2
import Derived.Test.YtmpehclnnjgmcaaGreatDoorCb3
import Derived.Shelf.SortM.Plain
import Derived.Shelf.SortM.SortNone
import Derived.Sort.Grow
set_option linter.unusedSimpArgs false
set_option linter.unusedVariables false
set_option maxHeartbeats 20000000
set_option maxRecDepth 100000
open Go.Proofs.Tryz (prog)
open Go.RowKit (intOf)
namespace Go.Proofs.YtmpehclnnjgmcaaGreatDoor
open Go Go.Sh
theorem rp_okI {n:Nat} {ws:List (Nat×Nat)} (h:WsOk n ws) (hn:n≤4096):∀i∈rpI ws,okI i:=by
 intro i hi
 unfold rpI at hi
 by_cases h0:ws= []
 ·rw [if_pos h0] at hi;cases hi
 ·rw [if_neg h0] at hi
  exact cm_okI (D:=DS.zero n) h hn (cmC_lt h.len) i hi
theorem rp_len {n:Nat} {ws:List (Nat×Nat)} (h:WsOk n ws):(rpI ws).length≤1000:=by
 unfold rpI
 by_cases h0:ws= []
 ·rw [if_pos h0];exact Nat.zero_le _
 ·rw [if_neg h0]
  exact cm_len (D:=DS.zero n) h
section
variable {w w':World} {Y:Lay} {D:DS} {T B:Nat}
theorem k_Commit (h:Dv w Y D) (g:Good D) (hG:Glob w) (h26:26≤D.n) (hT:Y.tb 0=T) (hC:Cells w B 171 3 (lgF T)) (he:D.err 0=0) (ho:D.off=false) (hidl:D.cur 0=0) (hx:D.exe<1000000000) (ws:List (Nat×Nat)) (v:Value) (hS:SlO w 98 2 v ws.length (wrL ws)) (hnd:(ws.map (·.1)).Nodup) (hl:ws.length<1073741824) (hok:∀x∈ws,x.1%8=0∧x.1<D.n*64∧1664≤x.1∧x.2<18446744073709551616) (K:K1)
  (hlim:96<ws.length→∀w',Ext w w'→K (.int .i64 9) w')
  (hK:WsOk D.n ws→∀w' Y',Stp w Y w' Y' (D.run 0 (rpI ws))→K (.int .i64 ((D.run 0 (rpI ws)).err 0)) w'):
  callS prog 43 #[.pointer (some ⟨B,0,none⟩),v] w K:=by
 have q0:w.cell? ⟨B,0,none⟩=some (.iface 31 (.pointer (some ⟨T,0,none⟩))):=hC.cell (i:=0) oM
 have ltB:=hC.lt
 refine f43_call _ _ _ _ ?_
 unfold f43_t
 refine k_RPlan h g hG h26 hT hC (fun _=>⟨ho,hidl⟩) ws v hS hnd hl hok _ (fun hlm w1 e1=> ?_) (fun _ hn=>absurd he hn) (fun hlm _ v1 w1 e1 n1 s1=> ?_)
 ·simp (disch:=try exact dZ) only [↓RBp,↓RA,↓reduceIte,Nat.reduceAdd,Nat.reduceMul,Nat.reduceEqDiff,RB,RX,RA2]
  exact hlim hlm _ e1
 ·have q0:=e1.cell_some q0
  have hW:WsOk D.n ws:=⟨hok,hlm⟩
  have hrl:=rp_len hW
  have hrun:=fun K hK=>k_Run (h.ext e1) g 0 oM (rpI ws) v1 s1 (fun b hb hf=>by have h1:=h.lt hf;have h2:=n1 b hb;omega) (rp_okI hW g.n) oM K hK
  rw [hT] at hrun
  simp (disch:=try exact dZ) only [↓RBp,↓RA,↓reduceIte,Nat.reduceAdd,Nat.reduceMul,Nat.reduceEqDiff,RB,RX,RA2,q0]
  refine hrun _ (fun w3 Y3 st=> ?_)
  exact hK hW w3 Y3 (Stp.pre e1 (fun x hx=>h.lt hx) st)
theorem k_lookI (h:Dv w Y D) (g:Good D) (h26:26≤D.n) (hT:Y.tb 0=T) (hC:Cells w B 171 3 (lgF T)) (ho:D.off=false) (hidl:D.cur 0=0) (K:K1) (hK:∀w',Ext w w'→K (.tuple #[.int .u8 ((1:Nat):Int),.slice none 0 0]) w'):
  callS prog 151 #[.pointer (some ⟨B,0,none⟩)] w K:=by
 have hld:∀(w1:World) (K:K1),Ext w w1→callS prog 32 #[.pointer (some ⟨T,0,none⟩),.int .u64 ((0:Nat):Int)] w1 K=K (.int .u64 ((0:Nat):Int)) w1:=fun w1 K e=>by
  rw [←hT,c_Load (h.ext e) g 0 oM ho 0 oM oM K,show 0/8=0 by omega,hidl]
 have q0:w.cell? ⟨B,0,none⟩=some (.iface 31 (.pointer (some ⟨T,0,none⟩))):=hC.cell (i:=0) oM
 have q1:w.cell? ⟨B,1,none⟩=some (.int .u64 ((0:Nat):Int)):=hC.cell (i:=1) oM
 have ltB:=hC.lt
 refine f151_call _ _ _ ?_
 unfold f151_t
 simp (disch:=try exact dX) only [↓RBp,↓RA,↓reduceIte,Nat.reduceAdd,Nat.reduceMul,Nat.reduceEqDiff,RB,RX,RA2,q0,q1,hld,rd_mf,ag_mf,nilR_Load]
 exact hK _ xZ
theorem k_RecoverI (h:Dv w Y D) (g:Good D) (h26:26≤D.n) (hT:Y.tb 0=T) (hC:Cells w B 171 3 (lgF T)) (ho:D.off=false) (he:D.err 0=0) (hidl:D.cur 0=0) (K:K1) (hK:∀w',Ext w w'→K (.tuple #[.int .i64 0,.int .i64 0]) w'):
  callS prog 108 #[.pointer (some ⟨B,0,none⟩)] w K:=by
 have her:∀(w1:World) (K:K1),Ext w w1→callS prog 28 #[.pointer (some ⟨T,0,none⟩)] w1 K=K (.int .i64 0) w1:=fun w1 K e=>by rw [←hT,c_Err (h.ext e) 0 oM K,he]
 have q0:w.cell? ⟨B,0,none⟩=some (.iface 31 (.pointer (some ⟨T,0,none⟩))):=hC.cell (i:=0) oM
 have ltB:=hC.lt
 refine f108_call _ _ _ ?_
 unfold f108_t
 simp (disch:=try exact dX) only [↓RBp,↓RA,↓reduceIte,Nat.reduceAdd,Nat.reduceMul,Nat.reduceEqDiff,RB,RX,RA2,q0,her]
 refine k_lookI h g h26 hT hC ho hidl _ (fun w1 e1=> ?_)
 have q0:=e1.cell_some q0
 have ltB:=lt_of_cell q0
 have her1:=fun (w2:World) (K:K1) (e:Ext w1 w2)=>her w2 K (e1.trans e)
 simp (disch:=try exact dX) only [↓RBp,↓RA,↓reduceIte,Nat.reduceAdd,Nat.reduceMul,Nat.reduceEqDiff,RB,RX,RA2,q0,her1]
 exact hK _ e1
end
section
variable {w0 w w':World} {Y Y':Lay} {D D':DS} {S b o cp l0 n k:Nat} {f f':Nat→Int×Int×Bool}
theorem k_Hold (h:ArS w0 w Y D S b o cp l0 n f) (hk:k<n) (on:Bool) (K:K1)
  (h8:(f k).1<0→∀w',Ext w w'→K (.int .i64 8) w')
  (hK:¬(f k).1<0→∀w',AStp w Y b w' Y→ArS w0 w' Y D S b o cp l0 n (upF f k ((f k).1,(f k).2.1,on))→K (.int .i64 0) w'):
  callS prog 70 #[stV S,.int .i64 ((l0+32*k:Nat):Int),.bool on] w K:=by
 refine f70_call _ _ _ _ _ ?_
 unfold f70_t
 simp (disch:=try exact dZ) only [↓RBp,↓RA,↓reduceIte,Nat.reduceAdd,Nat.reduceMul,Nat.reduceEqDiff,RB,RX,RA2]
 refine k_findAt h hk _ (fun w1 e1=> ?_)
 have h1:=h.ext e1
 have h3:=h1.wr3 hk on
 have fz:=h1.fz
 have ob46:=h1.p hk;have q0:=ob46.1;have q1:=ob46.2.1;have q2:=ob46.2.2.1;have q3:=ob46.2.2.2
 by_cases c0:(f k).1<0
 ·have h8:=h8 c0
  generalize (f k).1=cc at q1 c0
  simp (disch:=try exact dZ) only [↓RBp,↓RA,↓reduceIte,Nat.reduceAdd,Nat.reduceMul,Nat.reduceEqDiff,RB,RX,RA2,q1,c0]
  exact h8 _ e1
 ·have hK:=hK c0 _ ((AStp.of_ext Y b e1).set _ _) h3
  generalize (f k).1=cc at q1 c0
  simp (disch:=try exact dZ) only [↓RBp,↓RA,↓reduceIte,Nat.reduceAdd,Nat.reduceMul,Nat.reduceEqDiff,RB,RX,RA2,q1,q3,c0,fz]
  exact hK
end
theorem mTr:MapT prog .u64 108 (.int .u64 0):=⟨26,27,by kernel_rfl,by kernel_rfl,by kernel_rfl⟩
theorem mTh:MapT prog .i64 109 (.int .i64 0):=⟨3,3,by kernel_rfl,by kernel_rfl,by kernel_rfl⟩
theorem mTa:MapT prog .i64 110 (.bool false):=⟨3,4,by kernel_rfl,by kernel_rfl,by kernel_rfl⟩
abbrev Idx:=Nat→Int×Int×Bool
structure HL where
 S:Nat
 b:Nat
 o:Nat
 cp:Nat
 p:Nat
 rm:Nat
 hm:Nat
 av:Option Nat
 avl:List Int
 lk:Bool
 B:Nat
def hpF (T n:Nat) (H:HL) (i:Nat):Value:= [Value.iface 31 (.pointer (some ⟨T,0,none⟩)),.int .i64 ((26:Nat):Int),.int .i64 ((32*n:Nat):Int),stV H.S,.map (some H.rm),.map (some H.hm),.map H.av,.bool H.lk].getD i undef
def rsL (R:List Nat):KVL:=R.map fun p=>((pO p:Int),.int .u64 (p:Int))
def avL (A:List Int):KVL:=A.map fun x=>(x,.bool true)
def hk (p:Nat):Nat:=(pO p-1664)/2048
def cnR (R:List Nat) (k:Nat):Nat:=(R.filter fun p=>decide (hk p=k)).length
def Rsv (D:DS) (f:Idx) (n p:Nat):Prop:=∃k i kd:Nat,k<n∧0≤(f k).1∧(i:Int)<perS (f k).1∧p=ptrN (pOff (26+32*k) (f k).1 i) (bG (wd D (26+32*k) (offN (f k).1 i))) kd∧bS (wd D (26+32*k) (offN (f k).1 i))=176∧kd≠0∧kd≤127
structure HpG (Q:Nat→Prop) (w0 w:World) (Y:Lay) (D:DS) (H:HL) (n:Nat) (f:Idx) (R:List Nat):Prop where
 ar:ArS w0 w Y D H.S H.b H.o H.cp 26 n f
 rg:RgS D 26 n f
 hp:Cells w H.p 112 8 (hpF (Y.tb 0) n H)
 lg:Cells w H.B 171 3 (lgF (Y.tb 0))
 rs:MapK .u64 w H.rm (rsL R)
 hd:∃L,MapK .i64 w H.hm L∧∀k,k<n→getL L ((26+32*k:Nat):Int)=if cnR R k=0 then none else some (.int .i64 (cnR R k:Int))
 nd:(R.map pO).Nodup
 rv:∀p∈R,Q p
 ho:∀k,k<n→(f k).2.2=decide (cnR R k≠0)
 er:∀k,k<8→D.err k=0
 idl:D.cur 0=0
 avm:(H.av=none∧H.avl= [])∨∃r,H.av=some r∧MapK .i64 w r (avL H.avl)∧r≠H.rm∧r≠H.hm∧r≠H.p
 sep:∀x,(x=H.p∨x=H.rm∨x=H.hm∨x=H.B∨H.av=some x)→w0.heap.size≤x∧¬Y.F x∧x≠H.b∧x≠H.S
 dif:H.p≠H.rm∧H.p≠H.hm∧H.rm≠H.hm∧H.B≠H.rm∧H.B≠H.hm∧H.B≠H.p
 dt:Y.dt=Y.tb∧∀i,Y.ids i=i
abbrev HpS (w0 w:World) (Y:Lay) (D:DS) (H:HL) (n:Nat) (f:Idx) (R:List Nat):Prop:=HpG (Rsv D f n) w0 w Y D H n f R
abbrev hpV (H:HL):Value:= .pointer (some ⟨H.p,0,none⟩)
structure HSt (w:World) (Y:Lay) (H:HL) (w':World) (Y':Lay):Prop where
 tb:Y'.tb=Y.tb
 d:Y'.d=Y.d
 frm:Frm (fun x=>Y.F x∨x=H.b∨x=H.p∨x=H.rm∨x=H.hm) w w'
 fr:∀x,Y'.F x→Y.F x∨w.heap.size≤x
section
variable {Q Q':Nat→Prop} {w0 w w' w'':World} {Y Y' Y'':Lay} {D D':DS} {H:HL} {n:Nat} {f f':Idx} {R:List Nat}
theorem HSt.of_ext (Y:Lay) (H:HL) (e:Ext w w'):HSt w Y H w' Y:=⟨rfl,rfl,Frm.of_ext e,fun x hx=> .inl hx⟩
theorem HSt.of_stp (H:HL) (s:Stp w Y w' Y' D'):HSt w Y H w' Y':=⟨s.tb,s.d,s.frm.mono (fun x hx=> .inl hx),s.fr⟩
theorem HSt.of_ast (s:AStp w Y H.b w' Y'):HSt w Y H w' Y':=⟨s.tb,s.d,s.frm.mono (fun x hx=>hx.elim .inl (fun e=> .inr (.inl e))),s.fr⟩
theorem HSt.trans (h:HSt w Y H w' Y') (k:HSt w' Y' H w'' Y''):HSt w Y H w'' Y'' where
 tb:=k.tb.trans h.tb
 d:=k.d.trans h.d
 frm:=h.frm.trans k.frm (fun x hx hf=>by
  rcases hf with hf|hf
  ·rcases h.fr x hf with h1|h1
   ·exact .inl h1
   ·omega
  ·exact .inr hf)
 fr x hx:=by
  rcases k.fr x hx with h1|h1
  ·exact h.fr x h1
  ·exact .inr (Nat.le_trans h.frm.size h1)
theorem HSt.ext (h:HSt w Y H w' Y') (e:Ext w' w''):HSt w Y H w'' Y':=h.trans (HSt.of_ext Y' H e)
theorem HpG.ext (h:HpG Q w0 w Y D H n f R) (e:Ext w w'):HpG Q w0 w' Y D H n f R:=by
 obtain ⟨L,h1,h2⟩:=h.hd
 exact ⟨h.ar.ext e,h.rg,h.hp.ext e,h.lg.ext e,h.rs.ext e,⟨L,h1.ext e,h2⟩,h.nd,h.rv,h.ho,h.er,h.idl,h.avm.imp id (fun ⟨r,a,b,c⟩=>⟨r,a,b.ext e,c⟩),h.sep,h.dif,h.dt⟩
theorem HpG.gl (h:HpG Q w0 w Y D H n f R):Glob w:=h.ar.gl.ext h.ar.L.ex
theorem HpG.n4 (h:HpG Q w0 w Y D H n f R):D.n≤4096∧26+32*n≤D.n:=⟨h.ar.L.gd.n,h.ar.lt⟩
theorem HpG.cell (h:HpG Q w0 w Y D H n f R):w.cell? ⟨H.p,0,none⟩=some (.iface 31 (.pointer (some ⟨Y.tb 0,0,none⟩)))∧w.cell? ⟨H.p,1,none⟩=some (.int .i64 ((26:Nat):Int))∧w.cell? ⟨H.p,2,none⟩=some (.int .i64 ((32*n:Nat):Int))∧w.cell? ⟨H.p,3,none⟩=some (stV H.S)∧w.cell? ⟨H.p,4,none⟩=some (.map (some H.rm))∧w.cell? ⟨H.p,5,none⟩=some (.map (some H.hm))∧w.cell? ⟨H.p,6,none⟩=some (.map H.av)∧w.cell? ⟨H.p,7,none⟩=some (.bool H.lk):=
 ⟨h.hp.cell (i:=0) oM,h.hp.cell (i:=1) oM,h.hp.cell (i:=2) oM,h.hp.cell (i:=3) oM,h.hp.cell (i:=4) oM,h.hp.cell (i:=5) oM,h.hp.cell (i:=6) oM,h.hp.cell (i:=7) oM⟩
theorem HpG.ltp (h:HpG Q w0 w Y D H n f R):H.p<w.heap.size:=h.hp.lt
theorem HpG.erE (h:HpG Q w0 w Y D H n f R):∀(w1:World) (K:K1),Ext w w1→callS prog 28 #[.pointer (some ⟨Y.tb 0,0,none⟩)] w1 K=K (.int .i64 0) w1:=fun w1 K e=>by rw [c_Err (h.ar.L.dv.ext e) 0 oM K,h.er 0 oM]
theorem HpG.step (h:HpG Q w0 w Y D H n f R) (s:Stp w Y w' Y' D') (hn:D'.n=D.n) (rg:RgS D' 26 n f) (rv:∀p∈R,Q' p) (er:∀k,k<8→D'.err k=0) (idl:D'.cur 0=0):HpG Q' w0 w' Y' D' H n f R:=by
 obtain ⟨L,h1,h2⟩:=h.hd
 have tb:Y'.tb 0=Y.tb 0:=by rw [s.tb]
 have sp:=h.sep
 refine ⟨h.ar.step s rg.gd hn,rg,by rw [tb];exact h.hp.frm s.frm (sp _ (.inl rfl)).2.1,by rw [tb];exact h.lg.frm s.frm (sp _ (.inr (.inr (.inr (.inl rfl))))).2.1,h.rs.frm s.frm (sp _ (.inr (.inl rfl))).2.1,⟨L,h1.frm s.frm (sp _ (.inr (.inr (.inl rfl)))).2.1,h2⟩,h.nd,rv,h.ho,er,idl,h.avm.imp id (fun ⟨r,a,b,c⟩=>⟨r,a,b.frm s.frm (sp _ (.inr (.inr (.inr (.inr a))))).2.1,c⟩),fun x hx=>⟨(sp x hx).1,fun hf=> ?_,(sp x hx).2.2⟩,h.dif,by have:=h.dt;rw [s.y];exact this⟩
 have lt:x<w.heap.size:=by
  rcases hx with rfl|rfl|rfl|rfl|ha
  ·exact h.hp.lt
  ·exact h.rs.lt
  ·exact h1.lt
  ·exact h.lg.lt
  ·rcases h.avm with ⟨a,_⟩|⟨r,a,b,_⟩
   ·rw [a] at ha;cases ha
   ·rw [a] at ha;injection ha with ha;subst ha;exact b.lt
 rcases s.fr x hf with h3|h3
 ·exact (sp x hx).2.1 h3
 ·omega
theorem c_home {p n x:Nat} (h1:w.cell? ⟨p,1,none⟩=some (.int .i64 ((26:Nat):Int))) (h2:w.cell? ⟨p,2,none⟩=some (.int .i64 ((32*n:Nat):Int))) (hn:n≤128) (hx:x<18446744073709551616) (K:K1):callS prog 74 #[.pointer (some ⟨p,0,none⟩),.int .u64 (x:Int)] w K=K (if 1664≤x∧(x-1664)/2048<n then .tuple #[.int .i64 ((26+32*((x-1664)/2048):Nat):Int),.bool true] else .tuple #[.int .i64 0,.bool false]) w:=by
 have e1:32*n/32=n:=by omega
 by_cases a:1664≤x
 ·by_cases b:(x-1664)/2048<n
  ·rw [if_pos ⟨a,b⟩]
   have e2:((26:Nat):Int)+(((x-1664)/2048:Nat):Int)*32=((26+32*((x-1664)/2048):Nat):Int):=by omega
   refine callS_det (by kernel_rfl) (f74_call _ _ _ _ ?_) K;unfold f74_t
   simp (disch:=try exact dZ) only [↓RBp,↓RA,↓reduceIte,Nat.reduceAdd,Nat.reduceMul,Nat.reduceEqDiff,RB,RX,RA2,h1,h2,e1,e2]
  ·rw [if_neg (fun h=>b h.2)]
   refine callS_det (by kernel_rfl) (f74_call _ _ _ _ ?_) K;unfold f74_t
   simp (disch:=try exact dZ) only [↓RBp,↓RA,↓reduceIte,Nat.reduceAdd,Nat.reduceMul,Nat.reduceEqDiff,RB,RX,RA2,h1,h2,e1]
 ·rw [if_neg (fun h=>a h.1)]
  refine callS_det (by kernel_rfl) (f74_call _ _ _ _ ?_) K;unfold f74_t
  simp (disch:=try exact dZ) only [↓RBp,↓RA,↓reduceIte,Nat.reduceAdd,Nat.reduceMul,Nat.reduceEqDiff,RB,RX,RA2,h1,h2,e1]
theorem rs_get {R:List Nat} (hn:(R.map pO).Nodup) {p:Nat} (h:p∈R):getL (rsL R) (pO p:Int)=some (.int .u64 (p:Int)):=by
 refine getL_of ?_ (List.mem_map.2 ⟨p,h,rfl⟩)
 unfold rsL
 rw [List.map_map]
 have:R.map ((fun x=>x.1) ∘ fun p=>((pO p:Int),Value.int .u64 (p:Int)))=(R.map pO).map (fun (x:Nat)=>(x:Int)):=by rw [List.map_map];rfl
 rw [this]
 exact List.Pairwise.map _ (fun a b h e=>h oM) hn
theorem rs_not {R:List Nat} {p:Nat} (h:p∉R):getL (rsL R) (pO p:Int)=none∨∃q,q≠p∧q∈R∧pO q=pO p∧getL (rsL R) (pO p:Int)=some (.int .u64 (q:Int)):=by
 cases hg:getL (rsL R) (pO p:Int) with
 |none=>exact .inl rfl
 |some v=>
  have:=getL_mem hg
  obtain ⟨q,hq,e⟩:=List.mem_map.1 this
  injection e with e1 e2
  exact .inr ⟨q,fun e=>h (e▸hq),hq,by omega,by rw [e2]⟩
theorem k_holds (h:HpG Q w0 w Y D H n f R) (hr:∀p∈R,p<18446744073709551616) (p:Nat) (hp:p<18446744073709551616) (K:K1) (hK:∀w',Ext w w'→K (.bool (decide (p∈R))) w'):
  callS prog 83 #[hpV H,.int .u64 (p:Int)] w K:=by
 have q4:=h.cell.2.2.2.2.1
 have ltp:=h.ltp
 have hlk:∀(w1:World) (k:Value→Prop),Ext w w1→rd prog (Instr.lookup 108 (.map (some H.rm)) (.int .u64 ((pO p:Nat):Int)) true) w1 k=k (.tuple #[(getL (rsL R) (pO p:Int)).getD (.int .u64 0),.bool (getL (rsL R) (pO p:Int)).isSome]):=fun w1 k e=>rd_lookupK mTr (h.rs.ext e) (pO p:Int) k
 refine f83_call _ _ _ _ ?_
 unfold f83_t
 by_cases hm:p∈R
 ·rw [rs_get h.nd hm] at hlk
  rw [decide_eq_true hm] at hK
  (repeat' (first|(with_reducible first|refine brS_mk (fun _=> ?_) (fun _=> ?_)|refine And.intro ?_ ?_)|(simp (disch:=try exact dX) only [↓RBp,↓RA,↓reduceIte,Nat.reduceAdd,Nat.reduceMul,Nat.reduceEqDiff,RB,RX,RA2,q4,hlk,c_POff,Option.getD_some,Option.isSome_some])))
  exact hK _ xZ
 ·rw [decide_eq_false hm] at hK
  rcases rs_not hm with h0|⟨q,hq,hqR,_,h0⟩
  ·rw [h0] at hlk
   (repeat' (first|(with_reducible first|refine brS_mk (fun _=> ?_) (fun _=> ?_)|refine And.intro ?_ ?_)|(simp (disch:=try exact dX) only [↓RBp,↓RA,↓reduceIte,Nat.reduceAdd,Nat.reduceMul,Nat.reduceEqDiff,RB,RX,RA2,q4,hlk,c_POff,Option.getD_none,Option.isSome_none])))
   exact hK _ xZ
  ·rw [h0] at hlk
   have:=hr q hqR
   have hne:¬(q:Int)=(p:Int):=by omega
   (repeat' (first|(with_reducible first|refine brS_mk (fun _=> ?_) (fun _=> ?_)|refine And.intro ?_ ?_)|(simp (disch:=try exact dX) only [↓RBp,↓RA,↓reduceIte,Nat.reduceAdd,Nat.reduceMul,Nat.reduceEqDiff,RB,RX,RA2,q4,hlk,c_POff,Option.getD_some,Option.isSome_some,hne])))
   exact hK _ xZ
def clsN (x:Int):Int:=if x≤3 then 0 else if x≤7 then 1 else if x≤15 then 2 else if x≤31 then 3 else 4
theorem clsN_bd (x:Int):0≤clsN x∧clsN x<5:=by unfold clsN;repeat' split<;>omega
theorem k_SClass (hG:Glob w) (x:Int) (h1:1≤x) (h60:x≤60) (K:K1) (hK:K (.tuple #[.int .i64 (clsN x),.int .i64 0]) w):
  callS prog 65 #[.int .i64 x] w K:=by
 refine f65_call _ _ _ ?_
 unfold f65_t
 simp (disch:=try exact dZ) only [↓RBp,↓RA,↓reduceIte,Nat.reduceAdd,Nat.reduceMul,Nat.reduceEqDiff,RB,RX,RA2]
 apply f65_l1_rule (I:=fun z w'=>∃i:Nat,z= .int .i64 (i:Int)∧(i:Int)≤clsN x∧w'=w) (μ:=fun z _=>5-(intOf z).toNat)
 ·exact ⟨0,rfl,by have:=clsN_bd x;omega,rfl⟩
 ·intros;rename_i w1 hI E1 hE
  obtain ⟨i,rfl,hi,rfl⟩:=hI
  have hb:=clsN_bd x
  have hpay:=hG.pay i oM
  unfold f65_l1_t
  by_cases e:(i:Int)=clsN x
  ·have hle:x≤payN i:=by
    unfold clsN at e
    have:i=0∨i=1∨i=2∨i=3∨i=4:=by omega
    rcases this with rfl|rfl|rfl|rfl|rfl<;>simp only [payN,List.getD_cons_zero,List.getD_cons_succ]<;>(repeat' split at e)<;>omega
   rw [←e] at hK
   simp (disch:=try exact dZ) only [↓RBp,↓RA,↓reduceIte,Nat.reduceAdd,Nat.reduceMul,Nat.reduceEqDiff,RB,RX,RA2,hpay]
   exact hK
  ·have hgt:¬x≤payN i:=by
    unfold clsN at e hi
    have:i=0∨i=1∨i=2∨i=3∨i=4:=by omega
    rcases this with rfl|rfl|rfl|rfl|rfl<;>simp only [payN,List.getD_cons_zero,List.getD_cons_succ]<;>(repeat' split at hi)<;>(repeat' split at e)<;>omega
   simp (disch:=try exact dZ) only [↓RBp,↓RA,↓reduceIte,Nat.reduceAdd,Nat.reduceMul,Nat.reduceEqDiff,RB,RX,RA2,hpay,hgt]
   apply hE
   ·exact ⟨i+1,by simp,by omega,rfl⟩
   ·simp [intOf];omega
theorem c_arguments (t x:Int) (k:Nat) (hk:k<256) (w:World) (K:K1):callS prog 64 #[.int .i64 t,.int .i64 x,.int .u8 (k:Int)] w K=K (.int .i64 (if 0≤t∧t<8∧1≤x∧k≠0∧k≤127 then (if x≤60 then 0 else 9) else 1)) w:=by
 by_cases a:0≤t∧t<8∧1≤x∧k≠0∧k≤127
 ·rw [if_pos a]
  by_cases b:x≤60
  ·rw [if_pos b]
   refine callS_det (by kernel_rfl) (f64_call _ _ _ _ _ ?_) K;unfold f64_t
   simp (disch:=try exact dZ) only [↓RBp,↓RA,↓reduceIte,Nat.reduceAdd,Nat.reduceMul,Nat.reduceEqDiff,RB,RX,RA2]
  ·rw [if_neg b]
   refine callS_det (by kernel_rfl) (f64_call _ _ _ _ _ ?_) K;unfold f64_t
   simp (disch:=try exact dZ) only [↓RBp,↓RA,↓reduceIte,Nat.reduceAdd,Nat.reduceMul,Nat.reduceEqDiff,RB,RX,RA2]
 ·rw [if_neg a]
  refine callS_det (by kernel_rfl) (f64_call _ _ _ _ _ ?_) K;unfold f64_t
  by_cases a1:0≤t
  ·by_cases a2:t<8
   ·by_cases a3:1≤x
    ·by_cases a4:k=0
     ·subst a4
      simp (disch:=try exact dZ) only [↓RBp,↓RA,↓reduceIte,Nat.reduceAdd,Nat.reduceMul,Nat.reduceEqDiff,RB,RX,RA2]
     ·have a5:¬k≤127:=fun h=>a ⟨a1,a2,a3,a4,h⟩
      simp (disch:=try exact dZ) only [↓RBp,↓RA,↓reduceIte,Nat.reduceAdd,Nat.reduceMul,Nat.reduceEqDiff,RB,RX,RA2,a4]
    ·simp (disch:=try exact dZ) only [↓RBp,↓RA,↓reduceIte,Nat.reduceAdd,Nat.reduceMul,Nat.reduceEqDiff,RB,RX,RA2]
   ·simp (disch:=try exact dZ) only [↓RBp,↓RA,↓reduceIte,Nat.reduceAdd,Nat.reduceMul,Nat.reduceEqDiff,RB,RX,RA2]
  ·simp (disch:=try exact dZ) only [↓RBp,↓RA,↓reduceIte,Nat.reduceAdd,Nat.reduceMul,Nat.reduceEqDiff,RB,RX,RA2]
end
theorem frN_spec (y:Nat):∀(m i:Nat),(frN y m i= -1∧∀j,i≤j→j<i+m→bitB y j=true)∨∃z:Nat,frN y m i=(z:Int)∧i≤z∧z<i+m∧bitB y z=false∧∀j,i≤j→j<z→bitB y j=true
 |0,i=> .inl ⟨rfl,fun j h1 h2=>by omega⟩
 |m+1,i=>by
  cases hb:bitB y i with
  |false=>
   right
   refine ⟨i,?_,Nat.le_refl _,by omega,hb,fun j h1 h2=>by omega⟩
   simp only [frN,hb];rfl
  |true=>
   have e:frN y (m+1) i=frN y m (i+1):=by simp only [frN,hb];rfl
   rw [e]
   rcases frN_spec y m (i+1) with ⟨h1,h2⟩|⟨z,h1,h2,h3,h4,h5⟩
   ·left
    refine ⟨h1,fun j h3 h4=> ?_⟩
    by_cases ej:j=i
    ·rw [ej];exact hb
    ·exact h2 j oM oM
   ·right
    refine ⟨z,h1,by omega,by omega,h4,fun j h6 h7=> ?_⟩
    by_cases ej:j=i
    ·rw [ej];exact hb
    ·exact h5 j oM h7
theorem chD {w:World} {N T l g:Nat} {c o:Int} (h:Cells w N 134 5 (chF T l c o g)):w.cell? ⟨N,0,none⟩=some (.iface 31 (.pointer (some ⟨T,0,none⟩)))∧w.cell? ⟨N,1,none⟩=some (.int .i64 (l:Int))∧w.cell? ⟨N,2,none⟩=some (.int .i64 c)∧w.cell? ⟨N,3,none⟩=some (.int .i64 o)∧w.cell? ⟨N,4,none⟩=some (.int .u16 (g:Int)):=
 ⟨h.cell (i:=0) oM,h.cell (i:=1) oM,h.cell (i:=2) oM,h.cell (i:=3) oM,h.cell (i:=4) oM⟩
def muF (n:Nat) (z:Value):Nat:=match intOf z with
 | .ofNat a=>n+1-a
 | .negSucc _=>0
def rsB (R:List Nat) (x:Nat):Bool:=R.any fun q=>decide (pO q=x)
theorem rs_any (R:List Nat) (x:Nat):(getL (rsL R) (x:Int)).isSome=rsB R x:=by
 cases hb:rsB R x with
 |true=>
  obtain ⟨q,hq,e⟩:=List.any_eq_true.1 hb
  have e:pO q=x:=by simpa using e
  cases hg:getL (rsL R) (x:Int) with
  |some v=>rfl
  |none=>
   have:=getL_none.1 hg _ (List.mem_map.2 ⟨q,hq,rfl⟩)
   simp only at this;omega
 |false=>
  cases hg:getL (rsL R) (x:Int) with
  |none=>rfl
  |some v=>
   obtain ⟨q,hq,e⟩:=List.mem_map.1 (getL_mem hg)
   injection e with e1 e2
   have:rsB R x=true:=List.any_eq_true.2 ⟨q,hq,by simp;omega⟩
   rw [hb] at this;cases this
section
variable {Q:Nat→Prop} {w0 w w' w'':World} {Y Y' Y'':Lay} {D D':DS} {H:HL} {n:Nat} {f f':Idx} {R:List Nat}
theorem HpG.cls (h:HpG Q w0 w Y D H n f R) {k:Nat} (hk:k<n):(f k).1<5∧-1≤(f k).1:=h.rg.cls hk
theorem HpG.cx (h:HpG Q w0 w Y D H n f R) {k:Nat} (hk:k<n) (h0:0≤(f k).1):Cx w Y D (26+32*k) (f k).1:=⟨h.ar.L.dv,h.ar.L.gd,h.gl,h.rg.on.off,by have:=h.ar.lt;omega,h0,(h.cls hk).1⟩
theorem HpG.open (h:HpG Q w0 w Y D H n f R) {k:Nat} (hk:k<n) (h0:0≤(f k).1):∀(w1:World) (K:K1),Ext w w1→(∀w2,Ext w1 w2→K (.tuple #[chV Y (26+32*k) (f k).1 (f k).2.1 (gX (wd D (26+32*k) 0)),.int .i64 0]) w2)→callS prog 75 #[.iface 31 (.pointer (some ⟨Y.tb 0,0,none⟩)),.int .i64 ((26+32*k:Nat):Int)] w1 K:=fun w1 K e1 hk2=>by
 have ha:=h.rg.ag k hk
 refine k_OpenAt (h.ar.L.dv.ext e1) h.ar.L.gd (h.gl.ext e1) h.rg.on.off (h.er 0 oM) (26+32*k) (by have:=h.ar.lt;omega) ha.1 K (fun w2 e2=> ?_)
 rw [if_neg (by rw [←ha.2.1];omega),←ha.2.1,←ha.2.2]
 exact hk2 w2 e2
theorem HpG.openZ (h:HpG Q w0 w Y D H n f R) {k:Nat} (hk:k<n) (h0:(f k).1<0):∀(w1:World) (K:K1),Ext w w1→(∀w2,Ext w1 w2→K (.tuple #[chZ,.int .i64 8]) w2)→callS prog 75 #[.iface 31 (.pointer (some ⟨Y.tb 0,0,none⟩)),.int .i64 ((26+32*k:Nat):Int)] w1 K:=fun w1 K e1 hk2=>by
 have ha:=h.rg.ag k hk
 refine k_OpenAt (h.ar.L.dv.ext e1) h.ar.L.gd (h.gl.ext e1) h.rg.on.off (h.er 0 oM) (26+32*k) (by have:=h.ar.lt;omega) ha.1 K (fun w2 e2=> ?_)
 rw [if_pos (by rw [←ha.2.1];omega)]
 exact hk2 w2 e2
def usedB (D:DS) (R:List Nat) (l:Nat) (c:Int) (i:Nat):Bool:=bitB (wd D l 1) i||rsB R (pOff l c i)
theorem k_within (h:HpS w0 w Y D H n f R) {k:Nat} (hk:k<n) (h0:0≤(f k).1) (kd:Nat) (k0:kd≠0) (k7:kd≤127) (K:K1)
  (hno:(∀i:Nat,(i:Int)<perS (f k).1→usedB D R (26+32*k) (f k).1 i=true)→∀w',Ext w w'→K (.tuple #[.int .u64 ((0:Nat):Int),.int .i64 5]) w')
  (hyes:∀i:Nat,(i:Int)<perS (f k).1→usedB D R (26+32*k) (f k).1 i=false→(∀j,j<i→usedB D R (26+32*k) (f k).1 j=true)→∀w',Ext w w'→K (.tuple #[.int .u64 ((ptrN (pOff (26+32*k) (f k).1 i) (bG (wd D (26+32*k) (offN (f k).1 i))) kd:Nat):Int),.int .i64 0]) w'):
  callS prog 68 #[hpV H,.int .i64 ((26+32*k:Nat):Int),.int .u8 (kd:Int)] w K:=by
 have hcx:=h.cx hk h0
 have hn4:=h.n4
 have her:=h.erE
 have hop:=h.open hk h0
 have hpr:=perS_in hcx.c0 hcx.c5
 have hsn:=h.rg.sn k hk h0
 have he0:=h.er 0 oM
 have ob1:=h.cell;have q0:=ob1.1;have q1:=ob1.2.1;have q2:=ob1.2.2.1;have q3:=ob1.2.2.2.1;have q4:=ob1.2.2.2.2.1;have q5:=ob1.2.2.2.2.2.1;have q6:=ob1.2.2.2.2.2.2.1;have q7:=ob1.2.2.2.2.2.2.2
 have ltp:=h.ltp
 have hrs:=h.rs
 unfold usedB at hno hyes
 generalize (f k).1=c at*
 generalize (f k).2.1=oo at*
 generalize gX (wd D (26+32*k) 0)=gg at*
 have hl4:26+32*k≤4096:=by omega
 generalize 26+32*k=l at*
 obtain ⟨y,hy⟩:∃y,y=wd D l 1:=⟨_,rfl⟩
 rw [←hy] at hno hyes
 have hpt:∀(w1:World) (i:Nat) (K:K1),Ext w w1→(i:Int)<perS c→bitB y i=false→(∀w2,Ext w1 w2→K (pE (ptrN (pOff l c i) (bG (wd D l (offN c i))) kd) 0) w2)→callS prog 122 #[chV Y l c oo gg,.int .i64 (i:Int),.int .u8 (kd:Int)] w1 K:=fun w1 i K e1 hi hb hK=>by
  have hs:=hsn.sndB hcx.c0 hcx.c5 i hi
  have hb2:=hsn.bit i oM
  rw [←hy,hb,decide_eq_true hi,Bool.true_and] at hb2
  have h176:bS (wd D l (offN c i))=176:=by simpa using hb2
  refine k_Pointer (hcx.ext e1) he0 oo gg (i:Int) kd oM K (fun hn=>absurd ⟨by omega,hi⟩ hn) (fun j ej hj hns=> ?_) (fun j ej hj _ h178=> ?_) (fun j ej hj _ h177=> ?_) (fun j ej hj _ _ hkk=>by omega) (fun j ej hj _ _ _ _ w2 e2=> ?_)
  all_goals (have:j=i:=by omega)
  all_goals subst this
  ·exact absurd hs hns
  ·omega
  ·omega
  ·exact hK w2 e2
 have hfree:∀(w1:World) (i:Nat) (K:K1),Ext w w1→(i:Int)≤perS c→(∀w2,Ext w1 w2→K (.int .i64 (frN y ((perS c).toNat-i) i)) w2)→callS prog 121 #[chV Y l c oo gg,.int .i64 (i:Int)] w1 K:=fun w1 i K e1 hi hK=>by
  refine k_Free (hcx.ext e1) oo gg (i:Int) K ?_
  rw [←hy,Int.toNat_natCast];exact hK
 refine f68_call _ _ _ _ _ ?_
 unfold f68_t
 simp (disch:=try exact dZ) only [↓RBp,↓RA,↓reduceIte,Nat.reduceAdd,Nat.reduceMul,Nat.reduceEqDiff,RB,RX,RA2,q0]
 refine hop _ _ xZ (fun w1 e1=> ?_)
 have e01:Ext w w1:=Ext.trans xZ e1
 have hN:=Cells.new w1 [Value.iface 31 (.pointer (some ⟨Y.tb 0,0,none⟩)),.int .i64 (l:Int),.int .i64 c,.int .i64 oo,.int .u16 (gg:Int)] 134
 have ltp1:H.p<w1.heap.size:=by have:=e01.size;omega
 simp (disch:=try exact dZ) only [↓RBp,↓RA,↓reduceIte,Nat.reduceAdd,Nat.reduceMul,Nat.reduceEqDiff,RB,RX,RA2]
 refine hfree _ 0 _ xZ oM (fun w2 e2=> ?_)
 have hN2:Cells w2 w1.heap.size 134 5 (chF (Y.tb 0) l c oo gg):=hN.ext e2
 have e02:Ext w w2:=Ext.trans xZ e2
 apply f68_l1_rule (I:=fun z w'=>∃i:Nat,z= .int .i64 (frN y ((perS c).toNat-i) i)∧(i:Int)≤perS c∧(∀j,j<i→(bitB y j||rsB R (pOff l c j))=true)∧Ext w2 w') (μ:=fun z _=>muF (perS c).toNat z)
 ·exact ⟨0,rfl,by omega,fun j hj=>by omega,Ext.refl _⟩
 ·intros;rename_i w3 hI E1 hE
  obtain ⟨i,rfl,hi,hu,e3⟩:=hI
  have e03:=e02.trans e3
  have ob2:=chD (hN2.ext e3);have d0:=ob2.1;have d1:=ob2.2.1;have d2:=ob2.2.2.1;have d3:=ob2.2.2.2.1;have d4:=ob2.2.2.2.2
  have ltN:=lt_of_cell d0
  have q0:=e03.cell_some q0
  have q4:=e03.cell_some q4
  have ltp3:=lt_of_cell q0
  have her3:=fun (w1:World) (K:K1) (e:Ext w3 w1)=>her w1 K (e03.trans e)
  rcases frN_spec y ((perS c).toNat-i) i with ⟨h1,h2⟩|⟨z,h1,h2,h3,h4,h5⟩
  ·rw [h1]
   have hno:=hno (fun j hj=>by
    by_cases hji:j<i
    ·exact hu j hji
    ·rw [h2 j oM oM];rfl)
   unfold f68_l1_t
   simp (disch:=try exact dX) only [↓RBp,↓RA,↓reduceIte,Nat.reduceAdd,Nat.reduceMul,Nat.reduceEqDiff,RB,RX,RA2,q0,her3,f68_k1_eq,f68_k1_t]
   exact hno _ e03
  ·rw [h1] at hE ⊢
   have hu2:∀j,j<z→(bitB y j||rsB R (pOff l c j))=true:=fun j hj=>by
    by_cases hji:j<i
    ·exact hu j hji
    ·rw [h5 j oM hj];rfl
   have hyes:=hyes z oM
   have hpo:=pOff_bd (l:=l) (i:=z) oM hcx.c0 hcx.c5 oM
   have hG:=bG_lt (wd D l (offN c z))
   have hpt:=fun (w1:World) (K:K1) (e:Ext w3 w1)=>hpt w1 z K (e03.trans e) oM h4
   have hlk:∀(w1:World) (k:Value→Prop),Ext w3 w1→rd prog (Instr.lookup 108 (.map (some H.rm)) (.int .u64 ((pOff l c z:Nat):Int)) true) w1 k=k (.tuple #[(getL (rsL R) (pOff l c z:Int)).getD (.int .u64 0),.bool (rsB R (pOff l c z))]):=fun w1 k e=>by rw [rd_lookupK mTr (hrs.ext (e03.trans e)),rs_any]
   have hpp:=ptr_bd (pOff l c z) (bG (wd D l (offN c z))) kd hpo.2.1 hG k7 hpo.2.2 hpo.1
   have hof:=pO_ptr (pOff l c z) (bG (wd D l (offN c z))) kd hpo.1 hpo.2.1
   generalize ptrN (pOff l c z) (bG (wd D l (offN c z))) kd=p at*
   have hoff:∀(w1:World) (K:K1),callS prog 20 #[.int .u64 (p:Int)] w1 K=K (.int .u64 ((pOff l c z:Nat):Int)) w1:=fun w1 K=>by rw [c_POff p w1 K oM,hof]
   have hfr:=fun (w1:World) (K:K1) (e:Ext w3 w1)=>hfree w1 (z+1) K (e03.trans e) oM
   generalize hpe:pOff l c z=po at*
   rw [h4] at hyes
   unfold f68_l1_t
   simp (disch:=try exact dZ) only [↓RBp,↓RA,↓reduceIte,Nat.reduceAdd,Nat.reduceMul,Nat.reduceEqDiff,RB,RX,RA2,d0,d1,d2,d3,d4]
   refine hpt _ _ xZ (fun w4 e4=> ?_)
   have e34:Ext w3 w4:=Ext.trans xZ e4
   have e04:=e03.trans e34
   have q0:=e34.cell_some q0
   have q4:=e34.cell_some q4
   have ltp4:=lt_of_cell q0
   have her4:=fun (w1:World) (K:K1) (e:Ext w4 w1)=>her3 w1 K (e34.trans e)
   have hlk4:=fun (w1:World) (k:Value→Prop) (e:Ext w4 w1)=>hlk w1 k (e34.trans e)
   cases hbz:rsB R po with
   |false=>
    rw [hbz] at hlk4 hyes
    (repeat' (first|(with_reducible first|refine brS_mk (fun _=> ?_) (fun _=> ?_)|refine And.intro ?_ ?_)|(simp (disch:=try exact dX) only [↓RBp,↓RA,↓reduceIte,Nat.reduceAdd,Nat.reduceMul,Nat.reduceEqDiff,RB,RX,RA2,q0,q4,her4,hlk4,hoff])))
    exact hyes rfl hu2 _ (e04.trans xZ)
   |true=>
    rw [hbz] at hlk4 hyes
    have ob3:=chD ((hN2.ext e3).ext e34);have d0:=ob3.1;have d1:=ob3.2.1;have d2:=ob3.2.2.1;have d3:=ob3.2.2.2.1;have d4:=ob3.2.2.2.2
    have ltN:=lt_of_cell d0
    have hfr4:=fun (w1:World) (K:K1) (e:Ext w4 w1)=>hfr w1 K (e34.trans e)
    (repeat' (first|(with_reducible first|refine brS_mk (fun _=> ?_) (fun _=> ?_)|refine And.intro ?_ ?_)|(simp (disch:=try exact dX) only [↓RBp,↓RA,↓reduceIte,Nat.reduceAdd,Nat.reduceMul,Nat.reduceEqDiff,RB,RX,RA2,q0,q4,her4,hlk4,hoff,f68_k2_eq,f68_k2_t,d0,d1,d2,d3,d4])))
    refine hfr4 _ _ xZ (fun w5 e5=> ?_)
    apply hE
    ·refine ⟨z+1,rfl,by omega,fun j hj=> ?_,e3.trans (e34.trans (Ext.trans xZ e5))⟩
     by_cases ej:j=z
     ·subst ej;rw [hpe,hbz,Bool.or_true]
     ·exact hu2 j oM
    ·rcases frN_spec y ((perS c).toNat-(z+1)) (z+1) with ⟨g1,_⟩|⟨z',g1,g2,g3,_⟩
     ·rw [g1];show 0<(perS c).toNat+1-z;omega
     ·rw [g1];show (perS c).toNat+1-z'<(perS c).toNat+1-z;omega
end
def zW (po:Nat):Nat→List (Nat×Nat)
 |0=> []
 |m+1=>zW po m++ [(po+8*m,0)]
theorem zW_len (po:Nat):∀m,(zW po m).length=m
 |0=>rfl
 |m+1=>by simp only [zW,List.length_append,List.length_singleton,zW_len po m]
theorem zW_mem {po:Nat}:∀{m:Nat} {x:Nat×Nat},x∈zW po m→∃j,j<m∧x=(po+8*j,0)
 |0,x,h=>by cases h
 |m+1,x,h=>by
  simp only [zW,List.mem_append,List.mem_singleton] at h
  rcases h with h|h
  ·obtain ⟨j,a,b⟩:=zW_mem h;exact ⟨j,by omega,b⟩
  ·exact ⟨m,by omega,h⟩
theorem lnL_mem {P:Nat→Bool} {l0:Nat}:∀{n:Nat} {x:Int},x∈lnL P l0 n↔∃k,k<n∧P k=true∧x=((l0+32*k:Nat):Int)
 |0,x=>⟨fun h=>(by cases h),fun ⟨k,h,_⟩=>oM⟩
 |n+1,x=>by
  simp only [lnL,List.mem_append,lnL_mem (n:=n)]
  constructor
  ·rintro (⟨k,a,b,c⟩|h)
   ·exact ⟨k,by omega,b,c⟩
   ·split at h
    ·rename_i hp
     exact ⟨n,by omega,hp,by simpa using h⟩
    ·cases h
  ·rintro ⟨k,a,b,c⟩
   by_cases e:k=n
   ·right;subst e;rw [if_pos b,c];simp
   ·exact .inl ⟨k,by omega,b,c⟩
section
variable {w0 w w' w'':World} {Y Y' Y'':Lay} {D D':DS} {H:HL} {n:Nat} {f f':Idx} {R:List Nat}
theorem c_PAt (p x:Nat) (w:World) (K:K1) (p0:p≠0) (hp:p<18446744073709551616) (hx:x<60):callS prog 31 #[.int .u64 (p:Int),.int .i64 (x:Int)] w K=K (.int .u64 ((pO p+8*x:Nat):Int)) w:=by
 refine callS_det (by kernel_rfl) (f31_call _ _ _ _ ?_) K
 have h1:pO p<34359738368:=by unfold pO;omega
 unfold f31_t
 simp (disch:=try exact dZ) only [↓RBp,↓RA,↓reduceIte,Nat.reduceAdd,Nat.reduceMul,Nat.reduceEqDiff,RB,RX,RA2,c_PNil,c_POff,p0]
theorem zW_on {po m:Nat} (on:On D) (h8:po%8=0) (hl:po+8*m≤D.n*64):On (D.run 0 (storesI (zW po m)))∧(D.run 0 (storesI (zW po m))).cur=applyH (zW po m) D.cur:=
 On.stores on _ (fun x hx=>by obtain ⟨j,hj,rfl⟩:=zW_mem hx;simp only;omega)
theorem k_zero (h:HpS w0 w Y D H n f R) {p:Nat} {c:Int} (c0:0≤c) (c5:c<5) (p0:p≠0) (hp:p<18446744073709551616) (h8:pO p%8=0) (hl:pO p+8*(wordsS c).toNat≤D.n*64) (hx:D.exe<1000000000) (K:K1)
  (hK:∀w' Y',Stp w Y w' Y' (D.run 0 (storesI (zW (pO p) (wordsS c).toNat)))→K (.int .i64 0) w'):
  callS prog 69 #[hpV H,.int .u64 (p:Int),.int .i64 c] w K:=by
 have hn4:=h.n4
 have hw:=wordsS_in c0 c5
 have q0:=h.cell.1
 have ltp:=h.ltp
 have hdv:=h.ar.L.dv
 have hon:=zW_on (m:=(wordsS c).toNat) h.rg.on h8 hl
 have hwd:=c_Words c w
 obtain ⟨m,hm⟩:∃m:Nat,wordsS c=(m:Int):=⟨(wordsS c).toNat,by omega⟩
 rw [hm] at hl hK hon hwd
 rw [hm] at hw
 rw [Int.toNat_natCast] at hl hK hon
 have hG:=h.gl
 refine f69_call _ _ _ _ _ ?_
 unfold f69_t
 simp (disch:=try exact dZ) only [↓RBp,↓RA,↓reduceIte,Nat.reduceAdd,Nat.reduceMul,Nat.reduceEqDiff,RB,RX,RA2,hwd,hG]
 apply f69_l1_rule (I:=fun x z w'=>∃j:Nat,z= .int .i64 (j:Int)∧j≤m∧SlO w' 98 2 x j (wrL (zW (pO p) j))∧Frm Nob w w'∧NewV w.heap.size x) (μ:=fun _ z _=>m-(intOf z).toNat)
 ·exact ⟨0,rfl,by omega,SlO.nil _ _ _,Frm.refl _ _,fun b hb=>by cases hb⟩
 ·intros;rename_i w2 hI E1 hE
  obtain ⟨j,rfl,hj,sx,hf,nx⟩:=hI
  have e2:=hf.to_ext (fun _ _ h=>h)
  obtain ⟨xa,xc,rfl,hxc⟩:=sx.isS'
  by_cases hjm:j<m
  ·have hat:=c_PAt p j
   unfold f69_l1_t
   simp (disch:=try exact dZ) only [↓RBp,↓RA,↓reduceIte,Nat.reduceAdd,Nat.reduceMul,Nat.reduceEqDiff,RB,RX,RA2,hat]
   refine app_new elWrite (w0:=w) (sx.ext xZ) (hf.ext xZ) nx (m:=1) (news:=wrL [(pO p+8*j,0)]) (by simp [wrL]) ?_ rfl oM oM oM (fun v' w3 hs hf3 n3 _ _=> ?_)
   ·intro q u hq
    rw [Nat.zero_add,cell_new _ _ _ _ _ (by simp only [RZ])]
    simpa [wrL,u64] using hq
   simp (disch:=try exact dZ) only [↓RBp,↓RA,↓reduceIte,Nat.reduceAdd,Nat.reduceMul,Nat.reduceEqDiff,RB,RX,RA2]
   apply hE
   ·refine ⟨j+1,by simp,by omega,?_,hf3,n3⟩
    rw [zW,wrL_append];exact hs
   ·simp [intOf];omega
  ·have:j=m:=by omega
   subst this
   have q0:=e2.cell_some q0
   have ltp2:=lt_of_cell q0
   have hzl:=zW_len (pO p) j
   have hsl:=storesI_le (zW (pO p) j)
   have hsx:SlO w2 98 2 (.slice xa j xc) (zW (pO p) j).length (wrL (zW (pO p) j)):=by rw [hzl];exact sx
   have ed:Ext w2 w2.drew:=Ext.drew (Ext.refl _)
   rw [hzl] at hsl
   have hst:=fun K hK=>k_Stores (zW (pO p) j) _ (hsx.ext ed) oM oM (fun x hx=>by obtain ⟨i,hi,rfl⟩:=zW_mem hx;simp only;omega) K hK
   have hrun:=fun (v3:Value) (w3:World) (hs3:SlO w3 220 3 v3 (storesI (zW (pO p) j)).length (inL (storesI (zW (pO p) j)))) (e3:Ext w w3) (n3:NewV w2.drew.heap.size v3) K hK=>k_Run (hdv.ext e3) h.ar.L.gd 0 oM (storesI (zW (pO p) j)) v3 hs3 (fun b hb hf=>by have h1:=hdv.lt hf;have h2:=n3 b hb;have:=(e2.trans ed).size;omega) (okI_stores (fun x hx=>by obtain ⟨i,hi,rfl⟩:=zW_mem hx;simp only;omega)) oM K hK
   rw [hon.1.err] at hrun
   unfold f69_l1_t
   simp (disch:=try exact dZ) only [↓RBp,↓RA,↓reduceIte,Nat.reduceAdd,Nat.reduceMul,Nat.reduceEqDiff,RB,RX,RA2,f69_k1_eq,f69_k1_t,q0]
   refine hst _ (fun v3 w3 hs3 e3 n3=> ?_)
   have q0:=(ed.trans e3).cell_some q0
   have e03:=e2.trans (ed.trans e3)
   (repeat' (first|(with_reducible first|refine brS_mk (fun _=> ?_) (fun _=> ?_)|refine And.intro ?_ ?_)|(simp (disch:=try exact dX) only [↓RBp,↓RA,↓reduceIte,Nat.reduceAdd,Nat.reduceMul,Nat.reduceEqDiff,RB,RX,RA2,q0])))
   refine hrun v3 w3 hs3 e03 n3 _ (fun w4 Y4 st=> ?_)
   exact hK w4 Y4 (Stp.pre e03 (fun x hx=>hdv.lt hx) st)
theorem HpG.avo {Q:Nat→Prop} (h:HpG Q w0 w Y D H n f R) (x:Int):∀(w1:World) (K:K1),Ext w w1→ev prog (Instr.lookup 110 (.map H.av) (.int .i64 x) false) w1 K=K (.bool (decide (x∈H.avl))) w1:=fun w1 K e=>by
 rcases h.avm with ⟨a,b⟩|⟨r,a,b,_⟩
 ·rw [a,b,ev_lookupN mTa];rfl
 ·rw [a,ev_lookupK1 mTa (b.ext e)]
  by_cases hx:x∈H.avl
  ·rw [decide_eq_true hx,getL_of b.keys (List.mem_map.2 ⟨x,hx,rfl⟩)];rfl
  ·rw [decide_eq_false hx,getL_none.2 (fun p hp e=>by obtain ⟨y,hy,rfl⟩:=List.mem_map.1 hp;simp only at e;exact hx (e▸hy))];rfl
theorem k_search (h:HpS w0 w Y D H n f R) {t c:Int} (t0:0≤t) (c0:0≤c) (kd:Nat) (k0:kd≠0) (k7:kd≤127) (K:K1)
  (hno:(∀k,k<n→(f k).2.1=t→(f k).1=c→((26+32*k:Nat):Int)∉H.avl→∀i:Nat,(i:Int)<perS c→usedB D R (26+32*k) c i=true)→∀w',Ext w w'→K (.tuple #[.int .u64 ((0:Nat):Int),.int .i64 0,.int .i64 5]) w')
  (hyes:∀k,k<n→(f k).2.1=t→(f k).1=c→((26+32*k:Nat):Int)∉H.avl→∀i:Nat,(i:Int)<perS c→usedB D R (26+32*k) c i=false→(∀j,j<i→usedB D R (26+32*k) c j=true)→∀w',Ext w w'→K (.tuple #[.int .u64 ((ptrN (pOff (26+32*k) c i) (bG (wd D (26+32*k) (offN c i))) kd:Nat):Int),.int .i64 ((26+32*k:Nat):Int),.int .i64 0]) w'):
  callS prog 66 #[hpV H,.int .i64 t,.int .i64 c,.int .u8 (kd:Int)] w K:=by
 have q3:=h.cell.2.2.2.1
 have ltp:=h.ltp
 have hle:=h.n4
 refine f66_call _ _ _ _ _ _ ?_
 unfold f66_t
 simp (disch:=try exact dZ) only [↓RBp,↓RA,↓reduceIte,Nat.reduceAdd,Nat.reduceMul,Nat.reduceEqDiff,RB,RX,RA2,q3]
 refine Exists.elim (p:=fun L=>L=lnL (fun k=>decide ((f k).2.1=t)&&decide ((f k).1=c)) 26 n) ⟨_,rfl⟩ (fun L hL=> ?_)
 have hch:=k_Chunks h.ar t c t0 c0
 rw [←hL] at hch
 have hmem:∀x∈L,∃k,k<n∧(f k).2.1=t∧(f k).1=c∧x=((26+32*k:Nat):Int):=fun x hx=>by
  rw [hL] at hx
  obtain ⟨k,a,b,d⟩:=lnL_mem.1 hx
  simp only [Bool.and_eq_true,decide_eq_true_eq] at b
  exact ⟨k,a,b.1,b.2,d⟩
 have hall:∀k,k<n→(f k).2.1=t→(f k).1=c→((26+32*k:Nat):Int)∈L:=fun k a b d=>by
  rw [hL];exact lnL_mem.2 ⟨k,a,by simp [b,d],rfl⟩
 have hLl:L.length≤128:=by rw [hL];have:=lnL_len (fun k=>decide ((f k).2.1=t)&&decide ((f k).1=c)) 26 n;omega
 clear hL
 refine hch _ (fun v w1 e1 nv hv=> ?_)
 have hr:RdS w1.heap.size w1 v (i64L L):=RdS.of_slR (by rw [show (i64L L).length=L.length by simp];exact hv)
 obtain ⟨va,vc,hvv,_⟩:=id hr
 rw [show (i64L L).length=L.length by simp] at hvv
 subst hvv
 simp (disch:=try exact dZ) only [↓RBp,↓RA,↓reduceIte,Nat.reduceAdd,Nat.reduceMul,Nat.reduceEqDiff,RB,RX,RA2]
 apply f66_l1_rule (I:=fun z w'=>∃j:Nat,z= .int .i64 (j:Int)∧j≤L.length∧(∀q,(hq:q<L.length)→q<j→L[q]∉H.avl→∀k,k<n→L[q]=((26+32*k:Nat):Int)→(f k).1=c→∀i:Nat,(i:Int)<perS c→usedB D R (26+32*k) c i=true)∧Ext w1 w') (μ:=fun z _=>L.length-(intOf z).toNat)
 ·exact ⟨0,rfl,by omega,fun q _ h=>by omega,Ext.refl _⟩
 ·intros;rename_i w2 hI E1 hE
  obtain ⟨j,rfl,hj,hd,e2⟩:=hI
  have e02:=e1.trans e2
  have q6:=(h.ext e02).cell.2.2.2.2.2.2.1
  have ltp2:=lt_of_cell q6
  by_cases hjl:j<L.length
  ·obtain ⟨sb,so,sc,ev1,hc⟩:=(hr.ext e2).get (i64L_get hjl)
   injection ev1 with ev1 _ ev2;subst ev1;subst ev2
   have ltv:=lt_of_cell hc
   obtain ⟨k,hk,ht,hcc,hx⟩:=hmem L[j] (List.getElem_mem hjl)
   have havo:=(h.ext e02).avo L[j]
   have hwi:=fun (w3:World) (K:K1) (e:Ext w2 w3)=>k_within ((h.ext e02).ext e) hk (by rw [hcc];exact c0) kd k0 k7 K
   rw [hcc] at hwi
   have hd1:∀(hq:(L[j]∉H.avl→∀k,k<n→L[j]=((26+32*k:Nat):Int)→(f k).1=c→∀i:Nat,(i:Int)<perS c→usedB D R (26+32*k) c i=true)),∀q,(hq:q<L.length)→q<j+1→L[q]∉H.avl→∀k,k<n→L[q]=((26+32*k:Nat):Int)→(f k).1=c→∀i:Nat,(i:Int)<perS c→usedB D R (26+32*k) c i=true:=fun hh q hq h1=>by
    by_cases e:q=j
    ·subst e;exact hh
    ·exact hd q hq oM
   rw [hx] at hc havo hd1
   have hyes:=hyes k hk ht hcc
   unfold f66_l1_t
   by_cases ha:((26+32*k:Nat):Int)∈H.avl
   ·rw [decide_eq_true ha] at havo
    simp (disch:=try exact dX) only [↓RBp,↓RA,↓reduceIte,Nat.reduceAdd,Nat.reduceMul,Nat.reduceEqDiff,RB,RX,RA2,hc,q6,havo,f66_k2_eq,f66_k2_t]
    apply hE
    ·exact ⟨j+1,by simp,by omega,hd1 (fun hn=>absurd ha hn),e2.trans xZ⟩
    ·simp [intOf];omega
   ·rw [decide_eq_false ha] at havo
    have hyes:=hyes ha
    simp (disch:=try exact dX) only [↓RBp,↓RA,↓reduceIte,Nat.reduceAdd,Nat.reduceMul,Nat.reduceEqDiff,RB,RX,RA2,hc,q6,havo]
    refine hwi _ _ xZ (fun hu w3 e3=> ?_) (fun i hi hf hlt w3 e3=> ?_)
    ·simp (disch:=try exact dZ) only [↓RBp,↓RA,↓reduceIte,Nat.reduceAdd,Nat.reduceMul,Nat.reduceEqDiff,RB,RX,RA2,f66_k2_eq,f66_k2_t]
     apply hE
     ·refine ⟨j+1,by simp,by omega,hd1 (fun _ k2 hk2 e2 _=> ?_),e2.trans e3⟩
      have:k2=k:=by omega
      subst this
      exact hu
     ·simp [intOf];omega
    ·simp (disch:=try exact dZ) only [↓RBp,↓RA,↓reduceIte,Nat.reduceAdd,Nat.reduceMul,Nat.reduceEqDiff,RB,RX,RA2]
     exact hyes i hi hf hlt _ (e02.trans e3)
  ·have:j=L.length:=by omega
   subst this
   have hno:=hno (fun k hk ht hcc hn i hi=>by
    obtain ⟨q,hq,he⟩:=List.getElem_of_mem (hall k hk ht hcc)
    exact hd q hq hq (by rw [he];exact hn) k hk he hcc i hi)
   unfold f66_l1_t
   simp (disch:=try exact dZ) only [↓RBp,↓RA,↓reduceIte,Nat.reduceAdd,Nat.reduceMul,Nat.reduceEqDiff,RB,RX,RA2,f66_k1_eq,f66_k1_t]
   exact hno _ e02
end
section
variable {D:DS} {j:Nat}
theorem counted_err (hj:j≠0) (v:Bool):(D.counted 0 v).err j=D.err j:=by
 have hf:∀(D:DS) (e:Int),(D.fail 0 e).err j=D.err j:=fun D e=>by
  unfold DS.fail;split
  ·show (if j=0 then e else D.err j)=_
   rw [if_neg hj]
  ·rfl
 unfold DS.counted
 split
 ·exact hf _ _
 ·split
  ·exact hf _ _
  ·split
   ·split
    ·rw [hf]
    ·rfl
   ·rfl
theorem exec_err (hj:j≠0) (i:Ins):(D.exec 0 i).err j=D.err j:=by
 have h:=fun v=>counted_err (D:=D) hj v
 unfold DS.exec
 split
 ·unfold DS.store;split
  ·exact h _
  ·exact h _
 ·split
  ·unfold DS.flush;split
   ·exact h _
   ·exact h _
  ·unfold DS.fence;split
   ·exact h _
   ·exact h _
theorem run_err (hj:j≠0):∀(p:List Ins) (D:DS),(D.run 0 p).err j=D.err j
 | [],D=>rfl
 |i::p,D=>by rw [run_cons,run_err hj p,exec_err hj]
theorem counted_cur (v:Bool):(D.counted 0 v).cur=D.cur:=by
 have hf:∀(D:DS) (e:Int),(D.fail 0 e).cur=D.cur:=fun D e=>by unfold DS.fail;split<;>rfl
 unfold DS.counted
 split
 ·exact hf _ _
 ·split
  ·exact hf _ _
  ·split
   ·split
    ·rw [hf]
    ·rfl
   ·rfl
theorem exec_cur (i:Ins) (h:i.op=1→i.off/8≠j):(D.exec 0 i).cur j=D.cur j:=by
 have hc:=fun v=>congrFun (counted_cur (D:=D) v) j
 unfold DS.exec
 split
 ·rename_i h1
  unfold DS.store;split
  ·show (if j=i.off/8 then i.val else (D.counted 0 _).cur j)=_
   rw [if_neg (fun e=>h h1 e.symm)];exact hc _
  ·exact hc _
 ·split
  ·unfold DS.flush;split
   ·exact hc _
   ·exact hc _
  ·unfold DS.fence;split
   ·exact hc _
   ·exact hc _
theorem run_cur (j:Nat):∀(p:List Ins) (D:DS),(∀i∈p,i.op=1→i.off/8≠j)→(D.run 0 p).cur j=D.cur j
 | [],D,_=>rfl
 |i::p,D,h=>by rw [run_cons,run_cur j p _ (fun x hx=>h x (by simp [hx])),exec_cur i (h i (by simp))]
theorem storesI_op {ws:List (Nat×Nat)} {i:Ins} (h:i∈storesI ws) (ho:i.op=1):∃x∈ws,i.off=x.1:=by
 unfold storesI at h
 simp only [List.mem_append,List.mem_map,List.mem_singleton] at h
 rcases h with (⟨x,hx,rfl⟩|⟨x,hx,rfl⟩)|rfl
 ·exact ⟨x,hx,rfl⟩
 ·simp [flI] at ho
 ·simp at ho
theorem stores_cur {ws:List (Nat×Nat)} (j:Nat) (D:DS) (h:∀x∈ws,x.1/8≠j):(D.run 0 (storesI ws)).cur j=D.cur j:=
 run_cur j _ D (fun i hi ho=>by obtain ⟨x,hx,e⟩:=storesI_op hi ho;rw [e];exact h x hx)
end
section
variable {w0 w w' w'':World} {Y Y' Y'':Lay} {D D' D2:DS} {H:HL} {n:Nat} {f f' f2:Idx} {R:List Nat} {c t:Int}
theorem cl_low {l0:Nat} {r e:Int} (hr:ClRes D l0 n f c t D2 f2 r e) (c0:0≤c) (c5:c<5) (hl:l0+32*n≤D.n):(∀j,j<l0*8→D2.cur j=D.cur j)∧∀j,j≠0→D2.err j=D.err j:=by
 have hp:∀(D:DS) k g,k<n→(∀j,j<l0*8→(D.run 0 (planI (l0+32*k) c t g)).cur j=D.cur j):=fun D k g hk j hj=>by
  unfold planI
  rw [run_append,stores_cur,stores_cur]
  ·intro x hx
   have:=planW_in (n:=l0+32*k+32) (Nat.le_refl _) c0 c5 g x hx
   omega
  ·intro x hx
   simp only [List.mem_singleton] at hx;subst hx;simp only;omega
 have hc:∀(D:DS) k g,k<n→(∀j,j<l0*8→(D.run 0 (clrI (l0+32*k) g)).cur j=D.cur j):=fun D k g hk j hj=>by
  unfold clrI
  rw [stores_cur]
  intro x hx
  simp only [List.mem_singleton] at hx;subst hx;simp only;omega
 rcases hr with ⟨k,hk,_,_,hD2,_⟩|⟨_,k,g,D1,hk,_,_,hD1,hr⟩|⟨_,_,h3,_⟩
 ·subst hD2
  exact ⟨hp D k _ hk,fun j hj=>run_err hj _ _⟩
 ·subst hD1
  rcases hr with ⟨_,h2,_⟩|⟨_,h2,_⟩
  ·subst h2
   exact ⟨hc D k g hk,fun j hj=>run_err hj _ _⟩
  ·subst h2
   exact ⟨fun j hj=>(hp _ k g hk j hj).trans (hc D k g hk j hj),fun j hj=>(run_err hj _ _).trans (run_err hj _ _)⟩
 ·subst h3;exact ⟨fun _ _=>rfl,fun _ _=>rfl⟩
theorem HpG.astp {Q:Nat→Prop} (h:HpG Q w0 w Y D H n f R) (s:AStp w Y H.b w' Y') (ar:ArS w0 w' Y' D2 H.S H.b H.o H.cp 26 n f2) (rg:RgS D2 26 n f2) (rv:∀p∈R,Rsv D2 f2 n p) (ho:∀k,k<n→(f2 k).2.2=(f k).2.2) (er:∀k,k<8→D2.err k=0) (idl:D2.cur 0=0):HpS w0 w' Y' D2 H n f2 R:=by
 obtain ⟨L,h1,h2⟩:=h.hd
 have tb:Y'.tb 0=Y.tb 0:=by rw [s.tb]
 have sp:=h.sep
 have nf:∀x,(x=H.p∨x=H.rm∨x=H.hm∨x=H.B∨H.av=some x)→¬(Y.F x∨x=H.b):=fun x hx hf=>hf.elim (sp x hx).2.1 (sp x hx).2.2.1
 refine ⟨ar,rg,by rw [tb];exact h.hp.frm s.frm (nf _ (.inl rfl)),by rw [tb];exact h.lg.frm s.frm (nf _ (.inr (.inr (.inr (.inl rfl))))),h.rs.frm s.frm (nf _ (.inr (.inl rfl))),⟨L,h1.frm s.frm (nf _ (.inr (.inr (.inl rfl)))),h2⟩,h.nd,rv,fun k hk=>(ho k hk).trans (h.ho k hk),er,idl,h.avm.imp id (fun ⟨r,a,b,c⟩=>⟨r,a,b.frm s.frm (nf _ (.inr (.inr (.inr (.inr a))))),c⟩),fun x hx=>⟨(sp x hx).1,fun hf=> ?_,(sp x hx).2.2⟩,h.dif,by rw [s.dt.1,s.dt.2,s.tb];exact h.dt⟩
 have lt:x<w.heap.size:=by
  rcases hx with rfl|rfl|rfl|rfl|ha
  ·exact h.hp.lt
  ·exact h.rs.lt
  ·exact h1.lt
  ·exact h.lg.lt
  ·rcases h.avm with ⟨a,_⟩|⟨r,a,b,_⟩
   ·rw [a] at ha;cases ha
   ·rw [a] at ha;injection ha with ha;subst ha;exact b.lt
 rcases s.fr x hf with h3|h3
 ·exact (sp x hx).2.1 h3
 ·omega
theorem hk_ptr {k i g kd:Nat} {c:Int} (c0:0≤c) (c5:c<5) (hl:26+32*k≤4096) (hi:(i:Int)<perS c):pO (ptrN (pOff (26+32*k) c i) g kd)=pOff (26+32*k) c i∧hk (ptrN (pOff (26+32*k) c i) g kd)=k:=by
 have hb:=offN_bd c0 c5 hi
 have hb2:=offS_bd c0 c5 (show 0≤(i:Int) by omega) hi
 have hw:=wordsS_in c0 c5
 have hp:=pOff_bd hl c0 c5 hi
 have e:=pO_ptr (pOff (26+32*k) c i) g kd hp.1 hp.2.1
 refine ⟨e,?_⟩
 unfold hk
 rw [e]
 unfold pOff
 omega
theorem Rsv.congr {p:Nat} (h:Rsv D f n p) (hn:26+32*n≤4096) (rg:RgS D 26 n f) (e1:f2 (hk p)=f (hk p)∨((f2 (hk p)).1=(f (hk p)).1)) (e2:∀i:Nat,(i:Int)<perS (f (hk p)).1→pO p=pOff (26+32*hk p) (f (hk p)).1 i→wd D2 (26+32*hk p) (offN (f (hk p)).1 i)=wd D (26+32*hk p) (offN (f (hk p)).1 i)):Rsv D2 f2 n p:=by
 obtain ⟨k,i,kd,hk',h0,hi,hp,h176,k0,k7⟩:=h
 have hc:=rg.cls hk'
 have hh:=hk_ptr (k:=k) (g:=bG (wd D (26+32*k) (offN (f k).1 i))) (kd:=kd) h0 hc.1 oM hi
 rw [←hp] at hh
 have e1':(f2 (hk p)).1=(f (hk p)).1:=e1.elim (fun e=>by rw [e]) id
 rw [hh.2] at e1' e2
 refine ⟨k,i,kd,hk',by rw [e1'];exact h0,by rw [e1'];exact hi,?_,?_,k0,k7⟩
 ·rw [e1',e2 i hi hh.1];exact hp
 ·rw [e1',e2 i hi hh.1];exact h176
theorem Rsv.kn {p:Nat} (h:Rsv D f n p) (hn:26+32*n≤4096) (rg:RgS D 26 n f):hk p<n∧0≤(f (hk p)).1∧p≠0∧p<72057594037927936∧∃i:Nat,(i:Int)<perS (f (hk p)).1∧pO p=pOff (26+32*hk p) (f (hk p)).1 i∧bS (wd D (26+32*hk p) (offN (f (hk p)).1 i))=176:=by
 obtain ⟨k,i,kd,hk',h0,hi,hp,h176,k0,k7⟩:=h
 have hc:=rg.cls hk'
 have hh:=hk_ptr (k:=k) (g:=bG (wd D (26+32*k) (offN (f k).1 i))) (kd:=kd) h0 hc.1 oM hi
 have hpo:=pOff_bd (l:=26+32*k) oM h0 hc.1 hi
 have hpp:=ptr_bd (pOff (26+32*k) (f k).1 i) (bG (wd D (26+32*k) (offN (f k).1 i))) kd hpo.2.1 (bG_lt _) k7 hpo.2.2 hpo.1
 rw [←hp] at hh hpp
 rw [hh.2]
 exact ⟨hk',h0,hpp.1,hpp.2,i,hi,hh.1,h176⟩
theorem cn_pos {R:List Nat} {p:Nat} (h:p∈R):cnR R (hk p)≠0:=by
 unfold cnR
 have:p∈R.filter fun q=>decide (hk q=hk p):=List.mem_filter.2 ⟨h,by simp⟩
 have:=List.length_pos_of_mem this
 omega
theorem blt_lenN {P:Program} {ts:Array TypeId} {ty:TypeId} {cs:Array Bool} {w:World} {k:K1} (t kt et:TypeId) (hts:ts[0]? =some t) (ht:P.underlying t=some (.map kt et)):bltS P .len ts ty cs #[.map none] w k=k (.int .i64 0) w:=by
 unfold bltS
 have hr:(builtin .len ts ty cs #[.map none]).run P w= .ok (.value (.int .i64 0)) w:=by
  simp [builtin,Builtin.len_,hts,run_underlying ht,goInt]
 rw [hr];rfl
theorem k_hclaim (h:HpS w0 w Y D H n f R) (hav:H.av=none) (t0:0≤t) (t8:t<8) (c0:0≤c) (c5:c<5) (hx:D.exe<1000000000) (K:K1)
  (hno:(∀j,j<n→¬(f j).1<0)→(∀j,j<n→emG D 26 f j=none)→∀w' Y',HSt w Y H w' Y'→HpS w0 w' Y' D H n f R→K (.tuple #[.int .i64 0,.int .i64 4]) w')
  (hyes:∀D2 f2 k g,ClOk D 26 n f c t D2 f2 k g→D2.exe≤D.exe+210→D2.n=D.n→(Cln D.co→Cln D2.co)→cnR R k=0→∀w' Y',HSt w Y H w' Y'→HpS w0 w' Y' D2 H n f2 R→K (.tuple #[.int .i64 ((26+32*k:Nat):Int),.int .i64 0]) w'):
  callS prog 67 #[hpV H,.int .i64 t,.int .i64 c] w K:=by
 have q3:=h.cell.2.2.2.1
 have q6:=h.cell.2.2.2.2.2.2.1
 rw [hav] at q6
 have ltp:=h.ltp
 have hn4:=h.n4
 have hln:∀(w1:World) (K:K1),bltS prog .len #[110] 3 #[false] #[.map none] w1 K=K (.int .i64 0) w1:=fun w1 K=>blt_lenN _ 3 4 rfl (by kernel_rfl)
 have hcl:=fun (w1:World) (e:Ext w w1) (K:K1) hK=>k_Claim (h.ext e).ar h.rg.ag h.rg.on.off (h.er 0 oM) hx t0 t8 c0 c5 K hK
 refine f67_call _ _ _ _ _ ?_
 unfold f67_t
 simp (disch:=try exact dZ) only [↓RBp,↓RA,↓reduceIte,Nat.reduceAdd,Nat.reduceMul,Nat.reduceEqDiff,RB,RX,RA2,q3,q6,hln]
 refine hcl _ (Ext.refl _) _ (fun D2 f2 r e hr w1 Y1 a1 ar1=> ?_)
 have hlow:=cl_low hr c0 c5 hn4.2
 have hc:=cl_cln h.rg c0 c5 hr
 rcases cl_ok h.rg c0 c5 t0 t8 hr with ⟨rfl,rfl,rfl,rfl,h1,h2⟩|⟨rfl,k,g,rfl,ok,rg2,n2,x2⟩
 ·simp (disch:=try exact dZ) only [↓RBp,↓RA,↓reduceIte,Nat.reduceAdd,Nat.reduceMul,Nat.reduceEqDiff,RB,RX,RA2]
  exact hno h1 h2 w1 Y1 (HSt.of_ast a1) (h.astp a1 ar1 h.rg h.rv (fun _ _=>rfl) h.er h.idl)
 ·have hcn:cnR R k=0:=by
   rcases Nat.eq_zero_or_pos (cnR R k) with e|e
   ·exact e
   ·exfalso
    have hfl:=h.ho k ok.kn
    rw [decide_eq_true oM] at hfl
    obtain ⟨p,hp⟩:=List.exists_mem_of_length_pos e
    obtain ⟨hpR,hpk⟩:=List.mem_filter.1 hp
    have hpk:hk p=k:=by simpa using hpk
    have:=(h.rv p hpR).kn oM h.rg
    rw [hpk] at this
    rcases ok.how with ⟨h1,_⟩|⟨_,h1,_⟩
    ·omega
    ·have:=(emG_ok' h.rg ok.kn h1).2.2.1
     rw [hfl] at this;cases this
  simp (disch:=try exact dZ) only [↓RBp,↓RA,↓reduceIte,Nat.reduceAdd,Nat.reduceMul,Nat.reduceEqDiff,RB,RX,RA2]
  refine hyes D2 f2 k g ok x2 n2 hc hcn w1 Y1 (HSt.of_ast a1) (h.astp a1 ar1 rg2 (fun p hp=> ?_) (fun j hj=> ?_) (fun j hj=> ?_) ?_)
  ·have hne:hk p≠k:=fun e=>by have:=cn_pos hp;rw [e] at this;exact this hcn
   have hkn:=(h.rv p hp).kn oM h.rg
   have hcl:=h.cls hkn.1
   refine (h.rv p hp).congr oM h.rg (.inl (by rw [ok.fe,upF_ne _ _ hne])) (fun i hi _=>ok.oth _ hkn.1 hne _ (offN_bd hkn.2.1 hcl.1 hi).2.2)
  ·rw [ok.fe]
   by_cases e:j=k
   ·subst e;rw [upF_eq]
   ·rw [upF_ne _ _ e]
  ·by_cases e:j=0
   ·subst e;exact rg2.on.err
   ·rw [hlow.2 j e];exact h.er j hj
  ·rw [hlow.1 0 oM];exact h.idl
end
theorem getL_set (L:KVL) (i j:Int) (v:Value):getL (setL L i v) j=if j=i then some v else getL L j:=by
 unfold setL
 by_cases h:(getL L i).isSome
 ·rw [if_pos h]
  have:∀L:KVL,((getL L i).isSome→getL (L.map fun p=>if p.1=i then (i,v) else p) j=if j=i then some v else getL L j)∧(j≠i→getL (L.map fun p=>if p.1=i then (i,v) else p) j=getL L j):=by
   intro L
   induction L with
   |nil=>exact ⟨fun h=>(by cases h),fun _=>rfl⟩
   |cons p L ih=>
    unfold getL at ih ⊢
    simp only [List.map_cons,List.find?_cons]
    by_cases e:p.1=i
    ·by_cases ej:j=i
     ·subst ej;simp [e]
     ·have e1:¬i=j:=fun h=>ej h.symm
      simp only [e,if_true,decide_eq_false e1,decide_true,if_neg ej]
      have:=ih.2 ej
      exact ⟨fun _=>this,fun _=>this⟩
    ·simp only [if_neg e,decide_eq_false e]
     by_cases e2:p.1=j
     ·have ej:¬j=i:=fun h=>e (e2.trans h)
      simp [e2,ej]
     ·simp only [decide_eq_false e2]
      exact ih
  exact (this L).1 h
 ·rw [if_neg h]
  have hn:getL L i=none:=by simpa using h
  unfold getL at hn ⊢
  rw [List.find?_append,Option.map_eq_none_iff] at*
  by_cases ej:j=i
  ·subst ej
   rw [hn,if_pos rfl];simp
  ·rw [if_neg ej]
   have e1:¬i=j:=fun h=>ej h.symm
   simp [e1]
theorem getL_del (L:KVL) (i j:Int):getL (delL L i) j=if j=i then none else getL L j:=by
 unfold getL delL
 rw [List.find?_filter]
 by_cases ej:j=i
 ·subst ej
  rw [if_pos rfl,Option.map_eq_none_iff,List.find?_eq_none]
  intro p _;simp
 ·rw [if_neg ej]
  have:(fun a:Int×Value=>decide ((!decide (a.1=i))=true∧decide (a.1=j)=true))=fun a=>decide (a.1=j):=by
   funext p
   by_cases e:p.1=j
   ·simp [e,ej]
   ·simp [e]
  rw [this]
theorem zW_apply (po:Nat) (h8:po%8=0):∀(m:Nat) (f:Nat→Nat) (j:Nat),j<m→applyH (zW po m) f (po/8+j)=0
 |0,f,j,h=>by omega
 |m+1,f,j,h=>by
  unfold zW
  rw [applyH_app]
  show (if po/8+j=(po+8*m)/8 then 0 else applyH (zW po m) f (po/8+j))=0
  by_cases e:j=m
  ·rw [if_pos oM]
  ·rw [if_neg oM];exact zW_apply po h8 m f j oM
theorem offN_gap {c:Int} (c0:0≤c) (c5:c<5) {i i':Nat}:offN c i'<offN c i+1∨offN c i+1+(wordsS c).toNat≤offN c i':=by
 obtain ⟨z,n,hz,hn,hzn,z3,z60,hof⟩:=offN_eq c0 c5
 rw [hof,hof,hz,Int.toNat_natCast]
 by_cases h:i'≤i
 ·left
  have:=Nat.mul_le_mul_right (z+1) h
  omega
 ·right
  have:=Nat.mul_le_mul_right (z+1) (show i+1≤i' by omega)
  rw [Nat.add_mul,Nat.one_mul] at this
  omega
section
variable {w0 w w' w'':World} {Y Y' Y'':Lay} {D D' D2:DS} {H:HL} {n k i l:Nat} {f f' f2:Idx} {R R':List Nat} {c t:Int}
theorem Snd.congrH {o:Int} (h:Snd D l c o) (c0:0≤c) (c5:c<5) (e:∀j,j<8→wd D2 l j=wd D l j) (e2:∀i:Nat,(i:Int)<perS c→wd D2 l (offN c i)=wd D l (offN c i)):Snd D2 l c o:=by
 refine ⟨by rw [e 0 oM];exact h.hd,by rw [e 0 oM];exact h.hc,by rw [e 0 oM];exact h.ho,fun j h2 h8=>by rw [e j h8];exact h.zer j h2 h8,fun i hi=>by rw [e2 i hi];exact h.sl i hi,fun i hi=>by rw [e2 i hi];exact h.gd i hi,fun i hi=> ?_⟩
 rw [e 1 oM,h.bit i hi]
 by_cases hp:(i:Int)<perS c
 ·rw [e2 i hp]
 ·rw [decide_eq_false hp,Bool.false_and,Bool.false_and]
abbrev zeD (D:DS) (l:Nat) (c:Int) (i:Nat):DS:=D.run 0 (storesI (zW (pOff l c i) (wordsS c).toNat))
theorem zer_cur (on:On D) (hl:l+32≤D.n) (hn:D.n≤4096) (c0:0≤c) (c5:c<5) (hi:(i:Int)<perS c):On (zeD D l c i)∧(∀x,(x<l*8+offN c i+1∨l*8+offN c i+1+(wordsS c).toNat≤x)→(zeD D l c i).cur x=D.cur x)∧(∀j,j<(wordsS c).toNat→(zeD D l c i).cur (l*8+offN c i+1+j)=0):=by
 have hb:=offN_bd c0 c5 hi
 have hb2:=offS_bd c0 c5 (show 0≤(i:Int) by omega) hi
 have hw:=wordsS_in c0 c5
 have hp:=pOff_bd (l:=l) oM c0 c5 hi
 have ho:=zW_on (m:=(wordsS c).toNat) on hp.1 (by unfold pOff;omega)
 have e:pOff l c i/8=l*8+offN c i+1:=by unfold pOff;omega
 refine ⟨ho.1,fun x hx=>stores_cur x D (fun y hy=> ?_),fun j hj=> ?_⟩
 ·obtain ⟨j,hj,rfl⟩:=zW_mem hy
  simp only;omega
 ·unfold zeD
  rw [ho.2,←e]
  exact zW_apply _ hp.1 _ _ j hj
theorem zero_wd (on:On D) (hl:l+32≤D.n) (hn:D.n≤4096) (c0:0≤c) (c5:c<5) (hi:(i:Int)<perS c):(∀j,j<8→wd (zeD D l c i) l j=wd D l j)∧(∀i':Nat,(i':Int)<perS c→wd (zeD D l c i) l (offN c i')=wd D l (offN c i'))∧(∀l',(l'+32≤l∨l+32≤l')→∀j,j<256→wd (zeD D l c i) l' j=wd D l' j):=by
 have hb:=offN_bd c0 c5 hi
 have hb2:=offS_bd c0 c5 (show 0≤(i:Int) by omega) hi
 have hw:=wordsS_in c0 c5
 have h:=(zer_cur on hl hn c0 c5 hi).2.1
 unfold wd
 refine ⟨fun j hj=>h _ (.inl oM),fun i' hi'=>h _ ?_,fun l' hl' j hj=>h _ oM⟩
 have:=offN_gap c0 c5 (i:=i) (i':=i')
 omega
theorem zero_rg (h:RgS D 26 n f) (hk:k<n) (h0:0≤(f k).1) (hi:(i:Int)<perS (f k).1):RgS (zeD D (26+32*k) (f k).1 i) 26 n f∧(zeD D (26+32*k) (f k).1 i).n=D.n∧(zeD D (26+32*k) (f k).1 i).exe≤D.exe+130∧(Cln D.co→Cln (zeD D (26+32*k) (f k).1 i).co):=by
 have hc:=h.cls hk
 have hlt:=h.lt
 have hn:=h.gd.n
 have hz:=zer_cur h.on (l:=26+32*k) oM hn h0 hc.1 hi
 have hw:=zero_wd h.on (l:=26+32*k) oM hn h0 hc.1 hi
 have hwS:=wordsS_in h0 hc.1
 have hb2:=offS_bd h0 hc.1 (show 0≤(i:Int) by omega) hi
 have hb:=offN_bd h0 hc.1 hi
 have hp:=pOff_bd (l:=26+32*k) oM h0 hc.1 hi
 have hv:∀x∈zW (pOff (26+32*k) (f k).1 i) (wordsS (f k).1).toNat,x.1%8=0∧x.1<D.n*64:=fun x hx=>by
  obtain ⟨j,hj,rfl⟩:=zW_mem hx
  simp only [pOff] at*;omega
 have hx:=run_exe 0 (storesI (zW (pOff (26+32*k) (f k).1 i) (wordsS (f k).1).toNat)) D
 have hsl:=storesI_le (zW (pOff (26+32*k) (f k).1 i) (wordsS (f k).1).toNat)
 rw [zW_len] at hsl
 have wS:∀j,j<n→(∀x,x<8→wd (zeD D (26+32*k) (f k).1 i) (26+32*j) x=wd D (26+32*j) x)∧∀i':Nat,(i':Int)<perS (f j).1→0≤(f j).1→wd (zeD D (26+32*k) (f k).1 i) (26+32*j) (offN (f j).1 i')=wd D (26+32*j) (offN (f j).1 i'):=fun j hj=>by
  by_cases e:j=k
  ·subst e;exact ⟨hw.1,fun i' hi' _=>hw.2.1 i' hi'⟩
  ·exact ⟨fun x hx=>hw.2.2 _ oM x oM,fun i' hi' hj0=>hw.2.2 _ oM _ (offN_bd hj0 (h.cls hj).1 hi').2.2⟩
 refine ⟨⟨hz.1,Good.run 0 oM _ _ h.gd (okI_stores (fun x hx=>by obtain ⟨j,hj,rfl⟩:=zW_mem hx;have:=hv _ hx;simp only at this ⊢;omega)),by rw [show (zeD D (26+32*k) (f k).1 i).n=D.n from run_n 0 _ _];exact hlt,fun j hj=> ?_,fun j hj hj0=> ?_⟩,run_n 0 _ _,by show (D.run 0 _).exe≤_;omega,fun hcl=>run_cln h.on hv hcl⟩
 ·rw [(wS j hj).1 0 oM];exact h.ag j hj
 ·exact (h.sn j hj hj0).congrH hj0 (h.cls hj).1 (wS j hj).1 (fun i' hi'=>(wS j hj).2 i' hi' hj0)
end
structure RvOk (D:DS) (f:Idx) (R:List Nat) (n:Nat) (A:List Int) (t c:Int) (kd:Nat) (D2:DS) (f2:Idx) (D3:DS) (f3:Idx) (p k i:Nat):Prop where
 kn:k<n
 c0:0≤c
 c5:c<5
 iN:(i:Int)<perS c
 how:(D2=D∧f2=f∧((26+32*k:Nat):Int)∉A)∨((∃g,ClOk D 26 n f c t D2 f2 k g)∧cnR R k=0∧∀k,k<n→(f k).2.1=t→(f k).1=c→((26+32*k:Nat):Int)∉A→∀i:Nat,(i:Int)<perS c→usedB D R (26+32*k) c i=true)
 fc:(f2 k).1=c
 ft:(f2 k).2.1=t
 us:usedB D2 R (26+32*k) c i=false
 lt:∀j,j<i→usedB D2 R (26+32*k) c j=true
 p:p=ptrN (pOff (26+32*k) c i) (bG (wd D2 (26+32*k) (offN c i))) kd
 rg2:RgS D2 26 n f2
 d3:D3=zeD D2 (26+32*k) c i
 f3:f3=upF f2 k (c,t,true)
 n3:D3.n=D.n
 x3:D3.exe≤D.exe+340
 cl:Cln D.co→Cln D3.co
section
variable {w0 w w' w'':World} {Y Y' Y'':Lay} {D D' D2 D3:DS} {H:HL} {n k i l:Nat} {f f' f2 f3:Idx} {R R':List Nat} {c t:Int} {S b o cp l0:Nat}
theorem ArS.frmH (h:ArS w0 w Y D S b o cp l0 n f) {F:Nat→Prop} (e:Frm F w w') (hF:∀x,F x→w0.heap.size≤x∧¬Y.F x∧x≠b∧x≠S):ArS w0 w' Y D S b o cp l0 n f:=
 ⟨⟨h.L.dv.frm e (fun x hx hf=>(hF x hf).2.1 hx),h.L.gd,Ext.frm h.L.ex e (fun x hx=>(hF x hx).1),h.L.nw⟩,h.gl,h.st.frm e (fun hf=>(hF _ hf).2.2.2 rfl),h.pl.frm e (fun x hx hf=>by injection hx with hx;exact (hF _ hf).2.2.1 hx.symm),h.nS,h.nb,h.n0,h.lt⟩
theorem HSt.of_frm (Y:Lay) (fr:Frm (fun x=>Y.F x∨x=H.rm∨x=H.hm∨x=H.b) w w'):HSt w Y H w' Y:=⟨rfl,rfl,fr.mono (fun x hx=>by
 rcases hx with h|h|h|h
 ·exact .inl h
 ·exact .inr (.inr (.inr (.inl h)))
 ·exact .inr (.inr (.inr (.inr h)))
 ·exact .inr (.inl h)),fun x hx=> .inl hx⟩
theorem HpG.put {Q Q':Nat→Prop} (h:HpG Q w0 w Y D H n f R) (fr:Frm (fun x=>Y.F x∨x=H.rm∨x=H.hm∨x=H.b) w w') (ar:ArS w0 w' Y D H.S H.b H.o H.cp 26 n f') (rg:RgS D 26 n f') (mr:MapK .u64 w' H.rm (rsL R')) (mh:∃L,MapK .i64 w' H.hm L∧∀k,k<n→getL L ((26+32*k:Nat):Int)=if cnR R' k=0 then none else some (.int .i64 (cnR R' k:Int))) (nd:(R'.map pO).Nodup) (rv:∀p∈R',Q' p) (ho:∀k,k<n→(f' k).2.2=decide (cnR R' k≠0)):HpG Q' w0 w' Y D H n f' R':=by
 have sp:=h.sep
 have hd:=h.dif
 refine ⟨ar,rg,h.hp.frm fr (fun hf=> ?_),h.lg.frm fr (fun hf=> ?_),mr,mh,nd,rv,ho,h.er,h.idl,h.avm.imp id (fun ⟨r,a,b,c⟩=>⟨r,a,b.frm fr (fun hf=> ?_),c⟩),h.sep,h.dif,h.dt⟩
 ·rcases hf with e|e|e|e
  ·exact (sp _ (.inl rfl)).2.1 e
  ·exact hd.1 e
  ·exact hd.2.1 e
  ·exact (sp _ (.inl rfl)).2.2.1 e
 ·rcases hf with e|e|e|e
  ·exact (sp _ (.inr (.inr (.inr (.inl rfl))))).2.1 e
  ·exact hd.2.2.2.1 e
  ·exact hd.2.2.2.2.1 e
  ·exact (sp _ (.inr (.inr (.inr (.inl rfl))))).2.2.1 e
 ·rcases hf with e|e|e|e
  ·exact (sp _ (.inr (.inr (.inr (.inr a))))).2.1 e
  ·exact c.1 e
  ·exact c.2.1 e
  ·exact (sp _ (.inr (.inr (.inr (.inr a))))).2.2.1 e
theorem cn_snoc (R:List Nat) (p j:Nat):cnR (R++ [p]) j=cnR R j+if hk p=j then 1 else 0:=by
 unfold cnR
 rw [List.filter_append,List.length_append]
 by_cases e:hk p=j
 ·simp [e]
 ·simp [e]
theorem rs_snoc {R:List Nat} {p:Nat} (h:rsB R (pO p)=false):setL (rsL R) (pO p:Int) (.int .u64 (p:Int))=rsL (R++ [p]):=by
 have hg:(getL (rsL R) (pO p:Int)).isSome=false:=by rw [rs_any];exact h
 unfold setL
 rw [if_neg (by rw [hg];simp)]
 unfold rsL
 rw [List.map_append];rfl
theorem nd_snoc {R:List Nat} {p:Nat} (hn:(R.map pO).Nodup) (h:rsB R (pO p)=false):((R++ [p]).map pO).Nodup:=by
 rw [List.map_append,List.map_cons,List.map_nil]
 refine List.nodup_append.2 ⟨hn,by simp,fun a ha b hb e=> ?_⟩
 simp only [List.mem_singleton] at hb
 subst hb
 obtain ⟨q,hq,e2⟩:=List.mem_map.1 ha
 have:rsB R (pO p)=true:=List.any_eq_true.2 ⟨q,hq,by simp [e2,e]⟩
 rw [h] at this;cases this
theorem rv_k2 (h:HpS w0 w Y D H n f R) (hk1:k<n) (h0:0≤(f k).1) (hi:(i:Int)<perS (f k).1) (hu:usedB D R (26+32*k) (f k).1 i=false) (kd:Nat) (k0:kd≠0) (k7:kd≤127) {p:Nat} (hp:p=ptrN (pOff (26+32*k) (f k).1 i) (bG (wd D (26+32*k) (offN (f k).1 i))) kd) (hx:D.exe<1000000000) (hR:R.length<1000000) (K:K1)
  (hK:∀w' Y',HSt w Y H w' Y'→HpS w0 w' Y' (zeD D (26+32*k) (f k).1 i) H n (upF f k ((f k).1,(f k).2.1,true)) (R++ [p])→K (.tuple #[.int .u64 (p:Int),.int .i64 0]) w'):
  f15_k2 K (hpV H) (.int .i64 (f k).1) (.int .i64 0) (.int .u64 (p:Int)) (.int .i64 ((26+32*k:Nat):Int)) w:=by
 have hn4:=h.n4
 have hc:=h.cls hk1
 have hpo:=pOff_bd (l:=26+32*k) (i:=i) oM h0 hc.1 hi
 have hG:=bG_lt (wd D (26+32*k) (offN (f k).1 i))
 have hpp:=ptr_bd (pOff (26+32*k) (f k).1 i) (bG (wd D (26+32*k) (offN (f k).1 i))) kd hpo.2.1 hG k7 hpo.2.2 hpo.1
 have hh:=hk_ptr (k:=k) (g:=bG (wd D (26+32*k) (offN (f k).1 i))) (kd:=kd) h0 hc.1 oM hi
 rw [←hp] at hpp hh
 have hb2:=offS_bd h0 hc.1 (show 0≤(i:Int) by omega) hi
 have hb:=offN_bd h0 hc.1 hi
 have hw:=wordsS_in h0 hc.1
 have zr:=zero_rg h.rg hk1 h0 hi
 have zc:=zer_cur h.rg.on (l:=26+32*k) oM hn4.1 h0 hc.1 hi
 have zw:=zero_wd h.rg.on (l:=26+32*k) oM hn4.1 h0 hc.1 hi
 have hus:bitB (wd D (26+32*k) 1) i=false∧rsB R (pOff (26+32*k) (f k).1 i)=false:=by
  unfold usedB at hu
  simpa using hu
 have h176:bS (wd D (26+32*k) (offN (f k).1 i))=176:=by
  have:=(h.rg.sn k hk1 h0).bit i (by have:=perS_in h0 hc.1;omega)
  rw [hus.1,decide_eq_true hi,Bool.true_and] at this
  simpa using this
 have hrs0:rsB R (pO p)=false:=by rw [hh.1];exact hus.2
 have hz:=fun (K:K1) (hK:∀w' Y',Stp w Y w' Y' (zeD D (26+32*k) (f k).1 i)→K (.int .i64 0) w')=>k_zero h h0 hc.1 hpp.1 (show p<18446744073709551616 by omega) (by rw [hh.1];exact hpo.1) (by rw [hh.1];unfold pOff;omega) hx K (by rw [hh.1];exact hK)
 have hst:∀w' Y',Stp w Y w' Y' (zeD D (26+32*k) (f k).1 i)→HpS w0 w' Y' (zeD D (26+32*k) (f k).1 i) H n f R:=fun w' Y' s=>by
  refine h.step s zr.2.1 zr.1 (fun q hq=> ?_) (fun j hj=> ?_) ?_
  ·have hkn:=(h.rv q hq).kn oM h.rg
   refine (h.rv q hq).congr oM h.rg (.inl rfl) (fun i' hi' _=> ?_)
   by_cases e:hk q=k
   ·rw [e] at hi' ⊢;exact zw.2.1 i' hi'
   ·exact zw.2.2 _ oM _ (offN_bd hkn.2.1 (h.cls hkn.1).1 hi').2.2
  ·by_cases e:j=0
   ·subst e;exact zc.1.err
   ·rw [show (zeD D (26+32*k) (f k).1 i).err j=D.err j from run_err e _ _];exact h.er j hj
  ·rw [zc.2.1 0 (.inl oM)];exact h.idl
 have hnew:Rsv (zeD D (26+32*k) (f k).1 i) (upF f k ((f k).1,(f k).2.1,true)) n p:=by
  refine ⟨k,i,kd,hk1,by rw [upF_eq];exact h0,by rw [upF_eq];exact hi,?_,?_,k0,k7⟩
  ·rw [upF_eq];simp only;rw [zw.2.1 i hi];exact hp
  ·rw [upF_eq];simp only;rw [zw.2.1 i hi];exact h176
 have fin:∀w1 Y1 w' L,HSt w Y H w1 Y1→HpS w0 w1 Y1 (zeD D (26+32*k) (f k).1 i) H n f R→Frm (fun x=>Y1.F x∨x=H.rm∨x=H.hm∨x=H.b) w1 w'→ArS w0 w' Y1 (zeD D (26+32*k) (f k).1 i) H.S H.b H.o H.cp 26 n (upF f k ((f k).1,(f k).2.1,true))→MapK .u64 w' H.rm (rsL (R++ [p]))→MapK .i64 w' H.hm (setL L ((26+32*k:Nat):Int) (.int .i64 ((cnR R k:Int)+1)))→(∀k,k<n→getL L ((26+32*k:Nat):Int)=if cnR R k=0 then none else some (.int .i64 (cnR R k:Int)))→K (.tuple #[.int .u64 (p:Int),.int .i64 0]) w':=fun w1 Y1 w' L s1 h1 fr ar mr mh hL=>by
  refine hK w' Y1 (s1.trans (HSt.of_frm Y1 fr)) (h1.put fr ar ?_ mr ⟨_,mh,fun j hj=> ?_⟩ (nd_snoc h.nd hrs0) (fun q hq=> ?_) (fun j hj=> ?_))
  ·have ha:=h1.rg.ag k hk1
   exact h1.rg.upd h1.rg.on h1.rg.gd rfl hk1 (fun _ _ _ _ _=>rfl) ⟨ha.1,ha.2.1.symm,ha.2.2.symm⟩ (fun hh0=>h1.rg.sn k hk1 hh0) _
  ·rw [getL_set,cn_snoc,hh.2,hL j hj]
   by_cases e:j=k
   ·subst e
    rw [if_pos rfl,if_pos rfl,if_neg oM]
    rfl
   ·have e2:¬k=j:=fun h=>e h.symm
    rw [if_neg e2,Nat.add_zero,if_neg (show ¬((26+32*j:Nat):Int)=((26+32*k:Nat):Int) by omega)]
  ·rcases List.mem_append.1 hq with hq|hq
   ·obtain ⟨k',i',kd',a1,a2,a3,a4,a5,a6,a7⟩:=h1.rv q hq
    by_cases e:k'=k
    ·subst e
     exact ⟨k',i',kd',a1,by rw [upF_eq];exact a2,by rw [upF_eq];exact a3,by rw [upF_eq];exact a4,by rw [upF_eq];exact a5,a6,a7⟩
    ·exact ⟨k',i',kd',a1,by rw [upF_ne _ _ e];exact a2,by rw [upF_ne _ _ e];exact a3,by rw [upF_ne _ _ e];exact a4,by rw [upF_ne _ _ e];exact a5,a6,a7⟩
   ·simp only [List.mem_singleton] at hq;subst hq;exact hnew
  ·rw [cn_snoc,hh.2]
   by_cases e:j=k
   ·subst e;rw [upF_eq];simp
   ·rw [upF_ne _ _ e,if_neg (fun h=>e h.symm),Nat.add_zero];exact h.ho j hj
 have hcn:cnR R k≤R.length:=by unfold cnR;exact List.length_filter_le _ _
 have ep:(pO p:Int)=((pO p:Nat):Int):=rfl
 clear hK hnew
 generalize zeD D (26+32*k) (f k).1 i=DZ at*
 have hfk:¬(f k).1<0:=by omega
 have hoff:∀(w1:World) (K:K1),callS prog 20 #[.int .u64 (p:Int)] w1 K=K (.int .u64 ((pO p:Nat):Int)) w1:=fun w1 K=>c_POff p w1 K oM
 rw [f15_k2_eq]
 unfold f15_k2_t
 simp (disch:=try exact dZ) only [↓RBp,↓RA,↓reduceIte,Nat.reduceAdd,Nat.reduceMul,Nat.reduceEqDiff,RB,RX,RA2]
 refine hz _ (fun w1 Y1 s1=> ?_)
 have h1:=hst w1 Y1 s1
 have fin:=fin w1 Y1
 obtain ⟨L,hm,hL⟩:=h1.hd
 have d:=h1.dif
 have sp:=h1.sep
 have hlk:(getL L ((26+32*k:Nat):Int)).getD (.int .i64 0)= .int .i64 (cnR R k:Int):=by
  rw [hL k hk1]
  by_cases e:cnR R k=0
  ·rw [if_pos e,e];rfl
  ·rw [if_neg e];rfl
 have q4:=h1.cell.2.2.2.2.1
 have ltp:=h1.ltp
 (repeat' (first|(with_reducible first|refine brS_mk (fun _=> ?_) (fun _=> ?_)|refine And.intro ?_ ?_)|(simp (disch:=try exact dX) only [↓RBp,↓RA,↓reduceIte,Nat.reduceAdd,Nat.reduceMul,Nat.reduceEqDiff,RB,RX,RA2,q4,hoff])))
 refine ac_setK mTr (h1.rs.ext xZ) _ _ (fun w2 m2 g2=> ?_)
 rw [rs_snoc hrs0] at m2
 have g12:Frm (fun x=>x=H.rm) w1 w2:=(Frm.of_ext (show Ext w1 w1.drew from Ext.drew (Ext.refl _))).trans g2 (fun x _ e=>e)
 have hp2:=h1.hp.frm g12 d.1
 have q5:w2.cell? ⟨H.p,5,none⟩=some (.map (some H.hm)):=hp2.cell (i:=5) oM
 have hm2:=hm.frm g12 (fun e=>d.2.2.1 e.symm)
 have hlk2:∀(w3:World) (K:K1),Ext w2 w3→ev prog (Instr.lookup 109 (.map (some H.hm)) (.int .i64 ((26+32*k:Nat):Int)) false) w3 K=K (.int .i64 (cnR R k:Int)) w3:=fun w3 K e=>by rw [ev_lookupK1 mTh (hm2.ext e),hlk]
 have ltp2:=hp2.lt
 simp (disch:=try exact dX) only [↓RBp,↓RA,↓reduceIte,Nat.reduceAdd,Nat.reduceMul,Nat.reduceEqDiff,RB,RX,RA2,q5,hlk2]
 refine ac_setK mTh (hm2.ext xZ) _ _ (fun w3 m3 g3=> ?_)
 have g13:Frm (fun x=>x=H.rm∨x=H.hm) w1 w3:=(g12.mono (fun x hx=> .inl hx)).trans g3 (fun x _ e=> .inr e)
 have hp3:=hp2.frm g3 d.2.1
 have m2':=m2.frm g3 d.2.2.1
 have ar3:=h1.ar.frmH g13 (fun x hx=>hx.elim (fun e=>sp x (.inr (.inl e))) (fun e=>sp x (.inr (.inr (.inl e)))))
 have q3:w3.cell? ⟨H.p,3,none⟩=some (stV H.S):=hp3.cell (i:=3) oM
 have ltp3:=hp3.lt
 have hho:=fun K h8 hK=>k_Hold ar3 hk1 true K h8 hK
 simp (disch:=try exact dX) only [↓RBp,↓RA,↓reduceIte,Nat.reduceAdd,Nat.reduceMul,Nat.reduceEqDiff,RB,RX,RA2,q3]
 refine hho _ (fun e=>absurd e hfk) (fun _ w4 a4 ar4=> ?_)
 refine fin w4 L (HSt.of_stp H s1) h1 ((g13.mono (fun x hx=> .inr (hx.elim .inl (fun e=> .inr (.inl e))))).trans a4.frm (fun x _ hx=>hx.elim .inl (fun e=> .inr (.inr (.inr e))))) ar4 (m2'.frm a4.frm ?_) (m3.frm a4.frm ?_) hL
 ·exact fun hf=>hf.elim (sp _ (.inr (.inl rfl))).2.1 (sp _ (.inr (.inl rfl))).2.2.1
 ·exact fun hf=>hf.elim (sp _ (.inr (.inr (.inl rfl)))).2.1 (sp _ (.inr (.inr (.inl rfl)))).2.2.1
theorem ClOk.clean {l0 g:Nat} (h:ClOk D l0 n f c t D2 f2 k g) (c0:0≤c) (c5:c<5):wd D2 (l0+32*k) 1=0:=by
 rw [h.own 1 oM]
 unfold planF
 rw [if_neg oM]
 have:isB c 1=false:=by
  cases hb:isB c 1 with
  |false=>rfl
  |true=>
   obtain ⟨i,hi,e⟩:=isB_mem.1 hb
   have:=offN_bd c0 c5 (i:=i) oM
   omega
 rw [this,if_neg (by simp),if_pos oM]
theorem cn_zero {R:List Nat} {c:Int} (c0:0≤c) (c5:c<5) (hl:26+32*k≤4096) (hi:(i:Int)<perS c) (h:cnR R k=0):rsB R (pOff (26+32*k) c i)=false:=by
 cases hb:rsB R (pOff (26+32*k) c i) with
 |false=>rfl
 |true=>
  obtain ⟨q,hq,e⟩:=List.any_eq_true.1 hb
  have e:pO q=pOff (26+32*k) c i:=by simpa using e
  have hh:=hk_ptr (k:=k) (g:=0) (kd:=0) c0 c5 hl hi
  have:hk q=k:=by
   rw [←hh.2];unfold hk;rw [e,hh.1]
  have:=cn_pos hq
  simp_all
theorem k_Reserve (h:HpS w0 w Y D H n f R) (hav:H.av=none) {x:Int} (t0:0≤t) (t8:t<8) (x1:1≤x) (x60:x≤60) (kd:Nat) (k0:kd≠0) (k7:kd≤127) (hx:D.exe<900000000) (hR:R.length<1000000) (K:K1)
  (hno:(∀k,k<n→(f k).2.1=t→(f k).1=clsN x→∀i:Nat,(i:Int)<perS (clsN x)→usedB D R (26+32*k) (clsN x) i=true)→(∀j,j<n→¬(f j).1<0)→(∀j,j<n→emG D 26 f j=none)→∀w' Y',HSt w Y H w' Y'→HpS w0 w' Y' D H n f R→K (.tuple #[.int .u64 ((0:Nat):Int),.int .i64 4]) w')
  (hyes:∀D2 f2 D3 f3 p k i,RvOk D f R n H.avl t (clsN x) kd D2 f2 D3 f3 p k i→∀w' Y',HSt w Y H w' Y'→HpS w0 w' Y' D3 H n f3 (R++ [p])→K (.tuple #[.int .u64 (p:Int),.int .i64 0]) w'):
  callS prog 15 #[hpV H,.int .i64 t,.int .i64 x,.int .u8 (kd:Int)] w K:=by
 have hn4:=h.n4
 have hcb:=clsN_bd x
 have hpc:=perS_in hcb.1 hcb.2
 have q0:=h.cell.1
 have ltp:=h.ltp
 have her:=h.erE
 have hA:H.avl= []:=by
  rcases h.avm with ⟨_,b⟩|⟨r,a,_⟩
  ·exact b
  ·rw [hav] at a;cases a
 have harg:∀(w1:World) (K:K1),callS prog 64 #[.int .i64 t,.int .i64 x,.int .u8 (kd:Int)] w1 K=K (.int .i64 0) w1:=fun w1 K=>by
  rw [c_arguments t x kd oM w1 K,if_pos ⟨t0,t8,x1,k0,k7⟩,if_pos x60]
 have hcls:=fun (w1:World) (e:Ext w w1) (K:K1) hK=>k_SClass (h.gl.ext e) x x1 x60 K hK
 generalize clsN x=c at*
 have step2:∀(w1:World) (Y1:Lay) (D2:DS) (f2:Idx) (k i p:Nat),HSt w Y H w1 Y1→HpS w0 w1 Y1 D2 H n f2 R→k<n→(i:Int)<perS c→(f2 k).1=c→(f2 k).2.1=t→usedB D2 R (26+32*k) c i=false→(∀j,j<i→usedB D2 R (26+32*k) c j=true)→D2.n=D.n→D2.exe≤D.exe+210→(Cln D.co→Cln D2.co)→((D2=D∧f2=f∧((26+32*k:Nat):Int)∉H.avl)∨((∃g,ClOk D 26 n f c t D2 f2 k g)∧cnR R k=0∧∀k,k<n→(f k).2.1=t→(f k).1=c→((26+32*k:Nat):Int)∉H.avl→∀i:Nat,(i:Int)<perS c→usedB D R (26+32*k) c i=true))→p=ptrN (pOff (26+32*k) c i) (bG (wd D2 (26+32*k) (offN c i))) kd→f15_k2 K (hpV H) (.int .i64 c) (.int .i64 0) (.int .u64 (p:Int)) (.int .i64 ((26+32*k:Nat):Int)) w1:=by
  intro w1 Y1 D2 f2 k i p s1 h1 hk1 hi hc ht hu hlt hn2 hx2 hcl how hp
  have zr:=zero_rg h1.rg hk1 (by rw [hc];exact hcb.1) (i:=i) (by rw [hc];exact hi)
  have:=rv_k2 h1 hk1 (by rw [hc];exact hcb.1) (i:=i) (by rw [hc];exact hi) (by rw [hc];exact hu) kd k0 k7 (p:=p) (by rw [hc];exact hp) oM hR K (fun w' Y' s h2=>hyes D2 f2 _ _ p k i ⟨hk1,hcb.1,hcb.2,hi,how,hc,ht,hu,hlt,hp,h1.rg,by rw [hc],by rw [hc,ht],zr.2.1.trans hn2,by have:=zr.2.2.1;omega,fun hh=>zr.2.2.2 (hcl hh)⟩ w' Y' (s1.trans s) h2)
  rw [hc] at this
  exact this
 refine f15_call _ _ _ _ _ _ ?_
 unfold f15_t
 simp (disch:=try exact dX) only [↓RBp,↓RA,↓reduceIte,Nat.reduceAdd,Nat.reduceMul,Nat.reduceEqDiff,RB,RX,RA2,harg,q0,her]
 refine hcls _ xZ _ ?_
 simp (disch:=try exact dZ) only [↓RBp,↓RA,↓reduceIte,Nat.reduceAdd,Nat.reduceMul,Nat.reduceEqDiff,RB,RX,RA2]
 refine k_search h t0 hcb.1 kd k0 k7 _ (fun hu w1 e1=> ?_) (fun k hk1 ht hc hA' i hi hu hlt w1 e1=> ?_)
 ·have h1:=h.ext e1
  simp (disch:=try exact dZ) only [↓RBp,↓RA,↓reduceIte,Nat.reduceAdd,Nat.reduceMul,Nat.reduceEqDiff,RB,RX,RA2]
  refine k_hclaim h1 hav t0 t8 hcb.1 hcb.2 oM _ (fun a b w2 Y2 s2 h2=> ?_) (fun D2 f2 k g ok hx2 hn2 hcl hcn w2 Y2 s2 h2=> ?_)
  ·simp (disch:=try exact dZ) only [↓RBp,↓RA,↓reduceIte,Nat.reduceAdd,Nat.reduceMul,Nat.reduceEqDiff,RB,RX,RA2,f15_k1_eq,f15_k1_t,f15_k2_eq,f15_k2_t]
   exact hno (fun k hk ht hc=>hu k hk ht hc (by rw [hA];simp)) a b w2 Y2 ((HSt.of_ext Y H e1).trans s2) h2
  ·have s02:=(HSt.of_ext Y H e1).trans s2
   have hfc:(f2 k).1=c:=by rw [ok.fe,upF_eq]
   have hft:(f2 k).2.1=t:=by rw [ok.fe,upF_eq]
   have hwi:=fun K=>k_within h2 ok.kn (by rw [hfc];exact hcb.1) kd k0 k7 K
   rw [hfc] at hwi
   have hz0:usedB D2 R (26+32*k) c 0=false:=by
    unfold usedB
    rw [ok.clean hcb.1 hcb.2,cn_zero hcb.1 hcb.2 (by have:=ok.kn;omega) (show ((0:Nat):Int)<perS c by omega) hcn]
    rfl
   simp (disch:=try exact dZ) only [↓RBp,↓RA,↓reduceIte,Nat.reduceAdd,Nat.reduceMul,Nat.reduceEqDiff,RB,RX,RA2]
   refine hwi _ (fun hn=> ?_) (fun i hi hu2 hlt w3 e3=> ?_)
   ·have:=hn 0 oM
    rw [hz0] at this;cases this
   ·simp (disch:=try exact dZ) only [↓RBp,↓RA,↓reduceIte,Nat.reduceAdd,Nat.reduceMul,Nat.reduceEqDiff,RB,RX,RA2,f15_k1_eq,f15_k1_t]
    exact step2 w3 Y2 D2 f2 k i _ (s02.ext e3) (h2.ext e3) ok.kn hi hfc hft hu2 hlt hn2 hx2 hcl (.inr ⟨⟨g,ok⟩,hcn,hu⟩) rfl
 ·simp (disch:=try exact dZ) only [↓RBp,↓RA,↓reduceIte,Nat.reduceAdd,Nat.reduceMul,Nat.reduceEqDiff,RB,RX,RA2,f15_k1_eq,f15_k1_t]
  exact step2 w1 Y D f k i _ (HSt.of_ext Y H e1) (h.ext e1) hk1 hi hc ht hu hlt rfl oM id (.inl ⟨rfl,rfl,hA'⟩) rfl
end
def LivA (D:DS) (f:Idx) (n p k i:Nat):Prop:=k<n∧0≤(f k).1∧(i:Int)<perS (f k).1∧p=ptrN (pOff (26+32*k) (f k).1 i) (bG (wd D (26+32*k) (offN (f k).1 i))) (bK (wd D (26+32*k) (offN (f k).1 i)))∧bS (wd D (26+32*k) (offN (f k).1 i))=177
def Liv (D:DS) (f:Idx) (n p:Nat):Prop:=∃k i,LivA D f n p k i
theorem ptr_eta {p:Nat} (h:p<72057594037927936):p=ptrN (pO p) (pG p) (pK p):=by unfold ptrN pO pG pK;omega
theorem Snd.live {D:DS} {l i:Nat} {c o:Int} (h:Snd D l c o) (c0:0≤c) (c5:c<5) (hi:(i:Int)<perS c) (h177:bS (wd D l (offN c i))=177):isS (wd D l (offN c i))=true∧bitB (wd D l 1) i=true∧bG (wd D l (offN c i))≠0∧bK (wd D l (offN c i))≠0∧bK (wd D l (offN c i))≤127:=by
 have hp:=perS_in c0 c5
 have hg:=h.gd i hi
 rw [h177] at hg
 have:=good177 hg
 refine ⟨h.sl i hi,?_,this⟩
 rw [h.bit i oM,decide_eq_true hi,h177];rfl
section
variable {w0 w w' w'':World} {Y Y' Y'':Lay} {D D' D2 D3:DS} {H:HL} {n k i l p:Nat} {f f' f2 f3:Idx} {R R':List Nat} {c t:Int}
theorem LivA.sp (h:LivA D f n p k i) (hn:26+32*n≤4096) (rg:RgS D 26 n f):pO p=pOff (26+32*k) (f k).1 i∧hk p=k∧p≠0∧p<72057594037927936∧pG p=bG (wd D (26+32*k) (offN (f k).1 i))∧pK p=bK (wd D (26+32*k) (offN (f k).1 i))∧pK p≠0:=by
 obtain ⟨a1,a2,a3,a4,a5⟩:=h
 have hc:=rg.cls a1
 have hl:=(rg.sn k a1 a2).live a2 hc.1 a3 a5
 have hh:=hk_ptr (k:=k) (g:=bG (wd D (26+32*k) (offN (f k).1 i))) (kd:=bK (wd D (26+32*k) (offN (f k).1 i))) a2 hc.1 oM a3
 have hpo:=pOff_bd (l:=26+32*k) oM a2 hc.1 a3
 have hg:=bG_lt (wd D (26+32*k) (offN (f k).1 i))
 have hpp:=ptr_bd (pOff (26+32*k) (f k).1 i) (bG (wd D (26+32*k) (offN (f k).1 i))) (bK (wd D (26+32*k) (offN (f k).1 i))) hpo.2.1 hg hl.2.2.2.2 hpo.2.2 hpo.1
 have h1:=pG_ptr (pOff (26+32*k) (f k).1 i) (bG (wd D (26+32*k) (offN (f k).1 i))) (bK (wd D (26+32*k) (offN (f k).1 i))) hpo.2.1 hg
 have h2:=pK_ptr (pOff (26+32*k) (f k).1 i) (bG (wd D (26+32*k) (offN (f k).1 i))) (bK (wd D (26+32*k) (offN (f k).1 i))) hpo.2.1 hg oM
 rw [←a4] at hh hpp h1 h2
 exact ⟨hh.1,hh.2,hpp.1,hpp.2,h1,h2,by rw [h2];exact hl.2.2.2.1⟩
theorem pOff_in {k i n:Nat} {c:Int} (c0:0≤c) (c5:c<5) (hi:(i:Int)<perS c):1664≤pOff (26+32*k) c i∧(pOff (26+32*k) c i-1664)/2048=k:=by
 have hb2:=offS_bd c0 c5 (show 0≤(i:Int) by omega) hi
 have hb:=offN_bd c0 c5 hi
 have hw:=wordsS_in c0 c5
 unfold pOff
 omega
theorem HpG.home {Q:Nat→Prop} (h:HpG Q w0 w Y D H n f R) {x:Nat} (hx:x<18446744073709551616):∀(w1:World) (K:K1),Ext w w1→callS prog 74 #[hpV H,.int .u64 (x:Int)] w1 K=K (if 1664≤x∧(x-1664)/2048<n then .tuple #[.int .i64 ((26+32*((x-1664)/2048):Nat):Int),.bool true] else .tuple #[.int .i64 0,.bool false]) w1:=fun w1 K e=>by
 have hn:=h.n4
 exact c_home ((h.ext e).cell.2.1) ((h.ext e).cell.2.2.1) oM hx K
theorem k_place (h:HpS w0 w Y D H n f R) (hk1:k<n) (h0:0≤(f k).1) (hi:(i:Int)<perS (f k).1) (hp:p<18446744073709551616) (hpo:pO p=pOff (26+32*k) (f k).1 i) (K:K1)
  (hK:∀w',Ext w w'→K (.tuple #[.int .i64 ((26+32*k:Nat):Int),.int .i64 (i:Int),.int .i64 (f k).1]) w'):
  callS prog 84 #[hpV H,.int .u64 (p:Int)] w K:=by
 have hn4:=h.n4
 have hc:=h.cls hk1
 have hin:=pOff_in (k:=k) (n:=n) h0 hc.1 hi
 have hG:=h.gl
 have hpx:pO p<18446744073709551616:=by unfold pO;omega
 have hhm:=h.home hpx
 rw [hpo,if_pos ⟨hin.1,by rw [hin.2];exact hk1⟩,hin.2] at hhm
 have hoff:∀(w1:World) (K:K1),callS prog 20 #[.int .u64 (p:Int)] w1 K=K (.int .u64 ((pOff (26+32*k) (f k).1 i:Nat):Int)) w1:=fun w1 K=>by rw [c_POff p w1 K hp,hpo]
 have hop:=h.open hk1 h0
 have hb2:=offS_bd h0 hc.1 (show 0≤(i:Int) by omega) hi
 have hb:=offN_bd h0 hc.1 hi
 have q0:=h.cell.1
 have ltp:=h.ltp
 have e1:pOff (26+32*k) (f k).1 i-(26+32*k)*64=offN (f k).1 i*8+8:=by unfold pOff;omega
 have e2:(offN (f k).1 i*8+8)/8=offN (f k).1 i+1:=by omega
 have le1:(26+32*k)*64≤pOff (26+32*k) (f k).1 i:=by unfold pOff;omega
 have hpl:pOff (26+32*k) (f k).1 i<18446744073709551616:=by rw [←hpo];exact hpx
 have hl4:26+32*k≤4096:=by omega
 have hfind:=fun (w1:World) (e:Ext w w1) (K:K1) hno hyes=>k_Find (w:=w1) (hG.ext e) h0 hc.1 (offN (f k).1 i+1) (by have:=offS_bd h0 hc.1 (show 0≤(i:Int) by omega) hi;have:=wordsS_in h0 hc.1;omega) K hno hyes
 have hinj:∀j:Nat,offN (f k).1 i+1=offN (f k).1 j+1→j=i:=fun j hj=>offN_inj h0 hc.1 oM
 generalize (f k).1=c at*
 generalize (f k).2.1=oo at*
 generalize gX (wd D (26+32*k) 0)=gg at*
 generalize 26+32*k=l at*
 generalize pOff l c i=po at*
 generalize hof:offN c i=of at*
 refine f84_call _ _ _ _ ?_
 unfold f84_t
 simp (disch:=try exact dX) only [↓RBp,↓RA,↓reduceIte,Nat.reduceAdd,Nat.reduceMul,Nat.reduceEqDiff,RB,RX,RA2,hoff,hhm,q0]
 refine hop _ _ xZ (fun w1 e01=> ?_)
 have hN:=Cells.new w1 [Value.iface 31 (.pointer (some ⟨Y.tb 0,0,none⟩)),.int .i64 (l:Int),.int .i64 c,.int .i64 oo,.int .u16 (gg:Int)] 134
 have hcl:∀(w2:World) (K:K1),callS prog 136 #[chV Y l c oo gg] w2 K=K (.int .i64 c) (w2.alloc (chO Y l c oo gg)):=fun w2 K=>c_Class K
 have ob4:=chD hN;have d0:=ob4.1;have d1:=ob4.2.1;have d2:=ob4.2.2.1;have d3:=ob4.2.2.2.1;have d4:=ob4.2.2.2.2
 simp (disch:=try exact dX) only [↓RBp,↓RA,↓reduceIte,Nat.reduceAdd,Nat.reduceMul,Nat.reduceEqDiff,RB,RX,RA2,hoff,hcl,e1,e2]
 refine hfind _ (Ext.trans e01 xZ) _ (fun hno=>(hno i hi (by rw [hof])).elim) (fun j hj he=> ?_)
 have:=hinj j he
 subst this
 simp (disch:=try exact dX) only [↓RBp,↓RA,↓reduceIte,Nat.reduceAdd,Nat.reduceMul,Nat.reduceEqDiff,RB,RX,RA2,hcl]
 exact hK _ (e01.trans xZ)
end
section
variable {w0 w w' w'':World} {Y Y' Y'':Lay} {D D' D2 D3:DS} {H:HL} {n k i l p:Nat} {f f' f2 f3:Idx} {R R':List Nat} {c t:Int}
theorem LivA.at_ (h:LivA D f n p k i) (hn:26+32*n≤4096) (rg:RgS D 26 n f):1664≤pO p∧(pO p-1664)/2048=k∧p≠0∧p<72057594037927936∧pO p=pOff (26+32*k) (f k).1 i:=by
 have a:=h.sp hn rg
 have b:=pOff_in (k:=k) (n:=n) h.2.1 (rg.cls h.1).1 h.2.2.1
 rw [←a.1] at b
 exact ⟨b.1,b.2,a.2.2.1,a.2.2.2.1,a.1⟩
theorem pOff_i {k i j:Nat} {c:Int} (c0:0≤c) (c5:c<5) (h:pOff l c i=pOff l c j):i=j:=by
 unfold pOff at h
 exact offN_inj c0 c5 oM
theorem k_hCheck (h:HpS w0 w Y D H n f R) (hp:p<18446744073709551616) (kd:Nat) (hkd:kd<256) (K:K1)
  (hL:Liv D f n p→∀w',Ext w w'→K (.int .i64 (if kd=0∨kd=pK p then 0 else 13)) w')
  (hN:¬Liv D f n p→∀e:Int,e≠0→(Rsv D f n p→e=12)→∀w',Ext w w'→K (.int .i64 e) w'):
  callS prog 21 #[hpV H,.int .u64 (p:Int),.int .u8 (kd:Int)] w K:=by
 have hn4:=h.n4
 have hG:=h.gl
 have hpx:pO p<18446744073709551616:=by unfold pO;omega
 have hhm:=h.home hpx
 have her:=h.erE
 have q0:=h.cell.1
 have ltp:=h.ltp
 have hoff:∀(w1:World) (K:K1),callS prog 20 #[.int .u64 (p:Int)] w1 K=K (.int .u64 ((pO p:Nat):Int)) w1:=fun w1 K=>c_POff p w1 K hp
 have hnil:∀(w1:World) (K:K1),callS prog 73 #[.int .u64 (p:Int)] w1 K=K (.bool (decide (p=0))) w1:=fun w1 K=>c_PNil p w1 K hp
 have hkp:∀(w1:World) (K:K1),callS prog 60 #[.int .u64 (p:Int)] w1 K=K (.int .u8 ((pK p:Nat):Int)) w1:=fun w1 K=>c_PKind p w1 K hp
 have hk8:pK p<256:=by unfold pK;omega
 have rz:Rsv D f n p→1664≤pO p∧(pO p-1664)/2048<n∧p≠0∧p<72057594037927936∧∃k i:Nat,(pO p-1664)/2048=k∧0≤(f k).1∧(i:Int)<perS (f k).1∧pO p=pOff (26+32*k) (f k).1 i∧bS (wd D (26+32*k) (offN (f k).1 i))=176:=fun r=>by
  have a:=r.kn oM h.rg
  obtain ⟨a1,a2,a3,a4,i,a5,a6,a7⟩:=a
  have b:=pOff_in (k:=hk p) (n:=n) a2 (h.cls a1).1 a5
  rw [←a6] at b
  exact ⟨b.1,by omega,a3,a4,_,i,b.2,a2,a5,a6,a7⟩
 by_cases p0:p=0
 ·have hnil0:∀(w1:World) (K:K1),callS prog 73 #[.int .u64 (p:Int)] w1 K=K (.bool true) w1:=fun w1 K=>by rw [hnil,decide_eq_true p0]
  refine f21_call _ _ _ _ _ ?_
  unfold f21_t
  (repeat' (first|(with_reducible first|refine brS_mk (fun _=> ?_) (fun _=> ?_)|refine And.intro ?_ ?_)|(simp (disch:=try exact dX) only [↓RBp,↓RA,↓reduceIte,Nat.reduceAdd,Nat.reduceMul,Nat.reduceEqDiff,RB,RX,RA2,hnil0])))
  exact hN (fun ⟨k,i,hl⟩=>(hl.at_ oM h.rg).2.2.1 p0) 1 oM (fun r=>((rz r).2.2.1 p0).elim) _ xZ
 by_cases hin:1664≤pO p∧(pO p-1664)/2048<n
 ·rw [if_pos hin] at hhm
  by_cases h56:p<72057594037927936
  ·have hd0:p/72057594037927936=0:=by omega
   obtain ⟨k,hkk⟩:∃k,(pO p-1664)/2048=k:=⟨_,rfl⟩
   have hk1:k<n:=by omega
   rw [hkk] at hhm
   have hl4:26+32*k≤4096:=by omega
   by_cases h0:0≤(f k).1
   ·have hc:=h.cls hk1
    have hop:=h.open hk1 h0
    have hblk:=fun (w1:World) (e:Ext w w1) (K:K1) a1 a2 a3 a4 a5=>k_Block ((h.cx hk1 h0).ext e) (h.er 0 oM) (f k).2.1 (gX (wd D (26+32*k) 0)) p hp K a1 a2 a3 a4 a5
    have nl:(∀i:Nat,(i:Int)<perS (f k).1→pO p≠pOff (26+32*k) (f k).1 i)→¬Liv D f n p∧¬Rsv D f n p:=fun hno=>⟨fun ⟨k',i',hl⟩=>by
      have a:=hl.at_ oM h.rg
      have e:k'=k:=by omega
      subst e
      exact hno i' hl.2.2.1 a.2.2.2.2,fun r=>by
      obtain ⟨_,_,_,_,k',i',b1,b2,b3,b4,_⟩:=rz r
      have e:k'=k:=by omega
      subst e
      exact hno i' b3 b4⟩
    have nlv:∀i:Nat,(i:Int)<perS (f k).1→pO p=pOff (26+32*k) (f k).1 i→¬(liveB D (26+32*k) (f k).1 i (pG p)∧bK (wd D (26+32*k) (offN (f k).1 i))=pK p)→¬Liv D f n p:=fun i hi hpo hnl=>fun ⟨k',i',hl⟩=>by
     have a:=hl.at_ oM h.rg
     have e:k'=k:=by omega
     subst e
     have e:i=i':=pOff_i (k:=0) h0 hc.1 (hpo.symm.trans a.2.2.2.2)
     subst e
     have s:=hl.sp oM h.rg
     have v:=(h.rg.sn k' hk1 h0).live h0 hc.1 hi hl.2.2.2.2
     exact hnl ⟨⟨v.1,v.2.1,hl.2.2.2.2,s.2.2.2.2.1.symm⟩,s.2.2.2.2.2.1.symm⟩
    have rv:∀i:Nat,(i:Int)<perS (f k).1→pO p=pOff (26+32*k) (f k).1 i→liveB D (26+32*k) (f k).1 i (pG p)→¬Rsv D f n p:=fun i hi hpo hl r=>by
     obtain ⟨_,_,_,_,k',i',b1,b2,b3,b4,b5⟩:=rz r
     have e:k'=k:=by omega
     subst e
     have e:i=i':=pOff_i (k:=0) h0 hc.1 (hpo.symm.trans b4)
     subst e
     have:=hl.2.2.1
     omega
    have lv:∀i:Nat,(i:Int)<perS (f k).1→pO p=pOff (26+32*k) (f k).1 i→liveB D (26+32*k) (f k).1 i (pG p)→bK (wd D (26+32*k) (offN (f k).1 i))=pK p→Liv D f n p:=fun i hi hpo hl hk=>by
     refine ⟨k,i,hk1,h0,hi,?_,hl.2.2.1⟩
     rw [hk,hl.2.2.2,←hpo]
     exact ptr_eta h56
    generalize hll:26+32*k=l at*
    generalize (f k).1=c at*
    generalize (f k).2.1=oo at*
    generalize gX (wd D l 0)=gg at*
    refine f21_call _ _ _ _ _ ?_
    unfold f21_t
    (repeat' (first|(with_reducible first|refine brS_mk (fun _=> ?_) (fun _=> ?_)|refine And.intro ?_ ?_)|(simp (disch:=try exact dX) only [↓RBp,↓RA,↓reduceIte,Nat.reduceAdd,Nat.reduceMul,Nat.reduceEqDiff,RB,RX,RA2,hnil,p0,her,q0,hoff,hhm,hd0])))
    refine hop _ _ xZ (fun w1 e01=> ?_)
    have h1:=(h.ext e01).cell.1
    have lt1:=(h.ext e01).ltp
    simp (disch:=try exact dX) only [↓RBp,↓RA,↓reduceIte,Nat.reduceAdd,Nat.reduceMul,Nat.reduceEqDiff,RB,RX,RA2,h1,her]
    refine hblk _ (e01.trans xZ) _ (fun hz=>(p0 hz).elim) (fun _ hr w2 e2=> ?_) (fun _ _ i hi hpo hnl w2 e2=> ?_) (fun _ _ i hi hpo hl hk w2 e2=> ?_) (fun _ _ i hi hpo hl hk w2 e2=> ?_)
    ·have hr:∀k:Nat,(k:Int)<perS c→pO p≠pOff l c k:=hr.resolve_left oM
     simp (disch:=try exact dX) only [↓RBp,↓RA,↓reduceIte,Nat.reduceAdd,Nat.reduceMul,Nat.reduceEqDiff,RB,RX,RA2]
     exact hN (nl hr).1 2 oM (fun r=>((nl hr).2 r).elim) _ (e01.trans (Ext.trans xZ e2))
    ·simp (disch:=try exact dX) only [↓RBp,↓RA,↓reduceIte,Nat.reduceAdd,Nat.reduceMul,Nat.reduceEqDiff,RB,RX,RA2]
     exact hN (nlv i hi hpo (fun a=>hnl a.1)) 12 oM (fun _=>rfl) _ (e01.trans (Ext.trans xZ e2))
    ·simp (disch:=try exact dX) only [↓RBp,↓RA,↓reduceIte,Nat.reduceAdd,Nat.reduceMul,Nat.reduceEqDiff,RB,RX,RA2]
     exact hN (nlv i hi hpo (fun a=>hk a.2)) 13 oM (fun r=>(rv i hi hpo hl r).elim) _ (e01.trans (Ext.trans xZ e2))
    ·have hfin:=hL (lv i hi hpo hl hk)
     by_cases t1:kd=0
     ·rw [if_pos (.inl t1)] at hfin
      (repeat' (first|(with_reducible first|refine brS_mk (fun _=> ?_) (fun _=> ?_)|refine And.intro ?_ ?_)|(simp (disch:=try exact dX) only [↓RBp,↓RA,↓reduceIte,Nat.reduceAdd,Nat.reduceMul,Nat.reduceEqDiff,RB,RX,RA2,t1,hkp])))
      exact hfin _ (e01.trans (Ext.trans xZ e2))
     ·by_cases t2:kd=pK p
      ·rw [if_pos (.inr t2)] at hfin
       (repeat' (first|(with_reducible first|refine brS_mk (fun _=> ?_) (fun _=> ?_)|refine And.intro ?_ ?_)|(simp (disch:=try exact dX) only [↓RBp,↓RA,↓reduceIte,Nat.reduceAdd,Nat.reduceMul,Nat.reduceEqDiff,RB,RX,RA2,t1,hkp,t2])))
       all_goals exact hfin _ (e01.trans (Ext.trans xZ e2))
      ·rw [if_neg (fun a=>a.elim t1 t2)] at hfin
       (repeat' (first|(with_reducible first|refine brS_mk (fun _=> ?_) (fun _=> ?_)|refine And.intro ?_ ?_)|(simp (disch:=try exact dX) only [↓RBp,↓RA,↓reduceIte,Nat.reduceAdd,Nat.reduceMul,Nat.reduceEqDiff,RB,RX,RA2,t1,hkp,t2])))
       exact hfin _ (e01.trans (Ext.trans xZ e2))
   ·have hop:=h.openZ hk1 oM
    have nl:¬Liv D f n p:=fun ⟨k',i',hl⟩=>by
     have a:=hl.at_ oM h.rg
     have e:k'=k:=by omega
     subst e
     exact h0 hl.2.1
    have nr:¬Rsv D f n p:=fun r=>by
     obtain ⟨_,_,_,_,k',i',b1,b2,_⟩:=rz r
     have e:k'=k:=by omega
     subst e
     exact h0 b2
    generalize hll:26+32*k=l at*
    refine f21_call _ _ _ _ _ ?_
    unfold f21_t
    (repeat' (first|(with_reducible first|refine brS_mk (fun _=> ?_) (fun _=> ?_)|refine And.intro ?_ ?_)|(simp (disch:=try exact dX) only [↓RBp,↓RA,↓reduceIte,Nat.reduceAdd,Nat.reduceMul,Nat.reduceEqDiff,RB,RX,RA2,hnil,p0,her,q0,hoff,hhm,hd0])))
    refine hop _ _ xZ (fun w1 e01=> ?_)
    have h1:=(h.ext e01).cell.1
    have lt1:=(h.ext e01).ltp
    simp (disch:=try exact dX) only [↓RBp,↓RA,↓reduceIte,Nat.reduceAdd,Nat.reduceMul,Nat.reduceEqDiff,RB,RX,RA2,h1,her]
    exact hN nl 2 oM (fun r=>(nr r).elim) _ (e01.trans xZ)
  ·have hd0:¬p/72057594037927936=0:=by omega
   generalize 26+32*((pO p-1664)/2048)=l at*
   refine f21_call _ _ _ _ _ ?_
   unfold f21_t
   (repeat' (first|(with_reducible first|refine brS_mk (fun _=> ?_) (fun _=> ?_)|refine And.intro ?_ ?_)|(simp (disch:=try exact dX) only [↓RBp,↓RA,↓reduceIte,Nat.reduceAdd,Nat.reduceMul,Nat.reduceEqDiff,RB,RX,RA2,hnil,p0,her,q0,hoff,hhm,hd0])))
   exact hN (fun ⟨k,i,hl⟩=>h56 (hl.at_ oM h.rg).2.2.2.1) 2 oM (fun r=>(h56 (rz r).2.2.2.1).elim) _ xZ
 ·rw [if_neg hin] at hhm
  refine f21_call _ _ _ _ _ ?_
  unfold f21_t
  (repeat' (first|(with_reducible first|refine brS_mk (fun _=> ?_) (fun _=> ?_)|refine And.intro ?_ ?_)|(simp (disch:=try exact dX) only [↓RBp,↓RA,↓reduceIte,Nat.reduceAdd,Nat.reduceMul,Nat.reduceEqDiff,RB,RX,RA2,hnil,p0,her,q0,hoff,hhm])))
  exact hN (fun ⟨k,i,hl⟩=>by
   have a:=hl.at_ oM h.rg
   exact hin ⟨a.1,by rw [a.2.1];exact hl.1⟩) 2 oM (fun r=>(hin ⟨(rz r).1,(rz r).2.1⟩).elim) _ xZ
theorem k_hWords (h:HpS w0 w Y D H n f R) (hr:∀p∈R,p<18446744073709551616) (hk1:k<n) (h0:0≤(f k).1) (hi:(i:Int)<perS (f k).1) (hp:p<18446744073709551616) (p0:p≠0) (hpo:pO p=pOff (26+32*k) (f k).1 i) (hq:p∈R∨Liv D f n p) (K:K1)
  (hK:∀w',Ext w w'→K (.tuple #[.int .i64 (wordsS (f k).1),.int .i64 0]) w'):
  callS prog 29 #[hpV H,.int .u64 (p:Int)] w K:=by
 have her:=h.erE
 have q0:=h.cell.1
 have ltp:=h.ltp
 have hG:=h.gl
 have hnil:∀(w1:World) (K:K1),callS prog 73 #[.int .u64 (p:Int)] w1 K=K (.bool (decide (p=0))) w1:=fun w1 K=>c_PNil p w1 K hp
 have hho:=fun (w1:World) (e:Ext w w1) (K:K1) hK=>k_holds (h.ext e) hr p hp K hK
 have hck:=fun (w1:World) (e:Ext w w1) (K:K1) (a:Liv D f n p→∀w',Ext w1 w'→K (.int .i64 0) w') b=>k_hCheck (h.ext e) hp 0 oM K (fun hl w' e'=>by rw [if_pos (.inl rfl)];exact a hl w' e') b
 have hpl:=fun (w1:World) (e:Ext w w1) (K:K1) hK=>k_place (h.ext e) hk1 h0 hi hp hpo K hK
 have hsw:∀(w1:World) (K:K1),Ext w w1→callS prog 85 #[.int .i64 (f k).1] w1 K=K (.int .i64 (wordsS (f k).1)) w1:=fun w1 K e=>c_Words _ w1 K (hG.ext e)
 generalize hcc:(f k).1=c at hpl hsw hK
 refine f29_call _ _ _ _ ?_
 unfold f29_t
 (repeat' (first|(with_reducible first|refine brS_mk (fun _=> ?_) (fun _=> ?_)|refine And.intro ?_ ?_)|(simp (disch:=try exact dX) only [↓RBp,↓RA,↓reduceIte,Nat.reduceAdd,Nat.reduceMul,Nat.reduceEqDiff,RB,RX,RA2,hnil,p0,her,q0])))
 refine hho _ xZ _ (fun w1 e1=> ?_)
 have e01:Ext w w1:=Ext.trans xZ e1
 by_cases t1:p∈R
 ·(repeat' (first|(with_reducible first|refine brS_mk (fun _=> ?_) (fun _=> ?_)|refine And.intro ?_ ?_)|(simp (disch:=try exact dX) only [↓RBp,↓RA,↓reduceIte,Nat.reduceAdd,Nat.reduceMul,Nat.reduceEqDiff,RB,RX,RA2,t1])))
  rw [f29_k1_eq]
  unfold f29_k1_t
  simp (disch:=try exact dZ) only [↓RBp,↓RA,↓reduceIte,Nat.reduceAdd,Nat.reduceMul,Nat.reduceEqDiff,RB,RX,RA2]
  refine hpl _ (e01.trans xZ) _ (fun w2 e2=> ?_)
  have e02:Ext w w2:=e01.trans (Ext.trans xZ e2)
  have q02:=(h.ext e02).cell.1
  have lt2:=(h.ext e02).ltp
  simp (disch:=try exact dX) only [↓RBp,↓RA,↓reduceIte,Nat.reduceAdd,Nat.reduceMul,Nat.reduceEqDiff,RB,RX,RA2,her,q02,hsw]
  exact hK _ (e02.trans xZ)
 ·have hl:=hq.resolve_left t1
  (repeat' (first|(with_reducible first|refine brS_mk (fun _=> ?_) (fun _=> ?_)|refine And.intro ?_ ?_)|(simp (disch:=try exact dX) only [↓RBp,↓RA,↓reduceIte,Nat.reduceAdd,Nat.reduceMul,Nat.reduceEqDiff,RB,RX,RA2,t1])))
  refine hck _ (e01.trans xZ) _ (fun _ w2 e2=> ?_) (fun nl=>(nl hl).elim)
  have e02:Ext w w2:=e01.trans (Ext.trans xZ e2)
  simp (disch:=try exact dX) only [↓RBp,↓RA,↓reduceIte,Nat.reduceAdd,Nat.reduceMul,Nat.reduceEqDiff,RB,RX,RA2]
  rw [f29_k1_eq]
  unfold f29_k1_t
  simp (disch:=try exact dZ) only [↓RBp,↓RA,↓reduceIte,Nat.reduceAdd,Nat.reduceMul,Nat.reduceEqDiff,RB,RX,RA2]
  refine hpl _ (e02.trans xZ) _ (fun w3 e3=> ?_)
  have e03:Ext w w3:=e02.trans (Ext.trans xZ e3)
  have q03:=(h.ext e03).cell.1
  have lt3:=(h.ext e03).ltp
  simp (disch:=try exact dX) only [↓RBp,↓RA,↓reduceIte,Nat.reduceAdd,Nat.reduceMul,Nat.reduceEqDiff,RB,RX,RA2,her,q03,hsw]
  exact hK _ (e03.trans xZ)
end
def rmR (R:List Nat) (p:Nat):List Nat:=R.filter fun q=> !decide (q=p)
def FS (f f2:Idx):Prop:=∀k,(f2 k).1=(f k).1∧(f2 k).2.1=(f k).2.1
theorem FS.refl (f:Idx):FS f f:=fun _=>⟨rfl,rfl⟩
theorem FS.trans {f f2 f3:Idx} (h:FS f f2) (k:FS f2 f3):FS f f3:=fun j=>⟨(k j).1.trans (h j).1,(k j).2.trans (h j).2⟩
section
variable {w0 w w' w'':World} {Y Y' Y'':Lay} {D D' D2 D3:DS} {H:HL} {n k i l p q:Nat} {f f' f2 f3:Idx} {R R':List Nat} {c t:Int}
theorem FS.liv (h:FS f f2):Liv D f2 n p↔Liv D f n p:=by
 have e:∀k,(f2 k).1=(f k).1:=fun k=>(h k).1
 unfold Liv LivA
 constructor<;>rintro ⟨k,i,h⟩<;>exact ⟨k,i,by simpa only [e] using h⟩
theorem FS.rsv (h:FS f f2):Rsv D f2 n p↔Rsv D f n p:=by
 have e:∀k,(f2 k).1=(f k).1:=fun k=>(h k).1
 unfold Rsv
 constructor<;>rintro ⟨k,i,kd,h⟩<;>exact ⟨k,i,kd,by simpa only [e] using h⟩
theorem mem_rm:q∈rmR R p↔q∈R∧q≠p:=by unfold rmR;simp
theorem rm_not (h:p∉R):rmR R p=R:=List.filter_eq_self.2 fun q hq=>by
 have:q≠p:=fun e=>h (e▸hq)
 simp [this]
theorem pO_inj:∀{R:List Nat},(R.map pO).Nodup→∀{p q:Nat},p∈R→q∈R→pO p=pO q→p=q:=by
 intro R
 induction R with
 |nil=>intro _ p q h;cases h
 |cons x L ih=>
  intro hn a b ha hb e
  rw [List.map_cons,List.nodup_cons] at hn
  rcases List.mem_cons.1 ha with h1|ha
  ·rcases List.mem_cons.1 hb with h2|hb
   ·rw [h1,h2]
   ·exact (hn.1 (List.mem_map.2 ⟨b,hb,by rw [←e,h1]⟩)).elim
  ·rcases List.mem_cons.1 hb with h2|hb
   ·exact (hn.1 (List.mem_map.2 ⟨a,ha,by rw [e,h2]⟩)).elim
   ·exact ih hn.2 ha hb e
theorem rs_rm (hn:(R.map pO).Nodup) (hp:p∈R):delL (rsL R) (pO p:Int)=rsL (rmR R p):=by
 unfold delL rsL rmR
 rw [List.filter_map]
 congr 1
 refine List.filter_congr fun q hq=> ?_
 simp only [Function.comp]
 have:((pO q:Int)=(pO p:Int))↔q=p:=by
  constructor
  ·intro e
   exact pO_inj hn hq hp oM
  ·rintro rfl;rfl
 rw [decide_eq_decide.2 this]
theorem cn_rm:∀{R:List Nat},R.Nodup→p∈R→∀j,cnR R j=cnR (rmR R p) j+if hk p=j then 1 else 0:=by
 intro R
 induction R with
 |nil=>intro _ h;cases h
 |cons x R ih=>
  intro hn hp j
  rw [List.nodup_cons] at hn
  by_cases e:x=p
  ·subst e
   have e1:rmR (x::R) x=R:=by
    have:=rm_not hn.1
    unfold rmR at this ⊢
    rw [List.filter_cons];simp [this]
   rw [e1]
   unfold cnR
   rw [List.filter_cons]
   by_cases e2:hk x=j
   ·simp [e2]
   ·simp [e2]
  ·have hp':p∈R:=by
    rcases List.mem_cons.1 hp with h|h
    ·exact absurd h.symm e
    ·exact h
   have i:=ih hn.2 hp' j
   have e1:rmR (x::R) p=x::rmR R p:=by unfold rmR;rw [List.filter_cons];simp [e]
   rw [e1]
   unfold cnR at i ⊢
   rw [List.filter_cons,List.filter_cons]
   by_cases e2:hk x=j
   ·simp only [e2,decide_true,if_true,List.length_cons];omega
   ·simp only [e2,decide_false,Bool.false_eq_true,if_false];exact i
theorem nd_rm (hn:(R.map pO).Nodup):((rmR R p).map pO).Nodup:=List.Nodup.sublist (List.Sublist.map _ List.filter_sublist) hn
theorem nd_R (h:(R.map pO).Nodup):R.Nodup:=by
 induction R with
 |nil=>simp
 |cons x L ih=>
  rw [List.map_cons,List.nodup_cons] at h
  rw [List.nodup_cons]
  exact ⟨fun hm=>h.1 (List.mem_map.2 ⟨x,hm,rfl⟩),ih h.2⟩
def Plc (f:Idx) (n p:Nat):Prop:=hk p<n∧0≤(f (hk p)).1∧p≠0∧p<72057594037927936∧∃i:Nat,(i:Int)<perS (f (hk p)).1∧pO p=pOff (26+32*hk p) (f (hk p)).1 i
theorem Rsv.plc (h:Rsv D f n p) (hn:26+32*n≤4096) (rg:RgS D 26 n f):Plc f n p:=by
 obtain ⟨a,b,c,d,i,e,g,_⟩:=h.kn hn rg
 exact ⟨a,b,c,d,i,e,g⟩
theorem FS.plc (h:FS f f2) (hp:Plc f n p):Plc f2 n p:=by
 have e:(f2 (hk p)).1=(f (hk p)).1:=(h _).1
 unfold Plc at hp ⊢
 rw [e];exact hp
theorem HpG.mapQ {Q Q':Nat→Prop} (h:HpG Q w0 w Y D H n f R) (hq:∀p∈R,Q p→Q' p):HpG Q' w0 w Y D H n f R:=
 ⟨h.ar,h.rg,h.hp,h.lg,h.rs,h.hd,h.nd,fun p hp=>hq p hp (h.rv p hp),h.ho,h.er,h.idl,h.avm,h.sep,h.dif,h.dt⟩
theorem k_release {Q:Nat→Prop} (h:HpG Q w0 w Y D H n f R) (hpl:Plc f n p) (hp:p∈R) (hR:R.length<1000000) (K:K1)
  (hK:∀w' f2,FS f f2→HSt w Y H w' Y→HpG Q w0 w' Y D H n f2 (rmR R p)→K (.tuple #[]) w'):
  callS prog 100 #[hpV H,.int .u64 (p:Int)] w K:=by
 have hn4:=h.n4
 obtain ⟨k1,c0,p0,p56,i,hi,hpo⟩:=hpl
 obtain ⟨k,hkk⟩:∃k,hk p=k:=⟨_,rfl⟩
 rw [hkk] at k1 c0 hi hpo
 have hc:=h.cls k1
 have hin:=pOff_in (k:=k) (n:=n) c0 hc.1 hi
 rw [←hpo] at hin
 obtain ⟨L,hm,hL⟩:=h.hd
 have d:=h.dif
 have sp:=h.sep
 have q4:=h.cell.2.2.2.2.1
 have ltp:=h.ltp
 have hcn:=cn_rm (nd_R h.nd) hp
 have hcl:cnR R k≤R.length:=by unfold cnR;exact List.length_filter_le _ _
 have hck:=hcn k
 rw [hkk,if_pos rfl] at hck
 have hlk:(getL L ((26+32*k:Nat):Int)).getD (.int .i64 0)= .int .i64 (cnR R k:Int):=by
  rw [hL k k1,if_neg oM];rfl
 have hx:pO p<18446744073709551616:=by unfold pO;omega
 have hoff:∀(w1:World) (K:K1),callS prog 20 #[.int .u64 (p:Int)] w1 K=K (.int .u64 ((pO p:Nat):Int)) w1:=fun w1 K=>c_POff p w1 K oM
 have hhm:∀(w1:World) (K:K1),w1.cell? ⟨H.p,1,none⟩=some (.int .i64 ((26:Nat):Int))→w1.cell? ⟨H.p,2,none⟩=some (.int .i64 ((32*n:Nat):Int))→callS prog 74 #[hpV H,.int .u64 ((pO p:Nat):Int)] w1 K=K (.tuple #[.int .i64 ((26+32*k:Nat):Int),.bool true]) w1:=fun w1 K a b=>by
  rw [c_home a b oM hx K,if_pos ⟨hin.1,by rw [hin.2];exact k1⟩,hin.2]
 have fk:¬(f k).1<0:=by omega
 have nd':=nd_rm (p:=p) h.nd
 have rv':∀(f2:Idx),FS f f2→∀q∈rmR R p,Q q:=fun f2 fs q hq=>h.rv q (mem_rm.1 hq).1
 have fin:∀w' f2 L',FS f f2→Frm (fun x=>Y.F x∨x=H.rm∨x=H.hm∨x=H.b) w w'→ArS w0 w' Y D H.S H.b H.o H.cp 26 n f2→RgS D 26 n f2→MapK .u64 w' H.rm (rsL (rmR R p))→MapK .i64 w' H.hm L'→(∀j,j<n→getL L' ((26+32*j:Nat):Int)=if cnR (rmR R p) j=0 then none else some (.int .i64 (cnR (rmR R p) j:Int)))→(∀j,j<n→(f2 j).2.2=decide (cnR (rmR R p) j≠0))→K (.tuple #[]) w':=fun w' f2 L' fs fr ar rg mr mh hL' ho=>hK w' f2 fs (HSt.of_frm Y fr) (h.put fr ar rg mr ⟨L',mh,hL'⟩ nd' (rv' f2 fs) ho)
 have e1:(cnR R k:Int)-1=((cnR (rmR R p) k:Nat):Int):=by omega
 have rsm:=rs_rm h.nd hp
 refine f100_call _ _ _ _ ?_
 unfold f100_t
 (repeat' (first|(with_reducible first|refine brS_mk (fun _=> ?_) (fun _=> ?_)|refine And.intro ?_ ?_)|(simp (disch:=try exact dX) only [↓RBp,↓RA,↓reduceIte,Nat.reduceAdd,Nat.reduceMul,Nat.reduceEqDiff,RB,RX,RA2,q4,hoff])))
 refine blt_delK rfl mTr (h.rs.ext xZ) _ (fun w2 m2 g2=> ?_)
 rw [rsm] at m2
 have g12:Frm (fun x=>x=H.rm) w w2:=(Frm.of_ext (show Ext w w.drew from Ext.drew (Ext.refl _))).trans g2 (fun x _ e=>e)
 have hp2:=h.hp.frm g12 d.1
 have a1:w2.cell? ⟨H.p,1,none⟩=some (.int .i64 ((26:Nat):Int)):=hp2.cell (i:=1) oM
 have a2:w2.cell? ⟨H.p,2,none⟩=some (.int .i64 ((32*n:Nat):Int)):=hp2.cell (i:=2) oM
 have hhm2:=fun K=>hhm w2 K a1 a2
 have q5:w2.cell? ⟨H.p,5,none⟩=some (.map (some H.hm)):=hp2.cell (i:=5) oM
 have hm2:=hm.frm g12 (fun e=>d.2.2.1 e.symm)
 have hlk2:∀(w3:World) (K:K1),Ext w2 w3→ev prog (Instr.lookup 109 (.map (some H.hm)) (.int .i64 ((26+32*k:Nat):Int)) false) w3 K=K (.int .i64 (cnR R k:Int)) w3:=fun w3 K e=>by rw [ev_lookupK1 mTh (hm2.ext e),hlk]
 have ltp2:=hp2.lt
 simp (disch:=try exact dX) only [↓RBp,↓RA,↓reduceIte,Nat.reduceAdd,Nat.reduceMul,Nat.reduceEqDiff,RB,RX,RA2,hoff,hhm2,q5,hlk2,e1]
 refine ac_setK mTh (hm2.ext xZ) _ _ (fun w3 m3 g3=> ?_)
 have g13:Frm (fun x=>x=H.rm∨x=H.hm) w w3:=(g12.mono (fun x hx=> .inl hx)).trans g3 (fun x _ e=> .inr e)
 have hp3:=hp2.frm g3 d.2.1
 have m2':=m2.frm g3 d.2.2.1
 have ar3:=h.ar.frmH g13 (fun x hx=>hx.elim (fun e=>sp x (.inr (.inl e))) (fun e=>sp x (.inr (.inr (.inl e)))))
 have q53:w3.cell? ⟨H.p,5,none⟩=some (.map (some H.hm)):=hp3.cell (i:=5) oM
 have ltp3:=hp3.lt
 have hlk3:∀(w4:World) (K:K1),Ext w3 w4→ev prog (Instr.lookup 109 (.map (some H.hm)) (.int .i64 ((26+32*k:Nat):Int)) false) w4 K=K (.int .i64 ((cnR (rmR R p) k:Nat):Int)) w4:=fun w4 K e=>by rw [ev_lookupK1 mTh (m3.ext e),getL_set,if_pos rfl];rfl
 have oth:∀j,j<n→j≠k→cnR (rmR R p) j=cnR R j:=fun j _ hj=>by
  have:=hcn j
  rw [hkk,if_neg (fun e=>hj e.symm)] at this;omega
 by_cases hz:cnR (rmR R p) k=0
 ·have hz':((cnR (rmR R p) k:Nat):Int)≤0:=by omega
  simp (disch:=try exact dX) only [↓RBp,↓RA,↓reduceIte,Nat.reduceAdd,Nat.reduceMul,Nat.reduceEqDiff,RB,RX,RA2,q53,hlk3,hz,Int.le_refl]
  refine blt_delK rfl mTh (m3.ext xZ) _ (fun w4 m4 g4=> ?_)
  have g14:Frm (fun x=>x=H.rm∨x=H.hm) w w4:=g13.trans g4 (fun x _ e=> .inr e)
  have hp4:=hp3.frm g4 d.2.1
  have m2'':=m2'.frm g4 d.2.2.1
  have ar4:=h.ar.frmH g14 (fun x hx=>hx.elim (fun e=>sp x (.inr (.inl e))) (fun e=>sp x (.inr (.inr (.inl e)))))
  have q34:w4.cell? ⟨H.p,3,none⟩=some (stV H.S):=hp4.cell (i:=3) oM
  have ltp4:=hp4.lt
  have hho:=fun K h8 hK=>k_Hold ar4 k1 false K h8 hK
  simp (disch:=try exact dX) only [↓RBp,↓RA,↓reduceIte,Nat.reduceAdd,Nat.reduceMul,Nat.reduceEqDiff,RB,RX,RA2,q34]
  refine hho _ (fun e=>absurd e fk) (fun _ w5 a5 ar5=> ?_)
  have fs:FS f (upF f k ((f k).1,(f k).2.1,false)):=fun j=>by
   by_cases e:j=k
   ·subst e;rw [upF_eq];exact ⟨rfl,rfl⟩
   ·rw [upF_ne _ _ e];exact ⟨rfl,rfl⟩
  refine fin w5 _ _ fs ((g14.mono (fun x hx=> .inr (hx.elim .inl (fun e=> .inr (.inl e))))).trans a5.frm (fun x _ hx=>hx.elim .inl (fun e=> .inr (.inr (.inr e))))) ar5 ?_ (m2''.frm a5.frm ?_) (m4.frm a5.frm ?_) (fun j hj=> ?_) (fun j hj=> ?_)
  ·have ha:=h.rg.ag k k1
   exact h.rg.upd h.rg.on h.rg.gd rfl k1 (fun _ _ _ _ _=>rfl) ⟨ha.1,ha.2.1.symm,ha.2.2.symm⟩ (fun hh0=>h.rg.sn k k1 hh0) _
  ·exact fun hf=>hf.elim (sp _ (.inr (.inl rfl))).2.1 (sp _ (.inr (.inl rfl))).2.2.1
  ·exact fun hf=>hf.elim (sp _ (.inr (.inr (.inl rfl)))).2.1 (sp _ (.inr (.inr (.inl rfl)))).2.2.1
  ·rw [getL_del,getL_set]
   by_cases e:j=k
   ·subst e;rw [if_pos rfl,if_pos hz]
   ·have ne:¬((26+32*j:Nat):Int)=((26+32*k:Nat):Int):=by omega
    rw [if_neg ne,if_neg ne,hL j hj,oth j hj e]
  ·by_cases e:j=k
   ·subst e;rw [upF_eq,hz];rfl
   ·rw [upF_ne _ _ e,oth j hj e];exact h.ho j hj
 ·have hz':¬((cnR (rmR R p) k:Nat):Int)≤0:=by omega
  have g13':Frm (fun x=>Y.F x∨x=H.rm∨x=H.hm∨x=H.b) w w3:=g13.mono (fun x hx=> .inr (hx.elim .inl (fun e=> .inr (.inl e))))
  have fin3:∀w',Ext w3 w'→K (.tuple #[]) w':=fun w' e=>fin w' f _ (FS.refl f) (g13'.ext e) (ar3.ext e) h.rg (m2'.ext e) (m3.ext e) (fun j hj=>by
   rw [getL_set]
   by_cases e:j=k
   ·subst e;rw [if_pos rfl,if_neg hz]
   ·have ne:¬((26+32*j:Nat):Int)=((26+32*k:Nat):Int):=by omega
    rw [if_neg ne,hL j hj,oth j hj e]) (fun j hj=>by
   rw [h.ho j hj]
   by_cases e:j=k
   ·subst e;rw [decide_eq_decide];omega
   ·rw [oth j hj e])
  simp (disch:=try exact dX) only [↓RBp,↓RA,↓reduceIte,Nat.reduceAdd,Nat.reduceMul,Nat.reduceEqDiff,RB,RX,RA2,q53,hlk3,hz']
  exact fin3 _ xZ
end
end Go.Proofs.YtmpehclnnjgmcaaGreatDoor
namespace Go.Sh
open Go
abbrev KD:=List Nat→KF
def mkD (r:Nat):Deferred:={target:= .collected r,args:= #[]}
def exM (id:Nat) (k:KD) (e:Nat→KD) (j:Nat):KD:=
 match Nat.beq j id with
 |true=>k
 |false=>e j
def jumpS (k r:World→Prop) (j:Option Code) (w:World):Prop:=
 match j with
 |none=>k w
 |some .ret=>r w
 |_=>False
def rsK (K:K1):List Nat→K1
 | []=>K
 |r::rs=>fun v w=>w.heap[r]? =some (.deferred (some []))∧∀w',Frm (fun x=>x=r) w w'→rsK K rs v w'
abbrev recL (fn:FuncId) (ps:Array Tmp) (a b:Code) (fr:Fr) (D:Nat) (st:LoopState) (pe:Option Code):Loop:={state:=st,pending:=pe,fn,tmps:=fr.toArray,params:=ps,assign:=a,body:=b,defers:=D}
def Lp (w:World) (l:Nat) (fn:FuncId) (ps:Array Tmp) (a b:Code) (fr:Fr) (D:Nat) (st:LoopState) (pe:Option Code):Prop:=w.heap[l]? =some (.loop (recL fn ps a b fr D st pe))
def rgT (P:Program) (gv:Value) (ps:Array Tmp) (a b:Code) (k r:List Nat→World→Prop) (rs:List Nat) (fr:Fr) (w:World):Prop:=
 match gv with
 | .func (.func f) fi cs=>enters P f=true∧∀fn w1,Ext w w1→w1.heap.size=w.heap.size+2→w1.heap[w.heap.size]? =some (.deferred (some []))→Lp w1 (w.heap.size+1) fn ps a b fr w.heap.size .ready none→
   callS P f (fi++ #[.func (.yield (w.heap.size+1)) #[] #[]]++cs) w1 fun _ w3=>∃st pe,st≠ .busy∧Lp w3 (w.heap.size+1) fn ps a b fr w.heap.size st pe∧∀w4,Frm (fun x=>x=w.heap.size+1) w3 w4→jumpS (k (w.heap.size::rs)) (r (w.heap.size::rs)) pe w4
 |_=>False
def codeR (P:Program):Dec→Code→KD→KD→(Nat→KD)→KD
 |_,.rangeFunc g ps a b,k,r,_=>fun rs fr w=>rgT P (evO fr g) ps a b (fun rs w=>k rs fr w) (fun rs w=>r rs fr w) rs fr w
 | .s da db,.seq a b,k,r,e=>codeR P da a (codeR P db b k r e) r e
 | .s da db,.cond x a b,k,r,e=>fun rs fr w=>cndS (evO fr x) (codeR P da a k r e rs fr w) (codeR P db b k r e rs fr w)
 | .b d,.block id c,k,r,e=>codeR P d c k r (exM id k e)
 |d,c,k,r,e=>fun rs fr w=>codeT P d c (k rs) (r rs) (fun j=>e j rs) fr w
def okR (P:Program) (nt m:Nat):Dec→Code→Bool
 |_,.rangeFunc _ _ _ _=>true
 | .s da db,.seq a b=>okR P nt m da a&&okR P nt m db b
 | .s da db,.cond _ a b=>okR P nt m da a&&okR P nt m db b
 | .b d,.block _ c=>okR P nt m d c
 |d,c=>codeOk P nt c&&(wrOk m c&&okT m d c)
theorem Frm.putObj {w:World} {r:Nat} (o:Obj):Frm (fun x=>x=r) w (w.putObj r o):=⟨rfl,rfl,rfl,by simp [World.putObj],fun k _ hn=>World.putObj_heap_other hn⟩
def resO (P:Program):List ResultVar→Fr→World→Option (List Value)
 | [],_,_=>some []
 | .tmp t::rs,fr,w=>(resO P rs fr w).map (fr.getD t undef::·)
 | .cell a t::rs,fr,w=>match ldO P t w (fr.getD a undef) with
  |some v=>(resO P rs fr w).map (v::·)
  |none=>none
theorem resV_O {P:Program} {w:World} {fr:Fr}:∀(rs:List ResultVar) (k:List Value→Prop),resV P rs fr w k↔∃vs,resO P rs fr w=some vs∧k vs:=by
 intro rs
 induction rs with
 |nil=>intro k;simp [resV,resO]
 |cons x rs ih=>
  intro k
  cases x with
  |tmp t=>simp only [resV,resO,ih];cases resO P rs fr w<;>simp
  |cell a t=>
   simp only [resV,resO,ldR,oE]
   cases ldO P t w (fr.getD a undef) with
   |none=>simp
   |some v=>simp only [ih];cases resO P rs fr w<;>simp
theorem cell_def {w w':World} {r:Nat} {ds:Option (List Deferred)} (h:w.heap[r]? =some (.deferred ds)) (f:Frm (fun x=>x=r) w w') {a:Addr} {v:Value} (hc:w.cell? a=some v):w'.cell? a=some v:=by
 have hne:a.block≠r:=fun e=>by unfold World.cell? at hc;rw [e,h] at hc;cases hc
 have hlt:a.block<w.heap.size:=by
  unfold World.cell? at hc
  cases hb:w.heap[a.block]? with
  |none=>rw [hb] at hc;cases hc
  |some x=>exact lt_of_heap hb
 unfold World.cell? at hc ⊢
 rw [f.block _ hlt hne];exact hc
theorem cells_def {w w':World} {r:Nat} {ds:Option (List Deferred)} (h:w.heap[r]? =some (.deferred ds)) (f:Frm (fun x=>x=r) w w') {b:Nat}:∀(n o:Nat) (l:List Value),cellsFrom w b o n=some l→cellsFrom w' b o n=some l:=by
 intro n
 induction n with
 |zero=>intro o l hl;exact hl
 |succ n ih=>
  intro o l hl
  unfold cellsFrom at hl ⊢
  cases hc:w.cell? ⟨b,o,none⟩ with
  |none=>rw [hc] at hl;cases hl
  |some v=>
   rw [hc] at hl
   rw [cell_def h f hc]
   cases hr:cellsFrom w b (o+1) n with
   |none=>simp only [hr] at hl;cases hl
   |some l2=>simp only [hr] at hl;simp only [ih _ _ hr];exact hl
theorem ldO_def {P:Program} {t:TypeId} {x:Value} {w w':World} {r:Nat} {ds:Option (List Deferred)} (h:w.heap[r]? =some (.deferred ds)) (f:Frm (fun x=>x=r) w w') {v:Value} (hv:ldO P t w x=some v):ldO P t w' x=some v:=by
 cases x with
 |pointer p=>
  cases p with
  |none=>cases hv
  |some a=>
   cases hi:isAggT P t with
   |none=>simp [ldO,hi] at hv
   |some g=>
    cases g with
    |false=>
     simp only [ldO,hi] at hv ⊢
     exact cell_def h f hv
    |true=>
     obtain ⟨b,o,s⟩:=a
     cases s with
     |some _=>simp [ldO,hi] at hv
     |none=>
      cases hn:szT P t with
      |none=>simp [ldO,hi,hn] at hv
      |some n=>
       simp only [ldO,hi,hn] at hv ⊢
       cases hc:cellsFrom w b o n with
       |none=>rw [hc] at hv;cases hv
       |some l=>rw [hc] at hv;rw [cells_def h f _ _ _ hc];exact hv
 |_=>cases hv
theorem resO_def {P:Program} {fr:Fr} {w w':World} {r:Nat} {ds:Option (List Deferred)} (h:w.heap[r]? =some (.deferred ds)) (f:Frm (fun x=>x=r) w w'):∀(rs:List ResultVar) (vs:List Value),resO P rs fr w=some vs→resO P rs fr w'=some vs:=by
 intro rs
 induction rs with
 |nil=>intro vs hv;exact hv
 |cons x rs ih=>
  intro vs hv
  cases x with
  |tmp t=>
   simp only [resO] at hv ⊢
   cases hc:resO P rs fr w with
   |none=>rw [hc] at hv;cases hv
   |some l=>rw [hc] at hv;rw [ih _ hc];exact hv
  |cell a t=>
   simp only [resO] at hv ⊢
   cases hl:ldO P t w (fr.getD a undef) with
   |none=>rw [hl] at hv;cases hv
   |some u=>
    rw [hl] at hv
    rw [ldO_def h f hl]
    cases hc:resO P rs fr w with
    |none=>simp only [hc] at hv;cases hv
    |some l=>simp only [hc] at hv;simp only [ih _ hc];exact hv
theorem leaves_end {P:Program} {fn:Func} {rv:List ResultVar} {K:K1} (hrv:fn.results=rv.toArray) {fr:Fr}:∀(rs:List Nat) (w:World),endK P rv (rsK K rs) fr w→LeavesInM (FW none) 0 P fn fr.toArray (retK K) (rs.map mkD) .returning w
 | [],w,h=>results_of_resV (ds:= []) hrv h
 |r::rs,w,h=>by
  obtain ⟨vs,h1,h2,h3⟩:=(resV_O _ _).1 h
  exact ⟨by simp,.inl ⟨r,_,rfl,run_takeDeferred h2,leaves_end hrv rs _ ((resV_O _ _).2 ⟨vs,resO_def h2 (Frm.putObj _) _ _ h1,h3 _ (Frm.putObj _)⟩)⟩⟩
theorem rgT_sound {P:Program} {g:Operand} {ps:Array Tmp} {a b:Code} {Q:Exit→Act→World→Prop} {k r:KD} {rs:List Nat} {fr:Fr} {w:World}
  (hk:∀rs w,k rs fr w→Q .normal (actOf (rs.map mkD) fr) w) (hr:∀rs w,r rs fr w→Q .ret (actOf (rs.map mkD) fr) w) (h:rgT P (evO fr g) ps a b (fun rs w=>k rs fr w) (fun rs w=>r rs fr w) rs fr w):(Code.rangeFunc g ps a b).wpIn (FW none) 0 P Q (actOf (rs.map mkD) fr) w:=by
 unfold rgT at h
 split at h
 ·rename_i f fi cs hg
  obtain ⟨hen,h⟩:=h
  refine wpIn_rangeFunc (fun fn _=> ?_)
  have hg':(actOf (rs.map mkD) fr).eval g= .func (.func f) fi cs:=by rw [eval_actOf,hg]
  refine ⟨w.heap.size+1,[mkD w.heap.size],((w.alloc (.deferred (some []))).alloc (.loop (recL fn ps a b fr w.heap.size .ready none))),{target:= .fn (.func f) cs,args:=fi++ #[.func (.yield (w.heap.size+1)) #[] #[]]},((w.alloc (.deferred (some []))).alloc (.loop (recL fn ps a b fr w.heap.size .ready none))),f,fi++ #[.func (.yield (w.heap.size+1)) #[] #[]]++cs,((w.alloc (.deferred (some []))).alloc (.loop (recL fn ps a b fr w.heap.size .ready none))),run_enterLoop_outer _ _ _ _ _,?_,fun _ _=>trivial,?_,fun h=>fwD h,?_⟩
  ·simp only [resolve,hg']
   simp [go_sem,Act.eval]
  ·simp only [invoke];exact run_callFunc hen _ _
  ·refine (callsIn_wide (n:=0)).2 (Calls.mono (h fn _ (Ext.alloc (Ext.alloc_self w _) _) (by simp) ?_ ?_) ?_)
   ·rw [heap_alloc_lt _ (by simp)];exact heap_alloc_eq w _
   ·have:=heap_alloc_eq (w.alloc (.deferred (some []))) (.loop (recL fn ps a b fr w.heap.size .ready none))
    rwa [World.size_alloc] at this
   ·intro en w3 hx
    cases en with
    |returned v=>
     obtain ⟨st,pe,hb,hl,hj⟩:=hx
     refine ⟨pe,_,run_endLoop hl hb,?_⟩
     have hj:=hj _ (Frm.putObj (Obj.loop {recL fn ps a b fr w.heap.size st pe with state:= .exhausted}))
     cases pe with
     |none=>exact hk (w.heap.size::rs) _ hj
     |some c=>
      cases c with
      |ret=>exact wpIn_ret (hr (w.heap.size::rs) _ hj)
      |_=>exact hj.elim
    |panicked c=>exact hx.elim
    |outgrown=>exact hx.elim
 ·exact h.elim
theorem codeR_sound {P:Program} {nt m:Nat} (hm:P.follows .mixedOrders=true):∀(d:Dec) (c:Code) {Q:Exit→Act→World→Prop} {k r:KD} {e:Nat→KD},okR P nt m d c=true→
  (∀rs fr w,fr.length=nt→k rs fr w→Q .normal (actOf (rs.map mkD) fr) w)→(∀rs fr w,fr.length=nt→r rs fr w→Q .ret (actOf (rs.map mkD) fr) w)→(∀j rs fr w,fr.length=nt→e j rs fr w→Q (.exit j) (actOf (rs.map mkD) fr) w)→
  ∀(rs:List Nat) (fr:Fr) (w:World),fr.length=nt→codeR P d c k r e rs fr w→c.wpIn (FW none) 0 P Q (actOf (rs.map mkD) fr) w:=by
 have dfl:∀(d:Dec) (c:Code) {Q:Exit→Act→World→Prop} {k r:KD} {e:Nat→KD},(codeOk P nt c&&(wrOk m c&&okT m d c))=true→
  (∀rs fr w,fr.length=nt→k rs fr w→Q .normal (actOf (rs.map mkD) fr) w)→(∀rs fr w,fr.length=nt→r rs fr w→Q .ret (actOf (rs.map mkD) fr) w)→(∀j rs fr w,fr.length=nt→e j rs fr w→Q (.exit j) (actOf (rs.map mkD) fr) w)→
  ∀(rs:List Nat) (fr:Fr) (w:World),fr.length=nt→codeT P d c (k rs) (r rs) (fun j=>e j rs) fr w→c.wpIn (FW none) 0 P Q (actOf (rs.map mkD) fr) w:=by
  intro d c Q k r e ho hk hr he rs fr w hl h
  simp only [Bool.and_eq_true] at ho
  exact codeS_sound hm c ho.1 (fun fr w=>hk rs fr w) (fun fr w=>hr rs fr w) (fun j fr w=>he j rs fr w) fr w hl (codeT_sound d c ho.2.2 ho.2.1 (fun _ _ _ h=>h) (fun _ _ _ h=>h) (fun _ _ _ _ h=>h) fr w (Same.refl _ _) h)
 have rg:∀(g:Operand) (ps:Array Tmp) (a b:Code) {Q:Exit→Act→World→Prop} {k r:KD} {e:Nat→KD},
  (∀rs fr w,fr.length=nt→k rs fr w→Q .normal (actOf (rs.map mkD) fr) w)→(∀rs fr w,fr.length=nt→r rs fr w→Q .ret (actOf (rs.map mkD) fr) w)→(∀j rs fr w,fr.length=nt→e j rs fr w→Q (.exit j) (actOf (rs.map mkD) fr) w)→
  ∀(rs:List Nat) (fr:Fr) (w:World),fr.length=nt→rgT P (evO fr g) ps a b (fun rs w=>k rs fr w) (fun rs w=>r rs fr w) rs fr w→(Code.rangeFunc g ps a b).wpIn (FW none) 0 P Q (actOf (rs.map mkD) fr) w:=by
  intro g ps a b Q k r e hk hr he rs fr w hl h
  exact rgT_sound (fun rs w=>hk rs fr w hl) (fun rs w=>hr rs fr w hl) h
 intro d
 induction d with
 |s da db iha ihb=>
  intro c Q k r e ho hk hr he rs fr w hl h
  cases c
  case rangeFunc=>exact rg _ _ _ _ hk hr he rs fr w hl h
  case seq a b=>
   simp only [okR,Bool.and_eq_true] at ho
   refine wpIn_seq (iha a ho.1 ?_ ?_ ?_ rs fr w hl h)
   ·intro rs fr w hl h;exact ihb b ho.2 hk hr he rs fr w hl h
   ·intro rs fr w hl h;exact hr rs fr w hl h
   ·intro j rs fr w hl h;exact he j rs fr w hl h
  case cond x a b=>
   simp only [okR,Bool.and_eq_true] at ho
   simp only [codeR,cndS] at h
   have hc:(actOf (rs.map mkD) fr).eval x=evO fr x:=by rw [eval_actOf]
   split at h
   ·rename_i hx;exact wpIn_cond_true (by rw [hc,hx]) (iha a ho.1 hk hr he rs fr w hl h)
   ·rename_i hx;exact wpIn_cond_false (by rw [hc,hx]) (ihb b ho.2 hk hr he rs fr w hl h)
   ·exact h.elim
  all_goals exact dfl _ _ ho hk hr he rs fr w hl h
 |b d ih=>
  intro c Q k r e ho hk hr he rs fr w hl h
  cases c
  case rangeFunc=>exact rg _ _ _ _ hk hr he rs fr w hl h
  case block id c=>
   refine wpIn_block (ih c ho ?_ ?_ ?_ rs fr w hl h)
   ·intro rs fr w hl h;exact hk rs fr w hl h
   ·intro rs fr w hl h;exact hr rs fr w hl h
   ·intro j rs fr w hl h
    unfold exM at h
    simp only [Exit.inBlock]
    cases hj:Nat.beq j id with
    |true=>rw [hj] at h;rw [if_pos (Nat.eq_of_beq_eq_true hj)];exact hk rs fr w hl h
    |false=>rw [hj] at h;rw [if_neg (Nat.ne_of_beq_eq_false hj)];exact he j rs fr w hl h
  all_goals exact dfl _ _ ho hk hr he rs fr w hl h
 |o=>
  intro c Q k r e ho hk hr he rs fr w hl h
  cases c
  case rangeFunc=>exact rg _ _ _ _ hk hr he rs fr w hl h
  all_goals exact dfl _ _ ho hk hr he rs fr w hl h
 |_=>
  intro c Q k r e ho hk hr he rs fr w hl h
  cases c
  case rangeFunc=>exact rg _ _ _ _ hk hr he rs fr w hl h
  all_goals exact dfl _ _ ho hk hr he rs fr w hl h
def txtR (P:Program) (fn:Func) (d:Dec) (args:List Value) (K:K1) (w:World):Prop:=
 match fn.body with
 |some c=>codeR P d c (fun rs=>endK P fn.results.toList (rsK K rs)) (fun rs=>endK P fn.results.toList (rsK K rs)) (fun _ _ _ _=>False) [] (args++List.replicate (fn.ntmps-args.length) undef) w
 |none=>False
def okG (P:Program) (fn:Func) (d:Dec) (args:List Value):Bool:=
 match fn.body with
 |some c=>Nat.ble args.length fn.ntmps&&okR P fn.ntmps (2^fn.ntmps-1) d c
 |none=>false
theorem call_of_txtR {P:Program} (hm:P.follows .mixedOrders=true) {f:FuncId} {fn:Func} (hf:P.funcs[f]? =some fn) (d:Dec) {args:List Value} {w:World} {K:K1} (hok:okG P fn d args=true) (h:txtR P fn d args K w):callS P f args.toArray w K:=by
 unfold okG at hok
 unfold txtR at h
 cases hb:fn.body with
 |none=>rw [hb] at h;exact h.elim
 |some c=>
  rw [hb] at h hok
  simp only [Bool.and_eq_true] at hok
  have hl:=Nat.le_of_ble_eq_true hok.1
  refine (callsIn_wide (n:=0)).1 (callsIn_of_wp_marks (F:=FW none) hf hb trivial ?_)
  have e:({tmps:=args.toArray++Array.replicate (fn.ntmps-args.toArray.size) undef,defers:= []}:Act)=actOf ([].map mkD) (args++List.replicate (fn.ntmps-args.length) undef):=by
   simp [actOf]
  rw [e]
  refine codeR_sound hm d c hok.2 ?_ ?_ ?_ [] _ w (by simp;omega) h
  ·intro rs fr w _ h;exact leaves_end (by simp) rs w h
  ·intro rs fr w _ h;exact leaves_end (by simp) rs w h
  ·intro j rs fr w _ h;exact h.elim
def begS (l:Nat) (fn:FuncId) (p:Tmp) (a b:Code) (fr:Fr) (D:Nat) (k:World→Prop) (w1:World):Prop:=Lp w1 l fn #[p] a b fr D .ready none∧∀w2,Frm (fun y=>y=l) w1 w2→Lp w2 l fn #[p] a b fr D .busy none→k w2
def finS (l:Nat) (fn:FuncId) (p:Tmp) (a b:Code) (fr:Fr) (D:Nat) (st:LoopState) (pe:Option Code) (v:Bool) (k:K1) (w3:World):Prop:=Lp w3 l fn #[p] a b fr D .busy none∧∀w4,Frm (fun y=>y=l) w3 w4→Lp w4 l fn #[p] a b fr D st pe→k (.bool v) w4
def rndS (P:Program) (p:Tmp) (a b:Code) (fr:Fr) (x:Value) (B:(World→Prop)→World→Prop) (N R:World→Prop) (w:World):Prop:=
 codeS P a (fun fr' w1=>B (fun w2=>codeS P b (fun _ w3=>N w3) (fun _ w3=>R w3) nX fr' w2) w1) (fun _ _=>False) nX (put fr (some p) x) w
theorem Lp.put {w:World} {l:Nat} {fn:FuncId} {ps:Array Tmp} {a b:Code} {fr:Fr} {D:Nat} {st st':LoopState} {pe pe':Option Code} (h:Lp w l fn ps a b fr D st pe):Lp (w.putObj l (.loop (recL fn ps a b fr D st' pe'))) l fn ps a b fr D st' pe':=World.putObj_heap_same (lt_of_heap h)
theorem Lp.frm {G:Nat→Prop} {w w':World} {l:Nat} {fn:FuncId} {ps:Array Tmp} {a b:Code} {fr:Fr} {D:Nat} {st:LoopState} {pe:Option Code} (h:Lp w l fn ps a b fr D st pe) (g:Frm G w w') (hG:¬G l):Lp w' l fn ps a b fr D st pe:=(g.block l (lt_of_heap h) hG).trans h
theorem Lp.ext {w w':World} {l:Nat} {fn:FuncId} {ps:Array Tmp} {a b:Code} {fr:Fr} {D:Nat} {st:LoopState} {pe:Option Code} (h:Lp w l fn ps a b fr D st pe) (e:Ext w w'):Lp w' l fn ps a b fr D st pe:=Lp.frm (G:=fun _=>False) h (Frm.of_ext e) (fun h=>h)
theorem yield_rnd {P:Program} (hm:P.follows .mixedOrders=true) {l:Nat} {fn:FuncId} {p:Tmp} {a b:Code} {fr:Fr} {D:Nat} {x:Value} {w:World} {k:K1} (hL:Lp w l fn #[p] a b fr D .ready none)
  (hok:(codeOk P fr.length a&&codeOk P fr.length b)=true) (h:rndS P p a b fr x (begS l fn p a b fr D) (finS l fn p a b fr D .ready none true k) (finS l fn p a b fr D .done (some .ret) false k) w):dynS P (.func (.yield l) #[] #[]) #[x] w k:=by
 simp only [Bool.and_eq_true] at hok
 have hy:((do let d ←Deferred.ofValue (.func (.yield l) #[] #[]) #[x];invoke d.target d.args:Sem Next)).run P w= .ok (.round l fn (fr.toArray.setIfInBounds p x) a b) w:=by
  simp [Deferred.ofValue,invoke,Instr.yield,Sem.run_bind,run_getLoop hL,Result.andThen]
 unfold dynS
 rw [hy]
 show RoundIn Fence.wide 0 P l fn _ a b w (retK k)
 refine roundIn_of_wpIn (F:=Fence.wide) trivial ?_
 have e:({tmps:=fr.toArray.setIfInBounds p x,defers:= []}:Act)=actOf [] (put fr (some p) x):=by simp [actOf,Go.Sh.put]
 rw [e]
 refine codeS_sound (ro:=some l) (nt:=fr.length) hm a hok.1 ?_ ?_ ?_ _ w (length_put _ _ _) h
 ·intro fr' w1 hl h
  refine ⟨_,run_beginRound h.1 rfl,?_⟩
  have h:=h.2 _ (Frm.putObj _) h.1.put
  refine codeS_sound (ro:=some l) (ds:= []) (nt:=fr.length) hm b hok.2 ?_ ?_ ?_ fr' _ hl h
  ·intro fr3 w3 _ h
   exact ⟨_,_,run_endRound none h.1,h.2 _ (Frm.putObj _) h.1.put⟩
  ·intro fr3 w3 _ h
   exact ⟨_,_,run_endRound (some .ret) h.1,h.2 _ (Frm.putObj _) h.1.put⟩
  ·intro j fr3 w3 _ h;exact h.elim
 ·intro fr' w1 _ h;exact h.elim
 ·intro j fr' w1 _ h;exact h.elim
def ra (u:Code×Dec):Code:=match u.1 with
 | .rangeFunc _ _ a _=>a
 |_=> .skip
def rb (u:Code×Dec):Code:=match u.1 with
 | .rangeFunc _ _ _ b=>b
 |_=> .skip
theorem dyn_func {P:Program} {f:FuncId} {fi cs args:Array Value} {w:World} {k:K1} (he:enters P f=true):dynS P (.func (.func f) fi cs) args w k=callS P f (fi++args++cs) w k:=by
 have h:((do let d ←Deferred.ofValue (.func (.func f) fi cs) args;invoke d.target d.args:Sem Next)).run P w= .ok (.enter f (fi++args++cs)) w:=by
  simp [Deferred.ofValue,invoke,run_callFunc he]
 unfold dynS
 rw [h]
 rfl
end Go.Sh
namespace Go.Proofs.YtmpehclnnjgmcaaGreatDoor
open Go Go.Sh
noncomputable def f39_u:Code×Dec:=((Tryz.f39.body).getD .skip,(.s .o (.s .o (.s .o (.s (.s .o (.b .o)) .o)))))
noncomputable def f39_r1_a:Code:=ra (pl (pr (pl (pr (pr (pr f39_u))))))
noncomputable def f39_r1_b:Code:=rb (pl (pr (pl (pr (pr (pr f39_u))))))
def f39_r1_f (x0 x1 x2 x3 x7 x8 x10 x11 x12 x13 x14 x15 x16 x17 x18 x19 x20 x21 x22 x23:Value):Fr:=fz 43 0 [(0,x0),(1,x1),(2,x2),(3,x3),(7,x7),(8,x8),(10,x10),(11,x11),(12,x12),(13,x13),(14,x14),(15,x15),(16,x16),(17,x17),(18,x18),(19,x19),(20,x20),(21,x21),(22,x22),(23,x23)]
def f39_t (x0:Value) (K:K1) (w:World):Prop:=
 ev prog (Instr.box 33 x0) w fun a w=>
 ev prog (Instr.alloc 73 true (.tuple #[])) w fun b w=>
 lD 33 a w fun c w=>
 bM .eql 33 (.tmp 7) (.const (.pointer none)) c (.pointer none) w fun d w=>
 cndS d (
 ev prog (Instr.build 73 #[]) w fun e w=>
 sD 73 b e w fun w=>
 lR 73 b w fun r=>
 K r w) (
 lR 33 a w.drew fun f=>
 nR f w.drew fun g=>
 fR 112 g 3 w.drew fun h=>
 lR 107 h w.drew fun i=>
 lR 33 a w.drew fun j=>
 nR j w.drew fun l=>
 fR 112 l 3 w.drew fun m=>
 lR 107 m w.drew fun n=>
 (cL 91 (pA #[i]) w.drew fun o w=>
 (lG 33 a w j)∧
 (nilR prog j w (fun u=>u=l))∧
 (fG 112 l 3 w m)∧
 (lG 107 m w n)∧
 rd prog (Builtin.len_ #[50] 3 #[o]) w fun p=>
 (cL 92 (pA #[n]) w fun q w=>
 (ag prog (Builtin.len_ #[50] 3 #[o]) w p)∧
 rd prog (Instr.build 73 #[(0,p),(1,q)]) w fun s=>
 ev prog (Instr.alloc 73 true (.tuple #[])) w fun t w=>
 (lG 33 a w f)∧
 (nilR prog f w (fun u=>u=g))∧
 (fG 112 g 3 w h)∧
 (lG 107 h w i)∧
 (ag prog (Builtin.len_ #[50] 3 #[o]) w p)∧
 (lG 33 a w j)∧
 (nilR prog j w (fun u=>u=l))∧
 (fG 112 l 3 w m)∧
 (lG 107 m w n)∧
 (ag prog (Instr.build 73 #[(0,p),(1,q)]) w s)∧
 sD 73 t s w fun w=>
 lD 33 a w fun v w=>
 cL 80 (pA #[v]) w fun y w=>
 rgT prog y #[24] f39_r1_a f39_r1_b (fun rs w=>(fun (K:K1)=>
 lD 73 t w fun z w=>
 sD 73 b z w fun w=>
 lR 73 b w fun r_1=>
 K r_1 w) (rsK K rs)) (fun rs w=>(fun (K:K1)=>
 lR 73 b w fun r_2=>
 K r_2 w) (rsK K rs)) [] (f39_r1_f x0 a b t c d f g h i o p j l m n q s v y) w)∧
 (ev prog (Instr.alloc 73 true (.tuple #[])) w fun a0 w=>
 (lG 33 a w f)∧
 (nilR prog f w (fun u=>u=g))∧
 (fG 112 g 3 w h)∧
 (lG 107 h w i)∧
 (ag prog (Builtin.len_ #[50] 3 #[o]) w p)∧
 (lG 33 a w j)∧
 (nilR prog j w (fun u=>u=l))∧
 (fG 112 l 3 w m)∧
 (lG 107 m w n)∧
 cL 92 (pA #[n]) w fun a1 w=>
 (ag prog (Builtin.len_ #[50] 3 #[o]) w p)∧
 rd prog (Instr.build 73 #[(0,p),(1,a1)]) w fun a2=>
 sD 73 a0 a2 w fun w=>
 lD 33 a w fun a3 w=>
 cL 80 (pA #[a3]) w fun a4 w=>
 rgT prog a4 #[24] f39_r1_a f39_r1_b (fun rs w=>(fun (K:K1)=>
 lD 73 a0 w fun a5 w=>
 sD 73 b a5 w fun w=>
 lR 73 b w fun r_3=>
 K r_3 w) (rsK K rs)) (fun rs w=>(fun (K:K1)=>
 lR 73 b w fun r_4=>
 K r_4 w) (rsK K rs)) [] (f39_r1_f x0 a b a0 c d f g h i o p j l m n a1 a2 a3 a4) w))∧
 (ev prog (Instr.alloc 73 true (.tuple #[])) w.drew fun a6 w=>
 (lG 33 a w f)∧
 (nilR prog f w (fun u=>u=g))∧
 (fG 112 g 3 w h)∧
 (lG 107 h w i)∧
 (lG 33 a w j)∧
 (nilR prog j w (fun u=>u=l))∧
 (fG 112 l 3 w m)∧
 (lG 107 m w n)∧
 cL 91 (pA #[i]) w fun a7 w=>
 (lG 33 a w j)∧
 (nilR prog j w (fun u=>u=l))∧
 (fG 112 l 3 w m)∧
 (lG 107 m w n)∧
 rd prog (Builtin.len_ #[50] 3 #[a7]) w fun a8=>
 cL 92 (pA #[n]) w fun a9 w=>
 (ag prog (Builtin.len_ #[50] 3 #[a7]) w a8)∧
 rd prog (Instr.build 73 #[(0,a8),(1,a9)]) w fun b0=>
 sD 73 a6 b0 w fun w=>
 lD 33 a w fun b1 w=>
 cL 80 (pA #[b1]) w fun b2 w=>
 rgT prog b2 #[24] f39_r1_a f39_r1_b (fun rs w=>(fun (K:K1)=>
 lD 73 a6 w fun b3 w=>
 sD 73 b b3 w fun w=>
 lR 73 b w fun r_5=>
 K r_5 w) (rsK K rs)) (fun rs w=>(fun (K:K1)=>
 lR 73 b w fun r_6=>
 K r_6 w) (rsK K rs)) [] (f39_r1_f x0 a b a6 c d f g h i a7 a8 j l m n a9 b0 b1 b2) w))
theorem f39_call (x0:Value) (K:K1) (w:World) (h:f39_t x0 K w):callS prog 39 #[x0] w K:=
 call_of_txtR (args:= [x0]) mixed Tryz.func39 f39_u.2 kR (cast kR h)
def f39_r1_t (x1 x3:Value) (x:Value) (B:(World→Prop)→World→Prop) (N R:World→Prop) (w:World):Prop:=
 B (fun w=>
 lD 33 x1 w fun a w=>
 cL 29 (pA #[a,x]) w fun b w=>
 eX b 0 w fun c w=>
 eX b 1 w fun d w=>
 bC .eql 28 31 0 d w fun e w=>
 cndS e (
 fA 73 x3 2 w fun f w=>
 lD 3 f w fun g w=>
 bC .add 3 34 1 g w fun h w=>
 fA 73 x3 2 w fun i w=>
 sD 3 i h w fun w=>
 fA 73 x3 3 w fun j w=>
 lD 3 j w fun l w=>
 bT .add 3 38 39 l c w fun m w=>
 fA 73 x3 3 w fun n w=>
 sD 3 n m w fun w=>
 N w) (
 N w)) w
theorem f39_r1_y {l:Nat} {fn:FuncId} {D:Nat} {x:Value} {w:World} {k:K1} {x0 x1 x2 x3 x7 x8 x10 x11 x12 x13 x14 x15 x16 x17 x18 x19 x20 x21 x22 x23:Value} (hL:Lp w l fn #[24] f39_r1_a f39_r1_b (f39_r1_f x0 x1 x2 x3 x7 x8 x10 x11 x12 x13 x14 x15 x16 x17 x18 x19 x20 x21 x22 x23) D .ready none) (h:f39_r1_t x1 x3 x (begS l fn 24 f39_r1_a f39_r1_b (f39_r1_f x0 x1 x2 x3 x7 x8 x10 x11 x12 x13 x14 x15 x16 x17 x18 x19 x20 x21 x22 x23) D) (finS l fn 24 f39_r1_a f39_r1_b (f39_r1_f x0 x1 x2 x3 x7 x8 x10 x11 x12 x13 x14 x15 x16 x17 x18 x19 x20 x21 x22 x23) D .ready none true k) (finS l fn 24 f39_r1_a f39_r1_b (f39_r1_f x0 x1 x2 x3 x7 x8 x10 x11 x12 x13 x14 x15 x16 x17 x18 x19 x20 x21 x22 x23) D .done (some .ret) false k) w):dynS prog (.func (.yield l) #[] #[]) #[x] w k:=
 yield_rnd mixed hL kR (cast kR h)
noncomputable def f178_u:Code×Dec:=((Tryz.f178.body).getD .skip,(.s .o (.s (.s .o (.b .o)) .o)))
noncomputable def f178_r1_a:Code:=ra (pl (pr (pl (pr f178_u))))
noncomputable def f178_r1_b:Code:=rb (pl (pr (pl (pr f178_u))))
def f178_r1_f (x0 x1 x2 x4 x6:Value):Fr:=fz 13 0 [(0,x0),(1,x1),(2,x2),(4,x4),(6,x6)]
def f178_t (x0 x1:Value) (K:K1) (w:World):Prop:=
 ev prog (Instr.box 50 x0) w fun a w=>
 rgT prog x1 #[7] f178_r1_a f178_r1_b (fun rs w=>(fun (K:K1)=>
 lD 50 a w fun b w=>
 K b w) (rsK K rs)) (fun rs w=>(fun (K:K1)=>
 K (.slice none 0 0) w) (rsK K rs)) [] (f178_r1_f x0 x1 a (.slice none 0 0) x1) w
theorem f178_call (x0 x1:Value) (K:K1) (w:World) (h:f178_t x0 x1 K w):callS prog 178 #[x0,x1] w K:=
 call_of_txtR (args:= [x0,x1]) mixed Tryz.func178 f178_u.2 kR (cast kR h)
def f178_r1_t (x2:Value) (x:Value) (B:(World→Prop)→World→Prop) (N R:World→Prop) (w:World):Prop:=
 B (fun w=>
 lD 50 x2 w fun a w=>
 ev prog (Instr.buildSlice 50 1 #[(0,x)]) w fun b w=>
 bltS prog .append #[50,50] 50 #[false,false] (pA #[a,b]) w fun c w=>
 sD 50 x2 c w fun w=>
 N w) w
theorem f178_r1_y {l:Nat} {fn:FuncId} {D:Nat} {x:Value} {w:World} {k:K1} {x0 x1 x2 x4 x6:Value} (hL:Lp w l fn #[7] f178_r1_a f178_r1_b (f178_r1_f x0 x1 x2 x4 x6) D .ready none) (h:f178_r1_t x2 x (begS l fn 7 f178_r1_a f178_r1_b (f178_r1_f x0 x1 x2 x4 x6) D) (finS l fn 7 f178_r1_a f178_r1_b (f178_r1_f x0 x1 x2 x4 x6) D .ready none true k) (finS l fn 7 f178_r1_a f178_r1_b (f178_r1_f x0 x1 x2 x4 x6) D .done (some .ret) false k) w):dynS prog (.func (.yield l) #[] #[]) #[x] w k:=
 yield_rnd mixed hL kR (cast kR h)
end Go.Proofs.YtmpehclnnjgmcaaGreatDoor
namespace Go.Sh
open Go
def MapIt (kk:IntKind) (w:World) (r m:Nat) (L S:KVL):Prop:=∃es clock seen,w.heap[m]? =some (.map es clock)∧MapKept.Stamped es clock∧es.toList.map (fun x=>(x.key,x.val))=L.map (kvV kk)∧w.heap[r]? =some (.mapIter (some m) clock seen clock)∧(leftOf es seen).toList.map (fun x=>(x.key,x.val))=S.map (kvV kk)
section
variable {P:Program} {kk:IntKind} {w w':World} {r m:Nat} {L S:KVL} {z:Value} {t:TypeId}
theorem MapIt.lt (h:MapIt kk w r m L S):r<w.heap.size∧m<w.heap.size∧r≠m:=by
 obtain ⟨es,clock,seen,a,_,_,b,_⟩:=h
 refine ⟨lt_of_heap b,lt_of_heap a,fun e=> ?_⟩
 rw [e,a] at b;cases b
theorem MapIt.map (h:MapIt kk w r m L S):MapK kk w m L:=by
 obtain ⟨es,clock,seen,a,b,c,_⟩:=h
 exact ⟨es,clock,a,b,c⟩
theorem MapIt.frm {F:Nat→Prop} (h:MapIt kk w r m L S) (e:Frm F w w') (hr:¬F r) (hm:¬F m):MapIt kk w' r m L S:=by
 have hl:=h.lt
 obtain ⟨es,clock,seen,a,b,c,d,f⟩:=h
 exact ⟨es,clock,seen,(e.block m hl.2.1 hm).trans a,b,c,(e.block r hl.1 hr).trans d,f⟩
theorem ev_rangeK (hT:MapT P kk t z) (h:MapK kk w m L) {K:K1} (hK:∀w',Ext w w'→MapIt kk w' w.heap.size m L L→K (.pointer (some ⟨w.heap.size,0,none⟩)) w'):ev P (Instr.range t (.map (some m))) w K:=by
 obtain ⟨kt,et,ht,_,_⟩:=hT
 obtain ⟨es,clock,a,b,c⟩:=h
 unfold ev
 rw [run_range_map w t kt et m es clock ht a]
 refine hK _ (Ext.alloc_self _ _) ⟨es,clock,#[],?_,b,c,heap_alloc_eq _ _,?_⟩
 ·rw [heap_alloc_lt _ (lt_of_heap a)];exact a
 ·have e:leftOf es #[]=es:=by
   unfold leftOf
   rw [Array.filter_eq_self]
   simp
  rw [←c,e]
theorem filter_born {l:List MapEntry} (hn:(l.map (·.born)).Nodup) {A B:List MapEntry} {e:MapEntry} (h:l=A++e::B):l.filter (fun x=> !(x.born==e.born))=A++B:=by
 subst h
 rw [List.map_append,List.map_cons,List.nodup_append,List.nodup_cons] at hn
 obtain ⟨_,⟨h2,_⟩,h3⟩:=hn
 rw [List.filter_append,List.filter_cons]
 have e1:A.filter (fun x=> !(x.born==e.born))=A:=List.filter_eq_self.2 fun x hx=>by
  have:=h3 x.born (List.mem_map.2 ⟨x,hx,rfl⟩) e.born List.mem_cons_self
  simp [this]
 have e2:B.filter (fun x=> !(x.born==e.born))=B:=List.filter_eq_self.2 fun x hx=>by
  have:x.born≠e.born:=fun q=>h2 (q▸List.mem_map.2 ⟨x,hx,rfl⟩)
  simp [this]
 rw [e1,e2];simp
theorem ev_nextK (h:MapIt kk w r m L S) (ty:TypeId) {K:K1} (h0:S= []→K (.tuple #[.bool false]) w)
  (h1:∀p S1 S2,S=S1++p::S2→∀w',Frm (fun x=>x=r) w w'→MapIt kk w' r m L (S1++S2)→(∀K:K1,ev P (Instr.entry (.pointer (some ⟨r,0,none⟩))) w' K=K (.tuple #[.int kk p.1,p.2]) w')→K (.tuple #[.bool true,.int kk p.1,p.2]) w'):ev P (Instr.next (.pointer (some ⟨r,0,none⟩)) false ty) w K:=by
 have hl:=h.lt
 obtain ⟨es,clock,seen,a,b,c,d,f⟩:=h
 have st:=(MapKept.stamped_iff es clock).1 b
 rcases run_next_at (P:=P) w ty r m clock clock seen es clock d a st.1 (Nat.le_refl _) with ⟨g0,g⟩|⟨e,he,w1,hw,g⟩
 ·unfold ev
  rw [g]
  refine h0 ?_
  have:(leftOf es seen).toList= []:=List.eq_nil_of_length_eq_zero (by simpa using g0)
  rw [this] at f
  exact (List.map_eq_nil_iff.1 f.symm)
 ·unfold ev
  rw [g]
  obtain ⟨A,B,hAB⟩:=List.append_of_mem he
  rw [hAB,List.map_append,List.map_cons] at f
  obtain ⟨S1,S',hS,e1,e2⟩:=List.map_eq_append_iff.1 f.symm
  obtain ⟨p,S2,hp,e3,e4⟩:=List.map_eq_cons_iff.1 e2
  subst hp
  have hk:e.key= .int kk p.1∧e.val=p.2:=by
   unfold kvV at e3
   injection e3 with x y
   exact ⟨x.symm,y.symm⟩
  rw [hk.1,hk.2]
  have hw1:w1.heap=w.heap:=by rcases hw with rfl|rfl<;>rfl
  have hs:(ChangeMaps.setBlock w1 r (.mapIter (some m) clock (seen.push e.born) clock)).heap=w.heap.setIfInBounds r (.mapIter (some m) clock (seen.push e.born) clock):=by
   show w1.heap.setIfInBounds _ _=_;rw [hw1]
  have hr2:(ChangeMaps.setBlock w1 r (.mapIter (some m) clock (seen.push e.born) clock)).heap[r]? =some (.mapIter (some m) clock (seen.push e.born) clock):=by
   rw [hs,Array.getElem?_setIfInBounds_self_of_lt hl.1]
  have hm2:(ChangeMaps.setBlock w1 r (.mapIter (some m) clock (seen.push e.born) clock)).heap[m]? =some (.map es clock):=by
   rw [hs,Array.getElem?_setIfInBounds_ne hl.2.2];exact a
  refine h1 p S1 S2 hS _ ⟨?_,?_,?_,by rw [hs];simp,fun k hk' hne=>by rw [hs,Array.getElem?_setIfInBounds_ne (fun q=>hne q.symm)]⟩ ⟨es,clock,seen.push e.born,hm2,b,c,hr2,?_⟩ ?_
  ·rcases hw with rfl|rfl<;>rfl
  ·rcases hw with rfl|rfl<;>rfl
  ·rcases hw with rfl|rfl<;>rfl
  ·have hn:((leftOf es seen).toList.map (·.born)).Nodup:=by
    refine List.Nodup.sublist (List.Sublist.map _ ?_) st.2.1
    unfold leftOf
    rw [Array.toList_filter]
    exact List.filter_sublist
   have hf:(leftOf es (seen.push e.born)).toList=(leftOf es seen).toList.filter (fun x=> !(x.born==e.born)):=by
    unfold leftOf
    rw [Array.toList_filter,Array.toList_filter,List.filter_filter]
    refine List.filter_congr fun x _=> ?_
    rw [contains_push]
    cases seen.contains x.born<;>cases (x.born==e.born)<;>rfl
   rw [hf,filter_born hn hAB,List.map_append,List.map_append,e1,e4]
  ·intro K'
   unfold ev
   rw [run_entry_at _ r m clock seen es clock e hr2 hm2 (mem_left he).1 st.2.1,hk.1,hk.2]
end
end Go.Sh
namespace Go.Proofs.YtmpehclnnjgmcaaGreatDoor
open Go Go.Sh
section
variable {w w':World} {r m b:Nat} {L S:KVL} {kk:IntKind}
def lfM (w:World) (m r:Nat):Nat:=
 match w.heap[m]?,w.heap[r]? with
 |some (.map es _),some (.mapIter _ _ seen _)=>(leftOf es seen).size
 |_,_=>0
theorem mit_left (h:MapIt kk w r m L S):lfM w m r=S.length:=by
 obtain ⟨es,clock,seen,a,_,_,d,f⟩:=h
 have:=congrArg List.length f
 simp only [List.length_map] at this
 simp only [lfM,a,d]
 simpa using this
theorem mTc:MapT prog .i64 159 (.pointer none):=⟨3,160,by kernel_rfl,by kernel_rfl,by kernel_rfl⟩
theorem k_Keys1 {y:Value} (hm:MapK .i64 w m L) (hb:Cells w b 159 1 (fun _=> .map (some m))) (J:Nat→List Int→World→Prop)
  (h0:∀r w1,w.heap.size≤r→r<w1.heap.size→Ext w w1→J r [] w1)
  (hE:∀r s w1 w2,w.heap.size≤r→J r s w1→Frm (fun x=>x=r) w1 w2→J r s w2)
  (hy:∀r s x w1 (K':K1),w.heap.size≤r→r<w1.heap.size→J r s w1→x∈L.map (·.1)→s.length<L.length→(∀w2 G,Frm G w1 w2→¬G r→¬G m→¬G b→J r (s++ [x]) w2→K' (.bool true) w2)→dynS prog y #[.int .i64 x] w1 K')
  (K:K1) (hK:∀r s w',s.Perm (L.map (·.1))→w.heap.size≤r→J r s w'→K (.tuple #[]) w'):
  callS prog 142 #[y,.pointer (some ⟨b,0,none⟩)] w K:=by
 have hbc:w.cell? ⟨b,0,none⟩=some (.map (some m)):=hb.cell (i:=0) oM
 have ltb:=hb.lt
 refine f142_call _ _ _ _ ?_
 unfold f142_t
 simp (disch:=try exact dZ) only [↓RBp,↓RA,↓reduceIte,Nat.reduceAdd,Nat.reduceMul,Nat.reduceEqDiff,RB,RX,RA2,hbc]
 refine ev_rangeK mTc hm (fun w1 e1 it1=> ?_)
 refine f142_l1_rule _ _ _ _ (fun w2=>∃s S,MapIt .i64 w2 w.heap.size m L S∧(s++S.map (·.1)).Perm (L.map (·.1))∧J w.heap.size s w2) (fun w2=>lfM w2 m w.heap.size) ⟨[],L,it1,by simp,h0 _ _ (Nat.le_refl _) it1.lt.1 e1⟩ ?_
 intros
 rename_i w2 hI E1 hE1
 obtain ⟨s,S,it,pm,hj⟩:=hI
 have hlt:=it.lt
 unfold f142_l1_t
 refine ev_nextK it _ (fun hS=> ?_) (fun p S1 S2 hS w3 g3 it3 hen=> ?_)
 ·subst hS
  simp (disch:=try exact dZ) only [↓RBp,↓RA,↓reduceIte,Nat.reduceAdd,Nat.reduceMul,Nat.reduceEqDiff,RB,RX,RA2]
  refine hK _ s _ (by simpa using pm) (Nat.le_refl _) hj
 ·have hj3:=hE _ _ _ _ (Nat.le_refl _) hj g3
  have lt3:=it3.lt
  have hsl:s.length<L.length:=by
   have:=pm.length_eq
   rw [hS] at this;simp at this;omega
  have hx:p.1∈L.map (·.1):=by
   refine pm.subset ?_
   rw [hS];simp
  simp (disch:=try exact dZ) only [↓RBp,↓RA,↓reduceIte,Nat.reduceAdd,Nat.reduceMul,Nat.reduceEqDiff,RB,RX,RA2,hen]
  refine hy _ s p.1 _ _ (Nat.le_refl _) lt3.1 hj3 hx hsl (fun w4 G g4 n1 n2 _ hj4=> ?_)
  have it4:=it3.frm g4 n1 n2
  simp (disch:=try exact dZ) only [↓RBp,↓RA,↓reduceIte,Nat.reduceAdd,Nat.reduceMul,Nat.reduceEqDiff,RB,RX,RA2]
  refine hE1 _ ⟨s++ [p.1],S1++S2,it4,?_,hj4⟩ ?_
  ·refine List.Perm.trans ?_ pm
   rw [hS]
   simp only [List.map_append,List.map_cons,List.append_assoc,List.singleton_append]
   refine List.Perm.append_left s ?_
   exact List.perm_middle.symm
  ·rw [mit_left it4,mit_left it,hS]
   simp
theorem ext_frm {G:Nat→Prop} {a b c:World} (e:Ext a b) (g:Frm G b c) (h:∀x,G x→a.heap.size≤x):Ext a c:=Frm.to_ext (F:=fun x=>a.heap.size≤x) ((Frm.of_ext e).trans g (fun x _ hg=>h x hg)) (fun x hx hg=>by omega)
theorem k_AppSeq (hm:MapK .i64 w m L) (hb:Cells w b 159 1 (fun _=> .map (some m))) (hL:L.length<1000000) (K:K1)
  (hK:∀s v w',s.Perm (L.map (·.1))→Ext w w'→NewV w.heap.size v→SlO w' 3 1 v s.length (i64L s)→K v w'):
  callS prog 178 #[.slice none 0 0,.func (.func 142) #[] #[.pointer (some ⟨b,0,none⟩)]] w K:=by
 have hml:=hm.lt
 have hbl:=hb.lt
 refine f178_call _ _ _ _ ?_
 unfold f178_t
 simp (disch:=try exact dZ) only [↓RBp,↓RA,↓reduceIte,Nat.reduceAdd,Nat.reduceMul,Nat.reduceEqDiff,RB,RX,RA2]
 refine ⟨by kernel_rfl,fun fn w1 e1 hs1 hD hLp=> ?_⟩
 have hC0:Cells w1 w.heap.size 50 1 (fun _=>Value.slice none 0 0):=((Cells.new w [Value.slice none 0 0] 50).congr (fun i hi=>by rw [show i=0 by simpa using hi];rfl)).ext e1
 have hsz:(w.alloc (.cells #[Value.slice none 0 0] 50)).heap.size=w.heap.size+1:=size_alloc _ _
 rw [hsz] at hs1 hD hLp ⊢
 have e01:Ext w w1:=(Ext.alloc_self _ _).trans e1
 have nb1:¬m=w.heap.size:=by omega
 refine k_Keys1 (hm.ext e01) (hb.ext e01) (fun r s w2=>Lp w2 (w.heap.size+1+1) fn #[7] f178_r1_a f178_r1_b (f178_r1_f (.slice none 0 0) (.func (.func 142) #[] #[.pointer (some ⟨b,0,none⟩)]) (.pointer (some ⟨w.heap.size,0,none⟩)) (.slice none 0 0) (.func (.func 142) #[] #[.pointer (some ⟨b,0,none⟩)])) (w.heap.size+1) .ready none∧w2.heap[w.heap.size+1]? =some (.deferred (some []))∧Ext w w2∧∃v,Cells w2 w.heap.size 50 1 (fun _=>v)∧SlO w2 3 1 v s.length (i64L s)∧∀bb,v.ownBlock=some bb→w.heap.size+3≤bb∧bb≠r) (fun r w2 hr hr2 e2=> ?_) (fun r s w2 w3 hr hj g=> ?_) (fun r s x w2 K' hr hr2 hj hx hsl hK'=> ?_) _ (fun r s w2 hp hr hj=> ?_)
 ·exact ⟨hLp.ext e2,(e2.blk _ (lt_of_heap hD)).trans hD,e01.trans e2,.slice none 0 0,hC0.ext e2,SlO.nil _ _ _,fun bb h=>by cases h⟩
 ·obtain ⟨j1,j2,j3,v,j4,j5,j6⟩:=hj
  exact ⟨j1.frm g oM,(g.block _ (lt_of_heap j2) oM).trans j2,ext_frm j3 g (fun x h=>by omega),v,j4.frm g oM,j5.frm g (fun bb h=>(j6 bb h).2),j6⟩
 ·obtain ⟨j1,j2,j3,v,j4,j5,j6⟩:=hj
  refine f178_r1_y j1 ?_
  unfold f178_r1_t begS
  refine ⟨j1,fun w3 g3 j1'=> ?_⟩
  have k2:=(g3.block _ (lt_of_heap j2) oM).trans j2
  have k4:=j4.frm g3 oM
  have k5:=j5.frm g3 (fun bb h=>by have:=j6 bb h;omega)
  have hc:w3.cell? ⟨w.heap.size,0,none⟩=some v:=k4.cell (i:=0) oM
  have lt4:=k4.lt
  simp (disch:=try exact dZ) only [↓RBp,↓RA,↓reduceIte,Nat.reduceAdd,Nat.reduceMul,Nat.reduceEqDiff,RB,RX,RA2,hc]
  refine blt_append el_50_50 (k5.ext xZ) (m:=1) (news:= [.int .i64 x]) rfl ?_ rfl oM oM oM (fun v' w4 hs' hf hn _=> ?_)
  ·intro j u hj
   have e0:j=0:=by
    cases j with
    |zero=>rfl
    |succ j=>simp at hj
   subst e0
   injection hj with hj;subst hj
   exact (Cells.new w3 [Value.int .i64 x] 3).cell (i:=0) (by simp)
  ·have g4:Frm (fun b=>v.ownBlock=some b) w3 w4:=(Frm.of_ext (Ext.alloc_self w3 _)).trans hf (fun _ _ h=>h)
   have c4:=k4.frm g4 (fun h=>by have:=j6 _ h;omega)
   have lp4:=j1'.frm g4 (fun h=>by have:=j6 _ h;omega)
   have d4:=(g4.block _ (lt_of_heap k2) (fun h=>by have:=j6 _ h;omega)).trans k2
   have lt5:=c4.lt
   have new':∀bb,v'.ownBlock=some bb→w.heap.size+3≤bb∧bb≠r:=fun bb h=>by
    rcases hn bb h with h|h
    ·exact j6 bb h
    ·have:=g3.size
     rw [size_alloc] at h
     omega
   have c5:=c4.set v' (i:=0) oM
   have hset:Frm (fun x=>x=w.heap.size) w4 (w4.setCell ⟨w.heap.size,0,none⟩ v'):=(Frm.refl _ w4).set v' (fun _=>rfl)
   have s5:=hs'.frm hset (fun bb h=>by have:=new' bb h;omega)
   have lp5:=lp4.frm hset oM
   have d5:=(hset.block _ (lt_of_heap d4) oM).trans d4
   have g24:Frm (fun x=>x=w.heap.size+1+1∨x=w.heap.size∨v.ownBlock=some x) w2 (w4.setCell ⟨w.heap.size,0,none⟩ v'):=((g3.mono (fun x h=> .inl h)).trans g4 (fun x _ h=> .inr (.inr h))).trans hset (fun x _ h=> .inr (.inl h))
   have c4c:w4.cell? ⟨w.heap.size,0,none⟩=some v:=c4.cell (i:=0) oM
   have fz:=c4.frz 0
   have iv:=isOne_sl hs'
   simp (disch:=try exact dZ) only [↓RBp,↓RA,↓reduceIte,Nat.reduceAdd,Nat.reduceMul,Nat.reduceEqDiff,RB,RX,RA2,c4c,fz,iv,stS1 (t:=50) (by kernel_rfl) w.heap.size 0 v' w4 _ iv]
   refine ⟨lp5,fun w6 g6 lp6=> ?_⟩
   have g26:=g24.trans g6 (fun x _ h=> .inl h)
   have gx:∀x,(x=w.heap.size+1+1∨x=w.heap.size∨v.ownBlock=some x)→w.heap.size≤x:=by
    rintro x (h|h|h)
    ·omega
    ·omega
    ·have:=j6 _ h;omega
   refine hK' w6 _ g26 ?_ ?_ ?_ ⟨lp6,(g6.block _ (lt_of_heap d5) oM).trans d5,ext_frm j3 g26 gx,v',(c5.congr (fun i hi=>by rw [show i=0 by omega];rfl)).frm g6 oM,?_,new'⟩
   ·rintro (h|h|h)
    ·omega
    ·omega
    ·exact (j6 _ h).2 rfl
   ·rintro (h|h|h)
    ·omega
    ·omega
    ·have:=j6 _ h;omega
   ·rintro (h|h|h)
    ·omega
    ·omega
    ·have:=j6 _ h;omega
   ·have:=s5.frm g6 (fun bb h=>by have:=new' bb h;omega)
    have e:i64L (s++ [x])=i64L s++ [.int .i64 x]:=by simp
    rw [e,List.length_append]
    exact this
 ·obtain ⟨j1,j2,j3,v,j4,j5,j6⟩:=hj
  refine ⟨.ready,none,by simp,j1,fun w3 g3=> ?_⟩
  have k4:=j4.frm g3 oM
  have hc:w3.cell? ⟨w.heap.size,0,none⟩=some v:=k4.cell (i:=0) oM
  unfold jumpS
  simp (disch:=try exact dZ) only [↓RBp,↓RA,↓reduceIte,Nat.reduceAdd,Nat.reduceMul,Nat.reduceEqDiff,RB,RX,RA2,hc,rsK]
  have d3:=(g3.block _ (lt_of_heap j2) oM).trans j2
  refine ⟨d3,fun w4 g4=> ?_⟩
  have g24:Frm (fun x=>w.heap.size≤x) w2 w4:=(g3.mono (fun x h=>by omega)).trans g4 (fun x _ h=>by omega)
  refine hK s v w4 hp (ext_frm j3 g24 (fun x h=>by omega)) (fun bb h=>by have:=j6 bb h;omega) ((j5.frm g3 (fun bb h=>by have:=j6 bb h;omega)).frm g4 (fun bb h=>by have:=j6 bb h;omega))
theorem k_Collect (hm:MapK .i64 w m L) (hb:Cells w b 159 1 (fun _=> .map (some m))) (hL:L.length<1000000) (K:K1)
  (hK:∀s v w',s.Perm (L.map (·.1))→Ext w w'→NewV w.heap.size v→SlO w' 3 1 v s.length (i64L s)→K v w'):
  callS prog 140 #[.func (.func 142) #[] #[.pointer (some ⟨b,0,none⟩)]] w K:=by
 refine f140_call _ _ _ ?_
 unfold f140_t
 simp (disch:=try exact dZ) only [↓RBp,↓RA,↓reduceIte,Nat.reduceAdd,Nat.reduceMul,Nat.reduceEqDiff,RB,RX,RA2]
 exact k_AppSeq hm hb hL _ hK
end
end Go.Proofs.YtmpehclnnjgmcaaGreatDoor
namespace Go.Proofs.YtmpehclnnjgmcaaGreatDoor
open Go Go.Sh Go.Sort Go.Shelf Go.Proofs
def srtR:Go.Shelf.Ren:=⟨fun|5=>141|8=>180|7=>179|19=>197|20=>198|10=>188|11=>189|12=>190|13=>191|14=>192|15=>193|16=>194|17=>195|18=>196|30=>210|31=>211|32=>212|33=>213|34=>214|35=>215|40=>221|n=>n,fun|23=>50|25=>3|3=>3|32=>129|22=>50|0=>0|44=>126|46=>26|4=>4|36=>260|35=>259|41=>127|5=>5|9=>9|53=>276|57=>279|63=>284|64=>43|n=>n,fun|n=>n⟩
theorem srtL:SlLaysM.n5 prog srtR:={
 mixed:=by kernel_rfl
 f5:=⟨Tryz.f141.name,by decide,Tryz.func141.trans (congrArg some (by kernel_rfl))⟩
 f7:=⟨Tryz.f179.name,by decide,Tryz.func179.trans (congrArg some (by kernel_rfl))⟩
 f8:=Tryz.func180.trans (congrArg some (by kernel_rfl))
 f10:=⟨Tryz.f188.name,by decide,Tryz.func188.trans (congrArg some (by kernel_rfl))⟩
 f11:=⟨Tryz.f189.name,by decide,Tryz.func189.trans (congrArg some (by kernel_rfl))⟩
 f12:=⟨Tryz.f190.name,by decide,Tryz.func190.trans (congrArg some (by kernel_rfl))⟩
 f13:=⟨Tryz.f191.name,by decide,Tryz.func191.trans (congrArg some (by kernel_rfl))⟩
 f14:=⟨Tryz.f192.name,by decide,Tryz.func192.trans (congrArg some (by kernel_rfl))⟩
 f15:=⟨Tryz.f193.name,by decide,Tryz.func193.trans (congrArg some (by kernel_rfl))⟩
 f16:=⟨Tryz.f194.name,by decide,Tryz.func194.trans (congrArg some (by kernel_rfl))⟩
 f17:=⟨Tryz.f195.name,by decide,Tryz.func195.trans (congrArg some (by kernel_rfl))⟩
 f18:=⟨Tryz.f196.name,by decide,Tryz.func196.trans (congrArg some (by kernel_rfl))⟩
 f19:=Tryz.func197.trans (congrArg some (by kernel_rfl))
 f20:=Tryz.func198.trans (congrArg some (by kernel_rfl))
 f30:=⟨Tryz.f210.name,by decide,Tryz.func210.trans (congrArg some (by kernel_rfl))⟩
 f31:=Tryz.func211.trans (congrArg some (by kernel_rfl))
 f32:=Tryz.func212.trans (congrArg some (by kernel_rfl))
 f33:=⟨Tryz.f213.name,by decide,Tryz.func213.trans (congrArg some (by kernel_rfl))⟩
 f34:=⟨Tryz.f214.name,by decide,Tryz.func214.trans (congrArg some (by kernel_rfl))⟩
 f35:=⟨Tryz.f215.name,by decide,Tryz.func215.trans (congrArg some (by kernel_rfl))⟩
 f40:=⟨Tryz.f221.name,by decide,Tryz.func221.trans (congrArg some (by kernel_rfl))⟩
 t0:=Tryz.underlying0
 a0:=Tryz.isAgg0
 z0:=Tryz.sizeOf0
 v0:=Tryz.zeroValue0
 t3:=Tryz.underlying3
 a3:=Tryz.isAgg3
 z3:=Tryz.sizeOf3
 v3:=Tryz.zeroValue3
 t4:=Tryz.underlying4
 a4:=Tryz.isAgg4
 z4:=Tryz.sizeOf4
 v4:=Tryz.zeroValue4
 t5:=Tryz.underlying5
 a5:=Tryz.isAgg5
 z5:=Tryz.sizeOf5
 v5:=Tryz.zeroValue5
 t9:=Tryz.underlying9
 a9:=Tryz.isAgg9
 z9:=Tryz.sizeOf9
 v9:=Tryz.zeroValue9
 t22:=Tryz.underlying50
 a22:=Tryz.isAgg50
 z22:=Tryz.sizeOf50
 v22:=Tryz.zeroValue50
 t23:=Tryz.underlying50
 a23:=Tryz.isAgg50
 z23:=Tryz.sizeOf50
 v23:=Tryz.zeroValue50
 t25:=Tryz.underlying3
 a25:=Tryz.isAgg3
 z25:=Tryz.sizeOf3
 v25:=Tryz.zeroValue3
 t32:=Tryz.underlying129
 a32:=Tryz.isAgg129
 z32:=Tryz.sizeOf129
 v32:=Tryz.zeroValue129
 t35:=Tryz.underlying259
 a35:=Tryz.isAgg259
 z35:=Tryz.sizeOf259
 v35:=Tryz.zeroValue259
 t36:=Tryz.underlying260
 a36:=Tryz.isAgg260
 z36:=Tryz.sizeOf260
 v36:=Tryz.zeroValue260
 t41:=Tryz.underlying127
 a41:=Tryz.isAgg127
 z41:=Tryz.sizeOf127
 v41:=Tryz.zeroValue127
 t44:=Tryz.underlying126
 a44:=Tryz.isAgg126
 z44:=Tryz.sizeOf126
 v44:=Tryz.zeroValue126
 t46:=Tryz.underlying26
 a46:=Tryz.isAgg26
 z46:=Tryz.sizeOf26
 v46:=Tryz.zeroValue26
 t53:=Tryz.underlying276
 a53:=Tryz.isAgg276
 z53:=Tryz.sizeOf276
 v53:=Tryz.zeroValue276
 t57:=Tryz.underlying279
 a57:=Tryz.isAgg279
 z57:=Tryz.sizeOf279
 v57:=Tryz.zeroValue279
 t63:=Tryz.underlying284
 a63:=Tryz.isAgg284
 z63:=Tryz.sizeOf284
 v63:=Tryz.zeroValue284
 t64:=Tryz.underlying43
 a64:=Tryz.isAgg43
 z64:=Tryz.sizeOf43
 v64:=Tryz.zeroValue43}
theorem putRow_at {w:World} {g o n:Nat} {os:Array Obj} {cur:Array Value} {e:TypeId} {fr:Nat×Nat} (d:Array Int) (hb:w.heap[g]? =some (.cells cur e fr)):
  (grow (putRow (Value.int .i64) (Sort.ahead w n) g o d) os).heap[g]? =some (.cells (putCells (Value.int .i64) o d cur) e fr):=by
 have hg:g<w.heap.size:=(Array.getElem?_eq_some_iff.1 hb).1
 rw [heap_grow_old _ _ (by simpa using hg)]
 simp [putRow,mapBlock,Sort.ahead,Array.getElem?_modify,hb,onCells]
theorem putRow_frm {w:World} {g o n:Nat} {os:Array Obj} (d:Array Int):Frm (fun x=>x=g) w (grow (putRow (Value.int .i64) (Sort.ahead w n) g o d) os):=by
 refine ⟨rfl,rfl,rfl,by simp,fun k hk hne=> ?_⟩
 rw [heap_grow_old _ _ (by simpa using hk)]
 have:g≠k:=fun e=>hne e.symm
 simp [putRow,mapBlock,Sort.ahead,Array.getElem?_modify,this]
theorem k_SortI {w:World} {v:Value} {s:List Int} (hS:SlO w 3 1 v s.length (i64L s)) (hl:s.length<1000000) (K:K1) (hK:∀w',Frm (fun x=>v.ownBlock=some x) w w'→SlO w' 3 1 v s.length (i64L (s.mergeSort fun x y=>decide (x≤y)))→K (.tuple #[]) w'):
  callS prog 141 #[v] w K:=by
 rcases hS.2 with ⟨rfl,hz⟩|⟨b,o,cap,a,rfl,hb,h1,h2,h3,h4⟩
 ·have hs:s= []:=List.eq_nil_of_length_eq_zero hz
  subst hs
  refine Calls.mono (AnyM.slices_Sort_int_none srtL none 0 w) ?_
  rintro e w' ⟨rfl,rfl⟩
  exact hK _ (Frm.refl _ _) (by simpa using SlO.nil _ _ _)
 ·have hH:Holds (Value.int .i64) w b o s.toArray:=fun j hj=>by
   have hj':j<s.length:=by simpa using hj
   have:=h4 j (.int .i64 s[j]) (by simp [hj'])
   refine ⟨?_,?_⟩
   ·simp only [World.cell?,hb,Option.isSome_none,Bool.false_eq_true,if_false,this]
    simp [hj']
   ·have:=hS.frz (b:=b) rfl (o+j)
    exact this
  refine Calls.mono (AnyM.slices_Sort_int srtL b o cap s w hH (lt_of_heap hb) oM) ?_
  rintro e w' ⟨rfl,nn,os,rfl⟩
  have fr:=putRow_frm (w:=w) (g:=b) (o:=o) (n:=nn) (os:=os) (s.mergeSort fun x y=>decide (x≤y)).toArray
  refine hK _ (fr.mono (fun x e=>by rw [e];rfl)) ⟨by simp,.inr ⟨b,o,cap,_,rfl,putRow_at _ hb,h1,h2,by simpa [putCells] using h3,fun i u hi=> ?_⟩⟩
  have hi2:i<s.length:=by
   have:=(List.getElem?_eq_some_iff.1 hi).1
   simpa using this
  have hi3:i<(s.mergeSort fun x y=>decide (x≤y)).length:=by simpa using hi2
  simp only [i64L,List.getElem?_map,List.getElem?_eq_getElem hi3,Option.map_some,Option.some.injEq] at hi
  subst hi
  have hsz:o+i<a.size:=by omega
  simp [putCells,hsz,hi2]
end Go.Proofs.YtmpehclnnjgmcaaGreatDoor
namespace Go.Proofs.YtmpehclnnjgmcaaGreatDoor
open Go Go.Sh
structure CgB where
 b:Nat
 t:Value
 k:Value
 d:Value
def CgB.own (c:CgB) (x:Nat):Prop:=x=c.b∨c.t.ownBlock=some x∨c.k.ownBlock=some x∨c.d.ownBlock=some x
def cgF (c:CgB) (i:Nat):Value:= [c.t,c.k,c.d].getD i undef
structure Chg (w:World) (c:CgB) (T:List Int) (Ks:List Nat) (M:List Int):Prop where
 bx:Cells w c.b 162 3 (cgF c)
 t:SlO w 3 1 c.t T.length (i64L T)
 k:SlO w 5 1 c.k Ks.length (u8L Ks)
 d:SlO w 3 1 c.d M.length (i64L M)
 ne:c.t.ownBlock≠some c.b∧c.k.ownBlock≠some c.b∧c.d.ownBlock≠some c.b
 td:∀x,c.t.ownBlock=some x→c.d.ownBlock≠some x∧c.k.ownBlock≠some x
 kd:∀x,c.k.ownBlock=some x→c.d.ownBlock≠some x
theorem Chg.frm {w w':World} {c:CgB} {T M:List Int} {Ks:List Nat} {G:Nat→Prop} (h:Chg w c T Ks M) (g:Frm G w w') (hG:∀x,c.own x→¬G x):Chg w' c T Ks M:=
 ⟨h.bx.frm g (hG _ (.inl rfl)),h.t.frm g (fun b e=>hG _ (.inr (.inl e))),h.k.frm g (fun b e=>hG _ (.inr (.inr (.inl e)))),h.d.frm g (fun b e=>hG _ (.inr (.inr (.inr e)))),h.ne,h.td,h.kd⟩
theorem Chg.lt {w:World} {c:CgB} {T M:List Int} {Ks:List Nat} (h:Chg w c T Ks M) {x:Nat} (hx:c.own x):x<w.heap.size:=by
 rcases hx with rfl|e|e|e
 ·exact h.bx.lt
 ·exact h.t.lt e
 ·exact h.k.lt e
 ·exact h.d.lt e
structure ChgS (N0:Nat) (w:World) (mb cb n:Nat) (C:Nat→CgB) (lv:Nat→Bool) (T:Nat→List Int) (Ks:Nat→List Nat) (M:Nat→List Int):Prop where
 mp:∃L,MapK .i64 w mb L∧(∀p∈L,∃k,k<n∧p.1=((26+32*k:Nat):Int))∧∀k,k<n→getL L ((26+32*k:Nat):Int)=if lv k=true then some (.pointer (some ⟨(C k).b,0,none⟩)) else none
 cx:Cells w cb 159 1 (fun _=> .map (some mb))
 ch:∀k,k<n→lv k=true→Chg w (C k) (T k) (Ks k) (M k)
 fr:∀k,k<n→lv k=true→∀x,(C k).own x→N0≤x∧x≠mb∧x≠cb
 dj:∀k j,k<n→j<n→lv k=true→lv j=true→∀x,(C k).own x→(C j).own x→k=j
 em:∀k,lv k=false→T k= []∧Ks k= []∧M k= []
 n0:N0≤mb∧N0≤cb∧mb≠cb
def upd {α:Type} (g:Nat→α) (k:Nat) (x:α) (j:Nat):α:=if j=k then x else g j
theorem upd_eq {α:Type} (g:Nat→α) (k:Nat) (x:α):upd g k x k=x:=if_pos rfl
theorem upd_ne {α:Type} (g:Nat→α) {k j:Nat} (x:α) (h:j≠k):upd g k x j=g j:=if_neg h
section
variable {w w':World} {N0 mb cb n k:Nat} {C:Nat→CgB} {lv:Nat→Bool} {T M:Nat→List Int} {Ks:Nat→List Nat}
theorem ChgS.lt (h:ChgS N0 w mb cb n C lv T Ks M):mb<w.heap.size∧cb<w.heap.size:=by
 obtain ⟨L,a,_⟩:=h.mp
 exact ⟨a.lt,h.cx.lt⟩
theorem ChgS.frm {G:Nat→Prop} (h:ChgS N0 w mb cb n C lv T Ks M) (g:Frm G w w') (hG:∀x,x<w.heap.size→N0≤x→¬G x):ChgS N0 w' mb cb n C lv T Ks M:=by
 obtain ⟨L,a,b,c⟩:=h.mp
 exact ⟨⟨L,a.frm g (hG _ a.lt h.n0.1),b,c⟩,h.cx.frm g (hG _ h.cx.lt h.n0.2.1),fun k hk hl=>(h.ch k hk hl).frm g (fun x hx=>hG x ((h.ch k hk hl).lt hx) (h.fr k hk hl x hx).1),h.fr,h.dj,h.em,h.n0⟩
theorem ChgS.ext (h:ChgS N0 w mb cb n C lv T Ks M) (e:Ext w w'):ChgS N0 w' mb cb n C lv T Ks M:=
 h.frm (G:=fun _=>False) (Frm.of_ext e) (fun _ _ _ h=>h)
theorem ChgS.put {G:Nat→Prop} {c:CgB} {t m:List Int} {ks:List Nat} (h:ChgS N0 w mb cb n C lv T Ks M) (hk:k<n) (hl:lv k=true) (g:Frm G w w') (hG:∀x,G x→(C k).own x) (hb:c.b=(C k).b) (hc:Chg w' c t ks m) (hn:∀x,c.own x→(C k).own x∨w.heap.size≤x):ChgS N0 w' mb cb n (upd C k c) lv (upd T k t) (upd Ks k ks) (upd M k m):=by
 obtain ⟨L,a,b,d⟩:=h.mp
 have lt:=h.lt
 have n0:=h.n0
 have fk:=h.fr k hk hl
 refine ⟨⟨L,a.frm g (fun hx=>(fk _ (hG _ hx)).2.1 rfl),b,fun j hj=> ?_⟩,h.cx.frm g (fun hx=>(fk _ (hG _ hx)).2.2 rfl),fun j hj hlj=> ?_,fun j hj hlj x hx=> ?_,fun i j hi hj hli hlj x hx hy=> ?_,fun j hlj=> ?_,n0⟩
 ·rw [d j hj]
  by_cases e:j=k
  ·subst e;rw [upd_eq,hb]
  ·rw [upd_ne _ _ e]
 ·by_cases e:j=k
  ·subst e;simp only [upd_eq];exact hc
  ·simp only [upd_ne _ _ e]
   exact (h.ch j hj hlj).frm g (fun x hx hg=>e (h.dj j k hj hk hlj hl x hx (hG x hg)))
 ·by_cases e:j=k
  ·subst e
   rw [upd_eq] at hx
   rcases hn x hx with hx|hx
   ·exact fk x hx
   ·exact ⟨by omega,by omega,by omega⟩
  ·rw [upd_ne _ _ e] at hx;exact h.fr j hj hlj x hx
 ·have old:∀j,j<n→lv j=true→j≠k→(C j).own x→¬w.heap.size≤x:=fun j hj hlj _ hx=>by have:=(h.ch j hj hlj).lt hx;omega
  by_cases e:i=k
  ·by_cases e2:j=k
   ·omega
   ·subst e
    rw [upd_eq] at hx;rw [upd_ne _ _ e2] at hy
    rcases hn x hx with hx|hx
    ·exact h.dj _ _ hi hj hli hlj x hx hy
    ·exact absurd hx (old j hj hlj e2 hy)
  ·by_cases e2:j=k
   ·subst e2
    rw [upd_eq] at hy;rw [upd_ne _ _ e] at hx
    rcases hn x hy with hy|hy
    ·exact h.dj _ _ hi hj hli hlj x hx hy
    ·exact absurd hy (old i hi hli e hx)
   ·rw [upd_ne _ _ e] at hx;rw [upd_ne _ _ e2] at hy
    exact h.dj _ _ hi hj hli hlj x hx hy
 ·have e:j≠k:=fun e=>by rw [e,hl] at hlj;cases hlj
  simp only [upd_ne _ _ e];exact h.em j hlj
theorem k_at (h:ChgS N0 w mb cb n C lv T Ks M) (hk:k<n) (hN:N0≤w.heap.size) (K:K1)
  (hK:∀w' C',Frm (fun x=>x=mb) w w'→ChgS N0 w' mb cb n C' (upd lv k true) T Ks M→K (.pointer (some ⟨(C' k).b,0,none⟩)) w'):
  callS prog 95 #[.int .i64 ((26+32*k:Nat):Int),.pointer (some ⟨cb,0,none⟩)] w K:=by
 obtain ⟨L,a,b,d⟩:=h.mp
 have lt:=h.lt
 have n0:=h.n0
 have hc:w.cell? ⟨cb,0,none⟩=some (.map (some mb)):=h.cx.cell (i:=0) oM
 have hlk:∀(w1:World) (K:K1),Ext w w1→ev prog (Instr.lookup 159 (.map (some mb)) (.int .i64 ((26+32*k:Nat):Int)) false) w1 K=K ((if lv k=true then some (.pointer (some ⟨(C k).b,0,none⟩)) else none:Option Value).getD (.pointer none)) w1:=fun w1 K e=>by rw [ev_lookupK1 mTc (a.ext e),d k hk]
 refine f95_call _ _ _ _ ?_
 unfold f95_t
 cases hl:lv k with
 |true=>
  rw [hl] at hlk
  have hu:upd lv k true=lv:=by
   funext j
   by_cases e:j=k
   ·subst e;rw [upd_eq,hl]
   ·rw [upd_ne _ _ e]
  simp (disch:=try exact dX) only [↓RBp,↓RA,↓reduceIte,Nat.reduceAdd,Nat.reduceMul,Nat.reduceEqDiff,RB,RX,RA2,hc,hlk,Option.getD_some]
  rw [f95_k1_eq]
  unfold f95_k1_t
  refine hK _ C (Frm.of_ext (Ext.refl _)) ?_
  rw [hu];exact h
 |false=>
  rw [hl] at hlk
  have lt1:=lt.1;have lt2:=lt.2
  simp (disch:=try exact dX) only [↓RBp,↓RA,↓reduceIte,Nat.reduceAdd,Nat.reduceMul,Nat.reduceEqDiff,RB,RX,RA2,hc,hlk,Option.getD_none,Bool.false_eq_true]
  have hB:=Cells.new w [Value.slice none 0 0,Value.slice none 0 0,Value.slice none 0 0] 162
  refine ac_setK mTc (a.ext xZ) _ _ (fun w3 m3 g3=> ?_)
  rw [f95_k1_eq]
  unfold f95_k1_t
  have g03:Frm (fun x=>x=mb) w w3:=(Frm.of_ext (Ext.alloc_self w _)).trans g3 (fun _ _ h=>h)
  have hB3:=hB.frm g3 oM
  have em:=h.em k hl
  have ch3:∀j,j<n→lv j=true→Chg w3 (C j) (T j) (Ks j) (M j):=fun j hj hlj=>(h.ch j hj hlj).frm g03 (fun x hx e=>(h.fr j hj hlj x hx).2.1 e)
  have ok:ChgS N0 w3 mb cb n (upd C k ⟨w.heap.size,.slice none 0 0,.slice none 0 0,.slice none 0 0⟩) (upd lv k true) T Ks M:=by
   refine ⟨⟨_,m3,fun p hp=> ?_,fun j hj=> ?_⟩,h.cx.frm g03 (fun e=>n0.2.2 e.symm),fun j hj hlj=> ?_,fun j hj hlj x hx=> ?_,fun i j hi hj hli hlj x hx hy=> ?_,fun j hlj=> ?_,n0⟩
   ·have:setL L ((26+32*k:Nat):Int) (.pointer (some ⟨w.heap.size,0,none⟩))=L++ [(((26+32*k:Nat):Int),.pointer (some ⟨w.heap.size,0,none⟩))]:=by
     unfold setL
     rw [if_neg (by rw [d k hk,hl];simp)]
    rw [this] at hp
    rcases List.mem_append.1 hp with hp|hp
    ·exact b p hp
    ·simp only [List.mem_singleton] at hp
     subst hp;exact ⟨k,hk,rfl⟩
   ·rw [getL_set]
    by_cases e:j=k
    ·subst e;rw [if_pos rfl,upd_eq,upd_eq,if_pos rfl]
    ·rw [if_neg oM,upd_ne _ _ e,upd_ne _ _ e];exact d j hj
   ·by_cases e:j=k
    ·subst e
     rw [upd_eq,em.1,em.2.1,em.2.2]
     refine ⟨?_,SlO.nil _ _ _,SlO.nil _ _ _,SlO.nil _ _ _,⟨by simp [Value.ownBlock],by simp [Value.ownBlock],by simp [Value.ownBlock]⟩,fun x h=>(by cases h),fun x h=>(by cases h)⟩
     exact hB3
    ·rw [upd_ne _ _ e] at hlj ⊢;exact ch3 j hj hlj
   ·by_cases e:j=k
    ·subst e
     rw [upd_eq] at hx
     rcases hx with hx|hx|hx|hx
     ·have hx:x=w.heap.size:=hx
      omega
     ·cases hx
     ·cases hx
     ·cases hx
    ·rw [upd_ne _ _ e] at hlj hx;exact h.fr j hj hlj x hx
   ·have nw:∀j,j<n→lv j=true→(C j).own x→(CgB.own ⟨w.heap.size,.slice none 0 0,.slice none 0 0,.slice none 0 0⟩ x)→False:=fun j hj hlj h1 h2=>by
     have:=(h.ch j hj hlj).lt h1
     rcases h2 with h2|h2|h2|h2
     ·have h2:x=w.heap.size:=h2
      omega
     ·cases h2
     ·cases h2
     ·cases h2
    by_cases e:i=k
    ·by_cases e2:j=k
     ·omega
     ·subst e
      rw [upd_eq] at hx;rw [upd_ne _ _ e2] at hy hlj
      exact (nw j hj hlj hy hx).elim
    ·by_cases e2:j=k
     ·subst e2
      rw [upd_eq] at hy;rw [upd_ne _ _ e] at hx hli
      exact (nw i hi hli hx hy).elim
     ·rw [upd_ne _ _ e] at hx hli;rw [upd_ne _ _ e2] at hy hlj
      exact h.dj _ _ hi hj hli hlj x hx hy
   ·have e:j≠k:=fun e=>by rw [e,upd_eq] at hlj;cases hlj
    rw [upd_ne _ _ e] at hlj;exact h.em j hlj
  have:=hK w3 _ g03 ok
  rw [upd_eq] at this
  exact this
end
theorem onc_of {per:Int}:∀{L:List Int} {m:Nat},(∀x∈L,0≤x∧x<per)→(∀x∈L,bitB m x.toNat=false)→L.Nodup→∃m',onc per L m=some m':=by
 intro L
 induction L with
 |nil=>intro m _ _ _;exact ⟨m,rfl⟩
 |cons x L ih=>
  intro m hr hb hn
  simp only [onc]
  have h1:=hr x (by simp)
  have h2:=hb x (by simp)
  rw [if_pos ⟨h1,h2⟩]
  rw [List.nodup_cons] at hn
  refine ih (fun y hy=>hr y (by simp [hy])) (fun y hy=> ?_) hn.2
  rw [bit_or,bit_pow,hb y (by simp [hy])]
  have hy1:=hr y (by simp [hy])
  have hne:y≠x:=fun e=>hn.1 (e▸hy)
  have:¬x.toNat=y.toNat:=by omega
  simp [this]
theorem actA_iff {c:Int} {L M:List Int} {ks:List Nat}:ActA c L ks M↔ks.length=L.length∧(∀(i k:Nat),ks[i]? =some k→k≠0∧k≤127)∧(∀(i:Nat) (x:Int),(L++M)[i]? =some x→0≤x∧x<perS c)∧∀(i j:Nat) (x y:Int),j<i→(L++M)[i]? =some x→(L++M)[j]? =some y→y≠x:=by
 constructor
 ·intro h
  have hL:=h.vL;have hM:=h.vM
  obtain ⟨n1,n2,n3⟩:=h.nd
  have nd:(L++M).Nodup:=by
   rw [List.nodup_append]
   refine ⟨List.Pairwise.of_map Int.toNat (fun a b h e=>h (by rw [e])) n1,List.Pairwise.of_map Int.toNat (fun a b h e=>h (by rw [e])) n2,fun a ha b hb e=> ?_⟩
   subst e
   have h1:=hasI_of ha
   have h2:=hasI_of hb
   rw [n3 _ h1] at h2;cases h2
  refine ⟨h.len,fun i k hk=>h.kin k (List.mem_of_getElem? hk),fun i x hx=> ?_,fun i j x y hji hx hy e=> ?_⟩
  ·rcases List.mem_append.1 (List.mem_of_getElem? hx) with h1|h1
   ·exact hL x h1
   ·exact hM x h1
  ·subst e
   have hj:=(List.getElem?_eq_some_iff.1 hy).1
   have:=(List.getElem?_inj hj nd).1 (hy.trans hx.symm)
   omega
 ·intro ⟨h1,h2,h3,h4⟩
  have hin:∀x∈L++M,0≤x∧x<perS c:=fun x hx=>by
   obtain ⟨i,hi⟩:=List.mem_iff_getElem?.1 hx
   exact h3 i x hi
  have nd:(L++M).Nodup:=by
   rw [List.nodup_iff_pairwise_ne,List.pairwise_iff_getElem]
   intro i j hi hj hij e
   exact h4 j i _ _ hij (List.getElem?_eq_getElem hj) (List.getElem?_eq_getElem hi) e
  rw [List.nodup_append] at nd
  refine ⟨h1,fun k hk=> ?_,?_⟩
  ·obtain ⟨i,hi⟩:=List.mem_iff_getElem?.1 hk
   exact h2 i k hi
  ·obtain ⟨m,hm⟩:=onc_of (L:=L) (m:=0) (fun x hx=>hin x (by simp [hx])) (fun x _=>by simp [bitB]) nd.1
   obtain ⟨_,_,hb⟩:=onc_spec hm
   obtain ⟨m',hm'⟩:=onc_of (L:=M) (m:=m) (fun x hx=>hin x (by simp [hx])) (fun x hx=>by
    rw [hb]
    cases hh:hasI L x.toNat with
    |false=>simp [bitB]
    |true=>
     obtain ⟨y,hy,hyx⟩:=hasI_mem hh
     have:=hin x (by simp [hx]);have:=hin y (by simp [hy])
     have e:y=x:=by omega
     exact absurd e (nd.2.2 y hy x hx)) nd.2.1
   rw [hm,Option.bind_some,hm'];rfl
theorem nodup_map_on {α β:Type} (g:α→β):∀{L:List α},(∀a∈L,∀b∈L,g a=g b→a=b)→L.Nodup→(L.map g).Nodup:=by
 intro L
 induction L with
 |nil=>intro _ _;simp
 |cons x L ih=>
  intro h hn
  rw [List.nodup_cons] at hn
  rw [List.map_cons,List.nodup_cons]
  refine ⟨fun hm=> ?_,ih (fun a ha b hb=>h a (List.mem_cons_of_mem _ ha) b (List.mem_cons_of_mem _ hb)) hn.2⟩
  obtain ⟨y,hy,e⟩:=List.mem_map.1 hm
  have:=h y (List.mem_cons_of_mem _ hy) x List.mem_cons_self e
  exact hn.1 (this▸hy)
theorem inj_of_nodup_map {α β:Type} {g:α→β}:∀{L:List α},(L.map g).Nodup→∀{a b:α},a∈L→b∈L→g a=g b→a=b:=by
 intro L
 induction L with
 |nil=>intro _ a b h;cases h
 |cons x L ih=>
  intro hn a b ha hb e
  rw [List.map_cons,List.nodup_cons] at hn
  rcases List.mem_cons.1 ha with h1|ha
  ·rcases List.mem_cons.1 hb with h2|hb
   ·rw [h1,h2]
   ·exact (hn.1 (List.mem_map.2 ⟨b,hb,by rw [←e,h1]⟩)).elim
  ·rcases List.mem_cons.1 hb with h2|hb
   ·exact (hn.1 (List.mem_map.2 ⟨a,ha,by rw [e,h2]⟩)).elim
   ·exact ih hn.2 ha hb e
theorem nodup_of_map {α β:Type} {g:α→β} {L:List α} (h:(L.map g).Nodup):L.Nodup:=by
 induction L with
 |nil=>simp
 |cons x L ih=>
  rw [List.map_cons,List.nodup_cons] at h
  rw [List.nodup_cons]
  exact ⟨fun hm=>h.1 (List.mem_map.2 ⟨x,hm,rfl⟩),ih h.2⟩
def ixP (f:Idx) (p:Nat):Nat:=((pO p-(26+32*hk p)*64)/8-9)/((wordsS (f (hk p)).1).toNat+1)
def At (f:Idx) (n p k i:Nat):Prop:=k<n∧0≤(f k).1∧(f k).1<5∧(i:Int)<perS (f k).1∧pO p=pOff (26+32*k) (f k).1 i
section
variable {D D':DS} {f f':Idx} {n k i j l p q:Nat} {c o:Int} {keep free L R:List Nat}
theorem At.ix (h:At f n p k i):hk p=k∧ixP f p=i:=by
 obtain ⟨a1,a2,a3,a4,a5⟩:=h
 obtain ⟨z,m,hz,hm,hzm,z3,z60,hof⟩:=offN_eq a2 a3
 have hk0:hk p=k:=by
  have b:=pOff_in (k:=k) (n:=n) a2 a3 a4
  unfold hk;rw [a5];exact b.2
 refine ⟨hk0,?_⟩
 unfold ixP
 rw [hk0,a5,hz]
 unfold pOff
 rw [hof]
 have e:((26+32*k)*64+(8+i*(z+1))*8+8-(26+32*k)*64)/8-9=i*(z+1):=by
  generalize i*(z+1)=m;omega
 rw [e,Int.toNat_natCast]
 exact Nat.mul_div_cancel _ oM
theorem At.self (h:At f n p k i):At f n p (hk p) (ixP f p):=by rw [h.ix.1,h.ix.2];exact h
theorem At.uniq (h:At f n p (hk p) (ixP f p)) (h':At f n q (hk q) (ixP f q)) (e1:hk p=hk q) (e2:ixP f p=ixP f q):pO p=pO q:=by
 rw [h.2.2.2.2,h'.2.2.2.2,e1,e2]
theorem Rsv.at_ (h:Rsv D f n p) (hn:26+32*n≤4096) (rg:RgS D 26 n f):At f n p (hk p) (ixP f p)∧bS (wd D (26+32*hk p) (offN (f (hk p)).1 (ixP f p)))=176∧p=ptrN (pO p) (bG (wd D (26+32*hk p) (offN (f (hk p)).1 (ixP f p)))) (pK p)∧pK p≠0∧pK p≤127∧p<72057594037927936∧p≠0:=by
 have kn:=h.kn hn rg
 obtain ⟨k,i,kd,a1,a2,a3,a4,a5,a6,a7⟩:=h
 have c5:=(rg.cls a1).1
 have hh:=hk_ptr (k:=k) (g:=bG (wd D (26+32*k) (offN (f k).1 i))) (kd:=kd) a2 c5 oM a3
 rw [←a4] at hh
 have at0:At f n p k i:=⟨a1,a2,c5,a3,hh.1⟩
 have b:=pOff_bd (l:=26+32*k) oM a2 c5 a3
 have hkd:pK p=kd:=by rw [a4];exact pK_ptr _ _ _ b.2.1 (bG_lt _) oM
 have e:=at0.ix
 refine ⟨at0.self,?_,?_,by omega,by omega,kn.2.2.2.1,kn.2.2.1⟩
 ·rw [e.1,e.2];exact a5
 ·rw [e.1,e.2,hkd,hh.1];exact a4
theorem Liv.at_ (h:Liv D f n p) (hn:26+32*n≤4096) (rg:RgS D 26 n f):At f n p (hk p) (ixP f p)∧LivA D f n p (hk p) (ixP f p)∧p<72057594037927936∧p≠0:=by
 obtain ⟨k,i,h⟩:=h
 have s:=h.sp hn rg
 have at0:At f n p k i:=⟨h.1,h.2.1,(rg.cls h.1).1,h.2.2.1,s.1⟩
 have e:=at0.ix
 exact ⟨at0.self,by rw [e.1,e.2];exact h,s.2.2.2.1,s.2.2.1⟩
theorem Liv.uniq (h:Liv D f n p) (h':Liv D f n q) (hn:26+32*n≤4096) (rg:RgS D 26 n f) (e1:hk p=hk q) (e2:ixP f p=ixP f q):p=q:=by
 have a:=(h.at_ hn rg).2.1
 have b:=(h'.at_ hn rg).2.1
 rw [a.2.2.2.1,b.2.2.2.1,e1,e2]
structure PubIn (D:DS) (f:Idx) (n:Nat) (keep free:List Nat):Prop where
 rg:RgS D 26 n f
 nn:D.n≤4096
 kp:∀p∈keep,Rsv D f n p
 fr:∀p∈free,Liv D f n p
 nk:(keep.map pO).Nodup
 nf:free.Nodup
def tkL (f:Idx) (L:List Nat) (k:Nat):List Int:=(L.filter fun p=>decide (hk p=k)).map fun p=>(ixP f p:Int)
def knL (L:List Nat) (k:Nat):List Nat:=(L.filter fun p=>decide (hk p=k)).map pK
def wsK (D:DS) (f:Idx) (keep free:List Nat) (k:Nat):List (Nat×Nat):=(actN D (26+32*k) (f k).1 (tkL f keep k) (knL keep k) (tkL f free k)).getD []
def pubW (D:DS) (f:Idx) (keep free:List Nat):Nat→List (Nat×Nat)
 |0=> []
 |m+1=>pubW D f keep free m++wsK D f keep free m
theorem mem_tkL {x:Int}:x∈tkL f L k↔∃p∈L,hk p=k∧x=(ixP f p:Int):=by
 unfold tkL
 simp only [List.mem_map,List.mem_filter,decide_eq_true_eq]
 exact ⟨fun ⟨p,⟨a,b⟩,c⟩=>⟨p,a,b,c.symm⟩,fun ⟨p,a,b,c⟩=>⟨p,⟨a,b⟩,c.symm⟩⟩
theorem has_tkL:hasI (tkL f L k) i=true↔∃p∈L,hk p=k∧ixP f p=i:=by
 constructor
 ·intro h
  obtain ⟨x,hx,e⟩:=hasI_mem h
  obtain ⟨p,a,b,c⟩:=mem_tkL.1 hx
  exact ⟨p,a,b,by omega⟩
 ·rintro ⟨p,a,b,c⟩
  have:=hasI_of (mem_tkL.2 ⟨p,a,b,rfl⟩:((ixP f p:Nat):Int)∈tkL f L k)
  rw [←c];simpa using this
theorem len_knL:(knL L k).length=(tkL f L k).length:=by simp [knL,tkL]
theorem kOf_keep:∀{L:List Nat},(∀p∈L,∀q∈L,hk p=hk q→ixP f p=ixP f q→p=q)→p∈L→hk p=k→kOf (tkL f L k) (knL L k) (ixP f p)=some (pK p):=by
 intro L
 induction L with
 |nil=>intro _ h;cases h
 |cons x L ih=>
  intro hu hp hk0
  by_cases e:hk x=k
  ·have e1:tkL f (x::L) k=(ixP f x:Int)::tkL f L k:=by simp [tkL,e]
   have e2:knL (x::L) k=pK x::knL L k:=by simp [knL,e]
   rw [e1,e2,kOf]
   by_cases e3:ixP f x=ixP f p
   ·rw [if_pos oM]
    rw [hu x List.mem_cons_self p hp oM e3]
   ·rw [if_neg oM]
    rcases List.mem_cons.1 hp with rfl|hp
    ·exact absurd rfl e3
    ·exact ih (fun a ha b hb=>hu a (List.mem_cons_of_mem _ ha) b (List.mem_cons_of_mem _ hb)) hp hk0
  ·have e1:tkL f (x::L) k=tkL f L k:=by simp [tkL,e]
   have e2:knL (x::L) k=knL L k:=by simp [knL,e]
   rw [e1,e2]
   rcases List.mem_cons.1 hp with rfl|hp
   ·exact absurd hk0 e
   ·exact ih (fun a ha b hb=>hu a (List.mem_cons_of_mem _ ha) b (List.mem_cons_of_mem _ hb)) hp hk0
theorem kOf_no (h:¬∃p∈L,hk p=k∧ixP f p=i):kOf (tkL f L k) (knL L k) i=none:=by
 cases hk0:kOf (tkL f L k) (knL L k) i with
 |none=>rfl
 |some x=>exact absurd (has_tkL.1 (kOf_mem (D:=DS.zero 0) (l:=0) (c:=0) hk0).2.1) h
theorem chT_of:∀{L:List Int} {ks:List Nat} {acc:List (Nat×Nat)} {b:Nat},ks.length=L.length→(∀x∈L,tkOk D l c x.toNat=true)→chT D l c L ks acc b=some (acc++zipW D l c L ks,orL L b):=by
 intro L
 induction L with
 |nil=>intro ks acc b _ _;rw [chT_nil];cases ks<;>simp [zipW,orL]
 |cons x L ih=>
  intro ks acc b hl h
  cases ks with
  |nil=>simp at hl
  |cons y ks=>
   rw [chT_cons,if_pos (h x List.mem_cons_self),ih (by simpa using hl) (fun z hz=>h z (List.mem_cons_of_mem _ hz)),orL_cons]
   simp [zipW]
theorem chDr_of:∀{L:List Int} {acc:List (Nat×Nat)} {b:Nat},(∀x∈L,dpOk D l c x.toNat=true)→chDr D l c L acc b=some (acc++L.map (fun x=>dpW D l c x.toNat),dpL D l c L b):=by
 intro L
 induction L with
 |nil=>intro acc b _;rw [chDr_nil];simp [dpL]
 |cons x L ih=>
  intro acc b h
  rw [chDr_cons,if_pos (h x List.mem_cons_self),ih (fun z hz=>h z (List.mem_cons_of_mem _ hz)),dpL_cons]
  simp
theorem actN_of {L M:List Int} {ks:List Nat} (hl:ks.length=L.length) (h1:∀x∈L,tkOk D l c x.toNat=true) (h2:∀x∈M,dpOk D l c x.toNat=true):∃ws,actN D l c L ks M=some ws:=by
 by_cases hne:L.length=0∧M.length=0
 ·exact ⟨[],by unfold actN;rw [if_pos hne]⟩
 ·exact ⟨_,actN_eq hne (chT_of hl h1) (chDr_of h2)⟩
theorem PubIn.n4 (P:PubIn D f n keep free):26+32*n≤4096:=by have:=P.rg.lt;have:=P.nn;omega
theorem PubIn.ku (P:PubIn D f n keep free):∀p∈keep,∀q∈keep,hk p=hk q→ixP f p=ixP f q→p=q:=by
 intro p hp q hq e1 e2
 have a:=((P.kp p hp).at_ P.n4 P.rg).1
 have b:=((P.kp q hq).at_ P.n4 P.rg).1
 have e:=a.uniq b e1 e2
 exact inj_of_nodup_map P.nk hp hq e
theorem PubIn.none (P:PubIn D f n keep free) (h0:(f k).1<0∨n≤k):tkL f keep k= []∧tkL f free k= []∧wsK D f keep free k= []:=by
 have a1:tkL f keep k= []:=List.eq_nil_iff_forall_not_mem.2 fun x hx=>by
  obtain ⟨p,hp,e,_⟩:=mem_tkL.1 hx
  have:=((P.kp p hp).at_ P.n4 P.rg).1
  rw [e] at this
  have a:=this.1;have b:=this.2.1
  omega
 have a2:tkL f free k= []:=List.eq_nil_iff_forall_not_mem.2 fun x hx=>by
  obtain ⟨p,hp,e,_⟩:=mem_tkL.1 hx
  have:=((P.fr p hp).at_ P.n4 P.rg).1
  rw [e] at this
  have a:=this.1;have b:=this.2.1
  omega
 refine ⟨a1,a2,?_⟩
 unfold wsK
 rw [a1,a2]
 unfold actN
 rw [if_pos (by simp)];rfl
theorem tk_of (h:Snd D l c o) (hi:(i:Int)<perS c) (c0:0≤c) (c5:c<5) (h176:bS (wd D l (offN c i))=176):tkOk D l c i=true:=by
 have hp:=perS_in c0 c5
 have b:=h.bit i oM
 rw [h176] at b
 unfold tkOk
 rw [h.sl i hi,b,h.gd i hi,h176]
 simp
theorem dp_of (h:Snd D l c o) (hi:(i:Int)<perS c) (c0:0≤c) (c5:c<5) (h177:bS (wd D l (offN c i))=177):dpOk D l c i=true:=by
 have b:=h.live c0 c5 hi h177
 unfold dpOk
 rw [b.1,b.2.1,h177];rfl
theorem PubIn.act (P:PubIn D f n keep free) (hk1:k<n) (h0:0≤(f k).1):ActA (f k).1 (tkL f keep k) (knL keep k) (tkL f free k)∧actN D (26+32*k) (f k).1 (tkL f keep k) (knL keep k) (tkL f free k)=some (wsK D f keep free k):=by
 have c5:=(P.rg.cls hk1).1
 have s:=P.rg.sn k hk1 h0
 have kx:∀x∈tkL f keep k,∃p∈keep,hk p=k∧x=(ixP f p:Int)∧(ixP f p:Int)<perS (f k).1∧bS (wd D (26+32*k) (offN (f k).1 (ixP f p)))=176:=fun x hx=>by
  obtain ⟨p,hp,e,e2⟩:=mem_tkL.1 hx
  have a:=(P.kp p hp).at_ P.n4 P.rg
  rw [e] at a
  exact ⟨p,hp,e,e2,a.1.2.2.2.1,a.2.1⟩
 have fx:∀x∈tkL f free k,∃p∈free,hk p=k∧x=(ixP f p:Int)∧(ixP f p:Int)<perS (f k).1∧bS (wd D (26+32*k) (offN (f k).1 (ixP f p)))=177:=fun x hx=>by
  obtain ⟨p,hp,e,e2⟩:=mem_tkL.1 hx
  have a:=(P.fr p hp).at_ P.n4 P.rg
  rw [e] at a
  exact ⟨p,hp,e,e2,a.1.2.2.2.1,a.2.1.2.2.2.2⟩
 refine ⟨actA_iff.2 ⟨len_knL,fun i x hx=> ?_,fun i x hx=> ?_,fun i j x y hij hx hy=> ?_⟩,?_⟩
 ·have:=List.mem_of_getElem? hx
  unfold knL at this
  obtain ⟨p,hp,e⟩:=List.mem_map.1 this
  have a:=(P.kp p (List.mem_filter.1 hp).1).at_ P.n4 P.rg
  omega
 ·rcases List.mem_append.1 (List.mem_of_getElem? hx) with h|h
  ·obtain ⟨p,_,_,e,b,_⟩:=kx x h;omega
  ·obtain ⟨p,_,_,e,b,_⟩:=fx x h;omega
 ·have nd:(tkL f keep k++tkL f free k).Nodup:=by
   refine List.nodup_append.2 ⟨?_,?_,fun a ha b hb e=> ?_⟩
   ·unfold tkL
    refine nodup_map_on _ ?_ ((nodup_of_map P.nk).filter _)
    intro p hp q hq e
    have hp:=List.mem_filter.1 hp;have hq:=List.mem_filter.1 hq
    have a:=of_decide_eq_true hp.2;have b:=of_decide_eq_true hq.2
    exact P.ku p hp.1 q hq.1 oM oM
   ·unfold tkL
    refine nodup_map_on _ ?_ (P.nf.filter _)
    intro p hp q hq e
    have hp:=List.mem_filter.1 hp;have hq:=List.mem_filter.1 hq
    have a:=of_decide_eq_true hp.2;have b:=of_decide_eq_true hq.2
    exact (P.fr p hp.1).uniq (P.fr q hq.1) P.n4 P.rg oM oM
   ·obtain ⟨p,_,_,e1,_,s1⟩:=kx a ha
    obtain ⟨q,_,_,e2,_,s2⟩:=fx b hb
    have:ixP f p=ixP f q:=by omega
    rw [this] at s1;omega
  intro e
  have:=(List.getElem?_inj (by rw [List.getElem?_eq_some_iff] at hy;exact hy.1) nd).1 (hy.trans (e▸hx.symm))
  omega
 ·obtain ⟨ws,hw⟩:=actN_of (D:=D) (l:=26+32*k) (c:=(f k).1) (L:=tkL f keep k) (M:=tkL f free k) (ks:=knL keep k) len_knL (fun x hx=>by
   obtain ⟨p,_,_,e,b,s1⟩:=kx x hx
   rw [e,Int.toNat_natCast];exact tk_of s b h0 c5 s1) (fun x hx=>by
   obtain ⟨p,_,_,e,b,s1⟩:=fx x hx
   rw [e,Int.toNat_natCast];exact dp_of s b h0 c5 s1)
  unfold wsK
  rw [hw];rfl
end
section
variable {D D':DS} {f f':Idx} {n k i j l p q m:Nat} {c o:Int} {keep free L R:List Nat}
theorem act_mem {L M:List Int} {ks:List Nat} {ws:List (Nat×Nat)} (ha:ActA c L ks M) (h:actN D l c L ks M=some ws):∀x∈ws,x.1=l*64+8∨∃i:Nat,(i:Int)<perS c∧x.1=l*64+offN c i*8:=by
 intro x hx
 rcases (actN_spec ha.len h).2.2 with ⟨e,_⟩|e
 ·rw [e] at hx;cases hx
 ·rw [e] at hx
  rcases List.mem_append.1 hx with hx|hx
  ·rcases List.mem_append.1 hx with hx|hx
   ·obtain ⟨y,hy,k,_,e2,_⟩:=zipW_mem hx
    have:=ha.vL y hy
    exact .inr ⟨y.toNat,by omega,by rw [e2];rfl⟩
   ·obtain ⟨y,hy,e2⟩:=List.mem_map.1 hx
    have:=ha.vM y hy
    exact .inr ⟨y.toNat,by omega,by rw [←e2];rfl⟩
  ·simp only [List.mem_singleton] at hx
   rw [hx];exact .inl rfl
theorem act_nd {L M:List Int} {ks:List Nat} {ws:List (Nat×Nat)} (c0:0≤c) (c5:c<5) (ha:ActA c L ks M) (h:actN D l c L ks M=some ws):(ws.map (·.1)).Nodup:=by
 have nd:=ha.nd
 have bd:∀x:Int,0≤x∧x<perS c→8≤offN c x.toNat:=fun x hx=>(offN_bd c0 c5 (i:=x.toNat) oM).2.1
 have zm:∀(L:List Int) (ks:List Nat),ks.length=L.length→(zipW D l c L ks).map (·.1)=L.map fun x=>l*64+offN c x.toNat*8:=by
  intro L
  induction L with
  |nil=>intro ks _;cases ks<;>rfl
  |cons x L ih=>
   intro ks hk
   cases ks with
   |nil=>simp at hk
   |cons y ks=>simp only [zipW,List.map_cons,ih ks (by simpa using hk)];rfl
 rcases (actN_spec ha.len h).2.2 with ⟨e,_⟩|e
 ·rw [e];simp
 ·rw [e,List.map_append,List.map_append,zm _ _ ha.len,List.map_map]
  have inj:∀(L:List Int),(L.map Int.toNat).Nodup→(L.map fun x=>l*64+offN c x.toNat*8).Nodup:=fun L hL=>by
   have:(L.map fun x=>l*64+offN c x.toNat*8)=(L.map Int.toNat).map fun i=>l*64+offN c i*8:=by rw [List.map_map];rfl
   rw [this]
   refine nodup_map_on _ (fun a _ b _ e=>offN_inj c0 c5 ?_) hL
   have e:l*64+offN c a*8=l*64+offN c b*8:=e
   omega
  refine List.nodup_append.2 ⟨List.nodup_append.2 ⟨inj L nd.1,inj M nd.2.1,?_⟩,by simp,?_⟩
  ·intro a ha' b hb' e
   obtain ⟨x,hx,rfl⟩:=List.mem_map.1 ha'
   obtain ⟨y,hy,rfl⟩:=List.mem_map.1 hb'
   have e:l*64+offN c x.toNat*8=l*64+offN c y.toNat*8:=e
   have e2:=offN_inj c0 c5 (show offN c x.toNat=offN c y.toNat by omega)
   have:=nd.2.2 x.toNat (hasI_of hx)
   rw [e2,hasI_of hy] at this;cases this
  ·intro a ha' b hb' e
   simp only [List.map_cons,List.map_nil,List.mem_singleton] at hb'
   rcases List.mem_append.1 ha' with h1|h1
   ·obtain ⟨x,hx,rfl⟩:=List.mem_map.1 h1
    have:=bd x (ha.vL x hx)
    omega
   ·obtain ⟨x,hx,rfl⟩:=List.mem_map.1 h1
    have:=bd x (ha.vM x hx)
    have hb':b=l*64+8:=hb'
    have e:l*64+offN c x.toNat*8=b:=e
    omega
theorem PubIn.actE (P:PubIn D f n keep free) (hk1:k<n) (h0:0≤(f k).1):ActE D (D.strs (wsK D f keep free k)) (26+32*k) (f k).1 (tkL f keep k) (knL keep k) (tkL f free k) (wsK D f keep free k):=by
 have a:=P.act hk1 h0
 exact act_wd P.rg.on P.rg.gd (by have:=P.rg.lt;omega) h0 (P.rg.cls hk1).1 a.1 a.2
theorem PubIn.mem (P:PubIn D f n keep free) (hk1:k<n):∀x∈wsK D f keep free k,(26+32*k)*64+8≤x.1∧x.1<(26+32*k)*64+2048∧x.1%8=0∧x.2<18446744073709551616:=by
 intro x hx
 by_cases h0:(f k).1<0
 ·rw [(P.none (.inl h0)).2.2] at hx;cases hx
 ·have a:=P.act hk1 oM
  have e:=(P.actE hk1 oM).ok x hx
  rcases act_mem a.1 a.2 x hx with h|⟨i,hi,h⟩
  ·exact ⟨by omega,by omega,e.1,e.2.2⟩
  ·have:=offN_bd (show 0≤(f k).1 by omega) (P.rg.cls hk1).1 hi
   exact ⟨by omega,by omega,e.1,e.2.2⟩
theorem PubIn.all (P:PubIn D f n keep free):∀m,m≤n→∀x∈pubW D f keep free m,1664≤x.1∧x.1<(26+32*m)*64∧x.1%8=0∧x.2<18446744073709551616:=by
 intro m
 induction m with
 |zero=>intro _ x hx;cases hx
 |succ m ih=>
  intro hm x hx
  rcases List.mem_append.1 hx with hx|hx
  ·have:=ih oM x hx;omega
  ·have:=P.mem (k:=m) oM x hx;omega
theorem PubIn.nd (P:PubIn D f n keep free):∀m,m≤n→((pubW D f keep free m).map (·.1)).Nodup:=by
 intro m
 induction m with
 |zero=>intro _;simp [pubW]
 |succ m ih=>
  intro hm
  unfold pubW
  rw [List.map_append]
  refine List.nodup_append.2 ⟨ih oM,?_,?_⟩
  ·by_cases h0:(f m).1<0
   ·rw [(P.none (.inl h0)).2.2];simp
   ·have a:=P.act (k:=m) oM oM
    exact act_nd oM (P.rg.cls oM).1 a.1 a.2
  ·intro a ha b hb e
   obtain ⟨x,hx,rfl⟩:=List.mem_map.1 ha
   obtain ⟨y,hy,rfl⟩:=List.mem_map.1 hb
   have:=P.all m oM x hx
   have:=P.mem (k:=m) oM y hy
   omega
theorem cnt_succ (m:Nat):∀L:List Nat,(L.filter fun p=>decide (hk p<m+1)).length=(L.filter fun p=>decide (hk p<m)).length+(L.filter fun p=>decide (hk p=m)).length:=by
 intro L
 induction L with
 |nil=>rfl
 |cons x L ih=>
  simp only [List.filter_cons]
  by_cases h1:hk x<m
  ·rw [if_pos (by simp;omega),if_pos (by simpa using h1),if_neg (by simp;omega)]
   simp only [List.length_cons,ih];omega
  ·by_cases h2:hk x=m
   ·rw [if_pos (by simp;omega),if_neg (by simpa using h1),if_pos (by simpa using h2)]
    simp only [List.length_cons,ih];omega
   ·rw [if_neg (by simp;omega),if_neg (by simpa using h1),if_neg (by simpa using h2)]
    exact ih
theorem PubIn.len (P:PubIn D f n keep free):∀m,m≤n→(pubW D f keep free m).length≤2*((keep.filter fun p=>decide (hk p<m)).length+(free.filter fun p=>decide (hk p<m)).length):=by
 intro m
 induction m with
 |zero=>intro _;simp [pubW]
 |succ m ih=>
  intro hm
  have i:=ih oM
  have a:=cnt_succ m keep
  have b:=cnt_succ m free
  have hl:(wsK D f keep free m).length≤2*((keep.filter fun p=>decide (hk p=m)).length+(free.filter fun p=>decide (hk p=m)).length):=by
   by_cases h0:(f m).1<0
   ·rw [(P.none (.inl h0)).2.2];simp
   ·have ac:=P.act (k:=m) oM oM
    have e:=(P.actE (k:=m) oM oM).len
    have e1:(tkL f keep m).length=(keep.filter fun p=>decide (hk p=m)).length:=by simp [tkL]
    have e2:(tkL f free m).length=(free.filter fun p=>decide (hk p=m)).length:=by simp [tkL]
    rw [e1,e2] at e
    by_cases h1:(keep.filter fun p=>decide (hk p=m)).length+(free.filter fun p=>decide (hk p=m)).length=0
    ·have hw:=ac.2
     unfold actN at hw
     rw [if_pos oM] at hw
     injection hw with hw
     rw [←hw];simp
    ·omega
  unfold pubW
  rw [List.length_append]
  omega
theorem PubIn.le (P:PubIn D f n keep free):(pubW D f keep free n).length≤2*(keep.length+free.length):=by
 have a:=P.len n (Nat.le_refl _)
 have b:=List.length_filter_le (fun p=>decide (hk p<n)) keep
 have c:=List.length_filter_le (fun p=>decide (hk p<n)) free
 omega
theorem PubIn.at_ (P:PubIn D f n keep free) (F:Nat→Nat):∀m,m≤n→(∀x,(26+32*m)*8≤x→applyH (pubW D f keep free m) F x=F x)∧∀k,k<m→∀j,j<256→applyH (pubW D f keep free m) F ((26+32*k)*8+j)=applyH (wsK D f keep free k) F ((26+32*k)*8+j):=by
 intro m
 induction m with
 |zero=>intro _;exact ⟨fun x _=>rfl,fun k hk=>by omega⟩
 |succ m ih=>
  intro hm
  have i:=ih oM
  have far:∀(G:Nat→Nat) x,(x<(26+32*m)*8∨(26+32*(m+1))*8≤x)→applyH (wsK D f keep free m) G x=G x:=fun G x hx=>applyH_other _ _ _ (fun y hy=>by have:=P.mem (k:=m) oM y hy;omega)
  unfold pubW
  refine ⟨fun x hx=> ?_,fun k hk j hj=> ?_⟩
  ·rw [applyH_app,far _ _ (.inr hx)];exact i.1 x oM
  ·rw [applyH_app]
   by_cases e:k=m
   ·subst e
    exact applyH_congr _ _ _ _ (i.1 _ oM)
   ·rw [far _ _ (.inl oM)];exact i.2 k oM j hj
structure PubE (D D':DS) (f:Idx) (n:Nat) (keep free:List Nat):Prop where
 rg:RgS D' 26 n f
 blk:∀k,k<n→0≤(f k).1→∀i:Nat,(i:Int)<perS (f k).1→wd D' (26+32*k) (offN (f k).1 i)=actX D (26+32*k) (f k).1 (tkL f keep k) (knL keep k) (tkL f free k) i
 rest:∀k,k<n→∀j,j<256→(∀i:Nat,0≤(f k).1→(i:Int)<perS (f k).1→j≠offN (f k).1 i)→j≠1→wd D' (26+32*k) j=wd D (26+32*k) j
theorem PubIn.eff (P:PubIn D f n keep free) (on':On D') (gd':Good D') (hn:D'.n=D.n) (hc:∀j,208≤j→D'.cur j=applyH (pubW D f keep free n) D.cur j):PubE D D' f n keep free:=by
 have w1:∀k,k<n→∀j,j<256→wd D' (26+32*k) j=wd (D.strs (wsK D f keep free k)) (26+32*k) j:=fun k hk1 j hj=>by
  have hw:=strs_on P.rg.on (ws:=wsK D f keep free k) (fun x hx=>by
   have:=P.mem hk1 x hx;have:=P.rg.lt;exact ⟨by omega,by omega⟩)
  unfold wd
  rw [hc _ oM,(P.at_ D.cur n (Nat.le_refl _)).2 k hk1 j hj,hw.2]
 have w0:∀k,k<n→(f k).1<0→∀j,j<256→wd D' (26+32*k) j=wd D (26+32*k) j:=fun k hk1 h0 j hj=>by
  rw [w1 k hk1 j hj,(P.none (.inl h0)).2.2];rfl
 have rs:∀k,k<n→∀j,j<256→(∀i:Nat,0≤(f k).1→(i:Int)<perS (f k).1→j≠offN (f k).1 i)→j≠1→wd D' (26+32*k) j=wd D (26+32*k) j:=fun k hk1 j hj h h1=>by
  by_cases h0:(f k).1<0
  ·exact w0 k hk1 h0 j hj
  ·rw [w1 k hk1 j hj]
   exact (P.actE hk1 oM).rest j hj (fun i hi=>h i oM hi) h1
 refine ⟨⟨on',gd',by rw [hn];exact P.rg.lt,fun k hk1=> ?_,fun k hk1 h0=> ?_⟩,fun k hk1 h0 i hi=> ?_,rs⟩
 ·have:=rs k hk1 0 oM (fun i h0 hi=>by have:=offN_bd h0 (P.rg.cls hk1).1 hi;omega) oM
  rw [this];exact P.rg.ag k hk1
 ·have a:=P.act hk1 h0
  have s:=(P.rg.sn k hk1 h0).act h0 (P.rg.cls hk1).1 a.1 (P.actE hk1 h0)
  exact s.congr h0 (P.rg.cls hk1).1 (fun j hj=>w1 k hk1 j hj)
 ·rw [w1 k hk1 _ (offN_bd h0 (P.rg.cls hk1).1 hi).2.2]
  exact (P.actE hk1 h0).blk i hi
theorem PubE.kept (E:PubE D D' f n keep free) (P:PubIn D f n keep free) (hp:p∈keep):LivA D' f n p (hk p) (ixP f p):=by
 have a:=(P.kp p hp).at_ P.n4 P.rg
 have b:=E.blk _ a.1.1 a.1.2.1 _ a.1.2.2.2.1
 unfold actX at b
 rw [kOf_keep P.ku hp rfl] at b
 simp only at b
 have t:=tkW_parts (D:=D) (l:=26+32*hk p) (c:=(f (hk p)).1) (ixP f p) (pK p) (by have:=a.2.2.2.2.1;omega)
 refine ⟨a.1.1,a.1.2.1,a.1.2.2.2.1,?_,by rw [b];exact t.2.2.2⟩
 rw [b,t.2.1,t.2.2.1,←a.1.2.2.2.2];exact a.2.2.1
theorem PubE.same (E:PubE D D' f n keep free) (h:At f n q k i) (h1:¬∃p∈keep,hk p=k∧ixP f p=i) (h2:¬∃p∈free,hk p=k∧ixP f p=i):wd D' (26+32*k) (offN (f k).1 i)=wd D (26+32*k) (offN (f k).1 i):=by
 rw [E.blk k h.1 h.2.1 i h.2.2.2.1]
 unfold actX
 rw [kOf_no h1]
 simp only
 rw [if_neg (fun h=>h2 (has_tkL.1 h))]
theorem PubE.freed (E:PubE D D' f n keep free) (P:PubIn D f n keep free) (hp:p∈free):bG (wd D' (26+32*hk p) (offN (f (hk p)).1 (ixP f p)))=freG (pG p)∧bS (wd D' (26+32*hk p) (offN (f (hk p)).1 (ixP f p)))=freS (pG p):=by
 have a:=(P.fr p hp).at_ P.n4 P.rg
 have g:=a.2.1.sp P.n4 P.rg
 have b:=E.blk _ a.1.1 a.1.2.1 _ a.1.2.2.2.1
 unfold actX at b
 have hno:¬∃q∈keep,hk q=hk p∧ixP f q=ixP f p:=fun ⟨q,hq,e1,e2⟩=>by
  have s:=((P.kp q hq).at_ P.n4 P.rg).2.1
  rw [e1,e2] at s
  have:=a.2.1.2.2.2.2
  omega
 rw [kOf_no hno] at b
 simp only at b
 rw [if_pos (has_tkL.2 ⟨p,hp,rfl,rfl⟩)] at b
 have t:=dpW_parts (D:=D) (l:=26+32*hk p) (c:=(f (hk p)).1) (ixP f p)
 rw [b]
 rw [g.2.2.2.2.1]
 exact ⟨t.2.1,t.2.2.2⟩
theorem fre_not (g:Nat):freS g≠177:=by unfold freS;split<;>omega
theorem PubE.liv (E:PubE D D' f n keep free) (P:PubIn D f n keep free):Liv D' f n q↔q∈keep∨(Liv D f n q∧q∉free):=by
 constructor
 ·rintro ⟨k,i,h⟩
  have s:=h.sp P.n4 E.rg
  have at0:At f n q k i:=⟨h.1,h.2.1,(P.rg.cls h.1).1,h.2.2.1,s.1⟩
  have ix:=at0.ix
  by_cases h1:∃p∈keep,hk p=k∧ixP f p=i
  ·obtain ⟨p,hp,e1,e2⟩:=h1
   have a:=E.kept P hp
   refine .inl ?_
   have:Liv D' f n p:=⟨_,_,a⟩
   have:=this.uniq ⟨k,i,h⟩ P.n4 E.rg oM oM
   rw [←this];exact hp
  ·by_cases h2:∃p∈free,hk p=k∧ixP f p=i
   ·obtain ⟨p,hp,e1,e2⟩:=h2
    have a:=E.freed P hp
    rw [e1,e2,h.2.2.2.2] at a
    exact absurd a.2.symm (fre_not _)
   ·have e:=E.same at0 h1 h2
    have l0:LivA D f n q k i:=⟨h.1,h.2.1,h.2.2.1,by rw [←e];exact h.2.2.2.1,by rw [←e];exact h.2.2.2.2⟩
    exact .inr ⟨⟨k,i,l0⟩,fun hq=>h2 ⟨q,hq,ix⟩⟩
 ·rintro (h|⟨h,hf⟩)
  ·exact ⟨_,_,E.kept P h⟩
  ·have a:=h.at_ P.n4 P.rg
   have h1:¬∃p∈keep,hk p=hk q∧ixP f p=ixP f q:=fun ⟨p,hp,e1,e2⟩=>by
    have s:=((P.kp p hp).at_ P.n4 P.rg).2.1
    rw [e1,e2] at s
    have:=a.2.1.2.2.2.2
    omega
   have h2:¬∃p∈free,hk p=hk q∧ixP f p=ixP f q:=fun ⟨p,hp,e1,e2⟩=>hf (by
    have:=(P.fr p hp).uniq h P.n4 P.rg e1 e2
    rw [←this];exact hp)
   have e:=E.same a.1 h1 h2
   exact ⟨_,_,a.2.1.1,a.2.1.2.1,a.2.1.2.2.1,by rw [e];exact a.2.1.2.2.2.1,by rw [e];exact a.2.1.2.2.2.2⟩
theorem PubE.rsv (E:PubE D D' f n keep free) (P:PubIn D f n keep free) (h:Rsv D f n q) (hq:pO q∉keep.map pO):Rsv D' f n q:=by
 have a:=h.at_ P.n4 P.rg
 have h1:¬∃p∈keep,hk p=hk q∧ixP f p=ixP f q:=fun ⟨p,hp,e1,e2⟩=>hq (by
  have b:=((P.kp p hp).at_ P.n4 P.rg).1
  rw [←b.uniq a.1 e1 e2]
  exact List.mem_map.2 ⟨p,hp,rfl⟩)
 have h2:¬∃p∈free,hk p=hk q∧ixP f p=ixP f q:=fun ⟨p,hp,e1,e2⟩=>by
  have b:=((P.fr p hp).at_ P.n4 P.rg).2.1.2.2.2.2
  rw [e1,e2] at b
  have:=a.2.1
  omega
 have e:=E.same a.1 h1 h2
 refine ⟨hk q,ixP f q,pK q,a.1.1,a.1.2.1,a.1.2.2.2.1,?_,by rw [e];exact a.2.1,a.2.2.2.1,a.2.2.2.2.1⟩
 rw [e,←a.1.2.2.2.2];exact a.2.2.1
end
def lvL (L:List Nat) (k:Nat):Bool:=L.any fun p=>decide (hk p=k)
theorem tk_snoc (f:Idx) (L:List Nat) (p:Nat):tkL f (L++ [p])=upd (tkL f L) (hk p) (tkL f L (hk p)++ [(ixP f p:Int)]):=by
 funext j
 unfold upd tkL
 by_cases e:j=hk p
 ·subst e;simp
 ·have e':¬hk p=j:=fun h=>e h.symm
  rw [if_neg e];simp [e']
theorem kn_snoc (L:List Nat) (p:Nat):knL (L++ [p])=upd (knL L) (hk p) (knL L (hk p)++ [pK p]):=by
 funext j
 unfold upd knL
 by_cases e:j=hk p
 ·subst e;simp
 ·have e':¬hk p=j:=fun h=>e h.symm
  rw [if_neg e];simp [e']
theorem lv_snoc (L:List Nat) (p:Nat):lvL (L++ [p])=upd (lvL L) (hk p) true:=by
 funext j
 unfold upd lvL
 by_cases e:j=hk p
 ·subst e;simp
 ·have e':¬hk p=j:=fun h=>e h.symm
  rw [if_neg e];simp [e']
theorem upd_self {α:Type} (g:Nat→α) (k:Nat):upd g k (g k)=g:=by
 funext j
 by_cases e:j=k
 ·subst e;exact upd_eq _ _ _
 ·exact upd_ne _ _ e
theorem Chg.take {w w2 w3:World} {c:CgB} {T M:List Int} {Ks:List Nat} {v2 v3:Value} {x:Int} {y:Nat} (h:Chg w c T Ks M) (hs2:SlO w2 3 1 v2 (T.length+1) (i64L T++ [.int .i64 x])) (hf2:Frm (fun b=>c.t.ownBlock=some b) w w2) (hn2:∀b,v2.ownBlock=some b→c.t.ownBlock=some b∨w.heap.size≤b)
  (hs3:SlO w3 5 1 v3 (Ks.length+1) (u8L Ks++ [.int .u8 (y:Int)])) (hf3:Frm (fun b=>c.k.ownBlock=some b) w2 w3) (hn3:∀b,v3.ownBlock=some b→c.k.ownBlock=some b∨w2.heap.size≤b):
  Chg ((w3.setCell ⟨c.b,0,none⟩ v2).setCell ⟨c.b,1,none⟩ v3) ⟨c.b,v2,v3,c.d⟩ (T++ [x]) (Ks++ [y]) M∧Frm c.own w ((w3.setCell ⟨c.b,0,none⟩ v2).setCell ⟨c.b,1,none⟩ v3)∧∀z,CgB.own ⟨c.b,v2,v3,c.d⟩ z→c.own z∨w.heap.size≤z:=by
 have lb:=h.bx.lt
 have n2:v2.ownBlock≠some c.b:=fun e=>(hn2 _ e).elim h.ne.1 (fun h=>by omega)
 have n3:v3.ownBlock≠some c.b:=fun e=>(hn3 _ e).elim h.ne.2.1 (fun h=>by have:=hf2.size;omega)
 have n23:∀z,v2.ownBlock=some z→c.k.ownBlock≠some z:=fun z e e2=>(hn2 _ e).elim (fun e=>(h.td z e).2 e2) (fun h1=>by have:=h.k.lt e2;omega)
 have b2:=h.bx.frm hf2 h.ne.1
 have b3:=b2.frm hf3 h.ne.2.1
 have b5:=(b3.set (i:=0) v2 oM).set (i:=1) v3 oM
 have g5:Frm (fun z=>z=c.b) w3 ((w3.setCell ⟨c.b,0,none⟩ v2).setCell ⟨c.b,1,none⟩ v3):=Frm.set (F:=fun z=>z=c.b) (Frm.set (F:=fun z=>z=c.b) (Frm.refl _ w3) (p:=⟨c.b,0,none⟩) v2 (fun _=>rfl)) (p:=⟨c.b,1,none⟩) v3 (fun _=>rfl)
 refine ⟨⟨?_,?_,?_,?_,⟨n2,n3,h.ne.2.2⟩,fun z e=>⟨fun e2=> ?_,fun e2=> ?_⟩,fun z e e2=> ?_⟩,?_,fun z hz=> ?_⟩
 ·refine b5.congr (fun i hi=> ?_)
  rcases i with _|_|_|i
  ·rfl
  ·rfl
  ·rfl
  ·omega
 ·have:=(hs2.frm hf3 (fun b e=>n23 b e)).frm g5 (fun b e e2=>n2 (by rw [e,e2]))
  simpa using this
 ·have:=hs3.frm g5 (fun b e e2=>n3 (by rw [e,e2]))
  simpa using this
 ·exact ((h.d.frm hf2 (fun b e e2=>(h.td b e2).1 e)).frm hf3 (fun b e e2=>h.kd b e2 e)).frm g5 (fun b e e2=>h.ne.2.2 (by rw [e,e2]))
 ·exact (hn2 _ e).elim (fun e=>(h.td z e).1 e2) (fun h1=>by have:=h.d.lt e2;omega)
 ·exact (hn3 _ e2).elim (fun e3=>n23 z e e3) (fun h1=>by have:=hs2.lt e;omega)
 ·exact (hn3 _ e).elim (fun e=>h.kd z e e2) (fun h1=>by have:=h.d.lt e2;have:=hf2.size;omega)
 ·refine ((hf2.mono (fun z e=>(.inr (.inl e):c.own z))).trans hf3 (fun z _ e=> .inr (.inr (.inl e)))).trans g5 (fun z _ e=> .inl e)
 ·rcases hz with e|e|e|e
  ·exact .inl (.inl e)
  ·exact (hn2 _ e).elim (fun e=> .inl (.inr (.inl e))) .inr
  ·exact (hn3 _ e).elim (fun e=> .inl (.inr (.inr (.inl e)))) (fun h=> .inr (by have:=hf2.size;omega))
  ·exact .inl (.inr (.inr (.inr e)))
theorem Chg.drop {w w2:World} {c:CgB} {T M:List Int} {Ks:List Nat} {v2:Value} {x:Int} (h:Chg w c T Ks M) (hs2:SlO w2 3 1 v2 (M.length+1) (i64L M++ [.int .i64 x])) (hf2:Frm (fun b=>c.d.ownBlock=some b) w w2) (hn2:∀b,v2.ownBlock=some b→c.d.ownBlock=some b∨w.heap.size≤b):
  Chg (w2.setCell ⟨c.b,2,none⟩ v2) ⟨c.b,c.t,c.k,v2⟩ T Ks (M++ [x])∧Frm c.own w (w2.setCell ⟨c.b,2,none⟩ v2)∧∀z,CgB.own ⟨c.b,c.t,c.k,v2⟩ z→c.own z∨w.heap.size≤z:=by
 have lb:=h.bx.lt
 have n2:v2.ownBlock≠some c.b:=fun e=>(hn2 _ e).elim h.ne.2.2 (fun h=>by omega)
 have b2:=h.bx.frm hf2 h.ne.2.2
 have b5:=b2.set (i:=2) v2 oM
 have g5:Frm (fun z=>z=c.b) w2 (w2.setCell ⟨c.b,2,none⟩ v2):=(Frm.refl _ w2).set v2 (fun _=>rfl)
 refine ⟨⟨?_,?_,?_,?_,⟨h.ne.1,h.ne.2.1,n2⟩,fun z e=>⟨fun e2=> ?_,(h.td z e).2⟩,fun z e e2=> ?_⟩,?_,fun z hz=> ?_⟩
 ·refine b5.congr (fun i hi=> ?_)
  rcases i with _|_|_|i
  ·rfl
  ·rfl
  ·rfl
  ·omega
 ·exact (h.t.frm hf2 (fun b e e2=>(h.td b e).1 e2)).frm g5 (fun b e e2=>h.ne.1 (by rw [e,e2]))
 ·exact (h.k.frm hf2 (fun b e e2=>h.kd b e e2)).frm g5 (fun b e e2=>h.ne.2.1 (by rw [e,e2]))
 ·have:=hs2.frm g5 (fun b e e2=>n2 (by rw [e,e2]))
  simpa using this
 ·exact (hn2 _ e2).elim (fun e2=>(h.td z e).1 e2) (fun h1=>by have:=h.t.lt e;omega)
 ·exact (hn2 _ e2).elim (fun e2=>h.kd z e e2) (fun h1=>by have:=h.k.lt e;omega)
 ·exact (hf2.mono (fun z e=>(.inr (.inr (.inr e)):c.own z))).trans g5 (fun z _ e=> .inl e)
 ·rcases hz with e|e|e|e
  ·exact .inl (.inl e)
  ·exact .inl (.inr (.inl e))
  ·exact .inl (.inr (.inr (.inl e)))
  ·exact (hn2 _ e).elim (fun e=> .inl (.inr (.inr (.inr e)))) .inr
section
variable {w0 wN w w':World} {Y:Lay} {D:DS} {H:HL} {n mb cb:Nat} {f:Idx} {R keep free:List Nat} {C:Nat→CgB}
theorem len_tkL (f:Idx) (L:List Nat) (k:Nat):(tkL f L k).length≤L.length:=by unfold tkL;rw [List.length_map];exact List.length_filter_le _ _
theorem ac_l3 (h:HpS w0 wN Y D H n f R) (e:Ext wN w) (hC:ChgS wN.heap.size w mb cb n C (fun _=>false) (fun _=> []) (fun _=> []) (fun _=> [])) {m:Nat} {a:Option Addr} {cap:Nat} (hS:RdS m wN (.slice a keep.length cap) (u64L keep)) (hk8:keep.length<1000000) (kp:∀p∈keep,Rsv D f n p) (v2:Value) (K:K1)
  (hK:∀w' C',Ext wN w'→ChgS wN.heap.size w' mb cb n C' (lvL keep) (tkL f keep) (knL keep) (fun _=> [])→f42_k3 K (hpV H) v2 (.pointer (some ⟨cb,0,none⟩)) (.func (.func 95) #[] #[.pointer (some ⟨cb,0,none⟩)]) w'):
  f42_l3 K (hpV H) v2 (.pointer (some ⟨cb,0,none⟩)) (.func (.func 95) #[] #[.pointer (some ⟨cb,0,none⟩)]) (.slice a keep.length cap) (.int .i64 (keep.length:Int)) (.int .i64 0) w:=by
 have hn4:=h.n4
 have n0:=hC.n0
 refine f42_l3_rule _ _ _ _ _ _ _ _ _ (fun z w1=>∃j C',z= .int .i64 ((j:Nat):Int)∧j≤keep.length∧Ext wN w1∧ChgS wN.heap.size w1 mb cb n C' (lvL (keep.take j)) (tkL f (keep.take j)) (knL (keep.take j)) (fun _=> [])) (fun z _=>keep.length-(intOf z).toNat) ⟨0,C,rfl,by omega,e,hC⟩ ?_
 intros
 rename_i z w1 hI E1 hE1
 obtain ⟨j,C1,rfl,hj,e1,c1⟩:=hI
 by_cases hjl:j<keep.length
 ·obtain ⟨sb,so,sc,ev1,hc⟩:=(hS.ext e1).get (u64L_get hjl)
  injection ev1 with ev1 _ ev2
  subst ev1;subst ev2
  obtain ⟨p,hp⟩:∃p,keep[j]=p:=⟨_,rfl⟩
  have hpm:p∈keep:=hp▸List.getElem_mem hjl
  have hat:=((kp p hpm).at_ oM h.rg)
  obtain ⟨k,hkk⟩:∃k,hk p=k:=⟨_,rfl⟩
  have ht:keep.take (j+1)=keep.take j++ [p]:=by rw [List.take_succ_eq_append_getElem hjl,hp]
  have hfin:∀wF C',Ext wN wF→ChgS wN.heap.size wF mb cb n C' (upd (lvL (keep.take j)) k true) (upd (tkL f (keep.take j)) k (tkL f (keep.take j) k++ [(ixP f p:Int)])) (upd (knL (keep.take j)) k (knL (keep.take j) k++ [pK p])) (fun _=> [])→E1 (.int .i64 ((j+1:Nat):Int)) wF:=fun wF C' eF cF=>by
   apply hE1
   ·refine ⟨j+1,C',rfl,by omega,eF,?_⟩
    rw [ht,lv_snoc,tk_snoc,kn_snoc,hkk];exact cF
   ·simp [intOf];omega
  rw [hp] at hc
  have a0:=hat.1
  rw [hkk] at a0
  have hpl:=fun (w2:World) (e2:Ext wN w2) (K:K1) hK=>k_place (h.ext e2) a0.1 a0.2.1 a0.2.2.2.1 (show p<18446744073709551616 by omega) a0.2.2.2.2 K hK
  have hki:∀(w2:World) (K:K1),callS prog 60 #[.int .u64 (p:Int)] w2 K=K (.int .u8 ((pK p:Nat):Int)) w2:=fun w2 K=>c_PKind p w2 K oM
  have lT:=len_tkL f (keep.take j) k
  have lK:(knL (keep.take j) k).length≤(keep.take j).length:=by unfold knL;rw [List.length_map];exact List.length_filter_le _ _
  have lj:(keep.take j).length=j:=by rw [List.length_take];omega
  have e5:(j:Int)+1=((j+1:Nat):Int):=by omega
  generalize tkL f (keep.take j)=T at*
  generalize knL (keep.take j)=Ks at*
  generalize lvL (keep.take j)=lv at*
  generalize (f k).1=cc at*
  generalize ixP f p=ii at*
  generalize hpk:pK p=pk at*
  unfold f42_l3_t
  simp (disch:=try exact dZ) only [↓RBp,↓RA,↓reduceIte,Nat.reduceAdd,Nat.reduceMul,Nat.reduceEqDiff,RB,RX,RA2,hc]
  refine hpl _ (e1.trans xZ) _ (fun w2 e2=> ?_)
  have c2:=(c1.ext (Ext.trans xZ e2))
  have e02:=e1.trans (Ext.trans xZ e2)
  simp (disch:=try exact dZ) only [↓RBp,↓RA,↓reduceIte,Nat.reduceAdd,Nat.reduceMul,Nat.reduceEqDiff,RB,RX,RA2]
  rw [dyn_func (by kernel_rfl)]
  simp only [List.append_toArray,List.nil_append,List.cons_append,List.append_nil]
  refine k_at c2 a0.1 e02.size _ (fun w3 C3 g3 c3=> ?_)
  have e03:Ext wN w3:=ext_frm e02 g3 (fun x hx=>by omega)
  have hch:=c3.ch k a0.1 (upd_eq _ _ _)
  obtain ⟨c,hcc⟩:∃c,C3 k=c:=⟨_,rfl⟩
  have hput:=fun {wF c' t ks}=>c3.put (w':=wF) (c:=c') (t:=t) (m:= []) (ks:=ks) (G:=(C3 k).own) a0.1 (upd_eq _ _ _)
  rw [hcc] at hch hput ⊢
  have d0:w3.cell? ⟨c.b,0,none⟩=some c.t:=hch.bx.cell (i:=0) oM
  have d1:w3.cell? ⟨c.b,1,none⟩=some c.k:=hch.bx.cell (i:=1) oM
  have ltb:=hch.bx.lt
  (repeat' (first|(with_reducible first|refine brS_mk (fun _=> ?_) (fun _=> ?_)|refine And.intro ?_ ?_)|(simp (disch:=try exact dX) only [↓RBp,↓RA,↓reduceIte,Nat.reduceAdd,Nat.reduceMul,Nat.reduceEqDiff,RB,RX,RA2,d0,d1])))
  refine blt_append el_50_50 (hch.t.ext xZ) (m:=1) (news:= [.int .i64 (ii:Int)]) rfl ?_ rfl oM oM oM (fun v3 w4 hs4 hf4 hn4' _=> ?_)
  ·intro q u hq
   have e0:q=0:=by
    cases q with
    |zero=>rfl
    |succ q=>simp at hq
   subst e0
   injection hq with hq;subst hq
   exact (Cells.new w3.drew [Value.int .i64 (ii:Int)] 3).cell (i:=0) (by simp)
  have hf4':Frm (fun b=>c.t.ownBlock=some b) w3 w4:=(Frm.of_ext (show Ext w3 _ from Ext.alloc (Ext.drew (Ext.refl _)) _)).trans hf4 (fun _ _ h=>h)
  have b4:=hch.bx.frm hf4' hch.ne.1
  have d14:w4.cell? ⟨c.b,1,none⟩=some c.k:=b4.cell (i:=1) oM
  have ltb4:=b4.lt
  (repeat' (first|(with_reducible first|refine brS_mk (fun _=> ?_) (fun _=> ?_)|refine And.intro ?_ ?_)|(simp (disch:=try exact dX) only [↓RBp,↓RA,↓reduceIte,Nat.reduceAdd,Nat.reduceMul,Nat.reduceEqDiff,RB,RX,RA2,d14,hki])))
  have k4:=hch.k.frm hf4' (fun b e e2=>(hch.td b e2).2 e)
  refine blt_append el_51_51 (k4.ext xZ) (m:=1) (news:= [.int .u8 (pk:Int)]) rfl ?_ rfl oM oM oM (fun v5 w6 hs6 hf6 hn6 _=> ?_)
  ·intro q u hq
   have e0:q=0:=by
    cases q with
    |zero=>rfl
    |succ q=>simp at hq
   subst e0
   injection hq with hq;subst hq
   exact (Cells.new w4 [Value.int .u8 (pk:Int)] 5).cell (i:=0) (by simp)
  have hf6':Frm (fun b=>c.k.ownBlock=some b) w4 w6:=(Frm.of_ext (Ext.alloc_self w4 _)).trans hf6 (fun _ _ h=>h)
  have b6:=b4.frm hf6' hch.ne.2.1
  have d6:w6.cell? ⟨c.b,0,none⟩=some c.t:=b6.cell (i:=0) oM
  have d7:w6.cell? ⟨c.b,1,none⟩=some c.k:=b6.cell (i:=1) oM
  have fz:=b6.frz
  have ltb6:=b6.lt
  have b7:=b6.set (i:=0) v3 oM
  have d8:(w6.setCell ⟨c.b,0,none⟩ v3).cell? ⟨c.b,1,none⟩=some c.k:=b7.cell (i:=1) oM
  have fz8:=b7.frz 1
  have iv3:=isOne_sl hs4
  have iv5:=isOne_sl hs6
  have hs4':SlO w4 3 1 v3 ((T k).length+1) (i64L (T k)++ [.int .i64 (ii:Int)]):=hs4
  have tk:=hch.take hs4' hf4' (fun b hb=>(hn4' b hb).imp id (fun h=>by simp only [RZ] at h;omega)) hs6 hf6' (fun b hb=>(hn6 b hb).imp id (fun h=>by rw [size_alloc] at h;omega))
  have fF:=hput (c':=⟨c.b,v3,v5,c.d⟩) tk.2.1 (fun x hx=>hx) rfl tk.1 tk.2.2
  have eF:Ext wN ((w6.setCell ⟨c.b,0,none⟩ v3).setCell ⟨c.b,1,none⟩ v5):=ext_frm e03 tk.2.1 (fun x hx=>(c3.fr k a0.1 (upd_eq _ _ _) x (by rw [hcc];exact hx)).1)
  simp (disch:=try exact dZ) only [↓RBp,↓RA,↓reduceIte,Nat.reduceAdd,Nat.reduceMul,Nat.reduceEqDiff,RB,RX,RA2,d6,d7,fz,d8,fz8,stS1 (t:=50) (by kernel_rfl) c.b 0 v3 w6 _ iv3,stS1 (t:=51) (by kernel_rfl) c.b 1 v5 (w6.setCell ⟨c.b,0,none⟩ v3) _ iv5,e5]
  have un:upd (fun _=>([]:List Int)) k []=fun _=> []:=upd_self _ _
  rw [un] at fF
  exact hfin _ _ eF fF
 ·have hj2:j=keep.length:=by omega
  subst hj2
  rw [List.take_length] at c1
  unfold f42_l3_t
  simp (disch:=try exact dZ) only [↓RBp,↓RA,↓reduceIte,Nat.reduceAdd,Nat.reduceMul,Nat.reduceEqDiff,RB,RX,RA2]
  exact hK _ C1 e1 c1
theorem ac_l4 (h:HpS w0 wN Y D H n f R) (e:Ext wN w) (hC:ChgS wN.heap.size w mb cb n C (lvL keep) (tkL f keep) (knL keep) (fun _=> [])) {m:Nat} {a:Option Addr} {cap:Nat} (hS:RdS m wN (.slice a free.length cap) (u64L free)) (hk8:free.length<1000000) (fr:∀p∈free,Liv D f n p) (K:K1)
  (hK:∀w' C',Ext wN w'→ChgS wN.heap.size w' mb cb n C' (fun k=>lvL keep k||lvL free k) (tkL f keep) (knL keep) (tkL f free)→f42_k4 K (hpV H) (.pointer (some ⟨cb,0,none⟩)) w'):
  f42_l4 K (hpV H) (.pointer (some ⟨cb,0,none⟩)) (.func (.func 95) #[] #[.pointer (some ⟨cb,0,none⟩)]) (.slice a free.length cap) (.int .i64 (free.length:Int)) (.int .i64 0) w:=by
 have hn4:=h.n4
 have n0:=hC.n0
 refine f42_l4_rule _ _ _ _ _ _ _ _ (fun z w1=>∃j C',z= .int .i64 ((j:Nat):Int)∧j≤free.length∧Ext wN w1∧ChgS wN.heap.size w1 mb cb n C' (fun k=>lvL keep k||lvL (free.take j) k) (tkL f keep) (knL keep) (tkL f (free.take j))) (fun z _=>free.length-(intOf z).toNat) ⟨0,C,rfl,by omega,e,by
  have e1:(fun k=>lvL keep k||lvL (free.take 0) k)=lvL keep:=by funext k;simp [lvL]
  have e2:tkL f (free.take 0)=fun _=> []:=by funext k;simp [tkL]
  rw [e1,e2];exact hC⟩ ?_
 intros
 rename_i z w1 hI E1 hE1
 obtain ⟨j,C1,rfl,hj,e1,c1⟩:=hI
 by_cases hjl:j<free.length
 ·obtain ⟨sb,so,sc,ev1,hc⟩:=(hS.ext e1).get (u64L_get hjl)
  injection ev1 with ev1 _ ev2
  subst ev1;subst ev2
  obtain ⟨p,hp⟩:∃p,free[j]=p:=⟨_,rfl⟩
  have hpm:p∈free:=hp▸List.getElem_mem hjl
  have hat:=((fr p hpm).at_ oM h.rg)
  obtain ⟨k,hkk⟩:∃k,hk p=k:=⟨_,rfl⟩
  have ht:free.take (j+1)=free.take j++ [p]:=by rw [List.take_succ_eq_append_getElem hjl,hp]
  have hfin:∀wF C',Ext wN wF→ChgS wN.heap.size wF mb cb n C' (upd (fun k=>lvL keep k||lvL (free.take j) k) k true) (tkL f keep) (knL keep) (upd (tkL f (free.take j)) k (tkL f (free.take j) k++ [(ixP f p:Int)]))→E1 (.int .i64 ((j+1:Nat):Int)) wF:=fun wF C' eF cF=>by
   apply hE1
   ·refine ⟨j+1,C',rfl,by omega,eF,?_⟩
    have el:(fun k=>lvL keep k||lvL (free.take (j+1)) k)=upd (fun k=>lvL keep k||lvL (free.take j) k) k true:=by
     funext q
     rw [ht,lv_snoc,hkk]
     unfold upd
     by_cases e:q=k
     ·rw [if_pos e,if_pos e,Bool.or_true]
     ·rw [if_neg e,if_neg e]
    rw [el,ht,tk_snoc,hkk];exact cF
   ·simp [intOf];omega
  rw [hp] at hc
  have a0:=hat.1
  rw [hkk] at a0
  have hpl:=fun (w2:World) (e2:Ext wN w2) (K:K1) hK=>k_place (h.ext e2) a0.1 a0.2.1 a0.2.2.2.1 (show p<18446744073709551616 by omega) a0.2.2.2.2 K hK
  have lT:=len_tkL f (free.take j) k
  have lj:(free.take j).length=j:=by rw [List.length_take];omega
  have e5:(j:Int)+1=((j+1:Nat):Int):=by omega
  generalize tkL f (free.take j)=M at*
  generalize tkL f keep=T at*
  generalize knL keep=Ks at*
  generalize (fun k=>lvL keep k||lvL (free.take j) k)=lv at*
  generalize (f k).1=cc at*
  generalize ixP f p=ii at*
  unfold f42_l4_t
  simp (disch:=try exact dZ) only [↓RBp,↓RA,↓reduceIte,Nat.reduceAdd,Nat.reduceMul,Nat.reduceEqDiff,RB,RX,RA2,hc]
  refine hpl _ (e1.trans xZ) _ (fun w2 e2=> ?_)
  have c2:=(c1.ext (Ext.trans xZ e2))
  have e02:=e1.trans (Ext.trans xZ e2)
  simp (disch:=try exact dZ) only [↓RBp,↓RA,↓reduceIte,Nat.reduceAdd,Nat.reduceMul,Nat.reduceEqDiff,RB,RX,RA2]
  rw [dyn_func (by kernel_rfl)]
  simp only [List.append_toArray,List.nil_append,List.cons_append,List.append_nil]
  refine k_at c2 a0.1 e02.size _ (fun w3 C3 g3 c3=> ?_)
  have e03:Ext wN w3:=ext_frm e02 g3 (fun x hx=>by omega)
  have hch:=c3.ch k a0.1 (upd_eq _ _ _)
  obtain ⟨c,hcc⟩:∃c,C3 k=c:=⟨_,rfl⟩
  have hput:=fun {wF c' m}=>c3.put (w':=wF) (c:=c') (t:=T k) (m:=m) (ks:=Ks k) (G:=(C3 k).own) a0.1 (upd_eq _ _ _)
  rw [hcc] at hch hput ⊢
  have d2:w3.cell? ⟨c.b,2,none⟩=some c.d:=hch.bx.cell (i:=2) oM
  have ltb:=hch.bx.lt
  (repeat' (first|(with_reducible first|refine brS_mk (fun _=> ?_) (fun _=> ?_)|refine And.intro ?_ ?_)|(simp (disch:=try exact dX) only [↓RBp,↓RA,↓reduceIte,Nat.reduceAdd,Nat.reduceMul,Nat.reduceEqDiff,RB,RX,RA2,d2])))
  refine blt_append el_50_50 (hch.d.ext xZ) (m:=1) (news:= [.int .i64 (ii:Int)]) rfl ?_ rfl oM oM oM (fun v3 w4 hs4 hf4 hn4' _=> ?_)
  ·intro q u hq
   have e0:q=0:=by
    cases q with
    |zero=>rfl
    |succ q=>simp at hq
   subst e0
   injection hq with hq;subst hq
   exact (Cells.new w3 [Value.int .i64 (ii:Int)] 3).cell (i:=0) (by simp)
  have hf4':Frm (fun b=>c.d.ownBlock=some b) w3 w4:=(Frm.of_ext (show Ext w3 _ from Ext.alloc (Ext.refl _) _)).trans hf4 (fun _ _ h=>h)
  have b4:=hch.bx.frm hf4' hch.ne.2.2
  have d24:w4.cell? ⟨c.b,2,none⟩=some c.d:=b4.cell (i:=2) oM
  have ltb4:=b4.lt
  have fz:=b4.frz
  have iv3:=isOne_sl hs4
  have hs4':SlO w4 3 1 v3 ((M k).length+1) (i64L (M k)++ [.int .i64 (ii:Int)]):=hs4
  have tk:=hch.drop hs4' hf4' (fun b hb=>(hn4' b hb).imp id (fun h=>by simp only [RZ] at h;omega))
  have fF:=hput (c':=⟨c.b,c.t,c.k,v3⟩) tk.2.1 (fun x hx=>hx) rfl tk.1 tk.2.2
  have eF:Ext wN (w4.setCell ⟨c.b,2,none⟩ v3):=ext_frm e03 tk.2.1 (fun x hx=>(c3.fr k a0.1 (upd_eq _ _ _) x (by rw [hcc];exact hx)).1)
  simp (disch:=try exact dZ) only [↓RBp,↓RA,↓reduceIte,Nat.reduceAdd,Nat.reduceMul,Nat.reduceEqDiff,RB,RX,RA2,d24,fz,stS1 (t:=50) (by kernel_rfl) c.b 2 v3 w4 _ iv3,e5]
  rw [upd_self,upd_self] at fF
  exact hfin _ _ eF fF
 ·have hj2:j=free.length:=by omega
  subst hj2
  rw [List.take_length] at c1
  unfold f42_l4_t
  simp (disch:=try exact dZ) only [↓RBp,↓RA,↓reduceIte,Nat.reduceAdd,Nat.reduceMul,Nat.reduceEqDiff,RB,RX,RA2]
  exact hK _ C1 e1 c1
end
def DsOk (P:List Nat):Prop:=P.Nodup∧0∉P
theorem DsOk.pre {P Q:List Nat} (h:DsOk (P++Q)):DsOk P:=⟨(List.nodup_append.1 h.1).1,fun hm=>h.2 (List.mem_append_left _ hm)⟩
def snL (P:List Nat):KVL:=P.map fun (x:Nat)=>((x:Int),Value.bool true)
theorem sn_get (P:List Nat) (p:Nat):(getL (snL P) (p:Int)).getD (.bool false)= .bool (decide (p∈P)):=by
 cases hg:getL (snL P) (p:Int) with
 |none=>
  have:p∉P:=fun hm=>getL_none.1 hg ((p:Int),.bool true) (List.mem_map.2 ⟨p,hm,rfl⟩) rfl
  rw [decide_eq_false this];rfl
 |some v=>
  obtain ⟨x,hx,e⟩:=List.mem_map.1 (getL_mem hg)
  injection e with e1 e2
  have:x=p:=by omega
  subst this;subst e2
  rw [decide_eq_true hx];rfl
theorem sn_set {P:List Nat} {p:Nat} (h:p∉P):setL (snL P) (p:Int) (.bool true)=snL (P++ [p]):=by
 have:getL (snL P) (p:Int)=none:=getL_none.2 fun q hq e=>by
  obtain ⟨x,hx,e2⟩:=List.mem_map.1 hq
  rw [←e2] at e
  have:x=p:=by
   have:(x:Int)=(p:Int):=e
   omega
  exact h (this▸hx)
 unfold setL
 rw [if_neg (by rw [this];simp)]
 simp [snL]
theorem mTs:MapT prog .u64 214 (.bool false):=⟨27,4,by kernel_rfl,by kernel_rfl,by kernel_rfl⟩
section
variable {w w1 w':World} {sm m:Nat} {L P:List Nat}
theorem ds_l2 {a:Option Addr} {cap:Nat} (hL:RdS m w (.slice a L.length cap) (u64L L)) (hm:m≤w.heap.size) (hl:L.length<1000000) (hx:∀x∈L,x<18446744073709551616) (e1:Ext w w1) (hs:MapK .u64 w1 sm (snL P)) (hn:w.heap.size≤sm) (hok:DsOk P) (x9 x10 x11:Value) (K:K1) (E1:Value→World→Prop)
  (hno:¬DsOk (P++L)→∀w',Ext w w'→K (.bool false) w')
  (hyes:∀w',Ext w w'→MapK .u64 w' sm (snL (P++L))→DsOk (P++L)→f94_k2 K E1 (.map (some sm)) x9 x10 x11 w'):
  f94_l2 K E1 (.map (some sm)) x9 x10 x11 (.slice a L.length cap) (.int .i64 (L.length:Int)) (.int .i64 0) w1:=by
 apply f94_l2_rule (I:=fun z w2=>∃i:Nat,z= .int .i64 (i:Int)∧i≤L.length∧Ext w w2∧MapK .u64 w2 sm (snL (P++L.take i))∧DsOk (P++L.take i)) (μ:=fun z _=>L.length-(intOf z).toNat)
 ·exact ⟨0,rfl,by omega,e1,by simpa using hs,by simpa using hok⟩
 ·intros
  rename_i w2 hI E2 hE
  obtain ⟨i,rfl,hi,e2,hs2,ok2⟩:=hI
  unfold f94_l2_t
  by_cases hil:i<L.length
  ·obtain ⟨sb,so,sc,ev1,hc⟩:=(hL.ext e2).get (u64L_get hil)
   injection ev1 with ev1 _ ev2
   subst ev1;subst ev2
   have hxi:=hx L[i] (List.getElem_mem hil)
   have ht:P++L.take (i+1)=(P++L.take i)++ [L[i]]:=by rw [List.take_succ_eq_append_getElem hil,List.append_assoc]
   have hsub:DsOk (P++L)→DsOk ((P++L.take i)++ [L[i]]):=fun h=>by
    rw [←ht]
    have:P++L=(P++L.take (i+1))++L.drop (i+1):=by rw [List.append_assoc,List.take_append_drop]
    rw [this] at h;exact h.pre
   have hfin:∀w3,Ext w w3→MapK .u64 w3 sm (snL ((P++L.take i)++ [L[i]]))→DsOk ((P++L.take i)++ [L[i]])→E2 (.int .i64 ((i+1:Nat):Int)) w3:=fun w3 e3 h3 o3=>by
    apply hE
    ·exact ⟨i+1,rfl,by omega,e3,by rw [ht];exact h3,by rw [ht];exact o3⟩
    ·simp [intOf];omega
   have ei:(i:Int)+1=((i+1:Nat):Int):=by omega
   generalize P++L.take i=Q at*
   generalize L[i]=p at*
   have hlk:∀(w3:World) (K:K1),Ext w2 w3→ev prog (Instr.lookup 214 (.map (some sm)) (.int .u64 (p:Int)) false) w3 K=K (.bool (decide (p∈Q))) w3:=fun w3 K e=>by rw [ev_lookupK1 mTs (hs2.ext e),sn_get]
   by_cases p0:p=0
   ·have hnil0:∀(w1:World) (K:K1),callS prog 73 #[.int .u64 (p:Int)] w1 K=K (.bool true) w1:=fun w1 K=>by rw [c_PNil p w1 K hxi,decide_eq_true p0]
    simp (disch:=try exact dZ) only [↓RBp,↓RA,↓reduceIte,Nat.reduceAdd,Nat.reduceMul,Nat.reduceEqDiff,RB,RX,RA2,hc,hnil0]
    exact hno (fun h=>(hsub h).2 (by rw [p0];simp)) _ (e2.trans xZ)
   ·have hnil0:∀(w1:World) (K:K1),callS prog 73 #[.int .u64 (p:Int)] w1 K=K (.bool false) w1:=fun w1 K=>by rw [c_PNil p w1 K hxi,decide_eq_false p0]
    by_cases pq:p∈Q
    ·rw [decide_eq_true pq] at hlk
     simp (disch:=try exact dX) only [↓RBp,↓RA,↓reduceIte,Nat.reduceAdd,Nat.reduceMul,Nat.reduceEqDiff,RB,RX,RA2,hc,hnil0,hlk]
     exact hno (fun h=>by
      have:=(List.nodup_append.1 (hsub h).1).2.2 p pq p (by simp)
      exact this rfl) _ (e2.trans xZ)
    ·rw [decide_eq_false pq] at hlk
     simp (disch:=try exact dX) only [↓RBp,↓RA,↓reduceIte,Nat.reduceAdd,Nat.reduceMul,Nat.reduceEqDiff,RB,RX,RA2,hc,hnil0,hlk]
     refine ac_setK mTs (hs2.ext xZ) _ _ (fun w3 m3 g3=> ?_)
     rw [sn_set pq] at m3
     have e3:Ext w w3:=ext_frm (e2.trans xZ) g3 (fun x h=>by omega)
     simp (disch:=try exact dZ) only [↓RBp,↓RA,↓reduceIte,Nat.reduceAdd,Nat.reduceMul,Nat.reduceEqDiff,RB,RX,RA2,ei]
     refine hfin _ e3 m3 ⟨List.nodup_append.2 ⟨ok2.1,by simp,fun x hx y hy e=> ?_⟩,fun h=> ?_⟩
     ·simp only [List.mem_singleton] at hy
      subst hy;subst e;exact pq hx
     ·rcases List.mem_append.1 h with h|h
      ·exact ok2.2 h
      ·simp only [List.mem_singleton] at h
       exact p0 h.symm
  ·have:i=L.length:=by omega
   subst this
   rw [List.take_length] at hs2 ok2
   simp (disch:=try exact dZ) only [↓RBp,↓RA,↓reduceIte,Nat.reduceAdd,Nat.reduceMul,Nat.reduceEqDiff,RB,RX,RA2]
   exact hyes _ e2 hs2 ok2
theorem k_distinct {A B:List Nat} {va vb:Value} (hA:RdS m w va (u64L A)) (hB:RdS m w vb (u64L B)) (hm:m≤w.heap.size) (hl:A.length<1000000∧B.length<1000000) (hx:∀x∈A++B,x<18446744073709551616) {b cap:Nat} (c0:w.cell? ⟨b,0,none⟩=some va) (c1:w.cell? ⟨b,1,none⟩=some vb) (K:K1)
  (hno:¬DsOk (A++B)→∀w',Ext w w'→K (.bool false) w')
  (hyes:DsOk (A++B)→∀w',Ext w w'→K (.bool true) w'):
  callS prog 94 #[.slice (some ⟨b,0,none⟩) 2 cap] w K:=by
 have lA:(u64L A).length=A.length:=by simp [u64L]
 have lB:(u64L B).length=B.length:=by simp [u64L]
 obtain ⟨aA,cA,rfl,_⟩:=id hA
 obtain ⟨aB,cB,rfl,_⟩:=id hB
 rw [lA] at hA c0;rw [lB] at hB c1
 refine f94_call _ _ _ ?_
 unfold f94_t
 simp (disch:=try exact dZ) only [↓RBp,↓RA,↓reduceIte,Nat.reduceAdd,Nat.reduceMul,Nat.reduceEqDiff,RB,RX,RA2]
 have hmk:(w.alloc (.map #[] 0)).heap[w.heap.size]? =some (.map #[] 0):=heap_alloc_eq _ _
 have m1:MapK .u64 (w.alloc (.map #[] 0)) w.heap.size (snL []):=MapK.empty hmk
 have e01:Ext w (w.alloc (.map #[] 0)):=Ext.alloc_self _ _
 refine f94_l1_rule _ _ _ _ _ _ (fun z w2=>Ext w w2∧((z= .int .i64 0∧MapK .u64 w2 w.heap.size (snL [])∧DsOk [])∨(z= .int .i64 1∧MapK .u64 w2 w.heap.size (snL A)∧DsOk A)∨(z= .int .i64 2∧DsOk (A++B)))) (fun z _=>2-(intOf z).toNat) ⟨e01,.inl ⟨rfl,m1,by simp [DsOk]⟩⟩ ?_
 intros
 rename_i z w2 hI E1 hE
 obtain ⟨e2,hI⟩:=hI
 have c02:=e2.cell_some c0
 have c12:=e2.cell_some c1
 unfold f94_l1_t
 rcases hI with ⟨rfl,hs,ok⟩|⟨rfl,hs,ok⟩|⟨rfl,ok⟩
 ·simp (disch:=try exact dZ) only [↓RBp,↓RA,↓reduceIte,Nat.reduceAdd,Nat.reduceMul,Nat.reduceEqDiff,RB,RX,RA2,Int.toNat_zero,c02]
  refine ds_l2 hA hm hl.1 (fun x h=>hx x (List.mem_append_left _ h)) (e2.trans xZ) (hs.ext xZ) (Nat.le_refl _) ok _ _ _ _ _ (fun hn w3 e3=>hno (fun h=>hn (by simpa using h.pre)) w3 e3) (fun w3 e3 hs3 ok3=> ?_)
  rw [f94_k2_eq]
  unfold f94_k2_t
  simp (disch:=try exact dZ) only [↓RBp,↓RA,↓reduceIte,Nat.reduceAdd,Nat.reduceMul,Nat.reduceEqDiff,RB,RX,RA2]
  apply hE
  ·exact ⟨e3.trans xZ,.inr (.inl ⟨rfl,by simpa using hs3.ext xZ,by simpa using ok3⟩)⟩
  ·simp [intOf]
 ·simp (disch:=try exact dZ) only [↓RBp,↓RA,↓reduceIte,Nat.reduceAdd,Nat.reduceMul,Nat.reduceEqDiff,RB,RX,RA2,Int.toNat_one,c12]
  refine ds_l2 hB hm hl.2 (fun x h=>hx x (List.mem_append_right _ h)) (e2.trans xZ) (hs.ext xZ) (Nat.le_refl _) ok _ _ _ _ _ (fun hn w3 e3=>hno hn w3 e3) (fun w3 e3 hs3 ok3=> ?_)
  rw [f94_k2_eq]
  unfold f94_k2_t
  simp (disch:=try exact dZ) only [↓RBp,↓RA,↓reduceIte,Nat.reduceAdd,Nat.reduceMul,Nat.reduceEqDiff,RB,RX,RA2]
  apply hE
  ·exact ⟨e3.trans xZ,.inr (.inr ⟨rfl,ok3⟩)⟩
  ·simp [intOf]
 ·simp (disch:=try exact dZ) only [↓RBp,↓RA,↓reduceIte,Nat.reduceAdd,Nat.reduceMul,Nat.reduceEqDiff,RB,RX,RA2,f94_k1_eq,f94_k1_t]
  exact hyes ok _ (e2.trans xZ)
end
def lvF (keep free:List Nat) (k:Nat):Bool:=lvL keep k||lvL free k
def chK (keep free:List Nat) (n:Nat):List Nat:=(List.range n).filter (lvF keep free)
def lnK (k:Nat):Int:=((26+32*k:Nat):Int)
section
variable {w0 wN w w':World} {Y:Lay} {D:DS} {H:HL} {n mb cb m:Nat} {f:Idx} {R keep free:List Nat} {C:Nat→CgB}
theorem lv_tk {L:List Nat} {k:Nat} (h:lvL L k=false):tkL f L k= []:=by
 unfold tkL
 rw [List.filter_eq_nil_iff.2 (fun p hp=>by
  unfold lvL at h
  rw [List.any_eq_false] at h
  exact h p hp)]
 rfl
theorem lv_wsK {k:Nat} (h:lvF keep free k=false):wsK D f keep free k= []:=by
 unfold lvF at h
 rw [Bool.or_eq_false_iff] at h
 unfold wsK
 rw [lv_tk h.1,lv_tk h.2]
 unfold actN
 rw [if_pos (by simp)];rfl
theorem pub_flat:∀m,pubW D f keep free m=(chK keep free m).flatMap (wsK D f keep free):=by
 intro m
 induction m with
 |zero=>rfl
 |succ m ih=>
  unfold chK at ih ⊢
  unfold pubW
  rw [List.range_succ,List.filter_append,List.flatMap_append,ih]
  congr 1
  by_cases hl:lvF keep free m=true
  ·simp [hl]
  ·have hl:lvF keep free m=false:=by simpa using hl
   simp [hl,lv_wsK hl]
theorem chK_mem {k:Nat} (h:k∈chK keep free n):k<n∧lvF keep free k=true:=by
 unfold chK at h
 rw [List.mem_filter,List.mem_range] at h
 exact h
theorem keys_perm {L:KVL} (hn:(L.map (·.1)).Nodup) (h1:∀p∈L,∃k,k<n∧p.1=((26+32*k:Nat):Int)) {g:Nat→Value} (h2:∀k,k<n→getL L ((26+32*k:Nat):Int)=if lvF keep free k=true then some (g k) else none):(L.map (·.1)).Perm ((chK keep free n).map lnK):=by
 have hn2:((chK keep free n).map lnK).Nodup:=nodup_map_on _ (fun a _ b _ e=>by unfold lnK at e;omega) (List.nodup_range.filter _)
 refine (List.perm_ext_iff_of_nodup hn hn2).2 (fun a=>⟨fun ha=> ?_,fun ha=> ?_⟩)
 ·obtain ⟨p,hp,rfl⟩:=List.mem_map.1 ha
  obtain ⟨k,hk,e⟩:=h1 p hp
  have hg:=h2 k hk
  have hl:lvF keep free k=true:=by
   by_cases hl:lvF keep free k=true
   ·exact hl
   ·rw [if_neg hl] at hg
    exact absurd e (getL_none.1 hg p hp)
  exact List.mem_map.2 ⟨k,by unfold chK;rw [List.mem_filter,List.mem_range];exact ⟨hk,hl⟩,e.symm⟩
 ·obtain ⟨k,hk,rfl⟩:=List.mem_map.1 ha
  have hk:=chK_mem hk
  have hg:=h2 k hk.1
  rw [if_pos hk.2] at hg
  exact List.mem_map.2 ⟨_,getL_mem hg,rfl⟩
theorem keys_sorted {s:List Int} (h:s.Perm ((chK keep free n).map lnK)):(s.mergeSort fun x y=>decide (x≤y))=(chK keep free n).map lnK:=by
 refine List.Perm.eq_of_pairwise (le:=fun a b:Int=>a≤b) (fun a b _ _ h1 h2=>by omega) ?_ ?_ ((List.mergeSort_perm s _).trans h)
 ·have:=List.pairwise_mergeSort (le:=fun x y:Int=>decide (x≤y)) (fun a b c h1 h2=>by simp at*;omega) (fun a b=>by simp;omega) s
  exact this.imp (fun h=>by simpa using h)
 ·refine List.Pairwise.map (R:=fun a b:Nat=>a<b) lnK (fun a b h=>by unfold lnK;omega) ?_
  exact List.Pairwise.filter _ List.pairwise_lt_range
theorem wr_one:∀(l:List (Nat×Nat)),allOne (wrL l)=true:=by
 intro l
 induction l with
 |nil=>rfl
 |cons x l ih=>obtain ⟨a,b⟩:=x;simp [wrL,allOne,isOne,ih]
theorem PubIn.pos (P:PubIn D f n keep free) {k:Nat} (hkn:k<n) (hl:lvF keep free k=true):0≤(f k).1∧0<(wsK D f keep free k).length:=by
 have h0:0≤(f k).1∧¬(tkL f keep k= []∧tkL f free k= []):=by
  unfold lvF at hl
  rcases Bool.or_eq_true_iff.1 hl with h|h
  ·unfold lvL at h
   obtain ⟨p,hp,e⟩:=List.any_eq_true.1 h
   have e:hk p=k:=by simpa using e
   have a:=((P.kp p hp).at_ P.n4 P.rg).1
   rw [e] at a
   exact ⟨a.2.1,fun hh=>by
    have:(ixP f p:Int)∈tkL f keep k:=mem_tkL.2 ⟨p,hp,e,rfl⟩
    rw [hh.1] at this;cases this⟩
  ·unfold lvL at h
   obtain ⟨p,hp,e⟩:=List.any_eq_true.1 h
   have e:hk p=k:=by simpa using e
   have a:=((P.fr p hp).at_ P.n4 P.rg).1
   rw [e] at a
   exact ⟨a.2.1,fun hh=>by
    have:(ixP f p:Int)∈tkL f free k:=mem_tkL.2 ⟨p,hp,e,rfl⟩
    rw [hh.2] at this;cases this⟩
 refine ⟨h0.1,?_⟩
 have a:=P.act hkn h0.1
 rcases (actN_spec a.1.len a.2).2.2 with ⟨_,e1,e2⟩|e
 ·exact absurd ⟨e1,e2⟩ h0.2
 ·rw [e,List.length_append,List.length_append]
  simp only [List.length_cons,List.length_nil]
  omega
theorem ac_l5 (h:HpS w0 wN Y D H n f R) (P:PubIn D f n keep free) (e:Ext wN w) (hC:ChgS wN.heap.size w mb cb n C (lvF keep free) (tkL f keep) (knL keep) (tkL f free)) (hl:keep.length≤100000∧free.length≤100000) {a:Option Addr} {cap:Nat} (hS:SlO w 3 1 (.slice a (chK keep free n).length cap) (chK keep free n).length (i64L ((chK keep free n).map lnK))) (K:K1)
  (hK:∀v' w',Ext w w'→NewV w.heap.size v'→SlO w' 98 2 v' (pubW D f keep free n).length (wrL (pubW D f keep free n))→f42_k5 K (hpV H) v' w'):
  f42_l5 K (hpV H) (.pointer (some ⟨cb,0,none⟩)) (.slice none 0 0) (.slice a (chK keep free n).length cap) (.int .i64 ((chK keep free n).length:Int)) (.int .i64 0) w:=by
 have hn4:=h.n4
 have ltP:=P.le
 rw [pub_flat] at hK ltP
 have mem:=fun (k:Nat) (hk:k∈chK keep free n)=>chK_mem hk
 have hfl:∀(j:Nat) (hj:j<(chK keep free n).length),((chK keep free n).take (j+1)).flatMap (wsK D f keep free)=((chK keep free n).take j).flatMap (wsK D f keep free)++wsK D f keep free (chK keep free n)[j]:=fun j hj=>by
  rw [List.take_succ_eq_append_getElem hj,List.flatMap_append];simp
 have hle:∀j,(((chK keep free n).take j).flatMap (wsK D f keep free)).length≤2*(keep.length+free.length):=fun j=>by
  have:(chK keep free n).flatMap (wsK D f keep free)=((chK keep free n).take j).flatMap (wsK D f keep free)++((chK keep free n).drop j).flatMap (wsK D f keep free):=by
   rw [←List.flatMap_append,List.take_append_drop]
  rw [this,List.length_append] at ltP
  omega
 have lkn:(chK keep free n).length≤n:=by
  unfold chK
  exact Nat.le_trans (List.length_filter_le _ _) (by rw [List.length_range];exact Nat.le_refl n)
 obtain ⟨KS,hKS⟩:∃KS,chK keep free n=KS:=⟨_,rfl⟩
 rw [hKS] at hS hK mem hfl hle lkn ⊢
 have lks:∀(j:Nat) (hj:j<KS.length),(i64L (KS.map lnK))[j]? =some (.int .i64 ((26+32*KS[j]:Nat):Int)):=fun j hj=>by simp [hj,lnK]
 have hRd:RdS w.heap.size w (.slice a KS.length cap) (i64L (KS.map lnK)):=by
  have lk:(i64L (KS.map lnK)).length=KS.length:=by simp
  refine RdS.of_slR (t:=3) ?_
  rw [lk];exact hS
 refine f42_l5_rule _ _ _ _ _ _ _ _ (fun v z w1=>∃j,z= .int .i64 ((j:Nat):Int)∧j≤KS.length∧Ext w w1∧NewV w.heap.size v∧SlO w1 98 2 v ((KS.take j).flatMap (wsK D f keep free)).length (wrL ((KS.take j).flatMap (wsK D f keep free)))) (fun _ z _=>KS.length-(intOf z).toNat) ⟨0,rfl,by omega,Ext.refl _,(fun b hb=>by cases hb),SlO.nil _ _ _⟩ ?_
 intros
 rename_i v z w1 hI E1 hE1
 obtain ⟨j,rfl,hj,e1,nv,sv⟩:=hI
 have e01:=e.trans e1
 by_cases hjl:j<KS.length
 ·obtain ⟨sb,so,sc,ev1,hc⟩:=(hRd.ext e1).get (lks j hjl)
  have lk:(i64L (KS.map lnK)).length=KS.length:=by simp
  rw [lk] at ev1
  injection ev1 with ev1 _ ev2
  subst ev1;subst ev2
  obtain ⟨k,hkk⟩:∃k,KS[j]=k:=⟨_,rfl⟩
  have hkm:=mem k (hkk▸List.getElem_mem hjl)
  rw [hkk] at hc
  have hf1:=hfl j hjl
  rw [hkk] at hf1
  have hle1:=hle (j+1)
  have hps:=P.pos hkm.1 hkm.2
  have hac:=P.act hkm.1 hps.1
  have c1:=hC.ext e1
  have hch:=c1.ch k hkm.1 hkm.2
  have hfin:∀v2 w2,Ext w w2→NewV w.heap.size v2→SlO w2 98 2 v2 (((KS.take j).flatMap (wsK D f keep free)).length+(wsK D f keep free k).length) (wrL ((KS.take j).flatMap (wsK D f keep free))++wrL (wsK D f keep free k))→E1 v2 (.int .i64 ((j+1:Nat):Int)) w2:=fun v2 w2 e2 n2 s2=>by
   apply hE1
   ·refine ⟨j+1,rfl,by omega,e2,n2,?_⟩
    rw [hf1,wrL_append,List.length_append];exact s2
   ·simp [intOf];omega
  rw [hf1,List.length_append] at hle1
  have e5:(j:Int)+1=((j+1:Nat):Int):=by omega
  have hop:=h.open hkm.1 hps.1
  have hcx:=h.cx hkm.1 hps.1
  have her0:=h.er 0 oM
  have q0:=(h.ext e01).cell.1
  have ltp:=(h.ext e01).ltp
  obtain ⟨L,mpL,_,hgL⟩:=c1.mp
  have hlk:∀(w2:World) (K:Value→Prop),Ext w1 w2→rd prog (Instr.lookup 159 (.map (some mb)) (.int .i64 ((26+32*k:Nat):Int)) false) w2 K=K (.pointer (some ⟨(C k).b,0,none⟩)):=fun w2 K e2=>by rw [rd_lookupK1 mTc (mpL.ext e2),hgL k hkm.1,if_pos hkm.2];rfl
  have d0:∀w2,Ext w1 w2→w2.cell? ⟨(C k).b,0,none⟩=some (C k).t:=fun w2 e2=>(hch.bx.ext e2).cell (i:=0) oM
  have d1:∀w2,Ext w1 w2→w2.cell? ⟨(C k).b,1,none⟩=some (C k).k:=fun w2 e2=>(hch.bx.ext e2).cell (i:=1) oM
  have d2:∀w2,Ext w1 w2→w2.cell? ⟨(C k).b,2,none⟩=some (C k).d:=fun w2 e2=>(hch.bx.ext e2).cell (i:=2) oM
  have dc:∀w2,Ext w1 w2→w2.cell? ⟨cb,0,none⟩=some (.map (some mb)):=fun w2 e2=>(c1.cx.ext e2).cell (i:=0) oM
  have rt:RdS w1.heap.size w1 (C k).t (i64L (tkL f keep k)):=RdS.of_slR (t:=3) (by rw [show (i64L (tkL f keep k)).length=(tkL f keep k).length by simp];exact hch.t)
  have rk:RdS w1.heap.size w1 (C k).k (u8L (knL keep k)):=RdS.of_slR (t:=5) (by rw [show (u8L (knL keep k)).length=(knL keep k).length by simp];exact hch.k)
  have rd2:RdS w1.heap.size w1 (C k).d (i64L (tkL f free k)):=RdS.of_slR (t:=3) (by rw [show (i64L (tkL f free k)).length=(tkL f free k).length by simp];exact hch.d)
  have l1:=len_tkL f keep k
  have l2:=len_tkL f free k
  have l3:(knL keep k).length≤keep.length:=by unfold knL;rw [List.length_map];exact List.length_filter_le _ _
  have k8:∀x∈knL keep k,x<256:=fun x hx=>by have:=hac.1.kin x hx;omega
  have hact:=fun (w2:World) (e2:Ext w1 w2) (K:K1) hb hno hy=>k_Actions (hcx.ext (e01.trans e2)) her0 (f k).2.1 (gX (wd D (26+32*k) 0)) (tkL f keep k) (tkL f free k) (knL keep k) (C k).t (C k).k (C k).d (rt.ext e2) (rk.ext e2) (rd2.ext e2) oM oM oM k8 K hb hno hy
  have hacN:=hac.2
  have hacA:=hac.1
  generalize wsK D f keep free k=W at*
  generalize ((KS.take j).flatMap (wsK D f keep free))=W0 at*
  generalize (f k).1=cc at*
  generalize (f k).2.1=oo at*
  generalize gX (wd D (26+32*k) 0)=gg at*
  unfold f42_l5_t
  simp (disch:=try exact dZ) only [↓RBp,↓RA,↓reduceIte,Nat.reduceAdd,Nat.reduceMul,Nat.reduceEqDiff,RB,RX,RA2,hc,q0]
  refine hop _ _ (e01.trans xZ) (fun w2 e2=> ?_)
  have e12:Ext w1 w2:=Ext.trans xZ e2
  have hN:=Cells.new w2 [Value.iface 31 (.pointer (some ⟨Y.tb 0,0,none⟩)),.int .i64 ((26+32*k:Nat):Int),.int .i64 cc,.int .i64 oo,.int .u16 (gg:Int)] 134
  have ob5:=chD hN;have g0:=ob5.1;have g1:=ob5.2.1;have g2:=ob5.2.2.1;have g3:=ob5.2.2.2.1;have g4:=ob5.2.2.2.2
  have ea:Ext w1 (w2.alloc (.cells #[Value.iface 31 (.pointer (some ⟨Y.tb 0,0,none⟩)),.int .i64 ((26+32*k:Nat):Int),.int .i64 cc,.int .i64 oo,.int .u16 (gg:Int)] 134)):=e12.trans (Ext.alloc_self _ _)
  have a0:=d0 _ ea
  have a1:=d1 _ ea
  have a2:=d2 _ ea
  have ac:=dc _ ea
  have hlk':=fun K=>hlk _ K ea
  simp (disch:=try exact dX) only [↓RBp,↓RA,↓reduceIte,Nat.reduceAdd,Nat.reduceMul,Nat.reduceEqDiff,RB,RX,RA2,g0,g1,g2,g3,g4,a0,a1,a2,ac,hlk,hlk']
  refine hact _ (e12.trans xZ) _ (fun hb=>absurd hacA hb) (fun _ hn=>by rw [hacN] at hn;cases hn) (fun _ ws hws v3 w3 e3 n3 s3=> ?_)
  rw [hacN] at hws
  injection hws with hws
  subst hws
  obtain ⟨xb,xo,xc,rfl,_⟩:=s3.isS hps.2
  have e13:Ext w1 w3:=e12.trans (Ext.trans xZ e3)
  simp (disch:=try exact dX) only [↓RBp,↓RA,↓reduceIte,Nat.reduceAdd,Nat.reduceMul,Nat.reduceEqDiff,RB,RX,RA2]
  refine blt_append elWrite (sv.ext (e13.trans xZ)) (m:=W.length) (news:=wrL W) (wrL_length W) (fun j u hj=>s3.cell rfl hj) (wr_one W) hps.2 oM oM (fun v4 w4 s4 f4 n4' _=> ?_)
  simp (disch:=try exact dZ) only [↓RBp,↓RA,↓reduceIte,Nat.reduceAdd,Nat.reduceMul,Nat.reduceEqDiff,RB,RX,RA2,e5]
  refine hfin v4 _ (ext_frm (e1.trans e13) f4 (fun x hx=>nv x hx)) (fun b hb=> ?_) s4
  rcases n4' b hb with h1|h1
  ·exact nv b h1
  ·have:=(e1.trans e13).size
   omega
 ·have hj2:j=KS.length:=by omega
  subst hj2
  rw [List.take_length] at sv
  unfold f42_l5_t
  simp (disch:=try exact dZ) only [↓RBp,↓RA,↓reduceIte,Nat.reduceAdd,Nat.reduceMul,Nat.reduceEqDiff,RB,RX,RA2]
  exact hK _ _ e1 nv sv
end
section
variable {w0 w w':World} {Y:Lay} {D:DS} {H:HL} {n m mb:Nat} {f:Idx} {R keep free:List Nat} {L:KVL}
theorem ev_mkf {P:Program} (f:Fn) (a b:Array Value) (w:World) (k:K1):ev P (Instr.makeFunc f a b) w k=k (.func f a b) w:=rfl
theorem cellsM (r:Option Nat):(Value.map r).cells= #[.map r]:=rfl
theorem SlO.form {t:TypeId} {z k:Nat} {v:Value} {L:List Value} (h:SlO w t z v k L):∃a cap,v= .slice a k cap:=by
 rcases h.2 with ⟨rfl,rfl⟩|⟨b,o,cap,a,rfl,_⟩
 ·exact ⟨none,0,rfl⟩
 ·exact ⟨_,cap,rfl⟩
theorem k_Sorted (hm:MapK .i64 w mb L) {b:Nat} (hb:Cells w b 159 1 (fun _=> .map (some mb))) (hL:L.length<1000000) (K:K1)
  (hK:∀(s:List Int) v w',s.Perm (L.map (·.1))→Ext w w'→NewV w.heap.size v→SlO w' 3 1 v s.length (i64L (s.mergeSort fun x y=>decide (x≤y)))→K v w'):
  callS prog 96 #[.func (.func 142) #[] #[.pointer (some ⟨b,0,none⟩)]] w K:=by
 refine f96_call _ _ _ ?_
 unfold f96_t
 simp (disch:=try exact dZ) only [↓RBp,↓RA,↓reduceIte,Nat.reduceAdd,Nat.reduceMul,Nat.reduceEqDiff,RB,RX,RA2]
 refine k_Collect hm hb hL _ (fun s v w1 hp e1 n1 s1=> ?_)
 have hl:s.length<1000000:=by
  have:=hp.length_eq
  rw [List.length_map] at this;omega
 simp (disch:=try exact dZ) only [↓RBp,↓RA,↓reduceIte,Nat.reduceAdd,Nat.reduceMul,Nat.reduceEqDiff,RB,RX,RA2]
 refine k_SortI s1 hl _ (fun w2 g2 s2=> ?_)
 exact hK s v w2 hp (ext_frm e1 g2 (fun x hx=>n1 x hx)) n1 s2
theorem PubIn.of (h:HpS w0 w Y D H n f R) (hkp:∀p∈keep,p∈R) (hfr:∀p∈free,Liv D f n p) (hd:DsOk (keep++free)):PubIn D f n keep free:=by
 have nd:=List.nodup_append.1 hd.1
 exact ⟨h.rg,h.n4.1,fun p hp=>h.rv p (hkp p hp),hfr,nodup_map_on _ (fun a ha b hb e=>pO_inj h.nd (hkp a ha) (hkp b hb) e) nd.1,nd.2.1⟩
theorem k_HActions (h:HpS w0 w Y D H n f R) (hkp:∀p∈keep,p∈R) (hfr:∀p∈free,Liv D f n p) {va vb:Value} (hA:RdS m w va (u64L keep)) (hB:RdS m w vb (u64L free)) (hm:m≤w.heap.size) (hl:keep.length≤100000∧free.length≤100000) (K:K1)
  (hno:¬DsOk (keep++free)→∀w',Ext w w'→K (.tuple #[.slice none 0 0,.int .i64 1]) w')
  (hyes:DsOk (keep++free)→PubIn D f n keep free→∀v' w',Ext w w'→NewV w.heap.size v'→SlO w' 98 2 v' (pubW D f keep free n).length (wrL (pubW D f keep free n))→K (.tuple #[v',.int .i64 0]) w'):
  callS prog 42 #[hpV H,va,vb] w K:=by
 have hn4:=h.n4
 have lA:(u64L keep).length=keep.length:=by simp [u64L]
 have lB:(u64L free).length=free.length:=by simp [u64L]
 obtain ⟨aA,cA,rfl,_⟩:=id hA
 obtain ⟨aB,cB,rfl,_⟩:=id hB
 rw [lA] at hA ⊢
 rw [lB] at hB ⊢
 have hr:∀p∈R,p<18446744073709551616:=fun p hp=>by
  have:=((h.rv p hp).kn oM h.rg).2.2.2.1
  omega
 have hx:∀x∈keep++free,x<18446744073709551616:=fun x hx=>by
  rcases List.mem_append.1 hx with hx|hx
  ·exact hr x (hkp x hx)
  ·have:=((hfr x hx).at_ oM h.rg).2.2.1
   omega
 have her:=h.erE
 have q0:=h.cell.1
 have ltp:=h.ltp
 have p5:∀v' w1,Ext w w1→SlO w1 98 2 v' (pubW D f keep free n).length (wrL (pubW D f keep free n))→NewV w.heap.size v'→DsOk (keep++free)→PubIn D f n keep free→f42_k5 K (hpV H) v' w1:=fun v' w1 e1 s1 n1 hd P=>by
  have q01:=(h.ext e1).cell.1
  have lt1:=(h.ext e1).ltp
  rw [f42_k5_eq]
  unfold f42_k5_t
  simp (disch:=try exact dX) only [↓RBp,↓RA,↓reduceIte,Nat.reduceAdd,Nat.reduceMul,Nat.reduceEqDiff,RB,RX,RA2,q01,her]
  exact hyes hd P v' _ (e1.trans xZ) n1 (s1.ext xZ)
 have p4:∀wN w1 mb cb C,Ext w wN→Ext wN w1→ChgS wN.heap.size w1 mb cb n C (lvF keep free) (tkL f keep) (knL keep) (tkL f free)→DsOk (keep++free)→PubIn D f n keep free→f42_k4 K (hpV H) (.pointer (some ⟨cb,0,none⟩)) w1:=fun wN w1 mb cb C eN e1 hC hd P=>by
  obtain ⟨L,mL,h1,h2⟩:=hC.mp
  have hcc:w1.cell? ⟨cb,0,none⟩=some (.map (some mb)):=hC.cx.cell (i:=0) oM
  have ltc:=hC.cx.lt
  have hpm:=keys_perm (keep:=keep) (free:=free) mL.keys h1 h2
  have lkn:(chK keep free n).length≤n:=by
   unfold chK
   exact Nat.le_trans (List.length_filter_le _ _) (by rw [List.length_range];exact Nat.le_refl n)
  have hLl:L.length<1000000:=by
   have:=hpm.length_eq
   rw [List.length_map,List.length_map] at this
   omega
  rw [f42_k4_eq]
  unfold f42_k4_t
  simp (disch:=try exact dZ) only [↓RBp,↓RA,↓reduceIte,Nat.reduceAdd,Nat.reduceMul,Nat.reduceEqDiff,RB,RX,RA2,hcc]
  refine f97_call _ _ _ ?_
  unfold f97_t
  simp (disch:=try exact dZ) only [↓RBp,↓RA,↓reduceIte,Nat.reduceAdd,Nat.reduceMul,Nat.reduceEqDiff,RB,RX,RA2,ev_mkf]
  have hbx:Cells (w1.alloc (.cells #[.map (some mb)] 159)) w1.heap.size 159 1 (fun _=> .map (some mb)):=(Cells.new w1 [.map (some mb)] 159).congr (fun i hi=>by rw [show i=0 by simpa using hi];rfl)
  refine k_Sorted (mL.ext xZ) hbx hLl _ (fun s v w2 hp e2 n2 s2=> ?_)
  have hp2:=hp.trans hpm
  have hln:=hp2.length_eq
  rw [List.length_map] at hln
  rw [keys_sorted hp2,hln] at s2
  have e12:Ext w1 w2:=Ext.trans xZ e2
  obtain ⟨a,cap,rfl⟩:=SlO.form s2
  simp (disch:=try exact dZ) only [↓RBp,↓RA,↓reduceIte,Nat.reduceAdd,Nat.reduceMul,Nat.reduceEqDiff,RB,RX,RA2]
  refine ac_l5 (h.ext eN) P (e1.trans e12) (hC.ext e12) hl s2 K (fun v' w3 e3 n3 s3=> ?_)
  exact p5 v' w3 (eN.trans (e1.trans (e12.trans e3))) s3 (fun b hb=>by have:=n3 b hb;have:=(eN.trans (e1.trans e12)).size;omega) hd P
 have p2:∀w1,Ext w w1→DsOk (keep++free)→PubIn D f n keep free→f42_k2 K (hpV H) (.slice aA keep.length cA) (.slice aB free.length cB) w1:=fun w1 e1 hd P=>by
  have h1:=h.ext e1
  rw [f42_k2_eq]
  unfold f42_k2_t
  have hmk:((w1.alloc (.map #[] 0)).alloc (.cells #[.map (some w1.heap.size)] 159)).heap[w1.heap.size]? =some (.map #[] 0):=by
   rw [heap_alloc_lt _ (by rw [size_alloc];omega)];exact heap_alloc_eq _ _
  have hbx:Cells ((w1.alloc (.map #[] 0)).alloc (.cells #[.map (some w1.heap.size)] 159)) (w1.heap.size+1) 159 1 (fun _=> .map (some w1.heap.size)):=by
   have:=Cells.new (w1.alloc (.map #[] 0)) [.map (some w1.heap.size)] 159
   rw [size_alloc] at this
   exact this.congr (fun i hi=>by rw [show i=0 by simpa using hi];rfl)
  have c0:ChgS w1.heap.size ((w1.alloc (.map #[] 0)).alloc (.cells #[.map (some w1.heap.size)] 159)) w1.heap.size (w1.heap.size+1) n (fun _=>⟨0,undef,undef,undef⟩) (fun _=>false) (fun _=> []) (fun _=> []) (fun _=> []):=
   ⟨⟨[],MapK.empty hmk,fun p hp=>(by cases hp),fun k _=>rfl⟩,hbx,fun k _ hl=>(by cases hl),fun k _ hl=>(by cases hl),fun k j _ _ hl=>(by cases hl),fun k _=>⟨rfl,rfl,rfl⟩,by omega,by omega,by omega⟩
  simp (disch:=try exact dZ) only [↓RBp,↓RA,↓reduceIte,Nat.reduceAdd,Nat.reduceMul,Nat.reduceEqDiff,RB,RX,RA2,cellsM,size_alloc,ev_mkf]
  refine ac_l3 h1 xZ c0 (hA.ext e1) oM P.kp _ K (fun w2 C2 e2 c2=> ?_)
  rw [f42_k3_eq]
  unfold f42_k3_t
  simp (disch:=try exact dZ) only [↓RBp,↓RA,↓reduceIte,Nat.reduceAdd,Nat.reduceMul,Nat.reduceEqDiff,RB,RX,RA2]
  refine ac_l4 h1 (e2.trans xZ) (c2.ext xZ) (hB.ext e1) oM P.fr K (fun w3 C3 e3 c3=> ?_)
  exact p4 w1 w3 _ _ C3 e1 e3 c3 hd P
 have p1:∀w1,Ext w w1→DsOk (keep++free)→PubIn D f n keep free→f42_k1 K (hpV H) (.slice aA keep.length cA) (.slice aB free.length cB) w1:=fun w1 e1 hd P=>by
  rw [f42_k1_eq]
  unfold f42_k1_t
  simp (disch:=try exact dZ) only [↓RBp,↓RA,↓reduceIte,Nat.reduceAdd,Nat.reduceMul,Nat.reduceEqDiff,RB,RX,RA2]
  apply f42_l2_rule (I:=fun z w2=>∃i:Nat,z= .int .i64 (i:Int)∧i≤free.length∧Ext w w2) (μ:=fun z _=>free.length-(intOf z).toNat)
  ·exact ⟨0,rfl,by omega,e1.trans xZ⟩
  ·intros
   rename_i w2 hI E2 hE
   obtain ⟨i,rfl,hi,e2⟩:=hI
   unfold f42_l2_t
   by_cases hil:i<free.length
   ·obtain ⟨sb,so,sc,ev1,hc⟩:=(hB.ext e2).get (u64L_get hil)
    injection ev1 with ev1 _ ev2
    subst ev1;subst ev2
    have hfi:=hfr free[i] (List.getElem_mem hil)
    have hxi:=hx free[i] (List.mem_append_right _ (List.getElem_mem hil))
    have ei:(i:Int)+1=((i+1:Nat):Int):=by omega
    generalize free[i]=p at*
    simp (disch:=try exact dZ) only [↓RBp,↓RA,↓reduceIte,Nat.reduceAdd,Nat.reduceMul,Nat.reduceEqDiff,RB,RX,RA2,hc]
    refine k_hCheck (h.ext (e2.trans xZ)) hxi 0 oM _ (fun _ w3 e3=> ?_) (fun nl=>(nl hfi).elim)
    rw [if_pos (.inl rfl)]
    simp (disch:=try exact dZ) only [↓RBp,↓RA,↓reduceIte,Nat.reduceAdd,Nat.reduceMul,Nat.reduceEqDiff,RB,RX,RA2,ei]
    apply hE
    ·exact ⟨i+1,rfl,by omega,e2.trans (Ext.trans xZ (e3.trans xZ))⟩
    ·simp [intOf];omega
   ·have:i=free.length:=by omega
    subst this
    simp (disch:=try exact dZ) only [↓RBp,↓RA,↓reduceIte,Nat.reduceAdd,Nat.reduceMul,Nat.reduceEqDiff,RB,RX,RA2]
    exact p2 _ (e2.trans xZ) hd P
 have p0:∀w1,Ext w w1→DsOk (keep++free)→PubIn D f n keep free→f42_l1 K (hpV H) (.slice aA keep.length cA) (.slice aB free.length cB) (.slice aA keep.length cA) (.int .i64 (keep.length:Int)) (.int .i64 0) w1:=fun w1 e1 hd P=>by
  apply f42_l1_rule (I:=fun z w2=>∃i:Nat,z= .int .i64 (i:Int)∧i≤keep.length∧Ext w w2) (μ:=fun z _=>keep.length-(intOf z).toNat)
  ·exact ⟨0,rfl,by omega,e1⟩
  ·intros
   rename_i w2 hI E2 hE
   obtain ⟨i,rfl,hi,e2⟩:=hI
   unfold f42_l1_t
   by_cases hil:i<keep.length
   ·obtain ⟨sb,so,sc,ev1,hc⟩:=(hA.ext e2).get (u64L_get hil)
    injection ev1 with ev1 _ ev2
    subst ev1;subst ev2
    have hki:=hkp keep[i] (List.getElem_mem hil)
    have hxi:=hx keep[i] (List.mem_append_left _ (List.getElem_mem hil))
    have ei:(i:Int)+1=((i+1:Nat):Int):=by omega
    generalize keep[i]=p at*
    simp (disch:=try exact dZ) only [↓RBp,↓RA,↓reduceIte,Nat.reduceAdd,Nat.reduceMul,Nat.reduceEqDiff,RB,RX,RA2,hc]
    refine k_holds (h.ext (e2.trans xZ)) hr p hxi _ (fun w3 e3=> ?_)
    rw [decide_eq_true hki]
    simp (disch:=try exact dZ) only [↓RBp,↓RA,↓reduceIte,Nat.reduceAdd,Nat.reduceMul,Nat.reduceEqDiff,RB,RX,RA2,ei]
    apply hE
    ·exact ⟨i+1,rfl,by omega,e2.trans (Ext.trans xZ (e3.trans xZ))⟩
    ·simp [intOf];omega
   ·have:i=keep.length:=by omega
    subst this
    simp (disch:=try exact dZ) only [↓RBp,↓RA,↓reduceIte,Nat.reduceAdd,Nat.reduceMul,Nat.reduceEqDiff,RB,RX,RA2]
    exact p1 _ (e2.trans xZ) hd P
 have hBx:=Cells.new w [Value.slice aA keep.length cA,Value.slice aB free.length cB] 25
 have b0:=hBx.cell (i:=0) (by simp)
 have b1:=hBx.cell (i:=1) (by simp)
 refine f42_call _ _ _ _ _ ?_
 unfold f42_t
 simp (disch:=try exact dZ) only [↓RBp,↓RA,↓reduceIte,Nat.reduceAdd,Nat.reduceMul,Nat.reduceEqDiff,RB,RX,RA2]
 refine k_distinct (hA.ext xZ) (hB.ext xZ) (by rw [size_alloc];omega) oM hx b0 b1 _ (fun hd w1 e1=> ?_) (fun hd w1 e1=> ?_)
 ·simp (disch:=try exact dZ) only [↓RBp,↓RA,↓reduceIte,Nat.reduceAdd,Nat.reduceMul,Nat.reduceEqDiff,RB,RX,RA2]
  exact hno hd _ (Ext.trans (Ext.alloc_self _ _) (e1.trans xZ))
 ·have e01:Ext w w1:=Ext.trans (Ext.alloc_self _ _) e1
  have q01:=(h.ext e01).cell.1
  have lt1:=(h.ext e01).ltp
  simp (disch:=try exact dX) only [↓RBp,↓RA,↓reduceIte,Nat.reduceAdd,Nat.reduceMul,Nat.reduceEqDiff,RB,RX,RA2,q01,her]
  exact p0 _ (e01.trans xZ) hd (PubIn.of h hkp hfr hd)
end
def rmL (R ks:List Nat):List Nat:=R.filter fun q=>decide (q∉ks)
theorem mem_rmL {R ks:List Nat} {q:Nat}:q∈rmL R ks↔q∈R∧q∉ks:=by unfold rmL;simp
theorem rmL_nil (R:List Nat):rmL R []=R:=by
 unfold rmL
 exact List.filter_eq_self.2 (fun q _=>by simp)
theorem rmL_snoc (R ks:List Nat) (p:Nat):rmL R (ks++ [p])=rmR (rmL R ks) p:=by
 unfold rmL rmR
 rw [List.filter_filter]
 refine List.filter_congr (fun q _=> ?_)
 by_cases e:q=p
 ·subst e;simp
 ·simp [e]
structure RdH (w:World) (Y:Lay) (H:HL) (v:Value) (L:List Value):Prop where
 rd:RdS w.heap.size w v L
 sp:L≠ []→∀b,v.ownBlock=some b→¬Y.F b∧b≠H.b∧b≠H.p∧b≠H.rm∧b≠H.hm
theorem RdS.blk {m:Nat} {w:World} {v:Value} {L:List Value} (h:RdS m w v L) (hL:L≠ []) {b:Nat} (hb:v.ownBlock=some b):b<m:=by
 obtain ⟨a,cap,rfl,h⟩:=h
 rcases h with h|⟨b',o,rfl,hm,_⟩
 ·exact absurd h hL
 ·injection hb with hb;subst hb;exact hm
theorem RdH.nil (w:World) (Y:Lay) (H:HL):RdH w Y H (.slice none 0 0) []:=⟨RdS.nil _ _,fun h=>absurd rfl h⟩
section
variable {Q:Nat→Prop} {w0 w w':World} {Y Y':Lay} {D:DS} {H:HL} {n:Nat} {f:Idx} {R keep:List Nat} {v:Value} {L:List Value}
theorem RdH.get (h:RdH w Y H v L) {j:Nat} {u:Value} (hj:L[j]? =some u):∃b o cap,v= .slice (some ⟨b,o,none⟩) L.length cap∧w.cell? ⟨b,o+j,none⟩=some u:=h.rd.get hj
theorem RdH.st (h:RdH w Y H v L) (s:HSt w Y H w' Y'):RdH w' Y' H v L:=by
 refine ⟨?_,fun hL b hb=> ?_⟩
 ·obtain ⟨a,cap,rfl,hh⟩:=h.rd
  by_cases hL:L= []
  ·exact ⟨a,cap,rfl,.inl hL⟩
  refine ⟨a,cap,rfl,.inr ?_⟩
  rcases hh with hh|⟨b,o,rfl,hm,hc⟩
  ·exact absurd hh hL
  ·have sp:=h.sp hL b rfl
   refine ⟨b,o,rfl,by have:=s.frm.size;omega,fun j u hj=> ?_⟩
   have hb:¬(Y.F b∨b=H.b∨b=H.p∨b=H.rm∨b=H.hm):=fun hf=>by
    rcases hf with e|e|e|e|e
    ·exact sp.1 e
    ·exact sp.2.1 e
    ·exact sp.2.2.1 e
    ·exact sp.2.2.2.1 e
    ·exact sp.2.2.2.2 e
   have hcc:=hc j u hj
   unfold World.cell? at hcc ⊢
   rw [s.frm.block b hm hb];exact hcc
 ·have sp:=h.sp hL b hb
  have hm:=h.rd.blk hL hb
  exact ⟨fun hf=>(s.fr b hf).elim sp.1 (fun h=>by omega),sp.2⟩
theorem k_Settle (h:HpG Q w0 w Y D H n f R) (hpl:∀p∈R,Plc f n p) {a:Option Addr} {cap:Nat} (hA:RdH w Y H (.slice a keep.length cap) (u64L keep)) (hk:∀p∈keep,p<18446744073709551616) (hR:R.length<1000000) (hl:keep.length<1000000) (u:Value) (K:K1)
  (hK:∀w' f2,FS f f2→HSt w Y H w' Y→HpG Q w0 w' Y D H n f2 (rmL R keep)→K (.tuple #[]) w'):
  callS prog 44 #[hpV H,.slice a keep.length cap,u] w K:=by
 have hn4:=h.n4
 refine f44_call _ _ _ _ _ ?_
 unfold f44_t
 simp (disch:=try exact dZ) only [↓RBp,↓RA,↓reduceIte,Nat.reduceAdd,Nat.reduceMul,Nat.reduceEqDiff,RB,RX,RA2]
 apply f44_l1_rule (I:=fun z w1=>∃j f1,z= .int .i64 ((j:Nat):Int)∧j≤keep.length∧FS f f1∧HSt w Y H w1 Y∧HpG Q w0 w1 Y D H n f1 (rmL R (keep.take j))) (μ:=fun z _=>keep.length-(intOf z).toNat)
 ·refine ⟨0,f,rfl,by omega,FS.refl f,HSt.of_ext Y H xZ,?_⟩
  rw [List.take_zero,rmL_nil]
  exact h.ext xZ
 ·intros
  rename_i z w1 hI E1 hE1
  obtain ⟨j,f1,rfl,hj,fs,s1,h1⟩:=hI
  by_cases hjl:j<keep.length
  ·have lk:(u64L keep)[j]? =some (.int .u64 ((keep[j]:Nat):Int)):=u64L_get hjl
   have hA1:=hA.st s1
   obtain ⟨sb,so,sc,ev1,hc⟩:=hA1.get lk
   injection ev1 with ev1 _ ev2
   subst ev1;subst ev2
   obtain ⟨p,hp⟩:∃p,keep[j]=p:=⟨_,rfl⟩
   have hpk:=hk p (hp▸List.getElem_mem hjl)
   rw [hp] at hc
   have ht:keep.take (j+1)=keep.take j++ [p]:=by rw [List.take_succ_eq_append_getElem hjl,hp]
   have e5:(j:Int)+1=((j+1:Nat):Int):=by omega
   have hr1:∀q∈rmL R (keep.take j),q<18446744073709551616:=fun q hq=>by
    have:=(hpl q (mem_rmL.1 hq).1).2.2.2.1
    omega
   have lR:(rmL R (keep.take j)).length<1000000:=by
    have:(rmL R (keep.take j)).length≤R.length:=List.length_filter_le _ _
    omega
   have hfin:∀w2 f2,FS f f2→HSt w Y H w2 Y→HpG Q w0 w2 Y D H n f2 (rmR (rmL R (keep.take j)) p)→E1 (.int .i64 ((j+1:Nat):Int)) w2:=fun w2 f2 fs2 s2 h2=>by
    apply hE1
    ·exact ⟨j+1,f2,rfl,by omega,fs2,s2,by rw [ht,rmL_snoc];exact h2⟩
    ·simp [intOf];omega
   have hpm:p∈rmL R (keep.take j)→Plc f1 n p:=fun hm=>fs.plc (hpl p (mem_rmL.1 hm).1)
   generalize rmL R (keep.take j)=R1 at*
   unfold f44_l1_t
   simp (disch:=try exact dZ) only [↓RBp,↓RA,↓reduceIte,Nat.reduceAdd,Nat.reduceMul,Nat.reduceEqDiff,RB,RX,RA2,hc]
   refine k_holds (h1.ext xZ) hr1 p hpk _ (fun w2 e2=> ?_)
   have e12:Ext w1 w2:=Ext.trans xZ e2
   by_cases hm:p∈R1
   ·(repeat' (first|(with_reducible first|refine brS_mk (fun _=> ?_) (fun _=> ?_)|refine And.intro ?_ ?_)|(simp (disch:=try exact dX) only [↓RBp,↓RA,↓reduceIte,Nat.reduceAdd,Nat.reduceMul,Nat.reduceEqDiff,RB,RX,RA2,hm])))
    refine k_release (h1.ext (e12.trans xZ)) (hpm hm) hm lR _ (fun w3 f3 fs3 s3 h3=> ?_)
    rw [f44_k1_eq]
    unfold f44_k1_t
    simp (disch:=try exact dZ) only [↓RBp,↓RA,↓reduceIte,Nat.reduceAdd,Nat.reduceMul,Nat.reduceEqDiff,RB,RX,RA2,e5]
    exact hfin _ f3 (fs.trans fs3) ((s1.ext (e12.trans xZ)).trans (s3.ext xZ)) (h3.ext xZ)
   ·(repeat' (first|(with_reducible first|refine brS_mk (fun _=> ?_) (fun _=> ?_)|refine And.intro ?_ ?_)|(simp (disch:=try exact dX) only [↓RBp,↓RA,↓reduceIte,Nat.reduceAdd,Nat.reduceMul,Nat.reduceEqDiff,RB,RX,RA2,hm])))
    rw [f44_k1_eq]
    unfold f44_k1_t
    simp (disch:=try exact dZ) only [↓RBp,↓RA,↓reduceIte,Nat.reduceAdd,Nat.reduceMul,Nat.reduceEqDiff,RB,RX,RA2,e5]
    refine hfin _ f1 fs (s1.ext (e12.trans xZ)) ?_
    rw [rm_not hm]
    exact h1.ext (e12.trans xZ)
  ·have hj2:j=keep.length:=by omega
   subst hj2
   rw [List.take_length] at h1
   unfold f44_l1_t
   simp (disch:=try exact dZ) only [↓RBp,↓RA,↓reduceIte,Nat.reduceAdd,Nat.reduceMul,Nat.reduceEqDiff,RB,RX,RA2]
   exact hK _ f1 fs s1 h1
end
def f13_t (K:K1) (w:World):Prop:=
 cL 14 (pA #[(.int .i64 2)]) w fun a w=>
 bM .eql 23 (.tmp 7) (.const (.pointer none)) a (.pointer none) w fun b w=>
 cndS b (
 K (.bool false) w) (
 nS a w fun c w=>
 fA 38 c 3 w fun d w=>
 lD 33 d w fun e w=>
 cL 15 (pA #[e,(.int .i64 0),(.int .i64 4),(.int .u8 ((64:Nat):Int))]) w fun f w=>
 eX f 0 w fun g w=>
 eX f 1 w fun h w=>
 nS a w fun i w=>
 fA 38 i 3 w fun j w=>
 lD 33 j w fun l w=>
 cL 29 (pA #[l,g]) w fun m w=>
 eX m 0 w fun n w=>
 eX m 1 w fun o w=>
 bC .neq 28 26 0 h w fun p w=>
 gV p false o w fun q w=>
 gd p false (fun k=>bC .neq 28 29 0 q w k) w fun s w=>
 pickS p (.bool true) s w fun t w=>
 gV t false g w fun v w=>
 gC t false 60 (pA #[v]) w fun y w=>
 gd t false (fun k=>bU .neq 5 34 .u8 64 y w k) w fun z w=>
 pickS t (.bool true) z w fun a0 w=>
 gV a0 false n w fun a1 w=>
 gd a0 false (fun k=>bC .neq 3 38 7 a1 w k) w fun a2 w=>
 pickS a0 (.bool true) a2 w fun a3 w=>
 gV a3 false a w fun a4 w=>
 gd a3 false (fun k=>nS a4 w k) w fun a5 w=>
 gd a3 false (fun k=>fA 38 a5 3 w k) w fun a6 w=>
 gd a3 false (fun k=>lD 33 a6 w k) w fun a7 w=>
 gV a3 false g w fun a8 w=>
 gC a3 false 21 (pA #[a7,a8,(.int .u8 ((0:Nat):Int))]) w fun a9 w=>
 gd a3 false (fun k=>bC .neq 28 47 12 a9 w k) w fun b0 w=>
 pickS a3 (.bool true) b0 w fun b1 w=>
 cndS b1 (
 K (.bool false) w) (
 cL 16 (pA #[a,(.int .i64 0)]) w fun b2 w=>
 ev prog (Instr.buildSlice 25 1 #[(0,g)]) w fun b3 w=>
 cL 17 (pA #[b2,(.slice none 0 0),b3,(.slice none 0 0)]) w fun b4 w=>
 bC .eql 28 54 0 b4 w fun b5 w=>
 gV b5 true a w fun b6 w=>
 gd b5 true (fun k=>nS b6 w k) w fun b7 w=>
 gd b5 true (fun k=>fA 38 b7 3 w k) w fun b8 w=>
 gd b5 true (fun k=>lD 33 b8 w k) w fun b9 w=>
 gV b5 true g w fun c0 w=>
 gC b5 true 21 (pA #[b9,c0,(.int .u8 ((0:Nat):Int))]) w fun c1 w=>
 gd b5 true (fun k=>bC .eql 28 62 0 c1 w k) w fun c2 w=>
 pickS b5 c2 (.bool false) w fun c3 w=>
 gV c3 true a w fun c4 w=>
 gd c3 true (fun k=>nS c4 w k) w fun c5 w=>
 gd c3 true (fun k=>fA 38 c5 3 w k) w fun c6 w=>
 gd c3 true (fun k=>lD 33 c6 w k) w fun c7 w=>
 gC c3 true 39 (pA #[c7]) w fun c8 w=>
 gd c3 true (fun k=>ev prog (Instr.field 73 c8 2) w k) w fun c9 w=>
 gd c3 true (fun k=>bC .eql 3 71 1 c9 w k) w fun d0 w=>
 pickS c3 d0 (.bool false) w fun d1 w=>
 K d1 w))
theorem f13_call (K:K1) (w:World) (h:f13_t K w):callS prog 13 #[] w K:=
 call_of_txt (args:= []) mixed Tryz.func13 .o kR (cast kR h)
def f14_t (x0:Value) (K:K1) (w:World):Prop:=
 bM .mul 3 (ci 32) (.tmp 7) (.int .i64 32) x0 w fun a w=>
 bM .add 3 (ci 26) (.tmp 8) (.int .i64 26) a w fun b w=>
 cL 61 (pA #[b]) w fun c w=>
 eX c 0 w fun d w=>
 eX c 1 w fun e w=>
 bC .neq 28 13 0 e w fun f w=>
 gV f false d w fun g w=>
 gd f false (fun k=>bM .eql 30 (.tmp 16) (.const (.pointer none)) g (.pointer none) w k) w fun h w=>
 pickS f (.bool true) h w fun i w=>
 gV i false d w fun j w=>
 gC i false 50 (pA #[j,(.int .i64 0)]) w fun l w=>
 gd i false (fun k=>bM .eql 31 (.tmp 21) (.const (.pointer none)) l (.pointer none) w k) w fun m w=>
 pickS i (.bool true) m w fun n w=>
 cndS n (
 K (.pointer none) w) (
 cL 50 (pA #[d,(.int .i64 0)]) w fun o w=>
 ev prog (Instr.makeInterface 31 o) w fun p w=>
 cL 62 (pA #[p,(.int .i64 0),(.int .i64 26)]) w fun q w=>
 bC .neq 28 28 0 q w fun s w=>
 gV s false o w fun t w=>
 gd s false (fun k=>ev prog (Instr.makeInterface 31 t) w k) w fun v w=>
 gV s false x0 w fun y w=>
 gd s false (fun k=>bM .mul 3 (ci 32) (.tmp 33) (.int .i64 32) y w k) w fun z w=>
 gC s false 63 (pA #[v,(.int .i64 26),z]) w fun a0 w=>
 gd s false (fun k=>bC .neq 28 35 0 a0 w k) w fun a1 w=>
 pickS s (.bool true) a1 w fun a2 w=>
 cndS a2 (
 K (.pointer none) w) (
 cL 57 (pA #[d,x0]) w fun a3 w=>
 K a3 w))
theorem f14_call (x0:Value) (K:K1) (w:World) (h:f14_t x0 K w):callS prog 14 #[x0] w K:=
 call_of_txt (args:= [x0]) mixed Tryz.func14 .o kR (cast kR h)
def f16_t (x0 x1:Value) (K:K1) (w:World):Prop:=
 nR x0 w.drew fun a=>
 fR 38 a 3 w.drew fun b=>
 lR 33 b w.drew fun c=>
 nR x0 w.drew fun d=>
 fR 38 d 0 w.drew fun e=>
 lR 30 e w.drew fun f=>
 nR x0 w.drew fun g=>
 fR 38 g 2 w.drew fun h=>
 lR 32 h w.drew fun i=>
 cL 50 (pA #[f,x1]) w.drew fun j w=>
 (nilR prog x0 w (fun u=>u=a))∧
 (fG 38 a 3 w b)∧
 (lG 33 b w c)∧
 (nilR prog x0 w (fun u=>u=g))∧
 (fG 38 g 2 w h)∧
 (lG 32 h w i)∧
 cL 55 (pA #[c,j,i]) w fun l w=>
 K l w
theorem f16_call (x0 x1:Value) (K:K1) (w:World) (h:f16_t x0 x1 K w):callS prog 16 #[x0,x1] w K:=
 call_of_txt (args:= [x0,x1]) mixed Tryz.func16 .o kR (cast kR h)
def f57_t (x0 x1:Value) (K:K1) (w:World):Prop:=
 cL 50 (pA #[x0,(.int .i64 0)]) w fun a w=>
 bM .eql 31 (.tmp 11) (.const (.pointer none)) a (.pointer none) w fun b w=>
 cndS b (
 K (.pointer none) w) (
 ev prog (Instr.makeInterface 31 a) w fun c w=>
 cL 107 (pA #[c,(.int .i64 0),(.int .i64 26)]) w fun d w=>
 eX d 0 w fun e w=>
 eX d 1 w fun f w=>
 bC .neq 28 19 0 f w fun g w=>
 cndS g (
 K (.pointer none) w) (
 cL 108 (pA #[e]) w fun h w=>
 eX h 0 w fun i w=>
 eX h 1 w fun j w=>
 bC .neq 28 26 0 j w fun l w=>
 cndS l (
 K (.pointer none) w) (
 ev prog (Instr.makeInterface 31 a) w fun m w=>
 bM .mul 3 (ci 32) (.tmp 31) (.int .i64 32) x1 w fun n w=>
 cL 109 (pA #[m,(.int .i64 26),n]) w fun o w=>
 eX o 0 w fun p w=>
 eX o 1 w fun q w=>
 bC .neq 28 36 0 q w fun s w=>
 gV s false p w fun t w=>
 gd s false (fun k=>bM .eql 33 (.tmp 39) (.const (.pointer none)) t (.pointer none) w k) w fun v w=>
 pickS s (.bool true) v w fun y w=>
 cndS y (
 K (.pointer none) w) (
 ev prog (Instr.build 38 #[(0,x0),(1,a),(2,e),(3,p),(4,x1)]) w fun z w=>
 ev prog (Instr.box 38 z) w fun a0 w=>
 K a0 w))))
theorem f57_call (x0 x1:Value) (K:K1) (w:World) (h:f57_t x0 x1 K w):callS prog 57 #[x0,x1] w K:=
 call_of_txt (args:= [x0,x1]) mixed Tryz.func57 .o kR (cast kR h)
def drF (H:HL) (T:Nat) (i:Nat):Value:= [hpV H,.pointer (some ⟨T,0,none⟩),.pointer (some ⟨H.B,0,none⟩)].getD i undef
structure Spc (w:World) (Y:Lay) (H:HL) (B k:Nat):Prop where
 bx:Cells w B 123 3 (drF H (Y.tb k))
 ne:¬Y.F B∧B≠H.b∧B≠H.p∧B≠H.rm∧B≠H.hm
structure PubR (D:DS) (f:Idx) (n:Nat) (keep free:List Nat) (D2:DS) (f2:Idx):Prop where
 P:PubIn D f n keep free
 E:PubE D D2 f n keep free
 fs:FS f f2
 n2:D2.n=D.n
 exe:D2.exe≤D.exe+1000
 cl:Cln D.co→Cln D2.co
 run:D2=D.run 0 (rpI (pubW D f keep free n))
section
variable {Q:Nat→Prop} {w0 w w':World} {Y Y':Lay} {D:DS} {H:HL} {n k B Wb:Nat} {f:Idx} {R keep free:List Nat} {v:Value} {L:List Value}
theorem Spc.st (h:Spc w Y H B k) (s:HSt w Y H w' Y'):Spc w' Y' H B k:=by
 have lt:=h.bx.lt
 refine ⟨?_,fun hf=>(s.fr B hf).elim h.ne.1 (fun h=>by omega),h.ne.2⟩
 rw [s.tb]
 exact h.bx.frm s.frm (fun hf=>by
  rcases hf with e|e|e|e|e
  ·exact h.ne.1 e
  ·exact h.ne.2.1 e
  ·exact h.ne.2.2.1 e
  ·exact h.ne.2.2.2.1 e
  ·exact h.ne.2.2.2.2 e)
theorem Spc.cells (h:Spc w Y H B k):w.cell? ⟨B,0,none⟩=some (hpV H)∧w.cell? ⟨B,1,none⟩=some (.pointer (some ⟨Y.tb k,0,none⟩))∧w.cell? ⟨B,2,none⟩=some (.pointer (some ⟨H.B,0,none⟩)):=
 ⟨h.bx.cell (i:=0) oM,h.bx.cell (i:=1) oM,h.bx.cell (i:=2) oM⟩
theorem HpG.lts (h:HpG Q w0 w Y D H n f R):H.b<w.heap.size∧H.p<w.heap.size∧H.rm<w.heap.size∧H.hm<w.heap.size:=by
 obtain ⟨L,h1,_⟩:=h.hd
 exact ⟨h.ar.pl.lt rfl,h.hp.lt,h.rs.lt,h1.lt⟩
theorem HpG.new (h:HpG Q w0 w Y D H n f R) (hB:w.heap.size≤B):¬Y.F B∧B≠H.b∧B≠H.p∧B≠H.rm∧B≠H.hm:=by
 have:=h.lts
 exact ⟨fun hf=>by have:=h.ar.L.dv.lt hf;omega,by omega,by omega,by omega,by omega⟩
theorem k_space (h:HpG Q w0 w Y D H n f R) (c0:w.cell? ⟨Wb,0,none⟩=some (.pointer (some ⟨Y.d,0,none⟩))) (c2:w.cell? ⟨Wb,2,none⟩=some (.pointer (some ⟨H.B,0,none⟩))) (c3:w.cell? ⟨Wb,3,none⟩=some (hpV H)) (hk:k<8) (K:K1)
  (hK:∀B w',Ext w w'→w.heap.size≤B→Spc w' Y H B k→K (.pointer (some ⟨B,0,none⟩)) w'):
  callS prog 16 #[.pointer (some ⟨Wb,0,none⟩),.int .i64 (k:Int)] w K:=by
 have hT:∀(w1:World) (K:K1),Ext w w1→callS prog 50 #[.pointer (some ⟨Y.d,0,none⟩),.int .i64 (k:Int)] w1 K=K (.pointer (some ⟨Y.tb k,0,none⟩)) w1:=fun w1 K e=>by rw [←h.dt.1];exact c_Thread (h.ar.L.dv.ext e) k hk K
 have ltW:=lt_of_cell c0
 refine f16_call _ _ _ _ ?_
 unfold f16_t
 (repeat' (first|(with_reducible first|refine brS_mk (fun _=> ?_) (fun _=> ?_)|refine And.intro ?_ ?_)|(simp (disch:=try exact dX) only [↓RBp,↓RA,↓reduceIte,Nat.reduceAdd,Nat.reduceMul,Nat.reduceEqDiff,RB,RX,RA2,c0,c2,c3,hT])))
 refine f55_call _ _ _ _ _ ?_
 unfold f55_t
 simp (disch:=try exact dZ) only [↓RBp,↓RA,↓reduceIte,Nat.reduceAdd,Nat.reduceMul,Nat.reduceEqDiff,RB,RX,RA2]
 have hB:=Cells.new w.drew [hpV H,.pointer (some ⟨Y.tb k,0,none⟩),.pointer (some ⟨H.B,0,none⟩)] 123
 exact hK _ _ xZ (Nat.le_refl _) ⟨hB,h.new (Nat.le_refl _)⟩
theorem k_Clone0 (w:World) (K:K1) (hK:K (.slice none 0 0) w):callS prog 72 #[.slice none 0 0] w K:=by
 refine f72_call _ _ _ ?_
 unfold f72_t
 simp (disch:=try exact dZ) only [↓RBp,↓RA,↓reduceIte,Nat.reduceAdd,Nat.reduceMul,Nat.reduceEqDiff,RB,RX,RA2]
 exact hK
theorem pub_run (P:PubIn D f n keep free) (h26:26+32*n≤D.n) (hid:D.cur 0=0) (hw:WsOk D.n (pubW D f keep free n)):On (D.run 0 (rpI (pubW D f keep free n)))∧PubE D (D.run 0 (rpI (pubW D f keep free n))) f n keep free∧(D.run 0 (rpI (pubW D f keep free n))).n=D.n∧(D.run 0 (rpI (pubW D f keep free n))).exe≤D.exe+1000∧(D.run 0 (rpI (pubW D f keep free n))).cur 0=0∧(Cln D.co→Cln (D.run 0 (rpI (pubW D f keep free n))).co):=by
 by_cases h0:pubW D f keep free n= []
 ·have e:D.run 0 (rpI (pubW D f keep free n))=D:=by rw [h0];rfl
  rw [e]
  exact ⟨P.rg.on,P.eff P.rg.on P.rg.gd rfl (fun j _=>by rw [h0];rfl),rfl,by omega,hid,fun h=>h⟩
 ·have e:rpI (pubW D f keep free n)=cmI (cmC (pubW D f keep free n)) (pubW D f keep free n):=by unfold rpI;rw [if_neg h0]
  rw [e]
  have g:=cm_gen P.rg.on P.rg.gd oM hw (cmC_lt hw.len)
  exact ⟨g.1,P.eff g.1 g.2.1 g.2.2.1 g.2.2.2.2.1,g.2.2.1,g.2.2.2.1,g.2.2.2.2.2.1,g.2.2.2.2.2.2⟩
theorem k_Publish (h:HpS w0 w Y D H n f R) (hlk:H.lk=false) (hk:k<8) (sp:Spc w Y H B k) (hkp:∀p∈keep,p∈R) (hfr:∀p∈free,Liv D f n p) {va vb:Value} (hA:RdH w Y H va (u64L keep)) (hB:RdH w Y H vb (u64L free)) (hl:keep.length≤100000∧free.length≤100000) (hR:R.length<1000000) (hx:D.exe<900000000) (K:K1)
  (hno:¬DsOk (keep++free)→∀w',Ext w w'→K (.int .i64 1) w')
  (hlim:40<keep.length+free.length→∀w',Ext w w'→K (.int .i64 9) w')
  (hyes:∀D2 f2 w' Y',DsOk (keep++free)→PubR D f n keep free D2 f2→HSt w Y H w' Y'→HpS w0 w' Y' D2 H n f2 (rmL R keep)→K (.int .i64 0) w'):
  callS prog 17 #[.pointer (some ⟨B,0,none⟩),.slice none 0 0,va,vb] w K:=by
 have hn4:=h.n4
 have lA:(u64L keep).length=keep.length:=by simp [u64L]
 obtain ⟨aA,cA,rfl,_⟩:=id hA.rd
 rw [lA] at hA ⊢
 have hr:∀p∈R,p<18446744073709551616:=fun p hp=>by
  have:=((h.rv p hp).kn oM h.rg).2.2.2.1
  omega
 have e0:=h.rg.on.err
 have hpln:=fun (w1:World) (e:Ext w w1) (K:K1) (hK:∀v' w',Ext w1 w'→K (.tuple #[v',.int .i64 0]) w')=>k_RPlan ((h.ext e).ar.L.dv) h.rg.gd (h.gl.ext e) oM rfl (h.ext e).lg (fun _=>⟨h.rg.on.off,h.idl⟩) [] (.slice none 0 0) (SlO.nil _ _ _) (by simp) (by simp) (fun x hx=>by cases hx) K (fun hl=>by simp at hl) (fun _ he=>absurd e0 he) (fun _ _ v' w' e' _ _=>hK v' w' e')
 have her:∀(w1:World) (K:K1),Ext w w1→callS prog 28 #[.pointer (some ⟨Y.tb k,0,none⟩)] w1 K=K (.int .i64 0) w1:=fun w1 K e=>by rw [c_Err (h.ar.L.dv.ext e) k hk K,h.er k hk]
 have hact:=fun (w1:World) (e:Ext w w1) (K:K1) a b=>k_HActions (h.ext e) hkp hfr (hA.rd.ext e) (hB.rd.ext e) e.size hl K a b
 have fin:PubIn D f n keep free→DsOk (keep++free)→WsOk D.n (pubW D f keep free n)→∀w2 Y2,HSt w Y H w2 Y2→HpG (fun _=>True) w0 w2 Y2 (D.run 0 (rpI (pubW D f keep free n))) H n f R→∀w3 f3,FS f f3→HSt w2 Y2 H w3 Y2→HpG (fun _=>True) w0 w3 Y2 (D.run 0 (rpI (pubW D f keep free n))) H n f3 (rmL R keep)→K (.int .i64 0) w3:=fun P hd hw w2 Y2 s2 h2 w3 f3 fs s3 h3=>by
  have g:=pub_run P hn4.2 h.idl hw
  refine hyes _ f3 w3 Y2 hd ⟨P,g.2.1,fs,g.2.2.1,g.2.2.2.1,g.2.2.2.2.2,rfl⟩ (s2.trans s3) (h3.mapQ (fun q hq _=> ?_))
  refine fs.rsv.2 (g.2.1.rsv P (h.rv q (mem_rmL.1 hq).1) (fun hm=> ?_))
  obtain ⟨p,hp,e⟩:=List.mem_map.1 hm
  have:=pO_inj h.nd (hkp p hp) (mem_rmL.1 hq).1 e
  exact (mem_rmL.1 hq).2 (this▸hp)
 have cm:PubIn D f n keep free→∀w1,Ext w w1→∀(v:Value) (K2:K1),SlO w1 98 2 v (pubW D f keep free n).length (wrL (pubW D f keep free n))→(96<(pubW D f keep free n).length→∀w',Ext w1 w'→K2 (.int .i64 9) w')→(WsOk D.n (pubW D f keep free n)→∀w2 Y2,HSt w Y H w2 Y2→HpG (fun _=>True) w0 w2 Y2 (D.run 0 (rpI (pubW D f keep free n))) H n f R→K2 (.int .i64 0) w2)→callS prog 43 #[.pointer (some ⟨H.B,0,none⟩),v] w1 K2:=fun P w1 e1 v K2 hs ha hb=>by
  have h1:=h.ext e1
  have hall:=P.all n (Nat.le_refl _)
  refine k_Commit h1.ar.L.dv h.rg.gd h1.gl oM rfl h1.lg e0 h.rg.on.off h.idl oM (pubW D f keep free n) v hs (P.nd n (Nat.le_refl _)) (by have:=P.le;omega) (fun x hx=> ?_) K2 ha (fun hw w2 Y2 s2=> ?_)
  ·have:=hall x hx
   exact ⟨this.2.2.1,by omega,this.1,this.2.2.2⟩
  ·have g:=pub_run P hn4.2 h.idl hw
   rw [g.1.err]
   refine hb hw w2 Y2 ((HSt.of_ext Y H e1).trans (HSt.of_stp H s2)) (h1.step s2 g.2.2.1 g.2.1.rg (fun _ _=>trivial) (fun j hj=> ?_) g.2.2.2.2.1)
   by_cases e:j=0
   ·subst e;exact g.1.err
   ·rw [run_err e];exact h.er j hj
 have hset:=fun (w2:World) (Y2:Lay) (f1:Idx) (D2:DS) (s2:HSt w Y H w2 Y2) (h2:HpG (fun _=>True) w0 w2 Y2 D2 H n f1 R) (hpl:∀p∈R,Plc f1 n p) (K2:K1) hK=>k_Settle h2 hpl (hA.st s2) (fun p hp=>hr p (hkp p hp)) hR oM vb K2 hK
 have hlk':∀w1 Y1,HSt w Y H w1 Y1→(Spc w1 Y1 H B k):=fun w1 Y1 s=>sp.st s
 have hq:∀(w1:World),Ext w w1→w1.cell? ⟨B,0,none⟩=some (hpV H)∧w1.cell? ⟨B,1,none⟩=some (.pointer (some ⟨Y.tb k,0,none⟩))∧w1.cell? ⟨B,2,none⟩=some (.pointer (some ⟨H.B,0,none⟩)):=fun w1 e=>(sp.st (HSt.of_ext Y H e)).cells
 have hc7:∀(w1:World),Ext w w1→w1.cell? ⟨H.p,7,none⟩=some (.bool false):=fun w1 e=>by rw [←hlk];exact (h.ext e).cell.2.2.2.2.2.2.2
 have hplc:∀p∈R,Plc f n p:=fun p hp=>(h.rv p hp).plc oM h.rg
 have hple:PubIn D f n keep free→(pubW D f keep free n).length≤2*(keep.length+free.length):=fun P=>P.le
 generalize hWW:pubW D f keep free n=W at*
 have b0:=hq w (Ext.refl _)
 have ob6:=b0;have q0:=ob6.1;have q1:=ob6.2.1;have q2:=ob6.2.2
 have ltB:=lt_of_cell q0
 refine f17_call _ _ _ _ _ _ ?_
 unfold f17_t
 simp (disch:=try exact dZ) only [↓RBp,↓RA,↓reduceIte,Nat.reduceAdd,Nat.reduceMul,Nat.reduceEqDiff,RB,RX,RA2,q0,q1,q2]
 refine hpln _ xZ _ (fun v1 w1 e1=> ?_)
 have e01:Ext w w1:=Ext.trans xZ e1
 have b1:=hq w1 e01
 have ob7:=b1;have r0:=ob7.1;have r1:=ob7.2.1;have r2:=ob7.2.2
 have r7:=hc7 w1 e01
 have lt1:=(h.ext e01).ltp
 have ltB1:=lt_of_cell r0
 simp (disch:=try exact dX) only [↓RBp,↓RA,↓reduceIte,Nat.reduceAdd,Nat.reduceMul,Nat.reduceEqDiff,RB,RX,RA2,r0,r1,r2,r7,her]
 refine hact _ (e01.trans xZ) _ (fun hd w2 e2=> ?_) (fun hd P v2 w2 e2 n2 s2=> ?_)
 ·simp (disch:=try exact dZ) only [↓RBp,↓RA,↓reduceIte,Nat.reduceAdd,Nat.reduceMul,Nat.reduceEqDiff,RB,RX,RA2]
  exact hno hd _ (e01.trans (Ext.trans xZ (e2.trans xZ)))
 ·have e02:Ext w w2:=e01.trans (Ext.trans xZ e2)
  have b2:=hq w2 e02
  have ob8:=b2;have u0:=ob8.1;have u1:=ob8.2.1;have u2:=ob8.2.2
  have ltB2:=lt_of_cell u0
  have cmW:=cm P
  have le:=hple P
  have finP:=fin P hd
  have app:∀(w3:World) (K3:K1),Ext w2 w3→(∀v4 w4,Ext w3 w4→SlO w4 98 2 v4 W.length (wrL W)→K3 v4 w4)→bltS prog .append #[79,79] 79 #[false,false] #[.slice none 0 0,v2] w3 K3:=fun w3 K3 e3 hK3=>by
   by_cases h0:W.length=0
   ·have hW0:W= []:=List.eq_nil_of_length_eq_zero h0
    subst hW0
    obtain ⟨a,c,rfl⟩:=SlO.form s2
    rw [show ([]:List (Nat×Nat)).length=0 from rfl,blt_append0 elWrite none 0 0 oM a c]
    exact hK3 _ _ (Ext.refl _) (SlO.nil _ _ _)
   ·obtain ⟨xb,xo,xc,rfl,_⟩:=s2.isS oM
    refine blt_append elWrite (SlO.nil w3 _ _) (m:=W.length) (news:=wrL W) (wrL_length W) (fun j u hj=>(s2.ext e3).cell rfl hj) (wr_one W) oM oM oM (fun v4 w4 hs4 hf4 _ _=> ?_)
    refine hK3 v4 w4 (Frm.to_ext hf4 (fun b _ hb=>by cases hb)) ?_
    rw [Nat.zero_add,List.nil_append] at hs4
    exact hs4
  (repeat' (first|(with_reducible first|refine brS_mk (fun _=> ?_) (fun _=> ?_)|refine And.intro ?_ ?_)|(simp (disch:=try exact dX) only [↓RBp,↓RA,↓reduceIte,Nat.reduceAdd,Nat.reduceMul,Nat.reduceEqDiff,RB,RX,RA2,u0,u1,u2])))
  refine k_Clone0 _ _ ?_
  (repeat' (first|(with_reducible first|refine brS_mk (fun _=> ?_) (fun _=> ?_)|refine And.intro ?_ ?_)|(simp (disch:=try exact dX) only [↓RBp,↓RA,↓reduceIte,Nat.reduceAdd,Nat.reduceMul,Nat.reduceEqDiff,RB,RX,RA2,u0,u1,u2])))
  refine app _ _ xZ (fun v4 w4 e4 s4=> ?_)
  have e04:Ext w w4:=e02.trans (Ext.trans xZ e4)
  have b4:=hq w4 e04
  have ob9:=b4;have x0:=ob9.1;have x1:=ob9.2.1;have x2:=ob9.2.2
  have ltB4:=lt_of_cell x0
  (repeat' (first|(with_reducible first|refine brS_mk (fun _=> ?_) (fun _=> ?_)|refine And.intro ?_ ?_)|(simp (disch:=try exact dX) only [↓RBp,↓RA,↓reduceIte,Nat.reduceAdd,Nat.reduceMul,Nat.reduceEqDiff,RB,RX,RA2,x0,x1,x2])))
  refine cmW _ (e04.trans xZ) v4 _ (s4.ext xZ) (fun hl w5 e5=> ?_) (fun hw w5 Y5 s5 h5=> ?_)
  ·simp (disch:=try exact dZ) only [↓RBp,↓RA,↓reduceIte,Nat.reduceAdd,Nat.reduceMul,Nat.reduceEqDiff,RB,RX,RA2]
   exact hlim oM _ (e04.trans (Ext.trans xZ (e5.trans xZ)))
  ·have b5:=(hlk' w5 Y5 s5).cells
   have ob10:=b5;have y0:=ob10.1;have y1:=ob10.2.1;have y2:=ob10.2.2
   have ltB5:=lt_of_cell y0
   simp (disch:=try exact dZ) only [↓RBp,↓RA,↓reduceIte,Nat.reduceAdd,Nat.reduceMul,Nat.reduceEqDiff,RB,RX,RA2,y0,y1,y2]
   refine hset w5 Y5 f _ s5 h5 hplc _ (fun w6 f6 fs6 s6 h6=> ?_)
   exact finP hw w5 Y5 s5 h5 w6 f6 fs6 s6 h6
end
def livI (D:DS) (l:Nat) (c:Int):Nat→List Nat
 |0=> []
 |i+1=>livI D l c i++if mkB D l c (i:Int) 177=true then [ptrN (pOff l c i) (bG (wd D l (offN c i))) (bK (wd D l (offN c i)))] else []
def livN (D:DS) (f:Idx):Nat→List Nat
 |0=> []
 |k+1=>livN D f k++if (f k).1<0 then [] else livI D (26+32*k) (f k).1 (perS (f k).1).toNat
section
variable {Q:Nat→Prop} {w0 w w':World} {Y Y':Lay} {D:DS} {H:HL} {n k i l b p:Nat} {c:Int} {f:Idx} {R:List Nat}
theorem livI_pre:∀{m i:Nat},i≤m→∃t,livI D l c m=livI D l c i++t:=by
 intro m
 induction m with
 |zero=>intro i hi;exact ⟨[],by rw [show i=0 by omega];rfl⟩
 |succ m ih=>
  intro i hi
  by_cases e:i=m+1
  ·subst e;exact ⟨[],by simp⟩
  ·obtain ⟨t,ht⟩:=ih (i:=i) oM
   exact ⟨t++_,by rw [livI,ht,List.append_assoc]⟩
theorem livN_pre:∀{m k:Nat},k≤m→∃t,livN D f m=livN D f k++t:=by
 intro m
 induction m with
 |zero=>intro i hi;exact ⟨[],by rw [show i=0 by omega];rfl⟩
 |succ m ih=>
  intro i hi
  by_cases e:i=m+1
  ·subst e;exact ⟨[],by simp⟩
  ·obtain ⟨t,ht⟩:=ih (k:=i) oM
   exact ⟨t++_,by rw [livN,ht,List.append_assoc]⟩
theorem mk_liv (rg:RgS D 26 n f) (hk:k<n) (h0:0≤(f k).1) (i:Nat):mkB D (26+32*k) (f k).1 (i:Int) 177=true↔((i:Int)<perS (f k).1∧bS (wd D (26+32*k) (offN (f k).1 i))=177):=by
 have c5:=(rg.cls hk).1
 have s:=rg.sn k hk h0
 unfold mkB
 simp only [Int.toNat_natCast,Bool.and_eq_true,decide_eq_true_eq]
 constructor
 ·rintro ⟨⟨_,a⟩,_,_,b⟩;exact ⟨a,b⟩
 ·rintro ⟨a,b⟩
  have v:=s.live h0 c5 a b
  exact ⟨⟨by omega,a⟩,v.1,v.2.1,b⟩
theorem livI_mem:∀{m:Nat},p∈livI D l c m↔∃i,i<m∧mkB D l c (i:Int) 177=true∧p=ptrN (pOff l c i) (bG (wd D l (offN c i))) (bK (wd D l (offN c i))):=by
 intro m
 induction m with
 |zero=>exact ⟨fun h=>(by cases h),fun ⟨i,h,_⟩=>by omega⟩
 |succ m ih=>
  rw [livI,List.mem_append,ih]
  constructor
  ·rintro (⟨i,a,b⟩|h)
   ·exact ⟨i,by omega,b⟩
   ·by_cases hm:mkB D l c (m:Int) 177=true
    ·rw [if_pos hm] at h
     simp only [List.mem_singleton] at h
     exact ⟨m,by omega,hm,h⟩
    ·rw [if_neg hm] at h;cases h
  ·rintro ⟨i,a,b,e⟩
   by_cases hi:i=m
   ·subst hi;right;rw [if_pos b];simp [e]
   ·exact .inl ⟨i,by omega,b,e⟩
theorem livN_mem:∀{m:Nat},p∈livN D f m↔∃k,k<m∧0≤(f k).1∧p∈livI D (26+32*k) (f k).1 (perS (f k).1).toNat:=by
 intro m
 induction m with
 |zero=>exact ⟨fun h=>(by cases h),fun ⟨i,h,_⟩=>by omega⟩
 |succ m ih=>
  rw [livN,List.mem_append,ih]
  constructor
  ·rintro (⟨i,a,b⟩|h)
   ·exact ⟨i,by omega,b⟩
   ·by_cases hm:(f m).1<0
    ·rw [if_pos hm] at h;cases h
    ·rw [if_neg hm] at h
     exact ⟨m,by omega,by omega,h⟩
  ·rintro ⟨i,a,b,e⟩
   by_cases hi:i=m
   ·subst hi;right;rw [if_neg oM];exact e
   ·exact .inl ⟨i,by omega,b,e⟩
theorem liv_mem (rg:RgS D 26 n f):p∈livN D f n↔Liv D f n p:=by
 rw [livN_mem]
 constructor
 ·rintro ⟨k,hk,h0,h⟩
  obtain ⟨i,hi,hm,e⟩:=livI_mem.1 h
  have:=(mk_liv rg hk h0 i).1 hm
  exact ⟨k,i,hk,h0,this.1,e,this.2⟩
 ·rintro ⟨k,i,hk,h0,hi,e,hs⟩
  exact ⟨k,hk,h0,livI_mem.2 ⟨i,by omega,(mk_liv rg hk h0 i).2 ⟨hi,hs⟩,e⟩⟩
theorem lnT_get (l0:Nat):∀n:Nat,(lnL (fun _=>true) l0 n).length=n∧∀k:Nat,k<n→(lnL (fun _=>true) l0 n)[k]? =some (((l0+32*k:Nat)):Int):=by
 intro n
 induction n with
 |zero=>exact ⟨rfl,fun k hk=>by omega⟩
 |succ n ih=>
  rw [lnL,if_pos rfl]
  refine ⟨by rw [List.length_append,ih.1];rfl,fun k hk=> ?_⟩
  by_cases e:k=n
  ·subst e
   rw [List.getElem?_append_right oM,ih.1];simp
  ·rw [List.getElem?_append_left oM];exact ih.2 k oM
theorem k_Live1 {y:Value} (h:HpS w0 w Y D H n f R) (hb:Cells w b 33 1 (fun _=>hpV H)) (G:Nat→Prop) (hG:∀x,G x→x<w.heap.size∧x≠b) (J:List Nat→World→Prop) (Jx:World→Prop)
  (h0:∀w1,Ext w w1→J [] w1)
  (hE:∀s w1 w2,J s w1→Ext w1 w2→J s w2)
  (hH:∀s w1,J s w1→HpS w0 w1 Y D H n f R)
  (hy:∀(s:List Nat) (p:Nat) (t:List Nat) w1 (K':K1),livN D f n=s++p::t→J s w1→(∀w2,Frm G w1 w2→J (s++ [p]) w2→K' (.bool true) w2)→(∀w2,Jx w2→K' (.bool false) w2)→dynS prog y #[.int .u64 (p:Int)] w1 K')
  (K:K1) (hK:∀w',J (livN D f n) w'→K (.tuple #[]) w') (hX:∀w',Jx w'→K (.tuple #[]) w'):
  callS prog 134 #[y,.pointer (some ⟨b,0,none⟩)] w K:=by
 have hn4:=h.n4
 have hbc:w.cell? ⟨b,0,none⟩=some (hpV H):=hb.cell (i:=0) oM
 have ltb:=hb.lt
 have q3:=h.cell.2.2.2.1
 have ltp:=h.ltp
 have ln:=lnT_get 26 n
 have hln:=fun (w1:World) (e:Ext w w1) (K:K1) hK=>k_Lines ((h.ext e).ar) K hK
 have inner:∀(k:Nat) (v:Value) (w1:World) (cb:Nat) (E1:Value→World→Prop),k<n→0≤(f k).1→SlO w1 3 1 v (lnL (fun _=>true) 26 n).length (i64L (lnL (fun _=>true) 26 n))→NewV w.heap.size v→Cells w1 b 33 1 (fun _=>hpV H)→w.heap.size≤cb→Cells w1 cb 134 5 (chF (Y.tb 0) (26+32*k) (f k).1 (f k).2.1 (gX (wd D (26+32*k) 0)))→J (livN D f k) w1→(∀w2,J (livN D f (k+1)) w2→SlO w2 3 1 v (lnL (fun _=>true) 26 n).length (i64L (lnL (fun _=>true) 26 n))→Cells w2 b 33 1 (fun _=>hpV H)→E1 (.int .i64 ((k+1:Nat):Int)) w2)→f134_l2 K E1 y (.pointer (some ⟨b,0,none⟩)) (.pointer (some ⟨cb,0,none⟩)) v (.int .i64 (n:Int)) (.int .i64 (k:Int)) (.int .i64 (perS (f k).1)) (.int .i64 0) w1:=by
  intro k v w1 cb E1 hk hc0 hv nv hb1 hcb hC hj hfin
  have c5:=(h.cls hk).1
  have hper:=perS_in hc0 c5
  have hs:=h.rg.sn k hk hc0
  obtain ⟨m,hm⟩:∃m:Nat,perS (f k).1=(m:Int):=⟨(perS (f k).1).toNat,by omega⟩
  have hnext:livN D f (k+1)=livN D f k++livI D (26+32*k) (f k).1 m:=by
   rw [livN,if_neg oM,hm];rfl
  rw [hm]
  apply f134_l2_rule (I:=fun z w2=>∃i:Nat,z= .int .i64 (i:Int)∧i≤m∧J (livN D f k++livI D (26+32*k) (f k).1 i) w2∧SlO w2 3 1 v (lnL (fun _=>true) 26 n).length (i64L (lnL (fun _=>true) 26 n))∧Cells w2 b 33 1 (fun _=>hpV H)∧Cells w2 cb 134 5 (chF (Y.tb 0) (26+32*k) (f k).1 (f k).2.1 (gX (wd D (26+32*k) 0)))) (μ:=fun z _=>m-(intOf z).toNat)
  ·exact ⟨0,rfl,by omega,by simpa [livI] using hj,hv,hb1,hC⟩
  ·intros
   rename_i w2 hI E2 hE2
   obtain ⟨i,rfl,hi,hj2,hv2,hb2,hC2⟩:=hI
   by_cases hil:i<m
   ·have ei:(i:Int)+1=((i+1:Nat):Int):=by omega
    have hH2:=hH _ _ hj2
    have hcx:=hH2.cx hk hc0
    have her:=h.er 0 oM
    have hsb:=hs.sndB hc0 c5 i oM
    have hmk:=mk_liv h.rg hk hc0 i
    obtain ⟨t,ht⟩:=livN_pre (D:=D) (f:=f) (show k+1≤n by omega)
    obtain ⟨t2,ht2⟩:=livI_pre (D:=D) (l:=26+32*k) (c:=(f k).1) (show i+1≤m by omega)
    have htk:=fun (w3:World) (e:Ext w2 w3) (K:K1) hK=>k_Taken (hcx.ext e) (f k).2.1 (gX (wd D (26+32*k) 0)) (i:Int) K hK
    have hpt:=fun (w3:World) (e:Ext w2 w3) (K:K1) a1 a2 a3 a4 a5 a6=>k_Pointer (hcx.ext e) her (f k).2.1 (gX (wd D (26+32*k) 0)) (i:Int) 0 oM K a1 a2 a3 a4 a5 a6
    have hstep:∀w3,J (livN D f k++livI D (26+32*k) (f k).1 (i+1)) w3→SlO w3 3 1 v (lnL (fun _=>true) 26 n).length (i64L (lnL (fun _=>true) 26 n))→Cells w3 b 33 1 (fun _=>hpV H)→Cells w3 cb 134 5 (chF (Y.tb 0) (26+32*k) (f k).1 (f k).2.1 (gX (wd D (26+32*k) 0)))→E2 (.int .i64 ((i+1:Nat):Int)) w3:=fun w3 a1 a2 a3 a4=>by
     apply hE2
     ·exact ⟨i+1,rfl,by omega,a1,a2,a3,a4⟩
     ·simp [intOf];omega
    rw [livI] at hstep ht2
    rw [hnext,ht2] at ht
    have d2:=chD hC2
    have ltc:=hC2.lt
    have hpi:(i:Int)<perS (f k).1:=by omega
    rw [hm] at hpi
    have hcm:(i:Int)<(m:Int):=by omega
    unfold f134_l2_t
    have ob11:=d2;have g0:=ob11.1;have g1:=ob11.2.1;have g2:=ob11.2.2.1;have g3:=ob11.2.2.2.1;have g4:=ob11.2.2.2.2
    simp (disch:=try exact dZ) only [↓RBp,↓RA,↓reduceIte,Nat.reduceAdd,Nat.reduceMul,Nat.reduceEqDiff,RB,RX,RA2,g0,g1,g2,g3,g4]
    refine htk _ xZ _ (fun w3 e3=> ?_)
    have e23:Ext w2 w3:=Ext.trans xZ e3
    have d3:=chD (hC2.ext e23)
    have ltc3:=(hC2.ext e23).lt
    have ob12:=d3;have u0:=ob12.1;have u1:=ob12.2.1;have u2:=ob12.2.2.1;have u3:=ob12.2.2.2.1;have u4:=ob12.2.2.2.2
    cases hmb:mkB D (26+32*k) (f k).1 (i:Int) 177 with
    |false=>
     rw [hmb,if_neg (by simp),List.append_nil] at hstep
     simp (disch:=try exact dZ) only [↓RBp,↓RA,↓reduceIte,Nat.reduceAdd,Nat.reduceMul,Nat.reduceEqDiff,RB,RX,RA2]
     rw [f134_k2_eq]
     unfold f134_k2_t
     simp (disch:=try exact dZ) only [↓RBp,↓RA,↓reduceIte,Nat.reduceAdd,Nat.reduceMul,Nat.reduceEqDiff,RB,RX,RA2,ei]
     exact hstep _ (hE _ _ _ hj2 (e23.trans xZ)) (hv2.ext (e23.trans xZ)) (hb2.ext (e23.trans xZ)) (hC2.ext (e23.trans xZ))
    |true=>
     have h177:=(hmk.1 hmb).2
     rw [hmb,if_pos rfl] at hstep ht2 ht
     have hlv:livN D f n=(livN D f k++livI D (26+32*k) (f k).1 i)++ptrN (pOff (26+32*k) (f k).1 i) (bG (wd D (26+32*k) (offN (f k).1 i))) (bK (wd D (26+32*k) (offN (f k).1 i)))::(t2++t):=by
      rw [ht];simp
     rw [←List.append_assoc] at hstep
     have hyy:=fun (w4:World) (K':K1) a b=>hy _ _ _ w4 K' hlv a b
     have hj3:=hE _ _ _ hj2 e23
     generalize livN D f k++livI D (26+32*k) (f k).1 i=s1 at*
     have c17:¬(177=178):=by decide
     simp (disch:=try exact dZ) only [↓RBp,↓RA,↓reduceIte,Nat.reduceAdd,Nat.reduceMul,Nat.reduceEqDiff,RB,RX,RA2,u0,u1,u2,u3,u4]
     refine hpt _ (e23.trans xZ) _ (fun hno=>absurd ⟨by omega,by rw [hm];exact hcm⟩ hno) (fun j hji _ hns=> ?_) (fun j hji _ _ h8=> ?_) (fun j hji _ _ _ w4 e4=> ?_) (fun j hji _ _ h6=> ?_) (fun j hji _ _ h6=> ?_)
     ·have:j=i:=by omega
      subst this;exact absurd hsb hns
     ·have:j=i:=by omega
      subst this;rw [h177] at h8;exact absurd h8 (by decide)
     ·have:j=i:=by omega
      subst this
      have e34:Ext w3 w4:=Ext.trans xZ e4
      generalize ptrN (pOff (26+32*k) (f k).1 j) (bG (wd D (26+32*k) (offN (f k).1 j))) (bK (wd D (26+32*k) (offN (f k).1 j)))=pp at*
      simp (disch:=try exact dZ) only [↓RBp,↓RA,↓reduceIte,Nat.reduceAdd,Nat.reduceMul,Nat.reduceEqDiff,RB,RX,RA2]
      refine hyy _ _ (hE _ _ _ hj3 (e34.trans xZ)) (fun w5 g5 j5=> ?_) (fun w5 jx=> ?_)
      ·simp (disch:=try exact dZ) only [↓RBp,↓RA,↓reduceIte,Nat.reduceAdd,Nat.reduceMul,Nat.reduceEqDiff,RB,RX,RA2]
       rw [f134_k2_eq]
       unfold f134_k2_t
       simp (disch:=try exact dZ) only [↓RBp,↓RA,↓reduceIte,Nat.reduceAdd,Nat.reduceMul,Nat.reduceEqDiff,RB,RX,RA2,ei]
       have e24:=e23.trans e34
       exact hstep _ j5 ((hv2.ext (e24.trans xZ)).frm g5 (fun b hb hg=>by have:=nv b hb;have:=(hG b hg).1;omega)) ((hb2.ext (e24.trans xZ)).frm g5 (fun hg=>(hG b hg).2 rfl)) ((hC2.ext (e24.trans xZ)).frm g5 (fun hg=>by have:=(hG cb hg).1;omega))
      ·simp (disch:=try exact dZ) only [↓RBp,↓RA,↓reduceIte,Nat.reduceAdd,Nat.reduceMul,Nat.reduceEqDiff,RB,RX,RA2]
       exact hX _ jx
     ·have:j=i:=by omega
      subst this;rw [h177] at h6;exact absurd h6 (by decide)
     ·have:j=i:=by omega
      subst this;rw [h177] at h6;exact absurd h6 (by decide)
   ·have hi2:i=m:=by omega
    subst hi2
    unfold f134_l2_t
    simp (disch:=try exact dZ) only [↓RBp,↓RA,↓reduceIte,Nat.reduceAdd,Nat.reduceMul,Nat.reduceEqDiff,RB,RX,RA2]
    rw [f134_k1_eq]
    unfold f134_k1_t
    have ek:(k:Int)+1=((k+1:Nat):Int):=by omega
    simp (disch:=try exact dZ) only [↓RBp,↓RA,↓reduceIte,Nat.reduceAdd,Nat.reduceMul,Nat.reduceEqDiff,RB,RX,RA2,ek]
    exact hfin _ (by rw [hnext];exact hj2) hv2 hb2
 refine f134_call _ _ _ _ ?_
 unfold f134_t
 simp (disch:=try exact dZ) only [↓RBp,↓RA,↓reduceIte,Nat.reduceAdd,Nat.reduceMul,Nat.reduceEqDiff,RB,RX,RA2,hbc,q3]
 refine hln _ xZ _ (fun v w1 e1 nv hv=> ?_)
 have e01:Ext w w1:=Ext.trans xZ e1
 have nv':NewV w.heap.size v:=fun b hb=>nv b hb
 obtain ⟨a,cap,rfl⟩:=SlO.form hv
 rw [ln.1]
 have inner:=fun k w1 cb E1=>inner k (.slice a (lnL (fun _=>true) 26 n).length cap) w1 cb E1
 have hRd:∀w2,SlO w2 3 1 (.slice a (lnL (fun _=>true) 26 n).length cap) (lnL (fun _=>true) 26 n).length (i64L (lnL (fun _=>true) 26 n))→RdS w2.heap.size w2 (.slice a (lnL (fun _=>true) 26 n).length cap) (i64L (lnL (fun _=>true) 26 n)):=fun w2 h=>RdS.of_slR (t:=3) (by rw [show (i64L (lnL (fun _=>true) 26 n)).length=(lnL (fun _=>true) 26 n).length by simp];exact h)
 have lk:(i64L (lnL (fun _=>true) 26 n)).length=n:=by simp [ln.1]
 rw [ln.1] at inner hv hRd
 simp (disch:=try exact dZ) only [↓RBp,↓RA,↓reduceIte,Nat.reduceAdd,Nat.reduceMul,Nat.reduceEqDiff,RB,RX,RA2]
 apply f134_l1_rule (I:=fun z w2=>∃k:Nat,z= .int .i64 (k:Int)∧k≤n∧J (livN D f k) w2∧SlO w2 3 1 (.slice a n cap) n (i64L (lnL (fun _=>true) 26 n))∧Cells w2 b 33 1 (fun _=>hpV H)) (μ:=fun z _=>n-(intOf z).toNat)
 ·exact ⟨0,rfl,by omega,h0 _ (e01.trans xZ),hv.ext xZ,hb.ext (e01.trans xZ)⟩
 ·intros
  rename_i w2 hI E1 hE1
  obtain ⟨k,rfl,hk,hj2,hv2,hb2⟩:=hI
  by_cases hkn:k<n
  ·have lkk:(i64L (lnL (fun _=>true) 26 n))[k]? =some (.int .i64 ((26+32*k:Nat):Int)):=by
    rw [i64L,List.getElem?_map,ln.2 k hkn];rfl
   obtain ⟨sb,so,sc,ev1,hc⟩:=(hRd w2 hv2).get lkk
   rw [lk] at ev1
   injection ev1 with ev1 _ ev2
   subst ev1;subst ev2
   have hH2:=hH _ _ hj2
   have hbc2:w2.cell? ⟨b,0,none⟩=some (hpV H):=hb2.cell (i:=0) oM
   have q02:=hH2.cell.1
   have lt2:=hH2.ltp
   have ltb2:=hb2.lt
   have ek:(k:Int)+1=((k+1:Nat):Int):=by omega
   have hfin:∀w3,J (livN D f (k+1)) w3→SlO w3 3 1 (.slice (some ⟨sb,so,none⟩) n cap) n (i64L (lnL (fun _=>true) 26 n))→Cells w3 b 33 1 (fun _=>hpV H)→E1 (.int .i64 ((k+1:Nat):Int)) w3:=fun w3 a1 a2 a3=>by
    apply hE1
    ·exact ⟨k+1,rfl,by omega,a1,a2,a3⟩
    ·simp [intOf];omega
   unfold f134_l1_t
   by_cases hc0:0≤(f k).1
   ·have hop:=hH2.open hkn hc0
    have c5:=(h.cls hkn).1
    have hpc:∀(w3:World) (K:K1),Ext w2 w3→callS prog 135 #[.int .i64 (f k).1] w3 K=K (.int .i64 (perS (f k).1)) w3:=fun w3 K e=>c_PerChunk _ w3 K (hH2.gl.ext e)
    have hcl:∀(w3:World) (K:K1),callS prog 136 #[chV Y (26+32*k) (f k).1 (f k).2.1 (gX (wd D (26+32*k) 0))] w3 K=K (.int .i64 (f k).1) (w3.alloc (chO Y (26+32*k) (f k).1 (f k).2.1 (gX (wd D (26+32*k) 0)))):=fun w3 K=>c_Class K
    have inn:=fun w3 cb=>inner k w3 cb E1 hkn hc0
    simp (disch:=try exact dZ) only [↓RBp,↓RA,↓reduceIte,Nat.reduceAdd,Nat.reduceMul,Nat.reduceEqDiff,RB,RX,RA2,hc,hbc2,q02]
    refine hop _ _ xZ (fun w3 e3=> ?_)
    have e23:Ext w2 w3:=Ext.trans xZ e3
    have hN:=Cells.new w3 [Value.iface 31 (.pointer (some ⟨Y.tb 0,0,none⟩)),.int .i64 ((26+32*k:Nat):Int),.int .i64 (f k).1,.int .i64 (f k).2.1,.int .u16 (gX (wd D (26+32*k) 0):Int)] 134
    have ob13:=chD hN;have g0:=ob13.1;have g1:=ob13.2.1;have g2:=ob13.2.2.1;have g3:=ob13.2.2.2.1;have g4:=ob13.2.2.2.2
    simp (disch:=try exact dX) only [↓RBp,↓RA,↓reduceIte,Nat.reduceAdd,Nat.reduceMul,Nat.reduceEqDiff,RB,RX,RA2,g0,g1,g2,g3,g4,hcl,hpc]
    have sz:w.heap.size≤w3.heap.size:=by
     have:=nv' sb rfl
     have:=hv2.lt (b:=sb) rfl
     have:=e23.size
     omega
    refine inn _ w3.heap.size (hv2.ext (e23.trans xZ)) nv' (hb2.ext (e23.trans xZ)) sz (Cells.ext hN xZ) (hE _ _ _ hj2 (e23.trans xZ)) hfin
   ·have hop:=hH2.openZ hkn oM
    have hnx:livN D f (k+1)=livN D f k:=by rw [livN,if_pos oM,List.append_nil]
    simp (disch:=try exact dZ) only [↓RBp,↓RA,↓reduceIte,Nat.reduceAdd,Nat.reduceMul,Nat.reduceEqDiff,RB,RX,RA2,hc,hbc2,q02]
    refine hop _ _ xZ (fun w3 e3=> ?_)
    have e23:Ext w2 w3:=Ext.trans xZ e3
    simp (disch:=try exact dZ) only [↓RBp,↓RA,↓reduceIte,Nat.reduceAdd,Nat.reduceMul,Nat.reduceEqDiff,RB,RX,RA2]
    rw [f134_k1_eq]
    unfold f134_k1_t
    simp (disch:=try exact dZ) only [↓RBp,↓RA,↓reduceIte,Nat.reduceAdd,Nat.reduceMul,Nat.reduceEqDiff,RB,RX,RA2,ek]
    exact hfin _ (by rw [hnx];exact hE _ _ _ hj2 (e23.trans xZ)) (hv2.ext (e23.trans xZ)) (hb2.ext (e23.trans xZ))
  ·have hk2:k=n:=by omega
   subst hk2
   unfold f134_l1_t
   simp (disch:=try exact dZ) only [↓RBp,↓RA,↓reduceIte,Nat.reduceAdd,Nat.reduceMul,Nat.reduceEqDiff,RB,RX,RA2]
   exact hK _ hj2
end
end Go.Proofs.YtmpehclnnjgmcaaGreatDoor
