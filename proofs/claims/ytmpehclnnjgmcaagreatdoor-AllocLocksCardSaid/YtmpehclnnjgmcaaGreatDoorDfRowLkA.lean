/-
  Part A of the proof in YtmpehclnnjgmcaaGreatDoorDfRowLk.
-/
import Derived.Test.YtmpehclnnjgmcaaGreatDoorDf6
import Derived.Test.YtmpehclnnjgmcaaGreatDoorDf4
import Derived.Test.YtmpehclnnjgmcaaGreatDoorDf2
import Derived.Test.YtmpehclnnjgmcaaGreatDoorDf5
import Derived.Test.YtmpehclnnjgmcaaGreatDoorDf1
set_option linter.unusedSimpArgs false
set_option linter.unusedVariables false
set_option maxHeartbeats 20000000
set_option maxRecDepth 100000
set_option linter.defProp false
open Go.Proofs.Tryz (prog)
open Go.RowKit (intOf)
open Bool renaming false_eq_true->ca
open Go renaming World->ab,Value->bb
open Go.Builtin renaming append_->bv
open Go.Instr renaming buildSlice->aA
open Go.Sem renaming run_bind->ch
open List renaming mem_singleton->an,exists_mem_of_length_pos->aB,getElem?_cons_zero->bd,length_cons->cb,mem_append->cd,length_nil->cg
open Nat renaming le_refl->al,eq_zero_or_pos->ap,le_trans->bl
namespace Go.Proofs.YtmpehclnnjgmcaaGreatDoor
open Go Go.Sh
section
variable {w0 w w':ab} {Y Y':Lay} {D D':DS} {H:HL} {n k i j p v Wb:Nat} {f:Idx} {R:List Nat} {lv hd dd:bb} {DD:List (Nat×Int)} {c:Int}
structure HdE (D D':DS) (f:Idx) (n:Nat):Prop where
 on:On D'
 gd:aH D'
 nn:D'.n=D.n
 w:∀k,k<n->(∀x,x<8->wd D' (26+32*k) x=wd D (26+32*k) x)/\∀i:Nat,(i:Int)<perS (f k).1->0<=(f k).1->wd D' (26+32*k) (offN (f k).1 i)=wd D (26+32*k) (offN (f k).1 i)
def HdE.rg (e:HdE D D' f n) (h:RgS D 26 n f):RgS D' 26 n f:=
 ⟨e.on,e.gd,by rw [e.nn];exact h.lt,λj hj=>by rw [(e.w j hj).1 0 oM];exact h.ag j hj,λj hj h0=>(h.sn j hj h0).congrH h0 (h.cls hj).1 (e.w j hj).1 (λi' a=>(e.w j hj).2 i' a h0)⟩
def HdE.rsv (e:HdE D D' f n) (h:Rsv D f n p):Rsv D' f n p:=by
 obtain ⟨k,i,kd,a1,a2,a3,a4,a5,a6⟩:=h;have ew:=(e.w k a1).2 i a3 a2;exact ⟨k,i,kd,a1,a2,a3,by rw [ew];exact a4,by rw [ew];exact a5,a6⟩
def HdE.liv (e:HdE D D' f n):Liv D' f n p↔Liv D f n p:=by
 constructor
 ·rintro ⟨k,i,a1,a2,a3,a4⟩;have ew:=(e.w k a1).2 i a3 a2;rw [ew] at a4;exact ⟨k,i,a1,a2,a3,a4⟩
 ·rintro ⟨k,i,a1,a2,a3,a4⟩;have ew:=(e.w k a1).2 i a3 a2;rw [<-ew] at a4;exact ⟨k,i,a1,a2,a3,a4⟩
def HdE.livN (e:HdE D D' f n) (rg:RgS D 26 n f) (nn:D.n<=4096):livN D' f n=livN D f n:=
 Bp (nz (e.rg rg) (by rw [e.nn];exact nn) n (al _)) (nz rg nn n (al _)) (λx=>by rw [kQ (e.rg rg),kQ rg];exact e.liv)
end
section
variable {w0 w w1 w':ab} {Y Y' Y1:Lay} {D D' DF:DS} {H:HL} {n k i j p v Wb:Nat} {f g:Idx} {R:List Nat} {lv hd dd:bb} {DD:List (Nat×Int)} {c:Int}
def Wd (n7:n<=120):Cln (hbD n).co:=by
 obtain ⟨a1,a2,a3,a4,a5,a6⟩:=Lf n7;exact AE a1 a2 (show 26+32*n<=(hlD n).n by omega) (fb (On.zero _) (λx hx=>by simp only [an] at hx;subst hx;exact ⟨rfl,show 0<(26+32*n)*64 by omega⟩) (CF _)) n (al _)
def nA (h:HpS w0 w Y D H n f R) (w1:ab) (e:Ext w w1) (K:K1):ad prog 34 #[hpV H] w1 K=K (.bool H.lk) w1:=by
 have q7:=(h.ext e).cell.2.2.2.2.2.2.2;have lt:=(h.ext e).ltp;refine ao (by kernel_rfl) (CO _ _ _ ?_) K;unfold Uj
 (repeat' first|refine ak (λ_=> ?_) (λ_=> ?_)|refine am ?_ ?_|refine zS1 q7 ?_|exact yS1 q7|fail)
end
section
variable {Q:Nat->Prop} {w0 w w':ab} {Y Y':Lay} {D D':DS} {H H':HL} {n k i j p v Wb B:Nat} {f g:Idx} {R:List Nat} {lv hd dd:bb} {c:Int}
abbrev HlE (H' H:HL):Prop:=H'.S=H.S/\H'.b=H.b/\H'.o=H.o/\H'.cp=H.cp/\H'.p=H.p/\H'.rm=H.rm/\H'.hm=H.hm/\H'.B=H.B
def HpG.setG (h:HpG Q w0 w Y D H n f R) (g:Frm (λx=>x=H.p) w w') (e:HlE H' H) (cl:af w' H.p 112 8 (hpF (Y.tb 0) n H'))
  (av:(H'.av=none/\H'.avl= [])\/∃r,H'.av=some r/\bj .i64 w' r (avL H'.avl)/\r≠H.rm/\r≠H.hm/\r≠H.p) (sp:∀r,H'.av=some r->w0.heap.size<=r/\¬Y.F r/\r≠H.b/\r≠H.S):HpG Q w0 w' Y D H' n f R:=by
 have sP:=h.sep H.p (.inl rfl);have dif:=h.dif;obtain ⟨L,l1,l2⟩:=h.hd;have a1:=h.ar.frmH g (λx hx=>by subst hx;exact sP);obtain ⟨S',b',o',j,p',d,i,l,c,k,B'⟩:=H';simp only at e av sp;obtain ⟨rfl,rfl,rfl,rfl,rfl,rfl,rfl,rfl⟩:=e;refine ⟨a1,h.rg,cl,h.lg.frm g dif.2.2.2.2.2,h.rs.frm g (λe=>dif.1 e.symm),⟨L,l1.frm g (λe=>dif.2.1 e.symm),l2⟩,h.nd,h.rv,h.ho,h.er,h.idl,av,λx hx=> ?_,dif,h.dt⟩;rcases hx with a|a|a|a|a
 ·exact h.sep x (.inl a)
 ·exact h.sep x (.inr (.inl a))
 ·exact h.sep x (.inr (.inr (.inl a)))
 ·exact h.sep x (.inr (.inr (.inr (.inl a))))
 ·exact sp x a
def LW.setG (h:LW w0 w Wb lv hd dd Y D H n f R) (g:Frm (λx=>x=H.p) w w') (e:HlE H' H) (cl:af w' H.p 112 8 (hpF (Y.tb 0) n H'))
  (av:(H'.av=none/\H'.avl= [])\/∃r,H'.av=some r/\bj .i64 w' r (avL H'.avl)/\r≠H.rm/\r≠H.hm/\r≠H.p) (sp:∀r,H'.av=some r->w0.heap.size<=r/\¬Y.F r/\r≠H.b/\r≠H.S):LW w0 w' Wb lv hd dd Y D H' n f R:=by
 refine ⟨h.hp.setG g e cl av sp,(h.bx.frm g h.ne.2.2.1).congr (λj _=> ?_),h.n0,?_⟩
 ·obtain ⟨S',b',o',i,p',c,d,l,a,k,B'⟩:=H';unfold HlE at e;obtain ⟨rfl,rfl,rfl,rfl,rfl,rfl,rfl,rfl⟩:=e;rfl
 ·rw [e.2.1,e.2.2.2.2.1,e.2.2.2.2.2.1,e.2.2.2.2.2.2.1];exact h.ne
def Wv {u:bb} (h:HpG Q w0 w Y D H n f R) (hi:i<8) (hv:∀j,j<8->(if j=i then u else hpF (Y.tb 0) n H j)=hpF (Y.tb 0) n H' j):Frm (λx=>x=H.p) w (w.setCell ⟨H.p,i,none⟩ u)/\af (w.setCell ⟨H.p,i,none⟩ u) H.p 112 8 (hpF (Y.tb 0) n H'):=
 ⟨(Frm.refl (λx=>x=H.p) w).set (p:=⟨H.p,i,none⟩) u (λ_=>rfl),(h.hp.set (i:=i) u hi).congr (λj hj=>hv j hj)⟩
def LW.setLk (h:LW w0 w Wb lv hd dd Y D H n f R) (b:Bool):LW w0 (w.setCell ⟨H.p,7,none⟩ (.bool b)) Wb lv hd dd Y D {H with lk:=b} n f R:=by
 have hs:=Wv (H':={H with lk:=b}) (i:=7) (u:= .bool b) h.hp oM (λj hj=>by
  have:j=0\/j=1\/j=2\/j=3\/j=4\/j=5\/j=6\/j=7:=oM;rcases this with rfl|rfl|rfl|rfl|rfl|rfl|rfl|rfl<;>rfl)
 exact h.setG hs.1 ⟨rfl,rfl,rfl,rfl,rfl,rfl,rfl,rfl⟩ hs.2 (h.hp.avm.imp id (λ⟨r,a,b,c⟩=>⟨r,a,b.frm hs.1 c.2.2,c⟩)) (λr hr=>h.hp.sep r (.inr (.inr (.inr (.inr hr)))))
def abU (h:HpS w0 w Y D H n f R) (hl:H.lk=false) (K:K1) (hK:K (.bool true) (w.setCell ⟨H.p,7,none⟩ (.bool true))):ad prog 35 #[hpV H] w K:=by
 have q7:=h.cell.2.2.2.2.2.2.2;rw [hl] at q7;have fz:=h.hp.frz;have lt:=h.ltp;refine tw _ _ _ ?_;unfold KH;refine zS2 q7 fz ?_;exact hK
def Ww (h:HpS w0 w Y D H n f R) (hl:H.lk=true) (w1:ab) (e:Ext w w1) (K:K1):ad prog 35 #[hpV H] w1 K=K (.bool false) w1:=by
 have q7:=(h.ext e).cell.2.2.2.2.2.2.2;rw [hl] at q7;refine ao (by kernel_rfl) (tw _ _ _ ?_) K;unfold KH
 (repeat' first|refine ak (λ_=> ?_) (λ_=> ?_)|refine am ?_ ?_|refine zS1 q7 ?_|exact yS1 q7|fail)
def Wx (h:HpS w0 w Y D H n f R) (K:K1) (hK:K (.tuple #[]) (w.setCell ⟨H.p,7,none⟩ (.bool false))):ad prog 38 #[hpV H] w K:=by
 have q7:=h.cell.2.2.2.2.2.2.2;have fz:=h.hp.frz;have lt:=h.ltp;refine Um _ _ _ ?_;unfold ZL;refine zS2 q7 fz ?_;exact hK
def Ei (h:HpS w0 w Y D H n f R) (hl:H.lk=true) (hk:k<8) (sp:Spc w Y H B k) (x:Int) (x1:1<=x) (x60:x<=60) (w1:ab) (e:Ext w w1) (K:K1):
  ad prog 36 #[.pointer (some ⟨B,0,none⟩),.int .i64 x,.int .u8 ((64:Nat):Int)] w1 K=K (.tuple #[.int .u64 ((0:Nat):Int),.int .i64 7]) w1:=by
 have h1:=h.ext e;have s1:=sp.st (HSt.of_ext Y H e);obtain ⟨q0,q1,q2⟩:=s1.cells;have q3:=h1.cell.1;have q7:w1.cell? ⟨H.p,7,none⟩=some (.bool H.lk):=h1.cell.2.2.2.2.2.2.2;rw [hl] at q7;have d:=λ(K:K1)=>acT h1.ar.L.dv k hk K
 rw [h1.dt.2] at d;have b:=λ(K:K1)=>cM h1.ar.L.dv k hk K
 rw [h.er k hk] at b;have c:=λ(K:K1)=>cM h1.ar.L.dv 0 oM K
 rw [h.er 0 oM] at c;have a:=λ(K:K1)=>gD (k:Int) x 64 oM w1 K
 rw [if_pos oM,if_pos oM] at a;refine ao (by kernel_rfl) (CP _ _ _ _ _ ?_) K;unfold Uk
 (repeat' first|refine ak (λ_=> ?_) (λ_=> ?_)|refine am ?_ ?_|refine lC q0 q1 q2 q3 q7 d b c a a a ?_|exact uu q0 q1 q2 q3 q7 d b c a a a|fail)
def Pz (h:HpS w0 w Y D H n f R) (hl:H.lk=true) (hk:k<8) (sp:Spc w Y H B k) (va vb:bb) (K:K1) (hK:∀w',Ext w w'->K (.int .i64 7) w'):
  ad prog 17 #[.pointer (some ⟨B,0,none⟩),.slice none 0 0,va,vb] w K:=by
 obtain ⟨q0,q1,q2⟩:=sp.cells;have c:=h.rg.lt;refine mV _ _ _ _ _ _ ?_;unfold CL;refine zS1 q2 ?_;refine Bd h.ar.L.dv h.rg.gd h.gl oM rfl h.lg (λ_=>⟨h.rg.on.off,h.idl⟩) [] _ (SlO.nil _ _ _) (by simp) (by simp) (by simp) _ (λhh=>by simp at hh) (λ_ he=>absurd (h.er 0 oM) he) (λ_ _ v' w1 e1 _ _=> ?_);have h1:=h.ext e1;have s1:=(sp.st (HSt.of_ext Y H e1)).cells;have q0:=s1.1;have q1:=s1.2.1;have q7:w1.cell? ⟨H.p,7,none⟩=some (.bool H.lk):=h1.cell.2.2.2.2.2.2.2;rw [hl] at q7;have a:=λ(K:K1)=>cM h1.ar.L.dv k hk K
 rw [h.er k hk] at a;have b:=hK w1 e1;refine zS4 q0 q1 q7 a ?_;exact b
def Wy {F:Nat->Prop} {a:Addr} (g:Frm F w w') (hb:a.block<w.heap.size) (hn:¬F a.block):w'.cell? a=w.cell? a:=by unfold World.cell?;rw [g.block _ hb hn]
def abV (x:Int):setL (avL []) x (.bool true)=avL [x]:=rfl
def YH (h:LW w0 w Wb lv hd dd Y D H n f R) (hk:k<n) (hx:w.cell? ⟨B,0,none⟩=some (.int .i64 ((26+32*k:Nat):Int))) (hB:B≠H.p) (K:K1)
  (hK:∀m w',LW w0 w' Wb lv hd dd Y D {H with av:=some m,avl:= [((26+32*k:Nat):Int)]} n f R->Frm (λx=>x=H.p) w w'->K (.tuple #[]) w'):
  ad prog 33 #[hpV H,.slice (some ⟨B,0,none⟩) 1 1] w K:=by
 have fz:=h.hp.hp.frz;have lt:=h.hp.ltp;have ltB:=ay hx;have n4:=h.hp.n4;have q6:=h.hp.cell.2.2.2.2.2.2.1;have sS:=h.hp.ar.st.lt;have sb:H.b<w.heap.size:=h.hp.ar.pl.lt rfl;have e:=h.hp.rs.lt;obtain ⟨Lh,c,_⟩:=h.hp.hd;have l:=c.lt;have nF:¬Y.F w.heap.size:=λhf=>by have:=h.hp.ar.L.dv.lt hf;omega
 have d:=h.hp.ex.size;have hs:=Wv (H':={H with av:=some w.heap.size,avl:= [((26+32*k:Nat):Int)]}) (i:=6) (u:= .map (some w.heap.size)) h.hp oM (λj hj=>by
  have:j=0\/j=1\/j=2\/j=3\/j=4\/j=5\/j=6\/j=7:=oM;rcases this with rfl|rfl|rfl|rfl|rfl|rfl|rfl|rfl<;>rfl)
 have g2:Frm (λx=>x=H.p) w ((w.setCell ⟨H.p,6,none⟩ (.map (some w.heap.size))).alloc (.map #[] 0)):=hs.1.ext (Ext.alloc_self _ _);have c2:=hs.2.ext (Ext.alloc_self (w.setCell ⟨H.p,6,none⟩ (.map (some w.heap.size))) (.map #[] 0));have a:((w.setCell ⟨H.p,6,none⟩ (.map (some w.heap.size))).alloc (.map #[] 0)).heap[w.heap.size]? =some (.map #[] 0):=by
  have:=aL (w.setCell ⟨H.p,6,none⟩ (.map (some w.heap.size))) (.map #[] 0)
  rwa [World.size_setCell] at this
 have ma:bj .i64 ((w.setCell ⟨H.p,6,none⟩ (.map (some w.heap.size))).alloc (.map #[] 0)) w.heap.size (avL []):=bj.empty a;have xc:((w.setCell ⟨H.p,6,none⟩ (.map (some w.heap.size))).alloc (.map #[] 0)).cell? ⟨B,0,none⟩=some (.int .i64 ((26+32*k:Nat):Int)):=by
  rw [Wy g2 ltB hB];exact hx
 refine Ui _ _ _ _ ?_;unfold ZJ;refine zS2 fz q6 ?_;generalize (w.setCell ⟨H.p,6,none⟩ (.map (some w.heap.size))).alloc (.map #[] 0)=w2 at*;generalize hm:w.heap.size=m at*;apply CM (I:=λz w'=>(z= .int .i64 ((0:Nat):Int)/\w'=w2)\/(z= .int .i64 ((1:Nat):Int)/\LW w0 w' Wb lv hd dd Y D {H with av:=some m,avl:= [((26+32*k:Nat):Int)]} n f R/\Frm (λx=>x=H.p) w w')) (μ:=λz _=>2-(intOf z).toNat)
 ·exact .inl ⟨rfl,rfl⟩
 ·intros;rename_i w3 hI E1 hE;rcases hI with ⟨rfl,rfl⟩|⟨rfl,L3,g3⟩
  ·have r1:w3.cell? ⟨H.p,1,none⟩=some (.int .i64 ((26:Nat):Int)):=c2.cell (i:=1) oM;have r2:w3.cell? ⟨H.p,2,none⟩=some (.int .i64 ((32*n:Nat):Int)):=c2.cell (i:=2) oM;have r6:w3.cell? ⟨H.p,6,none⟩=some (.map (some m)):=c2.cell (i:=6) oM;have g:=c2.lt;have d1:((26+32*k:Nat):Int)-((26:Nat):Int)=((32*k:Nat):Int):=oM;have d2:((32*k:Nat):Int)%32=0:=oM;have d3:((32*k:Nat):Int)<((32*n:Nat):Int):=oM;have d4:((26:Nat):Int)<=((26+32*k:Nat):Int):=oM;unfold tu;refine zS8 xc r1 r2 r6 d1 d2 d3 d4 ?_;refine jc mTa ma _ _ (λw4 m4 g4=> ?_);rw [abV] at m4;have g5:Frm (λx=>x=H.p) w w4:=g2.trans g4 (λx hx hf=>by omega);have c4:=c2.frm g4 (show ¬H.p=m by omega);have L4:=h.setG g5 (H':={H with av:=some m,avl:= [((26+32*k:Nat):Int)]}) ⟨rfl,rfl,rfl,rfl,rfl,rfl,rfl,rfl⟩ c4 (.inr ⟨m,rfl,m4,by omega,by omega,by omega⟩) (λr hr=>by injection hr with hr;subst hr;exact ⟨by omega,nF,by omega,by omega⟩);rw [OM];unfold CN;refine zS0 ?_;apply hE
   ·exact .inr ⟨rfl,L4,g5⟩
   ·simp only [intOf];omega
  ·unfold tu;refine zS0 ?_;exact hK m w3 L3 g3
end
def nD (l0:Nat):∀n,(lnL (λ_=>true) l0 n).length=n
 |0=>rfl
 |n+1=>by simp [lnL,nD l0 n]
def Lr (l0:Nat):∀n i,i<n->(lnL (λ_=>true) l0 n)[i]? =some ((l0+32*i:Nat):Int)
 |n+1,i,h=>by
  unfold lnL;rw [if_pos rfl];by_cases e:i=n
  ·subst e;rw [List.getElem?_append_right (by rw [nD];exact al _),nD,Nat.sub_self];rfl
  ·rw [List.getElem?_append_left (by rw [nD];omega)];exact Lr l0 n i oM
def jE {P:Program} {t e ty:TypeId} {z a:Nat} {zv:bb} (E:ElT P t t e z a zv) {cs:Array Bool} (b o n c:Nat) (h:n<=c) (w:ab) (k:K1):aY P .append #[t,t] ty cs #[.slice (some ⟨b,o,none⟩) n c,.slice none 0 0] w k=k (.slice (some ⟨b,o,none⟩) n c) w:=by
 obtain ⟨i,hi,rfl,hz,rfl⟩:=E.info;have hr:(bv #[t,t] ty #[.slice (some ⟨b,o,none⟩) n c,.slice none 0 0]).run P w= .ok (.slice (some ⟨b,o,none⟩) n c) w:=by
  simp [bv,ax E.un,ch,sizeOf,typeInfo,program,Sem.run,hi,Builtin.lenOf,Builtin.firstCells,h,storeCells]
 unfold aY builtin;rw [ch,hr];rfl
section
variable {Q:Nat->Prop} {w0 w w':ab} {Y Y':Lay} {D D':DS} {H H':HL} {n k i j p v Wb B:Nat} {f g:Idx} {R:List Nat} {lv hd dd:bb} {c:Int}
def PA (q:List Ins) (u:bb) (hq:SlO w 220 3 u q.length (inL q)) (h2:0<q.length) (h4:q.length<1073741824) (K:K1)
  (hK:∀v' w',SlO w' 220 3 v' q.length (inL q)->Ext w w'->bw w.heap.size v'->K v' w'):ad prog 119 #[.slice none 0 0,u] w K:=by
 obtain ⟨qb,qo,qc,rfl,l⟩:=hq.isS h2;refine vH _ _ _ _ ?_;unfold Gw;refine zS0 ?_;refine vU _ _ _ ?_;unfold GC;refine zS0 ?_;have d1:∀(w':ab),Ext (w.alloc (.cells #[.slice none 0 0,.slice (some ⟨qb,qo,none⟩) q.length qc] 120)) w'->w'.cell? ⟨w.heap.size,0,none⟩=some (.slice none 0 0)/\w'.cell? ⟨w.heap.size,1,none⟩=some (.slice (some ⟨qb,qo,none⟩) q.length qc):=by
  intro w' he;constructor
  ·rw [he.cell _ _ (by simp only [RZ];omega),aO _ _ _ _ _ rfl];rfl
  ·rw [he.cell _ _ (by simp only [RZ];omega),aO _ _ _ _ _ rfl];rfl
 generalize hw1:w.alloc (.cells #[.slice none 0 0,.slice (some ⟨qb,qo,none⟩) q.length qc] 120)=w1 at*;have e1:Ext w w1:=by rw [<-hw1];exact Ext.alloc_self _ _
 apply mB (I:=λx z w'=>w'=w1/\∃i:Nat,z= .int .i64 (i:Int)/\i<=2/\x= .int .i64 (((if i=2 then q.length else 0:Nat)):Int)) (μ:=λ_ z _=>2-(intOf z).toNat)
 ·exact ⟨rfl,0,rfl,by omega,rfl⟩
 ·intros;rename_i w2 hI E1 hE;obtain ⟨rfl,i,rfl,hi,hx⟩:=hI;have c0:=(d1 w2 (Ext.refl _)).1;have c1:=(d1 w2 (Ext.refl _)).2;have e:i=0\/i=1\/i=2:=oM;rcases e with rfl|rfl|rfl
  ·simp only [show ¬(0=2) by omega,↓reduceIte] at hx;subst hx;unfold eS;refine zS3 c0 @i4 @ic.eq_1 ?_;apply hE
   ·exact ⟨rfl,1,rfl,by omega,by simp⟩
   ·simp [intOf]
  ·simp only [show ¬(1=2) by omega,↓reduceIte] at hx;subst hx;unfold eS;refine zS3 c1 @i4 @ic.eq_1 ?_;apply hE
   ·exact ⟨rfl,2,rfl,by omega,by simp⟩
   ·simp [intOf]
  ·simp only [↓reduceIte] at hx;subst hx;unfold eS;have gg:∀K':K1,(∀c w',Ext w2 w'->SlO w' 220 3 (.slice (some ⟨w2.heap.size,0,none⟩) 0 c) 0 []->q.length<=c->K' (.slice (some ⟨w2.heap.size,0,none⟩) 0 c) w')->ad prog 186 #[.slice none 0 0,.int .i64 ((q.length:Nat):Int)] w2 K':=λK' h=>Ss q.length h2 oM K' h
   refine zS2 @sk @oG.eq_1 ?_;refine gg _ (λc w3 a g m=> ?_);refine zS0 ?_;apply mC (I:=λx z w'=>∃i:Nat,z= .int .i64 (i:Int)/\i<=2/\((i<=1/\x= .slice (some ⟨w2.heap.size,0,none⟩) 0 c/\w'=w3)\/(i=2/\SlO w' 220 3 x q.length (inL q)/\Frm Nob w2 w'/\bw w2.heap.size x))) (μ:=λ_ z _=>2-(intOf z).toNat)
   ·exact ⟨0,rfl,by omega,.inl ⟨by omega,rfl,rfl⟩⟩
   ·intros;rename_i w4 d E4 f;obtain ⟨i,rfl,hi,d⟩:=d;unfold oJ;rcases d with ⟨i1,rfl,rfl⟩|⟨rfl,s4,f4,n4⟩
    ·have c0:=(d1 w4 a).1;have c1:=(d1 w4 a).2;have e:i=0\/i=1:=oM;rcases e with rfl|rfl
     ·have a0:=λcs ty k=> @jE prog 120 _ ty _ _ _ GN cs w2.heap.size 0 0 c oM w4 k
      refine zS2 c0 a0 ?_;apply f
      ·exact ⟨1,rfl,by omega,.inl ⟨by omega,rfl,rfl⟩⟩
      ·simp [intOf]
     ·refine zS1 c1 ?_;refine bD GN (w0:=w2) g (Frm.of_ext a) (λb hb=>by injection hb with hb;subst hb;exact al _) (news:=inL q) (lJ q) (λj u hj=>(hq.ext (e1.trans a)).cell rfl hj) (lO q) h2 oM oM (λv' w5 s5 f5 n5 _ _=> ?_);refine zS0 ?_;apply f
      ·exact ⟨2,rfl,by omega,.inr ⟨rfl,by simpa using s5,f5,n5⟩⟩
      ·simp [intOf]
    ·have e4:Ext w2 w4:=f4.to_ext (λ_ _ h=>h);refine zS2 @sq @oI.eq_1 ?_;exact hK _ _ s4 (e1.trans e4) (λb hb=>bl e1.size (n4 b hb))
def Wz (h:HpS w0 w Y D H n f R) (hk:k<n) (hf:(f k).1<0) (ho:(f k).2.1<0) (hA:((26+32*k:Nat):Int)∉H.avl) (hB:∀j,j<k->((26+32*j:Nat):Int)∈H.avl) (K:K1)
  (hK:∀w',Ext w w'->K (.tuple #[.int .i64 ((26+32*k:Nat):Int),.int .u16 (gX (wd D (26+32*k) 0):Int),.slice none 0 0]) w'):
  ad prog 117 #[hpV H] w K:=by
 have q3:=h.cell.2.2.2.1;have ltp:=h.ltp;have y:=h.n4;have ag:=h.rg.ag k hk;refine O6 _ _ _ ?_;unfold Vd;refine zS1 q3 ?_;have o:=qS h.ar;have lT:=nD 26 n;have gT:=Lr 26 n;generalize lnL (λ_=>true) 26 n=L at*;refine o _ (λv w1 e1 nv hv=> ?_);have hr:RdS w1.heap.size w1 v (aX L):=RdS.of_slR (by rw [show (aX L).length=L.length by simp];exact hv);obtain ⟨va,vc,l,_⟩:=id hr;rw [show (aX L).length=L.length by simp] at l;subst l;refine zS0 ?_;apply AS (I:=λz w'=>∃j:Nat,z= .int .i64 (j:Int)/\j<=k/\Ext w1 w') (μ:=λz _=>n-(intOf z).toNat)
 ·exact ⟨0,rfl,by omega,Ext.refl _⟩
 ·intros;rename_i w2 hI E1 hE;obtain ⟨j,rfl,hj,e2⟩:=hI;have a:=e1.trans e2;have q6:=(h.ext a).cell.2.2.2.2.2.2.1;have m:=(h.ext a).cell.2.2.2.1;have q0:=(h.ext a).cell.1;have t:=ay q6;have x:j<L.length:=oM;have gj:L[j]? =some ((26+32*j:Nat):Int):=gT j oM;obtain ⟨sb,so,sc,c,hc⟩:=(hr.ext e2).get (j:=j) (by unfold aX;rw [List.getElem?_map,gj];rfl);injection c with c _ ev2;subst c;subst ev2;have u:=ay hc;have b:=(h.ext a).avo ((26+32*j:Nat):Int);unfold xA;by_cases ejk:j<k
  ·rw [decide_eq_true (hB j ejk)] at b;refine dY hc q6 b @HR @pM.eq_1 @pM.eq_1 ?_;apply hE
   ·exact ⟨j+1,by simp,by omega,e2.trans xZ⟩
   ·simp [intOf];omega
  ·obtain rfl:j=k:=oM;rw [decide_eq_false hA] at b;have r:=λ(w3:ab) (e:Ext w2 w3) (K:K1) hK=>xj ((h.ext a).ext e).ar hk K hK
   have d:=λ(w3:ab) (e:Ext w2 w3) (K:K1) hK=>sR (((h.ext a).ext e).ar.L.dv) h.rg.gd (((h.ext a).ext e).gl) h.rg.on.off (h.er 0 oM) (26+32*j) oM ag.1 K hK
   rw [<-ag.2.1,<-ag.2.2] at d;unfold thV at d;have q:¬0<=(f j).2.1:=oM;generalize (f j).1=cc at*;generalize (f j).2.1=oo at*;generalize gX (wd D (26+32*j) 0)=gg at*;refine rN hc q6 m b ?_;refine r _ xZ _ (λw3 e3=> ?_);have g:Ext w2 w3:=Ext.trans xZ e3;have i:=g.cell_some q0;have s:=ay i;refine fC q i ?_;refine d _ (g.trans xZ) _ (λw4 e4=> ?_);have p:=hK;refine gG hf ?_;exact ⟨trivial,trivial,p _ (a.trans (g.trans xZ))⟩
end
section
variable {Q Q':Nat->Prop} {w0 w w':ab} {Y Y':Lay} {D D' D2:DS} {H H':HL} {n k i j p v Wb B:Nat} {f g f2:Idx} {R:List Nat} {lv hd dd:bb} {c t:Int}
abbrev HL.reS (H:HL) (S b o cp:Nat):HL:={H with S:=S,b:=b,o:=o,cp:=cp}
def HpG.fresh {S b o cp:Nat} (h:HpG Q w0 w Y D H n f R) (g:Frm (λx=>Y.F x\/x=H.p) w w') (tb:Y'.tb=Y.tb) (dt:Y'.dt=Y.dt/\Y'.ids=Y.ids) (fr:∀x,Y'.F x->Y.F x\/w.heap.size<=x) (ar:ArS w0 w' Y' D2 S b o cp 26 n f2) (hS:w.heap.size<=S) (hb:w.heap.size<=b) (rg:RgS D2 26 n f2) (rv:∀p∈R,Q' p) (ho:∀k,k<n->(f2 k).2.2=(f k).2.2) (er:∀k,k<8->D2.err k=0) (d:D2.cur 0=0) (cl:af w' H.p 112 8 (hpF (Y'.tb 0) n (H.reS S b o cp))):HpG Q' w0 w' Y' D2 (H.reS S b o cp) n f2 R:=by
 obtain ⟨L,h1,h2⟩:=h.hd;have sp:=h.sep;have df:=h.dif;have lt:∀x,(x=H.p\/x=H.rm\/x=H.hm\/x=H.B\/H.av=some x)->x<w.heap.size:=λx hx=>by
  rcases hx with rfl|rfl|rfl|rfl|ha
  ·exact h.hp.lt
  ·exact h.rs.lt
  ·exact h1.lt
  ·exact h.lg.lt
  ·rcases h.avm with ⟨a,_⟩|⟨r,a,b,_⟩
   ·rw [a] at ha;cases ha
   ·rw [a] at ha;injection ha with ha;subst ha;exact b.lt
 have nf:∀x,(x=H.rm\/x=H.hm\/x=H.B\/H.av=some x)->x≠H.p->¬(Y.F x\/x=H.p):=λx hx hn hf=>hf.elim (sp x (.inr hx)).2.1 hn
 refine ⟨ar,rg,cl,by rw [tb];exact h.lg.frm g (nf _ (.inr (.inr (.inl rfl))) df.2.2.2.2.2),h.rs.frm g (nf _ (.inl rfl) (λe=>df.1 e.symm)),⟨L,h1.frm g (nf _ (.inr (.inl rfl)) (λe=>df.2.1 e.symm)),h2⟩,h.nd,rv,λk hk=>(ho k hk).trans (h.ho k hk),er,d,h.avm.imp id (λ⟨r,a,b,c⟩=>⟨r,a,b.frm g (nf _ (.inr (.inr (.inr a))) c.2.2),c⟩),λx hx=>⟨(sp x hx).1,λhf=> ?_,by have:=lt x hx;simp only;omega,by have:=lt x hx;simp only;omega⟩,df,by rw [dt.1,dt.2,tb];exact h.dt⟩;rcases fr x hf with h3|h3
 ·exact (sp x hx).2.1 h3
 ·have:=lt x hx;omega
def WA (l:Nat) (c o:Int) (g:Nat):0<(planI l c o g).length:=by
 unfold planI;rw [List.length_append];exact Nat.lt_of_lt_of_le (by simp [az]) (Nat.le_add_left _ _)
def WB {L:KVL} {x:Int}:bz L x≠none↔x∈L.map (·.1):=by
 rw [Ne,cR];simp only [List.mem_map];constructor
 ·intro h;simp only [Classical.not_forall,not_imp,ne_eq,Classical.not_not] at h;obtain ⟨p,hp,e⟩:=h;exact ⟨p,hp,e⟩
 ·rintro ⟨p,hp,e⟩ h;exact h p hp e
def gS (f:Idx) (s:List Int):Idx:=λk=>((f k).1,(f k).2.1,decide (((26+32*k:Nat):Int)∈s))
def YI (hk:k<n) (s:List Int):∀j,j<n->upF (gS f s) k ((gS f s k).1,(gS f s k).2.1,true) j=gS f (s++ [((26+32*k:Nat):Int)]) j:=by
 intro j _;by_cases e:j=k
 ·subst e;rw [bu];unfold gS;simp
 ·rw [bO _ _ e];unfold gS;have:((26+32*j:Nat):Int)≠((26+32*k:Nat):Int):=oM;simp only [cd,an,this,or_false]
def WC {x:Int} (hx:∀k,k<n->x≠((26+32*k:Nat):Int)) (s:List Int):∀j,j<n->gS f s j=gS f (s++ [x]) j:=by
 intro j hj;have:((26+32*j:Nat):Int)≠x:=λe=>hx j hj e.symm
 unfold gS;simp only [cd,an,this,or_false]
def PB (h:HpS w0 w Y D H n f R) {r:Nat} (U:H.av=some r) (d3:H.avl≠ []) (z:k<n) (hf:(f k).1<0) (ho:(f k).2.1<0) (hA:((26+32*k:Nat):Int)∉H.avl) (hB:∀j,j<k->((26+32*j:Nat):Int)∈H.avl) (hC:∀j,j<k->¬(f j).1<0) (t0:0<=t) (t8:t<8) (c0:0<=c) (c5:c<5) (hx:D.exe<1000000000) (K:K1)
  (hK:∀D2 f2 g S b o cp,pH D 26 n f c t D2 f2 k g->D2.exe<=D.exe+210->D2.n=D.n->(Cln D.co->Cln D2.co)->cnR R k=0->∀w' Y',HSt w Y H w' Y'->w.heap.size<=S->w.heap.size<=b->HpS w0 w' Y' D2 (H.reS S b o cp) n f2 R->K (.tuple #[.int .i64 ((26+32*k:Nat):Int),.int .i64 0]) w'):
  ad prog 67 #[hpV H,.int .i64 t,.int .i64 c] w K:=by
 have q6:=h.cell.2.2.2.2.2.2.1;rw [U] at q6;have ltp:=h.ltp;have h1:=h.n4;have mA:bj .i64 w r (avL H.avl):=by
  rcases h.avm with ⟨a,_⟩|⟨r',a,b,_⟩
  ·rw [U] at a;cases a
  ·rw [U] at a;injection a with a;subst a;exact b
 have dv:=h.ar.L.dv;have ag:=h.rg.ag k z;have hd:=pF ag.1;have g6:gX (wd D (26+32*k) 0)<65536:=by unfold gX;omega
 have X:=λK=>Wz h z hf ho hA hB K
 obtain ⟨gn,hg⟩:∃g,g=gX (wd D (26+32*k) 0):=⟨_,rfl⟩;rw [<-hg] at X hd g6;have g0:=hd.2.2.1;have pg:=te h.rg.on h.rg.gd (l:=26+32*k) (c:=c) (o:=t) (g:=gn) oM c0 c5 t0 t8 g0 g6;have pc:=tf (l:=26+32*k) (c:=c) (o:=t) (g:=gn) h.rg.on.off h.rg.on.err oM c0 c5 pg.1.err;have px:=ee 0 (planI (26+32*k) c t gn) D;have pl:=mR (26+32*k) c0 c5 t gn;have pp:=WA (26+32*k) c t gn;have pn:=tg (o:=t) (g:=gn) h.rg.on h.rg.gd (l:=26+32*k) oM c0 c5;have pe:=λj (hj:j≠0)=>fd hj (planI (26+32*k) c t gn) D
 obtain ⟨D2,B⟩:∃D2,D2=D.run 0 (planI (26+32*k) c t gn):=⟨_,rfl⟩;rw [<-B] at pg pc px pn;simp only [<-B] at pe;have w1:=λl'=>Hv (l':=l') pc.1
 have ok:pH D 26 n f c t D2 (upF f k (c,t,(f k).2.2)) k gn:=⟨z,rfl,g0,g6,λj hj b1=>(w1 (26+32*j)).2 oM,(w1 0).1,.inl ⟨hf,hC,hg⟩⟩;have hs:=pg.2.2.2.2.1;have E:RgS D2 26 n (upF f k (c,t,(f k).2.2)):=h.rg.upd pg.1 pg.2.1 pg.2.2.1 z ok.oth ⟨hs.hd,hs.hc,hs.ho⟩ (λ_=>hs) _;have O:cnR R k=0:=by
  rcases ap (cnR R k) with e|e
  ·exact e
  ·exfalso;obtain ⟨p,hp⟩:=aB e;obtain ⟨c2,N⟩:=List.mem_filter.1 hp;have N:hk p=k:=by simpa using N
   have:=(h.rv p c2).kn oM h.rg;rw [N] at this;omega
 have b0:∀j,j<8->D2.err j=0:=λj hj=>by
  by_cases e:j=0
  ·subst e;exact pg.1.err
  ·rw [pe j e];exact h.er j hj
 have c7:D2.cur 0=0:=by rw [pc.1];simp only;rw [if_neg oM];exact h.idl
 have d2:∀p∈R,Rsv D2 (upF f k (c,t,(f k).2.2)) n p:=λp hp=>by
  have W:hk p≠k:=λe=>by have:=H5 hp;rw [e] at this;exact this O
  have m:=(h.rv p hp).kn oM h.rg;have e8:=h.cls m.1;exact (h.rv p hp).congr oM h.rg (.inl (by rw [bO _ _ W])) (λi hi _=>ok.oth _ m.1 W _ (aK m.2.1 e8.1 hi).2.2)
 have b2:∀j,j<n->(upF f k (c,t,(f k).2.2) j).2.2=(f j).2.2:=λj _=>by
  by_cases e:j=k
  ·subst e;rw [bu]
  ·rw [bO _ _ e]
 have d4:=λS b o cp=>hK D2 _ gn S b o cp ok oM pg.2.2.1 pn O
 generalize hD20:planI (26+32*k) c t gn=PL at*;refine Dk _ _ _ _ _ ?_;unfold UK;have b9:¬(((avL H.avl).length:Nat):Int)=0:=by
  have:H.avl.length≠0:=λe=>d3 (List.eq_nil_of_length_eq_zero e)
  rw [show (avL H.avl).length=H.avl.length by simp [avL]];omega
 refine zS1 q6 ?_;refine CK rfl mTa mA ?_;refine zS1 b9 ?_;refine X _ (λw1 e1=> ?_);have q0:=(h.ext e1).cell.1;have d8:=λwx K e=>(h.ext e1).erE wx K e
 have e4:¬((gn:Nat):Int)=0:=oM;refine eQ q0 d8 e4 ?_;refine S0 (h.gl.ext xZ) (26+32*k) c t gn oM c0 c5 t0 t8 g0 g6 _ (λv2 w2 s2 e2 n2=> ?_);rw [hD20] at s2;have b4:Ext w w2:=e1.trans (Ext.trans xZ e2);have h2:=h.ext b4;have a1:=h2.cell.1;have f4:=h2.ltp;refine zS1 a1 ?_;refine PA PL v2 (s2.ext xZ) pp oM _ (λv3 w3 s3 e3 n3=> ?_);have Q:Ext w2 w3:=Ext.trans xZ e3;have a2:=Q.cell_some a1;have f3:=ay a2;have h3:=h2.ext Q;refine zS1 a2 ?_;refine ⟨trivial,trivial,trivial,?_⟩;refine sC h3.ar.L.dv h.rg.gd 0 oM PL v3 s3 (λb hb hF=> ?_) pg.2.2.2.1 oM _ (λw4 Y4 s4=> ?_)
 ·have:=h2.ar.L.dv.lt hF;have:=n3 b hb;simp only [RZ] at this;omega
 rw [<-B] at s4;rw [<-B,b0 0 oM];have a4:=h3.ar.step s4 pg.2.1 pg.2.2.1;have sp:=h.sep;have C:Y4.tb=Y.tb:=by rw [s4.y]
 have e0:Y4.dt=Y.dt/\Y4.ids=Y.ids:=by rw [s4.y];exact ⟨rfl,rfl⟩
 have G:Ext w w3:=b4.trans Q;have u:∀x,Y4.F x->Y.F x\/w.heap.size<=x:=λx hx=>(s4.fr x hx).imp id (λhh=>bl G.size hh)
 have d:=h3.hp.frm s4.frm (sp _ (.inl rfl)).2.1;refine Exists.elim h3.hd (λLh b3=> ?_);have e7:=b3.1;have c1:=b3.2;have d6:=e7.frm s4.frm (sp _ (.inr (.inr (.inl rfl)))).2.1;have z0:w4.cell? ⟨H.p,0,none⟩=some (.iface 31 (.pointer (some ⟨Y4.tb 0,0,none⟩))):=by rw [C];exact d.cell (i:=0) oM
 have z1:w4.cell? ⟨H.p,1,none⟩=some (.int .i64 ((26:Nat):Int)):=d.cell (i:=1) oM;have z2:w4.cell? ⟨H.p,2,none⟩=some (.int .i64 ((32*n:Nat):Int)):=d.cell (i:=2) oM;have f0:=d.lt;refine zS3 z0 z1 z2 ?_;have n0:=h.ar.n0;refine Kv (a4.L.ext xZ) a4.gl pg.1.off pg.1.err (l0:=26) (q:=32*n) (n:=n) oM oM oM _ (λb6=>absurd (λj hj=>(E.ag j hj).1) b6) (λ_ S b o cp w5 e5 hS hb a5=> ?_);have A:Ext w4 w5:=Ext.trans xZ e5;have M:=d.ext A;have d5:=d6.ext A;have y5:w5.cell? ⟨H.p,5,none⟩=some (.map (some H.hm)):=M.cell (i:=5) oM;have f1:=M.lt;refine zS1 y5 ?_;simp only [RZ] at hS hb;have g3:=s4.frm.size;have g7:=G.size;have g5:=A.size;have g2:=h.hd.choose_spec.1.lt;have g1:=h.ltp;have f9:b<w5.heap.size:=a5.pl.lt rfl;have g4:S<w5.heap.size:=a5.st.lt;have nF:∀x,(x=H.p\/x=H.hm)->¬Y4.F x:=λx hx hf=>by
  rcases hx with rfl|rfl
  ·rcases u _ hf with q|q
   ·exact (sp _ (.inl rfl)).2.1 q
   ·omega
  ·rcases u _ hf with q|q
   ·exact (sp _ (.inr (.inr (.inl rfl)))).2.1 q
   ·omega
 have nR:¬Y4.F w5.heap.size:=λhf=>by have:=a4.L.dv.lt hf;omega
 have P:∀j,j<n->(((26+32*j:Nat):Int)∈Lh.map (·.1)↔cnR R j≠0):=λj hj=>by
  rw [<-WB,c1 j hj];by_cases e:cnR R j=0
  ·simp [e]
  ·simp [e]
 have b7:∀j,j<n->cnR R j≠0->¬(opF D2 26 j).1<0:=λj hj hc=>by
  obtain ⟨q,hq⟩:=aB (Nat.pos_of_ne_zero hc);obtain ⟨d0,J⟩:=List.mem_filter.1 hq;have J:hk q=j:=by simpa using J
  have m:=(h.rv q d0).kn oM h.rg;rw [J] at m;have b1:j≠k:=λe=>by subst e;exact hc O
  have:=(E.ag j hj).2.1;rw [bO _ _ b1] at this;show ¬(Go.Proofs.YtmpehclnnjgmcaaGreatDoor.hC (wd D2 (26+32*j) 0))<0;omega
 refine xI mTh d5 (λw6 e6 c4=> ?_);have c6:Frm (λx=>Y4.F x\/x=b\/x=w5.heap.size) w5 w6:=Frm.of_ext e6;have a6:ArS w0 w6 Y4 D2 S b o cp 26 n (gS (opF D2 26) []):=(a5.ext e6).fcongr (λj _=>by unfold gS opF;simp);apply Dj (I:=λw'=>∃s T,iz .i64 w' w5.heap.size H.hm Lh T/\(s++T.map (·.1)).Perm (Lh.map (·.1))/\ArS w0 w' Y4 D2 S b o cp 26 n (gS (opF D2 26) s)/\Frm (λx=>Y4.F x\/x=b\/x=w5.heap.size) w5 w') (μ:=λw'=>lfM w' H.hm w5.heap.size)
 ·exact ⟨[],Lh,c4,by simp,a6,c6⟩
 ·intros;rename_i w7 hI E1 hE;obtain ⟨s,T,it,pm,a7,f7⟩:=hI;have f6:=f7.size;unfold Di;refine DW it _ (λhT=> ?_) (λp T1 T2 hT w8 g8 d7 c9=> ?_)
  ·subst hT;have c3:s.Perm (Lh.map (·.1)):=by simpa using pm
   have v:=M.frm f7 (λhf=>hf.elim (nF _ (.inl rfl)) (λhf=>hf.elim (λe=>by omega) (λe=>by omega)));have fz:=v.frz;have f5:=v.lt;have y3:w7.cell? ⟨H.p,3,none⟩=some (stV H.S):=v.cell (i:=3) oM;refine zS4 @OT @Dh.eq_1 fz y3 ?_;have V:Frm (λx=>x=H.p) w7 (w7.setCell ⟨H.p,3,none⟩ (stV S)):=(Frm.refl _ _).set (p:=⟨H.p,3,none⟩) _ (λ_=>rfl);have g:Frm (λx=>Y.F x\/x=H.p) w (w7.setCell ⟨H.p,3,none⟩ (stV S)):=by
    refine Frm.trans (F:=λx=>Y.F x\/x=H.p) (Frm.trans (F:=λx=>Y.F x\/x=H.p) (Frm.trans (F:=λx=>Y.F x\/x=H.p) (Frm.of_ext G) s4.frm (λx _ hf=> .inl hf)) ((Frm.of_ext A).trans f7 (λx _ hf=>hf)) (λx hx hf=> ?_)) V (λx _ hf=> .inr hf);rcases hf with hf|hf|hf
    ·rcases u x hf with q|q
     ·exact .inl q
     ·omega
    ·omega
    ·omega
   have d1:HSt w Y H (w7.setCell ⟨H.p,3,none⟩ (stV S)) Y4:=⟨C,by rw [s4.y],g.mono (λx hx=>hx.elim .inl (λe=> .inr (.inr (.inl e)))),u⟩;refine d4 S b o cp _ Y4 d1 oM oM (h.fresh g C e0 u ((a7.frmH V (λx hx=>by subst hx;exact ⟨(sp _ (.inl rfl)).1,nF _ (.inl rfl),by omega,by omega⟩)).fcongr (λj hj=> ?_)) oM oM E d2 b2 b0 c7 ((v.set (i:=3) (stV S) oM).congr (λj hj=> ?_)))
   ·have Z:=E.ag j hj;have e3:decide (((26+32*j:Nat):Int)∈s)=(upF f k (c,t,(f k).2.2) j).2.2:=by
     rw [b2 j hj,h.ho j hj];exact decide_eq_decide.2 (c3.mem_iff.trans (P j hj))
    unfold gS;rw [e3];show (Go.Proofs.YtmpehclnnjgmcaaGreatDoor.hC (wd D2 (26+32*j) 0),hO (wd D2 (26+32*j) 0),_)=_;rw [<-Z.2.1,<-Z.2.2]
   ·rw [C];have:j=0\/j=1\/j=2\/j=3\/j=4\/j=5\/j=6\/j=7:=oM;rcases this with rfl|rfl|rfl|rfl|rfl|rfl|rfl|rfl<;>rfl
  ·have h0:=g8.size;have a8:ArS w0 w8 Y4 D2 S b o cp 26 n (gS (opF D2 26) s):=a7.frmH g8 (λx hx=>by
    subst hx;have:=h.hp.lt;have:=(sp _ (.inl rfl)).1;exact ⟨by omega,nR,by omega,by omega⟩)
   have f8:Frm (λx=>Y4.F x\/x=b\/x=w5.heap.size) w5 w8:=f7.trans g8 (λx _ hx=> .inr (.inr hx));have a0:p.1∈Lh.map (·.1):=pm.subset (by rw [hT];simp);have d9:((s++ [p.1])++(T1++T2).map (·.1)).Perm (Lh.map (·.1)):=by
    refine List.Perm.trans ?_ pm;rw [hT];simp only [List.map_append,List.map_cons,List.append_assoc,List.singleton_append];exact List.Perm.append_left s List.perm_middle.symm
   have next:∀w9,Frm (λx=>Y4.F x\/x=b) w8 w9->ArS w0 w9 Y4 D2 S b o cp 26 n (gS (opF D2 26) (s++ [p.1]))->E1 w9:=λw9 g9 a9=>by
    have a3:=d7.frm g9 (λhf=>hf.elim nR (λe=>by omega)) (λhf=>hf.elim (nF _ (.inr rfl)) (λe=>by omega));refine hE _ ⟨s++ [p.1],T1++T2,a3,d9,a9,f8.trans g9 (λx _ hx=>hx.elim .inl (λe=> .inr (.inl e)))⟩ ?_;rw [nm a3,nm it,hT];simp
   refine zS1 c9 ?_;by_cases hx:∃j,j<n/\p.1=((26+32*j:Nat):Int)
   ·obtain ⟨j,hj,c8⟩:=hx;rw [c8] at a0 next ⊢
    have b8:=(P j hj).1 a0;refine H0 a8 hj true _ (λb5=>absurd b5 (b7 j hj b8)) (λ_ w9 s9 a9=> ?_);exact next _ s9.frm (a9.fcongr (YI hj s))
   ·refine Vt a8 (λj hj e=>hx ⟨j,hj,e⟩) true _ (λw9 e9=> ?_);exact next _ (Frm.of_ext e9) ((a8.ext e9).fcongr (WC (λj hj e=>hx ⟨j,hj,e⟩) s))
end
section
variable {Q Q':Nat->Prop} {w0 w w':ab} {Y Y':Lay} {D D' D2:DS} {H H':HL} {n k i j p v Wb B:Nat} {f g f2:Idx} {R:List Nat} {lv hd dd:bb} {c t:Int}
def HSt.reS {w'':ab} {Y'':Lay} {S b o cp:Nat} (h:HSt w Y H w' Y') (hb:w.heap.size<=b) (g:HSt w' Y' (H.reS S b o cp) w'' Y''):HSt w Y H w'' Y'' where
 tb:=g.tb.trans h.tb
 d:=g.d.trans h.d
 frm:=h.frm.trans g.frm (λx hx hf=>by
  rcases hf with hf|hf|hf|hf|hf
  ·rcases h.fr x hf with h1|h1
   ·exact .inl h1
   ·omega
  ·simp only at hf;omega
  ·exact .inr (.inr (.inl hf))
  ·exact .inr (.inr (.inr (.inl hf)))
  ·exact .inr (.inr (.inr (.inr hf))))
 fr x hx:=by
  rcases g.fr x hx with h1|h1
  ·exact h.fr x h1
  ·exact .inr (bl h.frm.size h1)
def Ij (h:HpS w0 w Y D H n f R) {r:Nat} (J:H.av=some r) (C:H.avl≠ []) (l:k<n) (hf:(f k).1<0) (ho:(f k).2.1<0) (hA:((26+32*k:Nat):Int)∉H.avl) (hB:∀j,j<k->((26+32*j:Nat):Int)∈H.avl) (hC:∀j,j<k->¬(f j).1<0)
  (E:∀j,j<n->(f j).2.1=t->((26+32*j:Nat):Int)∈H.avl)
  {x:Int} (t0:0<=t) (t8:t<8) (x1:1<=x) (x60:x<=60) (kd:Nat) (k0:kd≠0) (k7:kd<=127) (hx:D.exe<900000000) (hR:R.length<1000000) (K:K1)
  (A:∀D2 f2 D3 f3 p i S b o cp,uB D f R n H.avl t (clsN x) kd D2 f2 D3 f3 p k i->∀w' Y',HSt w Y H w' Y'->w.heap.size<=S->w.heap.size<=b->HpS w0 w' Y' D3 (H.reS S b o cp) n f3 (R++ [p])->K (.tuple #[.int .u64 (p:Int),.int .i64 0]) w'):
  ad prog 15 #[hpV H,.int .i64 t,.int .i64 x,.int .u8 (kd:Int)] w K:=by
 have U:=h.n4;have a:=qW x;have T:=aJ a.1 a.2;have q0:=h.cell.1;have ltp:=h.ltp;have I:=h.erE;have z:∀(w1:ab) (K:K1),ad prog 64 #[.int .i64 t,.int .i64 x,.int .u8 (kd:Int)] w1 K=K (.int .i64 0) w1:=λw1 K=>by
  rw [gD t x kd oM w1 K,if_pos ⟨t0,t8,x1,k0,k7⟩,if_pos x60]
 have B:=λ(w1:ab) (e:Ext w w1) (K:K1) hK=>DJ (h.gl.ext e) x x1 x60 K hK
 generalize clsN x=c at*;refine tq _ _ _ _ _ _ ?_;unfold KE;refine eQ z q0 I ?_;refine B _ xZ _ ?_;refine zS0 ?_;refine DK h t0 a.1 kd k0 k7 _ (λhu w1 e1=> ?_) (λj hj ht hc M=>absurd (E j hj ht) M);have h1:=h.ext e1;refine zS0 ?_;refine PB h1 J C l hf ho hA hB hC t0 t8 a.1 a.2 oM _ (λD2 f2 g S b o cp ok P N O m w2 Y2 s2 hS hb h2=> ?_);have L:=(HSt.of_ext Y H e1).trans s2;have Q:=e1.size;have d:(f2 k).1=c:=by rw [ok.fe,bu]
 have y:(f2 k).2.1=t:=by rw [ok.fe,bu]
 have v:=λK=>tW h2 ok.kn (by rw [d];exact a.1) kd k0 k7 K
 rw [d] at v;have G:bV D2 R (26+32*k) c 0=false:=by
  unfold bV;rw [ok.clean a.1 a.2,K8 a.1 a.2 (by have:=ok.kn;omega) (show ((0:Nat):Int)<perS c by omega) m];rfl
 refine zS0 ?_;refine v _ (λhn=> ?_) (λi hi q F w3 e3=> ?_)
 ·have:=hn 0 oM;rw [G] at this;cases this
 ·refine zS2 @kN @jM.eq_1 ?_;have h3:=h2.ext e3;have zr:=Bg h3.rg l (by rw [d];exact a.1) (i:=i) (by rw [d];exact hi);have u:=aab h3 l (by rw [d];exact a.1) (i:=i) (by rw [d];exact hi) (by rw [d];exact q) kd k0 k7 (p:=_) rfl oM hR K (λw' Y' s h4=>A D2 f2 _ _ _ i S b o cp ⟨l,a.1,a.2,hi,.inr ⟨⟨g,ok⟩,m,hu⟩,d,y,q,F,by rw [d],h3.rg,by rw [d],by rw [d,y],zr.2.1.trans N,by have:=zr.2.2.1;omega,λhh=>zr.2.2.2 (O hh)⟩ w' Y' ((L.ext e3).reS oM s) oM oM h4);rw [d] at u;exact u
end
section
variable {Q Q':Nat->Prop} {w0 w w':ab} {Y Y':Lay} {D D' D2 D3:DS} {H H':HL} {n k i j p q v Wb B t kd:Nat} {f g f2 f3:Idx} {R R2:List Nat} {lv hd dd:bb} {c:Int}
def LW.st2 {S b o cp:Nat} (h:LW w0 w Wb lv hd dd Y D H n f R) (s:HSt w Y H w' Y') (hb:b=H.b\/w.heap.size<=b) (hp:HpS w0 w' Y' D2 (H.reS S b o cp) n f2 R2):LW w0 w' Wb lv hd dd Y' D2 (H.reS S b o cp) n f2 R2:=by
 have hl:=h.bx.lt;have a:=h.bx.frm s.frm (λhf=>hf.elim h.ne.1 (λhf=>hf.elim h.ne.2.1 (λhf=>hf.elim h.ne.2.2.1 (λhf=>hf.elim h.ne.2.2.2.1 h.ne.2.2.2.2))));refine ⟨hp,a.congr (λi _=> ?_),h.n0,λhf=> ?_,?_,h.ne.2.2⟩
 ·unfold wlF;rw [s.d,s.tb]
 ·rcases s.fr _ hf with h1|h1
  ·exact h.ne.1 h1
  ·omega
 ·rcases hb with e|e
  ·show Wb≠b;rw [e];exact h.ne.2.1
  ·show Wb≠b;omega
structure Rs1 (D3:DS) (f3:Idx) (p i:Nat) (c:Int) (t:Nat):Prop where
 c0:0<=c
 c5:c<5
 iN:(i:Int)<perS c
 hp:hk p=0
 po:pO p=pOff 26 c i
 fc:(f3 0).1=c
 ft:(f3 0).2.1=(t:Int)
 f1:f3 1=(-1,-1,false)
 w1:wd D3 26 1=0
 n3:D3.n=90
 x3:D3.exe<=500
def abW {D2:DS} (V:uB (hbD 2) (opF (hbD 2) 26) [] 2 [] (t:Int) c 64 D2 f2 D3 f3 p k i) (t8:t<8) (rs:Rsv D3 f3 2 p) (b:RgS D3 26 2 f3):Rs1 D3 f3 p i c t:=by
 obtain ⟨b1,b2,b3,b4,b5,b6⟩:=xK (n:=2) oM;have sp:=V.sp oM rs oM b;have a:=λ(j:Nat) (hj:j<2)=>Lg (n:=2) oM hj
 have kn:=V.kn;have d:k=0/\∃g,pH (hbD 2) 26 2 (opF (hbD 2) 26) c t D2 f2 k g:=by
  rcases V.how with ⟨_,e2,_⟩|⟨⟨g,ok⟩,_⟩
  ·exfalso;have h1:=V.fc;rw [e2,a k kn] at h1;have:=V.c0;omega
  ·refine ⟨?_,g,ok⟩;rcases ok.how with ⟨_,h2,_⟩|⟨h1,_⟩
   ·rcases ap k with e|e
    ·exact e
    ·exact absurd (show (opF (hbD 2) 26 0).1<0 by rw [a 0 oM];omega) (h2 0 e)
   ·exact absurd (show (opF (hbD 2) 26 0).1<0 by rw [a 0 oM];omega) (h1 0 oM)
 obtain ⟨rfl,g,ok⟩:=d;have zw:=m9 V.rg2.on (l:=26+32*0) (i:=i) (by have:=V.rg2.lt;omega) (by have:=V.n3;have:=V.rg2.gd.n;omega) V.c0 V.c5 V.iN;refine ⟨V.c0,V.c5,V.iN,sp.2.1,sp.1,sp.2.2.2.1,by rw [V.f3,bu],?_,?_,by rw [V.n3];omega,by have:=V.x3;omega⟩
 ·rw [V.f3,bO _ _ oM,ok.fe,bO _ _ oM];exact acP oM oM
 ·have h1:=zw.1 1 oM;rw [<-V.d3,ok.clean V.c0 V.c5] at h1;exact h1
def Ej (h:Rs1 D3 f3 p i c t):¬∀j:Nat,(j:Int)<perS c->bV D3 [p] (26+32*0) c j=true:=by
 intro a;have pc:=aJ h.c0 h.c5;obtain ⟨j,hj,b⟩:∃j:Nat,(j:Int)<perS c/\j≠i:=by
  by_cases e:i=0
  ·exact ⟨1,by omega,by omega⟩
  ·exact ⟨0,by omega,by omega⟩
 have:=a j hj;unfold bV at this;rw [show 26+32*0=26 from rfl,h.w1] at this;have h2:rsB [p] (pOff 26 c j)=false:=by
  unfold rsB;simp only [List.any_cons,List.any_nil,Bool.or_false,decide_eq_false_iff_not,h.po];exact λe=>b (tX (k:=0) h.c0 h.c5 e).symm
 rw [h2] at this;have:aS 0 j=true:=by simpa using this
 have h3:aS 0 j=false:=by simp [aS]
 rw [h3] at this;cases this
def abX {x:Int} (h:HpS w0 w Y D3 H 2 f3 [p]) (s:Rs1 D3 f3 p i (clsN x) t) (av:Bool) (ha:(av=false/\H.av=none)\/(av=true/\∃r,H.av=some r/\H.avl= [((26+32*0:Nat):Int)])) (t8:t<8) (x1:1<=x) (x60:x<=60) (K:K1)
  (hK:∀D5 f5 S b o cp q w' Y',HSt w Y H w' Y'->(b=H.b\/w.heap.size<=b)->HpS w0 w' Y' D5 (H.reS S b o cp) 2 f5 [p,q]->hk q=(if av=true then 1 else 0)->q≠0/\q<72057594037927936/\1664<=pO q->(∀y,Liv D5 f5 2 y↔Liv D3 f3 2 y)->D5.exe<=1000->D5.n=90->K (.tuple #[.int .u64 (q:Int),.int .i64 0]) w'):
  ad prog 15 #[hpV H,.int .i64 (t:Int),.int .i64 x,.int .u8 ((64:Nat):Int)] w K:=by
 have n3:=s.n3;have x3:=s.x3;have c0:=s.c0;have f:∀(A:List Int) D4 f4 D5 f5 q k j S b o cp w' Y',uB D3 f3 [p] 2 A (t:Int) (clsN x) 64 D4 f4 D5 f5 q k j->HSt w Y H w' Y'->(b=H.b\/w.heap.size<=b)->HpS w0 w' Y' D5 (H.reS S b o cp) 2 f5 ([p]++ [q])->k=(if av=true then 1 else 0)->K (.tuple #[.int .u64 (q:Int),.int .i64 0]) w':=λA D4 f4 D5 f5 q k j S b o cp w' Y' V s' hb h' g=>by
  have rs:=h'.rv q (by simp);have sp:=V.sp oM rs oM h'.rg;have ok:=rs.okp (by have:=h'.rg.gd.n;omega) h'.rg;exact hK D5 f5 S b o cp q w' Y' s' hb h' (sp.2.1.trans g) ⟨sp.2.2.2.2.1,sp.2.2.2.2.2.1,ok.2.2.1⟩ (λy=>Bn h.rg oM V) (by have:=V.x3;omega) (by have:=V.n3;omega)
 rcases ha with ⟨rfl,a⟩|⟨rfl,r,a,c⟩
 ·refine pW (R:= [p]) h a (t:=(t:Int)) (x:=x) oM oM x1 x60 64 oM oM oM (by simp) _ (λhu _ _=> ?_) (λD4 f4 D5 f5 q k j V w1 Y1 s1 d=> ?_)
  ·exact absurd (hu 0 oM s.ft s.fc) (Ej s)
  ·refine f _ D4 f4 D5 f5 q k j H.S H.b H.o H.cp w1 Y1 V s1 (.inl rfl) d ?_;simp only [ca,if_false];rcases V.how with ⟨_,e2,_⟩|⟨_,_,hu⟩
   ·have h1:=V.fc;have kn:=V.kn;rw [e2] at h1;rcases ap k with e|e
    ·exact e
    ·obtain rfl:k=1:=oM;rw [s.f1] at h1;simp only at h1;omega
   ·refine absurd (hu 0 oM s.ft s.fc ?_) (Ej s);rcases h.avm with ⟨_,e⟩|⟨r,e,_⟩
    ·rw [e];simp
    ·rw [a] at e;cases e
 ·refine Ij (k:=1) h a (by rw [c];simp) oM (by rw [s.f1];simp) (by rw [s.f1];simp) (by rw [c];simp) (λj hj=>by rw [c,show j=0 by omega];simp) (λj hj=>by rw [show j=0 by omega,s.fc];omega) (λj hj ht=> ?_) (t:=(t:Int)) (x:=x) oM oM x1 x60 64 oM oM oM (by simp) _ (λD4 f4 D5 f5 q j S b o cp V w1 Y1 s1 hS hb d=> ?_)
  ·rw [c];have:j=0\/j=1:=oM;rcases this with rfl|rfl
   ·simp
   ·rw [s.f1] at ht;simp only at ht;omega
  ·exact f _ D4 f4 D5 f5 q 1 j S b o cp w1 Y1 V s1 (.inr hb) d (by simp)
end
noncomputable section
variable (K:K1) (x0 x1 x2 x3 x4 x5 x6 x7 x8 x9 x10 x11 x12:bb) (w:ab)
noncomputable def abY:=uD Tryz.f7 (.s .o (.s .o (.s .o (.s .o (.s .o (.s .o (.s .o (.s .o (.x 8068 .o (.x 8068 .o .o))))))))))
abbrev YJ:=aU prog Tryz.f7.results.toList
def YK:KF:=kO 8068 (cP (pw abY 9 511) (YJ K) (YJ K) nX)
def Ls:Prop:=YK K (fy 176 8068 [x2,x7,x8,x9,x10,x11,x12]) w
def YL:KF:=kO 8068 (cP (pw abY 10 1023) (YJ K) (YJ K) nX)
def Lt:Prop:=YL K (fy 176 8068 [x2,x7,x8,x9,x10,x11,x12]) w
def Lu:Prop:=
 ae x2 (
 nS x7 w λa w=>
 fA 38 a 3 w λb w=>
 lD 33 b w λc w=>
 ev prog (aA 50 1 #[(0,x12)]) w λd w=>
 cL 33 (pA #[c,d]) w λe w=>
 Lt K x2 x7 x8 x9 x10 x11 x12 w) (
 Lt K x2 x7 x8 x9 x10 x11 x12 w)
def WD:Ls K x2 x7 x8 x9 x10 x11 x12 w=Lu K x2 x7 x8 x9 x10 x11 x12 w:=aI λσ=>kR
def Lw:Prop:=
 bC .neq 28 54 0 x11 w λa w=>
 gV a false x7 w λb w=>
 gd a false (λk=>nS b w k) w λc w=>
 gd a false (λk=>fA 38 c 3 w k) w λd w=>
 gd a false (λk=>lD 33 d w k) w λe w=>
 gC a false 34 (pA #[e]) w λf w=>
 au a (.bool true) f w λg w=>
 gV g false x7 w λh w=>
 gd g false (λk=>nS h w k) w λi w=>
 gd g false (λk=>fA 38 i 3 w k) w λj w=>
 gd g false (λk=>lD 33 j w k) w λl w=>
 gC g false 35 (pA #[l]) w λm w=>
 gd g false (λk=>ev prog (Op.unary .not m) w k) w λn w=>
 au g (.bool true) n w λo w=>
 gV o false x7 w λp w=>
 gd o false (λk=>nS p w k) w λq w=>
 gd o false (λk=>fA 38 q 3 w k) w λs w=>
 gd o false (λk=>lD 33 s w k) w λt w=>
 gC o false 35 (pA #[t]) w λv w=>
 au o (.bool true) v w λy w=>
 gV y false x7 w λz w=>
 gd y false (λk=>nS z w k) w λa0 w=>
 gd y false (λk=>fA 38 a0 3 w k) w λa1 w=>
 gd y false (λk=>lD 33 a1 w k) w λa2 w=>
 gC y false 34 (pA #[a2]) w λa3 w=>
 gd y false (λk=>ev prog (Op.unary .not a3) w k) w λa4 w=>
 au y (.bool true) a4 w λa5 w=>
 ae a5 (
 K (.bool false) w) (
 cL 16 (pA #[x7,x9]) w λa6 w=>
 cL 36 (pA #[a6,x8,(.int .u8 ((64:Nat):Int))]) w λa7 w=>
 eX a7 0 w λa8 w=>
 eX a7 1 w λa9 w=>
 cL 16 (pA #[x7,x9]) w λb0 w=>
 ev prog (aA 25 1 #[(0,x10)]) w λb1 w=>
 cL 17 (pA #[b0,(.slice none 0 0),b1,(.slice none 0 0)]) w λb2 w=>
 nS x7 w λb3 w=>
 fA 38 b3 3 w λb4 w=>
 lD 33 b4 w λb5 w=>
 cL 15 (pA #[b5,x9,x8,(.int .u8 ((64:Nat):Int))]) w λb6 w=>
 eX b6 0 w λb7 w=>
 eX b6 1 w λb8 w=>
 bC .neq 28 110 7 a9 w λb9 w=>
 gV b9 false b2 w λc0 w=>
 gd b9 false (λk=>bC .neq 28 113 7 c0 w k) w λc1 w=>
 au b9 (.bool true) c1 w λc2 w=>
 gV c2 false b8 w λc3 w=>
 gd c2 false (λk=>bC .neq 28 117 0 c3 w k) w λc4 w=>
 au c2 (.bool true) c4 w λc5 w=>
 gV c5 false x7 w λc6 w=>
 gd c5 false (λk=>nS c6 w k) w λc7 w=>
 gd c5 false (λk=>fA 38 c7 3 w k) w λc8 w=>
 gd c5 false (λk=>lD 33 c8 w k) w λc9 w=>
 gC c5 false 37 (pA #[c9]) w λd0 w=>
 gd c5 false (λk=>bC .neq 3 125 2 d0 w k) w λd1 w=>
 au c5 (.bool true) d1 w λd2 w=>
 ae d2 (
 K (.bool false) w) (
 cL 20 (pA #[b7]) w λd3 w=>
 bM .mul 3 (ci 64) (.tmp 130) (.int .i64 64) x12 w λd4 w=>
 cV 3 26 d4 w λd5 w=>
 bT .geq 26 129 132 d3 d5 w λd6 w=>
 gV d6 true b7 w λd7 w=>
 gC d6 true 20 (pA #[d7]) w λd8 w=>
 gV d6 true x12 w λd9 w=>
 gd d6 true (λk=>bC .add 3 137 32 d9 w k) w λe0 w=>
 gd d6 true (λk=>bM .mul 3 (ci 64) (.tmp 138) (.int .i64 64) e0 w k) w λe1 w=>
 gd d6 true (λk=>cV 3 26 e1 w k) w λe2 w=>
 gd d6 true (λk=>bT .lss 26 136 140 d8 e2 w k) w λe3 w=>
 au d6 e3 (.bool false) w λe4 w=>
 bT .eql 4 143 144 e4 x2 w λe5 w=>
 ae e5 (
 K (.bool false) w) (
 nS x7 w λe6 w=>
 fA 38 e6 3 w λe7 w=>
 lD 33 e7 w λe8 w=>
 cL 38 (pA #[e8]) w λe9 w=>
 nS x7 w λf0 w=>
 fA 38 f0 3 w λf1 w=>
 lD 33 f1 w λf2 w=>
 cL 34 (pA #[f2]) w λf3 w=>
 ev prog (Op.unary .not f3) w λf4 w=>
 gV f4 true x7 w λf5 w=>
 gV f4 true x9 w λf6 w=>
 gC f4 true 16 (pA #[f5,f6]) w λf7 w=>
 gV f4 true x10 w λf8 w=>
 gV f4 true b7 w λf9 w=>
 gd f4 true (λk=>ev prog (aA 25 2 #[(0,f8),(1,f9)]) w k) w λg0 w=>
 gC f4 true 17 (pA #[f7,(.slice none 0 0),g0,(.slice none 0 0)]) w λg1 w=>
 gd f4 true (λk=>bC .eql 28 164 0 g1 w k) w λg2 w=>
 au f4 g2 (.bool false) w λg3 w=>
 gV g3 true x7 w λg4 w=>
 gd g3 true (λk=>nS g4 w k) w λg5 w=>
 gd g3 true (λk=>fA 38 g5 3 w k) w λg6 w=>
 gd g3 true (λk=>lD 33 g6 w k) w λg7 w=>
 gC g3 true 39 (pA #[g7]) w λg8 w=>
 gd g3 true (λk=>ev prog (Instr.field 73 g8 2) w k) w λg9 w=>
 gd g3 true (λk=>bC .eql 3 173 2 g9 w k) w λh0 w=>
 au g3 h0 (.bool false) w λh1 w=>
 K h1 w)))
def WE:Lt K x2 x7 x8 x9 x10 x11 x12 w=Lw K x2 x7 x8 x9 x10 x11 x12 w:=aI λσ=>kR
def ac2:Prop:=
 cL 13 (pA #[]) w λa w=>
 ev prog (Op.unary .not a) w λb w=>
 ae b (
 K (.bool false) w) (
 cL 14 (pA #[(.int .i64 2)]) w λc w=>
 bM .eql 23 (.tmp 22) (.const (.pointer none)) c (.pointer none) w λd w=>
 ae d (
 K (.bool false) w) (
 cV 5 3 x1 w λe w=>
 bC .rem 3 25 60 e w λf w=>
 bM .add 3 (ci 1) (.tmp 26) (.int .i64 1) f w λg w=>
 cV 5 3 x0 w λh w=>
 bC .rem 3 29 8 h w λi w=>
 nS c w λj w=>
 fA 38 j 3 w λl w=>
 lD 33 l w λm w=>
 cL 15 (pA #[m,i,g,(.int .u8 ((64:Nat):Int))]) w λn w=>
 eX n 0 w λo w=>
 eX n 1 w λp w=>
 cL 20 (pA #[o]) w λq w=>
 bU .geq 26 42 .u64 3712 q w λs w=>
 ae s (
 bM .add 3 (.tmp 44) (ci 32) (.int .i64 26) (.int .i64 32) w λt w=>
 Ls K x2 c g i o p t w) (
 Ls K x2 c g i o p (.int .i64 26) w)))
def YM:=cA3 Tryz.func7 abY.2 ac2
end
section
variable {w0 w w':ab} {Y Y':Lay} {D D' D3:DS} {H:HL} {n k i j p q v Wb t:Nat} {f f3:Idx} {R:List Nat} {lv hd dd:bb} {c x:Int}
def YN {w:ab} {u v:bb} {e:TypeId}:RdS (w.alloc (.cells #[u,v] e)).heap.size (w.alloc (.cells #[u,v] e)) (.slice (some ⟨w.heap.size,0,none⟩) 2 2) [u,v]:=by
 have hC:=af.new w [u,v] e;refine ⟨_,_,rfl,.inr ⟨w.heap.size,0,rfl,by rw [size_alloc];omega,λj x hj=> ?_⟩⟩
 match j,hj with
 |0,hj=>simp only [bd,Option.some.injEq] at hj;subst hj;exact hC.cell (i:=0) (by simp)
 |1,hj=>simp only [List.getElem?_cons_succ,bd,Option.some.injEq] at hj;subst hj;exact hC.cell (i:=1) (by simp)
 |j+2,hj=>simp at hj
def YO {Q:Nat->Prop} (h:HpG Q w0 w Y D H n f R) (u v:bb) (e:TypeId):RdH (w.alloc (.cells #[u,v] e)) Y H (.slice (some ⟨w.heap.size,0,none⟩) 2 2) [u,v]:=
 ⟨YN,λ_ b hb=>by injection hb with hb;subst hb;exact h.new (al _)⟩
def YP (L:LW w0 w Wb lv hd dd Y D3 H 2 f3 [p]) (s:Rs1 D3 f3 p i (clsN x) t) (av:Bool) (ha:(av=false/\H.av=none)\/(av=true/\∃r,H.av=some r/\H.avl= [((26+32*0:Nat):Int)])) (t8:t<8) (x1:1<=x) (x60:x<=60) (K:K1)
  (hK:∀D5 f5 H2 q w' Y',LW w0 w' Wb lv hd dd Y' D5 H2 2 f5 [p,q]->hk q=(if av=true then 1 else 0)->q≠0/\q<72057594037927936/\1664<=pO q->(∀y,Liv D5 f5 2 y↔Liv D3 f3 2 y)->D5.exe<=1000->D5.n=90->K (.tuple #[.int .u64 (q:Int),.int .i64 0]) w'):
  ad prog 15 #[hpV H,.int .i64 (t:Int),.int .i64 x,.int .u8 ((64:Nat):Int)] w K:=
 abX L.hp s av ha t8 x1 x60 K (λD5 f5 S b o cp q w' Y' s' hb hp a b' c d e=>hK D5 f5 _ q w' Y' (L.st2 s' hb hp) a b' c d e)
theorem aao (L:LW w0 w Wb (.slice none 0 0) (.slice none 0 0) (.slice none 0 0) Y D3 H 2 f3 [p]) (s:Rs1 D3 f3 p i (clsN x) t) (av:Bool) (l:H.lk=false) (ha:(av=false/\H.av=none)\/(av=true/\∃r,H.av=some r/\H.avl= [((26+32*0:Nat):Int)])) (A:∀y,¬Liv D3 f3 2 y) (t8:t<8) (x1:1<=x) (x60:x<=60) (K:K1) (hK:∀w',Ext w0 w'->K (.bool true) w'):
  Lt K (.bool av) (.pointer (some ⟨Wb,0,none⟩)) (.int .i64 x) (.int .i64 (t:Int)) (.int .u64 (p:Int)) (.int .i64 0) (.int .i64 26) w:=by
 have q3:=(bk L.bx).2.2.2.1;have lW:=L.bx.lt;have cL:=λ(w1:ab) (e:Ext w w1) (K:K1)=>nA L.hp w1 e K
 rw [l] at cL;have L2:=L.setLk true;have f:=λK=>abU L.hp l K
 generalize hw2:w.setCell ⟨H.p,7,none⟩ (.bool true)=w2 at*;have I:=(bk L2.bx).2.2.2.1;have b1:=L2.bx.lt;have cN:=λ(w1:ab) (e:Ext w2 w1) (K:K1)=>Ww L2.hp rfl w1 e K
 have N:=λ(w1:ab) (e:Ext w2 w1) (K:K1)=>nA L2.hp w1 e K
 have n:=λ(w3:ab) (e:Ext w2 w3) (K:K1) hK=>(L2.ext e).space (k:=t) t8 K hK
 rw [WE];unfold Lw;refine fC q3 cL ?_;refine f _ ?_;refine eQ I cN N ?_;refine n _ (Ext.refl _) _ (λB1 w3 e3 a3 T=> ?_);have L3:=L2.ext e3;have cA:=λ(w1:ab) (e:Ext w3 w1) (K:K1)=>Ei L3.hp rfl t8 T x x1 x60 w1 e K
 refine gG cA ?_;refine n _ e3 _ (λB2 w4 e4 a8 M=> ?_);have L4:=L3.ext e4;have b0:=(bk L4.bx).2.2.2.1;have a6:=L4.bx.lt;refine zS0 ?_;refine Pz (L4.ext (Ext.alloc_self w4 (.cells #[.int .u64 (p:Int)] 27))).hp rfl t8 (M.st (HSt.of_ext Y _ (Ext.alloc_self w4 (.cells #[.int .u64 (p:Int)] 27)))) _ _ _ (λw5 e5=> ?_);have z:Ext w4 w5:=Ext.trans (Ext.alloc_self _ _) e5;have L5:=L4.ext z;have B:=(bk L5.bx).2.2.2.1;have a9:=L5.bx.lt;have D:=λK=>YP (H:={H with lk:=true}) L5 s av ha t8 x1 x60 K
 refine zS1 B ?_;refine D _ (λD5 f5 H2 q w6 Y6 L6 c hq U x6 n6=> ?_);have O:=(bk L6.bx).2.2.2.1;have a5:=L6.bx.lt;refine zS1 O ?_;refine H6 L6.hp _ (λw7 e7=> ?_);have L7:=L6.ext e7;have a1:=(bk L7.bx).2.2.2.1;have b2:=L7.bx.lt;have cO:=λ(w:ab) (K:K1)=>eU q w K oM
 have X:(decide (pO q<((64:Int)*(26+32)).toNat)==av)=false:=by
  have e:((64:Int)*(26+32)).toNat=3712:=rfl;rw [e];unfold hk at c
  cases av
  ·simp only [ca,if_false] at c;rw [decide_eq_true oM];rfl
  ·simp only [if_true] at c;rw [decide_eq_false oM];rfl
 have V:=λK=>Wx L7.hp K
 refine Exists.elim (⟨_,L7.setLk false,rfl⟩:∃H3,LW w0 (w7.setCell ⟨H2.p,7,none⟩ (.bool false)) Wb (.slice none 0 0) (.slice none 0 0) (.slice none 0 0) Y6 D5 H3 2 f5 [p,q]/\H3.lk=false) (λH3 d=> ?_);have L8:=d.1;have m:=d.2;clear d;refine Exists.elim (⟨_,rfl⟩:∃w8,w8=w7.setCell ⟨H2.p,7,none⟩ (.bool false)) (λw8 hw8=> ?_);rw [<-hw8] at L8 V;have Z:=(bk L8.bx).2.2.2.1;have b3:=L8.bx.lt;have g:=λ(w1:ab) (e:Ext w8 w1) (K:K1)=>nA L8.hp w1 e K
 rw [m] at g;have v:=λ(w3:ab) (e:Ext w8 w3) (K:K1) hK=>(L8.ext e).space (k:=t) t8 K hK
 simp (disch:=try exact dZ) only [↓RBp,↓RA,↓reduceIte,Nat.reduceAdd,Nat.reduceMul,Nat.reduceEqDiff,RB,RX,RA2,cb,cg,cO,X,a1];refine V _ ?_;refine fC Z g ?_;refine v _ (Ext.refl _) _ (λB9 w9 e9 b4 S=> ?_);have L9:=L8.ext e9;have eN:=Ext.alloc_self w9 (.cells #[.int .u64 (p:Int),.int .u64 (q:Int)] 27);have j:=L9.ext eN;have rd:=YO L9.hp (.int .u64 (p:Int)) (.int .u64 (q:Int)) 27;have u:=S.st (HSt.of_ext Y6 H3 eN);have nd: [p,q].Nodup:=acG L9.hp.nd;have a7:=((L9.hp.rv p (by simp)).kn (by have:=L9.hp.n4;omega) L9.hp.rg).2.2.1;have n4:=L9.hp.n4;refine zS0 ?_;refine xJ (keep:= [p,q]) (free:= []) j.hp m t8 u (by simp) (by simp) rd (RdH.nil _ _ _) (by simp) (by simp) oM _ (λh=> ?_) (λh=> ?_) (λQ C R a4 hd pr F b=> ?_)
 ·refine absurd ⟨by simpa using nd,?_⟩ h;simp only [List.append_nil,List.mem_cons,List.not_mem_nil,or_false];omega
 ·simp at h
 have a:=j.st F b;have J:=(bk a.bx).2.2.2.1;have a2:=a.bx.lt;have o:∀y,Liv Q C 2 y↔y∈ [p,q]:=λy=>by
  rw [pr.fs.liv,pr.E.liv pr.P,U y];exact ⟨λh=>h.elim id (λh=>absurd h.1 (A y)),.inl⟩
 have ll:=qk b.rg (by have:=pr.n2;omega) (L:= [p,q]) nd o;have hS:=λ(w:ab) (e:Ext R w) (K:K1) hK=>Le (a.ext e).hp K hK
 rw [ll] at hS;refine zS1 J ?_;refine hS _ (Ext.refl _) _ (λa0 W=> ?_);have G:=hK a0 (a.hp.ex.trans W);simp (disch:=try exact dZ) only [↓RBp,↓RA,↓reduceIte,Nat.reduceAdd,Nat.reduceMul,Nat.reduceEqDiff,RB,RX,RA2,cb,cg];exact G
theorem ac3 (L:LW w0 w Wb (.slice none 0 0) (.slice none 0 0) (.slice none 0 0) Y D3 H 2 f3 [p]) (s:Rs1 D3 f3 p i (clsN x) t) (av:Bool) (d:H.av=none) (c:H.lk=false) (b:∀y,¬Liv D3 f3 2 y) (t8:t<8) (x1:1<=x) (x60:x<=60) (K:K1) (hK:∀w',Ext w0 w'->K (.bool true) w'):
  Ls K (.bool av) (.pointer (some ⟨Wb,0,none⟩)) (.int .i64 x) (.int .i64 (t:Int)) (.int .u64 (p:Int)) (.int .i64 0) (.int .i64 26) w:=by
 have q3:=(bk L.bx).2.2.2.1;have lW:=L.bx.lt;rw [WD];unfold Lu
 cases av
 ·have a:=aao L s false c (.inl ⟨rfl,d⟩) b t8 x1 x60 K hK;refine zS0 ?_;exact a
 ·have L1:=L.ext (Ext.alloc_self w (.cells #[.int .i64 26] 3));have hx:(w.alloc (.cells #[.int .i64 26] 3)).cell? ⟨w.heap.size,0,none⟩=some (.int .i64 ((26+32*0:Nat):Int)):=(af.new w [.int .i64 26] 3).cell (i:=0) (by simp);have hp:=L.hp.ltp;have e:=λK hK=>YH (k:=0) L1 oM hx oM K hK
  refine zS1 q3 ?_;refine e _ (λm w2 L2 g2=> ?_);have a:=aao L2 s true c (.inr ⟨rfl,m,rfl,rfl⟩) b t8 x1 x60 K hK
  first
   |exact a
   |(simp (disch:=try exact dZ) only [↓RBp,↓RA,↓reduceIte,Nat.reduceAdd,Nat.reduceMul,Nat.reduceEqDiff,RB,RX,RA2];exact a)
def PC {a b:Nat} (hG:bq w) (ha:a<256) (hb:b<256) (av:Bool) (K:K1) (hK:∀w',Ext w w'->K (.bool true) w'):
  ad prog 7 #[.int .u8 (a:Int),.int .u8 (b:Int),.bool av] w K:=by
 have e1:(b:Int)%60=((b%60:Nat):Int):=oM;have e2:1+((b%60:Nat):Int)=((1+b%60:Nat):Int):=oM;have e3:(a:Int)%8=((a%8:Nat):Int):=oM;have t8:a%8<8:=oM;have x1:(1:Int)<=((1+b%60:Nat):Int):=oM;have x60:((1+b%60:Nat):Int)<=60:=oM;refine YM _ _ _ _ _ ?_;unfold ac2;refine xL hG _ (λw1 h1=> ?_);have u:=hG.ext h1;refine zS0 ?_;refine t7 (n:=2) u oM oM _ (λWb H Y w2 d g r L=> ?_);have q3:=(bk L.bx).2.2.2.1;have lW:=L.bx.lt;have nb:=xK (n:=2) oM;have f:=λK=>pW (R:= []) L.hp d (t:=((a%8:Nat):Int)) (x:=((1+b%60:Nat):Int)) oM oM x1 x60 64 oM oM oM (by simp) K
 rw [g] at f;generalize ((1+b%60:Nat):Int)=x at*;generalize a%8=t at*;refine zS4 e1 e2 e3 q3 ?_;refine f _ (λ_ j _ _ _ _ _=> ?_) (λD2 f2 D3 f3 p k i V w3 Y3 s3 c=> ?_)
 ·exact absurd (show (opF (hbD 2) 26 0).1<0 by rw [Lg oM oM];omega) (j 0 oM)
 have L3:=L.st s3 c;have rs:=c.rv p (by simp);have s:=abW V t8 rs c.rg;have sp:=V.sp oM rs oM c.rg;have ok:=rs.okp (by have:=c.rg.gd.n;omega) c.rg;have m:∀y,¬Liv D3 f3 2 y:=λy h=>V7 oM ((Bn nb.1 oM V).1 h)
 have cO:=λ(w:ab) (K:K1)=>eU p w K oM
 have q:=s.hp;unfold hk at q;have l:¬(pO p>=3712):=by have:=ok.2.2.1;omega
 have A:=(bk L3.bx).2.2.2.1;have z:=L3.bx.lt;have v:=L3.hp.ltp;clear V nb;generalize hbD 2=DB at*;have o:=λ(w':ab) (e:Ext w1 w')=>hK w' (h1.trans e)
 have bx:=λ(av:Bool) (K:K1) hK=>ac3 L3 s av d r m t8 x1 x60 K hK
 refine zS6 cO l e1 e2 e3 e3 ?_;exact bx av K o
end
end Go.Proofs.YtmpehclnnjgmcaaGreatDoor
