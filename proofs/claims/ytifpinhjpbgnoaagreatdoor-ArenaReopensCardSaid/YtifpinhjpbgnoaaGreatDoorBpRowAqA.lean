/-
  Part of the proof in YtifpinhjpbgnoaaGreatDoorBpRowAq.
-/
import Derived.Test.YtifpinhjpbgnoaaGreatDoorBp4
import Derived.Test.YtifpinhjpbgnoaaGreatDoorBp5
import Derived.Test.YtifpinhjpbgnoaaGreatDoorBp1
namespace Go.Proofs.YtifpinhjpbgnoaaGreatDoor
open Go Go.Sh
set_option maxRecDepth 100000
set_option maxHeartbeats 4000000
set_option linter.unusedSimpArgs false
set_option linter.unusedVariables false
def okP (x:Nat):Bool:=goodB (gX x) (kX x) (sX x)&&isS x
structure Wm (w:World) (b o:Nat) (W:Nat→Nat):Prop where
 cell:∀{i:Nat},i<256→w.cell? ⟨b,o+i,none⟩=some (u64 (W i))
 frz:∀i,w.frozen? ⟨b,i,none⟩=false
abbrev wsV (b o cap:Nat):Value:= .slice (some ⟨b,o,none⟩) 256 cap
def isR (W:Nat→Nat) (c i:Int) (s:Nat):Bool:=decide (0≤i∧i<perS c)&&(okP (W (offN c i.toNat))&&(decide (sX (W (offN c i.toNat))=s)&&(bitB (W 1) i.toNat== !decide (s=176))))
section
variable {w w':World} {W:Nat→Nat} {b ob cap:Nat} {c:Int}
theorem c_rParts (x:Nat) (w:World) (K:K1) (hx:x<18446744073709551616):callS Tryz.prog 129 #[.int .u64 (x:Int)] w K=K (.tuple #[.int .u16 (gX x:Int),.int .u8 (kX x:Int),.int .u32 (sX x:Int),.bool (okP x)]) w:=by
 refine callS_det (by kernel_rfl) (f129_call _ _ _ ?_) K
 unfold f129_t
 have h1:gX x<65536:=by unfold gX;omega
 have h2:kX x<256:=by unfold kX;omega
 have h3:sX x<256:=by unfold sX;omega
 have e1:x%65536=gX x:=rfl
 have e2:x/2^16%256=kX x:=rfl
 have e3:x%4294967296/2^24=sX x:=by unfold sX;omega
 have hs:=c_rSealed x w
 unfold okP
 generalize gX x=gg at*
 generalize kX x=kk at*
 generalize sX x=ss at*
 by_cases s0:ss=176
 ·subst s0
  by_cases g0:1≤gg
  ·by_cases k0:kk=0
   ·subst k0
    have e:goodB gg 0 176=true:=by simp [goodB];omega
    simp (disch:=first|omega|simp only [RO]|(simp only [RZ]<;>omega)|fail) only [↓RBp,↓RA,↓reduceIte,Nat.reduceAdd,Nat.reduceMul,Nat.reduceEqDiff,RB,RX,RA2,e1,e2,e3,e,c_rSealed,Bool.true_and]
   ·have e:goodB gg kk 176=false:=by simp [goodB];omega
    simp (disch:=first|omega|simp only [RO]|(simp only [RZ]<;>omega)|fail) only [↓RBp,↓RA,↓reduceIte,Nat.reduceAdd,Nat.reduceMul,Nat.reduceEqDiff,RB,RX,RA2,e1,e2,e3,e,k0,Bool.false_and]
  ·have e:goodB gg kk 176=false:=by simp [goodB];omega
   simp (disch:=first|omega|simp only [RO]|(simp only [RZ]<;>omega)|fail) only [↓RBp,↓RA,↓reduceIte,Nat.reduceAdd,Nat.reduceMul,Nat.reduceEqDiff,RB,RX,RA2,e1,e2,e3,e,Bool.false_and]
 ·by_cases s1:ss=177
  ·subst s1
   by_cases g0:1≤gg
   ·by_cases k0:1≤kk
    ·by_cases k1:kk≤127
     ·have e:goodB gg kk 177=true:=by simp [goodB];omega
      simp (disch:=first|omega|simp only [RO]|(simp only [RZ]<;>omega)|fail) only [↓RBp,↓RA,↓reduceIte,Nat.reduceAdd,Nat.reduceMul,Nat.reduceEqDiff,RB,RX,RA2,e1,e2,e3,e,c_rSealed,Bool.true_and]
     ·have e:goodB gg kk 177=false:=by simp [goodB];omega
      simp (disch:=first|omega|simp only [RO]|(simp only [RZ]<;>omega)|fail) only [↓RBp,↓RA,↓reduceIte,Nat.reduceAdd,Nat.reduceMul,Nat.reduceEqDiff,RB,RX,RA2,e1,e2,e3,e,Bool.false_and]
    ·have e:goodB gg kk 177=false:=by simp [goodB];omega
     simp (disch:=first|omega|simp only [RO]|(simp only [RZ]<;>omega)|fail) only [↓RBp,↓RA,↓reduceIte,Nat.reduceAdd,Nat.reduceMul,Nat.reduceEqDiff,RB,RX,RA2,e1,e2,e3,e,Bool.false_and]
   ·have e:goodB gg kk 177=false:=by simp [goodB];omega
    simp (disch:=first|omega|simp only [RO]|(simp only [RZ]<;>omega)|fail) only [↓RBp,↓RA,↓reduceIte,Nat.reduceAdd,Nat.reduceMul,Nat.reduceEqDiff,RB,RX,RA2,e1,e2,e3,e,Bool.false_and]
  ·by_cases s2:ss=178
   ·subst s2
    by_cases g0:gg=65535
    ·subst g0
     by_cases k0:kk=0
     ·subst k0
      have e:goodB 65535 0 178=true:=by decide
      simp (disch:=first|omega|simp only [RO]|(simp only [RZ]<;>omega)|fail) only [↓RBp,↓RA,↓reduceIte,Nat.reduceAdd,Nat.reduceMul,Nat.reduceEqDiff,RB,RX,RA2,e1,e2,e3,e,c_rSealed,Bool.true_and]
     ·have e:goodB 65535 kk 178=false:=by simp [goodB,k0]
      simp (disch:=first|omega|simp only [RO]|(simp only [RZ]<;>omega)|fail) only [↓RBp,↓RA,↓reduceIte,Nat.reduceAdd,Nat.reduceMul,Nat.reduceEqDiff,RB,RX,RA2,e1,e2,e3,e,k0,Bool.false_and]
    ·have e:goodB gg kk 178=false:=by simp [goodB,g0]
     simp (disch:=first|omega|simp only [RO]|(simp only [RZ]<;>omega)|fail) only [↓RBp,↓RA,↓reduceIte,Nat.reduceAdd,Nat.reduceMul,Nat.reduceEqDiff,RB,RX,RA2,e1,e2,e3,e,g0,Bool.false_and]
   ·have e:goodB gg kk ss=false:=by simp [goodB,s0,s1,s2]
    simp (disch:=first|omega|simp only [RO]|(simp only [RZ]<;>omega)|fail) only [↓RBp,↓RA,↓reduceIte,Nat.reduceAdd,Nat.reduceMul,Nat.reduceEqDiff,RB,RX,RA2,e1,e2,e3,e,s0,s1,s2,Bool.false_and]
theorem c_rBit (h:Wm w b ob W) (h1:W 1<18446744073709551616) (i:Nat) (hi:i<64) (K:K1):callS Tryz.prog 130 #[wsV b ob cap,.int .i64 (i:Int)] w K=K (.bool (bitB (W 1) i)) w:=by
 refine callS_det (by kernel_rfl) (f130_call _ _ _ _ ?_) K
 unfold f130_t
 have hc:=h.cell (i:=1) (by omega)
 have hdv:W 1/2^i<18446744073709551616:=Nat.lt_of_le_of_lt (Nat.div_le_self _ _) h1
 have hbit:decide (W 1/2^i&&&1=1)=bitB (W 1) i:=by unfold bitB;simp only [Nat.and_one_is_mod]
 simp (disch:=first|omega|simp only [RO]|(simp only [RZ]<;>omega)|fail) only [↓RBp,↓RA,↓reduceIte,Nat.reduceAdd,Nat.reduceMul,Nat.reduceEqDiff,RB,RX,RA2,hc,Int.reduceToNat,Int.toNat_natCast,hbit]
theorem c_rIs (h:Wm w b ob W) (hW:∀j,j<256→W j<18446744073709551616) (c0:0≤c) (c5:c<5) (i:Int) (s:Nat) (K:K1):callS Tryz.prog 123 #[wsV b ob cap,.int .i64 c,.int .i64 i,.int .u32 (s:Int)] w K=K (.bool (isR W c i s)) w:=by
 refine callS_det (by kernel_rfl) (f123_call _ _ _ _ _ _ ?_) K
 unfold f123_t isR
 have hp:=perS_in c0 c5
 by_cases hi:0≤i∧i<perS c
 ·obtain ⟨j,rfl⟩:∃j:Nat,i=(j:Int):=⟨i.toNat,by omega⟩
  have bd:=offN_bd c0 c5 hi.2
  have hx:=hW _ bd.2.2
  have hcx:=h.cell bd.2.2
  have ro:∀(K:K1),callS Tryz.prog 116 #[.int .i64 c,.int .i64 (j:Int)] w K=K (.int .i64 (offN c j:Int)) w:=fun K=>by rw [c_rOff c j w K (by omega) (by omega),bd.1]
  have rb:∀(K:K1),callS Tryz.prog 130 #[wsV b ob cap,.int .i64 (j:Int)] w K=K (.bool (bitB (W 1) j)) w:=fun K=>c_rBit h (hW 1 (by omega)) j (by omega) K
  rw [decide_eq_true hi,Int.toNat_natCast,Bool.true_and]
  generalize offN c j=q at*
  generalize hxx:W q=x at*
  have hs3:sX x<256:=by unfold sX;omega
  cases ho:okP x with
  |false=>
   rw [Bool.false_and]
   simp (disch:=first|omega|simp only [RO]|(simp only [RZ]<;>omega)|fail) only [↓RBp,↓RA,↓reduceIte,Nat.reduceAdd,Nat.reduceMul,Nat.reduceEqDiff,RB,RX,RA2,c_rPer,ro,hcx,hxx,c_rParts,ho]
  |true=>
   rw [Bool.true_and]
   by_cases hs:sX x=s
   ·subst hs
    rw [decide_eq_true rfl,Bool.true_and]
    by_cases s0:sX x=176
    ·rw [decide_eq_true s0]
     cases hb:bitB (W 1) j with
     |true=>
      rw [hb] at rb
      simp (disch:=first|omega|simp only [RO]|(simp only [RZ]<;>omega)|fail) only [↓RBp,↓RA,↓reduceIte,Nat.reduceAdd,Nat.reduceMul,Nat.reduceEqDiff,RB,RX,RA2,c_rPer,ro,hcx,hxx,c_rParts,ho,rb,s0]
     |false=>
      rw [hb] at rb
      simp (disch:=first|omega|simp only [RO]|(simp only [RZ]<;>omega)|fail) only [↓RBp,↓RA,↓reduceIte,Nat.reduceAdd,Nat.reduceMul,Nat.reduceEqDiff,RB,RX,RA2,c_rPer,ro,hcx,hxx,c_rParts,ho,rb,s0]
    ·rw [decide_eq_false s0]
     cases hb:bitB (W 1) j with
     |true=>
      rw [hb] at rb
      simp (disch:=first|omega|simp only [RO]|(simp only [RZ]<;>omega)|fail) only [↓RBp,↓RA,↓reduceIte,Nat.reduceAdd,Nat.reduceMul,Nat.reduceEqDiff,RB,RX,RA2,c_rPer,ro,hcx,hxx,c_rParts,ho,rb,s0]
     |false=>
      rw [hb] at rb
      simp (disch:=first|omega|simp only [RO]|(simp only [RZ]<;>omega)|fail) only [↓RBp,↓RA,↓reduceIte,Nat.reduceAdd,Nat.reduceMul,Nat.reduceEqDiff,RB,RX,RA2,c_rPer,ro,hcx,hxx,c_rParts,ho,rb,s0]
   ·rw [decide_eq_false hs,Bool.false_and]
    simp (disch:=first|omega|simp only [RO]|(simp only [RZ]<;>omega)|fail) only [↓RBp,↓RA,↓reduceIte,Nat.reduceAdd,Nat.reduceMul,Nat.reduceEqDiff,RB,RX,RA2,c_rPer,ro,hcx,hxx,c_rParts,ho,hs]
 ·rw [decide_eq_false hi,Bool.false_and]
  by_cases h0:i<0
  ·simp (disch:=first|omega|simp only [RO]|(simp only [RZ]<;>omega)|fail) only [↓RBp,↓RA,↓reduceIte,Nat.reduceAdd,Nat.reduceMul,Nat.reduceEqDiff,RB,RX,RA2,c_rPer]
  ·simp (disch:=first|omega|simp only [RO]|(simp only [RZ]<;>omega)|fail) only [↓RBp,↓RA,↓reduceIte,Nat.reduceAdd,Nat.reduceMul,Nat.reduceEqDiff,RB,RX,RA2,c_rPer]
end
end Go.Proofs.YtifpinhjpbgnoaaGreatDoor
namespace Go.Proofs.YtifpinhjpbgnoaaGreatDoor
open Go Go.Sh
set_option maxRecDepth 100000
set_option maxHeartbeats 4000000
set_option linter.unusedSimpArgs false
set_option linter.unusedVariables false
def ActsR (m:Nat) (w:World) (v:Value) (al:List (List Int×List Nat×List Int)):Prop:=∃a cap,v= .slice a al.length cap∧∀j x,al[j]? =some x→∃b o s1 s2 s3,a=some ⟨b,o,none⟩∧b<m∧w.cell? ⟨b,o+j*3,none⟩=some s1∧w.cell? ⟨b,o+j*3+1,none⟩=some s2∧w.cell? ⟨b,o+j*3+2,none⟩=some s3∧RdS m w s1 (i64L x.1)∧RdS m w s2 (u8L x.2.1)∧RdS m w s3 (i64L x.2.2)
section
variable {w w':World} {Y:Lay} {D:DS} {l m:Nat} {v:Value} {al:List (List Int×List Nat×List Int)}
theorem ActsR.ext (h:ActsR m w v al) (e:Ext w w'):ActsR m w' v al:=by
 obtain ⟨a,cap,hv,h⟩:=h
 refine ⟨a,cap,hv,fun j x hx=> ?_⟩
 obtain ⟨b,o,s1,s2,s3,ha,hb,c1,c2,c3,r1,r2,r3⟩:=h j x hx
 exact ⟨b,o,s1,s2,s3,ha,hb,e.cell_some c1,e.cell_some c2,e.cell_some c3,r1.ext e,r2.ext e,r3.ext e⟩
theorem elU64:ElT Tryz.prog 39 39 30 1 8 (.int .u64 0):=el_39_39
def wdL (W:Nat→Nat) (n:Nat):List Value:=(List.range n).map fun j=>u64 (W j)
theorem wdL_snoc (W:Nat→Nat) (n:Nat):wdL W (n+1)=wdL W n++ [u64 (W n)]:=by simp [wdL,List.range_succ]
theorem wdL_get {W:Nat→Nat} {n j:Nat} (h:j<n):(wdL W n)[j]? =some (u64 (W j)):=by simp [wdL,h]
theorem Wm.of_sl {W:Nat→Nat} {b o n cap:Nat} (h:SlO w 30 1 (.slice (some ⟨b,o,none⟩) n cap) 256 (wdL W 256)):Wm w b o W:=⟨fun hi=>h.cell rfl (wdL_get hi),fun i=>h.frz rfl i⟩
end
end Go.Proofs.YtifpinhjpbgnoaaGreatDoor
namespace Go.Proofs.YtifpinhjpbgnoaaGreatDoor
open Go Go.Sh
set_option linter.unusedSimpArgs false
set_option linter.unusedVariables false
end Go.Proofs.YtifpinhjpbgnoaaGreatDoor
namespace Go.Proofs.YtifpinhjpbgnoaaGreatDoor
open Go Go.Sh
set_option maxRecDepth 100000
set_option maxHeartbeats 4000000
set_option linter.unusedSimpArgs false
set_option linter.unusedVariables false
section
variable {w0 w w':World} {Y Y':Lay} {D D':DS} {B l k:Nat} {c o:Int} {g:Nat} {K:K1} {E1:VP1}
theorem Wm.ext {b ob:Nat} {W:Nat→Nat} (h:Wm w b ob W) (e:Ext w w'):Wm w' b ob W:=⟨fun hi=>e.cell_some (h.cell hi),fun i=>by
 have hc:=h.cell (i:=0) (by omega)
 have hlt:=lt_of_cell hc
 have:=h.frz i
 unfold World.frozen? at this ⊢
 simp only at this ⊢
 rw [e.blk b hlt];exact this⟩
theorem Loc.base {wI:World} (h:Loc w0 w Y D B l c o g) (e:Ext wI w0) (hG:Glob wI):Loc wI w Y D B l c o g:=⟨⟨h.L.dv,h.L.gd,e.trans h.L.ex,fun x hx=>Nat.le_trans e.size (h.L.nw x hx)⟩,h.bx,h.nb,h.on,h.lt,hG,h.c0,h.c5⟩
theorem Snd.parts (h:Snd D l c o) {k:Nat} (hk:(k:Int)<perS c):okP (wd D l (offN c k))=true∧bG (wd D l (offN c k))=gX (wd D l (offN c k))∧bK (wd D l (offN c k))=kX (wd D l (offN c k))∧bS (wd D l (offN c k))=sX (wd D l (offN c k)):=by
 have h1:=h.sl k hk
 have h2:=h.gd k hk
 have e1:bG (wd D l (offN c k))=gX (wd D l (offN c k)):=by unfold bG;rw [if_pos h1]
 have e2:bK (wd D l (offN c k))=kX (wd D l (offN c k)):=by unfold bK;rw [if_pos h1]
 have e3:bS (wd D l (offN c k))=sX (wd D l (offN c k)):=by unfold bS;rw [if_pos h1]
 refine ⟨?_,e1,e2,e3⟩
 rw [e1,e2,e3] at h2
 unfold okP;rw [h1,h2];rfl
theorem Snd.isR (h:Snd D l c o) (hp:perS c≤64) {k:Nat} (hk:(k:Int)<perS c):isR (wd D l) c (k:Int) 177=decide (bS (wd D l (offN c k))=177):=by
 obtain ⟨p1,p2,p3,p4⟩:=h.parts hk
 have hb:=h.bit k (by omega)
 unfold Go.Proofs.YtifpinhjpbgnoaaGreatDoor.isR
 rw [decide_eq_true (show 0≤(k:Int)∧(k:Int)<perS c from ⟨by omega,hk⟩),Int.toNat_natCast,p1,←p4,hb,decide_eq_true hk]
 by_cases hs:bS (wd D l (offN c k))=177
 ·simp [hs]
 ·simp [hs]
end
end Go.Proofs.YtifpinhjpbgnoaaGreatDoor
namespace Go.Proofs.YtifpinhjpbgnoaaGreatDoor
open Go Go.Sh
set_option maxRecDepth 100000
set_option maxHeartbeats 4000000
set_option linter.unusedSimpArgs false
set_option linter.unusedVariables false
section
variable {w w':World} {D:DS} {l bw ow cw:Nat} {c o:Int}
theorem isR_in {W:Nat→Nat} {i s:Nat} (hi:(i:Int)<perS c):isR W c (i:Int) s=(okP (W (offN c i))&&(decide (sX (W (offN c i))=s)&&(bitB (W 1) i== !decide (s=176)))):=by
 unfold isR
 rw [decide_eq_true (show 0≤(i:Int)∧(i:Int)<perS c from ⟨by omega,hi⟩),Int.toNat_natCast,Bool.true_and]
theorem isR_tk (h:Snd D l c o) {i:Nat} (hi:(i:Int)<perS c):isR (wd D l) c (i:Int) 176=tkOk D l c i:=by
 rw [isR_in hi]
 have hp:=h.parts hi
 have s1:=h.sl i hi
 have s2:=h.gd i hi
 unfold tkOk
 rw [hp.1,s1,s2,hp.2.2.2]
 cases bitB (wd D l 1) i<;>cases decide (sX (wd D l (offN c i))=176)<;>rfl
end
end Go.Proofs.YtifpinhjpbgnoaaGreatDoor
namespace Go.Proofs.YtifpinhjpbgnoaaGreatDoor
open Go Go.Sh
set_option maxRecDepth 100000
set_option maxHeartbeats 4000000
set_option linter.unusedSimpArgs false
set_option linter.unusedVariables false
theorem SlO.upd {w:World} {t:TypeId} {b o n cap:Nat} {L:List Value} (h:SlO w t 1 (.slice (some ⟨b,o,none⟩) n cap) n L) {i:Nat} (u:Value) (hi:i<n):SlO (w.setCell ⟨b,o+i,none⟩ u) t 1 (.slice (some ⟨b,o,none⟩) n cap) n (L.set i u):=by
 obtain ⟨hl,h|⟨b',o',cap',a,hv,hh,hnc,hcm,hsz,hg⟩⟩:=h
 ·cases h.1
 ·injection hv with hv h2 h3
  injection hv with hv
  injection hv with h4 h5 _
  subst h4;subst h5;subst h3
  have hC:Cells w b t a.size (fun j=>(a[j]?).getD undef):=⟨a,hh,Nat.le_refl _,fun j hj=>by simp only [Array.getElem?_eq_getElem hj,Option.getD_some]⟩
  have hC2:=hC.set (i:=o+i) u (by omega)
  obtain ⟨a',hh',hs',hg'⟩:=hC2
  refine ⟨by rw [List.length_set];exact hl,.inr ⟨b,o,cap,a',rfl,hh',hnc,hcm,by omega,fun j x hj=> ?_⟩⟩
  have hjn:j<n:=by
   have:=(List.getElem?_eq_some_iff.1 hj).1
   rw [List.length_set] at this;omega
  rw [hg' (o+j) (by omega)]
  simp only
  rw [List.getElem?_set] at hj
  by_cases e:i=j
  ·subst e
   rw [if_pos rfl,if_pos (by omega)] at hj
   rw [if_pos rfl];exact hj
  ·rw [if_neg e] at hj
   rw [if_neg (by omega),hg j x hj,Option.getD_some]
theorem wdL_set (W:Nat→Nat) (n i x:Nat):(wdL W n).set i (u64 x)=wdL (fun j=>if j=i then x else W j) n:=by
 apply List.ext_getElem?
 intro j
 rw [List.getElem?_set]
 by_cases hj:j<n
 ·rw [wdL_get hj]
  by_cases e:i=j
  ·subst e
   rw [if_pos rfl,if_pos (by simpa [wdL] using hj),wdL_get hj,if_pos rfl]
  ·rw [if_neg e,wdL_get hj,if_neg (fun h=>e h.symm)]
 ·have h1:(wdL W n)[j]? =none:=List.getElem?_eq_none (by simp [wdL];omega)
  have h2:(wdL (fun j=>if j=i then x else W j) n)[j]? =none:=List.getElem?_eq_none (by simp [wdL];omega)
  rw [h2]
  by_cases e:i=j
  ·subst e
   rw [if_pos rfl,if_neg (by simp [wdL];omega)]
  ·rw [if_neg e,h1]
section
variable {w w':World} {D:DS} {l bw ow cw:Nat} {c o:Int}
theorem wdL_congr {W V:Nat→Nat} {n:Nat} (h:∀i,i<n→W i=V i):wdL W n=wdL V n:=by
 unfold wdL
 rw [List.map_inj_left]
 intro i hi
 rw [h i (List.mem_range.1 hi)]
theorem isR_ok (h:Snd D l c o) {i:Nat} (hi:(i:Int)<perS c):isR (wd D l) c (i:Int) 176=okF D l c i:=by
 rw [isR_tk h hi]
 have s1:=h.sl i hi
 have s2:=h.gd i hi
 have s3:=good_g s2
 unfold tkOk okF
 rw [s1,s2,decide_eq_false s3];simp
theorem k_rNext (hW:Wm w bw ow (wd D l)) (hWl:∀j,j<256→wd D l j<18446744073709551616) (hs:Snd D l c o) (c0:0≤c) (c5:c<5) (K:K1) (hK:∀w',Ext w w'→K (.tuple #[.int .u16 ((if alF D l c (perS c).toNat=true then mxG D l c (perS c).toNat else 0:Nat):Int),.bool (alF D l c (perS c).toNat)]) w'):
  callS Tryz.prog 113 #[wsV bw ow cw,.int .i64 c] w K:=by
 have hp:=perS_in c0 c5
 obtain ⟨n,hn⟩:∃n:Nat,perS c=(n:Int):=⟨(perS c).toNat,by omega⟩
 have hrp:=c_rPer c
 rw [hn] at hrp
 rw [hn,Int.toNat_natCast] at hK
 refine f113_call _ _ _ _ ?_
 unfold f113_t
 apply f113_l1_rule (I:=fun x z w'=>∃i:Nat,z= .int .i64 (i:Int)∧i≤n∧x= .int .u16 ((mxG D l c i:Nat):Int)∧alF D l c i=true∧Ext w w') (μ:=fun _ z _=>n-(Go.RowKit.intOf z).toNat)
 ·exact ⟨0,rfl,by omega,rfl,rfl,Ext.refl _⟩
 ·intros;rename_i w1 hI E1 hE
  obtain ⟨i,rfl,hi,rfl,hal,e1⟩:=hI
  by_cases hin:i<n
  ·have hper:(i:Int)<perS c:=by omega
   have bd:=offN_bd c0 c5 hper
   have ris:∀(w5:World) (K:K1),Ext w w5→callS Tryz.prog 123 #[wsV bw ow cw,.int .i64 c,.int .i64 (i:Int),.int .u32 ((176:Nat):Int)] w5 K=K (.bool (okF D l c i)) w5:=fun w5 K e=>by rw [c_rIs (hW.ext e) hWl c0 c5 i 176 K,isR_ok hs hper]
   have hro:∀(w:World) (K:K1),callS Tryz.prog 116 #[.int .i64 c,.int .i64 (i:Int)] w K=K (.int .i64 (offN c i:Int)) w:=fun w K=>by rw [c_rOff c i w K (by omega) (by omega),bd.1]
   have cx:=e1.cell_some (hW.cell bd.2.2)
   have hxl:=hWl _ bd.2.2
   have hpt:=(hs.parts hper).2.1
   have hgx:wd D l (offN c i)%65536=bG (wd D l (offN c i)):=by rw [hpt];rfl
   cases ht:okF D l c i with
   |true=>
    rw [ht] at ris
    unfold f113_l1_t
    simp (disch:=first|omega|simp only [RO]|(simp only [RZ]<;>omega)|(with_reducible (repeat (first|assumption|exact Ext.refl _|refine Ext.alloc ?_ _|refine Ext.drew ?_|refine Ext.trans ?_ (by assumption))))|fail) only [↓RBp,↓RA,↓reduceIte,Nat.reduceAdd,Nat.reduceMul,Nat.reduceEqDiff,RB,RX,RA2,hrp,ris,hro,cx,hgx]
    apply hE
    ·refine ⟨i+1,by simp,by omega,?_,by simp [alF,hal,ht],e1⟩
     simp only [mxG]
     split<;>split<;>first|rfl|omega
    ·simp [Go.RowKit.intOf];omega
   |false=>
    rw [ht] at ris
    have:=fun w' e=>hK w' e
    rw [alF_no hin ht] at this
    unfold f113_l1_t
    simp (disch:=first|omega|simp only [RO]|(simp only [RZ]<;>omega)|(with_reducible (repeat (first|assumption|exact Ext.refl _|refine Ext.alloc ?_ _|refine Ext.drew ?_|refine Ext.trans ?_ (by assumption))))|fail) only [↓RBp,↓RA,↓reduceIte,Nat.reduceAdd,Nat.reduceMul,Nat.reduceEqDiff,RB,RX,RA2,hrp,ris]
    exact this _ e1
  ·have:i=n:=by omega
   subst this
   rw [hal,if_pos rfl] at hK
   unfold f113_l1_t
   simp (disch:=first|omega|simp only [RO]|(simp only [RZ]<;>omega)|fail) only [↓RBp,↓RA,↓reduceIte,Nat.reduceAdd,Nat.reduceMul,Nat.reduceEqDiff,RB,RX,RA2,hrp,f113_k1_eq,f113_k1_t]
   exact hK _ e1
theorem isB_iff (c:Int) (j:Nat):isB c j=true↔∃i,i<(perS c).toNat∧offN c i=j:=by
 unfold isB
 rw [List.any_eq_true]
 constructor
 ·intro ⟨i,h1,h2⟩;exact ⟨i,List.mem_range.1 h1,by simpa using h2⟩
 ·intro ⟨i,h1,h2⟩;exact ⟨i,List.mem_range.2 h1,by simpa using h2⟩
end
end Go.Proofs.YtifpinhjpbgnoaaGreatDoor
namespace Go.Proofs.YtifpinhjpbgnoaaGreatDoor
open Go Go.Sh
set_option maxRecDepth 100000
set_option maxHeartbeats 4000000
set_option linter.unusedSimpArgs false
set_option linter.unusedVariables false
section
variable {w w':World} {D:DS} {l bw ow cw:Nat} {c o:Int}
theorem k_rFormatW {g:Nat} {v:Value} {U:Nat→Nat} (hv:SlO w 30 1 v 256 (wdL U 256)) (c0:0≤c) (c5:c<5) (o0:0≤o) (o8:o<8) (hg:g<65536) (K:K1)
  (hK:∀b ow cap w',Ext w w'→w.heap.size≤b→SlO w' 30 1 (wsV b ow cap) 256 (wdL (planF c o g U) 256)→K (wsV b ow cap) w'):
  callS Tryz.prog 91 #[v,.agg #[.int .i64 c,.int .i64 o,.int .u16 (g:Int)]] w K:=by
 have hp:=perS_in c0 c5
 obtain ⟨n,hn⟩:∃n:Nat,perS c=(n:Int):=⟨(perS c).toNat,by omega⟩
 have hrp:=c_rPer c
 rw [hn] at hrp
 obtain ⟨xb,xo,xc,rfl,hxc⟩:=hv.isS (by omega)
 refine f91_call _ _ _ _ ?_
 unfold f91_t
 simp (disch:=first|omega|simp only [RO]|(simp only [RZ]<;>omega)|fail) only [↓RBp,↓RA,↓reduceIte,Nat.reduceAdd,Nat.reduceMul,Nat.reduceEqDiff,RB,RX,RA2]
 have ea:Ext w (w.alloc (rhO c o g)):=Ext.alloc_self _ _
 have lz:(wdL U 256).length=256:=by simp [wdL]
 refine app_new elU64 (w0:=w.alloc (rhO c o g)) (SlO.nil _ _ _) (Frm.refl _ _) (fun b hb=>by cases hb) (m:=256) (news:=wdL U 256) (by rw [lz]) (fun j u hj=>(hv.ext ea).cell rfl hj) (by kernel_rfl) (by omega) (by omega) (by omega) (fun v1 w1 s1 f1 n1 _ _=> ?_)
 rw [Nat.zero_add,List.nil_append] at s1
 have e1:Ext (w.alloc (rhO c o g)) w1:=f1.to_ext (fun _ _ h=>h)
 have rhc:=Cells.new w [Value.int .i64 c,.int .i64 o,.int .u16 (g:Int)] 36
 obtain ⟨b,ob,cap,rfl,hbc⟩:=s1.isS (by omega)
 have hb1:=n1 b rfl
 have hbw:w.heap.size≤b:=Nat.le_trans ea.size hb1
 have hbn:w.heap.size<b:=by simp only [RZ] at hb1;omega
 have hs0:=sealN_lt (blkX g 0 176) (blkX_lt hg (by omega) (by omega))
 have hd0:=sealN_lt (hdX c o g) (hdX_lt (by omega) c5 (by omega) o8 hg)
 apply f91_l1_rule (I:=fun z w'=>∃k:Nat,z= .int .i64 (k:Int)∧1≤k∧k≤8∧Ext (w.alloc (rhO c o g)) w'∧SlO w' 30 1 (wsV b ob cap) 256 (wdL (fun j=>if j≠0∧j<k then 0 else U j) 256)) (μ:=fun z _=>8-(Go.RowKit.intOf z).toNat)
 ·exact ⟨1,rfl,by omega,by omega,e1,by rw [wdL_congr (V:=U) (fun i _=>if_neg (by omega))];exact s1⟩
 ·intros;rename_i w2 hI E1 hE
  obtain ⟨k,rfl,hk1,hk8,e2,s2⟩:=hI
  by_cases hk:k<8
  ·have hup:=SlO.upd s2 (u64 0) (i:=k) (by omega)
   rw [wdL_set] at hup
   have hfz:=fun i=>s2.frz (b:=b) rfl i
   have hc:=s2.cell rfl (wdL_get (W:=fun j=>if j≠0∧j<k then 0 else U j) (n:=256) (j:=k) (by omega))
   have hlt:=lt_of_cell hc
   unfold f91_l1_t
   simp (disch:=first|omega|simp only [RO]|(simp only [RZ]<;>omega)|fail) only [↓RBp,↓RA,↓reduceIte,Nat.reduceAdd,Nat.reduceMul,Nat.reduceEqDiff,RB,RX,RA2,hfz,hc,Int.toNat_natCast]
   apply hE
   ·refine ⟨k+1,by simp,by omega,by omega,(by repeat (first|(with_reducible first|refine Sh.eB ?_ (by first|omega|(simp only [RZ]<;>omega)) _|assumption|exact Sh.eR _|refine Sh.eA ?_ _|refine Sh.eD ?_|refine Sh.eT ?_ (by assumption))|exact Sh.eR _)),?_⟩
    rw [wdL_congr (V:=fun j=>if j≠0∧j<k+1 then 0 else U j) (fun i _=>by
     by_cases e:i=k
     ·rw [if_pos e,if_pos (by omega)]
     ·rw [if_neg e]
      by_cases e2:i≠0∧i<k
      ·rw [if_pos e2,if_pos (by omega)]
      ·rw [if_neg e2,if_neg (by omega)])] at hup
    exact hup
   ·simp [Go.RowKit.intOf];omega
  ·have hk8:k=8:=by omega
   subst hk8
   unfold f91_l1_t
   simp (disch:=first|omega|simp only [RO]|(simp only [RZ]<;>omega)|fail) only [↓RBp,↓RA,↓reduceIte,Nat.reduceAdd,Nat.reduceMul,Nat.reduceEqDiff,RB,RX,RA2,f91_k1_eq,f91_k1_t]
   apply f91_l2_rule (I:=fun z w'=>∃(k:Nat) (W:Nat→Nat),z= .int .i64 (k:Int)∧k≤n∧Ext (w.alloc (rhO c o g)) w'∧SlO w' 30 1 (wsV b ob cap) 256 (wdL W 256)∧∀j,((∃i,i<k∧offN c i=j)→W j=sealN (blkX g 0 176))∧((¬∃i,i<k∧offN c i=j)→W j=if j≠0∧j<8 then 0 else U j)) (μ:=fun z _=>n-(Go.RowKit.intOf z).toNat)
   ·exact ⟨0,fun j=>if j≠0∧j<8 then 0 else U j,rfl,by omega,e2,s2,fun j=>⟨fun ⟨i,hi,_⟩=>by omega,fun _=>rfl⟩⟩
   ·intros;rename_i w3 hI3 E3 hE3
    obtain ⟨k,W,rfl,hkn,e3,s3,hWj⟩:=hI3
    have r0:w3.cell? ⟨w.heap.size,0,none⟩=some (.int .i64 c):=(rhc.ext e3).cell (i:=0) (by simp)
    have r1:w3.cell? ⟨w.heap.size,1,none⟩=some (.int .i64 o):=(rhc.ext e3).cell (i:=1) (by simp)
    have r2:w3.cell? ⟨w.heap.size,2,none⟩=some (.int .u16 (g:Int)):=(rhc.ext e3).cell (i:=2) (by simp)
    have ltr:=lt_of_cell r0
    have hfz:=fun i=>s3.frz (b:=b) rfl i
    by_cases hk:k<n
    ·have hper:(k:Int)<perS c:=by omega
     have bd:=offN_bd c0 c5 hper
     have hro:∀(w:World) (K:K1),callS Tryz.prog 116 #[.int .i64 c,.int .i64 (k:Int)] w K=K (.int .i64 (offN c k:Int)) w:=fun w K=>by rw [c_rOff c k w K (by omega) (by omega),bd.1]
     have hbl:∀(w:World) (K:K1),callS Tryz.prog 115 #[.int .u16 (g:Int),.int .u8 ((0:Nat):Int),.int .u32 ((176:Nat):Int)] w K=K (.int .u64 ((sealN (blkX g 0 176):Nat):Int)) w:=fun w K=>c_rBlock g 0 176 w K hg (by omega) (by omega)
     have hup:=SlO.upd s3 (u64 (sealN (blkX g 0 176))) (i:=offN c k) (by omega)
     rw [wdL_set] at hup
     have hc:=s3.cell rfl (wdL_get (W:=W) (n:=256) (j:=offN c k) (by omega))
     have hlt:=lt_of_cell hc
     have hnx:∀j,((∃i,i<k+1∧offN c i=j)→(if j=offN c k then sealN (blkX g 0 176) else W j)=sealN (blkX g 0 176))∧((¬∃i,i<k+1∧offN c i=j)→(if j=offN c k then sealN (blkX g 0 176) else W j)=if j≠0∧j<8 then 0 else U j):=by
      intro j
      constructor
      ·intro ⟨i,hi,he⟩
       by_cases e:j=offN c k
       ·rw [if_pos e]
       ·rw [if_neg e]
        refine (hWj j).1 ⟨i,?_,he⟩
        by_cases ei:i=k
        ·subst ei;exact absurd he.symm e
        ·omega
      ·intro hno
       have e:j≠offN c k:=fun e=>hno ⟨k,by omega,e.symm⟩
       rw [if_neg e]
       exact (hWj j).2 (fun ⟨i,hi,he⟩=>hno ⟨i,by omega,he⟩)
     generalize sealN (blkX g 0 176)=V at*
     generalize offN c k=q at*
     unfold f91_l2_t
     (repeat' (first|(with_reducible refine brS_mk (fun _=> ?_) (fun _=> ?_))|(with_reducible refine And.intro ?_ ?_)|(simp (disch:=first|omega|simp only [RO]|(simp only [RZ]<;>omega)|(with_reducible (repeat (first|assumption|exact Ext.refl _|refine Ext.alloc ?_ _|refine Ext.drew ?_|refine Ext.trans ?_ (by assumption))))|fail) only [↓RBp,↓RA,↓reduceIte,Nat.reduceAdd,Nat.reduceMul,Nat.reduceEqDiff,RB,RX,RA2,r0,r1,r2,hrp,hro,hbl,hfz,hc,Int.toNat_natCast])))
     apply hE3
     ·exact ⟨k+1,_,by simp,by omega,(by repeat (first|(with_reducible first|refine Sh.eB ?_ (by first|omega|(simp only [RZ]<;>omega)) _|assumption|exact Sh.eR _|refine Sh.eA ?_ _|refine Sh.eD ?_|refine Sh.eT ?_ (by assumption))|exact Sh.eR _)),hup,hnx⟩
     ·simp [Go.RowKit.intOf];omega
    ·have hkn':k=n:=by omega
     subst hkn'
     have hup:=SlO.upd s3 (u64 (sealN (hdX c o g))) (i:=0) (by omega)
     rw [wdL_set] at hup
     have hc:=s3.cell rfl (wdL_get (W:=W) (n:=256) (j:=0) (by omega))
     rw [Nat.add_zero] at hc hup
     have hlt:=lt_of_cell hc
     have hfi:∀(w:World) (K:K1),callS Tryz.prog 45 #[.agg #[.int .i64 c,.int .i64 o,.int .u16 (g:Int)]] w K=K (.int .u64 ((sealN (hdX c o g):Nat):Int)) (w.alloc (rhO c o g)):=fun w K=>c_rFirst c o g w K hg (.inr ⟨c0,c5,o0,o8⟩)
     have hfin:∀i,i<256→(if i=0 then sealN (hdX c o g) else W i)=planF c o g U i:=fun i hi=>by
      unfold planF
      by_cases h0:i=0
      ·rw [if_pos h0,if_pos h0]
      ·rw [if_neg h0,if_neg h0]
       by_cases hb:isB c i=true
       ·rw [if_pos hb]
        obtain ⟨q,h1,h2⟩:=(isB_iff c i).1 hb
        exact (hWj i).1 ⟨q,by omega,h2⟩
       ·rw [if_neg hb]
        rw [(hWj i).2 (fun ⟨q,h1,h2⟩=>hb ((isB_iff c i).2 ⟨q,by omega,h2⟩))]
        by_cases h8:i<8
        ·rw [if_pos h8,if_pos ⟨h0,h8⟩]
        ·rw [if_neg h8,if_neg (by omega)]
     generalize sealN (hdX c o g)=V at*
     unfold f91_l2_t
     simp (disch:=first|omega|simp only [RO]|(simp only [RZ]<;>omega)|fail) only [↓RBp,↓RA,↓reduceIte,Nat.reduceAdd,Nat.reduceMul,Nat.reduceEqDiff,RB,RX,RA2,r0,r1,r2,hrp,f91_k2_eq,f91_k2_t,hfi,hfz,hc,Int.reduceToNat,Nat.add_zero]
     refine hK b ob cap _ (by repeat (first|(with_reducible first|refine Sh.eB ?_ (by first|omega|(simp only [RZ]<;>omega)) _|assumption|exact Sh.eR _|refine Sh.eA ?_ _|refine Sh.eD ?_|refine Sh.eT ?_ (by assumption))|exact Sh.eR _)) hbw ?_
     rw [wdL_congr hfin] at hup
     exact hup.ext (Ext.alloc_self _ _)
end
end Go.Proofs.YtifpinhjpbgnoaaGreatDoor
namespace Go.Proofs.YtifpinhjpbgnoaaGreatDoor
open Go Go.Sh
set_option maxRecDepth 100000
set_option maxHeartbeats 8000000
set_option linter.unusedSimpArgs false
set_option linter.unusedVariables false
section
variable {w w':World} {Y Y':Lay} {D D':DS} {c o:Int} {g:Nat}
theorem rl_eq (x:Nat) (hx:x<18446744073709551616):hdOk x=(rightB (hC x) (hO x) (gX x)&&decide (x=sealN (hdX (hC x) (hO x) (gX x)))):=by
 have hg:gX x<65536:=by unfold gX;omega
 have hc: -1≤hC x∧hC x≤14:=by unfold hC;omega
 have ho: -1≤hO x∧hO x≤14:=by unfold hO;omega
 cases hb:(rightB (hC x) (hO x) (gX x)&&decide (x=sealN (hdX (hC x) (hO x) (gX x)))) with
 |true=>
  simp only [Bool.and_eq_true,decide_eq_true_eq] at hb
  obtain ⟨hr,hs⟩:=hb
  simp only [rightB,Bool.and_eq_true,Bool.not_eq_true',decide_eq_false_iff_not,Bool.or_eq_true,decide_eq_true_eq] at hr
  obtain ⟨hg0,hr⟩:=hr
  rw [hs]
  rcases hr with ⟨h1,h2⟩|h
  ·rw [h1,h2];exact (hd_free hg0 hg).1
  ·simp only [fmtB,Bool.and_eq_true,decide_eq_true_eq] at h
   exact (hd_ok h.1.1.1 h.1.1.2 h.1.2 h.2 hg0 hg).1
 |false=>
  cases hh:hdOk x with
  |false=>rfl
  |true=>
   exfalso
   simp only [hdOk,Bool.and_eq_true,Bool.not_eq_true',decide_eq_false_iff_not,Bool.or_eq_true,decide_eq_true_eq] at hh
   obtain ⟨⟨⟨h1,h2⟩,h3⟩,h4⟩:=hh
   have hS:sealN (x%4294967296)=x:=by simpa [isS] using h1
   have hy:x%4294967296=hdX (hC x) (hO x) (gX x):=by
    unfold hdX
    rcases h4 with ⟨a,b⟩|h
    ·rw [if_neg (by omega)]
     unfold hC at a;unfold hO at b;unfold sX at h2;unfold gX
     omega
    ·simp only [fmtB,Bool.and_eq_true,decide_eq_true_eq] at h
     rw [if_pos h.1.1.1]
     unfold sX at h2
     unfold hC hO gX
     omega
   rw [hy] at hS
   have hr:rightB (hC x) (hO x) (gX x)=true:=by
    rcases h4 with ⟨a,b⟩|h
    ·have a':hC x= -1:=by omega
     have b':hO x= -1:=by omega
     simp [rightB,h3,a',b']
    ·simp [rightB,h3,h]
   rw [hr,←hS] at hb
   simp only [Bool.true_and,decide_eq_false_iff_not] at hb
   apply hb
   rw [hS];exact hS.symm
theorem k_rLook (x:Nat) (hx:x<18446744073709551616) (K:K1) (hK:∀w',Ext w w'→K (.tuple #[.agg #[.int .i64 (hC x),.int .i64 (hO x),.int .u16 (gX x:Int)],.bool (hdOk x)]) w'):callS Tryz.prog 12 #[.int .u64 (x:Int)] w K:=by
 have e1:((x/2^16%16:Nat):Int)-1=hC x:=rfl
 have e2:((x/2^20%16:Nat):Int)-1=hO x:=rfl
 have e3:x%65536=gX x:=rfl
 have hg:gX x<65536:=by unfold gX;omega
 rw [rl_eq x hx] at hK
 have hr:∀(w2:World) (K:K1),callS Tryz.prog 44 #[.agg #[.int .i64 (hC x),.int .i64 (hO x),.int .u16 (gX x:Int)]] w2 K=K (.bool (rightB (hC x) (hO x) (gX x))) (w2.alloc (rhO (hC x) (hO x) (gX x))):=fun w2 K=>c_rRight _ _ _ w2 K
 have hf:rightB (hC x) (hO x) (gX x)=true→∀(w2:World) (K:K1),callS Tryz.prog 45 #[.agg #[.int .i64 (hC x),.int .i64 (hO x),.int .u16 (gX x:Int)]] w2 K=K (.int .u64 ((sealN (hdX (hC x) (hO x) (gX x)):Nat):Int)) (w2.alloc (rhO (hC x) (hO x) (gX x))):=fun h w2 K=>by
  refine c_rFirst _ _ _ w2 K hg ?_
  simp only [rightB,fmtB,Bool.and_eq_true,Bool.not_eq_true',decide_eq_false_iff_not,Bool.or_eq_true,decide_eq_true_eq] at h
  rcases h.2 with h|h
  ·exact .inl h
  ·exact .inr ⟨h.1.1.1,h.1.1.2,h.1.2,h.2⟩
 have b1: -1≤hC x∧hC x≤14:=by unfold hC;omega
 have b2: -1≤hO x∧hO x≤14:=by unfold hO;omega
 refine f12_call _ _ _ ?_
 unfold f12_t
 generalize hC x=cc at*
 generalize hO x=oo at*
 generalize gX x=gg at*
 cases hrb:rightB cc oo gg with
 |false=>
  rw [hrb] at hr hK
  rw [Bool.false_and] at hK
  (repeat' (first|(with_reducible refine brS_mk (fun _=> ?_) (fun _=> ?_))|(with_reducible refine And.intro ?_ ?_)|(simp (disch:=first|omega|simp only [RO]|(simp only [RZ]<;>omega)|(with_reducible (repeat (first|assumption|exact Ext.refl _|refine Ext.alloc ?_ _|refine Ext.drew ?_|refine Ext.trans ?_ (by assumption))))|fail) only [↓RBp,↓RA,↓reduceIte,Nat.reduceAdd,Nat.reduceMul,Nat.reduceEqDiff,RB,RX,RA2,e1,e2,e3,hr])))
  exact hK _ (by repeat (first|(with_reducible first|refine Sh.eB ?_ (by first|omega|(simp only [RZ]<;>omega)) _|assumption|exact Sh.eR _|refine Sh.eA ?_ _|refine Sh.eD ?_|refine Sh.eT ?_ (by assumption))|exact Sh.eR _))
 |true=>
  have hf:=hf hrb
  rw [hrb] at hr hK
  rw [Bool.true_and] at hK
  (repeat' (first|(with_reducible refine brS_mk (fun _=> ?_) (fun _=> ?_))|(with_reducible refine And.intro ?_ ?_)|(simp (disch:=first|omega|simp only [RO]|(simp only [RZ]<;>omega)|(with_reducible (repeat (first|assumption|exact Ext.refl _|refine Ext.alloc ?_ _|refine Ext.drew ?_|refine Ext.trans ?_ (by assumption))))|fail) only [↓RBp,↓RA,↓reduceIte,Nat.reduceAdd,Nat.reduceMul,Nat.reduceEqDiff,RB,RX,RA2,e1,e2,e3,hr,hf])))
  exact hK _ (by repeat (first|(with_reducible first|refine Sh.eB ?_ (by first|omega|(simp only [RZ]<;>omega)) _|assumption|exact Sh.eR _|refine Sh.eA ?_ _|refine Sh.eD ?_|refine Sh.eT ?_ (by assumption))|exact Sh.eR _))
end
end Go.Proofs.YtifpinhjpbgnoaaGreatDoor
namespace Go.Proofs.YtifpinhjpbgnoaaGreatDoor
open Go Go.Sh
set_option maxRecDepth 100000
set_option maxHeartbeats 4000000
set_option linter.unusedSimpArgs false
set_option linter.unusedVariables false
section
variable {w w':World} {Y:Lay} {D:DS} {l m:Nat} {v:Value}
theorem k_words22 (h:Dv w Y D) (g:Good D) (ho:D.off=false) (hl:l+32≤D.n) (K:K1) (hK:∀b o cap w',SlO w' 30 1 (wsV b o cap) 256 (wdL (wd D l) 256)→Ext w w'→w.heap.size≤b→K (wsV b o cap) w'):
  callS Tryz.prog 13 #[.pointer (some ⟨Y.tb 0,0,none⟩),.int .i64 (l:Int)] w K:=by
 have hn:=g.n
 have ld:∀(i:Nat) (w1:World) (K:K1),Ext w w1→i<256→callS Tryz.prog 46 #[.pointer (some ⟨Y.tb 0,0,none⟩),.int .u64 ((l*64+i*8:Nat):Int)] w1 K=K (.int .u64 (wd D l i:Int)) w1:=fun i w1 K e hi=>by
  rw [c_Load (h.ext e) g 0 (by omega) ho (l*64+i*8) (by omega) (by omega) K,show (l*64+i*8)/8=l*8+i by omega];unfold wd;rfl
 refine f13_call _ _ _ _ ?_
 unfold f13_t
 apply f13_l1_rule (I:=fun x z w'=>∃k:Nat,z= .int .i64 (k:Int)∧k≤256∧SlO w' 30 1 x k (wdL (wd D l) k)∧Frm Nob w w'∧NewV w.heap.size x) (μ:=fun _ z _=>256-(Go.RowKit.intOf z).toNat)
 ·exact ⟨0,rfl,by omega,SlO.nil _ _ _,Frm.refl _ _,fun b hb=>by cases hb⟩
 ·intros;rename_i x5 x7 w1 hI E1 hE
  obtain ⟨k,rfl,hk,hs,hf,hnw⟩:=hI
  have e1:Ext w w1:=hf.to_ext (fun _ _ h=>h)
  by_cases hk2:k<256
  ·have e8:(64*l+8*k)=l*64+k*8:=by omega
   have ldk:=fun (w1:World) (K:K1) (e:Ext w w1)=>ld k w1 K e hk2
   obtain ⟨pa,pc,rfl,hpc⟩:=hs.isS'
   generalize hx:wd D l k=x at*
   unfold f13_l1_t
   simp (disch:=first|omega|simp only [RO]|(simp only [RZ]<;>omega)|(with_reducible (repeat (first|assumption|exact Ext.refl _|refine Ext.alloc ?_ _|refine Ext.drew ?_|refine Ext.trans ?_ (by assumption))))|fail) only [↓RBp,↓RA,↓reduceIte,Nat.reduceAdd,Nat.reduceMul,Nat.reduceEqDiff,RB,RX,RA2,e8,ldk,Int.toNat_natCast]
   refine app_new elU64 (w0:=w) (hs.ext (by repeat (first|(with_reducible first|refine Sh.eB ?_ (by first|omega|(simp only [RZ]<;>omega)) _|assumption|exact Sh.eR _|refine Sh.eA ?_ _|refine Sh.eD ?_|refine Sh.eT ?_ (by assumption))|exact Sh.eR _))) (hf.ext (by repeat (first|(with_reducible first|refine Sh.eB ?_ (by first|omega|(simp only [RZ]<;>omega)) _|assumption|exact Sh.eR _|refine Sh.eA ?_ _|refine Sh.eD ?_|refine Sh.eT ?_ (by assumption))|exact Sh.eR _))) hnw (m:=1) (news:= [u64 x]) rfl ?_ rfl (by omega) (by omega) (by omega) (fun v' w4 hsp hf4 n4 hfr4 hb4=> ?_)
   ·intro j u hj
    obtain ⟨rfl,rfl⟩:=one_get hj
    simp (disch:=first|omega|simp only [RO]|(simp only [RZ]<;>omega)|fail) only [↓RBp,↓RA,↓reduceIte,Nat.reduceAdd,Nat.reduceMul,Nat.reduceEqDiff,RB,RX,RA2]
   simp (disch:=first|omega|simp only [RO]|(simp only [RZ]<;>omega)|fail) only [↓RBp,↓RA,↓reduceIte,Nat.reduceAdd,Nat.reduceMul,Nat.reduceEqDiff,RB,RX,RA2]
   apply hE
   ·exact ⟨k+1,by simp,by omega,by rw [wdL_snoc,hx];exact hsp,hf4,n4⟩
   ·simp [Go.RowKit.intOf];omega
  ·have:k=256:=by omega
   subst this
   obtain ⟨b,ob,cap,rfl,_⟩:=hs.isS (by omega)
   unfold f13_l1_t
   simp (disch:=first|omega|simp only [RO]|(simp only [RZ]<;>omega)|fail) only [↓RBp,↓RA,↓reduceIte,Nat.reduceAdd,Nat.reduceMul,Nat.reduceEqDiff,RB,RX,RA2,f13_k1_eq,f13_k1_t]
   exact hK _ _ _ _ hs e1 (hnw b rfl)
theorem k_same22 (W:Nat→Nat) (b o cap b' o' cap':Nat) (h:Wm w b o W) (h':Wm w b' o' W) (hW:∀j,j<256→W j<18446744073709551616) (K:K1) (hK:∀w',Ext w w'→K (.bool true) w'):
  callS Tryz.prog 18 #[wsV b o cap,wsV b' o' cap'] w K:=by
 refine f18_call _ _ _ _ ?_
 unfold f18_t
 simp (disch:=first|omega|simp only [RO]|(simp only [RZ]<;>omega)|fail) only [↓RBp,↓RA,↓reduceIte,Nat.reduceAdd,Nat.reduceMul,Nat.reduceEqDiff,RB,RX,RA2]
 apply f18_l1_rule (I:=fun z w'=>∃k:Nat,z= .int .i64 (k:Int)∧k≤256∧Ext w w') (μ:=fun z _=>256-(Go.RowKit.intOf z).toNat)
 ·exact ⟨0,rfl,by omega,Ext.refl _⟩
 ·intros;rename_i x13 w1 hI E1 hE
  obtain ⟨k,rfl,hk,e1⟩:=hI
  by_cases hk2:k<256
  ·have c1:=e1.cell_some (h.cell hk2)
   have c2:=e1.cell_some (h'.cell hk2)
   have hx:=hW k hk2
   generalize W k=x at c1 c2 hx
   unfold f18_l1_t
   simp (disch:=first|omega|simp only [RO]|(simp only [RZ]<;>omega)|fail) only [↓RBp,↓RA,↓reduceIte,Nat.reduceAdd,Nat.reduceMul,Nat.reduceEqDiff,RB,RX,RA2,c1,c2]
   apply hE
   ·exact ⟨k+1,by simp,by omega,(by repeat (first|(with_reducible first|refine Sh.eB ?_ (by first|omega|(simp only [RZ]<;>omega)) _|assumption|exact Sh.eR _|refine Sh.eA ?_ _|refine Sh.eD ?_|refine Sh.eT ?_ (by assumption))|exact Sh.eR _))⟩
   ·simp [Go.RowKit.intOf];omega
  ·unfold f18_l1_t
   simp (disch:=first|omega|simp only [RO]|(simp only [RZ]<;>omega)|fail) only [↓RBp,↓RA,↓reduceIte,Nat.reduceAdd,Nat.reduceMul,Nat.reduceEqDiff,RB,RX,RA2,f18_k1_eq,f18_k1_t]
   exact hK _ e1
end
end Go.Proofs.YtifpinhjpbgnoaaGreatDoor
namespace Go.Proofs.YtifpinhjpbgnoaaGreatDoor
open Go Go.Sh
set_option maxRecDepth 100000
set_option linter.unusedVariables false
noncomputable def f16_u:Code×Dec:=((Tryz.f16.body).getD .skip,(.s .o (.s .o (.x 8 (.s .o (.b (.l [3,4] 1 2097144 .o))) .o))))
abbrev f16_e (K:K1):KF:=endK Tryz.prog Tryz.f16.results.toList K
def f16_k1_o (K:K1):KF:=fun fr w=>∀σ,cP (pr (pr (pr f16_u))) (f16_e K) (f16_e K) nX (mixF 8 σ 0 fr) w
def f16_k1 (K:K1) (x3:Value) (w:World):Prop:=f16_k1_o K (fz 22 0 [(3,x3)]) w
def f16_l1 (K:K1) (x0 x3 x4:Value) (w:World):Prop:=loopT [3,4] 1 (fun E=>cP (pl (pl (pr (pl (pr (pr f16_u)))))) E (f16_e K) (exB 0 (f16_k1_o K) nX)) (fz 22 0 [(0,x0),(3,x3),(4,x4)]) w
def f16_k1_t (x3:Value) (K:K1) (w:World):Prop:=
 K x3 w
theorem f16_k1_eq (K:K1) (x3:Value) (w:World):f16_k1 K x3 w=f16_k1_t x3 K w:=cutE fun σ=>by kernel_rfl
def f16_l1_t (x0 x3 x4:Value) (K:K1) (E1:VP2) (w:World):Prop:=
 ev Tryz.prog (binM .lss 3 (.tmp 6) (.tmp 7) x4 x0) w fun t8 w_1=>
 cndS t8 (
 ev Tryz.prog (Instr.makeSlice 39 (.int .i64 256) (.int .i64 256)) w_1 fun t11 w_2=>
 ev Tryz.prog (Instr.build 36 #[(0,(.int .i64 (-1))),(1,(.int .i64 (-1))),(2,(.int .u16 ((1:Nat):Int)))]) w_2 fun t13 w_3=>
 callS Tryz.prog 45 (pA #[t13]) w_3 fun t14 w_4=>
 ev Tryz.prog (Instr.indexAt 39 t11 (.int .i64 0)) w_4 fun t15 w_5=>
 stS Tryz.prog 30 t15 t14 w_5 fun w_6=>
 ev Tryz.prog (Instr.build 42 #[(0,t11),(1,(.bool false))]) w_6 fun t18 w_7=>
 ev Tryz.prog (Instr.buildSlice 29 1 #[(0,t18)]) w_7 fun t19 w_8=>
 bltS Tryz.prog .append #[29,29] 29 #[false,false] (pA #[x3,t19]) w_8 fun t20 w_9=>
 ev Tryz.prog (binM .add 3 (.tmp 9) (.const (.int .i64 1)) x4 (.int .i64 1)) w_9 fun t10 w_10=>
 E1 t20 t10 w_10) (
 f16_k1 K x3 w_1)
theorem f16_l1_rule (x0 x3 x4:Value) (K:K1) (w:World) (I:VP2) (μ:Value→Value→World→Nat) (h0:I x3 x4 w)
  (hr:∀(x3 x4:Value) (w:World),I x3 x4 w→∀E1:VP2,(∀(y3 y4:Value) (w':World),I y3 y4 w'→μ y3 y4 w'<μ x3 x4 w→E1 y3 y4 w')→f16_l1_t x0 x3 x4 K E1 w):f16_l1 K x0 x3 x4 w:=
 ⟨I,μ,h0,fun σ w hI E hE=>cast (by kernel_rfl) (hr (σ 3) (σ 4) w hI E hE)⟩
def f16_t (x0:Value) (K:K1) (w:World):Prop:=
 f16_l1 K x0 (.slice none 0 0) (.int .i64 0) w
theorem f16_call (x0:Value) (K:K1) (w:World) (h:f16_t x0 K w):callS Tryz.prog 16 #[x0] w K:=
 call_of_txt (args:= [x0]) mixed Tryz.func16 f16_u.2 (by kernel_rfl) (cast (by kernel_rfl) h)
def f49_t (x0:Value) (K:K1) (w:World):Prop:=
 ev Tryz.prog (Instr.box 42 x0) w fun t1 w_1=>
 ev Tryz.prog (Instr.alloc 36 true (.tuple #[])) w_1 fun t2 w_2=>
 ev Tryz.prog (Instr.fieldAt 42 t1 0) w_2 fun t6 w_3=>
 ldS Tryz.prog 39 t6 w_3 fun t7 w_4=>
 ev Tryz.prog (Instr.indexAt 39 t7 (.int .i64 0)) w_4 fun t8 w_5=>
 ldS Tryz.prog 30 t8 w_5 fun t9 w_6=>
 callS Tryz.prog 12 (pA #[t9]) w_6 fun t10 w_7=>
 ev Tryz.prog (Instr.extract t10 0) w_7 fun t11 w_8=>
 ev Tryz.prog (Instr.extract t10 1) w_8 fun t12 w_9=>
 ev Tryz.prog (Instr.alloc 36 true (.tuple #[])) w_9 fun t3 w_10=>
 stS Tryz.prog 36 t3 t11 w_10 fun w_11=>
 ldS Tryz.prog 36 t3 w_11 fun t13 w_12=>
 stS Tryz.prog 36 t2 t13 w_12 fun w_13=>
 ldR Tryz.prog 36 t2 w_13 fun r=>
 K r w_13
theorem f49_call (x0:Value) (K:K1) (w:World) (h:f49_t x0 K w):callS Tryz.prog 49 #[x0] w K:=
 call_of_txt (args:= [x0]) mixed Tryz.func49 .o (by kernel_rfl) (cast (by kernel_rfl) h)
def f51_t (x0 x1:Value) (K:K1) (w:World):Prop:=
 ev Tryz.prog (binM .lss 3 (.tmp 9) (.const (.int .i64 0)) x1 (.int .i64 0)) w fun t10 w_1=>
 gd t10 false (fun k=>k x1 w_1) w_1 fun t12 w_2=>
 gd t10 false (fun k=>k x0 w_2) w_2 fun t13 w_3=>
 gd t10 false (fun k=>bltS Tryz.prog .len #[29] 3 #[false] #[t13] w_3 k) w_3 fun t14 w_4=>
 gd t10 false (fun k=>ev Tryz.prog (binM .geq 3 (.tmp 12) (.tmp 14) t12 t14) w_4 k) w_4 fun t15 w_5=>
 pickS t10 (.bool true) t15 w_5 fun t16 w_6=>
 cndS t16 (
 K (.tuple #[x0,(.int .i64 5)]) w_6) (
 ev Tryz.prog (Instr.indexAt 29 x0 x1) w_6 fun t21 w_7=>
 ldS Tryz.prog 42 t21 w_7 fun t22 w_8=>
 callS Tryz.prog 88 (pA #[t22]) w_8 fun t23 w_9=>
 ev Tryz.prog (Instr.extract t23 0) w_9 fun t24 w_10=>
 ev Tryz.prog (Instr.extract t23 1) w_10 fun t25 w_11=>
 ev Tryz.prog (Op.unary .not t25) w_11 fun t27 w_12=>
 cndS t27 (
 K (.tuple #[x0,(.int .i64 8)]) w_12) (
 bltS Tryz.prog .append #[29,29] 29 #[false,false] (pA #[(.slice none 0 0),x0]) w_12 fun t31 w_13=>
 ev Tryz.prog (Instr.indexAt 29 x0 x1) w_13 fun t36 w_14=>
 ldS Tryz.prog 42 t36 w_14 fun t37 w_15=>
 callS Tryz.prog 89 (pA #[t37,t24]) w_15 fun t39 w_16=>
 ev Tryz.prog (Instr.indexAt 29 t31 x1) w_16 fun t40 w_17=>
 stS Tryz.prog 42 t40 t39 w_17 fun w_18=>
 K (.tuple #[t31,(.int .i64 0)]) w_18))
theorem f51_call (x0 x1:Value) (K:K1) (w:World) (h:f51_t x0 x1 K w):callS Tryz.prog 51 #[x0,x1] w K:=
 call_of_txt (args:= [x0,x1]) mixed Tryz.func51 .o (by kernel_rfl) (cast (by kernel_rfl) h)
def f52_t (x0 x1 x2:Value) (K:K1) (w:World):Prop:=
 ev Tryz.prog (binM .lss 3 (.tmp 9) (.const (.int .i64 0)) x1 (.int .i64 0)) w fun t10 w_1=>
 gd t10 false (fun k=>k x1 w_1) w_1 fun t12 w_2=>
 gd t10 false (fun k=>k x0 w_2) w_2 fun t13 w_3=>
 gd t10 false (fun k=>bltS Tryz.prog .len #[29] 3 #[false] #[t13] w_3 k) w_3 fun t14 w_4=>
 gd t10 false (fun k=>ev Tryz.prog (binM .geq 3 (.tmp 12) (.tmp 14) t12 t14) w_4 k) w_4 fun t15 w_5=>
 pickS t10 (.bool true) t15 w_5 fun t16 w_6=>
 cndS t16 (
 K (.tuple #[x0,(.int .i64 5)]) w_6) (
 ev Tryz.prog (Instr.indexAt 29 x0 x1) w_6 fun t20 w_7=>
 ldS Tryz.prog 42 t20 w_7 fun t21 w_8=>
 callS Tryz.prog 49 (pA #[t21]) w_8 fun t22 w_9=>
 ev Tryz.prog (Instr.field 36 t22 0) w_9 fun t23 w_10=>
 ev Tryz.prog (binM .lss 3 (.tmp 23) (.const (.int .i64 0)) t23 (.int .i64 0)) w_10 fun t24 w_11=>
 cndS t24 (
 K (.tuple #[x0,(.int .i64 8)]) w_11) (
 bltS Tryz.prog .append #[29,29] 29 #[false,false] (pA #[(.slice none 0 0),x0]) w_11 fun t28 w_12=>
 ev Tryz.prog (Instr.indexAt 29 t28 x1) w_12 fun t32 w_13=>
 ev Tryz.prog (Instr.fieldAt 42 t32 1) w_13 fun t33 w_14=>
 stS Tryz.prog 4 t33 x2 w_14 fun w_15=>
 K (.tuple #[t28,(.int .i64 0)]) w_15))
theorem f52_call (x0 x1 x2:Value) (K:K1) (w:World) (h:f52_t x0 x1 x2 K w):callS Tryz.prog 52 #[x0,x1,x2] w K:=
 call_of_txt (args:= [x0,x1,x2]) mixed Tryz.func52 .o (by kernel_rfl) (cast (by kernel_rfl) h)
noncomputable def f56_u:Code×Dec:=((Tryz.f56.body).getD .skip,(.s .o (.s .o (.s .o (.x 519 (.s .o (.b (.l [9,10] 7 140703128618496 (.s .o (.x 1543 .o .o))))) (.s .o (.x 2567 .o (.x 2567 (.s .o (.b (.l [9,12] 2055 75557575495538171736576 (.s .o (.x 6663 .o .o))))) (.s .o (.s .o (.x 35335 .o .o)))))))))))
abbrev f56_e (K:K1):KF:=endK Tryz.prog Tryz.f56.results.toList K
def f56_k1_o (K:K1):KF:=fun fr w=>∀σ,cP (pr (pr (pr (pr f56_u)))) (f56_e K) (f56_e K) nX (mixF 519 σ 0 fr) w
def f56_k1 (K:K1) (x0 x1 x2 x9:Value) (w:World):Prop:=f56_k1_o K (fz 110 0 [(0,x0),(1,x1),(2,x2),(9,x9)]) w
def f56_l1 (K:K1) (x0 x1 x2 x9 x10:Value) (w:World):Prop:=loopT [9,10] 7 (fun E=>cP (pl (pl (pr (pl (pr (pr (pr f56_u))))))) E (f56_e K) (exB 0 (f56_k1_o K) nX)) (fz 110 0 [(0,x0),(1,x1),(2,x2),(9,x9),(10,x10)]) w
def f56_k2_o (K:K1):KF:=fun fr w=>∀σ,cP (pr (pr (pr (pr (pr (pr f56_u)))))) (f56_e K) (f56_e K) nX (mixF 2567 σ 0 fr) w
def f56_k2 (K:K1) (x0 x1 x2 x9 x11:Value) (w:World):Prop:=f56_k2_o K (fz 110 0 [(0,x0),(1,x1),(2,x2),(9,x9),(11,x11)]) w
def f56_k3_o (K:K1) (E1:VP2):KF:=fun fr w=>∀σ,cP (pr (pr (pl (pl (pr (pl (pr (pr (pr f56_u))))))))) (fun fr w=>E1 (sv fr 9) (sv fr 10) w) (f56_e K) (exB 0 (f56_k1_o K) nX) (mixF 1543 σ 0 fr) w
def f56_k3 (K:K1) (E1:VP2) (x0 x1 x2 x9 x10:Value) (w:World):Prop:=f56_k3_o K E1 (fz 110 0 [(0,x0),(1,x1),(2,x2),(9,x9),(10,x10)]) w
def f56_k4_o (K:K1):KF:=fun fr w=>∀σ,cP (pr (pr (pr (pr (pr (pr (pr f56_u))))))) (f56_e K) (f56_e K) nX (mixF 2567 σ 0 fr) w
def f56_k4 (K:K1) (x0 x1 x2 x9 x11:Value) (w:World):Prop:=f56_k4_o K (fz 110 0 [(0,x0),(1,x1),(2,x2),(9,x9),(11,x11)]) w
def f56_l2 (K:K1) (x0 x1 x2 x9 x11 x12:Value) (w:World):Prop:=loopT [9,12] 2055 (fun E=>cP (pl (pl (pr (pl (pr (pr (pr (pr (pr (pr f56_u)))))))))) E (f56_e K) (exB 2 (f56_k4_o K) nX)) (fz 110 0 [(0,x0),(1,x1),(2,x2),(9,x9),(11,x11),(12,x12)]) w
def f56_k5_o (K:K1):KF:=fun fr w=>∀σ,cP (pr (pr (pr (pr (pr (pr (pr (pr (pr (pr f56_u)))))))))) (f56_e K) (f56_e K) nX (mixF 35335 σ 0 fr) w
def f56_k5 (K:K1) (x0 x1 x2 x9 x11 x15:Value) (w:World):Prop:=f56_k5_o K (fz 110 0 [(0,x0),(1,x1),(2,x2),(9,x9),(11,x11),(15,x15)]) w
def f56_k6_o (K:K1) (E1:VP2):KF:=fun fr w=>∀σ,cP (pr (pr (pl (pl (pr (pl (pr (pr (pr (pr (pr (pr f56_u)))))))))))) (fun fr w=>E1 (sv fr 9) (sv fr 12) w) (f56_e K) (exB 2 (f56_k4_o K) nX) (mixF 6663 σ 0 fr) w
def f56_k6 (K:K1) (E1:VP2) (x0 x1 x2 x9 x11 x12:Value) (w:World):Prop:=f56_k6_o K E1 (fz 110 0 [(0,x0),(1,x1),(2,x2),(9,x9),(11,x11),(12,x12)]) w
def f56_k1_t (x0 x1 x2 x9:Value) (K:K1) (w:World):Prop:=
 ev Tryz.prog (binM .geq 3 (.tmp 47) (.const (.int .i64 0)) x9 (.int .i64 0)) w fun t48 w_1=>
 cndS t48 (
 ev Tryz.prog (Instr.indexAt 29 x0 x9) w_1 fun t51 w_2=>
 ldS Tryz.prog 42 t51 w_2 fun t52 w_3=>
 callS Tryz.prog 49 (pA #[t52]) w_3 fun t53 w_4=>
 ev Tryz.prog (Instr.field 36 t53 2) w_4 fun t54 w_5=>
 f56_k2 K x0 x1 x2 x9 t54 w_5) (
 f56_k2 K x0 x1 x2 x9 (.int .u16 ((0:Nat):Int)) w_1)
theorem f56_k1_eq (K:K1) (x0 x1 x2 x9:Value) (w:World):f56_k1 K x0 x1 x2 x9 w=f56_k1_t x0 x1 x2 x9 K w:=cutE fun σ=>by kernel_rfl
def f56_l1_t (x0 x1 x2 x9 x10:Value) (K:K1) (E1:VP2) (w:World):Prop:=
 ev Tryz.prog (binM .geq 3 (.tmp 35) (.const (.int .i64 0)) x10 (.int .i64 0)) w fun t36 w_1=>
 cndS t36 (
 ev Tryz.prog (Instr.indexAt 29 x0 x10) w_1 fun t41 w_2=>
 ldS Tryz.prog 42 t41 w_2 fun t42 w_3=>
 callS Tryz.prog 49 (pA #[t42]) w_3 fun t43 w_4=>
 ev Tryz.prog (Instr.field 36 t43 0) w_4 fun t44 w_5=>
 ev Tryz.prog (binM .lss 3 (.tmp 44) (.const (.int .i64 0)) t44 (.int .i64 0)) w_5 fun t45 w_6=>
 cndS t45 (
 f56_k3 K E1 x0 x1 x2 x10 x10 w_6) (
 f56_k3 K E1 x0 x1 x2 x9 x10 w_6)) (
 f56_k1 K x0 x1 x2 x9 w_1)
theorem f56_l1_rule (x0 x1 x2 x9 x10:Value) (K:K1) (w:World) (I:VP2) (μ:Value→Value→World→Nat) (h0:I x9 x10 w)
  (hr:∀(x9 x10:Value) (w:World),I x9 x10 w→∀E1:VP2,(∀(y9 y10:Value) (w':World),I y9 y10 w'→μ y9 y10 w'<μ x9 x10 w→E1 y9 y10 w')→f56_l1_t x0 x1 x2 x9 x10 K E1 w):f56_l1 K x0 x1 x2 x9 x10 w:=
 ⟨I,μ,h0,fun σ w hI E hE=>cast (by kernel_rfl) (hr (σ 9) (σ 10) w hI E hE)⟩
def f56_k2_t (x0 x1 x2 x9 x11:Value) (K:K1) (w:World):Prop:=
 bltS Tryz.prog .len #[29] 3 #[false] #[x0] w fun t56 w_1=>
 ev Tryz.prog (binM .sub 3 (.tmp 56) (.const (.int .i64 1)) t56 (.int .i64 1)) w_1 fun t57 w_2=>
 f56_l2 K x0 x1 x2 x9 x11 t57 w_2
theorem f56_k2_eq (K:K1) (x0 x1 x2 x9 x11:Value) (w:World):f56_k2 K x0 x1 x2 x9 x11 w=f56_k2_t x0 x1 x2 x9 x11 K w:=cutE fun σ=>by kernel_rfl
def f56_k3_t (x0 x1 x2 x9 x10:Value) (K:K1) (E1:VP2) (w:World):Prop:=
 ev Tryz.prog (binM .sub 3 (.tmp 37) (.const (.int .i64 1)) x10 (.int .i64 1)) w fun t38 w_1=>
 E1 x9 t38 w_1
theorem f56_k3_eq (K:K1) (E1:VP2) (x0 x1 x2 x9 x10:Value) (w:World):f56_k3 K E1 x0 x1 x2 x9 x10 w=f56_k3_t x0 x1 x2 x9 x10 K E1 w:=cutE fun σ=>by kernel_rfl
def f56_k4_t (x0 x1 x2 x9 x11:Value) (K:K1) (w:World):Prop:=
 ev Tryz.prog (binM .lss 3 (.tmp 76) (.const (.int .i64 0)) x9 (.int .i64 0)) w fun t77 w_1=>
 cndS t77 (
 K (.tuple #[x0,(.int .i64 0),(.int .i64 4)]) w_1) (
 ev Tryz.prog (Instr.indexAt 29 x0 x9) w_1 fun t81 w_2=>
 ldS Tryz.prog 42 t81 w_2 fun t82 w_3=>
 ev Tryz.prog (Instr.alloc 42 true (.tuple #[])) w_3 fun t15 w_4=>
 stS Tryz.prog 42 t15 t82 w_4 fun w_5=>
 ev Tryz.prog (binM .eql 34 (.tmp 83) (.const (.int .u16 ((0:Nat):Int))) x11 (.int .u16 ((0:Nat):Int))) w_5 fun t84 w_6=>
 cndS t84 (
 ldS Tryz.prog 42 t15 w_6 fun t86 w_7=>
 callS Tryz.prog 88 (pA #[t86]) w_7 fun t87 w_8=>
 ev Tryz.prog (Instr.extract t87 0) w_8 fun t88 w_9=>
 ev Tryz.prog (Instr.extract t87 1) w_9 fun t89 w_10=>
 ldS Tryz.prog 42 t15 w_10 fun t90 w_11=>
 callS Tryz.prog 89 (pA #[t90,t88]) w_11 fun t92 w_12=>
 stS Tryz.prog 42 t15 t92 w_12 fun w_13=>
 f56_k5 K x0 x1 x2 x9 t88 t15 w_13) (
 f56_k5 K x0 x1 x2 x9 x11 t15 w_6))
theorem f56_k4_eq (K:K1) (x0 x1 x2 x9 x11:Value) (w:World):f56_k4 K x0 x1 x2 x9 x11 w=f56_k4_t x0 x1 x2 x9 x11 K w:=cutE fun σ=>by kernel_rfl
def f56_l2_t (x0 x1 x2 x9 x11 x12:Value) (K:K1) (E1:VP2) (w:World):Prop:=
 ev Tryz.prog (binM .geq 3 (.tmp 58) (.const (.int .i64 0)) x12 (.int .i64 0)) w fun t59 w_1=>
 gd t59 true (fun k=>k x11 w_1) w_1 fun t61 w_2=>
 gd t59 true (fun k=>ev Tryz.prog (binM .eql 34 (.tmp 61) (.const (.int .u16 ((0:Nat):Int))) t61 (.int .u16 ((0:Nat):Int))) w_2 k) w_2 fun t62 w_3=>
 pickS t59 t62 (.bool false) w_3 fun t63 w_4=>
 cndS t63 (
 ev Tryz.prog (Instr.indexAt 29 x0 x12) w_4 fun t69 w_5=>
 ldS Tryz.prog 42 t69 w_5 fun t70 w_6=>
 callS Tryz.prog 88 (pA #[t70]) w_6 fun t71 w_7=>
 ev Tryz.prog (Instr.extract t71 0) w_7 fun t72 w_8=>
 ev Tryz.prog (Instr.extract t71 1) w_8 fun t73 w_9=>
 cndS t73 (
 f56_k6 K E1 x0 x1 x2 x12 x11 x12 w_9) (
 f56_k6 K E1 x0 x1 x2 x9 x11 x12 w_9)) (
 f56_k4 K x0 x1 x2 x9 x11 w_4)
theorem f56_l2_rule (x0 x1 x2 x9 x11 x12:Value) (K:K1) (w:World) (I:VP2) (μ:Value→Value→World→Nat) (h0:I x9 x12 w)
  (hr:∀(x9 x12:Value) (w:World),I x9 x12 w→∀E1:VP2,(∀(y9 y12:Value) (w':World),I y9 y12 w'→μ y9 y12 w'<μ x9 x12 w→E1 y9 y12 w')→f56_l2_t x0 x1 x2 x9 x11 x12 K E1 w):f56_l2 K x0 x1 x2 x9 x11 x12 w:=
 ⟨I,μ,h0,fun σ w hI E hE=>cast (by kernel_rfl) (hr (σ 9) (σ 12) w hI E hE)⟩
def f56_k5_t (x0 x1 x2 x9 x11 x15:Value) (K:K1) (w:World):Prop:=
 ev Tryz.prog (Instr.fieldAt 42 x15 0) w fun t93 w_1=>
 ldS Tryz.prog 39 t93 w_1 fun t94 w_2=>
 ev Tryz.prog (Instr.build 36 #[(0,x2),(1,x1),(2,x11)]) w_2 fun t98 w_3=>
 callS Tryz.prog 91 (pA #[t94,t98]) w_3 fun t99 w_4=>
 ev Tryz.prog (Instr.fieldAt 42 x15 0) w_4 fun t100 w_5=>
 stS Tryz.prog 39 t100 t99 w_5 fun w_6=>
 bltS Tryz.prog .append #[29,29] 29 #[false,false] (pA #[(.slice none 0 0),x0]) w_6 fun t103 w_7=>
 ldS Tryz.prog 42 x15 w_7 fun t106 w_8=>
 ev Tryz.prog (Instr.indexAt 29 t103 x9) w_8 fun t107 w_9=>
 stS Tryz.prog 42 t107 t106 w_9 fun w_10=>
 K (.tuple #[t103,x9,(.int .i64 0)]) w_10
theorem f56_k5_eq (K:K1) (x0 x1 x2 x9 x11 x15:Value) (w:World):f56_k5 K x0 x1 x2 x9 x11 x15 w=f56_k5_t x0 x1 x2 x9 x11 x15 K w:=cutE fun σ=>by kernel_rfl
def f56_k6_t (x0 x1 x2 x9 x11 x12:Value) (K:K1) (E1:VP2) (w:World):Prop:=
 ev Tryz.prog (binM .sub 3 (.tmp 64) (.const (.int .i64 1)) x12 (.int .i64 1)) w fun t65 w_1=>
 E1 x9 t65 w_1
theorem f56_k6_eq (K:K1) (E1:VP2) (x0 x1 x2 x9 x11 x12:Value) (w:World):f56_k6 K E1 x0 x1 x2 x9 x11 x12 w=f56_k6_t x0 x1 x2 x9 x11 x12 K E1 w:=cutE fun σ=>by kernel_rfl
def f56_t (x0 x1 x2:Value) (K:K1) (w:World):Prop:=
 ev Tryz.prog (binM .lss 3 (.tmp 17) (.const (.int .i64 0)) x1 (.int .i64 0)) w fun t18 w_1=>
 gd t18 false (fun k=>k x1 w_1) w_1 fun t20 w_2=>
 gd t18 false (fun k=>ev Tryz.prog (binM .gtr 3 (.tmp 20) (.const (.int .i64 7)) t20 (.int .i64 7)) w_2 k) w_2 fun t21 w_3=>
 pickS t18 (.bool true) t21 w_3 fun t22 w_4=>
 gd t22 false (fun k=>k x2 w_4) w_4 fun t24 w_5=>
 gd t22 false (fun k=>ev Tryz.prog (binM .lss 3 (.tmp 24) (.const (.int .i64 0)) t24 (.int .i64 0)) w_5 k) w_5 fun t25 w_6=>
 pickS t22 (.bool true) t25 w_6 fun t26 w_7=>
 gd t26 false (fun k=>k x2 w_7) w_7 fun t28 w_8=>
 gd t26 false (fun k=>ev Tryz.prog (binM .gtr 3 (.tmp 28) (.const (.int .i64 4)) t28 (.int .i64 4)) w_8 k) w_8 fun t29 w_9=>
 pickS t26 (.bool true) t29 w_9 fun t30 w_10=>
 cndS t30 (
 K (.tuple #[x0,(.int .i64 0),(.int .i64 1)]) w_10) (
 bltS Tryz.prog .len #[29] 3 #[false] #[x0] w_10 fun t33 w_11=>
 ev Tryz.prog (binM .sub 3 (.tmp 33) (.const (.int .i64 1)) t33 (.int .i64 1)) w_11 fun t34 w_12=>
 f56_l1 K x0 x1 x2 (.int .i64 (-1)) t34 w_12)
theorem f56_call (x0 x1 x2:Value) (K:K1) (w:World) (h:f56_t x0 x1 x2 K w):callS Tryz.prog 56 #[x0,x1,x2] w K:=
 call_of_txt (args:= [x0,x1,x2]) mixed Tryz.func56 f56_u.2 (by kernel_rfl) (cast (by kernel_rfl) h)
def f88_t (x0:Value) (K:K1) (w:World):Prop:=
 ev Tryz.prog (Instr.box 42 x0) w fun t1 w_1=>
 ldS Tryz.prog 42 t1 w_1 fun t5 w_2=>
 callS Tryz.prog 49 (pA #[t5]) w_2 fun t6 w_3=>
 ev Tryz.prog (Instr.alloc 36 true (.tuple #[])) w_3 fun t4 w_4=>
 stS Tryz.prog 36 t4 t6 w_4 fun w_5=>
 ev Tryz.prog (Instr.fieldAt 36 t4 0) w_5 fun t7 w_6=>
 ldS Tryz.prog 3 t7 w_6 fun t8 w_7=>
 ev Tryz.prog (binM .lss 3 (.tmp 8) (.const (.int .i64 0)) t8 (.int .i64 0)) w_7 fun t9 w_8=>
 gd t9 false (fun k=>ev Tryz.prog (Instr.fieldAt 42 t1 1) w_8 k) w_8 fun t11 w_9=>
 gd t9 false (fun k=>ldS Tryz.prog 4 t11 w_9 k) w_9 fun t12 w_10=>
 pickS t9 (.bool true) t12 w_10 fun t13 w_11=>
 cndS t13 (
 K (.tuple #[(.int .u16 ((0:Nat):Int)),(.bool false)]) w_11) (
 ev Tryz.prog (Instr.fieldAt 42 t1 0) w_11 fun t14 w_12=>
 ldS Tryz.prog 39 t14 w_12 fun t15 w_13=>
 ev Tryz.prog (Instr.fieldAt 36 t4 0) w_13 fun t16 w_14=>
 ldS Tryz.prog 3 t16 w_14 fun t17 w_15=>
 callS Tryz.prog 113 (pA #[t15,t17]) w_15 fun t18 w_16=>
 ev Tryz.prog (Instr.extract t18 0) w_16 fun t19 w_17=>
 ev Tryz.prog (Instr.extract t18 1) w_17 fun t20 w_18=>
 K (.tuple #[t19,t20]) w_18)
theorem f88_call (x0:Value) (K:K1) (w:World) (h:f88_t x0 K w):callS Tryz.prog 88 #[x0] w K:=
 call_of_txt (args:= [x0]) mixed Tryz.func88 .o (by kernel_rfl) (cast (by kernel_rfl) h)
def f89_t (x0 x1:Value) (K:K1) (w:World):Prop:=
 ev Tryz.prog (Instr.box 42 x0) w fun t2 w_1=>
 ev Tryz.prog (Instr.alloc 42 true (.tuple #[])) w_1 fun t4 w_2=>
 ev Tryz.prog (Instr.fieldAt 42 t2 0) w_2 fun t7 w_3=>
 ldS Tryz.prog 39 t7 w_3 fun t8 w_4=>
 bltS Tryz.prog .append #[39,39] 39 #[false,false] (pA #[(.slice none 0 0),t8]) w_4 fun t9 w_5=>
 ev Tryz.prog (Instr.build 36 #[(0,(.int .i64 (-1))),(1,(.int .i64 (-1))),(2,x1)]) w_5 fun t12 w_6=>
 callS Tryz.prog 45 (pA #[t12]) w_6 fun t13 w_7=>
 ev Tryz.prog (Instr.indexAt 39 t9 (.int .i64 0)) w_7 fun t14 w_8=>
 stS Tryz.prog 30 t14 t13 w_8 fun w_9=>
 ev Tryz.prog (Instr.build 42 #[(0,t9),(1,(.bool false))]) w_9 fun t16 w_10=>
 stS Tryz.prog 42 t4 t16 w_10 fun w_11=>
 ldR Tryz.prog 42 t4 w_11 fun r=>
 K r w_11
theorem f89_call (x0 x1:Value) (K:K1) (w:World) (h:f89_t x0 x1 K w):callS Tryz.prog 89 #[x0,x1] w K:=
 call_of_txt (args:= [x0,x1]) mixed Tryz.func89 .o (by kernel_rfl) (cast (by kernel_rfl) h)
end Go.Proofs.YtifpinhjpbgnoaaGreatDoor
namespace Go.Proofs.YtifpinhjpbgnoaaGreatDoor
open Go Go.Sh
set_option maxRecDepth 100000
set_option maxHeartbeats 4000000
set_option linter.unusedSimpArgs false
set_option linter.unusedVariables false
def mdL (sl:Nat→Value) (hd:Nat→Bool):Nat→List Value
 |0=> []
 |n+1=>mdL sl hd n++ [sl n,.bool (hd n)]
theorem mdL_len (sl:Nat→Value) (hd:Nat→Bool):∀n,(mdL sl hd n).length=n*2
 |0=>rfl
 |n+1=>by simp [mdL,mdL_len sl hd n];omega
theorem mdL_get (sl:Nat→Value) (hd:Nat→Bool):∀n k,k<n→(mdL sl hd n)[k*2]? =some (sl k)∧(mdL sl hd n)[k*2+1]? =some (.bool (hd k))
 |0,k,h=>absurd h (Nat.not_lt_zero _)
 |n+1,k,h=>by
  have hl:=mdL_len sl hd n
  unfold mdL
  by_cases e:k=n
  ·subst e
   refine ⟨?_,?_⟩<;>rw [List.getElem?_append_right (by omega)]<;>simp [hl]
  ·have:=mdL_get sl hd n k (by omega)
   refine ⟨?_,?_⟩<;>rw [List.getElem?_append_left (by omega)]
   ·exact this.1
   ·exact this.2
theorem mdL_congr {s s':Nat→Value} {h h':Nat→Bool}:∀{n},(∀k,k<n→s k=s' k∧h k=h' k)→mdL s h n=mdL s' h' n
 |0,_=>rfl
 |n+1,e=>by unfold mdL;rw [mdL_congr (fun k hk=>e k (by omega)),(e n (by omega)).1,(e n (by omega)).2]
theorem mdL_set (sl:Nat→Value) (hd:Nat→Bool):∀n k,k<n→(∀c,(mdL sl hd n).set (k*2) c=mdL (upF sl k c) hd n)∧(∀c,(mdL sl hd n).set (k*2+1) (.bool c)=mdL sl (upF hd k c) n)
 |0,k,h=>absurd h (Nat.not_lt_zero _)
 |n+1,k,h=>by
  have hl:=mdL_len sl hd n
  unfold mdL
  by_cases e:k=n
  ·subst e
   have hc:∀v,mdL (upF sl k v) hd k=mdL sl hd k:=fun v=>mdL_congr (fun j hj=>⟨upF_ne sl v (by omega),rfl⟩)
   have hc2:∀v,mdL sl (upF hd k v) k=mdL sl hd k:=fun v=>mdL_congr (fun j hj=>⟨rfl,upF_ne hd v (by omega)⟩)
   refine ⟨fun c=> ?_,fun c=> ?_⟩
   ·rw [List.set_append_right _ _ (by omega),hc,upF_eq,hl,show k*2-k*2=0 by omega];rfl
   ·rw [List.set_append_right _ _ (by omega),hc2,upF_eq,hl,show k*2+1-k*2=1 by omega];rfl
  ·obtain ⟨h1,h2⟩:=mdL_set sl hd n k (by omega)
   refine ⟨fun c=> ?_,fun c=> ?_⟩<;>rw [List.set_append_left _ _ (by omega),upF_ne _ _ (fun h=>e h.symm)]
   ·rw [h1]
   ·rw [h2]
def WsL (w:World) (P:Nat→Prop) (W:Nat→Nat) (v:Value):Prop:=∃b o cap,v=wsV b o cap∧SlO w 30 1 v 256 (wdL W 256)∧¬P b
structure MdS (w:World) (P:Nat→Prop) (v:Value) (sl:Nat→Value) (n:Nat) (W:Nat→Nat→Nat) (hd:Nat→Bool):Prop where
 m:SlO w 42 2 v n (mdL sl hd n)
 out:∀x,v.ownBlock=some x→¬P x
 ws:∀k,k<n→WsL w P (W k) (sl k)
 ne:∀k,k<n→∀x,v.ownBlock=some x→(sl k).ownBlock≠some x
abbrev PF (Y:Lay) (b:Nat) (x:Nat):Prop:=Y.F x∨x=b
def mW (D:DS) (l0:Nat) (k:Nat):Nat→Nat:=wd D (l0+32*k)
def mH (f:Nat→Int×Int×Bool) (k:Nat):Bool:=(f k).2.2
section
variable {w w':World} {Y Y':Lay} {P P':Nat→Prop} {v:Value} {sl:Nat→Value} {n k b:Nat} {W V:Nat→Nat→Nat} {U:Nat→Nat} {hd he:Nat→Bool}
theorem WsL.ext (h:WsL w P U v) (e:Ext w w'):WsL w' P U v:=by
 obtain ⟨b,o,cap,hv,hs,hp⟩:=h
 exact ⟨b,o,cap,hv,hs.ext e,hp⟩
theorem WsL.frm (h:WsL w P U v) (f:Frm P w w') (hP:∀x,P' x→P x∨w.heap.size≤x):WsL w' P' U v:=by
 obtain ⟨b,o,cap,rfl,hs,hp⟩:=h
 refine ⟨b,o,cap,rfl,hs.frm f (fun x hx=>by injection hx with hx;subst hx;exact hp),fun h2=> ?_⟩
 rcases hP b h2 with h3|h3
 ·exact hp h3
 ·have h9:b<w.heap.size:=hs.lt rfl;omega
theorem MdS.ext (h:MdS w P v sl n W hd) (e:Ext w w'):MdS w' P v sl n W hd:=⟨h.m.ext e,h.out,fun k hk=>(h.ws k hk).ext e,h.ne⟩
theorem MdS.frm (h:MdS w P v sl n W hd) (f:Frm P w w') (hP:∀x,P' x→P x∨w.heap.size≤x):MdS w' P' v sl n W hd:=by
 refine ⟨h.m.frm f h.out,fun x hx hp=> ?_,fun k hk=>(h.ws k hk).frm f hP,h.ne⟩
 rcases hP x hp with h3|h3
 ·exact h.out x hx h3
 ·have:=h.m.lt hx;omega
theorem MdS.astp (h:MdS w (PF Y b) v sl n W hd) (a:AStp w Y b w' Y'):MdS w' (PF Y' b) v sl n W hd:=h.frm a.frm (fun x hx=>by
 rcases hx with hx|hx
 ·rcases a.fr x hx with h1|h1
  ·exact .inl (.inl h1)
  ·exact .inr h1
 ·exact .inl (.inr hx))
theorem MdS.congr (h:MdS w P v sl n W hd) (hW:∀k,k<n→∀i,i<256→W k i=V k i) (hh:∀k,k<n→hd k=he k):MdS w P v sl n V he:=by
 refine ⟨?_,h.out,fun k hk=> ?_,h.ne⟩
 ·have:=h.m
  rwa [mdL_congr (fun k hk=>⟨rfl,hh k hk⟩)] at this
 ·obtain ⟨b,o,cap,hv,hs,hp⟩:=h.ws k hk
  rw [wdL_congr (hW k hk)] at hs
  exact ⟨b,o,cap,hv,hs,hp⟩
theorem MdS.nil (w:World) (P:Nat→Prop) (sl:Nat→Value) (W:Nat→Nat→Nat) (hd:Nat→Bool):MdS w P (.slice none 0 0) sl 0 W hd:=⟨SlO.nil _ _ _,fun x hx=>(by cases hx),fun k hk=>absurd hk (Nat.not_lt_zero _),fun k hk=>absurd hk (Nat.not_lt_zero _)⟩
theorem MdS.get (h:MdS w P v sl n W hd) (hk:k<n):∃b o cap g q cp,v= .slice (some ⟨g,q,none⟩) n cp∧w.cell? ⟨g,q+k*2,none⟩=some (wsV b o cap)∧w.cell? ⟨g,q+k*2+1,none⟩=some (.bool (hd k))∧Wm w b o (W k)∧sl k=wsV b o cap:=by
 obtain ⟨b,o,cap,hv,hs,hp⟩:=h.ws k hk
 obtain ⟨g,q,cp,rfl,_⟩:=h.m.isS (by omega)
 have hg:=mdL_get sl hd n k hk
 have c0:=h.m.cell rfl hg.1
 have c1:=h.m.cell rfl hg.2
 rw [←Nat.add_assoc] at c1
 rw [hv] at c0 hs
 exact ⟨b,o,cap,g,q,cp,rfl,c0,c1,Wm.of_sl hs,hv⟩
theorem WsL.new {m:Nat} {b o cap:Nat} (hs:SlO w 30 1 (wsV b o cap) 256 (wdL U 256)) (hb:m≤b) (hP:∀x,P x→x<m):WsL w P U (wsV b o cap):=⟨b,o,cap,rfl,hs,fun h=>by have:=hP b h;omega⟩
end
theorem elMd:ElT Tryz.prog 29 29 42 2 32 (.agg #[.slice none 0 0,.bool false]):=el_29_29
section
variable {w w':World} {P:Nat→Prop} {v:Value} {sl:Nat→Value} {n k b o cap:Nat} {W:Nat→Nat→Nat} {U:Nat→Nat} {hd:Nat→Bool}
theorem k_push (h:MdS w P v sl n W hd) (hP:∀x,P x→x<w.heap.size) (hs:WsL w P U (wsV b o cap)) (hne:v.ownBlock≠some b) (mm:Bool) (hn:n<1000) {xb:Nat} {cs:Array Bool} (hc0:w.cell? ⟨xb,0,none⟩=some (wsV b o cap)) (hc1:w.cell? ⟨xb,1,none⟩=some (.bool mm)) (K:K1)
  (hK:∀v' w',Frm (fun x=>v.ownBlock=some x) w w'→(∀x,v'.ownBlock=some x→v.ownBlock=some x∨w.heap.size≤x)→MdS w' P v' (upF sl n (wsV b o cap)) (n+1) (upF W n U) (upF hd n mm)→K v' w'):
  bltS Tryz.prog .append #[29,29] 29 cs #[v,.slice (some ⟨xb,0,none⟩) 1 1] w K:=by
 refine blt_append elMd h.m (m:=1) (news:= [wsV b o cap,.bool mm]) rfl ?_ rfl (by omega) (by omega) (by omega) (fun v' w' hs' hf hb _=> ?_)
 ·intro j u hj
  rcases j with _|_|j
  ·simp at hj;rw [←hj];exact hc0
  ·simp at hj;rw [←hj];exact hc1
  ·simp at hj
 ·obtain ⟨b',o',cap',hv',hsl,hp⟩:=hs
  injection hv' with e1 _ e3
  injection e1 with e1
  injection e1 with e4 e5 _
  subst e4;subst e5;subst e3
  have ltb:b<w.heap.size:=hsl.lt rfl
  refine hK v' w' hf hb ⟨?_,fun x hx hp2=> ?_,fun k hk=> ?_,fun k hk x hx=> ?_⟩
  ·have e:mdL (upF sl n (wsV b o cap)) (upF hd n mm) (n+1)=mdL sl hd n++ [wsV b o cap,.bool mm]:=by
    show mdL (upF sl n (wsV b o cap)) (upF hd n mm) n++ [upF sl n (wsV b o cap) n,.bool (upF hd n mm n)]=_
    rw [upF_eq,upF_eq,mdL_congr (fun k hk=>⟨upF_ne sl _ (by omega),upF_ne hd _ (by omega)⟩)]
   rw [e];exact hs'
  ·rcases hb x hx with h1|h1
   ·exact h.out x h1 hp2
   ·have:=hP x hp2;omega
  ·by_cases e:k=n
   ·subst e
    rw [upF_eq,upF_eq]
    exact ⟨b,o,cap,rfl,hsl.frm hf (fun x hx h2=>by
     have h9:b=x:=Option.some.inj hx
     subst h9;exact hne h2),hp⟩
   ·rw [upF_ne _ _ e,upF_ne _ _ e]
    obtain ⟨b2,o2,cap2,h2,hs2,hp2⟩:=h.ws k (by omega)
    exact ⟨b2,o2,cap2,h2,hs2.frm hf (fun x hx h3=>h.ne k (by omega) x h3 hx),hp2⟩
  ·by_cases e:k=n
   ·subst e
    rw [upF_eq]
    intro h2
    have h9:b=x:=Option.some.inj h2
    subst h9
    rcases hb b hx with h1|h1
    ·exact hne h1
    ·omega
   ·rw [upF_ne _ _ e]
    intro h2
    rcases hb x hx with h1|h1
    ·exact h.ne k (by omega) x h1 h2
    ·obtain ⟨b2,o2,cap2,h3,hs2,_⟩:=h.ws k (by omega)
     have:=hs2.lt h2;omega
end
end Go.Proofs.YtifpinhjpbgnoaaGreatDoor
namespace Go.Proofs.YtifpinhjpbgnoaaGreatDoor
open Go Go.Sh
set_option maxRecDepth 100000
set_option maxHeartbeats 4000000
set_option linter.unusedSimpArgs false
set_option linter.unusedVariables false
abbrev mcO (b o cap:Nat) (m:Bool):Obj:= .cells #[wsV b o cap,.bool m] 42
section
variable {w w':World} {P:Nat→Prop} {D:DS} {l b o cap l0 n k:Nat} {U:Nat→Nat} {f:Nat→Int×Int×Bool} {c:Int}
theorem k_Head (hW:Wm w b o U) (h0:U 0<18446744073709551616) (m:Bool) (K:K1) (hK:∀w',Ext w w'→K (.agg #[.int .i64 (hC (U 0)),.int .i64 (hO (U 0)),.int .u16 (gX (U 0):Int)]) w'):
  callS Tryz.prog 49 #[.agg #[wsV b o cap,.bool m]] w K:=by
 have q0:w.cell? ⟨b,o,none⟩=some (u64 (U 0)):=by have:=hW.cell (i:=0) (by omega);rwa [Nat.add_zero] at this
 have hb:=lt_of_cell q0
 have hlk:=fun (w:World) (K:K1) hK=>k_rLook (w:=w) (U 0) h0 K hK
 generalize U 0=x at*
 generalize hC x=cc at*
 generalize hO x=oo at*
 generalize gX x=gg at*
 refine f49_call _ _ _ ?_
 unfold f49_t
 simp (disch:=first|omega|simp only [RO]|(simp only [RZ]<;>omega)|fail) only [↓RBp,↓RA,↓reduceIte,Nat.reduceAdd,Nat.reduceMul,Nat.reduceEqDiff,RB,RX,RA2,q0,Int.reduceToNat,Nat.add_zero]
 refine hlk _ _ (fun w1 e1=> ?_)
 have hC:=Cells.new (w.alloc (mcO b o cap m)) [Value.int .i64 0,.int .i64 0,.int .u16 ((0:Nat):Int)] 36
 rw [size_alloc] at hC
 have hC0:=hC.ext e1
 have lt1:=hC0.lt
 have z0:=hC0.cell (i:=0) (by simp)
 have z1:=hC0.cell (i:=1) (by simp)
 have z2:=hC0.cell (i:=2) (by simp)
 have hfz:=hC0.frz
 have hD:=cells3C hC0 (Value.int .i64 cc) (.int .i64 oo) (.int .u16 (gg:Int))
 have d0:=hD.cell (i:=0) (by simp)
 have d1:=hD.cell (i:=1) (by simp)
 have d2:=hD.cell (i:=2) (by simp)
 simp (disch:=first|omega|simp only [RO]|(simp only [RZ]<;>omega)|fail) only [↓RBp,↓RA,↓reduceIte,Nat.reduceAdd,Nat.reduceMul,Nat.reduceEqDiff,RB,RX,RA2,z0,z1,z2,hfz,d0,d1,d2]
 exact hK _ (by repeat (first|(with_reducible first|refine Sh.eB ?_ (by first|omega|(simp only [RZ]<;>omega)) _|assumption|exact Sh.eR _|refine Sh.eA ?_ _|refine Sh.eD ?_|refine Sh.eT ?_ (by assumption))|exact Sh.eR _))
theorem RgS.wdl (h:RgS D l0 n f) (hk:k<n):∀j,j<256→wd D (l0+32*k) j<18446744073709551616:=fun j hj=>by
 unfold wd
 exact h.gd.cur _ (by have:=h.lt;omega)
theorem k_empty (h:RgS D l0 n f) (hk:k<n) (hW:Wm w b o (wd D (l0+32*k))) (K:K1) (hK:∀w',Ext w w'→K (.tuple #[.int .u16 (((emG D l0 f k).getD 0:Nat):Int),.bool (emG D l0 f k).isSome]) w'):
  callS Tryz.prog 88 #[.agg #[wsV b o cap,.bool (f k).2.2]] w K:=by
 have hcl:=h.cls hk
 have hl:=h.wdl hk
 have ha:=h.ag k hk
 have hsn:=h.sn k hk
 have hb:=lt_of_cell (hW.cell (i:=0) (by omega))
 have hhd:=fun (w1:World) (e:Ext w w1) (K:K1) hK=>k_Head (hW.ext e) (hl 0 (by omega)) (cap:=cap) (f k).2.2 K hK
 rw [←ha.2.1,←ha.2.2] at hhd
 have hnx:=fun (w1:World) (e:Ext w w1) (c0:0≤(f k).1) (K:K1) hK=>k_rNext (cw:=cap) (hW.ext e) hl (hsn c0) c0 hcl.1 K hK
 unfold emG at hK
 refine f88_call _ _ _ ?_
 unfold f88_t
 have hC0:=Cells.new w [wsV b o cap,.bool (f k).2.2] 42
 generalize gX (wd D (l0+32*k) 0)=gg at*
 generalize (f k).2.2=mm at*
 generalize (f k).2.1=oo at*
 generalize mxG D (l0+32*k) (f k).1 (perS (f k).1).toNat=mx at*
 generalize alF D (l0+32*k) (f k).1 (perS (f k).1).toNat=al at*
 generalize (f k).1=cc at*
 (repeat' (first|(with_reducible refine brS_mk (fun _=> ?_) (fun _=> ?_))|(with_reducible refine And.intro ?_ ?_)|(simp (disch:=first|omega|simp only [RO]|(simp only [RZ]<;>omega)|fail) only [↓RBp,↓RA,↓reduceIte,Nat.reduceAdd,Nat.reduceMul,Nat.reduceEqDiff,RB,RX,RA2])))
 refine hhd _ (by repeat (first|(with_reducible first|refine Sh.eB ?_ (by first|omega|(simp only [RZ]<;>omega)) _|assumption|exact Sh.eR _|refine Sh.eA ?_ _|refine Sh.eD ?_|refine Sh.eT ?_ (by assumption))|exact Sh.eR _)) _ (fun w1 e1=> ?_)
 have hC1:=hC0.ext e1
 have lt1:=hC1.lt
 have p0:=hC1.cell (i:=0) (by simp)
 have p1:=hC1.cell (i:=1) (by simp)
 by_cases c0:cc<0
 ·rw [if_pos c0] at hK
  (repeat' (first|(with_reducible refine brS_mk (fun _=> ?_) (fun _=> ?_))|(with_reducible refine And.intro ?_ ?_)|(simp (disch:=first|omega|simp only [RO]|(simp only [RZ]<;>omega)|fail) only [↓RBp,↓RA,↓reduceIte,Nat.reduceAdd,Nat.reduceMul,Nat.reduceEqDiff,RB,RX,RA2,p0,p1,c0])))
  exact hK _ (by repeat (first|(with_reducible first|refine Sh.eB ?_ (by first|omega|(simp only [RZ]<;>omega)) _|assumption|exact Sh.eR _|refine Sh.eA ?_ _|refine Sh.eD ?_|refine Sh.eT ?_ (by assumption))|exact Sh.eR _))
 ·rw [if_neg c0] at hK
  cases mm with
  |true=>
   rw [if_pos rfl] at hK
   (repeat' (first|(with_reducible refine brS_mk (fun _=> ?_) (fun _=> ?_))|(with_reducible refine And.intro ?_ ?_)|(simp (disch:=first|omega|simp only [RO]|(simp only [RZ]<;>omega)|fail) only [↓RBp,↓RA,↓reduceIte,Nat.reduceAdd,Nat.reduceMul,Nat.reduceEqDiff,RB,RX,RA2,p0,p1,c0])))
   exact hK _ (by repeat (first|(with_reducible first|refine Sh.eB ?_ (by first|omega|(simp only [RZ]<;>omega)) _|assumption|exact Sh.eR _|refine Sh.eA ?_ _|refine Sh.eD ?_|refine Sh.eT ?_ (by assumption))|exact Sh.eR _))
  |false=>
   rw [if_neg (by decide)] at hK
   (repeat' (first|(with_reducible refine brS_mk (fun _=> ?_) (fun _=> ?_))|(with_reducible refine And.intro ?_ ?_)|(simp (disch:=first|omega|simp only [RO]|(simp only [RZ]<;>omega)|fail) only [↓RBp,↓RA,↓reduceIte,Nat.reduceAdd,Nat.reduceMul,Nat.reduceEqDiff,RB,RX,RA2,p0,p1,c0])))
   refine hnx _ (by repeat (first|(with_reducible first|refine Sh.eB ?_ (by first|omega|(simp only [RZ]<;>omega)) _|assumption|exact Sh.eR _|refine Sh.eA ?_ _|refine Sh.eD ?_|refine Sh.eT ?_ (by assumption))|exact Sh.eR _)) (by omega) _ (fun w2 e2=> ?_)
   cases al with
   |true=>
    rw [if_pos rfl] at hK
    (repeat' (first|(with_reducible refine brS_mk (fun _=> ?_) (fun _=> ?_))|(with_reducible refine And.intro ?_ ?_)|(simp (disch:=first|omega|simp only [RO]|(simp only [RZ]<;>omega)|fail) only [↓RBp,↓RA,↓reduceIte,Nat.reduceAdd,Nat.reduceMul,Nat.reduceEqDiff,RB,RX,RA2])))
    exact hK _ (by repeat (first|(with_reducible first|refine Sh.eB ?_ (by first|omega|(simp only [RZ]<;>omega)) _|assumption|exact Sh.eR _|refine Sh.eA ?_ _|refine Sh.eD ?_|refine Sh.eT ?_ (by assumption))|exact Sh.eR _))
   |false=>
    rw [if_neg (by decide)] at hK
    (repeat' (first|(with_reducible refine brS_mk (fun _=> ?_) (fun _=> ?_))|(with_reducible refine And.intro ?_ ?_)|(simp (disch:=first|omega|simp only [RO]|(simp only [RZ]<;>omega)|fail) only [↓RBp,↓RA,↓reduceIte,Nat.reduceAdd,Nat.reduceMul,Nat.reduceEqDiff,RB,RX,RA2])))
    exact hK _ (by repeat (first|(with_reducible first|refine Sh.eB ?_ (by first|omega|(simp only [RZ]<;>omega)) _|assumption|exact Sh.eR _|refine Sh.eA ?_ _|refine Sh.eD ?_|refine Sh.eT ?_ (by assumption))|exact Sh.eR _))
theorem k_clear (hs:SlO w 30 1 (wsV b o cap) 256 (wdL U 256)) (m:Bool) {g:Nat} (hg:g<65536) (K:K1)
  (hK:∀b' o' cap' w',Ext w w'→w.heap.size≤b'→SlO w' 30 1 (wsV b' o' cap') 256 (wdL (fun i=>if i=0 then sealN (hdX (-1) (-1) g) else U i) 256)→K (.agg #[wsV b' o' cap',.bool false]) w'):
  callS Tryz.prog 89 #[.agg #[wsV b o cap,.bool m],.int .u16 (g:Int)] w K:=by
 have hfi:∀(w:World) (K:K1),callS Tryz.prog 45 #[.agg #[.int .i64 (-1),.int .i64 (-1),.int .u16 (g:Int)]] w K=K (.int .u64 ((sealN (hdX (-1) (-1) g):Nat):Int)) (w.alloc (rhO (-1) (-1) g)):=fun w K=>c_rFirst (-1) (-1) g w K hg (.inl ⟨rfl,rfl⟩)
 have hlt:=hs.lt rfl
 have hC0:=Cells.new (w.alloc (mcO b o cap m)) [Value.slice none 0 0,.bool false] 42
 rw [size_alloc] at hC0
 refine f89_call _ _ _ _ ?_
 unfold f89_t
 simp (disch:=first|omega|simp only [RO]|(simp only [RZ]<;>omega)|fail) only [↓RBp,↓RA,↓reduceIte,Nat.reduceAdd,Nat.reduceMul,Nat.reduceEqDiff,RB,RX,RA2]
 have lz:(wdL U 256).length=256:=by simp [wdL]
 refine app_new elU64 (w0:=(w.alloc (mcO b o cap m)).alloc (.cells #[.slice none 0 0,.bool false] 42)) (SlO.nil _ _ _) (Frm.refl _ _) (fun b hb=>by cases hb) (m:=256) (news:=wdL U 256) (by rw [lz]) (fun j u hj=>(hs.ext (by repeat (first|(with_reducible first|refine Sh.eB ?_ (by first|omega|(simp only [RZ]<;>omega)) _|assumption|exact Sh.eR _|refine Sh.eA ?_ _|refine Sh.eD ?_|refine Sh.eT ?_ (by assumption))|exact Sh.eR _))).cell rfl hj) (by kernel_rfl) (by omega) (by omega) (by omega) (fun v1 w1 s1 f1 n1 fr1 _=> ?_)
 rw [Nat.zero_add,List.nil_append] at s1
 have e1:=f1.to_ext (fun _ _ h=>h)
 obtain ⟨b1,o1,cap1,rfl,hbc⟩:=s1.isS (by omega)
 have hb1:=n1 b1 rfl
 have hup:=SlO.upd s1 (u64 (sealN (hdX (-1) (-1) g))) (i:=0) (by omega)
 rw [wdL_set,Nat.add_zero] at hup
 have hfz:=fun i=>s1.frz (b:=b1) rfl i
 have hc:=s1.cell rfl (wdL_get (W:=U) (n:=256) (j:=0) (by omega))
 rw [Nat.add_zero] at hc
 have hlt1:=lt_of_cell hc
 have hC1:=hC0.ext e1
 simp only [RZ] at hb1
 have hC2:=hC1.set_ne (a:=⟨b1,o1,none⟩) (u64 (sealN (hdX (-1) (-1) g))) (show w.heap.size+1≠b1 by omega)
 have z0:=hC2.cell (i:=0) (by simp)
 have z1:=hC2.cell (i:=1) (by simp)
 have hfz1:=hC2.frz
 have hC3:=(hC2.set (i:=0) (wsV b1 o1 cap1) (by simp)).set (i:=1) (.bool false) (by simp)
 have d0:=hC3.cell (i:=0) (by simp)
 have d1:=hC3.cell (i:=1) (by simp)
 rw [if_neg (by omega),if_pos rfl] at d0
 rw [if_pos rfl] at d1
 (repeat' (first|(with_reducible refine brS_mk (fun _=> ?_) (fun _=> ?_))|(with_reducible refine And.intro ?_ ?_)|(simp (disch:=first|omega|simp only [RO]|(simp only [RZ]<;>omega)|fail) only [↓RBp,↓RA,↓reduceIte,Nat.reduceAdd,Nat.reduceMul,Nat.reduceEqDiff,RB,RX,RA2,hfi,hfz,hc,z0,z1,hfz1,d0,d1,Int.reduceToNat,Nat.add_zero])))
 have nb:∀x,(wsV b1 o1 cap1).ownBlock=some x→¬x=w.heap.size+1:=fun x hx=>by have h9:b1=x:=Option.some.inj hx;omega
 have hup2:=(hup.frm (Frm.one _ (w.heap.size+1) 0 (wsV b1 o1 cap1)) nb).frm (Frm.one _ (w.heap.size+1) 1 (.bool false)) nb
 refine hK b1 o1 cap1 _ ?_ (by omega) (hup2.ext (Ext.alloc_self _ _))
 refine Ext.alloc ?_ _
 refine Ext.setB ?_ (show w.heap.size≤w.heap.size+1 by omega) _
 refine Ext.setB ?_ (show w.heap.size≤w.heap.size+1 by omega) _
 exact Ext.setB (Ext.trans (by repeat (first|(with_reducible first|refine Sh.eB ?_ (by first|omega|(simp only [RZ]<;>omega)) _|assumption|exact Sh.eR _|refine Sh.eA ?_ _|refine Sh.eD ?_|refine Sh.eT ?_ (by assumption))|exact Sh.eR _)) e1) (show w.heap.size≤b1 by omega) _
end
end Go.Proofs.YtifpinhjpbgnoaaGreatDoor
namespace Go.Proofs.YtifpinhjpbgnoaaGreatDoor
open Go Go.Sh
set_option maxRecDepth 100000
set_option maxHeartbeats 4000000
set_option linter.unusedSimpArgs false
set_option linter.unusedVariables false
theorem allOne_app (a b:List Value):allOne (a++b)=(allOne a&&allOne b):=by
 induction a with
 |nil=>rfl
 |cons x a ih=>simp only [List.cons_append,allOne,ih,Bool.and_assoc]
section
variable {w0 w w':World} {P:Nat→Prop} {v:Value} {sl:Nat→Value} {n k b o cap g q cp l0:Nat} {W:Nat→Nat→Nat} {U:Nat→Nat} {hd:Nat→Bool} {D:DS} {f:Nat→Int×Int×Bool}
theorem mdL_one:∀n,(∀k,k<n→∃b o cap,sl k=wsV b o cap)→allOne (mdL sl hd n)=true
 |0,_=>rfl
 |n+1,h=>by
  obtain ⟨b,o,cap,e⟩:=h n (by omega)
  unfold mdL
  rw [allOne_app,mdL_one n (fun k hk=>h k (by omega)),e];rfl
theorem k_copy (h:MdS w P v sl n W hd) (hP:∀x,P x→x<w.heap.size) (n0:0<n) (hn:n<1000) {cs:Array Bool} (K:K1)
  (hK:∀g q cp w',Ext w w'→w.heap.size≤g→MdS w' P (.slice (some ⟨g,q,none⟩) n cp) sl n W hd→K (.slice (some ⟨g,q,none⟩) n cp) w'):
  bltS Tryz.prog .append #[29,29] 29 cs #[.slice none 0 0,v] w K:=by
 obtain ⟨vg,vq,vcp,rfl,_⟩:=h.m.isS n0
 refine blt_append elMd (SlO.nil _ _ _) (m:=n) (news:=mdL sl hd n) (mdL_len sl hd n) (fun j u hj=>h.m.cell rfl hj) (mdL_one n (fun k hk=>by obtain ⟨b,o,cap,e,_⟩:=h.ws k hk;exact ⟨b,o,cap,e⟩)) n0 (by omega) (by omega) (fun v' w' hs' hf hb _=> ?_)
 rw [Nat.zero_add,List.nil_append] at hs'
 have e:Ext w w':=hf.to_ext (fun x _ hx=>by cases hx)
 obtain ⟨g,q,cp,rfl,_⟩:=hs'.isS n0
 have hg:w.heap.size≤g:=by
  rcases hb g rfl with h1|h1
  ·cases h1
  ·exact h1
 refine hK g q cp w' e hg ⟨hs',fun x hx hp=> ?_,fun k hk=>(h.ws k hk).ext e,fun k hk x hx h2=> ?_⟩
 ·have h9:g=x:=Option.some.inj hx
  subst h9
  have:=hP g hp;omega
 ·have h9:g=x:=Option.some.inj hx
  subst h9
  obtain ⟨b2,o2,cap2,h3,hs2,_⟩:=h.ws k hk
  have:=hs2.lt h2;omega
theorem MdS.wr (h:MdS w P (.slice (some ⟨g,q,none⟩) n cp) sl n W hd) (hk:k<n) (hs:WsL w P U (wsV b o cap)) (hb:b≠g) (mm:Bool):MdS ((w.setCell ⟨g,q+k*2,none⟩ (wsV b o cap)).setCell ⟨g,q+k*2+1,none⟩ (.bool mm)) P (.slice (some ⟨g,q,none⟩) n cp) (upF sl k (wsV b o cap)) n (upF W k U) (upF hd k mm):=by
 have h1:=SlO.updZ h.m (wsV b o cap) (show k*2<n*2 by omega)
 rw [(mdL_set sl hd n k hk).1] at h1
 have h2:=SlO.updZ h1 (.bool mm) (show k*2+1<n*2 by omega)
 rw [(mdL_set _ hd n k hk).2,←Nat.add_assoc] at h2
 have fr:Frm (fun x=>x=g) w ((w.setCell ⟨g,q+k*2,none⟩ (wsV b o cap)).setCell ⟨g,q+k*2+1,none⟩ (.bool mm)):=(Frm.one w g (q+k*2) (wsV b o cap)).set _ (fun _=>rfl)
 refine ⟨h2,h.out,fun j hj=> ?_,fun j hj x hx=> ?_⟩
 ·by_cases e:j=k
  ·subst e
   rw [upF_eq,upF_eq]
   obtain ⟨b',o',cap',hv',hsl,hp⟩:=hs
   injection hv' with e1 _ e3
   injection e1 with e1
   injection e1 with e4 e5 _
   subst e4;subst e5;subst e3
   exact ⟨b,o,cap,rfl,hsl.frm fr (fun x hx h2=>by
    have h9:b=x:=Option.some.inj hx
    exact hb (h9.trans h2)),hp⟩
  ·rw [upF_ne _ _ e,upF_ne _ _ e]
   obtain ⟨b2,o2,cap2,h3,hs2,hp2⟩:=h.ws j hj
   exact ⟨b2,o2,cap2,h3,hs2.frm fr (fun x hx h4=>by
    subst h4
    exact h.ne j hj x rfl hx),hp2⟩
 ·by_cases e:j=k
  ·subst e
   rw [upF_eq]
   intro h2
   have h8:g=x:=Option.some.inj hx
   have h9:b=x:=Option.some.inj h2
   exact hb (h9.trans h8.symm)
  ·rw [upF_ne _ _ e]
   exact h.ne j hj x hx
theorem MdS.wr1 (h:MdS w P (.slice (some ⟨g,q,none⟩) n cp) sl n W hd) (hk:k<n) (mm:Bool):MdS (w.setCell ⟨g,q+k*2+1,none⟩ (.bool mm)) P (.slice (some ⟨g,q,none⟩) n cp) sl n W (upF hd k mm):=by
 have h2:=SlO.updZ h.m (.bool mm) (show k*2+1<n*2 by omega)
 rw [(mdL_set _ hd n k hk).2,←Nat.add_assoc] at h2
 refine ⟨h2,h.out,fun j hj=> ?_,h.ne⟩
 obtain ⟨b2,o2,cap2,h3,hs2,hp2⟩:=h.ws j hj
 exact ⟨b2,o2,cap2,h3,hs2.frm (Frm.one w g (q+k*2+1) (.bool mm)) (fun x hx h4=>by
  subst h4
  exact h.ne j hj x rfl hx),hp2⟩
theorem MdS.wr0 (h:MdS w P (.slice (some ⟨g,q,none⟩) n cp) sl n W hd) (hk:k<n) (hs:WsL w P U (wsV b o cap)) (hb:b≠g):MdS (w.setCell ⟨g,q+k*2,none⟩ (wsV b o cap)) P (.slice (some ⟨g,q,none⟩) n cp) (upF sl k (wsV b o cap)) n (upF W k U) hd:=by
 have h1:=SlO.updZ h.m (wsV b o cap) (show k*2<n*2 by omega)
 rw [(mdL_set sl hd n k hk).1] at h1
 have fr:=Frm.one w g (q+k*2) (wsV b o cap)
 refine ⟨h1,h.out,fun j hj=> ?_,fun j hj x hx=> ?_⟩
 ·by_cases e:j=k
  ·subst e
   rw [upF_eq,upF_eq]
   obtain ⟨b',o',cap',hv',hsl,hp⟩:=hs
   injection hv' with e1 _ e3
   injection e1 with e1
   injection e1 with e4 e5 _
   subst e4;subst e5;subst e3
   exact ⟨b,o,cap,rfl,hsl.frm fr (fun x hx h2=>by
    have h9:b=x:=Option.some.inj hx
    exact hb (h9.trans h2)),hp⟩
  ·rw [upF_ne _ _ e,upF_ne _ _ e]
   obtain ⟨b2,o2,cap2,h3,hs2,hp2⟩:=h.ws j hj
   exact ⟨b2,o2,cap2,h3,hs2.frm fr (fun x hx h4=>by
    subst h4
    exact h.ne j hj x rfl hx),hp2⟩
 ·by_cases e:j=k
  ·subst e
   rw [upF_eq]
   intro h2
   have h8:g=x:=Option.some.inj hx
   have h9:b=x:=Option.some.inj h2
   exact hb (h9.trans h8.symm)
  ·rw [upF_ne _ _ e]
   exact h.ne j hj x hx
theorem RgS.agm (h:RgS D l0 n f) (hm:MdS w P v sl n (mW D l0) (mH f)):∀k,k<n→∃b o cap g q cp,v= .slice (some ⟨g,q,none⟩) n cp∧g<w.heap.size∧w.cell? ⟨g,q+k*2,none⟩=some (wsV b o cap)∧w.cell? ⟨g,q+k*2+1,none⟩=some (.bool (f k).2.2)∧Wm w b o (wd D (l0+32*k))∧sl k=wsV b o cap∧SlO w 30 1 (wsV b o cap) 256 (wdL (wd D (l0+32*k)) 256)∧∀(w1:World) (K:K1),Ext w w1→(∀w',Ext w1 w'→K (.agg #[.int .i64 (f k).1,.int .i64 (f k).2.1,.int .u16 (gX (wd D (l0+32*k) 0):Int)]) w')→callS Tryz.prog 49 #[.agg #[wsV b o cap,.bool (f k).2.2]] w1 K:=by
 intro k hk
 obtain ⟨b,o,cap,g,q,cp,hv,c0,c1,hw,hs⟩:=hm.get hk
 obtain ⟨b',o',cap',hv',hsl,hp⟩:=hm.ws k hk
 rw [hv'] at hs
 injection hs with e1 _ e3
 injection e1 with e1
 injection e1 with e4 e5 _
 subst e4;subst e5;subst e3
 have ha:=h.ag k hk
 refine ⟨b',o',cap',g,q,cp,hv,lt_of_cell c0,c0,c1,hw,hv',by rw [hv'] at hsl;exact hsl,fun w1 K e hK=> ?_⟩
 refine k_Head (hw.ext e) (h.wdl hk 0 (by omega)) (f k).2.2 K ?_
 show ∀w',Ext w1 w'→K (.agg #[.int .i64 (hC (wd D (l0+32*k) 0)),.int .i64 (hO (wd D (l0+32*k) 0)),.int .u16 (gX (wd D (l0+32*k) 0):Int)]) w'
 rw [←ha.2.1,←ha.2.2]
 exact hK
theorem k_rHold (h:RgS D l0 n f) (hm:MdS w P v sl n (mW D l0) (mH f)) (hP:∀x,P x→x<w.heap.size) (n0:0<n) (hn:n<1000) (a:Int) (on:Bool) (K:K1)
  (h5:¬(0≤a∧a<n)→∀w',Ext w w'→K (.tuple #[v,.int .i64 5]) w')
  (h8:∀k:Nat,a=(k:Int)→k<n→(f k).1<0→∀w',Ext w w'→K (.tuple #[v,.int .i64 8]) w')
  (hK:∀k:Nat,a=(k:Int)→k<n→¬(f k).1<0→∀v' w',Ext w w'→MdS w' P v' sl n (mW D l0) (mH (upF f k ((f k).1,(f k).2.1,on)))→K (.tuple #[v',.int .i64 0]) w'):
  callS Tryz.prog 52 #[v,.int .i64 a,.bool on] w K:=by
 obtain ⟨_,_,_,vg,vq,vcp,rfl,_⟩:=h.agm hm 0 n0
 refine f52_call _ _ _ _ _ ?_
 unfold f52_t
 by_cases ha0:a<0
 ·simp (disch:=first|omega|simp only [RO]|(simp only [RZ]<;>omega)|fail) only [↓RBp,↓RA,↓reduceIte,Nat.reduceAdd,Nat.reduceMul,Nat.reduceEqDiff,RB,RX,RA2,ha0]
  exact h5 (by omega) _ (Ext.refl _)
 ·obtain ⟨k,rfl⟩:∃k:Nat,a=(k:Int):=⟨a.toNat,by omega⟩
  by_cases hkn:k<n
  ·have h8:=h8 k rfl hkn
   have hK:=hK k rfl hkn
   obtain ⟨b,o,cap,g,q,cp,hv,ltg,c0,c1,hw,hsk,hsl,hh⟩:=h.agm hm k hkn
   injection hv with e1 _ e3
   injection e1 with e1
   injection e1 with e4 e5 _
   subst e4;subst e5;subst e3
   generalize gX (wd D (l0+32*k) 0)=gg at*
   generalize hm1:(f k).2.2=mm at*
   generalize hm2:(f k).2.1=oo at*
   generalize hm3:(f k).1=cc at*
   by_cases hc:cc<0
   ·simp (disch:=first|omega|simp only [RO]|(simp only [RZ]<;>omega)|fail) only [↓RBp,↓RA,↓reduceIte,Nat.reduceAdd,Nat.reduceMul,Nat.reduceEqDiff,RB,RX,RA2,c0,c1]
    refine hh _ _ (by repeat (first|(with_reducible first|refine Sh.eB ?_ (by first|omega|(simp only [RZ]<;>omega)) _|assumption|exact Sh.eR _|refine Sh.eA ?_ _|refine Sh.eD ?_|refine Sh.eT ?_ (by assumption))|exact Sh.eR _)) (fun w1 e1=> ?_)
    simp (disch:=first|omega|simp only [RO]|(simp only [RZ]<;>omega)|fail) only [↓RBp,↓RA,↓reduceIte,Nat.reduceAdd,Nat.reduceMul,Nat.reduceEqDiff,RB,RX,RA2,hc]
    exact h8 hc _ (by repeat (first|(with_reducible first|refine Sh.eB ?_ (by first|omega|(simp only [RZ]<;>omega)) _|assumption|exact Sh.eR _|refine Sh.eA ?_ _|refine Sh.eD ?_|refine Sh.eT ?_ (by assumption))|exact Sh.eR _))
   ·simp (disch:=first|omega|simp only [RO]|(simp only [RZ]<;>omega)|fail) only [↓RBp,↓RA,↓reduceIte,Nat.reduceAdd,Nat.reduceMul,Nat.reduceEqDiff,RB,RX,RA2,c0,c1]
    refine hh _ _ (by repeat (first|(with_reducible first|refine Sh.eB ?_ (by first|omega|(simp only [RZ]<;>omega)) _|assumption|exact Sh.eR _|refine Sh.eA ?_ _|refine Sh.eD ?_|refine Sh.eT ?_ (by assumption))|exact Sh.eR _)) (fun w1 e1=> ?_)
    have e01:Ext w w1:=Ext.trans (by repeat (first|(with_reducible first|refine Sh.eB ?_ (by first|omega|(simp only [RZ]<;>omega)) _|assumption|exact Sh.eR _|refine Sh.eA ?_ _|refine Sh.eD ?_|refine Sh.eT ?_ (by assumption))|exact Sh.eR _)) e1
    simp (disch:=first|omega|simp only [RO]|(simp only [RZ]<;>omega)|fail) only [↓RBp,↓RA,↓reduceIte,Nat.reduceAdd,Nat.reduceMul,Nat.reduceEqDiff,RB,RX,RA2,hc]
    refine k_copy (hm.ext e01) (fun x hx=>Nat.lt_of_lt_of_le (hP x hx) e01.size) n0 hn _ (fun g q cp w2 e2 hg m2=> ?_)
    have m3:=m2.wr1 hkn on
    have d1:=m2.m.cell rfl (mdL_get sl (mH f) n k hkn).2
    rw [←Nat.add_assoc] at d1
    have fz:=fun i=>m2.m.frz (b:=g) rfl i
    have e02:=e01.trans e2
    have hs1:=e01.size
    simp (disch:=first|omega|simp only [RO]|(simp only [RZ]<;>omega)|fail) only [↓RBp,↓RA,↓reduceIte,Nat.reduceAdd,Nat.reduceMul,Nat.reduceEqDiff,RB,RX,RA2,d1,fz]
    refine hK hc _ _ ?_ (m3.congr (fun _ _ _ _=>rfl) (fun j hj=> ?_))
    ·exact Ext.setB e02 (show w.heap.size≤g by omega) _
    ·unfold mH upF
     by_cases e:j=k
     ·rw [if_pos e,if_pos e]
     ·rw [if_neg e,if_neg e]
  ·simp (disch:=first|omega|simp only [RO]|(simp only [RZ]<;>omega)|fail) only [↓RBp,↓RA,↓reduceIte,Nat.reduceAdd,Nat.reduceMul,Nat.reduceEqDiff,RB,RX,RA2,hkn]
   exact h5 (by omega) _ (Ext.refl _)
theorem k_rRelease (h:RgS D l0 n f) (hm:MdS w P v sl n (mW D l0) (mH f)) (hP:∀x,P x→x<w.heap.size) (n0:0<n) (hn:n<1000) (a:Int) (K:K1)
  (h5:¬(0≤a∧a<n)→∀w',Ext w w'→K (.tuple #[v,.int .i64 5]) w')
  (h8:∀k:Nat,a=(k:Int)→k<n→emG D l0 f k=none→∀w',Ext w w'→K (.tuple #[v,.int .i64 8]) w')
  (hK:∀(k:Nat) (g:Nat),a=(k:Int)→k<n→emG D l0 f k=some g→∀v' sl' w',Ext w w'→MdS w' P v' sl' n (upF (mW D l0) k (fun i=>if i=0 then sealN (hdX (-1) (-1) g) else wd D (l0+32*k) i)) (upF (mH f) k false)→K (.tuple #[v',.int .i64 0]) w'):
  callS Tryz.prog 51 #[v,.int .i64 a] w K:=by
 obtain ⟨_,_,_,vg,vq,vcp,rfl,_⟩:=h.agm hm 0 n0
 refine f51_call _ _ _ _ ?_
 unfold f51_t
 by_cases ha0:a<0
 ·simp (disch:=first|omega|simp only [RO]|(simp only [RZ]<;>omega)|fail) only [↓RBp,↓RA,↓reduceIte,Nat.reduceAdd,Nat.reduceMul,Nat.reduceEqDiff,RB,RX,RA2,ha0]
  exact h5 (by omega) _ (Ext.refl _)
 ·obtain ⟨k,rfl⟩:∃k:Nat,a=(k:Int):=⟨a.toNat,by omega⟩
  by_cases hkn:k<n
  ·have h8:=h8 k rfl hkn
   have hK:=fun g=>hK k g rfl hkn
   obtain ⟨b,o,cap,g,q,cp,hv,ltg,c0,c1,hw,hsk,hsl,hh⟩:=h.agm hm k hkn
   injection hv with e1 _ e3
   injection e1 with e1
   injection e1 with e4 e5 _
   subst e4;subst e5;subst e3
   have hem:=fun (w1:World) (e:Ext w w1) (K:K1) hK=>k_empty h hkn (hw.ext e) (cap:=cap) K hK
   have heg:=fun g hg=>emG_ok' h hkn (g:=g) hg
   generalize hm1:(f k).2.2=mm at*
   simp (disch:=first|omega|simp only [RO]|(simp only [RZ]<;>omega)|fail) only [↓RBp,↓RA,↓reduceIte,Nat.reduceAdd,Nat.reduceMul,Nat.reduceEqDiff,RB,RX,RA2,c0,c1]
   refine hem _ (by repeat (first|(with_reducible first|refine Sh.eB ?_ (by first|omega|(simp only [RZ]<;>omega)) _|assumption|exact Sh.eR _|refine Sh.eA ?_ _|refine Sh.eD ?_|refine Sh.eT ?_ (by assumption))|exact Sh.eR _)) _ (fun w1 e1=> ?_)
   have e01:Ext w w1:=Ext.trans (by repeat (first|(with_reducible first|refine Sh.eB ?_ (by first|omega|(simp only [RZ]<;>omega)) _|assumption|exact Sh.eR _|refine Sh.eA ?_ _|refine Sh.eD ?_|refine Sh.eT ?_ (by assumption))|exact Sh.eR _)) e1
   cases hg:emG D l0 f k with
   |none=>
    simp only [Option.isSome_none]
    try simp (disch:=first|omega|simp only [RO]|(simp only [RZ]<;>omega)|fail) only [↓RBp,↓RA,↓reduceIte,Nat.reduceAdd,Nat.reduceMul,Nat.reduceEqDiff,RB,RX,RA2]
    exact h8 hg _ e01
   |some gg=>
    have g6:=(heg gg hg).2.2.2.2
    simp only [Option.isSome_some,Option.getD_some]
    try simp (disch:=first|omega|simp only [RO]|(simp only [RZ]<;>omega)|fail) only [↓RBp,↓RA,↓reduceIte,Nat.reduceAdd,Nat.reduceMul,Nat.reduceEqDiff,RB,RX,RA2]
    refine k_copy (hm.ext e01) (fun x hx=>Nat.lt_of_lt_of_le (hP x hx) e01.size) n0 hn _ (fun g q cp w2 e2 hg2 m2=> ?_)
    have e02:=e01.trans e2
    have c0:=e02.cell_some c0
    have c1:=e02.cell_some c1
    have hs1:=e01.size
    have hs2:=e2.size
    simp (disch:=first|omega|simp only [RO]|(simp only [RZ]<;>omega)|fail) only [↓RBp,↓RA,↓reduceIte,Nat.reduceAdd,Nat.reduceMul,Nat.reduceEqDiff,RB,RX,RA2,c0,c1]
    refine k_clear (hsl.ext (e02.trans (by repeat (first|(with_reducible first|refine Sh.eB ?_ (by first|omega|(simp only [RZ]<;>omega)) _|assumption|exact Sh.eR _|refine Sh.eA ?_ _|refine Sh.eD ?_|refine Sh.eT ?_ (by assumption))|exact Sh.eR _)))) mm g6 _ (fun b' o' cap' w3 e3 hb3 hs3=> ?_)
    have e23:Ext w2 w3:=Ext.trans (by repeat (first|(with_reducible first|refine Sh.eB ?_ (by first|omega|(simp only [RZ]<;>omega)) _|assumption|exact Sh.eR _|refine Sh.eA ?_ _|refine Sh.eD ?_|refine Sh.eT ?_ (by assumption))|exact Sh.eR _)) e3
    have m3:=m2.ext e23
    have ltg2:g<w2.heap.size:=m2.m.lt rfl
    have d0:=m3.m.cell rfl (mdL_get sl (mH f) n k hkn).1
    have d1:=m3.m.cell rfl (mdL_get sl (mH f) n k hkn).2
    rw [←Nat.add_assoc] at d1
    have fz:=fun i=>m3.m.frz (b:=g) rfl i
    have m4:=m3.wr hkn (WsL.new hs3 (m:=w2.heap.size) hb3 (fun x hx=>by have:=hP x hx;omega)) (by omega) false
    rw [hsk] at d0
    simp (disch:=first|omega|simp only [RO]|(simp only [RZ]<;>omega)|fail) only [↓RBp,↓RA,↓reduceIte,Nat.reduceAdd,Nat.reduceMul,Nat.reduceEqDiff,RB,RX,RA2,d0,d1,fz]
    refine hK gg hg _ _ _ ?_ m4
    exact Ext.setB (Ext.setB (e02.trans e23) (show w.heap.size≤g by omega) _) (show w.heap.size≤g by omega) _
  ·simp (disch:=first|omega|simp only [RO]|(simp only [RZ]<;>omega)|fail) only [↓RBp,↓RA,↓reduceIte,Nat.reduceAdd,Nat.reduceMul,Nat.reduceEqDiff,RB,RX,RA2,hkn]
   exact h5 (by omega) _ (Ext.refl _)
end
end Go.Proofs.YtifpinhjpbgnoaaGreatDoor
namespace Go.Proofs.YtifpinhjpbgnoaaGreatDoor
open Go Go.Sh
set_option maxRecDepth 100000
set_option maxHeartbeats 4000000
set_option linter.unusedSimpArgs false
set_option linter.unusedVariables false
def How (D:DS) (l0 n:Nat) (f:Nat→Int×Int×Bool) (k g:Nat):Prop:=((f k).1<0∧(∀j,j<k→¬(f j).1<0)∧g=gX (wd D (l0+32*k) 0))∨((∀j,j<n→¬(f j).1<0)∧emG D l0 f k=some g∧∀j,j<k→emG D l0 f j=none)
theorem How.uniq {D:DS} {l0 n:Nat} {f:Nat→Int×Int×Bool} {k g k' g':Nat} (h:How D l0 n f k g) (h':How D l0 n f k' g') (hk:k<n) (hk':k'<n):k=k'∧g=g':=by
 have lt:∀{a b:Nat},¬a<b→¬b<a→a=b:=fun {a b} h1 h2=>by omega
 rcases h with ⟨a1,a2,a3⟩|⟨a1,a2,a3⟩
 ·rcases h' with ⟨b1,b2,b3⟩|⟨b1,b2,b3⟩
  ·have e:k=k':=lt (fun h=>b2 k h a1) (fun h=>a2 k' h b1)
   subst e
   exact ⟨rfl,a3.trans b3.symm⟩
  ·exact absurd a1 (b1 k hk)
 ·rcases h' with ⟨b1,b2,b3⟩|⟨b1,b2,b3⟩
  ·exact absurd b1 (a1 k' hk')
  ·have e:k=k':=lt (fun h=>by rw [b3 k h] at a2;cases a2) (fun h=>by rw [a3 k' h] at b2;cases b2)
   subst e
   rw [a2] at b2
   exact ⟨rfl,Option.some.inj b2⟩
def bxF (v:Value) (m:Bool) (i:Nat):Value:= [v,.bool m].getD i undef
section
variable {wb w w':World} {P:Nat→Prop} {v:Value} {sl:Nat→Value} {n k b o cap B g l0:Nat} {U:Nat→Nat} {D:DS} {f:Nat→Int×Int×Bool} {c t:Int}
theorem rc_k5 (hm:MdS wb P v sl n (mW D l0) (mH f)) (hP:∀x,P x→x<wb.heap.size) (n0:0<n) (hn:n<1000) (hk:k<n) (e:Ext wb w) (hB:Cells w B 42 2 (bxF (wsV b o cap) (f k).2.2)) (nB:wb.heap.size≤B) (hs:SlO w 30 1 (wsV b o cap) 256 (wdL U 256)) (c0:0≤c) (c5:c<5) (t0:0≤t) (t8:t<8) (g6:g<65536) (K:K1)
  (hK:∀v' sl' w',Ext wb w'→MdS w' P v' sl' n (upF (mW D l0) k (planF c t g U)) (mH f)→K (.tuple #[v',.int .i64 (k:Int),.int .i64 0]) w'):
  f56_k5 K v (.int .i64 t) (.int .i64 c) (.int .i64 (k:Int)) (.int .u16 (g:Int)) (.pointer (some ⟨B,0,none⟩)) w:=by
 have p0:w.cell? ⟨B,0,none⟩=some (wsV b o cap):=hB.cell (i:=0) (by omega)
 have ltB:=hB.lt
 rw [f56_k5_eq]
 unfold f56_k5_t
 simp (disch:=first|omega|simp only [RO]|(simp only [RZ]<;>omega)|fail) only [↓RBp,↓RA,↓reduceIte,Nat.reduceAdd,Nat.reduceMul,Nat.reduceEqDiff,RB,RX,RA2,p0]
 refine k_rFormatW (hs.ext (by repeat (first|(with_reducible first|refine Sh.eB ?_ (by first|omega|(simp only [RZ]<;>omega)) _|assumption|exact Sh.eR _|refine Sh.eA ?_ _|refine Sh.eD ?_|refine Sh.eT ?_ (by assumption))|exact Sh.eR _))) c0 c5 t0 t8 g6 _ (fun b2 o2 cap2 w1 e1 hb2 hs2=> ?_)
 have e01:Ext w w1:=Ext.trans (by repeat (first|(with_reducible first|refine Sh.eB ?_ (by first|omega|(simp only [RZ]<;>omega)) _|assumption|exact Sh.eR _|refine Sh.eA ?_ _|refine Sh.eD ?_|refine Sh.eT ?_ (by assumption))|exact Sh.eR _)) e1
 have hb2':w.heap.size≤b2:=hb2
 have hB1:=hB.ext e01
 have q0:w1.cell? ⟨B,0,none⟩=some (wsV b o cap):=hB1.cell (i:=0) (by omega)
 have q1:w1.cell? ⟨B,1,none⟩=some (.bool (f k).2.2):=hB1.cell (i:=1) (by omega)
 have fz:=hB1.frz
 have hB2:=hB1.set (i:=0) (wsV b2 o2 cap2) (by omega)
 have lt1:=e01.size
 have eb:=e.size
 have ew:Ext wb (w1.setCell ⟨B,0,none⟩ (wsV b2 o2 cap2)):=Ext.setB (e.trans e01) nB _
 simp (disch:=first|omega|simp only [RO]|(simp only [RZ]<;>omega)|fail) only [↓RBp,↓RA,↓reduceIte,Nat.reduceAdd,Nat.reduceMul,Nat.reduceEqDiff,RB,RX,RA2,q0,fz]
 refine k_copy (hm.ext ew) (fun x hx=>Nat.lt_of_lt_of_le (hP x hx) ew.size) n0 hn _ (fun g' q' cp' w3 e3 hg3 m3=> ?_)
 have hs2':=(hs2.frm (Frm.one w1 B 0 (wsV b2 o2 cap2)) (fun x hx h2=>by have h9:b2=x:=Option.some.inj hx;omega)).ext e3
 have hB3:=hB2.ext e3
 have r0:w3.cell? ⟨B,0,none⟩=some (wsV b2 o2 cap2):=by have:=hB3.cell (i:=0) (by omega);rwa [if_pos rfl] at this
 have r1:w3.cell? ⟨B,1,none⟩=some (.bool (f k).2.2):=by have:=hB3.cell (i:=1) (by omega);rwa [if_neg (by omega)] at this
 have d0:=m3.m.cell rfl (mdL_get sl (mH f) n k hk).1
 have d1:=m3.m.cell rfl (mdL_get sl (mH f) n k hk).2
 rw [←Nat.add_assoc] at d1
 have fz:=fun i=>m3.m.frz (b:=g') rfl i
 obtain ⟨sb,so,sc,hsk,_⟩:=hm.ws k hk
 rw [hsk] at d0
 have hg3':w1.heap.size≤g':=by simpa only [RZ] using hg3
 have ltb2:b2<w1.heap.size:=hs2.lt rfl
 have m4:=m3.wr hk (WsL.new hs2' hb2' (fun x hx=>by have:=hP x hx;omega)) (by omega) (f k).2.2
 simp (disch:=first|omega|simp only [RO]|(simp only [RZ]<;>omega)|fail) only [↓RBp,↓RA,↓reduceIte,Nat.reduceAdd,Nat.reduceMul,Nat.reduceEqDiff,RB,RX,RA2,r0,r1,d0,d1,fz]
 refine hK _ _ _ ?_ (m4.congr (fun _ _ _ _=>rfl) (fun j hj=> ?_))
 ·exact Ext.setB (Ext.setB (ew.trans e3) (show wb.heap.size≤g' by omega) _) (show wb.heap.size≤g' by omega) _
 ·by_cases ej:j=k
  ·rw [ej,upF_eq];rfl
  ·rw [upF_ne _ _ ej]
theorem rc_k4 (h:RgS D l0 n f) (hm:MdS w P v sl n (mW D l0) (mH f)) (hP:∀x,P x→x<w.heap.size) (n0:0<n) (hn:n<1000) (hk:k<n) (c0:0≤c) (c5:c<5) (t0:0≤t) (t8:t<8) (G g:Nat) (hg:(G≠0∧g=G)∨(G=0∧emG D l0 f k=some g)) (g6:g<65536) (K:K1)
  (hK:∀v' sl' w',Ext w w'→MdS w' P v' sl' n (upF (mW D l0) k (planF c t g (wd D (l0+32*k)))) (mH f)→K (.tuple #[v',.int .i64 (k:Int),.int .i64 0]) w'):
  f56_k4 K v (.int .i64 t) (.int .i64 c) (.int .i64 (k:Int)) (.int .u16 (G:Int)) w:=by
 obtain ⟨b,o,cap,vg,q,cp,rfl,ltg,d0,d1,hw,hsk,hsl,hh⟩:=h.agm hm k hk
 have hem:=fun (w1:World) (e:Ext w w1) (K:K1) hK=>k_empty h hk (hw.ext e) (cap:=cap) K hK
 have hC:=Cells.new w [wsV b o cap,.bool (f k).2.2] 42
 have hcl:=fun (w1:World) (e:Ext w w1) (K:K1) hK=>k_clear (hsl.ext e) (f k).2.2 (g:=g) g6 K hK
 have fin:=fun (w1:World) (e:Ext w w1)=>rc_k5 hm hP n0 hn hk (B:=w.heap.size) (b:=b) (o:=o) (cap:=cap) (U:=wd D (l0+32*k)) e (c:=c) (t:=t) (g:=g)
 have hB0:=(Cells.new w [Value.slice none 0 0,.bool false] 42)
 rw [f56_k4_eq]
 unfold f56_k4_t
 rcases hg with ⟨hG,rfl⟩|⟨rfl,hg⟩
 ·simp (disch:=first|omega|simp only [RO]|(simp only [RZ]<;>omega)|fail) only [↓RBp,↓RA,↓reduceIte,Nat.reduceAdd,Nat.reduceMul,Nat.reduceEqDiff,RB,RX,RA2,d0,d1,hG]
  exact rc_k5 hm hP n0 hn hk (Ext.alloc_self _ _) hC (Nat.le_refl _) (hsl.ext (Ext.alloc_self _ _)) c0 c5 t0 t8 g6 K hK
 ·rw [hg] at hem
  simp only [Option.getD_some,Option.isSome_some] at hem
  have hgk:=emG_ok' h hk hg
  simp (disch:=first|omega|simp only [RO]|(simp only [RZ]<;>omega)|fail) only [↓RBp,↓RA,↓reduceIte,Nat.reduceAdd,Nat.reduceMul,Nat.reduceEqDiff,RB,RX,RA2,d0,d1]
  refine hem _ (Ext.alloc_self _ _) _ (fun w1 e1=> ?_)
  have e01:Ext w w1:=Ext.trans (Ext.alloc_self _ _) e1
  have hC1:Cells w1 w.heap.size 42 2 (bxF (wsV b o cap) (f k).2.2):=hC.ext e1
  have p0:w1.cell? ⟨w.heap.size,0,none⟩=some (wsV b o cap):=hC1.cell (i:=0) (by omega)
  have p1:w1.cell? ⟨w.heap.size,1,none⟩=some (.bool (f k).2.2):=hC1.cell (i:=1) (by omega)
  have lt1:=hC1.lt
  simp (disch:=first|omega|simp only [RO]|(simp only [RZ]<;>omega)|fail) only [↓RBp,↓RA,↓reduceIte,Nat.reduceAdd,Nat.reduceMul,Nat.reduceEqDiff,RB,RX,RA2,p0,p1]
  refine hcl _ (e01.trans (by repeat (first|(with_reducible first|refine Sh.eB ?_ (by first|omega|(simp only [RZ]<;>omega)) _|assumption|exact Sh.eR _|refine Sh.eA ?_ _|refine Sh.eD ?_|refine Sh.eT ?_ (by assumption))|exact Sh.eR _))) _ (fun b' o' cap' w2 e2 hb2 hs2=> ?_)
  have e12:Ext w1 w2:=Ext.trans (by repeat (first|(with_reducible first|refine Sh.eB ?_ (by first|omega|(simp only [RZ]<;>omega)) _|assumption|exact Sh.eR _|refine Sh.eA ?_ _|refine Sh.eD ?_|refine Sh.eT ?_ (by assumption))|exact Sh.eR _)) e2
  have hC2:=hC1.ext e12
  have q0:w2.cell? ⟨w.heap.size,0,none⟩=some (wsV b o cap):=hC2.cell (i:=0) (by omega)
  have q1:w2.cell? ⟨w.heap.size,1,none⟩=some (.bool (f k).2.2):=hC2.cell (i:=1) (by omega)
  have fz:=hC2.frz
  have hC3:Cells ((w2.setCell ⟨w.heap.size,0,none⟩ (wsV b' o' cap')).setCell ⟨w.heap.size,1,none⟩ (.bool false)) w.heap.size 42 2 (bxF (wsV b' o' cap') (f k).2.2):=((hC2.set (i:=0) (wsV b' o' cap') (by omega)).set (i:=1) (.bool false) (by omega)).congr (fun j hj=>by
   rcases j with _|_|j
   ·rfl
   ·rw [hgk.2.2.1];rfl
   ·omega)
  have ew:Ext w ((w2.setCell ⟨w.heap.size,0,none⟩ (wsV b' o' cap')).setCell ⟨w.heap.size,1,none⟩ (.bool false)):=Ext.setB (Ext.setB (e01.trans e12) (Nat.le_refl _) _) (Nat.le_refl _) _
  have hb2':w1.heap.size≤b':=by first|exact hb2|simpa only [RZ] using hb2
  have nb:∀x,(wsV b' o' cap').ownBlock=some x→¬x=w.heap.size:=fun x hx h2=>by have h9:b'=x:=Option.some.inj hx;omega
  have hs3:=(hs2.frm (Frm.one _ w.heap.size 0 (wsV b' o' cap')) nb).frm (Frm.one _ w.heap.size 1 (.bool false)) nb
  simp (disch:=first|omega|simp only [RO]|(simp only [RZ]<;>omega)|fail) only [↓RBp,↓RA,↓reduceIte,Nat.reduceAdd,Nat.reduceMul,Nat.reduceEqDiff,RB,RX,RA2,q0,q1,fz]
  refine rc_k5 hm hP n0 hn hk ew hC3 (Nat.le_refl _) hs3 c0 c5 t0 t8 g6 K (fun v' sl' w' e' m'=>hK v' sl' w' e' (m'.congr (fun j hj i hi=> ?_) (fun _ _=>rfl)))
  by_cases ej:j=k
  ·rw [ej,upF_eq,upF_eq]
   unfold planF
   by_cases h0:i=0
   ·rw [if_pos h0,if_pos h0]
   ·have e9:(fun i=>if i=0 then sealN (hdX (-1) (-1) g) else wd D (l0+32*k) i) i=wd D (l0+32*k) i:=if_neg h0
    rw [if_neg h0,if_neg h0,e9]
  ·rw [upF_ne _ _ ej,upF_ne _ _ ej]
theorem k_rClaimBad {v:Value} (hb:¬(0≤t∧t<8∧0≤c∧c<5)) (K:K1) (hK:K (.tuple #[v,.int .i64 0,.int .i64 1]) w):
  callS Tryz.prog 56 #[v,.int .i64 t,.int .i64 c] w K:=by
 refine f56_call _ _ _ _ _ ?_
 unfold f56_t
 by_cases h0:t<0
 ·simp (disch:=first|omega|simp only [RO]|(simp only [RZ]<;>omega)|fail) only [↓RBp,↓RA,↓reduceIte,Nat.reduceAdd,Nat.reduceMul,Nat.reduceEqDiff,RB,RX,RA2,h0]
  exact hK
 ·by_cases h7:7<t
  ·simp (disch:=first|omega|simp only [RO]|(simp only [RZ]<;>omega)|fail) only [↓RBp,↓RA,↓reduceIte,Nat.reduceAdd,Nat.reduceMul,Nat.reduceEqDiff,RB,RX,RA2,h0,h7]
   exact hK
  ·by_cases h1:c<0
   ·simp (disch:=first|omega|simp only [RO]|(simp only [RZ]<;>omega)|fail) only [↓RBp,↓RA,↓reduceIte,Nat.reduceAdd,Nat.reduceMul,Nat.reduceEqDiff,RB,RX,RA2,h0,h7,h1]
    exact hK
   ·have h4:4<c:=by omega
    simp (disch:=first|omega|simp only [RO]|(simp only [RZ]<;>omega)|fail) only [↓RBp,↓RA,↓reduceIte,Nat.reduceAdd,Nat.reduceMul,Nat.reduceEqDiff,RB,RX,RA2,h0,h7,h1,h4]
    exact hK
theorem k_rClaim (h:RgS D l0 n f) (hm:MdS w P v sl n (mW D l0) (mH f)) (hP:∀x,P x→x<w.heap.size) (n0:0<n) (hn:n<1000) (c0:0≤c) (c5:c<5) (t0:0≤t) (t8:t<8) (K:K1)
  (h4:(∀j,j<n→¬(f j).1<0)→(∀j,j<n→emG D l0 f j=none)→∀w',Ext w w'→K (.tuple #[v,.int .i64 0,.int .i64 4]) w')
  (hK:∀k g,k<n→g≠0→g<65536→How D l0 n f k g→∀v' sl' w',Ext w w'→MdS w' P v' sl' n (upF (mW D l0) k (planF c t g (wd D (l0+32*k)))) (mH f)→K (.tuple #[v',.int .i64 (k:Int),.int .i64 0]) w'):
  callS Tryz.prog 56 #[v,.int .i64 t,.int .i64 c] w K:=by
 obtain ⟨_,_,_,vg,vq,vcp,hv,_⟩:=h.agm hm 0 n0
 refine f56_call _ _ _ _ _ ?_
 unfold f56_t
 rw [hv]
 simp (disch:=first|omega|simp only [RO]|(simp only [RZ]<;>omega)|fail) only [↓RBp,↓RA,↓reduceIte,Nat.reduceAdd,Nat.reduceMul,Nat.reduceEqDiff,RB,RX,RA2]
 rw [←hv]
 apply f56_l1_rule (I:=fun x z w'=>∃i:Nat,z= .int .i64 ((i:Int)-1)∧i≤n∧Ext w w'∧((x= .int .i64 (-1)∧∀j,i≤j→j<n→¬(f j).1<0)∨(∃a:Nat,x= .int .i64 (a:Int)∧i≤a∧a<n∧(f a).1<0∧∀j,i≤j→j<a→¬(f j).1<0))) (μ:=fun _ z _=>(Go.RowKit.intOf z+1).toNat)
 ·exact ⟨n,rfl,Nat.le_refl _,Ext.refl _,.inl ⟨rfl,fun j h1 h2=>absurd h1 (by omega)⟩⟩
 ·intros;rename_i x z w1 hI E1 hE
  obtain ⟨i,rfl,hi,e1,hx⟩:=hI
  by_cases hi0:0<i
  ·obtain ⟨m,rfl⟩:∃m,i=m+1:=⟨i-1,by omega⟩
   have em:((m+1:Nat):Int)-1=(m:Int):=by omega
   obtain ⟨b,o,cap,g,q,cp,hv2,ltg,d0,d1,hw,hsk,hsl,hh⟩:=h.agm (hm.ext e1) m (by omega)
   by_cases hc:(f m).1<0
   ·have hnx:∀w',Ext w w'→E1 (.int .i64 (m:Int)) (.int .i64 ((m:Int)-1)) w':=fun w' e'=>by
     apply hE
     ·exact ⟨m,rfl,by omega,e',.inr ⟨m,rfl,Nat.le_refl _,by omega,hc,fun j h1 h2=>absurd h1 (by omega)⟩⟩
     ·simp [Go.RowKit.intOf]
    generalize gX (wd D (l0+32*m) 0)=gg at*
    generalize (f m).2.2=mm at*
    generalize (f m).2.1=oo at*
    generalize (f m).1=cc at*
    unfold f56_l1_t
    rw [hv2]
    simp (disch:=first|omega|simp only [RO]|(simp only [RZ]<;>omega)|fail) only [↓RBp,↓RA,↓reduceIte,Nat.reduceAdd,Nat.reduceMul,Nat.reduceEqDiff,RB,RX,RA2,em,d0,d1]
    refine hh _ _ (by repeat (first|(with_reducible first|refine Sh.eB ?_ (by first|omega|(simp only [RZ]<;>omega)) _|assumption|exact Sh.eR _|refine Sh.eA ?_ _|refine Sh.eD ?_|refine Sh.eT ?_ (by assumption))|exact Sh.eR _)) (fun w2 e2=> ?_)
    simp (disch:=first|omega|simp only [RO]|(simp only [RZ]<;>omega)|fail) only [↓RBp,↓RA,↓reduceIte,Nat.reduceAdd,Nat.reduceMul,Nat.reduceEqDiff,RB,RX,RA2,em,hc,f56_k3_eq,f56_k3_t]
    exact hnx _ (e1.trans (Ext.trans (by repeat (first|(with_reducible first|refine Sh.eB ?_ (by first|omega|(simp only [RZ]<;>omega)) _|assumption|exact Sh.eR _|refine Sh.eA ?_ _|refine Sh.eD ?_|refine Sh.eT ?_ (by assumption))|exact Sh.eR _)) e2))
   ·have hnx:∀w',Ext w w'→E1 x (.int .i64 ((m:Int)-1)) w':=fun w' e'=>by
     apply hE
     ·refine ⟨m,rfl,by omega,e',?_⟩
      rcases hx with ⟨hx,hn2⟩|⟨a,hx,h1,h2,h3,h5⟩
      ·exact .inl ⟨hx,fun j h6 h7=>by
        by_cases ej:j=m
        ·rw [ej];exact hc
        ·exact hn2 j (by omega) h7⟩
      ·exact .inr ⟨a,hx,by omega,h2,h3,fun j h6 h7=>by
        by_cases ej:j=m
        ·rw [ej];exact hc
        ·exact h5 j (by omega) h7⟩
     ·simp [Go.RowKit.intOf]
    generalize gX (wd D (l0+32*m) 0)=gg at*
    generalize (f m).2.2=mm at*
    generalize (f m).2.1=oo at*
    generalize (f m).1=cc at hc hh
    unfold f56_l1_t
    rw [hv2]
    simp (disch:=first|omega|simp only [RO]|(simp only [RZ]<;>omega)|fail) only [↓RBp,↓RA,↓reduceIte,Nat.reduceAdd,Nat.reduceMul,Nat.reduceEqDiff,RB,RX,RA2,em,d0,d1]
    refine hh _ _ (by repeat (first|(with_reducible first|refine Sh.eB ?_ (by first|omega|(simp only [RZ]<;>omega)) _|assumption|exact Sh.eR _|refine Sh.eA ?_ _|refine Sh.eD ?_|refine Sh.eT ?_ (by assumption))|exact Sh.eR _)) (fun w2 e2=> ?_)
    simp (disch:=first|omega|simp only [RO]|(simp only [RZ]<;>omega)|fail) only [↓RBp,↓RA,↓reduceIte,Nat.reduceAdd,Nat.reduceMul,Nat.reduceEqDiff,RB,RX,RA2,em,hc,f56_k3_eq,f56_k3_t]
    exact hnx _ (e1.trans (Ext.trans (by repeat (first|(with_reducible first|refine Sh.eB ?_ (by first|omega|(simp only [RZ]<;>omega)) _|assumption|exact Sh.eR _|refine Sh.eA ?_ _|refine Sh.eD ?_|refine Sh.eT ?_ (by assumption))|exact Sh.eR _)) e2))
  ·have:i=0:=by omega
   subst this
   unfold f56_l1_t
   rcases hx with ⟨rfl,hn2⟩|⟨a,rfl,h1,h2,h3,h5⟩
   ·
    have hall:∀j,j<n→¬(f j).1<0:=fun j hj=>hn2 j (by omega) hj
    rw [hv]
    simp (disch:=first|omega|simp only [RO]|(simp only [RZ]<;>omega)|fail) only [↓RBp,↓RA,↓reduceIte,Nat.reduceAdd,Nat.reduceMul,Nat.reduceEqDiff,RB,RX,RA2,f56_k1_eq,f56_k1_t,f56_k2_eq,f56_k2_t]
    rw [←hv]
    apply f56_l2_rule (I:=fun x z w'=>∃i:Nat,z= .int .i64 ((i:Int)-1)∧i≤n∧Ext w w'∧((x= .int .i64 (-1)∧∀j,i≤j→j<n→emG D l0 f j=none)∨(∃a g:Nat,x= .int .i64 (a:Int)∧i≤a∧a<n∧emG D l0 f a=some g∧∀j,i≤j→j<a→emG D l0 f j=none))) (μ:=fun _ z _=>(Go.RowKit.intOf z+1).toNat)
    ·exact ⟨n,rfl,Nat.le_refl _,e1,.inl ⟨rfl,fun j h1 h2=>absurd h1 (by omega)⟩⟩
    ·intros;rename_i x z w3 hI3 E3 hE3
     obtain ⟨i,rfl,hi,e3,hx⟩:=hI3
     by_cases hi0:0<i
     ·obtain ⟨m,rfl⟩:∃m,i=m+1:=⟨i-1,by omega⟩
      have em:((m+1:Nat):Int)-1=(m:Int):=by omega
      obtain ⟨b,o,cap,g,q,cp,hv2,ltg,d0,d1,hw,hsk,hsl,hh⟩:=h.agm (hm.ext e3) m (by omega)
      have hemp:=fun (w4:World) (e:Ext w3 w4) (K:K1) hK=>k_empty h (show m<n by omega) (hw.ext e) (cap:=cap) K hK
      cases hg:emG D l0 f m with
      |some gg=>
       rw [hg] at hemp
       simp only [Option.getD_some,Option.isSome_some] at hemp
       have hnx:∀w',Ext w w'→E3 (.int .i64 (m:Int)) (.int .i64 ((m:Int)-1)) w':=fun w' e'=>by
        apply hE3
        ·exact ⟨m,rfl,by omega,e',.inr ⟨m,gg,rfl,Nat.le_refl _,by omega,hg,fun j h1 h2=>absurd h1 (by omega)⟩⟩
        ·simp [Go.RowKit.intOf]
       unfold f56_l2_t
       rw [hv2]
       simp (disch:=first|omega|simp only [RO]|(simp only [RZ]<;>omega)|fail) only [↓RBp,↓RA,↓reduceIte,Nat.reduceAdd,Nat.reduceMul,Nat.reduceEqDiff,RB,RX,RA2,em,d0,d1]
       refine hemp _ (by repeat (first|(with_reducible first|refine Sh.eB ?_ (by first|omega|(simp only [RZ]<;>omega)) _|assumption|exact Sh.eR _|refine Sh.eA ?_ _|refine Sh.eD ?_|refine Sh.eT ?_ (by assumption))|exact Sh.eR _)) _ (fun w4 e4=> ?_)
       simp (disch:=first|omega|simp only [RO]|(simp only [RZ]<;>omega)|fail) only [↓RBp,↓RA,↓reduceIte,Nat.reduceAdd,Nat.reduceMul,Nat.reduceEqDiff,RB,RX,RA2,em,f56_k6_eq,f56_k6_t]
       exact hnx _ (e3.trans (Ext.trans (by repeat (first|(with_reducible first|refine Sh.eB ?_ (by first|omega|(simp only [RZ]<;>omega)) _|assumption|exact Sh.eR _|refine Sh.eA ?_ _|refine Sh.eD ?_|refine Sh.eT ?_ (by assumption))|exact Sh.eR _)) e4))
      |none=>
       rw [hg] at hemp
       simp only [Option.getD_none,Option.isSome_none] at hemp
       have hnx:∀w',Ext w w'→E3 x (.int .i64 ((m:Int)-1)) w':=fun w' e'=>by
        apply hE3
        ·refine ⟨m,rfl,by omega,e',?_⟩
         rcases hx with ⟨hx,hn2⟩|⟨a,g2,hx,h1,h2,h3,h5⟩
         ·exact .inl ⟨hx,fun j h6 h7=>by
           by_cases ej:j=m
           ·rw [ej];exact hg
           ·exact hn2 j (by omega) h7⟩
         ·exact .inr ⟨a,g2,hx,by omega,h2,h3,fun j h6 h7=>by
           by_cases ej:j=m
           ·rw [ej];exact hg
           ·exact h5 j (by omega) h7⟩
        ·simp [Go.RowKit.intOf]
       unfold f56_l2_t
       rw [hv2]
       simp (disch:=first|omega|simp only [RO]|(simp only [RZ]<;>omega)|fail) only [↓RBp,↓RA,↓reduceIte,Nat.reduceAdd,Nat.reduceMul,Nat.reduceEqDiff,RB,RX,RA2,em,d0,d1]
       refine hemp _ (by repeat (first|(with_reducible first|refine Sh.eB ?_ (by first|omega|(simp only [RZ]<;>omega)) _|assumption|exact Sh.eR _|refine Sh.eA ?_ _|refine Sh.eD ?_|refine Sh.eT ?_ (by assumption))|exact Sh.eR _)) _ (fun w4 e4=> ?_)
       simp (disch:=first|omega|simp only [RO]|(simp only [RZ]<;>omega)|fail) only [↓RBp,↓RA,↓reduceIte,Nat.reduceAdd,Nat.reduceMul,Nat.reduceEqDiff,RB,RX,RA2,em,f56_k6_eq,f56_k6_t]
       exact hnx _ (e3.trans (Ext.trans (by repeat (first|(with_reducible first|refine Sh.eB ?_ (by first|omega|(simp only [RZ]<;>omega)) _|assumption|exact Sh.eR _|refine Sh.eA ?_ _|refine Sh.eD ?_|refine Sh.eT ?_ (by assumption))|exact Sh.eR _)) e4))
     ·have:i=0:=by omega
      subst this
      have e0:((0:Nat):Int)-1= -1:=by omega
      unfold f56_l2_t
      rcases hx with ⟨rfl,hn2⟩|⟨a,g2,rfl,h1,h2,h3,h5⟩
      ·rw [hv]
       simp (disch:=first|omega|simp only [RO]|(simp only [RZ]<;>omega)|fail) only [↓RBp,↓RA,↓reduceIte,Nat.reduceAdd,Nat.reduceMul,Nat.reduceEqDiff,RB,RX,RA2,e0,f56_k4_eq,f56_k4_t]
       rw [←hv]
       exact h4 hall (fun j hj=>hn2 j (by omega) hj) _ e3
      ·have hgk:=emG_ok' h h2 h3
       simp (disch:=first|omega|simp only [RO]|(simp only [RZ]<;>omega)|fail) only [↓RBp,↓RA,↓reduceIte,Nat.reduceAdd,Nat.reduceMul,Nat.reduceEqDiff,RB,RX,RA2,e0]
       exact rc_k4 h (hm.ext e3) (fun x hx=>Nat.lt_of_lt_of_le (hP x hx) e3.size) n0 hn h2 c0 c5 t0 t8 0 g2 (.inr ⟨rfl,h3⟩) hgk.2.2.2.2 K (fun v' sl' w' e' m'=>hK a g2 h2 hgk.2.2.2.1 hgk.2.2.2.2 (.inr ⟨hall,h3,fun j hj=>h5 j (by omega) hj⟩) v' sl' w' (e3.trans e') m')
   ·have ha:=h.ag a h2
    have hd:=hd_cls ha.1
    have g6:gX (wd D (l0+32*a) 0)<65536:=by unfold gX;omega
    obtain ⟨b,o,cap,g,q,cp,hv2,ltg,d0,d1,hw,hsk,hsl,hh⟩:=h.agm (hm.ext e1) a h2
    have fin:=fun (w2:World) (e2:Ext w w2)=>rc_k4 h (hm.ext e2) (fun x hx=>Nat.lt_of_lt_of_le (hP x hx) e2.size) n0 hn h2 c0 c5 t0 t8 (gX (wd D (l0+32*a) 0)) _ (.inl ⟨hd.2.2.1,rfl⟩) g6 K (fun v' sl' w' e' m'=>hK a _ h2 hd.2.2.1 g6 (.inl ⟨h3,fun j hj=>h5 j (by omega) hj,rfl⟩) v' sl' w' (e2.trans e') m')
    have e0:((0:Nat):Int)-1= -1:=by omega
    have g0:=hd.2.2.1
    generalize gX (wd D (l0+32*a) 0)=gg at*
    generalize (f a).2.2=mm at*
    generalize (f a).2.1=oo at*
    generalize (f a).1=cc at*
    rw [hv2]
    simp (disch:=first|omega|simp only [RO]|(simp only [RZ]<;>omega)|fail) only [↓RBp,↓RA,↓reduceIte,Nat.reduceAdd,Nat.reduceMul,Nat.reduceEqDiff,RB,RX,RA2,e0,f56_k1_eq,f56_k1_t,d0,d1]
    refine hh _ _ (by repeat (first|(with_reducible first|refine Sh.eB ?_ (by first|omega|(simp only [RZ]<;>omega)) _|assumption|exact Sh.eR _|refine Sh.eA ?_ _|refine Sh.eD ?_|refine Sh.eT ?_ (by assumption))|exact Sh.eR _)) (fun w2 e2=> ?_)
    have e12:Ext w1 w2:=Ext.trans (by repeat (first|(with_reducible first|refine Sh.eB ?_ (by first|omega|(simp only [RZ]<;>omega)) _|assumption|exact Sh.eR _|refine Sh.eA ?_ _|refine Sh.eD ?_|refine Sh.eT ?_ (by assumption))|exact Sh.eR _)) e2
    simp (disch:=first|omega|simp only [RO]|(simp only [RZ]<;>omega)|fail) only [↓RBp,↓RA,↓reduceIte,Nat.reduceAdd,Nat.reduceMul,Nat.reduceEqDiff,RB,RX,RA2,f56_k2_eq,f56_k2_t]
    apply f56_l2_rule (I:=fun x z w'=>x= .int .i64 (a:Int)∧z= .int .i64 ((n:Int)-1)∧Ext w w') (μ:=fun _ z _=>(Go.RowKit.intOf z+1).toNat)
    ·exact ⟨rfl,rfl,e1.trans e12⟩
    ·intros;rename_i w3 hI3 E3 hE3
     obtain ⟨rfl,rfl,e3⟩:=hI3
     have hn1:¬((n:Int)-1<0):=by omega
     unfold f56_l2_t
     simp (disch:=first|omega|simp only [RO]|(simp only [RZ]<;>omega)|fail) only [↓RBp,↓RA,↓reduceIte,Nat.reduceAdd,Nat.reduceMul,Nat.reduceEqDiff,RB,RX,RA2,g0,hn1]
     rw [←hv2]
     exact fin w3 e3
end
end Go.Proofs.YtifpinhjpbgnoaaGreatDoor
namespace Go.Proofs.YtifpinhjpbgnoaaGreatDoor
open Go Go.Sh
set_option maxRecDepth 100000
set_option maxHeartbeats 4000000
set_option linter.unusedSimpArgs false
set_option linter.unusedVariables false
theorem sl_cells22 {w:World} {b n:Nat} {t:TypeId} {f:Nat→Value} (h:Cells w b t n f) (hn:n≤maxLen):SlO w t 1 (.slice (some ⟨b,0,none⟩) n n) n ((List.range n).map f):=by
 obtain ⟨a,h1,h2,h3⟩:=h
 refine ⟨by simp,.inr ⟨b,0,n,a,rfl,h1,Nat.le_refl _,hn,by omega,fun i u hi=> ?_⟩⟩
 rw [Nat.zero_add]
 have hin:i<n:=by
  have:=(List.getElem?_eq_some_iff.1 hi).1;simpa using this
 rw [h3 i hin]
 simpa [hin] using hi
def f1W (i:Nat):Nat:=if i=0 then sealN (hdX (-1) (-1) 1) else 0
section
variable {w w':World} {P:Nat→Prop} {n:Nat}
theorem k_rFormat22 (hP:∀x,P x→x<w.heap.size) (n0:0<n) (hn:n<100) (K:K1)
  (hK:∀v sl w',Ext w w'→MdS w' P v sl n (fun _=>f1W) (fun _=>false)→K v w'):
  callS Tryz.prog 16 #[.int .i64 (n:Int)] w K:=by
 have hfi:∀(w:World) (K:K1),callS Tryz.prog 45 #[.agg #[.int .i64 (-1),.int .i64 (-1),.int .u16 ((1:Nat):Int)]] w K=K (.int .u64 ((sealN (hdX (-1) (-1) 1):Nat):Int)) (w.alloc (rhO (-1) (-1) 1)):=fun w K=>c_rFirst (-1) (-1) 1 w K (by omega) (.inl ⟨rfl,rfl⟩)
 refine f16_call _ _ _ ?_
 unfold f16_t
 apply f16_l1_rule (I:=fun x z w'=>∃(k:Nat) (sl:Nat→Value),z= .int .i64 (k:Int)∧k≤n∧MdS w' P x sl k (fun _=>f1W) (fun _=>false)∧Frm Nob w w'∧NewV w.heap.size x) (μ:=fun _ z _=>n-(Go.RowKit.intOf z).toNat)
 ·exact ⟨0,fun _=> .slice none 0 0,rfl,by omega,MdS.nil _ _ _ _ _,Frm.refl _ _,fun b hb=>by cases hb⟩
 ·intros;rename_i x z w1 hI E1 hE
  obtain ⟨k,sl,rfl,hk,m1,f1,nv⟩:=hI
  have e1:Ext w w1:=f1.to_ext (fun _ _ h=>h)
  by_cases hkn:k<n
  ·have hz:=zrow_cells w1 (.int .u64 ((0:Nat):Int)) 256 30
   have hs0:=sl_cells22 hz (by decide)
   have el:((List.range 256).map fun i=>(Value.int .u64 ((0:Nat):Int)).cells[i%(Value.int .u64 ((0:Nat):Int)).cells.size]!)=wdL (fun _=>0) 256:=by
    unfold wdL
    refine List.map_congr_left (fun i _=> ?_)
    show (#[Value.int .u64 ((0:Nat):Int)])[i%1]! =_
    rw [Nat.mod_one];rfl
   rw [el] at hs0
   have hup:=SlO.upd hs0 (u64 (sealN (hdX (-1) (-1) 1))) (i:=0) (by omega)
   rw [wdL_set,Nat.add_zero] at hup
   have hfz:=fun i=>hs0.frz (b:=w1.heap.size) rfl i
   have hc:=hs0.cell rfl (wdL_get (W:=fun _=>0) (n:=256) (j:=0) (by omega))
   rw [Nat.add_zero] at hc
   have fin:∀(w2:World),SlO w2 30 1 (wsV w1.heap.size 0 256) 256 (wdL f1W 256)→Frm Nob w1 w2→∀(xb:Nat) (cs:Array Bool),w2.cell? ⟨xb,0,none⟩=some (wsV w1.heap.size 0 256)→w2.cell? ⟨xb,1,none⟩=some (.bool false)→∀K':K1,(∀v' w',E1 v' (.int .i64 ((k+1:Nat):Int)) w'→K' v' w')→bltS Tryz.prog .append #[29,29] 29 cs #[x,.slice (some ⟨xb,0,none⟩) 1 1] w2 K':=by
    intro w2 hs2 f2 xb cs c0 c1 K' hK'
    have e2:Ext w1 w2:=f2.to_ext (fun _ _ h=>h)
    have m2:=m1.ext e2
    refine k_push m2 (fun x hx=>Nat.lt_of_lt_of_le (hP x hx) (e1.trans e2).size) (WsL.new hs2 (m:=w1.heap.size) (Nat.le_refl _) (fun x hx=>Nat.lt_of_lt_of_le (hP x hx) e1.size)) (fun hx=> ?_) false (by omega) c0 c1 _ (fun v' w' f3 b3 m3=> ?_)
    ·have:=m1.m.lt hx;omega
    refine hK' _ _ ?_
    apply hE
    ·refine ⟨k+1,_,rfl,by omega,m3.congr (fun j hj i _=> ?_) (fun j hj=> ?_),(f1.trans f2 (fun _ _ h=>h.elim)).trans f3 (fun y hy h=> ?_),fun y hy=> ?_⟩
     ·by_cases e:j=k
      ·rw [e,upF_eq]
      ·rw [upF_ne _ _ e]
     ·by_cases e:j=k
      ·rw [e,upF_eq]
      ·rw [upF_ne _ _ e]
     ·have:=nv y h;omega
     ·rcases b3 y hy with h|h
      ·exact nv y h
      ·exact Nat.le_trans (e1.trans e2).size h
    ·simp [Go.RowKit.intOf];omega
   unfold f16_l1_t
   (repeat' (first|(with_reducible refine brS_mk (fun _=> ?_) (fun _=> ?_))|(with_reducible refine And.intro ?_ ?_)|(simp (disch:=first|omega|simp only [RO]|(simp only [RZ]<;>omega)|fail) only [↓RBp,↓RA,↓reduceIte,Nat.reduceAdd,Nat.reduceMul,Nat.reduceEqDiff,RB,RX,RA2,hfi,hfz,hc,Int.reduceToNat,Nat.add_zero])))
   rw [set_new _ _ _ _ _ _ rfl] at hup
   have hup1:SlO (w1.alloc (.cells ((zrow (.int .u64 ((0:Nat):Int)) 256).setIfInBounds 0 (u64 (sealN (hdX (-1) (-1) 1)))) 30)) 30 1 (wsV w1.heap.size 0 256) 256 (wdL f1W 256):=by
    rw [wdL_congr (W:=f1W) (V:=fun j=>if j=0 then sealN (hdX (-1) (-1) 1) else 0) (fun i _=>rfl)]
    exact hup
   have hC:=Cells.new ((w1.alloc (.cells ((zrow (.int .u64 ((0:Nat):Int)) 256).setIfInBounds 0 (u64 (sealN (hdX (-1) (-1) 1)))) 30)).alloc (rhO (-1) (-1) 1)) [wsV w1.heap.size 0 256,.bool false] 42
   rw [size_alloc,size_alloc] at hC
   have ek:(k:Int)+1=((k+1:Nat):Int):=by omega
   refine fin _ (hup1.ext ((Ext.alloc_self _ _).trans (Ext.alloc_self _ _))) (by repeat (first|exact Frm.refl _ _|with_reducible refine Frm.set ?_ _ (fun _=>rfl)|with_reducible refine Frm.alloc ?_ _|with_reducible refine Frm.drew ?_)) _ _ (hC.cell (i:=0) (by simp)) (hC.cell (i:=1) (by simp)) _ (fun v' w' hh=> ?_)
   simp (disch:=first|omega|simp only [RO]|(simp only [RZ]<;>omega)|fail) only [↓RBp,↓RA,↓reduceIte,Nat.reduceAdd,Nat.reduceMul,Nat.reduceEqDiff,RB,RX,RA2,ek]
   exact hh
  ·have:k=n:=by omega
   subst this
   unfold f16_l1_t
   simp (disch:=first|omega|simp only [RO]|(simp only [RZ]<;>omega)|fail) only [↓RBp,↓RA,↓reduceIte,Nat.reduceAdd,Nat.reduceMul,Nat.reduceEqDiff,RB,RX,RA2,f16_k1_eq,f16_k1_t]
   exact hK _ sl _ e1 m1
end
end Go.Proofs.YtifpinhjpbgnoaaGreatDoor
namespace Go.Proofs.YtifpinhjpbgnoaaGreatDoor
open Go Go.Sh
set_option maxRecDepth 100000
set_option maxHeartbeats 4000000
set_option linter.unusedSimpArgs false
set_option linter.unusedVariables false
section
variable {w0 w w':World} {Y Y':Lay} {D D':DS} {S b o cp l0 n k:Nat} {f f':Nat→Int×Int×Bool}
theorem k_ReleaseNo (h:ArS w0 w Y D S b o cp l0 n f) {x:Int} (hx:∀k,k<n→x≠((l0+32*k:Nat):Int)) (K:K1) (hK:∀w',Ext w w'→K (.int .i64 5) w'):
  callS Tryz.prog 35 #[stV S,.int .i64 x] w K:=by
 refine f35_call _ _ _ _ ?_
 unfold f35_t
 simp (disch:=first|omega|simp only [RO]|(simp only [RZ]<;>omega)|fail) only [↓RBp,↓RA,↓reduceIte,Nat.reduceAdd,Nat.reduceMul,Nat.reduceEqDiff,RB,RX,RA2]
 refine k_findNo h hx _ (fun w1 e1=> ?_)
 simp (disch:=first|omega|simp only [RO]|(simp only [RZ]<;>omega)|fail) only [↓RBp,↓RA,↓reduceIte,Nat.reduceAdd,Nat.reduceMul,Nat.reduceEqDiff,RB,RX,RA2]
 exact hK _ e1
theorem k_Release (h:ArS w0 w Y D S b o cp l0 n f) (ag:AgF D l0 n f) (hk:k<n) (ho:D.off=false) (he:D.err 0=0) (hx:D.exe<1000000000) (K:K1)
  (hK:∀D2 f2 e,RlRes D l0 f k D2 f2 e→∀w' Y',AStp w Y b w' Y'→ArS w0 w' Y' D2 S b o cp l0 n f2→K (.int .i64 e) w'):
  callS Tryz.prog 35 #[stV S,.int .i64 ((l0+32*k:Nat):Int)] w K:=by
 have hle:=h.le
 have hlt:=h.lt
 have hnn:=h.L.gd.n
 have her:=h.er
 rw [he] at her
 refine f35_call _ _ _ _ ?_
 unfold f35_t
 simp (disch:=first|omega|simp only [RO]|(simp only [RZ]<;>omega)|fail) only [↓RBp,↓RA,↓reduceIte,Nat.reduceAdd,Nat.reduceMul,Nat.reduceEqDiff,RB,RX,RA2]
 refine k_findAt h hk _ (fun w1 e1=> ?_)
 have h1:=h.ext e1
 have s0:=h1.c0
 simp (disch:=first|omega|simp only [RO]|(simp only [RZ]<;>omega)|(with_reducible (repeat (first|assumption|exact Ext.refl _|refine Ext.alloc ?_ _|refine Ext.drew ?_|refine Ext.trans ?_ (by assumption))))|fail) only [↓RBp,↓RA,↓reduceIte,Nat.reduceAdd,Nat.reduceMul,Nat.reduceEqDiff,RB,RX,RA2,s0,her]
 refine k_clearing h1 ag hk ho he _ (fun hn w2 e2=> ?_) (fun g hg g0 g6 v w2 e2 nv hs=> ?_)
 ·have h2:=h1.ext e2
  have s0:=h2.c0
  simp (disch:=first|omega|simp only [RO]|(simp only [RZ]<;>omega)|(with_reducible (repeat (first|assumption|exact Ext.refl _|refine Ext.alloc ?_ _|refine Ext.drew ?_|refine Ext.trans ?_ (by assumption))))|fail) only [↓RBp,↓RA,↓reduceIte,Nat.reduceAdd,Nat.reduceMul,Nat.reduceEqDiff,RB,RX,RA2,s0,her]
  exact hK D f 8 (.inl ⟨hn,rfl,rfl,rfl⟩) _ Y (AStp.of_ext Y b (e1.trans e2)) h2
 ·have h2:=h1.ext e2
  have s0:=h2.c0
  have hcl:=clrI_len (l0+32*k) g
  simp (disch:=first|omega|simp only [RO]|(simp only [RZ]<;>omega)|(with_reducible (repeat (first|assumption|exact Ext.refl _|refine Ext.alloc ?_ _|refine Ext.drew ?_|refine Ext.trans ?_ (by assumption))))|fail) only [↓RBp,↓RA,↓reduceIte,Nat.reduceAdd,Nat.reduceMul,Nat.reduceEqDiff,RB,RX,RA2,s0,her]
  refine k_free h2 hk hs (fun x hx hf=>by have:=nv x hx;have:=h1.L.dv.lt hf;omega) (clrI_ok (n:=D.n) (by omega) hnn g6) (by omega) rfl _ (fun hne w3 Y3 a3 h3=> ?_) (fun h0 w3 Y3 a3 h3=> ?_)
  ·try simp (disch:=first|omega|simp only [RO]|(simp only [RZ]<;>omega)|fail) only [↓RBp,↓RA,↓reduceIte,Nat.reduceAdd,Nat.reduceMul,Nat.reduceEqDiff,RB,RX,RA2]
   exact hK _ f _ (.inr ⟨g,hg,rfl,.inl ⟨hne,rfl,rfl⟩⟩) _ Y3 ((AStp.of_ext Y b (e1.trans e2)).trans a3) h3
  ·try simp (disch:=first|omega|simp only [RO]|(simp only [RZ]<;>omega)|fail) only [↓RBp,↓RA,↓reduceIte,Nat.reduceAdd,Nat.reduceMul,Nat.reduceEqDiff,RB,RX,RA2]
   exact hK _ _ _ (.inr ⟨g,hg,rfl,.inr ⟨h0,rfl,rfl⟩⟩) _ Y3 ((AStp.of_ext Y b (e1.trans e2)).trans a3) h3
theorem k_HoldNo (h:ArS w0 w Y D S b o cp l0 n f) {x:Int} (hx:∀k,k<n→x≠((l0+32*k:Nat):Int)) (on:Bool) (K:K1) (hK:∀w',Ext w w'→K (.int .i64 5) w'):
  callS Tryz.prog 53 #[stV S,.int .i64 x,.bool on] w K:=by
 refine f53_call _ _ _ _ _ ?_
 unfold f53_t
 simp (disch:=first|omega|simp only [RO]|(simp only [RZ]<;>omega)|fail) only [↓RBp,↓RA,↓reduceIte,Nat.reduceAdd,Nat.reduceMul,Nat.reduceEqDiff,RB,RX,RA2]
 refine k_findNo h hx _ (fun w1 e1=> ?_)
 simp (disch:=first|omega|simp only [RO]|(simp only [RZ]<;>omega)|fail) only [↓RBp,↓RA,↓reduceIte,Nat.reduceAdd,Nat.reduceMul,Nat.reduceEqDiff,RB,RX,RA2]
 exact hK _ e1
theorem k_Hold (h:ArS w0 w Y D S b o cp l0 n f) (hk:k<n) (on:Bool) (K:K1)
  (h8:(f k).1<0→∀w',Ext w w'→K (.int .i64 8) w')
  (hK:¬(f k).1<0→∀w',AStp w Y b w' Y→ArS w0 w' Y D S b o cp l0 n (upF f k ((f k).1,(f k).2.1,on))→K (.int .i64 0) w'):
  callS Tryz.prog 53 #[stV S,.int .i64 ((l0+32*k:Nat):Int),.bool on] w K:=by
 refine f53_call _ _ _ _ _ ?_
 unfold f53_t
 simp (disch:=first|omega|simp only [RO]|(simp only [RZ]<;>omega)|fail) only [↓RBp,↓RA,↓reduceIte,Nat.reduceAdd,Nat.reduceMul,Nat.reduceEqDiff,RB,RX,RA2]
 refine k_findAt h hk _ (fun w1 e1=> ?_)
 have h1:=h.ext e1
 have h3:=h1.wr3 hk on
 have fz:=h1.fz
 have ob45:=h1.p hk;have q0:=ob45.1;have q1:=ob45.2.1;have q2:=ob45.2.2.1;have q3:=ob45.2.2.2
 by_cases c0:(f k).1<0
 ·have h8:=h8 c0
  generalize (f k).1=cc at q1 c0
  simp (disch:=first|omega|simp only [RO]|(simp only [RZ]<;>omega)|fail) only [↓RBp,↓RA,↓reduceIte,Nat.reduceAdd,Nat.reduceMul,Nat.reduceEqDiff,RB,RX,RA2,q1,c0]
  exact h8 _ e1
 ·have hK:=hK c0 _ ((AStp.of_ext Y b e1).set _ _) h3
  generalize (f k).1=cc at q1 c0
  simp (disch:=first|omega|simp only [RO]|(simp only [RZ]<;>omega)|fail) only [↓RBp,↓RA,↓reduceIte,Nat.reduceAdd,Nat.reduceMul,Nat.reduceEqDiff,RB,RX,RA2,q1,q3,c0,fz]
  exact hK
end
end Go.Proofs.YtifpinhjpbgnoaaGreatDoor
namespace Go.Proofs.YtifpinhjpbgnoaaGreatDoor
open Go Go.Sh
set_option maxRecDepth 100000
set_option maxHeartbeats 4000000
set_option linter.unusedSimpArgs false
set_option linter.unusedVariables false
section
variable {w w':World} {Y:Lay} {D:DS} {l:Nat} {c o:Int} {g:Nat}
abbrev erH (w:World) (Y:Lay) (e:Int):Prop:=∀(w1:World) (K:K1),Ext w w1→callS Tryz.prog 19 #[.pointer (some ⟨Y.tb 0,0,none⟩)] w1 K=K (.int .i64 e) w1
theorem Dv.er (h:Dv w Y D):erH w Y (D.err 0):=fun w1 K e=>c_Err (h.ext e) 0 (by omega) K
theorem c_ClassZ (w:World) (K:K1):callS Tryz.prog 25 #[chZ] w K=K (.int .i64 (-1)) (w.alloc chzO):=by
 refine callS_det (by kernel_rfl) (f25_call _ _ _ ?_) K
 unfold f25_t
 simp (disch:=first|omega|simp only [RO]|(simp only [RZ]<;>omega)|fail) only [↓RBp,↓RA,↓reduceIte,Nat.reduceAdd,Nat.reduceMul,Nat.reduceEqDiff,RB,RX,RA2]
theorem per_m1:perS (-1)=0:=perS_out (by omega)
theorem c_blocksZ (w:World) (hG:Glob w) (K:K1):callS Tryz.prog 63 #[chZ] w K=K (.int .i64 0) ((w.alloc chzO).alloc chzO):=by
 refine callS_det (by kernel_rfl) (f63_call _ _ _ ?_) K
 unfold f63_t
 simp (disch:=first|omega|simp only [RO]|(simp only [RZ]<;>omega)|fail) only [↓RBp,↓RA,↓reduceIte,Nat.reduceAdd,Nat.reduceMul,Nat.reduceEqDiff,RB,RX,RA2,c_ClassZ,fun a b K=>c_PerChunk (-1) ((w.alloc a).alloc b) K ((hG.alloc a).alloc b),per_m1]
theorem k_hasZ (hG:Glob w) (i:Int) (K:K1) (hK:∀w',Ext w w'→K (.bool false) w'):callS Tryz.prog 64 #[chZ,.int .i64 i] w K:=by
 have hb:∀(w1:World) (K:K1),Ext w w1→callS Tryz.prog 63 #[chZ] w1 K=K (.int .i64 0) ((w1.alloc chzO).alloc chzO):=fun w1 K e=>c_blocksZ w1 (hG.ext e) K
 refine f64_call _ _ _ _ ?_
 unfold f64_t
 by_cases h0:0≤i
 ·have h1:¬i<0:=by omega
  simp (disch:=first|omega|simp only [RO]|(simp only [RZ]<;>omega)|(with_reducible (repeat (first|assumption|exact Ext.refl _|refine Ext.alloc ?_ _|refine Ext.drew ?_|refine Ext.trans ?_ (by assumption))))|fail) only [↓RBp,↓RA,↓reduceIte,Nat.reduceAdd,Nat.reduceMul,Nat.reduceEqDiff,RB,RX,RA2,hb,dec_false h1]
  exact hK _ (by repeat (first|(with_reducible first|refine Sh.eB ?_ (by first|omega|(simp only [RZ]<;>omega)) _|assumption|exact Sh.eR _|refine Sh.eA ?_ _|refine Sh.eD ?_|refine Sh.eT ?_ (by assumption))|exact Sh.eR _))
 ·simp (disch:=first|omega|simp only [RO]|(simp only [RZ]<;>omega)|(with_reducible (repeat (first|assumption|exact Ext.refl _|refine Ext.alloc ?_ _|refine Ext.drew ?_|refine Ext.trans ?_ (by assumption))))|fail) only [↓RBp,↓RA,↓reduceIte,Nat.reduceAdd,Nat.reduceMul,Nat.reduceEqDiff,RB,RX,RA2,hb]
  exact hK _ (by repeat (first|(with_reducible first|refine Sh.eB ?_ (by first|omega|(simp only [RZ]<;>omega)) _|assumption|exact Sh.eR _|refine Sh.eA ?_ _|refine Sh.eD ?_|refine Sh.eT ?_ (by assumption))|exact Sh.eR _))
theorem czCells {w1:World} (he:Ext (w.alloc chzO) w1):w1.cell? ⟨w.heap.size,0,none⟩=some .nilIface∧w1.cell? ⟨w.heap.size,1,none⟩=some (.int .i64 0)∧w1.cell? ⟨w.heap.size,2,none⟩=some (.int .i64 0)∧w1.cell? ⟨w.heap.size,3,none⟩=some (.int .i64 0)∧w1.cell? ⟨w.heap.size,4,none⟩=some (.int .u16 ((0:Nat):Int)):=by
 have:∀i,w1.cell? ⟨w.heap.size,i,none⟩=_:=fun i=>he.cell _ i (by simp only [RZ];omega)
 refine ⟨?_,?_,?_,?_,?_⟩<;>(rw [this,cell_new _ _ _ _ _ rfl];rfl)
end
end Go.Proofs.YtifpinhjpbgnoaaGreatDoor
namespace Go.Proofs.YtifpinhjpbgnoaaGreatDoor
open Go Go.Sh
set_option maxRecDepth 100000
set_option maxHeartbeats 4000000
set_option linter.unusedSimpArgs false
set_option linter.unusedVariables false
section
variable {w w':World}
theorem RdS.of_sl22 {v:Value} {L:List Value} {t:TypeId} (h:SlO w t 1 v L.length L):RdS w.heap.size w v L:=by
 obtain ⟨pa,pc,rfl,_⟩:=h.isS'
 refine ⟨pa,pc,rfl,?_⟩
 by_cases h0:L= []
 ·exact .inl h0
 ·right
  have hl:0<L.length:=List.length_pos_iff.2 h0
  obtain ⟨b,o,c,hv,_⟩:=h.isS hl
  injection hv with hv _ _
  refine ⟨b,o,hv,h.lt (by rw [hv];rfl),fun j u hj=> ?_⟩
  exact h.cell (by rw [hv]) hj
theorem RdS.mono22 {v:Value} {L:List Value} {m m':Nat} (h:RdS m w v L) (e:m≤m'):RdS m' w v L:=by
 obtain ⟨a,cap,hv,h⟩:=h
 refine ⟨a,cap,hv,?_⟩
 rcases h with h|⟨b,o,ha,hb,hc⟩
 ·exact .inl h
 ·exact .inr ⟨b,o,ha,by omega,hc⟩
theorem k_onceZ (hG:Glob w) (L M:List Int) (v u:Value) {m:Nat} (hL:RdS m w v (i64L L)) (hM:RdS m w u (i64L M)) (lL:L.length<1099511627776) (lM:M.length<1099511627776) (b cap:Nat) (hb0:w.cell? ⟨b,0,none⟩=some v) (hb1:w.cell? ⟨b,1,none⟩=some u) (K:K1)
  (hK:∀r w',Ext w w'→K (.bool r) w'):callS Tryz.prog 69 #[chZ,.slice (some ⟨b,0,none⟩) 2 cap] w K:=by
 refine f69_call _ _ _ _ ?_
 unfold f69_t
 simp (disch:=first|omega|simp only [RO]|(simp only [RZ]<;>omega)|fail) only [↓RBp,↓RA,↓reduceIte,Nat.reduceAdd,Nat.reduceMul,Nat.reduceEqDiff,RB,RX,RA2]
 have inner:∀(E1:Value→Value→World→Prop) (L:List Int) (v:Value) (q:Nat) (x5:Value) (w1:World),Ext (w.alloc chzO) w1→RdS m w v (i64L L)→L.length<1099511627776→(∀w',Ext w w'→K (.bool false) w')→(∀w',Ext (w.alloc chzO) w'→E1 x5 (.int .i64 ((q+1:Nat):Int)) w')→q<1000→
   f69_l2 K E1 (.pointer (some ⟨w.heap.size,0,none⟩)) x5 (.slice (some ⟨b,0,none⟩) 2 cap) (.int .i64 2) (.int .i64 (q:Int)) v (.int .i64 (L.length:Int)) (.int .i64 0) w1:=by
  intro E1 L v q x5 w1 he1 hL lL hbad hgood hq
  apply f69_l2_rule (I:=fun x z w'=>z= .int .i64 0∧x=x5∧Ext (w.alloc chzO) w') (μ:=fun _ z _=>0)
  ·exact ⟨rfl,rfl,he1⟩
  ·intros;rename_i w2 hI E2 hE
   obtain ⟨rfl,rfl,he2⟩:=hI
   obtain ⟨c0,c1,c2,c3,c4⟩:=czCells he2
   have e2:Ext w w2:=Ext.trans (by repeat (first|(with_reducible first|refine Sh.eB ?_ (by first|omega|(simp only [RZ]<;>omega)) _|assumption|exact Sh.eR _|refine Sh.eA ?_ _|refine Sh.eD ?_|refine Sh.eT ?_ (by assumption))|exact Sh.eR _)) he2
   unfold f69_l2_t
   by_cases hjl:0<L.length
   ·obtain ⟨sb,so,sc,rfl,hc⟩:=(hL.ext e2).get (i64L_get hjl)
    generalize L[0]=x at hc
    rw [Nat.add_zero] at hc
    simp (disch:=first|omega|simp only [RO]|(simp only [RZ]<;>omega)|fail) only [↓RBp,↓RA,↓reduceIte,Nat.reduceAdd,Nat.reduceMul,Nat.reduceEqDiff,RB,RX,RA2,hc,c0,c1,c2,c3,c4,List.length_map,Int.reduceToNat,Nat.add_zero]
    refine k_hasZ (hG.ext e2) x _ (fun w3 he3=> ?_)
    simp (disch:=first|omega|simp only [RO]|(simp only [RZ]<;>omega)|fail) only [↓RBp,↓RA,↓reduceIte,Nat.reduceAdd,Nat.reduceMul,Nat.reduceEqDiff,RB,RX,RA2]
    exact hbad _ (e2.trans he3)
   ·have:L.length=0:=by omega
    rw [this]
    simp (disch:=first|omega|simp only [RO]|(simp only [RZ]<;>omega)|fail) only [↓RBp,↓RA,↓reduceIte,Nat.reduceAdd,Nat.reduceMul,Nat.reduceEqDiff,RB,RX,RA2,f69_k2_eq,f69_k2_t]
    have:=hgood w2 he2
    simpa using this
 apply f69_l1_rule (I:=fun x z w'=>∃i:Nat,z= .int .i64 (i:Int)∧i≤2∧Ext (w.alloc chzO) w') (μ:=fun _ z _=>2-(Go.RowKit.intOf z).toNat)
 ·exact ⟨0,rfl,by omega,(by repeat (first|(with_reducible first|refine Sh.eB ?_ (by first|omega|(simp only [RZ]<;>omega)) _|assumption|exact Sh.eR _|refine Sh.eA ?_ _|refine Sh.eD ?_|refine Sh.eT ?_ (by assumption))|exact Sh.eR _))⟩
 ·intros;rename_i x z w1 hI E1 hE
  obtain ⟨i,rfl,hi,he1⟩:=hI
  have e1:Ext w w1:=Ext.trans (by repeat (first|(with_reducible first|refine Sh.eB ?_ (by first|omega|(simp only [RZ]<;>omega)) _|assumption|exact Sh.eR _|refine Sh.eA ?_ _|refine Sh.eD ?_|refine Sh.eT ?_ (by assumption))|exact Sh.eR _)) he1
  have d0:=e1.cell_some hb0
  have d1:=e1.cell_some hb1
  unfold f69_l1_t
  have hcs:i=0∨i=1∨i=2:=by omega
  rcases hcs with rfl|rfl|rfl
  ·obtain ⟨a,sc,rfl,_⟩:=id hL
   have hL':RdS m w (.slice a L.length sc) (i64L L):=by rw [show (i64L L).length=L.length by simp] at hL;exact hL
   simp (disch:=first|omega|simp only [RO]|(simp only [RZ]<;>omega)|fail) only [↓RBp,↓RA,↓reduceIte,Nat.reduceAdd,Nat.reduceMul,Nat.reduceEqDiff,RB,RX,RA2,d0,List.length_map]
   refine inner E1 L _ 0 x w1 he1 hL' lL (fun w' he=>hK _ w' he) (fun w' he=> ?_) (by omega)
   apply hE
   ·exact ⟨1,rfl,by omega,he⟩
   ·simp [Go.RowKit.intOf]
  ·obtain ⟨a,sc,rfl,_⟩:=id hM
   have hM':RdS m w (.slice a M.length sc) (i64L M):=by rw [show (i64L M).length=M.length by simp] at hM;exact hM
   simp (disch:=first|omega|simp only [RO]|(simp only [RZ]<;>omega)|fail) only [↓RBp,↓RA,↓reduceIte,Nat.reduceAdd,Nat.reduceMul,Nat.reduceEqDiff,RB,RX,RA2,d1,List.length_map]
   refine inner E1 M _ 1 x w1 he1 hM' lM (fun w' he=>hK _ w' he) (fun w' he=> ?_) (by omega)
   apply hE
   ·exact ⟨2,rfl,by omega,he⟩
   ·simp [Go.RowKit.intOf]
  ·simp (disch:=first|omega|simp only [RO]|(simp only [RZ]<;>omega)|fail) only [↓RBp,↓RA,↓reduceIte,Nat.reduceAdd,Nat.reduceMul,Nat.reduceEqDiff,RB,RX,RA2,f69_k1_eq,f69_k1_t]
   exact hK _ _ e1
theorem k_ActionsZ (hG:Glob w) (L M:List Int) (ks:List Nat) (v kv u:Value) {m:Nat} (hL:RdS m w v (i64L L)) (hk:RdS m w kv (u8L ks)) (hM:RdS m w u (i64L M)) (lL:L.length<1073741824) (lM:M.length<1073741824) (hln:ks.length=L.length) (hks:∀k∈ks,k=64) (K:K1)
  (hK:∀e w',Ext w w'→K (.tuple #[.slice none 0 0,.int .i64 e]) w'):callS Tryz.prog 28 #[chZ,v,kv,u] w K:=by
 have l1:(i64L L).length=L.length:=by simp
 have l2:(i64L M).length=M.length:=by simp
 have l3:(u8L ks).length=ks.length:=by simp
 obtain ⟨la,lc,rfl,_⟩:=id hL
 obtain ⟨ma,mc,rfl,_⟩:=id hM
 obtain ⟨ka,kc,rfl,_⟩:=id hk
 rw [l1] at hL ⊢
 rw [l2] at hM ⊢
 rw [l3] at hk ⊢
 have e0:Ext w (w.alloc chzO):=Ext.alloc_self _ _
 refine f28_call _ _ _ _ _ _ ?_
 have hz:((ks.length:Nat):Int)=((L.length:Nat):Int):=by omega
 unfold f28_t
 simp (disch:=first|omega|simp only [RO]|(simp only [RZ]<;>omega)|fail) only [↓RBp,↓RA,↓reduceIte,Nat.reduceAdd,Nat.reduceMul,Nat.reduceEqDiff,RB,RX,RA2,dec_true hz]
 apply f28_l1_rule (I:=fun z w'=>∃j:Nat,z= .int .i64 (j:Int)∧j≤ks.length∧Ext (w.alloc chzO) w') (μ:=fun z _=>ks.length-(Go.RowKit.intOf z).toNat)
 ·exact ⟨0,rfl,by omega,(by repeat (first|(with_reducible first|refine Sh.eB ?_ (by first|omega|(simp only [RZ]<;>omega)) _|assumption|exact Sh.eR _|refine Sh.eA ?_ _|refine Sh.eD ?_|refine Sh.eT ?_ (by assumption))|exact Sh.eR _))⟩
 ·intros;rename_i w1 hI E1 hE
  obtain ⟨j,rfl,hj,he1⟩:=hI
  have e1:Ext w w1:=e0.trans he1
  obtain ⟨c0,c1,c2,c3,c4⟩:=czCells he1
  by_cases hjl:j<ks.length
  ·obtain ⟨sb,so,sc,ev1,hc⟩:=(hk.ext e1).get (u8L_get hjl)
   injection ev1 with ev1 _ ev2;subst ev1;subst ev2
   have hkj:=hks ks[j] (List.getElem_mem hjl)
   rw [hkj] at hc
   unfold f28_l1_t
   simp (disch:=first|omega|simp only [RO]|(simp only [RZ]<;>omega)|fail) only [↓RBp,↓RA,↓reduceIte,Nat.reduceAdd,Nat.reduceMul,Nat.reduceEqDiff,RB,RX,RA2,hc]
   apply hE
   ·exact ⟨j+1,by simp,by omega,he1⟩
   ·simp [Go.RowKit.intOf];omega
  ·have hjk:j=ks.length:=by omega
   subst hjk
   unfold f28_l1_t
   simp (disch:=first|omega|simp only [RO]|(simp only [RZ]<;>omega)|fail) only [↓RBp,↓RA,↓reduceIte,Nat.reduceAdd,Nat.reduceMul,Nat.reduceEqDiff,RB,RX,RA2,c0,c1,c2,c3,c4,f28_k1_eq,f28_k1_t]
   refine k_onceZ (hG.ext (by repeat (first|(with_reducible first|refine Sh.eB ?_ (by first|omega|(simp only [RZ]<;>omega)) _|assumption|exact Sh.eR _|refine Sh.eA ?_ _|refine Sh.eD ?_|refine Sh.eT ?_ (by assumption))|exact Sh.eR _))) L M _ _ (hL.ext (by repeat (first|(with_reducible first|refine Sh.eB ?_ (by first|omega|(simp only [RZ]<;>omega)) _|assumption|exact Sh.eR _|refine Sh.eA ?_ _|refine Sh.eD ?_|refine Sh.eT ?_ (by assumption))|exact Sh.eR _))) (hM.ext (by repeat (first|(with_reducible first|refine Sh.eB ?_ (by first|omega|(simp only [RZ]<;>omega)) _|assumption|exact Sh.eR _|refine Sh.eA ?_ _|refine Sh.eD ?_|refine Sh.eT ?_ (by assumption))|exact Sh.eR _))) (by omega) (by omega) _ _ (by simp (disch:=first|omega|simp only [RO]|(simp only [RZ]<;>omega)|fail) only [↓RBp,↓RA,↓reduceIte,Nat.reduceAdd,Nat.reduceMul,Nat.reduceEqDiff,RB,RX,RA2]) (by simp (disch:=first|omega|simp only [RO]|(simp only [RZ]<;>omega)|fail) only [↓RBp,↓RA,↓reduceIte,Nat.reduceAdd,Nat.reduceMul,Nat.reduceEqDiff,RB,RX,RA2]) _ (fun r w2 he2=> ?_)
   have e12:Ext w1 w2:=Ext.trans (by repeat (first|(with_reducible first|refine Sh.eB ?_ (by first|omega|(simp only [RZ]<;>omega)) _|assumption|exact Sh.eR _|refine Sh.eA ?_ _|refine Sh.eD ?_|refine Sh.eT ?_ (by assumption))|exact Sh.eR _)) he2
   have e2:Ext w w2:=e1.trans e12
   have ob46:=czCells (he1.trans e12);have d0:=ob46.1;have d1:=ob46.2.1;have d2:=ob46.2.2.1;have d3:=ob46.2.2.2.1;have d4:=ob46.2.2.2.2
   cases r with
   |false=>
    simp (disch:=first|omega|simp only [RO]|(simp only [RZ]<;>omega)|fail) only [↓RBp,↓RA,↓reduceIte,Nat.reduceAdd,Nat.reduceMul,Nat.reduceEqDiff,RB,RX,RA2]
    exact hK _ _ e2
   |true=>
    simp (disch:=first|omega|simp only [RO]|(simp only [RZ]<;>omega)|(with_reducible (repeat (first|assumption|exact Ext.refl _|refine Ext.alloc ?_ _|refine Ext.drew ?_|refine Ext.trans ?_ (by assumption))))|fail) only [↓RBp,↓RA,↓reduceIte,Nat.reduceAdd,Nat.reduceMul,Nat.reduceEqDiff,RB,RX,RA2,d0,d1,d2,d3,d4]
    exact hK _ _ e2
end
end Go.Proofs.YtifpinhjpbgnoaaGreatDoor
namespace Go.Proofs.YtifpinhjpbgnoaaGreatDoor
open Go Go.Sh
set_option linter.unusedSimpArgs false
set_option linter.unusedVariables false
def pairI (ws:List (Nat×Nat)):List Ins:=ws.flatMap fun x=> [wrI x,flI x.1]
def sfD (D:DS) (ws:List (Nat×Nat)):DS:=D.run 0 (pairI ws)
def acD (D:DS) (ws:List (Nat×Nat)):DS:=(sfD D ws).fence 0
section
variable {D D2:DS} {l0 n k g:Nat} {f f2:Nat→Int×Int×Bool} {c t r e:Int} {ws:List (Nat×Nat)}
theorem pairI_app (a b:List (Nat×Nat)):pairI (a++b)=pairI a++pairI b:=by simp [pairI]
theorem sfD_take {x:Nat×Nat} (h:ws[k]? =some x):sfD D (ws.take (k+1))=((sfD D (ws.take k)).store 0 x.1 x.2).flush 0 x.1:=by
 have hk:=(List.getElem?_eq_some_iff.1 h).1
 have e:ws.take (k+1)=ws.take k++ [x]:=by
  rw [List.take_add_one,h];rfl
 unfold sfD
 rw [e,pairI_app,run_append];rfl
theorem pair_len:∀ws:List (Nat×Nat),(pairI ws).length=2*ws.length
 | []=>rfl
 |x::r=>by
  have e:pairI (x::r)=wrI x::flI x.1::pairI r:=rfl
  rw [e];simp only [List.length_cons,pair_len r];omega
theorem sf_on:∀(ws:List (Nat×Nat)) (D:DS),On D→(∀x∈ws,x.1%8=0∧x.1<D.n*64)→On (sfD D ws)∧(sfD D ws).cur=applyH ws D.cur
 | [],D,h,_=>⟨h,rfl⟩
 |x::r,D,h,hv=>by
  have hx:=hv x (by simp)
  have v1:vOff D x.1=true:=by unfold vOff;rw [decide_eq_true hx.1,decide_eq_true hx.2];rfl
  have n1:=store_n D 0 x.1 x.2
  have v2:fOff (D.store 0 x.1 x.2) x.1=true:=by unfold fOff;rw [n1,decide_eq_true hx.2]
  have o1:=h.storeOn x.1 x.2 v1
  have o2:=o1.flushOn x.1 v2
  have n2:((D.store 0 x.1 x.2).flush 0 x.1).n=D.n:=by
   have:((D.store 0 x.1 x.2).flush 0 x.1)=D.run 0 [wrI x,flI x.1]:=rfl
   rw [this];exact run_n 0 _ D
  obtain ⟨a,b⟩:=sf_on r ((D.store 0 x.1 x.2).flush 0 x.1) o2 (fun y hy=>by rw [n2];exact hv y (by simp [hy]))
  have e:sfD D (x::r)=sfD ((D.store 0 x.1 x.2).flush 0 x.1) r:=rfl
  rw [e]
  refine ⟨a,?_⟩
  rw [b,o1.flushCur x.1 v2,h.storeCur x.1 x.2 v1,applyH_cons]
theorem pair_okI (h:∀x∈ws,x.1<18446744073709551616∧x.2<18446744073709551616):∀i∈pairI ws,okI i:=by
 intro i hi
 unfold pairI at hi
 rw [List.mem_flatMap] at hi
 obtain ⟨x,hx,hi⟩:=hi
 have:=h x hx
 simp only [List.mem_cons,List.not_mem_nil,or_false] at hi
 rcases hi with rfl|rfl
 ·exact ⟨(by decide:1≤1),(by decide:1≤3),this.1,this.2⟩
 ·exact ⟨(by decide:1≤2),(by decide:2≤3),this.1,(by decide:0<18446744073709551616)⟩
theorem pair_vIns (h:∀x∈ws,x.1%8=0∧x.1<n*64):∀i∈pairI ws,vIns n i:=by
 intro i hi
 unfold pairI at hi
 rw [List.mem_flatMap] at hi
 obtain ⟨x,hx,hi⟩:=hi
 have:=h x hx
 simp only [List.mem_cons,List.not_mem_nil,or_false] at hi
 rcases hi with rfl|rfl
 ·exact ⟨fun _=>this,fun h2=>by simp [wrI] at h2⟩
 ·exact ⟨fun h1=>by simp [flI] at h1,fun _=>this.2⟩
def Cov (C:Co):Prop:=∀l:Nat,C.hist l= []∨C.notes ((l:Nat):Int)=some (C.done l+(C.hist l).length)
theorem cov_pair {C:Co} (h:Cov C) (j:J1 C) (x:Nat×Nat):Cov ((C.ex (wrI x)).ex (flI x.1))∧J1 ((C.ex (wrI x)).ex (flI x.1)):=by
 have e1:C.ex (wrI x)=C.st x.1 x.2:=rfl
 have e2:(C.st x.1 x.2).ex (flI x.1)=(C.st x.1 x.2).fl x.1:=rfl
 rw [e1,e2]
 refine ⟨fun l=> ?_,j.st x.1 x.2⟩
 by_cases e:l=x.1/64
 ·right
  subst e
  unfold Co.fl
  simp
 ·have hn:((l:Nat):Int)≠((x.1/64:Nat):Int):=by omega
  rcases h l with h1|h1
  ·left
   show (if l=x.1/64 then _ else C.hist l)= []
   rw [if_neg e];exact h1
  ·right
   show (if ((l:Nat):Int)=((x.1/64:Nat):Int) then _ else C.notes l)=some (C.done l+(if l=x.1/64 then C.hist (x.1/64)++ [(x.1,x.2)] else C.hist l).length)
   rw [if_neg hn,if_neg e];exact h1
theorem cov_run:∀(ws:List (Nat×Nat)) (C:Co),Cov C→J1 C→Cov (C.run (pairI ws))∧J1 (C.run (pairI ws))
 | [],C,h,j=>⟨h,j⟩
 |x::r,C,h,j=>by
  obtain ⟨a,b⟩:=cov_pair h j x
  exact cov_run r _ a b
theorem Cov.fe {C:Co} (h:Cov C) (j:J1 C):Cln C.fe:=by
 refine (j.fe (fun l=> ?_)).1
 rcases h l with h1|h1
 ·rw [h1];simp
 ·unfold Co.due
  rw [h1]
  simp only
  omega
theorem acD_run (D:DS) (ws:List (Nat×Nat)):acD D ws=D.run 0 (pairI ws++ [⟨3,0,0⟩]):=by unfold acD sfD;rw [run_append];rfl
theorem ac_on (on:On D) (hv:∀x∈ws,x.1%8=0∧x.1<D.n*64):On (acD D ws)∧(acD D ws).cur=applyH ws D.cur:=by
 obtain ⟨a,b⟩:=sf_on ws D on hv
 exact ⟨a.fenceOn,a.fenceCur.trans b⟩
theorem ac_cln (on:On D) (hv:∀x∈ws,x.1%8=0∧x.1<D.n*64) (hc:Cln D.co):Cln (acD D ws).co:=by
 have o2:=(ac_on on hv).1
 rw [acD_run] at o2 ⊢
 have hvi:∀i∈pairI ws++ [⟨3,0,0⟩],vIns D.n i:=fun i hi=>by
  rcases List.mem_append.1 hi with hi|hi
  ·exact pair_vIns hv i hi
  ·simp only [List.mem_singleton] at hi;subst hi
   exact ⟨fun h=>by simp at h,fun h=>by simp at h⟩
 rw [(run_all on.off on.err hvi o2.err).1,corun_append]
 have h0:Cov D.co:=fun l=> .inl (hc.hist l)
 obtain ⟨a,b⟩:=cov_run ws D.co h0 hc.j1
 exact a.fe b
theorem ac_rg (h:RgS D l0 n f) (hk:k<n) (hok:∀x∈ws,(x.1%8=0∧x.1<D.n*64)∧x.1<18446744073709551616∧x.2<18446744073709551616) (hin:∀x∈ws,(l0+32*k)*64≤x.1∧x.1<(l0+32*k)*64+2048) (hh:∀x∈ws,x.1≠(l0+32*k)*64) (hs:0≤(f k).1→Snd (acD D ws) (l0+32*k) (f k).1 (f k).2.1):
  RgS (acD D ws) l0 n f∧(acD D ws).n=D.n∧(acD D ws).exe≤D.exe+2*ws.length+1∧∀j,j<n→j≠k→∀i,i<256→wd (acD D ws) (l0+32*j) i=wd D (l0+32*j) i:=by
 obtain ⟨on,hc⟩:=ac_on h.on (fun x hx=>(hok x hx).1)
 have gd:Good (acD D ws):=by
  rw [acD_run]
  refine Good.run 0 (by omega) _ _ h.gd (fun i hi=> ?_)
  rcases List.mem_append.1 hi with hi|hi
  ·exact pair_okI (fun x hx=>(hok x hx).2) i hi
  ·simp only [List.mem_singleton] at hi;subst hi;exact ⟨by decide,by decide⟩
 have hn:(acD D ws).n=D.n:=by rw [acD_run];exact run_n 0 _ D
 have hx:(acD D ws).exe≤D.exe+2*ws.length+1:=by
  rw [acD_run]
  have:=run_exe 0 (pairI ws++ [⟨3,0,0⟩]) D
  rw [List.length_append,pair_len] at this
  simpa [Nat.add_assoc] using this
 have oth:∀j,j<n→j≠k→∀i,i<256→wd (acD D ws) (l0+32*j) i=wd D (l0+32*j) i:=fun j hj hjk i hi=>by
  unfold wd
  rw [hc]
  refine applyH_other _ _ _ (fun y hy=> ?_)
  have:=hin y hy
  omega
 have h0:wd (acD D ws) (l0+32*k) 0=wd D (l0+32*k) 0:=by
  unfold wd
  rw [hc]
  refine applyH_other _ _ _ (fun y hy=> ?_)
  have h1:=hin y hy;have h2:=hh y hy;have h3:=(hok y hy).1
  omega
 refine ⟨⟨on,gd,by rw [hn];exact h.lt,fun j hj=> ?_,fun j hj hc0=> ?_⟩,hn,hx,oth⟩
 ·by_cases e:j=k
  ·subst e;rw [h0];exact h.ag j hj
  ·rw [oth j hj e 0 (by omega)];exact h.ag j hj
 ·by_cases e:j=k
  ·subst e;exact hs hc0
  ·exact (h.sn j hj hc0).congr hc0 (h.cls hj).1 (oth j hj e)
theorem run_cln {p:List (Nat×Nat)} (on:On D) (hv:∀x∈p,x.1%8=0∧x.1<D.n*64) (hc:Cln D.co):Cln (D.run 0 (storesI p)).co:=by
 have o:=(On.stores on p hv).1
 rw [(run_all on.off on.err (vIns_stores hv) o.err).1]
 exact (run_stores hc p).1
theorem clr_cln (on:On D) (gd:Good D) {l:Nat} (hl:l+32≤D.n) (hc:Cln D.co):Cln (D.run 0 (clrI l g)).co:=
 run_cln on (fun x hx=>by simp only [List.mem_singleton] at hx;subst hx;simp only;omega) hc
theorem plan_cln (on:On D) (gd:Good D) {l:Nat} (hl:l+32≤D.n) (c0:0≤c) (c5:c<5) {o:Int} (hc:Cln D.co):Cln (D.run 0 (planI l c o g)).co:=by
 have h1:=On.stores on (planW l c g) (fun x hx=>by have:=planW_in hl c0 c5 g x hx;exact ⟨this.1,this.2.1⟩)
 have c1:=run_cln on (p:=planW l c g) (fun x hx=>by have:=planW_in hl c0 c5 g x hx;exact ⟨this.1,this.2.1⟩) hc
 unfold planI
 rw [run_append]
 have n1:(D.run 0 (storesI (planW l c g))).n=D.n:=run_n 0 _ D
 exact run_cln h1.1 (fun x hx=>by simp only [List.mem_singleton] at hx;subst hx;rw [n1];simp only;omega) c1
theorem cl_cln (h:RgS D l0 n f) (c0:0≤c) (c5:c<5) (hr:ClRes D l0 n f c t D2 f2 r e) (hc:Cln D.co):Cln D2.co:=by
 have hlt:=h.lt
 rcases hr with ⟨k,hk,hf,hall,hD2,hr⟩|⟨hall,k,g,D1,hk,hem,hnone,hD1,hr⟩|⟨_,_,h3,_⟩
 ·rw [hD2];exact plan_cln h.on h.gd (by omega) c0 c5 hc
 ·have hgk:=emG_ok' h hk hem
  have cg:=clr_gen h.on h.gd (l:=l0+32*k) (g:=g) (by omega) hgk.2.2.2.2
  have c1:=clr_cln (g:=g) h.on h.gd (l:=l0+32*k) (by omega) hc
  rw [←hD1] at cg c1
  rcases hr with ⟨_,hD2,_⟩|⟨_,hD2,_⟩
  ·rw [hD2];exact c1
  ·rw [hD2];exact plan_cln cg.1 cg.2.1 (by rw [cg.2.2.1];omega) c0 c5 c1
 ·rw [h3];exact hc
theorem rl_cln (h:RgS D l0 n f) (hk:k<n) (hr:RlRes D l0 f k D2 f2 e) (hc:Cln D.co):Cln D2.co:=by
 have hlt:=h.lt
 rcases hr with ⟨_,h2,_⟩|⟨g,_,hD1,_⟩
 ·rw [h2];exact hc
 ·rw [hD1];exact clr_cln h.on h.gd (by omega) hc
theorem fmt_cln (on:On D) (gd:Good D) (hl:l0+32*n≤D.n) (hc:Cln D.co):∀m,m≤n→Cln (fmtD D l0 m).co
 |0,_=>hc
 |m+1,hm=>by
  obtain ⟨h1,h2,h3,h4⟩:=fmtD_ok on gd hl m (by omega)
  exact clr_cln h1 h2 (by omega) (fmt_cln on gd hl hc m (by omega))
end
end Go.Proofs.YtifpinhjpbgnoaaGreatDoor
namespace Go.Proofs.YtifpinhjpbgnoaaGreatDoor
open Go Go.Sh
set_option maxRecDepth 100000
set_option maxHeartbeats 4000000
set_option linter.unusedSimpArgs false
set_option linter.unusedVariables false
structure PlA (w0 w:World) (Y:Lay) (D:DS) (S b o cp n:Nat) (f:Nat→Int×Int×Bool) (v:Value) (sl:Nat→Value):Prop where
 a:ArS w0 w Y D S b o cp 3 n f
 r:RgS D 3 n f
 m:MdS w (PF Y b) v sl n (mW D 3) (mH f)
 n5:n≤5
def acF (kd:Nat) (th cl ch:Int) (on:Bool) (tv dv:Value) (i:Nat):Value:= [Value.int .u8 (kd:Int),.int .i64 th,.int .i64 cl,.int .i64 ch,.bool on,tv,dv].getD i undef
section
variable {w0 w w':World} {Y Y':Lay} {D D':DS} {S b o cp n X:Nat} {f f':Nat→Int×Int×Bool} {v tv dv:Value} {sl:Nat→Value} {kd:Nat} {th cl ch:Int} {on:Bool}
theorem PlA.ext (p:PlA w0 w Y D S b o cp n f v sl) (e:Ext w w'):PlA w0 w' Y D S b o cp n f v sl:=⟨p.a.ext e,p.r,p.m.ext e,p.n5⟩
theorem PlA.hP (p:PlA w0 w Y D S b o cp n f v sl):∀x,PF Y b x→x<w.heap.size:=fun x hx=>by
 rcases hx with hx|hx
 ·exact p.a.L.dv.lt hx
 ·have:=p.a.ltb;omega
def PlK (w0 w:World) (Y:Lay) (D:DS) (S b o cp n:Nat) (K:K1):Prop:=∀w' Y' D' f' v' sl',AStp w Y b w' Y'→PlA w0 w' Y' D' S b o cp n f' v' sl'→D'.exe≤D.exe+1000→(Cln D.co→Cln D'.co)→K (.tuple #[v',.bool true]) w'
theorem pl_k2 (p:PlA w0 w Y D S b o cp n f v sl) (hx:D.exe<100000000) (hX:Cells w X 52 7 (acF kd th cl ch on tv dv)) (K:K1) (hK:PlK w0 w Y D S b o cp n K):
  f17_k2 K (stV S) v (.pointer (some ⟨X,0,none⟩)) w:=by
 have hxl:∀w',Ext w w'→w'.cell? ⟨X,1,none⟩=some (.int .i64 th)∧w'.cell? ⟨X,2,none⟩=some (.int .i64 cl):=fun w' e=>⟨(hX.ext e).cell (i:=1) (by omega),(hX.ext e).cell (i:=2) (by omega)⟩
 have hle:=p.a.le
 have ltX:=hX.lt
 obtain ⟨q1,q2⟩:=hxl w (Ext.refl _)
 rw [f17_k2_eq]
 unfold f17_k2_t
 by_cases hb:0≤th∧th<8∧0≤cl∧cl<5
 ·obtain ⟨t0,t8,c0,c5⟩:=id hb
  simp (disch:=first|omega|simp only [RO]|(simp only [RZ]<;>omega)|fail) only [↓RBp,↓RA,↓reduceIte,Nat.reduceAdd,Nat.reduceMul,Nat.reduceEqDiff,RB,RX,RA2,q1,q2]
  refine k_rClaim p.r p.m p.hP p.a.n0 (by omega) c0 c5 t0 t8 _ (fun hnf hne w1 e1=> ?_) (fun k g hk g0 g6 how v' sl' w1 e1 m1=> ?_)
  ·obtain ⟨r1,r2⟩:=hxl w1 e1
   have p1:=p.ext e1
   have s1:=e1.size
   simp (disch:=first|omega|simp only [RO]|(simp only [RZ]<;>omega)|fail) only [↓RBp,↓RA,↓reduceIte,Nat.reduceAdd,Nat.reduceMul,Nat.reduceEqDiff,RB,RX,RA2,r1,r2]
   refine k_Claim p1.a p.r.ag p.r.on.off p.r.on.err (by omega) t0 t8 c0 c5 _ (fun D2 f2 r e hr w2 Y2 a2 h2=> ?_)
   rcases cl_ok p.r c0 c5 t0 t8 hr with ⟨rfl,rfl,rfl,rfl,_,_⟩|⟨_,k,g,_,ok,_⟩
   ·simp (disch:=first|omega|simp only [RO]|(simp only [RZ]<;>omega)|fail) only [↓RBp,↓RA,↓reduceIte,Nat.reduceAdd,Nat.reduceMul,Nat.reduceEqDiff,RB,RX,RA2]
    exact hK w2 Y2 D2 f2 v sl ((AStp.of_ext Y b e1).trans a2) ⟨h2,p.r,p1.m.astp a2,p.n5⟩ (by omega) (fun h=>h)
   ·exfalso
    rcases ok.how with ⟨h1,_⟩|⟨_,h1,_⟩
    ·exact hnf k ok.kn h1
    ·rw [hne k ok.kn] at h1;cases h1
  ·obtain ⟨r1,r2⟩:=hxl w1 e1
   have p1:=p.ext e1
   have s1:=e1.size
   simp (disch:=first|omega|simp only [RO]|(simp only [RZ]<;>omega)|fail) only [↓RBp,↓RA,↓reduceIte,Nat.reduceAdd,Nat.reduceMul,Nat.reduceEqDiff,RB,RX,RA2,r1,r2]
   refine k_Claim p1.a p.r.ag p.r.on.off p.r.on.err (by omega) t0 t8 c0 c5 _ (fun D2 f2 r e hr w2 Y2 a2 h2=> ?_)
   have hcl:=cl_cln p.r c0 c5 hr
   rcases cl_ok p.r c0 c5 t0 t8 hr with ⟨_,_,_,_,h1,h3⟩|⟨rfl,k',g',rfl,ok,rg2,n2,x2⟩
   ·exfalso
    rcases how with ⟨h2,_⟩|⟨_,h2,_⟩
    ·exact h1 k hk h2
    ·rw [h3 k hk] at h2;cases h2
   ·obtain ⟨ek,eg⟩:=How.uniq how ok.how hk ok.kn
    subst ek;subst eg
    have e3:(3:Int)+32*(k:Int)=((3+32*k:Nat):Int):=by omega
    simp (disch:=first|omega|simp only [RO]|(simp only [RZ]<;>omega)|fail) only [↓RBp,↓RA,↓reduceIte,Nat.reduceAdd,Nat.reduceMul,Nat.reduceEqDiff,RB,RX,RA2,e3]
    refine hK w2 Y2 D2 f2 v' sl' ((AStp.of_ext Y b e1).trans a2) ⟨h2,rg2,(m1.astp a2).congr (fun j hj i hi=> ?_) (fun j hj=> ?_),p.n5⟩ (by omega) hcl
    ·by_cases ej:j=k
     ·subst ej;rw [upF_eq];exact (ok.own i hi).symm
     ·rw [upF_ne _ _ ej];exact (ok.oth j hj ej i hi).symm
    ·unfold mH;rw [ok.fe]
     by_cases ej:j=k
     ·subst ej;rw [upF_eq]
     ·rw [upF_ne _ _ ej]
 ·have hq:=fun K (hk:K (.tuple #[v,.int .i64 0,.int .i64 1]) w)=>k_rClaimBad (w:=w) (v:=v) hb K hk
  simp (disch:=first|omega|simp only [RO]|(simp only [RZ]<;>omega)|fail) only [↓RBp,↓RA,↓reduceIte,Nat.reduceAdd,Nat.reduceMul,Nat.reduceEqDiff,RB,RX,RA2,q1,q2]
  refine hq _ ?_
  simp (disch:=first|omega|simp only [RO]|(simp only [RZ]<;>omega)|fail) only [↓RBp,↓RA,↓reduceIte,Nat.reduceAdd,Nat.reduceMul,Nat.reduceEqDiff,RB,RX,RA2,q1,q2]
  refine k_ClaimBad p.a hb _ (fun w1 e1=> ?_)
  simp (disch:=first|omega|simp only [RO]|(simp only [RZ]<;>omega)|fail) only [↓RBp,↓RA,↓reduceIte,Nat.reduceAdd,Nat.reduceMul,Nat.reduceEqDiff,RB,RX,RA2]
  exact hK w1 Y D f v sl (AStp.of_ext Y b e1) (p.ext e1) (by omega) (fun h=>h)
def lnI (ch:Int):Int:=if 0≤ch∧ch<100 then 3+32*ch else-7
theorem lnI_at {k:Nat} (hk:k<n) (hn:n≤5):lnI (k:Int)=((3+32*k:Nat):Int):=by unfold lnI;rw [if_pos (by omega)];omega
theorem lnI_no (h:¬(0≤ch∧ch<n)) (hn:n≤5):∀k,k<n→lnI ch≠((3+32*k:Nat):Int):=fun k hk=>by
 unfold lnI
 split
 ·omega
 ·omega
theorem pl_rel (p:PlA w0 w Y D S b o cp n f v sl) (hx:D.exe<100000000) (K:K1) (hK:PlK w0 w Y D S b o cp n K):
  callS Tryz.prog 51 #[v,.int .i64 ch] w (fun t49 w_7=>ev Tryz.prog (Instr.extract t49 0) w_7 fun t50 w_8=>ev Tryz.prog (Instr.extract t49 1) w_8 fun t51 w_9=>callS Tryz.prog 35 (pA #[stV S,.int .i64 (lnI ch)]) w_9 fun t55 w_10=>ev Tryz.prog (binM .eql 3 (.tmp 55) (.tmp 56) t55 t51) w_10 fun t57 w_11=>K (.tuple #[t50,t57]) w_11):=by
 refine k_rRelease p.r p.m p.hP p.a.n0 (by have:=p.n5;omega) ch _ (fun hno w1 e1=> ?_) (fun k hch hk hem w1 e1=> ?_) (fun k g hch hk hem v' sl' w1 e1 m1=> ?_)
 ·simp (disch:=first|omega|simp only [RO]|(simp only [RZ]<;>omega)|fail) only [↓RBp,↓RA,↓reduceIte,Nat.reduceAdd,Nat.reduceMul,Nat.reduceEqDiff,RB,RX,RA2]
  refine k_ReleaseNo (p.a.ext e1) (fun k hk=>lnI_no hno p.n5 k hk) _ (fun w2 e2=> ?_)
  simp (disch:=first|omega|simp only [RO]|(simp only [RZ]<;>omega)|fail) only [↓RBp,↓RA,↓reduceIte,Nat.reduceAdd,Nat.reduceMul,Nat.reduceEqDiff,RB,RX,RA2]
  exact hK w2 Y D f v sl (AStp.of_ext Y b (e1.trans e2)) (p.ext (e1.trans e2)) (by omega) (fun h=>h)
 ·subst hch
  rw [lnI_at hk p.n5]
  simp (disch:=first|omega|simp only [RO]|(simp only [RZ]<;>omega)|fail) only [↓RBp,↓RA,↓reduceIte,Nat.reduceAdd,Nat.reduceMul,Nat.reduceEqDiff,RB,RX,RA2]
  refine k_Release (p.a.ext e1) p.r.ag hk p.r.on.off p.r.on.err (by omega) _ (fun D2 f2 e hr w2 Y2 a2 h2=> ?_)
  have hcl:=rl_cln p.r hk hr
  rcases rl_ok p.r hk hr with ⟨rfl,rfl,rfl,_⟩|⟨_,g,ok,_⟩
  ·simp (disch:=first|omega|simp only [RO]|(simp only [RZ]<;>omega)|fail) only [↓RBp,↓RA,↓reduceIte,Nat.reduceAdd,Nat.reduceMul,Nat.reduceEqDiff,RB,RX,RA2]
   exact hK w2 Y2 D2 f2 v sl ((AStp.of_ext Y b e1).trans a2) ⟨h2,p.r,(p.m.ext e1).astp a2,p.n5⟩ (by omega) (fun h=>h)
  ·exfalso
   rw [ok.em] at hem;cases hem
 ·subst hch
  rw [lnI_at hk p.n5]
  simp (disch:=first|omega|simp only [RO]|(simp only [RZ]<;>omega)|fail) only [↓RBp,↓RA,↓reduceIte,Nat.reduceAdd,Nat.reduceMul,Nat.reduceEqDiff,RB,RX,RA2]
  refine k_Release (p.a.ext e1) p.r.ag hk p.r.on.off p.r.on.err (by omega) _ (fun D2 f2 e hr w2 Y2 a2 h2=> ?_)
  have hcl:=rl_cln p.r hk hr
  rcases rl_ok p.r hk hr with ⟨_,_,_,h3⟩|⟨rfl,g',ok,rg2,n2,x2⟩
  ·exfalso
   rw [h3] at hem;cases hem
  ·have eg:g=g':=by rw [ok.em] at hem;exact (Option.some.inj hem).symm
   subst eg
   have hgk:=emG_ok' p.r hk hem
   simp (disch:=first|omega|simp only [RO]|(simp only [RZ]<;>omega)|fail) only [↓RBp,↓RA,↓reduceIte,Nat.reduceAdd,Nat.reduceMul,Nat.reduceEqDiff,RB,RX,RA2]
   refine hK w2 Y2 D2 f2 v' sl' ((AStp.of_ext Y b e1).trans a2) ⟨h2,rg2,(m1.astp a2).congr (fun j hj i hi=> ?_) (fun j hj=> ?_),p.n5⟩ (by omega) hcl
   ·by_cases ej:j=k
    ·subst ej;rw [upF_eq];exact (ok.own i hi).symm
    ·rw [upF_ne _ _ ej];exact (ok.oth j hj ej i hi).symm
   ·unfold mH;rw [ok.fe]
    by_cases ej:j=k
    ·subst ej;rw [upF_eq,upF_eq];exact hgk.2.2.1.symm
    ·rw [upF_ne _ _ ej,upF_ne _ _ ej]
end
end Go.Proofs.YtifpinhjpbgnoaaGreatDoor
namespace Go.Proofs.YtifpinhjpbgnoaaGreatDoor
open Go Go.Sh
set_option maxRecDepth 100000
set_option linter.unusedSimpArgs false
set_option linter.unusedVariables false
structure ActD where
 kd:Nat
 th:Int
 cl:Int
 ch:Int
 on:Bool
 L:List Int
 M:List Int
def actOk7 (x:ActD):Prop:=x.kd<256∧x.L.length≤maxLen∧x.M.length≤maxLen
def ActsR7 (m:Nat) (w:World) (v:Value) (al:List ActD):Prop:=∃a cap,v= .slice a al.length cap∧∀j x,al[j]? =some x→∃b o tv dv,a=some ⟨b,o,none⟩∧b<m∧(∀i,i<7→w.cell? ⟨b,o+j*7+i,none⟩=some (acF x.kd x.th x.cl x.ch x.on tv dv i))∧RdS m w tv (i64L x.L)∧RdS m w dv (i64L x.M)
theorem ActsR7.ext {m:Nat} {w w':World} {v:Value} {al:List ActD} (h:ActsR7 m w v al) (e:Ext w w'):ActsR7 m w' v al:=by
 obtain ⟨a,cap,hv,h⟩:=h
 refine ⟨a,cap,hv,fun j x hx=> ?_⟩
 obtain ⟨b,o,tv,dv,ha,hb,c,r1,r2⟩:=h j x hx
 exact ⟨b,o,tv,dv,ha,hb,fun i hi=>e.cell_some (c i hi),r1.ext e,r2.ext e⟩
end Go.Proofs.YtifpinhjpbgnoaaGreatDoor
namespace Go.Proofs.YtifpinhjpbgnoaaGreatDoor
open Go Go.Sh
set_option maxRecDepth 100000
set_option maxHeartbeats 4000000
set_option linter.unusedSimpArgs false
set_option linter.unusedVariables false
section
variable {w0 w w':World} {Y:Lay} {D:DS} {P:Nat→Prop} {S b o cp n k:Nat} {f:Nat→Int×Int×Bool} {v v':Value} {sl:Nat→Value} {W:Nat→Nat→Nat} {hd:Nat→Bool}
theorem k_is (L:List Int) (h:SlO w 3 1 v L.length (i64L L)) (h':SlO w 3 1 v' L.length (i64L L)) (hl:L.length<1000000) (K:K1) (hK:∀w',Ext w w'→K (.bool true) w'):
  callS Tryz.prog 50 #[v,v'] w K:=by
 obtain ⟨pa,pc,rfl,hpc⟩:=h.isS'
 obtain ⟨qa,qc,rfl,hqc⟩:=h'.isS'
 refine f50_call _ _ _ _ ?_
 unfold f50_t
 simp (disch:=first|omega|simp only [RO]|(simp only [RZ]<;>omega)|fail) only [↓RBp,↓RA,↓reduceIte,Nat.reduceAdd,Nat.reduceMul,Nat.reduceEqDiff,RB,RX,RA2]
 apply f50_l1_rule (I:=fun z w'=>∃i:Nat,z= .int .i64 (i:Int)∧i≤L.length∧Ext w w') (μ:=fun z _=>L.length-(Go.RowKit.intOf z).toNat)
 ·exact ⟨0,rfl,by omega,(by repeat (first|(with_reducible first|refine Sh.eB ?_ (by first|omega|(simp only [RZ]<;>omega)) _|assumption|exact Sh.eR _|refine Sh.eA ?_ _|refine Sh.eD ?_|refine Sh.eT ?_ (by assumption))|exact Sh.eR _))⟩
 ·intros;rename_i w1 hI E1 hE
  obtain ⟨i,rfl,hi,e1⟩:=hI
  by_cases hin:i<L.length
  ·have hg:(i64L L)[i]? =some (.int .i64 L[i]):=by simp [i64L,hin]
   obtain ⟨a1,b1,c1,hv1,_⟩:=h.isS (by omega)
   obtain ⟨a2,b2,c2,hv2,_⟩:=h'.isS (by omega)
   injection hv1 with hv1 _ _;subst hv1
   injection hv2 with hv2 _ _;subst hv2
   have q1:=(h.ext e1).cell rfl hg
   have q2:=(h'.ext e1).cell rfl hg
   generalize L[i]=x at q1 q2
   unfold f50_l1_t
   simp (disch:=first|omega|simp only [RO]|(simp only [RZ]<;>omega)|fail) only [↓RBp,↓RA,↓reduceIte,Nat.reduceAdd,Nat.reduceMul,Nat.reduceEqDiff,RB,RX,RA2,q1,q2]
   apply hE
   ·exact ⟨i+1,by simp,by omega,(by repeat (first|(with_reducible first|refine Sh.eB ?_ (by first|omega|(simp only [RZ]<;>omega)) _|assumption|exact Sh.eR _|refine Sh.eA ?_ _|refine Sh.eD ?_|refine Sh.eT ?_ (by assumption))|exact Sh.eR _))⟩
   ·simp [Go.RowKit.intOf];omega
  ·have:i=L.length:=by omega
   subst this
   unfold f50_l1_t
   simp (disch:=first|omega|simp only [RO]|(simp only [RZ]<;>omega)|fail) only [↓RBp,↓RA,↓reduceIte,Nat.reduceAdd,Nat.reduceMul,Nat.reduceEqDiff,RB,RX,RA2,f50_k1_eq,f50_k1_t]
   exact hK _ e1
structure AgM (w:World) (P:Nat→Prop) (v:Value) (sl:Nat→Value) (n:Nat) (W:Nat→Nat→Nat) (hd:Nat→Bool) (f:Nat→Int×Int×Bool):Prop where
 m:MdS w P v sl n W hd
 h:∀k,k<n→W k 0<18446744073709551616∧hC (W k 0)=(f k).1∧hO (W k 0)=(f k).2.1
theorem AgM.ext (h:AgM w P v sl n W hd f) (e:Ext w w'):AgM w' P v sl n W hd f:=⟨h.m.ext e,h.h⟩
theorem AgM.head (h:AgM w P v sl n W hd f) (hk:k<n):∃b o cap g q cp,v= .slice (some ⟨g,q,none⟩) n cp∧g<w.heap.size∧w.cell? ⟨g,q+k*2,none⟩=some (wsV b o cap)∧w.cell? ⟨g,q+k*2+1,none⟩=some (.bool (hd k))∧∀(w1:World) (K:K1),Ext w w1→(∀w',Ext w1 w'→K (.agg #[.int .i64 (f k).1,.int .i64 (f k).2.1,.int .u16 (gX (W k 0):Int)]) w')→callS Tryz.prog 49 #[.agg #[wsV b o cap,.bool (hd k)]] w1 K:=by
 obtain ⟨b,o,cap,g,q,cp,hv,c0,c1,hw,_⟩:=h.m.get hk
 refine ⟨b,o,cap,g,q,cp,hv,lt_of_cell c0,c0,c1,fun w1 K e hK=> ?_⟩
 have hh:=h.h k hk
 refine k_Head (hw.ext e) hh.1 (hd k) K ?_
 rw [hh.2.1,hh.2.2]
 exact hK
end
end Go.Proofs.YtifpinhjpbgnoaaGreatDoor
namespace Go.Proofs.YtifpinhjpbgnoaaGreatDoor
open Go Go.Sh
set_option maxRecDepth 100000
set_option maxHeartbeats 4000000
set_option linter.unusedSimpArgs false
set_option linter.unusedVariables false
section
variable {w0 w w':World} {Y:Lay} {D:DS} {P:Nat→Prop} {S b o cp n k:Nat} {f:Nat→Int×Int×Bool} {v v':Value} {sl:Nat→Value} {W:Nat→Nat→Nat} {hd:Nat→Bool}
theorem AgM.val (h:AgM w P v sl n W hd f) (n0:0<n):∃g q cp,v= .slice (some ⟨g,q,none⟩) n cp:=by
 obtain ⟨b,o,cap,g,q,cp,hv,_⟩:=h.head (k:=0) n0
 exact ⟨g,q,cp,hv⟩
theorem ag_l4 (h:ArS w0 w Y D S b o cp 3 n f) (h5:n≤5) (hm:AgM w P v sl n W hd f) (t c:Nat) (x5 x6 x44 x47:Value) (K:K1) (E1 E2:VP1)
  (hE:∀w',Ext w w'→f15_k5 K E1 E2 (stV S) v x5 x6 (.int .i64 (t:Int)) x44 x47 w'):
  f15_l4 K E1 E2 (stV S) v x5 x6 (.int .i64 (t:Int)) (.int .i64 (c:Int)) (.slice none 0 0) x44 x47 (.int .i64 (n:Int)) (.int .i64 0) w:=by
 apply f15_l4_rule (I:=fun x z w'=>∃i:Nat,z= .int .i64 (i:Int)∧i≤n∧SlO w' 3 1 x (lnL (fun k=>decide ((f k).2.1=(t:Int))&&decide ((f k).1=(c:Int))) 3 i).length (i64L (lnL (fun k=>decide ((f k).2.1=(t:Int))&&decide ((f k).1=(c:Int))) 3 i))∧Frm Nob w w'∧NewV w.heap.size x) (μ:=fun _ z _=>n-(Go.RowKit.intOf z).toNat)
 ·exact ⟨0,rfl,by omega,SlO.nil _ _ _,(by repeat (first|exact Frm.refl _ _|with_reducible refine Frm.set ?_ _ (fun _=>rfl)|with_reducible refine Frm.alloc ?_ _|with_reducible refine Frm.drew ?_)),fun b hb=>by cases hb⟩
 ·intros;rename_i x11 z w1 hI E3 hE3
  obtain ⟨i,rfl,hi,hs,hf,hnw⟩:=hI
  have e1:Ext w w1:=hf.to_ext (fun _ _ h=>h)
  have h1:=h.ext e1
  have hln:=lnL_len (fun k=>decide ((f k).2.1=(t:Int))&&decide ((f k).1=(c:Int))) 3 i
  by_cases hin:i<n
  ·have e3:(3:Int)+32*(i:Int)=((3+32*i:Nat):Int):=by omega
   obtain ⟨b1,o1,cap1,g,q,gcp,rfl,ltg,c0,c1,hh⟩:=(hm.ext e1).head hin
   obtain ⟨pa,pc,rfl,hpc⟩:=hs.isS'
   have hss:lnL (fun k=>decide ((f k).2.1=(t:Int))&&decide ((f k).1=(c:Int))) 3 (i+1)=lnL (fun k=>decide ((f k).2.1=(t:Int))&&decide ((f k).1=(c:Int))) 3 i++if (decide ((f i).2.1=(t:Int))&&decide ((f i).1=(c:Int)))=true then [((3+32*i:Nat):Int)] else []:=rfl
   generalize lnL (fun k=>decide ((f k).2.1=(t:Int))&&decide ((f k).1=(c:Int))) 3 i=l at*
   generalize gX (W i 0)=gg at*
   generalize (f i).1=ci at*
   generalize (f i).2.1=oi at*
   unfold f15_l4_t
   (repeat' (first|(with_reducible refine brS_mk (fun _=> ?_) (fun _=> ?_))|(with_reducible refine And.intro ?_ ?_)|(simp (disch:=first|omega|simp only [RO]|(simp only [RZ]<;>omega)|fail) only [↓RBp,↓RA,↓reduceIte,Nat.reduceAdd,Nat.reduceMul,Nat.reduceEqDiff,RB,RX,RA2,c0,c1])))
   refine hh _ _ (by repeat (first|(with_reducible first|refine Sh.eB ?_ (by first|omega|(simp only [RZ]<;>omega)) _|assumption|exact Sh.eR _|refine Sh.eA ?_ _|refine Sh.eD ?_|refine Sh.eT ?_ (by assumption))|exact Sh.eR _)) (fun w2 e2=> ?_)
   have e12:Ext w1 w2:=Ext.trans (by repeat (first|(with_reducible first|refine Sh.eB ?_ (by first|omega|(simp only [RZ]<;>omega)) _|assumption|exact Sh.eR _|refine Sh.eA ?_ _|refine Sh.eD ?_|refine Sh.eT ?_ (by assumption))|exact Sh.eR _)) e2
   by_cases ho:oi=(t:Int)
   ·by_cases hc:ci=(c:Int)
    ·subst ho;subst hc
     (repeat' (first|(with_reducible refine brS_mk (fun _=> ?_) (fun _=> ?_))|(with_reducible refine And.intro ?_ ?_)|(simp (disch:=first|omega|simp only [RO]|(simp only [RZ]<;>omega)|fail) only [↓RBp,↓RA,↓reduceIte,Nat.reduceAdd,Nat.reduceMul,Nat.reduceEqDiff,RB,RX,RA2,e3])))
     refine app_new elInt (w0:=w) (hs.ext (by repeat (first|(with_reducible first|refine Sh.eB ?_ (by first|omega|(simp only [RZ]<;>omega)) _|assumption|exact Sh.eR _|refine Sh.eA ?_ _|refine Sh.eD ?_|refine Sh.eT ?_ (by assumption))|exact Sh.eR _))) (hf.ext (by repeat (first|(with_reducible first|refine Sh.eB ?_ (by first|omega|(simp only [RZ]<;>omega)) _|assumption|exact Sh.eR _|refine Sh.eA ?_ _|refine Sh.eD ?_|refine Sh.eT ?_ (by assumption))|exact Sh.eR _))) hnw (m:=1) (news:= [.int .i64 ((3+32*i:Nat):Int)]) rfl ?_ rfl (by omega) (by omega) (by omega) (fun v' w4 hsp hf4 n4 hfr4 hb4=> ?_)
     ·intro j u hj
      obtain ⟨rfl,rfl⟩:=one_get hj
      simp (disch:=first|omega|simp only [RO]|(simp only [RZ]<;>omega)|fail) only [↓RBp,↓RA,↓reduceIte,Nat.reduceAdd,Nat.reduceMul,Nat.reduceEqDiff,RB,RX,RA2]
     simp (disch:=first|omega|simp only [RO]|(simp only [RZ]<;>omega)|fail) only [↓RBp,↓RA,↓reduceIte,Nat.reduceAdd,Nat.reduceMul,Nat.reduceEqDiff,RB,RX,RA2,f15_k7_eq,f15_k7_t]
     apply hE3
     ·refine ⟨i+1,by simp,by omega,?_,hf4,n4⟩
      rw [hss]
      simp only [decide_true,Bool.and_true,if_true,List.length_append]
      simpa [i64L] using hsp
     ·simp [Go.RowKit.intOf];omega
    ·(repeat' (first|(with_reducible refine brS_mk (fun _=> ?_) (fun _=> ?_))|(with_reducible refine And.intro ?_ ?_)|(simp (disch:=first|omega|simp only [RO]|(simp only [RZ]<;>omega)|fail) only [↓RBp,↓RA,↓reduceIte,Nat.reduceAdd,Nat.reduceMul,Nat.reduceEqDiff,RB,RX,RA2,ho,hc,e3,f15_k7_eq,f15_k7_t])))
     apply hE3
     ·refine ⟨i+1,by simp,by omega,?_,hf.ext (by repeat (first|(with_reducible first|refine Sh.eB ?_ (by first|omega|(simp only [RZ]<;>omega)) _|assumption|exact Sh.eR _|refine Sh.eA ?_ _|refine Sh.eD ?_|refine Sh.eT ?_ (by assumption))|exact Sh.eR _)),hnw⟩
      rw [hss,decide_eq_false hc,Bool.and_false,if_neg (by decide),List.append_nil]
      exact hs.ext (by repeat (first|(with_reducible first|refine Sh.eB ?_ (by first|omega|(simp only [RZ]<;>omega)) _|assumption|exact Sh.eR _|refine Sh.eA ?_ _|refine Sh.eD ?_|refine Sh.eT ?_ (by assumption))|exact Sh.eR _))
     ·simp [Go.RowKit.intOf];omega
   ·(repeat' (first|(with_reducible refine brS_mk (fun _=> ?_) (fun _=> ?_))|(with_reducible refine And.intro ?_ ?_)|(simp (disch:=first|omega|simp only [RO]|(simp only [RZ]<;>omega)|fail) only [↓RBp,↓RA,↓reduceIte,Nat.reduceAdd,Nat.reduceMul,Nat.reduceEqDiff,RB,RX,RA2,ho,e3,f15_k7_eq,f15_k7_t])))
    apply hE3
    ·refine ⟨i+1,by simp,by omega,?_,hf.ext (by repeat (first|(with_reducible first|refine Sh.eB ?_ (by first|omega|(simp only [RZ]<;>omega)) _|assumption|exact Sh.eR _|refine Sh.eA ?_ _|refine Sh.eD ?_|refine Sh.eT ?_ (by assumption))|exact Sh.eR _)),hnw⟩
     rw [hss,decide_eq_false ho,Bool.false_and,if_neg (by decide),List.append_nil]
     exact hs.ext (by repeat (first|(with_reducible first|refine Sh.eB ?_ (by first|omega|(simp only [RZ]<;>omega)) _|assumption|exact Sh.eR _|refine Sh.eA ?_ _|refine Sh.eD ?_|refine Sh.eT ?_ (by assumption))|exact Sh.eR _))
    ·simp [Go.RowKit.intOf];omega
  ·have:i=n:=by omega
   subst this
   unfold f15_l4_t
   simp (disch:=first|omega|simp only [RO]|(simp only [RZ]<;>omega)|fail) only [↓RBp,↓RA,↓reduceIte,Nat.reduceAdd,Nat.reduceMul,Nat.reduceEqDiff,RB,RX,RA2,f15_k6_eq,f15_k6_t]
   refine k_Chunks h1 _ _ (by omega) (by omega) _ (fun v2 w2 e2 n2 hs2=> ?_)
   simp (disch:=first|omega|simp only [RO]|(simp only [RZ]<;>omega)|fail) only [↓RBp,↓RA,↓reduceIte,Nat.reduceAdd,Nat.reduceMul,Nat.reduceEqDiff,RB,RX,RA2]
   refine k_is _ hs2 (hs.ext e2) (by omega) _ (fun w3 e3=> ?_)
   simp (disch:=first|omega|simp only [RO]|(simp only [RZ]<;>omega)|fail) only [↓RBp,↓RA,↓reduceIte,Nat.reduceAdd,Nat.reduceMul,Nat.reduceEqDiff,RB,RX,RA2]
   exact hE _ (e1.trans (e2.trans e3))
theorem k_agrees (h:ArS w0 w Y D S b o cp 3 n f) (h5:n≤5) (hm:AgM w P v sl n W hd f) (K:K1) (hK:∀w',Ext w w'→K (.bool true) w'):
  callS Tryz.prog 15 #[stV S,v] w K:=by
 have n0:=h.n0
 obtain ⟨vg,vq,vcp,hv⟩:=hm.val n0
 refine f15_call _ _ _ _ ?_
 unfold f15_t
 rw [hv]
 simp (disch:=first|omega|simp only [RO]|(simp only [RZ]<;>omega)|fail) only [↓RBp,↓RA,↓reduceIte,Nat.reduceAdd,Nat.reduceMul,Nat.reduceEqDiff,RB,RX,RA2]
 rw [←hv]
 apply f15_l1_rule (I:=fun x y z w'=>∃i:Nat,z= .int .i64 (i:Int)∧i≤n∧y= .int .i64 ((frC f i:Nat):Int)∧SlO w' 3 1 x (lnL (fun _=>true) 3 i).length (i64L (lnL (fun _=>true) 3 i))∧Frm Nob w w'∧NewV w.heap.size x) (μ:=fun _ _ z _=>n-(Go.RowKit.intOf z).toNat)
 ·exact ⟨0,rfl,by omega,rfl,SlO.nil _ _ _,(by repeat (first|exact Frm.refl _ _|with_reducible refine Frm.set ?_ _ (fun _=>rfl)|with_reducible refine Frm.alloc ?_ _|with_reducible refine Frm.drew ?_)),fun b hb=>by cases hb⟩
 ·intros;rename_i x5 x6 z w1 hI E1 hE
  obtain ⟨i,rfl,hi,rfl,hs,hf,hnw⟩:=hI
  have e1:Ext w w1:=hf.to_ext (fun _ _ h=>h)
  have h1:=h.ext e1
  have hln:=lnL_len (fun _=>true) 3 i
  by_cases hin:i<n
  ·have e3:(3:Int)+32*(i:Int)=((3+32*i:Nat):Int):=by omega
   obtain ⟨b1,o1,cap1,g,q,gcp,hv2,ltg,c0,c1,hh⟩:=(hm.ext e1).head hin
   obtain ⟨pa,pc,rfl,hpc⟩:=hs.isS'
   have hss:lnL (fun _=>true) 3 (i+1)=lnL (fun _=>true) 3 i++ [((3+32*i:Nat):Int)]:=rfl
   have hfc:frC f (i+1)=frC f i+if (f i).1<0 then 1 else 0:=rfl
   have hfl:=frC_le f i
   have how:=fun (w2:World) (e2:Ext w w2) (K:K1) hK=>k_OwnerAt (h.ext e2) hin K hK
   generalize lnL (fun _=>true) 3 i=l at*
   generalize gX (W i 0)=gg at*
   generalize (f i).1=ci at*
   generalize (f i).2.1=oi at*
   generalize frC f i=fc at*
   unfold f15_l1_t
   rw [hv2]
   (repeat' (first|(with_reducible refine brS_mk (fun _=> ?_) (fun _=> ?_))|(with_reducible refine And.intro ?_ ?_)|(simp (disch:=first|omega|simp only [RO]|(simp only [RZ]<;>omega)|fail) only [↓RBp,↓RA,↓reduceIte,Nat.reduceAdd,Nat.reduceMul,Nat.reduceEqDiff,RB,RX,RA2,c0,c1])))
   refine hh _ _ (by repeat (first|(with_reducible first|refine Sh.eB ?_ (by first|omega|(simp only [RZ]<;>omega)) _|assumption|exact Sh.eR _|refine Sh.eA ?_ _|refine Sh.eD ?_|refine Sh.eT ?_ (by assumption))|exact Sh.eR _)) (fun w2 e2=> ?_)
   have e12:Ext w1 w2:=Ext.trans (by repeat (first|(with_reducible first|refine Sh.eB ?_ (by first|omega|(simp only [RZ]<;>omega)) _|assumption|exact Sh.eR _|refine Sh.eA ?_ _|refine Sh.eD ?_|refine Sh.eT ?_ (by assumption))|exact Sh.eR _)) e2
   have hs12:=e12.size
   (repeat' (first|(with_reducible refine brS_mk (fun _=> ?_) (fun _=> ?_))|(with_reducible refine And.intro ?_ ?_)|(simp (disch:=first|omega|simp only [RO]|(simp only [RZ]<;>omega)|fail) only [↓RBp,↓RA,↓reduceIte,Nat.reduceAdd,Nat.reduceMul,Nat.reduceEqDiff,RB,RX,RA2,e3])))
   have hC0:=Cells.new w2 [Value.int .i64 ci,.int .i64 oi,.int .u16 (gg:Int)] 36
   have ltv:=fun bb (hb:(Value.slice pa l.length pc).ownBlock=some bb)=>hs.lt hb
   refine app_new elInt (w0:=w) (hs.ext (by repeat (first|(with_reducible first|refine Sh.eB ?_ (by first|omega|(simp only [RZ]<;>omega)) _|assumption|exact Sh.eR _|refine Sh.eA ?_ _|refine Sh.eD ?_|refine Sh.eT ?_ (by assumption))|exact Sh.eR _))) (hf.ext (by repeat (first|(with_reducible first|refine Sh.eB ?_ (by first|omega|(simp only [RZ]<;>omega)) _|assumption|exact Sh.eR _|refine Sh.eA ?_ _|refine Sh.eD ?_|refine Sh.eT ?_ (by assumption))|exact Sh.eR _))) hnw (m:=1) (news:= [.int .i64 ((3+32*i:Nat):Int)]) rfl ?_ rfl (by omega) (by omega) (by omega) (fun v' w4 hsp hf4 n4 hfr4 hb4=> ?_)
   ·intro j u hj
    obtain ⟨rfl,rfl⟩:=one_get hj
    simp (disch:=first|omega|simp only [RO]|(simp only [RZ]<;>omega)|fail) only [↓RBp,↓RA,↓reduceIte,Nat.reduceAdd,Nat.reduceMul,Nat.reduceEqDiff,RB,RX,RA2]
   have hC4:=(hC0.ext (Ext.alloc_self _ (.cells #[.int .i64 ((3+32*i:Nat):Int)] 3))).frm hfr4 (fun hb=>by have:=ltv _ hb;omega)
   have e4:Ext w w4:=hf4.to_ext (fun _ _ h=>h)
   have d0:w4.cell? ⟨w2.heap.size,0,none⟩=some (.int .i64 ci):=hC4.cell (i:=0) (by simp)
   have lt4:=hC4.lt
   have fin:∀(w5:World),Ext w4 w5→f15_k3 K E1 (stV S) (.slice (some ⟨g,q,none⟩) n gcp) v' (.int .i64 ((frC f (i+1):Nat):Int)) (.int .i64 (i:Int)) (.pointer (some ⟨w2.heap.size,0,none⟩)) (.int .i64 (n:Int)) (.int .i64 (i:Int)) w5:=by
    intro w5 e5
    have hC5:=hC4.ext e5
    have d1:w5.cell? ⟨w2.heap.size,1,none⟩=some (.int .i64 oi):=hC5.cell (i:=1) (by simp)
    have lt5:=hC5.lt
    rw [f15_k3_eq]
    unfold f15_k3_t
    simp (disch:=first|omega|simp only [RO]|(simp only [RZ]<;>omega)|fail) only [↓RBp,↓RA,↓reduceIte,Nat.reduceAdd,Nat.reduceMul,Nat.reduceEqDiff,RB,RX,RA2,d1,e3]
    refine how _ (e4.trans (e5.trans (by repeat (first|(with_reducible first|refine Sh.eB ?_ (by first|omega|(simp only [RZ]<;>omega)) _|assumption|exact Sh.eR _|refine Sh.eA ?_ _|refine Sh.eD ?_|refine Sh.eT ?_ (by assumption))|exact Sh.eR _)))) _ (fun w6 e6=> ?_)
    have hC6:=hC5.ext (Ext.trans (by repeat (first|(with_reducible first|refine Sh.eB ?_ (by first|omega|(simp only [RZ]<;>omega)) _|assumption|exact Sh.eR _|refine Sh.eA ?_ _|refine Sh.eD ?_|refine Sh.eT ?_ (by assumption))|exact Sh.eR _)) e6)
    have d1:w6.cell? ⟨w2.heap.size,1,none⟩=some (.int .i64 oi):=hC6.cell (i:=1) (by simp)
    have lt6:=hC6.lt
    (repeat' (first|(with_reducible refine brS_mk (fun _=> ?_) (fun _=> ?_))|(with_reducible refine And.intro ?_ ?_)|(simp (disch:=first|omega|simp only [RO]|(simp only [RZ]<;>omega)|fail) only [↓RBp,↓RA,↓reduceIte,Nat.reduceAdd,Nat.reduceMul,Nat.reduceEqDiff,RB,RX,RA2,d1,e3])))
    apply hE
    ·refine ⟨i+1,by simp,by omega,rfl,?_,hf4.ext (e5.trans (Ext.trans (by repeat (first|(with_reducible first|refine Sh.eB ?_ (by first|omega|(simp only [RZ]<;>omega)) _|assumption|exact Sh.eR _|refine Sh.eA ?_ _|refine Sh.eD ?_|refine Sh.eT ?_ (by assumption))|exact Sh.eR _)) e6)),n4⟩
     rw [hss,List.length_append]
     have:=hsp.ext (e5.trans (Ext.trans (by repeat (first|(with_reducible first|refine Sh.eB ?_ (by first|omega|(simp only [RZ]<;>omega)) _|assumption|exact Sh.eR _|refine Sh.eA ?_ _|refine Sh.eD ?_|refine Sh.eT ?_ (by assumption))|exact Sh.eR _)) e6))
     simpa [i64L] using this
    ·simp [Go.RowKit.intOf];omega
   by_cases hc:ci<0
   ·rw [if_pos hc] at hfc
    rw [hfc] at fin
    simp (disch:=first|omega|simp only [RO]|(simp only [RZ]<;>omega)|fail) only [↓RBp,↓RA,↓reduceIte,Nat.reduceAdd,Nat.reduceMul,Nat.reduceEqDiff,RB,RX,RA2,d0,hc]
    exact fin _ (by repeat (first|(with_reducible first|refine Sh.eB ?_ (by first|omega|(simp only [RZ]<;>omega)) _|assumption|exact Sh.eR _|refine Sh.eA ?_ _|refine Sh.eD ?_|refine Sh.eT ?_ (by assumption))|exact Sh.eR _))
   ·rw [if_neg hc] at hfc
    rw [hfc] at fin
    simp (disch:=first|omega|simp only [RO]|(simp only [RZ]<;>omega)|fail) only [↓RBp,↓RA,↓reduceIte,Nat.reduceAdd,Nat.reduceMul,Nat.reduceEqDiff,RB,RX,RA2,d0,hc]
    exact fin _ (by repeat (first|(with_reducible first|refine Sh.eB ?_ (by first|omega|(simp only [RZ]<;>omega)) _|assumption|exact Sh.eR _|refine Sh.eA ?_ _|refine Sh.eD ?_|refine Sh.eT ?_ (by assumption))|exact Sh.eR _))
  ·have:i=n:=by omega
   subst this
   unfold f15_l1_t
   simp (disch:=first|omega|simp only [RO]|(simp only [RZ]<;>omega)|fail) only [↓RBp,↓RA,↓reduceIte,Nat.reduceAdd,Nat.reduceMul,Nat.reduceEqDiff,RB,RX,RA2,f15_k1_eq,f15_k1_t]
   apply f15_l2_rule (I:=fun z w'=>∃t:Nat,z= .int .i64 (t:Int)∧t≤8∧Ext w1 w') (μ:=fun z _=>8-(Go.RowKit.intOf z).toNat)
   ·exact ⟨0,rfl,by omega,Ext.refl _⟩
   ·intros;rename_i w2 hI2 E2 hE2
    obtain ⟨t,rfl,ht,e2⟩:=hI2
    by_cases ht8:t<8
    ·unfold f15_l2_t
     simp (disch:=first|omega|simp only [RO]|(simp only [RZ]<;>omega)|fail) only [↓RBp,↓RA,↓reduceIte,Nat.reduceAdd,Nat.reduceMul,Nat.reduceEqDiff,RB,RX,RA2]
     apply f15_l3_rule (I:=fun z w'=>∃c:Nat,z= .int .i64 (c:Int)∧c≤5∧Ext w1 w') (μ:=fun z _=>5-(Go.RowKit.intOf z).toNat)
     ·exact ⟨0,rfl,by omega,(by repeat (first|(with_reducible first|refine Sh.eB ?_ (by first|omega|(simp only [RZ]<;>omega)) _|assumption|exact Sh.eR _|refine Sh.eA ?_ _|refine Sh.eD ?_|refine Sh.eT ?_ (by assumption))|exact Sh.eR _))⟩
     ·intros;rename_i w3 hI3 E3 hE3
      obtain ⟨c,rfl,hc,e3⟩:=hI3
      by_cases hc5:c<5
      ·unfold f15_l3_t
       rw [hv]
       simp (disch:=first|omega|simp only [RO]|(simp only [RZ]<;>omega)|fail) only [↓RBp,↓RA,↓reduceIte,Nat.reduceAdd,Nat.reduceMul,Nat.reduceEqDiff,RB,RX,RA2]
       rw [←hv]
       refine ag_l4 ((h1.ext e3).ext (by repeat (first|(with_reducible first|refine Sh.eB ?_ (by first|omega|(simp only [RZ]<;>omega)) _|assumption|exact Sh.eR _|refine Sh.eA ?_ _|refine Sh.eD ?_|refine Sh.eT ?_ (by assumption))|exact Sh.eR _))) h5 ((hm.ext (e1.trans e3)).ext (by repeat (first|(with_reducible first|refine Sh.eB ?_ (by first|omega|(simp only [RZ]<;>omega)) _|assumption|exact Sh.eR _|refine Sh.eA ?_ _|refine Sh.eD ?_|refine Sh.eT ?_ (by assumption))|exact Sh.eR _))) t c _ _ _ _ _ _ _ (fun w4 e4=> ?_)
       rw [f15_k5_eq]
       unfold f15_k5_t
       simp (disch:=first|omega|simp only [RO]|(simp only [RZ]<;>omega)|fail) only [↓RBp,↓RA,↓reduceIte,Nat.reduceAdd,Nat.reduceMul,Nat.reduceEqDiff,RB,RX,RA2]
       apply hE3
       ·exact ⟨c+1,by simp,by omega,e3.trans (Ext.trans (by repeat (first|(with_reducible first|refine Sh.eB ?_ (by first|omega|(simp only [RZ]<;>omega)) _|assumption|exact Sh.eR _|refine Sh.eA ?_ _|refine Sh.eD ?_|refine Sh.eT ?_ (by assumption))|exact Sh.eR _)) e4)⟩
       ·simp [Go.RowKit.intOf];omega
      ·have:c=5:=by omega
       subst this
       unfold f15_l3_t
       simp (disch:=first|omega|simp only [RO]|(simp only [RZ]<;>omega)|fail) only [↓RBp,↓RA,↓reduceIte,Nat.reduceAdd,Nat.reduceMul,Nat.reduceEqDiff,RB,RX,RA2,f15_k4_eq,f15_k4_t]
       apply hE2
       ·exact ⟨t+1,by simp,by omega,e3⟩
       ·simp [Go.RowKit.intOf];omega
    ·have:t=8:=by omega
     subst this
     have h2:=h1.ext e2
     unfold f15_l2_t
     simp (disch:=first|omega|simp only [RO]|(simp only [RZ]<;>omega)|fail) only [↓RBp,↓RA,↓reduceIte,Nat.reduceAdd,Nat.reduceMul,Nat.reduceEqDiff,RB,RX,RA2,f15_k2_eq,f15_k2_t]
     refine k_FreeChunks h2 _ (fun w3 e3=> ?_)
     simp (disch:=first|omega|simp only [RO]|(simp only [RZ]<;>omega)|fail) only [↓RBp,↓RA,↓reduceIte,Nat.reduceAdd,Nat.reduceMul,Nat.reduceEqDiff,RB,RX,RA2]
     refine k_Lines (h2.ext e3) _ (fun v4 w4 e4 n4 hs4=> ?_)
     simp (disch:=first|omega|simp only [RO]|(simp only [RZ]<;>omega)|fail) only [↓RBp,↓RA,↓reduceIte,Nat.reduceAdd,Nat.reduceMul,Nat.reduceEqDiff,RB,RX,RA2]
     refine k_is _ hs4 (hs.ext (e2.trans (e3.trans e4))) (by omega) _ (fun w5 e5=> ?_)
     try simp (disch:=first|omega|simp only [RO]|(simp only [RZ]<;>omega)|fail) only [↓RBp,↓RA,↓reduceIte,Nat.reduceAdd,Nat.reduceMul,Nat.reduceEqDiff,RB,RX,RA2]
     exact hK _ (e1.trans (e2.trans (e3.trans (e4.trans e5))))
end
end Go.Proofs.YtifpinhjpbgnoaaGreatDoor
namespace Go.Proofs.YtifpinhjpbgnoaaGreatDoor
open Go Go.Sh
set_option maxRecDepth 100000
set_option maxHeartbeats 4000000
set_option linter.unusedSimpArgs false
set_option linter.unusedVariables false
section
variable {w0 w w':World} {Y Y':Lay} {D D':DS} {S b o cp n X C k:Nat} {f f':Nat→Int×Int×Bool} {v tv dv:Value} {sl:Nat→Value} {kd:Nat} {th cl ch:Int} {on:Bool} {c:Int}
theorem act_in22 {l:Nat} (c0:0≤c) (c5:c<5) {L M:List Int} {ks:List Nat} {ws:List (Nat×Nat)} (ha:ActA c L ks M) (hs:actN D l c L ks M=some ws):∀x∈ws,∃q,0<q∧q<256∧x.1=l*64+q*8:=by
 obtain ⟨h1,h2,h3⟩:=actN_spec ha.len hs
 have vL:=ha.vL
 have vM:=ha.vM
 have bdi:∀x:Int,0≤x∧x<perS c→8≤offN c x.toNat∧offN c x.toNat<256:=fun x hx=>(offN_bd c0 c5 (i:=x.toNat) (by omega)).2
 intro y hy
 rcases h3 with ⟨rfl,_⟩|rfl
 ·cases hy
 ·simp only [List.mem_append,List.mem_map,List.mem_singleton] at hy
  rcases hy with (hy|⟨x,hx,rfl⟩)|rfl
  ·obtain ⟨x,hx,k,hk,e,_⟩:=zipW_mem hy
   subst e
   have:=bdi x (vL x hx)
   exact ⟨offN c x.toNat,by omega,by omega,rfl⟩
  ·have:=bdi x (vM x hx)
   exact ⟨offN c x.toNat,by omega,by omega,rfl⟩
  ·exact ⟨1,by omega,by omega,rfl⟩
theorem pl_hold (p:PlA w0 w Y D S b o cp n f v sl) (hx:D.exe<100000000) (K:K1) (hK:PlK w0 w Y D S b o cp n K) (K2:K1)
  (hK2:∀w' v' e,Ext w w'→(callS Tryz.prog 53 #[stV S,.int .i64 (lnI ch),.bool on] w' (fun t74 w_22=>ev Tryz.prog (binM .eql 3 (.tmp 74) (.tmp 75) t74 (.int .i64 e)) w_22 fun t76 w_23=>K (.tuple #[v',t76]) w_23))→K2 (.tuple #[v',.int .i64 e]) w'):
  callS Tryz.prog 52 #[v,.int .i64 ch,.bool on] w K2:=by
 refine k_rHold p.r p.m p.hP p.a.n0 (by have:=p.n5;omega) ch on _ (fun hno w1 e1=> ?_) (fun k hch hk hc w1 e1=> ?_) (fun k hch hk hc v' w1 e1 m1=> ?_)
 ·refine hK2 _ _ _ e1 ?_
  refine k_HoldNo (p.a.ext e1) (fun k hk=>lnI_no hno p.n5 k hk) _ _ (fun w2 e2=> ?_)
  simp (disch:=first|omega|simp only [RO]|(simp only [RZ]<;>omega)|fail) only [↓RBp,↓RA,↓reduceIte,Nat.reduceAdd,Nat.reduceMul,Nat.reduceEqDiff,RB,RX,RA2]
  exact hK w2 Y D f v sl (AStp.of_ext Y b (e1.trans e2)) (p.ext (e1.trans e2)) (by omega) (fun h=>h)
 ·subst hch
  refine hK2 _ _ _ e1 ?_
  rw [lnI_at hk p.n5]
  refine k_Hold (p.a.ext e1) hk on _ (fun _ w2 e2=> ?_) (fun h=>absurd hc h)
  simp (disch:=first|omega|simp only [RO]|(simp only [RZ]<;>omega)|fail) only [↓RBp,↓RA,↓reduceIte,Nat.reduceAdd,Nat.reduceMul,Nat.reduceEqDiff,RB,RX,RA2]
  exact hK w2 Y D f v sl (AStp.of_ext Y b (e1.trans e2)) (p.ext (e1.trans e2)) (by omega) (fun h=>h)
 ·subst hch
  refine hK2 _ _ _ e1 ?_
  rw [lnI_at hk p.n5]
  refine k_Hold (p.a.ext e1) hk on _ (fun h=>absurd h hc) (fun _ w2 a2 h2=> ?_)
  have rg:RgS D 3 n (upF f k ((f k).1,(f k).2.1,on)):=by
   refine ⟨p.r.on,p.r.gd,p.r.lt,fun j hj=> ?_,fun j hj h0=> ?_⟩
   ·have:=p.r.ag j hj
    by_cases ej:j=k
    ·subst ej;rw [upF_eq];exact this
    ·rw [upF_ne _ _ ej];exact this
   ·have:=p.r.sn j hj
    by_cases ej:j=k
    ·subst ej;rw [upF_eq] at h0 ⊢;exact this h0
    ·rw [upF_ne _ _ ej] at h0 ⊢;exact this h0
  simp (disch:=first|omega|simp only [RO]|(simp only [RZ]<;>omega)|fail) only [↓RBp,↓RA,↓reduceIte,Nat.reduceAdd,Nat.reduceMul,Nat.reduceEqDiff,RB,RX,RA2]
  exact hK w2 Y D _ v' sl ((AStp.of_ext Y b e1).trans a2) ⟨h2,rg,m1.astp a2,p.n5⟩ (by omega) (fun h=>h)
theorem pl_k4 {D0:DS} {wb:World} {Yb:Lay} (p:PlA w0 wb Yb D0 S b o cp n f v sl) {ws:List (Nat×Nat)} (st:Stp wb Yb w Y (sfD D0 ws)) (hk:k<n) (rg:RgS (acD D0 ws) 3 n f) (hn:(acD D0 ws).n=D0.n) (hx2:(acD D0 ws).exe≤D0.exe+2*ws.length+1) (hwl:ws.length≤150) (hx:D0.exe<100000000) (gs:Good (sfD D0 ws)) (xs:(sfD D0 ws).exe<1000000000) (hcln:Cln D0.co→Cln (acD D0 ws).co) (oth:∀j,j<n→j≠k→∀i,i<256→wd (acD D0 ws) (3+32*j) i=wd D0 (3+32*j) i)
  (hX:Cells w X 52 7 (acF kd th cl (k:Int) on tv dv)) (nX:¬Y.F X) (K:K1) (hK:PlK w0 wb Yb D0 S b o cp n K) (T:Nat) (hT:Yb.tb 0=T):
  f17_k4 K (.pointer (some ⟨T,0,none⟩)) v (.pointer (some ⟨X,0,none⟩)) (.int .i64 ((3+32*k:Nat):Int)) w:=by
 subst hT
 have tb:Y.tb 0=Yb.tb 0:=by rw [st.tb]
 have hlt:=rg.lt
 rw [f17_k4_eq]
 unfold f17_k4_t
 rw [←tb]
 refine k_Fence st.dv gs 0 (by omega) (by omega) _ (fun w1 Y1 st1=> ?_)
 have st2:Stp wb Yb w1 Y1 (acD D0 ws):=st.trans st1
 have a1:=p.a.step st2 rg.gd hn
 have tb1:Y1.tb 0=Y.tb 0:=by rw [st1.tb]
 have hX1:=hX.frm st1.frm nX
 have ltX:=hX1.lt
 have q3:w1.cell? ⟨X,3,none⟩=some (.int .i64 (k:Int)):=hX1.cell (i:=3) (by omega)
 have as2:AStp wb Yb b w1 Y1:=AStp.of_stp b st2
 have m1:=p.m.astp as2
 have hP1:∀x,PF Y1 b x→x<w1.heap.size:=fun x hx=>by
  rcases hx with hx|hx
  ·exact a1.L.dv.lt hx
  ·have:=a1.ltb;omega
 simp (disch:=first|omega|simp only [RO]|(simp only [RZ]<;>omega)|fail) only [↓RBp,↓RA,↓reduceIte,Nat.reduceAdd,Nat.reduceMul,Nat.reduceEqDiff,RB,RX,RA2]
 refine k_copy m1 hP1 p.a.n0 (by have:=p.n5;omega) _ (fun g q cp' w2 e2 hg m2=> ?_)
 have q3:=e2.cell_some q3
 have ltX2:=lt_of_cell q3
 rw [←tb1]
 simp (disch:=first|omega|simp only [RO]|(simp only [RZ]<;>omega)|fail) only [↓RBp,↓RA,↓reduceIte,Nat.reduceAdd,Nat.reduceMul,Nat.reduceEqDiff,RB,RX,RA2,q3]
 refine k_words22 ((a1.L.dv.ext e2).ext (by repeat (first|(with_reducible first|refine Sh.eB ?_ (by first|omega|(simp only [RZ]<;>omega)) _|assumption|exact Sh.eR _|refine Sh.eA ?_ _|refine Sh.eD ?_|refine Sh.eT ?_ (by assumption))|exact Sh.eR _))) rg.gd rg.on.off (by omega) _ (fun bw ow cw w3 hs3 e3 hb3=> ?_)
 have e23:Ext w2 w3:=Ext.trans (by repeat (first|(with_reducible first|refine Sh.eB ?_ (by first|omega|(simp only [RZ]<;>omega)) _|assumption|exact Sh.eR _|refine Sh.eA ?_ _|refine Sh.eD ?_|refine Sh.eT ?_ (by assumption))|exact Sh.eR _)) e3
 have q3:=e23.cell_some q3
 have ltX3:=lt_of_cell q3
 have m3:=m2.ext e23
 have d0:=m3.m.cell rfl (mdL_get sl (mH f) n k hk).1
 obtain ⟨sb,so,sc,hsk,_⟩:=p.m.ws k hk
 rw [hsk] at d0
 have fz:=fun i=>m3.m.frz (b:=g) rfl i
 have s2:=e2.size
 have hb3':w2.heap.size≤bw:=by first|exact hb3|simpa only [RZ] using hb3
 have ltg:g<w2.heap.size:=m2.m.lt rfl
 have m4:=m3.wr0 hk (WsL.new hs3 hb3' (fun x hx=>by have:=hP1 x hx;omega)) (by omega)
 (repeat' (first|(with_reducible refine brS_mk (fun _=> ?_) (fun _=> ?_))|(with_reducible refine And.intro ?_ ?_)|(simp (disch:=first|omega|simp only [RO]|(simp only [RZ]<;>omega)|fail) only [↓RBp,↓RA,↓reduceIte,Nat.reduceAdd,Nat.reduceMul,Nat.reduceEqDiff,RB,RX,RA2,q3,d0,fz])))
 refine hK _ Y1 (acD D0 ws) f _ _ ?_ ⟨a1.ext ?_,rg,m4.congr (fun j hj i hi=> ?_) (fun _ _=>rfl),p.n5⟩ (by omega) hcln
 ·exact as2.trans (AStp.of_ext Y1 b (Ext.setB (e2.trans e23) (show w1.heap.size≤g by omega) _))
 ·exact Ext.setB (e2.trans e23) (show w1.heap.size≤g by omega) _
 ·by_cases ej:j=k
  ·subst ej;rw [upF_eq];rfl
  ·rw [upF_ne _ _ ej];exact (oth j hj ej i hi).symm
end
end Go.Proofs.YtifpinhjpbgnoaaGreatDoor
namespace Go.Proofs.YtifpinhjpbgnoaaGreatDoor
open Go Go.Sh
set_option maxRecDepth 100000
set_option maxHeartbeats 4000000
set_option linter.unusedSimpArgs false
set_option linter.unusedVariables false
section
variable {w0 w w':World} {Y Y':Lay} {D D':DS} {S b o cp n X C k:Nat} {f f':Nat→Int×Int×Bool} {v tv dv:Value} {sl:Nat→Value} {kd:Nat} {th cl ch:Int} {on:Bool} {c:Int}
theorem pl_l2 (p:PlA w0 w Y D S b o cp n f v sl) (hx:D.exe<100000000) {ws:List (Nat×Nat)} {u:Value} (hu:SlO w 80 2 u ws.length (wrL ws)) (nu:∀x,u.ownBlock=some x→¬Y.F x) (hk:k<n) (hok:∀x∈ws,x.2<18446744073709551616∧∃q,0<q∧q<256∧x.1=(3+32*k)*64+q*8) (hwl:ws.length≤150) (hs:0≤(f k).1→Snd (acD D ws) (3+32*k) (f k).1 (f k).2.1)
  (hX:Cells w X 52 7 (acF kd th cl (k:Int) on tv dv)) (nX:¬Y.F X) (K:K1) (hK:PlK w0 w Y D S b o cp n K) (T:Nat) (hT:Y.tb 0=T):
  f17_l2 K (.pointer (some ⟨T,0,none⟩)) v (.pointer (some ⟨X,0,none⟩)) (.int .i64 ((3+32*k:Nat):Int)) u (.int .i64 (ws.length:Int)) (.int .i64 0) w:=by
 have hlt:=p.r.lt
 have hnn:=p.r.gd.n
 have hok1:∀x∈ws,(x.1%8=0∧x.1<D.n*64)∧x.1<18446744073709551616∧x.2<18446744073709551616:=fun x hx=>by
  obtain ⟨h1,q,q0,q1,h2⟩:=hok x hx
  omega
 have hrg:=ac_rg p.r hk hok1 (fun x hx=>by obtain ⟨h1,q,q0,q1,h2⟩:=hok x hx;omega) (fun x hx=>by obtain ⟨h1,q,q0,q1,h2⟩:=hok x hx;omega) hs
 have gs:∀j,Good (sfD D (ws.take j)):=fun j=>Good.run 0 (by omega) _ _ p.r.gd (pair_okI (fun x hx=>(hok1 x (List.mem_of_mem_take hx)).2))
 have xs:∀j,(sfD D (ws.take j)).exe<1000000000:=fun j=>by
  have:=run_exe 0 (pairI (ws.take j)) D
  rw [pair_len,List.length_take] at this
  have h2:=Nat.min_le_right j ws.length
  show (D.run 0 (pairI (ws.take j))).exe<_
  omega
 have ns:∀j,(sfD D (ws.take j)).n=D.n:=fun j=>run_n 0 _ D
 apply f17_l2_rule (I:=fun z w'=>∃(j:Nat) (Y':Lay),z= .int .i64 (j:Int)∧j≤ws.length∧Stp w Y w' Y' (sfD D (ws.take j))) (μ:=fun z _=>ws.length-(Go.RowKit.intOf z).toNat)
 ·exact ⟨0,Y,rfl,by omega,by rw [List.take_zero];exact Stp.ext p.a.L.dv (Ext.refl _)⟩
 ·intros;rename_i w1 hI E1 hE
  obtain ⟨j,Y1,rfl,hj,st⟩:=hI
  have tb1:Y1.tb 0=Y.tb 0:=by rw [st.tb]
  by_cases hjl:j<ws.length
  ·obtain ⟨x,hx1⟩:∃x,ws[j]? =some x:=⟨_,List.getElem?_eq_getElem hjl⟩
   have hxo:=hok1 x (List.mem_of_getElem? hx1)
   have htk:=sfD_take (D:=D) hx1
   have hu1:=hu.frm st.frm nu
   have hcu:=wr_cells hu1 hjl
   rw [List.getElem?_eq_getElem hjl] at hx1
   rw [Option.some.inj hx1] at hcu
   obtain ⟨xo,xv⟩:=x
   obtain ⟨ub,uo,uc,rfl,hc1,hc2⟩:=hcu
   simp only at hc1 hc2 hxo htk
   have gj:=gs j
   have xj:=xs j
   have g2:Good ((sfD D (ws.take j)).store 0 xo xv):=strs_good gj (ws:= [(xo,xv)]) (fun y hy=>by simp only [List.mem_singleton] at hy;subst hy;exact hxo.2)
   have x2:((sfD D (ws.take j)).store 0 xo xv).exe≤(sfD D (ws.take j)).exe+1:=strs_exe _ [(xo,xv)]
   generalize sfD D (ws.take j)=Dj at*
   have hC:=Cells.new w1 [Value.int .u64 (xo:Int),.int .u64 (xv:Int)] 80
   have ltu:=lt_of_cell hc1
   unfold f17_l2_t
   rw [←hT,←tb1]
   simp (disch:=first|omega|simp only [RO]|(simp only [RZ]<;>omega)|fail) only [↓RBp,↓RA,↓reduceIte,Nat.reduceAdd,Nat.reduceMul,Nat.reduceEqDiff,RB,RX,RA2,hc1,hc2]
   refine k_Store (st.dv.ext (by repeat (first|(with_reducible first|refine Sh.eB ?_ (by first|omega|(simp only [RZ]<;>omega)) _|assumption|exact Sh.eR _|refine Sh.eA ?_ _|refine Sh.eD ?_|refine Sh.eT ?_ (by assumption))|exact Sh.eR _))) gj 0 (by omega) xo xv (by omega) _ (fun w2 Y2 st2=> ?_)
   have hC2:=hC.frm st2.frm (fun hf=>by have:=st.dv.lt hf;omega)
   have d0:w2.cell? ⟨w1.heap.size,0,none⟩=some (.int .u64 (xo:Int)):=hC2.cell (i:=0) (by simp)
   have tb2:Y2.tb 0=Y1.tb 0:=by rw [st2.tb]
   have st12:Stp w1 Y1 w2 Y2 (Dj.store 0 xo xv):=Stp.pre (by repeat (first|(with_reducible first|refine Sh.eB ?_ (by first|omega|(simp only [RZ]<;>omega)) _|assumption|exact Sh.eR _|refine Sh.eA ?_ _|refine Sh.eD ?_|refine Sh.eT ?_ (by assumption))|exact Sh.eR _)) (fun x hx=>st.dv.lt hx) st2
   have ltd:=lt_of_cell d0
   rw [←tb2]
   simp (disch:=first|omega|simp only [RO]|(simp only [RZ]<;>omega)|fail) only [↓RBp,↓RA,↓reduceIte,Nat.reduceAdd,Nat.reduceMul,Nat.reduceEqDiff,RB,RX,RA2,d0]
   refine k_Flush (st2.dv.ext (by repeat (first|(with_reducible first|refine Sh.eB ?_ (by first|omega|(simp only [RZ]<;>omega)) _|assumption|exact Sh.eR _|refine Sh.eA ?_ _|refine Sh.eD ?_|refine Sh.eT ?_ (by assumption))|exact Sh.eR _))) g2 0 (by omega) xo (by omega) _ (fun w3 st3=> ?_)
   have st13:Stp w Y w3 Y2 ((Dj.store 0 xo xv).flush 0 xo):=(st.trans st12).trans (Stp.pre (by repeat (first|(with_reducible first|refine Sh.eB ?_ (by first|omega|(simp only [RZ]<;>omega)) _|assumption|exact Sh.eR _|refine Sh.eA ?_ _|refine Sh.eD ?_|refine Sh.eT ?_ (by assumption))|exact Sh.eR _)) (fun x hx=>st12.dv.lt hx) st3)
   have ek:(j:Int)+1=((j+1:Nat):Int):=by omega
   simp (disch:=first|omega|simp only [RO]|(simp only [RZ]<;>omega)|fail) only [↓RBp,↓RA,↓reduceIte,Nat.reduceAdd,Nat.reduceMul,Nat.reduceEqDiff,RB,RX,RA2,ek]
   apply hE
   ·exact ⟨j+1,Y2,rfl,by omega,by rw [htk];exact st13⟩
   ·simp [Go.RowKit.intOf];omega
  ·have hjl:j=ws.length:=by omega
   subst hjl
   rw [List.take_length] at st
   have g1:=gs ws.length
   have x1:=xs ws.length
   rw [List.take_length] at g1 x1
   unfold f17_l2_t
   simp (disch:=first|omega|simp only [RO]|(simp only [RZ]<;>omega)|fail) only [↓RBp,↓RA,↓reduceIte,Nat.reduceAdd,Nat.reduceMul,Nat.reduceEqDiff,RB,RX,RA2]
   exact pl_k4 p st hk hrg.1 hrg.2.1 hrg.2.2.1 hwl hx g1 x1 (ac_cln p.r.on (fun x hx=>(hok1 x hx).1)) hrg.2.2.2 (hX.frm st.frm nX) (fun hf=>by
    rcases st.fr X hf with h|h
    ·exact nX h
    ·have:=hX.lt;omega) K hK T hT
end
end Go.Proofs.YtifpinhjpbgnoaaGreatDoor
namespace Go.Proofs.YtifpinhjpbgnoaaGreatDoor
open Go Go.Sh
set_option maxRecDepth 100000
set_option maxHeartbeats 4000000
set_option linter.unusedSimpArgs false
set_option linter.unusedVariables false
section
variable {w0 w w':World} {Y Y':Lay} {D D':DS} {S b o cp n X C k m:Nat} {f f':Nat→Int×Int×Bool} {v tv dv:Value} {sl:Nat→Value} {kd:Nat} {th cl ch:Int} {on:Bool} {c:Int}
theorem snd_strs {l:Nat} {o:Int} {ws:List (Nat×Nat)} (on:On D) (hv:∀x∈ws,x.1%8=0∧x.1<D.n*64) (c0:0≤c) (c5:c<5) (h:Snd (D.strs ws) l c o):Snd (acD D ws) l c o:=h.congr c0 c5 (fun j hj=>by
 unfold wd;rw [(ac_on on hv).2,(strs_on on hv).2])
theorem snd_nil {l:Nat} {o:Int} (on:On D) (c0:0≤c) (c5:c<5) (h:Snd D l c o):Snd (acD D []) l c o:=h.congr c0 c5 (fun j hj=>by
 unfold wd;rw [(ac_on on (ws:= []) (fun x hx=>by cases hx)).2];rfl)
theorem pl_k3 (p:PlA w0 w Y D S b o cp n f v sl) (hx:D.exe<100000000) {L M:List Int} (hL:RdS m w tv (i64L L)) (hM:RdS m w dv (i64L M)) (lL:L.length≤70) (lM:M.length≤70) {kv:Value} (hkv:RdS w.heap.size w kv (u8L (List.replicate L.length 64))) (hm:m≤w.heap.size) (hk:k<n)
  (hC:Cells w C 69 5 (if (f k).1<0 then (fun i=> [Value.nilIface,.int .i64 0,.int .i64 0,.int .i64 0,.int .u16 ((0:Nat):Int)].getD i undef) else chF (Y.tb 0) (3+32*k) (f k).1 (f k).2.1 (gX (wd D (3+32*k) 0))))
  (hX:Cells w X 52 7 (acF kd th cl (k:Int) on tv dv)) (nX:¬Y.F X) (K:K1) (hK:PlK w0 w Y D S b o cp n K):
  f17_k3 K (.pointer (some ⟨Y.tb 0,0,none⟩)) v (.pointer (some ⟨X,0,none⟩)) (.int .i64 ((3+32*k:Nat):Int)) (.pointer (some ⟨C,0,none⟩)) kv w:=by
 have hlt:=p.r.lt
 have hcl:=p.r.cls hk
 have hG:Glob w:=p.a.gl.ext p.a.L.ex
 have q5:w.cell? ⟨X,5,none⟩=some tv:=hX.cell (i:=5) (by omega)
 have q6:w.cell? ⟨X,6,none⟩=some dv:=hX.cell (i:=6) (by omega)
 have ltX:=hX.lt
 have ltC:=hC.lt
 have lr:(List.replicate L.length 64).length=L.length:=by simp
 have hL':=hL.mono22 hm
 have hM':=hM.mono22 hm
 obtain ⟨la,lc,rfl,_⟩:=id hL
 obtain ⟨ma,mc,rfl,_⟩:=id hM
 obtain ⟨ka,kc,rfl,_⟩:=id hkv
 have go:=fun (w1:World) (e:Ext w w1) (ws:List (Nat×Nat)) (u:Value) hu nu hok hwl hs=>pl_l2 (p.ext e) hx (ws:=ws) (u:=u) hu nu hk hok hwl hs (hX.ext e) nX K (fun w' Y' D' f' v' sl' a' p' x' c'=>hK w' Y' D' f' v' sl' ((AStp.of_ext Y b e).trans a') p' x' c') (Y.tb 0) rfl
 rw [f17_k3_eq]
 unfold f17_k3_t
 by_cases hc:(f k).1<0
 ·rw [if_pos hc] at hC
  have c0:w.cell? ⟨C,0,none⟩=some .nilIface:=hC.cell (i:=0) (by omega)
  have c1:w.cell? ⟨C,1,none⟩=some (.int .i64 0):=hC.cell (i:=1) (by omega)
  have c2:w.cell? ⟨C,2,none⟩=some (.int .i64 0):=hC.cell (i:=2) (by omega)
  have c3:w.cell? ⟨C,3,none⟩=some (.int .i64 0):=hC.cell (i:=3) (by omega)
  have c4:w.cell? ⟨C,4,none⟩=some (.int .u16 ((0:Nat):Int)):=hC.cell (i:=4) (by omega)
  simp (disch:=first|omega|simp only [RO]|(simp only [RZ]<;>omega)|fail) only [↓RBp,↓RA,↓reduceIte,Nat.reduceAdd,Nat.reduceMul,Nat.reduceEqDiff,RB,RX,RA2,c0,c1,c2,c3,c4,q5,q6]
  refine k_ActionsZ hG L M (List.replicate L.length 64) _ _ _ hL' hkv hM' (by omega) (by omega) lr (fun x hx=>List.eq_of_mem_replicate hx) _ (fun e w1 e1=> ?_)
  simp (disch:=first|omega|simp only [RO]|(simp only [RZ]<;>omega)|fail) only [↓RBp,↓RA,↓reduceIte,Nat.reduceAdd,Nat.reduceMul,Nat.reduceEqDiff,RB,RX,RA2]
  exact go w1 e1 [] _ (SlO.nil _ _ _) (fun x hx=>by cases hx) (fun x hx=>by cases hx) (by simp) (fun h=>absurd hc (by omega))
 ·rw [if_neg hc] at hC
  have hsn:=p.r.sn k hk (by omega)
  have hcx:Cx w Y D (3+32*k) (f k).1:=⟨p.a.L.dv,p.r.gd,hG,p.r.on.off,by omega,by omega,hcl.1⟩
  have c0:w.cell? ⟨C,0,none⟩=some (.iface 25 (.pointer (some ⟨Y.tb 0,0,none⟩))):=hC.cell (i:=0) (by omega)
  have c1:w.cell? ⟨C,1,none⟩=some (.int .i64 ((3+32*k:Nat):Int)):=hC.cell (i:=1) (by omega)
  have c2:w.cell? ⟨C,2,none⟩=some (.int .i64 (f k).1):=hC.cell (i:=2) (by omega)
  have c3:w.cell? ⟨C,3,none⟩=some (.int .i64 (f k).2.1):=hC.cell (i:=3) (by omega)
  have c4:w.cell? ⟨C,4,none⟩=some (.int .u16 (gX (wd D (3+32*k) 0):Int)):=hC.cell (i:=4) (by omega)
  have sn0:Snd (acD D []) (3+32*k) (f k).1 (f k).2.1:=snd_nil p.r.on (by omega) hcl.1 hsn
  have gon:=fun (w1:World) (e:Ext w w1)=>go w1 e [] (.slice none 0 0) (SlO.nil _ _ _) (fun x hx=>by cases hx) (fun x hx=>by cases hx) (by simp) (fun _=>sn0)
  have hac:=fun K h1 h2 h3=>k_Actions hcx p.r.on.err (f k).2.1 (gX (wd D (3+32*k) 0)) L M (List.replicate L.length 64) _ _ _ hL' hkv hM' (by omega) (by omega) (by omega) (fun x hx=>by rw [List.eq_of_mem_replicate hx];omega) K h1 h2 h3
  simp (disch:=first|omega|simp only [RO]|(simp only [RZ]<;>omega)|fail) only [↓RBp,↓RA,↓reduceIte,Nat.reduceAdd,Nat.reduceMul,Nat.reduceEqDiff,RB,RX,RA2,c0,c1,c2,c3,c4,q5,q6]
  refine hac _ (fun _ w1 e1=> ?_) (fun _ _ w1 e1=> ?_) (fun ha ws hws v1 w1 e1 nv1 hs1=> ?_)
  ·simp (disch:=first|omega|simp only [RO]|(simp only [RZ]<;>omega)|fail) only [↓RBp,↓RA,↓reduceIte,Nat.reduceAdd,Nat.reduceMul,Nat.reduceEqDiff,RB,RX,RA2]
   exact gon w1 e1
  ·simp (disch:=first|omega|simp only [RO]|(simp only [RZ]<;>omega)|fail) only [↓RBp,↓RA,↓reduceIte,Nat.reduceAdd,Nat.reduceMul,Nat.reduceEqDiff,RB,RX,RA2]
   exact gon w1 e1
  ·have hE:=act_wd p.r.on p.r.gd (by omega) (by omega) hcl.1 ha hws
   have hin:=act_in22 (by omega) hcl.1 ha hws
   have hwl:=hE.len
   have hlen:ws.length≤150:=by omega
   obtain ⟨pa,pc,rfl,hpc⟩:=hs1.isS'
   simp (disch:=first|omega|simp only [RO]|(simp only [RZ]<;>omega)|fail) only [↓RBp,↓RA,↓reduceIte,Nat.reduceAdd,Nat.reduceMul,Nat.reduceEqDiff,RB,RX,RA2]
   refine go w1 e1 ws _ hs1 (fun x hx hf=> ?_) (fun x hx=>⟨(hE.ok x hx).2.2,hin x hx⟩) hlen (fun _=>snd_strs p.r.on (fun x hx=>⟨(hE.ok x hx).1,(hE.ok x hx).2.1⟩) (by omega) hcl.1 (hsn.act (by omega) hcl.1 ha hE))
   have:=nv1 x hx;have:=p.a.L.dv.lt hf;omega
theorem pl_l1 (p:PlA w0 w Y D S b o cp n f v sl) (hx:D.exe<100000000) {L M:List Int} (hL:RdS m w tv (i64L L)) (hM:RdS m w dv (i64L M)) (lL:L.length≤70) (lM:M.length≤70) (hm:m≤w.heap.size) (hk:k<n)
  (hC:Cells w C 69 5 (if (f k).1<0 then (fun i=> [Value.nilIface,.int .i64 0,.int .i64 0,.int .i64 0,.int .u16 ((0:Nat):Int)].getD i undef) else chF (Y.tb 0) (3+32*k) (f k).1 (f k).2.1 (gX (wd D (3+32*k) 0))))
  (hX:Cells w X 52 7 (acF kd th cl (k:Int) on tv dv)) (nX:¬Y.F X) (K:K1) (hK:PlK w0 w Y D S b o cp n K):
  f17_l1 K (.pointer (some ⟨Y.tb 0,0,none⟩)) v (.pointer (some ⟨X,0,none⟩)) (.int .i64 ((3+32*k:Nat):Int)) (.pointer (some ⟨C,0,none⟩)) (.slice none 0 0) (.int .i64 (L.length:Int)) (.int .i64 0) w:=by
 apply f17_l1_rule (I:=fun x z w'=>∃i:Nat,z= .int .i64 (i:Int)∧i≤L.length∧SlO w' 5 1 x i (u8L (List.replicate i 64))∧Frm Nob w w'∧NewV w.heap.size x) (μ:=fun _ z _=>L.length-(Go.RowKit.intOf z).toNat)
 ·exact ⟨0,rfl,by omega,SlO.nil _ _ _,Frm.refl _ _,fun b hb=>by cases hb⟩
 ·intros;rename_i x z w1 hI E1 hE
  obtain ⟨i,rfl,hi,hs,hf,nv⟩:=hI
  have e1:Ext w w1:=hf.to_ext (fun _ _ h=>h)
  by_cases hil:i<L.length
  ·obtain ⟨pa,pc,rfl,hpc⟩:=hs.isS'
   unfold f17_l1_t
   simp (disch:=first|omega|simp only [RO]|(simp only [RZ]<;>omega)|fail) only [↓RBp,↓RA,↓reduceIte,Nat.reduceAdd,Nat.reduceMul,Nat.reduceEqDiff,RB,RX,RA2]
   refine app_new (show ElT Tryz.prog 58 58 5 1 1 (.int .u8 0) from el_58_58) (w0:=w) (hs.ext (by repeat (first|(with_reducible first|refine Sh.eB ?_ (by first|omega|(simp only [RZ]<;>omega)) _|assumption|exact Sh.eR _|refine Sh.eA ?_ _|refine Sh.eD ?_|refine Sh.eT ?_ (by assumption))|exact Sh.eR _))) (hf.ext (by repeat (first|(with_reducible first|refine Sh.eB ?_ (by first|omega|(simp only [RZ]<;>omega)) _|assumption|exact Sh.eR _|refine Sh.eA ?_ _|refine Sh.eD ?_|refine Sh.eT ?_ (by assumption))|exact Sh.eR _))) nv (m:=1) (news:= [.int .u8 ((64:Nat):Int)]) rfl ?_ rfl (by omega) (by omega) (by omega) (fun v' w4 hsp hf4 n4 hfr4 hb4=> ?_)
   ·intro j u hj
    obtain ⟨rfl,rfl⟩:=one_get hj
    simp (disch:=first|omega|simp only [RO]|(simp only [RZ]<;>omega)|fail) only [↓RBp,↓RA,↓reduceIte,Nat.reduceAdd,Nat.reduceMul,Nat.reduceEqDiff,RB,RX,RA2]
   simp (disch:=first|omega|simp only [RO]|(simp only [RZ]<;>omega)|fail) only [↓RBp,↓RA,↓reduceIte,Nat.reduceAdd,Nat.reduceMul,Nat.reduceEqDiff,RB,RX,RA2]
   apply hE
   ·refine ⟨i+1,by simp,by omega,?_,hf4,n4⟩
    rw [List.replicate_succ',u8L,List.map_append]
    exact hsp
   ·simp [Go.RowKit.intOf];omega
  ·have:i=L.length:=by omega
   subst this
   have lr:(u8L (List.replicate L.length 64)).length=L.length:=by simp
   have hkv:RdS w1.heap.size w1 x (u8L (List.replicate L.length 64)):=RdS.of_sl22 (by rw [lr];exact hs)
   unfold f17_l1_t
   simp (disch:=first|omega|simp only [RO]|(simp only [RZ]<;>omega)|fail) only [↓RBp,↓RA,↓reduceIte,Nat.reduceAdd,Nat.reduceMul,Nat.reduceEqDiff,RB,RX,RA2]
   exact pl_k3 (p.ext e1) hx (hL.ext e1) (hM.ext e1) lL lM hkv (Nat.le_trans hm e1.size) hk (hC.ext e1) (hX.ext e1) nX K (fun w' Y' D' f' v' sl' a' p' x' c'=>hK w' Y' D' f' v' sl' ((AStp.of_ext Y b e1).trans a') p' x' c')
end
end Go.Proofs.YtifpinhjpbgnoaaGreatDoor
namespace Go.Proofs.YtifpinhjpbgnoaaGreatDoor
open Go Go.Sh
set_option maxRecDepth 100000
set_option maxHeartbeats 4000000
set_option linter.unusedSimpArgs false
set_option linter.unusedVariables false
section
variable {w0 w w':World} {Y Y':Lay} {D D':DS} {S b o cp n X C k m:Nat} {f f':Nat→Int×Int×Bool} {v tv dv:Value} {sl:Nat→Value} {kd:Nat} {th cl ch:Int} {on:Bool} {c:Int}
theorem PlK.ext {K:K1} (h:PlK w0 w Y D S b o cp n K) (e:Ext w w'):PlK w0 w' Y D S b o cp n K:=fun w2 Y' D' f' v' sl' a' p' x' c'=>h w2 Y' D' f' v' sl' ((AStp.of_ext Y b e).trans a') p' x' c'
theorem pl_k15 (p:PlA w0 w Y D S b o cp n f v sl) (hx:D.exe<100000000) {L M:List Int} (hL:RdS m w tv (i64L L)) (hM:RdS m w dv (i64L M)) (hm:m≤w.heap.size) (lL:L.length≤maxLen) (lM:M.length≤maxLen) (r5:kd%6=5)
  (hX:Cells w X 52 7 (acF kd th cl ch on tv dv)) (nX:¬Y.F X) (K:K1) (hK:PlK w0 w Y D S b o cp n K):
  f17_k1 K (.pointer (some ⟨Y.tb 0,0,none⟩)) (stV S) v (.pointer (some ⟨X,0,none⟩)) (.int .i64 (lnI ch)) w:=by
 have hlt:=p.r.lt
 have n5:=p.n5
 have n0:=p.a.n0
 have hG:Glob w:=p.a.gl.ext p.a.L.ex
 have q0:w.cell? ⟨X,0,none⟩=some (.int .u8 (kd:Int)):=hX.cell (i:=0) (by omega)
 have q3:w.cell? ⟨X,3,none⟩=some (.int .i64 ch):=hX.cell (i:=3) (by omega)
 have ltX:=hX.lt
 have hml:maxLen<9223372036854775808:=by decide
 have q5:∃la lc,w.cell? ⟨X,5,none⟩=some (.slice la L.length lc):=by
  obtain ⟨la,lc,e,_⟩:=id hL
  refine ⟨la,lc,?_⟩
  have:=hX.cell (i:=5) (by omega)
  rw [show (i64L L).length=L.length by simp] at e
  rw [←e];exact this
 have q6:∃la lc,w.cell? ⟨X,6,none⟩=some (.slice la M.length lc):=by
  obtain ⟨la,lc,e,_⟩:=id hM
  refine ⟨la,lc,?_⟩
  have:=hX.cell (i:=6) (by omega)
  rw [show (i64L M).length=M.length by simp] at e
  rw [←e];exact this
 obtain ⟨la,lc,q5⟩:=q5
 obtain ⟨ma,mc,q6⟩:=q6
 by_cases hb:0≤ch∧ch<n∧L.length≤70∧M.length≤70
 ·obtain ⟨k,rfl⟩:∃k:Nat,ch=(k:Int):=⟨ch.toNat,by omega⟩
  have hk:k<n:=by omega
  rw [lnI_at hk n5]
  have hag:=p.r.ag k hk
  obtain ⟨wb,wo,wc,g,q,cq,ev,gl,c0,c1,hw,hsk,hsl,hhead⟩:=p.r.agm p.m k hk
  have hop:∀(w1:World) (K:K1),Ext w w1→(∀w',Ext w1 w'→K (if (f k).1<0 then .tuple #[chZ,.int .i64 8] else .tuple #[chV Y (3+32*k) (f k).1 (f k).2.1 (gX (wd D (3+32*k) 0)),.int .i64 0]) w')→callS Tryz.prog 23 #[thV Y,.int .i64 ((3+32*k:Nat):Int)] w1 K:=fun w1 K e hK=>k_OpenAt (p.a.L.dv.ext e) p.r.gd (hG.ext e) p.r.on.off p.r.on.err (3+32*k) (by omega) hag.1 K (fun w' e'=>by rw [←hag.2.1,←hag.2.2];exact hK w' e')
  have nk:((k:Nat):Int)<(n:Int):=by omega
  have pv:PlA w0 w Y D S b o cp n f (.slice (some ⟨g,q,none⟩) n cq) sl:=by rw [←ev];exact p
  clear p
  subst ev
  unfold thV at hop
  by_cases hc:(f k).1<0
  ·rw [if_pos hc] at hop
   rw [f17_k1_eq]
   unfold f17_k1_t
   simp (disch:=first|omega|simp only [RO]|(simp only [RZ]<;>omega)|fail) only [↓RBp,↓RA,↓reduceIte,Nat.reduceAdd,Nat.reduceMul,Nat.reduceEqDiff,RB,RX,RA2,q0,q3,q5,q6]
   refine hop _ _ (by repeat (first|(with_reducible first|refine Sh.eB ?_ (by first|omega|(simp only [RZ]<;>omega)) _|assumption|exact Sh.eR _|refine Sh.eA ?_ _|refine Sh.eD ?_|refine Sh.eT ?_ (by assumption))|exact Sh.eR _)) (fun w1 e1=> ?_)
   have c0:=e1.cell_some c0;have c1:=e1.cell_some c1;have q3:=e1.cell_some q3;have q5:=e1.cell_some q5
   have ltg:=lt_of_cell c0
   have ltX1:=lt_of_cell q3
   simp (disch:=first|omega|simp only [RO]|(simp only [RZ]<;>omega)|fail) only [↓RBp,↓RA,↓reduceIte,Nat.reduceAdd,Nat.reduceMul,Nat.reduceEqDiff,RB,RX,RA2,c0,c1,q3]
   have hC:=Cells.new w1 [Value.nilIface,.int .i64 0,.int .i64 0,.int .i64 0,.int .u16 ((0:Nat):Int)] 69
   have e01:=e1.trans (Ext.alloc_self w1 (.cells [Value.nilIface,.int .i64 0,.int .i64 0,.int .i64 0,.int .u16 ((0:Nat):Int)].toArray 69))
   refine hhead _ _ e01 (fun w2 e2=> ?_)
   have hC:=hC.ext e2
   have e02:=e01.trans e2
   have q5:=((Ext.alloc_self w1 (.cells [Value.nilIface,.int .i64 0,.int .i64 0,.int .i64 0,.int .u16 ((0:Nat):Int)].toArray 69)).trans e2).cell_some q5
   have ltX2:=lt_of_cell q5
   simp (disch:=first|omega|simp only [RO]|(simp only [RZ]<;>omega)|fail) only [↓RBp,↓RA,↓reduceIte,Nat.reduceAdd,Nat.reduceMul,Nat.reduceEqDiff,RB,RX,RA2,q5,beq_self_eq_true]
   exact pl_l1 (pv.ext e02) hx (hL.ext e02) (hM.ext e02) (by omega) (by omega) (Nat.le_trans hm e02.size) hk (hC.congr (fun i hi=>by rw [if_pos hc])) (hX.ext e02) nX K (hK.ext e02)
  ·rw [if_neg hc] at hop
   rw [f17_k1_eq]
   unfold f17_k1_t
   simp (disch:=first|omega|simp only [RO]|(simp only [RZ]<;>omega)|fail) only [↓RBp,↓RA,↓reduceIte,Nat.reduceAdd,Nat.reduceMul,Nat.reduceEqDiff,RB,RX,RA2,q0,q3,q5,q6]
   refine hop _ _ (by repeat (first|(with_reducible first|refine Sh.eB ?_ (by first|omega|(simp only [RZ]<;>omega)) _|assumption|exact Sh.eR _|refine Sh.eA ?_ _|refine Sh.eD ?_|refine Sh.eT ?_ (by assumption))|exact Sh.eR _)) (fun w1 e1=> ?_)
   have c0:=e1.cell_some c0;have c1:=e1.cell_some c1;have q3:=e1.cell_some q3;have q5:=e1.cell_some q5
   have ltg:=lt_of_cell c0
   have ltX1:=lt_of_cell q3
   simp (disch:=first|omega|simp only [RO]|(simp only [RZ]<;>omega)|fail) only [↓RBp,↓RA,↓reduceIte,Nat.reduceAdd,Nat.reduceMul,Nat.reduceEqDiff,RB,RX,RA2,c0,c1,q3]
   have hC:=Cells.new w1 [Value.iface 25 (.pointer (some ⟨Y.tb 0,0,none⟩)),.int .i64 ((3+32*k:Nat):Int),.int .i64 (f k).1,.int .i64 (f k).2.1,.int .u16 (gX (wd D (3+32*k) 0):Int)] 69
   have e01:=e1.trans (Ext.alloc_self w1 (.cells [Value.iface 25 (.pointer (some ⟨Y.tb 0,0,none⟩)),.int .i64 ((3+32*k:Nat):Int),.int .i64 (f k).1,.int .i64 (f k).2.1,.int .u16 (gX (wd D (3+32*k) 0):Int)].toArray 69))
   refine hhead _ _ e01 (fun w2 e2=> ?_)
   have hC:=hC.ext e2
   have e02:=e01.trans e2
   have q5:=((Ext.alloc_self w1 (.cells [Value.iface 25 (.pointer (some ⟨Y.tb 0,0,none⟩)),.int .i64 ((3+32*k:Nat):Int),.int .i64 (f k).1,.int .i64 (f k).2.1,.int .u16 (gX (wd D (3+32*k) 0):Int)].toArray 69)).trans e2).cell_some q5
   have ltX2:=lt_of_cell q5
   simp (disch:=first|omega|simp only [RO]|(simp only [RZ]<;>omega)|fail) only [↓RBp,↓RA,↓reduceIte,Nat.reduceAdd,Nat.reduceMul,Nat.reduceEqDiff,RB,RX,RA2,q5,beq_self_eq_true]
   exact pl_l1 (pv.ext e02) hx (hL.ext e02) (hM.ext e02) (by omega) (by omega) (Nat.le_trans hm e02.size) hk (hC.congr (fun i hi=>by rw [if_neg hc];rfl)) (hX.ext e02) nX K (hK.ext e02)
 ·have kend:=hK w Y D f v sl (AStp.of_ext Y b (Ext.refl _)) p (by omega) (fun h=>h)
  obtain ⟨va,vc,ev,_⟩:=p.m.m.isS'
  clear hX hL hM hm hK p
  subst ev
  rw [f17_k1_eq]
  unfold f17_k1_t
  by_cases h1:ch<0
  ·simp (disch:=first|omega|simp only [RO]|(simp only [RZ]<;>omega)|fail) only [↓RBp,↓RA,↓reduceIte,Nat.reduceAdd,Nat.reduceMul,Nat.reduceEqDiff,RB,RX,RA2,q0,q3,q5,q6]
   exact kend
  ·by_cases h2:(n:Int)≤ch
   ·simp (disch:=first|omega|simp only [RO]|(simp only [RZ]<;>omega)|fail) only [↓RBp,↓RA,↓reduceIte,Nat.reduceAdd,Nat.reduceMul,Nat.reduceEqDiff,RB,RX,RA2,q0,q3,q5,q6]
    exact kend
   ·by_cases h3:70<L.length
    ·simp (disch:=first|omega|simp only [RO]|(simp only [RZ]<;>omega)|fail) only [↓RBp,↓RA,↓reduceIte,Nat.reduceAdd,Nat.reduceMul,Nat.reduceEqDiff,RB,RX,RA2,q0,q3,q5,q6]
     exact kend
    ·have h4:70<M.length:=by omega
     simp (disch:=first|omega|simp only [RO]|(simp only [RZ]<;>omega)|fail) only [↓RBp,↓RA,↓reduceIte,Nat.reduceAdd,Nat.reduceMul,Nat.reduceEqDiff,RB,RX,RA2,q0,q3,q5,q6]
     exact kend
theorem pl_k1 (p:PlA w0 w Y D S b o cp n f v sl) (hx:D.exe<100000000) {L M:List Int} (hL:RdS m w tv (i64L L)) (hM:RdS m w dv (i64L M)) (hm:m≤w.heap.size) (lL:L.length≤maxLen) (lM:M.length≤maxLen) (hkd:kd<256)
  (hX:Cells w X 52 7 (acF kd th cl ch on tv dv)) (nX:¬Y.F X) (K:K1) (hK:PlK w0 w Y D S b o cp n K) (z:Int) (hz:lnI ch=z):
  f17_k1 K (.pointer (some ⟨Y.tb 0,0,none⟩)) (stV S) v (.pointer (some ⟨X,0,none⟩)) (.int .i64 z) w:=by
 subst hz
 have hlt:=p.r.lt
 have n5:=p.n5
 have n0:=p.a.n0
 have hG:Glob w:=p.a.gl.ext p.a.L.ex
 have q0:w.cell? ⟨X,0,none⟩=some (.int .u8 (kd:Int)):=hX.cell (i:=0) (by omega)
 have q3:w.cell? ⟨X,3,none⟩=some (.int .i64 ch):=hX.cell (i:=3) (by omega)
 have q4:w.cell? ⟨X,4,none⟩=some (.bool on):=hX.cell (i:=4) (by omega)
 have ltX:=hX.lt
 have hml:maxLen<9223372036854775808:=by decide
 by_cases r3:kd%6=3
 ·rw [f17_k1_eq]
  unfold f17_k1_t
  simp (disch:=first|omega|simp only [RO]|(simp only [RZ]<;>omega)|fail) only [↓RBp,↓RA,↓reduceIte,Nat.reduceAdd,Nat.reduceMul,Nat.reduceEqDiff,RB,RX,RA2,q0,q3]
  exact pl_rel p hx K hK
 ·by_cases r4:kd%6=4
  ·rw [f17_k1_eq]
   unfold f17_k1_t
   simp (disch:=first|omega|simp only [RO]|(simp only [RZ]<;>omega)|fail) only [↓RBp,↓RA,↓reduceIte,Nat.reduceAdd,Nat.reduceMul,Nat.reduceEqDiff,RB,RX,RA2,q0,q3,q4]
   refine pl_hold p hx K hK _ (fun w' v' e e1 hh=> ?_)
   have q4:=e1.cell_some q4
   have ltX:=lt_of_cell q4
   simp (disch:=first|omega|simp only [RO]|(simp only [RZ]<;>omega)|fail) only [↓RBp,↓RA,↓reduceIte,Nat.reduceAdd,Nat.reduceMul,Nat.reduceEqDiff,RB,RX,RA2,q4]
   exact hh
  ·by_cases r5:kd%6=5
   ·exact pl_k15 p hx hL hM hm lL lM r5 hX nX K hK
   ·rw [f17_k1_eq]
    unfold f17_k1_t
    simp (disch:=first|omega|simp only [RO]|(simp only [RZ]<;>omega)|fail) only [↓RBp,↓RA,↓reduceIte,Nat.reduceAdd,Nat.reduceMul,Nat.reduceEqDiff,RB,RX,RA2,q0]
    exact pl_k2 p hx hX K hK
end
end Go.Proofs.YtifpinhjpbgnoaaGreatDoor
namespace Go.Proofs.YtifpinhjpbgnoaaGreatDoor
open Go Go.Sh
set_option maxRecDepth 100000
set_option maxHeartbeats 4000000
set_option linter.unusedSimpArgs false
set_option linter.unusedVariables false
section
variable {w0 w w':World} {Y Y':Lay} {D D':DS} {S b o cp n X C k m:Nat} {f f':Nat→Int×Int×Bool} {v tv dv:Value} {sl:Nat→Value}
abbrev acV (d:ActD) (tv dv:Value):Value:= .agg #[.int .u8 (d.kd:Int),.int .i64 d.th,.int .i64 d.cl,.int .i64 d.ch,.bool d.on,tv,dv]
theorem k_play (p:PlA w0 w Y D S b o cp n f v sl) (hx:D.exe<100000000) {d:ActD} (ok:actOk7 d) (hL:RdS m w tv (i64L d.L)) (hM:RdS m w dv (i64L d.M)) (hm:m≤w.heap.size) (K:K1) (hK:PlK w0 w Y D S b o cp n K) {T:Nat} (hT:Y.tb 0=T):
  callS Tryz.prog 17 #[.pointer (some ⟨T,0,none⟩),stV S,v,acV d tv dv] w K:=by
 subst hT
 obtain ⟨kd,th,cl,ch,on,L,M⟩:=d
 obtain ⟨o1,o2,o3⟩:=ok
 simp only at o1 o2 o3 hL hM
 have hC:=Cells.new w [Value.int .u8 (kd:Int),.int .i64 th,.int .i64 cl,.int .i64 ch,.bool on,tv,dv] 52
 have hX:Cells (w.alloc (.cells [Value.int .u8 (kd:Int),.int .i64 th,.int .i64 cl,.int .i64 ch,.bool on,tv,dv].toArray 52)) w.heap.size 52 7 (acF kd th cl ch on tv dv):=hC
 have q3:=hX.cell (i:=3) (by omega)
 have q3:(w.alloc (.cells [Value.int .u8 (kd:Int),.int .i64 th,.int .i64 cl,.int .i64 ch,.bool on,tv,dv].toArray 52)).cell? ⟨w.heap.size,3,none⟩=some (.int .i64 ch):=q3
 have e0:Ext w (w.alloc (.cells [Value.int .u8 (kd:Int),.int .i64 th,.int .i64 cl,.int .i64 ch,.bool on,tv,dv].toArray 52)):=Ext.alloc_self _ _
 have nX:¬Y.F w.heap.size:=fun h=>by have:=p.a.L.dv.lt h;omega
 have go:=fun z hz=>pl_k1 (p.ext e0) hx (hL.ext e0) (hM.ext e0) (Nat.le_trans hm e0.size) o2 o3 o1 hX nX K (hK.ext e0) z hz
 refine f17_call _ _ _ _ _ _ ?_
 unfold f17_t
 by_cases h0:0≤ch
 ·by_cases h1:ch<100
  ·simp (disch:=first|omega|simp only [RO]|(simp only [RZ]<;>omega)|fail) only [↓RBp,↓RA,↓reduceIte,Nat.reduceAdd,Nat.reduceMul,Nat.reduceEqDiff,RB,RX,RA2]
   exact go _ (by unfold lnI;rw [if_pos (by omega)])
  ·simp (disch:=first|omega|simp only [RO]|(simp only [RZ]<;>omega)|fail) only [↓RBp,↓RA,↓reduceIte,Nat.reduceAdd,Nat.reduceMul,Nat.reduceEqDiff,RB,RX,RA2]
   exact go _ (by unfold lnI;rw [if_neg (by omega)])
 ·simp (disch:=first|omega|simp only [RO]|(simp only [RZ]<;>omega)|fail) only [↓RBp,↓RA,↓reduceIte,Nat.reduceAdd,Nat.reduceMul,Nat.reduceEqDiff,RB,RX,RA2]
  exact go _ (by unfold lnI;rw [if_neg (by omega)])
end
end Go.Proofs.YtifpinhjpbgnoaaGreatDoor
namespace Go.Proofs.YtifpinhjpbgnoaaGreatDoor
open Go Go.Sh
set_option maxRecDepth 100000
set_option linter.unusedVariables false
noncomputable def f4_u:Code×Dec:=((Tryz.f4.body).getD .skip,(.s .o (.s .o (.s .o (.s .o (.s .o (.s .o (.x 128 (.s .o (.b (.l [9,39] 412316860800 604462909806764831570448 (.s .o (.s .o (.x 962072675200 (.b (.s .o (.s .o (.s .o (.x 962072678784 (.s .o (.b (.l [61] 1152922466679525760 151113421608819433160720 .o))) .o))))) .o)))))) .o))))))))
abbrev f4_e (K:K1):KF:=endK Tryz.prog Tryz.f4.results.toList K
def f4_k1_o (K:K1):KF:=fun fr w=>∀σ,cP (pr (pr (pr (pr (pr (pr (pr f4_u))))))) (f4_e K) (f4_e K) nX (mixF 128 σ 0 fr) w
def f4_k1 (K:K1) (x7:Value) (w:World):Prop:=f4_k1_o K (fz 82 0 [(7,x7)]) w
def f4_l1 (K:K1) (x7 x8 x9 x37 x38 x39:Value) (w:World):Prop:=loopT [9,39] 412316860800 (fun E=>cP (pl (pl (pr (pl (pr (pr (pr (pr (pr (pr f4_u)))))))))) E (f4_e K) (exB 0 (f4_k1_o K) nX)) (fz 82 0 [(7,x7),(8,x8),(9,x9),(37,x37),(38,x38),(39,x39)]) w
def f4_k2_o (K:K1) (E1:VP2):KF:=fun fr w=>∀σ,cP (pr (pr (pr (pl (pl (pr (pl (pr (pr (pr (pr (pr (pr f4_u))))))))))))) (fun fr w=>E1 (sv fr 9) (sv fr 39) w) (f4_e K) (exB 0 (f4_k1_o K) nX) (mixF 962072675200 σ 0 fr) w
def f4_k2 (K:K1) (E1:VP2) (x7 x8 x9 x37 x38 x39:Value) (w:World):Prop:=f4_k2_o K E1 (fz 82 0 [(7,x7),(8,x8),(9,x9),(37,x37),(38,x38),(39,x39)]) w
def f4_k3_o (K:K1) (E1:VP2):KF:=fun fr w=>∀σ,cP (pr (pr (pr (pr (pl (pl (pr (pr (pl (pl (pr (pl (pr (pr (pr (pr (pr (pr f4_u)))))))))))))))))) (f4_k2_o K E1) (f4_e K) (exB 1 (f4_k2_o K E1) (exB 0 (f4_k1_o K) nX)) (mixF 962072678784 σ 0 fr) w
def f4_k3 (K:K1) (E1:VP2) (x7 x8 x12 x37 x38 x39:Value) (w:World):Prop:=f4_k3_o K E1 (fz 82 0 [(7,x7),(8,x8),(12,x12),(37,x37),(38,x38),(39,x39)]) w
def f4_l2 (K:K1) (E1:VP2) (x7 x8 x12 x37 x38 x39 x60 x61:Value) (w:World):Prop:=loopT [61] 1152922466679525760 (fun E=>cP (pl (pl (pr (pl (pr (pr (pr (pl (pl (pr (pr (pl (pl (pr (pl (pr (pr (pr (pr (pr (pr f4_u))))))))))))))))))))) E (f4_e K) (exB 2 (f4_k3_o K E1) (exB 1 (f4_k2_o K E1) (exB 0 (f4_k1_o K) nX)))) (fz 82 0 [(7,x7),(8,x8),(12,x12),(37,x37),(38,x38),(39,x39),(60,x60),(61,x61)]) w
def f4_k1_t (x7:Value) (K:K1) (w:World):Prop:=
 callS Tryz.prog 19 (pA #[x7]) w fun t80 w_1=>
 ev Tryz.prog (binM .eql 43 (.tmp 80) (.const (.int .i64 0)) t80 (.int .i64 0)) w_1 fun t81 w_2=>
 K t81 w_2
theorem f4_k1_eq (K:K1) (x7:Value) (w:World):f4_k1 K x7 w=f4_k1_t x7 K w:=cutE fun σ=>by kernel_rfl
def f4_l1_t (x7 x8 x9 x37 x38 x39:Value) (K:K1) (E1:VP2) (w:World):Prop:=
 ev Tryz.prog (binM .lss 3 (.tmp 39) (.tmp 38) x39 x38) w fun t40 w_1=>
 cndS t40 (
 ev Tryz.prog (Instr.indexAt 48 x37 x39) w_1 fun t41 w_2=>
 ldS Tryz.prog 52 t41 w_2 fun t42 w_3=>
 ev Tryz.prog (Instr.alloc 52 true (.tuple #[])) w_3 fun t11 w_4=>
 stS Tryz.prog 52 t11 t42 w_4 fun w_5=>
 ldS Tryz.prog 52 t11 w_5 fun t47 w_6=>
 callS Tryz.prog 17 (pA #[x7,x8,x9,t47]) w_6 fun t48 w_7=>
 ev Tryz.prog (Instr.extract t48 0) w_7 fun t49 w_8=>
 ev Tryz.prog (Instr.extract t48 1) w_8 fun t50 w_9=>
 ev Tryz.prog (Op.unary .not t50) w_9 fun t52 w_10=>
 gd t52 false (fun k=>k x8 w_10) w_10 fun t54 w_11=>
 gd t52 false (fun k=>k t49 w_11) w_11 fun t55 w_12=>
 gd t52 false (fun k=>callS Tryz.prog 15 (pA #[t54,t55]) w_12 k) w_12 fun t56 w_13=>
 gd t52 false (fun k=>ev Tryz.prog (Op.unary .not t56) w_13 k) w_13 fun t57 w_14=>
 pickS t52 (.bool true) t57 w_14 fun t58 w_15=>
 cndS t58 (
 K (.bool false) w_15) (
 bltS Tryz.prog .len #[29] 3 #[false] #[t49] w_15 fun t60 w_16=>
 f4_l2 K E1 x7 x8 t49 x37 x38 x39 t60 (.int .i64 0) w_16)) (
 f4_k1 K x7 w_1)
theorem f4_l1_rule (x7 x8 x9 x37 x38 x39:Value) (K:K1) (w:World) (I:VP2) (μ:Value→Value→World→Nat) (h0:I x9 x39 w)
  (hr:∀(x9 x39:Value) (w:World),I x9 x39 w→∀E1:VP2,(∀(y9 y39:Value) (w':World),I y9 y39 w'→μ y9 y39 w'<μ x9 x39 w→E1 y9 y39 w')→f4_l1_t x7 x8 x9 x37 x38 x39 K E1 w):f4_l1 K x7 x8 x9 x37 x38 x39 w:=
 ⟨I,μ,h0,fun σ w hI E hE=>cast (by kernel_rfl) (hr (σ 9) (σ 39) w hI E hE)⟩
def f4_k2_t (x7 x8 x9 x37 x38 x39:Value) (K:K1) (E1:VP2) (w:World):Prop:=
 ev Tryz.prog (binM .add 3 (.tmp 39) (.const (.int .i64 1)) x39 (.int .i64 1)) w fun t78 w_1=>
 E1 x9 t78 w_1
theorem f4_k2_eq (K:K1) (E1:VP2) (x7 x8 x9 x37 x38 x39:Value) (w:World):f4_k2 K E1 x7 x8 x9 x37 x38 x39 w=f4_k2_t x7 x8 x9 x37 x38 x39 K E1 w:=cutE fun σ=>by kernel_rfl
def f4_k3_t (x7 x8 x12 x37 x38 x39:Value) (K:K1) (E1:VP2) (w:World):Prop:=
 f4_k2 K E1 x7 x8 x12 x37 x38 x39 w
theorem f4_k3_eq (K:K1) (E1:VP2) (x7 x8 x12 x37 x38 x39:Value) (w:World):f4_k3 K E1 x7 x8 x12 x37 x38 x39 w=f4_k3_t x7 x8 x12 x37 x38 x39 K E1 w:=cutE fun σ=>by kernel_rfl
def f4_l2_t (x7 x8 x12 x37 x38 x39 x60 x61:Value) (K:K1) (E1:VP2) (E2:VP1) (w:World):Prop:=
 ev Tryz.prog (binM .lss 3 (.tmp 61) (.tmp 60) x61 x60) w fun t62 w_1=>
 cndS t62 (
 rd Tryz.prog (binM .mul 3 (.const (.int .i64 32)) (.tmp 65) (.int .i64 32) x61) w_1.drew fun t66=>
 rd Tryz.prog (binM .add 3 (.const (.int .i64 3)) (.tmp 66) (.int .i64 3) t66) w_1.drew fun t67=>
 rd Tryz.prog (Instr.indexAt 29 x12 x61) w_1.drew fun t71=>
 rd Tryz.prog (Instr.fieldAt 42 t71 0) w_1.drew fun t72=>
 ldR Tryz.prog 39 t72 w_1.drew fun t73=>
 callS Tryz.prog 13 (pA #[x7,t67]) w_1.drew fun t68 w_2=>
 (ag Tryz.prog (Instr.indexAt 29 x12 x61) w_2 t71)∧
 (ag Tryz.prog (Instr.fieldAt 42 t71 0) w_2 t72)∧
 (ldG Tryz.prog 39 t72 w_2 t73)∧
 callS Tryz.prog 18 (pA #[t68,t73]) w_2 fun t74 w_3=>
 rd Tryz.prog (Op.unary .not t74) w_3 fun t75=>
 cndS t75 (
 K (.bool false) w_3) (
 ev Tryz.prog (binM .add 3 (.tmp 61) (.const (.int .i64 1)) x61 (.int .i64 1)) w_3 fun t76 w_4=>
 E2 t76 w_4)) (
 f4_k3 K E1 x7 x8 x12 x37 x38 x39 w_1)
theorem f4_l2_rule (x7 x8 x12 x37 x38 x39 x60 x61:Value) (K:K1) (E1:VP2) (w:World) (I:VP1) (μ:Value→World→Nat) (h0:I x61 w)
  (hr:∀(x61:Value) (w:World),I x61 w→∀E2:VP1,(∀(y61:Value) (w':World),I y61 w'→μ y61 w'<μ x61 w→E2 y61 w')→f4_l2_t x7 x8 x12 x37 x38 x39 x60 x61 K E1 E2 w):f4_l2 K E1 x7 x8 x12 x37 x38 x39 x60 x61 w:=
 ⟨I,μ,h0,fun σ w hI E hE=>cast (by kernel_rfl) (hr (σ 61) w hI E hE)⟩
def f4_t (x0 x1:Value) (K:K1) (w:World):Prop:=
 callS Tryz.prog 8 (pA #[]) w fun t15 w_1=>
 ev Tryz.prog (Op.unary .not t15) w_1 fun t16 w_2=>
 gd t16 false (fun k=>k x1 w_2) w_2 fun t18 w_3=>
 gd t16 false (fun k=>bltS Tryz.prog .len #[48] 3 #[false] #[t18] w_3 k) w_3 fun t19 w_4=>
 gd t16 false (fun k=>ev Tryz.prog (binM .gtr 3 (.tmp 19) (.const (.int .i64 20)) t19 (.int .i64 20)) w_4 k) w_4 fun t20 w_5=>
 pickS t16 (.bool true) t20 w_5 fun t21 w_6=>
 cndS t21 (
 callS Tryz.prog 8 (pA #[]) w_6 fun t22 w_7=>
 K t22 w_7) (
 ev Tryz.prog (convert 5 3 x0) w_6 fun t24 w_8=>
 ev Tryz.prog (binM .rem 3 (.tmp 24) (.const (.int .i64 4)) t24 (.int .i64 4)) w_8 fun t25 w_9=>
 ev Tryz.prog (binM .add 3 (.const (.int .i64 1)) (.tmp 25) (.int .i64 1) t25) w_9 fun t26 w_10=>
 callS Tryz.prog 9 (pA #[t26]) w_10 fun t29 w_11=>
 ev Tryz.prog (Instr.extract t29 0) w_11 fun t30 w_12=>
 ev Tryz.prog (Instr.extract t29 1) w_12 fun t31 w_13=>
 ev Tryz.prog (Instr.extract t29 2) w_13 fun t32 w_14=>
 ev Tryz.prog (binM .eql 26 (.tmp 33) (.const (.pointer none)) t32 (.pointer none)) w_14 fun t34 w_15=>
 cndS t34 (
 K (.bool false) w_15) (
 callS Tryz.prog 16 (pA #[t26]) w_15 fun t36 w_16=>
 bltS Tryz.prog .len #[48] 3 #[false] #[x1] w_16 fun t38 w_17=>
 f4_l1 K t31 t32 t36 x1 t38 (.int .i64 0) w_17))
theorem f4_call (x0 x1:Value) (K:K1) (w:World) (h:f4_t x0 x1 K w):callS Tryz.prog 4 #[x0,x1] w K:=
 call_of_txt (args:= [x0,x1]) mixed Tryz.func4 f4_u.2 (by kernel_rfl) (cast (by kernel_rfl) h)
end Go.Proofs.YtifpinhjpbgnoaaGreatDoor
namespace Go.Proofs.YtifpinhjpbgnoaaGreatDoor
open Go Go.Sh
set_option maxRecDepth 100000
set_option maxHeartbeats 4000000
set_option linter.unusedSimpArgs false
set_option linter.unusedVariables false
section
variable {w0 w w':World} {Y Y':Lay} {D D':DS} {S b o cp n X C k m T:Nat} {f f':Nat→Int×Int×Bool} {v tv dv:Value} {sl:Nat→Value}
theorem PlA.agm (p:PlA w0 w Y D S b o cp n f v sl):AgM w (PF Y b) v sl n (mW D 3) (mH f) f:=⟨p.m,fun k hk=>⟨p.r.wdl hk 0 (by omega),(p.r.ag k hk).2.1.symm,(p.r.ag k hk).2.2.symm⟩⟩
theorem lp_l2 (p:PlA w0 w Y D S b o cp n f v sl) (hT:Y.tb 0=T) (K:K1) (E1:VP2) (x37 x38:Value) (j:Nat) (hj:j<1000) (HE:∀w',Ext w w'→E1 v (.int .i64 ((j+1:Nat):Int)) w'):
  f4_l2 K E1 (.pointer (some ⟨T,0,none⟩)) (stV S) v x37 x38 (.int .i64 (j:Int)) (.int .i64 (n:Int)) (.int .i64 0) w:=by
 have hlt:=p.r.lt
 have n0:=p.a.n0
 have n5:=p.n5
 obtain ⟨wb0,wo0,wc0,g,q,cq,ev,_⟩:=p.r.agm p.m 0 n0
 have hall:∀i,i<n→∃wb wo wc,w.cell? ⟨g,q+i*2,none⟩=some (wsV wb wo wc)∧Wm w wb wo (wd D (3+32*i)):=fun i hi=>by
  obtain ⟨wb,wo,wc,g',q',cq',ev',_,c0,_,hw,_⟩:=p.r.agm p.m i hi
  rw [ev] at ev'
  cases ev'
  exact ⟨wb,wo,wc,c0,hw⟩
 have hdv:=p.a.L.dv
 have hgd:=p.r.gd
 have hoff:=p.r.on.off
 have hwl:=fun i (hi:i<n)=>p.r.wdl hi
 clear p
 subst ev
 subst hT
 have ej:(j:Int)+1=((j+1:Nat):Int):=by omega
 apply f4_l2_rule (I:=fun z w'=>∃i:Nat,z= .int .i64 (i:Int)∧i≤n∧Ext w w') (μ:=fun z _=>n-(Go.RowKit.intOf z).toNat)
 ·exact ⟨0,rfl,by omega,Ext.refl _⟩
 ·intros;rename_i z w1 hI E2 hE
  obtain ⟨i,rfl,hi,e1⟩:=hI
  by_cases hin:i<n
  ·obtain ⟨wb,wo,wc,c0,hw⟩:=hall i hin
   have e3:(3:Int)+32*(i:Int)=((3+32*i:Nat):Int):=by omega
   have e4:(32:Int)*(i:Int)=((32*i:Nat):Int):=by omega
   have ei:(i:Int)+1=((i+1:Nat):Int):=by omega
   have e5:(3:Int)+((32*i:Nat):Int)=((3+32*i:Nat):Int):=by omega
   have c1:=e1.cell_some c0
   have ltg:=lt_of_cell c1
   unfold f4_l2_t
   simp (disch:=first|omega|simp only [RO]|(simp only [RZ]<;>omega)|fail) only [↓RBp,↓RA,↓reduceIte,Nat.reduceAdd,Nat.reduceMul,Nat.reduceEqDiff,RB,RX,RA2,e3,c1]
   refine k_words22 ((hdv.ext e1).ext (by repeat (first|(with_reducible first|refine Sh.eB ?_ (by first|omega|(simp only [RZ]<;>omega)) _|assumption|exact Sh.eR _|refine Sh.eA ?_ _|refine Sh.eD ?_|refine Sh.eT ?_ (by assumption))|exact Sh.eR _))) hgd hoff (by omega) _ (fun b' o' cap' w2 hs2 e2 hb2=> ?_)
   have e12:Ext w1 w2:=Ext.trans (by repeat (first|(with_reducible first|refine Sh.eB ?_ (by first|omega|(simp only [RZ]<;>omega)) _|assumption|exact Sh.eR _|refine Sh.eA ?_ _|refine Sh.eD ?_|refine Sh.eT ?_ (by assumption))|exact Sh.eR _)) e2
   have c2:=e12.cell_some c1
   have lt2:=lt_of_cell c2
   (repeat' (first|(with_reducible refine brS_mk (fun _=> ?_) (fun _=> ?_))|(with_reducible refine And.intro ?_ ?_)|(simp (disch:=first|omega|simp only [RO]|(simp only [RZ]<;>omega)|fail) only [↓RBp,↓RA,↓reduceIte,Nat.reduceAdd,Nat.reduceMul,Nat.reduceEqDiff,RB,RX,RA2,c2])))
   refine k_same22 _ b' o' cap' wb wo wc (Wm.of_sl hs2) (hw.ext (e1.trans e12)) (hwl i hin) _ (fun w3 e3=> ?_)
   simp (disch:=first|omega|simp only [RO]|(simp only [RZ]<;>omega)|fail) only [↓RBp,↓RA,↓reduceIte,Nat.reduceAdd,Nat.reduceMul,Nat.reduceEqDiff,RB,RX,RA2,ei]
   apply hE
   ·exact ⟨i+1,rfl,by omega,e1.trans (e12.trans (e3.trans (by repeat (first|(with_reducible first|refine Sh.eB ?_ (by first|omega|(simp only [RZ]<;>omega)) _|assumption|exact Sh.eR _|refine Sh.eA ?_ _|refine Sh.eD ?_|refine Sh.eT ?_ (by assumption))|exact Sh.eR _))))⟩
   ·simp [Go.RowKit.intOf];omega
  ·have:i=n:=by omega
   subst this
   unfold f4_l2_t
   simp (disch:=first|omega|simp only [RO]|(simp only [RZ]<;>omega)|fail) only [↓RBp,↓RA,↓reduceIte,Nat.reduceAdd,Nat.reduceMul,Nat.reduceEqDiff,RB,RX,RA2,f4_k3_eq,f4_k3_t,f4_k2_eq,f4_k2_t,ej]
   exact HE _ e1
theorem lp_l1 (p:PlA w0 w Y D S b o cp n f v sl) (hT:Y.tb 0=T) (hx:D.exe≤1000) {va:Value} {al:List ActD} (hal:ActsR7 m w0 va al) (hm:m≤w0.heap.size) (hok:∀x∈al,actOk7 x) (hln:al.length≤20) (K:K1) (hK:∀w',Ext w0 w'→K (.bool true) w'):
  f4_l1 K (.pointer (some ⟨T,0,none⟩)) (stV S) v va (.int .i64 (al.length:Int)) (.int .i64 0) w:=by
 obtain ⟨aa,ac,rfl,hg⟩:=hal
 apply f4_l1_rule (I:=fun x z w'=>∃(j:Nat) (Y':Lay) (D':DS) (f':Nat→Int×Int×Bool) (sl':Nat→Value),z= .int .i64 (j:Int)∧j≤al.length∧PlA w0 w' Y' D' S b o cp n f' x sl'∧Y'.tb 0=T∧D'.exe≤1000+1000*j) (μ:=fun _ z _=>al.length-(Go.RowKit.intOf z).toNat)
 ·exact ⟨0,Y,D,f,sl,rfl,by omega,p,hT,by omega⟩
 ·intros;rename_i x z w1 hI E1 hE
  obtain ⟨j,Y1,D1,f1,sl1,rfl,hj,p1,hT1,hx1⟩:=hI
  by_cases hjl:j<al.length
  ·obtain ⟨d,hd⟩:∃d,al[j]? =some d:=⟨_,List.getElem?_eq_getElem hjl⟩
   obtain ⟨bb,oo,tv,dv,rfl,hbm,hc,rL,rM⟩:=hg j d hd
   have dok:=hok d (List.mem_of_getElem? hd)
   have ex:=p1.a.L.ex
   have s0:w1.cell? ⟨bb,oo+j*7,none⟩=some (.int .u8 (d.kd:Int)):=ex.cell_some (hc 0 (by omega))
   have s1:w1.cell? ⟨bb,oo+j*7+1,none⟩=some (.int .i64 d.th):=ex.cell_some (hc 1 (by omega))
   have s2:w1.cell? ⟨bb,oo+j*7+2,none⟩=some (.int .i64 d.cl):=ex.cell_some (hc 2 (by omega))
   have s3:w1.cell? ⟨bb,oo+j*7+3,none⟩=some (.int .i64 d.ch):=ex.cell_some (hc 3 (by omega))
   have s4:w1.cell? ⟨bb,oo+j*7+4,none⟩=some (.bool d.on):=ex.cell_some (hc 4 (by omega))
   have s5:w1.cell? ⟨bb,oo+j*7+5,none⟩=some tv:=ex.cell_some (hc 5 (by omega))
   have s6:w1.cell? ⟨bb,oo+j*7+6,none⟩=some dv:=ex.cell_some (hc 6 (by omega))
   obtain ⟨ta,tn,tc,rfl⟩:∃ta tn tc,tv= .slice ta tn tc:=by obtain ⟨a,c,e,_⟩:=id rL;exact ⟨_,_,_,e⟩
   obtain ⟨da,dn,dc,rfl⟩:∃ta tn tc,dv= .slice ta tn tc:=by obtain ⟨a,c,e,_⟩:=id rM;exact ⟨_,_,_,e⟩
   have lts:=lt_of_cell s0
   have les:=ex.size
   unfold f4_l1_t
   simp (disch:=first|omega|simp only [RO]|(simp only [RZ]<;>omega)|fail) only [↓RBp,↓RA,↓reduceIte,Nat.reduceAdd,Nat.reduceMul,Nat.reduceEqDiff,RB,RX,RA2,s0,s1,s2,s3,s4,s5,s6,List.getElem?_toArray,List.getElem?_cons_succ,List.getElem?_cons_zero,Option.isSome_some,Bool.and_self,List.setIfInBounds_toArray,List.set_cons_succ,List.set_cons_zero]
   refine k_play (d:=d) (m:=m) (p1.ext (by repeat (first|(with_reducible first|refine Sh.eB ?_ (by first|omega|(simp only [RZ]<;>omega)) _|assumption|exact Sh.eR _|refine Sh.eA ?_ _|refine Sh.eD ?_|refine Sh.eT ?_ (by assumption))|exact Sh.eR _))) (by omega) dok (rL.ext (ex.trans (by repeat (first|(with_reducible first|refine Sh.eB ?_ (by first|omega|(simp only [RZ]<;>omega)) _|assumption|exact Sh.eR _|refine Sh.eA ?_ _|refine Sh.eD ?_|refine Sh.eT ?_ (by assumption))|exact Sh.eR _)))) (rM.ext (ex.trans (by repeat (first|(with_reducible first|refine Sh.eB ?_ (by first|omega|(simp only [RZ]<;>omega)) _|assumption|exact Sh.eR _|refine Sh.eA ?_ _|refine Sh.eD ?_|refine Sh.eT ?_ (by assumption))|exact Sh.eR _)))) (by first|omega|(simp only [RZ];omega)) _ (fun w2 Y2 D2 f2 v2 sl2 a2 p2 x2 _=> ?_) hT1
   obtain ⟨va2,vc2,rfl,_⟩:=p2.m.m.isS'
   have hT2:Y2.tb 0=T:=by rw [a2.tb];exact hT1
   simp (disch:=first|omega|simp only [RO]|(simp only [RZ]<;>omega)|fail) only [↓RBp,↓RA,↓reduceIte,Nat.reduceAdd,Nat.reduceMul,Nat.reduceEqDiff,RB,RX,RA2]
   refine k_agrees p2.a p2.n5 p2.agm _ (fun w3 e3=> ?_)
   simp (disch:=first|omega|simp only [RO]|(simp only [RZ]<;>omega)|fail) only [↓RBp,↓RA,↓reduceIte,Nat.reduceAdd,Nat.reduceMul,Nat.reduceEqDiff,RB,RX,RA2]
   refine lp_l2 (p2.ext (e3.trans (by repeat (first|(with_reducible first|refine Sh.eB ?_ (by first|omega|(simp only [RZ]<;>omega)) _|assumption|exact Sh.eR _|refine Sh.eA ?_ _|refine Sh.eD ?_|refine Sh.eT ?_ (by assumption))|exact Sh.eR _)))) hT2 _ _ _ _ _ (by omega) (fun w4 e4=> ?_)
   apply hE
   ·exact ⟨j+1,Y2,D2,f2,sl2,rfl,by omega,p2.ext (e3.trans (Ext.trans (by repeat (first|(with_reducible first|refine Sh.eB ?_ (by first|omega|(simp only [RZ]<;>omega)) _|assumption|exact Sh.eR _|refine Sh.eA ?_ _|refine Sh.eD ?_|refine Sh.eT ?_ (by assumption))|exact Sh.eR _)) e4)),hT2,by omega⟩
   ·simp [Go.RowKit.intOf];omega
  ·have:j=al.length:=by omega
   subst this
   have her:∀(w2:World) (K:K1),Ext w1 w2→callS Tryz.prog 19 #[.pointer (some ⟨T,0,none⟩)] w2 K=K (.int .i64 0) w2:=fun w2 K e=>by rw [←hT1,c_Err (p1.a.L.dv.ext e) 0 (by omega) K,p1.r.on.err]
   have hex:=p1.a.L.ex
   unfold f4_l1_t
   simp (disch:=first|omega|simp only [RO]|(simp only [RZ]<;>omega)|(with_reducible (repeat (first|assumption|exact Ext.refl _|refine Ext.alloc ?_ _|refine Ext.drew ?_|refine Ext.trans ?_ (by assumption))))|fail) only [↓RBp,↓RA,↓reduceIte,Nat.reduceAdd,Nat.reduceMul,Nat.reduceEqDiff,RB,RX,RA2,her,f4_k1_eq,f4_k1_t]
   exact hK _ hex
theorem law_plays (hG:Glob w) {nn:Nat} (hnn:nn<256) {va:Value} {al:List ActD} (hal:ActsR7 w.heap.size w va al) (hok:∀x∈al,actOk7 x) (hln:al.length≤maxLen) (K:K1) (hK:∀w',Ext w w'→K (.bool true) w'):
  callS Tryz.prog 4 #[.int .u8 (nn:Int),va] w K:=by
 have hal0:=hal
 obtain ⟨aa,ac,rfl,_⟩:=hal
 have hlm:al.length<9223372036854775808:=by unfold maxLen at hln;omega
 refine f4_call _ _ _ _ ?_
 unfold f4_t
 refine k_awake22 hG _ (fun w1 e1=> ?_)
 by_cases h20:20<al.length
 ·simp (disch:=first|omega|simp only [RO]|(simp only [RZ]<;>omega)|fail) only [↓RBp,↓RA,↓reduceIte,Nat.reduceAdd,Nat.reduceMul,Nat.reduceEqDiff,RB,RX,RA2]
  refine k_awake22 (hG.ext e1) _ (fun w2 e2=> ?_)
  exact hK _ (e1.trans e2)
 ·obtain ⟨k,hk⟩:∃k,1+nn%4=k:=⟨_,rfl⟩
  have ek:(1:Int)+((nn%4:Nat):Int)=(k:Int):=by omega
  have ek2:(1:Int)+(nn:Int)%4=(k:Int):=by omega
  obtain ⟨hb,hbn,hbx,hbw⟩:=bg_ok (n:=k) (by omega) (by omega)
  simp (disch:=first|omega|simp only [RO]|(simp only [RZ]<;>omega)|fail) only [↓RBp,↓RA,↓reduceIte,Nat.reduceAdd,Nat.reduceMul,Nat.reduceEqDiff,RB,RX,RA2,ek,ek2]
  refine k_begin22 (n:=k) (hG.ext e1) (by omega) (by omega) _ (fun w2 Y S b o cp hS=> ?_)
  have hP:∀x,PF Y b x→x<w2.heap.size:=fun x hx=>by
   rcases hx with hx|hx
   ·exact hS.L.dv.lt hx
   ·have:=hS.ltb;omega
  simp (disch:=first|omega|simp only [RO]|(simp only [RZ]<;>omega)|fail) only [↓RBp,↓RA,↓reduceIte,Nat.reduceAdd,Nat.reduceMul,Nat.reduceEqDiff,RB,RX,RA2,ek,ek2]
  refine k_rFormat22 hP (by omega) (by omega) _ (fun v sl w3 e3 m3=> ?_)
  have p:PlA w1 w3 Y (bgD k) S b o cp k bgF v sl:=⟨hS.ext e3,hb,m3.congr (fun j hj i hi=>(hbw j hj i hi).symm) (fun _ _=>rfl),by omega⟩
  have hal1:ActsR7 w.heap.size w1 (.slice aa al.length ac) al:=hal0.ext e1
  simp (disch:=first|omega|simp only [RO]|(simp only [RZ]<;>omega)|fail) only [↓RBp,↓RA,↓reduceIte,Nat.reduceAdd,Nat.reduceMul,Nat.reduceEqDiff,RB,RX,RA2]
  exact lp_l1 p rfl (by omega) hal1 e1.size hok (by omega) K (fun w' e'=>hK _ (e1.trans e'))
end
end Go.Proofs.YtifpinhjpbgnoaaGreatDoor
namespace Go.Proofs.YtifpinhjpbgnoaaGreatDoor
open Go Go.Sh
set_option linter.unusedSimpArgs false
set_option linter.unusedVariables false
def sgN (i j:Nat):Nat:=if j=0 then i else if j=i then 0 else j
theorem sgN_lt {i j:Nat} (hi:i<8) (hj:j<8):sgN i j<8:=by
 unfold sgN;split
 ·exact hi
 ·split<;>omega
theorem sgN_inv (i j:Nat):sgN i (sgN i j)=j:=by
 unfold sgN
 by_cases h0:j=0
 ·subst h0
  rw [if_pos rfl]
  by_cases h:i=0
  ·rw [if_pos h];exact h
  ·rw [if_neg h,if_pos rfl]
 ·rw [if_neg h0]
  by_cases h:j=i
  ·subst h;rw [if_pos rfl,if_pos rfl]
  ·rw [if_neg h,if_neg h0,if_neg h]
theorem sgN_inj {i j q:Nat} (h:sgN i j=sgN i q):j=q:=by rw [←sgN_inv i j,h,sgN_inv]
def Lay.sw (Y:Lay) (i:Nat):Lay:={Y with tb:=fun j=>Y.tb (sgN i j),nb:=fun j=>Y.nb (sgN i j),ids:=fun j=>Y.ids (sgN i j)}
def swR (i:Nat):Role→Role
 | .th j=> .th (sgN i j)
 | .nt j=> .nt (sgN i j)
 |r=>r
theorem swR_inj {i:Nat}:∀{r r':Role},swR i r=swR i r'→r=r':=by
 intro r r' h
 cases r<;>cases r'<;>simp [swR] at h ⊢<;>first|exact sgN_inj h|exact h
theorem sw_blk {Y:Lay} {i b:Nat} (hi:i<8) {r:Role} (h:(Y.sw i).blk r=some b):Y.blk (swR i r)=some b:=by
 cases r with
 |th j=>
  have h:(if j<8 then some (Y.tb (sgN i j)) else none)=some b:=h
  split at h
  ·rename_i hj
   show (if sgN i j<8 then some (Y.tb (sgN i j)) else none)=some b
   rw [if_pos (sgN_lt hi hj)];exact h
  ·cases h
 |nt j=>
  have h:(if j<8 then some (Y.nb (sgN i j)) else none)=some b:=h
  split at h
  ·rename_i hj
   show (if sgN i j<8 then some (Y.nb (sgN i j)) else none)=some b
   rw [if_pos (sgN_lt hi hj)];exact h
  ·cases h
 |_=>exact h
theorem sw_F {Y:Lay} {i b:Nat} (hi:i<8) (h:(Y.sw i).F b):Y.F b:=by
 obtain ⟨r,hr⟩:=h
 exact ⟨_,sw_blk hi hr⟩
theorem Dv.sw {w:World} {Y:Lay} {n:Nat} {L:List Nat} (h:Dv w Y (DS.init n L)) {i:Nat} (hi:i<8):Dv w (Y.sw i) (DS.init n L) where
 yn:=h.yn
 dev:=h.dev
 pe:=h.pe
 cu:=h.cu
 li:=h.li
 hs:=h.hs
 th:=fun j hj=>h.th (sgN i j) (sgN_lt hi hj)
 nt:=fun j hj=>h.nt (sgN i j) (sgN_lt hi hj)
 inj:=fun r r' b h1 h2=>swR_inj (h.inj _ _ b (sw_blk hi h1) (sw_blk hi h2))
end Go.Proofs.YtifpinhjpbgnoaaGreatDoor
namespace Go.Proofs.YtifpinhjpbgnoaaGreatDoor
open Go Go.Sh
set_option maxRecDepth 100000
set_option linter.unusedVariables false
noncomputable def f5_u:Code×Dec:=((Tryz.f5.body).getD .skip,(.s .o (.s .o (.s .o (.s .o (.s .o (.s .o (.x 2948 (.s .o (.b (.l [11,50] 844424930133892 73785850394931423296 .o))) .o))))))))
abbrev f5_e (K:K1):KF:=endK Tryz.prog Tryz.f5.results.toList K
def f5_k1_o (K:K1):KF:=fun fr w=>∀σ,cP (pr (pr (pr (pr (pr (pr (pr f5_u))))))) (f5_e K) (f5_e K) nX (mixF 2948 σ 0 fr) w
def f5_k1 (K:K1) (x2 x7 x8 x9 x11:Value) (w:World):Prop:=f5_k1_o K (fz 109 0 [(2,x2),(7,x7),(8,x8),(9,x9),(11,x11)]) w
def f5_l1 (K:K1) (x2 x7 x8 x9 x10 x11 x48 x49 x50:Value) (w:World):Prop:=loopT [11,50] 844424930133892 (fun E=>cP (pl (pl (pr (pl (pr (pr (pr (pr (pr (pr f5_u)))))))))) E (f5_e K) (exB 0 (f5_k1_o K) nX)) (fz 109 0 [(2,x2),(7,x7),(8,x8),(9,x9),(10,x10),(11,x11),(48,x48),(49,x49),(50,x50)]) w
def f5_k1_t (x2 x7 x8 x9 x11:Value) (K:K1) (w:World):Prop:=
 callS Tryz.prog 20 (pA #[x8,x2]) w fun t68 w_1=>
 ev Tryz.prog (binM .eql 24 (.tmp 69) (.const (.pointer none)) t68 (.pointer none)) w_1 fun t70 w_2=>
 gd t70 false (fun k=>k t68 w_2) w_2 fun t72 w_3=>
 gd t70 false (fun k=>callS Tryz.prog 21 (pA #[t72,(.int .i64 2)]) w_3 k) w_3 fun t73 w_4=>
 gd t70 false (fun k=>ev Tryz.prog (binM .eql 25 (.tmp 73) (.const (.pointer none)) t73 (.pointer none)) w_4 k) w_4 fun t74 w_5=>
 pickS t70 (.bool true) t74 w_5 fun t75 w_6=>
 cndS t75 (
 K (.bool false) w_6) (
 ev Tryz.prog (Instr.makeInterface 25 x9) w_6 fun t78 w_7=>
 ev Tryz.prog (binM .mul 3 (.const (.int .i64 32)) (.tmp 79) (.int .i64 32) x7) w_7 fun t80 w_8=>
 callS Tryz.prog 14 (pA #[t78,(.int .i64 3),t80]) w_8 fun t81 w_9=>
 ev Tryz.prog (Instr.extract t81 0) w_9 fun t82 w_10=>
 ev Tryz.prog (Instr.extract t81 1) w_10 fun t83 w_11=>
 callS Tryz.prog 21 (pA #[t68,(.int .i64 2)]) w_11 fun t86 w_12=>
 ev Tryz.prog (Instr.makeInterface 25 t86) w_12 fun t87 w_13=>
 ev Tryz.prog (binM .mul 3 (.const (.int .i64 32)) (.tmp 88) (.int .i64 32) x7) w_13 fun t89 w_14=>
 callS Tryz.prog 14 (pA #[t87,(.int .i64 3),t89]) w_14 fun t90 w_15=>
 ev Tryz.prog (Instr.extract t90 0) w_15 fun t91 w_16=>
 ev Tryz.prog (Instr.extract t90 1) w_16 fun t92 w_17=>
 ev Tryz.prog (binM .eql 43 (.tmp 93) (.const (.int .i64 0)) t83 (.int .i64 0)) w_17 fun t94 w_18=>
 gd t94 true (fun k=>k t92 w_18) w_18 fun t96 w_19=>
 gd t94 true (fun k=>ev Tryz.prog (binM .eql 43 (.tmp 96) (.const (.int .i64 0)) t96 (.int .i64 0)) w_19 k) w_19 fun t97 w_20=>
 pickS t94 t97 (.bool false) w_20 fun t98 w_21=>
 gd t98 true (fun k=>k t82 w_21) w_21 fun t100 w_22=>
 gd t98 true (fun k=>k x11 w_22) w_22 fun t101 w_23=>
 gd t98 true (fun k=>callS Tryz.prog 15 (pA #[t100,t101]) w_23 k) w_23 fun t102 w_24=>
 pickS t98 t102 (.bool false) w_24 fun t103 w_25=>
 gd t103 true (fun k=>k t91 w_25) w_25 fun t105 w_26=>
 gd t103 true (fun k=>k x11 w_26) w_26 fun t106 w_27=>
 gd t103 true (fun k=>callS Tryz.prog 15 (pA #[t105,t106]) w_27 k) w_27 fun t107 w_28=>
 pickS t103 t107 (.bool false) w_28 fun t108 w_29=>
 K t108 w_29)
theorem f5_k1_eq (K:K1) (x2 x7 x8 x9 x11:Value) (w:World):f5_k1 K x2 x7 x8 x9 x11 w=f5_k1_t x2 x7 x8 x9 x11 K w:=cutE fun σ=>by kernel_rfl
def f5_l1_t (x2 x7 x8 x9 x10 x11 x48 x49 x50:Value) (K:K1) (E1:VP2) (w:World):Prop:=
 ev Tryz.prog (binM .lss 3 (.tmp 50) (.tmp 49) x50 x49) w fun t51 w_1=>
 cndS t51 (
 ev Tryz.prog (Instr.indexAt 48 x48 x50) w_1 fun t52 w_2=>
 ldS Tryz.prog 52 t52 w_2 fun t53 w_3=>
 ev Tryz.prog (Instr.alloc 52 true (.tuple #[])) w_3 fun t13 w_4=>
 stS Tryz.prog 52 t13 t53 w_4 fun w_5=>
 ldS Tryz.prog 52 t13 w_5 fun t58 w_6=>
 callS Tryz.prog 17 (pA #[x9,x10,x11,t58]) w_6 fun t59 w_7=>
 ev Tryz.prog (Instr.extract t59 0) w_7 fun t60 w_8=>
 ev Tryz.prog (Instr.extract t59 1) w_8 fun t61 w_9=>
 ev Tryz.prog (Op.unary .not t61) w_9 fun t63 w_10=>
 cndS t63 (
 K (.bool false) w_10) (
 ev Tryz.prog (binM .add 3 (.tmp 50) (.const (.int .i64 1)) x50 (.int .i64 1)) w_10 fun t65 w_11=>
 E1 t60 t65 w_11)) (
 f5_k1 K x2 x7 x8 x9 x11 w_1)
theorem f5_l1_rule (x2 x7 x8 x9 x10 x11 x48 x49 x50:Value) (K:K1) (w:World) (I:VP2) (μ:Value→Value→World→Nat) (h0:I x11 x50 w)
  (hr:∀(x11 x50:Value) (w:World),I x11 x50 w→∀E1:VP2,(∀(y11 y50:Value) (w':World),I y11 y50 w'→μ y11 y50 w'<μ x11 x50 w→E1 y11 y50 w')→f5_l1_t x2 x7 x8 x9 x10 x11 x48 x49 x50 K E1 w):f5_l1 K x2 x7 x8 x9 x10 x11 x48 x49 x50 w:=
 ⟨I,μ,h0,fun σ w hI E hE=>cast (by kernel_rfl) (hr (σ 11) (σ 50) w hI E hE)⟩
def f5_t (x0 x1 x2:Value) (K:K1) (w:World):Prop:=
 callS Tryz.prog 8 (pA #[]) w fun t21 w_1=>
 ev Tryz.prog (Op.unary .not t21) w_1 fun t22 w_2=>
 gd t22 false (fun k=>k x1 w_2) w_2 fun t24 w_3=>
 gd t22 false (fun k=>bltS Tryz.prog .len #[48] 3 #[false] #[t24] w_3 k) w_3 fun t25 w_4=>
 gd t22 false (fun k=>ev Tryz.prog (binM .gtr 3 (.tmp 25) (.const (.int .i64 20)) t25 (.int .i64 20)) w_4 k) w_4 fun t26 w_5=>
 pickS t22 (.bool true) t26 w_5 fun t27 w_6=>
 gd t27 false (fun k=>k x2 w_6) w_6 fun t29 w_7=>
 gd t27 false (fun k=>bltS Tryz.prog .len #[58] 3 #[false] #[t29] w_7 k) w_7 fun t30 w_8=>
 gd t27 false (fun k=>ev Tryz.prog (binM .gtr 3 (.tmp 30) (.const (.int .i64 20)) t30 (.int .i64 20)) w_8 k) w_8 fun t31 w_9=>
 pickS t27 (.bool true) t31 w_9 fun t32 w_10=>
 cndS t32 (
 callS Tryz.prog 8 (pA #[]) w_10 fun t33 w_11=>
 K t33 w_11) (
 ev Tryz.prog (convert 5 3 x0) w_10 fun t35 w_12=>
 ev Tryz.prog (binM .rem 3 (.tmp 35) (.const (.int .i64 4)) t35 (.int .i64 4)) w_12 fun t36 w_13=>
 ev Tryz.prog (binM .add 3 (.const (.int .i64 1)) (.tmp 36) (.int .i64 1) t36) w_13 fun t37 w_14=>
 callS Tryz.prog 9 (pA #[t37]) w_14 fun t40 w_15=>
 ev Tryz.prog (Instr.extract t40 0) w_15 fun t41 w_16=>
 ev Tryz.prog (Instr.extract t40 1) w_16 fun t42 w_17=>
 ev Tryz.prog (Instr.extract t40 2) w_17 fun t43 w_18=>
 ev Tryz.prog (binM .eql 26 (.tmp 44) (.const (.pointer none)) t43 (.pointer none)) w_18 fun t45 w_19=>
 cndS t45 (
 K (.bool false) w_19) (
 callS Tryz.prog 16 (pA #[t37]) w_19 fun t47 w_20=>
 bltS Tryz.prog .len #[48] 3 #[false] #[x1] w_20 fun t49 w_21=>
 f5_l1 K x2 t37 t41 t42 t43 t47 x1 t49 (.int .i64 0) w_21))
theorem f5_call (x0 x1 x2:Value) (K:K1) (w:World) (h:f5_t x0 x1 x2 K w):callS Tryz.prog 5 #[x0,x1,x2] w K:=
 call_of_txt (args:= [x0,x1,x2]) mixed Tryz.func5 f5_u.2 (by kernel_rfl) (cast (by kernel_rfl) h)
end Go.Proofs.YtifpinhjpbgnoaaGreatDoor
namespace Go.Proofs.YtifpinhjpbgnoaaGreatDoor
open Go Go.Sh
set_option maxRecDepth 100000
set_option maxHeartbeats 4000000
set_option linter.unusedSimpArgs false
set_option linter.unusedVariables false
theorem ImgW.cln {D:DS} {F:Nat→Nat} (h:ImgW D F) (hc:Cln D.co) (j:Nat) (hj:j<8*D.n):F j=D.cur j:=by
 rcases h j hj with h1|⟨x,hx,_⟩
 ·rw [h1];exact hc.pers j
 ·have:D.hist (j/8)= []:=hc.hist (j/8)
  rw [this] at hx;cases hx
section
variable {w0 w w':World} {Y Y':Lay} {D D':DS} {S b o cp n X C k m T Q:Nat} {f f':Nat→Int×Int×Bool} {v tv dv:Value} {sl:Nat→Value}
theorem PlA.agO (p:PlA w0 w Y D S b o cp n f v sl):AgM w (PF Y b) v sl n (mW D 3) (mH f) (opF D 3):=⟨p.m,fun k hk=>⟨p.r.wdl hk 0 (by omega),rfl,rfl⟩⟩
theorem lr_k1 (p:PlA w0 w Y D S b o cp n f v sl) (hT:Y.tb 0=T) (hQ:Y.d=Q) (hx:D.exe<1000000000) (hc:Cln D.co) {xu:Value} {us:List Nat} (hus:RdS m w0 xu (u8L us)) (hu8:∀x∈us,x<256) (hln:us.length≤20) (K:K1) (hK:∀w',Ext w0 w'→K (.bool true) w'):
  f5_k1 K xu (.int .i64 (n:Int)) (.pointer (some ⟨Q,0,none⟩)) (.pointer (some ⟨T,0,none⟩)) v w:=by
 subst hT;subst hQ
 have hlt:=p.r.lt
 have n0:=p.a.n0
 have n5:=p.n5
 have hgd:=p.r.gd
 have e32:(32:Int)*(n:Int)=((32*n:Nat):Int):=by omega
 have hq:32*n/32=n:=by omega
 have hL:=p.a.L
 have hnn:=hgd.n
 have hgl:=p.a.gl
 rw [f5_k1_eq]
 unfold f5_k1_t
 refine k_Crash hL.dv hgd hx (hus.ext hL.ex) hu8 (by omega) _ (fun F w1 Y1 e1 hF hd1 hn1 hdt1=> ?_)
 obtain ⟨Y2,hY2⟩:∃Y2,Y2=Y1.sw 2:=⟨_,rfl⟩
 have hd2:Dv w1 Y2 (DS.init D.n ((List.range (8*D.n)).map F)):=by rw [hY2];exact hd1.sw (by omega)
 have hn2:∀x,Y2.F x→w.heap.size≤x:=fun x hx=>by rw [hY2] at hx;exact hn1 x (sw_F (by omega) hx)
 have e2:Y1.dt 2=Y2.tb 0:=by rw [hdt1,hY2];rfl
 have hTh:∀(w9:World) (K:K1),Ext w1 w9→callS Tryz.prog 21 #[.pointer (some ⟨Y1.d,0,none⟩),.int .i64 2] w9 K=K (.pointer (some ⟨Y2.tb 0,0,none⟩)) w9:=fun w9 K e=>by rw [←e2];exact c_Thread (hd1.ext e) 2 (by omega) K
 have hin:=init_good hgd.n0 hgd.n (F:=F) (fun i hi=>hF.lt hgd i hi)
 have hnF:(DS.init D.n ((List.range (8*D.n)).map F)).n=D.n:=rfl
 have hwF:∀k,k<n→wd (DS.init D.n ((List.range (8*D.n)).map F)) (3+32*k) 0=wd D (3+32*k) 0:=fun k hk=>by
  rw [init_wd F (by omega),hF.cln hc _ (by omega)];unfold wd;rfl
 clear hd1 hn1 hF
 generalize DS.init D.n ((List.range (8*D.n)).map F)=DF at*
 have L1:Lv w0 w1 Y D:=hL.ext e1
 have hag:=p.agO
 have hok:∀k,k<n→hdOk (wd D (3+32*k) 0)=true:=fun k hk=>(p.r.ag k hk).1
 have hokF:∀k,k<n→hdOk (wd DF (3+32*k) 0)=true:=fun k hk=>by rw [hwF k hk];exact hok k hk
 have hagF:AgM w (PF Y b) v sl n (mW D 3) (mH f) (opF DF 3):=⟨p.m,fun k hk=>⟨p.r.wdl hk 0 (by omega),by unfold opF;rw [hwF k hk];rfl,by unfold opF;rw [hwF k hk];rfl⟩⟩
 have hop:=fun (w4:World) (e:Ext w1 w4) (K:K1) h1 h2=>k_AOpen (l0:=3) (q:=32*n) (n:=n) (L1.ext e) hgl p.r.on.off p.r.on.err (by omega) (by omega) hq K h1 h2
 have L2:Lv w0 w1 Y2 DF:=⟨hd2,hin.1,hL.ex.trans e1,fun x hx=>Nat.le_trans hL.ex.size (hn2 x hx)⟩
 have hop2:=fun (w4:World) (e:Ext w1 w4) (K:K1) h1 h2=>k_AOpen (l0:=3) (q:=32*n) (n:=n) (L2.ext e) hgl hin.2.off hin.2.err (by omega) (by omega) hq K h1 h2
 unfold thV at hop hop2
 clear p
 simp (disch:=first|omega|simp only [RO]|(simp only [RZ]<;>omega)|(with_reducible (repeat (first|assumption|exact Ext.refl _|refine Ext.alloc ?_ _|refine Ext.drew ?_|refine Ext.trans ?_ (by assumption))))|fail) only [↓RBp,↓RA,↓reduceIte,Nat.reduceAdd,Nat.reduceMul,Nat.reduceEqDiff,RB,RX,RA2,hTh,e32]
 refine hop _ (by repeat (first|(with_reducible first|refine Sh.eB ?_ (by first|omega|(simp only [RZ]<;>omega)) _|assumption|exact Sh.eR _|refine Sh.eA ?_ _|refine Sh.eD ?_|refine Sh.eT ?_ (by assumption))|exact Sh.eR _)) _ (fun hb=>absurd hok hb) (fun _ S3 b3 o3 c3 w3 e3 _ _ h3=> ?_)
 have e13:Ext w1 w3:=Ext.trans (by repeat (first|(with_reducible first|refine Sh.eB ?_ (by first|omega|(simp only [RZ]<;>omega)) _|assumption|exact Sh.eR _|refine Sh.eA ?_ _|refine Sh.eD ?_|refine Sh.eT ?_ (by assumption))|exact Sh.eR _)) e3
 simp (disch:=first|omega|simp only [RO]|(simp only [RZ]<;>omega)|(with_reducible (repeat (first|assumption|exact Ext.refl _|refine Ext.alloc ?_ _|refine Ext.drew ?_|refine Ext.trans ?_ (by assumption))))|fail) only [↓RBp,↓RA,↓reduceIte,Nat.reduceAdd,Nat.reduceMul,Nat.reduceEqDiff,RB,RX,RA2,hTh,e32]
 refine hop2 _ (by repeat (first|(with_reducible first|refine Sh.eB ?_ (by first|omega|(simp only [RZ]<;>omega)) _|assumption|exact Sh.eR _|refine Sh.eA ?_ _|refine Sh.eD ?_|refine Sh.eT ?_ (by assumption))|exact Sh.eR _)) _ (fun hb=>absurd hokF hb) (fun _ S4 b4 o4 c4 w4 e4 _ _ h4=> ?_)
 have e34:Ext w3 w4:=Ext.trans (by repeat (first|(with_reducible first|refine Sh.eB ?_ (by first|omega|(simp only [RZ]<;>omega)) _|assumption|exact Sh.eR _|refine Sh.eA ?_ _|refine Sh.eD ?_|refine Sh.eT ?_ (by assumption))|exact Sh.eR _)) e4
 simp (disch:=first|omega|simp only [RO]|(simp only [RZ]<;>omega)|fail) only [↓RBp,↓RA,↓reduceIte,Nat.reduceAdd,Nat.reduceMul,Nat.reduceEqDiff,RB,RX,RA2]
 refine k_agrees (h3.ext e34) n5 (hag.ext (e1.trans (e13.trans e34))) _ (fun w5 e5=> ?_)
 simp (disch:=first|omega|simp only [RO]|(simp only [RZ]<;>omega)|fail) only [↓RBp,↓RA,↓reduceIte,Nat.reduceAdd,Nat.reduceMul,Nat.reduceEqDiff,RB,RX,RA2]
 refine k_agrees (h4.ext e5) n5 (hagF.ext (e1.trans (e13.trans (e34.trans e5)))) _ (fun w6 e6=> ?_)
 simp (disch:=first|omega|simp only [RO]|(simp only [RZ]<;>omega)|fail) only [↓RBp,↓RA,↓reduceIte,Nat.reduceAdd,Nat.reduceMul,Nat.reduceEqDiff,RB,RX,RA2]
 exact hK _ (h4.L.ex.trans (e5.trans e6))
theorem lr_l1 (p:PlA w0 w Y D S b o cp n f v sl) (hT:Y.tb 0=T) (hQ:Y.d=Q) (hx:D.exe≤1000) (hc:Cln D.co) {va:Value} {al:List ActD} (hal:ActsR7 m w0 va al) (hm:m≤w0.heap.size) (hok:∀x∈al,actOk7 x) (hln:al.length≤20) {xu:Value} {us:List Nat} (hus:RdS m w0 xu (u8L us)) (hu8:∀x∈us,x<256) (hul:us.length≤20) (K:K1) (hK:∀w',Ext w0 w'→K (.bool true) w'):
  f5_l1 K xu (.int .i64 (n:Int)) (.pointer (some ⟨Q,0,none⟩)) (.pointer (some ⟨T,0,none⟩)) (stV S) v va (.int .i64 (al.length:Int)) (.int .i64 0) w:=by
 obtain ⟨aa,ac,rfl,hg⟩:=hal
 apply f5_l1_rule (I:=fun x z w'=>∃(j:Nat) (Y':Lay) (D':DS) (f':Nat→Int×Int×Bool) (sl':Nat→Value),z= .int .i64 (j:Int)∧j≤al.length∧PlA w0 w' Y' D' S b o cp n f' x sl'∧Y'.tb 0=T∧Y'.d=Q∧D'.exe≤1000+1000*j∧Cln D'.co) (μ:=fun _ z _=>al.length-(Go.RowKit.intOf z).toNat)
 ·exact ⟨0,Y,D,f,sl,rfl,by omega,p,hT,hQ,by omega,hc⟩
 ·intros;rename_i x z w1 hI E1 hE
  obtain ⟨j,Y1,D1,f1,sl1,rfl,hj,p1,hT1,hQ1,hx1,hc1⟩:=hI
  by_cases hjl:j<al.length
  ·obtain ⟨d,hd⟩:∃d,al[j]? =some d:=⟨_,List.getElem?_eq_getElem hjl⟩
   obtain ⟨bb,oo,tv,dv,rfl,hbm,hc,rL,rM⟩:=hg j d hd
   have dok:=hok d (List.mem_of_getElem? hd)
   have ex:=p1.a.L.ex
   have s0:w1.cell? ⟨bb,oo+j*7,none⟩=some (.int .u8 (d.kd:Int)):=ex.cell_some (hc 0 (by omega))
   have s1:w1.cell? ⟨bb,oo+j*7+1,none⟩=some (.int .i64 d.th):=ex.cell_some (hc 1 (by omega))
   have s2:w1.cell? ⟨bb,oo+j*7+2,none⟩=some (.int .i64 d.cl):=ex.cell_some (hc 2 (by omega))
   have s3:w1.cell? ⟨bb,oo+j*7+3,none⟩=some (.int .i64 d.ch):=ex.cell_some (hc 3 (by omega))
   have s4:w1.cell? ⟨bb,oo+j*7+4,none⟩=some (.bool d.on):=ex.cell_some (hc 4 (by omega))
   have s5:w1.cell? ⟨bb,oo+j*7+5,none⟩=some tv:=ex.cell_some (hc 5 (by omega))
   have s6:w1.cell? ⟨bb,oo+j*7+6,none⟩=some dv:=ex.cell_some (hc 6 (by omega))
   obtain ⟨ta,tn,tc,rfl⟩:∃ta tn tc,tv= .slice ta tn tc:=by obtain ⟨a,c,e,_⟩:=id rL;exact ⟨_,_,_,e⟩
   obtain ⟨da,dn,dc,rfl⟩:∃ta tn tc,dv= .slice ta tn tc:=by obtain ⟨a,c,e,_⟩:=id rM;exact ⟨_,_,_,e⟩
   have lts:=lt_of_cell s0
   have les:=ex.size
   unfold f5_l1_t
   simp (disch:=first|omega|simp only [RO]|(simp only [RZ]<;>omega)|fail) only [↓RBp,↓RA,↓reduceIte,Nat.reduceAdd,Nat.reduceMul,Nat.reduceEqDiff,RB,RX,RA2,s0,s1,s2,s3,s4,s5,s6,List.getElem?_toArray,List.getElem?_cons_succ,List.getElem?_cons_zero,Option.isSome_some,Bool.and_self,List.setIfInBounds_toArray,List.set_cons_succ,List.set_cons_zero]
   refine k_play (d:=d) (m:=m) (p1.ext (by repeat (first|(with_reducible first|refine Sh.eB ?_ (by first|omega|(simp only [RZ]<;>omega)) _|assumption|exact Sh.eR _|refine Sh.eA ?_ _|refine Sh.eD ?_|refine Sh.eT ?_ (by assumption))|exact Sh.eR _))) (by omega) dok (rL.ext (ex.trans (by repeat (first|(with_reducible first|refine Sh.eB ?_ (by first|omega|(simp only [RZ]<;>omega)) _|assumption|exact Sh.eR _|refine Sh.eA ?_ _|refine Sh.eD ?_|refine Sh.eT ?_ (by assumption))|exact Sh.eR _)))) (rM.ext (ex.trans (by repeat (first|(with_reducible first|refine Sh.eB ?_ (by first|omega|(simp only [RZ]<;>omega)) _|assumption|exact Sh.eR _|refine Sh.eA ?_ _|refine Sh.eD ?_|refine Sh.eT ?_ (by assumption))|exact Sh.eR _)))) (by first|omega|(simp only [RZ];omega)) _ (fun w2 Y2 D2 f2 v2 sl2 a2 p2 x2 hc2=> ?_) hT1
   have hT2:Y2.tb 0=T:=by rw [a2.tb];exact hT1
   have hQ2:Y2.d=Q:=a2.d.trans hQ1
   have ek:(j:Int)+1=((j+1:Nat):Int):=by omega
   simp (disch:=first|omega|simp only [RO]|(simp only [RZ]<;>omega)|fail) only [↓RBp,↓RA,↓reduceIte,Nat.reduceAdd,Nat.reduceMul,Nat.reduceEqDiff,RB,RX,RA2,ek]
   apply hE
   ·exact ⟨j+1,Y2,D2,f2,sl2,rfl,by omega,p2,hT2,hQ2,by omega,hc2 hc1⟩
   ·simp [Go.RowKit.intOf];omega
  ·have:j=al.length:=by omega
   subst this
   unfold f5_l1_t
   simp (disch:=first|omega|simp only [RO]|(simp only [RZ]<;>omega)|fail) only [↓RBp,↓RA,↓reduceIte,Nat.reduceAdd,Nat.reduceMul,Nat.reduceEqDiff,RB,RX,RA2]
   exact lr_k1 p1 hT1 hQ1 (by omega) hc1 hus hu8 hul K hK
theorem bg_cln (n:Nat) (h0:0<n) (h5:n≤5):Cln (bgD n).co:=fmt_cln (On.zero (32*n+5)) (Good.zero (32*n+5) (by omega) (by omega)) (show 3+32*n≤32*n+5 by omega) (cln_zero _) n (Nat.le_refl _)
theorem law_reopens (hG:Glob w) {nn:Nat} (hnn:nn<256) {va:Value} {al:List ActD} (hal:ActsR7 w.heap.size w va al) (hok:∀x∈al,actOk7 x) (hln:al.length≤maxLen) {xu:Value} {us:List Nat} (hus:RdS w.heap.size w xu (u8L us)) (hu8:∀x∈us,x<256) (hul:us.length≤maxLen) (K:K1) (hK:∀w',Ext w w'→K (.bool true) w'):
  callS Tryz.prog 5 #[.int .u8 (nn:Int),va,xu] w K:=by
 have hal0:=hal
 obtain ⟨aa,ac,rfl,_⟩:=hal
 have hus0:=hus
 obtain ⟨ua,uc,rfl,_⟩:=hus
 rw [show (u8L us).length=us.length by simp] at hus0 ⊢
 have hlm:al.length<9223372036854775808:=by unfold maxLen at hln;omega
 have hlu:us.length<9223372036854775808:=by unfold maxLen at hul;omega
 refine f5_call _ _ _ _ _ ?_
 unfold f5_t
 refine k_awake22 hG _ (fun w1 e1=> ?_)
 by_cases h20:20<al.length
 ·simp (disch:=first|omega|simp only [RO]|(simp only [RZ]<;>omega)|fail) only [↓RBp,↓RA,↓reduceIte,Nat.reduceAdd,Nat.reduceMul,Nat.reduceEqDiff,RB,RX,RA2]
  refine k_awake22 (hG.ext e1) _ (fun w2 e2=> ?_)
  exact hK _ (e1.trans e2)
 ·by_cases h21:20<us.length
  ·simp (disch:=first|omega|simp only [RO]|(simp only [RZ]<;>omega)|fail) only [↓RBp,↓RA,↓reduceIte,Nat.reduceAdd,Nat.reduceMul,Nat.reduceEqDiff,RB,RX,RA2]
   refine k_awake22 (hG.ext e1) _ (fun w2 e2=> ?_)
   exact hK _ (e1.trans e2)
  ·obtain ⟨k,hk⟩:∃k,1+nn%4=k:=⟨_,rfl⟩
   have ek:(1:Int)+((nn%4:Nat):Int)=(k:Int):=by omega
   have ek2:(1:Int)+(nn:Int)%4=(k:Int):=by omega
   obtain ⟨hb,hbn,hbx,hbw⟩:=bg_ok (n:=k) (by omega) (by omega)
   have hcl:=bg_cln k (by omega) (by omega)
   simp (disch:=first|omega|simp only [RO]|(simp only [RZ]<;>omega)|fail) only [↓RBp,↓RA,↓reduceIte,Nat.reduceAdd,Nat.reduceMul,Nat.reduceEqDiff,RB,RX,RA2,ek,ek2]
   refine k_begin22 (n:=k) (hG.ext e1) (by omega) (by omega) _ (fun w2 Y S b o cp hS=> ?_)
   have hP:∀x,PF Y b x→x<w2.heap.size:=fun x hx=>by
    rcases hx with hx|hx
    ·exact hS.L.dv.lt hx
    ·have:=hS.ltb;omega
   simp (disch:=first|omega|simp only [RO]|(simp only [RZ]<;>omega)|fail) only [↓RBp,↓RA,↓reduceIte,Nat.reduceAdd,Nat.reduceMul,Nat.reduceEqDiff,RB,RX,RA2,ek,ek2]
   refine k_rFormat22 hP (by omega) (by omega) _ (fun v sl w3 e3 m3=> ?_)
   have p:PlA w1 w3 Y (bgD k) S b o cp k bgF v sl:=⟨hS.ext e3,hb,m3.congr (fun j hj i hi=>(hbw j hj i hi).symm) (fun _ _=>rfl),by omega⟩
   have hal1:ActsR7 w.heap.size w1 (.slice aa al.length ac) al:=hal0.ext e1
   simp (disch:=first|omega|simp only [RO]|(simp only [RZ]<;>omega)|fail) only [↓RBp,↓RA,↓reduceIte,Nat.reduceAdd,Nat.reduceMul,Nat.reduceEqDiff,RB,RX,RA2,ek,ek2]
   exact lr_l1 p rfl rfl (by omega) hcl hal1 e1.size hok (by omega) (hus0.ext e1) hu8 (by omega) K (fun w' e'=>hK _ (e1.trans e'))
end
end Go.Proofs.YtifpinhjpbgnoaaGreatDoor
