/-
  Part of the proof in YtifpinhjpbgnoaaGreatDoorBsRowAc.
-/
import Derived.Test.YtifpinhjpbgnoaaGreatDoorBs4
import Derived.Test.YtifpinhjpbgnoaaGreatDoorBs5
import Derived.Test.YtifpinhjpbgnoaaGreatDoorBs1
import Derived.Test.YtifpinhjpbgnoaaGreatDoorBs6
set_option linter.unusedSimpArgs false
set_option linter.unusedVariables false
set_option maxHeartbeats 8000000
set_option maxRecDepth 100000
open Go.Proofs.Tryz (prog)
open Go.RowKit (intOf)
namespace Go.Proofs.YtifpinhjpbgnoaaGreatDoor
open Go Go.Sh
def okP (x:Nat):Bool:=goodB (gX x) (kX x) (sX x)&&isS x
structure Wm (w:World) (b o:Nat) (W:Nat→Nat):Prop where
 cell:∀{i:Nat},i<256→w.cell? ⟨b,o+i,none⟩=some (u64 (W i))
 frz:∀i,w.frozen? ⟨b,i,none⟩=false
abbrev wsV (b o cap:Nat):Value:= .slice (some ⟨b,o,none⟩) 256 cap
def isR (W:Nat→Nat) (c i:Int) (s:Nat):Bool:=decide (0≤i∧i<perS c)&&(okP (W (offN c i.toNat))&&(decide (sX (W (offN c i.toNat))=s)&&(bitB (W 1) i.toNat== !decide (s=176))))
section
variable {w w':World} {W:Nat→Nat} {b ob cap:Nat} {c:Int}
theorem c_rParts (x:Nat) (w:World) (K:K1) (hx:x<18446744073709551616):callS prog 129 #[.int .u64 (x:Int)] w K=K (.tuple #[.int .u16 (gX x:Int),.int .u8 (kX x:Int),.int .u32 (sX x:Int),.bool (okP x)]) w:=by
 refine callS_det (by kernel_rfl) (f129_call _ _ _ ?_) K
 unfold f129_t
 have h1:gX x<65536:=by unfold gX;omega
 have h2:kX x<256:=by unfold kX;omega
 have h3:sX x<256:=by unfold sX;omega
 have e1:x%65536=gX x:=rfl
 have e2:x/2^16%256=kX x:=rfl
 have e3:x%4294967296/2^24=sX x:=by unfold sX;omega
 have hs:=c_rSealed x w
 unfold okP
 generalize gX x=gg at*
 generalize kX x=kk at*
 generalize sX x=ss at*
 by_cases s0:ss=176
 ·subst s0
  by_cases g0:1≤gg
  ·by_cases k0:kk=0
   ·subst k0
    have e:goodB gg 0 176=true:=by simp [goodB];omega
    simp (disch:=first|omega|simp only [RO]|(simp only [RZ]<;>omega)|fail) only [↓RBp,↓RA,↓reduceIte,Nat.reduceAdd,Nat.reduceMul,Nat.reduceEqDiff,RB,RX,RA2,e1,e2,e3,e,c_rSealed,Bool.true_and]
   ·have e:goodB gg kk 176=false:=by simp [goodB];omega
    simp (disch:=first|omega|simp only [RO]|(simp only [RZ]<;>omega)|fail) only [↓RBp,↓RA,↓reduceIte,Nat.reduceAdd,Nat.reduceMul,Nat.reduceEqDiff,RB,RX,RA2,e1,e2,e3,e,k0,Bool.false_and]
  ·have e:goodB gg kk 176=false:=by simp [goodB];omega
   simp (disch:=first|omega|simp only [RO]|(simp only [RZ]<;>omega)|fail) only [↓RBp,↓RA,↓reduceIte,Nat.reduceAdd,Nat.reduceMul,Nat.reduceEqDiff,RB,RX,RA2,e1,e2,e3,e,Bool.false_and]
 ·by_cases s1:ss=177
  ·subst s1
   by_cases g0:1≤gg
   ·by_cases k0:1≤kk
    ·by_cases k1:kk≤127
     ·have e:goodB gg kk 177=true:=by simp [goodB];omega
      simp (disch:=first|omega|simp only [RO]|(simp only [RZ]<;>omega)|fail) only [↓RBp,↓RA,↓reduceIte,Nat.reduceAdd,Nat.reduceMul,Nat.reduceEqDiff,RB,RX,RA2,e1,e2,e3,e,c_rSealed,Bool.true_and]
     ·have e:goodB gg kk 177=false:=by simp [goodB];omega
      simp (disch:=first|omega|simp only [RO]|(simp only [RZ]<;>omega)|fail) only [↓RBp,↓RA,↓reduceIte,Nat.reduceAdd,Nat.reduceMul,Nat.reduceEqDiff,RB,RX,RA2,e1,e2,e3,e,Bool.false_and]
    ·have e:goodB gg kk 177=false:=by simp [goodB];omega
     simp (disch:=first|omega|simp only [RO]|(simp only [RZ]<;>omega)|fail) only [↓RBp,↓RA,↓reduceIte,Nat.reduceAdd,Nat.reduceMul,Nat.reduceEqDiff,RB,RX,RA2,e1,e2,e3,e,Bool.false_and]
   ·have e:goodB gg kk 177=false:=by simp [goodB];omega
    simp (disch:=first|omega|simp only [RO]|(simp only [RZ]<;>omega)|fail) only [↓RBp,↓RA,↓reduceIte,Nat.reduceAdd,Nat.reduceMul,Nat.reduceEqDiff,RB,RX,RA2,e1,e2,e3,e,Bool.false_and]
  ·by_cases s2:ss=178
   ·subst s2
    by_cases g0:gg=65535
    ·subst g0
     by_cases k0:kk=0
     ·subst k0
      have e:goodB 65535 0 178=true:=by decide
      simp (disch:=first|omega|simp only [RO]|(simp only [RZ]<;>omega)|fail) only [↓RBp,↓RA,↓reduceIte,Nat.reduceAdd,Nat.reduceMul,Nat.reduceEqDiff,RB,RX,RA2,e1,e2,e3,e,c_rSealed,Bool.true_and]
     ·have e:goodB 65535 kk 178=false:=by simp [goodB,k0]
      simp (disch:=first|omega|simp only [RO]|(simp only [RZ]<;>omega)|fail) only [↓RBp,↓RA,↓reduceIte,Nat.reduceAdd,Nat.reduceMul,Nat.reduceEqDiff,RB,RX,RA2,e1,e2,e3,e,k0,Bool.false_and]
    ·have e:goodB gg kk 178=false:=by simp [goodB,g0]
     simp (disch:=first|omega|simp only [RO]|(simp only [RZ]<;>omega)|fail) only [↓RBp,↓RA,↓reduceIte,Nat.reduceAdd,Nat.reduceMul,Nat.reduceEqDiff,RB,RX,RA2,e1,e2,e3,e,g0,Bool.false_and]
   ·have e:goodB gg kk ss=false:=by simp [goodB,s0,s1,s2]
    simp (disch:=first|omega|simp only [RO]|(simp only [RZ]<;>omega)|fail) only [↓RBp,↓RA,↓reduceIte,Nat.reduceAdd,Nat.reduceMul,Nat.reduceEqDiff,RB,RX,RA2,e1,e2,e3,e,s0,s1,s2,Bool.false_and]
theorem c_rBit (h:Wm w b ob W) (h1:W 1<18446744073709551616) (i:Nat) (hi:i<64) (K:K1):callS prog 130 #[wsV b ob cap,.int .i64 (i:Int)] w K=K (.bool (bitB (W 1) i)) w:=by
 refine callS_det (by kernel_rfl) (f130_call _ _ _ _ ?_) K
 unfold f130_t
 have hc:=h.cell (i:=1) (by omega)
 have hdv:W 1/2^i<18446744073709551616:=Nat.lt_of_le_of_lt (Nat.div_le_self _ _) h1
 have hbit:decide (W 1/2^i&&&1=1)=bitB (W 1) i:=by unfold bitB;simp only [Nat.and_one_is_mod]
 simp (disch:=first|omega|simp only [RO]|(simp only [RZ]<;>omega)|fail) only [↓RBp,↓RA,↓reduceIte,Nat.reduceAdd,Nat.reduceMul,Nat.reduceEqDiff,RB,RX,RA2,hc,Int.reduceToNat,Int.toNat_natCast,hbit]
theorem c_rIs (h:Wm w b ob W) (hW:∀j,j<256→W j<18446744073709551616) (c0:0≤c) (c5:c<5) (i:Int) (s:Nat) (K:K1):callS prog 123 #[wsV b ob cap,.int .i64 c,.int .i64 i,.int .u32 (s:Int)] w K=K (.bool (isR W c i s)) w:=by
 refine callS_det (by kernel_rfl) (f123_call _ _ _ _ _ _ ?_) K
 unfold f123_t isR
 have hp:=perS_in c0 c5
 by_cases hi:0≤i∧i<perS c
 ·obtain ⟨j,rfl⟩:∃j:Nat,i=(j:Int):=⟨i.toNat,by omega⟩
  have bd:=offN_bd c0 c5 hi.2
  have hx:=hW _ bd.2.2
  have hcx:=h.cell bd.2.2
  have ro:∀(K:K1),callS prog 116 #[.int .i64 c,.int .i64 (j:Int)] w K=K (.int .i64 (offN c j:Int)) w:=fun K=>by rw [c_rOff c j w K (by omega) (by omega),bd.1]
  have rb:∀(K:K1),callS prog 130 #[wsV b ob cap,.int .i64 (j:Int)] w K=K (.bool (bitB (W 1) j)) w:=fun K=>c_rBit h (hW 1 (by omega)) j (by omega) K
  rw [decide_eq_true hi,Int.toNat_natCast,Bool.true_and]
  generalize offN c j=q at*
  generalize hxx:W q=x at*
  have hs3:sX x<256:=by unfold sX;omega
  cases ho:okP x with
  |false=>
   rw [Bool.false_and]
   simp (disch:=first|omega|simp only [RO]|(simp only [RZ]<;>omega)|fail) only [↓RBp,↓RA,↓reduceIte,Nat.reduceAdd,Nat.reduceMul,Nat.reduceEqDiff,RB,RX,RA2,c_rPer,ro,hcx,hxx,c_rParts,ho]
  |true=>
   rw [Bool.true_and]
   by_cases hs:sX x=s
   ·subst hs
    rw [decide_eq_true rfl,Bool.true_and]
    by_cases s0:sX x=176
    ·rw [decide_eq_true s0]
     cases hb:bitB (W 1) j with
     |true=>
      rw [hb] at rb
      simp (disch:=first|omega|simp only [RO]|(simp only [RZ]<;>omega)|fail) only [↓RBp,↓RA,↓reduceIte,Nat.reduceAdd,Nat.reduceMul,Nat.reduceEqDiff,RB,RX,RA2,c_rPer,ro,hcx,hxx,c_rParts,ho,rb,s0]
     |false=>
      rw [hb] at rb
      simp (disch:=first|omega|simp only [RO]|(simp only [RZ]<;>omega)|fail) only [↓RBp,↓RA,↓reduceIte,Nat.reduceAdd,Nat.reduceMul,Nat.reduceEqDiff,RB,RX,RA2,c_rPer,ro,hcx,hxx,c_rParts,ho,rb,s0]
    ·rw [decide_eq_false s0]
     cases hb:bitB (W 1) j with
     |true=>
      rw [hb] at rb
      simp (disch:=first|omega|simp only [RO]|(simp only [RZ]<;>omega)|fail) only [↓RBp,↓RA,↓reduceIte,Nat.reduceAdd,Nat.reduceMul,Nat.reduceEqDiff,RB,RX,RA2,c_rPer,ro,hcx,hxx,c_rParts,ho,rb,s0]
     |false=>
      rw [hb] at rb
      simp (disch:=first|omega|simp only [RO]|(simp only [RZ]<;>omega)|fail) only [↓RBp,↓RA,↓reduceIte,Nat.reduceAdd,Nat.reduceMul,Nat.reduceEqDiff,RB,RX,RA2,c_rPer,ro,hcx,hxx,c_rParts,ho,rb,s0]
   ·rw [decide_eq_false hs,Bool.false_and]
    simp (disch:=first|omega|simp only [RO]|(simp only [RZ]<;>omega)|fail) only [↓RBp,↓RA,↓reduceIte,Nat.reduceAdd,Nat.reduceMul,Nat.reduceEqDiff,RB,RX,RA2,c_rPer,ro,hcx,hxx,c_rParts,ho,hs]
 ·rw [decide_eq_false hi,Bool.false_and]
  by_cases h0:i<0
  ·simp (disch:=first|omega|simp only [RO]|(simp only [RZ]<;>omega)|fail) only [↓RBp,↓RA,↓reduceIte,Nat.reduceAdd,Nat.reduceMul,Nat.reduceEqDiff,RB,RX,RA2,c_rPer]
  ·simp (disch:=first|omega|simp only [RO]|(simp only [RZ]<;>omega)|fail) only [↓RBp,↓RA,↓reduceIte,Nat.reduceAdd,Nat.reduceMul,Nat.reduceEqDiff,RB,RX,RA2,c_rPer]
end
def ActsR (m:Nat) (w:World) (v:Value) (al:List (List Int×List Nat×List Int)):Prop:=∃a cap,v= .slice a al.length cap∧∀j x,al[j]? =some x→∃b o s1 s2 s3,a=some ⟨b,o,none⟩∧b<m∧w.cell? ⟨b,o+j*3,none⟩=some s1∧w.cell? ⟨b,o+j*3+1,none⟩=some s2∧w.cell? ⟨b,o+j*3+2,none⟩=some s3∧RdS m w s1 (i64L x.1)∧RdS m w s2 (u8L x.2.1)∧RdS m w s3 (i64L x.2.2)
section
variable {w w':World} {Y:Lay} {D:DS} {l m:Nat} {v:Value} {al:List (List Int×List Nat×List Int)}
theorem ActsR.ext (h:ActsR m w v al) (e:Ext w w'):ActsR m w' v al:=by
 obtain ⟨a,cap,hv,h⟩:=h
 refine ⟨a,cap,hv,fun j x hx=> ?_⟩
 obtain ⟨b,o,s1,s2,s3,ha,hb,c1,c2,c3,r1,r2,r3⟩:=h j x hx
 exact ⟨b,o,s1,s2,s3,ha,hb,e.cell_some c1,e.cell_some c2,e.cell_some c3,r1.ext e,r2.ext e,r3.ext e⟩
theorem elU64:ElT prog 39 39 30 1 8 (.int .u64 0):=el_39_39
def wdL (W:Nat→Nat) (n:Nat):List Value:=(List.range n).map fun j=>u64 (W j)
theorem wdL_snoc (W:Nat→Nat) (n:Nat):wdL W (n+1)=wdL W n++ [u64 (W n)]:=by simp [wdL,List.range_succ]
theorem wdL_get {W:Nat→Nat} {n j:Nat} (h:j<n):(wdL W n)[j]? =some (u64 (W j)):=by simp [wdL,h]
theorem Wm.of_sl {W:Nat→Nat} {b o n cap:Nat} (h:SlO w 30 1 (.slice (some ⟨b,o,none⟩) n cap) 256 (wdL W 256)):Wm w b o W:=⟨fun hi=>h.cell rfl (wdL_get hi),fun i=>h.frz rfl i⟩
end
section
variable {w0 w w':World} {Y Y':Lay} {D D':DS} {B l k:Nat} {c o:Int} {g:Nat} {K:K1} {E1:VP1}
theorem Wm.ext {b ob:Nat} {W:Nat→Nat} (h:Wm w b ob W) (e:Ext w w'):Wm w' b ob W:=⟨fun hi=>e.cell_some (h.cell hi),fun i=>by
 have hc:=h.cell (i:=0) (by omega)
 have hlt:=lt_of_cell hc
 have:=h.frz i
 unfold World.frozen? at this ⊢
 simp only at this ⊢
 rw [e.blk b hlt];exact this⟩
theorem Loc.base {wI:World} (h:Loc w0 w Y D B l c o g) (e:Ext wI w0) (hG:Glob wI):Loc wI w Y D B l c o g:=⟨⟨h.L.dv,h.L.gd,e.trans h.L.ex,fun x hx=>Nat.le_trans e.size (h.L.nw x hx)⟩,h.bx,h.nb,h.on,h.lt,hG,h.c0,h.c5⟩
theorem Snd.parts (h:Snd D l c o) {k:Nat} (hk:(k:Int)<perS c):okP (wd D l (offN c k))=true∧bG (wd D l (offN c k))=gX (wd D l (offN c k))∧bK (wd D l (offN c k))=kX (wd D l (offN c k))∧bS (wd D l (offN c k))=sX (wd D l (offN c k)):=by
 have h1:=h.sl k hk
 have h2:=h.gd k hk
 have e1:bG (wd D l (offN c k))=gX (wd D l (offN c k)):=by unfold bG;rw [if_pos h1]
 have e2:bK (wd D l (offN c k))=kX (wd D l (offN c k)):=by unfold bK;rw [if_pos h1]
 have e3:bS (wd D l (offN c k))=sX (wd D l (offN c k)):=by unfold bS;rw [if_pos h1]
 refine ⟨?_,e1,e2,e3⟩
 rw [e1,e2,e3] at h2
 unfold okP;rw [h1,h2];rfl
theorem Snd.isR (h:Snd D l c o) (hp:perS c≤64) {k:Nat} (hk:(k:Int)<perS c):isR (wd D l) c (k:Int) 177=decide (bS (wd D l (offN c k))=177):=by
 obtain ⟨p1,p2,p3,p4⟩:=h.parts hk
 have hb:=h.bit k (by omega)
 unfold Go.Proofs.YtifpinhjpbgnoaaGreatDoor.isR
 rw [decide_eq_true (show 0≤(k:Int)∧(k:Int)<perS c from ⟨by omega,hk⟩),Int.toNat_natCast,p1,←p4,hb,decide_eq_true hk]
 by_cases hs:bS (wd D l (offN c k))=177
 ·simp [hs]
 ·simp [hs]
end
section
variable {w w':World} {D:DS} {l bw ow cw:Nat} {c o:Int}
theorem isR_in {W:Nat→Nat} {i s:Nat} (hi:(i:Int)<perS c):isR W c (i:Int) s=(okP (W (offN c i))&&(decide (sX (W (offN c i))=s)&&(bitB (W 1) i== !decide (s=176)))):=by
 unfold isR
 rw [decide_eq_true (show 0≤(i:Int)∧(i:Int)<perS c from ⟨by omega,hi⟩),Int.toNat_natCast,Bool.true_and]
theorem isR_tk (h:Snd D l c o) {i:Nat} (hi:(i:Int)<perS c):isR (wd D l) c (i:Int) 176=tkOk D l c i:=by
 rw [isR_in hi]
 have hp:=h.parts hi
 have s1:=h.sl i hi
 have s2:=h.gd i hi
 unfold tkOk
 rw [hp.1,s1,s2,hp.2.2.2]
 cases bitB (wd D l 1) i<;>cases decide (sX (wd D l (offN c i))=176)<;>rfl
end
theorem SlO.upd {w:World} {t:TypeId} {b o n cap:Nat} {L:List Value} (h:SlO w t 1 (.slice (some ⟨b,o,none⟩) n cap) n L) {i:Nat} (u:Value) (hi:i<n):SlO (w.setCell ⟨b,o+i,none⟩ u) t 1 (.slice (some ⟨b,o,none⟩) n cap) n (L.set i u):=by
 obtain ⟨hl,h|⟨b',o',cap',a,hv,hh,hnc,hcm,hsz,hg⟩⟩:=h
 ·cases h.1
 ·injection hv with hv h2 h3
  injection hv with hv
  injection hv with h4 h5 _
  subst h4;subst h5;subst h3
  have hC:Cells w b t a.size (fun j=>(a[j]?).getD undef):=⟨a,hh,Nat.le_refl _,fun j hj=>by simp only [Array.getElem?_eq_getElem hj,Option.getD_some]⟩
  have hC2:=hC.set (i:=o+i) u (by omega)
  obtain ⟨a',hh',hs',hg'⟩:=hC2
  refine ⟨by rw [List.length_set];exact hl,.inr ⟨b,o,cap,a',rfl,hh',hnc,hcm,by omega,fun j x hj=> ?_⟩⟩
  have hjn:j<n:=by
   have:=(List.getElem?_eq_some_iff.1 hj).1
   rw [List.length_set] at this;omega
  rw [hg' (o+j) (by omega)]
  simp only
  rw [List.getElem?_set] at hj
  by_cases e:i=j
  ·subst e
   rw [if_pos rfl,if_pos (by omega)] at hj
   rw [if_pos rfl];exact hj
  ·rw [if_neg e] at hj
   rw [if_neg (by omega),hg j x hj,Option.getD_some]
theorem wdL_set (W:Nat→Nat) (n i x:Nat):(wdL W n).set i (u64 x)=wdL (fun j=>if j=i then x else W j) n:=by
 apply List.ext_getElem?
 intro j
 rw [List.getElem?_set]
 by_cases hj:j<n
 ·rw [wdL_get hj]
  by_cases e:i=j
  ·subst e
   rw [if_pos rfl,if_pos (by simpa [wdL] using hj),wdL_get hj,if_pos rfl]
  ·rw [if_neg e,wdL_get hj,if_neg (fun h=>e h.symm)]
 ·have h1:(wdL W n)[j]? =none:=List.getElem?_eq_none (by simp [wdL];omega)
  have h2:(wdL (fun j=>if j=i then x else W j) n)[j]? =none:=List.getElem?_eq_none (by simp [wdL];omega)
  rw [h2]
  by_cases e:i=j
  ·subst e
   rw [if_pos rfl,if_neg (by simp [wdL];omega)]
  ·rw [if_neg e,h1]
section
variable {w w':World} {D:DS} {l bw ow cw:Nat} {c o:Int}
theorem wdL_congr {W V:Nat→Nat} {n:Nat} (h:∀i,i<n→W i=V i):wdL W n=wdL V n:=by
 unfold wdL
 rw [List.map_inj_left]
 intro i hi
 rw [h i (List.mem_range.1 hi)]
theorem isR_ok (h:Snd D l c o) {i:Nat} (hi:(i:Int)<perS c):isR (wd D l) c (i:Int) 176=okF D l c i:=by
 rw [isR_tk h hi]
 have s1:=h.sl i hi
 have s2:=h.gd i hi
 have s3:=good_g s2
 unfold tkOk okF
 rw [s1,s2,decide_eq_false s3];simp
theorem k_rNext (hW:Wm w bw ow (wd D l)) (hWl:∀j,j<256→wd D l j<18446744073709551616) (hs:Snd D l c o) (c0:0≤c) (c5:c<5) (K:K1) (hK:∀w',Ext w w'→K (.tuple #[.int .u16 ((if alF D l c (perS c).toNat=true then mxG D l c (perS c).toNat else 0:Nat):Int),.bool (alF D l c (perS c).toNat)]) w'):
  callS prog 113 #[wsV bw ow cw,.int .i64 c] w K:=by
 have hp:=perS_in c0 c5
 obtain ⟨n,hn⟩:∃n:Nat,perS c=(n:Int):=⟨(perS c).toNat,by omega⟩
 have hrp:=c_rPer c
 rw [hn] at hrp
 rw [hn,Int.toNat_natCast] at hK
 refine f113_call _ _ _ _ ?_
 unfold f113_t
 apply f113_l1_rule (I:=fun x z w'=>∃i:Nat,z= .int .i64 (i:Int)∧i≤n∧x= .int .u16 ((mxG D l c i:Nat):Int)∧alF D l c i=true∧Ext w w') (μ:=fun _ z _=>n-(intOf z).toNat)
 ·exact ⟨0,rfl,by omega,rfl,rfl,Ext.refl _⟩
 ·intros;rename_i w1 hI E1 hE
  obtain ⟨i,rfl,hi,rfl,hal,e1⟩:=hI
  by_cases hin:i<n
  ·have hper:(i:Int)<perS c:=by omega
   have bd:=offN_bd c0 c5 hper
   have ris:∀(w5:World) (K:K1),Ext w w5→callS prog 123 #[wsV bw ow cw,.int .i64 c,.int .i64 (i:Int),.int .u32 ((176:Nat):Int)] w5 K=K (.bool (okF D l c i)) w5:=fun w5 K e=>by rw [c_rIs (hW.ext e) hWl c0 c5 i 176 K,isR_ok hs hper]
   have hro:∀(w:World) (K:K1),callS prog 116 #[.int .i64 c,.int .i64 (i:Int)] w K=K (.int .i64 (offN c i:Int)) w:=fun w K=>by rw [c_rOff c i w K (by omega) (by omega),bd.1]
   have cx:=e1.cell_some (hW.cell bd.2.2)
   have hxl:=hWl _ bd.2.2
   have hpt:=(hs.parts hper).2.1
   have hgx:wd D l (offN c i)%65536=bG (wd D l (offN c i)):=by rw [hpt];rfl
   cases ht:okF D l c i with
   |true=>
    rw [ht] at ris
    unfold f113_l1_t
    simp (disch:=first|omega|simp only [RO]|(simp only [RZ]<;>omega)|(with_reducible (repeat (first|assumption|exact Ext.refl _|refine Ext.alloc ?_ _|refine Ext.drew ?_|refine Ext.trans ?_ (by assumption))))|fail) only [↓RBp,↓RA,↓reduceIte,Nat.reduceAdd,Nat.reduceMul,Nat.reduceEqDiff,RB,RX,RA2,hrp,ris,hro,cx,hgx]
    apply hE
    ·refine ⟨i+1,by simp,by omega,?_,by simp [alF,hal,ht],e1⟩
     simp only [mxG]
     split<;>split<;>first|rfl|omega
    ·simp [intOf];omega
   |false=>
    rw [ht] at ris
    have:=fun w' e=>hK w' e
    rw [alF_no hin ht] at this
    unfold f113_l1_t
    simp (disch:=first|omega|simp only [RO]|(simp only [RZ]<;>omega)|(with_reducible (repeat (first|assumption|exact Ext.refl _|refine Ext.alloc ?_ _|refine Ext.drew ?_|refine Ext.trans ?_ (by assumption))))|fail) only [↓RBp,↓RA,↓reduceIte,Nat.reduceAdd,Nat.reduceMul,Nat.reduceEqDiff,RB,RX,RA2,hrp,ris]
    exact this _ e1
  ·have:i=n:=by omega
   subst this
   rw [hal,if_pos rfl] at hK
   unfold f113_l1_t
   simp (disch:=first|omega|simp only [RO]|(simp only [RZ]<;>omega)|fail) only [↓RBp,↓RA,↓reduceIte,Nat.reduceAdd,Nat.reduceMul,Nat.reduceEqDiff,RB,RX,RA2,hrp,f113_k1_eq,f113_k1_t]
   exact hK _ e1
theorem isB_iff (c:Int) (j:Nat):isB c j=true↔∃i,i<(perS c).toNat∧offN c i=j:=by
 unfold isB
 rw [List.any_eq_true]
 constructor
 ·intro ⟨i,h1,h2⟩;exact ⟨i,List.mem_range.1 h1,by simpa using h2⟩
 ·intro ⟨i,h1,h2⟩;exact ⟨i,List.mem_range.2 h1,by simpa using h2⟩
end
section
variable {w w':World} {D:DS} {l bw ow cw:Nat} {c o:Int}
theorem k_rFormatW {g:Nat} {v:Value} {U:Nat→Nat} (hv:SlO w 30 1 v 256 (wdL U 256)) (c0:0≤c) (c5:c<5) (o0:0≤o) (o8:o<8) (hg:g<65536) (K:K1)
  (hK:∀b ow cap w',Ext w w'→w.heap.size≤b→SlO w' 30 1 (wsV b ow cap) 256 (wdL (planF c o g U) 256)→K (wsV b ow cap) w'):
  callS prog 91 #[v,.agg #[.int .i64 c,.int .i64 o,.int .u16 (g:Int)]] w K:=by
 have hp:=perS_in c0 c5
 obtain ⟨n,hn⟩:∃n:Nat,perS c=(n:Int):=⟨(perS c).toNat,by omega⟩
 have hrp:=c_rPer c
 rw [hn] at hrp
 obtain ⟨xb,xo,xc,rfl,hxc⟩:=hv.isS (by omega)
 refine f91_call _ _ _ _ ?_
 unfold f91_t
 simp (disch:=first|omega|simp only [RO]|(simp only [RZ]<;>omega)|fail) only [↓RBp,↓RA,↓reduceIte,Nat.reduceAdd,Nat.reduceMul,Nat.reduceEqDiff,RB,RX,RA2]
 have ea:Ext w (w.alloc (rhO c o g)):=Ext.alloc_self _ _
 have lz:(wdL U 256).length=256:=by simp [wdL]
 refine app_new elU64 (w0:=w.alloc (rhO c o g)) (SlO.nil _ _ _) (Frm.refl _ _) (fun b hb=>by cases hb) (m:=256) (news:=wdL U 256) (by rw [lz]) (fun j u hj=>(hv.ext ea).cell rfl hj) (by kernel_rfl) (by omega) (by omega) (by omega) (fun v1 w1 s1 f1 n1 _ _=> ?_)
 rw [Nat.zero_add,List.nil_append] at s1
 have e1:Ext (w.alloc (rhO c o g)) w1:=f1.to_ext (fun _ _ h=>h)
 have rhc:=Cells.new w [Value.int .i64 c,.int .i64 o,.int .u16 (g:Int)] 36
 obtain ⟨b,ob,cap,rfl,hbc⟩:=s1.isS (by omega)
 have hb1:=n1 b rfl
 have hbw:w.heap.size≤b:=Nat.le_trans ea.size hb1
 have hbn:w.heap.size<b:=by simp only [RZ] at hb1;omega
 have hs0:=sealN_lt (blkX g 0 176) (blkX_lt hg (by omega) (by omega))
 have hd0:=sealN_lt (hdX c o g) (hdX_lt (by omega) c5 (by omega) o8 hg)
 apply f91_l1_rule (I:=fun z w'=>∃k:Nat,z= .int .i64 (k:Int)∧1≤k∧k≤8∧Ext (w.alloc (rhO c o g)) w'∧SlO w' 30 1 (wsV b ob cap) 256 (wdL (fun j=>if j≠0∧j<k then 0 else U j) 256)) (μ:=fun z _=>8-(intOf z).toNat)
 ·exact ⟨1,rfl,by omega,by omega,e1,by rw [wdL_congr (V:=U) (fun i _=>if_neg (by omega))];exact s1⟩
 ·intros;rename_i w2 hI E1 hE
  obtain ⟨k,rfl,hk1,hk8,e2,s2⟩:=hI
  by_cases hk:k<8
  ·have hup:=SlO.upd s2 (u64 0) (i:=k) (by omega)
   rw [wdL_set] at hup
   have hfz:=fun i=>s2.frz (b:=b) rfl i
   have hc:=s2.cell rfl (wdL_get (W:=fun j=>if j≠0∧j<k then 0 else U j) (n:=256) (j:=k) (by omega))
   have hlt:=lt_of_cell hc
   unfold f91_l1_t
   simp (disch:=first|omega|simp only [RO]|(simp only [RZ]<;>omega)|fail) only [↓RBp,↓RA,↓reduceIte,Nat.reduceAdd,Nat.reduceMul,Nat.reduceEqDiff,RB,RX,RA2,hfz,hc,Int.toNat_natCast]
   apply hE
   ·refine ⟨k+1,by simp,by omega,by omega,(by repeat (first|(with_reducible first|refine Sh.eB ?_ _|assumption|exact Sh.eR _|refine Sh.eA ?_ _|refine Sh.eD ?_|refine Sh.eT ?_ (by assumption))|exact Sh.eR _)),?_⟩
    rw [wdL_congr (V:=fun j=>if j≠0∧j<k+1 then 0 else U j) (fun i _=>by
     by_cases e:i=k
     ·rw [if_pos e,if_pos (by omega)]
     ·rw [if_neg e]
      by_cases e2:i≠0∧i<k
      ·rw [if_pos e2,if_pos (by omega)]
      ·rw [if_neg e2,if_neg (by omega)])] at hup
    exact hup
   ·simp [intOf];omega
  ·have hk8:k=8:=by omega
   subst hk8
   unfold f91_l1_t
   simp (disch:=first|omega|simp only [RO]|(simp only [RZ]<;>omega)|fail) only [↓RBp,↓RA,↓reduceIte,Nat.reduceAdd,Nat.reduceMul,Nat.reduceEqDiff,RB,RX,RA2,f91_k1_eq,f91_k1_t]
   apply f91_l2_rule (I:=fun z w'=>∃(k:Nat) (W:Nat→Nat),z= .int .i64 (k:Int)∧k≤n∧Ext (w.alloc (rhO c o g)) w'∧SlO w' 30 1 (wsV b ob cap) 256 (wdL W 256)∧∀j,((∃i,i<k∧offN c i=j)→W j=sealN (blkX g 0 176))∧((¬∃i,i<k∧offN c i=j)→W j=if j≠0∧j<8 then 0 else U j)) (μ:=fun z _=>n-(intOf z).toNat)
   ·exact ⟨0,fun j=>if j≠0∧j<8 then 0 else U j,rfl,by omega,e2,s2,fun j=>⟨fun ⟨i,hi,_⟩=>by omega,fun _=>rfl⟩⟩
   ·intros;rename_i w3 hI3 E3 hE3
    obtain ⟨k,W,rfl,hkn,e3,s3,hWj⟩:=hI3
    have r0:w3.cell? ⟨w.heap.size,0,none⟩=some (.int .i64 c):=(rhc.ext e3).cell (i:=0) (by simp)
    have r1:w3.cell? ⟨w.heap.size,1,none⟩=some (.int .i64 o):=(rhc.ext e3).cell (i:=1) (by simp)
    have r2:w3.cell? ⟨w.heap.size,2,none⟩=some (.int .u16 (g:Int)):=(rhc.ext e3).cell (i:=2) (by simp)
    have ltr:=lt_of_cell r0
    have hfz:=fun i=>s3.frz (b:=b) rfl i
    by_cases hk:k<n
    ·have hper:(k:Int)<perS c:=by omega
     have bd:=offN_bd c0 c5 hper
     have hro:∀(w:World) (K:K1),callS prog 116 #[.int .i64 c,.int .i64 (k:Int)] w K=K (.int .i64 (offN c k:Int)) w:=fun w K=>by rw [c_rOff c k w K (by omega) (by omega),bd.1]
     have hbl:∀(w:World) (K:K1),callS prog 115 #[.int .u16 (g:Int),.int .u8 ((0:Nat):Int),.int .u32 ((176:Nat):Int)] w K=K (.int .u64 ((sealN (blkX g 0 176):Nat):Int)) w:=fun w K=>c_rBlock g 0 176 w K hg (by omega) (by omega)
     have hup:=SlO.upd s3 (u64 (sealN (blkX g 0 176))) (i:=offN c k) (by omega)
     rw [wdL_set] at hup
     have hc:=s3.cell rfl (wdL_get (W:=W) (n:=256) (j:=offN c k) (by omega))
     have hlt:=lt_of_cell hc
     have hnx:∀j,((∃i,i<k+1∧offN c i=j)→(if j=offN c k then sealN (blkX g 0 176) else W j)=sealN (blkX g 0 176))∧((¬∃i,i<k+1∧offN c i=j)→(if j=offN c k then sealN (blkX g 0 176) else W j)=if j≠0∧j<8 then 0 else U j):=by
      intro j
      constructor
      ·intro ⟨i,hi,he⟩
       by_cases e:j=offN c k
       ·rw [if_pos e]
       ·rw [if_neg e]
        refine (hWj j).1 ⟨i,?_,he⟩
        by_cases ei:i=k
        ·subst ei;exact absurd he.symm e
        ·omega
      ·intro hno
       have e:j≠offN c k:=fun e=>hno ⟨k,by omega,e.symm⟩
       rw [if_neg e]
       exact (hWj j).2 (fun ⟨i,hi,he⟩=>hno ⟨i,by omega,he⟩)
     generalize sealN (blkX g 0 176)=V at*
     generalize offN c k=q at*
     unfold f91_l2_t
     (repeat' (first|(with_reducible first|refine brS_mk (fun _=> ?_) (fun _=> ?_)|refine And.intro ?_ ?_)|(simp (disch:=first|omega|simp only [RO]|(simp only [RZ]<;>omega)|(with_reducible (repeat (first|assumption|exact Ext.refl _|refine Ext.alloc ?_ _|refine Ext.drew ?_|refine Ext.trans ?_ (by assumption))))|fail) only [↓RBp,↓RA,↓reduceIte,Nat.reduceAdd,Nat.reduceMul,Nat.reduceEqDiff,RB,RX,RA2,r0,r1,r2,hrp,hro,hbl,hfz,hc,Int.toNat_natCast])))
     apply hE3
     ·exact ⟨k+1,_,by simp,by omega,(by repeat (first|(with_reducible first|refine Sh.eB ?_ _|assumption|exact Sh.eR _|refine Sh.eA ?_ _|refine Sh.eD ?_|refine Sh.eT ?_ (by assumption))|exact Sh.eR _)),hup,hnx⟩
     ·simp [intOf];omega
    ·have hkn':k=n:=by omega
     subst hkn'
     have hup:=SlO.upd s3 (u64 (sealN (hdX c o g))) (i:=0) (by omega)
     rw [wdL_set] at hup
     have hc:=s3.cell rfl (wdL_get (W:=W) (n:=256) (j:=0) (by omega))
     rw [Nat.add_zero] at hc hup
     have hlt:=lt_of_cell hc
     have hfi:∀(w:World) (K:K1),callS prog 45 #[.agg #[.int .i64 c,.int .i64 o,.int .u16 (g:Int)]] w K=K (.int .u64 ((sealN (hdX c o g):Nat):Int)) (w.alloc (rhO c o g)):=fun w K=>c_rFirst c o g w K hg (.inr ⟨c0,c5,o0,o8⟩)
     have hfin:∀i,i<256→(if i=0 then sealN (hdX c o g) else W i)=planF c o g U i:=fun i hi=>by
      unfold planF
      by_cases h0:i=0
      ·rw [if_pos h0,if_pos h0]
      ·rw [if_neg h0,if_neg h0]
       by_cases hb:isB c i=true
       ·rw [if_pos hb]
        obtain ⟨q,h1,h2⟩:=(isB_iff c i).1 hb
        exact (hWj i).1 ⟨q,by omega,h2⟩
       ·rw [if_neg hb]
        rw [(hWj i).2 (fun ⟨q,h1,h2⟩=>hb ((isB_iff c i).2 ⟨q,by omega,h2⟩))]
        by_cases h8:i<8
        ·rw [if_pos h8,if_pos ⟨h0,h8⟩]
        ·rw [if_neg h8,if_neg (by omega)]
     generalize sealN (hdX c o g)=V at*
     unfold f91_l2_t
     simp (disch:=first|omega|simp only [RO]|(simp only [RZ]<;>omega)|fail) only [↓RBp,↓RA,↓reduceIte,Nat.reduceAdd,Nat.reduceMul,Nat.reduceEqDiff,RB,RX,RA2,r0,r1,r2,hrp,f91_k2_eq,f91_k2_t,hfi,hfz,hc,Int.reduceToNat,Nat.add_zero]
     refine hK b ob cap _ (by repeat (first|(with_reducible first|refine Sh.eB ?_ _|assumption|exact Sh.eR _|refine Sh.eA ?_ _|refine Sh.eD ?_|refine Sh.eT ?_ (by assumption))|exact Sh.eR _)) hbw ?_
     rw [wdL_congr hfin] at hup
     exact hup.ext (Ext.alloc_self _ _)
end
section
variable {w w':World} {Y Y':Lay} {D D':DS} {c o:Int} {g:Nat}
theorem rl_eq (x:Nat) (hx:x<18446744073709551616):hdOk x=(rightB (hC x) (hO x) (gX x)&&decide (x=sealN (hdX (hC x) (hO x) (gX x)))):=by
 have hg:gX x<65536:=by unfold gX;omega
 have hc: -1≤hC x∧hC x≤14:=by unfold hC;omega
 have ho: -1≤hO x∧hO x≤14:=by unfold hO;omega
 cases hb:(rightB (hC x) (hO x) (gX x)&&decide (x=sealN (hdX (hC x) (hO x) (gX x)))) with
 |true=>
  simp only [Bool.and_eq_true,decide_eq_true_eq] at hb
  obtain ⟨hr,hs⟩:=hb
  simp only [rightB,Bool.and_eq_true,Bool.not_eq_true',decide_eq_false_iff_not,Bool.or_eq_true,decide_eq_true_eq] at hr
  obtain ⟨hg0,hr⟩:=hr
  rw [hs]
  rcases hr with ⟨h1,h2⟩|h
  ·rw [h1,h2];exact (hd_free hg0 hg).1
  ·simp only [fmtB,Bool.and_eq_true,decide_eq_true_eq] at h
   exact (hd_ok h.1.1.1 h.1.1.2 h.1.2 h.2 hg0 hg).1
 |false=>
  cases hh:hdOk x with
  |false=>rfl
  |true=>
   exfalso
   simp only [hdOk,Bool.and_eq_true,Bool.not_eq_true',decide_eq_false_iff_not,Bool.or_eq_true,decide_eq_true_eq] at hh
   obtain ⟨⟨⟨h1,h2⟩,h3⟩,h4⟩:=hh
   have hS:sealN (x%4294967296)=x:=by simpa [isS] using h1
   have hy:x%4294967296=hdX (hC x) (hO x) (gX x):=by
    unfold hdX
    rcases h4 with ⟨a,b⟩|h
    ·rw [if_neg (by omega)]
     unfold hC at a;unfold hO at b;unfold sX at h2;unfold gX
     omega
    ·simp only [fmtB,Bool.and_eq_true,decide_eq_true_eq] at h
     rw [if_pos h.1.1.1]
     unfold sX at h2
     unfold hC hO gX
     omega
   rw [hy] at hS
   have hr:rightB (hC x) (hO x) (gX x)=true:=by
    rcases h4 with ⟨a,b⟩|h
    ·have a':hC x= -1:=by omega
     have b':hO x= -1:=by omega
     simp [rightB,h3,a',b']
    ·simp [rightB,h3,h]
   rw [hr,←hS] at hb
   simp only [Bool.true_and,decide_eq_false_iff_not] at hb
   apply hb
   rw [hS];exact hS.symm
theorem k_rLook (x:Nat) (hx:x<18446744073709551616) (K:K1) (hK:∀w',Ext w w'→K (.tuple #[.agg #[.int .i64 (hC x),.int .i64 (hO x),.int .u16 (gX x:Int)],.bool (hdOk x)]) w'):callS prog 12 #[.int .u64 (x:Int)] w K:=by
 have e1:((x/2^16%16:Nat):Int)-1=hC x:=rfl
 have e2:((x/2^20%16:Nat):Int)-1=hO x:=rfl
 have e3:x%65536=gX x:=rfl
 have hg:gX x<65536:=by unfold gX;omega
 rw [rl_eq x hx] at hK
 have hr:∀(w2:World) (K:K1),callS prog 44 #[.agg #[.int .i64 (hC x),.int .i64 (hO x),.int .u16 (gX x:Int)]] w2 K=K (.bool (rightB (hC x) (hO x) (gX x))) (w2.alloc (rhO (hC x) (hO x) (gX x))):=fun w2 K=>c_rRight _ _ _ w2 K
 have hf:rightB (hC x) (hO x) (gX x)=true→∀(w2:World) (K:K1),callS prog 45 #[.agg #[.int .i64 (hC x),.int .i64 (hO x),.int .u16 (gX x:Int)]] w2 K=K (.int .u64 ((sealN (hdX (hC x) (hO x) (gX x)):Nat):Int)) (w2.alloc (rhO (hC x) (hO x) (gX x))):=fun h w2 K=>by
  refine c_rFirst _ _ _ w2 K hg ?_
  simp only [rightB,fmtB,Bool.and_eq_true,Bool.not_eq_true',decide_eq_false_iff_not,Bool.or_eq_true,decide_eq_true_eq] at h
  rcases h.2 with h|h
  ·exact .inl h
  ·exact .inr ⟨h.1.1.1,h.1.1.2,h.1.2,h.2⟩
 have b1: -1≤hC x∧hC x≤14:=by unfold hC;omega
 have b2: -1≤hO x∧hO x≤14:=by unfold hO;omega
 refine f12_call _ _ _ ?_
 unfold f12_t
 generalize hC x=cc at*
 generalize hO x=oo at*
 generalize gX x=gg at*
 cases hrb:rightB cc oo gg with
 |false=>
  rw [hrb] at hr hK
  rw [Bool.false_and] at hK
  (repeat' (first|(with_reducible first|refine brS_mk (fun _=> ?_) (fun _=> ?_)|refine And.intro ?_ ?_)|(simp (disch:=first|omega|simp only [RO]|(simp only [RZ]<;>omega)|(with_reducible (repeat (first|assumption|exact Ext.refl _|refine Ext.alloc ?_ _|refine Ext.drew ?_|refine Ext.trans ?_ (by assumption))))|fail) only [↓RBp,↓RA,↓reduceIte,Nat.reduceAdd,Nat.reduceMul,Nat.reduceEqDiff,RB,RX,RA2,e1,e2,e3,hr])))
  exact hK _ (by repeat (first|(with_reducible first|refine Sh.eB ?_ _|assumption|exact Sh.eR _|refine Sh.eA ?_ _|refine Sh.eD ?_|refine Sh.eT ?_ (by assumption))|exact Sh.eR _))
 |true=>
  have hf:=hf hrb
  rw [hrb] at hr hK
  rw [Bool.true_and] at hK
  (repeat' (first|(with_reducible first|refine brS_mk (fun _=> ?_) (fun _=> ?_)|refine And.intro ?_ ?_)|(simp (disch:=first|omega|simp only [RO]|(simp only [RZ]<;>omega)|(with_reducible (repeat (first|assumption|exact Ext.refl _|refine Ext.alloc ?_ _|refine Ext.drew ?_|refine Ext.trans ?_ (by assumption))))|fail) only [↓RBp,↓RA,↓reduceIte,Nat.reduceAdd,Nat.reduceMul,Nat.reduceEqDiff,RB,RX,RA2,e1,e2,e3,hr,hf])))
  exact hK _ (by repeat (first|(with_reducible first|refine Sh.eB ?_ _|assumption|exact Sh.eR _|refine Sh.eA ?_ _|refine Sh.eD ?_|refine Sh.eT ?_ (by assumption))|exact Sh.eR _))
end
section
variable {w w':World} {Y:Lay} {D:DS} {l m:Nat} {v:Value}
theorem k_words22 (h:Dv w Y D) (g:Good D) (ho:D.off=false) (hl:l+32≤D.n) (K:K1) (hK:∀b o cap w',SlO w' 30 1 (wsV b o cap) 256 (wdL (wd D l) 256)→Ext w w'→w.heap.size≤b→K (wsV b o cap) w'):
  callS prog 13 #[.pointer (some ⟨Y.tb 0,0,none⟩),.int .i64 (l:Int)] w K:=by
 have hn:=g.n
 have ld:∀(i:Nat) (w1:World) (K:K1),Ext w w1→i<256→callS prog 46 #[.pointer (some ⟨Y.tb 0,0,none⟩),.int .u64 ((l*64+i*8:Nat):Int)] w1 K=K (.int .u64 (wd D l i:Int)) w1:=fun i w1 K e hi=>by
  rw [c_Load (h.ext e) g 0 (by omega) ho (l*64+i*8) (by omega) (by omega) K,show (l*64+i*8)/8=l*8+i by omega];unfold wd;rfl
 refine f13_call _ _ _ _ ?_
 unfold f13_t
 apply f13_l1_rule (I:=fun x z w'=>∃k:Nat,z= .int .i64 (k:Int)∧k≤256∧SlO w' 30 1 x k (wdL (wd D l) k)∧Frm Nob w w'∧NewV w.heap.size x) (μ:=fun _ z _=>256-(intOf z).toNat)
 ·exact ⟨0,rfl,by omega,SlO.nil _ _ _,Frm.refl _ _,fun b hb=>by cases hb⟩
 ·intros;rename_i x5 x7 w1 hI E1 hE
  obtain ⟨k,rfl,hk,hs,hf,hnw⟩:=hI
  have e1:Ext w w1:=hf.to_ext (fun _ _ h=>h)
  by_cases hk2:k<256
  ·have e8:(64*l+8*k)=l*64+k*8:=by omega
   have ldk:=fun (w1:World) (K:K1) (e:Ext w w1)=>ld k w1 K e hk2
   obtain ⟨pa,pc,rfl,hpc⟩:=hs.isS'
   generalize hx:wd D l k=x at*
   unfold f13_l1_t
   simp (disch:=first|omega|simp only [RO]|(simp only [RZ]<;>omega)|(with_reducible (repeat (first|assumption|exact Ext.refl _|refine Ext.alloc ?_ _|refine Ext.drew ?_|refine Ext.trans ?_ (by assumption))))|fail) only [↓RBp,↓RA,↓reduceIte,Nat.reduceAdd,Nat.reduceMul,Nat.reduceEqDiff,RB,RX,RA2,e8,ldk,Int.toNat_natCast]
   refine app_new elU64 (w0:=w) (hs.ext (by repeat (first|(with_reducible first|refine Sh.eB ?_ _|assumption|exact Sh.eR _|refine Sh.eA ?_ _|refine Sh.eD ?_|refine Sh.eT ?_ (by assumption))|exact Sh.eR _))) (hf.ext (by repeat (first|(with_reducible first|refine Sh.eB ?_ _|assumption|exact Sh.eR _|refine Sh.eA ?_ _|refine Sh.eD ?_|refine Sh.eT ?_ (by assumption))|exact Sh.eR _))) hnw (m:=1) (news:= [u64 x]) rfl ?_ rfl (by omega) (by omega) (by omega) (fun v' w4 hsp hf4 n4 hfr4 hb4=> ?_)
   ·intro j u hj
    obtain ⟨rfl,rfl⟩:=one_get hj
    simp (disch:=first|omega|simp only [RO]|(simp only [RZ]<;>omega)|fail) only [↓RBp,↓RA,↓reduceIte,Nat.reduceAdd,Nat.reduceMul,Nat.reduceEqDiff,RB,RX,RA2]
   simp (disch:=first|omega|simp only [RO]|(simp only [RZ]<;>omega)|fail) only [↓RBp,↓RA,↓reduceIte,Nat.reduceAdd,Nat.reduceMul,Nat.reduceEqDiff,RB,RX,RA2]
   apply hE
   ·exact ⟨k+1,by simp,by omega,by rw [wdL_snoc,hx];exact hsp,hf4,n4⟩
   ·simp [intOf];omega
  ·have:k=256:=by omega
   subst this
   obtain ⟨b,ob,cap,rfl,_⟩:=hs.isS (by omega)
   unfold f13_l1_t
   simp (disch:=first|omega|simp only [RO]|(simp only [RZ]<;>omega)|fail) only [↓RBp,↓RA,↓reduceIte,Nat.reduceAdd,Nat.reduceMul,Nat.reduceEqDiff,RB,RX,RA2,f13_k1_eq,f13_k1_t]
   exact hK _ _ _ _ hs e1 (hnw b rfl)
end
noncomputable def f16_u:Code×Dec:=((Tryz.f16.body).getD .skip,(.s .o (.s .o (.x 8 (.s .o (.b (.l [3,4] 1 2097144 .o))) .o))))
abbrev f16_e (K:K1):KF:=endK prog Tryz.f16.results.toList K
def f16_k1_o (K:K1):KF:=fun fr w=>∀σ,cP (pr (pr (pr f16_u))) (f16_e K) (f16_e K) nX (mixF 8 σ 0 fr) w
def f16_k1 (K:K1) (x3:Value) (w:World):Prop:=f16_k1_o K (fz 22 0 [(3,x3)]) w
def f16_l1 (K:K1) (x0 x3 x4:Value) (w:World):Prop:=loopT [3,4] 1 (fun E=>cP (pl (pl (pr (pl (pr (pr f16_u)))))) E (f16_e K) (exB 0 (f16_k1_o K) nX)) (fz 22 0 [(0,x0),(3,x3),(4,x4)]) w
def f16_k1_t (x3:Value) (K:K1) (w:World):Prop:=
 K x3 w
theorem f16_k1_eq (K:K1) (x3:Value) (w:World):f16_k1 K x3 w=f16_k1_t x3 K w:=cutE fun σ=>by kernel_rfl
def f16_l1_t (x0 x3 x4:Value) (K:K1) (E1:VP2) (w:World):Prop:=
 ev prog (binM .lss 3 (.tmp 6) (.tmp 7) x4 x0) w fun t8 w=>
 cndS t8 (
 ev prog (Instr.makeSlice 39 (.int .i64 256) (.int .i64 256)) w fun t11 w=>
 ev prog (Instr.build 36 #[(0,(.int .i64 (-1))),(1,(.int .i64 (-1))),(2,(.int .u16 ((1:Nat):Int)))]) w fun t13 w=>
 callS prog 45 (pA #[t13]) w fun t14 w=>
 ev prog (Instr.indexAt 39 t11 (.int .i64 0)) w fun t15 w=>
 stS prog 30 t15 t14 w fun w=>
 ev prog (Instr.build 42 #[(0,t11),(1,(.bool false))]) w fun t18 w=>
 ev prog (Instr.buildSlice 29 1 #[(0,t18)]) w fun t19 w=>
 bltS prog .append #[29,29] 29 #[false,false] (pA #[x3,t19]) w fun t20 w=>
 ev prog (binM .add 3 (.tmp 9) (.const (.int .i64 1)) x4 (.int .i64 1)) w fun t10 w=>
 E1 t20 t10 w) (
 f16_k1 K x3 w)
theorem f16_l1_rule (x0 x3 x4:Value) (K:K1) (w:World) (I:VP2) (μ:Value→Value→World→Nat) (h0:I x3 x4 w)
  (hr:∀(x3 x4:Value) (w:World),I x3 x4 w→∀E1:VP2,(∀(y3 y4:Value) (w':World),I y3 y4 w'→μ y3 y4 w'<μ x3 x4 w→E1 y3 y4 w')→f16_l1_t x0 x3 x4 K E1 w):f16_l1 K x0 x3 x4 w:=
 ⟨I,μ,h0,fun σ w hI E hE=>cast (by kernel_rfl) (hr (σ 3) (σ 4) w hI E hE)⟩
def f16_t (x0:Value) (K:K1) (w:World):Prop:=
 f16_l1 K x0 (.slice none 0 0) (.int .i64 0) w
theorem f16_call (x0:Value) (K:K1) (w:World) (h:f16_t x0 K w):callS prog 16 #[x0] w K:=
 call_of_txt (args:= [x0]) mixed Tryz.func16 f16_u.2 (by kernel_rfl) (cast (by kernel_rfl) h)
def f49_t (x0:Value) (K:K1) (w:World):Prop:=
 ev prog (Instr.box 42 x0) w fun t1 w=>
 ev prog (Instr.alloc 36 true (.tuple #[])) w fun t2 w=>
 ev prog (Instr.fieldAt 42 t1 0) w fun t6 w=>
 ldS prog 39 t6 w fun t7 w=>
 ev prog (Instr.indexAt 39 t7 (.int .i64 0)) w fun t8 w=>
 ldS prog 30 t8 w fun t9 w=>
 callS prog 12 (pA #[t9]) w fun t10 w=>
 ev prog (Instr.extract t10 0) w fun t11 w=>
 ev prog (Instr.extract t10 1) w fun t12 w=>
 ev prog (Instr.alloc 36 true (.tuple #[])) w fun t3 w=>
 stS prog 36 t3 t11 w fun w=>
 ldS prog 36 t3 w fun t13 w=>
 stS prog 36 t2 t13 w fun w=>
 ldR prog 36 t2 w fun r=>
 K r w
theorem f49_call (x0:Value) (K:K1) (w:World) (h:f49_t x0 K w):callS prog 49 #[x0] w K:=
 call_of_txt (args:= [x0]) mixed Tryz.func49 .o (by kernel_rfl) (cast (by kernel_rfl) h)
def f51_t (x0 x1:Value) (K:K1) (w:World):Prop:=
 ev prog (binM .lss 3 (.tmp 9) (.const (.int .i64 0)) x1 (.int .i64 0)) w fun t10 w=>
 gd t10 false (fun k=>k x1 w) w fun t12 w=>
 gd t10 false (fun k=>k x0 w) w fun t13 w=>
 gd t10 false (fun k=>bltS prog .len #[29] 3 #[false] #[t13] w k) w fun t14 w=>
 gd t10 false (fun k=>ev prog (binM .geq 3 (.tmp 12) (.tmp 14) t12 t14) w k) w fun t15 w=>
 pickS t10 (.bool true) t15 w fun t16 w=>
 cndS t16 (
 K (.tuple #[x0,(.int .i64 5)]) w) (
 ev prog (Instr.indexAt 29 x0 x1) w fun t21 w=>
 ldS prog 42 t21 w fun t22 w=>
 callS prog 88 (pA #[t22]) w fun t23 w=>
 ev prog (Instr.extract t23 0) w fun t24 w=>
 ev prog (Instr.extract t23 1) w fun t25 w=>
 ev prog (Op.unary .not t25) w fun t27 w=>
 cndS t27 (
 K (.tuple #[x0,(.int .i64 8)]) w) (
 bltS prog .append #[29,29] 29 #[false,false] (pA #[(.slice none 0 0),x0]) w fun t31 w=>
 ev prog (Instr.indexAt 29 x0 x1) w fun t36 w=>
 ldS prog 42 t36 w fun t37 w=>
 callS prog 89 (pA #[t37,t24]) w fun t39 w=>
 ev prog (Instr.indexAt 29 t31 x1) w fun t40 w=>
 stS prog 42 t40 t39 w fun w=>
 K (.tuple #[t31,(.int .i64 0)]) w))
theorem f51_call (x0 x1:Value) (K:K1) (w:World) (h:f51_t x0 x1 K w):callS prog 51 #[x0,x1] w K:=
 call_of_txt (args:= [x0,x1]) mixed Tryz.func51 .o (by kernel_rfl) (cast (by kernel_rfl) h)
def f52_t (x0 x1 x2:Value) (K:K1) (w:World):Prop:=
 ev prog (binM .lss 3 (.tmp 9) (.const (.int .i64 0)) x1 (.int .i64 0)) w fun t10 w=>
 gd t10 false (fun k=>k x1 w) w fun t12 w=>
 gd t10 false (fun k=>k x0 w) w fun t13 w=>
 gd t10 false (fun k=>bltS prog .len #[29] 3 #[false] #[t13] w k) w fun t14 w=>
 gd t10 false (fun k=>ev prog (binM .geq 3 (.tmp 12) (.tmp 14) t12 t14) w k) w fun t15 w=>
 pickS t10 (.bool true) t15 w fun t16 w=>
 cndS t16 (
 K (.tuple #[x0,(.int .i64 5)]) w) (
 ev prog (Instr.indexAt 29 x0 x1) w fun t20 w=>
 ldS prog 42 t20 w fun t21 w=>
 callS prog 49 (pA #[t21]) w fun t22 w=>
 ev prog (Instr.field 36 t22 0) w fun t23 w=>
 ev prog (binM .lss 3 (.tmp 23) (.const (.int .i64 0)) t23 (.int .i64 0)) w fun t24 w=>
 cndS t24 (
 K (.tuple #[x0,(.int .i64 8)]) w) (
 bltS prog .append #[29,29] 29 #[false,false] (pA #[(.slice none 0 0),x0]) w fun t28 w=>
 ev prog (Instr.indexAt 29 t28 x1) w fun t32 w=>
 ev prog (Instr.fieldAt 42 t32 1) w fun t33 w=>
 stS prog 4 t33 x2 w fun w=>
 K (.tuple #[t28,(.int .i64 0)]) w))
theorem f52_call (x0 x1 x2:Value) (K:K1) (w:World) (h:f52_t x0 x1 x2 K w):callS prog 52 #[x0,x1,x2] w K:=
 call_of_txt (args:= [x0,x1,x2]) mixed Tryz.func52 .o (by kernel_rfl) (cast (by kernel_rfl) h)
noncomputable def f56_u:Code×Dec:=((Tryz.f56.body).getD .skip,(.s .o (.s .o (.s .o (.x 519 (.s .o (.b (.l [9,10] 7 140703128618496 (.s .o (.x 1543 .o .o))))) (.s .o (.x 2567 .o (.x 2567 (.s .o (.b (.l [9,12] 2055 75557575495538171736576 (.s .o (.x 6663 .o .o))))) (.s .o (.s .o (.x 35335 .o .o)))))))))))
abbrev f56_e (K:K1):KF:=endK prog Tryz.f56.results.toList K
def f56_k1_o (K:K1):KF:=fun fr w=>∀σ,cP (pr (pr (pr (pr f56_u)))) (f56_e K) (f56_e K) nX (mixF 519 σ 0 fr) w
def f56_k1 (K:K1) (x0 x1 x2 x9:Value) (w:World):Prop:=f56_k1_o K (fz 110 0 [(0,x0),(1,x1),(2,x2),(9,x9)]) w
def f56_l1 (K:K1) (x0 x1 x2 x9 x10:Value) (w:World):Prop:=loopT [9,10] 7 (fun E=>cP (pl (pl (pr (pl (pr (pr (pr f56_u))))))) E (f56_e K) (exB 0 (f56_k1_o K) nX)) (fz 110 0 [(0,x0),(1,x1),(2,x2),(9,x9),(10,x10)]) w
def f56_k2_o (K:K1):KF:=fun fr w=>∀σ,cP (pr (pr (pr (pr (pr (pr f56_u)))))) (f56_e K) (f56_e K) nX (mixF 2567 σ 0 fr) w
def f56_k2 (K:K1) (x0 x1 x2 x9 x11:Value) (w:World):Prop:=f56_k2_o K (fz 110 0 [(0,x0),(1,x1),(2,x2),(9,x9),(11,x11)]) w
def f56_k3_o (K:K1) (E1:VP2):KF:=fun fr w=>∀σ,cP (pr (pr (pl (pl (pr (pl (pr (pr (pr f56_u))))))))) (fun fr w=>E1 (sv fr 9) (sv fr 10) w) (f56_e K) (exB 0 (f56_k1_o K) nX) (mixF 1543 σ 0 fr) w
def f56_k3 (K:K1) (E1:VP2) (x0 x1 x2 x9 x10:Value) (w:World):Prop:=f56_k3_o K E1 (fz 110 0 [(0,x0),(1,x1),(2,x2),(9,x9),(10,x10)]) w
def f56_k4_o (K:K1):KF:=fun fr w=>∀σ,cP (pr (pr (pr (pr (pr (pr (pr f56_u))))))) (f56_e K) (f56_e K) nX (mixF 2567 σ 0 fr) w
def f56_k4 (K:K1) (x0 x1 x2 x9 x11:Value) (w:World):Prop:=f56_k4_o K (fz 110 0 [(0,x0),(1,x1),(2,x2),(9,x9),(11,x11)]) w
def f56_l2 (K:K1) (x0 x1 x2 x9 x11 x12:Value) (w:World):Prop:=loopT [9,12] 2055 (fun E=>cP (pl (pl (pr (pl (pr (pr (pr (pr (pr (pr f56_u)))))))))) E (f56_e K) (exB 2 (f56_k4_o K) nX)) (fz 110 0 [(0,x0),(1,x1),(2,x2),(9,x9),(11,x11),(12,x12)]) w
def f56_k5_o (K:K1):KF:=fun fr w=>∀σ,cP (pr (pr (pr (pr (pr (pr (pr (pr (pr (pr f56_u)))))))))) (f56_e K) (f56_e K) nX (mixF 35335 σ 0 fr) w
def f56_k5 (K:K1) (x0 x1 x2 x9 x11 x15:Value) (w:World):Prop:=f56_k5_o K (fz 110 0 [(0,x0),(1,x1),(2,x2),(9,x9),(11,x11),(15,x15)]) w
def f56_k6_o (K:K1) (E1:VP2):KF:=fun fr w=>∀σ,cP (pr (pr (pl (pl (pr (pl (pr (pr (pr (pr (pr (pr f56_u)))))))))))) (fun fr w=>E1 (sv fr 9) (sv fr 12) w) (f56_e K) (exB 2 (f56_k4_o K) nX) (mixF 6663 σ 0 fr) w
def f56_k6 (K:K1) (E1:VP2) (x0 x1 x2 x9 x11 x12:Value) (w:World):Prop:=f56_k6_o K E1 (fz 110 0 [(0,x0),(1,x1),(2,x2),(9,x9),(11,x11),(12,x12)]) w
def f56_k1_t (x0 x1 x2 x9:Value) (K:K1) (w:World):Prop:=
 ev prog (binM .geq 3 (.tmp 47) (.const (.int .i64 0)) x9 (.int .i64 0)) w fun t48 w=>
 cndS t48 (
 ev prog (Instr.indexAt 29 x0 x9) w fun t51 w=>
 ldS prog 42 t51 w fun t52 w=>
 callS prog 49 (pA #[t52]) w fun t53 w=>
 ev prog (Instr.field 36 t53 2) w fun t54 w=>
 f56_k2 K x0 x1 x2 x9 t54 w) (
 f56_k2 K x0 x1 x2 x9 (.int .u16 ((0:Nat):Int)) w)
theorem f56_k1_eq (K:K1) (x0 x1 x2 x9:Value) (w:World):f56_k1 K x0 x1 x2 x9 w=f56_k1_t x0 x1 x2 x9 K w:=cutE fun σ=>by kernel_rfl
def f56_l1_t (x0 x1 x2 x9 x10:Value) (K:K1) (E1:VP2) (w:World):Prop:=
 ev prog (binM .geq 3 (.tmp 35) (.const (.int .i64 0)) x10 (.int .i64 0)) w fun t36 w=>
 cndS t36 (
 ev prog (Instr.indexAt 29 x0 x10) w fun t41 w=>
 ldS prog 42 t41 w fun t42 w=>
 callS prog 49 (pA #[t42]) w fun t43 w=>
 ev prog (Instr.field 36 t43 0) w fun t44 w=>
 ev prog (binM .lss 3 (.tmp 44) (.const (.int .i64 0)) t44 (.int .i64 0)) w fun t45 w=>
 cndS t45 (
 f56_k3 K E1 x0 x1 x2 x10 x10 w) (
 f56_k3 K E1 x0 x1 x2 x9 x10 w)) (
 f56_k1 K x0 x1 x2 x9 w)
theorem f56_l1_rule (x0 x1 x2 x9 x10:Value) (K:K1) (w:World) (I:VP2) (μ:Value→Value→World→Nat) (h0:I x9 x10 w)
  (hr:∀(x9 x10:Value) (w:World),I x9 x10 w→∀E1:VP2,(∀(y9 y10:Value) (w':World),I y9 y10 w'→μ y9 y10 w'<μ x9 x10 w→E1 y9 y10 w')→f56_l1_t x0 x1 x2 x9 x10 K E1 w):f56_l1 K x0 x1 x2 x9 x10 w:=
 ⟨I,μ,h0,fun σ w hI E hE=>cast (by kernel_rfl) (hr (σ 9) (σ 10) w hI E hE)⟩
def f56_k2_t (x0 x1 x2 x9 x11:Value) (K:K1) (w:World):Prop:=
 bltS prog .len #[29] 3 #[false] #[x0] w fun t56 w=>
 ev prog (binM .sub 3 (.tmp 56) (.const (.int .i64 1)) t56 (.int .i64 1)) w fun t57 w=>
 f56_l2 K x0 x1 x2 x9 x11 t57 w
theorem f56_k2_eq (K:K1) (x0 x1 x2 x9 x11:Value) (w:World):f56_k2 K x0 x1 x2 x9 x11 w=f56_k2_t x0 x1 x2 x9 x11 K w:=cutE fun σ=>by kernel_rfl
def f56_k3_t (x0 x1 x2 x9 x10:Value) (K:K1) (E1:VP2) (w:World):Prop:=
 ev prog (binM .sub 3 (.tmp 37) (.const (.int .i64 1)) x10 (.int .i64 1)) w fun t38 w=>
 E1 x9 t38 w
theorem f56_k3_eq (K:K1) (E1:VP2) (x0 x1 x2 x9 x10:Value) (w:World):f56_k3 K E1 x0 x1 x2 x9 x10 w=f56_k3_t x0 x1 x2 x9 x10 K E1 w:=cutE fun σ=>by kernel_rfl
def f56_k4_t (x0 x1 x2 x9 x11:Value) (K:K1) (w:World):Prop:=
 ev prog (binM .lss 3 (.tmp 76) (.const (.int .i64 0)) x9 (.int .i64 0)) w fun t77 w=>
 cndS t77 (
 K (.tuple #[x0,(.int .i64 0),(.int .i64 4)]) w) (
 ev prog (Instr.indexAt 29 x0 x9) w fun t81 w=>
 ldS prog 42 t81 w fun t82 w=>
 ev prog (Instr.alloc 42 true (.tuple #[])) w fun t15 w=>
 stS prog 42 t15 t82 w fun w=>
 ev prog (binM .eql 34 (.tmp 83) (.const (.int .u16 ((0:Nat):Int))) x11 (.int .u16 ((0:Nat):Int))) w fun t84 w=>
 cndS t84 (
 ldS prog 42 t15 w fun t86 w=>
 callS prog 88 (pA #[t86]) w fun t87 w=>
 ev prog (Instr.extract t87 0) w fun t88 w=>
 ev prog (Instr.extract t87 1) w fun t89 w=>
 ldS prog 42 t15 w fun t90 w=>
 callS prog 89 (pA #[t90,t88]) w fun t92 w=>
 stS prog 42 t15 t92 w fun w=>
 f56_k5 K x0 x1 x2 x9 t88 t15 w) (
 f56_k5 K x0 x1 x2 x9 x11 t15 w))
theorem f56_k4_eq (K:K1) (x0 x1 x2 x9 x11:Value) (w:World):f56_k4 K x0 x1 x2 x9 x11 w=f56_k4_t x0 x1 x2 x9 x11 K w:=cutE fun σ=>by kernel_rfl
def f56_l2_t (x0 x1 x2 x9 x11 x12:Value) (K:K1) (E1:VP2) (w:World):Prop:=
 ev prog (binM .geq 3 (.tmp 58) (.const (.int .i64 0)) x12 (.int .i64 0)) w fun t59 w=>
 gd t59 true (fun k=>k x11 w) w fun t61 w=>
 gd t59 true (fun k=>ev prog (binM .eql 34 (.tmp 61) (.const (.int .u16 ((0:Nat):Int))) t61 (.int .u16 ((0:Nat):Int))) w k) w fun t62 w=>
 pickS t59 t62 (.bool false) w fun t63 w=>
 cndS t63 (
 ev prog (Instr.indexAt 29 x0 x12) w fun t69 w=>
 ldS prog 42 t69 w fun t70 w=>
 callS prog 88 (pA #[t70]) w fun t71 w=>
 ev prog (Instr.extract t71 0) w fun t72 w=>
 ev prog (Instr.extract t71 1) w fun t73 w=>
 cndS t73 (
 f56_k6 K E1 x0 x1 x2 x12 x11 x12 w) (
 f56_k6 K E1 x0 x1 x2 x9 x11 x12 w)) (
 f56_k4 K x0 x1 x2 x9 x11 w)
theorem f56_l2_rule (x0 x1 x2 x9 x11 x12:Value) (K:K1) (w:World) (I:VP2) (μ:Value→Value→World→Nat) (h0:I x9 x12 w)
  (hr:∀(x9 x12:Value) (w:World),I x9 x12 w→∀E1:VP2,(∀(y9 y12:Value) (w':World),I y9 y12 w'→μ y9 y12 w'<μ x9 x12 w→E1 y9 y12 w')→f56_l2_t x0 x1 x2 x9 x11 x12 K E1 w):f56_l2 K x0 x1 x2 x9 x11 x12 w:=
 ⟨I,μ,h0,fun σ w hI E hE=>cast (by kernel_rfl) (hr (σ 9) (σ 12) w hI E hE)⟩
def f56_k5_t (x0 x1 x2 x9 x11 x15:Value) (K:K1) (w:World):Prop:=
 ev prog (Instr.fieldAt 42 x15 0) w fun t93 w=>
 ldS prog 39 t93 w fun t94 w=>
 ev prog (Instr.build 36 #[(0,x2),(1,x1),(2,x11)]) w fun t98 w=>
 callS prog 91 (pA #[t94,t98]) w fun t99 w=>
 ev prog (Instr.fieldAt 42 x15 0) w fun t100 w=>
 stS prog 39 t100 t99 w fun w=>
 bltS prog .append #[29,29] 29 #[false,false] (pA #[(.slice none 0 0),x0]) w fun t103 w=>
 ldS prog 42 x15 w fun t106 w=>
 ev prog (Instr.indexAt 29 t103 x9) w fun t107 w=>
 stS prog 42 t107 t106 w fun w=>
 K (.tuple #[t103,x9,(.int .i64 0)]) w
theorem f56_k5_eq (K:K1) (x0 x1 x2 x9 x11 x15:Value) (w:World):f56_k5 K x0 x1 x2 x9 x11 x15 w=f56_k5_t x0 x1 x2 x9 x11 x15 K w:=cutE fun σ=>by kernel_rfl
def f56_k6_t (x0 x1 x2 x9 x11 x12:Value) (K:K1) (E1:VP2) (w:World):Prop:=
 ev prog (binM .sub 3 (.tmp 64) (.const (.int .i64 1)) x12 (.int .i64 1)) w fun t65 w=>
 E1 x9 t65 w
theorem f56_k6_eq (K:K1) (E1:VP2) (x0 x1 x2 x9 x11 x12:Value) (w:World):f56_k6 K E1 x0 x1 x2 x9 x11 x12 w=f56_k6_t x0 x1 x2 x9 x11 x12 K E1 w:=cutE fun σ=>by kernel_rfl
def f56_t (x0 x1 x2:Value) (K:K1) (w:World):Prop:=
 ev prog (binM .lss 3 (.tmp 17) (.const (.int .i64 0)) x1 (.int .i64 0)) w fun t18 w=>
 gd t18 false (fun k=>k x1 w) w fun t20 w=>
 gd t18 false (fun k=>ev prog (binM .gtr 3 (.tmp 20) (.const (.int .i64 7)) t20 (.int .i64 7)) w k) w fun t21 w=>
 pickS t18 (.bool true) t21 w fun t22 w=>
 gd t22 false (fun k=>k x2 w) w fun t24 w=>
 gd t22 false (fun k=>ev prog (binM .lss 3 (.tmp 24) (.const (.int .i64 0)) t24 (.int .i64 0)) w k) w fun t25 w=>
 pickS t22 (.bool true) t25 w fun t26 w=>
 gd t26 false (fun k=>k x2 w) w fun t28 w=>
 gd t26 false (fun k=>ev prog (binM .gtr 3 (.tmp 28) (.const (.int .i64 4)) t28 (.int .i64 4)) w k) w fun t29 w=>
 pickS t26 (.bool true) t29 w fun t30 w=>
 cndS t30 (
 K (.tuple #[x0,(.int .i64 0),(.int .i64 1)]) w) (
 bltS prog .len #[29] 3 #[false] #[x0] w fun t33 w=>
 ev prog (binM .sub 3 (.tmp 33) (.const (.int .i64 1)) t33 (.int .i64 1)) w fun t34 w=>
 f56_l1 K x0 x1 x2 (.int .i64 (-1)) t34 w)
theorem f56_call (x0 x1 x2:Value) (K:K1) (w:World) (h:f56_t x0 x1 x2 K w):callS prog 56 #[x0,x1,x2] w K:=
 call_of_txt (args:= [x0,x1,x2]) mixed Tryz.func56 f56_u.2 (by kernel_rfl) (cast (by kernel_rfl) h)
def f88_t (x0:Value) (K:K1) (w:World):Prop:=
 ev prog (Instr.box 42 x0) w fun t1 w=>
 ldS prog 42 t1 w fun t5 w=>
 callS prog 49 (pA #[t5]) w fun t6 w=>
 ev prog (Instr.alloc 36 true (.tuple #[])) w fun t4 w=>
 stS prog 36 t4 t6 w fun w=>
 ev prog (Instr.fieldAt 36 t4 0) w fun t7 w=>
 ldS prog 3 t7 w fun t8 w=>
 ev prog (binM .lss 3 (.tmp 8) (.const (.int .i64 0)) t8 (.int .i64 0)) w fun t9 w=>
 gd t9 false (fun k=>ev prog (Instr.fieldAt 42 t1 1) w k) w fun t11 w=>
 gd t9 false (fun k=>ldS prog 4 t11 w k) w fun t12 w=>
 pickS t9 (.bool true) t12 w fun t13 w=>
 cndS t13 (
 K (.tuple #[(.int .u16 ((0:Nat):Int)),(.bool false)]) w) (
 ev prog (Instr.fieldAt 42 t1 0) w fun t14 w=>
 ldS prog 39 t14 w fun t15 w=>
 ev prog (Instr.fieldAt 36 t4 0) w fun t16 w=>
 ldS prog 3 t16 w fun t17 w=>
 callS prog 113 (pA #[t15,t17]) w fun t18 w=>
 ev prog (Instr.extract t18 0) w fun t19 w=>
 ev prog (Instr.extract t18 1) w fun t20 w=>
 K (.tuple #[t19,t20]) w)
theorem f88_call (x0:Value) (K:K1) (w:World) (h:f88_t x0 K w):callS prog 88 #[x0] w K:=
 call_of_txt (args:= [x0]) mixed Tryz.func88 .o (by kernel_rfl) (cast (by kernel_rfl) h)
def f89_t (x0 x1:Value) (K:K1) (w:World):Prop:=
 ev prog (Instr.box 42 x0) w fun t2 w=>
 ev prog (Instr.alloc 42 true (.tuple #[])) w fun t4 w=>
 ev prog (Instr.fieldAt 42 t2 0) w fun t7 w=>
 ldS prog 39 t7 w fun t8 w=>
 bltS prog .append #[39,39] 39 #[false,false] (pA #[(.slice none 0 0),t8]) w fun t9 w=>
 ev prog (Instr.build 36 #[(0,(.int .i64 (-1))),(1,(.int .i64 (-1))),(2,x1)]) w fun t12 w=>
 callS prog 45 (pA #[t12]) w fun t13 w=>
 ev prog (Instr.indexAt 39 t9 (.int .i64 0)) w fun t14 w=>
 stS prog 30 t14 t13 w fun w=>
 ev prog (Instr.build 42 #[(0,t9),(1,(.bool false))]) w fun t16 w=>
 stS prog 42 t4 t16 w fun w=>
 ldR prog 42 t4 w fun r=>
 K r w
theorem f89_call (x0 x1:Value) (K:K1) (w:World) (h:f89_t x0 x1 K w):callS prog 89 #[x0,x1] w K:=
 call_of_txt (args:= [x0,x1]) mixed Tryz.func89 .o (by kernel_rfl) (cast (by kernel_rfl) h)
def mdL (sl:Nat→Value) (hd:Nat→Bool):Nat→List Value
 |0=> []
 |n+1=>mdL sl hd n++ [sl n,.bool (hd n)]
theorem mdL_len (sl:Nat→Value) (hd:Nat→Bool):∀n,(mdL sl hd n).length=n*2
 |0=>rfl
 |n+1=>by simp [mdL,mdL_len sl hd n];omega
theorem mdL_get (sl:Nat→Value) (hd:Nat→Bool):∀n k,k<n→(mdL sl hd n)[k*2]? =some (sl k)∧(mdL sl hd n)[k*2+1]? =some (.bool (hd k))
 |0,k,h=>absurd h (Nat.not_lt_zero _)
 |n+1,k,h=>by
  have hl:=mdL_len sl hd n
  unfold mdL
  by_cases e:k=n
  ·subst e
   refine ⟨?_,?_⟩<;>rw [List.getElem?_append_right (by omega)]<;>simp [hl]
  ·have:=mdL_get sl hd n k (by omega)
   refine ⟨?_,?_⟩<;>rw [List.getElem?_append_left (by omega)]
   ·exact this.1
   ·exact this.2
theorem mdL_congr {s s':Nat→Value} {h h':Nat→Bool}:∀{n},(∀k,k<n→s k=s' k∧h k=h' k)→mdL s h n=mdL s' h' n
 |0,_=>rfl
 |n+1,e=>by unfold mdL;rw [mdL_congr (fun k hk=>e k (by omega)),(e n (by omega)).1,(e n (by omega)).2]
theorem mdL_set (sl:Nat→Value) (hd:Nat→Bool):∀n k,k<n→(∀c,(mdL sl hd n).set (k*2) c=mdL (upF sl k c) hd n)∧(∀c,(mdL sl hd n).set (k*2+1) (.bool c)=mdL sl (upF hd k c) n)
 |0,k,h=>absurd h (Nat.not_lt_zero _)
 |n+1,k,h=>by
  have hl:=mdL_len sl hd n
  unfold mdL
  by_cases e:k=n
  ·subst e
   have hc:∀v,mdL (upF sl k v) hd k=mdL sl hd k:=fun v=>mdL_congr (fun j hj=>⟨upF_ne sl v (by omega),rfl⟩)
   have hc2:∀v,mdL sl (upF hd k v) k=mdL sl hd k:=fun v=>mdL_congr (fun j hj=>⟨rfl,upF_ne hd v (by omega)⟩)
   refine ⟨fun c=> ?_,fun c=> ?_⟩
   ·rw [List.set_append_right _ _ (by omega),hc,upF_eq,hl,show k*2-k*2=0 by omega];rfl
   ·rw [List.set_append_right _ _ (by omega),hc2,upF_eq,hl,show k*2+1-k*2=1 by omega];rfl
  ·obtain ⟨h1,h2⟩:=mdL_set sl hd n k (by omega)
   refine ⟨fun c=> ?_,fun c=> ?_⟩<;>rw [List.set_append_left _ _ (by omega),upF_ne _ _ (fun h=>e h.symm)]
   ·rw [h1]
   ·rw [h2]
def WsL (w:World) (P:Nat→Prop) (W:Nat→Nat) (v:Value):Prop:=∃b o cap,v=wsV b o cap∧SlO w 30 1 v 256 (wdL W 256)∧¬P b
structure MdS (w:World) (P:Nat→Prop) (v:Value) (sl:Nat→Value) (n:Nat) (W:Nat→Nat→Nat) (hd:Nat→Bool):Prop where
 m:SlO w 42 2 v n (mdL sl hd n)
 out:∀x,v.ownBlock=some x→¬P x
 ws:∀k,k<n→WsL w P (W k) (sl k)
 ne:∀k,k<n→∀x,v.ownBlock=some x→(sl k).ownBlock≠some x
abbrev PF (Y:Lay) (b:Nat) (x:Nat):Prop:=Y.F x∨x=b
def mW (D:DS) (l0:Nat) (k:Nat):Nat→Nat:=wd D (l0+32*k)
def mH (f:Nat→Int×Int×Bool) (k:Nat):Bool:=(f k).2.2
section
variable {w w':World} {Y Y':Lay} {P P':Nat→Prop} {v:Value} {sl:Nat→Value} {n k b:Nat} {W V:Nat→Nat→Nat} {U:Nat→Nat} {hd he:Nat→Bool}
theorem WsL.ext (h:WsL w P U v) (e:Ext w w'):WsL w' P U v:=by
 obtain ⟨b,o,cap,hv,hs,hp⟩:=h
 exact ⟨b,o,cap,hv,hs.ext e,hp⟩
theorem WsL.frm (h:WsL w P U v) (f:Frm P w w') (hP:∀x,P' x→P x∨w.heap.size≤x):WsL w' P' U v:=by
 obtain ⟨b,o,cap,rfl,hs,hp⟩:=h
 refine ⟨b,o,cap,rfl,hs.frm f (fun x hx=>by injection hx with hx;subst hx;exact hp),fun h2=> ?_⟩
 rcases hP b h2 with h3|h3
 ·exact hp h3
 ·have h9:b<w.heap.size:=hs.lt rfl;omega
theorem MdS.ext (h:MdS w P v sl n W hd) (e:Ext w w'):MdS w' P v sl n W hd:=⟨h.m.ext e,h.out,fun k hk=>(h.ws k hk).ext e,h.ne⟩
theorem MdS.frm (h:MdS w P v sl n W hd) (f:Frm P w w') (hP:∀x,P' x→P x∨w.heap.size≤x):MdS w' P' v sl n W hd:=by
 refine ⟨h.m.frm f h.out,fun x hx hp=> ?_,fun k hk=>(h.ws k hk).frm f hP,h.ne⟩
 rcases hP x hp with h3|h3
 ·exact h.out x hx h3
 ·have:=h.m.lt hx;omega
theorem MdS.astp (h:MdS w (PF Y b) v sl n W hd) (a:AStp w Y b w' Y'):MdS w' (PF Y' b) v sl n W hd:=h.frm a.frm (fun x hx=>by
 rcases hx with hx|hx
 ·rcases a.fr x hx with h1|h1
  ·exact .inl (.inl h1)
  ·exact .inr h1
 ·exact .inl (.inr hx))
theorem MdS.congr (h:MdS w P v sl n W hd) (hW:∀k,k<n→∀i,i<256→W k i=V k i) (hh:∀k,k<n→hd k=he k):MdS w P v sl n V he:=by
 refine ⟨?_,h.out,fun k hk=> ?_,h.ne⟩
 ·have:=h.m
  rwa [mdL_congr (fun k hk=>⟨rfl,hh k hk⟩)] at this
 ·obtain ⟨b,o,cap,hv,hs,hp⟩:=h.ws k hk
  rw [wdL_congr (hW k hk)] at hs
  exact ⟨b,o,cap,hv,hs,hp⟩
theorem MdS.nil (w:World) (P:Nat→Prop) (sl:Nat→Value) (W:Nat→Nat→Nat) (hd:Nat→Bool):MdS w P (.slice none 0 0) sl 0 W hd:=⟨SlO.nil _ _ _,fun x hx=>(by cases hx),fun k hk=>absurd hk (Nat.not_lt_zero _),fun k hk=>absurd hk (Nat.not_lt_zero _)⟩
theorem MdS.get (h:MdS w P v sl n W hd) (hk:k<n):∃b o cap g q cp,v= .slice (some ⟨g,q,none⟩) n cp∧w.cell? ⟨g,q+k*2,none⟩=some (wsV b o cap)∧w.cell? ⟨g,q+k*2+1,none⟩=some (.bool (hd k))∧Wm w b o (W k)∧sl k=wsV b o cap:=by
 obtain ⟨b,o,cap,hv,hs,hp⟩:=h.ws k hk
 obtain ⟨g,q,cp,rfl,_⟩:=h.m.isS (by omega)
 have hg:=mdL_get sl hd n k hk
 have c0:=h.m.cell rfl hg.1
 have c1:=h.m.cell rfl hg.2
 rw [←Nat.add_assoc] at c1
 rw [hv] at c0 hs
 exact ⟨b,o,cap,g,q,cp,rfl,c0,c1,Wm.of_sl hs,hv⟩
theorem WsL.new {m:Nat} {b o cap:Nat} (hs:SlO w 30 1 (wsV b o cap) 256 (wdL U 256)) (hb:m≤b) (hP:∀x,P x→x<m):WsL w P U (wsV b o cap):=⟨b,o,cap,rfl,hs,fun h=>by have:=hP b h;omega⟩
end
theorem elMd:ElT prog 29 29 42 2 32 (.agg #[.slice none 0 0,.bool false]):=el_29_29
section
variable {w w':World} {P:Nat→Prop} {v:Value} {sl:Nat→Value} {n k b o cap:Nat} {W:Nat→Nat→Nat} {U:Nat→Nat} {hd:Nat→Bool}
theorem k_push (h:MdS w P v sl n W hd) (hP:∀x,P x→x<w.heap.size) (hs:WsL w P U (wsV b o cap)) (hne:v.ownBlock≠some b) (mm:Bool) (hn:n<1000) {xb:Nat} {cs:Array Bool} (hc0:w.cell? ⟨xb,0,none⟩=some (wsV b o cap)) (hc1:w.cell? ⟨xb,1,none⟩=some (.bool mm)) (K:K1)
  (hK:∀v' w',Frm (fun x=>v.ownBlock=some x) w w'→(∀x,v'.ownBlock=some x→v.ownBlock=some x∨w.heap.size≤x)→MdS w' P v' (upF sl n (wsV b o cap)) (n+1) (upF W n U) (upF hd n mm)→K v' w'):
  bltS prog .append #[29,29] 29 cs #[v,.slice (some ⟨xb,0,none⟩) 1 1] w K:=by
 refine blt_append elMd h.m (m:=1) (news:= [wsV b o cap,.bool mm]) rfl ?_ rfl (by omega) (by omega) (by omega) (fun v' w' hs' hf hb _=> ?_)
 ·intro j u hj
  rcases j with _|_|j
  ·simp at hj;rw [←hj];exact hc0
  ·simp at hj;rw [←hj];exact hc1
  ·simp at hj
 ·obtain ⟨b',o',cap',hv',hsl,hp⟩:=hs
  injection hv' with e1 _ e3
  injection e1 with e1
  injection e1 with e4 e5 _
  subst e4;subst e5;subst e3
  have ltb:b<w.heap.size:=hsl.lt rfl
  refine hK v' w' hf hb ⟨?_,fun x hx hp2=> ?_,fun k hk=> ?_,fun k hk x hx=> ?_⟩
  ·have e:mdL (upF sl n (wsV b o cap)) (upF hd n mm) (n+1)=mdL sl hd n++ [wsV b o cap,.bool mm]:=by
    show mdL (upF sl n (wsV b o cap)) (upF hd n mm) n++ [upF sl n (wsV b o cap) n,.bool (upF hd n mm n)]=_
    rw [upF_eq,upF_eq,mdL_congr (fun k hk=>⟨upF_ne sl _ (by omega),upF_ne hd _ (by omega)⟩)]
   rw [e];exact hs'
  ·rcases hb x hx with h1|h1
   ·exact h.out x h1 hp2
   ·have:=hP x hp2;omega
  ·by_cases e:k=n
   ·subst e
    rw [upF_eq,upF_eq]
    exact ⟨b,o,cap,rfl,hsl.frm hf (fun x hx h2=>by
     have h9:b=x:=Option.some.inj hx
     subst h9;exact hne h2),hp⟩
   ·rw [upF_ne _ _ e,upF_ne _ _ e]
    obtain ⟨b2,o2,cap2,h2,hs2,hp2⟩:=h.ws k (by omega)
    exact ⟨b2,o2,cap2,h2,hs2.frm hf (fun x hx h3=>h.ne k (by omega) x h3 hx),hp2⟩
  ·by_cases e:k=n
   ·subst e
    rw [upF_eq]
    intro h2
    have h9:b=x:=Option.some.inj h2
    subst h9
    rcases hb b hx with h1|h1
    ·exact hne h1
    ·omega
   ·rw [upF_ne _ _ e]
    intro h2
    rcases hb x hx with h1|h1
    ·exact h.ne k (by omega) x h1 h2
    ·obtain ⟨b2,o2,cap2,h3,hs2,_⟩:=h.ws k (by omega)
     have:=hs2.lt h2;omega
end
abbrev mcO (b o cap:Nat) (m:Bool):Obj:= .cells #[wsV b o cap,.bool m] 42
section
variable {w w':World} {P:Nat→Prop} {D:DS} {l b o cap l0 n k:Nat} {U:Nat→Nat} {f:Nat→Int×Int×Bool} {c:Int}
theorem k_Head (hW:Wm w b o U) (h0:U 0<18446744073709551616) (m:Bool) (K:K1) (hK:∀w',Ext w w'→K (.agg #[.int .i64 (hC (U 0)),.int .i64 (hO (U 0)),.int .u16 (gX (U 0):Int)]) w'):
  callS prog 49 #[.agg #[wsV b o cap,.bool m]] w K:=by
 have q0:w.cell? ⟨b,o,none⟩=some (u64 (U 0)):=by have:=hW.cell (i:=0) (by omega);rwa [Nat.add_zero] at this
 have hb:=lt_of_cell q0
 have hlk:=fun (w:World) (K:K1) hK=>k_rLook (w:=w) (U 0) h0 K hK
 generalize U 0=x at*
 generalize hC x=cc at*
 generalize hO x=oo at*
 generalize gX x=gg at*
 refine f49_call _ _ _ ?_
 unfold f49_t
 simp (disch:=first|omega|simp only [RO]|(simp only [RZ]<;>omega)|fail) only [↓RBp,↓RA,↓reduceIte,Nat.reduceAdd,Nat.reduceMul,Nat.reduceEqDiff,RB,RX,RA2,q0,Int.reduceToNat,Nat.add_zero]
 refine hlk _ _ (fun w1 e1=> ?_)
 have hC:=Cells.new (w.alloc (mcO b o cap m)) [Value.int .i64 0,.int .i64 0,.int .u16 ((0:Nat):Int)] 36
 rw [size_alloc] at hC
 have hC0:=hC.ext e1
 have lt1:=hC0.lt
 have z0:=hC0.cell (i:=0) (by simp)
 have z1:=hC0.cell (i:=1) (by simp)
 have z2:=hC0.cell (i:=2) (by simp)
 have hfz:=hC0.frz
 have hD:=cells3C hC0 (Value.int .i64 cc) (.int .i64 oo) (.int .u16 (gg:Int))
 have d0:=hD.cell (i:=0) (by simp)
 have d1:=hD.cell (i:=1) (by simp)
 have d2:=hD.cell (i:=2) (by simp)
 simp (disch:=first|omega|simp only [RO]|(simp only [RZ]<;>omega)|fail) only [↓RBp,↓RA,↓reduceIte,Nat.reduceAdd,Nat.reduceMul,Nat.reduceEqDiff,RB,RX,RA2,z0,z1,z2,hfz,d0,d1,d2]
 exact hK _ (by repeat (first|(with_reducible first|refine Sh.eB ?_ _|assumption|exact Sh.eR _|refine Sh.eA ?_ _|refine Sh.eD ?_|refine Sh.eT ?_ (by assumption))|exact Sh.eR _))
theorem RgS.wdl (h:RgS D l0 n f) (hk:k<n):∀j,j<256→wd D (l0+32*k) j<18446744073709551616:=fun j hj=>by
 unfold wd
 exact h.gd.cur _ (by have:=h.lt;omega)
theorem k_empty (h:RgS D l0 n f) (hk:k<n) (hW:Wm w b o (wd D (l0+32*k))) (K:K1) (hK:∀w',Ext w w'→K (.tuple #[.int .u16 (((emG D l0 f k).getD 0:Nat):Int),.bool (emG D l0 f k).isSome]) w'):
  callS prog 88 #[.agg #[wsV b o cap,.bool (f k).2.2]] w K:=by
 have hcl:=h.cls hk
 have hl:=h.wdl hk
 have ha:=h.ag k hk
 have hsn:=h.sn k hk
 have hb:=lt_of_cell (hW.cell (i:=0) (by omega))
 have hhd:=fun (w1:World) (e:Ext w w1) (K:K1) hK=>k_Head (hW.ext e) (hl 0 (by omega)) (cap:=cap) (f k).2.2 K hK
 rw [←ha.2.1,←ha.2.2] at hhd
 have hnx:=fun (w1:World) (e:Ext w w1) (c0:0≤(f k).1) (K:K1) hK=>k_rNext (cw:=cap) (hW.ext e) hl (hsn c0) c0 hcl.1 K hK
 unfold emG at hK
 refine f88_call _ _ _ ?_
 unfold f88_t
 have hC0:=Cells.new w [wsV b o cap,.bool (f k).2.2] 42
 generalize gX (wd D (l0+32*k) 0)=gg at*
 generalize (f k).2.2=mm at*
 generalize (f k).2.1=oo at*
 generalize mxG D (l0+32*k) (f k).1 (perS (f k).1).toNat=mx at*
 generalize alF D (l0+32*k) (f k).1 (perS (f k).1).toNat=al at*
 generalize (f k).1=cc at*
 (repeat' (first|(with_reducible first|refine brS_mk (fun _=> ?_) (fun _=> ?_)|refine And.intro ?_ ?_)|(simp (disch:=first|omega|simp only [RO]|(simp only [RZ]<;>omega)|fail) only [↓RBp,↓RA,↓reduceIte,Nat.reduceAdd,Nat.reduceMul,Nat.reduceEqDiff,RB,RX,RA2])))
 refine hhd _ (by repeat (first|(with_reducible first|refine Sh.eB ?_ _|assumption|exact Sh.eR _|refine Sh.eA ?_ _|refine Sh.eD ?_|refine Sh.eT ?_ (by assumption))|exact Sh.eR _)) _ (fun w1 e1=> ?_)
 have hC1:=hC0.ext e1
 have lt1:=hC1.lt
 have p0:=hC1.cell (i:=0) (by simp)
 have p1:=hC1.cell (i:=1) (by simp)
 by_cases c0:cc<0
 ·rw [if_pos c0] at hK
  (repeat' (first|(with_reducible first|refine brS_mk (fun _=> ?_) (fun _=> ?_)|refine And.intro ?_ ?_)|(simp (disch:=first|omega|simp only [RO]|(simp only [RZ]<;>omega)|fail) only [↓RBp,↓RA,↓reduceIte,Nat.reduceAdd,Nat.reduceMul,Nat.reduceEqDiff,RB,RX,RA2,p0,p1,c0])))
  exact hK _ (by repeat (first|(with_reducible first|refine Sh.eB ?_ _|assumption|exact Sh.eR _|refine Sh.eA ?_ _|refine Sh.eD ?_|refine Sh.eT ?_ (by assumption))|exact Sh.eR _))
 ·rw [if_neg c0] at hK
  cases mm with
  |true=>
   rw [if_pos rfl] at hK
   (repeat' (first|(with_reducible first|refine brS_mk (fun _=> ?_) (fun _=> ?_)|refine And.intro ?_ ?_)|(simp (disch:=first|omega|simp only [RO]|(simp only [RZ]<;>omega)|fail) only [↓RBp,↓RA,↓reduceIte,Nat.reduceAdd,Nat.reduceMul,Nat.reduceEqDiff,RB,RX,RA2,p0,p1,c0])))
   exact hK _ (by repeat (first|(with_reducible first|refine Sh.eB ?_ _|assumption|exact Sh.eR _|refine Sh.eA ?_ _|refine Sh.eD ?_|refine Sh.eT ?_ (by assumption))|exact Sh.eR _))
  |false=>
   rw [if_neg (by decide)] at hK
   (repeat' (first|(with_reducible first|refine brS_mk (fun _=> ?_) (fun _=> ?_)|refine And.intro ?_ ?_)|(simp (disch:=first|omega|simp only [RO]|(simp only [RZ]<;>omega)|fail) only [↓RBp,↓RA,↓reduceIte,Nat.reduceAdd,Nat.reduceMul,Nat.reduceEqDiff,RB,RX,RA2,p0,p1,c0])))
   refine hnx _ (by repeat (first|(with_reducible first|refine Sh.eB ?_ _|assumption|exact Sh.eR _|refine Sh.eA ?_ _|refine Sh.eD ?_|refine Sh.eT ?_ (by assumption))|exact Sh.eR _)) (by omega) _ (fun w2 e2=> ?_)
   cases al with
   |true=>
    rw [if_pos rfl] at hK
    (repeat' (first|(with_reducible first|refine brS_mk (fun _=> ?_) (fun _=> ?_)|refine And.intro ?_ ?_)|(simp (disch:=first|omega|simp only [RO]|(simp only [RZ]<;>omega)|fail) only [↓RBp,↓RA,↓reduceIte,Nat.reduceAdd,Nat.reduceMul,Nat.reduceEqDiff,RB,RX,RA2])))
    exact hK _ (by repeat (first|(with_reducible first|refine Sh.eB ?_ _|assumption|exact Sh.eR _|refine Sh.eA ?_ _|refine Sh.eD ?_|refine Sh.eT ?_ (by assumption))|exact Sh.eR _))
   |false=>
    rw [if_neg (by decide)] at hK
    (repeat' (first|(with_reducible first|refine brS_mk (fun _=> ?_) (fun _=> ?_)|refine And.intro ?_ ?_)|(simp (disch:=first|omega|simp only [RO]|(simp only [RZ]<;>omega)|fail) only [↓RBp,↓RA,↓reduceIte,Nat.reduceAdd,Nat.reduceMul,Nat.reduceEqDiff,RB,RX,RA2])))
    exact hK _ (by repeat (first|(with_reducible first|refine Sh.eB ?_ _|assumption|exact Sh.eR _|refine Sh.eA ?_ _|refine Sh.eD ?_|refine Sh.eT ?_ (by assumption))|exact Sh.eR _))
theorem k_clear (hs:SlO w 30 1 (wsV b o cap) 256 (wdL U 256)) (m:Bool) {g:Nat} (hg:g<65536) (K:K1)
  (hK:∀b' o' cap' w',Ext w w'→w.heap.size≤b'→SlO w' 30 1 (wsV b' o' cap') 256 (wdL (fun i=>if i=0 then sealN (hdX (-1) (-1) g) else U i) 256)→K (.agg #[wsV b' o' cap',.bool false]) w'):
  callS prog 89 #[.agg #[wsV b o cap,.bool m],.int .u16 (g:Int)] w K:=by
 have hfi:∀(w:World) (K:K1),callS prog 45 #[.agg #[.int .i64 (-1),.int .i64 (-1),.int .u16 (g:Int)]] w K=K (.int .u64 ((sealN (hdX (-1) (-1) g):Nat):Int)) (w.alloc (rhO (-1) (-1) g)):=fun w K=>c_rFirst (-1) (-1) g w K hg (.inl ⟨rfl,rfl⟩)
 have hlt:=hs.lt rfl
 have hC0:=Cells.new (w.alloc (mcO b o cap m)) [Value.slice none 0 0,.bool false] 42
 rw [size_alloc] at hC0
 refine f89_call _ _ _ _ ?_
 unfold f89_t
 simp (disch:=first|omega|simp only [RO]|(simp only [RZ]<;>omega)|fail) only [↓RBp,↓RA,↓reduceIte,Nat.reduceAdd,Nat.reduceMul,Nat.reduceEqDiff,RB,RX,RA2]
 have lz:(wdL U 256).length=256:=by simp [wdL]
 refine app_new elU64 (w0:=(w.alloc (mcO b o cap m)).alloc (.cells #[.slice none 0 0,.bool false] 42)) (SlO.nil _ _ _) (Frm.refl _ _) (fun b hb=>by cases hb) (m:=256) (news:=wdL U 256) (by rw [lz]) (fun j u hj=>(hs.ext (by repeat (first|(with_reducible first|refine Sh.eB ?_ _|assumption|exact Sh.eR _|refine Sh.eA ?_ _|refine Sh.eD ?_|refine Sh.eT ?_ (by assumption))|exact Sh.eR _))).cell rfl hj) (by kernel_rfl) (by omega) (by omega) (by omega) (fun v1 w1 s1 f1 n1 fr1 _=> ?_)
 rw [Nat.zero_add,List.nil_append] at s1
 have e1:=f1.to_ext (fun _ _ h=>h)
 obtain ⟨b1,o1,cap1,rfl,hbc⟩:=s1.isS (by omega)
 have hb1:=n1 b1 rfl
 have hup:=SlO.upd s1 (u64 (sealN (hdX (-1) (-1) g))) (i:=0) (by omega)
 rw [wdL_set,Nat.add_zero] at hup
 have hfz:=fun i=>s1.frz (b:=b1) rfl i
 have hc:=s1.cell rfl (wdL_get (W:=U) (n:=256) (j:=0) (by omega))
 rw [Nat.add_zero] at hc
 have hlt1:=lt_of_cell hc
 have hC1:=hC0.ext e1
 simp only [RZ] at hb1
 have hC2:=hC1.set_ne (a:=⟨b1,o1,none⟩) (u64 (sealN (hdX (-1) (-1) g))) (show w.heap.size+1≠b1 by omega)
 have z0:=hC2.cell (i:=0) (by simp)
 have z1:=hC2.cell (i:=1) (by simp)
 have hfz1:=hC2.frz
 have hC3:=(hC2.set (i:=0) (wsV b1 o1 cap1) (by simp)).set (i:=1) (.bool false) (by simp)
 have d0:=hC3.cell (i:=0) (by simp)
 have d1:=hC3.cell (i:=1) (by simp)
 rw [if_neg (by omega),if_pos rfl] at d0
 rw [if_pos rfl] at d1
 (repeat' (first|(with_reducible first|refine brS_mk (fun _=> ?_) (fun _=> ?_)|refine And.intro ?_ ?_)|(simp (disch:=first|omega|simp only [RO]|(simp only [RZ]<;>omega)|fail) only [↓RBp,↓RA,↓reduceIte,Nat.reduceAdd,Nat.reduceMul,Nat.reduceEqDiff,RB,RX,RA2,hfi,hfz,hc,z0,z1,hfz1,d0,d1,Int.reduceToNat,Nat.add_zero])))
 have nb:∀x,(wsV b1 o1 cap1).ownBlock=some x→¬x=w.heap.size+1:=fun x hx=>by have h9:b1=x:=Option.some.inj hx;omega
 have hup2:=(hup.frm (Frm.one _ (w.heap.size+1) 0 (wsV b1 o1 cap1)) nb).frm (Frm.one _ (w.heap.size+1) 1 (.bool false)) nb
 refine hK b1 o1 cap1 _ ?_ (by omega) (hup2.ext (Ext.alloc_self _ _))
 refine Ext.alloc ?_ _
 refine Ext.setB ?_ (show w.heap.size≤w.heap.size+1 by omega) _
 refine Ext.setB ?_ (show w.heap.size≤w.heap.size+1 by omega) _
 exact Ext.setB (Ext.trans (by repeat (first|(with_reducible first|refine Sh.eB ?_ _|assumption|exact Sh.eR _|refine Sh.eA ?_ _|refine Sh.eD ?_|refine Sh.eT ?_ (by assumption))|exact Sh.eR _)) e1) (show w.heap.size≤b1 by omega) _
end
theorem allOne_app (a b:List Value):allOne (a++b)=(allOne a&&allOne b):=by
 induction a with
 |nil=>rfl
 |cons x a ih=>simp only [List.cons_append,allOne,ih,Bool.and_assoc]
section
variable {w0 w w':World} {P:Nat→Prop} {v:Value} {sl:Nat→Value} {n k b o cap g q cp l0:Nat} {W:Nat→Nat→Nat} {U:Nat→Nat} {hd:Nat→Bool} {D:DS} {f:Nat→Int×Int×Bool}
theorem mdL_one:∀n,(∀k,k<n→∃b o cap,sl k=wsV b o cap)→allOne (mdL sl hd n)=true
 |0,_=>rfl
 |n+1,h=>by
  obtain ⟨b,o,cap,e⟩:=h n (by omega)
  unfold mdL
  rw [allOne_app,mdL_one n (fun k hk=>h k (by omega)),e];rfl
theorem k_copy (h:MdS w P v sl n W hd) (hP:∀x,P x→x<w.heap.size) (n0:0<n) (hn:n<1000) {cs:Array Bool} (K:K1)
  (hK:∀g q cp w',Ext w w'→w.heap.size≤g→MdS w' P (.slice (some ⟨g,q,none⟩) n cp) sl n W hd→K (.slice (some ⟨g,q,none⟩) n cp) w'):
  bltS prog .append #[29,29] 29 cs #[.slice none 0 0,v] w K:=by
 obtain ⟨vg,vq,vcp,rfl,_⟩:=h.m.isS n0
 refine blt_append elMd (SlO.nil _ _ _) (m:=n) (news:=mdL sl hd n) (mdL_len sl hd n) (fun j u hj=>h.m.cell rfl hj) (mdL_one n (fun k hk=>by obtain ⟨b,o,cap,e,_⟩:=h.ws k hk;exact ⟨b,o,cap,e⟩)) n0 (by omega) (by omega) (fun v' w' hs' hf hb _=> ?_)
 rw [Nat.zero_add,List.nil_append] at hs'
 have e:Ext w w':=hf.to_ext (fun x _ hx=>by cases hx)
 obtain ⟨g,q,cp,rfl,_⟩:=hs'.isS n0
 have hg:w.heap.size≤g:=by
  rcases hb g rfl with h1|h1
  ·cases h1
  ·exact h1
 refine hK g q cp w' e hg ⟨hs',fun x hx hp=> ?_,fun k hk=>(h.ws k hk).ext e,fun k hk x hx h2=> ?_⟩
 ·have h9:g=x:=Option.some.inj hx
  subst h9
  have:=hP g hp;omega
 ·have h9:g=x:=Option.some.inj hx
  subst h9
  obtain ⟨b2,o2,cap2,h3,hs2,_⟩:=h.ws k hk
  have:=hs2.lt h2;omega
theorem MdS.wr (h:MdS w P (.slice (some ⟨g,q,none⟩) n cp) sl n W hd) (hk:k<n) (hs:WsL w P U (wsV b o cap)) (hb:b≠g) (mm:Bool):MdS ((w.setCell ⟨g,q+k*2,none⟩ (wsV b o cap)).setCell ⟨g,q+k*2+1,none⟩ (.bool mm)) P (.slice (some ⟨g,q,none⟩) n cp) (upF sl k (wsV b o cap)) n (upF W k U) (upF hd k mm):=by
 have h1:=SlO.updZ h.m (wsV b o cap) (show k*2<n*2 by omega)
 rw [(mdL_set sl hd n k hk).1] at h1
 have h2:=SlO.updZ h1 (.bool mm) (show k*2+1<n*2 by omega)
 rw [(mdL_set _ hd n k hk).2,←Nat.add_assoc] at h2
 have fr:Frm (fun x=>x=g) w ((w.setCell ⟨g,q+k*2,none⟩ (wsV b o cap)).setCell ⟨g,q+k*2+1,none⟩ (.bool mm)):=(Frm.one w g (q+k*2) (wsV b o cap)).set _ (fun _=>rfl)
 refine ⟨h2,h.out,fun j hj=> ?_,fun j hj x hx=> ?_⟩
 ·by_cases e:j=k
  ·subst e
   rw [upF_eq,upF_eq]
   obtain ⟨b',o',cap',hv',hsl,hp⟩:=hs
   injection hv' with e1 _ e3
   injection e1 with e1
   injection e1 with e4 e5 _
   subst e4;subst e5;subst e3
   exact ⟨b,o,cap,rfl,hsl.frm fr (fun x hx h2=>by
    have h9:b=x:=Option.some.inj hx
    exact hb (h9.trans h2)),hp⟩
  ·rw [upF_ne _ _ e,upF_ne _ _ e]
   obtain ⟨b2,o2,cap2,h3,hs2,hp2⟩:=h.ws j hj
   exact ⟨b2,o2,cap2,h3,hs2.frm fr (fun x hx h4=>by
    subst h4
    exact h.ne j hj x rfl hx),hp2⟩
 ·by_cases e:j=k
  ·subst e
   rw [upF_eq]
   intro h2
   have h8:g=x:=Option.some.inj hx
   have h9:b=x:=Option.some.inj h2
   exact hb (h9.trans h8.symm)
  ·rw [upF_ne _ _ e]
   exact h.ne j hj x hx
theorem MdS.wr1 (h:MdS w P (.slice (some ⟨g,q,none⟩) n cp) sl n W hd) (hk:k<n) (mm:Bool):MdS (w.setCell ⟨g,q+k*2+1,none⟩ (.bool mm)) P (.slice (some ⟨g,q,none⟩) n cp) sl n W (upF hd k mm):=by
 have h2:=SlO.updZ h.m (.bool mm) (show k*2+1<n*2 by omega)
 rw [(mdL_set _ hd n k hk).2,←Nat.add_assoc] at h2
 refine ⟨h2,h.out,fun j hj=> ?_,h.ne⟩
 obtain ⟨b2,o2,cap2,h3,hs2,hp2⟩:=h.ws j hj
 exact ⟨b2,o2,cap2,h3,hs2.frm (Frm.one w g (q+k*2+1) (.bool mm)) (fun x hx h4=>by
  subst h4
  exact h.ne j hj x rfl hx),hp2⟩
theorem MdS.wr0 (h:MdS w P (.slice (some ⟨g,q,none⟩) n cp) sl n W hd) (hk:k<n) (hs:WsL w P U (wsV b o cap)) (hb:b≠g):MdS (w.setCell ⟨g,q+k*2,none⟩ (wsV b o cap)) P (.slice (some ⟨g,q,none⟩) n cp) (upF sl k (wsV b o cap)) n (upF W k U) hd:=by
 have h1:=SlO.updZ h.m (wsV b o cap) (show k*2<n*2 by omega)
 rw [(mdL_set sl hd n k hk).1] at h1
 have fr:=Frm.one w g (q+k*2) (wsV b o cap)
 refine ⟨h1,h.out,fun j hj=> ?_,fun j hj x hx=> ?_⟩
 ·by_cases e:j=k
  ·subst e
   rw [upF_eq,upF_eq]
   obtain ⟨b',o',cap',hv',hsl,hp⟩:=hs
   injection hv' with e1 _ e3
   injection e1 with e1
   injection e1 with e4 e5 _
   subst e4;subst e5;subst e3
   exact ⟨b,o,cap,rfl,hsl.frm fr (fun x hx h2=>by
    have h9:b=x:=Option.some.inj hx
    exact hb (h9.trans h2)),hp⟩
  ·rw [upF_ne _ _ e,upF_ne _ _ e]
   obtain ⟨b2,o2,cap2,h3,hs2,hp2⟩:=h.ws j hj
   exact ⟨b2,o2,cap2,h3,hs2.frm fr (fun x hx h4=>by
    subst h4
    exact h.ne j hj x rfl hx),hp2⟩
 ·by_cases e:j=k
  ·subst e
   rw [upF_eq]
   intro h2
   have h8:g=x:=Option.some.inj hx
   have h9:b=x:=Option.some.inj h2
   exact hb (h9.trans h8.symm)
  ·rw [upF_ne _ _ e]
   exact h.ne j hj x hx
theorem RgS.agm (h:RgS D l0 n f) (hm:MdS w P v sl n (mW D l0) (mH f)):∀k,k<n→∃b o cap g q cp,v= .slice (some ⟨g,q,none⟩) n cp∧g<w.heap.size∧w.cell? ⟨g,q+k*2,none⟩=some (wsV b o cap)∧w.cell? ⟨g,q+k*2+1,none⟩=some (.bool (f k).2.2)∧Wm w b o (wd D (l0+32*k))∧sl k=wsV b o cap∧SlO w 30 1 (wsV b o cap) 256 (wdL (wd D (l0+32*k)) 256)∧∀(w1:World) (K:K1),Ext w w1→(∀w',Ext w1 w'→K (.agg #[.int .i64 (f k).1,.int .i64 (f k).2.1,.int .u16 (gX (wd D (l0+32*k) 0):Int)]) w')→callS prog 49 #[.agg #[wsV b o cap,.bool (f k).2.2]] w1 K:=by
 intro k hk
 obtain ⟨b,o,cap,g,q,cp,hv,c0,c1,hw,hs⟩:=hm.get hk
 obtain ⟨b',o',cap',hv',hsl,hp⟩:=hm.ws k hk
 rw [hv'] at hs
 injection hs with e1 _ e3
 injection e1 with e1
 injection e1 with e4 e5 _
 subst e4;subst e5;subst e3
 have ha:=h.ag k hk
 refine ⟨b',o',cap',g,q,cp,hv,lt_of_cell c0,c0,c1,hw,hv',by rw [hv'] at hsl;exact hsl,fun w1 K e hK=> ?_⟩
 refine k_Head (hw.ext e) (h.wdl hk 0 (by omega)) (f k).2.2 K ?_
 show ∀w',Ext w1 w'→K (.agg #[.int .i64 (hC (wd D (l0+32*k) 0)),.int .i64 (hO (wd D (l0+32*k) 0)),.int .u16 (gX (wd D (l0+32*k) 0):Int)]) w'
 rw [←ha.2.1,←ha.2.2]
 exact hK
theorem k_rHold (h:RgS D l0 n f) (hm:MdS w P v sl n (mW D l0) (mH f)) (hP:∀x,P x→x<w.heap.size) (n0:0<n) (hn:n<1000) (a:Int) (on:Bool) (K:K1)
  (h5:¬(0≤a∧a<n)→∀w',Ext w w'→K (.tuple #[v,.int .i64 5]) w')
  (h8:∀k:Nat,a=(k:Int)→k<n→(f k).1<0→∀w',Ext w w'→K (.tuple #[v,.int .i64 8]) w')
  (hK:∀k:Nat,a=(k:Int)→k<n→¬(f k).1<0→∀v' w',Ext w w'→MdS w' P v' sl n (mW D l0) (mH (upF f k ((f k).1,(f k).2.1,on)))→K (.tuple #[v',.int .i64 0]) w'):
  callS prog 52 #[v,.int .i64 a,.bool on] w K:=by
 obtain ⟨_,_,_,vg,vq,vcp,rfl,_⟩:=h.agm hm 0 n0
 refine f52_call _ _ _ _ _ ?_
 unfold f52_t
 by_cases ha0:a<0
 ·simp (disch:=first|omega|simp only [RO]|(simp only [RZ]<;>omega)|fail) only [↓RBp,↓RA,↓reduceIte,Nat.reduceAdd,Nat.reduceMul,Nat.reduceEqDiff,RB,RX,RA2,ha0]
  exact h5 (by omega) _ (Ext.refl _)
 ·obtain ⟨k,rfl⟩:∃k:Nat,a=(k:Int):=⟨a.toNat,by omega⟩
  by_cases hkn:k<n
  ·have h8:=h8 k rfl hkn
   have hK:=hK k rfl hkn
   obtain ⟨b,o,cap,g,q,cp,hv,ltg,c0,c1,hw,hsk,hsl,hh⟩:=h.agm hm k hkn
   injection hv with e1 _ e3
   injection e1 with e1
   injection e1 with e4 e5 _
   subst e4;subst e5;subst e3
   generalize gX (wd D (l0+32*k) 0)=gg at*
   generalize hm1:(f k).2.2=mm at*
   generalize hm2:(f k).2.1=oo at*
   generalize hm3:(f k).1=cc at*
   by_cases hc:cc<0
   ·simp (disch:=first|omega|simp only [RO]|(simp only [RZ]<;>omega)|fail) only [↓RBp,↓RA,↓reduceIte,Nat.reduceAdd,Nat.reduceMul,Nat.reduceEqDiff,RB,RX,RA2,c0,c1]
    refine hh _ _ (by repeat (first|(with_reducible first|refine Sh.eB ?_ _|assumption|exact Sh.eR _|refine Sh.eA ?_ _|refine Sh.eD ?_|refine Sh.eT ?_ (by assumption))|exact Sh.eR _)) (fun w1 e1=> ?_)
    simp (disch:=first|omega|simp only [RO]|(simp only [RZ]<;>omega)|fail) only [↓RBp,↓RA,↓reduceIte,Nat.reduceAdd,Nat.reduceMul,Nat.reduceEqDiff,RB,RX,RA2,hc]
    exact h8 hc _ (by repeat (first|(with_reducible first|refine Sh.eB ?_ _|assumption|exact Sh.eR _|refine Sh.eA ?_ _|refine Sh.eD ?_|refine Sh.eT ?_ (by assumption))|exact Sh.eR _))
   ·simp (disch:=first|omega|simp only [RO]|(simp only [RZ]<;>omega)|fail) only [↓RBp,↓RA,↓reduceIte,Nat.reduceAdd,Nat.reduceMul,Nat.reduceEqDiff,RB,RX,RA2,c0,c1]
    refine hh _ _ (by repeat (first|(with_reducible first|refine Sh.eB ?_ _|assumption|exact Sh.eR _|refine Sh.eA ?_ _|refine Sh.eD ?_|refine Sh.eT ?_ (by assumption))|exact Sh.eR _)) (fun w1 e1=> ?_)
    have e01:Ext w w1:=Ext.trans (by repeat (first|(with_reducible first|refine Sh.eB ?_ _|assumption|exact Sh.eR _|refine Sh.eA ?_ _|refine Sh.eD ?_|refine Sh.eT ?_ (by assumption))|exact Sh.eR _)) e1
    simp (disch:=first|omega|simp only [RO]|(simp only [RZ]<;>omega)|fail) only [↓RBp,↓RA,↓reduceIte,Nat.reduceAdd,Nat.reduceMul,Nat.reduceEqDiff,RB,RX,RA2,hc]
    refine k_copy (hm.ext e01) (fun x hx=>Nat.lt_of_lt_of_le (hP x hx) e01.size) n0 hn _ (fun g q cp w2 e2 hg m2=> ?_)
    have m3:=m2.wr1 hkn on
    have d1:=m2.m.cell rfl (mdL_get sl (mH f) n k hkn).2
    rw [←Nat.add_assoc] at d1
    have fz:=fun i=>m2.m.frz (b:=g) rfl i
    have e02:=e01.trans e2
    have hs1:=e01.size
    simp (disch:=first|omega|simp only [RO]|(simp only [RZ]<;>omega)|fail) only [↓RBp,↓RA,↓reduceIte,Nat.reduceAdd,Nat.reduceMul,Nat.reduceEqDiff,RB,RX,RA2,d1,fz]
    refine hK hc _ _ ?_ (m3.congr (fun _ _ _ _=>rfl) (fun j hj=> ?_))
    ·exact Ext.setB e02 (show w.heap.size≤g by omega) _
    ·unfold mH upF
     by_cases e:j=k
     ·rw [if_pos e,if_pos e]
     ·rw [if_neg e,if_neg e]
  ·simp (disch:=first|omega|simp only [RO]|(simp only [RZ]<;>omega)|fail) only [↓RBp,↓RA,↓reduceIte,Nat.reduceAdd,Nat.reduceMul,Nat.reduceEqDiff,RB,RX,RA2,hkn]
   exact h5 (by omega) _ (Ext.refl _)
theorem k_rRelease (h:RgS D l0 n f) (hm:MdS w P v sl n (mW D l0) (mH f)) (hP:∀x,P x→x<w.heap.size) (n0:0<n) (hn:n<1000) (a:Int) (K:K1)
  (h5:¬(0≤a∧a<n)→∀w',Ext w w'→K (.tuple #[v,.int .i64 5]) w')
  (h8:∀k:Nat,a=(k:Int)→k<n→emG D l0 f k=none→∀w',Ext w w'→K (.tuple #[v,.int .i64 8]) w')
  (hK:∀(k:Nat) (g:Nat),a=(k:Int)→k<n→emG D l0 f k=some g→∀v' sl' w',Ext w w'→MdS w' P v' sl' n (upF (mW D l0) k (fun i=>if i=0 then sealN (hdX (-1) (-1) g) else wd D (l0+32*k) i)) (upF (mH f) k false)→K (.tuple #[v',.int .i64 0]) w'):
  callS prog 51 #[v,.int .i64 a] w K:=by
 obtain ⟨_,_,_,vg,vq,vcp,rfl,_⟩:=h.agm hm 0 n0
 refine f51_call _ _ _ _ ?_
 unfold f51_t
 by_cases ha0:a<0
 ·simp (disch:=first|omega|simp only [RO]|(simp only [RZ]<;>omega)|fail) only [↓RBp,↓RA,↓reduceIte,Nat.reduceAdd,Nat.reduceMul,Nat.reduceEqDiff,RB,RX,RA2,ha0]
  exact h5 (by omega) _ (Ext.refl _)
 ·obtain ⟨k,rfl⟩:∃k:Nat,a=(k:Int):=⟨a.toNat,by omega⟩
  by_cases hkn:k<n
  ·have h8:=h8 k rfl hkn
   have hK:=fun g=>hK k g rfl hkn
   obtain ⟨b,o,cap,g,q,cp,hv,ltg,c0,c1,hw,hsk,hsl,hh⟩:=h.agm hm k hkn
   injection hv with e1 _ e3
   injection e1 with e1
   injection e1 with e4 e5 _
   subst e4;subst e5;subst e3
   have hem:=fun (w1:World) (e:Ext w w1) (K:K1) hK=>k_empty h hkn (hw.ext e) (cap:=cap) K hK
   have heg:=fun g hg=>emG_ok' h hkn (g:=g) hg
   generalize hm1:(f k).2.2=mm at*
   simp (disch:=first|omega|simp only [RO]|(simp only [RZ]<;>omega)|fail) only [↓RBp,↓RA,↓reduceIte,Nat.reduceAdd,Nat.reduceMul,Nat.reduceEqDiff,RB,RX,RA2,c0,c1]
   refine hem _ (by repeat (first|(with_reducible first|refine Sh.eB ?_ _|assumption|exact Sh.eR _|refine Sh.eA ?_ _|refine Sh.eD ?_|refine Sh.eT ?_ (by assumption))|exact Sh.eR _)) _ (fun w1 e1=> ?_)
   have e01:Ext w w1:=Ext.trans (by repeat (first|(with_reducible first|refine Sh.eB ?_ _|assumption|exact Sh.eR _|refine Sh.eA ?_ _|refine Sh.eD ?_|refine Sh.eT ?_ (by assumption))|exact Sh.eR _)) e1
   cases hg:emG D l0 f k with
   |none=>
    simp only [Option.isSome_none]
    try simp (disch:=first|omega|simp only [RO]|(simp only [RZ]<;>omega)|fail) only [↓RBp,↓RA,↓reduceIte,Nat.reduceAdd,Nat.reduceMul,Nat.reduceEqDiff,RB,RX,RA2]
    exact h8 hg _ e01
   |some gg=>
    have g6:=(heg gg hg).2.2.2.2
    simp only [Option.isSome_some,Option.getD_some]
    try simp (disch:=first|omega|simp only [RO]|(simp only [RZ]<;>omega)|fail) only [↓RBp,↓RA,↓reduceIte,Nat.reduceAdd,Nat.reduceMul,Nat.reduceEqDiff,RB,RX,RA2]
    refine k_copy (hm.ext e01) (fun x hx=>Nat.lt_of_lt_of_le (hP x hx) e01.size) n0 hn _ (fun g q cp w2 e2 hg2 m2=> ?_)
    have e02:=e01.trans e2
    have c0:=e02.cell_some c0
    have c1:=e02.cell_some c1
    have hs1:=e01.size
    have hs2:=e2.size
    simp (disch:=first|omega|simp only [RO]|(simp only [RZ]<;>omega)|fail) only [↓RBp,↓RA,↓reduceIte,Nat.reduceAdd,Nat.reduceMul,Nat.reduceEqDiff,RB,RX,RA2,c0,c1]
    refine k_clear (hsl.ext (e02.trans (by repeat (first|(with_reducible first|refine Sh.eB ?_ _|assumption|exact Sh.eR _|refine Sh.eA ?_ _|refine Sh.eD ?_|refine Sh.eT ?_ (by assumption))|exact Sh.eR _)))) mm g6 _ (fun b' o' cap' w3 e3 hb3 hs3=> ?_)
    have e23:Ext w2 w3:=Ext.trans (by repeat (first|(with_reducible first|refine Sh.eB ?_ _|assumption|exact Sh.eR _|refine Sh.eA ?_ _|refine Sh.eD ?_|refine Sh.eT ?_ (by assumption))|exact Sh.eR _)) e3
    have m3:=m2.ext e23
    have ltg2:g<w2.heap.size:=m2.m.lt rfl
    have d0:=m3.m.cell rfl (mdL_get sl (mH f) n k hkn).1
    have d1:=m3.m.cell rfl (mdL_get sl (mH f) n k hkn).2
    rw [←Nat.add_assoc] at d1
    have fz:=fun i=>m3.m.frz (b:=g) rfl i
    have m4:=m3.wr hkn (WsL.new hs3 (m:=w2.heap.size) hb3 (fun x hx=>by have:=hP x hx;omega)) (by omega) false
    rw [hsk] at d0
    simp (disch:=first|omega|simp only [RO]|(simp only [RZ]<;>omega)|fail) only [↓RBp,↓RA,↓reduceIte,Nat.reduceAdd,Nat.reduceMul,Nat.reduceEqDiff,RB,RX,RA2,d0,d1,fz]
    refine hK gg hg _ _ _ ?_ m4
    exact Ext.setB (Ext.setB (e02.trans e23) (show w.heap.size≤g by omega) _) (show w.heap.size≤g by omega) _
  ·simp (disch:=first|omega|simp only [RO]|(simp only [RZ]<;>omega)|fail) only [↓RBp,↓RA,↓reduceIte,Nat.reduceAdd,Nat.reduceMul,Nat.reduceEqDiff,RB,RX,RA2,hkn]
   exact h5 (by omega) _ (Ext.refl _)
end
def How (D:DS) (l0 n:Nat) (f:Nat→Int×Int×Bool) (k g:Nat):Prop:=((f k).1<0∧(∀j,j<k→¬(f j).1<0)∧g=gX (wd D (l0+32*k) 0))∨((∀j,j<n→¬(f j).1<0)∧emG D l0 f k=some g∧∀j,j<k→emG D l0 f j=none)
theorem How.uniq {D:DS} {l0 n:Nat} {f:Nat→Int×Int×Bool} {k g k' g':Nat} (h:How D l0 n f k g) (h':How D l0 n f k' g') (hk:k<n) (hk':k'<n):k=k'∧g=g':=by
 have lt:∀{a b:Nat},¬a<b→¬b<a→a=b:=fun {a b} h1 h2=>by omega
 rcases h with ⟨a1,a2,a3⟩|⟨a1,a2,a3⟩
 ·rcases h' with ⟨b1,b2,b3⟩|⟨b1,b2,b3⟩
  ·have e:k=k':=lt (fun h=>b2 k h a1) (fun h=>a2 k' h b1)
   subst e
   exact ⟨rfl,a3.trans b3.symm⟩
  ·exact absurd a1 (b1 k hk)
 ·rcases h' with ⟨b1,b2,b3⟩|⟨b1,b2,b3⟩
  ·exact absurd b1 (a1 k' hk')
  ·have e:k=k':=lt (fun h=>by rw [b3 k h] at a2;cases a2) (fun h=>by rw [a3 k' h] at b2;cases b2)
   subst e
   rw [a2] at b2
   exact ⟨rfl,Option.some.inj b2⟩
def bxF (v:Value) (m:Bool) (i:Nat):Value:= [v,.bool m].getD i undef
section
variable {wb w w':World} {P:Nat→Prop} {v:Value} {sl:Nat→Value} {n k b o cap B g l0:Nat} {U:Nat→Nat} {D:DS} {f:Nat→Int×Int×Bool} {c t:Int}
theorem rc_k5 (hm:MdS wb P v sl n (mW D l0) (mH f)) (hP:∀x,P x→x<wb.heap.size) (n0:0<n) (hn:n<1000) (hk:k<n) (e:Ext wb w) (hB:Cells w B 42 2 (bxF (wsV b o cap) (f k).2.2)) (nB:wb.heap.size≤B) (hs:SlO w 30 1 (wsV b o cap) 256 (wdL U 256)) (c0:0≤c) (c5:c<5) (t0:0≤t) (t8:t<8) (g6:g<65536) (K:K1)
  (hK:∀v' sl' w',Ext wb w'→MdS w' P v' sl' n (upF (mW D l0) k (planF c t g U)) (mH f)→K (.tuple #[v',.int .i64 (k:Int),.int .i64 0]) w'):
  f56_k5 K v (.int .i64 t) (.int .i64 c) (.int .i64 (k:Int)) (.int .u16 (g:Int)) (.pointer (some ⟨B,0,none⟩)) w:=by
 have p0:w.cell? ⟨B,0,none⟩=some (wsV b o cap):=hB.cell (i:=0) (by omega)
 have ltB:=hB.lt
 rw [f56_k5_eq]
 unfold f56_k5_t
 simp (disch:=first|omega|simp only [RO]|(simp only [RZ]<;>omega)|fail) only [↓RBp,↓RA,↓reduceIte,Nat.reduceAdd,Nat.reduceMul,Nat.reduceEqDiff,RB,RX,RA2,p0]
 refine k_rFormatW (hs.ext (by repeat (first|(with_reducible first|refine Sh.eB ?_ _|assumption|exact Sh.eR _|refine Sh.eA ?_ _|refine Sh.eD ?_|refine Sh.eT ?_ (by assumption))|exact Sh.eR _))) c0 c5 t0 t8 g6 _ (fun b2 o2 cap2 w1 e1 hb2 hs2=> ?_)
 have e01:Ext w w1:=Ext.trans (by repeat (first|(with_reducible first|refine Sh.eB ?_ _|assumption|exact Sh.eR _|refine Sh.eA ?_ _|refine Sh.eD ?_|refine Sh.eT ?_ (by assumption))|exact Sh.eR _)) e1
 have hb2':w.heap.size≤b2:=hb2
 have hB1:=hB.ext e01
 have q0:w1.cell? ⟨B,0,none⟩=some (wsV b o cap):=hB1.cell (i:=0) (by omega)
 have q1:w1.cell? ⟨B,1,none⟩=some (.bool (f k).2.2):=hB1.cell (i:=1) (by omega)
 have fz:=hB1.frz
 have hB2:=hB1.set (i:=0) (wsV b2 o2 cap2) (by omega)
 have lt1:=e01.size
 have eb:=e.size
 have ew:Ext wb (w1.setCell ⟨B,0,none⟩ (wsV b2 o2 cap2)):=Ext.setB (e.trans e01) nB _
 simp (disch:=first|omega|simp only [RO]|(simp only [RZ]<;>omega)|fail) only [↓RBp,↓RA,↓reduceIte,Nat.reduceAdd,Nat.reduceMul,Nat.reduceEqDiff,RB,RX,RA2,q0,fz]
 refine k_copy (hm.ext ew) (fun x hx=>Nat.lt_of_lt_of_le (hP x hx) ew.size) n0 hn _ (fun g' q' cp' w3 e3 hg3 m3=> ?_)
 have hs2':=(hs2.frm (Frm.one w1 B 0 (wsV b2 o2 cap2)) (fun x hx h2=>by have h9:b2=x:=Option.some.inj hx;omega)).ext e3
 have hB3:=hB2.ext e3
 have r0:w3.cell? ⟨B,0,none⟩=some (wsV b2 o2 cap2):=by have:=hB3.cell (i:=0) (by omega);rwa [if_pos rfl] at this
 have r1:w3.cell? ⟨B,1,none⟩=some (.bool (f k).2.2):=by have:=hB3.cell (i:=1) (by omega);rwa [if_neg (by omega)] at this
 have d0:=m3.m.cell rfl (mdL_get sl (mH f) n k hk).1
 have d1:=m3.m.cell rfl (mdL_get sl (mH f) n k hk).2
 rw [←Nat.add_assoc] at d1
 have fz:=fun i=>m3.m.frz (b:=g') rfl i
 obtain ⟨sb,so,sc,hsk,_⟩:=hm.ws k hk
 rw [hsk] at d0
 have hg3':w1.heap.size≤g':=by simpa only [RZ] using hg3
 have ltb2:b2<w1.heap.size:=hs2.lt rfl
 have m4:=m3.wr hk (WsL.new hs2' hb2' (fun x hx=>by have:=hP x hx;omega)) (by omega) (f k).2.2
 simp (disch:=first|omega|simp only [RO]|(simp only [RZ]<;>omega)|fail) only [↓RBp,↓RA,↓reduceIte,Nat.reduceAdd,Nat.reduceMul,Nat.reduceEqDiff,RB,RX,RA2,r0,r1,d0,d1,fz]
 refine hK _ _ _ ?_ (m4.congr (fun _ _ _ _=>rfl) (fun j hj=> ?_))
 ·exact Ext.setB (Ext.setB (ew.trans e3) (show wb.heap.size≤g' by omega) _) (show wb.heap.size≤g' by omega) _
 ·by_cases ej:j=k
  ·rw [ej,upF_eq];rfl
  ·rw [upF_ne _ _ ej]
theorem rc_k4 (h:RgS D l0 n f) (hm:MdS w P v sl n (mW D l0) (mH f)) (hP:∀x,P x→x<w.heap.size) (n0:0<n) (hn:n<1000) (hk:k<n) (c0:0≤c) (c5:c<5) (t0:0≤t) (t8:t<8) (G g:Nat) (hg:(G≠0∧g=G)∨(G=0∧emG D l0 f k=some g)) (g6:g<65536) (K:K1)
  (hK:∀v' sl' w',Ext w w'→MdS w' P v' sl' n (upF (mW D l0) k (planF c t g (wd D (l0+32*k)))) (mH f)→K (.tuple #[v',.int .i64 (k:Int),.int .i64 0]) w'):
  f56_k4 K v (.int .i64 t) (.int .i64 c) (.int .i64 (k:Int)) (.int .u16 (G:Int)) w:=by
 obtain ⟨b,o,cap,vg,q,cp,rfl,ltg,d0,d1,hw,hsk,hsl,hh⟩:=h.agm hm k hk
 have hem:=fun (w1:World) (e:Ext w w1) (K:K1) hK=>k_empty h hk (hw.ext e) (cap:=cap) K hK
 have hC:=Cells.new w [wsV b o cap,.bool (f k).2.2] 42
 have hcl:=fun (w1:World) (e:Ext w w1) (K:K1) hK=>k_clear (hsl.ext e) (f k).2.2 (g:=g) g6 K hK
 have fin:=fun (w1:World) (e:Ext w w1)=>rc_k5 hm hP n0 hn hk (B:=w.heap.size) (b:=b) (o:=o) (cap:=cap) (U:=wd D (l0+32*k)) e (c:=c) (t:=t) (g:=g)
 have hB0:=(Cells.new w [Value.slice none 0 0,.bool false] 42)
 rw [f56_k4_eq]
 unfold f56_k4_t
 rcases hg with ⟨hG,rfl⟩|⟨rfl,hg⟩
 ·simp (disch:=first|omega|simp only [RO]|(simp only [RZ]<;>omega)|fail) only [↓RBp,↓RA,↓reduceIte,Nat.reduceAdd,Nat.reduceMul,Nat.reduceEqDiff,RB,RX,RA2,d0,d1,hG]
  exact rc_k5 hm hP n0 hn hk (Ext.alloc_self _ _) hC (Nat.le_refl _) (hsl.ext (Ext.alloc_self _ _)) c0 c5 t0 t8 g6 K hK
 ·rw [hg] at hem
  simp only [Option.getD_some,Option.isSome_some] at hem
  have hgk:=emG_ok' h hk hg
  simp (disch:=first|omega|simp only [RO]|(simp only [RZ]<;>omega)|fail) only [↓RBp,↓RA,↓reduceIte,Nat.reduceAdd,Nat.reduceMul,Nat.reduceEqDiff,RB,RX,RA2,d0,d1]
  refine hem _ (Ext.alloc_self _ _) _ (fun w1 e1=> ?_)
  have e01:Ext w w1:=Ext.trans (Ext.alloc_self _ _) e1
  have hC1:Cells w1 w.heap.size 42 2 (bxF (wsV b o cap) (f k).2.2):=hC.ext e1
  have p0:w1.cell? ⟨w.heap.size,0,none⟩=some (wsV b o cap):=hC1.cell (i:=0) (by omega)
  have p1:w1.cell? ⟨w.heap.size,1,none⟩=some (.bool (f k).2.2):=hC1.cell (i:=1) (by omega)
  have lt1:=hC1.lt
  simp (disch:=first|omega|simp only [RO]|(simp only [RZ]<;>omega)|fail) only [↓RBp,↓RA,↓reduceIte,Nat.reduceAdd,Nat.reduceMul,Nat.reduceEqDiff,RB,RX,RA2,p0,p1]
  refine hcl _ (e01.trans (by repeat (first|(with_reducible first|refine Sh.eB ?_ _|assumption|exact Sh.eR _|refine Sh.eA ?_ _|refine Sh.eD ?_|refine Sh.eT ?_ (by assumption))|exact Sh.eR _))) _ (fun b' o' cap' w2 e2 hb2 hs2=> ?_)
  have e12:Ext w1 w2:=Ext.trans (by repeat (first|(with_reducible first|refine Sh.eB ?_ _|assumption|exact Sh.eR _|refine Sh.eA ?_ _|refine Sh.eD ?_|refine Sh.eT ?_ (by assumption))|exact Sh.eR _)) e2
  have hC2:=hC1.ext e12
  have q0:w2.cell? ⟨w.heap.size,0,none⟩=some (wsV b o cap):=hC2.cell (i:=0) (by omega)
  have q1:w2.cell? ⟨w.heap.size,1,none⟩=some (.bool (f k).2.2):=hC2.cell (i:=1) (by omega)
  have fz:=hC2.frz
  have hC3:Cells ((w2.setCell ⟨w.heap.size,0,none⟩ (wsV b' o' cap')).setCell ⟨w.heap.size,1,none⟩ (.bool false)) w.heap.size 42 2 (bxF (wsV b' o' cap') (f k).2.2):=((hC2.set (i:=0) (wsV b' o' cap') (by omega)).set (i:=1) (.bool false) (by omega)).congr (fun j hj=>by
   rcases j with _|_|j
   ·rfl
   ·rw [hgk.2.2.1];rfl
   ·omega)
  have ew:Ext w ((w2.setCell ⟨w.heap.size,0,none⟩ (wsV b' o' cap')).setCell ⟨w.heap.size,1,none⟩ (.bool false)):=Ext.setB (Ext.setB (e01.trans e12) (Nat.le_refl _) _) (Nat.le_refl _) _
  have hb2':w1.heap.size≤b':=by first|exact hb2|simpa only [RZ] using hb2
  have nb:∀x,(wsV b' o' cap').ownBlock=some x→¬x=w.heap.size:=fun x hx h2=>by have h9:b'=x:=Option.some.inj hx;omega
  have hs3:=(hs2.frm (Frm.one _ w.heap.size 0 (wsV b' o' cap')) nb).frm (Frm.one _ w.heap.size 1 (.bool false)) nb
  simp (disch:=first|omega|simp only [RO]|(simp only [RZ]<;>omega)|fail) only [↓RBp,↓RA,↓reduceIte,Nat.reduceAdd,Nat.reduceMul,Nat.reduceEqDiff,RB,RX,RA2,q0,q1,fz]
  refine rc_k5 hm hP n0 hn hk ew hC3 (Nat.le_refl _) hs3 c0 c5 t0 t8 g6 K (fun v' sl' w' e' m'=>hK v' sl' w' e' (m'.congr (fun j hj i hi=> ?_) (fun _ _=>rfl)))
  by_cases ej:j=k
  ·rw [ej,upF_eq,upF_eq]
   unfold planF
   by_cases h0:i=0
   ·rw [if_pos h0,if_pos h0]
   ·have e9:(fun i=>if i=0 then sealN (hdX (-1) (-1) g) else wd D (l0+32*k) i) i=wd D (l0+32*k) i:=if_neg h0
    rw [if_neg h0,if_neg h0,e9]
  ·rw [upF_ne _ _ ej,upF_ne _ _ ej]
theorem k_rClaimBad {v:Value} (hb:¬(0≤t∧t<8∧0≤c∧c<5)) (K:K1) (hK:K (.tuple #[v,.int .i64 0,.int .i64 1]) w):
  callS prog 56 #[v,.int .i64 t,.int .i64 c] w K:=by
 refine f56_call _ _ _ _ _ ?_
 unfold f56_t
 by_cases h0:t<0
 ·simp (disch:=first|omega|simp only [RO]|(simp only [RZ]<;>omega)|fail) only [↓RBp,↓RA,↓reduceIte,Nat.reduceAdd,Nat.reduceMul,Nat.reduceEqDiff,RB,RX,RA2,h0]
  exact hK
 ·by_cases h7:7<t
  ·simp (disch:=first|omega|simp only [RO]|(simp only [RZ]<;>omega)|fail) only [↓RBp,↓RA,↓reduceIte,Nat.reduceAdd,Nat.reduceMul,Nat.reduceEqDiff,RB,RX,RA2,h0,h7]
   exact hK
  ·by_cases h1:c<0
   ·simp (disch:=first|omega|simp only [RO]|(simp only [RZ]<;>omega)|fail) only [↓RBp,↓RA,↓reduceIte,Nat.reduceAdd,Nat.reduceMul,Nat.reduceEqDiff,RB,RX,RA2,h0,h7,h1]
    exact hK
   ·have h4:4<c:=by omega
    simp (disch:=first|omega|simp only [RO]|(simp only [RZ]<;>omega)|fail) only [↓RBp,↓RA,↓reduceIte,Nat.reduceAdd,Nat.reduceMul,Nat.reduceEqDiff,RB,RX,RA2,h0,h7,h1,h4]
    exact hK
theorem k_rClaim (h:RgS D l0 n f) (hm:MdS w P v sl n (mW D l0) (mH f)) (hP:∀x,P x→x<w.heap.size) (n0:0<n) (hn:n<1000) (c0:0≤c) (c5:c<5) (t0:0≤t) (t8:t<8) (K:K1)
  (h4:(∀j,j<n→¬(f j).1<0)→(∀j,j<n→emG D l0 f j=none)→∀w',Ext w w'→K (.tuple #[v,.int .i64 0,.int .i64 4]) w')
  (hK:∀k g,k<n→g≠0→g<65536→How D l0 n f k g→∀v' sl' w',Ext w w'→MdS w' P v' sl' n (upF (mW D l0) k (planF c t g (wd D (l0+32*k)))) (mH f)→K (.tuple #[v',.int .i64 (k:Int),.int .i64 0]) w'):
  callS prog 56 #[v,.int .i64 t,.int .i64 c] w K:=by
 obtain ⟨_,_,_,vg,vq,vcp,hv,_⟩:=h.agm hm 0 n0
 refine f56_call _ _ _ _ _ ?_
 unfold f56_t
 rw [hv]
 simp (disch:=first|omega|simp only [RO]|(simp only [RZ]<;>omega)|fail) only [↓RBp,↓RA,↓reduceIte,Nat.reduceAdd,Nat.reduceMul,Nat.reduceEqDiff,RB,RX,RA2]
 rw [←hv]
 apply f56_l1_rule (I:=fun x z w'=>∃i:Nat,z= .int .i64 ((i:Int)-1)∧i≤n∧Ext w w'∧((x= .int .i64 (-1)∧∀j,i≤j→j<n→¬(f j).1<0)∨(∃a:Nat,x= .int .i64 (a:Int)∧i≤a∧a<n∧(f a).1<0∧∀j,i≤j→j<a→¬(f j).1<0))) (μ:=fun _ z _=>(intOf z+1).toNat)
 ·exact ⟨n,rfl,Nat.le_refl _,Ext.refl _,.inl ⟨rfl,fun j h1 h2=>absurd h1 (by omega)⟩⟩
 ·intros;rename_i x z w1 hI E1 hE
  obtain ⟨i,rfl,hi,e1,hx⟩:=hI
  by_cases hi0:0<i
  ·obtain ⟨m,rfl⟩:∃m,i=m+1:=⟨i-1,by omega⟩
   have em:((m+1:Nat):Int)-1=(m:Int):=by omega
   obtain ⟨b,o,cap,g,q,cp,hv2,ltg,d0,d1,hw,hsk,hsl,hh⟩:=h.agm (hm.ext e1) m (by omega)
   by_cases hc:(f m).1<0
   ·have hnx:∀w',Ext w w'→E1 (.int .i64 (m:Int)) (.int .i64 ((m:Int)-1)) w':=fun w' e'=>by
     apply hE
     ·exact ⟨m,rfl,by omega,e',.inr ⟨m,rfl,Nat.le_refl _,by omega,hc,fun j h1 h2=>absurd h1 (by omega)⟩⟩
     ·simp [intOf]
    generalize gX (wd D (l0+32*m) 0)=gg at*
    generalize (f m).2.2=mm at*
    generalize (f m).2.1=oo at*
    generalize (f m).1=cc at*
    unfold f56_l1_t
    rw [hv2]
    simp (disch:=first|omega|simp only [RO]|(simp only [RZ]<;>omega)|fail) only [↓RBp,↓RA,↓reduceIte,Nat.reduceAdd,Nat.reduceMul,Nat.reduceEqDiff,RB,RX,RA2,em,d0,d1]
    refine hh _ _ (by repeat (first|(with_reducible first|refine Sh.eB ?_ _|assumption|exact Sh.eR _|refine Sh.eA ?_ _|refine Sh.eD ?_|refine Sh.eT ?_ (by assumption))|exact Sh.eR _)) (fun w2 e2=> ?_)
    simp (disch:=first|omega|simp only [RO]|(simp only [RZ]<;>omega)|fail) only [↓RBp,↓RA,↓reduceIte,Nat.reduceAdd,Nat.reduceMul,Nat.reduceEqDiff,RB,RX,RA2,em,hc,f56_k3_eq,f56_k3_t]
    exact hnx _ (e1.trans (Ext.trans (by repeat (first|(with_reducible first|refine Sh.eB ?_ _|assumption|exact Sh.eR _|refine Sh.eA ?_ _|refine Sh.eD ?_|refine Sh.eT ?_ (by assumption))|exact Sh.eR _)) e2))
   ·have hnx:∀w',Ext w w'→E1 x (.int .i64 ((m:Int)-1)) w':=fun w' e'=>by
     apply hE
     ·refine ⟨m,rfl,by omega,e',?_⟩
      rcases hx with ⟨hx,hn2⟩|⟨a,hx,h1,h2,h3,h5⟩
      ·exact .inl ⟨hx,fun j h6 h7=>by
        by_cases ej:j=m
        ·rw [ej];exact hc
        ·exact hn2 j (by omega) h7⟩
      ·exact .inr ⟨a,hx,by omega,h2,h3,fun j h6 h7=>by
        by_cases ej:j=m
        ·rw [ej];exact hc
        ·exact h5 j (by omega) h7⟩
     ·simp [intOf]
    generalize gX (wd D (l0+32*m) 0)=gg at*
    generalize (f m).2.2=mm at*
    generalize (f m).2.1=oo at*
    generalize (f m).1=cc at hc hh
    unfold f56_l1_t
    rw [hv2]
    simp (disch:=first|omega|simp only [RO]|(simp only [RZ]<;>omega)|fail) only [↓RBp,↓RA,↓reduceIte,Nat.reduceAdd,Nat.reduceMul,Nat.reduceEqDiff,RB,RX,RA2,em,d0,d1]
    refine hh _ _ (by repeat (first|(with_reducible first|refine Sh.eB ?_ _|assumption|exact Sh.eR _|refine Sh.eA ?_ _|refine Sh.eD ?_|refine Sh.eT ?_ (by assumption))|exact Sh.eR _)) (fun w2 e2=> ?_)
    simp (disch:=first|omega|simp only [RO]|(simp only [RZ]<;>omega)|fail) only [↓RBp,↓RA,↓reduceIte,Nat.reduceAdd,Nat.reduceMul,Nat.reduceEqDiff,RB,RX,RA2,em,hc,f56_k3_eq,f56_k3_t]
    exact hnx _ (e1.trans (Ext.trans (by repeat (first|(with_reducible first|refine Sh.eB ?_ _|assumption|exact Sh.eR _|refine Sh.eA ?_ _|refine Sh.eD ?_|refine Sh.eT ?_ (by assumption))|exact Sh.eR _)) e2))
  ·have:i=0:=by omega
   subst this
   unfold f56_l1_t
   rcases hx with ⟨rfl,hn2⟩|⟨a,rfl,h1,h2,h3,h5⟩
   ·
    have hall:∀j,j<n→¬(f j).1<0:=fun j hj=>hn2 j (by omega) hj
    rw [hv]
    simp (disch:=first|omega|simp only [RO]|(simp only [RZ]<;>omega)|fail) only [↓RBp,↓RA,↓reduceIte,Nat.reduceAdd,Nat.reduceMul,Nat.reduceEqDiff,RB,RX,RA2,f56_k1_eq,f56_k1_t,f56_k2_eq,f56_k2_t]
    rw [←hv]
    apply f56_l2_rule (I:=fun x z w'=>∃i:Nat,z= .int .i64 ((i:Int)-1)∧i≤n∧Ext w w'∧((x= .int .i64 (-1)∧∀j,i≤j→j<n→emG D l0 f j=none)∨(∃a g:Nat,x= .int .i64 (a:Int)∧i≤a∧a<n∧emG D l0 f a=some g∧∀j,i≤j→j<a→emG D l0 f j=none))) (μ:=fun _ z _=>(intOf z+1).toNat)
    ·exact ⟨n,rfl,Nat.le_refl _,e1,.inl ⟨rfl,fun j h1 h2=>absurd h1 (by omega)⟩⟩
    ·intros;rename_i x z w3 hI3 E3 hE3
     obtain ⟨i,rfl,hi,e3,hx⟩:=hI3
     by_cases hi0:0<i
     ·obtain ⟨m,rfl⟩:∃m,i=m+1:=⟨i-1,by omega⟩
      have em:((m+1:Nat):Int)-1=(m:Int):=by omega
      obtain ⟨b,o,cap,g,q,cp,hv2,ltg,d0,d1,hw,hsk,hsl,hh⟩:=h.agm (hm.ext e3) m (by omega)
      have hemp:=fun (w4:World) (e:Ext w3 w4) (K:K1) hK=>k_empty h (show m<n by omega) (hw.ext e) (cap:=cap) K hK
      cases hg:emG D l0 f m with
      |some gg=>
       rw [hg] at hemp
       simp only [Option.getD_some,Option.isSome_some] at hemp
       have hnx:∀w',Ext w w'→E3 (.int .i64 (m:Int)) (.int .i64 ((m:Int)-1)) w':=fun w' e'=>by
        apply hE3
        ·exact ⟨m,rfl,by omega,e',.inr ⟨m,gg,rfl,Nat.le_refl _,by omega,hg,fun j h1 h2=>absurd h1 (by omega)⟩⟩
        ·simp [intOf]
       unfold f56_l2_t
       rw [hv2]
       simp (disch:=first|omega|simp only [RO]|(simp only [RZ]<;>omega)|fail) only [↓RBp,↓RA,↓reduceIte,Nat.reduceAdd,Nat.reduceMul,Nat.reduceEqDiff,RB,RX,RA2,em,d0,d1]
       refine hemp _ (by repeat (first|(with_reducible first|refine Sh.eB ?_ _|assumption|exact Sh.eR _|refine Sh.eA ?_ _|refine Sh.eD ?_|refine Sh.eT ?_ (by assumption))|exact Sh.eR _)) _ (fun w4 e4=> ?_)
       simp (disch:=first|omega|simp only [RO]|(simp only [RZ]<;>omega)|fail) only [↓RBp,↓RA,↓reduceIte,Nat.reduceAdd,Nat.reduceMul,Nat.reduceEqDiff,RB,RX,RA2,em,f56_k6_eq,f56_k6_t]
       exact hnx _ (e3.trans (Ext.trans (by repeat (first|(with_reducible first|refine Sh.eB ?_ _|assumption|exact Sh.eR _|refine Sh.eA ?_ _|refine Sh.eD ?_|refine Sh.eT ?_ (by assumption))|exact Sh.eR _)) e4))
      |none=>
       rw [hg] at hemp
       simp only [Option.getD_none,Option.isSome_none] at hemp
       have hnx:∀w',Ext w w'→E3 x (.int .i64 ((m:Int)-1)) w':=fun w' e'=>by
        apply hE3
        ·refine ⟨m,rfl,by omega,e',?_⟩
         rcases hx with ⟨hx,hn2⟩|⟨a,g2,hx,h1,h2,h3,h5⟩
         ·exact .inl ⟨hx,fun j h6 h7=>by
           by_cases ej:j=m
           ·rw [ej];exact hg
           ·exact hn2 j (by omega) h7⟩
         ·exact .inr ⟨a,g2,hx,by omega,h2,h3,fun j h6 h7=>by
           by_cases ej:j=m
           ·rw [ej];exact hg
           ·exact h5 j (by omega) h7⟩
        ·simp [intOf]
       unfold f56_l2_t
       rw [hv2]
       simp (disch:=first|omega|simp only [RO]|(simp only [RZ]<;>omega)|fail) only [↓RBp,↓RA,↓reduceIte,Nat.reduceAdd,Nat.reduceMul,Nat.reduceEqDiff,RB,RX,RA2,em,d0,d1]
       refine hemp _ (by repeat (first|(with_reducible first|refine Sh.eB ?_ _|assumption|exact Sh.eR _|refine Sh.eA ?_ _|refine Sh.eD ?_|refine Sh.eT ?_ (by assumption))|exact Sh.eR _)) _ (fun w4 e4=> ?_)
       simp (disch:=first|omega|simp only [RO]|(simp only [RZ]<;>omega)|fail) only [↓RBp,↓RA,↓reduceIte,Nat.reduceAdd,Nat.reduceMul,Nat.reduceEqDiff,RB,RX,RA2,em,f56_k6_eq,f56_k6_t]
       exact hnx _ (e3.trans (Ext.trans (by repeat (first|(with_reducible first|refine Sh.eB ?_ _|assumption|exact Sh.eR _|refine Sh.eA ?_ _|refine Sh.eD ?_|refine Sh.eT ?_ (by assumption))|exact Sh.eR _)) e4))
     ·have:i=0:=by omega
      subst this
      have e0:((0:Nat):Int)-1= -1:=by omega
      unfold f56_l2_t
      rcases hx with ⟨rfl,hn2⟩|⟨a,g2,rfl,h1,h2,h3,h5⟩
      ·rw [hv]
       simp (disch:=first|omega|simp only [RO]|(simp only [RZ]<;>omega)|fail) only [↓RBp,↓RA,↓reduceIte,Nat.reduceAdd,Nat.reduceMul,Nat.reduceEqDiff,RB,RX,RA2,e0,f56_k4_eq,f56_k4_t]
       rw [←hv]
       exact h4 hall (fun j hj=>hn2 j (by omega) hj) _ e3
      ·have hgk:=emG_ok' h h2 h3
       simp (disch:=first|omega|simp only [RO]|(simp only [RZ]<;>omega)|fail) only [↓RBp,↓RA,↓reduceIte,Nat.reduceAdd,Nat.reduceMul,Nat.reduceEqDiff,RB,RX,RA2,e0]
       exact rc_k4 h (hm.ext e3) (fun x hx=>Nat.lt_of_lt_of_le (hP x hx) e3.size) n0 hn h2 c0 c5 t0 t8 0 g2 (.inr ⟨rfl,h3⟩) hgk.2.2.2.2 K (fun v' sl' w' e' m'=>hK a g2 h2 hgk.2.2.2.1 hgk.2.2.2.2 (.inr ⟨hall,h3,fun j hj=>h5 j (by omega) hj⟩) v' sl' w' (e3.trans e') m')
   ·have ha:=h.ag a h2
    have hd:=hd_cls ha.1
    have g6:gX (wd D (l0+32*a) 0)<65536:=by unfold gX;omega
    obtain ⟨b,o,cap,g,q,cp,hv2,ltg,d0,d1,hw,hsk,hsl,hh⟩:=h.agm (hm.ext e1) a h2
    have fin:=fun (w2:World) (e2:Ext w w2)=>rc_k4 h (hm.ext e2) (fun x hx=>Nat.lt_of_lt_of_le (hP x hx) e2.size) n0 hn h2 c0 c5 t0 t8 (gX (wd D (l0+32*a) 0)) _ (.inl ⟨hd.2.2.1,rfl⟩) g6 K (fun v' sl' w' e' m'=>hK a _ h2 hd.2.2.1 g6 (.inl ⟨h3,fun j hj=>h5 j (by omega) hj,rfl⟩) v' sl' w' (e2.trans e') m')
    have e0:((0:Nat):Int)-1= -1:=by omega
    have g0:=hd.2.2.1
    generalize gX (wd D (l0+32*a) 0)=gg at*
    generalize (f a).2.2=mm at*
    generalize (f a).2.1=oo at*
    generalize (f a).1=cc at*
    rw [hv2]
    simp (disch:=first|omega|simp only [RO]|(simp only [RZ]<;>omega)|fail) only [↓RBp,↓RA,↓reduceIte,Nat.reduceAdd,Nat.reduceMul,Nat.reduceEqDiff,RB,RX,RA2,e0,f56_k1_eq,f56_k1_t,d0,d1]
    refine hh _ _ (by repeat (first|(with_reducible first|refine Sh.eB ?_ _|assumption|exact Sh.eR _|refine Sh.eA ?_ _|refine Sh.eD ?_|refine Sh.eT ?_ (by assumption))|exact Sh.eR _)) (fun w2 e2=> ?_)
    have e12:Ext w1 w2:=Ext.trans (by repeat (first|(with_reducible first|refine Sh.eB ?_ _|assumption|exact Sh.eR _|refine Sh.eA ?_ _|refine Sh.eD ?_|refine Sh.eT ?_ (by assumption))|exact Sh.eR _)) e2
    simp (disch:=first|omega|simp only [RO]|(simp only [RZ]<;>omega)|fail) only [↓RBp,↓RA,↓reduceIte,Nat.reduceAdd,Nat.reduceMul,Nat.reduceEqDiff,RB,RX,RA2,f56_k2_eq,f56_k2_t]
    apply f56_l2_rule (I:=fun x z w'=>x= .int .i64 (a:Int)∧z= .int .i64 ((n:Int)-1)∧Ext w w') (μ:=fun _ z _=>(intOf z+1).toNat)
    ·exact ⟨rfl,rfl,e1.trans e12⟩
    ·intros;rename_i w3 hI3 E3 hE3
     obtain ⟨rfl,rfl,e3⟩:=hI3
     have hn1:¬((n:Int)-1<0):=by omega
     unfold f56_l2_t
     simp (disch:=first|omega|simp only [RO]|(simp only [RZ]<;>omega)|fail) only [↓RBp,↓RA,↓reduceIte,Nat.reduceAdd,Nat.reduceMul,Nat.reduceEqDiff,RB,RX,RA2,g0,hn1]
     rw [←hv2]
     exact fin w3 e3
end
theorem sl_cells22 {w:World} {b n:Nat} {t:TypeId} {f:Nat→Value} (h:Cells w b t n f) (hn:n≤maxLen):SlO w t 1 (.slice (some ⟨b,0,none⟩) n n) n ((List.range n).map f):=by
 obtain ⟨a,h1,h2,h3⟩:=h
 refine ⟨by simp,.inr ⟨b,0,n,a,rfl,h1,Nat.le_refl _,hn,by omega,fun i u hi=> ?_⟩⟩
 rw [Nat.zero_add]
 have hin:i<n:=by
  have:=(List.getElem?_eq_some_iff.1 hi).1;simpa using this
 rw [h3 i hin]
 simpa [hin] using hi
def f1W (i:Nat):Nat:=if i=0 then sealN (hdX (-1) (-1) 1) else 0
section
variable {w w':World} {P:Nat→Prop} {n:Nat}
theorem k_rFormat22 (hP:∀x,P x→x<w.heap.size) (n0:0<n) (hn:n<100) (K:K1)
  (hK:∀v sl w',Ext w w'→MdS w' P v sl n (fun _=>f1W) (fun _=>false)→K v w'):
  callS prog 16 #[.int .i64 (n:Int)] w K:=by
 have hfi:∀(w:World) (K:K1),callS prog 45 #[.agg #[.int .i64 (-1),.int .i64 (-1),.int .u16 ((1:Nat):Int)]] w K=K (.int .u64 ((sealN (hdX (-1) (-1) 1):Nat):Int)) (w.alloc (rhO (-1) (-1) 1)):=fun w K=>c_rFirst (-1) (-1) 1 w K (by omega) (.inl ⟨rfl,rfl⟩)
 refine f16_call _ _ _ ?_
 unfold f16_t
 apply f16_l1_rule (I:=fun x z w'=>∃(k:Nat) (sl:Nat→Value),z= .int .i64 (k:Int)∧k≤n∧MdS w' P x sl k (fun _=>f1W) (fun _=>false)∧Frm Nob w w'∧NewV w.heap.size x) (μ:=fun _ z _=>n-(intOf z).toNat)
 ·exact ⟨0,fun _=> .slice none 0 0,rfl,by omega,MdS.nil _ _ _ _ _,Frm.refl _ _,fun b hb=>by cases hb⟩
 ·intros;rename_i x z w1 hI E1 hE
  obtain ⟨k,sl,rfl,hk,m1,f1,nv⟩:=hI
  have e1:Ext w w1:=f1.to_ext (fun _ _ h=>h)
  by_cases hkn:k<n
  ·have hz:=zrow_cells w1 (.int .u64 ((0:Nat):Int)) 256 30
   have hs0:=sl_cells22 hz (by decide)
   have el:((List.range 256).map fun i=>(Value.int .u64 ((0:Nat):Int)).cells[i%(Value.int .u64 ((0:Nat):Int)).cells.size]!)=wdL (fun _=>0) 256:=by
    unfold wdL
    refine List.map_congr_left (fun i _=> ?_)
    show (#[Value.int .u64 ((0:Nat):Int)])[i%1]! =_
    rw [Nat.mod_one];rfl
   rw [el] at hs0
   have hup:=SlO.upd hs0 (u64 (sealN (hdX (-1) (-1) 1))) (i:=0) (by omega)
   rw [wdL_set,Nat.add_zero] at hup
   have hfz:=fun i=>hs0.frz (b:=w1.heap.size) rfl i
   have hc:=hs0.cell rfl (wdL_get (W:=fun _=>0) (n:=256) (j:=0) (by omega))
   rw [Nat.add_zero] at hc
   have fin:∀(w2:World),SlO w2 30 1 (wsV w1.heap.size 0 256) 256 (wdL f1W 256)→Frm Nob w1 w2→∀(xb:Nat) (cs:Array Bool),w2.cell? ⟨xb,0,none⟩=some (wsV w1.heap.size 0 256)→w2.cell? ⟨xb,1,none⟩=some (.bool false)→∀K':K1,(∀v' w',E1 v' (.int .i64 ((k+1:Nat):Int)) w'→K' v' w')→bltS prog .append #[29,29] 29 cs #[x,.slice (some ⟨xb,0,none⟩) 1 1] w2 K':=by
    intro w2 hs2 f2 xb cs c0 c1 K' hK'
    have e2:Ext w1 w2:=f2.to_ext (fun _ _ h=>h)
    have m2:=m1.ext e2
    refine k_push m2 (fun x hx=>Nat.lt_of_lt_of_le (hP x hx) (e1.trans e2).size) (WsL.new hs2 (m:=w1.heap.size) (Nat.le_refl _) (fun x hx=>Nat.lt_of_lt_of_le (hP x hx) e1.size)) (fun hx=> ?_) false (by omega) c0 c1 _ (fun v' w' f3 b3 m3=> ?_)
    ·have:=m1.m.lt hx;omega
    refine hK' _ _ ?_
    apply hE
    ·refine ⟨k+1,_,rfl,by omega,m3.congr (fun j hj i _=> ?_) (fun j hj=> ?_),(f1.trans f2 (fun _ _ h=>h.elim)).trans f3 (fun y hy h=> ?_),fun y hy=> ?_⟩
     ·by_cases e:j=k
      ·rw [e,upF_eq]
      ·rw [upF_ne _ _ e]
     ·by_cases e:j=k
      ·rw [e,upF_eq]
      ·rw [upF_ne _ _ e]
     ·have:=nv y h;omega
     ·rcases b3 y hy with h|h
      ·exact nv y h
      ·exact Nat.le_trans (e1.trans e2).size h
    ·simp [intOf];omega
   unfold f16_l1_t
   (repeat' (first|(with_reducible first|refine brS_mk (fun _=> ?_) (fun _=> ?_)|refine And.intro ?_ ?_)|(simp (disch:=first|omega|simp only [RO]|(simp only [RZ]<;>omega)|fail) only [↓RBp,↓RA,↓reduceIte,Nat.reduceAdd,Nat.reduceMul,Nat.reduceEqDiff,RB,RX,RA2,hfi,hfz,hc,Int.reduceToNat,Nat.add_zero])))
   rw [set_new _ _ _ _ _ _ rfl] at hup
   have hup1:SlO (w1.alloc (.cells ((zrow (.int .u64 ((0:Nat):Int)) 256).setIfInBounds 0 (u64 (sealN (hdX (-1) (-1) 1)))) 30)) 30 1 (wsV w1.heap.size 0 256) 256 (wdL f1W 256):=by
    rw [wdL_congr (W:=f1W) (V:=fun j=>if j=0 then sealN (hdX (-1) (-1) 1) else 0) (fun i _=>rfl)]
    exact hup
   have hC:=Cells.new ((w1.alloc (.cells ((zrow (.int .u64 ((0:Nat):Int)) 256).setIfInBounds 0 (u64 (sealN (hdX (-1) (-1) 1)))) 30)).alloc (rhO (-1) (-1) 1)) [wsV w1.heap.size 0 256,.bool false] 42
   rw [size_alloc,size_alloc] at hC
   have ek:(k:Int)+1=((k+1:Nat):Int):=by omega
   refine fin _ (hup1.ext ((Ext.alloc_self _ _).trans (Ext.alloc_self _ _))) (by repeat (first|exact Frm.refl _ _|with_reducible refine Frm.set ?_ _ (fun _=>rfl)|with_reducible refine Frm.alloc ?_ _|with_reducible refine Frm.drew ?_)) _ _ (hC.cell (i:=0) (by simp)) (hC.cell (i:=1) (by simp)) _ (fun v' w' hh=> ?_)
   simp (disch:=first|omega|simp only [RO]|(simp only [RZ]<;>omega)|fail) only [↓RBp,↓RA,↓reduceIte,Nat.reduceAdd,Nat.reduceMul,Nat.reduceEqDiff,RB,RX,RA2,ek]
   exact hh
  ·have:k=n:=by omega
   subst this
   unfold f16_l1_t
   simp (disch:=first|omega|simp only [RO]|(simp only [RZ]<;>omega)|fail) only [↓RBp,↓RA,↓reduceIte,Nat.reduceAdd,Nat.reduceMul,Nat.reduceEqDiff,RB,RX,RA2,f16_k1_eq,f16_k1_t]
   exact hK _ sl _ e1 m1
end
section
variable {w0 w w':World} {Y Y':Lay} {D D':DS} {S b o cp l0 n k:Nat} {f f':Nat→Int×Int×Bool}
theorem k_ReleaseNo (h:ArS w0 w Y D S b o cp l0 n f) {x:Int} (hx:∀k,k<n→x≠((l0+32*k:Nat):Int)) (K:K1) (hK:∀w',Ext w w'→K (.int .i64 5) w'):
  callS prog 35 #[stV S,.int .i64 x] w K:=by
 refine f35_call _ _ _ _ ?_
 unfold f35_t
 simp (disch:=first|omega|simp only [RO]|(simp only [RZ]<;>omega)|fail) only [↓RBp,↓RA,↓reduceIte,Nat.reduceAdd,Nat.reduceMul,Nat.reduceEqDiff,RB,RX,RA2]
 refine k_findNo h hx _ (fun w1 e1=> ?_)
 simp (disch:=first|omega|simp only [RO]|(simp only [RZ]<;>omega)|fail) only [↓RBp,↓RA,↓reduceIte,Nat.reduceAdd,Nat.reduceMul,Nat.reduceEqDiff,RB,RX,RA2]
 exact hK _ e1
theorem k_Release (h:ArS w0 w Y D S b o cp l0 n f) (ag:AgF D l0 n f) (hk:k<n) (ho:D.off=false) (he:D.err 0=0) (hx:D.exe<1000000000) (K:K1)
  (hK:∀D2 f2 e,RlRes D l0 f k D2 f2 e→∀w' Y',AStp w Y b w' Y'→ArS w0 w' Y' D2 S b o cp l0 n f2→K (.int .i64 e) w'):
  callS prog 35 #[stV S,.int .i64 ((l0+32*k:Nat):Int)] w K:=by
 have hle:=h.le
 have hlt:=h.lt
 have hnn:=h.L.gd.n
 have her:=h.er
 rw [he] at her
 refine f35_call _ _ _ _ ?_
 unfold f35_t
 simp (disch:=first|omega|simp only [RO]|(simp only [RZ]<;>omega)|fail) only [↓RBp,↓RA,↓reduceIte,Nat.reduceAdd,Nat.reduceMul,Nat.reduceEqDiff,RB,RX,RA2]
 refine k_findAt h hk _ (fun w1 e1=> ?_)
 have h1:=h.ext e1
 have s0:=h1.c0
 simp (disch:=first|omega|simp only [RO]|(simp only [RZ]<;>omega)|(with_reducible (repeat (first|assumption|exact Ext.refl _|refine Ext.alloc ?_ _|refine Ext.drew ?_|refine Ext.trans ?_ (by assumption))))|fail) only [↓RBp,↓RA,↓reduceIte,Nat.reduceAdd,Nat.reduceMul,Nat.reduceEqDiff,RB,RX,RA2,s0,her]
 refine k_clearing h1 ag hk ho he _ (fun hn w2 e2=> ?_) (fun g hg g0 g6 v w2 e2 nv hs=> ?_)
 ·have h2:=h1.ext e2
  have s0:=h2.c0
  simp (disch:=first|omega|simp only [RO]|(simp only [RZ]<;>omega)|(with_reducible (repeat (first|assumption|exact Ext.refl _|refine Ext.alloc ?_ _|refine Ext.drew ?_|refine Ext.trans ?_ (by assumption))))|fail) only [↓RBp,↓RA,↓reduceIte,Nat.reduceAdd,Nat.reduceMul,Nat.reduceEqDiff,RB,RX,RA2,s0,her]
  exact hK D f 8 (.inl ⟨hn,rfl,rfl,rfl⟩) _ Y (AStp.of_ext Y b (e1.trans e2)) h2
 ·have h2:=h1.ext e2
  have s0:=h2.c0
  have hcl:=clrI_len (l0+32*k) g
  simp (disch:=first|omega|simp only [RO]|(simp only [RZ]<;>omega)|(with_reducible (repeat (first|assumption|exact Ext.refl _|refine Ext.alloc ?_ _|refine Ext.drew ?_|refine Ext.trans ?_ (by assumption))))|fail) only [↓RBp,↓RA,↓reduceIte,Nat.reduceAdd,Nat.reduceMul,Nat.reduceEqDiff,RB,RX,RA2,s0,her]
  refine k_free h2 hk hs (fun x hx hf=>by have:=nv x hx;have:=h1.L.dv.lt hf;omega) (clrI_ok (n:=D.n) (by omega) hnn g6) (by omega) rfl _ (fun hne w3 Y3 a3 h3=> ?_) (fun h0 w3 Y3 a3 h3=> ?_)
  ·try simp (disch:=first|omega|simp only [RO]|(simp only [RZ]<;>omega)|fail) only [↓RBp,↓RA,↓reduceIte,Nat.reduceAdd,Nat.reduceMul,Nat.reduceEqDiff,RB,RX,RA2]
   exact hK _ f _ (.inr ⟨g,hg,rfl,.inl ⟨hne,rfl,rfl⟩⟩) _ Y3 ((AStp.of_ext Y b (e1.trans e2)).trans a3) h3
  ·try simp (disch:=first|omega|simp only [RO]|(simp only [RZ]<;>omega)|fail) only [↓RBp,↓RA,↓reduceIte,Nat.reduceAdd,Nat.reduceMul,Nat.reduceEqDiff,RB,RX,RA2]
   exact hK _ _ _ (.inr ⟨g,hg,rfl,.inr ⟨h0,rfl,rfl⟩⟩) _ Y3 ((AStp.of_ext Y b (e1.trans e2)).trans a3) h3
theorem k_HoldNo (h:ArS w0 w Y D S b o cp l0 n f) {x:Int} (hx:∀k,k<n→x≠((l0+32*k:Nat):Int)) (on:Bool) (K:K1) (hK:∀w',Ext w w'→K (.int .i64 5) w'):
  callS prog 53 #[stV S,.int .i64 x,.bool on] w K:=by
 refine f53_call _ _ _ _ _ ?_
 unfold f53_t
 simp (disch:=first|omega|simp only [RO]|(simp only [RZ]<;>omega)|fail) only [↓RBp,↓RA,↓reduceIte,Nat.reduceAdd,Nat.reduceMul,Nat.reduceEqDiff,RB,RX,RA2]
 refine k_findNo h hx _ (fun w1 e1=> ?_)
 simp (disch:=first|omega|simp only [RO]|(simp only [RZ]<;>omega)|fail) only [↓RBp,↓RA,↓reduceIte,Nat.reduceAdd,Nat.reduceMul,Nat.reduceEqDiff,RB,RX,RA2]
 exact hK _ e1
theorem k_Hold (h:ArS w0 w Y D S b o cp l0 n f) (hk:k<n) (on:Bool) (K:K1)
  (h8:(f k).1<0→∀w',Ext w w'→K (.int .i64 8) w')
  (hK:¬(f k).1<0→∀w',AStp w Y b w' Y→ArS w0 w' Y D S b o cp l0 n (upF f k ((f k).1,(f k).2.1,on))→K (.int .i64 0) w'):
  callS prog 53 #[stV S,.int .i64 ((l0+32*k:Nat):Int),.bool on] w K:=by
 refine f53_call _ _ _ _ _ ?_
 unfold f53_t
 simp (disch:=first|omega|simp only [RO]|(simp only [RZ]<;>omega)|fail) only [↓RBp,↓RA,↓reduceIte,Nat.reduceAdd,Nat.reduceMul,Nat.reduceEqDiff,RB,RX,RA2]
 refine k_findAt h hk _ (fun w1 e1=> ?_)
 have h1:=h.ext e1
 have h3:=h1.wr3 hk on
 have fz:=h1.fz
 have ob45:=h1.p hk;have q0:=ob45.1;have q1:=ob45.2.1;have q2:=ob45.2.2.1;have q3:=ob45.2.2.2
 by_cases c0:(f k).1<0
 ·have h8:=h8 c0
  generalize (f k).1=cc at q1 c0
  simp (disch:=first|omega|simp only [RO]|(simp only [RZ]<;>omega)|fail) only [↓RBp,↓RA,↓reduceIte,Nat.reduceAdd,Nat.reduceMul,Nat.reduceEqDiff,RB,RX,RA2,q1,c0]
  exact h8 _ e1
 ·have hK:=hK c0 _ ((AStp.of_ext Y b e1).set _ _) h3
  generalize (f k).1=cc at q1 c0
  simp (disch:=first|omega|simp only [RO]|(simp only [RZ]<;>omega)|fail) only [↓RBp,↓RA,↓reduceIte,Nat.reduceAdd,Nat.reduceMul,Nat.reduceEqDiff,RB,RX,RA2,q1,q3,c0,fz]
  exact hK
end
section
variable {w w':World} {Y:Lay} {D:DS} {l:Nat} {c o:Int} {g:Nat}
abbrev erH (w:World) (Y:Lay) (e:Int):Prop:=∀(w1:World) (K:K1),Ext w w1→callS prog 19 #[.pointer (some ⟨Y.tb 0,0,none⟩)] w1 K=K (.int .i64 e) w1
theorem Dv.er (h:Dv w Y D):erH w Y (D.err 0):=fun w1 K e=>c_Err (h.ext e) 0 (by omega) K
theorem c_ClassZ (w:World) (K:K1):callS prog 25 #[chZ] w K=K (.int .i64 (-1)) (w.alloc chzO):=by
 refine callS_det (by kernel_rfl) (f25_call _ _ _ ?_) K
 unfold f25_t
 simp (disch:=first|omega|simp only [RO]|(simp only [RZ]<;>omega)|fail) only [↓RBp,↓RA,↓reduceIte,Nat.reduceAdd,Nat.reduceMul,Nat.reduceEqDiff,RB,RX,RA2]
theorem per_m1:perS (-1)=0:=perS_out (by omega)
theorem c_blocksZ (w:World) (hG:Glob w) (K:K1):callS prog 63 #[chZ] w K=K (.int .i64 0) ((w.alloc chzO).alloc chzO):=by
 refine callS_det (by kernel_rfl) (f63_call _ _ _ ?_) K
 unfold f63_t
 simp (disch:=first|omega|simp only [RO]|(simp only [RZ]<;>omega)|fail) only [↓RBp,↓RA,↓reduceIte,Nat.reduceAdd,Nat.reduceMul,Nat.reduceEqDiff,RB,RX,RA2,c_ClassZ,fun a b K=>c_PerChunk (-1) ((w.alloc a).alloc b) K ((hG.alloc a).alloc b),per_m1]
theorem k_hasZ (hG:Glob w) (i:Int) (K:K1) (hK:∀w',Ext w w'→K (.bool false) w'):callS prog 64 #[chZ,.int .i64 i] w K:=by
 have hb:∀(w1:World) (K:K1),Ext w w1→callS prog 63 #[chZ] w1 K=K (.int .i64 0) ((w1.alloc chzO).alloc chzO):=fun w1 K e=>c_blocksZ w1 (hG.ext e) K
 refine f64_call _ _ _ _ ?_
 unfold f64_t
 by_cases h0:0≤i
 ·have h1:¬i<0:=by omega
  simp (disch:=first|omega|simp only [RO]|(simp only [RZ]<;>omega)|(with_reducible (repeat (first|assumption|exact Ext.refl _|refine Ext.alloc ?_ _|refine Ext.drew ?_|refine Ext.trans ?_ (by assumption))))|fail) only [↓RBp,↓RA,↓reduceIte,Nat.reduceAdd,Nat.reduceMul,Nat.reduceEqDiff,RB,RX,RA2,hb,dec_false h1]
  exact hK _ (by repeat (first|(with_reducible first|refine Sh.eB ?_ _|assumption|exact Sh.eR _|refine Sh.eA ?_ _|refine Sh.eD ?_|refine Sh.eT ?_ (by assumption))|exact Sh.eR _))
 ·simp (disch:=first|omega|simp only [RO]|(simp only [RZ]<;>omega)|(with_reducible (repeat (first|assumption|exact Ext.refl _|refine Ext.alloc ?_ _|refine Ext.drew ?_|refine Ext.trans ?_ (by assumption))))|fail) only [↓RBp,↓RA,↓reduceIte,Nat.reduceAdd,Nat.reduceMul,Nat.reduceEqDiff,RB,RX,RA2,hb]
  exact hK _ (by repeat (first|(with_reducible first|refine Sh.eB ?_ _|assumption|exact Sh.eR _|refine Sh.eA ?_ _|refine Sh.eD ?_|refine Sh.eT ?_ (by assumption))|exact Sh.eR _))
theorem czCells {w1:World} (he:Ext (w.alloc chzO) w1):w1.cell? ⟨w.heap.size,0,none⟩=some .nilIface∧w1.cell? ⟨w.heap.size,1,none⟩=some (.int .i64 0)∧w1.cell? ⟨w.heap.size,2,none⟩=some (.int .i64 0)∧w1.cell? ⟨w.heap.size,3,none⟩=some (.int .i64 0)∧w1.cell? ⟨w.heap.size,4,none⟩=some (.int .u16 ((0:Nat):Int)):=by
 have:∀i,w1.cell? ⟨w.heap.size,i,none⟩=_:=fun i=>he.cell _ i (by simp only [RZ];omega)
 refine ⟨?_,?_,?_,?_,?_⟩<;>(rw [this,cell_new _ _ _ _ _ rfl];rfl)
end
section
variable {w w':World}
theorem RdS.of_sl22 {v:Value} {L:List Value} {t:TypeId} (h:SlO w t 1 v L.length L):RdS w.heap.size w v L:=by
 obtain ⟨pa,pc,rfl,_⟩:=h.isS'
 refine ⟨pa,pc,rfl,?_⟩
 by_cases h0:L= []
 ·exact .inl h0
 ·right
  have hl:0<L.length:=List.length_pos_iff.2 h0
  obtain ⟨b,o,c,hv,_⟩:=h.isS hl
  injection hv with hv _ _
  refine ⟨b,o,hv,h.lt (by rw [hv];rfl),fun j u hj=> ?_⟩
  exact h.cell (by rw [hv]) hj
theorem RdS.mono22 {v:Value} {L:List Value} {m m':Nat} (h:RdS m w v L) (e:m≤m'):RdS m' w v L:=by
 obtain ⟨a,cap,hv,h⟩:=h
 refine ⟨a,cap,hv,?_⟩
 rcases h with h|⟨b,o,ha,hb,hc⟩
 ·exact .inl h
 ·exact .inr ⟨b,o,ha,by omega,hc⟩
theorem k_onceZ (hG:Glob w) (L M:List Int) (v u:Value) {m:Nat} (hL:RdS m w v (i64L L)) (hM:RdS m w u (i64L M)) (lL:L.length<1099511627776) (lM:M.length<1099511627776) (b cap:Nat) (hb0:w.cell? ⟨b,0,none⟩=some v) (hb1:w.cell? ⟨b,1,none⟩=some u) (K:K1)
  (hK:∀r w',Ext w w'→K (.bool r) w'):callS prog 69 #[chZ,.slice (some ⟨b,0,none⟩) 2 cap] w K:=by
 refine f69_call _ _ _ _ ?_
 unfold f69_t
 simp (disch:=first|omega|simp only [RO]|(simp only [RZ]<;>omega)|fail) only [↓RBp,↓RA,↓reduceIte,Nat.reduceAdd,Nat.reduceMul,Nat.reduceEqDiff,RB,RX,RA2]
 have inner:∀(E1:Value→Value→World→Prop) (L:List Int) (v:Value) (q:Nat) (x5:Value) (w1:World),Ext (w.alloc chzO) w1→RdS m w v (i64L L)→L.length<1099511627776→(∀w',Ext w w'→K (.bool false) w')→(∀w',Ext (w.alloc chzO) w'→E1 x5 (.int .i64 ((q+1:Nat):Int)) w')→q<1000→
   f69_l2 K E1 (.pointer (some ⟨w.heap.size,0,none⟩)) x5 (.slice (some ⟨b,0,none⟩) 2 cap) (.int .i64 2) (.int .i64 (q:Int)) v (.int .i64 (L.length:Int)) (.int .i64 0) w1:=by
  intro E1 L v q x5 w1 he1 hL lL hbad hgood hq
  apply f69_l2_rule (I:=fun x z w'=>z= .int .i64 0∧x=x5∧Ext (w.alloc chzO) w') (μ:=fun _ z _=>0)
  ·exact ⟨rfl,rfl,he1⟩
  ·intros;rename_i w2 hI E2 hE
   obtain ⟨rfl,rfl,he2⟩:=hI
   obtain ⟨c0,c1,c2,c3,c4⟩:=czCells he2
   have e2:Ext w w2:=Ext.trans (by repeat (first|(with_reducible first|refine Sh.eB ?_ _|assumption|exact Sh.eR _|refine Sh.eA ?_ _|refine Sh.eD ?_|refine Sh.eT ?_ (by assumption))|exact Sh.eR _)) he2
   unfold f69_l2_t
   by_cases hjl:0<L.length
   ·obtain ⟨sb,so,sc,rfl,hc⟩:=(hL.ext e2).get (i64L_get hjl)
    generalize L[0]=x at hc
    rw [Nat.add_zero] at hc
    simp (disch:=first|omega|simp only [RO]|(simp only [RZ]<;>omega)|fail) only [↓RBp,↓RA,↓reduceIte,Nat.reduceAdd,Nat.reduceMul,Nat.reduceEqDiff,RB,RX,RA2,hc,c0,c1,c2,c3,c4,List.length_map,Int.reduceToNat,Nat.add_zero]
    refine k_hasZ (hG.ext e2) x _ (fun w3 he3=> ?_)
    simp (disch:=first|omega|simp only [RO]|(simp only [RZ]<;>omega)|fail) only [↓RBp,↓RA,↓reduceIte,Nat.reduceAdd,Nat.reduceMul,Nat.reduceEqDiff,RB,RX,RA2]
    exact hbad _ (e2.trans he3)
   ·have:L.length=0:=by omega
    rw [this]
    simp (disch:=first|omega|simp only [RO]|(simp only [RZ]<;>omega)|fail) only [↓RBp,↓RA,↓reduceIte,Nat.reduceAdd,Nat.reduceMul,Nat.reduceEqDiff,RB,RX,RA2,f69_k2_eq,f69_k2_t]
    have:=hgood w2 he2
    simpa using this
 apply f69_l1_rule (I:=fun x z w'=>∃i:Nat,z= .int .i64 (i:Int)∧i≤2∧Ext (w.alloc chzO) w') (μ:=fun _ z _=>2-(intOf z).toNat)
 ·exact ⟨0,rfl,by omega,(by repeat (first|(with_reducible first|refine Sh.eB ?_ _|assumption|exact Sh.eR _|refine Sh.eA ?_ _|refine Sh.eD ?_|refine Sh.eT ?_ (by assumption))|exact Sh.eR _))⟩
 ·intros;rename_i x z w1 hI E1 hE
  obtain ⟨i,rfl,hi,he1⟩:=hI
  have e1:Ext w w1:=Ext.trans (by repeat (first|(with_reducible first|refine Sh.eB ?_ _|assumption|exact Sh.eR _|refine Sh.eA ?_ _|refine Sh.eD ?_|refine Sh.eT ?_ (by assumption))|exact Sh.eR _)) he1
  have d0:=e1.cell_some hb0
  have d1:=e1.cell_some hb1
  unfold f69_l1_t
  have hcs:i=0∨i=1∨i=2:=by omega
  rcases hcs with rfl|rfl|rfl
  ·obtain ⟨a,sc,rfl,_⟩:=id hL
   have hL':RdS m w (.slice a L.length sc) (i64L L):=by rw [show (i64L L).length=L.length by simp] at hL;exact hL
   simp (disch:=first|omega|simp only [RO]|(simp only [RZ]<;>omega)|fail) only [↓RBp,↓RA,↓reduceIte,Nat.reduceAdd,Nat.reduceMul,Nat.reduceEqDiff,RB,RX,RA2,d0,List.length_map]
   refine inner E1 L _ 0 x w1 he1 hL' lL (fun w' he=>hK _ w' he) (fun w' he=> ?_) (by omega)
   apply hE
   ·exact ⟨1,rfl,by omega,he⟩
   ·simp [intOf]
  ·obtain ⟨a,sc,rfl,_⟩:=id hM
   have hM':RdS m w (.slice a M.length sc) (i64L M):=by rw [show (i64L M).length=M.length by simp] at hM;exact hM
   simp (disch:=first|omega|simp only [RO]|(simp only [RZ]<;>omega)|fail) only [↓RBp,↓RA,↓reduceIte,Nat.reduceAdd,Nat.reduceMul,Nat.reduceEqDiff,RB,RX,RA2,d1,List.length_map]
   refine inner E1 M _ 1 x w1 he1 hM' lM (fun w' he=>hK _ w' he) (fun w' he=> ?_) (by omega)
   apply hE
   ·exact ⟨2,rfl,by omega,he⟩
   ·simp [intOf]
  ·simp (disch:=first|omega|simp only [RO]|(simp only [RZ]<;>omega)|fail) only [↓RBp,↓RA,↓reduceIte,Nat.reduceAdd,Nat.reduceMul,Nat.reduceEqDiff,RB,RX,RA2,f69_k1_eq,f69_k1_t]
   exact hK _ _ e1
theorem k_ActionsZ (hG:Glob w) (L M:List Int) (ks:List Nat) (v kv u:Value) {m:Nat} (hL:RdS m w v (i64L L)) (hk:RdS m w kv (u8L ks)) (hM:RdS m w u (i64L M)) (lL:L.length<1073741824) (lM:M.length<1073741824) (hln:ks.length=L.length) (hks:∀k∈ks,k=64) (K:K1)
  (hK:∀e w',Ext w w'→K (.tuple #[.slice none 0 0,.int .i64 e]) w'):callS prog 28 #[chZ,v,kv,u] w K:=by
 have l1:(i64L L).length=L.length:=by simp
 have l2:(i64L M).length=M.length:=by simp
 have l3:(u8L ks).length=ks.length:=by simp
 obtain ⟨la,lc,rfl,_⟩:=id hL
 obtain ⟨ma,mc,rfl,_⟩:=id hM
 obtain ⟨ka,kc,rfl,_⟩:=id hk
 rw [l1] at hL ⊢
 rw [l2] at hM ⊢
 rw [l3] at hk ⊢
 have e0:Ext w (w.alloc chzO):=Ext.alloc_self _ _
 refine f28_call _ _ _ _ _ _ ?_
 have hz:((ks.length:Nat):Int)=((L.length:Nat):Int):=by omega
 unfold f28_t
 simp (disch:=first|omega|simp only [RO]|(simp only [RZ]<;>omega)|fail) only [↓RBp,↓RA,↓reduceIte,Nat.reduceAdd,Nat.reduceMul,Nat.reduceEqDiff,RB,RX,RA2,dec_true hz]
 apply f28_l1_rule (I:=fun z w'=>∃j:Nat,z= .int .i64 (j:Int)∧j≤ks.length∧Ext (w.alloc chzO) w') (μ:=fun z _=>ks.length-(intOf z).toNat)
 ·exact ⟨0,rfl,by omega,(by repeat (first|(with_reducible first|refine Sh.eB ?_ _|assumption|exact Sh.eR _|refine Sh.eA ?_ _|refine Sh.eD ?_|refine Sh.eT ?_ (by assumption))|exact Sh.eR _))⟩
 ·intros;rename_i w1 hI E1 hE
  obtain ⟨j,rfl,hj,he1⟩:=hI
  have e1:Ext w w1:=e0.trans he1
  obtain ⟨c0,c1,c2,c3,c4⟩:=czCells he1
  by_cases hjl:j<ks.length
  ·obtain ⟨sb,so,sc,ev1,hc⟩:=(hk.ext e1).get (u8L_get hjl)
   injection ev1 with ev1 _ ev2;subst ev1;subst ev2
   have hkj:=hks ks[j] (List.getElem_mem hjl)
   rw [hkj] at hc
   unfold f28_l1_t
   simp (disch:=first|omega|simp only [RO]|(simp only [RZ]<;>omega)|fail) only [↓RBp,↓RA,↓reduceIte,Nat.reduceAdd,Nat.reduceMul,Nat.reduceEqDiff,RB,RX,RA2,hc]
   apply hE
   ·exact ⟨j+1,by simp,by omega,he1⟩
   ·simp [intOf];omega
  ·have hjk:j=ks.length:=by omega
   subst hjk
   unfold f28_l1_t
   simp (disch:=first|omega|simp only [RO]|(simp only [RZ]<;>omega)|fail) only [↓RBp,↓RA,↓reduceIte,Nat.reduceAdd,Nat.reduceMul,Nat.reduceEqDiff,RB,RX,RA2,c0,c1,c2,c3,c4,f28_k1_eq,f28_k1_t]
   refine k_onceZ (hG.ext (by repeat (first|(with_reducible first|refine Sh.eB ?_ _|assumption|exact Sh.eR _|refine Sh.eA ?_ _|refine Sh.eD ?_|refine Sh.eT ?_ (by assumption))|exact Sh.eR _))) L M _ _ (hL.ext (by repeat (first|(with_reducible first|refine Sh.eB ?_ _|assumption|exact Sh.eR _|refine Sh.eA ?_ _|refine Sh.eD ?_|refine Sh.eT ?_ (by assumption))|exact Sh.eR _))) (hM.ext (by repeat (first|(with_reducible first|refine Sh.eB ?_ _|assumption|exact Sh.eR _|refine Sh.eA ?_ _|refine Sh.eD ?_|refine Sh.eT ?_ (by assumption))|exact Sh.eR _))) (by omega) (by omega) _ _ (by simp (disch:=first|omega|simp only [RO]|(simp only [RZ]<;>omega)|fail) only [↓RBp,↓RA,↓reduceIte,Nat.reduceAdd,Nat.reduceMul,Nat.reduceEqDiff,RB,RX,RA2]) (by simp (disch:=first|omega|simp only [RO]|(simp only [RZ]<;>omega)|fail) only [↓RBp,↓RA,↓reduceIte,Nat.reduceAdd,Nat.reduceMul,Nat.reduceEqDiff,RB,RX,RA2]) _ (fun r w2 he2=> ?_)
   have e12:Ext w1 w2:=Ext.trans (by repeat (first|(with_reducible first|refine Sh.eB ?_ _|assumption|exact Sh.eR _|refine Sh.eA ?_ _|refine Sh.eD ?_|refine Sh.eT ?_ (by assumption))|exact Sh.eR _)) he2
   have e2:Ext w w2:=e1.trans e12
   have ob46:=czCells (he1.trans e12);have d0:=ob46.1;have d1:=ob46.2.1;have d2:=ob46.2.2.1;have d3:=ob46.2.2.2.1;have d4:=ob46.2.2.2.2
   cases r with
   |false=>
    simp (disch:=first|omega|simp only [RO]|(simp only [RZ]<;>omega)|fail) only [↓RBp,↓RA,↓reduceIte,Nat.reduceAdd,Nat.reduceMul,Nat.reduceEqDiff,RB,RX,RA2]
    exact hK _ _ e2
   |true=>
    simp (disch:=first|omega|simp only [RO]|(simp only [RZ]<;>omega)|(with_reducible (repeat (first|assumption|exact Ext.refl _|refine Ext.alloc ?_ _|refine Ext.drew ?_|refine Ext.trans ?_ (by assumption))))|fail) only [↓RBp,↓RA,↓reduceIte,Nat.reduceAdd,Nat.reduceMul,Nat.reduceEqDiff,RB,RX,RA2,d0,d1,d2,d3,d4]
    exact hK _ _ e2
end
def pairI (ws:List (Nat×Nat)):List Ins:=ws.flatMap fun x=> [wrI x,flI x.1]
def sfD (D:DS) (ws:List (Nat×Nat)):DS:=D.run 0 (pairI ws)
def acD (D:DS) (ws:List (Nat×Nat)):DS:=(sfD D ws).fence 0
section
variable {D D2:DS} {l0 n k g:Nat} {f f2:Nat→Int×Int×Bool} {c t r e:Int} {ws:List (Nat×Nat)}
theorem pairI_app (a b:List (Nat×Nat)):pairI (a++b)=pairI a++pairI b:=by simp [pairI]
theorem sfD_take {x:Nat×Nat} (h:ws[k]? =some x):sfD D (ws.take (k+1))=((sfD D (ws.take k)).store 0 x.1 x.2).flush 0 x.1:=by
 have hk:=(List.getElem?_eq_some_iff.1 h).1
 have e:ws.take (k+1)=ws.take k++ [x]:=by
  rw [List.take_add_one,h];rfl
 unfold sfD
 rw [e,pairI_app,run_append];rfl
theorem pair_len:∀ws:List (Nat×Nat),(pairI ws).length=2*ws.length
 | []=>rfl
 |x::r=>by
  have e:pairI (x::r)=wrI x::flI x.1::pairI r:=rfl
  rw [e];simp only [List.length_cons,pair_len r];omega
theorem sf_on:∀(ws:List (Nat×Nat)) (D:DS),On D→(∀x∈ws,x.1%8=0∧x.1<D.n*64)→On (sfD D ws)∧(sfD D ws).cur=applyH ws D.cur
 | [],D,h,_=>⟨h,rfl⟩
 |x::r,D,h,hv=>by
  have hx:=hv x (by simp)
  have v1:vOff D x.1=true:=by unfold vOff;rw [decide_eq_true hx.1,decide_eq_true hx.2];rfl
  have n1:=store_n D 0 x.1 x.2
  have v2:fOff (D.store 0 x.1 x.2) x.1=true:=by unfold fOff;rw [n1,decide_eq_true hx.2]
  have o1:=h.storeOn x.1 x.2 v1
  have o2:=o1.flushOn x.1 v2
  have n2:((D.store 0 x.1 x.2).flush 0 x.1).n=D.n:=by
   have:((D.store 0 x.1 x.2).flush 0 x.1)=D.run 0 [wrI x,flI x.1]:=rfl
   rw [this];exact run_n 0 _ D
  obtain ⟨a,b⟩:=sf_on r ((D.store 0 x.1 x.2).flush 0 x.1) o2 (fun y hy=>by rw [n2];exact hv y (by simp [hy]))
  have e:sfD D (x::r)=sfD ((D.store 0 x.1 x.2).flush 0 x.1) r:=rfl
  rw [e]
  refine ⟨a,?_⟩
  rw [b,o1.flushCur x.1 v2,h.storeCur x.1 x.2 v1,applyH_cons]
theorem pair_okI (h:∀x∈ws,x.1<18446744073709551616∧x.2<18446744073709551616):∀i∈pairI ws,okI i:=by
 intro i hi
 unfold pairI at hi
 rw [List.mem_flatMap] at hi
 obtain ⟨x,hx,hi⟩:=hi
 have:=h x hx
 simp only [List.mem_cons,List.not_mem_nil,or_false] at hi
 rcases hi with rfl|rfl
 ·exact ⟨(by decide:1≤1),(by decide:1≤3),this.1,this.2⟩
 ·exact ⟨(by decide:1≤2),(by decide:2≤3),this.1,(by decide:0<18446744073709551616)⟩
theorem pair_vIns (h:∀x∈ws,x.1%8=0∧x.1<n*64):∀i∈pairI ws,vIns n i:=by
 intro i hi
 unfold pairI at hi
 rw [List.mem_flatMap] at hi
 obtain ⟨x,hx,hi⟩:=hi
 have:=h x hx
 simp only [List.mem_cons,List.not_mem_nil,or_false] at hi
 rcases hi with rfl|rfl
 ·exact ⟨fun _=>this,fun h2=>by simp [wrI] at h2⟩
 ·exact ⟨fun h1=>by simp [flI] at h1,fun _=>this.2⟩
def Cov (C:Co):Prop:=∀l:Nat,C.hist l= []∨C.notes ((l:Nat):Int)=some (C.done l+(C.hist l).length)
theorem cov_pair {C:Co} (h:Cov C) (j:J1 C) (x:Nat×Nat):Cov ((C.ex (wrI x)).ex (flI x.1))∧J1 ((C.ex (wrI x)).ex (flI x.1)):=by
 have e1:C.ex (wrI x)=C.st x.1 x.2:=rfl
 have e2:(C.st x.1 x.2).ex (flI x.1)=(C.st x.1 x.2).fl x.1:=rfl
 rw [e1,e2]
 refine ⟨fun l=> ?_,j.st x.1 x.2⟩
 by_cases e:l=x.1/64
 ·right
  subst e
  unfold Co.fl
  simp
 ·have hn:((l:Nat):Int)≠((x.1/64:Nat):Int):=by omega
  rcases h l with h1|h1
  ·left
   show (if l=x.1/64 then _ else C.hist l)= []
   rw [if_neg e];exact h1
  ·right
   show (if ((l:Nat):Int)=((x.1/64:Nat):Int) then _ else C.notes l)=some (C.done l+(if l=x.1/64 then C.hist (x.1/64)++ [(x.1,x.2)] else C.hist l).length)
   rw [if_neg hn,if_neg e];exact h1
theorem cov_run:∀(ws:List (Nat×Nat)) (C:Co),Cov C→J1 C→Cov (C.run (pairI ws))∧J1 (C.run (pairI ws))
 | [],C,h,j=>⟨h,j⟩
 |x::r,C,h,j=>by
  obtain ⟨a,b⟩:=cov_pair h j x
  exact cov_run r _ a b
theorem Cov.fe {C:Co} (h:Cov C) (j:J1 C):Cln C.fe:=by
 refine (j.fe (fun l=> ?_)).1
 rcases h l with h1|h1
 ·rw [h1];simp
 ·unfold Co.due
  rw [h1]
  simp only
  omega
theorem acD_run (D:DS) (ws:List (Nat×Nat)):acD D ws=D.run 0 (pairI ws++ [⟨3,0,0⟩]):=by unfold acD sfD;rw [run_append];rfl
theorem ac_on (on:On D) (hv:∀x∈ws,x.1%8=0∧x.1<D.n*64):On (acD D ws)∧(acD D ws).cur=applyH ws D.cur:=by
 obtain ⟨a,b⟩:=sf_on ws D on hv
 exact ⟨a.fenceOn,a.fenceCur.trans b⟩
theorem ac_cln (on:On D) (hv:∀x∈ws,x.1%8=0∧x.1<D.n*64) (hc:Cln D.co):Cln (acD D ws).co:=by
 have o2:=(ac_on on hv).1
 rw [acD_run] at o2 ⊢
 have hvi:∀i∈pairI ws++ [⟨3,0,0⟩],vIns D.n i:=fun i hi=>by
  rcases List.mem_append.1 hi with hi|hi
  ·exact pair_vIns hv i hi
  ·simp only [List.mem_singleton] at hi;subst hi
   exact ⟨fun h=>by simp at h,fun h=>by simp at h⟩
 rw [(run_all on.off on.err hvi o2.err).1,corun_append]
 have h0:Cov D.co:=fun l=> .inl (hc.hist l)
 obtain ⟨a,b⟩:=cov_run ws D.co h0 hc.j1
 exact a.fe b
theorem ac_rg (h:RgS D l0 n f) (hk:k<n) (hok:∀x∈ws,(x.1%8=0∧x.1<D.n*64)∧x.1<18446744073709551616∧x.2<18446744073709551616) (hin:∀x∈ws,(l0+32*k)*64≤x.1∧x.1<(l0+32*k)*64+2048) (hh:∀x∈ws,x.1≠(l0+32*k)*64) (hs:0≤(f k).1→Snd (acD D ws) (l0+32*k) (f k).1 (f k).2.1):
  RgS (acD D ws) l0 n f∧(acD D ws).n=D.n∧(acD D ws).exe≤D.exe+2*ws.length+1∧∀j,j<n→j≠k→∀i,i<256→wd (acD D ws) (l0+32*j) i=wd D (l0+32*j) i:=by
 obtain ⟨on,hc⟩:=ac_on h.on (fun x hx=>(hok x hx).1)
 have gd:Good (acD D ws):=by
  rw [acD_run]
  refine Good.run 0 (by omega) _ _ h.gd (fun i hi=> ?_)
  rcases List.mem_append.1 hi with hi|hi
  ·exact pair_okI (fun x hx=>(hok x hx).2) i hi
  ·simp only [List.mem_singleton] at hi;subst hi;exact ⟨by decide,by decide⟩
 have hn:(acD D ws).n=D.n:=by rw [acD_run];exact run_n 0 _ D
 have hx:(acD D ws).exe≤D.exe+2*ws.length+1:=by
  rw [acD_run]
  have:=run_exe 0 (pairI ws++ [⟨3,0,0⟩]) D
  rw [List.length_append,pair_len] at this
  simpa [Nat.add_assoc] using this
 have oth:∀j,j<n→j≠k→∀i,i<256→wd (acD D ws) (l0+32*j) i=wd D (l0+32*j) i:=fun j hj hjk i hi=>by
  unfold wd
  rw [hc]
  refine applyH_other _ _ _ (fun y hy=> ?_)
  have:=hin y hy
  omega
 have h0:wd (acD D ws) (l0+32*k) 0=wd D (l0+32*k) 0:=by
  unfold wd
  rw [hc]
  refine applyH_other _ _ _ (fun y hy=> ?_)
  have h1:=hin y hy;have h2:=hh y hy;have h3:=(hok y hy).1
  omega
 refine ⟨⟨on,gd,by rw [hn];exact h.lt,fun j hj=> ?_,fun j hj hc0=> ?_⟩,hn,hx,oth⟩
 ·by_cases e:j=k
  ·subst e;rw [h0];exact h.ag j hj
  ·rw [oth j hj e 0 (by omega)];exact h.ag j hj
 ·by_cases e:j=k
  ·subst e;exact hs hc0
  ·exact (h.sn j hj hc0).congr hc0 (h.cls hj).1 (oth j hj e)
theorem run_cln {p:List (Nat×Nat)} (on:On D) (hv:∀x∈p,x.1%8=0∧x.1<D.n*64) (hc:Cln D.co):Cln (D.run 0 (storesI p)).co:=by
 have o:=(On.stores on p hv).1
 rw [(run_all on.off on.err (vIns_stores hv) o.err).1]
 exact (run_stores hc p).1
theorem clr_cln (on:On D) (gd:Good D) {l:Nat} (hl:l+32≤D.n) (hc:Cln D.co):Cln (D.run 0 (clrI l g)).co:=
 run_cln on (fun x hx=>by simp only [List.mem_singleton] at hx;subst hx;simp only;omega) hc
theorem plan_cln (on:On D) (gd:Good D) {l:Nat} (hl:l+32≤D.n) (c0:0≤c) (c5:c<5) {o:Int} (hc:Cln D.co):Cln (D.run 0 (planI l c o g)).co:=by
 have h1:=On.stores on (planW l c g) (fun x hx=>by have:=planW_in hl c0 c5 g x hx;exact ⟨this.1,this.2.1⟩)
 have c1:=run_cln on (p:=planW l c g) (fun x hx=>by have:=planW_in hl c0 c5 g x hx;exact ⟨this.1,this.2.1⟩) hc
 unfold planI
 rw [run_append]
 have n1:(D.run 0 (storesI (planW l c g))).n=D.n:=run_n 0 _ D
 exact run_cln h1.1 (fun x hx=>by simp only [List.mem_singleton] at hx;subst hx;rw [n1];simp only;omega) c1
theorem cl_cln (h:RgS D l0 n f) (c0:0≤c) (c5:c<5) (hr:ClRes D l0 n f c t D2 f2 r e) (hc:Cln D.co):Cln D2.co:=by
 have hlt:=h.lt
 rcases hr with ⟨k,hk,hf,hall,hD2,hr⟩|⟨hall,k,g,D1,hk,hem,hnone,hD1,hr⟩|⟨_,_,h3,_⟩
 ·rw [hD2];exact plan_cln h.on h.gd (by omega) c0 c5 hc
 ·have hgk:=emG_ok' h hk hem
  have cg:=clr_gen h.on h.gd (l:=l0+32*k) (g:=g) (by omega) hgk.2.2.2.2
  have c1:=clr_cln (g:=g) h.on h.gd (l:=l0+32*k) (by omega) hc
  rw [←hD1] at cg c1
  rcases hr with ⟨_,hD2,_⟩|⟨_,hD2,_⟩
  ·rw [hD2];exact c1
  ·rw [hD2];exact plan_cln cg.1 cg.2.1 (by rw [cg.2.2.1];omega) c0 c5 c1
 ·rw [h3];exact hc
theorem rl_cln (h:RgS D l0 n f) (hk:k<n) (hr:RlRes D l0 f k D2 f2 e) (hc:Cln D.co):Cln D2.co:=by
 have hlt:=h.lt
 rcases hr with ⟨_,h2,_⟩|⟨g,_,hD1,_⟩
 ·rw [h2];exact hc
 ·rw [hD1];exact clr_cln h.on h.gd (by omega) hc
theorem fmt_cln (on:On D) (gd:Good D) (hl:l0+32*n≤D.n) (hc:Cln D.co):∀m,m≤n→Cln (fmtD D l0 m).co
 |0,_=>hc
 |m+1,hm=>by
  obtain ⟨h1,h2,h3,h4⟩:=fmtD_ok on gd hl m (by omega)
  exact clr_cln h1 h2 (by omega) (fmt_cln on gd hl hc m (by omega))
end
theorem ImgW.cln {D:DS} {F:Nat→Nat} (h:ImgW D F) (hc:Cln D.co) (j:Nat) (hj:j<8*D.n):F j=D.cur j:=by
 rcases h j hj with h1|⟨x,hx,_⟩
 ·rw [h1];exact hc.pers j
 ·have:D.hist (j/8)= []:=hc.hist (j/8)
  rw [this] at hx;cases hx
structure PlA (w0 w:World) (Y:Lay) (D:DS) (S b o cp n:Nat) (f:Nat→Int×Int×Bool) (v:Value) (sl:Nat→Value):Prop where
 a:ArS w0 w Y D S b o cp 3 n f
 r:RgS D 3 n f
 m:MdS w (PF Y b) v sl n (mW D 3) (mH f)
 n5:n≤5
def acF (kd:Nat) (th cl ch:Int) (on:Bool) (tv dv:Value) (i:Nat):Value:= [Value.int .u8 (kd:Int),.int .i64 th,.int .i64 cl,.int .i64 ch,.bool on,tv,dv].getD i undef
section
variable {w0 w w':World} {Y Y':Lay} {D D':DS} {S b o cp n X:Nat} {f f':Nat→Int×Int×Bool} {v tv dv:Value} {sl:Nat→Value} {kd:Nat} {th cl ch:Int} {on:Bool}
theorem PlA.ext (p:PlA w0 w Y D S b o cp n f v sl) (e:Ext w w'):PlA w0 w' Y D S b o cp n f v sl:=⟨p.a.ext e,p.r,p.m.ext e,p.n5⟩
theorem PlA.hP (p:PlA w0 w Y D S b o cp n f v sl):∀x,PF Y b x→x<w.heap.size:=fun x hx=>by
 rcases hx with hx|hx
 ·exact p.a.L.dv.lt hx
 ·have:=p.a.ltb;omega
def PlK (w0 w:World) (Y:Lay) (D:DS) (S b o cp n:Nat) (K:K1):Prop:=∀w' Y' D' f' v' sl',AStp w Y b w' Y'→PlA w0 w' Y' D' S b o cp n f' v' sl'→D'.exe≤D.exe+1000→(Cln D.co→Cln D'.co)→K (.tuple #[v',.bool true]) w'
theorem pl_k2 (p:PlA w0 w Y D S b o cp n f v sl) (hx:D.exe<100000000) (hX:Cells w X 52 7 (acF kd th cl ch on tv dv)) (K:K1) (hK:PlK w0 w Y D S b o cp n K):
  f17_k2 K (stV S) v (.pointer (some ⟨X,0,none⟩)) w:=by
 have hxl:∀w',Ext w w'→w'.cell? ⟨X,1,none⟩=some (.int .i64 th)∧w'.cell? ⟨X,2,none⟩=some (.int .i64 cl):=fun w' e=>⟨(hX.ext e).cell (i:=1) (by omega),(hX.ext e).cell (i:=2) (by omega)⟩
 have hle:=p.a.le
 have ltX:=hX.lt
 obtain ⟨q1,q2⟩:=hxl w (Ext.refl _)
 rw [f17_k2_eq]
 unfold f17_k2_t
 by_cases hb:0≤th∧th<8∧0≤cl∧cl<5
 ·obtain ⟨t0,t8,c0,c5⟩:=id hb
  simp (disch:=first|omega|simp only [RO]|(simp only [RZ]<;>omega)|fail) only [↓RBp,↓RA,↓reduceIte,Nat.reduceAdd,Nat.reduceMul,Nat.reduceEqDiff,RB,RX,RA2,q1,q2]
  refine k_rClaim p.r p.m p.hP p.a.n0 (by omega) c0 c5 t0 t8 _ (fun hnf hne w1 e1=> ?_) (fun k g hk g0 g6 how v' sl' w1 e1 m1=> ?_)
  ·obtain ⟨r1,r2⟩:=hxl w1 e1
   have p1:=p.ext e1
   have s1:=e1.size
   simp (disch:=first|omega|simp only [RO]|(simp only [RZ]<;>omega)|fail) only [↓RBp,↓RA,↓reduceIte,Nat.reduceAdd,Nat.reduceMul,Nat.reduceEqDiff,RB,RX,RA2,r1,r2]
   refine k_Claim p1.a p.r.ag p.r.on.off p.r.on.err (by omega) t0 t8 c0 c5 _ (fun D2 f2 r e hr w2 Y2 a2 h2=> ?_)
   rcases cl_ok p.r c0 c5 t0 t8 hr with ⟨rfl,rfl,rfl,rfl,_,_⟩|⟨_,k,g,_,ok,_⟩
   ·simp (disch:=first|omega|simp only [RO]|(simp only [RZ]<;>omega)|fail) only [↓RBp,↓RA,↓reduceIte,Nat.reduceAdd,Nat.reduceMul,Nat.reduceEqDiff,RB,RX,RA2]
    exact hK w2 Y2 D2 f2 v sl ((AStp.of_ext Y b e1).trans a2) ⟨h2,p.r,p1.m.astp a2,p.n5⟩ (by omega) (fun h=>h)
   ·exfalso
    rcases ok.how with ⟨h1,_⟩|⟨_,h1,_⟩
    ·exact hnf k ok.kn h1
    ·rw [hne k ok.kn] at h1;cases h1
  ·obtain ⟨r1,r2⟩:=hxl w1 e1
   have p1:=p.ext e1
   have s1:=e1.size
   simp (disch:=first|omega|simp only [RO]|(simp only [RZ]<;>omega)|fail) only [↓RBp,↓RA,↓reduceIte,Nat.reduceAdd,Nat.reduceMul,Nat.reduceEqDiff,RB,RX,RA2,r1,r2]
   refine k_Claim p1.a p.r.ag p.r.on.off p.r.on.err (by omega) t0 t8 c0 c5 _ (fun D2 f2 r e hr w2 Y2 a2 h2=> ?_)
   have hcl:=cl_cln p.r c0 c5 hr
   rcases cl_ok p.r c0 c5 t0 t8 hr with ⟨_,_,_,_,h1,h3⟩|⟨rfl,k',g',rfl,ok,rg2,n2,x2⟩
   ·exfalso
    rcases how with ⟨h2,_⟩|⟨_,h2,_⟩
    ·exact h1 k hk h2
    ·rw [h3 k hk] at h2;cases h2
   ·obtain ⟨ek,eg⟩:=How.uniq how ok.how hk ok.kn
    subst ek;subst eg
    have e3:(3:Int)+32*(k:Int)=((3+32*k:Nat):Int):=by omega
    simp (disch:=first|omega|simp only [RO]|(simp only [RZ]<;>omega)|fail) only [↓RBp,↓RA,↓reduceIte,Nat.reduceAdd,Nat.reduceMul,Nat.reduceEqDiff,RB,RX,RA2,e3]
    refine hK w2 Y2 D2 f2 v' sl' ((AStp.of_ext Y b e1).trans a2) ⟨h2,rg2,(m1.astp a2).congr (fun j hj i hi=> ?_) (fun j hj=> ?_),p.n5⟩ (by omega) hcl
    ·by_cases ej:j=k
     ·subst ej;rw [upF_eq];exact (ok.own i hi).symm
     ·rw [upF_ne _ _ ej];exact (ok.oth j hj ej i hi).symm
    ·unfold mH;rw [ok.fe]
     by_cases ej:j=k
     ·subst ej;rw [upF_eq]
     ·rw [upF_ne _ _ ej]
 ·have hq:=fun K (hk:K (.tuple #[v,.int .i64 0,.int .i64 1]) w)=>k_rClaimBad (w:=w) (v:=v) hb K hk
  simp (disch:=first|omega|simp only [RO]|(simp only [RZ]<;>omega)|fail) only [↓RBp,↓RA,↓reduceIte,Nat.reduceAdd,Nat.reduceMul,Nat.reduceEqDiff,RB,RX,RA2,q1,q2]
  refine hq _ ?_
  simp (disch:=first|omega|simp only [RO]|(simp only [RZ]<;>omega)|fail) only [↓RBp,↓RA,↓reduceIte,Nat.reduceAdd,Nat.reduceMul,Nat.reduceEqDiff,RB,RX,RA2,q1,q2]
  refine k_ClaimBad p.a hb _ (fun w1 e1=> ?_)
  simp (disch:=first|omega|simp only [RO]|(simp only [RZ]<;>omega)|fail) only [↓RBp,↓RA,↓reduceIte,Nat.reduceAdd,Nat.reduceMul,Nat.reduceEqDiff,RB,RX,RA2]
  exact hK w1 Y D f v sl (AStp.of_ext Y b e1) (p.ext e1) (by omega) (fun h=>h)
def lnI (ch:Int):Int:=if 0≤ch∧ch<100 then 3+32*ch else-7
theorem lnI_at {k:Nat} (hk:k<n) (hn:n≤5):lnI (k:Int)=((3+32*k:Nat):Int):=by unfold lnI;rw [if_pos (by omega)];omega
theorem lnI_no (h:¬(0≤ch∧ch<n)) (hn:n≤5):∀k,k<n→lnI ch≠((3+32*k:Nat):Int):=fun k hk=>by
 unfold lnI
 split
 ·omega
 ·omega
theorem pl_rel (p:PlA w0 w Y D S b o cp n f v sl) (hx:D.exe<100000000) (K:K1) (hK:PlK w0 w Y D S b o cp n K):
  callS prog 51 #[v,.int .i64 ch] w (fun t49 w_7=>ev prog (Instr.extract t49 0) w_7 fun t50 w_8=>ev prog (Instr.extract t49 1) w_8 fun t51 w_9=>callS prog 35 (pA #[stV S,.int .i64 (lnI ch)]) w_9 fun t55 w_10=>ev prog (binM .eql 3 (.tmp 55) (.tmp 56) t55 t51) w_10 fun t57 w_11=>K (.tuple #[t50,t57]) w_11):=by
 refine k_rRelease p.r p.m p.hP p.a.n0 (by have:=p.n5;omega) ch _ (fun hno w1 e1=> ?_) (fun k hch hk hem w1 e1=> ?_) (fun k g hch hk hem v' sl' w1 e1 m1=> ?_)
 ·simp (disch:=first|omega|simp only [RO]|(simp only [RZ]<;>omega)|fail) only [↓RBp,↓RA,↓reduceIte,Nat.reduceAdd,Nat.reduceMul,Nat.reduceEqDiff,RB,RX,RA2]
  refine k_ReleaseNo (p.a.ext e1) (fun k hk=>lnI_no hno p.n5 k hk) _ (fun w2 e2=> ?_)
  simp (disch:=first|omega|simp only [RO]|(simp only [RZ]<;>omega)|fail) only [↓RBp,↓RA,↓reduceIte,Nat.reduceAdd,Nat.reduceMul,Nat.reduceEqDiff,RB,RX,RA2]
  exact hK w2 Y D f v sl (AStp.of_ext Y b (e1.trans e2)) (p.ext (e1.trans e2)) (by omega) (fun h=>h)
 ·subst hch
  rw [lnI_at hk p.n5]
  simp (disch:=first|omega|simp only [RO]|(simp only [RZ]<;>omega)|fail) only [↓RBp,↓RA,↓reduceIte,Nat.reduceAdd,Nat.reduceMul,Nat.reduceEqDiff,RB,RX,RA2]
  refine k_Release (p.a.ext e1) p.r.ag hk p.r.on.off p.r.on.err (by omega) _ (fun D2 f2 e hr w2 Y2 a2 h2=> ?_)
  have hcl:=rl_cln p.r hk hr
  rcases rl_ok p.r hk hr with ⟨rfl,rfl,rfl,_⟩|⟨_,g,ok,_⟩
  ·simp (disch:=first|omega|simp only [RO]|(simp only [RZ]<;>omega)|fail) only [↓RBp,↓RA,↓reduceIte,Nat.reduceAdd,Nat.reduceMul,Nat.reduceEqDiff,RB,RX,RA2]
   exact hK w2 Y2 D2 f2 v sl ((AStp.of_ext Y b e1).trans a2) ⟨h2,p.r,(p.m.ext e1).astp a2,p.n5⟩ (by omega) (fun h=>h)
  ·exfalso
   rw [ok.em] at hem;cases hem
 ·subst hch
  rw [lnI_at hk p.n5]
  simp (disch:=first|omega|simp only [RO]|(simp only [RZ]<;>omega)|fail) only [↓RBp,↓RA,↓reduceIte,Nat.reduceAdd,Nat.reduceMul,Nat.reduceEqDiff,RB,RX,RA2]
  refine k_Release (p.a.ext e1) p.r.ag hk p.r.on.off p.r.on.err (by omega) _ (fun D2 f2 e hr w2 Y2 a2 h2=> ?_)
  have hcl:=rl_cln p.r hk hr
  rcases rl_ok p.r hk hr with ⟨_,_,_,h3⟩|⟨rfl,g',ok,rg2,n2,x2⟩
  ·exfalso
   rw [h3] at hem;cases hem
  ·have eg:g=g':=by rw [ok.em] at hem;exact (Option.some.inj hem).symm
   subst eg
   have hgk:=emG_ok' p.r hk hem
   simp (disch:=first|omega|simp only [RO]|(simp only [RZ]<;>omega)|fail) only [↓RBp,↓RA,↓reduceIte,Nat.reduceAdd,Nat.reduceMul,Nat.reduceEqDiff,RB,RX,RA2]
   refine hK w2 Y2 D2 f2 v' sl' ((AStp.of_ext Y b e1).trans a2) ⟨h2,rg2,(m1.astp a2).congr (fun j hj i hi=> ?_) (fun j hj=> ?_),p.n5⟩ (by omega) hcl
   ·by_cases ej:j=k
    ·subst ej;rw [upF_eq];exact (ok.own i hi).symm
    ·rw [upF_ne _ _ ej];exact (ok.oth j hj ej i hi).symm
   ·unfold mH;rw [ok.fe]
    by_cases ej:j=k
    ·subst ej;rw [upF_eq,upF_eq];exact hgk.2.2.1.symm
    ·rw [upF_ne _ _ ej,upF_ne _ _ ej]
end
structure ActD where
 kd:Nat
 th:Int
 cl:Int
 ch:Int
 on:Bool
 L:List Int
 M:List Int
def actOk7 (x:ActD):Prop:=x.kd<256∧x.L.length≤maxLen∧x.M.length≤maxLen
def ActsR7 (m:Nat) (w:World) (v:Value) (al:List ActD):Prop:=∃a cap,v= .slice a al.length cap∧∀j x,al[j]? =some x→∃b o tv dv,a=some ⟨b,o,none⟩∧b<m∧(∀i,i<7→w.cell? ⟨b,o+j*7+i,none⟩=some (acF x.kd x.th x.cl x.ch x.on tv dv i))∧RdS m w tv (i64L x.L)∧RdS m w dv (i64L x.M)
theorem ActsR7.ext {m:Nat} {w w':World} {v:Value} {al:List ActD} (h:ActsR7 m w v al) (e:Ext w w'):ActsR7 m w' v al:=by
 obtain ⟨a,cap,hv,h⟩:=h
 refine ⟨a,cap,hv,fun j x hx=> ?_⟩
 obtain ⟨b,o,tv,dv,ha,hb,c,r1,r2⟩:=h j x hx
 exact ⟨b,o,tv,dv,ha,hb,fun i hi=>e.cell_some (c i hi),r1.ext e,r2.ext e⟩
def lvC (D:DS) (l:Nat) (c:Int):Nat→List Nat
 |0=> []
 |b+1=>lvC D l c b++if mkB D l c (b:Int) 177=true then [ptrN (pOff l c b) (bG (wd D l (offN c b))) (bK (wd D l (offN c b)))] else []
def lvJ (D:DS) (f:Nat→Int×Int×Bool) (j:Nat):List Nat:=if (f j).1<0 then [] else lvC D (3+32*j) (f j).1 64
def lvA (D:DS) (f:Nat→Int×Int×Bool):Nat→List Nat
 |0=> []
 |j+1=>lvA D f j++lvJ D f j
structure ChI (DF D:DS) (f:Nat→Int×Int×Bool) (j:Nat):Prop where
 ok:hdOk (wd DF (3+32*j) 0)=true
 cs:(hC (wd DF (3+32*j) 0)<0∧lvJ D f j= [])∨(0≤hC (wd DF (3+32*j) 0)∧Snd DF (3+32*j) (hC (wd DF (3+32*j) 0)) (hO (wd DF (3+32*j) 0))∧(lvJ D f j= []∨(0≤(f j).1∧hC (wd DF (3+32*j) 0)=(f j).1∧∀i,i<256→wd DF (3+32*j) i=wd D (3+32*j) i)))
section
variable {D D1 D2 DF:DS} {l l0 n k g j:Nat} {f f2:Nat→Int×Int×Bool} {c t r e o:Int} {F:Nat→Nat}
theorem chI_same (r:RgS D 3 n f) (hj:j<n) (h:∀i,i<256→wd DF (3+32*j) i=wd D (3+32*j) i):ChI DF D f j:=by
 have ha:=r.ag j hj
 have hc:=r.cls hj
 have h0:=h 0 (by omega)
 refine ⟨by rw [h0];exact ha.1,?_⟩
 by_cases h1:(f j).1<0
 ·left
  refine ⟨by rw [h0,←ha.2.1];exact h1,?_⟩
  unfold lvJ;rw [if_pos h1]
 ·right
  rw [h0,←ha.2.1,←ha.2.2]
  exact ⟨by omega,(r.sn j hj (by omega)).congr (by omega) hc.1 h,.inr ⟨by omega,rfl,h⟩⟩
theorem chI_free {X:Nat} (hw:wd DF (3+32*j) 0=X) (hX:hdOk X=true∧hC X<0) (he:lvJ D f j= []):ChI DF D f j:=
 ⟨by rw [hw];exact hX.1,.inl ⟨by rw [hw];exact hX.2,he⟩⟩
theorem chI_new (hs:Snd DF (3+32*j) c t) (c0:0≤c) (he:lvJ D f j= []):ChI DF D f j:=by
 refine ⟨hs.hd,.inr ?_⟩
 rw [hs.hc,hs.ho]
 exact ⟨c0,hs,.inl he⟩
theorem lvJ_free (h:(f j).1<0):lvJ D f j= []:=by unfold lvJ;rw [if_pos h]
theorem lvC_no:∀b:Nat,(∀i:Nat,i<b→mkB D l c (i:Int) 177=false)→lvC D l c b= []
 |0,_=>rfl
 |b+1,h=>by
  simp only [lvC]
  rw [lvC_no b (fun i hi=>h i (by omega)),h b (by omega)];rfl
theorem lvJ_em (hc:(f k).1<5∧-1≤(f k).1) (he:emG D 3 f k=some g):lvJ D f k= []:=by
 unfold emG at he
 by_cases h1:(f k).1<0
 ·exact lvJ_free h1
 ·rw [if_neg h1] at he
  by_cases h2:(f k).2.2=true
  ·rw [if_pos h2] at he;cases he
  ·rw [if_neg h2] at he
   by_cases h3:alF D (3+32*k) (f k).1 (perS (f k).1).toNat=true
   ·unfold lvJ
    rw [if_neg h1]
    refine lvC_no 64 (fun i hi=> ?_)
    unfold mkB
    rw [Int.toNat_natCast]
    by_cases h4:(i:Int)<perS (f k).1
    ·have h5:=(okF_parts (alF_ok h3 i (by omega))).1
     rw [h5];simp
    ·rw [decide_eq_false (by omega)];rfl
   ·rw [if_neg h3] at he;cases he
theorem storesI_op1 {us:List (Nat×Nat)} {i:Ins} (hi:i∈storesI us) (h1:i.op=1):∃x∈us,i.off=x.1∧i.val=x.2:=by
 simp only [storesI,List.mem_append,List.mem_map,List.mem_singleton] at hi
 rcases hi with (⟨x,hx,rfl⟩|⟨x,hx,rfl⟩)|rfl
 ·exact ⟨x,hx,rfl,rfl⟩
 ·simp [flI] at h1
 ·simp at h1
theorem img_far (hc:Cln D.co) (ho:D.off=false) {p:List Ins} (hv:∀i∈p,vIns D.n i) {a:Nat} (ha:a<8*D.n) (hp:∀i∈p,i.op=1→i.off/8≠a) (hF:ImgW (D.run 0 p) F):F a=D.cur a:=by
 obtain ⟨m,hm,h1,_⟩:=run_co p D ho hv
 have q:=QA.run (a:=a) (X:=D.cur a) (p.take m) (C:=D.co) ⟨hc.pers a,fun l x hx=>by rw [hc.hist] at hx;cases hx⟩ (fun i hi=>hp i (List.mem_of_mem_take hi))
 rw [←h1] at q
 have nn:(D.run 0 p).n=D.n:=run_n 0 _ D
 rcases hF a (by rw [nn];exact ha) with h3|⟨x,hx,h3,_⟩
 ·rw [h3];exact q.1
 ·exact absurd h3 (q.2 _ x hx)
theorem img_one (hc:Cln D.co) (ho:D.off=false) {p:List Ins} (hv:∀i∈p,vIns D.n i) {a H:Nat} (ha:a<8*D.n) (hp:∀i∈p,i.op=1→i.off/8=a∧i.val=H) (hF:ImgW (D.run 0 p) F):F a=D.cur a∨F a=H:=by
 obtain ⟨m,hm,h1,_⟩:=run_co p D ho hv
 have q:=RQ.run (a:=a) (X:=D.cur a) (H:=H) (G:=D.cur) (p.take m) (C:=D.co) ⟨fun j _=>hc.pers j,.inl (hc.pers a),fun l x hx=>by rw [hc.hist] at hx;cases hx⟩ (fun i hi=>hp i (List.mem_of_mem_take hi))
 rw [←h1] at q
 have nn:(D.run 0 p).n=D.n:=run_n 0 _ D
 rcases hF a (by rw [nn];exact ha) with h3|⟨x,hx,_,h3⟩
 ·rw [h3];exact q.2.1
 ·rw [h3];exact .inr (q.2.2 _ x hx).2
abbrev imD (n:Nat) (F:Nat→Nat):DS:=DS.init n ((List.range (8*n)).map F)
theorem img_plan (hc:Cln D.co) (ho:D.off=false) (hg:Good D) (hl:l+32≤D.n) (c0:0≤c) (c5:c<5) (o0:0≤o) (o8:o<8) (hg0:g≠0) (hg6:g<65536) (hF:ImgW (D.run 0 (planI l c o g)) F):
  (wd (imD D.n F) l 0=wd D l 0∨Snd (imD D.n F) l c o)∧∀l',(l'+32≤l∨l+32≤l')→l'+32≤D.n→∀i,i<256→wd (imD D.n F) l' i=wd D l' i:=by
 refine ⟨?_,fun l' hl' hn i hi=> ?_⟩
 ·rcases cut_chunk hc ho hg hl c0 c5 o0 o8 hg0 hg6 (X:=D.cur (l*8)) rfl hF with ⟨h1,_⟩|⟨_,h2,_⟩
  ·left;rw [h1];unfold wd;rfl
  ·exact .inr h2
 ·rw [init_wd F (by omega),img_far hc ho (vIns_plan hl c0 c5 o g) (by omega) (fun i hi h1=> ?_) hF]
  ·unfold wd;rfl
  ·unfold planI at hi
   rcases List.mem_append.1 hi with hi|hi
   ·obtain ⟨x,hx,e,_⟩:=storesI_op1 hi h1
    have:=planW_in hl c0 c5 g x hx
    omega
   ·obtain ⟨x,hx,e,_⟩:=storesI_op1 hi h1
    simp only [List.mem_singleton] at hx;subst hx
    simp only at e;omega
theorem img_clr (hc:Cln D.co) (ho:D.off=false) (hg:Good D) (hl:l+32≤D.n) (hF:ImgW (D.run 0 (clrI l g)) F):
  (wd (imD D.n F) l 0=wd D l 0∨wd (imD D.n F) l 0=sealN (hdX (-1) (-1) g))∧∀l',l'+32≤D.n→∀i,i<256→l'*8+i≠l*8→wd (imD D.n F) l' i=wd D l' i:=by
 have hp:∀i∈clrI l g,i.op=1→i.off/8=l*8∧i.val=sealN (hdX (-1) (-1) g):=fun i hi h1=>by
  obtain ⟨x,hx,e,e2⟩:=storesI_op1 hi h1
  simp only [List.mem_singleton] at hx;subst hx
  simp only at e e2
  exact ⟨by omega,e2⟩
 refine ⟨?_,fun l' hl' i hi hne=> ?_⟩
 ·rw [init_wd F (by omega)]
  rcases img_one hc ho (vIns_clr hl g) (a:=l*8) (by omega) hp hF with h|h
  ·left;rw [Nat.add_zero,h];unfold wd;rfl
  ·right;rw [Nat.add_zero,h]
 ·rw [init_wd F (by omega),img_far hc ho (vIns_clr hl g) (by omega) (fun i hi h1=>by have:=(hp i hi h1).1;omega) hF]
  unfold wd;rfl
structure ArmO (D D1:DS):Prop where
 co:Cln D1.co
 off:D1.off=false
 err:D1.err 0=0
 gd:Good D1
 n:D1.n=D.n
 cur:D1.cur=D.cur
theorem ArmO.wd (h:ArmO D D1) (l i:Nat):wd D1 l i=wd D l i:=by unfold Go.Proofs.YtifpinhjpbgnoaaGreatDoor.wd;rw [h.cur]
theorem ArmO.em (h:ArmO D D1) (r:RgS D 3 n f) (hk:k<n):emG D1 3 f k=emG D 3 f k:=by
 have hc:=r.cls hk
 unfold emG
 by_cases h1:(f k).1<0
 ·rw [if_pos h1,if_pos h1]
 ·rw [if_neg h1,if_neg h1]
  have hp:=perS_in (c:=(f k).1) (by omega) hc.1
  have hal:=alF_congr (D:=D) (D':=D1) (l:=3+32*k) (c:=(f k).1) (fun j _=>h.wd _ j) (by omega) hc.1 (perS (f k).1).toNat (by omega)
  rw [hal.1,hal.2]
theorem cut_clr (h:ArmO D D1) (r:RgS D 3 n f) (hk:k<n) (hem:emG D 3 f k=some g) (hF:ImgW (D1.run 0 (clrI (3+32*k) g)) F) (hj:j<n):ChI (imD D.n F) D f j:=by
 have hlt:=r.lt
 have hn:=h.n
 have hgk:=emG_ok' r hk hem
 have hfr:=hd_free hgk.2.2.2.1 hgk.2.2.2.2
 obtain ⟨h1,h2⟩:=img_clr h.co h.off h.gd (l:=3+32*k) (by omega) hF
 rw [hn] at h1 h2
 by_cases e:j=k
 ·subst e
  rcases h1 with h1|h1
  ·refine chI_same r hj (fun i hi=> ?_)
   by_cases e0:i=0
   ·subst e0;rw [h1,h.wd]
   ·rw [h2 _ (by omega) i hi (by omega),h.wd]
  ·exact chI_free h1 ⟨hfr.1,by rw [hfr.2.1];decide⟩ (lvJ_em (r.cls hj) hem)
 ·exact chI_same r hj (fun i hi=>by rw [h2 _ (by omega) i hi (by omega),h.wd])
theorem cut_plan {D3:DS} (h:ArmO D D1) (r:RgS D 3 n f) (hk:k<n) (c0:0≤c) (c5:c<5) (t0:0≤t) (t8:t<8) (hg0:g≠0) (hg6:g<65536) (co3:Cln D3.co) (off3:D3.off=false) (gd3:Good D3) (n3:D3.n=D.n) (hw:∀j,j<n→j≠k→∀i,i<256→wd D3 (3+32*j) i=wd D (3+32*j) i) (hf:hdOk (wd D3 (3+32*k) 0)=true∧hC (wd D3 (3+32*k) 0)<0) (he:lvJ D f k= []) (hF:ImgW (D3.run 0 (planI (3+32*k) c t g)) F) (hj:j<n):ChI (imD D.n F) D f j:=by
 have hlt:=r.lt
 obtain ⟨h1,h2⟩:=img_plan co3 off3 gd3 (l:=3+32*k) (by omega) c0 c5 t0 t8 hg0 hg6 hF
 rw [n3] at h1 h2
 by_cases e:j=k
 ·subst e
  rcases h1 with h1|h1
  ·exact chI_free h1 hf he
  ·exact chI_new h1 c0 he
 ·exact chI_same r hj (fun i hi=>by rw [h2 _ (by omega) (by omega) i hi,hw j hj e i hi])
theorem cut_none (h:ArmO D D1) (r:RgS D 3 n f) (hF:ImgW D1 F) (hj:j<n):ChI (imD D.n F) D f j:=by
 have hlt:=r.lt
 have hn:=h.n
 refine chI_same r hj (fun i hi=> ?_)
 have:=hF.cln h.co ((3+32*j)*8+i) (by omega)
 rw [init_wd F (by omega),this,h.cur];unfold wd;rfl
theorem cut_rl (h:ArmO D D1) (r:RgS D 3 n f) (hk:k<n) (hr:RlRes D1 3 f k D2 f2 e) (hF:ImgW D2 F) (hj:j<n):ChI (imD D.n F) D f j:=by
 rcases hr with ⟨_,rfl,_,_⟩|⟨g,hem,rfl,_⟩
 ·exact cut_none h r hF hj
 ·rw [h.em r hk] at hem
  exact cut_clr h r hk hem hF hj
theorem cut_cl {rr:Int} (h:ArmO D D1) (r:RgS D 3 n f) (c0:0≤c) (c5:c<5) (t0:0≤t) (t8:t<8) (hr:ClRes D1 3 n f c t D2 f2 rr e) (hF:ImgW D2 F) (hj:j<n):ChI (imD D.n F) D f j:=by
 have hlt:=r.lt
 have hn:=h.n
 rcases hr with ⟨k,hk,hfr,_,rfl,_⟩|⟨_,k,g,D3,hk,hem,_,hD3,hr⟩|⟨_,_,rfl,_⟩
 ·have ha:=r.ag k hk
  have hc:=hd_cls ha.1
  rw [h.wd] at hF
  exact cut_plan h r hk c0 c5 t0 t8 hc.2.2.1 (by unfold gX;omega) h.co h.off h.gd hn (fun j _ _ i _=>h.wd _ i) (by rw [h.wd,←ha.2.1];exact ⟨ha.1,hfr⟩) (lvJ_free hfr) hF hj
 ·rw [h.em r hk] at hem
  have hgk:=emG_ok' r hk hem
  have hfr:=hd_free hgk.2.2.2.1 hgk.2.2.2.2
  rcases hr with ⟨_,rfl,_⟩|⟨he3,rfl,_⟩
  ·subst hD3
   exact cut_clr h r hk hem hF hj
  ·rw [hD3] at he3
   have hall:=run_all h.off h.err (vIns_clr (l:=3+32*k) (by omega) g) he3
   have hcu:=clr_cur h.off h.err (l:=3+32*k) (by omega) he3
   have hst:=run_stores h.co [((3+32*k)*64,sealN (hdX (-1) (-1) g))]
   have gd3:Good D3:=by
    rw [hD3]
    refine Good.run 0 (by omega) _ _ h.gd ?_
    exact (clr_gen r.on r.gd (l:=3+32*k) (g:=g) (by omega) hgk.2.2.2.2).2.2.2.1
   have n3:D3.n=D.n:=by rw [hD3,run_n];exact hn
   have w3:∀l' i,wd D3 l' i=if l'*8+i=(3+32*k)*8 then sealN (hdX (-1) (-1) g) else wd D l' i:=fun l' i=>by
    rw [hD3];unfold wd;rw [hcu.1,h.cur]
   refine cut_plan h r hk c0 c5 t0 t8 hgk.2.2.2.1 hgk.2.2.2.2 ?_ (by rw [hD3];exact hall.2) gd3 n3 (fun j _ hjk i hi=>by rw [w3,if_neg (by omega)]) ?_ (lvJ_em (r.cls hk) hem) hF hj
   ·rw [hD3,hall.1];exact hst.1
   ·rw [w3,if_pos (by omega)]
    exact ⟨hfr.1,by rw [hfr.2.1];decide⟩
 ·exact cut_none h r hF hj
end
abbrev ptL (ps:List Nat):List Value:=ps.map u64
theorem elPtr:ElT prog 62 62 73 1 8 (.int .u64 0):=⟨by kernel_rfl,by kernel_rfl,by kernel_rfl,by kernel_rfl,by decide⟩
section
variable {w0 w w':World} {Y Y':Lay} {D D':DS} {B l k:Nat} {c o:Int} {g:Nat}
def TakenAt (D:DS) (l:Nat) (c o:Int) (k gi kd:Nat):Prop:=Snd D l c o∧bS (wd D l (offN c k))=177∧bG (wd D l (offN c k))=gi∧bK (wd D l (offN c k))=kd
end
section
variable {D D2:DS} {l l0 n k g m:Nat} {f f2:Nat→Int×Int×Bool} {c t r e o:Int} {ws:List (Nat×Nat)} {P:List Nat}
structure ApI (D:DS) (n:Nat) (f:Nat→Int×Int×Bool) (m:Nat) (P:List Nat):Prop where
 r:RgS D 3 n f
 mn:m≤n
 lo:∀j,j<m→0≤(f j).1∧(f j).1<5∧0≤(f j).2.1∧(f j).2.1<8
 hi:∀j,m≤j→j<n→f j=(-1,-1,false)
 len:P.length=m
 tk:∀j,j<m→∃g,g<65536∧P[j]? =some (ptrN (pOff (3+32*j) (f j).1 0) g 64)∧TakenAt D (3+32*j) (f j).1 (f j).2.1 0 g 64
theorem ApI.em (h:ApI D n f m P) {j:Nat} (hj:j<m):emG D 3 f j=none:=by
 obtain ⟨g,_,_,ht⟩:=h.tk j hj
 have hl:=h.lo j hj
 have hp:=perS_in hl.1 hl.2.1
 unfold emG
 rw [if_neg (by omega)]
 by_cases h2:(f j).2.2=true
 ·rw [if_pos h2]
 ·rw [if_neg h2]
  have h3:alF D (3+32*j) (f j).1 (perS (f j).1).toNat=false:=alF_no (i:=0) (by omega) (by
   cases h4:okF D (3+32*j) (f j).1 0 with
   |false=>rfl
   |true=>
    have h5:=(okF_parts h4).1
    rw [ht.2.1] at h5;omega)
  rw [h3,if_neg (by simp)]
theorem ClOk.fresh (ok:ClOk D 3 n f c t D2 f2 m g) (rg:RgS D2 3 n f2) (c0:0≤c) (c5:c<5):Snd D2 (3+32*m) c t∧∀i:Nat,(i:Int)<perS c→bS (wd D2 (3+32*m) (offN c i))=176∧bG (wd D2 (3+32*m) (offN c i))=g:=by
 have hp:=perS_in c0 c5
 have e1:(f2 m).1=c∧(f2 m).2.1=t:=by rw [ok.fe,upF_eq];exact ⟨rfl,rfl⟩
 have hs:=rg.sn m ok.kn (by rw [e1.1];exact c0)
 rw [e1.1,e1.2] at hs
 refine ⟨hs,fun i hi=> ?_⟩
 have bd:=offN_bd c0 c5 hi
 have e2:wd D2 (3+32*m) (offN c i)=sealN (blkX g 0 176):=by
  rw [ok.own _ bd.2.2]
  unfold planF;rw [if_neg (by omega),if_pos (isB_mem.2 ⟨i,by omega,rfl⟩)]
 rw [e2]
 exact ⟨bS_blk ok.g6 (by omega) (by omega),bG_blk ok.g6 (by omega) (by omega)⟩
theorem TakenAt.congr {gi kd:Nat} (h:TakenAt D l c o k gi kd) (c0:0≤c) (c5:c<5) (hk:(k:Int)<perS c) (e:∀j,j<256→wd D2 l j=wd D l j):TakenAt D2 l c o k gi kd:=by
 have b:=e _ (offN_bd c0 c5 hk).2.2
 exact ⟨h.1.congr c0 c5 e,by rw [b];exact h.2.1,by rw [b];exact h.2.2.1,by rw [b];exact h.2.2.2⟩
theorem ApI.next (h:ApI D n f m P) (c0:0≤c) (c5:c<5) (t0:0≤t) (t8:t<8) (ok:ClOk D 3 n f c t D2 f2 m g) (rg:RgS D2 3 n f2) {D3:DS} (r3:RgS D3 3 n f2) (oth:∀j,j<n→j≠m→∀i,i<256→wd D3 (3+32*j) i=wd D2 (3+32*j) i) (ht:TakenAt D3 (3+32*m) c t 0 g 64):ApI D3 n f2 (m+1) (P++ [ptrN (pOff (3+32*m) c 0) g 64]):=by
 have e1:f2 m=(c,t,(f m).2.2):=by rw [ok.fe,upF_eq]
 have e2:∀j,j≠m→f2 j=f j:=fun j hj=>by rw [ok.fe,upF_ne _ _ hj]
 refine ⟨r3,ok.kn,fun j hj=> ?_,fun j hj hjn=> ?_,by rw [List.length_append,h.len];rfl,fun j hj=> ?_⟩
 ·by_cases e:j=m
  ·rw [e,e1];exact ⟨c0,c5,t0,t8⟩
  ·rw [e2 j e];exact h.lo j (by omega)
 ·rw [e2 j (by omega)];exact h.hi j (by omega) hjn
 ·by_cases e:j=m
  ·subst e
   rw [e1]
   refine ⟨g,ok.g6,?_,ht⟩
   rw [List.getElem?_append_right (by rw [h.len];exact Nat.le_refl _),h.len,Nat.sub_self];rfl
  ·obtain ⟨g',h1,h2,h3⟩:=h.tk j (by omega)
   have hl:=h.lo j (by omega)
   have hp:=perS_in hl.1 hl.2.1
   have hjn:=ok.kn
   rw [e2 j e]
   refine ⟨g',h1,?_,?_⟩
   ·rw [List.getElem?_append_left (by rw [h.len];omega)];exact h2
   ·exact h3.congr hl.1 hl.2.1 (by omega) (fun i hi=>by rw [oth j (by omega) e i hi,ok.oth j (by omega) e i hi])
end
section
variable {D DF:DS} {l n k g j:Nat} {f:Nat→Int×Int×Bool} {c t o:Int}
theorem lvC_len (D:DS) (l:Nat) (c:Int):∀b,(lvC D l c b).length≤b
 |0=>Nat.le_refl _
 |b+1=>by
  have:=lvC_len D l c b
  simp only [lvC,List.length_append]
  split
  ·simp only [List.length_singleton];omega
  ·simp only [List.length_nil];omega
theorem lvJ_len (D:DS) (f:Nat→Int×Int×Bool) (j:Nat):(lvJ D f j).length≤64:=by
 unfold lvJ
 split
 ·simp
 ·exact lvC_len _ _ _ _
theorem lvA_len (D:DS) (f:Nat→Int×Int×Bool):∀j,(lvA D f j).length≤64*j
 |0=>Nat.le_refl _
 |j+1=>by
  have h1:=lvA_len D f j
  have h2:=lvJ_len D f j
  simp only [lvA,List.length_append];omega
theorem lvA_mono (D:DS) (f:Nat→Int×Int×Bool):∀i j,i≤j→(lvA D f i).length≤(lvA D f j).length
 |i,0,h=>by
  have:i=0:=by omega
  subst this;exact Nat.le_refl _
 |i,j+1,h=>by
  by_cases e:i=j+1
  ·subst e;exact Nat.le_refl _
  ·have:=lvA_mono D f i j (by omega)
   simp only [lvA,List.length_append];omega
theorem lvC_mem:∀{b:Nat} {p:Nat},p∈lvC D l c b→∃i:Nat,i<b∧mkB D l c (i:Int) 177=true∧p=ptrN (pOff l c i) (bG (wd D l (offN c i))) (bK (wd D l (offN c i)))
 |0,p,h=>by cases h
 |b+1,p,h=>by
  simp only [lvC] at h
  rcases List.mem_append.1 h with h|h
  ·obtain ⟨i,hi,h1,h2⟩:=lvC_mem h
   exact ⟨i,by omega,h1,h2⟩
  ·by_cases h1:mkB D l c (b:Int) 177=true
   ·rw [if_pos h1] at h
    simp only [List.mem_singleton] at h
    exact ⟨b,by omega,h1,h⟩
   ·rw [if_neg h1] at h;cases h
theorem lvA_get:∀(n q:Nat),q<(lvA D f n).length→∃j p,j<n∧(lvA D f j).length≤q∧q<(lvA D f (j+1)).length∧(lvA D f n)[q]? =some p∧p∈lvJ D f j
 |0,q,h=>absurd h (Nat.not_lt_zero _)
 |n+1,q,h=>by
  by_cases h1:q<(lvA D f n).length
  ·obtain ⟨j,p,h2,h3,h4,h5,h6⟩:=lvA_get n q h1
   exact ⟨j,p,by omega,h3,h4,by simp only [lvA];rw [List.getElem?_append_left h1];exact h5,h6⟩
  ·have h2:q-(lvA D f n).length<(lvJ D f n).length:=by
    simp only [lvA,List.length_append] at h;omega
   refine ⟨n,(lvJ D f n)[q-(lvA D f n).length],by omega,by omega,h,?_,List.getElem_mem h2⟩
   simp only [lvA]
   rw [List.getElem?_append_right (by omega),List.getElem?_eq_getElem h2]
theorem mk_parts {i:Nat} (h:mkB D l c (i:Int) 177=true):(i:Int)<perS c∧liveB D l c i (bG (wd D l (offN c i))):=by
 unfold mkB at h
 rw [Int.toNat_natCast] at h
 simp only [Bool.and_eq_true,decide_eq_true_eq] at h
 exact ⟨h.1.2,h.2.1,h.2.2.1,h.2.2.2,rfl⟩
theorem lvJ_mem {p:Nat} (h:p∈lvJ D f j):0≤(f j).1∧∃i:Nat,(i:Int)<perS (f j).1∧liveB D (3+32*j) (f j).1 i (bG (wd D (3+32*j) (offN (f j).1 i)))∧p=ptrN (pOff (3+32*j) (f j).1 i) (bG (wd D (3+32*j) (offN (f j).1 i))) (bK (wd D (3+32*j) (offN (f j).1 i))):=by
 unfold lvJ at h
 by_cases h1:(f j).1<0
 ·rw [if_pos h1] at h;cases h
 ·rw [if_neg h1] at h
  obtain ⟨i,_,h2,h3⟩:=lvC_mem h
  exact ⟨by omega,i,(mk_parts h2).1,(mk_parts h2).2,h3⟩
theorem good_kd {g kd:Nat} (h:goodB g kd 177=true):kd≤127:=by
 unfold goodB at h
 simp at h
 omega
end
section
variable {w0 w w':World} {Y Y':Lay} {D D':DS} {S b o cp n m T:Nat} {f f':Nat→Int×Int×Bool} {v:Value} {P:List Nat}
theorem ArS.frmO (h:ArS w0 w Y D S b o cp 3 n f) {F:Nat→Prop} (e:Frm F w w') (hF:∀x,F x→w0.heap.size≤x∧¬Y.F x∧x≠b∧x≠S):ArS w0 w' Y D S b o cp 3 n f:=
 ⟨⟨h.L.dv.frm e (fun x hx hg=>(hF x hg).2.1 hx),h.L.gd,Ext.frm h.L.ex e (fun x hx=>(hF x hx).1),h.L.nw⟩,h.gl,h.st.frm e (fun hx=>(hF S hx).2.2.2 rfl),h.pl.frm e (fun x hx hf=>by injection hx with hx;subst hx;exact (hF _ hf).2.2.1 rfl),h.nS,h.nb,h.n0,h.lt⟩
def OvA (w0:World) (Y:Lay) (b S:Nat) (v:Value):Prop:=∀x,v.ownBlock=some x→w0.heap.size≤x∧¬Y.F x∧x≠b∧x≠S
theorem OvA.stp (h:OvA w0 Y b S v) (a:AStp w Y b w' Y') (hl:∀x,v.ownBlock=some x→x<w.heap.size):OvA w0 Y' b S v:=fun x hx=>by
 have h1:=h x hx
 refine ⟨h1.1,fun hf=> ?_,h1.2.2⟩
 rcases a.fr x hf with h2|h2
 ·exact h1.2.1 h2
 ·have:=hl x hx;omega
theorem c_OwnerA {l:Nat} {c o:Int} {g:Nat} (K:K1):callS prog 24 #[chV Y l c o g] w K=K (.int .i64 o) (w.alloc (chO Y l c o g)):=by
 refine callS_det (by kernel_rfl) (f24_call _ _ _ ?_) K
 unfold f24_t
 simp (disch:=first|omega|simp only [RO]|(simp only [RZ]<;>omega)|fail) only [↓RBp,↓RA,↓reduceIte,Nat.reduceAdd,Nat.reduceMul,Nat.reduceEqDiff,RB,RX,RA2]
end
section
variable {w0 w w':World} {Y Y':Lay} {D D':DS} {S b o cp n X C k:Nat} {f f':Nat→Int×Int×Bool} {v tv dv:Value} {sl:Nat→Value} {kd:Nat} {th cl ch:Int} {on:Bool} {c:Int}
theorem act_in22 {l:Nat} (c0:0≤c) (c5:c<5) {L M:List Int} {ks:List Nat} {ws:List (Nat×Nat)} (ha:ActA c L ks M) (hs:actN D l c L ks M=some ws):∀x∈ws,∃q,0<q∧q<256∧x.1=l*64+q*8:=by
 obtain ⟨h1,h2,h3⟩:=actN_spec ha.len hs
 have vL:=ha.vL
 have vM:=ha.vM
 have bdi:∀x:Int,0≤x∧x<perS c→8≤offN c x.toNat∧offN c x.toNat<256:=fun x hx=>(offN_bd c0 c5 (i:=x.toNat) (by omega)).2
 intro y hy
 rcases h3 with ⟨rfl,_⟩|rfl
 ·cases hy
 ·simp only [List.mem_append,List.mem_map,List.mem_singleton] at hy
  rcases hy with (hy|⟨x,hx,rfl⟩)|rfl
  ·obtain ⟨x,hx,k,hk,e,_⟩:=zipW_mem hy
   subst e
   have:=bdi x (vL x hx)
   exact ⟨offN c x.toNat,by omega,by omega,rfl⟩
  ·have:=bdi x (vM x hx)
   exact ⟨offN c x.toNat,by omega,by omega,rfl⟩
  ·exact ⟨1,by omega,by omega,rfl⟩
theorem pl_hold (p:PlA w0 w Y D S b o cp n f v sl) (hx:D.exe<100000000) (K:K1) (hK:PlK w0 w Y D S b o cp n K) (K2:K1)
  (hK2:∀w' v' e,Ext w w'→(callS prog 53 #[stV S,.int .i64 (lnI ch),.bool on] w' (fun t74 w_22=>ev prog (binM .eql 3 (.tmp 74) (.tmp 75) t74 (.int .i64 e)) w_22 fun t76 w_23=>K (.tuple #[v',t76]) w_23))→K2 (.tuple #[v',.int .i64 e]) w'):
  callS prog 52 #[v,.int .i64 ch,.bool on] w K2:=by
 refine k_rHold p.r p.m p.hP p.a.n0 (by have:=p.n5;omega) ch on _ (fun hno w1 e1=> ?_) (fun k hch hk hc w1 e1=> ?_) (fun k hch hk hc v' w1 e1 m1=> ?_)
 ·refine hK2 _ _ _ e1 ?_
  refine k_HoldNo (p.a.ext e1) (fun k hk=>lnI_no hno p.n5 k hk) _ _ (fun w2 e2=> ?_)
  simp (disch:=first|omega|simp only [RO]|(simp only [RZ]<;>omega)|fail) only [↓RBp,↓RA,↓reduceIte,Nat.reduceAdd,Nat.reduceMul,Nat.reduceEqDiff,RB,RX,RA2]
  exact hK w2 Y D f v sl (AStp.of_ext Y b (e1.trans e2)) (p.ext (e1.trans e2)) (by omega) (fun h=>h)
 ·subst hch
  refine hK2 _ _ _ e1 ?_
  rw [lnI_at hk p.n5]
  refine k_Hold (p.a.ext e1) hk on _ (fun _ w2 e2=> ?_) (fun h=>absurd hc h)
  simp (disch:=first|omega|simp only [RO]|(simp only [RZ]<;>omega)|fail) only [↓RBp,↓RA,↓reduceIte,Nat.reduceAdd,Nat.reduceMul,Nat.reduceEqDiff,RB,RX,RA2]
  exact hK w2 Y D f v sl (AStp.of_ext Y b (e1.trans e2)) (p.ext (e1.trans e2)) (by omega) (fun h=>h)
 ·subst hch
  refine hK2 _ _ _ e1 ?_
  rw [lnI_at hk p.n5]
  refine k_Hold (p.a.ext e1) hk on _ (fun h=>absurd h hc) (fun _ w2 a2 h2=> ?_)
  have rg:RgS D 3 n (upF f k ((f k).1,(f k).2.1,on)):=by
   refine ⟨p.r.on,p.r.gd,p.r.lt,fun j hj=> ?_,fun j hj h0=> ?_⟩
   ·have:=p.r.ag j hj
    by_cases ej:j=k
    ·subst ej;rw [upF_eq];exact this
    ·rw [upF_ne _ _ ej];exact this
   ·have:=p.r.sn j hj
    by_cases ej:j=k
    ·subst ej;rw [upF_eq] at h0 ⊢;exact this h0
    ·rw [upF_ne _ _ ej] at h0 ⊢;exact this h0
  simp (disch:=first|omega|simp only [RO]|(simp only [RZ]<;>omega)|fail) only [↓RBp,↓RA,↓reduceIte,Nat.reduceAdd,Nat.reduceMul,Nat.reduceEqDiff,RB,RX,RA2]
  exact hK w2 Y D _ v' sl ((AStp.of_ext Y b e1).trans a2) ⟨h2,rg,m1.astp a2,p.n5⟩ (by omega) (fun h=>h)
theorem pl_k4 {D0:DS} {wb:World} {Yb:Lay} (p:PlA w0 wb Yb D0 S b o cp n f v sl) {ws:List (Nat×Nat)} (st:Stp wb Yb w Y (sfD D0 ws)) (hk:k<n) (rg:RgS (acD D0 ws) 3 n f) (hn:(acD D0 ws).n=D0.n) (hx2:(acD D0 ws).exe≤D0.exe+2*ws.length+1) (hwl:ws.length≤150) (hx:D0.exe<100000000) (gs:Good (sfD D0 ws)) (xs:(sfD D0 ws).exe<1000000000) (hcln:Cln D0.co→Cln (acD D0 ws).co) (oth:∀j,j<n→j≠k→∀i,i<256→wd (acD D0 ws) (3+32*j) i=wd D0 (3+32*j) i)
  (hX:Cells w X 52 7 (acF kd th cl (k:Int) on tv dv)) (nX:¬Y.F X) (K:K1) (hK:PlK w0 wb Yb D0 S b o cp n K) (T:Nat) (hT:Yb.tb 0=T):
  f17_k4 K (.pointer (some ⟨T,0,none⟩)) v (.pointer (some ⟨X,0,none⟩)) (.int .i64 ((3+32*k:Nat):Int)) w:=by
 subst hT
 have tb:Y.tb 0=Yb.tb 0:=by rw [st.tb]
 have hlt:=rg.lt
 rw [f17_k4_eq]
 unfold f17_k4_t
 rw [←tb]
 refine k_Fence st.dv gs 0 (by omega) (by omega) _ (fun w1 Y1 st1=> ?_)
 have st2:Stp wb Yb w1 Y1 (acD D0 ws):=st.trans st1
 have a1:=p.a.step st2 rg.gd hn
 have tb1:Y1.tb 0=Y.tb 0:=by rw [st1.tb]
 have hX1:=hX.frm st1.frm nX
 have ltX:=hX1.lt
 have q3:w1.cell? ⟨X,3,none⟩=some (.int .i64 (k:Int)):=hX1.cell (i:=3) (by omega)
 have as2:AStp wb Yb b w1 Y1:=AStp.of_stp b st2
 have m1:=p.m.astp as2
 have hP1:∀x,PF Y1 b x→x<w1.heap.size:=fun x hx=>by
  rcases hx with hx|hx
  ·exact a1.L.dv.lt hx
  ·have:=a1.ltb;omega
 simp (disch:=first|omega|simp only [RO]|(simp only [RZ]<;>omega)|fail) only [↓RBp,↓RA,↓reduceIte,Nat.reduceAdd,Nat.reduceMul,Nat.reduceEqDiff,RB,RX,RA2]
 refine k_copy m1 hP1 p.a.n0 (by have:=p.n5;omega) _ (fun g q cp' w2 e2 hg m2=> ?_)
 have q3:=e2.cell_some q3
 have ltX2:=lt_of_cell q3
 rw [←tb1]
 simp (disch:=first|omega|simp only [RO]|(simp only [RZ]<;>omega)|fail) only [↓RBp,↓RA,↓reduceIte,Nat.reduceAdd,Nat.reduceMul,Nat.reduceEqDiff,RB,RX,RA2,q3]
 refine k_words22 ((a1.L.dv.ext e2).ext (by repeat (first|(with_reducible first|refine Sh.eB ?_ _|assumption|exact Sh.eR _|refine Sh.eA ?_ _|refine Sh.eD ?_|refine Sh.eT ?_ (by assumption))|exact Sh.eR _))) rg.gd rg.on.off (by omega) _ (fun bw ow cw w3 hs3 e3 hb3=> ?_)
 have e23:Ext w2 w3:=Ext.trans (by repeat (first|(with_reducible first|refine Sh.eB ?_ _|assumption|exact Sh.eR _|refine Sh.eA ?_ _|refine Sh.eD ?_|refine Sh.eT ?_ (by assumption))|exact Sh.eR _)) e3
 have q3:=e23.cell_some q3
 have ltX3:=lt_of_cell q3
 have m3:=m2.ext e23
 have d0:=m3.m.cell rfl (mdL_get sl (mH f) n k hk).1
 obtain ⟨sb,so,sc,hsk,_⟩:=p.m.ws k hk
 rw [hsk] at d0
 have fz:=fun i=>m3.m.frz (b:=g) rfl i
 have s2:=e2.size
 have hb3':w2.heap.size≤bw:=by first|exact hb3|simpa only [RZ] using hb3
 have ltg:g<w2.heap.size:=m2.m.lt rfl
 have m4:=m3.wr0 hk (WsL.new hs3 hb3' (fun x hx=>by have:=hP1 x hx;omega)) (by omega)
 (repeat' (first|(with_reducible first|refine brS_mk (fun _=> ?_) (fun _=> ?_)|refine And.intro ?_ ?_)|(simp (disch:=first|omega|simp only [RO]|(simp only [RZ]<;>omega)|fail) only [↓RBp,↓RA,↓reduceIte,Nat.reduceAdd,Nat.reduceMul,Nat.reduceEqDiff,RB,RX,RA2,q3,d0,fz])))
 refine hK _ Y1 (acD D0 ws) f _ _ ?_ ⟨a1.ext ?_,rg,m4.congr (fun j hj i hi=> ?_) (fun _ _=>rfl),p.n5⟩ (by omega) hcln
 ·exact as2.trans (AStp.of_ext Y1 b (Ext.setB (e2.trans e23) (show w1.heap.size≤g by omega) _))
 ·exact Ext.setB (e2.trans e23) (show w1.heap.size≤g by omega) _
 ·by_cases ej:j=k
  ·subst ej;rw [upF_eq];rfl
  ·rw [upF_ne _ _ ej];exact (oth j hj ej i hi).symm
end
abbrev cvA (T l:Nat) (c t:Int) (gg:Nat):Value:= .agg #[.iface 25 (.pointer (some ⟨T,0,none⟩)),.int .i64 (l:Int),.int .i64 c,.int .i64 t,.int .u16 (gg:Int)]
section
variable {w0 w w':World} {Y Y':Lay} {D D':DS} {S b o cp n m T g:Nat} {f f':Nat→Int×Int×Bool} {v:Value} {P:List Nat} {c t:Int}
end
noncomputable def f7_u:Code×Dec:=((Tryz.f7.body).getD .skip,(.s .o (.s .o (.s .o (.s .o (.s .o (.s .o (.x 4000 (.s .o (.b (.l [11,66] 55340232221128656800 4835629491482221860677696 .o))) (.s .o (.x 66976 (.s .o (.b (.l [16,84] 9671406556917033397651360 332306998926886155112117698283110400 (.s .o (.s .o (.x 29014219670751100193015712 (.b (.s .o (.s .o (.s .o (.b (.l [16,20] 29014219670751100193736608 166153420244951969848638288998498304 (.s .o (.x 29014219670751100194850720 .o .o)))))))) .o)))))) (.s .o (.s .o (.x 65952 .o (.s .o (.s .o (.s .o (.s .o (.s .o (.x 134283264 (.s .o (.b (.l [27,167] 140304157183766680147553743940763169886969574522880 26328072917139109602269928565344078008065186165910761918234099776 (.s .o (.s .o (.x 327376366762122253677625402528447396402929074241536 (.b (.s .o (.s .o (.s .o (.s .o (.s .o (.b (.l [27,198] 301300883625937043426240145991593390501360457737203670384640 13163634724058583589670867969935718749211256374320193268843806720 (.s .o (.s .o (.x 703035394690684612311730669076884041131911206182902013427712 .o .o))))))))))) .o)))))) .o)))))))))))))))))))
abbrev f7_e (K:K1):KF:=endK prog Tryz.f7.results.toList K
def f7_k1_o (K:K1):KF:=fun fr w=>∀σ,cP (pr (pr (pr (pr (pr (pr (pr f7_u))))))) (f7_e K) (f7_e K) nX (mixF 4000 σ 0 fr) w
def f7_k1 (K:K1) (x5 x7 x8 x9 x10 x11:Value) (w:World):Prop:=f7_k1_o K (fz 218 0 [(5,x5),(7,x7),(8,x8),(9,x9),(10,x10),(11,x11)]) w
def f7_l1 (K:K1) (x5 x7 x8 x9 x10 x11 x64 x65 x66:Value) (w:World):Prop:=loopT [11,66] 55340232221128656800 (fun E=>cP (pl (pl (pr (pl (pr (pr (pr (pr (pr (pr f7_u)))))))))) E (f7_e K) (exB 0 (f7_k1_o K) nX)) (fz 218 0 [(5,x5),(7,x7),(8,x8),(9,x9),(10,x10),(11,x11),(64,x64),(65,x65),(66,x66)]) w
def f7_k2_o (K:K1):KF:=fun fr w=>∀σ,cP (pr (pr (pr (pr (pr (pr (pr (pr (pr f7_u))))))))) (f7_e K) (f7_e K) nX (mixF 66976 σ 0 fr) w
def f7_k2 (K:K1) (x5 x7 x8 x10 x16:Value) (w:World):Prop:=f7_k2_o K (fz 218 0 [(5,x5),(7,x7),(8,x8),(10,x10),(16,x16)]) w
def f7_l2 (K:K1) (x5 x7 x8 x9 x10 x16 x83 x84:Value) (w:World):Prop:=loopT [16,84] 9671406556917033397651360 (fun E=>cP (pl (pl (pr (pl (pr (pr (pr (pr (pr (pr (pr (pr f7_u)))))))))))) E (f7_e K) (exB 2 (f7_k2_o K) nX)) (fz 218 0 [(5,x5),(7,x7),(8,x8),(9,x9),(10,x10),(16,x16),(83,x83),(84,x84)]) w
def f7_k3_o (K:K1):KF:=fun fr w=>∀σ,cP (pr (pr (pr (pr (pr (pr (pr (pr (pr (pr (pr (pr f7_u)))))))))))) (f7_e K) (f7_e K) nX (mixF 65952 σ 0 fr) w
def f7_k3 (K:K1) (x5 x7 x8 x16:Value) (w:World):Prop:=f7_k3_o K (fz 218 0 [(5,x5),(7,x7),(8,x8),(16,x16)]) w
def f7_k4_o (K:K1) (E1:VP2):KF:=fun fr w=>∀σ,cP (pr (pr (pr (pl (pl (pr (pl (pr (pr (pr (pr (pr (pr (pr (pr f7_u))))))))))))))) (fun fr w=>E1 (sv fr 16) (sv fr 84) w) (f7_e K) (exB 2 (f7_k2_o K) nX) (mixF 29014219670751100193015712 σ 0 fr) w
def f7_k4 (K:K1) (E1:VP2) (x5 x7 x8 x9 x10 x16 x83 x84:Value) (w:World):Prop:=f7_k4_o K E1 (fz 218 0 [(5,x5),(7,x7),(8,x8),(9,x9),(10,x10),(16,x16),(83,x83),(84,x84)]) w
def f7_l3 (K:K1) (E1:VP2) (x5 x7 x8 x9 x10 x16 x18 x19 x20 x83 x84:Value) (w:World):Prop:=loopT [16,20] 29014219670751100193736608 (fun E=>cP (pl (pl (pr (pr (pr (pl (pl (pr (pr (pl (pl (pr (pl (pr (pr (pr (pr (pr (pr (pr (pr f7_u))))))))))))))))))))) E (f7_e K) (exB 4 (f7_k4_o K E1) (exB 3 (f7_k4_o K E1) (exB 2 (f7_k2_o K) nX)))) (fz 218 0 [(5,x5),(7,x7),(8,x8),(9,x9),(10,x10),(16,x16),(18,x18),(19,x19),(20,x20),(83,x83),(84,x84)]) w
def f7_k5_o (K:K1):KF:=fun fr w=>∀σ,cP (pr (pr (pr (pr (pr (pr (pr (pr (pr (pr (pr (pr (pr (pr (pr (pr (pr (pr f7_u)))))))))))))))))) (f7_e K) (f7_e K) nX (mixF 134283264 σ 0 fr) w
def f7_k5 (K:K1) (x16 x27:Value) (w:World):Prop:=f7_k5_o K (fz 218 0 [(16,x16),(27,x27)]) w
def f7_l4 (K:K1) (x16 x24 x25 x27 x165 x166 x167:Value) (w:World):Prop:=loopT [27,167] 140304157183766680147553743940763169886969574522880 (fun E=>cP (pl (pl (pr (pl (pr (pr (pr (pr (pr (pr (pr (pr (pr (pr (pr (pr (pr (pr (pr (pr (pr f7_u))))))))))))))))))))) E (f7_e K) (exB 6 (f7_k5_o K) nX)) (fz 218 0 [(16,x16),(24,x24),(25,x25),(27,x27),(165,x165),(166,x166),(167,x167)]) w
def f7_k6_o (K:K1) (E1:VP2) (E2:VP2):KF:=fun fr w=>∀σ,cP (pr (pr (pl (pl (pr (pr (pr (pl (pl (pr (pr (pl (pl (pr (pl (pr (pr (pr (pr (pr (pr (pr (pr f7_u))))))))))))))))))))))) (fun fr w=>E2 (sv fr 16) (sv fr 20) w) (f7_e K) (exB 4 (f7_k4_o K E1) (exB 3 (f7_k4_o K E1) (exB 2 (f7_k2_o K) nX))) (mixF 29014219670751100194850720 σ 0 fr) w
def f7_k6 (K:K1) (E1:VP2) (E2:VP2) (x5 x7 x8 x9 x10 x16 x18 x19 x20 x83 x84:Value) (w:World):Prop:=f7_k6_o K E1 E2 (fz 218 0 [(5,x5),(7,x7),(8,x8),(9,x9),(10,x10),(16,x16),(18,x18),(19,x19),(20,x20),(83,x83),(84,x84)]) w
def f7_k7_o (K:K1) (E1:VP2):KF:=fun fr w=>∀σ,cP (pr (pr (pr (pl (pl (pr (pl (pr (pr (pr (pr (pr (pr (pr (pr (pr (pr (pr (pr (pr (pr (pr (pr (pr f7_u)))))))))))))))))))))))) (fun fr w=>E1 (sv fr 27) (sv fr 167) w) (f7_e K) (exB 6 (f7_k5_o K) nX) (mixF 327376366762122253677625402528447396402929074241536 σ 0 fr) w
def f7_k7 (K:K1) (E1:VP2) (x16 x24 x25 x27 x165 x166 x167:Value) (w:World):Prop:=f7_k7_o K E1 (fz 218 0 [(16,x16),(24,x24),(25,x25),(27,x27),(165,x165),(166,x166),(167,x167)]) w
def f7_l5 (K:K1) (E1:VP2) (x16 x24 x25 x27 x30 x165 x166 x167 x196 x197 x198:Value) (w:World):Prop:=loopT [27,198] 301300883625937043426240145991593390501360457737203670384640 (fun E=>cP (pl (pl (pr (pr (pr (pr (pr (pl (pl (pr (pr (pl (pl (pr (pl (pr (pr (pr (pr (pr (pr (pr (pr (pr (pr (pr (pr (pr (pr (pr (pr (pr f7_u)))))))))))))))))))))))))))))))) E (f7_e K) (exB 8 (f7_k7_o K E1) (exB 7 (f7_k7_o K E1) (exB 6 (f7_k5_o K) nX)))) (fz 218 0 [(16,x16),(24,x24),(25,x25),(27,x27),(30,x30),(165,x165),(166,x166),(167,x167),(196,x196),(197,x197),(198,x198)]) w
def f7_k8_o (K:K1) (E1:VP2) (E2:VP2):KF:=fun fr w=>∀σ,cP (pr (pr (pr (pl (pl (pr (pr (pr (pr (pr (pl (pl (pr (pr (pl (pl (pr (pl (pr (pr (pr (pr (pr (pr (pr (pr (pr (pr (pr (pr (pr (pr (pr (pr (pr f7_u))))))))))))))))))))))))))))))))))) (fun fr w=>E2 (sv fr 27) (sv fr 198) w) (f7_e K) (exB 8 (f7_k7_o K E1) (exB 7 (f7_k7_o K E1) (exB 6 (f7_k5_o K) nX))) (mixF 703035394690684612311730669076884041131911206182902013427712 σ 0 fr) w
def f7_k8 (K:K1) (E1:VP2) (E2:VP2) (x16 x24 x25 x27 x30 x165 x166 x167 x196 x197 x198:Value) (w:World):Prop:=f7_k8_o K E1 E2 (fz 218 0 [(16,x16),(24,x24),(25,x25),(27,x27),(30,x30),(165,x165),(166,x166),(167,x167),(196,x196),(197,x197),(198,x198)]) w
def f7_k1_t (x5 x7 x8 x9 x10 x11:Value) (K:K1) (w:World):Prop:=
 bltS prog .len #[29] 3 #[false] #[x11] w fun t83 w=>
 f7_l2 K x5 x7 x8 x9 x10 (.slice none 0 0) t83 (.int .i64 0) w
theorem f7_k1_eq (K:K1) (x5 x7 x8 x9 x10 x11:Value) (w:World):f7_k1 K x5 x7 x8 x9 x10 x11 w=f7_k1_t x5 x7 x8 x9 x10 x11 K w:=cutE fun σ=>by kernel_rfl
def f7_l1_t (x5 x7 x8 x9 x10 x11 x64 x65 x66:Value) (K:K1) (E1:VP2) (w:World):Prop:=
 ev prog (binM .lss 3 (.tmp 66) (.tmp 65) x66 x65) w fun t67 w=>
 cndS t67 (
 ev prog (Instr.indexAt 48 x64 x66) w fun t68 w=>
 ldS prog 52 t68 w fun t69 w=>
 ev prog (Instr.alloc 52 true (.tuple #[])) w fun t13 w=>
 stS prog 52 t13 t69 w fun w=>
 ldS prog 52 t13 w fun t74 w=>
 callS prog 17 (pA #[x9,x10,x11,t74]) w fun t75 w=>
 ev prog (Instr.extract t75 0) w fun t76 w=>
 ev prog (Instr.extract t75 1) w fun t77 w=>
 ev prog (Op.unary .not t77) w fun t79 w=>
 cndS t79 (
 K (.bool false) w) (
 ev prog (binM .add 3 (.tmp 66) (.const (.int .i64 1)) x66 (.int .i64 1)) w fun t81 w=>
 E1 t76 t81 w)) (
 f7_k1 K x5 x7 x8 x9 x10 x11 w)
theorem f7_l1_rule (x5 x7 x8 x9 x10 x11 x64 x65 x66:Value) (K:K1) (w:World) (I:VP2) (μ:Value→Value→World→Nat) (h0:I x11 x66 w)
  (hr:∀(x11 x66:Value) (w:World),I x11 x66 w→∀E1:VP2,(∀(y11 y66:Value) (w':World),I y11 y66 w'→μ y11 y66 w'<μ x11 x66 w→E1 y11 y66 w')→f7_l1_t x5 x7 x8 x9 x10 x11 x64 x65 x66 K E1 w):f7_l1 K x5 x7 x8 x9 x10 x11 x64 x65 x66 w:=
 ⟨I,μ,h0,fun σ w hI E hE=>cast (by kernel_rfl) (hr (σ 11) (σ 66) w hI E hE)⟩
def f7_k2_t (x5 x7 x8 x10 x16:Value) (K:K1) (w:World):Prop:=
 ev prog (Instr.fieldAt 86 x5 1) w fun t119 w=>
 ldS prog 5 t119 w fun t120 w=>
 ev prog (convert 5 3 t120) w fun t121 w=>
 callS prog 34 (pA #[x8,t121]) w fun t122 w=>
 ev prog (Instr.fieldAt 86 x5 0) w fun t123 w=>
 ldS prog 52 t123 w fun t124 w=>
 ev prog (Instr.alloc 52 true (.tuple #[])) w fun t23 w=>
 stS prog 52 t23 t124 w fun w=>
 ev prog (Instr.fieldAt 52 t23 0) w fun t125 w=>
 ldS prog 5 t125 w fun t126 w=>
 ev prog (binM .rem 5 (.tmp 126) (.const (.int .u8 ((2:Nat):Int))) t126 (.int .u8 ((2:Nat):Int))) w fun t127 w=>
 ev prog (binM .eql 5 (.tmp 127) (.const (.int .u8 ((0:Nat):Int))) t127 (.int .u8 ((0:Nat):Int))) w fun t128 w=>
 cndS t128 (
 ev prog (Instr.fieldAt 52 t23 1) w fun t130 w=>
 ldS prog 3 t130 w fun t131 w=>
 ev prog (Instr.fieldAt 52 t23 2) w fun t132 w=>
 ldS prog 3 t132 w fun t133 w=>
 callS prog 22 (pA #[x10,t131,t133]) w fun t134 w=>
 f7_k3 K x5 x7 x8 x16 w) (
 ev prog (Instr.fieldAt 52 t23 3) w fun t136 w=>
 ldS prog 3 t136 w fun t137 w=>
 ev prog (binM .and 3 (.tmp 137) (.const (.int .i64 3)) t137 (.int .i64 3)) w fun t138 w=>
 ev prog (binM .mul 3 (.const (.int .i64 32)) (.tmp 138) (.int .i64 32) t138) w fun t139 w=>
 ev prog (binM .add 3 (.const (.int .i64 3)) (.tmp 139) (.int .i64 3) t139) w fun t140 w=>
 callS prog 35 (pA #[x10,t140]) w fun t141 w=>
 f7_k3 K x5 x7 x8 x16 w)
theorem f7_k2_eq (K:K1) (x5 x7 x8 x10 x16:Value) (w:World):f7_k2 K x5 x7 x8 x10 x16 w=f7_k2_t x5 x7 x8 x10 x16 K w:=cutE fun σ=>by kernel_rfl
def f7_l2_t (x5 x7 x8 x9 x10 x16 x83 x84:Value) (K:K1) (E1:VP2) (w:World):Prop:=
 ev prog (binM .lss 3 (.tmp 84) (.tmp 83) x84 x83) w fun t85 w=>
 cndS t85 (
 ev prog (Instr.makeInterface 25 x9) w fun t89 w=>
 ev prog (binM .mul 3 (.const (.int .i64 32)) (.tmp 90) (.int .i64 32) x84) w fun t91 w=>
 ev prog (binM .add 3 (.const (.int .i64 3)) (.tmp 91) (.int .i64 3) t91) w fun t92 w=>
 callS prog 23 (pA #[t89,t92]) w fun t93 w=>
 ev prog (Instr.extract t93 0) w fun t94 w=>
 ev prog (Instr.extract t93 1) w fun t95 w=>
 ev prog (Instr.alloc 69 true (.tuple #[])) w fun t18 w=>
 stS prog 69 t18 t94 w fun w=>
 f7_l3 K E1 x5 x7 x8 x9 x10 x16 t18 t95 (.int .i64 0) x83 x84 w) (
 f7_k2 K x5 x7 x8 x10 x16 w)
theorem f7_l2_rule (x5 x7 x8 x9 x10 x16 x83 x84:Value) (K:K1) (w:World) (I:VP2) (μ:Value→Value→World→Nat) (h0:I x16 x84 w)
  (hr:∀(x16 x84:Value) (w:World),I x16 x84 w→∀E1:VP2,(∀(y16 y84:Value) (w':World),I y16 y84 w'→μ y16 y84 w'<μ x16 x84 w→E1 y16 y84 w')→f7_l2_t x5 x7 x8 x9 x10 x16 x83 x84 K E1 w):f7_l2 K x5 x7 x8 x9 x10 x16 x83 x84 w:=
 ⟨I,μ,h0,fun σ w hI E hE=>cast (by kernel_rfl) (hr (σ 16) (σ 84) w hI E hE)⟩
def f7_k3_t (x5 x7 x8 x16:Value) (K:K1) (w:World):Prop:=
 ev prog (Instr.fieldAt 86 x5 2) w fun t143 w=>
 ldS prog 58 t143 w fun t144 w=>
 callS prog 20 (pA #[x8,t144]) w fun t145 w=>
 ev prog (binM .eql 24 (.tmp 146) (.const (.pointer none)) t145 (.pointer none)) w fun t147 w=>
 gd t147 false (fun k=>k t145 w) w fun t149 w=>
 gd t147 false (fun k=>callS prog 21 (pA #[t149,(.int .i64 0)]) w k) w fun t150 w=>
 gd t147 false (fun k=>ev prog (binM .eql 25 (.tmp 150) (.const (.pointer none)) t150 (.pointer none)) w k) w fun t151 w=>
 pickS t147 (.bool true) t151 w fun t152 w=>
 cndS t152 (
 K (.bool false) w) (
 callS prog 21 (pA #[t145,(.int .i64 0)]) w fun t155 w=>
 ev prog (Instr.makeInterface 25 t155) w fun t156 w=>
 ev prog (binM .mul 3 (.const (.int .i64 32)) (.tmp 157) (.int .i64 32) x7) w fun t158 w=>
 callS prog 14 (pA #[t156,(.int .i64 3),t158]) w fun t159 w=>
 ev prog (Instr.extract t159 0) w fun t160 w=>
 ev prog (Instr.extract t159 1) w fun t161 w=>
 ev prog (binM .neq 43 (.tmp 162) (.const (.int .i64 0)) t161 (.int .i64 0)) w fun t163 w=>
 cndS t163 (
 K (.bool false) w) (
 callS prog 31 (pA #[t160]) w fun t165 w=>
 bltS prog .len #[50] 3 #[false] #[t165] w fun t166 w=>
 f7_l4 K x16 t145 t160 (.int .i64 0) t165 t166 (.int .i64 0) w))
theorem f7_k3_eq (K:K1) (x5 x7 x8 x16:Value) (w:World):f7_k3 K x5 x7 x8 x16 w=f7_k3_t x5 x7 x8 x16 K w:=cutE fun σ=>by kernel_rfl
def f7_k4_t (x5 x7 x8 x9 x10 x16 x83 x84:Value) (K:K1) (E1:VP2) (w:World):Prop:=
 ev prog (binM .add 3 (.tmp 84) (.const (.int .i64 1)) x84 (.int .i64 1)) w fun t117 w=>
 E1 x16 t117 w
theorem f7_k4_eq (K:K1) (E1:VP2) (x5 x7 x8 x9 x10 x16 x83 x84:Value) (w:World):f7_k4 K E1 x5 x7 x8 x9 x10 x16 x83 x84 w=f7_k4_t x5 x7 x8 x9 x10 x16 x83 x84 K E1 w:=cutE fun σ=>by kernel_rfl
def f7_l3_t (x5 x7 x8 x9 x10 x16 x18 x19 x20 x83 x84:Value) (K:K1) (E1:VP2) (E2:VP2) (w:World):Prop:=
 ev prog (binM .eql 43 (.tmp 96) (.const (.int .i64 0)) x19 (.int .i64 0)) w fun t97 w=>
 gd t97 true (fun k=>k x20 w) w fun t99 w=>
 gd t97 true (fun k=>ev prog (binM .lss 3 (.tmp 99) (.const (.int .i64 64)) t99 (.int .i64 64)) w k) w fun t100 w=>
 pickS t97 t100 (.bool false) w fun t101 w=>
 cndS t101 (
 ldS prog 69 x18 w fun t104 w=>
 callS prog 33 (pA #[t104,x20]) w fun t106 w=>
 cndS t106 (
 ldS prog 69 x18 w fun t108 w=>
 callS prog 27 (pA #[t108,x20,(.int .u8 ((0:Nat):Int))]) w fun t110 w=>
 ev prog (Instr.extract t110 0) w fun t111 w=>
 ev prog (Instr.extract t110 1) w fun t112 w=>
 ev prog (Instr.buildSlice 62 1 #[(0,t111)]) w fun t115 w=>
 bltS prog .append #[62,62] 62 #[false,false] (pA #[x16,t115]) w fun t116 w=>
 f7_k6 K E1 E2 x5 x7 x8 x9 x10 t116 x18 x19 x20 x83 x84 w) (
 f7_k6 K E1 E2 x5 x7 x8 x9 x10 x16 x18 x19 x20 x83 x84 w)) (
 f7_k4 K E1 x5 x7 x8 x9 x10 x16 x83 x84 w)
theorem f7_l3_rule (x5 x7 x8 x9 x10 x16 x18 x19 x20 x83 x84:Value) (K:K1) (E1:VP2) (w:World) (I:VP2) (μ:Value→Value→World→Nat) (h0:I x16 x20 w)
  (hr:∀(x16 x20:Value) (w:World),I x16 x20 w→∀E2:VP2,(∀(y16 y20:Value) (w':World),I y16 y20 w'→μ y16 y20 w'<μ x16 x20 w→E2 y16 y20 w')→f7_l3_t x5 x7 x8 x9 x10 x16 x18 x19 x20 x83 x84 K E1 E2 w):f7_l3 K E1 x5 x7 x8 x9 x10 x16 x18 x19 x20 x83 x84 w:=
 ⟨I,μ,h0,fun σ w hI E hE=>cast (by kernel_rfl) (hr (σ 16) (σ 20) w hI E hE)⟩
def f7_k5_t (x16 x27:Value) (K:K1) (w:World):Prop:=
 bltS prog .len #[62] 3 #[false] #[x16] w fun t216 w=>
 ev prog (binM .eql 3 (.tmp 214) (.tmp 216) x27 t216) w fun t217 w=>
 K t217 w
theorem f7_k5_eq (K:K1) (x16 x27:Value) (w:World):f7_k5 K x16 x27 w=f7_k5_t x16 x27 K w:=cutE fun σ=>by kernel_rfl
def f7_l4_t (x16 x24 x25 x27 x165 x166 x167:Value) (K:K1) (E1:VP2) (w:World):Prop:=
 ev prog (binM .lss 3 (.tmp 167) (.tmp 166) x167 x166) w fun t168 w=>
 cndS t168 (
 ev prog (Instr.indexAt 50 x165 x167) w fun t169 w=>
 ldS prog 3 t169 w fun t170 w=>
 callS prog 21 (pA #[x24,(.int .i64 0)]) w fun t173 w=>
 ev prog (Instr.makeInterface 25 t173) w fun t174 w=>
 callS prog 23 (pA #[t174,t170]) w fun t176 w=>
 ev prog (Instr.extract t176 0) w fun t177 w=>
 ev prog (Instr.extract t176 1) w fun t178 w=>
 ev prog (Instr.alloc 69 true (.tuple #[])) w fun t30 w=>
 stS prog 69 t30 t177 w fun w=>
 ev prog (binM .eql 43 (.tmp 179) (.const (.int .i64 8)) t178 (.int .i64 8)) w fun t180 w=>
 cndS t180 (
 f7_k7 K E1 x16 x24 x25 x27 x165 x166 x167 w) (
 ev prog (binM .neq 43 (.tmp 181) (.const (.int .i64 0)) t178 (.int .i64 0)) w fun t182 w=>
 gd t182 false (fun k=>ldS prog 69 t30 w k) w fun t184 w=>
 gd t182 false (fun k=>callS prog 36 (pA #[t184]) w k) w fun t185 w=>
 gd t182 false (fun k=>ev prog (binM .neq 43 (.tmp 185) (.const (.int .i64 0)) t185 (.int .i64 0)) w k) w fun t186 w=>
 pickS t182 (.bool true) t186 w fun t187 w=>
 gd t187 false (fun k=>ldS prog 69 t30 w k) w fun t189 w=>
 gd t187 false (fun k=>callS prog 24 (pA #[t189]) w k) w fun t190 w=>
 gd t187 false (fun k=>k x25 w) w fun t191 w=>
 gd t187 false (fun k=>k t170 w) w fun t192 w=>
 gd t187 false (fun k=>callS prog 37 (pA #[t191,t192]) w k) w fun t193 w=>
 gd t187 false (fun k=>ev prog (binM .neq 3 (.tmp 190) (.tmp 193) t190 t193) w k) w fun t194 w=>
 pickS t187 (.bool true) t194 w fun t195 w=>
 cndS t195 (
 K (.bool false) w) (
 bltS prog .len #[62] 3 #[false] #[x16] w fun t197 w=>
 f7_l5 K E1 x16 x24 x25 x27 t30 x165 x166 x167 x16 t197 (.int .i64 0) w))) (
 f7_k5 K x16 x27 w)
theorem f7_l4_rule (x16 x24 x25 x27 x165 x166 x167:Value) (K:K1) (w:World) (I:VP2) (μ:Value→Value→World→Nat) (h0:I x27 x167 w)
  (hr:∀(x27 x167:Value) (w:World),I x27 x167 w→∀E1:VP2,(∀(y27 y167:Value) (w':World),I y27 y167 w'→μ y27 y167 w'<μ x27 x167 w→E1 y27 y167 w')→f7_l4_t x16 x24 x25 x27 x165 x166 x167 K E1 w):f7_l4 K x16 x24 x25 x27 x165 x166 x167 w:=
 ⟨I,μ,h0,fun σ w hI E hE=>cast (by kernel_rfl) (hr (σ 27) (σ 167) w hI E hE)⟩
def f7_k6_t (x5 x7 x8 x9 x10 x16 x18 x19 x20 x83 x84:Value) (K:K1) (E1:VP2) (E2:VP2) (w:World):Prop:=
 ev prog (binM .add 3 (.tmp 102) (.const (.int .i64 1)) x20 (.int .i64 1)) w fun t103 w=>
 E2 x16 t103 w
theorem f7_k6_eq (K:K1) (E1:VP2) (E2:VP2) (x5 x7 x8 x9 x10 x16 x18 x19 x20 x83 x84:Value) (w:World):f7_k6 K E1 E2 x5 x7 x8 x9 x10 x16 x18 x19 x20 x83 x84 w=f7_k6_t x5 x7 x8 x9 x10 x16 x18 x19 x20 x83 x84 K E1 E2 w:=cutE fun σ=>by kernel_rfl
def f7_k7_t (x16 x24 x25 x27 x165 x166 x167:Value) (K:K1) (E1:VP2) (w:World):Prop:=
 ev prog (binM .add 3 (.tmp 167) (.const (.int .i64 1)) x167 (.int .i64 1)) w fun t213 w=>
 E1 x27 t213 w
theorem f7_k7_eq (K:K1) (E1:VP2) (x16 x24 x25 x27 x165 x166 x167:Value) (w:World):f7_k7 K E1 x16 x24 x25 x27 x165 x166 x167 w=f7_k7_t x16 x24 x25 x27 x165 x166 x167 K E1 w:=cutE fun σ=>by kernel_rfl
def f7_l5_t (x16 x24 x25 x27 x30 x165 x166 x167 x196 x197 x198:Value) (K:K1) (E1:VP2) (E2:VP2) (w:World):Prop:=
 ev prog (binM .lss 3 (.tmp 198) (.tmp 197) x198 x197) w fun t199 w=>
 cndS t199 (
 ev prog (Instr.indexAt 62 x196 x198) w fun t200 w=>
 ldS prog 73 t200 w fun t201 w=>
 ldS prog 69 x30 w fun t203 w=>
 callS prog 32 (pA #[t203,t201]) w fun t205 w=>
 ev prog (Instr.extract t205 0) w fun t206 w=>
 ev prog (Instr.extract t205 1) w fun t207 w=>
 ev prog (binM .eql 43 (.tmp 208) (.const (.int .i64 0)) t207 (.int .i64 0)) w fun t209 w=>
 cndS t209 (
 ev prog (binM .add 3 (.tmp 210) (.const (.int .i64 1)) x27 (.int .i64 1)) w fun t211 w=>
 f7_k8 K E1 E2 x16 x24 x25 t211 x30 x165 x166 x167 x196 x197 x198 w) (
 f7_k8 K E1 E2 x16 x24 x25 x27 x30 x165 x166 x167 x196 x197 x198 w)) (
 f7_k7 K E1 x16 x24 x25 x27 x165 x166 x167 w)
theorem f7_l5_rule (x16 x24 x25 x27 x30 x165 x166 x167 x196 x197 x198:Value) (K:K1) (E1:VP2) (w:World) (I:VP2) (μ:Value→Value→World→Nat) (h0:I x27 x198 w)
  (hr:∀(x27 x198:Value) (w:World),I x27 x198 w→∀E2:VP2,(∀(y27 y198:Value) (w':World),I y27 y198 w'→μ y27 y198 w'<μ x27 x198 w→E2 y27 y198 w')→f7_l5_t x16 x24 x25 x27 x30 x165 x166 x167 x196 x197 x198 K E1 E2 w):f7_l5 K E1 x16 x24 x25 x27 x30 x165 x166 x167 x196 x197 x198 w:=
 ⟨I,μ,h0,fun σ w hI E hE=>cast (by kernel_rfl) (hr (σ 27) (σ 198) w hI E hE)⟩
def f7_k8_t (x16 x24 x25 x27 x30 x165 x166 x167 x196 x197 x198:Value) (K:K1) (E1:VP2) (E2:VP2) (w:World):Prop:=
 ev prog (binM .add 3 (.tmp 198) (.const (.int .i64 1)) x198 (.int .i64 1)) w fun t212 w=>
 E2 x27 t212 w
theorem f7_k8_eq (K:K1) (E1:VP2) (E2:VP2) (x16 x24 x25 x27 x30 x165 x166 x167 x196 x197 x198:Value) (w:World):f7_k8 K E1 E2 x16 x24 x25 x27 x30 x165 x166 x167 x196 x197 x198 w=f7_k8_t x16 x24 x25 x27 x30 x165 x166 x167 x196 x197 x198 K E1 E2 w:=cutE fun σ=>by kernel_rfl
def f7_t (x0 x1 x2:Value) (K:K1) (w:World):Prop:=
 ev prog (Instr.box 86 x2) w fun t5 w=>
 callS prog 8 (pA #[]) w fun t36 w=>
 ev prog (Op.unary .not t36) w fun t37 w=>
 gd t37 false (fun k=>k x1 w) w fun t39 w=>
 gd t37 false (fun k=>bltS prog .len #[48] 3 #[false] #[t39] w k) w fun t40 w=>
 gd t37 false (fun k=>ev prog (binM .gtr 3 (.tmp 40) (.const (.int .i64 12)) t40 (.int .i64 12)) w k) w fun t41 w=>
 pickS t37 (.bool true) t41 w fun t42 w=>
 gd t42 false (fun k=>ev prog (Instr.fieldAt 86 t5 2) w k) w fun t44 w=>
 gd t42 false (fun k=>ldS prog 58 t44 w k) w fun t45 w=>
 gd t42 false (fun k=>bltS prog .len #[58] 3 #[false] #[t45] w k) w fun t46 w=>
 gd t42 false (fun k=>ev prog (binM .gtr 3 (.tmp 46) (.const (.int .i64 20)) t46 (.int .i64 20)) w k) w fun t47 w=>
 pickS t42 (.bool true) t47 w fun t48 w=>
 cndS t48 (
 callS prog 8 (pA #[]) w fun t49 w=>
 K t49 w) (
 ev prog (convert 5 3 x0) w fun t51 w=>
 ev prog (binM .rem 3 (.tmp 51) (.const (.int .i64 4)) t51 (.int .i64 4)) w fun t52 w=>
 ev prog (binM .add 3 (.const (.int .i64 1)) (.tmp 52) (.int .i64 1) t52) w fun t53 w=>
 callS prog 9 (pA #[t53]) w fun t56 w=>
 ev prog (Instr.extract t56 0) w fun t57 w=>
 ev prog (Instr.extract t56 1) w fun t58 w=>
 ev prog (Instr.extract t56 2) w fun t59 w=>
 ev prog (binM .eql 26 (.tmp 60) (.const (.pointer none)) t59 (.pointer none)) w fun t61 w=>
 cndS t61 (
 K (.bool false) w) (
 callS prog 16 (pA #[t53]) w fun t63 w=>
 bltS prog .len #[48] 3 #[false] #[x1] w fun t65 w=>
 f7_l1 K t5 t53 t57 t58 t59 t63 x1 t65 (.int .i64 0) w))
theorem f7_call (x0 x1 x2:Value) (K:K1) (w:World) (h:f7_t x0 x1 x2 K w):callS prog 7 #[x0,x1,x2] w K:=
 call_of_txt (args:= [x0,x1,x2]) mixed Tryz.func7 f7_u.2 (by kernel_rfl) (cast (by kernel_rfl) h)
section
variable {w0 w w':World} {Y Y':Lay} {D D':DS} {S b o cp n m T g C i:Nat} {f f':Nat→Int×Int×Bool} {v:Value} {P:List Nat} {c t:Int}
theorem ct_l3 (a:ArS w0 w Y D S b o cp 3 n f) (r:RgS D 3 n f) (hi:i<n) (n5:n≤5) (hc:¬(f i).1<0) (hT:Y.tb 0=T) (hs:SlO w 73 1 v P.length (ptL P)) (ov:OvA w0 Y b S v) (hP:P.length≤1000) (hC:Cells w C 69 5 (chF T (3+32*i) (f i).1 (f i).2.1 (gX (wd D (3+32*i) 0)))) (nC:∀x,v.ownBlock=some x→x≠C) (oC:w0.heap.size≤C) (K:K1) (E1:VP2) (x5 x7 x8 x9 x10 x83:Value)
  (HE:∀v' w',ArS w0 w' Y D S b o cp 3 n f→SlO w' 73 1 v' (P++lvC D (3+32*i) (f i).1 64).length (ptL (P++lvC D (3+32*i) (f i).1 64))→OvA w0 Y b S v'→E1 v' (.int .i64 ((i+1:Nat):Int)) w'):
  f7_l3 K E1 x5 x7 x8 x9 x10 v (.pointer (some ⟨C,0,none⟩)) (.int .i64 0) (.int .i64 0) x83 (.int .i64 (i:Int)) w:=by
 have hlt:=r.lt
 have hcl:=r.cls hi
 have hsn:=r.sn i hi (by omega)
 have hp:=perS_in (c:=(f i).1) (by omega) hcl.1
 have ei:(i:Int)+1=((i+1:Nat):Int):=by omega
 apply f7_l3_rule (I:=fun y z w'=>∃k:Nat,z= .int .i64 (k:Int)∧k≤64∧ArS w0 w' Y D S b o cp 3 n f∧SlO w' 73 1 y (P++lvC D (3+32*i) (f i).1 k).length (ptL (P++lvC D (3+32*i) (f i).1 k))∧OvA w0 Y b S y∧(∀x,y.ownBlock=some x→x≠C)∧Cells w' C 69 5 (chF T (3+32*i) (f i).1 (f i).2.1 (gX (wd D (3+32*i) 0)))) (μ:=fun _ z _=>64-(intOf z).toNat)
 ·refine ⟨0,rfl,by omega,a,?_,ov,nC,hC⟩
  simp only [lvC,List.append_nil];exact hs
 ·intros;rename_i y z w1 hI E2 hE
  obtain ⟨k,rfl,hk,a1,hs1,ov1,nC1,hC1⟩:=hI
  have hG1:Glob w1:=a1.gl.ext a1.L.ex
  by_cases hk64:k<64
  ·have ek:(k:Int)+1=((k+1:Nat):Int):=by omega
   have c0:w1.cell? ⟨C,0,none⟩=some (.iface 25 (.pointer (some ⟨T,0,none⟩))):=hC1.cell (i:=0) (by omega)
   have c1:w1.cell? ⟨C,1,none⟩=some (.int .i64 ((3+32*i:Nat):Int)):=hC1.cell (i:=1) (by omega)
   have c2:w1.cell? ⟨C,2,none⟩=some (.int .i64 (f i).1):=hC1.cell (i:=2) (by omega)
   have c3:w1.cell? ⟨C,3,none⟩=some (.int .i64 (f i).2.1):=hC1.cell (i:=3) (by omega)
   have c4:w1.cell? ⟨C,4,none⟩=some (.int .u16 (gX (wd D (3+32*i) 0):Int)):=hC1.cell (i:=4) (by omega)
   have ltC:=hC1.lt
   have hcx:∀w2,Ext w1 w2→Cx w2 Y D (3+32*i) (f i).1:=fun w2 e=>⟨a1.L.dv.ext e,r.gd,hG1.ext e,r.on.off,by omega,by omega,hcl.1⟩
   have hll:=lvC_len D (3+32*i) (f i).1 k
   have htk:∀(w2:World) (K:K1),Ext w1 w2→(∀w',Ext w2 w'→K (.bool (mkB D (3+32*i) (f i).1 (k:Int) 177)) w')→callS prog 33 #[cvA T (3+32*i) (f i).1 (f i).2.1 (gX (wd D (3+32*i) 0)),.int .i64 (k:Int)] w2 K:=fun w2 K e hK=>by
    subst hT
    exact k_Taken (hcx w2 e) _ _ _ K hK
   by_cases hm:mkB D (3+32*i) (f i).1 (k:Int) 177=true
   ·obtain ⟨hkp,hlv⟩:=mk_parts hm
    have hnx:lvC D (3+32*i) (f i).1 (k+1)=lvC D (3+32*i) (f i).1 k++ [ptrN (pOff (3+32*i) (f i).1 k) (bG (wd D (3+32*i) (offN (f i).1 k))) (bK (wd D (3+32*i) (offN (f i).1 k)))]:=by simp only [lvC];rw [if_pos hm]
    have hpt:∀(w2:World) (K:K1),Ext w1 w2→(∀w',Ext w2 w'→K (pE (ptrN (pOff (3+32*i) (f i).1 k) (bG (wd D (3+32*i) (offN (f i).1 k))) (bK (wd D (3+32*i) (offN (f i).1 k)))) 0) w')→callS prog 27 #[cvA T (3+32*i) (f i).1 (f i).2.1 (gX (wd D (3+32*i) 0)),.int .i64 (k:Int),.int .u8 ((0:Nat):Int)] w2 K:=fun w2 K e hK=>by
     subst hT
     have hsb:=hsn.sndB (by omega) hcl.1 k hkp
     have h177:=hlv.2.2.1
     refine k_Pointer (hcx w2 e) r.on.err _ _ _ 0 (by omega) K (fun h=>absurd ⟨by omega,hkp⟩ h) (fun j hj hp1 hn1=> ?_) (fun j hj hp1 hn1 hs=> ?_) (fun j hj hp1 hn1 hs=> ?_) (fun j hj hp1 hn1 hs hk=> ?_) (fun j hj hp1 hn1 hs hk0 hk1=> ?_)
     all_goals obtain rfl:k=j:=by omega
     ·exact absurd hsb hn1
     ·rw [h177] at hs;omega
     ·exact hK
     ·rw [h177] at hs;omega
     ·rw [h177] at hs;omega
    have hl1:(P++lvC D (3+32*i) (f i).1 k).length≤1100:=by rw [List.length_append];omega
    rw [hm] at htk
    have step:∀v' w',ArS w0 w' Y D S b o cp 3 n f→SlO w' 73 1 v' ((P++lvC D (3+32*i) (f i).1 k).length+1) (ptL (P++lvC D (3+32*i) (f i).1 k)++ [u64 (ptrN (pOff (3+32*i) (f i).1 k) (bG (wd D (3+32*i) (offN (f i).1 k))) (bK (wd D (3+32*i) (offN (f i).1 k))))])→OvA w0 Y b S v'→(∀x,v'.ownBlock=some x→x≠C)→Cells w' C 69 5 (chF T (3+32*i) (f i).1 (f i).2.1 (gX (wd D (3+32*i) 0)))→E2 v' (.int .i64 ((k+1:Nat):Int)) w':=fun v' w' a' hs' ov' nC' hC'=>by
     apply hE
     ·refine ⟨k+1,rfl,by omega,a',?_,ov',nC',hC'⟩
      rw [hnx,←List.append_assoc,List.length_append,ptL,List.map_append]
      exact hs'
     ·simp [intOf];omega
    generalize ptrN (pOff (3+32*i) (f i).1 k) (bG (wd D (3+32*i) (offN (f i).1 k))) (bK (wd D (3+32*i) (offN (f i).1 k)))=p at*
    generalize P++lvC D (3+32*i) (f i).1 k=Q at*
    generalize gX (wd D (3+32*i) 0)=gg at*
    obtain ⟨pa,pc,rfl,hpc⟩:=hs1.isS'
    unfold f7_l3_t
    simp (disch:=first|omega|simp only [RO]|(simp only [RZ]<;>omega)|fail) only [↓RBp,↓RA,↓reduceIte,Nat.reduceAdd,Nat.reduceMul,Nat.reduceEqDiff,RB,RX,RA2,c0,c1,c2,c3,c4]
    refine htk _ _ (by repeat (first|(with_reducible first|refine Sh.eB ?_ _|assumption|exact Sh.eR _|refine Sh.eA ?_ _|refine Sh.eD ?_|refine Sh.eT ?_ (by assumption))|exact Sh.eR _)) (fun w2 e2=> ?_)
    have e12:Ext w1 w2:=Ext.trans (by repeat (first|(with_reducible first|refine Sh.eB ?_ _|assumption|exact Sh.eR _|refine Sh.eA ?_ _|refine Sh.eD ?_|refine Sh.eT ?_ (by assumption))|exact Sh.eR _)) e2
    have c0:=e12.cell_some c0;have c1:=e12.cell_some c1;have c2:=e12.cell_some c2;have c3:=e12.cell_some c3;have c4:=e12.cell_some c4
    have ltC2:=lt_of_cell c0
    simp (disch:=first|omega|simp only [RO]|(simp only [RZ]<;>omega)|fail) only [↓RBp,↓RA,↓reduceIte,Nat.reduceAdd,Nat.reduceMul,Nat.reduceEqDiff,RB,RX,RA2,c0,c1,c2,c3,c4]
    refine hpt _ _ (e12.trans (by repeat (first|(with_reducible first|refine Sh.eB ?_ _|assumption|exact Sh.eR _|refine Sh.eA ?_ _|refine Sh.eD ?_|refine Sh.eT ?_ (by assumption))|exact Sh.eR _))) (fun w3 e3=> ?_)
    have e13:Ext w1 w3:=e12.trans (Ext.trans (by repeat (first|(with_reducible first|refine Sh.eB ?_ _|assumption|exact Sh.eR _|refine Sh.eA ?_ _|refine Sh.eD ?_|refine Sh.eT ?_ (by assumption))|exact Sh.eR _)) e3)
    have a3:=a1.ext e13
    have a4:=a3.ext (Ext.alloc_self w3 (.cells #[u64 p] 73))
    have hC3:=(hC1.ext e13).ext (Ext.alloc_self w3 (.cells #[u64 p] 73))
    have ltb:=a3.ltb
    have ltS:=a3.ltS
    have hF:∀b,Y.F b→b<w3.heap.size:=fun b hb=>a3.L.dv.lt hb
    have ltC3:=(hC1.ext e13).lt
    simp (disch:=first|omega|simp only [RO]|(simp only [RZ]<;>omega)|fail) only [↓RBp,↓RA,↓reduceIte,Nat.reduceAdd,Nat.reduceMul,Nat.reduceEqDiff,RB,RX,RA2]
    refine app_new elPtr (w0:=w0) ((hs1.ext e13).ext (by repeat (first|(with_reducible first|refine Sh.eB ?_ _|assumption|exact Sh.eR _|refine Sh.eA ?_ _|refine Sh.eD ?_|refine Sh.eT ?_ (by assumption))|exact Sh.eR _))) (Frm.of_ext (a3.L.ex.trans (by repeat (first|(with_reducible first|refine Sh.eB ?_ _|assumption|exact Sh.eR _|refine Sh.eA ?_ _|refine Sh.eD ?_|refine Sh.eT ?_ (by assumption))|exact Sh.eR _)))) (fun b hb=>(ov1 b hb).1) (m:=1) (news:= [u64 p]) rfl ?_ rfl (by omega) (by omega) (by omega) (fun v' w4 hsp hf4 n4 hfr4 hb4=> ?_)
    ·intro j u hj
     obtain ⟨rfl,rfl⟩:=one_get hj
     simp (disch:=first|omega|simp only [RO]|(simp only [RZ]<;>omega)|fail) only [↓RBp,↓RA,↓reduceIte,Nat.reduceAdd,Nat.reduceMul,Nat.reduceEqDiff,RB,RX,RA2]
    have a5:=a4.frmO hfr4 (fun b hb=>ov1 b hb)
    simp (disch:=first|omega|simp only [RO]|(simp only [RZ]<;>omega)|fail) only [↓RBp,↓RA,↓reduceIte,Nat.reduceAdd,Nat.reduceMul,Nat.reduceEqDiff,RB,RX,RA2,f7_k6_eq,f7_k6_t,ek]
    refine step v' w4 a5 hsp (fun x hx=> ?_) (fun x hx=> ?_) (hC3.frm hfr4 (fun h=>nC1 _ h rfl))
    ·rcases hb4 x hx with e|e
     ·exact ov1 x e
     ·rw [size_alloc] at e
      exact ⟨n4 x hx,fun hf=>by have:=hF x hf;omega,by omega,by omega⟩
    ·rcases hb4 x hx with e|e
     ·exact nC1 x e
     ·rw [size_alloc] at e;omega
   ·have hnx:lvC D (3+32*i) (f i).1 (k+1)=lvC D (3+32*i) (f i).1 k:=by simp only [lvC];rw [if_neg hm,List.append_nil]
    have hm:mkB D (3+32*i) (f i).1 (k:Int) 177=false:=by simpa using hm
    rw [hm] at htk
    have step:∀w',Ext w1 w'→E2 y (.int .i64 ((k+1:Nat):Int)) w':=fun w' e=>by
     apply hE
     ·refine ⟨k+1,rfl,by omega,a1.ext e,?_,ov1,nC1,hC1.ext e⟩
      rw [hnx]
      exact hs1.ext e
     ·simp [intOf];omega
    generalize gX (wd D (3+32*i) 0)=gg at*
    unfold f7_l3_t
    simp (disch:=first|omega|simp only [RO]|(simp only [RZ]<;>omega)|fail) only [↓RBp,↓RA,↓reduceIte,Nat.reduceAdd,Nat.reduceMul,Nat.reduceEqDiff,RB,RX,RA2,c0,c1,c2,c3,c4]
    refine htk _ _ (by repeat (first|(with_reducible first|refine Sh.eB ?_ _|assumption|exact Sh.eR _|refine Sh.eA ?_ _|refine Sh.eD ?_|refine Sh.eT ?_ (by assumption))|exact Sh.eR _)) (fun w2 e2=> ?_)
    have e12:Ext w1 w2:=Ext.trans (by repeat (first|(with_reducible first|refine Sh.eB ?_ _|assumption|exact Sh.eR _|refine Sh.eA ?_ _|refine Sh.eD ?_|refine Sh.eT ?_ (by assumption))|exact Sh.eR _)) e2
    simp (disch:=first|omega|simp only [RO]|(simp only [RZ]<;>omega)|fail) only [↓RBp,↓RA,↓reduceIte,Nat.reduceAdd,Nat.reduceMul,Nat.reduceEqDiff,RB,RX,RA2,f7_k6_eq,f7_k6_t,ek]
    exact step _ (e12.trans (by repeat (first|(with_reducible first|refine Sh.eB ?_ _|assumption|exact Sh.eR _|refine Sh.eA ?_ _|refine Sh.eD ?_|refine Sh.eT ?_ (by assumption))|exact Sh.eR _)))
  ·have:k=64:=by omega
   subst this
   unfold f7_l3_t
   simp (disch:=first|omega|simp only [RO]|(simp only [RZ]<;>omega)|fail) only [↓RBp,↓RA,↓reduceIte,Nat.reduceAdd,Nat.reduceMul,Nat.reduceEqDiff,RB,RX,RA2,f7_k4_eq,f7_k4_t,ei]
   exact HE _ _ a1 hs1 ov1
theorem ct_l2 (a:ArS w0 w Y D S b o cp 3 n f) (r:RgS D 3 n f) (n5:n≤5) (hT:Y.tb 0=T) (K:K1) (x5 x7 x8 x10:Value)
  (HE:∀v' w',ArS w0 w' Y D S b o cp 3 n f→SlO w' 73 1 v' (lvA D f n).length (ptL (lvA D f n))→OvA w0 Y b S v'→f7_k2 K x5 x7 x8 x10 v' w'):
  f7_l2 K x5 x7 x8 (.pointer (some ⟨T,0,none⟩)) x10 (.slice none 0 0) (.int .i64 (n:Int)) (.int .i64 0) w:=by
 have hlt:=r.lt
 apply f7_l2_rule (I:=fun y z w'=>∃i:Nat,z= .int .i64 (i:Int)∧i≤n∧ArS w0 w' Y D S b o cp 3 n f∧SlO w' 73 1 y (lvA D f i).length (ptL (lvA D f i))∧OvA w0 Y b S y) (μ:=fun _ z _=>n-(intOf z).toNat)
 ·exact ⟨0,rfl,by omega,a,SlO.nil _ _ _,fun x hx=>(by cases hx)⟩
 ·intros;rename_i y z w1 hI E1 hE
  obtain ⟨i,rfl,hin,a1,hs1,ov1⟩:=hI
  have hG1:Glob w1:=a1.gl.ext a1.L.ex
  by_cases hi:i<n
  ·have hag:=r.ag i hi
   have hll:=lvA_len D f i
   have ei:(i:Int)+1=((i+1:Nat):Int):=by omega
   have e3:(3:Int)+32*(i:Int)=((3+32*i:Nat):Int):=by omega
   have hop:∀(w3:World) (K:K1),Ext w1 w3→(∀w',Ext w3 w'→K (if (f i).1<0 then .tuple #[chZ,.int .i64 8] else .tuple #[cvA T (3+32*i) (f i).1 (f i).2.1 (gX (wd D (3+32*i) 0)),.int .i64 0]) w')→callS prog 23 #[.iface 25 (.pointer (some ⟨T,0,none⟩)),.int .i64 ((3+32*i:Nat):Int)] w3 K:=fun w3 K e hK=>by
    subst hT
    exact k_OpenAt (a1.L.dv.ext e) r.gd (hG1.ext e) r.on.off r.on.err (3+32*i) (by omega) hag.1 K (fun w' e'=>by rw [←hag.2.1,←hag.2.2];exact hK w' e')
   have step:∀v' w',ArS w0 w' Y D S b o cp 3 n f→SlO w' 73 1 v' (lvA D f (i+1)).length (ptL (lvA D f (i+1)))→OvA w0 Y b S v'→E1 v' (.int .i64 ((i+1:Nat):Int)) w':=fun v' w' a' hs' ov'=>by
    apply hE
    ·exact ⟨i+1,rfl,by omega,a',hs',ov'⟩
    ·simp [intOf];omega
   have szw:=a1.L.ex.size
   by_cases hc:(f i).1<0
   ·rw [if_pos hc] at hop
    have hnx:lvA D f (i+1)=lvA D f i:=by simp only [lvA];rw [lvJ_free hc,List.append_nil]
    rw [hnx] at step
    unfold f7_l2_t
    simp (disch:=first|omega|simp only [RO]|(simp only [RZ]<;>omega)|fail) only [↓RBp,↓RA,↓reduceIte,Nat.reduceAdd,Nat.reduceMul,Nat.reduceEqDiff,RB,RX,RA2,e3]
    refine hop _ _ (by repeat (first|(with_reducible first|refine Sh.eB ?_ _|assumption|exact Sh.eR _|refine Sh.eA ?_ _|refine Sh.eD ?_|refine Sh.eT ?_ (by assumption))|exact Sh.eR _)) (fun w3 e4=> ?_)
    have e13:Ext w1 w3:=Ext.trans (by repeat (first|(with_reducible first|refine Sh.eB ?_ _|assumption|exact Sh.eR _|refine Sh.eA ?_ _|refine Sh.eD ?_|refine Sh.eT ?_ (by assumption))|exact Sh.eR _)) e4
    simp (disch:=first|omega|simp only [RO]|(simp only [RZ]<;>omega)|fail) only [↓RBp,↓RA,↓reduceIte,Nat.reduceAdd,Nat.reduceMul,Nat.reduceEqDiff,RB,RX,RA2]
    apply f7_l3_rule (I:=fun y' z' w'=>y'=y∧z'= .int .i64 0∧Ext w1 w') (μ:=fun _ _ _=>0)
    ·exact ⟨rfl,rfl,e13.trans (by repeat (first|(with_reducible first|refine Sh.eB ?_ _|assumption|exact Sh.eR _|refine Sh.eA ?_ _|refine Sh.eD ?_|refine Sh.eT ?_ (by assumption))|exact Sh.eR _))⟩
    ·intros;rename_i y' z' w4 hI4 E4 hE4
     obtain ⟨rfl,rfl,e14⟩:=hI4
     unfold f7_l3_t
     simp (disch:=first|omega|simp only [RO]|(simp only [RZ]<;>omega)|fail) only [↓RBp,↓RA,↓reduceIte,Nat.reduceAdd,Nat.reduceMul,Nat.reduceEqDiff,RB,RX,RA2,f7_k4_eq,f7_k4_t,ei]
     exact step _ _ (a1.ext e14) (hs1.ext e14) ov1
   ·rw [if_neg hc] at hop
    have hnx:lvA D f (i+1)=lvA D f i++lvC D (3+32*i) (f i).1 64:=by simp only [lvA];unfold lvJ;rw [if_neg hc]
    rw [hnx] at step
    have fin:=fun (w3:World) (C:Nat) (e:Ext w1 w3) hC nC oC HE=>ct_l3 (a1.ext e) r hi n5 hc hT (hs1.ext e) ov1 (by omega) (C:=C) hC nC oC K E1 x5 x7 x8 (.pointer (some ⟨T,0,none⟩)) x10 (.int .i64 (n:Int)) HE
    have ltv:∀x,y.ownBlock=some x→x<w1.heap.size:=fun x hx=>hs1.lt hx
    generalize gX (wd D (3+32*i) 0)=gg at*
    unfold f7_l2_t
    simp (disch:=first|omega|simp only [RO]|(simp only [RZ]<;>omega)|fail) only [↓RBp,↓RA,↓reduceIte,Nat.reduceAdd,Nat.reduceMul,Nat.reduceEqDiff,RB,RX,RA2,e3]
    refine hop _ _ (by repeat (first|(with_reducible first|refine Sh.eB ?_ _|assumption|exact Sh.eR _|refine Sh.eA ?_ _|refine Sh.eD ?_|refine Sh.eT ?_ (by assumption))|exact Sh.eR _)) (fun w3 e4=> ?_)
    have e13:Ext w1 w3:=Ext.trans (by repeat (first|(with_reducible first|refine Sh.eB ?_ _|assumption|exact Sh.eR _|refine Sh.eA ?_ _|refine Sh.eD ?_|refine Sh.eT ?_ (by assumption))|exact Sh.eR _)) e4
    have hC:=Cells.new w3 [Value.iface 25 (.pointer (some ⟨T,0,none⟩)),.int .i64 ((3+32*i:Nat):Int),.int .i64 (f i).1,.int .i64 (f i).2.1,.int .u16 (gg:Int)] 69
    have sz:=e13.size
    simp (disch:=first|omega|simp only [RO]|(simp only [RZ]<;>omega)|fail) only [↓RBp,↓RA,↓reduceIte,Nat.reduceAdd,Nat.reduceMul,Nat.reduceEqDiff,RB,RX,RA2]
    exact fin _ _ (e13.trans (by repeat (first|(with_reducible first|refine Sh.eB ?_ _|assumption|exact Sh.eR _|refine Sh.eA ?_ _|refine Sh.eD ?_|refine Sh.eT ?_ (by assumption))|exact Sh.eR _))) hC (fun x hx=>by have:=ltv x hx;omega) (by omega) step
  ·have:i=n:=by omega
   subst this
   unfold f7_l2_t
   simp (disch:=first|omega|simp only [RO]|(simp only [RZ]<;>omega)|fail) only [↓RBp,↓RA,↓reduceIte,Nat.reduceAdd,Nat.reduceMul,Nat.reduceEqDiff,RB,RX,RA2]
   exact HE _ _ a1 hs1 ov1
end
theorem lnT_len (l0:Nat):∀n,(lnL (fun _=>true) l0 n).length=n
 |0=>rfl
 |n+1=>by simp [lnL,lnT_len l0 n]
theorem lnT_get (l0:Nat):∀n i,i<n→(lnL (fun _=>true) l0 n)[i]? =some ((l0+32*i:Nat):Int)
 |0,i,h=>absurd h (Nat.not_lt_zero _)
 |n+1,i,h=>by
  simp only [lnL,if_true]
  by_cases e:i=n
  ·subst e
   rw [List.getElem?_append_right (by rw [lnT_len];exact Nat.le_refl _),lnT_len,Nat.sub_self];rfl
  ·rw [List.getElem?_append_left (by rw [lnT_len];omega)]
   exact lnT_get l0 n i (by omega)
section
variable {w0 w w':World} {Y Y':Lay} {D D':DS} {S b o cp n m T g C i:Nat} {f f':Nat→Int×Int×Bool} {v:Value} {P:List Nat} {c t:Int}
end
def cutN (lo hi q:Nat):Nat:=min q hi-min q lo
theorem cutN_succ {lo hi q:Nat} (h:lo≤hi):cutN lo hi (q+1)=if lo≤q∧q<hi then cutN lo hi q+1 else cutN lo hi q:=by
 unfold cutN
 split<;>omega
section
variable {w0 w w':World} {Y Y':Lay} {D D' DF:DS} {S b o cp n m T g C i:Nat} {f f':Nat→Int×Int×Bool} {v:Value} {P:List Nat} {c t:Int}
theorem ct_blk (dv:Dv w Y DF) (hG:Glob w) (on:On DF) (gd:Good DF) (r:RgS D 3 n f) (nF:DF.n=D.n) (hi:i<n) (n5:n≤5) (I:ChI DF D f i) (c0:0≤hC (wd DF (3+32*i) 0)) (hT:Y.tb 0=T) {q:Nat} (hq:q<(lvA D f n).length):
  ∃p,(lvA D f n)[q]? =some p∧∀(w1:World) (K:K1),Ext w w1→(∀x w',Ext w1 w'→K (iE x (if (lvA D f i).length≤q∧q<(lvA D f (i+1)).length then 0 else 2)) w')→
   callS prog 32 #[cvA T (3+32*i) (hC (wd DF (3+32*i) 0)) (hO (wd DF (3+32*i) 0)) (gX (wd DF (3+32*i) 0)),.int .u64 (p:Int)] w1 K:=by
 subst hT
 have hlt:=r.lt
 obtain ⟨j,p,hj,h1,h2,h3,h4⟩:=lvA_get n q hq
 obtain ⟨fj0,k,hk,hlv,hp⟩:=lvJ_mem h4
 have hcj:=r.cls hj
 have hci:=(hd_cls I.ok).1
 have hpj:=perS_in fj0 hcj.1
 have hpi:=perS_in c0 hci
 have hsj:=(r.sn j hj fj0).sndB fj0 hcj.1 k hk
 have hkd:=good_kd (by have:=hsj.2.1;rw [hlv.2.2.1] at this;exact this)
 have g6:=bG_lt (wd D (3+32*j) (offN (f j).1 k))
 have hb0:=offN_bd fj0 hcj.1 hk
 have hpo:=pOff_bd (l:=3+32*j) (c:=(f j).1) (i:=k) (by omega) fj0 hcj.1 hk
 have hpt:=ptr_bd (pOff (3+32*j) (f j).1 k) (bG (wd D (3+32*j) (offN (f j).1 k))) (bK (wd D (3+32*j) (offN (f j).1 k))) hpo.2.1 g6 hkd hpo.2.2 hpo.1
 have hptO:=pO_ptr (pOff (3+32*j) (f j).1 k) (bG (wd D (3+32*j) (offN (f j).1 k))) (bK (wd D (3+32*j) (offN (f j).1 k))) hpo.1 hpo.2.1
 have hptG:=pG_ptr (pOff (3+32*j) (f j).1 k) (bG (wd D (3+32*j) (offN (f j).1 k))) (bK (wd D (3+32*j) (offN (f j).1 k))) hpo.2.1 g6
 have hptK:=pK_ptr (pOff (3+32*j) (f j).1 k) (bG (wd D (3+32*j) (offN (f j).1 k))) (bK (wd D (3+32*j) (offN (f j).1 k))) hpo.2.1 g6 (by omega)
 rw [←hp] at hpt hptO hptG hptK
 have e0:pOff (3+32*j) (f j).1 k=(3+32*j)*64+offN (f j).1 k*8+8:=rfl
 refine ⟨p,h3,fun w1 K e hK=> ?_⟩
 have hcx:Cx w1 Y DF (3+32*i) (hC (wd DF (3+32*i) 0)):=⟨dv.ext e,gd,hG.ext e,on.off,by omega,c0,hci⟩
 by_cases hji:j=i
 ·subst hji
  rw [if_pos ⟨h1,h2⟩] at hK
  have hcs:0≤(f j).1∧hC (wd DF (3+32*j) 0)=(f j).1∧∀i,i<256→wd DF (3+32*j) i=wd D (3+32*j) i:=by
   rcases I.cs with ⟨h5,_⟩|⟨_,_,h5|h5⟩
   ·omega
   ·rw [h5] at h4;cases h4
   ·exact h5
  obtain ⟨_,hce,hwe⟩:=hcs
  rw [hce] at hcx ⊢
  have hsame:∀k':Nat,(k':Int)<perS (f j).1→pO p=pOff (3+32*j) (f j).1 k'→k'=k:=fun k' hk' h=>by
   have e1:pOff (3+32*j) (f j).1 k'=(3+32*j)*64+offN (f j).1 k'*8+8:=rfl
   rw [hptO,e0,e1] at h
   exact offN_inj fj0 hcj.1 (show offN (f j).1 k'=offN (f j).1 k by omega)
  have hw1:=hwe 1 (by omega)
  have hwk:=hwe _ hb0.2.2
  have hlF:liveB DF (3+32*j) (f j).1 k (pG p):=by
   unfold liveB at hlv ⊢
   rw [hwk,hw1,hptG];exact hlv
  refine k_Block hcx on.err _ _ p (by omega) K (fun h=>absurd h hpt.1) (fun _ h=> ?_) (fun _ _ k' hk' h hn=> ?_) (fun _ _ k' hk' h hl2 hn=> ?_) (fun _ _ k' hk' h hl2 hn=> ?_)
  ·rcases h with h|h
   ·omega
   ·exact absurd hptO (h k hk)
  ·have:=hsame k' hk' h;subst this
   exact absurd hlF hn
  ·have:=hsame k' hk' h;subst this
   rw [hptK,hwk] at hn
   exact absurd rfl hn
  ·exact hK _
 ·have hfar:∀k':Nat,(k':Int)<perS (hC (wd DF (3+32*i) 0))→pO p≠pOff (3+32*i) (hC (wd DF (3+32*i) 0)) k':=fun k' hk' h=>by
   have hbk:=offN_bd c0 hci hk'
   have e1:pOff (3+32*i) (hC (wd DF (3+32*i) 0)) k'=(3+32*i)*64+offN (hC (wd DF (3+32*i) 0)) k'*8+8:=rfl
   rw [hptO,e0,e1] at h
   omega
  have hno:¬((lvA D f i).length≤q∧q<(lvA D f (i+1)).length):=fun h=>by
   rcases Nat.lt_or_ge j i with h5|h5
   ·have:=lvA_mono D f (j+1) i (by omega);omega
   ·have:=lvA_mono D f (i+1) j (by omega);omega
  rw [if_neg hno] at hK
  exact k_Block hcx on.err _ _ p (by omega) K (fun h=>absurd h hpt.1) (fun _ _=>hK 0) (fun _ _ k' hk' h _=>absurd h (hfar k' hk')) (fun _ _ k' hk' h _ _=>absurd h (hfar k' hk')) (fun _ _ k' hk' h _ _=>absurd h (hfar k' hk'))
theorem ct_l5 (dv:Dv w Y DF) (hG:Glob w) (on:On DF) (gd:Good DF) (r:RgS D 3 n f) (nF:DF.n=D.n) (hi:i<n) (n5:n≤5) (I:ChI DF D f i) (c0:0≤hC (wd DF (3+32*i) 0)) (hT:Y.tb 0=T) (hs:SlO w 73 1 v (lvA D f n).length (ptL (lvA D f n)))
  (hC':Cells w C 69 5 (chF T (3+32*i) (hC (wd DF (3+32*i) 0)) (hO (wd DF (3+32*i) 0)) (gX (wd DF (3+32*i) 0)))) (K:K1) (E1:VP2) (x24 x25 x165 x166:Value)
  (HE:∀w',Ext w w'→E1 (.int .i64 ((lvA D f (i+1)).length:Int)) (.int .i64 ((i+1:Nat):Int)) w'):
  f7_l5 K E1 v x24 x25 (.int .i64 ((lvA D f i).length:Int)) (.pointer (some ⟨C,0,none⟩)) x165 x166 (.int .i64 (i:Int)) v (.int .i64 ((lvA D f n).length:Int)) (.int .i64 0) w:=by
 have ei:(i:Int)+1=((i+1:Nat):Int):=by omega
 have hm1:=lvA_mono D f i (i+1) (by omega)
 have hm2:=lvA_mono D f (i+1) n (by omega)
 have hml:=lvA_len D f n
 have hblk:=fun q (hq:q<(lvA D f n).length)=>ct_blk dv hG on gd r nF hi n5 I c0 hT hq
 obtain ⟨lo,hlo⟩:∃lo,(lvA D f i).length=lo:=⟨_,rfl⟩
 obtain ⟨hi',hhi⟩:∃hi',(lvA D f (i+1)).length=hi':=⟨_,rfl⟩
 obtain ⟨Q,hQ⟩:∃Q,lvA D f n=Q:=⟨_,rfl⟩
 rw [hlo,hhi] at hm1 hblk
 rw [hhi] at hm2 HE
 rw [hQ] at hm2 hml hblk hs
 rw [hlo,hQ]
 have c0':w.cell? ⟨C,0,none⟩=some (.iface 25 (.pointer (some ⟨T,0,none⟩))):=hC'.cell (i:=0) (by omega)
 have c1':w.cell? ⟨C,1,none⟩=some (.int .i64 ((3+32*i:Nat):Int)):=hC'.cell (i:=1) (by omega)
 have c2':w.cell? ⟨C,2,none⟩=some (.int .i64 (hC (wd DF (3+32*i) 0))):=hC'.cell (i:=2) (by omega)
 have c3':w.cell? ⟨C,3,none⟩=some (.int .i64 (hO (wd DF (3+32*i) 0))):=hC'.cell (i:=3) (by omega)
 have c4':w.cell? ⟨C,4,none⟩=some (.int .u16 (gX (wd DF (3+32*i) 0):Int)):=hC'.cell (i:=4) (by omega)
 generalize hC (wd DF (3+32*i) 0)=cc at*
 generalize hO (wd DF (3+32*i) 0)=oo at*
 generalize gX (wd DF (3+32*i) 0)=gg at*
 apply f7_l5_rule (I:=fun y z w'=>∃q:Nat,y= .int .i64 ((lo+cutN lo hi' q:Nat):Int)∧z= .int .i64 (q:Int)∧q≤Q.length∧Ext w w') (μ:=fun _ z _=>Q.length-(intOf z).toNat)
 ·exact ⟨0,by unfold cutN;rw [show lo+(min 0 hi'-min 0 lo)=lo by omega],rfl,by omega,Ext.refl _⟩
 ·intros;rename_i y z w1 hI E2 hE
  obtain ⟨q,rfl,rfl,hq,e1⟩:=hI
  by_cases hqm:q<Q.length
  ·obtain ⟨p,hp,hbk⟩:=hblk q hqm
   obtain ⟨vb,vo,vc,rfl,_⟩:=hs.isS (by omega)
   have r0:=(hs.ext e1).cell rfl (i:=q) (u:=u64 p) (by rw [List.getElem?_map,hp];rfl)
   have eq':(q:Int)+1=((q+1:Nat):Int):=by omega
   have c0:=e1.cell_some c0';have c1:=e1.cell_some c1';have c2:=e1.cell_some c2';have c3:=e1.cell_some c3';have c4:=e1.cell_some c4'
   have ltC:=lt_of_cell c0
   have ltv:=lt_of_cell r0
   have hcs:=cutN_succ (q:=q) hm1
   have hcb:cutN lo hi' q≤320:=by unfold cutN;omega
   have hlo2:lo≤320:=by omega
   by_cases hin:lo≤q∧q<hi'
   ·rw [if_pos hin] at hbk hcs
    have en:((lo+cutN lo hi' q:Nat):Int)+1=((lo+cutN lo hi' (q+1):Nat):Int):=by rw [hcs];omega
    have done:∀w2,Ext w1 w2→E2 (.int .i64 ((lo+cutN lo hi' (q+1):Nat):Int)) (.int .i64 ((q+1:Nat):Int)) w2:=fun w2 e=>by
     apply hE
     ·exact ⟨q+1,rfl,rfl,by omega,e1.trans e⟩
     ·simp [intOf];omega
    generalize lo+cutN lo hi' (q+1)=nx at*
    generalize hcu:lo+cutN lo hi' q=cu at*
    unfold f7_l5_t
    simp (disch:=first|omega|simp only [RO]|(simp only [RZ]<;>omega)|fail) only [↓RBp,↓RA,↓reduceIte,Nat.reduceAdd,Nat.reduceMul,Nat.reduceEqDiff,RB,RX,RA2,r0,c0,c1,c2,c3,c4]
    refine hbk _ _ (e1.trans (by repeat (first|(with_reducible first|refine Sh.eB ?_ _|assumption|exact Sh.eR _|refine Sh.eA ?_ _|refine Sh.eD ?_|refine Sh.eT ?_ (by assumption))|exact Sh.eR _))) (fun x w2 e2=> ?_)
    have e12:Ext w1 w2:=Ext.trans (by repeat (first|(with_reducible first|refine Sh.eB ?_ _|assumption|exact Sh.eR _|refine Sh.eA ?_ _|refine Sh.eD ?_|refine Sh.eT ?_ (by assumption))|exact Sh.eR _)) e2
    simp (disch:=first|omega|simp only [RO]|(simp only [RZ]<;>omega)|fail) only [↓RBp,↓RA,↓reduceIte,Nat.reduceAdd,Nat.reduceMul,Nat.reduceEqDiff,RB,RX,RA2,en,f7_k8_eq,f7_k8_t,eq']
    exact done _ e12
   ·rw [if_neg hin] at hbk hcs
    have done:∀w2,Ext w1 w2→E2 (.int .i64 ((lo+cutN lo hi' q:Nat):Int)) (.int .i64 ((q+1:Nat):Int)) w2:=fun w2 e=>by
     apply hE
     ·exact ⟨q+1,by rw [hcs],rfl,by omega,e1.trans e⟩
     ·simp [intOf];omega
    generalize hcu:lo+cutN lo hi' q=cu at*
    unfold f7_l5_t
    simp (disch:=first|omega|simp only [RO]|(simp only [RZ]<;>omega)|fail) only [↓RBp,↓RA,↓reduceIte,Nat.reduceAdd,Nat.reduceMul,Nat.reduceEqDiff,RB,RX,RA2,r0,c0,c1,c2,c3,c4]
    refine hbk _ _ (e1.trans (by repeat (first|(with_reducible first|refine Sh.eB ?_ _|assumption|exact Sh.eR _|refine Sh.eA ?_ _|refine Sh.eD ?_|refine Sh.eT ?_ (by assumption))|exact Sh.eR _))) (fun x w2 e2=> ?_)
    have e12:Ext w1 w2:=Ext.trans (by repeat (first|(with_reducible first|refine Sh.eB ?_ _|assumption|exact Sh.eR _|refine Sh.eA ?_ _|refine Sh.eD ?_|refine Sh.eT ?_ (by assumption))|exact Sh.eR _)) e2
    simp (disch:=first|omega|simp only [RO]|(simp only [RZ]<;>omega)|fail) only [↓RBp,↓RA,↓reduceIte,Nat.reduceAdd,Nat.reduceMul,Nat.reduceEqDiff,RB,RX,RA2,f7_k8_eq,f7_k8_t,eq']
    exact done _ e12
  ·have:q=Q.length:=by omega
   subst this
   have:lo+cutN lo hi' Q.length=hi':=by unfold cutN;omega
   rw [this]
   unfold f7_l5_t
   simp (disch:=first|omega|simp only [RO]|(simp only [RZ]<;>omega)|fail) only [↓RBp,↓RA,↓reduceIte,Nat.reduceAdd,Nat.reduceMul,Nat.reduceEqDiff,RB,RX,RA2,f7_k7_eq,f7_k7_t,ei]
   exact HE _ e1
end
section
variable {w0 w w':World} {Y Y':Lay} {D D' D2 DF:DS} {S b o cp n m T Q X g C i:Nat} {f f':Nat→Int×Int×Bool} {v:Value} {P:List Nat} {c t:Int}
theorem ct_l4 (a:ArS w0 w Y DF S b o cp 3 n (opF DF 3)) (on:On DF) (gd:Good DF) (r:RgS D 3 n f) (nF:DF.n=D.n) (n5:n≤5) (I:∀j,j<n→ChI DF D f j) (hT:∀(w1:World) (K:K1),Ext w w1→callS prog 21 #[.pointer (some ⟨Q,0,none⟩),.int .i64 0] w1 K=K (.pointer (some ⟨Y.tb 0,0,none⟩)) w1) (hs:SlO w 73 1 v (lvA D f n).length (ptL (lvA D f n)))
  {lb lo lc:Nat} (hl:SlO w 3 1 (.slice (some ⟨lb,lo,none⟩) n lc) n (i64L (lnL (fun _=>true) 3 n))) (K:K1) (hK:∀w',Ext w w'→K (.bool true) w'):
  f7_l4 K v (.pointer (some ⟨Q,0,none⟩)) (stV S) (.int .i64 0) (.slice (some ⟨lb,lo,none⟩) n lc) (.int .i64 (n:Int)) (.int .i64 0) w:=by
 have hlt:=r.lt
 have hml:=lvA_len D f n
 apply f7_l4_rule (I:=fun y z w'=>∃i:Nat,y= .int .i64 ((lvA D f i).length:Int)∧z= .int .i64 (i:Int)∧i≤n∧Ext w w') (μ:=fun _ z _=>n-(intOf z).toNat)
 ·exact ⟨0,rfl,rfl,by omega,Ext.refl _⟩
 ·intros;rename_i y z w1 hI E1 hE
  obtain ⟨i,rfl,rfl,hin,e1⟩:=hI
  by_cases hi:i<n
  ·have Ii:=I i hi
   have hcl:=hd_cls Ii.ok
   have a1:=a.ext e1
   have hG1:Glob w1:=a1.gl.ext a1.L.ex
   have r0:=(hl.ext e1).cell rfl (i:=i) (u:= .int .i64 ((3+32*i:Nat):Int)) (by rw [List.getElem?_map,lnT_get 3 n i hi];rfl)
   have ltl:=lt_of_cell r0
   have ei:(i:Int)+1=((i+1:Nat):Int):=by omega
   have hth:=fun (w2:World) (K:K1) (e:Ext w1 w2)=>hT w2 K (e1.trans e)
   have hop:∀(w3:World) (K:K1),Ext w1 w3→(∀w',Ext w3 w'→K (if hC (wd DF (3+32*i) 0)<0 then .tuple #[chZ,.int .i64 8] else .tuple #[cvA (Y.tb 0) (3+32*i) (hC (wd DF (3+32*i) 0)) (hO (wd DF (3+32*i) 0)) (gX (wd DF (3+32*i) 0)),.int .i64 0]) w')→callS prog 23 #[.iface 25 (.pointer (some ⟨Y.tb 0,0,none⟩)),.int .i64 ((3+32*i:Nat):Int)] w3 K:=fun w3 K e hK=>
    k_OpenAt (a1.L.dv.ext e) gd (hG1.ext e) on.off on.err (3+32*i) (by omega) Ii.ok K hK
   rcases Ii.cs with ⟨hc,hlv⟩|⟨hc,hsn,hlv⟩
   ·rw [if_pos hc] at hop
    have hnx:lvA D f (i+1)=lvA D f i:=by simp only [lvA];rw [hlv,List.append_nil]
    have step:∀w',Ext w1 w'→E1 (.int .i64 ((lvA D f i).length:Int)) (.int .i64 ((i+1:Nat):Int)) w':=fun w' e=>by
     apply hE
     ·exact ⟨i+1,by rw [hnx],rfl,by omega,e1.trans e⟩
     ·simp [intOf];omega
    generalize (lvA D f i).length=q at*
    unfold f7_l4_t
    simp (disch:=first|omega|simp only [RO]|(simp only [RZ]<;>omega)|(with_reducible (repeat (first|assumption|exact Ext.refl _|refine Ext.alloc ?_ _|refine Ext.drew ?_|refine Ext.trans ?_ (by assumption))))|fail) only [↓RBp,↓RA,↓reduceIte,Nat.reduceAdd,Nat.reduceMul,Nat.reduceEqDiff,RB,RX,RA2,r0,hth]
    refine hop _ _ (by repeat (first|(with_reducible first|refine Sh.eB ?_ _|assumption|exact Sh.eR _|refine Sh.eA ?_ _|refine Sh.eD ?_|refine Sh.eT ?_ (by assumption))|exact Sh.eR _)) (fun w3 e3=> ?_)
    have e13:Ext w1 w3:=Ext.trans (by repeat (first|(with_reducible first|refine Sh.eB ?_ _|assumption|exact Sh.eR _|refine Sh.eA ?_ _|refine Sh.eD ?_|refine Sh.eT ?_ (by assumption))|exact Sh.eR _)) e3
    simp (disch:=first|omega|simp only [RO]|(simp only [RZ]<;>omega)|fail) only [↓RBp,↓RA,↓reduceIte,Nat.reduceAdd,Nat.reduceMul,Nat.reduceEqDiff,RB,RX,RA2,f7_k7_eq,f7_k7_t,ei]
    exact step _ (e13.trans (by repeat (first|(with_reducible first|refine Sh.eB ?_ _|assumption|exact Sh.eR _|refine Sh.eA ?_ _|refine Sh.eD ?_|refine Sh.eT ?_ (by assumption))|exact Sh.eR _)))
   ·rw [if_neg (by omega)] at hop
    have step:∀w',Ext w1 w'→E1 (.int .i64 ((lvA D f (i+1)).length:Int)) (.int .i64 ((i+1:Nat):Int)) w':=fun w' e=>by
     apply hE
     ·exact ⟨i+1,rfl,rfl,by omega,e1.trans e⟩
     ·simp [intOf];omega
    have hcx:∀w2,Ext w1 w2→Cx w2 Y DF (3+32*i) (hC (wd DF (3+32*i) 0)):=fun w2 e=>⟨a1.L.dv.ext e,gd,hG1.ext e,on.off,by omega,hc,hcl.1⟩
    have hcon:=hsn.con gd (by omega) hc hcl.1
    have hck:∀(w2:World) (K:K1),Ext w1 w2→(∀w',Ext w2 w'→K (.int .i64 0) w')→callS prog 36 #[cvA (Y.tb 0) (3+32*i) (hC (wd DF (3+32*i) 0)) (hO (wd DF (3+32*i) 0)) (gX (wd DF (3+32*i) 0))] w2 K:=fun w2 K e hK=>by
     refine k_Check (hcx w2 e) on.err _ _ K ?_
     rw [if_pos hcon];exact hK
    have how:∀(w2:World) (K:K1),callS prog 24 #[cvA (Y.tb 0) (3+32*i) (hC (wd DF (3+32*i) 0)) (hO (wd DF (3+32*i) 0)) (gX (wd DF (3+32*i) 0))] w2 K=K (.int .i64 (hO (wd DF (3+32*i) 0))) (w2.alloc (chO Y (3+32*i) (hC (wd DF (3+32*i) 0)) (hO (wd DF (3+32*i) 0)) (gX (wd DF (3+32*i) 0)))):=fun w2 K=>c_OwnerA K
    have hso:∀(w2:World) (K:K1),Ext w1 w2→(∀w',Ext w2 w'→K (.int .i64 (hO (wd DF (3+32*i) 0))) w')→callS prog 37 #[stV S,.int .i64 ((3+32*i:Nat):Int)] w2 K:=fun w2 K e hK=>k_OwnerAt (a1.ext e) hi K hK
    have fin:=fun (w3:World) (C:Nat) (e:Ext w1 w3) hC' HE=>ct_l5 (C:=C) (a1.L.dv.ext e) (hG1.ext e) on gd r nF hi n5 Ii hc rfl ((hs.ext e1).ext e) hC' K E1 (.pointer (some ⟨Q,0,none⟩)) (stV S) (.slice (some ⟨lb,lo,none⟩) n lc) (.int .i64 (n:Int)) HE
    obtain ⟨pa,pc,rfl,hpc⟩:=hs.isS'
    clear Ii hcl hcx hcon hsn hlv
    generalize chO Y (3+32*i) (hC (wd DF (3+32*i) 0)) (hO (wd DF (3+32*i) 0)) (gX (wd DF (3+32*i) 0))=ob at*
    generalize hC (wd DF (3+32*i) 0)=cc at*
    generalize hO (wd DF (3+32*i) 0)=oo at*
    generalize gX (wd DF (3+32*i) 0)=gg at*
    unfold f7_l4_t
    simp (disch:=first|omega|simp only [RO]|(simp only [RZ]<;>omega)|(with_reducible (repeat (first|assumption|exact Ext.refl _|refine Ext.alloc ?_ _|refine Ext.drew ?_|refine Ext.trans ?_ (by assumption))))|fail) only [↓RBp,↓RA,↓reduceIte,Nat.reduceAdd,Nat.reduceMul,Nat.reduceEqDiff,RB,RX,RA2,r0,hth]
    refine hop _ _ (by repeat (first|(with_reducible first|refine Sh.eB ?_ _|assumption|exact Sh.eR _|refine Sh.eA ?_ _|refine Sh.eD ?_|refine Sh.eT ?_ (by assumption))|exact Sh.eR _)) (fun w3 e3=> ?_)
    have e13:Ext w1 w3:=Ext.trans (by repeat (first|(with_reducible first|refine Sh.eB ?_ _|assumption|exact Sh.eR _|refine Sh.eA ?_ _|refine Sh.eD ?_|refine Sh.eT ?_ (by assumption))|exact Sh.eR _)) e3
    have r0:=e13.cell_some r0
    have ltl:=lt_of_cell r0
    simp (disch:=first|omega|simp only [RO]|(simp only [RZ]<;>omega)|fail) only [↓RBp,↓RA,↓reduceIte,Nat.reduceAdd,Nat.reduceMul,Nat.reduceEqDiff,RB,RX,RA2,r0]
    refine hck _ _ (e13.trans (by repeat (first|(with_reducible first|refine Sh.eB ?_ _|assumption|exact Sh.eR _|refine Sh.eA ?_ _|refine Sh.eD ?_|refine Sh.eT ?_ (by assumption))|exact Sh.eR _))) (fun w4 e4=> ?_)
    have hC4:Cells w4 w3.heap.size 69 5 (chF (Y.tb 0) (3+32*i) cc oo gg):=(Cells.new w3 [Value.iface 25 (.pointer (some ⟨Y.tb 0,0,none⟩)),.int .i64 ((3+32*i:Nat):Int),.int .i64 cc,.int .i64 oo,.int .u16 (gg:Int)] 69).ext (Ext.trans (by repeat (first|(with_reducible first|refine Sh.eB ?_ _|assumption|exact Sh.eR _|refine Sh.eA ?_ _|refine Sh.eD ?_|refine Sh.eT ?_ (by assumption))|exact Sh.eR _)) e4)
    have e34:Ext w3 w4:=Ext.trans (by repeat (first|(with_reducible first|refine Sh.eB ?_ _|assumption|exact Sh.eR _|refine Sh.eA ?_ _|refine Sh.eD ?_|refine Sh.eT ?_ (by assumption))|exact Sh.eR _)) e4
    have e14:=e13.trans e34
    have c0:w4.cell? ⟨w3.heap.size,0,none⟩=some (.iface 25 (.pointer (some ⟨Y.tb 0,0,none⟩))):=hC4.cell (i:=0) (by omega)
    have c1:w4.cell? ⟨w3.heap.size,1,none⟩=some (.int .i64 ((3+32*i:Nat):Int)):=hC4.cell (i:=1) (by omega)
    have c2:w4.cell? ⟨w3.heap.size,2,none⟩=some (.int .i64 cc):=hC4.cell (i:=2) (by omega)
    have c3:w4.cell? ⟨w3.heap.size,3,none⟩=some (.int .i64 oo):=hC4.cell (i:=3) (by omega)
    have c4:w4.cell? ⟨w3.heap.size,4,none⟩=some (.int .u16 (gg:Int)):=hC4.cell (i:=4) (by omega)
    have ltC:=hC4.lt
    have r0:=e34.cell_some r0
    have ltl:=lt_of_cell r0
    simp (disch:=first|omega|simp only [RO]|(simp only [RZ]<;>omega)|fail) only [↓RBp,↓RA,↓reduceIte,Nat.reduceAdd,Nat.reduceMul,Nat.reduceEqDiff,RB,RX,RA2,c0,c1,c2,c3,c4,how,r0]
    refine hso _ _ (e14.trans (by repeat (first|(with_reducible first|refine Sh.eB ?_ _|assumption|exact Sh.eR _|refine Sh.eA ?_ _|refine Sh.eD ?_|refine Sh.eT ?_ (by assumption))|exact Sh.eR _))) (fun w5 e5=> ?_)
    have e45:Ext w4 w5:=Ext.trans (by repeat (first|(with_reducible first|refine Sh.eB ?_ _|assumption|exact Sh.eR _|refine Sh.eA ?_ _|refine Sh.eD ?_|refine Sh.eT ?_ (by assumption))|exact Sh.eR _)) e5
    have hC5:=hC4.ext e45
    simp (disch:=first|omega|simp only [RO]|(simp only [RZ]<;>omega)|fail) only [↓RBp,↓RA,↓reduceIte,Nat.reduceAdd,Nat.reduceMul,Nat.reduceEqDiff,RB,RX,RA2]
    exact fin _ _ ((e14.trans e45).trans (by repeat (first|(with_reducible first|refine Sh.eB ?_ _|assumption|exact Sh.eR _|refine Sh.eA ?_ _|refine Sh.eD ?_|refine Sh.eT ?_ (by assumption))|exact Sh.eR _))) hC5 (fun w' e'=>step w' (((e14.trans e45).trans (by repeat (first|(with_reducible first|refine Sh.eB ?_ _|assumption|exact Sh.eR _|refine Sh.eA ?_ _|refine Sh.eD ?_|refine Sh.eT ?_ (by assumption))|exact Sh.eR _))).trans e'))
  ·have:i=n:=by omega
   subst this
   obtain ⟨pa,pc,rfl,hpc⟩:=hs.isS'
   unfold f7_l4_t
   simp (disch:=first|omega|simp only [RO]|(simp only [RZ]<;>omega)|fail) only [↓RBp,↓RA,↓reduceIte,Nat.reduceAdd,Nat.reduceMul,Nat.reduceEqDiff,RB,RX,RA2,f7_k5_eq,f7_k5_t]
   exact hK _ e1
def cuF (d:ActD) (tv dv:Value) (N:Nat) (xu:Value) (i:Nat):Value:= [Value.int .u8 (d.kd:Int),.int .i64 d.th,.int .i64 d.cl,.int .i64 d.ch,.bool d.on,tv,dv,.int .u8 (N:Int),xu].getD i undef
theorem ct_k3 (L:Lv w0 w Y D2) (gl:Glob w0) (hx:D2.exe<1000000000) (hQ:Y.d=Q) (r:RgS D 3 n f) (n0:0<n) (n5:n≤5) (n2:D2.n=D.n) (hI:∀F,ImgW D2 F→∀j,j<n→ChI (imD D.n F) D f j) (hs:SlO w 73 1 v (lvA D f n).length (ptL (lvA D f n)))
  {d:ActD} {tv dv xu:Value} {N:Nat} (hX:Cells w0 X 86 9 (cuF d tv dv N xu)) {us:List Nat} (hus:RdS m w0 xu (u8L us)) (hu8:∀x∈us,x<256) (hul:us.length≤20) (K:K1) (hK:∀w',Ext w0 w'→K (.bool true) w'):
  f7_k3 K (.pointer (some ⟨X,0,none⟩)) (.int .i64 (n:Int)) (.pointer (some ⟨Q,0,none⟩)) v w:=by
 subst hQ
 have hlt:=r.lt
 have hgd:=L.gd
 have hnn:=hgd.n
 have e32:(32:Int)*(n:Int)=((32*n:Nat):Int):=by omega
 have hq:32*n/32=n:=by omega
 obtain ⟨ua,un,uc,rfl⟩:∃ua un uc,xu= .slice ua un uc:=by obtain ⟨a,c,e,_⟩:=id hus;exact ⟨_,_,_,e⟩
 have x8:w.cell? ⟨X,8,none⟩=some (.slice ua un uc):=L.ex.cell_some (hX.cell (i:=8) (by omega))
 have ltX:=lt_of_cell x8
 rw [f7_k3_eq]
 unfold f7_k3_t
 simp (disch:=first|omega|simp only [RO]|(simp only [RZ]<;>omega)|fail) only [↓RBp,↓RA,↓reduceIte,Nat.reduceAdd,Nat.reduceMul,Nat.reduceEqDiff,RB,RX,RA2,x8]
 refine k_Crash (L.dv.ext (by repeat (first|(with_reducible first|refine Sh.eB ?_ _|assumption|exact Sh.eR _|refine Sh.eA ?_ _|refine Sh.eD ?_|refine Sh.eT ?_ (by assumption))|exact Sh.eR _))) hgd hx (hus.ext (L.ex.trans (by repeat (first|(with_reducible first|refine Sh.eB ?_ _|assumption|exact Sh.eR _|refine Sh.eA ?_ _|refine Sh.eD ?_|refine Sh.eT ?_ (by assumption))|exact Sh.eR _)))) hu8 (by omega) _ (fun F w1 Y1 e1 hF hd1 hn1 hdt1=> ?_)
 have hIF:=hI F hF
 have hTh:∀(w9:World) (K:K1),Ext w1 w9→callS prog 21 #[.pointer (some ⟨Y1.d,0,none⟩),.int .i64 0] w9 K=K (.pointer (some ⟨Y1.tb 0,0,none⟩)) w9:=fun w9 K e=>by rw [←hdt1];exact c_Thread (hd1.ext e) 0 (by omega) K
 have hin:=init_good hgd.n0 hgd.n (F:=F) (fun i hi=>hF.lt hgd i hi)
 rw [n2] at hin hd1
 have e01:Ext w w1:=Ext.trans (by repeat (first|(with_reducible first|refine Sh.eB ?_ _|assumption|exact Sh.eR _|refine Sh.eA ?_ _|refine Sh.eD ?_|refine Sh.eT ?_ (by assumption))|exact Sh.eR _)) e1
 obtain ⟨DF,hDF⟩:∃DF,DF=imD D.n F:=⟨_,rfl⟩
 have hin:Good DF∧On DF:=by rw [hDF];exact hin
 have nF:DF.n=D.n:=by rw [hDF];rfl
 have L1:Lv w0 w1 Y1 DF:=by rw [hDF];exact ⟨hd1,by rw [←hDF];exact hin.1,L.ex.trans e01,fun x hx=>Nat.le_trans L.ex.size (hn1 x hx)⟩
 have hIF:∀j,j<n→ChI DF D f j:=by rw [hDF];exact hIF
 have hs1:=hs.ext e01
 clear hF hd1 hn1 hI hDF
 have hop:=fun (w4:World) (e:Ext w1 w4) (K:K1) h1 h2=>k_AOpen (l0:=3) (q:=32*n) (n:=n) (L1.ext e) gl hin.2.off hin.2.err (by omega) (by omega) hq K h1 h2
 unfold thV at hop
 simp (disch:=first|omega|simp only [RO]|(simp only [RZ]<;>omega)|(with_reducible (repeat (first|assumption|exact Ext.refl _|refine Ext.alloc ?_ _|refine Ext.drew ?_|refine Ext.trans ?_ (by assumption))))|fail) only [↓RBp,↓RA,↓reduceIte,Nat.reduceAdd,Nat.reduceMul,Nat.reduceEqDiff,RB,RX,RA2,hTh,e32]
 refine hop _ (by repeat (first|(with_reducible first|refine Sh.eB ?_ _|assumption|exact Sh.eR _|refine Sh.eA ?_ _|refine Sh.eD ?_|refine Sh.eT ?_ (by assumption))|exact Sh.eR _)) _ (fun hb=>absurd (fun j hj=>(hIF j hj).ok) hb) (fun _ S3 b3 o3 c3 w3 e3 _ _ h3=> ?_)
 have e13:Ext w1 w3:=Ext.trans (by repeat (first|(with_reducible first|refine Sh.eB ?_ _|assumption|exact Sh.eR _|refine Sh.eA ?_ _|refine Sh.eD ?_|refine Sh.eT ?_ (by assumption))|exact Sh.eR _)) e3
 simp (disch:=first|omega|simp only [RO]|(simp only [RZ]<;>omega)|fail) only [↓RBp,↓RA,↓reduceIte,Nat.reduceAdd,Nat.reduceMul,Nat.reduceEqDiff,RB,RX,RA2]
 refine k_Lines h3 _ (fun lv w4 e4 nv hl=> ?_)
 rw [lnT_len] at hl
 obtain ⟨lb,lo,lc,rfl,_⟩:=hl.isS n0
 have e14:=e13.trans e4
 simp (disch:=first|omega|simp only [RO]|(simp only [RZ]<;>omega)|fail) only [↓RBp,↓RA,↓reduceIte,Nat.reduceAdd,Nat.reduceMul,Nat.reduceEqDiff,RB,RX,RA2]
 exact ct_l4 (h3.ext e4) hin.2 hin.1 r nF n5 hIF (fun w5 K e=>hTh w5 K (e14.trans e)) (hs1.ext e14) hl K (fun w' e'=>hK _ ((L1.ex.trans e14).trans e'))
end
theorem wrap_small (n:Nat) (h:n<4):IntKind.i64.wrap (n:Int)=(n:Int):=by
 have:n=0∨n=1∨n=2∨n=3:=by omega
 rcases this with rfl|rfl|rfl|rfl<;>rfl
theorem and3 (a:Int):IntKind.i64.wrap ((BitVec.ofInt 64 a&&&BitVec.ofInt 64 3).toNat:Int)=a%4:=by
 have h3:(BitVec.ofInt 64 3).toNat=2^2-1:=by decide
 have h:(BitVec.ofInt 64 a&&&BitVec.ofInt 64 3).toNat=(BitVec.ofInt 64 a).toNat%4:=by
  rw [BitVec.toNat_and,h3,Nat.and_two_pow_sub_one_eq_mod]
 have h2:(BitVec.ofInt 64 a).toNat=(a%18446744073709551616).toNat:=by rw [BitVec.toNat_ofInt];rfl
 rw [wrap_small _ (by rw [h];omega),h,h2]
 omega
theorem ev_and3 (P:Program) (t:TypeId) (x y:Operand) (a:Int) (w:World) (k:K1):ev P (binM .and t x y (.int .i64 a) (.int .i64 3)) w k=k (.int .i64 (a%4)) w:=by
 refine ev_of_run ?_ k
 rw [run_binM_int]
 simp only [binOp,ne_eq,not_true,if_false,Op.intBits]
 rw [Sem.run_pure]
 exact congrArg (fun z=>Result.ok (Value.int .i64 z) w) (and3 a)
section
variable {w0 w w':World} {Y Y':Lay} {D D':DS} {S b o cp n X C k:Nat} {f f':Nat→Int×Int×Bool} {v tv dv:Value} {sl:Nat→Value} {kd:Nat} {th cl ch:Int} {on:Bool} {c:Int}
theorem pl_l2 (p:PlA w0 w Y D S b o cp n f v sl) (hx:D.exe<100000000) {ws:List (Nat×Nat)} {u:Value} (hu:SlO w 80 2 u ws.length (wrL ws)) (nu:∀x,u.ownBlock=some x→¬Y.F x) (hk:k<n) (hok:∀x∈ws,x.2<18446744073709551616∧∃q,0<q∧q<256∧x.1=(3+32*k)*64+q*8) (hwl:ws.length≤150) (hs:0≤(f k).1→Snd (acD D ws) (3+32*k) (f k).1 (f k).2.1)
  (hX:Cells w X 52 7 (acF kd th cl (k:Int) on tv dv)) (nX:¬Y.F X) (K:K1) (hK:PlK w0 w Y D S b o cp n K) (T:Nat) (hT:Y.tb 0=T):
  f17_l2 K (.pointer (some ⟨T,0,none⟩)) v (.pointer (some ⟨X,0,none⟩)) (.int .i64 ((3+32*k:Nat):Int)) u (.int .i64 (ws.length:Int)) (.int .i64 0) w:=by
 have hlt:=p.r.lt
 have hnn:=p.r.gd.n
 have hok1:∀x∈ws,(x.1%8=0∧x.1<D.n*64)∧x.1<18446744073709551616∧x.2<18446744073709551616:=fun x hx=>by
  obtain ⟨h1,q,q0,q1,h2⟩:=hok x hx
  omega
 have hrg:=ac_rg p.r hk hok1 (fun x hx=>by obtain ⟨h1,q,q0,q1,h2⟩:=hok x hx;omega) (fun x hx=>by obtain ⟨h1,q,q0,q1,h2⟩:=hok x hx;omega) hs
 have gs:∀j,Good (sfD D (ws.take j)):=fun j=>Good.run 0 (by omega) _ _ p.r.gd (pair_okI (fun x hx=>(hok1 x (List.mem_of_mem_take hx)).2))
 have xs:∀j,(sfD D (ws.take j)).exe<1000000000:=fun j=>by
  have:=run_exe 0 (pairI (ws.take j)) D
  rw [pair_len,List.length_take] at this
  have h2:=Nat.min_le_right j ws.length
  show (D.run 0 (pairI (ws.take j))).exe<_
  omega
 have ns:∀j,(sfD D (ws.take j)).n=D.n:=fun j=>run_n 0 _ D
 apply f17_l2_rule (I:=fun z w'=>∃(j:Nat) (Y':Lay),z= .int .i64 (j:Int)∧j≤ws.length∧Stp w Y w' Y' (sfD D (ws.take j))) (μ:=fun z _=>ws.length-(intOf z).toNat)
 ·exact ⟨0,Y,rfl,by omega,by rw [List.take_zero];exact Stp.ext p.a.L.dv (Ext.refl _)⟩
 ·intros;rename_i w1 hI E1 hE
  obtain ⟨j,Y1,rfl,hj,st⟩:=hI
  have tb1:Y1.tb 0=Y.tb 0:=by rw [st.tb]
  by_cases hjl:j<ws.length
  ·obtain ⟨x,hx1⟩:∃x,ws[j]? =some x:=⟨_,List.getElem?_eq_getElem hjl⟩
   have hxo:=hok1 x (List.mem_of_getElem? hx1)
   have htk:=sfD_take (D:=D) hx1
   have hu1:=hu.frm st.frm nu
   have hcu:=wr_cells hu1 hjl
   rw [List.getElem?_eq_getElem hjl] at hx1
   rw [Option.some.inj hx1] at hcu
   obtain ⟨xo,xv⟩:=x
   obtain ⟨ub,uo,uc,rfl,hc1,hc2⟩:=hcu
   simp only at hc1 hc2 hxo htk
   have gj:=gs j
   have xj:=xs j
   have g2:Good ((sfD D (ws.take j)).store 0 xo xv):=strs_good gj (ws:= [(xo,xv)]) (fun y hy=>by simp only [List.mem_singleton] at hy;subst hy;exact hxo.2)
   have x2:((sfD D (ws.take j)).store 0 xo xv).exe≤(sfD D (ws.take j)).exe+1:=strs_exe _ [(xo,xv)]
   generalize sfD D (ws.take j)=Dj at*
   have hC:=Cells.new w1 [Value.int .u64 (xo:Int),.int .u64 (xv:Int)] 80
   have ltu:=lt_of_cell hc1
   unfold f17_l2_t
   rw [←hT,←tb1]
   simp (disch:=first|omega|simp only [RO]|(simp only [RZ]<;>omega)|fail) only [↓RBp,↓RA,↓reduceIte,Nat.reduceAdd,Nat.reduceMul,Nat.reduceEqDiff,RB,RX,RA2,hc1,hc2]
   refine k_Store (st.dv.ext (by repeat (first|(with_reducible first|refine Sh.eB ?_ _|assumption|exact Sh.eR _|refine Sh.eA ?_ _|refine Sh.eD ?_|refine Sh.eT ?_ (by assumption))|exact Sh.eR _))) gj 0 (by omega) xo xv (by omega) _ (fun w2 Y2 st2=> ?_)
   have hC2:=hC.frm st2.frm (fun hf=>by have:=st.dv.lt hf;omega)
   have d0:w2.cell? ⟨w1.heap.size,0,none⟩=some (.int .u64 (xo:Int)):=hC2.cell (i:=0) (by simp)
   have tb2:Y2.tb 0=Y1.tb 0:=by rw [st2.tb]
   have st12:Stp w1 Y1 w2 Y2 (Dj.store 0 xo xv):=Stp.pre (by repeat (first|(with_reducible first|refine Sh.eB ?_ _|assumption|exact Sh.eR _|refine Sh.eA ?_ _|refine Sh.eD ?_|refine Sh.eT ?_ (by assumption))|exact Sh.eR _)) (fun x hx=>st.dv.lt hx) st2
   have ltd:=lt_of_cell d0
   rw [←tb2]
   simp (disch:=first|omega|simp only [RO]|(simp only [RZ]<;>omega)|fail) only [↓RBp,↓RA,↓reduceIte,Nat.reduceAdd,Nat.reduceMul,Nat.reduceEqDiff,RB,RX,RA2,d0]
   refine k_Flush (st2.dv.ext (by repeat (first|(with_reducible first|refine Sh.eB ?_ _|assumption|exact Sh.eR _|refine Sh.eA ?_ _|refine Sh.eD ?_|refine Sh.eT ?_ (by assumption))|exact Sh.eR _))) g2 0 (by omega) xo (by omega) _ (fun w3 st3=> ?_)
   have st13:Stp w Y w3 Y2 ((Dj.store 0 xo xv).flush 0 xo):=(st.trans st12).trans (Stp.pre (by repeat (first|(with_reducible first|refine Sh.eB ?_ _|assumption|exact Sh.eR _|refine Sh.eA ?_ _|refine Sh.eD ?_|refine Sh.eT ?_ (by assumption))|exact Sh.eR _)) (fun x hx=>st12.dv.lt hx) st3)
   have ek:(j:Int)+1=((j+1:Nat):Int):=by omega
   simp (disch:=first|omega|simp only [RO]|(simp only [RZ]<;>omega)|fail) only [↓RBp,↓RA,↓reduceIte,Nat.reduceAdd,Nat.reduceMul,Nat.reduceEqDiff,RB,RX,RA2,ek]
   apply hE
   ·exact ⟨j+1,Y2,rfl,by omega,by rw [htk];exact st13⟩
   ·simp [intOf];omega
  ·have hjl:j=ws.length:=by omega
   subst hjl
   rw [List.take_length] at st
   have g1:=gs ws.length
   have x1:=xs ws.length
   rw [List.take_length] at g1 x1
   unfold f17_l2_t
   simp (disch:=first|omega|simp only [RO]|(simp only [RZ]<;>omega)|fail) only [↓RBp,↓RA,↓reduceIte,Nat.reduceAdd,Nat.reduceMul,Nat.reduceEqDiff,RB,RX,RA2]
   exact pl_k4 p st hk hrg.1 hrg.2.1 hrg.2.2.1 hwl hx g1 x1 (ac_cln p.r.on (fun x hx=>(hok1 x hx).1)) hrg.2.2.2 (hX.frm st.frm nX) (fun hf=>by
    rcases st.fr X hf with h|h
    ·exact nX h
    ·have:=hX.lt;omega) K hK T hT
end
section
variable {w0 w w':World} {Y Y':Lay} {D D':DS} {S b o cp n X C k m:Nat} {f f':Nat→Int×Int×Bool} {v tv dv:Value} {sl:Nat→Value} {kd:Nat} {th cl ch:Int} {on:Bool} {c:Int}
theorem snd_strs {l:Nat} {o:Int} {ws:List (Nat×Nat)} (on:On D) (hv:∀x∈ws,x.1%8=0∧x.1<D.n*64) (c0:0≤c) (c5:c<5) (h:Snd (D.strs ws) l c o):Snd (acD D ws) l c o:=h.congr c0 c5 (fun j hj=>by
 unfold wd;rw [(ac_on on hv).2,(strs_on on hv).2])
theorem snd_nil {l:Nat} {o:Int} (on:On D) (c0:0≤c) (c5:c<5) (h:Snd D l c o):Snd (acD D []) l c o:=h.congr c0 c5 (fun j hj=>by
 unfold wd;rw [(ac_on on (ws:= []) (fun x hx=>by cases hx)).2];rfl)
theorem pl_k3 (p:PlA w0 w Y D S b o cp n f v sl) (hx:D.exe<100000000) {L M:List Int} (hL:RdS m w tv (i64L L)) (hM:RdS m w dv (i64L M)) (lL:L.length≤70) (lM:M.length≤70) {kv:Value} (hkv:RdS w.heap.size w kv (u8L (List.replicate L.length 64))) (hm:m≤w.heap.size) (hk:k<n)
  (hC:Cells w C 69 5 (if (f k).1<0 then (fun i=> [Value.nilIface,.int .i64 0,.int .i64 0,.int .i64 0,.int .u16 ((0:Nat):Int)].getD i undef) else chF (Y.tb 0) (3+32*k) (f k).1 (f k).2.1 (gX (wd D (3+32*k) 0))))
  (hX:Cells w X 52 7 (acF kd th cl (k:Int) on tv dv)) (nX:¬Y.F X) (K:K1) (hK:PlK w0 w Y D S b o cp n K):
  f17_k3 K (.pointer (some ⟨Y.tb 0,0,none⟩)) v (.pointer (some ⟨X,0,none⟩)) (.int .i64 ((3+32*k:Nat):Int)) (.pointer (some ⟨C,0,none⟩)) kv w:=by
 have hlt:=p.r.lt
 have hcl:=p.r.cls hk
 have hG:Glob w:=p.a.gl.ext p.a.L.ex
 have q5:w.cell? ⟨X,5,none⟩=some tv:=hX.cell (i:=5) (by omega)
 have q6:w.cell? ⟨X,6,none⟩=some dv:=hX.cell (i:=6) (by omega)
 have ltX:=hX.lt
 have ltC:=hC.lt
 have lr:(List.replicate L.length 64).length=L.length:=by simp
 have hL':=hL.mono22 hm
 have hM':=hM.mono22 hm
 obtain ⟨la,lc,rfl,_⟩:=id hL
 obtain ⟨ma,mc,rfl,_⟩:=id hM
 obtain ⟨ka,kc,rfl,_⟩:=id hkv
 have go:=fun (w1:World) (e:Ext w w1) (ws:List (Nat×Nat)) (u:Value) hu nu hok hwl hs=>pl_l2 (p.ext e) hx (ws:=ws) (u:=u) hu nu hk hok hwl hs (hX.ext e) nX K (fun w' Y' D' f' v' sl' a' p' x' c'=>hK w' Y' D' f' v' sl' ((AStp.of_ext Y b e).trans a') p' x' c') (Y.tb 0) rfl
 rw [f17_k3_eq]
 unfold f17_k3_t
 by_cases hc:(f k).1<0
 ·rw [if_pos hc] at hC
  have c0:w.cell? ⟨C,0,none⟩=some .nilIface:=hC.cell (i:=0) (by omega)
  have c1:w.cell? ⟨C,1,none⟩=some (.int .i64 0):=hC.cell (i:=1) (by omega)
  have c2:w.cell? ⟨C,2,none⟩=some (.int .i64 0):=hC.cell (i:=2) (by omega)
  have c3:w.cell? ⟨C,3,none⟩=some (.int .i64 0):=hC.cell (i:=3) (by omega)
  have c4:w.cell? ⟨C,4,none⟩=some (.int .u16 ((0:Nat):Int)):=hC.cell (i:=4) (by omega)
  simp (disch:=first|omega|simp only [RO]|(simp only [RZ]<;>omega)|fail) only [↓RBp,↓RA,↓reduceIte,Nat.reduceAdd,Nat.reduceMul,Nat.reduceEqDiff,RB,RX,RA2,c0,c1,c2,c3,c4,q5,q6]
  refine k_ActionsZ hG L M (List.replicate L.length 64) _ _ _ hL' hkv hM' (by omega) (by omega) lr (fun x hx=>List.eq_of_mem_replicate hx) _ (fun e w1 e1=> ?_)
  simp (disch:=first|omega|simp only [RO]|(simp only [RZ]<;>omega)|fail) only [↓RBp,↓RA,↓reduceIte,Nat.reduceAdd,Nat.reduceMul,Nat.reduceEqDiff,RB,RX,RA2]
  exact go w1 e1 [] _ (SlO.nil _ _ _) (fun x hx=>by cases hx) (fun x hx=>by cases hx) (by simp) (fun h=>absurd hc (by omega))
 ·rw [if_neg hc] at hC
  have hsn:=p.r.sn k hk (by omega)
  have hcx:Cx w Y D (3+32*k) (f k).1:=⟨p.a.L.dv,p.r.gd,hG,p.r.on.off,by omega,by omega,hcl.1⟩
  have c0:w.cell? ⟨C,0,none⟩=some (.iface 25 (.pointer (some ⟨Y.tb 0,0,none⟩))):=hC.cell (i:=0) (by omega)
  have c1:w.cell? ⟨C,1,none⟩=some (.int .i64 ((3+32*k:Nat):Int)):=hC.cell (i:=1) (by omega)
  have c2:w.cell? ⟨C,2,none⟩=some (.int .i64 (f k).1):=hC.cell (i:=2) (by omega)
  have c3:w.cell? ⟨C,3,none⟩=some (.int .i64 (f k).2.1):=hC.cell (i:=3) (by omega)
  have c4:w.cell? ⟨C,4,none⟩=some (.int .u16 (gX (wd D (3+32*k) 0):Int)):=hC.cell (i:=4) (by omega)
  have sn0:Snd (acD D []) (3+32*k) (f k).1 (f k).2.1:=snd_nil p.r.on (by omega) hcl.1 hsn
  have gon:=fun (w1:World) (e:Ext w w1)=>go w1 e [] (.slice none 0 0) (SlO.nil _ _ _) (fun x hx=>by cases hx) (fun x hx=>by cases hx) (by simp) (fun _=>sn0)
  have hac:=fun K h1 h2 h3=>k_Actions hcx p.r.on.err (f k).2.1 (gX (wd D (3+32*k) 0)) L M (List.replicate L.length 64) _ _ _ hL' hkv hM' (by omega) (by omega) (by omega) (fun x hx=>by rw [List.eq_of_mem_replicate hx];omega) K h1 h2 h3
  simp (disch:=first|omega|simp only [RO]|(simp only [RZ]<;>omega)|fail) only [↓RBp,↓RA,↓reduceIte,Nat.reduceAdd,Nat.reduceMul,Nat.reduceEqDiff,RB,RX,RA2,c0,c1,c2,c3,c4,q5,q6]
  refine hac _ (fun _ w1 e1=> ?_) (fun _ _ w1 e1=> ?_) (fun ha ws hws v1 w1 e1 nv1 hs1=> ?_)
  ·simp (disch:=first|omega|simp only [RO]|(simp only [RZ]<;>omega)|fail) only [↓RBp,↓RA,↓reduceIte,Nat.reduceAdd,Nat.reduceMul,Nat.reduceEqDiff,RB,RX,RA2]
   exact gon w1 e1
  ·simp (disch:=first|omega|simp only [RO]|(simp only [RZ]<;>omega)|fail) only [↓RBp,↓RA,↓reduceIte,Nat.reduceAdd,Nat.reduceMul,Nat.reduceEqDiff,RB,RX,RA2]
   exact gon w1 e1
  ·have hE:=act_wd p.r.on p.r.gd (by omega) (by omega) hcl.1 ha hws
   have hin:=act_in22 (by omega) hcl.1 ha hws
   have hwl:=hE.len
   have hlen:ws.length≤150:=by omega
   obtain ⟨pa,pc,rfl,hpc⟩:=hs1.isS'
   simp (disch:=first|omega|simp only [RO]|(simp only [RZ]<;>omega)|fail) only [↓RBp,↓RA,↓reduceIte,Nat.reduceAdd,Nat.reduceMul,Nat.reduceEqDiff,RB,RX,RA2]
   refine go w1 e1 ws _ hs1 (fun x hx hf=> ?_) (fun x hx=>⟨(hE.ok x hx).2.2,hin x hx⟩) hlen (fun _=>snd_strs p.r.on (fun x hx=>⟨(hE.ok x hx).1,(hE.ok x hx).2.1⟩) (by omega) hcl.1 (hsn.act (by omega) hcl.1 ha hE))
   have:=nv1 x hx;have:=p.a.L.dv.lt hf;omega
theorem pl_l1 (p:PlA w0 w Y D S b o cp n f v sl) (hx:D.exe<100000000) {L M:List Int} (hL:RdS m w tv (i64L L)) (hM:RdS m w dv (i64L M)) (lL:L.length≤70) (lM:M.length≤70) (hm:m≤w.heap.size) (hk:k<n)
  (hC:Cells w C 69 5 (if (f k).1<0 then (fun i=> [Value.nilIface,.int .i64 0,.int .i64 0,.int .i64 0,.int .u16 ((0:Nat):Int)].getD i undef) else chF (Y.tb 0) (3+32*k) (f k).1 (f k).2.1 (gX (wd D (3+32*k) 0))))
  (hX:Cells w X 52 7 (acF kd th cl (k:Int) on tv dv)) (nX:¬Y.F X) (K:K1) (hK:PlK w0 w Y D S b o cp n K):
  f17_l1 K (.pointer (some ⟨Y.tb 0,0,none⟩)) v (.pointer (some ⟨X,0,none⟩)) (.int .i64 ((3+32*k:Nat):Int)) (.pointer (some ⟨C,0,none⟩)) (.slice none 0 0) (.int .i64 (L.length:Int)) (.int .i64 0) w:=by
 apply f17_l1_rule (I:=fun x z w'=>∃i:Nat,z= .int .i64 (i:Int)∧i≤L.length∧SlO w' 5 1 x i (u8L (List.replicate i 64))∧Frm Nob w w'∧NewV w.heap.size x) (μ:=fun _ z _=>L.length-(intOf z).toNat)
 ·exact ⟨0,rfl,by omega,SlO.nil _ _ _,Frm.refl _ _,fun b hb=>by cases hb⟩
 ·intros;rename_i x z w1 hI E1 hE
  obtain ⟨i,rfl,hi,hs,hf,nv⟩:=hI
  have e1:Ext w w1:=hf.to_ext (fun _ _ h=>h)
  by_cases hil:i<L.length
  ·obtain ⟨pa,pc,rfl,hpc⟩:=hs.isS'
   unfold f17_l1_t
   simp (disch:=first|omega|simp only [RO]|(simp only [RZ]<;>omega)|fail) only [↓RBp,↓RA,↓reduceIte,Nat.reduceAdd,Nat.reduceMul,Nat.reduceEqDiff,RB,RX,RA2]
   refine app_new (show ElT prog 58 58 5 1 1 (.int .u8 0) from el_58_58) (w0:=w) (hs.ext (by repeat (first|(with_reducible first|refine Sh.eB ?_ _|assumption|exact Sh.eR _|refine Sh.eA ?_ _|refine Sh.eD ?_|refine Sh.eT ?_ (by assumption))|exact Sh.eR _))) (hf.ext (by repeat (first|(with_reducible first|refine Sh.eB ?_ _|assumption|exact Sh.eR _|refine Sh.eA ?_ _|refine Sh.eD ?_|refine Sh.eT ?_ (by assumption))|exact Sh.eR _))) nv (m:=1) (news:= [.int .u8 ((64:Nat):Int)]) rfl ?_ rfl (by omega) (by omega) (by omega) (fun v' w4 hsp hf4 n4 hfr4 hb4=> ?_)
   ·intro j u hj
    obtain ⟨rfl,rfl⟩:=one_get hj
    simp (disch:=first|omega|simp only [RO]|(simp only [RZ]<;>omega)|fail) only [↓RBp,↓RA,↓reduceIte,Nat.reduceAdd,Nat.reduceMul,Nat.reduceEqDiff,RB,RX,RA2]
   simp (disch:=first|omega|simp only [RO]|(simp only [RZ]<;>omega)|fail) only [↓RBp,↓RA,↓reduceIte,Nat.reduceAdd,Nat.reduceMul,Nat.reduceEqDiff,RB,RX,RA2]
   apply hE
   ·refine ⟨i+1,by simp,by omega,?_,hf4,n4⟩
    rw [List.replicate_succ',u8L,List.map_append]
    exact hsp
   ·simp [intOf];omega
  ·have:i=L.length:=by omega
   subst this
   have lr:(u8L (List.replicate L.length 64)).length=L.length:=by simp
   have hkv:RdS w1.heap.size w1 x (u8L (List.replicate L.length 64)):=RdS.of_sl22 (by rw [lr];exact hs)
   unfold f17_l1_t
   simp (disch:=first|omega|simp only [RO]|(simp only [RZ]<;>omega)|fail) only [↓RBp,↓RA,↓reduceIte,Nat.reduceAdd,Nat.reduceMul,Nat.reduceEqDiff,RB,RX,RA2]
   exact pl_k3 (p.ext e1) hx (hL.ext e1) (hM.ext e1) lL lM hkv (Nat.le_trans hm e1.size) hk (hC.ext e1) (hX.ext e1) nX K (fun w' Y' D' f' v' sl' a' p' x' c'=>hK w' Y' D' f' v' sl' ((AStp.of_ext Y b e1).trans a') p' x' c')
end
section
variable {w0 w w':World} {Y Y':Lay} {D D':DS} {S b o cp n X C k m:Nat} {f f':Nat→Int×Int×Bool} {v tv dv:Value} {sl:Nat→Value} {kd:Nat} {th cl ch:Int} {on:Bool} {c:Int}
theorem PlK.ext {K:K1} (h:PlK w0 w Y D S b o cp n K) (e:Ext w w'):PlK w0 w' Y D S b o cp n K:=fun w2 Y' D' f' v' sl' a' p' x' c'=>h w2 Y' D' f' v' sl' ((AStp.of_ext Y b e).trans a') p' x' c'
theorem pl_k15 (p:PlA w0 w Y D S b o cp n f v sl) (hx:D.exe<100000000) {L M:List Int} (hL:RdS m w tv (i64L L)) (hM:RdS m w dv (i64L M)) (hm:m≤w.heap.size) (lL:L.length≤maxLen) (lM:M.length≤maxLen) (r5:kd%6=5)
  (hX:Cells w X 52 7 (acF kd th cl ch on tv dv)) (nX:¬Y.F X) (K:K1) (hK:PlK w0 w Y D S b o cp n K):
  f17_k1 K (.pointer (some ⟨Y.tb 0,0,none⟩)) (stV S) v (.pointer (some ⟨X,0,none⟩)) (.int .i64 (lnI ch)) w:=by
 have hlt:=p.r.lt
 have n5:=p.n5
 have n0:=p.a.n0
 have hG:Glob w:=p.a.gl.ext p.a.L.ex
 have q0:w.cell? ⟨X,0,none⟩=some (.int .u8 (kd:Int)):=hX.cell (i:=0) (by omega)
 have q3:w.cell? ⟨X,3,none⟩=some (.int .i64 ch):=hX.cell (i:=3) (by omega)
 have ltX:=hX.lt
 have hml:maxLen<9223372036854775808:=by decide
 have q5:∃la lc,w.cell? ⟨X,5,none⟩=some (.slice la L.length lc):=by
  obtain ⟨la,lc,e,_⟩:=id hL
  refine ⟨la,lc,?_⟩
  have:=hX.cell (i:=5) (by omega)
  rw [show (i64L L).length=L.length by simp] at e
  rw [←e];exact this
 have q6:∃la lc,w.cell? ⟨X,6,none⟩=some (.slice la M.length lc):=by
  obtain ⟨la,lc,e,_⟩:=id hM
  refine ⟨la,lc,?_⟩
  have:=hX.cell (i:=6) (by omega)
  rw [show (i64L M).length=M.length by simp] at e
  rw [←e];exact this
 obtain ⟨la,lc,q5⟩:=q5
 obtain ⟨ma,mc,q6⟩:=q6
 by_cases hb:0≤ch∧ch<n∧L.length≤70∧M.length≤70
 ·obtain ⟨k,rfl⟩:∃k:Nat,ch=(k:Int):=⟨ch.toNat,by omega⟩
  have hk:k<n:=by omega
  rw [lnI_at hk n5]
  have hag:=p.r.ag k hk
  obtain ⟨wb,wo,wc,g,q,cq,ev,gl,c0,c1,hw,hsk,hsl,hhead⟩:=p.r.agm p.m k hk
  have hop:∀(w1:World) (K:K1),Ext w w1→(∀w',Ext w1 w'→K (if (f k).1<0 then .tuple #[chZ,.int .i64 8] else .tuple #[chV Y (3+32*k) (f k).1 (f k).2.1 (gX (wd D (3+32*k) 0)),.int .i64 0]) w')→callS prog 23 #[thV Y,.int .i64 ((3+32*k:Nat):Int)] w1 K:=fun w1 K e hK=>k_OpenAt (p.a.L.dv.ext e) p.r.gd (hG.ext e) p.r.on.off p.r.on.err (3+32*k) (by omega) hag.1 K (fun w' e'=>by rw [←hag.2.1,←hag.2.2];exact hK w' e')
  have nk:((k:Nat):Int)<(n:Int):=by omega
  have pv:PlA w0 w Y D S b o cp n f (.slice (some ⟨g,q,none⟩) n cq) sl:=by rw [←ev];exact p
  clear p
  subst ev
  unfold thV at hop
  by_cases hc:(f k).1<0
  ·rw [if_pos hc] at hop
   rw [f17_k1_eq]
   unfold f17_k1_t
   simp (disch:=first|omega|simp only [RO]|(simp only [RZ]<;>omega)|fail) only [↓RBp,↓RA,↓reduceIte,Nat.reduceAdd,Nat.reduceMul,Nat.reduceEqDiff,RB,RX,RA2,q0,q3,q5,q6]
   refine hop _ _ (by repeat (first|(with_reducible first|refine Sh.eB ?_ _|assumption|exact Sh.eR _|refine Sh.eA ?_ _|refine Sh.eD ?_|refine Sh.eT ?_ (by assumption))|exact Sh.eR _)) (fun w1 e1=> ?_)
   have c0:=e1.cell_some c0;have c1:=e1.cell_some c1;have q3:=e1.cell_some q3;have q5:=e1.cell_some q5
   have ltg:=lt_of_cell c0
   have ltX1:=lt_of_cell q3
   simp (disch:=first|omega|simp only [RO]|(simp only [RZ]<;>omega)|fail) only [↓RBp,↓RA,↓reduceIte,Nat.reduceAdd,Nat.reduceMul,Nat.reduceEqDiff,RB,RX,RA2,c0,c1,q3]
   have hC:=Cells.new w1 [Value.nilIface,.int .i64 0,.int .i64 0,.int .i64 0,.int .u16 ((0:Nat):Int)] 69
   have e01:=e1.trans (Ext.alloc_self w1 (.cells [Value.nilIface,.int .i64 0,.int .i64 0,.int .i64 0,.int .u16 ((0:Nat):Int)].toArray 69))
   refine hhead _ _ e01 (fun w2 e2=> ?_)
   have hC:=hC.ext e2
   have e02:=e01.trans e2
   have q5:=((Ext.alloc_self w1 (.cells [Value.nilIface,.int .i64 0,.int .i64 0,.int .i64 0,.int .u16 ((0:Nat):Int)].toArray 69)).trans e2).cell_some q5
   have ltX2:=lt_of_cell q5
   simp (disch:=first|omega|simp only [RO]|(simp only [RZ]<;>omega)|fail) only [↓RBp,↓RA,↓reduceIte,Nat.reduceAdd,Nat.reduceMul,Nat.reduceEqDiff,RB,RX,RA2,q5,beq_self_eq_true]
   exact pl_l1 (pv.ext e02) hx (hL.ext e02) (hM.ext e02) (by omega) (by omega) (Nat.le_trans hm e02.size) hk (hC.congr (fun i hi=>by rw [if_pos hc])) (hX.ext e02) nX K (hK.ext e02)
  ·rw [if_neg hc] at hop
   rw [f17_k1_eq]
   unfold f17_k1_t
   simp (disch:=first|omega|simp only [RO]|(simp only [RZ]<;>omega)|fail) only [↓RBp,↓RA,↓reduceIte,Nat.reduceAdd,Nat.reduceMul,Nat.reduceEqDiff,RB,RX,RA2,q0,q3,q5,q6]
   refine hop _ _ (by repeat (first|(with_reducible first|refine Sh.eB ?_ _|assumption|exact Sh.eR _|refine Sh.eA ?_ _|refine Sh.eD ?_|refine Sh.eT ?_ (by assumption))|exact Sh.eR _)) (fun w1 e1=> ?_)
   have c0:=e1.cell_some c0;have c1:=e1.cell_some c1;have q3:=e1.cell_some q3;have q5:=e1.cell_some q5
   have ltg:=lt_of_cell c0
   have ltX1:=lt_of_cell q3
   simp (disch:=first|omega|simp only [RO]|(simp only [RZ]<;>omega)|fail) only [↓RBp,↓RA,↓reduceIte,Nat.reduceAdd,Nat.reduceMul,Nat.reduceEqDiff,RB,RX,RA2,c0,c1,q3]
   have hC:=Cells.new w1 [Value.iface 25 (.pointer (some ⟨Y.tb 0,0,none⟩)),.int .i64 ((3+32*k:Nat):Int),.int .i64 (f k).1,.int .i64 (f k).2.1,.int .u16 (gX (wd D (3+32*k) 0):Int)] 69
   have e01:=e1.trans (Ext.alloc_self w1 (.cells [Value.iface 25 (.pointer (some ⟨Y.tb 0,0,none⟩)),.int .i64 ((3+32*k:Nat):Int),.int .i64 (f k).1,.int .i64 (f k).2.1,.int .u16 (gX (wd D (3+32*k) 0):Int)].toArray 69))
   refine hhead _ _ e01 (fun w2 e2=> ?_)
   have hC:=hC.ext e2
   have e02:=e01.trans e2
   have q5:=((Ext.alloc_self w1 (.cells [Value.iface 25 (.pointer (some ⟨Y.tb 0,0,none⟩)),.int .i64 ((3+32*k:Nat):Int),.int .i64 (f k).1,.int .i64 (f k).2.1,.int .u16 (gX (wd D (3+32*k) 0):Int)].toArray 69)).trans e2).cell_some q5
   have ltX2:=lt_of_cell q5
   simp (disch:=first|omega|simp only [RO]|(simp only [RZ]<;>omega)|fail) only [↓RBp,↓RA,↓reduceIte,Nat.reduceAdd,Nat.reduceMul,Nat.reduceEqDiff,RB,RX,RA2,q5,beq_self_eq_true]
   exact pl_l1 (pv.ext e02) hx (hL.ext e02) (hM.ext e02) (by omega) (by omega) (Nat.le_trans hm e02.size) hk (hC.congr (fun i hi=>by rw [if_neg hc];rfl)) (hX.ext e02) nX K (hK.ext e02)
 ·have kend:=hK w Y D f v sl (AStp.of_ext Y b (Ext.refl _)) p (by omega) (fun h=>h)
  obtain ⟨va,vc,ev,_⟩:=p.m.m.isS'
  clear hX hL hM hm hK p
  subst ev
  rw [f17_k1_eq]
  unfold f17_k1_t
  by_cases h1:ch<0
  ·simp (disch:=first|omega|simp only [RO]|(simp only [RZ]<;>omega)|fail) only [↓RBp,↓RA,↓reduceIte,Nat.reduceAdd,Nat.reduceMul,Nat.reduceEqDiff,RB,RX,RA2,q0,q3,q5,q6]
   exact kend
  ·by_cases h2:(n:Int)≤ch
   ·simp (disch:=first|omega|simp only [RO]|(simp only [RZ]<;>omega)|fail) only [↓RBp,↓RA,↓reduceIte,Nat.reduceAdd,Nat.reduceMul,Nat.reduceEqDiff,RB,RX,RA2,q0,q3,q5,q6]
    exact kend
   ·by_cases h3:70<L.length
    ·simp (disch:=first|omega|simp only [RO]|(simp only [RZ]<;>omega)|fail) only [↓RBp,↓RA,↓reduceIte,Nat.reduceAdd,Nat.reduceMul,Nat.reduceEqDiff,RB,RX,RA2,q0,q3,q5,q6]
     exact kend
    ·have h4:70<M.length:=by omega
     simp (disch:=first|omega|simp only [RO]|(simp only [RZ]<;>omega)|fail) only [↓RBp,↓RA,↓reduceIte,Nat.reduceAdd,Nat.reduceMul,Nat.reduceEqDiff,RB,RX,RA2,q0,q3,q5,q6]
     exact kend
theorem pl_k1 (p:PlA w0 w Y D S b o cp n f v sl) (hx:D.exe<100000000) {L M:List Int} (hL:RdS m w tv (i64L L)) (hM:RdS m w dv (i64L M)) (hm:m≤w.heap.size) (lL:L.length≤maxLen) (lM:M.length≤maxLen) (hkd:kd<256)
  (hX:Cells w X 52 7 (acF kd th cl ch on tv dv)) (nX:¬Y.F X) (K:K1) (hK:PlK w0 w Y D S b o cp n K) (z:Int) (hz:lnI ch=z):
  f17_k1 K (.pointer (some ⟨Y.tb 0,0,none⟩)) (stV S) v (.pointer (some ⟨X,0,none⟩)) (.int .i64 z) w:=by
 subst hz
 have hlt:=p.r.lt
 have n5:=p.n5
 have n0:=p.a.n0
 have hG:Glob w:=p.a.gl.ext p.a.L.ex
 have q0:w.cell? ⟨X,0,none⟩=some (.int .u8 (kd:Int)):=hX.cell (i:=0) (by omega)
 have q3:w.cell? ⟨X,3,none⟩=some (.int .i64 ch):=hX.cell (i:=3) (by omega)
 have q4:w.cell? ⟨X,4,none⟩=some (.bool on):=hX.cell (i:=4) (by omega)
 have ltX:=hX.lt
 have hml:maxLen<9223372036854775808:=by decide
 by_cases r3:kd%6=3
 ·rw [f17_k1_eq]
  unfold f17_k1_t
  simp (disch:=first|omega|simp only [RO]|(simp only [RZ]<;>omega)|fail) only [↓RBp,↓RA,↓reduceIte,Nat.reduceAdd,Nat.reduceMul,Nat.reduceEqDiff,RB,RX,RA2,q0,q3]
  exact pl_rel p hx K hK
 ·by_cases r4:kd%6=4
  ·rw [f17_k1_eq]
   unfold f17_k1_t
   simp (disch:=first|omega|simp only [RO]|(simp only [RZ]<;>omega)|fail) only [↓RBp,↓RA,↓reduceIte,Nat.reduceAdd,Nat.reduceMul,Nat.reduceEqDiff,RB,RX,RA2,q0,q3,q4]
   refine pl_hold p hx K hK _ (fun w' v' e e1 hh=> ?_)
   have q4:=e1.cell_some q4
   have ltX:=lt_of_cell q4
   simp (disch:=first|omega|simp only [RO]|(simp only [RZ]<;>omega)|fail) only [↓RBp,↓RA,↓reduceIte,Nat.reduceAdd,Nat.reduceMul,Nat.reduceEqDiff,RB,RX,RA2,q4]
   exact hh
  ·by_cases r5:kd%6=5
   ·exact pl_k15 p hx hL hM hm lL lM r5 hX nX K hK
   ·rw [f17_k1_eq]
    unfold f17_k1_t
    simp (disch:=first|omega|simp only [RO]|(simp only [RZ]<;>omega)|fail) only [↓RBp,↓RA,↓reduceIte,Nat.reduceAdd,Nat.reduceMul,Nat.reduceEqDiff,RB,RX,RA2,q0]
    exact pl_k2 p hx hX K hK
end
section
variable {w0 w w':World} {Y Y':Lay} {D D':DS} {S b o cp n X C k m:Nat} {f f':Nat→Int×Int×Bool} {v tv dv:Value} {sl:Nat→Value}
abbrev acV (d:ActD) (tv dv:Value):Value:= .agg #[.int .u8 (d.kd:Int),.int .i64 d.th,.int .i64 d.cl,.int .i64 d.ch,.bool d.on,tv,dv]
theorem k_play (p:PlA w0 w Y D S b o cp n f v sl) (hx:D.exe<100000000) {d:ActD} (ok:actOk7 d) (hL:RdS m w tv (i64L d.L)) (hM:RdS m w dv (i64L d.M)) (hm:m≤w.heap.size) (K:K1) (hK:PlK w0 w Y D S b o cp n K) {T:Nat} (hT:Y.tb 0=T):
  callS prog 17 #[.pointer (some ⟨T,0,none⟩),stV S,v,acV d tv dv] w K:=by
 subst hT
 obtain ⟨kd,th,cl,ch,on,L,M⟩:=d
 obtain ⟨o1,o2,o3⟩:=ok
 simp only at o1 o2 o3 hL hM
 have hC:=Cells.new w [Value.int .u8 (kd:Int),.int .i64 th,.int .i64 cl,.int .i64 ch,.bool on,tv,dv] 52
 have hX:Cells (w.alloc (.cells [Value.int .u8 (kd:Int),.int .i64 th,.int .i64 cl,.int .i64 ch,.bool on,tv,dv].toArray 52)) w.heap.size 52 7 (acF kd th cl ch on tv dv):=hC
 have q3:=hX.cell (i:=3) (by omega)
 have q3:(w.alloc (.cells [Value.int .u8 (kd:Int),.int .i64 th,.int .i64 cl,.int .i64 ch,.bool on,tv,dv].toArray 52)).cell? ⟨w.heap.size,3,none⟩=some (.int .i64 ch):=q3
 have e0:Ext w (w.alloc (.cells [Value.int .u8 (kd:Int),.int .i64 th,.int .i64 cl,.int .i64 ch,.bool on,tv,dv].toArray 52)):=Ext.alloc_self _ _
 have nX:¬Y.F w.heap.size:=fun h=>by have:=p.a.L.dv.lt h;omega
 have go:=fun z hz=>pl_k1 (p.ext e0) hx (hL.ext e0) (hM.ext e0) (Nat.le_trans hm e0.size) o2 o3 o1 hX nX K (hK.ext e0) z hz
 refine f17_call _ _ _ _ _ _ ?_
 unfold f17_t
 by_cases h0:0≤ch
 ·by_cases h1:ch<100
  ·simp (disch:=first|omega|simp only [RO]|(simp only [RZ]<;>omega)|fail) only [↓RBp,↓RA,↓reduceIte,Nat.reduceAdd,Nat.reduceMul,Nat.reduceEqDiff,RB,RX,RA2]
   exact go _ (by unfold lnI;rw [if_pos (by omega)])
  ·simp (disch:=first|omega|simp only [RO]|(simp only [RZ]<;>omega)|fail) only [↓RBp,↓RA,↓reduceIte,Nat.reduceAdd,Nat.reduceMul,Nat.reduceEqDiff,RB,RX,RA2]
   exact go _ (by unfold lnI;rw [if_neg (by omega)])
 ·simp (disch:=first|omega|simp only [RO]|(simp only [RZ]<;>omega)|fail) only [↓RBp,↓RA,↓reduceIte,Nat.reduceAdd,Nat.reduceMul,Nat.reduceEqDiff,RB,RX,RA2]
  exact go _ (by unfold lnI;rw [if_neg (by omega)])
end
section
variable {w0 w w':World} {Y Y':Lay} {D D' D1 D2 DF:DS} {S b o cp n m T Q X g C i:Nat} {f f' f2:Nat→Int×Int×Bool} {v:Value} {P:List Nat} {c t:Int} {sl:Nat→Value}
theorem clr_len (l g:Nat):(clrI l g).length≤10:=by
 have:=storesI_le [(l*64,sealN (hdX (-1) (-1) g))]
 unfold clrI
 simp only [List.length_singleton] at this
 omega
theorem cl_exe {rr e:Int} (c0:0≤c) (c5:c<5) (hr:ClRes D1 3 n f c t D2 f2 rr e):D2.exe≤D1.exe+500∧D2.n=D1.n:=by
 rcases hr with ⟨k,_,_,_,rfl,_⟩|⟨_,k,g,D3,_,_,_,rfl,hr⟩|⟨_,_,rfl,_⟩
 ·have h1:=run_exe 0 (planI (3+32*k) c t (gX (wd D1 (3+32*k) 0))) D1
  have h2:=plan_len (3+32*k) c0 c5 t (gX (wd D1 (3+32*k) 0))
  exact ⟨by omega,run_n 0 _ _⟩
 ·have h1:=run_exe 0 (clrI (3+32*k) g) D1
  have h2:=clr_len (3+32*k) g
  rcases hr with ⟨_,rfl,_⟩|⟨_,rfl,_⟩
  ·exact ⟨by omega,run_n 0 _ _⟩
  ·have h3:=run_exe 0 (planI (3+32*k) c t g) (D1.run 0 (clrI (3+32*k) g))
   have h4:=plan_len (3+32*k) c0 c5 t g
   exact ⟨by omega,by rw [run_n,run_n]⟩
 ·exact ⟨by omega,rfl⟩
theorem rl_exe {k:Nat} {e:Int} (hr:RlRes D1 3 f k D2 f2 e):D2.exe≤D1.exe+500∧D2.n=D1.n:=by
 rcases hr with ⟨_,rfl,_⟩|⟨g,_,rfl,_⟩
 ·exact ⟨by omega,rfl⟩
 ·have h1:=run_exe 0 (clrI (3+32*k) g) D1
  have h2:=clr_len (3+32*k) g
  exact ⟨by omega,run_n 0 _ _⟩
theorem ct_k2 (a:ArS w0 w Y D S b o cp 3 n f) (r:RgS D 3 n f) (hcl:Cln D.co) (hx:D.exe≤100000) (n5:n≤5) (hQ:Y.d=Q) (hs:SlO w 73 1 v (lvA D f n).length (ptL (lvA D f n))) (ov:OvA w0 Y b S v)
  {d:ActD} {tv dv xu:Value} {N:Nat} (hN:N<256) (hX:Cells w0 X 86 9 (cuF d tv dv N xu)) {La Lb:List Value} (rL:RdS m w0 tv La) (rM:RdS m w0 dv Lb) {us:List Nat} (hus:RdS m w0 xu (u8L us)) (hu8:∀x∈us,x<256) (hul:us.length≤20) (K:K1) (hK:∀w',Ext w0 w'→K (.bool true) w'):
  f7_k2 K (.pointer (some ⟨X,0,none⟩)) (.int .i64 (n:Int)) (.pointer (some ⟨Q,0,none⟩)) (stV S) v w:=by
 have n0:=a.n0
 have hlt:=r.lt
 have hgd:=r.gd
 obtain ⟨ta,tn,tc,rfl⟩:∃ta tn tc,tv= .slice ta tn tc:=by obtain ⟨a,c,e,_⟩:=id rL;exact ⟨_,_,_,e⟩
 obtain ⟨da,dn,dc,rfl⟩:∃ta tn tc,dv= .slice ta tn tc:=by obtain ⟨a,c,e,_⟩:=id rM;exact ⟨_,_,_,e⟩
 have hco:=arm_co D N r.on.off
 have hag:=arm_good hgd N (by omega)
 have her:(D.arm (N:Int)).err 0=0:=by
  have h:=r.on.err
  unfold DS.arm
  split
  ·exact h
  ·exact h
 have A:ArmO D (D.arm (N:Int)):=⟨by rw [hco.1];exact hcl,hco.2.1,her,hag,hco.2.2.1,hco.2.2.2.1⟩
 have hxa:(D.arm (N:Int)).exe≤100000:=by rw [hco.2.2.2.2];exact hx
 have ag1:AgF (D.arm (N:Int)) 3 n f:=fun k hk=>by rw [A.wd];exact r.ag k hk
 have x7:w.cell? ⟨X,7,none⟩=some (.int .u8 (N:Int)):=a.L.ex.cell_some (hX.cell (i:=7) (by omega))
 have ltX:=lt_of_cell x7
 have arm:∀K:K1,(∀w',Stp w Y w' Y (D.arm (N:Int))→K (.tuple #[]) w')→callS prog 34 #[.pointer (some ⟨Q,0,none⟩),.int .i64 (N:Int)] w K:=fun K hK=>by
  subst hQ
  exact k_Arm a.L.dv (N:Int) K hK
 have a1':=fun w1 (st:Stp w Y w1 Y (D.arm (N:Int)))=>a.step st hag A.n
 have nA:=A.n
 generalize D.arm (N:Int)=D1 at*
 have fin:∀(w2:World) (Y2:Lay) (D2:DS),Lv w0 w2 Y2 D2→Y2.d=Q→D2.exe≤D1.exe+500∧D2.n=D1.n→(∀F,ImgW D2 F→∀j,j<n→ChI (imD D.n F) D f j)→SlO w2 73 1 v (lvA D f n).length (ptL (lvA D f n))→f7_k3 K (.pointer (some ⟨X,0,none⟩)) (.int .i64 (n:Int)) (.pointer (some ⟨Q,0,none⟩)) v w2:=fun w2 Y2 D2 L2 hQ2 hxn hI hs2=>
  ct_k3 L2 a.gl (by omega) hQ2 r n0 n5 (by omega) hI hs2 hX hus hu8 hul K hK
 rw [f7_k2_eq]
 unfold f7_k2_t
 simp (disch:=first|omega|simp only [RO]|(simp only [RZ]<;>omega)|fail) only [↓RBp,↓RA,↓reduceIte,Nat.reduceAdd,Nat.reduceMul,Nat.reduceEqDiff,RB,RX,RA2,x7]
 refine arm _ (fun w1 st1=> ?_)
 have a1:=a1' w1 st1
 have hs1:=hs.frm st1.frm (fun x hx=>(ov x hx).2.1)
 have x0:w1.cell? ⟨X,0,none⟩=some (.int .u8 (d.kd:Int)):=a1.L.ex.cell_some (hX.cell (i:=0) (by omega))
 have x1:w1.cell? ⟨X,1,none⟩=some (.int .i64 d.th):=a1.L.ex.cell_some (hX.cell (i:=1) (by omega))
 have x2:w1.cell? ⟨X,2,none⟩=some (.int .i64 d.cl):=a1.L.ex.cell_some (hX.cell (i:=2) (by omega))
 have x3:w1.cell? ⟨X,3,none⟩=some (.int .i64 d.ch):=a1.L.ex.cell_some (hX.cell (i:=3) (by omega))
 have x4:w1.cell? ⟨X,4,none⟩=some (.bool d.on):=a1.L.ex.cell_some (hX.cell (i:=4) (by omega))
 have x5:w1.cell? ⟨X,5,none⟩=some (.slice ta tn tc):=a1.L.ex.cell_some (hX.cell (i:=5) (by omega))
 have x6:w1.cell? ⟨X,6,none⟩=some (.slice da dn dc):=a1.L.ex.cell_some (hX.cell (i:=6) (by omega))
 have ltX1:=lt_of_cell x0
 obtain ⟨kd,th,cc,ch,oo,L,M⟩:=d
 simp only at x0 x1 x2 x3 x4
 by_cases hk:kd%2=0
 ·by_cases hb:0≤th∧th<8∧0≤cc∧cc<5
  ·simp (disch:=first|omega|simp only [RO]|(simp only [RZ]<;>omega)|fail) only [↓RBp,↓RA,↓reduceIte,Nat.reduceAdd,Nat.reduceMul,Nat.reduceEqDiff,RB,RX,RA2,x0,x1,x2,x3,x4,x5,x6,List.getElem?_toArray,List.getElem?_cons_succ,List.getElem?_cons_zero,Option.isSome_some,Bool.and_self,List.setIfInBounds_toArray,List.set_cons_succ,List.set_cons_zero]
   refine k_Claim (a1.ext (by repeat (first|(with_reducible first|refine Sh.eB ?_ _|assumption|exact Sh.eR _|refine Sh.eA ?_ _|refine Sh.eD ?_|refine Sh.eT ?_ (by assumption))|exact Sh.eR _))) ag1 A.off A.err (by omega) hb.1 hb.2.1 hb.2.2.1 hb.2.2.2 _ (fun D2 f2 rr e hr w2 Y2 a2 h2=> ?_)
   exact fin w2 Y2 D2 h2.L (a2.d.trans hQ) (cl_exe hb.2.2.1 hb.2.2.2 hr) (fun F hF j hj=>cut_cl A r hb.2.2.1 hb.2.2.2 hb.1 hb.2.1 hr hF hj) ((hs1.ext (by repeat (first|(with_reducible first|refine Sh.eB ?_ _|assumption|exact Sh.eR _|refine Sh.eA ?_ _|refine Sh.eD ?_|refine Sh.eT ?_ (by assumption))|exact Sh.eR _))).frm a2.frm (fun x hx hf=>by
    rcases hf with hf|hf
    ·exact (ov x hx).2.1 hf
    ·exact (ov x hx).2.2.1 hf))
  ·simp (disch:=first|omega|simp only [RO]|(simp only [RZ]<;>omega)|fail) only [↓RBp,↓RA,↓reduceIte,Nat.reduceAdd,Nat.reduceMul,Nat.reduceEqDiff,RB,RX,RA2,x0,x1,x2,x3,x4,x5,x6,List.getElem?_toArray,List.getElem?_cons_succ,List.getElem?_cons_zero,Option.isSome_some,Bool.and_self,List.setIfInBounds_toArray,List.set_cons_succ,List.set_cons_zero]
   refine k_ClaimBad (a1.ext (by repeat (first|(with_reducible first|refine Sh.eB ?_ _|assumption|exact Sh.eR _|refine Sh.eA ?_ _|refine Sh.eD ?_|refine Sh.eT ?_ (by assumption))|exact Sh.eR _))) hb _ (fun w2 e2=> ?_)
   have e12:Ext w1 w2:=Ext.trans (by repeat (first|(with_reducible first|refine Sh.eB ?_ _|assumption|exact Sh.eR _|refine Sh.eA ?_ _|refine Sh.eD ?_|refine Sh.eT ?_ (by assumption))|exact Sh.eR _)) e2
   exact fin w2 Y D1 (a1.ext e12).L hQ ⟨by omega,rfl⟩ (fun F hF j hj=>cut_none A r hF hj) (hs1.ext e12)
 ·obtain ⟨q,hq⟩:∃q:Nat,ch%4=(q:Int):=⟨(ch%4).toNat,by omega⟩
  have e32:(32:Int)*(q:Int)=((32*q:Nat):Int):=by omega
  have e3:(3:Int)+32*(q:Int)=((3+32*q:Nat):Int):=by omega
  have e4:(3:Int)+((32*q:Nat):Int)=((3+32*q:Nat):Int):=by omega
  have q4:q<4:=by omega
  have hand:=fun x y w (k:K1)=>ev_and3 prog 3 x y ch w k
  rw [hq] at hand
  clear hq
  by_cases hqn:q<n
  ·simp (disch:=first|omega|simp only [RO]|(simp only [RZ]<;>omega)|fail) only [↓RBp,↓RA,↓reduceIte,Nat.reduceAdd,Nat.reduceMul,Nat.reduceEqDiff,RB,RX,RA2,x0,x1,x2,x3,x4,x5,x6,List.getElem?_toArray,List.getElem?_cons_succ,List.getElem?_cons_zero,Option.isSome_some,Bool.and_self,List.setIfInBounds_toArray,List.set_cons_succ,List.set_cons_zero,hand,e32,e3,e4]
   refine k_Release (a1.ext (by repeat (first|(with_reducible first|refine Sh.eB ?_ _|assumption|exact Sh.eR _|refine Sh.eA ?_ _|refine Sh.eD ?_|refine Sh.eT ?_ (by assumption))|exact Sh.eR _))) ag1 hqn A.off A.err (by omega) _ (fun D2 f2 e hr w2 Y2 a2 h2=> ?_)
   exact fin w2 Y2 D2 h2.L (a2.d.trans hQ) (rl_exe hr) (fun F hF j hj=>cut_rl A r hqn hr hF hj) ((hs1.ext (by repeat (first|(with_reducible first|refine Sh.eB ?_ _|assumption|exact Sh.eR _|refine Sh.eA ?_ _|refine Sh.eD ?_|refine Sh.eT ?_ (by assumption))|exact Sh.eR _))).frm a2.frm (fun x hx hf=>by
    rcases hf with hf|hf
    ·exact (ov x hx).2.1 hf
    ·exact (ov x hx).2.2.1 hf))
  ·simp (disch:=first|omega|simp only [RO]|(simp only [RZ]<;>omega)|fail) only [↓RBp,↓RA,↓reduceIte,Nat.reduceAdd,Nat.reduceMul,Nat.reduceEqDiff,RB,RX,RA2,x0,x1,x2,x3,x4,x5,x6,List.getElem?_toArray,List.getElem?_cons_succ,List.getElem?_cons_zero,Option.isSome_some,Bool.and_self,List.setIfInBounds_toArray,List.set_cons_succ,List.set_cons_zero,hand,e32,e3,e4]
   refine k_ReleaseNo (a1.ext (by repeat (first|(with_reducible first|refine Sh.eB ?_ _|assumption|exact Sh.eR _|refine Sh.eA ?_ _|refine Sh.eD ?_|refine Sh.eT ?_ (by assumption))|exact Sh.eR _))) (fun k hk=>by omega) _ (fun w2 e2=> ?_)
   have e12:Ext w1 w2:=Ext.trans (by repeat (first|(with_reducible first|refine Sh.eB ?_ _|assumption|exact Sh.eR _|refine Sh.eA ?_ _|refine Sh.eD ?_|refine Sh.eT ?_ (by assumption))|exact Sh.eR _)) e2
   exact fin w2 Y D1 (a1.ext e12).L hQ ⟨by omega,rfl⟩ (fun F hF j hj=>cut_none A r hF hj) (hs1.ext e12)
end
section
variable {w0 w w':World} {Y Y':Lay} {D D' D1 D2 DF:DS} {S b o cp n m mm T Q X g C i:Nat} {f f' f2:Nat→Int×Int×Bool} {v:Value} {P:List Nat} {c t:Int} {sl:Nat→Value}
theorem ct_l1 (p:PlA w0 w Y D S b o cp n f v sl) (hT:Y.tb 0=T) (hQ:Y.d=Q) (hx:D.exe≤1000) (hc:Cln D.co) {va:Value} {al:List ActD} (hal:ActsR7 m w0 va al) (hm:m≤w0.heap.size) (hok:∀x∈al,actOk7 x) (hln:al.length≤12)
  {d:ActD} {tv dv xu:Value} {N:Nat} (hN:N<256) (hX:Cells w0 X 86 9 (cuF d tv dv N xu)) {La Lb:List Value} (rL:RdS mm w0 tv La) (rM:RdS mm w0 dv Lb) {us:List Nat} (hus:RdS mm w0 xu (u8L us)) (hu8:∀x∈us,x<256) (hul:us.length≤20) (K:K1) (hK:∀w',Ext w0 w'→K (.bool true) w'):
  f7_l1 K (.pointer (some ⟨X,0,none⟩)) (.int .i64 (n:Int)) (.pointer (some ⟨Q,0,none⟩)) (.pointer (some ⟨T,0,none⟩)) (stV S) v va (.int .i64 (al.length:Int)) (.int .i64 0) w:=by
 obtain ⟨aa,ac,rfl,hg⟩:=hal
 apply f7_l1_rule (I:=fun x z w'=>∃(j:Nat) (Y':Lay) (D':DS) (f':Nat→Int×Int×Bool) (sl':Nat→Value),z= .int .i64 (j:Int)∧j≤al.length∧PlA w0 w' Y' D' S b o cp n f' x sl'∧Y'.tb 0=T∧Y'.d=Q∧D'.exe≤1000+1000*j∧Cln D'.co) (μ:=fun _ z _=>al.length-(intOf z).toNat)
 ·exact ⟨0,Y,D,f,sl,rfl,by omega,p,hT,hQ,by omega,hc⟩
 ·intros;rename_i x z w1 hI E1 hE
  obtain ⟨j,Y1,D1,f1,sl1,rfl,hj,p1,hT1,hQ1,hx1,hc1⟩:=hI
  by_cases hjl:j<al.length
  ·obtain ⟨d,hd⟩:∃d,al[j]? =some d:=⟨_,List.getElem?_eq_getElem hjl⟩
   obtain ⟨bb,oo,tv,dv,rfl,hbm,hc,rL,rM⟩:=hg j d hd
   have dok:=hok d (List.mem_of_getElem? hd)
   have ex:=p1.a.L.ex
   have s0:w1.cell? ⟨bb,oo+j*7,none⟩=some (.int .u8 (d.kd:Int)):=ex.cell_some (hc 0 (by omega))
   have s1:w1.cell? ⟨bb,oo+j*7+1,none⟩=some (.int .i64 d.th):=ex.cell_some (hc 1 (by omega))
   have s2:w1.cell? ⟨bb,oo+j*7+2,none⟩=some (.int .i64 d.cl):=ex.cell_some (hc 2 (by omega))
   have s3:w1.cell? ⟨bb,oo+j*7+3,none⟩=some (.int .i64 d.ch):=ex.cell_some (hc 3 (by omega))
   have s4:w1.cell? ⟨bb,oo+j*7+4,none⟩=some (.bool d.on):=ex.cell_some (hc 4 (by omega))
   have s5:w1.cell? ⟨bb,oo+j*7+5,none⟩=some tv:=ex.cell_some (hc 5 (by omega))
   have s6:w1.cell? ⟨bb,oo+j*7+6,none⟩=some dv:=ex.cell_some (hc 6 (by omega))
   obtain ⟨ta,tn,tc,rfl⟩:∃ta tn tc,tv= .slice ta tn tc:=by obtain ⟨a,c,e,_⟩:=id rL;exact ⟨_,_,_,e⟩
   obtain ⟨da,dn,dc,rfl⟩:∃ta tn tc,dv= .slice ta tn tc:=by obtain ⟨a,c,e,_⟩:=id rM;exact ⟨_,_,_,e⟩
   have lts:=lt_of_cell s0
   have les:=ex.size
   unfold f7_l1_t
   simp (disch:=first|omega|simp only [RO]|(simp only [RZ]<;>omega)|fail) only [↓RBp,↓RA,↓reduceIte,Nat.reduceAdd,Nat.reduceMul,Nat.reduceEqDiff,RB,RX,RA2,s0,s1,s2,s3,s4,s5,s6,List.getElem?_toArray,List.getElem?_cons_succ,List.getElem?_cons_zero,Option.isSome_some,Bool.and_self,List.setIfInBounds_toArray,List.set_cons_succ,List.set_cons_zero]
   refine k_play (d:=d) (m:=m) (p1.ext (by repeat (first|(with_reducible first|refine Sh.eB ?_ _|assumption|exact Sh.eR _|refine Sh.eA ?_ _|refine Sh.eD ?_|refine Sh.eT ?_ (by assumption))|exact Sh.eR _))) (by omega) dok (rL.ext (ex.trans (by repeat (first|(with_reducible first|refine Sh.eB ?_ _|assumption|exact Sh.eR _|refine Sh.eA ?_ _|refine Sh.eD ?_|refine Sh.eT ?_ (by assumption))|exact Sh.eR _)))) (rM.ext (ex.trans (by repeat (first|(with_reducible first|refine Sh.eB ?_ _|assumption|exact Sh.eR _|refine Sh.eA ?_ _|refine Sh.eD ?_|refine Sh.eT ?_ (by assumption))|exact Sh.eR _)))) (by first|omega|(simp only [RZ];omega)) _ (fun w2 Y2 D2 f2 v2 sl2 a2 p2 x2 hc2=> ?_) hT1
   have hT2:Y2.tb 0=T:=by rw [a2.tb];exact hT1
   have hQ2:Y2.d=Q:=a2.d.trans hQ1
   have ek:(j:Int)+1=((j+1:Nat):Int):=by omega
   simp (disch:=first|omega|simp only [RO]|(simp only [RZ]<;>omega)|fail) only [↓RBp,↓RA,↓reduceIte,Nat.reduceAdd,Nat.reduceMul,Nat.reduceEqDiff,RB,RX,RA2,ek]
   apply hE
   ·exact ⟨j+1,Y2,D2,f2,sl2,rfl,by omega,p2,hT2,hQ2,by omega,hc2 hc1⟩
   ·simp [intOf];omega
  ·have:j=al.length:=by omega
   subst this
   have n5:=p1.n5
   obtain ⟨va,vc,rfl,_⟩:=p1.m.m.isS'
   have fin:=ct_l2 p1.a p1.r n5 hT1 K (.pointer (some ⟨X,0,none⟩)) (.int .i64 (n:Int)) (.pointer (some ⟨Q,0,none⟩)) (stV S) (fun v' w' a' hs' ov'=>ct_k2 a' p1.r hc1 (by omega) n5 hQ1 hs' ov' hN hX rL rM hus hu8 hul K hK)
   unfold f7_l1_t
   simp (disch:=first|omega|simp only [RO]|(simp only [RZ]<;>omega)|fail) only [↓RBp,↓RA,↓reduceIte,Nat.reduceAdd,Nat.reduceMul,Nat.reduceEqDiff,RB,RX,RA2,f7_k1_eq,f7_k1_t]
   exact fin
abbrev cuV (d:ActD) (tv dv:Value) (N:Nat) (xu:Value):Value:= .agg #[.int .u8 (d.kd:Int),.int .i64 d.th,.int .i64 d.cl,.int .i64 d.ch,.bool d.on,tv,dv,.int .u8 (N:Int),xu]
theorem law_cuts22 (hG:Glob w) {nn:Nat} (hnn:nn<256) {va:Value} {al:List ActD} (hal:ActsR7 w.heap.size w va al) (hok:∀x∈al,actOk7 x) (hln:al.length≤maxLen)
  {d:ActD} {tv dv xu:Value} {N:Nat} (hN:N<256) {La Lb:List Value} (rL:RdS w.heap.size w tv La) (rM:RdS w.heap.size w dv Lb) {us:List Nat} (hus:RdS w.heap.size w xu (u8L us)) (hu8:∀x∈us,x<256) (hul:us.length≤maxLen) (K:K1) (hK:∀w',Ext w w'→K (.bool true) w'):
  callS prog 7 #[.int .u8 (nn:Int),va,cuV d tv dv N xu] w K:=by
 have hal0:=hal
 obtain ⟨aa,ac,rfl,_⟩:=hal
 have hus0:=hus
 obtain ⟨ua,uc,rfl,_⟩:=hus
 rw [show (u8L us).length=us.length by simp] at hus0 ⊢
 have hlm:al.length<9223372036854775808:=by unfold maxLen at hln;omega
 have hlu:us.length<9223372036854775808:=by unfold maxLen at hul;omega
 obtain ⟨W1,hW1⟩:∃W1,W1=w.alloc (.cells [Value.int .u8 (d.kd:Int),.int .i64 d.th,.int .i64 d.cl,.int .i64 d.ch,.bool d.on,tv,dv,.int .u8 (N:Int),.slice ua us.length uc].toArray 86):=⟨_,rfl⟩
 have hX:Cells W1 w.heap.size 86 9 (cuF d tv dv N (.slice ua us.length uc)):=by rw [hW1];exact Cells.new w [Value.int .u8 (d.kd:Int),.int .i64 d.th,.int .i64 d.cl,.int .i64 d.ch,.bool d.on,tv,dv,.int .u8 (N:Int),.slice ua us.length uc] 86
 have e0:Ext w W1:=by rw [hW1];exact Ext.alloc_self _ _
 refine f7_call _ _ _ _ _ ?_
 unfold f7_t
 simp (disch:=first|omega|simp only [RO]|(simp only [RZ]<;>omega)|fail) only [↓RBp,↓RA,↓reduceIte,Nat.reduceAdd,Nat.reduceMul,Nat.reduceEqDiff,RB,RX,RA2]
 rw [←hW1]
 refine k_awake22 (hG.ext e0) _ (fun w1 e1=> ?_)
 have e01:=e0.trans e1
 have x8:w1.cell? ⟨w.heap.size,8,none⟩=some (.slice ua us.length uc):=e1.cell_some (hX.cell (i:=8) (by omega))
 have ltX:=lt_of_cell x8
 by_cases h20:12<al.length
 ·simp (disch:=first|omega|simp only [RO]|(simp only [RZ]<;>omega)|fail) only [↓RBp,↓RA,↓reduceIte,Nat.reduceAdd,Nat.reduceMul,Nat.reduceEqDiff,RB,RX,RA2]
  refine k_awake22 (hG.ext e01) _ (fun w2 e2=> ?_)
  exact hK _ (e01.trans e2)
 ·by_cases h21:20<us.length
  ·simp (disch:=first|omega|simp only [RO]|(simp only [RZ]<;>omega)|fail) only [↓RBp,↓RA,↓reduceIte,Nat.reduceAdd,Nat.reduceMul,Nat.reduceEqDiff,RB,RX,RA2,x8]
   refine k_awake22 (hG.ext e01) _ (fun w2 e2=> ?_)
   exact hK _ (e01.trans e2)
  ·obtain ⟨k,hk⟩:∃k,1+nn%4=k:=⟨_,rfl⟩
   have ek:(1:Int)+((nn%4:Nat):Int)=(k:Int):=by omega
   have ek2:(1:Int)+(nn:Int)%4=(k:Int):=by omega
   obtain ⟨hb,hbn,hbx,hbw⟩:=bg_ok (n:=k) (by omega) (by omega)
   have hcl:Cln (bgD k).co:=fmt_cln (On.zero (32*k+5)) (Good.zero (32*k+5) (by omega) (by omega)) (show 3+32*k≤32*k+5 by omega) (cln_zero _) k (Nat.le_refl _)
   simp (disch:=first|omega|simp only [RO]|(simp only [RZ]<;>omega)|fail) only [↓RBp,↓RA,↓reduceIte,Nat.reduceAdd,Nat.reduceMul,Nat.reduceEqDiff,RB,RX,RA2,x8,ek,ek2]
   refine k_begin22 (n:=k) (hG.ext e01) (by omega) (by omega) _ (fun w2 Y S b o cp hS=> ?_)
   have hP:∀x,PF Y b x→x<w2.heap.size:=fun x hx=>by
    rcases hx with hx|hx
    ·exact hS.L.dv.lt hx
    ·have:=hS.ltb;omega
   simp (disch:=first|omega|simp only [RO]|(simp only [RZ]<;>omega)|fail) only [↓RBp,↓RA,↓reduceIte,Nat.reduceAdd,Nat.reduceMul,Nat.reduceEqDiff,RB,RX,RA2,ek,ek2]
   refine k_rFormat22 hP (by omega) (by omega) _ (fun v sl w3 e3 m3=> ?_)
   have p:PlA w1 w3 Y (bgD k) S b o cp k bgF v sl:=⟨hS.ext e3,hb,m3.congr (fun j hj i hi=>(hbw j hj i hi).symm) (fun _ _=>rfl),by omega⟩
   have hal1:ActsR7 w.heap.size w1 (.slice aa al.length ac) al:=hal0.ext e01
   simp (disch:=first|omega|simp only [RO]|(simp only [RZ]<;>omega)|fail) only [↓RBp,↓RA,↓reduceIte,Nat.reduceAdd,Nat.reduceMul,Nat.reduceEqDiff,RB,RX,RA2,ek,ek2]
   exact ct_l1 p rfl rfl (by omega) hcl hal1 e01.size hok (by omega) hN (hX.ext e1) (rL.ext e01) (rM.ext e01) (hus0.ext e01) hu8 (by omega) K (fun w' e'=>hK _ (e01.trans e'))
end
end Go.Proofs.YtifpinhjpbgnoaaGreatDoor
