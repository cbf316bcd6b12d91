/-
  Part 6 of what the proofs of this seat share.
-/
import Derived.Test.YtifpinhjpbgnoaaGreatDoorBs5
import Derived.Test.YtifpinhjpbgnoaaGreatDoorBs4
set_option linter.unusedSimpArgs false
set_option linter.unusedVariables false
set_option maxHeartbeats 4000000
set_option maxRecDepth 100000
open Go.Proofs.Tryz (prog)
namespace Go.Proofs.YtifpinhjpbgnoaaGreatDoor
open Go Go.Sh
def bgD (n:Nat):DS:=fmtD (DS.zero (32*n+5)) 3 n
def bgF (_:Nat):Int×Int×Bool:=(-1,-1,false)
section
variable {w0 w w':World} {Y:Lay} {D D2:DS} {S b o cp l0 n k g:Nat} {f f2:Nat→Int×Int×Bool} {c t:Int}
theorem ArS.fcongr (h:ArS w0 w Y D S b o cp l0 n f) (e:∀k,k<n→f k=f2 k):ArS w0 w Y D S b o cp l0 n f2:=⟨h.L,h.gl,h.st,by have:=h.pl;rwa [plL_congr e] at this,h.nS,h.nb,h.n0,h.lt⟩
theorem fmt_wd (on:On D) (gd:Good D) (hl:l0+32*n≤D.n):∀m,m≤n→∀k,k<n→∀i,i<256→wd (fmtD D l0 m) (l0+32*k) i=if i=0∧k<m then sealN (hdX (-1) (-1) 1) else wd D (l0+32*k) i
 |0,_,k,hk,i,hi=>by rw [if_neg (by omega)];rfl
 |m+1,hm,k,hk,i,hi=>by
  obtain ⟨h1,h2,h3,h4⟩:=fmtD_ok on gd hl m (by omega)
  have ih:=fmt_wd on gd hl m (by omega) k hk i hi
  have cg:=clr_gen h1 h2 (l:=l0+32*m) (g:=1) (by omega) (by omega)
  have cc:=clr_cur (l:=l0+32*m) (g:=1) h1.off h1.err (by omega) cg.1.err
  have w1:=fun l'=>wd_one (l':=l') cc.1
  show wd ((fmtD D l0 m).run 0 (clrI (l0+32*m) 1)) (l0+32*k) i=_
  by_cases e:k=m
  ·subst e
   rw [(w1 0).1 i hi,ih]
   by_cases h0:i=0
   ·rw [if_pos h0,if_pos (by omega)]
   ·rw [if_neg h0,if_neg (by omega),if_neg (by omega)]
  ·rw [(w1 (l0+32*k)).2 (by omega) i hi,ih]
   by_cases h0:i=0∧k<m
   ·rw [if_pos h0,if_pos (by omega)]
   ·rw [if_neg h0,if_neg (by omega)]
theorem wd_zero (n l i:Nat):wd (DS.zero n) l i=0:=by
 unfold wd
 show (List.replicate (8*n) 0).getD _ 0=0
 rw [List.getD_eq_getElem?_getD,List.getElem?_replicate]
 split<;>rfl
theorem bg_ok (h0:0<n) (h5:n≤5):RgS (bgD n) 3 n bgF∧(bgD n).n=32*n+5∧(bgD n).exe≤15∧∀k,k<n→∀i,i<256→wd (bgD n) (3+32*k) i=if i=0 then sealN (hdX (-1) (-1) 1) else 0:=by
 have zn:(DS.zero (32*n+5)).n=32*n+5:=rfl
 have hlt:3+32*n≤(DS.zero (32*n+5)).n:=by rw [zn];omega
 obtain ⟨h1,h2,h3,h4⟩:=fmtD_ok (On.zero (32*n+5)) (Good.zero (32*n+5) (by omega) (by omega)) hlt n (Nat.le_refl _)
 have hw:∀k,k<n→∀i,i<256→wd (bgD n) (3+32*k) i=if i=0 then sealN (hdX (-1) (-1) 1) else 0:=fun k hk i hi=>by
  have:=fmt_wd (On.zero (32*n+5)) (Good.zero (32*n+5) (by omega) (by omega)) hlt n (Nat.le_refl _) k hk i hi
  unfold bgD
  rw [this,wd_zero]
  by_cases e:i=0
  ·rw [if_pos ⟨e,hk⟩,if_pos e]
  ·rw [if_neg (by omega),if_neg e]
 have hfr:=hd_free (g:=1) (by omega) (by omega)
 have hx:(DS.zero (32*n+5)).exe=0:=rfl
 refine ⟨⟨h1,h2,by unfold bgD;rw [h3];exact hlt,fun k hk=> ?_,fun k hk hh=> ?_⟩,by unfold bgD;rw [h3,zn],by unfold bgD;omega,hw⟩
 ·rw [hw k hk 0 (by omega),if_pos rfl]
  exact ⟨hfr.1,hfr.2.1.symm,hfr.2.2.1.symm⟩
 ·exact absurd (show (0:Int)≤-1 from hh) (by decide)
theorem k_begin22 (hG:Glob w) (h0:0<n) (h5:n≤5) (K:K1) (hK:∀w' Y S b o cp,ArS w w' Y (bgD n) S b o cp 3 n bgF→K (.tuple #[.pointer (some ⟨Y.d,0,none⟩),.pointer (some ⟨Y.tb 0,0,none⟩),stV S]) w'):
  callS prog 9 #[.int .i64 (n:Int)] w K:=by
 have e0:(32:Int)*(n:Int)+5=((32*n+5:Nat):Int):=by omega
 have e1:(32:Int)*(n:Int)+1=((32*n+1:Nat):Int):=by omega
 have zn:(DS.zero (32*n+5)).n=32*n+5:=rfl
 have zx:(DS.zero (32*n+5)).exe=0:=rfl
 have hz:=On.zero (32*n+5)
 have hgz:=Good.zero (32*n+5) (by omega) (by omega)
 obtain ⟨hb,hbn,hbx,hbw⟩:=bg_ok h0 h5
 have hq:(32*n+1)/32=n:=by omega
 refine f9_call _ _ _ ?_
 unfold f9_t
 simp (disch:=first|omega|simp only [RO]|(simp only [RZ]<;>omega)|fail) only [↓RBp,↓RA,↓reduceIte,Nat.reduceAdd,Nat.reduceMul,Nat.reduceEqDiff,RB,RX,RA2,e0,e1]
 refine k_New (32*n+5) (by omega) (by omega) _ (fun w1 Y he hd hF hdt=> ?_)
 have hT:∀(w2:World) (K:K1),Ext w1 w2→callS prog 21 #[.pointer (some ⟨Y.d,0,none⟩),.int .i64 0] w2 K=K (.pointer (some ⟨Y.tb 0,0,none⟩)) w2:=fun w2 K e=>by rw [←hdt];exact c_Thread (hd.ext e) 0 (by omega) K
 simp (disch:=first|omega|simp only [RO]|(simp only [RZ]<;>omega)|(with_reducible (repeat (first|assumption|exact Ext.refl _|refine Ext.alloc ?_ _|refine Ext.drew ?_|refine Ext.trans ?_ (by assumption))))|fail) only [↓RBp,↓RA,↓reduceIte,Nat.reduceAdd,Nat.reduceMul,Nat.reduceEqDiff,RB,RX,RA2,hT,e0,e1]
 have L1:Lv w w1 Y (DS.zero (32*n+5)):=⟨hd,hgz,he.trans (by repeat (first|(with_reducible first|refine eB ?_ _|assumption|exact eR _|refine eA ?_ _|refine eD ?_|refine eT ?_ (by assumption))|exact eR _)),hF⟩
 refine k_AFormat (l0:=3) (q:=32*n+1) L1 hG hz hgz (by omega) (by omega) (by omega) _ (fun w2 Y2 st=> ?_)
 rw [hq] at st
 have L2:Lv w w2 Y2 (bgD n):=L1.step st hb.gd
 have tb:=st.tb
 have dd:=st.d
 rw [←tb,←dd]
 simp (disch:=first|omega|simp only [RO]|(simp only [RZ]<;>omega)|(with_reducible (repeat (first|assumption|exact Ext.refl _|refine Ext.alloc ?_ _|refine Ext.drew ?_|refine Ext.trans ?_ (by assumption))))|fail) only [↓RBp,↓RA,↓reduceIte,Nat.reduceAdd,Nat.reduceMul,Nat.reduceEqDiff,RB,RX,RA2,e1]
 refine k_AOpen (l0:=3) (q:=32*n+1) (n:=n) L2 hG hb.on.off hb.on.err (by omega) (by omega) hq _ (fun hn=>absurd (fun k hk=>(hb.ag k hk).1) hn) (fun _ S b o cp w3 e3 _ _ h3=> ?_)
 simp (disch:=first|omega|simp only [RO]|(simp only [RZ]<;>omega)|fail) only [↓RBp,↓RA,↓reduceIte,Nat.reduceAdd,Nat.reduceMul,Nat.reduceEqDiff,RB,RX,RA2]
 refine hK _ Y2 S b o cp (h3.fcongr (fun k hk=> ?_))
 have:=hb.ag k hk
 unfold opF
 rw [←this.2.1,←this.2.2];rfl
theorem ClOk.al (h:ClOk D l0 n f c t D2 f2 k g) (c0:0≤c) (c5:c<5):alF D2 (l0+32*k) c (perS c).toNat=true:=by
 refine alF_of (fun i hi=> ?_)
 have hp:=perS_in c0 c5
 have hi':(i:Int)<perS c:=by omega
 have bd:=offN_bd c0 c5 hi'
 have h1:=h.own (offN c i) bd.2.2
 have h2:=h.own 1 (by omega)
 have e1:planF c t g (wd D (l0+32*k)) (offN c i)=sealN (blkX g 0 176):=by
  unfold planF;rw [if_neg (by omega),if_pos (isB_mem.2 ⟨i,hi,rfl⟩)]
 have e2:planF c t g (wd D (l0+32*k)) 1=0:=by
  unfold planF
  rw [if_neg (by omega),if_neg,if_pos (by omega)]
  intro hb
  obtain ⟨q,hq,he⟩:=isB_mem.1 hb
  have:=offN_bd c0 c5 (show (q:Int)<perS c by omega)
  omega
 unfold okF
 rw [h1,h2,e1,e2,isS_blk h.g6 (by omega) (by omega),bit0,bS_blk h.g6 (by omega) (by omega),bG_blk h.g6 (by omega) (by omega)]
 have:=h.g0
 simp [this]
theorem k_awake22 (hG:Glob w) (K:K1) (hK:∀w',Ext w w'→K (.bool true) w'):
  callS prog 8 #[] w K:=by
 obtain ⟨hb,hbn,hbx,hbw⟩:=bg_ok (n:=2) (by omega) (by omega)
 refine f8_call _ _ ?_
 unfold f8_t
 simp (disch:=first|omega|simp only [RO]|(simp only [RZ]<;>omega)|fail) only [↓RBp,↓RA,↓reduceIte,Nat.reduceAdd,Nat.reduceMul,Nat.reduceEqDiff,RB,RX,RA2]
 refine k_begin22 (n:=2) hG (by omega) (by omega) _ (fun w1 Y1 S b o cp h1=> ?_)
 have ow:∀D2 f2 r e c t,ClRes (bgD 2) 3 2 bgF c t D2 f2 r e→True:=fun _ _ _ _ _ _ _=>trivial
 simp (disch:=first|omega|simp only [RO]|(simp only [RZ]<;>omega)|fail) only [↓RBp,↓RA,↓reduceIte,Nat.reduceAdd,Nat.reduceMul,Nat.reduceEqDiff,RB,RX,RA2]
 refine k_Claim h1 hb.ag hb.on.off hb.on.err (by omega) (by omega) (by omega) (by omega) (by omega) _ (fun D2 f2 r2 e2 hr2 w2 Y2 a2 h2=> ?_)
 rcases cl_ok hb (by omega) (by omega) (by omega) (by omega) hr2 with ⟨_,_,_,_,hn,_⟩|⟨rfl,k2,g2,rfl,ok2,rg2,n2,x2⟩
 ·exact absurd (show (bgF 0).1<0 by decide) (hn 0 (by omega))
 have k20:k2=0:=by
  rcases ok2.how with ⟨_,h,_⟩|⟨h,_⟩
  ·rcases Nat.eq_zero_or_pos k2 with h3|h3
   ·exact h3
   ·exact absurd (show (bgF 0).1<0 by decide) (h 0 h3)
  ·exact absurd (show (bgF 0).1<0 by decide) (h 0 (by omega))
 subst k20
 have f20:f2 0=(0,3,false):=by rw [ok2.fe,upF_eq];rfl
 have f21:f2 1=(-1,-1,false):=by rw [ok2.fe,upF_ne _ _ (by omega)];rfl
 simp (disch:=first|omega|simp only [RO]|(simp only [RZ]<;>omega)|fail) only [↓RBp,↓RA,↓reduceIte,Nat.reduceAdd,Nat.reduceMul,Nat.reduceEqDiff,RB,RX,RA2]
 refine k_Claim h2 rg2.ag rg2.on.off rg2.on.err (by omega) (by omega) (by omega) (by omega) (by omega) _ (fun D3 f3 r3 e3 hr3 w3 Y3 a3 h3=> ?_)
 rcases cl_ok rg2 (by omega) (by omega) (by omega) (by omega) hr3 with ⟨_,_,_,_,hn,_⟩|⟨rfl,k3,g3,rfl,ok3,rg3,n3,x3⟩
 ·exact absurd (show (f2 1).1<0 by rw [f21];decide) (hn 1 (by omega))
 have k31:k3=1:=by
  have:=ok3.kn
  rcases ok3.how with ⟨h,_,_⟩|⟨h,_⟩
  ·by_cases h0:k3=0
   ·subst h0;rw [f20] at h;exact absurd h (by decide)
   ·omega
  ·exact absurd (show (f2 1).1<0 by rw [f21];decide) (h 1 (by omega))
 subst k31
 have f30:f3 0=(0,3,false):=by rw [ok3.fe,upF_ne _ _ (by omega)];exact f20
 have f31:f3 1=(0,5,false):=by rw [ok3.fe,upF_eq,f21]
 have fr3:frC f3 2=0:=by simp [frC,f30,f31]
 simp (disch:=first|omega|simp only [RO]|(simp only [RZ]<;>omega)|fail) only [↓RBp,↓RA,↓reduceIte,Nat.reduceAdd,Nat.reduceMul,Nat.reduceEqDiff,RB,RX,RA2]
 refine k_OwnerAt (k:=0) h3 (by omega) _ (fun w4 e4=> ?_)
 have h4:=h3.ext e4
 rw [f30]
 simp (disch:=first|omega|simp only [RO]|(simp only [RZ]<;>omega)|fail) only [↓RBp,↓RA,↓reduceIte,Nat.reduceAdd,Nat.reduceMul,Nat.reduceEqDiff,RB,RX,RA2]
 refine k_FreeChunks h4 _ (fun w5 e5=> ?_)
 have h5:=h4.ext e5
 rw [fr3]
 simp (disch:=first|omega|simp only [RO]|(simp only [RZ]<;>omega)|fail) only [↓RBp,↓RA,↓reduceIte,Nat.reduceAdd,Nat.reduceMul,Nat.reduceEqDiff,RB,RX,RA2]
 refine k_Claim h5 rg3.ag rg3.on.off rg3.on.err (by omega) (by omega) (by omega) (by omega) (by omega) _ (fun D6 f6 r6 e6 hr6 w6 Y6 a6 h6=> ?_)
 have al:=ok2.al (by omega) (by omega)
 have hp:=perS_in (c:=0) (by omega) (by omega)
 have al3:=(alF_congr (D:=D2) (D':=D3) (l:=3+32*0) (c:=0) (ok3.oth 0 (by omega) (by omega)) (by omega) (by omega) (perS 0).toNat (by omega)).1
 rw [al] at al3
 have em:emG D3 3 f3 0≠none:=by
  unfold emG
  rw [f30,if_neg (by decide),if_neg (by decide),if_pos al3]
  intro h;cases h
 rcases cl_ok rg3 (by omega) (by omega) (by omega) (by omega) hr6 with ⟨_,_,_,_,_,hn⟩|⟨rfl,k6,g6,rfl,ok6,rg6,n6,x6⟩
 ·exact absurd (hn 0 (by omega)) em
 have k60:k6=0:=by
  have:=ok6.kn
  rcases ok6.how with ⟨h,_,_⟩|⟨_,_,h⟩
  ·exfalso
   by_cases h0:k6=0
   ·subst h0;rw [f30] at h;exact absurd h (by decide)
   ·have:k6=1:=by omega
    subst this;rw [f31] at h;exact absurd h (by decide)
  ·rcases Nat.eq_zero_or_pos k6 with h3|h3
   ·exact h3
   ·exact absurd (h 0 h3) em
 subst k60
 simp (disch:=first|omega|simp only [RO]|(simp only [RZ]<;>omega)|fail) only [↓RBp,↓RA,↓reduceIte,Nat.reduceAdd,Nat.reduceMul,Nat.reduceEqDiff,RB,RX,RA2]
 exact hK _ h6.L.ex
end
end Go.Proofs.YtifpinhjpbgnoaaGreatDoor
