/-
  Part of the proof in YtifpinhjpbgnoaaGreatDoorBqRowAa.
-/
import Derived.Test.YtifpinhjpbgnoaaGreatDoorBq4
import Derived.Test.YtifpinhjpbgnoaaGreatDoorBq5
import Derived.Test.YtifpinhjpbgnoaaGreatDoorBq1
namespace Go.Proofs.YtifpinhjpbgnoaaGreatDoor
open Go Go.Sh
set_option maxRecDepth 100000
set_option maxHeartbeats 4000000
set_option linter.unusedSimpArgs false
set_option linter.unusedVariables false
def okP (x:Nat):Bool:=goodB (gX x) (kX x) (sX x)&&isS x
structure Wm (w:World) (b o:Nat) (W:Nat→Nat):Prop where
 cell:∀{i:Nat},i<256→w.cell? ⟨b,o+i,none⟩=some (u64 (W i))
 frz:∀i,w.frozen? ⟨b,i,none⟩=false
abbrev wsV (b o cap:Nat):Value:= .slice (some ⟨b,o,none⟩) 256 cap
section
variable {w w':World} {W:Nat→Nat} {b ob cap:Nat} {c:Int}
end
end Go.Proofs.YtifpinhjpbgnoaaGreatDoor
namespace Go.Proofs.YtifpinhjpbgnoaaGreatDoor
open Go Go.Sh
set_option maxRecDepth 100000
set_option maxHeartbeats 4000000
set_option linter.unusedSimpArgs false
set_option linter.unusedVariables false
def ActsR (m:Nat) (w:World) (v:Value) (al:List (List Int×List Nat×List Int)):Prop:=∃a cap,v= .slice a al.length cap∧∀j x,al[j]? =some x→∃b o s1 s2 s3,a=some ⟨b,o,none⟩∧b<m∧w.cell? ⟨b,o+j*3,none⟩=some s1∧w.cell? ⟨b,o+j*3+1,none⟩=some s2∧w.cell? ⟨b,o+j*3+2,none⟩=some s3∧RdS m w s1 (i64L x.1)∧RdS m w s2 (u8L x.2.1)∧RdS m w s3 (i64L x.2.2)
section
variable {w w':World} {Y:Lay} {D:DS} {l m:Nat} {v:Value} {al:List (List Int×List Nat×List Int)}
theorem ActsR.ext (h:ActsR m w v al) (e:Ext w w'):ActsR m w' v al:=by
 obtain ⟨a,cap,hv,h⟩:=h
 refine ⟨a,cap,hv,fun j x hx=> ?_⟩
 obtain ⟨b,o,s1,s2,s3,ha,hb,c1,c2,c3,r1,r2,r3⟩:=h j x hx
 exact ⟨b,o,s1,s2,s3,ha,hb,e.cell_some c1,e.cell_some c2,e.cell_some c3,r1.ext e,r2.ext e,r3.ext e⟩
def wdL (W:Nat→Nat) (n:Nat):List Value:=(List.range n).map fun j=>u64 (W j)
theorem wdL_get {W:Nat→Nat} {n j:Nat} (h:j<n):(wdL W n)[j]? =some (u64 (W j)):=by simp [wdL,h]
theorem Wm.of_sl {W:Nat→Nat} {b o n cap:Nat} (h:SlO w 30 1 (.slice (some ⟨b,o,none⟩) n cap) 256 (wdL W 256)):Wm w b o W:=⟨fun hi=>h.cell rfl (wdL_get hi),fun i=>h.frz rfl i⟩
end
end Go.Proofs.YtifpinhjpbgnoaaGreatDoor
namespace Go.Proofs.YtifpinhjpbgnoaaGreatDoor
open Go Go.Sh
set_option linter.unusedSimpArgs false
set_option linter.unusedVariables false
section
variable {D D2:DS} {l0 n k g:Nat} {f f2:Nat→Int×Int×Bool} {c t r e:Int} {ws:List (Nat×Nat)}
def Cov (C:Co):Prop:=∀l:Nat,C.hist l= []∨C.notes ((l:Nat):Int)=some (C.done l+(C.hist l).length)
theorem Cov.fe {C:Co} (h:Cov C) (j:J1 C):Cln C.fe:=by
 refine (j.fe (fun l=> ?_)).1
 rcases h l with h1|h1
 ·rw [h1];simp
 ·unfold Co.due
  rw [h1]
  simp only
  omega
end
end Go.Proofs.YtifpinhjpbgnoaaGreatDoor
namespace Go.Proofs.YtifpinhjpbgnoaaGreatDoor
open Go Go.Sh
set_option maxRecDepth 100000
set_option maxHeartbeats 4000000
set_option linter.unusedSimpArgs false
set_option linter.unusedVariables false
abbrev ptL (ps:List Nat):List Value:=ps.map u64
theorem elPtr:ElT Tryz.prog 62 62 73 1 8 (.int .u64 0):=⟨by kernel_rfl,by kernel_rfl,by kernel_rfl,by kernel_rfl,by decide⟩
section
variable {w0 w w':World} {Y Y':Lay} {D D':DS} {B l k:Nat} {c o:Int} {g:Nat}
def FreeAt (D:DS) (l:Nat) (c o:Int) (k gi:Nat):Prop:=Snd D l c o∧bS (wd D l (offN c k))=176∧bG (wd D l (offN c k))=gi
def TakenAt (D:DS) (l:Nat) (c o:Int) (k gi kd:Nat):Prop:=Snd D l c o∧bS (wd D l (offN c k))=177∧bG (wd D l (offN c k))=gi∧bK (wd D l (offN c k))=kd
theorem act1 {c:Int} {k:Nat} (hk:(k:Int)<perS c) (kd:Nat) (h0:kd≠0) (h1:kd≤127):ActA c [(k:Int)] [kd] []∧ActA c [] [] [(k:Int)]:=by
 have e:onc (perS c) [(k:Int)] 0=some (0|||2^k):=by
  simp only [onc,Int.toNat_natCast]
  rw [if_pos ⟨⟨by omega,hk⟩,bit0 k⟩]
 refine ⟨⟨rfl,fun x hx=> ?_,?_⟩,⟨rfl,fun x hx=>(by cases hx),?_⟩⟩
 ·simp only [List.mem_singleton] at hx;subst hx;exact ⟨h0,h1⟩
 ·rw [e];rfl
 ·simp only [onc,Option.bind_some,Int.toNat_natCast]
  rw [if_pos ⟨⟨by omega,hk⟩,bit0 k⟩];rfl
theorem take_act (hf:FreeAt D l c o k g) (hp:perS c≤64) (hk:(k:Int)<perS c) (kd:Nat):∃ws,actN D l c [(k:Int)] [kd] []=some ws∧ws.length=2:=by
 obtain ⟨hs,h1,h2⟩:=hf
 have hb:=hs.bit k (by omega)
 rw [decide_eq_true hk,h1] at hb
 have ht:tkOk D l c k=true:=by
  unfold tkOk
  rw [hs.sl k hk,hb,hs.gd k hk,h1];rfl
 exact ⟨_,actN_eq (by simp) (by rw [chT_cons,Int.toNat_natCast,if_pos ht,chT_nil]) (chDr_nil ..),rfl⟩
theorem took {ws:List (Nat×Nat)} {kd:Nat} (hk:(k:Int)<perS c) (hkd:kd<256) (hf:FreeAt D l c o k g) (h:ActS D D' l c o [(k:Int)] [kd] [] ws):TakenAt D' l c o k g kd:=by
 obtain ⟨hs,h1,h2⟩:=hf
 have hx:=h.e.blk k hk
 have ha:actX D l c [(k:Int)] [kd] [] k=(tkW D l c k kd).2:=by unfold actX;simp [kOf]
 rw [ha] at hx
 obtain ⟨_,a,b,d⟩:=tkW_parts (D:=D) (l:=l) (c:=c) k kd hkd
 exact ⟨h.snd,by rw [hx,d],by rw [hx,a,h2],by rw [hx,b]⟩
theorem taken_live {kd:Nat} (hp:perS c≤64) (hk:(k:Int)<perS c) (h:TakenAt D l c o k g kd):liveB D l c k g:=by
 obtain ⟨hs,h1,h2,h3⟩:=h
 have hb:=hs.bit k (by omega)
 rw [decide_eq_true hk,h1] at hb
 exact ⟨hs.sl k hk,hb,h1,h2⟩
end
end Go.Proofs.YtifpinhjpbgnoaaGreatDoor
namespace Go.Proofs.YtifpinhjpbgnoaaGreatDoor
open Go Go.Sh
set_option linter.unusedSimpArgs false
set_option linter.unusedVariables false
def cnL (f:Nat→Int×Int×Bool) (n t c:Nat):Nat:=(lnL (fun k=>decide ((f k).2.1=(t:Int))&&decide ((f k).1=(c:Int))) 3 n).length
def suC (f:Nat→Int×Int×Bool) (n t:Nat):Nat→Nat
 |0=>0
 |c+1=>suC f n t c+cnL f n t c
def suT (f:Nat→Int×Int×Bool) (n:Nat):Nat→Nat
 |0=>0
 |t+1=>suT f n t+suC f n t 5
section
variable {D D2:DS} {l l0 n k g m:Nat} {f f2:Nat→Int×Int×Bool} {c t r e o:Int} {ws:List (Nat×Nat)} {P:List Nat}
theorem cnL_le (f:Nat→Int×Int×Bool) (n t c:Nat):cnL f n t c≤n:=lnL_len _ _ _
theorem suC_le (f:Nat→Int×Int×Bool) (n t:Nat):∀c,suC f n t c≤c*n
 |0=>by simp [suC]
 |c+1=>by
  have h1:=suC_le f n t c
  have h2:=cnL_le f n t c
  simp only [suC];rw [Nat.add_mul];omega
theorem suT_le (f:Nat→Int×Int×Bool) (n:Nat):∀t,suT f n t≤t*(5*n)
 |0=>by simp [suT]
 |t+1=>by
  have h1:=suT_le f n t
  have h2:=suC_le f n t 5
  simp only [suT];rw [Nat.add_mul];omega
theorem cnL_succ (f:Nat→Int×Int×Bool) (n t c:Nat):cnL f (n+1) t c=cnL f n t c+if (f n).2.1=(t:Int)∧(f n).1=(c:Int) then 1 else 0:=by
 unfold cnL
 simp only [lnL,List.length_append]
 by_cases h:(f n).2.1=(t:Int)∧(f n).1=(c:Int)
 ·rw [if_pos h,if_pos (by simp [h])];rfl
 ·rw [if_neg h,if_neg (by simpa using h)];rfl
theorem suC_succ (f:Nat→Int×Int×Bool) (n t:Nat):∀C:Nat,suC f (n+1) t C=suC f n t C+if (f n).2.1=(t:Int)∧0≤(f n).1∧(f n).1<(C:Int) then 1 else 0
 |0=>by simp only [suC];rw [if_neg (by omega)]
 |C+1=>by
  simp only [suC]
  rw [suC_succ f n t C,cnL_succ]
  by_cases h1:(f n).2.1=(t:Int)∧0≤(f n).1∧(f n).1<(C:Int)
  ·rw [if_pos h1,if_neg (by omega),if_pos (by omega)];omega
  ·rw [if_neg h1]
   by_cases h2:(f n).2.1=(t:Int)∧(f n).1=(C:Int)
   ·rw [if_pos h2,if_pos (by omega)];omega
   ·rw [if_neg h2,if_neg (by omega)];rfl
theorem suT_succ (f:Nat→Int×Int×Bool) (n:Nat):∀T:Nat,suT f (n+1) T=suT f n T+if 0≤(f n).2.1∧(f n).2.1<(T:Int)∧0≤(f n).1∧(f n).1<5 then 1 else 0
 |0=>by simp only [suT];rw [if_neg (by omega)]
 |T+1=>by
  simp only [suT]
  rw [suT_succ f n T,suC_succ]
  by_cases h1:0≤(f n).2.1∧(f n).2.1<(T:Int)∧0≤(f n).1∧(f n).1<5
  ·rw [if_pos h1,if_neg (by omega),if_pos (by omega)];omega
  ·rw [if_neg h1]
   by_cases h2:(f n).2.1=(T:Int)∧0≤(f n).1∧(f n).1<((5:Nat):Int)
   ·rw [if_pos h2,if_pos (by omega)];omega
   ·rw [if_neg h2,if_neg (by omega)];rfl
theorem suC_zero (f:Nat→Int×Int×Bool) (t:Nat):∀c,suC f 0 t c=0
 |0=>rfl
 |c+1=>by simp only [suC];rw [suC_zero f t c];rfl
theorem suT_zero (f:Nat→Int×Int×Bool):∀T,suT f 0 T=0
 |0=>rfl
 |T+1=>by simp only [suT];rw [suT_zero f T,suC_zero]
theorem sum_all:∀n,(∀j,j<n→(f j).1<0∨(0≤(f j).1∧(f j).1<5∧0≤(f j).2.1∧(f j).2.1<8))→frC f n+suT f n 8=n
 |0,_=>by rw [suT_zero];rfl
 |n+1,h=>by
  have ih:=sum_all n (fun j hj=>h j (by omega))
  have hn:=h n (by omega)
  rw [suT_succ]
  simp only [frC]
  rcases hn with hn|hn
  ·rw [if_pos hn,if_neg (by omega)];omega
  ·rw [if_neg (by omega),if_pos (by omega)];omega
structure ApI (D:DS) (n:Nat) (f:Nat→Int×Int×Bool) (m:Nat) (P:List Nat):Prop where
 r:RgS D 3 n f
 mn:m≤n
 lo:∀j,j<m→0≤(f j).1∧(f j).1<5∧0≤(f j).2.1∧(f j).2.1<8
 hi:∀j,m≤j→j<n→f j=(-1,-1,false)
 len:P.length=m
 tk:∀j,j<m→∃g,g<65536∧P[j]? =some (ptrN (pOff (3+32*j) (f j).1 0) g 64)∧TakenAt D (3+32*j) (f j).1 (f j).2.1 0 g 64
theorem ApI.sum (h:ApI D n f m P):frC f n+suT f n 8=n:=sum_all n (fun j hj=>by
 by_cases e:j<m
 ·exact .inr (h.lo j e)
 ·rw [h.hi j (by omega) hj];exact .inl (by decide))
theorem ApI.em (h:ApI D n f m P) {j:Nat} (hj:j<m):emG D 3 f j=none:=by
 obtain ⟨g,_,_,ht⟩:=h.tk j hj
 have hl:=h.lo j hj
 have hp:=perS_in hl.1 hl.2.1
 unfold emG
 rw [if_neg (by omega)]
 by_cases h2:(f j).2.2=true
 ·rw [if_pos h2]
 ·rw [if_neg h2]
  have h3:alF D (3+32*j) (f j).1 (perS (f j).1).toNat=false:=alF_no (i:=0) (by omega) (by
   cases h4:okF D (3+32*j) (f j).1 0 with
   |false=>rfl
   |true=>
    have h5:=(okF_parts h4).1
    rw [ht.2.1] at h5;omega)
  rw [h3,if_neg (by simp)]
theorem ApI.claim (h:ApI D n f m P) (c0:0≤c) (c5:c<5) (t0:0≤t) (t8:t<8) (hr:ClRes D 3 n f c t D2 f2 r e):
  (e=4∧r=0∧D2=D∧f2=f∧m=n)∨(e=0∧m<n∧r=((3+32*m:Nat):Int)∧∃g,ClOk D 3 n f c t D2 f2 m g∧RgS D2 3 n f2∧D2.n=D.n∧D2.exe≤D.exe+210):=by
 have hmn:=h.mn
 rcases cl_ok h.r c0 c5 t0 t8 hr with ⟨h1,h2,h3,h4,h5,h6⟩|⟨h1,k,g,h2,ok,h3,h4,h5⟩
 ·left
  refine ⟨h1,h2,h3,h4,?_⟩
  rcases Nat.lt_or_ge m n with h7|h7
  ·exact absurd (show (f m).1<0 by rw [h.hi m (Nat.le_refl _) h7];decide) (h5 m h7)
  ·omega
 ·right
  have hk:k=m:=by
   rcases ok.how with ⟨a1,a2,_⟩|⟨a1,a2,_⟩
   ·rcases Nat.lt_trichotomy k m with h7|h7|h7
    ·have:=h.lo k h7;omega
    ·exact h7
    ·exact absurd (show (f m).1<0 by rw [h.hi m (Nat.le_refl _) (by have:=ok.kn;omega)];decide) (a2 m h7)
   ·exfalso
    rcases Nat.lt_or_ge k m with h7|h7
    ·rw [h.em h7] at a2;cases a2
    ·exact absurd (show (f k).1<0 by rw [h.hi k h7 ok.kn];decide) (a1 k ok.kn)
  subst hk
  exact ⟨h1,ok.kn,h2,g,ok,h3,h4,h5⟩
theorem ClOk.fresh (ok:ClOk D 3 n f c t D2 f2 m g) (rg:RgS D2 3 n f2) (c0:0≤c) (c5:c<5):Snd D2 (3+32*m) c t∧∀i:Nat,(i:Int)<perS c→bS (wd D2 (3+32*m) (offN c i))=176∧bG (wd D2 (3+32*m) (offN c i))=g:=by
 have hp:=perS_in c0 c5
 have e1:(f2 m).1=c∧(f2 m).2.1=t:=by rw [ok.fe,upF_eq];exact ⟨rfl,rfl⟩
 have hs:=rg.sn m ok.kn (by rw [e1.1];exact c0)
 rw [e1.1,e1.2] at hs
 refine ⟨hs,fun i hi=> ?_⟩
 have bd:=offN_bd c0 c5 hi
 have e2:wd D2 (3+32*m) (offN c i)=sealN (blkX g 0 176):=by
  rw [ok.own _ bd.2.2]
  unfold planF;rw [if_neg (by omega),if_pos (isB_mem.2 ⟨i,by omega,rfl⟩)]
 rw [e2]
 exact ⟨bS_blk ok.g6 (by omega) (by omega),bG_blk ok.g6 (by omega) (by omega)⟩
theorem cnt_no {n:Nat} (h:∀i,i<n→bS (wd D l (offN c i))=176):cntN D l c n=0:=by
 induction n with
 |zero=>rfl
 |succ n ih=>
  simp only [cntN,ih (fun i hi=>h i (by omega))]
  have:mkB D l c (n:Int) 177=false:=by
   unfold mkB
   rw [Int.toNat_natCast,h n (by omega)];simp
  rw [this];simp
theorem TakenAt.congr {gi kd:Nat} (h:TakenAt D l c o k gi kd) (c0:0≤c) (c5:c<5) (hk:(k:Int)<perS c) (e:∀j,j<256→wd D2 l j=wd D l j):TakenAt D2 l c o k gi kd:=by
 have b:=e _ (offN_bd c0 c5 hk).2.2
 exact ⟨h.1.congr c0 c5 e,by rw [b];exact h.2.1,by rw [b];exact h.2.2.1,by rw [b];exact h.2.2.2⟩
theorem st_rg (h:RgS D l0 n f) (hk:k<n) (hok:∀x∈ws,(x.1%8=0∧x.1<D.n*64)∧x.1<18446744073709551616∧x.2<18446744073709551616) (hin:∀x∈ws,(l0+32*k)*64≤x.1∧x.1<(l0+32*k)*64+2048) (hh:∀x∈ws,x.1≠(l0+32*k)*64) (hs:0≤(f k).1→Snd (D.strs ws) (l0+32*k) (f k).1 (f k).2.1):
  RgS (D.strs ws) l0 n f∧∀j,j<n→j≠k→∀i,i<256→wd (D.strs ws) (l0+32*j) i=wd D (l0+32*j) i:=by
 obtain ⟨on,hc⟩:=strs_on h.on (fun x hx=>(hok x hx).1)
 have gd:Good (D.strs ws):=strs_good h.gd (fun x hx=>(hok x hx).2)
 have hn:(D.strs ws).n=D.n:=strs_n D ws
 have oth:∀j,j<n→j≠k→∀i,i<256→wd (D.strs ws) (l0+32*j) i=wd D (l0+32*j) i:=fun j hj hjk i hi=>by
  unfold wd
  rw [hc]
  refine applyH_other _ _ _ (fun y hy=> ?_)
  have:=hin y hy
  omega
 have h0:wd (D.strs ws) (l0+32*k) 0=wd D (l0+32*k) 0:=by
  unfold wd
  rw [hc]
  refine applyH_other _ _ _ (fun y hy=> ?_)
  have h1:=hin y hy;have h2:=hh y hy;have h3:=(hok y hy).1
  omega
 refine ⟨⟨on,gd,by rw [hn];exact h.lt,fun j hj=> ?_,fun j hj hc0=> ?_⟩,oth⟩
 ·by_cases e:j=k
  ·subst e;rw [h0];exact h.ag j hj
  ·rw [oth j hj e 0 (by omega)];exact h.ag j hj
 ·by_cases e:j=k
  ·subst e;exact hs hc0
  ·exact (h.sn j hj hc0).congr hc0 (h.cls hj).1 (oth j hj e)
theorem ApI.next (h:ApI D n f m P) (c0:0≤c) (c5:c<5) (t0:0≤t) (t8:t<8) (ok:ClOk D 3 n f c t D2 f2 m g) (rg:RgS D2 3 n f2) {D3:DS} (r3:RgS D3 3 n f2) (oth:∀j,j<n→j≠m→∀i,i<256→wd D3 (3+32*j) i=wd D2 (3+32*j) i) (ht:TakenAt D3 (3+32*m) c t 0 g 64):ApI D3 n f2 (m+1) (P++ [ptrN (pOff (3+32*m) c 0) g 64]):=by
 have e1:f2 m=(c,t,(f m).2.2):=by rw [ok.fe,upF_eq]
 have e2:∀j,j≠m→f2 j=f j:=fun j hj=>by rw [ok.fe,upF_ne _ _ hj]
 refine ⟨r3,ok.kn,fun j hj=> ?_,fun j hj hjn=> ?_,by rw [List.length_append,h.len];rfl,fun j hj=> ?_⟩
 ·by_cases e:j=m
  ·rw [e,e1];exact ⟨c0,c5,t0,t8⟩
  ·rw [e2 j e];exact h.lo j (by omega)
 ·rw [e2 j (by omega)];exact h.hi j (by omega) hjn
 ·by_cases e:j=m
  ·subst e
   rw [e1]
   refine ⟨g,ok.g6,?_,ht⟩
   rw [List.getElem?_append_right (by rw [h.len];exact Nat.le_refl _),h.len,Nat.sub_self];rfl
  ·obtain ⟨g',h1,h2,h3⟩:=h.tk j (by omega)
   have hl:=h.lo j (by omega)
   have hp:=perS_in hl.1 hl.2.1
   have hjn:=ok.kn
   rw [e2 j e]
   refine ⟨g',h1,?_,?_⟩
   ·rw [List.getElem?_append_left (by rw [h.len];omega)];exact h2
   ·exact h3.congr hl.1 hl.2.1 (by omega) (fun i hi=>by rw [oth j (by omega) e i hi,ok.oth j (by omega) e i hi])
end
end Go.Proofs.YtifpinhjpbgnoaaGreatDoor
namespace Go.Proofs.YtifpinhjpbgnoaaGreatDoor
open Go Go.Sh
set_option linter.unusedSimpArgs false
set_option linter.unusedVariables false
end Go.Proofs.YtifpinhjpbgnoaaGreatDoor
namespace Go.Proofs.YtifpinhjpbgnoaaGreatDoor
open Go Go.Sh
set_option maxRecDepth 100000
set_option maxHeartbeats 4000000
set_option linter.unusedSimpArgs false
set_option linter.unusedVariables false
section
variable {w0 w w':World} {Y Y':Lay} {D D':DS} {B l k:Nat} {c o:Int} {g:Nat} {K:K1} {E1:VP1}
theorem Wm.ext {b ob:Nat} {W:Nat→Nat} (h:Wm w b ob W) (e:Ext w w'):Wm w' b ob W:=⟨fun hi=>e.cell_some (h.cell hi),fun i=>by
 have hc:=h.cell (i:=0) (by omega)
 have hlt:=lt_of_cell hc
 have:=h.frz i
 unfold World.frozen? at this ⊢
 simp only at this ⊢
 rw [e.blk b hlt];exact this⟩
theorem Loc.base {wI:World} (h:Loc w0 w Y D B l c o g) (e:Ext wI w0) (hG:Glob wI):Loc wI w Y D B l c o g:=⟨⟨h.L.dv,h.L.gd,e.trans h.L.ex,fun x hx=>Nat.le_trans e.size (h.L.nw x hx)⟩,h.bx,h.nb,h.on,h.lt,hG,h.c0,h.c5⟩
theorem Snd.parts (h:Snd D l c o) {k:Nat} (hk:(k:Int)<perS c):okP (wd D l (offN c k))=true∧bG (wd D l (offN c k))=gX (wd D l (offN c k))∧bK (wd D l (offN c k))=kX (wd D l (offN c k))∧bS (wd D l (offN c k))=sX (wd D l (offN c k)):=by
 have h1:=h.sl k hk
 have h2:=h.gd k hk
 have e1:bG (wd D l (offN c k))=gX (wd D l (offN c k)):=by unfold bG;rw [if_pos h1]
 have e2:bK (wd D l (offN c k))=kX (wd D l (offN c k)):=by unfold bK;rw [if_pos h1]
 have e3:bS (wd D l (offN c k))=sX (wd D l (offN c k)):=by unfold bS;rw [if_pos h1]
 refine ⟨?_,e1,e2,e3⟩
 rw [e1,e2,e3] at h2
 unfold okP;rw [h1,h2];rfl
end
end Go.Proofs.YtifpinhjpbgnoaaGreatDoor
namespace Go.Proofs.YtifpinhjpbgnoaaGreatDoor
open Go Go.Sh
set_option maxRecDepth 100000
set_option maxHeartbeats 4000000
set_option linter.unusedSimpArgs false
set_option linter.unusedVariables false
section
variable {w w':World} {D:DS} {l bw ow cw:Nat} {c o:Int}
end
end Go.Proofs.YtifpinhjpbgnoaaGreatDoor
namespace Go.Proofs.YtifpinhjpbgnoaaGreatDoor
open Go Go.Sh
set_option maxRecDepth 100000
set_option maxHeartbeats 4000000
set_option linter.unusedSimpArgs false
set_option linter.unusedVariables false
theorem SlO.upd {w:World} {t:TypeId} {b o n cap:Nat} {L:List Value} (h:SlO w t 1 (.slice (some ⟨b,o,none⟩) n cap) n L) {i:Nat} (u:Value) (hi:i<n):SlO (w.setCell ⟨b,o+i,none⟩ u) t 1 (.slice (some ⟨b,o,none⟩) n cap) n (L.set i u):=by
 obtain ⟨hl,h|⟨b',o',cap',a,hv,hh,hnc,hcm,hsz,hg⟩⟩:=h
 ·cases h.1
 ·injection hv with hv h2 h3
  injection hv with hv
  injection hv with h4 h5 _
  subst h4;subst h5;subst h3
  have hC:Cells w b t a.size (fun j=>(a[j]?).getD undef):=⟨a,hh,Nat.le_refl _,fun j hj=>by simp only [Array.getElem?_eq_getElem hj,Option.getD_some]⟩
  have hC2:=hC.set (i:=o+i) u (by omega)
  obtain ⟨a',hh',hs',hg'⟩:=hC2
  refine ⟨by rw [List.length_set];exact hl,.inr ⟨b,o,cap,a',rfl,hh',hnc,hcm,by omega,fun j x hj=> ?_⟩⟩
  have hjn:j<n:=by
   have:=(List.getElem?_eq_some_iff.1 hj).1
   rw [List.length_set] at this;omega
  rw [hg' (o+j) (by omega)]
  simp only
  rw [List.getElem?_set] at hj
  by_cases e:i=j
  ·subst e
   rw [if_pos rfl,if_pos (by omega)] at hj
   rw [if_pos rfl];exact hj
  ·rw [if_neg e] at hj
   rw [if_neg (by omega),hg j x hj,Option.getD_some]
theorem wdL_set (W:Nat→Nat) (n i x:Nat):(wdL W n).set i (u64 x)=wdL (fun j=>if j=i then x else W j) n:=by
 apply List.ext_getElem?
 intro j
 rw [List.getElem?_set]
 by_cases hj:j<n
 ·rw [wdL_get hj]
  by_cases e:i=j
  ·subst e
   rw [if_pos rfl,if_pos (by simpa [wdL] using hj),wdL_get hj,if_pos rfl]
  ·rw [if_neg e,wdL_get hj,if_neg (fun h=>e h.symm)]
 ·have h1:(wdL W n)[j]? =none:=List.getElem?_eq_none (by simp [wdL];omega)
  have h2:(wdL (fun j=>if j=i then x else W j) n)[j]? =none:=List.getElem?_eq_none (by simp [wdL];omega)
  rw [h2]
  by_cases e:i=j
  ·subst e
   rw [if_pos rfl,if_neg (by simp [wdL];omega)]
  ·rw [if_neg e,h1]
section
variable {w w':World} {D:DS} {l bw ow cw:Nat} {c o:Int}
theorem wdL_congr {W V:Nat→Nat} {n:Nat} (h:∀i,i<n→W i=V i):wdL W n=wdL V n:=by
 unfold wdL
 rw [List.map_inj_left]
 intro i hi
 rw [h i (List.mem_range.1 hi)]
end
end Go.Proofs.YtifpinhjpbgnoaaGreatDoor
namespace Go.Proofs.YtifpinhjpbgnoaaGreatDoor
open Go Go.Sh
set_option maxRecDepth 100000
set_option maxHeartbeats 4000000
set_option linter.unusedSimpArgs false
set_option linter.unusedVariables false
section
variable {w w':World} {D:DS} {l bw ow cw:Nat} {c o:Int}
end
end Go.Proofs.YtifpinhjpbgnoaaGreatDoor
namespace Go.Proofs.YtifpinhjpbgnoaaGreatDoor
open Go Go.Sh
set_option maxRecDepth 100000
set_option maxHeartbeats 8000000
set_option linter.unusedSimpArgs false
set_option linter.unusedVariables false
section
variable {w w':World} {Y Y':Lay} {D D':DS} {c o:Int} {g:Nat}
end
end Go.Proofs.YtifpinhjpbgnoaaGreatDoor
namespace Go.Proofs.YtifpinhjpbgnoaaGreatDoor
open Go Go.Sh
set_option maxRecDepth 100000
set_option maxHeartbeats 4000000
set_option linter.unusedSimpArgs false
set_option linter.unusedVariables false
section
variable {w w':World} {Y:Lay} {D:DS} {l m:Nat} {v:Value}
end
end Go.Proofs.YtifpinhjpbgnoaaGreatDoor
namespace Go.Proofs.YtifpinhjpbgnoaaGreatDoor
open Go Go.Sh
set_option maxRecDepth 100000
set_option linter.unusedVariables false
end Go.Proofs.YtifpinhjpbgnoaaGreatDoor
namespace Go.Proofs.YtifpinhjpbgnoaaGreatDoor
open Go Go.Sh
set_option maxRecDepth 100000
set_option maxHeartbeats 4000000
set_option linter.unusedSimpArgs false
set_option linter.unusedVariables false
def mdL (sl:Nat→Value) (hd:Nat→Bool):Nat→List Value
 |0=> []
 |n+1=>mdL sl hd n++ [sl n,.bool (hd n)]
theorem mdL_len (sl:Nat→Value) (hd:Nat→Bool):∀n,(mdL sl hd n).length=n*2
 |0=>rfl
 |n+1=>by simp [mdL,mdL_len sl hd n];omega
theorem mdL_get (sl:Nat→Value) (hd:Nat→Bool):∀n k,k<n→(mdL sl hd n)[k*2]? =some (sl k)∧(mdL sl hd n)[k*2+1]? =some (.bool (hd k))
 |0,k,h=>absurd h (Nat.not_lt_zero _)
 |n+1,k,h=>by
  have hl:=mdL_len sl hd n
  unfold mdL
  by_cases e:k=n
  ·subst e
   refine ⟨?_,?_⟩<;>rw [List.getElem?_append_right (by omega)]<;>simp [hl]
  ·have:=mdL_get sl hd n k (by omega)
   refine ⟨?_,?_⟩<;>rw [List.getElem?_append_left (by omega)]
   ·exact this.1
   ·exact this.2
theorem mdL_congr {s s':Nat→Value} {h h':Nat→Bool}:∀{n},(∀k,k<n→s k=s' k∧h k=h' k)→mdL s h n=mdL s' h' n
 |0,_=>rfl
 |n+1,e=>by unfold mdL;rw [mdL_congr (fun k hk=>e k (by omega)),(e n (by omega)).1,(e n (by omega)).2]
theorem mdL_set (sl:Nat→Value) (hd:Nat→Bool):∀n k,k<n→(∀c,(mdL sl hd n).set (k*2) c=mdL (upF sl k c) hd n)∧(∀c,(mdL sl hd n).set (k*2+1) (.bool c)=mdL sl (upF hd k c) n)
 |0,k,h=>absurd h (Nat.not_lt_zero _)
 |n+1,k,h=>by
  have hl:=mdL_len sl hd n
  unfold mdL
  by_cases e:k=n
  ·subst e
   have hc:∀v,mdL (upF sl k v) hd k=mdL sl hd k:=fun v=>mdL_congr (fun j hj=>⟨upF_ne sl v (by omega),rfl⟩)
   have hc2:∀v,mdL sl (upF hd k v) k=mdL sl hd k:=fun v=>mdL_congr (fun j hj=>⟨rfl,upF_ne hd v (by omega)⟩)
   refine ⟨fun c=> ?_,fun c=> ?_⟩
   ·rw [List.set_append_right _ _ (by omega),hc,upF_eq,hl,show k*2-k*2=0 by omega];rfl
   ·rw [List.set_append_right _ _ (by omega),hc2,upF_eq,hl,show k*2+1-k*2=1 by omega];rfl
  ·obtain ⟨h1,h2⟩:=mdL_set sl hd n k (by omega)
   refine ⟨fun c=> ?_,fun c=> ?_⟩<;>rw [List.set_append_left _ _ (by omega),upF_ne _ _ (fun h=>e h.symm)]
   ·rw [h1]
   ·rw [h2]
def WsL (w:World) (P:Nat→Prop) (W:Nat→Nat) (v:Value):Prop:=∃b o cap,v=wsV b o cap∧SlO w 30 1 v 256 (wdL W 256)∧¬P b
structure MdS (w:World) (P:Nat→Prop) (v:Value) (sl:Nat→Value) (n:Nat) (W:Nat→Nat→Nat) (hd:Nat→Bool):Prop where
 m:SlO w 42 2 v n (mdL sl hd n)
 out:∀x,v.ownBlock=some x→¬P x
 ws:∀k,k<n→WsL w P (W k) (sl k)
 ne:∀k,k<n→∀x,v.ownBlock=some x→(sl k).ownBlock≠some x
abbrev PF (Y:Lay) (b:Nat) (x:Nat):Prop:=Y.F x∨x=b
def mW (D:DS) (l0:Nat) (k:Nat):Nat→Nat:=wd D (l0+32*k)
def mH (f:Nat→Int×Int×Bool) (k:Nat):Bool:=(f k).2.2
section
variable {w w':World} {Y Y':Lay} {P P':Nat→Prop} {v:Value} {sl:Nat→Value} {n k b:Nat} {W V:Nat→Nat→Nat} {U:Nat→Nat} {hd he:Nat→Bool}
theorem WsL.ext (h:WsL w P U v) (e:Ext w w'):WsL w' P U v:=by
 obtain ⟨b,o,cap,hv,hs,hp⟩:=h
 exact ⟨b,o,cap,hv,hs.ext e,hp⟩
theorem WsL.frm (h:WsL w P U v) (f:Frm P w w') (hP:∀x,P' x→P x∨w.heap.size≤x):WsL w' P' U v:=by
 obtain ⟨b,o,cap,rfl,hs,hp⟩:=h
 refine ⟨b,o,cap,rfl,hs.frm f (fun x hx=>by injection hx with hx;subst hx;exact hp),fun h2=> ?_⟩
 rcases hP b h2 with h3|h3
 ·exact hp h3
 ·have h9:b<w.heap.size:=hs.lt rfl;omega
theorem MdS.ext (h:MdS w P v sl n W hd) (e:Ext w w'):MdS w' P v sl n W hd:=⟨h.m.ext e,h.out,fun k hk=>(h.ws k hk).ext e,h.ne⟩
theorem MdS.frm (h:MdS w P v sl n W hd) (f:Frm P w w') (hP:∀x,P' x→P x∨w.heap.size≤x):MdS w' P' v sl n W hd:=by
 refine ⟨h.m.frm f h.out,fun x hx hp=> ?_,fun k hk=>(h.ws k hk).frm f hP,h.ne⟩
 rcases hP x hp with h3|h3
 ·exact h.out x hx h3
 ·have:=h.m.lt hx;omega
theorem MdS.congr (h:MdS w P v sl n W hd) (hW:∀k,k<n→∀i,i<256→W k i=V k i) (hh:∀k,k<n→hd k=he k):MdS w P v sl n V he:=by
 refine ⟨?_,h.out,fun k hk=> ?_,h.ne⟩
 ·have:=h.m
  rwa [mdL_congr (fun k hk=>⟨rfl,hh k hk⟩)] at this
 ·obtain ⟨b,o,cap,hv,hs,hp⟩:=h.ws k hk
  rw [wdL_congr (hW k hk)] at hs
  exact ⟨b,o,cap,hv,hs,hp⟩
theorem MdS.nil (w:World) (P:Nat→Prop) (sl:Nat→Value) (W:Nat→Nat→Nat) (hd:Nat→Bool):MdS w P (.slice none 0 0) sl 0 W hd:=⟨SlO.nil _ _ _,fun x hx=>(by cases hx),fun k hk=>absurd hk (Nat.not_lt_zero _),fun k hk=>absurd hk (Nat.not_lt_zero _)⟩
theorem MdS.get (h:MdS w P v sl n W hd) (hk:k<n):∃b o cap g q cp,v= .slice (some ⟨g,q,none⟩) n cp∧w.cell? ⟨g,q+k*2,none⟩=some (wsV b o cap)∧w.cell? ⟨g,q+k*2+1,none⟩=some (.bool (hd k))∧Wm w b o (W k)∧sl k=wsV b o cap:=by
 obtain ⟨b,o,cap,hv,hs,hp⟩:=h.ws k hk
 obtain ⟨g,q,cp,rfl,_⟩:=h.m.isS (by omega)
 have hg:=mdL_get sl hd n k hk
 have c0:=h.m.cell rfl hg.1
 have c1:=h.m.cell rfl hg.2
 rw [←Nat.add_assoc] at c1
 rw [hv] at c0 hs
 exact ⟨b,o,cap,g,q,cp,rfl,c0,c1,Wm.of_sl hs,hv⟩
theorem WsL.new {m:Nat} {b o cap:Nat} (hs:SlO w 30 1 (wsV b o cap) 256 (wdL U 256)) (hb:m≤b) (hP:∀x,P x→x<m):WsL w P U (wsV b o cap):=⟨b,o,cap,rfl,hs,fun h=>by have:=hP b h;omega⟩
end
section
variable {w w':World} {P:Nat→Prop} {v:Value} {sl:Nat→Value} {n k b o cap:Nat} {W:Nat→Nat→Nat} {U:Nat→Nat} {hd:Nat→Bool}
end
end Go.Proofs.YtifpinhjpbgnoaaGreatDoor
namespace Go.Proofs.YtifpinhjpbgnoaaGreatDoor
open Go Go.Sh
set_option maxRecDepth 100000
set_option maxHeartbeats 4000000
set_option linter.unusedSimpArgs false
set_option linter.unusedVariables false
section
variable {w w':World} {P:Nat→Prop} {D:DS} {l b o cap l0 n k:Nat} {U:Nat→Nat} {f:Nat→Int×Int×Bool} {c:Int}
end
end Go.Proofs.YtifpinhjpbgnoaaGreatDoor
namespace Go.Proofs.YtifpinhjpbgnoaaGreatDoor
open Go Go.Sh
set_option maxRecDepth 100000
set_option maxHeartbeats 4000000
set_option linter.unusedSimpArgs false
set_option linter.unusedVariables false
section
variable {w0 w w':World} {P:Nat→Prop} {v:Value} {sl:Nat→Value} {n k b o cap g q cp l0:Nat} {W:Nat→Nat→Nat} {U:Nat→Nat} {hd:Nat→Bool} {D:DS} {f:Nat→Int×Int×Bool}
theorem MdS.wr (h:MdS w P (.slice (some ⟨g,q,none⟩) n cp) sl n W hd) (hk:k<n) (hs:WsL w P U (wsV b o cap)) (hb:b≠g) (mm:Bool):MdS ((w.setCell ⟨g,q+k*2,none⟩ (wsV b o cap)).setCell ⟨g,q+k*2+1,none⟩ (.bool mm)) P (.slice (some ⟨g,q,none⟩) n cp) (upF sl k (wsV b o cap)) n (upF W k U) (upF hd k mm):=by
 have h1:=SlO.updZ h.m (wsV b o cap) (show k*2<n*2 by omega)
 rw [(mdL_set sl hd n k hk).1] at h1
 have h2:=SlO.updZ h1 (.bool mm) (show k*2+1<n*2 by omega)
 rw [(mdL_set _ hd n k hk).2,←Nat.add_assoc] at h2
 have fr:Frm (fun x=>x=g) w ((w.setCell ⟨g,q+k*2,none⟩ (wsV b o cap)).setCell ⟨g,q+k*2+1,none⟩ (.bool mm)):=(Frm.one w g (q+k*2) (wsV b o cap)).set _ (fun _=>rfl)
 refine ⟨h2,h.out,fun j hj=> ?_,fun j hj x hx=> ?_⟩
 ·by_cases e:j=k
  ·subst e
   rw [upF_eq,upF_eq]
   obtain ⟨b',o',cap',hv',hsl,hp⟩:=hs
   injection hv' with e1 _ e3
   injection e1 with e1
   injection e1 with e4 e5 _
   subst e4;subst e5;subst e3
   exact ⟨b,o,cap,rfl,hsl.frm fr (fun x hx h2=>by
    have h9:b=x:=Option.some.inj hx
    exact hb (h9.trans h2)),hp⟩
  ·rw [upF_ne _ _ e,upF_ne _ _ e]
   obtain ⟨b2,o2,cap2,h3,hs2,hp2⟩:=h.ws j hj
   exact ⟨b2,o2,cap2,h3,hs2.frm fr (fun x hx h4=>by
    subst h4
    exact h.ne j hj x rfl hx),hp2⟩
 ·by_cases e:j=k
  ·subst e
   rw [upF_eq]
   intro h2
   have h8:g=x:=Option.some.inj hx
   have h9:b=x:=Option.some.inj h2
   exact hb (h9.trans h8.symm)
  ·rw [upF_ne _ _ e]
   exact h.ne j hj x hx
theorem MdS.wr1 (h:MdS w P (.slice (some ⟨g,q,none⟩) n cp) sl n W hd) (hk:k<n) (mm:Bool):MdS (w.setCell ⟨g,q+k*2+1,none⟩ (.bool mm)) P (.slice (some ⟨g,q,none⟩) n cp) sl n W (upF hd k mm):=by
 have h2:=SlO.updZ h.m (.bool mm) (show k*2+1<n*2 by omega)
 rw [(mdL_set _ hd n k hk).2,←Nat.add_assoc] at h2
 refine ⟨h2,h.out,fun j hj=> ?_,h.ne⟩
 obtain ⟨b2,o2,cap2,h3,hs2,hp2⟩:=h.ws j hj
 exact ⟨b2,o2,cap2,h3,hs2.frm (Frm.one w g (q+k*2+1) (.bool mm)) (fun x hx h4=>by
  subst h4
  exact h.ne j hj x rfl hx),hp2⟩
end
end Go.Proofs.YtifpinhjpbgnoaaGreatDoor
namespace Go.Proofs.YtifpinhjpbgnoaaGreatDoor
open Go Go.Sh
set_option maxRecDepth 100000
set_option maxHeartbeats 4000000
set_option linter.unusedSimpArgs false
set_option linter.unusedVariables false
section
variable {wb w w':World} {P:Nat→Prop} {v:Value} {sl:Nat→Value} {n k b o cap B g l0:Nat} {U:Nat→Nat} {D:DS} {f:Nat→Int×Int×Bool} {c t:Int}
end
end Go.Proofs.YtifpinhjpbgnoaaGreatDoor
namespace Go.Proofs.YtifpinhjpbgnoaaGreatDoor
open Go Go.Sh
set_option maxRecDepth 100000
set_option maxHeartbeats 4000000
set_option linter.unusedSimpArgs false
set_option linter.unusedVariables false
section
variable {w w':World} {P:Nat→Prop} {n:Nat}
end
end Go.Proofs.YtifpinhjpbgnoaaGreatDoor
namespace Go.Proofs.YtifpinhjpbgnoaaGreatDoor
open Go Go.Sh
set_option maxRecDepth 100000
set_option maxHeartbeats 4000000
set_option linter.unusedSimpArgs false
set_option linter.unusedVariables false
section
variable {w0 w w':World} {Y Y':Lay} {D D':DS} {S b o cp l0 n k:Nat} {f f':Nat→Int×Int×Bool}
end
end Go.Proofs.YtifpinhjpbgnoaaGreatDoor
namespace Go.Proofs.YtifpinhjpbgnoaaGreatDoor
open Go Go.Sh
set_option maxRecDepth 100000
set_option maxHeartbeats 4000000
set_option linter.unusedSimpArgs false
set_option linter.unusedVariables false
section
variable {w w':World} {Y:Lay} {D:DS} {l:Nat} {c o:Int} {g:Nat}
abbrev erH (w:World) (Y:Lay) (e:Int):Prop:=∀(w1:World) (K:K1),Ext w w1→callS Tryz.prog 19 #[.pointer (some ⟨Y.tb 0,0,none⟩)] w1 K=K (.int .i64 e) w1
theorem Dv.er (h:Dv w Y D):erH w Y (D.err 0):=fun w1 K e=>c_Err (h.ext e) 0 (by omega) K
end
end Go.Proofs.YtifpinhjpbgnoaaGreatDoor
namespace Go.Proofs.YtifpinhjpbgnoaaGreatDoor
open Go Go.Sh
set_option maxRecDepth 100000
set_option maxHeartbeats 4000000
set_option linter.unusedSimpArgs false
set_option linter.unusedVariables false
section
variable {w w':World}
theorem RdS.mono22 {v:Value} {L:List Value} {m m':Nat} (h:RdS m w v L) (e:m≤m'):RdS m' w v L:=by
 obtain ⟨a,cap,hv,h⟩:=h
 refine ⟨a,cap,hv,?_⟩
 rcases h with h|⟨b,o,ha,hb,hc⟩
 ·exact .inl h
 ·exact .inr ⟨b,o,ha,by omega,hc⟩
end
end Go.Proofs.YtifpinhjpbgnoaaGreatDoor
namespace Go.Proofs.YtifpinhjpbgnoaaGreatDoor
open Go Go.Sh
set_option maxRecDepth 100000
set_option linter.unusedVariables false
noncomputable def f6_u:Code×Dec:=((Tryz.f6.body).getD .skip,(.s .o (.s .o (.s .o (.s .o (.s .o (.s .o (.x 896 (.s .o (.b (.l [9,57] 108086391056892320 1496577676626844588240573268701473668012486880655888 (.s .o (.s .o (.x 252201579132748704 (.b (.s .o (.s .o (.s .o (.s .o (.s .o (.s .o (.s .o (.s .o (.x 252201579132814240 (.s .o (.b (.l [134] 16333553612205046246242233358304006964128 44579712325578306221409780570421089848524800 .o))) (.s .o (.s .o (.x 252201579136943008 (.s .o (.b (.l [22,151] 252201579132748704 93533250293792374845273712721903214267706946617344 (.s .o (.s .o (.x 2854495385411919762116571939151191851902436256 (.b (.s .o (.s .o (.b (.l [22,154] 2854495385411919762116571939151191851906630560 46745216431505598024420982071409864706807738400768 .o))))) .o)))))) .o))))))))))))) .o)))))) (.x 512 (.s .o (.b (.l [173] 8979466059761067529443439612208842872766049544045184 102844034820602756221670817203909820411809201105077350590054400 (.s .o (.s .o (.x 20952087472775824235368025761820633369787448936104576 (.b (.s .o (.s .o (.s .o (.s .o (.b (.l [188] 294260095933723436629037997238621183888167698908321940096 51421625097429227149795047218078252801559489403834099780550656 (.s .o (.s .o (.x 686578954395390984368774836189100334894564914187324097152 .o .o)))))))))) .o)))))) (.x 0 (.s .o (.b (.l [208] 308532104497726132904056721729503219684262974806296224377864192 52244769694948291838420271546195878533201863733866160678498205712 .o))) .o))))))))))
abbrev f6_e (K:K1):KF:=endK Tryz.prog Tryz.f6.results.toList K
def f6_k1_o (K:K1):KF:=fun fr w=>∀σ,cP (pr (pr (pr (pr (pr (pr (pr f6_u))))))) (f6_e K) (f6_e K) nX (mixF 896 σ 0 fr) w
def f6_k1 (K:K1) (x7 x8 x9:Value) (w:World):Prop:=f6_k1_o K (fz 215 0 [(7,x7),(8,x8),(9,x9)]) w
def f6_l1 (K:K1) (x5 x7 x8 x9 x55 x56 x57:Value) (w:World):Prop:=loopT [9,57] 108086391056892320 (fun E=>cP (pl (pl (pr (pl (pr (pr (pr (pr (pr (pr f6_u)))))))))) E (f6_e K) (exB 0 (f6_k1_o K) nX)) (fz 215 0 [(5,x5),(7,x7),(8,x8),(9,x9),(55,x55),(56,x56),(57,x57)]) w
def f6_k2_o (K:K1):KF:=fun fr w=>∀σ,cP (pr (pr (pr (pr (pr (pr (pr (pr f6_u)))))))) (f6_e K) (f6_e K) nX (mixF 512 σ 0 fr) w
def f6_k2 (K:K1) (x9:Value) (w:World):Prop:=f6_k2_o K (fz 215 0 [(9,x9)]) w
def f6_l2 (K:K1) (x7 x9 x171 x172 x173:Value) (w:World):Prop:=loopT [173] 8979466059761067529443439612208842872766049544045184 (fun E=>cP (pl (pl (pr (pl (pr (pr (pr (pr (pr (pr (pr f6_u))))))))))) E (f6_e K) (exB 8 (f6_k2_o K) nX)) (fz 215 0 [(7,x7),(9,x9),(171,x171),(172,x172),(173,x173)]) w
def f6_k3_o (K:K1) (E1:VP2):KF:=fun fr w=>∀σ,cP (pr (pr (pr (pl (pl (pr (pl (pr (pr (pr (pr (pr (pr f6_u))))))))))))) (fun fr w=>E1 (sv fr 9) (sv fr 57) w) (f6_e K) (exB 0 (f6_k1_o K) nX) (mixF 252201579132748704 σ 0 fr) w
def f6_k3 (K:K1) (E1:VP2) (x5 x7 x8 x9 x55 x56 x57:Value) (w:World):Prop:=f6_k3_o K E1 (fz 215 0 [(5,x5),(7,x7),(8,x8),(9,x9),(55,x55),(56,x56),(57,x57)]) w
def f6_k4_o (K:K1) (E1:VP2):KF:=fun fr w=>∀σ,cP (pr (pr (pr (pr (pr (pr (pr (pr (pr (pl (pl (pr (pr (pl (pl (pr (pl (pr (pr (pr (pr (pr (pr f6_u))))))))))))))))))))))) (f6_k3_o K E1) (f6_e K) (exB 1 (f6_k3_o K E1) (exB 0 (f6_k1_o K) nX)) (mixF 252201579132814240 σ 0 fr) w
def f6_k4 (K:K1) (E1:VP2) (x5 x7 x8 x9 x16 x55 x56 x57:Value) (w:World):Prop:=f6_k4_o K E1 (fz 215 0 [(5,x5),(7,x7),(8,x8),(9,x9),(16,x16),(55,x55),(56,x56),(57,x57)]) w
def f6_l3 (K:K1) (E1:VP2) (x5 x7 x8 x9 x16 x55 x56 x57 x132 x133 x134:Value) (w:World):Prop:=loopT [134] 16333553612205046246242233358304006964128 (fun E=>cP (pl (pl (pr (pl (pr (pr (pr (pr (pr (pr (pr (pr (pl (pl (pr (pr (pl (pl (pr (pl (pr (pr (pr (pr (pr (pr f6_u)))))))))))))))))))))))))) E (f6_e K) (exB 2 (f6_k4_o K E1) (exB 1 (f6_k3_o K E1) (exB 0 (f6_k1_o K) nX)))) (fz 215 0 [(5,x5),(7,x7),(8,x8),(9,x9),(16,x16),(55,x55),(56,x56),(57,x57),(132,x132),(133,x133),(134,x134)]) w
def f6_k5_o (K:K1):KF:=fun fr w=>∀σ,cP (pr (pr (pr (pr (pr (pr (pr (pr (pr f6_u))))))))) (f6_e K) (f6_e K) nX (mixF 0 σ 0 fr) w
def f6_k5 (K:K1) (w:World):Prop:=f6_k5_o K (fz 215 0 []) w
def f6_l4 (K:K1) (x206 x207 x208:Value) (w:World):Prop:=loopT [208] 308532104497726132904056721729503219684262974806296224377864192 (fun E=>cP (pl (pl (pr (pl (pr (pr (pr (pr (pr (pr (pr (pr f6_u)))))))))))) E (f6_e K) (exB 12 (f6_k5_o K) nX)) (fz 215 0 [(206,x206),(207,x207),(208,x208)]) w
def f6_k6_o (K:K1) (E1:VP1):KF:=fun fr w=>∀σ,cP (pr (pr (pr (pl (pl (pr (pl (pr (pr (pr (pr (pr (pr (pr f6_u)))))))))))))) (fun fr w=>E1 (sv fr 173) w) (f6_e K) (exB 8 (f6_k2_o K) nX) (mixF 20952087472775824235368025761820633369787448936104576 σ 0 fr) w
def f6_k6 (K:K1) (E1:VP1) (x7 x9 x171 x172 x173:Value) (w:World):Prop:=f6_k6_o K E1 (fz 215 0 [(7,x7),(9,x9),(171,x171),(172,x172),(173,x173)]) w
def f6_l5 (K:K1) (E1:VP1) (x7 x9 x27 x171 x172 x173 x186 x187 x188:Value) (w:World):Prop:=loopT [188] 294260095933723436629037997238621183888167698908321940096 (fun E=>cP (pl (pl (pr (pr (pr (pr (pl (pl (pr (pr (pl (pl (pr (pl (pr (pr (pr (pr (pr (pr (pr f6_u))))))))))))))))))))) E (f6_e K) (exB 10 (f6_k6_o K E1) (exB 9 (f6_k6_o K E1) (exB 8 (f6_k2_o K) nX)))) (fz 215 0 [(7,x7),(9,x9),(27,x27),(171,x171),(172,x172),(173,x173),(186,x186),(187,x187),(188,x188)]) w
def f6_k7_o (K:K1) (E1:VP2):KF:=fun fr w=>∀σ,cP (pr (pr (pr (pr (pr (pr (pr (pr (pr (pr (pr (pr (pl (pl (pr (pr (pl (pl (pr (pl (pr (pr (pr (pr (pr (pr f6_u)))))))))))))))))))))))))) (f6_k3_o K E1) (f6_e K) (exB 1 (f6_k3_o K E1) (exB 0 (f6_k1_o K) nX)) (mixF 252201579136943008 σ 0 fr) w
def f6_k7 (K:K1) (E1:VP2) (x5 x7 x8 x9 x22 x55 x56 x57:Value) (w:World):Prop:=f6_k7_o K E1 (fz 215 0 [(5,x5),(7,x7),(8,x8),(9,x9),(22,x22),(55,x55),(56,x56),(57,x57)]) w
def f6_l6 (K:K1) (E1:VP2) (x5 x7 x8 x9 x22 x55 x56 x57 x151:Value) (w:World):Prop:=loopT [22,151] 252201579132748704 (fun E=>cP (pl (pl (pr (pl (pr (pr (pr (pr (pr (pr (pr (pr (pr (pr (pr (pl (pl (pr (pr (pl (pl (pr (pl (pr (pr (pr (pr (pr (pr f6_u))))))))))))))))))))))))))))) E (f6_e K) (exB 4 (f6_k7_o K E1) (exB 1 (f6_k3_o K E1) (exB 0 (f6_k1_o K) nX)))) (fz 215 0 [(5,x5),(7,x7),(8,x8),(9,x9),(22,x22),(55,x55),(56,x56),(57,x57),(151,x151)]) w
def f6_k8_o (K:K1) (E1:VP1) (E2:VP1):KF:=fun fr w=>∀σ,cP (pr (pr (pr (pl (pl (pr (pr (pr (pr (pl (pl (pr (pr (pl (pl (pr (pl (pr (pr (pr (pr (pr (pr (pr f6_u)))))))))))))))))))))))) (fun fr w=>E2 (sv fr 188) w) (f6_e K) (exB 10 (f6_k6_o K E1) (exB 9 (f6_k6_o K E1) (exB 8 (f6_k2_o K) nX))) (mixF 686578954395390984368774836189100334894564914187324097152 σ 0 fr) w
def f6_k8 (K:K1) (E1:VP1) (E2:VP1) (x7 x9 x27 x171 x172 x173 x186 x187 x188:Value) (w:World):Prop:=f6_k8_o K E1 E2 (fz 215 0 [(7,x7),(9,x9),(27,x27),(171,x171),(172,x172),(173,x173),(186,x186),(187,x187),(188,x188)]) w
def f6_k9_o (K:K1) (E1:VP2) (E2:VP2):KF:=fun fr w=>∀σ,cP (pr (pr (pr (pl (pl (pr (pl (pr (pr (pr (pr (pr (pr (pr (pr (pr (pr (pr (pl (pl (pr (pr (pl (pl (pr (pl (pr (pr (pr (pr (pr (pr f6_u)))))))))))))))))))))))))))))))) (fun fr w=>E2 (sv fr 22) (sv fr 151) w) (f6_e K) (exB 4 (f6_k7_o K E1) (exB 1 (f6_k3_o K E1) (exB 0 (f6_k1_o K) nX))) (mixF 2854495385411919762116571939151191851902436256 σ 0 fr) w
def f6_k9 (K:K1) (E1:VP2) (E2:VP2) (x5 x7 x8 x9 x22 x55 x56 x57 x151:Value) (w:World):Prop:=f6_k9_o K E1 E2 (fz 215 0 [(5,x5),(7,x7),(8,x8),(9,x9),(22,x22),(55,x55),(56,x56),(57,x57),(151,x151)]) w
def f6_l7 (K:K1) (E1:VP2) (E2:VP2) (x5 x7 x8 x9 x22 x23 x55 x56 x57 x151 x154:Value) (w:World):Prop:=loopT [22,154] 2854495385411919762116571939151191851906630560 (fun E=>cP (pl (pl (pr (pr (pl (pl (pr (pr (pl (pl (pr (pl (pr (pr (pr (pr (pr (pr (pr (pr (pr (pr (pr (pl (pl (pr (pr (pl (pl (pr (pl (pr (pr (pr (pr (pr (pr f6_u))))))))))))))))))))))))))))))))))))) E (f6_e K) (exB 6 (f6_k9_o K E1 E2) (exB 5 (f6_k9_o K E1 E2) (exB 4 (f6_k7_o K E1) (exB 1 (f6_k3_o K E1) (exB 0 (f6_k1_o K) nX)))))) (fz 215 0 [(5,x5),(7,x7),(8,x8),(9,x9),(22,x22),(23,x23),(55,x55),(56,x56),(57,x57),(151,x151),(154,x154)]) w
def f6_k1_t (x7 x8 x9:Value) (K:K1) (w:World):Prop:=
 callS Tryz.prog 31 (pA #[x8]) w fun t171 w_1=>
 bltS Tryz.prog .len #[50] 3 #[false] #[t171] w_1 fun t172 w_2=>
 f6_l2 K x7 x9 t171 t172 (.int .i64 0) w_2
theorem f6_k1_eq (K:K1) (x7 x8 x9:Value) (w:World):f6_k1 K x7 x8 x9 w=f6_k1_t x7 x8 x9 K w:=cutE fun σ=>by kernel_rfl
def f6_l1_t (x5 x7 x8 x9 x55 x56 x57:Value) (K:K1) (E1:VP2) (w:World):Prop:=
 ev Tryz.prog (binM .lss 3 (.tmp 57) (.tmp 56) x57 x56) w fun t58 w_1=>
 cndS t58 (
 ev Tryz.prog (Instr.indexAt 58 x55 x57) w_1 fun t59 w_2=>
 ldS Tryz.prog 5 t59 w_2 fun t60 w_3=>
 ev Tryz.prog (convert 5 3 t60) w_3 fun t64 w_4=>
 ev Tryz.prog (binM .rem 3 (.tmp 64) (.const (.int .i64 8)) t64 (.int .i64 8)) w_4 fun t65 w_5=>
 ev Tryz.prog (convert 5 3 t60) w_5 fun t67 w_6=>
 ev Tryz.prog (binM .quo 3 (.tmp 67) (.const (.int .i64 8)) t67 (.int .i64 8)) w_6 fun t68 w_7=>
 ev Tryz.prog (binM .rem 3 (.tmp 68) (.const (.int .i64 5)) t68 (.int .i64 5)) w_7 fun t69 w_8=>
 callS Tryz.prog 22 (pA #[x8,t65,t69]) w_8 fun t70 w_9=>
 ev Tryz.prog (Instr.extract t70 0) w_9 fun t71 w_10=>
 ev Tryz.prog (Instr.extract t70 1) w_10 fun t72 w_11=>
 ev Tryz.prog (binM .neq 43 (.tmp 73) (.const (.int .i64 0)) t72 (.int .i64 0)) w_11 fun t74 w_12=>
 cndS t74 (
 ev Tryz.prog (binM .neq 43 (.tmp 75) (.const (.int .i64 4)) t72 (.int .i64 4)) w_12 fun t76 w_13=>
 gd t76 false (fun k=>k x9 w_13) w_13 fun t78 w_14=>
 gd t76 false (fun k=>bltS Tryz.prog .len #[62] 3 #[false] #[t78] w_14 k) w_14 fun t79 w_15=>
 gd t76 false (fun k=>k x5 w_15) w_15 fun t80 w_16=>
 gd t76 false (fun k=>ev Tryz.prog (binM .lss 3 (.tmp 79) (.tmp 80) t79 t80) w_16 k) w_16 fun t81 w_17=>
 pickS t76 (.bool true) t81 w_17 fun t82 w_18=>
 cndS t82 (
 K (.bool false) w_18) (
 f6_k3 K E1 x5 x7 x8 x9 x55 x56 x57 w_18)) (
 ev Tryz.prog (Instr.makeInterface 25 x7) w_12 fun t85 w_19=>
 callS Tryz.prog 23 (pA #[t85,t71]) w_19 fun t87 w_20=>
 ev Tryz.prog (Instr.extract t87 0) w_20 fun t88 w_21=>
 ev Tryz.prog (Instr.extract t87 1) w_21 fun t89 w_22=>
 ev Tryz.prog (Instr.alloc 69 true (.tuple #[])) w_22 fun t14 w_23=>
 stS Tryz.prog 69 t14 t88 w_23 fun w_24=>
 ev Tryz.prog (binM .neq 43 (.tmp 90) (.const (.int .i64 0)) t89 (.int .i64 0)) w_24 fun t91 w_25=>
 gd t91 false (fun k=>ldS Tryz.prog 69 t14 w_25 k) w_25 fun t93 w_26=>
 gd t91 false (fun k=>callS Tryz.prog 24 (pA #[t93]) w_26 k) w_26 fun t94 w_27=>
 gd t91 false (fun k=>k t60 w_27) w_27 fun t95 w_28=>
 gd t91 false (fun k=>ev Tryz.prog (convert 5 3 t95) w_28 k) w_28 fun t96 w_29=>
 gd t91 false (fun k=>ev Tryz.prog (binM .rem 3 (.tmp 96) (.const (.int .i64 8)) t96 (.int .i64 8)) w_29 k) w_29 fun t97 w_30=>
 gd t91 false (fun k=>ev Tryz.prog (binM .neq 3 (.tmp 94) (.tmp 97) t94 t97) w_30 k) w_30 fun t98 w_31=>
 pickS t91 (.bool true) t98 w_31 fun t99 w_32=>
 gd t99 false (fun k=>ldS Tryz.prog 69 t14 w_32 k) w_32 fun t101 w_33=>
 gd t99 false (fun k=>callS Tryz.prog 25 (pA #[t101]) w_33 k) w_33 fun t102 w_34=>
 gd t99 false (fun k=>k t60 w_34) w_34 fun t103 w_35=>
 gd t99 false (fun k=>ev Tryz.prog (convert 5 3 t103) w_35 k) w_35 fun t104 w_36=>
 gd t99 false (fun k=>ev Tryz.prog (binM .quo 3 (.tmp 104) (.const (.int .i64 8)) t104 (.int .i64 8)) w_36 k) w_36 fun t105 w_37=>
 gd t99 false (fun k=>ev Tryz.prog (binM .rem 3 (.tmp 105) (.const (.int .i64 5)) t105 (.int .i64 5)) w_37 k) w_37 fun t106 w_38=>
 gd t99 false (fun k=>ev Tryz.prog (binM .neq 3 (.tmp 102) (.tmp 106) t102 t106) w_38 k) w_38 fun t107 w_39=>
 pickS t99 (.bool true) t107 w_39 fun t108 w_40=>
 gd t108 false (fun k=>ldS Tryz.prog 69 t14 w_40 k) w_40 fun t110 w_41=>
 gd t108 false (fun k=>callS Tryz.prog 26 (pA #[t110]) w_41 k) w_41 fun t111 w_42=>
 gd t108 false (fun k=>ev Tryz.prog (binM .neq 3 (.tmp 111) (.const (.int .i64 0)) t111 (.int .i64 0)) w_42 k) w_42 fun t112 w_43=>
 pickS t108 (.bool true) t112 w_43 fun t113 w_44=>
 cndS t113 (
 K (.bool false) w_44) (
 ldS Tryz.prog 69 t14 w_44 fun t115 w_45=>
 callS Tryz.prog 27 (pA #[t115,(.int .i64 0),(.int .u8 ((64:Nat):Int))]) w_45 fun t116 w_46=>
 ev Tryz.prog (Instr.extract t116 0) w_46 fun t117 w_47=>
 ev Tryz.prog (Instr.extract t116 1) w_47 fun t118 w_48=>
 ldS Tryz.prog 69 t14 w_48 fun t120 w_49=>
 ev Tryz.prog (Instr.buildSlice 50 1 #[(0,(.int .i64 0))]) w_49 fun t121 w_50=>
 ev Tryz.prog (Instr.buildSlice 58 1 #[(0,(.int .u8 ((64:Nat):Int)))]) w_50 fun t122 w_51=>
 callS Tryz.prog 28 (pA #[t120,t121,t122,(.slice none 0 0)]) w_51 fun t123 w_52=>
 ev Tryz.prog (Instr.extract t123 0) w_52 fun t124 w_53=>
 ev Tryz.prog (Instr.extract t123 1) w_53 fun t125 w_54=>
 ev Tryz.prog (binM .neq 43 (.tmp 126) (.const (.int .i64 0)) t118 (.int .i64 0)) w_54 fun t127 w_55=>
 gd t127 false (fun k=>k t125 w_55) w_55 fun t129 w_56=>
 gd t127 false (fun k=>ev Tryz.prog (binM .neq 43 (.tmp 129) (.const (.int .i64 0)) t129 (.int .i64 0)) w_56 k) w_56 fun t130 w_57=>
 pickS t127 (.bool true) t130 w_57 fun t131 w_58=>
 cndS t131 (
 K (.bool false) w_58) (
 bltS Tryz.prog .len #[76] 3 #[false] #[t124] w_58 fun t133 w_59=>
 f6_l3 K E1 x5 x7 x8 x9 t117 x55 x56 x57 t124 t133 (.int .i64 0) w_59)))) (
 f6_k1 K x7 x8 x9 w_1)
theorem f6_l1_rule (x5 x7 x8 x9 x55 x56 x57:Value) (K:K1) (w:World) (I:VP2) (μ:Value→Value→World→Nat) (h0:I x9 x57 w)
  (hr:∀(x9 x57:Value) (w:World),I x9 x57 w→∀E1:VP2,(∀(y9 y57:Value) (w':World),I y9 y57 w'→μ y9 y57 w'<μ x9 x57 w→E1 y9 y57 w')→f6_l1_t x5 x7 x8 x9 x55 x56 x57 K E1 w):f6_l1 K x5 x7 x8 x9 x55 x56 x57 w:=
 ⟨I,μ,h0,fun σ w hI E hE=>cast (by kernel_rfl) (hr (σ 9) (σ 57) w hI E hE)⟩
def f6_k2_t (x9:Value) (K:K1) (w:World):Prop:=
 bltS Tryz.prog .len #[62] 3 #[false] #[x9] w fun t207 w_1=>
 f6_l4 K x9 t207 (.int .i64 0) w_1
theorem f6_k2_eq (K:K1) (x9:Value) (w:World):f6_k2 K x9 w=f6_k2_t x9 K w:=cutE fun σ=>by kernel_rfl
def f6_l2_t (x7 x9 x171 x172 x173:Value) (K:K1) (E1:VP1) (w:World):Prop:=
 ev Tryz.prog (binM .lss 3 (.tmp 173) (.tmp 172) x173 x172) w fun t174 w_1=>
 cndS t174 (
 ev Tryz.prog (Instr.indexAt 50 x171 x173) w_1 fun t175 w_2=>
 ldS Tryz.prog 3 t175 w_2 fun t176 w_3=>
 ev Tryz.prog (Instr.makeInterface 25 x7) w_3 fun t179 w_4=>
 callS Tryz.prog 23 (pA #[t179,t176]) w_4 fun t181 w_5=>
 ev Tryz.prog (Instr.extract t181 0) w_5 fun t182 w_6=>
 ev Tryz.prog (Instr.extract t181 1) w_6 fun t183 w_7=>
 ev Tryz.prog (Instr.alloc 69 true (.tuple #[])) w_7 fun t27 w_8=>
 stS Tryz.prog 69 t27 t182 w_8 fun w_9=>
 ev Tryz.prog (binM .neq 43 (.tmp 184) (.const (.int .i64 0)) t183 (.int .i64 0)) w_9 fun t185 w_10=>
 cndS t185 (
 f6_k6 K E1 x7 x9 x171 x172 x173 w_10) (
 bltS Tryz.prog .len #[62] 3 #[false] #[x9] w_10 fun t187 w_11=>
 f6_l5 K E1 x7 x9 t27 x171 x172 x173 x9 t187 (.int .i64 0) w_11)) (
 f6_k2 K x9 w_1)
theorem f6_l2_rule (x7 x9 x171 x172 x173:Value) (K:K1) (w:World) (I:VP1) (μ:Value→World→Nat) (h0:I x173 w)
  (hr:∀(x173:Value) (w:World),I x173 w→∀E1:VP1,(∀(y173:Value) (w':World),I y173 w'→μ y173 w'<μ x173 w→E1 y173 w')→f6_l2_t x7 x9 x171 x172 x173 K E1 w):f6_l2 K x7 x9 x171 x172 x173 w:=
 ⟨I,μ,h0,fun σ w hI E hE=>cast (by kernel_rfl) (hr (σ 173) w hI E hE)⟩
def f6_k3_t (x5 x7 x8 x9 x55 x56 x57:Value) (K:K1) (E1:VP2) (w:World):Prop:=
 ev Tryz.prog (binM .add 3 (.tmp 57) (.const (.int .i64 1)) x57 (.int .i64 1)) w fun t169 w_1=>
 E1 x9 t169 w_1
theorem f6_k3_eq (K:K1) (E1:VP2) (x5 x7 x8 x9 x55 x56 x57:Value) (w:World):f6_k3 K E1 x5 x7 x8 x9 x55 x56 x57 w=f6_k3_t x5 x7 x8 x9 x55 x56 x57 K E1 w:=cutE fun σ=>by kernel_rfl
def f6_k4_t (x5 x7 x8 x9 x16 x55 x56 x57:Value) (K:K1) (E1:VP2) (w:World):Prop:=
 ev Tryz.prog (Instr.buildSlice 62 1 #[(0,x16)]) w fun t147 w_1=>
 bltS Tryz.prog .append #[62,62] 62 #[false,false] (pA #[x9,t147]) w_1 fun t148 w_2=>
 callS Tryz.prog 29 (pA #[x8]) w_2 fun t150 w_3=>
 f6_l6 K E1 x5 x7 x8 t148 t150 x55 x56 x57 (.int .i64 0) w_3
theorem f6_k4_eq (K:K1) (E1:VP2) (x5 x7 x8 x9 x16 x55 x56 x57:Value) (w:World):f6_k4 K E1 x5 x7 x8 x9 x16 x55 x56 x57 w=f6_k4_t x5 x7 x8 x9 x16 x55 x56 x57 K E1 w:=cutE fun σ=>by kernel_rfl
def f6_l3_t (x5 x7 x8 x9 x16 x55 x56 x57 x132 x133 x134:Value) (K:K1) (E1:VP2) (E2:VP1) (w:World):Prop:=
 ev Tryz.prog (binM .lss 3 (.tmp 134) (.tmp 133) x134 x133) w fun t135 w_1=>
 cndS t135 (
 ev Tryz.prog (Instr.indexAt 76 x132 x134) w_1 fun t136 w_2=>
 ldS Tryz.prog 80 t136 w_2 fun t137 w_3=>
 ev Tryz.prog (Instr.alloc 80 true (.tuple #[])) w_3 fun t21 w_4=>
 stS Tryz.prog 80 t21 t137 w_4 fun w_5=>
 ev Tryz.prog (Instr.fieldAt 80 t21 0) w_5 fun t139 w_6=>
 ldS Tryz.prog 30 t139 w_6 fun t140 w_7=>
 ev Tryz.prog (Instr.fieldAt 80 t21 1) w_7 fun t141 w_8=>
 ldS Tryz.prog 30 t141 w_8 fun t142 w_9=>
 callS Tryz.prog 11 (pA #[x7,t140,t142]) w_9 fun t143 w_10=>
 ev Tryz.prog (binM .add 3 (.tmp 134) (.const (.int .i64 1)) x134 (.int .i64 1)) w_10 fun t144 w_11=>
 E2 t144 w_11) (
 f6_k4 K E1 x5 x7 x8 x9 x16 x55 x56 x57 w_1)
theorem f6_l3_rule (x5 x7 x8 x9 x16 x55 x56 x57 x132 x133 x134:Value) (K:K1) (E1:VP2) (w:World) (I:VP1) (μ:Value→World→Nat) (h0:I x134 w)
  (hr:∀(x134:Value) (w:World),I x134 w→∀E2:VP1,(∀(y134:Value) (w':World),I y134 w'→μ y134 w'<μ x134 w→E2 y134 w')→f6_l3_t x5 x7 x8 x9 x16 x55 x56 x57 x132 x133 x134 K E1 E2 w):f6_l3 K E1 x5 x7 x8 x9 x16 x55 x56 x57 x132 x133 x134 w:=
 ⟨I,μ,h0,fun σ w hI E hE=>cast (by kernel_rfl) (hr (σ 134) w hI E hE)⟩
def f6_k5_t (K:K1) (w:World):Prop:=
 K (.bool true) w
theorem f6_k5_eq (K:K1) (w:World):f6_k5 K w=f6_k5_t K w:=cutE fun σ=>by kernel_rfl
def f6_l4_t (x206 x207 x208:Value) (K:K1) (E1:VP1) (w:World):Prop:=
 ev Tryz.prog (binM .lss 3 (.tmp 208) (.tmp 207) x208 x207) w fun t209 w_1=>
 cndS t209 (
 ev Tryz.prog (Instr.indexAt 62 x206 x208) w_1 fun t210 w_2=>
 ldS Tryz.prog 73 t210 w_2 fun t211 w_3=>
 ev Tryz.prog (binM .neq 73 (.tmp 212) (.const (.int .u64 ((0:Nat):Int))) t211 (.int .u64 ((0:Nat):Int))) w_3 fun t213 w_4=>
 cndS t213 (
 K (.bool false) w_4) (
 ev Tryz.prog (binM .add 3 (.tmp 208) (.const (.int .i64 1)) x208 (.int .i64 1)) w_4 fun t214 w_5=>
 E1 t214 w_5)) (
 f6_k5 K w_1)
theorem f6_l4_rule (x206 x207 x208:Value) (K:K1) (w:World) (I:VP1) (μ:Value→World→Nat) (h0:I x208 w)
  (hr:∀(x208:Value) (w:World),I x208 w→∀E1:VP1,(∀(y208:Value) (w':World),I y208 w'→μ y208 w'<μ x208 w→E1 y208 w')→f6_l4_t x206 x207 x208 K E1 w):f6_l4 K x206 x207 x208 w:=
 ⟨I,μ,h0,fun σ w hI E hE=>cast (by kernel_rfl) (hr (σ 208) w hI E hE)⟩
def f6_k6_t (x7 x9 x171 x172 x173:Value) (K:K1) (E1:VP1) (w:World):Prop:=
 ev Tryz.prog (binM .add 3 (.tmp 173) (.const (.int .i64 1)) x173 (.int .i64 1)) w fun t205 w_1=>
 E1 t205 w_1
theorem f6_k6_eq (K:K1) (E1:VP1) (x7 x9 x171 x172 x173:Value) (w:World):f6_k6 K E1 x7 x9 x171 x172 x173 w=f6_k6_t x7 x9 x171 x172 x173 K E1 w:=cutE fun σ=>by kernel_rfl
def f6_l5_t (x7 x9 x27 x171 x172 x173 x186 x187 x188:Value) (K:K1) (E1:VP1) (E2:VP1) (w:World):Prop:=
 ev Tryz.prog (binM .lss 3 (.tmp 188) (.tmp 187) x188 x187) w fun t189 w_1=>
 cndS t189 (
 ev Tryz.prog (Instr.indexAt 62 x186 x188) w_1 fun t191 w_2=>
 ldS Tryz.prog 73 t191 w_2 fun t192 w_3=>
 ldS Tryz.prog 69 x27 w_3 fun t194 w_4=>
 callS Tryz.prog 32 (pA #[t194,t192]) w_4 fun t196 w_5=>
 ev Tryz.prog (Instr.extract t196 0) w_5 fun t197 w_6=>
 ev Tryz.prog (Instr.extract t196 1) w_6 fun t198 w_7=>
 ev Tryz.prog (binM .eql 43 (.tmp 199) (.const (.int .i64 0)) t198 (.int .i64 0)) w_7 fun t200 w_8=>
 cndS t200 (
 ev Tryz.prog (Instr.indexAt 62 x9 x188) w_8 fun t203 w_9=>
 stS Tryz.prog 73 t203 (.int .u64 ((0:Nat):Int)) w_9 fun w_10=>
 f6_k8 K E1 E2 x7 x9 x27 x171 x172 x173 x186 x187 x188 w_10) (
 f6_k8 K E1 E2 x7 x9 x27 x171 x172 x173 x186 x187 x188 w_8)) (
 f6_k6 K E1 x7 x9 x171 x172 x173 w_1)
theorem f6_l5_rule (x7 x9 x27 x171 x172 x173 x186 x187 x188:Value) (K:K1) (E1:VP1) (w:World) (I:VP1) (μ:Value→World→Nat) (h0:I x188 w)
  (hr:∀(x188:Value) (w:World),I x188 w→∀E2:VP1,(∀(y188:Value) (w':World),I y188 w'→μ y188 w'<μ x188 w→E2 y188 w')→f6_l5_t x7 x9 x27 x171 x172 x173 x186 x187 x188 K E1 E2 w):f6_l5 K E1 x7 x9 x27 x171 x172 x173 x186 x187 x188 w:=
 ⟨I,μ,h0,fun σ w hI E hE=>cast (by kernel_rfl) (hr (σ 188) w hI E hE)⟩
def f6_k7_t (x5 x7 x8 x9 x22 x55 x56 x57:Value) (K:K1) (E1:VP2) (w:World):Prop:=
 ev Tryz.prog (binM .neq 3 (.tmp 166) (.tmp 167) x22 x5) w fun t168 w_1=>
 cndS t168 (
 K (.bool false) w_1) (
 f6_k3 K E1 x5 x7 x8 x9 x55 x56 x57 w_1)
theorem f6_k7_eq (K:K1) (E1:VP2) (x5 x7 x8 x9 x22 x55 x56 x57:Value) (w:World):f6_k7 K E1 x5 x7 x8 x9 x22 x55 x56 x57 w=f6_k7_t x5 x7 x8 x9 x22 x55 x56 x57 K E1 w:=cutE fun σ=>by kernel_rfl
def f6_l6_t (x5 x7 x8 x9 x22 x55 x56 x57 x151:Value) (K:K1) (E1:VP2) (E2:VP2) (w:World):Prop:=
 ev Tryz.prog (binM .lss 3 (.tmp 151) (.const (.int .i64 8)) x151 (.int .i64 8)) w fun t152 w_1=>
 cndS t152 (
 f6_l7 K E1 E2 x5 x7 x8 x9 x22 x151 x55 x56 x57 x151 (.int .i64 0) w_1) (
 f6_k7 K E1 x5 x7 x8 x9 x22 x55 x56 x57 w_1)
theorem f6_l6_rule (x5 x7 x8 x9 x22 x55 x56 x57 x151:Value) (K:K1) (E1:VP2) (w:World) (I:VP2) (μ:Value→Value→World→Nat) (h0:I x22 x151 w)
  (hr:∀(x22 x151:Value) (w:World),I x22 x151 w→∀E2:VP2,(∀(y22 y151:Value) (w':World),I y22 y151 w'→μ y22 y151 w'<μ x22 x151 w→E2 y22 y151 w')→f6_l6_t x5 x7 x8 x9 x22 x55 x56 x57 x151 K E1 E2 w):f6_l6 K E1 x5 x7 x8 x9 x22 x55 x56 x57 x151 w:=
 ⟨I,μ,h0,fun σ w hI E hE=>cast (by kernel_rfl) (hr (σ 22) (σ 151) w hI E hE)⟩
def f6_k8_t (x7 x9 x27 x171 x172 x173 x186 x187 x188:Value) (K:K1) (E1:VP1) (E2:VP1) (w:World):Prop:=
 ev Tryz.prog (binM .add 3 (.tmp 188) (.const (.int .i64 1)) x188 (.int .i64 1)) w fun t204 w_1=>
 E2 t204 w_1
theorem f6_k8_eq (K:K1) (E1:VP1) (E2:VP1) (x7 x9 x27 x171 x172 x173 x186 x187 x188:Value) (w:World):f6_k8 K E1 E2 x7 x9 x27 x171 x172 x173 x186 x187 x188 w=f6_k8_t x7 x9 x27 x171 x172 x173 x186 x187 x188 K E1 E2 w:=cutE fun σ=>by kernel_rfl
def f6_k9_t (x5 x7 x8 x9 x22 x55 x56 x57 x151:Value) (K:K1) (E1:VP2) (E2:VP2) (w:World):Prop:=
 ev Tryz.prog (binM .add 3 (.tmp 151) (.const (.int .i64 1)) x151 (.int .i64 1)) w fun t165 w_1=>
 E2 x22 t165 w_1
theorem f6_k9_eq (K:K1) (E1:VP2) (E2:VP2) (x5 x7 x8 x9 x22 x55 x56 x57 x151:Value) (w:World):f6_k9 K E1 E2 x5 x7 x8 x9 x22 x55 x56 x57 x151 w=f6_k9_t x5 x7 x8 x9 x22 x55 x56 x57 x151 K E1 E2 w:=cutE fun σ=>by kernel_rfl
def f6_l7_t (x5 x7 x8 x9 x22 x23 x55 x56 x57 x151 x154:Value) (K:K1) (E1:VP2) (E2:VP2) (E3:VP2) (w:World):Prop:=
 ev Tryz.prog (binM .lss 3 (.tmp 154) (.const (.int .i64 5)) x154 (.int .i64 5)) w fun t155 w_1=>
 cndS t155 (
 callS Tryz.prog 30 (pA #[x8,x23,x154]) w_1 fun t161 w_2=>
 bltS Tryz.prog .len #[50] 3 #[false] #[t161] w_2 fun t162 w_3=>
 ev Tryz.prog (binM .add 3 (.tmp 157) (.tmp 162) x22 t162) w_3 fun t163 w_4=>
 ev Tryz.prog (binM .add 3 (.tmp 154) (.const (.int .i64 1)) x154 (.int .i64 1)) w_4 fun t164 w_5=>
 E3 t163 t164 w_5) (
 f6_k9 K E1 E2 x5 x7 x8 x9 x22 x55 x56 x57 x151 w_1)
theorem f6_l7_rule (x5 x7 x8 x9 x22 x23 x55 x56 x57 x151 x154:Value) (K:K1) (E1:VP2) (E2:VP2) (w:World) (I:VP2) (μ:Value→Value→World→Nat) (h0:I x22 x154 w)
  (hr:∀(x22 x154:Value) (w:World),I x22 x154 w→∀E3:VP2,(∀(y22 y154:Value) (w':World),I y22 y154 w'→μ y22 y154 w'<μ x22 x154 w→E3 y22 y154 w')→f6_l7_t x5 x7 x8 x9 x22 x23 x55 x56 x57 x151 x154 K E1 E2 E3 w):f6_l7 K E1 E2 x5 x7 x8 x9 x22 x23 x55 x56 x57 x151 x154 w:=
 ⟨I,μ,h0,fun σ w hI E hE=>cast (by kernel_rfl) (hr (σ 22) (σ 154) w hI E hE)⟩
def f6_t (x0 x1:Value) (K:K1) (w:World):Prop:=
 callS Tryz.prog 8 (pA #[]) w fun t35 w_1=>
 ev Tryz.prog (Op.unary .not t35) w_1 fun t36 w_2=>
 gd t36 false (fun k=>k x1 w_2) w_2 fun t38 w_3=>
 gd t36 false (fun k=>bltS Tryz.prog .len #[58] 3 #[false] #[t38] w_3 k) w_3 fun t39 w_4=>
 gd t36 false (fun k=>ev Tryz.prog (binM .gtr 3 (.tmp 39) (.const (.int .i64 30)) t39 (.int .i64 30)) w_4 k) w_4 fun t40 w_5=>
 pickS t36 (.bool true) t40 w_5 fun t41 w_6=>
 cndS t41 (
 callS Tryz.prog 8 (pA #[]) w_6 fun t42 w_7=>
 K t42 w_7) (
 ev Tryz.prog (convert 5 3 x0) w_6 fun t44 w_8=>
 ev Tryz.prog (binM .rem 3 (.tmp 44) (.const (.int .i64 5)) t44 (.int .i64 5)) w_8 fun t45 w_9=>
 ev Tryz.prog (binM .add 3 (.const (.int .i64 1)) (.tmp 45) (.int .i64 1) t45) w_9 fun t46 w_10=>
 callS Tryz.prog 9 (pA #[t46]) w_10 fun t49 w_11=>
 ev Tryz.prog (Instr.extract t49 0) w_11 fun t50 w_12=>
 ev Tryz.prog (Instr.extract t49 1) w_12 fun t51 w_13=>
 ev Tryz.prog (Instr.extract t49 2) w_13 fun t52 w_14=>
 ev Tryz.prog (binM .eql 26 (.tmp 53) (.const (.pointer none)) t52 (.pointer none)) w_14 fun t54 w_15=>
 cndS t54 (
 K (.bool false) w_15) (
 bltS Tryz.prog .len #[58] 3 #[false] #[x1] w_15 fun t56 w_16=>
 f6_l1 K t46 t51 t52 (.slice none 0 0) x1 t56 (.int .i64 0) w_16))
theorem f6_call (x0 x1:Value) (K:K1) (w:World) (h:f6_t x0 x1 K w):callS Tryz.prog 6 #[x0,x1] w K:=
 call_of_txt (args:= [x0,x1]) mixed Tryz.func6 f6_u.2 (by kernel_rfl) (cast (by kernel_rfl) h)
end Go.Proofs.YtifpinhjpbgnoaaGreatDoor
namespace Go.Proofs.YtifpinhjpbgnoaaGreatDoor
open Go Go.Sh
set_option maxRecDepth 100000
set_option maxHeartbeats 4000000
set_option linter.unusedSimpArgs false
set_option linter.unusedVariables false
section
variable {w0 w w':World} {Y Y':Lay} {D D':DS} {S b o cp n m T:Nat} {f f':Nat→Int×Int×Bool} {v:Value} {P:List Nat}
theorem ArS.frmO (h:ArS w0 w Y D S b o cp 3 n f) {F:Nat→Prop} (e:Frm F w w') (hF:∀x,F x→w0.heap.size≤x∧¬Y.F x∧x≠b∧x≠S):ArS w0 w' Y D S b o cp 3 n f:=
 ⟨⟨h.L.dv.frm e (fun x hx hg=>(hF x hg).2.1 hx),h.L.gd,Ext.frm h.L.ex e (fun x hx=>(hF x hx).1),h.L.nw⟩,h.gl,h.st.frm e (fun hx=>(hF S hx).2.2.2 rfl),h.pl.frm e (fun x hx hf=>by injection hx with hx;subst hx;exact (hF _ hf).2.2.1 rfl),h.nS,h.nb,h.n0,h.lt⟩
def OvA (w0:World) (Y:Lay) (b S:Nat) (v:Value):Prop:=∀x,v.ownBlock=some x→w0.heap.size≤x∧¬Y.F x∧x≠b∧x≠S
theorem OvA.stp (h:OvA w0 Y b S v) (a:AStp w Y b w' Y') (hl:∀x,v.ownBlock=some x→x<w.heap.size):OvA w0 Y' b S v:=fun x hx=>by
 have h1:=h x hx
 refine ⟨h1.1,fun hf=> ?_,h1.2.2⟩
 rcases a.fr x hf with h2|h2
 ·exact h1.2.1 h2
 ·have:=hl x hx;omega
theorem c_OwnerA {l:Nat} {c o:Int} {g:Nat} (K:K1):callS Tryz.prog 24 #[chV Y l c o g] w K=K (.int .i64 o) (w.alloc (chO Y l c o g)):=by
 refine callS_det (by kernel_rfl) (f24_call _ _ _ ?_) K
 unfold f24_t
 simp (disch:=first|omega|simp only [RO]|(simp only [RZ]<;>omega)|fail) only [↓RBp,↓RA,↓reduceIte,Nat.reduceAdd,Nat.reduceMul,Nat.reduceEqDiff,RB,RX,RA2]
theorem ap_l7 (h:ArS w0 w Y D S b o cp 3 n f) (h5:n≤5) (t s0:Nat) (ht:t<8) (hs0:s0≤1000) (K:K1) (E1 E2:VP2) (x5 x7 x9 x55 x56 x57:Value) (HE:∀w',Ext w w'→E2 (.int .i64 ((s0+suC f n t 5:Nat):Int)) (.int .i64 ((t+1:Nat):Int)) w'):
  f6_l7 K E1 E2 x5 x7 (stV S) x9 (.int .i64 (s0:Int)) (.int .i64 (t:Int)) x55 x56 x57 (.int .i64 (t:Int)) (.int .i64 0) w:=by
 have e1:(t:Int)+1=((t+1:Nat):Int):=by omega
 apply f6_l7_rule (I:=fun y z w'=>∃c:Nat,y= .int .i64 ((s0+suC f n t c:Nat):Int)∧z= .int .i64 (c:Int)∧c≤5∧Ext w w') (μ:=fun _ z _=>5-(Go.RowKit.intOf z).toNat)
 ·exact ⟨0,rfl,rfl,by omega,Ext.refl _⟩
 ·intros;rename_i y z w1 hI E3 hE
  obtain ⟨c,rfl,rfl,hc,e01⟩:=hI
  have h1:=h.ext e01
  by_cases hc5:c<5
  ·have hle:=suC_le f n t c
   have hle2:=cnL_le f n t c
   have hcn:c*n≤25:=Nat.le_trans (Nat.mul_le_mul (show c≤5 by omega) h5) (by omega)
   have ec:(c:Int)+1=((c+1:Nat):Int):=by omega
   have es:((s0+suC f n t c:Nat):Int)+(cnL f n t c:Int)=((s0+suC f n t (c+1):Nat):Int):=by simp only [suC];omega
   have hch:=fun (K:K1) (hK:∀v w',Ext w1 w'→SlO w' 3 1 v (cnL f n t c) (i64L (lnL (fun k=>decide ((f k).2.1=(t:Int))&&decide ((f k).1=(c:Int))) 3 n))→K v w')=>k_Chunks h1 (t:Int) (c:Int) (by omega) (by omega) K (fun v w' e _ hs=>hK v w' e hs)
   generalize cnL f n t c=q at*
   obtain ⟨s1,hs1⟩:∃s1,suC f n t (c+1)=s1:=⟨_,rfl⟩
   rw [hs1] at es
   generalize suC f n t c=sc at*
   unfold f6_l7_t
   simp (disch:=first|omega|simp only [RO]|(simp only [RZ]<;>omega)|fail) only [↓RBp,↓RA,↓reduceIte,Nat.reduceAdd,Nat.reduceMul,Nat.reduceEqDiff,RB,RX,RA2]
   refine hch _ (fun v w2 e2 hs=> ?_)
   obtain ⟨pa,pc,rfl,hpc⟩:=hs.isS'
   simp (disch:=first|omega|simp only [RO]|(simp only [RZ]<;>omega)|fail) only [↓RBp,↓RA,↓reduceIte,Nat.reduceAdd,Nat.reduceMul,Nat.reduceEqDiff,RB,RX,RA2,ec,es]
   apply hE
   ·exact ⟨c+1,by rw [hs1],rfl,by omega,e01.trans e2⟩
   ·simp [Go.RowKit.intOf];omega
  ·have:c=5:=by omega
   subst this
   unfold f6_l7_t
   simp (disch:=first|omega|simp only [RO]|(simp only [RZ]<;>omega)|fail) only [↓RBp,↓RA,↓reduceIte,Nat.reduceAdd,Nat.reduceMul,Nat.reduceEqDiff,RB,RX,RA2,f6_k9_eq,f6_k9_t,e1]
   exact HE _ e01
theorem ap_l6 (h:ArS w0 w Y D S b o cp 3 n f) (h5:n≤5) (hsum:frC f n+suT f n 8=n) (j:Nat) (hj:j<1000) (K:K1) (E1:VP2) (x7 x9 x55 x56:Value) (HE:∀w',Ext w w'→E1 x9 (.int .i64 ((j+1:Nat):Int)) w'):
  f6_l6 K E1 (.int .i64 (n:Int)) x7 (stV S) x9 (.int .i64 (frC f n:Int)) x55 x56 (.int .i64 (j:Int)) (.int .i64 0) w:=by
 have ej:(j:Int)+1=((j+1:Nat):Int):=by omega
 have hfr:=frC_le f n
 apply f6_l6_rule (I:=fun y z w'=>∃t:Nat,y= .int .i64 ((frC f n+suT f n t:Nat):Int)∧z= .int .i64 (t:Int)∧t≤8∧Ext w w') (μ:=fun _ z _=>8-(Go.RowKit.intOf z).toNat)
 ·exact ⟨0,rfl,rfl,by omega,Ext.refl _⟩
 ·intros;rename_i y z w1 hI E2 hE
  obtain ⟨t,rfl,rfl,ht,e01⟩:=hI
  have h1:=h.ext e01
  by_cases ht8:t<8
  ·have hle:=suT_le f n t
   have htn:t*(5*n)≤8*25:=Nat.mul_le_mul (by omega) (by omega)
   unfold f6_l6_t
   simp (disch:=first|omega|simp only [RO]|(simp only [RZ]<;>omega)|fail) only [↓RBp,↓RA,↓reduceIte,Nat.reduceAdd,Nat.reduceMul,Nat.reduceEqDiff,RB,RX,RA2]
   refine ap_l7 h1 h5 t (frC f n+suT f n t) ht8 (by omega) K E1 E2 _ _ _ _ _ _ (fun w2 e2=> ?_)
   apply hE
   ·exact ⟨t+1,by simp only [suT];rw [Nat.add_assoc],rfl,by omega,e01.trans e2⟩
   ·simp [Go.RowKit.intOf];omega
  ·have:t=8:=by omega
   subst this
   rw [hsum]
   unfold f6_l6_t
   simp (disch:=first|omega|simp only [RO]|(simp only [RZ]<;>omega)|fail) only [↓RBp,↓RA,↓reduceIte,Nat.reduceAdd,Nat.reduceMul,Nat.reduceEqDiff,RB,RX,RA2,f6_k7_eq,f6_k7_t,f6_k3_eq,f6_k3_t,ej]
   exact HE _ e01
theorem ap_k4 (a:ArS w0 w Y D S b o cp 3 n f) (h5:n≤5) (hsum:frC f n+suT f n 8=n) (hv:SlO w 73 1 v m (ptL P)) (ov:OvA w0 Y b S v) (hm:m<1000) (p:Nat) (j:Nat) (hj:j<1000) (K:K1) (E1:VP2) (x7 x55 x56:Value)
  (HE:∀v' w',ArS w0 w' Y D S b o cp 3 n f→SlO w' 73 1 v' (m+1) (ptL (P++ [p]))→OvA w0 Y b S v'→E1 v' (.int .i64 ((j+1:Nat):Int)) w'):
  f6_k4 K E1 (.int .i64 (n:Int)) x7 (stV S) v (u64 p) x55 x56 (.int .i64 (j:Int)) w:=by
 have hF:∀b,Y.F b→b<w.heap.size:=fun b hb=>a.L.dv.lt hb
 have ltb:=a.ltb
 have ltS:=a.ltS
 have a1:=a.ext (Ext.alloc_self w (.cells #[u64 p] 73))
 obtain ⟨pa,pc,rfl,hpc⟩:=hv.isS'
 rw [f6_k4_eq]
 unfold f6_k4_t
 simp (disch:=first|omega|simp only [RO]|(simp only [RZ]<;>omega)|fail) only [↓RBp,↓RA,↓reduceIte,Nat.reduceAdd,Nat.reduceMul,Nat.reduceEqDiff,RB,RX,RA2]
 refine app_new elPtr (w0:=w0) (hv.ext (by repeat (first|(with_reducible first|refine Sh.eB ?_ (by first|omega|(simp only [RZ]<;>omega)) _|assumption|exact Sh.eR _|refine Sh.eA ?_ _|refine Sh.eD ?_|refine Sh.eT ?_ (by assumption))|exact Sh.eR _))) (Frm.of_ext (a.L.ex.trans (by repeat (first|(with_reducible first|refine Sh.eB ?_ (by first|omega|(simp only [RZ]<;>omega)) _|assumption|exact Sh.eR _|refine Sh.eA ?_ _|refine Sh.eD ?_|refine Sh.eT ?_ (by assumption))|exact Sh.eR _)))) (fun b hb=>(ov b hb).1) (m:=1) (news:= [u64 p]) rfl ?_ rfl (by omega) (by omega) (by omega) (fun v' w4 hsp hf4 n4 hfr4 hb4=> ?_)
 ·intro j u hj
  obtain ⟨rfl,rfl⟩:=one_get hj
  simp (disch:=first|omega|simp only [RO]|(simp only [RZ]<;>omega)|fail) only [↓RBp,↓RA,↓reduceIte,Nat.reduceAdd,Nat.reduceMul,Nat.reduceEqDiff,RB,RX,RA2]
 have a4:=a1.frmO hfr4 (fun b hb=>ov b hb)
 have ov4:OvA w0 Y b S v':=fun x hx=>by
  rcases hb4 x hx with e|e
  ·exact ov x e
  ·rw [size_alloc] at e
   exact ⟨n4 x hx,fun hf=>by have:=hF x hf;omega,by omega,by omega⟩
 simp (disch:=first|omega|simp only [RO]|(simp only [RZ]<;>omega)|fail) only [↓RBp,↓RA,↓reduceIte,Nat.reduceAdd,Nat.reduceMul,Nat.reduceEqDiff,RB,RX,RA2]
 refine k_FreeChunks a4 _ (fun w5 e5=> ?_)
 refine ap_l6 (a4.ext e5) h5 hsum j hj K E1 _ _ _ _ (fun w6 e6=> ?_)
 exact HE _ _ ((a4.ext e5).ext e6) (by rw [ptL,List.map_append];exact (hsp.ext e5).ext e6) ov4
theorem ap_l3 (dv:Dv w Y D) (hgd:Good D) (hx:D.exe<100000000) {ws:List (Nat×Nat)} {u:Value} (hu:SlO w 80 2 u ws.length (wrL ws)) (nu:∀x,u.ownBlock=some x→¬Y.F x) (hok1:∀x∈ws,x.1<18446744073709551616∧x.2<18446744073709551616) (hwl:ws.length≤150) (K:K1) (E1:VP2) (x5 x8 x9 x16 x55 x56 x57:Value) (hT:Y.tb 0=T)
  (HE:∀w' Y',Stp w Y w' Y' (D.strs ws)→f6_k4 K E1 x5 (.pointer (some ⟨T,0,none⟩)) x8 x9 x16 x55 x56 x57 w'):
  f6_l3 K E1 x5 (.pointer (some ⟨T,0,none⟩)) x8 x9 x16 x55 x56 x57 u (.int .i64 (ws.length:Int)) (.int .i64 0) w:=by
 have gs:∀j,Good (D.strs (ws.take j)):=fun j=>strs_good hgd (fun x hx=>hok1 x (List.mem_of_mem_take hx))
 have xs:∀j,(D.strs (ws.take j)).exe<1000000000:=fun j=>by
  have:=strs_exe D (ws.take j)
  rw [List.length_take] at this
  have h2:=Nat.min_le_right j ws.length
  omega
 apply f6_l3_rule (I:=fun z w'=>∃(j:Nat) (Y':Lay),z= .int .i64 (j:Int)∧j≤ws.length∧Stp w Y w' Y' (D.strs (ws.take j))) (μ:=fun z _=>ws.length-(Go.RowKit.intOf z).toNat)
 ·exact ⟨0,Y,rfl,by omega,by rw [strs_zero];exact Stp.ext dv (Ext.refl _)⟩
 ·intros;rename_i w1 hI E3 hE
  obtain ⟨j,Y1,rfl,hj,st⟩:=hI
  have tb1:Y1.tb 0=Y.tb 0:=by rw [st.tb]
  by_cases hjl:j<ws.length
  ·obtain ⟨x,hx1⟩:∃x,ws[j]? =some x:=⟨_,List.getElem?_eq_getElem hjl⟩
   have hxo:=hok1 x (List.mem_of_getElem? hx1)
   have htk:=strs_take (D:=D) hx1
   have hu1:=hu.frm st.frm nu
   have hcu:=wr_cells hu1 hjl
   rw [List.getElem?_eq_getElem hjl] at hx1
   rw [Option.some.inj hx1] at hcu
   obtain ⟨xo,xv⟩:=x
   obtain ⟨ub,uo,uc,rfl,hc1,hc2⟩:=hcu
   simp only at hc1 hc2 hxo htk
   have gj:=gs j
   have xj:=xs j
   generalize D.strs (ws.take j)=Dj at*
   have ltu:=lt_of_cell hc1
   unfold f6_l3_t
   rw [←hT,←tb1]
   simp (disch:=first|omega|simp only [RO]|(simp only [RZ]<;>omega)|fail) only [↓RBp,↓RA,↓reduceIte,Nat.reduceAdd,Nat.reduceMul,Nat.reduceEqDiff,RB,RX,RA2,hc1,hc2]
   refine k_Store (st.dv.ext (by repeat (first|(with_reducible first|refine Sh.eB ?_ (by first|omega|(simp only [RZ]<;>omega)) _|assumption|exact Sh.eR _|refine Sh.eA ?_ _|refine Sh.eD ?_|refine Sh.eT ?_ (by assumption))|exact Sh.eR _))) gj 0 (by omega) xo xv (by omega) _ (fun w2 Y2 st2=> ?_)
   have st12:Stp w1 Y1 w2 Y2 (Dj.store 0 xo xv):=Stp.pre (by repeat (first|(with_reducible first|refine Sh.eB ?_ (by first|omega|(simp only [RZ]<;>omega)) _|assumption|exact Sh.eR _|refine Sh.eA ?_ _|refine Sh.eD ?_|refine Sh.eT ?_ (by assumption))|exact Sh.eR _)) (fun x hx=>st.dv.lt hx) st2
   have st13:Stp w Y w2 Y2 (Dj.store 0 xo xv):=st.trans st12
   have ek:(j:Int)+1=((j+1:Nat):Int):=by omega
   simp (disch:=first|omega|simp only [RO]|(simp only [RZ]<;>omega)|fail) only [↓RBp,↓RA,↓reduceIte,Nat.reduceAdd,Nat.reduceMul,Nat.reduceEqDiff,RB,RX,RA2,ek]
   apply hE
   ·exact ⟨j+1,Y2,rfl,by omega,by rw [htk];exact st13⟩
   ·simp [Go.RowKit.intOf];omega
  ·have hjl:j=ws.length:=by omega
   subst hjl
   rw [List.take_length] at st
   unfold f6_l3_t
   simp (disch:=first|omega|simp only [RO]|(simp only [RZ]<;>omega)|fail) only [↓RBp,↓RA,↓reduceIte,Nat.reduceAdd,Nat.reduceMul,Nat.reduceEqDiff,RB,RX,RA2]
   exact HE _ _ st
end
end Go.Proofs.YtifpinhjpbgnoaaGreatDoor
namespace Go.Proofs.YtifpinhjpbgnoaaGreatDoor
open Go Go.Sh
set_option maxRecDepth 100000
set_option maxHeartbeats 4000000
set_option linter.unusedSimpArgs false
set_option linter.unusedVariables false
structure PlA (w0 w:World) (Y:Lay) (D:DS) (S b o cp n:Nat) (f:Nat→Int×Int×Bool) (v:Value) (sl:Nat→Value):Prop where
 a:ArS w0 w Y D S b o cp 3 n f
 r:RgS D 3 n f
 m:MdS w (PF Y b) v sl n (mW D 3) (mH f)
 n5:n≤5
section
variable {w0 w w':World} {Y Y':Lay} {D D':DS} {S b o cp n X:Nat} {f f':Nat→Int×Int×Bool} {v tv dv:Value} {sl:Nat→Value} {kd:Nat} {th cl ch:Int} {on:Bool}
theorem PlA.ext (p:PlA w0 w Y D S b o cp n f v sl) (e:Ext w w'):PlA w0 w' Y D S b o cp n f v sl:=⟨p.a.ext e,p.r,p.m.ext e,p.n5⟩
theorem PlA.hP (p:PlA w0 w Y D S b o cp n f v sl):∀x,PF Y b x→x<w.heap.size:=fun x hx=>by
 rcases hx with hx|hx
 ·exact p.a.L.dv.lt hx
 ·have:=p.a.ltb;omega
end
end Go.Proofs.YtifpinhjpbgnoaaGreatDoor
namespace Go.Proofs.YtifpinhjpbgnoaaGreatDoor
open Go Go.Sh
set_option maxRecDepth 100000
set_option maxHeartbeats 4000000
set_option linter.unusedSimpArgs false
set_option linter.unusedVariables false
section
variable {w0 w w':World} {Y Y':Lay} {D D':DS} {S b o cp n X C k:Nat} {f f':Nat→Int×Int×Bool} {v tv dv:Value} {sl:Nat→Value} {kd:Nat} {th cl ch:Int} {on:Bool} {c:Int}
theorem act_in22 {l:Nat} (c0:0≤c) (c5:c<5) {L M:List Int} {ks:List Nat} {ws:List (Nat×Nat)} (ha:ActA c L ks M) (hs:actN D l c L ks M=some ws):∀x∈ws,∃q,0<q∧q<256∧x.1=l*64+q*8:=by
 obtain ⟨h1,h2,h3⟩:=actN_spec ha.len hs
 have vL:=ha.vL
 have vM:=ha.vM
 have bdi:∀x:Int,0≤x∧x<perS c→8≤offN c x.toNat∧offN c x.toNat<256:=fun x hx=>(offN_bd c0 c5 (i:=x.toNat) (by omega)).2
 intro y hy
 rcases h3 with ⟨rfl,_⟩|rfl
 ·cases hy
 ·simp only [List.mem_append,List.mem_map,List.mem_singleton] at hy
  rcases hy with (hy|⟨x,hx,rfl⟩)|rfl
  ·obtain ⟨x,hx,k,hk,e,_⟩:=zipW_mem hy
   subst e
   have:=bdi x (vL x hx)
   exact ⟨offN c x.toNat,by omega,by omega,rfl⟩
  ·have:=bdi x (vM x hx)
   exact ⟨offN c x.toNat,by omega,by omega,rfl⟩
  ·exact ⟨1,by omega,by omega,rfl⟩
end
end Go.Proofs.YtifpinhjpbgnoaaGreatDoor
namespace Go.Proofs.YtifpinhjpbgnoaaGreatDoor
open Go Go.Sh
set_option maxRecDepth 100000
set_option maxHeartbeats 4000000
set_option linter.unusedSimpArgs false
set_option linter.unusedVariables false
abbrev cvA (T l:Nat) (c t:Int) (gg:Nat):Value:= .agg #[.iface 25 (.pointer (some ⟨T,0,none⟩)),.int .i64 (l:Int),.int .i64 c,.int .i64 t,.int .u16 (gg:Int)]
section
variable {w0 w w':World} {Y Y':Lay} {D D':DS} {S b o cp n m T g:Nat} {f f':Nat→Int×Int×Bool} {v:Value} {P:List Nat} {c t:Int}
structure ApW (D:DS) (n:Nat) (f:Nat→Int×Int×Bool) (m:Nat) (c t:Int) (g:Nat) (ws:List (Nat×Nat)):Prop where
 ok:∀x∈ws,x.1<18446744073709551616∧x.2<18446744073709551616
 len:ws.length=2
 r:RgS (D.strs ws) 3 n f
 oth:∀j,j<n→j≠m→∀i,i<256→wd (D.strs ws) (3+32*j) i=wd D (3+32*j) i
 tk:TakenAt (D.strs ws) (3+32*m) c t 0 g 64
 n:(D.strs ws).n=D.n
 exe:(D.strs ws).exe≤D.exe+2
theorem ap_ws (r:RgS D 3 n f) (hm:m<n) (n5:n≤5) (e1:(f m).1=c) (e2:(f m).2.1=t) (c0:0≤c) (c5:c<5) (hsn:Snd D (3+32*m) c t) (hfr:∀i:Nat,(i:Int)<perS c→bS (wd D (3+32*m) (offN c i))=176∧bG (wd D (3+32*m) (offN c i))=g):∃ws,actN D (3+32*m) c [((0:Nat):Int)] [64] []=some ws∧ApW D n f m c t g ws:=by
 have hp:=perS_in c0 c5
 have hlt:=r.lt
 have hk:((0:Nat):Int)<perS c:=by omega
 have hf:FreeAt D (3+32*m) c t 0 g:=⟨hsn,(hfr 0 hk).1,(hfr 0 hk).2⟩
 obtain ⟨ws,hws,hlen⟩:=take_act hf (by omega) hk 64
 have ha:=(act1 (c:=c) hk 64 (by omega) (by omega)).1
 have hE:=act_wd r.on r.gd (l:=3+32*m) (by omega) c0 c5 ha hws
 have hin:=act_in22 c0 c5 ha hws
 have hS:ActS D (D.strs ws) (3+32*m) c t [((0:Nat):Int)] [64] [] ws:=⟨hE,hsn.act c0 c5 ha hE,strs_good r.gd (fun x hx=>⟨by have:=(hE.ok x hx).2.1;have:=r.gd.n;omega,(hE.ok x hx).2.2⟩),strs_n _ _,strs_exe _ _⟩
 have hok:∀x∈ws,(x.1%8=0∧x.1<D.n*64)∧x.1<18446744073709551616∧x.2<18446744073709551616:=fun x hx=>by
  have h1:=hE.ok x hx
  have:=r.gd.n
  exact ⟨⟨h1.1,h1.2.1⟩,by omega,h1.2.2⟩
 obtain ⟨s1,s2⟩:=st_rg (ws:=ws) r hm hok (fun x hx=>by obtain ⟨q,q0,q1,h2⟩:=hin x hx;omega) (fun x hx=>by obtain ⟨q,q0,q1,h2⟩:=hin x hx;omega) (fun _=>by rw [e1,e2];exact hS.snd)
 refine ⟨ws,hws,fun x hx=>(hok x hx).2,hlen,s1,s2,took hk (by omega) hf hS,hS.n,?_⟩
 have:=hS.exe;omega
theorem ap_con (dv:Dv w Y D) (hG:Glob w) (r:RgS D 3 n f) (hm:m<n) (n5:n≤5) (e1:(f m).1=c) (e2:(f m).2.1=t) (c0:0≤c) (c5:c<5) (hsn:Snd D (3+32*m) c t) (hfr:∀i:Nat,(i:Int)<perS c→bS (wd D (3+32*m) (offN c i))=176∧bG (wd D (3+32*m) (offN c i))=g) (hT:Y.tb 0=T):∃(gg:Nat) (ob:Obj) (ws:List (Nat×Nat)),
  (∀(w1:World) (K:K1),Ext w w1→(∀w',Ext w1 w'→K (.tuple #[cvA T (3+32*m) c t gg,.int .i64 0]) w')→callS Tryz.prog 23 #[.iface 25 (.pointer (some ⟨T,0,none⟩)),.int .i64 ((3+32*m:Nat):Int)] w1 K)∧
  (∀(w1:World) (K:K1),callS Tryz.prog 24 #[cvA T (3+32*m) c t gg] w1 K=K (.int .i64 t) (w1.alloc ob))∧
  (∀(w1:World) (K:K1),callS Tryz.prog 25 #[cvA T (3+32*m) c t gg] w1 K=K (.int .i64 c) (w1.alloc ob))∧
  (∀(w1:World) (K:K1),Ext w w1→(∀w',Ext w1 w'→K (.int .i64 0) w')→callS Tryz.prog 26 #[cvA T (3+32*m) c t gg] w1 K)∧
  (∀(w1:World) (K:K1),Ext w w1→(∀w',Ext w1 w'→K (.tuple #[.int .u64 ((ptrN (pOff (3+32*m) c 0) g 64:Nat):Int),.int .i64 0]) w')→callS Tryz.prog 27 #[cvA T (3+32*m) c t gg,.int .i64 0,.int .u8 ((64:Nat):Int)] w1 K)∧
  (∀(w1:World) (v kv:Value) (K:K1),Ext w w1→RdS w1.heap.size w1 v (i64L [((0:Nat):Int)])→RdS w1.heap.size w1 kv (u8L [64])→(∀u w',Ext w1 w'→NewV w1.heap.size u→SlO w' 80 2 u ws.length (wrL ws)→K (.tuple #[u,.int .i64 0]) w')→callS Tryz.prog 28 #[cvA T (3+32*m) c t gg,v,kv,.slice none 0 0] w1 K)∧
  ApW D n f m c t g ws:=by
 subst hT
 have hp:=perS_in c0 c5
 have hlt:=r.lt
 have hk:((0:Nat):Int)<perS c:=by omega
 obtain ⟨ws,hws,hW⟩:=ap_ws r hm n5 e1 e2 c0 c5 hsn hfr
 have hag:=r.ag m hm
 have hcx:∀w1,Ext w w1→Cx w1 Y D (3+32*m) c:=fun w1 e=>⟨dv.ext e,r.gd,hG.ext e,r.on.off,by omega,c0,c5⟩
 refine ⟨gX (wd D (3+32*m) 0),chO Y (3+32*m) c t (gX (wd D (3+32*m) 0)),ws,fun w1 K e hK=> ?_,fun w1 K=>c_OwnerA K,fun w1 K=>c_Class K,fun w1 K e hK=> ?_,fun w1 K e hK=> ?_,fun w1 v kv K e hv hkv hK=> ?_,hW⟩
 ·refine k_OpenAt (dv.ext e) r.gd (hG.ext e) r.on.off r.on.err (3+32*m) (by omega) hag.1 K (fun w' e'=> ?_)
  rw [←hag.2.1,←hag.2.2,e1,e2,if_neg (by omega)]
  exact hK w' e'
 ·refine k_Count (hcx w1 e) t _ K (fun w' e'=> ?_)
  rw [cnt_no (fun i hi=>(hfr i (by omega)).1)]
  exact hK w' e'
 ·have hsb:=hsn.sndB c0 c5 0 hk
  have hb:=hfr 0 hk
  refine k_Pointer (hcx w1 e) r.on.err t _ 0 64 (by omega) K (fun h=>absurd ⟨by omega,hk⟩ h) (fun j hj hp1 hn1=> ?_) (fun j hj hp1 hn1 hs=> ?_) (fun j hj hp1 hn1 hs=> ?_) (fun j hj hp1 hn1 hs hk=> ?_) (fun j hj hp1 hn1 hs hk0 hk1=> ?_)
  all_goals obtain rfl:0=j:=by omega
  ·exact absurd hsb hn1
  ·rw [hb.1] at hs;omega
  ·rw [hb.1] at hs;omega
  ·omega
  ·rw [hb.2];exact hK
 ·have ha:=(act1 (c:=c) hk 64 (by omega) (by omega)).1
  refine k_Actions (hcx w1 e) r.on.err t _ [((0:Nat):Int)] [] [64] v kv _ hv hkv (RdS.nil _ _) (by simp) (by simp) (by simp) (fun k hk=>by simp only [List.mem_singleton] at hk;omega) K (fun h=>absurd ha h) (fun _ h=> ?_) (fun _ ws2 h2 u w' e' nu hu=> ?_)
  ·rw [hws] at h;cases h
  ·rw [hws] at h2;injection h2 with h2;subst h2
   exact hK u w' e' nu hu
end
end Go.Proofs.YtifpinhjpbgnoaaGreatDoor
namespace Go.Proofs.YtifpinhjpbgnoaaGreatDoor
open Go Go.Sh
set_option maxRecDepth 100000
set_option maxHeartbeats 4000000
set_option linter.unusedSimpArgs false
set_option linter.unusedVariables false
def zW (P:List Nat) (i j:Nat):Nat:=if j<i then 0 else P.getD j 0
theorem zW_zero (P:List Nat):∀m,P.length=m→ptL P=wdL (zW P 0) m:=by
 intro m hm
 subst hm
 apply List.ext_getElem?
 intro i
 by_cases h:i<P.length
 ·rw [wdL_get h,List.getElem?_map,List.getElem?_eq_getElem h]
  unfold zW
  rw [if_neg (by omega),List.getD_eq_getElem?_getD,List.getElem?_eq_getElem h];rfl
 ·rw [List.getElem?_eq_none (by simp;omega),List.getElem?_eq_none (by simp [wdL];omega)]
theorem zW_set (P:List Nat) (i m:Nat):(wdL (zW P i) m).set i (u64 0)=wdL (zW P (i+1)) m:=by
 rw [wdL_set]
 refine wdL_congr (fun j hj=> ?_)
 unfold zW
 by_cases h:j=i
 ·rw [if_pos h,if_pos (by omega)]
 ·rw [if_neg h]
  by_cases h2:j<i
  ·rw [if_pos h2,if_pos (by omega)]
  ·rw [if_neg h2,if_neg (by omega)]
theorem lnT_len (l0:Nat):∀n,(lnL (fun _=>true) l0 n).length=n
 |0=>rfl
 |n+1=>by simp [lnL,lnT_len l0 n]
theorem lnT_get (l0:Nat):∀n i,i<n→(lnL (fun _=>true) l0 n)[i]? =some ((l0+32*i:Nat):Int)
 |0,i,h=>absurd h (Nat.not_lt_zero _)
 |n+1,i,h=>by
  simp only [lnL,if_true]
  by_cases e:i=n
  ·subst e
   rw [List.getElem?_append_right (by rw [lnT_len];exact Nat.le_refl _),lnT_len,Nat.sub_self];rfl
  ·rw [List.getElem?_append_left (by rw [lnT_len];omega)]
   exact lnT_get l0 n i (by omega)
section
variable {w0 w w':World} {Y Y':Lay} {D D':DS} {S b o cp n m T g C i:Nat} {f f':Nat→Int×Int×Bool} {v:Value} {P:List Nat} {c t:Int}
def evB (i q:Nat):Int:=if q<i then 1 else if q=i then 0 else 2
theorem ap_blk (dv:Dv w Y D) (hG:Glob w) (I:ApI D n f m P) (n5:n≤5) (hi:i<m) (hT:Y.tb 0=T) (q:Nat) (hq:q<m) (w1:World) (K:K1) (e:Ext w w1) (hK:∀w',Ext w1 w'→K (iE 0 (evB i q)) w'):
  callS Tryz.prog 32 #[cvA T (3+32*i) (f i).1 (f i).2.1 (gX (wd D (3+32*i) 0)),.int .u64 (zW P i q:Int)] w1 K:=by
 subst hT
 have hmn:=I.mn
 have hlt:=I.r.lt
 have hl:=I.lo i hi
 have hlq:=I.lo q hq
 have hp:=perS_in hl.1 hl.2.1
 have hpq:=perS_in hlq.1 hlq.2.1
 obtain ⟨g,g6,hP,ht⟩:=I.tk q hq
 have hcx:Cx w1 Y D (3+32*i) (f i).1:=⟨dv.ext e,I.r.gd,hG.ext e,I.r.on.off,by omega,hl.1,hl.2.1⟩
 have hz:q<i→zW P i q=0:=fun h=>by unfold zW;rw [if_pos h]
 have hz2:¬q<i→zW P i q=ptrN (pOff (3+32*q) (f q).1 0) g 64:=fun h=>by unfold zW;rw [if_neg h,List.getD_eq_getElem?_getD,hP];rfl
 have hb0:=offN_bd hlq.1 hlq.2.1 (i:=0) (by omega)
 have hpo:=pOff_bd (l:=3+32*q) (c:=(f q).1) (i:=0) (by omega) hlq.1 hlq.2.1 (by omega)
 have hpt:=ptr_bd (pOff (3+32*q) (f q).1 0) g 64 hpo.2.1 g6 (by omega) hpo.2.2 hpo.1
 have hptO:=pO_ptr (pOff (3+32*q) (f q).1 0) g 64 hpo.1 hpo.2.1
 have hptG:=pG_ptr (pOff (3+32*q) (f q).1 0) g 64 hpo.2.1 g6
 have hptK:=pK_ptr (pOff (3+32*q) (f q).1 0) g 64 hpo.2.1 g6 (by omega)
 have hlv:=taken_live (by omega) (show ((0:Nat):Int)<perS (f q).1 by omega) ht
 have hbK:bK (wd D (3+32*q) (offN (f q).1 0))=64:=ht.2.2.2
 have e0:pOff (3+32*q) (f q).1 0=(3+32*q)*64+offN (f q).1 0*8+8:=rfl
 generalize hpp:ptrN (pOff (3+32*q) (f q).1 0) g 64=p at*
 have hfar:q≠i→∀k:Nat,(k:Int)<perS (f i).1→pO p≠pOff (3+32*i) (f i).1 k:=fun hqi k hk h=>by
  have hbk:=offN_bd hl.1 hl.2.1 hk
  have e1:pOff (3+32*i) (f i).1 k=(3+32*i)*64+offN (f i).1 k*8+8:=rfl
  rw [hptO,e0,e1] at h
  omega
 have hsame:q=i→∀k:Nat,(k:Int)<perS (f i).1→pO p=pOff (3+32*i) (f i).1 k→k=0:=fun hqi k hk h=>by
  subst hqi
  have e1:pOff (3+32*q) (f q).1 k=(3+32*q)*64+offN (f q).1 k*8+8:=rfl
  rw [hptO,e0,e1] at h
  exact offN_inj hlq.1 hlq.2.1 (show offN (f q).1 k=offN (f q).1 0 by omega)
 by_cases h1:q<i
 ·rw [hz h1]
  refine k_Block hcx I.r.on.err _ _ 0 (by omega) K (fun _=> ?_) (fun h=>absurd rfl h) (fun h=>absurd rfl h) (fun h=>absurd rfl h) (fun h=>absurd rfl h)
  have:evB i q=1:=by unfold evB;rw [if_pos h1]
  rw [this] at hK;exact hK
 ·rw [hz2 h1]
  by_cases h2:q=i
  ·have hev:evB i q=0:=by unfold evB;rw [if_neg h1,if_pos h2]
   rw [hev] at hK
   have hs:=hsame h2
   subst h2
   refine k_Block hcx I.r.on.err _ _ p (by omega) K (fun h=>absurd h hpt.1) (fun _ h=> ?_) (fun _ _ k hk h hn=> ?_) (fun _ _ k hk h hl2 hn=> ?_) (fun _ _ k hk h hl2 hn=> ?_)
   ·rcases h with h|h
    ·omega
    ·exact absurd (by rw [hptO]) (h 0 (by omega))
   ·have:=hs k hk h;subst this
    rw [hptG] at hn
    exact absurd hlv hn
   ·have:=hs k hk h;subst this
    rw [hptK,hbK] at hn
    exact absurd rfl hn
   ·have:=hs k hk h;subst this
    exact hK
  ·have hev:evB i q=2:=by unfold evB;rw [if_neg h1,if_neg h2]
   rw [hev] at hK
   have hf2:=hfar h2
   exact k_Block hcx I.r.on.err _ _ p (by omega) K (fun h=>absurd h hpt.1) (fun _ _=>hK) (fun _ _ k hk h _=>absurd h (hf2 k hk)) (fun _ _ k hk h _ _=>absurd h (hf2 k hk)) (fun _ _ k hk h _ _=>absurd h (hf2 k hk))
theorem ap_l5 (a:ArS w0 w Y D S b o cp 3 n f) (I:ApI D n f m P) (n5:n≤5) (hi:i<m) (hT:Y.tb 0=T) {hb ho hc:Nat} (hs:SlO w 73 1 (.slice (some ⟨hb,ho,none⟩) m hc) m (wdL (zW P i) m)) (ov:OvA w0 Y b S (.slice (some ⟨hb,ho,none⟩) m hc)) (hC:Cells w C 69 5 (chF T (3+32*i) (f i).1 (f i).2.1 (gX (wd D (3+32*i) 0)))) (nC:C≠hb) (K:K1) (E1:VP1) (x7 x171 x172:Value)
  (HE:∀w',Frm (fun x=>x=hb) w w'→SlO w' 73 1 (.slice (some ⟨hb,ho,none⟩) m hc) m (wdL (zW P (i+1)) m)→E1 (.int .i64 ((i+1:Nat):Int)) w'):
  f6_l5 K E1 x7 (.slice (some ⟨hb,ho,none⟩) m hc) (.pointer (some ⟨C,0,none⟩)) x171 x172 (.int .i64 (i:Int)) (.slice (some ⟨hb,ho,none⟩) m hc) (.int .i64 (m:Int)) (.int .i64 0) w:=by
 have hmn:=I.mn
 have ei:(i:Int)+1=((i+1:Nat):Int):=by omega
 have hov:=ov hb rfl
 apply f6_l5_rule (I:=fun z w'=>∃q:Nat,z= .int .i64 (q:Int)∧q≤m∧Frm (fun x=>x=hb) w w'∧SlO w' 73 1 (.slice (some ⟨hb,ho,none⟩) m hc) m (wdL (zW P (if q≤i then i else i+1)) m)) (μ:=fun z _=>m-(Go.RowKit.intOf z).toNat)
 ·exact ⟨0,rfl,by omega,Frm.refl _ _,by rw [if_pos (by omega)];exact hs⟩
 ·intros;rename_i z w1 hI E2 hE
  obtain ⟨q,rfl,hq,hf,hs1⟩:=hI
  by_cases hqm:q<m
  ·have a1:=a.frmO hf (fun x hx=>by subst hx;exact hov)
   have hC1:=hC.frm hf nC
   have hG1:Glob w1:=a1.gl.ext a1.L.ex
   have hval:zW P (if q≤i then i else i+1) q=zW P i q:=by
    by_cases h:q≤i
    ·rw [if_pos h]
    ·rw [if_neg h];unfold zW;rw [if_neg (by omega),if_neg (by omega)]
   have r0:=hs1.cell rfl (wdL_get (W:=zW P (if q≤i then i else i+1)) hqm)
   rw [hval] at r0
   have fz:=fun j=>hs1.frz (b:=hb) rfl j
   have hbk:=fun (w2:World) (K:K1) (e:Ext w1 w2) hK=>ap_blk a1.L.dv hG1 I n5 hi hT q hqm w2 K e hK
   have eq':(q:Int)+1=((q+1:Nat):Int):=by omega
   have c0:w1.cell? ⟨C,0,none⟩=some (.iface 25 (.pointer (some ⟨T,0,none⟩))):=hC1.cell (i:=0) (by omega)
   have c1:w1.cell? ⟨C,1,none⟩=some (.int .i64 ((3+32*i:Nat):Int)):=hC1.cell (i:=1) (by omega)
   have c2:w1.cell? ⟨C,2,none⟩=some (.int .i64 (f i).1):=hC1.cell (i:=2) (by omega)
   have c3:w1.cell? ⟨C,3,none⟩=some (.int .i64 (f i).2.1):=hC1.cell (i:=3) (by omega)
   have c4:w1.cell? ⟨C,4,none⟩=some (.int .u16 (gX (wd D (3+32*i) 0):Int)):=hC1.cell (i:=4) (by omega)
   have ltC:=hC1.lt
   have lth:=hs1.lt (b:=hb) rfl
   have done:∀(w2:World),Ext w1 w2→q≠i→E2 (.int .i64 ((q+1:Nat):Int)) w2:=fun w2 e hne=>by
    apply hE
    ·refine ⟨q+1,rfl,by omega,hf.trans (Frm.of_ext e) (fun _ _ h=>h),?_⟩
     have:(if q+1≤i then i else i+1)=(if q≤i then i else i+1):=by
      by_cases h:q≤i
      ·rw [if_pos h,if_pos (by omega)]
      ·rw [if_neg h,if_neg (by omega)]
     rw [this];exact hs1.ext e
    ·simp [Go.RowKit.intOf];omega
   have don2:∀(w2:World),Ext w1 w2→q=i→E2 (.int .i64 ((q+1:Nat):Int)) (w2.setCell ⟨hb,ho+q,none⟩ (u64 0)):=fun w2 e heq=>by
    subst heq
    apply hE
    ·refine ⟨q+1,rfl,by omega,(hf.trans (Frm.of_ext e) (fun _ _ h=>h)).set _ (fun _=>rfl),?_⟩
     rw [if_neg (by omega)]
     have h1:=SlO.upd (hs1.ext e) (u64 0) hqm
     rw [if_pos (Nat.le_refl _),zW_set] at h1
     exact h1
    ·simp [Go.RowKit.intOf];omega
   generalize zW P i q=p at*
   generalize gX (wd D (3+32*i) 0)=gg at*
   generalize hev:evB i q=ev at*
   unfold f6_l5_t
   simp (disch:=first|omega|simp only [RO]|(simp only [RZ]<;>omega)|fail) only [↓RBp,↓RA,↓reduceIte,Nat.reduceAdd,Nat.reduceMul,Nat.reduceEqDiff,RB,RX,RA2,r0,c0,c1,c2,c3,c4]
   refine hbk _ _ (by repeat (first|(with_reducible first|refine Sh.eB ?_ (by first|omega|(simp only [RZ]<;>omega)) _|assumption|exact Sh.eR _|refine Sh.eA ?_ _|refine Sh.eD ?_|refine Sh.eT ?_ (by assumption))|exact Sh.eR _)) (fun w2 e2=> ?_)
   have e12:Ext w1 w2:=Ext.trans (by repeat (first|(with_reducible first|refine Sh.eB ?_ (by first|omega|(simp only [RZ]<;>omega)) _|assumption|exact Sh.eR _|refine Sh.eA ?_ _|refine Sh.eD ?_|refine Sh.eT ?_ (by assumption))|exact Sh.eR _)) e2
   have r0:=e12.cell_some r0
   have fz:=fun j=>(hs1.ext e12).frz (b:=hb) rfl j
   have lth:=(hs1.ext e12).lt (b:=hb) rfl
   by_cases heq:q=i
   ·have:ev=0:=by rw [←hev,heq];unfold evB;rw [if_neg (by omega),if_pos rfl]
    subst this
    simp (disch:=first|omega|simp only [RO]|(simp only [RZ]<;>omega)|fail) only [↓RBp,↓RA,↓reduceIte,Nat.reduceAdd,Nat.reduceMul,Nat.reduceEqDiff,RB,RX,RA2,r0,fz,f6_k8_eq,f6_k8_t,eq']
    exact don2 _ e12 heq
   ·have hne:ev≠0:=by
     rw [←hev];unfold evB
     by_cases h:q<i
     ·rw [if_pos h];decide
     ·rw [if_neg h,if_neg heq];decide
    simp (disch:=first|omega|simp only [RO]|(simp only [RZ]<;>omega)|fail) only [↓RBp,↓RA,↓reduceIte,Nat.reduceAdd,Nat.reduceMul,Nat.reduceEqDiff,RB,RX,RA2,hne,f6_k8_eq,f6_k8_t,eq']
    exact done _ e12 heq
  ·have:q=m:=by omega
   subst this
   unfold f6_l5_t
   simp (disch:=first|omega|simp only [RO]|(simp only [RZ]<;>omega)|fail) only [↓RBp,↓RA,↓reduceIte,Nat.reduceAdd,Nat.reduceMul,Nat.reduceEqDiff,RB,RX,RA2,f6_k6_eq,f6_k6_t,ei]
   rw [if_neg (by omega)] at hs1
   exact HE _ hf hs1
end
end Go.Proofs.YtifpinhjpbgnoaaGreatDoor
namespace Go.Proofs.YtifpinhjpbgnoaaGreatDoor
open Go Go.Sh
set_option maxRecDepth 100000
set_option maxHeartbeats 4000000
set_option linter.unusedSimpArgs false
set_option linter.unusedVariables false
section
variable {w0 w w':World} {Y Y':Lay} {D D':DS} {S b o cp n m T g C i:Nat} {f f':Nat→Int×Int×Bool} {v:Value} {P:List Nat} {c t:Int}
theorem ap_k2 (hs:SlO w 73 1 v m (wdL (zW P n) m)) (hm:m≤n) (hn:n<100) (K:K1) (hK:∀w',Ext w w'→K (.bool true) w'):
  f6_k2 K v w:=by
 obtain ⟨pa,pc,rfl,hpc⟩:=hs.isS'
 rw [f6_k2_eq]
 unfold f6_k2_t
 simp (disch:=first|omega|simp only [RO]|(simp only [RZ]<;>omega)|fail) only [↓RBp,↓RA,↓reduceIte,Nat.reduceAdd,Nat.reduceMul,Nat.reduceEqDiff,RB,RX,RA2]
 apply f6_l4_rule (I:=fun z w'=>∃q:Nat,z= .int .i64 (q:Int)∧q≤m∧Ext w w') (μ:=fun z _=>m-(Go.RowKit.intOf z).toNat)
 ·exact ⟨0,rfl,by omega,Ext.refl _⟩
 ·intros;rename_i z w1 hI E2 hE
  obtain ⟨q,rfl,hq,e1⟩:=hI
  by_cases hqm:q<m
  ·obtain ⟨hb,ho,hc,hv,_⟩:=hs.isS (by omega)
   have r0:=(hs.ext e1).cell hv (wdL_get (W:=zW P n) hqm)
   have hz:zW P n q=0:=by unfold zW;rw [if_pos (by omega)]
   rw [hz] at r0
   injection hv with hv _ _
   subst hv
   have eq':(q:Int)+1=((q+1:Nat):Int):=by omega
   unfold f6_l4_t
   simp (disch:=first|omega|simp only [RO]|(simp only [RZ]<;>omega)|fail) only [↓RBp,↓RA,↓reduceIte,Nat.reduceAdd,Nat.reduceMul,Nat.reduceEqDiff,RB,RX,RA2,r0,eq']
   apply hE
   ·exact ⟨q+1,rfl,by omega,e1⟩
   ·simp [Go.RowKit.intOf];omega
  ·have:q=m:=by omega
   subst this
   unfold f6_l4_t
   simp (disch:=first|omega|simp only [RO]|(simp only [RZ]<;>omega)|fail) only [↓RBp,↓RA,↓reduceIte,Nat.reduceAdd,Nat.reduceMul,Nat.reduceEqDiff,RB,RX,RA2,f6_k5_eq,f6_k5_t]
   exact hK _ e1
theorem ap_k1 (a:ArS w0 w Y D S b o cp 3 n f) (I:ApI D n f m P) (n5:n≤5) (hT:Y.tb 0=T) (hs:SlO w 73 1 v m (ptL P)) (ov:OvA w0 Y b S v) (K:K1) (hK:∀w',Ext w0 w'→K (.bool true) w'):
  f6_k1 K (.pointer (some ⟨T,0,none⟩)) (stV S) v w:=by
 have n0:=a.n0
 have hmn:=I.mn
 have hlt:=I.r.lt
 have hw0:=a.L.ex
 rw [zW_zero P m I.len] at hs
 rw [f6_k1_eq]
 unfold f6_k1_t
 refine k_Lines a _ (fun lv w1 e1 nv hl=> ?_)
 rw [lnT_len] at hl
 obtain ⟨lb,lo,lc,rfl,_⟩:=hl.isS n0
 have a1:=a.ext e1
 have nb:∀x,v.ownBlock=some x→x≠lb:=fun x hx e=>by
  have h1:=hs.lt hx
  have h2:=nv lb rfl
  omega
 simp (disch:=first|omega|simp only [RO]|(simp only [RZ]<;>omega)|fail) only [↓RBp,↓RA,↓reduceIte,Nat.reduceAdd,Nat.reduceMul,Nat.reduceEqDiff,RB,RX,RA2]
 apply f6_l2_rule (I:=fun z w'=>∃i:Nat,z= .int .i64 (i:Int)∧i≤n∧ArS w0 w' Y D S b o cp 3 n f∧SlO w' 73 1 v m (wdL (zW P i) m)∧SlO w' 3 1 (.slice (some ⟨lb,lo,none⟩) n lc) n (i64L (lnL (fun _=>true) 3 n))) (μ:=fun z _=>n-(Go.RowKit.intOf z).toNat)
 ·exact ⟨0,rfl,by omega,a1,hs.ext e1,hl⟩
 ·intros;rename_i z w2 hI E2 hE
  obtain ⟨i,rfl,hin,a2,hs2,hl2⟩:=hI
  by_cases hi:i<n
  ·have hag:=I.r.ag i hi
   have hG2:Glob w2:=a2.gl.ext a2.L.ex
   have r0:=hl2.cell rfl (i:=i) (u:= .int .i64 ((3+32*i:Nat):Int)) (by rw [List.getElem?_map,lnT_get 3 n i hi];rfl)
   have ltl:=lt_of_cell r0
   have ei:(i:Int)+1=((i+1:Nat):Int):=by omega
   have hop:∀(w3:World) (K:K1),Ext w2 w3→(∀w',Ext w3 w'→K (if (f i).1<0 then .tuple #[chZ,.int .i64 8] else .tuple #[cvA T (3+32*i) (f i).1 (f i).2.1 (gX (wd D (3+32*i) 0)),.int .i64 0]) w')→callS Tryz.prog 23 #[.iface 25 (.pointer (some ⟨T,0,none⟩)),.int .i64 ((3+32*i:Nat):Int)] w3 K:=fun w3 K e hK=>by
    subst hT
    exact k_OpenAt (a2.L.dv.ext e) I.r.gd (hG2.ext e) I.r.on.off I.r.on.err (3+32*i) (by omega) hag.1 K (fun w' e'=>by rw [←hag.2.1,←hag.2.2];exact hK w' e')
   by_cases him:i<m
   ·have hlo:=I.lo i him
    rw [if_neg (by omega)] at hop
    obtain ⟨hb,ho,hc,rfl,_⟩:=hs2.isS (by omega)
    have fin:=fun (w3:World) (C:Nat) (e:Ext w2 w3) hC nC HE=>ap_l5 (a2.ext e) I n5 him hT (hs2.ext e) ov (C:=C) hC nC K E2 (.pointer (some ⟨T,0,none⟩)) (.slice (some ⟨lb,lo,none⟩) n lc) (.int .i64 (n:Int)) HE
    have hfin:∀w3 w',Ext w2 w3→Frm (fun x=>x=hb) w3 w'→SlO w' 73 1 (.slice (some ⟨hb,ho,none⟩) m hc) m (wdL (zW P (i+1)) m)→E2 (.int .i64 ((i+1:Nat):Int)) w':=fun w3 w' e hf hs'=>by
     apply hE
     ·exact ⟨i+1,rfl,by omega,(a2.ext e).frmO hf (fun x hx=>by subst hx;exact ov _ rfl),hs',(hl2.ext e).frm hf (fun x hx e=>by injection hx with hx;subst hx;exact nb _ rfl e.symm)⟩
     ·simp [Go.RowKit.intOf];omega
    have ltb:=hs2.lt (b:=hb) rfl
    generalize gX (wd D (3+32*i) 0)=gg at*
    unfold f6_l2_t
    simp (disch:=first|omega|simp only [RO]|(simp only [RZ]<;>omega)|fail) only [↓RBp,↓RA,↓reduceIte,Nat.reduceAdd,Nat.reduceMul,Nat.reduceEqDiff,RB,RX,RA2,r0]
    refine hop _ _ (by repeat (first|(with_reducible first|refine Sh.eB ?_ (by first|omega|(simp only [RZ]<;>omega)) _|assumption|exact Sh.eR _|refine Sh.eA ?_ _|refine Sh.eD ?_|refine Sh.eT ?_ (by assumption))|exact Sh.eR _)) (fun w3 e3=> ?_)
    have e23:Ext w2 w3:=Ext.trans (by repeat (first|(with_reducible first|refine Sh.eB ?_ (by first|omega|(simp only [RZ]<;>omega)) _|assumption|exact Sh.eR _|refine Sh.eA ?_ _|refine Sh.eD ?_|refine Sh.eT ?_ (by assumption))|exact Sh.eR _)) e3
    have hC:=Cells.new w3 [Value.iface 25 (.pointer (some ⟨T,0,none⟩)),.int .i64 ((3+32*i:Nat):Int),.int .i64 (f i).1,.int .i64 (f i).2.1,.int .u16 (gg:Int)] 69
    have sz:=e23.size
    simp (disch:=first|omega|simp only [RO]|(simp only [RZ]<;>omega)|fail) only [↓RBp,↓RA,↓reduceIte,Nat.reduceAdd,Nat.reduceMul,Nat.reduceEqDiff,RB,RX,RA2]
    exact fin _ _ (e23.trans (by repeat (first|(with_reducible first|refine Sh.eB ?_ (by first|omega|(simp only [RZ]<;>omega)) _|assumption|exact Sh.eR _|refine Sh.eA ?_ _|refine Sh.eD ?_|refine Sh.eT ?_ (by assumption))|exact Sh.eR _))) hC (by omega) (fun w' hf hs'=>hfin _ w' (e23.trans (by repeat (first|(with_reducible first|refine Sh.eB ?_ (by first|omega|(simp only [RZ]<;>omega)) _|assumption|exact Sh.eR _|refine Sh.eA ?_ _|refine Sh.eD ?_|refine Sh.eT ?_ (by assumption))|exact Sh.eR _))) hf hs')
   ·have hfi:f i=(-1,-1,false):=I.hi i (by omega) hi
    rw [hfi,if_pos (by decide)] at hop
    unfold f6_l2_t
    simp (disch:=first|omega|simp only [RO]|(simp only [RZ]<;>omega)|fail) only [↓RBp,↓RA,↓reduceIte,Nat.reduceAdd,Nat.reduceMul,Nat.reduceEqDiff,RB,RX,RA2,r0]
    refine hop _ _ (by repeat (first|(with_reducible first|refine Sh.eB ?_ (by first|omega|(simp only [RZ]<;>omega)) _|assumption|exact Sh.eR _|refine Sh.eA ?_ _|refine Sh.eD ?_|refine Sh.eT ?_ (by assumption))|exact Sh.eR _)) (fun w3 e3=> ?_)
    have e23:Ext w2 w3:=Ext.trans (by repeat (first|(with_reducible first|refine Sh.eB ?_ (by first|omega|(simp only [RZ]<;>omega)) _|assumption|exact Sh.eR _|refine Sh.eA ?_ _|refine Sh.eD ?_|refine Sh.eT ?_ (by assumption))|exact Sh.eR _)) e3
    simp (disch:=first|omega|simp only [RO]|(simp only [RZ]<;>omega)|fail) only [↓RBp,↓RA,↓reduceIte,Nat.reduceAdd,Nat.reduceMul,Nat.reduceEqDiff,RB,RX,RA2,f6_k6_eq,f6_k6_t,ei]
    apply hE
    ·refine ⟨i+1,rfl,by omega,a2.ext (e23.trans (by repeat (first|(with_reducible first|refine Sh.eB ?_ (by first|omega|(simp only [RZ]<;>omega)) _|assumption|exact Sh.eR _|refine Sh.eA ?_ _|refine Sh.eD ?_|refine Sh.eT ?_ (by assumption))|exact Sh.eR _))),?_,hl2.ext (e23.trans (by repeat (first|(with_reducible first|refine Sh.eB ?_ (by first|omega|(simp only [RZ]<;>omega)) _|assumption|exact Sh.eR _|refine Sh.eA ?_ _|refine Sh.eD ?_|refine Sh.eT ?_ (by assumption))|exact Sh.eR _)))⟩
     have:wdL (zW P (i+1)) m=wdL (zW P i) m:=wdL_congr (fun j hj=>by unfold zW;rw [if_pos (by omega),if_pos (by omega)])
     rw [this]
     exact hs2.ext (e23.trans (by repeat (first|(with_reducible first|refine Sh.eB ?_ (by first|omega|(simp only [RZ]<;>omega)) _|assumption|exact Sh.eR _|refine Sh.eA ?_ _|refine Sh.eD ?_|refine Sh.eT ?_ (by assumption))|exact Sh.eR _)))
    ·simp [Go.RowKit.intOf];omega
  ·have:i=n:=by omega
   subst this
   unfold f6_l2_t
   simp (disch:=first|omega|simp only [RO]|(simp only [RZ]<;>omega)|fail) only [↓RBp,↓RA,↓reduceIte,Nat.reduceAdd,Nat.reduceMul,Nat.reduceEqDiff,RB,RX,RA2]
   exact ap_k2 hs2 hmn (by omega) K (fun w' e'=>hK _ (a2.L.ex.trans e'))
end
end Go.Proofs.YtifpinhjpbgnoaaGreatDoor
namespace Go.Proofs.YtifpinhjpbgnoaaGreatDoor
open Go Go.Sh
set_option maxRecDepth 100000
set_option maxHeartbeats 4000000
set_option linter.unusedSimpArgs false
set_option linter.unusedVariables false
section
variable {w0 w w':World} {Y Y':Lay} {D D':DS} {S b o cp n m T g C i:Nat} {f f':Nat→Int×Int×Bool} {v:Value} {P:List Nat} {c t:Int}
theorem rds_one {w:World} {u:Value} {e:TypeId}:RdS (w.alloc (.cells #[u] e)).heap.size (w.alloc (.cells #[u] e)) (.slice (some ⟨w.heap.size,0,none⟩) 1 1) [u]:=by
 have hC:=Cells.new w [u] e
 refine ⟨_,_,rfl,.inr ⟨w.heap.size,0,rfl,by rw [size_alloc];omega,fun j x hj=> ?_⟩⟩
 obtain ⟨rfl,rfl⟩:=one_get hj
 exact hC.cell (i:=0) (by simp)
theorem ap_l1 (a:ArS w0 w Y D S b o cp 3 n bgF) (r:RgS D 3 n bgF) (n5:n≤5) (hT:Y.tb 0=T) (hx:D.exe≤1000) {mm:Nat} {va:Value} {us:List Nat} (hus:RdS mm w0 va (u8L us)) (hu8:∀x∈us,x<256) (hul:us.length≤30) (K:K1) (hK:∀w',Ext w0 w'→K (.bool true) w'):
  f6_l1 K (.int .i64 (n:Int)) (.pointer (some ⟨T,0,none⟩)) (stV S) (.slice none 0 0) va (.int .i64 (us.length:Int)) (.int .i64 0) w:=by
 obtain ⟨ua,uc,rfl,_⟩:=id hus
 rw [show (u8L us).length=us.length by simp] at hus ⊢
 have hnn:=a.L.gd.n
 apply f6_l1_rule (I:=fun x z w'=>∃(j m:Nat) (P:List Nat) (Y':Lay) (D':DS) (f':Nat→Int×Int×Bool),z= .int .i64 (j:Int)∧j≤us.length∧ArS w0 w' Y' D' S b o cp 3 n f'∧ApI D' n f' m P∧Y'.tb 0=T∧D'.exe≤1000+1000*j∧SlO w' 73 1 x m (ptL P)∧OvA w0 Y' b S x) (μ:=fun _ z _=>us.length-(Go.RowKit.intOf z).toNat)
 ·exact ⟨0,0,[],Y,D,bgF,rfl,by omega,a,⟨r,by omega,fun j hj=>absurd hj (Nat.not_lt_zero _),fun _ _ _=>rfl,rfl,fun j hj=>absurd hj (Nat.not_lt_zero _)⟩,hT,by omega,SlO.nil _ _ _,fun x hx=>(by cases hx)⟩
 ·intros;rename_i x z w1 hI E1 hE
  obtain ⟨j,m,P,Y1,D1,f1,rfl,hj,a1,I1,hT1,hx1,hs1,ov1⟩:=hI
  by_cases hjl:j<us.length
  ·obtain ⟨ub,uo,uc',hev,r0⟩:=(hus.ext a1.L.ex).get (u8L_get hjl)
   injection hev with hev _ _
   subst hev
   have hub:=hu8 us[j] (List.getElem_mem hjl)
   generalize us[j]=x8 at r0 hub
   have hmn:=I1.mn
   have hlt:=I1.r.lt
   obtain ⟨t,ht⟩:∃t,x8%8=t:=⟨_,rfl⟩
   obtain ⟨q,hq⟩:∃q,x8/8=q:=⟨_,rfl⟩
   obtain ⟨c,hc⟩:∃c,q%5=c:=⟨_,rfl⟩
   have e1:(x8:Int)%8=(t:Int):=by omega
   have e2:(x8:Int)/8=(q:Int):=by omega
   have e3:(q:Int)%5=(c:Int):=by omega
   have ej:(j:Int)+1=((j+1:Nat):Int):=by omega
   have t8:t<8:=by omega
   have c5:c<5:=by omega
   have lt0:=lt_of_cell r0
   obtain ⟨pa,pc,rfl,hpc⟩:=hs1.isS'
   clear hq hc ht
   unfold f6_l1_t
   simp (disch:=first|omega|simp only [RO]|(simp only [RZ]<;>omega)|fail) only [↓RBp,↓RA,↓reduceIte,Nat.reduceAdd,Nat.reduceMul,Nat.reduceEqDiff,RB,RX,RA2,r0,e1,e2,e3]
   refine k_Claim a1 I1.r.ag I1.r.on.off I1.r.on.err (by omega) (show (0:Int)≤(t:Int) by omega) (by omega) (show (0:Int)≤(c:Int) by omega) (by omega) _ (fun D2 f2 r2 er hr w2 Y2 a2 h2=> ?_)
   have hT2:Y2.tb 0=T:=by rw [a2.tb];exact hT1
   have hs2:=hs1.frm a2.frm (fun x hx=>by
    have h3:=ov1 x hx
    intro hf
    rcases hf with hf|hf
    ·exact h3.2.1 hf
    ·exact h3.2.2.1 hf)
   have ov2:=ov1.stp a2 (fun x hx=>hs1.lt hx)
   rcases I1.claim (by omega) (by omega) (by omega) (by omega) hr with ⟨rfl,rfl,rfl,rfl,hmn2⟩|⟨rfl,hmn2,rfl,g,ok,rg,n2,x2⟩
   ·subst hmn2
    simp (disch:=first|omega|simp only [RO]|(simp only [RZ]<;>omega)|fail) only [↓RBp,↓RA,↓reduceIte,Nat.reduceAdd,Nat.reduceMul,Nat.reduceEqDiff,RB,RX,RA2,f6_k3_eq,f6_k3_t,ej]
    apply hE
    ·exact ⟨j+1,m,P,Y2,_,_,rfl,by omega,h2,I1,hT2,by omega,hs2,ov2⟩
    ·simp [Go.RowKit.intOf];omega
   ·have hfr:=ok.fresh rg (by omega) (by omega)
    have hG2:Glob w2:=h2.gl.ext h2.L.ex
    have fe:f2 m=((c:Int),(t:Int),(f1 m).2.2):=by rw [ok.fe,upF_eq]
    refine Exists.elim (ap_con h2.L.dv hG2 rg hmn2 n5 (by rw [fe]) (by rw [fe]) (by omega) (by omega) hfr.1 hfr.2 hT2) (fun gg hx=>Exists.elim hx (fun ob hx=>Exists.elim hx (fun ws hx=> ?_)))
    have ob1:=hx;have hOp:=ob1.1;have hOw:=ob1.2.1;have hCl:=ob1.2.2.1;have hCn:=ob1.2.2.2.1;have hPt:=ob1.2.2.2.2.1;have hAc:=ob1.2.2.2.2.2.1;have hW:=ob1.2.2.2.2.2.2
    have len2:=hW.len
    simp (disch:=first|omega|simp only [RO]|(simp only [RZ]<;>omega)|fail) only [↓RBp,↓RA,↓reduceIte,Nat.reduceAdd,Nat.reduceMul,Nat.reduceEqDiff,RB,RX,RA2]
    refine hOp _ _ (by repeat (first|(with_reducible first|refine Sh.eB ?_ (by first|omega|(simp only [RZ]<;>omega)) _|assumption|exact Sh.eR _|refine Sh.eA ?_ _|refine Sh.eD ?_|refine Sh.eT ?_ (by assumption))|exact Sh.eR _)) (fun w3 e3=> ?_)
    have e23:Ext w2 w3:=Ext.trans (by repeat (first|(with_reducible first|refine Sh.eB ?_ (by first|omega|(simp only [RZ]<;>omega)) _|assumption|exact Sh.eR _|refine Sh.eA ?_ _|refine Sh.eD ?_|refine Sh.eT ?_ (by assumption))|exact Sh.eR _)) e3
    simp (disch:=first|omega|simp only [RO]|(simp only [RZ]<;>omega)|fail) only [↓RBp,↓RA,↓reduceIte,Nat.reduceAdd,Nat.reduceMul,Nat.reduceEqDiff,RB,RX,RA2,hOw,hCl,e1,e2,e3]
    refine hCn _ _ (e23.trans (by repeat (first|(with_reducible first|refine Sh.eB ?_ (by first|omega|(simp only [RZ]<;>omega)) _|assumption|exact Sh.eR _|refine Sh.eA ?_ _|refine Sh.eD ?_|refine Sh.eT ?_ (by assumption))|exact Sh.eR _))) (fun w4 e4=> ?_)
    have e34:Ext w3 w4:=Ext.trans (by repeat (first|(with_reducible first|refine Sh.eB ?_ (by first|omega|(simp only [RZ]<;>omega)) _|assumption|exact Sh.eR _|refine Sh.eA ?_ _|refine Sh.eD ?_|refine Sh.eT ?_ (by assumption))|exact Sh.eR _)) e4
    have hC4:Cells w4 w3.heap.size 69 5 (fun i=> [Value.iface 25 (.pointer (some ⟨T,0,none⟩)),.int .i64 ((3+32*m:Nat):Int),.int .i64 (c:Int),.int .i64 (t:Int),.int .u16 (gg:Int)].getD i undef):=(Cells.new w3 [Value.iface 25 (.pointer (some ⟨T,0,none⟩)),.int .i64 ((3+32*m:Nat):Int),.int .i64 (c:Int),.int .i64 (t:Int),.int .u16 (gg:Int)] 69).ext (Ext.trans (by repeat (first|(with_reducible first|refine Sh.eB ?_ (by first|omega|(simp only [RZ]<;>omega)) _|assumption|exact Sh.eR _|refine Sh.eA ?_ _|refine Sh.eD ?_|refine Sh.eT ?_ (by assumption))|exact Sh.eR _)) e4)
    have c0:w4.cell? ⟨w3.heap.size,0,none⟩=some (.iface 25 (.pointer (some ⟨T,0,none⟩))):=hC4.cell (i:=0) (by omega)
    have c1:w4.cell? ⟨w3.heap.size,1,none⟩=some (.int .i64 ((3+32*m:Nat):Int)):=hC4.cell (i:=1) (by omega)
    have c2:w4.cell? ⟨w3.heap.size,2,none⟩=some (.int .i64 (c:Int)):=hC4.cell (i:=2) (by omega)
    have c3:w4.cell? ⟨w3.heap.size,3,none⟩=some (.int .i64 (t:Int)):=hC4.cell (i:=3) (by omega)
    have c4:w4.cell? ⟨w3.heap.size,4,none⟩=some (.int .u16 (gg:Int)):=hC4.cell (i:=4) (by omega)
    have ltC:=hC4.lt
    have e24:=e23.trans e34
    simp (disch:=first|omega|simp only [RO]|(simp only [RZ]<;>omega)|fail) only [↓RBp,↓RA,↓reduceIte,Nat.reduceAdd,Nat.reduceMul,Nat.reduceEqDiff,RB,RX,RA2,c0,c1,c2,c3,c4,e2,e3]
    refine hPt _ _ (e24.trans (by repeat (first|(with_reducible first|refine Sh.eB ?_ (by first|omega|(simp only [RZ]<;>omega)) _|assumption|exact Sh.eR _|refine Sh.eA ?_ _|refine Sh.eD ?_|refine Sh.eT ?_ (by assumption))|exact Sh.eR _))) (fun w5 e5=> ?_)
    have e45:Ext w4 w5:=Ext.trans (by repeat (first|(with_reducible first|refine Sh.eB ?_ (by first|omega|(simp only [RZ]<;>omega)) _|assumption|exact Sh.eR _|refine Sh.eA ?_ _|refine Sh.eD ?_|refine Sh.eT ?_ (by assumption))|exact Sh.eR _)) e5
    have c0:=e45.cell_some c0;have c1:=e45.cell_some c1;have c2:=e45.cell_some c2;have c3:=e45.cell_some c3;have c4:=e45.cell_some c4
    have ltC:=lt_of_cell c0
    have e25:=e24.trans e45
    simp (disch:=first|omega|simp only [RO]|(simp only [RZ]<;>omega)|fail) only [↓RBp,↓RA,↓reduceIte,Nat.reduceAdd,Nat.reduceMul,Nat.reduceEqDiff,RB,RX,RA2,c0,c1,c2,c3,c4]
    refine hAc _ _ _ _ (e25.trans (by repeat (first|(with_reducible first|refine Sh.eB ?_ (by first|omega|(simp only [RZ]<;>omega)) _|assumption|exact Sh.eR _|refine Sh.eA ?_ _|refine Sh.eD ?_|refine Sh.eT ?_ (by assumption))|exact Sh.eR _))) ?_ ?_ (fun u w6 e6 nu hu=> ?_)
    ·exact ((rds_one (w:=w5) (u:= .int .i64 0) (e:=3)).ext (Ext.alloc_self _ _)).mono22 (by simp only [size_alloc];omega)
    ·have h:=rds_one (w:=w5.alloc (.cells #[.int .i64 0] 3)) (u:= .int .u8 ((64:Nat):Int)) (e:=5)
     simp only [size_alloc] at h ⊢
     exact h
    have e56:Ext w5 w6:=Ext.trans (by repeat (first|(with_reducible first|refine Sh.eB ?_ (by first|omega|(simp only [RZ]<;>omega)) _|assumption|exact Sh.eR _|refine Sh.eA ?_ _|refine Sh.eD ?_|refine Sh.eT ?_ (by assumption))|exact Sh.eR _)) e6
    have e26:=e25.trans e56
    obtain ⟨pu,cu,rfl,hcu⟩:=hu.isS'
    simp (disch:=first|omega|simp only [RO]|(simp only [RZ]<;>omega)|fail) only [↓RBp,↓RA,↓reduceIte,Nat.reduceAdd,Nat.reduceMul,Nat.reduceEqDiff,RB,RX,RA2]
    have hs6:=hs2.ext e26
    have h6:=h2.ext e26
    have I3:=I1.next (by omega) (by omega) (by omega) (by omega) ok rg hW.r hW.oth hW.tk
    refine ap_l3 h6.L.dv rg.gd (by omega) hu (fun x hx hf=> ?_) hW.ok (by omega) K E1 _ _ _ _ _ _ _ hT2 (fun w7 Y7 st7=> ?_)
    ·have h8:=h2.L.dv.lt hf
     have h9:=nu x hx
     simp only [size_alloc] at h9
     have:=e25.size
     omega
    have a7:=h6.step st7 hW.r.gd hW.n
    have hT7:Y7.tb 0=T:=by rw [st7.tb];exact hT2
    refine ap_k4 (P:=P) a7 n5 I3.sum (hs6.frm st7.frm (fun x hx=>(ov2 x hx).2.1)) (ov2.stp (AStp.of_stp b st7) (fun x hx=>hs6.lt hx)) (by omega) _ j (by omega) K E1 _ _ _ (fun v' w8 a8 hs8 ov8=> ?_)
    apply hE
    ·refine ⟨j+1,m+1,_,Y7,_,f2,rfl,by omega,a8,I3,hT7,?_,hs8,ov8⟩
     have:=hW.exe;omega
    ·simp [Go.RowKit.intOf];omega
  ·have:j=us.length:=by omega
   subst this
   unfold f6_l1_t
   simp (disch:=first|omega|simp only [RO]|(simp only [RZ]<;>omega)|fail) only [↓RBp,↓RA,↓reduceIte,Nat.reduceAdd,Nat.reduceMul,Nat.reduceEqDiff,RB,RX,RA2]
   exact ap_k1 a1 I1 n5 hT1 hs1 ov1 K hK
theorem law_apart (hG:Glob w) {nn:Nat} (hnn:nn<256) {va:Value} {us:List Nat} (hus:RdS w.heap.size w va (u8L us)) (hu8:∀x∈us,x<256) (hul:us.length≤maxLen) (K:K1) (hK:∀w',Ext w w'→K (.bool true) w'):
  callS Tryz.prog 6 #[.int .u8 (nn:Int),va] w K:=by
 have hus0:=hus
 obtain ⟨ua,uc,rfl,_⟩:=hus
 rw [show (u8L us).length=us.length by simp] at hus0 ⊢
 have hlu:us.length<9223372036854775808:=by unfold maxLen at hul;omega
 refine f6_call _ _ _ _ ?_
 unfold f6_t
 refine k_awake22 hG _ (fun w1 e1=> ?_)
 by_cases h30:30<us.length
 ·simp (disch:=first|omega|simp only [RO]|(simp only [RZ]<;>omega)|fail) only [↓RBp,↓RA,↓reduceIte,Nat.reduceAdd,Nat.reduceMul,Nat.reduceEqDiff,RB,RX,RA2]
  refine k_awake22 (hG.ext e1) _ (fun w2 e2=> ?_)
  exact hK _ (e1.trans e2)
 ·obtain ⟨k,hk⟩:∃k,1+nn%5=k:=⟨_,rfl⟩
  have ek:(1:Int)+((nn%5:Nat):Int)=(k:Int):=by omega
  have ek2:(1:Int)+(nn:Int)%5=(k:Int):=by omega
  obtain ⟨hb,hbn,hbx,hbw⟩:=bg_ok (n:=k) (by omega) (by omega)
  simp (disch:=first|omega|simp only [RO]|(simp only [RZ]<;>omega)|fail) only [↓RBp,↓RA,↓reduceIte,Nat.reduceAdd,Nat.reduceMul,Nat.reduceEqDiff,RB,RX,RA2,ek,ek2]
  refine k_begin22 (n:=k) (hG.ext e1) (by omega) (by omega) _ (fun w2 Y S b o cp hS=> ?_)
  simp (disch:=first|omega|simp only [RO]|(simp only [RZ]<;>omega)|fail) only [↓RBp,↓RA,↓reduceIte,Nat.reduceAdd,Nat.reduceMul,Nat.reduceEqDiff,RB,RX,RA2,ek,ek2]
  exact ap_l1 hS hb (by omega) rfl (by omega) (hus0.ext e1) hu8 (by omega) K (fun w' e'=>hK _ (e1.trans e'))
end
end Go.Proofs.YtifpinhjpbgnoaaGreatDoor
