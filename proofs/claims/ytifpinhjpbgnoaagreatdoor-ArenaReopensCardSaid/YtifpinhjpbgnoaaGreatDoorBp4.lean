/-
  Part 4 of what the proofs of this seat share.
-/
import Derived.Test.YtifpinhjpbgnoaaGreatDoorBp3
import Derived.Test.YtifpinhjpbgnoaaGreatDoorBp2
import Derived.Test.YtifpinhjpbgnoaaGreatDoorBp1
namespace Go.Proofs.YtifpinhjpbgnoaaGreatDoor
open Go Go.Sh
set_option maxRecDepth 100000
set_option maxHeartbeats 4000000
set_option linter.unusedSimpArgs false
set_option linter.unusedVariables false
def blkV (g k s:Nat):Value:= .agg #[.int .u16 (g:Int),.int .u8 (k:Int),.int .u8 (s:Int)]
def isS (x:Nat):Bool:=decide (sealN (x%4294967296)=x)
def gX (x:Nat):Nat:=x%65536
def kX (x:Nat):Nat:=x/65536%256
def sX (x:Nat):Nat:=x/16777216%256
theorem k_sealed (x:Nat) (w:World) (K:K1) (hG:Glob w) (hx:x<18446744073709551616) (h:∀w',Ext w w'→K (.tuple #[if isS x then blkV (gX x) (kX x) (sX x) else blkV 0 0 0,.bool (isS x)]) w'):callS Tryz.prog 107 #[.int .u64 x] w K:=by
 refine f107_call _ _ _ ?_
 unfold f107_t
 by_cases hs:sealN (x%4294967296)=x
 ·have e:isS x=true:=decide_eq_true hs
  rw [e] at h
  have e1:x%4294967296%65536=gX x:=by unfold gX;omega
  have e2:x%4294967296/2^16%256=kX x:=by unfold kX;omega
  have e3:x%4294967296/2^24%256=sX x:=by unfold sX;omega
  simp (disch:=first|omega|simp only [RO]|(simp only [RZ]<;>omega)|fail) only [↓RA,↓reduceIte,Nat.reduceAdd,Nat.reduceMul,Nat.reduceEqDiff,RB,RW,RS,fun o x K=>c_seal x (w.alloc o) K (hG.alloc o),hs,e1,e2,e3]
  exact h _ (by repeat (first|(with_reducible first|refine eB ?_ (by first|omega|(simp only [RZ]<;>omega)) _|assumption|exact eR _|refine eA ?_ _|refine eD ?_|refine eT ?_ (by assumption))|exact eR _))
 ·have e:isS x=false:=decide_eq_false hs
  rw [e] at h
  simp (disch:=first|omega|simp only [RO]|(simp only [RZ]<;>omega)|fail) only [↓RA,↓reduceIte,Nat.reduceAdd,Nat.reduceMul,Nat.reduceEqDiff,RB,RW,RS,fun o x K=>c_seal x (w.alloc o) K (hG.alloc o),hs]
  exact h _ (by repeat (first|(with_reducible first|refine eB ?_ (by first|omega|(simp only [RZ]<;>omega)) _|assumption|exact eR _|refine eA ?_ _|refine eD ?_|refine eT ?_ (by assumption))|exact eR _))
def hdV (c o:Int) (g:Nat):Value:= .agg #[.int .i64 c,.int .i64 o,.int .u16 (g:Int)]
def fmtB (c o:Int):Bool:=decide (0≤c)&&decide (c<5)&&decide (0≤o)&&decide (o<8)
theorem perS_out {c:Int} (h:¬(0≤c∧c<5)):perS c=0:=by unfold perS;rw [if_pos (wordsS_out h)]
theorem c_formatted (c o:Int) (g:Nat) (w:World) (K:K1) (hG:Glob w):callS Tryz.prog 98 #[.agg #[.int .i64 c,.int .i64 o,.int .u16 (g:Int)]] w K=K (.bool (fmtB c o)) (w.alloc (hdO c o g)):=by
 refine callS_det (by kernel_rfl) (f98_call _ _ _ ?_) K
 unfold f98_t fmtB
 by_cases h:0≤c∧c<5
 ·have hp:=perS_in h.1 h.2
  by_cases h1:0≤o
  ·by_cases h2:o<8
   ·simp (disch:=first|omega|simp only [RO]|(simp only [RZ]<;>omega)|fail) only [↓RA,↓reduceIte,Nat.reduceAdd,Nat.reduceMul,Nat.reduceEqDiff,RB,RW,RS,fun q x K=>c_PerChunk x (w.alloc q) K (hG.alloc q),hdO]
   ·simp (disch:=first|omega|simp only [RO]|(simp only [RZ]<;>omega)|fail) only [↓RA,↓reduceIte,Nat.reduceAdd,Nat.reduceMul,Nat.reduceEqDiff,RB,RW,RS,fun q x K=>c_PerChunk x (w.alloc q) K (hG.alloc q),hdO]
  ·simp (disch:=first|omega|simp only [RO]|(simp only [RZ]<;>omega)|fail) only [↓RA,↓reduceIte,Nat.reduceAdd,Nat.reduceMul,Nat.reduceEqDiff,RB,RW,RS,fun q x K=>c_PerChunk x (w.alloc q) K (hG.alloc q),hdO]
 ·have hp:=perS_out h
  have e:(decide (0≤c)&&decide (c<5))=false:=by simp only [Bool.and_eq_false_iff,decide_eq_false_iff_not];omega
  simp (disch:=first|omega|simp only [RO]|(simp only [RZ]<;>omega)|fail) only [↓RA,↓reduceIte,Nat.reduceAdd,Nat.reduceMul,Nat.reduceEqDiff,RB,RW,RS,fun q x K=>c_PerChunk x (w.alloc q) K (hG.alloc q),hdO,hp,e]
def hC (x:Nat):Int:=((x/65536%16:Nat):Int)-1
def hO (x:Nat):Int:=((x/1048576%16:Nat):Int)-1
def hdOk (x:Nat):Bool:=isS x&&decide (sX x=197)&& !decide (gX x=0)&&((decide (hC x<0)&&decide (hO x<0))||fmtB (hC x) (hO x))
theorem and15 (x:Nat):x&&&15=x%16:=Nat.and_two_pow_sub_one_eq_mod x 4
theorem k_header (x:Nat) (w:World) (K:K1) (hG:Glob w) (hx:x<18446744073709551616) (h:∀w',Ext w w'→K (.tuple #[if hdOk x then hdV (hC x) (hO x) (gX x) else hdV 0 0 0,.bool (hdOk x)]) w'):callS Tryz.prog 87 #[.int .u64 x] w K:=by
 refine f87_call _ _ _ ?_
 unfold f87_t
 by_cases hs:sealN (x%4294967296)=x
 ·have e0:isS x=true:=decide_eq_true hs
  have e3:x%4294967296/2^24=sX x:=by unfold sX;omega
  have e1:x%4294967296%65536=gX x:=by unfold gX;omega
  by_cases hm:sX x=197
  ·by_cases hg:gX x=0
   ·have e:hdOk x=false:=by simp [hdOk,hg]
    rw [e] at h
    simp (disch:=first|omega|simp only [RO]|(simp only [RZ]<;>omega)|fail) only [↓RA,↓reduceIte,Nat.reduceAdd,Nat.reduceMul,Nat.reduceEqDiff,RB,RW,RS,fun o x K=>c_seal x (w.alloc o) K (hG.alloc o),hs,e3,e1,hm,hg]
    exact h _ (by repeat (first|(with_reducible first|refine eB ?_ (by first|omega|(simp only [RZ]<;>omega)) _|assumption|exact eR _|refine eA ?_ _|refine eD ?_|refine eT ?_ (by assumption))|exact eR _))
   ·have c1:((x%4294967296/2^16%16:Nat):Int)-1=hC x:=by unfold hC;omega
    have c2:((x%4294967296/2^20%16:Nat):Int)-1=hO x:=by unfold hO;omega
    have b1: -1≤hC x∧hC x≤14:=by unfold hC;omega
    have b2: -1≤hO x∧hO x≤14:=by unfold hO;omega
    have e:hdOk x=((decide (hC x<0)&&decide (hO x<0))||fmtB (hC x) (hO x)):=by simp [hdOk,e0,hm,hg]
    rw [e] at h
    clear e
    by_cases n1:hC x<0
    ·by_cases n2:hO x<0
     ·have e:((decide (hC x<0)&&decide (hO x<0))||fmtB (hC x) (hO x))=true:=by simp [n1,n2]
      rw [e] at h
      simp (disch:=first|omega|simp only [RO]|(simp only [RZ]<;>omega)|fail) only [↓RA,↓reduceIte,Nat.reduceAdd,Nat.reduceMul,Nat.reduceEqDiff,RB,RW,RS,fun o x K=>c_seal x (w.alloc o) K (hG.alloc o),hs,e3,e1,hm,hg,and15,c1,c2]
      exact h _ (by repeat (first|(with_reducible first|refine eB ?_ (by first|omega|(simp only [RZ]<;>omega)) _|assumption|exact eR _|refine eA ?_ _|refine eD ?_|refine eT ?_ (by assumption))|exact eR _))
     ·have e:((decide (hC x<0)&&decide (hO x<0))||fmtB (hC x) (hO x))=false:=by simp [fmtB,n2];omega
      have ef:fmtB (hC x) (hO x)=false:=by simp [fmtB];omega
      rw [e] at h
      simp (disch:=first|omega|simp only [RO]|(simp only [RZ]<;>omega)|fail) only [↓RA,↓reduceIte,Nat.reduceAdd,Nat.reduceMul,Nat.reduceEqDiff,RB,RW,RS,fun o x K=>c_seal x (w.alloc o) K (hG.alloc o),fun a b c d e g K=>c_formatted d e g (((w.alloc a).alloc b).alloc c) K (((hG.alloc a).alloc b).alloc c),hs,e3,e1,hm,hg,and15,c1,c2,ef]
      exact h _ (by repeat (first|(with_reducible first|refine eB ?_ (by first|omega|(simp only [RZ]<;>omega)) _|assumption|exact eR _|refine eA ?_ _|refine eD ?_|refine eT ?_ (by assumption))|exact eR _))
    ·have e:((decide (hC x<0)&&decide (hO x<0))||fmtB (hC x) (hO x))=fmtB (hC x) (hO x):=by simp [n1]
     rw [e] at h
     cases ef:fmtB (hC x) (hO x) with
     |true=>
      rw [ef] at h
      simp (disch:=first|omega|simp only [RO]|(simp only [RZ]<;>omega)|fail) only [↓RA,↓reduceIte,Nat.reduceAdd,Nat.reduceMul,Nat.reduceEqDiff,RB,RW,RS,fun o x K=>c_seal x (w.alloc o) K (hG.alloc o),fun a b c d e g K=>c_formatted d e g (((w.alloc a).alloc b).alloc c) K (((hG.alloc a).alloc b).alloc c),hs,e3,e1,hm,hg,and15,c1,c2,ef]
      exact h _ (by repeat (first|(with_reducible first|refine eB ?_ (by first|omega|(simp only [RZ]<;>omega)) _|assumption|exact eR _|refine eA ?_ _|refine eD ?_|refine eT ?_ (by assumption))|exact eR _))
     |false=>
      rw [ef] at h
      simp (disch:=first|omega|simp only [RO]|(simp only [RZ]<;>omega)|fail) only [↓RA,↓reduceIte,Nat.reduceAdd,Nat.reduceMul,Nat.reduceEqDiff,RB,RW,RS,fun o x K=>c_seal x (w.alloc o) K (hG.alloc o),fun a b c d e g K=>c_formatted d e g (((w.alloc a).alloc b).alloc c) K (((hG.alloc a).alloc b).alloc c),hs,e3,e1,hm,hg,and15,c1,c2,ef]
      exact h _ (by repeat (first|(with_reducible first|refine eB ?_ (by first|omega|(simp only [RZ]<;>omega)) _|assumption|exact eR _|refine eA ?_ _|refine eD ?_|refine eT ?_ (by assumption))|exact eR _))
  ·have e:hdOk x=false:=by simp [hdOk,hm]
   rw [e] at h
   simp (disch:=first|omega|simp only [RO]|(simp only [RZ]<;>omega)|fail) only [↓RA,↓reduceIte,Nat.reduceAdd,Nat.reduceMul,Nat.reduceEqDiff,RB,RW,RS,fun o x K=>c_seal x (w.alloc o) K (hG.alloc o),hs,e3,hm]
   exact h _ (by repeat (first|(with_reducible first|refine eB ?_ (by first|omega|(simp only [RZ]<;>omega)) _|assumption|exact eR _|refine eA ?_ _|refine eD ?_|refine eT ?_ (by assumption))|exact eR _))
 ·have e0:isS x=false:=decide_eq_false hs
  have e:hdOk x=false:=by simp [hdOk,e0]
  rw [e] at h
  simp (disch:=first|omega|simp only [RO]|(simp only [RZ]<;>omega)|fail) only [↓RA,↓reduceIte,Nat.reduceAdd,Nat.reduceMul,Nat.reduceEqDiff,RB,RW,RS,fun o x K=>c_seal x (w.alloc o) K (hG.alloc o),hs]
  exact h _ (by repeat (first|(with_reducible first|refine eB ?_ (by first|omega|(simp only [RZ]<;>omega)) _|assumption|exact eR _|refine eA ?_ _|refine eD ?_|refine eT ?_ (by assumption))|exact eR _))
end Go.Proofs.YtifpinhjpbgnoaaGreatDoor
namespace Go.Proofs.YtifpinhjpbgnoaaGreatDoor
open Go Go.Sh
set_option maxRecDepth 100000
set_option maxHeartbeats 4000000
set_option linter.unusedSimpArgs false
set_option linter.unusedVariables false
def goodB (g k s:Nat):Bool:=if s=176 then decide (g≠0)&&decide (k=0) else if s=177 then decide (g≠0)&&decide (k≠0)&&decide (k≤127) else if s=178 then decide (g=65535)&&decide (k=0) else false
theorem c_good (g k s:Nat) (w:World) (K:K1):callS Tryz.prog 66 #[.agg #[.int .u16 (g:Int),.int .u8 (k:Int),.int .u8 (s:Int)]] w K=K (.bool (goodB g k s)) (w.alloc (blkO g k s)):=by
 refine callS_det (by kernel_rfl) (f66_call _ _ _ ?_) K
 unfold f66_t goodB
 by_cases h1:s=176
 ·by_cases h2:g=0
  ·simp (disch:=first|omega|simp only [RO]|(simp only [RZ]<;>omega)|fail) only [↓RA,↓reduceIte,Nat.reduceAdd,Nat.reduceMul,Nat.reduceEqDiff,RB,RW,RS,blkO,h1,h2]
  ·by_cases h3:k=0
   ·simp (disch:=first|omega|simp only [RO]|(simp only [RZ]<;>omega)|fail) only [↓RA,↓reduceIte,Nat.reduceAdd,Nat.reduceMul,Nat.reduceEqDiff,RB,RW,RS,blkO,h1,h2,h3]
   ·simp (disch:=first|omega|simp only [RO]|(simp only [RZ]<;>omega)|fail) only [↓RA,↓reduceIte,Nat.reduceAdd,Nat.reduceMul,Nat.reduceEqDiff,RB,RW,RS,blkO,h1,h2,h3]
 ·by_cases h2:s=177
  ·by_cases h3:g=0
   ·simp (disch:=first|omega|simp only [RO]|(simp only [RZ]<;>omega)|fail) only [↓RA,↓reduceIte,Nat.reduceAdd,Nat.reduceMul,Nat.reduceEqDiff,RB,RW,RS,blkO,h1,h2,h3]
   ·by_cases h4:k=0
    ·simp (disch:=first|omega|simp only [RO]|(simp only [RZ]<;>omega)|fail) only [↓RA,↓reduceIte,Nat.reduceAdd,Nat.reduceMul,Nat.reduceEqDiff,RB,RW,RS,blkO,h1,h2,h3,h4]
    ·by_cases h5:k≤127
     ·simp (disch:=first|omega|simp only [RO]|(simp only [RZ]<;>omega)|fail) only [↓RA,↓reduceIte,Nat.reduceAdd,Nat.reduceMul,Nat.reduceEqDiff,RB,RW,RS,blkO,h1,h2,h3,h4,h5]
     ·simp (disch:=first|omega|simp only [RO]|(simp only [RZ]<;>omega)|fail) only [↓RA,↓reduceIte,Nat.reduceAdd,Nat.reduceMul,Nat.reduceEqDiff,RB,RW,RS,blkO,h1,h2,h3,h4,h5]
  ·by_cases h3:s=178
   ·by_cases h4:g=65535
    ·by_cases h5:k=0
     ·simp (disch:=first|omega|simp only [RO]|(simp only [RZ]<;>omega)|fail) only [↓RA,↓reduceIte,Nat.reduceAdd,Nat.reduceMul,Nat.reduceEqDiff,RB,RW,RS,blkO,h1,h2,h3,h4,h5]
     ·simp (disch:=first|omega|simp only [RO]|(simp only [RZ]<;>omega)|fail) only [↓RA,↓reduceIte,Nat.reduceAdd,Nat.reduceMul,Nat.reduceEqDiff,RB,RW,RS,blkO,h1,h2,h3,h4,h5]
    ·simp (disch:=first|omega|simp only [RO]|(simp only [RZ]<;>omega)|fail) only [↓RA,↓reduceIte,Nat.reduceAdd,Nat.reduceMul,Nat.reduceEqDiff,RB,RW,RS,blkO,h1,h2,h3,h4]
   ·simp (disch:=first|omega|simp only [RO]|(simp only [RZ]<;>omega)|fail) only [↓RA,↓reduceIte,Nat.reduceAdd,Nat.reduceMul,Nat.reduceEqDiff,RB,RW,RS,blkO,h1,h2,h3]
theorem c_NextGen (g:Nat) (w:World) (K:K1) (hg:g<65536):callS Tryz.prog 121 #[.int .u16 (g:Int)] w K=K (.tuple #[.int .u16 ((if g=65535 then 0 else g+1:Nat):Int),.bool (!decide (g=65535))]) w:=by
 refine callS_det (by kernel_rfl) (f121_call _ _ _ ?_) K
 unfold f121_t
 by_cases h:g=65535
 ·simp (disch:=first|omega|simp only [RO]|(simp only [RZ]<;>omega)|fail) only [↓RA,↓reduceIte,Nat.reduceAdd,Nat.reduceMul,Nat.reduceEqDiff,RB,RW,RS,h]
 ·simp (disch:=first|omega|simp only [RO]|(simp only [RZ]<;>omega)|fail) only [↓RA,↓reduceIte,Nat.reduceAdd,Nat.reduceMul,Nat.reduceEqDiff,RB,RW,RS,h]
def freG (g:Nat):Nat:=if g=65535 then 65535 else g+1
def freS (g:Nat):Nat:=if g=65535 then 178 else 176
theorem c_freed (g k s:Nat) (w:World) (K:K1) (hg:g<65536):callS Tryz.prog 108 #[.agg #[.int .u16 (g:Int),.int .u8 (k:Int),.int .u8 (s:Int)]] w K=K (.agg #[.int .u16 ((freG g:Nat):Int),.int .u8 ((0:Nat):Int),.int .u8 ((freS g:Nat):Int)]) ((w.alloc (blkO g k s)).alloc (blkO (freG g) 0 (freS g))):=by
 refine callS_det (by kernel_rfl) (f108_call _ _ _ ?_) K
 unfold f108_t
 by_cases h:g=65535
 ·simp (disch:=first|omega|simp only [RO]|(simp only [RZ]<;>omega)|fail) only [↓RA,↓reduceIte,Nat.reduceAdd,Nat.reduceMul,Nat.reduceEqDiff,RB,RW,RS,h,c_NextGen,freG,freS,blkO]
 ·simp (disch:=first|omega|simp only [RO]|(simp only [RZ]<;>omega)|fail) only [↓RA,↓reduceIte,Nat.reduceAdd,Nat.reduceMul,Nat.reduceEqDiff,RB,RW,RS,h,c_NextGen,freG,freS,blkO]
end Go.Proofs.YtifpinhjpbgnoaaGreatDoor
namespace Go.Proofs.YtifpinhjpbgnoaaGreatDoor
open Go Go.Sh
set_option maxRecDepth 100000
set_option maxHeartbeats 4000000
set_option linter.unusedSimpArgs false
set_option linter.unusedVariables false
theorem c_rWords (c:Int) (w:World) (K:K1):callS Tryz.prog 124 #[.int .i64 c] w K=K (.int .i64 (wordsS c)) w:=by
 refine callS_det (by kernel_rfl) (f124_call _ _ _ ?_) K
 unfold f124_t
 by_cases h:0≤c∧c<5
 ·have h':c=0∨c=1∨c=2∨c=3∨c=4:=by omega
  rcases h' with rfl|rfl|rfl|rfl|rfl
  ·simp (disch:=first|omega|simp only [RO]|(simp only [RZ]<;>omega)|fail) only [↓RA,↓reduceIte,Nat.reduceAdd,Nat.reduceMul,Nat.reduceEqDiff,RB,show wordsS 0=3 from rfl]
  ·simp (disch:=first|omega|simp only [RO]|(simp only [RZ]<;>omega)|fail) only [↓RA,↓reduceIte,Nat.reduceAdd,Nat.reduceMul,Nat.reduceEqDiff,RB,show wordsS 1=7 from rfl]
  ·simp (disch:=first|omega|simp only [RO]|(simp only [RZ]<;>omega)|fail) only [↓RA,↓reduceIte,Nat.reduceAdd,Nat.reduceMul,Nat.reduceEqDiff,RB,show wordsS 2=15 from rfl]
  ·simp (disch:=first|omega|simp only [RO]|(simp only [RZ]<;>omega)|fail) only [↓RA,↓reduceIte,Nat.reduceAdd,Nat.reduceMul,Nat.reduceEqDiff,RB,show wordsS 3=31 from rfl]
  ·simp (disch:=first|omega|simp only [RO]|(simp only [RZ]<;>omega)|fail) only [↓RA,↓reduceIte,Nat.reduceAdd,Nat.reduceMul,Nat.reduceEqDiff,RB,show wordsS 4=60 from rfl]
 ·simp (disch:=first|omega|simp only [RO]|(simp only [RZ]<;>omega)|fail) only [↓RA,↓reduceIte,Nat.reduceAdd,Nat.reduceMul,Nat.reduceEqDiff,RB,wordsS_out h]
theorem per_mul {c n:Int} (h0:0≤c) (h1:c<5):(8+(n+1)*(wordsS c+1)≤256)=(n<perS c):=by
 have hp:=perS_in h0 h1
 have hw:=wordsS_in h0 h1
 have:c=0∨c=1∨c=2∨c=3∨c=4:=by omega
 rcases this with rfl|rfl|rfl|rfl|rfl<;>(rw [hp.1,hw.1];simp [payN];omega)
theorem c_rPer (c:Int) (w:World) (K:K1):callS Tryz.prog 114 #[.int .i64 c] w K=K (.int .i64 (perS c)) w:=by
 refine callS_det (by kernel_rfl) (f114_call _ _ _ ?_) K
 unfold f114_t
 by_cases h:0≤c∧c<5
 ·have hp:=perS_in h.1 h.2
  have hw:=wordsS_in h.1 h.2
  apply f114_l1_rule (I:=fun x3 w'=>∃k:Int,0≤k∧k≤perS c∧w'=w∧x3= .int .i64 k) (μ:=fun x3 _=>100-(Go.RowKit.intOf x3).toNat)
  ·exact ⟨0,by omega,by omega,rfl,rfl⟩
  ·rintro x3 w' ⟨k,hk0,hk,rfl,rfl⟩ E1 hE
   unfold f114_l1_t
   have hm:=per_mul (n:=k) h.1 h.2
   have hb:0≤(k+1)*(wordsS c+1)∧(k+1)*(wordsS c+1)≤6000:=⟨Int.mul_nonneg (by omega) (by omega),Int.le_trans (Int.mul_le_mul (show k+1≤63 by omega) (show wordsS c+1≤61 by omega) (by omega) (by omega)) (by omega)⟩
   by_cases hk':k<perS c
   ·have hm':8+(k+1)*(wordsS c+1)≤256:=by rw [hm];exact hk'
    simp (disch:=first|omega|simp only [RO]|(simp only [RZ]<;>omega)|fail) only [↓RA,↓reduceIte,Nat.reduceAdd,Nat.reduceMul,Nat.reduceEqDiff,RB,c_rWords]
    refine hE _ _ ⟨k+1,by omega,by omega,rfl,rfl⟩ ?_
    simp [Go.RowKit.intOf];omega
   ·have hm':¬8+(k+1)*(wordsS c+1)≤256:=by rw [hm];exact hk'
    have e:perS c=k:=by omega
    simp (disch:=first|omega|simp only [RO]|(simp only [RZ]<;>omega)|fail) only [↓RA,↓reduceIte,Nat.reduceAdd,Nat.reduceMul,Nat.reduceEqDiff,RB,c_rWords,f114_k1_eq,f114_k1_t,e]
 ·have hp:=perS_out h
  have hw:=wordsS_out h
  apply f114_l1_rule (I:=fun x3 w'=>w'=w∧x3= .int .i64 0) (μ:=fun x3 _=>0)
  ·exact ⟨rfl,rfl⟩
  ·rintro x3 w' ⟨rfl,rfl⟩ E1 hE
   unfold f114_l1_t
   simp (disch:=first|omega|simp only [RO]|(simp only [RZ]<;>omega)|fail) only [↓RA,↓reduceIte,Nat.reduceAdd,Nat.reduceMul,Nat.reduceEqDiff,RB,c_rWords,hw,hp,f114_k1_eq,f114_k1_t]
theorem c_rOff (c i:Int) (w:World) (K:K1) (hi:0≤i) (hi':i<1000):callS Tryz.prog 116 #[.int .i64 c,.int .i64 i] w K=K (.int .i64 (offS c i)) w:=by
 refine callS_det (by kernel_rfl) (f116_call _ _ _ _ ?_) K
 unfold f116_t
 have hw:0≤wordsS c∧wordsS c≤60:=by
  by_cases h:0≤c∧c<5
  ·have:=wordsS_in h.1 h.2;omega
  ·rw [wordsS_out h];omega
 have hb:0≤i*(wordsS c+1)∧i*(wordsS c+1)≤61000:=⟨Int.mul_nonneg (by omega) (by omega),Int.le_trans (Int.mul_le_mul (show i≤1000 by omega) (show wordsS c+1≤61 by omega) (by omega) (by omega)) (by omega)⟩
 simp (disch:=first|omega|simp only [RO]|(simp only [RZ]<;>omega)|fail) only [↓RA,↓reduceIte,Nat.reduceAdd,Nat.reduceMul,Nat.reduceEqDiff,RB,c_rWords,offS]
theorem c_rSum (x:Nat) (w:World) (K:K1) (hx:x<4294967296):callS Tryz.prog 40 #[.int .u32 (x:Int)] w K=K (.int .u32 ((sumN x:Nat):Int)) w:=by
 refine callS_det (by kernel_rfl) (f40_call _ _ _ ?_) K
 unfold f40_t
 have h0:4294967295^^^x<4294967296:=Nat.xor_lt_two_pow (n:=32) (by omega) hx
 simp (disch:=first|omega|simp only [RO]|(simp only [RZ]<;>omega)|fail) only [↓RA,↓reduceIte,Nat.reduceAdd,Nat.reduceMul,Nat.reduceEqDiff,RB]
 apply f40_l1_rule (I:=fun x3 x4 w'=>∃k:Nat,k≤32∧w'=w∧x3= .int .u32 ((bsN k (4294967295^^^x):Nat):Int)∧x4= .int .i64 (k:Int)) (μ:=fun _ x4 _=>100-(Go.RowKit.intOf x4).toNat)
 ·exact ⟨0,by omega,rfl,rfl,rfl⟩
 ·rintro x3 x4 w' ⟨k,hk,rfl,rfl,rfl⟩ E1 hE
  unfold f40_l1_t
  have hc:=bsN_lt k _ h0
  have hs:bsN (k+1) (4294967295^^^x)=bs (bsN k (4294967295^^^x)):=bsN_add k 1 _
  generalize hg:bsN k (4294967295^^^x)=c at hc hs
  by_cases hk':k<32
  ·by_cases h2:c%2=1
   ·have e:bs c=c/2^1^^^2197175160:=by unfold bs;rw [if_pos h2]
    simp (disch:=first|omega|simp only [RO]|(simp only [RZ]<;>omega)|fail) only [↓RA,↓reduceIte,Nat.reduceAdd,Nat.reduceMul,Nat.reduceEqDiff,RB,f40_k2_eq,f40_k2_t]
    refine hE _ _ _ ⟨k+1,by omega,rfl,?_,by simp⟩ ?_
    ·rw [hs,e]
    ·simp [Go.RowKit.intOf];omega
   ·have e:bs c=c/2^1:=by unfold bs;rw [if_neg h2]
    simp (disch:=first|omega|simp only [RO]|(simp only [RZ]<;>omega)|fail) only [↓RA,↓reduceIte,Nat.reduceAdd,Nat.reduceMul,Nat.reduceEqDiff,RB,f40_k2_eq,f40_k2_t]
    refine hE _ _ _ ⟨k+1,by omega,rfl,?_,by simp⟩ ?_
    ·rw [hs,e]
    ·simp [Go.RowKit.intOf];omega
  ·have e:k=32:=by omega
   subst e
   simp (disch:=first|omega|simp only [RO]|(simp only [RZ]<;>omega)|fail) only [↓RA,↓reduceIte,Nat.reduceAdd,Nat.reduceMul,Nat.reduceEqDiff,RB,f40_k1_eq,f40_k1_t,sumN,hg]
theorem seal_s {y:Nat} (h:y<4294967296):y*2^32%18446744073709551616=y*4294967296:=Nat.mod_eq_of_lt (by omega)
theorem c_rSeal (x:Nat) (w:World) (K:K1) (hx:x<4294967296):callS Tryz.prog 10 #[.int .u32 (x:Int)] w K=K (.int .u64 ((sealN x:Nat):Int)) w:=by
 refine callS_det (by kernel_rfl) (f10_call _ _ _ ?_) K
 unfold f10_t
 have hs:=sumN_lt x hx
 simp (disch:=first|omega|simp only [RO]|(simp only [RZ]<;>omega)|fail) only [↓RA,↓reduceIte,Nat.reduceAdd,Nat.reduceMul,Nat.reduceEqDiff,RB,c_rSum,seal_s hs,sealN]
theorem c_rSealed (x:Nat) (w:World) (K:K1) (hx:x<18446744073709551616):callS Tryz.prog 143 #[.int .u64 (x:Int)] w K=K (.bool (isS x)) w:=by
 refine callS_det (by kernel_rfl) (f143_call _ _ _ ?_) K
 unfold f143_t
 by_cases h:sealN (x%4294967296)=x
 ·have e:isS x=true:=decide_eq_true h
  simp (disch:=first|omega|simp only [RO]|(simp only [RZ]<;>omega)|fail) only [↓RA,↓reduceIte,Nat.reduceAdd,Nat.reduceMul,Nat.reduceEqDiff,RB,c_rSeal,h,e]
 ·have e:isS x=false:=decide_eq_false h
  simp (disch:=first|omega|simp only [RO]|(simp only [RZ]<;>omega)|fail) only [↓RA,↓reduceIte,Nat.reduceAdd,Nat.reduceMul,Nat.reduceEqDiff,RB,c_rSeal,e]
end Go.Proofs.YtifpinhjpbgnoaaGreatDoor
namespace Go.Proofs.YtifpinhjpbgnoaaGreatDoor
open Go Go.Sh
set_option maxRecDepth 100000
set_option maxHeartbeats 4000000
set_option linter.unusedSimpArgs false
set_option linter.unusedVariables false
def rhO (c o:Int) (g:Nat):Obj:= .cells #[.int .i64 c,.int .i64 o,.int .u16 (g:Int)] 36
theorem rh_s1 {y:Nat} (h:y<16):y*2^16%4294967296=y*65536:=by rw [Nat.mod_eq_of_lt]<;>omega
theorem rh_s2 {y:Nat} (h:y<16):y*2^20%4294967296=y*1048576:=by rw [Nat.mod_eq_of_lt]<;>omega
theorem c_rFirst (c o:Int) (g:Nat) (w:World) (K:K1) (hg:g<65536) (h:(c= -1∧o= -1)∨(0≤c∧c<5∧0≤o∧o<8)):callS Tryz.prog 45 #[.agg #[.int .i64 c,.int .i64 o,.int .u16 (g:Int)]] w K=K (.int .u64 ((sealN (hdX c o g):Nat):Int)) (w.alloc (rhO c o g)):=by
 refine callS_det (by kernel_rfl) (f45_call _ _ _ ?_) K
 unfold f45_t
 have e:g+(c+1).toNat*65536+(o+1).toNat*1048576+3305111552=hdX c o g:=by
  unfold hdX
  by_cases h0:0≤c
  ·rw [if_pos h0]
  ·rw [if_neg h0];omega
 simp (disch:=first|omega|simp only [RO]|(simp only [RZ]<;>omega)|fail) only [↓RA,↓reduceIte,Nat.reduceAdd,Nat.reduceMul,Nat.reduceEqDiff,RB,RX,rhO,c_rSeal,rh_s1 (show (c+1).toNat<16 by omega),rh_s2 (show (o+1).toNat<16 by omega),e]
def rightB (c o:Int) (g:Nat):Bool:= !decide (g=0)&&((decide (c= -1)&&decide (o= -1))||fmtB c o)
theorem c_rRight (c o:Int) (g:Nat) (w:World) (K:K1):callS Tryz.prog 44 #[.agg #[.int .i64 c,.int .i64 o,.int .u16 (g:Int)]] w K=K (.bool (rightB c o g)) (w.alloc (rhO c o g)):=by
 refine callS_det (by kernel_rfl) (f44_call _ _ _ ?_) K
 unfold f44_t rightB fmtB
 (repeat' (first|(with_reducible refine brS_mk (fun _=> ?_) (fun _=> ?_))|(with_reducible refine And.intro ?_ ?_)|(simp (disch:=first|omega|simp only [RO]|(simp only [RZ]<;>omega)|fail) only [↓RBp,↓RA,↓reduceIte,Nat.reduceAdd,Nat.reduceMul,Nat.reduceEqDiff,RB,RX,rhO])))
 all_goals (simp only [Value.bool.injEq];simp;try omega)
theorem rb_s1 {y:Nat} (h:y<256):y*2^16%4294967296=y*65536:=by rw [Nat.mod_eq_of_lt]<;>omega
theorem rb_s2 {y:Nat} (h:y<256):y*2^24%4294967296=y*16777216:=by rw [Nat.mod_eq_of_lt]<;>omega
theorem c_rBlock (g k s:Nat) (w:World) (K:K1) (hg:g<65536) (hk:k<256) (hs:s<256):callS Tryz.prog 115 #[.int .u16 (g:Int),.int .u8 (k:Int),.int .u32 (s:Int)] w K=K (.int .u64 ((sealN (blkX g k s):Nat):Int)) w:=by
 refine callS_det (by kernel_rfl) (f115_call _ _ _ _ _ ?_) K
 unfold f115_t
 simp (disch:=first|omega|simp only [RO]|(simp only [RZ]<;>omega)|fail) only [↓RA,↓reduceIte,Nat.reduceAdd,Nat.reduceMul,Nat.reduceEqDiff,RB,c_rSeal,rb_s1 hk,rb_s2 hs,blkX]
end Go.Proofs.YtifpinhjpbgnoaaGreatDoor
namespace Go.Proofs.YtifpinhjpbgnoaaGreatDoor
open Go Go.Sh
set_option maxRecDepth 100000
set_option linter.unusedVariables false
def f23_t (x0 x1:Value) (K:K1) (w:World):Prop:=
 ev Tryz.prog (Instr.alloc 69 true (.tuple #[])) w fun t4 w_1=>
 callS Tryz.prog 48 (pA #[x0,x1]) w_1 fun t11 w_2=>
 ev Tryz.prog (Instr.extract t11 0) w_2 fun t12 w_3=>
 ev Tryz.prog (Instr.extract t11 1) w_3 fun t13 w_4=>
 ev Tryz.prog (Instr.alloc 67 true (.tuple #[])) w_4 fun t6 w_5=>
 stS Tryz.prog 67 t6 t12 w_5 fun w_6=>
 ev Tryz.prog (binM .neq 43 (.tmp 14) (.const (.int .i64 0)) t13 (.int .i64 0)) w_6 fun t15 w_7=>
 cndS t15 (
 ev Tryz.prog (Instr.build 69 #[]) w_7 fun t16 w_8=>
 stS Tryz.prog 69 t4 t16 w_8 fun w_9=>
 ldR Tryz.prog 69 t4 w_9 fun r=>
 K (.tuple #[r,t13]) w_9) (
 ev Tryz.prog (Instr.fieldAt 67 t6 0) w_7 fun t18 w_10=>
 ldS Tryz.prog 3 t18 w_10 fun t19 w_11=>
 ev Tryz.prog (binM .lss 3 (.tmp 19) (.const (.int .i64 0)) t19 (.int .i64 0)) w_11 fun t20 w_12=>
 cndS t20 (
 ev Tryz.prog (Instr.build 69 #[]) w_12 fun t21 w_13=>
 stS Tryz.prog 69 t4 t21 w_13 fun w_14=>
 ldR Tryz.prog 69 t4 w_14 fun r_1=>
 K (.tuple #[r_1,(.int .i64 8)]) w_14) (
 ldS Tryz.prog 67 t6 w_12 fun t24 w_15=>
 ev Tryz.prog (Instr.build 69 #[(0,x0),(1,x1),(2,t24)]) w_15 fun t25 w_16=>
 stS Tryz.prog 69 t4 t25 w_16 fun w_17=>
 ldR Tryz.prog 69 t4 w_17 fun r_2=>
 K (.tuple #[r_2,(.int .i64 0)]) w_17))
theorem f23_call (x0 x1:Value) (K:K1) (w:World) (h:f23_t x0 x1 K w):callS Tryz.prog 23 #[x0,x1] w K:=
 call_of_txt (args:= [x0,x1]) mixed Tryz.func23 .o (by kernel_rfl) (cast (by kernel_rfl) h)
def f25_t (x0:Value) (K:K1) (w:World):Prop:=
 ev Tryz.prog (Instr.box 69 x0) w fun t1 w_1=>
 ev Tryz.prog (Instr.fieldAt 69 t1 0) w_1 fun t3 w_2=>
 ldS Tryz.prog 66 t3 w_2 fun t4 w_3=>
 ev Tryz.prog (binM .eql 66 (.tmp 4) (.const .nilIface) t4 .nilIface) w_3 fun t5 w_4=>
 cndS t5 (
 K (.int .i64 (-1)) w_4) (
 ev Tryz.prog (Instr.fieldAt 69 t1 2) w_4 fun t6 w_5=>
 ev Tryz.prog (Instr.fieldAt 67 t6 0) w_5 fun t7 w_6=>
 ldS Tryz.prog 3 t7 w_6 fun t8 w_7=>
 K t8 w_7)
theorem f25_call (x0:Value) (K:K1) (w:World) (h:f25_t x0 K w):callS Tryz.prog 25 #[x0] w K:=
 call_of_txt (args:= [x0]) mixed Tryz.func25 .o (by kernel_rfl) (cast (by kernel_rfl) h)
noncomputable def f28_u:Code×Dec:=((Tryz.f28.body).getD .skip,(.s .o (.s .o (.x 30 (.s .o (.b (.l [23] 6291486 17171483392 .o))) .o))))
abbrev f28_e (K:K1):KF:=endK Tryz.prog Tryz.f28.results.toList K
def f28_k1_o (K:K1):KF:=fun fr w=>∀σ,cP (pr (pr (pr f28_u))) (f28_e K) (f28_e K) nX (mixF 30 σ 0 fr) w
def f28_k1 (K:K1) (x1 x2 x3 x4:Value) (w:World):Prop:=f28_k1_o K (fz 66 0 [(1,x1),(2,x2),(3,x3),(4,x4)]) w
def f28_l1 (K:K1) (x1 x2 x3 x4 x21 x22 x23:Value) (w:World):Prop:=loopT [23] 6291486 (fun E=>cP (pl (pl (pr (pl (pr (pr f28_u)))))) E (f28_e K) (exB 0 (f28_k1_o K) nX)) (fz 66 0 [(1,x1),(2,x2),(3,x3),(4,x4),(21,x21),(22,x22),(23,x23)]) w
def f28_k1_t (x1 x2 x3 x4:Value) (K:K1) (w:World):Prop:=
 ldS Tryz.prog 69 x4 w fun t34 w_1=>
 ev Tryz.prog (Instr.buildSlice 180 2 #[(0,x1),(1,x3)]) w_1 fun t37 w_2=>
 callS Tryz.prog 69 (pA #[t34,t37]) w_2 fun t38 w_3=>
 ev Tryz.prog (Op.unary .not t38) w_3 fun t39 w_4=>
 cndS t39 (
 K (.tuple #[(.slice none 0 0),(.int .i64 1)]) w_4) (
 ev Tryz.prog (Instr.fieldAt 69 x4 0) w_4 fun t40 w_5=>
 ldS Tryz.prog 66 t40 w_5 fun t41 w_6=>
 ev Tryz.prog (binM .eql 66 (.tmp 41) (.const .nilIface) t41 .nilIface) w_6 fun t42 w_7=>
 cndS t42 (
 K (.tuple #[(.slice none 0 0),(.int .i64 0)]) w_7) (
 ev Tryz.prog (Instr.fieldAt 69 x4 0) w_7 fun t43 w_8=>
 ldS Tryz.prog 66 t43 w_8 fun t44 w_9=>
 invS Tryz.prog t44 "Err" (pA #[]) w_9 fun t45 w_10=>
 ev Tryz.prog (binM .neq 43 (.tmp 46) (.const (.int .i64 0)) t45 (.int .i64 0)) w_10 fun t47 w_11=>
 cndS t47 (
 K (.tuple #[(.slice none 0 0),t45]) w_11) (
 ldS Tryz.prog 69 x4 w_11 fun t50 w_12=>
 callS Tryz.prog 70 (pA #[t50,x1,x2,x3]) w_12 fun t54 w_13=>
 ev Tryz.prog (Instr.extract t54 0) w_13 fun t55 w_14=>
 ev Tryz.prog (Instr.extract t54 1) w_14 fun t56 w_15=>
 ev Tryz.prog (Instr.fieldAt 69 x4 0) w_15 fun t57 w_16=>
 ldS Tryz.prog 66 t57 w_16 fun t58 w_17=>
 invS Tryz.prog t58 "Err" (pA #[]) w_17 fun t59 w_18=>
 ev Tryz.prog (binM .neq 43 (.tmp 60) (.const (.int .i64 0)) t59 (.int .i64 0)) w_18 fun t61 w_19=>
 cndS t61 (
 K (.tuple #[(.slice none 0 0),t59]) w_19) (
 ev Tryz.prog (Op.unary .not t56) w_19 fun t64 w_20=>
 cndS t64 (
 K (.tuple #[(.slice none 0 0),(.int .i64 8)]) w_20) (
 K (.tuple #[t55,(.int .i64 0)]) w_20)))))
theorem f28_k1_eq (K:K1) (x1 x2 x3 x4:Value) (w:World):f28_k1 K x1 x2 x3 x4 w=f28_k1_t x1 x2 x3 x4 K w:=cutE fun σ=>by kernel_rfl
def f28_l1_t (x1 x2 x3 x4 x21 x22 x23:Value) (K:K1) (E1:VP1) (w:World):Prop:=
 ev Tryz.prog (binM .lss 3 (.tmp 23) (.tmp 22) x23 x22) w fun t24 w_1=>
 cndS t24 (
 ev Tryz.prog (Instr.indexAt 58 x21 x23) w_1 fun t25 w_2=>
 ldS Tryz.prog 5 t25 w_2 fun t26 w_3=>
 ev Tryz.prog (binM .eql 5 (.tmp 27) (.const (.int .u8 ((0:Nat):Int))) t26 (.int .u8 ((0:Nat):Int))) w_3 fun t28 w_4=>
 gd t28 false (fun k=>k t26 w_4) w_4 fun t30 w_5=>
 gd t28 false (fun k=>ev Tryz.prog (binM .gtr 5 (.tmp 30) (.const (.int .u8 ((127:Nat):Int))) t30 (.int .u8 ((127:Nat):Int))) w_5 k) w_5 fun t31 w_6=>
 pickS t28 (.bool true) t31 w_6 fun t32 w_7=>
 cndS t32 (
 K (.tuple #[(.slice none 0 0),(.int .i64 1)]) w_7) (
 ev Tryz.prog (binM .add 3 (.tmp 23) (.const (.int .i64 1)) x23 (.int .i64 1)) w_7 fun t33 w_8=>
 E1 t33 w_8)) (
 f28_k1 K x1 x2 x3 x4 w_1)
theorem f28_l1_rule (x1 x2 x3 x4 x21 x22 x23:Value) (K:K1) (w:World) (I:VP1) (μ:Value→World→Nat) (h0:I x23 w)
  (hr:∀(x23:Value) (w:World),I x23 w→∀E1:VP1,(∀(y23:Value) (w':World),I y23 w'→μ y23 w'<μ x23 w→E1 y23 w')→f28_l1_t x1 x2 x3 x4 x21 x22 x23 K E1 w):f28_l1 K x1 x2 x3 x4 x21 x22 x23 w:=
 ⟨I,μ,h0,fun σ w hI E hE=>cast (by kernel_rfl) (hr (σ 23) w hI E hE)⟩
def f28_t (x0 x1 x2 x3:Value) (K:K1) (w:World):Prop:=
 ev Tryz.prog (Instr.box 69 x0) w fun t4 w_1=>
 bltS Tryz.prog .len #[58] 3 #[false] #[x2] w_1 fun t17 w_2=>
 bltS Tryz.prog .len #[50] 3 #[false] #[x1] w_2 fun t19 w_3=>
 ev Tryz.prog (binM .neq 3 (.tmp 17) (.tmp 19) t17 t19) w_3 fun t20 w_4=>
 cndS t20 (
 K (.tuple #[(.slice none 0 0),(.int .i64 1)]) w_4) (
 bltS Tryz.prog .len #[58] 3 #[false] #[x2] w_4 fun t22 w_5=>
 f28_l1 K x1 x2 x3 t4 x2 t22 (.int .i64 0) w_5)
theorem f28_call (x0 x1 x2 x3:Value) (K:K1) (w:World) (h:f28_t x0 x1 x2 x3 K w):callS Tryz.prog 28 #[x0,x1,x2,x3] w K:=
 call_of_txt (args:= [x0,x1,x2,x3]) mixed Tryz.func28 f28_u.2 (by kernel_rfl) (cast (by kernel_rfl) h)
def f48_t (x0 x1:Value) (K:K1) (w:World):Prop:=
 ev Tryz.prog (Instr.alloc 67 true (.tuple #[])) w fun t4 w_1=>
 ev Tryz.prog (binM .eql 66 (.tmp 12) (.const .nilIface) x0 .nilIface) w_1 fun t13 w_2=>
 gd t13 false (fun k=>k x1 w_2) w_2 fun t15 w_3=>
 gd t13 false (fun k=>ev Tryz.prog (binM .lss 3 (.tmp 15) (.const (.int .i64 0)) t15 (.int .i64 0)) w_3 k) w_3 fun t16 w_4=>
 pickS t13 (.bool true) t16 w_4 fun t17 w_5=>
 cndS t17 (
 ev Tryz.prog (Instr.build 67 #[]) w_5 fun t18 w_6=>
 stS Tryz.prog 67 t4 t18 w_6 fun w_7=>
 ldR Tryz.prog 67 t4 w_7 fun r=>
 K (.tuple #[r,(.int .i64 1)]) w_7) (
 invS Tryz.prog x0 "Size" (pA #[]) w_5 fun t20 w_8=>
 ev Tryz.prog (binM .quo 30 (.tmp 20) (.const (.int .u64 ((64:Nat):Int))) t20 (.int .u64 ((64:Nat):Int))) w_8 fun t21 w_9=>
 ev Tryz.prog (binM .lss 30 (.tmp 22) (.const (.int .u64 ((32:Nat):Int))) t21 (.int .u64 ((32:Nat):Int))) w_9 fun t23 w_10=>
 gd t23 false (fun k=>k x1 w_10) w_10 fun t25 w_11=>
 gd t23 false (fun k=>ev Tryz.prog (convert 3 30 t25) w_11 k) w_11 fun t26 w_12=>
 gd t23 false (fun k=>k t21 w_12) w_12 fun t27 w_13=>
 gd t23 false (fun k=>ev Tryz.prog (binM .sub 30 (.tmp 27) (.const (.int .u64 ((32:Nat):Int))) t27 (.int .u64 ((32:Nat):Int))) w_13 k) w_13 fun t28 w_14=>
 gd t23 false (fun k=>ev Tryz.prog (binM .gtr 30 (.tmp 26) (.tmp 28) t26 t28) w_14 k) w_14 fun t29 w_15=>
 pickS t23 (.bool true) t29 w_15 fun t30 w_16=>
 cndS t30 (
 ev Tryz.prog (Instr.build 67 #[]) w_16 fun t31 w_17=>
 stS Tryz.prog 67 t4 t31 w_17 fun w_18=>
 ldR Tryz.prog 67 t4 w_18 fun r_1=>
 K (.tuple #[r_1,(.int .i64 1)]) w_18) (
 invS Tryz.prog x0 "Err" (pA #[]) w_16 fun t33 w_19=>
 ev Tryz.prog (binM .neq 43 (.tmp 34) (.const (.int .i64 0)) t33 (.int .i64 0)) w_19 fun t35 w_20=>
 cndS t35 (
 ev Tryz.prog (Instr.build 67 #[]) w_20 fun t36 w_21=>
 stS Tryz.prog 67 t4 t36 w_21 fun w_22=>
 ldR Tryz.prog 67 t4 w_22 fun r_2=>
 K (.tuple #[r_2,t33]) w_22) (
 rd Tryz.prog (Instr.makeFunc (.method "Load") #[x0] #[]) w_20.drew fun t41=>
 nilR Tryz.prog t41 w_20.drew fun t42=>
 callS Tryz.prog 86 (pA #[x1]) w_20.drew fun t40 w_23=>
 (ag Tryz.prog (Instr.makeFunc (.method "Load") #[x0] #[]) w_23 t41)∧
 (nilR Tryz.prog t41 w_23 (fun u=>u=t42))∧
 invS Tryz.prog x0 "Load" (pA #[t40]) w_23 fun t44 w_24=>
 invS Tryz.prog x0 "Err" (pA #[]) w_24 fun t46 w_25=>
 ev Tryz.prog (binM .neq 43 (.tmp 47) (.const (.int .i64 0)) t46 (.int .i64 0)) w_25 fun t48 w_26=>
 cndS t48 (
 ev Tryz.prog (Instr.build 67 #[]) w_26 fun t49 w_27=>
 stS Tryz.prog 67 t4 t49 w_27 fun w_28=>
 ldR Tryz.prog 67 t4 w_28 fun r_3=>
 K (.tuple #[r_3,t46]) w_28) (
 callS Tryz.prog 87 (pA #[t44]) w_26 fun t53 w_29=>
 ev Tryz.prog (Instr.extract t53 0) w_29 fun t54 w_30=>
 ev Tryz.prog (Instr.extract t53 1) w_30 fun t55 w_31=>
 ev Tryz.prog (Instr.alloc 67 true (.tuple #[])) w_31 fun t10 w_32=>
 stS Tryz.prog 67 t10 t54 w_32 fun w_33=>
 ev Tryz.prog (Op.unary .not t55) w_33 fun t57 w_34=>
 cndS t57 (
 ev Tryz.prog (Instr.build 67 #[]) w_34 fun t58 w_35=>
 stS Tryz.prog 67 t4 t58 w_35 fun w_36=>
 ldR Tryz.prog 67 t4 w_36 fun r_4=>
 K (.tuple #[r_4,(.int .i64 11)]) w_36) (
 ldS Tryz.prog 67 t10 w_34 fun t59 w_37=>
 stS Tryz.prog 67 t4 t59 w_37 fun w_38=>
 ldR Tryz.prog 67 t4 w_38 fun r_5=>
 K (.tuple #[r_5,(.int .i64 0)]) w_38)))))
theorem f48_call (x0 x1:Value) (K:K1) (w:World) (h:f48_t x0 x1 K w):callS Tryz.prog 48 #[x0,x1] w K:=
 call_of_txt (args:= [x0,x1]) mixed Tryz.func48 .o (by kernel_rfl) (cast (by kernel_rfl) h)
def f63_t (x0:Value) (K:K1) (w:World):Prop:=
 ev Tryz.prog (Instr.box 69 x0) w fun t1 w_1=>
 ldS Tryz.prog 69 t1 w_1 fun t3 w_2=>
 callS Tryz.prog 25 (pA #[t3]) w_2 fun t4 w_3=>
 callS Tryz.prog 59 (pA #[t4]) w_3 fun t5 w_4=>
 K t5 w_4
theorem f63_call (x0:Value) (K:K1) (w:World) (h:f63_t x0 K w):callS Tryz.prog 63 #[x0] w K:=
 call_of_txt (args:= [x0]) mixed Tryz.func63 .o (by kernel_rfl) (cast (by kernel_rfl) h)
def f64_t (x0 x1:Value) (K:K1) (w:World):Prop:=
 ev Tryz.prog (Instr.box 69 x0) w fun t2 w_1=>
 ev Tryz.prog (binM .geq 3 (.tmp 5) (.const (.int .i64 0)) x1 (.int .i64 0)) w_1 fun t6 w_2=>
 gd t6 true (fun k=>k x1 w_2) w_2 fun t8 w_3=>
 gd t6 true (fun k=>ldS Tryz.prog 69 t2 w_3 k) w_3 fun t9 w_4=>
 gd t6 true (fun k=>callS Tryz.prog 63 (pA #[t9]) w_4 k) w_4 fun t10 w_5=>
 gd t6 true (fun k=>ev Tryz.prog (binM .lss 3 (.tmp 8) (.tmp 10) t8 t10) w_5 k) w_5 fun t11 w_6=>
 pickS t6 t11 (.bool false) w_6 fun t12 w_7=>
 K t12 w_7
theorem f64_call (x0 x1:Value) (K:K1) (w:World) (h:f64_t x0 x1 K w):callS Tryz.prog 64 #[x0,x1] w K:=
 call_of_txt (args:= [x0,x1]) mixed Tryz.func64 .o (by kernel_rfl) (cast (by kernel_rfl) h)
def f65_t (x0 x1:Value) (K:K1) (w:World):Prop:=
 ev Tryz.prog (Instr.box 69 x0) w fun t2 w_1=>
 ev Tryz.prog (Instr.alloc 137 true (.tuple #[])) w_1 fun t4 w_2=>
 ldS Tryz.prog 69 t2 w_2 fun t7 w_3=>
 callS Tryz.prog 106 (pA #[t7]) w_3 fun t8 w_4=>
 ev Tryz.prog (convert 3 96 x1) w_4 fun t10 w_5=>
 ev Tryz.prog (binM .shr 30 (.tmp 8) (.tmp 10) t8 t10) w_5 fun t11 w_6=>
 ev Tryz.prog (binM .and 30 (.tmp 11) (.const (.int .u64 ((1:Nat):Int))) t11 (.int .u64 ((1:Nat):Int))) w_6 fun t12 w_7=>
 ev Tryz.prog (binM .eql 30 (.tmp 12) (.const (.int .u64 ((1:Nat):Int))) t12 (.int .u64 ((1:Nat):Int))) w_7 fun t13 w_8=>
 rd Tryz.prog (Instr.fieldAt 69 t2 0) w_8.drew fun t15=>
 ldR Tryz.prog 66 t15 w_8.drew fun t16=>
 ldR Tryz.prog 69 t2 w_8.drew fun t17=>
 nilR Tryz.prog t16 w_8.drew fun t20=>
 callS Tryz.prog 68 (pA #[t17,x1]) w_8.drew fun t19 w_9=>
 (ag Tryz.prog (Instr.fieldAt 69 t2 0) w_9 t15)∧
 (ldG Tryz.prog 66 t15 w_9 t16)∧
 (nilR Tryz.prog t16 w_9 (fun u=>u=t20))∧
 invS Tryz.prog t16 "Load" (pA #[t19]) w_9 fun t22 w_10=>
 callS Tryz.prog 107 (pA #[t22]) w_10 fun t23 w_11=>
 rd Tryz.prog (Instr.extract t23 0) w_11 fun t24=>
 rd Tryz.prog (Instr.extract t23 1) w_11 fun t25=>
 stS Tryz.prog 137 t4 t24 w_11 fun w_12=>
 ldS Tryz.prog 137 t4 w_12 fun t26 w_13=>
 stS Tryz.prog 137 t4 t26 w_13 fun w_14=>
 ldR Tryz.prog 137 t4 w_14 fun r=>
 K (.tuple #[r,t25,t13]) w_14
theorem f65_call (x0 x1:Value) (K:K1) (w:World) (h:f65_t x0 x1 K w):callS Tryz.prog 65 #[x0,x1] w K:=
 call_of_txt (args:= [x0,x1]) mixed Tryz.func65 .o (by kernel_rfl) (cast (by kernel_rfl) h)
def f68_t (x0 x1:Value) (K:K1) (w:World):Prop:=
 ev Tryz.prog (Instr.box 69 x0) w fun t2 w_1=>
 ev Tryz.prog (Instr.fieldAt 69 t2 2) w_1 fun t8 w_2=>
 ev Tryz.prog (Instr.fieldAt 67 t8 0) w_2 fun t9 w_3=>
 ldS Tryz.prog 3 t9 w_3 fun t10 w_4=>
 callS Tryz.prog 100 (pA #[t10,x1]) w_4 fun t12 w_5=>
 ev Tryz.prog (Instr.extract t12 0) w_5 fun t13 w_6=>
 ev Tryz.prog (Instr.extract t12 1) w_6 fun t14 w_7=>
 ev Tryz.prog (Instr.fieldAt 69 t2 1) w_7 fun t15 w_8=>
 ldS Tryz.prog 3 t15 w_8 fun t16 w_9=>
 callS Tryz.prog 86 (pA #[t16]) w_9 fun t17 w_10=>
 ev Tryz.prog (convert 3 30 t13) w_10 fun t19 w_11=>
 ev Tryz.prog (binM .mul 30 (.tmp 19) (.const (.int .u64 ((8:Nat):Int))) t19 (.int .u64 ((8:Nat):Int))) w_11 fun t20 w_12=>
 ev Tryz.prog (binM .add 30 (.tmp 17) (.tmp 20) t17 t20) w_12 fun t21 w_13=>
 K t21 w_13
theorem f68_call (x0 x1:Value) (K:K1) (w:World) (h:f68_t x0 x1 K w):callS Tryz.prog 68 #[x0,x1] w K:=
 call_of_txt (args:= [x0,x1]) mixed Tryz.func68 .o (by kernel_rfl) (cast (by kernel_rfl) h)
noncomputable def f69_u:Code×Dec:=((Tryz.f69.body).getD .skip,(.s .o (.s .o (.x 0 (.s .o (.b (.l [5,12] 3076 2199023252144 (.s .o (.s .o (.x 7204 (.b (.s .o (.s .o (.b (.l [5,18] 203780 1099511366192 .o))))) .o)))))) .o))))
abbrev f69_e (K:K1):KF:=endK Tryz.prog Tryz.f69.results.toList K
def f69_k1_o (K:K1):KF:=fun fr w=>∀σ,cP (pr (pr (pr f69_u))) (f69_e K) (f69_e K) nX (mixF 0 σ 0 fr) w
def f69_k1 (K:K1) (w:World):Prop:=f69_k1_o K (fz 41 0 []) w
def f69_l1 (K:K1) (x2 x5 x10 x11 x12:Value) (w:World):Prop:=loopT [5,12] 3076 (fun E=>cP (pl (pl (pr (pl (pr (pr f69_u)))))) E (f69_e K) (exB 0 (f69_k1_o K) nX)) (fz 41 0 [(2,x2),(5,x5),(10,x10),(11,x11),(12,x12)]) w
def f69_k2_o (K:K1) (E1:VP2):KF:=fun fr w=>∀σ,cP (pr (pr (pr (pl (pl (pr (pl (pr (pr f69_u))))))))) (fun fr w=>E1 (sv fr 5) (sv fr 12) w) (f69_e K) (exB 0 (f69_k1_o K) nX) (mixF 7204 σ 0 fr) w
def f69_k2 (K:K1) (E1:VP2) (x2 x5 x10 x11 x12:Value) (w:World):Prop:=f69_k2_o K E1 (fz 41 0 [(2,x2),(5,x5),(10,x10),(11,x11),(12,x12)]) w
def f69_l2 (K:K1) (E1:VP2) (x2 x5 x10 x11 x12 x16 x17 x18:Value) (w:World):Prop:=loopT [5,18] 203780 (fun E=>cP (pl (pl (pr (pr (pl (pl (pr (pr (pl (pl (pr (pl (pr (pr f69_u)))))))))))))) E (f69_e K) (exB 2 (f69_k2_o K E1) (exB 1 (f69_k2_o K E1) (exB 0 (f69_k1_o K) nX)))) (fz 41 0 [(2,x2),(5,x5),(10,x10),(11,x11),(12,x12),(16,x16),(17,x17),(18,x18)]) w
def f69_k1_t (K:K1) (w:World):Prop:=
 K (.bool true) w
theorem f69_k1_eq (K:K1) (w:World):f69_k1 K w=f69_k1_t K w:=cutE fun σ=>by kernel_rfl
def f69_l1_t (x2 x5 x10 x11 x12:Value) (K:K1) (E1:VP2) (w:World):Prop:=
 ev Tryz.prog (binM .lss 3 (.tmp 12) (.tmp 11) x12 x11) w fun t13 w_1=>
 cndS t13 (
 ev Tryz.prog (Instr.indexAt 180 x10 x12) w_1 fun t14 w_2=>
 ldS Tryz.prog 50 t14 w_2 fun t15 w_3=>
 bltS Tryz.prog .len #[50] 3 #[false] #[t15] w_3 fun t17 w_4=>
 f69_l2 K E1 x2 x5 x10 x11 x12 t15 t17 (.int .i64 0) w_4) (
 f69_k1 K w_1)
theorem f69_l1_rule (x2 x5 x10 x11 x12:Value) (K:K1) (w:World) (I:VP2) (μ:Value→Value→World→Nat) (h0:I x5 x12 w)
  (hr:∀(x5 x12:Value) (w:World),I x5 x12 w→∀E1:VP2,(∀(y5 y12:Value) (w':World),I y5 y12 w'→μ y5 y12 w'<μ x5 x12 w→E1 y5 y12 w')→f69_l1_t x2 x5 x10 x11 x12 K E1 w):f69_l1 K x2 x5 x10 x11 x12 w:=
 ⟨I,μ,h0,fun σ w hI E hE=>cast (by kernel_rfl) (hr (σ 5) (σ 12) w hI E hE)⟩
def f69_k2_t (x2 x5 x10 x11 x12:Value) (K:K1) (E1:VP2) (w:World):Prop:=
 ev Tryz.prog (binM .add 3 (.tmp 12) (.const (.int .i64 1)) x12 (.int .i64 1)) w fun t40 w_1=>
 E1 x5 t40 w_1
theorem f69_k2_eq (K:K1) (E1:VP2) (x2 x5 x10 x11 x12:Value) (w:World):f69_k2 K E1 x2 x5 x10 x11 x12 w=f69_k2_t x2 x5 x10 x11 x12 K E1 w:=cutE fun σ=>by kernel_rfl
def f69_l2_t (x2 x5 x10 x11 x12 x16 x17 x18:Value) (K:K1) (E1:VP2) (E2:VP2) (w:World):Prop:=
 ev Tryz.prog (binM .lss 3 (.tmp 18) (.tmp 17) x18 x17) w fun t19 w_1=>
 cndS t19 (
 ev Tryz.prog (Instr.indexAt 50 x16 x18) w_1 fun t20 w_2=>
 ldS Tryz.prog 3 t20 w_2 fun t21 w_3=>
 ldS Tryz.prog 69 x2 w_3 fun t22 w_4=>
 callS Tryz.prog 64 (pA #[t22,t21]) w_4 fun t24 w_5=>
 ev Tryz.prog (Op.unary .not t24) w_5 fun t25 w_6=>
 gd t25 false (fun k=>k x5 w_6) w_6 fun t27 w_7=>
 gd t25 false (fun k=>k t21 w_7) w_7 fun t28 w_8=>
 gd t25 false (fun k=>ev Tryz.prog (convert 3 96 t28) w_8 k) w_8 fun t29 w_9=>
 gd t25 false (fun k=>ev Tryz.prog (binM .shr 30 (.tmp 27) (.tmp 29) t27 t29) w_9 k) w_9 fun t30 w_10=>
 gd t25 false (fun k=>ev Tryz.prog (binM .and 30 (.tmp 30) (.const (.int .u64 ((1:Nat):Int))) t30 (.int .u64 ((1:Nat):Int))) w_10 k) w_10 fun t31 w_11=>
 gd t25 false (fun k=>ev Tryz.prog (binM .eql 30 (.tmp 31) (.const (.int .u64 ((1:Nat):Int))) t31 (.int .u64 ((1:Nat):Int))) w_11 k) w_11 fun t32 w_12=>
 pickS t25 (.bool true) t32 w_12 fun t33 w_13=>
 cndS t33 (
 K (.bool false) w_13) (
 ev Tryz.prog (convert 3 96 t21) w_13 fun t36 w_14=>
 ev Tryz.prog (binM .shl 30 (.const (.int .u64 ((1:Nat):Int))) (.tmp 36) (.int .u64 ((1:Nat):Int)) t36) w_14 fun t37 w_15=>
 ev Tryz.prog (binM .or 30 (.tmp 34) (.tmp 37) x5 t37) w_15 fun t38 w_16=>
 ev Tryz.prog (binM .add 3 (.tmp 18) (.const (.int .i64 1)) x18 (.int .i64 1)) w_16 fun t39 w_17=>
 E2 t38 t39 w_17)) (
 f69_k2 K E1 x2 x5 x10 x11 x12 w_1)
theorem f69_l2_rule (x2 x5 x10 x11 x12 x16 x17 x18:Value) (K:K1) (E1:VP2) (w:World) (I:VP2) (μ:Value→Value→World→Nat) (h0:I x5 x18 w)
  (hr:∀(x5 x18:Value) (w:World),I x5 x18 w→∀E2:VP2,(∀(y5 y18:Value) (w':World),I y5 y18 w'→μ y5 y18 w'<μ x5 x18 w→E2 y5 y18 w')→f69_l2_t x2 x5 x10 x11 x12 x16 x17 x18 K E1 E2 w):f69_l2 K E1 x2 x5 x10 x11 x12 x16 x17 x18 w:=
 ⟨I,μ,h0,fun σ w hI E hE=>cast (by kernel_rfl) (hr (σ 5) (σ 18) w hI E hE)⟩
def f69_t (x0 x1:Value) (K:K1) (w:World):Prop:=
 ev Tryz.prog (Instr.box 69 x0) w fun t2 w_1=>
 bltS Tryz.prog .len #[180] 3 #[false] #[x1] w_1 fun t11 w_2=>
 f69_l1 K t2 (.int .u64 ((0:Nat):Int)) x1 t11 (.int .i64 0) w_2
theorem f69_call (x0 x1:Value) (K:K1) (w:World) (h:f69_t x0 x1 K w):callS Tryz.prog 69 #[x0,x1] w K:=
 call_of_txt (args:= [x0,x1]) mixed Tryz.func69 f69_u.2 (by kernel_rfl) (cast (by kernel_rfl) h)
noncomputable def f70_u:Code×Dec:=((Tryz.f70.body).getD .skip,(.s .o (.s .o (.s .o (.s .o (.x 3096 (.s .o (.b (.l [10,11,34] 12884901916 4835703278458499519086336 .o))) (.x 3088 (.s .o (.b (.l [10,11,84] 14507109835375550096474128 85070591730215273052729817791150690048 (.s .o (.s .o (.x 33849922949209616891776016 .o .o)))))) .o)))))))
abbrev f70_e (K:K1):KF:=endK Tryz.prog Tryz.f70.results.toList K
def f70_k1_o (K:K1):KF:=fun fr w=>∀σ,cP (pr (pr (pr (pr (pr f70_u))))) (f70_e K) (f70_e K) nX (mixF 3096 σ 0 fr) w
def f70_k1 (K:K1) (x3 x4 x10 x11:Value) (w:World):Prop:=f70_k1_o K (fz 135 0 [(3,x3),(4,x4),(10,x10),(11,x11)]) w
def f70_l1 (K:K1) (x2 x3 x4 x10 x11 x32 x33 x34:Value) (w:World):Prop:=loopT [10,11,34] 12884901916 (fun E=>cP (pl (pl (pr (pl (pr (pr (pr (pr f70_u)))))))) E (f70_e K) (exB 0 (f70_k1_o K) nX)) (fz 135 0 [(2,x2),(3,x3),(4,x4),(10,x10),(11,x11),(32,x32),(33,x33),(34,x34)]) w
def f70_k2_o (K:K1):KF:=fun fr w=>∀σ,cP (pr (pr (pr (pr (pr (pr f70_u)))))) (f70_e K) (f70_e K) nX (mixF 3088 σ 0 fr) w
def f70_k2 (K:K1) (x4 x10 x11:Value) (w:World):Prop:=f70_k2_o K (fz 135 0 [(4,x4),(10,x10),(11,x11)]) w
def f70_l2 (K:K1) (x4 x10 x11 x82 x83 x84:Value) (w:World):Prop:=loopT [10,11,84] 14507109835375550096474128 (fun E=>cP (pl (pl (pr (pl (pr (pr (pr (pr (pr f70_u))))))))) E (f70_e K) (exB 2 (f70_k2_o K) nX)) (fz 135 0 [(4,x4),(10,x10),(11,x11),(82,x82),(83,x83),(84,x84)]) w
def f70_k3_o (K:K1) (E1:VP3):KF:=fun fr w=>∀σ,cP (pr (pr (pr (pl (pl (pr (pl (pr (pr (pr (pr (pr f70_u)))))))))))) (fun fr w=>E1 (sv fr 10) (sv fr 11) (sv fr 84) w) (f70_e K) (exB 2 (f70_k2_o K) nX) (mixF 33849922949209616891776016 σ 0 fr) w
def f70_k3 (K:K1) (E1:VP3) (x4 x10 x11 x82 x83 x84:Value) (w:World):Prop:=f70_k3_o K E1 (fz 135 0 [(4,x4),(10,x10),(11,x11),(82,x82),(83,x83),(84,x84)]) w
def f70_k1_t (x3 x4 x10 x11:Value) (K:K1) (w:World):Prop:=
 bltS Tryz.prog .len #[50] 3 #[false] #[x3] w fun t83 w_1=>
 f70_l2 K x4 x10 x11 x3 t83 (.int .i64 0) w_1
theorem f70_k1_eq (K:K1) (x3 x4 x10 x11:Value) (w:World):f70_k1 K x3 x4 x10 x11 w=f70_k1_t x3 x4 x10 x11 K w:=cutE fun σ=>by kernel_rfl
def f70_l1_t (x2 x3 x4 x10 x11 x32 x33 x34:Value) (K:K1) (E1:VP3) (w:World):Prop:=
 ev Tryz.prog (binM .lss 3 (.tmp 34) (.tmp 33) x34 x33) w fun t35 w_1=>
 cndS t35 (
 ev Tryz.prog (Instr.indexAt 50 x32 x34) w_1 fun t37 w_2=>
 ldS Tryz.prog 3 t37 w_2 fun t38 w_3=>
 ldS Tryz.prog 69 x4 w_3 fun t40 w_4=>
 callS Tryz.prog 65 (pA #[t40,t38]) w_4 fun t42 w_5=>
 ev Tryz.prog (Instr.extract t42 0) w_5 fun t43 w_6=>
 ev Tryz.prog (Instr.extract t42 1) w_6 fun t44 w_7=>
 ev Tryz.prog (Instr.extract t42 2) w_7 fun t45 w_8=>
 ev Tryz.prog (Instr.alloc 137 true (.tuple #[])) w_8 fun t14 w_9=>
 stS Tryz.prog 137 t14 t43 w_9 fun w_10=>
 ev Tryz.prog (Op.unary .not t44) w_10 fun t47 w_11=>
 gd t47 false (fun k=>k t45 w_11) w_11 fun t49 w_12=>
 pickS t47 (.bool true) t49 w_12 fun t50 w_13=>
 gd t50 false (fun k=>ev Tryz.prog (Instr.fieldAt 137 t14 2) w_13 k) w_13 fun t52 w_14=>
 gd t50 false (fun k=>ldS Tryz.prog 5 t52 w_14 k) w_14 fun t53 w_15=>
 gd t50 false (fun k=>ev Tryz.prog (binM .neq 5 (.tmp 53) (.const (.int .u8 ((176:Nat):Int))) t53 (.int .u8 ((176:Nat):Int))) w_15 k) w_15 fun t54 w_16=>
 pickS t50 (.bool true) t54 w_16 fun t55 w_17=>
 gd t55 false (fun k=>ldS Tryz.prog 137 t14 w_17 k) w_17 fun t57 w_18=>
 gd t55 false (fun k=>callS Tryz.prog 66 (pA #[t57]) w_18 k) w_18 fun t58 w_19=>
 gd t55 false (fun k=>ev Tryz.prog (Op.unary .not t58) w_19 k) w_19 fun t59 w_20=>
 pickS t55 (.bool true) t59 w_20 fun t60 w_21=>
 cndS t60 (
 K (.tuple #[(.slice none 0 0),(.bool false)]) w_21) (
 ev Tryz.prog (Instr.indexAt 58 x2 x34) w_21 fun t63 w_22=>
 ldS Tryz.prog 5 t63 w_22 fun t64 w_23=>
 ev Tryz.prog (Instr.fieldAt 137 t14 1) w_23 fun t65 w_24=>
 stS Tryz.prog 5 t65 t64 w_24 fun w_25=>
 ev Tryz.prog (Instr.fieldAt 137 t14 2) w_25 fun t66 w_26=>
 stS Tryz.prog 5 t66 (.int .u8 ((177:Nat):Int)) w_26 fun w_27=>
 ldR Tryz.prog 69 x4 w_27.drew fun t68=>
 ldR Tryz.prog 137 t14 w_27.drew fun t71=>
 callS Tryz.prog 68 (pA #[t68,t38]) w_27.drew fun t70 w_28=>
 (ldG Tryz.prog 137 t14 w_28 t71)∧
 callS Tryz.prog 99 (pA #[t71]) w_28 fun t72 w_29=>
 rd Tryz.prog (Instr.build 80 #[(0,t70),(1,t72)]) w_29 fun t73=>
 ev Tryz.prog (Instr.buildSlice 76 1 #[(0,t73)]) w_29 fun t74 w_30=>
 bltS Tryz.prog .append #[76,76] 76 #[false,false] (pA #[x10,t74]) w_30 fun t75 w_31=>
 ev Tryz.prog (convert 3 96 t38) w_31 fun t78 w_32=>
 ev Tryz.prog (binM .shl 30 (.const (.int .u64 ((1:Nat):Int))) (.tmp 78) (.int .u64 ((1:Nat):Int)) t78) w_32 fun t79 w_33=>
 ev Tryz.prog (binM .or 30 (.tmp 76) (.tmp 79) x11 t79) w_33 fun t80 w_34=>
 ev Tryz.prog (binM .add 3 (.tmp 34) (.const (.int .i64 1)) x34 (.int .i64 1)) w_34 fun t81 w_35=>
 E1 t75 t80 t81 w_35)) (
 f70_k1 K x3 x4 x10 x11 w_1)
theorem f70_l1_rule (x2 x3 x4 x10 x11 x32 x33 x34:Value) (K:K1) (w:World) (I:VP3) (μ:Value→Value→Value→World→Nat) (h0:I x10 x11 x34 w)
  (hr:∀(x10 x11 x34:Value) (w:World),I x10 x11 x34 w→∀E1:VP3,(∀(y10 y11 y34:Value) (w':World),I y10 y11 y34 w'→μ y10 y11 y34 w'<μ x10 x11 x34 w→E1 y10 y11 y34 w')→f70_l1_t x2 x3 x4 x10 x11 x32 x33 x34 K E1 w):f70_l1 K x2 x3 x4 x10 x11 x32 x33 x34 w:=
 ⟨I,μ,h0,fun σ w hI E hE=>cast (by kernel_rfl) (hr (σ 10) (σ 11) (σ 34) w hI E hE)⟩
def f70_k2_t (x4 x10 x11:Value) (K:K1) (w:World):Prop:=
 ev Tryz.prog (Instr.fieldAt 69 x4 1) w fun t127 w_1=>
 ldS Tryz.prog 3 t127 w_1 fun t128 w_2=>
 callS Tryz.prog 86 (pA #[t128]) w_2 fun t129 w_3=>
 ev Tryz.prog (binM .add 30 (.tmp 129) (.const (.int .u64 ((8:Nat):Int))) t129 (.int .u64 ((8:Nat):Int))) w_3 fun t130 w_4=>
 ev Tryz.prog (Instr.build 80 #[(0,t130),(1,x11)]) w_4 fun t132 w_5=>
 ev Tryz.prog (Instr.buildSlice 76 1 #[(0,t132)]) w_5 fun t133 w_6=>
 bltS Tryz.prog .append #[76,76] 76 #[false,false] (pA #[x10,t133]) w_6 fun t134 w_7=>
 K (.tuple #[t134,(.bool true)]) w_7
theorem f70_k2_eq (K:K1) (x4 x10 x11:Value) (w:World):f70_k2 K x4 x10 x11 w=f70_k2_t x4 x10 x11 K w:=cutE fun σ=>by kernel_rfl
def f70_l2_t (x4 x10 x11 x82 x83 x84:Value) (K:K1) (E1:VP3) (w:World):Prop:=
 ev Tryz.prog (binM .lss 3 (.tmp 84) (.tmp 83) x84 x83) w fun t85 w_1=>
 cndS t85 (
 ev Tryz.prog (Instr.indexAt 50 x82 x84) w_1 fun t86 w_2=>
 ldS Tryz.prog 3 t86 w_2 fun t87 w_3=>
 ldS Tryz.prog 69 x4 w_3 fun t89 w_4=>
 callS Tryz.prog 65 (pA #[t89,t87]) w_4 fun t91 w_5=>
 ev Tryz.prog (Instr.extract t91 0) w_5 fun t92 w_6=>
 ev Tryz.prog (Instr.extract t91 1) w_6 fun t93 w_7=>
 ev Tryz.prog (Instr.extract t91 2) w_7 fun t94 w_8=>
 ev Tryz.prog (Instr.alloc 137 true (.tuple #[])) w_8 fun t19 w_9=>
 stS Tryz.prog 137 t19 t92 w_9 fun w_10=>
 ev Tryz.prog (Op.unary .not t93) w_10 fun t96 w_11=>
 gd t96 false (fun k=>k t94 w_11) w_11 fun t98 w_12=>
 gd t96 false (fun k=>ev Tryz.prog (Op.unary .not t98) w_12 k) w_12 fun t99 w_13=>
 pickS t96 (.bool true) t99 w_13 fun t100 w_14=>
 gd t100 false (fun k=>ev Tryz.prog (Instr.fieldAt 137 t19 2) w_14 k) w_14 fun t102 w_15=>
 gd t100 false (fun k=>ldS Tryz.prog 5 t102 w_15 k) w_15 fun t103 w_16=>
 gd t100 false (fun k=>ev Tryz.prog (binM .neq 5 (.tmp 103) (.const (.int .u8 ((177:Nat):Int))) t103 (.int .u8 ((177:Nat):Int))) w_16 k) w_16 fun t104 w_17=>
 pickS t100 (.bool true) t104 w_17 fun t105 w_18=>
 cndS t105 (
 K (.tuple #[(.slice none 0 0),(.bool false)]) w_18) (
 ldS Tryz.prog 137 t19 w_18 fun t106 w_19=>
 callS Tryz.prog 108 (pA #[t106]) w_19 fun t107 w_20=>
 stS Tryz.prog 137 t19 t107 w_20 fun w_21=>
 ldR Tryz.prog 69 x4 w_21.drew fun t109=>
 ldR Tryz.prog 137 t19 w_21.drew fun t112=>
 callS Tryz.prog 68 (pA #[t109,t87]) w_21.drew fun t111 w_22=>
 (ldG Tryz.prog 137 t19 w_22 t112)∧
 callS Tryz.prog 99 (pA #[t112]) w_22 fun t113 w_23=>
 rd Tryz.prog (Instr.build 80 #[(0,t111),(1,t113)]) w_23 fun t114=>
 ev Tryz.prog (Instr.buildSlice 76 1 #[(0,t114)]) w_23 fun t115 w_24=>
 bltS Tryz.prog .append #[76,76] 76 #[false,false] (pA #[x10,t115]) w_24 fun t116 w_25=>
 ev Tryz.prog (Instr.fieldAt 137 t19 2) w_25 fun t117 w_26=>
 ldS Tryz.prog 5 t117 w_26 fun t118 w_27=>
 ev Tryz.prog (binM .eql 5 (.tmp 118) (.const (.int .u8 ((176:Nat):Int))) t118 (.int .u8 ((176:Nat):Int))) w_27 fun t119 w_28=>
 cndS t119 (
 ev Tryz.prog (convert 3 96 t87) w_28 fun t122 w_29=>
 ev Tryz.prog (binM .shl 30 (.const (.int .u64 ((1:Nat):Int))) (.tmp 122) (.int .u64 ((1:Nat):Int)) t122) w_29 fun t123 w_30=>
 ev Tryz.prog (binM .andNot 30 (.tmp 120) (.tmp 123) x11 t123) w_30 fun t124 w_31=>
 f70_k3 K E1 x4 t116 t124 x82 x83 x84 w_31) (
 f70_k3 K E1 x4 t116 x11 x82 x83 x84 w_28))) (
 f70_k2 K x4 x10 x11 w_1)
theorem f70_l2_rule (x4 x10 x11 x82 x83 x84:Value) (K:K1) (w:World) (I:VP3) (μ:Value→Value→Value→World→Nat) (h0:I x10 x11 x84 w)
  (hr:∀(x10 x11 x84:Value) (w:World),I x10 x11 x84 w→∀E1:VP3,(∀(y10 y11 y84:Value) (w':World),I y10 y11 y84 w'→μ y10 y11 y84 w'<μ x10 x11 x84 w→E1 y10 y11 y84 w')→f70_l2_t x4 x10 x11 x82 x83 x84 K E1 w):f70_l2 K x4 x10 x11 x82 x83 x84 w:=
 ⟨I,μ,h0,fun σ w hI E hE=>cast (by kernel_rfl) (hr (σ 10) (σ 11) (σ 84) w hI E hE)⟩
def f70_k3_t (x4 x10 x11 x82 x83 x84:Value) (K:K1) (E1:VP3) (w:World):Prop:=
 ev Tryz.prog (binM .add 3 (.tmp 84) (.const (.int .i64 1)) x84 (.int .i64 1)) w fun t125 w_1=>
 E1 x10 x11 t125 w_1
theorem f70_k3_eq (K:K1) (E1:VP3) (x4 x10 x11 x82 x83 x84:Value) (w:World):f70_k3 K E1 x4 x10 x11 x82 x83 x84 w=f70_k3_t x4 x10 x11 x82 x83 x84 K E1 w:=cutE fun σ=>by kernel_rfl
def f70_t (x0 x1 x2 x3:Value) (K:K1) (w:World):Prop:=
 ev Tryz.prog (Instr.box 69 x0) w fun t4 w_1=>
 bltS Tryz.prog .len #[50] 3 #[false] #[x1] w_1 fun t23 w_2=>
 ev Tryz.prog (binM .eql 3 (.tmp 23) (.const (.int .i64 0)) t23 (.int .i64 0)) w_2 fun t24 w_3=>
 gd t24 true (fun k=>k x3 w_3) w_3 fun t26 w_4=>
 gd t24 true (fun k=>bltS Tryz.prog .len #[50] 3 #[false] #[t26] w_4 k) w_4 fun t27 w_5=>
 gd t24 true (fun k=>ev Tryz.prog (binM .eql 3 (.tmp 27) (.const (.int .i64 0)) t27 (.int .i64 0)) w_5 k) w_5 fun t28 w_6=>
 pickS t24 t28 (.bool false) w_6 fun t29 w_7=>
 cndS t29 (
 K (.tuple #[(.slice none 0 0),(.bool true)]) w_7) (
 ldS Tryz.prog 69 t4 w_7 fun t30 w_8=>
 callS Tryz.prog 106 (pA #[t30]) w_8 fun t31 w_9=>
 bltS Tryz.prog .len #[50] 3 #[false] #[x1] w_9 fun t33 w_10=>
 f70_l1 K x2 x3 t4 (.slice none 0 0) t31 x1 t33 (.int .i64 0) w_10)
theorem f70_call (x0 x1 x2 x3:Value) (K:K1) (w:World) (h:f70_t x0 x1 x2 x3 K w):callS Tryz.prog 70 #[x0,x1,x2,x3] w K:=
 call_of_txt (args:= [x0,x1,x2,x3]) mixed Tryz.func70 f70_u.2 (by kernel_rfl) (cast (by kernel_rfl) h)
def f106_t (x0:Value) (K:K1) (w:World):Prop:=
 ev Tryz.prog (Instr.box 69 x0) w fun t1 w_1=>
 rd Tryz.prog (Instr.fieldAt 69 t1 0) w_1.drew fun t3=>
 ldR Tryz.prog 66 t3 w_1.drew fun t4=>
 rd Tryz.prog (Instr.fieldAt 69 t1 1) w_1.drew fun t5=>
 ldR Tryz.prog 3 t5 w_1.drew fun t6=>
 nilR Tryz.prog t4 w_1.drew fun t9=>
 callS Tryz.prog 86 (pA #[t6]) w_1.drew fun t7 w_2=>
 (ag Tryz.prog (Instr.fieldAt 69 t1 0) w_2 t3)∧
 (ldG Tryz.prog 66 t3 w_2 t4)∧
 (nilR Tryz.prog t4 w_2 (fun u=>u=t9))∧
 rd Tryz.prog (binM .add 30 (.tmp 7) (.const (.int .u64 ((8:Nat):Int))) t7 (.int .u64 ((8:Nat):Int))) w_2 fun t8=>
 invS Tryz.prog t4 "Load" (pA #[t8]) w_2 fun t11 w_3=>
 K t11 w_3
theorem f106_call (x0:Value) (K:K1) (w:World) (h:f106_t x0 K w):callS Tryz.prog 106 #[x0] w K:=
 call_of_txt (args:= [x0]) mixed Tryz.func106 .o (by kernel_rfl) (cast (by kernel_rfl) h)
noncomputable def f110_u:Code×Dec:=((Tryz.f110.body).getD .skip,(.s .o (.s .o (.s .o (.x 16 (.s .o (.b (.l [4,14] 8194 17592186028540 .o))) .o)))))
abbrev f110_e (K:K1):KF:=endK Tryz.prog Tryz.f110.results.toList K
def f110_k1_o (K:K1):KF:=fun fr w=>∀σ,cP (pr (pr (pr (pr f110_u)))) (f110_e K) (f110_e K) nX (mixF 16 σ 0 fr) w
def f110_k1 (K:K1) (x4:Value) (w:World):Prop:=f110_k1_o K (fz 45 0 [(4,x4)]) w
def f110_l1 (K:K1) (x1 x4 x13 x14:Value) (w:World):Prop:=loopT [4,14] 8194 (fun E=>cP (pl (pl (pr (pl (pr (pr (pr f110_u))))))) E (f110_e K) (exB 0 (f110_k1_o K) nX)) (fz 45 0 [(1,x1),(4,x4),(13,x13),(14,x14)]) w
def f110_k1_t (x4:Value) (K:K1) (w:World):Prop:=
 K (.tuple #[x4,(.bool true)]) w
theorem f110_k1_eq (K:K1) (x4:Value) (w:World):f110_k1 K x4 w=f110_k1_t x4 K w:=cutE fun σ=>by kernel_rfl
def f110_l1_t (x1 x4 x13 x14:Value) (K:K1) (E1:VP2) (w:World):Prop:=
 ev Tryz.prog (binM .lss 3 (.tmp 14) (.tmp 13) x14 x13) w fun t15 w_1=>
 cndS t15 (
 ldS Tryz.prog 69 x1 w_1 fun t18 w_2=>
 callS Tryz.prog 65 (pA #[t18,x14]) w_2 fun t20 w_3=>
 ev Tryz.prog (Instr.extract t20 0) w_3 fun t21 w_4=>
 ev Tryz.prog (Instr.extract t20 1) w_4 fun t22 w_5=>
 ev Tryz.prog (Instr.extract t20 2) w_5 fun t23 w_6=>
 ev Tryz.prog (Instr.alloc 137 true (.tuple #[])) w_6 fun t6 w_7=>
 stS Tryz.prog 137 t6 t21 w_7 fun w_8=>
 ev Tryz.prog (Op.unary .not t22) w_8 fun t25 w_9=>
 gd t25 false (fun k=>k t23 w_9) w_9 fun t27 w_10=>
 pickS t25 (.bool true) t27 w_10 fun t28 w_11=>
 gd t28 false (fun k=>ev Tryz.prog (Instr.fieldAt 137 t6 2) w_11 k) w_11 fun t30 w_12=>
 gd t28 false (fun k=>ldS Tryz.prog 5 t30 w_12 k) w_12 fun t31 w_13=>
 gd t28 false (fun k=>ev Tryz.prog (binM .neq 5 (.tmp 31) (.const (.int .u8 ((176:Nat):Int))) t31 (.int .u8 ((176:Nat):Int))) w_13 k) w_13 fun t32 w_14=>
 pickS t28 (.bool true) t32 w_14 fun t33 w_15=>
 gd t33 false (fun k=>ev Tryz.prog (Instr.fieldAt 137 t6 0) w_15 k) w_15 fun t35 w_16=>
 gd t33 false (fun k=>ldS Tryz.prog 34 t35 w_16 k) w_16 fun t36 w_17=>
 gd t33 false (fun k=>ev Tryz.prog (binM .eql 34 (.tmp 36) (.const (.int .u16 ((0:Nat):Int))) t36 (.int .u16 ((0:Nat):Int))) w_17 k) w_17 fun t37 w_18=>
 pickS t33 (.bool true) t37 w_18 fun t38 w_19=>
 cndS t38 (
 K (.tuple #[(.int .u16 ((0:Nat):Int)),(.bool false)]) w_19) (
 ev Tryz.prog (Instr.fieldAt 137 t6 0) w_19 fun t40 w_20=>
 ldS Tryz.prog 34 t40 w_20 fun t41 w_21=>
 bltS Tryz.prog .max #[34,34] 34 #[false,false] #[x4,t41] w_21 fun t42 w_22=>
 ev Tryz.prog (binM .add 3 (.tmp 14) (.const (.int .i64 1)) x14 (.int .i64 1)) w_22 fun t43 w_23=>
 E1 t42 t43 w_23)) (
 f110_k1 K x4 w_1)
theorem f110_l1_rule (x1 x4 x13 x14:Value) (K:K1) (w:World) (I:VP2) (μ:Value→Value→World→Nat) (h0:I x4 x14 w)
  (hr:∀(x4 x14:Value) (w:World),I x4 x14 w→∀E1:VP2,(∀(y4 y14:Value) (w':World),I y4 y14 w'→μ y4 y14 w'<μ x4 x14 w→E1 y4 y14 w')→f110_l1_t x1 x4 x13 x14 K E1 w):f110_l1 K x1 x4 x13 x14 w:=
 ⟨I,μ,h0,fun σ w hI E hE=>cast (by kernel_rfl) (hr (σ 4) (σ 14) w hI E hE)⟩
def f110_t (x0:Value) (K:K1) (w:World):Prop:=
 ev Tryz.prog (Instr.box 69 x0) w fun t1 w_1=>
 ev Tryz.prog (Instr.fieldAt 69 t1 0) w_1 fun t9 w_2=>
 ldS Tryz.prog 66 t9 w_2 fun t10 w_3=>
 ev Tryz.prog (binM .eql 66 (.tmp 10) (.const .nilIface) t10 .nilIface) w_3 fun t11 w_4=>
 cndS t11 (
 K (.tuple #[(.int .u16 ((0:Nat):Int)),(.bool false)]) w_4) (
 ldS Tryz.prog 69 t1 w_4 fun t12 w_5=>
 callS Tryz.prog 63 (pA #[t12]) w_5 fun t13 w_6=>
 f110_l1 K t1 (.int .u16 ((0:Nat):Int)) t13 (.int .i64 0) w_6)
theorem f110_call (x0:Value) (K:K1) (w:World) (h:f110_t x0 K w):callS Tryz.prog 110 #[x0] w K:=
 call_of_txt (args:= [x0]) mixed Tryz.func110 f110_u.2 (by kernel_rfl) (cast (by kernel_rfl) h)
end Go.Proofs.YtifpinhjpbgnoaaGreatDoor
namespace Go.Proofs.YtifpinhjpbgnoaaGreatDoor
open Go Go.Sh
set_option maxRecDepth 100000
set_option maxHeartbeats 4000000
set_option linter.unusedSimpArgs false
set_option linter.unusedVariables false
section
variable {w w':World}
def clrI (l g:Nat):List Ins:=storesI [(l*64,sealN (hdX (-1) (-1) g))]
theorem storesI_pos (ws:List (Nat×Nat)):0<(storesI ws).length:=by simp [storesI];omega
theorem k_Clear (hG:Glob w) (l g:Nat) (hl:l≤4064) (hg:g≠0) (hg':g<65536) (K:K1) (hK:∀v' w',SlO w' 176 3 v' (clrI l g).length (inL (clrI l g))→Ext w w'→NewV w.heap.size v'→K (.tuple #[v',.int .i64 0]) w'):
  callS Tryz.prog 82 #[.int .i64 (l:Int),.int .u16 (g:Int)] w K:=by
 refine f82_call _ _ _ _ ?_
 unfold f82_t
 have hw:∀(w1:World) (K:K1),Ext w w1→callS Tryz.prog 102 #[.agg #[.int .i64 (-1),.int .i64 (-1),.int .u16 (g:Int)]] w1 K=K (.int .u64 ((sealN (hdX (-1) (-1) g):Nat):Int)) ((w1.alloc (hdO (-1) (-1) g)).alloc (sealO (hdX (-1) (-1) g))):=fun w1 K he=>c_hword (-1) (-1) g w1 K (hG.ext he) hg' (by omega) (by omega) (by omega) (by omega)
 (repeat' (first|(with_reducible refine brS_mk (fun _=> ?_) (fun _=> ?_))|(with_reducible refine And.intro ?_ ?_)|(simp (disch:=first|omega|simp only [RO]|(simp only [RZ]<;>omega)|(with_reducible (repeat (first|assumption|exact Ext.refl _|refine Ext.alloc ?_ _|refine Ext.drew ?_|refine Ext.trans ?_ (by assumption))))|fail) only [↓RBp,↓RA,↓reduceIte,Nat.reduceAdd,Nat.reduceMul,Nat.reduceEqDiff,RB,RX,RA2,c_possible,c_line,hw,Int.toNat_natCast])))
 refine k_Stores [(l*64,sealN (hdX (-1) (-1) g))] _ ?_ (by simp) (by simp) ?_ _ (fun v' w' hs he hn=> ?_)
 ·exact (SlO.lit' _ 80 2 1 (wrL [(l*64,sealN (hdX (-1) (-1) g))]) rfl (by decide) (by simp only [RZ])).ext (Ext.refl _).drew
 ·intro x hx;simp only [List.mem_singleton] at hx;subst hx;simp only;omega
 ·refine hK v' w' hs (Ext.trans (by repeat (first|(with_reducible first|refine eB ?_ (by first|omega|(simp only [RZ]<;>omega)) _|assumption|exact eR _|refine eA ?_ _|refine eD ?_|refine eT ?_ (by assumption))|exact eR _)) he) (fun b hb=>Nat.le_trans ?_ (hn b hb))
  simp only [RZ];omega
def planW (l:Nat) (c:Int) (g:Nat):List (Nat×Nat):=(List.range (perS c).toNat).map (fun (i:Nat)=>(l*64+(offS c (i:Int)).toNat*8,sealN (blkX g 0 176)))++(List.range 7).map (fun k=>(l*64+(k+1)*8,0))
def planI (l:Nat) (c o:Int) (g:Nat):List Ins:=storesI (planW l c g)++storesI [(l*64,sealN (hdX c o g))]
theorem planW_len (l:Nat) (c:Int) (g:Nat):(planW l c g).length=(perS c).toNat+7:=by simp [planW]
theorem k_Plan (hG:Glob w) (l:Nat) (c o:Int) (g:Nat) (hl:l≤4064) (hc0:0≤c) (hc:c<5) (ho0:0≤o) (ho:o<8) (hg:g≠0) (hg':g<65536) (K:K1) (hK:∀v' w',SlO w' 176 3 v' (planI l c o g).length (inL (planI l c o g))→Ext w w'→NewV w.heap.size v'→K (.tuple #[v',.int .i64 0]) w'):
  callS Tryz.prog 61 #[.int .i64 (l:Int),.agg #[.int .i64 c,.int .i64 o,.int .u16 (g:Int)]] w K:=by
 refine f61_call _ _ _ _ ?_
 unfold f61_t
 have hp:=perS_in hc0 hc
 have hwd:=wordsS_in hc0 hc
 have hf:∀(w1:World) (K:K1),Ext w w1→callS Tryz.prog 98 #[.agg #[.int .i64 c,.int .i64 o,.int .u16 (g:Int)]] w1 K=K (.bool true) (w1.alloc (hdO c o g)):=fun w1 K he=>by
  rw [c_formatted c o g w1 K (hG.ext he)]
  have:fmtB c o=true:=by simp [fmtB];omega
  rw [this]
 have hb:∀(w1:World) (K:K1),Ext w w1→callS Tryz.prog 99 #[.agg #[.int .u16 (g:Int),.int .u8 ((0:Nat):Int),.int .u8 ((176:Nat):Int)]] w1 K=K (.int .u64 ((sealN (blkX g 0 176):Nat):Int)) ((w1.alloc (blkO g 0 176)).alloc (sealO (blkX g 0 176))):=fun w1 K he=>c_bword g 0 176 w1 K (hG.ext he) hg' (by omega) (by omega)
 have hpc:∀(w1:World) (K:K1),Ext w w1→callS Tryz.prog 59 #[.int .i64 c] w1 K=K (.int .i64 (perS c)) w1:=fun w1 K he=>c_PerChunk c w1 K (hG.ext he)
 have hw:∀(w1:World) (K:K1),Ext w w1→callS Tryz.prog 102 #[.agg #[.int .i64 c,.int .i64 o,.int .u16 (g:Int)]] w1 K=K (.int .u64 ((sealN (hdX c o g):Nat):Int)) ((w1.alloc (hdO c o g)).alloc (sealO (hdX c o g))):=fun w1 K he=>c_hword c o g w1 K (hG.ext he) hg' (by omega) (by omega) (by omega) (by omega)
 have hof:∀(i:Nat) (w1:World) (K:K1),Ext w w1→i<(perS c).toNat→callS Tryz.prog 100 #[.int .i64 c,.int .i64 (i:Int)] w1 K=K (.tuple #[.int .i64 (((offS c (i:Int)).toNat:Nat):Int),.int .i64 0]) w1:=fun i w1 K he hi=>by
  have hb:=offS_bd hc0 hc (show 0≤(i:Int) by omega) (by omega)
  rw [c_Offset c i w1 K (hG.ext he) hc0 hc (by omega) (by omega),show (((offS c (i:Int)).toNat:Nat):Int)=offS c i by omega]
 (repeat' (first|(with_reducible refine brS_mk (fun _=> ?_) (fun _=> ?_))|(with_reducible refine And.intro ?_ ?_)|(simp (disch:=first|omega|simp only [RO]|(simp only [RZ]<;>omega)|(with_reducible (repeat (first|assumption|exact Ext.refl _|refine Ext.alloc ?_ _|refine Ext.drew ?_|refine Ext.trans ?_ (by assumption))))|fail) only [↓RBp,↓RA,↓reduceIte,Nat.reduceAdd,Nat.reduceMul,Nat.reduceEqDiff,RB,RX,RA2,c_possible,c_line,hf,hb,hpc,Int.toNat_natCast])))
 have e1:Ext w (w.alloc (.cells #[.int .i64 c,.int .i64 o,.int .u16 (g:Int)] 67)):=Ext.alloc_self _ _
 have hcell:∀w',Ext (w.alloc (.cells #[.int .i64 c,.int .i64 o,.int .u16 (g:Int)] 67)) w'→w'.cell? ⟨w.heap.size,0,none⟩=some (.int .i64 c)∧w'.cell? ⟨w.heap.size,1,none⟩=some (.int .i64 o)∧w'.cell? ⟨w.heap.size,2,none⟩=some (.int .u16 (g:Int)):=by
  intro w' he
  have:∀i,w'.cell? ⟨w.heap.size,i,none⟩=_:=fun i=>he.cell _ i (by simp only [RZ];omega)
  refine ⟨?_,?_,?_⟩<;>(rw [this,cell_new _ _ _ _ _ rfl];rfl)
 generalize hw1:w.alloc (.cells #[.int .i64 c,.int .i64 o,.int .u16 (g:Int)] 67)=w1 at*
 have s1:w.heap.size<w1.heap.size:=by rw [←hw1];simp only [RZ];omega
 generalize hA:(List.range (perS c).toNat).map (fun (i:Nat)=>(l*64+(offS c (i:Int)).toNat*8,sealN (blkX g 0 176)))=A
 have hAl:A.length=(perS c).toNat:=by rw [←hA];simp
 generalize hB:(List.range 7).map (fun k=>(l*64+(k+1)*8,0))=B
 have hBl:B.length=7:=by rw [←hB];simp
 have hAB:planW l c g=A++B:=by unfold planW;rw [hA,hB]
 have hper:perS c=(((perS c).toNat:Nat):Int):=by omega
 generalize hn:(perS c).toNat=n at*
 rw [hper]
 apply f61_l1_rule (I:=fun x z w'=>∃i:Nat,z= .int .i64 (i:Int)∧i≤n∧SlO w' 80 2 x i (wrL (A.take i))∧Frm Nob w1 w'∧NewV w1.heap.size x) (μ:=fun _ z _=>n-(Go.RowKit.intOf z).toNat)
 ·exact ⟨0,rfl,by omega,SlO.nil _ _ _,Frm.of_ext (by repeat (first|(with_reducible first|refine eB ?_ (by first|omega|(simp only [RZ]<;>omega)) _|assumption|exact eR _|refine eA ?_ _|refine eD ?_|refine eT ?_ (by assumption))|exact eR _)),fun b hb=>by cases hb⟩
 ·intros;rename_i w2 hI E1 hE
  obtain ⟨i,rfl,hi,sp,f2,n2⟩:=hI
  have e2:Ext w1 w2:=f2.to_ext (fun _ _ h=>h)
  have e02:Ext w w2:=e1.trans e2
  obtain ⟨q0,q1,q2⟩:=hcell w2 e2
  obtain ⟨pa,pc,rfl,hpc2⟩:=sp.isS'
  have lt2:w.heap.size<w2.heap.size:=Nat.lt_of_lt_of_le s1 e2.size
  unfold f61_l1_t
  by_cases hin:i<n
  ·have hb2:=offS_bd hc0 hc (show 0≤(i:Int) by omega) (by omega)
   generalize ho2:(offS c (i:Int)).toNat=oi at*
   have hA2:A[i]? =some (l*64+oi*8,sealN (blkX g 0 176)):=by rw [←hA];simp [hin,ho2]
   have hof2:∀(w1:World) (K:K1),Ext w w1→callS Tryz.prog 100 #[.int .i64 c,.int .i64 (i:Int)] w1 K=K (.tuple #[.int .i64 (oi:Int),.int .i64 0]) w1:=fun w1 K he=>by rw [hof i w1 K he hin,ho2]
   simp (disch:=first|omega|simp only [RO]|(simp only [RZ]<;>omega)|(with_reducible (repeat (first|assumption|exact Ext.refl _|refine Ext.alloc ?_ _|refine Ext.drew ?_|refine Ext.trans ?_ (by assumption))))|fail) only [↓RBp,↓RA,↓reduceIte,Nat.reduceAdd,Nat.reduceMul,Nat.reduceEqDiff,RB,RX,RA2,q0,q1,q2,hof2,c_line,Int.toNat_natCast]
   refine app_new elWrite (w0:=w1) (sp.ext (by repeat (first|(with_reducible first|refine eB ?_ (by first|omega|(simp only [RZ]<;>omega)) _|assumption|exact eR _|refine eA ?_ _|refine eD ?_|refine eT ?_ (by assumption))|exact eR _))) (f2.ext (by repeat (first|(with_reducible first|refine eB ?_ (by first|omega|(simp only [RZ]<;>omega)) _|assumption|exact eR _|refine eA ?_ _|refine eD ?_|refine eT ?_ (by assumption))|exact eR _))) n2 (m:=1) (news:=wrL [(l*64+oi*8,sealN (blkX g 0 176))]) (by simp [wrL]) ?_ rfl (by omega) (by omega) (by omega) (fun v' w3 hsp hf3 n3 _ _=> ?_)
   ·intro j u hj
    rw [Nat.zero_add,cell_new _ _ _ _ _ (by simp only [RZ])]
    simpa [wrL,u64] using hj
   simp (disch:=first|omega|simp only [RO]|(simp only [RZ]<;>omega)|fail) only [↓RBp,↓RA,↓reduceIte,Nat.reduceAdd,Nat.reduceMul,Nat.reduceEqDiff,RB,RX,RA2]
   apply hE
   ·refine ⟨i+1,by simp,by omega,?_,hf3,n3⟩
    rw [take_snoc' hA2,wrL_append];exact hsp
   ·simp [Go.RowKit.intOf];omega
  ·have:i=n:=by omega
   subst this
   have hAt:A.take i=A:=by rw [←hAl,List.take_length]
   rw [hAt] at sp
   simp (disch:=first|omega|simp only [RO]|(simp only [RZ]<;>omega)|fail) only [↓RBp,↓RA,↓reduceIte,Nat.reduceAdd,Nat.reduceMul,Nat.reduceEqDiff,RB,RX,RA2,f61_k1_eq,f61_k1_t]
   apply f61_l2_rule (I:=fun x z w'=>∃k:Nat,z= .int .u64 ((k+1:Nat):Int)∧k≤7∧SlO w' 80 2 x (i+k) (wrL (A++B.take k))∧Frm Nob w1 w'∧NewV w1.heap.size x) (μ:=fun _ z _=>8-(Go.RowKit.intOf z).toNat)
   ·exact ⟨0,rfl,by omega,by simpa using sp,f2,n2⟩
   ·intros;rename_i w3 hI3 E3 hE3
    obtain ⟨k,rfl,hk,sp3,f3,n3⟩:=hI3
    have e3:Ext w1 w3:=f3.to_ext (fun _ _ h=>h)
    have e03:Ext w w3:=e1.trans e3
    obtain ⟨q0,q1,q2⟩:=hcell w3 e3
    obtain ⟨pa3,pc3,rfl,hpc3⟩:=sp3.isS'
    have lt3:w.heap.size<w3.heap.size:=Nat.lt_of_lt_of_le s1 e3.size
    unfold f61_l2_t
    by_cases hk7:k<7
    ·have hB2:B[k]? =some (l*64+(k+1)*8,0):=by rw [←hB];simp [hk7]
     simp (disch:=first|omega|simp only [RO]|(simp only [RZ]<;>omega)|(with_reducible (repeat (first|assumption|exact Ext.refl _|refine Ext.alloc ?_ _|refine Ext.drew ?_|refine Ext.trans ?_ (by assumption))))|fail) only [↓RBp,↓RA,↓reduceIte,Nat.reduceAdd,Nat.reduceMul,Nat.reduceEqDiff,RB,RX,RA2,c_line,Int.toNat_natCast]
     refine app_new elWrite (w0:=w1) (sp3.ext (by repeat (first|(with_reducible first|refine eB ?_ (by first|omega|(simp only [RZ]<;>omega)) _|assumption|exact eR _|refine eA ?_ _|refine eD ?_|refine eT ?_ (by assumption))|exact eR _))) (f3.ext (by repeat (first|(with_reducible first|refine eB ?_ (by first|omega|(simp only [RZ]<;>omega)) _|assumption|exact eR _|refine eA ?_ _|refine eD ?_|refine eT ?_ (by assumption))|exact eR _))) n3 (m:=1) (news:=wrL [(l*64+(k+1)*8,0)]) (by simp [wrL]) ?_ rfl (by omega) (by omega) (by omega) (fun v' w4 hsp hf4 n4 _ _=> ?_)
     ·intro j u hj
      rw [Nat.zero_add,cell_new _ _ _ _ _ (by simp only [RZ])]
      simpa [wrL,u64] using hj
     simp (disch:=first|omega|simp only [RO]|(simp only [RZ]<;>omega)|fail) only [↓RBp,↓RA,↓reduceIte,Nat.reduceAdd,Nat.reduceMul,Nat.reduceEqDiff,RB,RX,RA2]
     apply hE3
     ·refine ⟨k+1,by simp,by omega,?_,hf4,n4⟩
      rw [take_snoc' hB2,←List.append_assoc,wrL_append];exact hsp
     ·simp [Go.RowKit.intOf];omega
    ·have:k=7:=by omega
     subst this
     have hBt:B.take 7=B:=by rw [←hBl,List.take_length]
     rw [hBt,←hAB] at sp3
     have hpl:i+7=(planW l c g).length:=by rw [hAB];simp [hAl,hBl]
     rw [hpl] at sp3
     (repeat' (first|(with_reducible refine brS_mk (fun _=> ?_) (fun _=> ?_))|(with_reducible refine And.intro ?_ ?_)|(simp (disch:=first|omega|simp only [RO]|(simp only [RZ]<;>omega)|(with_reducible (repeat (first|assumption|exact Ext.refl _|refine Ext.alloc ?_ _|refine Ext.drew ?_|refine Ext.trans ?_ (by assumption))))|fail) only [↓RBp,↓RA,↓reduceIte,Nat.reduceAdd,Nat.reduceMul,Nat.reduceEqDiff,RB,RX,RA2,q0,q1,q2,hw,c_line,Int.toNat_natCast,f61_k2_eq,f61_k2_t])))
     refine k_Stores [(l*64,sealN (hdX c o g))] _ ?_ (by simp) (by simp) ?_ _ (fun v4 w4 s4 e4 n4=> ?_)
     ·exact (SlO.lit' _ 80 2 1 (wrL [(l*64,sealN (hdX c o g))]) rfl (by decide) (by simp only [RZ])).ext (Ext.refl _).drew
     ·intro x hx;simp only [List.mem_singleton] at hx;subst hx;simp only;omega
     have e34:Ext w3 w4:=Ext.trans (by repeat (first|(with_reducible first|refine eB ?_ (by first|omega|(simp only [RZ]<;>omega)) _|assumption|exact eR _|refine eA ?_ _|refine eD ?_|refine eT ?_ (by assumption))|exact eR _)) e4
     try simp (disch:=first|omega|simp only [RO]|(simp only [RZ]<;>omega)|fail) only [↓RBp,↓RA,↓reduceIte,Nat.reduceAdd,Nat.reduceMul,Nat.reduceEqDiff,RB,RX,RA2]
     rw [hpl]
     refine k_Stores (planW l c g) _ (sp3.ext e34) (by omega) (by omega) ?_ _ (fun v5 w5 s5 e5 n5=> ?_)
     ·rw [hAB]
      intro x hx
      rcases List.mem_append.1 hx with hx|hx
      ·rw [←hA] at hx
       obtain ⟨j,hj,rfl⟩:=List.mem_map.1 hx
       have hb2:=offS_bd hc0 hc (show 0≤(j:Int) by omega) (by rw [List.mem_range] at hj;omega)
       simp only;omega
      ·rw [←hB] at hx
       obtain ⟨j,hj,rfl⟩:=List.mem_map.1 hx
       rw [List.mem_range] at hj
       simp only;omega
     try simp (disch:=first|omega|simp only [RO]|(simp only [RZ]<;>omega)|fail) only [↓RBp,↓RA,↓reduceIte,Nat.reduceAdd,Nat.reduceMul,Nat.reduceEqDiff,RB,RX,RA2]
     have l1:=storesI_le (planW l c g)
     have l2:=storesI_le [(l*64,sealN (hdX c o g))]
     simp only [List.length_singleton] at l2
     refine k_Then _ _ v5 v4 s5 (s4.ext e5) (storesI_pos _) (storesI_pos _) (by omega) (by omega) _ (fun v6 w6 s6 e6 n6=> ?_)
     have e06:Ext w w6:=((e03.trans e34).trans e5).trans e6
     refine hK v6 w6 s6 e06 (fun b hb=>Nat.le_trans ?_ (n6 b hb))
     exact ((e03.trans e34).trans e5).size
end
end Go.Proofs.YtifpinhjpbgnoaaGreatDoor
namespace Go.Proofs.YtifpinhjpbgnoaaGreatDoor
open Go Go.Sh
set_option maxRecDepth 100000
set_option maxHeartbeats 4000000
set_option linter.unusedSimpArgs false
set_option linter.unusedVariables false
section
variable {w w':World} {Y:Lay} {D D':DS}
theorem allOne_map_u64 (l:List Nat):allOne (l.map u64)=true:=by
 induction l with
 |nil=>rfl
 |cons a l ih=>simp [allOne,isOne,ih]
theorem k_Clone64 (l:List Nat) (b o cap:Nat) (hx:∀j u,(l.map u64)[j]? =some u→w.cell? ⟨b,o+j,none⟩=some u) (hb:b<w.heap.size) (h0:0<l.length) (hl:l.length<1099511627776) (K:K1)
  (hK:∀b' c' w',Ext w w'→Cells w' b' 30 l.length (fun i=>u64 (l.getD i 0))→w.heap.size≤b'→l.length≤c'→K (.slice (some ⟨b',0,none⟩) l.length c') w'):callS Tryz.prog 92 #[.slice (some ⟨b,o,none⟩) l.length cap] w K:=by
 refine f92_call _ _ _ ?_
 unfold f92_t
 simp (disch:=first|omega|simp only [RO]|(simp only [RZ]<;>omega)|fail) only [↓RBp,↓RA,↓reduceIte,Nat.reduceAdd,Nat.reduceMul,Nat.reduceEqDiff,RB,RX,RA2]
 refine blt_append el_39_39 (SlO.lit0 w 30 1) (news:=l.map u64) (by simp) ?_ (allOne_map_u64 l) h0 (by omega) (by omega) (fun v' w' hv hf hn ho=> ?_)
 ·intro j u hj
  rw [cell_old _ _ _ _ hb];exact hx j u hj
 ·have he:Ext w w':=Frm.to_ext (F:=fun b=>b=w.heap.size) (((Frm.of_ext (Ext.alloc_self w _)).trans hf (fun x _ e=>by injection e with e;exact e.symm))) (fun b hb=>by omega)
  have hv2:=hv.2
  rw [Nat.zero_add] at hv2
  rcases hv2 with ⟨_,e⟩|⟨b',o',c',a,rfl,hh,h1,h2,h3,h4⟩
  ·omega
  ·have ho':o'=0:=by rcases ho with h|h<;>simpa [sOff] using h
   subst ho'
   refine hK b' c' w' he ⟨a,hh,by omega,?_⟩ ?_ h1
   ·intro i hi
    have h6:=h4 i (u64 (l.getD i 0)) (by simp [List.getElem?_map,List.getElem?_eq_getElem hi,List.getD_eq_getElem?_getD])
    simpa using h6
   ·rcases hn b' rfl with h|h
    ·have h':w.heap.size=b':=by simpa [Value.ownBlock] using h
     omega
    ·rw [size_alloc] at h;omega
def DS.init (n:Nat) (l:List Nat):DS:={n:=n,cur:=fun i=>l.getD i 0,pers:=fun i=>l.getD i 0,done:=fun _=>0,hist:=fun _=> [],off:=false,armed:=false,left:=0,exe:=0,err:=fun _=>0,notes:=fun _ _=>none}
theorem Good.init (n:Nat) (l:List Nat) (h0:0<n) (hn:n≤4096) (hl:∀x∈l,x<18446744073709551616):Good (DS.init n l):=by
 have hg:∀i,l.getD i 0<18446744073709551616:=by
  intro i
  rw [List.getD_eq_getElem?_getD]
  cases h:l[i]? with
  |none=>simp
  |some x=>exact hl x (List.mem_of_getElem? h)
 exact ⟨h0,hn,fun i _=>hg i,fun i _=>hg i,fun l _ o v h=>by simp [DS.init] at h,fun l _=>Nat.le_refl _,⟨Int.le_refl _,by show (0:Int)<_;omega⟩,fun id _ k p h=>by simp [DS.init] at h⟩
def tagO:Option Obj→Nat
 |some (.cells _ t _)=>t
 |some (.map _ _)=>1000000
 |_=>2000000
def devC (b cb cc lb n:Nat):Array Value:= #[.slice (some ⟨b,0,none⟩) (8*n) (8*n),.slice (some ⟨cb,0,none⟩) (8*n) cc,.slice (some ⟨lb,0,none⟩) n n,.pointer none,.pointer none,.pointer none,.pointer none,.pointer none,.pointer none,.pointer none,.pointer none,.bool false,.bool false,.int .i64 0,.int .u64 ((0:Nat):Int)]
structure Prt (w0 w:World) (d b cb cc lb n:Nat) (tb nb:Nat→Nat) (i:Nat):Prop where
 dev:Cells w d 127 15 (fun j=>if 3≤j∧j<3+i then .pointer (some ⟨tb (j-3),0,none⟩) else (devC b cb cc lb n).getD j undef)
 th:∀j,j<i→Cells w (tb j) 99 4 (fun q=>if q=0 then .pointer (some ⟨d,0,none⟩) else if q=1 then .int .i64 (j:Int) else if q=2 then .int .i64 0 else .map (some (nb j)))
 nt:∀j,j<i→w.heap[nb j]? =some (.map #[] 0)
 lo:∀j,j<i→d<tb j∧d<nb j
 inj:∀j q,j<i→q<i→(tb j=tb q∨nb j=nb q)→j=q
 ext:Frm (fun x=>x=d) w0 w
theorem k_of1 (l:List Nat) (n b cb cc lb d:Nat) (w w1:World) (hd:d=w1.heap.size) (h0:0<n) (hn:n≤4096) (hl:l.length=8*n) (hb:Cells w b 30 (8*n) (fun i=>u64 (l.getD i 0))) (he:Ext w w1) (hcb:Cells w1 cb 30 (8*n) (fun i=>u64 (l.getD i 0))) (h1:w.heap.size≤cb) (hlb:Cells w1 lb 160 (2*n) (fun i=>(#[Value.int .u64 ((0:Nat):Int),.slice none 0 0])[i%2]!)) (h2:w.heap.size≤lb) (K:K1)
  (hK:∀w' Y,Ext w w'→Dv w' Y (DS.init n l)→(∀x,Y.F x→x=b∨w.heap.size≤x)→Y.dt=Y.tb→K (.pointer (some ⟨Y.d,0,none⟩)) w'):f81_k1 K (.pointer (some ⟨d,0,none⟩)) (w1.alloc (.cells (devC b cb cc lb n) 127)):=by
 rw [f81_k1_eq]
 unfold f81_k1_t
 apply f81_l1_rule (I:=fun x w'=>∃(i:Nat) (tb nb:Nat→Nat),x= .int .i64 (i:Int)∧i≤8∧Prt (w1.alloc (.cells (devC b cb cc lb n) 127)) w' d b cb cc lb n tb nb i) (μ:=fun x _=>8-(Go.RowKit.intOf x).toNat)
 ·refine ⟨0,fun _=>0,fun _=>0,rfl,by omega,⟨?_,fun j hj=>by omega,fun j hj=>by omega,fun j hj=>by omega,fun j q hj=>by omega,Frm.refl _ _⟩⟩
  subst hd
  refine (Cells.new w1 (devC b cb cc lb n).toList 127).congr (fun j hj=> ?_)
  rw [if_neg (by omega)];simp [List.getD_eq_getElem?_getD]
 ·intros;rename_i w2 hI E1 hE
  obtain ⟨i,tb,nb,rfl,hi,hp⟩:=hI
  unfold f81_l1_t
  by_cases hi8:i<8
  ·have c1:=hp.dev.cell (i:=3+i) (by omega)
   have z1:=hp.dev.frz
   have lt:=hp.dev.lt
   simp (disch:=first|omega|simp only [RO]|(simp only [RZ]<;>omega)|fail) only [↓RBp,↓RA,↓reduceIte,Nat.reduceAdd,Nat.reduceMul,Nat.reduceEqDiff,RB,RX,RA2,c1,z1]
   have tl:∀j,j<i→tb j<w2.heap.size:=fun j hj=>(hp.th j hj).lt
   have nl:∀j,j<i→nb j<w2.heap.size:=fun j hj=>lt_of_heap (hp.nt j hj)
   apply hE
   ·refine ⟨i+1,fun j=>if j=i then w2.heap.size+1 else tb j,fun j=>if j=i then w2.heap.size else nb j,by simp,by omega,⟨?_,?_,?_,?_,?_,?_⟩⟩
    ·refine (((hp.dev.set _ (i:=3+i) (by omega)).alloc _).alloc _).congr (fun j hj=> ?_)
     by_cases e:j=3+i
     ·subst e
      rw [if_pos rfl,if_pos (by omega),if_pos (by omega)]
     ·rw [if_neg e]
      by_cases e2:3≤j∧j<3+i
      ·rw [if_pos e2,if_pos (by omega),if_neg (by omega)]
      ·rw [if_neg e2,if_neg (by omega)]
    ·intro j hj
     by_cases e:j=i
     ·subst e
      simp only [if_true]
      have hnew:=Cells.new ((w2.setCell ⟨d,3+j,none⟩ (.pointer (some ⟨w2.heap.size+1,0,none⟩))).alloc (.map #[] 0)) [.pointer (some ⟨d,0,none⟩),.int .i64 (j:Int),.int .i64 0,.map (some w2.heap.size)] 99
      rw [size_alloc,size_set] at hnew
      refine hnew.congr (fun q hq=> ?_)
      have hq':q=0∨q=1∨q=2∨q=3:=by simp at hq;omega
      rcases hq' with rfl|rfl|rfl|rfl<;>simp
     ·have hj':j<i:=by omega
      simp only [e,if_false]
      exact (((hp.th j hj').set_ne _ (by show tb j≠d;have:=(hp.lo j hj').1;omega)).alloc _).alloc _
    ·intro j hj
     by_cases e:j=i
     ·subst e
      simp only [if_true]
      rw [heap_alloc_lt _ (by rw [size_alloc,size_set];omega)]
      have:=heap_alloc_eq (w2.setCell ⟨d,3+j,none⟩ (.pointer (some ⟨w2.heap.size+1,0,none⟩))) (.map #[] 0)
      rw [size_set] at this;exact this
     ·have hj':j<i:=by omega
      simp only [e,if_false]
      rw [heap_alloc_lt _ (by rw [size_alloc,size_set];have:=nl j hj';omega),heap_alloc_lt _ (by rw [size_set];exact nl j hj'),heap_set_ne _ (by show nb j≠d;have:=(hp.lo j hj').2;omega)]
      exact hp.nt j hj'
    ·intro j hj
     by_cases e:j=i
     ·simp only [e,if_true];omega
     ·simp only [e,if_false];exact hp.lo j (by omega)
    ·intro j q hj hq hh
     by_cases e:j=i
     ·by_cases e2:q=i
      ·omega
      ·have a1:=tl q (by omega)
       have a2:=nl q (by omega)
       simp only [e,e2,if_true,if_false] at hh;omega
     ·by_cases e2:q=i
      ·have a1:=tl j (by omega)
       have a2:=nl j (by omega)
       simp only [e,e2,if_true,if_false] at hh;omega
      ·simp only [e,e2,if_false] at hh;exact hp.inj j q (by omega) (by omega) hh
    ·exact ((hp.ext.set _ (fun _=>rfl)).alloc _).alloc _
   ·simp [Go.RowKit.intOf];omega
  ·have:i=8:=by omega
   subst this
   simp (disch:=first|omega|simp only [RO]|(simp only [RZ]<;>omega)|fail) only [↓RBp,↓RA,↓reduceIte,Nat.reduceAdd,Nat.reduceMul,Nat.reduceEqDiff,RB,RX,RA2,f81_k2_eq,f81_k2_t]
   have ha:=Frm.of_ext (F:=fun x=>x=d) (Ext.alloc_self w1 (.cells (devC b cb cc lb n) 127))
   have hf:=ha.trans hp.ext (fun _ _ h=>h)
   have hE2:Ext w w2:=Frm.to_ext (F:=fun x=>x=d) ((Frm.of_ext he).trans hf (fun _ _ h=>h)) (fun x hx=>by have:=he.size;omega)
   have c1:=hb.ext hE2
   have c2:=hcb.frm hf (by have:=hcb.lt;omega)
   have c3:=hlb.frm hf (by have:=hlb.lt;omega)
   have lb1:=hb.lt
   have wle:=he.size
   refine hK w2 {n:=n,d:=d,pb:=b,cb:=cb,pc:=8*n,cc:=cc,lb:=lb,tb:=tb,nb:=nb,dt:=tb,ids:=fun i=>i,hv:=fun _=> .slice none 0 0} hE2 ⟨rfl,?_,c1,c2,?_,?_,?_,?_,?_⟩ ?_ rfl
   ·refine hp.dev.congr (fun j hj=> ?_)
    by_cases e:3≤j∧j<11
    ·rw [if_pos (by omega)];unfold devF;rw [if_neg (by omega),if_neg (by omega),if_neg (by omega),if_pos (by omega)]
    ·rw [if_neg (by omega)]
     have hj':j=0∨j=1∨j=2∨j=11∨j=12∨j=13∨j=14:=by omega
     rcases hj' with rfl|rfl|rfl|rfl|rfl|rfl|rfl<;>rfl
   ·refine c3.congr (fun j hj=> ?_)
    have hj':j%2=0∨j%2=1:=by omega
    rcases hj' with e|e<;>simp [linF,DS.init,e]
   ·intro q hq;exact SlO.nil _ _ _
   ·intro j hj
    refine (hp.th j hj).congr (fun q hq=> ?_)
    simp only [thF,DS.init]
   ·intro j hj
    refine ⟨#[],0,?_⟩
    have:ntF (DS.init n l) j=fun _=>none:=by funext q;rfl
    rw [this];exact MapI.empty (hp.nt j hj)
   ·obtain ⟨a1,o1,_⟩:=hp.dev
    obtain ⟨a2,o2,_⟩:=c1
    obtain ⟨a3,o3,_⟩:=c2
    obtain ⟨a4,o4,_⟩:=c3
    have nbc:b≠cb:=by omega
    intro r r' x hr hr'
    have key:∀r,Lay.blk {n:=n,d:=d,pb:=b,cb:=cb,pc:=8*n,cc:=cc,lb:=lb,tb:=tb,nb:=nb,dt:=tb,ids:=fun i=>i,hv:=fun _=> .slice none 0 0} r=some x→
      (r= .dev∧tagO w2.heap[x]? =127)∨(r= .pe∧tagO w2.heap[x]? =30∧x=b)∨(r= .cu∧tagO w2.heap[x]? =30∧x=cb)∨(r= .li∧tagO w2.heap[x]? =160)∨(∃j,j<8∧r= .th j∧tagO w2.heap[x]? =99∧x=tb j)∨(∃j,j<8∧r= .nt j∧tagO w2.heap[x]? =1000000∧x=nb j):=by
     intro r hr
     cases r with
     |dev=>simp [Lay.blk] at hr;subst hr;exact .inl ⟨rfl,by rw [o1];rfl⟩
     |pe=>simp [Lay.blk] at hr;subst hr;exact .inr (.inl ⟨rfl,by rw [o2];rfl,rfl⟩)
     |cu=>simp [Lay.blk] at hr;subst hr;exact .inr (.inr (.inl ⟨rfl,by rw [o3];rfl,rfl⟩))
     |li=>simp [Lay.blk] at hr;subst hr;exact .inr (.inr (.inr (.inl ⟨rfl,by rw [o4];rfl⟩)))
     |th j=>
      simp [Lay.blk] at hr
      obtain ⟨a,o,_⟩:=hp.th j hr.1
      exact .inr (.inr (.inr (.inr (.inl ⟨j,hr.1,rfl,by rw [←hr.2,o];rfl,hr.2.symm⟩))))
     |nt j=>simp [Lay.blk] at hr;exact .inr (.inr (.inr (.inr (.inr ⟨j,hr.1,rfl,by rw [←hr.2,hp.nt j hr.1];rfl,hr.2.symm⟩))))
     |hs q=>simp [Lay.blk,Value.ownBlock] at hr
    rcases key r hr with ⟨rfl,e1⟩|⟨rfl,e1,f1⟩|⟨rfl,e1,f1⟩|⟨rfl,e1⟩|⟨j,hj,rfl,e1,f1⟩|⟨j,hj,rfl,e1,f1⟩<;>
    rcases key r' hr' with ⟨rfl,e2⟩|⟨rfl,e2,f2⟩|⟨rfl,e2,f2⟩|⟨rfl,e2⟩|⟨q,hq,rfl,e2,f2⟩|⟨q,hq,rfl,e2,f2⟩<;>
    first
     |rfl
     |(exfalso;clear hr hr' key hK hl;omega)
     |(rw [hp.inj j q hj hq (.inl (f1.symm.trans f2))])
     |(rw [hp.inj j q hj hq (.inr (f1.symm.trans f2))])
   ·rintro x ⟨r,hr⟩
    cases r with
    |dev=>simp [Lay.blk] at hr;omega
    |pe=>simp [Lay.blk] at hr;omega
    |cu=>simp [Lay.blk] at hr;omega
    |li=>simp [Lay.blk] at hr;omega
    |th j=>simp [Lay.blk] at hr;have:=(hp.lo j hr.1).1;omega
    |nt j=>simp [Lay.blk] at hr;have:=(hp.lo j hr.1).2;omega
    |hs q=>simp [Lay.blk,Value.ownBlock] at hr
theorem k_of (l:List Nat) (n b:Nat) (h0:0<n) (hn:n≤4096) (hl:l.length=8*n) (hc:Cells w b 30 (8*n) (fun i=>u64 (l.getD i 0))) (K:K1)
  (hK:∀w' Y,Ext w w'→Dv w' Y (DS.init n l)→(∀x,Y.F x→x=b∨w.heap.size≤x)→Y.dt=Y.tb→K (.pointer (some ⟨Y.d,0,none⟩)) w'):callS Tryz.prog 81 #[.slice (some ⟨b,0,none⟩) (8*n) (8*n)] w K:=by
 have hx:∀(w:World) (hc:Cells w b 30 (8*n) (fun i=>u64 (l.getD i 0))) j u,(l.map u64)[j]? =some u→w.cell? ⟨b,0+j,none⟩=some u:=by
  intro w hc j u hj
  rw [Nat.zero_add]
  have hj':=(List.getElem?_eq_some_iff.1 hj).1
  rw [List.length_map] at hj'
  rw [hc.cell (by omega),←hj]
  simp [List.getElem?_map,List.getElem?_eq_getElem hj',List.getD_eq_getElem?_getD]
 refine f81_call _ _ _ ?_
 unfold f81_t
 have hd:=hc.drew
 have e8:((8*n:Nat):Int)/8=(n:Int):=by omega
 (repeat' (first|(with_reducible refine brS_mk (fun _=> ?_) (fun _=> ?_))|(with_reducible refine And.intro ?_ ?_)|(simp (disch:=first|omega|simp only [RO]|(simp only [RZ]<;>omega)|fail) only [↓RBp,↓RA,↓reduceIte,Nat.reduceAdd,Nat.reduceMul,Nat.reduceEqDiff,RB,RX,RA2,e8])))
 ·rw [←hl]
  refine k_Clone64 l b 0 _ (hx _ hd) hd.lt (by omega) (by omega) _ (fun b' c' w1 he hcb hb' hc'=> ?_)
  rw [hl] at hcb ⊢
  have hlt:=hcb.lt
  (repeat' (first|(with_reducible refine brS_mk (fun _=> ?_) (fun _=> ?_))|(with_reducible refine And.intro ?_ ?_)|(simp (disch:=first|omega|simp only [RO]|(simp only [RZ]<;>omega)|fail) only [↓RBp,↓RA,↓reduceIte,Nat.reduceAdd,Nat.reduceMul,Nat.reduceEqDiff,RB,RX,RA2,e8])))
  refine k_of1 l n b b' c' w1.heap.size _ w (w1.alloc (.cells (zrow (.agg #[.int .u64 ((0:Nat):Int),.slice none 0 0]) (n*2)) 160)) (by rw [size_alloc]) h0 hn hl hc (((Ext.refl w).drew.trans he).alloc _) (hcb.alloc _) hb' ?_ (by have:=he.size;exact this) K hK
  rw [Nat.mul_comm 2 n];exact zrow_cells w1 _ (n*2) _
 ·have hd2:=(hc.alloc (.cells (zrow (.agg #[.int .u64 ((0:Nat):Int),.slice none 0 0]) (n*2)) 160)).drew
  rw [←hl]
  refine k_Clone64 l b 0 _ (hx _ hd2) hd2.lt (by omega) (by omega) _ (fun b' c' w1 he hcb hb' hc'=> ?_)
  rw [hl] at hcb ⊢
  have hlt:=hcb.lt
  have hlc:=(zrow_cells w (.agg #[.int .u64 ((0:Nat):Int),.slice none 0 0]) (n*2) 160).drew.ext he
  (repeat' (first|(with_reducible refine brS_mk (fun _=> ?_) (fun _=> ?_))|(with_reducible refine And.intro ?_ ?_)|(simp (disch:=first|omega|simp only [RO]|(simp only [RZ]<;>omega)|fail) only [↓RBp,↓RA,↓reduceIte,Nat.reduceAdd,Nat.reduceMul,Nat.reduceEqDiff,RB,RX,RA2,e8])))
  refine k_of1 l n b b' c' w.heap.size _ w w1 rfl h0 hn hl hc ((Ext.alloc_self w _).drew.trans he) hcb (by have h9:=hb';rw [size_drew,size_alloc] at h9;omega) ?_ (Nat.le_refl _) K hK
  rw [Nat.mul_comm 2 n];exact hlc
end
end Go.Proofs.YtifpinhjpbgnoaaGreatDoor
namespace Go.Proofs.YtifpinhjpbgnoaaGreatDoor
open Go Go.Sh
set_option maxRecDepth 100000
set_option maxHeartbeats 4000000
set_option linter.unusedSimpArgs false
set_option linter.unusedVariables false
section
variable {w w':World} {Y:Lay} {D D':DS}
def DS.zero (n:Nat):DS:=DS.init n (List.replicate (8*n) 0)
theorem Good.zero (n:Nat) (h0:0<n) (hn:n≤4096):Good (DS.zero n):=Good.init n _ h0 hn (fun x hx=>by rw [List.eq_of_mem_replicate hx];decide)
theorem zero_cur (n i:Nat):(DS.zero n).cur i=0:=by
 show (List.replicate (8*n) 0).getD i 0=0
 rw [List.getD_eq_getElem?_getD,List.getElem?_replicate]
 split<;>rfl
theorem k_New (n:Nat) (h0:0<n) (hn:n≤4096) (K:K1) (hK:∀w' Y,Ext w w'→Dv w' Y (DS.zero n)→(∀x,Y.F x→w.heap.size≤x)→Y.dt=Y.tb→K (.tuple #[.pointer (some ⟨Y.d,0,none⟩),.int .i64 0]) w'):callS Tryz.prog 38 #[.int .i64 (n:Int)] w K:=by
 refine f38_call _ _ _ ?_
 unfold f38_t
 have e1:((n:Int)*8)=((8*n:Nat):Int):=by omega
 (repeat' (first|(with_reducible refine brS_mk (fun _=> ?_) (fun _=> ?_))|(with_reducible refine And.intro ?_ ?_)|(simp (disch:=first|omega|simp only [RO]|(simp only [RZ]<;>omega)|fail) only [↓RBp,↓RA,↓reduceIte,Nat.reduceAdd,Nat.reduceMul,Nat.reduceEqDiff,RB,RX,RA2,e1])))
 have hc:=zrow_cells w (.int .u64 ((0:Nat):Int)) (8*n) 30
 have e2:(fun i=>(Value.int .u64 ((0:Nat):Int)).cells[i%(Value.int .u64 ((0:Nat):Int)).cells.size]!)=fun i=>u64 ((List.replicate (8*n) 0).getD i 0):=by
  funext i
  have:=zero_cur n i
  show _=u64 ((DS.zero n).cur i)
  rw [this];simp [Value.cells,Nat.mod_one]
 rw [e2] at hc
 refine k_of (List.replicate (8*n) 0) n w.heap.size h0 hn (by simp) hc _ (fun w' Y he hd hF hdt=> ?_)
 refine hK w' Y ((Ext.alloc_self w _).trans he) hd (fun x hx=> ?_) hdt
 rcases hF x hx with h|h
 ·omega
 ·rw [size_alloc] at h;omega
def DS.arm (D:DS) (n:Int):DS:=if D.off=true then D else {D with armed:=decide (0≤n),left:=if n<0 then 0 else n}
end
end Go.Proofs.YtifpinhjpbgnoaaGreatDoor
namespace Go.Proofs.YtifpinhjpbgnoaaGreatDoor
open Go Go.Sh
set_option maxRecDepth 100000
set_option maxHeartbeats 4000000
set_option linter.unusedSimpArgs false
set_option linter.unusedVariables false
abbrev chV (Y:Lay) (l:Nat) (c o:Int) (g:Nat):Value:= .agg #[.iface 25 (.pointer (some ⟨Y.tb 0,0,none⟩)),.int .i64 (l:Int),.int .i64 c,.int .i64 o,.int .u16 (g:Int)]
abbrev chO (Y:Lay) (l:Nat) (c o:Int) (g:Nat):Obj:= .cells #[.iface 25 (.pointer (some ⟨Y.tb 0,0,none⟩)),.int .i64 (l:Int),.int .i64 c,.int .i64 o,.int .u16 (g:Int)] 69
structure Cx (w:World) (Y:Lay) (D:DS) (l:Nat) (c:Int):Prop where
 dv:Dv w Y D
 gd:Good D
 gl:Glob w
 on:D.off=false
 hl:l+32≤D.n
 c0:0≤c
 c5:c<5
section
variable {w w':World} {Y:Lay} {D:DS} {l:Nat} {c o:Int} {g:Nat}
theorem Cx.ext (h:Cx w Y D l c) (e:Ext w w'):Cx w' Y D l c:=⟨h.dv.ext e,h.gd,h.gl.ext e,h.on,h.hl,h.c0,h.c5⟩
theorem Cx.n (h:Cx w Y D l c):D.n≤4096:=h.gd.n
@[irreducible] def wd (D:DS) (l i:Nat):Nat:=D.cur (l*8+i)
def bitB (x i:Nat):Bool:=decide (x/2^i%2=1)
def bG (x:Nat):Nat:=if isS x then gX x else 0
def bK (x:Nat):Nat:=if isS x then kX x else 0
def bS (x:Nat):Nat:=if isS x then sX x else 0
@[irreducible] def offN (c:Int) (i:Nat):Nat:=(offS c (i:Int)).toNat
theorem offN_bd {c:Int} {i:Nat} (h0:0≤c) (h5:c<5) (hi:(i:Int)<perS c):offS c (i:Int)=(offN c i:Int)∧8≤offN c i∧offN c i<256:=by
 have:=offS_bd h0 h5 (show 0≤(i:Int) by omega) hi
 have hw:=wordsS_in h0 h5
 unfold offN
 omega
theorem Cx.wd_lt (h:Cx w Y D l c) (i:Nat) (hi:i<256):wd D l i<18446744073709551616:=by unfold wd;exact h.gd.cur _ (by have:=h.hl;omega)
theorem Cx.load (h:Cx w Y D l c) (i:Nat) (hi:i<256) (K:K1):callS Tryz.prog 46 #[.pointer (some ⟨Y.tb 0,0,none⟩),.int .u64 ((l*64+i*8:Nat):Int)] w K=K (.int .u64 (wd D l i:Int)) w:=by
 have hl:=h.hl
 have:=c_Load h.dv h.gd 0 (by omega) h.on (l*64+i*8) (by omega) (by omega) K
 rw [this,show (l*64+i*8)/8=l*8+i by omega];unfold wd;rfl
theorem Cx.loadE (h:Cx w Y D l c):∀(w1:World) (i:Nat) (K:K1),Ext w w1→i<256→callS Tryz.prog 46 #[.pointer (some ⟨Y.tb 0,0,none⟩),.int .u64 ((l*64+i*8:Nat):Int)] w1 K=K (.int .u64 (wd D l i:Int)) w1:=fun w1 i K he hi=>(h.ext he).load i hi K
theorem c_Class (K:K1):callS Tryz.prog 25 #[chV Y l c o g] w K=K (.int .i64 c) (w.alloc (chO Y l c o g)):=by
 refine callS_det (by kernel_rfl) (f25_call _ _ _ ?_) K
 unfold f25_t
 simp (disch:=first|omega|simp only [RO]|(simp only [RZ]<;>omega)|fail) only [↓RBp,↓RA,↓reduceIte,Nat.reduceAdd,Nat.reduceMul,Nat.reduceEqDiff,RB,RX,RA2]
structure Cg (w:World) (c:Int):Prop where
 gl:Glob w
 c0:0≤c
 c5:c<5
theorem Cg.ext (h:Cg w c) (e:Ext w w'):Cg w' c:=⟨h.gl.ext e,h.c0,h.c5⟩
theorem Cx.cg (h:Cx w Y D l c):Cg w c:=⟨h.gl,h.c0,h.c5⟩
theorem c_blocks (hG:Glob w) (Y:Lay) (l:Nat) (c o:Int) (g:Nat):∀(w1:World) (K:K1),Ext w w1→callS Tryz.prog 63 #[chV Y l c o g] w1 K=K (.int .i64 (perS c)) ((w1.alloc (chO Y l c o g)).alloc (chO Y l c o g)):=by
 intro w1 K he
 refine callS_det (by kernel_rfl) (f63_call _ _ _ ?_) K
 unfold f63_t
 have hG:=hG.ext he
 simp (disch:=first|omega|simp only [RO]|(simp only [RZ]<;>omega)|fail) only [↓RBp,↓RA,↓reduceIte,Nat.reduceAdd,Nat.reduceMul,Nat.reduceEqDiff,RB,RX,RA2,c_Class,fun a b c K=>c_PerChunk c ((w1.alloc a).alloc b) K ((hG.alloc a).alloc b)]
theorem Cx.blocks (h:Cx w Y D l c) (o:Int) (g:Nat):∀(w1:World) (K:K1),Ext w w1→callS Tryz.prog 63 #[chV Y l c o g] w1 K=K (.int .i64 (perS c)) ((w1.alloc (chO Y l c o g)).alloc (chO Y l c o g)):=c_blocks h.gl Y l c o g
theorem k_hasG (hG:Glob w) (Y:Lay) (l:Nat) (c o:Int) (g:Nat) (i:Int) (K:K1) (hK:∀w',Ext w w'→K (.bool (decide (0≤i)&&decide (i<perS c))) w'):callS Tryz.prog 64 #[chV Y l c o g,.int .i64 i] w K:=by
 refine f64_call _ _ _ _ ?_
 unfold f64_t
 have hb:=c_blocks hG Y l c o g
 by_cases h0:0≤i
 ·have e:(decide (0≤i)&&decide (i<perS c))=decide (i<perS c):=by simp [h0]
  rw [e] at hK
  simp (disch:=first|omega|simp only [RO]|(simp only [RZ]<;>omega)|(with_reducible (repeat (first|assumption|exact Ext.refl _|refine Ext.alloc ?_ _|refine Ext.drew ?_|refine Ext.trans ?_ (by assumption))))|fail) only [↓RBp,↓RA,↓reduceIte,Nat.reduceAdd,Nat.reduceMul,Nat.reduceEqDiff,RB,RX,RA2,hb]
  exact hK _ (by repeat (first|(with_reducible first|refine eB ?_ (by first|omega|(simp only [RZ]<;>omega)) _|assumption|exact eR _|refine eA ?_ _|refine eD ?_|refine eT ?_ (by assumption))|exact eR _))
 ·have e:(decide (0≤i)&&decide (i<perS c))=false:=by simp [h0]
  rw [e] at hK
  simp (disch:=first|omega|simp only [RO]|(simp only [RZ]<;>omega)|(with_reducible (repeat (first|assumption|exact Ext.refl _|refine Ext.alloc ?_ _|refine Ext.drew ?_|refine Ext.trans ?_ (by assumption))))|fail) only [↓RBp,↓RA,↓reduceIte,Nat.reduceAdd,Nat.reduceMul,Nat.reduceEqDiff,RB,RX,RA2,hb]
  exact hK _ (by repeat (first|(with_reducible first|refine eB ?_ (by first|omega|(simp only [RZ]<;>omega)) _|assumption|exact eR _|refine eA ?_ _|refine eD ?_|refine eT ?_ (by assumption))|exact eR _))
theorem Cx.at_ (h:Cx w Y D l c) (o:Int) (g:Nat):∀(w1:World) (i:Nat) (K:K1),Ext w w1→(i:Int)<perS c→callS Tryz.prog 68 #[chV Y l c o g,.int .i64 (i:Int)] w1 K=K (.int .u64 ((l*64+offN c i*8:Nat):Int)) (w1.alloc (chO Y l c o g)):=by
 intro w1 i K he hi
 refine callS_det (by kernel_rfl) (f68_call _ _ _ _ ?_) K
 unfold f68_t
 have hG:=h.gl.ext he
 have hb:=offN_bd h.c0 h.c5 hi
 have hl:=h.hl;have hn:=h.n
 have hof:∀(a:Obj) (K:K1),callS Tryz.prog 100 #[.int .i64 c,.int .i64 (i:Int)] (w1.alloc a) K=K (.tuple #[.int .i64 (offN c i:Int),.int .i64 0]) (w1.alloc a):=fun a K=>by
  rw [c_Offset c i (w1.alloc a) K (hG.alloc a) h.c0 h.c5 (by omega) hi,hb.1]
 generalize offN c i=q at*
 simp (disch:=first|omega|simp only [RO]|(simp only [RZ]<;>omega)|fail) only [↓RBp,↓RA,↓reduceIte,Nat.reduceAdd,Nat.reduceMul,Nat.reduceEqDiff,RB,RX,RA2,hof,c_line,Int.toNat_natCast]
theorem Cx.bits (h:Cx w Y D l c) (o:Int) (g:Nat):∀(w1:World) (K:K1),Ext w w1→callS Tryz.prog 106 #[chV Y l c o g] w1 K=K (.int .u64 (wd D l 1:Int)) ((w1.alloc (chO Y l c o g)).drew):=by
 intro w1 K he
 refine callS_det (by kernel_rfl) (f106_call _ _ _ ?_) K
 unfold f106_t
 have h1:=(h.ext he)
 have hl:=h.hl;have hn:=h.n
 have ld:∀(w2:World) (K:K1),Ext w1 w2→callS Tryz.prog 46 #[.pointer (some ⟨Y.tb 0,0,none⟩),.int .u64 ((l*64+8:Nat):Int)] w2 K=K (.int .u64 (wd D l 1:Int)) w2:=fun w2 K he=>h1.loadE w2 1 K he (by omega)
 (repeat' (first|(with_reducible refine brS_mk (fun _=> ?_) (fun _=> ?_))|(with_reducible refine And.intro ?_ ?_)|(simp (disch:=first|omega|simp only [RO]|(simp only [RZ]<;>omega)|(with_reducible (repeat (first|assumption|exact Ext.refl _|refine Ext.alloc ?_ _|refine Ext.drew ?_|refine Ext.trans ?_ (by assumption))))|fail) only [↓RBp,↓RA,↓reduceIte,Nat.reduceAdd,Nat.reduceMul,Nat.reduceEqDiff,RB,RX,RA2,c_line,Int.toNat_natCast,ld])))
theorem k_sealed' (x:Nat) (w:World) (K:K1) (hG:Glob w) (hx:x<18446744073709551616) (h:∀w',Ext w w'→K (.tuple #[.agg #[.int .u16 (bG x:Int),.int .u8 (bK x:Int),.int .u8 (bS x:Int)],.bool (isS x)]) w'):callS Tryz.prog 107 #[.int .u64 x] w K:=by
 refine k_sealed x w K hG hx (fun w' he=> ?_)
 have:=h w' he
 unfold bG bK bS at this
 cases hs:isS x with
 |true=>simp only [hs,if_true] at this ⊢;exact this
 |false=>simp only [hs,if_false] at this ⊢;exact this
theorem cells3 {b t:Nat} {f:Nat→Value} (h:Cells w b t 3 f) (v0 v1 v2:Value):(((w.setCell ⟨b,0,none⟩ v0).setCell ⟨b,1,none⟩ v1).setCell ⟨b,2,none⟩ v2).cell? ⟨b,0,none⟩=some v0∧(((w.setCell ⟨b,0,none⟩ v0).setCell ⟨b,1,none⟩ v1).setCell ⟨b,2,none⟩ v2).cell? ⟨b,1,none⟩=some v1∧(((w.setCell ⟨b,0,none⟩ v0).setCell ⟨b,1,none⟩ v1).setCell ⟨b,2,none⟩ v2).cell? ⟨b,2,none⟩=some v2∧Cells (((w.setCell ⟨b,0,none⟩ v0).setCell ⟨b,1,none⟩ v1).setCell ⟨b,2,none⟩ v2) b t 3 (fun i=>if i=0 then v0 else if i=1 then v1 else v2):=by
 have h3:=((h.set v0 (i:=0) (by omega)).set v1 (i:=1) (by omega)).set v2 (i:=2) (by omega)
 exact ⟨h3.cell (i:=0) (by omega),h3.cell (i:=1) (by omega),h3.cell (i:=2) (by omega),h3.congr (fun i hi=>by
  have:i=0∨i=1∨i=2:=by omega
  rcases this with rfl|rfl|rfl<;>simp)⟩
theorem k_read (h:Cx w Y D l c) (o:Int) (g:Nat) (i:Nat) (hi:(i:Int)<perS c) (K:K1) (hK:∀w',Ext w w'→K (.tuple #[.agg #[.int .u16 (bG (wd D l (offN c i)):Int),.int .u8 (bK (wd D l (offN c i)):Int),.int .u8 (bS (wd D l (offN c i)):Int)],.bool (isS (wd D l (offN c i))),.bool (bitB (wd D l 1) i)]) w'):
  callS Tryz.prog 65 #[chV Y l c o g,.int .i64 (i:Int)] w K:=by
 refine f65_call _ _ _ _ ?_
 unfold f65_t
 have hb:=h.bits o g
 have ha:=h.at_ o g
 have hl:=h.loadE
 have bd:=offN_bd h.c0 h.c5 hi
 have hp:=perS_in h.c0 h.c5
 have hw:=h.wd_lt (offN c i) bd.2.2
 have hw1:=h.wd_lt 1 (by omega)
 generalize hx:wd D l (offN c i)=x at*
 generalize hy:wd D l 1=y at*
 have an:∀z:Nat,z&&&1=z%2:=fun z=>Nat.and_one_is_mod z
 have hdv:y/2^i<18446744073709551616:=Nat.lt_of_le_of_lt (Nat.div_le_self _ _) hw1
 (repeat' (first|(with_reducible refine brS_mk (fun _=> ?_) (fun _=> ?_))|(with_reducible refine And.intro ?_ ?_)|(simp (disch:=first|omega|simp only [RO]|(simp only [RZ]<;>omega)|(with_reducible (repeat (first|assumption|exact Ext.refl _|refine Ext.alloc ?_ _|refine Ext.drew ?_|refine Ext.trans ?_ (by assumption))))|fail) only [↓RBp,↓RA,↓reduceIte,Nat.reduceAdd,Nat.reduceMul,Nat.reduceEqDiff,RB,RX,RA2,hb,ha,hl,hx])))
 refine k_sealed' x _ _ (h.gl.ext (by repeat (first|(with_reducible first|refine eB ?_ (by first|omega|(simp only [RZ]<;>omega)) _|assumption|exact eR _|refine eA ?_ _|refine eD ?_|refine eT ?_ (by assumption))|exact eR _))) hw (fun w1 he1=> ?_)
 have hC:Cells w1 (w.heap.size+1) 137 3 (fun i=> [Value.int .u16 ((0:Nat):Int),.int .u8 ((0:Nat):Int),.int .u8 ((0:Nat):Int)].getD i undef):=by
  have:=(Cells.new (w.alloc (chO Y l c o g)) [Value.int .u16 ((0:Nat):Int),.int .u8 ((0:Nat):Int),.int .u8 ((0:Nat):Int)] 137)
  rw [size_alloc] at this
  exact this.ext (Ext.trans (by repeat (first|(with_reducible first|refine eB ?_ (by first|omega|(simp only [RZ]<;>omega)) _|assumption|exact eR _|refine eA ?_ _|refine eD ?_|refine eT ?_ (by assumption))|exact eR _)) he1)
 have e1:Ext w w1:=Ext.trans (by repeat (first|(with_reducible first|refine eB ?_ (by first|omega|(simp only [RZ]<;>omega)) _|assumption|exact eR _|refine eA ?_ _|refine eD ?_|refine eT ?_ (by assumption))|exact eR _)) he1
 have c0:=hC.cell (i:=0) (by omega)
 have c1:=hC.cell (i:=1) (by omega)
 have c2:=hC.cell (i:=2) (by omega)
 obtain ⟨d0,d1,d2,hD⟩:=cells3 hC (.int .u16 (bG x:Int)) (.int .u8 (bK x:Int)) (.int .u8 (bS x:Int))
 obtain ⟨f0,f1,f2,hF⟩:=cells3 hD (.int .u16 (bG x:Int)) (.int .u8 (bK x:Int)) (.int .u8 (bS x:Int))
 have hbit:decide (y/2^i&&&1=1)=bitB y i:=by unfold bitB;simp only [an]
 simp (disch:=first|omega|simp only [RO]|(simp only [RZ]<;>omega)|fail) only [↓RBp,↓RA,↓reduceIte,Nat.reduceAdd,Nat.reduceMul,Nat.reduceEqDiff,RB,RX,RA2,c0,c1,c2,hC.frz,d0,d1,d2,hD.frz,f0,f1,f2,hbit]
 exact hK _ (by repeat (first|(with_reducible first|refine eB ?_ (by first|omega|(simp only [RZ]<;>omega)) _|assumption|exact eR _|refine eA ?_ _|refine eD ?_|refine eT ?_ (by assumption))|exact eR _))
end
end Go.Proofs.YtifpinhjpbgnoaaGreatDoor
namespace Go.Proofs.YtifpinhjpbgnoaaGreatDoor
open Go Go.Sh
set_option maxRecDepth 100000
set_option maxHeartbeats 1000000
set_option linter.unusedSimpArgs false
set_option linter.unusedVariables false
section
variable {w w':World} {Y:Lay} {D:DS} {l:Nat} {c o:Int} {g:Nat}
theorem chCells {w1:World} (he:Ext (w.alloc (chO Y l c o g)) w1):w1.cell? ⟨w.heap.size,0,none⟩=some (.iface 25 (.pointer (some ⟨Y.tb 0,0,none⟩)))∧w1.cell? ⟨w.heap.size,1,none⟩=some (.int .i64 (l:Int))∧w1.cell? ⟨w.heap.size,2,none⟩=some (.int .i64 c)∧w1.cell? ⟨w.heap.size,3,none⟩=some (.int .i64 o)∧w1.cell? ⟨w.heap.size,4,none⟩=some (.int .u16 (g:Int)):=by
 have:∀i,w1.cell? ⟨w.heap.size,i,none⟩=_:=fun i=>he.cell _ i (by simp only [RZ];omega)
 refine ⟨?_,?_,?_,?_,?_⟩<;>(rw [this,cell_new _ _ _ _ _ rfl];rfl)
@[irreducible] def okF (D:DS) (l:Nat) (c:Int) (i:Nat):Bool:=isS (wd D l (offN c i))&&(!bitB (wd D l 1) i&&(decide (bS (wd D l (offN c i))=176)&& !decide (bG (wd D l (offN c i))=0)))
def mxG (D:DS) (l:Nat) (c:Int):Nat→Nat
 |0=>0
 |n+1=>if mxG D l c n<bG (wd D l (offN c n)) then bG (wd D l (offN c n)) else mxG D l c n
def alF (D:DS) (l:Nat) (c:Int):Nat→Bool
 |0=>true
 |n+1=>alF D l c n&&okF D l c n
theorem alF_no {D:DS} {l:Nat} {c:Int}:∀{n i:Nat},i<n→okF D l c i=false→alF D l c n=false:=by
 intro n
 induction n with
 |zero=>intro i h;omega
 |succ n ih=>
  intro i h he
  simp only [alF]
  by_cases e:i=n
  ·subst e;simp [he]
  ·rw [ih (i:=i) (by omega) he];rfl
theorem k_Next (h:Cx w Y D l c) (o:Int) (g:Nat) (K:K1) (hK:∀w',Ext w w'→K (.tuple #[.int .u16 ((if alF D l c (perS c).toNat=true then mxG D l c (perS c).toNat else 0:Nat):Int),.bool (alF D l c (perS c).toNat)]) w'):callS Tryz.prog 110 #[chV Y l c o g] w K:=by
 have hp:=perS_in h.c0 h.c5
 obtain ⟨n,hn⟩:∃n:Nat,perS c=(n:Int):=⟨(perS c).toNat,by omega⟩
 rw [hn,Int.toNat_natCast] at hK
 have hb:=h.blocks o g
 rw [hn] at hb
 refine f110_call _ _ _ ?_
 unfold f110_t
 simp (disch:=first|omega|simp only [RO]|(simp only [RZ]<;>omega)|(with_reducible (repeat (first|assumption|exact Ext.refl _|refine Ext.alloc ?_ _|refine Ext.drew ?_|refine Ext.trans ?_ (by assumption))))|fail) only [↓RBp,↓RA,↓reduceIte,Nat.reduceAdd,Nat.reduceMul,Nat.reduceEqDiff,RB,RX,RA2,hb]
 apply f110_l1_rule (I:=fun x z w'=>∃i:Nat,z= .int .i64 (i:Int)∧i≤n∧x= .int .u16 ((mxG D l c i:Nat):Int)∧alF D l c i=true∧Ext (w.alloc (chO Y l c o g)) w') (μ:=fun _ z _=>n-(Go.RowKit.intOf z).toNat)
 ·exact ⟨0,rfl,by omega,rfl,rfl,(by repeat (first|(with_reducible first|refine eB ?_ (by first|omega|(simp only [RZ]<;>omega)) _|assumption|exact eR _|refine eA ?_ _|refine eD ?_|refine eT ?_ (by assumption))|exact eR _))⟩
 ·intros;rename_i w1 hI E1 hE
  obtain ⟨i,rfl,hi,rfl,hal,he1⟩:=hI
  obtain ⟨c0,c1,c2,c3,c4⟩:=chCells he1
  have e1:Ext w w1:=Ext.trans (by repeat (first|(with_reducible first|refine eB ?_ (by first|omega|(simp only [RZ]<;>omega)) _|assumption|exact eR _|refine eA ?_ _|refine eD ?_|refine eT ?_ (by assumption))|exact eR _)) he1
  unfold f110_l1_t
  by_cases hin:i<n
  ·simp (disch:=first|omega|simp only [RO]|(simp only [RZ]<;>omega)|fail) only [↓RBp,↓RA,↓reduceIte,Nat.reduceAdd,Nat.reduceMul,Nat.reduceEqDiff,RB,RX,RA2,c0,c1,c2,c3,c4]
   refine k_read (h.ext e1) o g i (by omega) _ (fun w2 he2=> ?_)
   have e2:=he1.trans he2
   have e02:=e1.trans he2
   have bad:okF D l c i=false→∀w',Ext w w'→K (.tuple #[.int .u16 ((0:Nat):Int),.bool false]) w':=by
    intro hf w' he
    have:=hK w' he
    rw [alF_no hin hf] at this
    exact this
   by_cases b1:isS (wd D l (offN c i))=true
   ·by_cases b2:bitB (wd D l 1) i=true
    ·simp (disch:=first|omega|simp only [RO]|(simp only [RZ]<;>omega)|fail) only [↓RBp,↓RA,↓reduceIte,Nat.reduceAdd,Nat.reduceMul,Nat.reduceEqDiff,RB,RX,RA2,b1,b2]
     exact bad (by simp [okF,b2]) _ (by repeat (first|(with_reducible first|refine eB ?_ (by first|omega|(simp only [RZ]<;>omega)) _|assumption|exact eR _|refine eA ?_ _|refine eD ?_|refine eT ?_ (by assumption))|exact eR _))
    ·have b2:bitB (wd D l 1) i=false:=by simpa using b2
     by_cases b3:bS (wd D l (offN c i))=176
     ·by_cases b4:bG (wd D l (offN c i))=0
      ·simp (disch:=first|omega|simp only [RO]|(simp only [RZ]<;>omega)|fail) only [↓RBp,↓RA,↓reduceIte,Nat.reduceAdd,Nat.reduceMul,Nat.reduceEqDiff,RB,RX,RA2,b1,b2,b3,b4]
       exact bad (by simp [okF,b4]) _ (by repeat (first|(with_reducible first|refine eB ?_ (by first|omega|(simp only [RZ]<;>omega)) _|assumption|exact eR _|refine eA ?_ _|refine eD ?_|refine eT ?_ (by assumption))|exact eR _))
      ·simp (disch:=first|omega|simp only [RO]|(simp only [RZ]<;>omega)|fail) only [↓RBp,↓RA,↓reduceIte,Nat.reduceAdd,Nat.reduceMul,Nat.reduceEqDiff,RB,RX,RA2,b1,b2,b3]
       apply hE
       ·refine ⟨i+1,by simp,by omega,?_,?_,(by repeat (first|(with_reducible first|refine eB ?_ (by first|omega|(simp only [RZ]<;>omega)) _|assumption|exact eR _|refine eA ?_ _|refine eD ?_|refine eT ?_ (by assumption))|exact eR _))⟩
        ·simp only [mxG]
         split<;>split<;>first|rfl|omega
        ·simp [alF,hal,okF,b1,b2,b3,b4]
       ·simp [Go.RowKit.intOf];omega
     ·simp (disch:=first|omega|simp only [RO]|(simp only [RZ]<;>omega)|fail) only [↓RBp,↓RA,↓reduceIte,Nat.reduceAdd,Nat.reduceMul,Nat.reduceEqDiff,RB,RX,RA2,b1,b2,b3]
      exact bad (by simp [okF,b3]) _ (by repeat (first|(with_reducible first|refine eB ?_ (by first|omega|(simp only [RZ]<;>omega)) _|assumption|exact eR _|refine eA ?_ _|refine eD ?_|refine eT ?_ (by assumption))|exact eR _))
   ·have b1:isS (wd D l (offN c i))=false:=by simpa using b1
    simp (disch:=first|omega|simp only [RO]|(simp only [RZ]<;>omega)|fail) only [↓RBp,↓RA,↓reduceIte,Nat.reduceAdd,Nat.reduceMul,Nat.reduceEqDiff,RB,RX,RA2,b1]
    exact bad (by simp [okF,b1]) _ (by repeat (first|(with_reducible first|refine eB ?_ (by first|omega|(simp only [RZ]<;>omega)) _|assumption|exact eR _|refine eA ?_ _|refine eD ?_|refine eT ?_ (by assumption))|exact eR _))
  ·have:i=n:=by omega
   subst this
   rw [hal,if_pos rfl] at hK
   simp (disch:=first|omega|simp only [RO]|(simp only [RZ]<;>omega)|fail) only [↓RBp,↓RA,↓reduceIte,Nat.reduceAdd,Nat.reduceMul,Nat.reduceEqDiff,RB,RX,RA2,f110_k1_eq,f110_k1_t]
   exact hK _ e1
end
end Go.Proofs.YtifpinhjpbgnoaaGreatDoor
namespace Go.Proofs.YtifpinhjpbgnoaaGreatDoor
open Go Go.Sh
set_option maxRecDepth 100000
set_option maxHeartbeats 4000000
set_option linter.unusedSimpArgs false
set_option linter.unusedVariables false
def RdS (m:Nat) (w:World) (v:Value) (L:List Value):Prop:=∃a cap,v= .slice a L.length cap∧(L= []∨∃b o,a=some ⟨b,o,none⟩∧b<m∧∀j u,L[j]? =some u→w.cell? ⟨b,o+j,none⟩=some u)
section
variable {w w':World} {m:Nat} {v:Value} {L:List Value}
theorem RdS.ext (h:RdS m w v L) (e:Ext w w'):RdS m w' v L:=by
 obtain ⟨a,cap,hv,h⟩:=h
 refine ⟨a,cap,hv,?_⟩
 rcases h with h|⟨b,o,ha,hb,hc⟩
 ·exact .inl h
 ·exact .inr ⟨b,o,ha,hb,fun j u hj=>e.cell_some (hc j u hj)⟩
theorem RdS.frm {F:Nat→Prop} (h:RdS m w v L) (e:Frm F w w') (hF:∀b,b<m→¬F b):RdS m w' v L:=by
 obtain ⟨a,cap,hv,h⟩:=h
 refine ⟨a,cap,hv,?_⟩
 rcases h with h|⟨b,o,ha,hb,hc⟩
 ·exact .inl h
 ·refine .inr ⟨b,o,ha,hb,fun j u hj=> ?_⟩
  have h1:=hc j u hj
  rw [e.cell b _ (lt_of_cell h1) (hF b hb)];exact h1
theorem RdS.get (h:RdS m w v L) {j:Nat} {u:Value} (hj:L[j]? =some u):∃b o cap,v= .slice (some ⟨b,o,none⟩) L.length cap∧w.cell? ⟨b,o+j,none⟩=some u:=by
 obtain ⟨a,cap,hv,h⟩:=h
 rcases h with h|⟨b,o,ha,hb,hc⟩
 ·rw [h] at hj;simp at hj
 ·subst ha;exact ⟨b,o,cap,hv,hc j u hj⟩
theorem RdS.nil (w:World) (m:Nat):RdS m w (.slice none 0 0) []:=⟨none,0,rfl,.inl rfl⟩
end
abbrev i64L (l:List Int):List Value:=l.map fun i=>Value.int .i64 i
abbrev u8L (l:List Nat):List Value:=l.map fun (n:Nat)=>Value.int .u8 (n:Int)
theorem i64L_get {l:List Int} {j:Nat} (h:j<l.length):(i64L l)[j]? =some (.int .i64 l[j]):=by simp [h]
theorem u8L_get {l:List Nat} {j:Nat} (h:j<l.length):(u8L l)[j]? =some (.int .u8 ((l[j]:Nat):Int)):=by simp [h]
def onc (per:Int):List Int→Nat→Option Nat
 | [],m=>some m
 |i::l,m=>if (0≤i∧i<per)∧bitB m i.toNat=false then onc per l (m|||2^i.toNat) else none
theorem onc_drop {per:Int} {l:List Int} {j m:Nat} (h:j<l.length):onc per (l.drop j) m=if (0≤l[j]∧l[j]<per)∧bitB m l[j].toNat=false then onc per (l.drop (j+1)) (m|||2^l[j].toNat) else none:=by
 rw [List.drop_eq_getElem_cons h];rfl
theorem pow_lt64 {i:Nat} (h:i<64):2^i<18446744073709551616:=by
 have:2^i<2^64:=Nat.pow_lt_pow_right (by decide) h
 simpa using this
theorem or_lt64 {a b:Nat} (ha:a<18446744073709551616) (hb:b<18446744073709551616):a|||b<18446744073709551616:=Nat.or_lt_two_pow (n:=64) ha hb
section
variable {w w':World} {Y:Lay} {D:DS} {l:Nat} {c o:Int} {g:Nat}
theorem k_onceG (h:Cg w c) (Y:Lay) (l:Nat) (o:Int) (g:Nat) (L M:List Int) (v u:Value) {m:Nat} (hL:RdS m w v (i64L L)) (hM:RdS m w u (i64L M)) (lL:L.length<1099511627776) (lM:M.length<1099511627776) (b cap:Nat) (hb0:w.cell? ⟨b,0,none⟩=some v) (hb1:w.cell? ⟨b,1,none⟩=some u) (K:K1)
  (hK:∀w',Ext w w'→K (.bool ((onc (perS c) L 0).bind (onc (perS c) M)).isSome) w'):callS Tryz.prog 69 #[chV Y l c o g,.slice (some ⟨b,0,none⟩) 2 cap] w K:=by
 have hp:=perS_in h.c0 h.c5
 refine f69_call _ _ _ _ ?_
 unfold f69_t
 simp (disch:=first|omega|simp only [RO]|(simp only [RZ]<;>omega)|fail) only [↓RBp,↓RA,↓reduceIte,Nat.reduceAdd,Nat.reduceMul,Nat.reduceEqDiff,RB,RX,RA2]
 have inner:∀(E1:Value→Value→World→Prop) (L:List Int) (v:Value) (q m0:Nat) (w1:World),Ext (w.alloc (chO Y l c o g)) w1→RdS m w v (i64L L)→L.length<1099511627776→m0<18446744073709551616→(onc (perS c) L m0=none→∀w',Ext w w'→K (.bool false) w')→(∀m1 w',onc (perS c) L m0=some m1→m1<18446744073709551616→Ext (w.alloc (chO Y l c o g)) w'→E1 (.int .u64 (m1:Int)) (.int .i64 ((q+1:Nat):Int)) w')→q<1000→
   f69_l2 K E1 (.pointer (some ⟨w.heap.size,0,none⟩)) (.int .u64 (m0:Int)) (.slice (some ⟨b,0,none⟩) 2 cap) (.int .i64 2) (.int .i64 (q:Int)) v (.int .i64 (L.length:Int)) (.int .i64 0) w1:=by
  intro E1 L v q m0 w1 he1 hL lL hm0 hbad hgood hq
  apply f69_l2_rule (I:=fun x z w'=>∃j mm:Nat,z= .int .i64 (j:Int)∧x= .int .u64 (mm:Int)∧mm<18446744073709551616∧j≤L.length∧onc (perS c) (L.drop j) mm=onc (perS c) L m0∧Ext (w.alloc (chO Y l c o g)) w') (μ:=fun _ z _=>L.length-(Go.RowKit.intOf z).toNat)
  ·exact ⟨0,m0,rfl,rfl,hm0,by omega,rfl,he1⟩
  ·intros;rename_i w2 hI E2 hE
   obtain ⟨j,mm,rfl,rfl,hmm,hj,hon,he2⟩:=hI
   obtain ⟨c0,c1,c2,c3,c4⟩:=chCells he2
   have e2:Ext w w2:=Ext.trans (by repeat (first|(with_reducible first|refine eB ?_ (by first|omega|(simp only [RZ]<;>omega)) _|assumption|exact eR _|refine eA ?_ _|refine eD ?_|refine eT ?_ (by assumption))|exact eR _)) he2
   unfold f69_l2_t
   by_cases hjl:j<L.length
   ·obtain ⟨sb,so,sc,rfl,hc⟩:=(hL.ext e2).get (i64L_get hjl)
    rw [onc_drop hjl] at hon
    generalize L[j]=x at hon hc
    simp (disch:=first|omega|simp only [RO]|(simp only [RZ]<;>omega)|fail) only [↓RBp,↓RA,↓reduceIte,Nat.reduceAdd,Nat.reduceMul,Nat.reduceEqDiff,RB,RX,RA2,hc,c0,c1,c2,c3,c4,List.length_map]
    refine k_hasG (h.gl.ext e2) Y l c o g x _ (fun w3 he3=> ?_)
    have e3:Ext w w3:=e2.trans he3
    have he13:=he2.trans he3
    by_cases hx:0≤x∧x<perS c
    ·have eb:(decide (0≤x)&&decide (x<perS c))=true:=by simp [hx]
     rw [eb]
     obtain ⟨i,rfl⟩:∃i:Nat,x=(i:Int):=⟨x.toNat,by omega⟩
     rw [Int.toNat_natCast] at hon
     have hdv:mm/2^i<18446744073709551616:=Nat.lt_of_le_of_lt (Nat.div_le_self _ _) hmm
     have hpw:=pow_lt64 (show i<64 by omega)
     have hs1:1*2^i%18446744073709551616=2^i:=by rw [Nat.one_mul];exact Nat.mod_eq_of_lt hpw
     have hor:=or_lt64 hmm hpw
     by_cases hbt:bitB mm i=true
     ·rw [if_neg (by simp [hbt])] at hon
      have e1:mm/2^i&&&1=1:=by rw [Nat.and_one_is_mod];simpa [bitB] using hbt
      simp (disch:=first|omega|simp only [RO]|(simp only [RZ]<;>omega)|fail) only [↓RBp,↓RA,↓reduceIte,Nat.reduceAdd,Nat.reduceMul,Nat.reduceEqDiff,RB,RX,RA2,e1]
      exact hbad hon.symm _ e3
     ·rw [if_pos ⟨hx,by simpa using hbt⟩] at hon
      have e1:¬(mm/2^i&&&1=1):=by rw [Nat.and_one_is_mod];simpa [bitB] using hbt
      simp (disch:=first|omega|simp only [RO]|(simp only [RZ]<;>omega)|fail) only [↓RBp,↓RA,↓reduceIte,Nat.reduceAdd,Nat.reduceMul,Nat.reduceEqDiff,RB,RX,RA2,e1,hs1]
      apply hE
      ·exact ⟨j+1,_,by simp,rfl,hor,by omega,hon,he13⟩
      ·simp [Go.RowKit.intOf];omega
    ·have eb:(decide (0≤x)&&decide (x<perS c))=false:=by simp;omega
     rw [eb]
     rw [if_neg (fun hh=>hx hh.1)] at hon
     simp (disch:=first|omega|simp only [RO]|(simp only [RZ]<;>omega)|fail) only [↓RBp,↓RA,↓reduceIte,Nat.reduceAdd,Nat.reduceMul,Nat.reduceEqDiff,RB,RX,RA2]
     exact hbad hon.symm _ e3
   ·have:j=L.length:=by omega
    subst this
    rw [List.drop_length] at hon
    simp only [onc] at hon
    simp (disch:=first|omega|simp only [RO]|(simp only [RZ]<;>omega)|fail) only [↓RBp,↓RA,↓reduceIte,Nat.reduceAdd,Nat.reduceMul,Nat.reduceEqDiff,RB,RX,RA2,f69_k2_eq,f69_k2_t]
    have:=hgood mm w2 hon.symm hmm he2
    simpa using this
 apply f69_l1_rule (I:=fun x z w'=>∃i mm:Nat,z= .int .i64 (i:Int)∧x= .int .u64 (mm:Int)∧mm<18446744073709551616∧i≤2∧(i=0→mm=0)∧(i=1→onc (perS c) L 0=some mm)∧(i=2→(onc (perS c) L 0).bind (onc (perS c) M)=some mm)∧Ext (w.alloc (chO Y l c o g)) w') (μ:=fun _ z _=>2-(Go.RowKit.intOf z).toNat)
 ·exact ⟨0,0,rfl,rfl,by omega,by omega,fun _=>rfl,fun h=>by omega,fun h=>by omega,(by repeat (first|(with_reducible first|refine eB ?_ (by first|omega|(simp only [RZ]<;>omega)) _|assumption|exact eR _|refine eA ?_ _|refine eD ?_|refine eT ?_ (by assumption))|exact eR _))⟩
 ·intros;rename_i w1 hI E1 hE
  obtain ⟨i,mm,rfl,rfl,hmm,hi,i0,i1,i2,he1⟩:=hI
  have e1:Ext w w1:=Ext.trans (by repeat (first|(with_reducible first|refine eB ?_ (by first|omega|(simp only [RZ]<;>omega)) _|assumption|exact eR _|refine eA ?_ _|refine eD ?_|refine eT ?_ (by assumption))|exact eR _)) he1
  have d0:=e1.cell_some hb0
  have d1:=e1.cell_some hb1
  unfold f69_l1_t
  have hcs:i=0∨i=1∨i=2:=by omega
  rcases hcs with rfl|rfl|rfl
  ·have:=i0 rfl
   subst this
   obtain ⟨a,sc,rfl,_⟩:=id hL
   have hL':RdS m w (.slice a L.length sc) (i64L L):=by rw [show (i64L L).length=L.length by simp] at hL;exact hL
   simp (disch:=first|omega|simp only [RO]|(simp only [RZ]<;>omega)|fail) only [↓RBp,↓RA,↓reduceIte,Nat.reduceAdd,Nat.reduceMul,Nat.reduceEqDiff,RB,RX,RA2,d0,List.length_map]
   refine inner E1 L _ 0 0 w1 he1 hL' lL (by omega) (fun hn w' he=> ?_) (fun m1 w' hs hm1 he=> ?_) (by omega)
   ·have:=hK w' he;rw [hn] at this;exact this
   ·apply hE
    ·exact ⟨1,m1,rfl,rfl,hm1,by omega,fun h=>by omega,fun _=>hs,fun h=>by omega,he⟩
    ·simp [Go.RowKit.intOf]
  ·have h1:=i1 rfl
   obtain ⟨a,sc,rfl,_⟩:=id hM
   have hM':RdS m w (.slice a M.length sc) (i64L M):=by rw [show (i64L M).length=M.length by simp] at hM;exact hM
   simp (disch:=first|omega|simp only [RO]|(simp only [RZ]<;>omega)|fail) only [↓RBp,↓RA,↓reduceIte,Nat.reduceAdd,Nat.reduceMul,Nat.reduceEqDiff,RB,RX,RA2,d1,List.length_map]
   refine inner E1 M _ 1 mm w1 he1 hM' lM hmm (fun hn w' he=> ?_) (fun m1 w' hs hm1 he=> ?_) (by omega)
   ·have:=hK w' he;rw [h1,Option.bind_some,hn] at this;exact this
   ·apply hE
    ·exact ⟨2,m1,rfl,rfl,hm1,by omega,fun h=>by omega,fun h=>by omega,fun _=>by rw [h1,Option.bind_some];exact hs,he⟩
    ·simp [Go.RowKit.intOf]
  ·have h2:=i2 rfl
   rw [h2] at hK
   simp (disch:=first|omega|simp only [RO]|(simp only [RZ]<;>omega)|fail) only [↓RBp,↓RA,↓reduceIte,Nat.reduceAdd,Nat.reduceMul,Nat.reduceEqDiff,RB,RX,RA2,f69_k1_eq,f69_k1_t]
   exact hK _ e1
theorem k_once (h:Cx w Y D l c) (o:Int) (g:Nat) (L M:List Int) (v u:Value) {m:Nat} (hL:RdS m w v (i64L L)) (hM:RdS m w u (i64L M)) (lL:L.length<1099511627776) (lM:M.length<1099511627776) (b cap:Nat) (hb0:w.cell? ⟨b,0,none⟩=some v) (hb1:w.cell? ⟨b,1,none⟩=some u) (K:K1)
  (hK:∀w',Ext w w'→K (.bool ((onc (perS c) L 0).bind (onc (perS c) M)).isSome) w'):callS Tryz.prog 69 #[chV Y l c o g,.slice (some ⟨b,0,none⟩) 2 cap] w K:=k_onceG h.cg Y l o g L M v u hL hM lL lM b cap hb0 hb1 K hK
end
end Go.Proofs.YtifpinhjpbgnoaaGreatDoor
namespace Go.Proofs.YtifpinhjpbgnoaaGreatDoor
open Go Go.Sh
set_option maxRecDepth 100000
set_option maxHeartbeats 4000000
set_option linter.unusedSimpArgs false
set_option linter.unusedVariables false
@[irreducible] def tkOk (D:DS) (l:Nat) (c:Int) (i:Nat):Bool:=isS (wd D l (offN c i))&&(!bitB (wd D l 1) i&&(decide (bS (wd D l (offN c i))=176)&&goodB (bG (wd D l (offN c i))) (bK (wd D l (offN c i))) (bS (wd D l (offN c i)))))
@[irreducible] def dpOk (D:DS) (l:Nat) (c:Int) (i:Nat):Bool:=isS (wd D l (offN c i))&&(bitB (wd D l 1) i&&decide (bS (wd D l (offN c i))=177))
def tkW (D:DS) (l:Nat) (c:Int) (i k:Nat):Nat×Nat:=(l*64+offN c i*8,sealN (blkX (bG (wd D l (offN c i))) k 177))
def dpW (D:DS) (l:Nat) (c:Int) (i:Nat):Nat×Nat:=(l*64+offN c i*8,sealN (blkX (freG (bG (wd D l (offN c i)))) 0 (freS (bG (wd D l (offN c i))))))
def dpB (D:DS) (l:Nat) (c:Int) (i b:Nat):Nat:=if freS (bG (wd D l (offN c i)))=176 then b&&&(18446744073709551615^^^2^i) else b
def chT (D:DS) (l:Nat) (c:Int):List Int→List Nat→List (Nat×Nat)→Nat→Option (List (Nat×Nat)×Nat)
 |i::r,k::ks,acc,b=>if tkOk D l c i.toNat=true then chT D l c r ks (acc++ [tkW D l c i.toNat k]) (b|||2^i.toNat) else none
 |_,_,acc,b=>some (acc,b)
def chDr (D:DS) (l:Nat) (c:Int):List Int→List (Nat×Nat)→Nat→Option (List (Nat×Nat)×Nat)
 |i::r,acc,b=>if dpOk D l c i.toNat=true then chDr D l c r (acc++ [dpW D l c i.toNat]) (dpB D l c i.toNat b) else none
 | [],acc,b=>some (acc,b)
def actN (D:DS) (l:Nat) (c:Int) (take:List Int) (kinds:List Nat) (drop:List Int):Option (List (Nat×Nat)):=
 if take.length=0∧drop.length=0 then some [] else
 match chT D l c take kinds [] (wd D l 1) with
 |none=>none
 |some (ws,b)=>match chDr D l c drop ws b with
  |none=>none
  |some (ws,b)=>some (ws++ [(l*64+8,b)])
theorem chT_drop {D:DS} {l:Nat} {c:Int} {L:List Int} {ks:List Nat} {j b:Nat} {acc:List (Nat×Nat)} (h:j<L.length) (h2:ks.length=L.length):chT D l c (L.drop j) (ks.drop j) acc b=if tkOk D l c L[j].toNat=true then chT D l c (L.drop (j+1)) (ks.drop (j+1)) (acc++ [tkW D l c L[j].toNat (ks[j]'(by omega))]) (b|||2^L[j].toNat) else none:=by
 rw [List.drop_eq_getElem_cons h,List.drop_eq_getElem_cons (show j<ks.length by omega)];rfl
theorem chDr_drop {D:DS} {l:Nat} {c:Int} {L:List Int} {j b:Nat} {acc:List (Nat×Nat)} (h:j<L.length):chDr D l c (L.drop j) acc b=if dpOk D l c L[j].toNat=true then chDr D l c (L.drop (j+1)) (acc++ [dpW D l c L[j].toNat]) (dpB D l c L[j].toNat b) else none:=by
 rw [List.drop_eq_getElem_cons h];rfl
theorem bG_lt (x:Nat):bG x<65536:=by unfold bG gX;split<;>omega
theorem bK_lt (x:Nat):bK x<256:=by unfold bK kX;split<;>omega
theorem freG_lt {g:Nat} (h:g<65536):freG g<65536:=by unfold freG;split<;>omega
theorem freS_lt (g:Nat):freS g<256:=by unfold freS;split<;>omega
section
variable {w w':World} {Y:Lay} {D:DS} {l:Nat} {c o:Int} {g:Nat}
theorem k_changes (h:Cx w Y D l c) (o:Int) (g:Nat) (L M:List Int) (ks:List Nat) (v kv u:Value) {m:Nat} (hL:RdS m w v (i64L L)) (hk:RdS m w kv (u8L ks)) (hM:RdS m w u (i64L M)) (lL:L.length<1073741824) (lM:M.length<1073741824) (lk:ks.length=L.length) (hks:∀k∈ks,k<256) (vL:∀i∈L,0≤i∧i<perS c) (vM:∀i∈M,0≤i∧i<perS c) (K:K1)
  (hno:actN D l c L ks M=none→∀w',Ext w w'→K (.tuple #[.slice none 0 0,.bool false]) w')
  (hyes:∀ws,actN D l c L ks M=some ws→∀v' w',Ext w w'→NewV w.heap.size v'→SlO w' 80 2 v' ws.length (wrL ws)→K (.tuple #[v',.bool true]) w'):callS Tryz.prog 70 #[chV Y l c o g,v,kv,u] w K:=by
 have hp:=perS_in h.c0 h.c5
 have hbt:=h.bits o g
 have hy:=h.wd_lt 1 (by omega)
 have hat:=h.at_ o g
 have hbw:∀(w1:World) (a b d:Nat) (K:K1),Ext w w1→a<65536→b<256→d<256→callS Tryz.prog 99 #[.agg #[.int .u16 (a:Int),.int .u8 (b:Int),.int .u8 (d:Int)]] w1 K=K (.int .u64 ((sealN (blkX a b d):Nat):Int)) ((w1.alloc (blkO a b d)).alloc (sealO (blkX a b d))):=fun w1 a b d K he ha hb hd=>c_bword a b d w1 K (h.gl.ext he) ha hb hd
 have l1:(i64L L).length=L.length:=by simp
 have l2:(i64L M).length=M.length:=by simp
 have l3:(u8L ks).length=L.length:=by simp [lk]
 obtain ⟨la,lc,rfl,_⟩:=id hL
 obtain ⟨ma,mc,rfl,_⟩:=id hM
 rw [l1] at hL ⊢
 rw [l2] at hM ⊢
 refine f70_call _ _ _ _ _ _ ?_
 unfold f70_t
 have e0:Ext w (w.alloc (chO Y l c o g)):=Ext.alloc_self _ _
 have s0:w.heap.size≤(w.alloc (chO Y l c o g)).heap.size:=by simp only [RZ];omega
 have main:L.length+M.length≠0→∀w1,Ext (w.alloc (chO Y l c o g)) w1→f70_l1 K kv (.slice ma M.length mc) (.pointer (some ⟨w.heap.size,0,none⟩)) (.slice none 0 0) (.int .u64 (wd D l 1:Int)) (.slice la L.length lc) (.int .i64 (L.length:Int)) (.int .i64 0) w1:=by
  intro hne w1 he1
  have hact:actN D l c L ks M=match chT D l c L ks [] (wd D l 1) with
   |none=>none
   |some (ws,b)=>match chDr D l c M ws b with
    |none=>none
    |some (ws,b)=>some (ws++ [(l*64+8,b)]):=by unfold actN;rw [if_neg (by omega)]
  apply f70_l1_rule (I:=fun x y z w'=>∃(j b:Nat) (acc:List (Nat×Nat)),z= .int .i64 (j:Int)∧y= .int .u64 (b:Int)∧b<18446744073709551616∧j≤L.length∧acc.length=j∧SlO w' 80 2 x acc.length (wrL acc)∧Frm Nob (w.alloc (chO Y l c o g)) w'∧NewV (w.alloc (chO Y l c o g)).heap.size x∧chT D l c (L.drop j) (ks.drop j) acc b=chT D l c L ks [] (wd D l 1)) (μ:=fun _ _ z _=>L.length-(Go.RowKit.intOf z).toNat)
  ·exact ⟨0,wd D l 1,[],rfl,rfl,hy,by omega,rfl,SlO.nil _ _ _,Frm.of_ext he1,(fun b hb=>by cases hb),rfl⟩
  ·intros;rename_i w2 hI E1 hE
   obtain ⟨j,b,acc,rfl,rfl,hb,hj,ha,sp,f2,n2,hch⟩:=hI
   have he2:Ext (w.alloc (chO Y l c o g)) w2:=f2.to_ext (fun _ _ h=>h)
   have e2:Ext w w2:=e0.trans he2
   obtain ⟨c0,c1,c2,c3,c4⟩:=chCells he2
   obtain ⟨pa,pc,rfl,hpc⟩:=sp.isS'
   by_cases hjl:j<L.length
   ·obtain ⟨sb,so,sc,ev1,hc⟩:=(hL.ext e2).get (i64L_get hjl)
    injection ev1 with ev1 _ ev2;subst ev1;subst ev2
    have hv:=vL L[j] (List.getElem_mem hjl)
    have hkm:=hks (ks[j]'(by omega)) (List.getElem_mem _)
    have hku:=(hk.ext e2).get (u8L_get (l:=ks) (j:=j) (by omega))
    rw [chT_drop hjl lk] at hch
    generalize L[j]=x at hch hc hv
    generalize ks[j]'(by omega)=kj at hch hkm hku
    obtain ⟨i,rfl⟩:∃i:Nat,x=(i:Int):=⟨x.toNat,by omega⟩
    rw [Int.toNat_natCast] at hch
    obtain ⟨kb,ko,kc,rfl,hkc⟩:=hku
    rw [l3]
    unfold f70_l1_t
    simp (disch:=first|omega|simp only [RO]|(simp only [RZ]<;>omega)|fail) only [↓RBp,↓RA,↓reduceIte,Nat.reduceAdd,Nat.reduceMul,Nat.reduceEqDiff,RB,RX,RA2,hc,c0,c1,c2,c3,c4]
    refine k_read (h.ext e2) o g i hv.2 _ (fun w3 he3=> ?_)
    have e3:Ext w w3:=e2.trans he3
    have he13:=he2.trans he3
    have dd:=chCells he13
    have d0:=dd.1
    have d1:=dd.2.1
    have d2:=dd.2.2.1
    have d3:=dd.2.2.2.1
    have d4:=dd.2.2.2.2
    have hkc3:=he3.cell_some hkc
    have ltk:=lt_of_cell hkc3
    have lt3:w.heap.size<w3.heap.size:=lt_of_cell d0
    have b1:=bG_lt (wd D l (offN c i))
    have b2:=bK_lt (wd D l (offN c i))
    have bad:tkOk D l c i=false→∀w',Ext w w'→K (.tuple #[.slice none 0 0,.bool false]) w':=by
     intro hf
     rw [if_neg (by simp [hf])] at hch
     exact hno (by rw [hact,←hch])
    by_cases t1:isS (wd D l (offN c i))=true
    ·by_cases t2:bitB (wd D l 1) i=true
     ·simp (disch:=first|omega|simp only [RO]|(simp only [RZ]<;>omega)|fail) only [↓RBp,↓RA,↓reduceIte,Nat.reduceAdd,Nat.reduceMul,Nat.reduceEqDiff,RB,RX,RA2,t1,t2]
      exact bad (by simp [tkOk,t2]) _ (by repeat (first|(with_reducible first|refine eB ?_ (by first|omega|(simp only [RZ]<;>omega)) _|assumption|exact eR _|refine eA ?_ _|refine eD ?_|refine eT ?_ (by assumption))|exact eR _))
     ·have t2:bitB (wd D l 1) i=false:=by simpa using t2
      by_cases t3:bS (wd D l (offN c i))=176
      ·by_cases t4:goodB (bG (wd D l (offN c i))) (bK (wd D l (offN c i))) 176=true
       ·have hok:tkOk D l c i=true:=by simp [tkOk,t1,t2,t3,t4]
        rw [if_pos hok] at hch
        have hpw:=pow_lt64 (show i<64 by omega)
        have hs1:1*2^i%18446744073709551616=2^i:=by rw [Nat.one_mul];exact Nat.mod_eq_of_lt hpw
        have hor:=or_lt64 hb hpw
        (repeat' (first|(with_reducible refine brS_mk (fun _=> ?_) (fun _=> ?_))|(with_reducible refine And.intro ?_ ?_)|(simp (disch:=first|omega|simp only [RO]|(simp only [RZ]<;>omega)|(with_reducible (repeat (first|assumption|exact Ext.refl _|refine Ext.alloc ?_ _|refine Ext.drew ?_|refine Ext.trans ?_ (by assumption))))|fail) only [↓RBp,↓RA,↓reduceIte,Nat.reduceAdd,Nat.reduceMul,Nat.reduceEqDiff,RB,RX,RA2,t1,t2,t3,c_good,t4,hkc3,d0,d1,d2,d3,d4,hat,hbw])))
        refine app_new elWrite (w0:=w.alloc (chO Y l c o g)) ((sp.ext he3).ext (by repeat (first|(with_reducible first|refine eB ?_ (by first|omega|(simp only [RZ]<;>omega)) _|assumption|exact eR _|refine eA ?_ _|refine eD ?_|refine eT ?_ (by assumption))|exact eR _))) ((f2.ext he3).ext (by repeat (first|(with_reducible first|refine eB ?_ (by first|omega|(simp only [RZ]<;>omega)) _|assumption|exact eR _|refine eA ?_ _|refine eD ?_|refine eT ?_ (by assumption))|exact eR _))) n2 (m:=1) (news:=wrL [tkW D l c i kj]) (by simp [wrL,tkW]) ?_ rfl (by omega) (by omega) (by omega) (fun v' w4 hsp hf4 n4 _ _=> ?_)
        ·intro q u hq
         rw [Nat.zero_add,cell_drew,cell_new _ _ _ _ _ (by simp only [RZ])]
         simpa [wrL,tkW,u64] using hq
        simp (disch:=first|omega|simp only [RO]|(simp only [RZ]<;>omega)|fail) only [↓RBp,↓RA,↓reduceIte,Nat.reduceAdd,Nat.reduceMul,Nat.reduceEqDiff,RB,RX,RA2,hs1]
        apply hE
        ·refine ⟨j+1,_,acc++ [tkW D l c i kj],by simp,rfl,hor,by omega,by simp [ha],?_,hf4,n4,hch⟩
         rw [wrL_append,List.length_append];exact hsp
        ·simp [Go.RowKit.intOf];omega
       ·have t4:goodB (bG (wd D l (offN c i))) (bK (wd D l (offN c i))) 176=false:=by simpa using t4
        simp (disch:=first|omega|simp only [RO]|(simp only [RZ]<;>omega)|fail) only [↓RBp,↓RA,↓reduceIte,Nat.reduceAdd,Nat.reduceMul,Nat.reduceEqDiff,RB,RX,RA2,t1,t2,t3,c_good,t4]
        exact bad (by simp [tkOk,t3,t4]) _ (by repeat (first|(with_reducible first|refine eB ?_ (by first|omega|(simp only [RZ]<;>omega)) _|assumption|exact eR _|refine eA ?_ _|refine eD ?_|refine eT ?_ (by assumption))|exact eR _))
      ·simp (disch:=first|omega|simp only [RO]|(simp only [RZ]<;>omega)|fail) only [↓RBp,↓RA,↓reduceIte,Nat.reduceAdd,Nat.reduceMul,Nat.reduceEqDiff,RB,RX,RA2,t1,t2,t3]
       exact bad (by simp [tkOk,t3]) _ (by repeat (first|(with_reducible first|refine eB ?_ (by first|omega|(simp only [RZ]<;>omega)) _|assumption|exact eR _|refine eA ?_ _|refine eD ?_|refine eT ?_ (by assumption))|exact eR _))
    ·have t1:isS (wd D l (offN c i))=false:=by simpa using t1
     simp (disch:=first|omega|simp only [RO]|(simp only [RZ]<;>omega)|fail) only [↓RBp,↓RA,↓reduceIte,Nat.reduceAdd,Nat.reduceMul,Nat.reduceEqDiff,RB,RX,RA2,t1]
     exact bad (by simp [tkOk,t1]) _ (by repeat (first|(with_reducible first|refine eB ?_ (by first|omega|(simp only [RZ]<;>omega)) _|assumption|exact eR _|refine eA ?_ _|refine eD ?_|refine eT ?_ (by assumption))|exact eR _))
   ·have hjL:j=L.length:=by omega
    subst hjL
    have hd1:L.drop L.length= []:=List.drop_length
    rw [hd1] at hch
    have hch2:chT D l c L ks [] (wd D l 1)=some (acc,b):=by rw [←hch];simp [chT]
    rw [hch2] at hact
    simp only at hact
    unfold f70_l1_t
    simp (disch:=first|omega|simp only [RO]|(simp only [RZ]<;>omega)|fail) only [↓RBp,↓RA,↓reduceIte,Nat.reduceAdd,Nat.reduceMul,Nat.reduceEqDiff,RB,RX,RA2,f70_k1_eq,f70_k1_t]
    apply f70_l2_rule (I:=fun x y z w'=>∃(j b':Nat) (acc':List (Nat×Nat)),z= .int .i64 (j:Int)∧y= .int .u64 (b':Int)∧b'<18446744073709551616∧j≤M.length∧acc'.length=L.length+j∧SlO w' 80 2 x acc'.length (wrL acc')∧Frm Nob (w.alloc (chO Y l c o g)) w'∧NewV (w.alloc (chO Y l c o g)).heap.size x∧chDr D l c (M.drop j) acc' b'=chDr D l c M acc b) (μ:=fun _ _ z _=>M.length-(Go.RowKit.intOf z).toNat)
    ·exact ⟨0,b,acc,rfl,rfl,hb,by omega,ha,sp,f2,n2,rfl⟩
    ·intros;rename_i w3 hI3 E3 hE3
     obtain ⟨j,b',acc',rfl,rfl,hb',hj',ha',sp3,f3,n3,hch3⟩:=hI3
     have he3:Ext (w.alloc (chO Y l c o g)) w3:=f3.to_ext (fun _ _ h=>h)
     have e3:Ext w w3:=e0.trans he3
     obtain ⟨c0,c1,c2,c3,c4⟩:=chCells he3
     obtain ⟨pa3,pc3,rfl,hpc3⟩:=sp3.isS'
     by_cases hjM:j<M.length
     ·obtain ⟨sb,so,sc,ev1,hc⟩:=(hM.ext e3).get (i64L_get hjM)
      injection ev1 with ev1 _ ev2;subst ev1;subst ev2
      have hv:=vM M[j] (List.getElem_mem hjM)
      rw [chDr_drop hjM] at hch3
      generalize M[j]=x at hch3 hc hv
      obtain ⟨i,rfl⟩:∃i:Nat,x=(i:Int):=⟨x.toNat,by omega⟩
      rw [Int.toNat_natCast] at hch3
      unfold f70_l2_t
      simp (disch:=first|omega|simp only [RO]|(simp only [RZ]<;>omega)|fail) only [↓RBp,↓RA,↓reduceIte,Nat.reduceAdd,Nat.reduceMul,Nat.reduceEqDiff,RB,RX,RA2,hc,c0,c1,c2,c3,c4]
      refine k_read (h.ext e3) o g i hv.2 _ (fun w4 he4=> ?_)
      have e4:Ext w w4:=e3.trans he4
      have he14:=he3.trans he4
      have dd:=chCells he14
      have d0:=dd.1
      have d1:=dd.2.1
      have d2:=dd.2.2.1
      have d3:=dd.2.2.2.1
      have d4:=dd.2.2.2.2
      have lt4:w.heap.size<w4.heap.size:=lt_of_cell d0
      have b1:=bG_lt (wd D l (offN c i))
      have b2:=freG_lt b1
      have b3:=freS_lt (bG (wd D l (offN c i)))
      have bad:dpOk D l c i=false→∀w',Ext w w'→K (.tuple #[.slice none 0 0,.bool false]) w':=by
       intro hf
       rw [if_neg (by simp [hf])] at hch3
       exact hno (by rw [hact,←hch3])
      by_cases t1:isS (wd D l (offN c i))=true
      ·by_cases t2:bitB (wd D l 1) i=true
       ·by_cases t3:bS (wd D l (offN c i))=177
        ·have hok:dpOk D l c i=true:=by simp [dpOk,t1,t2,t3]
         rw [if_pos hok] at hch3
         have hpw:=pow_lt64 (show i<64 by omega)
         have hs1:1*2^i%18446744073709551616=2^i:=by rw [Nat.one_mul];exact Nat.mod_eq_of_lt hpw
         have han:b'&&&(18446744073709551615^^^2^i)<18446744073709551616:=Nat.lt_of_le_of_lt Nat.and_le_left hb'
         have rAN:∀(w:World) (k:K1),ev Tryz.prog (binM .andNot 30 (.tmp 120) (.tmp 123) (.int .u64 (b':Int)) (.int .u64 ((2^i:Nat):Int))) w k=k (.int .u64 ((b'&&&(18446744073709551615^^^2^i):Nat):Int)) w:=fun w k=>ev_of_run (run_andNot _ _ _ b' (2^i) w hb' hpw) k
         (repeat' (first|(with_reducible refine brS_mk (fun _=> ?_) (fun _=> ?_))|(with_reducible refine And.intro ?_ ?_)|(simp (disch:=first|omega|simp only [RO]|(simp only [RZ]<;>omega)|(with_reducible (repeat (first|assumption|exact Ext.refl _|refine Ext.alloc ?_ _|refine Ext.drew ?_|refine Ext.trans ?_ (by assumption))))|fail) only [↓RBp,↓RA,↓reduceIte,Nat.reduceAdd,Nat.reduceMul,Nat.reduceEqDiff,RB,RX,RA2,t1,t2,t3,c_freed,d0,d1,d2,d3,d4,hat,hbw])))
         refine app_new elWrite (w0:=w.alloc (chO Y l c o g)) ((sp3.ext he4).ext (by repeat (first|(with_reducible first|refine eB ?_ (by first|omega|(simp only [RZ]<;>omega)) _|assumption|exact eR _|refine eA ?_ _|refine eD ?_|refine eT ?_ (by assumption))|exact eR _))) ((f3.ext he4).ext (by repeat (first|(with_reducible first|refine eB ?_ (by first|omega|(simp only [RZ]<;>omega)) _|assumption|exact eR _|refine eA ?_ _|refine eD ?_|refine eT ?_ (by assumption))|exact eR _))) n3 (m:=1) (news:=wrL [dpW D l c i]) (by simp [wrL,dpW]) ?_ rfl (by omega) (by omega) (by omega) (fun v' w5 hsp hf5 n5 hfr5 _=> ?_)
         ·intro q u hq
          rw [Nat.zero_add,cell_drew,cell_new _ _ _ _ _ (by simp only [RZ])]
          simpa [wrL,dpW,u64] using hq
         have ltq:∀q,(Value.slice pa3 acc'.length pc3).ownBlock=some q→q<w4.heap.size:=fun q hq=>(sp3.ext he4).lt hq
         have cq:w5.cell? ⟨w4.heap.size,2,none⟩=some (.int .u8 ((freS (bG (wd D l (offN c i))):Nat):Int)):=by
          rw [hfr5.cell w4.heap.size 2 (by simp only [RZ];omega) (fun hq=>by have:=ltq _ hq;omega)]
          simp (disch:=first|omega|simp only [RO]|(simp only [RZ]<;>omega)|fail) only [↓RBp,↓RA,↓reduceIte,Nat.reduceAdd,Nat.reduceMul,Nat.reduceEqDiff,RB,RX,RA2]
         by_cases hfs:freS (bG (wd D l (offN c i)))=176
         ·have hdB:dpB D l c i b'=b'&&&(18446744073709551615^^^2^i):=by unfold dpB;rw [if_pos hfs]
          rw [hfs] at cq
          simp (disch:=first|omega|simp only [RO]|(simp only [RZ]<;>omega)|fail) only [↓RBp,↓RA,↓reduceIte,Nat.reduceAdd,Nat.reduceMul,Nat.reduceEqDiff,RB,RX,RA2,cq,hs1,rAN,f70_k3_eq,f70_k3_t]
          apply hE3
          ·refine ⟨j+1,_,acc'++ [dpW D l c i],by simp,rfl,han,by omega,by simp [ha'];omega,?_,hf5,n5,by rw [←hdB];exact hch3⟩
           rw [wrL_append,List.length_append];exact hsp
          ·simp [Go.RowKit.intOf];omega
         ·have hdB:dpB D l c i b'=b':=by unfold dpB;rw [if_neg hfs]
          rw [hdB] at hch3
          simp (disch:=first|omega|simp only [RO]|(simp only [RZ]<;>omega)|fail) only [↓RBp,↓RA,↓reduceIte,Nat.reduceAdd,Nat.reduceMul,Nat.reduceEqDiff,RB,RX,RA2,cq,hfs,f70_k3_eq,f70_k3_t]
          apply hE3
          ·refine ⟨j+1,_,acc'++ [dpW D l c i],by simp,rfl,hb',by omega,by simp [ha'];omega,?_,hf5,n5,hch3⟩
           rw [wrL_append,List.length_append];exact hsp
          ·simp [Go.RowKit.intOf];omega
        ·simp (disch:=first|omega|simp only [RO]|(simp only [RZ]<;>omega)|fail) only [↓RBp,↓RA,↓reduceIte,Nat.reduceAdd,Nat.reduceMul,Nat.reduceEqDiff,RB,RX,RA2,t1,t2,t3]
         exact bad (by simp [dpOk,t3]) _ (by repeat (first|(with_reducible first|refine eB ?_ (by first|omega|(simp only [RZ]<;>omega)) _|assumption|exact eR _|refine eA ?_ _|refine eD ?_|refine eT ?_ (by assumption))|exact eR _))
       ·have t2:bitB (wd D l 1) i=false:=by simpa using t2
        simp (disch:=first|omega|simp only [RO]|(simp only [RZ]<;>omega)|fail) only [↓RBp,↓RA,↓reduceIte,Nat.reduceAdd,Nat.reduceMul,Nat.reduceEqDiff,RB,RX,RA2,t1,t2]
        exact bad (by simp [dpOk,t2]) _ (by repeat (first|(with_reducible first|refine eB ?_ (by first|omega|(simp only [RZ]<;>omega)) _|assumption|exact eR _|refine eA ?_ _|refine eD ?_|refine eT ?_ (by assumption))|exact eR _))
      ·have t1:isS (wd D l (offN c i))=false:=by simpa using t1
       simp (disch:=first|omega|simp only [RO]|(simp only [RZ]<;>omega)|fail) only [↓RBp,↓RA,↓reduceIte,Nat.reduceAdd,Nat.reduceMul,Nat.reduceEqDiff,RB,RX,RA2,t1]
       exact bad (by simp [dpOk,t1]) _ (by repeat (first|(with_reducible first|refine eB ?_ (by first|omega|(simp only [RZ]<;>omega)) _|assumption|exact eR _|refine eA ?_ _|refine eD ?_|refine eT ?_ (by assumption))|exact eR _))
     ·have hjM':j=M.length:=by omega
      subst hjM'
      rw [List.drop_length] at hch3
      have hch4:chDr D l c M acc b=some (acc',b'):=by rw [←hch3];simp [chDr]
      rw [hch4] at hact
      simp only at hact
      have lt3:w.heap.size<w3.heap.size:=lt_of_cell c0
      have hl':=h.hl;have hn':=h.n
      unfold f70_l2_t
      simp (disch:=first|omega|simp only [RO]|(simp only [RZ]<;>omega)|(with_reducible (repeat (first|assumption|exact Ext.refl _|refine Ext.alloc ?_ _|refine Ext.drew ?_|refine Ext.trans ?_ (by assumption))))|fail) only [↓RBp,↓RA,↓reduceIte,Nat.reduceAdd,Nat.reduceMul,Nat.reduceEqDiff,RB,RX,RA2,c0,c1,c2,c3,c4,c_line,Int.toNat_natCast,f70_k2_eq,f70_k2_t]
      refine app_new elWrite (w0:=w.alloc (chO Y l c o g)) (sp3.ext (by repeat (first|(with_reducible first|refine eB ?_ (by first|omega|(simp only [RZ]<;>omega)) _|assumption|exact eR _|refine eA ?_ _|refine eD ?_|refine eT ?_ (by assumption))|exact eR _))) (f3.ext (by repeat (first|(with_reducible first|refine eB ?_ (by first|omega|(simp only [RZ]<;>omega)) _|assumption|exact eR _|refine eA ?_ _|refine eD ?_|refine eT ?_ (by assumption))|exact eR _))) n3 (m:=1) (news:=wrL [(l*64+8,b')]) (by simp [wrL]) ?_ rfl (by omega) (by omega) (by omega) (fun v' w5 hsp hf5 n5 hfr5 _=> ?_)
      ·intro q u hq
       rw [Nat.zero_add,cell_new _ _ _ _ _ (by simp only [RZ])]
       simpa [wrL,u64] using hq
      try simp (disch:=first|omega|simp only [RO]|(simp only [RZ]<;>omega)|fail) only [↓RBp,↓RA,↓reduceIte,Nat.reduceAdd,Nat.reduceMul,Nat.reduceEqDiff,RB,RX,RA2]
      refine hyes _ hact v' w5 (e0.trans (hf5.to_ext (fun _ _ h=>h))) (fun q hq=>Nat.le_trans s0 (n5 q hq)) ?_
      rw [wrL_append,List.length_append];exact hsp
 by_cases hL0:L.length=0
 ·by_cases hM0:M.length=0
  ·simp (disch:=first|omega|simp only [RO]|(simp only [RZ]<;>omega)|fail) only [↓RBp,↓RA,↓reduceIte,Nat.reduceAdd,Nat.reduceMul,Nat.reduceEqDiff,RB,RX,RA2,hL0,hM0]
   exact hyes [] (by unfold actN;rw [if_pos ⟨hL0,hM0⟩]) _ _ (by repeat (first|(with_reducible first|refine eB ?_ (by first|omega|(simp only [RZ]<;>omega)) _|assumption|exact eR _|refine eA ?_ _|refine eD ?_|refine eT ?_ (by assumption))|exact eR _)) (fun b hb=>by cases hb) (SlO.nil _ _ _)
  ·have hz:((L.length:Nat):Int)=0:=by omega
   have hnz:¬((M.length:Nat):Int)=0:=by omega
   simp (disch:=first|omega|simp only [RO]|(simp only [RZ]<;>omega)|(with_reducible (repeat (first|assumption|exact Ext.refl _|refine Ext.alloc ?_ _|refine Ext.drew ?_|refine Ext.trans ?_ (by assumption))))|fail) only [↓RBp,↓RA,↓reduceIte,Nat.reduceAdd,Nat.reduceMul,Nat.reduceEqDiff,RB,RX,RA2,dec_true hz,dec_false hnz,hbt]
   exact main (by omega) _ (by repeat (first|(with_reducible first|refine eB ?_ (by first|omega|(simp only [RZ]<;>omega)) _|assumption|exact eR _|refine eA ?_ _|refine eD ?_|refine eT ?_ (by assumption))|exact eR _))
 ·have hnz:¬((L.length:Nat):Int)=0:=by omega
  simp (disch:=first|omega|simp only [RO]|(simp only [RZ]<;>omega)|(with_reducible (repeat (first|assumption|exact Ext.refl _|refine Ext.alloc ?_ _|refine Ext.drew ?_|refine Ext.trans ?_ (by assumption))))|fail) only [↓RBp,↓RA,↓reduceIte,Nat.reduceAdd,Nat.reduceMul,Nat.reduceEqDiff,RB,RX,RA2,dec_false hnz,hbt]
  exact main (by omega) _ (by repeat (first|(with_reducible first|refine eB ?_ (by first|omega|(simp only [RZ]<;>omega)) _|assumption|exact eR _|refine eA ?_ _|refine eD ?_|refine eT ?_ (by assumption))|exact eR _))
end
end Go.Proofs.YtifpinhjpbgnoaaGreatDoor
namespace Go.Proofs.YtifpinhjpbgnoaaGreatDoor
open Go Go.Sh
set_option maxRecDepth 100000
set_option linter.unusedSimpArgs false
set_option linter.unusedVariables false
structure On (D:DS):Prop where
 off:D.off=false
 arm:D.armed=false
 err:D.err 0=0
section
variable {D:DS}
theorem On.runs (h:On D):D.runs true=true:=by simp [DS.runs,h.off,h.arm]
theorem On.counted (h:On D):D.counted 0 true={D with exe:=D.exe+1}:=by
 rw [DS.counted_run h.runs,if_neg (by simp [h.arm])]
theorem On.store (h:On D) (off v:Nat) (hv:vOff D off=true):D.store 0 off v=({D with exe:=D.exe+1}:DS).write off v:=by
 unfold DS.store;rw [hv,if_pos h.runs,h.counted]
theorem On.storeOn (h:On D) (off v:Nat) (hv:vOff D off=true):On (D.store 0 off v):=by
 rw [h.store off v hv];exact ⟨h.off,h.arm,h.err⟩
theorem On.storeCur (h:On D) (off v:Nat) (hv:vOff D off=true):(D.store 0 off v).cur=fun j=>if j=off/8 then v else D.cur j:=by
 rw [h.store off v hv];rfl
theorem On.flush (h:On D) (off:Nat) (hv:fOff D off=true):D.flush 0 off=({D with exe:=D.exe+1}:DS).note 0 ((off/64:Nat):Int) (D.done (off/64)+(D.hist (off/64)).length):=by
 unfold DS.flush;rw [hv,if_pos h.runs,h.counted]
theorem On.flushOn (h:On D) (off:Nat) (hv:fOff D off=true):On (D.flush 0 off):=by
 rw [h.flush off hv];exact ⟨h.off,h.arm,h.err⟩
theorem On.flushCur (h:On D) (off:Nat) (hv:fOff D off=true):(D.flush 0 off).cur=D.cur:=by
 rw [h.flush off hv];rfl
theorem On.fence (h:On D):D.fence 0=(({D with exe:=D.exe+1}:DS).parts (D.due 0)).clr 0:=by
 unfold DS.fence;rw [if_pos h.runs,h.counted]
theorem On.fenceOn (h:On D):On (D.fence 0):=by
 rw [h.fence];exact ⟨h.off,h.arm,h.err⟩
theorem On.fenceCur (h:On D):(D.fence 0).cur=D.cur:=by
 rw [h.fence];rfl
theorem On.zero (n:Nat):On (DS.zero n):=⟨rfl,rfl,rfl⟩
theorem run_cons (D:DS) (i:Ins) (p:List Ins):D.run 0 (i::p)=(D.exec 0 i).run 0 p:=rfl
theorem On.runW:∀(ws:List (Nat×Nat)) (D:DS),On D→(∀x∈ws,x.1%8=0∧x.1<D.n*64)→On (D.run 0 (ws.map wrI))∧(D.run 0 (ws.map wrI)).cur=applyH ws D.cur:=by
 intro ws
 induction ws with
 |nil=>intro D h _;exact ⟨h,rfl⟩
 |cons x ws ih=>
  intro D h hv
  rw [List.map_cons,run_cons]
  have e:D.exec 0 (wrI x)=D.store 0 x.1 x.2:=rfl
  have hx:vOff D x.1=true:=by simp [vOff,hv x (by simp)]
  rw [e]
  have hn:=store_n D 0 x.1 x.2
  have:=ih (D.store 0 x.1 x.2) (h.storeOn _ _ hx) (fun y hy=>by rw [hn];exact hv y (by simp [hy]))
  refine ⟨this.1,?_⟩
  rw [this.2,h.storeCur _ _ hx];rfl
theorem On.runF:∀(ls:List Nat) (D:DS),On D→(∀x∈ls,x<D.n*64)→On (D.run 0 (ls.map flI))∧(D.run 0 (ls.map flI)).cur=D.cur:=by
 intro ls
 induction ls with
 |nil=>intro D h _;exact ⟨h,rfl⟩
 |cons x ls ih=>
  intro D h hv
  rw [List.map_cons,run_cons]
  have e:D.exec 0 (flI x)=D.flush 0 x:=rfl
  have hx:fOff D x=true:=by simp [fOff,hv x (by simp)]
  rw [e]
  have hn:=flush_n D 0 x
  have:=ih (D.flush 0 x) (h.flushOn _ hx) (fun y hy=>by rw [hn];exact hv y (by simp [hy]))
  exact ⟨this.1,this.2.trans (h.flushCur _ hx)⟩
theorem kpN_mem (d:Array Nat):∀n,n≤d.size→∀x∈kpN d n,x∈d.toList:=by
 intro n
 induction n with
 |zero=>intro _ x hx;simp [kpN] at hx
 |succ n ih=>
  intro hn x hx
  simp only [kpN,List.mem_append] at hx
  rcases hx with hx|hx
  ·exact ih (by omega) x hx
  ·split at hx
   ·simp only [List.mem_singleton] at hx
    subst hx
    rw [getElem!_pos d n (by omega)]
    simp
   ·cases hx
theorem cmpN_mem {l:List Nat} {x:Nat} (h:x∈cmpN l):x∈l:=by
 have:=kpN_mem l.toArray l.length (by simp) x h
 simpa using this
theorem storesI_line {ws:List (Nat×Nat)} {x:Nat} (h:x∈cmpN (srtN (ws.map fun x=>lineS x.1))):∃y∈ws,x=lineS y.1:=by
 have h1:=cmpN_mem h
 have h2:=(srtN_perm _).mem_iff.1 h1
 obtain ⟨y,hy,rfl⟩:=List.mem_map.1 h2
 exact ⟨y,hy,rfl⟩
theorem On.stores (h:On D) (ws:List (Nat×Nat)) (hv:∀x∈ws,x.1%8=0∧x.1<D.n*64):On (D.run 0 (storesI ws))∧(D.run 0 (storesI ws)).cur=applyH ws D.cur:=by
 unfold storesI
 rw [run_append,run_append]
 have h1:=On.runW ws D h hv
 have n1:=run_n 0 (ws.map wrI) D
 have h2:=On.runF (cmpN (srtN (ws.map fun x=>lineS x.1))) (D.run 0 (ws.map wrI)) h1.1 (fun x hx=>by
  obtain ⟨y,hy,rfl⟩:=storesI_line hx
  have:=hv y hy
  rw [n1];unfold lineS;omega)
 refine ⟨h2.1.fenceOn,?_⟩
 show (DS.fence _ 0).cur=_
 rw [h2.1.fenceCur,h2.2,h1.2]
theorem okI_stores {ws:List (Nat×Nat)} (h:∀x∈ws,x.1<18446744073709551616∧x.2<18446744073709551616):∀i∈storesI ws,okI i:=by
 intro i hi
 simp only [storesI,List.mem_append,List.mem_map,List.mem_singleton] at hi
 rcases hi with (⟨x,hx,rfl⟩|⟨x,hx,rfl⟩)|rfl
 ·have:=h x hx;exact ⟨by simp [wrI],by simp [wrI],this.1,this.2⟩
 ·obtain ⟨y,hy,rfl⟩:=storesI_line hx
  have:=h y hy
  exact ⟨by simp [flI],by simp [flI],by simp only [flI,lineS];omega,by simp [flI]⟩
 ·exact ⟨by simp,by simp,by simp,by simp⟩
end
theorem seal_lo (x:Nat) (h:x<4294967296):sealN x%4294967296=x:=by unfold sealN;omega
theorem isS_seal {x:Nat} (h:x<4294967296):isS (sealN x)=true:=by unfold isS;rw [seal_lo x h];simp
theorem gX_seal (x:Nat):gX (sealN x)=gX x:=by unfold gX sealN;omega
theorem kX_seal (x:Nat):kX (sealN x)=kX x:=by unfold kX sealN;omega
theorem sX_seal (x:Nat):sX (sealN x)=sX x:=by unfold sX sealN;omega
theorem hC_seal (x:Nat):hC (sealN x)=hC x:=by unfold hC sealN;omega
theorem hO_seal (x:Nat):hO (sealN x)=hO x:=by unfold hO sealN;omega
section
variable {g k s:Nat}
theorem blkX_lt (hg:g<65536) (hk:k<256) (hs:s<256):blkX g k s<4294967296:=by unfold blkX;omega
theorem isS_blk (hg:g<65536) (hk:k<256) (hs:s<256):isS (sealN (blkX g k s))=true:=isS_seal (blkX_lt hg hk hs)
theorem bG_blk (hg:g<65536) (hk:k<256) (hs:s<256):bG (sealN (blkX g k s))=g:=by unfold bG;rw [isS_blk hg hk hs,if_pos rfl,gX_seal];unfold gX blkX;omega
theorem bK_blk (hg:g<65536) (hk:k<256) (hs:s<256):bK (sealN (blkX g k s))=k:=by unfold bK;rw [isS_blk hg hk hs,if_pos rfl,kX_seal];unfold kX blkX;omega
theorem bS_blk (hg:g<65536) (hk:k<256) (hs:s<256):bS (sealN (blkX g k s))=s:=by unfold bS;rw [isS_blk hg hk hs,if_pos rfl,sX_seal];unfold sX blkX;omega
end
section
variable {c o:Int} {g:Nat}
theorem hdX_lt (hc: -1≤c) (hc':c<5) (ho: -1≤o) (ho':o<8) (hg:g<65536):hdX c o g<4294967296:=by unfold hdX;split<;>omega
theorem hd_ok (hc:0≤c) (hc':c<5) (ho:0≤o) (ho':o<8) (hg:g≠0) (hg':g<65536):hdOk (sealN (hdX c o g))=true∧hC (sealN (hdX c o g))=c∧hO (sealN (hdX c o g))=o∧gX (sealN (hdX c o g))=g:=by
 have h1:hC (sealN (hdX c o g))=c:=by rw [hC_seal];unfold hC hdX;rw [if_pos hc];omega
 have h2:hO (sealN (hdX c o g))=o:=by rw [hO_seal];unfold hO hdX;rw [if_pos hc];omega
 have h3:gX (sealN (hdX c o g))=g:=by rw [gX_seal];unfold gX hdX;rw [if_pos hc];omega
 have h4:sX (sealN (hdX c o g))=197:=by rw [sX_seal];unfold sX hdX;rw [if_pos hc];omega
 refine ⟨?_,h1,h2,h3⟩
 unfold hdOk
 rw [h1,h2,h3,h4,isS_seal (hdX_lt (by omega) hc' (by omega) ho' hg')]
 simp [hg,fmtB,hc,hc',ho,ho']
theorem hd_free (hg:g≠0) (hg':g<65536):hdOk (sealN (hdX (-1) (-1) g))=true∧hC (sealN (hdX (-1) (-1) g))= -1∧hO (sealN (hdX (-1) (-1) g))= -1∧gX (sealN (hdX (-1) (-1) g))=g:=by
 have e:hdX (-1) (-1) g=g+3305111552:=by unfold hdX;rw [if_neg (by omega)]
 have h1:hC (sealN (hdX (-1) (-1) g))= -1:=by rw [hC_seal,e];unfold hC;omega
 have h2:hO (sealN (hdX (-1) (-1) g))= -1:=by rw [hO_seal,e];unfold hO;omega
 have h3:gX (sealN (hdX (-1) (-1) g))=g:=by rw [gX_seal,e];unfold gX;omega
 have h4:sX (sealN (hdX (-1) (-1) g))=197:=by rw [sX_seal,e];unfold sX;omega
 refine ⟨?_,h1,h2,h3⟩
 unfold hdOk
 rw [h1,h2,h3,h4,isS_seal (hdX_lt (by omega) (by omega) (by omega) (by omega) hg')]
 simp [hg]
end
end Go.Proofs.YtifpinhjpbgnoaaGreatDoor
namespace Go.Proofs.YtifpinhjpbgnoaaGreatDoor
open Go Go.Sh
set_option maxRecDepth 100000
set_option maxHeartbeats 4000000
set_option linter.unusedSimpArgs false
set_option linter.unusedVariables false
theorem rd_mf {P:Program} (f:Fn) (a c:Array Value) (w:World) (k:Value→Prop):rd P (Instr.makeFunc f a c) w k=k (.func f a c):=rd_of_run rfl k
theorem ag_mf {P:Program} (f:Fn) (a c:Array Value) (w:World) (u:Value):ag P (Instr.makeFunc f a c) w u=(Value.func f a c=u):=ag_of_run rfl u
theorem nilR_Load (b i:Nat) (w:World) (k:Value→Prop):nilR Tryz.prog (.func (.method "Load") #[.iface 25 (.pointer (some ⟨b,i,none⟩))] #[]) w k=k (.func (.method "Load") #[.iface 25 (.pointer (some ⟨b,i,none⟩))] #[]):=by
 have h:(execOp (fun _=>(.func (.method "Load") #[.iface 25 (.pointer (some ⟨b,i,none⟩))] #[])) nilOp).run Tryz.prog w= .ok (.value (.func (.method "Load") #[.iface 25 (.pointer (some ⟨b,i,none⟩))] #[])) w:=by kernel_rfl
 unfold nilR;rw [h];simp
abbrev thV (Y:Lay):Value:= .iface 25 (.pointer (some ⟨Y.tb 0,0,none⟩))
section
variable {w w':World} {Y:Lay} {D:DS}
theorem cells5 {b t:Nat} {f:Nat→Value} (h:Cells w b t 5 f) (v0 v1 v2 v3 v4:Value):(((((w.setCell ⟨b,0,none⟩ v0).setCell ⟨b,1,none⟩ v1).setCell ⟨b,2,none⟩ v2).setCell ⟨b,3,none⟩ v3).setCell ⟨b,4,none⟩ v4).cell? ⟨b,0,none⟩=some v0∧(((((w.setCell ⟨b,0,none⟩ v0).setCell ⟨b,1,none⟩ v1).setCell ⟨b,2,none⟩ v2).setCell ⟨b,3,none⟩ v3).setCell ⟨b,4,none⟩ v4).cell? ⟨b,1,none⟩=some v1∧(((((w.setCell ⟨b,0,none⟩ v0).setCell ⟨b,1,none⟩ v1).setCell ⟨b,2,none⟩ v2).setCell ⟨b,3,none⟩ v3).setCell ⟨b,4,none⟩ v4).cell? ⟨b,2,none⟩=some v2∧(((((w.setCell ⟨b,0,none⟩ v0).setCell ⟨b,1,none⟩ v1).setCell ⟨b,2,none⟩ v2).setCell ⟨b,3,none⟩ v3).setCell ⟨b,4,none⟩ v4).cell? ⟨b,3,none⟩=some v3∧(((((w.setCell ⟨b,0,none⟩ v0).setCell ⟨b,1,none⟩ v1).setCell ⟨b,2,none⟩ v2).setCell ⟨b,3,none⟩ v3).setCell ⟨b,4,none⟩ v4).cell? ⟨b,4,none⟩=some v4:=by
 have h3:=((((h.set v0 (i:=0) (by omega)).set v1 (i:=1) (by omega)).set v2 (i:=2) (by omega)).set v3 (i:=3) (by omega)).set v4 (i:=4) (by omega)
 exact ⟨h3.cell (i:=0) (by omega),h3.cell (i:=1) (by omega),h3.cell (i:=2) (by omega),h3.cell (i:=3) (by omega),h3.cell (i:=4) (by omega)⟩
theorem k_Look (h:Dv w Y D) (g:Good D) (hG:Glob w) (ho:D.off=false) (he:D.err 0=0) (l:Nat) (hl:l+32≤D.n) (hok:hdOk (wd D l 0)=true) (K:K1)
  (hK:∀w',Ext w w'→K (.tuple #[.agg #[.int .i64 (hC (wd D l 0)),.int .i64 (hO (wd D l 0)),.int .u16 (gX (wd D l 0):Int)],.int .i64 0]) w'):
  callS Tryz.prog 48 #[thV Y,.int .i64 (l:Int)] w K:=by
 have hn:=g.n
 have hsz:∀(w1:World) (K:K1),Ext w w1→callS Tryz.prog 167 #[.pointer (some ⟨Y.tb 0,0,none⟩)] w1 K=K (.int .u64 ((D.n*64:Nat):Int)) w1:=fun w1 K e=>c_TSize (h.ext e) g 0 (by omega) K
 have her:∀(w1:World) (K:K1),Ext w w1→callS Tryz.prog 19 #[.pointer (some ⟨Y.tb 0,0,none⟩)] w1 K=K (.int .i64 0) w1:=fun w1 K e=>by rw [c_Err (h.ext e) 0 (by omega) K,he]
 have hld:∀(w1:World) (K:K1),Ext w w1→callS Tryz.prog 46 #[.pointer (some ⟨Y.tb 0,0,none⟩),.int .u64 ((l*64:Nat):Int)] w1 K=K (.int .u64 (wd D l 0:Int)) w1:=fun w1 K e=>by
  rw [c_Load (h.ext e) g 0 (by omega) ho (l*64) (by omega) (by omega) K,show l*64/8=l*8+0 by omega];unfold wd;rfl
 have hx:wd D l 0<18446744073709551616:=by unfold wd;exact g.cur _ (by omega)
 have hq:D.n*64/64=D.n:=by omega
 generalize wd D l 0=x at*
 refine f48_call _ _ _ _ ?_
 unfold thV f48_t
 (repeat' (first|(with_reducible refine brS_mk (fun _=> ?_) (fun _=> ?_))|(with_reducible refine And.intro ?_ ?_)|(simp (disch:=first|omega|simp only [RO]|(simp only [RZ]<;>omega)|(with_reducible (repeat (first|assumption|exact Ext.refl _|refine Ext.alloc ?_ _|refine Ext.drew ?_|refine Ext.trans ?_ (by assumption))))|fail) only [↓RBp,↓RA,↓reduceIte,Nat.reduceAdd,Nat.reduceMul,Nat.reduceEqDiff,RB,RX,RA2,hsz,her,hld,hq,c_line,Int.toNat_natCast,rd_mf,ag_mf,nilR_Load])))
 refine k_header x _ _ (hG.ext (by repeat (first|(with_reducible first|refine eB ?_ (by first|omega|(simp only [RZ]<;>omega)) _|assumption|exact eR _|refine eA ?_ _|refine eD ?_|refine eT ?_ (by assumption))|exact eR _))) hx (fun w1 he1=> ?_)
 have e1:Ext w w1:=Ext.trans (by repeat (first|(with_reducible first|refine eB ?_ (by first|omega|(simp only [RZ]<;>omega)) _|assumption|exact eR _|refine eA ?_ _|refine eD ?_|refine eT ?_ (by assumption))|exact eR _)) he1
 have hC0:Cells w1 w.heap.size 67 3 (fun i=> [Value.int .i64 0,.int .i64 0,.int .u16 ((0:Nat):Int)].getD i undef):=by
  have:=(Cells.new w [Value.int .i64 0,.int .i64 0,.int .u16 ((0:Nat):Int)] 67)
  exact this.ext (Ext.trans (by repeat (first|(with_reducible first|refine eB ?_ (by first|omega|(simp only [RZ]<;>omega)) _|assumption|exact eR _|refine eA ?_ _|refine eD ?_|refine eT ?_ (by assumption))|exact eR _)) he1)
 have c0:=hC0.cell (i:=0) (by omega)
 have c1:=hC0.cell (i:=1) (by omega)
 have c2:=hC0.cell (i:=2) (by omega)
 have lt1:=hC0.lt
 rw [hok]
 unfold hdV
 have ob1:=cells3 hC0 (.int .i64 (hC x)) (.int .i64 (hO x)) (.int .u16 (gX x:Int));have d0:=ob1.1;have d1:=ob1.2.1;have d2:=ob1.2.2.1;have hD:=ob1.2.2.2
 simp (disch:=first|omega|simp only [RO]|(simp only [RZ]<;>omega)|fail) only [↓RBp,↓RA,↓reduceIte,Nat.reduceAdd,Nat.reduceMul,Nat.reduceEqDiff,RB,RX,RA2,c0,c1,c2,hC0.frz,d0,d1,d2]
 exact hK _ (by repeat (first|(with_reducible first|refine eB ?_ (by first|omega|(simp only [RZ]<;>omega)) _|assumption|exact eR _|refine eA ?_ _|refine eD ?_|refine eT ?_ (by assumption))|exact eR _))
theorem k_LookForm (h:Dv w Y D) (g:Good D) (hG:Glob w) (ho:D.off=false) (he:D.err 0=0) (l:Nat) (hl:l+32≤D.n) (hok:hdOk (wd D l 0)=false) (K:K1)
  (hK:∀w',Ext w w'→K (.tuple #[.agg #[.int .i64 0,.int .i64 0,.int .u16 ((0:Nat):Int)],.int .i64 11]) w'):
  callS Tryz.prog 48 #[thV Y,.int .i64 (l:Int)] w K:=by
 have hn:=g.n
 have hsz:∀(w1:World) (K:K1),Ext w w1→callS Tryz.prog 167 #[.pointer (some ⟨Y.tb 0,0,none⟩)] w1 K=K (.int .u64 ((D.n*64:Nat):Int)) w1:=fun w1 K e=>c_TSize (h.ext e) g 0 (by omega) K
 have her:∀(w1:World) (K:K1),Ext w w1→callS Tryz.prog 19 #[.pointer (some ⟨Y.tb 0,0,none⟩)] w1 K=K (.int .i64 0) w1:=fun w1 K e=>by rw [c_Err (h.ext e) 0 (by omega) K,he]
 have hld:∀(w1:World) (K:K1),Ext w w1→callS Tryz.prog 46 #[.pointer (some ⟨Y.tb 0,0,none⟩),.int .u64 ((l*64:Nat):Int)] w1 K=K (.int .u64 (wd D l 0:Int)) w1:=fun w1 K e=>by
  rw [c_Load (h.ext e) g 0 (by omega) ho (l*64) (by omega) (by omega) K,show l*64/8=l*8+0 by omega];unfold wd;rfl
 have hx:wd D l 0<18446744073709551616:=by unfold wd;exact g.cur _ (by omega)
 have hq:D.n*64/64=D.n:=by omega
 generalize wd D l 0=x at*
 refine f48_call _ _ _ _ ?_
 unfold thV f48_t
 (repeat' (first|(with_reducible refine brS_mk (fun _=> ?_) (fun _=> ?_))|(with_reducible refine And.intro ?_ ?_)|(simp (disch:=first|omega|simp only [RO]|(simp only [RZ]<;>omega)|(with_reducible (repeat (first|assumption|exact Ext.refl _|refine Ext.alloc ?_ _|refine Ext.drew ?_|refine Ext.trans ?_ (by assumption))))|fail) only [↓RBp,↓RA,↓reduceIte,Nat.reduceAdd,Nat.reduceMul,Nat.reduceEqDiff,RB,RX,RA2,hsz,her,hld,hq,c_line,Int.toNat_natCast,rd_mf,ag_mf,nilR_Load])))
 refine k_header x _ _ (hG.ext (by repeat (first|(with_reducible first|refine eB ?_ (by first|omega|(simp only [RZ]<;>omega)) _|assumption|exact eR _|refine eA ?_ _|refine eD ?_|refine eT ?_ (by assumption))|exact eR _))) hx (fun w1 he1=> ?_)
 have e1:Ext w w1:=Ext.trans (by repeat (first|(with_reducible first|refine eB ?_ (by first|omega|(simp only [RZ]<;>omega)) _|assumption|exact eR _|refine eA ?_ _|refine eD ?_|refine eT ?_ (by assumption))|exact eR _)) he1
 have hC0:Cells w1 w.heap.size 67 3 (fun i=> [Value.int .i64 0,.int .i64 0,.int .u16 ((0:Nat):Int)].getD i undef):=by
  have:=(Cells.new w [Value.int .i64 0,.int .i64 0,.int .u16 ((0:Nat):Int)] 67)
  exact this.ext (Ext.trans (by repeat (first|(with_reducible first|refine eB ?_ (by first|omega|(simp only [RZ]<;>omega)) _|assumption|exact eR _|refine eA ?_ _|refine eD ?_|refine eT ?_ (by assumption))|exact eR _)) he1)
 have c0:=hC0.cell (i:=0) (by omega)
 have c1:=hC0.cell (i:=1) (by omega)
 have c2:=hC0.cell (i:=2) (by omega)
 have lt1:=hC0.lt
 rw [hok]
 unfold hdV
 have ob2:=cells3 hC0 (.int .i64 0) (.int .i64 0) (.int .u16 ((0:Nat):Int));have d0:=ob2.1;have d1:=ob2.2.1;have d2:=ob2.2.2.1;have hD:=ob2.2.2.2
 simp (disch:=first|omega|simp only [RO]|(simp only [RZ]<;>omega)|fail) only [↓RBp,↓RA,↓reduceIte,Nat.reduceAdd,Nat.reduceMul,Nat.reduceEqDiff,RB,RX,RA2,c0,c1,c2,hC0.frz,d0,d1,d2]
 exact hK _ (by repeat (first|(with_reducible first|refine eB ?_ (by first|omega|(simp only [RZ]<;>omega)) _|assumption|exact eR _|refine eA ?_ _|refine eD ?_|refine eT ?_ (by assumption))|exact eR _))
abbrev chZ:Value:= .agg #[.nilIface,.int .i64 0,.int .i64 0,.int .i64 0,.int .u16 ((0:Nat):Int)]
theorem k_OpenAt (h:Dv w Y D) (g:Good D) (hG:Glob w) (ho:D.off=false) (he:D.err 0=0) (l:Nat) (hl:l+32≤D.n) (hok:hdOk (wd D l 0)=true) (K:K1)
  (hK:∀w',Ext w w'→K (if hC (wd D l 0)<0 then .tuple #[chZ,.int .i64 8] else .tuple #[chV Y l (hC (wd D l 0)) (hO (wd D l 0)) (gX (wd D l 0)),.int .i64 0]) w'):
  callS Tryz.prog 23 #[thV Y,.int .i64 (l:Int)] w K:=by
 refine f23_call _ _ _ _ ?_
 unfold thV f23_t
 simp (disch:=first|omega|simp only [RO]|(simp only [RZ]<;>omega)|fail) only [↓RBp,↓RA,↓reduceIte,Nat.reduceAdd,Nat.reduceMul,Nat.reduceEqDiff,RB,RX,RA2]
 refine k_Look (h.ext (by repeat (first|(with_reducible first|refine eB ?_ (by first|omega|(simp only [RZ]<;>omega)) _|assumption|exact eR _|refine eA ?_ _|refine eD ?_|refine eT ?_ (by assumption))|exact eR _))) g (hG.ext (by repeat (first|(with_reducible first|refine eB ?_ (by first|omega|(simp only [RZ]<;>omega)) _|assumption|exact eR _|refine eA ?_ _|refine eD ?_|refine eT ?_ (by assumption))|exact eR _))) ho he l hl hok _ (fun w1 he1=> ?_)
 have e1:Ext w w1:=Ext.trans (by repeat (first|(with_reducible first|refine eB ?_ (by first|omega|(simp only [RZ]<;>omega)) _|assumption|exact eR _|refine eA ?_ _|refine eD ?_|refine eT ?_ (by assumption))|exact eR _)) he1
 have hC0:Cells w1 w.heap.size 69 5 (fun i=> [Value.nilIface,.int .i64 0,.int .i64 0,.int .i64 0,.int .u16 ((0:Nat):Int)].getD i undef):=by
  have:=(Cells.new w [Value.nilIface,.int .i64 0,.int .i64 0,.int .i64 0,.int .u16 ((0:Nat):Int)] 69)
  exact this.ext (Ext.trans (by repeat (first|(with_reducible first|refine eB ?_ (by first|omega|(simp only [RZ]<;>omega)) _|assumption|exact eR _|refine eA ?_ _|refine eD ?_|refine eT ?_ (by assumption))|exact eR _)) he1)
 have c0:=hC0.cell (i:=0) (by omega)
 have c1:=hC0.cell (i:=1) (by omega)
 have c2:=hC0.cell (i:=2) (by omega)
 have c3:=hC0.cell (i:=3) (by omega)
 have c4:=hC0.cell (i:=4) (by omega)
 have lt1:=hC0.lt
 by_cases hc:hC (wd D l 0)<0
 ·rw [if_pos hc] at hK
  have ob4:=cells5 hC0 .nilIface (.int .i64 0) (.int .i64 0) (.int .i64 0) (.int .u16 ((0:Nat):Int));have d0:=ob4.1;have d1:=ob4.2.1;have d2:=ob4.2.2.1;have d3:=ob4.2.2.2.1;have d4:=ob4.2.2.2.2
  simp (disch:=first|omega|simp only [RO]|(simp only [RZ]<;>omega)|fail) only [↓RBp,↓RA,↓reduceIte,Nat.reduceAdd,Nat.reduceMul,Nat.reduceEqDiff,RB,RX,RA2,c0,c1,c2,c3,c4,hC0.frz,d0,d1,d2,d3,d4]
  exact hK _ (by repeat (first|(with_reducible first|refine eB ?_ (by first|omega|(simp only [RZ]<;>omega)) _|assumption|exact eR _|refine eA ?_ _|refine eD ?_|refine eT ?_ (by assumption))|exact eR _))
 ·rw [if_neg hc] at hK
  have ob5:=cells5 hC0 (.iface 25 (.pointer (some ⟨Y.tb 0,0,none⟩))) (.int .i64 (l:Int)) (.int .i64 (hC (wd D l 0))) (.int .i64 (hO (wd D l 0))) (.int .u16 (gX (wd D l 0):Int));have d0:=ob5.1;have d1:=ob5.2.1;have d2:=ob5.2.2.1;have d3:=ob5.2.2.2.1;have d4:=ob5.2.2.2.2
  simp (disch:=first|omega|simp only [RO]|(simp only [RZ]<;>omega)|fail) only [↓RBp,↓RA,↓reduceIte,Nat.reduceAdd,Nat.reduceMul,Nat.reduceEqDiff,RB,RX,RA2,c0,c1,c2,c3,c4,hC0.frz,d0,d1,d2,d3,d4]
  exact hK _ (by repeat (first|(with_reducible first|refine eB ?_ (by first|omega|(simp only [RZ]<;>omega)) _|assumption|exact eR _|refine eA ?_ _|refine eD ?_|refine eT ?_ (by assumption))|exact eR _))
end
end Go.Proofs.YtifpinhjpbgnoaaGreatDoor
namespace Go.Proofs.YtifpinhjpbgnoaaGreatDoor
open Go Go.Sh
set_option maxRecDepth 100000
set_option maxHeartbeats 4000000
set_option linter.unusedSimpArgs false
set_option linter.unusedVariables false
theorem onc_valid {per:Int}:∀{L:List Int} {m m':Nat},onc per L m=some m'→∀i∈L,0≤i∧i<per:=by
 intro L
 induction L with
 |nil=>intro m m' _ i hi;cases hi
 |cons x L ih=>
  intro m m' h i hi
  simp only [onc] at h
  split at h
  ·rename_i hx
   rcases List.mem_cons.1 hi with rfl|hi
   ·exact hx.1
   ·exact ih h i hi
  ·cases h
structure ActA (c:Int) (L:List Int) (ks:List Nat) (M:List Int):Prop where
 len:ks.length=L.length
 kin:∀k∈ks,k≠0∧k≤127
 onc:((onc (perS c) L 0).bind (onc (perS c) M)).isSome=true
theorem ActA.vL {c:Int} {L M:List Int} {ks:List Nat} (h:ActA c L ks M):∀i∈L,0≤i∧i<perS c:=by
 have:=h.onc
 cases h1:Go.Proofs.YtifpinhjpbgnoaaGreatDoor.onc (perS c) L 0 with
 |none=>rw [h1] at this;cases this
 |some m=>exact onc_valid h1
theorem ActA.vM {c:Int} {L M:List Int} {ks:List Nat} (h:ActA c L ks M):∀i∈M,0≤i∧i<perS c:=by
 have:=h.onc
 cases h1:Go.Proofs.YtifpinhjpbgnoaaGreatDoor.onc (perS c) L 0 with
 |none=>rw [h1] at this;cases this
 |some m=>
  rw [h1,Option.bind_some] at this
  cases h2:Go.Proofs.YtifpinhjpbgnoaaGreatDoor.onc (perS c) M m with
  |none=>rw [h2] at this;cases this
  |some m'=>exact onc_valid h2
section
variable {w w':World} {Y:Lay} {D:DS} {l:Nat} {c o:Int} {g:Nat}
theorem k_Actions (h:Cx w Y D l c) (he:D.err 0=0) (o:Int) (g:Nat) (L M:List Int) (ks:List Nat) (v kv u:Value) {m:Nat} (hL:RdS m w v (i64L L)) (hk:RdS m w kv (u8L ks)) (hM:RdS m w u (i64L M)) (lL:L.length<1073741824) (lM:M.length<1073741824) (lk:ks.length<1073741824) (hks:∀k∈ks,k<256) (K:K1)
  (hbad:¬ActA c L ks M→∀w',Ext w w'→K (.tuple #[.slice none 0 0,.int .i64 1]) w')
  (hno:ActA c L ks M→actN D l c L ks M=none→∀w',Ext w w'→K (.tuple #[.slice none 0 0,.int .i64 8]) w')
  (hyes:ActA c L ks M→∀ws,actN D l c L ks M=some ws→∀v' w',Ext w w'→NewV w.heap.size v'→SlO w' 80 2 v' ws.length (wrL ws)→K (.tuple #[v',.int .i64 0]) w'):callS Tryz.prog 28 #[chV Y l c o g,v,kv,u] w K:=by
 have her:∀(w1:World) (K:K1),Ext w w1→callS Tryz.prog 19 #[.pointer (some ⟨Y.tb 0,0,none⟩)] w1 K=K (.int .i64 0) w1:=fun w1 K e=>by rw [c_Err (h.dv.ext e) 0 (by omega) K,he]
 have l1:(i64L L).length=L.length:=by simp
 have l2:(i64L M).length=M.length:=by simp
 have l3:(u8L ks).length=ks.length:=by simp
 obtain ⟨la,lc,rfl,_⟩:=id hL
 obtain ⟨ma,mc,rfl,_⟩:=id hM
 obtain ⟨ka,kc,rfl,_⟩:=id hk
 rw [l1] at hL ⊢
 rw [l2] at hM ⊢
 rw [l3] at hk ⊢
 have e0:Ext w (w.alloc (chO Y l c o g)):=Ext.alloc_self _ _
 refine f28_call _ _ _ _ _ _ ?_
 by_cases hln:ks.length=L.length
 ·have hz:((ks.length:Nat):Int)=((L.length:Nat):Int):=by omega
  have hb2:∀j,(hj:j<ks.length)→¬(ks[j]≠0∧ks[j]≤127)→∀w',Ext w w'→K (.tuple #[.slice none 0 0,.int .i64 1]) w':=fun j hj hn=>hbad (fun ha=>hn (ha.kin _ (List.getElem_mem hj)))
  unfold f28_t
  simp (disch:=first|omega|simp only [RO]|(simp only [RZ]<;>omega)|fail) only [↓RBp,↓RA,↓reduceIte,Nat.reduceAdd,Nat.reduceMul,Nat.reduceEqDiff,RB,RX,RA2,dec_true hz]
  apply f28_l1_rule (I:=fun z w'=>∃j:Nat,z= .int .i64 (j:Int)∧j≤ks.length∧(∀q,(hq:q<ks.length)→q<j→ks[q]≠0∧ks[q]≤127)∧Ext (w.alloc (chO Y l c o g)) w') (μ:=fun z _=>ks.length-(Go.RowKit.intOf z).toNat)
  ·exact ⟨0,rfl,by omega,fun q _ h=>by omega,(by repeat (first|(with_reducible first|refine eB ?_ (by first|omega|(simp only [RZ]<;>omega)) _|assumption|exact eR _|refine eA ?_ _|refine eD ?_|refine eT ?_ (by assumption))|exact eR _))⟩
  ·intros;rename_i w1 hI E1 hE
   obtain ⟨j,rfl,hj,hgd,he1⟩:=hI
   have e1:Ext w w1:=e0.trans he1
   obtain ⟨c0,c1,c2,c3,c4⟩:=chCells he1
   by_cases hjl:j<ks.length
   ·obtain ⟨sb,so,sc,ev1,hc⟩:=(hk.ext e1).get (u8L_get hjl)
    injection ev1 with ev1 _ ev2;subst ev1;subst ev2
    have hkj:=hks ks[j] (List.getElem_mem hjl)
    have hb3:=hb2 j hjl
    have hgd':(ks[j]≠0∧ks[j]≤127)→∀q,(hq:q<ks.length)→q<j+1→ks[q]≠0∧ks[q]≤127:=by
     intro hh q hq hq1
     by_cases e:q=j
     ·subst e;exact hh
     ·exact hgd q hq (by omega)
    generalize ks[j]=x at hc hkj hb3 hgd'
    unfold f28_l1_t
    by_cases x0:x=0
    ·subst x0
     simp (disch:=first|omega|simp only [RO]|(simp only [RZ]<;>omega)|fail) only [↓RBp,↓RA,↓reduceIte,Nat.reduceAdd,Nat.reduceMul,Nat.reduceEqDiff,RB,RX,RA2,hc]
     exact hb3 (by simp) _ e1
    ·by_cases x1:x≤127
     ·simp (disch:=first|omega|simp only [RO]|(simp only [RZ]<;>omega)|fail) only [↓RBp,↓RA,↓reduceIte,Nat.reduceAdd,Nat.reduceMul,Nat.reduceEqDiff,RB,RX,RA2,hc]
      apply hE
      ·exact ⟨j+1,by simp,by omega,hgd' ⟨x0,x1⟩,he1⟩
      ·simp [Go.RowKit.intOf];omega
     ·simp (disch:=first|omega|simp only [RO]|(simp only [RZ]<;>omega)|fail) only [↓RBp,↓RA,↓reduceIte,Nat.reduceAdd,Nat.reduceMul,Nat.reduceEqDiff,RB,RX,RA2,hc]
      exact hb3 (by omega) _ e1
   ·have hjk:j=ks.length:=by omega
    subst hjk
    have hkin:∀k∈ks,k≠0∧k≤127:=by
     intro k hk
     obtain ⟨q,hq,rfl⟩:=List.mem_iff_getElem.1 hk
     exact hgd q hq hq
    unfold f28_l1_t
    simp (disch:=first|omega|simp only [RO]|(simp only [RZ]<;>omega)|fail) only [↓RBp,↓RA,↓reduceIte,Nat.reduceAdd,Nat.reduceMul,Nat.reduceEqDiff,RB,RX,RA2,c0,c1,c2,c3,c4,f28_k1_eq,f28_k1_t]
    refine k_once (h.ext (by repeat (first|(with_reducible first|refine eB ?_ (by first|omega|(simp only [RZ]<;>omega)) _|assumption|exact eR _|refine eA ?_ _|refine eD ?_|refine eT ?_ (by assumption))|exact eR _))) o g L M _ _ (hL.ext (by repeat (first|(with_reducible first|refine eB ?_ (by first|omega|(simp only [RZ]<;>omega)) _|assumption|exact eR _|refine eA ?_ _|refine eD ?_|refine eT ?_ (by assumption))|exact eR _))) (hM.ext (by repeat (first|(with_reducible first|refine eB ?_ (by first|omega|(simp only [RZ]<;>omega)) _|assumption|exact eR _|refine eA ?_ _|refine eD ?_|refine eT ?_ (by assumption))|exact eR _))) (by omega) (by omega) _ _ (by simp (disch:=first|omega|simp only [RO]|(simp only [RZ]<;>omega)|fail) only [↓RBp,↓RA,↓reduceIte,Nat.reduceAdd,Nat.reduceMul,Nat.reduceEqDiff,RB,RX,RA2]) (by simp (disch:=first|omega|simp only [RO]|(simp only [RZ]<;>omega)|fail) only [↓RBp,↓RA,↓reduceIte,Nat.reduceAdd,Nat.reduceMul,Nat.reduceEqDiff,RB,RX,RA2]) _ (fun w2 he2=> ?_)
    have e12:Ext w1 w2:=Ext.trans (by repeat (first|(with_reducible first|refine eB ?_ (by first|omega|(simp only [RZ]<;>omega)) _|assumption|exact eR _|refine eA ?_ _|refine eD ?_|refine eT ?_ (by assumption))|exact eR _)) he2
    have e2:Ext w w2:=e1.trans e12
    have he13:=he1.trans e12
    have ob6:=chCells he13;have d0:=ob6.1;have d1:=ob6.2.1;have d2:=ob6.2.2.1;have d3:=ob6.2.2.2.1;have d4:=ob6.2.2.2.2
    cases hon:((onc (perS c) L 0).bind (onc (perS c) M)).isSome with
    |false=>
     simp (disch:=first|omega|simp only [RO]|(simp only [RZ]<;>omega)|fail) only [↓RBp,↓RA,↓reduceIte,Nat.reduceAdd,Nat.reduceMul,Nat.reduceEqDiff,RB,RX,RA2]
     exact hbad (fun ha=>by have:=ha.onc;rw [hon] at this;cases this) _ e2
    |true=>
     have hA:ActA c L ks M:=⟨hln,hkin,hon⟩
     simp (disch:=first|omega|simp only [RO]|(simp only [RZ]<;>omega)|(with_reducible (repeat (first|assumption|exact Ext.refl _|refine Ext.alloc ?_ _|refine Ext.drew ?_|refine Ext.trans ?_ (by assumption))))|fail) only [↓RBp,↓RA,↓reduceIte,Nat.reduceAdd,Nat.reduceMul,Nat.reduceEqDiff,RB,RX,RA2,d0,d1,d2,d3,d4,her]
     refine k_changes (h.ext e2) o g L M ks _ _ _ (hL.ext e2) (hk.ext e2) (hM.ext e2) lL lM hln hks hA.vL hA.vM _ (fun hn w3 he3=> ?_) (fun ws hs v' w3 he3 hnv hsl=> ?_)
     ·have e3:=e2.trans he3
      have he14:=he13.trans he3
      have ob7:=chCells he14;have g0:=ob7.1;have g1:=ob7.2.1;have g2:=ob7.2.2.1;have g3:=ob7.2.2.2.1;have g4:=ob7.2.2.2.2
      simp (disch:=first|omega|simp only [RO]|(simp only [RZ]<;>omega)|(with_reducible (repeat (first|assumption|exact Ext.refl _|refine Ext.alloc ?_ _|refine Ext.drew ?_|refine Ext.trans ?_ (by assumption))))|fail) only [↓RBp,↓RA,↓reduceIte,Nat.reduceAdd,Nat.reduceMul,Nat.reduceEqDiff,RB,RX,RA2,g0,g1,g2,g3,g4,her]
      exact hno hA hn _ e3
     ·have e3:=e2.trans he3
      have he14:=he13.trans he3
      have ob8:=chCells he14;have g0:=ob8.1;have g1:=ob8.2.1;have g2:=ob8.2.2.1;have g3:=ob8.2.2.2.1;have g4:=ob8.2.2.2.2
      simp (disch:=first|omega|simp only [RO]|(simp only [RZ]<;>omega)|(with_reducible (repeat (first|assumption|exact Ext.refl _|refine Ext.alloc ?_ _|refine Ext.drew ?_|refine Ext.trans ?_ (by assumption))))|fail) only [↓RBp,↓RA,↓reduceIte,Nat.reduceAdd,Nat.reduceMul,Nat.reduceEqDiff,RB,RX,RA2,g0,g1,g2,g3,g4,her]
      exact hyes hA ws hs _ _ e3 (fun b hb=>Nat.le_trans e2.size (hnv b hb)) hsl
 ·have hnz:¬((ks.length:Nat):Int)=((L.length:Nat):Int):=by omega
  unfold f28_t
  simp (disch:=first|omega|simp only [RO]|(simp only [RZ]<;>omega)|fail) only [↓RBp,↓RA,↓reduceIte,Nat.reduceAdd,Nat.reduceMul,Nat.reduceEqDiff,RB,RX,RA2,dec_false hnz]
  exact hbad (fun ha=>hln ha.len) _ (by repeat (first|(with_reducible first|refine eB ?_ (by first|omega|(simp only [RZ]<;>omega)) _|assumption|exact eR _|refine eA ?_ _|refine eD ?_|refine eT ?_ (by assumption))|exact eR _))
end
end Go.Proofs.YtifpinhjpbgnoaaGreatDoor
namespace Go.Proofs.YtifpinhjpbgnoaaGreatDoor
open Go Go.Sh
set_option maxRecDepth 100000
set_option maxHeartbeats 4000000
set_option linter.unusedSimpArgs false
set_option linter.unusedVariables false
structure Lv (w0 w:World) (Y:Lay) (D:DS):Prop where
 dv:Dv w Y D
 gd:Good D
 ex:Ext w0 w
 nw:∀x,Y.F x→w0.heap.size≤x
section
variable {w0 w w':World} {Y Y':Lay} {D D':DS} {a b c g:Nat}
theorem Lv.ext (h:Lv w0 w Y D) (e:Ext w w'):Lv w0 w' Y D:=⟨h.dv.ext e,h.gd,h.ex.trans e,h.nw⟩
theorem Ext.frm {F:Nat→Prop} (h:Ext w0 w) (f:Frm F w w') (hF:∀x,F x→w0.heap.size≤x):Ext w0 w':=
 (Frm.trans (F:=Nob) (G:=F) (Frm.of_ext h) f (fun x hx hf=>by have:=hF x hf;omega)).to_ext (fun _ _ h=>h)
theorem Lv.step (h:Lv w0 w Y D) (s:Stp w Y w' Y' D') (g:Good D'):Lv w0 w' Y' D':=by
 refine ⟨s.dv,g,Ext.frm h.ex s.frm h.nw,fun x hx=> ?_⟩
 rcases s.fr x hx with h1|h1
 ·exact h.nw x h1
 ·exact Nat.le_trans h.ex.size h1
theorem Lv.frm {G:Nat→Prop} (h:Lv w0 w Y D) (f:Frm G w w') (hG:∀b,G b→b<w0.heap.size):Dv w' Y D:=
 h.dv.frm f (fun b hb hg=>by have:=h.nw b hb;have:=hG b hg;omega)
theorem Lv.out {v:Value} (h:Lv w0 w Y D) (hv:NewV w.heap.size v):∀b,v.ownBlock=some b→¬Y.F b:=fun b hb hf=>by
 have h1:=h.dv.lt hf;have h2:=hv b hb;omega
end
end Go.Proofs.YtifpinhjpbgnoaaGreatDoor
namespace Go.Proofs.YtifpinhjpbgnoaaGreatDoor
open Go Go.Sh
set_option maxRecDepth 100000
set_option linter.unusedVariables false
noncomputable def f91_u:Code×Dec:=((Tryz.f91.body).getD .skip,(.s .o (.s .o (.s .o (.x 40 (.s .o (.b (.l [6] 40 260160 .o))) (.x 40 (.s .o (.b (.l [7] 40 17179607168 .o))) .o))))))
abbrev f91_e (K:K1):KF:=endK Tryz.prog Tryz.f91.results.toList K
def f91_k1_o (K:K1):KF:=fun fr w=>∀σ,cP (pr (pr (pr (pr f91_u)))) (f91_e K) (f91_e K) nX (mixF 40 σ 0 fr) w
def f91_k1 (K:K1) (x3 x5:Value) (w:World):Prop:=f91_k1_o K (fz 39 0 [(3,x3),(5,x5)]) w
def f91_l1 (K:K1) (x3 x5 x6:Value) (w:World):Prop:=loopT [6] 40 (fun E=>cP (pl (pl (pr (pl (pr (pr (pr f91_u))))))) E (f91_e K) (exB 0 (f91_k1_o K) nX)) (fz 39 0 [(3,x3),(5,x5),(6,x6)]) w
def f91_k2_o (K:K1):KF:=fun fr w=>∀σ,cP (pr (pr (pr (pr (pr f91_u))))) (f91_e K) (f91_e K) nX (mixF 40 σ 0 fr) w
def f91_k2 (K:K1) (x3 x5:Value) (w:World):Prop:=f91_k2_o K (fz 39 0 [(3,x3),(5,x5)]) w
def f91_l2 (K:K1) (x3 x5 x7:Value) (w:World):Prop:=loopT [7] 40 (fun E=>cP (pl (pl (pr (pl (pr (pr (pr (pr f91_u)))))))) E (f91_e K) (exB 2 (f91_k2_o K) nX)) (fz 39 0 [(3,x3),(5,x5),(7,x7)]) w
def f91_k1_t (x3 x5:Value) (K:K1) (w:World):Prop:=
 f91_l2 K x3 x5 (.int .i64 0) w
theorem f91_k1_eq (K:K1) (x3 x5:Value) (w:World):f91_k1 K x3 x5 w=f91_k1_t x3 x5 K w:=cutE fun σ=>by kernel_rfl
def f91_l1_t (x3 x5 x6:Value) (K:K1) (E1:VP1) (w:World):Prop:=
 ev Tryz.prog (binM .lss 3 (.tmp 11) (.const (.int .i64 8)) x6 (.int .i64 8)) w fun t12 w_1=>
 cndS t12 (
 ev Tryz.prog (Instr.indexAt 39 x5 x6) w_1 fun t17 w_2=>
 stS Tryz.prog 30 t17 (.int .u64 ((0:Nat):Int)) w_2 fun w_3=>
 ev Tryz.prog (binM .add 3 (.tmp 13) (.const (.int .i64 1)) x6 (.int .i64 1)) w_3 fun t14 w_4=>
 E1 t14 w_4) (
 f91_k1 K x3 x5 w_1)
theorem f91_l1_rule (x3 x5 x6:Value) (K:K1) (w:World) (I:VP1) (μ:Value→World→Nat) (h0:I x6 w)
  (hr:∀(x6:Value) (w:World),I x6 w→∀E1:VP1,(∀(y6:Value) (w':World),I y6 w'→μ y6 w'<μ x6 w→E1 y6 w')→f91_l1_t x3 x5 x6 K E1 w):f91_l1 K x3 x5 x6 w:=
 ⟨I,μ,h0,fun σ w hI E hE=>cast (by kernel_rfl) (hr (σ 6) w hI E hE)⟩
def f91_k2_t (x3 x5:Value) (K:K1) (w:World):Prop:=
 ldS Tryz.prog 36 x3 w fun t35 w_1=>
 callS Tryz.prog 45 (pA #[t35]) w_1 fun t36 w_2=>
 ev Tryz.prog (Instr.indexAt 39 x5 (.int .i64 0)) w_2 fun t37 w_3=>
 stS Tryz.prog 30 t37 t36 w_3 fun w_4=>
 K x5 w_4
theorem f91_k2_eq (K:K1) (x3 x5:Value) (w:World):f91_k2 K x3 x5 w=f91_k2_t x3 x5 K w:=cutE fun σ=>by kernel_rfl
def f91_l2_t (x3 x5 x7:Value) (K:K1) (E1:VP1) (w:World):Prop:=
 ev Tryz.prog (Instr.fieldAt 36 x3 0) w fun t19 w_1=>
 ldS Tryz.prog 3 t19 w_1 fun t20 w_2=>
 callS Tryz.prog 114 (pA #[t20]) w_2 fun t21 w_3=>
 ev Tryz.prog (binM .lss 3 (.tmp 18) (.tmp 21) x7 t21) w_3 fun t22 w_4=>
 cndS t22 (
 rd Tryz.prog (Instr.fieldAt 36 x3 0) w_4.drew fun t26=>
 ldR Tryz.prog 3 t26 w_4.drew fun t27=>
 rd Tryz.prog (Instr.fieldAt 36 x3 2) w_4.drew fun t30=>
 ldR Tryz.prog 34 t30 w_4.drew fun t31=>
 callS Tryz.prog 116 (pA #[t27,x7]) w_4.drew fun t29 w_5=>
 (ag Tryz.prog (Instr.fieldAt 36 x3 2) w_5 t30)∧
 (ldG Tryz.prog 34 t30 w_5 t31)∧
 callS Tryz.prog 115 (pA #[t31,(.int .u8 ((0:Nat):Int)),(.int .u32 ((176:Nat):Int))]) w_5 fun t32 w_6=>
 rd Tryz.prog (Instr.indexAt 39 x5 t29) w_6 fun t33=>
 stS Tryz.prog 30 t33 t32 w_6 fun w_7=>
 ev Tryz.prog (binM .add 3 (.tmp 23) (.const (.int .i64 1)) x7 (.int .i64 1)) w_7 fun t24 w_8=>
 E1 t24 w_8) (
 f91_k2 K x3 x5 w_4)
theorem f91_l2_rule (x3 x5 x7:Value) (K:K1) (w:World) (I:VP1) (μ:Value→World→Nat) (h0:I x7 w)
  (hr:∀(x7:Value) (w:World),I x7 w→∀E1:VP1,(∀(y7:Value) (w':World),I y7 w'→μ y7 w'<μ x7 w→E1 y7 w')→f91_l2_t x3 x5 x7 K E1 w):f91_l2 K x3 x5 x7 w:=
 ⟨I,μ,h0,fun σ w hI E hE=>cast (by kernel_rfl) (hr (σ 7) w hI E hE)⟩
def f91_t (x0 x1:Value) (K:K1) (w:World):Prop:=
 ev Tryz.prog (Instr.box 36 x1) w fun t3 w_1=>
 bltS Tryz.prog .append #[39,39] 39 #[false,false] (pA #[(.slice none 0 0),x0]) w_1 fun t10 w_2=>
 f91_l1 K t3 t10 (.int .i64 1) w_2
theorem f91_call (x0 x1:Value) (K:K1) (w:World) (h:f91_t x0 x1 K w):callS Tryz.prog 91 #[x0,x1] w K:=
 call_of_txt (args:= [x0,x1]) mixed Tryz.func91 f91_u.2 (by kernel_rfl) (cast (by kernel_rfl) h)
noncomputable def f113_u:Code×Dec:=((Tryz.f113.body).getD .skip,(.s .o (.s .o (.x 64 (.s .o (.b (.l [6,7] 3 268435440 .o))) .o))))
abbrev f113_e (K:K1):KF:=endK Tryz.prog Tryz.f113.results.toList K
def f113_k1_o (K:K1):KF:=fun fr w=>∀σ,cP (pr (pr (pr f113_u))) (f113_e K) (f113_e K) nX (mixF 64 σ 0 fr) w
def f113_k1 (K:K1) (x6:Value) (w:World):Prop:=f113_k1_o K (fz 29 0 [(6,x6)]) w
def f113_l1 (K:K1) (x0 x1 x6 x7:Value) (w:World):Prop:=loopT [6,7] 3 (fun E=>cP (pl (pl (pr (pl (pr (pr f113_u)))))) E (f113_e K) (exB 0 (f113_k1_o K) nX)) (fz 29 0 [(0,x0),(1,x1),(6,x6),(7,x7)]) w
def f113_k1_t (x6:Value) (K:K1) (w:World):Prop:=
 K (.tuple #[x6,(.bool true)]) w
theorem f113_k1_eq (K:K1) (x6:Value) (w:World):f113_k1 K x6 w=f113_k1_t x6 K w:=cutE fun σ=>by kernel_rfl
def f113_l1_t (x0 x1 x6 x7:Value) (K:K1) (E1:VP2) (w:World):Prop:=
 callS Tryz.prog 114 (pA #[x1]) w fun t10 w_1=>
 ev Tryz.prog (binM .lss 3 (.tmp 8) (.tmp 10) x7 t10) w_1 fun t11 w_2=>
 cndS t11 (
 callS Tryz.prog 123 (pA #[x0,x1,x7,(.int .u32 ((176:Nat):Int))]) w_2 fun t17 w_3=>
 ev Tryz.prog (Op.unary .not t17) w_3 fun t18 w_4=>
 cndS t18 (
 K (.tuple #[(.int .u16 ((0:Nat):Int)),(.bool false)]) w_4) (
 callS Tryz.prog 116 (pA #[x1,x7]) w_4 fun t23 w_5=>
 ev Tryz.prog (Instr.indexAt 39 x0 t23) w_5 fun t24 w_6=>
 ldS Tryz.prog 30 t24 w_6 fun t25 w_7=>
 ev Tryz.prog (convert 30 34 t25) w_7 fun t26 w_8=>
 bltS Tryz.prog .max #[34,34] 34 #[false,false] #[x6,t26] w_8 fun t27 w_9=>
 ev Tryz.prog (binM .add 3 (.tmp 12) (.const (.int .i64 1)) x7 (.int .i64 1)) w_9 fun t13 w_10=>
 E1 t27 t13 w_10)) (
 f113_k1 K x6 w_2)
theorem f113_l1_rule (x0 x1 x6 x7:Value) (K:K1) (w:World) (I:VP2) (μ:Value→Value→World→Nat) (h0:I x6 x7 w)
  (hr:∀(x6 x7:Value) (w:World),I x6 x7 w→∀E1:VP2,(∀(y6 y7:Value) (w':World),I y6 y7 w'→μ y6 y7 w'<μ x6 x7 w→E1 y6 y7 w')→f113_l1_t x0 x1 x6 x7 K E1 w):f113_l1 K x0 x1 x6 x7 w:=
 ⟨I,μ,h0,fun σ w hI E hE=>cast (by kernel_rfl) (hr (σ 6) (σ 7) w hI E hE)⟩
def f113_t (x0 x1:Value) (K:K1) (w:World):Prop:=
 f113_l1 K x0 x1 (.int .u16 ((0:Nat):Int)) (.int .i64 0) w
theorem f113_call (x0 x1:Value) (K:K1) (w:World) (h:f113_t x0 x1 K w):callS Tryz.prog 113 #[x0,x1] w K:=
 call_of_txt (args:= [x0,x1]) mixed Tryz.func113 f113_u.2 (by kernel_rfl) (cast (by kernel_rfl) h)
end Go.Proofs.YtifpinhjpbgnoaaGreatDoor
namespace Go.Proofs.YtifpinhjpbgnoaaGreatDoor
open Go Go.Sh
set_option maxRecDepth 100000
set_option maxHeartbeats 4000000
set_option linter.unusedSimpArgs false
set_option linter.unusedVariables false
theorem applyH_val {ws:List (Nat×Nat)}:∀{f:Nat→Nat} {x v:Nat},(∀y∈ws,y.1/8=x→y.2=v)→((∃y∈ws,y.1/8=x)∨f x=v)→applyH ws f x=v:=by
 induction ws with
 |nil=>
  intro f x v _ h
  rcases h with ⟨y,hy,_⟩|h
  ·cases hy
  ·exact h
 |cons z ws ih=>
  intro f x v h1 h2
  rw [applyH_cons]
  refine ih (fun y hy=>h1 y (by simp [hy])) ?_
  by_cases hx:x=z.1/8
  ·right
   simp only [hx,if_true]
   exact h1 z (by simp) hx.symm
  ·rcases h2 with ⟨y,hy,hyx⟩|h2
   ·rcases List.mem_cons.1 hy with rfl|hy
    ·exact absurd hyx.symm hx
    ·exact .inl ⟨y,hy,hyx⟩
   ·right;simp only [hx,if_false];exact h2
def isB (c:Int) (j:Nat):Bool:=(List.range (perS c).toNat).any fun i=>offN c i==j
section
variable {l g:Nat} {c o:Int}
end
end Go.Proofs.YtifpinhjpbgnoaaGreatDoor
namespace Go.Proofs.YtifpinhjpbgnoaaGreatDoor
open Go Go.Sh
set_option maxRecDepth 100000
set_option maxHeartbeats 4000000
set_option linter.unusedSimpArgs false
set_option linter.unusedVariables false
abbrev chzO:Obj:= .cells #[.nilIface,.int .i64 0,.int .i64 0,.int .i64 0,.int .u16 ((0:Nat):Int)] 69
section
variable {w w':World} {Y:Lay} {D:DS}
end
end Go.Proofs.YtifpinhjpbgnoaaGreatDoor
namespace Go.Proofs.YtifpinhjpbgnoaaGreatDoor
open Go Go.Sh
set_option maxRecDepth 100000
set_option maxHeartbeats 4000000
set_option linter.unusedSimpArgs false
set_option linter.unusedVariables false
def DS.strs (D:DS) (ws:List (Nat×Nat)):DS:=D.run 0 (ws.map wrI)
theorem strs_good {D:DS} (g:Good D) {ws:List (Nat×Nat)} (h:∀x∈ws,x.1<18446744073709551616∧x.2<18446744073709551616):Good (D.strs ws):=by
 refine Good.run 0 (by omega) _ _ g (fun i hi=> ?_)
 obtain ⟨x,hx,rfl⟩:=List.mem_map.1 hi
 have:=h x hx
 exact ⟨by simp [wrI],by simp [wrI],this.1,this.2⟩
theorem strs_exe (D:DS) (ws:List (Nat×Nat)):(D.strs ws).exe≤D.exe+ws.length:=by
 have:=run_exe 0 (ws.map wrI) D
 rw [List.length_map] at this;exact this
theorem strs_on {D:DS} (h:On D) {ws:List (Nat×Nat)} (hv:∀x∈ws,x.1%8=0∧x.1<D.n*64):On (D.strs ws)∧(D.strs ws).cur=applyH ws D.cur:=On.runW ws D h hv
section
variable {w w':World} {Y:Lay} {D:DS}
theorem bit0 (i:Nat):bitB 0 i=false:=by simp [bitB]
end
end Go.Proofs.YtifpinhjpbgnoaaGreatDoor
namespace Go.Proofs.YtifpinhjpbgnoaaGreatDoor
open Go Go.Sh
set_option maxRecDepth 100000
set_option maxHeartbeats 4000000
set_option linter.unusedSimpArgs false
set_option linter.unusedVariables false
section
variable {w w':World} {Y Y':Lay} {D D':DS}
theorem Lv.cx {w0:World} {l:Nat} {c:Int} (h:Lv w0 w Y D) (hG:Glob w0) (on:D.off=false) (hl:l+32≤D.n) (c0:0≤c) (c5:c<5):Cx w Y D l c:=⟨h.dv,h.gd,hG.ext h.ex,on,hl,c0,c5⟩
theorem wr_get {ws:List (Nat×Nat)} {j:Nat} (h:j<ws.length):ws[j]? =some ws[j]:=List.getElem?_eq_getElem h
theorem wr_cells {v:Value} {ws:List (Nat×Nat)} (s:SlO w 80 2 v ws.length (wrL ws)) {j:Nat} (h:j<ws.length):∃b o cap,v= .slice (some ⟨b,o,none⟩) ws.length cap∧w.cell? ⟨b,o+j*2,none⟩=some (.int .u64 (ws[j].1:Int))∧w.cell? ⟨b,o+j*2+1,none⟩=some (.int .u64 (ws[j].2:Int)):=by
 obtain ⟨b,o,cap,rfl,_⟩:=s.isS (by omega)
 have hg:=wrL_get ws j ws[j] (wr_get h)
 refine ⟨b,o,cap,rfl,s.cell rfl hg.1,?_⟩
 have:=s.cell rfl hg.2
 rw [←Nat.add_assoc] at this;exact this
theorem one_get {x u:Value} {j:Nat} (h: [x][j]? =some u):j=0∧u=x:=by
 rcases j with _|j
 ·simp at h;exact ⟨rfl,h.symm⟩
 ·simp at h
end
end Go.Proofs.YtifpinhjpbgnoaaGreatDoor
namespace Go.Proofs.YtifpinhjpbgnoaaGreatDoor
open Go Go.Sh
set_option maxRecDepth 100000
set_option maxHeartbeats 4000000
set_option linter.unusedSimpArgs false
set_option linter.unusedVariables false
section
variable {w w':World} {Y Y':Lay} {D D':DS}
variable {c o:Int} {g:Nat}
end
end Go.Proofs.YtifpinhjpbgnoaaGreatDoor
namespace Go.Proofs.YtifpinhjpbgnoaaGreatDoor
open Go Go.Sh
set_option maxRecDepth 100000
set_option maxHeartbeats 4000000
set_option linter.unusedSimpArgs false
set_option linter.unusedVariables false
section
variable {w w':World} {Y:Lay} {D:DS} {l:Nat} {c o:Int} {g:Nat}
end
end Go.Proofs.YtifpinhjpbgnoaaGreatDoor
namespace Go.Proofs.YtifpinhjpbgnoaaGreatDoor
open Go Go.Sh
set_option maxRecDepth 100000
set_option maxHeartbeats 4000000
set_option linter.unusedSimpArgs false
set_option linter.unusedVariables false
section
variable {w w':World} {Y:Lay} {D:DS} {l:Nat} {c o:Int} {g:Nat}
theorem offN_eq {c:Int} (h0:0≤c) (h5:c<5):∃z n:Nat,wordsS c=(z:Int)∧perS c=(n:Int)∧n*(z+1)≤248∧3≤z∧z≤60∧∀k:Nat,offN c k=8+k*(z+1):=by
 have hw:=wordsS_in h0 h5
 have hp:=perS_in h0 h5
 obtain ⟨z,hz⟩:∃z:Nat,wordsS c=(z:Int):=⟨(wordsS c).toNat,by omega⟩
 have e:(248:Int)/((z:Int)+1)=((248/(z+1):Nat):Int):=by
  rw [Int.natCast_ediv];rfl
 refine ⟨z,248/(z+1),hz,by rw [hp.1,hz,e],Nat.div_mul_le_self _ _,by omega,by omega,fun k=> ?_⟩
 unfold offN offS
 rw [hz]
 have:(8+(k:Int)*((z:Int)+1))=((8+k*(z+1):Nat):Int):=by simp
 rw [this,Int.toNat_natCast]
theorem offN_inj {c:Int} (h0:0≤c) (h5:c<5) {j k:Nat} (h:offN c j=offN c k):j=k:=by
 obtain ⟨z,n,hz,hn,hzn,z3,z60,hof⟩:=offN_eq h0 h5
 rw [hof,hof] at h
 have:j*(z+1)=k*(z+1):=by omega
 exact Nat.eq_of_mul_eq_mul_right (by omega) this
end
end Go.Proofs.YtifpinhjpbgnoaaGreatDoor
namespace Go.Proofs.YtifpinhjpbgnoaaGreatDoor
open Go Go.Sh
set_option maxRecDepth 100000
set_option maxHeartbeats 4000000
set_option linter.unusedSimpArgs false
set_option linter.unusedVariables false
section
variable {w w':World} {Y:Lay} {D:DS} {l:Nat} {c o:Int} {g:Nat}
end
end Go.Proofs.YtifpinhjpbgnoaaGreatDoor
namespace Go.Proofs.YtifpinhjpbgnoaaGreatDoor
open Go Go.Sh
set_option maxRecDepth 100000
set_option maxHeartbeats 4000000
set_option linter.unusedSimpArgs false
set_option linter.unusedVariables false
section
variable {w w':World} {Y:Lay} {D:DS} {l:Nat} {c o:Int} {g:Nat}
end
end Go.Proofs.YtifpinhjpbgnoaaGreatDoor
namespace Go.Proofs.YtifpinhjpbgnoaaGreatDoor
open Go Go.Sh
set_option maxRecDepth 100000
set_option linter.unusedSimpArgs false
set_option linter.unusedVariables false
theorem bit_tb (x i:Nat):bitB x i=x.testBit i:=by unfold bitB;rw [Nat.testBit_eq_decide_div_mod_eq]
theorem bit_or (x y i:Nat):bitB (x|||y) i=(bitB x i||bitB y i):=by simp only [bit_tb,Nat.testBit_or]
theorem bit_pow (m i:Nat):bitB (2^m) i=decide (m=i):=by rw [bit_tb,Nat.testBit_two_pow]
theorem bit_clr (x m i:Nat) (hi:i<64):bitB (x&&&(18446744073709551615^^^2^m)) i=(bitB x i&& !decide (m=i)):=by
 have h:(18446744073709551615:Nat).testBit i=true:=by
  have:(18446744073709551615:Nat)=2^64-1:=by decide
  rw [this,Nat.testBit_two_pow_sub_one];simp [hi]
 simp only [bit_tb,Nat.testBit_and,Nat.testBit_xor,h,Nat.testBit_two_pow]
 cases x.testBit i<;>cases decide (m=i)<;>rfl
def hasI (L:List Int) (i:Nat):Bool:=L.any fun x=>decide (x.toNat=i)
theorem hasI_cons (x:Int) (L:List Int) (i:Nat):hasI (x::L) i=(decide (x.toNat=i)||hasI L i):=rfl
theorem hasI_mem {L:List Int} {i:Nat} (h:hasI L i=true):∃x∈L,x.toNat=i:=by
 unfold hasI at h;rw [List.any_eq_true] at h;obtain ⟨x,hx,he⟩:=h;exact ⟨x,hx,by simpa using he⟩
theorem hasI_of {L:List Int} {x:Int} (h:x∈L):hasI L x.toNat=true:=by
 unfold hasI;rw [List.any_eq_true];exact ⟨x,h,by simp⟩
theorem onc_spec {per:Int}:∀{L:List Int} {m m':Nat},onc per L m=some m'→(∀x∈L,bitB m x.toNat=false)∧(L.map Int.toNat).Nodup∧∀i,bitB m' i=(bitB m i||hasI L i):=by
 intro L
 induction L with
 |nil=>intro m m' h;injection h with h;subst h;exact ⟨fun x hx=>(by cases hx),by simp,fun i=>by simp [hasI]⟩
 |cons x L ih=>
  intro m m' h
  simp only [onc] at h
  split at h
  ·rename_i hx
   obtain ⟨h1,h2,h3⟩:=ih h
   refine ⟨fun y hy=> ?_,?_,fun i=> ?_⟩
   ·rcases List.mem_cons.1 hy with rfl|hy
    ·exact hx.2
    ·have:=h1 y hy;rw [bit_or] at this;simp at this;exact this.1
   ·rw [List.map_cons,List.nodup_cons]
    refine ⟨fun hm=> ?_,h2⟩
    obtain ⟨y,hy,he⟩:=List.mem_map.1 hm
    have:=h1 y hy
    rw [bit_or,he,bit_pow] at this;simp at this
   ·rw [h3,bit_or,bit_pow,hasI_cons,Bool.or_assoc]
  ·cases h
theorem ActA.nd {c:Int} {L M:List Int} {ks:List Nat} (h:ActA c L ks M):(L.map Int.toNat).Nodup∧(M.map Int.toNat).Nodup∧∀i,hasI L i=true→hasI M i=false:=by
 have h0:=h.onc
 cases h1:Go.Proofs.YtifpinhjpbgnoaaGreatDoor.onc (perS c) L 0 with
 |none=>rw [h1] at h0;cases h0
 |some m=>
  rw [h1,Option.bind_some] at h0
  cases h2:Go.Proofs.YtifpinhjpbgnoaaGreatDoor.onc (perS c) M m with
  |none=>rw [h2] at h0;cases h0
  |some m'=>
   obtain ⟨a1,a2,a3⟩:=onc_spec h1
   obtain ⟨b1,b2,b3⟩:=onc_spec h2
   refine ⟨a2,b2,fun i hi=> ?_⟩
   cases hM:hasI M i with
   |false=>rfl
   |true=>
    obtain ⟨x,hx,rfl⟩:=hasI_mem hM
    have:=b1 x hx
    rw [a3,hi] at this;simp at this
def zipW (D:DS) (l:Nat) (c:Int):List Int→List Nat→List (Nat×Nat)
 |x::L,k::ks=>tkW D l c x.toNat k::zipW D l c L ks
 |_,_=> []
def orL (L:List Int) (b:Nat):Nat:=L.foldl (fun b x=>b|||2^x.toNat) b
def dpL (D:DS) (l:Nat) (c:Int) (L:List Int) (b:Nat):Nat:=L.foldl (fun b x=>dpB D l c x.toNat b) b
theorem orL_cons (x:Int) (L:List Int) (b:Nat):orL (x::L) b=orL L (b|||2^x.toNat):=List.foldl_cons ..
theorem dpL_cons (D:DS) (l:Nat) (c:Int) (x:Int) (L:List Int) (b:Nat):dpL D l c (x::L) b=dpL D l c L (dpB D l c x.toNat b):=List.foldl_cons ..
def kOf:List Int→List Nat→Nat→Option Nat
 |x::L,k::ks,i=>if x.toNat=i then some k else kOf L ks i
 |_,_,_=>none
section
variable {D:DS} {l:Nat} {c o:Int}
theorem chT_spec:∀{L:List Int} {ks:List Nat} {acc:List (Nat×Nat)} {b:Nat} {r:List (Nat×Nat)×Nat},ks.length=L.length→chT D l c L ks acc b=some r→(∀x∈L,tkOk D l c x.toNat=true)∧r.1=acc++zipW D l c L ks∧r.2=orL L b:=by
 intro L
 induction L with
 |nil=>
  intro ks acc b r hk h
  have:ks= []:=by simpa using hk
  subst this
  simp only [chT] at h;injection h with h;subst h
  exact ⟨fun x hx=>(by cases hx),by simp [zipW],rfl⟩
 |cons x L ih=>
  intro ks acc b r hk h
  cases ks with
  |nil=>simp at hk
  |cons k ks=>
   simp only [chT] at h
   split at h
   ·rename_i hx
    obtain ⟨h1,h2,h3⟩:=ih (by simpa using hk) h
    refine ⟨fun y hy=> ?_,?_,by rw [orL_cons];exact h3⟩
    ·rcases List.mem_cons.1 hy with rfl|hy
     ·exact hx
     ·exact h1 y hy
    ·rw [h2,zipW,List.append_assoc];rfl
   ·cases h
theorem chDr_spec:∀{M:List Int} {acc:List (Nat×Nat)} {b:Nat} {r:List (Nat×Nat)×Nat},chDr D l c M acc b=some r→(∀x∈M,dpOk D l c x.toNat=true)∧r.1=acc++M.map (fun x=>dpW D l c x.toNat)∧r.2=dpL D l c M b:=by
 intro M
 induction M with
 |nil=>intro acc b r h;simp only [chDr] at h;injection h with h;subst h;exact ⟨fun x hx=>(by cases hx),by simp,rfl⟩
 |cons x M ih=>
  intro acc b r h
  simp only [chDr] at h
  split at h
  ·rename_i hx
   obtain ⟨h1,h2,h3⟩:=ih h
   refine ⟨fun y hy=> ?_,?_,by rw [dpL_cons];exact h3⟩
   ·rcases List.mem_cons.1 hy with rfl|hy
    ·exact hx
    ·exact h1 y hy
   ·rw [h2,List.map_cons,List.append_assoc];rfl
  ·cases h
theorem bit_orL:∀(L:List Int) (b i:Nat),bitB (orL L b) i=(bitB b i||hasI L i):=by
 intro L
 induction L with
 |nil=>intro b i;simp [orL,hasI]
 |cons x L ih=>intro b i;rw [orL_cons,ih,bit_or,bit_pow,hasI_cons,Bool.or_assoc]
theorem bit_dpL:∀(M:List Int) (b i:Nat),i<64→bitB (dpL D l c M b) i=(bitB b i&& !(hasI M i&&decide (freS (bG (wd D l (offN c i)))=176))):=by
 intro M
 induction M with
 |nil=>intro b i _;simp [dpL,hasI]
 |cons x M ih=>
  intro b i hi
  rw [dpL_cons,ih _ _ hi,hasI_cons]
  unfold dpB
  by_cases hx:x.toNat=i
  ·rw [hx]
   by_cases hf:freS (bG (wd D l (offN c i)))=176
   ·rw [if_pos hf,bit_clr _ _ _ hi];simp [hf]
   ·rw [if_neg hf];simp [hf]
  ·rw [decide_eq_false hx,Bool.false_or]
   split
   ·rw [bit_clr _ _ _ hi,decide_eq_false hx];simp
   ·rfl
theorem orL_lt:∀(L:List Int) (b:Nat),(∀x∈L,x.toNat<64)→b<18446744073709551616→orL L b<18446744073709551616:=by
 intro L
 induction L with
 |nil=>intro b _ h;exact h
 |cons x L ih=>intro b hx h;rw [orL_cons];exact ih _ (fun y hy=>hx y (by simp [hy])) (or_lt64 h (pow_lt64 (hx x (by simp))))
theorem dpL_lt:∀(M:List Int) (b:Nat),b<18446744073709551616→dpL D l c M b<18446744073709551616:=by
 intro M
 induction M with
 |nil=>intro b h;exact h
 |cons x M ih=>
  intro b h
  rw [dpL_cons]
  refine ih _ ?_
  unfold dpB
  split
  ·exact Nat.lt_of_le_of_lt Nat.and_le_left h
  ·exact h
theorem zipW_mem:∀{L:List Int} {ks:List Nat} {y:Nat×Nat},y∈zipW D l c L ks→∃x∈L,∃k∈ks,y=tkW D l c x.toNat k∧((L.map Int.toNat).Nodup→kOf L ks x.toNat=some k):=by
 intro L
 induction L with
 |nil=>intro ks y h;simp [zipW] at h
 |cons x L ih=>
  intro ks y h
  cases ks with
  |nil=>simp [zipW] at h
  |cons k ks=>
   simp only [zipW,List.mem_cons] at h
   rcases h with rfl|h
   ·exact ⟨x,by simp,k,by simp,rfl,fun _=>by simp [kOf]⟩
   ·obtain ⟨x',hx',k',hk',rfl,hof⟩:=ih h
    refine ⟨x',by simp [hx'],k',by simp [hk'],rfl,fun hn=> ?_⟩
    rw [List.map_cons,List.nodup_cons] at hn
    have hne:¬x.toNat=x'.toNat:=fun he=>hn.1 (by rw [he];exact List.mem_map.2 ⟨x',hx',rfl⟩)
    rw [kOf,if_neg hne];exact hof hn.2
theorem kOf_mem:∀{L:List Int} {ks:List Nat} {i k:Nat},kOf L ks i=some k→tkW D l c i k∈zipW D l c L ks∧hasI L i=true∧k∈ks:=by
 intro L
 induction L with
 |nil=>intro ks i k h;simp [kOf] at h
 |cons x L ih=>
  intro ks i k h
  cases ks with
  |nil=>simp [kOf] at h
  |cons k' ks=>
   simp only [kOf] at h
   split at h
   ·rename_i hx;injection h with h;subst h;subst hx
    exact ⟨by simp [zipW],by simp [hasI_cons],by simp⟩
   ·obtain ⟨h1,h2,h3⟩:=ih h
    exact ⟨by simp [zipW,h1],by simp [hasI_cons,h2],by simp [h3]⟩
theorem kOf_none:∀{L:List Int} {ks:List Nat} {i:Nat},ks.length=L.length→kOf L ks i=none→hasI L i=false:=by
 intro L
 induction L with
 |nil=>intro ks i _ _;rfl
 |cons x L ih=>
  intro ks i hk h
  cases ks with
  |nil=>simp at hk
  |cons k' ks=>
   simp only [kOf] at h
   split at h
   ·cases h
   ·rename_i hx;rw [hasI_cons,decide_eq_false hx,Bool.false_or];exact ih (by simpa using hk) h
def actX (D:DS) (l:Nat) (c:Int) (L:List Int) (ks:List Nat) (M:List Int) (i:Nat):Nat:=
 match kOf L ks i with
 |some k=>(tkW D l c i k).2
 |none=>if hasI M i=true then (dpW D l c i).2 else wd D l (offN c i)
theorem actN_spec {L M:List Int} {ks:List Nat} {ws:List (Nat×Nat)} (hk:ks.length=L.length) (h:actN D l c L ks M=some ws):(∀x∈L,tkOk D l c x.toNat=true)∧(∀x∈M,dpOk D l c x.toNat=true)∧((ws= []∧L= []∧M= [])∨ws=zipW D l c L ks++M.map (fun x=>dpW D l c x.toNat)++ [(l*64+8,dpL D l c M (orL L (wd D l 1)))]):=by
 unfold actN at h
 split at h
 ·rename_i h0
  injection h with h
  have e1:L= []:=by simpa using h0.1
  have e2:M= []:=by simpa using h0.2
  subst e1;subst e2
  exact ⟨fun x hx=>(by cases hx),fun x hx=>(by cases hx),.inl ⟨h.symm,rfl,rfl⟩⟩
 ·cases h1:chT D l c L ks [] (wd D l 1) with
  |none=>rw [h1] at h;cases h
  |some r=>
   obtain ⟨a1,a2,a3⟩:=chT_spec hk h1
   obtain ⟨r1,r2⟩:=r
   rw [h1] at h
   simp only at h a2 a3
   cases h2:chDr D l c M r1 r2 with
   |none=>rw [h2] at h;cases h
   |some q=>
    obtain ⟨b1,b2,b3⟩:=chDr_spec h2
    obtain ⟨q1,q2⟩:=q
    rw [h2] at h
    simp only at h b2 b3
    injection h with h
    refine ⟨a1,b1,.inr ?_⟩
    rw [←h,b2,b3,a2,a3,List.nil_append]
end
structure ActE (D D':DS) (l:Nat) (c:Int) (L:List Int) (ks:List Nat) (M:List Int) (ws:List (Nat×Nat)):Prop where
 ok:∀x∈ws,x.1%8=0∧x.1<D.n*64∧x.2<18446744073709551616
 on:On D'
 rest:∀j,j<256→(∀i:Nat,(i:Int)<perS c→j≠offN c i)→j≠1→wd D' l j=wd D l j
 blk:∀i:Nat,(i:Int)<perS c→wd D' l (offN c i)=actX D l c L ks M i
 map:wd D' l 1=dpL D l c M (orL L (wd D l 1))
 far:∀j,(j<l*8∨l*8+256≤j)→D'.cur j=D.cur j
 len:ws.length≤L.length+M.length+1
 tk:∀x∈L,tkOk D l c x.toNat=true
 dp:∀x∈M,dpOk D l c x.toNat=true
theorem act_wd {D:DS} {l:Nat} {c:Int} (on:On D) (hg:Good D) (hl:l+32≤D.n) (c0:0≤c) (c5:c<5) {L M:List Int} {ks:List Nat} {ws:List (Nat×Nat)} (ha:ActA c L ks M) (hs:actN D l c L ks M=some ws):ActE D (D.strs ws) l c L ks M ws:=by
 have hn:=hg.n
 have hp:=perS_in c0 c5
 obtain ⟨h1,h2,h3⟩:=actN_spec ha.len hs
 have vL:=ha.vL
 have vM:=ha.vM
 obtain ⟨n1,n2,n3⟩:=ha.nd
 have hw1:wd D l 1<18446744073709551616:=by unfold wd;exact hg.cur _ (by omega)
 have zl:∀(L:List Int) (ks:List Nat),(zipW D l c L ks).length≤L.length:=by
  intro L
  induction L with
  |nil=>intro ks;simp [zipW]
  |cons x L ih=>intro ks;cases ks with
   |nil=>simp [zipW]
   |cons k ks=>simp only [zipW,List.length_cons];have:=ih ks;omega
 have tkw:∀x∈L,∀k∈ks,(tkW D l c x.toNat k).1=l*64+offN c x.toNat*8∧(tkW D l c x.toNat k).2<18446744073709551616:=fun x hx k hk=>⟨rfl,sealN_lt _ (blkX_lt (bG_lt _) (by have:=(ha.kin k hk).2;omega) (by omega))⟩
 have dpw:∀x∈M,(dpW D l c x.toNat).1=l*64+offN c x.toNat*8∧(dpW D l c x.toNat).2<18446744073709551616:=fun x hx=>⟨rfl,sealN_lt _ (blkX_lt (freG_lt (bG_lt _)) (by omega) (freS_lt _))⟩
 have bdi:∀x:Int,0≤x∧x<perS c→8≤offN c x.toNat∧offN c x.toNat<256∧(x.toNat:Int)<perS c:=fun x hx=>by
  have:=offN_bd c0 c5 (i:=x.toNat) (by omega)
  omega
 have mem:∀y∈ws,(∃x∈L,∃k∈ks,y=tkW D l c x.toNat k∧kOf L ks x.toNat=some k)∨(∃x∈M,y=dpW D l c x.toNat)∨y=(l*64+8,dpL D l c M (orL L (wd D l 1))):=by
  intro y hy
  rcases h3 with ⟨rfl,_⟩|rfl
  ·cases hy
  ·simp only [List.mem_append,List.mem_map,List.mem_singleton] at hy
   rcases hy with (hy|⟨x,hx,rfl⟩)|rfl
   ·obtain ⟨x,hx,k,hk,e,hf⟩:=zipW_mem hy
    exact .inl ⟨x,hx,k,hk,e,hf n1⟩
   ·exact .inr (.inl ⟨x,hx,rfl⟩)
   ·exact .inr (.inr rfl)
 have ok:∀x∈ws,x.1%8=0∧x.1<D.n*64∧x.2<18446744073709551616:=by
  intro y hy
  rcases mem y hy with ⟨x,hx,k,hk,rfl,_⟩|⟨x,hx,rfl⟩|rfl
  ·have:=tkw x hx k hk;have:=bdi x (vL x hx);omega
  ·have:=dpw x hx;have:=bdi x (vM x hx);omega
  ·exact ⟨by simp only;omega,by simp only;omega,dpL_lt _ _ (orL_lt _ _ (fun x hx=>by have:=vL x hx;omega) hw1)⟩
 obtain ⟨o1,o2⟩:=strs_on on (fun x hx=>⟨(ok x hx).1,(ok x hx).2.1⟩)
 refine ⟨ok,o1,fun j hj hji hj1=> ?_,fun i hi=> ?_,?_,fun j hj=> ?_,?_,h1,h2⟩
 ·unfold wd;rw [o2]
  refine applyH_other _ _ _ (fun y hy=> ?_)
  rcases mem y hy with ⟨x,hx,k,hk,rfl,_⟩|⟨x,hx,rfl⟩|rfl
  ·have h4:=bdi x (vL x hx);have:=hji _ h4.2.2;rw [(tkw x hx k hk).1];omega
  ·have h4:=bdi x (vM x hx);have:=hji _ h4.2.2;rw [(dpw x hx).1];omega
  ·simp only;omega
 ·have bd:=offN_bd c0 c5 hi
  have inj:∀x:Int,0≤x∧x<perS c→l*64+offN c x.toNat*8=(l*8+offN c i)*8→x.toNat=i:=fun x hx he=>offN_inj c0 c5 (by omega)
  unfold wd;rw [o2];unfold actX
  cases hk:kOf L ks i with
  |some k=>
   obtain ⟨k1,k2,k3⟩:=kOf_mem (D:=D) (l:=l) (c:=c) hk
   have hm:=n3 i k2
   refine applyH_val (fun y hy he=> ?_) (.inl ⟨tkW D l c i k,?_,by show (l*64+offN c i*8)/8=_;omega⟩)
   ·rcases mem y hy with ⟨x,hx,k',hk',rfl,hf⟩|⟨x,hx,rfl⟩|rfl
    ·have:=inj x (vL x hx) (by rw [(tkw x hx k' hk').1] at he;omega)
     subst this
     rw [hk] at hf;injection hf with hf;subst hf;rfl
    ·have:=inj x (vM x hx) (by rw [(dpw x hx).1] at he;omega)
     subst this
     rw [hasI_of hx] at hm;cases hm
    ·simp only at he;omega
   ·rcases h3 with ⟨_,e,_⟩|rfl
    ·rw [e] at k2;cases k2
    ·simp [k1]
  |none=>
   have hLn:=kOf_none ha.len hk
   by_cases hm:hasI M i=true
   ·rw [if_pos hm]
    obtain ⟨x0,hx0,e0⟩:=hasI_mem hm
    refine applyH_val (fun y hy he=> ?_) (.inl ⟨dpW D l c i,?_,by show (l*64+offN c i*8)/8=_;omega⟩)
    ·rcases mem y hy with ⟨x,hx,k',hk',rfl,hf⟩|⟨x,hx,rfl⟩|rfl
     ·have:=inj x (vL x hx) (by rw [(tkw x hx k' hk').1] at he;omega)
      subst this
      rw [hasI_of hx] at hLn;cases hLn
     ·have:=inj x (vM x hx) (by rw [(dpw x hx).1] at he;omega)
      subst this;rfl
     ·simp only at he;omega
    ·rcases h3 with ⟨_,_,e⟩|rfl
     ·rw [e] at hx0;cases hx0
     ·have:dpW D l c i∈M.map (fun x=>dpW D l c x.toNat):=List.mem_map.2 ⟨x0,hx0,by rw [e0]⟩
      simp only [List.mem_append];exact .inl (.inr this)
   ·rw [if_neg hm]
    unfold wd
    refine applyH_other _ _ _ (fun y hy he=> ?_)
    rcases mem y hy with ⟨x,hx,k',hk',rfl,hf⟩|⟨x,hx,rfl⟩|rfl
    ·have:=inj x (vL x hx) (by rw [(tkw x hx k' hk').1] at he;omega)
     subst this
     rw [hasI_of hx] at hLn;cases hLn
    ·have:=inj x (vM x hx) (by rw [(dpw x hx).1] at he;omega)
     subst this;exact hm (hasI_of hx)
    ·simp only at he;omega
 ·rcases h3 with ⟨rfl,rfl,rfl⟩|e
  ·unfold wd;rw [o2];rfl
  ·have:wd (D.strs ws) l 1=applyH ws D.cur (l*8+1):=by unfold wd;rw [o2]
   rw [this]
   refine applyH_val (fun y hy he=> ?_) (.inl ⟨(l*64+8,dpL D l c M (orL L (wd D l 1))),by rw [e];simp,by simp only;omega⟩)
   rcases mem y hy with ⟨x,hx,k',hk',rfl,hf⟩|⟨x,hx,rfl⟩|rfl
   ·have h4:=bdi x (vL x hx);rw [(tkw x hx k' hk').1] at he;omega
   ·have h4:=bdi x (vM x hx);rw [(dpw x hx).1] at he;omega
   ·rfl
 ·rw [o2]
  refine applyH_other _ _ _ (fun y hy=> ?_)
  rcases mem y hy with ⟨x,hx,k,hk,rfl,_⟩|⟨x,hx,rfl⟩|rfl
  ·have h4:=bdi x (vL x hx);rw [(tkw x hx k hk).1];omega
  ·have h4:=bdi x (vM x hx);rw [(dpw x hx).1];omega
  ·simp only;omega
 ·rcases h3 with ⟨rfl,_⟩|rfl
  ·simp
  ·have:=zl L ks;simp;omega
end Go.Proofs.YtifpinhjpbgnoaaGreatDoor
namespace Go.Proofs.YtifpinhjpbgnoaaGreatDoor
open Go Go.Sh
set_option maxRecDepth 100000
set_option linter.unusedSimpArgs false
set_option linter.unusedVariables false
structure Snd (D:DS) (l:Nat) (c o:Int):Prop where
 hd:hdOk (wd D l 0)=true
 hc:hC (wd D l 0)=c
 ho:hO (wd D l 0)=o
 zer:∀j,2≤j→j<8→wd D l j=0
 sl:∀i:Nat,(i:Int)<perS c→isS (wd D l (offN c i))=true
 gd:∀i:Nat,(i:Int)<perS c→goodB (bG (wd D l (offN c i))) (bK (wd D l (offN c i))) (bS (wd D l (offN c i)))=true
 bit:∀i:Nat,i<64→bitB (wd D l 1) i=(decide ((i:Int)<perS c)&& !decide (bS (wd D l (offN c i))=176))
section
variable {D D':DS} {l:Nat} {c o:Int}
theorem good_g {g k s:Nat} (h:goodB g k s=true):g≠0:=by
 unfold goodB at h
 split at h
 ·simp at h;exact h.1
 ·split at h
  ·simp at h;exact h.1.1
  ·split at h
   ·simp at h;omega
   ·cases h
theorem good_fre (g:Nat):goodB (freG g) 0 (freS g)=true:=by
 unfold freG freS goodB
 by_cases h:g=65535
 ·simp [h]
 ·simp [h]
theorem tk_parts {i:Nat} (h:tkOk D l c i=true):isS (wd D l (offN c i))=true∧bitB (wd D l 1) i=false∧bS (wd D l (offN c i))=176∧goodB (bG (wd D l (offN c i))) (bK (wd D l (offN c i))) (bS (wd D l (offN c i)))=true:=by
 unfold tkOk at h
 simp only [Bool.and_eq_true,Bool.not_eq_true',decide_eq_true_eq] at h
 exact h
theorem dp_parts {i:Nat} (h:dpOk D l c i=true):isS (wd D l (offN c i))=true∧bitB (wd D l 1) i=true∧bS (wd D l (offN c i))=177:=by
 unfold dpOk at h
 simp only [Bool.and_eq_true,decide_eq_true_eq] at h
 exact h
theorem tkW_parts (i k:Nat) (hk:k<256):isS (tkW D l c i k).2=true∧bG (tkW D l c i k).2=bG (wd D l (offN c i))∧bK (tkW D l c i k).2=k∧bS (tkW D l c i k).2=177:=⟨isS_blk (bG_lt _) hk (by omega),bG_blk (bG_lt _) hk (by omega),bK_blk (bG_lt _) hk (by omega),bS_blk (bG_lt _) hk (by omega)⟩
theorem dpW_parts (i:Nat):isS (dpW D l c i).2=true∧bG (dpW D l c i).2=freG (bG (wd D l (offN c i)))∧bK (dpW D l c i).2=0∧bS (dpW D l c i).2=freS (bG (wd D l (offN c i))):=⟨isS_blk (freG_lt (bG_lt _)) (by omega) (freS_lt _),bG_blk (freG_lt (bG_lt _)) (by omega) (freS_lt _),bK_blk (freG_lt (bG_lt _)) (by omega) (freS_lt _),bS_blk (freG_lt (bG_lt _)) (by omega) (freS_lt _)⟩
theorem Snd.act {L M:List Int} {ks:List Nat} {ws:List (Nat×Nat)} (h:Snd D l c o) (c0:0≤c) (c5:c<5) (ha:ActA c L ks M) (e:ActE D D' l c L ks M ws):Snd D' l c o:=by
 have bd:=fun (i:Nat) (hi:(i:Int)<perS c)=>offN_bd c0 c5 hi
 have r:∀j,j<8→j≠1→wd D' l j=wd D l j:=fun j hj h1=>e.rest j (by omega) (fun i hi=>by have:=bd i hi;omega) h1
 have r0:=r 0 (by omega) (by omega)
 obtain ⟨n1,n2,n3⟩:=ha.nd
 have kk:∀{i k:Nat},kOf L ks i=some k→k≠0∧k≤127∧tkOk D l c i=true∧hasI L i=true∧hasI M i=false:=fun {i k} hk=>by
  obtain ⟨k1,k2,k3⟩:=kOf_mem (D:=D) (l:=l) (c:=c) hk
  obtain ⟨x,hx,rfl⟩:=hasI_mem k2
  exact ⟨(ha.kin k k3).1,(ha.kin k k3).2,e.tk x hx,k2,n3 _ k2⟩
 have mm:∀{i:Nat},hasI M i=true→dpOk D l c i=true:=fun {i} hm=>by obtain ⟨x,hx,rfl⟩:=hasI_mem hm;exact e.dp x hx
 refine ⟨by rw [r0];exact h.hd,by rw [r0];exact h.hc,by rw [r0];exact h.ho,fun j h2 h8=>by rw [r j h8 (by omega)];exact h.zer j h2 h8,fun i hi=> ?_,fun i hi=> ?_,fun i h64=> ?_⟩
 ·rw [e.blk i hi];unfold actX
  cases hk:kOf L ks i with
  |some k=>exact (tkW_parts i k (by have:=kk hk;omega)).1
  |none=>
   simp only
   split
   ·exact (dpW_parts i).1
   ·exact h.sl i hi
 ·rw [e.blk i hi];unfold actX
  cases hk:kOf L ks i with
  |some k=>
   have h1:=kk hk
   obtain ⟨_,a,b,d⟩:=tkW_parts (D:=D) (l:=l) (c:=c) i k (by omega)
   simp only [a,b,d]
   have hg:=good_g (tk_parts h1.2.2.1).2.2.2
   simp [goodB,hg,h1.1,h1.2.1]
  |none=>
   simp only
   split
   ·obtain ⟨_,a,b,d⟩:=dpW_parts (D:=D) (l:=l) (c:=c) i
    rw [a,b,d];exact good_fre _
   ·exact h.gd i hi
 ·rw [e.map,bit_dpL _ _ _ h64,bit_orL,h.bit i h64]
  by_cases hi:(i:Int)<perS c
  ·rw [e.blk i hi,decide_eq_true hi];unfold actX
   cases hk:kOf L ks i with
   |some k=>
    have h1:=kk hk
    simp only [h1.2.2.2.1,h1.2.2.2.2,(tkW_parts (D:=D) (l:=l) (c:=c) i k (by omega)).2.2.2]
    simp
   |none=>
    have hL:=kOf_none ha.len hk
    simp only [hL]
    by_cases hm:hasI M i=true
    ·have h1:=dp_parts (mm hm)
     have h2:=h.bit i h64
     rw [h1.2.1,decide_eq_true hi,Bool.true_and] at h2
     simp only [hm,if_true,(dpW_parts (D:=D) (l:=l) (c:=c) i).2.2.2,←h2]
     simp
    ·have hm:hasI M i=false:=by simpa using hm
     simp [hm]
  ·have hL:hasI L i=false:=by
    cases hh:hasI L i with
    |false=>rfl
    |true=>obtain ⟨x,hx,rfl⟩:=hasI_mem hh;have:=ha.vL x hx;omega
   have hM:hasI M i=false:=by
    cases hh:hasI M i with
    |false=>rfl
    |true=>obtain ⟨x,hx,rfl⟩:=hasI_mem hh;have:=ha.vM x hx;omega
   simp [hL,hM,hi]
end
end Go.Proofs.YtifpinhjpbgnoaaGreatDoor
namespace Go.Proofs.YtifpinhjpbgnoaaGreatDoor
open Go Go.Sh
set_option maxRecDepth 100000
set_option linter.unusedSimpArgs false
set_option linter.unusedVariables false
def chF (T l:Nat) (c o:Int) (g:Nat) (i:Nat):Value:= [Value.iface 25 (.pointer (some ⟨T,0,none⟩)),.int .i64 (l:Int),.int .i64 c,.int .i64 o,.int .u16 (g:Int)].getD i undef
structure Loc (w0 w:World) (Y:Lay) (D:DS) (B l:Nat) (c o:Int) (g:Nat):Prop where
 L:Lv w0 w Y D
 bx:Cells w B 69 5 (chF (Y.tb 0) l c o g)
 nb:¬Y.F B
 on:On D
 lt:l+32≤D.n
 gl:Glob w0
 c0:0≤c
 c5:c<5
def Out (w0:World) (Y:Lay) (B:Nat) (v:Value):Prop:=∀b,v.ownBlock=some b→w0.heap.size≤b∧¬Y.F b∧b≠B
section
variable {w0 w w':World} {Y Y':Lay} {D D':DS} {B l:Nat} {c o:Int} {g:Nat}
theorem Loc.ext (h:Loc w0 w Y D B l c o g) (e:Ext w w'):Loc w0 w' Y D B l c o g:=⟨h.L.ext e,h.bx.ext e,h.nb,h.on,h.lt,h.gl,h.c0,h.c5⟩
theorem Loc.step (h:Loc w0 w Y D B l c o g) (s:Stp w Y w' Y' D') (gd:Good D') (on:On D') (hn:D'.n=D.n):Loc w0 w' Y' D' B l c o g:=by
 have tb:Y'.tb 0=Y.tb 0:=by rw [s.tb]
 refine ⟨h.L.step s gd,?_,fun hf=> ?_,on,by rw [hn];exact h.lt,h.gl,h.c0,h.c5⟩
 ·rw [tb];exact h.bx.frm s.frm h.nb
 ·rcases s.fr B hf with h1|h1
  ·exact h.nb h1
  ·have:=h.bx.lt;omega
theorem Loc.cx (h:Loc w0 w Y D B l c o g):Cx w Y D l c:=h.L.cx h.gl h.on.off h.lt h.c0 h.c5
theorem Loc.cells (h:Loc w0 w Y D B l c o g):w.cell? ⟨B,0,none⟩=some (.iface 25 (.pointer (some ⟨Y.tb 0,0,none⟩)))∧w.cell? ⟨B,1,none⟩=some (.int .i64 (l:Int))∧w.cell? ⟨B,2,none⟩=some (.int .i64 c)∧w.cell? ⟨B,3,none⟩=some (.int .i64 o)∧w.cell? ⟨B,4,none⟩=some (.int .u16 (g:Int)):=
 ⟨h.bx.cell (i:=0) (by omega),h.bx.cell (i:=1) (by omega),h.bx.cell (i:=2) (by omega),h.bx.cell (i:=3) (by omega),h.bx.cell (i:=4) (by omega)⟩
theorem Loc.ltB (h:Loc w0 w Y D B l c o g):B<w.heap.size:=h.bx.lt
theorem Loc.frm {G:Nat→Prop} (h:Loc w0 w Y D B l c o g) (f:Frm G w w') (hG:∀b,G b→w0.heap.size≤b∧¬Y.F b∧b≠B):Loc w0 w' Y D B l c o g:=
 ⟨⟨h.L.dv.frm f (fun b hb hg=>(hG b hg).2.1 hb),h.L.gd,Ext.frm h.L.ex f (fun x hx=>(hG x hx).1),h.L.nw⟩,h.bx.frm f (fun hb=>(hG B hb).2.2 rfl),h.nb,h.on,h.lt,h.gl,h.c0,h.c5⟩
theorem Out.step {v:Value} {t:TypeId} {z n:Nat} {L:List Value} (h:Out w0 Y B v) (hs:SlO w t z v n L) (s:Stp w Y w' Y' D'):Out w0 Y' B v∧SlO w' t z v n L:=by
 refine ⟨fun b hb=>⟨(h b hb).1,fun hf=> ?_,(h b hb).2.2⟩,hs.frm s.frm (fun b hb=>(h b hb).2.1)⟩
 rcases s.fr b hf with h1|h1
 ·exact (h b hb).2.1 h1
 ·have:=hs.lt hb;omega
theorem Out.nil (w0:World) (Y:Lay) (B:Nat):Out w0 Y B (.slice none 0 0):=fun b hb=>by cases hb
theorem Out.new {v:Value} (h:Loc w0 w Y D B l c o g) (hv:NewV w.heap.size v):Out w0 Y B v:=fun b hb=>by
 have h1:=hv b hb
 have h2:=h.ltB
 have h3:=h.L.ex.size
 exact ⟨by omega,fun hf=>by have:=h.L.dv.lt hf;omega,by omega⟩
theorem Loc.er (h:Loc w0 w Y D B l c o g):∀(w1:World) (K:K1),Ext w w1→callS Tryz.prog 19 #[.pointer (some ⟨Y.tb 0,0,none⟩)] w1 K=K (.int .i64 0) w1:=fun w1 K e=>by rw [c_Err (h.L.dv.ext e) 0 (by omega) K,h.on.err]
end
end Go.Proofs.YtifpinhjpbgnoaaGreatDoor
namespace Go.Proofs.YtifpinhjpbgnoaaGreatDoor
open Go Go.Sh
set_option maxRecDepth 100000
set_option linter.unusedVariables false
noncomputable def f14_u:Code×Dec:=((Tryz.f14.body).getD .skip,(.s .o (.s .o (.s .o (.s .o (.x 512 (.s .o (.b (.l [29] 268435971 2305843008676838592 .o))) .o))))))
abbrev f14_e (K:K1):KF:=endK Tryz.prog Tryz.f14.results.toList K
def f14_k1_o (K:K1):KF:=fun fr w=>∀σ,cP (pr (pr (pr (pr (pr f14_u))))) (f14_e K) (f14_e K) nX (mixF 512 σ 0 fr) w
def f14_k1 (K:K1) (x9:Value) (w:World):Prop:=f14_k1_o K (fz 62 0 [(9,x9)]) w
def f14_l1 (K:K1) (x0 x1 x9 x28 x29:Value) (w:World):Prop:=loopT [29] 268435971 (fun E=>cP (pl (pl (pr (pl (pr (pr (pr (pr f14_u)))))))) E (f14_e K) (exB 0 (f14_k1_o K) nX)) (fz 62 0 [(0,x0),(1,x1),(9,x9),(28,x28),(29,x29)]) w
def f14_k1_t (x9:Value) (K:K1) (w:World):Prop:=
 K (.tuple #[x9,(.int .i64 0)]) w
theorem f14_k1_eq (K:K1) (x9:Value) (w:World):f14_k1 K x9 w=f14_k1_t x9 K w:=cutE fun σ=>by kernel_rfl
def f14_l1_t (x0 x1 x9 x28 x29:Value) (K:K1) (E1:VP1) (w:World):Prop:=
 ev Tryz.prog (binM .lss 3 (.tmp 29) (.tmp 28) x29 x28) w fun t30 w_1=>
 cndS t30 (
 ev Tryz.prog (binM .mul 3 (.tmp 33) (.const (.int .i64 32)) x29 (.int .i64 32)) w_1 fun t34 w_2=>
 ev Tryz.prog (binM .add 3 (.tmp 32) (.tmp 34) x1 t34) w_2 fun t35 w_3=>
 callS Tryz.prog 48 (pA #[x0,t35]) w_3 fun t39 w_4=>
 ev Tryz.prog (Instr.extract t39 0) w_4 fun t40 w_5=>
 ev Tryz.prog (Instr.extract t39 1) w_5 fun t41 w_6=>
 ev Tryz.prog (Instr.alloc 67 true (.tuple #[])) w_6 fun t12 w_7=>
 stS Tryz.prog 67 t12 t40 w_7 fun w_8=>
 ev Tryz.prog (binM .neq 43 (.tmp 42) (.const (.int .i64 0)) t41 (.int .i64 0)) w_8 fun t43 w_9=>
 cndS t43 (
 K (.tuple #[(.pointer none),t41]) w_9) (
 nilR Tryz.prog x9 w_9.drew fun t47=>
 rd Tryz.prog (Instr.fieldAt 108 t47 1) w_9.drew fun t48=>
 ldR Tryz.prog 106 t48 w_9.drew fun t49=>
 rd Tryz.prog (Instr.fieldAt 67 t12 0) w_9.drew fun t51=>
 ldR Tryz.prog 3 t51 w_9.drew fun t52=>
 rd Tryz.prog (Instr.fieldAt 67 t12 1) w_9.drew fun t53=>
 ldR Tryz.prog 3 t53 w_9.drew fun t54=>
 rd Tryz.prog (Instr.build 112 #[(0,t35),(1,t52),(2,t54)]) w_9.drew fun t55=>
 ev Tryz.prog (Instr.buildSlice 106 1 #[(0,t55)]) w_9.drew fun t56 w_10=>
 (nilR Tryz.prog x9 w_10 (fun u=>u=t47))∧
 (ag Tryz.prog (Instr.fieldAt 108 t47 1) w_10 t48)∧
 (ldG Tryz.prog 106 t48 w_10 t49)∧
 bltS Tryz.prog .append #[106,106] 106 #[false,false] (pA #[t49,t56]) w_10 fun t57 w_11=>
 nilR Tryz.prog x9 w_11 fun t58=>
 rd Tryz.prog (Instr.fieldAt 108 t58 1) w_11 fun t59=>
 stS Tryz.prog 106 t59 t57 w_11 fun w_12=>
 ev Tryz.prog (binM .add 3 (.tmp 29) (.const (.int .i64 1)) x29 (.int .i64 1)) w_12 fun t60 w_13=>
 E1 t60 w_13)) (
 f14_k1 K x9 w_1)
theorem f14_l1_rule (x0 x1 x9 x28 x29:Value) (K:K1) (w:World) (I:VP1) (μ:Value→World→Nat) (h0:I x29 w)
  (hr:∀(x29:Value) (w:World),I x29 w→∀E1:VP1,(∀(y29:Value) (w':World),I y29 w'→μ y29 w'<μ x29 w→E1 y29 w')→f14_l1_t x0 x1 x9 x28 x29 K E1 w):f14_l1 K x0 x1 x9 x28 x29 w:=
 ⟨I,μ,h0,fun σ w hI E hE=>cast (by kernel_rfl) (hr (σ 29) w hI E hE)⟩
def f14_t (x0 x1 x2:Value) (K:K1) (w:World):Prop:=
 callS Tryz.prog 47 (pA #[x0,x1,x2]) w fun t17 w_1=>
 ev Tryz.prog (Op.unary .not t17) w_1 fun t18 w_2=>
 cndS t18 (
 K (.tuple #[(.pointer none),(.int .i64 1)]) w_2) (
 invS Tryz.prog x0 "Err" (pA #[]) w_2 fun t20 w_3=>
 ev Tryz.prog (binM .neq 43 (.tmp 21) (.const (.int .i64 0)) t20 (.int .i64 0)) w_3 fun t22 w_4=>
 cndS t22 (
 K (.tuple #[(.pointer none),t20]) w_4) (
 ev Tryz.prog (Instr.build 108 #[(0,x0)]) w_4 fun t25 w_5=>
 ev Tryz.prog (Instr.box 108 t25) w_5 fun t26 w_6=>
 ev Tryz.prog (binM .quo 3 (.tmp 27) (.const (.int .i64 32)) x2 (.int .i64 32)) w_6 fun t28 w_7=>
 f14_l1 K x0 x1 t26 t28 (.int .i64 0) w_7))
theorem f14_call (x0 x1 x2:Value) (K:K1) (w:World) (h:f14_t x0 x1 x2 K w):callS Tryz.prog 14 #[x0,x1,x2] w K:=
 call_of_txt (args:= [x0,x1,x2]) mixed Tryz.func14 f14_u.2 (by kernel_rfl) (cast (by kernel_rfl) h)
noncomputable def f22_u:Code×Dec:=((Tryz.f22.body).getD .skip,(.s .o (.s .o (.s .o (.s .o (.s .o (.s .o (.x 3591 .o .o))))))))
abbrev f22_e (K:K1):KF:=endK Tryz.prog Tryz.f22.results.toList K
def f22_k1_o (K:K1):KF:=fun fr w=>∀σ,cP (pr (pr (pr (pr (pr (pr (pr f22_u))))))) (f22_e K) (f22_e K) nX (mixF 3591 σ 0 fr) w
def f22_k1 (K:K1) (x0 x1 x2 x9 x10 x11:Value) (w:World):Prop:=f22_k1_o K (fz 95 0 [(0,x0),(1,x1),(2,x2),(9,x9),(10,x10),(11,x11)]) w
def f22_k1_t (x0 x1 x2 x9 x10 x11:Value) (K:K1) (w:World):Prop:=
 ev Tryz.prog (binM .neq 43 (.tmp 55) (.const (.int .i64 0)) x10 (.int .i64 0)) w fun t56 w_1=>
 cndS t56 (
 K (.tuple #[(.int .i64 0),x10]) w_1) (
 nilR Tryz.prog x9 w_1.drew fun t60=>
 rd Tryz.prog (Instr.fieldAt 112 t60 0) w_1.drew fun t61=>
 ldR Tryz.prog 3 t61 w_1.drew fun t62=>
 rd Tryz.prog (Instr.fieldAt 67 x11 2) w_1.drew fun t65=>
 ldR Tryz.prog 34 t65 w_1.drew fun t66=>
 rd Tryz.prog (Instr.build 67 #[(0,x2),(1,x1),(2,t66)]) w_1.drew fun t67=>
 callS Tryz.prog 61 (pA #[t62,t67]) w_1.drew fun t68 w_2=>
 rd Tryz.prog (Instr.extract t68 0) w_2 fun t69=>
 rd Tryz.prog (Instr.extract t68 1) w_2 fun t70=>
 ev Tryz.prog (binM .neq 43 (.tmp 71) (.const (.int .i64 0)) t70 (.int .i64 0)) w_2 fun t72 w_3=>
 cndS t72 (
 K (.tuple #[(.int .i64 0),t70]) w_3) (
 nilS Tryz.prog x0 w_3 fun t76 w_4=>
 ev Tryz.prog (Instr.fieldAt 108 t76 0) w_4 fun t77 w_5=>
 ldS Tryz.prog 66 t77 w_5 fun t78 w_6=>
 callS Tryz.prog 62 (pA #[t69,t78]) w_6 fun t79 w_7=>
 ev Tryz.prog (binM .neq 43 (.tmp 80) (.const (.int .i64 0)) t79 (.int .i64 0)) w_7 fun t81 w_8=>
 cndS t81 (
 K (.tuple #[(.int .i64 0),t79]) w_8) (
 nilS Tryz.prog x9 w_8 fun t87 w_9=>
 ev Tryz.prog (Instr.fieldAt 112 t87 1) w_9 fun t88 w_10=>
 stS Tryz.prog 3 t88 x2 w_10 fun w_11=>
 nilS Tryz.prog x9 w_11 fun t89 w_12=>
 ev Tryz.prog (Instr.fieldAt 112 t89 2) w_12 fun t90 w_13=>
 stS Tryz.prog 3 t90 x1 w_13 fun w_14=>
 nilS Tryz.prog x9 w_14 fun t92 w_15=>
 ev Tryz.prog (Instr.fieldAt 112 t92 0) w_15 fun t93 w_16=>
 ldS Tryz.prog 3 t93 w_16 fun t94 w_17=>
 K (.tuple #[t94,(.int .i64 0)]) w_17)))
theorem f22_k1_eq (K:K1) (x0 x1 x2 x9 x10 x11:Value) (w:World):f22_k1 K x0 x1 x2 x9 x10 x11 w=f22_k1_t x0 x1 x2 x9 x10 x11 K w:=cutE fun σ=>by kernel_rfl
def f22_t (x0 x1 x2:Value) (K:K1) (w:World):Prop:=
 ev Tryz.prog (binM .eql 26 (.tmp 14) (.const (.pointer none)) x0 (.pointer none)) w fun t15 w_1=>
 cndS t15 (
 K (.tuple #[(.int .i64 0),(.int .i64 5)]) w_1) (
 ev Tryz.prog (binM .lss 3 (.tmp 16) (.const (.int .i64 0)) x1 (.int .i64 0)) w_1 fun t17 w_2=>
 gd t17 false (fun k=>k x1 w_2) w_2 fun t19 w_3=>
 gd t17 false (fun k=>ev Tryz.prog (binM .geq 3 (.tmp 19) (.const (.int .i64 8)) t19 (.int .i64 8)) w_3 k) w_3 fun t20 w_4=>
 pickS t17 (.bool true) t20 w_4 fun t21 w_5=>
 gd t21 false (fun k=>k x2 w_5) w_5 fun t23 w_6=>
 gd t21 false (fun k=>callS Tryz.prog 59 (pA #[t23]) w_6 k) w_6 fun t24 w_7=>
 gd t21 false (fun k=>ev Tryz.prog (binM .eql 3 (.tmp 24) (.const (.int .i64 0)) t24 (.int .i64 0)) w_7 k) w_7 fun t25 w_8=>
 pickS t21 (.bool true) t25 w_8 fun t26 w_9=>
 cndS t26 (
 K (.tuple #[(.int .i64 0),(.int .i64 1)]) w_9) (
 nilS Tryz.prog x0 w_9 fun t28 w_10=>
 ev Tryz.prog (Instr.fieldAt 108 t28 0) w_10 fun t29 w_11=>
 ldS Tryz.prog 66 t29 w_11 fun t30 w_12=>
 invS Tryz.prog t30 "Err" (pA #[]) w_12 fun t31 w_13=>
 ev Tryz.prog (binM .neq 43 (.tmp 32) (.const (.int .i64 0)) t31 (.int .i64 0)) w_13 fun t33 w_14=>
 cndS t33 (
 K (.tuple #[(.int .i64 0),t31]) w_14) (
 callS Tryz.prog 60 (pA #[x0]) w_14 fun t37 w_15=>
 ev Tryz.prog (Instr.extract t37 0) w_15 fun t38 w_16=>
 ev Tryz.prog (Instr.extract t37 1) w_16 fun t39 w_17=>
 ev Tryz.prog (binM .neq 43 (.tmp 40) (.const (.int .i64 0)) t39 (.int .i64 0)) w_17 fun t41 w_18=>
 cndS t41 (
 K (.tuple #[(.int .i64 0),t39]) w_18) (
 nilR Tryz.prog x0 w_18.drew fun t45=>
 rd Tryz.prog (Instr.fieldAt 108 t45 0) w_18.drew fun t46=>
 ldR Tryz.prog 66 t46 w_18.drew fun t47=>
 nilR Tryz.prog t38 w_18.drew fun t49=>
 rd Tryz.prog (Instr.fieldAt 112 t49 0) w_18.drew fun t50=>
 ldR Tryz.prog 3 t50 w_18.drew fun t51=>
 (callS Tryz.prog 48 (pA #[t47,t51]) w_18.drew fun t52 w_19=>
 rd Tryz.prog (Instr.extract t52 0) w_19 fun t53=>
 rd Tryz.prog (Instr.extract t52 1) w_19 fun t54=>
 ev Tryz.prog (Instr.alloc 67 true (.tuple #[])) w_19 fun t11 w_20=>
 (nilR Tryz.prog x0 w_20 (fun u=>u=t45))∧
 (ag Tryz.prog (Instr.fieldAt 108 t45 0) w_20 t46)∧
 (ldG Tryz.prog 66 t46 w_20 t47)∧
 (nilR Tryz.prog t38 w_20 (fun u=>u=t49))∧
 (ag Tryz.prog (Instr.fieldAt 112 t49 0) w_20 t50)∧
 (ldG Tryz.prog 3 t50 w_20 t51)∧
 stS Tryz.prog 67 t11 t53 w_20 fun w_21=>
 f22_k1 K x0 x1 x2 t38 t54 t11 w_21)∧
 (ev Tryz.prog (Instr.alloc 67 true (.tuple #[])) w_18.drew fun t11_1 w_22=>
 (nilR Tryz.prog x0 w_22 (fun u=>u=t45))∧
 (ag Tryz.prog (Instr.fieldAt 108 t45 0) w_22 t46)∧
 (ldG Tryz.prog 66 t46 w_22 t47)∧
 (nilR Tryz.prog t38 w_22 (fun u=>u=t49))∧
 (ag Tryz.prog (Instr.fieldAt 112 t49 0) w_22 t50)∧
 (ldG Tryz.prog 3 t50 w_22 t51)∧
 callS Tryz.prog 48 (pA #[t47,t51]) w_22 fun t52_1 w_23=>
 rd Tryz.prog (Instr.extract t52_1 0) w_23 fun t53_1=>
 rd Tryz.prog (Instr.extract t52_1 1) w_23 fun t54_1=>
 stS Tryz.prog 67 t11_1 t53_1 w_23 fun w_24=>
 f22_k1 K x0 x1 x2 t38 t54_1 t11_1 w_24)))))
theorem f22_call (x0 x1 x2:Value) (K:K1) (w:World) (h:f22_t x0 x1 x2 K w):callS Tryz.prog 22 #[x0,x1,x2] w K:=
 call_of_txt (args:= [x0,x1,x2]) mixed Tryz.func22 f22_u.2 (by kernel_rfl) (cast (by kernel_rfl) h)
noncomputable def f29_u:Code×Dec:=((Tryz.f29.body).getD .skip,(.s .o (.s .o (.s .o (.x 8 (.s .o (.b (.l [3,13] 6144 8380456 (.s .o (.s .o (.x 14344 .o .o)))))) .o)))))
abbrev f29_e (K:K1):KF:=endK Tryz.prog Tryz.f29.results.toList K
def f29_k1_o (K:K1):KF:=fun fr w=>∀σ,cP (pr (pr (pr (pr f29_u)))) (f29_e K) (f29_e K) nX (mixF 8 σ 0 fr) w
def f29_k1 (K:K1) (x3:Value) (w:World):Prop:=f29_k1_o K (fz 24 0 [(3,x3)]) w
def f29_l1 (K:K1) (x3 x11 x12 x13:Value) (w:World):Prop:=loopT [3,13] 6144 (fun E=>cP (pl (pl (pr (pl (pr (pr (pr f29_u))))))) E (f29_e K) (exB 0 (f29_k1_o K) nX)) (fz 24 0 [(3,x3),(11,x11),(12,x12),(13,x13)]) w
def f29_k2_o (K:K1) (E1:VP2):KF:=fun fr w=>∀σ,cP (pr (pr (pr (pl (pl (pr (pl (pr (pr (pr f29_u)))))))))) (fun fr w=>E1 (sv fr 3) (sv fr 13) w) (f29_e K) (exB 0 (f29_k1_o K) nX) (mixF 14344 σ 0 fr) w
def f29_k2 (K:K1) (E1:VP2) (x3 x11 x12 x13:Value) (w:World):Prop:=f29_k2_o K E1 (fz 24 0 [(3,x3),(11,x11),(12,x12),(13,x13)]) w
def f29_k1_t (x3:Value) (K:K1) (w:World):Prop:=
 K x3 w
theorem f29_k1_eq (K:K1) (x3:Value) (w:World):f29_k1 K x3 w=f29_k1_t x3 K w:=cutE fun σ=>by kernel_rfl
def f29_l1_t (x3 x11 x12 x13:Value) (K:K1) (E1:VP2) (w:World):Prop:=
 ev Tryz.prog (binM .lss 3 (.tmp 13) (.tmp 12) x13 x12) w fun t14 w_1=>
 cndS t14 (
 ev Tryz.prog (Instr.indexAt 106 x11 x13) w_1 fun t15 w_2=>
 ldS Tryz.prog 112 t15 w_2 fun t16 w_3=>
 ev Tryz.prog (Instr.alloc 112 true (.tuple #[])) w_3 fun t5 w_4=>
 stS Tryz.prog 112 t5 t16 w_4 fun w_5=>
 ev Tryz.prog (Instr.fieldAt 112 t5 1) w_5 fun t17 w_6=>
 ldS Tryz.prog 3 t17 w_6 fun t18 w_7=>
 ev Tryz.prog (binM .lss 3 (.tmp 18) (.const (.int .i64 0)) t18 (.int .i64 0)) w_7 fun t19 w_8=>
 cndS t19 (
 ev Tryz.prog (binM .add 3 (.tmp 20) (.const (.int .i64 1)) x3 (.int .i64 1)) w_8 fun t21 w_9=>
 f29_k2 K E1 t21 x11 x12 x13 w_9) (
 f29_k2 K E1 x3 x11 x12 x13 w_8)) (
 f29_k1 K x3 w_1)
theorem f29_l1_rule (x3 x11 x12 x13:Value) (K:K1) (w:World) (I:VP2) (μ:Value→Value→World→Nat) (h0:I x3 x13 w)
  (hr:∀(x3 x13:Value) (w:World),I x3 x13 w→∀E1:VP2,(∀(y3 y13:Value) (w':World),I y3 y13 w'→μ y3 y13 w'<μ x3 x13 w→E1 y3 y13 w')→f29_l1_t x3 x11 x12 x13 K E1 w):f29_l1 K x3 x11 x12 x13 w:=
 ⟨I,μ,h0,fun σ w hI E hE=>cast (by kernel_rfl) (hr (σ 3) (σ 13) w hI E hE)⟩
def f29_k2_t (x3 x11 x12 x13:Value) (K:K1) (E1:VP2) (w:World):Prop:=
 ev Tryz.prog (binM .add 3 (.tmp 13) (.const (.int .i64 1)) x13 (.int .i64 1)) w fun t22 w_1=>
 E1 x3 t22 w_1
theorem f29_k2_eq (K:K1) (E1:VP2) (x3 x11 x12 x13:Value) (w:World):f29_k2 K E1 x3 x11 x12 x13 w=f29_k2_t x3 x11 x12 x13 K E1 w:=cutE fun σ=>by kernel_rfl
def f29_t (x0:Value) (K:K1) (w:World):Prop:=
 ev Tryz.prog (binM .eql 26 (.tmp 6) (.const (.pointer none)) x0 (.pointer none)) w fun t7 w_1=>
 cndS t7 (
 K (.int .i64 0) w_1) (
 nilS Tryz.prog x0 w_1 fun t9 w_2=>
 ev Tryz.prog (Instr.fieldAt 108 t9 1) w_2 fun t10 w_3=>
 ldS Tryz.prog 106 t10 w_3 fun t11 w_4=>
 bltS Tryz.prog .len #[106] 3 #[false] #[t11] w_4 fun t12 w_5=>
 f29_l1 K (.int .i64 0) t11 t12 (.int .i64 0) w_5)
theorem f29_call (x0:Value) (K:K1) (w:World) (h:f29_t x0 K w):callS Tryz.prog 29 #[x0] w K:=
 call_of_txt (args:= [x0]) mixed Tryz.func29 f29_u.2 (by kernel_rfl) (cast (by kernel_rfl) h)
noncomputable def f30_u:Code×Dec:=((Tryz.f30.body).getD .skip,(.s .o (.s .o (.s .o (.x 128 (.s .o (.b (.l [7,25] 25165830 35184338535040 (.s .o (.s .o (.x 58720390 .o .o)))))) .o)))))
abbrev f30_e (K:K1):KF:=endK Tryz.prog Tryz.f30.results.toList K
def f30_k1_o (K:K1):KF:=fun fr w=>∀σ,cP (pr (pr (pr (pr f30_u)))) (f30_e K) (f30_e K) nX (mixF 128 σ 0 fr) w
def f30_k1 (K:K1) (x7:Value) (w:World):Prop:=f30_k1_o K (fz 46 0 [(7,x7)]) w
def f30_l1 (K:K1) (x1 x2 x7 x23 x24 x25:Value) (w:World):Prop:=loopT [7,25] 25165830 (fun E=>cP (pl (pl (pr (pl (pr (pr (pr f30_u))))))) E (f30_e K) (exB 0 (f30_k1_o K) nX)) (fz 46 0 [(1,x1),(2,x2),(7,x7),(23,x23),(24,x24),(25,x25)]) w
def f30_k2_o (K:K1) (E1:VP2):KF:=fun fr w=>∀σ,cP (pr (pr (pr (pl (pl (pr (pl (pr (pr (pr f30_u)))))))))) (fun fr w=>E1 (sv fr 7) (sv fr 25) w) (f30_e K) (exB 0 (f30_k1_o K) nX) (mixF 58720390 σ 0 fr) w
def f30_k2 (K:K1) (E1:VP2) (x1 x2 x7 x23 x24 x25:Value) (w:World):Prop:=f30_k2_o K E1 (fz 46 0 [(1,x1),(2,x2),(7,x7),(23,x23),(24,x24),(25,x25)]) w
def f30_k1_t (x7:Value) (K:K1) (w:World):Prop:=
 K x7 w
theorem f30_k1_eq (K:K1) (x7:Value) (w:World):f30_k1 K x7 w=f30_k1_t x7 K w:=cutE fun σ=>by kernel_rfl
def f30_l1_t (x1 x2 x7 x23 x24 x25:Value) (K:K1) (E1:VP2) (w:World):Prop:=
 ev Tryz.prog (binM .lss 3 (.tmp 25) (.tmp 24) x25 x24) w fun t26 w_1=>
 cndS t26 (
 ev Tryz.prog (Instr.indexAt 106 x23 x25) w_1 fun t27 w_2=>
 ldS Tryz.prog 112 t27 w_2 fun t28 w_3=>
 ev Tryz.prog (Instr.alloc 112 true (.tuple #[])) w_3 fun t9 w_4=>
 stS Tryz.prog 112 t9 t28 w_4 fun w_5=>
 ev Tryz.prog (Instr.fieldAt 112 t9 2) w_5 fun t29 w_6=>
 ldS Tryz.prog 3 t29 w_6 fun t30 w_7=>
 ev Tryz.prog (binM .eql 3 (.tmp 30) (.tmp 31) t30 x1) w_7 fun t32 w_8=>
 gd t32 true (fun k=>ev Tryz.prog (Instr.fieldAt 112 t9 1) w_8 k) w_8 fun t34 w_9=>
 gd t32 true (fun k=>ldS Tryz.prog 3 t34 w_9 k) w_9 fun t35 w_10=>
 gd t32 true (fun k=>k x2 w_10) w_10 fun t36 w_11=>
 gd t32 true (fun k=>ev Tryz.prog (binM .eql 3 (.tmp 35) (.tmp 36) t35 t36) w_11 k) w_11 fun t37 w_12=>
 pickS t32 t37 (.bool false) w_12 fun t38 w_13=>
 cndS t38 (
 ev Tryz.prog (Instr.fieldAt 112 t9 0) w_13 fun t40 w_14=>
 ldS Tryz.prog 3 t40 w_14 fun t41 w_15=>
 ev Tryz.prog (Instr.buildSlice 50 1 #[(0,t41)]) w_15 fun t42 w_16=>
 bltS Tryz.prog .append #[50,50] 50 #[false,false] (pA #[x7,t42]) w_16 fun t43 w_17=>
 f30_k2 K E1 x1 x2 t43 x23 x24 x25 w_17) (
 f30_k2 K E1 x1 x2 x7 x23 x24 x25 w_13)) (
 f30_k1 K x7 w_1)
theorem f30_l1_rule (x1 x2 x7 x23 x24 x25:Value) (K:K1) (w:World) (I:VP2) (μ:Value→Value→World→Nat) (h0:I x7 x25 w)
  (hr:∀(x7 x25:Value) (w:World),I x7 x25 w→∀E1:VP2,(∀(y7 y25:Value) (w':World),I y7 y25 w'→μ y7 y25 w'<μ x7 x25 w→E1 y7 y25 w')→f30_l1_t x1 x2 x7 x23 x24 x25 K E1 w):f30_l1 K x1 x2 x7 x23 x24 x25 w:=
 ⟨I,μ,h0,fun σ w hI E hE=>cast (by kernel_rfl) (hr (σ 7) (σ 25) w hI E hE)⟩
def f30_k2_t (x1 x2 x7 x23 x24 x25:Value) (K:K1) (E1:VP2) (w:World):Prop:=
 ev Tryz.prog (binM .add 3 (.tmp 25) (.const (.int .i64 1)) x25 (.int .i64 1)) w fun t44 w_1=>
 E1 x7 t44 w_1
theorem f30_k2_eq (K:K1) (E1:VP2) (x1 x2 x7 x23 x24 x25:Value) (w:World):f30_k2 K E1 x1 x2 x7 x23 x24 x25 w=f30_k2_t x1 x2 x7 x23 x24 x25 K E1 w:=cutE fun σ=>by kernel_rfl
def f30_t (x0 x1 x2:Value) (K:K1) (w:World):Prop:=
 ev Tryz.prog (binM .eql 26 (.tmp 10) (.const (.pointer none)) x0 (.pointer none)) w fun t11 w_1=>
 gd t11 false (fun k=>k x1 w_1) w_1 fun t13 w_2=>
 gd t11 false (fun k=>ev Tryz.prog (binM .lss 3 (.tmp 13) (.const (.int .i64 0)) t13 (.int .i64 0)) w_2 k) w_2 fun t14 w_3=>
 pickS t11 (.bool true) t14 w_3 fun t15 w_4=>
 gd t15 false (fun k=>k x2 w_4) w_4 fun t17 w_5=>
 gd t15 false (fun k=>ev Tryz.prog (binM .lss 3 (.tmp 17) (.const (.int .i64 0)) t17 (.int .i64 0)) w_5 k) w_5 fun t18 w_6=>
 pickS t15 (.bool true) t18 w_6 fun t19 w_7=>
 cndS t19 (
 K (.slice none 0 0) w_7) (
 nilS Tryz.prog x0 w_7 fun t21 w_8=>
 ev Tryz.prog (Instr.fieldAt 108 t21 1) w_8 fun t22 w_9=>
 ldS Tryz.prog 106 t22 w_9 fun t23 w_10=>
 bltS Tryz.prog .len #[106] 3 #[false] #[t23] w_10 fun t24 w_11=>
 f30_l1 K x1 x2 (.slice none 0 0) t23 t24 (.int .i64 0) w_11)
theorem f30_call (x0 x1 x2:Value) (K:K1) (w:World) (h:f30_t x0 x1 x2 K w):callS Tryz.prog 30 #[x0,x1,x2] w K:=
 call_of_txt (args:= [x0,x1,x2]) mixed Tryz.func30 f30_u.2 (by kernel_rfl) (cast (by kernel_rfl) h)
noncomputable def f31_u:Code×Dec:=((Tryz.f31.body).getD .skip,(.s .o (.s .o (.s .o (.x 8 (.s .o (.b (.l [3,13] 6144 8380456 .o))) .o)))))
abbrev f31_e (K:K1):KF:=endK Tryz.prog Tryz.f31.results.toList K
def f31_k1_o (K:K1):KF:=fun fr w=>∀σ,cP (pr (pr (pr (pr f31_u)))) (f31_e K) (f31_e K) nX (mixF 8 σ 0 fr) w
def f31_k1 (K:K1) (x3:Value) (w:World):Prop:=f31_k1_o K (fz 24 0 [(3,x3)]) w
def f31_l1 (K:K1) (x3 x11 x12 x13:Value) (w:World):Prop:=loopT [3,13] 6144 (fun E=>cP (pl (pl (pr (pl (pr (pr (pr f31_u))))))) E (f31_e K) (exB 0 (f31_k1_o K) nX)) (fz 24 0 [(3,x3),(11,x11),(12,x12),(13,x13)]) w
def f31_k1_t (x3:Value) (K:K1) (w:World):Prop:=
 K x3 w
theorem f31_k1_eq (K:K1) (x3:Value) (w:World):f31_k1 K x3 w=f31_k1_t x3 K w:=cutE fun σ=>by kernel_rfl
def f31_l1_t (x3 x11 x12 x13:Value) (K:K1) (E1:VP2) (w:World):Prop:=
 ev Tryz.prog (binM .lss 3 (.tmp 13) (.tmp 12) x13 x12) w fun t14 w_1=>
 cndS t14 (
 ev Tryz.prog (Instr.indexAt 106 x11 x13) w_1 fun t15 w_2=>
 ldS Tryz.prog 112 t15 w_2 fun t16 w_3=>
 ev Tryz.prog (Instr.alloc 112 true (.tuple #[])) w_3 fun t5 w_4=>
 stS Tryz.prog 112 t5 t16 w_4 fun w_5=>
 ev Tryz.prog (Instr.fieldAt 112 t5 0) w_5 fun t18 w_6=>
 ldS Tryz.prog 3 t18 w_6 fun t19 w_7=>
 ev Tryz.prog (Instr.buildSlice 50 1 #[(0,t19)]) w_7 fun t20 w_8=>
 bltS Tryz.prog .append #[50,50] 50 #[false,false] (pA #[x3,t20]) w_8 fun t21 w_9=>
 ev Tryz.prog (binM .add 3 (.tmp 13) (.const (.int .i64 1)) x13 (.int .i64 1)) w_9 fun t22 w_10=>
 E1 t21 t22 w_10) (
 f31_k1 K x3 w_1)
theorem f31_l1_rule (x3 x11 x12 x13:Value) (K:K1) (w:World) (I:VP2) (μ:Value→Value→World→Nat) (h0:I x3 x13 w)
  (hr:∀(x3 x13:Value) (w:World),I x3 x13 w→∀E1:VP2,(∀(y3 y13:Value) (w':World),I y3 y13 w'→μ y3 y13 w'<μ x3 x13 w→E1 y3 y13 w')→f31_l1_t x3 x11 x12 x13 K E1 w):f31_l1 K x3 x11 x12 x13 w:=
 ⟨I,μ,h0,fun σ w hI E hE=>cast (by kernel_rfl) (hr (σ 3) (σ 13) w hI E hE)⟩
def f31_t (x0:Value) (K:K1) (w:World):Prop:=
 ev Tryz.prog (binM .eql 26 (.tmp 6) (.const (.pointer none)) x0 (.pointer none)) w fun t7 w_1=>
 cndS t7 (
 K (.slice none 0 0) w_1) (
 nilS Tryz.prog x0 w_1 fun t9 w_2=>
 ev Tryz.prog (Instr.fieldAt 108 t9 1) w_2 fun t10 w_3=>
 ldS Tryz.prog 106 t10 w_3 fun t11 w_4=>
 bltS Tryz.prog .len #[106] 3 #[false] #[t11] w_4 fun t12 w_5=>
 f31_l1 K (.slice none 0 0) t11 t12 (.int .i64 0) w_5)
theorem f31_call (x0:Value) (K:K1) (w:World) (h:f31_t x0 K w):callS Tryz.prog 31 #[x0] w K:=
 call_of_txt (args:= [x0]) mixed Tryz.func31 f31_u.2 (by kernel_rfl) (cast (by kernel_rfl) h)
def f35_t (x0 x1:Value) (K:K1) (w:World):Prop:=
 callS Tryz.prog 77 (pA #[x0,x1]) w fun t12 w_1=>
 ev Tryz.prog (binM .eql 128 (.tmp 13) (.const (.pointer none)) t12 (.pointer none)) w_1 fun t14 w_2=>
 cndS t14 (
 K (.int .i64 5) w_2) (
 nilS Tryz.prog x0 w_2 fun t16 w_3=>
 ev Tryz.prog (Instr.fieldAt 108 t16 0) w_3 fun t17 w_4=>
 ldS Tryz.prog 66 t17 w_4 fun t18 w_5=>
 invS Tryz.prog t18 "Err" (pA #[]) w_5 fun t19 w_6=>
 ev Tryz.prog (binM .neq 43 (.tmp 20) (.const (.int .i64 0)) t19 (.int .i64 0)) w_6 fun t21 w_7=>
 cndS t21 (
 K t19 w_7) (
 callS Tryz.prog 78 (pA #[x0,t12]) w_7 fun t26 w_8=>
 ev Tryz.prog (Instr.extract t26 0) w_8 fun t27 w_9=>
 ev Tryz.prog (Instr.extract t26 1) w_9 fun t28 w_10=>
 nilS Tryz.prog x0 w_10 fun t30 w_11=>
 ev Tryz.prog (Instr.fieldAt 108 t30 0) w_11 fun t31 w_12=>
 ldS Tryz.prog 66 t31 w_12 fun t32 w_13=>
 invS Tryz.prog t32 "Err" (pA #[]) w_13 fun t33 w_14=>
 ev Tryz.prog (binM .neq 43 (.tmp 34) (.const (.int .i64 0)) t33 (.int .i64 0)) w_14 fun t35 w_15=>
 cndS t35 (
 K t33 w_15) (
 ev Tryz.prog (Op.unary .not t28) w_15 fun t38 w_16=>
 cndS t38 (
 K (.int .i64 8) w_16) (
 callS Tryz.prog 79 (pA #[x0,t12,t27]) w_16 fun t42 w_17=>
 K t42 w_17))))
theorem f35_call (x0 x1:Value) (K:K1) (w:World) (h:f35_t x0 x1 K w):callS Tryz.prog 35 #[x0,x1] w K:=
 call_of_txt (args:= [x0,x1]) mixed Tryz.func35 .o (by kernel_rfl) (cast (by kernel_rfl) h)
def f37_t (x0 x1:Value) (K:K1) (w:World):Prop:=
 callS Tryz.prog 77 (pA #[x0,x1]) w fun t8 w_1=>
 ev Tryz.prog (binM .neq 128 (.tmp 9) (.const (.pointer none)) t8 (.pointer none)) w_1 fun t10 w_2=>
 cndS t10 (
 nilS Tryz.prog t8 w_2 fun t12 w_3=>
 ev Tryz.prog (Instr.fieldAt 112 t12 2) w_3 fun t13 w_4=>
 ldS Tryz.prog 3 t13 w_4 fun t14 w_5=>
 K t14 w_5) (
 K (.int .i64 (-1)) w_2)
theorem f37_call (x0 x1:Value) (K:K1) (w:World) (h:f37_t x0 x1 K w):callS Tryz.prog 37 #[x0,x1] w K:=
 call_of_txt (args:= [x0,x1]) mixed Tryz.func37 .o (by kernel_rfl) (cast (by kernel_rfl) h)
noncomputable def f39_u:Code×Dec:=((Tryz.f39.body).getD .skip,(.s .o (.s .o (.s .o (.x 1 (.s .o (.b (.l [24] 8388611 35184355315520 .o))) .o)))))
abbrev f39_e (K:K1):KF:=endK Tryz.prog Tryz.f39.results.toList K
def f39_k1_o (K:K1):KF:=fun fr w=>∀σ,cP (pr (pr (pr (pr f39_u)))) (f39_e K) (f39_e K) nX (mixF 1 σ 0 fr) w
def f39_k1 (K:K1) (x0:Value) (w:World):Prop:=f39_k1_o K (fz 47 0 [(0,x0)]) w
def f39_l1 (K:K1) (x0 x1 x23 x24:Value) (w:World):Prop:=loopT [24] 8388611 (fun E=>cP (pl (pl (pr (pl (pr (pr (pr f39_u))))))) E (f39_e K) (exB 0 (f39_k1_o K) nX)) (fz 47 0 [(0,x0),(1,x1),(23,x23),(24,x24)]) w
def f39_k1_t (x0:Value) (K:K1) (w:World):Prop:=
 invS Tryz.prog x0 "Err" (pA #[]) w fun t46 w_1=>
 K t46 w_1
theorem f39_k1_eq (K:K1) (x0:Value) (w:World):f39_k1 K x0 w=f39_k1_t x0 K w:=cutE fun σ=>by kernel_rfl
def f39_l1_t (x0 x1 x23 x24:Value) (K:K1) (E1:VP1) (w:World):Prop:=
 ev Tryz.prog (binM .lss 3 (.tmp 24) (.tmp 23) x24 x23) w fun t25 w_1=>
 cndS t25 (
 ev Tryz.prog (binM .mul 3 (.tmp 29) (.const (.int .i64 32)) x24 (.int .i64 32)) w_1 fun t30 w_2=>
 ev Tryz.prog (binM .add 3 (.tmp 28) (.tmp 30) x1 t30) w_2 fun t31 w_3=>
 callS Tryz.prog 82 (pA #[t31,(.int .u16 ((1:Nat):Int))]) w_3 fun t32 w_4=>
 ev Tryz.prog (Instr.extract t32 0) w_4 fun t33 w_5=>
 ev Tryz.prog (Instr.extract t32 1) w_5 fun t34 w_6=>
 ev Tryz.prog (binM .neq 43 (.tmp 35) (.const (.int .i64 0)) t34 (.int .i64 0)) w_6 fun t36 w_7=>
 cndS t36 (
 K t34 w_7) (
 callS Tryz.prog 62 (pA #[t33,x0]) w_7 fun t40 w_8=>
 ev Tryz.prog (binM .neq 43 (.tmp 41) (.const (.int .i64 0)) t40 (.int .i64 0)) w_8 fun t42 w_9=>
 cndS t42 (
 K t40 w_9) (
 ev Tryz.prog (binM .add 3 (.tmp 24) (.const (.int .i64 1)) x24 (.int .i64 1)) w_9 fun t44 w_10=>
 E1 t44 w_10))) (
 f39_k1 K x0 w_1)
theorem f39_l1_rule (x0 x1 x23 x24:Value) (K:K1) (w:World) (I:VP1) (μ:Value→World→Nat) (h0:I x24 w)
  (hr:∀(x24:Value) (w:World),I x24 w→∀E1:VP1,(∀(y24:Value) (w':World),I y24 w'→μ y24 w'<μ x24 w→E1 y24 w')→f39_l1_t x0 x1 x23 x24 K E1 w):f39_l1 K x0 x1 x23 x24 w:=
 ⟨I,μ,h0,fun σ w hI E hE=>cast (by kernel_rfl) (hr (σ 24) w hI E hE)⟩
def f39_t (x0 x1 x2:Value) (K:K1) (w:World):Prop:=
 callS Tryz.prog 47 (pA #[x0,x1,x2]) w fun t15 w_1=>
 ev Tryz.prog (Op.unary .not t15) w_1 fun t16 w_2=>
 cndS t16 (
 K (.int .i64 1) w_2) (
 invS Tryz.prog x0 "Err" (pA #[]) w_2 fun t18 w_3=>
 ev Tryz.prog (binM .neq 43 (.tmp 19) (.const (.int .i64 0)) t18 (.int .i64 0)) w_3 fun t20 w_4=>
 cndS t20 (
 K t18 w_4) (
 ev Tryz.prog (binM .quo 3 (.tmp 22) (.const (.int .i64 32)) x2 (.int .i64 32)) w_4 fun t23 w_5=>
 f39_l1 K x0 x1 t23 (.int .i64 0) w_5))
theorem f39_call (x0 x1 x2:Value) (K:K1) (w:World) (h:f39_t x0 x1 x2 K w):callS Tryz.prog 39 #[x0,x1,x2] w K:=
 call_of_txt (args:= [x0,x1,x2]) mixed Tryz.func39 f39_u.2 (by kernel_rfl) (cast (by kernel_rfl) h)
def f47_t (x0 x1 x2:Value) (K:K1) (w:World):Prop:=
 ev Tryz.prog (binM .eql 66 (.tmp 8) (.const .nilIface) x0 .nilIface) w fun t9 w_1=>
 gd t9 false (fun k=>k x1 w_1) w_1 fun t11 w_2=>
 gd t9 false (fun k=>ev Tryz.prog (binM .lss 3 (.tmp 11) (.const (.int .i64 0)) t11 (.int .i64 0)) w_2 k) w_2 fun t12 w_3=>
 pickS t9 (.bool true) t12 w_3 fun t13 w_4=>
 gd t13 false (fun k=>k x2 w_4) w_4 fun t15 w_5=>
 gd t13 false (fun k=>ev Tryz.prog (binM .lss 3 (.tmp 15) (.const (.int .i64 32)) t15 (.int .i64 32)) w_5 k) w_5 fun t16 w_6=>
 pickS t13 (.bool true) t16 w_6 fun t17 w_7=>
 cndS t17 (
 K (.bool false) w_7) (
 invS Tryz.prog x0 "Size" (pA #[]) w_7 fun t19 w_8=>
 ev Tryz.prog (binM .quo 30 (.tmp 19) (.const (.int .u64 ((64:Nat):Int))) t19 (.int .u64 ((64:Nat):Int))) w_8 fun t20 w_9=>
 ev Tryz.prog (convert 3 30 x1) w_9 fun t22 w_10=>
 ev Tryz.prog (binM .gtr 30 (.tmp 22) (.tmp 23) t22 t20) w_10 fun t24 w_11=>
 gd t24 false (fun k=>k x2 w_11) w_11 fun t26 w_12=>
 gd t24 false (fun k=>ev Tryz.prog (convert 3 30 t26) w_12 k) w_12 fun t27 w_13=>
 gd t24 false (fun k=>k t20 w_13) w_13 fun t28 w_14=>
 gd t24 false (fun k=>k x1 w_14) w_14 fun t29 w_15=>
 gd t24 false (fun k=>ev Tryz.prog (convert 3 30 t29) w_15 k) w_15 fun t30 w_16=>
 gd t24 false (fun k=>ev Tryz.prog (binM .sub 30 (.tmp 28) (.tmp 30) t28 t30) w_16 k) w_16 fun t31 w_17=>
 gd t24 false (fun k=>ev Tryz.prog (binM .gtr 30 (.tmp 27) (.tmp 31) t27 t31) w_17 k) w_17 fun t32 w_18=>
 pickS t24 (.bool true) t32 w_18 fun t33 w_19=>
 cndS t33 (
 K (.bool false) w_19) (
 ev Tryz.prog (convert 3 30 x1) w_19 fun t35 w_20=>
 ev Tryz.prog (binM .quo 3 (.tmp 36) (.const (.int .i64 32)) x2 (.int .i64 32)) w_20 fun t37 w_21=>
 ev Tryz.prog (convert 3 30 t37) w_21 fun t38 w_22=>
 ev Tryz.prog (binM .mul 30 (.tmp 38) (.const (.int .u64 ((32:Nat):Int))) t38 (.int .u64 ((32:Nat):Int))) w_22 fun t39 w_23=>
 ev Tryz.prog (binM .add 30 (.tmp 35) (.tmp 39) t35 t39) w_23 fun t40 w_24=>
 ev Tryz.prog (binM .leq 30 (.tmp 40) (.const (.int .u64 ((4096:Nat):Int))) t40 (.int .u64 ((4096:Nat):Int))) w_24 fun t41 w_25=>
 K t41 w_25))
theorem f47_call (x0 x1 x2:Value) (K:K1) (w:World) (h:f47_t x0 x1 x2 K w):callS Tryz.prog 47 #[x0,x1,x2] w K:=
 call_of_txt (args:= [x0,x1,x2]) mixed Tryz.func47 .o (by kernel_rfl) (cast (by kernel_rfl) h)
def f53_t (x0 x1 x2:Value) (K:K1) (w:World):Prop:=
 callS Tryz.prog 77 (pA #[x0,x1]) w fun t10 w_1=>
 ev Tryz.prog (binM .eql 128 (.tmp 11) (.const (.pointer none)) t10 (.pointer none)) w_1 fun t12 w_2=>
 cndS t12 (
 K (.int .i64 5) w_2) (
 nilS Tryz.prog t10 w_2 fun t14 w_3=>
 ev Tryz.prog (Instr.fieldAt 112 t14 1) w_3 fun t15 w_4=>
 ldS Tryz.prog 3 t15 w_4 fun t16 w_5=>
 ev Tryz.prog (binM .lss 3 (.tmp 16) (.const (.int .i64 0)) t16 (.int .i64 0)) w_5 fun t17 w_6=>
 cndS t17 (
 K (.int .i64 8) w_6) (
 nilS Tryz.prog t10 w_6 fun t20 w_7=>
 ev Tryz.prog (Instr.fieldAt 112 t20 3) w_7 fun t21 w_8=>
 stS Tryz.prog 4 t21 x2 w_8 fun w_9=>
 K (.int .i64 0) w_9))
theorem f53_call (x0 x1 x2:Value) (K:K1) (w:World) (h:f53_t x0 x1 x2 K w):callS Tryz.prog 53 #[x0,x1,x2] w K:=
 call_of_txt (args:= [x0,x1,x2]) mixed Tryz.func53 .o (by kernel_rfl) (cast (by kernel_rfl) h)
noncomputable def f60_u:Code×Dec:=((Tryz.f60.body).getD .skip,(.s .o (.x 1 (.s .o (.b (.l [15] 16385 17179836444 .o))) (.x 1 (.s .o (.b (.l [39] 274877906945 2305842459457880556 .o))) .o))))
abbrev f60_e (K:K1):KF:=endK Tryz.prog Tryz.f60.results.toList K
def f60_k1_o (K:K1):KF:=fun fr w=>∀σ,cP (pr (pr f60_u)) (f60_e K) (f60_e K) nX (mixF 1 σ 0 fr) w
def f60_k1 (K:K1) (x0:Value) (w:World):Prop:=f60_k1_o K (fz 69 0 [(0,x0)]) w
def f60_l1 (K:K1) (x0 x14 x15:Value) (w:World):Prop:=loopT [15] 16385 (fun E=>cP (pl (pl (pr (pl (pr f60_u))))) E (f60_e K) (exB 0 (f60_k1_o K) nX)) (fz 69 0 [(0,x0),(14,x14),(15,x15)]) w
def f60_k2_o (K:K1):KF:=fun fr w=>∀σ,cP (pr (pr (pr f60_u))) (f60_e K) (f60_e K) nX (mixF 1 σ 0 fr) w
def f60_k2 (K:K1) (x0:Value) (w:World):Prop:=f60_k2_o K (fz 69 0 [(0,x0)]) w
def f60_l2 (K:K1) (x0 x38 x39:Value) (w:World):Prop:=loopT [39] 274877906945 (fun E=>cP (pl (pl (pr (pl (pr (pr f60_u)))))) E (f60_e K) (exB 2 (f60_k2_o K) nX)) (fz 69 0 [(0,x0),(38,x38),(39,x39)]) w
def f60_k1_t (x0:Value) (K:K1) (w:World):Prop:=
 nilS Tryz.prog x0 w fun t35 w_1=>
 ev Tryz.prog (Instr.fieldAt 108 t35 1) w_1 fun t36 w_2=>
 ldS Tryz.prog 106 t36 w_2 fun t37 w_3=>
 bltS Tryz.prog .len #[106] 3 #[false] #[t37] w_3 fun t38 w_4=>
 f60_l2 K x0 t38 (.int .i64 0) w_4
theorem f60_k1_eq (K:K1) (x0:Value) (w:World):f60_k1 K x0 w=f60_k1_t x0 K w:=cutE fun σ=>by kernel_rfl
def f60_l1_t (x0 x14 x15:Value) (K:K1) (E1:VP1) (w:World):Prop:=
 ev Tryz.prog (binM .lss 3 (.tmp 15) (.tmp 14) x15 x14) w fun t16 w_1=>
 cndS t16 (
 nilS Tryz.prog x0 w_1 fun t19 w_2=>
 ev Tryz.prog (Instr.fieldAt 108 t19 1) w_2 fun t20 w_3=>
 ldS Tryz.prog 106 t20 w_3 fun t21 w_4=>
 ev Tryz.prog (Instr.indexAt 106 t21 x15) w_4 fun t23 w_5=>
 ev Tryz.prog (Instr.fieldAt 112 t23 1) w_5 fun t24 w_6=>
 ldS Tryz.prog 3 t24 w_6 fun t25 w_7=>
 ev Tryz.prog (binM .lss 3 (.tmp 25) (.const (.int .i64 0)) t25 (.int .i64 0)) w_7 fun t26 w_8=>
 cndS t26 (
 nilS Tryz.prog x0 w_8 fun t28 w_9=>
 ev Tryz.prog (Instr.fieldAt 108 t28 1) w_9 fun t29 w_10=>
 ldS Tryz.prog 106 t29 w_10 fun t30 w_11=>
 ev Tryz.prog (Instr.indexAt 106 t30 x15) w_11 fun t32 w_12=>
 K (.tuple #[t32,(.int .i64 0)]) w_12) (
 ev Tryz.prog (binM .add 3 (.tmp 15) (.const (.int .i64 1)) x15 (.int .i64 1)) w_8 fun t33 w_13=>
 E1 t33 w_13)) (
 f60_k1 K x0 w_1)
theorem f60_l1_rule (x0 x14 x15:Value) (K:K1) (w:World) (I:VP1) (μ:Value→World→Nat) (h0:I x15 w)
  (hr:∀(x15:Value) (w:World),I x15 w→∀E1:VP1,(∀(y15:Value) (w':World),I y15 w'→μ y15 w'<μ x15 w→E1 y15 w')→f60_l1_t x0 x14 x15 K E1 w):f60_l1 K x0 x14 x15 w:=
 ⟨I,μ,h0,fun σ w hI E hE=>cast (by kernel_rfl) (hr (σ 15) w hI E hE)⟩
def f60_k2_t (x0:Value) (K:K1) (w:World):Prop:=
 nilS Tryz.prog x0 w fun t62 w_1=>
 ev Tryz.prog (Instr.fieldAt 108 t62 0) w_1 fun t63 w_2=>
 ldS Tryz.prog 66 t63 w_2 fun t64 w_3=>
 invS Tryz.prog t64 "Err" (pA #[]) w_3 fun t65 w_4=>
 ev Tryz.prog (binM .neq 43 (.tmp 66) (.const (.int .i64 0)) t65 (.int .i64 0)) w_4 fun t67 w_5=>
 cndS t67 (
 K (.tuple #[(.pointer none),t65]) w_5) (
 K (.tuple #[(.pointer none),(.int .i64 4)]) w_5)
theorem f60_k2_eq (K:K1) (x0:Value) (w:World):f60_k2 K x0 w=f60_k2_t x0 K w:=cutE fun σ=>by kernel_rfl
def f60_l2_t (x0 x38 x39:Value) (K:K1) (E1:VP1) (w:World):Prop:=
 ev Tryz.prog (binM .lss 3 (.tmp 39) (.tmp 38) x39 x38) w fun t40 w_1=>
 cndS t40 (
 nilS Tryz.prog x0 w_1 fun t43 w_2=>
 ev Tryz.prog (Instr.fieldAt 108 t43 1) w_2 fun t44 w_3=>
 ldS Tryz.prog 106 t44 w_3 fun t45 w_4=>
 ev Tryz.prog (Instr.indexAt 106 t45 x39) w_4 fun t47 w_5=>
 callS Tryz.prog 78 (pA #[x0,t47]) w_5 fun t51 w_6=>
 ev Tryz.prog (Instr.extract t51 0) w_6 fun t52 w_7=>
 ev Tryz.prog (Instr.extract t51 1) w_7 fun t53 w_8=>
 cndS t53 (
 callS Tryz.prog 79 (pA #[x0,t47,t52]) w_8 fun t59 w_9=>
 K (.tuple #[t47,t59]) w_9) (
 ev Tryz.prog (binM .add 3 (.tmp 39) (.const (.int .i64 1)) x39 (.int .i64 1)) w_8 fun t60 w_10=>
 E1 t60 w_10)) (
 f60_k2 K x0 w_1)
theorem f60_l2_rule (x0 x38 x39:Value) (K:K1) (w:World) (I:VP1) (μ:Value→World→Nat) (h0:I x39 w)
  (hr:∀(x39:Value) (w:World),I x39 w→∀E1:VP1,(∀(y39:Value) (w':World),I y39 w'→μ y39 w'<μ x39 w→E1 y39 w')→f60_l2_t x0 x38 x39 K E1 w):f60_l2 K x0 x38 x39 w:=
 ⟨I,μ,h0,fun σ w hI E hE=>cast (by kernel_rfl) (hr (σ 39) w hI E hE)⟩
def f60_t (x0:Value) (K:K1) (w:World):Prop:=
 nilS Tryz.prog x0 w fun t11 w_1=>
 ev Tryz.prog (Instr.fieldAt 108 t11 1) w_1 fun t12 w_2=>
 ldS Tryz.prog 106 t12 w_2 fun t13 w_3=>
 bltS Tryz.prog .len #[106] 3 #[false] #[t13] w_3 fun t14 w_4=>
 f60_l1 K x0 t14 (.int .i64 0) w_4
theorem f60_call (x0:Value) (K:K1) (w:World) (h:f60_t x0 K w):callS Tryz.prog 60 #[x0] w K:=
 call_of_txt (args:= [x0]) mixed Tryz.func60 f60_u.2 (by kernel_rfl) (cast (by kernel_rfl) h)
noncomputable def f77_u:Code×Dec:=((Tryz.f77.body).getD .skip,(.s .o (.s .o (.x 0 (.s .o (.b (.l [13] 4099 8589926448 .o))) .o))))
abbrev f77_e (K:K1):KF:=endK Tryz.prog Tryz.f77.results.toList K
def f77_k1_o (K:K1):KF:=fun fr w=>∀σ,cP (pr (pr (pr f77_u))) (f77_e K) (f77_e K) nX (mixF 0 σ 0 fr) w
def f77_k1 (K:K1) (w:World):Prop:=f77_k1_o K (fz 33 0 []) w
def f77_l1 (K:K1) (x0 x1 x12 x13:Value) (w:World):Prop:=loopT [13] 4099 (fun E=>cP (pl (pl (pr (pl (pr (pr f77_u)))))) E (f77_e K) (exB 0 (f77_k1_o K) nX)) (fz 33 0 [(0,x0),(1,x1),(12,x12),(13,x13)]) w
def f77_k1_t (K:K1) (w:World):Prop:=
 K (.pointer none) w
theorem f77_k1_eq (K:K1) (w:World):f77_k1 K w=f77_k1_t K w:=cutE fun σ=>by kernel_rfl
def f77_l1_t (x0 x1 x12 x13:Value) (K:K1) (E1:VP1) (w:World):Prop:=
 ev Tryz.prog (binM .lss 3 (.tmp 13) (.tmp 12) x13 x12) w fun t14 w_1=>
 cndS t14 (
 nilS Tryz.prog x0 w_1 fun t17 w_2=>
 ev Tryz.prog (Instr.fieldAt 108 t17 1) w_2 fun t18 w_3=>
 ldS Tryz.prog 106 t18 w_3 fun t19 w_4=>
 ev Tryz.prog (Instr.indexAt 106 t19 x13) w_4 fun t21 w_5=>
 ev Tryz.prog (Instr.fieldAt 112 t21 0) w_5 fun t22 w_6=>
 ldS Tryz.prog 3 t22 w_6 fun t23 w_7=>
 ev Tryz.prog (binM .eql 3 (.tmp 23) (.tmp 24) t23 x1) w_7 fun t25 w_8=>
 cndS t25 (
 nilS Tryz.prog x0 w_8 fun t27 w_9=>
 ev Tryz.prog (Instr.fieldAt 108 t27 1) w_9 fun t28 w_10=>
 ldS Tryz.prog 106 t28 w_10 fun t29 w_11=>
 ev Tryz.prog (Instr.indexAt 106 t29 x13) w_11 fun t31 w_12=>
 K t31 w_12) (
 ev Tryz.prog (binM .add 3 (.tmp 13) (.const (.int .i64 1)) x13 (.int .i64 1)) w_8 fun t32 w_13=>
 E1 t32 w_13)) (
 f77_k1 K w_1)
theorem f77_l1_rule (x0 x1 x12 x13:Value) (K:K1) (w:World) (I:VP1) (μ:Value→World→Nat) (h0:I x13 w)
  (hr:∀(x13:Value) (w:World),I x13 w→∀E1:VP1,(∀(y13:Value) (w':World),I y13 w'→μ y13 w'<μ x13 w→E1 y13 w')→f77_l1_t x0 x1 x12 x13 K E1 w):f77_l1 K x0 x1 x12 x13 w:=
 ⟨I,μ,h0,fun σ w hI E hE=>cast (by kernel_rfl) (hr (σ 13) w hI E hE)⟩
def f77_t (x0 x1:Value) (K:K1) (w:World):Prop:=
 ev Tryz.prog (binM .eql 26 (.tmp 6) (.const (.pointer none)) x0 (.pointer none)) w fun t7 w_1=>
 cndS t7 (
 K (.pointer none) w_1) (
 nilS Tryz.prog x0 w_1 fun t9 w_2=>
 ev Tryz.prog (Instr.fieldAt 108 t9 1) w_2 fun t10 w_3=>
 ldS Tryz.prog 106 t10 w_3 fun t11 w_4=>
 bltS Tryz.prog .len #[106] 3 #[false] #[t11] w_4 fun t12 w_5=>
 f77_l1 K x0 x1 t12 (.int .i64 0) w_5)
theorem f77_call (x0 x1:Value) (K:K1) (w:World) (h:f77_t x0 x1 K w):callS Tryz.prog 77 #[x0,x1] w K:=
 call_of_txt (args:= [x0,x1]) mixed Tryz.func77 f77_u.2 (by kernel_rfl) (cast (by kernel_rfl) h)
noncomputable def f78_u:Code×Dec:=((Tryz.f78.body).getD .skip,(.s .o (.s .o (.x 194 .o .o))))
abbrev f78_e (K:K1):KF:=endK Tryz.prog Tryz.f78.results.toList K
def f78_k1_o (K:K1):KF:=fun fr w=>∀σ,cP (pr (pr (pr f78_u))) (f78_e K) (f78_e K) nX (mixF 194 σ 0 fr) w
def f78_k1 (K:K1) (x1 x6 x7:Value) (w:World):Prop:=f78_k1_o K (fz 55 0 [(1,x1),(6,x6),(7,x7)]) w
def f78_k1_t (x1 x6 x7:Value) (K:K1) (w:World):Prop:=
 ev Tryz.prog (binM .neq 43 (.tmp 34) (.const (.int .i64 0)) x7 (.int .i64 0)) w fun t35 w_1=>
 cndS t35 (
 K (.tuple #[(.slice none 0 0),(.bool false)]) w_1) (
 ldS Tryz.prog 69 x6 w_1 fun t37 w_2=>
 callS Tryz.prog 110 (pA #[t37]) w_2 fun t38 w_3=>
 ev Tryz.prog (Instr.extract t38 0) w_3 fun t39 w_4=>
 ev Tryz.prog (Instr.extract t38 1) w_4 fun t40 w_5=>
 ev Tryz.prog (Op.unary .not t40) w_5 fun t42 w_6=>
 cndS t42 (
 K (.tuple #[(.slice none 0 0),(.bool false)]) w_6) (
 nilS Tryz.prog x1 w_6 fun t45 w_7=>
 ev Tryz.prog (Instr.fieldAt 112 t45 0) w_7 fun t46 w_8=>
 ldS Tryz.prog 3 t46 w_8 fun t47 w_9=>
 callS Tryz.prog 82 (pA #[t47,t39]) w_9 fun t49 w_10=>
 ev Tryz.prog (Instr.extract t49 0) w_10 fun t50 w_11=>
 ev Tryz.prog (Instr.extract t49 1) w_11 fun t51 w_12=>
 ev Tryz.prog (binM .eql 43 (.tmp 53) (.const (.int .i64 0)) t51 (.int .i64 0)) w_12 fun t54 w_13=>
 K (.tuple #[t50,t54]) w_13))
theorem f78_k1_eq (K:K1) (x1 x6 x7:Value) (w:World):f78_k1 K x1 x6 x7 w=f78_k1_t x1 x6 x7 K w:=cutE fun σ=>by kernel_rfl
def f78_t (x0 x1:Value) (K:K1) (w:World):Prop:=
 nilS Tryz.prog x1 w fun t12 w_1=>
 ev Tryz.prog (Instr.fieldAt 112 t12 1) w_1 fun t13 w_2=>
 ldS Tryz.prog 3 t13 w_2 fun t14 w_3=>
 ev Tryz.prog (binM .lss 3 (.tmp 14) (.const (.int .i64 0)) t14 (.int .i64 0)) w_3 fun t15 w_4=>
 gd t15 false (fun k=>k x1 w_4) w_4 fun t17 w_5=>
 gd t15 false (fun k=>nilS Tryz.prog t17 w_5 k) w_5 fun t18 w_6=>
 gd t15 false (fun k=>ev Tryz.prog (Instr.fieldAt 112 t18 3) w_6 k) w_6 fun t19 w_7=>
 gd t15 false (fun k=>ldS Tryz.prog 4 t19 w_7 k) w_7 fun t20 w_8=>
 pickS t15 (.bool true) t20 w_8 fun t21 w_9=>
 cndS t21 (
 K (.tuple #[(.slice none 0 0),(.bool false)]) w_9) (
 nilR Tryz.prog x0 w_9.drew fun t24=>
 rd Tryz.prog (Instr.fieldAt 108 t24 0) w_9.drew fun t25=>
 ldR Tryz.prog 66 t25 w_9.drew fun t26=>
 nilR Tryz.prog x1 w_9.drew fun t28=>
 rd Tryz.prog (Instr.fieldAt 112 t28 0) w_9.drew fun t29=>
 ldR Tryz.prog 3 t29 w_9.drew fun t30=>
 (callS Tryz.prog 23 (pA #[t26,t30]) w_9.drew fun t31 w_10=>
 rd Tryz.prog (Instr.extract t31 0) w_10 fun t32=>
 rd Tryz.prog (Instr.extract t31 1) w_10 fun t33=>
 ev Tryz.prog (Instr.alloc 69 true (.tuple #[])) w_10 fun t6 w_11=>
 (nilR Tryz.prog x0 w_11 (fun u=>u=t24))∧
 (ag Tryz.prog (Instr.fieldAt 108 t24 0) w_11 t25)∧
 (ldG Tryz.prog 66 t25 w_11 t26)∧
 (nilR Tryz.prog x1 w_11 (fun u=>u=t28))∧
 (ag Tryz.prog (Instr.fieldAt 112 t28 0) w_11 t29)∧
 (ldG Tryz.prog 3 t29 w_11 t30)∧
 stS Tryz.prog 69 t6 t32 w_11 fun w_12=>
 f78_k1 K x1 t6 t33 w_12)∧
 (ev Tryz.prog (Instr.alloc 69 true (.tuple #[])) w_9.drew fun t6_1 w_13=>
 (nilR Tryz.prog x0 w_13 (fun u=>u=t24))∧
 (ag Tryz.prog (Instr.fieldAt 108 t24 0) w_13 t25)∧
 (ldG Tryz.prog 66 t25 w_13 t26)∧
 (nilR Tryz.prog x1 w_13 (fun u=>u=t28))∧
 (ag Tryz.prog (Instr.fieldAt 112 t28 0) w_13 t29)∧
 (ldG Tryz.prog 3 t29 w_13 t30)∧
 callS Tryz.prog 23 (pA #[t26,t30]) w_13 fun t31_1 w_14=>
 rd Tryz.prog (Instr.extract t31_1 0) w_14 fun t32_1=>
 rd Tryz.prog (Instr.extract t31_1 1) w_14 fun t33_1=>
 stS Tryz.prog 69 t6_1 t32_1 w_14 fun w_15=>
 f78_k1 K x1 t6_1 t33_1 w_15))
theorem f78_call (x0 x1:Value) (K:K1) (w:World) (h:f78_t x0 x1 K w):callS Tryz.prog 78 #[x0,x1] w K:=
 call_of_txt (args:= [x0,x1]) mixed Tryz.func78 f78_u.2 (by kernel_rfl) (cast (by kernel_rfl) h)
def f79_t (x0 x1 x2:Value) (K:K1) (w:World):Prop:=
 nilS Tryz.prog x0 w fun t10 w_1=>
 ev Tryz.prog (Instr.fieldAt 108 t10 0) w_1 fun t11 w_2=>
 ldS Tryz.prog 66 t11 w_2 fun t12 w_3=>
 callS Tryz.prog 62 (pA #[x2,t12]) w_3 fun t13 w_4=>
 ev Tryz.prog (binM .neq 43 (.tmp 14) (.const (.int .i64 0)) t13 (.int .i64 0)) w_4 fun t15 w_5=>
 cndS t15 (
 K t13 w_5) (
 nilS Tryz.prog x1 w_5 fun t19 w_6=>
 ev Tryz.prog (Instr.fieldAt 112 t19 1) w_6 fun t20 w_7=>
 stS Tryz.prog 3 t20 (.int .i64 (-1)) w_7 fun w_8=>
 nilS Tryz.prog x1 w_8 fun t21 w_9=>
 ev Tryz.prog (Instr.fieldAt 112 t21 2) w_9 fun t22 w_10=>
 stS Tryz.prog 3 t22 (.int .i64 (-1)) w_10 fun w_11=>
 K (.int .i64 0) w_11)
theorem f79_call (x0 x1 x2:Value) (K:K1) (w:World) (h:f79_t x0 x1 x2 K w):callS Tryz.prog 79 #[x0,x1,x2] w K:=
 call_of_txt (args:= [x0,x1,x2]) mixed Tryz.func79 .o (by kernel_rfl) (cast (by kernel_rfl) h)
end Go.Proofs.YtifpinhjpbgnoaaGreatDoor
