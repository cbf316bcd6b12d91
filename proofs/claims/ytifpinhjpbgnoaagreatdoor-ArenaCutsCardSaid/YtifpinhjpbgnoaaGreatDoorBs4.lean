/-
  Part 4 of what the proofs of this seat share.
-/
import Derived.Test.YtifpinhjpbgnoaaGreatDoorBs3
import Derived.Test.YtifpinhjpbgnoaaGreatDoorBs2
import Derived.Test.YtifpinhjpbgnoaaGreatDoorBs1
set_option linter.unusedSimpArgs false
set_option linter.unusedVariables false
set_option maxHeartbeats 4000000
set_option maxRecDepth 100000
open Go.Proofs.Tryz (prog)
open Go.RowKit (intOf)
namespace Go.Proofs.YtifpinhjpbgnoaaGreatDoor
open Go Go.Sh
def blkV (g k s:Nat):Value:= .agg #[.int .u16 (g:Int),.int .u8 (k:Int),.int .u8 (s:Int)]
def isS (x:Nat):Bool:=decide (sealN (x%4294967296)=x)
def gX (x:Nat):Nat:=x%65536
def kX (x:Nat):Nat:=x/65536%256
def sX (x:Nat):Nat:=x/16777216%256
theorem k_sealed (x:Nat) (w:World) (K:K1) (hG:Glob w) (hx:x<18446744073709551616) (h:∀w',Ext w w'→K (.tuple #[if isS x then blkV (gX x) (kX x) (sX x) else blkV 0 0 0,.bool (isS x)]) w'):callS prog 107 #[.int .u64 x] w K:=by
 refine f107_call _ _ _ ?_
 unfold f107_t
 by_cases hs:sealN (x%4294967296)=x
 ·have e:isS x=true:=decide_eq_true hs
  rw [e] at h
  have e1:x%4294967296%65536=gX x:=by unfold gX;omega
  have e2:x%4294967296/2^16%256=kX x:=by unfold kX;omega
  have e3:x%4294967296/2^24%256=sX x:=by unfold sX;omega
  simp (disch:=first|omega|simp only [RO]|(simp only [RZ]<;>omega)|fail) only [↓RA,↓reduceIte,Nat.reduceAdd,Nat.reduceMul,Nat.reduceEqDiff,RB,RW,RS,fun o x K=>c_seal x (w.alloc o) K (hG.alloc o),hs,e1,e2,e3]
  exact h _ (by repeat (first|(with_reducible first|refine eB ?_ _|assumption|exact eR _|refine eA ?_ _|refine eD ?_|refine eT ?_ (by assumption))|exact eR _))
 ·have e:isS x=false:=decide_eq_false hs
  rw [e] at h
  simp (disch:=first|omega|simp only [RO]|(simp only [RZ]<;>omega)|fail) only [↓RA,↓reduceIte,Nat.reduceAdd,Nat.reduceMul,Nat.reduceEqDiff,RB,RW,RS,fun o x K=>c_seal x (w.alloc o) K (hG.alloc o),hs]
  exact h _ (by repeat (first|(with_reducible first|refine eB ?_ _|assumption|exact eR _|refine eA ?_ _|refine eD ?_|refine eT ?_ (by assumption))|exact eR _))
def hdV (c o:Int) (g:Nat):Value:= .agg #[.int .i64 c,.int .i64 o,.int .u16 (g:Int)]
def fmtB (c o:Int):Bool:=decide (0≤c)&&decide (c<5)&&decide (0≤o)&&decide (o<8)
theorem perS_out {c:Int} (h:¬(0≤c∧c<5)):perS c=0:=by unfold perS;rw [if_pos (wordsS_out h)]
theorem c_formatted (c o:Int) (g:Nat) (w:World) (K:K1) (hG:Glob w):callS prog 98 #[.agg #[.int .i64 c,.int .i64 o,.int .u16 (g:Int)]] w K=K (.bool (fmtB c o)) (w.alloc (hdO c o g)):=by
 refine callS_det (by kernel_rfl) (f98_call _ _ _ ?_) K
 unfold f98_t fmtB
 by_cases h:0≤c∧c<5
 ·have hp:=perS_in h.1 h.2
  by_cases h1:0≤o
  ·by_cases h2:o<8
   ·simp (disch:=first|omega|simp only [RO]|(simp only [RZ]<;>omega)|fail) only [↓RA,↓reduceIte,Nat.reduceAdd,Nat.reduceMul,Nat.reduceEqDiff,RB,RW,RS,fun q x K=>c_PerChunk x (w.alloc q) K (hG.alloc q),hdO]
   ·simp (disch:=first|omega|simp only [RO]|(simp only [RZ]<;>omega)|fail) only [↓RA,↓reduceIte,Nat.reduceAdd,Nat.reduceMul,Nat.reduceEqDiff,RB,RW,RS,fun q x K=>c_PerChunk x (w.alloc q) K (hG.alloc q),hdO]
  ·simp (disch:=first|omega|simp only [RO]|(simp only [RZ]<;>omega)|fail) only [↓RA,↓reduceIte,Nat.reduceAdd,Nat.reduceMul,Nat.reduceEqDiff,RB,RW,RS,fun q x K=>c_PerChunk x (w.alloc q) K (hG.alloc q),hdO]
 ·have hp:=perS_out h
  have e:(decide (0≤c)&&decide (c<5))=false:=by simp only [Bool.and_eq_false_iff,decide_eq_false_iff_not];omega
  simp (disch:=first|omega|simp only [RO]|(simp only [RZ]<;>omega)|fail) only [↓RA,↓reduceIte,Nat.reduceAdd,Nat.reduceMul,Nat.reduceEqDiff,RB,RW,RS,fun q x K=>c_PerChunk x (w.alloc q) K (hG.alloc q),hdO,hp,e]
def hC (x:Nat):Int:=((x/65536%16:Nat):Int)-1
def hO (x:Nat):Int:=((x/1048576%16:Nat):Int)-1
def hdOk (x:Nat):Bool:=isS x&&decide (sX x=197)&& !decide (gX x=0)&&((decide (hC x<0)&&decide (hO x<0))||fmtB (hC x) (hO x))
theorem and15 (x:Nat):x&&&15=x%16:=Nat.and_two_pow_sub_one_eq_mod x 4
theorem k_header (x:Nat) (w:World) (K:K1) (hG:Glob w) (hx:x<18446744073709551616) (h:∀w',Ext w w'→K (.tuple #[if hdOk x then hdV (hC x) (hO x) (gX x) else hdV 0 0 0,.bool (hdOk x)]) w'):callS prog 87 #[.int .u64 x] w K:=by
 refine f87_call _ _ _ ?_
 unfold f87_t
 by_cases hs:sealN (x%4294967296)=x
 ·have e0:isS x=true:=decide_eq_true hs
  have e3:x%4294967296/2^24=sX x:=by unfold sX;omega
  have e1:x%4294967296%65536=gX x:=by unfold gX;omega
  by_cases hm:sX x=197
  ·by_cases hg:gX x=0
   ·have e:hdOk x=false:=by simp [hdOk,hg]
    rw [e] at h
    simp (disch:=first|omega|simp only [RO]|(simp only [RZ]<;>omega)|fail) only [↓RA,↓reduceIte,Nat.reduceAdd,Nat.reduceMul,Nat.reduceEqDiff,RB,RW,RS,fun o x K=>c_seal x (w.alloc o) K (hG.alloc o),hs,e3,e1,hm,hg]
    exact h _ (by repeat (first|(with_reducible first|refine eB ?_ _|assumption|exact eR _|refine eA ?_ _|refine eD ?_|refine eT ?_ (by assumption))|exact eR _))
   ·have c1:((x%4294967296/2^16%16:Nat):Int)-1=hC x:=by unfold hC;omega
    have c2:((x%4294967296/2^20%16:Nat):Int)-1=hO x:=by unfold hO;omega
    have b1: -1≤hC x∧hC x≤14:=by unfold hC;omega
    have b2: -1≤hO x∧hO x≤14:=by unfold hO;omega
    have e:hdOk x=((decide (hC x<0)&&decide (hO x<0))||fmtB (hC x) (hO x)):=by simp [hdOk,e0,hm,hg]
    rw [e] at h
    clear e
    by_cases n1:hC x<0
    ·by_cases n2:hO x<0
     ·have e:((decide (hC x<0)&&decide (hO x<0))||fmtB (hC x) (hO x))=true:=by simp [n1,n2]
      rw [e] at h
      simp (disch:=first|omega|simp only [RO]|(simp only [RZ]<;>omega)|fail) only [↓RA,↓reduceIte,Nat.reduceAdd,Nat.reduceMul,Nat.reduceEqDiff,RB,RW,RS,fun o x K=>c_seal x (w.alloc o) K (hG.alloc o),hs,e3,e1,hm,hg,and15,c1,c2]
      exact h _ (by repeat (first|(with_reducible first|refine eB ?_ _|assumption|exact eR _|refine eA ?_ _|refine eD ?_|refine eT ?_ (by assumption))|exact eR _))
     ·have e:((decide (hC x<0)&&decide (hO x<0))||fmtB (hC x) (hO x))=false:=by simp [fmtB,n2];omega
      have ef:fmtB (hC x) (hO x)=false:=by simp [fmtB];omega
      rw [e] at h
      simp (disch:=first|omega|simp only [RO]|(simp only [RZ]<;>omega)|fail) only [↓RA,↓reduceIte,Nat.reduceAdd,Nat.reduceMul,Nat.reduceEqDiff,RB,RW,RS,fun o x K=>c_seal x (w.alloc o) K (hG.alloc o),fun a b c d e g K=>c_formatted d e g (((w.alloc a).alloc b).alloc c) K (((hG.alloc a).alloc b).alloc c),hs,e3,e1,hm,hg,and15,c1,c2,ef]
      exact h _ (by repeat (first|(with_reducible first|refine eB ?_ _|assumption|exact eR _|refine eA ?_ _|refine eD ?_|refine eT ?_ (by assumption))|exact eR _))
    ·have e:((decide (hC x<0)&&decide (hO x<0))||fmtB (hC x) (hO x))=fmtB (hC x) (hO x):=by simp [n1]
     rw [e] at h
     cases ef:fmtB (hC x) (hO x) with
     |true=>
      rw [ef] at h
      simp (disch:=first|omega|simp only [RO]|(simp only [RZ]<;>omega)|fail) only [↓RA,↓reduceIte,Nat.reduceAdd,Nat.reduceMul,Nat.reduceEqDiff,RB,RW,RS,fun o x K=>c_seal x (w.alloc o) K (hG.alloc o),fun a b c d e g K=>c_formatted d e g (((w.alloc a).alloc b).alloc c) K (((hG.alloc a).alloc b).alloc c),hs,e3,e1,hm,hg,and15,c1,c2,ef]
      exact h _ (by repeat (first|(with_reducible first|refine eB ?_ _|assumption|exact eR _|refine eA ?_ _|refine eD ?_|refine eT ?_ (by assumption))|exact eR _))
     |false=>
      rw [ef] at h
      simp (disch:=first|omega|simp only [RO]|(simp only [RZ]<;>omega)|fail) only [↓RA,↓reduceIte,Nat.reduceAdd,Nat.reduceMul,Nat.reduceEqDiff,RB,RW,RS,fun o x K=>c_seal x (w.alloc o) K (hG.alloc o),fun a b c d e g K=>c_formatted d e g (((w.alloc a).alloc b).alloc c) K (((hG.alloc a).alloc b).alloc c),hs,e3,e1,hm,hg,and15,c1,c2,ef]
      exact h _ (by repeat (first|(with_reducible first|refine eB ?_ _|assumption|exact eR _|refine eA ?_ _|refine eD ?_|refine eT ?_ (by assumption))|exact eR _))
  ·have e:hdOk x=false:=by simp [hdOk,hm]
   rw [e] at h
   simp (disch:=first|omega|simp only [RO]|(simp only [RZ]<;>omega)|fail) only [↓RA,↓reduceIte,Nat.reduceAdd,Nat.reduceMul,Nat.reduceEqDiff,RB,RW,RS,fun o x K=>c_seal x (w.alloc o) K (hG.alloc o),hs,e3,hm]
   exact h _ (by repeat (first|(with_reducible first|refine eB ?_ _|assumption|exact eR _|refine eA ?_ _|refine eD ?_|refine eT ?_ (by assumption))|exact eR _))
 ·have e0:isS x=false:=decide_eq_false hs
  have e:hdOk x=false:=by simp [hdOk,e0]
  rw [e] at h
  simp (disch:=first|omega|simp only [RO]|(simp only [RZ]<;>omega)|fail) only [↓RA,↓reduceIte,Nat.reduceAdd,Nat.reduceMul,Nat.reduceEqDiff,RB,RW,RS,fun o x K=>c_seal x (w.alloc o) K (hG.alloc o),hs]
  exact h _ (by repeat (first|(with_reducible first|refine eB ?_ _|assumption|exact eR _|refine eA ?_ _|refine eD ?_|refine eT ?_ (by assumption))|exact eR _))
def goodB (g k s:Nat):Bool:=if s=176 then decide (g≠0)&&decide (k=0) else if s=177 then decide (g≠0)&&decide (k≠0)&&decide (k≤127) else if s=178 then decide (g=65535)&&decide (k=0) else false
theorem c_good (g k s:Nat) (w:World) (K:K1):callS prog 66 #[.agg #[.int .u16 (g:Int),.int .u8 (k:Int),.int .u8 (s:Int)]] w K=K (.bool (goodB g k s)) (w.alloc (blkO g k s)):=by
 refine callS_det (by kernel_rfl) (f66_call _ _ _ ?_) K
 unfold f66_t goodB
 by_cases h1:s=176
 ·by_cases h2:g=0
  ·simp (disch:=first|omega|simp only [RO]|(simp only [RZ]<;>omega)|fail) only [↓RA,↓reduceIte,Nat.reduceAdd,Nat.reduceMul,Nat.reduceEqDiff,RB,RW,RS,blkO,h1,h2]
  ·by_cases h3:k=0
   ·simp (disch:=first|omega|simp only [RO]|(simp only [RZ]<;>omega)|fail) only [↓RA,↓reduceIte,Nat.reduceAdd,Nat.reduceMul,Nat.reduceEqDiff,RB,RW,RS,blkO,h1,h2,h3]
   ·simp (disch:=first|omega|simp only [RO]|(simp only [RZ]<;>omega)|fail) only [↓RA,↓reduceIte,Nat.reduceAdd,Nat.reduceMul,Nat.reduceEqDiff,RB,RW,RS,blkO,h1,h2,h3]
 ·by_cases h2:s=177
  ·by_cases h3:g=0
   ·simp (disch:=first|omega|simp only [RO]|(simp only [RZ]<;>omega)|fail) only [↓RA,↓reduceIte,Nat.reduceAdd,Nat.reduceMul,Nat.reduceEqDiff,RB,RW,RS,blkO,h1,h2,h3]
   ·by_cases h4:k=0
    ·simp (disch:=first|omega|simp only [RO]|(simp only [RZ]<;>omega)|fail) only [↓RA,↓reduceIte,Nat.reduceAdd,Nat.reduceMul,Nat.reduceEqDiff,RB,RW,RS,blkO,h1,h2,h3,h4]
    ·by_cases h5:k≤127
     ·simp (disch:=first|omega|simp only [RO]|(simp only [RZ]<;>omega)|fail) only [↓RA,↓reduceIte,Nat.reduceAdd,Nat.reduceMul,Nat.reduceEqDiff,RB,RW,RS,blkO,h1,h2,h3,h4,h5]
     ·simp (disch:=first|omega|simp only [RO]|(simp only [RZ]<;>omega)|fail) only [↓RA,↓reduceIte,Nat.reduceAdd,Nat.reduceMul,Nat.reduceEqDiff,RB,RW,RS,blkO,h1,h2,h3,h4,h5]
  ·by_cases h3:s=178
   ·by_cases h4:g=65535
    ·by_cases h5:k=0
     ·simp (disch:=first|omega|simp only [RO]|(simp only [RZ]<;>omega)|fail) only [↓RA,↓reduceIte,Nat.reduceAdd,Nat.reduceMul,Nat.reduceEqDiff,RB,RW,RS,blkO,h1,h2,h3,h4,h5]
     ·simp (disch:=first|omega|simp only [RO]|(simp only [RZ]<;>omega)|fail) only [↓RA,↓reduceIte,Nat.reduceAdd,Nat.reduceMul,Nat.reduceEqDiff,RB,RW,RS,blkO,h1,h2,h3,h4,h5]
    ·simp (disch:=first|omega|simp only [RO]|(simp only [RZ]<;>omega)|fail) only [↓RA,↓reduceIte,Nat.reduceAdd,Nat.reduceMul,Nat.reduceEqDiff,RB,RW,RS,blkO,h1,h2,h3,h4]
   ·simp (disch:=first|omega|simp only [RO]|(simp only [RZ]<;>omega)|fail) only [↓RA,↓reduceIte,Nat.reduceAdd,Nat.reduceMul,Nat.reduceEqDiff,RB,RW,RS,blkO,h1,h2,h3]
theorem c_NextGen (g:Nat) (w:World) (K:K1) (hg:g<65536):callS prog 121 #[.int .u16 (g:Int)] w K=K (.tuple #[.int .u16 ((if g=65535 then 0 else g+1:Nat):Int),.bool (!decide (g=65535))]) w:=by
 refine callS_det (by kernel_rfl) (f121_call _ _ _ ?_) K
 unfold f121_t
 by_cases h:g=65535
 ·simp (disch:=first|omega|simp only [RO]|(simp only [RZ]<;>omega)|fail) only [↓RA,↓reduceIte,Nat.reduceAdd,Nat.reduceMul,Nat.reduceEqDiff,RB,RW,RS,h]
 ·simp (disch:=first|omega|simp only [RO]|(simp only [RZ]<;>omega)|fail) only [↓RA,↓reduceIte,Nat.reduceAdd,Nat.reduceMul,Nat.reduceEqDiff,RB,RW,RS,h]
def freG (g:Nat):Nat:=if g=65535 then 65535 else g+1
def freS (g:Nat):Nat:=if g=65535 then 178 else 176
theorem c_freed (g k s:Nat) (w:World) (K:K1) (hg:g<65536):callS prog 108 #[.agg #[.int .u16 (g:Int),.int .u8 (k:Int),.int .u8 (s:Int)]] w K=K (.agg #[.int .u16 ((freG g:Nat):Int),.int .u8 ((0:Nat):Int),.int .u8 ((freS g:Nat):Int)]) ((w.alloc (blkO g k s)).alloc (blkO (freG g) 0 (freS g))):=by
 refine callS_det (by kernel_rfl) (f108_call _ _ _ ?_) K
 unfold f108_t
 by_cases h:g=65535
 ·simp (disch:=first|omega|simp only [RO]|(simp only [RZ]<;>omega)|fail) only [↓RA,↓reduceIte,Nat.reduceAdd,Nat.reduceMul,Nat.reduceEqDiff,RB,RW,RS,h,c_NextGen,freG,freS,blkO]
 ·simp (disch:=first|omega|simp only [RO]|(simp only [RZ]<;>omega)|fail) only [↓RA,↓reduceIte,Nat.reduceAdd,Nat.reduceMul,Nat.reduceEqDiff,RB,RW,RS,h,c_NextGen,freG,freS,blkO]
def ptrOk (off g k:Nat):Bool:=decide (off≠0)&&decide (off%8=0)&&decide (g≠0)&&decide (k≠0)&&decide (k≤127)
def ptrN (off g k:Nat):Nat:=off/8+g*4294967296+k*281474976710656
theorem ptr_or {a g k:Nat} (ha:a<4294967296) (hg:g<65536) (hk:k<65536):(a|||g*2^32)|||k*2^48=a+g*4294967296+k*281474976710656:=by
 have h1:=or_add (a:=g) (b:=a) (k:=32) (by omega)
 rw [Nat.mul_comm g,Nat.mul_comm k,Nat.or_comm a,h1]
 have h2:=or_add (a:=k) (b:=2^32*g+a) (k:=48) (by omega)
 rw [Nat.or_comm,h2];omega
theorem ptr_s1 {g:Nat} (hg:g<65536):g*2^32%18446744073709551616=g*2^32:=Nat.mod_eq_of_lt (by omega)
theorem ptr_s2 {k:Nat} (hk:k<256):k*2^48%18446744073709551616=k*2^48:=Nat.mod_eq_of_lt (by omega)
theorem ptr_lt {a g:Nat} (ha:a<4294967296) (hg:g<65536):(a|||g*2^32<18446744073709551616)=True:=eq_true (Nat.or_lt_two_pow (n:=64) (by omega) (by omega))
theorem c_Make (off g k:Nat) (w:World) (K:K1) (ho:off<18446744073709551616) (hg:g<65536) (hk:k<256):callS prog 67 #[.int .u64 (off:Int),.int .u16 (g:Int),.int .u8 (k:Int)] w K=K (.tuple #[.int .u64 ((if ptrOk off g k=true∧off≤34359738360 then ptrN off g k else 0:Nat):Int),.int .i64 (if ptrOk off g k=true then if off≤34359738360 then 0 else 2 else 1)]) w:=by
 refine callS_det (by kernel_rfl) (f67_call _ _ _ _ _ ?_) K
 unfold f67_t
 cases hb:ptrOk off g k with
 |false=>
  by_cases h1:off=0
  ·simp (disch:=first|omega|simp only [RO]|(simp only [RZ]<;>omega)|fail) only [↓RA,↓reduceIte,Nat.reduceAdd,Nat.reduceMul,Nat.reduceEqDiff,RB,RW,RS,RI,h1]
  ·by_cases h2:off%8=0
   ·by_cases h3:g=0
    ·simp (disch:=first|omega|simp only [RO]|(simp only [RZ]<;>omega)|fail) only [↓RA,↓reduceIte,Nat.reduceAdd,Nat.reduceMul,Nat.reduceEqDiff,RB,RW,RS,RI,h1,h2,h3]
    ·by_cases h4:k=0
     ·simp (disch:=first|omega|simp only [RO]|(simp only [RZ]<;>omega)|fail) only [↓RA,↓reduceIte,Nat.reduceAdd,Nat.reduceMul,Nat.reduceEqDiff,RB,RW,RS,RI,h1,h2,h3,h4]
     ·have h5:¬k≤127:=by simp [ptrOk,h1,h2,h3,h4] at hb;omega
      simp (disch:=first|omega|simp only [RO]|(simp only [RZ]<;>omega)|fail) only [↓RA,↓reduceIte,Nat.reduceAdd,Nat.reduceMul,Nat.reduceEqDiff,RB,RW,RS,RI,h1,h2,h3,h4,h5]
   ·simp (disch:=first|omega|simp only [RO]|(simp only [RZ]<;>omega)|fail) only [↓RA,↓reduceIte,Nat.reduceAdd,Nat.reduceMul,Nat.reduceEqDiff,RB,RW,RS,RI,h1,h2]
 |true=>
  have h:off≠0∧off%8=0∧g≠0∧k≠0∧k≤127:=by simpa [ptrOk,and_assoc] using hb
  by_cases h6:off≤34359738360
  ·have s3:off/8|||g*2^32<18446744073709551616:=of_eq_true (ptr_lt (show off/8<4294967296 by omega) hg)
   simp (disch:=first|omega|simp only [RO]|(simp only [RZ]<;>omega)|fail) only [↓RA,↓reduceIte,Nat.reduceAdd,Nat.reduceMul,Nat.reduceEqDiff,RB,RW,RS,RI,h6,ptrN,ptr_s1 hg,ptr_s2 hk,ptr_or (show off/8<4294967296 by omega) hg (show k<65536 by omega)]
  ·simp (disch:=first|omega|simp only [RO]|(simp only [RZ]<;>omega)|fail) only [↓RA,↓reduceIte,Nat.reduceAdd,Nat.reduceMul,Nat.reduceEqDiff,RB,RW,RS,RI,h6]
theorem c_rWords (c:Int) (w:World) (K:K1):callS prog 124 #[.int .i64 c] w K=K (.int .i64 (wordsS c)) w:=by
 refine callS_det (by kernel_rfl) (f124_call _ _ _ ?_) K
 unfold f124_t
 by_cases h:0≤c∧c<5
 ·have h':c=0∨c=1∨c=2∨c=3∨c=4:=by omega
  rcases h' with rfl|rfl|rfl|rfl|rfl
  ·simp (disch:=first|omega|simp only [RO]|(simp only [RZ]<;>omega)|fail) only [↓RA,↓reduceIte,Nat.reduceAdd,Nat.reduceMul,Nat.reduceEqDiff,RB,show wordsS 0=3 from rfl]
  ·simp (disch:=first|omega|simp only [RO]|(simp only [RZ]<;>omega)|fail) only [↓RA,↓reduceIte,Nat.reduceAdd,Nat.reduceMul,Nat.reduceEqDiff,RB,show wordsS 1=7 from rfl]
  ·simp (disch:=first|omega|simp only [RO]|(simp only [RZ]<;>omega)|fail) only [↓RA,↓reduceIte,Nat.reduceAdd,Nat.reduceMul,Nat.reduceEqDiff,RB,show wordsS 2=15 from rfl]
  ·simp (disch:=first|omega|simp only [RO]|(simp only [RZ]<;>omega)|fail) only [↓RA,↓reduceIte,Nat.reduceAdd,Nat.reduceMul,Nat.reduceEqDiff,RB,show wordsS 3=31 from rfl]
  ·simp (disch:=first|omega|simp only [RO]|(simp only [RZ]<;>omega)|fail) only [↓RA,↓reduceIte,Nat.reduceAdd,Nat.reduceMul,Nat.reduceEqDiff,RB,show wordsS 4=60 from rfl]
 ·simp (disch:=first|omega|simp only [RO]|(simp only [RZ]<;>omega)|fail) only [↓RA,↓reduceIte,Nat.reduceAdd,Nat.reduceMul,Nat.reduceEqDiff,RB,wordsS_out h]
theorem per_mul {c n:Int} (h0:0≤c) (h1:c<5):(8+(n+1)*(wordsS c+1)≤256)=(n<perS c):=by
 have hp:=perS_in h0 h1
 have hw:=wordsS_in h0 h1
 have:c=0∨c=1∨c=2∨c=3∨c=4:=by omega
 rcases this with rfl|rfl|rfl|rfl|rfl<;>(rw [hp.1,hw.1];simp [payN];omega)
theorem c_rPer (c:Int) (w:World) (K:K1):callS prog 114 #[.int .i64 c] w K=K (.int .i64 (perS c)) w:=by
 refine callS_det (by kernel_rfl) (f114_call _ _ _ ?_) K
 unfold f114_t
 by_cases h:0≤c∧c<5
 ·have hp:=perS_in h.1 h.2
  have hw:=wordsS_in h.1 h.2
  apply f114_l1_rule (I:=fun x3 w'=>∃k:Int,0≤k∧k≤perS c∧w'=w∧x3= .int .i64 k) (μ:=fun x3 _=>100-(intOf x3).toNat)
  ·exact ⟨0,by omega,by omega,rfl,rfl⟩
  ·rintro x3 w' ⟨k,hk0,hk,rfl,rfl⟩ E1 hE
   unfold f114_l1_t
   have hm:=per_mul (n:=k) h.1 h.2
   have hb:0≤(k+1)*(wordsS c+1)∧(k+1)*(wordsS c+1)≤6000:=⟨Int.mul_nonneg (by omega) (by omega),Int.le_trans (Int.mul_le_mul (show k+1≤63 by omega) (show wordsS c+1≤61 by omega) (by omega) (by omega)) (by omega)⟩
   by_cases hk':k<perS c
   ·have hm':8+(k+1)*(wordsS c+1)≤256:=by rw [hm];exact hk'
    simp (disch:=first|omega|simp only [RO]|(simp only [RZ]<;>omega)|fail) only [↓RA,↓reduceIte,Nat.reduceAdd,Nat.reduceMul,Nat.reduceEqDiff,RB,c_rWords]
    refine hE _ _ ⟨k+1,by omega,by omega,rfl,rfl⟩ ?_
    simp [intOf];omega
   ·have hm':¬8+(k+1)*(wordsS c+1)≤256:=by rw [hm];exact hk'
    have e:perS c=k:=by omega
    simp (disch:=first|omega|simp only [RO]|(simp only [RZ]<;>omega)|fail) only [↓RA,↓reduceIte,Nat.reduceAdd,Nat.reduceMul,Nat.reduceEqDiff,RB,c_rWords,f114_k1_eq,f114_k1_t,e]
 ·have hp:=perS_out h
  have hw:=wordsS_out h
  apply f114_l1_rule (I:=fun x3 w'=>w'=w∧x3= .int .i64 0) (μ:=fun x3 _=>0)
  ·exact ⟨rfl,rfl⟩
  ·rintro x3 w' ⟨rfl,rfl⟩ E1 hE
   unfold f114_l1_t
   simp (disch:=first|omega|simp only [RO]|(simp only [RZ]<;>omega)|fail) only [↓RA,↓reduceIte,Nat.reduceAdd,Nat.reduceMul,Nat.reduceEqDiff,RB,c_rWords,hw,hp,f114_k1_eq,f114_k1_t]
theorem c_rOff (c i:Int) (w:World) (K:K1) (hi:0≤i) (hi':i<1000):callS prog 116 #[.int .i64 c,.int .i64 i] w K=K (.int .i64 (offS c i)) w:=by
 refine callS_det (by kernel_rfl) (f116_call _ _ _ _ ?_) K
 unfold f116_t
 have hw:0≤wordsS c∧wordsS c≤60:=by
  by_cases h:0≤c∧c<5
  ·have:=wordsS_in h.1 h.2;omega
  ·rw [wordsS_out h];omega
 have hb:0≤i*(wordsS c+1)∧i*(wordsS c+1)≤61000:=⟨Int.mul_nonneg (by omega) (by omega),Int.le_trans (Int.mul_le_mul (show i≤1000 by omega) (show wordsS c+1≤61 by omega) (by omega) (by omega)) (by omega)⟩
 simp (disch:=first|omega|simp only [RO]|(simp only [RZ]<;>omega)|fail) only [↓RA,↓reduceIte,Nat.reduceAdd,Nat.reduceMul,Nat.reduceEqDiff,RB,c_rWords,offS]
theorem c_rSum (x:Nat) (w:World) (K:K1) (hx:x<4294967296):callS prog 40 #[.int .u32 (x:Int)] w K=K (.int .u32 ((sumN x:Nat):Int)) w:=by
 refine callS_det (by kernel_rfl) (f40_call _ _ _ ?_) K
 unfold f40_t
 have h0:4294967295^^^x<4294967296:=Nat.xor_lt_two_pow (n:=32) (by omega) hx
 simp (disch:=first|omega|simp only [RO]|(simp only [RZ]<;>omega)|fail) only [↓RA,↓reduceIte,Nat.reduceAdd,Nat.reduceMul,Nat.reduceEqDiff,RB]
 apply f40_l1_rule (I:=fun x3 x4 w'=>∃k:Nat,k≤32∧w'=w∧x3= .int .u32 ((bsN k (4294967295^^^x):Nat):Int)∧x4= .int .i64 (k:Int)) (μ:=fun _ x4 _=>100-(intOf x4).toNat)
 ·exact ⟨0,by omega,rfl,rfl,rfl⟩
 ·rintro x3 x4 w' ⟨k,hk,rfl,rfl,rfl⟩ E1 hE
  unfold f40_l1_t
  have hc:=bsN_lt k _ h0
  have hs:bsN (k+1) (4294967295^^^x)=bs (bsN k (4294967295^^^x)):=bsN_add k 1 _
  generalize hg:bsN k (4294967295^^^x)=c at hc hs
  by_cases hk':k<32
  ·by_cases h2:c%2=1
   ·have e:bs c=c/2^1^^^2197175160:=by unfold bs;rw [if_pos h2]
    simp (disch:=first|omega|simp only [RO]|(simp only [RZ]<;>omega)|fail) only [↓RA,↓reduceIte,Nat.reduceAdd,Nat.reduceMul,Nat.reduceEqDiff,RB,f40_k2_eq,f40_k2_t]
    refine hE _ _ _ ⟨k+1,by omega,rfl,?_,by simp⟩ ?_
    ·rw [hs,e]
    ·simp [intOf];omega
   ·have e:bs c=c/2^1:=by unfold bs;rw [if_neg h2]
    simp (disch:=first|omega|simp only [RO]|(simp only [RZ]<;>omega)|fail) only [↓RA,↓reduceIte,Nat.reduceAdd,Nat.reduceMul,Nat.reduceEqDiff,RB,f40_k2_eq,f40_k2_t]
    refine hE _ _ _ ⟨k+1,by omega,rfl,?_,by simp⟩ ?_
    ·rw [hs,e]
    ·simp [intOf];omega
  ·have e:k=32:=by omega
   subst e
   simp (disch:=first|omega|simp only [RO]|(simp only [RZ]<;>omega)|fail) only [↓RA,↓reduceIte,Nat.reduceAdd,Nat.reduceMul,Nat.reduceEqDiff,RB,f40_k1_eq,f40_k1_t,sumN,hg]
theorem seal_s {y:Nat} (h:y<4294967296):y*2^32%18446744073709551616=y*4294967296:=Nat.mod_eq_of_lt (by omega)
theorem c_rSeal (x:Nat) (w:World) (K:K1) (hx:x<4294967296):callS prog 10 #[.int .u32 (x:Int)] w K=K (.int .u64 ((sealN x:Nat):Int)) w:=by
 refine callS_det (by kernel_rfl) (f10_call _ _ _ ?_) K
 unfold f10_t
 have hs:=sumN_lt x hx
 simp (disch:=first|omega|simp only [RO]|(simp only [RZ]<;>omega)|fail) only [↓RA,↓reduceIte,Nat.reduceAdd,Nat.reduceMul,Nat.reduceEqDiff,RB,c_rSum,seal_s hs,sealN]
theorem c_rSealed (x:Nat) (w:World) (K:K1) (hx:x<18446744073709551616):callS prog 143 #[.int .u64 (x:Int)] w K=K (.bool (isS x)) w:=by
 refine callS_det (by kernel_rfl) (f143_call _ _ _ ?_) K
 unfold f143_t
 by_cases h:sealN (x%4294967296)=x
 ·have e:isS x=true:=decide_eq_true h
  simp (disch:=first|omega|simp only [RO]|(simp only [RZ]<;>omega)|fail) only [↓RA,↓reduceIte,Nat.reduceAdd,Nat.reduceMul,Nat.reduceEqDiff,RB,c_rSeal,h,e]
 ·have e:isS x=false:=decide_eq_false h
  simp (disch:=first|omega|simp only [RO]|(simp only [RZ]<;>omega)|fail) only [↓RA,↓reduceIte,Nat.reduceAdd,Nat.reduceMul,Nat.reduceEqDiff,RB,c_rSeal,e]
def rhO (c o:Int) (g:Nat):Obj:= .cells #[.int .i64 c,.int .i64 o,.int .u16 (g:Int)] 36
theorem rh_s1 {y:Nat} (h:y<16):y*2^16%4294967296=y*65536:=by rw [Nat.mod_eq_of_lt]<;>omega
theorem rh_s2 {y:Nat} (h:y<16):y*2^20%4294967296=y*1048576:=by rw [Nat.mod_eq_of_lt]<;>omega
theorem c_rFirst (c o:Int) (g:Nat) (w:World) (K:K1) (hg:g<65536) (h:(c= -1∧o= -1)∨(0≤c∧c<5∧0≤o∧o<8)):callS prog 45 #[.agg #[.int .i64 c,.int .i64 o,.int .u16 (g:Int)]] w K=K (.int .u64 ((sealN (hdX c o g):Nat):Int)) (w.alloc (rhO c o g)):=by
 refine callS_det (by kernel_rfl) (f45_call _ _ _ ?_) K
 unfold f45_t
 have e:g+(c+1).toNat*65536+(o+1).toNat*1048576+3305111552=hdX c o g:=by
  unfold hdX
  by_cases h0:0≤c
  ·rw [if_pos h0]
  ·rw [if_neg h0];omega
 simp (disch:=first|omega|simp only [RO]|(simp only [RZ]<;>omega)|fail) only [↓RA,↓reduceIte,Nat.reduceAdd,Nat.reduceMul,Nat.reduceEqDiff,RB,RX,rhO,c_rSeal,rh_s1 (show (c+1).toNat<16 by omega),rh_s2 (show (o+1).toNat<16 by omega),e]
def rightB (c o:Int) (g:Nat):Bool:= !decide (g=0)&&((decide (c= -1)&&decide (o= -1))||fmtB c o)
theorem c_rRight (c o:Int) (g:Nat) (w:World) (K:K1):callS prog 44 #[.agg #[.int .i64 c,.int .i64 o,.int .u16 (g:Int)]] w K=K (.bool (rightB c o g)) (w.alloc (rhO c o g)):=by
 refine callS_det (by kernel_rfl) (f44_call _ _ _ ?_) K
 unfold f44_t rightB fmtB
 (repeat' (first|(with_reducible first|refine brS_mk (fun _=> ?_) (fun _=> ?_)|refine And.intro ?_ ?_)|(simp (disch:=first|omega|simp only [RO]|(simp only [RZ]<;>omega)|fail) only [↓RBp,↓RA,↓reduceIte,Nat.reduceAdd,Nat.reduceMul,Nat.reduceEqDiff,RB,RX,rhO])))
 all_goals (simp only [Value.bool.injEq];simp;try omega)
theorem rb_s1 {y:Nat} (h:y<256):y*2^16%4294967296=y*65536:=by rw [Nat.mod_eq_of_lt]<;>omega
theorem rb_s2 {y:Nat} (h:y<256):y*2^24%4294967296=y*16777216:=by rw [Nat.mod_eq_of_lt]<;>omega
theorem c_rBlock (g k s:Nat) (w:World) (K:K1) (hg:g<65536) (hk:k<256) (hs:s<256):callS prog 115 #[.int .u16 (g:Int),.int .u8 (k:Int),.int .u32 (s:Int)] w K=K (.int .u64 ((sealN (blkX g k s):Nat):Int)) w:=by
 refine callS_det (by kernel_rfl) (f115_call _ _ _ _ _ ?_) K
 unfold f115_t
 simp (disch:=first|omega|simp only [RO]|(simp only [RZ]<;>omega)|fail) only [↓RA,↓reduceIte,Nat.reduceAdd,Nat.reduceMul,Nat.reduceEqDiff,RB,c_rSeal,rb_s1 hk,rb_s2 hs,blkX]
def f23_t (x0 x1:Value) (K:K1) (w:World):Prop:=
 ev prog (Instr.alloc 69 true (.tuple #[])) w fun t4 w=>
 callS prog 48 (pA #[x0,x1]) w fun t11 w=>
 ev prog (Instr.extract t11 0) w fun t12 w=>
 ev prog (Instr.extract t11 1) w fun t13 w=>
 ev prog (Instr.alloc 67 true (.tuple #[])) w fun t6 w=>
 stS prog 67 t6 t12 w fun w=>
 ev prog (binM .neq 43 (.tmp 14) (.const (.int .i64 0)) t13 (.int .i64 0)) w fun t15 w=>
 cndS t15 (
 ev prog (Instr.build 69 #[]) w fun t16 w=>
 stS prog 69 t4 t16 w fun w=>
 ldR prog 69 t4 w fun r=>
 K (.tuple #[r,t13]) w) (
 ev prog (Instr.fieldAt 67 t6 0) w fun t18 w=>
 ldS prog 3 t18 w fun t19 w=>
 ev prog (binM .lss 3 (.tmp 19) (.const (.int .i64 0)) t19 (.int .i64 0)) w fun t20 w=>
 cndS t20 (
 ev prog (Instr.build 69 #[]) w fun t21 w=>
 stS prog 69 t4 t21 w fun w=>
 ldR prog 69 t4 w fun r_1=>
 K (.tuple #[r_1,(.int .i64 8)]) w) (
 ldS prog 67 t6 w fun t24 w=>
 ev prog (Instr.build 69 #[(0,x0),(1,x1),(2,t24)]) w fun t25 w=>
 stS prog 69 t4 t25 w fun w=>
 ldR prog 69 t4 w fun r_2=>
 K (.tuple #[r_2,(.int .i64 0)]) w))
theorem f23_call (x0 x1:Value) (K:K1) (w:World) (h:f23_t x0 x1 K w):callS prog 23 #[x0,x1] w K:=
 call_of_txt (args:= [x0,x1]) mixed Tryz.func23 .o (by kernel_rfl) (cast (by kernel_rfl) h)
def f24_t (x0:Value) (K:K1) (w:World):Prop:=
 ev prog (Instr.box 69 x0) w fun t1 w=>
 ev prog (Instr.fieldAt 69 t1 0) w fun t3 w=>
 ldS prog 66 t3 w fun t4 w=>
 ev prog (binM .eql 66 (.tmp 4) (.const .nilIface) t4 .nilIface) w fun t5 w=>
 cndS t5 (
 K (.int .i64 (-1)) w) (
 ev prog (Instr.fieldAt 69 t1 2) w fun t6 w=>
 ev prog (Instr.fieldAt 67 t6 1) w fun t7 w=>
 ldS prog 3 t7 w fun t8 w=>
 K t8 w)
theorem f24_call (x0:Value) (K:K1) (w:World) (h:f24_t x0 K w):callS prog 24 #[x0] w K:=
 call_of_txt (args:= [x0]) mixed Tryz.func24 .o (by kernel_rfl) (cast (by kernel_rfl) h)
def f25_t (x0:Value) (K:K1) (w:World):Prop:=
 ev prog (Instr.box 69 x0) w fun t1 w=>
 ev prog (Instr.fieldAt 69 t1 0) w fun t3 w=>
 ldS prog 66 t3 w fun t4 w=>
 ev prog (binM .eql 66 (.tmp 4) (.const .nilIface) t4 .nilIface) w fun t5 w=>
 cndS t5 (
 K (.int .i64 (-1)) w) (
 ev prog (Instr.fieldAt 69 t1 2) w fun t6 w=>
 ev prog (Instr.fieldAt 67 t6 0) w fun t7 w=>
 ldS prog 3 t7 w fun t8 w=>
 K t8 w)
theorem f25_call (x0:Value) (K:K1) (w:World) (h:f25_t x0 K w):callS prog 25 #[x0] w K:=
 call_of_txt (args:= [x0]) mixed Tryz.func25 .o (by kernel_rfl) (cast (by kernel_rfl) h)
noncomputable def f27_u:Code×Dec:=((Tryz.f27.body).getD .skip,(.s .o (.s .o (.s .o (.s .o (.s .o (.s .o (.x 526 .o .o))))))))
abbrev f27_e (K:K1):KF:=endK prog Tryz.f27.results.toList K
def f27_k1_o (K:K1):KF:=fun fr w=>∀σ,cP (pr (pr (pr (pr (pr (pr (pr f27_u))))))) (f27_e K) (f27_e K) nX (mixF 526 σ 0 fr) w
def f27_k1 (K:K1) (x1 x2 x3 x9:Value) (w:World):Prop:=f27_k1_o K (fz 74 0 [(1,x1),(2,x2),(3,x3),(9,x9)]) w
def f27_k1_t (x1 x2 x3 x9:Value) (K:K1) (w:World):Prop:=
 ldR prog 69 x3 w.drew fun t64=>
 rd prog (Instr.fieldAt 137 x9 0) w.drew fun t68=>
 ldR prog 34 t68 w.drew fun t69=>
 callS prog 68 (pA #[t64,x1]) w.drew fun t66 w=>
 (ag prog (Instr.fieldAt 137 x9 0) w t68)∧
 (ldG prog 34 t68 w t69)∧
 rd prog (binM .add 30 (.tmp 66) (.const (.int .u64 ((8:Nat):Int))) t66 (.int .u64 ((8:Nat):Int))) w fun t67=>
 callS prog 67 (pA #[t67,t69,x2]) w fun t71 w=>
 rd prog (Instr.extract t71 0) w fun t72=>
 rd prog (Instr.extract t71 1) w fun t73=>
 K (.tuple #[t72,t73]) w
theorem f27_k1_eq (K:K1) (x1 x2 x3 x9:Value) (w:World):f27_k1 K x1 x2 x3 x9 w=f27_k1_t x1 x2 x3 x9 K w:=cutE fun σ=>by kernel_rfl
def f27_t (x0 x1 x2:Value) (K:K1) (w:World):Prop:=
 ev prog (Instr.box 69 x0) w fun t3 w=>
 ldS prog 69 t3 w fun t13 w=>
 callS prog 64 (pA #[t13,x1]) w fun t15 w=>
 ev prog (Op.unary .not t15) w fun t16 w=>
 cndS t16 (
 K (.tuple #[(.int .u64 ((0:Nat):Int)),(.int .i64 2)]) w) (
 ev prog (Instr.fieldAt 69 t3 0) w fun t17 w=>
 ldS prog 66 t17 w fun t18 w=>
 invS prog t18 "Err" (pA #[]) w fun t19 w=>
 ev prog (binM .neq 43 (.tmp 20) (.const (.int .i64 0)) t19 (.int .i64 0)) w fun t21 w=>
 cndS t21 (
 K (.tuple #[(.int .u64 ((0:Nat):Int)),t19]) w) (
 ldS prog 69 t3 w fun t24 w=>
 callS prog 65 (pA #[t24,x1]) w fun t26 w=>
 ev prog (Instr.extract t26 0) w fun t27 w=>
 ev prog (Instr.extract t26 1) w fun t28 w=>
 ev prog (Instr.extract t26 2) w fun t29 w=>
 ev prog (Instr.alloc 137 true (.tuple #[])) w fun t9 w=>
 stS prog 137 t9 t27 w fun w=>
 ev prog (Instr.fieldAt 69 t3 0) w fun t30 w=>
 ldS prog 66 t30 w fun t31 w=>
 invS prog t31 "Err" (pA #[]) w fun t32 w=>
 ev prog (binM .neq 43 (.tmp 33) (.const (.int .i64 0)) t32 (.int .i64 0)) w fun t34 w=>
 cndS t34 (
 K (.tuple #[(.int .u64 ((0:Nat):Int)),t32]) w) (
 ev prog (Op.unary .not t28) w fun t37 w=>
 gd t37 false (fun k=>ldS prog 137 t9 w k) w fun t39 w=>
 gd t37 false (fun k=>callS prog 66 (pA #[t39]) w k) w fun t40 w=>
 gd t37 false (fun k=>ev prog (Op.unary .not t40) w k) w fun t41 w=>
 pickS t37 (.bool true) t41 w fun t42 w=>
 gd t42 false (fun k=>k t29 w) w fun t44 w=>
 gd t42 false (fun k=>ev prog (Instr.fieldAt 137 t9 2) w k) w fun t45 w=>
 gd t42 false (fun k=>ldS prog 5 t45 w k) w fun t46 w=>
 gd t42 false (fun k=>ev prog (binM .neq 5 (.tmp 46) (.const (.int .u8 ((176:Nat):Int))) t46 (.int .u8 ((176:Nat):Int))) w k) w fun t47 w=>
 gd t42 false (fun k=>ev prog (binM .neq 4 (.tmp 44) (.tmp 47) t44 t47) w k) w fun t48 w=>
 pickS t42 (.bool true) t48 w fun t49 w=>
 cndS t49 (
 K (.tuple #[(.int .u64 ((0:Nat):Int)),(.int .i64 11)]) w) (
 ev prog (Instr.fieldAt 137 t9 2) w fun t50 w=>
 ldS prog 5 t50 w fun t51 w=>
 ev prog (binM .eql 5 (.tmp 51) (.const (.int .u8 ((178:Nat):Int))) t51 (.int .u8 ((178:Nat):Int))) w fun t59 w=>
 cndS t59 (
 K (.tuple #[(.int .u64 ((0:Nat):Int)),(.int .i64 12)]) w) (
 ev prog (binM .eql 5 (.tmp 51) (.const (.int .u8 ((177:Nat):Int))) t51 (.int .u8 ((177:Nat):Int))) w fun t61 w=>
 cndS t61 (
 ev prog (Instr.fieldAt 137 t9 1) w fun t62 w=>
 ldS prog 5 t62 w fun t63 w=>
 f27_k1 K x1 t63 t3 t9 w) (
 ev prog (binM .eql 5 (.tmp 52) (.const (.int .u8 ((0:Nat):Int))) x2 (.int .u8 ((0:Nat):Int))) w fun t53 w=>
 gd t53 false (fun k=>k x2 w) w fun t55 w=>
 gd t53 false (fun k=>ev prog (binM .gtr 5 (.tmp 55) (.const (.int .u8 ((127:Nat):Int))) t55 (.int .u8 ((127:Nat):Int))) w k) w fun t56 w=>
 pickS t53 (.bool true) t56 w fun t57 w=>
 cndS t57 (
 K (.tuple #[(.int .u64 ((0:Nat):Int)),(.int .i64 1)]) w) (
 f27_k1 K x1 x2 t3 t9 w)))))))
theorem f27_call (x0 x1 x2:Value) (K:K1) (w:World) (h:f27_t x0 x1 x2 K w):callS prog 27 #[x0,x1,x2] w K:=
 call_of_txt (args:= [x0,x1,x2]) mixed Tryz.func27 f27_u.2 (by kernel_rfl) (cast (by kernel_rfl) h)
noncomputable def f28_u:Code×Dec:=((Tryz.f28.body).getD .skip,(.s .o (.s .o (.x 30 (.s .o (.b (.l [23] 6291486 17171483392 .o))) .o))))
abbrev f28_e (K:K1):KF:=endK prog Tryz.f28.results.toList K
def f28_k1_o (K:K1):KF:=fun fr w=>∀σ,cP (pr (pr (pr f28_u))) (f28_e K) (f28_e K) nX (mixF 30 σ 0 fr) w
def f28_k1 (K:K1) (x1 x2 x3 x4:Value) (w:World):Prop:=f28_k1_o K (fz 66 0 [(1,x1),(2,x2),(3,x3),(4,x4)]) w
def f28_l1 (K:K1) (x1 x2 x3 x4 x21 x22 x23:Value) (w:World):Prop:=loopT [23] 6291486 (fun E=>cP (pl (pl (pr (pl (pr (pr f28_u)))))) E (f28_e K) (exB 0 (f28_k1_o K) nX)) (fz 66 0 [(1,x1),(2,x2),(3,x3),(4,x4),(21,x21),(22,x22),(23,x23)]) w
def f28_k1_t (x1 x2 x3 x4:Value) (K:K1) (w:World):Prop:=
 ldS prog 69 x4 w fun t34 w=>
 ev prog (Instr.buildSlice 180 2 #[(0,x1),(1,x3)]) w fun t37 w=>
 callS prog 69 (pA #[t34,t37]) w fun t38 w=>
 ev prog (Op.unary .not t38) w fun t39 w=>
 cndS t39 (
 K (.tuple #[(.slice none 0 0),(.int .i64 1)]) w) (
 ev prog (Instr.fieldAt 69 x4 0) w fun t40 w=>
 ldS prog 66 t40 w fun t41 w=>
 ev prog (binM .eql 66 (.tmp 41) (.const .nilIface) t41 .nilIface) w fun t42 w=>
 cndS t42 (
 K (.tuple #[(.slice none 0 0),(.int .i64 0)]) w) (
 ev prog (Instr.fieldAt 69 x4 0) w fun t43 w=>
 ldS prog 66 t43 w fun t44 w=>
 invS prog t44 "Err" (pA #[]) w fun t45 w=>
 ev prog (binM .neq 43 (.tmp 46) (.const (.int .i64 0)) t45 (.int .i64 0)) w fun t47 w=>
 cndS t47 (
 K (.tuple #[(.slice none 0 0),t45]) w) (
 ldS prog 69 x4 w fun t50 w=>
 callS prog 70 (pA #[t50,x1,x2,x3]) w fun t54 w=>
 ev prog (Instr.extract t54 0) w fun t55 w=>
 ev prog (Instr.extract t54 1) w fun t56 w=>
 ev prog (Instr.fieldAt 69 x4 0) w fun t57 w=>
 ldS prog 66 t57 w fun t58 w=>
 invS prog t58 "Err" (pA #[]) w fun t59 w=>
 ev prog (binM .neq 43 (.tmp 60) (.const (.int .i64 0)) t59 (.int .i64 0)) w fun t61 w=>
 cndS t61 (
 K (.tuple #[(.slice none 0 0),t59]) w) (
 ev prog (Op.unary .not t56) w fun t64 w=>
 cndS t64 (
 K (.tuple #[(.slice none 0 0),(.int .i64 8)]) w) (
 K (.tuple #[t55,(.int .i64 0)]) w)))))
theorem f28_k1_eq (K:K1) (x1 x2 x3 x4:Value) (w:World):f28_k1 K x1 x2 x3 x4 w=f28_k1_t x1 x2 x3 x4 K w:=cutE fun σ=>by kernel_rfl
def f28_l1_t (x1 x2 x3 x4 x21 x22 x23:Value) (K:K1) (E1:VP1) (w:World):Prop:=
 ev prog (binM .lss 3 (.tmp 23) (.tmp 22) x23 x22) w fun t24 w=>
 cndS t24 (
 ev prog (Instr.indexAt 58 x21 x23) w fun t25 w=>
 ldS prog 5 t25 w fun t26 w=>
 ev prog (binM .eql 5 (.tmp 27) (.const (.int .u8 ((0:Nat):Int))) t26 (.int .u8 ((0:Nat):Int))) w fun t28 w=>
 gd t28 false (fun k=>k t26 w) w fun t30 w=>
 gd t28 false (fun k=>ev prog (binM .gtr 5 (.tmp 30) (.const (.int .u8 ((127:Nat):Int))) t30 (.int .u8 ((127:Nat):Int))) w k) w fun t31 w=>
 pickS t28 (.bool true) t31 w fun t32 w=>
 cndS t32 (
 K (.tuple #[(.slice none 0 0),(.int .i64 1)]) w) (
 ev prog (binM .add 3 (.tmp 23) (.const (.int .i64 1)) x23 (.int .i64 1)) w fun t33 w=>
 E1 t33 w)) (
 f28_k1 K x1 x2 x3 x4 w)
theorem f28_l1_rule (x1 x2 x3 x4 x21 x22 x23:Value) (K:K1) (w:World) (I:VP1) (μ:Value→World→Nat) (h0:I x23 w)
  (hr:∀(x23:Value) (w:World),I x23 w→∀E1:VP1,(∀(y23:Value) (w':World),I y23 w'→μ y23 w'<μ x23 w→E1 y23 w')→f28_l1_t x1 x2 x3 x4 x21 x22 x23 K E1 w):f28_l1 K x1 x2 x3 x4 x21 x22 x23 w:=
 ⟨I,μ,h0,fun σ w hI E hE=>cast (by kernel_rfl) (hr (σ 23) w hI E hE)⟩
def f28_t (x0 x1 x2 x3:Value) (K:K1) (w:World):Prop:=
 ev prog (Instr.box 69 x0) w fun t4 w=>
 bltS prog .len #[58] 3 #[false] #[x2] w fun t17 w=>
 bltS prog .len #[50] 3 #[false] #[x1] w fun t19 w=>
 ev prog (binM .neq 3 (.tmp 17) (.tmp 19) t17 t19) w fun t20 w=>
 cndS t20 (
 K (.tuple #[(.slice none 0 0),(.int .i64 1)]) w) (
 bltS prog .len #[58] 3 #[false] #[x2] w fun t22 w=>
 f28_l1 K x1 x2 x3 t4 x2 t22 (.int .i64 0) w)
theorem f28_call (x0 x1 x2 x3:Value) (K:K1) (w:World) (h:f28_t x0 x1 x2 x3 K w):callS prog 28 #[x0,x1,x2,x3] w K:=
 call_of_txt (args:= [x0,x1,x2,x3]) mixed Tryz.func28 f28_u.2 (by kernel_rfl) (cast (by kernel_rfl) h)
def f32_t (x0 x1:Value) (K:K1) (w:World):Prop:=
 ev prog (Instr.box 69 x0) w fun t2 w=>
 callS prog 71 (pA #[x1]) w fun t13 w=>
 cndS t13 (
 K (.tuple #[(.int .i64 0),(.int .i64 1)]) w) (
 ldR prog 69 t2 w.drew fun t15=>
 callS prog 73 (pA #[x1]) w.drew fun t17 w=>
 (ldG prog 69 t2 w t15)∧
 callS prog 72 (pA #[t15,t17]) w fun t18 w=>
 rd prog (Instr.extract t18 0) w fun t19=>
 rd prog (Instr.extract t18 1) w fun t20=>
 ev prog (Op.unary .not t20) w fun t22 w=>
 gd t22 false (fun k=>k x1 w) w fun t24 w=>
 gd t22 false (fun k=>ev prog (binM .shr 73 (.tmp 24) (.const (.int .u64 ((56:Nat):Int))) t24 (.int .u64 ((56:Nat):Int))) w k) w fun t25 w=>
 gd t22 false (fun k=>ev prog (binM .neq 73 (.tmp 25) (.const (.int .u64 ((0:Nat):Int))) t25 (.int .u64 ((0:Nat):Int))) w k) w fun t26 w=>
 pickS t22 (.bool true) t26 w fun t27 w=>
 cndS t27 (
 K (.tuple #[(.int .i64 0),(.int .i64 2)]) w) (
 ev prog (Instr.fieldAt 69 t2 0) w fun t28 w=>
 ldS prog 66 t28 w fun t29 w=>
 invS prog t29 "Err" (pA #[]) w fun t30 w=>
 ev prog (binM .neq 43 (.tmp 31) (.const (.int .i64 0)) t30 (.int .i64 0)) w fun t32 w=>
 cndS t32 (
 K (.tuple #[(.int .i64 0),t30]) w) (
 ldS prog 69 t2 w fun t35 w=>
 callS prog 65 (pA #[t35,t19]) w fun t37 w=>
 ev prog (Instr.extract t37 0) w fun t38 w=>
 ev prog (Instr.extract t37 1) w fun t39 w=>
 ev prog (Instr.extract t37 2) w fun t40 w=>
 ev prog (Instr.alloc 137 true (.tuple #[])) w fun t9 w=>
 stS prog 137 t9 t38 w fun w=>
 ev prog (Instr.fieldAt 69 t2 0) w fun t41 w=>
 ldS prog 66 t41 w fun t42 w=>
 invS prog t42 "Err" (pA #[]) w fun t43 w=>
 ev prog (binM .neq 43 (.tmp 44) (.const (.int .i64 0)) t43 (.int .i64 0)) w fun t45 w=>
 cndS t45 (
 K (.tuple #[(.int .i64 0),t43]) w) (
 rd prog (Op.unary .not t39) w.drew fun t48=>
 gdR t48 false (fun k=>k t40) fun t50=>
 gdR t48 false (fun k=>rd prog (Op.unary .not t50) w.drew k) fun t51=>
 pickV t48 (.bool true) t51 fun t52=>
 gdR t52 false (fun k=>rd prog (Instr.fieldAt 137 t9 2) w.drew k) fun t54=>
 gdR t52 false (fun k=>ldR prog 5 t54 w.drew k) fun t55=>
 gdR t52 false (fun k=>rd prog (binM .neq 5 (.tmp 55) (.const (.int .u8 ((177:Nat):Int))) t55 (.int .u8 ((177:Nat):Int))) w.drew k) fun t56=>
 pickV t52 (.bool true) t56 fun t57=>
 gdR t57 false (fun k=>rd prog (Instr.fieldAt 137 t9 0) w.drew k) fun t59=>
 gdR t57 false (fun k=>ldR prog 34 t59 w.drew k) fun t60=>
 gdR t57 false (fun k=>k x1) fun t61=>
 gd t57 false (fun k=>callS prog 74 (pA #[t61]) w.drew k) w.drew fun t62 w=>
 (gq t57 false (ag prog (Instr.fieldAt 137 t9 0) w t59))∧
 (gq t57 false (ldG prog 34 t59 w t60))∧
 gdR t57 false (fun k=>rd prog (binM .neq 34 (.tmp 60) (.tmp 62) t60 t62) w k) fun t63=>
 pickV t57 (.bool true) t63 fun t64=>
 cndS t64 (
 K (.tuple #[(.int .i64 0),(.int .i64 12)]) w) (
 rd prog (Instr.fieldAt 137 t9 1) w.drew fun t65=>
 ldR prog 5 t65 w.drew fun t66=>
 callS prog 75 (pA #[x1]) w.drew fun t68 w=>
 (ag prog (Instr.fieldAt 137 t9 1) w t65)∧
 (ldG prog 5 t65 w t66)∧
 rd prog (binM .neq 5 (.tmp 66) (.tmp 68) t66 t68) w fun t69=>
 cndS t69 (
 K (.tuple #[(.int .i64 0),(.int .i64 13)]) w) (
 K (.tuple #[t19,(.int .i64 0)]) w))))))
theorem f32_call (x0 x1:Value) (K:K1) (w:World) (h:f32_t x0 x1 K w):callS prog 32 #[x0,x1] w K:=
 call_of_txt (args:= [x0,x1]) mixed Tryz.func32 .o (by kernel_rfl) (cast (by kernel_rfl) h)
def f33_t (x0 x1:Value) (K:K1) (w:World):Prop:=
 ev prog (Instr.box 69 x0) w fun t2 w=>
 ldS prog 69 t2 w fun t5 w=>
 callS prog 76 (pA #[t5,x1,(.int .u8 ((177:Nat):Int))]) w fun t7 w=>
 K t7 w
theorem f33_call (x0 x1:Value) (K:K1) (w:World) (h:f33_t x0 x1 K w):callS prog 33 #[x0,x1] w K:=
 call_of_txt (args:= [x0,x1]) mixed Tryz.func33 .o (by kernel_rfl) (cast (by kernel_rfl) h)
def f36_t (x0:Value) (K:K1) (w:World):Prop:=
 ev prog (Instr.box 69 x0) w fun t1 w=>
 ev prog (Instr.fieldAt 69 t1 0) w fun t6 w=>
 ldS prog 66 t6 w fun t7 w=>
 ev prog (binM .eql 66 (.tmp 7) (.const .nilIface) t7 .nilIface) w fun t8 w=>
 cndS t8 (
 K (.int .i64 11) w) (
 ev prog (Instr.fieldAt 69 t1 0) w fun t9 w=>
 ldS prog 66 t9 w fun t10 w=>
 invS prog t10 "Err" (pA #[]) w fun t11 w=>
 ev prog (binM .neq 43 (.tmp 12) (.const (.int .i64 0)) t11 (.int .i64 0)) w fun t13 w=>
 cndS t13 (
 K t11 w) (
 ldS prog 69 t1 w fun t15 w=>
 callS prog 80 (pA #[t15]) w fun t16 w=>
 ev prog (Instr.fieldAt 69 t1 0) w fun t17 w=>
 ldS prog 66 t17 w fun t18 w=>
 invS prog t18 "Err" (pA #[]) w fun t19 w=>
 ev prog (binM .neq 43 (.tmp 20) (.const (.int .i64 0)) t19 (.int .i64 0)) w fun t21 w=>
 cndS t21 (
 K t19 w) (
 ev prog (Op.unary .not t16) w fun t24 w=>
 cndS t24 (
 K (.int .i64 11) w) (
 K (.int .i64 0) w))))
theorem f36_call (x0:Value) (K:K1) (w:World) (h:f36_t x0 K w):callS prog 36 #[x0] w K:=
 call_of_txt (args:= [x0]) mixed Tryz.func36 .o (by kernel_rfl) (cast (by kernel_rfl) h)
def f48_t (x0 x1:Value) (K:K1) (w:World):Prop:=
 ev prog (Instr.alloc 67 true (.tuple #[])) w fun t4 w=>
 ev prog (binM .eql 66 (.tmp 12) (.const .nilIface) x0 .nilIface) w fun t13 w=>
 gd t13 false (fun k=>k x1 w) w fun t15 w=>
 gd t13 false (fun k=>ev prog (binM .lss 3 (.tmp 15) (.const (.int .i64 0)) t15 (.int .i64 0)) w k) w fun t16 w=>
 pickS t13 (.bool true) t16 w fun t17 w=>
 cndS t17 (
 ev prog (Instr.build 67 #[]) w fun t18 w=>
 stS prog 67 t4 t18 w fun w=>
 ldR prog 67 t4 w fun r=>
 K (.tuple #[r,(.int .i64 1)]) w) (
 invS prog x0 "Size" (pA #[]) w fun t20 w=>
 ev prog (binM .quo 30 (.tmp 20) (.const (.int .u64 ((64:Nat):Int))) t20 (.int .u64 ((64:Nat):Int))) w fun t21 w=>
 ev prog (binM .lss 30 (.tmp 22) (.const (.int .u64 ((32:Nat):Int))) t21 (.int .u64 ((32:Nat):Int))) w fun t23 w=>
 gd t23 false (fun k=>k x1 w) w fun t25 w=>
 gd t23 false (fun k=>ev prog (convert 3 30 t25) w k) w fun t26 w=>
 gd t23 false (fun k=>k t21 w) w fun t27 w=>
 gd t23 false (fun k=>ev prog (binM .sub 30 (.tmp 27) (.const (.int .u64 ((32:Nat):Int))) t27 (.int .u64 ((32:Nat):Int))) w k) w fun t28 w=>
 gd t23 false (fun k=>ev prog (binM .gtr 30 (.tmp 26) (.tmp 28) t26 t28) w k) w fun t29 w=>
 pickS t23 (.bool true) t29 w fun t30 w=>
 cndS t30 (
 ev prog (Instr.build 67 #[]) w fun t31 w=>
 stS prog 67 t4 t31 w fun w=>
 ldR prog 67 t4 w fun r_1=>
 K (.tuple #[r_1,(.int .i64 1)]) w) (
 invS prog x0 "Err" (pA #[]) w fun t33 w=>
 ev prog (binM .neq 43 (.tmp 34) (.const (.int .i64 0)) t33 (.int .i64 0)) w fun t35 w=>
 cndS t35 (
 ev prog (Instr.build 67 #[]) w fun t36 w=>
 stS prog 67 t4 t36 w fun w=>
 ldR prog 67 t4 w fun r_2=>
 K (.tuple #[r_2,t33]) w) (
 rd prog (Instr.makeFunc (.method "Load") #[x0] #[]) w.drew fun t41=>
 nilR prog t41 w.drew fun t42=>
 callS prog 86 (pA #[x1]) w.drew fun t40 w=>
 (ag prog (Instr.makeFunc (.method "Load") #[x0] #[]) w t41)∧
 (nilR prog t41 w (fun u=>u=t42))∧
 invS prog x0 "Load" (pA #[t40]) w fun t44 w=>
 invS prog x0 "Err" (pA #[]) w fun t46 w=>
 ev prog (binM .neq 43 (.tmp 47) (.const (.int .i64 0)) t46 (.int .i64 0)) w fun t48 w=>
 cndS t48 (
 ev prog (Instr.build 67 #[]) w fun t49 w=>
 stS prog 67 t4 t49 w fun w=>
 ldR prog 67 t4 w fun r_3=>
 K (.tuple #[r_3,t46]) w) (
 callS prog 87 (pA #[t44]) w fun t53 w=>
 ev prog (Instr.extract t53 0) w fun t54 w=>
 ev prog (Instr.extract t53 1) w fun t55 w=>
 ev prog (Instr.alloc 67 true (.tuple #[])) w fun t10 w=>
 stS prog 67 t10 t54 w fun w=>
 ev prog (Op.unary .not t55) w fun t57 w=>
 cndS t57 (
 ev prog (Instr.build 67 #[]) w fun t58 w=>
 stS prog 67 t4 t58 w fun w=>
 ldR prog 67 t4 w fun r_4=>
 K (.tuple #[r_4,(.int .i64 11)]) w) (
 ldS prog 67 t10 w fun t59 w=>
 stS prog 67 t4 t59 w fun w=>
 ldR prog 67 t4 w fun r_5=>
 K (.tuple #[r_5,(.int .i64 0)]) w)))))
theorem f48_call (x0 x1:Value) (K:K1) (w:World) (h:f48_t x0 x1 K w):callS prog 48 #[x0,x1] w K:=
 call_of_txt (args:= [x0,x1]) mixed Tryz.func48 .o (by kernel_rfl) (cast (by kernel_rfl) h)
def f63_t (x0:Value) (K:K1) (w:World):Prop:=
 ev prog (Instr.box 69 x0) w fun t1 w=>
 ldS prog 69 t1 w fun t3 w=>
 callS prog 25 (pA #[t3]) w fun t4 w=>
 callS prog 59 (pA #[t4]) w fun t5 w=>
 K t5 w
theorem f63_call (x0:Value) (K:K1) (w:World) (h:f63_t x0 K w):callS prog 63 #[x0] w K:=
 call_of_txt (args:= [x0]) mixed Tryz.func63 .o (by kernel_rfl) (cast (by kernel_rfl) h)
def f64_t (x0 x1:Value) (K:K1) (w:World):Prop:=
 ev prog (Instr.box 69 x0) w fun t2 w=>
 ev prog (binM .geq 3 (.tmp 5) (.const (.int .i64 0)) x1 (.int .i64 0)) w fun t6 w=>
 gd t6 true (fun k=>k x1 w) w fun t8 w=>
 gd t6 true (fun k=>ldS prog 69 t2 w k) w fun t9 w=>
 gd t6 true (fun k=>callS prog 63 (pA #[t9]) w k) w fun t10 w=>
 gd t6 true (fun k=>ev prog (binM .lss 3 (.tmp 8) (.tmp 10) t8 t10) w k) w fun t11 w=>
 pickS t6 t11 (.bool false) w fun t12 w=>
 K t12 w
theorem f64_call (x0 x1:Value) (K:K1) (w:World) (h:f64_t x0 x1 K w):callS prog 64 #[x0,x1] w K:=
 call_of_txt (args:= [x0,x1]) mixed Tryz.func64 .o (by kernel_rfl) (cast (by kernel_rfl) h)
def f65_t (x0 x1:Value) (K:K1) (w:World):Prop:=
 ev prog (Instr.box 69 x0) w fun t2 w=>
 ev prog (Instr.alloc 137 true (.tuple #[])) w fun t4 w=>
 ldS prog 69 t2 w fun t7 w=>
 callS prog 106 (pA #[t7]) w fun t8 w=>
 ev prog (convert 3 96 x1) w fun t10 w=>
 ev prog (binM .shr 30 (.tmp 8) (.tmp 10) t8 t10) w fun t11 w=>
 ev prog (binM .and 30 (.tmp 11) (.const (.int .u64 ((1:Nat):Int))) t11 (.int .u64 ((1:Nat):Int))) w fun t12 w=>
 ev prog (binM .eql 30 (.tmp 12) (.const (.int .u64 ((1:Nat):Int))) t12 (.int .u64 ((1:Nat):Int))) w fun t13 w=>
 rd prog (Instr.fieldAt 69 t2 0) w.drew fun t15=>
 ldR prog 66 t15 w.drew fun t16=>
 ldR prog 69 t2 w.drew fun t17=>
 nilR prog t16 w.drew fun t20=>
 callS prog 68 (pA #[t17,x1]) w.drew fun t19 w=>
 (ag prog (Instr.fieldAt 69 t2 0) w t15)∧
 (ldG prog 66 t15 w t16)∧
 (nilR prog t16 w (fun u=>u=t20))∧
 invS prog t16 "Load" (pA #[t19]) w fun t22 w=>
 callS prog 107 (pA #[t22]) w fun t23 w=>
 rd prog (Instr.extract t23 0) w fun t24=>
 rd prog (Instr.extract t23 1) w fun t25=>
 stS prog 137 t4 t24 w fun w=>
 ldS prog 137 t4 w fun t26 w=>
 stS prog 137 t4 t26 w fun w=>
 ldR prog 137 t4 w fun r=>
 K (.tuple #[r,t25,t13]) w
theorem f65_call (x0 x1:Value) (K:K1) (w:World) (h:f65_t x0 x1 K w):callS prog 65 #[x0,x1] w K:=
 call_of_txt (args:= [x0,x1]) mixed Tryz.func65 .o (by kernel_rfl) (cast (by kernel_rfl) h)
def f68_t (x0 x1:Value) (K:K1) (w:World):Prop:=
 ev prog (Instr.box 69 x0) w fun t2 w=>
 ev prog (Instr.fieldAt 69 t2 2) w fun t8 w=>
 ev prog (Instr.fieldAt 67 t8 0) w fun t9 w=>
 ldS prog 3 t9 w fun t10 w=>
 callS prog 100 (pA #[t10,x1]) w fun t12 w=>
 ev prog (Instr.extract t12 0) w fun t13 w=>
 ev prog (Instr.extract t12 1) w fun t14 w=>
 ev prog (Instr.fieldAt 69 t2 1) w fun t15 w=>
 ldS prog 3 t15 w fun t16 w=>
 callS prog 86 (pA #[t16]) w fun t17 w=>
 ev prog (convert 3 30 t13) w fun t19 w=>
 ev prog (binM .mul 30 (.tmp 19) (.const (.int .u64 ((8:Nat):Int))) t19 (.int .u64 ((8:Nat):Int))) w fun t20 w=>
 ev prog (binM .add 30 (.tmp 17) (.tmp 20) t17 t20) w fun t21 w=>
 K t21 w
theorem f68_call (x0 x1:Value) (K:K1) (w:World) (h:f68_t x0 x1 K w):callS prog 68 #[x0,x1] w K:=
 call_of_txt (args:= [x0,x1]) mixed Tryz.func68 .o (by kernel_rfl) (cast (by kernel_rfl) h)
noncomputable def f69_u:Code×Dec:=((Tryz.f69.body).getD .skip,(.s .o (.s .o (.x 0 (.s .o (.b (.l [5,12] 3076 2199023252144 (.s .o (.s .o (.x 7204 (.b (.s .o (.s .o (.b (.l [5,18] 203780 1099511366192 .o))))) .o)))))) .o))))
abbrev f69_e (K:K1):KF:=endK prog Tryz.f69.results.toList K
def f69_k1_o (K:K1):KF:=fun fr w=>∀σ,cP (pr (pr (pr f69_u))) (f69_e K) (f69_e K) nX (mixF 0 σ 0 fr) w
def f69_k1 (K:K1) (w:World):Prop:=f69_k1_o K (fz 41 0 []) w
def f69_l1 (K:K1) (x2 x5 x10 x11 x12:Value) (w:World):Prop:=loopT [5,12] 3076 (fun E=>cP (pl (pl (pr (pl (pr (pr f69_u)))))) E (f69_e K) (exB 0 (f69_k1_o K) nX)) (fz 41 0 [(2,x2),(5,x5),(10,x10),(11,x11),(12,x12)]) w
def f69_k2_o (K:K1) (E1:VP2):KF:=fun fr w=>∀σ,cP (pr (pr (pr (pl (pl (pr (pl (pr (pr f69_u))))))))) (fun fr w=>E1 (sv fr 5) (sv fr 12) w) (f69_e K) (exB 0 (f69_k1_o K) nX) (mixF 7204 σ 0 fr) w
def f69_k2 (K:K1) (E1:VP2) (x2 x5 x10 x11 x12:Value) (w:World):Prop:=f69_k2_o K E1 (fz 41 0 [(2,x2),(5,x5),(10,x10),(11,x11),(12,x12)]) w
def f69_l2 (K:K1) (E1:VP2) (x2 x5 x10 x11 x12 x16 x17 x18:Value) (w:World):Prop:=loopT [5,18] 203780 (fun E=>cP (pl (pl (pr (pr (pl (pl (pr (pr (pl (pl (pr (pl (pr (pr f69_u)))))))))))))) E (f69_e K) (exB 2 (f69_k2_o K E1) (exB 1 (f69_k2_o K E1) (exB 0 (f69_k1_o K) nX)))) (fz 41 0 [(2,x2),(5,x5),(10,x10),(11,x11),(12,x12),(16,x16),(17,x17),(18,x18)]) w
def f69_k1_t (K:K1) (w:World):Prop:=
 K (.bool true) w
theorem f69_k1_eq (K:K1) (w:World):f69_k1 K w=f69_k1_t K w:=cutE fun σ=>by kernel_rfl
def f69_l1_t (x2 x5 x10 x11 x12:Value) (K:K1) (E1:VP2) (w:World):Prop:=
 ev prog (binM .lss 3 (.tmp 12) (.tmp 11) x12 x11) w fun t13 w=>
 cndS t13 (
 ev prog (Instr.indexAt 180 x10 x12) w fun t14 w=>
 ldS prog 50 t14 w fun t15 w=>
 bltS prog .len #[50] 3 #[false] #[t15] w fun t17 w=>
 f69_l2 K E1 x2 x5 x10 x11 x12 t15 t17 (.int .i64 0) w) (
 f69_k1 K w)
theorem f69_l1_rule (x2 x5 x10 x11 x12:Value) (K:K1) (w:World) (I:VP2) (μ:Value→Value→World→Nat) (h0:I x5 x12 w)
  (hr:∀(x5 x12:Value) (w:World),I x5 x12 w→∀E1:VP2,(∀(y5 y12:Value) (w':World),I y5 y12 w'→μ y5 y12 w'<μ x5 x12 w→E1 y5 y12 w')→f69_l1_t x2 x5 x10 x11 x12 K E1 w):f69_l1 K x2 x5 x10 x11 x12 w:=
 ⟨I,μ,h0,fun σ w hI E hE=>cast (by kernel_rfl) (hr (σ 5) (σ 12) w hI E hE)⟩
def f69_k2_t (x2 x5 x10 x11 x12:Value) (K:K1) (E1:VP2) (w:World):Prop:=
 ev prog (binM .add 3 (.tmp 12) (.const (.int .i64 1)) x12 (.int .i64 1)) w fun t40 w=>
 E1 x5 t40 w
theorem f69_k2_eq (K:K1) (E1:VP2) (x2 x5 x10 x11 x12:Value) (w:World):f69_k2 K E1 x2 x5 x10 x11 x12 w=f69_k2_t x2 x5 x10 x11 x12 K E1 w:=cutE fun σ=>by kernel_rfl
def f69_l2_t (x2 x5 x10 x11 x12 x16 x17 x18:Value) (K:K1) (E1:VP2) (E2:VP2) (w:World):Prop:=
 ev prog (binM .lss 3 (.tmp 18) (.tmp 17) x18 x17) w fun t19 w=>
 cndS t19 (
 ev prog (Instr.indexAt 50 x16 x18) w fun t20 w=>
 ldS prog 3 t20 w fun t21 w=>
 ldS prog 69 x2 w fun t22 w=>
 callS prog 64 (pA #[t22,t21]) w fun t24 w=>
 ev prog (Op.unary .not t24) w fun t25 w=>
 gd t25 false (fun k=>k x5 w) w fun t27 w=>
 gd t25 false (fun k=>k t21 w) w fun t28 w=>
 gd t25 false (fun k=>ev prog (convert 3 96 t28) w k) w fun t29 w=>
 gd t25 false (fun k=>ev prog (binM .shr 30 (.tmp 27) (.tmp 29) t27 t29) w k) w fun t30 w=>
 gd t25 false (fun k=>ev prog (binM .and 30 (.tmp 30) (.const (.int .u64 ((1:Nat):Int))) t30 (.int .u64 ((1:Nat):Int))) w k) w fun t31 w=>
 gd t25 false (fun k=>ev prog (binM .eql 30 (.tmp 31) (.const (.int .u64 ((1:Nat):Int))) t31 (.int .u64 ((1:Nat):Int))) w k) w fun t32 w=>
 pickS t25 (.bool true) t32 w fun t33 w=>
 cndS t33 (
 K (.bool false) w) (
 ev prog (convert 3 96 t21) w fun t36 w=>
 ev prog (binM .shl 30 (.const (.int .u64 ((1:Nat):Int))) (.tmp 36) (.int .u64 ((1:Nat):Int)) t36) w fun t37 w=>
 ev prog (binM .or 30 (.tmp 34) (.tmp 37) x5 t37) w fun t38 w=>
 ev prog (binM .add 3 (.tmp 18) (.const (.int .i64 1)) x18 (.int .i64 1)) w fun t39 w=>
 E2 t38 t39 w)) (
 f69_k2 K E1 x2 x5 x10 x11 x12 w)
theorem f69_l2_rule (x2 x5 x10 x11 x12 x16 x17 x18:Value) (K:K1) (E1:VP2) (w:World) (I:VP2) (μ:Value→Value→World→Nat) (h0:I x5 x18 w)
  (hr:∀(x5 x18:Value) (w:World),I x5 x18 w→∀E2:VP2,(∀(y5 y18:Value) (w':World),I y5 y18 w'→μ y5 y18 w'<μ x5 x18 w→E2 y5 y18 w')→f69_l2_t x2 x5 x10 x11 x12 x16 x17 x18 K E1 E2 w):f69_l2 K E1 x2 x5 x10 x11 x12 x16 x17 x18 w:=
 ⟨I,μ,h0,fun σ w hI E hE=>cast (by kernel_rfl) (hr (σ 5) (σ 18) w hI E hE)⟩
def f69_t (x0 x1:Value) (K:K1) (w:World):Prop:=
 ev prog (Instr.box 69 x0) w fun t2 w=>
 bltS prog .len #[180] 3 #[false] #[x1] w fun t11 w=>
 f69_l1 K t2 (.int .u64 ((0:Nat):Int)) x1 t11 (.int .i64 0) w
theorem f69_call (x0 x1:Value) (K:K1) (w:World) (h:f69_t x0 x1 K w):callS prog 69 #[x0,x1] w K:=
 call_of_txt (args:= [x0,x1]) mixed Tryz.func69 f69_u.2 (by kernel_rfl) (cast (by kernel_rfl) h)
noncomputable def f70_u:Code×Dec:=((Tryz.f70.body).getD .skip,(.s .o (.s .o (.s .o (.s .o (.x 3096 (.s .o (.b (.l [10,11,34] 12884901916 4835703278458499519086336 .o))) (.x 3088 (.s .o (.b (.l [10,11,84] 14507109835375550096474128 85070591730215273052729817791150690048 (.s .o (.s .o (.x 33849922949209616891776016 .o .o)))))) .o)))))))
abbrev f70_e (K:K1):KF:=endK prog Tryz.f70.results.toList K
def f70_k1_o (K:K1):KF:=fun fr w=>∀σ,cP (pr (pr (pr (pr (pr f70_u))))) (f70_e K) (f70_e K) nX (mixF 3096 σ 0 fr) w
def f70_k1 (K:K1) (x3 x4 x10 x11:Value) (w:World):Prop:=f70_k1_o K (fz 135 0 [(3,x3),(4,x4),(10,x10),(11,x11)]) w
def f70_l1 (K:K1) (x2 x3 x4 x10 x11 x32 x33 x34:Value) (w:World):Prop:=loopT [10,11,34] 12884901916 (fun E=>cP (pl (pl (pr (pl (pr (pr (pr (pr f70_u)))))))) E (f70_e K) (exB 0 (f70_k1_o K) nX)) (fz 135 0 [(2,x2),(3,x3),(4,x4),(10,x10),(11,x11),(32,x32),(33,x33),(34,x34)]) w
def f70_k2_o (K:K1):KF:=fun fr w=>∀σ,cP (pr (pr (pr (pr (pr (pr f70_u)))))) (f70_e K) (f70_e K) nX (mixF 3088 σ 0 fr) w
def f70_k2 (K:K1) (x4 x10 x11:Value) (w:World):Prop:=f70_k2_o K (fz 135 0 [(4,x4),(10,x10),(11,x11)]) w
def f70_l2 (K:K1) (x4 x10 x11 x82 x83 x84:Value) (w:World):Prop:=loopT [10,11,84] 14507109835375550096474128 (fun E=>cP (pl (pl (pr (pl (pr (pr (pr (pr (pr f70_u))))))))) E (f70_e K) (exB 2 (f70_k2_o K) nX)) (fz 135 0 [(4,x4),(10,x10),(11,x11),(82,x82),(83,x83),(84,x84)]) w
def f70_k3_o (K:K1) (E1:VP3):KF:=fun fr w=>∀σ,cP (pr (pr (pr (pl (pl (pr (pl (pr (pr (pr (pr (pr f70_u)))))))))))) (fun fr w=>E1 (sv fr 10) (sv fr 11) (sv fr 84) w) (f70_e K) (exB 2 (f70_k2_o K) nX) (mixF 33849922949209616891776016 σ 0 fr) w
def f70_k3 (K:K1) (E1:VP3) (x4 x10 x11 x82 x83 x84:Value) (w:World):Prop:=f70_k3_o K E1 (fz 135 0 [(4,x4),(10,x10),(11,x11),(82,x82),(83,x83),(84,x84)]) w
def f70_k1_t (x3 x4 x10 x11:Value) (K:K1) (w:World):Prop:=
 bltS prog .len #[50] 3 #[false] #[x3] w fun t83 w=>
 f70_l2 K x4 x10 x11 x3 t83 (.int .i64 0) w
theorem f70_k1_eq (K:K1) (x3 x4 x10 x11:Value) (w:World):f70_k1 K x3 x4 x10 x11 w=f70_k1_t x3 x4 x10 x11 K w:=cutE fun σ=>by kernel_rfl
def f70_l1_t (x2 x3 x4 x10 x11 x32 x33 x34:Value) (K:K1) (E1:VP3) (w:World):Prop:=
 ev prog (binM .lss 3 (.tmp 34) (.tmp 33) x34 x33) w fun t35 w=>
 cndS t35 (
 ev prog (Instr.indexAt 50 x32 x34) w fun t37 w=>
 ldS prog 3 t37 w fun t38 w=>
 ldS prog 69 x4 w fun t40 w=>
 callS prog 65 (pA #[t40,t38]) w fun t42 w=>
 ev prog (Instr.extract t42 0) w fun t43 w=>
 ev prog (Instr.extract t42 1) w fun t44 w=>
 ev prog (Instr.extract t42 2) w fun t45 w=>
 ev prog (Instr.alloc 137 true (.tuple #[])) w fun t14 w=>
 stS prog 137 t14 t43 w fun w=>
 ev prog (Op.unary .not t44) w fun t47 w=>
 gd t47 false (fun k=>k t45 w) w fun t49 w=>
 pickS t47 (.bool true) t49 w fun t50 w=>
 gd t50 false (fun k=>ev prog (Instr.fieldAt 137 t14 2) w k) w fun t52 w=>
 gd t50 false (fun k=>ldS prog 5 t52 w k) w fun t53 w=>
 gd t50 false (fun k=>ev prog (binM .neq 5 (.tmp 53) (.const (.int .u8 ((176:Nat):Int))) t53 (.int .u8 ((176:Nat):Int))) w k) w fun t54 w=>
 pickS t50 (.bool true) t54 w fun t55 w=>
 gd t55 false (fun k=>ldS prog 137 t14 w k) w fun t57 w=>
 gd t55 false (fun k=>callS prog 66 (pA #[t57]) w k) w fun t58 w=>
 gd t55 false (fun k=>ev prog (Op.unary .not t58) w k) w fun t59 w=>
 pickS t55 (.bool true) t59 w fun t60 w=>
 cndS t60 (
 K (.tuple #[(.slice none 0 0),(.bool false)]) w) (
 ev prog (Instr.indexAt 58 x2 x34) w fun t63 w=>
 ldS prog 5 t63 w fun t64 w=>
 ev prog (Instr.fieldAt 137 t14 1) w fun t65 w=>
 stS prog 5 t65 t64 w fun w=>
 ev prog (Instr.fieldAt 137 t14 2) w fun t66 w=>
 stS prog 5 t66 (.int .u8 ((177:Nat):Int)) w fun w=>
 ldR prog 69 x4 w.drew fun t68=>
 ldR prog 137 t14 w.drew fun t71=>
 callS prog 68 (pA #[t68,t38]) w.drew fun t70 w=>
 (ldG prog 137 t14 w t71)∧
 callS prog 99 (pA #[t71]) w fun t72 w=>
 rd prog (Instr.build 80 #[(0,t70),(1,t72)]) w fun t73=>
 ev prog (Instr.buildSlice 76 1 #[(0,t73)]) w fun t74 w=>
 bltS prog .append #[76,76] 76 #[false,false] (pA #[x10,t74]) w fun t75 w=>
 ev prog (convert 3 96 t38) w fun t78 w=>
 ev prog (binM .shl 30 (.const (.int .u64 ((1:Nat):Int))) (.tmp 78) (.int .u64 ((1:Nat):Int)) t78) w fun t79 w=>
 ev prog (binM .or 30 (.tmp 76) (.tmp 79) x11 t79) w fun t80 w=>
 ev prog (binM .add 3 (.tmp 34) (.const (.int .i64 1)) x34 (.int .i64 1)) w fun t81 w=>
 E1 t75 t80 t81 w)) (
 f70_k1 K x3 x4 x10 x11 w)
theorem f70_l1_rule (x2 x3 x4 x10 x11 x32 x33 x34:Value) (K:K1) (w:World) (I:VP3) (μ:Value→Value→Value→World→Nat) (h0:I x10 x11 x34 w)
  (hr:∀(x10 x11 x34:Value) (w:World),I x10 x11 x34 w→∀E1:VP3,(∀(y10 y11 y34:Value) (w':World),I y10 y11 y34 w'→μ y10 y11 y34 w'<μ x10 x11 x34 w→E1 y10 y11 y34 w')→f70_l1_t x2 x3 x4 x10 x11 x32 x33 x34 K E1 w):f70_l1 K x2 x3 x4 x10 x11 x32 x33 x34 w:=
 ⟨I,μ,h0,fun σ w hI E hE=>cast (by kernel_rfl) (hr (σ 10) (σ 11) (σ 34) w hI E hE)⟩
def f70_k2_t (x4 x10 x11:Value) (K:K1) (w:World):Prop:=
 ev prog (Instr.fieldAt 69 x4 1) w fun t127 w=>
 ldS prog 3 t127 w fun t128 w=>
 callS prog 86 (pA #[t128]) w fun t129 w=>
 ev prog (binM .add 30 (.tmp 129) (.const (.int .u64 ((8:Nat):Int))) t129 (.int .u64 ((8:Nat):Int))) w fun t130 w=>
 ev prog (Instr.build 80 #[(0,t130),(1,x11)]) w fun t132 w=>
 ev prog (Instr.buildSlice 76 1 #[(0,t132)]) w fun t133 w=>
 bltS prog .append #[76,76] 76 #[false,false] (pA #[x10,t133]) w fun t134 w=>
 K (.tuple #[t134,(.bool true)]) w
theorem f70_k2_eq (K:K1) (x4 x10 x11:Value) (w:World):f70_k2 K x4 x10 x11 w=f70_k2_t x4 x10 x11 K w:=cutE fun σ=>by kernel_rfl
def f70_l2_t (x4 x10 x11 x82 x83 x84:Value) (K:K1) (E1:VP3) (w:World):Prop:=
 ev prog (binM .lss 3 (.tmp 84) (.tmp 83) x84 x83) w fun t85 w=>
 cndS t85 (
 ev prog (Instr.indexAt 50 x82 x84) w fun t86 w=>
 ldS prog 3 t86 w fun t87 w=>
 ldS prog 69 x4 w fun t89 w=>
 callS prog 65 (pA #[t89,t87]) w fun t91 w=>
 ev prog (Instr.extract t91 0) w fun t92 w=>
 ev prog (Instr.extract t91 1) w fun t93 w=>
 ev prog (Instr.extract t91 2) w fun t94 w=>
 ev prog (Instr.alloc 137 true (.tuple #[])) w fun t19 w=>
 stS prog 137 t19 t92 w fun w=>
 ev prog (Op.unary .not t93) w fun t96 w=>
 gd t96 false (fun k=>k t94 w) w fun t98 w=>
 gd t96 false (fun k=>ev prog (Op.unary .not t98) w k) w fun t99 w=>
 pickS t96 (.bool true) t99 w fun t100 w=>
 gd t100 false (fun k=>ev prog (Instr.fieldAt 137 t19 2) w k) w fun t102 w=>
 gd t100 false (fun k=>ldS prog 5 t102 w k) w fun t103 w=>
 gd t100 false (fun k=>ev prog (binM .neq 5 (.tmp 103) (.const (.int .u8 ((177:Nat):Int))) t103 (.int .u8 ((177:Nat):Int))) w k) w fun t104 w=>
 pickS t100 (.bool true) t104 w fun t105 w=>
 cndS t105 (
 K (.tuple #[(.slice none 0 0),(.bool false)]) w) (
 ldS prog 137 t19 w fun t106 w=>
 callS prog 108 (pA #[t106]) w fun t107 w=>
 stS prog 137 t19 t107 w fun w=>
 ldR prog 69 x4 w.drew fun t109=>
 ldR prog 137 t19 w.drew fun t112=>
 callS prog 68 (pA #[t109,t87]) w.drew fun t111 w=>
 (ldG prog 137 t19 w t112)∧
 callS prog 99 (pA #[t112]) w fun t113 w=>
 rd prog (Instr.build 80 #[(0,t111),(1,t113)]) w fun t114=>
 ev prog (Instr.buildSlice 76 1 #[(0,t114)]) w fun t115 w=>
 bltS prog .append #[76,76] 76 #[false,false] (pA #[x10,t115]) w fun t116 w=>
 ev prog (Instr.fieldAt 137 t19 2) w fun t117 w=>
 ldS prog 5 t117 w fun t118 w=>
 ev prog (binM .eql 5 (.tmp 118) (.const (.int .u8 ((176:Nat):Int))) t118 (.int .u8 ((176:Nat):Int))) w fun t119 w=>
 cndS t119 (
 ev prog (convert 3 96 t87) w fun t122 w=>
 ev prog (binM .shl 30 (.const (.int .u64 ((1:Nat):Int))) (.tmp 122) (.int .u64 ((1:Nat):Int)) t122) w fun t123 w=>
 ev prog (binM .andNot 30 (.tmp 120) (.tmp 123) x11 t123) w fun t124 w=>
 f70_k3 K E1 x4 t116 t124 x82 x83 x84 w) (
 f70_k3 K E1 x4 t116 x11 x82 x83 x84 w))) (
 f70_k2 K x4 x10 x11 w)
theorem f70_l2_rule (x4 x10 x11 x82 x83 x84:Value) (K:K1) (w:World) (I:VP3) (μ:Value→Value→Value→World→Nat) (h0:I x10 x11 x84 w)
  (hr:∀(x10 x11 x84:Value) (w:World),I x10 x11 x84 w→∀E1:VP3,(∀(y10 y11 y84:Value) (w':World),I y10 y11 y84 w'→μ y10 y11 y84 w'<μ x10 x11 x84 w→E1 y10 y11 y84 w')→f70_l2_t x4 x10 x11 x82 x83 x84 K E1 w):f70_l2 K x4 x10 x11 x82 x83 x84 w:=
 ⟨I,μ,h0,fun σ w hI E hE=>cast (by kernel_rfl) (hr (σ 10) (σ 11) (σ 84) w hI E hE)⟩
def f70_k3_t (x4 x10 x11 x82 x83 x84:Value) (K:K1) (E1:VP3) (w:World):Prop:=
 ev prog (binM .add 3 (.tmp 84) (.const (.int .i64 1)) x84 (.int .i64 1)) w fun t125 w=>
 E1 x10 x11 t125 w
theorem f70_k3_eq (K:K1) (E1:VP3) (x4 x10 x11 x82 x83 x84:Value) (w:World):f70_k3 K E1 x4 x10 x11 x82 x83 x84 w=f70_k3_t x4 x10 x11 x82 x83 x84 K E1 w:=cutE fun σ=>by kernel_rfl
def f70_t (x0 x1 x2 x3:Value) (K:K1) (w:World):Prop:=
 ev prog (Instr.box 69 x0) w fun t4 w=>
 bltS prog .len #[50] 3 #[false] #[x1] w fun t23 w=>
 ev prog (binM .eql 3 (.tmp 23) (.const (.int .i64 0)) t23 (.int .i64 0)) w fun t24 w=>
 gd t24 true (fun k=>k x3 w) w fun t26 w=>
 gd t24 true (fun k=>bltS prog .len #[50] 3 #[false] #[t26] w k) w fun t27 w=>
 gd t24 true (fun k=>ev prog (binM .eql 3 (.tmp 27) (.const (.int .i64 0)) t27 (.int .i64 0)) w k) w fun t28 w=>
 pickS t24 t28 (.bool false) w fun t29 w=>
 cndS t29 (
 K (.tuple #[(.slice none 0 0),(.bool true)]) w) (
 ldS prog 69 t4 w fun t30 w=>
 callS prog 106 (pA #[t30]) w fun t31 w=>
 bltS prog .len #[50] 3 #[false] #[x1] w fun t33 w=>
 f70_l1 K x2 x3 t4 (.slice none 0 0) t31 x1 t33 (.int .i64 0) w)
theorem f70_call (x0 x1 x2 x3:Value) (K:K1) (w:World) (h:f70_t x0 x1 x2 x3 K w):callS prog 70 #[x0,x1,x2,x3] w K:=
 call_of_txt (args:= [x0,x1,x2,x3]) mixed Tryz.func70 f70_u.2 (by kernel_rfl) (cast (by kernel_rfl) h)
def f72_t (x0 x1:Value) (K:K1) (w:World):Prop:=
 ev prog (Instr.box 69 x0) w fun t2 w=>
 ev prog (Instr.fieldAt 69 t2 1) w fun t7 w=>
 ldS prog 3 t7 w fun t8 w=>
 callS prog 86 (pA #[t8]) w fun t9 w=>
 ev prog (Instr.fieldAt 69 t2 0) w fun t10 w=>
 ldS prog 66 t10 w fun t11 w=>
 ev prog (binM .eql 66 (.tmp 11) (.const .nilIface) t11 .nilIface) w fun t12 w=>
 gd t12 false (fun k=>k x1 w) w fun t14 w=>
 gd t12 false (fun k=>k t9 w) w fun t15 w=>
 gd t12 false (fun k=>ev prog (binM .lss 30 (.tmp 14) (.tmp 15) t14 t15) w k) w fun t16 w=>
 pickS t12 (.bool true) t16 w fun t17 w=>
 gd t17 false (fun k=>k x1 w) w fun t19 w=>
 gd t17 false (fun k=>k t9 w) w fun t20 w=>
 gd t17 false (fun k=>ev prog (binM .sub 30 (.tmp 19) (.tmp 20) t19 t20) w k) w fun t21 w=>
 gd t17 false (fun k=>ev prog (binM .geq 30 (.tmp 21) (.const (.int .u64 ((2048:Nat):Int))) t21 (.int .u64 ((2048:Nat):Int))) w k) w fun t22 w=>
 pickS t17 (.bool true) t22 w fun t23 w=>
 cndS t23 (
 K (.tuple #[(.int .i64 0),(.bool false)]) w) (
 ev prog (Instr.fieldAt 69 t2 2) w fun t24 w=>
 ev prog (Instr.fieldAt 67 t24 0) w fun t25 w=>
 ldS prog 3 t25 w fun t26 w=>
 ev prog (binM .sub 30 (.tmp 27) (.tmp 28) x1 t9) w fun t29 w=>
 ev prog (binM .quo 30 (.tmp 29) (.const (.int .u64 ((8:Nat):Int))) t29 (.int .u64 ((8:Nat):Int))) w fun t30 w=>
 ev prog (convert 30 3 t30) w fun t31 w=>
 callS prog 109 (pA #[t26,t31]) w fun t32 w=>
 ev prog (Instr.extract t32 0) w fun t33 w=>
 ev prog (Instr.extract t32 1) w fun t34 w=>
 K (.tuple #[t33,t34]) w)
theorem f72_call (x0 x1:Value) (K:K1) (w:World) (h:f72_t x0 x1 K w):callS prog 72 #[x0,x1] w K:=
 call_of_txt (args:= [x0,x1]) mixed Tryz.func72 .o (by kernel_rfl) (cast (by kernel_rfl) h)
def f76_t (x0 x1 x2:Value) (K:K1) (w:World):Prop:=
 ev prog (Instr.box 69 x0) w fun t3 w=>
 ldS prog 69 t3 w fun t10 w=>
 callS prog 64 (pA #[t10,x1]) w fun t12 w=>
 ev prog (Op.unary .not t12) w fun t13 w=>
 cndS t13 (
 K (.bool false) w) (
 ldS prog 69 t3 w fun t15 w=>
 callS prog 65 (pA #[t15,x1]) w fun t17 w=>
 ev prog (Instr.extract t17 0) w fun t18 w=>
 ev prog (Instr.extract t17 1) w fun t19 w=>
 ev prog (Instr.extract t17 2) w fun t20 w=>
 ev prog (Instr.alloc 137 true (.tuple #[])) w fun t7 w=>
 stS prog 137 t7 t18 w fun w=>
 gd t19 true (fun k=>k t20 w) w fun t23 w=>
 pickS t19 t23 (.bool false) w fun t24 w=>
 gd t24 true (fun k=>ev prog (Instr.fieldAt 137 t7 2) w k) w fun t26 w=>
 gd t24 true (fun k=>ldS prog 5 t26 w k) w fun t27 w=>
 gd t24 true (fun k=>k x2 w) w fun t28 w=>
 gd t24 true (fun k=>ev prog (binM .eql 5 (.tmp 27) (.tmp 28) t27 t28) w k) w fun t29 w=>
 pickS t24 t29 (.bool false) w fun t30 w=>
 K t30 w)
theorem f76_call (x0 x1 x2:Value) (K:K1) (w:World) (h:f76_t x0 x1 x2 K w):callS prog 76 #[x0,x1,x2] w K:=
 call_of_txt (args:= [x0,x1,x2]) mixed Tryz.func76 .o (by kernel_rfl) (cast (by kernel_rfl) h)
noncomputable def f80_u:Code×Dec:=((Tryz.f80.body).getD .skip,(.s .o (.s .o (.s .o (.s .o (.x 2 (.s .o (.b (.l [6] 10 4502500115742788 .o))) (.s .o (.x 130 (.s .o (.b (.l [7,56] 36028797018963970 154742504838614940324464516 (.s .o (.s .o (.x 108086391056892034 (.b (.s .o (.x 108086391056893826 .o .o))) .o)))))) .o))))))))
abbrev f80_e (K:K1):KF:=endK prog Tryz.f80.results.toList K
def f80_k1_o (K:K1):KF:=fun fr w=>∀σ,cP (pr (pr (pr (pr (pr f80_u))))) (f80_e K) (f80_e K) nX (mixF 2 σ 0 fr) w
def f80_k1 (K:K1) (x1:Value) (w:World):Prop:=f80_k1_o K (fz 91 0 [(1,x1)]) w
def f80_l1 (K:K1) (x1 x3 x6:Value) (w:World):Prop:=loopT [6] 10 (fun E=>cP (pl (pl (pr (pl (pr (pr (pr (pr f80_u)))))))) E (f80_e K) (exB 0 (f80_k1_o K) nX)) (fz 91 0 [(1,x1),(3,x3),(6,x6)]) w
def f80_k2_o (K:K1):KF:=fun fr w=>∀σ,cP (pr (pr (pr (pr (pr (pr (pr f80_u))))))) (f80_e K) (f80_e K) nX (mixF 130 σ 0 fr) w
def f80_k2 (K:K1) (x1 x7:Value) (w:World):Prop:=f80_k2_o K (fz 91 0 [(1,x1),(7,x7)]) w
def f80_l2 (K:K1) (x1 x7 x55 x56:Value) (w:World):Prop:=loopT [7,56] 36028797018963970 (fun E=>cP (pl (pl (pr (pl (pr (pr (pr (pr (pr (pr f80_u)))))))))) E (f80_e K) (exB 2 (f80_k2_o K) nX)) (fz 91 0 [(1,x1),(7,x7),(55,x55),(56,x56)]) w
def f80_k3_o (K:K1) (E1:VP2):KF:=fun fr w=>∀σ,cP (pr (pr (pr (pl (pl (pr (pl (pr (pr (pr (pr (pr (pr f80_u))))))))))))) (fun fr w=>E1 (sv fr 7) (sv fr 56) w) (f80_e K) (exB 2 (f80_k2_o K) nX) (mixF 108086391056892034 σ 0 fr) w
def f80_k3 (K:K1) (E1:VP2) (x1 x7 x55 x56:Value) (w:World):Prop:=f80_k3_o K E1 (fz 91 0 [(1,x1),(7,x7),(55,x55),(56,x56)]) w
def f80_k4_o (K:K1) (E1:VP2):KF:=fun fr w=>∀σ,cP (pr (pr (pl (pl (pr (pr (pl (pl (pr (pl (pr (pr (pr (pr (pr (pr f80_u)))))))))))))))) (f80_k3_o K E1) (f80_e K) (exB 3 (f80_k3_o K E1) (exB 2 (f80_k2_o K) nX)) (mixF 108086391056893826 σ 0 fr) w
def f80_k4 (K:K1) (E1:VP2) (x1 x7 x8 x9 x10 x55 x56:Value) (w:World):Prop:=f80_k4_o K E1 (fz 91 0 [(1,x1),(7,x7),(8,x8),(9,x9),(10,x10),(55,x55),(56,x56)]) w
def f80_k1_t (x1:Value) (K:K1) (w:World):Prop:=
 ev prog (Instr.fieldAt 69 x1 2) w fun t52 w=>
 ev prog (Instr.fieldAt 67 t52 0) w fun t53 w=>
 ldS prog 3 t53 w fun t54 w=>
 callS prog 59 (pA #[t54]) w fun t55 w=>
 f80_l2 K x1 (.int .u64 ((0:Nat):Int)) t55 (.int .i64 0) w
theorem f80_k1_eq (K:K1) (x1:Value) (w:World):f80_k1 K x1 w=f80_k1_t x1 K w:=cutE fun σ=>by kernel_rfl
def f80_l1_t (x1 x3 x6:Value) (K:K1) (E1:VP1) (w:World):Prop:=
 ev prog (binM .lss 30 (.tmp 40) (.const (.int .u64 ((8:Nat):Int))) x6 (.int .u64 ((8:Nat):Int))) w fun t41 w=>
 cndS t41 (
 ev prog (Instr.fieldAt 69 x1 0) w fun t44 w=>
 ldS prog 66 t44 w fun t45 w=>
 ev prog (binM .mul 30 (.tmp 47) (.const (.int .u64 ((8:Nat):Int))) x6 (.int .u64 ((8:Nat):Int))) w fun t48 w=>
 ev prog (binM .add 30 (.tmp 46) (.tmp 48) x3 t48) w fun t49 w=>
 invS prog t45 "Load" (pA #[t49]) w fun t50 w=>
 ev prog (binM .neq 30 (.tmp 50) (.const (.int .u64 ((0:Nat):Int))) t50 (.int .u64 ((0:Nat):Int))) w fun t51 w=>
 cndS t51 (
 K (.bool false) w) (
 ev prog (binM .add 30 (.tmp 42) (.const (.int .u64 ((1:Nat):Int))) x6 (.int .u64 ((1:Nat):Int))) w fun t43 w=>
 E1 t43 w)) (
 f80_k1 K x1 w)
theorem f80_l1_rule (x1 x3 x6:Value) (K:K1) (w:World) (I:VP1) (μ:Value→World→Nat) (h0:I x6 w)
  (hr:∀(x6:Value) (w:World),I x6 w→∀E1:VP1,(∀(y6:Value) (w':World),I y6 w'→μ y6 w'<μ x6 w→E1 y6 w')→f80_l1_t x1 x3 x6 K E1 w):f80_l1 K x1 x3 x6 w:=
 ⟨I,μ,h0,fun σ w hI E hE=>cast (by kernel_rfl) (hr (σ 6) w hI E hE)⟩
def f80_k2_t (x1 x7:Value) (K:K1) (w:World):Prop:=
 ldS prog 69 x1 w fun t87 w=>
 callS prog 106 (pA #[t87]) w fun t88 w=>
 ev prog (binM .eql 30 (.tmp 88) (.tmp 89) t88 x7) w fun t90 w=>
 K t90 w
theorem f80_k2_eq (K:K1) (x1 x7:Value) (w:World):f80_k2 K x1 x7 w=f80_k2_t x1 x7 K w:=cutE fun σ=>by kernel_rfl
def f80_l2_t (x1 x7 x55 x56:Value) (K:K1) (E1:VP2) (w:World):Prop:=
 ev prog (binM .lss 3 (.tmp 56) (.tmp 55) x56 x55) w fun t57 w=>
 cndS t57 (
 rd prog (Instr.fieldAt 69 x1 0) w.drew fun t60=>
 ldR prog 66 t60 w.drew fun t61=>
 ldR prog 69 x1 w.drew fun t62=>
 nilR prog t61 w.drew fun t65=>
 (callS prog 68 (pA #[t62,x56]) w.drew fun t64 w=>
 (ag prog (Instr.fieldAt 69 x1 0) w t60)∧
 (ldG prog 66 t60 w t61)∧
 (nilR prog t61 w (fun u=>u=t65))∧
 (invS prog t61 "Load" (pA #[t64]) w fun t67 w=>
 (callS prog 107 (pA #[t67]) w fun t68 w=>
 rd prog (Instr.extract t68 0) w fun t69=>
 rd prog (Instr.extract t68 1) w fun t70=>
 ev prog (Instr.alloc 137 true (.tuple #[])) w fun t9 w=>
 (ag prog (Instr.fieldAt 69 x1 0) w t60)∧
 (ldG prog 66 t60 w t61)∧
 (ldG prog 69 x1 w t62)∧
 (nilR prog t61 w (fun u=>u=t65))∧
 stS prog 137 t9 t69 w fun w=>
 f80_k4 K E1 x1 x7 x56 t9 t70 x55 x56 w)∧
 (ev prog (Instr.alloc 137 true (.tuple #[])) w fun t9_1 w=>
 (ag prog (Instr.fieldAt 69 x1 0) w t60)∧
 (ldG prog 66 t60 w t61)∧
 (ldG prog 69 x1 w t62)∧
 (nilR prog t61 w (fun u=>u=t65))∧
 callS prog 107 (pA #[t67]) w fun t68_1 w=>
 rd prog (Instr.extract t68_1 0) w fun t69_1=>
 rd prog (Instr.extract t68_1 1) w fun t70_1=>
 stS prog 137 t9_1 t69_1 w fun w=>
 f80_k4 K E1 x1 x7 x56 t9_1 t70_1 x55 x56 w))∧
 (ev prog (Instr.alloc 137 true (.tuple #[])) w fun t9_2 w=>
 (ag prog (Instr.fieldAt 69 x1 0) w t60)∧
 (ldG prog 66 t60 w t61)∧
 (ldG prog 69 x1 w t62)∧
 (nilR prog t61 w (fun u=>u=t65))∧
 invS prog t61 "Load" (pA #[t64]) w fun t67_1 w=>
 callS prog 107 (pA #[t67_1]) w fun t68_2 w=>
 rd prog (Instr.extract t68_2 0) w fun t69_2=>
 rd prog (Instr.extract t68_2 1) w fun t70_2=>
 stS prog 137 t9_2 t69_2 w fun w=>
 f80_k4 K E1 x1 x7 x56 t9_2 t70_2 x55 x56 w))∧
 (ev prog (Instr.alloc 137 true (.tuple #[])) w.drew fun t9_3 w=>
 (ag prog (Instr.fieldAt 69 x1 0) w t60)∧
 (ldG prog 66 t60 w t61)∧
 (ldG prog 69 x1 w t62)∧
 (nilR prog t61 w (fun u=>u=t65))∧
 callS prog 68 (pA #[t62,x56]) w fun t64_1 w=>
 (ag prog (Instr.fieldAt 69 x1 0) w t60)∧
 (ldG prog 66 t60 w t61)∧
 (nilR prog t61 w (fun u=>u=t65))∧
 invS prog t61 "Load" (pA #[t64_1]) w fun t67_2 w=>
 callS prog 107 (pA #[t67_2]) w fun t68_3 w=>
 rd prog (Instr.extract t68_3 0) w fun t69_3=>
 rd prog (Instr.extract t68_3 1) w fun t70_3=>
 stS prog 137 t9_3 t69_3 w fun w=>
 f80_k4 K E1 x1 x7 x56 t9_3 t70_3 x55 x56 w)) (
 f80_k2 K x1 x7 w)
theorem f80_l2_rule (x1 x7 x55 x56:Value) (K:K1) (w:World) (I:VP2) (μ:Value→Value→World→Nat) (h0:I x7 x56 w)
  (hr:∀(x7 x56:Value) (w:World),I x7 x56 w→∀E1:VP2,(∀(y7 y56:Value) (w':World),I y7 y56 w'→μ y7 y56 w'<μ x7 x56 w→E1 y7 y56 w')→f80_l2_t x1 x7 x55 x56 K E1 w):f80_l2 K x1 x7 x55 x56 w:=
 ⟨I,μ,h0,fun σ w hI E hE=>cast (by kernel_rfl) (hr (σ 7) (σ 56) w hI E hE)⟩
def f80_k3_t (x1 x7 x55 x56:Value) (K:K1) (E1:VP2) (w:World):Prop:=
 ev prog (binM .add 3 (.tmp 56) (.const (.int .i64 1)) x56 (.int .i64 1)) w fun t86 w=>
 E1 x7 t86 w
theorem f80_k3_eq (K:K1) (E1:VP2) (x1 x7 x55 x56:Value) (w:World):f80_k3 K E1 x1 x7 x55 x56 w=f80_k3_t x1 x7 x55 x56 K E1 w:=cutE fun σ=>by kernel_rfl
def f80_k4_t (x1 x7 x8 x9 x10 x55 x56:Value) (K:K1) (E1:VP2) (w:World):Prop:=
 ev prog (Op.unary .not x10) w fun t72 w=>
 gd t72 false (fun k=>ldS prog 137 x9 w k) w fun t74 w=>
 gd t72 false (fun k=>callS prog 66 (pA #[t74]) w k) w fun t75 w=>
 gd t72 false (fun k=>ev prog (Op.unary .not t75) w k) w fun t76 w=>
 pickS t72 (.bool true) t76 w fun t77 w=>
 cndS t77 (
 K (.bool false) w) (
 ev prog (Instr.fieldAt 137 x9 2) w fun t78 w=>
 ldS prog 5 t78 w fun t79 w=>
 ev prog (binM .neq 5 (.tmp 79) (.const (.int .u8 ((176:Nat):Int))) t79 (.int .u8 ((176:Nat):Int))) w fun t80 w=>
 cndS t80 (
 ev prog (convert 3 96 x8) w fun t83 w=>
 ev prog (binM .shl 30 (.const (.int .u64 ((1:Nat):Int))) (.tmp 83) (.int .u64 ((1:Nat):Int)) t83) w fun t84 w=>
 ev prog (binM .or 30 (.tmp 81) (.tmp 84) x7 t84) w fun t85 w=>
 f80_k3 K E1 x1 t85 x55 x56 w) (
 f80_k3 K E1 x1 x7 x55 x56 w))
theorem f80_k4_eq (K:K1) (E1:VP2) (x1 x7 x8 x9 x10 x55 x56:Value) (w:World):f80_k4 K E1 x1 x7 x8 x9 x10 x55 x56 w=f80_k4_t x1 x7 x8 x9 x10 x55 x56 K E1 w:=cutE fun σ=>by kernel_rfl
def f80_t (x0:Value) (K:K1) (w:World):Prop:=
 ev prog (Instr.box 69 x0) w fun t1 w=>
 ev prog (Instr.fieldAt 69 t1 1) w fun t11 w=>
 ldS prog 3 t11 w fun t12 w=>
 callS prog 86 (pA #[t12]) w fun t13 w=>
 ev prog (Instr.fieldAt 69 t1 0) w fun t15 w=>
 ldS prog 66 t15 w fun t16 w=>
 invS prog t16 "Load" (pA #[t13]) w fun t18 w=>
 callS prog 87 (pA #[t18]) w fun t19 w=>
 ev prog (Instr.extract t19 0) w fun t20 w=>
 ev prog (Instr.extract t19 1) w fun t21 w=>
 ev prog (Instr.alloc 67 true (.tuple #[])) w fun t4 w=>
 stS prog 67 t4 t20 w fun w=>
 ev prog (Op.unary .not t21) w fun t23 w=>
 gd t23 false (fun k=>ev prog (Instr.fieldAt 67 t4 0) w k) w fun t25 w=>
 gd t23 false (fun k=>ldS prog 3 t25 w k) w fun t26 w=>
 gd t23 false (fun k=>ev prog (Instr.fieldAt 69 t1 2) w k) w fun t27 w=>
 gd t23 false (fun k=>ev prog (Instr.fieldAt 67 t27 0) w k) w fun t28 w=>
 gd t23 false (fun k=>ldS prog 3 t28 w k) w fun t29 w=>
 gd t23 false (fun k=>ev prog (binM .neq 3 (.tmp 26) (.tmp 29) t26 t29) w k) w fun t30 w=>
 pickS t23 (.bool true) t30 w fun t31 w=>
 gd t31 false (fun k=>ev prog (Instr.fieldAt 67 t4 1) w k) w fun t33 w=>
 gd t31 false (fun k=>ldS prog 3 t33 w k) w fun t34 w=>
 gd t31 false (fun k=>ev prog (Instr.fieldAt 69 t1 2) w k) w fun t35 w=>
 gd t31 false (fun k=>ev prog (Instr.fieldAt 67 t35 1) w k) w fun t36 w=>
 gd t31 false (fun k=>ldS prog 3 t36 w k) w fun t37 w=>
 gd t31 false (fun k=>ev prog (binM .neq 3 (.tmp 34) (.tmp 37) t34 t37) w k) w fun t38 w=>
 pickS t31 (.bool true) t38 w fun t39 w=>
 cndS t39 (
 K (.bool false) w) (
 f80_l1 K t1 t13 (.int .u64 ((2:Nat):Int)) w)
theorem f80_call (x0:Value) (K:K1) (w:World) (h:f80_t x0 K w):callS prog 80 #[x0] w K:=
 call_of_txt (args:= [x0]) mixed Tryz.func80 f80_u.2 (by kernel_rfl) (cast (by kernel_rfl) h)
def f106_t (x0:Value) (K:K1) (w:World):Prop:=
 ev prog (Instr.box 69 x0) w fun t1 w=>
 rd prog (Instr.fieldAt 69 t1 0) w.drew fun t3=>
 ldR prog 66 t3 w.drew fun t4=>
 rd prog (Instr.fieldAt 69 t1 1) w.drew fun t5=>
 ldR prog 3 t5 w.drew fun t6=>
 nilR prog t4 w.drew fun t9=>
 callS prog 86 (pA #[t6]) w.drew fun t7 w=>
 (ag prog (Instr.fieldAt 69 t1 0) w t3)∧
 (ldG prog 66 t3 w t4)∧
 (nilR prog t4 w (fun u=>u=t9))∧
 rd prog (binM .add 30 (.tmp 7) (.const (.int .u64 ((8:Nat):Int))) t7 (.int .u64 ((8:Nat):Int))) w fun t8=>
 invS prog t4 "Load" (pA #[t8]) w fun t11 w=>
 K t11 w
theorem f106_call (x0:Value) (K:K1) (w:World) (h:f106_t x0 K w):callS prog 106 #[x0] w K:=
 call_of_txt (args:= [x0]) mixed Tryz.func106 .o (by kernel_rfl) (cast (by kernel_rfl) h)
noncomputable def f110_u:Code×Dec:=((Tryz.f110.body).getD .skip,(.s .o (.s .o (.s .o (.x 16 (.s .o (.b (.l [4,14] 8194 17592186028540 .o))) .o)))))
abbrev f110_e (K:K1):KF:=endK prog Tryz.f110.results.toList K
def f110_k1_o (K:K1):KF:=fun fr w=>∀σ,cP (pr (pr (pr (pr f110_u)))) (f110_e K) (f110_e K) nX (mixF 16 σ 0 fr) w
def f110_k1 (K:K1) (x4:Value) (w:World):Prop:=f110_k1_o K (fz 45 0 [(4,x4)]) w
def f110_l1 (K:K1) (x1 x4 x13 x14:Value) (w:World):Prop:=loopT [4,14] 8194 (fun E=>cP (pl (pl (pr (pl (pr (pr (pr f110_u))))))) E (f110_e K) (exB 0 (f110_k1_o K) nX)) (fz 45 0 [(1,x1),(4,x4),(13,x13),(14,x14)]) w
def f110_k1_t (x4:Value) (K:K1) (w:World):Prop:=
 K (.tuple #[x4,(.bool true)]) w
theorem f110_k1_eq (K:K1) (x4:Value) (w:World):f110_k1 K x4 w=f110_k1_t x4 K w:=cutE fun σ=>by kernel_rfl
def f110_l1_t (x1 x4 x13 x14:Value) (K:K1) (E1:VP2) (w:World):Prop:=
 ev prog (binM .lss 3 (.tmp 14) (.tmp 13) x14 x13) w fun t15 w=>
 cndS t15 (
 ldS prog 69 x1 w fun t18 w=>
 callS prog 65 (pA #[t18,x14]) w fun t20 w=>
 ev prog (Instr.extract t20 0) w fun t21 w=>
 ev prog (Instr.extract t20 1) w fun t22 w=>
 ev prog (Instr.extract t20 2) w fun t23 w=>
 ev prog (Instr.alloc 137 true (.tuple #[])) w fun t6 w=>
 stS prog 137 t6 t21 w fun w=>
 ev prog (Op.unary .not t22) w fun t25 w=>
 gd t25 false (fun k=>k t23 w) w fun t27 w=>
 pickS t25 (.bool true) t27 w fun t28 w=>
 gd t28 false (fun k=>ev prog (Instr.fieldAt 137 t6 2) w k) w fun t30 w=>
 gd t28 false (fun k=>ldS prog 5 t30 w k) w fun t31 w=>
 gd t28 false (fun k=>ev prog (binM .neq 5 (.tmp 31) (.const (.int .u8 ((176:Nat):Int))) t31 (.int .u8 ((176:Nat):Int))) w k) w fun t32 w=>
 pickS t28 (.bool true) t32 w fun t33 w=>
 gd t33 false (fun k=>ev prog (Instr.fieldAt 137 t6 0) w k) w fun t35 w=>
 gd t33 false (fun k=>ldS prog 34 t35 w k) w fun t36 w=>
 gd t33 false (fun k=>ev prog (binM .eql 34 (.tmp 36) (.const (.int .u16 ((0:Nat):Int))) t36 (.int .u16 ((0:Nat):Int))) w k) w fun t37 w=>
 pickS t33 (.bool true) t37 w fun t38 w=>
 cndS t38 (
 K (.tuple #[(.int .u16 ((0:Nat):Int)),(.bool false)]) w) (
 ev prog (Instr.fieldAt 137 t6 0) w fun t40 w=>
 ldS prog 34 t40 w fun t41 w=>
 bltS prog .max #[34,34] 34 #[false,false] #[x4,t41] w fun t42 w=>
 ev prog (binM .add 3 (.tmp 14) (.const (.int .i64 1)) x14 (.int .i64 1)) w fun t43 w=>
 E1 t42 t43 w)) (
 f110_k1 K x4 w)
theorem f110_l1_rule (x1 x4 x13 x14:Value) (K:K1) (w:World) (I:VP2) (μ:Value→Value→World→Nat) (h0:I x4 x14 w)
  (hr:∀(x4 x14:Value) (w:World),I x4 x14 w→∀E1:VP2,(∀(y4 y14:Value) (w':World),I y4 y14 w'→μ y4 y14 w'<μ x4 x14 w→E1 y4 y14 w')→f110_l1_t x1 x4 x13 x14 K E1 w):f110_l1 K x1 x4 x13 x14 w:=
 ⟨I,μ,h0,fun σ w hI E hE=>cast (by kernel_rfl) (hr (σ 4) (σ 14) w hI E hE)⟩
def f110_t (x0:Value) (K:K1) (w:World):Prop:=
 ev prog (Instr.box 69 x0) w fun t1 w=>
 ev prog (Instr.fieldAt 69 t1 0) w fun t9 w=>
 ldS prog 66 t9 w fun t10 w=>
 ev prog (binM .eql 66 (.tmp 10) (.const .nilIface) t10 .nilIface) w fun t11 w=>
 cndS t11 (
 K (.tuple #[(.int .u16 ((0:Nat):Int)),(.bool false)]) w) (
 ldS prog 69 t1 w fun t12 w=>
 callS prog 63 (pA #[t12]) w fun t13 w=>
 f110_l1 K t1 (.int .u16 ((0:Nat):Int)) t13 (.int .i64 0) w)
theorem f110_call (x0:Value) (K:K1) (w:World) (h:f110_t x0 K w):callS prog 110 #[x0] w K:=
 call_of_txt (args:= [x0]) mixed Tryz.func110 f110_u.2 (by kernel_rfl) (cast (by kernel_rfl) h)
section
variable {w w':World}
def clrI (l g:Nat):List Ins:=storesI [(l*64,sealN (hdX (-1) (-1) g))]
theorem storesI_pos (ws:List (Nat×Nat)):0<(storesI ws).length:=by simp [storesI];omega
theorem k_Clear (hG:Glob w) (l g:Nat) (hl:l≤4064) (hg:g≠0) (hg':g<65536) (K:K1) (hK:∀v' w',SlO w' 176 3 v' (clrI l g).length (inL (clrI l g))→Ext w w'→NewV w.heap.size v'→K (.tuple #[v',.int .i64 0]) w'):
  callS prog 82 #[.int .i64 (l:Int),.int .u16 (g:Int)] w K:=by
 refine f82_call _ _ _ _ ?_
 unfold f82_t
 have hw:∀(w1:World) (K:K1),Ext w w1→callS prog 102 #[.agg #[.int .i64 (-1),.int .i64 (-1),.int .u16 (g:Int)]] w1 K=K (.int .u64 ((sealN (hdX (-1) (-1) g):Nat):Int)) ((w1.alloc (hdO (-1) (-1) g)).alloc (sealO (hdX (-1) (-1) g))):=fun w1 K he=>c_hword (-1) (-1) g w1 K (hG.ext he) hg' (by omega) (by omega) (by omega) (by omega)
 (repeat' (first|(with_reducible first|refine brS_mk (fun _=> ?_) (fun _=> ?_)|refine And.intro ?_ ?_)|(simp (disch:=first|omega|simp only [RO]|(simp only [RZ]<;>omega)|(with_reducible (repeat (first|assumption|exact Ext.refl _|refine Ext.alloc ?_ _|refine Ext.drew ?_|refine Ext.trans ?_ (by assumption))))|fail) only [↓RBp,↓RA,↓reduceIte,Nat.reduceAdd,Nat.reduceMul,Nat.reduceEqDiff,RB,RX,RA2,c_possible,c_line,hw,Int.toNat_natCast])))
 refine k_Stores [(l*64,sealN (hdX (-1) (-1) g))] _ ?_ (by simp) (by simp) ?_ _ (fun v' w' hs he hn=> ?_)
 ·exact (SlO.lit' _ 80 2 1 (wrL [(l*64,sealN (hdX (-1) (-1) g))]) rfl (by decide) (by simp only [RZ])).ext (Ext.refl _).drew
 ·intro x hx;simp only [List.mem_singleton] at hx;subst hx;simp only;omega
 ·refine hK v' w' hs (Ext.trans (by repeat (first|(with_reducible first|refine eB ?_ _|assumption|exact eR _|refine eA ?_ _|refine eD ?_|refine eT ?_ (by assumption))|exact eR _)) he) (fun b hb=>Nat.le_trans ?_ (hn b hb))
  simp only [RZ];omega
def planW (l:Nat) (c:Int) (g:Nat):List (Nat×Nat):=(List.range (perS c).toNat).map (fun (i:Nat)=>(l*64+(offS c (i:Int)).toNat*8,sealN (blkX g 0 176)))++(List.range 7).map (fun k=>(l*64+(k+1)*8,0))
def planI (l:Nat) (c o:Int) (g:Nat):List Ins:=storesI (planW l c g)++storesI [(l*64,sealN (hdX c o g))]
theorem planW_len (l:Nat) (c:Int) (g:Nat):(planW l c g).length=(perS c).toNat+7:=by simp [planW]
theorem k_Plan (hG:Glob w) (l:Nat) (c o:Int) (g:Nat) (hl:l≤4064) (hc0:0≤c) (hc:c<5) (ho0:0≤o) (ho:o<8) (hg:g≠0) (hg':g<65536) (K:K1) (hK:∀v' w',SlO w' 176 3 v' (planI l c o g).length (inL (planI l c o g))→Ext w w'→NewV w.heap.size v'→K (.tuple #[v',.int .i64 0]) w'):
  callS prog 61 #[.int .i64 (l:Int),.agg #[.int .i64 c,.int .i64 o,.int .u16 (g:Int)]] w K:=by
 refine f61_call _ _ _ _ ?_
 unfold f61_t
 have hp:=perS_in hc0 hc
 have hwd:=wordsS_in hc0 hc
 have hf:∀(w1:World) (K:K1),Ext w w1→callS prog 98 #[.agg #[.int .i64 c,.int .i64 o,.int .u16 (g:Int)]] w1 K=K (.bool true) (w1.alloc (hdO c o g)):=fun w1 K he=>by
  rw [c_formatted c o g w1 K (hG.ext he)]
  have:fmtB c o=true:=by simp [fmtB];omega
  rw [this]
 have hb:∀(w1:World) (K:K1),Ext w w1→callS prog 99 #[.agg #[.int .u16 (g:Int),.int .u8 ((0:Nat):Int),.int .u8 ((176:Nat):Int)]] w1 K=K (.int .u64 ((sealN (blkX g 0 176):Nat):Int)) ((w1.alloc (blkO g 0 176)).alloc (sealO (blkX g 0 176))):=fun w1 K he=>c_bword g 0 176 w1 K (hG.ext he) hg' (by omega) (by omega)
 have hpc:∀(w1:World) (K:K1),Ext w w1→callS prog 59 #[.int .i64 c] w1 K=K (.int .i64 (perS c)) w1:=fun w1 K he=>c_PerChunk c w1 K (hG.ext he)
 have hw:∀(w1:World) (K:K1),Ext w w1→callS prog 102 #[.agg #[.int .i64 c,.int .i64 o,.int .u16 (g:Int)]] w1 K=K (.int .u64 ((sealN (hdX c o g):Nat):Int)) ((w1.alloc (hdO c o g)).alloc (sealO (hdX c o g))):=fun w1 K he=>c_hword c o g w1 K (hG.ext he) hg' (by omega) (by omega) (by omega) (by omega)
 have hof:∀(i:Nat) (w1:World) (K:K1),Ext w w1→i<(perS c).toNat→callS prog 100 #[.int .i64 c,.int .i64 (i:Int)] w1 K=K (.tuple #[.int .i64 (((offS c (i:Int)).toNat:Nat):Int),.int .i64 0]) w1:=fun i w1 K he hi=>by
  have hb:=offS_bd hc0 hc (show 0≤(i:Int) by omega) (by omega)
  rw [c_Offset c i w1 K (hG.ext he) hc0 hc (by omega) (by omega),show (((offS c (i:Int)).toNat:Nat):Int)=offS c i by omega]
 (repeat' (first|(with_reducible first|refine brS_mk (fun _=> ?_) (fun _=> ?_)|refine And.intro ?_ ?_)|(simp (disch:=first|omega|simp only [RO]|(simp only [RZ]<;>omega)|(with_reducible (repeat (first|assumption|exact Ext.refl _|refine Ext.alloc ?_ _|refine Ext.drew ?_|refine Ext.trans ?_ (by assumption))))|fail) only [↓RBp,↓RA,↓reduceIte,Nat.reduceAdd,Nat.reduceMul,Nat.reduceEqDiff,RB,RX,RA2,c_possible,c_line,hf,hb,hpc,Int.toNat_natCast])))
 have e1:Ext w (w.alloc (.cells #[.int .i64 c,.int .i64 o,.int .u16 (g:Int)] 67)):=Ext.alloc_self _ _
 have hcell:∀w',Ext (w.alloc (.cells #[.int .i64 c,.int .i64 o,.int .u16 (g:Int)] 67)) w'→w'.cell? ⟨w.heap.size,0,none⟩=some (.int .i64 c)∧w'.cell? ⟨w.heap.size,1,none⟩=some (.int .i64 o)∧w'.cell? ⟨w.heap.size,2,none⟩=some (.int .u16 (g:Int)):=by
  intro w' he
  have:∀i,w'.cell? ⟨w.heap.size,i,none⟩=_:=fun i=>he.cell _ i (by simp only [RZ];omega)
  refine ⟨?_,?_,?_⟩<;>(rw [this,cell_new _ _ _ _ _ rfl];rfl)
 generalize hw1:w.alloc (.cells #[.int .i64 c,.int .i64 o,.int .u16 (g:Int)] 67)=w1 at*
 have s1:w.heap.size<w1.heap.size:=by rw [←hw1];simp only [RZ];omega
 generalize hA:(List.range (perS c).toNat).map (fun (i:Nat)=>(l*64+(offS c (i:Int)).toNat*8,sealN (blkX g 0 176)))=A
 have hAl:A.length=(perS c).toNat:=by rw [←hA];simp
 generalize hB:(List.range 7).map (fun k=>(l*64+(k+1)*8,0))=B
 have hBl:B.length=7:=by rw [←hB];simp
 have hAB:planW l c g=A++B:=by unfold planW;rw [hA,hB]
 have hper:perS c=(((perS c).toNat:Nat):Int):=by omega
 generalize hn:(perS c).toNat=n at*
 rw [hper]
 apply f61_l1_rule (I:=fun x z w'=>∃i:Nat,z= .int .i64 (i:Int)∧i≤n∧SlO w' 80 2 x i (wrL (A.take i))∧Frm Nob w1 w'∧NewV w1.heap.size x) (μ:=fun _ z _=>n-(intOf z).toNat)
 ·exact ⟨0,rfl,by omega,SlO.nil _ _ _,Frm.of_ext (by repeat (first|(with_reducible first|refine eB ?_ _|assumption|exact eR _|refine eA ?_ _|refine eD ?_|refine eT ?_ (by assumption))|exact eR _)),fun b hb=>by cases hb⟩
 ·intros;rename_i w2 hI E1 hE
  obtain ⟨i,rfl,hi,sp,f2,n2⟩:=hI
  have e2:Ext w1 w2:=f2.to_ext (fun _ _ h=>h)
  have e02:Ext w w2:=e1.trans e2
  obtain ⟨q0,q1,q2⟩:=hcell w2 e2
  obtain ⟨pa,pc,rfl,hpc2⟩:=sp.isS'
  have lt2:w.heap.size<w2.heap.size:=Nat.lt_of_lt_of_le s1 e2.size
  unfold f61_l1_t
  by_cases hin:i<n
  ·have hb2:=offS_bd hc0 hc (show 0≤(i:Int) by omega) (by omega)
   generalize ho2:(offS c (i:Int)).toNat=oi at*
   have hA2:A[i]? =some (l*64+oi*8,sealN (blkX g 0 176)):=by rw [←hA];simp [hin,ho2]
   have hof2:∀(w1:World) (K:K1),Ext w w1→callS prog 100 #[.int .i64 c,.int .i64 (i:Int)] w1 K=K (.tuple #[.int .i64 (oi:Int),.int .i64 0]) w1:=fun w1 K he=>by rw [hof i w1 K he hin,ho2]
   simp (disch:=first|omega|simp only [RO]|(simp only [RZ]<;>omega)|(with_reducible (repeat (first|assumption|exact Ext.refl _|refine Ext.alloc ?_ _|refine Ext.drew ?_|refine Ext.trans ?_ (by assumption))))|fail) only [↓RBp,↓RA,↓reduceIte,Nat.reduceAdd,Nat.reduceMul,Nat.reduceEqDiff,RB,RX,RA2,q0,q1,q2,hof2,c_line,Int.toNat_natCast]
   refine app_new elWrite (w0:=w1) (sp.ext (by repeat (first|(with_reducible first|refine eB ?_ _|assumption|exact eR _|refine eA ?_ _|refine eD ?_|refine eT ?_ (by assumption))|exact eR _))) (f2.ext (by repeat (first|(with_reducible first|refine eB ?_ _|assumption|exact eR _|refine eA ?_ _|refine eD ?_|refine eT ?_ (by assumption))|exact eR _))) n2 (m:=1) (news:=wrL [(l*64+oi*8,sealN (blkX g 0 176))]) (by simp [wrL]) ?_ rfl (by omega) (by omega) (by omega) (fun v' w3 hsp hf3 n3 _ _=> ?_)
   ·intro j u hj
    rw [Nat.zero_add,cell_new _ _ _ _ _ (by simp only [RZ])]
    simpa [wrL,u64] using hj
   simp (disch:=first|omega|simp only [RO]|(simp only [RZ]<;>omega)|fail) only [↓RBp,↓RA,↓reduceIte,Nat.reduceAdd,Nat.reduceMul,Nat.reduceEqDiff,RB,RX,RA2]
   apply hE
   ·refine ⟨i+1,by simp,by omega,?_,hf3,n3⟩
    rw [take_snoc' hA2,wrL_append];exact hsp
   ·simp [intOf];omega
  ·have:i=n:=by omega
   subst this
   have hAt:A.take i=A:=by rw [←hAl,List.take_length]
   rw [hAt] at sp
   simp (disch:=first|omega|simp only [RO]|(simp only [RZ]<;>omega)|fail) only [↓RBp,↓RA,↓reduceIte,Nat.reduceAdd,Nat.reduceMul,Nat.reduceEqDiff,RB,RX,RA2,f61_k1_eq,f61_k1_t]
   apply f61_l2_rule (I:=fun x z w'=>∃k:Nat,z= .int .u64 ((k+1:Nat):Int)∧k≤7∧SlO w' 80 2 x (i+k) (wrL (A++B.take k))∧Frm Nob w1 w'∧NewV w1.heap.size x) (μ:=fun _ z _=>8-(intOf z).toNat)
   ·exact ⟨0,rfl,by omega,by simpa using sp,f2,n2⟩
   ·intros;rename_i w3 hI3 E3 hE3
    obtain ⟨k,rfl,hk,sp3,f3,n3⟩:=hI3
    have e3:Ext w1 w3:=f3.to_ext (fun _ _ h=>h)
    have e03:Ext w w3:=e1.trans e3
    obtain ⟨q0,q1,q2⟩:=hcell w3 e3
    obtain ⟨pa3,pc3,rfl,hpc3⟩:=sp3.isS'
    have lt3:w.heap.size<w3.heap.size:=Nat.lt_of_lt_of_le s1 e3.size
    unfold f61_l2_t
    by_cases hk7:k<7
    ·have hB2:B[k]? =some (l*64+(k+1)*8,0):=by rw [←hB];simp [hk7]
     simp (disch:=first|omega|simp only [RO]|(simp only [RZ]<;>omega)|(with_reducible (repeat (first|assumption|exact Ext.refl _|refine Ext.alloc ?_ _|refine Ext.drew ?_|refine Ext.trans ?_ (by assumption))))|fail) only [↓RBp,↓RA,↓reduceIte,Nat.reduceAdd,Nat.reduceMul,Nat.reduceEqDiff,RB,RX,RA2,c_line,Int.toNat_natCast]
     refine app_new elWrite (w0:=w1) (sp3.ext (by repeat (first|(with_reducible first|refine eB ?_ _|assumption|exact eR _|refine eA ?_ _|refine eD ?_|refine eT ?_ (by assumption))|exact eR _))) (f3.ext (by repeat (first|(with_reducible first|refine eB ?_ _|assumption|exact eR _|refine eA ?_ _|refine eD ?_|refine eT ?_ (by assumption))|exact eR _))) n3 (m:=1) (news:=wrL [(l*64+(k+1)*8,0)]) (by simp [wrL]) ?_ rfl (by omega) (by omega) (by omega) (fun v' w4 hsp hf4 n4 _ _=> ?_)
     ·intro j u hj
      rw [Nat.zero_add,cell_new _ _ _ _ _ (by simp only [RZ])]
      simpa [wrL,u64] using hj
     simp (disch:=first|omega|simp only [RO]|(simp only [RZ]<;>omega)|fail) only [↓RBp,↓RA,↓reduceIte,Nat.reduceAdd,Nat.reduceMul,Nat.reduceEqDiff,RB,RX,RA2]
     apply hE3
     ·refine ⟨k+1,by simp,by omega,?_,hf4,n4⟩
      rw [take_snoc' hB2,←List.append_assoc,wrL_append];exact hsp
     ·simp [intOf];omega
    ·have:k=7:=by omega
     subst this
     have hBt:B.take 7=B:=by rw [←hBl,List.take_length]
     rw [hBt,←hAB] at sp3
     have hpl:i+7=(planW l c g).length:=by rw [hAB];simp [hAl,hBl]
     rw [hpl] at sp3
     (repeat' (first|(with_reducible first|refine brS_mk (fun _=> ?_) (fun _=> ?_)|refine And.intro ?_ ?_)|(simp (disch:=first|omega|simp only [RO]|(simp only [RZ]<;>omega)|(with_reducible (repeat (first|assumption|exact Ext.refl _|refine Ext.alloc ?_ _|refine Ext.drew ?_|refine Ext.trans ?_ (by assumption))))|fail) only [↓RBp,↓RA,↓reduceIte,Nat.reduceAdd,Nat.reduceMul,Nat.reduceEqDiff,RB,RX,RA2,q0,q1,q2,hw,c_line,Int.toNat_natCast,f61_k2_eq,f61_k2_t])))
     refine k_Stores [(l*64,sealN (hdX c o g))] _ ?_ (by simp) (by simp) ?_ _ (fun v4 w4 s4 e4 n4=> ?_)
     ·exact (SlO.lit' _ 80 2 1 (wrL [(l*64,sealN (hdX c o g))]) rfl (by decide) (by simp only [RZ])).ext (Ext.refl _).drew
     ·intro x hx;simp only [List.mem_singleton] at hx;subst hx;simp only;omega
     have e34:Ext w3 w4:=Ext.trans (by repeat (first|(with_reducible first|refine eB ?_ _|assumption|exact eR _|refine eA ?_ _|refine eD ?_|refine eT ?_ (by assumption))|exact eR _)) e4
     try simp (disch:=first|omega|simp only [RO]|(simp only [RZ]<;>omega)|fail) only [↓RBp,↓RA,↓reduceIte,Nat.reduceAdd,Nat.reduceMul,Nat.reduceEqDiff,RB,RX,RA2]
     rw [hpl]
     refine k_Stores (planW l c g) _ (sp3.ext e34) (by omega) (by omega) ?_ _ (fun v5 w5 s5 e5 n5=> ?_)
     ·rw [hAB]
      intro x hx
      rcases List.mem_append.1 hx with hx|hx
      ·rw [←hA] at hx
       obtain ⟨j,hj,rfl⟩:=List.mem_map.1 hx
       have hb2:=offS_bd hc0 hc (show 0≤(j:Int) by omega) (by rw [List.mem_range] at hj;omega)
       simp only;omega
      ·rw [←hB] at hx
       obtain ⟨j,hj,rfl⟩:=List.mem_map.1 hx
       rw [List.mem_range] at hj
       simp only;omega
     try simp (disch:=first|omega|simp only [RO]|(simp only [RZ]<;>omega)|fail) only [↓RBp,↓RA,↓reduceIte,Nat.reduceAdd,Nat.reduceMul,Nat.reduceEqDiff,RB,RX,RA2]
     have l1:=storesI_le (planW l c g)
     have l2:=storesI_le [(l*64,sealN (hdX c o g))]
     simp only [List.length_singleton] at l2
     refine k_Then _ _ v5 v4 s5 (s4.ext e5) (storesI_pos _) (storesI_pos _) (by omega) (by omega) _ (fun v6 w6 s6 e6 n6=> ?_)
     have e06:Ext w w6:=((e03.trans e34).trans e5).trans e6
     refine hK v6 w6 s6 e06 (fun b hb=>Nat.le_trans ?_ (n6 b hb))
     exact ((e03.trans e34).trans e5).size
end
section
variable {w w':World} {Y:Lay} {D D':DS}
theorem allOne_map_u64 (l:List Nat):allOne (l.map u64)=true:=by
 induction l with
 |nil=>rfl
 |cons a l ih=>simp [allOne,isOne,ih]
theorem k_Clone64 (l:List Nat) (b o cap:Nat) (hx:∀j u,(l.map u64)[j]? =some u→w.cell? ⟨b,o+j,none⟩=some u) (hb:b<w.heap.size) (h0:0<l.length) (hl:l.length<1099511627776) (K:K1)
  (hK:∀b' c' w',Ext w w'→Cells w' b' 30 l.length (fun i=>u64 (l.getD i 0))→w.heap.size≤b'→l.length≤c'→K (.slice (some ⟨b',0,none⟩) l.length c') w'):callS prog 92 #[.slice (some ⟨b,o,none⟩) l.length cap] w K:=by
 refine f92_call _ _ _ ?_
 unfold f92_t
 simp (disch:=first|omega|simp only [RO]|(simp only [RZ]<;>omega)|fail) only [↓RBp,↓RA,↓reduceIte,Nat.reduceAdd,Nat.reduceMul,Nat.reduceEqDiff,RB,RX,RA2]
 refine blt_append el_39_39 (SlO.lit0 w 30 1) (news:=l.map u64) (by simp) ?_ (allOne_map_u64 l) h0 (by omega) (by omega) (fun v' w' hv hf hn ho=> ?_)
 ·intro j u hj
  rw [cell_old _ _ _ _ hb];exact hx j u hj
 ·have he:Ext w w':=Frm.to_ext (F:=fun b=>b=w.heap.size) (((Frm.of_ext (Ext.alloc_self w _)).trans hf (fun x _ e=>by injection e with e;exact e.symm))) (fun b hb=>by omega)
  have hv2:=hv.2
  rw [Nat.zero_add] at hv2
  rcases hv2 with ⟨_,e⟩|⟨b',o',c',a,rfl,hh,h1,h2,h3,h4⟩
  ·omega
  ·have ho':o'=0:=by rcases ho with h|h<;>simpa [sOff] using h
   subst ho'
   refine hK b' c' w' he ⟨a,hh,by omega,?_⟩ ?_ h1
   ·intro i hi
    have h6:=h4 i (u64 (l.getD i 0)) (by simp [List.getElem?_map,List.getElem?_eq_getElem hi,List.getD_eq_getElem?_getD])
    simpa using h6
   ·rcases hn b' rfl with h|h
    ·have h':w.heap.size=b':=by simpa [Value.ownBlock] using h
     omega
    ·rw [size_alloc] at h;omega
def DS.init (n:Nat) (l:List Nat):DS:={n:=n,cur:=fun i=>l.getD i 0,pers:=fun i=>l.getD i 0,done:=fun _=>0,hist:=fun _=> [],off:=false,armed:=false,left:=0,exe:=0,err:=fun _=>0,notes:=fun _ _=>none}
theorem Good.init (n:Nat) (l:List Nat) (h0:0<n) (hn:n≤4096) (hl:∀x∈l,x<18446744073709551616):Good (DS.init n l):=by
 have hg:∀i,l.getD i 0<18446744073709551616:=by
  intro i
  rw [List.getD_eq_getElem?_getD]
  cases h:l[i]? with
  |none=>simp
  |some x=>exact hl x (List.mem_of_getElem? h)
 exact ⟨h0,hn,fun i _=>hg i,fun i _=>hg i,fun l _ o v h=>by simp [DS.init] at h,fun l _=>Nat.le_refl _,⟨Int.le_refl _,by show (0:Int)<_;omega⟩,fun id _ k p h=>by simp [DS.init] at h⟩
def tagO:Option Obj→Nat
 |some (.cells _ t _)=>t
 |some (.map _ _)=>1000000
 |_=>2000000
def devC (b cb cc lb n:Nat):Array Value:= #[.slice (some ⟨b,0,none⟩) (8*n) (8*n),.slice (some ⟨cb,0,none⟩) (8*n) cc,.slice (some ⟨lb,0,none⟩) n n,.pointer none,.pointer none,.pointer none,.pointer none,.pointer none,.pointer none,.pointer none,.pointer none,.bool false,.bool false,.int .i64 0,.int .u64 ((0:Nat):Int)]
structure Prt (w0 w:World) (d b cb cc lb n:Nat) (tb nb:Nat→Nat) (i:Nat):Prop where
 dev:Cells w d 127 15 (fun j=>if 3≤j∧j<3+i then .pointer (some ⟨tb (j-3),0,none⟩) else (devC b cb cc lb n).getD j undef)
 th:∀j,j<i→Cells w (tb j) 99 4 (fun q=>if q=0 then .pointer (some ⟨d,0,none⟩) else if q=1 then .int .i64 (j:Int) else if q=2 then .int .i64 0 else .map (some (nb j)))
 nt:∀j,j<i→w.heap[nb j]? =some (.map #[] 0)
 lo:∀j,j<i→d<tb j∧d<nb j
 inj:∀j q,j<i→q<i→(tb j=tb q∨nb j=nb q)→j=q
 ext:Frm (fun x=>x=d) w0 w
theorem k_of1 (l:List Nat) (n b cb cc lb d:Nat) (w w1:World) (hd:d=w1.heap.size) (h0:0<n) (hn:n≤4096) (hl:l.length=8*n) (hb:Cells w b 30 (8*n) (fun i=>u64 (l.getD i 0))) (he:Ext w w1) (hcb:Cells w1 cb 30 (8*n) (fun i=>u64 (l.getD i 0))) (h1:w.heap.size≤cb) (hlb:Cells w1 lb 160 (2*n) (fun i=>(#[Value.int .u64 ((0:Nat):Int),.slice none 0 0])[i%2]!)) (h2:w.heap.size≤lb) (K:K1)
  (hK:∀w' Y,Ext w w'→Dv w' Y (DS.init n l)→(∀x,Y.F x→x=b∨w.heap.size≤x)→Y.dt=Y.tb→K (.pointer (some ⟨Y.d,0,none⟩)) w'):f81_k1 K (.pointer (some ⟨d,0,none⟩)) (w1.alloc (.cells (devC b cb cc lb n) 127)):=by
 rw [f81_k1_eq]
 unfold f81_k1_t
 apply f81_l1_rule (I:=fun x w'=>∃(i:Nat) (tb nb:Nat→Nat),x= .int .i64 (i:Int)∧i≤8∧Prt (w1.alloc (.cells (devC b cb cc lb n) 127)) w' d b cb cc lb n tb nb i) (μ:=fun x _=>8-(intOf x).toNat)
 ·refine ⟨0,fun _=>0,fun _=>0,rfl,by omega,⟨?_,fun j hj=>by omega,fun j hj=>by omega,fun j hj=>by omega,fun j q hj=>by omega,Frm.refl _ _⟩⟩
  subst hd
  refine (Cells.new w1 (devC b cb cc lb n).toList 127).congr (fun j hj=> ?_)
  rw [if_neg (by omega)];simp [List.getD_eq_getElem?_getD]
 ·intros;rename_i w2 hI E1 hE
  obtain ⟨i,tb,nb,rfl,hi,hp⟩:=hI
  unfold f81_l1_t
  by_cases hi8:i<8
  ·have c1:=hp.dev.cell (i:=3+i) (by omega)
   have z1:=hp.dev.frz
   have lt:=hp.dev.lt
   simp (disch:=first|omega|simp only [RO]|(simp only [RZ]<;>omega)|fail) only [↓RBp,↓RA,↓reduceIte,Nat.reduceAdd,Nat.reduceMul,Nat.reduceEqDiff,RB,RX,RA2,c1,z1]
   have tl:∀j,j<i→tb j<w2.heap.size:=fun j hj=>(hp.th j hj).lt
   have nl:∀j,j<i→nb j<w2.heap.size:=fun j hj=>lt_of_heap (hp.nt j hj)
   apply hE
   ·refine ⟨i+1,fun j=>if j=i then w2.heap.size+1 else tb j,fun j=>if j=i then w2.heap.size else nb j,by simp,by omega,⟨?_,?_,?_,?_,?_,?_⟩⟩
    ·refine (((hp.dev.set _ (i:=3+i) (by omega)).alloc _).alloc _).congr (fun j hj=> ?_)
     by_cases e:j=3+i
     ·subst e
      rw [if_pos rfl,if_pos (by omega),if_pos (by omega)]
     ·rw [if_neg e]
      by_cases e2:3≤j∧j<3+i
      ·rw [if_pos e2,if_pos (by omega),if_neg (by omega)]
      ·rw [if_neg e2,if_neg (by omega)]
    ·intro j hj
     by_cases e:j=i
     ·subst e
      simp only [if_true]
      have hnew:=Cells.new ((w2.setCell ⟨d,3+j,none⟩ (.pointer (some ⟨w2.heap.size+1,0,none⟩))).alloc (.map #[] 0)) [.pointer (some ⟨d,0,none⟩),.int .i64 (j:Int),.int .i64 0,.map (some w2.heap.size)] 99
      rw [size_alloc,size_set] at hnew
      refine hnew.congr (fun q hq=> ?_)
      have hq':q=0∨q=1∨q=2∨q=3:=by simp at hq;omega
      rcases hq' with rfl|rfl|rfl|rfl<;>simp
     ·have hj':j<i:=by omega
      simp only [e,if_false]
      exact (((hp.th j hj').set_ne _ (by show tb j≠d;have:=(hp.lo j hj').1;omega)).alloc _).alloc _
    ·intro j hj
     by_cases e:j=i
     ·subst e
      simp only [if_true]
      rw [heap_alloc_lt _ (by rw [size_alloc,size_set];omega)]
      have:=heap_alloc_eq (w2.setCell ⟨d,3+j,none⟩ (.pointer (some ⟨w2.heap.size+1,0,none⟩))) (.map #[] 0)
      rw [size_set] at this;exact this
     ·have hj':j<i:=by omega
      simp only [e,if_false]
      rw [heap_alloc_lt _ (by rw [size_alloc,size_set];have:=nl j hj';omega),heap_alloc_lt _ (by rw [size_set];exact nl j hj'),heap_set_ne _ (by show nb j≠d;have:=(hp.lo j hj').2;omega)]
      exact hp.nt j hj'
    ·intro j hj
     by_cases e:j=i
     ·simp only [e,if_true];omega
     ·simp only [e,if_false];exact hp.lo j (by omega)
    ·intro j q hj hq hh
     by_cases e:j=i
     ·by_cases e2:q=i
      ·omega
      ·have a1:=tl q (by omega)
       have a2:=nl q (by omega)
       simp only [e,e2,if_true,if_false] at hh;omega
     ·by_cases e2:q=i
      ·have a1:=tl j (by omega)
       have a2:=nl j (by omega)
       simp only [e,e2,if_true,if_false] at hh;omega
      ·simp only [e,e2,if_false] at hh;exact hp.inj j q (by omega) (by omega) hh
    ·exact ((hp.ext.set _ (fun _=>rfl)).alloc _).alloc _
   ·simp [intOf];omega
  ·have:i=8:=by omega
   subst this
   simp (disch:=first|omega|simp only [RO]|(simp only [RZ]<;>omega)|fail) only [↓RBp,↓RA,↓reduceIte,Nat.reduceAdd,Nat.reduceMul,Nat.reduceEqDiff,RB,RX,RA2,f81_k2_eq,f81_k2_t]
   have ha:=Frm.of_ext (F:=fun x=>x=d) (Ext.alloc_self w1 (.cells (devC b cb cc lb n) 127))
   have hf:=ha.trans hp.ext (fun _ _ h=>h)
   have hE2:Ext w w2:=Frm.to_ext (F:=fun x=>x=d) ((Frm.of_ext he).trans hf (fun _ _ h=>h)) (fun x hx=>by have:=he.size;omega)
   have c1:=hb.ext hE2
   have c2:=hcb.frm hf (by have:=hcb.lt;omega)
   have c3:=hlb.frm hf (by have:=hlb.lt;omega)
   have lb1:=hb.lt
   have wle:=he.size
   refine hK w2 {n:=n,d:=d,pb:=b,cb:=cb,pc:=8*n,cc:=cc,lb:=lb,tb:=tb,nb:=nb,dt:=tb,ids:=fun i=>i,hv:=fun _=> .slice none 0 0} hE2 ⟨rfl,?_,c1,c2,?_,?_,?_,?_,?_⟩ ?_ rfl
   ·refine hp.dev.congr (fun j hj=> ?_)
    by_cases e:3≤j∧j<11
    ·rw [if_pos (by omega)];unfold devF;rw [if_neg (by omega),if_neg (by omega),if_neg (by omega),if_pos (by omega)]
    ·rw [if_neg (by omega)]
     have hj':j=0∨j=1∨j=2∨j=11∨j=12∨j=13∨j=14:=by omega
     rcases hj' with rfl|rfl|rfl|rfl|rfl|rfl|rfl<;>rfl
   ·refine c3.congr (fun j hj=> ?_)
    have hj':j%2=0∨j%2=1:=by omega
    rcases hj' with e|e<;>simp [linF,DS.init,e]
   ·intro q hq;exact SlO.nil _ _ _
   ·intro j hj
    refine (hp.th j hj).congr (fun q hq=> ?_)
    simp only [thF,DS.init]
   ·intro j hj
    refine ⟨#[],0,?_⟩
    have:ntF (DS.init n l) j=fun _=>none:=by funext q;rfl
    rw [this];exact MapI.empty (hp.nt j hj)
   ·obtain ⟨a1,o1,_⟩:=hp.dev
    obtain ⟨a2,o2,_⟩:=c1
    obtain ⟨a3,o3,_⟩:=c2
    obtain ⟨a4,o4,_⟩:=c3
    have nbc:b≠cb:=by omega
    intro r r' x hr hr'
    have key:∀r,Lay.blk {n:=n,d:=d,pb:=b,cb:=cb,pc:=8*n,cc:=cc,lb:=lb,tb:=tb,nb:=nb,dt:=tb,ids:=fun i=>i,hv:=fun _=> .slice none 0 0} r=some x→
      (r= .dev∧tagO w2.heap[x]? =127)∨(r= .pe∧tagO w2.heap[x]? =30∧x=b)∨(r= .cu∧tagO w2.heap[x]? =30∧x=cb)∨(r= .li∧tagO w2.heap[x]? =160)∨(∃j,j<8∧r= .th j∧tagO w2.heap[x]? =99∧x=tb j)∨(∃j,j<8∧r= .nt j∧tagO w2.heap[x]? =1000000∧x=nb j):=by
     intro r hr
     cases r with
     |dev=>simp [Lay.blk] at hr;subst hr;exact .inl ⟨rfl,by rw [o1];rfl⟩
     |pe=>simp [Lay.blk] at hr;subst hr;exact .inr (.inl ⟨rfl,by rw [o2];rfl,rfl⟩)
     |cu=>simp [Lay.blk] at hr;subst hr;exact .inr (.inr (.inl ⟨rfl,by rw [o3];rfl,rfl⟩))
     |li=>simp [Lay.blk] at hr;subst hr;exact .inr (.inr (.inr (.inl ⟨rfl,by rw [o4];rfl⟩)))
     |th j=>
      simp [Lay.blk] at hr
      obtain ⟨a,o,_⟩:=hp.th j hr.1
      exact .inr (.inr (.inr (.inr (.inl ⟨j,hr.1,rfl,by rw [←hr.2,o];rfl,hr.2.symm⟩))))
     |nt j=>simp [Lay.blk] at hr;exact .inr (.inr (.inr (.inr (.inr ⟨j,hr.1,rfl,by rw [←hr.2,hp.nt j hr.1];rfl,hr.2.symm⟩))))
     |hs q=>simp [Lay.blk,Value.ownBlock] at hr
    rcases key r hr with ⟨rfl,e1⟩|⟨rfl,e1,f1⟩|⟨rfl,e1,f1⟩|⟨rfl,e1⟩|⟨j,hj,rfl,e1,f1⟩|⟨j,hj,rfl,e1,f1⟩<;>
    rcases key r' hr' with ⟨rfl,e2⟩|⟨rfl,e2,f2⟩|⟨rfl,e2,f2⟩|⟨rfl,e2⟩|⟨q,hq,rfl,e2,f2⟩|⟨q,hq,rfl,e2,f2⟩<;>
    first
     |rfl
     |(exfalso;clear hr hr' key hK hl;omega)
     |(rw [hp.inj j q hj hq (.inl (f1.symm.trans f2))])
     |(rw [hp.inj j q hj hq (.inr (f1.symm.trans f2))])
   ·rintro x ⟨r,hr⟩
    cases r with
    |dev=>simp [Lay.blk] at hr;omega
    |pe=>simp [Lay.blk] at hr;omega
    |cu=>simp [Lay.blk] at hr;omega
    |li=>simp [Lay.blk] at hr;omega
    |th j=>simp [Lay.blk] at hr;have:=(hp.lo j hr.1).1;omega
    |nt j=>simp [Lay.blk] at hr;have:=(hp.lo j hr.1).2;omega
    |hs q=>simp [Lay.blk,Value.ownBlock] at hr
theorem k_of (l:List Nat) (n b:Nat) (h0:0<n) (hn:n≤4096) (hl:l.length=8*n) (hc:Cells w b 30 (8*n) (fun i=>u64 (l.getD i 0))) (K:K1)
  (hK:∀w' Y,Ext w w'→Dv w' Y (DS.init n l)→(∀x,Y.F x→x=b∨w.heap.size≤x)→Y.dt=Y.tb→K (.pointer (some ⟨Y.d,0,none⟩)) w'):callS prog 81 #[.slice (some ⟨b,0,none⟩) (8*n) (8*n)] w K:=by
 have hx:∀(w:World) (hc:Cells w b 30 (8*n) (fun i=>u64 (l.getD i 0))) j u,(l.map u64)[j]? =some u→w.cell? ⟨b,0+j,none⟩=some u:=by
  intro w hc j u hj
  rw [Nat.zero_add]
  have hj':=(List.getElem?_eq_some_iff.1 hj).1
  rw [List.length_map] at hj'
  rw [hc.cell (by omega),←hj]
  simp [List.getElem?_map,List.getElem?_eq_getElem hj',List.getD_eq_getElem?_getD]
 refine f81_call _ _ _ ?_
 unfold f81_t
 have hd:=hc.drew
 have e8:((8*n:Nat):Int)/8=(n:Int):=by omega
 (repeat' (first|(with_reducible first|refine brS_mk (fun _=> ?_) (fun _=> ?_)|refine And.intro ?_ ?_)|(simp (disch:=first|omega|simp only [RO]|(simp only [RZ]<;>omega)|fail) only [↓RBp,↓RA,↓reduceIte,Nat.reduceAdd,Nat.reduceMul,Nat.reduceEqDiff,RB,RX,RA2,e8])))
 ·rw [←hl]
  refine k_Clone64 l b 0 _ (hx _ hd) hd.lt (by omega) (by omega) _ (fun b' c' w1 he hcb hb' hc'=> ?_)
  rw [hl] at hcb ⊢
  have hlt:=hcb.lt
  (repeat' (first|(with_reducible first|refine brS_mk (fun _=> ?_) (fun _=> ?_)|refine And.intro ?_ ?_)|(simp (disch:=first|omega|simp only [RO]|(simp only [RZ]<;>omega)|fail) only [↓RBp,↓RA,↓reduceIte,Nat.reduceAdd,Nat.reduceMul,Nat.reduceEqDiff,RB,RX,RA2,e8])))
  refine k_of1 l n b b' c' w1.heap.size _ w (w1.alloc (.cells (zrow (.agg #[.int .u64 ((0:Nat):Int),.slice none 0 0]) (n*2)) 160)) (by rw [size_alloc]) h0 hn hl hc (((Ext.refl w).drew.trans he).alloc _) (hcb.alloc _) hb' ?_ (by have:=he.size;exact this) K hK
  rw [Nat.mul_comm 2 n];exact zrow_cells w1 _ (n*2) _
 ·have hd2:=(hc.alloc (.cells (zrow (.agg #[.int .u64 ((0:Nat):Int),.slice none 0 0]) (n*2)) 160)).drew
  rw [←hl]
  refine k_Clone64 l b 0 _ (hx _ hd2) hd2.lt (by omega) (by omega) _ (fun b' c' w1 he hcb hb' hc'=> ?_)
  rw [hl] at hcb ⊢
  have hlt:=hcb.lt
  have hlc:=(zrow_cells w (.agg #[.int .u64 ((0:Nat):Int),.slice none 0 0]) (n*2) 160).drew.ext he
  (repeat' (first|(with_reducible first|refine brS_mk (fun _=> ?_) (fun _=> ?_)|refine And.intro ?_ ?_)|(simp (disch:=first|omega|simp only [RO]|(simp only [RZ]<;>omega)|fail) only [↓RBp,↓RA,↓reduceIte,Nat.reduceAdd,Nat.reduceMul,Nat.reduceEqDiff,RB,RX,RA2,e8])))
  refine k_of1 l n b b' c' w.heap.size _ w w1 rfl h0 hn hl hc ((Ext.alloc_self w _).drew.trans he) hcb (by have h9:=hb';rw [size_drew,size_alloc] at h9;omega) ?_ (Nat.le_refl _) K hK
  rw [Nat.mul_comm 2 n];exact hlc
end
section
variable {w w':World} {Y:Lay} {D D':DS}
def DS.zero (n:Nat):DS:=DS.init n (List.replicate (8*n) 0)
theorem Good.zero (n:Nat) (h0:0<n) (hn:n≤4096):Good (DS.zero n):=Good.init n _ h0 hn (fun x hx=>by rw [List.eq_of_mem_replicate hx];decide)
theorem zero_cur (n i:Nat):(DS.zero n).cur i=0:=by
 show (List.replicate (8*n) 0).getD i 0=0
 rw [List.getD_eq_getElem?_getD,List.getElem?_replicate]
 split<;>rfl
theorem k_New (n:Nat) (h0:0<n) (hn:n≤4096) (K:K1) (hK:∀w' Y,Ext w w'→Dv w' Y (DS.zero n)→(∀x,Y.F x→w.heap.size≤x)→Y.dt=Y.tb→K (.tuple #[.pointer (some ⟨Y.d,0,none⟩),.int .i64 0]) w'):callS prog 38 #[.int .i64 (n:Int)] w K:=by
 refine f38_call _ _ _ ?_
 unfold f38_t
 have e1:((n:Int)*8)=((8*n:Nat):Int):=by omega
 (repeat' (first|(with_reducible first|refine brS_mk (fun _=> ?_) (fun _=> ?_)|refine And.intro ?_ ?_)|(simp (disch:=first|omega|simp only [RO]|(simp only [RZ]<;>omega)|fail) only [↓RBp,↓RA,↓reduceIte,Nat.reduceAdd,Nat.reduceMul,Nat.reduceEqDiff,RB,RX,RA2,e1])))
 have hc:=zrow_cells w (.int .u64 ((0:Nat):Int)) (8*n) 30
 have e2:(fun i=>(Value.int .u64 ((0:Nat):Int)).cells[i%(Value.int .u64 ((0:Nat):Int)).cells.size]!)=fun i=>u64 ((List.replicate (8*n) 0).getD i 0):=by
  funext i
  have:=zero_cur n i
  show _=u64 ((DS.zero n).cur i)
  rw [this];simp [Value.cells,Nat.mod_one]
 rw [e2] at hc
 refine k_of (List.replicate (8*n) 0) n w.heap.size h0 hn (by simp) hc _ (fun w' Y he hd hF hdt=> ?_)
 refine hK w' Y ((Ext.alloc_self w _).trans he) hd (fun x hx=> ?_) hdt
 rcases hF x hx with h|h
 ·omega
 ·rw [size_alloc] at h;omega
def DS.arm (D:DS) (n:Int):DS:=if D.off=true then D else {D with armed:=decide (0≤n),left:=if n<0 then 0 else n}
theorem devF_arm (Y:Lay) (D:DS) (b:Bool) (j:Nat):devF Y {D with armed:=b} j=if j=12 then .bool b else devF Y D j:=by
 unfold devF
 by_cases h:j=12
 ·subst h;simp
 ·simp [h]
theorem Dv.setArm (h:Dv w Y D) (b:Bool):Stp w Y (w.setCell ⟨Y.d,12,none⟩ (.bool b)) Y {D with armed:=b}:=h.setDev 12 _ (by omega) (fun j hj=>devF_arm Y D b j) ⟨rfl,rfl,rfl,rfl,rfl,rfl,rfl⟩
theorem k_Arm (h:Dv w Y D) (n:Int) (K:K1) (hK:∀w',Stp w Y w' Y (D.arm n)→K (.tuple #[]) w'):callS prog 34 #[.pointer (some ⟨Y.d,0,none⟩),.int .i64 n] w K:=by
 refine f34_call _ _ _ _ ?_
 unfold f34_t
 unfold DS.arm at hK
 (repeat' (first|(with_reducible first|refine brS_mk (fun _=> ?_) (fun _=> ?_)|refine And.intro ?_ ?_)|(simp (disch:=first|omega|simp only [RO]|(simp only [RZ]<;>omega)|fail) only [↓RBp,↓RA,↓reduceIte,Nat.reduceAdd,Nat.reduceMul,Nat.reduceEqDiff,RB,RX,RA2,h.R])))
 ·rename_i e
  rw [if_pos e] at hK
  exact hK _ (Stp.refl h)
 ·rename_i e
  rw [if_neg e] at hK
  have h2:=h.setArm (decide (0≤n))
  simp (disch:=first|omega|simp only [RO]|(simp only [RZ]<;>omega)|fail) only [↓RBp,↓RA,↓reduceIte,Nat.reduceAdd,Nat.reduceMul,Nat.reduceEqDiff,RB,RX,RA2,h2.dv.R]
  exact hK _ (h2.trans (h2.dv.setLeft _))
end
abbrev chV (Y:Lay) (l:Nat) (c o:Int) (g:Nat):Value:= .agg #[.iface 25 (.pointer (some ⟨Y.tb 0,0,none⟩)),.int .i64 (l:Int),.int .i64 c,.int .i64 o,.int .u16 (g:Int)]
abbrev chO (Y:Lay) (l:Nat) (c o:Int) (g:Nat):Obj:= .cells #[.iface 25 (.pointer (some ⟨Y.tb 0,0,none⟩)),.int .i64 (l:Int),.int .i64 c,.int .i64 o,.int .u16 (g:Int)] 69
structure Cx (w:World) (Y:Lay) (D:DS) (l:Nat) (c:Int):Prop where
 dv:Dv w Y D
 gd:Good D
 gl:Glob w
 on:D.off=false
 hl:l+32≤D.n
 c0:0≤c
 c5:c<5
section
variable {w w':World} {Y:Lay} {D:DS} {l:Nat} {c o:Int} {g:Nat}
theorem Cx.ext (h:Cx w Y D l c) (e:Ext w w'):Cx w' Y D l c:=⟨h.dv.ext e,h.gd,h.gl.ext e,h.on,h.hl,h.c0,h.c5⟩
theorem Cx.n (h:Cx w Y D l c):D.n≤4096:=h.gd.n
@[irreducible] def wd (D:DS) (l i:Nat):Nat:=D.cur (l*8+i)
def bitB (x i:Nat):Bool:=decide (x/2^i%2=1)
def bG (x:Nat):Nat:=if isS x then gX x else 0
def bK (x:Nat):Nat:=if isS x then kX x else 0
def bS (x:Nat):Nat:=if isS x then sX x else 0
@[irreducible] def offN (c:Int) (i:Nat):Nat:=(offS c (i:Int)).toNat
theorem offN_bd {c:Int} {i:Nat} (h0:0≤c) (h5:c<5) (hi:(i:Int)<perS c):offS c (i:Int)=(offN c i:Int)∧8≤offN c i∧offN c i<256:=by
 have:=offS_bd h0 h5 (show 0≤(i:Int) by omega) hi
 have hw:=wordsS_in h0 h5
 unfold offN
 omega
theorem Cx.wd_lt (h:Cx w Y D l c) (i:Nat) (hi:i<256):wd D l i<18446744073709551616:=by unfold wd;exact h.gd.cur _ (by have:=h.hl;omega)
theorem Cx.load (h:Cx w Y D l c) (i:Nat) (hi:i<256) (K:K1):callS prog 46 #[.pointer (some ⟨Y.tb 0,0,none⟩),.int .u64 ((l*64+i*8:Nat):Int)] w K=K (.int .u64 (wd D l i:Int)) w:=by
 have hl:=h.hl
 have:=c_Load h.dv h.gd 0 (by omega) h.on (l*64+i*8) (by omega) (by omega) K
 rw [this,show (l*64+i*8)/8=l*8+i by omega];unfold wd;rfl
theorem Cx.loadE (h:Cx w Y D l c):∀(w1:World) (i:Nat) (K:K1),Ext w w1→i<256→callS prog 46 #[.pointer (some ⟨Y.tb 0,0,none⟩),.int .u64 ((l*64+i*8:Nat):Int)] w1 K=K (.int .u64 (wd D l i:Int)) w1:=fun w1 i K he hi=>(h.ext he).load i hi K
theorem c_Class (K:K1):callS prog 25 #[chV Y l c o g] w K=K (.int .i64 c) (w.alloc (chO Y l c o g)):=by
 refine callS_det (by kernel_rfl) (f25_call _ _ _ ?_) K
 unfold f25_t
 simp (disch:=first|omega|simp only [RO]|(simp only [RZ]<;>omega)|fail) only [↓RBp,↓RA,↓reduceIte,Nat.reduceAdd,Nat.reduceMul,Nat.reduceEqDiff,RB,RX,RA2]
structure Cg (w:World) (c:Int):Prop where
 gl:Glob w
 c0:0≤c
 c5:c<5
theorem Cg.ext (h:Cg w c) (e:Ext w w'):Cg w' c:=⟨h.gl.ext e,h.c0,h.c5⟩
theorem Cx.cg (h:Cx w Y D l c):Cg w c:=⟨h.gl,h.c0,h.c5⟩
theorem c_blocks (hG:Glob w) (Y:Lay) (l:Nat) (c o:Int) (g:Nat):∀(w1:World) (K:K1),Ext w w1→callS prog 63 #[chV Y l c o g] w1 K=K (.int .i64 (perS c)) ((w1.alloc (chO Y l c o g)).alloc (chO Y l c o g)):=by
 intro w1 K he
 refine callS_det (by kernel_rfl) (f63_call _ _ _ ?_) K
 unfold f63_t
 have hG:=hG.ext he
 simp (disch:=first|omega|simp only [RO]|(simp only [RZ]<;>omega)|fail) only [↓RBp,↓RA,↓reduceIte,Nat.reduceAdd,Nat.reduceMul,Nat.reduceEqDiff,RB,RX,RA2,c_Class,fun a b c K=>c_PerChunk c ((w1.alloc a).alloc b) K ((hG.alloc a).alloc b)]
theorem Cx.blocks (h:Cx w Y D l c) (o:Int) (g:Nat):∀(w1:World) (K:K1),Ext w w1→callS prog 63 #[chV Y l c o g] w1 K=K (.int .i64 (perS c)) ((w1.alloc (chO Y l c o g)).alloc (chO Y l c o g)):=c_blocks h.gl Y l c o g
theorem k_hasG (hG:Glob w) (Y:Lay) (l:Nat) (c o:Int) (g:Nat) (i:Int) (K:K1) (hK:∀w',Ext w w'→K (.bool (decide (0≤i)&&decide (i<perS c))) w'):callS prog 64 #[chV Y l c o g,.int .i64 i] w K:=by
 refine f64_call _ _ _ _ ?_
 unfold f64_t
 have hb:=c_blocks hG Y l c o g
 by_cases h0:0≤i
 ·have e:(decide (0≤i)&&decide (i<perS c))=decide (i<perS c):=by simp [h0]
  rw [e] at hK
  simp (disch:=first|omega|simp only [RO]|(simp only [RZ]<;>omega)|(with_reducible (repeat (first|assumption|exact Ext.refl _|refine Ext.alloc ?_ _|refine Ext.drew ?_|refine Ext.trans ?_ (by assumption))))|fail) only [↓RBp,↓RA,↓reduceIte,Nat.reduceAdd,Nat.reduceMul,Nat.reduceEqDiff,RB,RX,RA2,hb]
  exact hK _ (by repeat (first|(with_reducible first|refine eB ?_ _|assumption|exact eR _|refine eA ?_ _|refine eD ?_|refine eT ?_ (by assumption))|exact eR _))
 ·have e:(decide (0≤i)&&decide (i<perS c))=false:=by simp [h0]
  rw [e] at hK
  simp (disch:=first|omega|simp only [RO]|(simp only [RZ]<;>omega)|(with_reducible (repeat (first|assumption|exact Ext.refl _|refine Ext.alloc ?_ _|refine Ext.drew ?_|refine Ext.trans ?_ (by assumption))))|fail) only [↓RBp,↓RA,↓reduceIte,Nat.reduceAdd,Nat.reduceMul,Nat.reduceEqDiff,RB,RX,RA2,hb]
  exact hK _ (by repeat (first|(with_reducible first|refine eB ?_ _|assumption|exact eR _|refine eA ?_ _|refine eD ?_|refine eT ?_ (by assumption))|exact eR _))
theorem k_has (h:Cx w Y D l c) (o:Int) (g:Nat) (i:Int) (K:K1) (hK:∀w',Ext w w'→K (.bool (decide (0≤i)&&decide (i<perS c))) w'):callS prog 64 #[chV Y l c o g,.int .i64 i] w K:=k_hasG h.gl Y l c o g i K hK
theorem Cx.at_ (h:Cx w Y D l c) (o:Int) (g:Nat):∀(w1:World) (i:Nat) (K:K1),Ext w w1→(i:Int)<perS c→callS prog 68 #[chV Y l c o g,.int .i64 (i:Int)] w1 K=K (.int .u64 ((l*64+offN c i*8:Nat):Int)) (w1.alloc (chO Y l c o g)):=by
 intro w1 i K he hi
 refine callS_det (by kernel_rfl) (f68_call _ _ _ _ ?_) K
 unfold f68_t
 have hG:=h.gl.ext he
 have hb:=offN_bd h.c0 h.c5 hi
 have hl:=h.hl;have hn:=h.n
 have hof:∀(a:Obj) (K:K1),callS prog 100 #[.int .i64 c,.int .i64 (i:Int)] (w1.alloc a) K=K (.tuple #[.int .i64 (offN c i:Int),.int .i64 0]) (w1.alloc a):=fun a K=>by
  rw [c_Offset c i (w1.alloc a) K (hG.alloc a) h.c0 h.c5 (by omega) hi,hb.1]
 generalize offN c i=q at*
 simp (disch:=first|omega|simp only [RO]|(simp only [RZ]<;>omega)|fail) only [↓RBp,↓RA,↓reduceIte,Nat.reduceAdd,Nat.reduceMul,Nat.reduceEqDiff,RB,RX,RA2,hof,c_line,Int.toNat_natCast]
theorem Cx.bits (h:Cx w Y D l c) (o:Int) (g:Nat):∀(w1:World) (K:K1),Ext w w1→callS prog 106 #[chV Y l c o g] w1 K=K (.int .u64 (wd D l 1:Int)) ((w1.alloc (chO Y l c o g)).drew):=by
 intro w1 K he
 refine callS_det (by kernel_rfl) (f106_call _ _ _ ?_) K
 unfold f106_t
 have h1:=(h.ext he)
 have hl:=h.hl;have hn:=h.n
 have ld:∀(w2:World) (K:K1),Ext w1 w2→callS prog 46 #[.pointer (some ⟨Y.tb 0,0,none⟩),.int .u64 ((l*64+8:Nat):Int)] w2 K=K (.int .u64 (wd D l 1:Int)) w2:=fun w2 K he=>h1.loadE w2 1 K he (by omega)
 (repeat' (first|(with_reducible first|refine brS_mk (fun _=> ?_) (fun _=> ?_)|refine And.intro ?_ ?_)|(simp (disch:=first|omega|simp only [RO]|(simp only [RZ]<;>omega)|(with_reducible (repeat (first|assumption|exact Ext.refl _|refine Ext.alloc ?_ _|refine Ext.drew ?_|refine Ext.trans ?_ (by assumption))))|fail) only [↓RBp,↓RA,↓reduceIte,Nat.reduceAdd,Nat.reduceMul,Nat.reduceEqDiff,RB,RX,RA2,c_line,Int.toNat_natCast,ld])))
theorem k_sealed' (x:Nat) (w:World) (K:K1) (hG:Glob w) (hx:x<18446744073709551616) (h:∀w',Ext w w'→K (.tuple #[.agg #[.int .u16 (bG x:Int),.int .u8 (bK x:Int),.int .u8 (bS x:Int)],.bool (isS x)]) w'):callS prog 107 #[.int .u64 x] w K:=by
 refine k_sealed x w K hG hx (fun w' he=> ?_)
 have:=h w' he
 unfold bG bK bS at this
 cases hs:isS x with
 |true=>simp only [hs,if_true] at this ⊢;exact this
 |false=>simp only [hs,if_false] at this ⊢;exact this
theorem cells3 {b t:Nat} {f:Nat→Value} (h:Cells w b t 3 f) (v0 v1 v2:Value):(((w.setCell ⟨b,0,none⟩ v0).setCell ⟨b,1,none⟩ v1).setCell ⟨b,2,none⟩ v2).cell? ⟨b,0,none⟩=some v0∧(((w.setCell ⟨b,0,none⟩ v0).setCell ⟨b,1,none⟩ v1).setCell ⟨b,2,none⟩ v2).cell? ⟨b,1,none⟩=some v1∧(((w.setCell ⟨b,0,none⟩ v0).setCell ⟨b,1,none⟩ v1).setCell ⟨b,2,none⟩ v2).cell? ⟨b,2,none⟩=some v2∧Cells (((w.setCell ⟨b,0,none⟩ v0).setCell ⟨b,1,none⟩ v1).setCell ⟨b,2,none⟩ v2) b t 3 (fun i=>if i=0 then v0 else if i=1 then v1 else v2):=by
 have h3:=((h.set v0 (i:=0) (by omega)).set v1 (i:=1) (by omega)).set v2 (i:=2) (by omega)
 exact ⟨h3.cell (i:=0) (by omega),h3.cell (i:=1) (by omega),h3.cell (i:=2) (by omega),h3.congr (fun i hi=>by
  have:i=0∨i=1∨i=2:=by omega
  rcases this with rfl|rfl|rfl<;>simp)⟩
theorem k_read (h:Cx w Y D l c) (o:Int) (g:Nat) (i:Nat) (hi:(i:Int)<perS c) (K:K1) (hK:∀w',Ext w w'→K (.tuple #[.agg #[.int .u16 (bG (wd D l (offN c i)):Int),.int .u8 (bK (wd D l (offN c i)):Int),.int .u8 (bS (wd D l (offN c i)):Int)],.bool (isS (wd D l (offN c i))),.bool (bitB (wd D l 1) i)]) w'):
  callS prog 65 #[chV Y l c o g,.int .i64 (i:Int)] w K:=by
 refine f65_call _ _ _ _ ?_
 unfold f65_t
 have hb:=h.bits o g
 have ha:=h.at_ o g
 have hl:=h.loadE
 have bd:=offN_bd h.c0 h.c5 hi
 have hp:=perS_in h.c0 h.c5
 have hw:=h.wd_lt (offN c i) bd.2.2
 have hw1:=h.wd_lt 1 (by omega)
 generalize hx:wd D l (offN c i)=x at*
 generalize hy:wd D l 1=y at*
 have an:∀z:Nat,z&&&1=z%2:=fun z=>Nat.and_one_is_mod z
 have hdv:y/2^i<18446744073709551616:=Nat.lt_of_le_of_lt (Nat.div_le_self _ _) hw1
 (repeat' (first|(with_reducible first|refine brS_mk (fun _=> ?_) (fun _=> ?_)|refine And.intro ?_ ?_)|(simp (disch:=first|omega|simp only [RO]|(simp only [RZ]<;>omega)|(with_reducible (repeat (first|assumption|exact Ext.refl _|refine Ext.alloc ?_ _|refine Ext.drew ?_|refine Ext.trans ?_ (by assumption))))|fail) only [↓RBp,↓RA,↓reduceIte,Nat.reduceAdd,Nat.reduceMul,Nat.reduceEqDiff,RB,RX,RA2,hb,ha,hl,hx])))
 refine k_sealed' x _ _ (h.gl.ext (by repeat (first|(with_reducible first|refine eB ?_ _|assumption|exact eR _|refine eA ?_ _|refine eD ?_|refine eT ?_ (by assumption))|exact eR _))) hw (fun w1 he1=> ?_)
 have hC:Cells w1 (w.heap.size+1) 137 3 (fun i=> [Value.int .u16 ((0:Nat):Int),.int .u8 ((0:Nat):Int),.int .u8 ((0:Nat):Int)].getD i undef):=by
  have:=(Cells.new (w.alloc (chO Y l c o g)) [Value.int .u16 ((0:Nat):Int),.int .u8 ((0:Nat):Int),.int .u8 ((0:Nat):Int)] 137)
  rw [size_alloc] at this
  exact this.ext (Ext.trans (by repeat (first|(with_reducible first|refine eB ?_ _|assumption|exact eR _|refine eA ?_ _|refine eD ?_|refine eT ?_ (by assumption))|exact eR _)) he1)
 have e1:Ext w w1:=Ext.trans (by repeat (first|(with_reducible first|refine eB ?_ _|assumption|exact eR _|refine eA ?_ _|refine eD ?_|refine eT ?_ (by assumption))|exact eR _)) he1
 have c0:=hC.cell (i:=0) (by omega)
 have c1:=hC.cell (i:=1) (by omega)
 have c2:=hC.cell (i:=2) (by omega)
 obtain ⟨d0,d1,d2,hD⟩:=cells3 hC (.int .u16 (bG x:Int)) (.int .u8 (bK x:Int)) (.int .u8 (bS x:Int))
 obtain ⟨f0,f1,f2,hF⟩:=cells3 hD (.int .u16 (bG x:Int)) (.int .u8 (bK x:Int)) (.int .u8 (bS x:Int))
 have hbit:decide (y/2^i&&&1=1)=bitB y i:=by unfold bitB;simp only [an]
 simp (disch:=first|omega|simp only [RO]|(simp only [RZ]<;>omega)|fail) only [↓RBp,↓RA,↓reduceIte,Nat.reduceAdd,Nat.reduceMul,Nat.reduceEqDiff,RB,RX,RA2,c0,c1,c2,hC.frz,d0,d1,d2,hD.frz,f0,f1,f2,hbit]
 exact hK _ (by repeat (first|(with_reducible first|refine eB ?_ _|assumption|exact eR _|refine eA ?_ _|refine eD ?_|refine eT ?_ (by assumption))|exact eR _))
end
section
variable {w w':World} {Y:Lay} {D:DS} {l:Nat} {c o:Int} {g:Nat}
theorem chCells {w1:World} (he:Ext (w.alloc (chO Y l c o g)) w1):w1.cell? ⟨w.heap.size,0,none⟩=some (.iface 25 (.pointer (some ⟨Y.tb 0,0,none⟩)))∧w1.cell? ⟨w.heap.size,1,none⟩=some (.int .i64 (l:Int))∧w1.cell? ⟨w.heap.size,2,none⟩=some (.int .i64 c)∧w1.cell? ⟨w.heap.size,3,none⟩=some (.int .i64 o)∧w1.cell? ⟨w.heap.size,4,none⟩=some (.int .u16 (g:Int)):=by
 have:∀i,w1.cell? ⟨w.heap.size,i,none⟩=_:=fun i=>he.cell _ i (by simp only [RZ];omega)
 refine ⟨?_,?_,?_,?_,?_⟩<;>(rw [this,cell_new _ _ _ _ _ rfl];rfl)
@[irreducible] def mkB (D:DS) (l:Nat) (c i:Int) (s:Nat):Bool:=decide (0≤i∧i<perS c)&&(isS (wd D l (offN c i.toNat))&&(bitB (wd D l 1) i.toNat&&decide (bS (wd D l (offN c i.toNat))=s)))
theorem k_marked (h:Cx w Y D l c) (o:Int) (g:Nat) (i:Int) (s:Nat) (K:K1) (hK:∀w',Ext w w'→K (.bool (mkB D l c i s)) w'):
  callS prog 76 #[chV Y l c o g,.int .i64 i,.int .u8 (s:Int)] w K:=by
 refine f76_call _ _ _ _ _ ?_
 unfold mkB at hK
 unfold f76_t
 simp (disch:=first|omega|simp only [RO]|(simp only [RZ]<;>omega)|fail) only [↓RBp,↓RA,↓reduceIte,Nat.reduceAdd,Nat.reduceMul,Nat.reduceEqDiff,RB,RX,RA2]
 refine k_has (h.ext (by repeat (first|(with_reducible first|refine eB ?_ _|assumption|exact eR _|refine eA ?_ _|refine eD ?_|refine eT ?_ (by assumption))|exact eR _))) o g i _ (fun w1 he1=> ?_)
 have e1:Ext w w1:=Ext.trans (by repeat (first|(with_reducible first|refine eB ?_ _|assumption|exact eR _|refine eA ?_ _|refine eD ?_|refine eT ?_ (by assumption))|exact eR _)) he1
 obtain ⟨c0,c1,c2,c3,c4⟩:=chCells he1
 by_cases hi:0≤i∧i<perS c
 ·obtain ⟨n,rfl⟩:∃n:Nat,i=(n:Int):=⟨i.toNat,by omega⟩
  have e:(decide (0≤(n:Int))&&decide ((n:Int)<perS c))=true:=by simp [hi]
  rw [decide_eq_true hi,Bool.true_and] at hK
  rw [e]
  simp only [Int.toNat_natCast] at hK
  simp (disch:=first|omega|simp only [RO]|(simp only [RZ]<;>omega)|fail) only [↓RBp,↓RA,↓reduceIte,Nat.reduceAdd,Nat.reduceMul,Nat.reduceEqDiff,RB,RX,RA2,c0,c1,c2,c3,c4]
  refine k_read (h.ext e1) o g n hi.2 _ (fun w2 he2=> ?_)
  have e2:Ext w w2:=e1.trans he2
  by_cases hs:isS (wd D l (offN c n))=true
  ·rw [hs,Bool.true_and] at hK
   by_cases hbt:bitB (wd D l 1) n=true
   ·rw [hbt,Bool.true_and] at hK
    simp (disch:=first|omega|simp only [RO]|(simp only [RZ]<;>omega)|fail) only [↓RBp,↓RA,↓reduceIte,Nat.reduceAdd,Nat.reduceMul,Nat.reduceEqDiff,RB,RX,RA2,hs,hbt]
    exact hK _ (by repeat (first|(with_reducible first|refine eB ?_ _|assumption|exact eR _|refine eA ?_ _|refine eD ?_|refine eT ?_ (by assumption))|exact eR _))
   ·have hbt:bitB (wd D l 1) n=false:=by simpa using hbt
    rw [hbt,Bool.false_and] at hK
    simp (disch:=first|omega|simp only [RO]|(simp only [RZ]<;>omega)|fail) only [↓RBp,↓RA,↓reduceIte,Nat.reduceAdd,Nat.reduceMul,Nat.reduceEqDiff,RB,RX,RA2,hs,hbt]
    exact hK _ (by repeat (first|(with_reducible first|refine eB ?_ _|assumption|exact eR _|refine eA ?_ _|refine eD ?_|refine eT ?_ (by assumption))|exact eR _))
  ·have hs:isS (wd D l (offN c n))=false:=by simpa using hs
   rw [hs,Bool.false_and] at hK
   simp (disch:=first|omega|simp only [RO]|(simp only [RZ]<;>omega)|fail) only [↓RBp,↓RA,↓reduceIte,Nat.reduceAdd,Nat.reduceMul,Nat.reduceEqDiff,RB,RX,RA2,hs]
   exact hK _ (by repeat (first|(with_reducible first|refine eB ?_ _|assumption|exact eR _|refine eA ?_ _|refine eD ?_|refine eT ?_ (by assumption))|exact eR _))
 ·have e:(decide (0≤i)&&decide (i<perS c))=false:=by simp;omega
  rw [decide_eq_false hi,Bool.false_and] at hK
  rw [e]
  simp (disch:=first|omega|simp only [RO]|(simp only [RZ]<;>omega)|fail) only [↓RBp,↓RA,↓reduceIte,Nat.reduceAdd,Nat.reduceMul,Nat.reduceEqDiff,RB,RX,RA2]
  exact hK _ (by repeat (first|(with_reducible first|refine eB ?_ _|assumption|exact eR _|refine eA ?_ _|refine eD ?_|refine eT ?_ (by assumption))|exact eR _))
theorem k_Taken (h:Cx w Y D l c) (o:Int) (g:Nat) (i:Int) (K:K1) (hK:∀w',Ext w w'→K (.bool (mkB D l c i 177)) w'):callS prog 33 #[chV Y l c o g,.int .i64 i] w K:=by
 refine f33_call _ _ _ _ ?_
 unfold f33_t
 simp (disch:=first|omega|simp only [RO]|(simp only [RZ]<;>omega)|fail) only [↓RBp,↓RA,↓reduceIte,Nat.reduceAdd,Nat.reduceMul,Nat.reduceEqDiff,RB,RX,RA2]
 refine k_marked (h.ext (by repeat (first|(with_reducible first|refine eB ?_ _|assumption|exact eR _|refine eA ?_ _|refine eD ?_|refine eT ?_ (by assumption))|exact eR _))) o g i 177 _ (fun w1 he1=> ?_)
 exact hK _ (Ext.trans (by repeat (first|(with_reducible first|refine eB ?_ _|assumption|exact eR _|refine eA ?_ _|refine eD ?_|refine eT ?_ (by assumption))|exact eR _)) he1)
@[irreducible] def okF (D:DS) (l:Nat) (c:Int) (i:Nat):Bool:=isS (wd D l (offN c i))&&(!bitB (wd D l 1) i&&(decide (bS (wd D l (offN c i))=176)&& !decide (bG (wd D l (offN c i))=0)))
def mxG (D:DS) (l:Nat) (c:Int):Nat→Nat
 |0=>0
 |n+1=>if mxG D l c n<bG (wd D l (offN c n)) then bG (wd D l (offN c n)) else mxG D l c n
def alF (D:DS) (l:Nat) (c:Int):Nat→Bool
 |0=>true
 |n+1=>alF D l c n&&okF D l c n
theorem alF_no {D:DS} {l:Nat} {c:Int}:∀{n i:Nat},i<n→okF D l c i=false→alF D l c n=false:=by
 intro n
 induction n with
 |zero=>intro i h;omega
 |succ n ih=>
  intro i h he
  simp only [alF]
  by_cases e:i=n
  ·subst e;simp [he]
  ·rw [ih (i:=i) (by omega) he];rfl
theorem k_Next (h:Cx w Y D l c) (o:Int) (g:Nat) (K:K1) (hK:∀w',Ext w w'→K (.tuple #[.int .u16 ((if alF D l c (perS c).toNat=true then mxG D l c (perS c).toNat else 0:Nat):Int),.bool (alF D l c (perS c).toNat)]) w'):callS prog 110 #[chV Y l c o g] w K:=by
 have hp:=perS_in h.c0 h.c5
 obtain ⟨n,hn⟩:∃n:Nat,perS c=(n:Int):=⟨(perS c).toNat,by omega⟩
 rw [hn,Int.toNat_natCast] at hK
 have hb:=h.blocks o g
 rw [hn] at hb
 refine f110_call _ _ _ ?_
 unfold f110_t
 simp (disch:=first|omega|simp only [RO]|(simp only [RZ]<;>omega)|(with_reducible (repeat (first|assumption|exact Ext.refl _|refine Ext.alloc ?_ _|refine Ext.drew ?_|refine Ext.trans ?_ (by assumption))))|fail) only [↓RBp,↓RA,↓reduceIte,Nat.reduceAdd,Nat.reduceMul,Nat.reduceEqDiff,RB,RX,RA2,hb]
 apply f110_l1_rule (I:=fun x z w'=>∃i:Nat,z= .int .i64 (i:Int)∧i≤n∧x= .int .u16 ((mxG D l c i:Nat):Int)∧alF D l c i=true∧Ext (w.alloc (chO Y l c o g)) w') (μ:=fun _ z _=>n-(intOf z).toNat)
 ·exact ⟨0,rfl,by omega,rfl,rfl,(by repeat (first|(with_reducible first|refine eB ?_ _|assumption|exact eR _|refine eA ?_ _|refine eD ?_|refine eT ?_ (by assumption))|exact eR _))⟩
 ·intros;rename_i w1 hI E1 hE
  obtain ⟨i,rfl,hi,rfl,hal,he1⟩:=hI
  obtain ⟨c0,c1,c2,c3,c4⟩:=chCells he1
  have e1:Ext w w1:=Ext.trans (by repeat (first|(with_reducible first|refine eB ?_ _|assumption|exact eR _|refine eA ?_ _|refine eD ?_|refine eT ?_ (by assumption))|exact eR _)) he1
  unfold f110_l1_t
  by_cases hin:i<n
  ·simp (disch:=first|omega|simp only [RO]|(simp only [RZ]<;>omega)|fail) only [↓RBp,↓RA,↓reduceIte,Nat.reduceAdd,Nat.reduceMul,Nat.reduceEqDiff,RB,RX,RA2,c0,c1,c2,c3,c4]
   refine k_read (h.ext e1) o g i (by omega) _ (fun w2 he2=> ?_)
   have e2:=he1.trans he2
   have e02:=e1.trans he2
   have bad:okF D l c i=false→∀w',Ext w w'→K (.tuple #[.int .u16 ((0:Nat):Int),.bool false]) w':=by
    intro hf w' he
    have:=hK w' he
    rw [alF_no hin hf] at this
    exact this
   by_cases b1:isS (wd D l (offN c i))=true
   ·by_cases b2:bitB (wd D l 1) i=true
    ·simp (disch:=first|omega|simp only [RO]|(simp only [RZ]<;>omega)|fail) only [↓RBp,↓RA,↓reduceIte,Nat.reduceAdd,Nat.reduceMul,Nat.reduceEqDiff,RB,RX,RA2,b1,b2]
     exact bad (by simp [okF,b2]) _ (by repeat (first|(with_reducible first|refine eB ?_ _|assumption|exact eR _|refine eA ?_ _|refine eD ?_|refine eT ?_ (by assumption))|exact eR _))
    ·have b2:bitB (wd D l 1) i=false:=by simpa using b2
     by_cases b3:bS (wd D l (offN c i))=176
     ·by_cases b4:bG (wd D l (offN c i))=0
      ·simp (disch:=first|omega|simp only [RO]|(simp only [RZ]<;>omega)|fail) only [↓RBp,↓RA,↓reduceIte,Nat.reduceAdd,Nat.reduceMul,Nat.reduceEqDiff,RB,RX,RA2,b1,b2,b3,b4]
       exact bad (by simp [okF,b4]) _ (by repeat (first|(with_reducible first|refine eB ?_ _|assumption|exact eR _|refine eA ?_ _|refine eD ?_|refine eT ?_ (by assumption))|exact eR _))
      ·simp (disch:=first|omega|simp only [RO]|(simp only [RZ]<;>omega)|fail) only [↓RBp,↓RA,↓reduceIte,Nat.reduceAdd,Nat.reduceMul,Nat.reduceEqDiff,RB,RX,RA2,b1,b2,b3]
       apply hE
       ·refine ⟨i+1,by simp,by omega,?_,?_,(by repeat (first|(with_reducible first|refine eB ?_ _|assumption|exact eR _|refine eA ?_ _|refine eD ?_|refine eT ?_ (by assumption))|exact eR _))⟩
        ·simp only [mxG]
         split<;>split<;>first|rfl|omega
        ·simp [alF,hal,okF,b1,b2,b3,b4]
       ·simp [intOf];omega
     ·simp (disch:=first|omega|simp only [RO]|(simp only [RZ]<;>omega)|fail) only [↓RBp,↓RA,↓reduceIte,Nat.reduceAdd,Nat.reduceMul,Nat.reduceEqDiff,RB,RX,RA2,b1,b2,b3]
      exact bad (by simp [okF,b3]) _ (by repeat (first|(with_reducible first|refine eB ?_ _|assumption|exact eR _|refine eA ?_ _|refine eD ?_|refine eT ?_ (by assumption))|exact eR _))
   ·have b1:isS (wd D l (offN c i))=false:=by simpa using b1
    simp (disch:=first|omega|simp only [RO]|(simp only [RZ]<;>omega)|fail) only [↓RBp,↓RA,↓reduceIte,Nat.reduceAdd,Nat.reduceMul,Nat.reduceEqDiff,RB,RX,RA2,b1]
    exact bad (by simp [okF,b1]) _ (by repeat (first|(with_reducible first|refine eB ?_ _|assumption|exact eR _|refine eA ?_ _|refine eD ?_|refine eT ?_ (by assumption))|exact eR _))
  ·have:i=n:=by omega
   subst this
   rw [hal,if_pos rfl] at hK
   simp (disch:=first|omega|simp only [RO]|(simp only [RZ]<;>omega)|fail) only [↓RBp,↓RA,↓reduceIte,Nat.reduceAdd,Nat.reduceMul,Nat.reduceEqDiff,RB,RX,RA2,f110_k1_eq,f110_k1_t]
   exact hK _ e1
end
def RdS (m:Nat) (w:World) (v:Value) (L:List Value):Prop:=∃a cap,v= .slice a L.length cap∧(L= []∨∃b o,a=some ⟨b,o,none⟩∧b<m∧∀j u,L[j]? =some u→w.cell? ⟨b,o+j,none⟩=some u)
section
variable {w w':World} {m:Nat} {v:Value} {L:List Value}
theorem RdS.ext (h:RdS m w v L) (e:Ext w w'):RdS m w' v L:=by
 obtain ⟨a,cap,hv,h⟩:=h
 refine ⟨a,cap,hv,?_⟩
 rcases h with h|⟨b,o,ha,hb,hc⟩
 ·exact .inl h
 ·exact .inr ⟨b,o,ha,hb,fun j u hj=>e.cell_some (hc j u hj)⟩
theorem RdS.frm {F:Nat→Prop} (h:RdS m w v L) (e:Frm F w w') (hF:∀b,b<m→¬F b):RdS m w' v L:=by
 obtain ⟨a,cap,hv,h⟩:=h
 refine ⟨a,cap,hv,?_⟩
 rcases h with h|⟨b,o,ha,hb,hc⟩
 ·exact .inl h
 ·refine .inr ⟨b,o,ha,hb,fun j u hj=> ?_⟩
  have h1:=hc j u hj
  rw [e.cell b _ (lt_of_cell h1) (hF b hb)];exact h1
theorem RdS.get (h:RdS m w v L) {j:Nat} {u:Value} (hj:L[j]? =some u):∃b o cap,v= .slice (some ⟨b,o,none⟩) L.length cap∧w.cell? ⟨b,o+j,none⟩=some u:=by
 obtain ⟨a,cap,hv,h⟩:=h
 rcases h with h|⟨b,o,ha,hb,hc⟩
 ·rw [h] at hj;simp at hj
 ·subst ha;exact ⟨b,o,cap,hv,hc j u hj⟩
theorem RdS.nil (w:World) (m:Nat):RdS m w (.slice none 0 0) []:=⟨none,0,rfl,.inl rfl⟩
end
abbrev i64L (l:List Int):List Value:=l.map fun i=>Value.int .i64 i
abbrev u8L (l:List Nat):List Value:=l.map fun (n:Nat)=>Value.int .u8 (n:Int)
theorem i64L_get {l:List Int} {j:Nat} (h:j<l.length):(i64L l)[j]? =some (.int .i64 l[j]):=by simp [h]
theorem u8L_get {l:List Nat} {j:Nat} (h:j<l.length):(u8L l)[j]? =some (.int .u8 ((l[j]:Nat):Int)):=by simp [h]
def onc (per:Int):List Int→Nat→Option Nat
 | [],m=>some m
 |i::l,m=>if (0≤i∧i<per)∧bitB m i.toNat=false then onc per l (m|||2^i.toNat) else none
theorem onc_drop {per:Int} {l:List Int} {j m:Nat} (h:j<l.length):onc per (l.drop j) m=if (0≤l[j]∧l[j]<per)∧bitB m l[j].toNat=false then onc per (l.drop (j+1)) (m|||2^l[j].toNat) else none:=by
 rw [List.drop_eq_getElem_cons h];rfl
theorem pow_lt64 {i:Nat} (h:i<64):2^i<18446744073709551616:=by
 have:2^i<2^64:=Nat.pow_lt_pow_right (by decide) h
 simpa using this
theorem or_lt64 {a b:Nat} (ha:a<18446744073709551616) (hb:b<18446744073709551616):a|||b<18446744073709551616:=Nat.or_lt_two_pow (n:=64) ha hb
section
variable {w w':World} {Y:Lay} {D:DS} {l:Nat} {c o:Int} {g:Nat}
theorem k_onceG (h:Cg w c) (Y:Lay) (l:Nat) (o:Int) (g:Nat) (L M:List Int) (v u:Value) {m:Nat} (hL:RdS m w v (i64L L)) (hM:RdS m w u (i64L M)) (lL:L.length<1099511627776) (lM:M.length<1099511627776) (b cap:Nat) (hb0:w.cell? ⟨b,0,none⟩=some v) (hb1:w.cell? ⟨b,1,none⟩=some u) (K:K1)
  (hK:∀w',Ext w w'→K (.bool ((onc (perS c) L 0).bind (onc (perS c) M)).isSome) w'):callS prog 69 #[chV Y l c o g,.slice (some ⟨b,0,none⟩) 2 cap] w K:=by
 have hp:=perS_in h.c0 h.c5
 refine f69_call _ _ _ _ ?_
 unfold f69_t
 simp (disch:=first|omega|simp only [RO]|(simp only [RZ]<;>omega)|fail) only [↓RBp,↓RA,↓reduceIte,Nat.reduceAdd,Nat.reduceMul,Nat.reduceEqDiff,RB,RX,RA2]
 have inner:∀(E1:Value→Value→World→Prop) (L:List Int) (v:Value) (q m0:Nat) (w1:World),Ext (w.alloc (chO Y l c o g)) w1→RdS m w v (i64L L)→L.length<1099511627776→m0<18446744073709551616→(onc (perS c) L m0=none→∀w',Ext w w'→K (.bool false) w')→(∀m1 w',onc (perS c) L m0=some m1→m1<18446744073709551616→Ext (w.alloc (chO Y l c o g)) w'→E1 (.int .u64 (m1:Int)) (.int .i64 ((q+1:Nat):Int)) w')→q<1000→
   f69_l2 K E1 (.pointer (some ⟨w.heap.size,0,none⟩)) (.int .u64 (m0:Int)) (.slice (some ⟨b,0,none⟩) 2 cap) (.int .i64 2) (.int .i64 (q:Int)) v (.int .i64 (L.length:Int)) (.int .i64 0) w1:=by
  intro E1 L v q m0 w1 he1 hL lL hm0 hbad hgood hq
  apply f69_l2_rule (I:=fun x z w'=>∃j mm:Nat,z= .int .i64 (j:Int)∧x= .int .u64 (mm:Int)∧mm<18446744073709551616∧j≤L.length∧onc (perS c) (L.drop j) mm=onc (perS c) L m0∧Ext (w.alloc (chO Y l c o g)) w') (μ:=fun _ z _=>L.length-(intOf z).toNat)
  ·exact ⟨0,m0,rfl,rfl,hm0,by omega,rfl,he1⟩
  ·intros;rename_i w2 hI E2 hE
   obtain ⟨j,mm,rfl,rfl,hmm,hj,hon,he2⟩:=hI
   obtain ⟨c0,c1,c2,c3,c4⟩:=chCells he2
   have e2:Ext w w2:=Ext.trans (by repeat (first|(with_reducible first|refine eB ?_ _|assumption|exact eR _|refine eA ?_ _|refine eD ?_|refine eT ?_ (by assumption))|exact eR _)) he2
   unfold f69_l2_t
   by_cases hjl:j<L.length
   ·obtain ⟨sb,so,sc,rfl,hc⟩:=(hL.ext e2).get (i64L_get hjl)
    rw [onc_drop hjl] at hon
    generalize L[j]=x at hon hc
    simp (disch:=first|omega|simp only [RO]|(simp only [RZ]<;>omega)|fail) only [↓RBp,↓RA,↓reduceIte,Nat.reduceAdd,Nat.reduceMul,Nat.reduceEqDiff,RB,RX,RA2,hc,c0,c1,c2,c3,c4,List.length_map]
    refine k_hasG (h.gl.ext e2) Y l c o g x _ (fun w3 he3=> ?_)
    have e3:Ext w w3:=e2.trans he3
    have he13:=he2.trans he3
    by_cases hx:0≤x∧x<perS c
    ·have eb:(decide (0≤x)&&decide (x<perS c))=true:=by simp [hx]
     rw [eb]
     obtain ⟨i,rfl⟩:∃i:Nat,x=(i:Int):=⟨x.toNat,by omega⟩
     rw [Int.toNat_natCast] at hon
     have hdv:mm/2^i<18446744073709551616:=Nat.lt_of_le_of_lt (Nat.div_le_self _ _) hmm
     have hpw:=pow_lt64 (show i<64 by omega)
     have hs1:1*2^i%18446744073709551616=2^i:=by rw [Nat.one_mul];exact Nat.mod_eq_of_lt hpw
     have hor:=or_lt64 hmm hpw
     by_cases hbt:bitB mm i=true
     ·rw [if_neg (by simp [hbt])] at hon
      have e1:mm/2^i&&&1=1:=by rw [Nat.and_one_is_mod];simpa [bitB] using hbt
      simp (disch:=first|omega|simp only [RO]|(simp only [RZ]<;>omega)|fail) only [↓RBp,↓RA,↓reduceIte,Nat.reduceAdd,Nat.reduceMul,Nat.reduceEqDiff,RB,RX,RA2,e1]
      exact hbad hon.symm _ e3
     ·rw [if_pos ⟨hx,by simpa using hbt⟩] at hon
      have e1:¬(mm/2^i&&&1=1):=by rw [Nat.and_one_is_mod];simpa [bitB] using hbt
      simp (disch:=first|omega|simp only [RO]|(simp only [RZ]<;>omega)|fail) only [↓RBp,↓RA,↓reduceIte,Nat.reduceAdd,Nat.reduceMul,Nat.reduceEqDiff,RB,RX,RA2,e1,hs1]
      apply hE
      ·exact ⟨j+1,_,by simp,rfl,hor,by omega,hon,he13⟩
      ·simp [intOf];omega
    ·have eb:(decide (0≤x)&&decide (x<perS c))=false:=by simp;omega
     rw [eb]
     rw [if_neg (fun hh=>hx hh.1)] at hon
     simp (disch:=first|omega|simp only [RO]|(simp only [RZ]<;>omega)|fail) only [↓RBp,↓RA,↓reduceIte,Nat.reduceAdd,Nat.reduceMul,Nat.reduceEqDiff,RB,RX,RA2]
     exact hbad hon.symm _ e3
   ·have:j=L.length:=by omega
    subst this
    rw [List.drop_length] at hon
    simp only [onc] at hon
    simp (disch:=first|omega|simp only [RO]|(simp only [RZ]<;>omega)|fail) only [↓RBp,↓RA,↓reduceIte,Nat.reduceAdd,Nat.reduceMul,Nat.reduceEqDiff,RB,RX,RA2,f69_k2_eq,f69_k2_t]
    have:=hgood mm w2 hon.symm hmm he2
    simpa using this
 apply f69_l1_rule (I:=fun x z w'=>∃i mm:Nat,z= .int .i64 (i:Int)∧x= .int .u64 (mm:Int)∧mm<18446744073709551616∧i≤2∧(i=0→mm=0)∧(i=1→onc (perS c) L 0=some mm)∧(i=2→(onc (perS c) L 0).bind (onc (perS c) M)=some mm)∧Ext (w.alloc (chO Y l c o g)) w') (μ:=fun _ z _=>2-(intOf z).toNat)
 ·exact ⟨0,0,rfl,rfl,by omega,by omega,fun _=>rfl,fun h=>by omega,fun h=>by omega,(by repeat (first|(with_reducible first|refine eB ?_ _|assumption|exact eR _|refine eA ?_ _|refine eD ?_|refine eT ?_ (by assumption))|exact eR _))⟩
 ·intros;rename_i w1 hI E1 hE
  obtain ⟨i,mm,rfl,rfl,hmm,hi,i0,i1,i2,he1⟩:=hI
  have e1:Ext w w1:=Ext.trans (by repeat (first|(with_reducible first|refine eB ?_ _|assumption|exact eR _|refine eA ?_ _|refine eD ?_|refine eT ?_ (by assumption))|exact eR _)) he1
  have d0:=e1.cell_some hb0
  have d1:=e1.cell_some hb1
  unfold f69_l1_t
  have hcs:i=0∨i=1∨i=2:=by omega
  rcases hcs with rfl|rfl|rfl
  ·have:=i0 rfl
   subst this
   obtain ⟨a,sc,rfl,_⟩:=id hL
   have hL':RdS m w (.slice a L.length sc) (i64L L):=by rw [show (i64L L).length=L.length by simp] at hL;exact hL
   simp (disch:=first|omega|simp only [RO]|(simp only [RZ]<;>omega)|fail) only [↓RBp,↓RA,↓reduceIte,Nat.reduceAdd,Nat.reduceMul,Nat.reduceEqDiff,RB,RX,RA2,d0,List.length_map]
   refine inner E1 L _ 0 0 w1 he1 hL' lL (by omega) (fun hn w' he=> ?_) (fun m1 w' hs hm1 he=> ?_) (by omega)
   ·have:=hK w' he;rw [hn] at this;exact this
   ·apply hE
    ·exact ⟨1,m1,rfl,rfl,hm1,by omega,fun h=>by omega,fun _=>hs,fun h=>by omega,he⟩
    ·simp [intOf]
  ·have h1:=i1 rfl
   obtain ⟨a,sc,rfl,_⟩:=id hM
   have hM':RdS m w (.slice a M.length sc) (i64L M):=by rw [show (i64L M).length=M.length by simp] at hM;exact hM
   simp (disch:=first|omega|simp only [RO]|(simp only [RZ]<;>omega)|fail) only [↓RBp,↓RA,↓reduceIte,Nat.reduceAdd,Nat.reduceMul,Nat.reduceEqDiff,RB,RX,RA2,d1,List.length_map]
   refine inner E1 M _ 1 mm w1 he1 hM' lM hmm (fun hn w' he=> ?_) (fun m1 w' hs hm1 he=> ?_) (by omega)
   ·have:=hK w' he;rw [h1,Option.bind_some,hn] at this;exact this
   ·apply hE
    ·exact ⟨2,m1,rfl,rfl,hm1,by omega,fun h=>by omega,fun h=>by omega,fun _=>by rw [h1,Option.bind_some];exact hs,he⟩
    ·simp [intOf]
  ·have h2:=i2 rfl
   rw [h2] at hK
   simp (disch:=first|omega|simp only [RO]|(simp only [RZ]<;>omega)|fail) only [↓RBp,↓RA,↓reduceIte,Nat.reduceAdd,Nat.reduceMul,Nat.reduceEqDiff,RB,RX,RA2,f69_k1_eq,f69_k1_t]
   exact hK _ e1
theorem k_once (h:Cx w Y D l c) (o:Int) (g:Nat) (L M:List Int) (v u:Value) {m:Nat} (hL:RdS m w v (i64L L)) (hM:RdS m w u (i64L M)) (lL:L.length<1099511627776) (lM:M.length<1099511627776) (b cap:Nat) (hb0:w.cell? ⟨b,0,none⟩=some v) (hb1:w.cell? ⟨b,1,none⟩=some u) (K:K1)
  (hK:∀w',Ext w w'→K (.bool ((onc (perS c) L 0).bind (onc (perS c) M)).isSome) w'):callS prog 69 #[chV Y l c o g,.slice (some ⟨b,0,none⟩) 2 cap] w K:=k_onceG h.cg Y l o g L M v u hL hM lL lM b cap hb0 hb1 K hK
end
@[irreducible] def tkOk (D:DS) (l:Nat) (c:Int) (i:Nat):Bool:=isS (wd D l (offN c i))&&(!bitB (wd D l 1) i&&(decide (bS (wd D l (offN c i))=176)&&goodB (bG (wd D l (offN c i))) (bK (wd D l (offN c i))) (bS (wd D l (offN c i)))))
@[irreducible] def dpOk (D:DS) (l:Nat) (c:Int) (i:Nat):Bool:=isS (wd D l (offN c i))&&(bitB (wd D l 1) i&&decide (bS (wd D l (offN c i))=177))
def tkW (D:DS) (l:Nat) (c:Int) (i k:Nat):Nat×Nat:=(l*64+offN c i*8,sealN (blkX (bG (wd D l (offN c i))) k 177))
def dpW (D:DS) (l:Nat) (c:Int) (i:Nat):Nat×Nat:=(l*64+offN c i*8,sealN (blkX (freG (bG (wd D l (offN c i)))) 0 (freS (bG (wd D l (offN c i))))))
def dpB (D:DS) (l:Nat) (c:Int) (i b:Nat):Nat:=if freS (bG (wd D l (offN c i)))=176 then b&&&(18446744073709551615^^^2^i) else b
def chT (D:DS) (l:Nat) (c:Int):List Int→List Nat→List (Nat×Nat)→Nat→Option (List (Nat×Nat)×Nat)
 |i::r,k::ks,acc,b=>if tkOk D l c i.toNat=true then chT D l c r ks (acc++ [tkW D l c i.toNat k]) (b|||2^i.toNat) else none
 |_,_,acc,b=>some (acc,b)
def chDr (D:DS) (l:Nat) (c:Int):List Int→List (Nat×Nat)→Nat→Option (List (Nat×Nat)×Nat)
 |i::r,acc,b=>if dpOk D l c i.toNat=true then chDr D l c r (acc++ [dpW D l c i.toNat]) (dpB D l c i.toNat b) else none
 | [],acc,b=>some (acc,b)
def actN (D:DS) (l:Nat) (c:Int) (take:List Int) (kinds:List Nat) (drop:List Int):Option (List (Nat×Nat)):=
 if take.length=0∧drop.length=0 then some [] else
 match chT D l c take kinds [] (wd D l 1) with
 |none=>none
 |some (ws,b)=>match chDr D l c drop ws b with
  |none=>none
  |some (ws,b)=>some (ws++ [(l*64+8,b)])
theorem chT_drop {D:DS} {l:Nat} {c:Int} {L:List Int} {ks:List Nat} {j b:Nat} {acc:List (Nat×Nat)} (h:j<L.length) (h2:ks.length=L.length):chT D l c (L.drop j) (ks.drop j) acc b=if tkOk D l c L[j].toNat=true then chT D l c (L.drop (j+1)) (ks.drop (j+1)) (acc++ [tkW D l c L[j].toNat (ks[j]'(by omega))]) (b|||2^L[j].toNat) else none:=by
 rw [List.drop_eq_getElem_cons h,List.drop_eq_getElem_cons (show j<ks.length by omega)];rfl
theorem chDr_drop {D:DS} {l:Nat} {c:Int} {L:List Int} {j b:Nat} {acc:List (Nat×Nat)} (h:j<L.length):chDr D l c (L.drop j) acc b=if dpOk D l c L[j].toNat=true then chDr D l c (L.drop (j+1)) (acc++ [dpW D l c L[j].toNat]) (dpB D l c L[j].toNat b) else none:=by
 rw [List.drop_eq_getElem_cons h];rfl
theorem bG_lt (x:Nat):bG x<65536:=by unfold bG gX;split<;>omega
theorem bK_lt (x:Nat):bK x<256:=by unfold bK kX;split<;>omega
theorem freG_lt {g:Nat} (h:g<65536):freG g<65536:=by unfold freG;split<;>omega
theorem freS_lt (g:Nat):freS g<256:=by unfold freS;split<;>omega
section
variable {w w':World} {Y:Lay} {D:DS} {l:Nat} {c o:Int} {g:Nat}
theorem k_changes (h:Cx w Y D l c) (o:Int) (g:Nat) (L M:List Int) (ks:List Nat) (v kv u:Value) {m:Nat} (hL:RdS m w v (i64L L)) (hk:RdS m w kv (u8L ks)) (hM:RdS m w u (i64L M)) (lL:L.length<1073741824) (lM:M.length<1073741824) (lk:ks.length=L.length) (hks:∀k∈ks,k<256) (vL:∀i∈L,0≤i∧i<perS c) (vM:∀i∈M,0≤i∧i<perS c) (K:K1)
  (hno:actN D l c L ks M=none→∀w',Ext w w'→K (.tuple #[.slice none 0 0,.bool false]) w')
  (hyes:∀ws,actN D l c L ks M=some ws→∀v' w',Ext w w'→NewV w.heap.size v'→SlO w' 80 2 v' ws.length (wrL ws)→K (.tuple #[v',.bool true]) w'):callS prog 70 #[chV Y l c o g,v,kv,u] w K:=by
 have hp:=perS_in h.c0 h.c5
 have hbt:=h.bits o g
 have hy:=h.wd_lt 1 (by omega)
 have hat:=h.at_ o g
 have hbw:∀(w1:World) (a b d:Nat) (K:K1),Ext w w1→a<65536→b<256→d<256→callS prog 99 #[.agg #[.int .u16 (a:Int),.int .u8 (b:Int),.int .u8 (d:Int)]] w1 K=K (.int .u64 ((sealN (blkX a b d):Nat):Int)) ((w1.alloc (blkO a b d)).alloc (sealO (blkX a b d))):=fun w1 a b d K he ha hb hd=>c_bword a b d w1 K (h.gl.ext he) ha hb hd
 have l1:(i64L L).length=L.length:=by simp
 have l2:(i64L M).length=M.length:=by simp
 have l3:(u8L ks).length=L.length:=by simp [lk]
 obtain ⟨la,lc,rfl,_⟩:=id hL
 obtain ⟨ma,mc,rfl,_⟩:=id hM
 rw [l1] at hL ⊢
 rw [l2] at hM ⊢
 refine f70_call _ _ _ _ _ _ ?_
 unfold f70_t
 have e0:Ext w (w.alloc (chO Y l c o g)):=Ext.alloc_self _ _
 have s0:w.heap.size≤(w.alloc (chO Y l c o g)).heap.size:=by simp only [RZ];omega
 have main:L.length+M.length≠0→∀w1,Ext (w.alloc (chO Y l c o g)) w1→f70_l1 K kv (.slice ma M.length mc) (.pointer (some ⟨w.heap.size,0,none⟩)) (.slice none 0 0) (.int .u64 (wd D l 1:Int)) (.slice la L.length lc) (.int .i64 (L.length:Int)) (.int .i64 0) w1:=by
  intro hne w1 he1
  have hact:actN D l c L ks M=match chT D l c L ks [] (wd D l 1) with
   |none=>none
   |some (ws,b)=>match chDr D l c M ws b with
    |none=>none
    |some (ws,b)=>some (ws++ [(l*64+8,b)]):=by unfold actN;rw [if_neg (by omega)]
  apply f70_l1_rule (I:=fun x y z w'=>∃(j b:Nat) (acc:List (Nat×Nat)),z= .int .i64 (j:Int)∧y= .int .u64 (b:Int)∧b<18446744073709551616∧j≤L.length∧acc.length=j∧SlO w' 80 2 x acc.length (wrL acc)∧Frm Nob (w.alloc (chO Y l c o g)) w'∧NewV (w.alloc (chO Y l c o g)).heap.size x∧chT D l c (L.drop j) (ks.drop j) acc b=chT D l c L ks [] (wd D l 1)) (μ:=fun _ _ z _=>L.length-(intOf z).toNat)
  ·exact ⟨0,wd D l 1,[],rfl,rfl,hy,by omega,rfl,SlO.nil _ _ _,Frm.of_ext he1,(fun b hb=>by cases hb),rfl⟩
  ·intros;rename_i w2 hI E1 hE
   obtain ⟨j,b,acc,rfl,rfl,hb,hj,ha,sp,f2,n2,hch⟩:=hI
   have he2:Ext (w.alloc (chO Y l c o g)) w2:=f2.to_ext (fun _ _ h=>h)
   have e2:Ext w w2:=e0.trans he2
   obtain ⟨c0,c1,c2,c3,c4⟩:=chCells he2
   obtain ⟨pa,pc,rfl,hpc⟩:=sp.isS'
   by_cases hjl:j<L.length
   ·obtain ⟨sb,so,sc,ev1,hc⟩:=(hL.ext e2).get (i64L_get hjl)
    injection ev1 with ev1 _ ev2;subst ev1;subst ev2
    have hv:=vL L[j] (List.getElem_mem hjl)
    have hkm:=hks (ks[j]'(by omega)) (List.getElem_mem _)
    have hku:=(hk.ext e2).get (u8L_get (l:=ks) (j:=j) (by omega))
    rw [chT_drop hjl lk] at hch
    generalize L[j]=x at hch hc hv
    generalize ks[j]'(by omega)=kj at hch hkm hku
    obtain ⟨i,rfl⟩:∃i:Nat,x=(i:Int):=⟨x.toNat,by omega⟩
    rw [Int.toNat_natCast] at hch
    obtain ⟨kb,ko,kc,rfl,hkc⟩:=hku
    rw [l3]
    unfold f70_l1_t
    simp (disch:=first|omega|simp only [RO]|(simp only [RZ]<;>omega)|fail) only [↓RBp,↓RA,↓reduceIte,Nat.reduceAdd,Nat.reduceMul,Nat.reduceEqDiff,RB,RX,RA2,hc,c0,c1,c2,c3,c4]
    refine k_read (h.ext e2) o g i hv.2 _ (fun w3 he3=> ?_)
    have e3:Ext w w3:=e2.trans he3
    have he13:=he2.trans he3
    have dd:=chCells he13
    have d0:=dd.1
    have d1:=dd.2.1
    have d2:=dd.2.2.1
    have d3:=dd.2.2.2.1
    have d4:=dd.2.2.2.2
    have hkc3:=he3.cell_some hkc
    have ltk:=lt_of_cell hkc3
    have lt3:w.heap.size<w3.heap.size:=lt_of_cell d0
    have b1:=bG_lt (wd D l (offN c i))
    have b2:=bK_lt (wd D l (offN c i))
    have bad:tkOk D l c i=false→∀w',Ext w w'→K (.tuple #[.slice none 0 0,.bool false]) w':=by
     intro hf
     rw [if_neg (by simp [hf])] at hch
     exact hno (by rw [hact,←hch])
    by_cases t1:isS (wd D l (offN c i))=true
    ·by_cases t2:bitB (wd D l 1) i=true
     ·simp (disch:=first|omega|simp only [RO]|(simp only [RZ]<;>omega)|fail) only [↓RBp,↓RA,↓reduceIte,Nat.reduceAdd,Nat.reduceMul,Nat.reduceEqDiff,RB,RX,RA2,t1,t2]
      exact bad (by simp [tkOk,t2]) _ (by repeat (first|(with_reducible first|refine eB ?_ _|assumption|exact eR _|refine eA ?_ _|refine eD ?_|refine eT ?_ (by assumption))|exact eR _))
     ·have t2:bitB (wd D l 1) i=false:=by simpa using t2
      by_cases t3:bS (wd D l (offN c i))=176
      ·by_cases t4:goodB (bG (wd D l (offN c i))) (bK (wd D l (offN c i))) 176=true
       ·have hok:tkOk D l c i=true:=by simp [tkOk,t1,t2,t3,t4]
        rw [if_pos hok] at hch
        have hpw:=pow_lt64 (show i<64 by omega)
        have hs1:1*2^i%18446744073709551616=2^i:=by rw [Nat.one_mul];exact Nat.mod_eq_of_lt hpw
        have hor:=or_lt64 hb hpw
        (repeat' (first|(with_reducible first|refine brS_mk (fun _=> ?_) (fun _=> ?_)|refine And.intro ?_ ?_)|(simp (disch:=first|omega|simp only [RO]|(simp only [RZ]<;>omega)|(with_reducible (repeat (first|assumption|exact Ext.refl _|refine Ext.alloc ?_ _|refine Ext.drew ?_|refine Ext.trans ?_ (by assumption))))|fail) only [↓RBp,↓RA,↓reduceIte,Nat.reduceAdd,Nat.reduceMul,Nat.reduceEqDiff,RB,RX,RA2,t1,t2,t3,c_good,t4,hkc3,d0,d1,d2,d3,d4,hat,hbw])))
        refine app_new elWrite (w0:=w.alloc (chO Y l c o g)) ((sp.ext he3).ext (by repeat (first|(with_reducible first|refine eB ?_ _|assumption|exact eR _|refine eA ?_ _|refine eD ?_|refine eT ?_ (by assumption))|exact eR _))) ((f2.ext he3).ext (by repeat (first|(with_reducible first|refine eB ?_ _|assumption|exact eR _|refine eA ?_ _|refine eD ?_|refine eT ?_ (by assumption))|exact eR _))) n2 (m:=1) (news:=wrL [tkW D l c i kj]) (by simp [wrL,tkW]) ?_ rfl (by omega) (by omega) (by omega) (fun v' w4 hsp hf4 n4 _ _=> ?_)
        ·intro q u hq
         rw [Nat.zero_add,cell_drew,cell_new _ _ _ _ _ (by simp only [RZ])]
         simpa [wrL,tkW,u64] using hq
        simp (disch:=first|omega|simp only [RO]|(simp only [RZ]<;>omega)|fail) only [↓RBp,↓RA,↓reduceIte,Nat.reduceAdd,Nat.reduceMul,Nat.reduceEqDiff,RB,RX,RA2,hs1]
        apply hE
        ·refine ⟨j+1,_,acc++ [tkW D l c i kj],by simp,rfl,hor,by omega,by simp [ha],?_,hf4,n4,hch⟩
         rw [wrL_append,List.length_append];exact hsp
        ·simp [intOf];omega
       ·have t4:goodB (bG (wd D l (offN c i))) (bK (wd D l (offN c i))) 176=false:=by simpa using t4
        simp (disch:=first|omega|simp only [RO]|(simp only [RZ]<;>omega)|fail) only [↓RBp,↓RA,↓reduceIte,Nat.reduceAdd,Nat.reduceMul,Nat.reduceEqDiff,RB,RX,RA2,t1,t2,t3,c_good,t4]
        exact bad (by simp [tkOk,t3,t4]) _ (by repeat (first|(with_reducible first|refine eB ?_ _|assumption|exact eR _|refine eA ?_ _|refine eD ?_|refine eT ?_ (by assumption))|exact eR _))
      ·simp (disch:=first|omega|simp only [RO]|(simp only [RZ]<;>omega)|fail) only [↓RBp,↓RA,↓reduceIte,Nat.reduceAdd,Nat.reduceMul,Nat.reduceEqDiff,RB,RX,RA2,t1,t2,t3]
       exact bad (by simp [tkOk,t3]) _ (by repeat (first|(with_reducible first|refine eB ?_ _|assumption|exact eR _|refine eA ?_ _|refine eD ?_|refine eT ?_ (by assumption))|exact eR _))
    ·have t1:isS (wd D l (offN c i))=false:=by simpa using t1
     simp (disch:=first|omega|simp only [RO]|(simp only [RZ]<;>omega)|fail) only [↓RBp,↓RA,↓reduceIte,Nat.reduceAdd,Nat.reduceMul,Nat.reduceEqDiff,RB,RX,RA2,t1]
     exact bad (by simp [tkOk,t1]) _ (by repeat (first|(with_reducible first|refine eB ?_ _|assumption|exact eR _|refine eA ?_ _|refine eD ?_|refine eT ?_ (by assumption))|exact eR _))
   ·have hjL:j=L.length:=by omega
    subst hjL
    have hd1:L.drop L.length= []:=List.drop_length
    rw [hd1] at hch
    have hch2:chT D l c L ks [] (wd D l 1)=some (acc,b):=by rw [←hch];simp [chT]
    rw [hch2] at hact
    simp only at hact
    unfold f70_l1_t
    simp (disch:=first|omega|simp only [RO]|(simp only [RZ]<;>omega)|fail) only [↓RBp,↓RA,↓reduceIte,Nat.reduceAdd,Nat.reduceMul,Nat.reduceEqDiff,RB,RX,RA2,f70_k1_eq,f70_k1_t]
    apply f70_l2_rule (I:=fun x y z w'=>∃(j b':Nat) (acc':List (Nat×Nat)),z= .int .i64 (j:Int)∧y= .int .u64 (b':Int)∧b'<18446744073709551616∧j≤M.length∧acc'.length=L.length+j∧SlO w' 80 2 x acc'.length (wrL acc')∧Frm Nob (w.alloc (chO Y l c o g)) w'∧NewV (w.alloc (chO Y l c o g)).heap.size x∧chDr D l c (M.drop j) acc' b'=chDr D l c M acc b) (μ:=fun _ _ z _=>M.length-(intOf z).toNat)
    ·exact ⟨0,b,acc,rfl,rfl,hb,by omega,ha,sp,f2,n2,rfl⟩
    ·intros;rename_i w3 hI3 E3 hE3
     obtain ⟨j,b',acc',rfl,rfl,hb',hj',ha',sp3,f3,n3,hch3⟩:=hI3
     have he3:Ext (w.alloc (chO Y l c o g)) w3:=f3.to_ext (fun _ _ h=>h)
     have e3:Ext w w3:=e0.trans he3
     obtain ⟨c0,c1,c2,c3,c4⟩:=chCells he3
     obtain ⟨pa3,pc3,rfl,hpc3⟩:=sp3.isS'
     by_cases hjM:j<M.length
     ·obtain ⟨sb,so,sc,ev1,hc⟩:=(hM.ext e3).get (i64L_get hjM)
      injection ev1 with ev1 _ ev2;subst ev1;subst ev2
      have hv:=vM M[j] (List.getElem_mem hjM)
      rw [chDr_drop hjM] at hch3
      generalize M[j]=x at hch3 hc hv
      obtain ⟨i,rfl⟩:∃i:Nat,x=(i:Int):=⟨x.toNat,by omega⟩
      rw [Int.toNat_natCast] at hch3
      unfold f70_l2_t
      simp (disch:=first|omega|simp only [RO]|(simp only [RZ]<;>omega)|fail) only [↓RBp,↓RA,↓reduceIte,Nat.reduceAdd,Nat.reduceMul,Nat.reduceEqDiff,RB,RX,RA2,hc,c0,c1,c2,c3,c4]
      refine k_read (h.ext e3) o g i hv.2 _ (fun w4 he4=> ?_)
      have e4:Ext w w4:=e3.trans he4
      have he14:=he3.trans he4
      have dd:=chCells he14
      have d0:=dd.1
      have d1:=dd.2.1
      have d2:=dd.2.2.1
      have d3:=dd.2.2.2.1
      have d4:=dd.2.2.2.2
      have lt4:w.heap.size<w4.heap.size:=lt_of_cell d0
      have b1:=bG_lt (wd D l (offN c i))
      have b2:=freG_lt b1
      have b3:=freS_lt (bG (wd D l (offN c i)))
      have bad:dpOk D l c i=false→∀w',Ext w w'→K (.tuple #[.slice none 0 0,.bool false]) w':=by
       intro hf
       rw [if_neg (by simp [hf])] at hch3
       exact hno (by rw [hact,←hch3])
      by_cases t1:isS (wd D l (offN c i))=true
      ·by_cases t2:bitB (wd D l 1) i=true
       ·by_cases t3:bS (wd D l (offN c i))=177
        ·have hok:dpOk D l c i=true:=by simp [dpOk,t1,t2,t3]
         rw [if_pos hok] at hch3
         have hpw:=pow_lt64 (show i<64 by omega)
         have hs1:1*2^i%18446744073709551616=2^i:=by rw [Nat.one_mul];exact Nat.mod_eq_of_lt hpw
         have han:b'&&&(18446744073709551615^^^2^i)<18446744073709551616:=Nat.lt_of_le_of_lt Nat.and_le_left hb'
         have rAN:∀(w:World) (k:K1),ev prog (binM .andNot 30 (.tmp 120) (.tmp 123) (.int .u64 (b':Int)) (.int .u64 ((2^i:Nat):Int))) w k=k (.int .u64 ((b'&&&(18446744073709551615^^^2^i):Nat):Int)) w:=fun w k=>ev_of_run (run_andNot _ _ _ b' (2^i) w hb' hpw) k
         (repeat' (first|(with_reducible first|refine brS_mk (fun _=> ?_) (fun _=> ?_)|refine And.intro ?_ ?_)|(simp (disch:=first|omega|simp only [RO]|(simp only [RZ]<;>omega)|(with_reducible (repeat (first|assumption|exact Ext.refl _|refine Ext.alloc ?_ _|refine Ext.drew ?_|refine Ext.trans ?_ (by assumption))))|fail) only [↓RBp,↓RA,↓reduceIte,Nat.reduceAdd,Nat.reduceMul,Nat.reduceEqDiff,RB,RX,RA2,t1,t2,t3,c_freed,d0,d1,d2,d3,d4,hat,hbw])))
         refine app_new elWrite (w0:=w.alloc (chO Y l c o g)) ((sp3.ext he4).ext (by repeat (first|(with_reducible first|refine eB ?_ _|assumption|exact eR _|refine eA ?_ _|refine eD ?_|refine eT ?_ (by assumption))|exact eR _))) ((f3.ext he4).ext (by repeat (first|(with_reducible first|refine eB ?_ _|assumption|exact eR _|refine eA ?_ _|refine eD ?_|refine eT ?_ (by assumption))|exact eR _))) n3 (m:=1) (news:=wrL [dpW D l c i]) (by simp [wrL,dpW]) ?_ rfl (by omega) (by omega) (by omega) (fun v' w5 hsp hf5 n5 hfr5 _=> ?_)
         ·intro q u hq
          rw [Nat.zero_add,cell_drew,cell_new _ _ _ _ _ (by simp only [RZ])]
          simpa [wrL,dpW,u64] using hq
         have ltq:∀q,(Value.slice pa3 acc'.length pc3).ownBlock=some q→q<w4.heap.size:=fun q hq=>(sp3.ext he4).lt hq
         have cq:w5.cell? ⟨w4.heap.size,2,none⟩=some (.int .u8 ((freS (bG (wd D l (offN c i))):Nat):Int)):=by
          rw [hfr5.cell w4.heap.size 2 (by simp only [RZ];omega) (fun hq=>by have:=ltq _ hq;omega)]
          simp (disch:=first|omega|simp only [RO]|(simp only [RZ]<;>omega)|fail) only [↓RBp,↓RA,↓reduceIte,Nat.reduceAdd,Nat.reduceMul,Nat.reduceEqDiff,RB,RX,RA2]
         by_cases hfs:freS (bG (wd D l (offN c i)))=176
         ·have hdB:dpB D l c i b'=b'&&&(18446744073709551615^^^2^i):=by unfold dpB;rw [if_pos hfs]
          rw [hfs] at cq
          simp (disch:=first|omega|simp only [RO]|(simp only [RZ]<;>omega)|fail) only [↓RBp,↓RA,↓reduceIte,Nat.reduceAdd,Nat.reduceMul,Nat.reduceEqDiff,RB,RX,RA2,cq,hs1,rAN,f70_k3_eq,f70_k3_t]
          apply hE3
          ·refine ⟨j+1,_,acc'++ [dpW D l c i],by simp,rfl,han,by omega,by simp [ha'];omega,?_,hf5,n5,by rw [←hdB];exact hch3⟩
           rw [wrL_append,List.length_append];exact hsp
          ·simp [intOf];omega
         ·have hdB:dpB D l c i b'=b':=by unfold dpB;rw [if_neg hfs]
          rw [hdB] at hch3
          simp (disch:=first|omega|simp only [RO]|(simp only [RZ]<;>omega)|fail) only [↓RBp,↓RA,↓reduceIte,Nat.reduceAdd,Nat.reduceMul,Nat.reduceEqDiff,RB,RX,RA2,cq,hfs,f70_k3_eq,f70_k3_t]
          apply hE3
          ·refine ⟨j+1,_,acc'++ [dpW D l c i],by simp,rfl,hb',by omega,by simp [ha'];omega,?_,hf5,n5,hch3⟩
           rw [wrL_append,List.length_append];exact hsp
          ·simp [intOf];omega
        ·simp (disch:=first|omega|simp only [RO]|(simp only [RZ]<;>omega)|fail) only [↓RBp,↓RA,↓reduceIte,Nat.reduceAdd,Nat.reduceMul,Nat.reduceEqDiff,RB,RX,RA2,t1,t2,t3]
         exact bad (by simp [dpOk,t3]) _ (by repeat (first|(with_reducible first|refine eB ?_ _|assumption|exact eR _|refine eA ?_ _|refine eD ?_|refine eT ?_ (by assumption))|exact eR _))
       ·have t2:bitB (wd D l 1) i=false:=by simpa using t2
        simp (disch:=first|omega|simp only [RO]|(simp only [RZ]<;>omega)|fail) only [↓RBp,↓RA,↓reduceIte,Nat.reduceAdd,Nat.reduceMul,Nat.reduceEqDiff,RB,RX,RA2,t1,t2]
        exact bad (by simp [dpOk,t2]) _ (by repeat (first|(with_reducible first|refine eB ?_ _|assumption|exact eR _|refine eA ?_ _|refine eD ?_|refine eT ?_ (by assumption))|exact eR _))
      ·have t1:isS (wd D l (offN c i))=false:=by simpa using t1
       simp (disch:=first|omega|simp only [RO]|(simp only [RZ]<;>omega)|fail) only [↓RBp,↓RA,↓reduceIte,Nat.reduceAdd,Nat.reduceMul,Nat.reduceEqDiff,RB,RX,RA2,t1]
       exact bad (by simp [dpOk,t1]) _ (by repeat (first|(with_reducible first|refine eB ?_ _|assumption|exact eR _|refine eA ?_ _|refine eD ?_|refine eT ?_ (by assumption))|exact eR _))
     ·have hjM':j=M.length:=by omega
      subst hjM'
      rw [List.drop_length] at hch3
      have hch4:chDr D l c M acc b=some (acc',b'):=by rw [←hch3];simp [chDr]
      rw [hch4] at hact
      simp only at hact
      have lt3:w.heap.size<w3.heap.size:=lt_of_cell c0
      have hl':=h.hl;have hn':=h.n
      unfold f70_l2_t
      simp (disch:=first|omega|simp only [RO]|(simp only [RZ]<;>omega)|(with_reducible (repeat (first|assumption|exact Ext.refl _|refine Ext.alloc ?_ _|refine Ext.drew ?_|refine Ext.trans ?_ (by assumption))))|fail) only [↓RBp,↓RA,↓reduceIte,Nat.reduceAdd,Nat.reduceMul,Nat.reduceEqDiff,RB,RX,RA2,c0,c1,c2,c3,c4,c_line,Int.toNat_natCast,f70_k2_eq,f70_k2_t]
      refine app_new elWrite (w0:=w.alloc (chO Y l c o g)) (sp3.ext (by repeat (first|(with_reducible first|refine eB ?_ _|assumption|exact eR _|refine eA ?_ _|refine eD ?_|refine eT ?_ (by assumption))|exact eR _))) (f3.ext (by repeat (first|(with_reducible first|refine eB ?_ _|assumption|exact eR _|refine eA ?_ _|refine eD ?_|refine eT ?_ (by assumption))|exact eR _))) n3 (m:=1) (news:=wrL [(l*64+8,b')]) (by simp [wrL]) ?_ rfl (by omega) (by omega) (by omega) (fun v' w5 hsp hf5 n5 hfr5 _=> ?_)
      ·intro q u hq
       rw [Nat.zero_add,cell_new _ _ _ _ _ (by simp only [RZ])]
       simpa [wrL,u64] using hq
      try simp (disch:=first|omega|simp only [RO]|(simp only [RZ]<;>omega)|fail) only [↓RBp,↓RA,↓reduceIte,Nat.reduceAdd,Nat.reduceMul,Nat.reduceEqDiff,RB,RX,RA2]
      refine hyes _ hact v' w5 (e0.trans (hf5.to_ext (fun _ _ h=>h))) (fun q hq=>Nat.le_trans s0 (n5 q hq)) ?_
      rw [wrL_append,List.length_append];exact hsp
 by_cases hL0:L.length=0
 ·by_cases hM0:M.length=0
  ·simp (disch:=first|omega|simp only [RO]|(simp only [RZ]<;>omega)|fail) only [↓RBp,↓RA,↓reduceIte,Nat.reduceAdd,Nat.reduceMul,Nat.reduceEqDiff,RB,RX,RA2,hL0,hM0]
   exact hyes [] (by unfold actN;rw [if_pos ⟨hL0,hM0⟩]) _ _ (by repeat (first|(with_reducible first|refine eB ?_ _|assumption|exact eR _|refine eA ?_ _|refine eD ?_|refine eT ?_ (by assumption))|exact eR _)) (fun b hb=>by cases hb) (SlO.nil _ _ _)
  ·have hz:((L.length:Nat):Int)=0:=by omega
   have hnz:¬((M.length:Nat):Int)=0:=by omega
   simp (disch:=first|omega|simp only [RO]|(simp only [RZ]<;>omega)|(with_reducible (repeat (first|assumption|exact Ext.refl _|refine Ext.alloc ?_ _|refine Ext.drew ?_|refine Ext.trans ?_ (by assumption))))|fail) only [↓RBp,↓RA,↓reduceIte,Nat.reduceAdd,Nat.reduceMul,Nat.reduceEqDiff,RB,RX,RA2,dec_true hz,dec_false hnz,hbt]
   exact main (by omega) _ (by repeat (first|(with_reducible first|refine eB ?_ _|assumption|exact eR _|refine eA ?_ _|refine eD ?_|refine eT ?_ (by assumption))|exact eR _))
 ·have hnz:¬((L.length:Nat):Int)=0:=by omega
  simp (disch:=first|omega|simp only [RO]|(simp only [RZ]<;>omega)|(with_reducible (repeat (first|assumption|exact Ext.refl _|refine Ext.alloc ?_ _|refine Ext.drew ?_|refine Ext.trans ?_ (by assumption))))|fail) only [↓RBp,↓RA,↓reduceIte,Nat.reduceAdd,Nat.reduceMul,Nat.reduceEqDiff,RB,RX,RA2,dec_false hnz,hbt]
  exact main (by omega) _ (by repeat (first|(with_reducible first|refine eB ?_ _|assumption|exact eR _|refine eA ?_ _|refine eD ?_|refine eT ?_ (by assumption))|exact eR _))
end
structure On (D:DS):Prop where
 off:D.off=false
 arm:D.armed=false
 err:D.err 0=0
section
variable {D:DS}
theorem On.runs (h:On D):D.runs true=true:=by simp [DS.runs,h.off,h.arm]
theorem On.counted (h:On D):D.counted 0 true={D with exe:=D.exe+1}:=by
 rw [DS.counted_run h.runs,if_neg (by simp [h.arm])]
theorem On.store (h:On D) (off v:Nat) (hv:vOff D off=true):D.store 0 off v=({D with exe:=D.exe+1}:DS).write off v:=by
 unfold DS.store;rw [hv,if_pos h.runs,h.counted]
theorem On.storeOn (h:On D) (off v:Nat) (hv:vOff D off=true):On (D.store 0 off v):=by
 rw [h.store off v hv];exact ⟨h.off,h.arm,h.err⟩
theorem On.storeCur (h:On D) (off v:Nat) (hv:vOff D off=true):(D.store 0 off v).cur=fun j=>if j=off/8 then v else D.cur j:=by
 rw [h.store off v hv];rfl
theorem On.flush (h:On D) (off:Nat) (hv:fOff D off=true):D.flush 0 off=({D with exe:=D.exe+1}:DS).note 0 ((off/64:Nat):Int) (D.done (off/64)+(D.hist (off/64)).length):=by
 unfold DS.flush;rw [hv,if_pos h.runs,h.counted]
theorem On.flushOn (h:On D) (off:Nat) (hv:fOff D off=true):On (D.flush 0 off):=by
 rw [h.flush off hv];exact ⟨h.off,h.arm,h.err⟩
theorem On.flushCur (h:On D) (off:Nat) (hv:fOff D off=true):(D.flush 0 off).cur=D.cur:=by
 rw [h.flush off hv];rfl
theorem On.fence (h:On D):D.fence 0=(({D with exe:=D.exe+1}:DS).parts (D.due 0)).clr 0:=by
 unfold DS.fence;rw [if_pos h.runs,h.counted]
theorem On.fenceOn (h:On D):On (D.fence 0):=by
 rw [h.fence];exact ⟨h.off,h.arm,h.err⟩
theorem On.fenceCur (h:On D):(D.fence 0).cur=D.cur:=by
 rw [h.fence];rfl
theorem On.zero (n:Nat):On (DS.zero n):=⟨rfl,rfl,rfl⟩
theorem run_cons (D:DS) (i:Ins) (p:List Ins):D.run 0 (i::p)=(D.exec 0 i).run 0 p:=rfl
theorem On.runW:∀(ws:List (Nat×Nat)) (D:DS),On D→(∀x∈ws,x.1%8=0∧x.1<D.n*64)→On (D.run 0 (ws.map wrI))∧(D.run 0 (ws.map wrI)).cur=applyH ws D.cur:=by
 intro ws
 induction ws with
 |nil=>intro D h _;exact ⟨h,rfl⟩
 |cons x ws ih=>
  intro D h hv
  rw [List.map_cons,run_cons]
  have e:D.exec 0 (wrI x)=D.store 0 x.1 x.2:=rfl
  have hx:vOff D x.1=true:=by simp [vOff,hv x (by simp)]
  rw [e]
  have hn:=store_n D 0 x.1 x.2
  have:=ih (D.store 0 x.1 x.2) (h.storeOn _ _ hx) (fun y hy=>by rw [hn];exact hv y (by simp [hy]))
  refine ⟨this.1,?_⟩
  rw [this.2,h.storeCur _ _ hx];rfl
theorem On.runF:∀(ls:List Nat) (D:DS),On D→(∀x∈ls,x<D.n*64)→On (D.run 0 (ls.map flI))∧(D.run 0 (ls.map flI)).cur=D.cur:=by
 intro ls
 induction ls with
 |nil=>intro D h _;exact ⟨h,rfl⟩
 |cons x ls ih=>
  intro D h hv
  rw [List.map_cons,run_cons]
  have e:D.exec 0 (flI x)=D.flush 0 x:=rfl
  have hx:fOff D x=true:=by simp [fOff,hv x (by simp)]
  rw [e]
  have hn:=flush_n D 0 x
  have:=ih (D.flush 0 x) (h.flushOn _ hx) (fun y hy=>by rw [hn];exact hv y (by simp [hy]))
  exact ⟨this.1,this.2.trans (h.flushCur _ hx)⟩
theorem kpN_mem (d:Array Nat):∀n,n≤d.size→∀x∈kpN d n,x∈d.toList:=by
 intro n
 induction n with
 |zero=>intro _ x hx;simp [kpN] at hx
 |succ n ih=>
  intro hn x hx
  simp only [kpN,List.mem_append] at hx
  rcases hx with hx|hx
  ·exact ih (by omega) x hx
  ·split at hx
   ·simp only [List.mem_singleton] at hx
    subst hx
    rw [getElem!_pos d n (by omega)]
    simp
   ·cases hx
theorem cmpN_mem {l:List Nat} {x:Nat} (h:x∈cmpN l):x∈l:=by
 have:=kpN_mem l.toArray l.length (by simp) x h
 simpa using this
theorem storesI_line {ws:List (Nat×Nat)} {x:Nat} (h:x∈cmpN (srtN (ws.map fun x=>lineS x.1))):∃y∈ws,x=lineS y.1:=by
 have h1:=cmpN_mem h
 have h2:=(srtN_perm _).mem_iff.1 h1
 obtain ⟨y,hy,rfl⟩:=List.mem_map.1 h2
 exact ⟨y,hy,rfl⟩
theorem On.stores (h:On D) (ws:List (Nat×Nat)) (hv:∀x∈ws,x.1%8=0∧x.1<D.n*64):On (D.run 0 (storesI ws))∧(D.run 0 (storesI ws)).cur=applyH ws D.cur:=by
 unfold storesI
 rw [run_append,run_append]
 have h1:=On.runW ws D h hv
 have n1:=run_n 0 (ws.map wrI) D
 have h2:=On.runF (cmpN (srtN (ws.map fun x=>lineS x.1))) (D.run 0 (ws.map wrI)) h1.1 (fun x hx=>by
  obtain ⟨y,hy,rfl⟩:=storesI_line hx
  have:=hv y hy
  rw [n1];unfold lineS;omega)
 refine ⟨h2.1.fenceOn,?_⟩
 show (DS.fence _ 0).cur=_
 rw [h2.1.fenceCur,h2.2,h1.2]
theorem okI_stores {ws:List (Nat×Nat)} (h:∀x∈ws,x.1<18446744073709551616∧x.2<18446744073709551616):∀i∈storesI ws,okI i:=by
 intro i hi
 simp only [storesI,List.mem_append,List.mem_map,List.mem_singleton] at hi
 rcases hi with (⟨x,hx,rfl⟩|⟨x,hx,rfl⟩)|rfl
 ·have:=h x hx;exact ⟨by simp [wrI],by simp [wrI],this.1,this.2⟩
 ·obtain ⟨y,hy,rfl⟩:=storesI_line hx
  have:=h y hy
  exact ⟨by simp [flI],by simp [flI],by simp only [flI,lineS];omega,by simp [flI]⟩
 ·exact ⟨by simp,by simp,by simp,by simp⟩
end
theorem seal_lo (x:Nat) (h:x<4294967296):sealN x%4294967296=x:=by unfold sealN;omega
theorem isS_seal {x:Nat} (h:x<4294967296):isS (sealN x)=true:=by unfold isS;rw [seal_lo x h];simp
theorem gX_seal (x:Nat):gX (sealN x)=gX x:=by unfold gX sealN;omega
theorem kX_seal (x:Nat):kX (sealN x)=kX x:=by unfold kX sealN;omega
theorem sX_seal (x:Nat):sX (sealN x)=sX x:=by unfold sX sealN;omega
theorem hC_seal (x:Nat):hC (sealN x)=hC x:=by unfold hC sealN;omega
theorem hO_seal (x:Nat):hO (sealN x)=hO x:=by unfold hO sealN;omega
section
variable {g k s:Nat}
theorem blkX_lt (hg:g<65536) (hk:k<256) (hs:s<256):blkX g k s<4294967296:=by unfold blkX;omega
theorem isS_blk (hg:g<65536) (hk:k<256) (hs:s<256):isS (sealN (blkX g k s))=true:=isS_seal (blkX_lt hg hk hs)
theorem bG_blk (hg:g<65536) (hk:k<256) (hs:s<256):bG (sealN (blkX g k s))=g:=by unfold bG;rw [isS_blk hg hk hs,if_pos rfl,gX_seal];unfold gX blkX;omega
theorem bK_blk (hg:g<65536) (hk:k<256) (hs:s<256):bK (sealN (blkX g k s))=k:=by unfold bK;rw [isS_blk hg hk hs,if_pos rfl,kX_seal];unfold kX blkX;omega
theorem bS_blk (hg:g<65536) (hk:k<256) (hs:s<256):bS (sealN (blkX g k s))=s:=by unfold bS;rw [isS_blk hg hk hs,if_pos rfl,sX_seal];unfold sX blkX;omega
end
section
variable {c o:Int} {g:Nat}
theorem hdX_lt (hc: -1≤c) (hc':c<5) (ho: -1≤o) (ho':o<8) (hg:g<65536):hdX c o g<4294967296:=by unfold hdX;split<;>omega
theorem hd_ok (hc:0≤c) (hc':c<5) (ho:0≤o) (ho':o<8) (hg:g≠0) (hg':g<65536):hdOk (sealN (hdX c o g))=true∧hC (sealN (hdX c o g))=c∧hO (sealN (hdX c o g))=o∧gX (sealN (hdX c o g))=g:=by
 have h1:hC (sealN (hdX c o g))=c:=by rw [hC_seal];unfold hC hdX;rw [if_pos hc];omega
 have h2:hO (sealN (hdX c o g))=o:=by rw [hO_seal];unfold hO hdX;rw [if_pos hc];omega
 have h3:gX (sealN (hdX c o g))=g:=by rw [gX_seal];unfold gX hdX;rw [if_pos hc];omega
 have h4:sX (sealN (hdX c o g))=197:=by rw [sX_seal];unfold sX hdX;rw [if_pos hc];omega
 refine ⟨?_,h1,h2,h3⟩
 unfold hdOk
 rw [h1,h2,h3,h4,isS_seal (hdX_lt (by omega) hc' (by omega) ho' hg')]
 simp [hg,fmtB,hc,hc',ho,ho']
theorem hd_free (hg:g≠0) (hg':g<65536):hdOk (sealN (hdX (-1) (-1) g))=true∧hC (sealN (hdX (-1) (-1) g))= -1∧hO (sealN (hdX (-1) (-1) g))= -1∧gX (sealN (hdX (-1) (-1) g))=g:=by
 have e:hdX (-1) (-1) g=g+3305111552:=by unfold hdX;rw [if_neg (by omega)]
 have h1:hC (sealN (hdX (-1) (-1) g))= -1:=by rw [hC_seal,e];unfold hC;omega
 have h2:hO (sealN (hdX (-1) (-1) g))= -1:=by rw [hO_seal,e];unfold hO;omega
 have h3:gX (sealN (hdX (-1) (-1) g))=g:=by rw [gX_seal,e];unfold gX;omega
 have h4:sX (sealN (hdX (-1) (-1) g))=197:=by rw [sX_seal,e];unfold sX;omega
 refine ⟨?_,h1,h2,h3⟩
 unfold hdOk
 rw [h1,h2,h3,h4,isS_seal (hdX_lt (by omega) (by omega) (by omega) (by omega) hg')]
 simp [hg]
end
theorem rd_mf {P:Program} (f:Fn) (a c:Array Value) (w:World) (k:Value→Prop):rd P (Instr.makeFunc f a c) w k=k (.func f a c):=rd_of_run rfl k
theorem ag_mf {P:Program} (f:Fn) (a c:Array Value) (w:World) (u:Value):ag P (Instr.makeFunc f a c) w u=(Value.func f a c=u):=ag_of_run rfl u
theorem nilR_Load (b i:Nat) (w:World) (k:Value→Prop):nilR prog (.func (.method "Load") #[.iface 25 (.pointer (some ⟨b,i,none⟩))] #[]) w k=k (.func (.method "Load") #[.iface 25 (.pointer (some ⟨b,i,none⟩))] #[]):=by
 have h:(execOp (fun _=>(.func (.method "Load") #[.iface 25 (.pointer (some ⟨b,i,none⟩))] #[])) nilOp).run prog w= .ok (.value (.func (.method "Load") #[.iface 25 (.pointer (some ⟨b,i,none⟩))] #[])) w:=by kernel_rfl
 unfold nilR;rw [h];simp
abbrev thV (Y:Lay):Value:= .iface 25 (.pointer (some ⟨Y.tb 0,0,none⟩))
section
variable {w w':World} {Y:Lay} {D:DS}
theorem cells5 {b t:Nat} {f:Nat→Value} (h:Cells w b t 5 f) (v0 v1 v2 v3 v4:Value):(((((w.setCell ⟨b,0,none⟩ v0).setCell ⟨b,1,none⟩ v1).setCell ⟨b,2,none⟩ v2).setCell ⟨b,3,none⟩ v3).setCell ⟨b,4,none⟩ v4).cell? ⟨b,0,none⟩=some v0∧(((((w.setCell ⟨b,0,none⟩ v0).setCell ⟨b,1,none⟩ v1).setCell ⟨b,2,none⟩ v2).setCell ⟨b,3,none⟩ v3).setCell ⟨b,4,none⟩ v4).cell? ⟨b,1,none⟩=some v1∧(((((w.setCell ⟨b,0,none⟩ v0).setCell ⟨b,1,none⟩ v1).setCell ⟨b,2,none⟩ v2).setCell ⟨b,3,none⟩ v3).setCell ⟨b,4,none⟩ v4).cell? ⟨b,2,none⟩=some v2∧(((((w.setCell ⟨b,0,none⟩ v0).setCell ⟨b,1,none⟩ v1).setCell ⟨b,2,none⟩ v2).setCell ⟨b,3,none⟩ v3).setCell ⟨b,4,none⟩ v4).cell? ⟨b,3,none⟩=some v3∧(((((w.setCell ⟨b,0,none⟩ v0).setCell ⟨b,1,none⟩ v1).setCell ⟨b,2,none⟩ v2).setCell ⟨b,3,none⟩ v3).setCell ⟨b,4,none⟩ v4).cell? ⟨b,4,none⟩=some v4:=by
 have h3:=((((h.set v0 (i:=0) (by omega)).set v1 (i:=1) (by omega)).set v2 (i:=2) (by omega)).set v3 (i:=3) (by omega)).set v4 (i:=4) (by omega)
 exact ⟨h3.cell (i:=0) (by omega),h3.cell (i:=1) (by omega),h3.cell (i:=2) (by omega),h3.cell (i:=3) (by omega),h3.cell (i:=4) (by omega)⟩
theorem k_Look (h:Dv w Y D) (g:Good D) (hG:Glob w) (ho:D.off=false) (he:D.err 0=0) (l:Nat) (hl:l+32≤D.n) (hok:hdOk (wd D l 0)=true) (K:K1)
  (hK:∀w',Ext w w'→K (.tuple #[.agg #[.int .i64 (hC (wd D l 0)),.int .i64 (hO (wd D l 0)),.int .u16 (gX (wd D l 0):Int)],.int .i64 0]) w'):
  callS prog 48 #[thV Y,.int .i64 (l:Int)] w K:=by
 have hn:=g.n
 have hsz:∀(w1:World) (K:K1),Ext w w1→callS prog 167 #[.pointer (some ⟨Y.tb 0,0,none⟩)] w1 K=K (.int .u64 ((D.n*64:Nat):Int)) w1:=fun w1 K e=>c_TSize (h.ext e) g 0 (by omega) K
 have her:∀(w1:World) (K:K1),Ext w w1→callS prog 19 #[.pointer (some ⟨Y.tb 0,0,none⟩)] w1 K=K (.int .i64 0) w1:=fun w1 K e=>by rw [c_Err (h.ext e) 0 (by omega) K,he]
 have hld:∀(w1:World) (K:K1),Ext w w1→callS prog 46 #[.pointer (some ⟨Y.tb 0,0,none⟩),.int .u64 ((l*64:Nat):Int)] w1 K=K (.int .u64 (wd D l 0:Int)) w1:=fun w1 K e=>by
  rw [c_Load (h.ext e) g 0 (by omega) ho (l*64) (by omega) (by omega) K,show l*64/8=l*8+0 by omega];unfold wd;rfl
 have hx:wd D l 0<18446744073709551616:=by unfold wd;exact g.cur _ (by omega)
 have hq:D.n*64/64=D.n:=by omega
 generalize wd D l 0=x at*
 refine f48_call _ _ _ _ ?_
 unfold thV f48_t
 (repeat' (first|(with_reducible first|refine brS_mk (fun _=> ?_) (fun _=> ?_)|refine And.intro ?_ ?_)|(simp (disch:=first|omega|simp only [RO]|(simp only [RZ]<;>omega)|(with_reducible (repeat (first|assumption|exact Ext.refl _|refine Ext.alloc ?_ _|refine Ext.drew ?_|refine Ext.trans ?_ (by assumption))))|fail) only [↓RBp,↓RA,↓reduceIte,Nat.reduceAdd,Nat.reduceMul,Nat.reduceEqDiff,RB,RX,RA2,hsz,her,hld,hq,c_line,Int.toNat_natCast,rd_mf,ag_mf,nilR_Load])))
 refine k_header x _ _ (hG.ext (by repeat (first|(with_reducible first|refine eB ?_ _|assumption|exact eR _|refine eA ?_ _|refine eD ?_|refine eT ?_ (by assumption))|exact eR _))) hx (fun w1 he1=> ?_)
 have e1:Ext w w1:=Ext.trans (by repeat (first|(with_reducible first|refine eB ?_ _|assumption|exact eR _|refine eA ?_ _|refine eD ?_|refine eT ?_ (by assumption))|exact eR _)) he1
 have hC0:Cells w1 w.heap.size 67 3 (fun i=> [Value.int .i64 0,.int .i64 0,.int .u16 ((0:Nat):Int)].getD i undef):=by
  have:=(Cells.new w [Value.int .i64 0,.int .i64 0,.int .u16 ((0:Nat):Int)] 67)
  exact this.ext (Ext.trans (by repeat (first|(with_reducible first|refine eB ?_ _|assumption|exact eR _|refine eA ?_ _|refine eD ?_|refine eT ?_ (by assumption))|exact eR _)) he1)
 have c0:=hC0.cell (i:=0) (by omega)
 have c1:=hC0.cell (i:=1) (by omega)
 have c2:=hC0.cell (i:=2) (by omega)
 have lt1:=hC0.lt
 rw [hok]
 unfold hdV
 have ob1:=cells3 hC0 (.int .i64 (hC x)) (.int .i64 (hO x)) (.int .u16 (gX x:Int));have d0:=ob1.1;have d1:=ob1.2.1;have d2:=ob1.2.2.1;have hD:=ob1.2.2.2
 simp (disch:=first|omega|simp only [RO]|(simp only [RZ]<;>omega)|fail) only [↓RBp,↓RA,↓reduceIte,Nat.reduceAdd,Nat.reduceMul,Nat.reduceEqDiff,RB,RX,RA2,c0,c1,c2,hC0.frz,d0,d1,d2]
 exact hK _ (by repeat (first|(with_reducible first|refine eB ?_ _|assumption|exact eR _|refine eA ?_ _|refine eD ?_|refine eT ?_ (by assumption))|exact eR _))
theorem k_LookForm (h:Dv w Y D) (g:Good D) (hG:Glob w) (ho:D.off=false) (he:D.err 0=0) (l:Nat) (hl:l+32≤D.n) (hok:hdOk (wd D l 0)=false) (K:K1)
  (hK:∀w',Ext w w'→K (.tuple #[.agg #[.int .i64 0,.int .i64 0,.int .u16 ((0:Nat):Int)],.int .i64 11]) w'):
  callS prog 48 #[thV Y,.int .i64 (l:Int)] w K:=by
 have hn:=g.n
 have hsz:∀(w1:World) (K:K1),Ext w w1→callS prog 167 #[.pointer (some ⟨Y.tb 0,0,none⟩)] w1 K=K (.int .u64 ((D.n*64:Nat):Int)) w1:=fun w1 K e=>c_TSize (h.ext e) g 0 (by omega) K
 have her:∀(w1:World) (K:K1),Ext w w1→callS prog 19 #[.pointer (some ⟨Y.tb 0,0,none⟩)] w1 K=K (.int .i64 0) w1:=fun w1 K e=>by rw [c_Err (h.ext e) 0 (by omega) K,he]
 have hld:∀(w1:World) (K:K1),Ext w w1→callS prog 46 #[.pointer (some ⟨Y.tb 0,0,none⟩),.int .u64 ((l*64:Nat):Int)] w1 K=K (.int .u64 (wd D l 0:Int)) w1:=fun w1 K e=>by
  rw [c_Load (h.ext e) g 0 (by omega) ho (l*64) (by omega) (by omega) K,show l*64/8=l*8+0 by omega];unfold wd;rfl
 have hx:wd D l 0<18446744073709551616:=by unfold wd;exact g.cur _ (by omega)
 have hq:D.n*64/64=D.n:=by omega
 generalize wd D l 0=x at*
 refine f48_call _ _ _ _ ?_
 unfold thV f48_t
 (repeat' (first|(with_reducible first|refine brS_mk (fun _=> ?_) (fun _=> ?_)|refine And.intro ?_ ?_)|(simp (disch:=first|omega|simp only [RO]|(simp only [RZ]<;>omega)|(with_reducible (repeat (first|assumption|exact Ext.refl _|refine Ext.alloc ?_ _|refine Ext.drew ?_|refine Ext.trans ?_ (by assumption))))|fail) only [↓RBp,↓RA,↓reduceIte,Nat.reduceAdd,Nat.reduceMul,Nat.reduceEqDiff,RB,RX,RA2,hsz,her,hld,hq,c_line,Int.toNat_natCast,rd_mf,ag_mf,nilR_Load])))
 refine k_header x _ _ (hG.ext (by repeat (first|(with_reducible first|refine eB ?_ _|assumption|exact eR _|refine eA ?_ _|refine eD ?_|refine eT ?_ (by assumption))|exact eR _))) hx (fun w1 he1=> ?_)
 have e1:Ext w w1:=Ext.trans (by repeat (first|(with_reducible first|refine eB ?_ _|assumption|exact eR _|refine eA ?_ _|refine eD ?_|refine eT ?_ (by assumption))|exact eR _)) he1
 have hC0:Cells w1 w.heap.size 67 3 (fun i=> [Value.int .i64 0,.int .i64 0,.int .u16 ((0:Nat):Int)].getD i undef):=by
  have:=(Cells.new w [Value.int .i64 0,.int .i64 0,.int .u16 ((0:Nat):Int)] 67)
  exact this.ext (Ext.trans (by repeat (first|(with_reducible first|refine eB ?_ _|assumption|exact eR _|refine eA ?_ _|refine eD ?_|refine eT ?_ (by assumption))|exact eR _)) he1)
 have c0:=hC0.cell (i:=0) (by omega)
 have c1:=hC0.cell (i:=1) (by omega)
 have c2:=hC0.cell (i:=2) (by omega)
 have lt1:=hC0.lt
 rw [hok]
 unfold hdV
 have ob2:=cells3 hC0 (.int .i64 0) (.int .i64 0) (.int .u16 ((0:Nat):Int));have d0:=ob2.1;have d1:=ob2.2.1;have d2:=ob2.2.2.1;have hD:=ob2.2.2.2
 simp (disch:=first|omega|simp only [RO]|(simp only [RZ]<;>omega)|fail) only [↓RBp,↓RA,↓reduceIte,Nat.reduceAdd,Nat.reduceMul,Nat.reduceEqDiff,RB,RX,RA2,c0,c1,c2,hC0.frz,d0,d1,d2]
 exact hK _ (by repeat (first|(with_reducible first|refine eB ?_ _|assumption|exact eR _|refine eA ?_ _|refine eD ?_|refine eT ?_ (by assumption))|exact eR _))
abbrev chZ:Value:= .agg #[.nilIface,.int .i64 0,.int .i64 0,.int .i64 0,.int .u16 ((0:Nat):Int)]
theorem k_OpenAt (h:Dv w Y D) (g:Good D) (hG:Glob w) (ho:D.off=false) (he:D.err 0=0) (l:Nat) (hl:l+32≤D.n) (hok:hdOk (wd D l 0)=true) (K:K1)
  (hK:∀w',Ext w w'→K (if hC (wd D l 0)<0 then .tuple #[chZ,.int .i64 8] else .tuple #[chV Y l (hC (wd D l 0)) (hO (wd D l 0)) (gX (wd D l 0)),.int .i64 0]) w'):
  callS prog 23 #[thV Y,.int .i64 (l:Int)] w K:=by
 refine f23_call _ _ _ _ ?_
 unfold thV f23_t
 simp (disch:=first|omega|simp only [RO]|(simp only [RZ]<;>omega)|fail) only [↓RBp,↓RA,↓reduceIte,Nat.reduceAdd,Nat.reduceMul,Nat.reduceEqDiff,RB,RX,RA2]
 refine k_Look (h.ext (by repeat (first|(with_reducible first|refine eB ?_ _|assumption|exact eR _|refine eA ?_ _|refine eD ?_|refine eT ?_ (by assumption))|exact eR _))) g (hG.ext (by repeat (first|(with_reducible first|refine eB ?_ _|assumption|exact eR _|refine eA ?_ _|refine eD ?_|refine eT ?_ (by assumption))|exact eR _))) ho he l hl hok _ (fun w1 he1=> ?_)
 have e1:Ext w w1:=Ext.trans (by repeat (first|(with_reducible first|refine eB ?_ _|assumption|exact eR _|refine eA ?_ _|refine eD ?_|refine eT ?_ (by assumption))|exact eR _)) he1
 have hC0:Cells w1 w.heap.size 69 5 (fun i=> [Value.nilIface,.int .i64 0,.int .i64 0,.int .i64 0,.int .u16 ((0:Nat):Int)].getD i undef):=by
  have:=(Cells.new w [Value.nilIface,.int .i64 0,.int .i64 0,.int .i64 0,.int .u16 ((0:Nat):Int)] 69)
  exact this.ext (Ext.trans (by repeat (first|(with_reducible first|refine eB ?_ _|assumption|exact eR _|refine eA ?_ _|refine eD ?_|refine eT ?_ (by assumption))|exact eR _)) he1)
 have c0:=hC0.cell (i:=0) (by omega)
 have c1:=hC0.cell (i:=1) (by omega)
 have c2:=hC0.cell (i:=2) (by omega)
 have c3:=hC0.cell (i:=3) (by omega)
 have c4:=hC0.cell (i:=4) (by omega)
 have lt1:=hC0.lt
 by_cases hc:hC (wd D l 0)<0
 ·rw [if_pos hc] at hK
  have ob4:=cells5 hC0 .nilIface (.int .i64 0) (.int .i64 0) (.int .i64 0) (.int .u16 ((0:Nat):Int));have d0:=ob4.1;have d1:=ob4.2.1;have d2:=ob4.2.2.1;have d3:=ob4.2.2.2.1;have d4:=ob4.2.2.2.2
  simp (disch:=first|omega|simp only [RO]|(simp only [RZ]<;>omega)|fail) only [↓RBp,↓RA,↓reduceIte,Nat.reduceAdd,Nat.reduceMul,Nat.reduceEqDiff,RB,RX,RA2,c0,c1,c2,c3,c4,hC0.frz,d0,d1,d2,d3,d4]
  exact hK _ (by repeat (first|(with_reducible first|refine eB ?_ _|assumption|exact eR _|refine eA ?_ _|refine eD ?_|refine eT ?_ (by assumption))|exact eR _))
 ·rw [if_neg hc] at hK
  have ob5:=cells5 hC0 (.iface 25 (.pointer (some ⟨Y.tb 0,0,none⟩))) (.int .i64 (l:Int)) (.int .i64 (hC (wd D l 0))) (.int .i64 (hO (wd D l 0))) (.int .u16 (gX (wd D l 0):Int));have d0:=ob5.1;have d1:=ob5.2.1;have d2:=ob5.2.2.1;have d3:=ob5.2.2.2.1;have d4:=ob5.2.2.2.2
  simp (disch:=first|omega|simp only [RO]|(simp only [RZ]<;>omega)|fail) only [↓RBp,↓RA,↓reduceIte,Nat.reduceAdd,Nat.reduceMul,Nat.reduceEqDiff,RB,RX,RA2,c0,c1,c2,c3,c4,hC0.frz,d0,d1,d2,d3,d4]
  exact hK _ (by repeat (first|(with_reducible first|refine eB ?_ _|assumption|exact eR _|refine eA ?_ _|refine eD ?_|refine eT ?_ (by assumption))|exact eR _))
end
theorem onc_valid {per:Int}:∀{L:List Int} {m m':Nat},onc per L m=some m'→∀i∈L,0≤i∧i<per:=by
 intro L
 induction L with
 |nil=>intro m m' _ i hi;cases hi
 |cons x L ih=>
  intro m m' h i hi
  simp only [onc] at h
  split at h
  ·rename_i hx
   rcases List.mem_cons.1 hi with rfl|hi
   ·exact hx.1
   ·exact ih h i hi
  ·cases h
structure ActA (c:Int) (L:List Int) (ks:List Nat) (M:List Int):Prop where
 len:ks.length=L.length
 kin:∀k∈ks,k≠0∧k≤127
 onc:((onc (perS c) L 0).bind (onc (perS c) M)).isSome=true
theorem ActA.vL {c:Int} {L M:List Int} {ks:List Nat} (h:ActA c L ks M):∀i∈L,0≤i∧i<perS c:=by
 have:=h.onc
 cases h1:Go.Proofs.YtifpinhjpbgnoaaGreatDoor.onc (perS c) L 0 with
 |none=>rw [h1] at this;cases this
 |some m=>exact onc_valid h1
theorem ActA.vM {c:Int} {L M:List Int} {ks:List Nat} (h:ActA c L ks M):∀i∈M,0≤i∧i<perS c:=by
 have:=h.onc
 cases h1:Go.Proofs.YtifpinhjpbgnoaaGreatDoor.onc (perS c) L 0 with
 |none=>rw [h1] at this;cases this
 |some m=>
  rw [h1,Option.bind_some] at this
  cases h2:Go.Proofs.YtifpinhjpbgnoaaGreatDoor.onc (perS c) M m with
  |none=>rw [h2] at this;cases this
  |some m'=>exact onc_valid h2
section
variable {w w':World} {Y:Lay} {D:DS} {l:Nat} {c o:Int} {g:Nat}
theorem k_Actions (h:Cx w Y D l c) (he:D.err 0=0) (o:Int) (g:Nat) (L M:List Int) (ks:List Nat) (v kv u:Value) {m:Nat} (hL:RdS m w v (i64L L)) (hk:RdS m w kv (u8L ks)) (hM:RdS m w u (i64L M)) (lL:L.length<1073741824) (lM:M.length<1073741824) (lk:ks.length<1073741824) (hks:∀k∈ks,k<256) (K:K1)
  (hbad:¬ActA c L ks M→∀w',Ext w w'→K (.tuple #[.slice none 0 0,.int .i64 1]) w')
  (hno:ActA c L ks M→actN D l c L ks M=none→∀w',Ext w w'→K (.tuple #[.slice none 0 0,.int .i64 8]) w')
  (hyes:ActA c L ks M→∀ws,actN D l c L ks M=some ws→∀v' w',Ext w w'→NewV w.heap.size v'→SlO w' 80 2 v' ws.length (wrL ws)→K (.tuple #[v',.int .i64 0]) w'):callS prog 28 #[chV Y l c o g,v,kv,u] w K:=by
 have her:∀(w1:World) (K:K1),Ext w w1→callS prog 19 #[.pointer (some ⟨Y.tb 0,0,none⟩)] w1 K=K (.int .i64 0) w1:=fun w1 K e=>by rw [c_Err (h.dv.ext e) 0 (by omega) K,he]
 have l1:(i64L L).length=L.length:=by simp
 have l2:(i64L M).length=M.length:=by simp
 have l3:(u8L ks).length=ks.length:=by simp
 obtain ⟨la,lc,rfl,_⟩:=id hL
 obtain ⟨ma,mc,rfl,_⟩:=id hM
 obtain ⟨ka,kc,rfl,_⟩:=id hk
 rw [l1] at hL ⊢
 rw [l2] at hM ⊢
 rw [l3] at hk ⊢
 have e0:Ext w (w.alloc (chO Y l c o g)):=Ext.alloc_self _ _
 refine f28_call _ _ _ _ _ _ ?_
 by_cases hln:ks.length=L.length
 ·have hz:((ks.length:Nat):Int)=((L.length:Nat):Int):=by omega
  have hb2:∀j,(hj:j<ks.length)→¬(ks[j]≠0∧ks[j]≤127)→∀w',Ext w w'→K (.tuple #[.slice none 0 0,.int .i64 1]) w':=fun j hj hn=>hbad (fun ha=>hn (ha.kin _ (List.getElem_mem hj)))
  unfold f28_t
  simp (disch:=first|omega|simp only [RO]|(simp only [RZ]<;>omega)|fail) only [↓RBp,↓RA,↓reduceIte,Nat.reduceAdd,Nat.reduceMul,Nat.reduceEqDiff,RB,RX,RA2,dec_true hz]
  apply f28_l1_rule (I:=fun z w'=>∃j:Nat,z= .int .i64 (j:Int)∧j≤ks.length∧(∀q,(hq:q<ks.length)→q<j→ks[q]≠0∧ks[q]≤127)∧Ext (w.alloc (chO Y l c o g)) w') (μ:=fun z _=>ks.length-(intOf z).toNat)
  ·exact ⟨0,rfl,by omega,fun q _ h=>by omega,(by repeat (first|(with_reducible first|refine eB ?_ _|assumption|exact eR _|refine eA ?_ _|refine eD ?_|refine eT ?_ (by assumption))|exact eR _))⟩
  ·intros;rename_i w1 hI E1 hE
   obtain ⟨j,rfl,hj,hgd,he1⟩:=hI
   have e1:Ext w w1:=e0.trans he1
   obtain ⟨c0,c1,c2,c3,c4⟩:=chCells he1
   by_cases hjl:j<ks.length
   ·obtain ⟨sb,so,sc,ev1,hc⟩:=(hk.ext e1).get (u8L_get hjl)
    injection ev1 with ev1 _ ev2;subst ev1;subst ev2
    have hkj:=hks ks[j] (List.getElem_mem hjl)
    have hb3:=hb2 j hjl
    have hgd':(ks[j]≠0∧ks[j]≤127)→∀q,(hq:q<ks.length)→q<j+1→ks[q]≠0∧ks[q]≤127:=by
     intro hh q hq hq1
     by_cases e:q=j
     ·subst e;exact hh
     ·exact hgd q hq (by omega)
    generalize ks[j]=x at hc hkj hb3 hgd'
    unfold f28_l1_t
    by_cases x0:x=0
    ·subst x0
     simp (disch:=first|omega|simp only [RO]|(simp only [RZ]<;>omega)|fail) only [↓RBp,↓RA,↓reduceIte,Nat.reduceAdd,Nat.reduceMul,Nat.reduceEqDiff,RB,RX,RA2,hc]
     exact hb3 (by simp) _ e1
    ·by_cases x1:x≤127
     ·simp (disch:=first|omega|simp only [RO]|(simp only [RZ]<;>omega)|fail) only [↓RBp,↓RA,↓reduceIte,Nat.reduceAdd,Nat.reduceMul,Nat.reduceEqDiff,RB,RX,RA2,hc]
      apply hE
      ·exact ⟨j+1,by simp,by omega,hgd' ⟨x0,x1⟩,he1⟩
      ·simp [intOf];omega
     ·simp (disch:=first|omega|simp only [RO]|(simp only [RZ]<;>omega)|fail) only [↓RBp,↓RA,↓reduceIte,Nat.reduceAdd,Nat.reduceMul,Nat.reduceEqDiff,RB,RX,RA2,hc]
      exact hb3 (by omega) _ e1
   ·have hjk:j=ks.length:=by omega
    subst hjk
    have hkin:∀k∈ks,k≠0∧k≤127:=by
     intro k hk
     obtain ⟨q,hq,rfl⟩:=List.mem_iff_getElem.1 hk
     exact hgd q hq hq
    unfold f28_l1_t
    simp (disch:=first|omega|simp only [RO]|(simp only [RZ]<;>omega)|fail) only [↓RBp,↓RA,↓reduceIte,Nat.reduceAdd,Nat.reduceMul,Nat.reduceEqDiff,RB,RX,RA2,c0,c1,c2,c3,c4,f28_k1_eq,f28_k1_t]
    refine k_once (h.ext (by repeat (first|(with_reducible first|refine eB ?_ _|assumption|exact eR _|refine eA ?_ _|refine eD ?_|refine eT ?_ (by assumption))|exact eR _))) o g L M _ _ (hL.ext (by repeat (first|(with_reducible first|refine eB ?_ _|assumption|exact eR _|refine eA ?_ _|refine eD ?_|refine eT ?_ (by assumption))|exact eR _))) (hM.ext (by repeat (first|(with_reducible first|refine eB ?_ _|assumption|exact eR _|refine eA ?_ _|refine eD ?_|refine eT ?_ (by assumption))|exact eR _))) (by omega) (by omega) _ _ (by simp (disch:=first|omega|simp only [RO]|(simp only [RZ]<;>omega)|fail) only [↓RBp,↓RA,↓reduceIte,Nat.reduceAdd,Nat.reduceMul,Nat.reduceEqDiff,RB,RX,RA2]) (by simp (disch:=first|omega|simp only [RO]|(simp only [RZ]<;>omega)|fail) only [↓RBp,↓RA,↓reduceIte,Nat.reduceAdd,Nat.reduceMul,Nat.reduceEqDiff,RB,RX,RA2]) _ (fun w2 he2=> ?_)
    have e12:Ext w1 w2:=Ext.trans (by repeat (first|(with_reducible first|refine eB ?_ _|assumption|exact eR _|refine eA ?_ _|refine eD ?_|refine eT ?_ (by assumption))|exact eR _)) he2
    have e2:Ext w w2:=e1.trans e12
    have he13:=he1.trans e12
    have ob6:=chCells he13;have d0:=ob6.1;have d1:=ob6.2.1;have d2:=ob6.2.2.1;have d3:=ob6.2.2.2.1;have d4:=ob6.2.2.2.2
    cases hon:((onc (perS c) L 0).bind (onc (perS c) M)).isSome with
    |false=>
     simp (disch:=first|omega|simp only [RO]|(simp only [RZ]<;>omega)|fail) only [↓RBp,↓RA,↓reduceIte,Nat.reduceAdd,Nat.reduceMul,Nat.reduceEqDiff,RB,RX,RA2]
     exact hbad (fun ha=>by have:=ha.onc;rw [hon] at this;cases this) _ e2
    |true=>
     have hA:ActA c L ks M:=⟨hln,hkin,hon⟩
     simp (disch:=first|omega|simp only [RO]|(simp only [RZ]<;>omega)|(with_reducible (repeat (first|assumption|exact Ext.refl _|refine Ext.alloc ?_ _|refine Ext.drew ?_|refine Ext.trans ?_ (by assumption))))|fail) only [↓RBp,↓RA,↓reduceIte,Nat.reduceAdd,Nat.reduceMul,Nat.reduceEqDiff,RB,RX,RA2,d0,d1,d2,d3,d4,her]
     refine k_changes (h.ext e2) o g L M ks _ _ _ (hL.ext e2) (hk.ext e2) (hM.ext e2) lL lM hln hks hA.vL hA.vM _ (fun hn w3 he3=> ?_) (fun ws hs v' w3 he3 hnv hsl=> ?_)
     ·have e3:=e2.trans he3
      have he14:=he13.trans he3
      have ob7:=chCells he14;have g0:=ob7.1;have g1:=ob7.2.1;have g2:=ob7.2.2.1;have g3:=ob7.2.2.2.1;have g4:=ob7.2.2.2.2
      simp (disch:=first|omega|simp only [RO]|(simp only [RZ]<;>omega)|(with_reducible (repeat (first|assumption|exact Ext.refl _|refine Ext.alloc ?_ _|refine Ext.drew ?_|refine Ext.trans ?_ (by assumption))))|fail) only [↓RBp,↓RA,↓reduceIte,Nat.reduceAdd,Nat.reduceMul,Nat.reduceEqDiff,RB,RX,RA2,g0,g1,g2,g3,g4,her]
      exact hno hA hn _ e3
     ·have e3:=e2.trans he3
      have he14:=he13.trans he3
      have ob8:=chCells he14;have g0:=ob8.1;have g1:=ob8.2.1;have g2:=ob8.2.2.1;have g3:=ob8.2.2.2.1;have g4:=ob8.2.2.2.2
      simp (disch:=first|omega|simp only [RO]|(simp only [RZ]<;>omega)|(with_reducible (repeat (first|assumption|exact Ext.refl _|refine Ext.alloc ?_ _|refine Ext.drew ?_|refine Ext.trans ?_ (by assumption))))|fail) only [↓RBp,↓RA,↓reduceIte,Nat.reduceAdd,Nat.reduceMul,Nat.reduceEqDiff,RB,RX,RA2,g0,g1,g2,g3,g4,her]
      exact hyes hA ws hs _ _ e3 (fun b hb=>Nat.le_trans e2.size (hnv b hb)) hsl
 ·have hnz:¬((ks.length:Nat):Int)=((L.length:Nat):Int):=by omega
  unfold f28_t
  simp (disch:=first|omega|simp only [RO]|(simp only [RZ]<;>omega)|fail) only [↓RBp,↓RA,↓reduceIte,Nat.reduceAdd,Nat.reduceMul,Nat.reduceEqDiff,RB,RX,RA2,dec_false hnz]
  exact hbad (fun ha=>hln ha.len) _ (by repeat (first|(with_reducible first|refine eB ?_ _|assumption|exact eR _|refine eA ?_ _|refine eD ?_|refine eT ?_ (by assumption))|exact eR _))
end
structure Lv (w0 w:World) (Y:Lay) (D:DS):Prop where
 dv:Dv w Y D
 gd:Good D
 ex:Ext w0 w
 nw:∀x,Y.F x→w0.heap.size≤x
section
variable {w0 w w':World} {Y Y':Lay} {D D':DS} {a b c g:Nat}
theorem Lv.ext (h:Lv w0 w Y D) (e:Ext w w'):Lv w0 w' Y D:=⟨h.dv.ext e,h.gd,h.ex.trans e,h.nw⟩
theorem Ext.frm {F:Nat→Prop} (h:Ext w0 w) (f:Frm F w w') (hF:∀x,F x→w0.heap.size≤x):Ext w0 w':=
 (Frm.trans (F:=Nob) (G:=F) (Frm.of_ext h) f (fun x hx hf=>by have:=hF x hf;omega)).to_ext (fun _ _ h=>h)
theorem Lv.step (h:Lv w0 w Y D) (s:Stp w Y w' Y' D') (g:Good D'):Lv w0 w' Y' D':=by
 refine ⟨s.dv,g,Ext.frm h.ex s.frm h.nw,fun x hx=> ?_⟩
 rcases s.fr x hx with h1|h1
 ·exact h.nw x h1
 ·exact Nat.le_trans h.ex.size h1
theorem Lv.frm {G:Nat→Prop} (h:Lv w0 w Y D) (f:Frm G w w') (hG:∀b,G b→b<w0.heap.size):Dv w' Y D:=
 h.dv.frm f (fun b hb hg=>by have:=h.nw b hb;have:=hG b hg;omega)
theorem Lv.out {v:Value} (h:Lv w0 w Y D) (hv:NewV w.heap.size v):∀b,v.ownBlock=some b→¬Y.F b:=fun b hb hf=>by
 have h1:=h.dv.lt hf;have h2:=hv b hb;omega
end
noncomputable def f91_u:Code×Dec:=((Tryz.f91.body).getD .skip,(.s .o (.s .o (.s .o (.x 40 (.s .o (.b (.l [6] 40 260160 .o))) (.x 40 (.s .o (.b (.l [7] 40 17179607168 .o))) .o))))))
abbrev f91_e (K:K1):KF:=endK prog Tryz.f91.results.toList K
def f91_k1_o (K:K1):KF:=fun fr w=>∀σ,cP (pr (pr (pr (pr f91_u)))) (f91_e K) (f91_e K) nX (mixF 40 σ 0 fr) w
def f91_k1 (K:K1) (x3 x5:Value) (w:World):Prop:=f91_k1_o K (fz 39 0 [(3,x3),(5,x5)]) w
def f91_l1 (K:K1) (x3 x5 x6:Value) (w:World):Prop:=loopT [6] 40 (fun E=>cP (pl (pl (pr (pl (pr (pr (pr f91_u))))))) E (f91_e K) (exB 0 (f91_k1_o K) nX)) (fz 39 0 [(3,x3),(5,x5),(6,x6)]) w
def f91_k2_o (K:K1):KF:=fun fr w=>∀σ,cP (pr (pr (pr (pr (pr f91_u))))) (f91_e K) (f91_e K) nX (mixF 40 σ 0 fr) w
def f91_k2 (K:K1) (x3 x5:Value) (w:World):Prop:=f91_k2_o K (fz 39 0 [(3,x3),(5,x5)]) w
def f91_l2 (K:K1) (x3 x5 x7:Value) (w:World):Prop:=loopT [7] 40 (fun E=>cP (pl (pl (pr (pl (pr (pr (pr (pr f91_u)))))))) E (f91_e K) (exB 2 (f91_k2_o K) nX)) (fz 39 0 [(3,x3),(5,x5),(7,x7)]) w
def f91_k1_t (x3 x5:Value) (K:K1) (w:World):Prop:=
 f91_l2 K x3 x5 (.int .i64 0) w
theorem f91_k1_eq (K:K1) (x3 x5:Value) (w:World):f91_k1 K x3 x5 w=f91_k1_t x3 x5 K w:=cutE fun σ=>by kernel_rfl
def f91_l1_t (x3 x5 x6:Value) (K:K1) (E1:VP1) (w:World):Prop:=
 ev prog (binM .lss 3 (.tmp 11) (.const (.int .i64 8)) x6 (.int .i64 8)) w fun t12 w=>
 cndS t12 (
 ev prog (Instr.indexAt 39 x5 x6) w fun t17 w=>
 stS prog 30 t17 (.int .u64 ((0:Nat):Int)) w fun w=>
 ev prog (binM .add 3 (.tmp 13) (.const (.int .i64 1)) x6 (.int .i64 1)) w fun t14 w=>
 E1 t14 w) (
 f91_k1 K x3 x5 w)
theorem f91_l1_rule (x3 x5 x6:Value) (K:K1) (w:World) (I:VP1) (μ:Value→World→Nat) (h0:I x6 w)
  (hr:∀(x6:Value) (w:World),I x6 w→∀E1:VP1,(∀(y6:Value) (w':World),I y6 w'→μ y6 w'<μ x6 w→E1 y6 w')→f91_l1_t x3 x5 x6 K E1 w):f91_l1 K x3 x5 x6 w:=
 ⟨I,μ,h0,fun σ w hI E hE=>cast (by kernel_rfl) (hr (σ 6) w hI E hE)⟩
def f91_k2_t (x3 x5:Value) (K:K1) (w:World):Prop:=
 ldS prog 36 x3 w fun t35 w=>
 callS prog 45 (pA #[t35]) w fun t36 w=>
 ev prog (Instr.indexAt 39 x5 (.int .i64 0)) w fun t37 w=>
 stS prog 30 t37 t36 w fun w=>
 K x5 w
theorem f91_k2_eq (K:K1) (x3 x5:Value) (w:World):f91_k2 K x3 x5 w=f91_k2_t x3 x5 K w:=cutE fun σ=>by kernel_rfl
def f91_l2_t (x3 x5 x7:Value) (K:K1) (E1:VP1) (w:World):Prop:=
 ev prog (Instr.fieldAt 36 x3 0) w fun t19 w=>
 ldS prog 3 t19 w fun t20 w=>
 callS prog 114 (pA #[t20]) w fun t21 w=>
 ev prog (binM .lss 3 (.tmp 18) (.tmp 21) x7 t21) w fun t22 w=>
 cndS t22 (
 rd prog (Instr.fieldAt 36 x3 0) w.drew fun t26=>
 ldR prog 3 t26 w.drew fun t27=>
 rd prog (Instr.fieldAt 36 x3 2) w.drew fun t30=>
 ldR prog 34 t30 w.drew fun t31=>
 callS prog 116 (pA #[t27,x7]) w.drew fun t29 w=>
 (ag prog (Instr.fieldAt 36 x3 2) w t30)∧
 (ldG prog 34 t30 w t31)∧
 callS prog 115 (pA #[t31,(.int .u8 ((0:Nat):Int)),(.int .u32 ((176:Nat):Int))]) w fun t32 w=>
 rd prog (Instr.indexAt 39 x5 t29) w fun t33=>
 stS prog 30 t33 t32 w fun w=>
 ev prog (binM .add 3 (.tmp 23) (.const (.int .i64 1)) x7 (.int .i64 1)) w fun t24 w=>
 E1 t24 w) (
 f91_k2 K x3 x5 w)
theorem f91_l2_rule (x3 x5 x7:Value) (K:K1) (w:World) (I:VP1) (μ:Value→World→Nat) (h0:I x7 w)
  (hr:∀(x7:Value) (w:World),I x7 w→∀E1:VP1,(∀(y7:Value) (w':World),I y7 w'→μ y7 w'<μ x7 w→E1 y7 w')→f91_l2_t x3 x5 x7 K E1 w):f91_l2 K x3 x5 x7 w:=
 ⟨I,μ,h0,fun σ w hI E hE=>cast (by kernel_rfl) (hr (σ 7) w hI E hE)⟩
def f91_t (x0 x1:Value) (K:K1) (w:World):Prop:=
 ev prog (Instr.box 36 x1) w fun t3 w=>
 bltS prog .append #[39,39] 39 #[false,false] (pA #[(.slice none 0 0),x0]) w fun t10 w=>
 f91_l1 K t3 t10 (.int .i64 1) w
theorem f91_call (x0 x1:Value) (K:K1) (w:World) (h:f91_t x0 x1 K w):callS prog 91 #[x0,x1] w K:=
 call_of_txt (args:= [x0,x1]) mixed Tryz.func91 f91_u.2 (by kernel_rfl) (cast (by kernel_rfl) h)
noncomputable def f113_u:Code×Dec:=((Tryz.f113.body).getD .skip,(.s .o (.s .o (.x 64 (.s .o (.b (.l [6,7] 3 268435440 .o))) .o))))
abbrev f113_e (K:K1):KF:=endK prog Tryz.f113.results.toList K
def f113_k1_o (K:K1):KF:=fun fr w=>∀σ,cP (pr (pr (pr f113_u))) (f113_e K) (f113_e K) nX (mixF 64 σ 0 fr) w
def f113_k1 (K:K1) (x6:Value) (w:World):Prop:=f113_k1_o K (fz 29 0 [(6,x6)]) w
def f113_l1 (K:K1) (x0 x1 x6 x7:Value) (w:World):Prop:=loopT [6,7] 3 (fun E=>cP (pl (pl (pr (pl (pr (pr f113_u)))))) E (f113_e K) (exB 0 (f113_k1_o K) nX)) (fz 29 0 [(0,x0),(1,x1),(6,x6),(7,x7)]) w
def f113_k1_t (x6:Value) (K:K1) (w:World):Prop:=
 K (.tuple #[x6,(.bool true)]) w
theorem f113_k1_eq (K:K1) (x6:Value) (w:World):f113_k1 K x6 w=f113_k1_t x6 K w:=cutE fun σ=>by kernel_rfl
def f113_l1_t (x0 x1 x6 x7:Value) (K:K1) (E1:VP2) (w:World):Prop:=
 callS prog 114 (pA #[x1]) w fun t10 w=>
 ev prog (binM .lss 3 (.tmp 8) (.tmp 10) x7 t10) w fun t11 w=>
 cndS t11 (
 callS prog 123 (pA #[x0,x1,x7,(.int .u32 ((176:Nat):Int))]) w fun t17 w=>
 ev prog (Op.unary .not t17) w fun t18 w=>
 cndS t18 (
 K (.tuple #[(.int .u16 ((0:Nat):Int)),(.bool false)]) w) (
 callS prog 116 (pA #[x1,x7]) w fun t23 w=>
 ev prog (Instr.indexAt 39 x0 t23) w fun t24 w=>
 ldS prog 30 t24 w fun t25 w=>
 ev prog (convert 30 34 t25) w fun t26 w=>
 bltS prog .max #[34,34] 34 #[false,false] #[x6,t26] w fun t27 w=>
 ev prog (binM .add 3 (.tmp 12) (.const (.int .i64 1)) x7 (.int .i64 1)) w fun t13 w=>
 E1 t27 t13 w)) (
 f113_k1 K x6 w)
theorem f113_l1_rule (x0 x1 x6 x7:Value) (K:K1) (w:World) (I:VP2) (μ:Value→Value→World→Nat) (h0:I x6 x7 w)
  (hr:∀(x6 x7:Value) (w:World),I x6 x7 w→∀E1:VP2,(∀(y6 y7:Value) (w':World),I y6 y7 w'→μ y6 y7 w'<μ x6 x7 w→E1 y6 y7 w')→f113_l1_t x0 x1 x6 x7 K E1 w):f113_l1 K x0 x1 x6 x7 w:=
 ⟨I,μ,h0,fun σ w hI E hE=>cast (by kernel_rfl) (hr (σ 6) (σ 7) w hI E hE)⟩
def f113_t (x0 x1:Value) (K:K1) (w:World):Prop:=
 f113_l1 K x0 x1 (.int .u16 ((0:Nat):Int)) (.int .i64 0) w
theorem f113_call (x0 x1:Value) (K:K1) (w:World) (h:f113_t x0 x1 K w):callS prog 113 #[x0,x1] w K:=
 call_of_txt (args:= [x0,x1]) mixed Tryz.func113 f113_u.2 (by kernel_rfl) (cast (by kernel_rfl) h)
theorem applyH_val {ws:List (Nat×Nat)}:∀{f:Nat→Nat} {x v:Nat},(∀y∈ws,y.1/8=x→y.2=v)→((∃y∈ws,y.1/8=x)∨f x=v)→applyH ws f x=v:=by
 induction ws with
 |nil=>
  intro f x v _ h
  rcases h with ⟨y,hy,_⟩|h
  ·cases hy
  ·exact h
 |cons z ws ih=>
  intro f x v h1 h2
  rw [applyH_cons]
  refine ih (fun y hy=>h1 y (by simp [hy])) ?_
  by_cases hx:x=z.1/8
  ·right
   simp only [hx,if_true]
   exact h1 z (by simp) hx.symm
  ·rcases h2 with ⟨y,hy,hyx⟩|h2
   ·rcases List.mem_cons.1 hy with rfl|hy
    ·exact absurd hyx.symm hx
    ·exact .inl ⟨y,hy,hyx⟩
   ·right;simp only [hx,if_false];exact h2
def isB (c:Int) (j:Nat):Bool:=(List.range (perS c).toNat).any fun i=>offN c i==j
section
variable {l g:Nat} {c o:Int}
end
abbrev chzO:Obj:= .cells #[.nilIface,.int .i64 0,.int .i64 0,.int .i64 0,.int .u16 ((0:Nat):Int)] 69
section
variable {w w':World} {Y:Lay} {D:DS}
end
def DS.strs (D:DS) (ws:List (Nat×Nat)):DS:=D.run 0 (ws.map wrI)
theorem strs_good {D:DS} (g:Good D) {ws:List (Nat×Nat)} (h:∀x∈ws,x.1<18446744073709551616∧x.2<18446744073709551616):Good (D.strs ws):=by
 refine Good.run 0 (by omega) _ _ g (fun i hi=> ?_)
 obtain ⟨x,hx,rfl⟩:=List.mem_map.1 hi
 have:=h x hx
 exact ⟨by simp [wrI],by simp [wrI],this.1,this.2⟩
theorem strs_exe (D:DS) (ws:List (Nat×Nat)):(D.strs ws).exe≤D.exe+ws.length:=by
 have:=run_exe 0 (ws.map wrI) D
 rw [List.length_map] at this;exact this
theorem strs_on {D:DS} (h:On D) {ws:List (Nat×Nat)} (hv:∀x∈ws,x.1%8=0∧x.1<D.n*64):On (D.strs ws)∧(D.strs ws).cur=applyH ws D.cur:=On.runW ws D h hv
section
variable {w w':World} {Y:Lay} {D:DS}
theorem bit0 (i:Nat):bitB 0 i=false:=by simp [bitB]
end
section
variable {w w':World} {Y Y':Lay} {D D':DS}
theorem Lv.cx {w0:World} {l:Nat} {c:Int} (h:Lv w0 w Y D) (hG:Glob w0) (on:D.off=false) (hl:l+32≤D.n) (c0:0≤c) (c5:c<5):Cx w Y D l c:=⟨h.dv,h.gd,hG.ext h.ex,on,hl,c0,c5⟩
theorem wr_get {ws:List (Nat×Nat)} {j:Nat} (h:j<ws.length):ws[j]? =some ws[j]:=List.getElem?_eq_getElem h
theorem wr_cells {v:Value} {ws:List (Nat×Nat)} (s:SlO w 80 2 v ws.length (wrL ws)) {j:Nat} (h:j<ws.length):∃b o cap,v= .slice (some ⟨b,o,none⟩) ws.length cap∧w.cell? ⟨b,o+j*2,none⟩=some (.int .u64 (ws[j].1:Int))∧w.cell? ⟨b,o+j*2+1,none⟩=some (.int .u64 (ws[j].2:Int)):=by
 obtain ⟨b,o,cap,rfl,_⟩:=s.isS (by omega)
 have hg:=wrL_get ws j ws[j] (wr_get h)
 refine ⟨b,o,cap,rfl,s.cell rfl hg.1,?_⟩
 have:=s.cell rfl hg.2
 rw [←Nat.add_assoc] at this;exact this
theorem one_get {x u:Value} {j:Nat} (h: [x][j]? =some u):j=0∧u=x:=by
 rcases j with _|j
 ·simp at h;exact ⟨rfl,h.symm⟩
 ·simp at h
end
section
variable {w w':World} {Y Y':Lay} {D D':DS}
variable {c o:Int} {g:Nat}
end
abbrev pE (p:Nat) (e:Int):Value:= .tuple #[.int .u64 (p:Int),.int .i64 e]
def sndB (D:DS) (l:Nat) (c:Int) (i:Nat):Prop:=isS (wd D l (offN c i))=true∧goodB (bG (wd D l (offN c i))) (bK (wd D l (offN c i))) (bS (wd D l (offN c i)))=true∧bitB (wd D l 1) i= !decide (bS (wd D l (offN c i))=176)
def pOff (l:Nat) (c:Int) (i:Nat):Nat:=l*64+offN c i*8+8
section
variable {w w':World} {Y:Lay} {D:DS} {l:Nat} {c o:Int} {g:Nat}
theorem bq1:(true==false)=false:=rfl
theorem bq2:(false==true)=false:=rfl
theorem bq3:(true==true)=true:=rfl
theorem bq4:(false==false)=true:=rfl
theorem c_MakeOk (off g k:Nat) (w:World) (K:K1) (h0:off≠0) (h8:off%8=0) (ho:off≤34359738360) (hg:g≠0) (hg':g<65536) (hk:k≠0) (hk':k≤127):callS prog 67 #[.int .u64 (off:Int),.int .u16 (g:Int),.int .u8 (k:Int)] w K=K (.tuple #[.int .u64 ((ptrN off g k:Nat):Int),.int .i64 0]) w:=by
 rw [c_Make off g k w K (by omega) hg' (by omega)]
 have e:ptrOk off g k=true:=by simp [ptrOk,h0,h8,hg,hk,hk']
 rw [if_pos ⟨e,ho⟩,if_pos e,if_pos ho]
theorem good177 {g k:Nat} (h:goodB g k 177=true):g≠0∧k≠0∧k≤127:=by simpa [goodB,and_assoc] using h
theorem good176 {g k:Nat} (h:goodB g k 176=true):g≠0∧k=0:=by simpa [goodB] using h
theorem goodS {g k s:Nat} (h:goodB g k s=true):s=176∨s=177∨s=178:=by
 unfold goodB at h
 split at h
 ·exact .inl (by assumption)
 ·split at h
  ·exact .inr (.inl (by assumption))
  ·split at h
   ·exact .inr (.inr (by assumption))
   ·cases h
theorem k_Pointer (h:Cx w Y D l c) (he:D.err 0=0) (o:Int) (g:Nat) (i:Int) (k:Nat) (hk:k<256) (K:K1)
  (hR:¬(0≤i∧i<perS c)→∀w',Ext w w'→K (pE 0 2) w')
  (hF:∀j:Nat,i=(j:Int)→(j:Int)<perS c→¬sndB D l c j→∀w',Ext w w'→K (pE 0 11) w')
  (hS:∀j:Nat,i=(j:Int)→(j:Int)<perS c→sndB D l c j→bS (wd D l (offN c j))=178→∀w',Ext w w'→K (pE 0 12) w')
  (hT:∀j:Nat,i=(j:Int)→(j:Int)<perS c→sndB D l c j→bS (wd D l (offN c j))=177→∀w',Ext w w'→K (pE (ptrN (pOff l c j) (bG (wd D l (offN c j))) (bK (wd D l (offN c j)))) 0) w')
  (hA:∀j:Nat,i=(j:Int)→(j:Int)<perS c→sndB D l c j→bS (wd D l (offN c j))=176→(k=0∨127<k)→∀w',Ext w w'→K (pE 0 1) w')
  (hN:∀j:Nat,i=(j:Int)→(j:Int)<perS c→sndB D l c j→bS (wd D l (offN c j))=176→k≠0→k≤127→∀w',Ext w w'→K (pE (ptrN (pOff l c j) (bG (wd D l (offN c j))) k) 0) w'):
  callS prog 27 #[chV Y l c o g,.int .i64 i,.int .u8 (k:Int)] w K:=by
 have her:∀(w1:World) (K:K1),Ext w w1→callS prog 19 #[.pointer (some ⟨Y.tb 0,0,none⟩)] w1 K=K (.int .i64 0) w1:=fun w1 K e=>by rw [c_Err (h.dv.ext e) 0 (by omega) K,he]
 have hat:=h.at_ o g
 have hhl:=h.hl
 have hhn:=h.n
 have hhas:=fun (w1:World) (K:K1) (e:Ext w w1) (hk:∀w',Ext w1 w'→K (.bool (decide (0≤i)&&decide (i<perS c))) w')=>k_has (h.ext e) o g i K hk
 by_cases hi:0≤i∧i<perS c
 ·obtain ⟨j,rfl⟩:∃j:Nat,i=(j:Int):=⟨i.toNat,by omega⟩
  have eb:(decide (0≤(j:Int))&&decide ((j:Int)<perS c))=true:=by simp [hi]
  rw [eb] at hhas
  have hF:=hF j rfl hi.2;have hS:=hS j rfl hi.2;have hT:=hT j rfl hi.2;have hA:=hA j rfl hi.2;have hN:=hN j rfl hi.2
  have hrd:=fun (w1:World) (K:K1) (e:Ext w w1) hk=>k_read (h.ext e) o g j hi.2 K hk
  have bd:=offN_bd h.c0 h.c5 hi.2
  have hat2:∀(w1:World) (K:K1),Ext w w1→callS prog 68 #[chV Y l c o g,.int .i64 (j:Int)] w1 K=K (.int .u64 ((l*64+offN c j*8:Nat):Int)) (w1.alloc (chO Y l c o g)):=fun w1 K e=>hat w1 j K e hi.2
  have hg16:=bG_lt (wd D l (offN c j))
  have hk8:=bK_lt (wd D l (offN c j))
  unfold sndB pOff at*
  clear hat
  generalize hx:wd D l (offN c j)=x at*
  generalize hy:wd D l 1=y at*
  generalize offN c j=q at*
  have e00:Ext w (w.alloc (chO Y l c o g)):=Ext.alloc_self _ _
  refine f27_call _ _ _ _ _ ?_
  unfold f27_t
  simp (disch:=first|omega|simp only [RO]|(simp only [RZ]<;>omega)|fail) only [↓RBp,↓RA,↓reduceIte,Nat.reduceAdd,Nat.reduceMul,Nat.reduceEqDiff,RB,RX,RA2]
  refine hhas _ _ (by repeat (first|(with_reducible first|refine eB ?_ _|assumption|exact eR _|refine eA ?_ _|refine eD ?_|refine eT ?_ (by assumption))|exact eR _)) (fun w1 he1=> ?_)
  have e1:Ext w w1:=e00.trans he1
  have ob9:=chCells he1;have c0:=ob9.1;have c1:=ob9.2.1;have c2:=ob9.2.2.1;have c3:=ob9.2.2.2.1;have c4:=ob9.2.2.2.2
  simp (disch:=first|omega|simp only [RO]|(simp only [RZ]<;>omega)|(with_reducible (repeat (first|assumption|exact Ext.refl _|refine Ext.alloc ?_ _|refine Ext.drew ?_|refine Ext.trans ?_ (by assumption))))|fail) only [↓RBp,↓RA,↓reduceIte,Nat.reduceAdd,Nat.reduceMul,Nat.reduceEqDiff,RB,RX,RA2,c0,c1,c2,c3,c4,her]
  refine hrd _ _ e1 (fun w2 he2=> ?_)
  have e2:Ext w w2:=e1.trans he2
  have he12:=he1.trans he2
  have ob10:=chCells he12;have d0:=ob10.1;have d1:=ob10.2.1;have d2:=ob10.2.2.1;have d3:=ob10.2.2.2.1;have d4:=ob10.2.2.2.2
  have lt2:w.heap.size<w2.heap.size:=lt_of_cell d0
  have tail:∀(ss kk:Nat) (w3:World),kk≠0→kk≤127→bG x≠0→Ext (w2.alloc (.cells #[.int .u16 (bG x:Int),.int .u8 (bK x:Int),.int .u8 (ss:Int)] 137)) w3→(∀w',Ext w w'→K (pE (ptrN (l*64+q*8+8) (bG x) kk) 0) w')→f27_k1 K (.int .i64 (j:Int)) (.int .u8 (kk:Int)) (.pointer (some ⟨w.heap.size,0,none⟩)) (.pointer (some ⟨w2.heap.size,0,none⟩)) w3:=by
   intro ss kk w3 hk0 hk1 hg0 e3 hK
   have e23:Ext w2 w3:=Ext.trans (by repeat (first|(with_reducible first|refine eB ?_ _|assumption|exact eR _|refine eA ?_ _|refine eD ?_|refine eT ?_ (by assumption))|exact eR _)) e3
   have e03:=e2.trans e23
   have he13:=he12.trans e23
   have ob11:=chCells he13;have a0:=ob11.1;have a1:=ob11.2.1;have a2:=ob11.2.2.1;have a3:=ob11.2.2.2.1;have a4:=ob11.2.2.2.2
   have z0:w3.cell? ⟨w2.heap.size,0,none⟩=some (.int .u16 (bG x:Int)):=by
    rw [e3.cell _ 0 (by simp only [RZ];omega),cell_new _ _ _ _ _ rfl];rfl
   have lt3:w2.heap.size<w3.heap.size:=lt_of_cell z0
   have hmk:∀(w4:World) (K:K1),callS prog 67 #[.int .u64 ((l*64+q*8+8:Nat):Int),.int .u16 (bG x:Int),.int .u8 (kk:Int)] w4 K=K (.tuple #[.int .u64 ((ptrN (l*64+q*8+8) (bG x) kk:Nat):Int),.int .i64 0]) w4:=fun w4 K=>c_MakeOk _ _ _ w4 K (by omega) (by omega) (by omega) hg0 hg16 hk0 hk1
   rw [f27_k1_eq]
   unfold f27_k1_t
   (repeat' (first|(with_reducible first|refine brS_mk (fun _=> ?_) (fun _=> ?_)|refine And.intro ?_ ?_)|(simp (disch:=first|omega|simp only [RO]|(simp only [RZ]<;>omega)|(with_reducible (repeat (first|assumption|exact Ext.refl _|refine Ext.alloc ?_ _|refine Ext.drew ?_|refine Ext.trans ?_ (by assumption))))|fail) only [↓RBp,↓RA,↓reduceIte,Nat.reduceAdd,Nat.reduceMul,Nat.reduceEqDiff,RB,RX,RA2,a0,a1,a2,a3,a4,z0,hat2,hmk])))
   exact hK _ (by repeat (first|(with_reducible first|refine eB ?_ _|assumption|exact eR _|refine eA ?_ _|refine eD ?_|refine eT ?_ (by assumption))|exact eR _))
  by_cases t1:isS x=true
  ·by_cases t2:goodB (bG x) (bK x) (bS x)=true
   ·rcases goodS t2 with s|s|s
    ·have t2':=t2
     rw [s] at t2'
     by_cases t3:bitB y j=true
     ·simp (disch:=first|omega|simp only [RO]|(simp only [RZ]<;>omega)|(with_reducible (repeat (first|assumption|exact Ext.refl _|refine Ext.alloc ?_ _|refine Ext.drew ?_|refine Ext.trans ?_ (by assumption))))|fail) only [↓RBp,↓RA,↓reduceIte,Nat.reduceAdd,Nat.reduceMul,Nat.reduceEqDiff,RB,RX,RA2,d0,d1,d2,d3,d4,her,t1,t2',t3,s,c_good,bq1,bq2,bq3,bq4]
      exact hF (fun hs=>by have:=hs.2.2;simp [t3,s] at this) _ (by repeat (first|(with_reducible first|refine eB ?_ _|assumption|exact eR _|refine eA ?_ _|refine eD ?_|refine eT ?_ (by assumption))|exact eR _))
     ·have t3:bitB y j=false:=by simpa using t3
      have hok:isS x=true∧goodB (bG x) (bK x) (bS x)=true∧bitB y j= !decide (bS x=176):=⟨t1,t2,by simp [t3,s]⟩
      by_cases k0:k=0
      ·subst k0
       simp (disch:=first|omega|simp only [RO]|(simp only [RZ]<;>omega)|(with_reducible (repeat (first|assumption|exact Ext.refl _|refine Ext.alloc ?_ _|refine Ext.drew ?_|refine Ext.trans ?_ (by assumption))))|fail) only [↓RBp,↓RA,↓reduceIte,Nat.reduceAdd,Nat.reduceMul,Nat.reduceEqDiff,RB,RX,RA2,d0,d1,d2,d3,d4,her,t1,t2',t3,s,c_good,bq1,bq2,bq3,bq4]
       exact hA hok s (.inl rfl) _ (by repeat (first|(with_reducible first|refine eB ?_ _|assumption|exact eR _|refine eA ?_ _|refine eD ?_|refine eT ?_ (by assumption))|exact eR _))
      ·by_cases k1:k≤127
       ·simp (disch:=first|omega|simp only [RO]|(simp only [RZ]<;>omega)|(with_reducible (repeat (first|assumption|exact Ext.refl _|refine Ext.alloc ?_ _|refine Ext.drew ?_|refine Ext.trans ?_ (by assumption))))|fail) only [↓RBp,↓RA,↓reduceIte,Nat.reduceAdd,Nat.reduceMul,Nat.reduceEqDiff,RB,RX,RA2,d0,d1,d2,d3,d4,her,t1,t2',t3,s,c_good,bq1,bq2,bq3,bq4]
        exact tail 176 k _ k0 k1 (good176 t2').1 (by repeat (first|(with_reducible first|refine eB ?_ _|assumption|exact eR _|refine eA ?_ _|refine eD ?_|refine eT ?_ (by assumption))|exact eR _)) (hN hok s k0 k1)
       ·simp (disch:=first|omega|simp only [RO]|(simp only [RZ]<;>omega)|(with_reducible (repeat (first|assumption|exact Ext.refl _|refine Ext.alloc ?_ _|refine Ext.drew ?_|refine Ext.trans ?_ (by assumption))))|fail) only [↓RBp,↓RA,↓reduceIte,Nat.reduceAdd,Nat.reduceMul,Nat.reduceEqDiff,RB,RX,RA2,d0,d1,d2,d3,d4,her,t1,t2',t3,s,c_good,bq1,bq2,bq3,bq4]
        exact hA hok s (.inr (by omega)) _ (by repeat (first|(with_reducible first|refine eB ?_ _|assumption|exact eR _|refine eA ?_ _|refine eD ?_|refine eT ?_ (by assumption))|exact eR _))
    ·have t2':=t2
     rw [s] at t2'
     by_cases t3:bitB y j=true
     ·have hok:isS x=true∧goodB (bG x) (bK x) (bS x)=true∧bitB y j= !decide (bS x=176):=⟨t1,t2,by simp [t3,s]⟩
      have g7:=good177 t2'
      simp (disch:=first|omega|simp only [RO]|(simp only [RZ]<;>omega)|(with_reducible (repeat (first|assumption|exact Ext.refl _|refine Ext.alloc ?_ _|refine Ext.drew ?_|refine Ext.trans ?_ (by assumption))))|fail) only [↓RBp,↓RA,↓reduceIte,Nat.reduceAdd,Nat.reduceMul,Nat.reduceEqDiff,RB,RX,RA2,d0,d1,d2,d3,d4,her,t1,t2',t3,s,c_good,bq1,bq2,bq3,bq4]
      exact tail 177 (bK x) _ g7.2.1 g7.2.2 g7.1 (by repeat (first|(with_reducible first|refine eB ?_ _|assumption|exact eR _|refine eA ?_ _|refine eD ?_|refine eT ?_ (by assumption))|exact eR _)) (hT hok s)
     ·have t3:bitB y j=false:=by simpa using t3
      simp (disch:=first|omega|simp only [RO]|(simp only [RZ]<;>omega)|(with_reducible (repeat (first|assumption|exact Ext.refl _|refine Ext.alloc ?_ _|refine Ext.drew ?_|refine Ext.trans ?_ (by assumption))))|fail) only [↓RBp,↓RA,↓reduceIte,Nat.reduceAdd,Nat.reduceMul,Nat.reduceEqDiff,RB,RX,RA2,d0,d1,d2,d3,d4,her,t1,t2',t3,s,c_good,bq1,bq2,bq3,bq4]
      exact hF (fun hs=>by have:=hs.2.2;simp [t3,s] at this) _ (by repeat (first|(with_reducible first|refine eB ?_ _|assumption|exact eR _|refine eA ?_ _|refine eD ?_|refine eT ?_ (by assumption))|exact eR _))
    ·have t2':=t2
     rw [s] at t2'
     by_cases t3:bitB y j=true
     ·have hok:isS x=true∧goodB (bG x) (bK x) (bS x)=true∧bitB y j= !decide (bS x=176):=⟨t1,t2,by simp [t3,s]⟩
      simp (disch:=first|omega|simp only [RO]|(simp only [RZ]<;>omega)|(with_reducible (repeat (first|assumption|exact Ext.refl _|refine Ext.alloc ?_ _|refine Ext.drew ?_|refine Ext.trans ?_ (by assumption))))|fail) only [↓RBp,↓RA,↓reduceIte,Nat.reduceAdd,Nat.reduceMul,Nat.reduceEqDiff,RB,RX,RA2,d0,d1,d2,d3,d4,her,t1,t2',t3,s,c_good,bq1,bq2,bq3,bq4]
      exact hS hok s _ (by repeat (first|(with_reducible first|refine eB ?_ _|assumption|exact eR _|refine eA ?_ _|refine eD ?_|refine eT ?_ (by assumption))|exact eR _))
     ·have t3:bitB y j=false:=by simpa using t3
      simp (disch:=first|omega|simp only [RO]|(simp only [RZ]<;>omega)|(with_reducible (repeat (first|assumption|exact Ext.refl _|refine Ext.alloc ?_ _|refine Ext.drew ?_|refine Ext.trans ?_ (by assumption))))|fail) only [↓RBp,↓RA,↓reduceIte,Nat.reduceAdd,Nat.reduceMul,Nat.reduceEqDiff,RB,RX,RA2,d0,d1,d2,d3,d4,her,t1,t2',t3,s,c_good,bq1,bq2,bq3,bq4]
      exact hF (fun hs=>by have:=hs.2.2;simp [t3,s] at this) _ (by repeat (first|(with_reducible first|refine eB ?_ _|assumption|exact eR _|refine eA ?_ _|refine eD ?_|refine eT ?_ (by assumption))|exact eR _))
   ·have t2':goodB (bG x) (bK x) (bS x)=false:=by simpa using t2
    simp (disch:=first|omega|simp only [RO]|(simp only [RZ]<;>omega)|(with_reducible (repeat (first|assumption|exact Ext.refl _|refine Ext.alloc ?_ _|refine Ext.drew ?_|refine Ext.trans ?_ (by assumption))))|fail) only [↓RBp,↓RA,↓reduceIte,Nat.reduceAdd,Nat.reduceMul,Nat.reduceEqDiff,RB,RX,RA2,d0,d1,d2,d3,d4,her,t1,t2',c_good]
    exact hF (fun hs=>t2 hs.2.1) _ (by repeat (first|(with_reducible first|refine eB ?_ _|assumption|exact eR _|refine eA ?_ _|refine eD ?_|refine eT ?_ (by assumption))|exact eR _))
  ·have t1':isS x=false:=by simpa using t1
   simp (disch:=first|omega|simp only [RO]|(simp only [RZ]<;>omega)|(with_reducible (repeat (first|assumption|exact Ext.refl _|refine Ext.alloc ?_ _|refine Ext.drew ?_|refine Ext.trans ?_ (by assumption))))|fail) only [↓RBp,↓RA,↓reduceIte,Nat.reduceAdd,Nat.reduceMul,Nat.reduceEqDiff,RB,RX,RA2,d0,d1,d2,d3,d4,her,t1']
   exact hF (fun hs=>t1 hs.1) _ (by repeat (first|(with_reducible first|refine eB ?_ _|assumption|exact eR _|refine eA ?_ _|refine eD ?_|refine eT ?_ (by assumption))|exact eR _))
 ·have eb:(decide (0≤i)&&decide (i<perS c))=false:=by simp;omega
  rw [eb] at hhas
  refine f27_call _ _ _ _ _ ?_
  unfold f27_t
  simp (disch:=first|omega|simp only [RO]|(simp only [RZ]<;>omega)|fail) only [↓RBp,↓RA,↓reduceIte,Nat.reduceAdd,Nat.reduceMul,Nat.reduceEqDiff,RB,RX,RA2]
  refine hhas _ _ (by repeat (first|(with_reducible first|refine eB ?_ _|assumption|exact eR _|refine eA ?_ _|refine eD ?_|refine eT ?_ (by assumption))|exact eR _)) (fun w1 he1=> ?_)
  have e1:Ext w w1:=(Ext.alloc_self _ _).trans he1
  simp (disch:=first|omega|simp only [RO]|(simp only [RZ]<;>omega)|fail) only [↓RBp,↓RA,↓reduceIte,Nat.reduceAdd,Nat.reduceMul,Nat.reduceEqDiff,RB,RX,RA2]
  exact hR hi _ e1
end
section
variable {w w':World} {Y:Lay} {D:DS} {l:Nat} {c o:Int} {g:Nat}
theorem offN_eq {c:Int} (h0:0≤c) (h5:c<5):∃z n:Nat,wordsS c=(z:Int)∧perS c=(n:Int)∧n*(z+1)≤248∧3≤z∧z≤60∧∀k:Nat,offN c k=8+k*(z+1):=by
 have hw:=wordsS_in h0 h5
 have hp:=perS_in h0 h5
 obtain ⟨z,hz⟩:∃z:Nat,wordsS c=(z:Int):=⟨(wordsS c).toNat,by omega⟩
 have e:(248:Int)/((z:Int)+1)=((248/(z+1):Nat):Int):=by
  rw [Int.natCast_ediv];rfl
 refine ⟨z,248/(z+1),hz,by rw [hp.1,hz,e],Nat.div_mul_le_self _ _,by omega,by omega,fun k=> ?_⟩
 unfold offN offS
 rw [hz]
 have:(8+(k:Int)*((z:Int)+1))=((8+k*(z+1):Nat):Int):=by simp
 rw [this,Int.toNat_natCast]
theorem k_Find (hG:Glob w) (h0:0≤c) (h5:c<5) (word:Nat) (hw:word<256) (K:K1)
  (hno:(∀k:Nat,(k:Int)<perS c→word≠offN c k+1)→K (.tuple #[.int .i64 0,.bool false]) w)
  (hyes:∀k:Nat,(k:Int)<perS c→word=offN c k+1→K (.tuple #[.int .i64 (k:Int),.bool true]) w):
  callS prog 109 #[.int .i64 c,.int .i64 (word:Int)] w K:=by
 obtain ⟨z,n,hz,hn,hzn,z3,z60,hof⟩:=offN_eq h0 h5
 have hwp:=(wordsS_in h0 h5).1
 rw [hz] at hwp
 have hpc:∀K:K1,callS prog 59 #[.int .i64 c] w K=K (.int .i64 (n:Int)) w:=fun K=>by rw [c_PerChunk c w K hG,hn]
 have hn0:0<n:=by have:=perS_in h0 h5;omega
 refine f109_call _ _ _ _ ?_
 unfold f109_t
 rw [hn] at hno hyes
 by_cases h8:word≤8
 ·simp (disch:=first|omega|simp only [RO]|(simp only [RZ]<;>omega)|fail) only [↓RBp,↓RA,↓reduceIte,Nat.reduceAdd,Nat.reduceMul,Nat.reduceEqDiff,RB,RX,RA2,hpc]
  exact hno (fun k hk=>by rw [hof];omega)
 ·obtain ⟨a,rfl⟩:∃a,word=a+9:=⟨word-9,by omega⟩
  have ea:(((a+9:Nat):Int)-8-1)=(a:Int):=by omega
  have eb:((z:Int)+1)=((z+1:Nat):Int):=by omega
  have ec:((a:Nat):Int)%((z+1:Nat):Int)=((a%(z+1):Nat):Int):=by omega
  have ed:((a:Nat):Int)/((z+1:Nat):Int)=((a/(z+1):Nat):Int):=by omega
  have dm:=Nat.div_add_mod a (z+1)
  have key:∀k,a+9=offN c k+1↔a=k*(z+1):=fun k=>by rw [hof];omega
  by_cases hm:a%(z+1)=0
  ·have hq:a=a/(z+1)*(z+1):=by rw [hm,Nat.mul_comm] at dm;omega
   by_cases hl:a/(z+1)<n
   ·simp (disch:=first|omega|simp only [RO]|(simp only [RZ]<;>omega)|fail) only [↓RBp,↓RA,↓reduceIte,Nat.reduceAdd,Nat.reduceMul,Nat.reduceEqDiff,RB,RX,RA2,hpc,hG.pay,←hwp,ea,eb,ec,ed,hm]
    exact hyes _ (by omega) ((key _).2 hq)
   ·simp (disch:=first|omega|simp only [RO]|(simp only [RZ]<;>omega)|fail) only [↓RBp,↓RA,↓reduceIte,Nat.reduceAdd,Nat.reduceMul,Nat.reduceEqDiff,RB,RX,RA2,hpc,hG.pay,←hwp,ea,eb,ec,ed,hm]
    refine hno (fun k hk he=> ?_)
    have h1:=(key k).1 he
    apply hl
    rw [h1,Nat.mul_div_cancel _ (by omega)];omega
  ·simp (disch:=first|omega|simp only [RO]|(simp only [RZ]<;>omega)|fail) only [↓RBp,↓RA,↓reduceIte,Nat.reduceAdd,Nat.reduceMul,Nat.reduceEqDiff,RB,RX,RA2,hpc,hG.pay,←hwp,ea,eb,ec,ed,hm]
   refine hno (fun k hk he=> ?_)
   have h1:=(key k).1 he
   apply hm
   rw [h1];exact Nat.mul_mod_left _ _
theorem offN_inj {c:Int} (h0:0≤c) (h5:c<5) {j k:Nat} (h:offN c j=offN c k):j=k:=by
 obtain ⟨z,n,hz,hn,hzn,z3,z60,hof⟩:=offN_eq h0 h5
 rw [hof,hof] at h
 have:j*(z+1)=k*(z+1):=by omega
 exact Nat.eq_of_mul_eq_mul_right (by omega) this
theorem k_find (hG:Glob w) (h0:0≤c) (h5:c<5) (hl:l≤4096) (Y:Lay) (o:Int) (g off:Nat) (h8:off%8=0) (hof:off<18446744073709551616) (K:K1)
  (hno:(∀k:Nat,(k:Int)<perS c→off≠pOff l c k)→∀w',Ext w w'→K (.tuple #[.int .i64 0,.bool false]) w')
  (hyes:∀k:Nat,(k:Int)<perS c→off=pOff l c k→∀w',Ext w w'→K (.tuple #[.int .i64 (k:Int),.bool true]) w'):
  callS prog 72 #[chV Y l c o g,.int .u64 (off:Int)] w K:=by
 have bd:∀k:Nat,(k:Int)<perS c→8≤offN c k∧offN c k<255:=fun k hk=>by
  have h1:=offN_bd h0 h5 hk
  have h2:=offS_bd h0 h5 (show 0≤(k:Int) by omega) hk
  have h3:=wordsS_in h0 h5
  omega
 unfold pOff at*
 refine f72_call _ _ _ _ ?_
 unfold f72_t
 by_cases h1:off<l*64
 ·simp (disch:=first|omega|simp only [RO]|(simp only [RZ]<;>omega)|fail) only [↓RBp,↓RA,↓reduceIte,Nat.reduceAdd,Nat.reduceMul,Nat.reduceEqDiff,RB,RX,RA2,c_line,Int.toNat_natCast]
  exact hno (fun k hk=>by have:=bd k hk;omega) _ (by repeat (first|(with_reducible first|refine eB ?_ _|assumption|exact eR _|refine eA ?_ _|refine eD ?_|refine eT ?_ (by assumption))|exact eR _))
 ·obtain ⟨q,rfl⟩:∃q,off=l*64+q*8:=⟨(off-l*64)/8,by omega⟩
  have e1:l*64+q*8-l*64=q*8:=by omega
  have e2:q*8/8=q:=by omega
  by_cases h2:256≤q
  ·have h3:2048≤q*8:=by omega
   simp (disch:=first|omega|simp only [RO]|(simp only [RZ]<;>omega)|fail) only [↓RBp,↓RA,↓reduceIte,Nat.reduceAdd,Nat.reduceMul,Nat.reduceEqDiff,RB,RX,RA2,c_line,Int.toNat_natCast,e1,e2]
   exact hno (fun k hk=>by have:=bd k hk;omega) _ (by repeat (first|(with_reducible first|refine eB ?_ _|assumption|exact eR _|refine eA ?_ _|refine eD ?_|refine eT ?_ (by assumption))|exact eR _))
  ·have h3:¬2048≤q*8:=by omega
   simp (disch:=first|omega|simp only [RO]|(simp only [RZ]<;>omega)|fail) only [↓RBp,↓RA,↓reduceIte,Nat.reduceAdd,Nat.reduceMul,Nat.reduceEqDiff,RB,RX,RA2,c_line,Int.toNat_natCast,e1,e2]
   refine k_Find (hG.ext (by repeat (first|(with_reducible first|refine eB ?_ _|assumption|exact eR _|refine eA ?_ _|refine eD ?_|refine eT ?_ (by assumption))|exact eR _))) h0 h5 q (by omega) _ (fun hn=> ?_) (fun k hk he=> ?_)
   ·simp (disch:=first|omega|simp only [RO]|(simp only [RZ]<;>omega)|fail) only [↓RBp,↓RA,↓reduceIte,Nat.reduceAdd,Nat.reduceMul,Nat.reduceEqDiff,RB,RX,RA2]
    exact hno (fun k hk he=>hn k hk (by omega)) _ (by repeat (first|(with_reducible first|refine eB ?_ _|assumption|exact eR _|refine eA ?_ _|refine eD ?_|refine eT ?_ (by assumption))|exact eR _))
   ·simp (disch:=first|omega|simp only [RO]|(simp only [RZ]<;>omega)|fail) only [↓RBp,↓RA,↓reduceIte,Nat.reduceAdd,Nat.reduceMul,Nat.reduceEqDiff,RB,RX,RA2]
    exact hyes k hk (by omega) _ (by repeat (first|(with_reducible first|refine eB ?_ _|assumption|exact eR _|refine eA ?_ _|refine eD ?_|refine eT ?_ (by assumption))|exact eR _))
end
section
variable {w w':World} {Y:Lay} {D:DS} {l:Nat} {c o:Int} {g:Nat}
def pO (p:Nat):Nat:=p%4294967296*8
def pG (p:Nat):Nat:=p/4294967296%65536
def pK (p:Nat):Nat:=p/281474976710656%256
theorem c_PNil (p:Nat) (w:World) (K:K1) (hp:p<18446744073709551616):callS prog 71 #[.int .u64 (p:Int)] w K=K (.bool (decide (p=0))) w:=by
 refine callS_det (by kernel_rfl) (f71_call _ _ _ ?_) K
 unfold f71_t
 simp (disch:=first|omega|simp only [RO]|(simp only [RZ]<;>omega)|fail) only [↓RBp,↓RA,↓reduceIte,Nat.reduceAdd,Nat.reduceMul,Nat.reduceEqDiff,RB,RX,RA2]
theorem c_POff (p:Nat) (w:World) (K:K1) (hp:p<18446744073709551616):callS prog 73 #[.int .u64 (p:Int)] w K=K (.int .u64 ((pO p:Nat):Int)) w:=by
 refine callS_det (by kernel_rfl) (f73_call _ _ _ ?_) K
 unfold f73_t pO
 simp (disch:=first|omega|simp only [RO]|(simp only [RZ]<;>omega)|fail) only [↓RBp,↓RA,↓reduceIte,Nat.reduceAdd,Nat.reduceMul,Nat.reduceEqDiff,RB,RX,RA2]
theorem c_PGen (p:Nat) (w:World) (K:K1) (hp:p<18446744073709551616):callS prog 74 #[.int .u64 (p:Int)] w K=K (.int .u16 ((pG p:Nat):Int)) w:=by
 refine callS_det (by kernel_rfl) (f74_call _ _ _ ?_) K
 unfold f74_t pG
 simp (disch:=first|omega|simp only [RO]|(simp only [RZ]<;>omega)|fail) only [↓RBp,↓RA,↓reduceIte,Nat.reduceAdd,Nat.reduceMul,Nat.reduceEqDiff,RB,RX,RA2]
theorem c_PKind (p:Nat) (w:World) (K:K1) (hp:p<18446744073709551616):callS prog 75 #[.int .u64 (p:Int)] w K=K (.int .u8 ((pK p:Nat):Int)) w:=by
 refine callS_det (by kernel_rfl) (f75_call _ _ _ ?_) K
 unfold f75_t pK
 simp (disch:=first|omega|simp only [RO]|(simp only [RZ]<;>omega)|fail) only [↓RBp,↓RA,↓reduceIte,Nat.reduceAdd,Nat.reduceMul,Nat.reduceEqDiff,RB,RX,RA2]
abbrev iE (i e:Int):Value:= .tuple #[.int .i64 i,.int .i64 e]
def liveB (D:DS) (l:Nat) (c:Int) (k gg:Nat):Prop:=isS (wd D l (offN c k))=true∧bitB (wd D l 1) k=true∧bS (wd D l (offN c k))=177∧bG (wd D l (offN c k))=gg
theorem k_Block (h:Cx w Y D l c) (he:D.err 0=0) (o:Int) (g:Nat) (p:Nat) (hp:p<18446744073709551616) (K:K1)
  (hZ:p=0→∀w',Ext w w'→K (iE 0 1) w')
  (hR:p≠0→(72057594037927936≤p∨∀k:Nat,(k:Int)<perS c→pO p≠pOff l c k)→∀w',Ext w w'→K (iE 0 2) w')
  (hS:p≠0→p<72057594037927936→∀k:Nat,(k:Int)<perS c→pO p=pOff l c k→¬liveB D l c k (pG p)→∀w',Ext w w'→K (iE 0 12) w')
  (hW:p≠0→p<72057594037927936→∀k:Nat,(k:Int)<perS c→pO p=pOff l c k→liveB D l c k (pG p)→bK (wd D l (offN c k))≠pK p→∀w',Ext w w'→K (iE 0 13) w')
  (hY:p≠0→p<72057594037927936→∀k:Nat,(k:Int)<perS c→pO p=pOff l c k→liveB D l c k (pG p)→bK (wd D l (offN c k))=pK p→∀w',Ext w w'→K (iE (k:Int) 0) w'):
  callS prog 32 #[chV Y l c o g,.int .u64 (p:Int)] w K:=by
 have her:∀(w1:World) (K:K1),Ext w w1→callS prog 19 #[.pointer (some ⟨Y.tb 0,0,none⟩)] w1 K=K (.int .i64 0) w1:=fun w1 K e=>by rw [c_Err (h.dv.ext e) 0 (by omega) K,he]
 have hl:=h.hl;have hn:=h.n
 have ho8:pO p%8=0:=by unfold pO;omega
 have hoL:pO p<18446744073709551616:=by unfold pO;omega
 have hg16:pG p<65536:=by unfold pG;omega
 have hk8:pK p<256:=by unfold pK;omega
 refine f32_call _ _ _ _ ?_
 unfold f32_t
 by_cases p0:p=0
 ·subst p0
  simp (disch:=first|omega|simp only [RO]|(simp only [RZ]<;>omega)|fail) only [↓RBp,↓RA,↓reduceIte,Nat.reduceAdd,Nat.reduceMul,Nat.reduceEqDiff,RB,RX,RA2,c_PNil]
  exact hZ rfl _ (by repeat (first|(with_reducible first|refine eB ?_ _|assumption|exact eR _|refine eA ?_ _|refine eD ?_|refine eT ?_ (by assumption))|exact eR _))
 ·have hR:=hR p0;have hS:=hS p0;have hW:=hW p0;have hY:=hY p0
  have e0:Ext w (w.alloc (chO Y l c o g)):=Ext.alloc_self _ _
  (repeat' (first|(with_reducible first|refine brS_mk (fun _=> ?_) (fun _=> ?_)|refine And.intro ?_ ?_)|(simp (disch:=first|omega|simp only [RO]|(simp only [RZ]<;>omega)|(with_reducible (repeat (first|assumption|exact Ext.refl _|refine Ext.alloc ?_ _|refine Ext.drew ?_|refine Ext.trans ?_ (by assumption))))|fail) only [↓RBp,↓RA,↓reduceIte,Nat.reduceAdd,Nat.reduceMul,Nat.reduceEqDiff,RB,RX,RA2,c_PNil,c_POff,p0])))
  refine k_find (h.gl.ext (by repeat (first|(with_reducible first|refine eB ?_ _|assumption|exact eR _|refine eA ?_ _|refine eD ?_|refine eT ?_ (by assumption))|exact eR _))) h.c0 h.c5 (by omega) Y o g (pO p) ho8 hoL _ (fun hno w1 e1=> ?_) (fun k hk hof w1 e1=> ?_)
  ·have e01:Ext w w1:=Ext.trans (by repeat (first|(with_reducible first|refine eB ?_ _|assumption|exact eR _|refine eA ?_ _|refine eD ?_|refine eT ?_ (by assumption))|exact eR _)) e1
   simp (disch:=first|omega|simp only [RO]|(simp only [RZ]<;>omega)|fail) only [↓RBp,↓RA,↓reduceIte,Nat.reduceAdd,Nat.reduceMul,Nat.reduceEqDiff,RB,RX,RA2]
   exact hR (.inr hno) _ e01
  ·have e01:Ext w w1:=Ext.trans (by repeat (first|(with_reducible first|refine eB ?_ _|assumption|exact eR _|refine eA ?_ _|refine eD ?_|refine eT ?_ (by assumption))|exact eR _)) e1
   have ea:Ext (w.alloc (chO Y l c o g)) w1:=Ext.trans (by repeat (first|(with_reducible first|refine eB ?_ _|assumption|exact eR _|refine eA ?_ _|refine eD ?_|refine eT ?_ (by assumption))|exact eR _)) e1
   have ob12:=chCells ea;have c0:=ob12.1;have c1:=ob12.2.1;have c2:=ob12.2.2.1;have c3:=ob12.2.2.2.1;have c4:=ob12.2.2.2.2
   have hdiv:p/72057594037927936=0↔p<72057594037927936:=by omega
   by_cases hp56:p<72057594037927936
   ·have hd0:=hdiv.2 hp56
    have hS:=hS hp56 k hk hof;have hW:=hW hp56 k hk hof;have hY:=hY hp56 k hk hof
    simp (disch:=first|omega|simp only [RO]|(simp only [RZ]<;>omega)|(with_reducible (repeat (first|assumption|exact Ext.refl _|refine Ext.alloc ?_ _|refine Ext.drew ?_|refine Ext.trans ?_ (by assumption))))|fail) only [↓RBp,↓RA,↓reduceIte,Nat.reduceAdd,Nat.reduceMul,Nat.reduceEqDiff,RB,RX,RA2,c0,c1,c2,c3,c4,her,hd0]
    refine k_read (h.ext e01) o g k hk _ (fun w2 e2=> ?_)
    have e02:=e01.trans e2
    have eb:=ea.trans e2
    have ob13:=chCells eb;have d0:=ob13.1;have d1:=ob13.2.1;have d2:=ob13.2.2.1;have d3:=ob13.2.2.2.1;have d4:=ob13.2.2.2.2
    have lt2:w.heap.size<w2.heap.size:=lt_of_cell d0
    have hx16:=bG_lt (wd D l (offN c k))
    have hxk8:=bK_lt (wd D l (offN c k))
    unfold liveB at hS hW hY
    generalize wd D l (offN c k)=x at*
    generalize wd D l 1=y at*
    by_cases t1:isS x=true
    ·by_cases t2:bitB y k=true
     ·by_cases t3:bS x=177
      ·by_cases t4:bG x=pG p
       ·have hok:isS x=true∧bitB y k=true∧bS x=177∧bG x=pG p:=⟨t1,t2,t3,t4⟩
        by_cases t5:bK x=pK p
        ·(repeat' (first|(with_reducible first|refine brS_mk (fun _=> ?_) (fun _=> ?_)|refine And.intro ?_ ?_)|(simp (disch:=first|omega|simp only [RO]|(simp only [RZ]<;>omega)|(with_reducible (repeat (first|assumption|exact Ext.refl _|refine Ext.alloc ?_ _|refine Ext.drew ?_|refine Ext.trans ?_ (by assumption))))|fail) only [↓RBp,↓RA,↓reduceIte,Nat.reduceAdd,Nat.reduceMul,Nat.reduceEqDiff,RB,RX,RA2,d0,d1,d2,d3,d4,her,t1,t2,t3,t4,c_PGen,c_PKind,t5])))
         exact hY hok t5 _ (by repeat (first|(with_reducible first|refine eB ?_ _|assumption|exact eR _|refine eA ?_ _|refine eD ?_|refine eT ?_ (by assumption))|exact eR _))
        ·(repeat' (first|(with_reducible first|refine brS_mk (fun _=> ?_) (fun _=> ?_)|refine And.intro ?_ ?_)|(simp (disch:=first|omega|simp only [RO]|(simp only [RZ]<;>omega)|(with_reducible (repeat (first|assumption|exact Ext.refl _|refine Ext.alloc ?_ _|refine Ext.drew ?_|refine Ext.trans ?_ (by assumption))))|fail) only [↓RBp,↓RA,↓reduceIte,Nat.reduceAdd,Nat.reduceMul,Nat.reduceEqDiff,RB,RX,RA2,d0,d1,d2,d3,d4,her,t1,t2,t3,t4,c_PGen,c_PKind,t5])))
         exact hW hok t5 _ (by repeat (first|(with_reducible first|refine eB ?_ _|assumption|exact eR _|refine eA ?_ _|refine eD ?_|refine eT ?_ (by assumption))|exact eR _))
       ·(repeat' (first|(with_reducible first|refine brS_mk (fun _=> ?_) (fun _=> ?_)|refine And.intro ?_ ?_)|(simp (disch:=first|omega|simp only [RO]|(simp only [RZ]<;>omega)|(with_reducible (repeat (first|assumption|exact Ext.refl _|refine Ext.alloc ?_ _|refine Ext.drew ?_|refine Ext.trans ?_ (by assumption))))|fail) only [↓RBp,↓RA,↓reduceIte,Nat.reduceAdd,Nat.reduceMul,Nat.reduceEqDiff,RB,RX,RA2,d0,d1,d2,d3,d4,her,t1,t2,t3,t4,c_PGen])))
        exact hS (fun hs=>t4 hs.2.2.2) _ (by repeat (first|(with_reducible first|refine eB ?_ _|assumption|exact eR _|refine eA ?_ _|refine eD ?_|refine eT ?_ (by assumption))|exact eR _))
      ·(repeat' (first|(with_reducible first|refine brS_mk (fun _=> ?_) (fun _=> ?_)|refine And.intro ?_ ?_)|(simp (disch:=first|omega|simp only [RO]|(simp only [RZ]<;>omega)|(with_reducible (repeat (first|assumption|exact Ext.refl _|refine Ext.alloc ?_ _|refine Ext.drew ?_|refine Ext.trans ?_ (by assumption))))|fail) only [↓RBp,↓RA,↓reduceIte,Nat.reduceAdd,Nat.reduceMul,Nat.reduceEqDiff,RB,RX,RA2,d0,d1,d2,d3,d4,her,t1,t2,t3])))
       exact hS (fun hs=>t3 hs.2.2.1) _ (by repeat (first|(with_reducible first|refine eB ?_ _|assumption|exact eR _|refine eA ?_ _|refine eD ?_|refine eT ?_ (by assumption))|exact eR _))
     ·have t2':bitB y k=false:=by simpa using t2
      (repeat' (first|(with_reducible first|refine brS_mk (fun _=> ?_) (fun _=> ?_)|refine And.intro ?_ ?_)|(simp (disch:=first|omega|simp only [RO]|(simp only [RZ]<;>omega)|(with_reducible (repeat (first|assumption|exact Ext.refl _|refine Ext.alloc ?_ _|refine Ext.drew ?_|refine Ext.trans ?_ (by assumption))))|fail) only [↓RBp,↓RA,↓reduceIte,Nat.reduceAdd,Nat.reduceMul,Nat.reduceEqDiff,RB,RX,RA2,d0,d1,d2,d3,d4,her,t1,t2'])))
      exact hS (fun hs=>t2 hs.2.1) _ (by repeat (first|(with_reducible first|refine eB ?_ _|assumption|exact eR _|refine eA ?_ _|refine eD ?_|refine eT ?_ (by assumption))|exact eR _))
    ·have t1':isS x=false:=by simpa using t1
     (repeat' (first|(with_reducible first|refine brS_mk (fun _=> ?_) (fun _=> ?_)|refine And.intro ?_ ?_)|(simp (disch:=first|omega|simp only [RO]|(simp only [RZ]<;>omega)|(with_reducible (repeat (first|assumption|exact Ext.refl _|refine Ext.alloc ?_ _|refine Ext.drew ?_|refine Ext.trans ?_ (by assumption))))|fail) only [↓RBp,↓RA,↓reduceIte,Nat.reduceAdd,Nat.reduceMul,Nat.reduceEqDiff,RB,RX,RA2,d0,d1,d2,d3,d4,her,t1'])))
     exact hS (fun hs=>t1 hs.1) _ (by repeat (first|(with_reducible first|refine eB ?_ _|assumption|exact eR _|refine eA ?_ _|refine eD ?_|refine eT ?_ (by assumption))|exact eR _))
   ·have hd0:¬p/72057594037927936=0:=fun h=>hp56 (hdiv.1 h)
    simp (disch:=first|omega|simp only [RO]|(simp only [RZ]<;>omega)|(with_reducible (repeat (first|assumption|exact Ext.refl _|refine Ext.alloc ?_ _|refine Ext.drew ?_|refine Ext.trans ?_ (by assumption))))|fail) only [↓RBp,↓RA,↓reduceIte,Nat.reduceAdd,Nat.reduceMul,Nat.reduceEqDiff,RB,RX,RA2,hd0]
    exact hR (.inl (by omega)) _ e01
end
end Go.Proofs.YtifpinhjpbgnoaaGreatDoor
