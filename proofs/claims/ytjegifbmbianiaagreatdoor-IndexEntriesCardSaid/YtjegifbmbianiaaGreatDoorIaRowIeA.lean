/-
  Part A of the proof in YtjegifbmbianiaaGreatDoorIaRowIe.
-/
import Derived.Test.YtjegifbmbianiaaGreatDoorIa5
import Derived.Test.YtjegifbmbianiaaGreatDoorIa4
import Derived.Test.YtjegifbmbianiaaGreatDoorRows
import Derived.JoinedOf
import Derived.KernelRfl
import GoSem.ClaimGoes
import GoSem.ClaimSevenParts
set_option linter.unusedSimpArgs false
set_option linter.unusedVariables false
set_option maxHeartbeats 20000000
set_option maxRecDepth 100000
open Go.Proofs.Tryz (prog)
namespace Go.Proofs.YtjegifbmbianiaaGreatDoor
open Go Go.Sh Go.Utp
theorem law_entries {w:World} (hG:Glob w) (hT:UT w) (c:Int) (v:Vl) (i:Nat) (hi:i<4294967296) (hv:v.ok) (K:K1) (hK:∀w',Ext w w'→K (.bool true) w'):
  callS prog 5 #[.int .i64 c,vV v,.int .u32 (i:Int)] w K:=by
 refine f5_call _ _ _ _ _ ?_
 unfold f5_t
 refine kbox (fun w1 b e1 _ _ x=> ?_)
 rw [pA_eq]
 refine Go.Ev.k_awake (hG.ext e1) _ (fun w2 e2=> ?_)
 have x2:=(VB.of x).ext e2
 obtain ⟨c0,c1,c2,c3,c4⟩:=id x2
 have e12:=e1.trans e2
 simp (disch:=first|omega|simp only [RO]|exact isOne_s _|(simp only [RZ]<;>omega)|fail) only [↓RBp,↓RA,↓reduceIte,Nat.reduceAdd,Nat.reduceMul,Nat.reduceEqDiff,RB,RX,RA2,↓R6.RT,c0,c1,c2,c3,c4]
 refine k_Entry c v i hi hv (hT.ext e12) _ (fun w3 e3=> ?_)
 have x3:=x2.ext e3
 obtain ⟨c0,c1,c2,c3,c4⟩:=id x3
 obtain ⟨p,hp⟩:∃p,entryN c v i=p:=⟨_,rfl⟩
 rw [hp]
 simp (disch:=first|omega|simp only [RO]|exact isOne_s _|(simp only [RZ]<;>omega)|fail) only [↓RBp,↓RA,↓reduceIte,Nat.reduceAdd,Nat.reduceMul,Nat.reduceEqDiff,RB,RX,RA2,↓R6.RT,c0,c1,c2,c3,c4]
 refine k_told v hv _ (fun w4 e4=> ?_)
 simp (disch:=first|omega|simp only [RO]|exact isOne_s _|(simp only [RZ]<;>omega)|fail) only [↓RBp,↓RA,↓reduceIte,Nat.reduceAdd,Nat.reduceMul,Nat.reduceEqDiff,RB,RX,RA2,↓R6.RT]
 refine k_REntry c v i hi hv _ (fun w5 e5=> ?_)
 rw [hp]
 have x5:=(x3.ext e4).ext e5
 have e15:=(e12.trans e3).trans (e4.trans e5)
 obtain ⟨c0,c1,c2,c3,c4⟩:=id x5
 unfold entryN at hp
 split at hp
 ·subst hp
  have es:=fun w K=>c_Split 0 0 0 (by decide) (by decide) (by decide) w K
  have e0:packN 0 0 0=0:=pkz
  rw [e0] at es
  simp (disch:=first|omega|simp only [RO]|exact isOne_s _|(simp only [RZ]<;>omega)|fail) only [↓RBp,↓RA,↓reduceIte,Nat.reduceAdd,Nat.reduceMul,Nat.reduceEqDiff,RB,RX,RA2,↓R6.RT,es]
  exact hK _ e15
 ·rename_i hc
  split at hp
  ·subst hp
   have es:=fun w K=>c_Split 0 0 0 (by decide) (by decide) (by decide) w K
   have e0:packN 0 0 0=0:=pkz
   rw [e0] at es
   simp (disch:=first|omega|simp only [RO]|exact isOne_s _|(simp only [RZ]<;>omega)|fail) only [↓RBp,↓RA,↓reduceIte,Nat.reduceAdd,Nat.reduceMul,Nat.reduceEqDiff,RB,RX,RA2,↓R6.RT,es]
   exact hK _ e15
  ·rename_i hf
   have h0:fitN v=0:=oM
   subst hp
   obtain ⟨n,rfl⟩:∃n:Nat,c=(n:Int):=⟨c.toNat,by omega⟩
   have lk:=keyN_lt h0
   have lq:keyN v/16<268435456:=oM
   have es:=fun w K=>c_Split n (keyN v/16) i oM lq hi w K
   simp (disch:=first|omega|simp only [RO]|exact isOne_s _|(simp only [RZ]<;>omega)|fail) only [↓RBp,↓RA,↓reduceIte,Nat.reduceAdd,Nat.reduceMul,Nat.reduceEqDiff,RB,RX,RA2,↓R6.RT,Int.toNat_natCast,es,c0,c1,c2,c3,c4]
   refine k_told v hv _ (fun w6 e6=> ?_)
   simp (disch:=first|omega|simp only [RO]|exact isOne_s _|(simp only [RZ]<;>omega)|fail) only [↓RBp,↓RA,↓reduceIte,Nat.reduceAdd,Nat.reduceMul,Nat.reduceEqDiff,RB,RX,RA2,↓R6.RT]
   refine k_Short v hv h0 _ (fun w7 e7=> ?_)
   simp (disch:=first|omega|simp only [RO]|exact isOne_s _|(simp only [RZ]<;>omega)|fail) only [↓RBp,↓RA,↓reduceIte,Nat.reduceAdd,Nat.reduceMul,Nat.reduceEqDiff,RB,RX,RA2,↓R6.RT]
   exact hK _ (e15.trans (e6.trans e7))
end Go.Proofs.YtjegifbmbianiaaGreatDoor
namespace Go.Proofs.YtjegifbmbianiaaGreatDoor
open Go
theorem noGoes:prog.funcs.any Func.goes=false:=by kernel_rfl
theorem goes_false {P:Program} (h:P.funcs.any Func.goes=false) (c:OpenClaim) (hs:c.start= .entering):false=c.goesBy P:=by
 have hf:∀g:Nat,(P.funcs[g]?).any Func.goes=false:=fun g=>by
  cases e:P.funcs[g]? with
  |none=>rfl
  |some fn=>
   have hm:=Array.mem_of_getElem? e
   rw [Array.any_eq_false'] at h
   have:=h fn hm
   simpa using this
 unfold OpenClaim.goesBy Program.goesAt Program.goesFrom
 rw [hs]
 have:(P.funcNamed c.func).any P.goes=false:=by
  cases P.funcNamed c.func with
  |none=>rfl
  |some f=>
   show P.goes f=false
   unfold Program.goes
   rw [h,Bool.and_false,Bool.or_false,List.any_eq_false]
   intro g _
   rw [hf g];exact Bool.false_ne_true
 rw [this];rfl
theorem rxStops:(prog.stops== [])=true:=by kernel_rfl
theorem rxKnobs:(prog.stopKnobs== [])=true:=by kernel_rfl
theorem rxLooks:true=prog.looks []:=by kernel_rfl
end Go.Proofs.YtjegifbmbianiaaGreatDoor
