/-
  Part 5 of what the proofs of this seat share.
-/
import Derived.Test.YtifpinhjpbgnoaaGreatDoorBs4
import Derived.Test.YtifpinhjpbgnoaaGreatDoorBs1
import Derived.Test.YtifpinhjpbgnoaaGreatDoorBs3
set_option linter.unusedSimpArgs false
set_option linter.unusedVariables false
set_option maxHeartbeats 4000000
set_option maxRecDepth 100000
open Go.Proofs.Tryz (prog)
open Go.RowKit (intOf)
namespace Go.Proofs.YtifpinhjpbgnoaaGreatDoor
open Go Go.Sh
section
variable {w w':World} {Y:Lay} {D:DS} {l:Nat} {c o:Int} {g:Nat}
def mskN (D:DS) (l:Nat) (c:Int):Nat→Nat
 |0=>0
 |n+1=>if bS (wd D l (offN c n))=176 then mskN D l c n else mskN D l c n|||2^n
def gdN (D:DS) (l:Nat) (c:Int):Nat→Bool
 |0=>true
 |n+1=>gdN D l c n&&(isS (wd D l (offN c n))&&goodB (bG (wd D l (offN c n))) (bK (wd D l (offN c n))) (bS (wd D l (offN c n))))
def zerN (D:DS) (l:Nat):Nat→Bool
 |0=>true
 |n+1=>zerN D l n&&decide (wd D l (n+2)=0)
theorem mskN_lt (D:DS) (l:Nat) (c:Int):∀n,mskN D l c n<2^n:=by
 intro n
 induction n with
 |zero=>simp [mskN]
 |succ n ih=>
  have h2:2^n<2^(n+1):=Nat.pow_lt_pow_right (by decide) (by omega)
  simp only [mskN]
  split
  ·omega
  ·exact Nat.or_lt_two_pow (by omega) h2
theorem gdN_no {D:DS} {l:Nat} {c:Int}:∀{n i:Nat},i<n→(isS (wd D l (offN c i))&&goodB (bG (wd D l (offN c i))) (bK (wd D l (offN c i))) (bS (wd D l (offN c i))))=false→gdN D l c n=false:=by
 intro n
 induction n with
 |zero=>intro i h;omega
 |succ n ih=>
  intro i h he
  simp only [gdN]
  by_cases e:i=n
  ·subst e;simp only [he,Bool.and_false]
  ·rw [ih (i:=i) (by omega) he];rfl
theorem zerN_no {D:DS} {l:Nat}:∀{n i:Nat},i<n→wd D l (i+2)≠0→zerN D l n=false:=by
 intro n
 induction n with
 |zero=>intro i h;omega
 |succ n ih=>
  intro i h he
  simp only [zerN]
  by_cases e:i=n
  ·subst e;simp [he]
  ·rw [ih (i:=i) (by omega) he];rfl
def conB (D:DS) (l:Nat) (c o:Int):Bool:=hdOk (wd D l 0)&&(decide (hC (wd D l 0)=c)&&(decide (hO (wd D l 0)=o)&&(zerN D l 6&&(gdN D l c (perS c).toNat&&decide (wd D l 1=mskN D l c (perS c).toNat)))))
theorem k_consistent (h:Cx w Y D l c) (o:Int) (g:Nat) (K:K1) (hK:∀w',Ext w w'→K (.bool (conB D l c o)) w'):
  callS prog 80 #[chV Y l c o g] w K:=by
 have hp:=perS_in h.c0 h.c5
 obtain ⟨n,hn⟩:∃n:Nat,perS c=(n:Int):=⟨(perS c).toNat,by omega⟩
 have hl:=h.hl;have hnn:=h.n
 have ld:∀(w1:World) (K:K1),Ext w w1→callS prog 46 #[.pointer (some ⟨Y.tb 0,0,none⟩),.int .u64 ((l*64:Nat):Int)] w1 K=K (.int .u64 (wd D l 0:Int)) w1:=fun w1 K he=>h.loadE w1 0 K he (by omega)
 have hx0:=h.wd_lt 0 (by omega)
 have e0:Ext w (w.alloc (chO Y l c o g)):=Ext.alloc_self _ _
 have no:conB D l c o=false→∀w',Ext w w'→K (.bool false) w':=fun hf w' e=>by have:=hK w' e;rw [hf] at this;exact this
 refine f80_call _ _ _ ?_
 unfold f80_t
 simp (disch:=first|omega|simp only [RO]|(simp only [RZ]<;>omega)|(with_reducible (repeat (first|assumption|exact Ext.refl _|refine Ext.alloc ?_ _|refine Ext.drew ?_|refine Ext.trans ?_ (by assumption))))|fail) only [↓RBp,↓RA,↓reduceIte,Nat.reduceAdd,Nat.reduceMul,Nat.reduceEqDiff,RB,RX,RA2,c_line,Int.toNat_natCast,ld]
 refine k_header (wd D l 0) _ _ (h.gl.ext (by repeat (first|(with_reducible first|refine eB ?_ _|assumption|exact eR _|refine eA ?_ _|refine eD ?_|refine eT ?_ (by assumption))|exact eR _))) hx0 (fun w1 e1=> ?_)
 have ea:Ext (w.alloc (chO Y l c o g)) w1:=Ext.trans (by repeat (first|(with_reducible first|refine eB ?_ _|assumption|exact eR _|refine eA ?_ _|refine eD ?_|refine eT ?_ (by assumption))|exact eR _)) e1
 have e01:=e0.trans ea
 have ob14:=chCells ea;have c0:=ob14.1;have c1:=ob14.2.1;have c2:=ob14.2.2.1;have c3:=ob14.2.2.2.1;have c4:=ob14.2.2.2.2
 have lt1:w.heap.size<w1.heap.size:=lt_of_cell c0
 unfold conB at hK no
 rw [hn,Int.toNat_natCast] at hK no
 cases hh:hdOk (wd D l 0) with
 |false=>
  rw [hh] at no
  unfold hdV
  simp (disch:=first|omega|simp only [RO]|(simp only [RZ]<;>omega)|(with_reducible (repeat (first|assumption|exact Ext.refl _|refine Ext.alloc ?_ _|refine Ext.drew ?_|refine Ext.trans ?_ (by assumption))))|fail) only [↓RBp,↓RA,↓reduceIte,Nat.reduceAdd,Nat.reduceMul,Nat.reduceEqDiff,RB,RX,RA2,c0,c1,c2,c3,c4]
  exact no rfl _ (by repeat (first|(with_reducible first|refine eB ?_ _|assumption|exact eR _|refine eA ?_ _|refine eD ?_|refine eT ?_ (by assumption))|exact eR _))
 |true=>
  by_cases hc:hC (wd D l 0)=c
  ·by_cases ho:hO (wd D l 0)=o
   ·rw [hh,decide_eq_true hc,decide_eq_true ho] at hK no
    simp only [Bool.true_and] at hK no
    simp only [if_true]
    unfold hdV
    rw [hc,ho]
    simp (disch:=first|omega|simp only [RO]|(simp only [RZ]<;>omega)|(with_reducible (repeat (first|assumption|exact Ext.refl _|refine Ext.alloc ?_ _|refine Ext.drew ?_|refine Ext.trans ?_ (by assumption))))|fail) only [↓RBp,↓RA,↓reduceIte,Nat.reduceAdd,Nat.reduceMul,Nat.reduceEqDiff,RB,RX,RA2,c0,c1,c2,c3,c4]
    generalize gX (wd D l 0)=gx
    have hld:=h.loadE
    apply f80_l1_rule (I:=fun z w'=>∃q:Nat,z= .int .u64 ((q+2:Nat):Int)∧q≤6∧zerN D l q=true∧Ext (w.alloc (chO Y l c o g)) w') (μ:=fun z _=>8-(intOf z).toNat)
    ·exact ⟨0,rfl,by omega,rfl,(by repeat (first|(with_reducible first|refine eB ?_ _|assumption|exact eR _|refine eA ?_ _|refine eD ?_|refine eT ?_ (by assumption))|exact eR _))⟩
    ·intros;rename_i w2 hI E1 hE
     obtain ⟨q,rfl,hq,hz,eb⟩:=hI
     have e02:=e0.trans eb
     have ob15:=chCells eb;have d0:=ob15.1;have d1:=ob15.2.1;have d2:=ob15.2.2.1;have d3:=ob15.2.2.2.1;have d4:=ob15.2.2.2.2
     unfold f80_l1_t
     by_cases hq6:q<6
     ·have e8:(q+2)*8+l*64=l*64+(q+2)*8:=by omega
      by_cases hw0:wd D l (q+2)=0
      ·simp (disch:=first|omega|simp only [RO]|(simp only [RZ]<;>omega)|(with_reducible (repeat (first|assumption|exact Ext.refl _|refine Ext.alloc ?_ _|refine Ext.drew ?_|refine Ext.trans ?_ (by assumption))))|fail) only [↓RBp,↓RA,↓reduceIte,Nat.reduceAdd,Nat.reduceMul,Nat.reduceEqDiff,RB,RX,RA2,d0,d1,d2,d3,d4,hld,hw0]
       apply hE
       ·exact ⟨q+1,by simp;omega,by omega,by simp [zerN,hz,hw0],eb⟩
       ·simp [intOf];omega
      ·simp (disch:=first|omega|simp only [RO]|(simp only [RZ]<;>omega)|(with_reducible (repeat (first|assumption|exact Ext.refl _|refine Ext.alloc ?_ _|refine Ext.drew ?_|refine Ext.trans ?_ (by assumption))))|fail) only [↓RBp,↓RA,↓reduceIte,Nat.reduceAdd,Nat.reduceMul,Nat.reduceEqDiff,RB,RX,RA2,d0,d1,d2,d3,d4,hld,hw0]
       exact no (by rw [zerN_no hq6 hw0];rfl) _ e02
     ·have hq6:q=6:=by omega
      subst hq6
      rw [hz] at hK no
      simp only [Bool.true_and] at hK no
      have hpc:∀(w1:World) (K:K1),Ext w w1→callS prog 59 #[.int .i64 c] w1 K=K (.int .i64 (n:Int)) w1:=fun w1 K he=>by rw [c_PerChunk c w1 K (h.gl.ext he),hn]
      simp (disch:=first|omega|simp only [RO]|(simp only [RZ]<;>omega)|(with_reducible (repeat (first|assumption|exact Ext.refl _|refine Ext.alloc ?_ _|refine Ext.drew ?_|refine Ext.trans ?_ (by assumption))))|fail) only [↓RBp,↓RA,↓reduceIte,Nat.reduceAdd,Nat.reduceMul,Nat.reduceEqDiff,RB,RX,RA2,d0,d1,d2,d3,d4,hpc,f80_k1_eq,f80_k1_t]
      apply f80_l2_rule (I:=fun y z w'=>∃i:Nat,z= .int .i64 (i:Int)∧i≤n∧y= .int .u64 ((mskN D l c i:Nat):Int)∧gdN D l c i=true∧Ext (w.alloc (chO Y l c o g)) w') (μ:=fun _ z _=>n-(intOf z).toNat)
      ·exact ⟨0,rfl,by omega,rfl,rfl,eb⟩
      ·intros;rename_i w3 hI3 E3 hE3
       obtain ⟨i,rfl,hi,rfl,hg,ec⟩:=hI3
       have e03:=e0.trans ec
       have ob16:=chCells ec;have q0:=ob16.1;have q1:=ob16.2.1;have q2:=ob16.2.2.1;have q3:=ob16.2.2.2.1;have q4:=ob16.2.2.2.2
       have lt3:w.heap.size<w3.heap.size:=lt_of_cell q0
       by_cases hin:i<n
       ·have bd:=offN_bd h.c0 h.c5 (i:=i) (by omega)
        have hat:=h.at_ o g
        have hwx:=h.wd_lt (offN c i) bd.2.2
        have hm:=mskN_lt D l c i
        have hm64:mskN D l c i<18446744073709551616:=Nat.lt_of_lt_of_le hm (by have:=pow_lt64 (show i<64 by omega);omega)
        have hpw:=pow_lt64 (show i<64 by omega)
        have hs1:1*2^i%18446744073709551616=2^i:=by rw [Nat.one_mul];exact Nat.mod_eq_of_lt hpw
        have hor:=or_lt64 hm64 hpw
        have hgn:gdN D l c (i+1)=(isS (wd D l (offN c i))&&goodB (bG (wd D l (offN c i))) (bK (wd D l (offN c i))) (bS (wd D l (offN c i)))):=by simp only [gdN,hg,Bool.true_and]
        have hmn:mskN D l c (i+1)=if bS (wd D l (offN c i))=176 then mskN D l c i else mskN D l c i|||2^i:=rfl
        have hbad:=fun hf=>no (by rw [gdN_no (D:=D) (l:=l) (c:=c) hin hf];rfl)
        have hatw:∀(w1:World) (K:K1),Ext w w1→callS prog 68 #[chV Y l c o g,.int .i64 (i:Int)] w1 K=K (.int .u64 ((l*64+offN c i*8:Nat):Int)) (w1.alloc (chO Y l c o g)):=fun w1 K e=>hat w1 i K e (by omega)
        have hldw:∀(w1:World) (K:K1),Ext w w1→callS prog 46 #[.pointer (some ⟨Y.tb 0,0,none⟩),.int .u64 ((l*64+offN c i*8:Nat):Int)] w1 K=K (.int .u64 (wd D l (offN c i):Int)) w1:=fun w1 K e=>hld w1 _ K e bd.2.2
        have hsl:∀(w1:World) (K:K1),Ext w w1→(∀w',Ext w1 w'→K (.tuple #[.agg #[.int .u16 (bG (wd D l (offN c i)):Int),.int .u8 (bK (wd D l (offN c i)):Int),.int .u8 (bS (wd D l (offN c i)):Int)],.bool (isS (wd D l (offN c i)))]) w')→callS prog 107 #[.int .u64 (wd D l (offN c i):Int)] w1 K:=fun w1 K e hk=>k_sealed' _ w1 K (h.gl.ext e) hwx hk
        clear hat hld
        generalize wd D l (offN c i)=x at*
        generalize offN c i=qq at*
        have tail:∀(b:Nat) (w4:World),w4.cell? ⟨b,0,none⟩=some (.int .u16 (bG x:Int))→w4.cell? ⟨b,1,none⟩=some (.int .u8 (bK x:Int))→w4.cell? ⟨b,2,none⟩=some (.int .u8 (bS x:Int))→Ext (w.alloc (chO Y l c o g)) w4→f80_k4 K E3 (.pointer (some ⟨w.heap.size,0,none⟩)) (.int .u64 ((mskN D l c i:Nat):Int)) (.int .i64 (i:Int)) (.pointer (some ⟨b,0,none⟩)) (.bool (isS x)) (.int .i64 (n:Int)) (.int .i64 (i:Int)) w4:=by
         intro b w4 a0 a1 a2 ed
         have e04:=e0.trans ed
         have ltb:b<w4.heap.size:=lt_of_cell a0
         rw [f80_k4_eq]
         unfold f80_k4_t
         have k3:∀(y:Nat) (w5:World),Ext w4 w5→gdN D l c (i+1)=true→mskN D l c (i+1)=y→f80_k3 K E3 (.pointer (some ⟨w.heap.size,0,none⟩)) (.int .u64 (y:Int)) (.int .i64 (n:Int)) (.int .i64 (i:Int)) w5:=by
          intro y w5 e5 hg5 hm5
          rw [f80_k3_eq]
          unfold f80_k3_t
          simp (disch:=first|omega|simp only [RO]|(simp only [RZ]<;>omega)|fail) only [↓RBp,↓RA,↓reduceIte,Nat.reduceAdd,Nat.reduceMul,Nat.reduceEqDiff,RB,RX,RA2]
          apply hE3
          ·exact ⟨i+1,by simp,by omega,by rw [hm5],hg5,ed.trans e5⟩
          ·simp [intOf];omega
         by_cases t1:isS x=true
         ·by_cases t2:goodB (bG x) (bK x) (bS x)=true
          ·rw [t1,t2] at hgn
           by_cases t3:bS x=176
           ·rw [if_pos t3] at hmn
            have t2':=t2
            rw [t3] at t2'
            simp (disch:=first|omega|simp only [RO]|(simp only [RZ]<;>omega)|(with_reducible (repeat (first|assumption|exact Ext.refl _|refine Ext.alloc ?_ _|refine Ext.drew ?_|refine Ext.trans ?_ (by assumption))))|fail) only [↓RBp,↓RA,↓reduceIte,Nat.reduceAdd,Nat.reduceMul,Nat.reduceEqDiff,RB,RX,RA2,a0,a1,a2,t1,t2',t3,c_good]
            exact k3 _ _ (by repeat (first|(with_reducible first|refine eB ?_ _|assumption|exact eR _|refine eA ?_ _|refine eD ?_|refine eT ?_ (by assumption))|exact eR _)) hgn hmn
           ·rw [if_neg t3] at hmn
            simp (disch:=first|omega|simp only [RO]|(simp only [RZ]<;>omega)|(with_reducible (repeat (first|assumption|exact Ext.refl _|refine Ext.alloc ?_ _|refine Ext.drew ?_|refine Ext.trans ?_ (by assumption))))|fail) only [↓RBp,↓RA,↓reduceIte,Nat.reduceAdd,Nat.reduceMul,Nat.reduceEqDiff,RB,RX,RA2,a0,a1,a2,t1,t2,t3,c_good,hs1]
            exact k3 _ _ (by repeat (first|(with_reducible first|refine eB ?_ _|assumption|exact eR _|refine eA ?_ _|refine eD ?_|refine eT ?_ (by assumption))|exact eR _)) hgn hmn
          ·have t2':goodB (bG x) (bK x) (bS x)=false:=by simpa using t2
           simp (disch:=first|omega|simp only [RO]|(simp only [RZ]<;>omega)|(with_reducible (repeat (first|assumption|exact Ext.refl _|refine Ext.alloc ?_ _|refine Ext.drew ?_|refine Ext.trans ?_ (by assumption))))|fail) only [↓RBp,↓RA,↓reduceIte,Nat.reduceAdd,Nat.reduceMul,Nat.reduceEqDiff,RB,RX,RA2,a0,a1,a2,t1,t2',c_good]
           exact hbad (by rw [t1,t2'];rfl) _ (by repeat (first|(with_reducible first|refine eB ?_ _|assumption|exact eR _|refine eA ?_ _|refine eD ?_|refine eT ?_ (by assumption))|exact eR _))
         ·have t1':isS x=false:=by simpa using t1
          simp (disch:=first|omega|simp only [RO]|(simp only [RZ]<;>omega)|(with_reducible (repeat (first|assumption|exact Ext.refl _|refine Ext.alloc ?_ _|refine Ext.drew ?_|refine Ext.trans ?_ (by assumption))))|fail) only [↓RBp,↓RA,↓reduceIte,Nat.reduceAdd,Nat.reduceMul,Nat.reduceEqDiff,RB,RX,RA2,a0,a1,a2,t1']
          exact hbad (by rw [t1'];rfl) _ (by repeat (first|(with_reducible first|refine eB ?_ _|assumption|exact eR _|refine eA ?_ _|refine eD ?_|refine eT ?_ (by assumption))|exact eR _))
        unfold f80_l2_t
        (repeat' (first|(with_reducible first|refine brS_mk (fun _=> ?_) (fun _=> ?_)|refine And.intro ?_ ?_)|(simp (disch:=first|omega|simp only [RO]|(simp only [RZ]<;>omega)|(with_reducible (repeat (first|assumption|exact Ext.refl _|refine Ext.alloc ?_ _|refine Ext.drew ?_|refine Ext.trans ?_ (by assumption))))|fail) only [↓RBp,↓RA,↓reduceIte,Nat.reduceAdd,Nat.reduceMul,Nat.reduceEqDiff,RB,RX,RA2,q0,q1,q2,q3,q4,hatw,hldw])))
        ·refine hsl _ _ (by repeat (first|(with_reducible first|refine eB ?_ _|assumption|exact eR _|refine eA ?_ _|refine eD ?_|refine eT ?_ (by assumption))|exact eR _)) (fun w4 e4=> ?_)
         have e34:Ext w3 w4:=Ext.trans (by repeat (first|(with_reducible first|refine eB ?_ _|assumption|exact eR _|refine eA ?_ _|refine eD ?_|refine eT ?_ (by assumption))|exact eR _)) e4
         have ed:=ec.trans e34
         have ob17:=chCells ed;have s0:=ob17.1;have s1:=ob17.2.1;have s2:=ob17.2.2.1;have s3:=ob17.2.2.2.1;have s4:=ob17.2.2.2.2
         have lt4:w.heap.size<w4.heap.size:=lt_of_cell s0
         (repeat' (first|(with_reducible first|refine brS_mk (fun _=> ?_) (fun _=> ?_)|refine And.intro ?_ ?_)|(simp (disch:=first|omega|simp only [RO]|(simp only [RZ]<;>omega)|(with_reducible (repeat (first|assumption|exact Ext.refl _|refine Ext.alloc ?_ _|refine Ext.drew ?_|refine Ext.trans ?_ (by assumption))))|fail) only [↓RBp,↓RA,↓reduceIte,Nat.reduceAdd,Nat.reduceMul,Nat.reduceEqDiff,RB,RX,RA2,s0,s1,s2,s3,s4])))
         refine tail _ _ ?_ ?_ ?_ (by repeat (first|(with_reducible first|refine eB ?_ _|assumption|exact eR _|refine eA ?_ _|refine eD ?_|refine eT ?_ (by assumption))|exact eR _))<;>simp (disch:=first|omega|simp only [RO]|(simp only [RZ]<;>omega)|fail) only [↓RBp,↓RA,↓reduceIte,Nat.reduceAdd,Nat.reduceMul,Nat.reduceEqDiff,RB,RX,RA2]
        ·refine hsl _ _ (by repeat (first|(with_reducible first|refine eB ?_ _|assumption|exact eR _|refine eA ?_ _|refine eD ?_|refine eT ?_ (by assumption))|exact eR _)) (fun w4 e4=> ?_)
         have e34:Ext w3 w4:=Ext.trans (by repeat (first|(with_reducible first|refine eB ?_ _|assumption|exact eR _|refine eA ?_ _|refine eD ?_|refine eT ?_ (by assumption))|exact eR _)) e4
         have ed:=ec.trans e34
         have hC:Cells w4 (w3.heap.size+1) 137 3 (fun i=> [Value.int .u16 ((0:Nat):Int),.int .u8 ((0:Nat):Int),.int .u8 ((0:Nat):Int)].getD i undef):=by
          have:=(Cells.new (w3.alloc (chO Y l c o g)) [Value.int .u16 ((0:Nat):Int),.int .u8 ((0:Nat):Int),.int .u8 ((0:Nat):Int)] 137)
          try rw [size_alloc] at this
          exact this.ext (Ext.trans (by repeat (first|(with_reducible first|refine eB ?_ _|assumption|exact eR _|refine eA ?_ _|refine eD ?_|refine eT ?_ (by assumption))|exact eR _)) e4)
         have p0:=hC.cell (i:=0) (by omega)
         have p1:=hC.cell (i:=1) (by omega)
         have p2:=hC.cell (i:=2) (by omega)
         have ob18:=cells3 hC (.int .u16 (bG x:Int)) (.int .u8 (bK x:Int)) (.int .u8 (bS x:Int));have r0:=ob18.1;have r1:=ob18.2.1;have r2:=ob18.2.2.1;have hD:=ob18.2.2.2
         simp (disch:=first|omega|simp only [RO]|(simp only [RZ]<;>omega)|fail) only [↓RBp,↓RA,↓reduceIte,Nat.reduceAdd,Nat.reduceMul,Nat.reduceEqDiff,RB,RX,RA2,p0,p1,p2,hC.frz,r0,r1,r2]
         exact tail _ _ r0 r1 r2 (by repeat (first|(with_reducible first|refine eB ?_ _|assumption|exact eR _|refine eA ?_ _|refine eD ?_|refine eT ?_ (by assumption))|exact eR _))
        ·refine hsl _ _ (by repeat (first|(with_reducible first|refine eB ?_ _|assumption|exact eR _|refine eA ?_ _|refine eD ?_|refine eT ?_ (by assumption))|exact eR _)) (fun w4 e4=> ?_)
         have e34:Ext w3 w4:=Ext.trans (by repeat (first|(with_reducible first|refine eB ?_ _|assumption|exact eR _|refine eA ?_ _|refine eD ?_|refine eT ?_ (by assumption))|exact eR _)) e4
         have ed:=ec.trans e34
         have hC:Cells w4 (w3.heap.size+1) 137 3 (fun i=> [Value.int .u16 ((0:Nat):Int),.int .u8 ((0:Nat):Int),.int .u8 ((0:Nat):Int)].getD i undef):=by
          have:=(Cells.new (w3.alloc (chO Y l c o g)) [Value.int .u16 ((0:Nat):Int),.int .u8 ((0:Nat):Int),.int .u8 ((0:Nat):Int)] 137)
          try rw [size_alloc] at this
          exact this.ext (Ext.trans (by repeat (first|(with_reducible first|refine eB ?_ _|assumption|exact eR _|refine eA ?_ _|refine eD ?_|refine eT ?_ (by assumption))|exact eR _)) e4)
         have p0:=hC.cell (i:=0) (by omega)
         have p1:=hC.cell (i:=1) (by omega)
         have p2:=hC.cell (i:=2) (by omega)
         have ob19:=cells3 hC (.int .u16 (bG x:Int)) (.int .u8 (bK x:Int)) (.int .u8 (bS x:Int));have r0:=ob19.1;have r1:=ob19.2.1;have r2:=ob19.2.2.1;have hD:=ob19.2.2.2
         simp (disch:=first|omega|simp only [RO]|(simp only [RZ]<;>omega)|fail) only [↓RBp,↓RA,↓reduceIte,Nat.reduceAdd,Nat.reduceMul,Nat.reduceEqDiff,RB,RX,RA2,p0,p1,p2,hC.frz,r0,r1,r2]
         exact tail _ _ r0 r1 r2 (by repeat (first|(with_reducible first|refine eB ?_ _|assumption|exact eR _|refine eA ?_ _|refine eD ?_|refine eT ?_ (by assumption))|exact eR _))
        ·refine hsl _ _ (by repeat (first|(with_reducible first|refine eB ?_ _|assumption|exact eR _|refine eA ?_ _|refine eD ?_|refine eT ?_ (by assumption))|exact eR _)) (fun w4 e4=> ?_)
         have e34:Ext w3 w4:=Ext.trans (by repeat (first|(with_reducible first|refine eB ?_ _|assumption|exact eR _|refine eA ?_ _|refine eD ?_|refine eT ?_ (by assumption))|exact eR _)) e4
         have ed:=ec.trans e34
         have hC:Cells w4 (w3.heap.size) 137 3 (fun i=> [Value.int .u16 ((0:Nat):Int),.int .u8 ((0:Nat):Int),.int .u8 ((0:Nat):Int)].getD i undef):=by
          have:=(Cells.new w3 [Value.int .u16 ((0:Nat):Int),.int .u8 ((0:Nat):Int),.int .u8 ((0:Nat):Int)] 137)
          try rw [size_alloc] at this
          exact this.ext (Ext.trans (by repeat (first|(with_reducible first|refine eB ?_ _|assumption|exact eR _|refine eA ?_ _|refine eD ?_|refine eT ?_ (by assumption))|exact eR _)) e4)
         have p0:=hC.cell (i:=0) (by omega)
         have p1:=hC.cell (i:=1) (by omega)
         have p2:=hC.cell (i:=2) (by omega)
         have ob20:=cells3 hC (.int .u16 (bG x:Int)) (.int .u8 (bK x:Int)) (.int .u8 (bS x:Int));have r0:=ob20.1;have r1:=ob20.2.1;have r2:=ob20.2.2.1;have hD:=ob20.2.2.2
         simp (disch:=first|omega|simp only [RO]|(simp only [RZ]<;>omega)|fail) only [↓RBp,↓RA,↓reduceIte,Nat.reduceAdd,Nat.reduceMul,Nat.reduceEqDiff,RB,RX,RA2,p0,p1,p2,hC.frz,r0,r1,r2]
         exact tail _ _ r0 r1 r2 (by repeat (first|(with_reducible first|refine eB ?_ _|assumption|exact eR _|refine eA ?_ _|refine eD ?_|refine eT ?_ (by assumption))|exact eR _))
       ·have:i=n:=by omega
        subst this
        rw [hg] at hK
        simp only [Bool.true_and] at hK
        have hbt:=h.bits o g
        unfold f80_l2_t
        simp (disch:=first|omega|simp only [RO]|(simp only [RZ]<;>omega)|(with_reducible (repeat (first|assumption|exact Ext.refl _|refine Ext.alloc ?_ _|refine Ext.drew ?_|refine Ext.trans ?_ (by assumption))))|fail) only [↓RBp,↓RA,↓reduceIte,Nat.reduceAdd,Nat.reduceMul,Nat.reduceEqDiff,RB,RX,RA2,q0,q1,q2,q3,q4,hbt,f80_k2_eq,f80_k2_t]
        exact hK _ (by repeat (first|(with_reducible first|refine eB ?_ _|assumption|exact eR _|refine eA ?_ _|refine eD ?_|refine eT ?_ (by assumption))|exact eR _))
   ·rw [hh,decide_eq_true hc,decide_eq_false ho] at no
    simp only [if_true]
    unfold hdV
    simp (disch:=first|omega|simp only [RO]|(simp only [RZ]<;>omega)|(with_reducible (repeat (first|assumption|exact Ext.refl _|refine Ext.alloc ?_ _|refine Ext.drew ?_|refine Ext.trans ?_ (by assumption))))|fail) only [↓RBp,↓RA,↓reduceIte,Nat.reduceAdd,Nat.reduceMul,Nat.reduceEqDiff,RB,RX,RA2,c0,c1,c2,c3,c4,hc,ho]
    exact no rfl _ (by repeat (first|(with_reducible first|refine eB ?_ _|assumption|exact eR _|refine eA ?_ _|refine eD ?_|refine eT ?_ (by assumption))|exact eR _))
  ·rw [hh,decide_eq_false hc] at no
   simp only [if_true]
   unfold hdV
   simp (disch:=first|omega|simp only [RO]|(simp only [RZ]<;>omega)|(with_reducible (repeat (first|assumption|exact Ext.refl _|refine Ext.alloc ?_ _|refine Ext.drew ?_|refine Ext.trans ?_ (by assumption))))|fail) only [↓RBp,↓RA,↓reduceIte,Nat.reduceAdd,Nat.reduceMul,Nat.reduceEqDiff,RB,RX,RA2,c0,c1,c2,c3,c4,hc]
   exact no rfl _ (by repeat (first|(with_reducible first|refine eB ?_ _|assumption|exact eR _|refine eA ?_ _|refine eD ?_|refine eT ?_ (by assumption))|exact eR _))
theorem k_Check (h:Cx w Y D l c) (he:D.err 0=0) (o:Int) (g:Nat) (K:K1) (hK:∀w',Ext w w'→K (.int .i64 (if conB D l c o=true then 0 else 11)) w'):
  callS prog 36 #[chV Y l c o g] w K:=by
 have her:∀(w1:World) (K:K1),Ext w w1→callS prog 19 #[.pointer (some ⟨Y.tb 0,0,none⟩)] w1 K=K (.int .i64 0) w1:=fun w1 K e=>by rw [c_Err (h.dv.ext e) 0 (by omega) K,he]
 refine f36_call _ _ _ ?_
 unfold f36_t
 simp (disch:=first|omega|simp only [RO]|(simp only [RZ]<;>omega)|(with_reducible (repeat (first|assumption|exact Ext.refl _|refine Ext.alloc ?_ _|refine Ext.drew ?_|refine Ext.trans ?_ (by assumption))))|fail) only [↓RBp,↓RA,↓reduceIte,Nat.reduceAdd,Nat.reduceMul,Nat.reduceEqDiff,RB,RX,RA2,her]
 refine k_consistent (h.ext (by repeat (first|(with_reducible first|refine eB ?_ _|assumption|exact eR _|refine eA ?_ _|refine eD ?_|refine eT ?_ (by assumption))|exact eR _))) o g _ (fun w1 e1=> ?_)
 have ea:Ext (w.alloc (chO Y l c o g)) w1:=Ext.trans (by repeat (first|(with_reducible first|refine eB ?_ _|assumption|exact eR _|refine eA ?_ _|refine eD ?_|refine eT ?_ (by assumption))|exact eR _)) e1
 have e01:Ext w w1:=(Ext.alloc_self _ _).trans ea
 have ob21:=chCells ea;have c0:=ob21.1;have c1:=ob21.2.1;have c2:=ob21.2.2.1;have c3:=ob21.2.2.2.1;have c4:=ob21.2.2.2.2
 cases hb:conB D l c o with
 |true=>
  rw [if_pos hb] at hK
  simp (disch:=first|omega|simp only [RO]|(simp only [RZ]<;>omega)|(with_reducible (repeat (first|assumption|exact Ext.refl _|refine Ext.alloc ?_ _|refine Ext.drew ?_|refine Ext.trans ?_ (by assumption))))|fail) only [↓RBp,↓RA,↓reduceIte,Nat.reduceAdd,Nat.reduceMul,Nat.reduceEqDiff,RB,RX,RA2,c0,c1,c2,c3,c4,her]
  exact hK _ (by repeat (first|(with_reducible first|refine eB ?_ _|assumption|exact eR _|refine eA ?_ _|refine eD ?_|refine eT ?_ (by assumption))|exact eR _))
 |false=>
  rw [hb,if_neg (by simp)] at hK
  simp (disch:=first|omega|simp only [RO]|(simp only [RZ]<;>omega)|(with_reducible (repeat (first|assumption|exact Ext.refl _|refine Ext.alloc ?_ _|refine Ext.drew ?_|refine Ext.trans ?_ (by assumption))))|fail) only [↓RBp,↓RA,↓reduceIte,Nat.reduceAdd,Nat.reduceMul,Nat.reduceEqDiff,RB,RX,RA2,c0,c1,c2,c3,c4,her]
  exact hK _ (by repeat (first|(with_reducible first|refine eB ?_ _|assumption|exact eR _|refine eA ?_ _|refine eD ?_|refine eT ?_ (by assumption))|exact eR _))
end
theorem bit_tb (x i:Nat):bitB x i=x.testBit i:=by unfold bitB;rw [Nat.testBit_eq_decide_div_mod_eq]
theorem bit_or (x y i:Nat):bitB (x|||y) i=(bitB x i||bitB y i):=by simp only [bit_tb,Nat.testBit_or]
theorem bit_pow (m i:Nat):bitB (2^m) i=decide (m=i):=by rw [bit_tb,Nat.testBit_two_pow]
theorem bit_clr (x m i:Nat) (hi:i<64):bitB (x&&&(18446744073709551615^^^2^m)) i=(bitB x i&& !decide (m=i)):=by
 have h:(18446744073709551615:Nat).testBit i=true:=by
  have:(18446744073709551615:Nat)=2^64-1:=by decide
  rw [this,Nat.testBit_two_pow_sub_one];simp [hi]
 simp only [bit_tb,Nat.testBit_and,Nat.testBit_xor,h,Nat.testBit_two_pow]
 cases x.testBit i<;>cases decide (m=i)<;>rfl
def hasI (L:List Int) (i:Nat):Bool:=L.any fun x=>decide (x.toNat=i)
theorem hasI_cons (x:Int) (L:List Int) (i:Nat):hasI (x::L) i=(decide (x.toNat=i)||hasI L i):=rfl
theorem hasI_mem {L:List Int} {i:Nat} (h:hasI L i=true):∃x∈L,x.toNat=i:=by
 unfold hasI at h;rw [List.any_eq_true] at h;obtain ⟨x,hx,he⟩:=h;exact ⟨x,hx,by simpa using he⟩
theorem hasI_of {L:List Int} {x:Int} (h:x∈L):hasI L x.toNat=true:=by
 unfold hasI;rw [List.any_eq_true];exact ⟨x,h,by simp⟩
theorem onc_spec {per:Int}:∀{L:List Int} {m m':Nat},onc per L m=some m'→(∀x∈L,bitB m x.toNat=false)∧(L.map Int.toNat).Nodup∧∀i,bitB m' i=(bitB m i||hasI L i):=by
 intro L
 induction L with
 |nil=>intro m m' h;injection h with h;subst h;exact ⟨fun x hx=>(by cases hx),by simp,fun i=>by simp [hasI]⟩
 |cons x L ih=>
  intro m m' h
  simp only [onc] at h
  split at h
  ·rename_i hx
   obtain ⟨h1,h2,h3⟩:=ih h
   refine ⟨fun y hy=> ?_,?_,fun i=> ?_⟩
   ·rcases List.mem_cons.1 hy with rfl|hy
    ·exact hx.2
    ·have:=h1 y hy;rw [bit_or] at this;simp at this;exact this.1
   ·rw [List.map_cons,List.nodup_cons]
    refine ⟨fun hm=> ?_,h2⟩
    obtain ⟨y,hy,he⟩:=List.mem_map.1 hm
    have:=h1 y hy
    rw [bit_or,he,bit_pow] at this;simp at this
   ·rw [h3,bit_or,bit_pow,hasI_cons,Bool.or_assoc]
  ·cases h
theorem ActA.nd {c:Int} {L M:List Int} {ks:List Nat} (h:ActA c L ks M):(L.map Int.toNat).Nodup∧(M.map Int.toNat).Nodup∧∀i,hasI L i=true→hasI M i=false:=by
 have h0:=h.onc
 cases h1:Go.Proofs.YtifpinhjpbgnoaaGreatDoor.onc (perS c) L 0 with
 |none=>rw [h1] at h0;cases h0
 |some m=>
  rw [h1,Option.bind_some] at h0
  cases h2:Go.Proofs.YtifpinhjpbgnoaaGreatDoor.onc (perS c) M m with
  |none=>rw [h2] at h0;cases h0
  |some m'=>
   obtain ⟨a1,a2,a3⟩:=onc_spec h1
   obtain ⟨b1,b2,b3⟩:=onc_spec h2
   refine ⟨a2,b2,fun i hi=> ?_⟩
   cases hM:hasI M i with
   |false=>rfl
   |true=>
    obtain ⟨x,hx,rfl⟩:=hasI_mem hM
    have:=b1 x hx
    rw [a3,hi] at this;simp at this
def zipW (D:DS) (l:Nat) (c:Int):List Int→List Nat→List (Nat×Nat)
 |x::L,k::ks=>tkW D l c x.toNat k::zipW D l c L ks
 |_,_=> []
def orL (L:List Int) (b:Nat):Nat:=L.foldl (fun b x=>b|||2^x.toNat) b
def dpL (D:DS) (l:Nat) (c:Int) (L:List Int) (b:Nat):Nat:=L.foldl (fun b x=>dpB D l c x.toNat b) b
theorem orL_cons (x:Int) (L:List Int) (b:Nat):orL (x::L) b=orL L (b|||2^x.toNat):=List.foldl_cons ..
theorem dpL_cons (D:DS) (l:Nat) (c:Int) (x:Int) (L:List Int) (b:Nat):dpL D l c (x::L) b=dpL D l c L (dpB D l c x.toNat b):=List.foldl_cons ..
def kOf:List Int→List Nat→Nat→Option Nat
 |x::L,k::ks,i=>if x.toNat=i then some k else kOf L ks i
 |_,_,_=>none
section
variable {D:DS} {l:Nat} {c o:Int}
theorem chT_spec:∀{L:List Int} {ks:List Nat} {acc:List (Nat×Nat)} {b:Nat} {r:List (Nat×Nat)×Nat},ks.length=L.length→chT D l c L ks acc b=some r→(∀x∈L,tkOk D l c x.toNat=true)∧r.1=acc++zipW D l c L ks∧r.2=orL L b:=by
 intro L
 induction L with
 |nil=>
  intro ks acc b r hk h
  have:ks= []:=by simpa using hk
  subst this
  simp only [chT] at h;injection h with h;subst h
  exact ⟨fun x hx=>(by cases hx),by simp [zipW],rfl⟩
 |cons x L ih=>
  intro ks acc b r hk h
  cases ks with
  |nil=>simp at hk
  |cons k ks=>
   simp only [chT] at h
   split at h
   ·rename_i hx
    obtain ⟨h1,h2,h3⟩:=ih (by simpa using hk) h
    refine ⟨fun y hy=> ?_,?_,by rw [orL_cons];exact h3⟩
    ·rcases List.mem_cons.1 hy with rfl|hy
     ·exact hx
     ·exact h1 y hy
    ·rw [h2,zipW,List.append_assoc];rfl
   ·cases h
theorem chDr_spec:∀{M:List Int} {acc:List (Nat×Nat)} {b:Nat} {r:List (Nat×Nat)×Nat},chDr D l c M acc b=some r→(∀x∈M,dpOk D l c x.toNat=true)∧r.1=acc++M.map (fun x=>dpW D l c x.toNat)∧r.2=dpL D l c M b:=by
 intro M
 induction M with
 |nil=>intro acc b r h;simp only [chDr] at h;injection h with h;subst h;exact ⟨fun x hx=>(by cases hx),by simp,rfl⟩
 |cons x M ih=>
  intro acc b r h
  simp only [chDr] at h
  split at h
  ·rename_i hx
   obtain ⟨h1,h2,h3⟩:=ih h
   refine ⟨fun y hy=> ?_,?_,by rw [dpL_cons];exact h3⟩
   ·rcases List.mem_cons.1 hy with rfl|hy
    ·exact hx
    ·exact h1 y hy
   ·rw [h2,List.map_cons,List.append_assoc];rfl
  ·cases h
theorem bit_orL:∀(L:List Int) (b i:Nat),bitB (orL L b) i=(bitB b i||hasI L i):=by
 intro L
 induction L with
 |nil=>intro b i;simp [orL,hasI]
 |cons x L ih=>intro b i;rw [orL_cons,ih,bit_or,bit_pow,hasI_cons,Bool.or_assoc]
theorem bit_dpL:∀(M:List Int) (b i:Nat),i<64→bitB (dpL D l c M b) i=(bitB b i&& !(hasI M i&&decide (freS (bG (wd D l (offN c i)))=176))):=by
 intro M
 induction M with
 |nil=>intro b i _;simp [dpL,hasI]
 |cons x M ih=>
  intro b i hi
  rw [dpL_cons,ih _ _ hi,hasI_cons]
  unfold dpB
  by_cases hx:x.toNat=i
  ·rw [hx]
   by_cases hf:freS (bG (wd D l (offN c i)))=176
   ·rw [if_pos hf,bit_clr _ _ _ hi];simp [hf]
   ·rw [if_neg hf];simp [hf]
  ·rw [decide_eq_false hx,Bool.false_or]
   split
   ·rw [bit_clr _ _ _ hi,decide_eq_false hx];simp
   ·rfl
theorem orL_lt:∀(L:List Int) (b:Nat),(∀x∈L,x.toNat<64)→b<18446744073709551616→orL L b<18446744073709551616:=by
 intro L
 induction L with
 |nil=>intro b _ h;exact h
 |cons x L ih=>intro b hx h;rw [orL_cons];exact ih _ (fun y hy=>hx y (by simp [hy])) (or_lt64 h (pow_lt64 (hx x (by simp))))
theorem dpL_lt:∀(M:List Int) (b:Nat),b<18446744073709551616→dpL D l c M b<18446744073709551616:=by
 intro M
 induction M with
 |nil=>intro b h;exact h
 |cons x M ih=>
  intro b h
  rw [dpL_cons]
  refine ih _ ?_
  unfold dpB
  split
  ·exact Nat.lt_of_le_of_lt Nat.and_le_left h
  ·exact h
theorem zipW_mem:∀{L:List Int} {ks:List Nat} {y:Nat×Nat},y∈zipW D l c L ks→∃x∈L,∃k∈ks,y=tkW D l c x.toNat k∧((L.map Int.toNat).Nodup→kOf L ks x.toNat=some k):=by
 intro L
 induction L with
 |nil=>intro ks y h;simp [zipW] at h
 |cons x L ih=>
  intro ks y h
  cases ks with
  |nil=>simp [zipW] at h
  |cons k ks=>
   simp only [zipW,List.mem_cons] at h
   rcases h with rfl|h
   ·exact ⟨x,by simp,k,by simp,rfl,fun _=>by simp [kOf]⟩
   ·obtain ⟨x',hx',k',hk',rfl,hof⟩:=ih h
    refine ⟨x',by simp [hx'],k',by simp [hk'],rfl,fun hn=> ?_⟩
    rw [List.map_cons,List.nodup_cons] at hn
    have hne:¬x.toNat=x'.toNat:=fun he=>hn.1 (by rw [he];exact List.mem_map.2 ⟨x',hx',rfl⟩)
    rw [kOf,if_neg hne];exact hof hn.2
theorem kOf_mem:∀{L:List Int} {ks:List Nat} {i k:Nat},kOf L ks i=some k→tkW D l c i k∈zipW D l c L ks∧hasI L i=true∧k∈ks:=by
 intro L
 induction L with
 |nil=>intro ks i k h;simp [kOf] at h
 |cons x L ih=>
  intro ks i k h
  cases ks with
  |nil=>simp [kOf] at h
  |cons k' ks=>
   simp only [kOf] at h
   split at h
   ·rename_i hx;injection h with h;subst h;subst hx
    exact ⟨by simp [zipW],by simp [hasI_cons],by simp⟩
   ·obtain ⟨h1,h2,h3⟩:=ih h
    exact ⟨by simp [zipW,h1],by simp [hasI_cons,h2],by simp [h3]⟩
theorem kOf_none:∀{L:List Int} {ks:List Nat} {i:Nat},ks.length=L.length→kOf L ks i=none→hasI L i=false:=by
 intro L
 induction L with
 |nil=>intro ks i _ _;rfl
 |cons x L ih=>
  intro ks i hk h
  cases ks with
  |nil=>simp at hk
  |cons k' ks=>
   simp only [kOf] at h
   split at h
   ·cases h
   ·rename_i hx;rw [hasI_cons,decide_eq_false hx,Bool.false_or];exact ih (by simpa using hk) h
def actX (D:DS) (l:Nat) (c:Int) (L:List Int) (ks:List Nat) (M:List Int) (i:Nat):Nat:=
 match kOf L ks i with
 |some k=>(tkW D l c i k).2
 |none=>if hasI M i=true then (dpW D l c i).2 else wd D l (offN c i)
theorem actN_spec {L M:List Int} {ks:List Nat} {ws:List (Nat×Nat)} (hk:ks.length=L.length) (h:actN D l c L ks M=some ws):(∀x∈L,tkOk D l c x.toNat=true)∧(∀x∈M,dpOk D l c x.toNat=true)∧((ws= []∧L= []∧M= [])∨ws=zipW D l c L ks++M.map (fun x=>dpW D l c x.toNat)++ [(l*64+8,dpL D l c M (orL L (wd D l 1)))]):=by
 unfold actN at h
 split at h
 ·rename_i h0
  injection h with h
  have e1:L= []:=by simpa using h0.1
  have e2:M= []:=by simpa using h0.2
  subst e1;subst e2
  exact ⟨fun x hx=>(by cases hx),fun x hx=>(by cases hx),.inl ⟨h.symm,rfl,rfl⟩⟩
 ·cases h1:chT D l c L ks [] (wd D l 1) with
  |none=>rw [h1] at h;cases h
  |some r=>
   obtain ⟨a1,a2,a3⟩:=chT_spec hk h1
   obtain ⟨r1,r2⟩:=r
   rw [h1] at h
   simp only at h a2 a3
   cases h2:chDr D l c M r1 r2 with
   |none=>rw [h2] at h;cases h
   |some q=>
    obtain ⟨b1,b2,b3⟩:=chDr_spec h2
    obtain ⟨q1,q2⟩:=q
    rw [h2] at h
    simp only at h b2 b3
    injection h with h
    refine ⟨a1,b1,.inr ?_⟩
    rw [←h,b2,b3,a2,a3,List.nil_append]
end
structure ActE (D D':DS) (l:Nat) (c:Int) (L:List Int) (ks:List Nat) (M:List Int) (ws:List (Nat×Nat)):Prop where
 ok:∀x∈ws,x.1%8=0∧x.1<D.n*64∧x.2<18446744073709551616
 on:On D'
 rest:∀j,j<256→(∀i:Nat,(i:Int)<perS c→j≠offN c i)→j≠1→wd D' l j=wd D l j
 blk:∀i:Nat,(i:Int)<perS c→wd D' l (offN c i)=actX D l c L ks M i
 map:wd D' l 1=dpL D l c M (orL L (wd D l 1))
 far:∀j,(j<l*8∨l*8+256≤j)→D'.cur j=D.cur j
 len:ws.length≤L.length+M.length+1
 tk:∀x∈L,tkOk D l c x.toNat=true
 dp:∀x∈M,dpOk D l c x.toNat=true
theorem act_wd {D:DS} {l:Nat} {c:Int} (on:On D) (hg:Good D) (hl:l+32≤D.n) (c0:0≤c) (c5:c<5) {L M:List Int} {ks:List Nat} {ws:List (Nat×Nat)} (ha:ActA c L ks M) (hs:actN D l c L ks M=some ws):ActE D (D.strs ws) l c L ks M ws:=by
 have hn:=hg.n
 have hp:=perS_in c0 c5
 obtain ⟨h1,h2,h3⟩:=actN_spec ha.len hs
 have vL:=ha.vL
 have vM:=ha.vM
 obtain ⟨n1,n2,n3⟩:=ha.nd
 have hw1:wd D l 1<18446744073709551616:=by unfold wd;exact hg.cur _ (by omega)
 have zl:∀(L:List Int) (ks:List Nat),(zipW D l c L ks).length≤L.length:=by
  intro L
  induction L with
  |nil=>intro ks;simp [zipW]
  |cons x L ih=>intro ks;cases ks with
   |nil=>simp [zipW]
   |cons k ks=>simp only [zipW,List.length_cons];have:=ih ks;omega
 have tkw:∀x∈L,∀k∈ks,(tkW D l c x.toNat k).1=l*64+offN c x.toNat*8∧(tkW D l c x.toNat k).2<18446744073709551616:=fun x hx k hk=>⟨rfl,sealN_lt _ (blkX_lt (bG_lt _) (by have:=(ha.kin k hk).2;omega) (by omega))⟩
 have dpw:∀x∈M,(dpW D l c x.toNat).1=l*64+offN c x.toNat*8∧(dpW D l c x.toNat).2<18446744073709551616:=fun x hx=>⟨rfl,sealN_lt _ (blkX_lt (freG_lt (bG_lt _)) (by omega) (freS_lt _))⟩
 have bdi:∀x:Int,0≤x∧x<perS c→8≤offN c x.toNat∧offN c x.toNat<256∧(x.toNat:Int)<perS c:=fun x hx=>by
  have:=offN_bd c0 c5 (i:=x.toNat) (by omega)
  omega
 have mem:∀y∈ws,(∃x∈L,∃k∈ks,y=tkW D l c x.toNat k∧kOf L ks x.toNat=some k)∨(∃x∈M,y=dpW D l c x.toNat)∨y=(l*64+8,dpL D l c M (orL L (wd D l 1))):=by
  intro y hy
  rcases h3 with ⟨rfl,_⟩|rfl
  ·cases hy
  ·simp only [List.mem_append,List.mem_map,List.mem_singleton] at hy
   rcases hy with (hy|⟨x,hx,rfl⟩)|rfl
   ·obtain ⟨x,hx,k,hk,e,hf⟩:=zipW_mem hy
    exact .inl ⟨x,hx,k,hk,e,hf n1⟩
   ·exact .inr (.inl ⟨x,hx,rfl⟩)
   ·exact .inr (.inr rfl)
 have ok:∀x∈ws,x.1%8=0∧x.1<D.n*64∧x.2<18446744073709551616:=by
  intro y hy
  rcases mem y hy with ⟨x,hx,k,hk,rfl,_⟩|⟨x,hx,rfl⟩|rfl
  ·have:=tkw x hx k hk;have:=bdi x (vL x hx);omega
  ·have:=dpw x hx;have:=bdi x (vM x hx);omega
  ·exact ⟨by simp only;omega,by simp only;omega,dpL_lt _ _ (orL_lt _ _ (fun x hx=>by have:=vL x hx;omega) hw1)⟩
 obtain ⟨o1,o2⟩:=strs_on on (fun x hx=>⟨(ok x hx).1,(ok x hx).2.1⟩)
 refine ⟨ok,o1,fun j hj hji hj1=> ?_,fun i hi=> ?_,?_,fun j hj=> ?_,?_,h1,h2⟩
 ·unfold wd;rw [o2]
  refine applyH_other _ _ _ (fun y hy=> ?_)
  rcases mem y hy with ⟨x,hx,k,hk,rfl,_⟩|⟨x,hx,rfl⟩|rfl
  ·have h4:=bdi x (vL x hx);have:=hji _ h4.2.2;rw [(tkw x hx k hk).1];omega
  ·have h4:=bdi x (vM x hx);have:=hji _ h4.2.2;rw [(dpw x hx).1];omega
  ·simp only;omega
 ·have bd:=offN_bd c0 c5 hi
  have inj:∀x:Int,0≤x∧x<perS c→l*64+offN c x.toNat*8=(l*8+offN c i)*8→x.toNat=i:=fun x hx he=>offN_inj c0 c5 (by omega)
  unfold wd;rw [o2];unfold actX
  cases hk:kOf L ks i with
  |some k=>
   obtain ⟨k1,k2,k3⟩:=kOf_mem (D:=D) (l:=l) (c:=c) hk
   have hm:=n3 i k2
   refine applyH_val (fun y hy he=> ?_) (.inl ⟨tkW D l c i k,?_,by show (l*64+offN c i*8)/8=_;omega⟩)
   ·rcases mem y hy with ⟨x,hx,k',hk',rfl,hf⟩|⟨x,hx,rfl⟩|rfl
    ·have:=inj x (vL x hx) (by rw [(tkw x hx k' hk').1] at he;omega)
     subst this
     rw [hk] at hf;injection hf with hf;subst hf;rfl
    ·have:=inj x (vM x hx) (by rw [(dpw x hx).1] at he;omega)
     subst this
     rw [hasI_of hx] at hm;cases hm
    ·simp only at he;omega
   ·rcases h3 with ⟨_,e,_⟩|rfl
    ·rw [e] at k2;cases k2
    ·simp [k1]
  |none=>
   have hLn:=kOf_none ha.len hk
   by_cases hm:hasI M i=true
   ·rw [if_pos hm]
    obtain ⟨x0,hx0,e0⟩:=hasI_mem hm
    refine applyH_val (fun y hy he=> ?_) (.inl ⟨dpW D l c i,?_,by show (l*64+offN c i*8)/8=_;omega⟩)
    ·rcases mem y hy with ⟨x,hx,k',hk',rfl,hf⟩|⟨x,hx,rfl⟩|rfl
     ·have:=inj x (vL x hx) (by rw [(tkw x hx k' hk').1] at he;omega)
      subst this
      rw [hasI_of hx] at hLn;cases hLn
     ·have:=inj x (vM x hx) (by rw [(dpw x hx).1] at he;omega)
      subst this;rfl
     ·simp only at he;omega
    ·rcases h3 with ⟨_,_,e⟩|rfl
     ·rw [e] at hx0;cases hx0
     ·have:dpW D l c i∈M.map (fun x=>dpW D l c x.toNat):=List.mem_map.2 ⟨x0,hx0,by rw [e0]⟩
      simp only [List.mem_append];exact .inl (.inr this)
   ·rw [if_neg hm]
    unfold wd
    refine applyH_other _ _ _ (fun y hy he=> ?_)
    rcases mem y hy with ⟨x,hx,k',hk',rfl,hf⟩|⟨x,hx,rfl⟩|rfl
    ·have:=inj x (vL x hx) (by rw [(tkw x hx k' hk').1] at he;omega)
     subst this
     rw [hasI_of hx] at hLn;cases hLn
    ·have:=inj x (vM x hx) (by rw [(dpw x hx).1] at he;omega)
     subst this;exact hm (hasI_of hx)
    ·simp only at he;omega
 ·rcases h3 with ⟨rfl,rfl,rfl⟩|e
  ·unfold wd;rw [o2];rfl
  ·have:wd (D.strs ws) l 1=applyH ws D.cur (l*8+1):=by unfold wd;rw [o2]
   rw [this]
   refine applyH_val (fun y hy he=> ?_) (.inl ⟨(l*64+8,dpL D l c M (orL L (wd D l 1))),by rw [e];simp,by simp only;omega⟩)
   rcases mem y hy with ⟨x,hx,k',hk',rfl,hf⟩|⟨x,hx,rfl⟩|rfl
   ·have h4:=bdi x (vL x hx);rw [(tkw x hx k' hk').1] at he;omega
   ·have h4:=bdi x (vM x hx);rw [(dpw x hx).1] at he;omega
   ·rfl
 ·rw [o2]
  refine applyH_other _ _ _ (fun y hy=> ?_)
  rcases mem y hy with ⟨x,hx,k,hk,rfl,_⟩|⟨x,hx,rfl⟩|rfl
  ·have h4:=bdi x (vL x hx);rw [(tkw x hx k hk).1];omega
  ·have h4:=bdi x (vM x hx);rw [(dpw x hx).1];omega
  ·simp only;omega
 ·rcases h3 with ⟨rfl,_⟩|rfl
  ·simp
  ·have:=zl L ks;simp;omega
structure Snd (D:DS) (l:Nat) (c o:Int):Prop where
 hd:hdOk (wd D l 0)=true
 hc:hC (wd D l 0)=c
 ho:hO (wd D l 0)=o
 zer:∀j,2≤j→j<8→wd D l j=0
 sl:∀i:Nat,(i:Int)<perS c→isS (wd D l (offN c i))=true
 gd:∀i:Nat,(i:Int)<perS c→goodB (bG (wd D l (offN c i))) (bK (wd D l (offN c i))) (bS (wd D l (offN c i)))=true
 bit:∀i:Nat,i<64→bitB (wd D l 1) i=(decide ((i:Int)<perS c)&& !decide (bS (wd D l (offN c i))=176))
section
variable {D D':DS} {l:Nat} {c o:Int}
theorem good_g {g k s:Nat} (h:goodB g k s=true):g≠0:=by
 unfold goodB at h
 split at h
 ·simp at h;exact h.1
 ·split at h
  ·simp at h;exact h.1.1
  ·split at h
   ·simp at h;omega
   ·cases h
theorem good_fre (g:Nat):goodB (freG g) 0 (freS g)=true:=by
 unfold freG freS goodB
 by_cases h:g=65535
 ·simp [h]
 ·simp [h]
theorem tk_parts {i:Nat} (h:tkOk D l c i=true):isS (wd D l (offN c i))=true∧bitB (wd D l 1) i=false∧bS (wd D l (offN c i))=176∧goodB (bG (wd D l (offN c i))) (bK (wd D l (offN c i))) (bS (wd D l (offN c i)))=true:=by
 unfold tkOk at h
 simp only [Bool.and_eq_true,Bool.not_eq_true',decide_eq_true_eq] at h
 exact h
theorem dp_parts {i:Nat} (h:dpOk D l c i=true):isS (wd D l (offN c i))=true∧bitB (wd D l 1) i=true∧bS (wd D l (offN c i))=177:=by
 unfold dpOk at h
 simp only [Bool.and_eq_true,decide_eq_true_eq] at h
 exact h
theorem tkW_parts (i k:Nat) (hk:k<256):isS (tkW D l c i k).2=true∧bG (tkW D l c i k).2=bG (wd D l (offN c i))∧bK (tkW D l c i k).2=k∧bS (tkW D l c i k).2=177:=⟨isS_blk (bG_lt _) hk (by omega),bG_blk (bG_lt _) hk (by omega),bK_blk (bG_lt _) hk (by omega),bS_blk (bG_lt _) hk (by omega)⟩
theorem dpW_parts (i:Nat):isS (dpW D l c i).2=true∧bG (dpW D l c i).2=freG (bG (wd D l (offN c i)))∧bK (dpW D l c i).2=0∧bS (dpW D l c i).2=freS (bG (wd D l (offN c i))):=⟨isS_blk (freG_lt (bG_lt _)) (by omega) (freS_lt _),bG_blk (freG_lt (bG_lt _)) (by omega) (freS_lt _),bK_blk (freG_lt (bG_lt _)) (by omega) (freS_lt _),bS_blk (freG_lt (bG_lt _)) (by omega) (freS_lt _)⟩
theorem Snd.act {L M:List Int} {ks:List Nat} {ws:List (Nat×Nat)} (h:Snd D l c o) (c0:0≤c) (c5:c<5) (ha:ActA c L ks M) (e:ActE D D' l c L ks M ws):Snd D' l c o:=by
 have bd:=fun (i:Nat) (hi:(i:Int)<perS c)=>offN_bd c0 c5 hi
 have r:∀j,j<8→j≠1→wd D' l j=wd D l j:=fun j hj h1=>e.rest j (by omega) (fun i hi=>by have:=bd i hi;omega) h1
 have r0:=r 0 (by omega) (by omega)
 obtain ⟨n1,n2,n3⟩:=ha.nd
 have kk:∀{i k:Nat},kOf L ks i=some k→k≠0∧k≤127∧tkOk D l c i=true∧hasI L i=true∧hasI M i=false:=fun {i k} hk=>by
  obtain ⟨k1,k2,k3⟩:=kOf_mem (D:=D) (l:=l) (c:=c) hk
  obtain ⟨x,hx,rfl⟩:=hasI_mem k2
  exact ⟨(ha.kin k k3).1,(ha.kin k k3).2,e.tk x hx,k2,n3 _ k2⟩
 have mm:∀{i:Nat},hasI M i=true→dpOk D l c i=true:=fun {i} hm=>by obtain ⟨x,hx,rfl⟩:=hasI_mem hm;exact e.dp x hx
 refine ⟨by rw [r0];exact h.hd,by rw [r0];exact h.hc,by rw [r0];exact h.ho,fun j h2 h8=>by rw [r j h8 (by omega)];exact h.zer j h2 h8,fun i hi=> ?_,fun i hi=> ?_,fun i h64=> ?_⟩
 ·rw [e.blk i hi];unfold actX
  cases hk:kOf L ks i with
  |some k=>exact (tkW_parts i k (by have:=kk hk;omega)).1
  |none=>
   simp only
   split
   ·exact (dpW_parts i).1
   ·exact h.sl i hi
 ·rw [e.blk i hi];unfold actX
  cases hk:kOf L ks i with
  |some k=>
   have h1:=kk hk
   obtain ⟨_,a,b,d⟩:=tkW_parts (D:=D) (l:=l) (c:=c) i k (by omega)
   simp only [a,b,d]
   have hg:=good_g (tk_parts h1.2.2.1).2.2.2
   simp [goodB,hg,h1.1,h1.2.1]
  |none=>
   simp only
   split
   ·obtain ⟨_,a,b,d⟩:=dpW_parts (D:=D) (l:=l) (c:=c) i
    rw [a,b,d];exact good_fre _
   ·exact h.gd i hi
 ·rw [e.map,bit_dpL _ _ _ h64,bit_orL,h.bit i h64]
  by_cases hi:(i:Int)<perS c
  ·rw [e.blk i hi,decide_eq_true hi];unfold actX
   cases hk:kOf L ks i with
   |some k=>
    have h1:=kk hk
    simp only [h1.2.2.2.1,h1.2.2.2.2,(tkW_parts (D:=D) (l:=l) (c:=c) i k (by omega)).2.2.2]
    simp
   |none=>
    have hL:=kOf_none ha.len hk
    simp only [hL]
    by_cases hm:hasI M i=true
    ·have h1:=dp_parts (mm hm)
     have h2:=h.bit i h64
     rw [h1.2.1,decide_eq_true hi,Bool.true_and] at h2
     simp only [hm,if_true,(dpW_parts (D:=D) (l:=l) (c:=c) i).2.2.2,←h2]
     simp
    ·have hm:hasI M i=false:=by simpa using hm
     simp [hm]
  ·have hL:hasI L i=false:=by
    cases hh:hasI L i with
    |false=>rfl
    |true=>obtain ⟨x,hx,rfl⟩:=hasI_mem hh;have:=ha.vL x hx;omega
   have hM:hasI M i=false:=by
    cases hh:hasI M i with
    |false=>rfl
    |true=>obtain ⟨x,hx,rfl⟩:=hasI_mem hh;have:=ha.vM x hx;omega
   simp [hL,hM,hi]
theorem bit_mskN:∀(n i:Nat),bitB (mskN D l c n) i=(decide (i<n)&& !decide (bS (wd D l (offN c i))=176)):=by
 intro n
 induction n with
 |zero=>intro i;simp [mskN,bitB]
 |succ n ih=>
  intro i
  simp only [mskN]
  by_cases hin:i=n
  ·subst hin
   split
   ·rename_i h;rw [ih];simp [h]
   ·rename_i h;rw [bit_or,ih,bit_pow];simp [h]
  ·have e1:decide (i<n+1)=decide (i<n):=by congr 1;simp only [eq_iff_iff];omega
   have e2:decide (n=i)=false:=by simp;omega
   split
   ·rw [ih,e1]
   ·rw [bit_or,ih,bit_pow,e1,e2,Bool.or_false]
theorem eq_of_bits {x y:Nat} (hx:x<18446744073709551616) (hy:y<18446744073709551616) (h:∀i,i<64→bitB x i=bitB y i):x=y:=by
 apply Nat.eq_of_testBit_eq
 intro i
 by_cases hi:i<64
 ·have:=h i hi;rwa [bit_tb,bit_tb] at this
 ·have p:2^64≤2^i:=Nat.pow_le_pow_right (by omega) (by omega)
  rw [Nat.testBit_lt_two_pow (Nat.lt_of_lt_of_le hx (by simpa using p)),Nat.testBit_lt_two_pow (Nat.lt_of_lt_of_le hy (by simpa using p))]
theorem gdN_all:∀(n:Nat),(∀i,i<n→isS (wd D l (offN c i))=true∧goodB (bG (wd D l (offN c i))) (bK (wd D l (offN c i))) (bS (wd D l (offN c i)))=true)→gdN D l c n=true:=by
 intro n
 induction n with
 |zero=>intro _;rfl
 |succ n ih=>
  intro h
  have h1:=h n (by omega)
  simp only [gdN,ih (fun i hi=>h i (by omega)),h1.1,h1.2];rfl
theorem zerN_all:∀(n:Nat),(∀i,i<n→wd D l (i+2)=0)→zerN D l n=true:=by
 intro n
 induction n with
 |zero=>intro _;rfl
 |succ n ih=>
  intro h
  simp only [zerN,ih (fun i hi=>h i (by omega)),h n (by omega)];rfl
theorem Snd.con (h:Snd D l c o) (hg:Good D) (hl:l+32≤D.n) (c0:0≤c) (c5:c<5):conB D l c o=true:=by
 have hp:=perS_in c0 c5
 obtain ⟨n,hn⟩:∃n:Nat,perS c=(n:Int):=⟨(perS c).toNat,by omega⟩
 have hw:wd D l 1<18446744073709551616:=by unfold wd;exact hg.cur _ (by omega)
 have hm:=mskN_lt D l c n
 have h2:=pow_lt64 (show n<64 by omega)
 have e:wd D l 1=mskN D l c n:=eq_of_bits hw (by omega) (fun i hi=>by
  rw [h.bit i hi,bit_mskN,hn]
  congr 2;simp)
 unfold conB
 rw [hn,Int.toNat_natCast,h.hd,decide_eq_true h.hc,decide_eq_true h.ho,zerN_all 6 (fun i hi=>h.zer _ (by omega) (by omega)),gdN_all n (fun i hi=>⟨h.sl i (by omega),h.gd i (by omega)⟩),decide_eq_true e]
 rfl
end
def chF (T l:Nat) (c o:Int) (g:Nat) (i:Nat):Value:= [Value.iface 25 (.pointer (some ⟨T,0,none⟩)),.int .i64 (l:Int),.int .i64 c,.int .i64 o,.int .u16 (g:Int)].getD i undef
structure Loc (w0 w:World) (Y:Lay) (D:DS) (B l:Nat) (c o:Int) (g:Nat):Prop where
 L:Lv w0 w Y D
 bx:Cells w B 69 5 (chF (Y.tb 0) l c o g)
 nb:¬Y.F B
 on:On D
 lt:l+32≤D.n
 gl:Glob w0
 c0:0≤c
 c5:c<5
def Out (w0:World) (Y:Lay) (B:Nat) (v:Value):Prop:=∀b,v.ownBlock=some b→w0.heap.size≤b∧¬Y.F b∧b≠B
section
variable {w0 w w':World} {Y Y':Lay} {D D':DS} {B l:Nat} {c o:Int} {g:Nat}
theorem Loc.ext (h:Loc w0 w Y D B l c o g) (e:Ext w w'):Loc w0 w' Y D B l c o g:=⟨h.L.ext e,h.bx.ext e,h.nb,h.on,h.lt,h.gl,h.c0,h.c5⟩
theorem Loc.step (h:Loc w0 w Y D B l c o g) (s:Stp w Y w' Y' D') (gd:Good D') (on:On D') (hn:D'.n=D.n):Loc w0 w' Y' D' B l c o g:=by
 have tb:Y'.tb 0=Y.tb 0:=by rw [s.tb]
 refine ⟨h.L.step s gd,?_,fun hf=> ?_,on,by rw [hn];exact h.lt,h.gl,h.c0,h.c5⟩
 ·rw [tb];exact h.bx.frm s.frm h.nb
 ·rcases s.fr B hf with h1|h1
  ·exact h.nb h1
  ·have:=h.bx.lt;omega
theorem Loc.cx (h:Loc w0 w Y D B l c o g):Cx w Y D l c:=h.L.cx h.gl h.on.off h.lt h.c0 h.c5
theorem Loc.cells (h:Loc w0 w Y D B l c o g):w.cell? ⟨B,0,none⟩=some (.iface 25 (.pointer (some ⟨Y.tb 0,0,none⟩)))∧w.cell? ⟨B,1,none⟩=some (.int .i64 (l:Int))∧w.cell? ⟨B,2,none⟩=some (.int .i64 c)∧w.cell? ⟨B,3,none⟩=some (.int .i64 o)∧w.cell? ⟨B,4,none⟩=some (.int .u16 (g:Int)):=
 ⟨h.bx.cell (i:=0) (by omega),h.bx.cell (i:=1) (by omega),h.bx.cell (i:=2) (by omega),h.bx.cell (i:=3) (by omega),h.bx.cell (i:=4) (by omega)⟩
theorem Loc.ltB (h:Loc w0 w Y D B l c o g):B<w.heap.size:=h.bx.lt
theorem Loc.frm {G:Nat→Prop} (h:Loc w0 w Y D B l c o g) (f:Frm G w w') (hG:∀b,G b→w0.heap.size≤b∧¬Y.F b∧b≠B):Loc w0 w' Y D B l c o g:=
 ⟨⟨h.L.dv.frm f (fun b hb hg=>(hG b hg).2.1 hb),h.L.gd,Ext.frm h.L.ex f (fun x hx=>(hG x hx).1),h.L.nw⟩,h.bx.frm f (fun hb=>(hG B hb).2.2 rfl),h.nb,h.on,h.lt,h.gl,h.c0,h.c5⟩
theorem Out.step {v:Value} {t:TypeId} {z n:Nat} {L:List Value} (h:Out w0 Y B v) (hs:SlO w t z v n L) (s:Stp w Y w' Y' D'):Out w0 Y' B v∧SlO w' t z v n L:=by
 refine ⟨fun b hb=>⟨(h b hb).1,fun hf=> ?_,(h b hb).2.2⟩,hs.frm s.frm (fun b hb=>(h b hb).2.1)⟩
 rcases s.fr b hf with h1|h1
 ·exact (h b hb).2.1 h1
 ·have:=hs.lt hb;omega
theorem Out.nil (w0:World) (Y:Lay) (B:Nat):Out w0 Y B (.slice none 0 0):=fun b hb=>by cases hb
theorem Out.new {v:Value} (h:Loc w0 w Y D B l c o g) (hv:NewV w.heap.size v):Out w0 Y B v:=fun b hb=>by
 have h1:=hv b hb
 have h2:=h.ltB
 have h3:=h.L.ex.size
 exact ⟨by omega,fun hf=>by have:=h.L.dv.lt hf;omega,by omega⟩
theorem Loc.er (h:Loc w0 w Y D B l c o g):∀(w1:World) (K:K1),Ext w w1→callS prog 19 #[.pointer (some ⟨Y.tb 0,0,none⟩)] w1 K=K (.int .i64 0) w1:=fun w1 K e=>by rw [c_Err (h.L.dv.ext e) 0 (by omega) K,h.on.err]
theorem pO_ptr (off g k:Nat) (h8:off%8=0) (ho:off<34359738368):pO (ptrN off g k)=off:=by unfold pO ptrN;omega
theorem pG_ptr (off g k:Nat) (ho:off<34359738368) (hg:g<65536):pG (ptrN off g k)=g:=by unfold pG ptrN;omega
theorem pK_ptr (off g k:Nat) (ho:off<34359738368) (hg:g<65536) (hk:k<256):pK (ptrN off g k)=k:=by unfold pK ptrN;omega
theorem ptr_bd (off g k:Nat) (ho:off<34359738368) (hg:g<65536) (hk:k≤127) (h0:off≠0) (h8:off%8=0):ptrN off g k≠0∧ptrN off g k<72057594037927936:=by unfold ptrN;omega
theorem pOff_bd {l:Nat} {c:Int} {i:Nat} (hl:l≤4096) (c0:0≤c) (c5:c<5) (hi:(i:Int)<perS c):pOff l c i%8=0∧pOff l c i<34359738368∧pOff l c i≠0:=by
 have:=offN_bd c0 c5 hi;unfold pOff;omega
theorem Snd.sndB {l:Nat} {c o:Int} (h:Snd D l c o) (c0:0≤c) (c5:c<5) (i:Nat) (hi:(i:Int)<perS c):sndB D l c i:=by
 have hp:=perS_in c0 c5
 refine ⟨h.sl i hi,h.gd i hi,?_⟩
 rw [h.bit i (by omega),decide_eq_true hi,Bool.true_and]
end
noncomputable def f14_u:Code×Dec:=((Tryz.f14.body).getD .skip,(.s .o (.s .o (.s .o (.s .o (.x 512 (.s .o (.b (.l [29] 268435971 2305843008676838592 .o))) .o))))))
abbrev f14_e (K:K1):KF:=endK prog Tryz.f14.results.toList K
def f14_k1_o (K:K1):KF:=fun fr w=>∀σ,cP (pr (pr (pr (pr (pr f14_u))))) (f14_e K) (f14_e K) nX (mixF 512 σ 0 fr) w
def f14_k1 (K:K1) (x9:Value) (w:World):Prop:=f14_k1_o K (fz 62 0 [(9,x9)]) w
def f14_l1 (K:K1) (x0 x1 x9 x28 x29:Value) (w:World):Prop:=loopT [29] 268435971 (fun E=>cP (pl (pl (pr (pl (pr (pr (pr (pr f14_u)))))))) E (f14_e K) (exB 0 (f14_k1_o K) nX)) (fz 62 0 [(0,x0),(1,x1),(9,x9),(28,x28),(29,x29)]) w
def f14_k1_t (x9:Value) (K:K1) (w:World):Prop:=
 K (.tuple #[x9,(.int .i64 0)]) w
theorem f14_k1_eq (K:K1) (x9:Value) (w:World):f14_k1 K x9 w=f14_k1_t x9 K w:=cutE fun σ=>by kernel_rfl
def f14_l1_t (x0 x1 x9 x28 x29:Value) (K:K1) (E1:VP1) (w:World):Prop:=
 ev prog (binM .lss 3 (.tmp 29) (.tmp 28) x29 x28) w fun t30 w=>
 cndS t30 (
 ev prog (binM .mul 3 (.tmp 33) (.const (.int .i64 32)) x29 (.int .i64 32)) w fun t34 w=>
 ev prog (binM .add 3 (.tmp 32) (.tmp 34) x1 t34) w fun t35 w=>
 callS prog 48 (pA #[x0,t35]) w fun t39 w=>
 ev prog (Instr.extract t39 0) w fun t40 w=>
 ev prog (Instr.extract t39 1) w fun t41 w=>
 ev prog (Instr.alloc 67 true (.tuple #[])) w fun t12 w=>
 stS prog 67 t12 t40 w fun w=>
 ev prog (binM .neq 43 (.tmp 42) (.const (.int .i64 0)) t41 (.int .i64 0)) w fun t43 w=>
 cndS t43 (
 K (.tuple #[(.pointer none),t41]) w) (
 nilR prog x9 w.drew fun t47=>
 rd prog (Instr.fieldAt 108 t47 1) w.drew fun t48=>
 ldR prog 106 t48 w.drew fun t49=>
 rd prog (Instr.fieldAt 67 t12 0) w.drew fun t51=>
 ldR prog 3 t51 w.drew fun t52=>
 rd prog (Instr.fieldAt 67 t12 1) w.drew fun t53=>
 ldR prog 3 t53 w.drew fun t54=>
 rd prog (Instr.build 112 #[(0,t35),(1,t52),(2,t54)]) w.drew fun t55=>
 ev prog (Instr.buildSlice 106 1 #[(0,t55)]) w.drew fun t56 w=>
 (nilR prog x9 w (fun u=>u=t47))∧
 (ag prog (Instr.fieldAt 108 t47 1) w t48)∧
 (ldG prog 106 t48 w t49)∧
 bltS prog .append #[106,106] 106 #[false,false] (pA #[t49,t56]) w fun t57 w=>
 nilR prog x9 w fun t58=>
 rd prog (Instr.fieldAt 108 t58 1) w fun t59=>
 stS prog 106 t59 t57 w fun w=>
 ev prog (binM .add 3 (.tmp 29) (.const (.int .i64 1)) x29 (.int .i64 1)) w fun t60 w=>
 E1 t60 w)) (
 f14_k1 K x9 w)
theorem f14_l1_rule (x0 x1 x9 x28 x29:Value) (K:K1) (w:World) (I:VP1) (μ:Value→World→Nat) (h0:I x29 w)
  (hr:∀(x29:Value) (w:World),I x29 w→∀E1:VP1,(∀(y29:Value) (w':World),I y29 w'→μ y29 w'<μ x29 w→E1 y29 w')→f14_l1_t x0 x1 x9 x28 x29 K E1 w):f14_l1 K x0 x1 x9 x28 x29 w:=
 ⟨I,μ,h0,fun σ w hI E hE=>cast (by kernel_rfl) (hr (σ 29) w hI E hE)⟩
def f14_t (x0 x1 x2:Value) (K:K1) (w:World):Prop:=
 callS prog 47 (pA #[x0,x1,x2]) w fun t17 w=>
 ev prog (Op.unary .not t17) w fun t18 w=>
 cndS t18 (
 K (.tuple #[(.pointer none),(.int .i64 1)]) w) (
 invS prog x0 "Err" (pA #[]) w fun t20 w=>
 ev prog (binM .neq 43 (.tmp 21) (.const (.int .i64 0)) t20 (.int .i64 0)) w fun t22 w=>
 cndS t22 (
 K (.tuple #[(.pointer none),t20]) w) (
 ev prog (Instr.build 108 #[(0,x0)]) w fun t25 w=>
 ev prog (Instr.box 108 t25) w fun t26 w=>
 ev prog (binM .quo 3 (.tmp 27) (.const (.int .i64 32)) x2 (.int .i64 32)) w fun t28 w=>
 f14_l1 K x0 x1 t26 t28 (.int .i64 0) w))
theorem f14_call (x0 x1 x2:Value) (K:K1) (w:World) (h:f14_t x0 x1 x2 K w):callS prog 14 #[x0,x1,x2] w K:=
 call_of_txt (args:= [x0,x1,x2]) mixed Tryz.func14 f14_u.2 (by kernel_rfl) (cast (by kernel_rfl) h)
noncomputable def f22_u:Code×Dec:=((Tryz.f22.body).getD .skip,(.s .o (.s .o (.s .o (.s .o (.s .o (.s .o (.x 3591 .o .o))))))))
abbrev f22_e (K:K1):KF:=endK prog Tryz.f22.results.toList K
def f22_k1_o (K:K1):KF:=fun fr w=>∀σ,cP (pr (pr (pr (pr (pr (pr (pr f22_u))))))) (f22_e K) (f22_e K) nX (mixF 3591 σ 0 fr) w
def f22_k1 (K:K1) (x0 x1 x2 x9 x10 x11:Value) (w:World):Prop:=f22_k1_o K (fz 95 0 [(0,x0),(1,x1),(2,x2),(9,x9),(10,x10),(11,x11)]) w
def f22_k1_t (x0 x1 x2 x9 x10 x11:Value) (K:K1) (w:World):Prop:=
 ev prog (binM .neq 43 (.tmp 55) (.const (.int .i64 0)) x10 (.int .i64 0)) w fun t56 w=>
 cndS t56 (
 K (.tuple #[(.int .i64 0),x10]) w) (
 nilR prog x9 w.drew fun t60=>
 rd prog (Instr.fieldAt 112 t60 0) w.drew fun t61=>
 ldR prog 3 t61 w.drew fun t62=>
 rd prog (Instr.fieldAt 67 x11 2) w.drew fun t65=>
 ldR prog 34 t65 w.drew fun t66=>
 rd prog (Instr.build 67 #[(0,x2),(1,x1),(2,t66)]) w.drew fun t67=>
 callS prog 61 (pA #[t62,t67]) w.drew fun t68 w=>
 rd prog (Instr.extract t68 0) w fun t69=>
 rd prog (Instr.extract t68 1) w fun t70=>
 ev prog (binM .neq 43 (.tmp 71) (.const (.int .i64 0)) t70 (.int .i64 0)) w fun t72 w=>
 cndS t72 (
 K (.tuple #[(.int .i64 0),t70]) w) (
 nilS prog x0 w fun t76 w=>
 ev prog (Instr.fieldAt 108 t76 0) w fun t77 w=>
 ldS prog 66 t77 w fun t78 w=>
 callS prog 62 (pA #[t69,t78]) w fun t79 w=>
 ev prog (binM .neq 43 (.tmp 80) (.const (.int .i64 0)) t79 (.int .i64 0)) w fun t81 w=>
 cndS t81 (
 K (.tuple #[(.int .i64 0),t79]) w) (
 nilS prog x9 w fun t87 w=>
 ev prog (Instr.fieldAt 112 t87 1) w fun t88 w=>
 stS prog 3 t88 x2 w fun w=>
 nilS prog x9 w fun t89 w=>
 ev prog (Instr.fieldAt 112 t89 2) w fun t90 w=>
 stS prog 3 t90 x1 w fun w=>
 nilS prog x9 w fun t92 w=>
 ev prog (Instr.fieldAt 112 t92 0) w fun t93 w=>
 ldS prog 3 t93 w fun t94 w=>
 K (.tuple #[t94,(.int .i64 0)]) w)))
theorem f22_k1_eq (K:K1) (x0 x1 x2 x9 x10 x11:Value) (w:World):f22_k1 K x0 x1 x2 x9 x10 x11 w=f22_k1_t x0 x1 x2 x9 x10 x11 K w:=cutE fun σ=>by kernel_rfl
def f22_t (x0 x1 x2:Value) (K:K1) (w:World):Prop:=
 ev prog (binM .eql 26 (.tmp 14) (.const (.pointer none)) x0 (.pointer none)) w fun t15 w=>
 cndS t15 (
 K (.tuple #[(.int .i64 0),(.int .i64 5)]) w) (
 ev prog (binM .lss 3 (.tmp 16) (.const (.int .i64 0)) x1 (.int .i64 0)) w fun t17 w=>
 gd t17 false (fun k=>k x1 w) w fun t19 w=>
 gd t17 false (fun k=>ev prog (binM .geq 3 (.tmp 19) (.const (.int .i64 8)) t19 (.int .i64 8)) w k) w fun t20 w=>
 pickS t17 (.bool true) t20 w fun t21 w=>
 gd t21 false (fun k=>k x2 w) w fun t23 w=>
 gd t21 false (fun k=>callS prog 59 (pA #[t23]) w k) w fun t24 w=>
 gd t21 false (fun k=>ev prog (binM .eql 3 (.tmp 24) (.const (.int .i64 0)) t24 (.int .i64 0)) w k) w fun t25 w=>
 pickS t21 (.bool true) t25 w fun t26 w=>
 cndS t26 (
 K (.tuple #[(.int .i64 0),(.int .i64 1)]) w) (
 nilS prog x0 w fun t28 w=>
 ev prog (Instr.fieldAt 108 t28 0) w fun t29 w=>
 ldS prog 66 t29 w fun t30 w=>
 invS prog t30 "Err" (pA #[]) w fun t31 w=>
 ev prog (binM .neq 43 (.tmp 32) (.const (.int .i64 0)) t31 (.int .i64 0)) w fun t33 w=>
 cndS t33 (
 K (.tuple #[(.int .i64 0),t31]) w) (
 callS prog 60 (pA #[x0]) w fun t37 w=>
 ev prog (Instr.extract t37 0) w fun t38 w=>
 ev prog (Instr.extract t37 1) w fun t39 w=>
 ev prog (binM .neq 43 (.tmp 40) (.const (.int .i64 0)) t39 (.int .i64 0)) w fun t41 w=>
 cndS t41 (
 K (.tuple #[(.int .i64 0),t39]) w) (
 nilR prog x0 w.drew fun t45=>
 rd prog (Instr.fieldAt 108 t45 0) w.drew fun t46=>
 ldR prog 66 t46 w.drew fun t47=>
 nilR prog t38 w.drew fun t49=>
 rd prog (Instr.fieldAt 112 t49 0) w.drew fun t50=>
 ldR prog 3 t50 w.drew fun t51=>
 (callS prog 48 (pA #[t47,t51]) w.drew fun t52 w=>
 rd prog (Instr.extract t52 0) w fun t53=>
 rd prog (Instr.extract t52 1) w fun t54=>
 ev prog (Instr.alloc 67 true (.tuple #[])) w fun t11 w=>
 (nilR prog x0 w (fun u=>u=t45))∧
 (ag prog (Instr.fieldAt 108 t45 0) w t46)∧
 (ldG prog 66 t46 w t47)∧
 (nilR prog t38 w (fun u=>u=t49))∧
 (ag prog (Instr.fieldAt 112 t49 0) w t50)∧
 (ldG prog 3 t50 w t51)∧
 stS prog 67 t11 t53 w fun w=>
 f22_k1 K x0 x1 x2 t38 t54 t11 w)∧
 (ev prog (Instr.alloc 67 true (.tuple #[])) w.drew fun t11_1 w=>
 (nilR prog x0 w (fun u=>u=t45))∧
 (ag prog (Instr.fieldAt 108 t45 0) w t46)∧
 (ldG prog 66 t46 w t47)∧
 (nilR prog t38 w (fun u=>u=t49))∧
 (ag prog (Instr.fieldAt 112 t49 0) w t50)∧
 (ldG prog 3 t50 w t51)∧
 callS prog 48 (pA #[t47,t51]) w fun t52_1 w=>
 rd prog (Instr.extract t52_1 0) w fun t53_1=>
 rd prog (Instr.extract t52_1 1) w fun t54_1=>
 stS prog 67 t11_1 t53_1 w fun w=>
 f22_k1 K x0 x1 x2 t38 t54_1 t11_1 w)))))
theorem f22_call (x0 x1 x2:Value) (K:K1) (w:World) (h:f22_t x0 x1 x2 K w):callS prog 22 #[x0,x1,x2] w K:=
 call_of_txt (args:= [x0,x1,x2]) mixed Tryz.func22 f22_u.2 (by kernel_rfl) (cast (by kernel_rfl) h)
noncomputable def f29_u:Code×Dec:=((Tryz.f29.body).getD .skip,(.s .o (.s .o (.s .o (.x 8 (.s .o (.b (.l [3,13] 6144 8380456 (.s .o (.s .o (.x 14344 .o .o)))))) .o)))))
abbrev f29_e (K:K1):KF:=endK prog Tryz.f29.results.toList K
def f29_k1_o (K:K1):KF:=fun fr w=>∀σ,cP (pr (pr (pr (pr f29_u)))) (f29_e K) (f29_e K) nX (mixF 8 σ 0 fr) w
def f29_k1 (K:K1) (x3:Value) (w:World):Prop:=f29_k1_o K (fz 24 0 [(3,x3)]) w
def f29_l1 (K:K1) (x3 x11 x12 x13:Value) (w:World):Prop:=loopT [3,13] 6144 (fun E=>cP (pl (pl (pr (pl (pr (pr (pr f29_u))))))) E (f29_e K) (exB 0 (f29_k1_o K) nX)) (fz 24 0 [(3,x3),(11,x11),(12,x12),(13,x13)]) w
def f29_k2_o (K:K1) (E1:VP2):KF:=fun fr w=>∀σ,cP (pr (pr (pr (pl (pl (pr (pl (pr (pr (pr f29_u)))))))))) (fun fr w=>E1 (sv fr 3) (sv fr 13) w) (f29_e K) (exB 0 (f29_k1_o K) nX) (mixF 14344 σ 0 fr) w
def f29_k2 (K:K1) (E1:VP2) (x3 x11 x12 x13:Value) (w:World):Prop:=f29_k2_o K E1 (fz 24 0 [(3,x3),(11,x11),(12,x12),(13,x13)]) w
def f29_k1_t (x3:Value) (K:K1) (w:World):Prop:=
 K x3 w
theorem f29_k1_eq (K:K1) (x3:Value) (w:World):f29_k1 K x3 w=f29_k1_t x3 K w:=cutE fun σ=>by kernel_rfl
def f29_l1_t (x3 x11 x12 x13:Value) (K:K1) (E1:VP2) (w:World):Prop:=
 ev prog (binM .lss 3 (.tmp 13) (.tmp 12) x13 x12) w fun t14 w=>
 cndS t14 (
 ev prog (Instr.indexAt 106 x11 x13) w fun t15 w=>
 ldS prog 112 t15 w fun t16 w=>
 ev prog (Instr.alloc 112 true (.tuple #[])) w fun t5 w=>
 stS prog 112 t5 t16 w fun w=>
 ev prog (Instr.fieldAt 112 t5 1) w fun t17 w=>
 ldS prog 3 t17 w fun t18 w=>
 ev prog (binM .lss 3 (.tmp 18) (.const (.int .i64 0)) t18 (.int .i64 0)) w fun t19 w=>
 cndS t19 (
 ev prog (binM .add 3 (.tmp 20) (.const (.int .i64 1)) x3 (.int .i64 1)) w fun t21 w=>
 f29_k2 K E1 t21 x11 x12 x13 w) (
 f29_k2 K E1 x3 x11 x12 x13 w)) (
 f29_k1 K x3 w)
theorem f29_l1_rule (x3 x11 x12 x13:Value) (K:K1) (w:World) (I:VP2) (μ:Value→Value→World→Nat) (h0:I x3 x13 w)
  (hr:∀(x3 x13:Value) (w:World),I x3 x13 w→∀E1:VP2,(∀(y3 y13:Value) (w':World),I y3 y13 w'→μ y3 y13 w'<μ x3 x13 w→E1 y3 y13 w')→f29_l1_t x3 x11 x12 x13 K E1 w):f29_l1 K x3 x11 x12 x13 w:=
 ⟨I,μ,h0,fun σ w hI E hE=>cast (by kernel_rfl) (hr (σ 3) (σ 13) w hI E hE)⟩
def f29_k2_t (x3 x11 x12 x13:Value) (K:K1) (E1:VP2) (w:World):Prop:=
 ev prog (binM .add 3 (.tmp 13) (.const (.int .i64 1)) x13 (.int .i64 1)) w fun t22 w=>
 E1 x3 t22 w
theorem f29_k2_eq (K:K1) (E1:VP2) (x3 x11 x12 x13:Value) (w:World):f29_k2 K E1 x3 x11 x12 x13 w=f29_k2_t x3 x11 x12 x13 K E1 w:=cutE fun σ=>by kernel_rfl
def f29_t (x0:Value) (K:K1) (w:World):Prop:=
 ev prog (binM .eql 26 (.tmp 6) (.const (.pointer none)) x0 (.pointer none)) w fun t7 w=>
 cndS t7 (
 K (.int .i64 0) w) (
 nilS prog x0 w fun t9 w=>
 ev prog (Instr.fieldAt 108 t9 1) w fun t10 w=>
 ldS prog 106 t10 w fun t11 w=>
 bltS prog .len #[106] 3 #[false] #[t11] w fun t12 w=>
 f29_l1 K (.int .i64 0) t11 t12 (.int .i64 0) w)
theorem f29_call (x0:Value) (K:K1) (w:World) (h:f29_t x0 K w):callS prog 29 #[x0] w K:=
 call_of_txt (args:= [x0]) mixed Tryz.func29 f29_u.2 (by kernel_rfl) (cast (by kernel_rfl) h)
noncomputable def f31_u:Code×Dec:=((Tryz.f31.body).getD .skip,(.s .o (.s .o (.s .o (.x 8 (.s .o (.b (.l [3,13] 6144 8380456 .o))) .o)))))
abbrev f31_e (K:K1):KF:=endK prog Tryz.f31.results.toList K
def f31_k1_o (K:K1):KF:=fun fr w=>∀σ,cP (pr (pr (pr (pr f31_u)))) (f31_e K) (f31_e K) nX (mixF 8 σ 0 fr) w
def f31_k1 (K:K1) (x3:Value) (w:World):Prop:=f31_k1_o K (fz 24 0 [(3,x3)]) w
def f31_l1 (K:K1) (x3 x11 x12 x13:Value) (w:World):Prop:=loopT [3,13] 6144 (fun E=>cP (pl (pl (pr (pl (pr (pr (pr f31_u))))))) E (f31_e K) (exB 0 (f31_k1_o K) nX)) (fz 24 0 [(3,x3),(11,x11),(12,x12),(13,x13)]) w
def f31_k1_t (x3:Value) (K:K1) (w:World):Prop:=
 K x3 w
theorem f31_k1_eq (K:K1) (x3:Value) (w:World):f31_k1 K x3 w=f31_k1_t x3 K w:=cutE fun σ=>by kernel_rfl
def f31_l1_t (x3 x11 x12 x13:Value) (K:K1) (E1:VP2) (w:World):Prop:=
 ev prog (binM .lss 3 (.tmp 13) (.tmp 12) x13 x12) w fun t14 w=>
 cndS t14 (
 ev prog (Instr.indexAt 106 x11 x13) w fun t15 w=>
 ldS prog 112 t15 w fun t16 w=>
 ev prog (Instr.alloc 112 true (.tuple #[])) w fun t5 w=>
 stS prog 112 t5 t16 w fun w=>
 ev prog (Instr.fieldAt 112 t5 0) w fun t18 w=>
 ldS prog 3 t18 w fun t19 w=>
 ev prog (Instr.buildSlice 50 1 #[(0,t19)]) w fun t20 w=>
 bltS prog .append #[50,50] 50 #[false,false] (pA #[x3,t20]) w fun t21 w=>
 ev prog (binM .add 3 (.tmp 13) (.const (.int .i64 1)) x13 (.int .i64 1)) w fun t22 w=>
 E1 t21 t22 w) (
 f31_k1 K x3 w)
theorem f31_l1_rule (x3 x11 x12 x13:Value) (K:K1) (w:World) (I:VP2) (μ:Value→Value→World→Nat) (h0:I x3 x13 w)
  (hr:∀(x3 x13:Value) (w:World),I x3 x13 w→∀E1:VP2,(∀(y3 y13:Value) (w':World),I y3 y13 w'→μ y3 y13 w'<μ x3 x13 w→E1 y3 y13 w')→f31_l1_t x3 x11 x12 x13 K E1 w):f31_l1 K x3 x11 x12 x13 w:=
 ⟨I,μ,h0,fun σ w hI E hE=>cast (by kernel_rfl) (hr (σ 3) (σ 13) w hI E hE)⟩
def f31_t (x0:Value) (K:K1) (w:World):Prop:=
 ev prog (binM .eql 26 (.tmp 6) (.const (.pointer none)) x0 (.pointer none)) w fun t7 w=>
 cndS t7 (
 K (.slice none 0 0) w) (
 nilS prog x0 w fun t9 w=>
 ev prog (Instr.fieldAt 108 t9 1) w fun t10 w=>
 ldS prog 106 t10 w fun t11 w=>
 bltS prog .len #[106] 3 #[false] #[t11] w fun t12 w=>
 f31_l1 K (.slice none 0 0) t11 t12 (.int .i64 0) w)
theorem f31_call (x0:Value) (K:K1) (w:World) (h:f31_t x0 K w):callS prog 31 #[x0] w K:=
 call_of_txt (args:= [x0]) mixed Tryz.func31 f31_u.2 (by kernel_rfl) (cast (by kernel_rfl) h)
def f35_t (x0 x1:Value) (K:K1) (w:World):Prop:=
 callS prog 77 (pA #[x0,x1]) w fun t12 w=>
 ev prog (binM .eql 128 (.tmp 13) (.const (.pointer none)) t12 (.pointer none)) w fun t14 w=>
 cndS t14 (
 K (.int .i64 5) w) (
 nilS prog x0 w fun t16 w=>
 ev prog (Instr.fieldAt 108 t16 0) w fun t17 w=>
 ldS prog 66 t17 w fun t18 w=>
 invS prog t18 "Err" (pA #[]) w fun t19 w=>
 ev prog (binM .neq 43 (.tmp 20) (.const (.int .i64 0)) t19 (.int .i64 0)) w fun t21 w=>
 cndS t21 (
 K t19 w) (
 callS prog 78 (pA #[x0,t12]) w fun t26 w=>
 ev prog (Instr.extract t26 0) w fun t27 w=>
 ev prog (Instr.extract t26 1) w fun t28 w=>
 nilS prog x0 w fun t30 w=>
 ev prog (Instr.fieldAt 108 t30 0) w fun t31 w=>
 ldS prog 66 t31 w fun t32 w=>
 invS prog t32 "Err" (pA #[]) w fun t33 w=>
 ev prog (binM .neq 43 (.tmp 34) (.const (.int .i64 0)) t33 (.int .i64 0)) w fun t35 w=>
 cndS t35 (
 K t33 w) (
 ev prog (Op.unary .not t28) w fun t38 w=>
 cndS t38 (
 K (.int .i64 8) w) (
 callS prog 79 (pA #[x0,t12,t27]) w fun t42 w=>
 K t42 w))))
theorem f35_call (x0 x1:Value) (K:K1) (w:World) (h:f35_t x0 x1 K w):callS prog 35 #[x0,x1] w K:=
 call_of_txt (args:= [x0,x1]) mixed Tryz.func35 .o (by kernel_rfl) (cast (by kernel_rfl) h)
def f37_t (x0 x1:Value) (K:K1) (w:World):Prop:=
 callS prog 77 (pA #[x0,x1]) w fun t8 w=>
 ev prog (binM .neq 128 (.tmp 9) (.const (.pointer none)) t8 (.pointer none)) w fun t10 w=>
 cndS t10 (
 nilS prog t8 w fun t12 w=>
 ev prog (Instr.fieldAt 112 t12 2) w fun t13 w=>
 ldS prog 3 t13 w fun t14 w=>
 K t14 w) (
 K (.int .i64 (-1)) w)
theorem f37_call (x0 x1:Value) (K:K1) (w:World) (h:f37_t x0 x1 K w):callS prog 37 #[x0,x1] w K:=
 call_of_txt (args:= [x0,x1]) mixed Tryz.func37 .o (by kernel_rfl) (cast (by kernel_rfl) h)
noncomputable def f39_u:Code×Dec:=((Tryz.f39.body).getD .skip,(.s .o (.s .o (.s .o (.x 1 (.s .o (.b (.l [24] 8388611 35184355315520 .o))) .o)))))
abbrev f39_e (K:K1):KF:=endK prog Tryz.f39.results.toList K
def f39_k1_o (K:K1):KF:=fun fr w=>∀σ,cP (pr (pr (pr (pr f39_u)))) (f39_e K) (f39_e K) nX (mixF 1 σ 0 fr) w
def f39_k1 (K:K1) (x0:Value) (w:World):Prop:=f39_k1_o K (fz 47 0 [(0,x0)]) w
def f39_l1 (K:K1) (x0 x1 x23 x24:Value) (w:World):Prop:=loopT [24] 8388611 (fun E=>cP (pl (pl (pr (pl (pr (pr (pr f39_u))))))) E (f39_e K) (exB 0 (f39_k1_o K) nX)) (fz 47 0 [(0,x0),(1,x1),(23,x23),(24,x24)]) w
def f39_k1_t (x0:Value) (K:K1) (w:World):Prop:=
 invS prog x0 "Err" (pA #[]) w fun t46 w=>
 K t46 w
theorem f39_k1_eq (K:K1) (x0:Value) (w:World):f39_k1 K x0 w=f39_k1_t x0 K w:=cutE fun σ=>by kernel_rfl
def f39_l1_t (x0 x1 x23 x24:Value) (K:K1) (E1:VP1) (w:World):Prop:=
 ev prog (binM .lss 3 (.tmp 24) (.tmp 23) x24 x23) w fun t25 w=>
 cndS t25 (
 ev prog (binM .mul 3 (.tmp 29) (.const (.int .i64 32)) x24 (.int .i64 32)) w fun t30 w=>
 ev prog (binM .add 3 (.tmp 28) (.tmp 30) x1 t30) w fun t31 w=>
 callS prog 82 (pA #[t31,(.int .u16 ((1:Nat):Int))]) w fun t32 w=>
 ev prog (Instr.extract t32 0) w fun t33 w=>
 ev prog (Instr.extract t32 1) w fun t34 w=>
 ev prog (binM .neq 43 (.tmp 35) (.const (.int .i64 0)) t34 (.int .i64 0)) w fun t36 w=>
 cndS t36 (
 K t34 w) (
 callS prog 62 (pA #[t33,x0]) w fun t40 w=>
 ev prog (binM .neq 43 (.tmp 41) (.const (.int .i64 0)) t40 (.int .i64 0)) w fun t42 w=>
 cndS t42 (
 K t40 w) (
 ev prog (binM .add 3 (.tmp 24) (.const (.int .i64 1)) x24 (.int .i64 1)) w fun t44 w=>
 E1 t44 w))) (
 f39_k1 K x0 w)
theorem f39_l1_rule (x0 x1 x23 x24:Value) (K:K1) (w:World) (I:VP1) (μ:Value→World→Nat) (h0:I x24 w)
  (hr:∀(x24:Value) (w:World),I x24 w→∀E1:VP1,(∀(y24:Value) (w':World),I y24 w'→μ y24 w'<μ x24 w→E1 y24 w')→f39_l1_t x0 x1 x23 x24 K E1 w):f39_l1 K x0 x1 x23 x24 w:=
 ⟨I,μ,h0,fun σ w hI E hE=>cast (by kernel_rfl) (hr (σ 24) w hI E hE)⟩
def f39_t (x0 x1 x2:Value) (K:K1) (w:World):Prop:=
 callS prog 47 (pA #[x0,x1,x2]) w fun t15 w=>
 ev prog (Op.unary .not t15) w fun t16 w=>
 cndS t16 (
 K (.int .i64 1) w) (
 invS prog x0 "Err" (pA #[]) w fun t18 w=>
 ev prog (binM .neq 43 (.tmp 19) (.const (.int .i64 0)) t18 (.int .i64 0)) w fun t20 w=>
 cndS t20 (
 K t18 w) (
 ev prog (binM .quo 3 (.tmp 22) (.const (.int .i64 32)) x2 (.int .i64 32)) w fun t23 w=>
 f39_l1 K x0 x1 t23 (.int .i64 0) w))
theorem f39_call (x0 x1 x2:Value) (K:K1) (w:World) (h:f39_t x0 x1 x2 K w):callS prog 39 #[x0,x1,x2] w K:=
 call_of_txt (args:= [x0,x1,x2]) mixed Tryz.func39 f39_u.2 (by kernel_rfl) (cast (by kernel_rfl) h)
def f47_t (x0 x1 x2:Value) (K:K1) (w:World):Prop:=
 ev prog (binM .eql 66 (.tmp 8) (.const .nilIface) x0 .nilIface) w fun t9 w=>
 gd t9 false (fun k=>k x1 w) w fun t11 w=>
 gd t9 false (fun k=>ev prog (binM .lss 3 (.tmp 11) (.const (.int .i64 0)) t11 (.int .i64 0)) w k) w fun t12 w=>
 pickS t9 (.bool true) t12 w fun t13 w=>
 gd t13 false (fun k=>k x2 w) w fun t15 w=>
 gd t13 false (fun k=>ev prog (binM .lss 3 (.tmp 15) (.const (.int .i64 32)) t15 (.int .i64 32)) w k) w fun t16 w=>
 pickS t13 (.bool true) t16 w fun t17 w=>
 cndS t17 (
 K (.bool false) w) (
 invS prog x0 "Size" (pA #[]) w fun t19 w=>
 ev prog (binM .quo 30 (.tmp 19) (.const (.int .u64 ((64:Nat):Int))) t19 (.int .u64 ((64:Nat):Int))) w fun t20 w=>
 ev prog (convert 3 30 x1) w fun t22 w=>
 ev prog (binM .gtr 30 (.tmp 22) (.tmp 23) t22 t20) w fun t24 w=>
 gd t24 false (fun k=>k x2 w) w fun t26 w=>
 gd t24 false (fun k=>ev prog (convert 3 30 t26) w k) w fun t27 w=>
 gd t24 false (fun k=>k t20 w) w fun t28 w=>
 gd t24 false (fun k=>k x1 w) w fun t29 w=>
 gd t24 false (fun k=>ev prog (convert 3 30 t29) w k) w fun t30 w=>
 gd t24 false (fun k=>ev prog (binM .sub 30 (.tmp 28) (.tmp 30) t28 t30) w k) w fun t31 w=>
 gd t24 false (fun k=>ev prog (binM .gtr 30 (.tmp 27) (.tmp 31) t27 t31) w k) w fun t32 w=>
 pickS t24 (.bool true) t32 w fun t33 w=>
 cndS t33 (
 K (.bool false) w) (
 ev prog (convert 3 30 x1) w fun t35 w=>
 ev prog (binM .quo 3 (.tmp 36) (.const (.int .i64 32)) x2 (.int .i64 32)) w fun t37 w=>
 ev prog (convert 3 30 t37) w fun t38 w=>
 ev prog (binM .mul 30 (.tmp 38) (.const (.int .u64 ((32:Nat):Int))) t38 (.int .u64 ((32:Nat):Int))) w fun t39 w=>
 ev prog (binM .add 30 (.tmp 35) (.tmp 39) t35 t39) w fun t40 w=>
 ev prog (binM .leq 30 (.tmp 40) (.const (.int .u64 ((4096:Nat):Int))) t40 (.int .u64 ((4096:Nat):Int))) w fun t41 w=>
 K t41 w))
theorem f47_call (x0 x1 x2:Value) (K:K1) (w:World) (h:f47_t x0 x1 x2 K w):callS prog 47 #[x0,x1,x2] w K:=
 call_of_txt (args:= [x0,x1,x2]) mixed Tryz.func47 .o (by kernel_rfl) (cast (by kernel_rfl) h)
def f53_t (x0 x1 x2:Value) (K:K1) (w:World):Prop:=
 callS prog 77 (pA #[x0,x1]) w fun t10 w=>
 ev prog (binM .eql 128 (.tmp 11) (.const (.pointer none)) t10 (.pointer none)) w fun t12 w=>
 cndS t12 (
 K (.int .i64 5) w) (
 nilS prog t10 w fun t14 w=>
 ev prog (Instr.fieldAt 112 t14 1) w fun t15 w=>
 ldS prog 3 t15 w fun t16 w=>
 ev prog (binM .lss 3 (.tmp 16) (.const (.int .i64 0)) t16 (.int .i64 0)) w fun t17 w=>
 cndS t17 (
 K (.int .i64 8) w) (
 nilS prog t10 w fun t20 w=>
 ev prog (Instr.fieldAt 112 t20 3) w fun t21 w=>
 stS prog 4 t21 x2 w fun w=>
 K (.int .i64 0) w))
theorem f53_call (x0 x1 x2:Value) (K:K1) (w:World) (h:f53_t x0 x1 x2 K w):callS prog 53 #[x0,x1,x2] w K:=
 call_of_txt (args:= [x0,x1,x2]) mixed Tryz.func53 .o (by kernel_rfl) (cast (by kernel_rfl) h)
noncomputable def f60_u:Code×Dec:=((Tryz.f60.body).getD .skip,(.s .o (.x 1 (.s .o (.b (.l [15] 16385 17179836444 .o))) (.x 1 (.s .o (.b (.l [39] 274877906945 2305842459457880556 .o))) .o))))
abbrev f60_e (K:K1):KF:=endK prog Tryz.f60.results.toList K
def f60_k1_o (K:K1):KF:=fun fr w=>∀σ,cP (pr (pr f60_u)) (f60_e K) (f60_e K) nX (mixF 1 σ 0 fr) w
def f60_k1 (K:K1) (x0:Value) (w:World):Prop:=f60_k1_o K (fz 69 0 [(0,x0)]) w
def f60_l1 (K:K1) (x0 x14 x15:Value) (w:World):Prop:=loopT [15] 16385 (fun E=>cP (pl (pl (pr (pl (pr f60_u))))) E (f60_e K) (exB 0 (f60_k1_o K) nX)) (fz 69 0 [(0,x0),(14,x14),(15,x15)]) w
def f60_k2_o (K:K1):KF:=fun fr w=>∀σ,cP (pr (pr (pr f60_u))) (f60_e K) (f60_e K) nX (mixF 1 σ 0 fr) w
def f60_k2 (K:K1) (x0:Value) (w:World):Prop:=f60_k2_o K (fz 69 0 [(0,x0)]) w
def f60_l2 (K:K1) (x0 x38 x39:Value) (w:World):Prop:=loopT [39] 274877906945 (fun E=>cP (pl (pl (pr (pl (pr (pr f60_u)))))) E (f60_e K) (exB 2 (f60_k2_o K) nX)) (fz 69 0 [(0,x0),(38,x38),(39,x39)]) w
def f60_k1_t (x0:Value) (K:K1) (w:World):Prop:=
 nilS prog x0 w fun t35 w=>
 ev prog (Instr.fieldAt 108 t35 1) w fun t36 w=>
 ldS prog 106 t36 w fun t37 w=>
 bltS prog .len #[106] 3 #[false] #[t37] w fun t38 w=>
 f60_l2 K x0 t38 (.int .i64 0) w
theorem f60_k1_eq (K:K1) (x0:Value) (w:World):f60_k1 K x0 w=f60_k1_t x0 K w:=cutE fun σ=>by kernel_rfl
def f60_l1_t (x0 x14 x15:Value) (K:K1) (E1:VP1) (w:World):Prop:=
 ev prog (binM .lss 3 (.tmp 15) (.tmp 14) x15 x14) w fun t16 w=>
 cndS t16 (
 nilS prog x0 w fun t19 w=>
 ev prog (Instr.fieldAt 108 t19 1) w fun t20 w=>
 ldS prog 106 t20 w fun t21 w=>
 ev prog (Instr.indexAt 106 t21 x15) w fun t23 w=>
 ev prog (Instr.fieldAt 112 t23 1) w fun t24 w=>
 ldS prog 3 t24 w fun t25 w=>
 ev prog (binM .lss 3 (.tmp 25) (.const (.int .i64 0)) t25 (.int .i64 0)) w fun t26 w=>
 cndS t26 (
 nilS prog x0 w fun t28 w=>
 ev prog (Instr.fieldAt 108 t28 1) w fun t29 w=>
 ldS prog 106 t29 w fun t30 w=>
 ev prog (Instr.indexAt 106 t30 x15) w fun t32 w=>
 K (.tuple #[t32,(.int .i64 0)]) w) (
 ev prog (binM .add 3 (.tmp 15) (.const (.int .i64 1)) x15 (.int .i64 1)) w fun t33 w=>
 E1 t33 w)) (
 f60_k1 K x0 w)
theorem f60_l1_rule (x0 x14 x15:Value) (K:K1) (w:World) (I:VP1) (μ:Value→World→Nat) (h0:I x15 w)
  (hr:∀(x15:Value) (w:World),I x15 w→∀E1:VP1,(∀(y15:Value) (w':World),I y15 w'→μ y15 w'<μ x15 w→E1 y15 w')→f60_l1_t x0 x14 x15 K E1 w):f60_l1 K x0 x14 x15 w:=
 ⟨I,μ,h0,fun σ w hI E hE=>cast (by kernel_rfl) (hr (σ 15) w hI E hE)⟩
def f60_k2_t (x0:Value) (K:K1) (w:World):Prop:=
 nilS prog x0 w fun t62 w=>
 ev prog (Instr.fieldAt 108 t62 0) w fun t63 w=>
 ldS prog 66 t63 w fun t64 w=>
 invS prog t64 "Err" (pA #[]) w fun t65 w=>
 ev prog (binM .neq 43 (.tmp 66) (.const (.int .i64 0)) t65 (.int .i64 0)) w fun t67 w=>
 cndS t67 (
 K (.tuple #[(.pointer none),t65]) w) (
 K (.tuple #[(.pointer none),(.int .i64 4)]) w)
theorem f60_k2_eq (K:K1) (x0:Value) (w:World):f60_k2 K x0 w=f60_k2_t x0 K w:=cutE fun σ=>by kernel_rfl
def f60_l2_t (x0 x38 x39:Value) (K:K1) (E1:VP1) (w:World):Prop:=
 ev prog (binM .lss 3 (.tmp 39) (.tmp 38) x39 x38) w fun t40 w=>
 cndS t40 (
 nilS prog x0 w fun t43 w=>
 ev prog (Instr.fieldAt 108 t43 1) w fun t44 w=>
 ldS prog 106 t44 w fun t45 w=>
 ev prog (Instr.indexAt 106 t45 x39) w fun t47 w=>
 callS prog 78 (pA #[x0,t47]) w fun t51 w=>
 ev prog (Instr.extract t51 0) w fun t52 w=>
 ev prog (Instr.extract t51 1) w fun t53 w=>
 cndS t53 (
 callS prog 79 (pA #[x0,t47,t52]) w fun t59 w=>
 K (.tuple #[t47,t59]) w) (
 ev prog (binM .add 3 (.tmp 39) (.const (.int .i64 1)) x39 (.int .i64 1)) w fun t60 w=>
 E1 t60 w)) (
 f60_k2 K x0 w)
theorem f60_l2_rule (x0 x38 x39:Value) (K:K1) (w:World) (I:VP1) (μ:Value→World→Nat) (h0:I x39 w)
  (hr:∀(x39:Value) (w:World),I x39 w→∀E1:VP1,(∀(y39:Value) (w':World),I y39 w'→μ y39 w'<μ x39 w→E1 y39 w')→f60_l2_t x0 x38 x39 K E1 w):f60_l2 K x0 x38 x39 w:=
 ⟨I,μ,h0,fun σ w hI E hE=>cast (by kernel_rfl) (hr (σ 39) w hI E hE)⟩
def f60_t (x0:Value) (K:K1) (w:World):Prop:=
 nilS prog x0 w fun t11 w=>
 ev prog (Instr.fieldAt 108 t11 1) w fun t12 w=>
 ldS prog 106 t12 w fun t13 w=>
 bltS prog .len #[106] 3 #[false] #[t13] w fun t14 w=>
 f60_l1 K x0 t14 (.int .i64 0) w
theorem f60_call (x0:Value) (K:K1) (w:World) (h:f60_t x0 K w):callS prog 60 #[x0] w K:=
 call_of_txt (args:= [x0]) mixed Tryz.func60 f60_u.2 (by kernel_rfl) (cast (by kernel_rfl) h)
noncomputable def f77_u:Code×Dec:=((Tryz.f77.body).getD .skip,(.s .o (.s .o (.x 0 (.s .o (.b (.l [13] 4099 8589926448 .o))) .o))))
abbrev f77_e (K:K1):KF:=endK prog Tryz.f77.results.toList K
def f77_k1_o (K:K1):KF:=fun fr w=>∀σ,cP (pr (pr (pr f77_u))) (f77_e K) (f77_e K) nX (mixF 0 σ 0 fr) w
def f77_k1 (K:K1) (w:World):Prop:=f77_k1_o K (fz 33 0 []) w
def f77_l1 (K:K1) (x0 x1 x12 x13:Value) (w:World):Prop:=loopT [13] 4099 (fun E=>cP (pl (pl (pr (pl (pr (pr f77_u)))))) E (f77_e K) (exB 0 (f77_k1_o K) nX)) (fz 33 0 [(0,x0),(1,x1),(12,x12),(13,x13)]) w
def f77_k1_t (K:K1) (w:World):Prop:=
 K (.pointer none) w
theorem f77_k1_eq (K:K1) (w:World):f77_k1 K w=f77_k1_t K w:=cutE fun σ=>by kernel_rfl
def f77_l1_t (x0 x1 x12 x13:Value) (K:K1) (E1:VP1) (w:World):Prop:=
 ev prog (binM .lss 3 (.tmp 13) (.tmp 12) x13 x12) w fun t14 w=>
 cndS t14 (
 nilS prog x0 w fun t17 w=>
 ev prog (Instr.fieldAt 108 t17 1) w fun t18 w=>
 ldS prog 106 t18 w fun t19 w=>
 ev prog (Instr.indexAt 106 t19 x13) w fun t21 w=>
 ev prog (Instr.fieldAt 112 t21 0) w fun t22 w=>
 ldS prog 3 t22 w fun t23 w=>
 ev prog (binM .eql 3 (.tmp 23) (.tmp 24) t23 x1) w fun t25 w=>
 cndS t25 (
 nilS prog x0 w fun t27 w=>
 ev prog (Instr.fieldAt 108 t27 1) w fun t28 w=>
 ldS prog 106 t28 w fun t29 w=>
 ev prog (Instr.indexAt 106 t29 x13) w fun t31 w=>
 K t31 w) (
 ev prog (binM .add 3 (.tmp 13) (.const (.int .i64 1)) x13 (.int .i64 1)) w fun t32 w=>
 E1 t32 w)) (
 f77_k1 K w)
theorem f77_l1_rule (x0 x1 x12 x13:Value) (K:K1) (w:World) (I:VP1) (μ:Value→World→Nat) (h0:I x13 w)
  (hr:∀(x13:Value) (w:World),I x13 w→∀E1:VP1,(∀(y13:Value) (w':World),I y13 w'→μ y13 w'<μ x13 w→E1 y13 w')→f77_l1_t x0 x1 x12 x13 K E1 w):f77_l1 K x0 x1 x12 x13 w:=
 ⟨I,μ,h0,fun σ w hI E hE=>cast (by kernel_rfl) (hr (σ 13) w hI E hE)⟩
def f77_t (x0 x1:Value) (K:K1) (w:World):Prop:=
 ev prog (binM .eql 26 (.tmp 6) (.const (.pointer none)) x0 (.pointer none)) w fun t7 w=>
 cndS t7 (
 K (.pointer none) w) (
 nilS prog x0 w fun t9 w=>
 ev prog (Instr.fieldAt 108 t9 1) w fun t10 w=>
 ldS prog 106 t10 w fun t11 w=>
 bltS prog .len #[106] 3 #[false] #[t11] w fun t12 w=>
 f77_l1 K x0 x1 t12 (.int .i64 0) w)
theorem f77_call (x0 x1:Value) (K:K1) (w:World) (h:f77_t x0 x1 K w):callS prog 77 #[x0,x1] w K:=
 call_of_txt (args:= [x0,x1]) mixed Tryz.func77 f77_u.2 (by kernel_rfl) (cast (by kernel_rfl) h)
noncomputable def f78_u:Code×Dec:=((Tryz.f78.body).getD .skip,(.s .o (.s .o (.x 194 .o .o))))
abbrev f78_e (K:K1):KF:=endK prog Tryz.f78.results.toList K
def f78_k1_o (K:K1):KF:=fun fr w=>∀σ,cP (pr (pr (pr f78_u))) (f78_e K) (f78_e K) nX (mixF 194 σ 0 fr) w
def f78_k1 (K:K1) (x1 x6 x7:Value) (w:World):Prop:=f78_k1_o K (fz 55 0 [(1,x1),(6,x6),(7,x7)]) w
def f78_k1_t (x1 x6 x7:Value) (K:K1) (w:World):Prop:=
 ev prog (binM .neq 43 (.tmp 34) (.const (.int .i64 0)) x7 (.int .i64 0)) w fun t35 w=>
 cndS t35 (
 K (.tuple #[(.slice none 0 0),(.bool false)]) w) (
 ldS prog 69 x6 w fun t37 w=>
 callS prog 110 (pA #[t37]) w fun t38 w=>
 ev prog (Instr.extract t38 0) w fun t39 w=>
 ev prog (Instr.extract t38 1) w fun t40 w=>
 ev prog (Op.unary .not t40) w fun t42 w=>
 cndS t42 (
 K (.tuple #[(.slice none 0 0),(.bool false)]) w) (
 nilS prog x1 w fun t45 w=>
 ev prog (Instr.fieldAt 112 t45 0) w fun t46 w=>
 ldS prog 3 t46 w fun t47 w=>
 callS prog 82 (pA #[t47,t39]) w fun t49 w=>
 ev prog (Instr.extract t49 0) w fun t50 w=>
 ev prog (Instr.extract t49 1) w fun t51 w=>
 ev prog (binM .eql 43 (.tmp 53) (.const (.int .i64 0)) t51 (.int .i64 0)) w fun t54 w=>
 K (.tuple #[t50,t54]) w))
theorem f78_k1_eq (K:K1) (x1 x6 x7:Value) (w:World):f78_k1 K x1 x6 x7 w=f78_k1_t x1 x6 x7 K w:=cutE fun σ=>by kernel_rfl
def f78_t (x0 x1:Value) (K:K1) (w:World):Prop:=
 nilS prog x1 w fun t12 w=>
 ev prog (Instr.fieldAt 112 t12 1) w fun t13 w=>
 ldS prog 3 t13 w fun t14 w=>
 ev prog (binM .lss 3 (.tmp 14) (.const (.int .i64 0)) t14 (.int .i64 0)) w fun t15 w=>
 gd t15 false (fun k=>k x1 w) w fun t17 w=>
 gd t15 false (fun k=>nilS prog t17 w k) w fun t18 w=>
 gd t15 false (fun k=>ev prog (Instr.fieldAt 112 t18 3) w k) w fun t19 w=>
 gd t15 false (fun k=>ldS prog 4 t19 w k) w fun t20 w=>
 pickS t15 (.bool true) t20 w fun t21 w=>
 cndS t21 (
 K (.tuple #[(.slice none 0 0),(.bool false)]) w) (
 nilR prog x0 w.drew fun t24=>
 rd prog (Instr.fieldAt 108 t24 0) w.drew fun t25=>
 ldR prog 66 t25 w.drew fun t26=>
 nilR prog x1 w.drew fun t28=>
 rd prog (Instr.fieldAt 112 t28 0) w.drew fun t29=>
 ldR prog 3 t29 w.drew fun t30=>
 (callS prog 23 (pA #[t26,t30]) w.drew fun t31 w=>
 rd prog (Instr.extract t31 0) w fun t32=>
 rd prog (Instr.extract t31 1) w fun t33=>
 ev prog (Instr.alloc 69 true (.tuple #[])) w fun t6 w=>
 (nilR prog x0 w (fun u=>u=t24))∧
 (ag prog (Instr.fieldAt 108 t24 0) w t25)∧
 (ldG prog 66 t25 w t26)∧
 (nilR prog x1 w (fun u=>u=t28))∧
 (ag prog (Instr.fieldAt 112 t28 0) w t29)∧
 (ldG prog 3 t29 w t30)∧
 stS prog 69 t6 t32 w fun w=>
 f78_k1 K x1 t6 t33 w)∧
 (ev prog (Instr.alloc 69 true (.tuple #[])) w.drew fun t6_1 w=>
 (nilR prog x0 w (fun u=>u=t24))∧
 (ag prog (Instr.fieldAt 108 t24 0) w t25)∧
 (ldG prog 66 t25 w t26)∧
 (nilR prog x1 w (fun u=>u=t28))∧
 (ag prog (Instr.fieldAt 112 t28 0) w t29)∧
 (ldG prog 3 t29 w t30)∧
 callS prog 23 (pA #[t26,t30]) w fun t31_1 w=>
 rd prog (Instr.extract t31_1 0) w fun t32_1=>
 rd prog (Instr.extract t31_1 1) w fun t33_1=>
 stS prog 69 t6_1 t32_1 w fun w=>
 f78_k1 K x1 t6_1 t33_1 w))
theorem f78_call (x0 x1:Value) (K:K1) (w:World) (h:f78_t x0 x1 K w):callS prog 78 #[x0,x1] w K:=
 call_of_txt (args:= [x0,x1]) mixed Tryz.func78 f78_u.2 (by kernel_rfl) (cast (by kernel_rfl) h)
def f79_t (x0 x1 x2:Value) (K:K1) (w:World):Prop:=
 nilS prog x0 w fun t10 w=>
 ev prog (Instr.fieldAt 108 t10 0) w fun t11 w=>
 ldS prog 66 t11 w fun t12 w=>
 callS prog 62 (pA #[x2,t12]) w fun t13 w=>
 ev prog (binM .neq 43 (.tmp 14) (.const (.int .i64 0)) t13 (.int .i64 0)) w fun t15 w=>
 cndS t15 (
 K t13 w) (
 nilS prog x1 w fun t19 w=>
 ev prog (Instr.fieldAt 112 t19 1) w fun t20 w=>
 stS prog 3 t20 (.int .i64 (-1)) w fun w=>
 nilS prog x1 w fun t21 w=>
 ev prog (Instr.fieldAt 112 t21 2) w fun t22 w=>
 stS prog 3 t22 (.int .i64 (-1)) w fun w=>
 K (.int .i64 0) w)
theorem f79_call (x0 x1 x2:Value) (K:K1) (w:World) (h:f79_t x0 x1 x2 K w):callS prog 79 #[x0,x1,x2] w K:=
 call_of_txt (args:= [x0,x1,x2]) mixed Tryz.func79 .o (by kernel_rfl) (cast (by kernel_rfl) h)
def plL (f:Nat→Int×Int×Bool) (l0:Nat):Nat→List Value
 |0=> []
 |n+1=>plL f l0 n++ [.int .i64 ((l0+32*n:Nat):Int),.int .i64 (f n).1,.int .i64 (f n).2.1,.bool (f n).2.2]
theorem plL_len (f:Nat→Int×Int×Bool) (l0:Nat):∀n,(plL f l0 n).length=n*4
 |0=>rfl
 |n+1=>by simp [plL,plL_len f l0 n];omega
theorem plL_get (f:Nat→Int×Int×Bool) (l0:Nat):∀n k,k<n→(plL f l0 n)[k*4]? =some (.int .i64 ((l0+32*k:Nat):Int))∧(plL f l0 n)[k*4+1]? =some (.int .i64 (f k).1)∧(plL f l0 n)[k*4+2]? =some (.int .i64 (f k).2.1)∧(plL f l0 n)[k*4+3]? =some (.bool (f k).2.2)
 |0,k,h=>absurd h (Nat.not_lt_zero _)
 |n+1,k,h=>by
  have hl:=plL_len f l0 n
  unfold plL
  by_cases e:k=n
  ·subst e
   refine ⟨?_,?_,?_,?_⟩<;>rw [List.getElem?_append_right (by omega)]<;>simp [hl]
  ·have:=plL_get f l0 n k (by omega)
   refine ⟨?_,?_,?_,?_⟩<;>rw [List.getElem?_append_left (by omega)]
   ·exact this.1
   ·exact this.2.1
   ·exact this.2.2.1
   ·exact this.2.2.2
theorem plL_congr {f g:Nat→Int×Int×Bool} {l0:Nat}:∀{n},(∀k,k<n→f k=g k)→plL f l0 n=plL g l0 n
 |0,_=>rfl
 |n+1,h=>by unfold plL;rw [plL_congr (fun k hk=>h k (by omega)),h n (by omega)]
def upF {α:Type} (f:Nat→α) (k:Nat) (v:α) (j:Nat):α:=if j=k then v else f j
theorem upF_eq {α:Type} (f:Nat→α) (k:Nat) (v:α):upF f k v k=v:=if_pos rfl
theorem upF_ne {α:Type} (f:Nat→α) {k j:Nat} (v:α) (h:j≠k):upF f k v j=f j:=if_neg h
theorem plL_set (f:Nat→Int×Int×Bool) (l0:Nat):∀n k,k<n→(∀c,(plL f l0 n).set (k*4+1) (.int .i64 c)=plL (upF f k (c,(f k).2)) l0 n)∧(∀c,(plL f l0 n).set (k*4+2) (.int .i64 c)=plL (upF f k ((f k).1,c,(f k).2.2)) l0 n)∧(∀c,(plL f l0 n).set (k*4+3) (.bool c)=plL (upF f k ((f k).1,(f k).2.1,c)) l0 n)
 |0,k,h=>absurd h (Nat.not_lt_zero _)
 |n+1,k,h=>by
  have hl:=plL_len f l0 n
  unfold plL
  by_cases e:k=n
  ·subst e
   have hc:∀v,plL (upF f k v) l0 k=plL f l0 k:=fun v=>plL_congr (fun j hj=>upF_ne f v (by omega))
   refine ⟨fun c=> ?_,fun c=> ?_,fun c=> ?_⟩<;>rw [List.set_append_right _ _ (by omega),hc,upF_eq,hl]
   ·rw [show k*4+1-k*4=1 by omega];rfl
   ·rw [show k*4+2-k*4=2 by omega];rfl
   ·rw [show k*4+3-k*4=3 by omega];rfl
  ·obtain ⟨h1,h2,h3⟩:=plL_set f l0 n k (by omega)
   refine ⟨fun c=> ?_,fun c=> ?_,fun c=> ?_⟩<;>rw [List.set_append_left _ _ (by omega),upF_ne _ _ (fun h=>e h.symm)]
   ·rw [h1]
   ·rw [h2]
   ·rw [h3]
def arF (T b o n cp:Nat) (i:Nat):Value:= [Value.iface 25 (.pointer (some ⟨T,0,none⟩)),.slice (some ⟨b,o,none⟩) n cp].getD i undef
structure ArS (w0 w:World) (Y:Lay) (D:DS) (S b o cp l0 n:Nat) (f:Nat→Int×Int×Bool):Prop where
 L:Lv w0 w Y D
 gl:Glob w0
 st:Cells w S 108 2 (arF (Y.tb 0) b o n cp)
 pl:SlO w 112 4 (.slice (some ⟨b,o,none⟩) n cp) n (plL f l0 n)
 nS:w0.heap.size≤S∧¬Y.F S∧S≠b
 nb:w0.heap.size≤b∧¬Y.F b
 n0:0<n
 lt:l0+32*n≤D.n
abbrev stV (S:Nat):Value:= .pointer (some ⟨S,0,none⟩)
section
variable {w0 w w':World} {Y Y':Lay} {D D':DS} {S b o cp l0 n:Nat} {f f':Nat→Int×Int×Bool}
theorem ArS.ext (h:ArS w0 w Y D S b o cp l0 n f) (e:Ext w w'):ArS w0 w' Y D S b o cp l0 n f:=⟨h.L.ext e,h.gl,h.st.ext e,h.pl.ext e,h.nS,h.nb,h.n0,h.lt⟩
theorem ArS.step (h:ArS w0 w Y D S b o cp l0 n f) (s:Stp w Y w' Y' D') (gd:Good D') (hn:D'.n=D.n):ArS w0 w' Y' D' S b o cp l0 n f:=by
 have tb:Y'.tb 0=Y.tb 0:=by rw [s.tb]
 have hb:b<w.heap.size:=h.pl.lt rfl
 refine ⟨h.L.step s gd,h.gl,?_,h.pl.frm s.frm (fun x hx=>by injection hx with hx;subst hx;exact h.nb.2),⟨h.nS.1,fun hf=> ?_,h.nS.2.2⟩,⟨h.nb.1,fun hf=> ?_⟩,h.n0,by rw [hn];exact h.lt⟩
 ·rw [tb];exact h.st.frm s.frm h.nS.2.1
 ·rcases s.fr S hf with h1|h1
  ·exact h.nS.2.1 h1
  ·have:=h.st.lt;omega
 ·rcases s.fr b hf with h1|h1
  ·exact h.nb.2 h1
  ·omega
theorem ArS.c0 (h:ArS w0 w Y D S b o cp l0 n f):w.cell? ⟨S,0,none⟩=some (.iface 25 (.pointer (some ⟨Y.tb 0,0,none⟩))):=h.st.cell (i:=0) (by omega)
theorem ArS.c1 (h:ArS w0 w Y D S b o cp l0 n f):w.cell? ⟨S,1,none⟩=some (.slice (some ⟨b,o,none⟩) n cp):=h.st.cell (i:=1) (by omega)
theorem ArS.p (h:ArS w0 w Y D S b o cp l0 n f) {k:Nat} (hk:k<n):w.cell? ⟨b,o+k*4,none⟩=some (.int .i64 ((l0+32*k:Nat):Int))∧w.cell? ⟨b,o+k*4+1,none⟩=some (.int .i64 (f k).1)∧w.cell? ⟨b,o+k*4+2,none⟩=some (.int .i64 (f k).2.1)∧w.cell? ⟨b,o+k*4+3,none⟩=some (.bool (f k).2.2):=by
 have hg:=plL_get f l0 n k hk
 refine ⟨h.pl.cell rfl hg.1,?_,?_,?_⟩
 ·rw [Nat.add_assoc];exact h.pl.cell rfl hg.2.1
 ·rw [Nat.add_assoc];exact h.pl.cell rfl hg.2.2.1
 ·rw [Nat.add_assoc];exact h.pl.cell rfl hg.2.2.2
theorem ArS.fz (h:ArS w0 w Y D S b o cp l0 n f):∀i,w.frozen? ⟨b,i,none⟩=false:=fun i=>h.pl.frz rfl i
theorem ArS.ltb (h:ArS w0 w Y D S b o cp l0 n f):b<w.heap.size:=h.pl.lt rfl
theorem ArS.ltS (h:ArS w0 w Y D S b o cp l0 n f):S<w.heap.size:=h.st.lt
theorem ArS.er (h:ArS w0 w Y D S b o cp l0 n f):∀(w1:World) (K:K1),Ext w w1→callS prog 19 #[.pointer (some ⟨Y.tb 0,0,none⟩)] w1 K=K (.int .i64 (D.err 0)) w1:=fun w1 K e=>by rw [c_Err (h.L.dv.ext e) 0 (by omega) K]
theorem ArS.le (h:ArS w0 w Y D S b o cp l0 n f):n≤128∧l0≤4096:=by have:=h.lt;have:=h.L.gd.n;omega
theorem k_findAt (h:ArS w0 w Y D S b o cp l0 n f) {k:Nat} (hk:k<n) (K:K1) (hK:∀w',Ext w w'→K (.pointer (some ⟨b,o+k*4,none⟩)) w'):
  callS prog 77 #[stV S,.int .i64 ((l0+32*k:Nat):Int)] w K:=by
 have hle:=h.le
 have s1:=h.c1
 refine f77_call _ _ _ _ ?_
 unfold f77_t
 simp (disch:=first|omega|simp only [RO]|(simp only [RZ]<;>omega)|fail) only [↓RBp,↓RA,↓reduceIte,Nat.reduceAdd,Nat.reduceMul,Nat.reduceEqDiff,RB,RX,RA2,s1]
 apply f77_l1_rule (I:=fun z w'=>∃i:Nat,z= .int .i64 (i:Int)∧i≤k∧Ext w w') (μ:=fun z _=>n-(intOf z).toNat)
 ·exact ⟨0,rfl,by omega,(by repeat (first|(with_reducible first|refine eB ?_ _|assumption|exact eR _|refine eA ?_ _|refine eD ?_|refine eT ?_ (by assumption))|exact eR _))⟩
 ·intros;rename_i w1 hI E1 hE
  obtain ⟨i,rfl,hi,e1⟩:=hI
  have h1:=h.ext e1
  have s1:=h1.c1
  have ob26:=h1.p (show i<n by omega);have q0:=ob26.1;have q1:=ob26.2.1;have q2:=ob26.2.2.1;have q3:=ob26.2.2.2
  by_cases hik:i<k
  ·have ne:¬((l0+32*i:Nat):Int)=((l0+32*k:Nat):Int):=by omega
   unfold f77_l1_t
   simp (disch:=first|omega|simp only [RO]|(simp only [RZ]<;>omega)|fail) only [↓RBp,↓RA,↓reduceIte,Nat.reduceAdd,Nat.reduceMul,Nat.reduceEqDiff,RB,RX,RA2,s1,q0,ne]
   apply hE
   ·exact ⟨i+1,by simp,by omega,e1⟩
   ·simp [intOf];omega
  ·have:i=k:=by omega
   subst this
   unfold f77_l1_t
   simp (disch:=first|omega|simp only [RO]|(simp only [RZ]<;>omega)|fail) only [↓RBp,↓RA,↓reduceIte,Nat.reduceAdd,Nat.reduceMul,Nat.reduceEqDiff,RB,RX,RA2,s1,q0]
   exact hK _ e1
theorem k_findNo (h:ArS w0 w Y D S b o cp l0 n f) {x:Int} (hx:∀k,k<n→x≠((l0+32*k:Nat):Int)) (K:K1) (hK:∀w',Ext w w'→K (.pointer none) w'):
  callS prog 77 #[stV S,.int .i64 x] w K:=by
 have hle:=h.le
 have s1:=h.c1
 refine f77_call _ _ _ _ ?_
 unfold f77_t
 simp (disch:=first|omega|simp only [RO]|(simp only [RZ]<;>omega)|fail) only [↓RBp,↓RA,↓reduceIte,Nat.reduceAdd,Nat.reduceMul,Nat.reduceEqDiff,RB,RX,RA2,s1]
 apply f77_l1_rule (I:=fun z w'=>∃i:Nat,z= .int .i64 (i:Int)∧i≤n∧Ext w w') (μ:=fun z _=>n-(intOf z).toNat)
 ·exact ⟨0,rfl,by omega,(by repeat (first|(with_reducible first|refine eB ?_ _|assumption|exact eR _|refine eA ?_ _|refine eD ?_|refine eT ?_ (by assumption))|exact eR _))⟩
 ·intros;rename_i w1 hI E1 hE
  obtain ⟨i,rfl,hi,e1⟩:=hI
  have h1:=h.ext e1
  have s1:=h1.c1
  by_cases hin:i<n
  ·have ob27:=h1.p hin;have q0:=ob27.1;have q1:=ob27.2.1;have q2:=ob27.2.2.1;have q3:=ob27.2.2.2
   have ne:¬((l0+32*i:Nat):Int)=x:=fun e=>hx i hin e.symm
   unfold f77_l1_t
   simp (disch:=first|omega|simp only [RO]|(simp only [RZ]<;>omega)|fail) only [↓RBp,↓RA,↓reduceIte,Nat.reduceAdd,Nat.reduceMul,Nat.reduceEqDiff,RB,RX,RA2,s1,q0,ne]
   apply hE
   ·exact ⟨i+1,by simp,by omega,e1⟩
   ·simp [intOf];omega
  ·have:i=n:=by omega
   subst this
   unfold f77_l1_t
   simp (disch:=first|omega|simp only [RO]|(simp only [RZ]<;>omega)|fail) only [↓RBp,↓RA,↓reduceIte,Nat.reduceAdd,Nat.reduceMul,Nat.reduceEqDiff,RB,RX,RA2,f77_k1_eq,f77_k1_t]
   exact hK _ e1
theorem k_OwnerAt (h:ArS w0 w Y D S b o cp l0 n f) {k:Nat} (hk:k<n) (K:K1) (hK:∀w',Ext w w'→K (.int .i64 (f k).2.1) w'):
  callS prog 37 #[stV S,.int .i64 ((l0+32*k:Nat):Int)] w K:=by
 refine f37_call _ _ _ _ ?_
 unfold f37_t
 simp (disch:=first|omega|simp only [RO]|(simp only [RZ]<;>omega)|fail) only [↓RBp,↓RA,↓reduceIte,Nat.reduceAdd,Nat.reduceMul,Nat.reduceEqDiff,RB,RX,RA2]
 refine k_findAt h hk _ (fun w1 e1=> ?_)
 have ob28:=(h.ext e1).p hk;have q0:=ob28.1;have q1:=ob28.2.1;have q2:=ob28.2.2.1;have q3:=ob28.2.2.2
 simp (disch:=first|omega|simp only [RO]|(simp only [RZ]<;>omega)|fail) only [↓RBp,↓RA,↓reduceIte,Nat.reduceAdd,Nat.reduceMul,Nat.reduceEqDiff,RB,RX,RA2,q2]
 exact hK _ e1
def frC (f:Nat→Int×Int×Bool):Nat→Nat
 |0=>0
 |n+1=>frC f n+if (f n).1<0 then 1 else 0
theorem frC_le (f:Nat→Int×Int×Bool):∀n,frC f n≤n
 |0=>Nat.le_refl _
 |n+1=>by have:=frC_le f n;unfold frC;split<;>omega
theorem k_FreeChunks (h:ArS w0 w Y D S b o cp l0 n f) (K:K1) (hK:∀w',Ext w w'→K (.int .i64 ((frC f n:Nat):Int)) w'):
  callS prog 29 #[stV S] w K:=by
 have hle:=h.le
 have s1:=h.c1
 refine f29_call _ _ _ ?_
 unfold f29_t
 simp (disch:=first|omega|simp only [RO]|(simp only [RZ]<;>omega)|fail) only [↓RBp,↓RA,↓reduceIte,Nat.reduceAdd,Nat.reduceMul,Nat.reduceEqDiff,RB,RX,RA2,s1]
 apply f29_l1_rule (I:=fun x z w'=>∃i:Nat,z= .int .i64 (i:Int)∧i≤n∧x= .int .i64 ((frC f i:Nat):Int)∧Ext w w') (μ:=fun _ z _=>n-(intOf z).toNat)
 ·exact ⟨0,rfl,by omega,rfl,(by repeat (first|(with_reducible first|refine eB ?_ _|assumption|exact eR _|refine eA ?_ _|refine eD ?_|refine eT ?_ (by assumption))|exact eR _))⟩
 ·intros;rename_i w1 hI E1 hE
  obtain ⟨i,rfl,hi,rfl,e1⟩:=hI
  have h1:=h.ext e1
  have hc:=frC_le f i
  by_cases hin:i<n
  ·have ob29:=h1.p hin;have q0:=ob29.1;have q1:=ob29.2.1;have q2:=ob29.2.2.1;have q3:=ob29.2.2.2
   have ltb:=h1.ltb
   have hs:frC f (i+1)=frC f i+if (f i).1<0 then 1 else 0:=rfl
   generalize (f i).1=c1 at*
   by_cases hc1:c1<0
   ·rw [if_pos hc1] at hs
    unfold f29_l1_t
    simp (disch:=first|omega|simp only [RO]|(simp only [RZ]<;>omega)|fail) only [↓RBp,↓RA,↓reduceIte,Nat.reduceAdd,Nat.reduceMul,Nat.reduceEqDiff,RB,RX,RA2,q0,q1,q2,q3,hc1,f29_k2_eq,f29_k2_t]
    apply hE
    ·exact ⟨i+1,by simp,by omega,by rw [hs];simp,(by repeat (first|(with_reducible first|refine eB ?_ _|assumption|exact eR _|refine eA ?_ _|refine eD ?_|refine eT ?_ (by assumption))|exact eR _))⟩
    ·simp [intOf];omega
   ·rw [if_neg hc1] at hs
    unfold f29_l1_t
    simp (disch:=first|omega|simp only [RO]|(simp only [RZ]<;>omega)|fail) only [↓RBp,↓RA,↓reduceIte,Nat.reduceAdd,Nat.reduceMul,Nat.reduceEqDiff,RB,RX,RA2,q0,q1,q2,q3,hc1,f29_k2_eq,f29_k2_t]
    apply hE
    ·exact ⟨i+1,by simp,by omega,by rw [hs];simp,(by repeat (first|(with_reducible first|refine eB ?_ _|assumption|exact eR _|refine eA ?_ _|refine eD ?_|refine eT ?_ (by assumption))|exact eR _))⟩
    ·simp [intOf];omega
  ·have:i=n:=by omega
   subst this
   unfold f29_l1_t
   simp (disch:=first|omega|simp only [RO]|(simp only [RZ]<;>omega)|fail) only [↓RBp,↓RA,↓reduceIte,Nat.reduceAdd,Nat.reduceMul,Nat.reduceEqDiff,RB,RX,RA2,f29_k1_eq,f29_k1_t]
   exact hK _ e1
theorem elInt:ElT prog 50 50 3 1 8 (.int .i64 0):=el_50_50
def lnL (p:Nat→Bool) (l0:Nat):Nat→List Int
 |0=> []
 |n+1=>lnL p l0 n++if p n then [((l0+32*n:Nat):Int)] else []
theorem lnL_len (p:Nat→Bool) (l0:Nat):∀n,(lnL p l0 n).length≤n
 |0=>Nat.le_refl _
 |n+1=>by have:=lnL_len p l0 n;unfold lnL;split<;>simp<;>omega
theorem k_Lines (h:ArS w0 w Y D S b o cp l0 n f) (K:K1) (hK:∀v w',Ext w w'→NewV w.heap.size v→SlO w' 3 1 v (lnL (fun _=>true) l0 n).length (i64L (lnL (fun _=>true) l0 n))→K v w'):
  callS prog 31 #[stV S] w K:=by
 have hle:=h.le
 have s1:=h.c1
 refine f31_call _ _ _ ?_
 unfold f31_t
 simp (disch:=first|omega|simp only [RO]|(simp only [RZ]<;>omega)|fail) only [↓RBp,↓RA,↓reduceIte,Nat.reduceAdd,Nat.reduceMul,Nat.reduceEqDiff,RB,RX,RA2,s1]
 apply f31_l1_rule (I:=fun x z w'=>∃i:Nat,z= .int .i64 (i:Int)∧i≤n∧SlO w' 3 1 x (lnL (fun _=>true) l0 i).length (i64L (lnL (fun _=>true) l0 i))∧Frm Nob w w'∧NewV w.heap.size x) (μ:=fun _ z _=>n-(intOf z).toNat)
 ·exact ⟨0,rfl,by omega,SlO.nil _ _ _,(by repeat (first|exact Frm.refl _ _|with_reducible refine Frm.set ?_ _ (fun _=>rfl)|with_reducible refine Frm.alloc ?_ _|with_reducible refine Frm.drew ?_)),fun b hb=>by cases hb⟩
 ·intros;rename_i x3 z w1 hI E1 hE
  obtain ⟨i,rfl,hi,hs,hf,hnw⟩:=hI
  have e1:Ext w w1:=hf.to_ext (fun _ _ h=>h)
  have h1:=h.ext e1
  have hln:=lnL_len (fun _=>true) l0 i
  by_cases hin:i<n
  ·have ob30:=h1.p hin;have q0:=ob30.1;have q1:=ob30.2.1;have q2:=ob30.2.2.1;have q3:=ob30.2.2.2
   have ltb:=h1.ltb
   obtain ⟨pa,pc,rfl,hpc⟩:=hs.isS'
   have hss:lnL (fun _=>true) l0 (i+1)=lnL (fun _=>true) l0 i++ [((l0+32*i:Nat):Int)]:=rfl
   generalize lnL (fun _=>true) l0 i=l at*
   unfold f31_l1_t
   simp (disch:=first|omega|simp only [RO]|(simp only [RZ]<;>omega)|fail) only [↓RBp,↓RA,↓reduceIte,Nat.reduceAdd,Nat.reduceMul,Nat.reduceEqDiff,RB,RX,RA2,q0,q1,q2,q3]
   refine app_new elInt (w0:=w) (hs.ext (by repeat (first|(with_reducible first|refine eB ?_ _|assumption|exact eR _|refine eA ?_ _|refine eD ?_|refine eT ?_ (by assumption))|exact eR _))) (hf.ext (by repeat (first|(with_reducible first|refine eB ?_ _|assumption|exact eR _|refine eA ?_ _|refine eD ?_|refine eT ?_ (by assumption))|exact eR _))) hnw (m:=1) (news:= [.int .i64 ((l0+32*i:Nat):Int)]) rfl ?_ rfl (by omega) (by omega) (by omega) (fun v' w4 hsp hf4 n4 hfr4 hb4=> ?_)
   ·intro j u hj
    obtain ⟨rfl,rfl⟩:=one_get hj
    simp (disch:=first|omega|simp only [RO]|(simp only [RZ]<;>omega)|fail) only [↓RBp,↓RA,↓reduceIte,Nat.reduceAdd,Nat.reduceMul,Nat.reduceEqDiff,RB,RX,RA2]
   simp (disch:=first|omega|simp only [RO]|(simp only [RZ]<;>omega)|fail) only [↓RBp,↓RA,↓reduceIte,Nat.reduceAdd,Nat.reduceMul,Nat.reduceEqDiff,RB,RX,RA2]
   apply hE
   ·refine ⟨i+1,by simp,by omega,?_,hf4,n4⟩
    rw [hss,List.length_append]
    simpa [i64L] using hsp
   ·simp [intOf];omega
  ·have:i=n:=by omega
   subst this
   unfold f31_l1_t
   simp (disch:=first|omega|simp only [RO]|(simp only [RZ]<;>omega)|fail) only [↓RBp,↓RA,↓reduceIte,Nat.reduceAdd,Nat.reduceMul,Nat.reduceEqDiff,RB,RX,RA2,f31_k1_eq,f31_k1_t]
   exact hK _ _ e1 hnw hs
end
section
variable {D:DS} {l g:Nat} {c o:Int}
theorem fmt_snd (c0:0≤c) (c5:c<5) (o0:0≤o) (o8:o<8) (hg0:g≠0) (hg:g<65536) (h0:wd D l 0=sealN (hdX c o g)) (hlow:∀j,j≠0→j<8→wd D l j=0) (at_:∀i:Nat,(i:Int)<perS c→wd D l (offN c i)=sealN (blkX g 0 176)):Snd D l c o:=by
 have hh:=hd_ok c0 c5 o0 o8 hg0 hg
 refine ⟨by rw [h0];exact hh.1,by rw [h0];exact hh.2.1,by rw [h0];exact hh.2.2.1,fun j h2 h8=>hlow j (by omega) h8,fun i hi=> ?_,fun i hi=> ?_,fun i hi=> ?_⟩
 ·rw [at_ i hi];exact isS_blk hg (by omega) (by omega)
 ·rw [at_ i hi,bG_blk hg (by omega) (by omega),bK_blk hg (by omega) (by omega),bS_blk hg (by omega) (by omega)];simp [goodB,hg0]
 ·rw [hlow 1 (by omega) (by omega),bit0]
  by_cases h:(i:Int)<perS c
  ·rw [at_ i h,bS_blk hg (by omega) (by omega)];simp
  ·simp [h]
theorem clr_gen (on:On D) (gd:Good D) (hl:l+32≤D.n) (hg:g<65536):On (D.run 0 (clrI l g))∧Good (D.run 0 (clrI l g))∧(D.run 0 (clrI l g)).n=D.n∧(∀i∈clrI l g,okI i)∧wd (D.run 0 (clrI l g)) l 0=sealN (hdX (-1) (-1) g):=by
 have hs:=sealN_lt (hdX (-1) (-1) g) (hdX_lt (by omega) (by omega) (by omega) (by omega) hg)
 have hn:=gd.n
 have h1:=On.stores on [(l*64,sealN (hdX (-1) (-1) g))] (fun x hx=>by simp only [List.mem_singleton] at hx;subst hx;simp only;omega)
 have ok:∀i∈clrI l g,okI i:=okI_stores (fun x hx=>by simp only [List.mem_singleton] at hx;subst hx;exact ⟨by simp only;omega,hs⟩)
 refine ⟨h1.1,Good.run 0 (by omega) _ _ gd ok,run_n 0 _ D,ok,?_⟩
 have e:(D.run 0 (clrI l g)).cur=applyH [(l*64,sealN (hdX (-1) (-1) g))] D.cur:=h1.2
 unfold wd
 rw [e]
 refine applyH_val (fun y hy _=> ?_) (.inl ⟨(l*64,sealN (hdX (-1) (-1) g)),by simp,by simp only;omega⟩)
 simp only [List.mem_singleton] at hy;subst hy;rfl
theorem plan_gen (on:On D) (gd:Good D) (hl:l+32≤D.n) (c0:0≤c) (c5:c<5) (o0:0≤o) (o8:o<8) (hg0:g≠0) (hg:g<65536):On (D.run 0 (planI l c o g))∧Good (D.run 0 (planI l c o g))∧(D.run 0 (planI l c o g)).n=D.n∧(∀i∈planI l c o g,okI i)∧Snd (D.run 0 (planI l c o g)) l c o∧wd (D.run 0 (planI l c o g)) l 0=sealN (hdX c o g)∧∀i:Nat,(i:Int)<perS c→wd (D.run 0 (planI l c o g)) l (offN c i)=sealN (blkX g 0 176):=by
 have hp:=perS_in c0 c5
 have hn:=gd.n
 have hb:=sealN_lt (blkX g 0 176) (blkX_lt hg (by omega) (by omega))
 have hd:=sealN_lt (hdX c o g) (hdX_lt (by omega) c5 (by omega) o8 hg)
 have pw:∀x∈planW l c g,(x.1%8=0∧x.1<D.n*64)∧x.1<18446744073709551616∧x.2<18446744073709551616:=by
  intro x hx
  rcases List.mem_append.1 hx with hx|hx
  ·obtain ⟨j,hj,rfl⟩:=List.mem_map.1 hx
   have hb2:=offS_bd c0 c5 (show 0≤(j:Int) by omega) (by rw [List.mem_range] at hj;omega)
   have hw:=wordsS_in c0 c5
   simp only;omega
  ·obtain ⟨j,hj,rfl⟩:=List.mem_map.1 hx
   rw [List.mem_range] at hj
   simp only;omega
 have hw1:∀x∈ [(l*64,sealN (hdX c o g))],(x.1%8=0∧x.1<D.n*64)∧x.1<18446744073709551616∧x.2<18446744073709551616:=fun x hx=>by
  simp only [List.mem_singleton] at hx;subst hx;simp only;omega
 have ok:∀i∈planI l c o g,okI i:=by
  intro i hi
  rcases List.mem_append.1 hi with hi|hi
  ·exact okI_stores (fun x hx=>(pw x hx).2) i hi
  ·exact okI_stores (fun x hx=>(hw1 x hx).2) i hi
 have h1:=On.stores on (planW l c g) (fun x hx=>(pw x hx).1)
 have n1:(D.run 0 (storesI (planW l c g))).n=D.n:=run_n 0 _ D
 have h2:=On.stores h1.1 [(l*64,sealN (hdX c o g))] (fun x hx=>by rw [n1];exact (hw1 x hx).1)
 have er:D.run 0 (planI l c o g)=(D.run 0 (storesI (planW l c g))).run 0 (storesI [(l*64,sealN (hdX c o g))]):=by unfold planI;rw [run_append]
 have gd3:=Good.run 0 (by omega) _ _ gd ok
 have n3:(D.run 0 (planI l c o g)).n=D.n:=run_n 0 _ D
 have ec:(D.run 0 (planI l c o g)).cur=applyH [(l*64,sealN (hdX c o g))] (applyH (planW l c g) D.cur):=by rw [er,h2.2,h1.2]
 have on3:On (D.run 0 (planI l c o g)):=by rw [er];exact h2.1
 generalize D.run 0 (planI l c o g)=E at*
 have w0:wd E l 0=sealN (hdX c o g):=by
  unfold wd
  rw [ec]
  refine applyH_val (fun y hy _=> ?_) (.inl ⟨(l*64,sealN (hdX c o g)),by simp,by simp only;omega⟩)
  simp only [List.mem_singleton] at hy;subst hy;rfl
 have ho:∀(j:Nat) (f:Nat→Nat),j≠0→applyH [(l*64,sealN (hdX c o g))] f (l*8+j)=f (l*8+j):=fun j f hj=>applyH_other _ _ _ (fun y hy=>by simp only [List.mem_singleton] at hy;subst hy;simp only;omega)
 have hA:∀j,∀y∈planW l c g,y.1/8=l*8+j→(8≤j∧y.2=sealN (blkX g 0 176))∨(j<8∧y.2=0):=by
  intro j y hy hyj
  rcases List.mem_append.1 hy with hy|hy
  ·obtain ⟨i,hi,rfl⟩:=List.mem_map.1 hy
   rw [List.mem_range] at hi
   have hb2:=offS_bd c0 c5 (show 0≤(i:Int) by omega) (by omega)
   left
   simp only at hyj
   exact ⟨by omega,rfl⟩
  ·obtain ⟨i,hi,rfl⟩:=List.mem_map.1 hy
   rw [List.mem_range] at hi
   right
   simp only at hyj
   exact ⟨by omega,rfl⟩
 have wlow:∀j,j≠0→j<8→wd E l j=0:=by
  intro j h0 h8
  unfold wd
  rw [ec,ho j _ h0]
  refine applyH_val (fun y hy hyj=> ?_) (.inl ⟨(l*64+(j-1+1)*8,0),List.mem_append_right _ (List.mem_map.2 ⟨j-1,List.mem_range.2 (by omega),rfl⟩),by simp only;omega⟩)
  rcases hA j y hy hyj with h|h
  ·omega
  ·exact h.2
 have wat:∀i:Nat,(i:Int)<perS c→wd E l (offN c i)=sealN (blkX g 0 176):=by
  intro i hi
  have bd:=offN_bd c0 c5 hi
  unfold wd
  rw [ec,ho _ _ (by omega)]
  refine applyH_val (fun y hy hyj=> ?_) (.inl ⟨_,List.mem_append_left _ (List.mem_map.2 ⟨i,List.mem_range.2 (by omega),rfl⟩),?_⟩)
  ·rcases hA _ y hy hyj with h|h
   ·exact h.2
   ·omega
  ·simp only;omega
 exact ⟨on3,gd3,n3,ok,fmt_snd c0 c5 o0 o8 hg0 hg w0 wlow wat,w0,wat⟩
end
def vldB (n:Nat) (line lines:Int):Bool:=decide (0≤line)&&(decide (32≤lines)&&decide (line+lines≤(n:Int)))
section
variable {w0 w w':World} {Y Y':Lay} {D D':DS} {S b o cp l0 n:Nat} {f f':Nat→Int×Int×Bool}
theorem k_avalid (h:Dv w Y D) (g:Good D) (line lines:Int) (h1: -9223372036854775808≤line) (h2:line<9223372036854775808) (h3: -9223372036854775808≤lines) (h4:lines<9223372036854775808) (K:K1) (hK:∀w',Ext w w'→K (.bool (vldB D.n line lines)) w'):
  callS prog 47 #[thV Y,.int .i64 line,.int .i64 lines] w K:=by
 have hn:=g.n
 have hsz:∀(w1:World) (K:K1),Ext w w1→callS prog 167 #[.pointer (some ⟨Y.tb 0,0,none⟩)] w1 K=K (.int .u64 ((D.n*64:Nat):Int)) w1:=fun w1 K e=>c_TSize (h.ext e) g 0 (by omega) K
 have hq:D.n*64/64=D.n:=by omega
 refine f47_call _ _ _ _ _ ?_
 unfold thV f47_t
 unfold vldB at hK
 by_cases a0:line<0
 ·rw [decide_eq_false (show ¬0≤line by omega),Bool.false_and] at hK
  simp (disch:=first|omega|simp only [RO]|(simp only [RZ]<;>omega)|(with_reducible (repeat (first|assumption|exact Ext.refl _|refine Ext.alloc ?_ _|refine Ext.drew ?_|refine Ext.trans ?_ (by assumption))))|fail) only [↓RBp,↓RA,↓reduceIte,Nat.reduceAdd,Nat.reduceMul,Nat.reduceEqDiff,RB,RX,RA2,hsz,hq,a0]
  exact hK _ (by repeat (first|(with_reducible first|refine eB ?_ _|assumption|exact eR _|refine eA ?_ _|refine eD ?_|refine eT ?_ (by assumption))|exact eR _))
 ·rw [decide_eq_true (show 0≤line by omega),Bool.true_and] at hK
  by_cases a1:lines<32
  ·rw [decide_eq_false (show ¬32≤lines by omega),Bool.false_and] at hK
   simp (disch:=first|omega|simp only [RO]|(simp only [RZ]<;>omega)|(with_reducible (repeat (first|assumption|exact Ext.refl _|refine Ext.alloc ?_ _|refine Ext.drew ?_|refine Ext.trans ?_ (by assumption))))|fail) only [↓RBp,↓RA,↓reduceIte,Nat.reduceAdd,Nat.reduceMul,Nat.reduceEqDiff,RB,RX,RA2,hsz,hq,a0,a1]
   exact hK _ (by repeat (first|(with_reducible first|refine eB ?_ _|assumption|exact eR _|refine eA ?_ _|refine eD ?_|refine eT ?_ (by assumption))|exact eR _))
  ·rw [decide_eq_true (show 32≤lines by omega),Bool.true_and] at hK
   obtain ⟨a,rfl⟩:∃a:Nat,line=(a:Int):=⟨line.toNat,by omega⟩
   obtain ⟨q,rfl⟩:∃q:Nat,lines=(q:Int):=⟨lines.toNat,by omega⟩
   by_cases a2:D.n<a
   ·rw [decide_eq_false (show ¬(a:Int)+(q:Int)≤(D.n:Int) by omega)] at hK
    simp (disch:=first|omega|simp only [RO]|(simp only [RZ]<;>omega)|(with_reducible (repeat (first|assumption|exact Ext.refl _|refine Ext.alloc ?_ _|refine Ext.drew ?_|refine Ext.trans ?_ (by assumption))))|fail) only [↓RBp,↓RA,↓reduceIte,Nat.reduceAdd,Nat.reduceMul,Nat.reduceEqDiff,RB,RX,RA2,hsz,hq,a0,a1,a2]
    exact hK _ (by repeat (first|(with_reducible first|refine eB ?_ _|assumption|exact eR _|refine eA ?_ _|refine eD ?_|refine eT ?_ (by assumption))|exact eR _))
   ·by_cases a3:D.n-a<q
    ·rw [decide_eq_false (show ¬(a:Int)+(q:Int)≤(D.n:Int) by omega)] at hK
     simp (disch:=first|omega|simp only [RO]|(simp only [RZ]<;>omega)|(with_reducible (repeat (first|assumption|exact Ext.refl _|refine Ext.alloc ?_ _|refine Ext.drew ?_|refine Ext.trans ?_ (by assumption))))|fail) only [↓RBp,↓RA,↓reduceIte,Nat.reduceAdd,Nat.reduceMul,Nat.reduceEqDiff,RB,RX,RA2,hsz,hq,a0,a1,a2,a3]
     exact hK _ (by repeat (first|(with_reducible first|refine eB ?_ _|assumption|exact eR _|refine eA ?_ _|refine eD ?_|refine eT ?_ (by assumption))|exact eR _))
    ·rw [decide_eq_true (show (a:Int)+(q:Int)≤(D.n:Int) by omega)] at hK
     have a4:a+q/32*32≤4096:=by omega
     simp (disch:=first|omega|simp only [RO]|(simp only [RZ]<;>omega)|(with_reducible (repeat (first|assumption|exact Ext.refl _|refine Ext.alloc ?_ _|refine Ext.drew ?_|refine Ext.trans ?_ (by assumption))))|fail) only [↓RBp,↓RA,↓reduceIte,Nat.reduceAdd,Nat.reduceMul,Nat.reduceEqDiff,RB,RX,RA2,hsz,hq,a0,a1,a2,a3,a4]
     exact hK _ (by repeat (first|(with_reducible first|refine eB ?_ _|assumption|exact eR _|refine eA ?_ _|refine eD ?_|refine eT ?_ (by assumption))|exact eR _))
theorem clrI_len (l g:Nat):(clrI l g).length≤3:=by
 have:=storesI_le [(l*64,sealN (hdX (-1) (-1) g))]
 simpa [clrI] using this
def fmtD (D:DS) (l0:Nat):Nat→DS
 |0=>D
 |k+1=>(fmtD D l0 k).run 0 (clrI (l0+32*k) 1)
theorem fmtD_ok (on:On D) (gd:Good D) (hl:l0+32*n≤D.n):∀k,k≤n→On (fmtD D l0 k)∧Good (fmtD D l0 k)∧(fmtD D l0 k).n=D.n∧(fmtD D l0 k).exe≤D.exe+3*k
 |0,_=>⟨on,gd,rfl,by simp [fmtD]⟩
 |k+1,hk=>by
  obtain ⟨h1,h2,h3,h4⟩:=fmtD_ok on gd hl k (by omega)
  have c:=clr_gen h1 h2 (l:=l0+32*k) (g:=1) (by omega) (by omega)
  refine ⟨c.1,c.2.1,c.2.2.1.trans h3,?_⟩
  have:=run_exe 0 (clrI (l0+32*k) 1) (fmtD D l0 k)
  have:=clrI_len (l0+32*k) 1
  unfold fmtD
  omega
theorem k_AFormat (h:Lv w0 w Y D) (gl:Glob w0) (on:On D) (gd:Good D) (hx:D.exe<1000000000) {q:Nat} (hq:32≤q) (hl:l0+q≤D.n) (K:K1) (hK:∀w' Y',Stp w Y w' Y' (fmtD D l0 (q/32))→K (.int .i64 0) w'):
  callS prog 39 #[thV Y,.int .i64 (l0:Int),.int .i64 (q:Int)] w K:=by
 have hn:=gd.n
 have hvl:vldB D.n (l0:Int) (q:Int)=true:=by simp [vldB];omega
 have her:∀(w1:World) (K:K1),Ext w w1→callS prog 19 #[.pointer (some ⟨Y.tb 0,0,none⟩)] w1 K=K (.int .i64 0) w1:=fun w1 K e=>by rw [c_Err (h.dv.ext e) 0 (by omega) K,on.err]
 obtain ⟨n,hnq⟩:∃n,q/32=n:=⟨_,rfl⟩
 rw [hnq] at hK
 refine f39_call _ _ _ _ _ ?_
 unfold f39_t
 simp (disch:=first|omega|simp only [RO]|(simp only [RZ]<;>omega)|fail) only [↓RBp,↓RA,↓reduceIte,Nat.reduceAdd,Nat.reduceMul,Nat.reduceEqDiff,RB,RX,RA2]
 refine k_avalid h.dv gd _ _ (by omega) (by omega) (by omega) (by omega) _ (fun w1 e1=> ?_)
 rw [hvl]
 unfold thV
 simp (disch:=first|omega|simp only [RO]|(simp only [RZ]<;>omega)|(with_reducible (repeat (first|assumption|exact Ext.refl _|refine Ext.alloc ?_ _|refine Ext.drew ?_|refine Ext.trans ?_ (by assumption))))|fail) only [↓RBp,↓RA,↓reduceIte,Nat.reduceAdd,Nat.reduceMul,Nat.reduceEqDiff,RB,RX,RA2,her,hnq]
 apply f39_l1_rule (I:=fun z w'=>∃(i:Nat) (Y':Lay),z= .int .i64 (i:Int)∧i≤n∧Stp w Y w' Y' (fmtD D l0 i)) (μ:=fun z _=>n-(intOf z).toNat)
 ·exact ⟨0,Y,rfl,by omega,Stp.ext h.dv e1⟩
 ·intros;rename_i w2 hI E1 hE
  obtain ⟨i,Y2,rfl,hi,st⟩:=hI
  obtain ⟨on2,gd2,n2,x2⟩:=fmtD_ok on gd (n:=n) (l0:=l0) (by omega) i hi
  have tb:Y2.tb 0=Y.tb 0:=by rw [st.tb]
  have hG2:Glob w2:=gl.ext (h.step st gd2).ex
  have her:∀(w1:World) (K:K1),Ext w2 w1→callS prog 19 #[.pointer (some ⟨Y.tb 0,0,none⟩)] w1 K=K (.int .i64 0) w1:=fun w1 K e=>by rw [←tb,c_Err (st.dv.ext e) 0 (by omega) K,on2.err]
  by_cases hin:i<n
  ·have e1:(l0:Int)+(i:Int)*32=((l0+32*i:Nat):Int):=by omega
   have cg:=clr_gen on2 gd2 (l:=l0+32*i) (g:=1) (by omega) (by omega)
   have hcl:=clrI_len (l0+32*i) 1
   have hxr:=run_exe 0 (clrI (l0+32*i) 1) (fmtD D l0 i)
   have hrun:∀(v:Value) (w3:World) (K1:K1),SlO w3 176 3 v (clrI (l0+32*i) 1).length (inL (clrI (l0+32*i) 1))→Ext w2 w3→NewV w2.heap.size v→(∀w4 Y4,Stp w2 Y2 w4 Y4 (fmtD D l0 (i+1))→K1 (.int .i64 0) w4)→callS prog 62 #[v,.iface 25 (.pointer (some ⟨Y.tb 0,0,none⟩))] w3 K1:=by
    intro v w3 K1 hs e nv hk
    rw [←tb]
    refine k_Run (st.dv.ext e) gd2 0 (by omega) _ v hs (fun b hb hf=>by have h1:=st.dv.lt hf;have h2:=nv b hb;omega) cg.2.2.2.1 (by omega) _ (fun w4 Y4 st4=> ?_)
    have he:((fmtD D l0 i).run 0 (clrI (l0+32*i) 1)).err 0=0:=cg.1.err
    rw [he]
    exact hk w4 Y4 (Stp.pre e (fun b hb=>st.dv.lt hb) st4)
   unfold f39_l1_t
   simp (disch:=first|omega|simp only [RO]|(simp only [RZ]<;>omega)|fail) only [↓RBp,↓RA,↓reduceIte,Nat.reduceAdd,Nat.reduceMul,Nat.reduceEqDiff,RB,RX,RA2,e1]
   refine k_Clear hG2 (l0+32*i) 1 (by omega) (by omega) (by omega) _ (fun v w3 hs e3 nv=> ?_)
   simp (disch:=first|omega|simp only [RO]|(simp only [RZ]<;>omega)|fail) only [↓RBp,↓RA,↓reduceIte,Nat.reduceAdd,Nat.reduceMul,Nat.reduceEqDiff,RB,RX,RA2]
   refine hrun v _ _ (hs.ext (by repeat (first|(with_reducible first|refine eB ?_ _|assumption|exact eR _|refine eA ?_ _|refine eD ?_|refine eT ?_ (by assumption))|exact eR _))) (e3.trans (by repeat (first|(with_reducible first|refine eB ?_ _|assumption|exact eR _|refine eA ?_ _|refine eD ?_|refine eT ?_ (by assumption))|exact eR _))) nv (fun w4 Y4 st4=> ?_)
   simp (disch:=first|omega|simp only [RO]|(simp only [RZ]<;>omega)|fail) only [↓RBp,↓RA,↓reduceIte,Nat.reduceAdd,Nat.reduceMul,Nat.reduceEqDiff,RB,RX,RA2]
   apply hE
   ·exact ⟨i+1,Y4,by simp,by omega,st.trans st4⟩
   ·simp [intOf];omega
  ·have:i=n:=by omega
   subst this
   unfold f39_l1_t
   simp (disch:=first|omega|simp only [RO]|(simp only [RZ]<;>omega)|(with_reducible (repeat (first|assumption|exact Ext.refl _|refine Ext.alloc ?_ _|refine Ext.drew ?_|refine Ext.trans ?_ (by assumption))))|fail) only [↓RBp,↓RA,↓reduceIte,Nat.reduceAdd,Nat.reduceMul,Nat.reduceEqDiff,RB,RX,RA2,her,f39_k1_eq,f39_k1_t]
   exact hK _ Y2 st
end
def opF (D:DS) (l0:Nat) (k:Nat):Int×Int×Bool:=(hC (wd D (l0+32*k) 0),hO (wd D (l0+32*k) 0),false)
theorem elPl:ElT prog 106 106 112 4 32 (.agg #[.int .i64 0,.int .i64 0,.int .i64 0,.bool false]):=el_106_106
theorem fill_agg4 {place:Nat→Option (Nat×Nat)} {cells:Array Value} {i off:Nat} {a b c d:Value} {rest:List (Nat×Value)} (hp:place i=some (off,4)) (ho:off+4≤cells.size):Instr.fill place cells ((i,.agg #[a,b,c,d])::rest)=Instr.fill place ((((cells.setIfInBounds off a).setIfInBounds (off+1) b).setIfInBounds (off+2) c).setIfInBounds (off+3) d) rest:=by
 rw [Instr.fill,hp]
 simp only [cells_agg,List.size_toArray,List.length_cons,List.length_nil]
 rw [if_neg (by simp;omega)]
 congr 1
theorem bsPl (a b c d:Value) (w:World):(Instr.buildSlice 106 1 #[(0,.agg #[a,b,c,d])]).run prog w= .ok (.slice (some ⟨w.heap.size,0,none⟩) 1 1) (w.alloc (.cells #[a,b,c,d] 112)):=
 Go.Sh.run_buildSliceS (z:=(.agg #[.int .i64 0,.int .i64 0,.int .i64 0,.bool false])) (show prog.underlying 106=some (.slice 112) from by kernel_rfl) (show szT prog 112=some 4 from by kernel_rfl) (by kernel_rfl) (by decide) (by decide) (by show Instr.fill _ #[.int .i64 0,.int .i64 0,.int .i64 0,.bool false] [(0,.agg #[a,b,c,d])]=_;rw [fill_agg4 (off:=0) rfl (by simp)];rfl) w
theorem evPl (a b c d:Value) (w:World) (k:K1):ev prog (Instr.buildSlice 106 1 #[(0,.agg #[a,b,c,d])]) w k=k (.slice (some ⟨w.heap.size,0,none⟩) 1 1) (w.alloc (.cells #[a,b,c,d] 112)):=ev_of_run (bsPl a b c d w) k
def stF (T:Nat) (v:Value) (i:Nat):Value:= [Value.iface 25 (.pointer (some ⟨T,0,none⟩)),v].getD i undef
section
variable {w0 w w':World} {Y Y':Lay} {D D':DS} {S b o cp l0 n:Nat} {f f':Nat→Int×Int×Bool}
theorem k_AOpen (h:Lv w0 w Y D) (gl:Glob w0) (ho:D.off=false) (he:D.err 0=0) {q:Nat} (hq:32≤q) (hl:l0+q≤D.n) (hqn:q/32=n) (K:K1)
  (hb:(¬∀k,k<n→hdOk (wd D (l0+32*k) 0)=true)→∀w',Ext w w'→K (.tuple #[.pointer none,.int .i64 11]) w')
  (hK:(∀k,k<n→hdOk (wd D (l0+32*k) 0)=true)→∀S b o cp w',Ext w w'→w.heap.size≤S→w.heap.size≤b→ArS w0 w' Y D S b o cp l0 n (opF D l0)→K (.tuple #[stV S,.int .i64 0]) w'):
  callS prog 14 #[thV Y,.int .i64 (l0:Int),.int .i64 (q:Int)] w K:=by
 have hn:=h.gd.n
 have hvl:vldB D.n (l0:Int) (q:Int)=true:=by simp [vldB];omega
 have her:∀(w1:World) (K:K1),Ext w w1→callS prog 19 #[.pointer (some ⟨Y.tb 0,0,none⟩)] w1 K=K (.int .i64 0) w1:=fun w1 K e=>by rw [c_Err (h.dv.ext e) 0 (by omega) K,he]
 refine f14_call _ _ _ _ _ ?_
 unfold f14_t
 simp (disch:=first|omega|simp only [RO]|(simp only [RZ]<;>omega)|fail) only [↓RBp,↓RA,↓reduceIte,Nat.reduceAdd,Nat.reduceMul,Nat.reduceEqDiff,RB,RX,RA2]
 refine k_avalid h.dv h.gd _ _ (by omega) (by omega) (by omega) (by omega) _ (fun w1 e1=> ?_)
 rw [hvl]
 unfold thV
 simp (disch:=first|omega|simp only [RO]|(simp only [RZ]<;>omega)|(with_reducible (repeat (first|assumption|exact Ext.refl _|refine Ext.alloc ?_ _|refine Ext.drew ?_|refine Ext.trans ?_ (by assumption))))|fail) only [↓RBp,↓RA,↓reduceIte,Nat.reduceAdd,Nat.reduceMul,Nat.reduceEqDiff,RB,RX,RA2,her,hqn]
 have hS0:=Cells.new w1 [Value.iface 25 (.pointer (some ⟨Y.tb 0,0,none⟩)),.slice none 0 0] 108
 apply f14_l1_rule (I:=fun z w'=>∃(i:Nat) (v:Value),z= .int .i64 (i:Int)∧i≤n∧Frm Nob w1 w'∧NewV w1.heap.size v∧(∀b,v.ownBlock=some b→b≠w1.heap.size)∧Cells w' w1.heap.size 108 2 (stF (Y.tb 0) v)∧SlO w' 112 4 v i (plL (opF D l0) l0 i)∧∀k,k<i→hdOk (wd D (l0+32*k) 0)=true) (μ:=fun z _=>n-(intOf z).toNat)
 ·exact ⟨0,.slice none 0 0,rfl,by omega,(by repeat (first|exact Frm.refl _ _|with_reducible refine Frm.set ?_ _ (fun _=>rfl)|with_reducible refine Frm.alloc ?_ _|with_reducible refine Frm.drew ?_)),fun b hb=>(by cases hb),fun b hb=>(by cases hb),hS0,SlO.nil _ _ _,fun k hk=>absurd hk (Nat.not_lt_zero _)⟩
 ·intros;rename_i w2 hI E1 hE
  obtain ⟨i,v,rfl,hi,f2,nv,vS,hS,hs,hall⟩:=hI
  have e2:Ext w1 w2:=f2.to_ext (fun _ _ h=>h)
  have h2:=h.ext (e1.trans e2)
  by_cases hin:i<n
  ·have e32:(l0:Int)+(i:Int)*32=((l0+32*i:Nat):Int):=by omega
   have hG2:Glob w2:=gl.ext h2.ex
   cases hok:hdOk (wd D (l0+32*i) 0) with
   |false=>
    unfold f14_l1_t
    simp (disch:=first|omega|simp only [RO]|(simp only [RZ]<;>omega)|fail) only [↓RBp,↓RA,↓reduceIte,Nat.reduceAdd,Nat.reduceMul,Nat.reduceEqDiff,RB,RX,RA2,e32]
    refine k_LookForm (h2.dv.ext (by repeat (first|(with_reducible first|refine eB ?_ _|assumption|exact eR _|refine eA ?_ _|refine eD ?_|refine eT ?_ (by assumption))|exact eR _))) h.gd (hG2.ext (by repeat (first|(with_reducible first|refine eB ?_ _|assumption|exact eR _|refine eA ?_ _|refine eD ?_|refine eT ?_ (by assumption))|exact eR _))) ho he (l0+32*i) (by omega) hok _ (fun w3 e3=> ?_)
    simp (disch:=first|omega|simp only [RO]|(simp only [RZ]<;>omega)|fail) only [↓RBp,↓RA,↓reduceIte,Nat.reduceAdd,Nat.reduceMul,Nat.reduceEqDiff,RB,RX,RA2]
    exact hb (fun hh=>by rw [hh i hin] at hok;cases hok) _ (e1.trans (e2.trans (by repeat (first|(with_reducible first|refine eB ?_ _|assumption|exact eR _|refine eA ?_ _|refine eD ?_|refine eT ?_ (by assumption))|exact eR _))))
   |true=>
    obtain ⟨pa,pc,rfl,hpc⟩:=hs.isS'
    have hpl:plL (opF D l0) l0 (i+1)=plL (opF D l0) l0 i++ [.int .i64 ((l0+32*i:Nat):Int),.int .i64 (hC (wd D (l0+32*i) 0)),.int .i64 (hO (wd D (l0+32*i) 0)),.bool false]:=rfl
    unfold f14_l1_t
    simp (disch:=first|omega|simp only [RO]|(simp only [RZ]<;>omega)|fail) only [↓RBp,↓RA,↓reduceIte,Nat.reduceAdd,Nat.reduceMul,Nat.reduceEqDiff,RB,RX,RA2,e32]
    refine k_Look (h2.dv.ext (by repeat (first|(with_reducible first|refine eB ?_ _|assumption|exact eR _|refine eA ?_ _|refine eD ?_|refine eT ?_ (by assumption))|exact eR _))) h.gd (hG2.ext (by repeat (first|(with_reducible first|refine eB ?_ _|assumption|exact eR _|refine eA ?_ _|refine eD ?_|refine eT ?_ (by assumption))|exact eR _))) ho he (l0+32*i) (by omega) hok _ (fun w3 e3=> ?_)
    have e23:Ext w2 w3:=Ext.trans (by repeat (first|(with_reducible first|refine eB ?_ _|assumption|exact eR _|refine eA ?_ _|refine eD ?_|refine eT ?_ (by assumption))|exact eR _)) e3
    have hS3:=hS.ext e23
    have s1:w3.cell? ⟨w1.heap.size,1,none⟩=some (.slice pa i pc):=hS3.cell (i:=1) (by omega)
    have ltS:=hS3.lt
    generalize hC (wd D (l0+32*i) 0)=cc at*
    generalize hO (wd D (l0+32*i) 0)=oo at*
    generalize gX (wd D (l0+32*i) 0)=gg at*
    (repeat' (first|(with_reducible first|refine brS_mk (fun _=> ?_) (fun _=> ?_)|refine And.intro ?_ ?_)|(simp (disch:=first|omega|simp only [RO]|(simp only [RZ]<;>omega)|fail) only [↓RBp,↓RA,↓reduceIte,Nat.reduceAdd,Nat.reduceMul,Nat.reduceEqDiff,RB,RX,RA2,s1,e32,evPl])))
    refine app_new elPl (w0:=w1) (hs.ext (e23.trans (by repeat (first|(with_reducible first|refine eB ?_ _|assumption|exact eR _|refine eA ?_ _|refine eD ?_|refine eT ?_ (by assumption))|exact eR _)))) (f2.ext (e23.trans (by repeat (first|(with_reducible first|refine eB ?_ _|assumption|exact eR _|refine eA ?_ _|refine eD ?_|refine eT ?_ (by assumption))|exact eR _)))) nv (m:=1) (news:= [.int .i64 ((l0+32*i:Nat):Int),.int .i64 cc,.int .i64 oo,.bool false]) rfl ?_ rfl (by omega) (by omega) (by omega) (fun v' w5 hsp hf5 n5 hfr5 hb5=> ?_)
    ·intro q u hq
     rw [Nat.zero_add,cell_drew,cell_new _ _ _ _ _ (by simp only [RZ])]
     simpa using hq
    have hS5:Cells w5 w1.heap.size 108 2 (stF (Y.tb 0) (.slice pa i pc)):=(hS3.ext (by repeat (first|(with_reducible first|refine eB ?_ _|assumption|exact eR _|refine eA ?_ _|refine eD ?_|refine eT ?_ (by assumption))|exact eR _))).frm hfr5 (fun hb=>vS _ hb rfl)
    have lt5:=hS5.lt
    have fz5:=hS5.frz
    have t1:w5.cell? ⟨w1.heap.size,1,none⟩=some (.slice pa i pc):=hS5.cell (i:=1) (by omega)
    have vS':∀b,v'.ownBlock=some b→b≠w1.heap.size:=fun b hb e=>by
     rcases hb5 b hb with h5|h5
     ·exact vS b h5 e
     ·simp only [RZ] at h5;omega
    have iv:=isOne_sl hsp
    simp (disch:=first|omega|simp only [RO]|(simp only [RZ]<;>omega)|fail) only [↓RBp,↓RA,↓reduceIte,Nat.reduceAdd,Nat.reduceMul,Nat.reduceEqDiff,RB,RX,RA2,fz5,t1,iv]
    apply hE
    ·refine ⟨i+1,v',by simp,by omega,hf5.set _ (fun hb=>by simp only at hb;omega),n5,vS',?_,?_,fun k hk=> ?_⟩
     ·exact (hS5.set (i:=1) v' (by omega)).congr (fun j hj=>by
       rcases j with _|_|j
       ·rfl
       ·rfl
       ·omega)
     ·rw [hpl]
      exact hsp.of_heap (fun b hb=>heap_set_ne _ (vS' b hb))
     ·by_cases hk2:k<i
      ·exact hall k hk2
      ·have:k=i:=by omega
       subst this;exact hok
    ·simp [intOf];omega
  ·have:i=n:=by omega
   subst this
   have hi0:0<i:=by omega
   obtain ⟨b,ob,cap,rfl,_⟩:=hs.isS hi0
   have hb1:=nv b rfl
   have hes:=e1.size
   unfold f14_l1_t
   simp (disch:=first|omega|simp only [RO]|(simp only [RZ]<;>omega)|fail) only [↓RBp,↓RA,↓reduceIte,Nat.reduceAdd,Nat.reduceMul,Nat.reduceEqDiff,RB,RX,RA2,f14_k1_eq,f14_k1_t]
   have hw0:=h.ex.size
   refine hK hall _ _ _ _ _ (e1.trans e2) hes (by omega) ⟨h2,gl,hS,hs,⟨by omega,fun hf=> ?_,fun hh=>vS b rfl hh.symm⟩,⟨by omega,fun hf=> ?_⟩,hi0,by omega⟩
   ·have:=h.dv.lt hf;omega
   ·have:=h.dv.lt hf;omega
end
end Go.Proofs.YtifpinhjpbgnoaaGreatDoor
namespace Go.Proofs.YtifpinhjpbgnoaaGreatDoor
def wB (W:Nat→Nat) (i:Nat):Nat:=W (i/8)/2^(8*(i%8))%256
end Go.Proofs.YtifpinhjpbgnoaaGreatDoor
namespace Go.Proofs.YtifpinhjpbgnoaaGreatDoor
open Go Go.Sh
theorem byte_or (x m:Nat) (hm:m<8):(x%2^(8*m))|||(x/2^(8*m)%256*2^(8*m))=x%2^(8*(m+1)):=by
 have h1:x%2^(8*m)<2^(8*m):=Nat.mod_lt _ (Nat.pow_pos (by omega))
 have h2:(x%2^(8*m))|||(x/2^(8*m)%256*2^(8*m))=2^(8*m)*(x/2^(8*m)%256)+x%2^(8*m):=by
  rw [Nat.mul_comm (x/2^(8*m)%256),Nat.or_comm,←Nat.two_pow_add_eq_or_of_lt h1]
 rw [h2,show 8*(m+1)=8*m+8 by omega,Nat.pow_add,Nat.mod_mul,show 2^8=256 from rfl];omega
section
variable {w w':World} {Y:Lay} {D D':DS}
theorem k_applyW {b N cw hb ho hc:Nat} {F:Nat→Nat} (hC:Cells w b 30 N (fun i=>u64 (F i))) (hne:hb≠b) (ws:List (Nat×Nat)) (hws:∀j x,ws[j]? =some x→w.cell? ⟨hb,ho+j*2,none⟩=some (.int .u64 (x.1:Int))∧w.cell? ⟨hb,ho+j*2+1,none⟩=some (.int .u64 (x.2:Int))) (hok:∀x∈ws,x.1<8*N) (hN:N<100000) (hl:ws.length<1099511627776) (K:K1)
  (hK:∀w',Cells w' b 30 N (fun i=>u64 (applyH ws F i))→Frm (fun x=>x=b) w w'→K (.tuple #[]) w'):
  callS prog 94 #[.slice (some ⟨b,0,none⟩) N cw,.slice (some ⟨hb,ho,none⟩) ws.length hc] w K:=by
 refine f94_call _ _ _ _ ?_
 unfold f94_t
 simp (disch:=first|omega|simp only [RO]|(simp only [RZ]<;>omega)|fail) only [↓RBp,↓RA,↓reduceIte,Nat.reduceAdd,Nat.reduceMul,Nat.reduceEqDiff,RB,RX,RA2]
 apply f94_l1_rule (I:=fun x8 w'=>∃j:Nat,x8= .int .i64 (j:Int)∧j≤ws.length∧Cells w' b 30 N (fun i=>u64 (applyH (ws.take j) F i))∧Frm (fun x=>x=b) w w') (μ:=fun x8 _=>ws.length-(intOf x8).toNat)
 ·exact ⟨0,rfl,by omega,by simpa [applyH] using hC,Frm.refl _ _⟩
 ·intros;rename_i w1 hI E1 hE
  obtain ⟨j,rfl,hj,hC1,hf⟩:=hI
  by_cases hjk:j<ws.length
  ·obtain ⟨x,hx⟩:∃x,ws[j]? =some x:=⟨_,List.getElem?_eq_getElem hjk⟩
   have hxw:=hws j x hx
   have hxo:=hok x (List.mem_of_getElem? hx)
   have lt0:=lt_of_cell hxw.1
   have c1:=(hf.cell _ _ lt0 hne).trans hxw.1
   have c2:=(hf.cell _ _ lt0 hne).trans hxw.2
   have hz:=hC1.frz
   have hi:x.1/8<N:=by omega
   have c3:=hC1.cell hi
   have hset:=(hC1.set (u64 x.2) hi).alloc
   have lb:=hC1.lt
   have hx8:((x.1:Int)/8)=((x.1/8:Nat):Int):=by omega
   have hsn:∀i,u64 (applyH (ws.take (j+1)) F i)=if i=x.1/8 then u64 x.2 else u64 (applyH (ws.take j) F i):=fun i=>by
    rw [take_snoc' hx,applyH_snoc]
    simp only
    by_cases e:i=x.1/8
    ·rw [if_pos e,if_pos e]
    ·rw [if_neg e,if_neg e]
   obtain ⟨xo,xv⟩:=x
   simp only at c1 c2 hxo hi hx8 hset hsn c3
   unfold f94_l1_t
   simp (disch:=first|omega|simp only [RO]|(simp only [RZ]<;>omega)|fail) only [↓RBp,↓RA,↓reduceIte,Nat.reduceAdd,Nat.reduceMul,Nat.reduceEqDiff,RB,RX,RA2,c1,c2,c3,hz,hx8,Int.toNat_natCast]
   apply hE
   ·refine ⟨j+1,by simp,by omega,?_,?_⟩
    ·exact (((hC1.set (u64 xv) hi).congr (fun i _=>(hsn i).symm)).alloc _)
    ·exact (hf.set _ (fun _=>rfl)).alloc _
   ·simp [intOf];omega
  ·have:j=ws.length:=by omega
   subst this
   rw [List.take_length] at hC1
   unfold f94_l1_t
   simp (disch:=first|omega|simp only [RO]|(simp only [RZ]<;>omega)|fail) only [↓RBp,↓RA,↓reduceIte,Nat.reduceAdd,Nat.reduceMul,Nat.reduceEqDiff,RB,RX,RA2]
   exact hK _ hC1 hf
theorem k_Dirty (h:Dv w Y D) (g:Good D) (hx:D.exe<1000000000) (K:K1) (hK:∀(dl:List Nat) v w',Ext w w'→NewV w.heap.size v→SlO w' 3 1 v dl.length (i64L (dl.map fun (x:Nat)=>(x:Int)))→(∀x∈dl,x<D.n∧0<(D.hist x).length)→dl.length≤D.n→K v w'):
  callS prog 93 #[.pointer (some ⟨Y.d,0,none⟩)] w K:=by
 have hn:=g.n
 refine f93_call _ _ _ ?_
 unfold f93_t
 simp (disch:=first|omega|simp only [RO]|(simp only [RZ]<;>omega)|fail) only [↓RBp,↓RA,↓reduceIte,Nat.reduceAdd,Nat.reduceMul,Nat.reduceEqDiff,RB,RX,RA2,h.R]
 apply f93_l1_rule (I:=fun x z w'=>∃(j:Nat) (dl:List Nat),z= .int .i64 (j:Int)∧j≤D.n∧SlO w' 3 1 x dl.length (i64L (dl.map fun (x:Nat)=>(x:Int)))∧Frm Nob w w'∧NewV w.heap.size x∧(∀x∈dl,x<D.n∧0<(D.hist x).length)∧dl.length≤j) (μ:=fun _ z _=>D.n-(intOf z).toNat)
 ·exact ⟨0,[],rfl,by omega,SlO.nil _ _ _,Frm.refl _ _,fun b hb=>(by cases hb),fun x hx=>(by cases hx),by simp⟩
 ·intros;rename_i x z w1 hI E1 hE
  obtain ⟨j,dl,rfl,hj,hs,hf,hnv,hdl,hll⟩:=hI
  have e1:Ext w w1:=hf.to_ext (fun _ _ h=>h)
  have h1:=h.ext e1
  by_cases hjn:j<D.n
  ·have hS:=h1.hs j hjn
   have hcnt:=g.cnt j hjn
   have c1:=h1.c_hist j hjn
   have hjl:=h1.R
   have hlb:=h1.li.lt
   obtain ⟨va,vc,hv,hvc⟩:=hS.isS'
   rw [hv] at c1
   obtain ⟨pa,pc,rfl,hpc⟩:=hs.isS'
   by_cases h0:0<(D.hist j).length
   ·unfold f93_l1_t
    simp (disch:=first|omega|simp only [RO]|(simp only [RZ]<;>omega)|fail) only [↓RBp,↓RA,↓reduceIte,Nat.reduceAdd,Nat.reduceMul,Nat.reduceEqDiff,RB,RX,RA2,h1.R,c1,hv,Int.toNat_natCast]
    refine app_new el_50_50 (w0:=w) (hs.ext (by repeat (first|(with_reducible first|refine eB ?_ _|assumption|exact eR _|refine eA ?_ _|refine eD ?_|refine eT ?_ (by assumption))|exact eR _))) (hf.ext (by repeat (first|(with_reducible first|refine eB ?_ _|assumption|exact eR _|refine eA ?_ _|refine eD ?_|refine eT ?_ (by assumption))|exact eR _))) hnv (m:=1) (news:= [.int .i64 (j:Int)]) rfl ?_ rfl (by omega) (by omega) (by omega) (fun v' w4 hsp hf4 n4 _ _=> ?_)
    ·intro i u hi
     obtain ⟨rfl,rfl⟩:=one_get hi
     simp (disch:=first|omega|simp only [RO]|(simp only [RZ]<;>omega)|fail) only [↓RBp,↓RA,↓reduceIte,Nat.reduceAdd,Nat.reduceMul,Nat.reduceEqDiff,RB,RX,RA2]
    simp (disch:=first|omega|simp only [RO]|(simp only [RZ]<;>omega)|fail) only [↓RBp,↓RA,↓reduceIte,Nat.reduceAdd,Nat.reduceMul,Nat.reduceEqDiff,RB,RX,RA2,f93_k2_eq,f93_k2_t]
    apply hE
    ·refine ⟨j+1,dl++ [j],by simp,by omega,?_,hf4,n4,fun x hx=> ?_,by simp;omega⟩
     ·rw [List.length_append,List.map_append,i64L,List.map_append];exact hsp
     ·rcases List.mem_append.1 hx with hx|hx
      ·exact hdl x hx
      ·simp only [List.mem_singleton] at hx;subst hx;exact ⟨hjn,h0⟩
    ·simp [intOf];omega
   ·have h00:(D.hist j).length=0:=by omega
    rw [h00] at c1 hv
    unfold f93_l1_t
    simp (disch:=first|omega|simp only [RO]|(simp only [RZ]<;>omega)|fail) only [↓RBp,↓RA,↓reduceIte,Nat.reduceAdd,Nat.reduceMul,Nat.reduceEqDiff,RB,RX,RA2,h1.R,c1,hv,Int.toNat_natCast,f93_k2_eq,f93_k2_t]
    apply hE
    ·exact ⟨j+1,dl,by simp,by omega,hs,hf,hnv,hdl,by omega⟩
    ·simp [intOf];omega
  ·have:j=D.n:=by omega
   subst this
   unfold f93_l1_t
   simp (disch:=first|omega|simp only [RO]|(simp only [RZ]<;>omega)|fail) only [↓RBp,↓RA,↓reduceIte,Nat.reduceAdd,Nat.reduceMul,Nat.reduceEqDiff,RB,RX,RA2,f93_k1_eq,f93_k1_t]
   exact hK dl _ _ e1 hnv hs hdl hll
def ImgW (D:DS) (F:Nat→Nat):Prop:=∀j,j<8*D.n→F j=D.pers j∨∃x∈D.hist (j/8),x.1/8=j∧F j=x.2
theorem ImgW.app {F:Nat→Nat} (h:ImgW D F) (g:Good D) {n:Nat} (hn:n<D.n) (k:Nat):ImgW D (applyH ((D.hist n).take k) F):=by
 intro j hj
 have key:∀(ws:List (Nat×Nat)),(∀x∈ws,x∈D.hist n)→∀F,ImgW D F→ImgW D (applyH ws F):=by
  intro ws
  induction ws with
  |nil=>intro _ F hF;exact hF
  |cons x ws ih=>
   intro hm F hF
   rw [applyH_cons]
   refine ih (fun y hy=>hm y (by simp [hy])) _ (fun i hi=> ?_)
   have hxm:=hm x (by simp)
   have hxg:=g.hist n hn x.1 x.2 hxm
   by_cases e:i=x.1/8
   ·rw [if_pos e]
    right
    refine ⟨x,?_,e.symm,rfl⟩
    rw [show i/8=n by omega];exact hxm
   ·rw [if_neg e];exact hF i hi
 exact key _ (fun x hx=>List.mem_of_mem_take hx) F h j hj
theorem ImgW.lt {F:Nat→Nat} (h:ImgW D F) (g:Good D) (j:Nat) (hj:j<8*D.n):F j<18446744073709551616:=by
 rcases h j hj with h1|⟨x,hx,_,h2⟩
 ·rw [h1];exact g.pers j hj
 ·rw [h2];exact (g.hist (j/8) (by omega) x.1 x.2 hx).2.2
theorem k_bytesOf {b cw N:Nat} {F:Nat→Nat} (hC:Cells w b 30 N (fun i=>u64 (F i))) (hF:∀i,i<N→F i<18446744073709551616) (h0:0<N) (hN:N≤40000) (K:K1)
  (hK:∀b' w',Ext w w'→w.heap.size≤b'→Cells w' b' 5 (8*N) (fun i=> .int .u8 ((wB F i:Nat):Int))→K (.slice (some ⟨b',0,none⟩) (8*N) (8*N)) w'):
  callS prog 95 #[.slice (some ⟨b,0,none⟩) N cw] w K:=by
 refine f95_call _ _ _ ?_
 unfold f95_t
 have f1:((N:Int)*8)=((8*N:Nat):Int):=by omega
 simp (disch:=first|omega|simp only [RO]|(simp only [RZ]<;>omega)|fail) only [↓RBp,↓RA,↓reduceIte,Nat.reduceAdd,Nat.reduceMul,Nat.reduceEqDiff,RB,RX,RA2,f1]
 have hz0:=zrow_cells w (.int .u8 ((0:Nat):Int)) (8*N) 5
 have e0:Ext w (w.alloc (.cells (zrow (.int .u8 ((0:Nat):Int)) (8*N)) 5)):=Ext.alloc_self _ _
 have hbl:=hC.lt
 apply f95_l1_rule (I:=fun z w'=>∃j:Nat,z= .int .i64 (j:Int)∧j≤8*N∧Ext w w'∧∃f:Nat→Value,Cells w' w.heap.size 5 (8*N) f∧∀i,i<j→f i= .int .u8 ((wB F i:Nat):Int)) (μ:=fun z _=>8*N-(intOf z).toNat)
 ·exact ⟨0,rfl,by omega,(by repeat (first|(with_reducible first|refine eB ?_ _|assumption|exact eR _|refine eA ?_ _|refine eD ?_|refine eT ?_ (by assumption))|exact eR _)),_,by simpa using hz0,fun i hi=>by omega⟩
 ·intros;rename_i w1 hI E1 hE
  obtain ⟨j,rfl,hj,e1,f,hc,hfi⟩:=hI
  by_cases hjn:j<8*N
  ·have hq:j/8<N:=by omega
   have f2:((j:Int)/8)=((j/8:Nat):Int):=by omega
   have f3:((j:Int)%8)=((j%8:Nat):Int):=by omega
   have f4:(((j%8:Nat):Int)*8)=((8*(j%8):Nat):Int):=by omega
   have c1:=e1.cell_some (hC.cell hq)
   have hFl:=hF _ hq
   have hw:wB F j=F (j/8)/2^(8*(j%8))%256:=rfl
   have hdl:F (j/8)/2^(8*(j%8))<18446744073709551616:=Nat.lt_of_le_of_lt (Nat.div_le_self _ _) hFl
   have hset:=fun v=>hc.set v hjn
   have c2:=hc.cell hjn
   have hz:=hc.frz
   have ltc:=hc.lt
   generalize F (j/8)=X at*
   have h8:8*(j%8)<64:=by omega
   generalize 8*(j%8)=sh at*
   generalize hy:X/2^sh=y at*
   unfold f95_l1_t
   simp (disch:=first|omega|simp only [RO]|(simp only [RZ]<;>omega)|fail) only [↓RBp,↓RA,↓reduceIte,Nat.reduceAdd,Nat.reduceMul,Nat.reduceEqDiff,RB,RX,RA2,f2,f3,f4,c1,c2,hz,hy,Int.toNat_natCast]
   apply hE
   ·refine ⟨j+1,by simp,by omega,(by repeat (first|(with_reducible first|refine eB ?_ _|assumption|exact eR _|refine eA ?_ _|refine eD ?_|refine eT ?_ (by assumption))|exact eR _)),_,hset _,fun i hi=> ?_⟩
    by_cases e:i=j
    ·subst e;simp only [if_true];rw [hw]
    ·rw [if_neg e];exact hfi i (by omega)
   ·simp [intOf];omega
  ·have:j=8*N:=by omega
   subst this
   unfold f95_l1_t
   simp (disch:=first|omega|simp only [RO]|(simp only [RZ]<;>omega)|fail) only [↓RBp,↓RA,↓reduceIte,Nat.reduceAdd,Nat.reduceMul,Nat.reduceEqDiff,RB,RX,RA2,f95_k1_eq,f95_k1_t]
   exact hK _ _ e1 (Nat.le_refl _) (hc.congr (fun i hi=>hfi i hi))
theorem getD_range (F:Nat→Nat) {n i:Nat} (hi:i<n):((List.range n).map F).getD i 0=F i:=by
 rw [List.getD_eq_getElem?_getD,List.getElem?_map,List.getElem?_range hi];rfl
theorem k_Image (h:Dv w Y D) (g:Good D) (hx:D.exe<1000000000) {m:Nat} {xu:Value} {us:List Nat} (hus:RdS m w xu (u8L us)) (hu8:∀x∈us,x<256) (hln:us.length≤1000) (K:K1)
  (hK:∀F b w',Ext w w'→ImgW D F→w.heap.size≤b→Cells w' b 5 (8*(8*D.n)) (fun i=> .int .u8 ((wB F i:Nat):Int))→K (.slice (some ⟨b,0,none⟩) (8*(8*D.n)) (8*(8*D.n))) w'):
  callS prog 58 #[.pointer (some ⟨Y.d,0,none⟩),xu] w K:=by
 have hn:=g.n;have hn0:=g.n0
 obtain ⟨ua,uc,rfl,_⟩:=id hus
 rw [show (u8L us).length=us.length by simp] at hus ⊢
 have hll:((List.range (8*D.n)).map D.pers).length=8*D.n:=by simp
 have hdl:=h.dev.lt
 have hpl:=h.pe.lt
 refine f58_call _ _ _ _ ?_
 unfold f58_t
 simp (disch:=first|omega|simp only [RO]|(simp only [RZ]<;>omega)|fail) only [↓RBp,↓RA,↓reduceIte,Nat.reduceAdd,Nat.reduceMul,Nat.reduceEqDiff,RB,RX,RA2,h.R]
 have hcl:=k_Clone64 (w:=w) ((List.range (8*D.n)).map D.pers) Y.pb 0 Y.pc (fun j u hj=>by
  rw [Nat.zero_add]
  rw [List.getElem?_map,List.getElem?_map] at hj
  have hj8:j<8*D.n:=by
   by_cases e:j<8*D.n
   ·exact e
   ·rw [List.getElem?_eq_none (by simp;omega)] at hj;cases hj
  rw [List.getElem?_range hj8] at hj
  simp only [Option.map_some,Option.some.injEq] at hj
  subst hj;exact h.c_pers j hj8) hpl (by rw [hll];omega) (by rw [hll];omega)
 rw [hll] at hcl
 refine hcl _ (fun b cb w1 e1 hC hb hcb=> ?_)
 have hC1:Cells w1 b 30 (8*D.n) (fun i=>u64 (D.pers i)):=hC.congr (fun i hi=>by rw [getD_range D.pers hi])
 have fin:∀(F:Nat→Nat) w2,Ext w w2→ImgW D F→Cells w2 b 30 (8*D.n) (fun i=>u64 (F i))→f58_k1 K (.slice (some ⟨b,0,none⟩) (8*D.n) cb) w2:=by
  intro F w2 e2 hF hC2
  rw [f58_k1_eq]
  unfold f58_k1_t
  refine k_bytesOf hC2 (fun i hi=>hF.lt g i hi) (by omega) (by omega) _ (fun b' w3 e3 hb' hC3=> ?_)
  exact hK F b' w3 (e2.trans e3) hF (Nat.le_trans e2.size hb') hC3
 have hp0:ImgW D D.pers:=fun j hj=> .inl rfl
 by_cases h0:us.length=0
 ·simp (disch:=first|omega|simp only [RO]|(simp only [RZ]<;>omega)|fail) only [↓RBp,↓RA,↓reduceIte,Nat.reduceAdd,Nat.reduceMul,Nat.reduceEqDiff,RB,RX,RA2,h0]
  exact fin D.pers w1 e1 hp0 hC1
 ·simp (disch:=first|omega|simp only [RO]|(simp only [RZ]<;>omega)|fail) only [↓RBp,↓RA,↓reduceIte,Nat.reduceAdd,Nat.reduceMul,Nat.reduceEqDiff,RB,RX,RA2]
  refine k_Dirty (h.ext e1) g hx _ (fun dl v w2 e2 hnv hsl hdl hdn=> ?_)
  obtain ⟨pa,pc,rfl,hpc⟩:=hsl.isS'
  simp (disch:=first|omega|simp only [RO]|(simp only [RZ]<;>omega)|fail) only [↓RBp,↓RA,↓reduceIte,Nat.reduceAdd,Nat.reduceMul,Nat.reduceEqDiff,RB,RX,RA2]
  apply f58_l1_rule (I:=fun z w'=>∃(j:Nat) (F:Nat→Nat),z= .int .i64 (j:Int)∧j≤dl.length∧Ext w w'∧ImgW D F∧Cells w' b 30 (8*D.n) (fun i=>u64 (F i))∧SlO w' 3 1 (.slice pa dl.length pc) dl.length (i64L (dl.map fun (x:Nat)=>(x:Int)))) (μ:=fun z _=>dl.length-(intOf z).toNat)
  ·exact ⟨0,D.pers,rfl,by omega,e1.trans e2,hp0,hC1.ext e2,hsl⟩
  ·intros;rename_i w3 hI E1 hE
   obtain ⟨j,F,rfl,hj,e3,hF,hC3,hs3⟩:=hI
   by_cases hjl:j<dl.length
   ·have hmem:=hdl dl[j] (List.getElem_mem hjl)
    have hsi:=hs3.isS (by omega)
    obtain ⟨sb,so,sc,hsv,_⟩:=hsi
    injection hsv with hsv _ _
    subst hsv
    have c1:=hs3.cell rfl (i:=j) (u:= .int .i64 ((dl[j]:Nat):Int)) (by simp [hjl])
    generalize dl[j]=n at hmem c1
    have hmod:j%us.length<us.length:=Nat.mod_lt _ (by omega)
    have hug:=(hus.ext e3).get (u8L_get hmod)
    obtain ⟨ub,uo,uc',hev,c2⟩:=hug
    injection hev with hev _ _
    subst hev
    have hub:=hu8 us[j%us.length] (List.getElem_mem hmod)
    generalize us[j%us.length]=x at c2 hub
    have hS:=h.hs n hmem.1
    have hcnt:=g.cnt n hmem.1
    have h3:=h.ext e3
    have hS3:=h3.hs n hmem.1
    have hiv:=hS3.isS hmem.2
    obtain ⟨hb',ho,hcap,hv,hcl'⟩:=hiv
    have c3:=h3.c_hist n hmem.1
    rw [hv] at c3
    have hhb:hb'<w.heap.size:=hS.lt (by rw [hv];rfl)
    have hlb:=h3.li.lt
    have hdl3:=h3.dev.lt
    have f1:((j:Int)%(us.length:Int))=((j%us.length:Nat):Int):=by omega
    have f2:(((D.hist n).length:Int)+1)=(((D.hist n).length+1:Nat):Int):=by omega
    have f3:((x:Int)%(((D.hist n).length+1:Nat):Int))=((x%((D.hist n).length+1):Nat):Int):=by omega
    have hkk:x%((D.hist n).length+1)≤(D.hist n).length:=by have:=Nat.mod_lt x (show 0<(D.hist n).length+1 by omega);omega
    generalize x%((D.hist n).length+1)=kk at*
    have hlen:((D.hist n).take kk).length=kk:=by rw [List.length_take];omega
    have r1:=fun w k'=>ev_of_run (P:=prog) (run_hi elWrite hb' ho (D.hist n).length hcap .i64 kk w (by omega)) k'
    have hap:=k_applyW (w:=w3) (cw:=cb) (hc:=hcap) hC3 (by omega:hb'≠b) ((D.hist n).take kk) (fun i y hy=>by
     have hy':=List.mem_of_getElem? hy
     have hyi:(D.hist n)[i]? =some y:=by
      rw [List.getElem?_take] at hy
      split at hy
      ·exact hy
      ·cases hy
     have hg:=wrL_get _ _ _ hyi
     have a1:=hS3.cell hv hg.1
     have a2:=hS3.cell hv hg.2
     rw [←Nat.add_assoc] at a2
     exact ⟨a1,a2⟩) (fun y hy=>by have:=g.hist n hmem.1 y.1 y.2 (List.mem_of_mem_take hy);omega) (by omega) (by omega)
    rw [hlen] at hap
    have hlt1:=lt_of_cell c1
    have hlt2:=lt_of_cell c2
    unfold f58_l1_t
    simp (disch:=first|omega|simp only [RO]|(simp only [RZ]<;>omega)|fail) only [↓RBp,↓RA,↓reduceIte,Nat.reduceAdd,Nat.reduceMul,Nat.reduceEqDiff,RB,RX,RA2,c1,h3.R,hv,f1,c2,f2,f3,r1,Int.toNat_natCast]
    refine hap _ (fun w4 hC4 hf4=> ?_)
    have e4:Ext w w4:=Ext.frm e3 hf4 (fun y hy=>by subst hy;omega)
    simp (disch:=first|omega|simp only [RO]|(simp only [RZ]<;>omega)|fail) only [↓RBp,↓RA,↓reduceIte,Nat.reduceAdd,Nat.reduceMul,Nat.reduceEqDiff,RB,RX,RA2]
    apply hE
    ·refine ⟨j+1,_,by simp,by omega,e4,hF.app g hmem.1 kk,hC4,hs3.frm hf4 (fun y hy e=> ?_)⟩
     have h5:=hnv y hy
     have h6:=hC.lt
     omega
    ·simp [intOf];omega
   ·have:j=dl.length:=by omega
    subst this
    unfold f58_l1_t
    simp (disch:=first|omega|simp only [RO]|(simp only [RZ]<;>omega)|fail) only [↓RBp,↓RA,↓reduceIte,Nat.reduceAdd,Nat.reduceMul,Nat.reduceEqDiff,RB,RX,RA2]
    exact fin F _ e3 hF hC3
def gW (F:Nat→Nat) (j q:Nat):Nat:=if q<j/8 then F q else if q=j/8 then F q%2^(8*(j%8)) else 0
theorem gW_step (F:Nat→Nat) (j:Nat) (hF:F (j/8)<18446744073709551616) (q:Nat):gW F (j+1) q=if q=j/8 then gW F j (j/8)|||(wB F j*2^(8*(j%8))) else gW F j q:=by
 have hb:=byte_or (F (j/8)) (j%8) (by omega)
 by_cases e:q=j/8
 ·subst e
  rw [if_pos rfl]
  have h1:gW F j (j/8)=F (j/8)%2^(8*(j%8)):=by unfold gW;rw [if_neg (by omega),if_pos rfl]
  have h2:wB F j=F (j/8)/2^(8*(j%8))%256:=rfl
  rw [h1,h2,hb]
  unfold gW
  by_cases h7:j%8=7
  ·rw [if_pos (by omega),h7]
   exact (Nat.mod_eq_of_lt hF).symm
  ·rw [if_neg (by omega),if_pos (by omega),show (j+1)%8=j%8+1 by omega]
 ·rw [if_neg e]
  unfold gW
  by_cases h1:q<j/8
  ·rw [if_pos h1,if_pos (by omega)]
  ·rw [if_neg h1,if_neg e]
   by_cases h7:j%8=7
   ·rw [if_neg (by omega)]
    by_cases h2:q=(j+1)/8
    ·rw [if_pos h2,show (j+1)%8=0 by omega];simp [Nat.mod_one]
    ·rw [if_neg h2]
   ·rw [if_neg (by omega),if_neg (by omega)]
theorem k_From {b n:Nat} {F:Nat→Nat} (hC:Cells w b 5 (8*(8*n)) (fun i=> .int .u8 ((wB F i:Nat):Int))) (hF:∀i,i<8*n→F i<18446744073709551616) (h0:0<n) (hn:n≤4096) (K:K1)
  (hK:∀w' Y,Ext w w'→Dv w' Y (DS.init n ((List.range (8*n)).map F))→(∀x,Y.F x→w.heap.size≤x)→Y.dt=Y.tb→K (.tuple #[.pointer (some ⟨Y.d,0,none⟩),.int .i64 0]) w'):
  callS prog 57 #[.slice (some ⟨b,0,none⟩) (8*(8*n)) (8*(8*n))] w K:=by
 have f1:(((8*(8*n):Nat):Int)%64)=0:=by omega
 have f2:(((8*(8*n):Nat):Int)/64)=(n:Int):=by omega
 have f3:(((8*(8*n):Nat):Int)/8)=((8*n:Nat):Int):=by omega
 refine f57_call _ _ _ ?_
 unfold f57_t
 simp (disch:=first|omega|simp only [RO]|(simp only [RZ]<;>omega)|fail) only [↓RBp,↓RA,↓reduceIte,Nat.reduceAdd,Nat.reduceMul,Nat.reduceEqDiff,RB,RX,RA2,f1,f2,f3]
 have hz0:=zrow_cells w (.int .u64 ((0:Nat):Int)) (8*n) 30
 have hbl:=hC.lt
 have ea:Ext w (w.alloc (.cells (zrow (.int .u64 ((0:Nat):Int)) (8*n)) 30)):=Ext.alloc_self _ _
 apply f57_l1_rule (I:=fun z w'=>∃j:Nat,z= .int .i64 (j:Int)∧j≤8*(8*n)∧Ext w w'∧Cells w' w.heap.size 30 (8*n) (fun q=>u64 (gW F j q))) (μ:=fun z _=>8*(8*n)-(intOf z).toNat)
 ·refine ⟨0,rfl,by omega,(by repeat (first|(with_reducible first|refine eB ?_ _|assumption|exact eR _|refine eA ?_ _|refine eD ?_|refine eT ?_ (by assumption))|exact eR _)),?_⟩
  have:Cells (w.alloc (.cells (zrow (.int .u64 ((0:Nat):Int)) (8*n)) 30)) w.heap.size 30 (8*n) (fun q=>u64 (gW F 0 q)):=hz0.congr (fun i hi=>by
   show (#[Value.int .u64 ((0:Nat):Int)])[i%1]! =_
   have:gW F 0 i=0:=by
    unfold gW
    rw [if_neg (by omega)]
    by_cases e:i=0/8
    ·rw [if_pos e];simp [Nat.mod_one]
    ·rw [if_neg e]
   rw [this,Nat.mod_one];rfl)
  simpa using this
 ·intros;rename_i w1 hI E1 hE
  obtain ⟨j,rfl,hj,e1,hc⟩:=hI
  by_cases hjn:j<8*(8*n)
  ·have hq:j/8<8*n:=by omega
   have g2:((j:Int)/8)=((j/8:Nat):Int):=by omega
   have g3:((j:Int)%8)=((j%8:Nat):Int):=by omega
   have g4:(((j%8:Nat):Int)*8)=((8*(j%8):Nat):Int):=by omega
   have c1:=e1.cell_some (hC.cell hjn)
   have hFl:=hF _ hq
   have hst:=gW_step F j hFl
   have c2:=hc.cell hq
   have hset:=fun v=>hc.set v hq
   have hz:=hc.frz
   have ltc:=hc.lt
   have hbb:wB F j<256:=Nat.mod_lt _ (by omega)
   have h8:8*(j%8)≤56:=by omega
   have hpw:2^(8*(j%8))≤2^56:=Nat.pow_le_pow_right (by omega) h8
   have hml:wB F j*2^(8*(j%8))<18446744073709551616:=by
    have:wB F j*2^(8*(j%8))≤255*2^56:=Nat.mul_le_mul (by omega) hpw
    omega
   have hmm:wB F j*2^(8*(j%8))%18446744073709551616=wB F j*2^(8*(j%8)):=Nat.mod_eq_of_lt hml
   have hgl:gW F j (j/8)<18446744073709551616:=by
    unfold gW;rw [if_neg (by omega),if_pos rfl]
    exact Nat.lt_of_le_of_lt (Nat.mod_le _ _) hFl
   have hor:=or_lt64 hgl hml
   have h64:8*(j%8)<64:=by omega
   generalize hB:wB F j=B at*
   generalize 8*(j%8)=sh at*
   generalize gW F j (j/8)=G at*
   unfold f57_l1_t
   simp (disch:=first|omega|simp only [RO]|(simp only [RZ]<;>omega)|fail) only [↓RBp,↓RA,↓reduceIte,Nat.reduceAdd,Nat.reduceMul,Nat.reduceEqDiff,RB,RX,RA2,g2,g3,g4,c1,c2,hz,hmm,Int.toNat_natCast]
   apply hE
   ·refine ⟨j+1,by simp,by omega,(by repeat (first|(with_reducible first|refine eB ?_ _|assumption|exact eR _|refine eA ?_ _|refine eD ?_|refine eT ?_ (by assumption))|exact eR _)),(hset _).congr (fun q hq=> ?_)⟩
    rw [hst q]
    by_cases e:q=j/8
    ·rw [if_pos e,if_pos e]
    ·rw [if_neg e,if_neg e]
   ·simp [intOf];omega
  ·have:j=8*(8*n):=by omega
   subst this
   have hc2:Cells w1 w.heap.size 30 (8*n) (fun i=>u64 (((List.range (8*n)).map F).getD i 0)):=hc.congr (fun i hi=>by
    rw [getD_range F hi]
    have:gW F (8*(8*n)) i=F i:=by unfold gW;rw [if_pos (by omega)]
    rw [this])
   unfold f57_l1_t
   simp (disch:=first|omega|simp only [RO]|(simp only [RZ]<;>omega)|fail) only [↓RBp,↓RA,↓reduceIte,Nat.reduceAdd,Nat.reduceMul,Nat.reduceEqDiff,RB,RX,RA2,f57_k1_eq,f57_k1_t]
   refine k_of _ n w.heap.size h0 hn (by simp) hc2 _ (fun w2 Y e2 hd hf hdt=> ?_)
   refine hK w2 Y (e1.trans e2) hd (fun x hx=> ?_) hdt
   rcases hf x hx with h|h
   ·omega
   ·have:=e1.size;omega
theorem k_Crash (h:Dv w Y D) (g:Good D) (hx:D.exe<1000000000) {m:Nat} {xu:Value} {us:List Nat} (hus:RdS m w xu (u8L us)) (hu8:∀x∈us,x<256) (hln:us.length≤1000) (K:K1)
  (hK:∀F w' Y',Ext w w'→ImgW D F→Dv w' Y' (DS.init D.n ((List.range (8*D.n)).map F))→(∀x,Y'.F x→w.heap.size≤x)→Y'.dt=Y'.tb→K (.pointer (some ⟨Y'.d,0,none⟩)) w'):
  callS prog 20 #[.pointer (some ⟨Y.d,0,none⟩),xu] w K:=by
 have hn:=g.n;have hn0:=g.n0
 refine f20_call _ _ _ _ ?_
 unfold f20_t
 simp (disch:=first|omega|simp only [RO]|(simp only [RZ]<;>omega)|fail) only [↓RBp,↓RA,↓reduceIte,Nat.reduceAdd,Nat.reduceMul,Nat.reduceEqDiff,RB,RX,RA2]
 refine k_Image h g hx hus hu8 hln _ (fun F b w1 e1 hF hb hC=> ?_)
 refine k_From hC (fun i hi=>hF.lt g i hi) hn0 hn _ (fun w2 Y2 e2 hd hf hdt=> ?_)
 simp (disch:=first|omega|simp only [RO]|(simp only [RZ]<;>omega)|fail) only [↓RBp,↓RA,↓reduceIte,Nat.reduceAdd,Nat.reduceMul,Nat.reduceEqDiff,RB,RX,RA2]
 exact hK F w2 Y2 (e1.trans e2) hF hd (fun x hx=>Nat.le_trans e1.size (hf x hx)) hdt
end
structure Co where
 cur:Nat→Nat
 pers:Nat→Nat
 done:Nat→Nat
 hist:Nat→List (Nat×Nat)
 notes:Int→Option Nat
def DS.co (D:DS):Co:=⟨D.cur,D.pers,D.done,D.hist,D.notes 0⟩
def Co.st (C:Co) (off v:Nat):Co:={C with hist:=fun j=>if j=off/64 then C.hist (off/64)++ [(off,v)] else C.hist j,cur:=fun j=>if j=off/8 then v else C.cur j}
def Co.fl (C:Co) (off:Nat):Co:={C with notes:=fun i=>if i=((off/64:Nat):Int) then some (C.done (off/64)+(C.hist (off/64)).length) else C.notes i}
def Co.due (C:Co) (l:Nat):Nat:=match C.notes (l:Int) with
 |some p=>p-C.done l
 |none=>0
def Co.fe (C:Co):Co:=⟨C.cur,fun x=>applyH ((C.hist (x/8)).take (C.due (x/8))) C.pers x,fun l=>C.done l+C.due l,fun l=>(C.hist l).drop (C.due l),fun _=>none⟩
def Co.ex (C:Co) (i:Ins):Co:=if i.op=1 then C.st i.off i.val else if i.op=2 then C.fl i.off else C.fe
def Co.run (C:Co) (p:List Ins):Co:=p.foldl Co.ex C
def vIns (n:Nat) (i:Ins):Prop:=(i.op=1→i.off%8=0∧i.off<n*64)∧(i.op=2→i.off<n*64)
theorem fail_co (D:DS) (e:Int):(D.fail 0 e).co=D.co∧(D.fail 0 e).off=D.off∧(D.fail 0 e).n=D.n:=by
 unfold DS.fail
 split<;>exact ⟨rfl,rfl,rfl⟩
theorem exec_co (D:DS) (i:Ins) (hv:vIns D.n i):((D.exec 0 i).co=D.co.ex i∧(D.exec 0 i).off=D.off∧D.off=false)∨((D.exec 0 i).co=D.co∧(D.exec 0 i).off=true):=by
 have stp:∀(b:Bool),b=true→(D.runs b=true∧(D.counted 0 b).co=D.co∧(D.counted 0 b).off=D.off∧D.off=false)∨(D.runs b=false∧(D.counted 0 b).co=D.co∧(D.counted 0 b).off=true):=by
  intro b hb
  subst hb
  unfold DS.runs DS.counted
  by_cases ho:D.off=true
  ·right
   have:=fail_co D 3
   rw [if_pos ho]
   exact ⟨by simp [ho],this.1,by rw [this.2.1];exact ho⟩
  ·have ho':D.off=false:=by simpa using ho
   rw [if_neg ho,if_neg (by simp)]
   by_cases ha:D.armed=true
   ·rw [if_pos ha]
    by_cases hl:D.left=0
    ·right
     rw [if_pos hl]
     have:=fail_co ({D with off:=true}:DS) 3
     exact ⟨by simp [ha,hl],this.1,this.2.1⟩
    ·left
     rw [if_neg hl]
     exact ⟨by simp [ho',ha,hl],rfl,rfl,ho'⟩
   ·left
    rw [if_neg ha]
    have ha':D.armed=false:=by simpa using ha
    exact ⟨by simp [ho',ha'],rfl,rfl,ho'⟩
 unfold DS.exec Co.ex
 by_cases h1:i.op=1
 ·rw [if_pos h1,if_pos h1]
  have hb:=hv.1 h1
  have hvb:vOff D i.off=true:=by unfold vOff;rw [decide_eq_true hb.1,decide_eq_true hb.2];rfl
  unfold DS.store
  rcases stp (vOff D i.off) hvb with ⟨r,a,b,c⟩|⟨r,a,b⟩
  ·left
   rw [if_pos r]
   refine ⟨?_,b,c⟩
   have e:((D.counted 0 (vOff D i.off)).write i.off i.val).co=(D.counted 0 (vOff D i.off)).co.st i.off i.val:=rfl
   rw [e,a]
  ·right
   rw [if_neg (by simp [r])]
   exact ⟨a,b⟩
 ·rw [if_neg h1,if_neg h1]
  by_cases h2:i.op=2
  ·rw [if_pos h2,if_pos h2]
   have hb:=hv.2 h2
   have hvb:fOff D i.off=true:=by unfold fOff;rw [decide_eq_true hb]
   unfold DS.flush
   rcases stp (fOff D i.off) hvb with ⟨r,a,b,c⟩|⟨r,a,b⟩
   ·left
    rw [if_pos r]
    refine ⟨?_,b,c⟩
    have hd:D.done=D.co.done:=rfl
    have hh:D.hist=D.co.hist:=rfl
    have e:((D.counted 0 (fOff D i.off)).note 0 ((i.off/64:Nat):Int) (D.done (i.off/64)+(D.hist (i.off/64)).length)).co={(D.counted 0 (fOff D i.off)).co with notes:=fun k=>if k=((i.off/64:Nat):Int) then some (D.done (i.off/64)+(D.hist (i.off/64)).length) else (D.counted 0 (fOff D i.off)).co.notes k}:=by
     unfold DS.note DS.co;simp
    rw [e,a];rfl
   ·right
    rw [if_neg (by simp [r])]
    exact ⟨a,b⟩
  ·rw [if_neg h2,if_neg h2]
   unfold DS.fence
   rcases stp true rfl with ⟨r,a,b,c⟩|⟨r,a,b⟩
   ·left
    rw [if_pos r]
    refine ⟨?_,b,c⟩
    have hdu:D.due 0=D.co.due:=by funext l;rfl
    have e:(((D.counted 0 true).parts (D.due 0)).clr 0).co=⟨(D.counted 0 true).co.cur,fun x=>applyH (((D.counted 0 true).co.hist (x/8)).take (D.due 0 (x/8))) (D.counted 0 true).co.pers x,fun l=>(D.counted 0 true).co.done l+D.due 0 l,fun l=>((D.counted 0 true).co.hist l).drop (D.due 0 l),fun _=>none⟩:=by
     unfold DS.clr DS.parts DS.co;simp
    rw [e,a,hdu];rfl
   ·right
    rw [if_neg (by simp [r])]
    exact ⟨a,b⟩
theorem run_off (p:List Ins):∀(D:DS),D.off=true→(∀i∈p,vIns D.n i)→(D.run 0 p).co=D.co∧(D.run 0 p).off=true:=by
 induction p with
 |nil=>intro D h _;exact ⟨rfl,h⟩
 |cons i p ih=>
  intro D h hv
  rw [run_cons]
  rcases exec_co D i (hv i (by simp)) with ⟨_,_,c⟩|⟨a,b⟩
  ·rw [h] at c;cases c
  ·have:=ih (D.exec 0 i) b (fun j hj=>by rw [exec_n];exact hv j (by simp [hj]))
   exact ⟨this.1.trans a,this.2⟩
theorem run_co (p:List Ins):∀(D:DS),D.off=false→(∀i∈p,vIns D.n i)→∃m,m≤p.length∧(D.run 0 p).co=D.co.run (p.take m)∧(m<p.length→(D.run 0 p).off=true):=by
 induction p with
 |nil=>intro D h _;exact ⟨0,by simp,rfl,fun h=>by simp at h⟩
 |cons i p ih=>
  intro D h hv
  rw [run_cons]
  have hv2:∀j∈p,vIns (D.exec 0 i).n j:=fun j hj=>by rw [exec_n];exact hv j (by simp [hj])
  rcases exec_co D i (hv i (by simp)) with ⟨a,b,_⟩|⟨a,b⟩
  ·obtain ⟨m,hm,h1,h2⟩:=ih (D.exec 0 i) (by rw [b];exact h) hv2
   refine ⟨m+1,by simp;omega,?_,fun hl=>h2 (by simp at hl;omega)⟩
   rw [h1,a];rfl
  ·have:=run_off p (D.exec 0 i) b hv2
   exact ⟨0,by simp,this.1.trans a,fun _=>this.2⟩
theorem corun_append (C:Co) (p q:List Ins):C.run (p++q)=(C.run p).run q:=by simp [Co.run,List.foldl_append]
theorem corun_cons (C:Co) (i:Ins) (p:List Ins):C.run (i::p)=(C.ex i).run p:=rfl
structure Cln (C:Co):Prop where
 hist:∀l,C.hist l= []
 notes:C.notes=fun _=>none
 pers:∀x,C.pers x=C.cur x
def J1 (C:Co):Prop:=∀x,C.cur x=applyH (C.hist (x/8)) C.pers x
theorem Cln.j1 {C:Co} (h:Cln C):J1 C:=fun x=>by rw [h.hist];exact (h.pers x).symm
theorem applyH_app (a b:List (Nat×Nat)) (f:Nat→Nat):applyH (a++b) f=applyH b (applyH a f):=by unfold applyH;rw [List.foldl_append]
theorem J1.st {C:Co} (h:J1 C) (off v:Nat):J1 (C.st off v):=by
 intro x
 unfold Co.st
 simp only
 by_cases e:x/8=off/64
 ·rw [if_pos e,applyH_app]
  show _=if x=off/8 then v else applyH (C.hist (off/64)) C.pers x
  by_cases e2:x=off/8
  ·rw [if_pos e2,if_pos e2]
  ·rw [if_neg e2,if_neg e2,h x,e]
 ·rw [if_neg e,if_neg (by omega)]
  exact h x
theorem J1.fe {C:Co} (h:J1 C) (hd:∀l,(C.hist l).length≤C.due l):Cln C.fe∧C.fe.cur=C.cur:=by
 refine ⟨⟨fun l=>List.drop_eq_nil_of_le (hd l),rfl,fun x=> ?_⟩,rfl⟩
 show applyH ((C.hist (x/8)).take (C.due (x/8))) C.pers x=C.cur x
 rw [List.take_of_length_le (hd _)]
 exact (h x).symm
theorem run_wr (ws:List (Nat×Nat)):∀(C:Co),J1 C→J1 (C.run (ws.map wrI))∧(C.run (ws.map wrI)).cur=applyH ws C.cur∧(C.run (ws.map wrI)).notes=C.notes∧(C.run (ws.map wrI)).done=C.done∧∀l,(C.run (ws.map wrI)).hist l≠ []→C.hist l≠ []∨∃x∈ws,x.1/64=l:=by
 induction ws with
 |nil=>intro C h;exact ⟨h,rfl,rfl,rfl,fun l hl=> .inl hl⟩
 |cons x ws ih=>
  intro C h
  rw [List.map_cons,corun_cons]
  have e:C.ex (wrI x)=C.st x.1 x.2:=rfl
  rw [e]
  obtain ⟨a,b,c,d,f⟩:=ih (C.st x.1 x.2) (h.st _ _)
  refine ⟨a,by rw [b,applyH_cons];rfl,c,d,fun l hl=> ?_⟩
  rcases f l hl with h1|⟨y,hy,h1⟩
  ·by_cases e2:l=x.1/64
   ·exact .inr ⟨x,by simp,e2.symm⟩
   ·left
    unfold Co.st at h1
    simp only [if_neg e2] at h1
    exact h1
  ·exact .inr ⟨y,by simp [hy],h1⟩
theorem run_fl (ls:List Nat):∀(C:Co),J1 C→J1 (C.run (ls.map flI))∧(C.run (ls.map flI)).cur=C.cur∧(C.run (ls.map flI)).hist=C.hist∧(C.run (ls.map flI)).done=C.done∧(∀x∈ls,(C.run (ls.map flI)).notes ((x/64:Nat):Int)=some (C.done (x/64)+(C.hist (x/64)).length))∧∀l p,C.notes l=some p→(∃k:Nat,l=(k:Int)∧p=C.done k+(C.hist k).length)→(C.run (ls.map flI)).notes l=some p:=by
 induction ls with
 |nil=>intro C h;exact ⟨h,rfl,rfl,rfl,fun x hx=>(by cases hx),fun l p hp _=>hp⟩
 |cons x ls ih=>
  intro C h
  rw [List.map_cons,corun_cons]
  have e:C.ex (flI x)=C.fl x:=rfl
  rw [e]
  obtain ⟨a,b,c,d,f,g⟩:=ih (C.fl x) h
  have hn:(C.fl x).notes ((x/64:Nat):Int)=some (C.done (x/64)+(C.hist (x/64)).length):=by unfold Co.fl;simp
  refine ⟨a,b,c,d,fun y hy=> ?_,fun l p hp hk=> ?_⟩
  ·rcases List.mem_cons.1 hy with rfl|hy
   ·exact g _ _ hn ⟨y/64,rfl,rfl⟩
   ·exact f y hy
  ·refine g l p ?_ hk
   unfold Co.fl
   simp only
   by_cases e2:l=((x/64:Nat):Int)
   ·rw [if_pos e2]
    obtain ⟨k,hk1,hk2⟩:=hk
    have:k=x/64:=by omega
    subst this;rw [hk2]
   ·rw [if_neg e2];exact hp
theorem kpN_all (d:Array Nat):∀n,n≤d.size→∀i,i<n→d[i]!∈kpN d n:=by
 intro n
 induction n with
 |zero=>intro _ i hi;omega
 |succ n ih=>
  intro hn i hi
  simp only [kpN,List.mem_append]
  by_cases e:i=n
  ·subst e
   by_cases h:i=0∨d[i]!≠d[i-1]!
   ·right;rw [if_pos h];simp
   ·left
    have h1:i≠0:=fun e=>h (.inl e)
    have h2:d[i]! =d[i-1]! :=Classical.byContradiction (fun e=>h (.inr e))
    rw [h2]
    exact ih (by omega) (i-1) (by omega)
  ·exact .inl (ih (by omega) i (by omega))
theorem cmpN_all {l:List Nat} {x:Nat} (h:x∈l):x∈cmpN l:=by
 obtain ⟨i,hi,rfl⟩:=List.mem_iff_getElem.1 h
 have:=kpN_all l.toArray l.length (by simp) i hi
 rw [getElem!_pos l.toArray i (by simpa using hi)] at this
 unfold cmpN
 simpa using this
theorem storesI_all {ws:List (Nat×Nat)} {x:Nat×Nat} (h:x∈ws):lineS x.1∈cmpN (srtN (ws.map fun x=>lineS x.1)):=
 cmpN_all ((srtN_perm _).mem_iff.2 (List.mem_map.2 ⟨x,h,rfl⟩))
theorem run_stores {C:Co} (h:Cln C) (ws:List (Nat×Nat)):Cln (C.run (storesI ws))∧(C.run (storesI ws)).cur=applyH ws C.cur:=by
 unfold storesI
 rw [corun_append,corun_append]
 obtain ⟨a,b,c,d,f⟩:=run_wr ws C h.j1
 obtain ⟨a2,b2,c2,d2,f2,_⟩:=run_fl (cmpN (srtN (ws.map fun x=>lineS x.1))) _ a
 generalize (C.run (ws.map wrI))=C1 at*
 generalize (C1.run ((cmpN (srtN (ws.map fun x=>lineS x.1))).map flI))=C2 at*
 have e:C2.run [⟨3,0,0⟩]=C2.fe:=rfl
 rw [e]
 have:=a2.fe (fun l=>by
  by_cases h0:C2.hist l= []
  ·rw [h0];simp
  ·rw [c2] at h0
   rcases f l h0 with h1|⟨x,hx,h1⟩
   ·exact absurd (h.hist l) h1
   ·have hn:=f2 _ (storesI_all hx)
    have hl:lineS x.1/64=l:=by unfold lineS;omega
    rw [hl] at hn
    unfold Co.due
    rw [hn,c2,d2];simp)
 exact ⟨this.1,by rw [this.2,b2,b]⟩
def QA (C:Co) (a X:Nat):Prop:=C.pers a=X∧∀l,∀x∈C.hist l,x.1/8≠a
theorem QA.ex {C:Co} {a X:Nat} (h:QA C a X) (i:Ins) (hi:i.op=1→i.off/8≠a):QA (C.ex i) a X:=by
 unfold Co.ex
 split
 ·rename_i h1
  refine ⟨h.1,fun l x hx=> ?_⟩
  unfold Co.st at hx
  simp only at hx
  split at hx
  ·rcases List.mem_append.1 hx with hx|hx
   ·exact h.2 _ x hx
   ·simp only [List.mem_singleton] at hx;subst hx;exact hi h1
  ·exact h.2 l x hx
 ·split
  ·exact h
  ·refine ⟨?_,fun l x hx=>h.2 l x (List.mem_of_mem_drop hx)⟩
   show applyH _ C.pers a=X
   rw [applyH_other _ _ _ (fun y hy=>h.2 _ y (List.mem_of_mem_take hy))];exact h.1
theorem QA.run {a X:Nat} (p:List Ins):∀{C:Co},QA C a X→(∀i∈p,i.op=1→i.off/8≠a)→QA (C.run p) a X:=by
 induction p with
 |nil=>intro C h _;exact h
 |cons i p ih=>
  intro C h hi
  rw [corun_cons]
  exact ih (h.ex i (hi i (by simp))) (fun j hj=>hi j (by simp [hj]))
def RQ (C:Co) (a X H:Nat) (G:Nat→Nat):Prop:=(∀j,j≠a→C.pers j=G j)∧(C.pers a=X∨C.pers a=H)∧∀l,∀x∈C.hist l,x.1/8=a∧x.2=H
theorem app_one {a H:Nat}:∀(ws:List (Nat×Nat)),(∀x∈ws,x.1/8=a∧x.2=H)→∀(f:Nat→Nat),applyH ws f a=f a∨applyH ws f a=H:=by
 intro ws
 induction ws with
 |nil=>intro _ f;exact .inl rfl
 |cons x ws ih=>
  intro h f
  rw [applyH_cons]
  have hx:=h x (by simp)
  rcases ih (fun y hy=>h y (by simp [hy])) (fun j=>if j=x.1/8 then x.2 else f j) with h1|h1
  ·rw [h1]
   rw [if_pos hx.1.symm]
   exact .inr hx.2
  ·exact .inr h1
theorem RQ.ex {C:Co} {a X H:Nat} {G:Nat→Nat} (h:RQ C a X H G) (i:Ins) (hi:i.op=1→i.off/8=a∧i.val=H):RQ (C.ex i) a X H G:=by
 unfold Co.ex
 split
 ·rename_i h1
  refine ⟨h.1,h.2.1,fun l x hx=> ?_⟩
  unfold Co.st at hx
  simp only at hx
  split at hx
  ·rcases List.mem_append.1 hx with hx|hx
   ·exact h.2.2 _ x hx
   ·simp only [List.mem_singleton] at hx;subst hx;exact hi h1
  ·exact h.2.2 l x hx
 ·split
  ·exact h
  ·refine ⟨fun j hj=> ?_,?_,fun l x hx=>h.2.2 l x (List.mem_of_mem_drop hx)⟩
   ·show applyH _ C.pers j=G j
    rw [applyH_other _ _ _ (fun y hy e=>hj (by rw [←e];exact (h.2.2 _ y (List.mem_of_mem_take hy)).1))];exact h.1 j hj
   ·show applyH _ C.pers a=X∨applyH _ C.pers a=H
    rcases app_one ((C.hist (a/8)).take (C.due (a/8))) (fun x hx=>h.2.2 _ x (List.mem_of_mem_take hx)) C.pers with h1|h1
    ·rw [h1];exact h.2.1
    ·exact .inr h1
theorem RQ.run {a X H:Nat} {G:Nat→Nat} (p:List Ins):∀{C:Co},RQ C a X H G→(∀i∈p,i.op=1→i.off/8=a∧i.val=H)→RQ (C.run p) a X H G:=by
 induction p with
 |nil=>intro C h _;exact h
 |cons i p ih=>
  intro C h hi
  rw [corun_cons]
  exact ih (h.ex i (hi i (by simp))) (fun j hj=>hi j (by simp [hj]))
theorem cut_img {D:DS} (hc:Cln D.co) (ho:D.off=false) {ws:List (Nat×Nat)} {a H:Nat} (hws:∀x∈ws,x.1%8=0∧x.1<D.n*64∧x.1/8≠a) (ha:8*a<D.n*64) {F:Nat→Nat} (hF:ImgW (D.run 0 (storesI ws++storesI [(8*a,H)])) F):
  (F a=D.cur a∧(D.run 0 (storesI ws++storesI [(8*a,H)])).off=true)∨(F a=H∧∀j,j<8*D.n→j≠a→F j=applyH ws D.cur j)∨(F a=D.cur a∧(D.run 0 (storesI ws++storesI [(8*a,H)])).off=true∧∀j,j<8*D.n→j≠a→F j=applyH ws D.cur j):=by
 have nn:(D.run 0 (storesI ws++storesI [(8*a,H)])).n=D.n:=run_n 0 _ D
 have op1:∀(us:List (Nat×Nat)) (i:Ins),i∈storesI us→i.op=1→∃x∈us,i.off=x.1∧i.val=x.2:=by
  intro us i hi h1
  simp only [storesI,List.mem_append,List.mem_map,List.mem_singleton] at hi
  rcases hi with (⟨x,hx,rfl⟩|⟨x,hx,rfl⟩)|rfl
  ·exact ⟨x,hx,rfl,rfl⟩
  ·simp [flI] at h1
  ·simp at h1
 have op2:∀(us:List (Nat×Nat)),(∀x∈us,x.1<D.n*64)→∀(i:Ins),i∈storesI us→i.op=2→i.off<D.n*64:=by
  intro us hus i hi h2
  simp only [storesI,List.mem_append,List.mem_map,List.mem_singleton] at hi
  rcases hi with (⟨x,hx,rfl⟩|⟨x,hx,rfl⟩)|rfl
  ·simp [wrI] at h2
  ·obtain ⟨y,hy,rfl⟩:=storesI_line hx
   have:=hus y hy
   simp only [flI,lineS];omega
  ·simp at h2
 have v1:∀i∈storesI ws,vIns D.n i:=fun i hi=>⟨fun h=>by
  obtain ⟨x,hx,e,_⟩:=op1 ws i hi h
  rw [e];exact ⟨(hws x hx).1,(hws x hx).2.1⟩,op2 ws (fun x hx=>(hws x hx).2.1) i hi⟩
 have v2:∀i∈storesI [(8*a,H)],vIns D.n i:=fun i hi=>⟨fun h=>by
  obtain ⟨x,hx,e,_⟩:=op1 _ i hi h
  simp only [List.mem_singleton] at hx;subst hx
  rw [e];exact ⟨by simp only;omega,ha⟩,op2 _ (fun x hx=>by simp only [List.mem_singleton] at hx;subst hx;exact ha) i hi⟩
 obtain ⟨m,hm,h1,h2⟩:=run_co (storesI ws++storesI [(8*a,H)]) D ho (fun i hi=>by
  rcases List.mem_append.1 hi with hi|hi
  ·exact v1 i hi
  ·exact v2 i hi)
 generalize hE:D.run 0 (storesI ws++storesI [(8*a,H)])=E at*
 have ec:∀j,E.pers j=E.co.pers j:=fun j=>rfl
 have eh:∀j,E.hist j=E.co.hist j:=fun j=>rfl
 have ha8:a<8*E.n:=by rw [nn];omega
 by_cases hl:m≤(storesI ws).length
 ·left
  have htk:(storesI ws++storesI [(8*a,H)]).take m=(storesI ws).take m:=List.take_append_of_le_length hl
  rw [htk] at h1
  have q:=QA.run (a:=a) (X:=D.cur a) ((storesI ws).take m) (C:=D.co) ⟨hc.pers a,fun l x hx=>by rw [hc.hist] at hx;cases hx⟩ (fun i hi ho=>by
   obtain ⟨x,hx,e,_⟩:=op1 ws i (List.mem_of_mem_take hi) ho
   rw [e];exact (hws x hx).2.2)
  rw [←h1] at q
  refine ⟨?_,h2 (by rw [List.length_append];have:=storesI_pos [(8*a,H)];omega)⟩
  rcases hF a ha8 with h3|⟨x,hx,h3,_⟩
  ·rw [h3];exact q.1
  ·exact absurd h3 (q.2 _ x hx)
 ·have htk:(storesI ws++storesI [(8*a,H)]).take m=storesI ws++(storesI [(8*a,H)]).take (m-(storesI ws).length):=by
   rw [List.take_append,List.take_of_length_le (by omega)]
  rw [htk,corun_append] at h1
  have hs:=run_stores hc ws
  have q:=RQ.run (a:=a) (X:=D.cur a) (H:=H) (G:=applyH ws D.cur) ((storesI [(8*a,H)]).take (m-(storesI ws).length)) (C:=D.co.run (storesI ws)) ⟨fun j hj=>by rw [hs.1.pers,hs.2];rfl,.inl (by
   rw [hs.1.pers,hs.2]
   exact applyH_other _ _ _ (fun y hy=>(hws y hy).2.2)),fun l x hx=>by rw [hs.1.hist] at hx;cases hx⟩ (fun i hi ho=>by
   obtain ⟨x,hx,e,e2⟩:=op1 _ i (List.mem_of_mem_take hi) ho
   simp only [List.mem_singleton] at hx;subst hx
   rw [e,e2];exact ⟨by simp only;omega,rfl⟩)
  have hG:∀j,j<8*D.n→j≠a→F j=applyH ws D.cur j:=by
   rw [←h1] at q
   intro j hj hja
   rcases hF j (by rw [nn];exact hj) with h3|⟨x,hx,h3,_⟩
   ·rw [h3];exact q.1 j hja
   ·exact absurd ((q.2.2 _ x hx).1.symm.trans h3).symm hja
  have hFa:F a=D.cur a∨F a=H:=by
   rw [←h1] at q
   rcases hF a ha8 with h3|⟨x,hx,_,h3⟩
   ·rw [h3];exact q.2.1
   ·rw [h3];exact .inr (q.2.2 _ x hx).2
  rcases hFa with hFa|hFa
  ·by_cases hml:m<(storesI ws++storesI [(8*a,H)]).length
   ·exact .inr (.inr ⟨hFa,h2 hml,hG⟩)
   ·rw [List.length_append] at hml
    rw [List.take_of_length_le (by omega)] at h1
    have hs2:=run_stores hs.1 [(8*a,H)]
    rw [←h1] at hs2
    have:F a=H:=by
     rcases hF a ha8 with h3|⟨x,hx,_,_⟩
     ·rw [h3,ec,hs2.1.pers,hs2.2]
      show (if a=8*a/8 then H else _)=H
      rw [if_pos (by omega)]
     ·rw [eh,hs2.1.hist] at hx;cases hx
    exact .inr (.inl ⟨this,hG⟩)
  ·exact .inr (.inl ⟨hFa,hG⟩)
section
variable {D:DS} {l g n:Nat} {c o:Int}
theorem planW_at (c0:0≤c) (c5:c<5) (f:Nat→Nat):(∀j,j≠0→j<8→applyH (planW l c g) f (l*8+j)=0)∧∀i:Nat,(i:Int)<perS c→applyH (planW l c g) f (l*8+offN c i)=sealN (blkX g 0 176):=by
 have hp:=perS_in c0 c5
 have hA:∀j,∀y∈planW l c g,y.1/8=l*8+j→(8≤j∧y.2=sealN (blkX g 0 176))∨(j<8∧y.2=0):=by
  intro j y hy hyj
  rcases List.mem_append.1 hy with hy|hy
  ·obtain ⟨i,hi,rfl⟩:=List.mem_map.1 hy
   rw [List.mem_range] at hi
   have hb2:=offS_bd c0 c5 (show 0≤(i:Int) by omega) (by omega)
   left
   simp only at hyj
   exact ⟨by omega,rfl⟩
  ·obtain ⟨i,hi,rfl⟩:=List.mem_map.1 hy
   rw [List.mem_range] at hi
   right
   simp only at hyj
   exact ⟨by omega,rfl⟩
 constructor
 ·intro j h0 h8
  refine applyH_val (fun y hy hyj=> ?_) (.inl ⟨(l*64+(j-1+1)*8,0),List.mem_append_right _ (List.mem_map.2 ⟨j-1,List.mem_range.2 (by omega),rfl⟩),by simp only;omega⟩)
  rcases hA j y hy hyj with h|h
  ·omega
  ·exact h.2
 ·intro i hi
  have bd:=offN_bd c0 c5 hi
  refine applyH_val (fun y hy hyj=> ?_) (.inl ⟨_,List.mem_append_left _ (List.mem_map.2 ⟨i,List.mem_range.2 (by omega),rfl⟩),?_⟩)
  ·rcases hA _ y hy hyj with h|h
   ·exact h.2
   ·omega
  ·simp only;omega
theorem init_wd (F:Nat→Nat) {j:Nat} (hj:l*8+j<8*n):wd (DS.init n ((List.range (8*n)).map F)) l j=F (l*8+j):=by
 unfold wd
 exact getD_range F hj
theorem cut_chunk (hc:Cln D.co) (ho:D.off=false) (hg:Good D) (hl:l+32≤D.n) (c0:0≤c) (c5:c<5) (o0:0≤o) (o8:o<8) (hg0:g≠0) (hg6:g<65536) {X:Nat} (hX:D.cur (l*8)=X) {F:Nat→Nat} (hF:ImgW (D.run 0 (planI l c o g)) F):
  (wd (DS.init D.n ((List.range (8*D.n)).map F)) l 0=X∧(D.run 0 (planI l c o g)).off=true)∨(wd (DS.init D.n ((List.range (8*D.n)).map F)) l 0=sealN (hdX c o g)∧Snd (DS.init D.n ((List.range (8*D.n)).map F)) l c o∧∀i:Nat,(i:Int)<perS c→wd (DS.init D.n ((List.range (8*D.n)).map F)) l (offN c i)=sealN (blkX g 0 176)):=by
 have hp:=perS_in c0 c5
 have hn:=hg.n
 have pw:∀x∈planW l c g,x.1%8=0∧x.1<D.n*64∧x.1/8≠l*8:=by
  intro x hx
  rcases List.mem_append.1 hx with hx|hx
  ·obtain ⟨j,hj,rfl⟩:=List.mem_map.1 hx
   have hb2:=offS_bd c0 c5 (show 0≤(j:Int) by omega) (by rw [List.mem_range] at hj;omega)
   have hw:=wordsS_in c0 c5
   simp only;omega
  ·obtain ⟨j,hj,rfl⟩:=List.mem_map.1 hx
   rw [List.mem_range] at hj
   simp only;omega
 have e:planI l c o g=storesI (planW l c g)++storesI [(8*(l*8),sealN (hdX c o g))]:=by
  unfold planI;rw [show 8*(l*8)=l*64 by omega]
 rw [e] at hF ⊢
 have at_:=planW_at (l:=l) (g:=g) c0 c5 D.cur
 have w0:wd (DS.init D.n ((List.range (8*D.n)).map F)) l 0=F (l*8):=init_wd F (by omega)
 rcases cut_img hc ho pw (by omega) hF with ⟨h1,h2⟩|⟨h1,h2⟩|⟨h1,h2,_⟩
 ·left;exact ⟨by rw [w0,h1,hX],h2⟩
 ·right
  have hlow:∀j,j≠0→j<8→wd (DS.init D.n ((List.range (8*D.n)).map F)) l j=0:=fun j hj h8=>by
   rw [init_wd F (by omega),h2 _ (by omega) (by omega)];exact at_.1 j hj h8
  have hat:∀i:Nat,(i:Int)<perS c→wd (DS.init D.n ((List.range (8*D.n)).map F)) l (offN c i)=sealN (blkX g 0 176):=fun i hi=>by
   have bd:=offN_bd c0 c5 hi
   rw [init_wd F (by omega),h2 _ (by omega) (by omega)];exact at_.2 i hi
  rw [h1] at w0
  exact ⟨w0,fmt_snd c0 c5 o0 o8 hg0 hg6 w0 hlow hat,hat⟩
 ·left;exact ⟨by rw [w0,h1,hX],h2⟩
theorem cln_zero (n:Nat):Cln (DS.zero n).co:=⟨fun _=>rfl,rfl,fun _=>rfl⟩
theorem init_good {n:Nat} (h0:0<n) (hn:n≤4096) {F:Nat→Nat} (hF:∀i,i<8*n→F i<18446744073709551616):Good (DS.init n ((List.range (8*n)).map F))∧On (DS.init n ((List.range (8*n)).map F)):=by
 have hcur:∀i,i<8*n→(DS.init n ((List.range (8*n)).map F)).cur i<18446744073709551616:=fun i hi=>by
  show ((List.range (8*n)).map F).getD i 0<_
  rw [getD_range F hi];exact hF i hi
 exact ⟨⟨h0,hn,hcur,hcur,fun l hl o v h=>(by cases h),fun l hl=>(by show 0+0≤0;omega),⟨by show (0:Int)≤0;omega,by show (0:Int)<_;omega⟩,fun id hid k p h=>(by cases h)⟩,⟨rfl,rfl,rfl⟩⟩
theorem arm_co (D:DS) (k:Nat) (ho:D.off=false):(D.arm (k:Int)).co=D.co∧(D.arm (k:Int)).off=false∧(D.arm (k:Int)).n=D.n∧(D.arm (k:Int)).cur=D.cur∧(D.arm (k:Int)).exe=D.exe:=by
 unfold DS.arm
 rw [if_neg (by simp [ho])]
 exact ⟨rfl,ho,rfl,rfl,rfl⟩
theorem arm_good {D:DS} (g:Good D) (k:Nat) (hk:k<1000):Good (D.arm (k:Int)):=by
 have hL:(0:Int)≤(if (k:Int)<0 then 0 else (k:Int))∧(if (k:Int)<0 then 0 else (k:Int))<9223372036854775808:=by split<;>omega
 unfold DS.arm
 split
 ·exact g
 ·exact ⟨g.n0,g.n,g.cur,g.pers,g.hist,g.cnt,hL,g.notes⟩
end
section
variable {D D':DS} {l k g:Nat} {c o:Int}
theorem alF_of:∀{n:Nat},(∀i,i<n→okF D l c i=true)→alF D l c n=true:=by
 intro n
 induction n with
 |zero=>intro _;rfl
 |succ n ih=>intro h;simp only [alF,ih (fun i hi=>h i (by omega)),h n (by omega)];rfl
theorem alF_ok {n:Nat} (h:alF D l c n=true) (i:Nat) (hi:i<n):okF D l c i=true:=by
 cases hh:okF D l c i with
 |true=>rfl
 |false=>rw [alF_no hi hh] at h;cases h
theorem mxG_le:∀(n i:Nat),i<n→bG (wd D l (offN c i))≤mxG D l c n:=by
 intro n
 induction n with
 |zero=>intro i hi;omega
 |succ n ih=>
  intro i hi
  simp only [mxG]
  by_cases e:i=n
  ·subst e;split<;>omega
  ·have:=ih i (by omega)
   split<;>omega
theorem mxG_lt:∀(n:Nat),mxG D l c n<65536:=by
 intro n
 induction n with
 |zero=>simp [mxG]
 |succ n ih=>
  simp only [mxG]
  have:=bG_lt (wd D l (offN c n))
  split<;>omega
theorem okF_parts {i:Nat} (h:okF D l c i=true):bS (wd D l (offN c i))=176∧bG (wd D l (offN c i))≠0:=by
 unfold okF at h
 simp only [Bool.and_eq_true,decide_eq_true_eq,Bool.not_eq_true',decide_eq_false_iff_not] at h
 exact ⟨h.2.2.1,h.2.2.2⟩
theorem mxG_ne {n:Nat} (h:alF D l c n=true) (h0:0<n):mxG D l c n≠0:=by
 have h1:=(okF_parts (alF_ok h 0 h0)).2
 have h2:=mxG_le (D:=D) (l:=l) (c:=c) n 0 h0
 omega
theorem okF_congr {D':DS} (h:∀j,j<256→wd D' l j=wd D l j) (c0:0≤c) (c5:c<5) {i:Nat} (hi:(i:Int)<perS c):okF D' l c i=okF D l c i:=by
 unfold okF
 rw [h _ (offN_bd c0 c5 hi).2.2,h 1 (by omega)]
theorem alF_congr {D':DS} (h:∀j,j<256→wd D' l j=wd D l j) (c0:0≤c) (c5:c<5):∀n:Nat,(n:Int)≤perS c→alF D' l c n=alF D l c n∧mxG D' l c n=mxG D l c n
 |0,_=>⟨rfl,rfl⟩
 |n+1,hn=>by
  obtain ⟨h1,h2⟩:=alF_congr h c0 c5 n (by omega)
  refine ⟨?_,?_⟩
  ·simp only [alF];rw [h1,okF_congr h c0 c5 (by omega)]
  ·simp only [mxG];rw [h2,h _ (offN_bd c0 c5 (by omega)).2.2]
def OE (D:DS):Prop:=D.off=true→D.err 0≠0
theorem fail_ne (D:DS) (e:Int) (he:e≠0):(D.fail 0 e).err 0≠0:=by
 unfold DS.fail
 split
 ·simpa using he
 ·assumption
theorem counted_oe (h:OE D) (b:Bool):OE (D.counted 0 b):=by
 unfold DS.counted
 intro ho
 split
 ·exact fail_ne _ _ (by omega)
 ·rename_i h1
  have h1:D.off=false:=by simpa using h1
  split
  ·exact fail_ne _ _ (by omega)
  ·split
   ·split
    ·exact fail_ne _ _ (by omega)
    ·rename_i h2 h3 h4
     rw [if_neg (by simp [h1]),if_neg h2,if_pos h3,if_neg h4] at ho
     rw [show ({D with left:=D.left-1,exe:=D.exe+1}:DS).off=D.off from rfl,h1] at ho;cases ho
   ·rename_i h2 h3
    rw [if_neg (by simp [h1]),if_neg h2,if_neg h3] at ho
    rw [show ({D with exe:=D.exe+1}:DS).off=D.off from rfl,h1] at ho;cases ho
theorem exec_oe (h:OE D) (i:Ins):OE (D.exec 0 i):=by
 unfold DS.exec
 split
 ·unfold DS.store
  split
  ·exact fun ho=>counted_oe h _ ho
  ·exact counted_oe h _
 ·split
  ·unfold DS.flush
   split
   ·exact fun ho=>counted_oe h _ ho
   ·exact counted_oe h _
  ·unfold DS.fence
   split
   ·exact fun ho=>counted_oe h _ ho
   ·exact counted_oe h _
theorem run_oe:∀(p:List Ins) (D:DS),OE D→OE (D.run 0 p)
 | [],D,h=>h
 |i::p,D,h=>by rw [run_cons];exact run_oe p _ (exec_oe h i)
theorem On.oe (h:On D):OE D:=fun ho=>by rw [h.off] at ho;cases ho
theorem plan_len (l:Nat) (c0:0≤c) (c5:c<5) (o:Int) (g:Nat):(planI l c o g).length≤200:=by
 have hp:=perS_in c0 c5
 have h4:=storesI_le (planW l c g)
 have h5:=storesI_le [(l*64,sealN (hdX c o g))]
 have h6:=planW_len l c g
 have h7:(planI l c o g).length=(storesI (planW l c g)).length+(storesI [(l*64,sealN (hdX c o g))]).length:=by unfold planI;rw [List.length_append]
 simp only [List.length_singleton] at h5
 omega
theorem vIns_stores {n:Nat} {ws:List (Nat×Nat)} (h:∀x∈ws,x.1%8=0∧x.1<n*64):∀i∈storesI ws,vIns n i:=by
 intro i hi
 unfold storesI at hi
 simp only [List.mem_append,List.mem_map,List.mem_singleton] at hi
 rcases hi with (⟨x,hx,rfl⟩|⟨x,hx,rfl⟩)|rfl
 ·exact ⟨fun _=>h x hx,fun h2=>by simp [wrI] at h2⟩
 ·obtain ⟨y,hy,rfl⟩:=storesI_line hx
  have:=h y hy
  refine ⟨fun h1=>by simp [flI] at h1,fun _=> ?_⟩
  show lineS y.1<n*64
  unfold lineS;omega
 ·exact ⟨fun h1=>by simp at h1,fun h2=>by simp at h2⟩
theorem co_run_wr:∀(ws:List (Nat×Nat)) (C:Co),(C.run (ws.map wrI)).cur=applyH ws C.cur
 | [],C=>rfl
 |x::ws,C=>by
  rw [List.map_cons,corun_cons,co_run_wr ws]
  rfl
theorem co_run_fl:∀(ls:List Nat) (C:Co),(C.run (ls.map flI)).cur=C.cur
 | [],C=>rfl
 |x::ls,C=>by
  rw [List.map_cons,corun_cons,co_run_fl ls]
  rfl
theorem co_run_stores (ws:List (Nat×Nat)) (C:Co):(C.run (storesI ws)).cur=applyH ws C.cur:=by
 unfold storesI
 rw [corun_append,corun_append]
 show ((C.run (ws.map wrI)).run _).cur=_
 rw [co_run_fl,co_run_wr]
theorem run_all {p:List Ins} (ho:D.off=false) (he:D.err 0=0) (hv:∀i∈p,vIns D.n i) (h:(D.run 0 p).err 0=0):(D.run 0 p).co=D.co.run p∧(D.run 0 p).off=false:=by
 have oe:OE (D.run 0 p):=run_oe p D (fun h=>by rw [ho] at h;cases h)
 have hoff:(D.run 0 p).off=false:=by
  cases hh:(D.run 0 p).off with
  |false=>rfl
  |true=>exact absurd h (oe hh)
 obtain ⟨m,hm,hc,hi⟩:=run_co p D ho hv
 have:m=p.length:=by
  rcases Nat.lt_or_ge m p.length with h1|h1
  ·rw [hi h1] at hoff;cases hoff
  ·omega
 subst this
 rw [List.take_length] at hc
 exact ⟨hc,hoff⟩
theorem vIns_clr {n:Nat} (hl:l+32≤n) (g:Nat):∀i∈clrI l g,vIns n i:=vIns_stores (fun x hx=>by simp only [List.mem_singleton] at hx;subst hx;simp only;omega)
theorem planW_in {n:Nat} (hl:l+32≤n) (c0:0≤c) (c5:c<5) (g:Nat):∀x∈planW l c g,x.1%8=0∧x.1<n*64∧l*64≤x.1∧x.1<l*64+2048:=by
 have hp:=perS_in c0 c5
 intro x hx
 rcases List.mem_append.1 hx with hx|hx
 ·obtain ⟨j,hj,rfl⟩:=List.mem_map.1 hx
  have hb2:=offS_bd c0 c5 (show 0≤(j:Int) by omega) (by rw [List.mem_range] at hj;omega)
  have hw:=wordsS_in c0 c5
  simp only;omega
 ·obtain ⟨j,hj,rfl⟩:=List.mem_map.1 hx
  rw [List.mem_range] at hj
  simp only;omega
theorem vIns_plan {n:Nat} (hl:l+32≤n) (c0:0≤c) (c5:c<5) (o:Int) (g:Nat):∀i∈planI l c o g,vIns n i:=by
 intro i hi
 unfold planI at hi
 rcases List.mem_append.1 hi with hi|hi
 ·exact vIns_stores (fun x hx=>⟨(planW_in hl c0 c5 g x hx).1,(planW_in hl c0 c5 g x hx).2.1⟩) i hi
 ·exact vIns_stores (fun x hx=>by simp only [List.mem_singleton] at hx;subst hx;simp only;omega) i hi
theorem clr_cur (ho:D.off=false) (he:D.err 0=0) (hl:l+32≤D.n) (h:(D.run 0 (clrI l g)).err 0=0):(D.run 0 (clrI l g)).cur=(fun j=>if j=l*8 then sealN (hdX (-1) (-1) g) else D.cur j)∧(D.run 0 (clrI l g)).off=false:=by
 obtain ⟨h1,h2⟩:=run_all ho he (vIns_clr hl g) h
 refine ⟨?_,h2⟩
 have e:(D.run 0 (clrI l g)).cur=(D.co.run (clrI l g)).cur:=by rw [←h1];rfl
 rw [e]
 unfold clrI
 rw [co_run_stores]
 funext j
 show (if j=l*64/8 then _ else D.cur j)=_
 rw [show l*64/8=l*8 by omega]
def planF (c o:Int) (g:Nat) (W:Nat→Nat) (j:Nat):Nat:=if j=0 then sealN (hdX c o g) else if isB c j=true then sealN (blkX g 0 176) else if j<8 then 0 else W j
theorem isB_mem {j:Nat}:isB c j=true↔∃i,i<(perS c).toNat∧offN c i=j:=by
 unfold isB
 rw [List.any_eq_true]
 constructor
 ·intro ⟨i,h1,h2⟩;exact ⟨i,List.mem_range.1 h1,by simpa using h2⟩
 ·intro ⟨i,h1,h2⟩;exact ⟨i,List.mem_range.2 h1,by simpa using h2⟩
theorem plan_app (c0:0≤c) (c5:c<5) (f:Nat→Nat) (j:Nat):applyH [(l*64,sealN (hdX c o g))] (applyH (planW l c g) f) j=if l*8≤j∧j<l*8+256 then planF c o g (fun i=>f (l*8+i)) (j-l*8) else f j:=by
 have hp:=perS_in c0 c5
 have hw:=planW_at (l:=l) (g:=g) c0 c5 f
 have h1:∀f:Nat→Nat,applyH [(l*64,sealN (hdX c o g))] f j=if j=l*8 then sealN (hdX c o g) else f j:=fun f=>by
  show (if j=l*64/8 then _ else f j)=_
  rw [show l*64/8=l*8 by omega]
 rw [h1]
 by_cases hin:l*8≤j∧j<l*8+256
 ·rw [if_pos hin]
  obtain ⟨i,rfl⟩:∃i,j=l*8+i:=⟨j-l*8,by omega⟩
  rw [show l*8+i-l*8=i by omega]
  unfold planF
  by_cases h0:i=0
  ·subst h0;rw [if_pos (by omega),if_pos rfl]
  ·rw [if_neg (by omega),if_neg h0]
   by_cases hb:isB c i=true
   ·rw [if_pos hb]
    obtain ⟨q,h2,h3⟩:=isB_mem.1 hb
    rw [←h3]
    exact hw.2 q (by omega)
   ·rw [if_neg hb]
    by_cases h8:i<8
    ·rw [if_pos h8];exact hw.1 i h0 h8
    ·rw [if_neg h8]
     refine applyH_other _ _ _ (fun y hy=> ?_)
     rcases List.mem_append.1 hy with hy|hy
     ·obtain ⟨q,hq,rfl⟩:=List.mem_map.1 hy
      rw [List.mem_range] at hq
      have hb2:=offN_bd c0 c5 (show (q:Int)<perS c by omega)
      intro e
      apply hb
      refine isB_mem.2 ⟨q,hq,?_⟩
      unfold offN at hb2 ⊢
      simp only at e
      omega
     ·obtain ⟨q,hq,rfl⟩:=List.mem_map.1 hy
      rw [List.mem_range] at hq
      simp only;omega
 ·rw [if_neg hin,if_neg (by omega)]
  refine applyH_other _ _ _ (fun y hy=> ?_)
  rcases List.mem_append.1 hy with hy|hy
  ·obtain ⟨q,hq,rfl⟩:=List.mem_map.1 hy
   rw [List.mem_range] at hq
   have hb2:=offN_bd c0 c5 (show (q:Int)<perS c by omega)
   unfold offN at hb2
   simp only;omega
  ·obtain ⟨q,hq,rfl⟩:=List.mem_map.1 hy
   rw [List.mem_range] at hq
   simp only;omega
theorem plan_cur (ho:D.off=false) (he:D.err 0=0) (hl:l+32≤D.n) (c0:0≤c) (c5:c<5) (h:(D.run 0 (planI l c o g)).err 0=0):(D.run 0 (planI l c o g)).cur=(fun j=>if l*8≤j∧j<l*8+256 then planF c o g (wd D l) (j-l*8) else D.cur j)∧(D.run 0 (planI l c o g)).off=false:=by
 obtain ⟨h1,h2⟩:=run_all ho he (vIns_plan hl c0 c5 o g) h
 refine ⟨?_,h2⟩
 have e:(D.run 0 (planI l c o g)).cur=(D.co.run (planI l c o g)).cur:=by rw [←h1];rfl
 rw [e]
 unfold planI
 rw [corun_append,co_run_stores,co_run_stores]
 funext j
 have e1:wd D l=fun i=>D.cur (l*8+i):=by funext i;unfold wd;rfl
 rw [e1]
 exact plan_app (l:=l) (o:=o) (g:=g) c0 c5 D.cur j
end
theorem SlO.updZ {w:World} {t:TypeId} {z b o n cap:Nat} {L:List Value} (h:SlO w t z (.slice (some ⟨b,o,none⟩) n cap) n L) {i:Nat} (u:Value) (hi:i<n*z):SlO (w.setCell ⟨b,o+i,none⟩ u) t z (.slice (some ⟨b,o,none⟩) n cap) n (L.set i u):=by
 obtain ⟨hl,h|⟨b',o',cap',a,hv,hh,hnc,hcm,hsz,hg⟩⟩:=h
 ·cases h.1
 ·injection hv with hv h2 h3
  injection hv with hv
  injection hv with h4 h5 _
  subst h4;subst h5;subst h3
  have hm:=Nat.mul_le_mul_right z hnc
  have hC:Cells w b t a.size (fun j=>(a[j]?).getD undef):=⟨a,hh,Nat.le_refl _,fun j hj=>by simp only [Array.getElem?_eq_getElem hj,Option.getD_some]⟩
  have hC2:=hC.set (i:=o+i) u (by omega)
  obtain ⟨a',hh',hs',hg'⟩:=hC2
  refine ⟨by rw [List.length_set];exact hl,.inr ⟨b,o,cap,a',rfl,hh',hnc,hcm,by omega,fun j x hj=> ?_⟩⟩
  have hjn:j<n*z:=by
   have:=(List.getElem?_eq_some_iff.1 hj).1
   rw [List.length_set] at this;omega
  rw [hg' (o+j) (by omega)]
  simp only
  rw [List.getElem?_set] at hj
  by_cases e:i=j
  ·subst e
   rw [if_pos rfl,if_pos (by omega)] at hj
   rw [if_pos rfl];exact hj
  ·rw [if_neg e] at hj
   rw [if_neg (by omega),hg j x hj,Option.getD_some]
def AgF (D:DS) (l0 n:Nat) (f:Nat→Int×Int×Bool):Prop:=∀k,k<n→hdOk (wd D (l0+32*k) 0)=true∧(f k).1=hC (wd D (l0+32*k) 0)∧(f k).2.1=hO (wd D (l0+32*k) 0)
def emG (D:DS) (l0:Nat) (f:Nat→Int×Int×Bool) (k:Nat):Option Nat:=if (f k).1<0 then none else if (f k).2.2=true then none else if alF D (l0+32*k) (f k).1 (perS (f k).1).toNat=true then some (mxG D (l0+32*k) (f k).1 (perS (f k).1).toNat) else none
theorem hd_cls {x:Nat} (h:hdOk x=true):hC x<5∧(0≤hC x→gX x≠0)∧gX x≠0∧-1≤hC x:=by
 simp only [hdOk,Bool.and_eq_true,Bool.not_eq_true',decide_eq_false_iff_not,Bool.or_eq_true,decide_eq_true_eq] at h
 obtain ⟨⟨⟨h1,h2⟩,h3⟩,h4⟩:=h
 have h5: -1≤hC x:=by unfold hC;omega
 refine ⟨?_,fun _=>h3,h3,h5⟩
 rcases h4 with ⟨a,_⟩|h4
 ·omega
 ·simp only [fmtB,Bool.and_eq_true,decide_eq_true_eq] at h4
  omega
structure AStp (w:World) (Y:Lay) (b:Nat) (w':World) (Y':Lay):Prop where
 tb:Y'.tb=Y.tb
 d:Y'.d=Y.d
 frm:Frm (fun x=>Y.F x∨x=b) w w'
 fr:∀x,Y'.F x→Y.F x∨w.heap.size≤x
section
variable {w0 w w' w'':World} {Y Y' Y'':Lay} {D D':DS} {S b o cp l0 n k:Nat} {f f':Nat→Int×Int×Bool}
theorem AStp.of_ext (Y:Lay) (b:Nat) (e:Ext w w'):AStp w Y b w' Y:=⟨rfl,rfl,Frm.of_ext e,fun x hx=> .inl hx⟩
theorem AStp.of_stp (b:Nat) (s:Stp w Y w' Y' D'):AStp w Y b w' Y':=⟨s.tb,s.d,s.frm.mono (fun x hx=> .inl hx),s.fr⟩
theorem AStp.trans (h:AStp w Y b w' Y') (k:AStp w' Y' b w'' Y''):AStp w Y b w'' Y'' where
 tb:=k.tb.trans h.tb
 d:=k.d.trans h.d
 frm:=h.frm.trans k.frm (fun x hx hf=>by
  rcases hf with hf|hf
  ·rcases h.fr x hf with h1|h1
   ·exact .inl h1
   ·omega
  ·exact .inr hf)
 fr x hx:=by
  rcases k.fr x hx with h1|h1
  ·exact h.fr x h1
  ·exact .inr (Nat.le_trans h.frm.size h1)
theorem AStp.set (h:AStp w Y b w' Y') (i:Nat) (v:Value):AStp w Y b (w'.setCell ⟨b,i,none⟩ v) Y':=⟨h.tb,h.d,h.frm.set _ (fun _=> .inr rfl),h.fr⟩
theorem ArS.emG_ok (h:ArS w0 w Y D S b o cp l0 n f) (ag:AgF D l0 n f) (hk:k<n) {g:Nat} (he:emG D l0 f k=some g):0≤(f k).1∧(f k).1<5∧(f k).2.2=false∧g≠0∧g<65536:=by
 have ha:=ag k hk
 have hc:=hd_cls ha.1
 rw [←ha.2.1] at hc
 unfold emG at he
 by_cases h1:(f k).1<0
 ·rw [if_pos h1] at he;cases he
 ·rw [if_neg h1] at he
  by_cases h2:(f k).2.2=true
  ·rw [if_pos h2] at he;cases he
  ·rw [if_neg h2] at he
   have hp:=perS_in (show 0≤(f k).1 by omega) hc.1
   split at he
   ·rename_i h3
    injection he with he
    subst he
    exact ⟨by omega,hc.1,by simpa using h2,mxG_ne h3 (by omega),mxG_lt _⟩
   ·cases he
theorem ArS.wr (h:ArS w0 w Y D S b o cp l0 n f) {i:Nat} {v:Value} (hi:i<n*4) (hL:(plL f l0 n).set i v=plL f' l0 n):ArS w0 (w.setCell ⟨b,o+i,none⟩ v) Y D S b o cp l0 n f':=by
 have hf:=Frm.one w b (o+i) v
 have h1:=SlO.updZ h.pl v hi
 rw [hL] at h1
 exact ⟨⟨h.L.dv.frm hf (fun x hx hg=>h.nb.2 (hg▸hx)),h.L.gd,Ext.frm h.L.ex hf (fun x hx=>hx▸h.nb.1),h.L.nw⟩,h.gl,h.st.set_ne _ h.nS.2.2,h1,h.nS,h.nb,h.n0,h.lt⟩
theorem cells5C {b t:Nat} {f:Nat→Value} (h:Cells w b t 5 f) (v0 v1 v2 v3 v4:Value):Cells (((((w.setCell ⟨b,0,none⟩ v0).setCell ⟨b,1,none⟩ v1).setCell ⟨b,2,none⟩ v2).setCell ⟨b,3,none⟩ v3).setCell ⟨b,4,none⟩ v4) b t 5 (fun i=> [v0,v1,v2,v3,v4].getD i undef):=by
 have h3:=((((h.set v0 (i:=0) (by omega)).set v1 (i:=1) (by omega)).set v2 (i:=2) (by omega)).set v3 (i:=3) (by omega)).set v4 (i:=4) (by omega)
 refine h3.congr (fun i hi=> ?_)
 rcases i with _|_|_|_|_|i
 ·rfl
 ·rfl
 ·rfl
 ·rfl
 ·rfl
 ·omega
theorem cells3C {b t:Nat} {f:Nat→Value} (h:Cells w b t 3 f) (v0 v1 v2:Value):Cells (((w.setCell ⟨b,0,none⟩ v0).setCell ⟨b,1,none⟩ v1).setCell ⟨b,2,none⟩ v2) b t 3 (fun i=> [v0,v1,v2].getD i undef):=by
 have h3:=((h.set v0 (i:=0) (by omega)).set v1 (i:=1) (by omega)).set v2 (i:=2) (by omega)
 refine h3.congr (fun i hi=> ?_)
 rcases i with _|_|_|i
 ·rfl
 ·rfl
 ·rfl
 ·omega
theorem cl_k1 (h:ArS w0 w Y D S b o cp l0 n f) (hk:k<n) (ho:D.off=false) (he:D.err 0=0) (c0:0≤(f k).1) (c5:(f k).1<5) {N:Nat} {oo:Int} {gg:Nat} (hN:Cells w N 69 5 (chF (Y.tb 0) (l0+32*k) (f k).1 oo gg)) (hh:(f k).2.2=false) (K:K1)
  (h0:emG D l0 f k=none→∀w',Ext w w'→K (.tuple #[.slice none 0 0,.bool false]) w')
  (h1:∀g,emG D l0 f k=some g→g≠0→g<65536→∀v w',Ext w w'→NewV w.heap.size v→SlO w' 176 3 v (clrI (l0+32*k) g).length (inL (clrI (l0+32*k) g))→K (.tuple #[v,.bool true]) w'):
  f78_k1 K (.pointer (some ⟨b,o+k*4,none⟩)) (.pointer (some ⟨N,0,none⟩)) (.int .i64 0) w:=by
 have hle:=h.le
 have hlt:=h.lt
 have hnn:=h.L.gd.n
 have ltb:=h.ltb
 have ltS:=h.ltS
 have hp:=perS_in c0 c5
 have hcx:Cx w Y D (l0+32*k) (f k).1:=⟨h.L.dv,h.L.gd,h.gl.ext h.L.ex,ho,by omega,c0,c5⟩
 have d0:w.cell? ⟨N,0,none⟩=some (.iface 25 (.pointer (some ⟨Y.tb 0,0,none⟩))):=hN.cell (i:=0) (by omega)
 have d1:w.cell? ⟨N,1,none⟩=some (.int .i64 ((l0+32*k:Nat):Int)):=hN.cell (i:=1) (by omega)
 have d2:w.cell? ⟨N,2,none⟩=some (.int .i64 (f k).1):=hN.cell (i:=2) (by omega)
 have d3:w.cell? ⟨N,3,none⟩=some (.int .i64 oo):=hN.cell (i:=3) (by omega)
 have d4:w.cell? ⟨N,4,none⟩=some (.int .u16 (gg:Int)):=hN.cell (i:=4) (by omega)
 have hem:emG D l0 f k=if alF D (l0+32*k) (f k).1 (perS (f k).1).toNat=true then some (mxG D (l0+32*k) (f k).1 (perS (f k).1).toNat) else none:=by
  unfold emG;rw [if_neg (by omega),if_neg (by simp [hh])]
 have hm0:alF D (l0+32*k) (f k).1 (perS (f k).1).toNat=true→mxG D (l0+32*k) (f k).1 (perS (f k).1).toNat≠0:=fun h=>mxG_ne h (by omega)
 have hml:=mxG_lt (D:=D) (l:=l0+32*k) (c:=(f k).1) (perS (f k).1).toNat
 have hNx:=fun (K:K1) hk=>k_Next hcx oo gg K hk
 have hp1:∀w',Ext w w'→w'.cell? ⟨b,o+k*4,none⟩=some (.int .i64 ((l0+32*k:Nat):Int)):=fun w' e=>((h.ext e).p hk).1
 generalize (f k).1=cc at*
 generalize mxG D (l0+32*k) cc (perS cc).toNat=mx at*
 generalize alF D (l0+32*k) cc (perS cc).toNat=al at*
 generalize emG D l0 f k=eg at*
 rw [f78_k1_eq]
 unfold f78_k1_t
 simp (disch:=first|omega|simp only [RO]|(simp only [RZ]<;>omega)|fail) only [↓RBp,↓RA,↓reduceIte,Nat.reduceAdd,Nat.reduceMul,Nat.reduceEqDiff,RB,RX,RA2,d0,d1,d2,d3,d4]
 refine hNx _ (fun w1 e1=> ?_)
 cases al with
 |false=>
  simp (disch:=first|omega|simp only [RO]|(simp only [RZ]<;>omega)|fail) only [↓RBp,↓RA,↓reduceIte,Nat.reduceAdd,Nat.reduceMul,Nat.reduceEqDiff,RB,RX,RA2]
  exact h0 (by rw [hem];rfl) _ e1
 |true=>
  have q0:=hp1 w1 e1
  rw [if_pos rfl]
  simp (disch:=first|omega|simp only [RO]|(simp only [RZ]<;>omega)|fail) only [↓RBp,↓RA,↓reduceIte,Nat.reduceAdd,Nat.reduceMul,Nat.reduceEqDiff,RB,RX,RA2,q0]
  refine k_Clear (hcx.gl.ext e1) (l0+32*k) mx (by omega) (hm0 rfl) hml _ (fun v w2 hs e2 nv=> ?_)
  simp (disch:=first|omega|simp only [RO]|(simp only [RZ]<;>omega)|fail) only [↓RBp,↓RA,↓reduceIte,Nat.reduceAdd,Nat.reduceMul,Nat.reduceEqDiff,RB,RX,RA2]
  exact h1 mx (by rw [hem];rfl) (hm0 rfl) hml v _ (e1.trans e2) (fun x hx=>Nat.le_trans e1.size (nv x hx)) hs
theorem k_clearing (h:ArS w0 w Y D S b o cp l0 n f) (ag:AgF D l0 n f) (hk:k<n) (ho:D.off=false) (he:D.err 0=0) (K:K1)
  (h0:emG D l0 f k=none→∀w',Ext w w'→K (.tuple #[.slice none 0 0,.bool false]) w')
  (h1:∀g,emG D l0 f k=some g→g≠0→g<65536→∀v w',Ext w w'→NewV w.heap.size v→SlO w' 176 3 v (clrI (l0+32*k) g).length (inL (clrI (l0+32*k) g))→K (.tuple #[v,.bool true]) w'):
  callS prog 78 #[stV S,.pointer (some ⟨b,o+k*4,none⟩)] w K:=by
 have hle:=h.le
 have hlt:=h.lt
 have hnn:=h.L.gd.n
 have ltb:=h.ltb
 have ltS:=h.ltS
 have ha:=ag k hk
 have hcl:=hd_cls ha.1
 rw [←ha.2.1] at hcl
 have ob32:=h.p hk;have q0:=ob32.1;have q1:=ob32.2.1;have q2:=ob32.2.2.1;have q3:=ob32.2.2.2
 have s0:=h.c0
 have hG:Glob w:=h.gl.ext h.L.ex
 by_cases c0:(f k).1<0
 ·have h0:=h0 (by unfold emG;rw [if_pos c0])
  generalize (f k).1=cc at*
  refine f78_call _ _ _ _ ?_
  unfold f78_t
  simp (disch:=first|omega|simp only [RO]|(simp only [RZ]<;>omega)|fail) only [↓RBp,↓RA,↓reduceIte,Nat.reduceAdd,Nat.reduceMul,Nat.reduceEqDiff,RB,RX,RA2,q1,c0]
  exact h0 _ (by repeat (first|(with_reducible first|refine eB ?_ _|assumption|exact eR _|refine eA ?_ _|refine eD ?_|refine eT ?_ (by assumption))|exact eR _))
 ·cases hh:(f k).2.2 with
  |true=>
   have h0:=h0 (by unfold emG;rw [if_neg c0,if_pos hh])
   rw [hh] at q3
   generalize (f k).1=cc at*
   refine f78_call _ _ _ _ ?_
   unfold f78_t
   simp (disch:=first|omega|simp only [RO]|(simp only [RZ]<;>omega)|fail) only [↓RBp,↓RA,↓reduceIte,Nat.reduceAdd,Nat.reduceMul,Nat.reduceEqDiff,RB,RX,RA2,q1,q3,c0]
   exact h0 _ (by repeat (first|(with_reducible first|refine eB ?_ _|assumption|exact eR _|refine eA ?_ _|refine eD ?_|refine eT ?_ (by assumption))|exact eR _))
  |false=>
   rw [hh] at q3
   have hop:∀(w1:World) (K:K1),Ext w w1→(∀w2,Ext w1 w2→K (.tuple #[chV Y (l0+32*k) (f k).1 (f k).2.1 (gX (wd D (l0+32*k) 0)),.int .i64 0]) w2)→callS prog 23 #[.iface 25 (.pointer (some ⟨Y.tb 0,0,none⟩)),.int .i64 ((l0+32*k:Nat):Int)] w1 K:=fun w1 K e1 hk2=>by
    refine k_OpenAt (h.L.dv.ext e1) h.L.gd (hG.ext e1) ho he (l0+32*k) (by omega) ha.1 K (fun w2 e2=> ?_)
    rw [if_neg (by rw [←ha.2.1];exact c0),←ha.2.1,←ha.2.2]
    exact hk2 w2 e2
   have fin:∀(w2:World) (N:Nat),Ext w w2→Cells w2 N 69 5 (chF (Y.tb 0) (l0+32*k) (f k).1 (f k).2.1 (gX (wd D (l0+32*k) 0)))→f78_k1 K (.pointer (some ⟨b,o+k*4,none⟩)) (.pointer (some ⟨N,0,none⟩)) (.int .i64 0) w2:=fun w2 N e2 hN=>
    cl_k1 (h.ext e2) hk ho he (by omega) hcl.1 hN hh K (fun hn w' e=>h0 hn w' (e2.trans e)) (fun g hg g0 g6 v w' e nv hs=>h1 g hg g0 g6 v w' (e2.trans e) (fun x hx=>Nat.le_trans e2.size (nv x hx)) hs)
   generalize (f k).1=cc at*
   generalize (f k).2.1=oo at*
   generalize gX (wd D (l0+32*k) 0)=gg at*
   refine f78_call _ _ _ _ ?_
   unfold f78_t
   (repeat' (first|(with_reducible first|refine brS_mk (fun _=> ?_) (fun _=> ?_)|refine And.intro ?_ ?_)|(simp (disch:=first|omega|simp only [RO]|(simp only [RZ]<;>omega)|fail) only [↓RBp,↓RA,↓reduceIte,Nat.reduceAdd,Nat.reduceMul,Nat.reduceEqDiff,RB,RX,RA2,q0,q1,q3,c0,s0])))
   ·refine hop _ _ (by repeat (first|(with_reducible first|refine eB ?_ _|assumption|exact eR _|refine eA ?_ _|refine eD ?_|refine eT ?_ (by assumption))|exact eR _)) (fun w1 e1=> ?_)
    have e0:Ext w w1:=Ext.trans (by repeat (first|(with_reducible first|refine eB ?_ _|assumption|exact eR _|refine eA ?_ _|refine eD ?_|refine eT ?_ (by assumption))|exact eR _)) e1
    have s0:=(h.ext e0).c0
    have ob33:=(h.ext e0).p hk;have q0:=ob33.1;have q1:=ob33.2.1;have q2:=ob33.2.2.1;have q3:=ob33.2.2.2
    have lt1:=(h.ext e0).ltb
    have lt2:=(h.ext e0).ltS
    (repeat' (first|(with_reducible first|refine brS_mk (fun _=> ?_) (fun _=> ?_)|refine And.intro ?_ ?_)|(simp (disch:=first|omega|simp only [RO]|(simp only [RZ]<;>omega)|fail) only [↓RBp,↓RA,↓reduceIte,Nat.reduceAdd,Nat.reduceMul,Nat.reduceEqDiff,RB,RX,RA2,q0,s0])))
    exact fin _ _ (by repeat (first|(with_reducible first|refine eB ?_ _|assumption|exact eR _|refine eA ?_ _|refine eD ?_|refine eT ?_ (by assumption))|exact eR _)) (Cells.new w1 [Value.iface 25 (.pointer (some ⟨Y.tb 0,0,none⟩)),.int .i64 ((l0+32*k:Nat):Int),.int .i64 cc,.int .i64 oo,.int .u16 (gg:Int)] 69)
   ·refine hop _ _ (by repeat (first|(with_reducible first|refine eB ?_ _|assumption|exact eR _|refine eA ?_ _|refine eD ?_|refine eT ?_ (by assumption))|exact eR _)) (fun w1 e1=> ?_)
    have hC0:=(Cells.new w [Value.nilIface,.int .i64 0,.int .i64 0,.int .i64 0,.int .u16 ((0:Nat):Int)] 69).ext (Ext.trans (Ext.drew (Ext.refl _)) e1)
    have lt1:=hC0.lt
    have hD:=cells5C hC0 (Value.iface 25 (.pointer (some ⟨Y.tb 0,0,none⟩))) (.int .i64 ((l0+32*k:Nat):Int)) (.int .i64 cc) (.int .i64 oo) (.int .u16 (gg:Int))
    have z0:=hC0.cell (i:=0) (by simp)
    have z1:=hC0.cell (i:=1) (by simp)
    have z2:=hC0.cell (i:=2) (by simp)
    have z3:=hC0.cell (i:=3) (by simp)
    have z4:=hC0.cell (i:=4) (by simp)
    have hfz:=hC0.frz
    (repeat' (first|(with_reducible first|refine brS_mk (fun _=> ?_) (fun _=> ?_)|refine And.intro ?_ ?_)|(simp (disch:=first|omega|simp only [RO]|(simp only [RZ]<;>omega)|fail) only [↓RBp,↓RA,↓reduceIte,Nat.reduceAdd,Nat.reduceMul,Nat.reduceEqDiff,RB,RX,RA2,z0,z1,z2,z3,z4,hfz])))
    exact fin _ _ (by repeat (first|(with_reducible first|refine eB ?_ _|assumption|exact eR _|refine eA ?_ _|refine eD ?_|refine eT ?_ (by assumption))|exact eR _)) hD
end
section
variable {w0 w w' w'':World} {Y Y' Y'':Lay} {D D' D1:DS} {S b o cp l0 n k:Nat} {f f':Nat→Int×Int×Bool}
theorem ArS.wr1 (h:ArS w0 w Y D S b o cp l0 n f) (hk:k<n) (c:Int):ArS w0 (w.setCell ⟨b,o+k*4+1,none⟩ (.int .i64 c)) Y D S b o cp l0 n (upF f k (c,(f k).2)):=by
 have:=h.wr (i:=k*4+1) (by omega) ((plL_set f l0 n k hk).1 c)
 rwa [←Nat.add_assoc] at this
theorem ArS.wr2 (h:ArS w0 w Y D S b o cp l0 n f) (hk:k<n) (c:Int):ArS w0 (w.setCell ⟨b,o+k*4+2,none⟩ (.int .i64 c)) Y D S b o cp l0 n (upF f k ((f k).1,c,(f k).2.2)):=by
 have:=h.wr (i:=k*4+2) (by omega) ((plL_set f l0 n k hk).2.1 c)
 rwa [←Nat.add_assoc] at this
theorem ArS.wr3 (h:ArS w0 w Y D S b o cp l0 n f) (hk:k<n) (c:Bool):ArS w0 (w.setCell ⟨b,o+k*4+3,none⟩ (.bool c)) Y D S b o cp l0 n (upF f k ((f k).1,(f k).2.1,c)):=by
 have:=h.wr (i:=k*4+3) (by omega) ((plL_set f l0 n k hk).2.2 c)
 rwa [←Nat.add_assoc] at this
theorem upF_upF {α:Type} (f:Nat→α) (k:Nat) (u v:α):upF (upF f k u) k v=upF f k v:=by
 funext j;unfold upF;split<;>rfl
theorem ArS.wr12 (h:ArS w0 w Y D S b o cp l0 n f) (hk:k<n) (c t:Int):ArS w0 ((w.setCell ⟨b,o+k*4+1,none⟩ (.int .i64 c)).setCell ⟨b,o+k*4+2,none⟩ (.int .i64 t)) Y D S b o cp l0 n (upF f k (c,t,(f k).2.2)):=by
 have:=(h.wr1 hk c).wr2 hk t
 rwa [upF_upF,upF_eq] at this
theorem AStp.wr12 (h:AStp w Y b w' Y') (i j:Nat) (u v:Value):AStp w Y b ((w'.setCell ⟨b,i,none⟩ u).setCell ⟨b,j,none⟩ v) Y':=(h.set i u).set j v
theorem k_free (h:ArS w0 w Y D S b o cp l0 n f) (hk:k<n) {p:List Ins} {v:Value} (hs:SlO w 176 3 v p.length (inL p)) (nv:∀x,v.ownBlock=some x→¬Y.F x) (hp:∀i∈p,okI i) (hx:D.exe+p.length<1099511627775) (hD1:D1=D.run 0 p) (K:K1)
  (he:D1.err 0≠0→∀w' Y',AStp w Y b w' Y'→ArS w0 w' Y' D1 S b o cp l0 n f→K (.int .i64 (D1.err 0)) w')
  (hok:D1.err 0=0→∀w' Y',AStp w Y b w' Y'→ArS w0 w' Y' D1 S b o cp l0 n (upF f k (-1,-1,(f k).2.2))→K (.int .i64 0) w'):
  callS prog 79 #[stV S,.pointer (some ⟨b,o+k*4,none⟩),v] w K:=by
 have gd1:Good D1:=by rw [hD1];exact Good.run 0 (by omega) _ _ h.L.gd hp
 have n1:D1.n=D.n:=by rw [hD1];exact run_n 0 _ D
 have s0:=h.c0
 have hrun:∀(K:K1),(∀w' Y',Stp w Y w' Y' D1→K (.int .i64 (D1.err 0)) w')→callS prog 62 #[v,.iface 25 (.pointer (some ⟨Y.tb 0,0,none⟩))] w K:=fun K hK=>by
  subst hD1;exact k_Run h.L.dv h.L.gd 0 (by omega) p v hs nv hp hx K hK
 have hst:∀w' Y',Stp w Y w' Y' D1→ArS w0 w' Y' D1 S b o cp l0 n f:=fun w' Y' st=>h.step st gd1 n1
 generalize D1.err 0=e at*
 refine f79_call _ _ _ _ _ ?_
 unfold f79_t
 simp (disch:=first|omega|simp only [RO]|(simp only [RZ]<;>omega)|fail) only [↓RBp,↓RA,↓reduceIte,Nat.reduceAdd,Nat.reduceMul,Nat.reduceEqDiff,RB,RX,RA2,s0]
 refine hrun _ (fun w1 Y1 st=> ?_)
 have h1:=hst w1 Y1 st
 have a1:=AStp.of_stp b st
 by_cases e0:e=0
 ·subst e0
  have ob34:=h1.p hk;have q0:=ob34.1;have q1:=ob34.2.1;have q2:=ob34.2.2.1;have q3:=ob34.2.2.2
  have fz:=h1.fz
  have h2:=h1.wr1 hk (-1)
  have fz2:=h2.fz
  have ob35:=h2.p hk;have r0:=ob35.1;have r1:=ob35.2.1;have r2:=ob35.2.2.1;have r3:=ob35.2.2.2
  simp (disch:=first|omega|simp only [RO]|(simp only [RZ]<;>omega)|fail) only [↓RBp,↓RA,↓reduceIte,Nat.reduceAdd,Nat.reduceMul,Nat.reduceEqDiff,RB,RX,RA2,fz,q1,q2,fz2,r2]
  exact hok rfl _ Y1 (a1.wr12 _ _ _ _) (h1.wr12 hk (-1) (-1))
 ·simp (disch:=first|omega|simp only [RO]|(simp only [RZ]<;>omega)|fail) only [↓RBp,↓RA,↓reduceIte,Nat.reduceAdd,Nat.reduceMul,Nat.reduceEqDiff,RB,RX,RA2,e0]
  exact he e0 _ Y1 a1 h1
theorem k_pick (h:ArS w0 w Y D S b o cp l0 n f) (ag:AgF D l0 n f) (ho:D.off=false) (he:D.err 0=0) (hx:D.exe<1000000000) (K:K1)
  (hA:∀k,k<n→(f k).1<0→(∀j,j<k→¬(f j).1<0)→∀w',Ext w w'→K (.tuple #[.pointer (some ⟨b,o+k*4,none⟩),.int .i64 0]) w')
  (hB:(∀j,j<n→¬(f j).1<0)→∀k g D1,k<n→emG D l0 f k=some g→(∀j,j<k→emG D l0 f j=none)→D1=D.run 0 (clrI (l0+32*k) g)→∀w' Y',AStp w Y b w' Y'→(D1.err 0≠0→ArS w0 w' Y' D1 S b o cp l0 n f)→(D1.err 0=0→ArS w0 w' Y' D1 S b o cp l0 n (upF f k (-1,-1,(f k).2.2)))→K (.tuple #[.pointer (some ⟨b,o+k*4,none⟩),.int .i64 (D1.err 0)]) w')
  (hN:(∀j,j<n→¬(f j).1<0)→(∀j,j<n→emG D l0 f j=none)→∀w',Ext w w'→K (.tuple #[.pointer none,.int .i64 4]) w'):
  callS prog 60 #[stV S] w K:=by
 have hle:=h.le
 have hlt:=h.lt
 have hnn:=h.L.gd.n
 have s1:=h.c1
 refine f60_call _ _ _ ?_
 unfold f60_t
 simp (disch:=first|omega|simp only [RO]|(simp only [RZ]<;>omega)|fail) only [↓RBp,↓RA,↓reduceIte,Nat.reduceAdd,Nat.reduceMul,Nat.reduceEqDiff,RB,RX,RA2,s1]
 apply f60_l1_rule (I:=fun z w'=>∃i:Nat,z= .int .i64 (i:Int)∧i≤n∧(∀j,j<i→¬(f j).1<0)∧Ext w w') (μ:=fun z _=>n-(intOf z).toNat)
 ·exact ⟨0,rfl,by omega,fun j hj=>absurd hj (Nat.not_lt_zero _),(by repeat (first|(with_reducible first|refine eB ?_ _|assumption|exact eR _|refine eA ?_ _|refine eD ?_|refine eT ?_ (by assumption))|exact eR _))⟩
 ·intros;rename_i w1 hI E1 hE
  obtain ⟨i,rfl,hi,hall,e1⟩:=hI
  have h1:=h.ext e1
  have s1:=h1.c1
  by_cases hin:i<n
  ·have ob36:=h1.p hin;have q0:=ob36.1;have q1:=ob36.2.1;have q2:=ob36.2.2.1;have q3:=ob36.2.2.2
   have hAi:=hA i hin
   have hall2:¬(f i).1<0→∀j,j<i+1→¬(f j).1<0:=fun hc j hj=>by
    by_cases e:j=i
    ·rw [e];exact hc
    ·exact hall j (by omega)
   by_cases hc:(f i).1<0
   ·have hAi:=hAi hc hall
    generalize (f i).1=cc at q1 hc
    unfold f60_l1_t
    simp (disch:=first|omega|simp only [RO]|(simp only [RZ]<;>omega)|fail) only [↓RBp,↓RA,↓reduceIte,Nat.reduceAdd,Nat.reduceMul,Nat.reduceEqDiff,RB,RX,RA2,s1,q1,hc]
    exact hAi _ e1
   ·have hall2:=hall2 hc
    generalize (f i).1=cc at q1 hc
    unfold f60_l1_t
    simp (disch:=first|omega|simp only [RO]|(simp only [RZ]<;>omega)|fail) only [↓RBp,↓RA,↓reduceIte,Nat.reduceAdd,Nat.reduceMul,Nat.reduceEqDiff,RB,RX,RA2,s1,q1,hc]
    apply hE
    ·exact ⟨i+1,by simp,by omega,hall2,e1⟩
    ·simp [intOf];omega
  ·have:i=n:=by omega
   subst this
   unfold f60_l1_t
   simp (disch:=first|omega|simp only [RO]|(simp only [RZ]<;>omega)|fail) only [↓RBp,↓RA,↓reduceIte,Nat.reduceAdd,Nat.reduceMul,Nat.reduceEqDiff,RB,RX,RA2,f60_k1_eq,f60_k1_t,s1]
   apply f60_l2_rule (I:=fun z w'=>∃q:Nat,z= .int .i64 (q:Int)∧q≤i∧(∀j,j<q→emG D l0 f j=none)∧Ext w w') (μ:=fun z _=>i-(intOf z).toNat)
   ·exact ⟨0,rfl,by omega,fun j hj=>absurd hj (Nat.not_lt_zero _),e1⟩
   ·intros;rename_i w2 hI E2 hE2
    obtain ⟨q,rfl,hq,hnone,e2⟩:=hI
    have h2:=h.ext e2
    have s0:=h2.c0
    have s1:=h2.c1
    by_cases hqi:q<i
    ·have hem:=fun g hg=>h2.emG_ok ag hqi (g:=g) hg
     have hB:=hB hall q
     have hno:emG D l0 f q=none→∀j,j<q+1→emG D l0 f j=none:=fun hc j hj=>by
      by_cases e:j=q
      ·rw [e];exact hc
      ·exact hnone j (by omega)
     unfold f60_l2_t
     simp (disch:=first|omega|simp only [RO]|(simp only [RZ]<;>omega)|fail) only [↓RBp,↓RA,↓reduceIte,Nat.reduceAdd,Nat.reduceMul,Nat.reduceEqDiff,RB,RX,RA2,s1]
     refine k_clearing h2 ag hqi ho he _ (fun hn0 w3 e3=> ?_) (fun g hg g0 g6 v w3 e3 nv hs=> ?_)
     ·simp (disch:=first|omega|simp only [RO]|(simp only [RZ]<;>omega)|fail) only [↓RBp,↓RA,↓reduceIte,Nat.reduceAdd,Nat.reduceMul,Nat.reduceEqDiff,RB,RX,RA2]
      apply hE2
      ·exact ⟨q+1,by simp,by omega,hno hn0,e2.trans e3⟩
      ·simp [intOf];omega
     ·have ok:∀i∈clrI (l0+32*q) g,okI i:=by
       have hs6:=sealN_lt (hdX (-1) (-1) g) (hdX_lt (by omega) (by omega) (by omega) (by omega) g6)
       exact okI_stores (fun x hx=>by simp only [List.mem_singleton] at hx;subst hx;exact ⟨by simp only;omega,hs6⟩)
      have hcl:=clrI_len (l0+32*q) g
      obtain ⟨D1,hD1⟩:∃D1,D1=D.run 0 (clrI (l0+32*q) g):=⟨_,rfl⟩
      have hB:=hB g D1 hqi hg hnone hD1
      have h3:=h2.ext e3
      have nF:∀x,v.ownBlock=some x→¬Y.F x:=fun x hx hf=>by have:=nv x hx;have:=h2.L.dv.lt hf;omega
      simp (disch:=first|omega|simp only [RO]|(simp only [RZ]<;>omega)|fail) only [↓RBp,↓RA,↓reduceIte,Nat.reduceAdd,Nat.reduceMul,Nat.reduceEqDiff,RB,RX,RA2]
      refine k_free h3 hqi hs nF ok (by omega) hD1 _ (fun hne w4 Y4 a4 h4=> ?_) (fun h0 w4 Y4 a4 h4=> ?_)
      ·have a04:=(AStp.of_ext Y b (e2.trans e3)).trans a4
       have hB:=hB w4 Y4 a04 (fun _=>h4) (fun h=>absurd h hne)
       simp (disch:=first|omega|simp only [RO]|(simp only [RZ]<;>omega)|fail) only [↓RBp,↓RA,↓reduceIte,Nat.reduceAdd,Nat.reduceMul,Nat.reduceEqDiff,RB,RX,RA2]
       exact hB
      ·have a04:=(AStp.of_ext Y b (e2.trans e3)).trans a4
       have hB:=hB w4 Y4 a04 (fun h=>absurd h0 h) (fun _=>h4)
       rw [h0] at hB
       simp (disch:=first|omega|simp only [RO]|(simp only [RZ]<;>omega)|fail) only [↓RBp,↓RA,↓reduceIte,Nat.reduceAdd,Nat.reduceMul,Nat.reduceEqDiff,RB,RX,RA2]
       exact hB
    ·have:q=i:=by omega
     subst this
     have her:=h2.er
     rw [he] at her
     unfold f60_l2_t
     simp (disch:=first|omega|simp only [RO]|(simp only [RZ]<;>omega)|(with_reducible (repeat (first|assumption|exact Ext.refl _|refine Ext.alloc ?_ _|refine Ext.drew ?_|refine Ext.trans ?_ (by assumption))))|fail) only [↓RBp,↓RA,↓reduceIte,Nat.reduceAdd,Nat.reduceMul,Nat.reduceEqDiff,RB,RX,RA2,f60_k2_eq,f60_k2_t,s0,her]
     exact hN hall hnone _ e2
end
theorem planI_ok {l n g:Nat} {c o:Int} (hl:l+32≤n) (hn:n≤4096) (c0:0≤c) (c5:c<5) (o0:0≤o) (o8:o<8) (hg:g<65536):∀i∈planI l c o g,okI i:=by
 have hb:=sealN_lt (blkX g 0 176) (blkX_lt hg (by omega) (by omega))
 have hd:=sealN_lt (hdX c o g) (hdX_lt (by omega) c5 (by omega) o8 hg)
 intro i hi
 unfold planI at hi
 rcases List.mem_append.1 hi with hi|hi
 ·refine okI_stores (fun x hx=>⟨by have:=planW_in hl c0 c5 g x hx;omega,?_⟩) i hi
  rcases List.mem_append.1 hx with hx|hx
  ·obtain ⟨j,hj,rfl⟩:=List.mem_map.1 hx
   exact hb
  ·obtain ⟨j,hj,rfl⟩:=List.mem_map.1 hx
   simp only;omega
 ·exact okI_stores (fun x hx=>by simp only [List.mem_singleton] at hx;subst hx;exact ⟨by simp only;omega,hd⟩) i hi
theorem clrI_ok {l n g:Nat} (hl:l+32≤n) (hn:n≤4096) (hg:g<65536):∀i∈clrI l g,okI i:=by
 have hs6:=sealN_lt (hdX (-1) (-1) g) (hdX_lt (by omega) (by omega) (by omega) (by omega) hg)
 exact okI_stores (fun x hx=>by simp only [List.mem_singleton] at hx;subst hx;exact ⟨by simp only;omega,hs6⟩)
def ClRes (D:DS) (l0 n:Nat) (f:Nat→Int×Int×Bool) (c t:Int) (D2:DS) (f2:Nat→Int×Int×Bool) (r e:Int):Prop:=
 (∃k,k<n∧(f k).1<0∧(∀j,j<k→¬(f j).1<0)∧D2=D.run 0 (planI (l0+32*k) c t (gX (wd D (l0+32*k) 0)))∧((D2.err 0≠0∧f2=f∧r=0∧e=D2.err 0)∨(D2.err 0=0∧f2=upF f k (c,t,(f k).2.2)∧r=((l0+32*k:Nat):Int)∧e=0)))∨
 ((∀j,j<n→¬(f j).1<0)∧∃k g D1,k<n∧emG D l0 f k=some g∧(∀j,j<k→emG D l0 f j=none)∧D1=D.run 0 (clrI (l0+32*k) g)∧((D1.err 0≠0∧D2=D1∧f2=f∧r=0∧e=D1.err 0)∨(D1.err 0=0∧D2=D1.run 0 (planI (l0+32*k) c t g)∧((D2.err 0≠0∧f2=upF f k (-1,-1,(f k).2.2)∧r=0∧e=D2.err 0)∨(D2.err 0=0∧f2=upF f k (c,t,(f k).2.2)∧r=((l0+32*k:Nat):Int)∧e=0)))))∨
 ((∀j,j<n→¬(f j).1<0)∧(∀j,j<n→emG D l0 f j=none)∧D2=D∧f2=f∧r=0∧e=4)
section
variable {w0 w w' w'':World} {Y Y' Y'':Lay} {D D' D1 D2:DS} {S b o cp l0 n k g:Nat} {f f' f1:Nat→Int×Int×Bool} {c t:Int}
theorem cm_k1 (h:ArS w0 w Y D S b o cp l0 n f) (hk:k<n) (c0:0≤c) (c5:c<5) (t0:0≤t) (t8:t<8) (g0:g≠0) (g6:g<65536) (hx:D.exe<2000000000) {N:Nat} {cc oo:Int} (hN:Cells w N 67 3 (fun i=> [Value.int .i64 cc,.int .i64 oo,.int .u16 (g:Int)].getD i undef)) (hD2:D2=D.run 0 (planI (l0+32*k) c t g)) (K:K1)
  (he:D2.err 0≠0→∀w' Y',AStp w Y b w' Y'→ArS w0 w' Y' D2 S b o cp l0 n f→K (.tuple #[.int .i64 0,.int .i64 (D2.err 0)]) w')
  (hok:D2.err 0=0→∀w' Y',AStp w Y b w' Y'→ArS w0 w' Y' D2 S b o cp l0 n (upF f k (c,t,(f k).2.2))→K (.tuple #[.int .i64 ((l0+32*k:Nat):Int),.int .i64 0]) w'):
  f22_k1 K (stV S) (.int .i64 t) (.int .i64 c) (.pointer (some ⟨b,o+k*4,none⟩)) (.int .i64 0) (.pointer (some ⟨N,0,none⟩)) w:=by
 have hnn:=h.L.gd.n
 have hlt:=h.lt
 have hok3:=planI_ok (l:=l0+32*k) (n:=D.n) (by omega) hnn c0 c5 t0 t8 g6
 have hpl:=plan_len (l0+32*k) c0 c5 t g
 have gd2:Good D2:=by rw [hD2];exact Good.run 0 (by omega) _ _ h.L.gd hok3
 have n2:D2.n=D.n:=by rw [hD2];exact run_n 0 _ D
 have s0:=h.c0
 have ob37:=h.p hk;have q0:=ob37.1;have q1:=ob37.2.1;have q2:=ob37.2.2.1;have q3:=ob37.2.2.2
 have d2:w.cell? ⟨N,2,none⟩=some (.int .u16 (g:Int)):=hN.cell (i:=2) (by omega)
 have hrun:∀(v:Value) (w1:World) (K:K1),Ext w w1→SlO w1 176 3 v (planI (l0+32*k) c t g).length (inL (planI (l0+32*k) c t g))→NewV w.heap.size v→(∀w' Y',Stp w Y w' Y' D2→K (.int .i64 (D2.err 0)) w')→callS prog 62 #[v,.iface 25 (.pointer (some ⟨Y.tb 0,0,none⟩))] w1 K:=fun v w1 K e1 hs nv hK=>by
  subst hD2
  exact k_Run (h.L.dv.ext e1) h.L.gd 0 (by omega) _ v hs (fun x hx hf=>by have:=nv x hx;have:=h.L.dv.lt hf;omega) hok3 (by omega) K (fun w' Y' st=>hK w' Y' (Stp.pre e1 (fun x hx=>h.L.dv.lt hx) st))
 have hst:∀w' Y',Stp w Y w' Y' D2→ArS w0 w' Y' D2 S b o cp l0 n f:=fun w' Y' st=>h.step st gd2 n2
 generalize D2.err 0=e at*
 rw [f22_k1_eq]
 unfold f22_k1_t
 (repeat' (first|(with_reducible first|refine brS_mk (fun _=> ?_) (fun _=> ?_)|refine And.intro ?_ ?_)|(simp (disch:=first|omega|simp only [RO]|(simp only [RZ]<;>omega)|fail) only [↓RBp,↓RA,↓reduceIte,Nat.reduceAdd,Nat.reduceMul,Nat.reduceEqDiff,RB,RX,RA2,q0,d2])))
 refine k_Plan ((h.gl.ext h.L.ex).ext (by repeat (first|(with_reducible first|refine eB ?_ _|assumption|exact eR _|refine eA ?_ _|refine eD ?_|refine eT ?_ (by assumption))|exact eR _))) (l0+32*k) c t g (by omega) c0 c5 t0 t8 g0 g6 _ (fun v w1 hs e1 nv=> ?_)
 have e01:Ext w w1:=Ext.trans (by repeat (first|(with_reducible first|refine eB ?_ _|assumption|exact eR _|refine eA ?_ _|refine eD ?_|refine eT ?_ (by assumption))|exact eR _)) e1
 have s0:=(h.ext e01).c0
 (repeat' (first|(with_reducible first|refine brS_mk (fun _=> ?_) (fun _=> ?_)|refine And.intro ?_ ?_)|(simp (disch:=first|omega|simp only [RO]|(simp only [RZ]<;>omega)|fail) only [↓RBp,↓RA,↓reduceIte,Nat.reduceAdd,Nat.reduceMul,Nat.reduceEqDiff,RB,RX,RA2,s0])))
 refine hrun v _ _ e01 hs (fun x hx=>by have:=nv x hx;simpa only [RZ] using this) (fun w2 Y2 st=> ?_)
 have h2:=hst w2 Y2 st
 have a2:=AStp.of_stp b st
 by_cases e0:e=0
 ·subst e0
  have ob38:=h2.p hk;have q0:=ob38.1;have q1:=ob38.2.1;have q2:=ob38.2.2.1;have q3:=ob38.2.2.2
  have fz:=h2.fz
  have h3:=h2.wr1 hk c
  have fz3:=h3.fz
  have ob39:=h3.p hk;have r0:=ob39.1;have r1:=ob39.2.1;have r2:=ob39.2.2.1;have r3:=ob39.2.2.2
  have h4:=h2.wr12 hk c t
  have ob40:=h4.p hk;have u0:=ob40.1;have u1:=ob40.2.1;have u2:=ob40.2.2.1;have u3:=ob40.2.2.2
  simp (disch:=first|omega|simp only [RO]|(simp only [RZ]<;>omega)|fail) only [↓RBp,↓RA,↓reduceIte,Nat.reduceAdd,Nat.reduceMul,Nat.reduceEqDiff,RB,RX,RA2,fz,q1,q2,fz3,r2,u0]
  exact hok rfl _ Y2 (a2.wr12 _ _ _ _) h4
 ·simp (disch:=first|omega|simp only [RO]|(simp only [RZ]<;>omega)|fail) only [↓RBp,↓RA,↓reduceIte,Nat.reduceAdd,Nat.reduceMul,Nat.reduceEqDiff,RB,RX,RA2,e0]
  exact he e0 _ Y2 a2 h2
theorem k_ClaimBad (h:ArS w0 w Y D S b o cp l0 n f) (hb:¬(0≤t∧t<8∧0≤c∧c<5)) (K:K1) (hK:∀w',Ext w w'→K (.tuple #[.int .i64 0,.int .i64 1]) w'):
  callS prog 22 #[stV S,.int .i64 t,.int .i64 c] w K:=by
 have hG:Glob w:=h.gl.ext h.L.ex
 have hp:=c_PerChunk c w
 refine f22_call _ _ _ _ _ ?_
 unfold f22_t
 by_cases h0:t<0
 ·simp (disch:=first|omega|simp only [RO]|(simp only [RZ]<;>omega)|fail) only [↓RBp,↓RA,↓reduceIte,Nat.reduceAdd,Nat.reduceMul,Nat.reduceEqDiff,RB,RX,RA2,h0]
  exact hK _ (by repeat (first|(with_reducible first|refine eB ?_ _|assumption|exact eR _|refine eA ?_ _|refine eD ?_|refine eT ?_ (by assumption))|exact eR _))
 ·by_cases h8:8≤t
  ·simp (disch:=first|omega|simp only [RO]|(simp only [RZ]<;>omega)|fail) only [↓RBp,↓RA,↓reduceIte,Nat.reduceAdd,Nat.reduceMul,Nat.reduceEqDiff,RB,RX,RA2,h0,h8]
   exact hK _ (by repeat (first|(with_reducible first|refine eB ?_ _|assumption|exact eR _|refine eA ?_ _|refine eD ?_|refine eT ?_ (by assumption))|exact eR _))
  ·have hz:perS c=0:=by
    have hw:wordsS c=0:=by unfold wordsS;rw [if_neg (by omega)]
    unfold perS;rw [if_pos hw]
   rw [hz] at hp
   simp (disch:=first|omega|simp only [RO]|(simp only [RZ]<;>omega)|fail) only [↓RBp,↓RA,↓reduceIte,Nat.reduceAdd,Nat.reduceMul,Nat.reduceEqDiff,RB,RX,RA2,h0,h8,hp,hG]
   exact hK _ (by repeat (first|(with_reducible first|refine eB ?_ _|assumption|exact eR _|refine eA ?_ _|refine eD ?_|refine eT ?_ (by assumption))|exact eR _))
theorem k_Claim (h:ArS w0 w Y D S b o cp l0 n f) (ag:AgF D l0 n f) (ho:D.off=false) (he:D.err 0=0) (hx:D.exe<1000000000) (t0:0≤t) (t8:t<8) (c0:0≤c) (c5:c<5) (K:K1)
  (hK:∀D2 f2 r e,ClRes D l0 n f c t D2 f2 r e→∀w' Y',AStp w Y b w' Y'→ArS w0 w' Y' D2 S b o cp l0 n f2→K (.tuple #[.int .i64 r,.int .i64 e]) w'):
  callS prog 22 #[stV S,.int .i64 t,.int .i64 c] w K:=by
 have hG:Glob w:=h.gl.ext h.L.ex
 have hnn:=h.L.gd.n
 have hlt:=h.lt
 have hp:=c_PerChunk c w
 have hpp:=perS_in c0 c5
 have s0:=h.c0
 have her:=h.er
 rw [he] at her
 have hz:¬perS c=0:=by omega
 have agk:=ag
 generalize perS c=pc at*
 refine f22_call _ _ _ _ _ ?_
 unfold f22_t
 simp (disch:=first|omega|simp only [RO]|(simp only [RZ]<;>omega)|(with_reducible (repeat (first|assumption|exact Ext.refl _|refine Ext.alloc ?_ _|refine Ext.drew ?_|refine Ext.trans ?_ (by assumption))))|fail) only [↓RBp,↓RA,↓reduceIte,Nat.reduceAdd,Nat.reduceMul,Nat.reduceEqDiff,RB,RX,RA2,hp,hG,hz,s0,her,he]
 refine k_pick h ag ho he hx _ (fun k hk hf hall w1 e1=> ?_) (fun hall k g D1 hk hem hnone hD1 w1 Y1 a1 hbad hgood=> ?_) (fun hall hnone w1 e1=> ?_)
 ·have hd:=hd_cls (ag k hk).1
  have hok:=(ag k hk).1
  have g6:gX (wd D (l0+32*k) 0)<65536:=by unfold gX;omega
  have hK:=fun D2 f2 r e hr=>hK D2 f2 r e (.inl ⟨k,hk,hf,hall,hr⟩)
  have h1:=h.ext e1
  have s0:=h1.c0
  have ob41:=h1.p hk;have q0:=ob41.1;have q1:=ob41.2.1;have q2:=ob41.2.2.1;have q3:=ob41.2.2.2
  have lt1:=h1.ltb
  have lt2:=h1.ltS
  have fin:∀(w2:World) (N:Nat),Ext w w2→Cells w2 N 67 3 (fun i=> [Value.int .i64 (hC (wd D (l0+32*k) 0)),.int .i64 (hO (wd D (l0+32*k) 0)),.int .u16 (gX (wd D (l0+32*k) 0):Int)].getD i undef)→f22_k1 K (stV S) (.int .i64 t) (.int .i64 c) (.pointer (some ⟨b,o+k*4,none⟩)) (.int .i64 0) (.pointer (some ⟨N,0,none⟩)) w2:=fun w2 N e2 hN=>by
   refine cm_k1 (h.ext e2) hk c0 c5 t0 t8 hd.2.2.1 g6 (by omega) hN rfl K (fun hne w3 Y3 a3 h3=> ?_) (fun h0 w3 Y3 a3 h3=> ?_)
   ·exact hK _ _ _ _ ⟨rfl,.inl ⟨hne,rfl,rfl,rfl⟩⟩ w3 Y3 ((AStp.of_ext Y b e2).trans a3) h3
   ·exact hK _ _ _ _ ⟨rfl,.inr ⟨h0,rfl,rfl,rfl⟩⟩ w3 Y3 ((AStp.of_ext Y b e2).trans a3) h3
  have hlk:=fun (w2:World) (e2:Ext w w2) (K1:K1) hk2=>k_Look (h.L.dv.ext e2) h.L.gd (hG.ext e2) ho he (l0+32*k) (by omega) hok K1 hk2
  unfold thV at hlk
  generalize hC (wd D (l0+32*k) 0)=cc at*
  generalize hO (wd D (l0+32*k) 0)=oo at*
  generalize gX (wd D (l0+32*k) 0)=gg at*
  (repeat' (first|(with_reducible first|refine brS_mk (fun _=> ?_) (fun _=> ?_)|refine And.intro ?_ ?_)|(simp (disch:=first|omega|simp only [RO]|(simp only [RZ]<;>omega)|fail) only [↓RBp,↓RA,↓reduceIte,Nat.reduceAdd,Nat.reduceMul,Nat.reduceEqDiff,RB,RX,RA2,s0,q0])))
  ·refine hlk _ (by repeat (first|(with_reducible first|refine eB ?_ _|assumption|exact eR _|refine eA ?_ _|refine eD ?_|refine eT ?_ (by assumption))|exact eR _)) _ (fun w2 e2=> ?_)
   have e02:Ext w1 w2:=Ext.trans (by repeat (first|(with_reducible first|refine eB ?_ _|assumption|exact eR _|refine eA ?_ _|refine eD ?_|refine eT ?_ (by assumption))|exact eR _)) e2
   have s0:=(h1.ext e02).c0
   have ob42:=(h1.ext e02).p hk;have q0:=ob42.1;have q1:=ob42.2.1;have q2:=ob42.2.2.1;have q3:=ob42.2.2.2
   have lt1:=(h1.ext e02).ltb
   have lt2:=(h1.ext e02).ltS
   (repeat' (first|(with_reducible first|refine brS_mk (fun _=> ?_) (fun _=> ?_)|refine And.intro ?_ ?_)|(simp (disch:=first|omega|simp only [RO]|(simp only [RZ]<;>omega)|fail) only [↓RBp,↓RA,↓reduceIte,Nat.reduceAdd,Nat.reduceMul,Nat.reduceEqDiff,RB,RX,RA2,s0,q0])))
   exact fin _ _ (by repeat (first|(with_reducible first|refine eB ?_ _|assumption|exact eR _|refine eA ?_ _|refine eD ?_|refine eT ?_ (by assumption))|exact eR _)) (Cells.new w2 [Value.int .i64 cc,.int .i64 oo,.int .u16 (gg:Int)] 67)
  ·refine hlk _ (by repeat (first|(with_reducible first|refine eB ?_ _|assumption|exact eR _|refine eA ?_ _|refine eD ?_|refine eT ?_ (by assumption))|exact eR _)) _ (fun w2 e2=> ?_)
   have hC0:=(Cells.new w1 [Value.int .i64 0,.int .i64 0,.int .u16 ((0:Nat):Int)] 67).ext (Ext.trans (Ext.drew (Ext.refl _)) e2)
   have lt1:=hC0.lt
   have hD:=cells3C hC0 (Value.int .i64 cc) (.int .i64 oo) (.int .u16 (gg:Int))
   have z0:=hC0.cell (i:=0) (by simp)
   have z1:=hC0.cell (i:=1) (by simp)
   have z2:=hC0.cell (i:=2) (by simp)
   have hfz:=hC0.frz
   have hs1:=e1.size
   (repeat' (first|(with_reducible first|refine brS_mk (fun _=> ?_) (fun _=> ?_)|refine And.intro ?_ ?_)|(simp (disch:=first|omega|simp only [RO]|(simp only [RZ]<;>omega)|fail) only [↓RBp,↓RA,↓reduceIte,Nat.reduceAdd,Nat.reduceMul,Nat.reduceEqDiff,RB,RX,RA2,z0,z1,z2,hfz])))
   exact fin _ _ (by repeat (first|(with_reducible first|refine eB ?_ _|assumption|exact eR _|refine eA ?_ _|refine eD ?_|refine eT ?_ (by assumption))|exact eR _)) hD
 ·have hgk:=h.emG_ok ag hk hem
  have hK:=fun D2 f2 r e hr=>hK D2 f2 r e (.inr (.inl ⟨hall,k,g,D1,hk,hem,hnone,hD1,hr⟩))
  by_cases h0:D1.err 0=0
  ·have h1:=hgood h0
   have hcc:=clr_cur (l:=l0+32*k) (g:=g) ho he (by omega) (by rw [←hD1];exact h0)
   rw [←hD1] at hcc
   have hw0:wd D1 (l0+32*k) 0=sealN (hdX (-1) (-1) g):=by unfold wd;rw [hcc.1];simp
   have hfr:=hd_free hgk.2.2.2.1 hgk.2.2.2.2
   rw [←hw0] at hfr
   have hxx:D1.exe<2000000000:=by rw [hD1];have:=run_exe 0 (clrI (l0+32*k) g) D;have:=clrI_len (l0+32*k) g;omega
   have n1:D1.n=D.n:=by rw [hD1];exact run_n 0 _ D
   have s0:=h1.c0
   have ob43:=h1.p hk;have q0:=ob43.1;have q1:=ob43.2.1;have q2:=ob43.2.2.1;have q3:=ob43.2.2.2
   have lt1:=h1.ltb
   have lt2:=h1.ltS
   have hG1:Glob w1:=h1.gl.ext h1.L.ex
   have hup:∀v,upF (upF f k (-1,-1,(f k).2.2)) k v=upF f k v:=fun v=>upF_upF f k _ v
   have fin:∀(w2:World) (N:Nat),Ext w1 w2→Cells w2 N 67 3 (fun i=> [Value.int .i64 (-1),.int .i64 (-1),.int .u16 (g:Int)].getD i undef)→f22_k1 K (stV S) (.int .i64 t) (.int .i64 c) (.pointer (some ⟨b,o+k*4,none⟩)) (.int .i64 0) (.pointer (some ⟨N,0,none⟩)) w2:=fun w2 N e2 hN=>by
    refine cm_k1 (h1.ext e2) hk c0 c5 t0 t8 hgk.2.2.2.1 hgk.2.2.2.2 (by omega) hN rfl K (fun hne w3 Y3 a3 h3=> ?_) (fun h02 w3 Y3 a3 h3=> ?_)
    ·exact hK _ _ _ _ (.inr ⟨h0,rfl,.inl ⟨hne,rfl,rfl,rfl⟩⟩) w3 Y3 (a1.trans ((AStp.of_ext Y1 b e2).trans a3)) h3
    ·rw [hup,upF_eq] at h3
     exact hK _ _ _ _ (.inr ⟨h0,rfl,.inr ⟨h02,rfl,rfl,rfl⟩⟩) w3 Y3 (a1.trans ((AStp.of_ext Y1 b e2).trans a3)) h3
   have hlk:=fun (w2:World) (e2:Ext w1 w2) (K1:K1) hk2=>k_Look (h1.L.dv.ext e2) h1.L.gd (hG1.ext e2) hcc.2 h0 (l0+32*k) (by omega) hfr.1 K1 hk2
   rw [hfr.2.1,hfr.2.2.1,hfr.2.2.2] at hlk
   unfold thV at hlk
   rw [h0]
   (repeat' (first|(with_reducible first|refine brS_mk (fun _=> ?_) (fun _=> ?_)|refine And.intro ?_ ?_)|(simp (disch:=first|omega|simp only [RO]|(simp only [RZ]<;>omega)|fail) only [↓RBp,↓RA,↓reduceIte,Nat.reduceAdd,Nat.reduceMul,Nat.reduceEqDiff,RB,RX,RA2,s0,q0])))
   ·refine hlk _ (by repeat (first|(with_reducible first|refine eB ?_ _|assumption|exact eR _|refine eA ?_ _|refine eD ?_|refine eT ?_ (by assumption))|exact eR _)) _ (fun w2 e2=> ?_)
    have e02:Ext w1 w2:=Ext.trans (by repeat (first|(with_reducible first|refine eB ?_ _|assumption|exact eR _|refine eA ?_ _|refine eD ?_|refine eT ?_ (by assumption))|exact eR _)) e2
    have s0:=(h1.ext e02).c0
    have ob44:=(h1.ext e02).p hk;have q0:=ob44.1;have q1:=ob44.2.1;have q2:=ob44.2.2.1;have q3:=ob44.2.2.2
    have lt1:=(h1.ext e02).ltb
    have lt2:=(h1.ext e02).ltS
    (repeat' (first|(with_reducible first|refine brS_mk (fun _=> ?_) (fun _=> ?_)|refine And.intro ?_ ?_)|(simp (disch:=first|omega|simp only [RO]|(simp only [RZ]<;>omega)|fail) only [↓RBp,↓RA,↓reduceIte,Nat.reduceAdd,Nat.reduceMul,Nat.reduceEqDiff,RB,RX,RA2,s0,q0])))
    exact fin _ _ (by repeat (first|(with_reducible first|refine eB ?_ _|assumption|exact eR _|refine eA ?_ _|refine eD ?_|refine eT ?_ (by assumption))|exact eR _)) (Cells.new w2 [Value.int .i64 (-1),.int .i64 (-1),.int .u16 (g:Int)] 67)
   ·refine hlk _ (by repeat (first|(with_reducible first|refine eB ?_ _|assumption|exact eR _|refine eA ?_ _|refine eD ?_|refine eT ?_ (by assumption))|exact eR _)) _ (fun w2 e2=> ?_)
    have hC0:=(Cells.new w1 [Value.int .i64 0,.int .i64 0,.int .u16 ((0:Nat):Int)] 67).ext (Ext.trans (Ext.drew (Ext.refl _)) e2)
    have lt1:=hC0.lt
    have hD:=cells3C hC0 (Value.int .i64 (-1)) (.int .i64 (-1)) (.int .u16 (g:Int))
    have z0:=hC0.cell (i:=0) (by simp)
    have z1:=hC0.cell (i:=1) (by simp)
    have z2:=hC0.cell (i:=2) (by simp)
    have hfz:=hC0.frz
    (repeat' (first|(with_reducible first|refine brS_mk (fun _=> ?_) (fun _=> ?_)|refine And.intro ?_ ?_)|(simp (disch:=first|omega|simp only [RO]|(simp only [RZ]<;>omega)|fail) only [↓RBp,↓RA,↓reduceIte,Nat.reduceAdd,Nat.reduceMul,Nat.reduceEqDiff,RB,RX,RA2,z0,z1,z2,hfz])))
    exact fin _ _ (by repeat (first|(with_reducible first|refine eB ?_ _|assumption|exact eR _|refine eA ?_ _|refine eD ?_|refine eT ?_ (by assumption))|exact eR _)) hD
  ·have h1:=hbad h0
   have hK:=hK D1 f 0 (D1.err 0) (.inl ⟨h0,rfl,rfl,rfl,rfl⟩) w1 Y1 a1 h1
   generalize D1.err 0=e at*
   simp (disch:=first|omega|simp only [RO]|(simp only [RZ]<;>omega)|fail) only [↓RBp,↓RA,↓reduceIte,Nat.reduceAdd,Nat.reduceMul,Nat.reduceEqDiff,RB,RX,RA2,h0]
   exact hK
 ·simp (disch:=first|omega|simp only [RO]|(simp only [RZ]<;>omega)|fail) only [↓RBp,↓RA,↓reduceIte,Nat.reduceAdd,Nat.reduceMul,Nat.reduceEqDiff,RB,RX,RA2]
  exact hK _ _ _ _ (.inr (.inr ⟨hall,hnone,rfl,rfl,rfl,rfl⟩)) w1 Y (AStp.of_ext Y b e1) (h.ext e1)
end
structure RgS (D:DS) (l0 n:Nat) (f:Nat→Int×Int×Bool):Prop where
 on:On D
 gd:Good D
 lt:l0+32*n≤D.n
 ag:AgF D l0 n f
 sn:∀k,k<n→0≤(f k).1→Snd D (l0+32*k) (f k).1 (f k).2.1
structure ClOk (D:DS) (l0 n:Nat) (f:Nat→Int×Int×Bool) (c t:Int) (D2:DS) (f2:Nat→Int×Int×Bool) (k g:Nat):Prop where
 kn:k<n
 fe:f2=upF f k (c,t,(f k).2.2)
 g0:g≠0
 g6:g<65536
 oth:∀j,j<n→j≠k→∀i,i<256→wd D2 (l0+32*j) i=wd D (l0+32*j) i
 own:∀i,i<256→wd D2 (l0+32*k) i=planF c t g (wd D (l0+32*k)) i
 how:((f k).1<0∧(∀j,j<k→¬(f j).1<0)∧g=gX (wd D (l0+32*k) 0))∨((∀j,j<n→¬(f j).1<0)∧emG D l0 f k=some g∧∀j,j<k→emG D l0 f j=none)
def RlRes (D:DS) (l0:Nat) (f:Nat→Int×Int×Bool) (k:Nat) (D2:DS) (f2:Nat→Int×Int×Bool) (e:Int):Prop:=
 (emG D l0 f k=none∧D2=D∧f2=f∧e=8)∨∃g,emG D l0 f k=some g∧D2=D.run 0 (clrI (l0+32*k) g)∧((D2.err 0≠0∧f2=f∧e=D2.err 0)∨(D2.err 0=0∧f2=upF f k (-1,-1,(f k).2.2)∧e=0))
structure RlOk (D:DS) (l0 n:Nat) (f:Nat→Int×Int×Bool) (D2:DS) (f2:Nat→Int×Int×Bool) (k g:Nat):Prop where
 kn:k<n
 fe:f2=upF f k (-1,-1,(f k).2.2)
 em:emG D l0 f k=some g
 g0:g≠0
 g6:g<65536
 oth:∀j,j<n→j≠k→∀i,i<256→wd D2 (l0+32*j) i=wd D (l0+32*j) i
 own:∀i,i<256→wd D2 (l0+32*k) i=if i=0 then sealN (hdX (-1) (-1) g) else wd D (l0+32*k) i
section
variable {D D2:DS} {l0 n k g:Nat} {f f2:Nat→Int×Int×Bool} {c t r e:Int}
theorem Snd.congr {l:Nat} {o:Int} (h:Snd D l c o) (c0:0≤c) (c5:c<5) (e:∀j,j<256→wd D2 l j=wd D l j):Snd D2 l c o:=by
 have b:=fun (i:Nat) (hi:(i:Int)<perS c)=>e _ (offN_bd c0 c5 hi).2.2
 refine ⟨by rw [e 0 (by omega)];exact h.hd,by rw [e 0 (by omega)];exact h.hc,by rw [e 0 (by omega)];exact h.ho,fun j h2 h8=>by rw [e j (by omega)];exact h.zer j h2 h8,fun i hi=>by rw [b i hi];exact h.sl i hi,fun i hi=>by rw [b i hi];exact h.gd i hi,fun i hi=> ?_⟩
 rw [e 1 (by omega),h.bit i hi]
 by_cases hp:(i:Int)<perS c
 ·rw [b i hp]
 ·rw [decide_eq_false hp,Bool.false_and,Bool.false_and]
theorem RgS.cls (h:RgS D l0 n f) (hk:k<n):(f k).1<5∧-1≤(f k).1:=by
 have ha:=h.ag k hk
 have:=hd_cls ha.1
 rw [ha.2.1];exact ⟨this.1,this.2.2.2⟩
theorem RgS.upd (h:RgS D l0 n f) (on:On D2) (gd:Good D2) (hn:D2.n=D.n) (hk:k<n) (oth:∀j,j<n→j≠k→∀i,i<256→wd D2 (l0+32*j) i=wd D (l0+32*j) i) (hd:hdOk (wd D2 (l0+32*k) 0)=true∧hC (wd D2 (l0+32*k) 0)=c∧hO (wd D2 (l0+32*k) 0)=t) (sn:0≤c→Snd D2 (l0+32*k) c t) (b:Bool):RgS D2 l0 n (upF f k (c,t,b)):=by
 refine ⟨on,gd,by rw [hn];exact h.lt,fun j hj=> ?_,fun j hj h0=> ?_⟩
 ·by_cases ej:j=k
  ·subst ej;rw [upF_eq];exact ⟨hd.1,hd.2.1.symm,hd.2.2.symm⟩
  ·rw [upF_ne _ _ ej,oth j hj ej 0 (by omega)];exact h.ag j hj
 ·by_cases ej:j=k
  ·subst ej;rw [upF_eq] at h0 ⊢;exact sn h0
  ·rw [upF_ne _ _ ej] at h0 ⊢
   exact (h.sn j hj h0).congr h0 (h.cls hj).1 (oth j hj ej)
theorem wd_far {l l':Nat} {W:Nat→Nat} (h:D2.cur=fun j=>if l*8≤j∧j<l*8+256 then W (j-l*8) else D.cur j):(∀i,i<256→wd D2 l i=W i)∧((l'+32≤l∨l+32≤l')→∀i,i<256→wd D2 l' i=wd D l' i):=by
 refine ⟨fun i hi=> ?_,fun hl i hi=> ?_⟩
 ·unfold wd;rw [h];simp only
  rw [if_pos (by omega),show l*8+i-l*8=i by omega]
 ·unfold wd;rw [h];simp only
  rw [if_neg (by omega)]
theorem wd_one {l l' x:Nat} (h:D2.cur=fun j=>if j=l*8 then x else D.cur j):(∀i,i<256→wd D2 l i=if i=0 then x else wd D l i)∧((l'+32≤l∨l+32≤l')→∀i,i<256→wd D2 l' i=wd D l' i):=by
 refine ⟨fun i hi=> ?_,fun hl i hi=> ?_⟩
 ·unfold wd;rw [h];simp only
  by_cases h0:i=0
  ·rw [if_pos (by omega),if_pos h0]
  ·rw [if_neg (by omega),if_neg h0]
 ·unfold wd;rw [h];simp only
  rw [if_neg (by omega)]
theorem emG_ok' (h:RgS D l0 n f) (hk:k<n) {g:Nat} (he:emG D l0 f k=some g):0≤(f k).1∧(f k).1<5∧(f k).2.2=false∧g≠0∧g<65536:=by
 have hc:=h.cls hk
 unfold emG at he
 by_cases h1:(f k).1<0
 ·rw [if_pos h1] at he;cases he
 ·rw [if_neg h1] at he
  by_cases h2:(f k).2.2=true
  ·rw [if_pos h2] at he;cases he
  ·rw [if_neg h2] at he
   have hp:=perS_in (show 0≤(f k).1 by omega) hc.1
   split at he
   ·rename_i h3
    injection he with he
    subst he
    exact ⟨by omega,hc.1,by simpa using h2,mxG_ne h3 (by omega),mxG_lt _⟩
   ·cases he
theorem cl_ok (h:RgS D l0 n f) (c0:0≤c) (c5:c<5) (t0:0≤t) (t8:t<8) (hr:ClRes D l0 n f c t D2 f2 r e):
  (e=4∧r=0∧D2=D∧f2=f∧(∀j,j<n→¬(f j).1<0)∧(∀j,j<n→emG D l0 f j=none))∨
  (e=0∧∃k g,r=((l0+32*k:Nat):Int)∧ClOk D l0 n f c t D2 f2 k g∧RgS D2 l0 n f2∧D2.n=D.n∧D2.exe≤D.exe+210):=by
 have hlt:=h.lt
 rcases hr with ⟨k,hk,hf,hall,hD2,hr⟩|⟨hall,k,g,D1,hk,hem,hnone,hD1,hr⟩|⟨h1,h2,h3,h4,h5,h6⟩
 ·right
  have ha:=h.ag k hk
  have hd:=hd_cls ha.1
  have g6:gX (wd D (l0+32*k) 0)<65536:=by unfold gX;omega
  obtain ⟨g,hg⟩:∃g,g=gX (wd D (l0+32*k) 0):=⟨_,rfl⟩
  rw [←hg] at hD2 hd g6
  have pg:=plan_gen h.on h.gd (l:=l0+32*k) (c:=c) (o:=t) (g:=g) (by omega) c0 c5 t0 t8 hd.2.2.1 g6
  rw [←hD2] at pg
  have pc:=plan_cur (l:=l0+32*k) (c:=c) (o:=t) (g:=g) h.on.off h.on.err (by omega) c0 c5 (by rw [←hD2];exact pg.1.err)
  rw [←hD2] at pc
  have hx:=run_exe 0 (planI (l0+32*k) c t g) D
  rw [←hD2] at hx
  have hl:=plan_len (l0+32*k) c0 c5 t g
  rcases hr with ⟨he,_⟩|⟨_,hf2,hrr,hee⟩
  ·exact absurd pg.1.err he
  ·have w1:=fun l'=>wd_far (l':=l') pc.1
   have ok:ClOk D l0 n f c t D2 f2 k g:=⟨hk,hf2,hd.2.2.1,g6,fun j hj hjk=>(w1 (l0+32*j)).2 (by omega),(w1 0).1,.inl ⟨hf,hall,hg⟩⟩
   refine ⟨hee,k,g,hrr,ok,?_,pg.2.2.1,by omega⟩
   rw [hf2]
   have hs:=pg.2.2.2.2.1
   exact h.upd pg.1 pg.2.1 pg.2.2.1 hk ok.oth ⟨hs.hd,hs.hc,hs.ho⟩ (fun _=>hs) _
 ·right
  have hgk:=emG_ok' h hk hem
  have cg:=clr_gen h.on h.gd (l:=l0+32*k) (g:=g) (by omega) hgk.2.2.2.2
  rw [←hD1] at cg
  have cc:=clr_cur (l:=l0+32*k) (g:=g) h.on.off h.on.err (by omega) (by rw [←hD1];exact cg.1.err)
  rw [←hD1] at cc
  have hx1:=run_exe 0 (clrI (l0+32*k) g) D
  rw [←hD1] at hx1
  have hl1:=clrI_len (l0+32*k) g
  rcases hr with ⟨he,_⟩|⟨_,hD2,hr⟩
  ·exact absurd cg.1.err he
  ·have pg:=plan_gen cg.1 cg.2.1 (l:=l0+32*k) (c:=c) (o:=t) (g:=g) (by rw [cg.2.2.1];omega) c0 c5 t0 t8 hgk.2.2.2.1 hgk.2.2.2.2
   rw [←hD2] at pg
   have pc:=plan_cur (l:=l0+32*k) (c:=c) (o:=t) (g:=g) cg.1.off cg.1.err (by rw [cg.2.2.1];omega) c0 c5 (by rw [←hD2];exact pg.1.err)
   rw [←hD2] at pc
   have hx:=run_exe 0 (planI (l0+32*k) c t g) D1
   rw [←hD2] at hx
   have hl:=plan_len (l0+32*k) c0 c5 t g
   rcases hr with ⟨he,_⟩|⟨_,hf2,hrr,hee⟩
   ·exact absurd pg.1.err he
   ·have w0:=fun l'=>wd_one (l':=l') cc.1
    have w1:=fun l'=>wd_far (l':=l') pc.1
    have ok:ClOk D l0 n f c t D2 f2 k g:=⟨hk,hf2,hgk.2.2.2.1,hgk.2.2.2.2,fun j hj hjk i hi=>by rw [(w1 (l0+32*j)).2 (by omega) i hi,(w0 (l0+32*j)).2 (by omega) i hi],fun i hi=>by
     rw [(w1 0).1 i hi]
     unfold planF
     by_cases h0:i=0
     ·rw [if_pos h0,if_pos h0]
     ·rw [if_neg h0,if_neg h0,(w0 0).1 i hi,if_neg h0],.inr ⟨hall,hem,hnone⟩⟩
    refine ⟨hee,k,g,hrr,ok,?_,pg.2.2.1.trans cg.2.2.1,by omega⟩
    rw [hf2]
    have hs:=pg.2.2.2.2.1
    exact h.upd pg.1 pg.2.1 (pg.2.2.1.trans cg.2.2.1) hk ok.oth ⟨hs.hd,hs.hc,hs.ho⟩ (fun _=>hs) _
 ·exact .inl ⟨h6,h5,h3,h4,h1,h2⟩
theorem rl_ok (h:RgS D l0 n f) (hk:k<n) (hr:RlRes D l0 f k D2 f2 e):
  (e=8∧D2=D∧f2=f∧emG D l0 f k=none)∨(e=0∧∃g,RlOk D l0 n f D2 f2 k g∧RgS D2 l0 n f2∧D2.n=D.n∧D2.exe≤D.exe+3):=by
 have hlt:=h.lt
 rcases hr with ⟨h1,h2,h3,h4⟩|⟨g,hem,hD1,hr⟩
 ·exact .inl ⟨h4,h2,h3,h1⟩
 ·right
  have hgk:=emG_ok' h hk hem
  have cg:=clr_gen h.on h.gd (l:=l0+32*k) (g:=g) (by omega) hgk.2.2.2.2
  rw [←hD1] at cg
  have cc:=clr_cur (l:=l0+32*k) (g:=g) h.on.off h.on.err (by omega) (by rw [←hD1];exact cg.1.err)
  rw [←hD1] at cc
  have hx1:=run_exe 0 (clrI (l0+32*k) g) D
  rw [←hD1] at hx1
  have hl1:=clrI_len (l0+32*k) g
  rcases hr with ⟨he,_⟩|⟨_,hf2,hee⟩
  ·exact absurd cg.1.err he
  ·have w0:=fun l'=>wd_one (l':=l') cc.1
   have ok:RlOk D l0 n f D2 f2 k g:=⟨hk,hf2,hem,hgk.2.2.2.1,hgk.2.2.2.2,fun j hj hjk=>(w0 (l0+32*j)).2 (by omega),(w0 0).1⟩
   refine ⟨hee,g,ok,?_,cg.2.2.1,by omega⟩
   rw [hf2]
   have hfr:=hd_free hgk.2.2.2.1 hgk.2.2.2.2
   refine h.upd cg.1 cg.2.1 cg.2.2.1 hk ok.oth ?_ (fun hh=>by omega) _
   rw [cg.2.2.2.2]
   exact ⟨hfr.1,hfr.2.1,hfr.2.2.1⟩
end
def f8_t (K:K1) (w:World):Prop:=
 callS prog 9 (pA #[(.int .i64 2)]) w fun t13 w=>
 ev prog (Instr.extract t13 0) w fun t14 w=>
 ev prog (Instr.extract t13 1) w fun t15 w=>
 ev prog (Instr.extract t13 2) w fun t16 w=>
 ev prog (binM .eql 26 (.tmp 17) (.const (.pointer none)) t16 (.pointer none)) w fun t18 w=>
 cndS t18 (
 K (.bool false) w) (
 callS prog 22 (pA #[t16,(.int .i64 3),(.int .i64 0)]) w fun t21 w=>
 ev prog (Instr.extract t21 0) w fun t22 w=>
 ev prog (Instr.extract t21 1) w fun t23 w=>
 callS prog 22 (pA #[t16,(.int .i64 5),(.int .i64 0)]) w fun t26 w=>
 ev prog (Instr.extract t26 0) w fun t27 w=>
 ev prog (Instr.extract t26 1) w fun t28 w=>
 callS prog 37 (pA #[t16,(.int .i64 3)]) w fun t30 w=>
 callS prog 29 (pA #[t16]) w fun t32 w=>
 callS prog 22 (pA #[t16,(.int .i64 3),(.int .i64 1)]) w fun t35 w=>
 ev prog (Instr.extract t35 0) w fun t36 w=>
 ev prog (Instr.extract t35 1) w fun t37 w=>
 ev prog (binM .eql 43 (.tmp 38) (.const (.int .i64 0)) t23 (.int .i64 0)) w fun t39 w=>
 gd t39 true (fun k=>k t28 w) w fun t41 w=>
 gd t39 true (fun k=>ev prog (binM .eql 43 (.tmp 41) (.const (.int .i64 0)) t41 (.int .i64 0)) w k) w fun t42 w=>
 pickS t39 t42 (.bool false) w fun t43 w=>
 gd t43 true (fun k=>k t37 w) w fun t45 w=>
 gd t43 true (fun k=>ev prog (binM .eql 43 (.tmp 45) (.const (.int .i64 0)) t45 (.int .i64 0)) w k) w fun t46 w=>
 pickS t43 t46 (.bool false) w fun t47 w=>
 gd t47 true (fun k=>k t22 w) w fun t49 w=>
 gd t47 true (fun k=>ev prog (binM .eql 3 (.tmp 49) (.const (.int .i64 3)) t49 (.int .i64 3)) w k) w fun t50 w=>
 pickS t47 t50 (.bool false) w fun t51 w=>
 gd t51 true (fun k=>k t27 w) w fun t53 w=>
 gd t51 true (fun k=>ev prog (binM .eql 3 (.tmp 53) (.const (.int .i64 35)) t53 (.int .i64 35)) w k) w fun t54 w=>
 pickS t51 t54 (.bool false) w fun t55 w=>
 gd t55 true (fun k=>k t30 w) w fun t57 w=>
 gd t55 true (fun k=>ev prog (binM .eql 3 (.tmp 57) (.const (.int .i64 3)) t57 (.int .i64 3)) w k) w fun t58 w=>
 pickS t55 t58 (.bool false) w fun t59 w=>
 gd t59 true (fun k=>k t32 w) w fun t61 w=>
 gd t59 true (fun k=>ev prog (binM .eql 3 (.tmp 61) (.const (.int .i64 0)) t61 (.int .i64 0)) w k) w fun t62 w=>
 pickS t59 t62 (.bool false) w fun t63 w=>
 gd t63 true (fun k=>k t36 w) w fun t65 w=>
 gd t63 true (fun k=>ev prog (binM .eql 3 (.tmp 65) (.const (.int .i64 3)) t65 (.int .i64 3)) w k) w fun t66 w=>
 pickS t63 t66 (.bool false) w fun t67 w=>
 K t67 w)
theorem f8_call (K:K1) (w:World) (h:f8_t K w):callS prog 8 #[] w K:=
 call_of_txt (args:= []) mixed Tryz.func8 .o (by kernel_rfl) (cast (by kernel_rfl) h)
def f9_t (x0:Value) (K:K1) (w:World):Prop:=
 ev prog (binM .mul 3 (.const (.int .i64 32)) (.tmp 10) (.int .i64 32) x0) w fun t11 w=>
 ev prog (binM .add 3 (.tmp 11) (.const (.int .i64 5)) t11 (.int .i64 5)) w fun t12 w=>
 callS prog 38 (pA #[t12]) w fun t13 w=>
 ev prog (Instr.extract t13 0) w fun t14 w=>
 ev prog (Instr.extract t13 1) w fun t15 w=>
 ev prog (binM .neq 43 (.tmp 16) (.const (.int .i64 0)) t15 (.int .i64 0)) w fun t17 w=>
 gd t17 false (fun k=>k t14 w) w fun t19 w=>
 gd t17 false (fun k=>ev prog (binM .eql 24 (.tmp 19) (.const (.pointer none)) t19 (.pointer none)) w k) w fun t20 w=>
 pickS t17 (.bool true) t20 w fun t21 w=>
 gd t21 false (fun k=>k t14 w) w fun t23 w=>
 gd t21 false (fun k=>callS prog 21 (pA #[t23,(.int .i64 0)]) w k) w fun t24 w=>
 gd t21 false (fun k=>ev prog (binM .eql 25 (.tmp 24) (.const (.pointer none)) t24 (.pointer none)) w k) w fun t25 w=>
 pickS t21 (.bool true) t25 w fun t26 w=>
 cndS t26 (
 K (.tuple #[(.pointer none),(.pointer none),(.pointer none)]) w) (
 callS prog 21 (pA #[t14,(.int .i64 0)]) w fun t28 w=>
 ev prog (Instr.makeInterface 25 t28) w fun t30 w=>
 ev prog (binM .mul 3 (.const (.int .i64 32)) (.tmp 31) (.int .i64 32) x0) w fun t32 w=>
 ev prog (binM .add 3 (.tmp 32) (.const (.int .i64 1)) t32 (.int .i64 1)) w fun t33 w=>
 callS prog 39 (pA #[t30,(.int .i64 3),t33]) w fun t34 w=>
 ev prog (binM .neq 43 (.tmp 34) (.const (.int .i64 0)) t34 (.int .i64 0)) w fun t35 w=>
 cndS t35 (
 K (.tuple #[(.pointer none),(.pointer none),(.pointer none)]) w) (
 ev prog (Instr.makeInterface 25 t28) w fun t38 w=>
 ev prog (binM .mul 3 (.const (.int .i64 32)) (.tmp 39) (.int .i64 32) x0) w fun t40 w=>
 ev prog (binM .add 3 (.tmp 40) (.const (.int .i64 1)) t40 (.int .i64 1)) w fun t41 w=>
 callS prog 14 (pA #[t38,(.int .i64 3),t41]) w fun t42 w=>
 ev prog (Instr.extract t42 0) w fun t43 w=>
 ev prog (Instr.extract t42 1) w fun t44 w=>
 ev prog (binM .neq 43 (.tmp 45) (.const (.int .i64 0)) t44 (.int .i64 0)) w fun t46 w=>
 cndS t46 (
 K (.tuple #[(.pointer none),(.pointer none),(.pointer none)]) w) (
 K (.tuple #[t14,t28,t43]) w)))
theorem f9_call (x0:Value) (K:K1) (w:World) (h:f9_t x0 K w):callS prog 9 #[x0] w K:=
 call_of_txt (args:= [x0]) mixed Tryz.func9 .o (by kernel_rfl) (cast (by kernel_rfl) h)
noncomputable def f13_u:Code×Dec:=((Tryz.f13.body).getD .skip,(.s .o (.s .o (.x 32 (.s .o (.b (.l [5,7] 3 8388576 .o))) .o))))
abbrev f13_e (K:K1):KF:=endK prog Tryz.f13.results.toList K
def f13_k1_o (K:K1):KF:=fun fr w=>∀σ,cP (pr (pr (pr f13_u))) (f13_e K) (f13_e K) nX (mixF 32 σ 0 fr) w
def f13_k1 (K:K1) (x5:Value) (w:World):Prop:=f13_k1_o K (fz 24 0 [(5,x5)]) w
def f13_l1 (K:K1) (x0 x1 x5 x7:Value) (w:World):Prop:=loopT [5,7] 3 (fun E=>cP (pl (pl (pr (pl (pr (pr f13_u)))))) E (f13_e K) (exB 0 (f13_k1_o K) nX)) (fz 24 0 [(0,x0),(1,x1),(5,x5),(7,x7)]) w
def f13_k1_t (x5:Value) (K:K1) (w:World):Prop:=
 K x5 w
theorem f13_k1_eq (K:K1) (x5:Value) (w:World):f13_k1 K x5 w=f13_k1_t x5 K w:=cutE fun σ=>by kernel_rfl
def f13_l1_t (x0 x1 x5 x7:Value) (K:K1) (E1:VP2) (w:World):Prop:=
 ev prog (binM .lss 3 (.tmp 7) (.const (.int .i64 256)) x7 (.int .i64 256)) w fun t8 w=>
 cndS t8 (
 ev prog (convert 3 30 x1) w fun t13 w=>
 ev prog (binM .mul 30 (.const (.int .u64 ((64:Nat):Int))) (.tmp 13) (.int .u64 ((64:Nat):Int)) t13) w fun t14 w=>
 ev prog (convert 3 30 x7) w fun t16 w=>
 ev prog (binM .mul 30 (.const (.int .u64 ((8:Nat):Int))) (.tmp 16) (.int .u64 ((8:Nat):Int)) t16) w fun t17 w=>
 ev prog (binM .add 30 (.tmp 14) (.tmp 17) t14 t17) w fun t18 w=>
 callS prog 46 (pA #[x0,t18]) w fun t19 w=>
 ev prog (Instr.buildSlice 39 1 #[(0,t19)]) w fun t20 w=>
 bltS prog .append #[39,39] 39 #[false,false] (pA #[x5,t20]) w fun t21 w=>
 ev prog (binM .add 3 (.tmp 7) (.const (.int .i64 1)) x7 (.int .i64 1)) w fun t22 w=>
 E1 t21 t22 w) (
 f13_k1 K x5 w)
theorem f13_l1_rule (x0 x1 x5 x7:Value) (K:K1) (w:World) (I:VP2) (μ:Value→Value→World→Nat) (h0:I x5 x7 w)
  (hr:∀(x5 x7:Value) (w:World),I x5 x7 w→∀E1:VP2,(∀(y5 y7:Value) (w':World),I y5 y7 w'→μ y5 y7 w'<μ x5 x7 w→E1 y5 y7 w')→f13_l1_t x0 x1 x5 x7 K E1 w):f13_l1 K x0 x1 x5 x7 w:=
 ⟨I,μ,h0,fun σ w hI E hE=>cast (by kernel_rfl) (hr (σ 5) (σ 7) w hI E hE)⟩
def f13_t (x0 x1:Value) (K:K1) (w:World):Prop:=
 f13_l1 K x0 x1 (.slice none 0 0) (.int .i64 0) w
theorem f13_call (x0 x1:Value) (K:K1) (w:World) (h:f13_t x0 x1 K w):callS prog 13 #[x0,x1] w K:=
 call_of_txt (args:= [x0,x1]) mixed Tryz.func13 f13_u.2 (by kernel_rfl) (cast (by kernel_rfl) h)
noncomputable def f17_u:Code×Dec:=((Tryz.f17.body).getD .skip,(.s .o (.s .o (.x 1159 .o (.x 134 (.s .o (.b (.s .o (.s .o (.s .o (.s .o (.s .o (.s (.s .o (.s .o (.s .o (.s .o (.x 164997 (.s .o (.b (.l [17,124] 10633823966279326983230456482242790533 1339861819751195199887037516762587463680 .o))) (.s .o (.x 1157 (.s .o (.b (.l [142] 4181389724724491839037947176121567782372485 182682129480063232119675220159967215366617169920 .o))) .o))))))) .o)))))))) .o)))))
abbrev f17_e (K:K1):KF:=endK prog Tryz.f17.results.toList K
def f17_k1_o (K:K1):KF:=fun fr w=>∀σ,cP (pr (pr (pr f17_u))) (f17_e K) (f17_e K) nX (mixF 1159 σ 0 fr) w
def f17_k1 (K:K1) (x0 x1 x2 x7 x10:Value) (w:World):Prop:=f17_k1_o K (fz 210 0 [(0,x0),(1,x1),(2,x2),(7,x7),(10,x10)]) w
def f17_k2_o (K:K1):KF:=fun fr w=>∀σ,cP (pr (pr (pr (pr f17_u)))) (f17_e K) (f17_e K) nX (mixF 134 σ 0 fr) w
def f17_k2 (K:K1) (x1 x2 x7:Value) (w:World):Prop:=f17_k2_o K (fz 210 0 [(1,x1),(2,x2),(7,x7)]) w
def f17_k3_o (K:K1):KF:=fun fr w=>∀σ,cP (pr (pr (pr (pr (pr (pl (pr (pr (pr (pr (pr (pl (pr (pl (pr (pr (pr f17_u))))))))))))))))) (f17_k2_o K) (f17_e K) (exB 0 (f17_k2_o K) nX) (mixF 164997 σ 0 fr) w
def f17_k3 (K:K1) (x0 x2 x7 x10 x15 x17:Value) (w:World):Prop:=f17_k3_o K (fz 210 0 [(0,x0),(2,x2),(7,x7),(10,x10),(15,x15),(17,x17)]) w
def f17_l1 (K:K1) (x0 x2 x7 x10 x15 x17 x123 x124:Value) (w:World):Prop:=loopT [17,124] 10633823966279326983230456482242790533 (fun E=>cP (pl (pl (pr (pl (pr (pr (pr (pr (pl (pr (pr (pr (pr (pr (pl (pr (pl (pr (pr (pr f17_u)))))))))))))))))))) E (f17_e K) (exB 1 (f17_k3_o K) (exB 0 (f17_k2_o K) nX))) (fz 210 0 [(0,x0),(2,x2),(7,x7),(10,x10),(15,x15),(17,x17),(123,x123),(124,x124)]) w
def f17_k4_o (K:K1):KF:=fun fr w=>∀σ,cP (pr (pr (pr (pr (pr (pr (pr (pl (pr (pr (pr (pr (pr (pl (pr (pl (pr (pr (pr f17_u))))))))))))))))))) (f17_k2_o K) (f17_e K) (exB 0 (f17_k2_o K) nX) (mixF 1157 σ 0 fr) w
def f17_k4 (K:K1) (x0 x2 x7 x10:Value) (w:World):Prop:=f17_k4_o K (fz 210 0 [(0,x0),(2,x2),(7,x7),(10,x10)]) w
def f17_l2 (K:K1) (x0 x2 x7 x10 x140 x141 x142:Value) (w:World):Prop:=loopT [142] 4181389724724491839037947176121567782372485 (fun E=>cP (pl (pl (pr (pl (pr (pr (pr (pr (pr (pr (pl (pr (pr (pr (pr (pr (pl (pr (pl (pr (pr (pr f17_u)))))))))))))))))))))) E (f17_e K) (exB 3 (f17_k4_o K) (exB 0 (f17_k2_o K) nX))) (fz 210 0 [(0,x0),(2,x2),(7,x7),(10,x10),(140,x140),(141,x141),(142,x142)]) w
def f17_k1_t (x0 x1 x2 x7 x10:Value) (K:K1) (w:World):Prop:=
 ev prog (Instr.fieldAt 52 x7 0) w fun t40 w=>
 ldS prog 5 t40 w fun t41 w=>
 ev prog (binM .rem 5 (.tmp 41) (.const (.int .u8 ((6:Nat):Int))) t41 (.int .u8 ((6:Nat):Int))) w fun t42 w=>
 ev prog (binM .eql 5 (.tmp 42) (.const (.int .u8 ((3:Nat):Int))) t42 (.int .u8 ((3:Nat):Int))) w fun t44 w=>
 cndS t44 (
 ev prog (Instr.fieldAt 52 x7 3) w fun t47 w=>
 ldS prog 3 t47 w fun t48 w=>
 callS prog 51 (pA #[x2,t48]) w fun t49 w=>
 ev prog (Instr.extract t49 0) w fun t50 w=>
 ev prog (Instr.extract t49 1) w fun t51 w=>
 callS prog 35 (pA #[x1,x10]) w fun t55 w=>
 ev prog (binM .eql 3 (.tmp 55) (.tmp 56) t55 t51) w fun t57 w=>
 K (.tuple #[t50,t57]) w) (
 ev prog (binM .eql 5 (.tmp 42) (.const (.int .u8 ((4:Nat):Int))) t42 (.int .u8 ((4:Nat):Int))) w fun t59 w=>
 cndS t59 (
 ev prog (Instr.fieldAt 52 x7 3) w fun t62 w=>
 ldS prog 3 t62 w fun t63 w=>
 ev prog (Instr.fieldAt 52 x7 4) w fun t64 w=>
 ldS prog 4 t64 w fun t65 w=>
 callS prog 52 (pA #[x2,t63,t65]) w fun t66 w=>
 ev prog (Instr.extract t66 0) w fun t67 w=>
 ev prog (Instr.extract t66 1) w fun t68 w=>
 ev prog (Instr.fieldAt 52 x7 4) w fun t72 w=>
 ldS prog 4 t72 w fun t73 w=>
 callS prog 53 (pA #[x1,x10,t73]) w fun t74 w=>
 ev prog (binM .eql 3 (.tmp 74) (.tmp 75) t74 t68) w fun t76 w=>
 K (.tuple #[t67,t76]) w) (
 ev prog (binM .eql 5 (.tmp 42) (.const (.int .u8 ((5:Nat):Int))) t42 (.int .u8 ((5:Nat):Int))) w fun t78 w=>
 cndS t78 (
 ev prog (Instr.fieldAt 52 x7 3) w fun t79 w=>
 ldS prog 3 t79 w fun t80 w=>
 ev prog (binM .lss 3 (.tmp 80) (.const (.int .i64 0)) t80 (.int .i64 0)) w fun t81 w=>
 gd t81 false (fun k=>ev prog (Instr.fieldAt 52 x7 3) w k) w fun t83 w=>
 gd t81 false (fun k=>ldS prog 3 t83 w k) w fun t84 w=>
 gd t81 false (fun k=>k x2 w) w fun t85 w=>
 gd t81 false (fun k=>bltS prog .len #[29] 3 #[false] #[t85] w k) w fun t86 w=>
 gd t81 false (fun k=>ev prog (binM .geq 3 (.tmp 84) (.tmp 86) t84 t86) w k) w fun t87 w=>
 pickS t81 (.bool true) t87 w fun t88 w=>
 gd t88 false (fun k=>ev prog (Instr.fieldAt 52 x7 5) w k) w fun t90 w=>
 gd t88 false (fun k=>ldS prog 50 t90 w k) w fun t91 w=>
 gd t88 false (fun k=>bltS prog .len #[50] 3 #[false] #[t91] w k) w fun t92 w=>
 gd t88 false (fun k=>ev prog (binM .gtr 3 (.tmp 92) (.const (.int .i64 70)) t92 (.int .i64 70)) w k) w fun t93 w=>
 pickS t88 (.bool true) t93 w fun t94 w=>
 gd t94 false (fun k=>ev prog (Instr.fieldAt 52 x7 6) w k) w fun t96 w=>
 gd t94 false (fun k=>ldS prog 50 t96 w k) w fun t97 w=>
 gd t94 false (fun k=>bltS prog .len #[50] 3 #[false] #[t97] w k) w fun t98 w=>
 gd t94 false (fun k=>ev prog (binM .gtr 3 (.tmp 98) (.const (.int .i64 70)) t98 (.int .i64 70)) w k) w fun t99 w=>
 pickS t94 (.bool true) t99 w fun t100 w=>
 cndS t100 (
 K (.tuple #[x2,(.bool true)]) w) (
 ev prog (Instr.makeInterface 25 x0) w fun t104 w=>
 callS prog 23 (pA #[t104,x10]) w fun t106 w=>
 ev prog (Instr.extract t106 0) w fun t107 w=>
 ev prog (Instr.extract t106 1) w fun t108 w=>
 ev prog (Instr.alloc 69 true (.tuple #[])) w fun t15 w=>
 stS prog 69 t15 t107 w fun w=>
 ev prog (binM .eql 43 (.tmp 109) (.const (.int .i64 0)) t108 (.int .i64 0)) w fun t110 w=>
 ev prog (Instr.fieldAt 52 x7 3) w fun t112 w=>
 ldS prog 3 t112 w fun t113 w=>
 ev prog (Instr.indexAt 29 x2 t113) w fun t114 w=>
 ldS prog 42 t114 w fun t115 w=>
 callS prog 49 (pA #[t115]) w fun t116 w=>
 ev prog (Instr.field 36 t116 0) w fun t117 w=>
 ev prog (binM .geq 3 (.tmp 117) (.const (.int .i64 0)) t117 (.int .i64 0)) w fun t118 w=>
 ev prog (binM .neq 4 (.tmp 110) (.tmp 118) t110 t118) w fun t119 w=>
 cndS t119 (
 K (.tuple #[x2,(.bool false)]) w) (
 ev prog (Instr.fieldAt 52 x7 5) w fun t121 w=>
 ldS prog 50 t121 w fun t122 w=>
 bltS prog .len #[50] 3 #[false] #[t122] w fun t123 w=>
 f17_l1 K x0 x2 x7 x10 t15 (.slice none 0 0) t123 (.int .i64 0) w))) (
 f17_k2 K x1 x2 x7 w)))
theorem f17_k1_eq (K:K1) (x0 x1 x2 x7 x10:Value) (w:World):f17_k1 K x0 x1 x2 x7 x10 w=f17_k1_t x0 x1 x2 x7 x10 K w:=cutE fun σ=>by kernel_rfl
def f17_k2_t (x1 x2 x7:Value) (K:K1) (w:World):Prop:=
 ev prog (Instr.fieldAt 52 x7 1) w fun t173 w=>
 ldS prog 3 t173 w fun t174 w=>
 ev prog (Instr.fieldAt 52 x7 2) w fun t175 w=>
 ldS prog 3 t175 w fun t176 w=>
 callS prog 56 (pA #[x2,t174,t176]) w fun t177 w=>
 ev prog (Instr.extract t177 0) w fun t178 w=>
 ev prog (Instr.extract t177 1) w fun t179 w=>
 ev prog (Instr.extract t177 2) w fun t180 w=>
 ev prog (Instr.fieldAt 52 x7 1) w fun t183 w=>
 ldS prog 3 t183 w fun t184 w=>
 ev prog (Instr.fieldAt 52 x7 2) w fun t185 w=>
 ldS prog 3 t185 w fun t186 w=>
 callS prog 22 (pA #[x1,t184,t186]) w fun t187 w=>
 ev prog (Instr.extract t187 0) w fun t188 w=>
 ev prog (Instr.extract t187 1) w fun t189 w=>
 ev prog (binM .neq 3 (.tmp 190) (.const (.int .i64 0)) t180 (.int .i64 0)) w fun t191 w=>
 cndS t191 (
 ev prog (binM .eql 3 (.tmp 193) (.tmp 194) t189 t180) w fun t195 w=>
 gd t195 true (fun k=>k t188 w) w fun t197 w=>
 gd t195 true (fun k=>ev prog (binM .eql 3 (.tmp 197) (.const (.int .i64 0)) t197 (.int .i64 0)) w k) w fun t198 w=>
 pickS t195 t198 (.bool false) w fun t199 w=>
 K (.tuple #[t178,t199]) w) (
 ev prog (binM .eql 43 (.tmp 201) (.const (.int .i64 0)) t189 (.int .i64 0)) w fun t202 w=>
 gd t202 true (fun k=>k t188 w) w fun t204 w=>
 gd t202 true (fun k=>k t179 w) w fun t205 w=>
 gd t202 true (fun k=>ev prog (binM .mul 3 (.const (.int .i64 32)) (.tmp 205) (.int .i64 32) t205) w k) w fun t206 w=>
 gd t202 true (fun k=>ev prog (binM .add 3 (.const (.int .i64 3)) (.tmp 206) (.int .i64 3) t206) w k) w fun t207 w=>
 gd t202 true (fun k=>ev prog (binM .eql 3 (.tmp 204) (.tmp 207) t204 t207) w k) w fun t208 w=>
 pickS t202 t208 (.bool false) w fun t209 w=>
 K (.tuple #[t178,t209]) w)
theorem f17_k2_eq (K:K1) (x1 x2 x7:Value) (w:World):f17_k2 K x1 x2 x7 w=f17_k2_t x1 x2 x7 K w:=cutE fun σ=>by kernel_rfl
def f17_k3_t (x0 x2 x7 x10 x15 x17:Value) (K:K1) (w:World):Prop:=
 ldS prog 69 x15 w fun t131 w=>
 ev prog (Instr.fieldAt 52 x7 5) w fun t132 w=>
 ldS prog 50 t132 w fun t133 w=>
 ev prog (Instr.fieldAt 52 x7 6) w fun t135 w=>
 ldS prog 50 t135 w fun t136 w=>
 callS prog 28 (pA #[t131,t133,x17,t136]) w fun t137 w=>
 ev prog (Instr.extract t137 0) w fun t138 w=>
 ev prog (Instr.extract t137 1) w fun t139 w=>
 bltS prog .len #[76] 3 #[false] #[t138] w fun t141 w=>
 f17_l2 K x0 x2 x7 x10 t138 t141 (.int .i64 0) w
theorem f17_k3_eq (K:K1) (x0 x2 x7 x10 x15 x17:Value) (w:World):f17_k3 K x0 x2 x7 x10 x15 x17 w=f17_k3_t x0 x2 x7 x10 x15 x17 K w:=cutE fun σ=>by kernel_rfl
def f17_l1_t (x0 x2 x7 x10 x15 x17 x123 x124:Value) (K:K1) (E1:VP2) (w:World):Prop:=
 ev prog (binM .lss 3 (.tmp 124) (.tmp 123) x124 x123) w fun t125 w=>
 cndS t125 (
 ev prog (Instr.buildSlice 58 1 #[(0,(.int .u8 ((64:Nat):Int)))]) w fun t127 w=>
 bltS prog .append #[58,58] 58 #[false,false] (pA #[x17,t127]) w fun t128 w=>
 ev prog (binM .add 3 (.tmp 124) (.const (.int .i64 1)) x124 (.int .i64 1)) w fun t129 w=>
 E1 t128 t129 w) (
 f17_k3 K x0 x2 x7 x10 x15 x17 w)
theorem f17_l1_rule (x0 x2 x7 x10 x15 x17 x123 x124:Value) (K:K1) (w:World) (I:VP2) (μ:Value→Value→World→Nat) (h0:I x17 x124 w)
  (hr:∀(x17 x124:Value) (w:World),I x17 x124 w→∀E1:VP2,(∀(y17 y124:Value) (w':World),I y17 y124 w'→μ y17 y124 w'<μ x17 x124 w→E1 y17 y124 w')→f17_l1_t x0 x2 x7 x10 x15 x17 x123 x124 K E1 w):f17_l1 K x0 x2 x7 x10 x15 x17 x123 x124 w:=
 ⟨I,μ,h0,fun σ w hI E hE=>cast (by kernel_rfl) (hr (σ 17) (σ 124) w hI E hE)⟩
def f17_k4_t (x0 x2 x7 x10:Value) (K:K1) (w:World):Prop:=
 callS prog 55 (pA #[x0]) w fun t158 w=>
 bltS prog .append #[29,29] 29 #[false,false] (pA #[(.slice none 0 0),x2]) w fun t161 w=>
 rd prog (Instr.fieldAt 52 x7 3) w.drew fun t163=>
 ldR prog 3 t163 w.drew fun t164=>
 callS prog 13 (pA #[x0,x10]) w.drew fun t167 w=>
 (ag prog (Instr.fieldAt 52 x7 3) w t163)∧
 (ldG prog 3 t163 w t164)∧
 rd prog (Instr.indexAt 29 t161 t164) w fun t168=>
 rd prog (Instr.fieldAt 42 t168 0) w fun t169=>
 stS prog 39 t169 t167 w fun w=>
 K (.tuple #[t161,(.bool true)]) w
theorem f17_k4_eq (K:K1) (x0 x2 x7 x10:Value) (w:World):f17_k4 K x0 x2 x7 x10 w=f17_k4_t x0 x2 x7 x10 K w:=cutE fun σ=>by kernel_rfl
def f17_l2_t (x0 x2 x7 x10 x140 x141 x142:Value) (K:K1) (E1:VP1) (w:World):Prop:=
 ev prog (binM .lss 3 (.tmp 142) (.tmp 141) x142 x141) w fun t143 w=>
 cndS t143 (
 ev prog (Instr.indexAt 76 x140 x142) w fun t144 w=>
 ldS prog 80 t144 w fun t145 w=>
 ev prog (Instr.alloc 80 true (.tuple #[])) w fun t21 w=>
 stS prog 80 t21 t145 w fun w=>
 ev prog (Instr.fieldAt 80 t21 0) w fun t147 w=>
 ldS prog 30 t147 w fun t148 w=>
 ev prog (Instr.fieldAt 80 t21 1) w fun t149 w=>
 ldS prog 30 t149 w fun t150 w=>
 callS prog 11 (pA #[x0,t148,t150]) w fun t151 w=>
 ev prog (Instr.fieldAt 80 t21 0) w fun t153 w=>
 ldS prog 30 t153 w fun t154 w=>
 callS prog 54 (pA #[x0,t154]) w fun t155 w=>
 ev prog (binM .add 3 (.tmp 142) (.const (.int .i64 1)) x142 (.int .i64 1)) w fun t156 w=>
 E1 t156 w) (
 f17_k4 K x0 x2 x7 x10 w)
theorem f17_l2_rule (x0 x2 x7 x10 x140 x141 x142:Value) (K:K1) (w:World) (I:VP1) (μ:Value→World→Nat) (h0:I x142 w)
  (hr:∀(x142:Value) (w:World),I x142 w→∀E1:VP1,(∀(y142:Value) (w':World),I y142 w'→μ y142 w'<μ x142 w→E1 y142 w')→f17_l2_t x0 x2 x7 x10 x140 x141 x142 K E1 w):f17_l2 K x0 x2 x7 x10 x140 x141 x142 w:=
 ⟨I,μ,h0,fun σ w hI E hE=>cast (by kernel_rfl) (hr (σ 142) w hI E hE)⟩
def f17_t (x0 x1 x2 x3:Value) (K:K1) (w:World):Prop:=
 ev prog (Instr.box 52 x3) w fun t7 w=>
 ev prog (Instr.fieldAt 52 t7 3) w fun t28 w=>
 ldS prog 3 t28 w fun t29 w=>
 ev prog (binM .geq 3 (.tmp 29) (.const (.int .i64 0)) t29 (.int .i64 0)) w fun t30 w=>
 gd t30 true (fun k=>ev prog (Instr.fieldAt 52 t7 3) w k) w fun t32 w=>
 gd t30 true (fun k=>ldS prog 3 t32 w k) w fun t33 w=>
 gd t30 true (fun k=>ev prog (binM .lss 3 (.tmp 33) (.const (.int .i64 100)) t33 (.int .i64 100)) w k) w fun t34 w=>
 pickS t30 t34 (.bool false) w fun t35 w=>
 cndS t35 (
 ev prog (Instr.fieldAt 52 t7 3) w fun t36 w=>
 ldS prog 3 t36 w fun t37 w=>
 ev prog (binM .mul 3 (.const (.int .i64 32)) (.tmp 37) (.int .i64 32) t37) w fun t38 w=>
 ev prog (binM .add 3 (.const (.int .i64 3)) (.tmp 38) (.int .i64 3) t38) w fun t39 w=>
 f17_k1 K x0 x1 x2 t7 t39 w) (
 f17_k1 K x0 x1 x2 t7 (.int .i64 (-7)) w)
theorem f17_call (x0 x1 x2 x3:Value) (K:K1) (w:World) (h:f17_t x0 x1 x2 x3 K w):callS prog 17 #[x0,x1,x2,x3] w K:=
 call_of_txt (args:= [x0,x1,x2,x3]) mixed Tryz.func17 f17_u.2 (by kernel_rfl) (cast (by kernel_rfl) h)
end Go.Proofs.YtifpinhjpbgnoaaGreatDoor
