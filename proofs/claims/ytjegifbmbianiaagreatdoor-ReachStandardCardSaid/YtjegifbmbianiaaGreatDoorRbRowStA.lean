/-
  Part A of the proof in YtjegifbmbianiaaGreatDoorRbRowSt.
-/
import Derived.Test.YtjegifbmbianiaaGreatDoorRb4
import Derived.Test.YtjegifbmbianiaaGreatDoorRb3
import Derived.Test.YtjegifbmbianiaaGreatDoorRb1
import Derived.Test.YtjegifbmbianiaaGreatDoorRows
import Derived.JoinedOf
import Derived.KernelRfl
import GoSem.ClaimGoes
import GoSem.ClaimSevenParts
set_option linter.unusedSimpArgs false
set_option linter.unusedVariables false
set_option maxHeartbeats 20000000
set_option maxRecDepth 1000000
open Go.Proofs.Tryz (prog)
open Go.RowKit (intOf)
namespace Go.Ev
open Go Go.Sh Go.Proofs Go.Proofs.YtjegifbmbianiaaGreatDoor
def seqL (n a d:Nat):List Int:=(List.range n).map fun i=>((a+i*d:Nat):Int)
def stdS (k:Nat):Shp:=
 match k with
 |1|4=>⟨[0],false,0,false,0,0⟩
 |2=>⟨[1],false,0,false,0,0⟩
 |3|13=>⟨[1],false,0,true,0,16⟩
 |5=>⟨[16],false,0,false,0,0⟩
 |6=>⟨seqL 32 4 1,false,0,false,0,0⟩
 |7=>⟨[1,2],false,0,false,0,0⟩
 |9=>⟨seqL 24 0 1,false,0,false,0,0⟩
 |10=>⟨[0,1,2],false,0,false,0,0⟩
 |12=>⟨seqL 30 0 2,false,0,false,0,0⟩
 |_=>⟨[],false,0,false,0,0⟩
noncomputable def isJ (v:AV) (n:Int):Bool:=eqA v (.i .i64 n)
noncomputable def lChk (d:AV) (x:Tr AV):List Int→Nat→Bool
 | [],_=>true
 |n::l,o=>isJ (cell d x o) n&&lChk d x l (o+1)
noncomputable def slChk (S:St) (l:List Int) (v:AV):Bool:=
 match v with
 | .s0=>l.isEmpty
 | .sl id off len lo ex sz=>Nat.beq len l.length&&(Nat.beq sz 1&&(Nat.blt 0 len&&rdK S id fun n d x=>Nat.ble (off+len) n&&lChk d x l off))
 |_=>false
noncomputable def shChk (S:St) (d:AV) (x:Tr AV) (s:Shp) (o:Nat):Bool:=
 slChk S s.l (cell d x o)&&(eqA (cell d x (o+1)) (.b s.a)&&(isJ (cell d x (o+2)) s.f&&(eqA (cell d x (o+3)) (.b s.li)&&(isJ (cell d x (o+4)) s.o&&isJ (cell d x (o+5)) s.v))))
noncomputable def stChk (v:AV) (S:St):Bool:=
 match v with
 | .p id off=>Tr.gK S.m id (fun B=>match B with
  | .c ro e n d x=>Nat.beq off 0&&(Nat.ble 768 n&&(List.range 128).all fun k=>shChk S d x (stdS k) (k*6))
  |_=>false) false
 |_=>false
theorem st_run:disp prog 5 (lookT tb) 1000 14 .nl S0 (fun v S=>fV v fun v=>stChk v S)=true:=by kernel_rfl
section
variable {T:RT} {w0 w:World} {S:St} {φ:Ph}
theorem lChk_get {d:AV} {x:Tr AV}:∀{l:List Int} {o j:Nat} {n:Int},lChk d x l o=true→l[j]? =some n→cell d x (o+j)= .i .i64 n:=by
 intro l
 induction l with
 |nil=>intro o j n _ h;simp at h
 |cons a l ih=>
  intro o j n h hj
  simp only [lChk,Bool.and_eq_true] at h
  cases j with
  |zero=>simp at hj;subst hj;exact eqA_eq h.1
  |succ j=>simp at hj;have:=ih h.2 hj;rw [←this];congr 1;omega
theorem slChk_ok (R:Rel T w0 S φ w) {v:AV} {l:List Int} {u:Value} (h:slChk S l v=true) (hv:V φ v u):RdS w.heap.size w u (i64L l):=by
 unfold slChk at h
 split at h
 ·have:l= []:=by simpa using h
  subst this
  cases hv
  exact RdS.nil _ _
 ·rename_i id off len lo ex sz
  simp only [Bool.and_eq_true,Nat.blt_eq] at h
  obtain ⟨h1,h2,h3,h4⟩:=h
  have h1:=Nat.eq_of_beq_eq_true h1
  have h2:=Nat.eq_of_beq_eq_true h2
  subst h2
  obtain ⟨⟨q1,_⟩,b,o,N,c,a,hp,rfl,q2,q3,q4,q5⟩:=hv
  obtain ⟨n,d,x,hk,hB⟩:=rdK_ok h4 R hp
  simp only [Bool.and_eq_true] at hk
  have hle:=Nat.le_of_ble_eq_true hk.1
  rcases q5 with ⟨_,q6⟩|⟨rfl,_⟩
  ·omega
  ·refine ⟨_,_,by rw [List.length_map,←h1],.inr ⟨b,o+off,rfl,R.lt _ _ _ _ hp,fun j v hj=> ?_⟩⟩
   rw [List.getElem?_map] at hj
   cases hl:l[j]? with
   |none=>rw [hl] at hj;cases hj
   |some n0=>
    rw [hl] at hj
    cases hj
    have hjl:=(List.getElem?_eq_some_iff.1 hl).1
    obtain ⟨u,u1,u2,_⟩:=hB.cell hp (i:=off+j) oM
    rw [lChk_get hk.2 hl] at u2
    cases u2
    rw [←Nat.add_assoc] at u1
    exact u1
 ·cases h
end
def StdO (w:World) (b o:Nat):Prop:=∃g,At w b o 768 g∧∀k,k<128→∃x,RdS w.heap.size w x (i64L (stdS k).l)∧∀j,j<6→g (k*6+j)=(stdS k).cs x j
theorem k_Standard {w:World} (hG:Glob w) (K:K1) (hK:∀b o w',Ext w w'→StdO w' b o→K (.pointer (some ⟨b,o,none⟩)) w'):callS prog 14 #[] w K:=
 (disp_ok (T:=T0) hmO tb_ok 1000).1 T0.g 14 .nl S0 _ w φ0 w [] K (by decide) st_run (rel0 hG) rfl (fun v S φ w' u hv hle R hu=>by
  rw [fV_eq] at hv
  unfold stChk at hv
  split at hv
  ·rename_i id off
   rw [Tr.gK_eq] at hv
   cases hg:S.m.get id with
   |none=>rw [hg] at hv;cases hv
   |some B=>
    rw [hg] at hv
    simp only at hv
    split at hv
    ·rename_i ro e n d x
     simp only [Bool.and_eq_true] at hv
     obtain ⟨h1,h2,h3⟩:=hv
     have h1:=Nat.eq_of_beq_eq_true h1
     have h2:=Nat.le_of_ble_eq_true h2
     subst h1
     obtain ⟨b,o,N,hp,rfl⟩:=hu
     obtain ⟨b',o',N',a,hp',hh,q1,q2,q3,q4⟩:=R.blk _ _ _ hg hp
     rw [hp] at hp';cases hp'
     refine hK b o w' R.ext ⟨fun i=>(a[o+i]?).getD undef,⟨a,e,hh,by omega,fun i hi=> ?_⟩,fun k hk=> ?_⟩
     ·obtain ⟨v,v1,_⟩:=q4 i oM
      show a[o+i]? =some ((a[o+i]?).getD undef)
      rw [v1];rfl
     ·have h4:=List.all_eq_true.1 h3 k (List.mem_range.2 hk)
      unfold shChk at h4
      simp only [Bool.and_eq_true] at h4
      obtain ⟨s0,s1,s2,s3,s4,s5⟩:=h4
      have at':∀j,j<6→∃v,a[o+(k*6+j)]? =some v∧V φ (cell d x (k*6+j)) v:=fun j hj=>by
       obtain ⟨v,v1,v2,_⟩:=q4 (k*6+j) oM
       exact ⟨v,v1,v2⟩
      obtain ⟨x0,a0,r0⟩:=at' 0 oM
      obtain ⟨x1,a1,r1⟩:=at' 1 oM
      obtain ⟨x2,a2,r2⟩:=at' 2 oM
      obtain ⟨x3,a3,r3⟩:=at' 3 oM
      obtain ⟨x4,a4,r4⟩:=at' 4 oM
      obtain ⟨x5,a5,r5⟩:=at' 5 oM
      rw [eqA_eq s1] at r1
      rw [eqA_eq s2] at r2
      rw [eqA_eq s3] at r3
      rw [eqA_eq s4] at r4
      rw [eqA_eq s5] at r5
      cases r1;cases r2;cases r3;cases r4;cases r5
      refine ⟨x0,slChk_ok R s0 r0,fun j hj=> ?_⟩
      rcases j with _|_|_|_|_|_|j
      ·simp only [a0];rfl
      ·simp only [a1];rfl
      ·simp only [a2];rfl
      ·simp only [a3];rfl
      ·simp only [a4];rfl
      ·simp only [a5];rfl
      ·omega
    ·cases hv
  ·cases hv)
end Go.Ev
namespace Go.Proofs.YtjegifbmbianiaaGreatDoor
open Go Go.Sh
def lisB (w k n:Nat):Bool:=(List.range n).any fun i=>decide ((16:Int)+((w/2^(4+4*i)%16:Nat):Int)=(k:Int))
def isB (s:Shp) (ws:List Nat) (k:Nat):Bool:=s.l.any (fun z=>decide (z=(k:Int)))||(s.li&&(decide (0<ws.length)&&lisB (ws.getD 0 0) k (ws.getD 0 0%16)))
section
variable {w:World} {m m':Nat} {x y:Value} {s:Shp} {ws:List Nat} {k:Nat}
theorem is_l2 {W b:Nat} (hB:At w b 0 6 (s.cs x)) (hv:s.v=16) (hW:W<18446744073709551616) (hk:k<100) (K:K1) (hK:∀w',Ext w w'→K (.bool (lisB W k (W%16))) w'):
  f15_l2 K (.int .i64 (k:Int)) (.pointer (some ⟨b,0,none⟩)) (.int .u64 (W:Int)) (.int .i64 ((W%16:Nat):Int)) (.int .i64 0) w:=by
 apply f15_l2_rule (I:=fun u w'=>∃i:Nat,u= .int .i64 (i:Int)∧i≤W%16∧lisB W k i=false∧Ext w w') (μ:=fun u _=>W%16-(intOf u).toNat)
 ·exact ⟨0,rfl,by omega,rfl,Ext.refl _⟩
 ·intros;rename_i w2 hI E1 hE
  obtain ⟨i,rfl,hi,hall,e2⟩:=hI
  have c5:w2.cell? ⟨b,5,none⟩=some (.int .i64 s.v):=(hB.ext e2).cell (i:=5) (by decide)
  rw [hv] at c5
  unfold f15_l2_t
  have h16:W%16<16:=Nat.mod_lt _ (by decide)
  by_cases hil:i<W%16
  ·have z1:(i:Int)<((W%16:Nat):Int):=oM
   have e1:(4:Int)*(i:Int)=((4*i:Nat):Int):=by push_cast;rfl
   have e3:(4:Int)+((4*i:Nat):Int)=((4+4*i:Nat):Int):=by push_cast;rfl
   have sn:lisB W k (i+1)=(lisB W k i||decide ((16:Int)+((W/2^(4+4*i)%16:Nat):Int)=(k:Int))):=by
    unfold lisB;rw [List.range_succ,List.any_append];simp
   have z2:((4+4*i:Nat):Int)≤64:=oM
   by_cases hq:(16:Int)+((W/2^(4+4*i)%16:Nat):Int)=(k:Int)
   ·have hT:lisB W k (W%16)=true:=by
     unfold lisB
     rw [List.any_eq_true]
     exact ⟨i,List.mem_range.2 hil,decide_eq_true hq⟩
    simp (disch:=try exact dZ) only [↓RBp,↓RA,↓reduceIte,Nat.reduceAdd,Nat.reduceMul,Nat.reduceEqDiff,RB,RX,RA2,↓R3.RT,c5,z1,e1,e3,run_shr_i,z2,hq]
    rw [←hT]
    exact hK _ (e2.trans xZ)
   ·simp (disch:=try exact dZ) only [↓RBp,↓RA,↓reduceIte,Nat.reduceAdd,Nat.reduceMul,Nat.reduceEqDiff,RB,RX,RA2,↓R3.RT,c5,z1,e1,e3,run_shr_i,z2,hq]
    apply hE
    ·exact ⟨i+1,by push_cast;rfl,by omega,by rw [sn,hall,decide_eq_false hq];rfl,e2.trans xZ⟩
    ·simp only [intOf];omega
  ·have z1:¬(i:Int)<((W%16:Nat):Int):=oM
   simp (disch:=try exact dZ) only [↓RBp,↓RA,↓reduceIte,Nat.reduceAdd,Nat.reduceMul,Nat.reduceEqDiff,RB,RX,RA2,↓R3.RT,z1]
   rw [f15_k2_eq]
   unfold f15_k2_t
   have:i=W%16:=oM
   rw [this] at hall
   rw [←hall]
   exact hK _ (e2.trans xZ)
theorem k_Is (hs:RdS m w x (i64L s.l)) (hw:RdS m' w y (u64L ws)) (hl:s.l.length≤100) (hwl:ws.length≤60) (hwb:∀z∈ws,z<18446744073709551616) (ha:s.a=false) (hli:s.li=true→s.o=0∧s.v=16) (hk:k<100) (K:K1) (hK:∀w',Ext w w'→K (.bool (isB s ws k)) w'):
  callS prog 15 #[shV x s,y,.int .i64 (k:Int)] w K:=by
 refine f15_call _ _ _ _ _ ?_
 unfold f15_t
 simp (disch:=try exact dZ) only [↓RBp,↓RA,↓reduceIte,Nat.reduceAdd,Nat.reduceMul,Nat.reduceEqDiff,RB,RX,RA2]
 obtain ⟨a,cap,hx,hr⟩:=id hs
 rw [List.length_map] at hx
 subst hx
 have hB:=Cells.new w [.slice a s.l.length cap,.bool s.a,.int .i64 s.f,.bool s.li,.int .i64 s.o,.int .i64 s.v] 29
 generalize hw1:w.alloc (.cells ([.slice a s.l.length cap,.bool s.a,.int .i64 s.f,.bool s.li,.int .i64 s.o,.int .i64 s.v]:List Value).toArray 29)=w1 at hB
 have e01:Ext w w1:=by rw [←hw1];exact Ext.alloc_self w _
 clear hw1
 generalize w.heap.size=b at hB
 have hB:At w1 b 0 6 (s.cs (.slice a s.l.length cap)):=At.of hB
 apply f15_l1_rule (I:=fun u w'=>∃i:Nat,u= .int .i64 (i:Int)∧i≤s.l.length∧(s.l.take i).any (fun z=>decide (z=(k:Int)))=false∧Ext w1 w') (μ:=fun u _=>s.l.length-(intOf u).toNat)
 ·exact ⟨0,rfl,by omega,rfl,Ext.refl _⟩
 ·intros;rename_i w2 hI E1 hE
  obtain ⟨i,rfl,hi,hall,e2⟩:=hI
  have hB2:=hB.ext e2
  have c0:w2.cell? ⟨b,0,none⟩=some (.slice a s.l.length cap):=hB2.cell (i:=0) (by decide)
  have c1:w2.cell? ⟨b,1,none⟩=some (.bool s.a):=hB2.cell (i:=1) (by decide)
  have c3:w2.cell? ⟨b,3,none⟩=some (.bool s.li):=hB2.cell (i:=3) (by decide)
  have c4:w2.cell? ⟨b,4,none⟩=some (.int .i64 s.o):=hB2.cell (i:=4) (by decide)
  unfold f15_l1_t
  by_cases hil:i<s.l.length
  ·rcases hr with hr|⟨rb,ro,rfl,hrb,hrc⟩
   ·rw [List.map_eq_nil_iff] at hr;rw [hr] at hil;exact absurd hil (Nat.not_lt_zero _)
   ·have cj:=(e01.trans e2).cell_some (hrc i _ (i64L_get hil))
    have z1:(i:Int)<(s.l.length:Int):=oM
    have tk:s.l.take (i+1)=s.l.take i++ [s.l[i]]:=by simp
    by_cases hq:s.l[i]=(k:Int)
    ·have hT:isB s ws k=true:=by
      unfold isB
      have:s.l.any (fun z=>decide (z=(k:Int)))=true:=by
       rw [List.any_eq_true];exact ⟨s.l[i],List.getElem_mem hil,decide_eq_true hq⟩
      rw [this];rfl
     simp (disch:=try exact dZ) only [↓RBp,↓RA,↓reduceIte,Nat.reduceAdd,Nat.reduceMul,Nat.reduceEqDiff,RB,RX,RA2,↓R3.RT,c0,cj,z1,hq]
     rw [←hT];exact hK _ (e01.trans (e2.trans xZ))
    ·simp (disch:=try exact dZ) only [↓RBp,↓RA,↓reduceIte,Nat.reduceAdd,Nat.reduceMul,Nat.reduceEqDiff,RB,RX,RA2,↓R3.RT,c0,cj,z1,hq]
     apply hE
     ·refine ⟨i+1,by push_cast;rfl,by omega,?_,e2.trans xZ⟩
      rw [tk,List.any_append,hall]
      simp [hq]
     ·simp only [intOf];omega
  ·have z1:¬(i:Int)<(s.l.length:Int):=oM
   have hi':i=s.l.length:=oM
   rw [hi',List.take_length] at hall
   simp (disch:=try exact dZ) only [↓RBp,↓RA,↓reduceIte,Nat.reduceAdd,Nat.reduceMul,Nat.reduceEqDiff,RB,RX,RA2,↓R3.RT,c0,z1]
   rw [f15_k1_eq]
   unfold f15_k1_t
   rw [ha] at c1
   cases hb:s.li with
   |false=>
    rw [hb] at c3
    have hF:isB s ws k=false:=by unfold isB;rw [hall,hb];rfl
    simp (disch:=try exact dZ) only [↓RBp,↓RA,↓reduceIte,Nat.reduceAdd,Nat.reduceMul,Nat.reduceEqDiff,RB,RX,RA2,↓R3.RT,c1,c3]
    rw [←hF];exact hK _ (e01.trans (e2.trans xZ))
   |true=>
    obtain ⟨ho,hv⟩:=hli hb
    rw [hb] at c3
    rw [ho] at c4
    obtain ⟨ya,yc,hy,yr⟩:=id hw
    have yl:(u64L ws).length=ws.length:=List.length_map ..
    rw [yl] at hy
    subst hy
    by_cases h0:0<ws.length
    ·rcases yr with yr|⟨yb,yo,rfl,hyb,hyc⟩
     ·have:ws= []:=by simpa [u64L] using yr
      rw [this] at h0;exact absurd h0 (Nat.lt_irrefl _)
     ·have hg:(u64L ws)[0]? =some (u64 (ws.getD 0 0)):=by
       cases ws with
       |nil=>exact absurd h0 (Nat.lt_irrefl _)
       |cons z l=>rfl
      have cw:w2.cell? ⟨yb,yo+0,none⟩=some (u64 (ws.getD 0 0)):=(e01.trans e2).cell_some (hyc 0 _ hg)
      have hwb0:ws.getD 0 0<18446744073709551616:=by
       cases ws with
       |nil=>exact absurd h0 (Nat.lt_irrefl _)
       |cons z l=>exact hwb z List.mem_cons_self
      have hI:isB s ws k=lisB (ws.getD 0 0) k (ws.getD 0 0%16):=by
       unfold isB;rw [hall,hb,decide_eq_true h0];rfl
      rw [hI] at hK
      generalize ws.getD 0 0=W at cw hK hwb0
      rw [Nat.add_zero] at cw
      have z2:¬(ws.length:Int)≤0:=oM
      have z3:(0:Int)<(ws.length:Int):=oM
      have hm:W%16<18446744073709551616:=oM
      have hm2:((W%16:Nat):Int)<9223372036854775808:=oM
      simp (disch:=try exact dZ) only [↓RBp,↓RA,↓reduceIte,Nat.reduceAdd,Nat.reduceMul,Nat.reduceEqDiff,RB,RX,RA2,↓R3.RT,c1,c3,c4,cw,z2,z3,Int.toNat_zero,Nat.add_zero]
      refine is_l2 (s:=s) (W:=W) (x:= .slice a s.l.length cap) (hB2.ext xZ) hv hwb0 hk _ (fun w' e'=>hK w' (e01.trans (e2.trans (Ext.trans xZ e'))))
    ·have z2:(ws.length:Int)≤0:=oM
     have hF:isB s ws k=false:=by unfold isB;rw [hall,decide_eq_false h0];cases s.li<;>rfl
     simp (disch:=try exact dZ) only [↓RBp,↓RA,↓reduceIte,Nat.reduceAdd,Nat.reduceMul,Nat.reduceEqDiff,RB,RX,RA2,↓R3.RT,c1,c3,c4,z2]
     rw [←hF];exact hK _ (e01.trans (e2.trans xZ))
end
noncomputable def f4_u:Code×Dec:=((Tryz.f4.body).getD .skip,(.s .o (.s .o (.s .o (.x 35 (.s .o (.b (.x 3145763 .o (.s .o (.s .o (.s .o (.x 1074790435 .o (.s .o (.s .o (.s .o (.s .o (.s (.s .o (.b (.l [41] 35 2249600790429760 .o))) (.s .o (.s .o (.s .o (.s .o (.s .o (.s (.s .o (.b (.l [7] 35 2358877398425608913024 .o))) (.s .o (.s (.s .o (.b (.l [8] 35 9661961823951294107222272 .o))) .o)))))))))))))))))))) (.s .o (.x 0 (.s .o (.b (.l [88] 154742504910672534362391074 2534991715446637457924681630736 .o))) .o)))))))
abbrev f4_e (K:K1):KF:=endK prog Tryz.f4.results.toList K
def f4_k1_o (K:K1):KF:=fun fr w=>∀σ,cP (pr (pr (pr (pr f4_u)))) (f4_e K) (f4_e K) nX (mixF 35 σ 0 fr) w
def f4_k1 (K:K1) (x0 x1 x5:Value) (w:World):Prop:=f4_k1_o K (fz 101 0 [(0,x0),(1,x1),(5,x5)]) w
def f4_k2_o (K:K1):KF:=fun fr w=>∀σ,cP (pr (pl (pr (pl (pr (pr (pr f4_u))))))) (f4_k1_o K) (f4_e K) (exB 0 (f4_k1_o K) nX) (mixF 3145763 σ 0 fr) w
def f4_k2 (K:K1) (x0 x1 x5 x20 x21:Value) (w:World):Prop:=f4_k2_o K (fz 101 0 [(0,x0),(1,x1),(5,x5),(20,x20),(21,x21)]) w
def f4_k3_o (K:K1):KF:=fun fr w=>∀σ,cP (pr (pr (pr (pr (pr (pr f4_u)))))) (f4_e K) (f4_e K) nX (mixF 0 σ 0 fr) w
def f4_k3 (K:K1) (w:World):Prop:=f4_k3_o K (fz 101 0 []) w
def f4_l1 (K:K1) (x1 x5 x9 x87 x88:Value) (w:World):Prop:=loopT [88] 154742504910672534362391074 (fun E=>cP (pl (pl (pr (pl (pr (pr (pr (pr (pr f4_u))))))))) E (f4_e K) (exB 7 (f4_k3_o K) nX)) (fz 101 0 [(1,x1),(5,x5),(9,x9),(87,x87),(88,x88)]) w
def f4_k4_o (K:K1):KF:=fun fr w=>∀σ,cP (pr (pr (pr (pr (pr (pl (pr (pl (pr (pr (pr f4_u))))))))))) (f4_k1_o K) (f4_e K) (exB 0 (f4_k1_o K) nX) (mixF 1074790435 σ 0 fr) w
def f4_k4 (K:K1) (x0 x1 x5 x20 x30:Value) (w:World):Prop:=f4_k4_o K (fz 101 0 [(0,x0),(1,x1),(5,x5),(20,x20),(30,x30)]) w
def f4_l2 (K:K1) (x0 x1 x5 x41:Value) (w:World):Prop:=loopT [41] 35 (fun E=>cP (pl (pl (pr (pl (pr (pr (pr (pr (pr (pr (pr (pr (pr (pl (pr (pl (pr (pr (pr f4_u))))))))))))))))))) E (f4_e K) (exB 1 (f4_k1_o K) (exB 0 (f4_k1_o K) nX))) (fz 101 0 [(0,x0),(1,x1),(5,x5),(41,x41)]) w
def f4_l3 (K:K1) (x0 x1 x5 x7:Value) (w:World):Prop:=loopT [7] 35 (fun E=>cP (pl (pl (pr (pl (pr (pr (pr (pr (pr (pr (pr (pr (pr (pr (pr (pr (pr (pr (pr (pl (pr (pl (pr (pr (pr f4_u))))))))))))))))))))))))) E (f4_e K) (exB 3 (f4_k1_o K) (exB 0 (f4_k1_o K) nX))) (fz 101 0 [(0,x0),(1,x1),(5,x5),(7,x7)]) w
def f4_l4 (K:K1) (x0 x1 x5 x8:Value) (w:World):Prop:=loopT [8] 35 (fun E=>cP (pl (pl (pr (pl (pr (pr (pr (pr (pr (pr (pr (pr (pr (pr (pr (pr (pr (pr (pr (pr (pr (pl (pr (pl (pr (pr (pr f4_u))))))))))))))))))))))))))) E (f4_e K) (exB 5 (f4_k1_o K) (exB 0 (f4_k1_o K) nX))) (fz 101 0 [(0,x0),(1,x1),(5,x5),(8,x8)]) w
def f4_k1_t (x0 x1 x5:Value) (K:K1) (w:World):Prop:=
 callS prog 14 (pA #[]) w fun t83 w=>
 callS prog 13 (pA #[t83,x0]) w fun t85 w=>
 ev prog (Instr.alloc 29 true (.tuple #[])) w fun t9 w=>
 stS prog 29 t9 t85 w fun w=>
 bltS prog .len #[34] 3 #[false] #[x1] w fun t87 w=>
 f4_l1 K x1 x5 t9 t87 (.int .i64 0) w
theorem f4_k1_eq (K:K1) (x0 x1 x5:Value) (w:World):f4_k1 K x0 x1 x5 w=f4_k1_t x0 x1 x5 K w:=cutE fun σ=>by kernel_rfl
def f4_k2_t (x0 x1 x5 x20 x21:Value) (K:K1) (w:World):Prop:=
 cndS x21 (
 ev prog (Instr.buildSlice 22 1 #[(0,(.int .i64 0))]) w fun t24 w=>
 ev prog (Instr.fieldAt 29 x5 0) w fun t25 w=>
 stS prog 22 t25 t24 w fun w=>
 f4_k1 K x0 x1 x5 w) (
 ev prog (binM .eql 5 (.tmp 20) (.const (.int .u8 ((2:Nat):Int))) x20 (.int .u8 ((2:Nat):Int))) w fun t27 w=>
 cndS t27 (
 ev prog (Instr.buildSlice 22 1 #[(0,(.int .i64 1))]) w fun t28 w=>
 ev prog (Instr.fieldAt 29 x5 0) w fun t29 w=>
 stS prog 22 t29 t28 w fun w=>
 f4_k1 K x0 x1 x5 w) (
 ev prog (binM .eql 5 (.tmp 20) (.const (.int .u8 ((13:Nat):Int))) x20 (.int .u8 ((13:Nat):Int))) w fun t31 w=>
 cndS t31 (
 f4_k4 K x0 x1 x5 x20 t31 w) (
 ev prog (binM .eql 5 (.tmp 20) (.const (.int .u8 ((3:Nat):Int))) x20 (.int .u8 ((3:Nat):Int))) w fun t32 w=>
 f4_k4 K x0 x1 x5 x20 t32 w)))
theorem f4_k2_eq (K:K1) (x0 x1 x5 x20 x21:Value) (w:World):f4_k2 K x0 x1 x5 x20 x21 w=f4_k2_t x0 x1 x5 x20 x21 K w:=cutE fun σ=>by kernel_rfl
def f4_k3_t (K:K1) (w:World):Prop:=
 K (.bool true) w
theorem f4_k3_eq (K:K1) (w:World):f4_k3 K w=f4_k3_t K w:=cutE fun σ=>by kernel_rfl
def f4_l1_t (x1 x5 x9 x87 x88:Value) (K:K1) (E1:VP1) (w:World):Prop:=
 ev prog (binM .lss 3 (.tmp 88) (.tmp 87) x88 x87) w fun t89 w=>
 cndS t89 (
 ldR prog 29 x9 w.drew fun t91=>
 ldR prog 29 x5 w.drew fun t95=>
 callS prog 15 (pA #[t91,x1,x88]) w.drew fun t94 w=>
 (ldG prog 29 x5 w t95)∧
 callS prog 15 (pA #[t95,x1,x88]) w fun t98 w=>
 rd prog (binM .neq 4 (.tmp 94) (.tmp 98) t94 t98) w fun t99=>
 cndS t99 (
 K (.bool false) w) (
 ev prog (binM .add 3 (.tmp 88) (.const (.int .i64 1)) x88 (.int .i64 1)) w fun t100 w=>
 E1 t100 w)) (
 f4_k3 K w)
theorem f4_l1_rule (x1 x5 x9 x87 x88:Value) (K:K1) (w:World) (I:VP1) (μ:Value→World→Nat) (h0:I x88 w)
  (hr:∀(x88:Value) (w:World),I x88 w→∀E1:VP1,(∀(y88:Value) (w':World),I y88 w'→μ y88 w'<μ x88 w→E1 y88 w')→f4_l1_t x1 x5 x9 x87 x88 K E1 w):f4_l1 K x1 x5 x9 x87 x88 w:=
 ⟨I,μ,h0,fun σ w hI E hE=>cast kR (hr (σ 88) w hI E hE)⟩
def f4_k4_t (x0 x1 x5 x20 x30:Value) (K:K1) (w:World):Prop:=
 cndS x30 (
 ev prog (Instr.buildSlice 22 1 #[(0,(.int .i64 1))]) w fun t33 w=>
 ev prog (Instr.build 29 #[(0,t33),(3,(.bool true)),(5,(.int .i64 16))]) w fun t34 w=>
 stS prog 29 x5 t34 w fun w=>
 f4_k1 K x0 x1 x5 w) (
 ev prog (binM .eql 5 (.tmp 20) (.const (.int .u8 ((7:Nat):Int))) x20 (.int .u8 ((7:Nat):Int))) w fun t36 w=>
 cndS t36 (
 ev prog (Instr.buildSlice 22 2 #[(0,(.int .i64 1)),(1,(.int .i64 2))]) w fun t37 w=>
 ev prog (Instr.fieldAt 29 x5 0) w fun t38 w=>
 stS prog 22 t38 t37 w fun w=>
 f4_k1 K x0 x1 x5 w) (
 ev prog (binM .eql 5 (.tmp 20) (.const (.int .u8 ((9:Nat):Int))) x20 (.int .u8 ((9:Nat):Int))) w fun t40 w=>
 cndS t40 (
 f4_l2 K x0 x1 x5 (.int .i64 0) w) (
 ev prog (binM .eql 5 (.tmp 20) (.const (.int .u8 ((10:Nat):Int))) x20 (.int .u8 ((10:Nat):Int))) w fun t52 w=>
 cndS t52 (
 ev prog (Instr.buildSlice 22 3 #[(0,(.int .i64 0)),(1,(.int .i64 1)),(2,(.int .i64 2))]) w fun t53 w=>
 ev prog (Instr.fieldAt 29 x5 0) w fun t54 w=>
 stS prog 22 t54 t53 w fun w=>
 f4_k1 K x0 x1 x5 w) (
 ev prog (binM .eql 5 (.tmp 20) (.const (.int .u8 ((5:Nat):Int))) x20 (.int .u8 ((5:Nat):Int))) w fun t56 w=>
 cndS t56 (
 ev prog (Instr.buildSlice 22 1 #[(0,(.int .i64 16))]) w fun t57 w=>
 ev prog (Instr.fieldAt 29 x5 0) w fun t58 w=>
 stS prog 22 t58 t57 w fun w=>
 f4_k1 K x0 x1 x5 w) (
 ev prog (binM .eql 5 (.tmp 20) (.const (.int .u8 ((6:Nat):Int))) x20 (.int .u8 ((6:Nat):Int))) w fun t60 w=>
 cndS t60 (
 f4_l3 K x0 x1 x5 (.int .i64 4) w) (
 ev prog (binM .eql 5 (.tmp 20) (.const (.int .u8 ((12:Nat):Int))) x20 (.int .u8 ((12:Nat):Int))) w fun t72 w=>
 cndS t72 (
 f4_l4 K x0 x1 x5 (.int .i64 0) w) (
 f4_k1 K x0 x1 x5 w)))))))
theorem f4_k4_eq (K:K1) (x0 x1 x5 x20 x30:Value) (w:World):f4_k4 K x0 x1 x5 x20 x30 w=f4_k4_t x0 x1 x5 x20 x30 K w:=cutE fun σ=>by kernel_rfl
def f4_l2_t (x0 x1 x5 x41:Value) (K:K1) (E1:VP1) (w:World):Prop:=
 ev prog (binM .lss 3 (.tmp 41) (.const (.int .i64 24)) x41 (.int .i64 24)) w fun t42 w=>
 cndS t42 (
 ev prog (Instr.fieldAt 29 x5 0) w fun t44 w=>
 ldS prog 22 t44 w fun t45 w=>
 ev prog (Instr.buildSlice 22 1 #[(0,x41)]) w fun t47 w=>
 bltS prog .append #[22,22] 22 #[false,false] (pA #[t45,t47]) w fun t48 w=>
 ev prog (Instr.fieldAt 29 x5 0) w fun t49 w=>
 stS prog 22 t49 t48 w fun w=>
 ev prog (binM .add 3 (.tmp 41) (.const (.int .i64 1)) x41 (.int .i64 1)) w fun t50 w=>
 E1 t50 w) (
 f4_k1 K x0 x1 x5 w)
theorem f4_l2_rule (x0 x1 x5 x41:Value) (K:K1) (w:World) (I:VP1) (μ:Value→World→Nat) (h0:I x41 w)
  (hr:∀(x41:Value) (w:World),I x41 w→∀E1:VP1,(∀(y41:Value) (w':World),I y41 w'→μ y41 w'<μ x41 w→E1 y41 w')→f4_l2_t x0 x1 x5 x41 K E1 w):f4_l2 K x0 x1 x5 x41 w:=
 ⟨I,μ,h0,fun σ w hI E hE=>cast kR (hr (σ 41) w hI E hE)⟩
def f4_l3_t (x0 x1 x5 x7:Value) (K:K1) (E1:VP1) (w:World):Prop:=
 ev prog (binM .lss 3 (.tmp 61) (.const (.int .i64 36)) x7 (.int .i64 36)) w fun t62 w=>
 cndS t62 (
 ev prog (Instr.fieldAt 29 x5 0) w fun t65 w=>
 ldS prog 22 t65 w fun t66 w=>
 ev prog (Instr.buildSlice 22 1 #[(0,x7)]) w fun t68 w=>
 bltS prog .append #[22,22] 22 #[false,false] (pA #[t66,t68]) w fun t69 w=>
 ev prog (Instr.fieldAt 29 x5 0) w fun t70 w=>
 stS prog 22 t70 t69 w fun w=>
 ev prog (binM .add 3 (.tmp 63) (.const (.int .i64 1)) x7 (.int .i64 1)) w fun t64 w=>
 E1 t64 w) (
 f4_k1 K x0 x1 x5 w)
theorem f4_l3_rule (x0 x1 x5 x7:Value) (K:K1) (w:World) (I:VP1) (μ:Value→World→Nat) (h0:I x7 w)
  (hr:∀(x7:Value) (w:World),I x7 w→∀E1:VP1,(∀(y7:Value) (w':World),I y7 w'→μ y7 w'<μ x7 w→E1 y7 w')→f4_l3_t x0 x1 x5 x7 K E1 w):f4_l3 K x0 x1 x5 x7 w:=
 ⟨I,μ,h0,fun σ w hI E hE=>cast kR (hr (σ 7) w hI E hE)⟩
def f4_l4_t (x0 x1 x5 x8:Value) (K:K1) (E1:VP1) (w:World):Prop:=
 ev prog (binM .lss 3 (.tmp 73) (.const (.int .i64 60)) x8 (.int .i64 60)) w fun t74 w=>
 cndS t74 (
 ev prog (Instr.fieldAt 29 x5 0) w fun t77 w=>
 ldS prog 22 t77 w fun t78 w=>
 ev prog (Instr.buildSlice 22 1 #[(0,x8)]) w fun t80 w=>
 bltS prog .append #[22,22] 22 #[false,false] (pA #[t78,t80]) w fun t81 w=>
 ev prog (Instr.fieldAt 29 x5 0) w fun t82 w=>
 stS prog 22 t82 t81 w fun w=>
 ev prog (binM .add 3 (.tmp 75) (.const (.int .i64 2)) x8 (.int .i64 2)) w fun t76 w=>
 E1 t76 w) (
 f4_k1 K x0 x1 x5 w)
theorem f4_l4_rule (x0 x1 x5 x8:Value) (K:K1) (w:World) (I:VP1) (μ:Value→World→Nat) (h0:I x8 w)
  (hr:∀(x8:Value) (w:World),I x8 w→∀E1:VP1,(∀(y8:Value) (w':World),I y8 w'→μ y8 w'<μ x8 w→E1 y8 w')→f4_l4_t x0 x1 x5 x8 K E1 w):f4_l4 K x0 x1 x5 x8 w:=
 ⟨I,μ,h0,fun σ w hI E hE=>cast kR (hr (σ 8) w hI E hE)⟩
def f4_t (x0 x1:Value) (K:K1) (w:World):Prop:=
 callS prog 9 (pA #[]) w fun t11 w=>
 ev prog (Op.unary .not t11) w fun t12 w=>
 gd t12 false (fun k=>k x1 w) w fun t14 w=>
 gd t12 false (fun k=>bltS prog .len #[34] 3 #[false] #[t14] w k) w fun t15 w=>
 gd t12 false (fun k=>ev prog (binM .gtr 3 (.tmp 15) (.const (.int .i64 60)) t15 (.int .i64 60)) w k) w fun t16 w=>
 pickS t12 (.bool true) t16 w fun t17 w=>
 cndS t17 (
 callS prog 9 (pA #[]) w fun t18 w=>
 K t18 w) (
 ev prog (Instr.build 29 #[]) w fun t19 w=>
 ev prog (Instr.alloc 29 true (.tuple #[])) w fun t5 w=>
 stS prog 29 t5 t19 w fun w=>
 ev prog (binM .eql 5 (.tmp 20) (.const (.int .u8 ((1:Nat):Int))) x0 (.int .u8 ((1:Nat):Int))) w fun t22 w=>
 cndS t22 (
 f4_k2 K x0 x1 t5 x0 t22 w) (
 ev prog (binM .eql 5 (.tmp 20) (.const (.int .u8 ((4:Nat):Int))) x0 (.int .u8 ((4:Nat):Int))) w fun t23 w=>
 f4_k2 K x0 x1 t5 x0 t23 w))
theorem f4_call (x0 x1:Value) (K:K1) (w:World) (h:f4_t x0 x1 K w):callS prog 4 #[x0,x1] w K:=
 call_of_txt (args:= [x0,x1]) mixed Tryz.func4 f4_u.2 kR (cast kR h)
end Go.Proofs.YtjegifbmbianiaaGreatDoor
namespace Go.Proofs.YtjegifbmbianiaaGreatDoor
open Go Go.Sh Go.Ev
section
variable {w:World} {m:Nat} {y:Value} {ws:List Nat} {k:Nat}
theorem k_lg6 {P:Program} {t b o n j:Nat} {g:Nat→Value} (h0:isAggT P t=some true) (hn:szT P t=some 6) (h:At w b o n g) (hj:j+6≤n):ldG P t (.pointer (some ⟨b,o+j,none⟩)) w (.agg #[g j,g (j+1),g (j+2),g (j+3),g (j+4),g (j+5)]):=by
 rw [ldGN h0 hn,h.six hj];rfl
theorem std_ok (k:Nat):(stdS k).a=false∧((stdS k).li=true→(stdS k).o=0∧(stdS k).v=16)∧(stdS k).l.length≤100:=by
 unfold stdS
 split<;>exact ⟨rfl,by decide,by decide⟩
theorem std_big (h:127<k):stdS k=⟨[],false,0,false,0,0⟩:=by
 unfold stdS
 split<;>first|rfl|omega
theorem st_l1 {gb cb:Nat} {u v:Value} (hu:RdS w.heap.size w u (i64L (stdS k).l)) (hv:RdS w.heap.size w v (i64L (stdS k).l)) (hG:At w gb 0 6 ((stdS k).cs u)) (hC:At w cb 0 6 ((stdS k).cs v)) (hy:RdS m w y (u64L ws)) (hwl:ws.length≤60) (hwb:∀z∈ws,z<18446744073709551616) (K:K1) (hK:∀w',Ext w w'→K (.bool true) w'):
  f4_l1 K y (.pointer (some ⟨cb,0,none⟩)) (.pointer (some ⟨gb,0,none⟩)) (.int .i64 ((ws.length:Nat):Int)) (.int .i64 0) w:=by
 obtain ⟨ha,hli,hl⟩:=std_ok k
 apply f4_l1_rule (I:=fun q w'=>∃i:Nat,q= .int .i64 (i:Int)∧i≤ws.length∧Ext w w') (μ:=fun q _=>ws.length-(intOf q).toNat)
 ·exact ⟨0,rfl,by omega,Ext.refl _⟩
 ·intros;rename_i w2 hI E1 hE
  obtain ⟨i,rfl,hi,e2⟩:=hI
  unfold f4_l1_t
  by_cases hil:i<ws.length
  ·have z1:(i:Int)<(ws.length:Int):=oM
   rw [ev_of_run (run_lss _ _ _ _ _ _ w2),decide_eq_true z1]
   unfold cndS
   simp only
   refine k_lr6 (w:=w2.drew) (j:=0) (by kernel_rfl) (by kernel_rfl) (hG.ext e2.drew) (show 0+6≤6 by decide) _ ?_
   refine k_lr6 (w:=w2.drew) (j:=0) (by kernel_rfl) (by kernel_rfl) (hC.ext e2.drew) (show 0+6≤6 by decide) _ ?_
   show callS prog 15 (pA #[shV u (stdS k),y,.int .i64 (i:Int)]) w2.drew _
   rw [pA_eq]
   have e2d:Ext w w2.drew:=e2.drew
   refine k_Is (s:=stdS k) (hu.ext e2d) (hy.ext e2d) hl hwl hwb ha hli oM _ (fun w3 e3=> ?_)
   have e03:=e2d.trans e3
   refine ⟨k_lg6 (j:=0) (by kernel_rfl) (by kernel_rfl) (hC.ext e03) (show 0+6≤6 by decide),?_⟩
   show callS prog 15 (pA #[shV v (stdS k),y,.int .i64 (i:Int)]) w3 _
   rw [pA_eq]
   refine k_Is (s:=stdS k) (hv.ext e03) (hy.ext e03) hl hwl hwb ha hli oM _ (fun w4 e4=> ?_)
   cases isB (stdS k) ws i
   all_goals (simp (disch:=try exact dZ) only [↓RBp,↓RA,↓reduceIte,Nat.reduceAdd,Nat.reduceMul,Nat.reduceEqDiff,RB,RX,RA2,↓R3.RT,beq_self_eq_true,Bool.not_true,Bool.not_false])
   all_goals apply hE
   all_goals first|exact ⟨i+1,by push_cast;rfl,by omega,(e03.trans e4).trans xZ⟩|(simp only [intOf];omega)
  ·have z1:¬(i:Int)<(ws.length:Int):=oM
   simp (disch:=try exact dZ) only [↓RBp,↓RA,↓reduceIte,Nat.reduceAdd,Nat.reduceMul,Nat.reduceEqDiff,RB,RX,RA2,↓R3.RT,z1]
   rw [f4_k3_eq]
   unfold f4_k3_t
   exact hK _ (e2.trans xZ)
theorem st_k1 {cb:Nat} {v:Value} (hGl:Glob w) (hk:k<256) (hv:RdS w.heap.size w v (i64L (stdS k).l)) (hC:At w cb 0 6 ((stdS k).cs v)) (hy:RdS m w y (u64L ws)) (hwl:ws.length≤60) (hwb:∀z∈ws,z<18446744073709551616) (K:K1) (hK:∀w',Ext w w'→K (.bool true) w'):
  f4_k1 K (.int .u8 (k:Int)) y (.pointer (some ⟨cb,0,none⟩)) w:=by
 rw [f4_k1_eq]
 unfold f4_k1_t
 obtain ⟨_,_,hl⟩:=std_ok k
 rw [pA_eq]
 refine k_Standard hGl _ (fun b o w2 e2 hS=> ?_)
 obtain ⟨g,hg,hall⟩:=hS
 rw [pA_eq]
 have get:∀(C:K1),(∀u w3,Ext w2 w3→RdS w3.heap.size w3 u (i64L (stdS k).l)→C (shV u (stdS k)) w3)→callS prog 13 #[.pointer (some ⟨b,o,none⟩),.int .u8 (k:Int)] w2 C:=fun C hC=>by
  by_cases hk2:k<128
  ·obtain ⟨x,hx,hg6⟩:=hall k hk2
   exact k_Get (s:=stdS k) hg hk2 hg6 hx hl (Nat.le_refl _) C (fun u w3 e h=>hC u w3 e h)
  ·refine k_GetBig _ oM C (fun w3 e=> ?_)
   rw [std_big oM] at hC
   exact hC _ w3 e (RdS.nil _ _)
 refine get _ (fun u w3 e3 hu=> ?_)
 have o1:isOne u=true:=by obtain ⟨a,cap,rfl,_⟩:=hu;rfl
 rw [ev_alloc (z:= .agg #[.slice none 0 0,.bool false,.int .i64 0,.bool false,.int .i64 0,.int .i64 0]) (by kernel_rfl)]
 refine k_st (l:= [u,.bool (stdS k).a,.int .i64 (stdS k).f,.bool (stdS k).li,.int .i64 (stdS k).o,.int .i64 (stdS k).v]) (j:=0) (by kernel_rfl) rfl (by simp only [allOne,o1];rfl) (At.of (Cells.new w3 [.slice none 0 0,.bool false,.int .i64 0,.bool false,.int .i64 0,.int .i64 0] 29)) (show 0+6≤6 by decide) _ (fun w4 f4 hG4=> ?_)
 have e4:Ext w3 w4:=Frm.to_ext (F:=fun q=>q=w3.heap.size) ((Frm.of_ext (Ext.alloc_self w3 _)).trans f4 (fun q _ e=>e)) (fun q hq e=>by omega)
 have e24:=(e2.trans e3).trans e4
 obtain ⟨a,cap,ey,_⟩:=id hy
 have yl:(u64L ws).length=ws.length:=List.length_map ..
 rw [yl] at ey
 have hG4':At w4 w3.heap.size 0 6 ((stdS k).cs u):=by
  obtain ⟨a,ty,q1,q2,q3⟩:=hG4
  refine ⟨a,ty,q1,q2,fun i hi=> ?_⟩
  rw [q3 i hi]
  rcases i with _|_|_|_|_|_|i<;>first|rfl|omega
 have fin:=st_l1 (k:=k) (u:=u) (v:=v) (gb:=w3.heap.size) (cb:=cb) (rds_mono (hu.ext e4) e4.size) (rds_mono (hv.ext e24) e24.size) hG4' (hC.ext e24) (hy.ext e24) hwl hwb K (fun w' e'=>hK w' (e24.trans e'))
 subst ey
 simp (disch:=try exact dZ) only [↓RBp,↓RA,↓reduceIte,Nat.reduceAdd,Nat.reduceMul,Nat.reduceEqDiff,RB,RX,RA2]
 exact fin
theorem st_set {cb:Nat} {v:Value} {l:List Int} (hS:stdS k=⟨l,false,0,false,0,0⟩) (hGl:Glob w) (hk:k<256) (hv:RdS w.heap.size w v (i64L l)) (nv:∀q,v.ownBlock=some q→q≠cb) (hC:At w cb 0 6 ((⟨[],false,0,false,0,0⟩:Shp).cs (.slice none 0 0))) (hcb:m≤cb) (hy:RdS m w y (u64L ws)) (hwl:ws.length≤60) (hwb:∀z∈ws,z<18446744073709551616) (hGb:∀w',Frm (fun q=>q=cb) w w'→Glob w') (K:K1) (hK:∀w',Frm (fun q=>q=cb) w w'→K (.bool true) w'):
  ev prog (Instr.fieldAt 29 (.pointer (some ⟨cb,0,none⟩)) 0) w fun t25 w_2=>stS prog 22 t25 v w_2 fun w_3=>f4_k1 K (.int .u8 (k:Int)) y (.pointer (some ⟨cb,0,none⟩)) w_3:=by
 have o1:isOne v=true:=by obtain ⟨a,cap,rfl,_⟩:=hv;rfl
 refine k_fld (n:=0) (by kernel_rfl) _ ?_
 refine k_st1 (i:=0) (by kernel_rfl) o1 hC (show 0<6 by decide) _ (fun w3 f3 hC3=> ?_)
 refine st_k1 (k:=k) (v:=v) (m:=m) (hGb w3 f3) hk (by rw [hS];exact rds_mono (rds_own hv f3 nv) f3.size) ?_ (hy.frm f3 (fun q hq e=>by omega)) hwl hwb K (fun w' e'=>hK w' (f3.ext e'))
 obtain ⟨a,ty,q1,q2,q3⟩:=hC3
 refine ⟨a,ty,q1,q2,fun i hi=> ?_⟩
 rw [q3 i hi,hS]
 rcases i with _|_|_|_|_|_|i<;>first|rfl|omega
theorem st_app {cb:Nat} {v:Value} {l:List Int} {x:Int} {sh:Shp} (hv:SlO w 3 1 v l.length (i64L l)) (nv:∀q,v.ownBlock=some q→q≠cb) (hC:At w cb 0 6 (sh.cs v)) (hl:l.length≤100) (C:World→Prop)
  (hK:∀v' w',Frm (fun q=>q=cb∨v.ownBlock=some q) w w'→SlO w' 3 1 v' (l++ [x]).length (i64L (l++ [x]))→(∀q,v'.ownBlock=some q→v.ownBlock=some q∨w.heap.size≤q)→At w' cb 0 6 (sh.cs v')→C w'):
  ev prog (Instr.fieldAt 29 (.pointer (some ⟨cb,0,none⟩)) 0) w fun t44 w_2=>ldS prog 22 t44 w_2 fun t45 w_3=>ev prog (Instr.buildSlice 22 1 #[(0,.int .i64 x)]) w_3 fun t47 w_4=>
   bltS prog .append #[22,22] 22 #[false,false] (pA #[t45,t47]) w_4 fun t48 w_5=>ev prog (Instr.fieldAt 29 (.pointer (some ⟨cb,0,none⟩)) 0) w_5 fun t49 w_6=>stS prog 22 t49 t48 w_6 C:=by
 refine k_fld (n:=0) (by kernel_rfl) _ ?_
 have c0:w.cell? ⟨cb,0+0,none⟩=some v:=hC.cell (i:=0) (by decide)
 rw [ldS1 (by kernel_rfl),c0]
 show ev _ _ _ _
 rw [ev_of_run (R3.bs_22_1 _ rfl w)]
 rw [pA_eq]
 have e1:=Ext.alloc_self w (.cells #[.int .i64 x] 3)
 have lt:=hC.lt
 refine blt_append el_22_22 (hv.ext e1) (news:= [.int .i64 x]) (m:=1) rfl (fun j u hj=> ?_) rfl oM oM oM (fun v' w2 hv2 f2 n2 _=> ?_)
 ·rw [cell_of_blk (heap_alloc_eq w _)]
  cases j with
  |zero=>simpa using hj
  |succ j=>simp at hj
 ·have o1:isOne v'=true:=by
   rcases hv2.2 with ⟨rfl,_⟩|⟨b,o,c,a,rfl,_⟩<;>rfl
  have hC2:=(hC.ext e1).frm f2 (fun e=>nv _ e rfl)
  refine k_fld (n:=0) (by kernel_rfl) _ ?_
  refine k_st1 (i:=0) (by kernel_rfl) o1 hC2 (show 0<6 by decide) _ (fun w3 f3 hC3=> ?_)
  have nv2:∀q,v'.ownBlock=some q→v.ownBlock=some q∨w.heap.size≤q:=fun q hq=>by
   rcases n2 q hq with h|h
   ·exact .inl h
   ·rw [size_alloc] at h;exact .inr oM
  refine hK v' w3 (((Frm.of_ext e1).trans (F:=fun q=>q=cb∨v.ownBlock=some q) f2 (fun q _ e=> .inr e)).trans f3 (fun q _ e=> .inl e)) ?_ nv2 ?_
  ·have:=hv2.frm f3 (fun q hq e=>by
    rcases nv2 q hq with h|h
    ·exact nv q h e
    ·omega)
   simpa using this
  ·obtain ⟨a,ty,q1,q2,q3⟩:=hC3
   refine ⟨a,ty,q1,q2,fun i hi=> ?_⟩
   rw [q3 i hi]
   rcases i with _|_|_|_|_|_|i<;>first|rfl|omega
theorem st_l2 {cb:Nat} (hGl:∀w',Frm (fun q=>cb≤q) w w'→Glob w') (hC:At w cb 0 6 ((⟨[],false,0,false,0,0⟩:Shp).cs (.slice none 0 0))) (hcb:m≤cb) (hy:RdS m w y (u64L ws)) (hwl:ws.length≤60) (hwb:∀z∈ws,z<18446744073709551616) (K:K1) (hK:∀w',Frm (fun q=>cb≤q) w w'→K (.bool true) w'):
  f4_l2 K (.int .u8 ((9:Nat):Int)) y (.pointer (some ⟨cb,0,none⟩)) (.int .i64 0) w:=by
 have lt:=hC.lt
 apply f4_l2_rule (I:=fun u w'=>∃(i:Nat) (v:Value),u= .int .i64 ((0+i*1:Nat):Int)∧i≤24∧SlO w' 3 1 v (seqL i 0 1).length (i64L (seqL i 0 1))∧(∀q,v.ownBlock=some q→cb<q)∧At w' cb 0 6 ((⟨seqL i 0 1,false,0,false,0,0⟩:Shp).cs v)∧Frm (fun q=>cb≤q) w w') (μ:=fun u _=>200-(intOf u).toNat)
 ·exact ⟨0,.slice none 0 0,rfl,by omega,SlO.nil _ _ _,fun q hq=>(by cases hq),hC,Frm.refl _ _⟩
 ·intros;rename_i w2 hI E1 hE
  obtain ⟨i,v,rfl,hi,hv,nv,hC2,f2⟩:=hI
  unfold f4_l2_t
  by_cases hil:i<24
  ·have z1:((0+i*1:Nat):Int)<24:=oM
   rw [ev_of_run (run_lss _ _ _ _ _ _ w2),decide_eq_true z1]
   unfold cndS
   simp only
   have sl:(seqL i 0 1).length=i:=by simp [seqL]
   have sx:seqL (i+1) 0 1=seqL i 0 1++ [((0+i*1:Nat):Int)]:=by unfold seqL;rw [List.range_succ,List.map_append];rfl
   refine st_app (cb:=cb) (v:=v) (l:=seqL i 0 1) (x:=((0+i*1:Nat):Int)) (sh:=⟨seqL i 0 1,false,0,false,0,0⟩) hv (fun q hq e=>by have:=nv q hq;omega) hC2 oM _ (fun v' w3 f3 hv3 nv3 hC3=> ?_)
   have f3':Frm (fun q=>cb≤q) w2 w3:=f3.mono (fun q e=>by
    rcases e with e|e
    ·omega
    ·have:=nv q e;omega)
   simp (disch:=try exact dZ) only [↓RBp,↓RA,↓reduceIte,Nat.reduceAdd,Nat.reduceMul,Nat.reduceEqDiff,RB,RX,RA2]
   apply hE
   ·refine ⟨i+1,v',?_,by omega,by rw [sx];exact hv3,fun q hq=> ?_,by rw [sx];exact hC3,f2.trans f3' (fun q _ e=>e)⟩
    ·congr 1;push_cast;omega
    ·rcases nv3 q hq with h|h
     ·exact nv q h
     ·have:=f2.size;omega
   ·simp only [intOf];omega
  ·have z1:¬((0+i*1:Nat):Int)<24:=oM
   have hi':i=24:=oM
   subst hi'
   rw [ev_of_run (run_lss _ _ _ _ _ _ w2),decide_eq_false z1]
   unfold cndS
   simp only
   refine st_k1 (k:=9) (v:=v) (m:=m) (hGl w2 f2) (by decide) ?_ hC2 (hy.frm f2 (fun q hq e=>by omega)) hwl hwb K (fun w' e'=>hK w' (f2.ext e'))
   exact rds_of_slo hv (by decide)
theorem st_l3 {cb:Nat} (hGl:∀w',Frm (fun q=>cb≤q) w w'→Glob w') (hC:At w cb 0 6 ((⟨[],false,0,false,0,0⟩:Shp).cs (.slice none 0 0))) (hcb:m≤cb) (hy:RdS m w y (u64L ws)) (hwl:ws.length≤60) (hwb:∀z∈ws,z<18446744073709551616) (K:K1) (hK:∀w',Frm (fun q=>cb≤q) w w'→K (.bool true) w'):
  f4_l3 K (.int .u8 ((6:Nat):Int)) y (.pointer (some ⟨cb,0,none⟩)) (.int .i64 4) w:=by
 have lt:=hC.lt
 apply f4_l3_rule (I:=fun u w'=>∃(i:Nat) (v:Value),u= .int .i64 ((4+i*1:Nat):Int)∧i≤32∧SlO w' 3 1 v (seqL i 4 1).length (i64L (seqL i 4 1))∧(∀q,v.ownBlock=some q→cb<q)∧At w' cb 0 6 ((⟨seqL i 4 1,false,0,false,0,0⟩:Shp).cs v)∧Frm (fun q=>cb≤q) w w') (μ:=fun u _=>200-(intOf u).toNat)
 ·exact ⟨0,.slice none 0 0,rfl,by omega,SlO.nil _ _ _,fun q hq=>(by cases hq),hC,Frm.refl _ _⟩
 ·intros;rename_i w2 hI E1 hE
  obtain ⟨i,v,rfl,hi,hv,nv,hC2,f2⟩:=hI
  unfold f4_l3_t
  by_cases hil:i<32
  ·have z1:((4+i*1:Nat):Int)<36:=oM
   rw [ev_of_run (run_lss _ _ _ _ _ _ w2),decide_eq_true z1]
   unfold cndS
   simp only
   have sl:(seqL i 4 1).length=i:=by simp [seqL]
   have sx:seqL (i+1) 4 1=seqL i 4 1++ [((4+i*1:Nat):Int)]:=by unfold seqL;rw [List.range_succ,List.map_append];rfl
   refine st_app (cb:=cb) (v:=v) (l:=seqL i 4 1) (x:=((4+i*1:Nat):Int)) (sh:=⟨seqL i 4 1,false,0,false,0,0⟩) hv (fun q hq e=>by have:=nv q hq;omega) hC2 oM _ (fun v' w3 f3 hv3 nv3 hC3=> ?_)
   have f3':Frm (fun q=>cb≤q) w2 w3:=f3.mono (fun q e=>by
    rcases e with e|e
    ·omega
    ·have:=nv q e;omega)
   simp (disch:=try exact dZ) only [↓RBp,↓RA,↓reduceIte,Nat.reduceAdd,Nat.reduceMul,Nat.reduceEqDiff,RB,RX,RA2]
   apply hE
   ·refine ⟨i+1,v',?_,by omega,by rw [sx];exact hv3,fun q hq=> ?_,by rw [sx];exact hC3,f2.trans f3' (fun q _ e=>e)⟩
    ·congr 1;push_cast;omega
    ·rcases nv3 q hq with h|h
     ·exact nv q h
     ·have:=f2.size;omega
   ·simp only [intOf];omega
  ·have z1:¬((4+i*1:Nat):Int)<36:=oM
   have hi':i=32:=oM
   subst hi'
   rw [ev_of_run (run_lss _ _ _ _ _ _ w2),decide_eq_false z1]
   unfold cndS
   simp only
   refine st_k1 (k:=6) (v:=v) (m:=m) (hGl w2 f2) (by decide) ?_ hC2 (hy.frm f2 (fun q hq e=>by omega)) hwl hwb K (fun w' e'=>hK w' (f2.ext e'))
   exact rds_of_slo hv (by decide)
theorem st_l4 {cb:Nat} (hGl:∀w',Frm (fun q=>cb≤q) w w'→Glob w') (hC:At w cb 0 6 ((⟨[],false,0,false,0,0⟩:Shp).cs (.slice none 0 0))) (hcb:m≤cb) (hy:RdS m w y (u64L ws)) (hwl:ws.length≤60) (hwb:∀z∈ws,z<18446744073709551616) (K:K1) (hK:∀w',Frm (fun q=>cb≤q) w w'→K (.bool true) w'):
  f4_l4 K (.int .u8 ((12:Nat):Int)) y (.pointer (some ⟨cb,0,none⟩)) (.int .i64 0) w:=by
 have lt:=hC.lt
 apply f4_l4_rule (I:=fun u w'=>∃(i:Nat) (v:Value),u= .int .i64 ((0+i*2:Nat):Int)∧i≤30∧SlO w' 3 1 v (seqL i 0 2).length (i64L (seqL i 0 2))∧(∀q,v.ownBlock=some q→cb<q)∧At w' cb 0 6 ((⟨seqL i 0 2,false,0,false,0,0⟩:Shp).cs v)∧Frm (fun q=>cb≤q) w w') (μ:=fun u _=>200-(intOf u).toNat)
 ·exact ⟨0,.slice none 0 0,rfl,by omega,SlO.nil _ _ _,fun q hq=>(by cases hq),hC,Frm.refl _ _⟩
 ·intros;rename_i w2 hI E1 hE
  obtain ⟨i,v,rfl,hi,hv,nv,hC2,f2⟩:=hI
  unfold f4_l4_t
  by_cases hil:i<30
  ·have z1:((0+i*2:Nat):Int)<60:=oM
   rw [ev_of_run (run_lss _ _ _ _ _ _ w2),decide_eq_true z1]
   unfold cndS
   simp only
   have sl:(seqL i 0 2).length=i:=by simp [seqL]
   have sx:seqL (i+1) 0 2=seqL i 0 2++ [((0+i*2:Nat):Int)]:=by unfold seqL;rw [List.range_succ,List.map_append];rfl
   refine st_app (cb:=cb) (v:=v) (l:=seqL i 0 2) (x:=((0+i*2:Nat):Int)) (sh:=⟨seqL i 0 2,false,0,false,0,0⟩) hv (fun q hq e=>by have:=nv q hq;omega) hC2 oM _ (fun v' w3 f3 hv3 nv3 hC3=> ?_)
   have f3':Frm (fun q=>cb≤q) w2 w3:=f3.mono (fun q e=>by
    rcases e with e|e
    ·omega
    ·have:=nv q e;omega)
   simp (disch:=try exact dZ) only [↓RBp,↓RA,↓reduceIte,Nat.reduceAdd,Nat.reduceMul,Nat.reduceEqDiff,RB,RX,RA2]
   apply hE
   ·refine ⟨i+1,v',?_,by omega,by rw [sx];exact hv3,fun q hq=> ?_,by rw [sx];exact hC3,f2.trans f3' (fun q _ e=>e)⟩
    ·congr 1;push_cast;omega
    ·rcases nv3 q hq with h|h
     ·exact nv q h
     ·have:=f2.size;omega
   ·simp only [intOf];omega
  ·have z1:¬((0+i*2:Nat):Int)<60:=oM
   have hi':i=30:=oM
   subst hi'
   rw [ev_of_run (run_lss _ _ _ _ _ _ w2),decide_eq_false z1]
   unfold cndS
   simp only
   refine st_k1 (k:=12) (v:=v) (m:=m) (hGl w2 f2) (by decide) ?_ hC2 (hy.frm f2 (fun q hq e=>by omega)) hwl hwb K (fun w' e'=>hK w' (f2.ext e'))
   exact rds_of_slo hv (by decide)
theorem law_standard (hG:Glob w) (hk:k<256) (hy:RdS w.heap.size w y (u64L ws)) (hwb:∀z∈ws,z<18446744073709551616) (K:K1) (hK:∀w',Ext w w'→K (.bool true) w'):callS prog 4 #[.int .u8 (k:Int),y] w K:=by
 refine f4_call _ _ _ _ ?_
 unfold f4_t
 rw [pA_eq]
 refine Go.Ev.k_awake hG _ (fun w1 e1=> ?_)
 obtain ⟨a,cap,ey,_⟩:=id hy
 have yl:(u64L ws).length=ws.length:=List.length_map ..
 rw [yl] at ey
 subst ey
 by_cases l1:60<ws.length
 ·have z1:(60:Int)<(ws.length:Int):=oM
  simp (disch:=try exact dZ) only [↓RBp,↓RA,↓reduceIte,Nat.reduceAdd,Nat.reduceMul,Nat.reduceEqDiff,RB,RX,RA2,z1]
  exact Go.Ev.k_awake (hG.ext e1) _ (fun w2 e2=>hK _ (e1.trans e2))
 ·have z1:¬(60:Int)<(ws.length:Int):=oM
  have hwl:ws.length≤60:=oM
  simp (disch:=try exact dZ) only [↓RBp,↓RA,↓reduceIte,Nat.reduceAdd,Nat.reduceMul,Nat.reduceEqDiff,RB,RX,RA2,z1]
  rw [ev_of_run (R3.build_29_ w1),ev_alloc (z:= .agg #[.slice none 0 0,.bool false,.int .i64 0,.bool false,.int .i64 0,.int .i64 0]) (by kernel_rfl)]
  refine k_st (l:= [.slice none 0 0,.bool false,.int .i64 0,.bool false,.int .i64 0,.int .i64 0]) (j:=0) (by kernel_rfl) rfl rfl (At.of (Cells.new w1 [.slice none 0 0,.bool false,.int .i64 0,.bool false,.int .i64 0,.int .i64 0] 29)) (show 0+6≤6 by decide) _ (fun w2 f2 hW=> ?_)
  have e2:Ext w1 w2:=Frm.to_ext (F:=fun q=>q=w1.heap.size) ((Frm.of_ext (Ext.alloc_self w1 _)).trans f2 (fun q _ e=>e)) (fun q hq e=>by omega)
  obtain ⟨cb,hcb⟩:∃cb,cb=w1.heap.size:=⟨_,rfl⟩
  rw [←hcb] at hW ⊢
  have hC:At w2 cb 0 6 ((⟨[],false,0,false,0,0⟩:Shp).cs (.slice none 0 0)):=by
   obtain ⟨a,ty,q1,q2,q3⟩:=hW
   refine ⟨a,ty,q1,q2,fun i hi=> ?_⟩
   rw [q3 i hi]
   rcases i with _|_|_|_|_|_|i<;>first|rfl|omega
  have e02:=e1.trans e2
  have s1:=e1.size
  have hy2:=hy.ext e02
  have hcb':w.heap.size≤cb:=oM
  have up:∀{w3:World},Frm (fun q=>cb≤q) w2 w3→Ext w w3:=fun {w3} f=>Frm.to_ext (F:=fun q=>cb≤q) ((Frm.of_ext e02).trans f (fun q _ e=>e)) (fun q hq e=>by omega)
  have hGb:∀w3,Frm (fun q=>cb≤q) w2 w3→Glob w3:=fun w3 f=>hG.ext (up f)
  have hKb:∀w3,Frm (fun q=>cb≤q) w2 w3→K (.bool true) w3:=fun w3 f=>hK w3 (up f)
  clear hW f2
  have lt:=hC.lt
  have lit:∀(l:List Int) (w3:World) (v:Value),stdS k=⟨l,false,0,false,0,0⟩→w3=w2.alloc (.cells (i64L l).toArray 3)→v= .slice (some ⟨w2.heap.size,0,none⟩) l.length l.length→0<l.length→l.length≤100→
    ev prog (Instr.fieldAt 29 (.pointer (some ⟨cb,0,none⟩)) 0) w3 fun t25 w_2=>stS prog 22 t25 v w_2 fun w_3=>f4_k1 K (.int .u8 (k:Int)) (.slice a ws.length cap) (.pointer (some ⟨cb,0,none⟩)) w_3:=fun l w3 v hS h3 hv h0 hl=>by
   subst h3;subst hv
   have e3:=Ext.alloc_self w2 (.cells (i64L l).toArray 3)
   have hs:SlO (w2.alloc (.cells (i64L l).toArray 3)) 3 1 (.slice (some ⟨w2.heap.size,0,none⟩) l.length l.length) l.length (i64L l):=SlO.lit w2 3 1 l.length (i64L l) (by simp) (Nat.le_trans hl (by decide))
   have hs':SlO (w2.alloc (.cells (i64L l).toArray 3)) 3 1 (.slice (some ⟨w2.heap.size,0,none⟩) l.length l.length) (i64L l).length (i64L l):=by rw [List.length_map];exact hs
   refine st_set (m:=w.heap.size) (l:=l) hS (hGb _ (Frm.of_ext e3)) hk (rds_of_slo hs' (by rw [List.length_map];exact h0)) (fun q hq e=> ?_) (hC.ext e3) hcb' (hy2.ext e3) hwl hwb (fun w' f'=>hGb w' (((Frm.of_ext e3).trans (F:=fun q=>cb≤q) f' (fun q _ e=>by omega)))) K (fun w' f'=>hKb w' (((Frm.of_ext e3).trans (F:=fun q=>cb≤q) f' (fun q _ e=>by omega))))
   have:w2.heap.size=q:=by simpa [Value.ownBlock] using hq
   omega
  have none':stdS k=⟨[],false,0,false,0,0⟩→f4_k1 K (.int .u8 (k:Int)) (.slice a ws.length cap) (.pointer (some ⟨cb,0,none⟩)) w2:=fun hS=>
   st_k1 (k:=k) (v:= .slice none 0 0) (m:=w.heap.size) (hGb w2 (Frm.refl _ _)) hk (by rw [hS];exact RdS.nil _ _) (by rw [hS];exact hC) hy2 hwl hwb K (fun w' e'=>hKb w' (Frm.of_ext e'))
  by_cases h1:k=1
  ·subst h1
   simp (disch:=try exact dZ) only [↓RBp,↓RA,↓reduceIte,Nat.reduceAdd,Nat.reduceMul,Nat.reduceEqDiff,RB,RX,RA2]
   rw [f4_k2_eq];unfold f4_k2_t
   simp (disch:=try exact dZ) only [↓RBp,↓RA,↓reduceIte,Nat.reduceAdd,Nat.reduceMul,Nat.reduceEqDiff,RB,RX,RA2]
   rw [ev_of_run (R3.bs_22_1 _ rfl w2)]
   exact lit [0] _ _ rfl rfl rfl (by decide) (by decide)
  by_cases h4:k=4
  ·subst h4
   simp (disch:=try exact dZ) only [↓RBp,↓RA,↓reduceIte,Nat.reduceAdd,Nat.reduceMul,Nat.reduceEqDiff,RB,RX,RA2]
   rw [f4_k2_eq];unfold f4_k2_t
   simp (disch:=try exact dZ) only [↓RBp,↓RA,↓reduceIte,Nat.reduceAdd,Nat.reduceMul,Nat.reduceEqDiff,RB,RX,RA2]
   rw [ev_of_run (R3.bs_22_1 _ rfl w2)]
   exact lit [0] _ _ rfl rfl rfl (by decide) (by decide)
  by_cases h2:k=2
  ·subst h2
   simp (disch:=try exact dZ) only [↓RBp,↓RA,↓reduceIte,Nat.reduceAdd,Nat.reduceMul,Nat.reduceEqDiff,RB,RX,RA2]
   rw [f4_k2_eq];unfold f4_k2_t
   simp (disch:=try exact dZ) only [↓RBp,↓RA,↓reduceIte,Nat.reduceAdd,Nat.reduceMul,Nat.reduceEqDiff,RB,RX,RA2]
   rw [ev_of_run (R3.bs_22_1 _ rfl w2)]
   exact lit [1] _ _ rfl rfl rfl (by decide) (by decide)
  by_cases h13:k=13
  ·subst h13
   simp (disch:=try exact dZ) only [↓RBp,↓RA,↓reduceIte,Nat.reduceAdd,Nat.reduceMul,Nat.reduceEqDiff,RB,RX,RA2]
   rw [f4_k2_eq];unfold f4_k2_t
   simp (disch:=try exact dZ) only [↓RBp,↓RA,↓reduceIte,Nat.reduceAdd,Nat.reduceMul,Nat.reduceEqDiff,RB,RX,RA2]
   rw [f4_k4_eq];unfold f4_k4_t
   simp (disch:=try exact dZ) only [↓RBp,↓RA,↓reduceIte,Nat.reduceAdd,Nat.reduceMul,Nat.reduceEqDiff,RB,RX,RA2]
   rw [ev_of_run (R3.bs_22_1 _ rfl w2)]
   have e3:=Ext.alloc_self w2 (.cells #[.int .i64 1] 3)
   rw [ev_of_run (R3.build_29_0_3_5 _ _ _ rfl rfl rfl _)]
   refine k_st (l:= [.slice (some ⟨w2.heap.size,0,none⟩) 1 1,.bool false,.int .i64 0,.bool true,.int .i64 0,.int .i64 16]) (j:=0) (by kernel_rfl) rfl rfl (hC.ext e3) (show 0+6≤6 by decide) _ (fun w4 f4 hC4=> ?_)
   have hs:SlO (w2.alloc (.cells (i64L [1]).toArray 3)) 3 1 (.slice (some ⟨w2.heap.size,0,none⟩) 1 1) 1 (i64L [1]):=SlO.lit w2 3 1 1 (i64L [1]) (by simp) (by decide)
   have f24:Frm (fun q=>cb≤q) w2 w4:=(Frm.of_ext e3).trans f4 (fun q _ e=>by omega)
   refine st_k1 (v:= .slice (some ⟨w2.heap.size,0,none⟩) 1 1) (m:=w.heap.size) (hGb w4 f24) (by decide) (rds_mono (rds_own (rds_of_slo (l:=i64L [1]) hs (by decide)) f4 (fun q hq e=> ?_)) f4.size) ?_ (hy2.frm f24 (fun q hq e=>by omega)) hwl hwb K (fun w' e'=>hKb w' (f24.ext e'))
   ·have:w2.heap.size=q:=by simpa [Value.ownBlock] using hq
    omega
   ·obtain ⟨a,ty,q1,q2,q3⟩:=hC4
    refine ⟨a,ty,q1,q2,fun i hi=> ?_⟩
    rw [q3 i hi]
    rcases i with _|_|_|_|_|_|i<;>first|rfl|omega
  by_cases h3:k=3
  ·subst h3
   simp (disch:=try exact dZ) only [↓RBp,↓RA,↓reduceIte,Nat.reduceAdd,Nat.reduceMul,Nat.reduceEqDiff,RB,RX,RA2]
   rw [f4_k2_eq];unfold f4_k2_t
   simp (disch:=try exact dZ) only [↓RBp,↓RA,↓reduceIte,Nat.reduceAdd,Nat.reduceMul,Nat.reduceEqDiff,RB,RX,RA2]
   rw [f4_k4_eq];unfold f4_k4_t
   simp (disch:=try exact dZ) only [↓RBp,↓RA,↓reduceIte,Nat.reduceAdd,Nat.reduceMul,Nat.reduceEqDiff,RB,RX,RA2]
   rw [ev_of_run (R3.bs_22_1 _ rfl w2)]
   have e3:=Ext.alloc_self w2 (.cells #[.int .i64 1] 3)
   rw [ev_of_run (R3.build_29_0_3_5 _ _ _ rfl rfl rfl _)]
   refine k_st (l:= [.slice (some ⟨w2.heap.size,0,none⟩) 1 1,.bool false,.int .i64 0,.bool true,.int .i64 0,.int .i64 16]) (j:=0) (by kernel_rfl) rfl rfl (hC.ext e3) (show 0+6≤6 by decide) _ (fun w4 f4 hC4=> ?_)
   have hs:SlO (w2.alloc (.cells (i64L [1]).toArray 3)) 3 1 (.slice (some ⟨w2.heap.size,0,none⟩) 1 1) 1 (i64L [1]):=SlO.lit w2 3 1 1 (i64L [1]) (by simp) (by decide)
   have f24:Frm (fun q=>cb≤q) w2 w4:=(Frm.of_ext e3).trans f4 (fun q _ e=>by omega)
   refine st_k1 (v:= .slice (some ⟨w2.heap.size,0,none⟩) 1 1) (m:=w.heap.size) (hGb w4 f24) (by decide) (rds_mono (rds_own (rds_of_slo (l:=i64L [1]) hs (by decide)) f4 (fun q hq e=> ?_)) f4.size) ?_ (hy2.frm f24 (fun q hq e=>by omega)) hwl hwb K (fun w' e'=>hKb w' (f24.ext e'))
   ·have:w2.heap.size=q:=by simpa [Value.ownBlock] using hq
    omega
   ·obtain ⟨a,ty,q1,q2,q3⟩:=hC4
    refine ⟨a,ty,q1,q2,fun i hi=> ?_⟩
    rw [q3 i hi]
    rcases i with _|_|_|_|_|_|i<;>first|rfl|omega
  by_cases h7:k=7
  ·subst h7
   simp (disch:=try exact dZ) only [↓RBp,↓RA,↓reduceIte,Nat.reduceAdd,Nat.reduceMul,Nat.reduceEqDiff,RB,RX,RA2]
   rw [f4_k2_eq];unfold f4_k2_t
   simp (disch:=try exact dZ) only [↓RBp,↓RA,↓reduceIte,Nat.reduceAdd,Nat.reduceMul,Nat.reduceEqDiff,RB,RX,RA2]
   rw [f4_k4_eq];unfold f4_k4_t
   simp (disch:=try exact dZ) only [↓RBp,↓RA,↓reduceIte,Nat.reduceAdd,Nat.reduceMul,Nat.reduceEqDiff,RB,RX,RA2]
   rw [ev_of_run (R3.bs_22_2 _ _ rfl rfl w2)]
   exact lit [1,2] _ _ rfl rfl rfl (by decide) (by decide)
  by_cases h9:k=9
  ·subst h9
   simp (disch:=try exact dZ) only [↓RBp,↓RA,↓reduceIte,Nat.reduceAdd,Nat.reduceMul,Nat.reduceEqDiff,RB,RX,RA2]
   rw [f4_k2_eq];unfold f4_k2_t
   simp (disch:=try exact dZ) only [↓RBp,↓RA,↓reduceIte,Nat.reduceAdd,Nat.reduceMul,Nat.reduceEqDiff,RB,RX,RA2]
   rw [f4_k4_eq];unfold f4_k4_t
   simp (disch:=try exact dZ) only [↓RBp,↓RA,↓reduceIte,Nat.reduceAdd,Nat.reduceMul,Nat.reduceEqDiff,RB,RX,RA2]
   exact st_l2 (w:=w2) (m:=w.heap.size) hGb hC hcb' hy2 hwl hwb K hKb
  by_cases h10:k=10
  ·subst h10
   simp (disch:=try exact dZ) only [↓RBp,↓RA,↓reduceIte,Nat.reduceAdd,Nat.reduceMul,Nat.reduceEqDiff,RB,RX,RA2]
   rw [f4_k2_eq];unfold f4_k2_t
   simp (disch:=try exact dZ) only [↓RBp,↓RA,↓reduceIte,Nat.reduceAdd,Nat.reduceMul,Nat.reduceEqDiff,RB,RX,RA2]
   rw [f4_k4_eq];unfold f4_k4_t
   simp (disch:=try exact dZ) only [↓RBp,↓RA,↓reduceIte,Nat.reduceAdd,Nat.reduceMul,Nat.reduceEqDiff,RB,RX,RA2]
   rw [ev_of_run (R3.bs_22_3 _ _ _ rfl rfl rfl w2)]
   exact lit [0,1,2] _ _ rfl rfl rfl (by decide) (by decide)
  by_cases h5:k=5
  ·subst h5
   simp (disch:=try exact dZ) only [↓RBp,↓RA,↓reduceIte,Nat.reduceAdd,Nat.reduceMul,Nat.reduceEqDiff,RB,RX,RA2]
   rw [f4_k2_eq];unfold f4_k2_t
   simp (disch:=try exact dZ) only [↓RBp,↓RA,↓reduceIte,Nat.reduceAdd,Nat.reduceMul,Nat.reduceEqDiff,RB,RX,RA2]
   rw [f4_k4_eq];unfold f4_k4_t
   simp (disch:=try exact dZ) only [↓RBp,↓RA,↓reduceIte,Nat.reduceAdd,Nat.reduceMul,Nat.reduceEqDiff,RB,RX,RA2]
   rw [ev_of_run (R3.bs_22_1 _ rfl w2)]
   exact lit [16] _ _ rfl rfl rfl (by decide) (by decide)
  by_cases h6:k=6
  ·subst h6
   simp (disch:=try exact dZ) only [↓RBp,↓RA,↓reduceIte,Nat.reduceAdd,Nat.reduceMul,Nat.reduceEqDiff,RB,RX,RA2]
   rw [f4_k2_eq];unfold f4_k2_t
   simp (disch:=try exact dZ) only [↓RBp,↓RA,↓reduceIte,Nat.reduceAdd,Nat.reduceMul,Nat.reduceEqDiff,RB,RX,RA2]
   rw [f4_k4_eq];unfold f4_k4_t
   simp (disch:=try exact dZ) only [↓RBp,↓RA,↓reduceIte,Nat.reduceAdd,Nat.reduceMul,Nat.reduceEqDiff,RB,RX,RA2]
   exact st_l3 (w:=w2) (m:=w.heap.size) hGb hC hcb' hy2 hwl hwb K hKb
  by_cases h12:k=12
  ·subst h12
   simp (disch:=try exact dZ) only [↓RBp,↓RA,↓reduceIte,Nat.reduceAdd,Nat.reduceMul,Nat.reduceEqDiff,RB,RX,RA2]
   rw [f4_k2_eq];unfold f4_k2_t
   simp (disch:=try exact dZ) only [↓RBp,↓RA,↓reduceIte,Nat.reduceAdd,Nat.reduceMul,Nat.reduceEqDiff,RB,RX,RA2]
   rw [f4_k4_eq];unfold f4_k4_t
   simp (disch:=try exact dZ) only [↓RBp,↓RA,↓reduceIte,Nat.reduceAdd,Nat.reduceMul,Nat.reduceEqDiff,RB,RX,RA2]
   exact st_l4 (w:=w2) (m:=w.heap.size) hGb hC hcb' hy2 hwl hwb K hKb
  simp (disch:=try exact dZ) only [↓RBp,↓RA,↓reduceIte,Nat.reduceAdd,Nat.reduceMul,Nat.reduceEqDiff,RB,RX,RA2,h1,h4,h2,h13,h3,h7,h9,h10,h5,h6,h12]
  rw [f4_k2_eq];unfold f4_k2_t
  simp (disch:=try exact dZ) only [↓RBp,↓RA,↓reduceIte,Nat.reduceAdd,Nat.reduceMul,Nat.reduceEqDiff,RB,RX,RA2,h1,h4,h2,h13,h3,h7,h9,h10,h5,h6,h12]
  rw [f4_k4_eq];unfold f4_k4_t
  simp (disch:=try exact dZ) only [↓RBp,↓RA,↓reduceIte,Nat.reduceAdd,Nat.reduceMul,Nat.reduceEqDiff,RB,RX,RA2,h1,h4,h2,h13,h3,h7,h9,h10,h5,h6,h12]
  refine none' ?_
  unfold stdS
  split<;>first|rfl|omega
end
end Go.Proofs.YtjegifbmbianiaaGreatDoor
namespace Go.Proofs.YtjegifbmbianiaaGreatDoor
open Go
theorem noGoes:prog.funcs.any Func.goes=false:=by kernel_rfl
theorem goes_false {P:Program} (h:P.funcs.any Func.goes=false) (c:OpenClaim) (hs:c.start= .entering):false=c.goesBy P:=by
 have hf:∀g:Nat,(P.funcs[g]?).any Func.goes=false:=fun g=>by
  cases e:P.funcs[g]? with
  |none=>rfl
  |some fn=>
   have hm:=Array.mem_of_getElem? e
   rw [Array.any_eq_false'] at h
   have:=h fn hm
   simpa using this
 unfold OpenClaim.goesBy Program.goesAt Program.goesFrom
 rw [hs]
 have:(P.funcNamed c.func).any P.goes=false:=by
  cases P.funcNamed c.func with
  |none=>rfl
  |some f=>
   show P.goes f=false
   unfold Program.goes
   rw [h,Bool.and_false,Bool.or_false,List.any_eq_false]
   intro g _
   rw [hf g];exact Bool.false_ne_true
 rw [this];rfl
theorem rxStops:(prog.stops== [])=true:=by kernel_rfl
theorem rxKnobs:(prog.stopKnobs== [])=true:=by kernel_rfl
theorem rxLooks:true=prog.looks []:=by kernel_rfl
end Go.Proofs.YtjegifbmbianiaaGreatDoor
