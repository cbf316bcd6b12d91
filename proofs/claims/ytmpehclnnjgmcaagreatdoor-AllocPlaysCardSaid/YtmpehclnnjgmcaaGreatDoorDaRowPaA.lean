/-
  Part A of the proof in YtmpehclnnjgmcaaGreatDoorDaRowPa.
-/
import Derived.Test.YtmpehclnnjgmcaaGreatDoorDa3
import Derived.Test.YtmpehclnnjgmcaaGreatDoorDa1
import Derived.Test.YtmpehclnnjgmcaaGreatDoorDa6
import Derived.Test.YtmpehclnnjgmcaaGreatDoorDa2
set_option linter.unusedSimpArgs false
set_option linter.unusedVariables false
set_option maxHeartbeats 20000000
set_option maxRecDepth 100000
set_option linter.defProp false
open Go.Proofs.Tryz (prog)
open Go.RowKit (intOf)
open Go renaming Value->aa,World->an
namespace Go.Proofs.YtmpehclnnjgmcaaGreatDoor
open Go Go.Sh
structure Wm (w:an) (b o:Nat) (W:Nat->Nat):Prop where
 cell:∀{i:Nat},i<256->w.cell? ⟨b,o+i,none⟩=some (u64 (W i))
 frz:∀i,w.frozen? ⟨b,i,none⟩=false
section
variable {w w':an} {W:Nat->Nat} {b ob cap:Nat} {c:Int}
end
def fQ (m:Nat) (w:an) (v:aa) (al:List (List Int×List Nat×List Int)):Prop:=∃a cap,v= .slice a al.length cap/\∀j x,al[j]? =some x->∃b o s1 s2 s3,a=some ⟨b,o,none⟩/\b<m/\w.cell? ⟨b,o+j*3,none⟩=some s1/\w.cell? ⟨b,o+j*3+1,none⟩=some s2/\w.cell? ⟨b,o+j*3+2,none⟩=some s3/\RdS m w s1 (aX x.1)/\RdS m w s2 (u8L x.2.1)/\RdS m w s3 (aX x.2.2)
section
variable {w w':an} {Y:Lay} {D:DS} {l m:Nat} {v:aa} {al:List (List Int×List Nat×List Int)}
def fQ.ext (h:fQ m w v al) (e:Ext w w'):fQ m w' v al:=by
 obtain ⟨a,cap,hv,h⟩:=h;refine ⟨a,cap,hv,λj x hx=> ?_⟩;obtain ⟨b,o,s1,s2,s3,ha,hb,c1,c2,c3,r1,r2,r3⟩:=h j x hx;exact ⟨b,o,s1,s2,s3,ha,hb,e.cell_some c1,e.cell_some c2,e.cell_some c3,r1.ext e,r2.ext e,r3.ext e⟩
def wdL (W:Nat->Nat) (n:Nat):List aa:=(List.range n).map λj=>u64 (W j)
def il {W:Nat->Nat} {n j:Nat} (h:j<n):(wdL W n)[j]? =some (u64 (W j)):=by simp [wdL,h]
def Wm.of_sl {W:Nat->Nat} {b o n cap:Nat} (h:SlO w 26 1 (.slice (some ⟨b,o,none⟩) n cap) 256 (wdL W 256)):Wm w b o W:=⟨λhi=>h.cell rfl (il hi),λi=>h.frz rfl i⟩
end
noncomputable section
variable (K:K1) (x0 x1 x2 x3 x4 x5 x6 x7 x8 x9 x10 x11 x12 x13 x14 x15 x16 x17 x18 x19 x20 x21 x22 x23 x24 x25:aa) (w:an)
noncomputable def ah8:=uD Tryz.f5 (.s .o (.s .o (.s .o (.s .o (.x 32 (.s .o (.b (.l [25] 25165856 2198989701264 .o))) .o)))))
abbrev ah9:=aU prog Tryz.f5.results.toList
def PR:KF:=kO 32 (cP (pw ah8 5 31) (ah9 K) (ah9 K) nX)
def agx:Prop:=PR K (fy 47 32 [x5]) w
def ab3:Prop:=aH [25] 25165856 (λE=>cP (pw ah8 8 47) E (ah9 K) (exB 0 (PR K) nX)) (fy 47 58720288 [x5,x23,x24,x25]) w
def PS:Prop:=
 nS x5 w λa w=>
 fA 38 a 1 w λb w=>
 lD 31 b w λc w=>
 cL 28 (pA #[c]) w λd w=>
 bC .eql 28 45 0 d w λe w=>
 K e w
def ab4:agx K x5 w=PS K x5 w:=aJ λσ=>kR
def Ez (E1:VP1):Prop:=
 bT .lss 3 25 24 x25 x24 w λa w=>
 af a (
 iA 49 x23 x25 w λb w=>
 lD 53 b w λc w=>
 ev prog (Instr.alloc 53 true (.tuple #[])) w λd w=>
 sD 53 d c w λw=>
 lD 53 d w λe w=>
 cL 26 (pA #[e]) w λf w=>
 af f (
 K (.bool true) w) (
 lD 53 d w λg w=>
 cL 27 (pA #[x5,g]) w λh w=>
 ev prog (Op.unary .not h) w λi w=>
 gV i false x5 w λj w=>
 gC i false 25 (pA #[j]) w λl w=>
 gd i false (λk=>ev prog (Op.unary .not l) w k) w λm w=>
 au i (.bool true) m w λn w=>
 af n (
 K (.bool false) w) (
 bC .add 3 25 1 x25 w λo w=>
 E1 o w))) (
 agx K x5 w)
def Mz (I:VP1) (μ:M1) (h0:I x25 w) (hr:∀x25 w,I x25 w->∀E1,Q1 I μ x25 w E1->Ez K x5 x23 x24 x25 w E1):ab3 K x5 x23 x24 x25 w:=⟨I,μ,h0,λσ w hI E hE=>cast kR (hr (σ 25) w hI E hE)⟩
def ajn:Prop:=
 cL 13 (pA #[]) w λa w=>
 ev prog (Op.unary .not a) w λb w=>
 gV b false x1 w λc w=>
 gd b false (λk=>lN 49 c w k) w λd w=>
 gd b false (λk=>bC .gtr 3 12 24 d w k) w λe w=>
 au b (.bool true) e w λf w=>
 af f (
 cL 13 (pA #[]) w λg w=>
 K g w) (
 cV 5 3 x0 w λh w=>
 bC .rem 3 17 6 h w λi w=>
 bM .add 3 (ci 2) (.tmp 18) (.int .i64 2) i w λj w=>
 cL 14 (pA #[j]) w λl w=>
 bM .eql 23 (.tmp 21) (.const (.pointer none)) l (.pointer none) w λm w=>
 af m (
 K (.bool false) w) (
 lN 49 x1 w λn w=>
 ab3 K l x1 n (.int .i64 0) w))
def aew:=cA2 Tryz.func5 ah8.2 ajn
end
section
variable {w0 w w1 w':an} {Y Y':Lay} {D D2 D3:DS} {H:HL} {n k i p q kd Wb b m ab:Nat} {f f2 f3:Idx} {R M L:List Nat} {lv hd dd v va vb tv dv z:aa} {RL LL DD:List (Nat×Int)} {x:eU}
def ajo {al:List eU} {sv:aa} {mm:Nat} (h:PlA w0 w Wb H n 0) (p:H.av=none) (s:H.lk=false) (g:n<=120) (q:eE mm w0 sv al) (ok:∀x∈al,dO x) (u:al.length<=60) (K:K1) (hK:∀w',Ext w0 w'->K (.bool true) w'):
  ab3 K (.pointer (some ⟨Wb,0,none⟩)) sv (.int .i64 (al.length:Int)) (.int .i64 0) w:=by
 apply Mz (I:=λz w'=>∃j:Nat,z= .int .i64 (j:Int)/\j<=al.length/\PlA w0 w' Wb H n j) (μ:=λz _=>al.length-(intOf z).toNat)
 ·exact ⟨0,rfl,by omega,h⟩
 ·intros;rename_i z w1 hI E1 hE;obtain ⟨j,rfl,hj,Y,D,f,R,DD,lv,hd,dd,a,b1,b2,b3⟩:=hI;have es:(j:Int)+1=((j+1:Nat):Int):=oM;have c:=a.m.L.hp.ex;obtain ⟨sa,sc,rfl,hs⟩:=q.ext c;by_cases e:j<al.length
  ·have hx:al[j]? =some al[j]:=List.getElem?_eq_getElem e;have r:=ok _ (List.getElem_mem e);generalize al[j]=x at*;obtain ⟨b,o,tv,dv,rfl,hb,hc,r1,r2⟩:=hs j x hx;have x0:w1.cell? ⟨b,o+j*6,none⟩=some (.int .u8 (x.kd:Int)):=hc 0 oM;have x1:w1.cell? ⟨b,o+j*6+1,none⟩=some (.int .i64 x.th):=hc 1 oM;have x2:w1.cell? ⟨b,o+j*6+2,none⟩=some (.int .i64 x.wd):=hc 2 oM;have x3:w1.cell? ⟨b,o+j*6+3,none⟩=some (.int .u8 (x.mk:Int)):=hc 3 oM;have x4:w1.cell? ⟨b,o+j*6+4,none⟩=some tv:=hc 4 oM;have x5:w1.cell? ⟨b,o+j*6+5,none⟩=some dv:=hc 5 oM;have l:=r1;have k:=r2;obtain ⟨ta,tc,rfl⟩:=dg r1;obtain ⟨da,dc,rfl⟩:=dg r2;have eB:=Ext.alloc_self w1 (.cells #[.int .u8 (x.kd:Int),.int .i64 x.th,.int .i64 x.wd,.int .u8 (x.mk:Int),.slice ta x.L.length tc,.slice da x.M.length dc] 53);have cB:ah (w1.alloc (.cells #[.int .u8 (x.kd:Int),.int .i64 x.th,.int .i64 x.wd,.int .u8 (x.mk:Int),.slice ta x.L.length tc,.slice da x.M.length dc] 53)) w1.heap.size 53 6 (apF x (.slice ta x.L.length tc) (.slice da x.M.length dc)):=ah.new w1 [.int .u8 (x.kd:Int),.int .i64 x.th,.int .i64 x.wd,.int .u8 (x.mk:Int),.slice ta x.L.length tc,.slice da x.M.length dc] 53;unfold Ez;simp (disch:=try exact dZ) only [↓RBp,↓RA,↓reduceIte,Nat.reduceAdd,Nat.reduceMul,Nat.reduceEqDiff,RB,RX,RA2,x0,x1,x2,x3,x4,x5,List.getElem?_toArray,List.getElem?_cons_succ,List.getElem?_cons_zero,Option.isSome_some,Bool.and_self,List.setIfInBounds_toArray,List.set_cons_succ,List.set_cons_zero];refine Ex _ (λ_ w2 e2=> ?_) (λg1 g2 w2 e2=> ?_) rfl rfl rfl rfl
   ·refine zS0 ?_;exact hK w2 (c.trans (eB.trans e2))
   ·have c2:=cB.ext e2;have d0:w2.cell? ⟨w1.heap.size,0,none⟩=some (.int .u8 (x.kd:Int)):=c2.cell (i:=0) oM;have d1:w2.cell? ⟨w1.heap.size,1,none⟩=some (.int .i64 x.th):=c2.cell (i:=1) oM;have d2:w2.cell? ⟨w1.heap.size,2,none⟩=some (.int .i64 x.wd):=c2.cell (i:=2) oM;have d3:w2.cell? ⟨w1.heap.size,3,none⟩=some (.int .u8 (x.mk:Int)):=c2.cell (i:=3) oM;have d4:w2.cell? ⟨w1.heap.size,4,none⟩=some (.slice ta x.L.length tc):=c2.cell (i:=4) oM;have d5:w2.cell? ⟨w1.heap.size,5,none⟩=some (.slice da x.M.length dc):=c2.cell (i:=5) oM;have d:=eB.trans e2;refine zS6 d0 d1 d2 d3 d4 d5 ?_;refine Ey (a.ext d) p s r (l.ext d) (k.ext d) (λ_=>⟨g1,g2⟩) g oM oM oM _ (λY' D' f' R' DD' lv' hd' dd' w3 P pd=> ?_);have px:=pd.ex;have pr:=pd.rl;have v:=pd.dl;refine zS0 ?_;refine gU P oM oM _ (λw4 e4=> ?_);refine zS1 es ?_;apply hE
    ·exact ⟨j+1,rfl,by omega,Y',D',f',R',DD',lv',hd',dd',P.ext e4,by omega,by omega,by omega⟩
    ·simp only [intOf];omega
  ·obtain rfl:j=al.length:=oM;have q1:=(aE a.m.L.bx).2.1;have lW:=a.m.L.bx.lt;have t:=a.m.L.hp.erE;unfold Ez;refine zS0 ?_;rw [ab4];unfold PS;refine jm q1 t ?_;exact hK w1 c
def MA {al:List eU} {sv:aa} {a:Nat} (hG:bt w) (ha:a<256) (c:eE w.heap.size w sv al) (ok:∀x∈al,dO x) (K:K1) (hK:∀w',Ext w w'->K (.bool true) w'):
  ae prog 5 #[.int .u8 (a:Int),sv] w K:=by
 have e1:(a:Int)%6=((a%6:Nat):Int):=oM;have e2:2+((a%6:Nat):Int)=((2+a%6:Nat):Int):=oM;have hA:=c;obtain ⟨sa,sc,rfl,_⟩:=c;refine aew _ _ _ _ ?_;unfold ajn;refine dA hG _ (λw1 h1=> ?_);have d:=hG.ext h1;by_cases hl:al.length<=24
 ·have b:¬((24:Int)<(al.length:Int)):=oM;refine zS3 b e1 e2 ?_;refine jS (n:=2+a%6) d oM oM _ (λWb H Y w2 g i f L=> ?_);have hb:=qk (n:=2+a%6) oM;have hR:PlA w1 w2 Wb H (2+a%6) 0:=⟨Y,hbD (2+a%6),opF (hbD (2+a%6)) 26,[],[],.slice none 0 0,.slice none 0 0,.slice none 0 0,jU oM L,by have:=hb.2.2.1;omega,by simp,by simp⟩;have h:=ajo hR g f oM (hA.ext h1) ok oM K (λw' e=>hK w' (h1.trans e));refine zS0 ?_;exact h
 ·have b:(24:Int)<(al.length:Int):=oM;refine zS1 b ?_;refine dA (d.ext xZ) _ (λw2 h2=> ?_);exact hK w2 (h1.trans (Ext.trans xZ h2))
end
end Go.Proofs.YtmpehclnnjgmcaaGreatDoor
