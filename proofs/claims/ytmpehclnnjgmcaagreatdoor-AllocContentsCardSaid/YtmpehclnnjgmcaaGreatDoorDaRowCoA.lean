/-
  Part A of the proof in YtmpehclnnjgmcaaGreatDoorDaRowCo.
-/
import Derived.Test.YtmpehclnnjgmcaaGreatDoorDa3
import Derived.Test.YtmpehclnnjgmcaaGreatDoorDa6
import Derived.Test.YtmpehclnnjgmcaaGreatDoorDa1
import Derived.Test.YtmpehclnnjgmcaaGreatDoorDa2
set_option linter.unusedSimpArgs false
set_option linter.unusedVariables false
set_option maxHeartbeats 20000000
set_option maxRecDepth 100000
set_option linter.defProp false
open Go.Proofs.Tryz (prog)
open Go.RowKit (intOf)
open Go renaming World->an,Value->aB
open List renaming getElem?_eq_getElem->aa,getElem?_map->a0
open Nat renaming le_refl->aA
namespace Go.Proofs.YtmpehclnnjgmcaaGreatDoor
open Go Go.Sh
structure Wm (w:an) (b o:Nat) (W:Nat->Nat):Prop where
 cell:∀{i:Nat},i<256->w.cell? ⟨b,o+i,none⟩=some (u64 (W i))
 frz:∀i,w.frozen? ⟨b,i,none⟩=false
section
variable {w w':an} {W:Nat->Nat} {b ob cap:Nat} {c:Int}
end
def fQ (m:Nat) (w:an) (v:aB) (al:List (List Int×List Nat×List Int)):Prop:=∃a cap,v= .slice a al.length cap/\∀j x,al[j]? =some x->∃b o s1 s2 s3,a=some ⟨b,o,none⟩/\b<m/\w.cell? ⟨b,o+j*3,none⟩=some s1/\w.cell? ⟨b,o+j*3+1,none⟩=some s2/\w.cell? ⟨b,o+j*3+2,none⟩=some s3/\RdS m w s1 (aX x.1)/\RdS m w s2 (u8L x.2.1)/\RdS m w s3 (aX x.2.2)
section
variable {w w':an} {Y:Lay} {D:DS} {l m:Nat} {v:aB} {al:List (List Int×List Nat×List Int)}
def fQ.ext (h:fQ m w v al) (e:Ext w w'):fQ m w' v al:=by
 obtain ⟨a,cap,hv,h⟩:=h;refine ⟨a,cap,hv,λj x hx=> ?_⟩;obtain ⟨b,o,s1,s2,s3,ha,hb,c1,c2,c3,r1,r2,r3⟩:=h j x hx;exact ⟨b,o,s1,s2,s3,ha,hb,e.cell_some c1,e.cell_some c2,e.cell_some c3,r1.ext e,r2.ext e,r3.ext e⟩
def wdL (W:Nat->Nat) (n:Nat):List aB:=(List.range n).map λj=>u64 (W j)
def il {W:Nat->Nat} {n j:Nat} (h:j<n):(wdL W n)[j]? =some (u64 (W j)):=by simp [wdL,h]
def Wm.of_sl {W:Nat->Nat} {b o n cap:Nat} (h:SlO w 26 1 (.slice (some ⟨b,o,none⟩) n cap) 256 (wdL W 256)):Wm w b o W:=⟨λhi=>h.cell rfl (il hi),λi=>h.frz rfl i⟩
end
section
variable {w0 w w':an} {Y Y':Lay} {D D':DS} {H:HL} {n k i j p v Wb:Nat} {f:Idx} {R:List Nat} {lv hd dd:aB} {DD:List (Nat×Int)} {c:Int}
structure HdE (D D':DS) (f:Idx) (n:Nat):Prop where
 on:On D'
 gd:aM D'
 nn:D'.n=D.n
 w:∀k,k<n->(∀x,x<8->wd D' (26+32*k) x=wd D (26+32*k) x)/\∀i:Nat,(i:Int)<perS (f k).1->0<=(f k).1->wd D' (26+32*k) (offN (f k).1 i)=wd D (26+32*k) (offN (f k).1 i)
def HdE.rg (e:HdE D D' f n) (h:RgS D 26 n f):RgS D' 26 n f:=
 ⟨e.on,e.gd,by rw [e.nn];exact h.lt,λj hj=>by rw [(e.w j hj).1 0 oM];exact h.ag j hj,λj hj h0=>(h.sn j hj h0).congrH h0 (h.cls hj).1 (e.w j hj).1 (λi' a=>(e.w j hj).2 i' a h0)⟩
def HdE.rsv (e:HdE D D' f n) (h:Rsv D f n p):Rsv D' f n p:=by
 obtain ⟨k,i,kd,a1,a2,a3,a4,a5,a6⟩:=h;have ew:=(e.w k a1).2 i a3 a2;exact ⟨k,i,kd,a1,a2,a3,by rw [ew];exact a4,by rw [ew];exact a5,a6⟩
def HdE.liv (e:HdE D D' f n):Liv D' f n p↔Liv D f n p:=by
 constructor
 ·rintro ⟨k,i,a1,a2,a3,a4⟩;have ew:=(e.w k a1).2 i a3 a2;rw [ew] at a4;exact ⟨k,i,a1,a2,a3,a4⟩
 ·rintro ⟨k,i,a1,a2,a3,a4⟩;have ew:=(e.w k a1).2 i a3 a2;rw [<-ew] at a4;exact ⟨k,i,a1,a2,a3,a4⟩
def HdE.livN (e:HdE D D' f n) (rg:RgS D 26 n f) (nn:D.n<=4096):livN D' f n=livN D f n:=
 kU (dB (e.rg rg) (by rw [e.nn];exact nn) n (aA _)) (dB rg nn n (aA _)) (λx=>by rw [bn (e.rg rg),bn rg];exact e.liv)
def PlS.hdE (h:PlS w0 w Wb lv hd dd Y D H n f R DD) (s:Stp w Y w' Y' D') (e:HdE D D' f n) (er:∀k,k<8->D'.err k=0) (a:D'.cur 0=0):PlS w0 w' Wb lv hd dd Y' D' H n f R DD:=by
 have rg:=h.m.L.hp.rg;have nn:=h.m.nn;have hp:=h.m.L.hp.step s e.nn (e.rg rg) (Q':=Rsv D' f n) (λp hp=>e.rsv (h.m.L.hp.rv p hp)) er a;have m:=h.m.st (HSt.of_stp H s) hp;refine ⟨?_,h.gn.same (λk hk h0 i hi=>(e.w k hk).2 i hi h0) (λk hk=>(e.w k hk).1 0 oM),λx hx=>(h.dp x hx).same (λk hk h0 i hi=>(e.w k hk).2 i hi h0) (λk hk=>(e.w k hk).1 0 oM)⟩;rw [e.livN rg nn.1];exact m
def xK (rg:RgS D 26 n f) (nn:D.n<=4096) (hk:k<n) (h0:0<=(f k).1) (hi:(i:Int)<perS (f k).1) (hj:j<(wordsS (f k).1).toNat) (hv:v<18446744073709551616):
  HdE D (D.store 0 (pOff (26+32*k) (f k).1 i+8*j) v) f n/\(∀x,(D.store 0 (pOff (26+32*k) (f k).1 i+8*j) v).cur x=if x=pOff (26+32*k) (f k).1 i/8+j then v else D.cur x)/\(D.store 0 (pOff (26+32*k) (f k).1 i+8*j) v).exe=D.exe+1/\pOff (26+32*k) (f k).1 i/8+j<D.n*8/\(D.store 0 (pOff (26+32*k) (f k).1 i+8*j) v).err=D.err:=by
 have hc:=rg.cls hk;have m:=rg.lt;have p:=aO h0 hc.1;have q:=bB h0 hc.1 (show 0<=(i:Int) by omega) hi;have hb:=aK h0 hc.1 hi;have hp:=cY (l:=26+32*k) oM h0 hc.1 hi;have ep:pOff (26+32*k) (f k).1 i/8=(26+32*k)*8+offN (f k).1 i+1:=by unfold pOff;omega
 have c:(pOff (26+32*k) (f k).1 i+8*j)/8=(26+32*k)*8+offN (f k).1 i+1+j:=by unfold pOff;omega
 have e8:(pOff (26+32*k) (f k).1 i+8*j)%8=0:=by unfold pOff;omega
 have o:(26+32*k)*8+offN (f k).1 i+1+j<(26+32*k)*8+256:=oM;have a:ib D (pOff (26+32*k) (f k).1 i+8*j)=true:=by
  have:pOff (26+32*k) (f k).1 i+8*j<D.n*64:=oM;simp [ib,e8,this]
 have on:=rg.on;have b:=on.storeCur _ v a;have hs:=on.store _ v a;have hn:∀x,x≠(26+32*k)*8+offN (f k).1 i+1+j->(D.store 0 (pOff (26+32*k) (f k).1 i+8*j) v).cur x=D.cur x:=λx hx=>by
  rw [b];simp only [c];rw [if_neg hx]
 refine ⟨⟨on.storeOn _ v a,rg.gd.store 0 _ v hv,tZ _ _ _ _,λk' d=>⟨λx hx=> ?_,λi' h g=> ?_⟩⟩,λx=> ?_,by rw [hs];rfl,by omega,by rw [hs];rfl⟩
 ·unfold wd;exact hn _ oM
 ·unfold wd;refine hn _ ?_;have r:=aK g (rg.cls d).1 h;by_cases e:k'=k
  ·subst e;have:=xg h0 hc.1 (i:=i) (i':=i');omega
  ·omega
 ·rw [b,ep];simp only [c]
end
noncomputable section
variable (K:K1) (x0 x1 x2 x3 x4 x5 x6 x7 x8 x9 x10 x11 x12 x13 x14 x15 x16 x17 x18 x19 x20 x21 x22 x23 x24 x25 x26 x27 x28 x29 x30 x31 x32 x33 x34 x35 x36 x37 x38 x39 x40 x41 x42 x43 x44 x45 x46 x47 x48 x49 x50 x51 x52 x53 x54 x55 x56 x57 x58 x59 x60 x61 x62 x63 x64 x65 x66 x67 x68 x69 x70 x71 x72 x73 x74 x75 x76 x77 x78 x79 x80 x81 x82 x83 x84 x85 x86 x87 x88 x89 x90 x91 x92 x93 x94 x95 x96 x97 x98 x99 x100 x101 x102 x103 x104 x105 x106 x107 x108 x109 x110 x111 x112 x113 x114:aB) (w:an)
noncomputable def xL:=uD Tryz.f6 (.s .o (.s .o (.s .o (.s .o (.x 32 (.s .o (.b (.l [35] 25769803808 281440616972432 .o))) (.x 32 (.s .o (.b (.l [54] 13510798882111520 4951760157123506701087022864 (.s .o (.s .o (.x 31525197391593504 (.b (.s .o (.s .o (.s .o (.s .o (.b (.l [72] 2361214766632214201120 2475875356204277680153038848 .o))))))) .o)))))) (.x 32 (.s .o (.b (.l [98] 237684487542793012780631851040 43556142965563210673254892400892155518992 (.s .o (.s .o (.x 554597137599850363154807652384 (.b (.s .o (.s .o (.s .o (.b (.l [114] 10385148314207255107424147466117152 21778050713752627522345460753647848783888 .o)))))) .o)))))) .o)))))))
abbrev sW:=aU prog Tryz.f6.results.toList
def PT:KF:=kO 32 (cP (pw xL 5 31) (sW K) (sW K) nX)
def agy:Prop:=PT K (fy 137 32 [x5]) w
def ab5:Prop:=aH [35] 25769803808 (λE=>cP (pw xL 8 47) E (sW K) (exB 0 (PT K) nX)) (fy 137 60129542176 [x5,x33,x34,x35]) w
def uy:KF:=kO 32 (cP (pw xL 6 63) (sW K) (sW K) nX)
def agz:Prop:=uy K (fy 137 32 [x5]) w
def ab6:Prop:=aH [54] 13510798882111520 (λE=>cP (pw xL 9 95) E (sW K) (exB 2 (uy K) nX)) (fy 137 31525197391593504 [x5,x52,x53,x54]) w
def uz:KF:=kO 32 (cP (pw xL 7 127) (sW K) (sW K) nX)
def agA:Prop:=uz K (fy 137 32 [x5]) w
def ab7:Prop:=aH [98] 237684487542793012780631851040 (λE=>cP (pw xL 10 191) E (sW K) (exB 6 (uz K) nX)) (fy 137 554597137599850363154807652384 [x5,x96,x97,x98]) w
def EF (E1:VP1):KF:=kO 31525197391593504 (cP (pw xL 12 3679) (sE1 E1 54) (sW K) (exB 2 (uy K) nX))
def agB (K:K1) (E1:VP1) (x5 x52 x53 x54:aB) (w:an):Prop:=EF K E1 (fy 137 31525197391593504 [x5,x52,x53,x54]) w
def ab8 (K:K1) (E1:VP1) (x5 x8 x9 x52 x53 x54 x71 x72:aB) (w:an):Prop:=aH [72] 2361214766632214201120 (λE=>cP (pw xL 19 124511) E (sW K) (exB 4 (EF K E1) (exB 3 (EF K E1) (exB 2 (uy K) nX)))) (fy 137 7083581249501859414816 [x5,x8,x9,x52,x53,x54,x71,x72]) w
def EG (E1:VP1):KF:=kO 554597137599850363154807652384 (cP (pw xL 13 7359) (sE1 E1 98) (sW K) (exB 6 (uz K) nX))
def agC (K:K1) (E1:VP1) (x5 x96 x97 x98:aB) (w:an):Prop:=EG K E1 (fy 137 554597137599850363154807652384 [x5,x96,x97,x98]) w
def ab9 (K:K1) (E1:VP1) (x5 x13 x14 x96 x97 x98 x113 x114:aB) (w:an):Prop:=aH [114] 10385148314207255107424147466117152 (λE=>cP (pw xL 19 117951) E (sW K) (exB 8 (EG K E1) (exB 7 (EG K E1) (exB 6 (uz K) nX)))) (fy 137 31154335748346565621546132782997536 [x5,x13,x14,x96,x97,x98,x113,x114]) w
def PU:Prop:=
 nS x5 w λa w=>
 fA 38 a 5 w λb w=>
 fA 36 b 1 w λc w=>
 lD 34 c w λd w=>
 lN 34 d w λe w=>
 ab6 K x5 d e (.int .i64 0) w
def aca:agy K x5 w=PU K x5 w:=aJ λσ=>kR
def EH (E1:VP1):Prop:=
 bT .lss 3 35 34 x35 x34 w λa w=>
 af a (
 iA 49 x33 x35 w λb w=>
 lD 53 b w λc w=>
 ev prog (Instr.alloc 53 true (.tuple #[])) w λd w=>
 sD 53 d c w λw=>
 fA 53 d 0 w λe w=>
 lD 5 e w λf w=>
 bU .rem 5 40 .u8 4 f w λg w=>
 fA 53 d 0 w λh w=>
 sD 5 h g w λw=>
 lD 53 d w λi w=>
 cL 27 (pA #[x5,i]) w λj w=>
 ev prog (Op.unary .not j) w λl w=>
 af l (
 K (.bool false) w) (
 bC .add 3 35 1 x35 w λm w=>
 E1 m w)) (
 agy K x5 w)
def MB (I:VP1) (μ:M1) (h0:I x35 w) (hr:∀x35 w,I x35 w->∀E1,Q1 I μ x35 w E1->EH K x5 x33 x34 x35 w E1):ab5 K x5 x33 x34 x35 w:=⟨I,μ,h0,λσ w hI E hE=>cast kR (hr (σ 35) w hI E hE)⟩
def PV:Prop:=
 nS x5 w λa w=>
 fA 38 a 5 w λb w=>
 fA 36 b 1 w λc w=>
 lD 34 c w λd w=>
 lN 34 d w λe w=>
 ab7 K x5 d e (.int .i64 0) w
def acb:agz K x5 w=PV K x5 w:=aJ λσ=>kR
def EI (E1:VP1):Prop:=
 bT .lss 3 54 53 x54 x53 w λa w=>
 af a (
 iA 34 x52 x54 w λb w=>
 lD 63 b w λc w=>
 ev prog (Instr.alloc 63 true (.tuple #[])) w λd w=>
 sD 63 d c w λw=>
 nR x5 w.drew λe=>
 fR 38 e 3 w.drew λf=>
 lR 33 f w.drew λg=>
 fR 63 d 0 w.drew λh=>
 lR 26 h w.drew λi=>
 cL 29 (pA #[g,i]) w.drew λj w=>
 xR j 0 w λl=>
 xR j 1 w λm=>
 bC .neq 28 69 0 m w λn w=>
 af n (
 K (.bool false) w) (
 ab8 K E1 x5 x54 d x52 x53 x54 l (.int .i64 0) w)) (
 agz K x5 w)
def MC (I:VP1) (μ:M1) (h0:I x54 w) (hr:∀x54 w,I x54 w->∀E1,Q1 I μ x54 w E1->EI K x5 x52 x53 x54 w E1):ab6 K x5 x52 x53 x54 w:=⟨I,μ,h0,λσ w hI E hE=>cast kR (hr (σ 54) w hI E hE)⟩
def PW:Prop:=
 cL 25 (pA #[x5]) w λa w=>
 K a w
def acd:agA K x5 w=PW K x5 w:=aJ λσ=>kR
def EJ (E1:VP1):Prop:=
 bT .lss 3 98 97 x98 x97 w λa w=>
 af a (
 iA 34 x96 x98 w λb w=>
 lD 63 b w λc w=>
 ev prog (Instr.alloc 63 true (.tuple #[])) w λd w=>
 sD 63 d c w λw=>
 nR x5 w.drew λe=>
 fR 38 e 3 w.drew λf=>
 lR 33 f w.drew λg=>
 fR 63 d 0 w.drew λh=>
 lR 26 h w.drew λi=>
 cL 29 (pA #[g,i]) w.drew λj w=>
 xR j 0 w λl=>
 xR j 1 w λm=>
 ab9 K E1 x5 x98 d x96 x97 x98 l (.int .i64 0) w) (
 agA K x5 w)
def MD (I:VP1) (μ:M1) (h0:I x98 w) (hr:∀x98 w,I x98 w->∀E1,Q1 I μ x98 w E1->EJ K x5 x96 x97 x98 w E1):ab7 K x5 x96 x97 x98 w:=⟨I,μ,h0,λσ w hI E hE=>cast kR (hr (σ 98) w hI E hE)⟩
def PX (E1:VP1):Prop:=
 bC .add 3 54 1 x54 w λa w=>
 E1 a w
def ace (E1:VP1):agB K E1 x5 x52 x53 x54 w=PX x54 w E1:=aJ λσ=>kR
def EK (E1:VP1) (E2:VP1):Prop:=
 bT .lss 3 72 71 x72 x71 w λa w=>
 af a (
 nR x5 w.drew λb=>
 fR 38 b 1 w.drew λc=>
 lR 31 c w.drew λd=>
 fR 63 x9 0 w.drew λe=>
 lR 26 e w.drew λf=>
 rM .mul 3 (ci 100) (.tmp 83) (.int .i64 100) x8 w.drew λg=>
 rT .add 3 84 85 g x72 w.drew λh=>
 rC .add 3 86 1 h w.drew λi=>
 rd prog (convert 3 26 i) w.drew λj=>
 cL 31 (pA #[f,x72]) w.drew λl w=>
 (bw prog x5 w (λu=>u=b))/\
 (fG 38 b 1 w c)/\
 (lG 31 c w d)/\
 (ag prog (aG .mul 3 (ci 100) (.tmp 83) (.int .i64 100) x8) w g)/\
 (ag prog (aG .add 3 (.tmp 84) (.tmp 85) g x72) w h)/\
 (ag prog (aG .add 3 (.tmp 86) (ci 1) h (.int .i64 1)) w i)/\
 (ag prog (convert 3 26 i) w j)/\
 cL 30 (pA #[d,l,j]) w λm w=>
 bC .add 3 72 1 x72 w λn w=>
 E2 n w) (
 agB K E1 x5 x52 x53 x54 w)
def ME (E1:VP1) (I:VP1) (μ:M1) (h0:I x72 w) (hr:∀x72 w,I x72 w->∀E2,Q1 I μ x72 w E2->EK K x5 x8 x9 x52 x53 x54 x71 x72 w E1 E2):ab8 K E1 x5 x8 x9 x52 x53 x54 x71 x72 w:=⟨I,μ,h0,λσ w hI E hE=>cast kR (hr (σ 72) w hI E hE)⟩
def PY (E1:VP1):Prop:=
 bC .add 3 98 1 x98 w λa w=>
 E1 a w
def acf (E1:VP1):agC K E1 x5 x96 x97 x98 w=PY x98 w E1:=aJ λσ=>kR
def EL (E1:VP1) (E2:VP1):Prop:=
 bT .lss 3 114 113 x114 x113 w λa w=>
 af a (
 nR x5 w.drew λb=>
 fR 38 b 1 w.drew λc=>
 lR 31 c w.drew λd=>
 fR 63 x14 0 w.drew λe=>
 lR 26 e w.drew λf=>
 rM .mul 3 (ci 100) (.tmp 126) (.int .i64 100) x13 w.drew λg=>
 rT .add 3 127 128 g x114 w.drew λh=>
 rC .add 3 129 1 h w.drew λi=>
 rd prog (convert 3 26 i) w.drew λj=>
 cL 31 (pA #[f,x114]) w.drew λl w=>
 (bw prog x5 w (λu=>u=b))/\
 (fG 38 b 1 w c)/\
 (lG 31 c w d)/\
 (ag prog (aG .mul 3 (ci 100) (.tmp 126) (.int .i64 100) x13) w g)/\
 (ag prog (aG .add 3 (.tmp 127) (.tmp 128) g x114) w h)/\
 (ag prog (aG .add 3 (.tmp 129) (ci 1) h (.int .i64 1)) w i)/\
 (ag prog (convert 3 26 i) w j)/\
 cL 32 (pA #[d,l]) w λm w=>
 (ag prog (aG .mul 3 (ci 100) (.tmp 126) (.int .i64 100) x13) w g)/\
 (ag prog (aG .add 3 (.tmp 127) (.tmp 128) g x114) w h)/\
 (ag prog (aG .add 3 (.tmp 129) (ci 1) h (.int .i64 1)) w i)/\
 (ag prog (convert 3 26 i) w j)/\
 rT .neq 26 125 131 m j w λn=>
 af n (
 K (.bool false) w) (
 bC .add 3 114 1 x114 w λo w=>
 E2 o w)) (
 agC K E1 x5 x96 x97 x98 w)
def MF (E1:VP1) (I:VP1) (μ:M1) (h0:I x114 w) (hr:∀x114 w,I x114 w->∀E2,Q1 I μ x114 w E2->EL K x5 x13 x14 x96 x97 x98 x113 x114 w E1 E2):ab9 K E1 x5 x13 x14 x96 x97 x98 x113 x114 w:=⟨I,μ,h0,λσ w hI E hE=>cast kR (hr (σ 114) w hI E hE)⟩
def ajp:Prop:=
 cL 13 (pA #[]) w λa w=>
 ev prog (Op.unary .not a) w λb w=>
 gV b false x1 w λc w=>
 gd b false (λk=>lN 49 c w k) w λd w=>
 gd b false (λk=>bC .gtr 3 22 20 d w k) w λe w=>
 au b (.bool true) e w λf w=>
 af f (
 cL 13 (pA #[]) w λg w=>
 K g w) (
 cV 5 3 x0 w λh w=>
 bC .rem 3 27 6 h w λi w=>
 bM .add 3 (ci 2) (.tmp 28) (.int .i64 2) i w λj w=>
 cL 14 (pA #[j]) w λl w=>
 bM .eql 23 (.tmp 31) (.const (.pointer none)) l (.pointer none) w λm w=>
 af m (
 K (.bool false) w) (
 lN 49 x1 w λn w=>
 ab5 K l x1 n (.int .i64 0) w))
def aex:=cA2 Tryz.func6 xL.2 ajp
end
abbrev pwN (f:Idx) (p:Nat):Nat:=(wordsS (f (hk p)).1).toNat
def CoV (D:DS) (f:Idx) (R:List Nat) (k i:Nat):Prop:=∀a p j,R[a]? =some p->j<pwN f p->(a<k\/(a=k/\j<i))->D.cur (pO p/8+j)=100*a+j+1
section
variable {w0 w w':an} {Y Y':Lay} {D D':DS} {H:HL} {n k i j p v Wb ab:Nat} {f:Idx} {R:List Nat} {lv hd dd x52 x53:aB} {DD:List (Nat×Int)} {c:Int}
def H0 (h:PlS w0 w Wb lv hd dd Y D H n f R DD) (hp:R[k]? =some p):p∈R/\hk p<n/\0<=(f (hk p)).1/\(f (hk p)).1<5/\((ixP f p:Nat):Int)<perS (f (hk p)).1/\pO p=pOff (26+32*hk p) (f (hk p)).1 (ixP f p)/\p≠0/\p<72057594037927936:=by
 have hm:=List.mem_of_getElem? hp;have a:=h.m.L.at_ (.inl hm);obtain ⟨⟨a1,a2,a3,a4,a5⟩,b,c⟩:=a;exact ⟨hm,a1,a2,a3,a4,a5,b,c⟩
def CoV.step (h:PlS w0 w Wb lv hd dd Y D H n f R DD) (cv:CoV D f R k i) (hp:R[k]? =some p) (hi:i<pwN f p) (hc:∀x,D'.cur x=if x=pO p/8+i then 100*k+i+1 else D.cur x):CoV D' f R k (i+1):=by
 intro a q j hq hj c;rw [hc];have ap:=H0 h hp;have aq:=H0 h hq;have nn:=h.m.nn;by_cases e:a=k
 ·subst e;rw [hp] at hq;injection hq with hq;subst hq;by_cases e2:j=i
  ·subst e2;rw [if_pos rfl]
  ·rw [if_neg oM];exact cv a p j hp hj (.inr ⟨rfl,by omega⟩)
 ·have ne:pO q≠pO p:=λe2=>e (by
   have nd:=h.m.L.hp.nd;have lq:(R.map pO)[a]? =some (pO q):=by rw [a0,hq];rfl
   have lp:(R.map pO)[k]? =some (pO p):=by rw [a0,hp];rfl
   have la:=(List.getElem?_eq_some_iff.1 lq).1;have lk:=(List.getElem?_eq_some_iff.1 lp).1;have eq:(R.map pO)[a]=(R.map pO)[k]:=by
    rw [(List.getElem?_eq_some_iff.1 lq).2,(List.getElem?_eq_some_iff.1 lp).2,e2]
   exact (List.getElem_inj nd).1 eq)
  have hpA:At f n p (hk p) (ixP f p):=(h.m.L.at_ (.inl ap.1)).1;have b:At f n q (hk q) (ixP f q):=(h.m.L.at_ (.inl aq.1)).1;have t:=HQ h.m.L.hp.rg nn.1 b hpA ne;have m8:pO q%8=0/\pO p%8=0:=by
   have e1:=aq.2.2.2.2.2.1;have e2:=ap.2.2.2.2.2.1;unfold pOff at e1 e2;omega
  unfold pwN at hi hj;rw [if_neg oM];exact cv a q j hq hj (.inl oM)
def CoV.next (cv:CoV D f R k i) (hp:R[k]? =some p) (hi:pwN f p<=i):CoV D f R (k+1) 0:=by
 intro a q j hq hj b;by_cases e:a=k
 ·subst e;rw [hp] at hq;injection hq with hq;subst hq;exact cv a p j hp hj (.inr ⟨rfl,by omega⟩)
 ·exact cv a q j hq hj (.inl oM)
def bxF (p:Nat) (c:Int) (i:Nat):aB:= [Value.int .u64 (p:Int),.int .i64 c].getD i undef
def ajq {E1:VP1} (h:PlS w0 w Wb lv hd dd Y D H n f R DD) (cv:CoV D f R k 0) (hx:D.exe<800000000) (hp:R[k]? =some p) (x:k<1000) (cB:ah w ab 63 2 (bxF p c)) (oA:lE w0 Y H Wb ab) (K:K1)
  (hE:∀Y' D' w',PlS w0 w' Wb lv hd dd Y' D' H n f R DD->CoV D' f R (k+1) 0->D'.exe<=D.exe+60->E1 (.int .i64 ((k+1:Nat):Int)) w'):
  ab8 K E1 (.pointer (some ⟨Wb,0,none⟩)) (.int .i64 (k:Int)) (.pointer (some ⟨ab,0,none⟩)) x52 x53 (.int .i64 (k:Int)) (.int .i64 (wordsS (f (hk p)).1)) (.int .i64 0) w:=by
 have ap:=H0 h hp;have wS:=aO ap.2.2.1 ap.2.2.2.1;have em:wordsS (f (hk p)).1=((pwN f p:Nat):Int):=by unfold pwN;omega
 have u:pwN f p<=60:=by unfold pwN;omega
 rw [em];apply ME (I:=λz w'=>∃(i:Nat) (Y':Lay) (D':DS),z= .int .i64 (i:Int)/\i<=pwN f p/\PlS w0 w' Wb lv hd dd Y' D' H n f R DD/\CoV D' f R k i/\D'.exe<=D.exe+i/\ah w' ab 63 2 (bxF p c)/\lE w0 Y' H Wb ab) (μ:=λz _=>pwN f p-(intOf z).toNat)
 ·exact ⟨0,Y,D,rfl,by omega,h,cv,by omega,cB,oA⟩
 ·intros;rename_i z w1 hI E2 r;obtain ⟨i,Y1,D1,rfl,hi,h1,b,s,a,d⟩:=hI;have es:(i:Int)+1=((i+1:Nat):Int):=oM;have ek:(k:Int)+1=((k+1:Nat):Int):=oM;have lA:=a.lt;by_cases e:i<pwN f p
  ·have b0:w1.cell? ⟨ab,0,none⟩=some (.int .u64 (p:Int)):=a.cell (i:=0) oM;have q1:=(aE h1.m.L.bx).2.1;have lW:=h1.m.L.bx.lt;have e1:(100:Int)*(k:Int)=((100*k:Nat):Int):=oM;have e2:((100*k:Nat):Int)+(i:Int)=((100*k+i:Nat):Int):=oM;have e3:((100*k+i:Nat):Int)+1=((100*k+i+1:Nat):Int):=oM;have ps:=λ(w:an) (K:K1)=>Pu p i w K ap.2.2.2.2.2.2.1 oM oM
   have hs:=xK (v:=100*k+i+1) h1.m.L.hp.rg h1.m.nn.1 ap.2.1 ap.2.2.1 ap.2.2.2.2.1 e oM;rw [<-ap.2.2.2.2.2.1] at hs;unfold EK;refine zS6 b0 q1 e1 e2 e3 ps ?_;refine ⟨trivial,trivial,trivial,trivial,trivial,trivial,trivial,?_⟩;refine NR (h1.ext (Ext.drew (Ext.refl _))).m.L.hp.ar.L.dv h1.m.L.hp.rg.gd 0 oM _ _ oM _ (λw2 Y2 s2=> ?_);have l:=h1.ext (Ext.drew (Ext.refl w1));have h2:=l.hdE s2 hs.1 (λj hj=>by rw [hs.2.2.2.2];exact h1.m.L.hp.er j hj) (by rw [hs.2.1,if_neg (by have:=ap.2.2.2.2.2.1;unfold pOff at this;omega)];exact h1.m.L.hp.idl);have o:=(a.ext (Ext.drew (Ext.refl w1))).frm s2.frm d.2.1;have g:=d.st (w:=w1.drew) a.drew.lt (HSt.of_stp H s2);have t:=hs.2.2.1;refine zS1 es ?_;apply r
   ·exact ⟨i+1,Y2,_,rfl,by omega,h2,b.step h1 hp e hs.2.1,by omega,o,g⟩
   ·simp only [intOf];omega
  ·obtain rfl:i=pwN f p:=oM;have q:=hE Y1 D1 w1 h1 (b.next hp (aA _)) oM;unfold EK;refine zS0 ?_;rw [ace];unfold PX;refine zS1 ek ?_;exact q
def ajr {E1:VP1} (h:PlS w0 w Wb lv hd dd Y D H n f R DD) (cv:CoV D f R R.length 0) (hp:R[k]? =some p) (l:k<1000) (cB:ah w ab 63 2 (bxF p c)) (K:K1)
  (hE:∀w',Ext w w'->E1 (.int .i64 ((k+1:Nat):Int)) w'):
  ab9 K E1 (.pointer (some ⟨Wb,0,none⟩)) (.int .i64 (k:Int)) (.pointer (some ⟨ab,0,none⟩)) x52 x53 (.int .i64 (k:Int)) (.int .i64 (wordsS (f (hk p)).1)) (.int .i64 0) w:=by
 have ap:=H0 h hp;have kl:k<R.length:=(List.getElem?_eq_some_iff.1 hp).1;have wS:=aO ap.2.2.1 ap.2.2.2.1;have em:wordsS (f (hk p)).1=((pwN f p:Nat):Int):=by unfold pwN;omega
 have j:pwN f p<=60:=by unfold pwN;omega
 rw [em];apply MF (I:=λz w'=>∃(i:Nat),z= .int .i64 (i:Int)/\i<=pwN f p/\Ext w w') (μ:=λz _=>pwN f p-(intOf z).toNat)
 ·exact ⟨0,rfl,by omega,Ext.refl _⟩
 ·intros;rename_i z w1 hI E2 g;obtain ⟨i,rfl,hi,a⟩:=hI;have es:(i:Int)+1=((i+1:Nat):Int):=oM;have ek:(k:Int)+1=((k+1:Nat):Int):=oM;have h1:=h.ext a;have b:=cB.ext a;have lA:=b.lt;by_cases e:i<pwN f p
  ·have b0:w1.cell? ⟨ab,0,none⟩=some (.int .u64 (p:Int)):=b.cell (i:=0) oM;have q1:=(aE h1.m.L.bx).2.1;have lW:=h1.m.L.bx.lt;have e1:(100:Int)*(k:Int)=((100*k:Nat):Int):=oM;have e2:((100*k:Nat):Int)+(i:Int)=((100*k+i:Nat):Int):=oM;have e3:((100*k+i:Nat):Int)+1=((100*k+i+1:Nat):Int):=oM;have ps:=λ(w:an) (K:K1)=>Pu p i w K ap.2.2.2.2.2.2.1 oM oM
   have hs:=xK (v:=0) h1.m.L.hp.rg h1.m.nn.1 ap.2.1 ap.2.2.1 ap.2.2.2.2.1 e oM;rw [<-ap.2.2.2.2.2.1] at hs;have hb:=hs.2.2.2.1;have e8:(pO p+8*i)/8=pO p/8+i:=oM;have m8:(pO p+8*i)%8=0:=by have:=ap.2.2.2.2.2.1;unfold pOff at this;omega
   have hv:=cv k p i hp e (.inl kl);have ld:=λ(K:K1)=>oB (h1.ext (Ext.drew (Ext.refl w1))).m.L.hp.ar.L.dv h1.m.L.hp.rg.gd 0 oM h1.m.L.hp.rg.on.off (pO p+8*i) m8 oM K
   rw [e8,hv] at ld;unfold EL;refine zS8 b0 q1 e1 e2 e3 ps ld es ?_;refine ⟨trivial,trivial,trivial,trivial,trivial,trivial,trivial,trivial,trivial,trivial,trivial,?_⟩;apply g
   ·exact ⟨i+1,rfl,by omega,a.trans (Ext.drew (Ext.refl _))⟩
   ·simp only [intOf];omega
  ·obtain rfl:i=pwN f p:=oM;have d:=hE w1 a;unfold EL;refine zS0 ?_;rw [acf];unfold PY;refine zS1 ek ?_;exact d
end
section
variable {w0 w w':an} {Y Y':Lay} {D D':DS} {H:HL} {n k i j p v Wb ab:Nat} {f:Idx} {R:List Nat} {lv hd dd x52 x53:aB} {DD:List (Nat×Int)} {c:Int}
def qz (h:PlS w0 w Wb lv hd dd Y D H n f R DD):∃a cap,hd= .slice a R.length cap/\∀k (e:k<R.length),∃b o,a=some ⟨b,o,none⟩/\b<w.heap.size/\w.cell? ⟨b,o+k*2,none⟩=some (.int .u64 ((R[k]:Nat):Int))/\w.cell? ⟨b,o+k*2+1,none⟩=some (.int .i64 (f (hk R[k])).1):=by
 have ln:=bE f R;obtain ⟨a,cap,e1,_⟩:=id h.m.sH.isS';rw [ln] at e1;refine ⟨a,cap,e1,λk e=> ?_⟩;have e':k<(blM f R).length:=oM;obtain ⟨b,o,d,hv,hb,hc,_⟩:=ez h.m.sH e';rw [e1] at hv;injection hv with hv;have c:=hc k e';rw [jk e'] at c;exact ⟨b,o,hv,hb,c.1,c.2⟩
def H2 (h:PlS w0 w Wb lv hd dd Y D H n f R DD) (hp:R[k]? =some p) (w1:an) (e:Ext w w1) (K:K1) (hK:∀w',Ext w1 w'->K (.tuple #[.int .i64 (wordsS (f (hk p)).1),.int .i64 0]) w'):
  ae prog 29 #[hpV H,.int .u64 (p:Int)] w1 K:=by
 have ap:=H0 h hp;exact mv (k:=hk p) (i:=ixP f p) (h.ext e).m.L.hp (λq hq=>by have:=(h.m.L.at_ (.inl hq)).2.2;omega) ap.2.1 ap.2.2.1 ap.2.2.2.2.1 oM ap.2.2.2.2.2.2.1 ap.2.2.2.2.2.1 (.inl ap.1) K hK
def ajs (h:PlS w0 w Wb lv hd dd Y D H n f R DD) (cv:CoV D f R R.length 0) (hR:R.length<1000) (hD:DD.length<50000) (a:Option Addr) (cap:Nat) (g:hd= .slice a R.length cap) (K:K1) (hK:∀w',Ext w w'->K (.bool true) w'):
  ab7 K (.pointer (some ⟨Wb,0,none⟩)) (.slice a R.length cap) (.int .i64 (R.length:Int)) (.int .i64 0) w:=by
 apply MD (I:=λz w'=>∃k:Nat,z= .int .i64 (k:Int)/\k<=R.length/\Ext w w') (μ:=λz _=>R.length-(intOf z).toNat)
 ·exact ⟨0,rfl,by omega,Ext.refl _⟩
 ·intros;rename_i z w1 hI E1 hE;obtain ⟨k,rfl,l,c⟩:=hI;have h1:=h.ext c;by_cases e:k<R.length
  ·have hp:R[k]? =some R[k]:=aa e;obtain ⟨a',j,e1,hc⟩:=qz h1;rw [g] at e1;injection e1 with e1 _ e3;subst e1;subst e3;obtain ⟨b,o,rfl,hb,c0,c1⟩:=hc k e;generalize R[k]=p at*;have q3:=(aE h1.m.L.bx).2.2.2.1;have lW:=h1.m.L.bx.lt;have wd:=H2 h1 hp;have cB:ah (w1.alloc (.cells #[.int .u64 (p:Int),.int .i64 (f (hk p)).1] 63)) w1.heap.size 63 2 (bxF p (f (hk p)).1):=ah.new w1 [.int .u64 (p:Int),.int .i64 (f (hk p)).1] 63;have b0:(w1.alloc (.cells #[.int .u64 (p:Int),.int .i64 (f (hk p)).1] 63)).cell? ⟨w1.heap.size,0,none⟩=some (.int .u64 (p:Int)):=cB.cell (i:=0) oM;unfold EJ;refine zS4 c0 c1 q3 b0 ?_;refine wd _ xZ _ (λw2 e2=> ?_);refine zS0 ?_;have d:Ext w1 w2:=Ext.trans xZ e2;refine ajr (h1.ext d) cv hp oM (cB.drew.ext e2) K (λw3 e3=> ?_);apply hE
   ·exact ⟨k+1,rfl,by omega,c.trans (d.trans e3)⟩
   ·simp only [intOf];omega
  ·obtain rfl:k=R.length:=oM;unfold EJ;refine zS0 ?_;rw [acd];unfold PW;refine gU h1 oM oM _ (λw2 e2=> ?_);exact hK w2 (c.trans e2)
def ajt (h:PlS w0 w Wb lv hd dd Y D H n f R DD) (hx:D.exe<700000000) (hR:R.length<1000) (hD:DD.length<50000) (a:Option Addr) (cap:Nat) (c:hd= .slice a R.length cap) (K:K1) (hK:∀w',Ext w0 w'->K (.bool true) w'):
  ab6 K (.pointer (some ⟨Wb,0,none⟩)) (.slice a R.length cap) (.int .i64 (R.length:Int)) (.int .i64 0) w:=by
 apply MC (I:=λz w'=>∃(k:Nat) (Y':Lay) (D':DS),z= .int .i64 (k:Int)/\k<=R.length/\PlS w0 w' Wb lv hd dd Y' D' H n f R DD/\CoV D' f R k 0/\D'.exe<=D.exe+60*k) (μ:=λz _=>R.length-(intOf z).toNat)
 ·exact ⟨0,Y,D,rfl,by omega,h,λa p j _ _ hh=>by omega,by omega⟩
 ·intros;rename_i z w1 hI E1 hE;obtain ⟨k,Y1,D1,rfl,t,h1,cv,s⟩:=hI;by_cases e:k<R.length
  ·have hp:R[k]? =some R[k]:=aa e;obtain ⟨a',d,e1,hc⟩:=qz h1;rw [c] at e1;injection e1 with e1 _ e3;subst e1;subst e3;obtain ⟨b,o,rfl,hb,c0,c1⟩:=hc k e;generalize R[k]=p at*;have q3:=(aE h1.m.L.bx).2.2.2.1;have lW:=h1.m.L.bx.lt;have wd:=H2 h1 hp;have cB:ah (w1.alloc (.cells #[.int .u64 (p:Int),.int .i64 (f (hk p)).1] 63)) w1.heap.size 63 2 (bxF p (f (hk p)).1):=ah.new w1 [.int .u64 (p:Int),.int .i64 (f (hk p)).1] 63;have b0:(w1.alloc (.cells #[.int .u64 (p:Int),.int .i64 (f (hk p)).1] 63)).cell? ⟨w1.heap.size,0,none⟩=some (.int .u64 (p:Int)):=cB.cell (i:=0) oM;have ow:=h1.m.L.own (b:=w1.heap.size) (aA _);unfold EI;refine zS4 c0 c1 q3 b0 ?_;refine wd _ xZ _ (λw2 e2=> ?_);refine zS0 ?_;have g:Ext w1 w2:=Ext.trans xZ e2;refine ajq (h1.ext g) cv oM hp oM (cB.drew.ext e2) ow K (λY3 D3 w3 h3 l r=> ?_);apply hE
   ·exact ⟨k+1,Y3,D3,rfl,by omega,h3,l,by omega⟩
   ·simp only [intOf];omega
  ·obtain rfl:k=R.length:=oM;obtain ⟨a',d,e1,hc⟩:=qz h1;have q:=e1;rw [c] at e1;injection e1 with e1 _ e3;subst e1;subst e3;have q6:=(aE h1.m.L.bx).2.2.2.2.2.2.1;rw [c] at q6;have lW:=h1.m.L.bx.lt;unfold EI;refine zS0 ?_;rw [acb];unfold PV;refine zS1 q6 ?_;exact ajs h1 cv hR hD _ _ c K (λw2 e2=>hK w2 (h1.m.L.hp.ex.trans e2))
def aju {al:List eU} {sv:aB} {mm:Nat} (h:PlA w0 w Wb H n 0) (q:H.av=none) (t:H.lk=false) (g:n<=120) (r:eE mm w0 sv al) (ok:∀x∈al,dO x) (u:al.length<=60) (K:K1) (hK:∀w',Ext w0 w'->K (.bool true) w'):
  ab5 K (.pointer (some ⟨Wb,0,none⟩)) sv (.int .i64 (al.length:Int)) (.int .i64 0) w:=by
 apply MB (I:=λz w'=>∃j:Nat,z= .int .i64 (j:Int)/\j<=al.length/\PlA w0 w' Wb H n j) (μ:=λz _=>al.length-(intOf z).toNat)
 ·exact ⟨0,rfl,by omega,h⟩
 ·intros;rename_i z w1 hI E1 hE;obtain ⟨j,rfl,hj,Y,D,f,R,DD,lv,hd,dd,a,b1,b2,b3⟩:=hI;have es:(j:Int)+1=((j+1:Nat):Int):=oM;have i:=a.m.L.hp.ex;obtain ⟨sa,sc,rfl,hs⟩:=r.ext i;by_cases e:j<al.length
  ·have hx:al[j]? =some al[j]:=aa e;have d:=ok _ (List.getElem_mem e);generalize al[j]=x at*;obtain ⟨b,o,tv,dv,rfl,hb,hc,r1,r2⟩:=hs j x hx;have x0:w1.cell? ⟨b,o+j*6,none⟩=some (.int .u8 (x.kd:Int)):=hc 0 oM;have x1:w1.cell? ⟨b,o+j*6+1,none⟩=some (.int .i64 x.th):=hc 1 oM;have x2:w1.cell? ⟨b,o+j*6+2,none⟩=some (.int .i64 x.wd):=hc 2 oM;have x3:w1.cell? ⟨b,o+j*6+3,none⟩=some (.int .u8 (x.mk:Int)):=hc 3 oM;have x4:w1.cell? ⟨b,o+j*6+4,none⟩=some tv:=hc 4 oM;have x5:w1.cell? ⟨b,o+j*6+5,none⟩=some dv:=hc 5 oM;have p:=r1;have l:=r2;obtain ⟨ta,tc,rfl⟩:=dg r1;obtain ⟨da,dc,rfl⟩:=dg r2;have c:=λ(w2:an) (e2:Ext w1 w2) (K:K1) hK=>Ey (x:={x with kd:=x.kd%4}) (a.ext e2) q t ⟨by have:=d.1;show x.kd%4<256;omega,d.2⟩ (p.ext e2) (l.ext e2) (λhh=>by simp only at hh;omega) g oM oM oM K hK
   simp only at c;unfold EH;simp (disch:=try exact dZ) only [↓RBp,↓RA,↓reduceIte,Nat.reduceAdd,Nat.reduceMul,Nat.reduceEqDiff,RB,RX,RA2,x0,x1,x2,x3,x4,x5,List.getElem?_toArray,List.getElem?_cons_succ,List.getElem?_cons_zero,Option.isSome_some,Bool.and_self,List.setIfInBounds_toArray,List.set_cons_succ,List.set_cons_zero];refine c _ xZ _ (λY' D' f' R' DD' lv' hd' dd' w3 P pd=> ?_);have px:=pd.ex;have pr:=pd.rl;have v:=pd.dl;refine zS1 es ?_;apply hE
   ·exact ⟨j+1,rfl,by omega,Y',D',f',R',DD',lv',hd',dd',P,by omega,by omega,by omega⟩
   ·simp only [intOf];omega
  ·obtain rfl:j=al.length:=oM;have q6:=(aE a.m.L.bx).2.2.2.2.2.2.1;have lW:=a.m.L.bx.lt;obtain ⟨ha,k,e1,_⟩:=qz a;have s:=ajt a oM oM oM ha k e1 K hK;rw [e1] at q6;unfold EH;refine zS0 ?_;rw [aca];unfold PU;refine zS1 q6 ?_;exact s
def EM {al:List eU} {sv:aB} {a:Nat} (hG:bt w) (ha:a<256) (c:eE w.heap.size w sv al) (ok:∀x∈al,dO x) (K:K1) (hK:∀w',Ext w w'->K (.bool true) w'):
  ae prog 6 #[.int .u8 (a:Int),sv] w K:=by
 have e1:(a:Int)%6=((a%6:Nat):Int):=oM;have e2:2+((a%6:Nat):Int)=((2+a%6:Nat):Int):=oM;have hA:=c;obtain ⟨sa,sc,rfl,_⟩:=c;refine aex _ _ _ _ ?_;unfold ajp;refine dA hG _ (λw1 h1=> ?_);have d:=hG.ext h1;by_cases hl:al.length<=20
 ·have b:¬((20:Int)<(al.length:Int)):=oM;refine zS3 b e1 e2 ?_;refine jS (n:=2+a%6) d oM oM _ (λWb H Y w2 g i f L=> ?_);have hb:=qk (n:=2+a%6) oM;have hR:PlA w1 w2 Wb H (2+a%6) 0:=⟨Y,hbD (2+a%6),opF (hbD (2+a%6)) 26,[],[],.slice none 0 0,.slice none 0 0,.slice none 0 0,jU oM L,by have:=hb.2.2.1;omega,by simp,by simp⟩;have h:=aju hR g f oM (hA.ext h1) ok oM K (λw' e=>hK w' (h1.trans e));refine zS0 ?_;exact h
 ·have b:(20:Int)<(al.length:Int):=oM;refine zS1 b ?_;refine dA (d.ext xZ) _ (λw2 h2=> ?_);exact hK w2 (h1.trans (Ext.trans xZ h2))
end
end Go.Proofs.YtmpehclnnjgmcaaGreatDoor
