/-
  Part A of the proof in YtmpehclnnjgmcaaGreatDoorDaRowCr.
-/
import Derived.Test.YtmpehclnnjgmcaaGreatDoorDa3
import Derived.Test.YtmpehclnnjgmcaaGreatDoorDa6
import Derived.Test.YtmpehclnnjgmcaaGreatDoorDa4
import Derived.Test.YtmpehclnnjgmcaaGreatDoorDa2
import Derived.Test.YtmpehclnnjgmcaaGreatDoorDa1
set_option linter.unusedSimpArgs false
set_option linter.unusedVariables false
set_option maxHeartbeats 20000000
set_option maxRecDepth 100000
set_option linter.defProp false
open Go.Proofs.Tryz (prog)
open Go.RowKit (intOf)
open Go renaming World->ab,Value->an
open Nat renaming le_refl->aa,le_trans->ap
namespace Go.Proofs.YtmpehclnnjgmcaaGreatDoor
open Go Go.Sh
structure Wm (w:ab) (b o:Nat) (W:Nat->Nat):Prop where
 cell:∀{i:Nat},i<256->w.cell? ⟨b,o+i,none⟩=some (u64 (W i))
 frz:∀i,w.frozen? ⟨b,i,none⟩=false
section
variable {w w':ab} {W:Nat->Nat} {b ob cap:Nat} {c:Int}
end
def fQ (m:Nat) (w:ab) (v:an) (al:List (List Int×List Nat×List Int)):Prop:=∃a cap,v= .slice a al.length cap/\∀j x,al[j]? =some x->∃b o s1 s2 s3,a=some ⟨b,o,none⟩/\b<m/\w.cell? ⟨b,o+j*3,none⟩=some s1/\w.cell? ⟨b,o+j*3+1,none⟩=some s2/\w.cell? ⟨b,o+j*3+2,none⟩=some s3/\RdS m w s1 (aX x.1)/\RdS m w s2 (u8L x.2.1)/\RdS m w s3 (aX x.2.2)
section
variable {w w':ab} {Y:Lay} {D:DS} {l m:Nat} {v:an} {al:List (List Int×List Nat×List Int)}
def fQ.ext (h:fQ m w v al) (e:Ext w w'):fQ m w' v al:=by
 obtain ⟨a,cap,hv,h⟩:=h;refine ⟨a,cap,hv,λj x hx=> ?_⟩;obtain ⟨b,o,s1,s2,s3,ha,hb,c1,c2,c3,r1,r2,r3⟩:=h j x hx;exact ⟨b,o,s1,s2,s3,ha,hb,e.cell_some c1,e.cell_some c2,e.cell_some c3,r1.ext e,r2.ext e,r3.ext e⟩
def wdL (W:Nat->Nat) (n:Nat):List an:=(List.range n).map λj=>u64 (W j)
def il {W:Nat->Nat} {n j:Nat} (h:j<n):(wdL W n)[j]? =some (u64 (W j)):=by simp [wdL,h]
def Wm.of_sl {W:Nat->Nat} {b o n cap:Nat} (h:SlO w 26 1 (.slice (some ⟨b,o,none⟩) n cap) 256 (wdL W 256)):Wm w b o W:=⟨λhi=>h.cell rfl (il hi),λi=>h.frz rfl i⟩
end
section
variable {w0 w w':ab} {Y Y':Lay} {D D':DS} {H:HL} {n k i j p v Wb:Nat} {f:Idx} {R:List Nat} {lv hd dd:an} {DD:List (Nat×Int)} {c:Int}
structure HdE (D D':DS) (f:Idx) (n:Nat):Prop where
 on:On D'
 gd:aM D'
 nn:D'.n=D.n
 w:∀k,k<n->(∀x,x<8->wd D' (26+32*k) x=wd D (26+32*k) x)/\∀i:Nat,(i:Int)<perS (f k).1->0<=(f k).1->wd D' (26+32*k) (offN (f k).1 i)=wd D (26+32*k) (offN (f k).1 i)
def HdE.rg (e:HdE D D' f n) (h:RgS D 26 n f):RgS D' 26 n f:=
 ⟨e.on,e.gd,by rw [e.nn];exact h.lt,λj hj=>by rw [(e.w j hj).1 0 oM];exact h.ag j hj,λj hj h0=>(h.sn j hj h0).congrH h0 (h.cls hj).1 (e.w j hj).1 (λi' a=>(e.w j hj).2 i' a h0)⟩
def HdE.rsv (e:HdE D D' f n) (h:Rsv D f n p):Rsv D' f n p:=by
 obtain ⟨k,i,kd,a1,a2,a3,a4,a5,a6⟩:=h;have ew:=(e.w k a1).2 i a3 a2;exact ⟨k,i,kd,a1,a2,a3,by rw [ew];exact a4,by rw [ew];exact a5,a6⟩
def HdE.liv (e:HdE D D' f n):Liv D' f n p↔Liv D f n p:=by
 constructor
 ·rintro ⟨k,i,a1,a2,a3,a4⟩;have ew:=(e.w k a1).2 i a3 a2;rw [ew] at a4;exact ⟨k,i,a1,a2,a3,a4⟩
 ·rintro ⟨k,i,a1,a2,a3,a4⟩;have ew:=(e.w k a1).2 i a3 a2;rw [<-ew] at a4;exact ⟨k,i,a1,a2,a3,a4⟩
def HdE.livN (e:HdE D D' f n) (rg:RgS D 26 n f) (nn:D.n<=4096):livN D' f n=livN D f n:=
 kU (dB (e.rg rg) (by rw [e.nn];exact nn) n (aa _)) (dB rg nn n (aa _)) (λx=>by rw [bn (e.rg rg),bn rg];exact e.liv)
def PlS.hdE (h:PlS w0 w Wb lv hd dd Y D H n f R DD) (s:Stp w Y w' Y' D') (e:HdE D D' f n) (er:∀k,k<8->D'.err k=0) (a:D'.cur 0=0):PlS w0 w' Wb lv hd dd Y' D' H n f R DD:=by
 have rg:=h.m.L.hp.rg;have nn:=h.m.nn;have hp:=h.m.L.hp.step s e.nn (e.rg rg) (Q':=Rsv D' f n) (λp hp=>e.rsv (h.m.L.hp.rv p hp)) er a;have m:=h.m.st (HSt.of_stp H s) hp;refine ⟨?_,h.gn.same (λk hk h0 i hi=>(e.w k hk).2 i hi h0) (λk hk=>(e.w k hk).1 0 oM),λx hx=>(h.dp x hx).same (λk hk h0 i hi=>(e.w k hk).2 i hi h0) (λk hk=>(e.w k hk).1 0 oM)⟩;rw [e.livN rg nn.1];exact m
def xK (rg:RgS D 26 n f) (nn:D.n<=4096) (hk:k<n) (h0:0<=(f k).1) (hi:(i:Int)<perS (f k).1) (hj:j<(wordsS (f k).1).toNat) (hv:v<18446744073709551616):
  HdE D (D.store 0 (pOff (26+32*k) (f k).1 i+8*j) v) f n/\(∀x,(D.store 0 (pOff (26+32*k) (f k).1 i+8*j) v).cur x=if x=pOff (26+32*k) (f k).1 i/8+j then v else D.cur x)/\(D.store 0 (pOff (26+32*k) (f k).1 i+8*j) v).exe=D.exe+1/\pOff (26+32*k) (f k).1 i/8+j<D.n*8/\(D.store 0 (pOff (26+32*k) (f k).1 i+8*j) v).err=D.err:=by
 have hc:=rg.cls hk;have m:=rg.lt;have p:=aO h0 hc.1;have q:=bB h0 hc.1 (show 0<=(i:Int) by omega) hi;have hb:=aK h0 hc.1 hi;have hp:=cY (l:=26+32*k) oM h0 hc.1 hi;have ep:pOff (26+32*k) (f k).1 i/8=(26+32*k)*8+offN (f k).1 i+1:=by unfold pOff;omega
 have c:(pOff (26+32*k) (f k).1 i+8*j)/8=(26+32*k)*8+offN (f k).1 i+1+j:=by unfold pOff;omega
 have e8:(pOff (26+32*k) (f k).1 i+8*j)%8=0:=by unfold pOff;omega
 have o:(26+32*k)*8+offN (f k).1 i+1+j<(26+32*k)*8+256:=oM;have a:ib D (pOff (26+32*k) (f k).1 i+8*j)=true:=by
  have:pOff (26+32*k) (f k).1 i+8*j<D.n*64:=oM;simp [ib,e8,this]
 have on:=rg.on;have b:=on.storeCur _ v a;have hs:=on.store _ v a;have hn:∀x,x≠(26+32*k)*8+offN (f k).1 i+1+j->(D.store 0 (pOff (26+32*k) (f k).1 i+8*j) v).cur x=D.cur x:=λx hx=>by
  rw [b];simp only [c];rw [if_neg hx]
 refine ⟨⟨on.storeOn _ v a,rg.gd.store 0 _ v hv,tZ _ _ _ _,λk' d=>⟨λx hx=> ?_,λi' h g=> ?_⟩⟩,λx=> ?_,by rw [hs];rfl,by omega,by rw [hs];rfl⟩
 ·unfold wd;exact hn _ oM
 ·unfold wd;refine hn _ ?_;have r:=aK g (rg.cls d).1 h;by_cases e:k'=k
  ·subst e;have:=xg h0 hc.1 (i:=i) (i':=i');omega
  ·omega
 ·rw [b,ep];simp only [c]
end
section
variable {w0 w w1 w':ab} {Y Y' Y1:Lay} {D D' DF:DS} {H:HL} {n k i j p v Wb:Nat} {f g:Idx} {R:List Nat} {lv hd dd:an} {DD:List (Nat×Int)} {c:Int}
def aic (n7:n<=120):Cln (hbD n).co:=by
 obtain ⟨a1,a2,a3,a4,a5,a6⟩:=aa3 n7;exact Pa a1 a2 (show 26+32*n<=(hlD n).n by omega) (ig (On.zero _) (λx hx=>by simp only [List.mem_singleton] at hx;subst hx;exact ⟨rfl,show 0<(26+32*n)*64 by omega⟩) (YM _)) n (aa _)
def H5 (h:HpS w0 w Y D H n f R) (w1:ab) (e:Ext w w1) (K:K1):ae prog 34 #[hpV H] w1 K=K (.bool H.lk) w1:=by
 have q7:=(h.ext e).cell.2.2.2.2.2.2.2;have lt:=(h.ext e).ltp;refine aD (by kernel_rfl) (Za _ _ _ ?_) K;unfold afD
 (repeat' first|refine am (λ_=> ?_) (λ_=> ?_)|refine ao ?_ ?_|refine zS1 q7 ?_|exact yS1 q7|fail)
def ajx (h:RgS D 26 n f) (nn:D.n<=4096) (on:On DF) (gd:aM DF) (en:DF.n=D.n) (ew:∀x,x<8*D.n->DF.cur x=D.cur x) (gn:GnS D f n) (dp:∀x∈DD,DdP D f n x.1):
  RgS DF 26 n (opF DF 26)/\GnS DF (opF DF 26) n/\(∀x∈DD,DdP DF (opF DF 26) n x.1)/\blM (opF DF 26) (livN DF (opF DF 26) n)=blM f (livN D f n):=by
 have d:=h.lt;have hw:∀k,k<n->∀i,i<256->wd DF (26+32*k) i=wd D (26+32*k) i:=λk hk i hi=>by unfold wd;exact ew _ oM
 have fe:∀k,k<n->(opF DF 26 k).1=(f k).1/\(opF DF 26 k).2.1=(f k).2.1:=λk hk=>by
  have a:=h.ag k hk;unfold opF;rw [hw k hk 0 oM];exact ⟨a.2.1.symm,a.2.2.symm⟩
 have hE:HdE D DF f n:=⟨on,gd,en,λk hk=>⟨λx hx=>hw k hk x oM,λi hi h0=>hw k hk _ (aK h0 (h.cls hk).1 hi).2.2⟩⟩;have r1:=hE.rg h;have rg:RgS DF 26 n (opF DF 26):=⟨on,gd,by rw [en];exact d,λk hk=>⟨(r1.ag k hk).1,rfl,rfl⟩,λk hk h0=>by
  rw [(fe k hk).1] at h0 ⊢;rw [(fe k hk).2];exact r1.sn k hk h0⟩
 have g1:GnS DF f n:=gn.same (λk hk h0 i hi=>(hE.w k hk).2 i hi h0) (λk hk=>(hE.w k hk).1 0 oM);have el:livN DF (opF DF 26) n=livN D f n:=by
  refine kU (dB rg oM n (aa _)) (dB h nn n (aa _)) (λx=> ?_);rw [bn rg,bn h,<-hE.liv];constructor
  ·rintro ⟨k,i,a1,a2⟩;have a3:=a2;rw [(fe k a1).1] at a3;exact ⟨k,i,a1,a3⟩
  ·rintro ⟨k,i,a1,a2⟩;have a3:=a2;rw [<-(fe k a1).1] at a3;exact ⟨k,i,a1,a3⟩
 refine ⟨rg,λk hk h0 i hi=> ?_,λx hx=> ?_,?_⟩
 ·rw [(fe k hk).1] at h0 hi ⊢;exact g1 k hk h0 i hi
 ·obtain ⟨a,b,c⟩:=(dp x hx).same (D3:=DF) (λk hk h0 i hi=>(hE.w k hk).2 i hi h0) (λk hk=>(hE.w k hk).1 0 oM);refine ⟨a,b,?_⟩;rw [(fe _ a).1];exact c
 ·rw [el];exact jT (λq hq=>(fe _ ((((bn h).1 hq).at_ oM h).1.1)).1)
def CrK (w0 w1:ab) (Y1:Lay) (DF:DS) (n:Nat) (lv dd:an) (DD:List (Nat×Int)) (K:K1):Prop:=
 ∀(a:Nat) (H1:HL) (w2:ab),Ext w1 w2->w1.heap.size<=a->H1.lk=false->ah w2 a 38 8 (wlF Y1 H1 n (.slice none 0 0) (.slice none 0 0) (.slice none 0 0))->(∀w3,Ext w2 w3->PlS w0 (abZ w3 a 5 lv (.slice none 0 0) dd) a lv (.slice none 0 0) dd Y1 DF H1 n (opF DF 26) [] DD)->K (.pointer (some ⟨a,0,none⟩)) w2
def P4 (h:PlS w0 w Wb lv hd dd Y D H n f R DD) (e1:Ext w w1) (L:Lv w0 w1 Y1 DF) (nF:∀b,lE w0 Y H Wb b->b<w.heap.size->¬Y1.F b) (on:On DF) (en:DF.n=D.n) (ew:∀x,x<8*D.n->DF.cur x=D.cur x) (er:∀k,k<8->DF.err k=0) (dt:Y1.dt=Y1.tb/\∀i,Y1.ids i=i) (K:K1)
  (hK:CrK w0 w1 Y1 DF n lv dd DD K):
  ae prog 57 #[.pointer (some ⟨Y1.d,0,none⟩),.int .i64 (n:Int)] w1 K:=by
 have rg:=h.m.L.hp.rg;have nn:=h.m.nn;have n0:=h.m.L.hp.ar.n0;have s1:=e1.size;have sw:=h.m.L.hp.ex.size;obtain ⟨j,l,p,el⟩:=ajx rg nn.1 on L.gd en ew h.gn h.dp;refine PD L h.m.L.hp.ar.gl n0 j er (by rw [ew 0 oM];exact h.m.L.hp.idl) dt K (λa H1 w2 e2 hW c av q lk hp ne nw=>hK a H1 w2 e2 hW lk c (λw3 e3=> ?_));have out:∀{u:an} {X:List (Nat×Int)},eh w0 Y H Wb u->BlS w u X->eh w0 Y1 H1 a u:=λou su b hb=>by
  have hl:=su.lt hb;have o:=ou b hb;exact ⟨o.1,nF b o hl,by omega,λx hx e=>by have:=nw x hx;omega⟩
 have g:=(e1.trans e2).trans e3;have no:∀b,(Value.slice none 0 0).ownBlock≠some b:=λb h=>nomatch h
 have M0:PlM w0 w3 a (.slice none 0 0) (.slice none 0 0) (.slice none 0 0) Y1 DF H1 n (opF DF 26) [] [] [] []:=
  ⟨⟨hp.ext e3,c.ext e3,by omega,ne⟩,eh.nil _ _ _ _,eh.nil _ _ _ _,eh.nil _ _ _ _,SlO.nil _ _ _,SlO.nil _ _ _,SlO.nil _ _ _,λb _=>no b,λb _=>no b,λb _=>no b⟩
 refine ⟨?_,l,p⟩;rw [el];exact (M0.put3 (Frm.refl _ _) (h.m.sL.ext g) (SlO.nil _ _ _) (h.m.sD.ext g) (out h.m.oL h.m.sL) (eh.nil _ _ _ _) (out h.m.oD h.m.sD) (λb hb=>nomatch hb) (λb hb=>nomatch hb) h.m.dl).2
def acj {m:Nat} {xu:an} {us:List Nat} (h:PlS w0 w Wb lv hd dd Y D H n f R DD) (hc:Cln D.co) (hx:D.exe<1000000000) (l:RdS m w xu (u8L us)) (j:∀x∈us,x<256) (p:us.length<=20) (K:K1)
  (hK:∀(w1:ab) (Y1:Lay) (DF:DS),Ext w w1->(∀w5,Ext w1 w5->∀K,CrK w0 w5 Y1 DF n lv dd DD K->ae prog 57 #[.pointer (some ⟨Y1.d,0,none⟩),.int .i64 (n:Int)] w5 K)->K (.pointer (some ⟨Y1.d,0,none⟩)) w1):
  ae prog 49 #[.pointer (some ⟨Y.d,0,none⟩),xu] w K:=by
 have rg:=h.m.L.hp.rg;refine adR h.m.L.hp.ar.L.dv rg.gd hx l j oM _ (λF w1 Y1 e1 hF hd1 c g=> ?_);have a:=TC rg.gd.n0 rg.gd.n (F:=F) (λi hi=>hF.lt rg.gd i hi);have L1:Lv w0 w1 Y1 (DS.init D.n ((List.range (8*D.n)).map F)):=⟨hd1,a.1,h.m.L.hp.ex.trans e1,λx hx=>ap h.m.L.hp.ex.size (c x hx)⟩;have ew:∀x,x<8*D.n->(DS.init D.n ((List.range (8*D.n)).map F)).cur x=D.cur x:=λx hx=>by
  rw [<-hF.cln hc x hx];exact kM F hx
 exact hK w1 Y1 _ e1 (λw5 e K hK=>P4 h (e1.trans e) (L1.ext e) (λb o hb hf=>by have:=c b hf;omega) a.2 rfl ew (λk _=>rfl) g K hK)
end
noncomputable section
variable (K:K1) (x0 x1 x2 x3 x4 x5 x6 x7 x8 x9 x10 x11 x12 x13 x14 x15 x16 x17 x18 x19 x20 x21 x22 x23 x24 x25 x26 x27 x28 x29 x30 x31 x32 x33 x34 x35:an) (w:ab)
noncomputable def ack:=uD Tryz.f11 (.s .o (.s .o (.s .o (.s .o (.x 132 (.s .o (.b (.l [35] 25769803908 70334384439872 .o))) .o)))))
abbrev acl:=aU prog Tryz.f11.results.toList
def H6:KF:=kO 132 (cP (pw ack 5 31) (acl K) (acl K) nX)
def MH:Prop:=H6 K (fy 115 132 [x2,x7]) w
def MI:Prop:=aH [35] 25769803908 (λE=>cP (pw ack 8 47) E (acl K) (exB 0 (H6 K) nX)) (fy 115 60129542276 [x2,x7,x33,x34,x35]) w
def H7:Prop:=
 nS x7 w λa w=>
 fA 38 a 0 w λb w=>
 lD 30 b w λc w=>
 cL 49 (pA #[c,x2]) w λd w=>
 bM .eql 30 (.tmp 52) (.const (.pointer none)) d (.pointer none) w λe w=>
 af e (
 K (.bool false) w) (
 nS x7 w λf w=>
 fA 38 f 4 w λg w=>
 lD 3 g w λh w=>
 cL 57 (pA #[d,h]) w λi w=>
 bM .eql 23 (.tmp 60) (.const (.pointer none)) i (.pointer none) w λj w=>
 af j (
 K (.bool false) w) (
 nR x7 w.drew λl=>
 fR 38 l 5 w.drew λm=>
 fR 36 m 0 w.drew λn=>
 lR 34 n w.drew λo=>
 nR x7 w.drew λp=>
 fR 38 p 5 w.drew λq=>
 fR 36 q 2 w.drew λs=>
 lR 34 s w.drew λt=>
 rd prog (Instr.build 36 #[(0,o),(2,t)]) w.drew λv=>
 nR i w.drew λy=>
 fR 38 y 5 w.drew λz=>
 sD 36 z v w.drew λw=>
 cL 25 (pA #[i]) w λa0 w=>
 ev prog (Op.unary .not a0) w λa1 w=>
 af a1 (
 K (.bool false) w) (
 nR x7 w.drew λa2=>
 fR 38 a2 0 w.drew λa3=>
 lR 30 a3 w.drew λa4=>
 nR x7 w.drew λa5=>
 fR 38 a5 4 w.drew λa6=>
 lR 3 a6 w.drew λa7=>
 cL 57 (pA #[a4,a7]) w.drew λa8 w=>
 bM .eql 23 (.tmp 88) (.const (.pointer none)) a8 (.pointer none) w λa9 w=>
 af a9 (
 K (.bool false) w) (
 nS i w λb0 w=>
 fA 38 b0 5 w λb1 w=>
 lD 36 b1 w λb2 w=>
 nS a8 w λb3 w=>
 fA 38 b3 5 w λb4 w=>
 sD 36 b4 b2 w λw=>
 cL 25 (pA #[a8]) w λb5 w=>
 gV b5 true i w λb6 w=>
 gd b5 true (λk=>nS b6 w k) w λb7 w=>
 gd b5 true (λk=>fA 38 b7 3 w k) w λb8 w=>
 gd b5 true (λk=>lD 33 b8 w k) w λb9 w=>
 gC b5 true 34 (pA #[b9]) w λc0 w=>
 gd b5 true (λk=>ev prog (Op.unary .not c0) w k) w λc1 w=>
 au b5 c1 (.bool false) w λc2 w=>
 gV c2 true a8 w λc3 w=>
 gd c2 true (λk=>nS c3 w k) w λc4 w=>
 gd c2 true (λk=>fA 38 c4 3 w k) w λc5 w=>
 gd c2 true (λk=>lD 33 c5 w k) w λc6 w=>
 gC c2 true 34 (pA #[c6]) w λc7 w=>
 gd c2 true (λk=>ev prog (Op.unary .not c7) w k) w λc8 w=>
 au c2 c8 (.bool false) w λc9 w=>
 K c9 w))))
def UB:MH K x2 x7 w=H7 K x2 x7 w:=aJ λσ=>kR
def xN (E1:VP1):Prop:=
 bT .lss 3 35 34 x35 x34 w λa w=>
 af a (
 iA 49 x33 x35 w λb w=>
 lD 53 b w λc w=>
 ev prog (Instr.alloc 53 true (.tuple #[])) w λd w=>
 sD 53 d c w λw=>
 lD 53 d w λe w=>
 cL 26 (pA #[e]) w λf w=>
 af f (
 K (.bool true) w) (
 lD 53 d w λg w=>
 cL 27 (pA #[x7,g]) w λh w=>
 ev prog (Op.unary .not h) w λi w=>
 af i (
 K (.bool false) w) (
 bC .add 3 35 1 x35 w λj w=>
 E1 j w))) (
 MH K x2 x7 w)
def H8 (I:VP1) (μ:M1) (h0:I x35 w) (hr:∀x35 w,I x35 w->∀E1,Q1 I μ x35 w E1->xN K x2 x7 x33 x34 x35 w E1):MI K x2 x7 x33 x34 x35 w:=⟨I,μ,h0,λσ w hI E hE=>cast kR (hr (σ 35) w hI E hE)⟩
def agF:Prop:=
 cL 13 (pA #[]) w λa w=>
 ev prog (Op.unary .not a) w λb w=>
 gV b false x1 w λc w=>
 gd b false (λk=>lN 49 c w k) w λd w=>
 gd b false (λk=>bC .gtr 3 17 24 d w k) w λe w=>
 au b (.bool true) e w λf w=>
 gV f false x2 w λg w=>
 gd f false (λk=>lN 51 g w k) w λh w=>
 gd f false (λk=>bC .gtr 3 22 20 h w k) w λi w=>
 au f (.bool true) i w λj w=>
 af j (
 cL 13 (pA #[]) w λl w=>
 K l w) (
 cV 5 3 x0 w λm w=>
 bC .rem 3 27 6 m w λn w=>
 bM .add 3 (ci 2) (.tmp 28) (.int .i64 2) n w λo w=>
 cL 14 (pA #[o]) w λp w=>
 bM .eql 23 (.tmp 31) (.const (.pointer none)) p (.pointer none) w λq w=>
 af q (
 K (.bool false) w) (
 lN 49 x1 w λs w=>
 MI K x2 p x1 s (.int .i64 0) w))
def acm:=cA3 Tryz.func11 ack.2 agF
end
section
variable {w0 w w1 w':ab} {Y Y' Y1:Lay} {D D' DF:DS} {H:HL} {n k i j p v Wb m:Nat} {f g:Idx} {R us:List Nat} {lv hd dd xu:an} {DD:List (Nat×Int)} {c:Int}
def ajy (h:PlS w0 w Wb lv hd dd Y D H n f R DD) (hc:Cln D.co) (hx:D.exe<1000000000) (hD:DD.length<50000) (u:RdS m w xu (u8L us)) (y:∀x∈us,x<256) (z:us.length<=20) (K:K1) (hK:∀w',Ext w0 w'->K (.bool true) w'):
  MH K xu (.pointer (some ⟨Wb,0,none⟩)) w:=by
 have rg:=h.m.L.hp.rg;have nn:=h.m.nn;have b0:=aE h.m.L.bx;have q0:=b0.1;have lW:=h.m.L.bx.lt;have p:=h.m.L.hp.dt;have o1:=aP h.m.sL;have o3:=aP h.m.sD;have l:=λ(w5:ab) (e:Ext w w5) (K:K1) hK=>P4 h e (h.m.L.hp.ar.L.ext e) (λb o _=>o.2.1) rg.on rfl (λ_ _=>rfl) h.m.L.hp.er p K hK
 rw [UB];unfold H7;refine zS1 q0 ?_;refine acj h hc hx u y z _ (λw1 Y1 DF e1 k=> ?_);have h1:=h.ext e1;have q4:=(aE h1.m.L.bx).2.2.2.2.1;have N:=h1.m.L.bx.lt;refine zS1 q4 ?_;refine k _ xZ _ (λWx Hx w2 e2 s C cx px=> ?_);have g:Ext w1 w2:=Ext.trans xZ e2;have h2:=h1.ext g;have b2:=aE h2.m.L.bx;have q5:=b2.2.2.2.2.2.1;have q7:=b2.2.2.2.2.2.2.2;have G:=h2.m.L.bx.lt;have a:=aE cx;have x5:=a.2.2.2.2.2.1;have x6:=a.2.2.2.2.2.2.1;have x7:=a.2.2.2.2.2.2.2;have fx:=cx.frz;have lx:=cx.lt;refine zS8 q5 q7 x5 x6 x7 fx o1 o3 ?_;have P1:=px w2.drew xZ;have P:Ext w w2:=e1.trans g;have F:w.heap.size<=Wx:=ap e1.size (by simpa only [RZ] using s);have t:Ext w (((w2.drew.setCell ⟨Wx,5,none⟩ lv).setCell ⟨Wx,6,none⟩ (.slice none 0 0)).setCell ⟨Wx,7,none⟩ dd):=xZ;refine gU P1 oM (by simp) _ (λw3 e3=> ?_);have d:Ext w w3:=t.trans e3;have b3:=aE (h.ext d).m.L.bx;have r0:=b3.1;have r4:=b3.2.2.2.2.1;have M:=(h.ext d).m.L.bx.lt;have P3:=P1.ext e3;refine zS2 r0 r4 ?_;refine l _ xZ _ (λWy Hy w4 e4 r v cy py=> ?_);have i:Ext w3 w4:=Ext.trans xZ e4;have J:w3.heap.size<=Wy:=by simpa only [RZ] using r
 have b4:=aE (P3.ext i).m.L.bx;have B:=b4.2.2.2.2.2.1;have A:=b4.2.2.2.2.2.2.1;have q:=b4.2.2.2.2.2.2.2;have I:=(P3.ext i).m.L.bx.lt;have c:=aE cy;have y5:=c.2.2.2.2.2.1;have y6:=c.2.2.2.2.2.2.1;have y7:=c.2.2.2.2.2.2.2;have fy:=cy.frz;have ly:=cy.lt;have j:Ext w3 (((w4.setCell ⟨Wy,5,none⟩ lv).setCell ⟨Wy,6,none⟩ (.slice none 0 0)).setCell ⟨Wy,7,none⟩ dd):=xZ;have P2:=py w4 (Ext.refl _);refine jH B A q y5 y6 y7 fy o1 o3 o3 o3 ?_;refine gU P2 oM (by simp) _ (λw5 e5=> ?_);have P5:=P3.ext (j.trans e5);have P6:=P2.ext e5;have k1:=H5 P5.m.L.hp;have k2:=H5 P6.m.L.hp;rw [C] at k1;rw [v] at k2;have z3:=(aE P5.m.L.bx).2.2.2.1;have z4:=(aE P6.m.L.bx).2.2.2.1;have E:=P5.m.L.bx.lt;have O:=P6.m.L.bx.lt;refine vf z3 z4 k1 k2 ?_;exact hK w5 (h.m.L.hp.ex.trans (d.trans (j.trans e5)))
def PlC (w0 w:ab) (Wb:Nat) (H:HL) (n j:Nat):Prop:=∃(Y:Lay) (D:DS) (f:Idx) (R:List Nat) (DD:List (Nat×Int)) (lv hd dd:an),PlS w0 w Wb lv hd dd Y D H n f R DD/\D.exe<=100+1000*j/\R.length<=j/\DD.length<=100*j/\Cln D.co
def ajz {al:List eU} {sv:an} {mm:Nat} (h:PlC w0 w Wb H n 0) (s:H.av=none) (v:H.lk=false) (g:n<=120) (t:eE mm w0 sv al) (ok:∀x∈al,dO x) (y:al.length<=60) (k:RdS m w0 xu (u8L us)) (p:∀x∈us,x<256) (q:us.length<=20) (K:K1) (hK:∀w',Ext w0 w'->K (.bool true) w'):
  MI K xu (.pointer (some ⟨Wb,0,none⟩)) sv (.int .i64 (al.length:Int)) (.int .i64 0) w:=by
 apply H8 (I:=λz w'=>∃j:Nat,z= .int .i64 (j:Int)/\j<=al.length/\PlC w0 w' Wb H n j) (μ:=λz _=>al.length-(intOf z).toNat)
 ·exact ⟨0,rfl,by omega,h⟩
 ·intros;rename_i z w1 hI E1 hE;obtain ⟨j,rfl,hj,Y,D,f,R,DD,lv,hd,dd,a,b1,b2,b3,b4⟩:=hI;have es:(j:Int)+1=((j+1:Nat):Int):=oM;have c:=a.m.L.hp.ex;obtain ⟨sa,sc,rfl,hs⟩:=t.ext c;by_cases e:j<al.length
  ·have hx:al[j]? =some al[j]:=List.getElem?_eq_getElem e;have u:=ok _ (List.getElem_mem e);generalize al[j]=x at*;obtain ⟨b,o,tv,dv,rfl,hb,hc,r1,r2⟩:=hs j x hx;have x0:w1.cell? ⟨b,o+j*6,none⟩=some (.int .u8 (x.kd:Int)):=hc 0 oM;have x1:w1.cell? ⟨b,o+j*6+1,none⟩=some (.int .i64 x.th):=hc 1 oM;have x2:w1.cell? ⟨b,o+j*6+2,none⟩=some (.int .i64 x.wd):=hc 2 oM;have x3:w1.cell? ⟨b,o+j*6+3,none⟩=some (.int .u8 (x.mk:Int)):=hc 3 oM;have x4:w1.cell? ⟨b,o+j*6+4,none⟩=some tv:=hc 4 oM;have x5:w1.cell? ⟨b,o+j*6+5,none⟩=some dv:=hc 5 oM;have r:=r1;have l:=r2;obtain ⟨ta,tc,rfl⟩:=dg r1;obtain ⟨da,dc,rfl⟩:=dg r2;have eB:=Ext.alloc_self w1 (.cells #[.int .u8 (x.kd:Int),.int .i64 x.th,.int .i64 x.wd,.int .u8 (x.mk:Int),.slice ta x.L.length tc,.slice da x.M.length dc] 53);have cB:ah (w1.alloc (.cells #[.int .u8 (x.kd:Int),.int .i64 x.th,.int .i64 x.wd,.int .u8 (x.mk:Int),.slice ta x.L.length tc,.slice da x.M.length dc] 53)) w1.heap.size 53 6 (apF x (.slice ta x.L.length tc) (.slice da x.M.length dc)):=ah.new w1 [.int .u8 (x.kd:Int),.int .i64 x.th,.int .i64 x.wd,.int .u8 (x.mk:Int),.slice ta x.L.length tc,.slice da x.M.length dc] 53;unfold xN;simp (disch:=try exact dZ) only [↓RBp,↓RA,↓reduceIte,Nat.reduceAdd,Nat.reduceMul,Nat.reduceEqDiff,RB,RX,RA2,x0,x1,x2,x3,x4,x5,List.getElem?_toArray,List.getElem?_cons_succ,List.getElem?_cons_zero,Option.isSome_some,Bool.and_self,List.setIfInBounds_toArray,List.set_cons_succ,List.set_cons_zero];refine Ex _ (λ_ w2 e2=> ?_) (λg1 g2 w2 e2=> ?_) rfl rfl rfl rfl
   ·refine zS0 ?_;exact hK w2 (c.trans (eB.trans e2))
   ·have c2:=cB.ext e2;have d0:w2.cell? ⟨w1.heap.size,0,none⟩=some (.int .u8 (x.kd:Int)):=c2.cell (i:=0) oM;have d1:w2.cell? ⟨w1.heap.size,1,none⟩=some (.int .i64 x.th):=c2.cell (i:=1) oM;have d2:w2.cell? ⟨w1.heap.size,2,none⟩=some (.int .i64 x.wd):=c2.cell (i:=2) oM;have d3:w2.cell? ⟨w1.heap.size,3,none⟩=some (.int .u8 (x.mk:Int)):=c2.cell (i:=3) oM;have d4:w2.cell? ⟨w1.heap.size,4,none⟩=some (.slice ta x.L.length tc):=c2.cell (i:=4) oM;have d5:w2.cell? ⟨w1.heap.size,5,none⟩=some (.slice da x.M.length dc):=c2.cell (i:=5) oM;have d:=eB.trans e2;refine zS6 d0 d1 d2 d3 d4 d5 ?_;refine Ey (a.ext d) s v u (r.ext d) (l.ext d) (λ_=>⟨g1,g2⟩) g oM oM oM _ (λY' D' f' R' DD' lv' hd' dd' w3 P pd=> ?_);have px:=pd.ex;have pr:=pd.rl;have A:=pd.dl;refine zS1 es ?_;apply hE
    ·exact ⟨j+1,rfl,by omega,Y',D',f',R',DD',lv',hd',dd',P,by omega,by omega,by omega,pd.cl b4⟩
    ·simp only [intOf];omega
  ·obtain rfl:j=al.length:=oM;unfold xN;refine zS0 ?_;exact ajy a b4 oM oM (k.ext c) p q K hK
def H9 {al:List eU} {sv:an} {a:Nat} (hG:bt w) (ha:a<256) (f:eE w.heap.size w sv al) (ok:∀x∈al,dO x) (g:RdS m w xu (u8L us)) (j:∀x∈us,x<256) (K:K1) (hK:∀w',Ext w w'->K (.bool true) w'):
  ae prog 11 #[.int .u8 (a:Int),sv,xu] w K:=by
 have e1:(a:Int)%6=((a%6:Nat):Int):=oM;have e2:2+((a%6:Nat):Int)=((2+a%6:Nat):Int):=oM;have hA:=f;have hU:=g;obtain ⟨sa,sc,rfl,_⟩:=f;obtain ⟨ua,uc,rfl⟩:=dg g;refine acm _ _ _ _ _ ?_;unfold agF;refine dA hG _ (λw1 h1=> ?_);have d:=hG.ext h1;by_cases hl:al.length<=24
 ·have b:¬((24:Int)<(al.length:Int)):=oM;by_cases hu:us.length<=20
  ·have c:¬((20:Int)<(us.length:Int)):=oM;refine zS4 b c e1 e2 ?_;refine jS (n:=2+a%6) d oM oM _ (λWb H Y w2 k l i L=> ?_);have hb:=qk (n:=2+a%6) oM;have hR:PlC w1 w2 Wb H (2+a%6) 0:=⟨Y,hbD (2+a%6),opF (hbD (2+a%6)) 26,[],[],.slice none 0 0,.slice none 0 0,.slice none 0 0,jU oM L,by have:=hb.2.2.1;omega,by simp,by simp,aic oM⟩;have h:=ajz hR k i oM (hA.ext h1) ok oM (hU.ext h1) j hu K (λw' e=>hK w' (h1.trans e));refine zS0 ?_;exact h
  ·have c:(20:Int)<(us.length:Int):=oM;refine zS2 b c ?_;refine dA (d.ext xZ) _ (λw2 h2=> ?_);exact hK w2 (h1.trans (Ext.trans xZ h2))
 ·have b:(24:Int)<(al.length:Int):=oM;refine zS1 b ?_;refine dA (d.ext xZ) _ (λw2 h2=> ?_);exact hK w2 (h1.trans (Ext.trans xZ h2))
end
end Go.Proofs.YtmpehclnnjgmcaaGreatDoor
