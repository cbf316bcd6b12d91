/-
  Part A of the proof in YtmpehclnnjgmcaaGreatDoorDaRowSe.
-/
import Derived.Test.YtmpehclnnjgmcaaGreatDoorDa3
import Derived.Test.YtmpehclnnjgmcaaGreatDoorDa6
import Derived.Laws.BytesString
import Derived.Laws.Strings
import Derived.Test.YtmpehclnnjgmcaaGreatDoorDa4
import Derived.Test.YtmpehclnnjgmcaaGreatDoorDa2
import Derived.Test.YtmpehclnnjgmcaaGreatDoorDa1
set_option linter.unusedSimpArgs false
set_option linter.unusedVariables false
set_option maxHeartbeats 20000000
set_option maxRecDepth 100000
set_option linter.defProp false
open Go.Proofs.Tryz (prog)
open Go.RowKit (intOf)
open Go renaming World->an,Value->ap
open List renaming length_append->aq
open Nat renaming le_refl->aa
namespace Go.Proofs.YtmpehclnnjgmcaaGreatDoor
open Go Go.Sh
structure Wm (w:an) (b o:Nat) (W:Nat->Nat):Prop where
 cell:∀{i:Nat},i<256->w.cell? ⟨b,o+i,none⟩=some (u64 (W i))
 frz:∀i,w.frozen? ⟨b,i,none⟩=false
section
variable {w w':an} {W:Nat->Nat} {b ob cap:Nat} {c:Int}
end
def fQ (m:Nat) (w:an) (v:ap) (al:List (List Int×List Nat×List Int)):Prop:=∃a cap,v= .slice a al.length cap/\∀j x,al[j]? =some x->∃b o s1 s2 s3,a=some ⟨b,o,none⟩/\b<m/\w.cell? ⟨b,o+j*3,none⟩=some s1/\w.cell? ⟨b,o+j*3+1,none⟩=some s2/\w.cell? ⟨b,o+j*3+2,none⟩=some s3/\RdS m w s1 (aX x.1)/\RdS m w s2 (u8L x.2.1)/\RdS m w s3 (aX x.2.2)
section
variable {w w':an} {Y:Lay} {D:DS} {l m:Nat} {v:ap} {al:List (List Int×List Nat×List Int)}
def fQ.ext (h:fQ m w v al) (e:Ext w w'):fQ m w' v al:=by
 obtain ⟨a,cap,hv,h⟩:=h;refine ⟨a,cap,hv,λj x hx=> ?_⟩;obtain ⟨b,o,s1,s2,s3,ha,hb,c1,c2,c3,r1,r2,r3⟩:=h j x hx;exact ⟨b,o,s1,s2,s3,ha,hb,e.cell_some c1,e.cell_some c2,e.cell_some c3,r1.ext e,r2.ext e,r3.ext e⟩
def wdL (W:Nat->Nat) (n:Nat):List ap:=(List.range n).map λj=>u64 (W j)
def il {W:Nat->Nat} {n j:Nat} (h:j<n):(wdL W n)[j]? =some (u64 (W j)):=by simp [wdL,h]
def Wm.of_sl {W:Nat->Nat} {b o n cap:Nat} (h:SlO w 26 1 (.slice (some ⟨b,o,none⟩) n cap) 256 (wdL W 256)):Wm w b o W:=⟨λhi=>h.cell rfl (il hi),λi=>h.frz rfl i⟩
end
section
variable {w0 w w':an} {Y Y':Lay} {D D':DS} {H:HL} {n k Wb:Nat} {f f3:Idx} {R keep free:List Nat} {v:ap}
def Uz (h:HpS w0 w Y D H n f R) (P:bj D f n keep free) (hx:D.exe<900000000) (hs:SlO w 98 2 v (bW D f keep free n).length (wrL (bW D f keep free n))) (hl:keep.length+free.length<=40) (K:K1)
  (hK:sg D.n (bW D f keep free n)->∀w2 Y2,HSt w Y H w2 Y2->HpG (λ_=>True) w0 w2 Y2 (D.run 0 (rpI (bW D f keep free n))) H n f R->K (.int .i64 0) w2):
  ae prog 43 #[.pointer (some ⟨H.B,0,none⟩),v] w K:=by
 have b:=h.n4;have a:=P.all n (aa _);have d:=P.le;refine GP h.ar.L.dv h.rg.gd h.gl oM rfl h.lg h.rg.on.err h.rg.on.off h.idl oM (bW D f keep free n) v hs (P.nd n (aa _)) oM (λx hx=> ?_) K (λc=>by omega) (λhw w2 Y2 s2=> ?_)
 ·have:=a x hx;exact ⟨this.2.2.1,by omega,this.1,this.2.2.2⟩
 ·have g:=ut P b.2 h.idl hw;rw [g.1.err];refine hK hw w2 Y2 (HSt.of_stp H s2) (h.step s2 g.2.2.1 g.2.1.rg (λ_ _=>trivial) (λj hj=> ?_) g.2.2.2.2.1);by_cases e:j=0
  ·subst e;exact g.1.err
  ·rw [gD e];exact h.er j hj
def aia (h:HpS w0 w Y D H n f R) (P:bj D f n keep free) (a:∀p∈keep,p∈R) (hw:sg D.n (bW D f keep free n)) (fs:FS f f3) (h3:HpG (λ_=>True) w0 w' Y' (D.run 0 (rpI (bW D f keep free n))) H n f3 (rmL R keep)):
  yq D f n keep free (D.run 0 (rpI (bW D f keep free n))) f3/\HpS w0 w' Y' (D.run 0 (rpI (bW D f keep free n))) H n f3 (rmL R keep):=by
 have g:=ut P h.n4.2 h.idl hw;refine ⟨⟨P,g.2.1,fs,g.2.2.1,g.2.2.2.1,g.2.2.2.2.2,rfl⟩,h3.mapQ (λq hq _=> ?_)⟩;refine fs.rsv.2 (g.2.1.rsv P (h.rv q (eQ.1 hq).1) (λhm=> ?_));obtain ⟨p,hp,e⟩:=List.mem_map.1 hm;have:=sO h.nd (a p hp) (eQ.1 hq).1 e;exact (eQ.1 hq).2 (this▸hp)
end
end Go.Proofs.YtmpehclnnjgmcaaGreatDoor
namespace Go.Sh
open Go
def UA (l:List Nat):ByteArray:=(l.map λ(n:Nat)=>(n:Int)).foldl (λr n=>r.push (UInt8.ofNat n.toNat)) ByteArray.empty
def aey {P:Program} {a dst e:TypeId} (hs:P.underlying a=some (.slice e)) (he:P.underlying e=some (.int .u8)) (hd:P.underlying dst=some .string) {b o n cap:Nat} (l:List Nat) {w:an} (h:aT w b o n=some (l.map λ(x:Nat)=>Value.int .u8 (x:Int))):
  (convert a dst (.slice (some ⟨b,o,none⟩) n cap)).run P w= .ok (.string (UA l)) w:=by
 rw [run_convert_bytes_string w a dst e _ n cap hs he hd];have h2:(l.map λ(x:Nat)=>Value.int .u8 (x:Int))=(l.map λ(n:Nat)=>(n:Int)).map (Value.int .u8):=by simp [List.map_map,Function.comp_def]
 rw [h2] at h;have h3:=iZ (P:=P) (w:=w) (b:=b) (o:=o) n 0 #[] _ h;simp only [Array.empty_append] at h3;exact run_bytesToString w _ n cap _ h3
def EN {w:an} {b:Nat}:∀{l:List ap} {o:Nat},(∀j u,l[j]? =some u->w.cell? ⟨b,o+j,none⟩=some u)->aT w b o l.length=some l:=by
 intro l
 induction l with
 |nil=>intro o _;rfl
 |cons x l ih=>
  intro o h;simp only [List.length_cons];unfold aT;have h0:=h 0 x rfl;simp only [Nat.add_zero] at h0;rw [h0];simp only;rw [ih (o:=o+1) (λj u hj=>by rw [show o+1+j=o+(j+1) by omega];exact h (j+1) u (by simpa using hj))]
end Go.Sh
namespace Go.Proofs.YtmpehclnnjgmcaaGreatDoor
open Go Go.Sh
section
variable {w0 w w':an} {Y Y':Lay} {D D':DS} {b n m N Q s:Nat}
def agD (h:Dv w Y D) (g:aM D) (hN:8*(8*D.n)=N) (hQ:Y.d=Q) (K:K1) (hK:∀b' w',Ext w w'->w.heap.size<=b'->ah w' b' 5 N (λi=> .int .u8 ((wB D.cur i:Nat):Int))->K (.slice (some ⟨b',0,none⟩) N N) w'):
  ae prog 41 #[.pointer (some ⟨Q,0,none⟩)] w K:=by
 subst hN;subst hQ;have hn:=g.n;have a:=g.n0;refine Yb _ _ _ ?_;unfold afo;refine zS1 h.R ?_;exact AV h.cu (λi hi=>g.cur i hi) oM oM K hK
def b2s {F:Nat->Nat} (h:ah w b 5 N (λi=> .int .u8 ((F i:Nat):Int))) {o m cap:Nat} (hm:o+m<=N):(convert 51 9 (.slice (some ⟨b,o,none⟩) m cap)).run prog w= .ok (.string (UA ((List.range m).map λi=>F (o+i)))) w:=by
 have hl:(((List.range m).map λi=>F (o+i)).map λ(x:Nat)=>Value.int .u8 (x:Int)).length=m:=by simp
 have hc:=EN (w:=w) (b:=b) (l:=((List.range m).map λi=>F (o+i)).map λ(x:Nat)=>Value.int .u8 (x:Int)) (o:=o) (λj u hj=>by
  have a:=(List.getElem?_eq_some_iff.1 hj).1;rw [hl] at a;rw [h.cell oM,<-hj];simp [a])
 rw [hl] at hc;exact aey (e:=5) (by kernel_rfl) (by kernel_rfl) (by kernel_rfl) _ hc
def xM {P:Program} (t:TypeId) (x y:Operand) (a b:ByteArray) (w:an):(aG .neq t x y (.string a) (.string b)).run P w= .ok (.bool (!(a.toList==b.toList))) w:=by
 unfold aG;rw [Sem.run_bind];have:(eqGuard .neq t x y (.string a) (.string b)).run P w= .ok () w:=rfl;rw [this,Result.andThen_ok,binOp_string_neq];rfl
end
noncomputable section
variable (K:K1) (x0 x1 x2 x3 x4 x5 x6 x7 x8 x9 x10 x11 x12 x13 x14 x15 x16 x17 x18 x19 x20 x21 x22 x23 x24 x25 x26 x27 x28 x29 x30 x31 x32 x33 x34:ap) (w:an)
noncomputable def aez:=uD Tryz.f8 (.s .o (.s .o (.s .o (.s .o (.x 32 (.s .o (.b (.l [34] 12884901920 44601490397061246283071436545296705832222608 (.s .o (.s .o (.x 30064771104 .o .o)))))) .o)))))
abbrev aeA:=aU prog Tryz.f8.results.toList
def EO:KF:=kO 32 (cP (pw aez 5 31) (aeA K) (aeA K) nX)
def agE:Prop:=EO K (fy 151 32 [x5]) w
def acg:Prop:=aH [34] 12884901920 (λE=>cP (pw aez 8 47) E (aeA K) (exB 0 (EO K) nX)) (fy 151 30064771104 [x5,x32,x33,x34]) w
def aeB (E1:VP1):KF:=kO 30064771104 (cP (pw aez 11 1839) (sE1 E1 34) (aeA K) (exB 0 (EO K) nX))
def H3 (K:K1) (E1:VP1) (x5 x32 x33 x34:ap) (w:an):Prop:=aeB K E1 (fy 151 30064771104 [x5,x32,x33,x34]) w
def PZ:Prop:=
 nS x5 w λa w=>
 fA 38 a 1 w λb w=>
 lD 31 b w λc w=>
 cL 28 (pA #[c]) w λd w=>
 bC .eql 28 149 0 d w λe w=>
 K e w
def ach:agE K x5 w=PZ K x5 w:=aJ λσ=>kR
def EP (E1:VP1):Prop:=
 bT .lss 3 34 33 x34 x33 w λa w=>
 af a (
 iA 49 x32 x34 w λb w=>
 lD 53 b w λc w=>
 ev prog (Instr.alloc 53 true (.tuple #[])) w λd w=>
 sD 53 d c w λw=>
 lD 53 d w λe w=>
 cL 26 (pA #[e]) w λf w=>
 af f (
 K (.bool true) w) (
 fA 53 d 0 w λg w=>
 lD 5 g w λh w=>
 bU .rem 5 41 .u8 8 h w λi w=>
 bU .lss 5 42 .u8 5 i w λj w=>
 af j (
 lD 53 d w λl w=>
 cL 27 (pA #[x5,l]) w λm w=>
 ev prog (Op.unary .not m) w λn w=>
 af n (
 K (.bool false) w) (
 H3 K E1 x5 x32 x33 x34 w)) (
 lD 53 d w λo w=>
 cL 40 (pA #[x5,o]) w λp w=>
 eX p 0 w λq w=>
 eX p 1 w λs w=>
 eX p 2 w λt w=>
 eX p 3 w λv w=>
 lN 25 q w λy w=>
 lN 25 s w λz w=>
 bT .add 3 57 59 y z w λa0 w=>
 bC .gtr 3 60 40 a0 w λa1 w=>
 af a1 (
 K (.bool true) w) (
 nS x5 w λa2 w=>
 fA 38 a2 5 w λa3 w=>
 lD 36 a3 w λa4 w=>
 cL 24 (pA #[a4,t,v]) w λa5 w=>
 eX a5 0 w λa6 w=>
 eX a5 1 w λa7 w=>
 ev prog (Instr.alloc 36 true (.tuple #[])) w λa8 w=>
 sD 36 a8 a6 w λw=>
 nS x5 w λa9 w=>
 fA 38 a9 0 w λb0 w=>
 lD 30 b0 w λb1 w=>
 cL 41 (pA #[b1]) w λb2 w=>
 nS x5 w λb3 w=>
 fA 38 b3 3 w λb4 w=>
 lD 33 b4 w λb5 w=>
 cL 42 (pA #[b5,q,s]) w λb6 w=>
 eX b6 0 w λb7 w=>
 eX b6 1 w λb8 w=>
 rT .neq 3 87 88 b8 a7 w.drew λb9=>
 gW b9 false a7 λc0=>
 gdR b9 false (λk=>rC .neq 3 91 0 c0 w.drew k) λc1=>
 gW b9 false c1 λc2=>
 gW c2 true b7 λc3=>
 gdR c2 true (λk=>rd prog (Builtin.len_ #[79] 3 #[c3]) w.drew k) λc4=>
 gdR c2 true (λk=>rC .gtr 3 95 0 c4 w.drew k) λc5=>
 gdR b9 false (λk=>bh c2 c5 (.bool false) k) λc6=>
 bh b9 (.bool true) c6 λc7=>
 gW c7 false x5 λc8=>
 gN c7 false c8 w.drew λc9=>
 gF c7 false 38 c9 0 w.drew λd0=>
 gL c7 false 30 d0 w.drew λd1=>
 gW c7 false b2 λd2=>
 gdR c7 false (λk=>rd prog (convert 51 9 d2) w.drew k) λd3=>
 gC c7 false 41 (pA #[d1]) w.drew λd4 w=>
 (gq c7 false (ag prog (convert 51 9 d2) w d3))/\
 gdR c7 false (λk=>rd prog (convert 51 9 d4) w k) λd5=>
 gdR c7 false (λk=>rT .neq 9 105 107 d5 d3 w k) λd6=>
 bh c7 (.bool true) d6 λd7=>
 gW d7 false x5 λd8=>
 gC d7 false 25 (pA #[d8]) w λd9 w=>
 gdR d7 false (λk=>rd prog (Op.unary .not d9) w k) λe0=>
 bh d7 (.bool true) e0 λe1=>
 af e1 (
 K (.bool false) w) (
 bC .neq 3 115 0 a7 w λe2 w=>
 af e2 (
 H3 K E1 x5 x32 x33 x34 w) (
 nS x5 w λe3 w=>
 fA 38 e3 2 w λe4 w=>
 lD 32 e4 w λe5 w=>
 cL 43 (pA #[e5,b7]) w λe6 w=>
 bC .neq 28 122 0 e6 w λe7 w=>
 af e7 (
 K (.bool false) w) (
 nS x5 w λe8 w=>
 fA 38 e8 3 w λe9 w=>
 lD 33 e9 w λf0 w=>
 cL 44 (pA #[f0,q,s]) w λf1 w=>
 nS x5 w λf2 w=>
 fA 38 f2 3 w λf3 w=>
 lD 33 f3 w λf4 w=>
 cL 44 (pA #[f4,s,(.slice none 0 0)]) w λf5 w=>
 lD 36 a8 w λf6 w=>
 nS x5 w λf7 w=>
 fA 38 f7 5 w λf8 w=>
 sD 36 f8 f6 w λw=>
 cL 25 (pA #[x5]) w λf9 w=>
 ev prog (Op.unary .not f9) w λg0 w=>
 af g0 (
 K (.bool false) w) (
 H3 K E1 x5 x32 x33 x34 w)))))))) (
 agE K x5 w)
def MG (I:VP1) (μ:M1) (h0:I x34 w) (hr:∀x34 w,I x34 w->∀E1,Q1 I μ x34 w E1->EP K x5 x32 x33 x34 w E1):acg K x5 x32 x33 x34 w:=⟨I,μ,h0,λσ w hI E hE=>cast kR (hr (σ 34) w hI E hE)⟩
def P0 (E1:VP1):Prop:=
 bC .add 3 34 1 x34 w λa w=>
 E1 a w
def aci (E1:VP1):H3 K E1 x5 x32 x33 x34 w=P0 x34 w E1:=aJ λσ=>kR
def ajv:Prop:=
 cL 13 (pA #[]) w λa w=>
 ev prog (Op.unary .not a) w λb w=>
 gV b false x1 w λc w=>
 gd b false (λk=>lN 49 c w k) w λd w=>
 gd b false (λk=>bC .gtr 3 21 24 d w k) w λe w=>
 au b (.bool true) e w λf w=>
 af f (
 cL 13 (pA #[]) w λg w=>
 K g w) (
 cV 5 3 x0 w λh w=>
 bC .rem 3 26 6 h w λi w=>
 bM .add 3 (ci 2) (.tmp 27) (.int .i64 2) i w λj w=>
 cL 14 (pA #[j]) w λl w=>
 bM .eql 23 (.tmp 30) (.const (.pointer none)) l (.pointer none) w λm w=>
 af m (
 K (.bool false) w) (
 lN 49 x1 w λn w=>
 acg K l x1 n (.int .i64 0) w))
def aeC:=cA2 Tryz.func8 aez.2 ajv
end
section
variable {w0 w w1 w':an} {Y Y':Lay} {D D2 D3:DS} {H:HL} {n k i p q kd Wb b m ab:Nat} {f f2 f3:Idx} {R M L:List Nat} {lv hd dd v va vb tv dv z sv:ap} {RL LL DD:List (Nat×Int)} {x:eU} {al:List eU}
def LW.bst (h:LW w0 w Wb lv hd dd Y D H n f R) (s:HSt w Y H w' Y'):ah w' Wb 38 8 (wlF Y' H n lv hd dd):=by
 have hb:=h.bx.frm s.frm (λhf=>hf.elim h.ne.1 (λhf=>hf.elim h.ne.2.1 (λhf=>hf.elim h.ne.2.2.1 (λhf=>hf.elim h.ne.2.2.2.1 h.ne.2.2.2.2))));have e:wlF Y' H n lv hd dd=wlF Y H n lv hd dd:=by unfold wlF;rw [s.d,s.tb]
 rw [e];exact hb
def aib {R free:List Nat} (h:∀p∈R,p∉free):rmL R free=R:=by
 unfold rmL;rw [List.filter_eq_self];intro p hp;simp [h p hp]
def ajw {mm:Nat} (h:PlA w0 w Wb H n 0) (g7:H.av=none) (g3:H.lk=false) (f1:n<=120) (g8:eE mm w0 sv al) (ok:∀x∈al,dO x) (i6:al.length<=60) (K:K1) (hK:∀w',Ext w0 w'->K (.bool true) w'):
  acg K (.pointer (some ⟨Wb,0,none⟩)) sv (.int .i64 (al.length:Int)) (.int .i64 0) w:=by
 apply MG (I:=λz w'=>∃j:Nat,z= .int .i64 (j:Int)/\j<=al.length/\PlA w0 w' Wb H n j) (μ:=λz _=>al.length-(intOf z).toNat)
 ·exact ⟨0,rfl,by omega,h⟩
 ·intros;rename_i z w1 hI E1 hE;obtain ⟨j,rfl,hj,Y,D,f,R,DD,lv,hd,dd,a,b1,b2,b3⟩:=hI;have es:(j:Int)+1=((j+1:Nat):Int):=oM;have b4:∀w2,PlA w0 w2 Wb H n (j+1)->j<al.length->H3 K E1 (.pointer (some ⟨Wb,0,none⟩)) sv (.int .i64 (al.length:Int)) (.int .i64 (j:Int)) w2:=by
   intro w2 a2 i7;rw [aci];unfold P0;refine zS1 es ?_;apply hE
   ·exact ⟨j+1,rfl,by omega,a2⟩
   ·simp only [intOf];omega
  have a0:=a.m.L.hp.ex;obtain ⟨sa,sc,rfl,hs⟩:=g8.ext a0;by_cases e:j<al.length
  ·have hx:al[j]? =some al[j]:=List.getElem?_eq_getElem e;have b7:=ok _ (List.getElem_mem e);generalize al[j]=x at*;obtain ⟨b,o,tv,dv,rfl,hb,hc,r1,r2⟩:=hs j x hx;have x0:w1.cell? ⟨b,o+j*6,none⟩=some (.int .u8 (x.kd:Int)):=hc 0 oM;have x1:w1.cell? ⟨b,o+j*6+1,none⟩=some (.int .i64 x.th):=hc 1 oM;have x2:w1.cell? ⟨b,o+j*6+2,none⟩=some (.int .i64 x.wd):=hc 2 oM;have x3:w1.cell? ⟨b,o+j*6+3,none⟩=some (.int .u8 (x.mk:Int)):=hc 3 oM;have x4:w1.cell? ⟨b,o+j*6+4,none⟩=some tv:=hc 4 oM;have x5:w1.cell? ⟨b,o+j*6+5,none⟩=some dv:=hc 5 oM;have d6:=r1;have c7:=r2;obtain ⟨ta,tc,rfl⟩:=dg r1;obtain ⟨da,dc,rfl⟩:=dg r2;have eB:=Ext.alloc_self w1 (.cells #[.int .u8 (x.kd:Int),.int .i64 x.th,.int .i64 x.wd,.int .u8 (x.mk:Int),.slice ta x.L.length tc,.slice da x.M.length dc] 53);have cB:ah (w1.alloc (.cells #[.int .u8 (x.kd:Int),.int .i64 x.th,.int .i64 x.wd,.int .u8 (x.mk:Int),.slice ta x.L.length tc,.slice da x.M.length dc] 53)) w1.heap.size 53 6 (apF x (.slice ta x.L.length tc) (.slice da x.M.length dc)):=ah.new w1 [.int .u8 (x.kd:Int),.int .i64 x.th,.int .i64 x.wd,.int .u8 (x.mk:Int),.slice ta x.L.length tc,.slice da x.M.length dc] 53;obtain ⟨kz,e8⟩:∃kz:Nat,x.kd%8=kz:=⟨_,rfl⟩;have nn:=a.m.nn;have rg:=a.m.L.hp.rg;have i9:=gT rg n (aa _);have c9:=a.m.L.hp.nd;obtain ⟨N,hN⟩:∃N,8*(8*D.n)=N:=⟨_,rfl⟩;have a6:∀b,dd.ownBlock=some b->b<w1.heap.size:=λb hb=>a.m.sD.lt hb
   have nR:∀p∈R,¬Liv D f n p:=λp hp=>(a.m.L.hp.rv p hp).not_liv oM rg
   unfold EP;simp (disch:=try exact dZ) only [↓RBp,↓RA,↓reduceIte,Nat.reduceAdd,Nat.reduceMul,Nat.reduceEqDiff,RB,RX,RA2,x0,x1,x2,x3,x4,x5,List.getElem?_toArray,List.getElem?_cons_succ,List.getElem?_cons_zero,Option.isSome_some,Bool.and_self,List.setIfInBounds_toArray,List.set_cons_succ,List.set_cons_zero];refine Ex _ (λ_ w2 e2=> ?_) (λg1 g2 w2 e2=> ?_) rfl rfl rfl rfl
   ·refine zS0 ?_;exact hK w2 (a0.trans (eB.trans e2))
   have c2:=cB.ext e2;have d0:w2.cell? ⟨w1.heap.size,0,none⟩=some (.int .u8 (x.kd:Int)):=c2.cell (i:=0) oM;have d1:w2.cell? ⟨w1.heap.size,1,none⟩=some (.int .i64 x.th):=c2.cell (i:=1) oM;have d2:w2.cell? ⟨w1.heap.size,2,none⟩=some (.int .i64 x.wd):=c2.cell (i:=2) oM;have d3:w2.cell? ⟨w1.heap.size,3,none⟩=some (.int .u8 (x.mk:Int)):=c2.cell (i:=3) oM;have d4:w2.cell? ⟨w1.heap.size,4,none⟩=some (.slice ta x.L.length tc):=c2.cell (i:=4) oM;have d5:w2.cell? ⟨w1.heap.size,5,none⟩=some (.slice da x.M.length dc):=c2.cell (i:=5) oM;have A:=eB.trans e2;have a2:=a.ext A;by_cases hk5:kz<5
   ·have X:(kz:Int)<5:=oM;refine zS8 d0 d1 d2 d3 d4 d5 e8 X ?_;refine Ey a2 g7 g3 b7 (d6.ext A) (c7.ext A) (λ_=>⟨g1,g2⟩) f1 oM oM oM _ (λY' D' f' R' DD' lv' hd' dd' w3 P pd=> ?_);have px:=pd.ex;have pr:=pd.rl;have j4:=pd.dl;have W:=b4 w3 ⟨Y',D',f',R',DD',lv',hd',dd',P,by omega,by omega,by omega⟩ e;refine zS0 ?_;exact W
   have X:¬(kz:Int)<5:=oM;refine zS8 d0 d1 d2 d3 d4 d5 e8 X ?_;refine HZ (M:=livN D f n) a2.m oM oM (d6.ext A) (c7.ext A) b7.2.2.2.2.1.1 b7.2.2.2.2.1.2 g1 g2 rfl rfl rfl rfl _ (λxa ya xb yb vc vd keep free w3 t=> ?_);have a3:=a2.ext t.e;have lk:=t.lk;have lf:=t.lf;by_cases l40:40<keep.length+free.length
   ·have b8:(keep.length:Int)+(free.length:Int)>40:=oM;refine zS1 b8 ?_;exact hK w3 a3.m.L.hp.ex
   have b8:¬(keep.length:Int)+(free.length:Int)>40:=oM;have q5:=(aE a3.m.L.bx).2.2.2.2.2.1;have q6:=(aE a3.m.L.bx).2.2.2.2.2.2.1;have q7:=(aE a3.m.L.bx).2.2.2.2.2.2.2;have i2:=a3.m.L.bx.lt;have i5:=(A.trans t.e).size;have i3:=A.size;have fl:∀p∈free,Liv D f n p:=λp hp=>(bn rg).1 (t.jf p hp)
   have ea:=λ(w9:an) (g9:Frm (λb=>dd.ownBlock=some b) w3 w9)=>t.a.frm g9 (λb hb e=>by have:=t.na b hb;have:=a6 b e;omega)
   have eb:=λ(w9:an) (g9:Frm (λb=>dd.ownBlock=some b) w3 w9)=>t.b.frm g9 (λb hb e=>by have:=t.nb b hb;have:=a6 b e;omega)
   have c5:=λ(w9:an) (g9:Frm (λb=>dd.ownBlock=some b) w3 w9) (s:an) (u:Ext w9 s)=>eh.rdh (λb hb=>a2.m.L.own (t.na b hb)) (slU (L:=keep) ((ea w9 g9).ext u))
   have a8:=λ(w9:an) (g9:Frm (λb=>dd.ownBlock=some b) w3 w9) (s:an) (u:Ext w9 s)=>eh.rdh (λb hb=>a2.m.L.own (t.nb b hb)) (slU (L:=free) ((eb w9 g9).ext u))
   refine zS4 b8 q5 q6 q7 ?_;refine oY (L:=livN D f n) (R:=R) (f:=f) (keep:=keep) (free:=free) (m:=w3.heap.size) a3.m.sL a3.m.sH a3.m.sD a.m.hl a.m.hdd a.m.dl (λw' g=> ?_) (λw' g=> ?_) (aa _) t.ik (aan c9) t.jf (λd=>agt rg nn.1 (agu c9 t.ik (List.nodup_append.1 d.1).1) (λp hp=>a.m.L.hp.rv p (t.ik p hp))) (λq hq=> ?_) oM oM oM _ (λg0 w9 e9=> ?_) (λf9 lv' hd' dd' w9 g9 sL sH sD sK oL oH oD hl hdd dl=> ?_)
   ·exact PQ (t:=26) (slU (L:=keep) (t.c.frm g (λb hb e=>by have:=t.nc b hb;have:=a6 b e;omega))) (λb hb=>t.c.lt hb)
   ·exact PQ (t:=26) (slU (L:=free) (t.d.frm g (λb hb e=>by have:=t.nd b hb;have:=a6 b e;omega))) (λb hb=>t.d.lt hb)
   ·have:=(a.m.L.at_ (p:=q) (hq.symm.imp id (λh=>(bn rg).1 h))).2.2;omega
   ·have g9:Frm (λb=>dd.ownBlock=some b) w3 w9:=Frm.of_ext e9;have M9:=a3.m.drop g9 (a3.m.sD.ext e9);have o1:=aP a.m.sL;have o2:=aP a.m.sH;have o3:=aP a.m.sD;have q0:=(aE M9.L.bx).1;have q3:=(aE M9.L.bx).2.2.2.1;have h6:=M9.L.bx.lt;have V:=λ(w':an) (K:K1) (e:Ext w9 w') hK=>agD (M9.L.hp.ar.L.dv.ext e) rg.gd hN rfl K hK
    refine zS4 o1 o2 o3 q0 ?_;refine V _ _ xZ (λb1 E Q g6 c4=> ?_);have r:Ext w9 E:=Ext.trans xZ Q;have a9:=(aE (M9.ext r).L.bx).2.2.2.1;have f2:=(M9.ext r).L.bx.lt;refine zS1 a9 ?_;refine oV (M9.ext r).L.hp t.ik fl (c5 w9 g9 E r).rd (a8 w9 g9 E r).rd (aa _) ⟨by omega,by omega⟩ _ (λ_ s u=> ?_) (λd=>absurd d g0);have v:Ext w9 s:=r.trans u;have dr:Ext s s.drew:=Ext.drew (Ext.refl _);have C:=c4.ext u;have rc:=λ(k:ap->Prop)=>ai (b2s (C.ext dr) (o:=0) (m:=N) (cap:=N) oM) k
    have b6:=(aE (M9.ext v).L.bx).1;have f4:=(M9.ext v).L.bx.lt;refine zS2 rc b6 ?_;refine V _ _ (v.trans xZ) (λb2 J F f6 a7=> ?_);have T:Ext w9 J:=v.trans (Ext.trans xZ F);have ra:=λ(z:ap)=>aW (b2s ((C.ext dr).ext F) (o:=0) (m:=N) (cap:=N) oM) z
    have c3:=λ(k:ap->Prop)=>ai (b2s a7 (o:=0) (m:=N) (cap:=N) oM) k
    have re:=λ(x y:Operand) (l:List Nat) (w:an) (k:ap->Prop)=>ai (xM (P:=prog) 9 x y (UA l) (UA l) w) k
    simp only [beq_self_eq_true] at re;refine zS3 ra c3 re ?_;refine ⟨trivial,?_⟩;refine gU (⟨M9.ext T,a.gn,a.dp⟩:PlS w0 J Wb lv hd dd Y D H n f R DD) oM oM _ (λU O=> ?_);have W:=b4 U ⟨Y,D,f,R,DD,lv,hd,dd,⟨M9.ext (T.trans O),a.gn,a.dp⟩,by omega,by omega,by omega⟩ e;refine zS0 ?_;exact W
   ·have M9:=a3.m.drop g9 sK;have o1:=aP sL;have o2:=aP sH;have o3:=aP sD;have cN:=ah.new w9 [lv',hd',dd'] 36;have lN:w9.heap.size<(w9.alloc (.cells #[lv',hd',dd'] 36)).heap.size:=cN.lt;have ow:lE w0 Y H Wb w9.heap.size:=M9.L.own (aa _);have eN:=Ext.alloc_self w9 (.cells #[lv',hd',dd'] 36);have L1:=a3.m.own a3.m.oL oL;have L2:=a3.m.own a3.m.oH oH;have L3:=a3.m.own a3.m.oD oD;have q0:=(aE M9.L.bx).1;have h6:=M9.L.bx.lt;have V:=λ(w':an) (K:K1) (e:Ext w9 w') hK=>agD (M9.L.hp.ar.L.dv.ext e) rg.gd hN rfl K hK
    refine zS4 o1 o2 o3 q0 ?_;refine V _ _ xZ (λb1 E Q g6 c4=> ?_);have r:Ext w9 E:=Ext.trans xZ Q;have a9:=(aE (M9.ext r).L.bx).2.2.2.1;have f2:=(M9.ext r).L.bx.lt;have h9:=cN.ext Q;refine zS1 a9 ?_;refine oV (M9.ext r).L.hp t.ik fl (c5 w9 g9 E r).rd (a8 w9 g9 E r).rd (aa _) ⟨by omega,by omega⟩ _ (λd=>absurd f9 d) (λ_ P i8 s u _ f5=> ?_);have v:Ext w9 s:=r.trans u;have dr:Ext s s.drew:=Ext.drew (Ext.refl _);have C:=c4.ext u;have rc:=λ(k:ap->Prop)=>ai (b2s (C.ext dr) (o:=0) (m:=N) (cap:=N) oM) k
    have b6:=(aE (M9.ext v).L.bx).1;have f4:=(M9.ext v).L.bx.lt;have le:=P.le;refine zS2 rc b6 ?_;refine V _ _ (v.trans xZ) (λb2 J F f6 a7=> ?_);have Z:Ext s J:=Ext.trans xZ F;have T:Ext w9 J:=v.trans Z;have ra:=λ(z:ap)=>aW (b2s ((C.ext dr).ext F) (o:=0) (m:=N) (cap:=N) oM) z
    have c3:=λ(k:ap->Prop)=>ai (b2s a7 (o:=0) (m:=N) (cap:=N) oM) k
    have re:=λ(x y:Operand) (l:List Nat) (w:an) (k:ap->Prop)=>ai (xM (P:=prog) 9 x y (UA l) (UA l) w) k
    simp only [beq_self_eq_true] at re;refine zS3 ra c3 re ?_;refine ⟨trivial,?_⟩;refine gU (⟨M9.ext T,a.gn,a.dp⟩:PlS w0 J Wb lv hd dd Y D H n f R DD) oM oM _ (λU O=> ?_);have G:=T.trans O;have S:=M9.ext G;have q2:=(aE S.L.bx).2.2.1;have i0:=S.L.bx.lt;refine zS1 q2 ?_;refine Uz S.L.hp P oM ((f5.ext Z).ext O) oM _ (λhw j3 g4 a4 h0=> ?_);have e3:=S.L.bst a4;have e7:=(aE e3).2.2.2.1;have i1:=e3.lt;have f7:=(c5 w9 g9 U G).st a4;have g5:=(a8 w9 g9 U G).st a4;have hr:∀p∈R,p<18446744073709551616:=λp hp=>by have:=(a.m.L.at_ (.inl hp)).2.2;omega
    have h1:∀p∈free,p<18446744073709551616:=λp hp=>by have:=(a.m.L.at_ (.inr (fl p hp))).2.2;omega
    refine zS1 e7 ?_;refine xp h0 (λp hp=>(a.m.L.hp.rv p hp).plc oM rg) f7 (λp hp=>hr p (t.ik p hp)) oM oM _ _ (λj0 i4 f0 e5 h5=> ?_);obtain ⟨pr,B⟩:=aia a.m.L.hp P t.ik hw f0 h5;have a5:=a4.trans e5;have b5:=S.st a5 B;have h4:=(aE b5.L.bx).2.2.2.1;have h8:=b5.L.bx.lt;have h2:=g5.st e5;have j1:(rmL R keep).length<=R.length:=List.length_filter_le _ _;refine zS1 h4 ?_;refine xp B (λp hp=>(B.rv p hp).plc (by have:=B.n4;omega) B.rg) h2 h1 oM oM _ _ (λc1 d9 b0 c8 e0=> ?_);rw [aib (λp hp hf=>nR p (eQ.1 hp).1 (fl p hf))] at e0;have a1:=b5.st c8 (e0.mapQ (λq _ hq=>b0.rsv.2 hq));have c0:yq D f n keep free _ d9:={pr with fs:=pr.fs.trans b0};have eC:=eN;have c6:Ext (w9.alloc (.cells #[lv',hd',dd'] 36)) U:=(Q.trans (u.trans (Z.trans O)));have sN:=a5.trans c8;have cD:=(cN.ext c6).frm sN.frm ow.frm;have y0:c1.cell? ⟨w9.heap.size,0,none⟩=some lv':=cD.cell (i:=0) (by simp);have y1:c1.cell? ⟨w9.heap.size,1,none⟩=some hd':=cD.cell (i:=1) (by simp);have y2:c1.cell? ⟨w9.heap.size,2,none⟩=some dd':=cD.cell (i:=2) (by simp);have b9:=aE a1.L.bx;have z5:=b9.2.2.2.2.2.1;have z6:=b9.2.2.2.2.2.2.1;have z7:=b9.2.2.2.2.2.2.2;have f3:=a1.L.bx.frz;have j2:=a1.L.bx.lt;have lD:=cD.lt;have e4:=L1.st (sL.ext G) sN;have d7:=L2.st (sH.ext G) sN;have e6:=L3.st (sD.ext G) sN;have pm:=a1.put3 (Frm.refl _ _) e4.2 d7.2 e6.2 e4.1 d7.1 e6.1 hl hdd dl;have px:=c0.exe;have d8:=bE f free;have e1:=Ev a.gn a.dp rg nn.1 c0 pm.2;refine jH y0 y1 y2 z5 z6 z7 f3 o1 o2 o3 o3 ?_;refine gU e1 (by rw [aq,d8];omega) oM _ (λh7 h3=> ?_);have W:=b4 h7 ⟨g4,_,d9,rmL R keep,DD++blM f free,lv',hd',dd',e1.ext h3,by omega,by omega,by rw [aq,d8];omega⟩ e;refine zS0 ?_;exact W
  ·obtain rfl:j=al.length:=oM;have q1:=(aE a.m.L.bx).2.1;have lW:=a.m.L.bx.lt;have f8:=a.m.L.hp.erE;unfold EP;refine zS0 ?_;rw [ach];unfold PZ;refine jm q1 f8 ?_;exact hK w1 a0
def H4 {sv:ap} {a:Nat} (hG:bt w) (ha:a<256) (c:eE w.heap.size w sv al) (ok:∀x∈al,dO x) (K:K1) (hK:∀w',Ext w w'->K (.bool true) w'):
  ae prog 8 #[.int .u8 (a:Int),sv] w K:=by
 have e1:(a:Int)%6=((a%6:Nat):Int):=oM;have e2:2+((a%6:Nat):Int)=((2+a%6:Nat):Int):=oM;have hA:=c;obtain ⟨sa,sc,rfl,_⟩:=c;refine aeC _ _ _ _ ?_;unfold ajv;refine dA hG _ (λw1 h1=> ?_);have d:=hG.ext h1;by_cases hl:al.length<=24
 ·have b:¬((24:Int)<(al.length:Int)):=oM;refine zS3 b e1 e2 ?_;refine jS (n:=2+a%6) d oM oM _ (λWb H Y w2 g i f L=> ?_);have hb:=qk (n:=2+a%6) oM;have hR:PlA w1 w2 Wb H (2+a%6) 0:=⟨Y,hbD (2+a%6),opF (hbD (2+a%6)) 26,[],[],.slice none 0 0,.slice none 0 0,.slice none 0 0,jU oM L,by have:=hb.2.2.1;omega,by simp,by simp⟩;have h:=ajw hR g f oM (hA.ext h1) ok oM K (λw' e=>hK w' (h1.trans e));refine zS0 ?_;exact h
 ·have b:(24:Int)<(al.length:Int):=oM;refine zS1 b ?_;refine dA (d.ext xZ) _ (λw2 h2=> ?_);exact hK w2 (h1.trans (Ext.trans xZ h2))
end
end Go.Proofs.YtmpehclnnjgmcaaGreatDoor
