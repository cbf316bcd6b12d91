/-
  Part A of the proof in YtmpehclnnjgmcaaGreatDoorDeRowZe.
-/
import Derived.Test.YtmpehclnnjgmcaaGreatDoorDe3
import Derived.Test.YtmpehclnnjgmcaaGreatDoorDe6
import Derived.Test.YtmpehclnnjgmcaaGreatDoorDe4
import Derived.Test.YtmpehclnnjgmcaaGreatDoorDe2
import Derived.Test.YtmpehclnnjgmcaaGreatDoorDe1
set_option linter.unusedSimpArgs false
set_option linter.unusedVariables false
set_option maxHeartbeats 20000000
set_option maxRecDepth 100000
set_option linter.defProp false
open Go.Proofs.Tryz (prog)
open Go.RowKit (intOf)
open Go renaming World->aa,Value->aA
open Go.Builtin renaming min_->bb,len_->bd
open List renaming getElem?_eq_getElem->an,getElem?_drop->a8,getElem?_map->a9,map_cons->bk
open Nat renaming le_refl->aB,add_assoc->bl
namespace Go.Proofs.YtmpehclnnjgmcaaGreatDoor
open Go Go.Sh
structure Wm (w:aa) (b o:Nat) (W:Nat->Nat):Prop where
 cell:∀{i:Nat},i<256->w.cell? ⟨b,o+i,none⟩=some (u64 (W i))
 frz:∀i,w.frozen? ⟨b,i,none⟩=false
section
variable {w w':aa} {W:Nat->Nat} {b ob cap:Nat} {c:Int}
end
def Z3 (m:Nat) (w:aa) (v:aA) (al:List (List Int×List Nat×List Int)):Prop:=∃a cap,v= .slice a al.length cap/\∀j x,al[j]? =some x->∃b o s1 s2 s3,a=some ⟨b,o,none⟩/\b<m/\w.cell? ⟨b,o+j*3,none⟩=some s1/\w.cell? ⟨b,o+j*3+1,none⟩=some s2/\w.cell? ⟨b,o+j*3+2,none⟩=some s3/\RdS m w s1 (be x.1)/\RdS m w s2 (u8L x.2.1)/\RdS m w s3 (be x.2.2)
section
variable {w w':aa} {Y:Lay} {D:DS} {l m:Nat} {v:aA} {al:List (List Int×List Nat×List Int)}
def Z3.ext (h:Z3 m w v al) (e:Ext w w'):Z3 m w' v al:=by
 obtain ⟨a,cap,hv,h⟩:=h;refine ⟨a,cap,hv,λj x hx=> ?_⟩;obtain ⟨b,o,s1,s2,s3,ha,hb,c1,c2,c3,r1,r2,r3⟩:=h j x hx;exact ⟨b,o,s1,s2,s3,ha,hb,e.cell_some c1,e.cell_some c2,e.cell_some c3,r1.ext e,r2.ext e,r3.ext e⟩
def wdL (W:Nat->Nat) (n:Nat):List aA:=(List.range n).map λj=>u64 (W j)
def acx {W:Nat->Nat} {n j:Nat} (h:j<n):(wdL W n)[j]? =some (u64 (W j)):=by simp [wdL,h]
def Wm.of_sl {W:Nat->Nat} {b o n cap:Nat} (h:SlO w 26 1 (.slice (some ⟨b,o,none⟩) n cap) 256 (wdL W 256)):Wm w b o W:=⟨λhi=>h.cell rfl (acx hi),λi=>h.frz rfl i⟩
end
section
variable {w0 w w':aa} {Y Y':Lay} {D D':DS} {H:HL} {n k i j p v Wb:Nat} {f:Idx} {R:List Nat} {lv hd dd:aA} {DD:List (Nat×Int)} {c:Int}
structure HdE (D D':DS) (f:Idx) (n:Nat):Prop where
 on:On D'
 gd:aL D'
 nn:D'.n=D.n
 w:∀k,k<n->(∀x,x<8->wd D' (26+32*k) x=wd D (26+32*k) x)/\∀i:Nat,(i:Int)<perS (f k).1->0<=(f k).1->wd D' (26+32*k) (offN (f k).1 i)=wd D (26+32*k) (offN (f k).1 i)
def HdE.rg (e:HdE D D' f n) (h:RgS D 26 n f):RgS D' 26 n f:=
 ⟨e.on,e.gd,by rw [e.nn];exact h.lt,λj hj=>by rw [(e.w j hj).1 0 oM];exact h.ag j hj,λj hj h0=>(h.sn j hj h0).congrH h0 (h.cls hj).1 (e.w j hj).1 (λi' a=>(e.w j hj).2 i' a h0)⟩
def HdE.rsv (e:HdE D D' f n) (h:Rsv D f n p):Rsv D' f n p:=by
 obtain ⟨k,i,kd,a1,a2,a3,a4,a5,a6⟩:=h;have ew:=(e.w k a1).2 i a3 a2;exact ⟨k,i,kd,a1,a2,a3,by rw [ew];exact a4,by rw [ew];exact a5,a6⟩
def HdE.liv (e:HdE D D' f n):Liv D' f n p↔Liv D f n p:=by
 constructor
 ·rintro ⟨k,i,a1,a2,a3,a4⟩;have ew:=(e.w k a1).2 i a3 a2;rw [ew] at a4;exact ⟨k,i,a1,a2,a3,a4⟩
 ·rintro ⟨k,i,a1,a2,a3,a4⟩;have ew:=(e.w k a1).2 i a3 a2;rw [<-ew] at a4;exact ⟨k,i,a1,a2,a3,a4⟩
def HdE.livN (e:HdE D D' f n) (rg:RgS D 26 n f) (nn:D.n<=4096):livN D' f n=livN D f n:=
 mB (dF (e.rg rg) (by rw [e.nn];exact nn) n (aB _)) (dF rg nn n (aB _)) (λx=>by rw [bW (e.rg rg),bW rg];exact e.liv)
def PlS.hdE (h:PlS w0 w Wb lv hd dd Y D H n f R DD) (s:Stp w Y w' Y' D') (e:HdE D D' f n) (er:∀k,k<8->D'.err k=0) (a:D'.cur 0=0):PlS w0 w' Wb lv hd dd Y' D' H n f R DD:=by
 have rg:=h.m.L.hp.rg;have nn:=h.m.nn;have hp:=h.m.L.hp.step s e.nn (e.rg rg) (Q':=Rsv D' f n) (λp hp=>e.rsv (h.m.L.hp.rv p hp)) er a;have m:=h.m.st (HSt.of_stp H s) hp;refine ⟨?_,h.gn.same (λk hk h0 i hi=>(e.w k hk).2 i hi h0) (λk hk=>(e.w k hk).1 0 oM),λx hx=>(h.dp x hx).same (λk hk h0 i hi=>(e.w k hk).2 i hi h0) (λk hk=>(e.w k hk).1 0 oM)⟩;rw [e.livN rg nn.1];exact m
def GD (rg:RgS D 26 n f) (nn:D.n<=4096) (hk:k<n) (h0:0<=(f k).1) (hi:(i:Int)<perS (f k).1) (hj:j<(wordsS (f k).1).toNat) (hv:v<18446744073709551616):
  HdE D (D.store 0 (pOff (26+32*k) (f k).1 i+8*j) v) f n/\(∀x,(D.store 0 (pOff (26+32*k) (f k).1 i+8*j) v).cur x=if x=pOff (26+32*k) (f k).1 i/8+j then v else D.cur x)/\(D.store 0 (pOff (26+32*k) (f k).1 i+8*j) v).exe=D.exe+1/\pOff (26+32*k) (f k).1 i/8+j<D.n*8/\(D.store 0 (pOff (26+32*k) (f k).1 i+8*j) v).err=D.err:=by
 have hc:=rg.cls hk;have m:=rg.lt;have q:=aN h0 hc.1;have o:=bv h0 hc.1 (show 0<=(i:Int) by omega) hi;have hb:=aH h0 hc.1 hi;have hp:=cE (l:=26+32*k) oM h0 hc.1 hi;have ep:pOff (26+32*k) (f k).1 i/8=(26+32*k)*8+offN (f k).1 i+1:=by unfold pOff;omega
 have c:(pOff (26+32*k) (f k).1 i+8*j)/8=(26+32*k)*8+offN (f k).1 i+1+j:=by unfold pOff;omega
 have e8:(pOff (26+32*k) (f k).1 i+8*j)%8=0:=by unfold pOff;omega
 have r:(26+32*k)*8+offN (f k).1 i+1+j<(26+32*k)*8+256:=oM;have a:fa D (pOff (26+32*k) (f k).1 i+8*j)=true:=by
  have:pOff (26+32*k) (f k).1 i+8*j<D.n*64:=oM;simp [fa,e8,this]
 have on:=rg.on;have b:=on.storeCur _ v a;have hs:=on.store _ v a;have hn:∀x,x≠(26+32*k)*8+offN (f k).1 i+1+j->(D.store 0 (pOff (26+32*k) (f k).1 i+8*j) v).cur x=D.cur x:=λx hx=>by
  rw [b];simp only [c];rw [if_neg hx]
 refine ⟨⟨on.storeOn _ v a,rg.gd.store 0 _ v hv,sN _ _ _ _,λk' d=>⟨λx hx=> ?_,λi' g h=> ?_⟩⟩,λx=> ?_,by rw [hs];rfl,by omega,by rw [hs];rfl⟩
 ·unfold wd;exact hn _ oM
 ·unfold wd;refine hn _ ?_;have p:=aH h (rg.cls d).1 g;by_cases e:k'=k
  ·subst e;have:=vF h0 hc.1 (i:=i) (i':=i');omega
  ·omega
 ·rw [b,ep];simp only [c]
end
section
variable {w0 w w1 w':aa} {Y Y' Y1:Lay} {D D' DF:DS} {H:HL} {n k i j p v Wb:Nat} {f g:Idx} {R:List Nat} {lv hd dd:aA} {DD:List (Nat×Int)} {c:Int}
def Z4 (n7:n<=120):Cln (hbD n).co:=by
 obtain ⟨a1,a2,a3,a4,a5,a6⟩:=Oc n7;exact CN a1 a2 (show 26+32*n<=(hlD n).n by omega) (fK (On.zero _) (λx hx=>by simp only [List.mem_singleton] at hx;subst hx;exact ⟨rfl,show 0<(26+32*n)*64 by omega⟩) (EN _)) n (aB _)
end
def Z5 {a:Nat}:∀(ws:List (Nat×Nat)) (f:Nat->Nat),(∀x∈ws,x.2=0)->(f a=0\/∃x∈ws,x.1/8=a)->aF ws f a=0
 | [],f,_,h=>by
  rcases h with h|⟨x,hx,_⟩
  ·exact h
  ·cases hx
 |x::ws,f,hz,h=>by
  rw [bR];refine Z5 ws _ (λy hy=>hz y (by simp [hy])) ?_;by_cases e:a=x.1/8
  ·left;show (if a=x.1/8 then x.2 else f a)=0;rw [if_pos e];exact hz x (by simp)
  ·rcases h with h|⟨y,hy,h⟩
   ·left;show (if a=x.1/8 then x.2 else f a)=0;rw [if_neg e];exact h
   ·rcases List.mem_cons.1 hy with rfl|hy
    ·exact absurd h.symm e
    ·exact .inr ⟨y,hy,h⟩
def aem:∀(ws:List (Nat×Nat)) (C:Co),(C.run (ws.map wrI)).pers=C.pers/\(C.run (ws.map wrI)).done=C.done/\∀l,(C.run (ws.map wrI)).hist l=C.hist l++ws.filter (λx=>decide (x.1/64=l))
 | [],C=>⟨rfl,rfl,λl=>by simp [Co.run]⟩
 |x::ws,C=>by
  rw [bk,dD];have e:C.ex (wrI x)=C.st x.1 x.2:=rfl;rw [e];obtain ⟨a,b,c⟩:=aem ws (C.st x.1 x.2);refine ⟨a,b,λl=> ?_⟩;rw [c l];by_cases h:x.1/64=l
  ·rw [List.filter_cons_of_pos (by simp [h])];subst h;show (if x.1/64=x.1/64 then C.hist (x.1/64)++ [(x.1,x.2)] else _)++_=_;rw [if_pos rfl,List.append_assoc];rfl
  ·rw [List.filter_cons_of_neg (by simp [h])];show (if l=x.1/64 then _ else C.hist l)++_=_;rw [if_neg (λe=>h e.symm)]
def aen:∀(ls:List Nat) (C:Co),(C.run (ls.map flI)).pers=C.pers/\(C.run (ls.map flI)).done=C.done/\(C.run (ls.map flI)).hist=C.hist/\(∀x∈ls,(C.run (ls.map flI)).notes ((x/64:Nat):Int)=some (C.done (x/64)+(C.hist (x/64)).length))/\∀l:Nat,C.notes (l:Int)=some (C.done l+(C.hist l).length)->(C.run (ls.map flI)).notes (l:Int)=some (C.done l+(C.hist l).length)
 | [],C=>⟨rfl,rfl,rfl,λx hx=>(by cases hx),λl h=>h⟩
 |x::ls,C=>by
  rw [bk,dD];have e:C.ex (flI x)=C.fl x:=rfl;rw [e];obtain ⟨a,b,c,d,f⟩:=aen ls (C.fl x);have hn:(C.fl x).notes ((x/64:Nat):Int)=some (C.done (x/64)+(C.hist (x/64)).length):=by unfold Co.fl;simp
  refine ⟨a,b,c,λy hy=> ?_,λl h=>f l ?_⟩
  ·rcases List.mem_cons.1 hy with rfl|hy
   ·exact f _ hn
   ·exact d y hy
  ·unfold Co.fl;simp only;by_cases e2:((l:Nat):Int)=((x/64:Nat):Int)
   ·rw [if_pos e2];have:l=x/64:=oM;subst this;rfl
   ·rw [if_neg e2];exact h
def aeo (po:Nat):∀(m j:Nat),j<m->(po+8*j,0)∈zW po m
 |0,j,h=>by omega
 |m+1,j,h=>by
  unfold zW;by_cases e:j=m
  ·subst e;simp
  ·exact List.mem_append_left _ (aeo po m j oM)
section
variable {D:DS} {ws:List (Nat×Nat)}
def af0 (on:On D) (hv:∀x∈ws,x.1%8=0/\x.1<D.n*64) (h0:∀x∈ws,x.2=0) {x:Nat×Nat} (hx:x∈ws) {F:Nat->Nat} (hF:mI (D.run 0 (ay ws)) F):F (x.1/8)=0:=by
 have o:=(On.stores on ws hv).1;have e:=(sT on.off on.err (fP hv) o.err).1;have nn:(D.run 0 (ay ws)).n=D.n:=eV 0 _ D;have hb:=hv x hx;have hh:(D.run 0 (ay ws)).hist (x.1/8/8)= []/\(D.run 0 (ay ws)).pers (x.1/8)=0:=by
  have e1:(D.run 0 (ay ws)).hist=(D.co.run (ay ws)).hist:=by rw [<-e];rfl
  have e2:(D.run 0 (ay ws)).pers=(D.co.run (ay ws)).pers:=by rw [<-e];rfl
  rw [e1,e2];unfold ay;rw [cZ,cZ];obtain ⟨a,b,c⟩:=aem ws D.co;obtain ⟨a2,b2,c2,d2,_⟩:=aen (cmpN (srtN (ws.map λx=>dg x.1))) (D.co.run (ws.map wrI));generalize (D.co.run (ws.map wrI))=C1 at*;generalize (C1.run ((cmpN (srtN (ws.map λx=>dg x.1))).map flI))=C2 at*;have e3:C2.run [⟨3,0,0⟩]=C2.fe:=rfl;rw [e3];have hl:x.1/8/8=x.1/64:=oM;have hn:=d2 _ (rN hx);have d:dg x.1/64=x.1/64:=by unfold dg;omega
  rw [d] at hn;have hd:C2.due (x.1/64)=(C2.hist (x.1/64)).length:=by
   unfold Co.due;rw [hn,b2,c2];simp only;omega
  constructor
  ·show (C2.hist (x.1/8/8)).drop (C2.due (x.1/8/8))= [];rw [hl,hd];simp
  ·show aF ((C2.hist (x.1/8/8)).take (C2.due (x.1/8/8))) C2.pers (x.1/8)=0;rw [hl,hd,List.take_length,c2,c,ic];exact Z5 _ _ (λy hy=>h0 y (List.mem_filter.1 hy).1) (.inr ⟨x,List.mem_filter.2 ⟨hx,by simp⟩,rfl⟩)
 have hj:x.1/8<8*(D.run 0 (ay ws)).n:=by rw [nn];omega
 rcases hF _ hj with h|⟨y,hy,_⟩
 ·rw [h];exact hh.2
 ·rw [hh.1] at hy;cases hy
variable {f f2 f3:Idx} {R:List Nat} {n kd p k i j:Nat} {A:List Int} {t c:Int} {D2 D3:DS}
def ahl (V:oT D f R n A t c kd D2 f2 D3 f3 p k i) (nn:D.n<=4096) (hj:j<(wordsS c).toNat):D3.cur (pOff (26+32*k) c i/8+j)=0/\∀F,mI D3 F->F (pOff (26+32*k) c i/8+j)=0:=by
 have a:=V.rg2.lt;have n3:=V.n3;have kn:=V.kn;have e3:=V.d3;have n2:D3.n=D2.n:=by rw [e3];exact eV 0 _ _
 have hb:=aH V.c0 V.c5 V.iN;have b:=bv V.c0 V.c5 (show 0<=(i:Int) by omega) V.iN;have hw:=aN V.c0 V.c5;have hp:=cE (l:=26+32*k) oM V.c0 V.c5 V.iN;have e8:pOff (26+32*k) c i/8=(26+32*k)*8+offN c i+1:=by unfold pOff;omega
 have z:=oS V.rg2.on (l:=26+32*k) oM oM V.c0 V.c5 V.iN;have hx:(pOff (26+32*k) c i+8*j,0)∈zW (pOff (26+32*k) c i) (wordsS c).toNat:=aeo _ _ _ hj;refine ⟨by rw [e8,e3];exact z.2.2 j hj,λF hF=> ?_⟩;rw [e3] at hF;have h:=af0 V.rg2.on (ws:=zW (pOff (26+32*k) c i) (wordsS c).toNat) (λx hx=>by
  obtain ⟨j,hj,rfl⟩:=jR hx;simp only [pOff] at*;omega) (λx hx=>by
  obtain ⟨j,hj,rfl⟩:=jR hx;rfl) hx hF
 rw [show pOff (26+32*k) c i/8+j=(pOff (26+32*k) c i+8*j,0).1/8 by simp only;omega];exact h
end
abbrev pwN (f:Idx) (p:Nat):Nat:=(wordsS (f (hk p)).1).toNat
def CoV (D:DS) (f:Idx) (R:List Nat) (k i:Nat):Prop:=∀a p j,R[a]? =some p->j<pwN f p->(a<k\/(a=k/\j<i))->D.cur (pO p/8+j)=100*a+j+1
section
variable {w0 w w':aa} {Y Y':Lay} {D D':DS} {H:HL} {n k i j p v Wb ab:Nat} {f:Idx} {R:List Nat} {lv hd dd x52 x53:aA} {DD:List (Nat×Int)} {c:Int}
def Om (h:PlS w0 w Wb lv hd dd Y D H n f R DD) (hp:R[k]? =some p):p∈R/\hk p<n/\0<=(f (hk p)).1/\(f (hk p)).1<5/\((ixP f p:Nat):Int)<perS (f (hk p)).1/\pO p=pOff (26+32*hk p) (f (hk p)).1 (ixP f p)/\p≠0/\p<72057594037927936:=by
 have hm:=List.mem_of_getElem? hp;have a:=h.m.L.at_ (.inl hm);obtain ⟨⟨a1,a2,a3,a4,a5⟩,b,c⟩:=a;exact ⟨hm,a1,a2,a3,a4,a5,b,c⟩
def CoV.step (h:PlS w0 w Wb lv hd dd Y D H n f R DD) (cv:CoV D f R k i) (hp:R[k]? =some p) (hi:i<pwN f p) (hc:∀x,D'.cur x=if x=pO p/8+i then 100*k+i+1 else D.cur x):CoV D' f R k (i+1):=by
 intro a q j hq hj c;rw [hc];have ap:=Om h hp;have aq:=Om h hq;have nn:=h.m.nn;by_cases e:a=k
 ·subst e;rw [hp] at hq;injection hq with hq;subst hq;by_cases e2:j=i
  ·subst e2;rw [if_pos rfl]
  ·rw [if_neg oM];exact cv a p j hp hj (.inr ⟨rfl,by omega⟩)
 ·have ne:pO q≠pO p:=λe2=>e (by
   have nd:=h.m.L.hp.nd;have lq:(R.map pO)[a]? =some (pO q):=by rw [a9,hq];rfl
   have lp:(R.map pO)[k]? =some (pO p):=by rw [a9,hp];rfl
   have la:=(List.getElem?_eq_some_iff.1 lq).1;have lk:=(List.getElem?_eq_some_iff.1 lp).1;have eq:(R.map pO)[a]=(R.map pO)[k]:=by
    rw [(List.getElem?_eq_some_iff.1 lq).2,(List.getElem?_eq_some_iff.1 lp).2,e2]
   exact (List.getElem_inj nd).1 eq)
  have hpA:At f n p (hk p) (ixP f p):=(h.m.L.at_ (.inl ap.1)).1;have b:At f n q (hk q) (ixP f q):=(h.m.L.at_ (.inl aq.1)).1;have t:=Gu h.m.L.hp.rg nn.1 b hpA ne;have m8:pO q%8=0/\pO p%8=0:=by
   have e1:=aq.2.2.2.2.2.1;have e2:=ap.2.2.2.2.2.1;unfold pOff at e1 e2;omega
  unfold pwN at hi hj;rw [if_neg oM];exact cv a q j hq hj (.inl oM)
def CoV.next (cv:CoV D f R k i) (hp:R[k]? =some p) (hi:pwN f p<=i):CoV D f R (k+1) 0:=by
 intro a q j hq hj b;by_cases e:a=k
 ·subst e;rw [hp] at hq;injection hq with hq;subst hq;exact cv a p j hp hj (.inr ⟨rfl,by omega⟩)
 ·exact cv a q j hq hj (.inl oM)
def bxF (p:Nat) (c:Int) (i:Nat):aA:= [Value.int .u64 (p:Int),.int .i64 c].getD i undef
end
section
variable {w0 w w':aa} {Y Y':Lay} {D D':DS} {H:HL} {n k i j p v Wb ab:Nat} {f:Idx} {R:List Nat} {lv hd dd x52 x53:aA} {DD:List (Nat×Int)} {c:Int}
def GE (h:PlS w0 w Wb lv hd dd Y D H n f R DD):∃a cap,hd= .slice a R.length cap/\∀k (e:k<R.length),∃b o,a=some ⟨b,o,none⟩/\b<w.heap.size/\w.cell? ⟨b,o+k*2,none⟩=some (.int .u64 ((R[k]:Nat):Int))/\w.cell? ⟨b,o+k*2+1,none⟩=some (.int .i64 (f (hk R[k])).1):=by
 have ln:=bF f R;obtain ⟨a,cap,e1,_⟩:=id h.m.sH.isS';rw [ln] at e1;refine ⟨a,cap,e1,λk e=> ?_⟩;have e':k<(blM f R).length:=oM;obtain ⟨b,o,d,hv,hb,hc,_⟩:=eY h.m.sH e';rw [e1] at hv;injection hv with hv;have c:=hc k e';rw [gm e'] at c;exact ⟨b,o,hv,hb,c.1,c.2⟩
end
noncomputable section
variable (K:K1) (x0 x1 x2 x3 x4 x5 x6 x7 x8 x9 x10 x11 x12 x13 x14 x15 x16 x17 x18 x19 x20 x21 x22 x23 x24 x25 x26 x27 x28 x29 x30 x31 x32 x33 x34 x35 x36 x37 x38 x39 x40 x41 x42 x43 x44 x45 x46 x47 x48 x49 x50 x51 x52 x53 x54 x55 x56 x57 x58 x59 x60 x61 x62 x63 x64 x65 x66 x67 x68 x69 x70 x71 x72 x73 x74 x75 x76 x77 x78 x79 x80 x81 x82 x83 x84 x85 x86 x87 x88 x89 x90 x91 x92 x93 x94 x95 x96 x97 x98 x99 x100 x101 x102 x103 x104 x105 x106 x107 x108 x109 x110 x111 x112 x113 x114 x115 x116 x117 x118 x119 x120 x121 x122 x123 x124 x125 x126 x127 x128 x129 x130 x131 x132 x133 x134 x135:aA) (w:aa)
noncomputable def pF:=uD Tryz.f10 (.s .o (.s .o (.s .o (.s .o (.x 134 (.s .o (.b (.l [38] 206158430342 2475880078570760274920355392 (.s .o (.s .o (.x 481036337286 (.b (.s .o (.s .o (.s .o (.s .o (.s .o (.b (.l [69] 442721858250065576070 1237939448989569916193484800 (.s .o (.s .o (.x 1033017668608771227782 (.b (.s .o (.s .o (.b (.l [76] 38811949531565932941446 618894461778964223126151168 .o))))) .o))))))))))) .o)))))) (.s .o (.s .o (.s .o (.s .o (.s .o (.x 393218 (.s .o (.b (.l [135] 21778071482940061661655974875633166008450 182687661110219898895337280777585626190661025856 .o))) .o)))))))))))
abbrev mK:=aU prog Tryz.f10.results.toList
def jk:KF:=kO 134 (cP (pw pF 5 31) (mK K) (mK K) nX)
def K4:Prop:=jk K (fy 164 134 [x1,x2,x7]) w
def K5:Prop:=aG [38] 206158430342 (λE=>cP (pw pF 8 47) E (mK K) (exB 0 (jk K) nX)) (fy 164 481036337286 [x1,x2,x7,x36,x37,x38]) w
def GF:KF:=kO 393218 (cP (pw pF 11 2047) (mK K) (mK K) nX)
def Z6:Prop:=GF K (fy 164 393218 [x1,x17,x18]) w
def K6:Prop:=aG [135] 21778071482940061661655974875633166008450 (λE=>cP (pw pF 14 3071) E (mK K) (exB 6 (GF K) nX)) (fy 164 65334214448820184984967924626899497074818 [x1,x7,x14,x16,x17,x18,x134,x135]) w
def ig (E1:VP1):KF:=kO 481036337286 (cP (pw pF 11 1839) (sE1 E1 38) (mK K) (exB 0 (jk K) nX))
def Z7 (K:K1) (E1:VP1) (x1 x2 x7 x36 x37 x38:aA) (w:aa):Prop:=ig K E1 (fy 164 481036337286 [x1,x2,x7,x36,x37,x38]) w
def K7 (K:K1) (E1:VP1) (x1 x2 x7 x36 x37 x38 x67 x68 x69:aA) (w:aa):Prop:=aG [69] 442721858250065576070 (λE=>cP (pw pF 19 127791) E (mK K) (exB 2 (ig K E1) (exB 1 (ig K E1) (exB 0 (jk K) nX)))) (fy 164 1033017668608771227782 [x1,x2,x7,x36,x37,x38,x67,x68,x69]) w
def wh (E1:VP1) (E2:VP1):KF:=kO 1033017668608771227782 (cP (pw pF 22 3797807) (sE1 E2 69) (mK K) (exB 2 (ig K E1) (exB 1 (ig K E1) (exB 0 (jk K) nX))))
def Z8 (K:K1) (E1:VP1) (E2:VP1) (x1 x2 x7 x36 x37 x38 x67 x68 x69:aA) (w:aa):Prop:=wh K E1 E2 (fy 164 1033017668608771227782 [x1,x2,x7,x36,x37,x38,x67,x68,x69]) w
def K8 (K:K1) (E1:VP1) (E2:VP1) (x1 x2 x7 x12 x36 x37 x38 x67 x68 x69 x75 x76:aA) (w:aa):Prop:=aG [76] 38811949531565932941446 (λE=>cP (pw pF 27 26866479) E (mK K) (exB 4 (wh K E1 E2) (exB 3 (wh K E1 E2) (exB 2 (ig K E1) (exB 1 (ig K E1) (exB 0 (jk K) nX)))))) (fy 164 114369813257480256360582 [x1,x2,x7,x12,x36,x37,x38,x67,x68,x69,x75,x76]) w
def GG:Prop:=
 nS x7 w λa w=>
 fA 38 a 3 w λb w=>
 lD 33 b w λc w=>
 cL 15 (pA #[c,(.int .i64 0),x1,(.int .u8 ((64:Nat):Int))]) w λd w=>
 eX d 0 w λe w=>
 eX d 1 w λf w=>
 bC .neq 28 100 0 f w λg w=>
 af g (
 bC .eql 28 102 4 f w λh w=>
 gV h false x1 w λi w=>
 gd h false (λk=>bC .lss 3 105 1 i w k) w λj w=>
 aw h (.bool true) j w λl w=>
 gV l false x1 w λm w=>
 gd l false (λk=>bC .gtr 3 109 60 m w k) w λn w=>
 aw l (.bool true) n w λo w=>
 K o w) (
 nS x7 w λp w=>
 fA 38 p 0 w λq w=>
 lD 30 q w λs w=>
 cL 49 (pA #[s,x2]) w λt w=>
 bM .eql 30 (.tmp 118) (.const (.pointer none)) t (.pointer none) w λv w=>
 gV v false t w λy w=>
 gC v false 50 (pA #[y,(.int .i64 0)]) w λz w=>
 gd v false (λk=>bM .eql 31 (.tmp 122) (.const (.pointer none)) z (.pointer none) w k) w λa0 w=>
 aw v (.bool true) a0 w λa1 w=>
 af a1 (
 K (.bool false) w) (
 nS x7 w λa2 w=>
 fA 38 a2 3 w λa3 w=>
 lD 33 a3 w λa4 w=>
 cL 29 (pA #[a4,e]) w λa5 w=>
 eX a5 0 w λa6 w=>
 eX a5 1 w λa7 w=>
 K6 K x1 x7 e t a6 a7 a6 (.int .i64 0) w))
def SQ:K4 K x1 x2 x7 w=GG K x1 x2 x7 w:=aI λσ=>kR
def wi (E1:VP1):Prop:=
 bT .lss 3 38 37 x38 x37 w λa w=>
 af a (
 iA 49 x36 x38 w λb w=>
 lD 53 b w λc w=>
 ev prog (Instr.alloc 53 true (.tuple #[])) w λd w=>
 sD 53 d c w λw=>
 lD 53 d w λe w=>
 cL 26 (pA #[e]) w λf w=>
 af f (
 K (.bool true) w) (
 nS x7 w λg w=>
 fA 38 g 5 w λh w=>
 fA 36 h 1 w λi w=>
 lD 34 i w λj w=>
 lN 34 j w λl w=>
 lD 53 d w λm w=>
 cL 27 (pA #[x7,m]) w λn w=>
 ev prog (Op.unary .not n) w λo w=>
 af o (
 K (.bool false) w) (
 nR x7 w.drew λp=>
 fR 38 p 5 w.drew λq=>
 fR 36 q 1 w.drew λs=>
 lR 34 s w.drew λt=>
 nR x7 w.drew λv=>
 fR 38 v 5 w.drew λy=>
 fR 36 y 1 w.drew λz=>
 lR 34 z w.drew λa0=>
 rd prog (bd #[34] 3 #[a0]) w.drew λa1=>
 rd prog (bb #[3,3] 3 #[l,a1]) w.drew λa2=>
 rd prog (Instr.sliceAt 34 t (some a2) none none) w.drew λa3=>
 rd prog (bd #[34] 3 #[a3]) w.drew λa4=>
 K7 K E1 x1 x2 x7 x36 x37 x38 a3 a4 (.int .i64 0) w.drew))) (
 K4 K x1 x2 x7 w)
def GH (I:VP1) (μ:M1) (h0:I x38 w) (hr:∀x38 w,I x38 w->∀E1,Q1 I μ x38 w E1->wi K x1 x2 x7 x36 x37 x38 w E1):K5 K x1 x2 x7 x36 x37 x38 w:=⟨I,μ,h0,λσ w hI E hE=>cast kR (hr (σ 38) w hI E hE)⟩
def GI:Prop:=
 bC .eql 28 157 0 x18 w λa w=>
 gV a true x17 w λb w=>
 gV a true x1 w λc w=>
 gd a true (λk=>bT .geq 3 160 161 b c w k) w λd w=>
 aw a d (.bool false) w λe w=>
 K e w
def SR:Z6 K x1 x17 x18 w=GI K x1 x17 x18 w:=aI λσ=>kR
def wj (E1:VP1):Prop:=
 bT .lss 3 135 134 x135 x134 w λa w=>
 af a (
 nR x7 w.drew λb=>
 fR 38 b 1 w.drew λc=>
 lR 31 c w.drew λd=>
 cL 31 (pA #[x14,x135]) w.drew λe w=>
 (bw prog x7 w (λu=>u=b))/\
 (fG 38 b 1 w c)/\
 (lG 31 c w d)/\
 cL 32 (pA #[d,e]) w λf w=>
 rU .neq 26 145 .u64 0 f w λg=>
 gW g false x16 λh=>
 gW g false x14 λi=>
 gW g false x135 λj=>
 gC g false 50 (pA #[h,(.int .i64 0)]) w λl w=>
 gC g false 31 (pA #[i,j]) w λm w=>
 gC g false 32 (pA #[l,m]) w λn w=>
 gdR g false (λk=>rU .neq 26 153 .u64 0 n w k) λo=>
 bf g (.bool true) o λp=>
 af p (
 K (.bool false) w) (
 bC .add 3 135 1 x135 w λq w=>
 E1 q w)) (
 Z6 K x1 x17 x18 w)
def GJ (I:VP1) (μ:M1) (h0:I x135 w) (hr:∀x135 w,I x135 w->∀E1,Q1 I μ x135 w E1->wj K x1 x7 x14 x16 x17 x18 x134 x135 w E1):K6 K x1 x7 x14 x16 x17 x18 x134 x135 w:=⟨I,μ,h0,λσ w hI E hE=>cast kR (hr (σ 135) w hI E hE)⟩
def GK (E1:VP1):Prop:=
 bC .add 3 38 1 x38 w λa w=>
 E1 a w
def SS (E1:VP1):Z7 K E1 x1 x2 x7 x36 x37 x38 w=GK x38 w E1:=aI λσ=>kR
def wk (E1:VP1) (E2:VP1):Prop:=
 bT .lss 3 69 68 x69 x68 w λa w=>
 af a (
 iA 34 x67 x69 w λb w=>
 lD 63 b w λc w=>
 ev prog (Instr.alloc 63 true (.tuple #[])) w λd w=>
 sD 63 d c w λw=>
 fA 63 d 1 w λe w=>
 lD 3 e w λf w=>
 cL 56 (pA #[f]) w λg w=>
 K8 K E1 E2 x1 x2 x7 d x36 x37 x38 x67 x68 x69 g (.int .i64 0) w) (
 Z7 K E1 x1 x2 x7 x36 x37 x38 w)
def GL (E1:VP1) (I:VP1) (μ:M1) (h0:I x69 w) (hr:∀x69 w,I x69 w->∀E2,Q1 I μ x69 w E2->wk K x1 x2 x7 x36 x37 x38 x67 x68 x69 w E1 E2):K7 K E1 x1 x2 x7 x36 x37 x38 x67 x68 x69 w:=⟨I,μ,h0,λσ w hI E hE=>cast kR (hr (σ 69) w hI E hE)⟩
def GM (E1:VP1) (E2:VP1):Prop:=
 bC .add 3 69 1 x69 w λa w=>
 E2 a w
def ST (E1:VP1) (E2:VP1):Z8 K E1 E2 x1 x2 x7 x36 x37 x38 x67 x68 x69 w=GM x69 w E1 E2:=aI λσ=>kR
def wl (E1:VP1) (E2:VP1) (E3:VP1):Prop:=
 bT .lss 3 76 75 x76 x75 w λa w=>
 af a (
 nR x7 w.drew λb=>
 fR 38 b 1 w.drew λc=>
 lR 31 c w.drew λd=>
 fR 63 x12 0 w.drew λe=>
 lR 26 e w.drew λf=>
 cL 31 (pA #[f,x76]) w.drew λg w=>
 (bw prog x7 w (λu=>u=b))/\
 (fG 38 b 1 w c)/\
 (lG 31 c w d)/\
 cL 30 (pA #[d,g,(.int .u64 ((9223372036854775815:Nat):Int))]) w λh w=>
 bC .add 3 76 1 x76 w λi w=>
 E3 i w) (
 Z8 K E1 E2 x1 x2 x7 x36 x37 x38 x67 x68 x69 w)
def GN (E1:VP1) (E2:VP1) (I:VP1) (μ:M1) (h0:I x76 w) (hr:∀x76 w,I x76 w->∀E3,Q1 I μ x76 w E3->wl K x1 x2 x7 x12 x36 x37 x38 x67 x68 x69 x75 x76 w E1 E2 E3):K8 K E1 E2 x1 x2 x7 x12 x36 x37 x38 x67 x68 x69 x75 x76 w:=⟨I,μ,h0,λσ w hI E hE=>cast kR (hr (σ 76) w hI E hE)⟩
def aep:Prop:=
 cL 13 (pA #[]) w λa w=>
 ev prog (Op.unary .not a) w λb w=>
 gV b false x0 w λc w=>
 gd b false (λk=>lN 49 c w k) w λd w=>
 gd b false (λk=>bC .gtr 3 24 16 d w k) w λe w=>
 aw b (.bool true) e w λf w=>
 gV f false x2 w λg w=>
 gd f false (λk=>lN 51 g w k) w λh w=>
 gd f false (λk=>bC .gtr 3 29 20 h w k) w λi w=>
 aw f (.bool true) i w λj w=>
 af j (
 cL 13 (pA #[]) w λl w=>
 K l w) (
 cL 14 (pA #[(.int .i64 3)]) w λm w=>
 bM .eql 23 (.tmp 34) (.const (.pointer none)) m (.pointer none) w λn w=>
 af n (
 K (.bool false) w) (
 lN 49 x0 w λo w=>
 K5 K x1 x2 m x0 o (.int .i64 0) w))
def Z9:=cA3 Tryz.func10 pF.2 aep
end
section
variable {w0 w w':aa} {Y Y':Lay} {D D':DS} {H:HL} {n k i j p v Wb ab m:Nat} {f:Idx} {R:List Nat} {lv hd dd x52 x53 xu:aA} {DD:List (Nat×Int)} {c x:Int} {us:List Nat}
def Dr (h:HpS w0 w Y D H n f R) (c:x<1\/60<x) (K:K1) (hK:∀e w',Ext w w'->e≠0->e≠4->K (.tuple #[.int .u64 ((0:Nat):Int),.int .i64 e]) w'):
  ae prog 15 #[hpV H,.int .i64 0,.int .i64 x,.int .u8 64] w K:=by
 have b:=iy 0 x 64 oM;rw [show ((64:Nat):Int)=64 from rfl] at b;refine u7 _ _ _ _ _ _ ?_;unfold NI;by_cases a:x<1
 ·have h1:=hK 1 _ (Ext.refl _) (by decide) (by decide);rw [if_neg oM] at b;refine zS1 b ?_;exact h1
 ·have h1:=hK 9 _ (Ext.refl _) (by decide) (by decide);rw [if_pos oM,if_neg oM] at b;refine zS1 b ?_;exact h1
def ahm (h:x<=60):x<=wordsS (clsN x):=by
 have a0:wordsS 0=3:=rfl;have a1:wordsS 1=7:=rfl;have a2:wordsS 2=15:=rfl;have a3:wordsS 3=31:=rfl;have a4:wordsS 4=60:=rfl;unfold clsN
 repeat' split
 all_goals omega
def aaa (ts:Array TypeId) (ty:TypeId) (a b:Int) (w:aa):(bb ts ty #[.int .i64 a,.int .i64 b]).run prog w= .ok (.int .i64 (if b<a then b else a)) w:=rfl
def GO {L:List (Nat×Int)} {v:aA} (hs:BlS w v L) {k:Nat} (hk:k<=L.length):∃a c,(∀(w2:aa),(Instr.sliceAt 34 v (some (.int .i64 (k:Int))) none none).run prog w2= .ok (.slice a (L.length-k) c) w2)/\(L.length-k=0\/∃xb xo,a=some ⟨xb,xo,none⟩/\xb<w.heap.size/\v.ownBlock=some xb/\∀j u,(bkL (L.drop k))[j]? =some u->w.cell? ⟨xb,xo+j,none⟩=some u):=by
 have h2:=hs;obtain ⟨_,⟨rfl,h0⟩|⟨b,o,cap,a,rfl,h3⟩⟩:=h2
 ·obtain rfl:k=0:=oM;refine ⟨none,0,λw2=> ?_,.inl oM⟩;have r:(Instr.sliceAt 34 (.slice none 0 0) (some (.int .i64 ((0:Nat):Int))) none none).run prog w2= .ok (.slice none 0 0) w2:=by
   obtain ⟨i,hi,e1,hz,e2⟩:=elB.info;simp only [Instr.sliceAt,Sem.run_bind,az elB.un,Result.andThen_ok,Instr.slice,Instr.sliceBounds,iV _ _ _ _ _ (aB 0),sizeOf,typeInfo,program,Sem.run,hi,Sem.run_pure,Option.map_none,ite_self,Nat.sub_self]
  rw [r,show L.length-0=0 by omega]
 ·have r2:=λ(w:aa)=>gT (P:=prog) elB b o L.length cap .i64 k w hk
  refine ⟨_,_,r2,?_⟩;by_cases e0:L.length-k=0
  ·exact .inl e0
  ·right;have hc:=(hs.view).2;refine ⟨b,o+k*2,by rw [if_neg oM],hs.lt rfl,rfl,λj u hj=> ?_⟩;rw [Gv,a8] at hj;rw [bl];exact hs.cell rfl hj
def ahn {Y2:Lay} {D2:DS} (L:LW w0 w Wb lv hd dd Y D H n f R) (d2:Dv w Y2 D2) (g2:aL D2) (o2:D2.off=false) (c:Y2.dt=Y2.tb) (p0:p≠0) (hp:p<72057594037927936) (h8:pO p%8=0) (j:m<=60) (hl:pO p+8*m<=D.n*64) (n2:D2.n=D.n) (z1:∀i,i<m->D.cur (pO p/8+i)=0) (z2:∀i,i<m->D2.cur (pO p/8+i)=0) (hx:x<=(m:Int)) (K:K1) (hK:∀w',Ext w w'->K (.bool true) w'):
  K6 K (.int .i64 x) (.pointer (some ⟨Wb,0,none⟩)) (.int .u64 (p:Int)) (.pointer (some ⟨Y2.d,0,none⟩)) (.int .i64 (m:Int)) (.int .i64 0) (.int .i64 (m:Int)) (.int .i64 0) w:=by
 apply GJ (I:=λz w'=>∃(i:Nat),z= .int .i64 (i:Int)/\i<=m/\Ext w w') (μ:=λz _=>m-(intOf z).toNat)
 ·exact ⟨0,rfl,by omega,Ext.refl _⟩
 ·intros;rename_i z w1 hI E2 h;obtain ⟨i,rfl,hi,a⟩:=hI;have es:(i:Int)+1=((i+1:Nat):Int):=oM;have L1:=L.ext a;by_cases e:i<m
  ·have q1:=(aR L1.bx).2.1;have lW:=L1.bx.lt;have ps:=λ(w:aa) (K:K1)=>N3 p i w K p0 oM oM
   have e8:(pO p+8*i)/8=pO p/8+i:=oM;have ld:=λ(w2:aa) (K:K1) (e:Ext w1 w2)=>gZ (L1.ext e).hp.ar.L.dv L1.hp.rg.gd 0 oM L1.hp.rg.on.off (pO p+8*i) oM oM K
   rw [e8,z1 i e] at ld;have th:=λ(w2:aa) (K:K1) (e:Ext w1 w2)=>hJ (d2.ext (a.trans e)) 0 oM K
   rw [c,show (((0:Nat):Int))=0 from rfl] at th;have b:=λ(w2:aa) (K:K1) (e:Ext w1 w2)=>gZ (d2.ext (a.trans e)) g2 0 oM o2 (pO p+8*i) oM (by rw [n2];omega) K
   rw [e8,z2 i e] at b;unfold wj;refine eI q1 ps ld th b es ?_;refine ⟨trivial,trivial,trivial,?_⟩;apply h
   ·exact ⟨i+1,rfl,by omega,a.trans (Ext.drew (Ext.refl _))⟩
   ·simp only [intOf];omega
  ·obtain rfl:i=m:=oM;have g:=hK w1 a;unfold wj;refine zS0 ?_;rw [SR];unfold GI;refine zS1 hx ?_;exact g
def aho (h:PlS w0 w Wb lv hd dd Y D H n f R DD) (u:H.av=none) (hx:D.exe<800000000) (hR:R.length<1000) (v:RdS m w0 xu (u8L us)) (s:∀x∈us,x<256) (z:us.length<=20) (K:K1) (hK:∀w',Ext w0 w'->K (.bool true) w'):
  K4 K (.int .i64 x) xu (.pointer (some ⟨Wb,0,none⟩)) w:=by
 have q3:=(aR h.m.L.bx).2.2.2.1;have lW:=h.m.L.bx.lt;have nn:=h.m.nn;have r:=h.m.L.hp.ex;rw [SQ];unfold GG;by_cases bad:x<1\/60<x
 ·refine zS1 q3 ?_;refine Dr h.m.L.hp bad _ (λe w1 e1 h0 h4=> ?_);have c:=hK w1 (r.trans e1);by_cases a:x<1
  ·refine zS3 h0 h4 a ?_;exact c
  ·have a2:60<x:=oM;refine zS4 h0 h4 a a2 ?_;exact c
 ·refine zS1 q3 ?_;refine rf (R:=R) h.m.L.hp u (t:=0) (x:=x) oM oM oM oM 64 oM oM oM oM _ (λ_ _ _ w1 Y1 s1 b=> ?_) (λD2 f2 D3 f3 p k i V w1 Y1 s1 b=> ?_)
  ·have c:=hK w1 b.ex;refine zS0 ?_;exact c
  ·have L1:=h.m.L.st s1 b;have b1:=aR L1.bx;have c0:=b1.1;have c3:=b1.2.2.2.1;have B:=L1.bx.lt;have x3:=V.x3;have n3:=V.n3;have kn:=V.kn;have rs:=b.rv p (by simp);have sp:=V.sp oM rs oM b.rg;have A:=b.rg.lt;have d:=rs.okp oM b.rg;have cl:=jQ x;have wS:=aN cl.1 cl.2;have hk:=sp.2.1;have fk:=sp.2.2.2.1;rw [hk,fk] at d;have E:=ahm (x:=x) oM;have zz:=λ(j:Nat) (hj:j<(wordsS (clsN x)).toNat)=>ahl V oM hj
   rw [<-sp.1] at zz;have em:wordsS (clsN x)=(((wordsS (clsN x)).toNat:Nat):Int):=oM;have hu:=v.ext b.ex;have cr:=λ(w2:aa) (e:Ext w1 w2) (K:K1) hK=>NA (L1.ext e).hp.ar.L.dv b.rg.gd oM (hu.ext e) s oM K hK
   refine zS1 c0 ?_;refine cr _ xZ _ (λF w2 Y2 e2 im d2 C l=> ?_);have o:Ext w1 w2:=Ext.trans xZ e2;have L2:=L1.ext o;have r3:=(aR L2.bx).2.2.2.1;have G:=L2.bx.lt;have th:=λ(w3:aa) (K:K1) (e:Ext w2 w3)=>hJ (d2.ext e) 0 oM K
   rw [l.1,show (((0:Nat):Int))=0 from rfl] at th;have hr:∀q∈R++ [p],q<18446744073709551616:=λq hq=>by
    have:=((b.rv q hq).kn oM b.rg).2.2.2.1;omega
   have hw:=λ(w3:aa) (e:Ext w2 w3) (K:K1) hK=>vG (k:=k) (i:=i) (L2.ext e).hp hr kn (by rw [fk];exact V.c0) (by rw [fk];exact V.iN) oM sp.2.2.2.2.1 (by rw [fk];exact sp.1) (.inl (by simp)) K hK
   rw [fk,em] at hw;refine ij th r3 ?_;refine hw _ xZ _ (λw3 e3=> ?_);have g:Ext w2 w3:=Ext.trans xZ e3;have n4:=b.rg.gd.n;have gD:aL (DS.init D3.n ((List.range (8*D3.n)).map F)):=aL.init _ _ oM oM (λy hy=>by
    obtain ⟨j,hj,rfl⟩:=List.mem_map.1 hy;exact im.lt b.rg.gd j (by simpa using hj))
   have c:=ahn (x:=x) (L2.ext g) (d2.ext g) gD rfl l.1 sp.2.2.2.2.1 oM d.2.2.2.2 (m:=(wordsS (clsN x)).toNat) oM d.2.2.2.1 rfl (λj hj=>(zz j hj).1) (λj hj=>by
    show ((List.range (8*D3.n)).map F).getD (pO p/8+j) 0=0;rw [jP F oM];exact (zz j hj).2 F im) oM K (λw4 e4=>hK w4 (b.ex.trans (o.trans (g.trans e4))))
   refine zS0 ?_;exact c
def ahp {E1 E2:VP1} {x1 x2 x36 x37 x38 x67 x68 x69:aA} {jj:Nat} (o:x69= .int .i64 (jj:Int)) (j6:jj<1000) (h:PlS w0 w Wb lv hd dd Y D H n f R DD) (hx:D.exe<800000000) (hp:R[k]? =some p) (cB:ah w ab 63 2 (bxF p c)) (oA:nG w0 Y H Wb ab) (K:K1)
  (hE:∀Y' D' w',PlS w0 w' Wb lv hd dd Y' D' H n f R DD->D'.exe<=D.exe+60->E2 (.int .i64 ((jj+1:Nat):Int)) w'):
  K8 K E1 E2 x1 x2 (.pointer (some ⟨Wb,0,none⟩)) (.pointer (some ⟨ab,0,none⟩)) x36 x37 x38 x67 x68 x69 (.int .i64 (wordsS (f (hk p)).1)) (.int .i64 0) w:=by
 subst o;have ap:=Om h hp;have wS:=aN ap.2.2.1 ap.2.2.2.1;have em:wordsS (f (hk p)).1=((pwN f p:Nat):Int):=by unfold pwN;omega
 have u:pwN f p<=60:=by unfold pwN;omega
 rw [em];apply GN (I:=λz w'=>∃(i:Nat) (Y':Lay) (D':DS),z= .int .i64 (i:Int)/\i<=pwN f p/\PlS w0 w' Wb lv hd dd Y' D' H n f R DD/\D'.exe<=D.exe+i/\ah w' ab 63 2 (bxF p c)/\nG w0 Y' H Wb ab) (μ:=λz _=>pwN f p-(intOf z).toNat)
 ·exact ⟨0,Y,D,rfl,by omega,h,by omega,cB,oA⟩
 ·intros;rename_i z w1 hI E3 d;obtain ⟨i,Y1,D1,rfl,hi,h1,t,a,b⟩:=hI;have es:(i:Int)+1=((i+1:Nat):Int):=oM;have ej:(jj:Int)+1=((jj+1:Nat):Int):=oM;have lA:=a.lt;by_cases e:i<pwN f p
  ·have b0:w1.cell? ⟨ab,0,none⟩=some (.int .u64 (p:Int)):=a.cell (i:=0) oM;have q1:=(aR h1.m.L.bx).2.1;have lW:=h1.m.L.bx.lt;have ps:=λ(w:aa) (K:K1)=>N3 p i w K ap.2.2.2.2.2.2.1 oM oM
   have hs:=GD (v:=9223372036854775815) h1.m.L.hp.rg h1.m.nn.1 ap.2.1 ap.2.2.1 ap.2.2.2.2.1 e oM;rw [<-ap.2.2.2.2.2.1] at hs;unfold wl;refine zS3 b0 q1 ps ?_;refine ⟨trivial,trivial,trivial,?_⟩;refine BS (h1.ext (Ext.drew (Ext.refl _))).m.L.hp.ar.L.dv h1.m.L.hp.rg.gd 0 oM _ _ oM _ (λw2 Y2 s2=> ?_);have g:=h1.ext (Ext.drew (Ext.refl w1));have h2:=g.hdE s2 hs.1 (λj hj=>by rw [hs.2.2.2.2];exact h1.m.L.hp.er j hj) (by rw [hs.2.1,if_neg (by have:=ap.2.2.2.2.2.1;unfold pOff at this;omega)];exact h1.m.L.hp.idl);have r:=(a.ext (Ext.drew (Ext.refl w1))).frm s2.frm b.2.1;have q:=b.st (w:=w1.drew) a.drew.lt (HSt.of_stp H s2);have s:=hs.2.2.1;refine zS1 es ?_;apply d
   ·exact ⟨i+1,Y2,_,rfl,by omega,h2,by omega,r,q⟩
   ·simp only [intOf];omega
  ·obtain rfl:i=pwN f p:=oM;have l:=hE Y1 D1 w1 h1 oM;unfold wl;refine zS0 ?_;rw [ST];unfold GM;refine zS1 ej ?_;exact l
def ahq {E1:VP1} {x1 x2 x36 x37:aA} {a:Option Addr} {cap b0 jj:Nat} (h:PlS w0 w Wb lv hd dd Y D H n f R DD) (hx:D.exe<700000000) (hR:R.length<1000) (j6:jj<1000) (r:b0<=R.length)
  (hr:∀(w2:aa),(Instr.sliceAt 34 hd (some (.int .i64 (b0:Int))) none none).run prog w2= .ok (.slice a (R.length-b0) cap) w2) (K:K1)
  (hE:∀Y' D' w',PlS w0 w' Wb lv hd dd Y' D' H n f R DD->D'.exe<=D.exe+60*(R.length-b0)->E1 (.int .i64 ((jj+1:Nat):Int)) w'):
  K7 K E1 x1 x2 (.pointer (some ⟨Wb,0,none⟩)) x36 x37 (.int .i64 (jj:Int)) (.slice a (R.length-b0) cap) (.int .i64 ((R.length-b0:Nat):Int)) (.int .i64 0) w:=by
 have ln:=bF f R;have o:R.length-b0<=1000:=oM;have s:b0+(R.length-b0)=R.length:=oM;generalize hm:R.length-b0=m at*;apply GL (I:=λz w'=>∃(k:Nat) (Y':Lay) (D':DS),z= .int .i64 (k:Int)/\k<=m/\PlS w0 w' Wb lv hd dd Y' D' H n f R DD/\D'.exe<=D.exe+60*k) (μ:=λz _=>m-(intOf z).toNat)
 ·exact ⟨0,Y,D,rfl,by omega,h,by omega⟩
 ·intros;rename_i z w1 hI E2 j;obtain ⟨k,Y1,D1,rfl,t,h1,q⟩:=hI;have es:(jj:Int)+1=((jj+1:Nat):Int):=oM;by_cases e:k<m
  ·have e':b0+k<R.length:=oM;have hp:R[b0+k]? =some R[b0+k]:=an e';obtain ⟨a',c',r',ht⟩:=GO h1.m.sH (k:=b0) oM;have er:=(hr w1).symm.trans (r' w1);injection er with er _;injection er with er1 er2 er3;subst er1;rcases ht with h0|⟨xb,xo,rfl,hb,_,hc⟩
   ·omega
   have hg:((blM f R).drop b0)[k]? =some (R[b0+k],(f (hk R[b0+k])).1):=by
    rw [a8,an oM,gm oM]
   have d:=Oe _ _ _ hg;have c0:=hc _ _ d.1;have c1:=hc _ _ d.2;rw [<-bl] at c1;generalize R[b0+k]=p at*;have lW:=h1.m.L.bx.lt;have ap:=Om h1 hp;have cB:ah (w1.alloc (.cells #[.int .u64 (p:Int),.int .i64 (f (hk p)).1] 63)) w1.heap.size 63 2 (bxF p (f (hk p)).1):=ah.new w1 [.int .u64 (p:Int),.int .i64 (f (hk p)).1] 63;have b1:(w1.alloc (.cells #[.int .u64 (p:Int),.int .i64 (f (hk p)).1] 63)).cell? ⟨w1.heap.size,1,none⟩=some (.int .i64 (f (hk p)).1):=cB.cell (i:=1) oM;have ow:=h1.m.L.own (b:=w1.heap.size) (aB _);have g:=Ext.alloc_self w1 (.cells #[.int .u64 (p:Int),.int .i64 (f (hk p)).1] 63);have c:=ahp (E1:=E1) (E2:=E2) (x1:=x1) (x2:=x2) (x36:=x36) (x37:=x37) (x38:= .int .i64 (jj:Int)) (x67:= .slice (some ⟨xb,xo,none⟩) m cap) (x68:= .int .i64 (m:Int)) (jj:=k) rfl oM (h1.ext g) oM hp cB ow K (λY3 D3 w3 h3 l=>j _ _ ⟨k+1,Y3,D3,rfl,by omega,h3,by omega⟩ (by simp only [intOf];omega));unfold wk;refine zS4 c0 c1 b1 @hQ ?_;exact c
  ·obtain rfl:k=m:=oM;have c:=hE Y1 D1 w1 h1 oM;unfold wk;refine zS0 ?_;rw [SS];unfold GK;refine zS1 es ?_;exact c
def ahr {al:List rr} {sv:aA} {mm:Nat} (h:PlA w0 w Wb H n 0) (s:H.av=none) (E:H.lk=false) (u:n<=120) (C:wc mm w0 sv al) (ok:∀x∈al,Dp x) (W:al.length<=16) (O:RdS m w0 xu (u8L us)) (N:∀x∈us,x<256) (B:us.length<=20) (K:K1) (hK:∀w',Ext w0 w'->K (.bool true) w'):
  K5 K (.int .i64 x) xu (.pointer (some ⟨Wb,0,none⟩)) sv (.int .i64 (al.length:Int)) (.int .i64 0) w:=by
 apply GH (I:=λz w'=>∃j:Nat,z= .int .i64 (j:Int)/\j<=al.length/\∃(Y:Lay) (D:DS) (f:Idx) (R:List Nat) (DD:List (Nat×Int)) (lv hd dd:aA),PlS w0 w' Wb lv hd dd Y D H n f R DD/\D.exe<=100+10000*j/\R.length<=j/\DD.length<=100*j) (μ:=λz _=>al.length-(intOf z).toNat)
 ·obtain ⟨Y,D,f,R,DD,lv,hd,dd,a,b1,b2,b3⟩:=h;exact ⟨0,rfl,by omega,Y,D,f,R,DD,lv,hd,dd,a,by omega,by omega,by omega⟩
 ·intros;rename_i z w1 hI E1 hE;obtain ⟨j,rfl,hj,Y,D,f,R,DD,lv,hd,dd,a,b1,b2,b3⟩:=hI;have g:=a.m.L.hp.ex;obtain ⟨sa,sc,rfl,hs⟩:=C.ext g;by_cases e:j<al.length
  ·have hx:al[j]? =some al[j]:=an e;have S:=ok _ (List.getElem_mem e);generalize al[j]=y at*;obtain ⟨b,o,tv,dv,rfl,hb,hc,r1,r2⟩:=hs j y hx;have x0:w1.cell? ⟨b,o+j*6,none⟩=some (.int .u8 (y.kd:Int)):=hc 0 oM;have x1:w1.cell? ⟨b,o+j*6+1,none⟩=some (.int .i64 y.th):=hc 1 oM;have x2:w1.cell? ⟨b,o+j*6+2,none⟩=some (.int .i64 y.wd):=hc 2 oM;have x3:w1.cell? ⟨b,o+j*6+3,none⟩=some (.int .u8 (y.mk:Int)):=hc 3 oM;have x4:w1.cell? ⟨b,o+j*6+4,none⟩=some tv:=hc 4 oM;have x5:w1.cell? ⟨b,o+j*6+5,none⟩=some dv:=hc 5 oM;have F:=r1;have A:=r2;obtain ⟨ta,tc,rfl⟩:=eZ r1;obtain ⟨da,dc,rfl⟩:=eZ r2;have eB:=Ext.alloc_self w1 (.cells #[.int .u8 (y.kd:Int),.int .i64 y.th,.int .i64 y.wd,.int .u8 (y.mk:Int),.slice ta y.L.length tc,.slice da y.M.length dc] 53);have cB:ah (w1.alloc (.cells #[.int .u8 (y.kd:Int),.int .i64 y.th,.int .i64 y.wd,.int .u8 (y.mk:Int),.slice ta y.L.length tc,.slice da y.M.length dc] 53)) w1.heap.size 53 6 (apF y (.slice ta y.L.length tc) (.slice da y.M.length dc)):=ah.new w1 [.int .u8 (y.kd:Int),.int .i64 y.th,.int .i64 y.wd,.int .u8 (y.mk:Int),.slice ta y.L.length tc,.slice da y.M.length dc] 53;unfold wi;simp (disch:=try exact dZ) only [↓RBp,↓RA,↓reduceIte,Nat.reduceAdd,Nat.reduceMul,Nat.reduceEqDiff,RB,RX,RA2,x0,x1,x2,x3,x4,x5,List.getElem?_toArray,List.getElem?_cons_succ,List.getElem?_cons_zero,Option.isSome_some,Bool.and_self,List.setIfInBounds_toArray,List.set_cons_succ,List.set_cons_zero];refine acw _ (λ_ w2 e2=> ?_) (λg1 g2 w2 e2=> ?_) rfl rfl rfl rfl
   ·refine zS0 ?_;exact hK w2 (g.trans (eB.trans e2))
   ·have c2:=cB.ext e2;have d0:w2.cell? ⟨w1.heap.size,0,none⟩=some (.int .u8 (y.kd:Int)):=c2.cell (i:=0) oM;have d1:w2.cell? ⟨w1.heap.size,1,none⟩=some (.int .i64 y.th):=c2.cell (i:=1) oM;have d2:w2.cell? ⟨w1.heap.size,2,none⟩=some (.int .i64 y.wd):=c2.cell (i:=2) oM;have d3:w2.cell? ⟨w1.heap.size,3,none⟩=some (.int .u8 (y.mk:Int)):=c2.cell (i:=3) oM;have d4:w2.cell? ⟨w1.heap.size,4,none⟩=some (.slice ta y.L.length tc):=c2.cell (i:=4) oM;have d5:w2.cell? ⟨w1.heap.size,5,none⟩=some (.slice da y.M.length dc):=c2.cell (i:=5) oM;have p:=eB.trans e2;have a2:=a.ext p;obtain ⟨qa,qc,qe,_⟩:=GE a2;have q6:=(aR a2.m.L.bx).2.2.2.2.2.2.1;have lW:=a2.m.L.bx.lt;rw [qe] at q6;have v:=λ(w3:aa) (e3:Ext w2 w3) (K:K1) hK=>afZ (a2.ext e3) s E S ((F.ext p).ext e3) ((A.ext p).ext e3) (λ_=>⟨g1,g2⟩) u oM oM oM K hK
    refine zS8 q6 d0 d1 d2 d3 d4 d5 d5 ?_;refine v _ xZ _ (λY' D' f' R' DD' lv' hd' dd' w3 P pd=> ?_);have px:=pd.ex;have pr:=pd.rl;have Z:=pd.dl;obtain ⟨T,U,J,_⟩:=GE P;have r:=(aR P.m.L.bx).2.2.2.2.2.2.1;have a0:=P.m.L.bx.lt;have Q:=bF f' R';obtain ⟨b0,G,t⟩:∃b0:Nat,b0<=R'.length/\(if ((R'.length:Nat):Int)<((R.length:Nat):Int) then ((R'.length:Nat):Int) else ((R.length:Nat):Int))=(b0:Int):=by
     by_cases c:R'.length<R.length
     ·exact ⟨R'.length,by omega,by rw [if_pos oM]⟩
     ·exact ⟨R.length,by omega,by rw [if_neg oM]⟩
    have X:R'.length-b0<=16:=by
     split at t<;>omega
    obtain ⟨a3,c3,r3,_⟩:=GO P.m.sH (k:=b0) oM;rw [Q] at r3;have l:=λ(w:aa) (k:aA->Prop)=>ai (aaa #[3,3] 3 ((R.length:Nat):Int) ((R'.length:Nat):Int) w) k
    rw [t] at l;have q:=λ(w:aa) (k:aA->Prop)=>ai (r3 w) k
    have d:=λ(w4:aa) (e4:Ext w3 w4)=>ahq (E1:=E1) (x1:= .int .i64 x) (x2:=xu) (x36:= .slice (some ⟨b,o,none⟩) al.length sc) (x37:= .int .i64 (al.length:Int)) (jj:=j) (P.ext e4) oM oM oM G r3 K (λY4 D4 w5 P4 V=>hE _ _ ⟨j+1,rfl,by omega,Y4,D4,f',R',DD',lv',hd',dd',P4,by omega,by omega,by omega⟩ (by simp only [intOf];omega))
    rw [J] at r q;refine zS3 r l q ?_;exact d _ xZ
  ·obtain rfl:j=al.length:=oM;have d:=aho (x:=x) a s oM oM O N B K hK;unfold wi;refine zS0 ?_;exact d
def K9 {al:List rr} {sv:aA} (hG:bB w) (d:wc w.heap.size w sv al) (ok:∀x∈al,Dp x) (f:RdS m w xu (u8L us)) (j:∀x∈us,x<256) (K:K1) (hK:∀w',Ext w w'->K (.bool true) w'):
  ae prog 10 #[sv,.int .i64 x,xu] w K:=by
 have hA:=d;have hU:=f;obtain ⟨sa,sc,rfl,_⟩:=d;obtain ⟨ua,uc,rfl⟩:=eZ f;refine Z9 _ _ _ _ _ ?_;unfold aep;refine mA hG _ (λw1 h1=> ?_);have c:=hG.ext h1;by_cases hl:al.length<=16
 ·have a:¬((16:Int)<(al.length:Int)):=oM;by_cases hu:us.length<=20
  ·have b:¬((20:Int)<(us.length:Int)):=oM;refine zS2 a b ?_;refine vZ (n:=3) c oM oM _ (λWb H Y w2 g k i L=> ?_);have hb:=Al (n:=3) oM;have hR:PlA w1 w2 Wb H 3 0:=⟨Y,hbD 3,opF (hbD 3) 26,[],[],.slice none 0 0,.slice none 0 0,.slice none 0 0,SP oM L,by have:=hb.2.2.1;omega,by simp,by simp⟩;have h:=ahr (x:=x) hR g i oM (hA.ext h1) ok oM (hU.ext h1) j hu K (λw' e=>hK w' (h1.trans e));refine zS0 ?_;exact h
  ·have b:(20:Int)<(us.length:Int):=oM;refine zS2 a b ?_;refine mA (c.ext xZ) _ (λw2 h2=> ?_);exact hK w2 (h1.trans (Ext.trans xZ h2))
 ·have a:(16:Int)<(al.length:Int):=oM;refine zS1 a ?_;refine mA (c.ext xZ) _ (λw2 h2=> ?_);exact hK w2 (h1.trans (Ext.trans xZ h2))
end
end Go.Proofs.YtmpehclnnjgmcaaGreatDoor
