/-
  Part A of the proof in YtmpehclnnjgmcaaGreatDoorDaRowRm.
-/
import Derived.Test.YtmpehclnnjgmcaaGreatDoorDa3
import Derived.Test.YtmpehclnnjgmcaaGreatDoorDa6
import Derived.Test.YtmpehclnnjgmcaaGreatDoorDa1
import Derived.Test.YtmpehclnnjgmcaaGreatDoorDa2
set_option linter.unusedSimpArgs false
set_option linter.unusedVariables false
set_option maxHeartbeats 20000000
set_option maxRecDepth 100000
set_option linter.defProp false
open Go.Proofs.Tryz (prog)
open Go.RowKit (intOf)
open Go renaming Value->bk,World->bq
open Go.Instr renaming buildSlice->cq
open List renaming length_singleton->ab,mem_singleton->ap,length_append->aq,mem_singleton_self->ar,mem_append_right->aA,length_eq_zero_iff->bL,filter_eq_nil_iff->ca,getElem?_eq_none->cg,getElem?_set->cp,length_set->cs,append_nil->cw
open Nat renaming zero_mul->aa,le_refl->an,one_mul->bb,add_zero->bl,add_mul->cm,mul_le_mul->cx
open Option renaming getD_some->ch
namespace Go.Proofs.YtmpehclnnjgmcaaGreatDoor
open Go Go.Sh
structure Wm (w:bq) (b o:Nat) (W:Nat->Nat):Prop where
 cell:∀{i:Nat},i<256->w.cell? ⟨b,o+i,none⟩=some (u64 (W i))
 frz:∀i,w.frozen? ⟨b,i,none⟩=false
section
variable {w w':bq} {W:Nat->Nat} {b ob cap:Nat} {c:Int}
end
def fQ (m:Nat) (w:bq) (v:bk) (al:List (List Int×List Nat×List Int)):Prop:=∃a cap,v= .slice a al.length cap/\∀j x,al[j]? =some x->∃b o s1 s2 s3,a=some ⟨b,o,none⟩/\b<m/\w.cell? ⟨b,o+j*3,none⟩=some s1/\w.cell? ⟨b,o+j*3+1,none⟩=some s2/\w.cell? ⟨b,o+j*3+2,none⟩=some s3/\RdS m w s1 (aX x.1)/\RdS m w s2 (u8L x.2.1)/\RdS m w s3 (aX x.2.2)
section
variable {w w':bq} {Y:Lay} {D:DS} {l m:Nat} {v:bk} {al:List (List Int×List Nat×List Int)}
def fQ.ext (h:fQ m w v al) (e:Ext w w'):fQ m w' v al:=by
 obtain ⟨a,cap,hv,h⟩:=h;refine ⟨a,cap,hv,λj x hx=> ?_⟩;obtain ⟨b,o,s1,s2,s3,ha,hb,c1,c2,c3,r1,r2,r3⟩:=h j x hx;exact ⟨b,o,s1,s2,s3,ha,hb,e.cell_some c1,e.cell_some c2,e.cell_some c3,r1.ext e,r2.ext e,r3.ext e⟩
def wdL (W:Nat->Nat) (n:Nat):List bk:=(List.range n).map λj=>u64 (W j)
def il {W:Nat->Nat} {n j:Nat} (h:j<n):(wdL W n)[j]? =some (u64 (W j)):=by simp [wdL,h]
def Wm.of_sl {W:Nat->Nat} {b o n cap:Nat} (h:SlO w 26 1 (.slice (some ⟨b,o,none⟩) n cap) 256 (wdL W 256)):Wm w b o W:=⟨λhi=>h.cell rfl (il hi),λi=>h.frz rfl i⟩
end
def sm (g:Nat->Nat):Nat->Nat
 |0=>0
 |m+1=>sm g m+g m
def dK {g g':Nat->Nat}:∀{m:Nat},(∀k,k<m->g' k=g k)->sm g' m=sm g m
 |0,_=>rfl
 |m+1,h=>by rw [sm,sm,dK (m:=m) (λk hk=>h k oM),h m oM]
def xO {g g':Nat->Nat} {k d:Nat}:∀{m:Nat},k<m->(∀j,j<m->j≠k->g' j=g j)->g' k=g k+d->sm g' m=sm g m+d
 |0,h,_,_=>by omega
 |m+1,h,h1,h2=>by
  by_cases e:k=m
  ·subst e;rw [sm,sm,dK (g:=g) (g':=g') (m:=k) (λj hj=>h1 j oM oM),h2];omega
  ·rw [sm,sm,xO (m:=m) oM (λj hj=>h1 j oM) h2,h1 m oM oM];omega
def acn (g g':Nat->Nat):∀m:Nat,sm (λk=>g k+g' k) m=sm g m+sm g' m
 |0=>rfl
 |m+1=>by rw [sm,sm,sm,acn g g' m];omega
def uA:∀m:Nat,sm (λ_=>0) m=0
 |0=>rfl
 |m+1=>by rw [sm,uA m]
def xP (a:Nat):∀m:Nat,sm (λ_=>a) m=a*m
 |0=>rfl
 |m+1=>by rw [sm,xP a m,Nat.mul_succ]
def aco {g g':Nat->Nat}:∀{m:Nat},(∀k,k<m->g k<=g' k)->sm g m<=sm g' m
 |0,_=>an _
 |m+1,h=>by rw [sm,sm];exact Nat.add_le_add (aco (λk hk=>h k oM)) (h m oM)
def agG {g g':Nat->Nat} {k:Nat}:∀{m:Nat},k<m->(∀k,k<m->g k<=g' k)->g k<g' k->sm g m<sm g' m
 |0,h,_,_=>by omega
 |m+1,h,h1,h2=>by
  rw [sm,sm];have a:=h1 m oM;by_cases e:k=m
  ·subst e;have:=aco (g:=g) (g':=g') (m:=k) (λj hj=>h1 j oM);omega
  ·have:=agG (m:=m) (k:=k) oM (λj hj=>h1 j oM) h2;omega
def P7 (g:Nat->Nat->Nat) (n:Nat):∀m:Nat,sm (λj=>sm (λk=>g j k) n) m=sm (λk=>sm (λj=>g j k) m) n
 |0=>(uA n).symm
 |m+1=>by rw [sm,P7 g n m,<-acn];rfl
def acp (a:Nat):∀m:Nat,sm (λj=>if a=j then 1 else 0) m=if a<m then 1 else 0
 |0=>by rw [if_neg oM];rfl
 |m+1=>by
  rw [sm,acp a m];by_cases h:a<m
  ·rw [if_pos h,if_neg oM,if_pos oM]
  ·rw [if_neg h];by_cases h2:a=m
   ·rw [if_pos h2,if_pos oM]
   ·rw [if_neg h2,if_neg oM]
def MJ (g:Nat->Nat) (b:Nat):∀m:Nat,sm (λk=>g k*b) m=sm g m*b
 |0=>by rw [sm,sm,aa]
 |m+1=>by rw [sm,sm,MJ g b m,cm]
def cdv (a b:Nat):Nat:=(a+b-1)/b
def EQ {a b m:Nat} (h1:a<=m*b) (h2:m*b<a+b):cdv a b=m:=by
 unfold cdv;have hb:0<b:=oM;rw [Nat.div_eq_iff hb];refine ⟨by omega,?_⟩;omega
def acq {a b:Nat} (hb:0<b):a<=cdv a b*b/\cdv a b*b<a+b:=by
 unfold cdv;have e:=Nat.div_add_mod (a+b-1) b;have l:=Nat.mod_lt (a+b-1) hb;rw [Nat.mul_comm] at e;omega
def ixo (f:Idx) (k:Nat):Nat:=if (f k).1<0 then 40 else (5*(f k).2.1+(f k).1).toNat
def per5 (j:Nat):Nat:=(perS ((j%5:Nat):Int)).toNat
def inC (f:Idx) (j k:Nat):Nat:=if ixo f k=j then 1 else 0
def chC (f:Idx) (n j:Nat):Nat:=sm (inC f j) n
structure RmS (D:DS) (f:Idx) (n:Nat) (R U:List Nat) (ct:Nat->Nat):Prop where
 us:UsL D f n R U
 st:∀k,k<n->0<=(f k).1->∀i:Nat,(i:Int)<perS (f k).1->bS (wd D (26+32*k) (offN (f k).1 i))≠178
 ow:∀k,k<n->0<=(f k).1->0<=(f k).2.1/\(f k).2.1<8
 one:∀k,k<n->0<=(f k).1->cnR U k≠0
 ce:∀j,j<40->ct j=sm (λk=>inC f j k*cnR U k) n
 cl:∀j,j<40->cdv (ct j) (per5 j)=chC f n j
section
variable {D D2 D3:DS} {f f2 f3:Idx} {R U:List Nat} {n k i p q kd j:Nat} {A:List Int} {t c:Int} {ct:Nat->Nat}
def qE (j:Nat):4<=per5 j/\per5 j<=62:=by
 have:=aN (c:=((j%5:Nat):Int)) oM oM;unfold per5;omega
def MK (h0:0<=(f k).1) (c5:(f k).1<5) (ow:0<=(f k).2.1/\(f k).2.1<8):ixo f k<40/\ixo f k%5=(f k).1.toNat/\per5 (ixo f k)=(perS (f k).1).toNat:=by
 have a:ixo f k<40/\ixo f k%5=(f k).1.toNat:=by
  unfold ixo;rw [if_neg oM];omega
 refine ⟨a.1,a.2,?_⟩;unfold per5;rw [a.2]
 congr 2
 omega
def RmS.begin (n7:n<=120):RmS (hbD n) (opF (hbD n) 26) n [] [] (λ_=>0):=by
 have no:∀k,k<n->¬0<=(opF (hbD n) 26 k).1:=λk hk h=>by rw [PF n7 hk] at h;omega
 have a:∀j,j<40->∀k,k<n->inC (opF (hbD n) 26) j k=0:=λj hj k hk=>by
  have:=no k hk;have e4:ixo (opF (hbD n) 26) k=40:=by unfold ixo;rw [if_pos oM]
  unfold inC;rw [e4,if_neg oM]
 refine ⟨⟨List.nodup_nil,λq=>⟨λh=>absurd h List.not_mem_nil,λh=>h.elim (λh=>absurd h (Mu n7)) id⟩⟩,λk hk h=>absurd h (no k hk),λk hk h=>absurd h (no k hk),λk hk h=>absurd h (no k hk),λj hj=> ?_,λj hj=> ?_⟩
 ·rw [dK (g:=λ_=>0) (λk hk=>by rw [a j hj k hk,aa]),uA]
 ·have e:chC (opF (hbD n) 26) n j=0:=by
   unfold chC;rw [dK (g:=λ_=>0) (λk hk=>a j hj k hk),uA]
  have:=qE j;rw [e];exact EQ oM oM
def RmS.cn (h:RmS D f n R U ct) (rg:RgS D 26 n f) (nn:D.n<=4096) (rv:∀p∈R,Rsv D f n p) (nd:(R.map pO).Nodup) (a:k<n) (h0:0<=(f k).1):
  cnR U k<=(perS (f k).1).toNat/\((∀i:Nat,(i:Int)<perS (f k).1->cM D R (26+32*k) (f k).1 i=true)->cnR U k=(perS (f k).1).toNat)/\∀i:Nat,(i:Int)<perS (f k).1->cM D R (26+32*k) (f k).1 i=false->cnR U k<(perS (f k).1).toNat:=
 h.us.cn rg nn rv nd a h0 (h.st k a h0)
def ML (hc:0<=c/\c<5) (ht:0<=t/\t<8) (c5:(f k).1<5) (ow:0<=(f k).1->0<=(f k).2.1/\(f k).2.1<8):ixo f k=(5*t+c).toNat↔(f k).1=c/\(f k).2.1=t:=by
 unfold ixo;by_cases e:(f k).1<0
 ·rw [if_pos e];omega
 ·have:=ow oM;rw [if_neg e];omega
def P8 (h:RmS D f n R U ct) (rg:RgS D 26 n f) (nn:D.n<=4096) (rv:∀p∈R,Rsv D f n p) (nd:(R.map pO).Nodup) (hc:0<=c/\c<5) (ht:0<=t/\t<8) (h1:∀k,k<n->(f k).2.1=t->(f k).1=c->∀i:Nat,(i:Int)<perS c->cM D R (26+32*k) c i=true) (hj:j=(5*t+c).toNat):ct j=chC f n j*per5 j:=by
 rw [h.ce j oM];unfold chC;rw [<-MJ];refine dK (λk hk=> ?_);unfold inC;by_cases e:ixo f k=j
 ·have e':=e;rw [hj,ML hc ht (rg.cls hk).1 (λh0=>h.ow k hk h0)] at e';obtain ⟨e1,e2⟩:=e';have:=(h.cn rg nn rv nd hk oM).2.1 (λi hi=>by rw [e1] at hi ⊢;exact h1 k hk e2 e1 i hi);have p:=(MK (f:=f) (k:=k) oM (rg.cls hk).1 (h.ow k hk oM)).2.2;rw [e] at p;rw [if_pos e,this,p]
 ·rw [if_neg e,aa,aa]
def upN (ct:Nat->Nat) (j x:Nat) (k:Nat):Nat:=if k=j then x else ct k
def RmS.full (h:RmS D f n R U ct) (rg:RgS D 26 n f) (nn:D.n<=4096) (rv:∀p∈R,Rsv D f n p) (nd:(R.map pO).Nodup) (hc:0<=c/\c<5) (ht:0<=t/\t<8) (h1:∀k,k<n->(f k).2.1=t->(f k).1=c->∀i:Nat,(i:Int)<perS c->cM D R (26+32*k) c i=true) (h2:∀j,j<n->¬(f j).1<0) (hj:j=(5*t+c).toNat):
  n<sm (λx=>cdv (upN ct j (ct j+1) x) (per5 x)) 40:=by
 have a:j<40:=oM;have p4:=qE j;have e:=P8 h rg nn rv nd hc ht h1 hj;have s:sm (chC f n) 40=n:=by
  have:=P7 (λj k=>inC f j k) n 40;have e2:sm (λk=>sm (λj=>inC f j k) 40) n=sm (λ_=>1) n:=dK (λk hk=>by
   have:=MK (f:=f) (k:=k) (by have:=h2 k hk;omega) (rg.cls hk).1 (h.ow k hk (by have:=h2 k hk;omega));unfold inC;rw [acp,if_pos this.1])
  rw [e2,xP,bb] at this;exact this
 have:sm (λx=>cdv (upN ct j (ct j+1) x) (per5 x)) 40=sm (chC f n) 40+1:=by
  refine xO a (λx hx ne=> ?_) ?_
  ·unfold upN;rw [if_neg ne];exact h.cl x hx
  ·unfold upN;rw [if_pos rfl];refine EQ ?_ ?_<;>rw [cm,<-e]<;>omega
 omega
def RmS.take (h:RmS D f n R U ct) (rg:RgS D 26 n f) (nn:D.n<=4096) (rv:∀p∈R,Rsv D f n p) (nd:(R.map pO).Nodup) (ho:∀k,k<n->(f k).2.2=decide (cnR R k≠0)) (V:qe D f R n [] t c kd D2 f2 D3 f3 p k i) (k7:kd<=127) (ht:0<=t/\t<8) (d:RgS D3 26 n f3) (l:Rsv D3 f3 n p) (hp:p∉R) (hj:j=(5*t+c).toNat):RmS D3 f3 n (R++ [p]) (U++ [p]) (upN ct j (ct j+1)):=by
 have s:=rg.lt;have r:=d.lt;have n3:=V.n3;have kn:=V.kn;have v:j<40:=by have:=V.c0;have:=V.c5;omega
 have hc:0<=c/\c<5:=⟨V.c0,V.c5⟩;have sp:=V.sp nn l k7 d;have us:=h.us.take rg nn V d oM l hp;have p4:=qE j;have cU:∀x,cnR (U++ [p]) x=cnR U x+if k=x then 1 else 0:=λx=>by rw [Ei,sp.2.1]
 rcases V.cases rg nn with O|⟨g,N⟩
 ·have ix:∀x,ixo f3 x=ixo f x:=λx=>by unfold ixo;rw [(O.fs x).1,(O.fs x).2]
  have iC:∀x y,inC f3 x y=inC f x y:=λx y=>by unfold inC;rw [ix]
  have ij:ixo f k=j:=by rw [hj];exact (ML hc ht (rg.cls kn).1 (λh0=>h.ow k kn h0)).2 ⟨O.fc,O.ft⟩
  have m:per5 j=(perS c).toNat:=by
   have:=(MK (f:=f) (k:=k) (by rw [O.fc];omega) (rg.cls kn).1 (h.ow k kn (by rw [O.fc];omega))).2.2;rw [ij,O.fc] at this;exact this
  have ce:∀x,x<40->upN ct j (ct j+1) x=sm (λy=>inC f3 x y*cnR (U++ [p]) y) n:=λx hx=>by
   have e0:=h.ce x hx;by_cases e:x=j
   ·subst e;unfold upN;rw [if_pos rfl,e0];refine (xO kn (λy hy ne=> ?_) ?_).symm
    ·rw [iC,cU,if_neg (λe=>ne e.symm),bl]
    ·rw [iC,cU,if_pos rfl];unfold inC;rw [if_pos ij,bb,bb]
   ·unfold upN;rw [if_neg e,e0];refine dK (λy hy=> ?_);rw [iC,cU];by_cases ey:k=y
    ·subst ey;unfold inC;rw [if_neg oM,aa,aa]
    ·rw [if_neg ey,bl]
  refine ⟨us,λx hx h0 i' hi=> ?_,λx hx h0=> ?_,λx hx h0=> ?_,ce,λx hx=> ?_⟩
  ·rw [(O.fs x).1] at h0 hi ⊢;rw [O.we x hx h0 i' hi];exact h.st x hx h0 i' hi
  ·rw [(O.fs x).1] at h0;rw [(O.fs x).2];exact h.ow x hx h0
  ·rw [(O.fs x).1] at h0;have:=h.one x hx h0;rw [cU];omega
  ·have c3:chC f3 n x=chC f n x:=by unfold chC;exact dK (λy _=>iC x y)
   rw [c3];by_cases e:x=j
   ·subst e;unfold upN;rw [if_pos rfl];have lt:ct x<chC f n x*per5 x:=by
     rw [h.ce x hx];unfold chC;rw [<-MJ];refine agG kn (λy hy=> ?_) ?_
     ·unfold inC;by_cases ey:ixo f y=x
      ·have e':=ey;rw [hj,ML hc ht (rg.cls hy).1 (λh0=>h.ow y hy h0)] at e';have:=(h.cn rg nn rv nd hy oM).1;rw [e'.1] at this;rw [if_pos ey,m];omega
      ·rw [if_neg ey,aa,aa];exact an _
     ·have:=(h.cn rg nn rv nd kn (by rw [O.fc];omega)).2.2 i (by rw [O.fc];exact V.iN) (by rw [O.fc];exact O.us);rw [O.fc] at this;unfold inC;rw [if_pos ij,m,bb,bb];exact this
    have b:=acq (a:=ct x) (b:=per5 x) oM;rw [h.cl x hx] at b;exact EQ oM oM
   ·unfold upN;rw [if_neg e];exact h.cl x hx
 ·have fk:(f k).1<0:=by
   rcases N.how with h1|h1
   ·exact h1.1
   ·exfalso;have em:=Mv h1;have h0:cnR R k=0:=N.cn;refine h.one k kn em.2.1 ?_;unfold cnR;rw [bL,ca];intro q hq he;have he:hk q=k:=by simpa using he
    rcases (h.us.mem q).1 hq with a|a
    ·have b:=(a.at_ oM rg).2.1.2.2.2.2;have i1:=(a.at_ oM rg).1.2.2.2.1;rw [he] at b i1;rw [em.2.2 _ i1] at b;cases b
    ·exact (he▸Eg a:cnR R k≠0) h0
  have u:ixo f k=40:=by unfold ixo;rw [if_pos fk]
  have o:ixo f3 k=j:=by unfold ixo;rw [N.fk.1,N.fk.2,if_neg oM,hj]
  have ix:∀x,x≠k->ixo f3 x=ixo f x:=λx hx=>by unfold ixo;rw [N.oth x hx]
  have u0:cnR U k=0:=by
   unfold cnR;rw [bL,ca];intro q hq he;have he:hk q=k:=by simpa using he
   have:=(h.us.at_ rg nn rv hq).2.1;rw [he] at this;omega
  have full:=P8 h rg nn rv nd hc ht (λx hx a b i hi=>N.full x hx a b (by simp) i hi) hj;have c3:∀x,x<40->chC f3 n x=if x=j then chC f n x+1 else chC f n x:=λx hx=>by
   by_cases e:x=j
   ·subst e;rw [if_pos rfl];unfold chC;refine xO kn (λy hy ne=> ?_) ?_
    ·unfold inC;rw [ix y ne]
    ·unfold inC;rw [if_pos o,if_neg oM]
   ·rw [if_neg e];unfold chC;refine dK (λy hy=> ?_);unfold inC;by_cases ey:y=k
    ·subst ey;rw [if_neg oM,if_neg oM]
    ·rw [ix y ey]
  refine ⟨us,λx hx h0 i' hi=> ?_,λx hx h0=> ?_,λx hx h0=> ?_,λx hx=> ?_,λx hx=> ?_⟩
  ·by_cases e:x=k
   ·subst e;rw [N.fk.1] at hi ⊢;rw [N.own i' hi,(xA (t:=t) (F:=wd D (26+32*x)) V.c0 V.c5 hi N.g6).2];decide
   ·rw [N.oth x e] at h0 hi ⊢;rw [N.we x hx e _ (aK h0 (rg.cls hx).1 hi).2.2];exact h.st x hx h0 i' hi
  ·by_cases e:x=k
   ·subst e;rw [N.fk.2];exact ht
   ·rw [N.oth x e] at h0 ⊢;exact h.ow x hx h0
  ·rw [cU];by_cases e:x=k
   ·subst e;rw [if_pos rfl];omega
   ·rw [N.oth x e] at h0;have:=h.one x hx h0;omega
  ·have e0:=h.ce x hx;by_cases e:x=j
   ·subst e;unfold upN;rw [if_pos rfl,e0];refine (xO kn (λy hy ne=> ?_) ?_).symm
    ·unfold inC;rw [ix y ne,cU,if_neg (show ¬k=y from λe=>ne e.symm),bl]
    ·unfold inC;rw [if_pos o,if_neg oM,cU,if_pos rfl,u0]
   ·unfold upN;rw [if_neg e,e0];refine dK (λy hy=> ?_);unfold inC;by_cases ey:y=k
    ·subst ey;rw [if_neg oM,if_neg oM,aa,aa]
    ·rw [ix y ey,cU,if_neg (show ¬k=y from λe=>ey e.symm),bl]
  ·rw [c3 x hx];by_cases e:x=j
   ·subst e;rw [if_pos rfl];unfold upN;rw [if_pos rfl];refine EQ ?_ ?_<;>rw [cm,<-full]<;>omega
   ·rw [if_neg e];unfold upN;rw [if_neg e];exact h.cl x hx
def RmS.pub (h:RmS D f n R U ct) (rg:RgS D 26 n f) (nn:D.n<=4096) (hp:p∈R) (pr:yq D f n [p] [] D2 f2):RmS D2 f2 n (rmL R [p]) U ct:=by
 have c:=rg.lt;have ix:∀x,ixo f2 x=ixo f x:=λx=>by unfold ixo;rw [(pr.fs x).1,(pr.fs x).2]
 have iC:∀x y,inC f2 x y=inC f x y:=λx y=>by unfold inC;rw [ix]
 refine ⟨h.us.pub hp pr,λx hx h0 i' hi=> ?_,λx hx h0=> ?_,λx hx h0=> ?_,λx hx=> ?_,λx hx=> ?_⟩
 ·rw [(pr.fs x).1] at h0 hi ⊢;have c5:=(rg.cls hx).1;have bd:=cY (l:=26+32*x) (i:=i') oM h0 c5 hi;have hq:At f n (ptrN (pOff (26+32*x) (f x).1 i') 1 1) x i':=⟨hx,h0,c5,hi,rW _ _ _ bd.1 bd.2.1⟩;by_cases e:hk p=x/\ixP f p=i'
  ·have kp:=(pr.E.kept pr.P (p:=p) (by simp)).2.2.2.2;rw [e.1,e.2] at kp;omega
  ·have sm:=pr.E.same hq (λ⟨y,hy,a,b⟩=>by simp only [ap] at hy;subst hy;exact e ⟨a,b⟩) (λ⟨y,hy,_⟩=>by cases hy);rw [sm];exact h.st x hx h0 i' hi
 ·rw [(pr.fs x).1] at h0;rw [(pr.fs x).2];exact h.ow x hx h0
 ·rw [(pr.fs x).1] at h0;exact h.one x hx h0
 ·rw [h.ce x hx];exact (dK (λy _=>by rw [iC])).symm
 ·rw [h.cl x hx];unfold chC;exact (dK (λy _=>iC x y)).symm
end
def UC (n:Nat) (h:n<8):IntKind.i64.wrap (n:Int)=(n:Int):=by
 have:n=0\/n=1\/n=2\/n=3\/n=4\/n=5\/n=6\/n=7:=by omega
 rcases this with rfl|rfl|rfl|rfl|rfl|rfl|rfl|rfl<;>rfl
def akl (a:Int):IntKind.i64.wrap ((BitVec.ofInt 64 a&&&BitVec.ofInt 64 7).toNat:Int)=a%8:=by
 have h3:(BitVec.ofInt 64 7).toNat=2^3-1:=by decide
 have h:(BitVec.ofInt 64 a&&&BitVec.ofInt 64 7).toNat=(BitVec.ofInt 64 a).toNat%8:=by
  rw [BitVec.toNat_and,h3,Nat.and_two_pow_sub_one_eq_mod]
 have h2:(BitVec.ofInt 64 a).toNat=(a%18446744073709551616).toNat:=by rw [BitVec.toNat_ofInt];rfl
 rw [UC _ (by rw [h];omega),h,h2];omega
def aeD (P:Program) (t:TypeId) (x y:Operand) (a:Int) (w:bq) (k:K1):ev P (aG .and t x y (.int .i64 a) (.int .i64 7)) w k=k (.int .i64 (a%8)) w:=by
 refine ad ?_ k;rw [bg];simp only [binOp,ne_eq,not_true,if_false,Op.intBits];rw [Sem.run_pure];exact congrArg (λz=>Result.ok (Value.int .i64 z) w) (akl a)
noncomputable section
variable (K:K1) (x0 x1 x2 x3 x4 x5 x6 x7 x8 x9 x10 x11 x12 x13 x14 x15 x16 x17 x18 x19 x20 x21 x22 x23 x24 x25 x26 x27 x28 x29 x30 x31 x32 x33 x34 x35:bk) (w:bq)
noncomputable def aeE:=uD Tryz.f4 (.s .o (.s .o (.s .o (.s .o (.s .o (.s .o (.x 64 (.s .o (.b (.l [35] 25769804000 10633823966279326983230456447883083280 (.s .o (.s .o (.x 60129542368 .o .o)))))) .o)))))))
abbrev aeF:=aU prog Tryz.f4.results.toList
def ER:KF:=kO 64 (cP (pw aeE 7 127) (aeF K) (aeF K) nX)
def agH:Prop:=ER K (fy 125 64 [x6]) w
def acr:Prop:=aH [35] 25769804000 (λE=>cP (pw aeE 10 191) E (aeF K) (exB 0 (ER K) nX)) (fy 125 60129542368 [x5,x6,x7,x33,x34,x35]) w
def aeG (E1:VP1):KF:=kO 60129542368 (cP (pw aeE 13 7359) (sE1 E1 35) (aeF K) (exB 0 (ER K) nX))
def Bs (K:K1) (E1:VP1) (x5 x6 x7 x33 x34 x35:bk) (w:bq):Prop:=aeG K E1 (fy 125 60129542368 [x5,x6,x7,x33,x34,x35]) w
def Qa:Prop:=
 cL 25 (pA #[x6]) w λa w=>
 K a w
def acs:agH K x6 w=Qa K x6 w:=aJ λσ=>kR
def ES (E1:VP1):Prop:=
 bT .lss 3 35 34 x35 x34 w λa w=>
 af a (
 iA 49 x33 x35 w λb w=>
 lD 53 b w λc w=>
 ev prog (Instr.alloc 53 true (.tuple #[])) w λd w=>
 sD 53 d c w λw=>
 fA 53 d 2 w λe w=>
 lD 3 e w λf w=>
 cL 18 (pA #[f]) w λg w=>
 eX g 0 w λh w=>
 eX g 1 w λi w=>
 bC .neq 3 45 0 i w λj w=>
 af j (
 Bs K E1 x5 x6 x7 x33 x34 x35 w) (
 fA 53 d 1 w λl w=>
 lD 3 l w λm w=>
 bC .and 3 48 7 m w λn w=>
 bM .mul 3 (ci 5) (.tmp 51) (.int .i64 5) n w λo w=>
 bT .add 3 52 53 o h w λp w=>
 iA 50 x7 p w λq w=>
 lD 3 q w λs w=>
 bC .add 3 56 1 s w λt w=>
 iA 50 x7 p w λv w=>
 sD 3 v t w λw=>
 cL 22 (pA #[x7]) w λy w=>
 bT .gtr 3 60 61 y x5 w λz w=>
 nR x6 w.drew λa0=>
 fR 38 a0 3 w.drew λa1=>
 lR 33 a1 w.drew λa2=>
 fR 53 d 2 w.drew λa3=>
 lR 3 a3 w.drew λa4=>
 cL 15 (pA #[a2,n,a4,(.int .u8 ((64:Nat):Int))]) w.drew λa5 w=>
 xR a5 0 w λa6=>
 xR a5 1 w λa7=>
 bC .eql 28 74 4 a7 w λa8 w=>
 gV a8 true z w λa9 w=>
 au a8 a9 (.bool false) w λb0 w=>
 af b0 (
 bM .mul 3 (ci 5) (.tmp 80) (.int .i64 5) n w λb1 w=>
 bT .add 3 81 82 b1 h w λb2 w=>
 iA 50 x7 b2 w λb3 w=>
 lD 3 b3 w λb4 w=>
 bC .sub 3 85 1 b4 w λb5 w=>
 iA 50 x7 b2 w λb6 w=>
 sD 3 b6 b5 w λw=>
 Bs K E1 x5 x6 x7 x33 x34 x35 w) (
 bC .neq 28 88 0 a7 w λb7 w=>
 gV b7 false x6 w λb8 w=>
 gV b7 false a6 w λb9 w=>
 gd b7 false (λk=>fA 53 d 2 w k) w λc0 w=>
 gd b7 false (λk=>lD 3 c0 w k) w λc1 w=>
 gC b7 false 23 (pA #[b8,b9,c1,(.int .u8 ((64:Nat):Int))]) w λc2 w=>
 gd b7 false (λk=>ev prog (Op.unary .not c2) w k) w λc3 w=>
 au b7 (.bool true) c3 w λc4 w=>
 af c4 (
 K (.bool false) w) (
 fA 53 d 3 w λc5 w=>
 lD 5 c5 w λc6 w=>
 bU .rem 5 99 .u8 2 c6 w λc7 w=>
 bU .eql 5 100 .u8 1 c7 w λc8 w=>
 af c8 (
 cL 16 (pA #[x6,n]) w λc9 w=>
 ev prog (cq 25 1 #[(0,a6)]) w λd0 w=>
 cL 17 (pA #[c9,(.slice none 0 0),d0,(.slice none 0 0)]) w λd1 w=>
 bC .neq 28 107 0 d1 w λd2 w=>
 af d2 (
 K (.bool false) w) (
 nS x6 w λd3 w=>
 fA 38 d3 5 w λd4 w=>
 lD 36 d4 w λd5 w=>
 ev prog (cq 58 1 #[(0,a6)]) w λd6 w=>
 cL 24 (pA #[d5,d6,(.slice none 0 0)]) w λd7 w=>
 eX d7 0 w λd8 w=>
 eX d7 1 w λd9 w=>
 nS x6 w λe0 w=>
 fA 38 e0 5 w λe1 w=>
 sD 36 e1 d8 w λw=>
 Bs K E1 x5 x6 x7 x33 x34 x35 w)) (
 Bs K E1 x5 x6 x7 x33 x34 x35 w))))) (
 agH K x6 w)
def MM (I:VP1) (μ:M1) (h0:I x35 w) (hr:∀x35 w,I x35 w->∀E1,Q1 I μ x35 w E1->ES K x5 x6 x7 x33 x34 x35 w E1):acr K x5 x6 x7 x33 x34 x35 w:=⟨I,μ,h0,λσ w hI E hE=>cast kR (hr (σ 35) w hI E hE)⟩
def Qb (E1:VP1):Prop:=
 bC .add 3 35 1 x35 w λa w=>
 E1 a w
def acu (E1:VP1):Bs K E1 x5 x6 x7 x33 x34 x35 w=Qb x35 w E1:=aJ λσ=>kR
def ajA:Prop:=
 cL 13 (pA #[]) w λa w=>
 ev prog (Op.unary .not a) w λb w=>
 gV b false x1 w λc w=>
 gd b false (λk=>lN 49 c w k) w λd w=>
 gd b false (λk=>bC .gtr 3 20 60 d w k) w λe w=>
 au b (.bool true) e w λf w=>
 af f (
 cL 13 (pA #[]) w λg w=>
 K g w) (
 cV 5 3 x0 w λh w=>
 bC .rem 3 25 5 h w λi w=>
 bM .add 3 (ci 1) (.tmp 26) (.int .i64 1) i w λj w=>
 cL 14 (pA #[j]) w λl w=>
 bM .eql 23 (.tmp 30) (.const (.pointer none)) l (.pointer none) w λm w=>
 af m (
 K (.bool false) w) (
 ev prog (Instr.makeSlice 50 (.int .i64 40) (.int .i64 40)) w λn w=>
 lN 49 x1 w λo w=>
 acr K j l n x1 o (.int .i64 0) w))
def aeH:=cA2 Tryz.func4 aeE.2 ajA
end
def SlO.updI {w:bq} {t:TypeId} {b o n cap:Nat} {L:List bk} (h:SlO w t 1 (.slice (some ⟨b,o,none⟩) n cap) n L) {i:Nat} (u:bk) (hi:i<n):SlO (w.setCell ⟨b,o+i,none⟩ u) t 1 (.slice (some ⟨b,o,none⟩) n cap) n (L.set i u):=by
 obtain ⟨hl,h|⟨b',o',l,a,hv,hh,f,g,m,hg⟩⟩:=h
 ·cases h.1
 ·injection hv with hv h2 h3;injection hv with hv;injection hv with h4 h5 _;subst h4;subst h5;subst h3;have hC:ah w b t a.size (λj=>(a[j]?).getD undef):=⟨a,hh,an _,λj hj=>by simp only [Array.getElem?_eq_getElem hj,ch]⟩;have c:=hC.set (i:=o+i) u oM;obtain ⟨a',d,q,k⟩:=c;refine ⟨by rw [cs];exact hl,.inr ⟨b,o,cap,a',rfl,d,f,g,by omega,λj x hj=> ?_⟩⟩;have p:j<n:=by
   have:=(List.getElem?_eq_some_iff.1 hj).1;rw [cs] at this;omega
  rw [k (o+j) oM];simp only;rw [cp] at hj;by_cases e:i=j
  ·subst e;rw [if_pos rfl,if_pos oM] at hj;rw [if_pos rfl];exact hj
  ·rw [if_neg e] at hj;rw [if_neg oM,hg j x hj,ch]
def ctL (ct:Nat->Nat):List bk:=(List.range 40).map λk=> .int .i64 (ct k:Int)
def nM (ct:Nat->Nat):(ctL ct).length=40:=by simp [ctL]
def nN (ct:Nat->Nat) {k:Nat} (h:k<40):(ctL ct)[k]? =some (.int .i64 (ct k:Int)):=by simp [ctL,h]
def aeI (ct:Nat->Nat) (j x:Nat):(ctL ct).set j (.int .i64 (x:Int))=ctL (upN ct j x):=by
 apply List.ext_getElem?;intro i;rw [cp];by_cases h:i<40
 ·rw [nN _ h,nN _ h,nM];unfold upN;by_cases e:j=i
  ·subst e;simp [h]
  ·rw [if_neg e,if_neg (λa=>e a.symm)]
 ·rw [cg (by rw [nM];omega),cg (by rw [nM];omega)];by_cases e:j=i
  ·subst e;rw [if_pos rfl,nM,if_neg h]
  ·rw [if_neg e]
section
variable {w0 w w1 w':bq} {Y Y':Lay} {D:DS} {H:HL} {n k i p q m Wb:Nat} {f:Idx} {R U:List Nat} {lv hd dd v cv:bk} {ct:Nat->Nat}
def UD (h:SlO w 3 1 cv 40 (ctL ct)) (hs:∀k,k<40->ct k<1000) (K:K1) (hK:K (.int .i64 ((sm (λx=>cdv (ct x) (per5 x)) 40:Nat):Int)) w):
  ae prog 22 #[cv] w K:=by
 obtain ⟨b,o,cap,rfl,f⟩:=h.isS oM;refine abh _ _ _ ?_;unfold agj;apply Hr (I:=λz y w'=>∃j:Nat,z= .int .i64 ((sm (λx=>cdv (ct x) (per5 x)) j:Nat):Int)/\y= .int .i64 (j:Int)/\j<=40/\w'=w) (μ:=λ_ y _=>40-(intOf y).toNat)
 ·exact ⟨0,rfl,rfl,by omega,rfl⟩
 ·intros;rename_i w1 hI E1 hE;obtain ⟨j,rfl,rfl,hj,rfl⟩:=hI;have es:(j:Int)+1=((j+1:Nat):Int):=oM;by_cases e:j<40
  ·have c0:=h.cell rfl (nN ct e);have e5:(j:Int)%5=((j%5:Nat):Int):=oM;have hp:perS ((j%5:Nat):Int)=(per5 j:Int):=by
    have:=(aN (c:=((j%5:Nat):Int)) oM oM);unfold per5;omega
   have hb:=qE j;have hc:=hs j e;have e8:((ct j:Int)+(per5 j:Int)-1)/(per5 j:Int)=((cdv (ct j) (per5 j):Nat):Int):=by
    rw [show (ct j:Int)+(per5 j:Int)-1=((ct j+per5 j-1:Nat):Int) by omega];exact (Int.natCast_ediv _ _).symm
   have d:∀x,x<40->cdv (ct x) (per5 x)<=2000:=λx hx=>by
    have b5:=qE x;have bd:=(acq (a:=ct x) (b:=per5 x) oM).2;have:=hs x hx;rcases Nat.lt_or_ge 2000 (cdv (ct x) (per5 x)) with h|h
    ·have:=cx h (show 1<=per5 x by omega);have h4:=cx (Nat.le_of_lt h) b5.1;omega
    ·exact h
   have i:sm (λx=>cdv (ct x) (per5 x)) j<=2000*j:=by
    rw [<-xP];exact aco (λk hk=>d k oM)
   have hl:=d j e;have e9:(sm (λx=>cdv (ct x) (per5 x)) j:Int)+((cdv (ct j) (per5 j):Nat):Int)=((sm (λx=>cdv (ct x) (per5 x)) (j+1):Nat):Int):=by
    show _=((sm (λx=>cdv (ct x) (per5 x)) j+cdv (ct j) (per5 j):Nat):Int);omega
   have g:¬(per5 j:Int)=0:=oM;unfold xB;refine zS8 e5 @ahq hp c0 e8 e9 es es ?_;apply hE
   ·exact ⟨j+1,rfl,rfl,by omega,rfl⟩
   ·simp only [intOf];omega
  ·obtain rfl:j=40:=oM;unfold xB;refine zS0 ?_;rw [Un];exact hK
def PlS.frm {G:Nat->Prop} {DD:List (Nat×Int)} (h:PlS w0 w Wb lv hd dd Y D H n f R DD) (g:Frm G w w') (hG:∀x,G x->lE w0 Y H Wb x/\lv.ownBlock≠some x/\hd.ownBlock≠some x/\dd.ownBlock≠some x):PlS w0 w' Wb lv hd dd Y D H n f R DD:=
 ⟨⟨h.m.L.frm g (λx hx=>(hG x hx).1),h.m.oL,h.m.oH,h.m.oD,h.m.sL.frm g (λb hb e=>(hG b e).2.1 hb),h.m.sH.frm g (λb hb e=>(hG b e).2.2.1 hb),h.m.sD.frm g (λb hb e=>(hG b e).2.2.2 hb),h.m.hl,h.m.hdd,h.m.dl⟩,h.gn,h.dp⟩
structure RmC (w0 w:bq) (Wb:Nat) (H:HL) (n:Nat) (cv:bk) (Y:Lay) (D:DS) (f:Idx) (R:List Nat) (ct:Nat->Nat) (lv hd dd:bk):Prop where
 P:PlS w0 w Wb lv hd dd Y D H n f R []
 c:SlO w 3 1 cv 40 (ctL ct)
 oc:eh w0 Y H Wb cv
 ne:∀b,cv.ownBlock=some b->lv.ownBlock≠some b/\hd.ownBlock≠some b/\dd.ownBlock≠some b
def RmC.ext (h:RmC w0 w Wb H n cv Y D f R ct lv hd dd) (e:Ext w w'):RmC w0 w' Wb H n cv Y D f R ct lv hd dd:=⟨h.P.ext e,h.c.ext e,h.oc,h.ne⟩
def RmC.put {b o cap:Nat} (h:RmC w0 w Wb H n (.slice (some ⟨b,o,none⟩) 40 cap) Y D f R ct lv hd dd) {j:Nat} (hj:j<40) (x:Nat):RmC w0 (w.setCell ⟨b,o+j,none⟩ (.int .i64 (x:Int))) Wb H n (.slice (some ⟨b,o,none⟩) 40 cap) Y D f R (upN ct j x) lv hd dd:=by
 have hb:(Value.slice (some ⟨b,o,none⟩) 40 cap).ownBlock=some b:=rfl;refine ⟨h.P.frm (G:=λy=>y=b) ((Frm.refl _ _).set (p:=⟨b,o+j,none⟩) _ (λ_=>rfl)) (λy hy=>by subst hy;exact ⟨h.oc _ hb,h.ne _ hb⟩),?_,h.oc,h.ne⟩;rw [<-aeI];exact SlO.updI h.c _ hj
def RmC.st {D2:DS} {f2:Idx} {R2:List Nat} (h:RmC w0 w Wb H n cv Y D f R ct lv hd dd) (s:HSt w Y H w' Y') (P:PlS w0 w' Wb lv hd dd Y' D2 H n f2 R2 []):RmC w0 w' Wb H n cv Y' D2 f2 R2 ct lv hd dd:=
 ⟨P,(h.oc.st h.c s).2,(h.oc.st h.c s).1,h.ne⟩
structure RmI (w0 w:bq) (Wb:Nat) (H:HL) (n j:Nat) (cv:bk) (Y:Lay) (D:DS) (f:Idx) (R U:List Nat) (ct:Nat->Nat) (lv hd dd:bk):Prop where
 C:RmC w0 w Wb H n cv Y D f R ct lv hd dd
 r:RmS D f n R U ct
 ex:D.exe<=30+1340*j
 rl:R.length<=j
 cj:∀k,k<40->ct k<=j
def RmI.ext (h:RmI w0 w Wb H n i cv Y D f R U ct lv hd dd) (e:Ext w w'):RmI w0 w' Wb H n i cv Y D f R U ct lv hd dd:=⟨h.C.ext e,h.r,h.ex,h.rl,h.cj⟩
def RmI.next {j:Nat} (h:RmI w0 w Wb H n j cv Y D f R U ct lv hd dd):RmI w0 w Wb H n (j+1) cv Y D f R U ct lv hd dd:=⟨h.C,h.r,by have:=h.ex;omega,by have:=h.rl;omega,λk hk=>by have:=h.cj k hk;omega⟩
def RmA (w0 w:bq) (Wb:Nat) (H:HL) (n j:Nat) (cv:bk):Prop:=∃(Y:Lay) (D:DS) (f:Idx) (R U:List Nat) (ct:Nat->Nat) (lv hd dd:bk),RmI w0 w Wb H n j cv Y D f R U ct lv hd dd
def acv {w:bq} {b p m:Nat} (h:w.cell? ⟨b,0,none⟩=some (.int .u64 (p:Int))) (hm:b<m):RdS m w (.slice (some ⟨b,0,none⟩) 1 1) (bc [p]):=
 ⟨some ⟨b,0,none⟩,1,rfl,.inr ⟨b,0,rfl,hm,λj u hj=>by
  obtain ⟨rfl,rfl⟩:=jg hj;exact h⟩⟩
def ajB {al:List eU} {sv:bk} {mm:Nat} (h:RmA w0 w Wb H n 0 cv) (b1:H.av=none) (a0:H.avl= []) (b0:H.lk=false) (n5:n<=5) (b2:eE mm w0 sv al) (ok:∀x∈al,dO x) (d6:al.length<=60) (K:K1) (hK:∀w',Ext w0 w'->K (.bool true) w'):
  acr K (.int .i64 (n:Int)) (.pointer (some ⟨Wb,0,none⟩)) cv sv (.int .i64 (al.length:Int)) (.int .i64 0) w:=by
 apply MM (I:=λz w'=>∃j:Nat,z= .int .i64 (j:Int)/\j<=al.length/\RmA w0 w' Wb H n j cv) (μ:=λz _=>al.length-(intOf z).toNat)
 ·exact ⟨0,rfl,by omega,h⟩
 ·intros;rename_i z w1 hI E1 hE;obtain ⟨j,rfl,hj,Y,D,f,R,U,ct,lv,hd,dd,a⟩:=hI;have es:(j:Int)+1=((j+1:Nat):Int):=oM;have y:∀w2,RmA w0 w2 Wb H n (j+1) cv->j<al.length->Bs K E1 (.int .i64 (n:Int)) (.pointer (some ⟨Wb,0,none⟩)) cv sv (.int .i64 (al.length:Int)) (.int .i64 (j:Int)) w2:=by
   intro w2 a2 d8;rw [acu];unfold Qb;refine zS1 es ?_;apply hE
   ·exact ⟨j+1,rfl,by omega,a2⟩
   ·simp only [intOf];omega
  have F:=a.C.P.m.L.hp.ex;obtain ⟨cb,co,cc,rfl,_⟩:=a.C.c.isS oM;obtain ⟨sa,sc,rfl,hs⟩:=b2.ext F;by_cases e:j<al.length
  ·have hx:al[j]? =some al[j]:=List.getElem?_eq_getElem e;have d7:=ok _ (List.getElem_mem e);generalize al[j]=x at*;obtain ⟨b,o,tv,dv,rfl,hb,hc,r1,r2⟩:=hs j x hx;have x0:w1.cell? ⟨b,o+j*6,none⟩=some (.int .u8 (x.kd:Int)):=hc 0 oM;have x1:w1.cell? ⟨b,o+j*6+1,none⟩=some (.int .i64 x.th):=hc 1 oM;have x2:w1.cell? ⟨b,o+j*6+2,none⟩=some (.int .i64 x.wd):=hc 2 oM;have x3:w1.cell? ⟨b,o+j*6+3,none⟩=some (.int .u8 (x.mk:Int)):=hc 3 oM;have x4:w1.cell? ⟨b,o+j*6+4,none⟩=some tv:=hc 4 oM;have x5:w1.cell? ⟨b,o+j*6+5,none⟩=some dv:=hc 5 oM;obtain ⟨ta,tc,rfl,_⟩:=r1;obtain ⟨da,dc,rfl,_⟩:=r2;have c0:=λh=>y _ ⟨Y,D,f,R,U,ct,lv,hd,dd,a.next.ext (Ext.alloc_self w1 (.cells #[.int .u8 (x.kd:Int),.int .i64 x.th,.int .i64 x.wd,.int .u8 (x.mk:Int),.slice ta (u8L x.L).length tc,.slice da (u8L x.M).length dc] 53))⟩ h
   have aB:=a.ext (Ext.alloc_self w1 (.cells #[.int .u8 (x.kd:Int),.int .i64 x.th,.int .i64 x.wd,.int .u8 (x.mk:Int),.slice ta (u8L x.L).length tc,.slice da (u8L x.M).length dc] 53));have cB:=ah.new w1 [.int .u8 (x.kd:Int),.int .i64 x.th,.int .i64 x.wd,.int .u8 (x.mk:Int),.slice ta (u8L x.L).length tc,.slice da (u8L x.M).length dc] 53;have cl:=kP x.wd;obtain ⟨t,et,ht⟩:∃t:Nat,x.th%8=(t:Int)/\t<8:=⟨(x.th%8).toNat,by omega,by omega⟩;obtain ⟨c,ec,c7⟩:∃c:Nat,clsN x.wd=(c:Int)/\c<5:=⟨(clsN x.wd).toNat,by omega,by omega⟩;have e5:5*(t:Int)=((5*t:Nat):Int):=oM;have e6:((5*t:Nat):Int)+(c:Int)=((5*t+c:Nat):Int):=oM;have s:5*t+c<40:=oM;have y0:=aB.C.c.cell rfl (nN ct s);have fz:=SlO.frz aB.C.c (b:=cb) rfl;have cj:=a.cj _ s;have e7:(ct (5*t+c):Int)+1=((ct (5*t+c)+1:Nat):Int):=oM;have c1:=aB.C.put s (ct (5*t+c)+1);unfold ES;simp (disch:=try exact dZ) only [↓RBp,↓RA,↓reduceIte,Nat.reduceAdd,Nat.reduceMul,Nat.reduceEqDiff,RB,RX,RA2,x0,x1,x2,x3,x4,x5,List.getElem?_toArray,List.getElem?_cons_succ,List.getElem?_cons_zero,Option.isSome_some,Bool.and_self,List.setIfInBounds_toArray,List.set_cons_succ,List.set_cons_zero];refine fP x.wd _ _ (λ_=> ?_) (λS N=> ?_) (λ_=> ?_)
   ·have:=c0 e;refine zS0 ?_;exact this
   ·have z1:(w1.alloc (.cells #[.int .u8 (x.kd:Int),.int .i64 x.th,.int .i64 x.wd,.int .u8 (x.mk:Int),.slice ta (u8L x.L).length tc,.slice da (u8L x.M).length dc] 53)).cell? ⟨w1.heap.size,1,none⟩=some (.int .i64 x.th):=cB.cell (i:=1) (by simp);refine jH @aeD et ec e5 e6 y0 fz e7 z1 z1 z1 ?_;refine UD c1.c (λk hk=>by unfold upN;have:=a.cj k hk;split<;>omega) _ ?_;have f4:cb≠Wb:=(a.C.oc cb rfl).2.2.1;have lW:=a.C.P.m.L.bx.lt;have d3:cb<w1.heap.size:=a.C.c.lt rfl;have q3:=(a.C.put s (ct (5*t+c)+1)).P.boxes.1;have z2:(w1.alloc (.cells #[.int .u8 (x.kd:Int),.int .i64 x.th,.int .i64 x.wd,.int .u8 (x.mk:Int),.slice ta (u8L x.L).length tc,.slice da (u8L x.M).length dc] 53)).cell? ⟨w1.heap.size,2,none⟩=some (.int .i64 x.wd):=cB.cell (i:=2) (by simp);refine zS4 q3 z1 z2 et ?_;have d0:=a.rl;have d5:=a.ex;have c2:=(a.C.put s (ct (5*t+c)+1)).ext (Ext.drew (Ext.alloc_self _ (.cells #[.int .u8 (x.kd:Int),.int .i64 x.th,.int .i64 x.wd,.int .u8 (x.mk:Int),.slice ta (u8L x.L).length tc,.slice da (u8L x.M).length dc] 53)));refine sM c2.P.m.L.hp b1 (t:=(t:Int)) (x:=x.wd) oM oM S N 64 oM oM oM oM _ (λh1 h2 _ w2 Y2 s2 d=> ?_) (λD2 f2 D3 f3 p k i V w2 Y2 s2 d=> ?_)
    ·have nn:=a.C.P.m.nn;have l:=a.C.P.m.L.hp;have c6:=RmS.full (c:=clsN x.wd) (t:=(t:Int)) (j:=5*t+c) a.r l.rg nn.1 l.rv l.nd cl oM h1 h2 oM;have a6:(n:Int)<((sm (λx=>cdv (upN ct (5*t+c) (ct (5*t+c)+1) x) (per5 x)) 40:Nat):Int):=oM;have P2:PlS w0 w2 Wb lv hd dd Y2 D H n f R []:=⟨c2.P.m.st s2 d,c2.P.gn,c2.P.dp⟩;have c3:=c2.st s2 P2;have hu:upN ct (5*t+c) (ct (5*t+c)+1) (5*t+c)=ct (5*t+c)+1:=by unfold upN;rw [if_pos rfl]
     have y3:=c3.c.cell rfl (nN _ s);rw [hu] at y3;have a8:=SlO.frz c3.c (b:=cb) rfl;have e8:((ct (5*t+c)+1:Nat):Int)-1=((ct (5*t+c):Nat):Int):=oM;have c4:=c3.put s (ct (5*t+c));have G:upN (upN ct (5*t+c) (ct (5*t+c)+1)) (5*t+c) (ct (5*t+c))=ct:=by
      funext k;unfold upN;split
      ·rename_i e;rw [e]
      ·rfl
     rw [G] at c4;have l3:cb<w2.heap.size:=c3.c.lt rfl;have u:=y _ ⟨Y2,D,f,R,U,ct,lv,hd,dd,c4,a.r,by omega,by omega,λk hk=>by have:=a.cj k hk;omega⟩ e;refine zS8 a6 et ec e5 e6 y3 a8 e8 ?_;exact u
    ·have nn:=a.C.P.m.nn;have JJ:=ab1 c2.P V oM s2 d;have m3:=JJ.1;have Q:=JJ.2.1;have J:=JJ.2.2;have c5:=d.rg.lt;have n3:=V.n3;have f1:=V.x3;have rs:=d.rv p (by simp);have vs:=V.sp oM rs oM d.rg;have hz:=PN V oM vs.1;have a1:=a.C.P.m.L.own (b:=w1.heap.size) (an _);have cW:ah ((w1.setCell ⟨cb,co+(5*t+c),none⟩ (.int .i64 ((ct (5*t+c)+1:Nat):Int))).alloc (.cells #[.int .u8 (x.kd:Int),.int .i64 x.th,.int .i64 x.wd,.int .u8 (x.mk:Int),.slice ta (u8L x.L).length tc,.slice da (u8L x.M).length dc] 53)).drew w1.heap.size 53 6 (λi=> [Value.int .u8 (x.kd:Int),.int .i64 x.th,.int .i64 x.wd,.int .u8 (x.mk:Int),.slice ta (u8L x.L).length tc,.slice da (u8L x.M).length dc].getD i undef):=by
      have:=ah.new (w1.setCell ⟨cb,co+(5*t+c),none⟩ (.int .i64 ((ct (5*t+c)+1:Nat):Int))) [.int .u8 (x.kd:Int),.int .i64 x.th,.int .i64 x.wd,.int .u8 (x.mk:Int),.slice ta (u8L x.L).length tc,.slice da (u8L x.M).length dc] 53;rw [gE] at this;exact this.drew
     have B:=cW.frm s2.frm a1.frm;have u2:w2.cell? ⟨w1.heap.size,2,none⟩=some (.int .i64 x.wd):=B.cell (i:=2) oM;have d1:=B.lt;refine zS1 u2 ?_;refine abW m3 Q J S N (by rw [vs.2.1];exact vs.2.2.2.1) 64 oM vs.2.2.1 hz oM (by simp) _ (λhd3 w3 P3 g3 o3=> ?_);have b5:=a.C.P.m.sH;have a3:¬(w1.heap.size=Wb\/hd.ownBlock=some w1.heap.size):=by
      rintro (e1|e1)
      ·omega
      ·have:=b5.lt e1;omega
     have W:=B.frm g3 a3;have u3:w3.cell? ⟨w1.heap.size,3,none⟩=some (.int .u8 (x.mk:Int)):=W.cell (i:=3) oM;have d2:=W.lt;have A:=c2.oc.st c2.c s2;have C3:RmC w0 w3 Wb H n (.slice (some ⟨cb,co,none⟩) 40 cc) Y2 D3 f3 (R++ [p]) (upN ct (5*t+c) (ct (5*t+c)+1)) lv hd3 dd:=
      ⟨P3,A.2.frm g3 (λb hb e1=>by
       rcases e1 with e1|e1
       ·exact (A.1 b hb).2.2.1 e1
       ·exact (c2.ne b hb).2.1 e1),A.1,λb hb=>⟨(c2.ne b hb).1,λe1=>(o3 b e1).elim (c2.ne b hb).2.1 (λe2=>by have:=A.2.lt hb;omega),(c2.ne b hb).2.2⟩⟩
     have l:=a.C.P.m.L.hp;have pR:p∉R:=λhm=>by
      have nd:=d.nd;rw [List.map_append,List.nodup_append] at nd;exact nd.2.2 (pO p) (List.mem_map_of_mem hm) (pO p) (by simp) rfl
     have r3:=RmS.take (j:=5*t+c) (t:=(t:Int)) a.r l.rg nn.1 l.rv l.nd l.ho (a0▸V) oM oM d.rg rs pR oM;have I3:RmI w0 w3 Wb H n (j+1) (.slice (some ⟨cb,co,none⟩) 40 cc) Y2 D3 f3 (R++ [p]) (U++ [p]) (upN ct (5*t+c) (ct (5*t+c)+1)) lv hd3 dd:=
      ⟨C3,r3,by omega,by rw [aq,ab];omega,λk hk=>by have:=a.cj k hk;unfold upN;split<;>omega⟩
     have em:(x.mk:Int)%2=((x.mk%2:Nat):Int):=oM;by_cases hodd:x.mk%2=1
     ·have a9:=λ(w':bq) (e:Ext w3 w') (K:K1) hK=>(P3.m.L.ext e).space (k:=t) ht K hK
      have od:((x.mk%2:Nat):Int)=1:=oM;have X:=(rs.at_ oM d.rg).2.2.2.2.2;refine zS6 u2 u3 em od et et ?_;refine a9 _ xZ _ (λB2 w4 e4 e0 sB=> ?_);have a5:Ext w3 w4:=Ext.trans xZ e4;have C4:=C3.ext a5;have T:=Ext.alloc_self w4 (.cells #[.int .u64 (p:Int)] 27);have C5:=C4.ext T;have rd:=PE C4.P.m.L.hp (.int .u64 (p:Int)) 27;have b6:=sB.st (HSt.of_ext Y2 H T);refine zS0 ?_;refine sS (keep:= [p]) (free:= []) C5.P.m.L.hp b0 ht b6 (λq hq=>by rw [ap] at hq;subst hq;exact aA _ (ar _)) (by simp) rd (RdH.nil _ _ _) (by simp) (by rw [aq,ab];omega) oM _ (λh=> ?_) (λh=> ?_) (λD7 f7 w7 Y7 d4 pr s7 O=> ?_)
      ·exact absurd ⟨by simp,by simp only [cw,ap];exact λh=>X.2 h.symm⟩ h
      ·simp at h
      have M7:=C5.P.m.st s7 O;have v:=C5.oc.st C5.c s7;have r7:=RmS.pub r3 d.rg oM (aA _ (ar _)) pr;have b7:=aE M7.L.bx;have q5:=b7.2.2.2.2.2.1;have q6:=b7.2.2.2.2.2.2.1;have q7:=b7.2.2.2.2.2.2.2;have l7:=M7.L.bx.lt;refine zS3 q5 q6 q7 ?_;have E:=Ext.alloc_self w7 (.cells #[.int .u64 (p:Int)] 26);have M8:=M7.ext E;have c8:(w7.alloc (.cells #[.int .u64 (p:Int)] 26)).cell? ⟨w7.heap.size,0,none⟩=some (.int .u64 (p:Int)):=(yr w7).cell (i:=0) oM;have e9:=gT d.rg n (an _);have l8:=ax c8;have b8:=λb (hb:dd.ownBlock=some b)=>M7.sD.lt hb
      refine oY (L:=livN D3 f3 n) (R:=R++ [p]) (f:=f3) (keep:= [p]) (free:= []) (m:=(w7.alloc (.cells #[.int .u64 (p:Int)] 26)).heap.size) M8.sL M8.sH M8.sD M8.hl M8.hdd M8.dl (λw' g=> ?_) (λw' g=>RdS.nil _ _) (an _) (λq hq=>by rw [ap] at hq;subst hq;exact aA _ (ar _)) (aan d.nd) (by simp) (λ_=> ?_) (λq hq=> ?_) ?_ ?_ (by simp) _ (λh=>absurd ⟨by simp,by simp only [cw,ap];exact λh=>X.2 h.symm⟩ h) (λ_ lv' hd' dd' w9 g9 sL sH sD _ oL oH oD hl hdd dl=> ?_)
      ·exact acv (((yr w7).frm g (λe1=>by have:=b8 _ e1;omega)).cell (i:=0) oM) l8
      ·exact ab0 (PH d.rg oM pr O.rg).1
      ·have:=(P3.m.L.at_ (p:=q) (hq.symm.imp id (λh=>(bn d.rg).1 h))).2.2;omega
      ·rw [ab];omega
      ·rw [aq,ab];omega
      have pm:=M8.put3 g9 sL sH sD (M8.own M8.oL oL) (M8.own M8.oH oH) (M8.own M8.oD oD) hl hdd dl;have P9:=Ev Q J d.rg oM pr pm.2;have b9:=aE pm.1.bx;have z5:=b9.2.2.2.2.2.1;have z6:=b9.2.2.2.2.2.2.1;have z7:=b9.2.2.2.2.2.2.2;have f9:=pm.1.bx.frz;have l9:=pm.1.bx.lt;have o1:=aP sL;have o2:=aP sH;have Z:=aP sD;have f0:=v.2.lt (b:=cb) rfl;have c9:SlO (abZ w9 Wb 5 lv' hd' dd') 3 1 (.slice (some ⟨cb,co,none⟩) 40 cc) 40 (ctL (upN ct (5*t+c) (ct (5*t+c)+1))):=
       ((v.2.ext E).frm g9 (λb hb e1=>(C3.ne b hb).2.2 e1)).frm (HX w9 Wb 5 lv' hd' dd') (λb hb e1=>(v.1 b hb).2.2.1 e1)
      have px:=pr.exe;have d9:=E.size;have b3:∀b,(Value.slice (some ⟨cb,co,none⟩) 40 cc).ownBlock=some b->lv'.ownBlock≠some b/\hd'.ownBlock≠some b/\dd'.ownBlock≠some b:=λb hb=>by
       have a4:b=cb:=by injection hb with hb;exact hb.symm
       subst a4;have h3:=C3.ne _ hb;exact ⟨λe1=>(oL _ e1).elim h3.1 (λe2=>by omega),λe1=>(oH _ e1).elim h3.2.1 (λe2=>by omega),λe1=>(oD _ e1).elim h3.2.2 (λe2=>by omega)⟩
      have b4:(rmL (R++ [p]) [p]).length<=(R++ [p]).length:=List.length_filter_le _ _;rw [aq,ab] at b4;have u:=y _ ⟨Y7,D7,f7,rmL (R++ [p]) [p],U++ [p],_,lv',hd',dd',⟨P9,c9,v.1,b3⟩,r7,by omega,by omega,I3.cj⟩ e;refine zS8 z5 z6 z7 f9 o1 o2 Z Z ?_;exact u
     ·have a7:¬((x.mk%2:Nat):Int)=1:=oM;have u:=y _ ⟨_,_,_,_,_,_,_,_,_,I3⟩ e;refine zS4 u2 u3 em a7 ?_;exact u
   ·have:=c0 e;refine zS0 ?_;exact this
  ·obtain rfl:j=al.length:=oM;unfold ES;refine zS0 ?_;rw [acs];unfold Qa;refine zS0 ?_;refine gU a.C.P (by simp) (by have:=a.rl;omega) _ (λw3 e3=> ?_);exact hK w3 (F.trans e3)
def acw {al:List eU} {sv:bk} {a:Nat} (hG:bt w) (ha:a<256) (f:eE w.heap.size w sv al) (ok:∀x∈al,dO x) (K:K1) (hK:∀w',Ext w w'->K (.bool true) w'):
  ae prog 4 #[.int .u8 (a:Int),sv] w K:=by
 have e1:(a:Int)%5=((a%5:Nat):Int):=oM;have e2:1+((a%5:Nat):Int)=((1+a%5:Nat):Int):=oM;have hA:=f;obtain ⟨sa,sc,rfl,_⟩:=f;refine aeH _ _ _ _ ?_;unfold ajA;refine dA hG _ (λw1 h1=> ?_);have g:=hG.ext h1;by_cases hl:al.length<=60
 ·have d:¬((60:Int)<(al.length:Int)):=oM;refine zS3 d e1 e2 ?_;refine jS (n:=1+a%5) g oM oM _ (λWb H Y w2 l j o L=> ?_);have p:Ext w2 (w2.alloc (.cells (lu (.int .i64 0) 40) 3)):=Ext.alloc_self _ _;have k:SlO (w2.alloc (.cells (lu (.int .i64 0) 40) 3)) 3 1 (.slice (some ⟨w2.heap.size,0,none⟩) 40 40) 40 (ctL λ_=>0):=by
   refine ⟨by rw [nM],.inr ⟨w2.heap.size,0,40,_,rfl,aQ _ _,an _,by decide,by simp [lu,madeCells],λi u h=> ?_⟩⟩;have hi:i<40:=by
    have:=(List.getElem?_eq_some_iff.1 h).1;rw [nM] at this;exact this
   rw [nN _ hi] at h;rw [Nat.zero_add,Fk hi,<-h];simp [Value.cells,Nat.mod_one]
  have hb:=qk (n:=1+a%5) oM;have L2:=L.ext p;have hR:RmA w1 (w2.alloc (.cells (lu (.int .i64 0) 40) 3)) Wb H (1+a%5) 0 (.slice (some ⟨w2.heap.size,0,none⟩) 40 40):=by
   refine ⟨Y,hbD (1+a%5),opF (hbD (1+a%5)) 26,[],[],λ_=>0,.slice none 0 0,.slice none 0 0,.slice none 0 0,⟨⟨?_,k,?_,?_⟩,RmS.begin oM,by have:=hb.2.2.1;omega,by simp,λ_ _=>an _⟩⟩
   ·exact jU oM L2
   ·intro b c;injection c with c;subst c;exact L.own (an _)
   ·intro b _;exact ⟨λh=>(nomatch h),λh=>(nomatch h),λh=>(nomatch h)⟩
  have m:=ajB hR l j o oM (hA.ext h1) ok hl K (λw' e=>hK w' (h1.trans e));refine zS0 ?_;exact m
 ·have d:(60:Int)<(al.length:Int):=oM;refine zS1 d ?_;refine dA (g.ext xZ) _ (λw2 h2=> ?_);exact hK w2 (h1.trans (Ext.trans xZ h2))
end
end Go.Proofs.YtmpehclnnjgmcaaGreatDoor
