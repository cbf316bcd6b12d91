/-
  Part 5 of what the proofs of this seat share.
-/
import Derived.Test.YtmpehclnnjgmcaaGreatDoorDf4
import Derived.Test.YtmpehclnnjgmcaaGreatDoorDf2
import Derived.Test.YtmpehclnnjgmcaaGreatDoorDf1
import Derived.RangeFuncRecord
import Derived.Maps.RangeRun
import Derived.Test.YtmpehclnnjgmcaaGreatDoorDf3
import Derived.Shelf.SortM.Plain
import Derived.Shelf.SortM.SortNone
import Derived.Sort.Grow
set_option linter.unusedSimpArgs false
set_option linter.unusedVariables false
set_option maxHeartbeats 20000000
set_option maxRecDepth 100000
set_option linter.defProp false
open Go.Proofs.Tryz (prog)
open Go.RowKit (intOf)
open Array renaming toList_filter->fl,getElem?_setIfInBounds_ne->ga,getElem?_modify->gT
open Bool renaming and_eq_true->df,false_eq_true->f9,false_and->j0,true_and->ka,or_true->ko
open Go renaming World->ab,Value->ca
open Go.Builtin renaming len_->eb
open Go.Instr renaming makeInterface->eu,buildSlice->i1
open Int renaming toNat_natCast->dl
open List renaming length_append->an,mem_singleton->ap,length_filter_le->bv,mem_cons_of_mem->cd,nodup_cons->cn,map_cons->cq,map_append->cw,getElem_mem->cO,take_succ_eq_append_getElem->dd,length_map->dk,filter_cons->dm,append_assoc->dp,mem_cons_self->ec,take_length->ef,length_cons->eg,eq_nil_of_length_eq_zero->eo,mem_of_getElem?->eq,mem_append->eP,getElem?_eq_getElem->e7,append_nil->e8,mem_append_left->e9,flatMap_append->fq,filter_append->f0,nodup_append->gc,getElem?_map->gi,filter_congr->gj,nil_append->gn,mem_filter->gp,take_append_drop->g9,mem_append_right->hV,length_singleton->hW,filter_sublist->hZ,append_toArray->h9,filter_filter->im,length_range->io,getElem?_inj->i0,length_take->i2,cons_append->i3,mem_range->jj,mem_map->kb,map_nil->kc,map_map->kj
open Nat renaming le_refl->cj,mul_le_mul_right->hY,zero_add->kv,le_trans->k3,add_zero->la
open Option renaming map_eq_none_iff->gs
namespace Go.Proofs.YtmpehclnnjgmcaaGreatDoor
open Go Go.Sh
def tV (y:Nat):∀(m i:Nat),(frN y m i= -1/\∀j,i<=j->j<i+m->aS y j=true)\/∃z:Nat,frN y m i=(z:Int)/\i<=z/\z<i+m/\aS y z=false/\∀j,i<=j->j<z->aS y j=true
 |0,i=> .inl ⟨rfl,λj h1 h2=>by omega⟩
 |m+1,i=>by
  cases hb:aS y i with
  |false=>
   right;refine ⟨i,?_,cj _,by omega,hb,λj h1 h2=>by omega⟩;simp only [frN,hb];rfl
  |true=>
   have e:frN y (m+1) i=frN y m (i+1):=by simp only [frN,hb];rfl
   rw [e];rcases tV y m (i+1) with ⟨h1,h2⟩|⟨z,h1,h2,h3,h4,h5⟩
   ·left;refine ⟨h1,λj h3 h4=> ?_⟩;by_cases ej:j=i
    ·rw [ej];exact hb
    ·exact h2 j oM oM
   ·right;refine ⟨z,h1,by omega,by omega,h4,λj h6 h7=> ?_⟩;by_cases ej:j=i
    ·rw [ej];exact hb
    ·exact h5 j oM h7
def chD {w:ab} {N T l g:Nat} {c o:Int} (h:af w N 134 5 (chF T l c o g)):w.cell? ⟨N,0,none⟩=some (.iface 31 (.pointer (some ⟨T,0,none⟩)))/\w.cell? ⟨N,1,none⟩=some (.int .i64 (l:Int))/\w.cell? ⟨N,2,none⟩=some (.int .i64 c)/\w.cell? ⟨N,3,none⟩=some (.int .i64 o)/\w.cell? ⟨N,4,none⟩=some (.int .u16 (g:Int)):=
 ⟨h.cell (i:=0) oM,h.cell (i:=1) oM,h.cell (i:=2) oM,h.cell (i:=3) oM,h.cell (i:=4) oM⟩
def muF (n:Nat) (z:ca):Nat:=match intOf z with
 | .ofNat a=>n+1-a
 | .negSucc _=>0
def rsB (R:List Nat) (x:Nat):Bool:=R.any λq=>decide (pO q=x)
def Vv (R:List Nat) (x:Nat):(bz (rsL R) (x:Int)).isSome=rsB R x:=by
 cases hb:rsB R x with
 |true=>
  obtain ⟨q,hq,e⟩:=List.any_eq_true.1 hb;have e:pO q=x:=by simpa using e
  cases hg:bz (rsL R) (x:Int) with
  |some v=>rfl
  |none=>
   have:=cR.1 hg _ (List.mem_map.2 ⟨q,hq,rfl⟩);simp only at this;omega
 |false=>
  cases hg:bz (rsL R) (x:Int) with
  |none=>rfl
  |some v=>
   obtain ⟨q,hq,e⟩:=List.mem_map.1 (mT hg);injection e with e1 e2;have:rsB R x=true:=List.any_eq_true.2 ⟨q,hq,by simp;omega⟩;rw [hb] at this;cases this
section
variable {Q:Nat->Prop} {w0 w w' w'':ab} {Y Y' Y'':Lay} {D D':DS} {H:HL} {n:Nat} {f f':Idx} {R:List Nat}
def HpG.cls (h:HpG Q w0 w Y D H n f R) {k:Nat} (hk:k<n):(f k).1<5/\-1<=(f k).1:=h.rg.cls hk
def HpG.cx (h:HpG Q w0 w Y D H n f R) {k:Nat} (hk:k<n) (h0:0<=(f k).1):Cx w Y D (26+32*k) (f k).1:=⟨h.ar.L.dv,h.ar.L.gd,h.gl,h.rg.on.off,by have:=h.ar.lt;omega,h0,(h.cls hk).1⟩
def HpG.open (h:HpG Q w0 w Y D H n f R) {k:Nat} (hk:k<n) (h0:0<=(f k).1):∀(w1:ab) (K:K1),Ext w w1->(∀w2,Ext w1 w2->K (.tuple #[chV Y (26+32*k) (f k).1 (f k).2.1 (gX (wd D (26+32*k) 0)),.int .i64 0]) w2)->ad prog 75 #[.iface 31 (.pointer (some ⟨Y.tb 0,0,none⟩)),.int .i64 ((26+32*k:Nat):Int)] w1 K:=λw1 K e1 a=>by
 have ha:=h.rg.ag k hk;refine mH (h.ar.L.dv.ext e1) h.ar.L.gd (h.gl.ext e1) h.rg.on.off (h.er 0 oM) (26+32*k) (by have:=h.ar.lt;omega) ha.1 K (λw2 e2=> ?_);rw [if_neg (by rw [<-ha.2.1];omega),<-ha.2.1,<-ha.2.2];exact a w2 e2
def HpG.openZ (h:HpG Q w0 w Y D H n f R) {k:Nat} (hk:k<n) (h0:(f k).1<0):∀(w1:ab) (K:K1),Ext w w1->(∀w2,Ext w1 w2->K (.tuple #[chZ,.int .i64 8]) w2)->ad prog 75 #[.iface 31 (.pointer (some ⟨Y.tb 0,0,none⟩)),.int .i64 ((26+32*k:Nat):Int)] w1 K:=λw1 K e1 a=>by
 have ha:=h.rg.ag k hk;refine mH (h.ar.L.dv.ext e1) h.ar.L.gd (h.gl.ext e1) h.rg.on.off (h.er 0 oM) (26+32*k) (by have:=h.ar.lt;omega) ha.1 K (λw2 e2=> ?_);rw [if_pos (by rw [<-ha.2.1];omega)];exact a w2 e2
def bV (D:DS) (R:List Nat) (l:Nat) (c:Int) (i:Nat):Bool:=aS (wd D l 1) i||rsB R (pOff l c i)
def tW (h:HpS w0 w Y D H n f R) {k:Nat} (hk:k<n) (h0:0<=(f k).1) (kd:Nat) (k0:kd≠0) (k7:kd<=127) (K:K1)
  (t:(∀i:Nat,(i:Int)<perS (f k).1->bV D R (26+32*k) (f k).1 i=true)->∀w',Ext w w'->K (.tuple #[.int .u64 ((0:Nat):Int),.int .i64 5]) w')
  (a:∀i:Nat,(i:Int)<perS (f k).1->bV D R (26+32*k) (f k).1 i=false->(∀j,j<i->bV D R (26+32*k) (f k).1 j=true)->∀w',Ext w w'->K (.tuple #[.int .u64 ((ptrN (pOff (26+32*k) (f k).1 i) (bG (wd D (26+32*k) (offN (f k).1 i))) kd:Nat):Int),.int .i64 0]) w'):
  ad prog 68 #[hpV H,.int .i64 ((26+32*k:Nat):Int),.int .u8 (kd:Int)] w K:=by
 have g:=h.cx hk h0;have a7:=h.n4;have P:=h.erE;have T:=h.open hk h0;have a6:=aJ g.c0 g.c5;have F:=h.rg.sn k hk h0;have L:=h.er 0 oM;have q:=h.cell;have q0:=q.1;have q1:=q.2.1;have q2:=q.2.2.1;have q3:=q.2.2.2.1;have q4:=q.2.2.2.2.1;have q5:=q.2.2.2.2.2.1;have q6:=q.2.2.2.2.2.2.1;have q7:=q.2.2.2.2.2.2.2;have ltp:=h.ltp;have U:=h.rs;unfold bV at t a;generalize (f k).1=c at*;generalize (f k).2.1=oo at*;generalize gX (wd D (26+32*k) 0)=gg at*;have a5:26+32*k<=4096:=oM;generalize 26+32*k=l at*;obtain ⟨y,hy⟩:∃y,y=wd D l 1:=⟨_,rfl⟩;rw [<-hy] at t a;have B:∀(w1:ab) (i:Nat) (K:K1),Ext w w1->(i:Int)<perS c->aS y i=false->(∀w2,Ext w1 w2->K (pE (ptrN (pOff l c i) (bG (wd D l (offN c i))) kd) 0) w2)->ad prog 122 #[chV Y l c oo gg,.int .i64 (i:Int),.int .u8 (kd:Int)] w1 K:=λw1 i K e1 hi hb hK=>by
  have hs:=F.sndB g.c0 g.c5 i hi;have G:=F.bit i oM;rw [<-hy,hb,decide_eq_true hi,ka] at G;have a3:bS (wd D l (offN c i))=176:=by simpa using G
  refine wL (g.ext e1) L oo gg (i:Int) kd oM K (λhn=>absurd ⟨by omega,hi⟩ hn) (λj ej hj V=> ?_) (λj ej hj _ a1=> ?_) (λj ej hj _ a0=> ?_) (λj ej hj _ _ a4=>by omega) (λj ej hj _ _ _ _ w2 e2=> ?_)
  all_goals (have:j=i:=by omega)
  all_goals subst this
  ·exact absurd hs V
  ·omega
  ·omega
  ·exact hK w2 e2
 have x:∀(w1:ab) (i:Nat) (K:K1),Ext w w1->(i:Int)<=perS c->(∀w2,Ext w1 w2->K (.int .i64 (frN y ((perS c).toNat-i) i)) w2)->ad prog 121 #[chV Y l c oo gg,.int .i64 (i:Int)] w1 K:=λw1 i K e1 hi hK=>by
  refine aa6 (g.ext e1) oo gg (i:Int) K ?_;rw [<-hy,dl];exact hK
 refine UO _ _ _ _ _ ?_;unfold ZX;refine zS1 q0 ?_;refine T _ _ xZ (λw1 e1=> ?_);have M:Ext w w1:=Ext.trans xZ e1;have hN:=af.new w1 [Value.iface 31 (.pointer (some ⟨Y.tb 0,0,none⟩)),.int .i64 (l:Int),.int .i64 c,.int .i64 oo,.int .u16 (gg:Int)] 134;have a2:H.p<w1.heap.size:=by have:=M.size;omega
 refine zS0 ?_;refine x _ 0 _ xZ oM (λw2 e2=> ?_);have E:af w2 w1.heap.size 134 5 (chF (Y.tb 0) l c oo gg):=hN.ext e2;have W:Ext w w2:=Ext.trans xZ e2;apply Dm (I:=λz w'=>∃i:Nat,z= .int .i64 (frN y ((perS c).toNat-i) i)/\(i:Int)<=perS c/\(∀j,j<i->(aS y j||rsB R (pOff l c j))=true)/\Ext w2 w') (μ:=λz _=>muF (perS c).toNat z)
 ·exact ⟨0,rfl,by omega,λj hj=>by omega,Ext.refl _⟩
 ·intros;rename_i w3 hI E1 hE;obtain ⟨i,rfl,hi,hu,e3⟩:=hI;have o:=W.trans e3;have s:=chD (E.ext e3);have d0:=s.1;have d1:=s.2.1;have d2:=s.2.2.1;have d3:=s.2.2.2.1;have d4:=s.2.2.2.2;have ltN:=ay d0;have q0:=o.cell_some q0;have q4:=o.cell_some q4;have X:=ay q0;have A:=λ(w1:ab) (K:K1) (e:Ext w3 w1)=>P w1 K (o.trans e)
  rcases tV y ((perS c).toNat-i) i with ⟨h1,h2⟩|⟨z,h1,h2,h3,h4,h5⟩
  ·rw [h1];have t:=t (λj hj=>by
    by_cases hji:j<i
    ·exact hu j hji
    ·rw [h2 j oM oM];rfl)
   unfold tI;refine rN q0 A @OU @Dl.eq_1 ?_;exact t _ o
  ·rw [h1] at hE ⊢;have C:∀j,j<z->(aS y j||rsB R (pOff l c j))=true:=λj hj=>by
    by_cases hji:j<i
    ·exact hu j hji
    ·rw [h5 j oM hj];rfl
   have a:=a z oM;have v:=dx (l:=l) (i:=z) oM g.c0 g.c5 oM;have hG:=cU (wd D l (offN c z));have B:=λ(w1:ab) (K:K1) (e:Ext w3 w1)=>B w1 z K (o.trans e) oM h4
   have N:∀(w1:ab) (k:ca->Prop),Ext w3 w1->rd prog (Instr.lookup 108 (.map (some H.rm)) (.int .u64 ((pOff l c z:Nat):Int)) true) w1 k=k (.tuple #[(bz (rsL R) (pOff l c z:Int)).getD (.int .u64 0),.bool (rsB R (pOff l c z))]):=λw1 k e=>by rw [tm mTr (U.ext (o.trans e)),Vv]
   have a8:=Al (pOff l c z) (bG (wd D l (offN c z))) kd v.2.1 hG k7 v.2.2 v.1;have Q:=Aj (pOff l c z) (bG (wd D l (offN c z))) kd v.1 v.2.1;generalize ptrN (pOff l c z) (bG (wd D l (offN c z))) kd=p at*;have b:∀(w1:ab) (K:K1),ad prog 20 #[.int .u64 (p:Int)] w1 K=K (.int .u64 ((pOff l c z:Nat):Int)) w1:=λw1 K=>by rw [eU p w1 K oM,Q]
   have S:=λ(w1:ab) (K:K1) (e:Ext w3 w1)=>x w1 (z+1) K (o.trans e) oM
   generalize hpe:pOff l c z=po at*;rw [h4] at a;unfold tI;refine zS6 d0 d1 d2 d3 d4 d4 ?_;refine B _ _ xZ (λw4 e4=> ?_);have m:Ext w3 w4:=Ext.trans xZ e4;have O:=o.trans m;have q0:=m.cell_some q0;have q4:=m.cell_some q4;have Z:=ay q0;have r:=λ(w1:ab) (K:K1) (e:Ext w4 w1)=>A w1 K (m.trans e)
   have d:=λ(w1:ab) (k:ca->Prop) (e:Ext w4 w1)=>N w1 k (m.trans e)
   cases hbz:rsB R po with
   |false=>
    rw [hbz] at d a
    (repeat' first|refine ak (λ_=> ?_) (λ_=> ?_)|refine am ?_ ?_|refine dY q0 q4 r d b b ?_|exact Xp q0 q4 r d b b|fail)
    exact a rfl C _ (O.trans xZ)
   |true=>
    rw [hbz] at d a;have u:=chD ((E.ext e3).ext m);have d0:=u.1;have d1:=u.2.1;have d2:=u.2.2.1;have d3:=u.2.2.2.1;have d4:=u.2.2.2.2;have ltN:=ay d0;have J:=λ(w1:ab) (K:K1) (e:Ext w4 w1)=>S w1 K (m.trans e)
    (repeat' first|refine ak (λ_=> ?_) (λ_=> ?_)|refine am ?_ ?_|refine IZ q0 q4 r d b @xt @tJ.eq_1 d0 d1 d2 d3 d4 d4 d4 ?_|exact I1 q0 q4 r d b @xt @tJ.eq_1 d0 d1 d2 d3 d4 d4 d4|fail)
    refine J _ _ xZ (λw5 e5=> ?_);apply hE
    ·refine ⟨z+1,rfl,by omega,λj hj=> ?_,e3.trans (m.trans (Ext.trans xZ e5))⟩;by_cases ej:j=z
     ·subst ej;rw [hpe,hbz,ko]
     ·exact C j oM
    ·rcases tV y ((perS c).toNat-(z+1)) (z+1) with ⟨g1,_⟩|⟨z',g1,g2,g3,_⟩
     ·rw [g1];show 0<(perS c).toNat+1-z;omega
     ·rw [g1];show (perS c).toNat+1-z'<(perS c).toNat+1-z;omega
end
def zW (po:Nat):Nat->List (Nat×Nat)
 |0=> []
 |m+1=>zW po m++ [(po+8*m,0)]
def H1 (po:Nat):∀m,(zW po m).length=m
 |0=>rfl
 |m+1=>by simp only [zW,an,hW,H1 po m]
def l5 {po:Nat}:∀{m:Nat} {x:Nat×Nat},x∈zW po m->∃j,j<m/\x=(po+8*j,0)
 |0,x,h=>by cases h
 |m+1,x,h=>by
  simp only [zW,eP,ap] at h;rcases h with h|h
  ·obtain ⟨j,a,b⟩:=l5 h;exact ⟨j,by omega,b⟩
  ·exact ⟨m,by omega,h⟩
def Be {P:Nat->Bool} {l0:Nat}:∀{n:Nat} {x:Int},x∈lnL P l0 n↔∃k,k<n/\P k=true/\x=((l0+32*k:Nat):Int)
 |0,x=>⟨λh=>(by cases h),λ⟨k,h,_⟩=>oM⟩
 |n+1,x=>by
  simp only [lnL,eP,Be (n:=n)];constructor
  ·rintro (⟨k,a,b,c⟩|h)
   ·exact ⟨k,by omega,b,c⟩
   ·split at h
    ·rename_i hp;exact ⟨n,by omega,hp,by simpa using h⟩
    ·cases h
  ·rintro ⟨k,a,b,c⟩;by_cases e:k=n
   ·right;subst e;rw [if_pos b,c];simp
   ·exact .inl ⟨k,by omega,b,c⟩
section
variable {w0 w w' w'':ab} {Y Y' Y'':Lay} {D D':DS} {H:HL} {n:Nat} {f f':Idx} {R:List Nat}
def acC (p x:Nat) (w:ab) (K:K1) (p0:p≠0) (hp:p<18446744073709551616) (hx:x<60):ad prog 31 #[.int .u64 (p:Int),.int .i64 (x:Int)] w K=K (.int .u64 ((pO p+8*x:Nat):Int)) w:=by
 refine ao (by kernel_rfl) (Tr _ _ _ _ ?_) K;have h1:pO p<34359738368:=by unfold pO;omega
 unfold Zy;exact yS3 @jJ @eU p0
def aaa {po m:Nat} (on:On D) (h8:po%8=0) (hl:po+8*m<=D.n*64):On (D.run 0 (az (zW po m)))/\(D.run 0 (az (zW po m))).cur=aD (zW po m) D.cur:=
 On.stores on _ (λx hx=>by obtain ⟨j,hj,rfl⟩:=l5 hx;simp only;omega)
def aby (h:HpS w0 w Y D H n f R) {p:Nat} {c:Int} (c0:0<=c) (c5:c<5) (p0:p≠0) (hp:p<18446744073709551616) (h8:pO p%8=0) (hl:pO p+8*(wordsS c).toNat<=D.n*64) (hx:D.exe<1000000000) (K:K1)
  (hK:∀w' Y',Stp w Y w' Y' (D.run 0 (az (zW (pO p) (wordsS c).toNat)))->K (.int .i64 0) w'):
  ad prog 69 #[hpV H,.int .u64 (p:Int),.int .i64 c] w K:=by
 have B:=h.n4;have hw:=aW c0 c5;have q0:=h.cell.1;have ltp:=h.ltp;have g:=h.ar.L.dv;have d:=aaa (m:=(wordsS c).toNat) h.rg.on h8 hl;have o:=qM c w;obtain ⟨m,hm⟩:∃m:Nat,wordsS c=(m:Int):=⟨(wordsS c).toNat,by omega⟩;rw [hm] at hl hK d o;rw [hm] at hw;rw [dl] at hl hK d;have hG:=h.gl;refine UT _ _ _ _ _ ?_;unfold ZY;refine zS2 o hG ?_;apply Dp (I:=λx z w'=>∃j:Nat,z= .int .i64 (j:Int)/\j<=m/\SlO w' 98 2 x j (wrL (zW (pO p) j))/\Frm Nob w w'/\bw w.heap.size x) (μ:=λ_ z _=>m-(intOf z).toNat)
 ·exact ⟨0,rfl,by omega,SlO.nil _ _ _,Frm.refl _ _,λb hb=>by cases hb⟩
 ·intros;rename_i w2 hI E1 hE;obtain ⟨j,rfl,hj,sx,hf,nx⟩:=hI;have e2:=hf.to_ext (λ_ _ h=>h);obtain ⟨xa,xc,rfl,C⟩:=sx.isS';by_cases hjm:j<m
  ·have s:=acC p j;unfold tK;refine zS1 s ?_;refine bD cv (w0:=w) (sx.ext xZ) (hf.ext xZ) nx (m:=1) (news:=wrL [(pO p+8*j,0)]) (by simp [wrL]) ?_ rfl oM oM oM (λv' w3 hs r n3 _ _=> ?_)
   ·intro q u hq;rw [kv,aO _ _ _ _ _ (by simp only [RZ])];simpa [wrL,u64] using hq
   refine zS0 ?_;apply hE
   ·refine ⟨j+1,by simp,by omega,?_,r,n3⟩;rw [zW,bJ];exact hs
   ·simp [intOf];omega
  ·have:j=m:=oM;subst this;have q0:=e2.cell_some q0;have A:=ay q0;have k:=H1 (pO p) j;have v:=aR (zW (pO p) j);have y:SlO w2 98 2 (.slice xa j xc) (zW (pO p) j).length (wrL (zW (pO p) j)):=by rw [k];exact sx
   have ed:Ext w2 w2.drew:=Ext.drew (Ext.refl _);rw [k] at v;have t:=λK hK=>gk (zW (pO p) j) _ (y.ext ed) oM oM (λx hx=>by obtain ⟨i,hi,rfl⟩:=l5 hx;simp only;omega) K hK
   have e:=λ(v3:ca) (w3:ab) (a:SlO w3 220 3 v3 (az (zW (pO p) j)).length (inL (az (zW (pO p) j)))) (e3:Ext w w3) (n3:bw w2.drew.heap.size v3) K hK=>sC (g.ext e3) h.ar.L.gd 0 oM (az (zW (pO p) j)) v3 a (λb hb hf=>by have h1:=g.lt hf;have h2:=n3 b hb;have:=(e2.trans ed).size;omega) (bt (λx hx=>by obtain ⟨i,hi,rfl⟩:=l5 hx;simp only;omega)) oM K hK
   rw [d.1.err] at e;unfold tK;refine zS3 @OV @Do.eq_1 q0 ?_;refine t _ (λv3 w3 a e3 n3=> ?_);have q0:=(ed.trans e3).cell_some q0;have l:=e2.trans (ed.trans e3)
   (repeat' first|refine ak (λ_=> ?_) (λ_=> ?_)|refine am ?_ ?_|refine gG q0 ?_|exact BW q0|fail)
   refine e v3 w3 a l n3 _ (λw4 Y4 st=> ?_);exact hK w4 Y4 (Stp.pre l (λx hx=>g.lt hx) st)
def HpG.avo {Q:Nat->Prop} (h:HpG Q w0 w Y D H n f R) (x:Int):∀(w1:ab) (K:K1),Ext w w1->ev prog (Instr.lookup 110 (.map H.av) (.int .i64 x) false) w1 K=K (.bool (decide (x∈H.avl))) w1:=λw1 K e=>by
 rcases h.avm with ⟨a,b⟩|⟨r,a,b,_⟩
 ·rw [a,b,Hw mTa];rfl
 ·rw [a,di mTa (b.ext e)];by_cases hx:x∈H.avl
  ·rw [decide_eq_true hx,qU b.keys (List.mem_map.2 ⟨x,hx,rfl⟩)];rfl
  ·rw [decide_eq_false hx,cR.2 (λp hp e=>by obtain ⟨y,hy,rfl⟩:=List.mem_map.1 hp;simp only at e;exact hx (e▸hy))];rfl
def DK (h:HpS w0 w Y D H n f R) {t c:Int} (t0:0<=t) (c0:0<=c) (kd:Nat) (k0:kd≠0) (k7:kd<=127) (K:K1)
  (s:(∀k,k<n->(f k).2.1=t->(f k).1=c->((26+32*k:Nat):Int)∉H.avl->∀i:Nat,(i:Int)<perS c->bV D R (26+32*k) c i=true)->∀w',Ext w w'->K (.tuple #[.int .u64 ((0:Nat):Int),.int .i64 0,.int .i64 5]) w')
  (l:∀k,k<n->(f k).2.1=t->(f k).1=c->((26+32*k:Nat):Int)∉H.avl->∀i:Nat,(i:Int)<perS c->bV D R (26+32*k) c i=false->(∀j,j<i->bV D R (26+32*k) c j=true)->∀w',Ext w w'->K (.tuple #[.int .u64 ((ptrN (pOff (26+32*k) c i) (bG (wd D (26+32*k) (offN c i))) kd:Nat):Int),.int .i64 ((26+32*k:Nat):Int),.int .i64 0]) w'):
  ad prog 66 #[hpV H,.int .i64 t,.int .i64 c,.int .u8 (kd:Int)] w K:=by
 have q3:=h.cell.2.2.2.1;have ltp:=h.ltp;have N:=h.n4;refine UF _ _ _ _ _ _ ?_;unfold ZW;refine zS1 q3 ?_;refine Exists.elim (p:=λL=>L=lnL (λk=>decide ((f k).2.1=t)&&decide ((f k).1=c)) 26 n) ⟨_,rfl⟩ (λL hL=> ?_);have y:=TW h.ar t c t0 c0;rw [<-hL] at y;have C:∀x∈L,∃k,k<n/\(f k).2.1=t/\(f k).1=c/\x=((26+32*k:Nat):Int):=λx hx=>by
  rw [hL] at hx;obtain ⟨k,a,b,d⟩:=Be.1 hx;simp only [df,decide_eq_true_eq] at b;exact ⟨k,a,b.1,b.2,d⟩
 have B:∀k,k<n->(f k).2.1=t->(f k).1=c->((26+32*k:Nat):Int)∈L:=λk a b d=>by
  rw [hL];exact Be.2 ⟨k,a,by simp [b,d],rfl⟩
 have M:L.length<=128:=by rw [hL];have:=qR (λk=>decide ((f k).2.1=t)&&decide ((f k).1=c)) 26 n;omega
 clear hL;refine y _ (λv w1 e1 nv hv=> ?_);have hr:RdS w1.heap.size w1 v (aX L):=RdS.of_slR (by rw [show (aX L).length=L.length by simp];exact hv);obtain ⟨va,vc,A,_⟩:=id hr;rw [show (aX L).length=L.length by simp] at A;subst A;refine zS0 ?_;apply Df (I:=λz w'=>∃j:Nat,z= .int .i64 (j:Int)/\j<=L.length/\(∀q,(hq:q<L.length)->q<j->L[q]∉H.avl->∀k,k<n->L[q]=((26+32*k:Nat):Int)->(f k).1=c->∀i:Nat,(i:Int)<perS c->bV D R (26+32*k) c i=true)/\Ext w1 w') (μ:=λz _=>L.length-(intOf z).toNat)
 ·exact ⟨0,rfl,by omega,λq _ h=>by omega,Ext.refl _⟩
 ·intros;rename_i w2 hI E1 hE;obtain ⟨j,rfl,hj,hd,e2⟩:=hI;have o:=e1.trans e2;have q6:=(h.ext o).cell.2.2.2.2.2.2.1;have F:=ay q6;by_cases hjl:j<L.length
  ·obtain ⟨sb,so,sc,r,hc⟩:=(hr.ext e2).get (mE hjl);injection r with r _ ev2;subst r;subst ev2;have G:=ay hc;obtain ⟨k,hk,ht,m,hx⟩:=C L[j] (cO hjl);have g:=(h.ext o).avo L[j];have u:=λ(w3:ab) (K:K1) (e:Ext w2 w3)=>tW ((h.ext o).ext e) hk (by rw [m];exact c0) kd k0 k7 K
   rw [m] at u;have hd1:∀(hq:(L[j]∉H.avl->∀k,k<n->L[j]=((26+32*k:Nat):Int)->(f k).1=c->∀i:Nat,(i:Int)<perS c->bV D R (26+32*k) c i=true)),∀q,(hq:q<L.length)->q<j+1->L[q]∉H.avl->∀k,k<n->L[q]=((26+32*k:Nat):Int)->(f k).1=c->∀i:Nat,(i:Int)<perS c->bV D R (26+32*k) c i=true:=λhh q hq h1=>by
    by_cases e:q=j
    ·subst e;exact hh
    ·exact hd q hq oM
   rw [hx] at hc g hd1;have l:=l k hk ht m;unfold tG;by_cases ha:((26+32*k:Nat):Int)∈H.avl
   ·rw [decide_eq_true ha] at g;refine dY hc q6 g @xr @mX.eq_1 @mX.eq_1 ?_;apply hE
    ·exact ⟨j+1,by simp,by omega,hd1 (λhn=>absurd ha hn),e2.trans xZ⟩
    ·simp [intOf];omega
   ·rw [decide_eq_false ha] at g;have l:=l ha;refine eQ hc q6 g ?_;refine u _ _ xZ (λhu w3 e3=> ?_) (λi hi hf E w3 e3=> ?_)
    ·refine zS2 @xr @mX.eq_1 ?_;apply hE
     ·refine ⟨j+1,by simp,by omega,hd1 (λ_ k2 J e2 _=> ?_),e2.trans e3⟩;have:k2=k:=oM;subst this;exact hu
     ·simp [intOf];omega
    ·refine zS0 ?_;exact l i hi hf E _ (o.trans e3)
  ·have:j=L.length:=oM;subst this;have s:=s (λk hk ht m hn i hi=>by
    obtain ⟨q,hq,he⟩:=List.getElem_of_mem (B k hk ht m);exact hd q hq hq (by rw [he];exact hn) k hk he m i hi)
   unfold tG;refine zS2 @OS @De.eq_1 ?_;exact s _ o
end
section
variable {D:DS} {j:Nat}
def DL (hj:j≠0) (v:Bool):(D.counted 0 v).err j=D.err j:=by
 have hf:∀(D:DS) (e:Int),(D.fail 0 e).err j=D.err j:=λD e=>by
  unfold DS.fail;split
  ·show (if j=0 then e else D.err j)=_;rw [if_neg hj]
  ·rfl
 unfold DS.counted;split
 ·exact hf _ _
 ·split
  ·exact hf _ _
  ·split
   ·split
    ·rw [hf]
    ·rfl
   ·rfl
def Vw (hj:j≠0) (i:Ins):(D.exec 0 i).err j=D.err j:=by
 have h:=λv=>DL (D:=D) hj v
 unfold DS.exec;split
 ·unfold DS.store;split
  ·exact h _
  ·exact h _
 ·split
  ·unfold DS.flush;split
   ·exact h _
   ·exact h _
  ·unfold DS.fence;split
   ·exact h _
   ·exact h _
def fd (hj:j≠0):∀(p:List Ins) (D:DS),(D.run 0 p).err j=D.err j
 | [],D=>rfl
 |i::p,D=>by rw [go,fd hj p,Vw hj]
def DM (v:Bool):(D.counted 0 v).cur=D.cur:=by
 have hf:∀(D:DS) (e:Int),(D.fail 0 e).cur=D.cur:=λD e=>by unfold DS.fail;split<;>rfl
 unfold DS.counted;split
 ·exact hf _ _
 ·split
  ·exact hf _ _
  ·split
   ·split
    ·rw [hf]
    ·rfl
   ·rfl
def Vx (i:Ins) (h:i.op=1->i.off/8≠j):(D.exec 0 i).cur j=D.cur j:=by
 have hc:=λv=>congrFun (DM (D:=D) v) j
 unfold DS.exec;split
 ·rename_i h1;unfold DS.store;split
  ·show (if j=i.off/8 then i.val else (D.counted 0 _).cur j)=_;rw [if_neg (λe=>h h1 e.symm)];exact hc _
  ·exact hc _
 ·split
  ·unfold DS.flush;split
   ·exact hc _
   ·exact hc _
  ·unfold DS.fence;split
   ·exact hc _
   ·exact hc _
def K6 (j:Nat):∀(p:List Ins) (D:DS),(∀i∈p,i.op=1->i.off/8≠j)->(D.run 0 p).cur j=D.cur j
 | [],D,_=>rfl
 |i::p,D,h=>by rw [go,K6 j p _ (λx hx=>h x (by simp [hx])),Vx i (h i (by simp))]
def H4 {ws:List (Nat×Nat)} {i:Ins} (h:i∈az ws) (ho:i.op=1):∃x∈ws,i.off=x.1:=by
 unfold az at h;simp only [eP,kb,ap] at h;rcases h with (⟨x,hx,rfl⟩|⟨x,hx,rfl⟩)|rfl
 ·exact ⟨x,hx,rfl⟩
 ·simp [flI] at ho
 ·simp at ho
def jd {ws:List (Nat×Nat)} (j:Nat) (D:DS) (h:∀x∈ws,x.1/8≠j):(D.run 0 (az ws)).cur j=D.cur j:=
 K6 j _ D (λi hi ho=>by obtain ⟨x,hx,e⟩:=H4 hi ho;rw [e];exact h x hx)
end
section
variable {w0 w w' w'':ab} {Y Y' Y'':Lay} {D D' D2:DS} {H:HL} {n:Nat} {f f' f2:Idx} {R:List Nat} {c t:Int}
def abz {l0:Nat} {r e:Int} (hr:KA D l0 n f c t D2 f2 r e) (c0:0<=c) (c5:c<5) (hl:l0+32*n<=D.n):(∀j,j<l0*8->D2.cur j=D.cur j)/\∀j,j≠0->D2.err j=D.err j:=by
 have hp:∀(D:DS) k g,k<n->(∀j,j<l0*8->(D.run 0 (planI (l0+32*k) c t g)).cur j=D.cur j):=λD k g hk j hj=>by
  unfold planI;rw [cH,jd,jd]
  ·intro x hx;have:=iq (n:=l0+32*k+32) (cj _) c0 c5 g x hx;omega
  ·intro x hx;simp only [ap] at hx;subst hx;simp only;omega
 have hc:∀(D:DS) k g,k<n->(∀j,j<l0*8->(D.run 0 (cD (l0+32*k) g)).cur j=D.cur j):=λD k g hk j hj=>by
  unfold cD;rw [jd];intro x hx;simp only [ap] at hx;subst hx;simp only;omega
 rcases hr with ⟨k,hk,_,_,a,_⟩|⟨_,k,g,D1,hk,_,_,b,hr⟩|⟨_,_,h3,_⟩
 ·subst a;exact ⟨hp D k _ hk,λj hj=>fd hj _ _⟩
 ·subst b;rcases hr with ⟨_,h2,_⟩|⟨_,h2,_⟩
  ·subst h2;exact ⟨hc D k g hk,λj hj=>fd hj _ _⟩
  ·subst h2;exact ⟨λj hj=>(hp _ k g hk j hj).trans (hc D k g hk j hj),λj hj=>(fd hj _ _).trans (fd hj _ _)⟩
 ·subst h3;exact ⟨λ_ _=>rfl,λ_ _=>rfl⟩
def HpG.astp {Q:Nat->Prop} (h:HpG Q w0 w Y D H n f R) (s:dC w Y H.b w' Y') (ar:ArS w0 w' Y' D2 H.S H.b H.o H.cp 26 n f2) (rg:RgS D2 26 n f2) (rv:∀p∈R,Rsv D2 f2 n p) (ho:∀k,k<n->(f2 k).2.2=(f k).2.2) (er:∀k,k<8->D2.err k=0) (d:D2.cur 0=0):HpS w0 w' Y' D2 H n f2 R:=by
 obtain ⟨L,h1,h2⟩:=h.hd;have tb:Y'.tb 0=Y.tb 0:=by rw [s.tb]
 have sp:=h.sep;have nf:∀x,(x=H.p\/x=H.rm\/x=H.hm\/x=H.B\/H.av=some x)->¬(Y.F x\/x=H.b):=λx hx hf=>hf.elim (sp x hx).2.1 (sp x hx).2.2.1
 refine ⟨ar,rg,by rw [tb];exact h.hp.frm s.frm (nf _ (.inl rfl)),by rw [tb];exact h.lg.frm s.frm (nf _ (.inr (.inr (.inr (.inl rfl))))),h.rs.frm s.frm (nf _ (.inr (.inl rfl))),⟨L,h1.frm s.frm (nf _ (.inr (.inr (.inl rfl)))),h2⟩,h.nd,rv,λk hk=>(ho k hk).trans (h.ho k hk),er,d,h.avm.imp id (λ⟨r,a,b,c⟩=>⟨r,a,b.frm s.frm (nf _ (.inr (.inr (.inr (.inr a))))),c⟩),λx hx=>⟨(sp x hx).1,λhf=> ?_,(sp x hx).2.2⟩,h.dif,by rw [s.dt.1,s.dt.2,s.tb];exact h.dt⟩;have lt:x<w.heap.size:=by
  rcases hx with rfl|rfl|rfl|rfl|ha
  ·exact h.hp.lt
  ·exact h.rs.lt
  ·exact h1.lt
  ·exact h.lg.lt
  ·rcases h.avm with ⟨a,_⟩|⟨r,a,b,_⟩
   ·rw [a] at ha;cases ha
   ·rw [a] at ha;injection ha with ha;subst ha;exact b.lt
 rcases s.fr x hf with h3|h3
 ·exact (sp x hx).2.1 h3
 ·omega
def jQ {k i g kd:Nat} {c:Int} (c0:0<=c) (c5:c<5) (hl:26+32*k<=4096) (hi:(i:Int)<perS c):pO (ptrN (pOff (26+32*k) c i) g kd)=pOff (26+32*k) c i/\hk (ptrN (pOff (26+32*k) c i) g kd)=k:=by
 have hb:=aK c0 c5 hi;have a:=bF c0 c5 (show 0<=(i:Int) by omega) hi;have hw:=aW c0 c5;have hp:=dx hl c0 c5 hi;have e:=Aj (pOff (26+32*k) c i) g kd hp.1 hp.2.1;refine ⟨e,?_⟩;unfold hk;rw [e];unfold pOff;omega
def Rsv.congr {p:Nat} (h:Rsv D f n p) (hn:26+32*n<=4096) (rg:RgS D 26 n f) (e1:f2 (hk p)=f (hk p)\/((f2 (hk p)).1=(f (hk p)).1)) (e2:∀i:Nat,(i:Int)<perS (f (hk p)).1->pO p=pOff (26+32*hk p) (f (hk p)).1 i->wd D2 (26+32*hk p) (offN (f (hk p)).1 i)=wd D (26+32*hk p) (offN (f (hk p)).1 i)):Rsv D2 f2 n p:=by
 obtain ⟨k,i,kd,b,h0,hi,hp,c,k0,k7⟩:=h;have hc:=rg.cls b;have hh:=jQ (k:=k) (g:=bG (wd D (26+32*k) (offN (f k).1 i))) (kd:=kd) h0 hc.1 oM hi;rw [<-hp] at hh;have a:(f2 (hk p)).1=(f (hk p)).1:=e1.elim (λe=>by rw [e]) id;rw [hh.2] at a e2;refine ⟨k,i,kd,b,by rw [a];exact h0,by rw [a];exact hi,?_,?_,k0,k7⟩
 ·rw [a,e2 i hi hh.1];exact hp
 ·rw [a,e2 i hi hh.1];exact c
def Rsv.kn {p:Nat} (h:Rsv D f n p) (hn:26+32*n<=4096) (rg:RgS D 26 n f):hk p<n/\0<=(f (hk p)).1/\p≠0/\p<72057594037927936/\∃i:Nat,(i:Int)<perS (f (hk p)).1/\pO p=pOff (26+32*hk p) (f (hk p)).1 i/\bS (wd D (26+32*hk p) (offN (f (hk p)).1 i))=176:=by
 obtain ⟨k,i,kd,c,h0,hi,hp,d,k0,k7⟩:=h;have hc:=rg.cls c;have hh:=jQ (k:=k) (g:=bG (wd D (26+32*k) (offN (f k).1 i))) (kd:=kd) h0 hc.1 oM hi;have b:=dx (l:=26+32*k) oM h0 hc.1 hi;have a:=Al (pOff (26+32*k) (f k).1 i) (bG (wd D (26+32*k) (offN (f k).1 i))) kd b.2.1 (cU _) k7 b.2.2 b.1;rw [<-hp] at hh a;rw [hh.2];exact ⟨c,h0,a.1,a.2,i,hi,hh.1,d⟩
def H5 {R:List Nat} {p:Nat} (h:p∈R):cnR R (hk p)≠0:=by
 unfold cnR;have:p∈R.filter λq=>decide (hk q=hk p):=List.mem_filter.2 ⟨h,by simp⟩
 have:=List.length_pos_of_mem this;omega
def Vy {P:Program} {ts:Array TypeId} {ty:TypeId} {cs:Array Bool} {w:ab} {k:K1} (t kt et:TypeId) (a:ts[0]? =some t) (ht:P.underlying t=some (.map kt et)):aY P .len ts ty cs #[.map none] w k=k (.int .i64 0) w:=by
 unfold aY;have hr:(builtin .len ts ty cs #[.map none]).run P w= .ok (.value (.int .i64 0)) w:=by
  simp [builtin,eb,a,run_underlying ht,goInt]
 rw [hr];rfl
def Vz (h:HpS w0 w Y D H n f R) (B:H.av=none) (t0:0<=t) (t8:t<8) (c0:0<=c) (c5:c<5) (hx:D.exe<1000000000) (K:K1)
  (y:(∀j,j<n->¬(f j).1<0)->(∀j,j<n->emG D 26 f j=none)->∀w' Y',HSt w Y H w' Y'->HpS w0 w' Y' D H n f R->K (.tuple #[.int .i64 0,.int .i64 4]) w')
  (v:∀D2 f2 k g,pH D 26 n f c t D2 f2 k g->D2.exe<=D.exe+210->D2.n=D.n->(Cln D.co->Cln D2.co)->cnR R k=0->∀w' Y',HSt w Y H w' Y'->HpS w0 w' Y' D2 H n f2 R->K (.tuple #[.int .i64 ((26+32*k:Nat):Int),.int .i64 0]) w'):
  ad prog 67 #[hpV H,.int .i64 t,.int .i64 c] w K:=by
 have q3:=h.cell.2.2.2.1;have q6:=h.cell.2.2.2.2.2.2.1;rw [B] at q6;have ltp:=h.ltp;have z:=h.n4;have x:∀(w1:ab) (K:K1),aY prog .len #[110] 3 #[false] #[.map none] w1 K=K (.int .i64 0) w1:=λw1 K=>Vy _ 3 4 rfl (by kernel_rfl)
 have l:=λ(w1:ab) (e:Ext w w1) (K:K1) hK=>X2 (h.ext e).ar h.rg.ag h.rg.on.off (h.er 0 oM) hx t0 t8 c0 c5 K hK
 refine Dk _ _ _ _ _ ?_;unfold UK;refine zS3 q3 q6 x ?_;refine l _ (Ext.refl _) _ (λD2 f2 r e hr w1 Y1 a1 q=> ?_);have b:=abz hr c0 c5 z.2;have hc:=abo h.rg c0 c5 hr;rcases acy h.rg c0 c5 t0 t8 hr with ⟨rfl,rfl,rfl,rfl,h1,h2⟩|⟨rfl,k,g,rfl,ok,s,n2,x2⟩
 ·refine zS0 ?_;exact y h1 h2 w1 Y1 (HSt.of_ast a1) (h.astp a1 q h.rg h.rv (λ_ _=>rfl) h.er h.idl)
 ·have o:cnR R k=0:=by
   rcases Nat.eq_zero_or_pos (cnR R k) with e|e
   ·exact e
   ·exfalso;have u:=h.ho k ok.kn;rw [decide_eq_true oM] at u;obtain ⟨p,hp⟩:=List.exists_mem_of_length_pos e;obtain ⟨A,d⟩:=List.mem_filter.1 hp;have d:hk p=k:=by simpa using d
    have:=(h.rv p A).kn oM h.rg;rw [d] at this;rcases ok.how with ⟨h1,_⟩|⟨_,h1,_⟩
    ·omega
    ·have:=(AD h.rg ok.kn h1).2.2.1;rw [u] at this;cases this
  refine zS0 ?_;refine v D2 f2 k g ok x2 n2 hc o w1 Y1 (HSt.of_ast a1) (h.astp a1 q s (λp hp=> ?_) (λj hj=> ?_) (λj hj=> ?_) ?_)
  ·have m:hk p≠k:=λe=>by have:=H5 hp;rw [e] at this;exact this o
   have a:=(h.rv p hp).kn oM h.rg;have l:=h.cls a.1;refine (h.rv p hp).congr oM h.rg (.inl (by rw [ok.fe,bO _ _ m])) (λi hi _=>ok.oth _ a.1 m _ (aK a.2.1 l.1 hi).2.2)
  ·rw [ok.fe];by_cases e:j=k
   ·subst e;rw [bu]
   ·rw [bO _ _ e]
  ·by_cases e:j=0
   ·subst e;exact s.on.err
   ·rw [b.2 j e];exact h.er j hj
  ·rw [b.1 0 oM];exact h.idl
end
def jR (L:KVL) (i j:Int) (v:ca):bz (setL L i v) j=if j=i then some v else bz L j:=by
 unfold setL;by_cases h:(bz L i).isSome
 ·rw [if_pos h];have:∀L:KVL,((bz L i).isSome->bz (L.map λp=>if p.1=i then (i,v) else p) j=if j=i then some v else bz L j)/\(j≠i->bz (L.map λp=>if p.1=i then (i,v) else p) j=bz L j):=by
   intro L
   induction L with
   |nil=>exact ⟨λh=>(by cases h),λ_=>rfl⟩
   |cons p L ih=>
    unfold bz at ih ⊢;simp only [cq,List.find?_cons];by_cases e:p.1=i
    ·by_cases ej:j=i
     ·subst ej;simp [e]
     ·have e1:¬i=j:=λh=>ej h.symm
      simp only [e,if_true,decide_eq_false e1,decide_true,if_neg ej];have:=ih.2 ej;exact ⟨λ_=>this,λ_=>this⟩
    ·simp only [if_neg e,decide_eq_false e];by_cases e2:p.1=j
     ·have ej:¬j=i:=λh=>e (e2.trans h)
      simp [e2,ej]
     ·simp only [decide_eq_false e2];exact ih
  exact (this L).1 h
 ·rw [if_neg h];have hn:bz L i=none:=by simpa using h
  unfold bz at hn ⊢;rw [List.find?_append,gs] at*;by_cases ej:j=i
  ·subst ej;rw [hn,if_pos rfl];simp
  ·rw [if_neg ej];have e1:¬i=j:=λh=>ej h.symm
   simp [e1]
def VA (L:KVL) (i j:Int):bz (AG L i) j=if j=i then none else bz L j:=by
 unfold bz AG;rw [List.find?_filter];by_cases ej:j=i
 ·subst ej;rw [if_pos rfl,gs,List.find?_eq_none];intro p _;simp
 ·rw [if_neg ej];have:(λa:Int×ca=>decide ((!decide (a.1=i))=true/\decide (a.1=j)=true))=λa=>decide (a.1=j):=by
   funext p;by_cases e:p.1=j
   ·simp [e,ej]
   ·simp [e]
  rw [this]
def DN (po:Nat) (h8:po%8=0):∀(m:Nat) (f:Nat->Nat) (j:Nat),j<m->aD (zW po m) f (po/8+j)=0
 |0,f,j,h=>by omega
 |m+1,f,j,h=>by
  unfold zW;rw [jb];show (if po/8+j=(po+8*m)/8 then 0 else aD (zW po m) f (po/8+j))=0;by_cases e:j=m
  ·rw [if_pos oM]
  ·rw [if_neg oM];exact DN po h8 m f j oM
def VB {c:Int} (c0:0<=c) (c5:c<5) {i i':Nat}:offN c i'<offN c i+1\/offN c i+1+(wordsS c).toNat<=offN c i':=by
 obtain ⟨z,n,hz,hn,d,z3,b,a⟩:=mJ c0 c5;rw [a,a,hz,dl];by_cases h:i'<=i
 ·left;have:=hY (z+1) h;omega
 ·right;have:=hY (z+1) (show i+1<=i' by omega);rw [Nat.add_mul,Nat.one_mul] at this;omega
section
variable {w0 w w' w'':ab} {Y Y' Y'':Lay} {D D' D2:DS} {H:HL} {n k i l:Nat} {f f' f2:Idx} {R R':List Nat} {c t:Int}
def Snd.congrH {o:Int} (h:Snd D l c o) (c0:0<=c) (c5:c<5) (e:∀j,j<8->wd D2 l j=wd D l j) (e2:∀i:Nat,(i:Int)<perS c->wd D2 l (offN c i)=wd D l (offN c i)):Snd D2 l c o:=by
 refine ⟨by rw [e 0 oM];exact h.hd,by rw [e 0 oM];exact h.hc,by rw [e 0 oM];exact h.ho,λj h2 h8=>by rw [e j h8];exact h.zer j h2 h8,λi hi=>by rw [e2 i hi];exact h.sl i hi,λi hi=>by rw [e2 i hi];exact h.gd i hi,λi hi=> ?_⟩;rw [e 1 oM,h.bit i hi];by_cases hp:(i:Int)<perS c
 ·rw [e2 i hp]
 ·rw [decide_eq_false hp,j0,j0]
abbrev zeD (D:DS) (l:Nat) (c:Int) (i:Nat):DS:=D.run 0 (az (zW (pOff l c i) (wordsS c).toNat))
def Bf (on:On D) (hl:l+32<=D.n) (hn:D.n<=4096) (c0:0<=c) (c5:c<5) (hi:(i:Int)<perS c):On (zeD D l c i)/\(∀x,(x<l*8+offN c i+1\/l*8+offN c i+1+(wordsS c).toNat<=x)->(zeD D l c i).cur x=D.cur x)/\(∀j,j<(wordsS c).toNat->(zeD D l c i).cur (l*8+offN c i+1+j)=0):=by
 have hb:=aK c0 c5 hi;have a:=bF c0 c5 (show 0<=(i:Int) by omega) hi;have hw:=aW c0 c5;have hp:=dx (l:=l) oM c0 c5 hi;have ho:=aaa (m:=(wordsS c).toNat) on hp.1 (by unfold pOff;omega);have e:pOff l c i/8=l*8+offN c i+1:=by unfold pOff;omega
 refine ⟨ho.1,λx hx=>jd x D (λy hy=> ?_),λj hj=> ?_⟩
 ·obtain ⟨j,hj,rfl⟩:=l5 hy;simp only;omega
 ·unfold zeD;rw [ho.2,<-e];exact DN _ hp.1 _ _ j hj
def m9 (on:On D) (hl:l+32<=D.n) (hn:D.n<=4096) (c0:0<=c) (c5:c<5) (hi:(i:Int)<perS c):(∀j,j<8->wd (zeD D l c i) l j=wd D l j)/\(∀i':Nat,(i':Int)<perS c->wd (zeD D l c i) l (offN c i')=wd D l (offN c i'))/\(∀l',(l'+32<=l\/l+32<=l')->∀j,j<256->wd (zeD D l c i) l' j=wd D l' j):=by
 have hb:=aK c0 c5 hi;have a:=bF c0 c5 (show 0<=(i:Int) by omega) hi;have hw:=aW c0 c5;have h:=(Bf on hl hn c0 c5 hi).2.1;unfold wd;refine ⟨λj hj=>h _ (.inl oM),λi' b=>h _ ?_,λl' d j hj=>h _ oM⟩;have:=VB c0 c5 (i:=i) (i':=i');omega
def Bg (h:RgS D 26 n f) (hk:k<n) (h0:0<=(f k).1) (hi:(i:Int)<perS (f k).1):RgS (zeD D (26+32*k) (f k).1 i) 26 n f/\(zeD D (26+32*k) (f k).1 i).n=D.n/\(zeD D (26+32*k) (f k).1 i).exe<=D.exe+130/\(Cln D.co->Cln (zeD D (26+32*k) (f k).1 i).co):=by
 have hc:=h.cls hk;have c:=h.lt;have hn:=h.gd.n;have hz:=Bf h.on (l:=26+32*k) oM hn h0 hc.1 hi;have hw:=m9 h.on (l:=26+32*k) oM hn h0 hc.1 hi;have o:=aW h0 hc.1;have m:=bF h0 hc.1 (show 0<=(i:Int) by omega) hi;have hb:=aK h0 hc.1 hi;have hp:=dx (l:=26+32*k) oM h0 hc.1 hi;have hv:∀x∈zW (pOff (26+32*k) (f k).1 i) (wordsS (f k).1).toNat,x.1%8=0/\x.1<D.n*64:=λx hx=>by
  obtain ⟨j,hj,rfl⟩:=l5 hx;simp only [pOff] at*;omega
 have hx:=ee 0 (az (zW (pOff (26+32*k) (f k).1 i) (wordsS (f k).1).toNat)) D;have d:=aR (zW (pOff (26+32*k) (f k).1 i) (wordsS (f k).1).toNat);rw [H1] at d;have wS:∀j,j<n->(∀x,x<8->wd (zeD D (26+32*k) (f k).1 i) (26+32*j) x=wd D (26+32*j) x)/\∀i':Nat,(i':Int)<perS (f j).1->0<=(f j).1->wd (zeD D (26+32*k) (f k).1 i) (26+32*j) (offN (f j).1 i')=wd D (26+32*j) (offN (f j).1 i'):=λj hj=>by
  by_cases e:j=k
  ·subst e;exact ⟨hw.1,λi' a _=>hw.2.1 i' a⟩
  ·exact ⟨λx hx=>hw.2.2 _ oM x oM,λi' a b=>hw.2.2 _ oM _ (aK b (h.cls hj).1 a).2.2⟩
 refine ⟨⟨hz.1,aH.run 0 oM _ _ h.gd (bt (λx hx=>by obtain ⟨j,hj,rfl⟩:=l5 hx;have:=hv _ hx;simp only at this ⊢;omega)),by rw [show (zeD D (26+32*k) (f k).1 i).n=D.n from fh 0 _ _];exact c,λj hj=> ?_,λj hj b=> ?_⟩,fh 0 _ _,by show (D.run 0 _).exe<=_;omega,λg=>fb h.on hv g⟩
 ·rw [(wS j hj).1 0 oM];exact h.ag j hj
 ·exact (h.sn j hj b).congrH b (h.cls hj).1 (wS j hj).1 (λi' a=>(wS j hj).2 i' a b)
end
structure uB (D:DS) (f:Idx) (R:List Nat) (n:Nat) (A:List Int) (t c:Int) (kd:Nat) (D2:DS) (f2:Idx) (D3:DS) (f3:Idx) (p k i:Nat):Prop where
 kn:k<n
 c0:0<=c
 c5:c<5
 iN:(i:Int)<perS c
 how:(D2=D/\f2=f/\((26+32*k:Nat):Int)∉A)\/((∃g,pH D 26 n f c t D2 f2 k g)/\cnR R k=0/\∀k,k<n->(f k).2.1=t->(f k).1=c->((26+32*k:Nat):Int)∉A->∀i:Nat,(i:Int)<perS c->bV D R (26+32*k) c i=true)
 fc:(f2 k).1=c
 ft:(f2 k).2.1=t
 us:bV D2 R (26+32*k) c i=false
 lt:∀j,j<i->bV D2 R (26+32*k) c j=true
 p:p=ptrN (pOff (26+32*k) c i) (bG (wd D2 (26+32*k) (offN c i))) kd
 rg2:RgS D2 26 n f2
 d3:D3=zeD D2 (26+32*k) c i
 f3:f3=upF f2 k (c,t,true)
 n3:D3.n=D.n
 x3:D3.exe<=D.exe+340
 cl:Cln D.co->Cln D3.co
section
variable {w0 w w' w'':ab} {Y Y' Y'':Lay} {D D' D2 D3:DS} {H:HL} {n k i l:Nat} {f f' f2 f3:Idx} {R R':List Nat} {c t:Int} {S b o cp l0:Nat}
def ArS.frmH (h:ArS w0 w Y D S b o cp l0 n f) {F:Nat->Prop} (e:Frm F w w') (hF:∀x,F x->w0.heap.size<=x/\¬Y.F x/\x≠b/\x≠S):ArS w0 w' Y D S b o cp l0 n f:=
 ⟨⟨h.L.dv.frm e (λx hx hf=>(hF x hf).2.1 hx),h.L.gd,Ext.frm h.L.ex e (λx hx=>(hF x hx).1),h.L.nw⟩,h.gl,h.st.frm e (λhf=>(hF _ hf).2.2.2 rfl),h.pl.frm e (λx hx hf=>by injection hx with hx;exact (hF _ hf).2.2.1 hx.symm),h.nS,h.nb,h.n0,h.lt⟩
def HSt.of_frm (Y:Lay) (fr:Frm (λx=>Y.F x\/x=H.rm\/x=H.hm\/x=H.b) w w'):HSt w Y H w' Y:=⟨rfl,rfl,fr.mono (λx hx=>by
 rcases hx with h|h|h|h
 ·exact .inl h
 ·exact .inr (.inr (.inr (.inl h)))
 ·exact .inr (.inr (.inr (.inr h)))
 ·exact .inr (.inl h)),λx hx=> .inl hx⟩
def HpG.put {Q Q':Nat->Prop} (h:HpG Q w0 w Y D H n f R) (fr:Frm (λx=>Y.F x\/x=H.rm\/x=H.hm\/x=H.b) w w') (ar:ArS w0 w' Y D H.S H.b H.o H.cp 26 n f') (rg:RgS D 26 n f') (mr:bj .u64 w' H.rm (rsL R')) (mh:∃L,bj .i64 w' H.hm L/\∀k,k<n->bz L ((26+32*k:Nat):Int)=if cnR R' k=0 then none else some (.int .i64 (cnR R' k:Int))) (nd:(R'.map pO).Nodup) (rv:∀p∈R',Q' p) (ho:∀k,k<n->(f' k).2.2=decide (cnR R' k≠0)):HpG Q' w0 w' Y D H n f' R':=by
 have sp:=h.sep;have hd:=h.dif;refine ⟨ar,rg,h.hp.frm fr (λhf=> ?_),h.lg.frm fr (λhf=> ?_),mr,mh,nd,rv,ho,h.er,h.idl,h.avm.imp id (λ⟨r,a,b,c⟩=>⟨r,a,b.frm fr (λhf=> ?_),c⟩),h.sep,h.dif,h.dt⟩
 ·rcases hf with e|e|e|e
  ·exact (sp _ (.inl rfl)).2.1 e
  ·exact hd.1 e
  ·exact hd.2.1 e
  ·exact (sp _ (.inl rfl)).2.2.1 e
 ·rcases hf with e|e|e|e
  ·exact (sp _ (.inr (.inr (.inr (.inl rfl))))).2.1 e
  ·exact hd.2.2.2.1 e
  ·exact hd.2.2.2.2.1 e
  ·exact (sp _ (.inr (.inr (.inr (.inl rfl))))).2.2.1 e
 ·rcases hf with e|e|e|e
  ·exact (sp _ (.inr (.inr (.inr (.inr a))))).2.1 e
  ·exact c.1 e
  ·exact c.2.1 e
  ·exact (sp _ (.inr (.inr (.inr (.inr a))))).2.2.1 e
def K7 (R:List Nat) (p j:Nat):cnR (R++ [p]) j=cnR R j+if hk p=j then 1 else 0:=by
 unfold cnR;rw [f0,an];by_cases e:hk p=j
 ·simp [e]
 ·simp [e]
def X9 {R:List Nat} {p:Nat} (h:rsB R (pO p)=false):setL (rsL R) (pO p:Int) (.int .u64 (p:Int))=rsL (R++ [p]):=by
 have hg:(bz (rsL R) (pO p:Int)).isSome=false:=by rw [Vv];exact h
 unfold setL;rw [if_neg (by rw [hg];simp)];unfold rsL;rw [cw];rfl
def Ya {R:List Nat} {p:Nat} (hn:(R.map pO).Nodup) (h:rsB R (pO p)=false):((R++ [p]).map pO).Nodup:=by
 rw [cw,cq,kc];refine List.nodup_append.2 ⟨hn,by simp,λa ha b hb e=> ?_⟩;simp only [ap] at hb;subst hb;obtain ⟨q,hq,e2⟩:=List.mem_map.1 ha;have:rsB R (pO p)=true:=List.any_eq_true.2 ⟨q,hq,by simp [e2,e]⟩;rw [h] at this;cases this
def aab (h:HpS w0 w Y D H n f R) (a:k<n) (h0:0<=(f k).1) (hi:(i:Int)<perS (f k).1) (hu:bV D R (26+32*k) (f k).1 i=false) (kd:Nat) (k0:kd≠0) (k7:kd<=127) {p:Nat} (hp:p=ptrN (pOff (26+32*k) (f k).1 i) (bG (wd D (26+32*k) (offN (f k).1 i))) kd) (hx:D.exe<1000000000) (hR:R.length<1000000) (K:K1)
  (hK:∀w' Y',HSt w Y H w' Y'->HpS w0 w' Y' (zeD D (26+32*k) (f k).1 i) H n (upF f k ((f k).1,(f k).2.1,true)) (R++ [p])->K (.tuple #[.int .u64 (p:Int),.int .i64 0]) w'):
  tn K (hpV H) (.int .i64 (f k).1) (.int .i64 0) (.int .u64 (p:Int)) (.int .i64 ((26+32*k:Nat):Int)) w:=by
 have E:=h.n4;have hc:=h.cls a;have c:=dx (l:=26+32*k) (i:=i) oM h0 hc.1 hi;have hG:=cU (wd D (26+32*k) (offN (f k).1 i));have G:=Al (pOff (26+32*k) (f k).1 i) (bG (wd D (26+32*k) (offN (f k).1 i))) kd c.2.1 hG k7 c.2.2 c.1;have hh:=jQ (k:=k) (g:=bG (wd D (26+32*k) (offN (f k).1 i))) (kd:=kd) h0 hc.1 oM hi;rw [<-hp] at G hh;have b0:=bF h0 hc.1 (show 0<=(i:Int) by omega) hi;have hb:=aK h0 hc.1 hi;have hw:=aW h0 hc.1;have zr:=Bg h.rg a h0 hi;have zc:=Bf h.rg.on (l:=26+32*k) oM E.1 h0 hc.1 hi;have zw:=m9 h.rg.on (l:=26+32*k) oM E.1 h0 hc.1 hi;have I:aS (wd D (26+32*k) 1) i=false/\rsB R (pOff (26+32*k) (f k).1 i)=false:=by
  unfold bV at hu;simpa using hu
 have O:bS (wd D (26+32*k) (offN (f k).1 i))=176:=by
  have:=(h.rg.sn k a h0).bit i (by have:=aJ h0 hc.1;omega);rw [I.1,decide_eq_true hi,ka] at this;simpa using this
 have u:rsB R (pO p)=false:=by rw [hh.1];exact I.2
 have hz:=λ(K:K1) (hK:∀w' Y',Stp w Y w' Y' (zeD D (26+32*k) (f k).1 i)->K (.int .i64 0) w')=>aby h h0 hc.1 G.1 (show p<18446744073709551616 by omega) (by rw [hh.1];exact c.1) (by rw [hh.1];unfold pOff;omega) hx K (by rw [hh.1];exact hK)
 have T:∀w' Y',Stp w Y w' Y' (zeD D (26+32*k) (f k).1 i)->HpS w0 w' Y' (zeD D (26+32*k) (f k).1 i) H n f R:=λw' Y' s=>by
  refine h.step s zr.2.1 zr.1 (λq hq=> ?_) (λj hj=> ?_) ?_
  ·have A:=(h.rv q hq).kn oM h.rg;refine (h.rv q hq).congr oM h.rg (.inl rfl) (λi' m _=> ?_);by_cases e:hk q=k
   ·rw [e] at m ⊢;exact zw.2.1 i' m
   ·exact zw.2.2 _ oM _ (aK A.2.1 (h.cls A.1).1 m).2.2
  ·by_cases e:j=0
   ·subst e;exact zc.1.err
   ·rw [show (zeD D (26+32*k) (f k).1 i).err j=D.err j from fd e _ _];exact h.er j hj
  ·rw [zc.2.1 0 (.inl oM)];exact h.idl
 have y:Rsv (zeD D (26+32*k) (f k).1 i) (upF f k ((f k).1,(f k).2.1,true)) n p:=by
  refine ⟨k,i,kd,a,by rw [bu];exact h0,by rw [bu];exact hi,?_,?_,k0,k7⟩
  ·rw [bu];simp only;rw [zw.2.1 i hi];exact hp
  ·rw [bu];simp only;rw [zw.2.1 i hi];exact O
 have t:∀w1 Y1 w' L,HSt w Y H w1 Y1->HpS w0 w1 Y1 (zeD D (26+32*k) (f k).1 i) H n f R->Frm (λx=>Y1.F x\/x=H.rm\/x=H.hm\/x=H.b) w1 w'->ArS w0 w' Y1 (zeD D (26+32*k) (f k).1 i) H.S H.b H.o H.cp 26 n (upF f k ((f k).1,(f k).2.1,true))->bj .u64 w' H.rm (rsL (R++ [p]))->bj .i64 w' H.hm (setL L ((26+32*k:Nat):Int) (.int .i64 ((cnR R k:Int)+1)))->(∀k,k<n->bz L ((26+32*k:Nat):Int)=if cnR R k=0 then none else some (.int .i64 (cnR R k:Int)))->K (.tuple #[.int .u64 (p:Int),.int .i64 0]) w':=λw1 Y1 w' L s1 h1 fr ar mr mh hL=>by
  refine hK w' Y1 (s1.trans (HSt.of_frm Y1 fr)) (h1.put fr ar ?_ mr ⟨_,mh,λj hj=> ?_⟩ (Ya h.nd u) (λq hq=> ?_) (λj hj=> ?_))
  ·have ha:=h1.rg.ag k a;exact h1.rg.upd h1.rg.on h1.rg.gd rfl a (λ_ _ _ _ _=>rfl) ⟨ha.1,ha.2.1.symm,ha.2.2.symm⟩ (λV=>h1.rg.sn k a V) _
  ·rw [jR,K7,hh.2,hL j hj];by_cases e:j=k
   ·subst e;rw [if_pos rfl,if_pos rfl,if_neg oM];rfl
   ·have e2:¬k=j:=λh=>e h.symm
    rw [if_neg e2,la,if_neg (show ¬((26+32*j:Nat):Int)=((26+32*k:Nat):Int) by omega)]
  ·rcases List.mem_append.1 hq with hq|hq
   ·obtain ⟨k',i',M,a1,a2,a3,a4,a5,a6,a7⟩:=h1.rv q hq;by_cases e:k'=k
    ·subst e;exact ⟨k',i',M,a1,by rw [bu];exact a2,by rw [bu];exact a3,by rw [bu];exact a4,by rw [bu];exact a5,a6,a7⟩
    ·exact ⟨k',i',M,a1,by rw [bO _ _ e];exact a2,by rw [bO _ _ e];exact a3,by rw [bO _ _ e];exact a4,by rw [bO _ _ e];exact a5,a6,a7⟩
   ·simp only [ap] at hq;subst hq;exact y
  ·rw [K7,hh.2];by_cases e:j=k
   ·subst e;rw [bu];simp
   ·rw [bO _ _ e,if_neg (λh=>e h.symm),la];exact h.ho j hj
 have a9:cnR R k<=R.length:=by unfold cnR;exact bv _ _
 have ep:(pO p:Int)=((pO p:Nat):Int):=rfl;clear hK y;generalize zeD D (26+32*k) (f k).1 i=DZ at*;have X:¬(f k).1<0:=oM;have r:∀(w1:ab) (K:K1),ad prog 20 #[.int .u64 (p:Int)] w1 K=K (.int .u64 ((pO p:Nat):Int)) w1:=λw1 K=>eU p w1 K oM
 rw [xm];unfold tp;refine zS0 ?_;refine hz _ (λw1 Y1 s1=> ?_);have h1:=T w1 Y1 s1;have t:=t w1 Y1;obtain ⟨L,hm,hL⟩:=h1.hd;have d:=h1.dif;have sp:=h1.sep;have P:(bz L ((26+32*k:Nat):Int)).getD (.int .i64 0)= .int .i64 (cnR R k:Int):=by
  rw [hL k a];by_cases e:cnR R k=0
  ·rw [if_pos e,e];rfl
  ·rw [if_neg e];rfl
 have q4:=h1.cell.2.2.2.2.1;have ltp:=h1.ltp
 (repeat' first|refine ak (λ_=> ?_) (λ_=> ?_)|refine am ?_ ?_|refine fC q4 r ?_|exact F6 q4 r|fail)
 refine jc mTr (h1.rs.ext xZ) _ _ (λw2 m2 g2=> ?_);rw [X9 u] at m2;have z:Frm (λx=>x=H.rm) w1 w2:=(Frm.of_ext (show Ext w1 w1.drew from Ext.drew (Ext.refl _))).trans g2 (λx _ e=>e);have v:=h1.hp.frm z d.1;have q5:w2.cell? ⟨H.p,5,none⟩=some (.map (some H.hm)):=v.cell (i:=5) oM;have C:=hm.frm z (λe=>d.2.2.1 e.symm);have N:∀(w3:ab) (K:K1),Ext w2 w3->ev prog (Instr.lookup 109 (.map (some H.hm)) (.int .i64 ((26+32*k:Nat):Int)) false) w3 K=K (.int .i64 (cnR R k:Int)) w3:=λw3 K e=>by rw [di mTh (C.ext e),P]
 have a8:=v.lt;refine fC q5 N ?_;refine jc mTh (C.ext xZ) _ _ (λw3 m3 g3=> ?_);have J:Frm (λx=>x=H.rm\/x=H.hm) w1 w3:=(z.mono (λx hx=> .inl hx)).trans g3 (λx _ e=> .inr e);have B:=v.frm g3 d.2.1;have W:=m2.frm g3 d.2.2.1;have Z:=h1.ar.frmH J (λx hx=>hx.elim (λe=>sp x (.inr (.inl e))) (λe=>sp x (.inr (.inr (.inl e)))));have q3:w3.cell? ⟨H.p,3,none⟩=some (stV H.S):=B.cell (i:=3) oM;have a0:=B.lt;have U:=λK h8 hK=>H0 Z a true K h8 hK
 refine gG q3 ?_;refine U _ (λe=>absurd e X) (λ_ w4 a4 Q=> ?_);refine t w4 L (HSt.of_stp H s1) h1 ((J.mono (λx hx=> .inr (hx.elim .inl (λe=> .inr (.inl e))))).trans a4.frm (λx _ hx=>hx.elim .inl (λe=> .inr (.inr (.inr e))))) Q (W.frm a4.frm ?_) (m3.frm a4.frm ?_) hL
 ·exact λhf=>hf.elim (sp _ (.inr (.inl rfl))).2.1 (sp _ (.inr (.inl rfl))).2.2.1
 ·exact λhf=>hf.elim (sp _ (.inr (.inr (.inl rfl)))).2.1 (sp _ (.inr (.inr (.inl rfl)))).2.2.1
def pH.clean {l0 g:Nat} (h:pH D l0 n f c t D2 f2 k g) (c0:0<=c) (c5:c<5):wd D2 (l0+32*k) 1=0:=by
 rw [h.own 1 oM];unfold ir;rw [if_neg oM];have:isB c 1=false:=by
  cases hb:isB c 1 with
  |false=>rfl
  |true=>
   obtain ⟨i,hi,e⟩:=kM.1 hb;have:=aK c0 c5 (i:=i) oM;omega
 rw [this,if_neg (by simp),if_pos oM]
def K8 {R:List Nat} {c:Int} (c0:0<=c) (c5:c<5) (hl:26+32*k<=4096) (hi:(i:Int)<perS c) (h:cnR R k=0):rsB R (pOff (26+32*k) c i)=false:=by
 cases hb:rsB R (pOff (26+32*k) c i) with
 |false=>rfl
 |true=>
  obtain ⟨q,hq,e⟩:=List.any_eq_true.1 hb;have e:pO q=pOff (26+32*k) c i:=by simpa using e
  have hh:=jQ (k:=k) (g:=0) (kd:=0) c0 c5 hl hi;have:hk q=k:=by
   rw [<-hh.2];unfold hk;rw [e,hh.1]
  have:=H5 hq
  simp_all
def pW (h:HpS w0 w Y D H n f R) (B:H.av=none) {x:Int} (t0:0<=t) (t8:t<8) (x1:1<=x) (x60:x<=60) (kd:Nat) (k0:kd≠0) (k7:kd<=127) (hx:D.exe<900000000) (hR:R.length<1000000) (K:K1)
  (J:(∀k,k<n->(f k).2.1=t->(f k).1=clsN x->∀i:Nat,(i:Int)<perS (clsN x)->bV D R (26+32*k) (clsN x) i=true)->(∀j,j<n->¬(f j).1<0)->(∀j,j<n->emG D 26 f j=none)->∀w' Y',HSt w Y H w' Y'->HpS w0 w' Y' D H n f R->K (.tuple #[.int .u64 ((0:Nat):Int),.int .i64 4]) w')
  (E:∀D2 f2 D3 f3 p k i,uB D f R n H.avl t (clsN x) kd D2 f2 D3 f3 p k i->∀w' Y',HSt w Y H w' Y'->HpS w0 w' Y' D3 H n f3 (R++ [p])->K (.tuple #[.int .u64 (p:Int),.int .i64 0]) w'):
  ad prog 15 #[hpV H,.int .i64 t,.int .i64 x,.int .u8 (kd:Int)] w K:=by
 have S:=h.n4;have d:=qW x;have Q:=aJ d.1 d.2;have q0:=h.cell.1;have ltp:=h.ltp;have I:=h.erE;have hA:H.avl= []:=by
  rcases h.avm with ⟨_,b⟩|⟨r,a,_⟩
  ·exact b
  ·rw [B] at a;cases a
 have C:∀(w1:ab) (K:K1),ad prog 64 #[.int .i64 t,.int .i64 x,.int .u8 (kd:Int)] w1 K=K (.int .i64 0) w1:=λw1 K=>by
  rw [gD t x kd oM w1 K,if_pos ⟨t0,t8,x1,k0,k7⟩,if_pos x60]
 have F:=λ(w1:ab) (e:Ext w w1) (K:K1) hK=>DJ (h.gl.ext e) x x1 x60 K hK
 generalize clsN x=c at*;have o:∀(w1:ab) (Y1:Lay) (D2:DS) (f2:Idx) (k i p:Nat),HSt w Y H w1 Y1->HpS w0 w1 Y1 D2 H n f2 R->k<n->(i:Int)<perS c->(f2 k).1=c->(f2 k).2.1=t->bV D2 R (26+32*k) c i=false->(∀j,j<i->bV D2 R (26+32*k) c j=true)->D2.n=D.n->D2.exe<=D.exe+210->(Cln D.co->Cln D2.co)->((D2=D/\f2=f/\((26+32*k:Nat):Int)∉H.avl)\/((∃g,pH D 26 n f c t D2 f2 k g)/\cnR R k=0/\∀k,k<n->(f k).2.1=t->(f k).1=c->((26+32*k:Nat):Int)∉H.avl->∀i:Nat,(i:Int)<perS c->bV D R (26+32*k) c i=true))->p=ptrN (pOff (26+32*k) c i) (bG (wd D2 (26+32*k) (offN c i))) kd->tn K (hpV H) (.int .i64 c) (.int .i64 0) (.int .u64 (p:Int)) (.int .i64 ((26+32*k:Nat):Int)) w1:=by
  intro w1 Y1 D2 f2 k i p s1 h1 m hi hc ht hu l u z v P hp;have zr:=Bg h1.rg m (by rw [hc];exact d.1) (i:=i) (by rw [hc];exact hi);have:=aab h1 m (by rw [hc];exact d.1) (i:=i) (by rw [hc];exact hi) (by rw [hc];exact hu) kd k0 k7 (p:=p) (by rw [hc];exact hp) oM hR K (λw' Y' s h2=>E D2 f2 _ _ p k i ⟨m,d.1,d.2,hi,P,hc,ht,hu,l,hp,h1.rg,by rw [hc],by rw [hc,ht],zr.2.1.trans u,by have:=zr.2.2.1;omega,λhh=>zr.2.2.2 (v hh)⟩ w' Y' (s1.trans s) h2);rw [hc] at this;exact this
 refine tq _ _ _ _ _ _ ?_;unfold KE;refine eQ C q0 I ?_;refine F _ xZ _ ?_;refine zS0 ?_;refine DK h t0 d.1 kd k0 k7 _ (λhu w1 e1=> ?_) (λk m ht hc N i hi hu l w1 e1=> ?_)
 ·have h1:=h.ext e1;refine zS0 ?_;refine Vz h1 B t0 t8 d.1 d.2 oM _ (λa b w2 Y2 s2 h2=> ?_) (λD2 f2 k g ok z u v A w2 Y2 s2 h2=> ?_)
  ·refine zS4 @kN @jM.eq_1 @xm @tp.eq_1 ?_;exact J (λk hk ht hc=>hu k hk ht hc (by rw [hA];simp)) a b w2 Y2 ((HSt.of_ext Y H e1).trans s2) h2
  ·have L:=(HSt.of_ext Y H e1).trans s2;have q:(f2 k).1=c:=by rw [ok.fe,bu]
   have O:(f2 k).2.1=t:=by rw [ok.fe,bu]
   have y:=λK=>tW h2 ok.kn (by rw [q];exact d.1) kd k0 k7 K
   rw [q] at y;have M:bV D2 R (26+32*k) c 0=false:=by
    unfold bV;rw [ok.clean d.1 d.2,K8 d.1 d.2 (by have:=ok.kn;omega) (show ((0:Nat):Int)<perS c by omega) A];rfl
   refine zS0 ?_;refine y _ (λhn=> ?_) (λi hi G l w3 e3=> ?_)
   ·have:=hn 0 oM;rw [M] at this;cases this
   ·refine zS2 @kN @jM.eq_1 ?_;exact o w3 Y2 D2 f2 k i _ (L.ext e3) (h2.ext e3) ok.kn hi q O G l u z v (.inr ⟨⟨g,ok⟩,A,hu⟩) rfl
 ·refine zS2 @kN @jM.eq_1 ?_;exact o w1 Y D f k i _ (HSt.of_ext Y H e1) (h.ext e1) m hi hc ht hu l rfl oM id (.inl ⟨rfl,rfl,N⟩) rfl
end
def Bh (D:DS) (f:Idx) (n p k i:Nat):Prop:=k<n/\0<=(f k).1/\(i:Int)<perS (f k).1/\p=ptrN (pOff (26+32*k) (f k).1 i) (bG (wd D (26+32*k) (offN (f k).1 i))) (bK (wd D (26+32*k) (offN (f k).1 i)))/\bS (wd D (26+32*k) (offN (f k).1 i))=177
def Liv (D:DS) (f:Idx) (n p:Nat):Prop:=∃k i,Bh D f n p k i
def Yb {p:Nat} (h:p<72057594037927936):p=ptrN (pO p) (pG p) (pK p):=by unfold ptrN pO pG pK;omega
def Snd.live {D:DS} {l i:Nat} {c o:Int} (h:Snd D l c o) (c0:0<=c) (c5:c<5) (hi:(i:Int)<perS c) (a:bS (wd D l (offN c i))=177):isS (wd D l (offN c i))=true/\aS (wd D l 1) i=true/\bG (wd D l (offN c i))≠0/\bK (wd D l (offN c i))≠0/\bK (wd D l (offN c i))<=127:=by
 have hp:=aJ c0 c5;have hg:=h.gd i hi;rw [a] at hg;have:=J8 hg;refine ⟨h.sl i hi,?_,this⟩;rw [h.bit i oM,decide_eq_true hi,a];rfl
section
variable {w0 w w' w'':ab} {Y Y' Y'':Lay} {D D' D2 D3:DS} {H:HL} {n k i l p:Nat} {f f' f2 f3:Idx} {R R':List Nat} {c t:Int}
def Bh.sp (h:Bh D f n p k i) (hn:26+32*n<=4096) (rg:RgS D 26 n f):pO p=pOff (26+32*k) (f k).1 i/\hk p=k/\p≠0/\p<72057594037927936/\pG p=bG (wd D (26+32*k) (offN (f k).1 i))/\pK p=bK (wd D (26+32*k) (offN (f k).1 i))/\pK p≠0:=by
 obtain ⟨a1,a2,a3,a4,a5⟩:=h;have hc:=rg.cls a1;have hl:=(rg.sn k a1 a2).live a2 hc.1 a3 a5;have hh:=jQ (k:=k) (g:=bG (wd D (26+32*k) (offN (f k).1 i))) (kd:=bK (wd D (26+32*k) (offN (f k).1 i))) a2 hc.1 oM a3;have a:=dx (l:=26+32*k) oM a2 hc.1 a3;have hg:=cU (wd D (26+32*k) (offN (f k).1 i));have b:=Al (pOff (26+32*k) (f k).1 i) (bG (wd D (26+32*k) (offN (f k).1 i))) (bK (wd D (26+32*k) (offN (f k).1 i))) a.2.1 hg hl.2.2.2.2 a.2.2 a.1;have h1:=Ak (pOff (26+32*k) (f k).1 i) (bG (wd D (26+32*k) (offN (f k).1 i))) (bK (wd D (26+32*k) (offN (f k).1 i))) a.2.1 hg;have h2:=G8 (pOff (26+32*k) (f k).1 i) (bG (wd D (26+32*k) (offN (f k).1 i))) (bK (wd D (26+32*k) (offN (f k).1 i))) a.2.1 hg oM;rw [<-a4] at hh b h1 h2;exact ⟨hh.1,hh.2,b.1,b.2,h1,h2,by rw [h2];exact hl.2.2.2.1⟩
def je {k i n:Nat} {c:Int} (c0:0<=c) (c5:c<5) (hi:(i:Int)<perS c):1664<=pOff (26+32*k) c i/\(pOff (26+32*k) c i-1664)/2048=k:=by
 have a:=bF c0 c5 (show 0<=(i:Int) by omega) hi;have hb:=aK c0 c5 hi;have hw:=aW c0 c5;unfold pOff;omega
def HpG.home {Q:Nat->Prop} (h:HpG Q w0 w Y D H n f R) {x:Nat} (hx:x<18446744073709551616):∀(w1:ab) (K:K1),Ext w w1->ad prog 74 #[hpV H,.int .u64 (x:Int)] w1 K=K (if 1664<=x/\(x-1664)/2048<n then .tuple #[.int .i64 ((26+32*((x-1664)/2048):Nat):Int),.bool true] else .tuple #[.int .i64 0,.bool false]) w1:=λw1 K e=>by
 have hn:=h.n4;exact Vu ((h.ext e).cell.2.1) ((h.ext e).cell.2.2.1) oM hx K
def Bi (h:HpS w0 w Y D H n f R) (g:k<n) (h0:0<=(f k).1) (hi:(i:Int)<perS (f k).1) (hp:p<18446744073709551616) (o:pO p=pOff (26+32*k) (f k).1 i) (K:K1)
  (hK:∀w',Ext w w'->K (.tuple #[.int .i64 ((26+32*k:Nat):Int),.int .i64 (i:Int),.int .i64 (f k).1]) w'):
  ad prog 84 #[hpV H,.int .u64 (p:Int)] w K:=by
 have B:=h.n4;have hc:=h.cls g;have m:=je (k:=k) (n:=n) h0 hc.1 hi;have hG:=h.gl;have s:pO p<18446744073709551616:=by unfold pO;omega
 have t:=h.home s;rw [o,if_pos ⟨m.1,by rw [m.2];exact g⟩,m.2] at t;have b:∀(w1:ab) (K:K1),ad prog 20 #[.int .u64 (p:Int)] w1 K=K (.int .u64 ((pOff (26+32*k) (f k).1 i:Nat):Int)) w1:=λw1 K=>by rw [eU p w1 K hp,o]
 have x:=h.open g h0;have C:=bF h0 hc.1 (show 0<=(i:Int) by omega) hi;have hb:=aK h0 hc.1 hi;have q0:=h.cell.1;have ltp:=h.ltp;have e1:pOff (26+32*k) (f k).1 i-(26+32*k)*64=offN (f k).1 i*8+8:=by unfold pOff;omega
 have e2:(offN (f k).1 i*8+8)/8=offN (f k).1 i+1:=oM;have A:(26+32*k)*64<=pOff (26+32*k) (f k).1 i:=by unfold pOff;omega
 have y:pOff (26+32*k) (f k).1 i<18446744073709551616:=by rw [<-o];exact s
 have z:26+32*k<=4096:=oM;have q:=λ(w1:ab) (e:Ext w w1) (K:K1) d hyes=>Th (w:=w1) (hG.ext e) h0 hc.1 (offN (f k).1 i+1) (by have:=bF h0 hc.1 (show 0<=(i:Int) by omega) hi;have:=aW h0 hc.1;omega) K d hyes
 have v:∀j:Nat,offN (f k).1 i+1=offN (f k).1 j+1->j=i:=λj hj=>jI h0 hc.1 oM
 generalize (f k).1=c at*;generalize (f k).2.1=oo at*;generalize gX (wd D (26+32*k) 0)=gg at*;generalize 26+32*k=l at*;generalize pOff l c i=po at*;generalize hof:offN c i=of at*;refine UZ _ _ _ _ ?_;unfold Z2;refine eQ b t q0 ?_;refine x _ _ xZ (λw1 r=> ?_);have hN:=af.new w1 [Value.iface 31 (.pointer (some ⟨Y.tb 0,0,none⟩)),.int .i64 (l:Int),.int .i64 c,.int .i64 oo,.int .u16 (gg:Int)] 134;have u:∀(w2:ab) (K:K1),ad prog 136 #[chV Y l c oo gg] w2 K=K (.int .i64 c) (w2.alloc (chO Y l c oo gg)):=λw2 K=>Aa K
 have a:=chD hN;have d0:=a.1;have d1:=a.2.1;have d2:=a.2.2.1;have d3:=a.2.2.2.1;have d4:=a.2.2.2.2;refine rN b u e1 e2 ?_;refine q _ (Ext.trans r xZ) _ (λd=>(d i hi (by rw [hof])).elim) (λj hj he=> ?_);have:=v j he;subst this;refine gG u ?_;exact hK _ (r.trans xZ)
end
section
variable {w0 w w' w'':ab} {Y Y' Y'':Lay} {D D' D2 D3:DS} {H:HL} {n k i l p:Nat} {f f' f2 f3:Idx} {R R':List Nat} {c t:Int}
def Bh.at_ (h:Bh D f n p k i) (hn:26+32*n<=4096) (rg:RgS D 26 n f):1664<=pO p/\(pO p-1664)/2048=k/\p≠0/\p<72057594037927936/\pO p=pOff (26+32*k) (f k).1 i:=by
 have a:=h.sp hn rg;have b:=je (k:=k) (n:=n) h.2.1 (rg.cls h.1).1 h.2.2.1;rw [<-a.1] at b;exact ⟨b.1,b.2,a.2.2.1,a.2.2.2.1,a.1⟩
def tX {k i j:Nat} {c:Int} (c0:0<=c) (c5:c<5) (h:pOff l c i=pOff l c j):i=j:=by
 unfold pOff at h;exact jI c0 c5 oM
def ng (h:HpS w0 w Y D H n f R) (hp:p<18446744073709551616) (kd:Nat) (J:kd<256) (K:K1)
  (hL:Liv D f n p->∀w',Ext w w'->K (.int .i64 (if kd=0\/kd=pK p then 0 else 13)) w')
  (hN:¬Liv D f n p->∀e:Int,e≠0->(Rsv D f n p->e=12)->∀w',Ext w w'->K (.int .i64 e) w'):
  ad prog 21 #[hpV H,.int .u64 (p:Int),.int .u8 (kd:Int)] w K:=by
 have N:=h.n4;have hG:=h.gl;have I:pO p<18446744073709551616:=by unfold pO;omega
 have o:=h.home I;have q:=h.erE;have q0:=h.cell.1;have ltp:=h.ltp;have m:∀(w1:ab) (K:K1),ad prog 20 #[.int .u64 (p:Int)] w1 K=K (.int .u64 ((pO p:Nat):Int)) w1:=λw1 K=>eU p w1 K hp
 have g:∀(w1:ab) (K:K1),ad prog 73 #[.int .u64 (p:Int)] w1 K=K (.bool (decide (p=0))) w1:=λw1 K=>jJ p w1 K hp
 have u:∀(w1:ab) (K:K1),ad prog 60 #[.int .u64 (p:Int)] w1 K=K (.int .u8 ((pK p:Nat):Int)) w1:=λw1 K=>ja p w1 K hp
 have L:pK p<256:=by unfold pK;omega
 have rz:Rsv D f n p->1664<=pO p/\(pO p-1664)/2048<n/\p≠0/\p<72057594037927936/\∃k i:Nat,(pO p-1664)/2048=k/\0<=(f k).1/\(i:Int)<perS (f k).1/\pO p=pOff (26+32*k) (f k).1 i/\bS (wd D (26+32*k) (offN (f k).1 i))=176:=λr=>by
  have a:=r.kn oM h.rg;obtain ⟨a1,a2,a3,a4,i,a5,a6,a7⟩:=a;have b:=je (k:=hk p) (n:=n) a2 (h.cls a1).1 a5;rw [<-a6] at b;exact ⟨b.1,by omega,a3,a4,_,i,b.2,a2,a5,a6,a7⟩
 by_cases p0:p=0
 ·have y:∀(w1:ab) (K:K1),ad prog 73 #[.int .u64 (p:Int)] w1 K=K (.bool true) w1:=λw1 K=>by rw [g,decide_eq_true p0]
  refine jN _ _ _ _ _ ?_;unfold xn
  (repeat' first|refine ak (λ_=> ?_) (λ_=> ?_)|refine am ?_ ?_|refine gG y ?_|exact BW y|fail)
  exact hN (λ⟨k,i,hl⟩=>(hl.at_ oM h.rg).2.2.1 p0) 1 oM (λr=>((rz r).2.2.1 p0).elim) _ xZ
 by_cases hin:1664<=pO p/\(pO p-1664)/2048<n
 ·rw [if_pos hin] at o;by_cases h56:p<72057594037927936
  ·have hd0:p/72057594037927936=0:=oM;obtain ⟨k,F⟩:∃k,(pO p-1664)/2048=k:=⟨_,rfl⟩;have x:k<n:=oM;rw [F] at o;have M:26+32*k<=4096:=oM;by_cases h0:0<=(f k).1
   ·have hc:=h.cls x;have z:=h.open x h0;have E:=λ(w1:ab) (e:Ext w w1) (K:K1) a1 a2 a3 a4 a5=>XJ ((h.cx x h0).ext e) (h.er 0 oM) (f k).2.1 (gX (wd D (26+32*k) 0)) p hp K a1 a2 a3 a4 a5
    have nl:(∀i:Nat,(i:Int)<perS (f k).1->pO p≠pOff (26+32*k) (f k).1 i)->¬Liv D f n p/\¬Rsv D f n p:=λC=>⟨λ⟨k',i',hl⟩=>by
      have a:=hl.at_ oM h.rg;have e:k'=k:=oM;subst e;exact C i' hl.2.2.1 a.2.2.2.2,λr=>by
      obtain ⟨_,_,_,_,k',i',b1,b2,b3,b4,_⟩:=rz r;have e:k'=k:=oM;subst e;exact C i' b3 b4⟩
    have B:∀i:Nat,(i:Int)<perS (f k).1->pO p=pOff (26+32*k) (f k).1 i->¬(sT D (26+32*k) (f k).1 i (pG p)/\bK (wd D (26+32*k) (offN (f k).1 i))=pK p)->¬Liv D f n p:=λi hi j A=>λ⟨k',i',hl⟩=>by
     have a:=hl.at_ oM h.rg;have e:k'=k:=oM;subst e;have e:i=i':=tX (k:=0) h0 hc.1 (j.symm.trans a.2.2.2.2);subst e;have s:=hl.sp oM h.rg;have v:=(h.rg.sn k' x h0).live h0 hc.1 hi hl.2.2.2.2;exact A ⟨⟨v.1,v.2.1,hl.2.2.2.2,s.2.2.2.2.1.symm⟩,s.2.2.2.2.2.1.symm⟩
    have rv:∀i:Nat,(i:Int)<perS (f k).1->pO p=pOff (26+32*k) (f k).1 i->sT D (26+32*k) (f k).1 i (pG p)->¬Rsv D f n p:=λi hi j hl r=>by
     obtain ⟨_,_,_,_,k',i',b1,b2,b3,b4,b5⟩:=rz r;have e:k'=k:=oM;subst e;have e:i=i':=tX (k:=0) h0 hc.1 (j.symm.trans b4);subst e;have:=hl.2.2.1;omega
    have lv:∀i:Nat,(i:Int)<perS (f k).1->pO p=pOff (26+32*k) (f k).1 i->sT D (26+32*k) (f k).1 i (pG p)->bK (wd D (26+32*k) (offN (f k).1 i))=pK p->Liv D f n p:=λi hi j hl hk=>by
     refine ⟨k,i,x,h0,hi,?_,hl.2.2.1⟩;rw [hk,hl.2.2.2,<-j];exact Yb h56
    generalize hll:26+32*k=l at*;generalize (f k).1=c at*;generalize (f k).2.1=oo at*;generalize gX (wd D l 0)=gg at*;refine jN _ _ _ _ _ ?_;unfold xn
    (repeat' first|refine ak (λ_=> ?_) (λ_=> ?_)|refine am ?_ ?_|refine fp g p0 q q0 m o hd0 hd0 ?_|exact BY g p0 q q0 m o hd0 hd0|fail)
    refine z _ _ xZ (λw1 d=> ?_);have h1:=(h.ext d).cell.1;have G:=(h.ext d).ltp;refine fC h1 q ?_;refine E _ (d.trans xZ) _ (λhz=>(p0 hz).elim) (λ_ hr w2 e2=> ?_) (λ_ _ i hi j A w2 e2=> ?_) (λ_ _ i hi j hl hk w2 e2=> ?_) (λ_ _ i hi j hl hk w2 e2=> ?_)
    ·have hr:∀k:Nat,(k:Int)<perS c->pO p≠pOff l c k:=hr.resolve_left oM;refine F5 ?_;exact hN (nl hr).1 2 oM (λr=>((nl hr).2 r).elim) _ (d.trans (Ext.trans xZ e2))
    ·refine F5 ?_;exact hN (B i hi j (λa=>A a.1)) 12 oM (λ_=>rfl) _ (d.trans (Ext.trans xZ e2))
    ·refine F5 ?_;exact hN (B i hi j (λa=>hk a.2)) 13 oM (λr=>(rv i hi j hl r).elim) _ (d.trans (Ext.trans xZ e2))
    ·have t:=hL (lv i hi j hl hk);by_cases t1:kd=0
     ·rw [if_pos (.inl t1)] at t
      (repeat' first|refine ak (λ_=> ?_) (λ_=> ?_)|refine am ?_ ?_|refine fC t1 u ?_|exact F6 t1 u|fail)
      exact t _ (d.trans (Ext.trans xZ e2))
     ·by_cases t2:kd=pK p
      ·rw [if_pos (.inr t2)] at t
       (repeat' first|refine ak (λ_=> ?_) (λ_=> ?_)|refine am ?_ ?_|refine eQ t1 u t2 ?_|exact BX t1 u t2|fail)
       all_goals exact t _ (d.trans (Ext.trans xZ e2))
      ·rw [if_neg (λa=>a.elim t1 t2)] at t
       (repeat' first|refine ak (λ_=> ?_) (λ_=> ?_)|refine am ?_ ?_|refine eQ t1 u t2 ?_|exact BX t1 u t2|fail)
       exact t _ (d.trans (Ext.trans xZ e2))
   ·have z:=h.openZ x oM;have nl:¬Liv D f n p:=λ⟨k',i',hl⟩=>by
     have a:=hl.at_ oM h.rg;have e:k'=k:=oM;subst e;exact h0 hl.2.1
    have nr:¬Rsv D f n p:=λr=>by
     obtain ⟨_,_,_,_,k',i',b1,b2,_⟩:=rz r;have e:k'=k:=oM;subst e;exact h0 b2
    generalize hll:26+32*k=l at*;refine jN _ _ _ _ _ ?_;unfold xn
    (repeat' first|refine ak (λ_=> ?_) (λ_=> ?_)|refine am ?_ ?_|refine fp g p0 q q0 m o hd0 hd0 ?_|exact BY g p0 q q0 m o hd0 hd0|fail)
    refine z _ _ xZ (λw1 d=> ?_);have h1:=(h.ext d).cell.1;have G:=(h.ext d).ltp;refine fC h1 q ?_;exact hN nl 2 oM (λr=>(nr r).elim) _ (d.trans xZ)
  ·have hd0:¬p/72057594037927936=0:=oM;generalize 26+32*((pO p-1664)/2048)=l at*;refine jN _ _ _ _ _ ?_;unfold xn
   (repeat' first|refine ak (λ_=> ?_) (λ_=> ?_)|refine am ?_ ?_|refine fp g p0 q q0 m o hd0 hd0 ?_|exact BY g p0 q q0 m o hd0 hd0|fail)
   exact hN (λ⟨k,i,hl⟩=>h56 (hl.at_ oM h.rg).2.2.2.1) 2 oM (λr=>(h56 (rz r).2.2.2.1).elim) _ xZ
 ·rw [if_neg hin] at o;refine jN _ _ _ _ _ ?_;unfold xn
  (repeat' first|refine ak (λ_=> ?_) (λ_=> ?_)|refine am ?_ ?_|refine dY g p0 q q0 m o ?_|exact Xp g p0 q q0 m o|fail)
  exact hN (λ⟨k,i,hl⟩=>by
   have a:=hl.at_ oM h.rg;exact hin ⟨a.1,by rw [a.2.1];exact hl.1⟩) 2 oM (λr=>(hin ⟨(rz r).1,(rz r).2.1⟩).elim) _ xZ
def DO (h:HpS w0 w Y D H n f R) (hr:∀p∈R,p<18446744073709551616) (s:k<n) (h0:0<=(f k).1) (hi:(i:Int)<perS (f k).1) (hp:p<18446744073709551616) (p0:p≠0) (x:pO p=pOff (26+32*k) (f k).1 i) (hq:p∈R\/Liv D f n p) (K:K1)
  (hK:∀w',Ext w w'->K (.tuple #[.int .i64 (wordsS (f k).1),.int .i64 0]) w'):
  ad prog 29 #[hpV H,.int .u64 (p:Int)] w K:=by
 have g:=h.erE;have q0:=h.cell.1;have ltp:=h.ltp;have hG:=h.gl;have m:∀(w1:ab) (K:K1),ad prog 73 #[.int .u64 (p:Int)] w1 K=K (.bool (decide (p=0))) w1:=λw1 K=>jJ p w1 K hp
 have t:=λ(w1:ab) (e:Ext w w1) (K:K1) hK=>k_holds (h.ext e) hr p hp K hK
 have r:=λ(w1:ab) (e:Ext w w1) (K:K1) (a:Liv D f n p->∀w',Ext w1 w'->K (.int .i64 0) w') b=>ng (h.ext e) hp 0 oM K (λhl w' e'=>by rw [if_pos (.inl rfl)];exact a hl w' e') b
 have l:=λ(w1:ab) (e:Ext w w1) (K:K1) hK=>Bi (h.ext e) s h0 hi hp x K hK
 have o:∀(w1:ab) (K:K1),Ext w w1->ad prog 85 #[.int .i64 (f k).1] w1 K=K (.int .i64 (wordsS (f k).1)) w1:=λw1 K e=>qM _ w1 K (hG.ext e)
 generalize hcc:(f k).1=c at l o hK;refine Ue _ _ _ _ ?_;unfold ZI
 (repeat' first|refine ak (λ_=> ?_) (λ_=> ?_)|refine am ?_ ?_|refine rN m p0 g q0 ?_|exact Xo m p0 g q0|fail)
 refine t _ xZ _ (λw1 e1=> ?_);have j:Ext w w1:=Ext.trans xZ e1;by_cases t1:p∈R
 ·(repeat' first|refine ak (λ_=> ?_) (λ_=> ?_)|refine am ?_ ?_|refine gG t1 ?_|exact BW t1|fail)
  rw [xp];unfold tr;refine zS0 ?_;refine l _ (j.trans xZ) _ (λw2 e2=> ?_);have d:Ext w w2:=j.trans (Ext.trans xZ e2);have u:=(h.ext d).cell.1;have y:=(h.ext d).ltp;refine eQ g u o ?_;exact hK _ (d.trans xZ)
 ·have hl:=hq.resolve_left t1
  (repeat' first|refine ak (λ_=> ?_) (λ_=> ?_)|refine am ?_ ?_|refine gG t1 ?_|exact BW t1|fail)
  refine r _ (j.trans xZ) _ (λ_ w2 e2=> ?_) (λnl=>(nl hl).elim);have d:Ext w w2:=j.trans (Ext.trans xZ e2);refine F5 ?_;rw [xp];unfold tr;refine zS0 ?_;refine l _ (d.trans xZ) _ (λw3 e3=> ?_);have q:Ext w w3:=d.trans (Ext.trans xZ e3);have v:=(h.ext q).cell.1;have z:=(h.ext q).ltp;refine eQ g v o ?_;exact hK _ (q.trans xZ)
end
def rmR (R:List Nat) (p:Nat):List Nat:=R.filter λq=> !decide (q=p)
def FS (f f2:Idx):Prop:=∀k,(f2 k).1=(f k).1/\(f2 k).2.1=(f k).2.1
def FS.refl (f:Idx):FS f f:=λ_=>⟨rfl,rfl⟩
def FS.trans {f f2 f3:Idx} (h:FS f f2) (k:FS f2 f3):FS f f3:=λj=>⟨(k j).1.trans (h j).1,(k j).2.trans (h j).2⟩
section
variable {w0 w w' w'':ab} {Y Y' Y'':Lay} {D D' D2 D3:DS} {H:HL} {n k i l p q:Nat} {f f' f2 f3:Idx} {R R':List Nat} {c t:Int}
def FS.liv (h:FS f f2):Liv D f2 n p↔Liv D f n p:=by
 have e:∀k,(f2 k).1=(f k).1:=λk=>(h k).1
 unfold Liv Bh;constructor<;>rintro ⟨k,i,h⟩<;>exact ⟨k,i,by simpa only [e] using h⟩
def FS.rsv (h:FS f f2):Rsv D f2 n p↔Rsv D f n p:=by
 have e:∀k,(f2 k).1=(f k).1:=λk=>(h k).1
 unfold Rsv;constructor<;>rintro ⟨k,i,kd,h⟩<;>exact ⟨k,i,kd,by simpa only [e] using h⟩
def abA:q∈rmR R p↔q∈R/\q≠p:=by unfold rmR;simp
def VC (h:p∉R):rmR R p=R:=List.filter_eq_self.2 λq hq=>by
 have:q≠p:=λe=>h (e▸hq)
 simp [this]
def Bj:∀{R:List Nat},(R.map pO).Nodup->∀{p q:Nat},p∈R->q∈R->pO p=pO q->p=q:=by
 intro R
 induction R with
 |nil=>intro _ p q h;cases h
 |cons x L ih=>
  intro hn a b ha hb e;rw [cq,cn] at hn;rcases List.mem_cons.1 ha with h1|ha
  ·rcases List.mem_cons.1 hb with h2|hb
   ·rw [h1,h2]
   ·exact (hn.1 (List.mem_map.2 ⟨b,hb,by rw [<-e,h1]⟩)).elim
  ·rcases List.mem_cons.1 hb with h2|hb
   ·exact (hn.1 (List.mem_map.2 ⟨a,ha,by rw [e,h2]⟩)).elim
   ·exact ih hn.2 ha hb e
def acD (hn:(R.map pO).Nodup) (hp:p∈R):AG (rsL R) (pO p:Int)=rsL (rmR R p):=by
 unfold AG rsL rmR;rw [List.filter_map]
 congr 1
 refine gj λq hq=> ?_
 simp only [Function.comp];have:((pO q:Int)=(pO p:Int))↔q=p:=by
  constructor
  ·intro e;exact Bj hn hq hp oM
  ·rintro rfl;rfl
 rw [decide_eq_decide.2 this]
def acE:∀{R:List Nat},R.Nodup->p∈R->∀j,cnR R j=cnR (rmR R p) j+if hk p=j then 1 else 0:=by
 intro R
 induction R with
 |nil=>intro _ h;cases h
 |cons x R ih=>
  intro hn hp j;rw [cn] at hn;by_cases e:x=p
  ·subst e;have e1:rmR (x::R) x=R:=by
    have:=VC hn.1;unfold rmR at this ⊢;rw [dm];simp [this]
   rw [e1];unfold cnR;rw [dm];by_cases e2:hk x=j
   ·simp [e2]
   ·simp [e2]
  ·have a:p∈R:=by
    rcases List.mem_cons.1 hp with h|h
    ·exact absurd h.symm e
    ·exact h
   have i:=ih hn.2 a j;have e1:rmR (x::R) p=x::rmR R p:=by unfold rmR;rw [dm];simp [e]
   rw [e1];unfold cnR at i ⊢;rw [dm,dm];by_cases e2:hk x=j
   ·simp only [e2,decide_true,if_true,eg];omega
   ·simp only [e2,decide_false,f9,if_false];exact i
def acF (hn:(R.map pO).Nodup):((rmR R p).map pO).Nodup:=List.Nodup.sublist (List.Sublist.map _ hZ) hn
def acG (h:(R.map pO).Nodup):R.Nodup:=by
 induction R with
 |nil=>simp
 |cons x L ih=>
  rw [cq,cn] at h;rw [cn];exact ⟨λhm=>h.1 (List.mem_map.2 ⟨x,hm,rfl⟩),ih h.2⟩
def Plc (f:Idx) (n p:Nat):Prop:=hk p<n/\0<=(f (hk p)).1/\p≠0/\p<72057594037927936/\∃i:Nat,(i:Int)<perS (f (hk p)).1/\pO p=pOff (26+32*hk p) (f (hk p)).1 i
def Rsv.plc (h:Rsv D f n p) (hn:26+32*n<=4096) (rg:RgS D 26 n f):Plc f n p:=by
 obtain ⟨a,b,c,d,i,e,g,_⟩:=h.kn hn rg;exact ⟨a,b,c,d,i,e,g⟩
def FS.plc (h:FS f f2) (hp:Plc f n p):Plc f2 n p:=by
 have e:(f2 (hk p)).1=(f (hk p)).1:=(h _).1;unfold Plc at hp ⊢;rw [e];exact hp
def HpG.mapQ {Q Q':Nat->Prop} (h:HpG Q w0 w Y D H n f R) (hq:∀p∈R,Q p->Q' p):HpG Q' w0 w Y D H n f R:=
 ⟨h.ar,h.rg,h.hp,h.lg,h.rs,h.hd,h.nd,λp hp=>hq p hp (h.rv p hp),h.ho,h.er,h.idl,h.avm,h.sep,h.dif,h.dt⟩
def Pj {Q:Nat->Prop} (h:HpG Q w0 w Y D H n f R) (a6:Plc f n p) (hp:p∈R) (hR:R.length<1000000) (K:K1)
  (hK:∀w' f2,FS f f2->HSt w Y H w' Y->HpG Q w0 w' Y D H n f2 (rmR R p)->K (.tuple #[]) w'):
  ad prog 100 #[hpV H,.int .u64 (p:Int)] w K:=by
 have b6:=h.n4;obtain ⟨k1,c0,p0,b5,i,hi,J⟩:=a6;obtain ⟨k,r⟩:∃k,hk p=k:=⟨_,rfl⟩;rw [r] at k1 c0 hi J;have hc:=h.cls k1;have m:=je (k:=k) (n:=n) c0 hc.1 hi;rw [<-J] at m;obtain ⟨L,hm,hL⟩:=h.hd;have d:=h.dif;have sp:=h.sep;have q4:=h.cell.2.2.2.2.1;have ltp:=h.ltp;have y:=acE (acG h.nd) hp;have b7:cnR R k<=R.length:=by unfold cnR;exact bv _ _
 have V:=y k;rw [r,if_pos rfl] at V;have U:(bz L ((26+32*k:Nat):Int)).getD (.int .i64 0)= .int .i64 (cnR R k:Int):=by
  rw [hL k k1,if_neg oM];rfl
 have hx:pO p<18446744073709551616:=by unfold pO;omega
 have g:∀(w1:ab) (K:K1),ad prog 20 #[.int .u64 (p:Int)] w1 K=K (.int .u64 ((pO p:Nat):Int)) w1:=λw1 K=>eU p w1 K oM
 have b0:∀(w1:ab) (K:K1),w1.cell? ⟨H.p,1,none⟩=some (.int .i64 ((26:Nat):Int))->w1.cell? ⟨H.p,2,none⟩=some (.int .i64 ((32*n:Nat):Int))->ad prog 74 #[hpV H,.int .u64 ((pO p:Nat):Int)] w1 K=K (.tuple #[.int .i64 ((26+32*k:Nat):Int),.bool true]) w1:=λw1 K a b=>by
  rw [Vu a b oM hx K,if_pos ⟨m.1,by rw [m.2];exact k1⟩,m.2]
 have fk:¬(f k).1<0:=oM;have b1:=acF (p:=p) h.nd;have a3:∀(f2:Idx),FS f f2->∀q∈rmR R p,Q q:=λf2 fs q hq=>h.rv q (abA.1 hq).1
 have C:∀w' f2 L',FS f f2->Frm (λx=>Y.F x\/x=H.rm\/x=H.hm\/x=H.b) w w'->ArS w0 w' Y D H.S H.b H.o H.cp 26 n f2->RgS D 26 n f2->bj .u64 w' H.rm (rsL (rmR R p))->bj .i64 w' H.hm L'->(∀j,j<n->bz L' ((26+32*j:Nat):Int)=if cnR (rmR R p) j=0 then none else some (.int .i64 (cnR (rmR R p) j:Int)))->(∀j,j<n->(f2 j).2.2=decide (cnR (rmR R p) j≠0))->K (.tuple #[]) w':=λw' f2 L' fs fr ar rg mr mh a8 ho=>hK w' f2 fs (HSt.of_frm Y fr) (h.put fr ar rg mr ⟨L',mh,a8⟩ b1 (a3 f2 fs) ho)
 have e1:(cnR R k:Int)-1=((cnR (rmR R p) k:Nat):Int):=oM;have a0:=acD h.nd hp;refine OY _ _ _ _ ?_;unfold U7
 (repeat' first|refine ak (λ_=> ?_) (λ_=> ?_)|refine am ?_ ?_|refine fC q4 g ?_|exact F6 q4 g|fail)
 refine CJ rfl mTr (h.rs.ext xZ) _ (λw2 m2 g2=> ?_);rw [a0] at m2;have v:Frm (λx=>x=H.rm) w w2:=(Frm.of_ext (show Ext w w.drew from Ext.drew (Ext.refl _))).trans g2 (λx _ e=>e);have c:=h.hp.frm v d.1;have a1:w2.cell? ⟨H.p,1,none⟩=some (.int .i64 ((26:Nat):Int)):=c.cell (i:=1) oM;have a2:w2.cell? ⟨H.p,2,none⟩=some (.int .i64 ((32*n:Nat):Int)):=c.cell (i:=2) oM;have M:=λK=>b0 w2 K a1 a2
 have q5:w2.cell? ⟨H.p,5,none⟩=some (.map (some H.hm)):=c.cell (i:=5) oM;have E:=hm.frm v (λe=>d.2.2.1 e.symm);have N:∀(w3:ab) (K:K1),Ext w2 w3->ev prog (Instr.lookup 109 (.map (some H.hm)) (.int .i64 ((26+32*k:Nat):Int)) false) w3 K=K (.int .i64 (cnR R k:Int)) w3:=λw3 K e=>by rw [di mTh (E.ext e),U]
 have b4:=c.lt;refine dY g M q5 N e1 e1 ?_;refine jc mTh (E.ext xZ) _ _ (λw3 m3 g3=> ?_);have u:Frm (λx=>x=H.rm\/x=H.hm) w w3:=(v.mono (λx hx=> .inl hx)).trans g3 (λx _ e=> .inr e);have s:=c.frm g3 d.2.1;have G:=m2.frm g3 d.2.2.1;have a9:=h.ar.frmH u (λx hx=>hx.elim (λe=>sp x (.inr (.inl e))) (λe=>sp x (.inr (.inr (.inl e)))));have B:w3.cell? ⟨H.p,5,none⟩=some (.map (some H.hm)):=s.cell (i:=5) oM;have b2:=s.lt;have t:∀(w4:ab) (K:K1),Ext w3 w4->ev prog (Instr.lookup 109 (.map (some H.hm)) (.int .i64 ((26+32*k:Nat):Int)) false) w4 K=K (.int .i64 ((cnR (rmR R p) k:Nat):Int)) w4:=λw4 K e=>by rw [di mTh (m3.ext e),jR,if_pos rfl];rfl
 have l:∀j,j<n->j≠k->cnR (rmR R p) j=cnR R j:=λj _ hj=>by
  have:=y j;rw [r,if_neg (λe=>hj e.symm)] at this;omega
 by_cases hz:cnR (rmR R p) k=0
 ·have I:((cnR (rmR R p) k:Nat):Int)<=0:=oM;refine rN B t hz @Int.le_refl ?_;refine CJ rfl mTh (m3.ext xZ) _ (λw4 m4 g4=> ?_);have A:Frm (λx=>x=H.rm\/x=H.hm) w w4:=u.trans g4 (λx _ e=> .inr e);have z:=s.frm g4 d.2.1;have O:=G.frm g4 d.2.2.1;have X:=h.ar.frmH A (λx hx=>hx.elim (λe=>sp x (.inr (.inl e))) (λe=>sp x (.inr (.inr (.inl e)))));have a7:w4.cell? ⟨H.p,3,none⟩=some (stV H.S):=z.cell (i:=3) oM;have b3:=z.lt;have Z:=λK h8 hK=>H0 X k1 false K h8 hK
  refine gG a7 ?_;refine Z _ (λe=>absurd e fk) (λ_ w5 a5 W=> ?_);have fs:FS f (upF f k ((f k).1,(f k).2.1,false)):=λj=>by
   by_cases e:j=k
   ·subst e;rw [bu];exact ⟨rfl,rfl⟩
   ·rw [bO _ _ e];exact ⟨rfl,rfl⟩
  refine C w5 _ _ fs ((A.mono (λx hx=> .inr (hx.elim .inl (λe=> .inr (.inl e))))).trans a5.frm (λx _ hx=>hx.elim .inl (λe=> .inr (.inr (.inr e))))) W ?_ (O.frm a5.frm ?_) (m4.frm a5.frm ?_) (λj hj=> ?_) (λj hj=> ?_)
  ·have ha:=h.rg.ag k k1;exact h.rg.upd h.rg.on h.rg.gd rfl k1 (λ_ _ _ _ _=>rfl) ⟨ha.1,ha.2.1.symm,ha.2.2.symm⟩ (λa4=>h.rg.sn k k1 a4) _
  ·exact λhf=>hf.elim (sp _ (.inr (.inl rfl))).2.1 (sp _ (.inr (.inl rfl))).2.2.1
  ·exact λhf=>hf.elim (sp _ (.inr (.inr (.inl rfl)))).2.1 (sp _ (.inr (.inr (.inl rfl)))).2.2.1
  ·rw [VA,jR];by_cases e:j=k
   ·subst e;rw [if_pos rfl,if_pos hz]
   ·have ne:¬((26+32*j:Nat):Int)=((26+32*k:Nat):Int):=oM;rw [if_neg ne,if_neg ne,hL j hj,l j hj e]
  ·by_cases e:j=k
   ·subst e;rw [bu,hz];rfl
   ·rw [bO _ _ e,l j hj e];exact h.ho j hj
 ·have I:¬((cnR (rmR R p) k:Nat):Int)<=0:=oM;have P:Frm (λx=>Y.F x\/x=H.rm\/x=H.hm\/x=H.b) w w3:=u.mono (λx hx=> .inr (hx.elim .inl (λe=> .inr (.inl e))));have T:∀w',Ext w3 w'->K (.tuple #[]) w':=λw' e=>C w' f _ (FS.refl f) (P.ext e) (a9.ext e) h.rg (G.ext e) (m3.ext e) (λj hj=>by
   rw [jR];by_cases e:j=k
   ·subst e;rw [if_pos rfl,if_neg hz]
   ·have ne:¬((26+32*j:Nat):Int)=((26+32*k:Nat):Int):=oM;rw [if_neg ne,hL j hj,l j hj e]) (λj hj=>by
   rw [h.ho j hj];by_cases e:j=k
   ·subst e;rw [decide_eq_decide];omega
   ·rw [l j hj e])
  refine eQ B t I ?_;exact T _ xZ
def H6 (h:HpS w0 w Y D H n f R) (K:K1) (hK:∀w',Ext w w'->K (.int .i64 (R.length:Int)) w'):
  ad prog 37 #[hpV H] w K:=by
 have q4:=h.cell.2.2.2.2.1;have ltp:=h.ltp;refine Ul _ _ _ ?_;unfold ZK;refine zS1 q4 ?_;refine CK rfl mTr (h.rs.ext xZ) ?_;have e:(rsL R).length=R.length:=by unfold rsL;rw [dk]
 rw [e];exact hK _ xZ
end
end Go.Proofs.YtmpehclnnjgmcaaGreatDoor
namespace Go.Sh
open Go
abbrev KD:=List Nat->KF
def mkD (r:Nat):Deferred:={target:= .collected r,args:= #[]}
def exM (id:Nat) (k:KD) (e:Nat->KD) (j:Nat):KD:=
 match Nat.beq j id with
 |true=>k
 |false=>e j
def aac (k r:ab->Prop) (j:Option Code) (w:ab):Prop:=
 match j with
 |none=>k w
 |some .ret=>r w
 |_=>False
def rsK (K:K1):List Nat->K1
 | []=>K
 |r::rs=>λv w=>w.heap[r]? =some (.deferred (some []))/\∀w',Frm (λx=>x=r) w w'->rsK K rs v w'
abbrev H7 (fn:FuncId) (ps:Array Tmp) (a b:Code) (fr:Fr) (D:Nat) (st:LoopState) (pe:Option Code):Loop:={state:=st,pending:=pe,fn,tmps:=fr.toArray,params:=ps,assign:=a,body:=b,defers:=D}
def Lp (w:ab) (l:Nat) (fn:FuncId) (ps:Array Tmp) (a b:Code) (fr:Fr) (D:Nat) (st:LoopState) (pe:Option Code):Prop:=w.heap[l]? =some (.loop (H7 fn ps a b fr D st pe))
def rgT (P:Program) (gv:ca) (ps:Array Tmp) (a b:Code) (k r:List Nat->ab->Prop) (rs:List Nat) (fr:Fr) (w:ab):Prop:=
 match gv with
 | .func (.func f) fi cs=>q8 P f=true/\∀fn w1,Ext w w1->w1.heap.size=w.heap.size+2->w1.heap[w.heap.size]? =some (.deferred (some []))->Lp w1 (w.heap.size+1) fn ps a b fr w.heap.size .ready none->
   ad P f (fi++ #[.func (.yield (w.heap.size+1)) #[] #[]]++cs) w1 λ_ w3=>∃st pe,st≠ .busy/\Lp w3 (w.heap.size+1) fn ps a b fr w.heap.size st pe/\∀w4,Frm (λx=>x=w.heap.size+1) w3 w4->aac (k (w.heap.size::rs)) (r (w.heap.size::rs)) pe w4
 |_=>False
def qj (P:Program):Dec->Code->KD->KD->(Nat->KD)->KD
 |_,.rangeFunc g ps a b,k,r,_=>λrs fr w=>rgT P (evO fr g) ps a b (λrs w=>k rs fr w) (λrs w=>r rs fr w) rs fr w
 | .s da db,.seq a b,k,r,e=>qj P da a (qj P db b k r e) r e
 | .s da db,.cond x a b,k,r,e=>λrs fr w=>ae (evO fr x) (qj P da a k r e rs fr w) (qj P db b k r e rs fr w)
 | .b d,.block id c,k,r,e=>qj P d c k r (exM id k e)
 |d,c,k,r,e=>λrs fr w=>gR P d c (k rs) (r rs) (λj=>e j rs) fr w
def okR (P:Program) (nt m:Nat):Dec->Code->Bool
 |_,.rangeFunc _ _ _ _=>true
 | .s da db,.seq a b=>okR P nt m da a&&okR P nt m db b
 | .s da db,.cond _ a b=>okR P nt m da a&&okR P nt m db b
 | .b d,.block _ c=>okR P nt m d c
 |d,c=>dL P nt c&&(ju m c&&okT m d c)
def Frm.putObj {w:ab} {r:Nat} (o:Obj):Frm (λx=>x=r) w (w.putObj r o):=⟨rfl,rfl,rfl,by simp [World.putObj],λk _ hn=>World.putObj_heap_other hn⟩
def nh (P:Program):List ResultVar->Fr->ab->Option (List ca)
 | [],_,_=>some []
 | .tmp t::rs,fr,w=>(nh P rs fr w).map (fr.getD t undef::·)
 | .cell a t::rs,fr,w=>match ldO P t w (fr.getD a undef) with
  |some v=>(nh P rs fr w).map (v::·)
  |none=>none
def VD {P:Program} {w:ab} {fr:Fr}:∀(rs:List ResultVar) (k:List ca->Prop),xV P rs fr w k↔∃vs,nh P rs fr w=some vs/\k vs:=by
 intro rs
 induction rs with
 |nil=>intro k;simp [xV,nh]
 |cons x rs ih=>
  intro k
  cases x with
  |tmp t=>simp only [xV,nh,ih];cases nh P rs fr w<;>simp
  |cell a t=>
   simp only [xV,nh,ldR,oE]
   cases ldO P t w (fr.getD a undef) with
   |none=>simp
   |some v=>simp only [ih];cases nh P rs fr w<;>simp
def DP {w w':ab} {r:Nat} {ds:Option (List Deferred)} (h:w.heap[r]? =some (.deferred ds)) (f:Frm (λx=>x=r) w w') {a:Addr} {v:ca} (hc:w.cell? a=some v):w'.cell? a=some v:=by
 have c:a.block≠r:=λe=>by unfold World.cell? at hc;rw [e,h] at hc;cases hc
 have b:a.block<w.heap.size:=by
  unfold World.cell? at hc
  cases hb:w.heap[a.block]? with
  |none=>rw [hb] at hc;cases hc
  |some x=>exact aF hb
 unfold World.cell? at hc ⊢;rw [f.block _ b c];exact hc
def Pk {w w':ab} {r:Nat} {ds:Option (List Deferred)} (h:w.heap[r]? =some (.deferred ds)) (f:Frm (λx=>x=r) w w') {b:Nat}:∀(n o:Nat) (l:List ca),aP w b o n=some l->aP w' b o n=some l:=by
 intro n
 induction n with
 |zero=>intro o l hl;exact hl
 |succ n ih=>
  intro o l hl;unfold aP at hl ⊢
  cases hc:w.cell? ⟨b,o,none⟩ with
  |none=>rw [hc] at hl;cases hl
  |some v=>
   rw [hc] at hl;rw [DP h f hc]
   cases hr:aP w b (o+1) n with
   |none=>simp only [hr] at hl;cases hl
   |some l2=>simp only [hr] at hl;simp only [ih _ _ hr];exact hl
def Yc {P:Program} {t:TypeId} {x:ca} {w w':ab} {r:Nat} {ds:Option (List Deferred)} (h:w.heap[r]? =some (.deferred ds)) (f:Frm (λx=>x=r) w w') {v:ca} (hv:ldO P t w x=some v):ldO P t w' x=some v:=by
 cases x with
 |pointer p=>
  cases p with
  |none=>cases hv
  |some a=>
   cases hi:cW P t with
   |none=>simp [ldO,hi] at hv
   |some g=>
    cases g with
    |false=>
     simp only [ldO,hi] at hv ⊢;exact DP h f hv
    |true=>
     obtain ⟨b,o,s⟩:=a
     cases s with
     |some _=>simp [ldO,hi] at hv
     |none=>
      cases hn:szT P t with
      |none=>simp [ldO,hi,hn] at hv
      |some n=>
       simp only [ldO,hi,hn] at hv ⊢
       cases hc:aP w b o n with
       |none=>rw [hc] at hv;cases hv
       |some l=>rw [hc] at hv;rw [Pk h f _ _ _ hc];exact hv
 |_=>cases hv
def VE {P:Program} {fr:Fr} {w w':ab} {r:Nat} {ds:Option (List Deferred)} (h:w.heap[r]? =some (.deferred ds)) (f:Frm (λx=>x=r) w w'):∀(rs:List ResultVar) (vs:List ca),nh P rs fr w=some vs->nh P rs fr w'=some vs:=by
 intro rs
 induction rs with
 |nil=>intro vs hv;exact hv
 |cons x rs ih=>
  intro vs hv
  cases x with
  |tmp t=>
   simp only [nh] at hv ⊢
   cases hc:nh P rs fr w with
   |none=>rw [hc] at hv;cases hv
   |some l=>rw [hc] at hv;rw [ih _ hc];exact hv
  |cell a t=>
   simp only [nh] at hv ⊢
   cases hl:ldO P t w (fr.getD a undef) with
   |none=>rw [hl] at hv;cases hv
   |some u=>
    rw [hl] at hv;rw [Yc h f hl]
    cases hc:nh P rs fr w with
    |none=>simp only [hc] at hv;cases hv
    |some l=>simp only [hc] at hv;simp only [ih _ hc];exact hv
def l7 {P:Program} {fn:Func} {rv:List ResultVar} {K:K1} (a:fn.results=rv.toArray) {fr:Fr}:∀(rs:List Nat) (w:ab),aU P rv (rsK K rs) fr w->LeavesInM (FW none) 0 P fn fr.toArray (PD K) (rs.map mkD) .returning w
 | [],w,h=>jg (ds:= []) a h
 |r::rs,w,h=>by
  obtain ⟨vs,h1,h2,h3⟩:=(VD _ _).1 h;exact ⟨by simp,.inl ⟨r,_,rfl,run_takeDeferred h2,l7 a rs _ ((VD _ _).2 ⟨vs,VE h2 (Frm.putObj _) _ _ h1,h3 _ (Frm.putObj _)⟩)⟩⟩
def Pl {P:Program} {g:Operand} {ps:Array Tmp} {a b:Code} {Q:Exit->Act->ab->Prop} {k r:KD} {rs:List Nat} {fr:Fr} {w:ab}
  (hk:∀rs w,k rs fr w->Q .normal (aT (rs.map mkD) fr) w) (hr:∀rs w,r rs fr w->Q .ret (aT (rs.map mkD) fr) w) (h:rgT P (evO fr g) ps a b (λrs w=>k rs fr w) (λrs w=>r rs fr w) rs fr w):(Code.rangeFunc g ps a b).wpIn (FW none) 0 P Q (aT (rs.map mkD) fr) w:=by
 unfold rgT at h;split at h
 ·rename_i f fi cs hg;obtain ⟨e,h⟩:=h;refine wpIn_rangeFunc (λfn _=> ?_);have d:(aT (rs.map mkD) fr).eval g= .func (.func f) fi cs:=by rw [ey,hg]
  refine ⟨w.heap.size+1,[mkD w.heap.size],((w.alloc (.deferred (some []))).alloc (.loop (H7 fn ps a b fr w.heap.size .ready none))),{target:= .fn (.func f) cs,args:=fi++ #[.func (.yield (w.heap.size+1)) #[] #[]]},((w.alloc (.deferred (some []))).alloc (.loop (H7 fn ps a b fr w.heap.size .ready none))),f,fi++ #[.func (.yield (w.heap.size+1)) #[] #[]]++cs,((w.alloc (.deferred (some []))).alloc (.loop (H7 fn ps a b fr w.heap.size .ready none))),run_enterLoop_outer _ _ _ _ _,?_,λ_ _=>trivial,?_,λh=>fwD h,?_⟩
  ·simp only [resolve,d];simp [go_sem,Act.eval]
  ·simp only [invoke];exact iC e _ _
  ·refine (callsIn_wide (n:=0)).2 (Calls.mono (h fn _ (Ext.alloc (Ext.alloc_self w _) _) (by simp) ?_ ?_) ?_)
   ·rw [bg _ (by simp)];exact aL w _
   ·have:=aL (w.alloc (.deferred (some []))) (.loop (H7 fn ps a b fr w.heap.size .ready none))
    rwa [World.size_alloc] at this
   ·intro en w3 hx
    cases en with
    |returned v=>
     obtain ⟨st,pe,hb,hl,hj⟩:=hx;refine ⟨pe,_,run_endLoop hl hb,?_⟩;have hj:=hj _ (Frm.putObj (Obj.loop {H7 fn ps a b fr w.heap.size st pe with state:= .exhausted}))
     cases pe with
     |none=>exact hk (w.heap.size::rs) _ hj
     |some c=>
      cases c with
      |ret=>exact wpIn_ret (hr (w.heap.size::rs) _ hj)
      |_=>exact hj.elim
    |panicked c=>exact hx.elim
    |outgrown=>exact hx.elim
 ·exact h.elim
def DQ {P:Program} {nt m:Nat} (hm:P.follows .mixedOrders=true):∀(d:Dec) (c:Code) {Q:Exit->Act->ab->Prop} {k r:KD} {e:Nat->KD},okR P nt m d c=true->
  (∀rs fr w,fr.length=nt->k rs fr w->Q .normal (aT (rs.map mkD) fr) w)->(∀rs fr w,fr.length=nt->r rs fr w->Q .ret (aT (rs.map mkD) fr) w)->(∀j rs fr w,fr.length=nt->e j rs fr w->Q (.exit j) (aT (rs.map mkD) fr) w)->
  ∀(rs:List Nat) (fr:Fr) (w:ab),fr.length=nt->qj P d c k r e rs fr w->c.wpIn (FW none) 0 P Q (aT (rs.map mkD) fr) w:=by
 have f:∀(d:Dec) (c:Code) {Q:Exit->Act->ab->Prop} {k r:KD} {e:Nat->KD},(dL P nt c&&(ju m c&&okT m d c))=true->
  (∀rs fr w,fr.length=nt->k rs fr w->Q .normal (aT (rs.map mkD) fr) w)->(∀rs fr w,fr.length=nt->r rs fr w->Q .ret (aT (rs.map mkD) fr) w)->(∀j rs fr w,fr.length=nt->e j rs fr w->Q (.exit j) (aT (rs.map mkD) fr) w)->
  ∀(rs:List Nat) (fr:Fr) (w:ab),fr.length=nt->gR P d c (k rs) (r rs) (λj=>e j rs) fr w->c.wpIn (FW none) 0 P Q (aT (rs.map mkD) fr) w:=by
  intro d c Q k r e ho hk hr he rs fr w hl h;simp only [df] at ho;exact gy hm c ho.1 (λfr w=>hk rs fr w) (λfr w=>hr rs fr w) (λj fr w=>he j rs fr w) fr w hl (qd d c ho.2.2 ho.2.1 (λ_ _ _ h=>h) (λ_ _ _ h=>h) (λ_ _ _ _ h=>h) fr w (dB.refl _ _) h)
 have rg:∀(g:Operand) (ps:Array Tmp) (a b:Code) {Q:Exit->Act->ab->Prop} {k r:KD} {e:Nat->KD},
  (∀rs fr w,fr.length=nt->k rs fr w->Q .normal (aT (rs.map mkD) fr) w)->(∀rs fr w,fr.length=nt->r rs fr w->Q .ret (aT (rs.map mkD) fr) w)->(∀j rs fr w,fr.length=nt->e j rs fr w->Q (.exit j) (aT (rs.map mkD) fr) w)->
  ∀(rs:List Nat) (fr:Fr) (w:ab),fr.length=nt->rgT P (evO fr g) ps a b (λrs w=>k rs fr w) (λrs w=>r rs fr w) rs fr w->(Code.rangeFunc g ps a b).wpIn (FW none) 0 P Q (aT (rs.map mkD) fr) w:=by
  intro g ps a b Q k r e hk hr he rs fr w hl h;exact Pl (λrs w=>hk rs fr w hl) (λrs w=>hr rs fr w hl) h
 intro d
 induction d with
 |s da db iha ihb=>
  intro c Q k r e ho hk hr he rs fr w hl h
  cases c
  case rangeFunc=>exact rg _ _ _ _ hk hr he rs fr w hl h
  case seq a b=>
   simp only [okR,df] at ho;refine wpIn_seq (iha a ho.1 ?_ ?_ ?_ rs fr w hl h)
   ·intro rs fr w hl h;exact ihb b ho.2 hk hr he rs fr w hl h
   ·intro rs fr w hl h;exact hr rs fr w hl h
   ·intro j rs fr w hl h;exact he j rs fr w hl h
  case cond x a b=>
   simp only [okR,df] at ho;simp only [qj,ae] at h;have hc:(aT (rs.map mkD) fr).eval x=evO fr x:=by rw [ey]
   split at h
   ·rename_i hx;exact wpIn_cond_true (by rw [hc,hx]) (iha a ho.1 hk hr he rs fr w hl h)
   ·rename_i hx;exact wpIn_cond_false (by rw [hc,hx]) (ihb b ho.2 hk hr he rs fr w hl h)
   ·exact h.elim
  all_goals exact f _ _ ho hk hr he rs fr w hl h
 |b d ih=>
  intro c Q k r e ho hk hr he rs fr w hl h
  cases c
  case rangeFunc=>exact rg _ _ _ _ hk hr he rs fr w hl h
  case block id c=>
   refine wpIn_block (ih c ho ?_ ?_ ?_ rs fr w hl h)
   ·intro rs fr w hl h;exact hk rs fr w hl h
   ·intro rs fr w hl h;exact hr rs fr w hl h
   ·intro j rs fr w hl h;unfold exM at h;simp only [Exit.inBlock]
    cases hj:Nat.beq j id with
    |true=>rw [hj] at h;rw [if_pos (Nat.eq_of_beq_eq_true hj)];exact hk rs fr w hl h
    |false=>rw [hj] at h;rw [if_neg (Nat.ne_of_beq_eq_false hj)];exact he j rs fr w hl h
  all_goals exact f _ _ ho hk hr he rs fr w hl h
 |o=>
  intro c Q k r e ho hk hr he rs fr w hl h
  cases c
  case rangeFunc=>exact rg _ _ _ _ hk hr he rs fr w hl h
  all_goals exact f _ _ ho hk hr he rs fr w hl h
 |_=>
  intro c Q k r e ho hk hr he rs fr w hl h
  cases c
  case rangeFunc=>exact rg _ _ _ _ hk hr he rs fr w hl h
  all_goals exact f _ _ ho hk hr he rs fr w hl h
def acH (P:Program) (fn:Func) (d:Dec) (args:List ca) (K:K1) (w:ab):Prop:=
 match fn.body with
 |some c=>qj P d c (λrs=>aU P fn.results.toList (rsK K rs)) (λrs=>aU P fn.results.toList (rsK K rs)) (λ_ _ _ _=>False) [] (args++List.replicate (fn.ntmps-args.length) undef) w
 |none=>False
def okG (P:Program) (fn:Func) (d:Dec) (args:List ca):Bool:=
 match fn.body with
 |some c=>Nat.ble args.length fn.ntmps&&okR P fn.ntmps (2^fn.ntmps-1) d c
 |none=>false
def nj {P:Program} (hm:P.follows .mixedOrders=true) {f:FuncId} {fn:Func} (hf:P.funcs[f]? =some fn) (d:Dec) {args:List ca} {w:ab} {K:K1} (a:okG P fn d args=true) (h:acH P fn d args K w):ad P f args.toArray w K:=by
 unfold okG at a;unfold acH at h
 cases hb:fn.body with
 |none=>rw [hb] at h;exact h.elim
 |some c=>
  rw [hb] at h a;simp only [df] at a;have hl:=Nat.le_of_ble_eq_true a.1;refine (callsIn_wide (n:=0)).1 (callsIn_of_wp_marks (F:=FW none) hf hb trivial ?_);have e:({tmps:=args.toArray++Array.replicate (fn.ntmps-args.toArray.size) undef,defers:= []}:Act)=aT ([].map mkD) (args++List.replicate (fn.ntmps-args.length) undef):=by
   simp [aT]
  rw [e];refine DQ hm d c a.2 ?_ ?_ ?_ [] _ w (by simp;omega) h
  ·intro rs fr w _ h;exact l7 (by simp) rs w h
  ·intro rs fr w _ h;exact l7 (by simp) rs w h
  ·intro j rs fr w _ h;exact h.elim
def VF (l:Nat) (fn:FuncId) (p:Tmp) (a b:Code) (fr:Fr) (D:Nat) (k:ab->Prop) (w1:ab):Prop:=Lp w1 l fn #[p] a b fr D .ready none/\∀w2,Frm (λy=>y=l) w1 w2->Lp w2 l fn #[p] a b fr D .busy none->k w2
def Pm (l:Nat) (fn:FuncId) (p:Tmp) (a b:Code) (fr:Fr) (D:Nat) (st:LoopState) (pe:Option Code) (v:Bool) (k:K1) (w3:ab):Prop:=Lp w3 l fn #[p] a b fr D .busy none/\∀w4,Frm (λy=>y=l) w3 w4->Lp w4 l fn #[p] a b fr D st pe->k (.bool v) w4
def adH (P:Program) (p:Tmp) (a b:Code) (fr:Fr) (x:ca) (B:(ab->Prop)->ab->Prop) (N R:ab->Prop) (w:ab):Prop:=
 dW P a (λfr' w1=>B (λw2=>dW P b (λ_ w3=>N w3) (λ_ w3=>R w3) nX fr' w2) w1) (λ_ _=>False) nX (put fr (some p) x) w
def Lp.put {w:ab} {l:Nat} {fn:FuncId} {ps:Array Tmp} {a b:Code} {fr:Fr} {D:Nat} {st d:LoopState} {pe c:Option Code} (h:Lp w l fn ps a b fr D st pe):Lp (w.putObj l (.loop (H7 fn ps a b fr D d c))) l fn ps a b fr D d c:=World.putObj_heap_same (aF h)
def Lp.frm {G:Nat->Prop} {w w':ab} {l:Nat} {fn:FuncId} {ps:Array Tmp} {a b:Code} {fr:Fr} {D:Nat} {st:LoopState} {pe:Option Code} (h:Lp w l fn ps a b fr D st pe) (g:Frm G w w') (hG:¬G l):Lp w' l fn ps a b fr D st pe:=(g.block l (aF h) hG).trans h
def Lp.ext {w w':ab} {l:Nat} {fn:FuncId} {ps:Array Tmp} {a b:Code} {fr:Fr} {D:Nat} {st:LoopState} {pe:Option Code} (h:Lp w l fn ps a b fr D st pe) (e:Ext w w'):Lp w' l fn ps a b fr D st pe:=Lp.frm (G:=λ_=>False) h (Frm.of_ext e) (λh=>h)
def xG {P:Program} (hm:P.follows .mixedOrders=true) {l:Nat} {fn:FuncId} {p:Tmp} {a b:Code} {fr:Fr} {D:Nat} {x:ca} {w:ab} {k:K1} (hL:Lp w l fn #[p] a b fr D .ready none)
  (c:(dL P fr.length a&&dL P fr.length b)=true) (h:adH P p a b fr x (VF l fn p a b fr D) (Pm l fn p a b fr D .ready none true k) (Pm l fn p a b fr D .done (some .ret) false k) w):md P (.func (.yield l) #[] #[]) #[x] w k:=by
 simp only [df] at c;have hy:((do let d <-Deferred.ofValue (.func (.yield l) #[] #[]) #[x];invoke d.target d.args:Sem Next)).run P w= .ok (.round l fn (fr.toArray.setIfInBounds p x) a b) w:=by
  simp [Deferred.ofValue,invoke,Instr.yield,Sem.run_bind,run_getLoop hL,Result.andThen]
 unfold md;rw [hy];show RoundIn Fence.wide 0 P l fn _ a b w (PD k);refine roundIn_of_wpIn (F:=Fence.wide) trivial ?_;have e:({tmps:=fr.toArray.setIfInBounds p x,defers:= []}:Act)=aT [] (put fr (some p) x):=by simp [aT,Go.Sh.put]
 rw [e];refine gy (ro:=some l) (nt:=fr.length) hm a c.1 ?_ ?_ ?_ _ w (ez _ _ _) h
 ·intro fr' w1 hl h;refine ⟨_,run_beginRound h.1 rfl,?_⟩;have h:=h.2 _ (Frm.putObj _) h.1.put;refine gy (ro:=some l) (ds:= []) (nt:=fr.length) hm b c.2 ?_ ?_ ?_ fr' _ hl h
  ·intro f w3 _ h;exact ⟨_,_,run_endRound none h.1,h.2 _ (Frm.putObj _) h.1.put⟩
  ·intro f w3 _ h;exact ⟨_,_,run_endRound (some .ret) h.1,h.2 _ (Frm.putObj _) h.1.put⟩
  ·intro j f w3 _ h;exact h.elim
 ·intro fr' w1 _ h;exact h.elim
 ·intro j fr' w1 _ h;exact h.elim
def ra (u:Code×Dec):Code:=match u.1 with
 | .rangeFunc _ _ a _=>a
 |_=> .skip
def rb (u:Code×Dec):Code:=match u.1 with
 | .rangeFunc _ _ _ b=>b
 |_=> .skip
def DR {P:Program} {f:FuncId} {fi cs args:Array ca} {w:ab} {k:K1} (he:q8 P f=true):md P (.func (.func f) fi cs) args w k=ad P f (fi++args++cs) w k:=by
 have h:((do let d <-Deferred.ofValue (.func (.func f) fi cs) args;invoke d.target d.args:Sem Next)).run P w= .ok (.enter f (fi++args++cs)) w:=by
  simp [Deferred.ofValue,invoke,iC he]
 unfold md;rw [h];rfl
end Go.Sh
namespace Go.Proofs.YtmpehclnnjgmcaaGreatDoor
open Go Go.Sh
noncomputable section
variable (K:K1) (x0 x1 x2 x3 x4 x5 x6 x7 x8 x9 x10 x11 x12 x13 x14 x15 x16 x17 x18 x19 x20 x21 x22 x23:ca) (w:ab)
noncomputable def VG:=uD Tryz.f39 (.s .o (.s .o (.s .o (.s (.s .o (.b .o)) .o))))
noncomputable def dG:Code:=ra (pw VG 6 23)
noncomputable def dH:Code:=rb (pw VG 6 23)
def dI (x0 x1 x2 x3 x7 x8 x10 x11 x12 x13 x14 x15 x16 x17 x18 x19 x20 x21 x22 x23:ca):Fr:=fz 43 0 [(0,x0),(1,x1),(2,x2),(3,x3),(7,x7),(8,x8),(10,x10),(11,x11),(12,x12),(13,x13),(14,x14),(15,x15),(16,x16),(17,x17),(18,x18),(19,x19),(20,x20),(21,x21),(22,x22),(23,x23)]
def VH:Prop:=
 ev prog (Instr.box 33 x0) w λa w=>
 ev prog (Instr.alloc 73 true (.tuple #[])) w λb w=>
 lD 33 a w λc w=>
 bM .eql 33 (.tmp 7) (.const (.pointer none)) c (.pointer none) w λd w=>
 ae d (
 ev prog (Instr.build 73 #[]) w λe w=>
 sD 73 b e w λw=>
 lR 73 b w λr=>
 K r w) (
 lR 33 a w.drew λf=>
 nR f w.drew λg=>
 fR 112 g 3 w.drew λh=>
 lR 107 h w.drew λi=>
 lR 33 a w.drew λj=>
 nR j w.drew λl=>
 fR 112 l 3 w.drew λm=>
 lR 107 m w.drew λn=>
 (cL 91 (pA #[i]) w.drew λo w=>
 (lG 33 a w j)/\
 (br prog j w (λu=>u=l))/\
 (fG 112 l 3 w m)/\
 (lG 107 m w n)/\
 rd prog (eb #[50] 3 #[o]) w λp=>
 (cL 92 (pA #[n]) w λq w=>
 (ag prog (eb #[50] 3 #[o]) w p)/\
 rd prog (Instr.build 73 #[(0,p),(1,q)]) w λs=>
 ev prog (Instr.alloc 73 true (.tuple #[])) w λt w=>
 (lG 33 a w f)/\
 (br prog f w (λu=>u=g))/\
 (fG 112 g 3 w h)/\
 (lG 107 h w i)/\
 (ag prog (eb #[50] 3 #[o]) w p)/\
 (lG 33 a w j)/\
 (br prog j w (λu=>u=l))/\
 (fG 112 l 3 w m)/\
 (lG 107 m w n)/\
 (ag prog (Instr.build 73 #[(0,p),(1,q)]) w s)/\
 sD 73 t s w λw=>
 lD 33 a w λv w=>
 cL 80 (pA #[v]) w λy w=>
 rgT prog y #[24] dG dH (λrs w=>(λ(K:K1)=>
 lD 73 t w λz w=>
 sD 73 b z w λw=>
 lR 73 b w λB=>
 K B w) (rsK K rs)) (λrs w=>(λ(K:K1)=>
 lR 73 b w λx=>
 K x w) (rsK K rs)) [] (dI x0 a b t c d f g h i o p j l m n q s v y) w)/\
 (ev prog (Instr.alloc 73 true (.tuple #[])) w λa0 w=>
 (lG 33 a w f)/\
 (br prog f w (λu=>u=g))/\
 (fG 112 g 3 w h)/\
 (lG 107 h w i)/\
 (ag prog (eb #[50] 3 #[o]) w p)/\
 (lG 33 a w j)/\
 (br prog j w (λu=>u=l))/\
 (fG 112 l 3 w m)/\
 (lG 107 m w n)/\
 cL 92 (pA #[n]) w λa1 w=>
 (ag prog (eb #[50] 3 #[o]) w p)/\
 rd prog (Instr.build 73 #[(0,p),(1,a1)]) w λa2=>
 sD 73 a0 a2 w λw=>
 lD 33 a w λa3 w=>
 cL 80 (pA #[a3]) w λa4 w=>
 rgT prog a4 #[24] dG dH (λrs w=>(λ(K:K1)=>
 lD 73 a0 w λa5 w=>
 sD 73 b a5 w λw=>
 lR 73 b w λA=>
 K A w) (rsK K rs)) (λrs w=>(λ(K:K1)=>
 lR 73 b w λD=>
 K D w) (rsK K rs)) [] (dI x0 a b a0 c d f g h i o p j l m n a1 a2 a3 a4) w))/\
 (ev prog (Instr.alloc 73 true (.tuple #[])) w.drew λa6 w=>
 (lG 33 a w f)/\
 (br prog f w (λu=>u=g))/\
 (fG 112 g 3 w h)/\
 (lG 107 h w i)/\
 (lG 33 a w j)/\
 (br prog j w (λu=>u=l))/\
 (fG 112 l 3 w m)/\
 (lG 107 m w n)/\
 cL 91 (pA #[i]) w λa7 w=>
 (lG 33 a w j)/\
 (br prog j w (λu=>u=l))/\
 (fG 112 l 3 w m)/\
 (lG 107 m w n)/\
 rd prog (eb #[50] 3 #[a7]) w λa8=>
 cL 92 (pA #[n]) w λa9 w=>
 (ag prog (eb #[50] 3 #[a7]) w a8)/\
 rd prog (Instr.build 73 #[(0,a8),(1,a9)]) w λb0=>
 sD 73 a6 b0 w λw=>
 lD 33 a w λb1 w=>
 cL 80 (pA #[b1]) w λb2 w=>
 rgT prog b2 #[24] dG dH (λrs w=>(λ(K:K1)=>
 lD 73 a6 w λb3 w=>
 sD 73 b b3 w λw=>
 lR 73 b w λk=>
 K k w) (rsK K rs)) (λrs w=>(λ(K:K1)=>
 lR 73 b w λC=>
 K C w) (rsK K rs)) [] (dI x0 a b a6 c d f g h i a7 a8 j l m n a9 b0 b1 b2) w))
def DT (x0:ca) (K:K1) (w:ab) (h:VH K x0 w):ad prog 39 #[x0] w K:=
 nj (args:= [x0]) mixed Tryz.func39 VG.2 kR (cast kR h)
def DU (x1 x3:ca) (x:ca) (B:(ab->Prop)->ab->Prop) (N R:ab->Prop) (w:ab):Prop:=
 B (λw=>
 lD 33 x1 w λa w=>
 cL 29 (pA #[a,x]) w λb w=>
 eX b 0 w λc w=>
 eX b 1 w λd w=>
 bC .eql 28 31 0 d w λe w=>
 ae e (
 fA 73 x3 2 w λf w=>
 lD 3 f w λg w=>
 bC .add 3 34 1 g w λh w=>
 fA 73 x3 2 w λi w=>
 sD 3 i h w λw=>
 fA 73 x3 3 w λj w=>
 lD 3 j w λl w=>
 bT .add 3 38 39 l c w λm w=>
 fA 73 x3 3 w λn w=>
 sD 3 n m w λw=>
 N w) (
 N w)) w
def VI {l:Nat} {fn:FuncId} {D:Nat} {x:ca} {w:ab} {k:K1} {x0 x1 x2 x3 x7 x8 x10 x11 x12 x13 x14 x15 x16 x17 x18 x19 x20 x21 x22 x23:ca} (hL:Lp w l fn #[24] dG dH (dI x0 x1 x2 x3 x7 x8 x10 x11 x12 x13 x14 x15 x16 x17 x18 x19 x20 x21 x22 x23) D .ready none) (h:DU x1 x3 x (VF l fn 24 dG dH (dI x0 x1 x2 x3 x7 x8 x10 x11 x12 x13 x14 x15 x16 x17 x18 x19 x20 x21 x22 x23) D) (Pm l fn 24 dG dH (dI x0 x1 x2 x3 x7 x8 x10 x11 x12 x13 x14 x15 x16 x17 x18 x19 x20 x21 x22 x23) D .ready none true k) (Pm l fn 24 dG dH (dI x0 x1 x2 x3 x7 x8 x10 x11 x12 x13 x14 x15 x16 x17 x18 x19 x20 x21 x22 x23) D .done (some .ret) false k) w):md prog (.func (.yield l) #[] #[]) #[x] w k:=
 xG mixed hL kR (cast kR h)
noncomputable def H8:=uD Tryz.f178 (.s .o (.s (.s .o (.b .o)) .o))
noncomputable def fN:Code:=ra (pw H8 4 5)
noncomputable def fO:Code:=rb (pw H8 4 5)
def fP (x0 x1 x2 x4 x6:ca):Fr:=fz 13 0 [(0,x0),(1,x1),(2,x2),(4,x4),(6,x6)]
def VJ:Prop:=
 ev prog (Instr.box 50 x0) w λa w=>
 rgT prog x1 #[7] fN fO (λrs w=>(λ(K:K1)=>
 lD 50 a w λb w=>
 K b w) (rsK K rs)) (λrs w=>(λ(K:K1)=>
 K (.slice none 0 0) w) (rsK K rs)) [] (fP x0 x1 a (.slice none 0 0) x1) w
def Pn (x0 x1:ca) (K:K1) (w:ab) (h:VJ K x0 x1 w):ad prog 178 #[x0,x1] w K:=
 nj (args:= [x0,x1]) mixed Tryz.func178 H8.2 kR (cast kR h)
def xH (x2:ca) (x:ca) (B:(ab->Prop)->ab->Prop) (N R:ab->Prop) (w:ab):Prop:=
 B (λw=>
 lD 50 x2 w λa w=>
 ev prog (i1 50 1 #[(0,x)]) w λb w=>
 aY prog .append #[50,50] 50 #[false,false] (pA #[a,b]) w λc w=>
 sD 50 x2 c w λw=>
 N w) w
def Po {l:Nat} {fn:FuncId} {D:Nat} {x:ca} {w:ab} {k:K1} {x0 x1 x2 x4 x6:ca} (hL:Lp w l fn #[7] fN fO (fP x0 x1 x2 x4 x6) D .ready none) (h:xH x2 x (VF l fn 7 fN fO (fP x0 x1 x2 x4 x6) D) (Pm l fn 7 fN fO (fP x0 x1 x2 x4 x6) D .ready none true k) (Pm l fn 7 fN fO (fP x0 x1 x2 x4 x6) D .done (some .ret) false k) w):md prog (.func (.yield l) #[] #[]) #[x] w k:=
 xG mixed hL kR (cast kR h)
end
end Go.Proofs.YtmpehclnnjgmcaaGreatDoor
namespace Go.Sh
open Go
def iz (kk:IntKind) (w:ab) (r m:Nat) (L S:KVL):Prop:=∃es clock a,w.heap[m]? =some (.map es clock)/\MapKept.Stamped es clock/\es.toList.map (λx=>(x.key,x.val))=L.map (kvV kk)/\w.heap[r]? =some (.mapIter (some m) clock a clock)/\(leftOf es a).toList.map (λx=>(x.key,x.val))=S.map (kvV kk)
section
variable {P:Program} {kk:IntKind} {w w':ab} {r m:Nat} {L S:KVL} {z:ca} {t:TypeId}
def iz.lt (h:iz kk w r m L S):r<w.heap.size/\m<w.heap.size/\r≠m:=by
 obtain ⟨es,clock,c,a,_,_,b,_⟩:=h;refine ⟨aF b,aF a,λe=> ?_⟩;rw [e,a] at b;cases b
def iz.map (h:iz kk w r m L S):bj kk w m L:=by
 obtain ⟨es,clock,d,a,b,c,_⟩:=h;exact ⟨es,clock,a,b,c⟩
def iz.frm {F:Nat->Prop} (h:iz kk w r m L S) (e:Frm F w w') (hr:¬F r) (hm:¬F m):iz kk w' r m L S:=by
 have hl:=h.lt;obtain ⟨es,clock,g,a,b,c,d,f⟩:=h;exact ⟨es,clock,g,(e.block m hl.2.1 hm).trans a,b,c,(e.block r hl.1 hr).trans d,f⟩
def xI (hT:kW P kk t z) (h:bj kk w m L) {K:K1} (hK:∀w',Ext w w'->iz kk w' w.heap.size m L L->K (.pointer (some ⟨w.heap.size,0,none⟩)) w'):ev P (Instr.range t (.map (some m))) w K:=by
 obtain ⟨kt,et,ht,_,_⟩:=hT;obtain ⟨es,clock,a,b,c⟩:=h;unfold ev;rw [run_range_map w t kt et m es clock ht a];refine hK _ (Ext.alloc_self _ _) ⟨es,clock,#[],?_,b,c,aL _ _,?_⟩
 ·rw [bg _ (aF a)];exact a
 ·have e:leftOf es #[]=es:=by
   unfold leftOf;rw [Array.filter_eq_self];simp
  rw [<-c,e]
def DV {l:List MapEntry} (hn:(l.map (·.born)).Nodup) {A B:List MapEntry} {e:MapEntry} (h:l=A++e::B):l.filter (λx=> !(x.born==e.born))=A++B:=by
 subst h;rw [cw,cq,gc,cn] at hn;obtain ⟨_,⟨h2,_⟩,h3⟩:=hn;rw [f0,dm];have e1:A.filter (λx=> !(x.born==e.born))=A:=List.filter_eq_self.2 λx hx=>by
  have:=h3 x.born (List.mem_map.2 ⟨x,hx,rfl⟩) e.born ec;simp [this]
 have e2:B.filter (λx=> !(x.born==e.born))=B:=List.filter_eq_self.2 λx hx=>by
  have:x.born≠e.born:=λq=>h2 (q▸List.mem_map.2 ⟨x,hx,rfl⟩)
  simp [this]
 rw [e1,e2];simp
def DW (h:iz kk w r m L S) (ty:TypeId) {K:K1} (h0:S= []->K (.tuple #[.bool false]) w)
  (h1:∀p S1 S2,S=S1++p::S2->∀w',Frm (λx=>x=r) w w'->iz kk w' r m L (S1++S2)->(∀K:K1,ev P (Instr.entry (.pointer (some ⟨r,0,none⟩))) w' K=K (.tuple #[.int kk p.1,p.2]) w')->K (.tuple #[.bool true,.int kk p.1,p.2]) w'):ev P (Instr.next (.pointer (some ⟨r,0,none⟩)) false ty) w K:=by
 have hl:=h.lt;obtain ⟨es,clock,i,a,b,c,d,f⟩:=h;have st:=(MapKept.stamped_iff es clock).1 b;rcases run_next_at (P:=P) w ty r m clock clock i es clock d a st.1 (cj _) with ⟨g0,g⟩|⟨e,he,w1,hw,g⟩
 ·unfold ev;rw [g];refine h0 ?_;have:(leftOf es i).toList= []:=eo (by simpa using g0);rw [this] at f;exact (List.map_eq_nil_iff.1 f.symm)
 ·unfold ev;rw [g];obtain ⟨A,B,l⟩:=List.append_of_mem he;rw [l,cw,cq] at f;obtain ⟨S1,S',hS,e1,e2⟩:=List.map_eq_append_iff.1 f.symm;obtain ⟨p,S2,hp,e3,e4⟩:=List.map_eq_cons_iff.1 e2;subst hp;have hk:e.key= .int kk p.1/\e.val=p.2:=by
   unfold kvV at e3;injection e3 with x y;exact ⟨x.symm,y.symm⟩
  rw [hk.1,hk.2];have s:w1.heap=w.heap:=by rcases hw with rfl|rfl<;>rfl
  have hs:(ChangeMaps.setBlock w1 r (.mapIter (some m) clock (i.push e.born) clock)).heap=w.heap.setIfInBounds r (.mapIter (some m) clock (i.push e.born) clock):=by
   show w1.heap.setIfInBounds _ _=_;rw [s]
  have j:(ChangeMaps.setBlock w1 r (.mapIter (some m) clock (i.push e.born) clock)).heap[r]? =some (.mapIter (some m) clock (i.push e.born) clock):=by
   rw [hs,Array.getElem?_setIfInBounds_self_of_lt hl.1]
  have n:(ChangeMaps.setBlock w1 r (.mapIter (some m) clock (i.push e.born) clock)).heap[m]? =some (.map es clock):=by
   rw [hs,ga hl.2.2];exact a
  refine h1 p S1 S2 hS _ ⟨?_,?_,?_,by rw [hs];simp,λk t o=>by rw [hs,ga (λq=>o q.symm)]⟩ ⟨es,clock,i.push e.born,n,b,c,j,?_⟩ ?_
  ·rcases hw with rfl|rfl<;>rfl
  ·rcases hw with rfl|rfl<;>rfl
  ·rcases hw with rfl|rfl<;>rfl
  ·have hn:((leftOf es i).toList.map (·.born)).Nodup:=by
    refine List.Nodup.sublist (List.Sublist.map _ ?_) st.2.1;unfold leftOf;rw [fl];exact hZ
   have hf:(leftOf es (i.push e.born)).toList=(leftOf es i).toList.filter (λx=> !(x.born==e.born)):=by
    unfold leftOf;rw [fl,fl,im];refine gj λx _=> ?_
    rw [contains_push]
    cases i.contains x.born<;>cases (x.born==e.born)<;>rfl
   rw [hf,DV hn l,cw,cw,e1,e4]
  ·intro K';unfold ev;rw [run_entry_at _ r m clock i es clock e j n (mem_left he).1 st.2.1,hk.1,hk.2]
end
end Go.Sh
namespace Go.Proofs.YtmpehclnnjgmcaaGreatDoor
open Go Go.Sh
section
variable {w w':ab} {r m b:Nat} {L S:KVL} {kk:IntKind}
def lfM (w:ab) (m r:Nat):Nat:=
 match w.heap[m]?,w.heap[r]? with
 |some (.map es _),some (.mapIter _ _ seen _)=>(leftOf es seen).size
 |_,_=>0
def nm (h:iz kk w r m L S):lfM w m r=S.length:=by
 obtain ⟨es,clock,b,a,_,_,d,f⟩:=h;have:=congrArg List.length f;simp only [dk] at this;simp only [lfM,a,d];simpa using this
def mTc:kW prog .i64 159 (.pointer none):=⟨3,160,by kernel_rfl,by kernel_rfl,by kernel_rfl⟩
def Yd {y:ca} (hm:bj .i64 w m L) (hb:af w b 159 1 (λ_=> .map (some m))) (J:Nat->List Int->ab->Prop)
  (h0:∀r w1,w.heap.size<=r->r<w1.heap.size->Ext w w1->J r [] w1)
  (hE:∀r s w1 w2,w.heap.size<=r->J r s w1->Frm (λx=>x=r) w1 w2->J r s w2)
  (hy:∀r s x w1 (K':K1),w.heap.size<=r->r<w1.heap.size->J r s w1->x∈L.map (·.1)->s.length<L.length->(∀w2 G,Frm G w1 w2->¬G r->¬G m->¬G b->J r (s++ [x]) w2->K' (.bool true) w2)->md prog y #[.int .i64 x] w1 K')
  (K:K1) (hK:∀r s w',s.Perm (L.map (·.1))->w.heap.size<=r->J r s w'->K (.tuple #[]) w'):
  ad prog 142 #[y,.pointer (some ⟨b,0,none⟩)] w K:=by
 have e:w.cell? ⟨b,0,none⟩=some (.map (some m)):=hb.cell (i:=0) oM;have ltb:=hb.lt;refine Pe _ _ _ _ ?_;unfold Vl;refine zS1 e ?_;refine xI mTc hm (λw1 e1 a=> ?_);refine Bb _ _ _ _ (λw2=>∃s S,iz .i64 w2 w.heap.size m L S/\(s++S.map (·.1)).Perm (L.map (·.1))/\J w.heap.size s w2) (λw2=>lfM w2 m w.heap.size) ⟨[],L,a,by simp,h0 _ _ (cj _) a.lt.1 e1⟩ ?_;intros;rename_i w2 hI E1 g;obtain ⟨s,S,it,pm,hj⟩:=hI;have n:=it.lt;unfold xF;refine DW it _ (λhS=> ?_) (λp S1 S2 hS w3 g3 d j=> ?_)
 ·subst hS;refine zS0 ?_;refine hK _ s _ (by simpa using pm) (cj _) hj
 ·have l:=hE _ _ _ _ (cj _) hj g3;have k:=d.lt;have h:s.length<L.length:=by
   have:=pm.length_eq;rw [hS] at this;simp at this;omega
  have hx:p.1∈L.map (·.1):=by
   refine pm.subset ?_;rw [hS];simp
  refine zS1 j ?_;refine hy _ s p.1 _ _ (cj _) k.1 l hx h (λw4 G g4 n1 n2 _ f=> ?_);have c:=d.frm g4 n1 n2;refine zS0 ?_;refine g _ ⟨s++ [p.1],S1++S2,c,?_,f⟩ ?_
  ·refine List.Perm.trans ?_ pm;rw [hS];simp only [cw,cq,dp,List.singleton_append];refine List.Perm.append_left s ?_;exact List.perm_middle.symm
  ·rw [nm c,nm it,hS];simp
def cJ {G:Nat->Prop} {a b c:ab} (e:Ext a b) (g:Frm G b c) (h:∀x,G x->a.heap.size<=x):Ext a c:=Frm.to_ext (F:=λx=>a.heap.size<=x) ((Frm.of_ext e).trans g (λx _ hg=>h x hg)) (λx hx hg=>by omega)
def VK (hm:bj .i64 w m L) (hb:af w b 159 1 (λ_=> .map (some m))) (hL:L.length<1000000) (K:K1)
  (hK:∀s v w',s.Perm (L.map (·.1))->Ext w w'->bw w.heap.size v->SlO w' 3 1 v s.length (aX s)->K v w'):
  ad prog 178 #[.slice none 0 0,.func (.func 142) #[] #[.pointer (some ⟨b,0,none⟩)]] w K:=by
 have M:=hm.lt;have F:=hb.lt;refine Pn _ _ _ _ ?_;unfold VJ;refine zS0 ?_;refine ⟨by kernel_rfl,λfn w1 e1 A hD l=> ?_⟩;have D:af w1 w.heap.size 50 1 (λ_=>Value.slice none 0 0):=((af.new w [Value.slice none 0 0] 50).congr (λi hi=>by rw [show i=0 by simpa using hi];rfl)).ext e1;have z:(w.alloc (.cells #[Value.slice none 0 0] 50)).heap.size=w.heap.size+1:=size_alloc _ _;rw [z] at A hD l ⊢;have d:Ext w w1:=(Ext.alloc_self _ _).trans e1;have I:¬m=w.heap.size:=oM;refine Yd (hm.ext d) (hb.ext d) (λr s w2=>Lp w2 (w.heap.size+1+1) fn #[7] fN fO (fP (.slice none 0 0) (.func (.func 142) #[] #[.pointer (some ⟨b,0,none⟩)]) (.pointer (some ⟨w.heap.size,0,none⟩)) (.slice none 0 0) (.func (.func 142) #[] #[.pointer (some ⟨b,0,none⟩)])) (w.heap.size+1) .ready none/\w2.heap[w.heap.size+1]? =some (.deferred (some []))/\Ext w w2/\∃v,af w2 w.heap.size 50 1 (λ_=>v)/\SlO w2 3 1 v s.length (aX s)/\∀bb,v.ownBlock=some bb->w.heap.size+3<=bb/\bb≠r) (λr w2 hr o e2=> ?_) (λr s w2 w3 hr hj g=> ?_) (λr s x w2 K' hr o hj hx J B=> ?_) _ (λr s w2 hp hr hj=> ?_)
 ·exact ⟨l.ext e2,(e2.blk _ (aF hD)).trans hD,d.trans e2,.slice none 0 0,D.ext e2,SlO.nil _ _ _,λbb h=>by cases h⟩
 ·obtain ⟨j1,j2,j3,v,j4,j5,j6⟩:=hj;exact ⟨j1.frm g oM,(g.block _ (aF j2) oM).trans j2,cJ j3 g (λx h=>by omega),v,j4.frm g oM,j5.frm g (λbb h=>(j6 bb h).2),j6⟩
 ·obtain ⟨j1,j2,j3,v,j4,j5,j6⟩:=hj;refine Po j1 ?_;unfold xH VF;refine ⟨j1,λw3 g3 C=> ?_⟩;have k2:=(g3.block _ (aF j2) oM).trans j2;have k4:=j4.frm g3 oM;have k5:=j5.frm g3 (λbb h=>by have:=j6 bb h;omega);have hc:w3.cell? ⟨w.heap.size,0,none⟩=some v:=k4.cell (i:=0) oM;have G:=k4.lt;refine zS1 hc ?_;refine ck jz (k5.ext xZ) (m:=1) (news:= [.int .i64 x]) rfl ?_ rfl oM oM oM (λv' w4 k hf hn _=> ?_)
  ·intro j u hj;have e0:j=0:=by
    cases j with
    |zero=>rfl
    |succ j=>simp at hj
   subst e0;injection hj with hj;subst hj;exact (af.new w3 [Value.int .i64 x] 3).cell (i:=0) (by simp)
  ·have g4:Frm (λb=>v.ownBlock=some b) w3 w4:=(Frm.of_ext (Ext.alloc_self w3 _)).trans hf (λ_ _ h=>h);have c4:=k4.frm g4 (λh=>by have:=j6 _ h;omega);have E:=C.frm g4 (λh=>by have:=j6 _ h;omega);have d4:=(g4.block _ (aF k2) (λh=>by have:=j6 _ h;omega)).trans k2;have H:=c4.lt;have c:∀bb,v'.ownBlock=some bb->w.heap.size+3<=bb/\bb≠r:=λbb h=>by
    rcases hn bb h with h|h
    ·exact j6 bb h
    ·have:=g3.size;rw [size_alloc] at h;omega
   have c5:=c4.set v' (i:=0) oM;have a:Frm (λx=>x=w.heap.size) w4 (w4.setCell ⟨w.heap.size,0,none⟩ v'):=(Frm.refl _ w4).set v' (λ_=>rfl);have s5:=k.frm a (λbb h=>by have:=c bb h;omega);have p:=E.frm a oM;have d5:=(a.block _ (aF d4) oM).trans d4;have f:Frm (λx=>x=w.heap.size+1+1\/x=w.heap.size\/v.ownBlock=some x) w2 (w4.setCell ⟨w.heap.size,0,none⟩ v'):=((g3.mono (λx h=> .inl h)).trans g4 (λx _ h=> .inr (.inr h))).trans a (λx _ h=> .inr (.inl h));have q:w4.cell? ⟨w.heap.size,0,none⟩=some v:=c4.cell (i:=0) oM;have fz:=c4.frz 0;have iv:=jF k;simp (disch:=try exact dZ) only [↓RBp,↓RA,↓reduceIte,Nat.reduceAdd,Nat.reduceMul,Nat.reduceEqDiff,RB,RX,RA2,q,fz,iv,iH (t:=50) (by kernel_rfl) w.heap.size 0 v' w4 _ iv];refine ⟨p,λw6 g6 y=> ?_⟩;have n:=f.trans g6 (λx _ h=> .inl h);have gx:∀x,(x=w.heap.size+1+1\/x=w.heap.size\/v.ownBlock=some x)->w.heap.size<=x:=by
    rintro x (h|h|h)
    ·omega
    ·omega
    ·have:=j6 _ h;omega
   refine B w6 _ n ?_ ?_ ?_ ⟨y,(g6.block _ (aF d5) oM).trans d5,cJ j3 n gx,v',(c5.congr (λi hi=>by rw [show i=0 by omega];rfl)).frm g6 oM,?_,c⟩
   ·rintro (h|h|h)
    ·omega
    ·omega
    ·exact (j6 _ h).2 rfl
   ·rintro (h|h|h)
    ·omega
    ·omega
    ·have:=j6 _ h;omega
   ·rintro (h|h|h)
    ·omega
    ·omega
    ·have:=j6 _ h;omega
   ·have:=s5.frm g6 (λbb h=>by have:=c bb h;omega);have e:aX (s++ [x])=aX s++ [.int .i64 x]:=by simp
    rw [e,an];exact this
 ·obtain ⟨j1,j2,j3,v,j4,j5,j6⟩:=hj;refine ⟨.ready,none,by simp,j1,λw3 g3=> ?_⟩;have k4:=j4.frm g3 oM;have hc:w3.cell? ⟨w.heap.size,0,none⟩=some v:=k4.cell (i:=0) oM;unfold aac;simp (disch:=try exact dZ) only [↓RBp,↓RA,↓reduceIte,Nat.reduceAdd,Nat.reduceMul,Nat.reduceEqDiff,RB,RX,RA2,hc,rsK];have d3:=(g3.block _ (aF j2) oM).trans j2;refine ⟨d3,λw4 g4=> ?_⟩;have f:Frm (λx=>w.heap.size<=x) w2 w4:=(g3.mono (λx h=>by omega)).trans g4 (λx _ h=>by omega);refine hK s v w4 hp (cJ j3 f (λx h=>by omega)) (λbb h=>by have:=j6 bb h;omega) ((j5.frm g3 (λbb h=>by have:=j6 bb h;omega)).frm g4 (λbb h=>by have:=j6 bb h;omega))
def Pp (hm:bj .i64 w m L) (hb:af w b 159 1 (λ_=> .map (some m))) (hL:L.length<1000000) (K:K1)
  (hK:∀s v w',s.Perm (L.map (·.1))->Ext w w'->bw w.heap.size v->SlO w' 3 1 v s.length (aX s)->K v w'):
  ad prog 140 #[.func (.func 142) #[] #[.pointer (some ⟨b,0,none⟩)]] w K:=by
 refine Pd _ _ _ ?_;unfold Vi;refine zS0 ?_;exact VK hm hb hL _ hK
end
end Go.Proofs.YtmpehclnnjgmcaaGreatDoor
namespace Go.Proofs.YtmpehclnnjgmcaaGreatDoor
open Go Go.Sh Go.Sort Go.Shelf Go.Proofs
def adI:Go.Shelf.Ren:=⟨λ|5=>141|8=>180|7=>179|19=>197|20=>198|10=>188|11=>189|12=>190|13=>191|14=>192|15=>193|16=>194|17=>195|18=>196|30=>210|31=>211|32=>212|33=>213|34=>214|35=>215|40=>221|n=>n,λ|23=>50|25=>3|3=>3|32=>129|22=>50|0=>0|44=>126|46=>26|4=>4|36=>260|35=>259|41=>127|5=>5|9=>9|53=>276|57=>279|63=>284|64=>43|n=>n,λ|n=>n⟩
def acI:SlLaysM.n5 prog adI:={
 mixed:=by kernel_rfl
 f5:=⟨Tryz.f141.name,by decide,Tryz.func141.trans (congrArg some (by kernel_rfl))⟩
 f7:=⟨Tryz.f179.name,by decide,Tryz.func179.trans (congrArg some (by kernel_rfl))⟩
 f8:=Tryz.func180.trans (congrArg some (by kernel_rfl))
 f10:=⟨Tryz.f188.name,by decide,Tryz.func188.trans (congrArg some (by kernel_rfl))⟩
 f11:=⟨Tryz.f189.name,by decide,Tryz.func189.trans (congrArg some (by kernel_rfl))⟩
 f12:=⟨Tryz.f190.name,by decide,Tryz.func190.trans (congrArg some (by kernel_rfl))⟩
 f13:=⟨Tryz.f191.name,by decide,Tryz.func191.trans (congrArg some (by kernel_rfl))⟩
 f14:=⟨Tryz.f192.name,by decide,Tryz.func192.trans (congrArg some (by kernel_rfl))⟩
 f15:=⟨Tryz.f193.name,by decide,Tryz.func193.trans (congrArg some (by kernel_rfl))⟩
 f16:=⟨Tryz.f194.name,by decide,Tryz.func194.trans (congrArg some (by kernel_rfl))⟩
 f17:=⟨Tryz.f195.name,by decide,Tryz.func195.trans (congrArg some (by kernel_rfl))⟩
 f18:=⟨Tryz.f196.name,by decide,Tryz.func196.trans (congrArg some (by kernel_rfl))⟩
 f19:=Tryz.func197.trans (congrArg some (by kernel_rfl))
 f20:=Tryz.func198.trans (congrArg some (by kernel_rfl))
 f30:=⟨Tryz.f210.name,by decide,Tryz.func210.trans (congrArg some (by kernel_rfl))⟩
 f31:=Tryz.func211.trans (congrArg some (by kernel_rfl))
 f32:=Tryz.func212.trans (congrArg some (by kernel_rfl))
 f33:=⟨Tryz.f213.name,by decide,Tryz.func213.trans (congrArg some (by kernel_rfl))⟩
 f34:=⟨Tryz.f214.name,by decide,Tryz.func214.trans (congrArg some (by kernel_rfl))⟩
 f35:=⟨Tryz.f215.name,by decide,Tryz.func215.trans (congrArg some (by kernel_rfl))⟩
 f40:=⟨Tryz.f221.name,by decide,Tryz.func221.trans (congrArg some (by kernel_rfl))⟩
 t0:=Tryz.underlying0
 a0:=Tryz.isAgg0
 z0:=Tryz.sizeOf0
 v0:=Tryz.zeroValue0
 t3:=Tryz.underlying3
 a3:=Tryz.isAgg3
 z3:=Tryz.sizeOf3
 v3:=Tryz.zeroValue3
 t4:=Tryz.underlying4
 a4:=Tryz.isAgg4
 z4:=Tryz.sizeOf4
 v4:=Tryz.zeroValue4
 t5:=Tryz.underlying5
 a5:=Tryz.isAgg5
 z5:=Tryz.sizeOf5
 v5:=Tryz.zeroValue5
 t9:=Tryz.underlying9
 a9:=Tryz.isAgg9
 z9:=Tryz.sizeOf9
 v9:=Tryz.zeroValue9
 t22:=Tryz.underlying50
 a22:=Tryz.isAgg50
 z22:=Tryz.sizeOf50
 v22:=Tryz.zeroValue50
 t23:=Tryz.underlying50
 a23:=Tryz.isAgg50
 z23:=Tryz.sizeOf50
 v23:=Tryz.zeroValue50
 t25:=Tryz.underlying3
 a25:=Tryz.isAgg3
 z25:=Tryz.sizeOf3
 v25:=Tryz.zeroValue3
 t32:=Tryz.underlying129
 a32:=Tryz.isAgg129
 z32:=Tryz.sizeOf129
 v32:=Tryz.zeroValue129
 t35:=Tryz.underlying259
 a35:=Tryz.isAgg259
 z35:=Tryz.sizeOf259
 v35:=Tryz.zeroValue259
 t36:=Tryz.underlying260
 a36:=Tryz.isAgg260
 z36:=Tryz.sizeOf260
 v36:=Tryz.zeroValue260
 t41:=Tryz.underlying127
 a41:=Tryz.isAgg127
 z41:=Tryz.sizeOf127
 v41:=Tryz.zeroValue127
 t44:=Tryz.underlying126
 a44:=Tryz.isAgg126
 z44:=Tryz.sizeOf126
 v44:=Tryz.zeroValue126
 t46:=Tryz.underlying26
 a46:=Tryz.isAgg26
 z46:=Tryz.sizeOf26
 v46:=Tryz.zeroValue26
 t53:=Tryz.underlying276
 a53:=Tryz.isAgg276
 z53:=Tryz.sizeOf276
 v53:=Tryz.zeroValue276
 t57:=Tryz.underlying279
 a57:=Tryz.isAgg279
 z57:=Tryz.sizeOf279
 v57:=Tryz.zeroValue279
 t63:=Tryz.underlying284
 a63:=Tryz.isAgg284
 z63:=Tryz.sizeOf284
 v63:=Tryz.zeroValue284
 t64:=Tryz.underlying43
 a64:=Tryz.isAgg43
 z64:=Tryz.sizeOf43
 v64:=Tryz.zeroValue43}
def Pq {w:ab} {g o n:Nat} {os:Array Obj} {a:Array ca} {e:TypeId} {fr:Nat×Nat} (d:Array Int) (hb:w.heap[g]? =some (.cells a e fr)):
  (grow (putRow (Value.int .i64) (Sort.ahead w n) g o d) os).heap[g]? =some (.cells (putCells (Value.int .i64) o d a) e fr):=by
 have hg:g<w.heap.size:=(Array.getElem?_eq_some_iff.1 hb).1;rw [heap_grow_old _ _ (by simpa using hg)];simp [putRow,mapBlock,Sort.ahead,gT,hb,onCells]
def H9 {w:ab} {g o n:Nat} {os:Array Obj} (d:Array Int):Frm (λx=>x=g) w (grow (putRow (Value.int .i64) (Sort.ahead w n) g o d) os):=by
 refine ⟨rfl,rfl,rfl,by simp,λk hk a=> ?_⟩;rw [heap_grow_old _ _ (by simpa using hk)];have:g≠k:=λe=>a e.symm
 simp [putRow,mapBlock,Sort.ahead,gT,this]
def Ye {w:ab} {v:ca} {s:List Int} (hS:SlO w 3 1 v s.length (aX s)) (hl:s.length<1000000) (K:K1) (hK:∀w',Frm (λx=>v.ownBlock=some x) w w'->SlO w' 3 1 v s.length (aX (s.mergeSort λx y=>decide (x<=y)))->K (.tuple #[]) w'):
  ad prog 141 #[v] w K:=by
 rcases hS.2 with ⟨rfl,hz⟩|⟨b,o,cap,a,rfl,hb,h1,h2,h3,h4⟩
 ·have hs:s= []:=eo hz;subst hs;refine Calls.mono (AnyM.slices_Sort_int_none acI none 0 w) ?_;rintro e w' ⟨rfl,rfl⟩;exact hK _ (Frm.refl _ _) (by simpa using SlO.nil _ _ _)
 ·have hH:Holds (Value.int .i64) w b o s.toArray:=λj hj=>by
   have d:j<s.length:=by simpa using hj
   have:=h4 j (.int .i64 s[j]) (by simp [d]);refine ⟨?_,?_⟩
   ·simp only [World.cell?,hb,Option.isSome_none,f9,if_false,this];simp [d]
   ·have:=hS.frz (b:=b) rfl (o+j);exact this
  refine Calls.mono (AnyM.slices_Sort_int acI b o cap s w hH (aF hb) oM) ?_;rintro e w' ⟨rfl,nn,os,rfl⟩;have fr:=H9 (w:=w) (g:=b) (o:=o) (n:=nn) (os:=os) (s.mergeSort λx y=>decide (x<=y)).toArray;refine hK _ (fr.mono (λx e=>by rw [e];rfl)) ⟨by simp,.inr ⟨b,o,cap,_,rfl,Pq _ hb,h1,h2,by simpa [putCells] using h3,λi u hi=> ?_⟩⟩;have c:i<s.length:=by
   have:=(List.getElem?_eq_some_iff.1 hi).1;simpa using this
  have h:i<(s.mergeSort λx y=>decide (x<=y)).length:=by simpa using c
  simp only [aX,gi,e7 h,Option.map_some,Option.some.injEq] at hi;subst hi;have f:o+i<a.size:=oM;simp [putCells,f,c]
end Go.Proofs.YtmpehclnnjgmcaaGreatDoor
namespace Go.Proofs.YtmpehclnnjgmcaaGreatDoor
open Go Go.Sh
structure CgB where
 b:Nat
 t:ca
 k:ca
 d:ca
def CgB.own (c:CgB) (x:Nat):Prop:=x=c.b\/c.t.ownBlock=some x\/c.k.ownBlock=some x\/c.d.ownBlock=some x
def cgF (c:CgB) (i:Nat):ca:= [c.t,c.k,c.d].getD i undef
structure Chg (w:ab) (c:CgB) (T:List Int) (Ks:List Nat) (M:List Int):Prop where
 bx:af w c.b 162 3 (cgF c)
 t:SlO w 3 1 c.t T.length (aX T)
 k:SlO w 5 1 c.k Ks.length (u8L Ks)
 d:SlO w 3 1 c.d M.length (aX M)
 ne:c.t.ownBlock≠some c.b/\c.k.ownBlock≠some c.b/\c.d.ownBlock≠some c.b
 td:∀x,c.t.ownBlock=some x->c.d.ownBlock≠some x/\c.k.ownBlock≠some x
 kd:∀x,c.k.ownBlock=some x->c.d.ownBlock≠some x
def Chg.frm {w w':ab} {c:CgB} {T M:List Int} {Ks:List Nat} {G:Nat->Prop} (h:Chg w c T Ks M) (g:Frm G w w') (hG:∀x,c.own x->¬G x):Chg w' c T Ks M:=
 ⟨h.bx.frm g (hG _ (.inl rfl)),h.t.frm g (λb e=>hG _ (.inr (.inl e))),h.k.frm g (λb e=>hG _ (.inr (.inr (.inl e)))),h.d.frm g (λb e=>hG _ (.inr (.inr (.inr e)))),h.ne,h.td,h.kd⟩
def Chg.lt {w:ab} {c:CgB} {T M:List Int} {Ks:List Nat} (h:Chg w c T Ks M) {x:Nat} (hx:c.own x):x<w.heap.size:=by
 rcases hx with rfl|e|e|e
 ·exact h.bx.lt
 ·exact h.t.lt e
 ·exact h.k.lt e
 ·exact h.d.lt e
structure fv (N0:Nat) (w:ab) (mb cb n:Nat) (C:Nat->CgB) (lv:Nat->Bool) (T:Nat->List Int) (Ks:Nat->List Nat) (M:Nat->List Int):Prop where
 mp:∃L,bj .i64 w mb L/\(∀p∈L,∃k,k<n/\p.1=((26+32*k:Nat):Int))/\∀k,k<n->bz L ((26+32*k:Nat):Int)=if lv k=true then some (.pointer (some ⟨(C k).b,0,none⟩)) else none
 cx:af w cb 159 1 (λ_=> .map (some mb))
 ch:∀k,k<n->lv k=true->Chg w (C k) (T k) (Ks k) (M k)
 fr:∀k,k<n->lv k=true->∀x,(C k).own x->N0<=x/\x≠mb/\x≠cb
 dj:∀k j,k<n->j<n->lv k=true->lv j=true->∀x,(C k).own x->(C j).own x->k=j
 em:∀k,lv k=false->T k= []/\Ks k= []/\M k= []
 n0:N0<=mb/\N0<=cb/\mb≠cb
def upd {α:Type} (g:Nat->α) (k:Nat) (x:α) (j:Nat):α:=if j=k then x else g j
def ct {α:Type} (g:Nat->α) (k:Nat) (x:α):upd g k x k=x:=if_pos rfl
def cK {α:Type} (g:Nat->α) {k j:Nat} (x:α) (h:j≠k):upd g k x j=g j:=if_neg h
section
variable {w w':ab} {N0 mb cb n k:Nat} {C:Nat->CgB} {lv:Nat->Bool} {T M:Nat->List Int} {Ks:Nat->List Nat}
def fv.lt (h:fv N0 w mb cb n C lv T Ks M):mb<w.heap.size/\cb<w.heap.size:=by
 obtain ⟨L,a,_⟩:=h.mp;exact ⟨a.lt,h.cx.lt⟩
def fv.frm {G:Nat->Prop} (h:fv N0 w mb cb n C lv T Ks M) (g:Frm G w w') (hG:∀x,x<w.heap.size->N0<=x->¬G x):fv N0 w' mb cb n C lv T Ks M:=by
 obtain ⟨L,a,b,c⟩:=h.mp;exact ⟨⟨L,a.frm g (hG _ a.lt h.n0.1),b,c⟩,h.cx.frm g (hG _ h.cx.lt h.n0.2.1),λk hk hl=>(h.ch k hk hl).frm g (λx hx=>hG x ((h.ch k hk hl).lt hx) (h.fr k hk hl x hx).1),h.fr,h.dj,h.em,h.n0⟩
def fv.ext (h:fv N0 w mb cb n C lv T Ks M) (e:Ext w w'):fv N0 w' mb cb n C lv T Ks M:=
 h.frm (G:=λ_=>False) (Frm.of_ext e) (λ_ _ _ h=>h)
def fv.put {G:Nat->Prop} {c:CgB} {t m:List Int} {ks:List Nat} (h:fv N0 w mb cb n C lv T Ks M) (hk:k<n) (hl:lv k=true) (g:Frm G w w') (hG:∀x,G x->(C k).own x) (hb:c.b=(C k).b) (hc:Chg w' c t ks m) (hn:∀x,c.own x->(C k).own x\/w.heap.size<=x):fv N0 w' mb cb n (upd C k c) lv (upd T k t) (upd Ks k ks) (upd M k m):=by
 obtain ⟨L,a,b,d⟩:=h.mp;have lt:=h.lt;have n0:=h.n0;have fk:=h.fr k hk hl;refine ⟨⟨L,a.frm g (λhx=>(fk _ (hG _ hx)).2.1 rfl),b,λj hj=> ?_⟩,h.cx.frm g (λhx=>(fk _ (hG _ hx)).2.2 rfl),λj hj f=> ?_,λj hj f x hx=> ?_,λi j hi hj l f x hx hy=> ?_,λj f=> ?_,n0⟩
 ·rw [d j hj];by_cases e:j=k
  ·subst e;rw [ct,hb]
  ·rw [cK _ _ e]
 ·by_cases e:j=k
  ·subst e;simp only [ct];exact hc
  ·simp only [cK _ _ e];exact (h.ch j hj f).frm g (λx hx hg=>e (h.dj j k hj hk f hl x hx (hG x hg)))
 ·by_cases e:j=k
  ·subst e;rw [ct] at hx;rcases hn x hx with hx|hx
   ·exact fk x hx
   ·exact ⟨by omega,by omega,by omega⟩
  ·rw [cK _ _ e] at hx;exact h.fr j hj f x hx
 ·have old:∀j,j<n->lv j=true->j≠k->(C j).own x->¬w.heap.size<=x:=λj hj f _ hx=>by have:=(h.ch j hj f).lt hx;omega
  by_cases e:i=k
  ·by_cases e2:j=k
   ·omega
   ·subst e;rw [ct] at hx;rw [cK _ _ e2] at hy;rcases hn x hx with hx|hx
    ·exact h.dj _ _ hi hj l f x hx hy
    ·exact absurd hx (old j hj f e2 hy)
  ·by_cases e2:j=k
   ·subst e2;rw [ct] at hy;rw [cK _ _ e] at hx;rcases hn x hy with hy|hy
    ·exact h.dj _ _ hi hj l f x hx hy
    ·exact absurd hy (old i hi l e hx)
   ·rw [cK _ _ e] at hx;rw [cK _ _ e2] at hy;exact h.dj _ _ hi hj l f x hx hy
 ·have e:j≠k:=λe=>by rw [e,hl] at f;cases f
  simp only [cK _ _ e];exact h.em j f
def acJ (h:fv N0 w mb cb n C lv T Ks M) (hk:k<n) (hN:N0<=w.heap.size) (K:K1)
  (hK:∀w' C',Frm (λx=>x=mb) w w'->fv N0 w' mb cb n C' (upd lv k true) T Ks M->K (.pointer (some ⟨(C' k).b,0,none⟩)) w'):
  ad prog 95 #[.int .i64 ((26+32*k:Nat):Int),.pointer (some ⟨cb,0,none⟩)] w K:=by
 obtain ⟨L,a,b,d⟩:=h.mp;have lt:=h.lt;have n0:=h.n0;have hc:w.cell? ⟨cb,0,none⟩=some (.map (some mb)):=h.cx.cell (i:=0) oM;have f:∀(w1:ab) (K:K1),Ext w w1->ev prog (Instr.lookup 159 (.map (some mb)) (.int .i64 ((26+32*k:Nat):Int)) false) w1 K=K ((if lv k=true then some (.pointer (some ⟨(C k).b,0,none⟩)) else none:Option ca).getD (.pointer none)) w1:=λw1 K e=>by rw [di mTc (a.ext e),d k hk]
 refine U4 _ _ _ _ ?_;unfold Z6
 cases hl:lv k with
 |true=>
  rw [hl] at f;have hu:upd lv k true=lv:=by
   funext j;by_cases e:j=k
   ·subst e;rw [ct,hl]
   ·rw [cK _ _ e]
  simp (disch:=try exact dX) only [↓RBp,↓RA,↓reduceIte,Nat.reduceAdd,Nat.reduceMul,Nat.reduceEqDiff,RB,RX,RA2,hc,f,Option.getD_some];rw [xy];unfold tP;refine hK _ C (Frm.of_ext (Ext.refl _)) ?_;rw [hu];exact h
 |false=>
  rw [hl] at f;have q:=lt.1;have r:=lt.2;simp (disch:=try exact dX) only [↓RBp,↓RA,↓reduceIte,Nat.reduceAdd,Nat.reduceMul,Nat.reduceEqDiff,RB,RX,RA2,hc,f,Option.getD_none,f9];have hB:=af.new w [Value.slice none 0 0,Value.slice none 0 0,Value.slice none 0 0] 162;refine jc mTc (a.ext xZ) _ _ (λw3 m3 g3=> ?_);rw [xy];unfold tP;have l:Frm (λx=>x=mb) w w3:=(Frm.of_ext (Ext.alloc_self w _)).trans g3 (λ_ _ h=>h);have m:=hB.frm g3 oM;have em:=h.em k hl;have o:∀j,j<n->lv j=true->Chg w3 (C j) (T j) (Ks j) (M j):=λj hj c=>(h.ch j hj c).frm l (λx hx e=>(h.fr j hj c x hx).2.1 e)
  have ok:fv N0 w3 mb cb n (upd C k ⟨w.heap.size,.slice none 0 0,.slice none 0 0,.slice none 0 0⟩) (upd lv k true) T Ks M:=by
   refine ⟨⟨_,m3,λp hp=> ?_,λj hj=> ?_⟩,h.cx.frm l (λe=>n0.2.2 e.symm),λj hj c=> ?_,λj hj c x hx=> ?_,λi j hi hj g c x hx hy=> ?_,λj c=> ?_,n0⟩
   ·have:setL L ((26+32*k:Nat):Int) (.pointer (some ⟨w.heap.size,0,none⟩))=L++ [(((26+32*k:Nat):Int),.pointer (some ⟨w.heap.size,0,none⟩))]:=by
     unfold setL;rw [if_neg (by rw [d k hk,hl];simp)]
    rw [this] at hp;rcases List.mem_append.1 hp with hp|hp
    ·exact b p hp
    ·simp only [ap] at hp;subst hp;exact ⟨k,hk,rfl⟩
   ·rw [jR];by_cases e:j=k
    ·subst e;rw [if_pos rfl,ct,ct,if_pos rfl]
    ·rw [if_neg oM,cK _ _ e,cK _ _ e];exact d j hj
   ·by_cases e:j=k
    ·subst e;rw [ct,em.1,em.2.1,em.2.2];refine ⟨?_,SlO.nil _ _ _,SlO.nil _ _ _,SlO.nil _ _ _,⟨by simp [Value.ownBlock],by simp [Value.ownBlock],by simp [Value.ownBlock]⟩,λx h=>(by cases h),λx h=>(by cases h)⟩;exact m
    ·rw [cK _ _ e] at c ⊢;exact o j hj c
   ·by_cases e:j=k
    ·subst e;rw [ct] at hx;rcases hx with hx|hx|hx|hx
     ·have hx:x=w.heap.size:=hx;omega
     ·cases hx
     ·cases hx
     ·cases hx
    ·rw [cK _ _ e] at c hx;exact h.fr j hj c x hx
   ·have nw:∀j,j<n->lv j=true->(C j).own x->(CgB.own ⟨w.heap.size,.slice none 0 0,.slice none 0 0,.slice none 0 0⟩ x)->False:=λj hj c h1 h2=>by
     have:=(h.ch j hj c).lt h1;rcases h2 with h2|h2|h2|h2
     ·have h2:x=w.heap.size:=h2;omega
     ·cases h2
     ·cases h2
     ·cases h2
    by_cases e:i=k
    ·by_cases e2:j=k
     ·omega
     ·subst e;rw [ct] at hx;rw [cK _ _ e2] at hy c;exact (nw j hj c hy hx).elim
    ·by_cases e2:j=k
     ·subst e2;rw [ct] at hy;rw [cK _ _ e] at hx g;exact (nw i hi g hx hy).elim
     ·rw [cK _ _ e] at hx g;rw [cK _ _ e2] at hy c;exact h.dj _ _ hi hj g c x hx hy
   ·have e:j≠k:=λe=>by rw [e,ct] at c;cases c
    rw [cK _ _ e] at c;exact h.em j c
  have:=hK w3 _ l ok;rw [ct] at this;exact this
end
def VL {a:Int}:∀{L:List Int} {m:Nat},(∀x∈L,0<=x/\x<a)->(∀x∈L,aS m x.toNat=false)->L.Nodup->∃m',onc a L m=some m':=by
 intro L
 induction L with
 |nil=>intro m _ _ _;exact ⟨m,rfl⟩
 |cons x L ih=>
  intro m hr hb hn;simp only [onc];have h1:=hr x (by simp);have h2:=hb x (by simp);rw [if_pos ⟨h1,h2⟩];rw [cn] at hn;refine ih (λy hy=>hr y (by simp [hy])) (λy hy=> ?_) hn.2;rw [lX,kC,hb y (by simp [hy])];have c:=hr y (by simp [hy]);have b:y≠x:=λe=>hn.1 (e▸hy)
  have:¬x.toNat=y.toNat:=oM;simp [this]
def VM {c:Int} {L M:List Int} {ks:List Nat}:kV c L ks M↔ks.length=L.length/\(∀(i k:Nat),ks[i]? =some k->k≠0/\k<=127)/\(∀(i:Nat) (x:Int),(L++M)[i]? =some x->0<=x/\x<perS c)/\∀(i j:Nat) (x y:Int),j<i->(L++M)[i]? =some x->(L++M)[j]? =some y->y≠x:=by
 constructor
 ·intro h;have hL:=h.vL;have hM:=h.vM;obtain ⟨n1,n2,n3⟩:=h.nd;have nd:(L++M).Nodup:=by
   rw [gc];refine ⟨List.Pairwise.of_map Int.toNat (λa b h e=>h (by rw [e])) n1,List.Pairwise.of_map Int.toNat (λa b h e=>h (by rw [e])) n2,λa ha b hb e=> ?_⟩;subst e;have h1:=fE ha;have h2:=fE hb;rw [n3 _ h1] at h2;cases h2
  refine ⟨h.len,λi k hk=>h.kin k (eq hk),λi x hx=> ?_,λi j x y l hx hy e=> ?_⟩
  ·rcases List.mem_append.1 (eq hx) with h1|h1
   ·exact hL x h1
   ·exact hM x h1
  ·subst e;have hj:=(List.getElem?_eq_some_iff.1 hy).1;have:=(i0 hj nd).1 (hy.trans hx.symm);omega
 ·intro ⟨h1,h2,h3,h4⟩;have d:∀x∈L++M,0<=x/\x<perS c:=λx hx=>by
   obtain ⟨i,hi⟩:=List.mem_iff_getElem?.1 hx;exact h3 i x hi
  have nd:(L++M).Nodup:=by
   rw [List.nodup_iff_pairwise_ne,List.pairwise_iff_getElem];intro i j hi hj g e;exact h4 j i _ _ g (e7 hj) (e7 hi) e
  rw [gc] at nd;refine ⟨h1,λk hk=> ?_,?_⟩
  ·obtain ⟨i,hi⟩:=List.mem_iff_getElem?.1 hk;exact h2 i k hi
  ·obtain ⟨m,hm⟩:=VL (L:=L) (m:=0) (λx hx=>d x (by simp [hx])) (λx _=>by simp [aS]) nd.1;obtain ⟨_,_,hb⟩:=sV hm;obtain ⟨m',f⟩:=VL (L:=M) (m:=m) (λx hx=>d x (by simp [hx])) (λx hx=>by
    rw [hb]
    cases hh:dR L x.toNat with
    |false=>simp [aS]
    |true=>
     obtain ⟨y,hy,n⟩:=fm hh;have:=d x (by simp [hx]);have:=d y (by simp [hy]);have e:y=x:=oM;exact absurd e (nd.2.2 y hy x hx)) nd.2.1
   rw [hm,Option.bind_some,f];rfl
def dy {α β:Type} (g:α->β):∀{L:List α},(∀a∈L,∀b∈L,g a=g b->a=b)->L.Nodup->(L.map g).Nodup:=by
 intro L
 induction L with
 |nil=>intro _ _;simp
 |cons x L ih=>
  intro h hn;rw [cn] at hn;rw [cq,cn];refine ⟨λhm=> ?_,ih (λa ha b hb=>h a (cd _ ha) b (cd _ hb)) hn.2⟩;obtain ⟨y,hy,e⟩:=List.mem_map.1 hm;have:=h y (cd _ hy) x ec e;exact hn.1 (this▸hy)
def pX {α β:Type} {g:α->β}:∀{L:List α},(L.map g).Nodup->∀{a b:α},a∈L->b∈L->g a=g b->a=b:=by
 intro L
 induction L with
 |nil=>intro _ a b h;cases h
 |cons x L ih=>
  intro hn a b ha hb e;rw [cq,cn] at hn;rcases List.mem_cons.1 ha with h1|ha
  ·rcases List.mem_cons.1 hb with h2|hb
   ·rw [h1,h2]
   ·exact (hn.1 (List.mem_map.2 ⟨b,hb,by rw [<-e,h1]⟩)).elim
  ·rcases List.mem_cons.1 hb with h2|hb
   ·exact (hn.1 (List.mem_map.2 ⟨a,ha,by rw [e,h2]⟩)).elim
   ·exact ih hn.2 ha hb e
def Bk {α β:Type} {g:α->β} {L:List α} (h:(L.map g).Nodup):L.Nodup:=by
 induction L with
 |nil=>simp
 |cons x L ih=>
  rw [cq,cn] at h;rw [cn];exact ⟨λhm=>h.1 (List.mem_map.2 ⟨x,hm,rfl⟩),ih h.2⟩
def ixP (f:Idx) (p:Nat):Nat:=((pO p-(26+32*hk p)*64)/8-9)/((wordsS (f (hk p)).1).toNat+1)
def At (f:Idx) (n p k i:Nat):Prop:=k<n/\0<=(f k).1/\(f k).1<5/\(i:Int)<perS (f k).1/\pO p=pOff (26+32*k) (f k).1 i
section
variable {D D':DS} {f f':Idx} {n k i j l p q:Nat} {c o:Int} {keep free L R:List Nat}
def At.ix (h:At f n p k i):hk p=k/\ixP f p=i:=by
 obtain ⟨a1,a2,a3,a4,a5⟩:=h;obtain ⟨z,m,hz,hm,d,z3,g,c⟩:=mJ a2 a3;have a:hk p=k:=by
  have b:=je (k:=k) (n:=n) a2 a3 a4;unfold hk;rw [a5];exact b.2
 refine ⟨a,?_⟩;unfold ixP;rw [a,a5,hz];unfold pOff;rw [c];have e:((26+32*k)*64+(8+i*(z+1))*8+8-(26+32*k)*64)/8-9=i*(z+1):=by
  generalize i*(z+1)=m;omega
 rw [e,dl];exact Nat.mul_div_cancel _ oM
def At.self (h:At f n p k i):At f n p (hk p) (ixP f p):=by rw [h.ix.1,h.ix.2];exact h
def At.uniq (h:At f n p (hk p) (ixP f p)) (h':At f n q (hk q) (ixP f q)) (e1:hk p=hk q) (e2:ixP f p=ixP f q):pO p=pO q:=by
 rw [h.2.2.2.2,h'.2.2.2.2,e1,e2]
def Rsv.at_ (h:Rsv D f n p) (hn:26+32*n<=4096) (rg:RgS D 26 n f):At f n p (hk p) (ixP f p)/\bS (wd D (26+32*hk p) (offN (f (hk p)).1 (ixP f p)))=176/\p=ptrN (pO p) (bG (wd D (26+32*hk p) (offN (f (hk p)).1 (ixP f p)))) (pK p)/\pK p≠0/\pK p<=127/\p<72057594037927936/\p≠0:=by
 have kn:=h.kn hn rg;obtain ⟨k,i,kd,a1,a2,a3,a4,a5,a6,a7⟩:=h;have c5:=(rg.cls a1).1;have hh:=jQ (k:=k) (g:=bG (wd D (26+32*k) (offN (f k).1 i))) (kd:=kd) a2 c5 oM a3;rw [<-a4] at hh;have a:At f n p k i:=⟨a1,a2,c5,a3,hh.1⟩;have b:=dx (l:=26+32*k) oM a2 c5 a3;have c:pK p=kd:=by rw [a4];exact G8 _ _ _ b.2.1 (cU _) oM
 have e:=a.ix;refine ⟨a.self,?_,?_,by omega,by omega,kn.2.2.2.1,kn.2.2.1⟩
 ·rw [e.1,e.2];exact a5
 ·rw [e.1,e.2,c,hh.1];exact a4
def Liv.at_ (h:Liv D f n p) (hn:26+32*n<=4096) (rg:RgS D 26 n f):At f n p (hk p) (ixP f p)/\Bh D f n p (hk p) (ixP f p)/\p<72057594037927936/\p≠0:=by
 obtain ⟨k,i,h⟩:=h;have s:=h.sp hn rg;have a:At f n p k i:=⟨h.1,h.2.1,(rg.cls h.1).1,h.2.2.1,s.1⟩;have e:=a.ix;exact ⟨a.self,by rw [e.1,e.2];exact h,s.2.2.2.1,s.2.2.1⟩
def Liv.uniq (h:Liv D f n p) (h':Liv D f n q) (hn:26+32*n<=4096) (rg:RgS D 26 n f) (e1:hk p=hk q) (e2:ixP f p=ixP f q):p=q:=by
 have a:=(h.at_ hn rg).2.1;have b:=(h'.at_ hn rg).2.1;rw [a.2.2.2.1,b.2.2.2.1,e1,e2]
structure aZ (D:DS) (f:Idx) (n:Nat) (keep free:List Nat):Prop where
 rg:RgS D 26 n f
 nn:D.n<=4096
 kp:∀p∈keep,Rsv D f n p
 fr:∀p∈free,Liv D f n p
 nk:(keep.map pO).Nodup
 nf:free.Nodup
def tkL (f:Idx) (L:List Nat) (k:Nat):List Int:=(L.filter λp=>decide (hk p=k)).map λp=>(ixP f p:Int)
def knL (L:List Nat) (k:Nat):List Nat:=(L.filter λp=>decide (hk p=k)).map pK
def wsK (D:DS) (f:Idx) (keep free:List Nat) (k:Nat):List (Nat×Nat):=(gJ D (26+32*k) (f k).1 (tkL f keep k) (knL keep k) (tkL f free k)).getD []
def ce (D:DS) (f:Idx) (keep free:List Nat):Nat->List (Nat×Nat)
 |0=> []
 |m+1=>ce D f keep free m++wsK D f keep free m
def gE {x:Int}:x∈tkL f L k↔∃p∈L,hk p=k/\x=(ixP f p:Int):=by
 unfold tkL;simp only [kb,gp,decide_eq_true_eq];exact ⟨λ⟨p,⟨a,b⟩,c⟩=>⟨p,a,b,c.symm⟩,λ⟨p,a,b,c⟩=>⟨p,⟨a,b⟩,c.symm⟩⟩
def Bl:dR (tkL f L k) i=true↔∃p∈L,hk p=k/\ixP f p=i:=by
 constructor
 ·intro h;obtain ⟨x,hx,e⟩:=fm h;obtain ⟨p,a,b,c⟩:=gE.1 hx;exact ⟨p,a,b,by omega⟩
 ·rintro ⟨p,a,b,c⟩;have:=fE (gE.2 ⟨p,a,b,rfl⟩:((ixP f p:Nat):Int)∈tkL f L k);rw [<-c];simpa using this
def K9:(knL L k).length=(tkL f L k).length:=by simp [knL,tkL]
def VN:∀{L:List Nat},(∀p∈L,∀q∈L,hk p=hk q->ixP f p=ixP f q->p=q)->p∈L->hk p=k->kOf (tkL f L k) (knL L k) (ixP f p)=some (pK p):=by
 intro L
 induction L with
 |nil=>intro _ h;cases h
 |cons x L ih=>
  intro hu hp c;by_cases e:hk x=k
  ·have e1:tkL f (x::L) k=(ixP f x:Int)::tkL f L k:=by simp [tkL,e]
   have e2:knL (x::L) k=pK x::knL L k:=by simp [knL,e]
   rw [e1,e2,kOf];by_cases e3:ixP f x=ixP f p
   ·rw [if_pos oM];rw [hu x ec p hp oM e3]
   ·rw [if_neg oM];rcases List.mem_cons.1 hp with rfl|hp
    ·exact absurd rfl e3
    ·exact ih (λa ha b hb=>hu a (cd _ ha) b (cd _ hb)) hp c
  ·have e1:tkL f (x::L) k=tkL f L k:=by simp [tkL,e]
   have e2:knL (x::L) k=knL L k:=by simp [knL,e]
   rw [e1,e2];rcases List.mem_cons.1 hp with rfl|hp
   ·exact absurd c e
   ·exact ih (λa ha b hb=>hu a (cd _ ha) b (cd _ hb)) hp c
def VO (h:¬∃p∈L,hk p=k/\ixP f p=i):kOf (tkL f L k) (knL L k) i=none:=by
 cases hk0:kOf (tkL f L k) (knL L k) i with
 |none=>rfl
 |some x=>exact absurd (Bl.1 (Ah (D:=DS.zero 0) (l:=0) (c:=0) hk0).2.1) h
def abB:∀{L:List Int} {ks:List Nat} {a:List (Nat×Nat)} {b:Nat},ks.length=L.length->(∀x∈L,tkOk D l c x.toNat=true)->chT D l c L ks a b=some (a++gK D l c L ks,orL L b):=by
 intro L
 induction L with
 |nil=>intro ks a b _ _;rw [XP];cases ks<;>simp [gK,orL]
 |cons x L ih=>
  intro ks a b hl h
  cases ks with
  |nil=>simp at hl
  |cons y ks=>
   rw [Tp,if_pos (h x ec),ih (by simpa using hl) (λz hz=>h z (cd _ hz)),mK];simp [gK]
def Yf:∀{L:List Int} {a:List (Nat×Nat)} {b:Nat},(∀x∈L,dpOk D l c x.toNat=true)->jn D l c L a b=some (a++L.map (λx=>dpW D l c x.toNat),dpL D l c L b):=by
 intro L
 induction L with
 |nil=>intro a b _;rw [Tq];simp [dpL]
 |cons x L ih=>
  intro a b h;rw [Om,if_pos (h x ec),ih (λz hz=>h z (cd _ hz)),mM];simp
def Yg {L M:List Int} {ks:List Nat} (hl:ks.length=L.length) (h1:∀x∈L,tkOk D l c x.toNat=true) (h2:∀x∈M,dpOk D l c x.toNat=true):∃ws,gJ D l c L ks M=some ws:=by
 by_cases hne:L.length=0/\M.length=0
 ·exact ⟨[],by unfold gJ;rw [if_pos hne]⟩
 ·exact ⟨_,XQ hne (abB hl h1) (Yf h2)⟩
def aZ.n4 (P:aZ D f n keep free):26+32*n<=4096:=by have:=P.rg.lt;have:=P.nn;omega
def aZ.ku (P:aZ D f n keep free):∀p∈keep,∀q∈keep,hk p=hk q->ixP f p=ixP f q->p=q:=by
 intro p hp q hq e1 e2;have a:=((P.kp p hp).at_ P.n4 P.rg).1;have b:=((P.kp q hq).at_ P.n4 P.rg).1;have e:=a.uniq b e1 e2;exact pX P.nk hp hq e
def aZ.none (P:aZ D f n keep free) (h0:(f k).1<0\/n<=k):tkL f keep k= []/\tkL f free k= []/\wsK D f keep free k= []:=by
 have a1:tkL f keep k= []:=List.eq_nil_iff_forall_not_mem.2 λx hx=>by
  obtain ⟨p,hp,e,_⟩:=gE.1 hx;have:=((P.kp p hp).at_ P.n4 P.rg).1;rw [e] at this;have a:=this.1;have b:=this.2.1;omega
 have a2:tkL f free k= []:=List.eq_nil_iff_forall_not_mem.2 λx hx=>by
  obtain ⟨p,hp,e,_⟩:=gE.1 hx;have:=((P.fr p hp).at_ P.n4 P.rg).1;rw [e] at this;have a:=this.1;have b:=this.2.1;omega
 refine ⟨a1,a2,?_⟩;unfold wsK;rw [a1,a2];unfold gJ;rw [if_pos (by simp)];rfl
def acK (h:Snd D l c o) (hi:(i:Int)<perS c) (c0:0<=c) (c5:c<5) (a:bS (wd D l (offN c i))=176):tkOk D l c i=true:=by
 have hp:=aJ c0 c5;have b:=h.bit i oM;rw [a] at b;unfold tkOk;rw [h.sl i hi,b,h.gd i hi,a];simp
def acL (h:Snd D l c o) (hi:(i:Int)<perS c) (c0:0<=c) (c5:c<5) (a:bS (wd D l (offN c i))=177):dpOk D l c i=true:=by
 have b:=h.live c0 c5 hi a;unfold dpOk;rw [b.1,b.2.1,a];rfl
def aZ.act (P:aZ D f n keep free) (d:k<n) (h0:0<=(f k).1):kV (f k).1 (tkL f keep k) (knL keep k) (tkL f free k)/\gJ D (26+32*k) (f k).1 (tkL f keep k) (knL keep k) (tkL f free k)=some (wsK D f keep free k):=by
 have c5:=(P.rg.cls d).1;have s:=P.rg.sn k d h0;have kx:∀x∈tkL f keep k,∃p∈keep,hk p=k/\x=(ixP f p:Int)/\(ixP f p:Int)<perS (f k).1/\bS (wd D (26+32*k) (offN (f k).1 (ixP f p)))=176:=λx hx=>by
  obtain ⟨p,hp,e,e2⟩:=gE.1 hx;have a:=(P.kp p hp).at_ P.n4 P.rg;rw [e] at a;exact ⟨p,hp,e,e2,a.1.2.2.2.1,a.2.1⟩
 have fx:∀x∈tkL f free k,∃p∈free,hk p=k/\x=(ixP f p:Int)/\(ixP f p:Int)<perS (f k).1/\bS (wd D (26+32*k) (offN (f k).1 (ixP f p)))=177:=λx hx=>by
  obtain ⟨p,hp,e,e2⟩:=gE.1 hx;have a:=(P.fr p hp).at_ P.n4 P.rg;rw [e] at a;exact ⟨p,hp,e,e2,a.1.2.2.2.1,a.2.1.2.2.2.2⟩
 refine ⟨VM.2 ⟨K9,λi x hx=> ?_,λi x hx=> ?_,λi j x y g hx hy=> ?_⟩,?_⟩
 ·have:=eq hx;unfold knL at this;obtain ⟨p,hp,e⟩:=List.mem_map.1 this;have a:=(P.kp p (List.mem_filter.1 hp).1).at_ P.n4 P.rg;omega
 ·rcases List.mem_append.1 (eq hx) with h|h
  ·obtain ⟨p,_,_,e,b,_⟩:=kx x h;omega
  ·obtain ⟨p,_,_,e,b,_⟩:=fx x h;omega
 ·have nd:(tkL f keep k++tkL f free k).Nodup:=by
   refine List.nodup_append.2 ⟨?_,?_,λa ha b hb e=> ?_⟩
   ·unfold tkL;refine dy _ ?_ ((Bk P.nk).filter _);intro p hp q hq e;have hp:=List.mem_filter.1 hp;have hq:=List.mem_filter.1 hq;have a:=of_decide_eq_true hp.2;have b:=of_decide_eq_true hq.2;exact P.ku p hp.1 q hq.1 oM oM
   ·unfold tkL;refine dy _ ?_ (P.nf.filter _);intro p hp q hq e;have hp:=List.mem_filter.1 hp;have hq:=List.mem_filter.1 hq;have a:=of_decide_eq_true hp.2;have b:=of_decide_eq_true hq.2;exact (P.fr p hp.1).uniq (P.fr q hq.1) P.n4 P.rg oM oM
   ·obtain ⟨p,_,_,e1,_,s1⟩:=kx a ha;obtain ⟨q,_,_,e2,_,s2⟩:=fx b hb;have:ixP f p=ixP f q:=oM;rw [this] at s1;omega
  intro e;have:=(i0 (by rw [List.getElem?_eq_some_iff] at hy;exact hy.1) nd).1 (hy.trans (e▸hx.symm));omega
 ·obtain ⟨ws,hw⟩:=Yg (D:=D) (l:=26+32*k) (c:=(f k).1) (L:=tkL f keep k) (M:=tkL f free k) (ks:=knL keep k) K9 (λx hx=>by
   obtain ⟨p,_,_,e,b,s1⟩:=kx x hx;rw [e,dl];exact acK s b h0 c5 s1) (λx hx=>by
   obtain ⟨p,_,_,e,b,s1⟩:=fx x hx;rw [e,dl];exact acL s b h0 c5 s1)
  unfold wsK;rw [hw];rfl
end
section
variable {D D':DS} {f f':Idx} {n k i j l p q m:Nat} {c o:Int} {keep free L R:List Nat}
def Yh {L M:List Int} {ks:List Nat} {ws:List (Nat×Nat)} (ha:kV c L ks M) (h:gJ D l c L ks M=some ws):∀x∈ws,x.1=l*64+8\/∃i:Nat,(i:Int)<perS c/\x.1=l*64+offN c i*8:=by
 intro x hx;rcases (kD ha.len h).2.2 with ⟨e,_⟩|e
 ·rw [e] at hx;cases hx
 ·rw [e] at hx;rcases List.mem_append.1 hx with hx|hx
  ·rcases List.mem_append.1 hx with hx|hx
   ·obtain ⟨y,hy,k,_,e2,_⟩:=Cp hx;have:=ha.vL y hy;exact .inr ⟨y.toNat,by omega,by rw [e2];rfl⟩
   ·obtain ⟨y,hy,e2⟩:=List.mem_map.1 hx;have:=ha.vM y hy;exact .inr ⟨y.toNat,by omega,by rw [<-e2];rfl⟩
  ·simp only [ap] at hx;rw [hx];exact .inl rfl
def abC {L M:List Int} {ks:List Nat} {ws:List (Nat×Nat)} (c0:0<=c) (c5:c<5) (ha:kV c L ks M) (h:gJ D l c L ks M=some ws):(ws.map (·.1)).Nodup:=by
 have nd:=ha.nd;have bd:∀x:Int,0<=x/\x<perS c->8<=offN c x.toNat:=λx hx=>(aK c0 c5 (i:=x.toNat) oM).2.1
 have zm:∀(L:List Int) (ks:List Nat),ks.length=L.length->(gK D l c L ks).map (·.1)=L.map λx=>l*64+offN c x.toNat*8:=by
  intro L
  induction L with
  |nil=>intro ks _;cases ks<;>rfl
  |cons x L ih=>
   intro ks hk
   cases ks with
   |nil=>simp at hk
   |cons y ks=>simp only [gK,cq,ih ks (by simpa using hk)];rfl
 rcases (kD ha.len h).2.2 with ⟨e,_⟩|e
 ·rw [e];simp
 ·rw [e,cw,cw,zm _ _ ha.len,kj];have g:∀(L:List Int),(L.map Int.toNat).Nodup->(L.map λx=>l*64+offN c x.toNat*8).Nodup:=λL hL=>by
   have:(L.map λx=>l*64+offN c x.toNat*8)=(L.map Int.toNat).map λi=>l*64+offN c i*8:=by rw [kj];rfl
   rw [this];refine dy _ (λa _ b _ e=>jI c0 c5 ?_) hL;have e:l*64+offN c a*8=l*64+offN c b*8:=e;omega
  refine List.nodup_append.2 ⟨List.nodup_append.2 ⟨g L nd.1,g M nd.2.1,?_⟩,by simp,?_⟩
  ·intro a f b d e;obtain ⟨x,hx,rfl⟩:=List.mem_map.1 f;obtain ⟨y,hy,rfl⟩:=List.mem_map.1 d;have e:l*64+offN c x.toNat*8=l*64+offN c y.toNat*8:=e;have e2:=jI c0 c5 (show offN c x.toNat=offN c y.toNat by omega);have:=nd.2.2 x.toNat (fE hx);rw [e2,fE hy] at this;cases this
  ·intro a f b d e;simp only [cq,kc,ap] at d;rcases List.mem_append.1 f with h1|h1
   ·obtain ⟨x,hx,rfl⟩:=List.mem_map.1 h1;have:=bd x (ha.vL x hx);omega
   ·obtain ⟨x,hx,rfl⟩:=List.mem_map.1 h1;have:=bd x (ha.vM x hx);have d:b=l*64+8:=d;have e:l*64+offN c x.toNat*8=b:=e;omega
def aZ.actE (P:aZ D f n keep free) (b:k<n) (h0:0<=(f k).1):abd D (D.strs (wsK D f keep free k)) (26+32*k) (f k).1 (tkL f keep k) (knL keep k) (tkL f free k) (wsK D f keep free k):=by
 have a:=P.act b h0;exact abe P.rg.on P.rg.gd (by have:=P.rg.lt;omega) h0 (P.rg.cls b).1 a.1 a.2
def aZ.mem (P:aZ D f n keep free) (b:k<n):∀x∈wsK D f keep free k,(26+32*k)*64+8<=x.1/\x.1<(26+32*k)*64+2048/\x.1%8=0/\x.2<18446744073709551616:=by
 intro x hx;by_cases h0:(f k).1<0
 ·rw [(P.none (.inl h0)).2.2] at hx;cases hx
 ·have a:=P.act b oM;have e:=(P.actE b oM).ok x hx;rcases Yh a.1 a.2 x hx with h|⟨i,hi,h⟩
  ·exact ⟨by omega,by omega,e.1,e.2.2⟩
  ·have:=aK (show 0<=(f k).1 by omega) (P.rg.cls b).1 hi;exact ⟨by omega,by omega,e.1,e.2.2⟩
def aZ.all (P:aZ D f n keep free):∀m,m<=n->∀x∈ce D f keep free m,1664<=x.1/\x.1<(26+32*m)*64/\x.1%8=0/\x.2<18446744073709551616:=by
 intro m
 induction m with
 |zero=>intro _ x hx;cases hx
 |succ m ih=>
  intro hm x hx;rcases List.mem_append.1 hx with hx|hx
  ·have:=ih oM x hx;omega
  ·have:=P.mem (k:=m) oM x hx;omega
def aZ.nd (P:aZ D f n keep free):∀m,m<=n->((ce D f keep free m).map (·.1)).Nodup:=by
 intro m
 induction m with
 |zero=>intro _;simp [ce]
 |succ m ih=>
  intro hm;unfold ce;rw [cw];refine List.nodup_append.2 ⟨ih oM,?_,?_⟩
  ·by_cases h0:(f m).1<0
   ·rw [(P.none (.inl h0)).2.2];simp
   ·have a:=P.act (k:=m) oM oM;exact abC oM (P.rg.cls oM).1 a.1 a.2
  ·intro a ha b hb e;obtain ⟨x,hx,rfl⟩:=List.mem_map.1 ha;obtain ⟨y,hy,rfl⟩:=List.mem_map.1 hb;have:=P.all m oM x hx;have:=P.mem (k:=m) oM y hy;omega
def DX (m:Nat):∀L:List Nat,(L.filter λp=>decide (hk p<m+1)).length=(L.filter λp=>decide (hk p<m)).length+(L.filter λp=>decide (hk p=m)).length:=by
 intro L
 induction L with
 |nil=>rfl
 |cons x L ih=>
  simp only [dm];by_cases h1:hk x<m
  ·rw [if_pos (by simp;omega),if_pos (by simpa using h1),if_neg (by simp;omega)];simp only [eg,ih];omega
  ·by_cases h2:hk x=m
   ·rw [if_pos (by simp;omega),if_neg (by simpa using h1),if_pos (by simpa using h2)];simp only [eg,ih];omega
   ·rw [if_neg (by simp;omega),if_neg (by simpa using h1),if_neg (by simpa using h2)];exact ih
def aZ.len (P:aZ D f n keep free):∀m,m<=n->(ce D f keep free m).length<=2*((keep.filter λp=>decide (hk p<m)).length+(free.filter λp=>decide (hk p<m)).length):=by
 intro m
 induction m with
 |zero=>intro _;simp [ce]
 |succ m ih=>
  intro hm;have i:=ih oM;have a:=DX m keep;have b:=DX m free;have hl:(wsK D f keep free m).length<=2*((keep.filter λp=>decide (hk p=m)).length+(free.filter λp=>decide (hk p=m)).length):=by
   by_cases h0:(f m).1<0
   ·rw [(P.none (.inl h0)).2.2];simp
   ·have ac:=P.act (k:=m) oM oM;have e:=(P.actE (k:=m) oM oM).len;have e1:(tkL f keep m).length=(keep.filter λp=>decide (hk p=m)).length:=by simp [tkL]
    have e2:(tkL f free m).length=(free.filter λp=>decide (hk p=m)).length:=by simp [tkL]
    rw [e1,e2] at e;by_cases h1:(keep.filter λp=>decide (hk p=m)).length+(free.filter λp=>decide (hk p=m)).length=0
    ·have hw:=ac.2;unfold gJ at hw;rw [if_pos oM] at hw;injection hw with hw;rw [<-hw];simp
    ·omega
  unfold ce;rw [an];omega
def aZ.le (P:aZ D f n keep free):(ce D f keep free n).length<=2*(keep.length+free.length):=by
 have a:=P.len n (cj _);have b:=bv (λp=>decide (hk p<n)) keep;have c:=bv (λp=>decide (hk p<n)) free;omega
def aZ.at_ (P:aZ D f n keep free) (F:Nat->Nat):∀m,m<=n->(∀x,(26+32*m)*8<=x->aD (ce D f keep free m) F x=F x)/\∀k,k<m->∀j,j<256->aD (ce D f keep free m) F ((26+32*k)*8+j)=aD (wsK D f keep free k) F ((26+32*k)*8+j):=by
 intro m
 induction m with
 |zero=>intro _;exact ⟨λx _=>rfl,λk hk=>by omega⟩
 |succ m ih=>
  intro hm;have i:=ih oM;have a:∀(G:Nat->Nat) x,(x<(26+32*m)*8\/(26+32*(m+1))*8<=x)->aD (wsK D f keep free m) G x=G x:=λG x hx=>bi _ _ _ (λy hy=>by have:=P.mem (k:=m) oM y hy;omega)
  unfold ce;refine ⟨λx hx=> ?_,λk hk j hj=> ?_⟩
  ·rw [jb,a _ _ (.inr hx)];exact i.1 x oM
  ·rw [jb];by_cases e:k=m
   ·subst e;exact mz _ _ _ _ (i.1 _ oM)
   ·rw [a _ _ (.inl oM)];exact i.2 k oM j hj
structure pY (D D':DS) (f:Idx) (n:Nat) (keep free:List Nat):Prop where
 rg:RgS D' 26 n f
 blk:∀k,k<n->0<=(f k).1->∀i:Nat,(i:Int)<perS (f k).1->wd D' (26+32*k) (offN (f k).1 i)=Ai D (26+32*k) (f k).1 (tkL f keep k) (knL keep k) (tkL f free k) i
 rest:∀k,k<n->∀j,j<256->(∀i:Nat,0<=(f k).1->(i:Int)<perS (f k).1->j≠offN (f k).1 i)->j≠1->wd D' (26+32*k) j=wd D (26+32*k) j
def aZ.eff (P:aZ D f n keep free) (d:On D') (c:aH D') (hn:D'.n=D.n) (hc:∀j,208<=j->D'.cur j=aD (ce D f keep free n) D.cur j):pY D D' f n keep free:=by
 have w1:∀k,k<n->∀j,j<256->wd D' (26+32*k) j=wd (D.strs (wsK D f keep free k)) (26+32*k) j:=λk b j hj=>by
  have hw:=J7 P.rg.on (ws:=wsK D f keep free k) (λx hx=>by
   have:=P.mem b x hx;have:=P.rg.lt;exact ⟨by omega,by omega⟩)
  unfold wd;rw [hc _ oM,(P.at_ D.cur n (cj _)).2 k b j hj,hw.2]
 have w0:∀k,k<n->(f k).1<0->∀j,j<256->wd D' (26+32*k) j=wd D (26+32*k) j:=λk b h0 j hj=>by
  rw [w1 k b j hj,(P.none (.inl h0)).2.2];rfl
 have rs:∀k,k<n->∀j,j<256->(∀i:Nat,0<=(f k).1->(i:Int)<perS (f k).1->j≠offN (f k).1 i)->j≠1->wd D' (26+32*k) j=wd D (26+32*k) j:=λk b j hj h h1=>by
  by_cases h0:(f k).1<0
  ·exact w0 k b h0 j hj
  ·rw [w1 k b j hj];exact (P.actE b oM).rest j hj (λi hi=>h i oM hi) h1
 refine ⟨⟨d,c,by rw [hn];exact P.rg.lt,λk b=> ?_,λk b h0=> ?_⟩,λk b h0 i hi=> ?_,rs⟩
 ·have:=rs k b 0 oM (λi h0 hi=>by have:=aK h0 (P.rg.cls b).1 hi;omega) oM;rw [this];exact P.rg.ag k b
 ·have a:=P.act b h0;have s:=(P.rg.sn k b h0).act h0 (P.rg.cls b).1 a.1 (P.actE b h0);exact s.congr h0 (P.rg.cls b).1 (λj hj=>w1 k b j hj)
 ·rw [w1 k b _ (aK h0 (P.rg.cls b).1 hi).2.2];exact (P.actE b h0).blk i hi
def pY.kept (E:pY D D' f n keep free) (P:aZ D f n keep free) (hp:p∈keep):Bh D' f n p (hk p) (ixP f p):=by
 have a:=(P.kp p hp).at_ P.n4 P.rg;have b:=E.blk _ a.1.1 a.1.2.1 _ a.1.2.2.2.1;unfold Ai at b;rw [VN P.ku hp rfl] at b;simp only at b;have t:=kE (D:=D) (l:=26+32*hk p) (c:=(f (hk p)).1) (ixP f p) (pK p) (by have:=a.2.2.2.2.1;omega);refine ⟨a.1.1,a.1.2.1,a.1.2.2.2.1,?_,by rw [b];exact t.2.2.2⟩;rw [b,t.2.1,t.2.2.1,<-a.1.2.2.2.2];exact a.2.2.1
def pY.same (E:pY D D' f n keep free) (h:At f n q k i) (h1:¬∃p∈keep,hk p=k/\ixP f p=i) (h2:¬∃p∈free,hk p=k/\ixP f p=i):wd D' (26+32*k) (offN (f k).1 i)=wd D (26+32*k) (offN (f k).1 i):=by
 rw [E.blk k h.1 h.2.1 i h.2.2.2.1];unfold Ai;rw [VO h1];simp only;rw [if_neg (λh=>h2 (Bl.1 h))]
def pY.freed (E:pY D D' f n keep free) (P:aZ D f n keep free) (hp:p∈free):bG (wd D' (26+32*hk p) (offN (f (hk p)).1 (ixP f p)))=freG (pG p)/\bS (wd D' (26+32*hk p) (offN (f (hk p)).1 (ixP f p)))=freS (pG p):=by
 have a:=(P.fr p hp).at_ P.n4 P.rg;have g:=a.2.1.sp P.n4 P.rg;have b:=E.blk _ a.1.1 a.1.2.1 _ a.1.2.2.2.1;unfold Ai at b;have d:¬∃q∈keep,hk q=hk p/\ixP f q=ixP f p:=λ⟨q,hq,e1,e2⟩=>by
  have s:=((P.kp q hq).at_ P.n4 P.rg).2.1;rw [e1,e2] at s;have:=a.2.1.2.2.2.2;omega
 rw [VO d] at b;simp only at b;rw [if_pos (Bl.2 ⟨p,hp,rfl,rfl⟩)] at b;have t:=kF (D:=D) (l:=26+32*hk p) (c:=(f (hk p)).1) (ixP f p);rw [b];rw [g.2.2.2.2.1];exact ⟨t.2.1,t.2.2.2⟩
def Yi (g:Nat):freS g≠177:=by unfold freS;split<;>omega
def pY.liv (E:pY D D' f n keep free) (P:aZ D f n keep free):Liv D' f n q↔q∈keep\/(Liv D f n q/\q∉free):=by
 constructor
 ·rintro ⟨k,i,h⟩;have s:=h.sp P.n4 E.rg;have b:At f n q k i:=⟨h.1,h.2.1,(P.rg.cls h.1).1,h.2.2.1,s.1⟩;have ix:=b.ix;by_cases h1:∃p∈keep,hk p=k/\ixP f p=i
  ·obtain ⟨p,hp,e1,e2⟩:=h1;have a:=E.kept P hp;refine .inl ?_;have:Liv D' f n p:=⟨_,_,a⟩;have:=this.uniq ⟨k,i,h⟩ P.n4 E.rg oM oM;rw [<-this];exact hp
  ·by_cases h2:∃p∈free,hk p=k/\ixP f p=i
   ·obtain ⟨p,hp,e1,e2⟩:=h2;have a:=E.freed P hp;rw [e1,e2,h.2.2.2.2] at a;exact absurd a.2.symm (Yi _)
   ·have e:=E.same b h1 h2;have l0:Bh D f n q k i:=⟨h.1,h.2.1,h.2.2.1,by rw [<-e];exact h.2.2.2.1,by rw [<-e];exact h.2.2.2.2⟩;exact .inr ⟨⟨k,i,l0⟩,λhq=>h2 ⟨q,hq,ix⟩⟩
 ·rintro (h|⟨h,hf⟩)
  ·exact ⟨_,_,E.kept P h⟩
  ·have a:=h.at_ P.n4 P.rg;have h1:¬∃p∈keep,hk p=hk q/\ixP f p=ixP f q:=λ⟨p,hp,e1,e2⟩=>by
    have s:=((P.kp p hp).at_ P.n4 P.rg).2.1;rw [e1,e2] at s;have:=a.2.1.2.2.2.2;omega
   have h2:¬∃p∈free,hk p=hk q/\ixP f p=ixP f q:=λ⟨p,hp,e1,e2⟩=>hf (by
    have:=(P.fr p hp).uniq h P.n4 P.rg e1 e2;rw [<-this];exact hp)
   have e:=E.same a.1 h1 h2;exact ⟨_,_,a.2.1.1,a.2.1.2.1,a.2.1.2.2.1,by rw [e];exact a.2.1.2.2.2.1,by rw [e];exact a.2.1.2.2.2.2⟩
def pY.rsv (E:pY D D' f n keep free) (P:aZ D f n keep free) (h:Rsv D f n q) (hq:pO q∉keep.map pO):Rsv D' f n q:=by
 have a:=h.at_ P.n4 P.rg;have h1:¬∃p∈keep,hk p=hk q/\ixP f p=ixP f q:=λ⟨p,hp,e1,e2⟩=>hq (by
  have b:=((P.kp p hp).at_ P.n4 P.rg).1;rw [<-b.uniq a.1 e1 e2];exact List.mem_map.2 ⟨p,hp,rfl⟩)
 have h2:¬∃p∈free,hk p=hk q/\ixP f p=ixP f q:=λ⟨p,hp,e1,e2⟩=>by
  have b:=((P.fr p hp).at_ P.n4 P.rg).2.1.2.2.2.2;rw [e1,e2] at b;have:=a.2.1;omega
 have e:=E.same a.1 h1 h2;refine ⟨hk q,ixP f q,pK q,a.1.1,a.1.2.1,a.1.2.2.2.1,?_,by rw [e];exact a.2.1,a.2.2.2.1,a.2.2.2.2.1⟩;rw [e,<-a.1.2.2.2.2];exact a.2.2.1
end
def lvL (L:List Nat) (k:Nat):Bool:=L.any λp=>decide (hk p=k)
def La (f:Idx) (L:List Nat) (p:Nat):tkL f (L++ [p])=upd (tkL f L) (hk p) (tkL f L (hk p)++ [(ixP f p:Int)]):=by
 funext j;unfold upd tkL;by_cases e:j=hk p
 ·subst e;simp
 ·have e':¬hk p=j:=λh=>e h.symm
  rw [if_neg e];simp [e']
def Yj (L:List Nat) (p:Nat):knL (L++ [p])=upd (knL L) (hk p) (knL L (hk p)++ [pK p]):=by
 funext j;unfold upd knL;by_cases e:j=hk p
 ·subst e;simp
 ·have e':¬hk p=j:=λh=>e h.symm
  rw [if_neg e];simp [e']
def Lb (L:List Nat) (p:Nat):lvL (L++ [p])=upd (lvL L) (hk p) true:=by
 funext j;unfold upd lvL;by_cases e:j=hk p
 ·subst e;simp
 ·have e':¬hk p=j:=λh=>e h.symm
  rw [if_neg e];simp [e']
def tY {α:Type} (g:Nat->α) (k:Nat):upd g k (g k)=g:=by
 funext j;by_cases e:j=k
 ·subst e;exact ct _ _ _
 ·exact cK _ _ e
def Chg.take {w w2 w3:ab} {c:CgB} {T M:List Int} {Ks:List Nat} {v2 v3:ca} {x:Int} {y:Nat} (h:Chg w c T Ks M) (l:SlO w2 3 1 v2 (T.length+1) (aX T++ [.int .i64 x])) (a:Frm (λb=>c.t.ownBlock=some b) w w2) (g:∀b,v2.ownBlock=some b->c.t.ownBlock=some b\/w.heap.size<=b)
  (n:SlO w3 5 1 v3 (Ks.length+1) (u8L Ks++ [.int .u8 (y:Int)])) (f:Frm (λb=>c.k.ownBlock=some b) w2 w3) (j:∀b,v3.ownBlock=some b->c.k.ownBlock=some b\/w2.heap.size<=b):
  Chg ((w3.setCell ⟨c.b,0,none⟩ v2).setCell ⟨c.b,1,none⟩ v3) ⟨c.b,v2,v3,c.d⟩ (T++ [x]) (Ks++ [y]) M/\Frm c.own w ((w3.setCell ⟨c.b,0,none⟩ v2).setCell ⟨c.b,1,none⟩ v3)/\∀z,CgB.own ⟨c.b,v2,v3,c.d⟩ z->c.own z\/w.heap.size<=z:=by
 have lb:=h.bx.lt;have n2:v2.ownBlock≠some c.b:=λe=>(g _ e).elim h.ne.1 (λh=>by omega)
 have n3:v3.ownBlock≠some c.b:=λe=>(j _ e).elim h.ne.2.1 (λh=>by have:=a.size;omega)
 have m:∀z,v2.ownBlock=some z->c.k.ownBlock≠some z:=λz e e2=>(g _ e).elim (λe=>(h.td z e).2 e2) (λh1=>by have:=h.k.lt e2;omega)
 have b2:=h.bx.frm a h.ne.1;have b3:=b2.frm f h.ne.2.1;have b5:=(b3.set (i:=0) v2 oM).set (i:=1) v3 oM;have g5:Frm (λz=>z=c.b) w3 ((w3.setCell ⟨c.b,0,none⟩ v2).setCell ⟨c.b,1,none⟩ v3):=Frm.set (F:=λz=>z=c.b) (Frm.set (F:=λz=>z=c.b) (Frm.refl _ w3) (p:=⟨c.b,0,none⟩) v2 (λ_=>rfl)) (p:=⟨c.b,1,none⟩) v3 (λ_=>rfl);refine ⟨⟨?_,?_,?_,?_,⟨n2,n3,h.ne.2.2⟩,λz e=>⟨λe2=> ?_,λe2=> ?_⟩,λz e e2=> ?_⟩,?_,λz hz=> ?_⟩
 ·refine b5.congr (λi hi=> ?_);rcases i with _|_|_|i
  ·rfl
  ·rfl
  ·rfl
  ·omega
 ·have:=(l.frm f (λb e=>m b e)).frm g5 (λb e e2=>n2 (by rw [e,e2]));simpa using this
 ·have:=n.frm g5 (λb e e2=>n3 (by rw [e,e2]));simpa using this
 ·exact ((h.d.frm a (λb e e2=>(h.td b e2).1 e)).frm f (λb e e2=>h.kd b e2 e)).frm g5 (λb e e2=>h.ne.2.2 (by rw [e,e2]))
 ·exact (g _ e).elim (λe=>(h.td z e).1 e2) (λh1=>by have:=h.d.lt e2;omega)
 ·exact (j _ e2).elim (λe3=>m z e e3) (λh1=>by have:=l.lt e;omega)
 ·exact (j _ e).elim (λe=>h.kd z e e2) (λh1=>by have:=h.d.lt e2;have:=a.size;omega)
 ·refine ((a.mono (λz e=>(.inr (.inl e):c.own z))).trans f (λz _ e=> .inr (.inr (.inl e)))).trans g5 (λz _ e=> .inl e)
 ·rcases hz with e|e|e|e
  ·exact .inl (.inl e)
  ·exact (g _ e).elim (λe=> .inl (.inr (.inl e))) .inr
  ·exact (j _ e).elim (λe=> .inl (.inr (.inr (.inl e)))) (λh=> .inr (by have:=a.size;omega))
  ·exact .inl (.inr (.inr (.inr e)))
def Chg.drop {w w2:ab} {c:CgB} {T M:List Int} {Ks:List Nat} {v2:ca} {x:Int} (h:Chg w c T Ks M) (g:SlO w2 3 1 v2 (M.length+1) (aX M++ [.int .i64 x])) (f:Frm (λb=>c.d.ownBlock=some b) w w2) (a:∀b,v2.ownBlock=some b->c.d.ownBlock=some b\/w.heap.size<=b):
  Chg (w2.setCell ⟨c.b,2,none⟩ v2) ⟨c.b,c.t,c.k,v2⟩ T Ks (M++ [x])/\Frm c.own w (w2.setCell ⟨c.b,2,none⟩ v2)/\∀z,CgB.own ⟨c.b,c.t,c.k,v2⟩ z->c.own z\/w.heap.size<=z:=by
 have lb:=h.bx.lt;have n2:v2.ownBlock≠some c.b:=λe=>(a _ e).elim h.ne.2.2 (λh=>by omega)
 have b2:=h.bx.frm f h.ne.2.2;have b5:=b2.set (i:=2) v2 oM;have g5:Frm (λz=>z=c.b) w2 (w2.setCell ⟨c.b,2,none⟩ v2):=(Frm.refl _ w2).set v2 (λ_=>rfl);refine ⟨⟨?_,?_,?_,?_,⟨h.ne.1,h.ne.2.1,n2⟩,λz e=>⟨λe2=> ?_,(h.td z e).2⟩,λz e e2=> ?_⟩,?_,λz hz=> ?_⟩
 ·refine b5.congr (λi hi=> ?_);rcases i with _|_|_|i
  ·rfl
  ·rfl
  ·rfl
  ·omega
 ·exact (h.t.frm f (λb e e2=>(h.td b e).1 e2)).frm g5 (λb e e2=>h.ne.1 (by rw [e,e2]))
 ·exact (h.k.frm f (λb e e2=>h.kd b e e2)).frm g5 (λb e e2=>h.ne.2.1 (by rw [e,e2]))
 ·have:=g.frm g5 (λb e e2=>n2 (by rw [e,e2]));simpa using this
 ·exact (a _ e2).elim (λe2=>(h.td z e).1 e2) (λh1=>by have:=h.t.lt e;omega)
 ·exact (a _ e2).elim (λe2=>h.kd z e e2) (λh1=>by have:=h.k.lt e;omega)
 ·exact (f.mono (λz e=>(.inr (.inr (.inr e)):c.own z))).trans g5 (λz _ e=> .inl e)
 ·rcases hz with e|e|e|e
  ·exact .inl (.inl e)
  ·exact .inl (.inr (.inl e))
  ·exact .inl (.inr (.inr (.inl e)))
  ·exact (a _ e).elim (λe=> .inl (.inr (.inr (.inr e)))) .inr
section
variable {w0 wN w w':ab} {Y:Lay} {D:DS} {H:HL} {n mb cb:Nat} {f:Idx} {R keep free:List Nat} {C:Nat->CgB}
def qX (f:Idx) (L:List Nat) (k:Nat):(tkL f L k).length<=L.length:=by unfold tkL;rw [dk];exact bv _ _
def acM (h:HpS w0 wN Y D H n f R) (e:Ext wN w) (hC:fv wN.heap.size w mb cb n C (λ_=>false) (λ_=> []) (λ_=> []) (λ_=> [])) {m:Nat} {a:Option Addr} {cap:Nat} (hS:RdS m wN (.slice a keep.length cap) (bL keep)) (a5:keep.length<1000000) (kp:∀p∈keep,Rsv D f n p) (v2:ca) (K:K1)
  (hK:∀w' C',Ext wN w'->fv wN.heap.size w' mb cb n C' (lvL keep) (tkL f keep) (knL keep) (λ_=> [])->HC K (hpV H) v2 (.pointer (some ⟨cb,0,none⟩)) (.func (.func 95) #[] #[.pointer (some ⟨cb,0,none⟩)]) w'):
  HD K (hpV H) v2 (.pointer (some ⟨cb,0,none⟩)) (.func (.func 95) #[] #[.pointer (some ⟨cb,0,none⟩)]) (.slice a keep.length cap) (.int .i64 (keep.length:Int)) (.int .i64 0) w:=by
 have a6:=h.n4;have n0:=hC.n0;refine C6 _ _ _ _ _ _ _ _ _ (λz w1=>∃j C',z= .int .i64 ((j:Nat):Int)/\j<=keep.length/\Ext wN w1/\fv wN.heap.size w1 mb cb n C' (lvL (keep.take j)) (tkL f (keep.take j)) (knL (keep.take j)) (λ_=> [])) (λz _=>keep.length-(intOf z).toNat) ⟨0,C,rfl,by omega,e,hC⟩ ?_;intros;rename_i z w1 hI E1 P;obtain ⟨j,C1,rfl,hj,e1,c1⟩:=hI;by_cases hjl:j<keep.length
 ·obtain ⟨sb,so,sc,o,hc⟩:=(hS.ext e1).get (fo hjl);injection o with o _ ev2;subst o;subst ev2;obtain ⟨p,hp⟩:∃p,keep[j]=p:=⟨_,rfl⟩;have N:p∈keep:=hp▸cO hjl;have a1:=((kp p N).at_ oM h.rg);obtain ⟨k,v⟩:∃k,hk p=k:=⟨_,rfl⟩;have ht:keep.take (j+1)=keep.take j++ [p]:=by rw [dd hjl,hp]
  have L:∀wF C',Ext wN wF->fv wN.heap.size wF mb cb n C' (upd (lvL (keep.take j)) k true) (upd (tkL f (keep.take j)) k (tkL f (keep.take j) k++ [(ixP f p:Int)])) (upd (knL (keep.take j)) k (knL (keep.take j) k++ [pK p])) (λ_=> [])->E1 (.int .i64 ((j+1:Nat):Int)) wF:=λwF C' eF cF=>by
   apply P
   ·refine ⟨j+1,C',rfl,by omega,eF,?_⟩;rw [ht,Lb,La,Yj,v];exact cF
   ·simp [intOf];omega
  rw [hp] at hc;have a0:=a1.1;rw [v] at a0;have U:=λ(w2:ab) (e2:Ext wN w2) (K:K1) hK=>Bi (h.ext e2) a0.1 a0.2.1 a0.2.2.2.1 (show p<18446744073709551616 by omega) a0.2.2.2.2 K hK
  have A:∀(w2:ab) (K:K1),ad prog 60 #[.int .u64 (p:Int)] w2 K=K (.int .u8 ((pK p:Nat):Int)) w2:=λw2 K=>ja p w2 K oM
  have lT:=qX f (keep.take j) k;have lK:(knL (keep.take j) k).length<=(keep.take j).length:=by unfold knL;rw [dk];exact bv _ _
  have lj:(keep.take j).length=j:=by rw [i2];omega
  have e5:(j:Int)+1=((j+1:Nat):Int):=oM;generalize tkL f (keep.take j)=T at*;generalize knL (keep.take j)=Ks at*;generalize lvL (keep.take j)=lv at*;generalize (f k).1=cc at*;generalize ixP f p=ii at*;generalize hpk:pK p=pk at*;unfold tz;refine zS1 hc ?_;refine U _ (e1.trans xZ) _ (λw2 e2=> ?_);have c2:=(c1.ext (Ext.trans xZ e2));have I:=e1.trans (Ext.trans xZ e2);refine zS0 ?_;rw [DR (by kernel_rfl)];simp only [h9,gn,i3,e8];refine acJ c2 a0.1 I.size _ (λw3 C3 g3 c3=> ?_);have O:Ext wN w3:=cJ I g3 (λx hx=>by omega);have g:=c3.ch k a0.1 (ct _ _ _);obtain ⟨c,F⟩:∃c,C3 k=c:=⟨_,rfl⟩;have s:=λ{wF c' t ks}=>c3.put (w':=wF) (c:=c') (t:=t) (m:= []) (ks:=ks) (G:=(C3 k).own) a0.1 (ct _ _ _)
  rw [F] at g s ⊢;have d0:w3.cell? ⟨c.b,0,none⟩=some c.t:=g.bx.cell (i:=0) oM;have d1:w3.cell? ⟨c.b,1,none⟩=some c.k:=g.bx.cell (i:=1) oM;have ltb:=g.bx.lt
  (repeat' first|refine ak (λ_=> ?_) (λ_=> ?_)|refine am ?_ ?_|refine fC d0 d1 ?_|exact F6 d0 d1|fail)
  refine ck jz (g.t.ext xZ) (m:=1) (news:= [.int .i64 (ii:Int)]) rfl ?_ rfl oM oM oM (λv3 w4 E S M _=> ?_)
  ·intro q u hq;have e0:q=0:=by
    cases q with
    |zero=>rfl
    |succ q=>simp at hq
   subst e0;injection hq with hq;subst hq;exact (af.new w3.drew [Value.int .i64 (ii:Int)] 3).cell (i:=0) (by simp)
  have l:Frm (λb=>c.t.ownBlock=some b) w3 w4:=(Frm.of_ext (show Ext w3 _ from Ext.alloc (Ext.drew (Ext.refl _)) _)).trans S (λ_ _ h=>h);have b4:=g.bx.frm l g.ne.1;have B:w4.cell? ⟨c.b,1,none⟩=some c.k:=b4.cell (i:=1) oM;have a3:=b4.lt
  (repeat' first|refine ak (λ_=> ?_) (λ_=> ?_)|refine am ?_ ?_|refine fC B A ?_|exact F6 B A|fail)
  have k4:=g.k.frm l (λb e e2=>(g.td b e2).2 e);refine ck BT (k4.ext xZ) (m:=1) (news:= [.int .u8 (pk:Int)]) rfl ?_ rfl oM oM oM (λv5 w6 y Z V _=> ?_)
  ·intro q u hq;have e0:q=0:=by
    cases q with
    |zero=>rfl
    |succ q=>simp at hq
   subst e0;injection hq with hq;subst hq;exact (af.new w4 [Value.int .u8 (pk:Int)] 5).cell (i:=0) (by simp)
  have r:Frm (λb=>c.k.ownBlock=some b) w4 w6:=(Frm.of_ext (Ext.alloc_self w4 _)).trans Z (λ_ _ h=>h);have b6:=b4.frm r g.ne.2.1;have d6:w6.cell? ⟨c.b,0,none⟩=some c.t:=b6.cell (i:=0) oM;have d7:w6.cell? ⟨c.b,1,none⟩=some c.k:=b6.cell (i:=1) oM;have fz:=b6.frz;have a4:=b6.lt;have b7:=b6.set (i:=0) v3 oM;have d8:(w6.setCell ⟨c.b,0,none⟩ v3).cell? ⟨c.b,1,none⟩=some c.k:=b7.cell (i:=1) oM;have Q:=b7.frz 1;have X:=jF E;have W:=jF y;have J:SlO w4 3 1 v3 ((T k).length+1) (aX (T k)++ [.int .i64 (ii:Int)]):=E;have tk:=g.take J l (λb hb=>(M b hb).imp id (λh=>by simp only [RZ] at h;omega)) y r (λb hb=>(V b hb).imp id (λh=>by rw [size_alloc] at h;omega));have fF:=s (c':=⟨c.b,v3,v5,c.d⟩) tk.2.1 (λx hx=>hx) rfl tk.1 tk.2.2;have eF:Ext wN ((w6.setCell ⟨c.b,0,none⟩ v3).setCell ⟨c.b,1,none⟩ v5):=cJ O tk.2.1 (λx hx=>(c3.fr k a0.1 (ct _ _ _) x (by rw [F];exact hx)).1);simp (disch:=try exact dZ) only [↓RBp,↓RA,↓reduceIte,Nat.reduceAdd,Nat.reduceMul,Nat.reduceEqDiff,RB,RX,RA2,d6,d7,fz,d8,Q,iH (t:=50) (by kernel_rfl) c.b 0 v3 w6 _ X,iH (t:=51) (by kernel_rfl) c.b 1 v5 (w6.setCell ⟨c.b,0,none⟩ v3) _ W,e5];have un:upd (λ_=>([]:List Int)) k []=λ_=> []:=tY _ _
  rw [un] at fF;exact L _ _ eF fF
 ·have a2:j=keep.length:=oM;subst a2;rw [ef] at c1;unfold tz;refine zS0 ?_;exact hK _ C1 e1 c1
def acN (h:HpS w0 wN Y D H n f R) (e:Ext wN w) (hC:fv wN.heap.size w mb cb n C (lvL keep) (tkL f keep) (knL keep) (λ_=> [])) {m:Nat} {a:Option Addr} {cap:Nat} (hS:RdS m wN (.slice a free.length cap) (bL free)) (W:free.length<1000000) (fr:∀p∈free,Liv D f n p) (K:K1)
  (hK:∀w' C',Ext wN w'->fv wN.heap.size w' mb cb n C' (λk=>lvL keep k||lvL free k) (tkL f keep) (knL keep) (tkL f free)->AI K (hpV H) (.pointer (some ⟨cb,0,none⟩)) w'):
  HE K (hpV H) (.pointer (some ⟨cb,0,none⟩)) (.func (.func 95) #[] #[.pointer (some ⟨cb,0,none⟩)]) (.slice a free.length cap) (.int .i64 (free.length:Int)) (.int .i64 0) w:=by
 have X:=h.n4;have n0:=hC.n0;refine C8 _ _ _ _ _ _ _ _ (λz w1=>∃j C',z= .int .i64 ((j:Nat):Int)/\j<=free.length/\Ext wN w1/\fv wN.heap.size w1 mb cb n C' (λk=>lvL keep k||lvL (free.take j) k) (tkL f keep) (knL keep) (tkL f (free.take j))) (λz _=>free.length-(intOf z).toNat) ⟨0,C,rfl,by omega,e,by
  have e1:(λk=>lvL keep k||lvL (free.take 0) k)=lvL keep:=by funext k;simp [lvL]
  have e2:tkL f (free.take 0)=λ_=> []:=by funext k;simp [tkL]
  rw [e1,e2];exact hC⟩ ?_
 intros;rename_i z w1 hI E1 Q;obtain ⟨j,C1,rfl,hj,e1,c1⟩:=hI;by_cases hjl:j<free.length
 ·obtain ⟨sb,so,sc,l,hc⟩:=(hS.ext e1).get (fo hjl);injection l with l _ ev2;subst l;subst ev2;obtain ⟨p,hp⟩:∃p,free[j]=p:=⟨_,rfl⟩;have J:p∈free:=hp▸cO hjl;have P:=((fr p J).at_ oM h.rg);obtain ⟨k,o⟩:∃k,hk p=k:=⟨_,rfl⟩;have ht:free.take (j+1)=free.take j++ [p]:=by rw [dd hjl,hp]
  have E:∀wF C',Ext wN wF->fv wN.heap.size wF mb cb n C' (upd (λk=>lvL keep k||lvL (free.take j) k) k true) (tkL f keep) (knL keep) (upd (tkL f (free.take j)) k (tkL f (free.take j) k++ [(ixP f p:Int)]))->E1 (.int .i64 ((j+1:Nat):Int)) wF:=λwF C' eF cF=>by
   apply Q
   ·refine ⟨j+1,C',rfl,by omega,eF,?_⟩;have el:(λk=>lvL keep k||lvL (free.take (j+1)) k)=upd (λk=>lvL keep k||lvL (free.take j) k) k true:=by
     funext q;rw [ht,Lb,o];unfold upd;by_cases e:q=k
     ·rw [if_pos e,if_pos e,ko]
     ·rw [if_neg e,if_neg e]
    rw [el,ht,La,o];exact cF
   ·simp [intOf];omega
  rw [hp] at hc;have a0:=P.1;rw [o] at a0;have I:=λ(w2:ab) (e2:Ext wN w2) (K:K1) hK=>Bi (h.ext e2) a0.1 a0.2.1 a0.2.2.2.1 (show p<18446744073709551616 by omega) a0.2.2.2.2 K hK
  have lT:=qX f (free.take j) k;have lj:(free.take j).length=j:=by rw [i2];omega
  have e5:(j:Int)+1=((j+1:Nat):Int):=oM;generalize tkL f (free.take j)=M at*;generalize tkL f keep=T at*;generalize knL keep=Ks at*;generalize (λk=>lvL keep k||lvL (free.take j) k)=lv at*;generalize (f k).1=cc at*;generalize ixP f p=ii at*;unfold tA;refine zS1 hc ?_;refine I _ (e1.trans xZ) _ (λw2 e2=> ?_);have c2:=(c1.ext (Ext.trans xZ e2));have A:=e1.trans (Ext.trans xZ e2);refine zS0 ?_;rw [DR (by kernel_rfl)];simp only [h9,gn,i3,e8];refine acJ c2 a0.1 A.size _ (λw3 C3 g3 c3=> ?_);have O:Ext wN w3:=cJ A g3 (λx hx=>by omega);have g:=c3.ch k a0.1 (ct _ _ _);obtain ⟨c,y⟩:∃c,C3 k=c:=⟨_,rfl⟩;have r:=λ{wF c' m}=>c3.put (w':=wF) (c:=c') (t:=T k) (m:=m) (ks:=Ks k) (G:=(C3 k).own) a0.1 (ct _ _ _)
  rw [y] at g r ⊢;have d2:w3.cell? ⟨c.b,2,none⟩=some c.d:=g.bx.cell (i:=2) oM;have ltb:=g.bx.lt
  (repeat' first|refine ak (λ_=> ?_) (λ_=> ?_)|refine am ?_ ?_|refine gG d2 ?_|exact BW d2|fail)
  refine ck jz (g.d.ext xZ) (m:=1) (news:= [.int .i64 (ii:Int)]) rfl ?_ rfl oM oM oM (λv3 w4 v S F _=> ?_)
  ·intro q u hq;have e0:q=0:=by
    cases q with
    |zero=>rfl
    |succ q=>simp at hq
   subst e0;injection hq with hq;subst hq;exact (af.new w3 [Value.int .i64 (ii:Int)] 3).cell (i:=0) (by simp)
  have s:Frm (λb=>c.d.ownBlock=some b) w3 w4:=(Frm.of_ext (show Ext w3 _ from Ext.alloc (Ext.refl _) _)).trans S (λ_ _ h=>h);have b4:=g.bx.frm s g.ne.2.2;have N:w4.cell? ⟨c.b,2,none⟩=some c.d:=b4.cell (i:=2) oM;have V:=b4.lt;have fz:=b4.frz;have L:=jF v;have B:SlO w4 3 1 v3 ((M k).length+1) (aX (M k)++ [.int .i64 (ii:Int)]):=v;have tk:=g.drop B s (λb hb=>(F b hb).imp id (λh=>by simp only [RZ] at h;omega));have fF:=r (c':=⟨c.b,c.t,c.k,v3⟩) tk.2.1 (λx hx=>hx) rfl tk.1 tk.2.2;have eF:Ext wN (w4.setCell ⟨c.b,2,none⟩ v3):=cJ O tk.2.1 (λx hx=>(c3.fr k a0.1 (ct _ _ _) x (by rw [y];exact hx)).1);simp (disch:=try exact dZ) only [↓RBp,↓RA,↓reduceIte,Nat.reduceAdd,Nat.reduceMul,Nat.reduceEqDiff,RB,RX,RA2,N,fz,iH (t:=50) (by kernel_rfl) c.b 2 v3 w4 _ L,e5];rw [tY,tY] at fF;exact E _ _ eF fF
 ·have U:j=free.length:=oM;subst U;rw [ef] at c1;unfold tA;refine zS0 ?_;exact hK _ C1 e1 c1
end
def eY (P:List Nat):Prop:=P.Nodup/\0∉P
def eY.pre {P Q:List Nat} (h:eY (P++Q)):eY P:=⟨(List.nodup_append.1 h.1).1,λhm=>h.2 (e9 _ hm)⟩
def snL (P:List Nat):KVL:=P.map λ(x:Nat)=>((x:Int),Value.bool true)
def abD (P:List Nat) (p:Nat):(bz (snL P) (p:Int)).getD (.bool false)= .bool (decide (p∈P)):=by
 cases hg:bz (snL P) (p:Int) with
 |none=>
  have:p∉P:=λhm=>cR.1 hg ((p:Int),.bool true) (List.mem_map.2 ⟨p,hm,rfl⟩) rfl
  rw [decide_eq_false this];rfl
 |some v=>
  obtain ⟨x,hx,e⟩:=List.mem_map.1 (mT hg);injection e with e1 e2;have:x=p:=oM;subst this;subst e2;rw [decide_eq_true hx];rfl
def abE {P:List Nat} {p:Nat} (h:p∉P):setL (snL P) (p:Int) (.bool true)=snL (P++ [p]):=by
 have:bz (snL P) (p:Int)=none:=cR.2 λq hq e=>by
  obtain ⟨x,hx,e2⟩:=List.mem_map.1 hq;rw [<-e2] at e;have:x=p:=by
   have:(x:Int)=(p:Int):=e;omega
  exact h (this▸hx)
 unfold setL;rw [if_neg (by rw [this];simp)];simp [snL]
def mTs:kW prog .u64 214 (.bool false):=⟨27,4,by kernel_rfl,by kernel_rfl,by kernel_rfl⟩
section
variable {w w1 w':ab} {sm m:Nat} {L P:List Nat}
def aad {a:Option Addr} {cap:Nat} (hL:RdS m w (.slice a L.length cap) (bL L)) (hm:m<=w.heap.size) (hl:L.length<1000000) (hx:∀x∈L,x<18446744073709551616) (e1:Ext w w1) (hs:bj .u64 w1 sm (snL P)) (hn:w.heap.size<=sm) (q:eY P) (x9 x10 x11:ca) (K:K1) (E1:ca->ab->Prop)
  (k:¬eY (P++L)->∀w',Ext w w'->K (.bool false) w')
  (o:∀w',Ext w w'->bj .u64 w' sm (snL (P++L))->eY (P++L)->HN K E1 (.map (some sm)) x9 x10 x11 w'):
  HO K E1 (.map (some sm)) x9 x10 x11 (.slice a L.length cap) (.int .i64 (L.length:Int)) (.int .i64 0) w1:=by
 apply DG (I:=λz w2=>∃i:Nat,z= .int .i64 (i:Int)/\i<=L.length/\Ext w w2/\bj .u64 w2 sm (snL (P++L.take i))/\eY (P++L.take i)) (μ:=λz _=>L.length-(intOf z).toNat)
 ·exact ⟨0,rfl,by omega,e1,by simpa using hs,by simpa using q⟩
 ·intros;rename_i w2 hI E2 hE;obtain ⟨i,rfl,hi,e2,d,c⟩:=hI;unfold DE;by_cases hil:i<L.length
  ·obtain ⟨sb,so,sc,g,hc⟩:=(hL.ext e2).get (fo hil);injection g with g _ ev2;subst g;subst ev2;have l:=hx L[i] (cO hil);have ht:P++L.take (i+1)=(P++L.take i)++ [L[i]]:=by rw [dd hil,dp]
   have j:eY (P++L)->eY ((P++L.take i)++ [L[i]]):=λh=>by
    rw [<-ht];have:P++L=(P++L.take (i+1))++L.drop (i+1):=by rw [dp,g9]
    rw [this] at h;exact h.pre
   have n:∀w3,Ext w w3->bj .u64 w3 sm (snL ((P++L.take i)++ [L[i]]))->eY ((P++L.take i)++ [L[i]])->E2 (.int .i64 ((i+1:Nat):Int)) w3:=λw3 e3 h3 o3=>by
    apply hE
    ·exact ⟨i+1,rfl,by omega,e3,by rw [ht];exact h3,by rw [ht];exact o3⟩
    ·simp [intOf];omega
   have ei:(i:Int)+1=((i+1:Nat):Int):=oM;generalize P++L.take i=Q at*;generalize L[i]=p at*;have f:∀(w3:ab) (K:K1),Ext w2 w3->ev prog (Instr.lookup 214 (.map (some sm)) (.int .u64 (p:Int)) false) w3 K=K (.bool (decide (p∈Q))) w3:=λw3 K e=>by rw [di mTs (d.ext e),abD]
   by_cases p0:p=0
   ·have b:∀(w1:ab) (K:K1),ad prog 73 #[.int .u64 (p:Int)] w1 K=K (.bool true) w1:=λw1 K=>by rw [jJ p w1 K l,decide_eq_true p0]
    refine zS2 hc b ?_;exact k (λh=>(j h).2 (by rw [p0];simp)) _ (e2.trans xZ)
   ·have b:∀(w1:ab) (K:K1),ad prog 73 #[.int .u64 (p:Int)] w1 K=K (.bool false) w1:=λw1 K=>by rw [jJ p w1 K l,decide_eq_false p0]
    by_cases pq:p∈Q
    ·rw [decide_eq_true pq] at f;refine eQ hc b f ?_;exact k (λh=>by
      have:=(List.nodup_append.1 (j h).1).2.2 p pq p (by simp);exact this rfl) _ (e2.trans xZ)
    ·rw [decide_eq_false pq] at f;refine eQ hc b f ?_;refine jc mTs (d.ext xZ) _ _ (λw3 m3 g3=> ?_);rw [abE pq] at m3;have e3:Ext w w3:=cJ (e2.trans xZ) g3 (λx h=>by omega);refine zS1 ei ?_;refine n _ e3 m3 ⟨List.nodup_append.2 ⟨c.1,by simp,λx hx y hy e=> ?_⟩,λh=> ?_⟩
     ·simp only [ap] at hy;subst hy;subst e;exact pq hx
     ·rcases List.mem_append.1 h with h|h
      ·exact c.2 h
      ·simp only [ap] at h;exact p0 h.symm
  ·have:i=L.length:=oM;subst this;rw [ef] at d c;refine zS0 ?_;exact o _ e2 d c
def Ia {A B:List Nat} {va vb:ca} (hA:RdS m w va (bL A)) (hB:RdS m w vb (bL B)) (hm:m<=w.heap.size) (hl:A.length<1000000/\B.length<1000000) (hx:∀x∈A++B,x<18446744073709551616) {b cap:Nat} (c0:w.cell? ⟨b,0,none⟩=some va) (c1:w.cell? ⟨b,1,none⟩=some vb) (K:K1)
  (c:¬eY (A++B)->∀w',Ext w w'->K (.bool false) w')
  (e:eY (A++B)->∀w',Ext w w'->K (.bool true) w'):
  ad prog 94 #[.slice (some ⟨b,0,none⟩) 2 cap] w K:=by
 have lA:(bL A).length=A.length:=by simp [bL]
 have lB:(bL B).length=B.length:=by simp [bL]
 obtain ⟨aA,cA,rfl,_⟩:=id hA;obtain ⟨aB,cB,rfl,_⟩:=id hB;rw [lA] at hA c0;rw [lB] at hB c1;refine U2 _ _ _ ?_;unfold Z3;refine zS0 ?_;have j:(w.alloc (.map #[] 0)).heap[w.heap.size]? =some (.map #[] 0):=aL _ _;have m1:bj .u64 (w.alloc (.map #[] 0)) w.heap.size (snL []):=bj.empty j;have i:Ext w (w.alloc (.map #[] 0)):=Ext.alloc_self _ _;refine DC _ _ _ _ _ _ (λz w2=>Ext w w2/\((z= .int .i64 0/\bj .u64 w2 w.heap.size (snL [])/\eY [])\/(z= .int .i64 1/\bj .u64 w2 w.heap.size (snL A)/\eY A)\/(z= .int .i64 2/\eY (A++B)))) (λz _=>2-(intOf z).toNat) ⟨i,.inl ⟨rfl,m1,by simp [eY]⟩⟩ ?_;intros;rename_i z w2 hI E1 hE;obtain ⟨e2,hI⟩:=hI;have g:=e2.cell_some c0;have f:=e2.cell_some c1;unfold DA;rcases hI with ⟨rfl,hs,ok⟩|⟨rfl,hs,ok⟩|⟨rfl,ok⟩
 ·refine zS2 @Int.toNat_zero g ?_;refine aad hA hm hl.1 (λx h=>hx x (e9 _ h)) (e2.trans xZ) (hs.ext xZ) (cj _) ok _ _ _ _ _ (λhn w3 e3=>c (λh=>hn (by simpa using h.pre)) w3 e3) (λw3 e3 d a=> ?_);rw [xx];unfold tO;refine zS0 ?_;apply hE
  ·exact ⟨e3.trans xZ,.inr (.inl ⟨rfl,by simpa using d.ext xZ,by simpa using a⟩)⟩
  ·simp [intOf]
 ·refine zS2 @Int.toNat_one f ?_;refine aad hB hm hl.2 (λx h=>hx x (hV _ h)) (e2.trans xZ) (hs.ext xZ) (cj _) ok _ _ _ _ _ (λhn w3 e3=>c hn w3 e3) (λw3 e3 d a=> ?_);rw [xx];unfold tO;refine zS0 ?_;apply hE
  ·exact ⟨e3.trans xZ,.inr (.inr ⟨rfl,a⟩)⟩
  ·simp [intOf]
 ·refine zS2 @OX @Dz.eq_1 ?_;exact e ok _ (e2.trans xZ)
end
def lvF (keep free:List Nat) (k:Nat):Bool:=lvL keep k||lvL free k
def chK (keep free:List Nat) (n:Nat):List Nat:=(List.range n).filter (lvF keep free)
def lnK (k:Nat):Int:=((26+32*k:Nat):Int)
section
variable {w0 wN w w':ab} {Y:Lay} {D:DS} {H:HL} {n mb cb m:Nat} {f:Idx} {R keep free:List Nat} {C:Nat->CgB}
def aae {L:List Nat} {k:Nat} (h:lvL L k=false):tkL f L k= []:=by
 unfold tkL;rw [List.filter_eq_nil_iff.2 (λp hp=>by
  unfold lvL at h;rw [List.any_eq_false] at h;exact h p hp)]
 rfl
def abF {k:Nat} (h:lvF keep free k=false):wsK D f keep free k= []:=by
 unfold lvF at h;rw [Bool.or_eq_false_iff] at h;unfold wsK;rw [aae h.1,aae h.2];unfold gJ;rw [if_pos (by simp)];rfl
def VP:∀m,ce D f keep free m=(chK keep free m).flatMap (wsK D f keep free):=by
 intro m
 induction m with
 |zero=>rfl
 |succ m ih=>
  unfold chK at ih ⊢;unfold ce;rw [List.range_succ,f0,fq,ih]
  congr 1
  by_cases hl:lvF keep free m=true
  ·simp [hl]
  ·have hl:lvF keep free m=false:=by simpa using hl
   simp [hl,abF hl]
def Lc {k:Nat} (h:k∈chK keep free n):k<n/\lvF keep free k=true:=by
 unfold chK at h;rw [gp,jj] at h;exact h
def Pr {L:KVL} (hn:(L.map (·.1)).Nodup) (h1:∀p∈L,∃k,k<n/\p.1=((26+32*k:Nat):Int)) {g:Nat->ca} (h2:∀k,k<n->bz L ((26+32*k:Nat):Int)=if lvF keep free k=true then some (g k) else none):(L.map (·.1)).Perm ((chK keep free n).map lnK):=by
 have c:((chK keep free n).map lnK).Nodup:=dy _ (λa _ b _ e=>by unfold lnK at e;omega) (List.nodup_range.filter _);refine (List.perm_ext_iff_of_nodup hn c).2 (λa=>⟨λha=> ?_,λha=> ?_⟩)
 ·obtain ⟨p,hp,rfl⟩:=List.mem_map.1 ha;obtain ⟨k,hk,e⟩:=h1 p hp;have hg:=h2 k hk;have hl:lvF keep free k=true:=by
   by_cases hl:lvF keep free k=true
   ·exact hl
   ·rw [if_neg hl] at hg;exact absurd e (cR.1 hg p hp)
  exact List.mem_map.2 ⟨k,by unfold chK;rw [gp,jj];exact ⟨hk,hl⟩,e.symm⟩
 ·obtain ⟨k,hk,rfl⟩:=List.mem_map.1 ha;have hk:=Lc hk;have hg:=h2 k hk.1;rw [if_pos hk.2] at hg;exact List.mem_map.2 ⟨_,mT hg,rfl⟩
def DY {s:List Int} (h:s.Perm ((chK keep free n).map lnK)):(s.mergeSort λx y=>decide (x<=y))=(chK keep free n).map lnK:=by
 refine List.Perm.eq_of_pairwise (le:=λa b:Int=>a<=b) (λa b _ _ h1 h2=>by omega) ?_ ?_ ((List.mergeSort_perm s _).trans h)
 ·have:=List.pairwise_mergeSort (le:=λx y:Int=>decide (x<=y)) (λa b c h1 h2=>by simp at*;omega) (λa b=>by simp;omega) s;exact this.imp (λh=>by simpa using h)
 ·refine List.Pairwise.map (R:=λa b:Nat=>a<b) lnK (λa b h=>by unfold lnK;omega) ?_;exact List.Pairwise.filter _ List.pairwise_lt_range
def VQ:∀(l:List (Nat×Nat)),bX (wrL l)=true:=by
 intro l
 induction l with
 |nil=>rfl
 |cons x l ih=>obtain ⟨a,b⟩:=x;simp [wrL,bX,aj,ih]
def aZ.pos (P:aZ D f n keep free) {k:Nat} (b:k<n) (hl:lvF keep free k=true):0<=(f k).1/\0<(wsK D f keep free k).length:=by
 have h0:0<=(f k).1/\¬(tkL f keep k= []/\tkL f free k= []):=by
  unfold lvF at hl;rcases Bool.or_eq_true_iff.1 hl with h|h
  ·unfold lvL at h;obtain ⟨p,hp,e⟩:=List.any_eq_true.1 h;have e:hk p=k:=by simpa using e
   have a:=((P.kp p hp).at_ P.n4 P.rg).1;rw [e] at a;exact ⟨a.2.1,λhh=>by
    have:(ixP f p:Int)∈tkL f keep k:=gE.2 ⟨p,hp,e,rfl⟩;rw [hh.1] at this;cases this⟩
  ·unfold lvL at h;obtain ⟨p,hp,e⟩:=List.any_eq_true.1 h;have e:hk p=k:=by simpa using e
   have a:=((P.fr p hp).at_ P.n4 P.rg).1;rw [e] at a;exact ⟨a.2.1,λhh=>by
    have:(ixP f p:Int)∈tkL f free k:=gE.2 ⟨p,hp,e,rfl⟩;rw [hh.2] at this;cases this⟩
 refine ⟨h0.1,?_⟩;have a:=P.act b h0.1;rcases (kD a.1.len a.2).2.2 with ⟨_,e1,e2⟩|e
 ·exact absurd ⟨e1,e2⟩ h0.2
 ·rw [e,an,an];simp only [eg,List.length_nil];omega
def acO (h:HpS w0 wN Y D H n f R) (P:aZ D f n keep free) (e:Ext wN w) (hC:fv wN.heap.size w mb cb n C (lvF keep free) (tkL f keep) (knL keep) (tkL f free)) (hl:keep.length<=100000/\free.length<=100000) {a:Option Addr} {cap:Nat} (hS:SlO w 3 1 (.slice a (chK keep free n).length cap) (chK keep free n).length (aX ((chK keep free n).map lnK))) (K:K1)
  (hK:∀v' w',Ext w w'->bw w.heap.size v'->SlO w' 98 2 v' (ce D f keep free n).length (wrL (ce D f keep free n))->AJ K (hpV H) v' w'):
  HF K (hpV H) (.pointer (some ⟨cb,0,none⟩)) (.slice none 0 0) (.slice a (chK keep free n).length cap) (.int .i64 ((chK keep free n).length:Int)) (.int .i64 0) w:=by
 have b2:=h.n4;have I:=P.le;rw [VP] at hK I;have mem:=λ(k:Nat) (hk:k∈chK keep free n)=>Lc hk
 have J:∀(j:Nat) (hj:j<(chK keep free n).length),((chK keep free n).take (j+1)).flatMap (wsK D f keep free)=((chK keep free n).take j).flatMap (wsK D f keep free)++wsK D f keep free (chK keep free n)[j]:=λj hj=>by
  rw [dd hj,fq];simp
 have M:∀j,(((chK keep free n).take j).flatMap (wsK D f keep free)).length<=2*(keep.length+free.length):=λj=>by
  have:(chK keep free n).flatMap (wsK D f keep free)=((chK keep free n).take j).flatMap (wsK D f keep free)++((chK keep free n).drop j).flatMap (wsK D f keep free):=by
   rw [<-fq,g9]
  rw [this,an] at I;omega
 have a9:(chK keep free n).length<=n:=by
  unfold chK;exact k3 (bv _ _) (by rw [io];exact cj n)
 obtain ⟨KS,X⟩:∃KS,chK keep free n=KS:=⟨_,rfl⟩;rw [X] at hS hK mem J M a9 ⊢;have a3:∀(j:Nat) (hj:j<KS.length),(aX (KS.map lnK))[j]? =some (.int .i64 ((26+32*KS[j]:Nat):Int)):=λj hj=>by simp [hj,lnK]
 have a7:RdS w.heap.size w (.slice a KS.length cap) (aX (KS.map lnK)):=by
  have lk:(aX (KS.map lnK)).length=KS.length:=by simp
  refine RdS.of_slR (t:=3) ?_;rw [lk];exact hS
 refine Da _ _ _ _ _ _ _ _ (λv z w1=>∃j,z= .int .i64 ((j:Nat):Int)/\j<=KS.length/\Ext w w1/\bw w.heap.size v/\SlO w1 98 2 v ((KS.take j).flatMap (wsK D f keep free)).length (wrL ((KS.take j).flatMap (wsK D f keep free)))) (λ_ z _=>KS.length-(intOf z).toNat) ⟨0,rfl,by omega,Ext.refl _,(λb hb=>by cases hb),SlO.nil _ _ _⟩ ?_;intros;rename_i v z w1 hI E1 Z;obtain ⟨j,rfl,hj,e1,nv,sv⟩:=hI;have p:=e.trans e1;by_cases hjl:j<KS.length
 ·obtain ⟨sb,so,sc,r,hc⟩:=(a7.ext e1).get (a3 j hjl);have lk:(aX (KS.map lnK)).length=KS.length:=by simp
  rw [lk] at r;injection r with r _ ev2;subst r;subst ev2;obtain ⟨k,s⟩:∃k,KS[j]=k:=⟨_,rfl⟩;have c:=mem k (s▸cO hjl);rw [s] at hc;have F:=J j hjl;rw [s] at F;have T:=M (j+1);have o:=P.pos c.1 c.2;have E:=P.act c.1 o.1;have c1:=hC.ext e1;have g:=c1.ch k c.1 c.2;have S:∀v2 w2,Ext w w2->bw w.heap.size v2->SlO w2 98 2 v2 (((KS.take j).flatMap (wsK D f keep free)).length+(wsK D f keep free k).length) (wrL ((KS.take j).flatMap (wsK D f keep free))++wrL (wsK D f keep free k))->E1 v2 (.int .i64 ((j+1:Nat):Int)) w2:=λv2 w2 e2 n2 s2=>by
   apply Z
   ·refine ⟨j+1,rfl,by omega,e2,n2,?_⟩;rw [F,bJ,an];exact s2
   ·simp [intOf];omega
  rw [F,an] at T;have e5:(j:Int)+1=((j+1:Nat):Int):=oM;have a8:=h.open c.1 o.1;have V:=h.cx c.1 o.1;have U:=h.er 0 oM;have q0:=(h.ext p).cell.1;have ltp:=(h.ext p).ltp;obtain ⟨L,b0,_,a4⟩:=c1.mp;have G:∀(w2:ab) (K:ca->Prop),Ext w1 w2->rd prog (Instr.lookup 159 (.map (some mb)) (.int .i64 ((26+32*k:Nat):Int)) false) w2 K=K (.pointer (some ⟨(C k).b,0,none⟩)):=λw2 K e2=>by rw [CI mTc (b0.ext e2),a4 k c.1,if_pos c.2];rfl
  have d0:∀w2,Ext w1 w2->w2.cell? ⟨(C k).b,0,none⟩=some (C k).t:=λw2 e2=>(g.bx.ext e2).cell (i:=0) oM
  have d1:∀w2,Ext w1 w2->w2.cell? ⟨(C k).b,1,none⟩=some (C k).k:=λw2 e2=>(g.bx.ext e2).cell (i:=1) oM
  have d2:∀w2,Ext w1 w2->w2.cell? ⟨(C k).b,2,none⟩=some (C k).d:=λw2 e2=>(g.bx.ext e2).cell (i:=2) oM
  have dc:∀w2,Ext w1 w2->w2.cell? ⟨cb,0,none⟩=some (.map (some mb)):=λw2 e2=>(c1.cx.ext e2).cell (i:=0) oM
  have rt:RdS w1.heap.size w1 (C k).t (aX (tkL f keep k)):=RdS.of_slR (t:=3) (by rw [show (aX (tkL f keep k)).length=(tkL f keep k).length by simp];exact g.t);have rk:RdS w1.heap.size w1 (C k).k (u8L (knL keep k)):=RdS.of_slR (t:=5) (by rw [show (u8L (knL keep k)).length=(knL keep k).length by simp];exact g.k);have a6:RdS w1.heap.size w1 (C k).d (aX (tkL f free k)):=RdS.of_slR (t:=3) (by rw [show (aX (tkL f free k)).length=(tkL f free k).length by simp];exact g.d);have l1:=qX f keep k;have l2:=qX f free k;have l3:(knL keep k).length<=keep.length:=by unfold knL;rw [dk];exact bv _ _
  have k8:∀x∈knL keep k,x<256:=λx hx=>by have:=E.1.kin x hx;omega
  have O:=λ(w2:ab) (e2:Ext w1 w2) (K:K1) hb hno hy=>Ok (V.ext (p.trans e2)) U (f k).2.1 (gX (wd D (26+32*k) 0)) (tkL f keep k) (tkL f free k) (knL keep k) (C k).t (C k).k (C k).d (rt.ext e2) (rk.ext e2) (a6.ext e2) oM oM oM k8 K hb hno hy
  have A:=E.2;have Q:=E.1;generalize wsK D f keep free k=W at*;generalize ((KS.take j).flatMap (wsK D f keep free))=W0 at*;generalize (f k).1=cc at*;generalize (f k).2.1=oo at*;generalize gX (wd D (26+32*k) 0)=gg at*;unfold tB;refine zS2 hc q0 ?_;refine a8 _ _ (p.trans xZ) (λw2 e2=> ?_);have B:Ext w1 w2:=Ext.trans xZ e2;have hN:=af.new w2 [Value.iface 31 (.pointer (some ⟨Y.tb 0,0,none⟩)),.int .i64 ((26+32*k:Nat):Int),.int .i64 cc,.int .i64 oo,.int .u16 (gg:Int)] 134;have l:=chD hN;have g0:=l.1;have g1:=l.2.1;have g2:=l.2.2.1;have g3:=l.2.2.2.1;have g4:=l.2.2.2.2;have ea:Ext w1 (w2.alloc (.cells #[Value.iface 31 (.pointer (some ⟨Y.tb 0,0,none⟩)),.int .i64 ((26+32*k:Nat):Int),.int .i64 cc,.int .i64 oo,.int .u16 (gg:Int)] 134)):=B.trans (Ext.alloc_self _ _);have a0:=d0 _ ea;have a1:=d1 _ ea;have a2:=d2 _ ea;have ac:=dc _ ea;have N:=λK=>G _ K ea
  refine jk g0 g1 g2 g3 g4 a0 a1 a2 ac G N ?_;refine O _ (B.trans xZ) _ (λhb=>absurd Q hb) (λ_ hn=>by rw [A] at hn;cases hn) (λ_ ws q v3 w3 e3 n3 s3=> ?_);rw [A] at q;injection q with q;subst q;obtain ⟨xb,xo,xc,rfl,_⟩:=s3.isS o.2;have y:Ext w1 w3:=B.trans (Ext.trans xZ e3);refine F5 ?_;refine ck cv (sv.ext (y.trans xZ)) (m:=W.length) (news:=wrL W) (se W) (λj u hj=>s3.cell rfl hj) (VQ W) o.2 oM oM (λv4 w4 s4 f4 a5 _=> ?_);refine zS1 e5 ?_;refine S v4 _ (cJ (e1.trans y) f4 (λx hx=>nv x hx)) (λb hb=> ?_) s4;rcases a5 b hb with h1|h1
  ·exact nv b h1
  ·have:=(e1.trans y).size;omega
 ·have b1:j=KS.length:=oM;subst b1;rw [ef] at sv;unfold tB;refine zS0 ?_;exact hK _ _ e1 nv sv
end
section
variable {w0 w w':ab} {Y:Lay} {D:DS} {H:HL} {n m mb:Nat} {f:Idx} {R keep free:List Nat} {L:KVL}
def Ib {P:Program} (f:Fn) (a b:Array ca) (w:ab) (k:K1):ev P (Instr.makeFunc f a b) w k=k (.func f a b) w:=rfl
def abG (r:Option Nat):(Value.map r).cells= #[.map r]:=rfl
def SlO.form {t:TypeId} {z k:Nat} {v:ca} {L:List ca} (h:SlO w t z v k L):∃a cap,v= .slice a k cap:=by
 rcases h.2 with ⟨rfl,rfl⟩|⟨b,o,cap,a,rfl,_⟩
 ·exact ⟨none,0,rfl⟩
 ·exact ⟨_,cap,rfl⟩
def VR (hm:bj .i64 w mb L) {b:Nat} (hb:af w b 159 1 (λ_=> .map (some mb))) (hL:L.length<1000000) (K:K1)
  (hK:∀(s:List Int) v w',s.Perm (L.map (·.1))->Ext w w'->bw w.heap.size v->SlO w' 3 1 v s.length (aX (s.mergeSort λx y=>decide (x<=y)))->K v w'):
  ad prog 96 #[.func (.func 142) #[] #[.pointer (some ⟨b,0,none⟩)]] w K:=by
 refine U5 _ _ _ ?_;unfold Z7;refine zS0 ?_;refine Pp hm hb hL _ (λs v w1 hp e1 n1 s1=> ?_);have hl:s.length<1000000:=by
  have:=hp.length_eq;rw [dk] at this;omega
 refine zS0 ?_;refine Ye s1 hl _ (λw2 g2 s2=> ?_);exact hK s v w2 hp (cJ e1 g2 (λx hx=>n1 x hx)) n1 s2
def aZ.of (h:HpS w0 w Y D H n f R) (c:∀p∈keep,p∈R) (d:∀p∈free,Liv D f n p) (hd:eY (keep++free)):aZ D f n keep free:=by
 have nd:=List.nodup_append.1 hd.1;exact ⟨h.rg,h.n4.1,λp hp=>h.rv p (c p hp),d,dy _ (λa ha b hb e=>Bj h.nd (c a ha) (c b hb) e) nd.1,nd.2.1⟩
def Ic (h:HpS w0 w Y D H n f R) (l:∀p∈keep,p∈R) (r:∀p∈free,Liv D f n p) {va vb:ca} (hA:RdS m w va (bL keep)) (hB:RdS m w vb (bL free)) (hm:m<=w.heap.size) (hl:keep.length<=100000/\free.length<=100000) (K:K1)
  (G:¬eY (keep++free)->∀w',Ext w w'->K (.tuple #[.slice none 0 0,.int .i64 1]) w')
  (E:eY (keep++free)->aZ D f n keep free->∀v' w',Ext w w'->bw w.heap.size v'->SlO w' 98 2 v' (ce D f keep free n).length (wrL (ce D f keep free n))->K (.tuple #[v',.int .i64 0]) w'):
  ad prog 42 #[hpV H,va,vb] w K:=by
 have S:=h.n4;have lA:(bL keep).length=keep.length:=by simp [bL]
 have lB:(bL free).length=free.length:=by simp [bL]
 obtain ⟨aA,cA,rfl,_⟩:=id hA;obtain ⟨aB,cB,rfl,_⟩:=id hB;rw [lA] at hA ⊢;rw [lB] at hB ⊢;have hr:∀p∈R,p<18446744073709551616:=λp hp=>by
  have:=((h.rv p hp).kn oM h.rg).2.2.2.1;omega
 have hx:∀x∈keep++free,x<18446744073709551616:=λx hx=>by
  rcases List.mem_append.1 hx with hx|hx
  ·exact hr x (l x hx)
  ·have:=((r x hx).at_ oM h.rg).2.2.1;omega
 have y:=h.erE;have q0:=h.cell.1;have ltp:=h.ltp;have p5:∀v' w1,Ext w w1->SlO w1 98 2 v' (ce D f keep free n).length (wrL (ce D f keep free n))->bw w.heap.size v'->eY (keep++free)->aZ D f n keep free->AJ K (hpV H) v' w1:=λv' w1 e1 s1 n1 hd P=>by
  have g:=(h.ext e1).cell.1;have F:=(h.ext e1).ltp;rw [OR];unfold C9;refine fC g y ?_;exact E hd P v' _ (e1.trans xZ) n1 (s1.ext xZ)
 have p4:∀wN w1 mb cb C,Ext w wN->Ext wN w1->fv wN.heap.size w1 mb cb n C (lvF keep free) (tkL f keep) (knL keep) (tkL f free)->eY (keep++free)->aZ D f n keep free->AI K (hpV H) (.pointer (some ⟨cb,0,none⟩)) w1:=λwN w1 mb cb C eN e1 hC hd P=>by
  obtain ⟨L,mL,h1,h2⟩:=hC.mp;have Q:w1.cell? ⟨cb,0,none⟩=some (.map (some mb)):=hC.cx.cell (i:=0) oM;have T:=hC.cx.lt;have u:=Pr (keep:=keep) (free:=free) mL.keys h1 h2;have U:(chK keep free n).length<=n:=by
   unfold chK;exact k3 (bv _ _) (by rw [io];exact cj n)
  have O:L.length<1000000:=by
   have:=u.length_eq;rw [dk,dk] at this;omega
  rw [OQ];unfold C7;refine zS1 Q ?_;refine U6 _ _ _ ?_;unfold Z8;refine zS1 @Ib ?_;have o:af (w1.alloc (.cells #[.map (some mb)] 159)) w1.heap.size 159 1 (λ_=> .map (some mb)):=(af.new w1 [.map (some mb)] 159).congr (λi hi=>by rw [show i=0 by simpa using hi];rfl);refine VR (mL.ext xZ) o O _ (λs v w2 hp e2 n2 s2=> ?_);have A:=hp.trans u;have t:=A.length_eq;rw [dk] at t;rw [DY A,t] at s2;have d:Ext w1 w2:=Ext.trans xZ e2;obtain ⟨a,cap,rfl⟩:=SlO.form s2;refine zS0 ?_;refine acO (h.ext eN) P (e1.trans d) (hC.ext d) hl s2 K (λv' w3 e3 n3 s3=> ?_);exact p5 v' w3 (eN.trans (e1.trans (d.trans e3))) s3 (λb hb=>by have:=n3 b hb;have:=(eN.trans (e1.trans d)).size;omega) hd P
 have p2:∀w1,Ext w w1->eY (keep++free)->aZ D f n keep free->HB K (hpV H) (.slice aA keep.length cA) (.slice aB free.length cB) w1:=λw1 e1 hd P=>by
  have h1:=h.ext e1;rw [OO];unfold CZ;have M:((w1.alloc (.map #[] 0)).alloc (.cells #[.map (some w1.heap.size)] 159)).heap[w1.heap.size]? =some (.map #[] 0):=by
   rw [bg _ (by rw [size_alloc];omega)];exact aL _ _
  have o:af ((w1.alloc (.map #[] 0)).alloc (.cells #[.map (some w1.heap.size)] 159)) (w1.heap.size+1) 159 1 (λ_=> .map (some w1.heap.size)):=by
   have:=af.new (w1.alloc (.map #[] 0)) [.map (some w1.heap.size)] 159;rw [size_alloc] at this;exact this.congr (λi hi=>by rw [show i=0 by simpa using hi];rfl)
  have c0:fv w1.heap.size ((w1.alloc (.map #[] 0)).alloc (.cells #[.map (some w1.heap.size)] 159)) w1.heap.size (w1.heap.size+1) n (λ_=>⟨0,undef,undef,undef⟩) (λ_=>false) (λ_=> []) (λ_=> []) (λ_=> []):=
   ⟨⟨[],bj.empty M,λp hp=>(by cases hp),λk _=>rfl⟩,o,λk _ hl=>(by cases hl),λk _ hl=>(by cases hl),λk j _ _ hl=>(by cases hl),λk _=>⟨rfl,rfl,rfl⟩,by omega,by omega,by omega⟩
  refine zS3 @abG @size_alloc @Ib ?_;refine acM h1 xZ c0 (hA.ext e1) oM P.kp _ K (λw2 C2 e2 c2=> ?_);rw [OP];unfold C5;refine zS0 ?_;refine acN h1 (e2.trans xZ) (c2.ext xZ) (hB.ext e1) oM P.fr K (λw3 C3 e3 c3=> ?_);exact p4 w1 w3 _ _ C3 e1 e3 c3 hd P
 have p1:∀w1,Ext w w1->eY (keep++free)->aZ D f n keep free->Hz K (hpV H) (.slice aA keep.length cA) (.slice aB free.length cB) w1:=λw1 e1 hd P=>by
  rw [ON];unfold CV;refine zS0 ?_;apply C4 (I:=λz w2=>∃i:Nat,z= .int .i64 (i:Int)/\i<=free.length/\Ext w w2) (μ:=λz _=>free.length-(intOf z).toNat)
  ·exact ⟨0,rfl,by omega,e1.trans xZ⟩
  ·intros;rename_i w2 hI E2 hE;obtain ⟨i,rfl,hi,e2⟩:=hI;unfold C0;by_cases hil:i<free.length
   ·obtain ⟨sb,so,sc,c,hc⟩:=(hB.ext e2).get (fo hil);injection c with c _ ev2;subst c;subst ev2;have N:=r free[i] (cO hil);have q:=hx free[i] (hV _ (cO hil));have ei:(i:Int)+1=((i+1:Nat):Int):=oM;generalize free[i]=p at*;refine zS1 hc ?_;refine ng (h.ext (e2.trans xZ)) q 0 oM _ (λ_ w3 e3=> ?_) (λnl=>(nl N).elim);rw [if_pos (.inl rfl)];refine zS1 ei ?_;apply hE
    ·exact ⟨i+1,rfl,by omega,e2.trans (Ext.trans xZ (e3.trans xZ))⟩
    ·simp [intOf];omega
   ·have:i=free.length:=oM;subst this;refine zS0 ?_;exact p2 _ (e2.trans xZ) hd P
 have p0:∀w1,Ext w w1->eY (keep++free)->aZ D f n keep free->HA K (hpV H) (.slice aA keep.length cA) (.slice aB free.length cB) (.slice aA keep.length cA) (.int .i64 (keep.length:Int)) (.int .i64 0) w1:=λw1 e1 hd P=>by
  apply CY (I:=λz w2=>∃i:Nat,z= .int .i64 (i:Int)/\i<=keep.length/\Ext w w2) (μ:=λz _=>keep.length-(intOf z).toNat)
  ·exact ⟨0,rfl,by omega,e1⟩
  ·intros;rename_i w2 hI E2 hE;obtain ⟨i,rfl,hi,e2⟩:=hI;unfold CX;by_cases hil:i<keep.length
   ·obtain ⟨sb,so,sc,c,hc⟩:=(hA.ext e2).get (fo hil);injection c with c _ ev2;subst c;subst ev2;have J:=l keep[i] (cO hil);have q:=hx keep[i] (e9 _ (cO hil));have ei:(i:Int)+1=((i+1:Nat):Int):=oM;generalize keep[i]=p at*;refine zS1 hc ?_;refine k_holds (h.ext (e2.trans xZ)) hr p q _ (λw3 e3=> ?_);rw [decide_eq_true J];refine zS1 ei ?_;apply hE
    ·exact ⟨i+1,rfl,by omega,e2.trans (Ext.trans xZ (e3.trans xZ))⟩
    ·simp [intOf];omega
   ·have:i=keep.length:=oM;subst this;refine zS0 ?_;exact p1 _ (e2.trans xZ) hd P
 have B:=af.new w [Value.slice aA keep.length cA,Value.slice aB free.length cB] 25;have b0:=B.cell (i:=0) (by simp);have b1:=B.cell (i:=1) (by simp);refine Uo _ _ _ _ _ ?_;unfold ZM;refine zS0 ?_;refine Ia (hA.ext xZ) (hB.ext xZ) (by rw [size_alloc];omega) oM hx b0 b1 _ (λhd w1 e1=> ?_) (λhd w1 e1=> ?_)
 ·refine zS0 ?_;exact G hd _ (Ext.trans (Ext.alloc_self _ _) (e1.trans xZ))
 ·have e:Ext w w1:=Ext.trans (Ext.alloc_self _ _) e1;have g:=(h.ext e).cell.1;have F:=(h.ext e).ltp;refine fC g y ?_;exact p0 _ (e.trans xZ) hd (aZ.of h l r hd)
end
def rmL (R ks:List Nat):List Nat:=R.filter λq=>decide (q∉ks)
def nq {R ks:List Nat} {q:Nat}:q∈rmL R ks↔q∈R/\q∉ks:=by unfold rmL;simp
def Yk (R:List Nat):rmL R []=R:=by
 unfold rmL;exact List.filter_eq_self.2 (λq _=>by simp)
def VS (R ks:List Nat) (p:Nat):rmL R (ks++ [p])=rmR (rmL R ks) p:=by
 unfold rmL rmR;rw [im];refine gj (λq _=> ?_);by_cases e:q=p
 ·subst e;simp
 ·simp [e]
structure RdH (w:ab) (Y:Lay) (H:HL) (v:ca) (L:List ca):Prop where
 rd:RdS w.heap.size w v L
 sp:L≠ []->∀b,v.ownBlock=some b->¬Y.F b/\b≠H.b/\b≠H.p/\b≠H.rm/\b≠H.hm
def RdS.blk {m:Nat} {w:ab} {v:ca} {L:List ca} (h:RdS m w v L) (hL:L≠ []) {b:Nat} (hb:v.ownBlock=some b):b<m:=by
 obtain ⟨a,cap,rfl,h⟩:=h;rcases h with h|⟨b',o,rfl,hm,_⟩
 ·exact absurd h hL
 ·injection hb with hb;subst hb;exact hm
def RdH.nil (w:ab) (Y:Lay) (H:HL):RdH w Y H (.slice none 0 0) []:=⟨RdS.nil _ _,λh=>absurd rfl h⟩
section
variable {Q:Nat->Prop} {w0 w w':ab} {Y Y':Lay} {D:DS} {H:HL} {n:Nat} {f:Idx} {R keep:List Nat} {v:ca} {L:List ca}
def RdH.get (h:RdH w Y H v L) {j:Nat} {u:ca} (hj:L[j]? =some u):∃b o cap,v= .slice (some ⟨b,o,none⟩) L.length cap/\w.cell? ⟨b,o+j,none⟩=some u:=h.rd.get hj
def RdH.st (h:RdH w Y H v L) (s:HSt w Y H w' Y'):RdH w' Y' H v L:=by
 refine ⟨?_,λhL b hb=> ?_⟩
 ·obtain ⟨a,cap,rfl,hh⟩:=h.rd;by_cases hL:L= []
  ·exact ⟨a,cap,rfl,.inl hL⟩
  refine ⟨a,cap,rfl,.inr ?_⟩;rcases hh with hh|⟨b,o,rfl,hm,hc⟩
  ·exact absurd hh hL
  ·have sp:=h.sp hL b rfl;refine ⟨b,o,rfl,by have:=s.frm.size;omega,λj u hj=> ?_⟩;have hb:¬(Y.F b\/b=H.b\/b=H.p\/b=H.rm\/b=H.hm):=λhf=>by
    rcases hf with e|e|e|e|e
    ·exact sp.1 e
    ·exact sp.2.1 e
    ·exact sp.2.2.1 e
    ·exact sp.2.2.2.1 e
    ·exact sp.2.2.2.2 e
   have c:=hc j u hj;unfold World.cell? at c ⊢;rw [s.frm.block b hm hb];exact c
 ·have sp:=h.sp hL b hb;have hm:=h.rd.blk hL hb;exact ⟨λhf=>(s.fr b hf).elim sp.1 (λh=>by omega),sp.2⟩
def VT (h:HpG Q w0 w Y D H n f R) (e:∀p∈R,Plc f n p) {a:Option Addr} {cap:Nat} (hA:RdH w Y H (.slice a keep.length cap) (bL keep)) (hk:∀p∈keep,p<18446744073709551616) (hR:R.length<1000000) (hl:keep.length<1000000) (u:ca) (K:K1)
  (hK:∀w' f2,FS f f2->HSt w Y H w' Y->HpG Q w0 w' Y D H n f2 (rmL R keep)->K (.tuple #[]) w'):
  ad prog 44 #[hpV H,.slice a keep.length cap,u] w K:=by
 have t:=h.n4;refine Ut _ _ _ _ _ ?_;unfold ZO;refine zS0 ?_;apply Db (I:=λz w1=>∃j f1,z= .int .i64 ((j:Nat):Int)/\j<=keep.length/\FS f f1/\HSt w Y H w1 Y/\HpG Q w0 w1 Y D H n f1 (rmL R (keep.take j))) (μ:=λz _=>keep.length-(intOf z).toNat)
 ·refine ⟨0,f,rfl,by omega,FS.refl f,HSt.of_ext Y H xZ,?_⟩;rw [List.take_zero,Yk];exact h.ext xZ
 ·intros;rename_i z w1 hI E1 o;obtain ⟨j,f1,rfl,hj,fs,s1,h1⟩:=hI;by_cases hjl:j<keep.length
  ·have lk:(bL keep)[j]? =some (.int .u64 ((keep[j]:Nat):Int)):=fo hjl;have g:=hA.st s1;obtain ⟨sb,so,sc,c,hc⟩:=g.get lk;injection c with c _ ev2;subst c;subst ev2;obtain ⟨p,hp⟩:∃p,keep[j]=p:=⟨_,rfl⟩;have r:=hk p (hp▸cO hjl);rw [hp] at hc;have ht:keep.take (j+1)=keep.take j++ [p]:=by rw [dd hjl,hp]
   have e5:(j:Int)+1=((j+1:Nat):Int):=oM;have l:∀q∈rmL R (keep.take j),q<18446744073709551616:=λq hq=>by
    have:=(e q (nq.1 hq).1).2.2.2.1;omega
   have lR:(rmL R (keep.take j)).length<1000000:=by
    have:(rmL R (keep.take j)).length<=R.length:=bv _ _;omega
   have d:∀w2 f2,FS f f2->HSt w Y H w2 Y->HpG Q w0 w2 Y D H n f2 (rmR (rmL R (keep.take j)) p)->E1 (.int .i64 ((j+1:Nat):Int)) w2:=λw2 f2 i s2 h2=>by
    apply o
    ·exact ⟨j+1,f2,rfl,by omega,i,s2,by rw [ht,VS];exact h2⟩
    ·simp [intOf];omega
   have k:p∈rmL R (keep.take j)->Plc f1 n p:=λhm=>fs.plc (e p (nq.1 hm).1)
   generalize rmL R (keep.take j)=R1 at*;unfold tC;refine zS1 hc ?_;refine k_holds (h1.ext xZ) l p r _ (λw2 e2=> ?_);have b:Ext w1 w2:=Ext.trans xZ e2;by_cases hm:p∈R1
   ·(repeat' first|refine ak (λ_=> ?_) (λ_=> ?_)|refine am ?_ ?_|refine gG hm ?_|exact BW hm|fail)
    refine Pj (h1.ext (b.trans xZ)) (k hm) hm lR _ (λw3 f3 m s3 h3=> ?_);rw [xq];unfold tD;refine zS1 e5 ?_;exact d _ f3 (fs.trans m) ((s1.ext (b.trans xZ)).trans (s3.ext xZ)) (h3.ext xZ)
   ·(repeat' first|refine ak (λ_=> ?_) (λ_=> ?_)|refine am ?_ ?_|refine gG hm ?_|exact BW hm|fail)
    rw [xq];unfold tD;refine zS1 e5 ?_;refine d _ f1 fs (s1.ext (b.trans xZ)) ?_;rw [VC hm];exact h1.ext (b.trans xZ)
  ·have s:j=keep.length:=oM;subst s;rw [ef] at h1;unfold tC;refine zS0 ?_;exact hK _ f1 fs s1 h1
end
noncomputable section
variable (K:K1) (x0 x1:ca) (w:ab)
def aaf:Prop:=
 cL 14 (pA #[(.int .i64 2)]) w λa w=>
 bM .eql 23 (.tmp 7) (.const (.pointer none)) a (.pointer none) w λb w=>
 ae b (
 K (.bool false) w) (
 nS a w λc w=>
 fA 38 c 3 w λd w=>
 lD 33 d w λe w=>
 cL 15 (pA #[e,(.int .i64 0),(.int .i64 4),(.int .u8 ((64:Nat):Int))]) w λf w=>
 eX f 0 w λg w=>
 eX f 1 w λh w=>
 nS a w λi w=>
 fA 38 i 3 w λj w=>
 lD 33 j w λl w=>
 cL 29 (pA #[l,g]) w λm w=>
 eX m 0 w λn w=>
 eX m 1 w λo w=>
 bC .neq 28 26 0 h w λp w=>
 gV p false o w λq w=>
 gd p false (λk=>bC .neq 28 29 0 q w k) w λs w=>
 au p (.bool true) s w λt w=>
 gV t false g w λv w=>
 gC t false 60 (pA #[v]) w λy w=>
 gd t false (λk=>bU .neq 5 34 .u8 64 y w k) w λz w=>
 au t (.bool true) z w λa0 w=>
 gV a0 false n w λa1 w=>
 gd a0 false (λk=>bC .neq 3 38 7 a1 w k) w λa2 w=>
 au a0 (.bool true) a2 w λa3 w=>
 gV a3 false a w λa4 w=>
 gd a3 false (λk=>nS a4 w k) w λa5 w=>
 gd a3 false (λk=>fA 38 a5 3 w k) w λa6 w=>
 gd a3 false (λk=>lD 33 a6 w k) w λa7 w=>
 gV a3 false g w λa8 w=>
 gC a3 false 21 (pA #[a7,a8,(.int .u8 ((0:Nat):Int))]) w λa9 w=>
 gd a3 false (λk=>bC .neq 28 47 12 a9 w k) w λb0 w=>
 au a3 (.bool true) b0 w λb1 w=>
 ae b1 (
 K (.bool false) w) (
 cL 16 (pA #[a,(.int .i64 0)]) w λb2 w=>
 ev prog (i1 25 1 #[(0,g)]) w λb3 w=>
 cL 17 (pA #[b2,(.slice none 0 0),b3,(.slice none 0 0)]) w λb4 w=>
 bC .eql 28 54 0 b4 w λb5 w=>
 gV b5 true a w λb6 w=>
 gd b5 true (λk=>nS b6 w k) w λb7 w=>
 gd b5 true (λk=>fA 38 b7 3 w k) w λb8 w=>
 gd b5 true (λk=>lD 33 b8 w k) w λb9 w=>
 gV b5 true g w λc0 w=>
 gC b5 true 21 (pA #[b9,c0,(.int .u8 ((0:Nat):Int))]) w λc1 w=>
 gd b5 true (λk=>bC .eql 28 62 0 c1 w k) w λc2 w=>
 au b5 c2 (.bool false) w λc3 w=>
 gV c3 true a w λc4 w=>
 gd c3 true (λk=>nS c4 w k) w λc5 w=>
 gd c3 true (λk=>fA 38 c5 3 w k) w λc6 w=>
 gd c3 true (λk=>lD 33 c6 w k) w λc7 w=>
 gC c3 true 39 (pA #[c7]) w λc8 w=>
 gd c3 true (λk=>ev prog (Instr.field 73 c8 2) w k) w λc9 w=>
 gd c3 true (λk=>bC .eql 3 71 1 c9 w k) w λd0 w=>
 au c3 d0 (.bool false) w λd1 w=>
 K d1 w))
def VU:=cA0 Tryz.func13 .o aaf
def aag:Prop:=
 bM .mul 3 (ci 32) (.tmp 7) (.int .i64 32) x0 w λa w=>
 bM .add 3 (ci 26) (.tmp 8) (.int .i64 26) a w λb w=>
 cL 61 (pA #[b]) w λc w=>
 eX c 0 w λd w=>
 eX c 1 w λe w=>
 bC .neq 28 13 0 e w λf w=>
 gV f false d w λg w=>
 gd f false (λk=>bM .eql 30 (.tmp 16) (.const (.pointer none)) g (.pointer none) w k) w λh w=>
 au f (.bool true) h w λi w=>
 gV i false d w λj w=>
 gC i false 50 (pA #[j,(.int .i64 0)]) w λl w=>
 gd i false (λk=>bM .eql 31 (.tmp 21) (.const (.pointer none)) l (.pointer none) w k) w λm w=>
 au i (.bool true) m w λn w=>
 ae n (
 K (.pointer none) w) (
 cL 50 (pA #[d,(.int .i64 0)]) w λo w=>
 ev prog (eu 31 o) w λp w=>
 cL 62 (pA #[p,(.int .i64 0),(.int .i64 26)]) w λq w=>
 bC .neq 28 28 0 q w λs w=>
 gV s false o w λt w=>
 gd s false (λk=>ev prog (eu 31 t) w k) w λv w=>
 gV s false x0 w λy w=>
 gd s false (λk=>bM .mul 3 (ci 32) (.tmp 33) (.int .i64 32) y w k) w λz w=>
 gC s false 63 (pA #[v,(.int .i64 26),z]) w λa0 w=>
 gd s false (λk=>bC .neq 28 35 0 a0 w k) w λa1 w=>
 au s (.bool true) a1 w λa2 w=>
 ae a2 (
 K (.pointer none) w) (
 cL 57 (pA #[d,x0]) w λa3 w=>
 K a3 w))
def VV:=cA1 Tryz.func14 .o aag
def aah:Prop:=
 nR x0 w.drew λa=>
 fR 38 a 3 w.drew λb=>
 lR 33 b w.drew λc=>
 nR x0 w.drew λd=>
 fR 38 d 0 w.drew λe=>
 lR 30 e w.drew λf=>
 nR x0 w.drew λg=>
 fR 38 g 2 w.drew λh=>
 lR 32 h w.drew λi=>
 cL 50 (pA #[f,x1]) w.drew λj w=>
 (br prog x0 w (λu=>u=a))/\
 (fG 38 a 3 w b)/\
 (lG 33 b w c)/\
 (br prog x0 w (λu=>u=g))/\
 (fG 38 g 2 w h)/\
 (lG 32 h w i)/\
 cL 55 (pA #[c,j,i]) w λl w=>
 K l w
def VW:=cA2 Tryz.func16 .o aah
def aai:Prop:=
 cL 50 (pA #[x0,(.int .i64 0)]) w λa w=>
 bM .eql 31 (.tmp 11) (.const (.pointer none)) a (.pointer none) w λb w=>
 ae b (
 K (.pointer none) w) (
 ev prog (eu 31 a) w λc w=>
 cL 107 (pA #[c,(.int .i64 0),(.int .i64 26)]) w λd w=>
 eX d 0 w λe w=>
 eX d 1 w λf w=>
 bC .neq 28 19 0 f w λg w=>
 ae g (
 K (.pointer none) w) (
 cL 108 (pA #[e]) w λh w=>
 eX h 0 w λi w=>
 eX h 1 w λj w=>
 bC .neq 28 26 0 j w λl w=>
 ae l (
 K (.pointer none) w) (
 ev prog (eu 31 a) w λm w=>
 bM .mul 3 (ci 32) (.tmp 31) (.int .i64 32) x1 w λn w=>
 cL 109 (pA #[m,(.int .i64 26),n]) w λo w=>
 eX o 0 w λp w=>
 eX o 1 w λq w=>
 bC .neq 28 36 0 q w λs w=>
 gV s false p w λt w=>
 gd s false (λk=>bM .eql 33 (.tmp 39) (.const (.pointer none)) t (.pointer none) w k) w λv w=>
 au s (.bool true) v w λy w=>
 ae y (
 K (.pointer none) w) (
 ev prog (Instr.build 38 #[(0,x0),(1,a),(2,e),(3,p),(4,x1)]) w λz w=>
 ev prog (Instr.box 38 z) w λa0 w=>
 K a0 w))))
def VX:=cA2 Tryz.func57 .o aai
end
def drF (H:HL) (T:Nat) (i:Nat):ca:= [hpV H,.pointer (some ⟨T,0,none⟩),.pointer (some ⟨H.B,0,none⟩)].getD i undef
structure Spc (w:ab) (Y:Lay) (H:HL) (B k:Nat):Prop where
 bx:af w B 123 3 (drF H (Y.tb k))
 ne:¬Y.F B/\B≠H.b/\B≠H.p/\B≠H.rm/\B≠H.hm
structure adJ (D:DS) (f:Idx) (n:Nat) (keep free:List Nat) (D2:DS) (f2:Idx):Prop where
 P:aZ D f n keep free
 E:pY D D2 f n keep free
 fs:FS f f2
 n2:D2.n=D.n
 exe:D2.exe<=D.exe+1000
 cl:Cln D.co->Cln D2.co
 run:D2=D.run 0 (rpI (ce D f keep free n))
section
variable {Q:Nat->Prop} {w0 w w':ab} {Y Y':Lay} {D:DS} {H:HL} {n k B Wb:Nat} {f:Idx} {R keep free:List Nat} {v:ca} {L:List ca}
def Spc.st (h:Spc w Y H B k) (s:HSt w Y H w' Y'):Spc w' Y' H B k:=by
 have lt:=h.bx.lt;refine ⟨?_,λhf=>(s.fr B hf).elim h.ne.1 (λh=>by omega),h.ne.2⟩;rw [s.tb];exact h.bx.frm s.frm (λhf=>by
  rcases hf with e|e|e|e|e
  ·exact h.ne.1 e
  ·exact h.ne.2.1 e
  ·exact h.ne.2.2.1 e
  ·exact h.ne.2.2.2.1 e
  ·exact h.ne.2.2.2.2 e)
def Spc.cells (h:Spc w Y H B k):w.cell? ⟨B,0,none⟩=some (hpV H)/\w.cell? ⟨B,1,none⟩=some (.pointer (some ⟨Y.tb k,0,none⟩))/\w.cell? ⟨B,2,none⟩=some (.pointer (some ⟨H.B,0,none⟩)):=
 ⟨h.bx.cell (i:=0) oM,h.bx.cell (i:=1) oM,h.bx.cell (i:=2) oM⟩
def HpG.lts (h:HpG Q w0 w Y D H n f R):H.b<w.heap.size/\H.p<w.heap.size/\H.rm<w.heap.size/\H.hm<w.heap.size:=by
 obtain ⟨L,h1,_⟩:=h.hd;exact ⟨h.ar.pl.lt rfl,h.hp.lt,h.rs.lt,h1.lt⟩
def HpG.new (h:HpG Q w0 w Y D H n f R) (hB:w.heap.size<=B):¬Y.F B/\B≠H.b/\B≠H.p/\B≠H.rm/\B≠H.hm:=by
 have:=h.lts;exact ⟨λhf=>by have:=h.ar.L.dv.lt hf;omega,by omega,by omega,by omega,by omega⟩
def Yl (h:HpG Q w0 w Y D H n f R) (c0:w.cell? ⟨Wb,0,none⟩=some (.pointer (some ⟨Y.d,0,none⟩))) (c2:w.cell? ⟨Wb,2,none⟩=some (.pointer (some ⟨H.B,0,none⟩))) (c3:w.cell? ⟨Wb,3,none⟩=some (hpV H)) (hk:k<8) (K:K1)
  (hK:∀B w',Ext w w'->w.heap.size<=B->Spc w' Y H B k->K (.pointer (some ⟨B,0,none⟩)) w'):
  ad prog 16 #[.pointer (some ⟨Wb,0,none⟩),.int .i64 (k:Int)] w K:=by
 have hT:∀(w1:ab) (K:K1),Ext w w1->ad prog 50 #[.pointer (some ⟨Y.d,0,none⟩),.int .i64 (k:Int)] w1 K=K (.pointer (some ⟨Y.tb k,0,none⟩)) w1:=λw1 K e=>by rw [<-h.dt.1];exact jD (h.ar.L.dv.ext e) k hk K
 have a:=ay c0;refine VW _ _ _ _ ?_;unfold aah
 (repeat' first|refine ak (λ_=> ?_) (λ_=> ?_)|refine am ?_ ?_|refine rN c0 c2 c3 hT ?_|exact Xo c0 c2 c3 hT|fail)
 refine mW _ _ _ _ _ ?_;unfold Dd;refine zS0 ?_;have hB:=af.new w.drew [hpV H,.pointer (some ⟨Y.tb k,0,none⟩),.pointer (some ⟨H.B,0,none⟩)] 123;exact hK _ _ xZ (cj _) ⟨hB,h.new (cj _)⟩
def VY (w:ab) (K:K1) (hK:K (.slice none 0 0) w):ad prog 72 #[.slice none 0 0] w K:=by
 refine UW _ _ _ ?_;unfold ZZ;refine zS0 ?_;exact hK
def Ld (P:aZ D f n keep free) (b:26+32*n<=D.n) (a:D.cur 0=0) (hw:tj D.n (ce D f keep free n)):On (D.run 0 (rpI (ce D f keep free n)))/\pY D (D.run 0 (rpI (ce D f keep free n))) f n keep free/\(D.run 0 (rpI (ce D f keep free n))).n=D.n/\(D.run 0 (rpI (ce D f keep free n))).exe<=D.exe+1000/\(D.run 0 (rpI (ce D f keep free n))).cur 0=0/\(Cln D.co->Cln (D.run 0 (rpI (ce D f keep free n))).co):=by
 by_cases h0:ce D f keep free n= []
 ·have e:D.run 0 (rpI (ce D f keep free n))=D:=by rw [h0];rfl
  rw [e];exact ⟨P.rg.on,P.eff P.rg.on P.rg.gd rfl (λj _=>by rw [h0];rfl),rfl,by omega,a,λh=>h⟩
 ·have e:rpI (ce D f keep free n)=cmI (cmC (ce D f keep free n)) (ce D f keep free n):=by unfold rpI;rw [if_neg h0]
  rw [e];have g:=abq P.rg.on P.rg.gd oM hw (HY hw.len);exact ⟨g.1,P.eff g.1 g.2.1 g.2.2.1 g.2.2.2.2.1,g.2.2.1,g.2.2.2.1,g.2.2.2.2.2.1,g.2.2.2.2.2.2⟩
def xJ (h:HpS w0 w Y D H n f R) (a2:H.lk=false) (hk:k<8) (sp:Spc w Y H B k) (r:∀p∈keep,p∈R) (a4:∀p∈free,Liv D f n p) {va vb:ca} (hA:RdH w Y H va (bL keep)) (hB:RdH w Y H vb (bL free)) (hl:keep.length<=100000/\free.length<=100000) (hR:R.length<1000000) (hx:D.exe<900000000) (K:K1)
  (a3:¬eY (keep++free)->∀w',Ext w w'->K (.int .i64 1) w')
  (S:40<keep.length+free.length->∀w',Ext w w'->K (.int .i64 9) w')
  (M:∀D2 f2 w' Y',eY (keep++free)->adJ D f n keep free D2 f2->HSt w Y H w' Y'->HpS w0 w' Y' D2 H n f2 (rmL R keep)->K (.int .i64 0) w'):
  ad prog 17 #[.pointer (some ⟨B,0,none⟩),.slice none 0 0,va,vb] w K:=by
 have F:=h.n4;have lA:(bL keep).length=keep.length:=by simp [bL]
 obtain ⟨aA,cA,rfl,_⟩:=id hA.rd;rw [lA] at hA ⊢;have hr:∀p∈R,p<18446744073709551616:=λp hp=>by
  have:=((h.rv p hp).kn oM h.rg).2.2.2.1;omega
 have e0:=h.rg.on.err;have J:=λ(w1:ab) (e:Ext w w1) (K:K1) (hK:∀v' w',Ext w1 w'->K (.tuple #[v',.int .i64 0]) w')=>Bd ((h.ext e).ar.L.dv) h.rg.gd (h.gl.ext e) oM rfl (h.ext e).lg (λ_=>⟨h.rg.on.off,h.idl⟩) [] (.slice none 0 0) (SlO.nil _ _ _) (by simp) (by simp) (λx hx=>by cases hx) K (λhl=>by simp at hl) (λ_ he=>absurd e0 he) (λ_ _ v' w' e' _ _=>hK v' w' e')
 have C:∀(w1:ab) (K:K1),Ext w w1->ad prog 28 #[.pointer (some ⟨Y.tb k,0,none⟩)] w1 K=K (.int .i64 0) w1:=λw1 K e=>by rw [cM (h.ar.L.dv.ext e) k hk K,h.er k hk]
 have Q:=λ(w1:ab) (e:Ext w w1) (K:K1) a b=>Ic (h.ext e) r a4 (hA.rd.ext e) (hB.rd.ext e) e.size hl K a b
 have a5:aZ D f n keep free->eY (keep++free)->tj D.n (ce D f keep free n)->∀w2 Y2,HSt w Y H w2 Y2->HpG (λ_=>True) w0 w2 Y2 (D.run 0 (rpI (ce D f keep free n))) H n f R->∀w3 f3,FS f f3->HSt w2 Y2 H w3 Y2->HpG (λ_=>True) w0 w3 Y2 (D.run 0 (rpI (ce D f keep free n))) H n f3 (rmL R keep)->K (.int .i64 0) w3:=λP hd hw w2 Y2 s2 h2 w3 f3 fs s3 h3=>by
  have g:=Ld P F.2 h.idl hw;refine M _ f3 w3 Y2 hd ⟨P,g.2.1,fs,g.2.2.1,g.2.2.2.1,g.2.2.2.2.2,rfl⟩ (s2.trans s3) (h3.mapQ (λq hq _=> ?_));refine fs.rsv.2 (g.2.1.rsv P (h.rv q (nq.1 hq).1) (λhm=> ?_));obtain ⟨p,hp,e⟩:=List.mem_map.1 hm;have:=Bj h.nd (r p hp) (nq.1 hq).1 e;exact (nq.1 hq).2 (this▸hp)
 have cm:aZ D f n keep free->∀w1,Ext w w1->∀(v:ca) (K2:K1),SlO w1 98 2 v (ce D f keep free n).length (wrL (ce D f keep free n))->(96<(ce D f keep free n).length->∀w',Ext w1 w'->K2 (.int .i64 9) w')->(tj D.n (ce D f keep free n)->∀w2 Y2,HSt w Y H w2 Y2->HpG (λ_=>True) w0 w2 Y2 (D.run 0 (rpI (ce D f keep free n))) H n f R->K2 (.int .i64 0) w2)->ad prog 43 #[.pointer (some ⟨H.B,0,none⟩),v] w1 K2:=λP w1 e1 v K2 hs ha hb=>by
  have h1:=h.ext e1;have U:=P.all n (cj _);refine Vs h1.ar.L.dv h.rg.gd h1.gl oM rfl h1.lg e0 h.rg.on.off h.idl oM (ce D f keep free n) v hs (P.nd n (cj _)) (by have:=P.le;omega) (λx hx=> ?_) K2 ha (λhw w2 Y2 s2=> ?_)
  ·have:=U x hx;exact ⟨this.2.2.1,by omega,this.1,this.2.2.2⟩
  ·have g:=Ld P F.2 h.idl hw;rw [g.1.err];refine hb hw w2 Y2 ((HSt.of_ext Y H e1).trans (HSt.of_stp H s2)) (h1.step s2 g.2.2.1 g.2.1.rg (λ_ _=>trivial) (λj hj=> ?_) g.2.2.2.2.1);by_cases e:j=0
   ·subst e;exact g.1.err
   ·rw [fd e];exact h.er j hj
 have T:=λ(w2:ab) (Y2:Lay) (f1:Idx) (D2:DS) (s2:HSt w Y H w2 Y2) (h2:HpG (λ_=>True) w0 w2 Y2 D2 H n f1 R) (Z:∀p∈R,Plc f1 n p) (K2:K1) hK=>VT h2 Z (hA.st s2) (λp hp=>hr p (r p hp)) hR oM vb K2 hK
 have O:∀w1 Y1,HSt w Y H w1 Y1->(Spc w1 Y1 H B k):=λw1 Y1 s=>sp.st s
 have hq:∀(w1:ab),Ext w w1->w1.cell? ⟨B,0,none⟩=some (hpV H)/\w1.cell? ⟨B,1,none⟩=some (.pointer (some ⟨Y.tb k,0,none⟩))/\w1.cell? ⟨B,2,none⟩=some (.pointer (some ⟨H.B,0,none⟩)):=λw1 e=>(sp.st (HSt.of_ext Y H e)).cells
 have a1:∀(w1:ab),Ext w w1->w1.cell? ⟨H.p,7,none⟩=some (.bool false):=λw1 e=>by rw [<-a2];exact (h.ext e).cell.2.2.2.2.2.2.2
 have V:∀p∈R,Plc f n p:=λp hp=>(h.rv p hp).plc oM h.rg
 have N:aZ D f n keep free->(ce D f keep free n).length<=2*(keep.length+free.length):=λP=>P.le
 generalize hWW:ce D f keep free n=W at*;have b0:=hq w (Ext.refl _);have l:=b0;have q0:=l.1;have q1:=l.2.1;have q2:=l.2.2;have ltB:=ay q0;refine mV _ _ _ _ _ _ ?_;unfold CL;refine zS3 q0 q1 q2 ?_;refine J _ xZ _ (λv1 w1 e1=> ?_);have d:Ext w w1:=Ext.trans xZ e1;have b1:=hq w1 d;have t:=b1;have r0:=t.1;have r1:=t.2.1;have r2:=t.2.2;have r7:=a1 w1 d;have b7:=(h.ext d).ltp;have b3:=ay r0;refine dY r0 r1 r2 r7 C C ?_;refine Q _ (d.trans xZ) _ (λhd w2 e2=> ?_) (λhd P v2 w2 e2 n2 s2=> ?_)
 ·refine zS0 ?_;exact a3 hd _ (d.trans (Ext.trans xZ (e2.trans xZ)))
 ·have G:Ext w w2:=d.trans (Ext.trans xZ e2);have b2:=hq w2 G;have o:=b2;have u0:=o.1;have u1:=o.2.1;have u2:=o.2.2;have a8:=ay u0;have a7:=cm P;have le:=N P;have I:=a5 P hd;have app:∀(w3:ab) (K3:K1),Ext w2 w3->(∀v4 w4,Ext w3 w4->SlO w4 98 2 v4 W.length (wrL W)->K3 v4 w4)->aY prog .append #[79,79] 79 #[false,false] #[.slice none 0 0,v2] w3 K3:=λw3 K3 e3 A=>by
   by_cases h0:W.length=0
   ·have a0:W= []:=eo h0;subst a0;obtain ⟨a,c,rfl⟩:=SlO.form s2;rw [show ([]:List (Nat×Nat)).length=0 from rfl,jE cv none 0 0 oM a c];exact A _ _ (Ext.refl _) (SlO.nil _ _ _)
   ·obtain ⟨xb,xo,xc,rfl,_⟩:=s2.isS oM;refine ck cv (SlO.nil w3 _ _) (m:=W.length) (news:=wrL W) (se W) (λj u hj=>(s2.ext e3).cell rfl hj) (VQ W) oM oM oM (λv4 w4 E a6 _ _=> ?_);refine A v4 w4 (Frm.to_ext a6 (λb _ hb=>by cases hb)) ?_;rw [kv,gn] at E;exact E
  (repeat' first|refine ak (λ_=> ?_) (λ_=> ?_)|refine am ?_ ?_|refine eQ u0 u1 u2 ?_|exact BX u0 u1 u2|fail)
  refine VY _ _ ?_
  (repeat' first|refine ak (λ_=> ?_) (λ_=> ?_)|refine am ?_ ?_|refine eQ u0 u1 u2 ?_|exact BX u0 u1 u2|fail)
  refine app _ _ xZ (λv4 w4 e4 s4=> ?_);have y:Ext w w4:=G.trans (Ext.trans xZ e4);have b4:=hq w4 y;have z:=b4;have x0:=z.1;have x1:=z.2.1;have x2:=z.2.2;have b6:=ay x0
  (repeat' first|refine ak (λ_=> ?_) (λ_=> ?_)|refine am ?_ ?_|refine eQ x0 x1 x2 ?_|exact BX x0 x1 x2|fail)
  refine a7 _ (y.trans xZ) v4 _ (s4.ext xZ) (λhl w5 e5=> ?_) (λhw w5 Y5 s5 h5=> ?_)
  ·refine zS0 ?_;exact S oM _ (y.trans (Ext.trans xZ (e5.trans xZ)))
  ·have b5:=(O w5 Y5 s5).cells;have i:=b5;have y0:=i.1;have y1:=i.2.1;have y2:=i.2.2;have a9:=ay y0;refine zS3 y0 y1 y2 ?_;refine T w5 Y5 f _ s5 h5 V _ (λw6 f6 X s6 h6=> ?_);exact I hw w5 Y5 s5 h5 w6 f6 X s6 h6
end
def livI (D:DS) (l:Nat) (c:Int):Nat->List Nat
 |0=> []
 |i+1=>livI D l c i++if mkB D l c (i:Int) 177=true then [ptrN (pOff l c i) (bG (wd D l (offN c i))) (bK (wd D l (offN c i)))] else []
def livN (D:DS) (f:Idx):Nat->List Nat
 |0=> []
 |k+1=>livN D f k++if (f k).1<0 then [] else livI D (26+32*k) (f k).1 (perS (f k).1).toNat
section
variable {Q:Nat->Prop} {w0 w w':ab} {Y Y':Lay} {D:DS} {H:HL} {n k i l b p:Nat} {c:Int} {f:Idx} {R:List Nat}
def VZ:∀{m i:Nat},i<=m->∃t,livI D l c m=livI D l c i++t:=by
 intro m
 induction m with
 |zero=>intro i hi;exact ⟨[],by rw [show i=0 by omega];rfl⟩
 |succ m ih=>
  intro i hi;by_cases e:i=m+1
  ·subst e;exact ⟨[],by simp⟩
  ·obtain ⟨t,ht⟩:=ih (i:=i) oM;exact ⟨t++_,by rw [livI,ht,dp]⟩
def V0:∀{m k:Nat},k<=m->∃t,livN D f m=livN D f k++t:=by
 intro m
 induction m with
 |zero=>intro i hi;exact ⟨[],by rw [show i=0 by omega];rfl⟩
 |succ m ih=>
  intro i hi;by_cases e:i=m+1
  ·subst e;exact ⟨[],by simp⟩
  ·obtain ⟨t,ht⟩:=ih (k:=i) oM;exact ⟨t++_,by rw [livN,ht,dp]⟩
def Id (rg:RgS D 26 n f) (hk:k<n) (h0:0<=(f k).1) (i:Nat):mkB D (26+32*k) (f k).1 (i:Int) 177=true↔((i:Int)<perS (f k).1/\bS (wd D (26+32*k) (offN (f k).1 i))=177):=by
 have c5:=(rg.cls hk).1;have s:=rg.sn k hk h0;unfold mkB;simp only [dl,df,decide_eq_true_eq];constructor
 ·rintro ⟨⟨_,a⟩,_,_,b⟩;exact ⟨a,b⟩
 ·rintro ⟨a,b⟩;have v:=s.live h0 c5 a b;exact ⟨⟨by omega,a⟩,v.1,v.2.1,b⟩
def D6:∀{m:Nat},p∈livI D l c m↔∃i,i<m/\mkB D l c (i:Int) 177=true/\p=ptrN (pOff l c i) (bG (wd D l (offN c i))) (bK (wd D l (offN c i))):=by
 intro m
 induction m with
 |zero=>exact ⟨λh=>(by cases h),λ⟨i,h,_⟩=>by omega⟩
 |succ m ih=>
  rw [livI,eP,ih];constructor
  ·rintro (⟨i,a,b⟩|h)
   ·exact ⟨i,by omega,b⟩
   ·by_cases hm:mkB D l c (m:Int) 177=true
    ·rw [if_pos hm] at h;simp only [ap] at h;exact ⟨m,by omega,hm,h⟩
    ·rw [if_neg hm] at h;cases h
  ·rintro ⟨i,a,b,e⟩;by_cases hi:i=m
   ·subst hi;right;rw [if_pos b];simp [e]
   ·exact .inl ⟨i,by omega,b,e⟩
def tZ:∀{m:Nat},p∈livN D f m↔∃k,k<m/\0<=(f k).1/\p∈livI D (26+32*k) (f k).1 (perS (f k).1).toNat:=by
 intro m
 induction m with
 |zero=>exact ⟨λh=>(by cases h),λ⟨i,h,_⟩=>by omega⟩
 |succ m ih=>
  rw [livN,eP,ih];constructor
  ·rintro (⟨i,a,b⟩|h)
   ·exact ⟨i,by omega,b⟩
   ·by_cases hm:(f m).1<0
    ·rw [if_pos hm] at h;cases h
    ·rw [if_neg hm] at h;exact ⟨m,by omega,by omega,h⟩
  ·rintro ⟨i,a,b,e⟩;by_cases hi:i=m
   ·subst hi;right;rw [if_neg oM];exact e
   ·exact .inl ⟨i,by omega,b,e⟩
def kQ (rg:RgS D 26 n f):p∈livN D f n↔Liv D f n p:=by
 rw [tZ];constructor
 ·rintro ⟨k,hk,h0,h⟩;obtain ⟨i,hi,hm,e⟩:=D6.1 h;have:=(Id rg hk h0 i).1 hm;exact ⟨k,i,hk,h0,this.1,e,this.2⟩
 ·rintro ⟨k,i,hk,h0,hi,e,hs⟩;exact ⟨k,hk,h0,D6.2 ⟨i,by omega,(Id rg hk h0 i).2 ⟨hi,hs⟩,e⟩⟩
def Bm (l0:Nat):∀n:Nat,(lnL (λ_=>true) l0 n).length=n/\∀k:Nat,k<n->(lnL (λ_=>true) l0 n)[k]? =some (((l0+32*k:Nat)):Int):=by
 intro n
 induction n with
 |zero=>exact ⟨rfl,λk hk=>by omega⟩
 |succ n ih=>
  rw [lnL,if_pos rfl];refine ⟨by rw [an,ih.1];rfl,λk hk=> ?_⟩;by_cases e:k=n
  ·subst e;rw [List.getElem?_append_right oM,ih.1];simp
  ·rw [List.getElem?_append_left oM];exact ih.2 k oM
def Ym {y:ca} (h:HpS w0 w Y D H n f R) (hb:af w b 33 1 (λ_=>hpV H)) (G:Nat->Prop) (hG:∀x,G x->x<w.heap.size/\x≠b) (J:List Nat->ab->Prop) (Jx:ab->Prop)
  (h0:∀w1,Ext w w1->J [] w1)
  (hE:∀s w1 w2,J s w1->Ext w1 w2->J s w2)
  (hH:∀s w1,J s w1->HpS w0 w1 Y D H n f R)
  (hy:∀(s:List Nat) (p:Nat) (t:List Nat) w1 (K':K1),livN D f n=s++p::t->J s w1->(∀w2,Frm G w1 w2->J (s++ [p]) w2->K' (.bool true) w2)->(∀w2,Jx w2->K' (.bool false) w2)->md prog y #[.int .u64 (p:Int)] w1 K')
  (K:K1) (hK:∀w',J (livN D f n) w'->K (.tuple #[]) w') (hX:∀w',Jx w'->K (.tuple #[]) w'):
  ad prog 134 #[y,.pointer (some ⟨b,0,none⟩)] w K:=by
 have e0:=h.n4;have b0:w.cell? ⟨b,0,none⟩=some (hpV H):=hb.cell (i:=0) oM;have ltb:=hb.lt;have q3:=h.cell.2.2.2.1;have ltp:=h.ltp;have ln:=Bm 26 n;have b2:=λ(w1:ab) (e:Ext w w1) (K:K1) hK=>qS ((h.ext e).ar) K hK
 have A:∀(k:Nat) (v:ca) (w1:ab) (cb:Nat) (E1:ca->ab->Prop),k<n->0<=(f k).1->SlO w1 3 1 v (lnL (λ_=>true) 26 n).length (aX (lnL (λ_=>true) 26 n))->bw w.heap.size v->af w1 b 33 1 (λ_=>hpV H)->w.heap.size<=cb->af w1 cb 134 5 (chF (Y.tb 0) (26+32*k) (f k).1 (f k).2.1 (gX (wd D (26+32*k) 0)))->J (livN D f k) w1->(∀w2,J (livN D f (k+1)) w2->SlO w2 3 1 v (lnL (λ_=>true) 26 n).length (aX (lnL (λ_=>true) 26 n))->af w2 b 33 1 (λ_=>hpV H)->E1 (.int .i64 ((k+1:Nat):Int)) w2)->AX K E1 y (.pointer (some ⟨b,0,none⟩)) (.pointer (some ⟨cb,0,none⟩)) v (.int .i64 (n:Int)) (.int .i64 (k:Int)) (.int .i64 (perS (f k).1)) (.int .i64 0) w1:=by
  intro k v w1 cb E1 hk r hv nv d0 e2 hC hj M;have c5:=(h.cls hk).1;have d8:=aJ r c5;have hs:=h.rg.sn k hk r;obtain ⟨m,hm⟩:∃m:Nat,perS (f k).1=(m:Int):=⟨(perS (f k).1).toNat,by omega⟩;have O:livN D f (k+1)=livN D f k++livI D (26+32*k) (f k).1 m:=by
   rw [livN,if_neg oM,hm];rfl
  rw [hm];apply Ba (I:=λz w2=>∃i:Nat,z= .int .i64 (i:Int)/\i<=m/\J (livN D f k++livI D (26+32*k) (f k).1 i) w2/\SlO w2 3 1 v (lnL (λ_=>true) 26 n).length (aX (lnL (λ_=>true) 26 n))/\af w2 b 33 1 (λ_=>hpV H)/\af w2 cb 134 5 (chF (Y.tb 0) (26+32*k) (f k).1 (f k).2.1 (gX (wd D (26+32*k) 0)))) (μ:=λz _=>m-(intOf z).toNat)
  ·exact ⟨0,rfl,by omega,by simpa [livI] using hj,hv,d0,hC⟩
  ·intros;rename_i w2 hI E2 b9;obtain ⟨i,rfl,hi,o,u,q,L⟩:=hI;by_cases hil:i<m
   ·have ei:(i:Int)+1=((i+1:Nat):Int):=oM;have F:=hH _ _ o;have W:=F.cx hk r;have c3:=h.er 0 oM;have c4:=hs.sndB r c5 i oM;have b7:=Id h.rg hk r i;obtain ⟨t,ht⟩:=V0 (D:=D) (f:=f) (show k+1<=n by omega);obtain ⟨t2,T⟩:=VZ (D:=D) (l:=26+32*k) (c:=(f k).1) (show i+1<=m by omega);have c7:=λ(w3:ab) (e:Ext w2 w3) (K:K1) hK=>XD (W.ext e) (f k).2.1 (gX (wd D (26+32*k) 0)) (i:Int) K hK
    have b8:=λ(w3:ab) (e:Ext w2 w3) (K:K1) a1 a2 a3 a4 a5 a6=>wL (W.ext e) c3 (f k).2.1 (gX (wd D (26+32*k) 0)) (i:Int) 0 oM K a1 a2 a3 a4 a5 a6
    have g:∀w3,J (livN D f k++livI D (26+32*k) (f k).1 (i+1)) w3->SlO w3 3 1 v (lnL (λ_=>true) 26 n).length (aX (lnL (λ_=>true) 26 n))->af w3 b 33 1 (λ_=>hpV H)->af w3 cb 134 5 (chF (Y.tb 0) (26+32*k) (f k).1 (f k).2.1 (gX (wd D (26+32*k) 0)))->E2 (.int .i64 ((i+1:Nat):Int)) w3:=λw3 a1 a2 a3 a4=>by
     apply b9
     ·exact ⟨i+1,rfl,by omega,a1,a2,a3,a4⟩
     ·simp [intOf];omega
    rw [livI] at g T;rw [O,T] at ht;have d2:=chD L;have e5:=L.lt;have c2:(i:Int)<perS (f k).1:=oM;rw [hm] at c2;have c1:(i:Int)<(m:Int):=oM;unfold pU;have C:=d2;have g0:=C.1;have g1:=C.2.1;have g2:=C.2.2.1;have g3:=C.2.2.2.1;have g4:=C.2.2.2.2;refine zS6 g0 g1 g2 g3 g4 g4 ?_;refine c7 _ xZ _ (λw3 e3=> ?_);have d:Ext w2 w3:=Ext.trans xZ e3;have d3:=chD (L.ext d);have d7:=(L.ext d).lt;have E:=d3;have u0:=E.1;have u1:=E.2.1;have u2:=E.2.2.1;have u3:=E.2.2.2.1;have u4:=E.2.2.2.2
    cases hmb:mkB D (26+32*k) (f k).1 (i:Int) 177 with
    |false=>
     rw [hmb,if_neg (by simp),e8] at g;refine zS0 ?_;rw [tT];unfold pV;refine zS1 ei ?_;exact g _ (hE _ _ _ o (d.trans xZ)) (u.ext (d.trans xZ)) (q.ext (d.trans xZ)) (L.ext (d.trans xZ))
    |true=>
     have N:=(b7.1 hmb).2;rw [hmb,if_pos rfl] at g T ht;have d4:livN D f n=(livN D f k++livI D (26+32*k) (f k).1 i)++ptrN (pOff (26+32*k) (f k).1 i) (bG (wd D (26+32*k) (offN (f k).1 i))) (bK (wd D (26+32*k) (offN (f k).1 i)))::(t2++t):=by
      rw [ht];simp
     rw [<-dp] at g;have c8:=λ(w4:ab) (K':K1) a b=>hy _ _ _ w4 K' d4 a b
     have d5:=hE _ _ _ o d;generalize livN D f k++livI D (26+32*k) (f k).1 i=s1 at*;have d9:¬(177=178):=by decide
     refine zS6 u0 u1 u2 u3 u4 u4 ?_;refine b8 _ (d.trans xZ) _ (λb3=>absurd ⟨by omega,by rw [hm];exact c1⟩ b3) (λj Q _ c9=> ?_) (λj Q _ _ h8=> ?_) (λj Q _ _ _ w4 e4=> ?_) (λj Q _ _ h6=> ?_) (λj Q _ _ h6=> ?_)
     ·have:j=i:=oM;subst this;exact absurd c4 c9
     ·have:j=i:=oM;subst this;rw [N] at h8;exact absurd h8 (by decide)
     ·have:j=i:=oM;subst this;have X:Ext w3 w4:=Ext.trans xZ e4;generalize ptrN (pOff (26+32*k) (f k).1 j) (bG (wd D (26+32*k) (offN (f k).1 j))) (bK (wd D (26+32*k) (offN (f k).1 j)))=pp at*;refine zS0 ?_;refine c8 _ _ (hE _ _ _ d5 (X.trans xZ)) (λw5 g5 j5=> ?_) (λw5 jx=> ?_)
      ·refine zS0 ?_;rw [tT];unfold pV;refine zS1 ei ?_;have S:=d.trans X;exact g _ j5 ((u.ext (S.trans xZ)).frm g5 (λb hb hg=>by have:=nv b hb;have:=(hG b hg).1;omega)) ((q.ext (S.trans xZ)).frm g5 (λhg=>(hG b hg).2 rfl)) ((L.ext (S.trans xZ)).frm g5 (λhg=>by have:=(hG cb hg).1;omega))
      ·refine zS0 ?_;exact hX _ jx
     ·have:j=i:=oM;subst this;rw [N] at h6;exact absurd h6 (by decide)
     ·have:j=i:=oM;subst this;rw [N] at h6;exact absurd h6 (by decide)
   ·have b1:i=m:=oM;subst b1;unfold pU;refine zS0 ?_;rw [tS];unfold pT;have ek:(k:Int)+1=((k+1:Nat):Int):=oM;refine zS1 ek ?_;exact M _ (by rw [O];exact o) u q
 refine Pc _ _ _ _ ?_;unfold Vh;refine zS2 b0 q3 ?_;refine b2 _ xZ _ (λv w1 e1 nv hv=> ?_);have Z:Ext w w1:=Ext.trans xZ e1;have a0:bw w.heap.size v:=λb hb=>nv b hb
 obtain ⟨a,cap,rfl⟩:=SlO.form hv;rw [ln.1];have A:=λk w1 cb E1=>A k (.slice a (lnL (λ_=>true) 26 n).length cap) w1 cb E1
 have a9:∀w2,SlO w2 3 1 (.slice a (lnL (λ_=>true) 26 n).length cap) (lnL (λ_=>true) 26 n).length (aX (lnL (λ_=>true) 26 n))->RdS w2.heap.size w2 (.slice a (lnL (λ_=>true) 26 n).length cap) (aX (lnL (λ_=>true) 26 n)):=λw2 h=>RdS.of_slR (t:=3) (by rw [show (aX (lnL (λ_=>true) 26 n)).length=(lnL (λ_=>true) 26 n).length by simp];exact h)
 have lk:(aX (lnL (λ_=>true) 26 n)).length=n:=by simp [ln.1]
 rw [ln.1] at A hv a9;refine zS0 ?_;apply AZ (I:=λz w2=>∃k:Nat,z= .int .i64 (k:Int)/\k<=n/\J (livN D f k) w2/\SlO w2 3 1 (.slice a n cap) n (aX (lnL (λ_=>true) 26 n))/\af w2 b 33 1 (λ_=>hpV H)) (μ:=λz _=>n-(intOf z).toNat)
 ·exact ⟨0,rfl,by omega,h0 _ (Z.trans xZ),hv.ext xZ,hb.ext (Z.trans xZ)⟩
 ·intros;rename_i w2 hI E1 b5;obtain ⟨k,rfl,hk,o,u,q⟩:=hI;by_cases hkn:k<n
  ·have c6:(aX (lnL (λ_=>true) 26 n))[k]? =some (.int .i64 ((26+32*k:Nat):Int)):=by
    rw [aX,gi,ln.2 k hkn];rfl
   obtain ⟨sb,so,sc,P,hc⟩:=(a9 w2 u).get c6;rw [lk] at P;injection P with P _ ev2;subst P;subst ev2;have F:=hH _ _ o;have V:w2.cell? ⟨b,0,none⟩=some (hpV H):=q.cell (i:=0) oM;have a7:=F.cell.1;have e6:=F.ltp;have d6:=q.lt;have ek:(k:Int)+1=((k+1:Nat):Int):=oM;have M:∀w3,J (livN D f (k+1)) w3->SlO w3 3 1 (.slice (some ⟨sb,so,none⟩) n cap) n (aX (lnL (λ_=>true) 26 n))->af w3 b 33 1 (λ_=>hpV H)->E1 (.int .i64 ((k+1:Nat):Int)) w3:=λw3 a1 a2 a3=>by
    apply b5
    ·exact ⟨k+1,rfl,by omega,a1,a2,a3⟩
    ·simp [intOf];omega
   unfold pS;by_cases r:0<=(f k).1
   ·have U:=F.open hkn r;have c5:=(h.cls hkn).1;have a8:∀(w3:ab) (K:K1),Ext w2 w3->ad prog 135 #[.int .i64 (f k).1] w3 K=K (.int .i64 (perS (f k).1)) w3:=λw3 K e=>bY _ w3 K (F.gl.ext e)
    have d1:∀(w3:ab) (K:K1),ad prog 136 #[chV Y (26+32*k) (f k).1 (f k).2.1 (gX (wd D (26+32*k) 0))] w3 K=K (.int .i64 (f k).1) (w3.alloc (chO Y (26+32*k) (f k).1 (f k).2.1 (gX (wd D (26+32*k) 0)))):=λw3 K=>Aa K
    have c0:=λw3 cb=>A k w3 cb E1 hkn r
    refine zS3 hc V a7 ?_;refine U _ _ xZ (λw3 e3=> ?_);have d:Ext w2 w3:=Ext.trans xZ e3;have hN:=af.new w3 [Value.iface 31 (.pointer (some ⟨Y.tb 0,0,none⟩)),.int .i64 ((26+32*k:Nat):Int),.int .i64 (f k).1,.int .i64 (f k).2.1,.int .u16 (gX (wd D (26+32*k) 0):Int)] 134;have B:=chD hN;have g0:=B.1;have g1:=B.2.1;have g2:=B.2.2.1;have g3:=B.2.2.2.1;have g4:=B.2.2.2.2;refine fp g0 g1 g2 g3 g4 d1 a8 a8 ?_;have sz:w.heap.size<=w3.heap.size:=by
     have:=a0 sb rfl;have:=u.lt (b:=sb) rfl;have:=d.size;omega
    refine c0 _ w3.heap.size (u.ext (d.trans xZ)) a0 (q.ext (d.trans xZ)) sz (af.ext hN xZ) (hE _ _ _ o (d.trans xZ)) M
   ·have U:=F.openZ hkn oM;have b6:livN D f (k+1)=livN D f k:=by rw [livN,if_pos oM,e8]
    refine zS3 hc V a7 ?_;refine U _ _ xZ (λw3 e3=> ?_);have d:Ext w2 w3:=Ext.trans xZ e3;refine zS0 ?_;rw [tS];unfold pT;refine zS1 ek ?_;exact M _ (by rw [b6];exact hE _ _ _ o (d.trans xZ)) (u.ext (d.trans xZ)) (q.ext (d.trans xZ))
  ·have b4:k=n:=oM;subst b4;unfold pS;refine zS0 ?_;exact hK _ o
end
def V1 (n fr bl ws:Nat) (i:Nat):ca:= [Value.int .i64 (n:Int),.int .i64 (fr:Int),.int .i64 (bl:Int),.int .i64 (ws:Int)].getD i undef
def wsmL (f:Idx) (L:List Nat):Nat:=(L.map λp=>(wordsS (f (hk p)).1).toNat).sum
section
variable {Q:Nat->Prop} {w0 w w':ab} {Y Y':Lay} {D:DS} {H:HL} {n k i l b p fr:Nat} {c:Int} {f:Idx} {R:List Nat}
def D8 (L:List Nat) (p:Nat):wsmL f (L++ [p])=wsmL f L+(wordsS (f (hk p)).1).toNat:=by
 unfold wsmL;rw [cw,List.sum_append];simp
def t6 (c:Int):(wordsS c).toNat<=60/\0<=wordsS c:=by
 by_cases h:0<=c/\c<5
 ·have:=aW h.1 h.2;omega
 ·rw [gh h];omega
def abH:∀(L:List Nat),wsmL f L<=60*L.length:=by
 intro L
 induction L with
 |nil=>simp [wsmL]
 |cons p L ih=>
  have:=(t6 (f (hk p)).1).1;unfold wsmL at ih ⊢;simp only [cq,List.sum_cons,eg];omega
def V2:∀m,(livI D l c m).length<=m:=by
 intro m
 induction m with
 |zero=>simp [livI]
 |succ m ih=>
  rw [livI,an];split
  ·simp;omega
  ·simp;omega
def V3 (rg:RgS D 26 n f):∀m,m<=n->(livN D f m).length<=62*m:=by
 intro m
 induction m with
 |zero=>intro _;simp [livN]
 |succ m ih=>
  intro hm;have i:=ih oM;rw [livN,an];split
  ·simp;omega
  ·have a:=V2 (D:=D) (l:=26+32*m) (c:=(f m).1) (perS (f m).1).toNat
   have b:=aJ (show 0<=(f m).1 by omega) (rg.cls (show m<n by omega)).1;omega
def Yn (h:HpS w0 w Y D H n f R) {w1:ab} (e:Ext w w1) {b1 b2 b3 b4:Nat} {g2:Nat->ca} (c1:af w1 b1 33 1 (λ_=>hpV H)) (c4:af w1 b4 33 1 (λ_=>hpV H)) (c2:af w1 b2 73 4 g2) (c3:af w1 b3 73 4 (V1 n fr 0 0)) (P:w.heap.size<=b3) (ne:b3≠b1/\b3≠b2/\b3≠b4) {x0 x7 x8 x10 x11 x12 x13 x14 x15 x16 x17 x18 x19 x20 x21 x22 x23:ca} {KN KR:List Nat->ab->Prop}
  (o:∀w',Ext w w'->w'.heap[w1.heap.size]? =some (.deferred (some []))->af w' b2 73 4 g2->af w' b3 73 4 (V1 n fr (livN D f n).length (wsmL f (livN D f n)))->KN [w1.heap.size] w'):
  rgT prog (.func (.func 134) #[] #[.pointer (some ⟨b4,0,none⟩)]) #[24] dG dH KN KR [] (dI x0 (.pointer (some ⟨b1,0,none⟩)) (.pointer (some ⟨b2,0,none⟩)) (.pointer (some ⟨b3,0,none⟩)) x7 x8 x10 x11 x12 x13 x14 x15 x16 x17 x18 x19 x20 x21 x22 x23) w1:=by
 have T:=h.n4;have L:=c1.lt;have W:=c2.lt;have O:=c3.lt;have S:=c4.lt;have U:=V3 h.rg n (cj _);have hr:∀p∈R,p<18446744073709551616:=λp hp=>by
  have:=((h.rv p hp).kn oM h.rg).2.2.2.1;omega
 refine ⟨by kernel_rfl,λfn w2 e2 J hD q=> ?_⟩;have k:=e.trans e2;show ad prog 134 #[.func (.yield (w1.heap.size+1)) #[] #[],.pointer (some ⟨b4,0,none⟩)] w2 _;refine Ym (h.ext k) (c4.ext e2) (λx=>x=w1.heap.size+1\/x=b3) (λx hx=> ?_) (λs w3=>Lp w3 (w1.heap.size+1) fn #[24] dG dH (dI x0 (.pointer (some ⟨b1,0,none⟩)) (.pointer (some ⟨b2,0,none⟩)) (.pointer (some ⟨b3,0,none⟩)) x7 x8 x10 x11 x12 x13 x14 x15 x16 x17 x18 x19 x20 x21 x22 x23) w1.heap.size .ready none/\w3.heap[w1.heap.size]? =some (.deferred (some []))/\Ext w w3/\af w3 b1 33 1 (λ_=>hpV H)/\af w3 b2 73 4 g2/\af w3 b3 73 4 (V1 n fr s.length (wsmL f s))) (λ_=>False) (λw3 e3=> ?_) (λs w3 w4 hj e4=> ?_) (λs w3 hj=>h.ext hj.2.2.1) (λs p t w3 K' hl hj C _=> ?_) _ (λw3 hj=> ?_) (λw3 hf=>hf.elim)
 ·rcases hx with e1|e1
  ·exact ⟨by omega,by omega⟩
  ·exact ⟨by omega,by rw [e1];exact ne.2.2⟩
 ·exact ⟨q.ext e3,(e3.blk _ (aF hD)).trans hD,k.trans e3,c1.ext (e2.trans e3),c2.ext (e2.trans e3),c3.ext (e2.trans e3)⟩
 ·obtain ⟨j1,j2,j3,j4,j5,j6⟩:=hj;exact ⟨j1.ext e4,(e4.blk _ (aF j2)).trans j2,j3.trans e4,j4.ext e4,j5.ext e4,j6.ext e4⟩
 ·obtain ⟨j1,j2,j3,j4,j5,j6⟩:=hj;have j:Liv D f n p:=(kQ h.rg).1 (by rw [hl];simp);have c:=j.at_ oM h.rg;have M:s.length<(livN D f n).length:=by rw [hl];simp
  have V:=abH (f:=f) s;have X:=t6 (f (hk p)).1;have es:(s.length:Int)+1=(((s++ [p]).length:Nat):Int):=by simp
  have ew:(wsmL f s:Int)+wordsS (f (hk p)).1=((wsmL f (s++ [p]):Nat):Int):=by rw [D8];omega
  have N:wsmL f (s++ [p])<1000000000:=by rw [D8];omega
  have Q:(s++ [p]).length<1000000000:=by rw [an,hW];omega
  refine VI j1 ?_;unfold DU VF;refine ⟨j1,λw4 g4 m=> ?_⟩;have u:Ext w w4:=cJ j3 g4 (λx hx=>by have:=e.size;omega);have k2:=(g4.block _ (aF j2) oM).trans j2;have k4:=j4.frm g4 oM;have k5:=j5.frm g4 oM;have k6:=j6.frm g4 oM;have E:w4.cell? ⟨b1,0,none⟩=some (hpV H):=k4.cell (i:=0) oM;have G:=k4.lt;have v:=λ(w5:ab) (e5:Ext w w5) (K:K1) hK=>DO (h.ext e5) hr c.1.1 c.1.2.1 c.1.2.2.2.1 (show p<18446744073709551616 by omega) c.2.2.2 c.1.2.2.2.2 (.inr j) K hK
  generalize wordsS (f (hk p)).1=wd1 at*;generalize wsmL f s=g at*;generalize hs':s.length=sl at*;refine zS1 E ?_;refine v _ (u.trans xZ) _ (λw5 e5=> ?_);have b:Ext w4 w5:=Ext.trans xZ e5;have m2:=(b.blk _ (aF k2)).trans k2;have m5:=k5.ext b;have m6:=k6.ext b;have A:=m.ext b;have z2:w5.cell? ⟨b3,2,none⟩=some (.int .i64 (sl:Int)):=m6.cell (i:=2) oM;have z3:w5.cell? ⟨b3,3,none⟩=some (.int .i64 (g:Int)):=m6.cell (i:=3) oM;have fz:=m6.frz;have I:=m6.lt;have m7:=m6.set (i:=2) (.int .i64 (((s++ [p]).length:Nat):Int)) oM;have z8:(w5.setCell ⟨b3,2,none⟩ (.int .i64 (((s++ [p]).length:Nat):Int))).cell? ⟨b3,3,none⟩=some (.int .i64 (g:Int)):=m7.cell (i:=3) oM;have r:=m7.frz 3;have m8:=m7.set (i:=3) (.int .i64 ((wsmL f (s++ [p]):Nat):Int)) oM;have a:Frm (λx=>x=b3) w5 ((w5.setCell ⟨b3,2,none⟩ (.int .i64 (((s++ [p]).length:Nat):Int))).setCell ⟨b3,3,none⟩ (.int .i64 ((wsmL f (s++ [p]):Nat):Int))):=Frm.set (F:=λx=>x=b3) (Frm.set (F:=λx=>x=b3) (Frm.refl _ w5) (p:=⟨b3,2,none⟩) _ (λ_=>rfl)) (p:=⟨b3,3,none⟩) _ (λ_=>rfl);refine zS8 z2 z3 fz z8 r es ew ew ?_;have B:=A.frm a oM;have m3:=(a.block _ (aF m2) oM).trans m2;refine ⟨B,λw6 g6 l=> ?_⟩;have d:Frm (λx=>x=w1.heap.size+1\/x=b3) w3 w6:=(((g4.mono (λx h=> .inl h)).trans (Frm.of_ext (F:=λx=>x=w1.heap.size+1\/x=b3) b) (λ_ _ h=>h)).trans a (λx _ h=> .inr h)).trans g6 (λx _ h=> .inl h);have y:=(m5.frm a (λe=>ne.2.1 e.symm)).frm g6 oM;have z:=((k4.ext b).frm a (λe=>ne.1 e.symm)).frm g6 oM;refine C w6 d ⟨l,(g6.block _ (aF m3) oM).trans m3,cJ j3 d (λx hx=>by have:=e.size;omega),z,y,(m8.congr (λi hi=> ?_)).frm g6 oM⟩;rcases i with _|_|_|_|i
  ·rfl
  ·rfl
  ·rfl
  ·rfl
  ·omega
 ·obtain ⟨j1,j2,j3,j4,j5,j6⟩:=hj;refine ⟨.ready,none,by simp,j1,λw4 g4=> ?_⟩;exact o w4 (cJ j3 g4 (λx h=>by have:=e.size;omega)) ((g4.block _ (aF j2) oM).trans j2) (j5.frm g4 oM) (j6.frm g4 oM)
def abI {b2 b3 bl ws:Nat} {g2:Nat->ca} (c2:af w b2 73 4 g2) (c3:af w b3 73 4 (V1 n fr bl ws)) (ne:b3≠b2) (K:K1) (hK:∀w',Frm (λx=>x=b2) w w'->K (.agg #[.int .i64 (n:Int),.int .i64 (fr:Int),.int .i64 (bl:Int),.int .i64 (ws:Int)]) w'):
  ldS prog 73 (.pointer (some ⟨b3,0,none⟩)) w λc b=>stS prog 73 (.pointer (some ⟨b2,0,none⟩)) c b λa=>ldR prog 73 (.pointer (some ⟨b2,0,none⟩)) a λr=>K r a:=by
 have x0:w.cell? ⟨b3,0,none⟩=some (.int .i64 (n:Int)):=c3.cell (i:=0) oM;have x1:w.cell? ⟨b3,1,none⟩=some (.int .i64 (fr:Int)):=c3.cell (i:=1) oM;have x2:w.cell? ⟨b3,2,none⟩=some (.int .i64 (bl:Int)):=c3.cell (i:=2) oM;have x3:w.cell? ⟨b3,3,none⟩=some (.int .i64 (ws:Int)):=c3.cell (i:=3) oM;have y0:=c2.cell (i:=0) oM;have y1:=c2.cell (i:=1) oM;have y2:=c2.cell (i:=2) oM;have y3:=c2.cell (i:=3) oM;have fz:=c2.frz;have d1:=c2.set (i:=0) (.int .i64 (n:Int)) oM;have d2:=d1.set (i:=1) (.int .i64 (fr:Int)) oM;have d3:=d2.set (i:=2) (.int .i64 (bl:Int)) oM;have d4:=d3.set (i:=3) (.int .i64 (ws:Int)) oM;have z0:((((w.setCell ⟨b2,0,none⟩ (.int .i64 (n:Int))).setCell ⟨b2,1,none⟩ (.int .i64 (fr:Int))).setCell ⟨b2,2,none⟩ (.int .i64 (bl:Int))).setCell ⟨b2,3,none⟩ (.int .i64 (ws:Int))).cell? ⟨b2,0,none⟩=some (.int .i64 (n:Int)):=d4.cell (i:=0) oM;have z1:((((w.setCell ⟨b2,0,none⟩ (.int .i64 (n:Int))).setCell ⟨b2,1,none⟩ (.int .i64 (fr:Int))).setCell ⟨b2,2,none⟩ (.int .i64 (bl:Int))).setCell ⟨b2,3,none⟩ (.int .i64 (ws:Int))).cell? ⟨b2,1,none⟩=some (.int .i64 (fr:Int)):=d4.cell (i:=1) oM;have z2:((((w.setCell ⟨b2,0,none⟩ (.int .i64 (n:Int))).setCell ⟨b2,1,none⟩ (.int .i64 (fr:Int))).setCell ⟨b2,2,none⟩ (.int .i64 (bl:Int))).setCell ⟨b2,3,none⟩ (.int .i64 (ws:Int))).cell? ⟨b2,2,none⟩=some (.int .i64 (bl:Int)):=d4.cell (i:=2) oM;have z3:((((w.setCell ⟨b2,0,none⟩ (.int .i64 (n:Int))).setCell ⟨b2,1,none⟩ (.int .i64 (fr:Int))).setCell ⟨b2,2,none⟩ (.int .i64 (bl:Int))).setCell ⟨b2,3,none⟩ (.int .i64 (ws:Int))).cell? ⟨b2,3,none⟩=some (.int .i64 (ws:Int)):=d4.cell (i:=3) oM;have g:Frm (λx=>x=b2) w ((((w.setCell ⟨b2,0,none⟩ (.int .i64 (n:Int))).setCell ⟨b2,1,none⟩ (.int .i64 (fr:Int))).setCell ⟨b2,2,none⟩ (.int .i64 (bl:Int))).setCell ⟨b2,3,none⟩ (.int .i64 (ws:Int))):=
  Frm.set (F:=λx=>x=b2) (Frm.set (F:=λx=>x=b2) (Frm.set (F:=λx=>x=b2) (Frm.set (F:=λx=>x=b2) (Frm.refl _ w) (p:=⟨b2,0,none⟩) _ (λ_=>rfl)) (p:=⟨b2,1,none⟩) _ (λ_=>rfl)) (p:=⟨b2,2,none⟩) _ (λ_=>rfl)) (p:=⟨b2,3,none⟩) _ (λ_=>rfl)
 refine QB x0 x1 x2 x3 y0 y1 y2 y3 fz z0 z1 z2 z3 z3 ?_;exact hK _ g
def abJ (K:K1) (hK:K (.func (.func 134) #[] #[.pointer (some ⟨w.heap.size,0,none⟩)]) (w.alloc (.cells #[hpV H] 33))):ad prog 80 #[hpV H] w K:=by
 refine UX _ _ _ ?_;unfold Z0;refine zS1 @Ib ?_;exact hK
def Le (h:HpS w0 w Y D H n f R) (K:K1) (hK:∀w',Ext w w'->K (.agg #[.int .i64 (n:Int),.int .i64 (frC f n:Int),.int .i64 ((livN D f n).length:Int),.int .i64 ((wsmL f (livN D f n):Nat):Int)]) w'):
  ad prog 39 #[hpV H] w K:=by
 have ln:=Bm 26 n;have B:=λ(w1:ab) (e:Ext w w1) (K:K1) (hK:∀a cap w',Ext w1 w'->K (.slice a n cap) w')=>qS ((h.ext e).ar) K (λv w' e' _ hs=>by
  rw [ln.1] at hs;obtain ⟨a,cap,rfl⟩:=SlO.form hs;exact hK a cap w' e')
 have z:=λ(w1:ab) (e:Ext w w1) (K:K1) hK=>AA ((h.ext e).ar) K hK
 have q3:∀w1,Ext w w1->w1.cell? ⟨H.p,3,none⟩=some (stV H.S):=λw1 e=>(h.ext e).cell.2.2.2.1
 have p3:=q3 w (Ext.refl _);have ltp:=h.ltp;have cA:af (w.alloc (.cells #[hpV H] 33)) w.heap.size 33 1 (λ_=>hpV H):=(af.new w [hpV H] 33).congr (λi hi=>by rw [show i=0 by simpa using hi];rfl);have sA:(w.alloc (.cells #[hpV H] 33)).heap.size=w.heap.size+1:=size_alloc _ _;have cB:=af.new (w.alloc (.cells #[hpV H] 33)) [Value.int .i64 0,.int .i64 0,.int .i64 0,.int .i64 0] 73;rw [sA] at cB;obtain ⟨wB,s⟩:∃wB,(w.alloc (.cells #[hpV H] 33)).alloc (.cells [Value.int .i64 0,.int .i64 0,.int .i64 0,.int .i64 0].toArray 73)=wB:=⟨_,rfl⟩;have I:Ext (w.alloc (.cells #[hpV H] 33)) wB:=by rw [<-s];exact Ext.alloc_self _ _
 rw [s] at cB;have sB:wB.heap.size=w.heap.size+2:=by rw [<-s,size_alloc,sA]
 have eB:Ext w wB:=(Ext.alloc_self _ _).trans I;have cA:=cA.ext I;have o:∀w1:ab,ag prog (Instr.build 73 #[(0,.int .i64 (n:Int)),(1,.int .i64 (frC f n:Int))]) w1 (.agg #[.int .i64 (n:Int),.int .i64 (frC f n:Int),.int .i64 0,.int .i64 0])=True:=λw1=>by rw [aV (mq _ _ rfl rfl w1)];simp
 have A:∀(w5:ab) (b1 b2 b3 G:Nat),b1=w.heap.size->b2=w.heap.size+1->G=frC f n->Ext wB w5->w.heap.size+2<=b3->af w5 b3 73 4 (V1 n G 0 0)->∀x7 x8 x10 x11 x12 x13 x14 x15 x16 x17 x18 x19 x20 x21 x22:ca,
   ad prog 80 #[hpV H] w5 λL M=>rgT prog L #[24] dG dH (λrs w=>(λ(K:K1)=>ldS prog 73 (.pointer (some ⟨b3,0,none⟩)) w λU N=>stS prog 73 (.pointer (some ⟨b2,0,none⟩)) U N λy=>ldR prog 73 (.pointer (some ⟨b2,0,none⟩)) y λr=>K r y) (rsK K rs)) (λrs w=>(λ(K:K1)=>ldR prog 73 (.pointer (some ⟨b2,0,none⟩)) w λr=>K r w) (rsK K rs)) [] (dI (hpV H) (.pointer (some ⟨b1,0,none⟩)) (.pointer (some ⟨b2,0,none⟩)) (.pointer (some ⟨b3,0,none⟩)) x7 x8 x10 x11 x12 x13 x14 x15 x16 x17 x18 x19 x20 x21 x22 L) M:=by
  intro w5 b1 b2 b3 G e1 e2 e3 e5 X c3 x7 x8 x10 x11 x12 x13 x14 x15 x16 x17 x18 x19 x20 x21 x22;subst e1;subst e2;subst e3;have c4:af (w5.alloc (.cells #[hpV H] 33)) w5.heap.size 33 1 (λ_=>hpV H):=(af.new w5 [hpV H] 33).congr (λi hi=>by rw [show i=0 by simpa using hi];rfl);have u:Ext w5 (w5.alloc (.cells #[hpV H] 33)):=Ext.alloc_self _ _;have W:=c3.lt;have st:=λ{KN KR:List Nat->ab->Prop}=>Yn (KN:=KN) (KR:=KR) (x0:=hpV H) (x7:=x7) (x8:=x8) (x10:=x10) (x11:=x11) (x12:=x12) (x13:=x13) (x14:=x14) (x15:=x15) (x16:=x16) (x17:=x17) (x18:=x18) (x19:=x19) (x20:=x20) (x21:=x21) (x22:=x22) (x23:= .func (.func 134) #[] #[.pointer (some ⟨w5.heap.size,0,none⟩)]) h (eB.trans (e5.trans u)) ((cA.ext e5).ext u) c4 ((cB.ext e5).ext u) (c3.ext u) oM ⟨by omega,by omega,by omega⟩
  refine abJ _ ?_;refine st (λw6 e6 d6 V T=> ?_);refine abI V T oM (rsK K [(w5.alloc (.cells #[hpV H] 33)).heap.size]) (λw7 g7=>⟨?_,λw8 g8=> ?_⟩)
  ·have s5:(w5.alloc (.cells #[hpV H] 33)).heap.size=w5.heap.size+1:=size_alloc _ _;exact (g7.block _ (aF d6) oM).trans d6
  ·have s5:(w5.alloc (.cells #[hpV H] 33)).heap.size=w5.heap.size+1:=size_alloc _ _;have:=e5.size;exact hK w8 (cJ (cJ e6 g7 (λx hx=>by omega)) g8 (λx hx=>by omega))
 refine DT _ _ _ ?_;unfold VH
 (repeat' first|refine ak (λ_=> ?_) (λ_=> ?_)|refine am ?_ ?_|refine gG p3 ?_|exact BW p3|fail)
 ·have t:(w.alloc (.cells #[hpV H] 33)).alloc (.cells #[Value.int .i64 0,.int .i64 0,.int .i64 0,.int .i64 0] 73)=wB:=s;refine B _ xZ _ (λa cap w1 e1=> ?_);have j:Ext w w1:=Ext.trans xZ e1;have l:Ext wB w1:=by
   rw [<-t];exact Ext.trans xZ e1
  have q:=q3 w1 j;have Q:=(h.ext j).ltp;have r0:w1.cell? ⟨w.heap.size,0,none⟩=some (hpV H):=(cA.ext l).cell (i:=0) oM;have P:=ay r0
  (repeat' first|refine ak (λ_=> ?_) (λ_=> ?_)|refine am ?_ ?_|refine fC q r0 ?_|exact F6 q r0|fail)
  ·refine z _ (j.trans xZ) _ (λw2 e2=> ?_);have b:Ext w1 w2:=Ext.trans xZ e2;have d:w2.cell? ⟨w.heap.size,0,none⟩=some (hpV H):=(cA.ext (l.trans b)).cell (i:=0) oM;have C:=ay d;have k:=q3 w2 (j.trans b);have J:=(h.ext (j.trans b)).ltp;have cN:=af.new w2 [Value.int .i64 (n:Int),.int .i64 (frC f n:Int),.int .i64 0,.int .i64 0] 73
   (repeat' first|refine ak (λ_=> ?_) (λ_=> ?_)|refine am ?_ ?_|refine eQ k d o ?_|exact BX k d o|fail)
   refine A _ _ _ _ _ rfl (size_alloc _ _) rfl (l.trans (b.trans xZ)) (by have:=(l.trans b).size;omega) cN _ _ _ _ _ _ _ _ _ _ _ _ _ _ _
  ·have Z:=l.size;have cN:=af.new w1 [Value.int .i64 0,.int .i64 0,.int .i64 0,.int .i64 0] 73;refine z _ (j.trans xZ) _ (λw2 e2=> ?_);have b:Ext w1 w2:=Ext.trans xZ e2;have d:w2.cell? ⟨w.heap.size,0,none⟩=some (hpV H):=(cA.ext (l.trans b)).cell (i:=0) oM;have C:=ay d;have k:=q3 w2 (j.trans b);have J:=(h.ext (j.trans b)).ltp;have c:=cN.ext e2;have ltN:=c.lt;have y0:=c.cell (i:=0) (by simp);have y1:=c.cell (i:=1) (by simp);have y2:=c.cell (i:=2) (by simp);have y3:=c.cell (i:=3) (by simp);have fz:=c.frz;have d4:=(((c.set (i:=0) (.int .i64 (n:Int)) (by simp)).set (i:=1) (.int .i64 (frC f n:Int)) (by simp)).set (i:=2) (.int .i64 0) (by simp)).set (i:=3) (.int .i64 0) (by simp);have g4:Frm (λx=>x=w1.heap.size) w2 ((((w2.setCell ⟨w1.heap.size,0,none⟩ (.int .i64 (n:Int))).setCell ⟨w1.heap.size,1,none⟩ (.int .i64 (frC f n:Int))).setCell ⟨w1.heap.size,2,none⟩ (.int .i64 0)).setCell ⟨w1.heap.size,3,none⟩ (.int .i64 0)):=Frm.set (F:=λx=>x=w1.heap.size) (Frm.set (F:=λx=>x=w1.heap.size) (Frm.set (F:=λx=>x=w1.heap.size) (Frm.set (F:=λx=>x=w1.heap.size) (Frm.refl _ w2) (p:=⟨w1.heap.size,0,none⟩) _ (λ_=>rfl)) (p:=⟨w1.heap.size,1,none⟩) _ (λ_=>rfl)) (p:=⟨w1.heap.size,2,none⟩) _ (λ_=>rfl)) (p:=⟨w1.heap.size,3,none⟩) _ (λ_=>rfl);have zA:((((w2.setCell ⟨w1.heap.size,0,none⟩ (.int .i64 (n:Int))).setCell ⟨w1.heap.size,1,none⟩ (.int .i64 (frC f n:Int))).setCell ⟨w1.heap.size,2,none⟩ (.int .i64 0)).setCell ⟨w1.heap.size,3,none⟩ (.int .i64 0)).cell? ⟨w.heap.size,0,none⟩=some (hpV H):=((cA.ext (l.trans b)).frm g4 oM).cell (i:=0) oM
   (repeat' first|refine ak (λ_=> ?_) (λ_=> ?_)|refine am ?_ ?_|refine jk k d o y0 y1 y2 y3 fz zA zA zA ?_|exact rO k d o y0 y1 y2 y3 fz zA zA zA|fail)
   refine A _ _ _ _ _ rfl (size_alloc _ _) rfl ?_ oM (d4.congr (λi hi=> ?_)) _ _ _ _ _ _ _ _ _ _ _ _ _ _ _
   ·exact Ext.setB (Ext.setB (Ext.setB (Ext.setB (l.trans b) oM _) oM _) oM _) oM _
   ·have hi:i<4:=hi;rcases i with _|_|_|_|i
    ·rfl
    ·rfl
    ·rfl
    ·rfl
    ·omega
 ·have t:(w.alloc (.cells #[hpV H] 33)).alloc (.cells #[Value.int .i64 0,.int .i64 0,.int .i64 0,.int .i64 0] 73)=wB:=s;have cN:=af.new wB [Value.int .i64 0,.int .i64 0,.int .i64 0,.int .i64 0] 73;rw [t];obtain ⟨wC,E⟩:∃wC,wB.alloc (.cells [Value.int .i64 0,.int .i64 0,.int .i64 0,.int .i64 0].toArray 73)=wC:=⟨_,rfl⟩;have O:wB.alloc (.cells #[Value.int .i64 0,.int .i64 0,.int .i64 0,.int .i64 0] 73)=wC:=E;rw [E] at cN;rw [O];have m:Ext wB wC:=by rw [<-E];exact Ext.alloc_self _ _
  have a0:=m.size;have eC:Ext w wC:=eB.trans m;refine B _ (eC.trans xZ) _ (λa cap w1 e1=> ?_);have g:Ext wC w1:=Ext.trans xZ e1;have q:=q3 w1 (eC.trans g);have Q:=(h.ext (eC.trans g)).ltp;have r0:w1.cell? ⟨w.heap.size,0,none⟩=some (hpV H):=(cA.ext (m.trans g)).cell (i:=0) oM;have P:=ay r0
  (repeat' first|refine ak (λ_=> ?_) (λ_=> ?_)|refine am ?_ ?_|refine fC q r0 ?_|exact F6 q r0|fail)
  refine z _ ((eC.trans g).trans xZ) _ (λw2 e2=> ?_);have b:Ext w1 w2:=Ext.trans xZ e2;have d:w2.cell? ⟨w.heap.size,0,none⟩=some (hpV H):=(cA.ext ((m.trans g).trans b)).cell (i:=0) oM;have C:=ay d;have k:=q3 w2 ((eC.trans g).trans b);have J:=(h.ext ((eC.trans g).trans b)).ltp;have c:=cN.ext (g.trans b);rw [sB,show w.heap.size+2=w.heap.size+1+1 by omega] at c;have ltN:=c.lt;have y0:=c.cell (i:=0) (by simp);have y1:=c.cell (i:=1) (by simp);have y2:=c.cell (i:=2) (by simp);have y3:=c.cell (i:=3) (by simp);have fz:=c.frz;have d4:=(((c.set (i:=0) (.int .i64 (n:Int)) (by simp)).set (i:=1) (.int .i64 (frC f n:Int)) (by simp)).set (i:=2) (.int .i64 0) (by simp)).set (i:=3) (.int .i64 0) (by simp);have g4:Frm (λx=>x=w.heap.size+1+1) w2 ((((w2.setCell ⟨w.heap.size+1+1,0,none⟩ (.int .i64 (n:Int))).setCell ⟨w.heap.size+1+1,1,none⟩ (.int .i64 (frC f n:Int))).setCell ⟨w.heap.size+1+1,2,none⟩ (.int .i64 0)).setCell ⟨w.heap.size+1+1,3,none⟩ (.int .i64 0)):=Frm.set (F:=λx=>x=w.heap.size+1+1) (Frm.set (F:=λx=>x=w.heap.size+1+1) (Frm.set (F:=λx=>x=w.heap.size+1+1) (Frm.set (F:=λx=>x=w.heap.size+1+1) (Frm.refl _ w2) (p:=⟨w.heap.size+1+1,0,none⟩) _ (λ_=>rfl)) (p:=⟨w.heap.size+1+1,1,none⟩) _ (λ_=>rfl)) (p:=⟨w.heap.size+1+1,2,none⟩) _ (λ_=>rfl)) (p:=⟨w.heap.size+1+1,3,none⟩) _ (λ_=>rfl);have zA:((((w2.setCell ⟨w.heap.size+1+1,0,none⟩ (.int .i64 (n:Int))).setCell ⟨w.heap.size+1+1,1,none⟩ (.int .i64 (frC f n:Int))).setCell ⟨w.heap.size+1+1,2,none⟩ (.int .i64 0)).setCell ⟨w.heap.size+1+1,3,none⟩ (.int .i64 0)).cell? ⟨w.heap.size,0,none⟩=some (hpV H):=((cA.ext ((m.trans g).trans b)).frm g4 oM).cell (i:=0) oM
  (repeat' first|refine ak (λ_=> ?_) (λ_=> ?_)|refine am ?_ ?_|refine jk k d o y0 y1 y2 y3 fz zA zA zA ?_|exact rO k d o y0 y1 y2 y3 fz zA zA zA|fail)
  refine A _ _ _ _ _ rfl (by simp only [RZ]) rfl (Ext.setB (Ext.setB (Ext.setB (Ext.setB ((m.trans g).trans b) oM _) oM _) oM _) oM _) (by simp only [RZ];omega) (by
   simp only [RZ];refine d4.congr (λi hi=> ?_);have hi:i<4:=hi;rcases i with _|_|_|_|i
   ·rfl
   ·rfl
   ·rfl
   ·rfl
   ·omega) _ _ _ _ _ _ _ _ _ _ _ _ _ _ _
end
section
variable {w0 w w':ab} {Y Y':Lay} {D:DS} {n k B:Nat} {f:Idx}
def Yo {x:Nat} (h:dQ x=true) (ho:0<=hO x):0<=hC x:=by
 simp only [dQ,df,Bool.or_eq_true,decide_eq_true_eq] at h;rcases h.2 with h|h
 ·omega
 ·unfold jG at h;simp only [df,decide_eq_true_eq] at h;omega
def Yp (h:Lv w0 w Y D) (gl:bq w0) (n0:0<n) (rg:RgS D 26 n (opF D 26)) (lg:af w B 171 3 (lgF (Y.tb 0))) (hB:w0.heap.size<=B/\¬Y.F B) (er:∀k,k<8->D.err k=0) (O:D.cur 0=0) (dt:Y.dt=Y.tb/\∀i,Y.ids i=i) (K:K1)
  (hK:∀H w',Ext w w'->H.B=B->H.av=none->H.avl= []->H.lk=false->HpS w0 w' Y D H n (opF D 26) []->(∀x,(x=H.S\/x=H.b\/x=H.p\/x=H.rm\/x=H.hm)->w.heap.size<=x)->K (.tuple #[hpV H,.int .i64 0]) w'):
  ad prog 109 #[.iface 31 (.pointer (some ⟨Y.tb 0,0,none⟩)),.int .i64 ((26:Nat):Int),.int .i64 ((32*n:Nat):Int)] w K:=by
 have Z:=h.gd.n;have W:=rg.lt;have hq:32*n/32=n:=oM;have ln:=Bm 26 n;have lk:(aX (lnL (λ_=>true) 26 n)).length=n:=by simp [ln.1]
 have m:∀w1 S b o cp,Ext w w1->w.heap.size<=S->w.heap.size<=b->ArS w0 w1 Y D S b o cp 26 n (opF D 26)->AM K (.iface 31 (.pointer (some ⟨Y.tb 0,0,none⟩))) (.int .i64 ((26:Nat):Int)) (.int .i64 ((32*n:Nat):Int)) (stV S) w1:=by
  intro w1 S b o cp e1 hS hb ar;rw [HQ];unfold xz;obtain ⟨w3,d⟩:∃w3,(w1.alloc (.map #[] 0)).alloc (.map #[] 0)=w3:=⟨_,rfl⟩;have s2:(w1.alloc (.map #[] 0)).heap.size=w1.heap.size+1:=size_alloc _ _;have s3:w3.heap.size=w1.heap.size+2:=by rw [<-d,size_alloc,s2]
  have e3:Ext w1 w3:=by rw [<-d];exact xZ
  have m1:bj .u64 w3 w1.heap.size []:=by
   refine bj.empty (clock:=0) ?_;rw [<-d,bg _ (by rw [s2];omega)];exact aL _ _
  have m2:bj .i64 w3 (w1.heap.size+1) []:=by
   refine bj.empty (clock:=0) ?_;rw [<-d,<-s2];exact aL _ _
  have hN:=af.new w3 [Value.iface 31 (.pointer (some ⟨Y.tb 0,0,none⟩)),.int .i64 ((26:Nat):Int),.int .i64 ((32*n:Nat):Int),stV S,.map (some w1.heap.size),.map (some (w1.heap.size+1)),.map none,.bool false] 112;have e4:Ext w3 (w3.alloc (.cells #[Value.iface 31 (.pointer (some ⟨Y.tb 0,0,none⟩)),.int .i64 ((26:Nat):Int),.int .i64 ((32*n:Nat):Int),stV S,.map (some w1.heap.size),.map (some (w1.heap.size+1)),.map none,.bool false] 112)):=Ext.alloc_self _ _;have a0:=lg.lt;have sz:=e1.size;have nF:∀x,w1.heap.size<=x->¬Y.F x:=λx hx hf=>by have:=ar.L.dv.lt hf;omega
  have X:=ar.pl.lt (b:=b) rfl;have U:=ar.st.lt;have ok:HpS w0 (w3.alloc (.cells #[Value.iface 31 (.pointer (some ⟨Y.tb 0,0,none⟩)),.int .i64 ((26:Nat):Int),.int .i64 ((32*n:Nat):Int),stV S,.map (some w1.heap.size),.map (some (w1.heap.size+1)),.map none,.bool false] 112)) Y D ⟨S,b,o,cp,w3.heap.size,w1.heap.size,w1.heap.size+1,none,[],false,B⟩ n (opF D 26) []:=by
   refine ⟨ar.ext (e3.trans e4),rg,hN,((lg.ext e1).ext e3).ext e4,m1.ext e4,⟨[],m2.ext e4,λk _=>rfl⟩,by simp,λp hp=>(by cases hp),λk _=>rfl,er,O,.inl ⟨rfl,rfl⟩,λx hx=> ?_,?_,dt⟩
   ·have V:=h.ex.size;rcases hx with rfl|rfl|rfl|rfl|hx
    ·exact ⟨by simp only;omega,nF _ (by simp only;omega),by simp only;omega,by simp only;omega⟩
    ·exact ⟨by simp only;omega,nF _ (by simp only;omega),by simp only;omega,by simp only;omega⟩
    ·exact ⟨by simp only;omega,nF _ (by simp only;omega),by simp only;omega,by simp only;omega⟩
    ·exact ⟨hB.1,hB.2,by simp only;omega,by simp only;omega⟩
    ·cases hx
   ·simp only;omega
  have:=hK ⟨S,b,o,cp,w3.heap.size,w1.heap.size,w1.heap.size+1,none,[],false,B⟩ _ (e1.trans (e3.trans e4)) rfl rfl rfl rfl ok (λx hx=>by simp only at hx;omega);have hp:(hpV ⟨S,b,o,cp,w3.heap.size,w1.heap.size,w1.heap.size+1,none,[],false,B⟩:ca)= .pointer (some ⟨w1.heap.size+1+1,0,none⟩):=by
   show Value.pointer (some ⟨w3.heap.size,0,none⟩)=_;rw [s3]
  rw [hp] at this;refine zS0 ?_;rw [d];exact this
 refine O2 _ _ _ _ _ ?_;unfold Va;refine zS0 ?_;refine Kv (l0:=26) (q:=32*n) (n:=n) h gl rg.on.off rg.on.err oM oM hq _ (λhn=>absurd (λk hk=>(rg.ag k hk).1) hn) (λ_ S b o cp w1 e1 hS hb ar=> ?_);have m:=m;refine zS0 ?_;refine qS (ar.ext xZ) _ (λv w2 e2 nv hv=> ?_);have P:Ext w1 w2:=Ext.trans xZ e2;rw [ln.1] at hv;obtain ⟨a,cap,rfl⟩:=SlO.form hv;have Q:RdS w2.heap.size w2 (.slice a n cap) (aX (lnL (λ_=>true) 26 n)):=RdS.of_slR (t:=3) (by rw [lk];exact hv);refine zS0 ?_;apply AO (I:=λz w3=>∃k:Nat,z= .int .i64 (k:Int)/\k<=n/\Ext w2 w3) (μ:=λz _=>n-(intOf z).toNat)
 ·exact ⟨0,rfl,by omega,xZ⟩
 ·intros;rename_i w3 hI E1 N;obtain ⟨k,rfl,hk,e3⟩:=hI;have l:=P.trans e3;have C:=ar.ext l;have h3:=h.ext (e1.trans l);by_cases hkn:k<n
  ·have R:(aX (lnL (λ_=>true) 26 n))[k]? =some (.int .i64 ((26+32*k:Nat):Int)):=by
    rw [aX,gi,ln.2 k hkn];rfl
   obtain ⟨sb,so,sc,g,hc⟩:=(Q.ext e3).get R;rw [lk] at g;injection g with g _ ev2;subst g;subst ev2;have ek:(k:Int)+1=((k+1:Nat):Int):=oM;have ha:=rg.ag k hkn;have u:∀w4,Ext w3 w4->E1 (.int .i64 ((k+1:Nat):Int)) w4:=λw4 e4=>by
    apply N
    ·exact ⟨k+1,rfl,by omega,e3.trans e4⟩
    ·simp [intOf];omega
   have f:=λ(w4:ab) (e:Ext w3 w4) (K:K1) hK=>xj (C.ext e) hkn K hK
   have ho:(opF D 26 k).2.1=hO (wd D (26+32*k) 0):=rfl;have j:(opF D 26 k).1=hC (wd D (26+32*k) 0):=rfl;by_cases hneg:(opF D 26 k).2.1<0
   ·generalize (opF D 26 k).2.1=ow at*;unfold kP;refine zS1 hc ?_;refine f _ xZ _ (λw4 e4=> ?_);refine zS1 hneg ?_;rw [tQ];unfold pJ;refine zS1 ek ?_;exact u _ (Ext.trans xZ (e4.trans xZ))
   ·have s:0<=hC (wd D (26+32*k) 0):=Yo ha.1 (by rw [<-ho];omega);have c5:=(rg.cls hkn).1;have hs:=rg.sn k hkn (by rw [j];exact s);have r:=hs.con h.gd oM (by rw [j];exact s) c5;have A:=gl.ext h3.ex;have G:Cx w3 Y D (26+32*k) (hC (wd D (26+32*k) 0)):=⟨h3.dv,h3.gd,A,rg.on.off,by omega,s,by rw [<-j];exact c5⟩;have T:=λ(w4:ab) (e:Ext w3 w4) (K:K1) (hK:∀w5,Ext w4 w5->K (.tuple #[chV Y (26+32*k) (hC (wd D (26+32*k) 0)) (hO (wd D (26+32*k) 0)) (gX (wd D (26+32*k) 0)),.int .i64 0]) w5)=>mH (h3.dv.ext e) h3.gd (A.ext e) rg.on.off rg.on.err (26+32*k) oM ha.1 K (λw5 e5=>by
     rw [if_neg oM];exact hK w5 e5)
    have J:=λ(w4:ab) (e:Ext w3 w4) (K:K1) (hK:∀w',Ext w4 w'->K (.int .i64 0) w')=>XL (G.ext e) (er 0 oM) (hO (wd D (26+32*k) 0)) (gX (wd D (26+32*k) 0)) K (λw5 e5=>by
     rw [j,ho] at r;rw [if_pos r];exact hK w5 e5)
    rw [ho] at hneg f;generalize hC (wd D (26+32*k) 0)=cc at*;generalize hO (wd D (26+32*k) 0)=ow at*;generalize gX (wd D (26+32*k) 0)=gg at*;unfold kP;refine zS1 hc ?_;refine f _ xZ _ (λw4 e4=> ?_);have y:Ext w3 w4:=Ext.trans xZ e4;refine zS1 hneg ?_;refine T _ (y.trans xZ) _ (λw5 e5=> ?_);have E:Ext w3 w5:=y.trans (Ext.trans xZ e5);have hN:=af.new w5 [Value.iface 31 (.pointer (some ⟨Y.tb 0,0,none⟩)),.int .i64 ((26+32*k:Nat):Int),.int .i64 cc,.int .i64 ow,.int .u16 (gg:Int)] 134;have c:=chD hN;have g0:=c.1;have g1:=c.2.1;have g2:=c.2.2.1;have g3:=c.2.2.2.1;have g4:=c.2.2.2.2;refine dY g0 g1 g2 g3 g4 g4 ?_;refine J _ (E.trans xZ) _ (λw6 e6=> ?_);refine zS0 ?_;rw [tQ];unfold pJ;refine zS1 ek ?_;exact u _ (E.trans (Ext.trans xZ (e6.trans xZ)))
  ·have M:k=n:=oM;subst M;unfold kP;refine zS0 ?_;exact m w3 S b o cp (e1.trans l) hS hb C
end
section
variable {w0 w w':ab} {Y:Lay} {D D2:DS} {S b o cp l0 n k g:Nat} {f f2:Nat->Int×Int×Bool} {c t:Int}
def ArS.fcongr (h:ArS w0 w Y D S b o cp l0 n f) (e:∀k,k<n->f k=f2 k):ArS w0 w Y D S b o cp l0 n f2:=⟨h.L,h.gl,h.st,by have:=h.pl;rwa [pD e] at this,h.nS,h.nb,h.n0,h.lt⟩
def V4 (on:On D) (gd:aH D) (hl:l0+32*n<=D.n):∀m,m<=n->∀k,k<n->∀i,i<256->wd (gM D l0 m) (l0+32*k) i=if i=0/\k<m then sealN (hdX (-1) (-1) 1) else wd D (l0+32*k) i
 |0,_,k,hk,i,hi=>by rw [if_neg oM];rfl
 |m+1,hm,k,hk,i,hi=>by
  obtain ⟨h1,h2,h3,h4⟩:=kL on gd hl m oM;have ih:=V4 on gd hl m oM k hk i hi;have cg:=kK h1 h2 (l:=l0+32*m) (g:=1) oM oM;have cc:=qT (l:=l0+32*m) (g:=1) h1.off h1.err oM cg.1.err;have w1:=λl'=>T7 (l':=l') cc.1
  show wd ((gM D l0 m).run 0 (cD (l0+32*m) 1)) (l0+32*k) i=_;by_cases e:k=m
  ·subst e;rw [(w1 0).1 i hi,ih];by_cases h0:i=0
   ·rw [if_pos h0,if_pos oM]
   ·rw [if_neg h0,if_neg oM,if_neg oM]
  ·rw [(w1 (l0+32*k)).2 oM i hi,ih];by_cases h0:i=0/\k<m
   ·rw [if_pos h0,if_pos oM]
   ·rw [if_neg h0,if_neg oM]
def pH.al (h:pH D l0 n f c t D2 f2 k g) (c0:0<=c) (c5:c<5):alF D2 (l0+32*k) c (perS c).toNat=true:=by
 refine abk (λi hi=> ?_);have hp:=aJ c0 c5;have a:(i:Int)<perS c:=oM;have bd:=aK c0 c5 a;have h1:=h.own (offN c i) bd.2.2;have h2:=h.own 1 oM;have e1:ir c t g (wd D (l0+32*k)) (offN c i)=sealN (dg g 0 176):=by
  unfold ir;rw [if_neg oM,if_pos (kM.2 ⟨i,hi,rfl⟩)]
 have e2:ir c t g (wd D (l0+32*k)) 1=0:=by
  unfold ir;rw [if_neg oM,if_neg,if_pos oM];intro hb;obtain ⟨q,hq,he⟩:=kM.1 hb;have:=aK c0 c5 (show (q:Int)<perS c by omega);omega
 unfold okF;rw [h1,h2,e1,e2,i9 h.g6 oM oM,acu,oZ h.g6 oM oM,Ae h.g6 oM oM];have:=h.g0;simp [this]
end
end Go.Proofs.YtmpehclnnjgmcaaGreatDoor
