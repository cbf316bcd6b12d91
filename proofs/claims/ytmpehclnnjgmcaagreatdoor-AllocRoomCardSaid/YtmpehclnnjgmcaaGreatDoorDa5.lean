/-
  Part 5 of what the proofs of this seat share.
-/
import Derived.Test.YtmpehclnnjgmcaaGreatDoorDa4
import Derived.Test.YtmpehclnnjgmcaaGreatDoorDa2
import Derived.Test.YtmpehclnnjgmcaaGreatDoorDa1
import Derived.RangeFuncRecord
import Derived.Maps.RangeRun
import Derived.Test.YtmpehclnnjgmcaaGreatDoorDa3
import Derived.Shelf.SortM.Plain
import Derived.Shelf.SortM.SortNone
import Derived.Sort.Grow
set_option linter.unusedSimpArgs false
set_option linter.unusedVariables false
set_option maxHeartbeats 20000000
set_option maxRecDepth 100000
set_option linter.defProp false
open Go.Proofs.Tryz (prog)
open Go.RowKit (intOf)
open Array renaming toList_filter->dn,getElem?_setIfInBounds_ne->ec,getElem?_modify->eu
open Bool renaming and_eq_true->cv,false_eq_true->eb,false_and->gn,true_and->gp,or_true->hU
open Go renaming World->aa,Value->an
open Go.Builtin renaming len_->bk
open Go.Instr renaming buildSlice->cq,makeInterface->cU
open Int renaming toNat_natCast->cn
open List renaming mem_singleton->ab,length_filter_le->al,mem_cons_of_mem->ap,length_append->aq,nodup_cons->bq,getElem_mem->bL,take_succ_eq_append_getElem->ca,map_cons->ce,map_append->cg,length_map->cj,filter_cons->ct,append_assoc->cw,mem_cons_self->cy,take_length->cC,eq_nil_of_length_eq_zero->cD,mem_of_getElem?->cN,mem_append->cW,getElem?_eq_getElem->dd,length_cons->dk,append_nil->dl,mem_append_left->dm,flatMap_append->dp,filter_append->dr,nodup_append->ee,filter_congr->ef,nil_append->eg,mem_filter->eo,take_append_drop->ew,mem_append_right->ey,filter_sublist->eP,append_toArray->eS,filter_filter->fl,length_range->fq,getElem?_map->fu,getElem?_inj->ga,length_take->gc,cons_append->gi,mem_range->gj,mem_map->gs,map_nil->gS,map_map->hQ
open Nat renaming le_refl->bl,mul_le_mul_right->eC,zero_add->hV,le_trans->hW,add_zero->hY
open Option renaming map_eq_none_iff->eq
namespace Go.Proofs.YtmpehclnnjgmcaaGreatDoor
open Go Go.Sh
def xf (y:Nat):∀(m i:Nat),(frN y m i= -1/\∀j,i<=j->j<i+m->bf y j=true)\/∃z:Nat,frN y m i=(z:Int)/\i<=z/\z<i+m/\bf y z=false/\∀j,i<=j->j<z->bf y j=true
 |0,i=> .inl ⟨rfl,λj h1 h2=>by omega⟩
 |m+1,i=>by
  cases hb:bf y i with
  |false=>
   right;refine ⟨i,?_,bl _,by omega,hb,λj h1 h2=>by omega⟩;simp only [frN,hb];rfl
  |true=>
   have e:frN y (m+1) i=frN y m (i+1):=by simp only [frN,hb];rfl
   rw [e];rcases xf y m (i+1) with ⟨h1,h2⟩|⟨z,h1,h2,h3,h4,h5⟩
   ·left;refine ⟨h1,λj h3 h4=> ?_⟩;by_cases ej:j=i
    ·rw [ej];exact hb
    ·exact h2 j oM oM
   ·right;refine ⟨z,h1,by omega,by omega,h4,λj h6 h7=> ?_⟩;by_cases ej:j=i
    ·rw [ej];exact hb
    ·exact h5 j oM h7
def chD {w:aa} {N T l g:Nat} {c o:Int} (h:ah w N 134 5 (chF T l c o g)):w.cell? ⟨N,0,none⟩=some (.iface 31 (.pointer (some ⟨T,0,none⟩)))/\w.cell? ⟨N,1,none⟩=some (.int .i64 (l:Int))/\w.cell? ⟨N,2,none⟩=some (.int .i64 c)/\w.cell? ⟨N,3,none⟩=some (.int .i64 o)/\w.cell? ⟨N,4,none⟩=some (.int .u16 (g:Int)):=
 ⟨h.cell (i:=0) oM,h.cell (i:=1) oM,h.cell (i:=2) oM,h.cell (i:=3) oM,h.cell (i:=4) oM⟩
def muF (n:Nat) (z:an):Nat:=match intOf z with
 | .ofNat a=>n+1-a
 | .negSucc _=>0
def rsB (R:List Nat) (x:Nat):Bool:=R.any λq=>decide (pO q=x)
def aaf (R:List Nat) (x:Nat):(bV (rsL R) (x:Int)).isSome=rsB R x:=by
 cases hb:rsB R x with
 |true=>
  obtain ⟨q,hq,e⟩:=List.any_eq_true.1 hb;have e:pO q=x:=by simpa using e
  cases hg:bV (rsL R) (x:Int) with
  |some v=>rfl
  |none=>
   have:=eM.1 hg _ (List.mem_map.2 ⟨q,hq,rfl⟩);simp only at this;omega
 |false=>
  cases hg:bV (rsL R) (x:Int) with
  |none=>rfl
  |some v=>
   obtain ⟨q,hq,e⟩:=List.mem_map.1 (p6 hg);injection e with e1 e2;have:rsB R x=true:=List.any_eq_true.2 ⟨q,hq,by simp;omega⟩;rw [hb] at this;cases this
section
variable {Q:Nat->Prop} {w0 w w' w'':aa} {Y Y' Y'':Lay} {D D':DS} {H:HL} {n:Nat} {f f':Idx} {R:List Nat}
def HpG.cls (h:HpG Q w0 w Y D H n f R) {k:Nat} (hk:k<n):(f k).1<5/\-1<=(f k).1:=h.rg.cls hk
def HpG.cx (h:HpG Q w0 w Y D H n f R) {k:Nat} (hk:k<n) (h0:0<=(f k).1):Cx w Y D (26+32*k) (f k).1:=⟨h.ar.L.dv,h.ar.L.gd,h.gl,h.rg.on.off,by have:=h.ar.lt;omega,h0,(h.cls hk).1⟩
def HpG.open (h:HpG Q w0 w Y D H n f R) {k:Nat} (hk:k<n) (h0:0<=(f k).1):∀(w1:aa) (K:K1),Ext w w1->(∀w2,Ext w1 w2->K (.tuple #[chV Y (26+32*k) (f k).1 (f k).2.1 (gX (wd D (26+32*k) 0)),.int .i64 0]) w2)->ae prog 75 #[.iface 31 (.pointer (some ⟨Y.tb 0,0,none⟩)),.int .i64 ((26+32*k:Nat):Int)] w1 K:=λw1 K e1 a=>by
 have ha:=h.rg.ag k hk;refine pS (h.ar.L.dv.ext e1) h.ar.L.gd (h.gl.ext e1) h.rg.on.off (h.er 0 oM) (26+32*k) (by have:=h.ar.lt;omega) ha.1 K (λw2 e2=> ?_);rw [if_neg (by rw [<-ha.2.1];omega),<-ha.2.1,<-ha.2.2];exact a w2 e2
def HpG.openZ (h:HpG Q w0 w Y D H n f R) {k:Nat} (hk:k<n) (h0:(f k).1<0):∀(w1:aa) (K:K1),Ext w w1->(∀w2,Ext w1 w2->K (.tuple #[chZ,.int .i64 8]) w2)->ae prog 75 #[.iface 31 (.pointer (some ⟨Y.tb 0,0,none⟩)),.int .i64 ((26+32*k:Nat):Int)] w1 K:=λw1 K e1 a=>by
 have ha:=h.rg.ag k hk;refine pS (h.ar.L.dv.ext e1) h.ar.L.gd (h.gl.ext e1) h.rg.on.off (h.er 0 oM) (26+32*k) (by have:=h.ar.lt;omega) ha.1 K (λw2 e2=> ?_);rw [if_pos (by rw [<-ha.2.1];omega)];exact a w2 e2
def cM (D:DS) (R:List Nat) (l:Nat) (c:Int) (i:Nat):Bool:=bf (wd D l 1) i||rsB R (pOff l c i)
def GQ (h:HpS w0 w Y D H n f R) {k:Nat} (hk:k<n) (h0:0<=(f k).1) (kd:Nat) (k0:kd≠0) (k7:kd<=127) (K:K1)
  (s:(∀i:Nat,(i:Int)<perS (f k).1->cM D R (26+32*k) (f k).1 i=true)->∀w',Ext w w'->K (.tuple #[.int .u64 ((0:Nat):Int),.int .i64 5]) w')
  (a:∀i:Nat,(i:Int)<perS (f k).1->cM D R (26+32*k) (f k).1 i=false->(∀j,j<i->cM D R (26+32*k) (f k).1 j=true)->∀w',Ext w w'->K (.tuple #[.int .u64 ((ptrN (pOff (26+32*k) (f k).1 i) (bG (wd D (26+32*k) (offN (f k).1 i))) kd:Nat):Int),.int .i64 0]) w'):
  ae prog 68 #[hpV H,.int .i64 ((26+32*k:Nat):Int),.int .u8 (kd:Int)] w K:=by
 have o:=h.cx hk h0;have a7:=h.n4;have N:=h.erE;have L:=h.open hk h0;have a4:=aN o.c0 o.c5;have F:=h.rg.sn k hk h0;have W:=h.er 0 oM;have g:=h.cell;have q0:=g.1;have q1:=g.2.1;have q2:=g.2.2.1;have q3:=g.2.2.2.1;have q4:=g.2.2.2.2.1;have q5:=g.2.2.2.2.2.1;have q6:=g.2.2.2.2.2.2.1;have q7:=g.2.2.2.2.2.2.2;have ltp:=h.ltp;have Q:=h.rs;unfold cM at s a;generalize (f k).1=c at*;generalize (f k).2.1=oo at*;generalize gX (wd D (26+32*k) 0)=gg at*;have a6:26+32*k<=4096:=oM;generalize 26+32*k=l at*;obtain ⟨y,hy⟩:∃y,y=wd D l 1:=⟨_,rfl⟩;rw [<-hy] at s a;have B:∀(w1:aa) (i:Nat) (K:K1),Ext w w1->(i:Int)<perS c->bf y i=false->(∀w2,Ext w1 w2->K (pE (ptrN (pOff l c i) (bG (wd D l (offN c i))) kd) 0) w2)->ae prog 122 #[chV Y l c oo gg,.int .i64 (i:Int),.int .u8 (kd:Int)] w1 K:=λw1 i K e1 hi hb hK=>by
  have hs:=F.sndB o.c0 o.c5 i hi;have C:=F.bit i oM;rw [<-hy,hb,decide_eq_true hi,gp] at C;have a2:bS (wd D l (offN c i))=176:=by simpa using C
  refine AD (o.ext e1) W oo gg (i:Int) kd oM K (λhn=>absurd ⟨by omega,hi⟩ hn) (λj ej hj P=> ?_) (λj ej hj _ a3=> ?_) (λj ej hj _ a0=> ?_) (λj ej hj _ _ a8=>by omega) (λj ej hj _ _ _ _ w2 e2=> ?_)
  all_goals (have:j=i:=by omega)
  all_goals subst this
  ·exact absurd hs P
  ·omega
  ·omega
  ·exact hK w2 e2
 have x:∀(w1:aa) (i:Nat) (K:K1),Ext w w1->(i:Int)<=perS c->(∀w2,Ext w1 w2->K (.int .i64 (frN y ((perS c).toNat-i) i)) w2)->ae prog 121 #[chV Y l c oo gg,.int .i64 (i:Int)] w1 K:=λw1 i K e1 hi hK=>by
  refine ahs (o.ext e1) oo gg (i:Int) K ?_;rw [<-hy,cn];exact hK
 refine Zy _ _ _ _ _ ?_;unfold afO;refine zS1 q0 ?_;refine L _ _ xZ (λw1 e1=> ?_);have O:Ext w w1:=Ext.trans xZ e1;have hN:=ah.new w1 [Value.iface 31 (.pointer (some ⟨Y.tb 0,0,none⟩)),.int .i64 (l:Int),.int .i64 c,.int .i64 oo,.int .u16 (gg:Int)] 134;have a1:H.p<w1.heap.size:=by have:=O.size;omega
 refine zS0 ?_;refine x _ 0 _ xZ oM (λw2 e2=> ?_);have G:ah w2 w1.heap.size 134 5 (chF (Y.tb 0) l c oo gg):=hN.ext e2;have M:Ext w w2:=Ext.trans xZ e2;apply Gw (I:=λz w'=>∃i:Nat,z= .int .i64 (frN y ((perS c).toNat-i) i)/\(i:Int)<=perS c/\(∀j,j<i->(bf y j||rsB R (pOff l c j))=true)/\Ext w2 w') (μ:=λz _=>muF (perS c).toNat z)
 ·exact ⟨0,rfl,by omega,λj hj=>by omega,Ext.refl _⟩
 ·intros;rename_i w3 hI E1 hE;obtain ⟨i,rfl,hi,hu,e3⟩:=hI;have q:=M.trans e3;have v:=chD (G.ext e3);have d0:=v.1;have d1:=v.2.1;have d2:=v.2.2.1;have d3:=v.2.2.2.1;have d4:=v.2.2.2.2;have ltN:=ax d0;have q0:=q.cell_some q0;have q4:=q.cell_some q4;have Z:=ax q0;have A:=λ(w1:aa) (K:K1) (e:Ext w3 w1)=>N w1 K (q.trans e)
  rcases xf y ((perS c).toNat-i) i with ⟨h1,h2⟩|⟨z,h1,h2,h3,h4,h5⟩
  ·rw [h1];have s:=s (λj hj=>by
    by_cases hji:j<i
    ·exact hu j hji
    ·rw [h2 j oM oM];rfl)
   unfold wO;refine vf q0 A @TL @Gv.eq_1 ?_;exact s _ q
  ·rw [h1] at hE ⊢;have E:∀j,j<z->(bf y j||rsB R (pOff l c j))=true:=λj hj=>by
    by_cases hji:j<i
    ·exact hu j hji
    ·rw [h5 j oM hj];rfl
   have a:=a z oM;have t:=cY (l:=l) (i:=z) oM o.c0 o.c5 oM;have hG:=dJ (wd D l (offN c z));have B:=λ(w1:aa) (K:K1) (e:Ext w3 w1)=>B w1 z K (q.trans e) oM h4
   have V:∀(w1:aa) (k:an->Prop),Ext w3 w1->rd prog (Instr.lookup 108 (.map (some H.rm)) (.int .u64 ((pOff l c z:Nat):Int)) true) w1 k=k (.tuple #[(bV (rsL R) (pOff l c z:Int)).getD (.int .u64 0),.bool (rsB R (pOff l c z))]):=λw1 k e=>by rw [wk mTr (Q.ext (q.trans e)),aaf]
   have a5:=Dr (pOff l c z) (bG (wd D l (offN c z))) kd t.2.1 hG k7 t.2.2 t.1;have T:=rW (pOff l c z) (bG (wd D l (offN c z))) kd t.1 t.2.1;generalize ptrN (pOff l c z) (bG (wd D l (offN c z))) kd=p at*;have b:∀(w1:aa) (K:K1),ae prog 20 #[.int .u64 (p:Int)] w1 K=K (.int .u64 ((pOff l c z:Nat):Int)) w1:=λw1 K=>by rw [fN p w1 K oM,T]
   have S:=λ(w1:aa) (K:K1) (e:Ext w3 w1)=>x w1 (z+1) K (q.trans e) oM
   generalize hpe:pOff l c z=po at*;rw [h4] at a;unfold wO;refine zS6 d0 d1 d2 d3 d4 d4 ?_;refine B _ _ xZ (λw4 e4=> ?_);have m:Ext w3 w4:=Ext.trans xZ e4;have U:=q.trans m;have q0:=m.cell_some q0;have q4:=m.cell_some q4;have X:=ax q0;have r:=λ(w1:aa) (K:K1) (e:Ext w4 w1)=>A w1 K (m.trans e)
   have d:=λ(w1:aa) (k:an->Prop) (e:Ext w4 w1)=>V w1 k (m.trans e)
   cases hbz:rsB R po with
   |false=>
    rw [hbz] at d a
    (repeat' first|refine am (λ_=> ?_) (λ_=> ?_)|refine ao ?_ ?_|refine fJ q0 q4 r d b b ?_|exact adg q0 q4 r d b b|fail)
    exact a rfl E _ (U.trans xZ)
   |true=>
    rw [hbz] at d a;have u:=chD ((G.ext e3).ext m);have d0:=u.1;have d1:=u.2.1;have d2:=u.2.2.1;have d3:=u.2.2.2.1;have d4:=u.2.2.2.2;have ltN:=ax d0;have J:=λ(w1:aa) (K:K1) (e:Ext w4 w1)=>S w1 K (m.trans e)
    (repeat' first|refine am (λ_=> ?_) (λ_=> ?_)|refine ao ?_ ?_|refine Nz q0 q4 r d b @Bd @wP.eq_1 d0 d1 d2 d3 d4 d4 d4 ?_|exact NA q0 q4 r d b @Bd @wP.eq_1 d0 d1 d2 d3 d4 d4 d4|fail)
    refine J _ _ xZ (λw5 e5=> ?_);apply hE
    ·refine ⟨z+1,rfl,by omega,λj hj=> ?_,e3.trans (m.trans (Ext.trans xZ e5))⟩;by_cases ej:j=z
     ·subst ej;rw [hpe,hbz,hU]
     ·exact E j oM
    ·rcases xf y ((perS c).toNat-(z+1)) (z+1) with ⟨g1,_⟩|⟨z',g1,g2,g3,_⟩
     ·rw [g1];show 0<(perS c).toNat+1-z;omega
     ·rw [g1];show (perS c).toNat+1-z'<(perS c).toNat+1-z;omega
end
def zW (po:Nat):Nat->List (Nat×Nat)
 |0=> []
 |m+1=>zW po m++ [(po+8*m,0)]
def LS (po:Nat):∀m,(zW po m).length=m
 |0=>rfl
 |m+1=>by simp only [zW,aq,List.length_singleton,LS po m]
def oT {po:Nat}:∀{m:Nat} {x:Nat×Nat},x∈zW po m->∃j,j<m/\x=(po+8*j,0)
 |0,x,h=>by cases h
 |m+1,x,h=>by
  simp only [zW,cW,ab] at h;rcases h with h|h
  ·obtain ⟨j,a,b⟩:=oT h;exact ⟨j,by omega,b⟩
  ·exact ⟨m,by omega,h⟩
def Ef {P:Nat->Bool} {l0:Nat}:∀{n:Nat} {x:Int},x∈lnL P l0 n↔∃k,k<n/\P k=true/\x=((l0+32*k:Nat):Int)
 |0,x=>⟨λh=>(by cases h),λ⟨k,h,_⟩=>oM⟩
 |n+1,x=>by
  simp only [lnL,cW,Ef (n:=n)];constructor
  ·rintro (⟨k,a,b,c⟩|h)
   ·exact ⟨k,by omega,b,c⟩
   ·split at h
    ·rename_i hp;exact ⟨n,by omega,hp,by simpa using h⟩
    ·cases h
  ·rintro ⟨k,a,b,c⟩;by_cases e:k=n
   ·right;subst e;rw [if_pos b,c];simp
   ·exact .inl ⟨k,by omega,b,c⟩
section
variable {w0 w w' w'':aa} {Y Y' Y'':Lay} {D D':DS} {H:HL} {n:Nat} {f f':Idx} {R:List Nat}
def Pu (p x:Nat) (w:aa) (K:K1) (p0:p≠0) (hp:p<18446744073709551616) (hx:x<60):ae prog 31 #[.int .u64 (p:Int),.int .i64 (x:Int)] w K=K (.int .u64 ((pO p+8*x:Nat):Int)) w:=by
 refine aD (by kernel_rfl) (Ya _ _ _ _ ?_) K;have h1:pO p<34359738368:=by unfold pO;omega
 unfold afn;exact yS3 @mg @fN p0
def af3 {po m:Nat} (on:On D) (h8:po%8=0) (hl:po+8*m<=D.n*64):On (D.run 0 (aF (zW po m)))/\(D.run 0 (aF (zW po m))).cur=aI (zW po m) D.cur:=
 On.stores on _ (λx hx=>by obtain ⟨j,hj,rfl⟩:=oT hx;simp only;omega)
def ahT (h:HpS w0 w Y D H n f R) {p:Nat} {c:Int} (c0:0<=c) (c5:c<5) (p0:p≠0) (hp:p<18446744073709551616) (h8:pO p%8=0) (hl:pO p+8*(wordsS c).toNat<=D.n*64) (hx:D.exe<1000000000) (K:K1)
  (hK:∀w' Y',Stp w Y w' Y' (D.run 0 (aF (zW (pO p) (wordsS c).toNat)))->K (.int .i64 0) w'):
  ae prog 69 #[hpV H,.int .u64 (p:Int),.int .i64 c] w K:=by
 have C:=h.n4;have hw:=aO c0 c5;have q0:=h.cell.1;have ltp:=h.ltp;have a:=h.ar.L.dv;have d:=af3 (m:=(wordsS c).toNat) h.rg.on h8 hl;have l:=tY c w;obtain ⟨m,hm⟩:∃m:Nat,wordsS c=(m:Int):=⟨(wordsS c).toNat,by omega⟩;rw [hm] at hl hK d l;rw [hm] at hw;rw [cn] at hl hK d;have hG:=h.gl;refine ZD _ _ _ _ _ ?_;unfold afP;refine zS2 l hG ?_;apply Gz (I:=λx z w'=>∃j:Nat,z= .int .i64 (j:Int)/\j<=m/\SlO w' 98 2 x j (wrL (zW (pO p) j))/\Frm Nob w w'/\bi w.heap.size x) (μ:=λ_ z _=>m-(intOf z).toNat)
 ·exact ⟨0,rfl,by omega,SlO.nil _ _ _,Frm.refl _ _,λb hb=>by cases hb⟩
 ·intros;rename_i w2 hI E1 hE;obtain ⟨j,rfl,hj,sx,hf,nx⟩:=hI;have e2:=hf.to_ext (λ_ _ h=>h);obtain ⟨xa,xc,rfl,B⟩:=sx.isS';by_cases hjm:j<m
  ·have s:=Pu p j;unfold wQ;refine zS1 s ?_;refine bH dx (w0:=w) (sx.ext xZ) (hf.ext xZ) nx (m:=1) (news:=wrL [(pO p+8*j,0)]) (by simp [wrL]) ?_ rfl oM oM oM (λv' w3 hs y n3 _ _=> ?_)
   ·intro q u hq;rw [hV,aY _ _ _ _ _ (by simp only [RZ])];simpa [wrL,u64] using hq
   refine zS0 ?_;apply hE
   ·refine ⟨j+1,by simp,by omega,?_,y,n3⟩;rw [zW,ck];exact hs
   ·simp [intOf];omega
  ·have:j=m:=oM;subst this;have q0:=e2.cell_some q0;have A:=ax q0;have o:=LS (pO p) j;have v:=ba (zW (pO p) j);have t:SlO w2 98 2 (.slice xa j xc) (zW (pO p) j).length (wrL (zW (pO p) j)):=by rw [o];exact sx
   have ed:Ext w2 w2.drew:=Ext.drew (Ext.refl _);rw [o] at v;have r:=λK hK=>iQ (zW (pO p) j) _ (t.ext ed) oM oM (λx hx=>by obtain ⟨i,hi,rfl⟩:=oT hx;simp only;omega) K hK
   have e:=λ(v3:an) (w3:aa) (g:SlO w3 220 3 v3 (aF (zW (pO p) j)).length (inL (aF (zW (pO p) j)))) (e3:Ext w w3) (n3:bi w2.drew.heap.size v3) K hK=>Ab (a.ext e3) h.ar.L.gd 0 oM (aF (zW (pO p) j)) v3 g (λb hb hf=>by have h1:=a.lt hf;have h2:=n3 b hb;have:=(e2.trans ed).size;omega) (bI (λx hx=>by obtain ⟨i,hi,rfl⟩:=oT hx;simp only;omega)) oM K hK
   rw [d.1.err] at e;unfold wQ;refine zS3 @TM @Gy.eq_1 q0 ?_;refine r _ (λv3 w3 g e3 n3=> ?_);have q0:=(ed.trans e3).cell_some q0;have k:=e2.trans (ed.trans e3)
   (repeat' first|refine am (λ_=> ?_) (λ_=> ?_)|refine ao ?_ ?_|refine jI q0 ?_|exact yh q0|fail)
   refine e v3 w3 g k n3 _ (λw4 Y4 st=> ?_);exact hK w4 Y4 (Stp.pre k (λx hx=>a.lt hx) st)
def HpG.avo {Q:Nat->Prop} (h:HpG Q w0 w Y D H n f R) (x:Int):∀(w1:aa) (K:K1),Ext w w1->ev prog (Instr.lookup 110 (.map H.av) (.int .i64 x) false) w1 K=K (.bool (decide (x∈H.avl))) w1:=λw1 K e=>by
 rcases h.avm with ⟨a,b⟩|⟨r,a,b,_⟩
 ·rw [a,b,Lo mTa];rfl
 ·rw [a,dY mTa (b.ext e)];by_cases hx:x∈H.avl
  ·rw [decide_eq_true hx,uj b.keys (List.mem_map.2 ⟨x,hx,rfl⟩)];rfl
  ·rw [decide_eq_false hx,eM.2 (λp hp e=>by obtain ⟨y,hy,rfl⟩:=List.mem_map.1 hp;simp only at e;exact hx (e▸hy))];rfl
def aag (h:HpS w0 w Y D H n f R) {t c:Int} (t0:0<=t) (c0:0<=c) (kd:Nat) (k0:kd≠0) (k7:kd<=127) (K:K1)
  (r:(∀k,k<n->(f k).2.1=t->(f k).1=c->((26+32*k:Nat):Int)∉H.avl->∀i:Nat,(i:Int)<perS c->cM D R (26+32*k) c i=true)->∀w',Ext w w'->K (.tuple #[.int .u64 ((0:Nat):Int),.int .i64 0,.int .i64 5]) w')
  (l:∀k,k<n->(f k).2.1=t->(f k).1=c->((26+32*k:Nat):Int)∉H.avl->∀i:Nat,(i:Int)<perS c->cM D R (26+32*k) c i=false->(∀j,j<i->cM D R (26+32*k) c j=true)->∀w',Ext w w'->K (.tuple #[.int .u64 ((ptrN (pOff (26+32*k) c i) (bG (wd D (26+32*k) (offN c i))) kd:Nat):Int),.int .i64 ((26+32*k:Nat):Int),.int .i64 0]) w'):
  ae prog 66 #[hpV H,.int .i64 t,.int .i64 c,.int .u8 (kd:Int)] w K:=by
 have q3:=h.cell.2.2.2.1;have ltp:=h.ltp;have G:=h.n4;refine Zq _ _ _ _ _ _ ?_;unfold afM;refine zS1 q3 ?_;refine Exists.elim (p:=λL=>L=lnL (λk=>decide ((f k).2.1=t)&&decide ((f k).1=c)) 26 n) ⟨_,rfl⟩ (λL hL=> ?_);have u:=YI h.ar t c t0 c0;rw [<-hL] at u;have B:∀x∈L,∃k,k<n/\(f k).2.1=t/\(f k).1=c/\x=((26+32*k:Nat):Int):=λx hx=>by
  rw [hL] at hx;obtain ⟨k,a,b,d⟩:=Ef.1 hx;simp only [cv,decide_eq_true_eq] at b;exact ⟨k,a,b.1,b.2,d⟩
 have C:∀k,k<n->(f k).2.1=t->(f k).1=c->((26+32*k:Nat):Int)∈L:=λk a b d=>by
  rw [hL];exact Ef.2 ⟨k,a,by simp [b,d],rfl⟩
 have N:L.length<=128:=by rw [hL];have:=uh (λk=>decide ((f k).2.1=t)&&decide ((f k).1=c)) 26 n;omega
 clear hL;refine u _ (λv w1 e1 nv hv=> ?_);have hr:RdS w1.heap.size w1 v (aX L):=RdS.of_slR (by rw [show (aX L).length=L.length by simp];exact hv);obtain ⟨va,vc,y,_⟩:=id hr;rw [show (aX L).length=L.length by simp] at y;subst y;refine zS0 ?_;apply Gu (I:=λz w'=>∃j:Nat,z= .int .i64 (j:Int)/\j<=L.length/\(∀q,(hq:q<L.length)->q<j->L[q]∉H.avl->∀k,k<n->L[q]=((26+32*k:Nat):Int)->(f k).1=c->∀i:Nat,(i:Int)<perS c->cM D R (26+32*k) c i=true)/\Ext w1 w') (μ:=λz _=>L.length-(intOf z).toNat)
 ·exact ⟨0,rfl,by omega,λq _ h=>by omega,Ext.refl _⟩
 ·intros;rename_i w2 hI E1 hE;obtain ⟨j,rfl,hj,hd,e2⟩:=hI;have o:=e1.trans e2;have q6:=(h.ext o).cell.2.2.2.2.2.2.1;have F:=ax q6;by_cases hjl:j<L.length
  ·obtain ⟨sb,so,sc,s,hc⟩:=(hr.ext e2).get (pN hjl);injection s with s _ ev2;subst s;subst ev2;have J:=ax hc;obtain ⟨k,hk,ht,m,hx⟩:=B L[j] (bL hjl);have g:=(h.ext o).avo L[j];have A:=λ(w3:aa) (K:K1) (e:Ext w2 w3)=>GQ ((h.ext o).ext e) hk (by rw [m];exact c0) kd k0 k7 K
   rw [m] at A;have hd1:∀(hq:(L[j]∉H.avl->∀k,k<n->L[j]=((26+32*k:Nat):Int)->(f k).1=c->∀i:Nat,(i:Int)<perS c->cM D R (26+32*k) c i=true)),∀q,(hq:q<L.length)->q<j+1->L[q]∉H.avl->∀k,k<n->L[q]=((26+32*k:Nat):Int)->(f k).1=c->∀i:Nat,(i:Int)<perS c->cM D R (26+32*k) c i=true:=λhh q hq h1=>by
    by_cases e:q=j
    ·subst e;exact hh
    ·exact hd q hq oM
   rw [hx] at hc g hd1;have l:=l k hk ht m;unfold wJ;by_cases ha:((26+32*k:Nat):Int)∈H.avl
   ·rw [decide_eq_true ha] at g;refine fJ hc q6 g @Bc @p9.eq_1 @p9.eq_1 ?_;apply hE
    ·exact ⟨j+1,by simp,by omega,hd1 (λhn=>absurd ha hn),e2.trans xZ⟩
    ·simp [intOf];omega
   ·rw [decide_eq_false ha] at g;have l:=l ha;refine ia hc q6 g ?_;refine A _ _ xZ (λhu w3 e3=> ?_) (λi hi hf E w3 e3=> ?_)
    ·refine zS2 @Bc @p9.eq_1 ?_;apply hE
     ·refine ⟨j+1,by simp,by omega,hd1 (λ_ k2 M e2 _=> ?_),e2.trans e3⟩;have:k2=k:=oM;subst this;exact hu
     ·simp [intOf];omega
    ·refine zS0 ?_;exact l i hi hf E _ (o.trans e3)
  ·have:j=L.length:=oM;subst this;have r:=r (λk hk ht m hn i hi=>by
    obtain ⟨q,hq,he⟩:=List.getElem_of_mem (C k hk ht m);exact hd q hq hq (by rw [he];exact hn) k hk he m i hi)
   unfold wJ;refine zS2 @TK @Gt.eq_1 ?_;exact r _ o
end
section
variable {D:DS} {j:Nat}
def GR (hj:j≠0) (v:Bool):(D.counted 0 v).err j=D.err j:=by
 have hf:∀(D:DS) (e:Int),(D.fail 0 e).err j=D.err j:=λD e=>by
  unfold DS.fail;split
  ·show (if j=0 then e else D.err j)=_;rw [if_neg hj]
  ·rfl
 unfold DS.counted;split
 ·exact hf _ _
 ·split
  ·exact hf _ _
  ·split
   ·split
    ·rw [hf]
    ·rfl
   ·rfl
def aah (hj:j≠0) (i:Ins):(D.exec 0 i).err j=D.err j:=by
 have h:=λv=>GR (D:=D) hj v
 unfold DS.exec;split
 ·unfold DS.store;split
  ·exact h _
  ·exact h _
 ·split
  ·unfold DS.flush;split
   ·exact h _
   ·exact h _
  ·unfold DS.fence;split
   ·exact h _
   ·exact h _
def gD (hj:j≠0):∀(p:List Ins) (D:DS),(D.run 0 p).err j=D.err j
 | [],D=>rfl
 |i::p,D=>by rw [iT,gD hj p,aah hj]
def GS (v:Bool):(D.counted 0 v).cur=D.cur:=by
 have hf:∀(D:DS) (e:Int),(D.fail 0 e).cur=D.cur:=λD e=>by unfold DS.fail;split<;>rfl
 unfold DS.counted;split
 ·exact hf _ _
 ·split
  ·exact hf _ _
  ·split
   ·split
    ·rw [hf]
    ·rfl
   ·rfl
def aai (i:Ins) (h:i.op=1->i.off/8≠j):(D.exec 0 i).cur j=D.cur j:=by
 have hc:=λv=>congrFun (GS (D:=D) v) j
 unfold DS.exec;split
 ·rename_i h1;unfold DS.store;split
  ·show (if j=i.off/8 then i.val else (D.counted 0 _).cur j)=_;rw [if_neg (λe=>h h1 e.symm)];exact hc _
  ·exact hc _
 ·split
  ·unfold DS.flush;split
   ·exact hc _
   ·exact hc _
  ·unfold DS.fence;split
   ·exact hc _
   ·exact hc _
def Pv (j:Nat):∀(p:List Ins) (D:DS),(∀i∈p,i.op=1->i.off/8≠j)->(D.run 0 p).cur j=D.cur j
 | [],D,_=>rfl
 |i::p,D,h=>by rw [iT,Pv j p _ (λx hx=>h x (by simp [hx])),aai i (h i (by simp))]
def LT {ws:List (Nat×Nat)} {i:Ins} (h:i∈aF ws) (ho:i.op=1):∃x∈ws,i.off=x.1:=by
 unfold aF at h;simp only [cW,gs,ab] at h;rcases h with (⟨x,hx,rfl⟩|⟨x,hx,rfl⟩)|rfl
 ·exact ⟨x,hx,rfl⟩
 ·simp [flI] at ho
 ·simp at ho
def kQ {ws:List (Nat×Nat)} (j:Nat) (D:DS) (h:∀x∈ws,x.1/8≠j):(D.run 0 (aF ws)).cur j=D.cur j:=
 Pv j _ D (λi hi ho=>by obtain ⟨x,hx,e⟩:=LT hi ho;rw [e];exact h x hx)
end
section
variable {w0 w w' w'':aa} {Y Y' Y'':Lay} {D D' D2:DS} {H:HL} {n:Nat} {f f' f2:Idx} {R:List Nat} {c t:Int}
def ahU {l0:Nat} {r e:Int} (hr:O8 D l0 n f c t D2 f2 r e) (c0:0<=c) (c5:c<5) (hl:l0+32*n<=D.n):(∀j,j<l0*8->D2.cur j=D.cur j)/\∀j,j≠0->D2.err j=D.err j:=by
 have hp:∀(D:DS) k g,k<n->(∀j,j<l0*8->(D.run 0 (planI (l0+32*k) c t g)).cur j=D.cur j):=λD k g hk j hj=>by
  unfold planI;rw [dD,kQ,kQ]
  ·intro x hx;have:=jP (n:=l0+32*k+32) (bl _) c0 c5 g x hx;omega
  ·intro x hx;simp only [ab] at hx;subst hx;simp only;omega
 have hc:∀(D:DS) k g,k<n->(∀j,j<l0*8->(D.run 0 (dC (l0+32*k) g)).cur j=D.cur j):=λD k g hk j hj=>by
  unfold dC;rw [kQ];intro x hx;simp only [ab] at hx;subst hx;simp only;omega
 rcases hr with ⟨k,hk,_,_,b,_⟩|⟨_,k,g,D1,hk,_,_,a,hr⟩|⟨_,_,h3,_⟩
 ·subst b;exact ⟨hp D k _ hk,λj hj=>gD hj _ _⟩
 ·subst a;rcases hr with ⟨_,h2,_⟩|⟨_,h2,_⟩
  ·subst h2;exact ⟨hc D k g hk,λj hj=>gD hj _ _⟩
  ·subst h2;exact ⟨λj hj=>(hp _ k g hk j hj).trans (hc D k g hk j hj),λj hj=>(gD hj _ _).trans (gD hj _ _)⟩
 ·subst h3;exact ⟨λ_ _=>rfl,λ_ _=>rfl⟩
def HpG.astp {Q:Nat->Prop} (h:HpG Q w0 w Y D H n f R) (s:eZ w Y H.b w' Y') (ar:ArS w0 w' Y' D2 H.S H.b H.o H.cp 26 n f2) (rg:RgS D2 26 n f2) (rv:∀p∈R,Rsv D2 f2 n p) (ho:∀k,k<n->(f2 k).2.2=(f k).2.2) (er:∀k,k<8->D2.err k=0) (d:D2.cur 0=0):HpS w0 w' Y' D2 H n f2 R:=by
 obtain ⟨L,h1,h2⟩:=h.hd;have tb:Y'.tb 0=Y.tb 0:=by rw [s.tb]
 have sp:=h.sep;have nf:∀x,(x=H.p\/x=H.rm\/x=H.hm\/x=H.B\/H.av=some x)->¬(Y.F x\/x=H.b):=λx hx hf=>hf.elim (sp x hx).2.1 (sp x hx).2.2.1
 refine ⟨ar,rg,by rw [tb];exact h.hp.frm s.frm (nf _ (.inl rfl)),by rw [tb];exact h.lg.frm s.frm (nf _ (.inr (.inr (.inr (.inl rfl))))),h.rs.frm s.frm (nf _ (.inr (.inl rfl))),⟨L,h1.frm s.frm (nf _ (.inr (.inr (.inl rfl)))),h2⟩,h.nd,rv,λk hk=>(ho k hk).trans (h.ho k hk),er,d,h.avm.imp id (λ⟨r,a,b,c⟩=>⟨r,a,b.frm s.frm (nf _ (.inr (.inr (.inr (.inr a))))),c⟩),λx hx=>⟨(sp x hx).1,λhf=> ?_,(sp x hx).2.2⟩,h.dif,by rw [s.dt.1,s.dt.2,s.tb];exact h.dt⟩;have lt:x<w.heap.size:=by
  rcases hx with rfl|rfl|rfl|rfl|ha
  ·exact h.hp.lt
  ·exact h.rs.lt
  ·exact h1.lt
  ·exact h.lg.lt
  ·rcases h.avm with ⟨a,_⟩|⟨r,a,b,_⟩
   ·rw [a] at ha;cases ha
   ·rw [a] at ha;injection ha with ha;subst ha;exact b.lt
 rcases s.fr x hf with h3|h3
 ·exact (sp x hx).2.1 h3
 ·omega
def mt {k i g kd:Nat} {c:Int} (c0:0<=c) (c5:c<5) (hl:26+32*k<=4096) (hi:(i:Int)<perS c):pO (ptrN (pOff (26+32*k) c i) g kd)=pOff (26+32*k) c i/\hk (ptrN (pOff (26+32*k) c i) g kd)=k:=by
 have hb:=aK c0 c5 hi;have a:=bB c0 c5 (show 0<=(i:Int) by omega) hi;have hw:=aO c0 c5;have hp:=cY hl c0 c5 hi;have e:=rW (pOff (26+32*k) c i) g kd hp.1 hp.2.1;refine ⟨e,?_⟩;unfold hk;rw [e];unfold pOff;omega
def Rsv.congr {p:Nat} (h:Rsv D f n p) (hn:26+32*n<=4096) (rg:RgS D 26 n f) (e1:f2 (hk p)=f (hk p)\/((f2 (hk p)).1=(f (hk p)).1)) (e2:∀i:Nat,(i:Int)<perS (f (hk p)).1->pO p=pOff (26+32*hk p) (f (hk p)).1 i->wd D2 (26+32*hk p) (offN (f (hk p)).1 i)=wd D (26+32*hk p) (offN (f (hk p)).1 i)):Rsv D2 f2 n p:=by
 obtain ⟨k,i,kd,b,h0,hi,hp,c,k0,k7⟩:=h;have hc:=rg.cls b;have hh:=mt (k:=k) (g:=bG (wd D (26+32*k) (offN (f k).1 i))) (kd:=kd) h0 hc.1 oM hi;rw [<-hp] at hh;have a:(f2 (hk p)).1=(f (hk p)).1:=e1.elim (λe=>by rw [e]) id;rw [hh.2] at a e2;refine ⟨k,i,kd,b,by rw [a];exact h0,by rw [a];exact hi,?_,?_,k0,k7⟩
 ·rw [a,e2 i hi hh.1];exact hp
 ·rw [a,e2 i hi hh.1];exact c
def Rsv.kn {p:Nat} (h:Rsv D f n p) (hn:26+32*n<=4096) (rg:RgS D 26 n f):hk p<n/\0<=(f (hk p)).1/\p≠0/\p<72057594037927936/\∃i:Nat,(i:Int)<perS (f (hk p)).1/\pO p=pOff (26+32*hk p) (f (hk p)).1 i/\bS (wd D (26+32*hk p) (offN (f (hk p)).1 i))=176:=by
 obtain ⟨k,i,kd,c,h0,hi,hp,d,k0,k7⟩:=h;have hc:=rg.cls c;have hh:=mt (k:=k) (g:=bG (wd D (26+32*k) (offN (f k).1 i))) (kd:=kd) h0 hc.1 oM hi;have a:=cY (l:=26+32*k) oM h0 hc.1 hi;have b:=Dr (pOff (26+32*k) (f k).1 i) (bG (wd D (26+32*k) (offN (f k).1 i))) kd a.2.1 (dJ _) k7 a.2.2 a.1;rw [<-hp] at hh b;rw [hh.2];exact ⟨c,h0,b.1,b.2,i,hi,hh.1,d⟩
def Eg {R:List Nat} {p:Nat} (h:p∈R):cnR R (hk p)≠0:=by
 unfold cnR;have:p∈R.filter λq=>decide (hk q=hk p):=List.mem_filter.2 ⟨h,by simp⟩
 have:=List.length_pos_of_mem this;omega
def aaj {P:Program} {ts:Array TypeId} {ty:TypeId} {cs:Array Bool} {w:aa} {k:K1} (t kt et:TypeId) (a:ts[0]? =some t) (ht:P.underlying t=some (.map kt et)):aV P .len ts ty cs #[.map none] w k=k (.int .i64 0) w:=by
 unfold aV;have hr:(builtin .len ts ty cs #[.map none]).run P w= .ok (.value (.int .i64 0)) w:=by
  simp [builtin,bk,a,run_underlying ht,goInt]
 rw [hr];rfl
def aak (h:HpS w0 w Y D H n f R) (y:H.av=none) (t0:0<=t) (t8:t<8) (c0:0<=c) (c5:c<5) (hx:D.exe<1000000000) (K:K1)
  (A:(∀j,j<n->¬(f j).1<0)->(∀j,j<n->emG D 26 f j=none)->∀w' Y',HSt w Y H w' Y'->HpS w0 w' Y' D H n f R->K (.tuple #[.int .i64 0,.int .i64 4]) w')
  (v:∀D2 f2 k g,yp D 26 n f c t D2 f2 k g->D2.exe<=D.exe+210->D2.n=D.n->(Cln D.co->Cln D2.co)->cnR R k=0->∀w' Y',HSt w Y H w' Y'->HpS w0 w' Y' D2 H n f2 R->K (.tuple #[.int .i64 ((26+32*k:Nat):Int),.int .i64 0]) w'):
  ae prog 67 #[hpV H,.int .i64 t,.int .i64 c] w K:=by
 have q3:=h.cell.2.2.2.1;have q6:=h.cell.2.2.2.2.2.2.1;rw [y] at q6;have ltp:=h.ltp;have B:=h.n4;have x:∀(w1:aa) (K:K1),aV prog .len #[110] 3 #[false] #[.map none] w1 K=K (.int .i64 0) w1:=λw1 K=>aaj _ 3 4 rfl (by kernel_rfl)
 have d:=λ(w1:aa) (e:Ext w w1) (K:K1) hK=>adX (h.ext e).ar h.rg.ag h.rg.on.off (h.er 0 oM) hx t0 t8 c0 c5 K hK
 refine Zu _ _ _ _ _ ?_;unfold afN;refine zS3 q3 q6 x ?_;refine d _ (Ext.refl _) _ (λD2 f2 r e hr w1 Y1 a1 s=> ?_);have a:=ahU hr c0 c5 B.2;have hc:=ahJ h.rg c0 c5 hr;rcases aiH h.rg c0 c5 t0 t8 hr with ⟨rfl,rfl,rfl,rfl,h1,h2⟩|⟨rfl,k,g,rfl,ok,o,n2,x2⟩
 ·refine zS0 ?_;exact A h1 h2 w1 Y1 (HSt.of_ast a1) (h.astp a1 s h.rg h.rv (λ_ _=>rfl) h.er h.idl)
 ·have q:cnR R k=0:=by
   rcases Nat.eq_zero_or_pos (cnR R k) with e|e
   ·exact e
   ·exfalso;have u:=h.ho k ok.kn;rw [decide_eq_true oM] at u;obtain ⟨p,hp⟩:=List.exists_mem_of_length_pos e;obtain ⟨z,b⟩:=List.mem_filter.1 hp;have b:hk p=k:=by simpa using b
    have:=(h.rv p z).kn oM h.rg;rw [b] at this;rcases ok.how with ⟨h1,_⟩|⟨_,h1,_⟩
    ·omega
    ·have:=(DM h.rg ok.kn h1).2.2.1;rw [u] at this;cases this
  refine zS0 ?_;refine v D2 f2 k g ok x2 n2 hc q w1 Y1 (HSt.of_ast a1) (h.astp a1 s o (λp hp=> ?_) (λj hj=> ?_) (λj hj=> ?_) ?_)
  ·have m:hk p≠k:=λe=>by have:=Eg hp;rw [e] at this;exact this q
   have l:=(h.rv p hp).kn oM h.rg;have d:=h.cls l.1;refine (h.rv p hp).congr oM h.rg (.inl (by rw [ok.fe,dN _ _ m])) (λi hi _=>ok.oth _ l.1 m _ (aK l.2.1 d.1 hi).2.2)
  ·rw [ok.fe];by_cases e:j=k
   ·subst e;rw [cS]
   ·rw [dN _ _ e]
  ·by_cases e:j=0
   ·subst e;exact o.on.err
   ·rw [a.2 j e];exact h.er j hj
  ·rw [a.1 0 oM];exact h.idl
end
def mu (L:KVL) (i j:Int) (v:an):bV (setL L i v) j=if j=i then some v else bV L j:=by
 unfold setL;by_cases h:(bV L i).isSome
 ·rw [if_pos h];have:∀L:KVL,((bV L i).isSome->bV (L.map λp=>if p.1=i then (i,v) else p) j=if j=i then some v else bV L j)/\(j≠i->bV (L.map λp=>if p.1=i then (i,v) else p) j=bV L j):=by
   intro L
   induction L with
   |nil=>exact ⟨λh=>(by cases h),λ_=>rfl⟩
   |cons p L ih=>
    unfold bV at ih ⊢;simp only [ce,List.find?_cons];by_cases e:p.1=i
    ·by_cases ej:j=i
     ·subst ej;simp [e]
     ·have e1:¬i=j:=λh=>ej h.symm
      simp only [e,if_true,decide_eq_false e1,decide_true,if_neg ej];have:=ih.2 ej;exact ⟨λ_=>this,λ_=>this⟩
    ·simp only [if_neg e,decide_eq_false e];by_cases e2:p.1=j
     ·have ej:¬j=i:=λh=>e (e2.trans h)
      simp [e2,ej]
     ·simp only [decide_eq_false e2];exact ih
  exact (this L).1 h
 ·rw [if_neg h];have hn:bV L i=none:=by simpa using h
  unfold bV at hn ⊢;rw [List.find?_append,eq] at*;by_cases ej:j=i
  ·subst ej;rw [hn,if_pos rfl];simp
  ·rw [if_neg ej];have e1:¬i=j:=λh=>ej h.symm
   simp [e1]
def aal (L:KVL) (i j:Int):bV (DO L i) j=if j=i then none else bV L j:=by
 unfold bV DO;rw [List.find?_filter];by_cases ej:j=i
 ·subst ej;rw [if_pos rfl,eq,List.find?_eq_none];intro p _;simp
 ·rw [if_neg ej];have:(λa:Int×an=>decide ((!decide (a.1=i))=true/\decide (a.1=j)=true))=λa=>decide (a.1=j):=by
   funext p;by_cases e:p.1=j
   ·simp [e,ej]
   ·simp [e]
  rw [this]
def GT (po:Nat) (h8:po%8=0):∀(m:Nat) (f:Nat->Nat) (j:Nat),j<m->aI (zW po m) f (po/8+j)=0
 |0,f,j,h=>by omega
 |m+1,f,j,h=>by
  unfold zW;rw [kN];show (if po/8+j=(po+8*m)/8 then 0 else aI (zW po m) f (po/8+j))=0;by_cases e:j=m
  ·rw [if_pos oM]
  ·rw [if_neg oM];exact GT po h8 m f j oM
def xg {c:Int} (c0:0<=c) (c5:c<5) {i i':Nat}:offN c i'<offN c i+1\/offN c i+1+(wordsS c).toNat<=offN c i':=by
 obtain ⟨z,n,hz,hn,d,z3,b,a⟩:=pT c0 c5;rw [a,a,hz,cn];by_cases h:i'<=i
 ·left;have:=eC (z+1) h;omega
 ·right;have:=eC (z+1) (show i+1<=i' by omega);rw [Nat.add_mul,Nat.one_mul] at this;omega
section
variable {w0 w w' w'':aa} {Y Y' Y'':Lay} {D D' D2:DS} {H:HL} {n k i l:Nat} {f f' f2:Idx} {R R':List Nat} {c t:Int}
def Snd.congrH {o:Int} (h:Snd D l c o) (c0:0<=c) (c5:c<5) (e:∀j,j<8->wd D2 l j=wd D l j) (e2:∀i:Nat,(i:Int)<perS c->wd D2 l (offN c i)=wd D l (offN c i)):Snd D2 l c o:=by
 refine ⟨by rw [e 0 oM];exact h.hd,by rw [e 0 oM];exact h.hc,by rw [e 0 oM];exact h.ho,λj h2 h8=>by rw [e j h8];exact h.zer j h2 h8,λi hi=>by rw [e2 i hi];exact h.sl i hi,λi hi=>by rw [e2 i hi];exact h.gd i hi,λi hi=> ?_⟩;rw [e 1 oM,h.bit i hi];by_cases hp:(i:Int)<perS c
 ·rw [e2 i hp]
 ·rw [decide_eq_false hp,gn,gn]
abbrev zeD (D:DS) (l:Nat) (c:Int) (i:Nat):DS:=D.run 0 (aF (zW (pOff l c i) (wordsS c).toNat))
def um (on:On D) (hl:l+32<=D.n) (hn:D.n<=4096) (c0:0<=c) (c5:c<5) (hi:(i:Int)<perS c):On (zeD D l c i)/\(∀x,(x<l*8+offN c i+1\/l*8+offN c i+1+(wordsS c).toNat<=x)->(zeD D l c i).cur x=D.cur x)/\(∀j,j<(wordsS c).toNat->(zeD D l c i).cur (l*8+offN c i+1+j)=0):=by
 have hb:=aK c0 c5 hi;have a:=bB c0 c5 (show 0<=(i:Int) by omega) hi;have hw:=aO c0 c5;have hp:=cY (l:=l) oM c0 c5 hi;have ho:=af3 (m:=(wordsS c).toNat) on hp.1 (by unfold pOff;omega);have e:pOff l c i/8=l*8+offN c i+1:=by unfold pOff;omega
 refine ⟨ho.1,λx hx=>kQ x D (λy hy=> ?_),λj hj=> ?_⟩
 ·obtain ⟨j,hj,rfl⟩:=oT hy;simp only;omega
 ·unfold zeD;rw [ho.2,<-e];exact GT _ hp.1 _ _ j hj
def uq (on:On D) (hl:l+32<=D.n) (hn:D.n<=4096) (c0:0<=c) (c5:c<5) (hi:(i:Int)<perS c):(∀j,j<8->wd (zeD D l c i) l j=wd D l j)/\(∀i':Nat,(i':Int)<perS c->wd (zeD D l c i) l (offN c i')=wd D l (offN c i'))/\(∀l',(l'+32<=l\/l+32<=l')->∀j,j<256->wd (zeD D l c i) l' j=wd D l' j):=by
 have hb:=aK c0 c5 hi;have b:=bB c0 c5 (show 0<=(i:Int) by omega) hi;have hw:=aO c0 c5;have h:=(um on hl hn c0 c5 hi).2.1;unfold wd;refine ⟨λj hj=>h _ (.inl oM),λi' a=>h _ ?_,λl' d j hj=>h _ oM⟩;have:=xg c0 c5 (i:=i) (i':=i');omega
def Eh (h:RgS D 26 n f) (hk:k<n) (h0:0<=(f k).1) (hi:(i:Int)<perS (f k).1):RgS (zeD D (26+32*k) (f k).1 i) 26 n f/\(zeD D (26+32*k) (f k).1 i).n=D.n/\(zeD D (26+32*k) (f k).1 i).exe<=D.exe+130/\(Cln D.co->Cln (zeD D (26+32*k) (f k).1 i).co):=by
 have hc:=h.cls hk;have c:=h.lt;have hn:=h.gd.n;have hz:=um h.on (l:=26+32*k) oM hn h0 hc.1 hi;have hw:=uq h.on (l:=26+32*k) oM hn h0 hc.1 hi;have m:=aO h0 hc.1;have o:=bB h0 hc.1 (show 0<=(i:Int) by omega) hi;have hb:=aK h0 hc.1 hi;have hp:=cY (l:=26+32*k) oM h0 hc.1 hi;have hv:∀x∈zW (pOff (26+32*k) (f k).1 i) (wordsS (f k).1).toNat,x.1%8=0/\x.1<D.n*64:=λx hx=>by
  obtain ⟨j,hj,rfl⟩:=oT hx;simp only [pOff] at*;omega
 have hx:=gA 0 (aF (zW (pOff (26+32*k) (f k).1 i) (wordsS (f k).1).toNat)) D;have g:=ba (zW (pOff (26+32*k) (f k).1 i) (wordsS (f k).1).toNat);rw [LS] at g;have wS:∀j,j<n->(∀x,x<8->wd (zeD D (26+32*k) (f k).1 i) (26+32*j) x=wd D (26+32*j) x)/\∀i':Nat,(i':Int)<perS (f j).1->0<=(f j).1->wd (zeD D (26+32*k) (f k).1 i) (26+32*j) (offN (f j).1 i')=wd D (26+32*j) (offN (f j).1 i'):=λj hj=>by
  by_cases e:j=k
  ·subst e;exact ⟨hw.1,λi' b _=>hw.2.1 i' b⟩
  ·exact ⟨λx hx=>hw.2.2 _ oM x oM,λi' b a=>hw.2.2 _ oM _ (aK a (h.cls hj).1 b).2.2⟩
 refine ⟨⟨hz.1,aM.run 0 oM _ _ h.gd (bI (λx hx=>by obtain ⟨j,hj,rfl⟩:=oT hx;have:=hv _ hx;simp only at this ⊢;omega)),by rw [show (zeD D (26+32*k) (f k).1 i).n=D.n from gK 0 _ _];exact c,λj hj=> ?_,λj hj a=> ?_⟩,gK 0 _ _,by show (D.run 0 _).exe<=_;omega,λd=>ig h.on hv d⟩
 ·rw [(wS j hj).1 0 oM];exact h.ag j hj
 ·exact (h.sn j hj a).congrH a (h.cls hj).1 (wS j hj).1 (λi' b=>(wS j hj).2 i' b a)
end
structure qe (D:DS) (f:Idx) (R:List Nat) (n:Nat) (A:List Int) (t c:Int) (kd:Nat) (D2:DS) (f2:Idx) (D3:DS) (f3:Idx) (p k i:Nat):Prop where
 kn:k<n
 c0:0<=c
 c5:c<5
 iN:(i:Int)<perS c
 how:(D2=D/\f2=f/\((26+32*k:Nat):Int)∉A)\/((∃g,yp D 26 n f c t D2 f2 k g)/\cnR R k=0/\∀k,k<n->(f k).2.1=t->(f k).1=c->((26+32*k:Nat):Int)∉A->∀i:Nat,(i:Int)<perS c->cM D R (26+32*k) c i=true)
 fc:(f2 k).1=c
 ft:(f2 k).2.1=t
 us:cM D2 R (26+32*k) c i=false
 lt:∀j,j<i->cM D2 R (26+32*k) c j=true
 p:p=ptrN (pOff (26+32*k) c i) (bG (wd D2 (26+32*k) (offN c i))) kd
 rg2:RgS D2 26 n f2
 d3:D3=zeD D2 (26+32*k) c i
 f3:f3=upF f2 k (c,t,true)
 n3:D3.n=D.n
 x3:D3.exe<=D.exe+340
 cl:Cln D.co->Cln D3.co
section
variable {w0 w w' w'':aa} {Y Y' Y'':Lay} {D D' D2 D3:DS} {H:HL} {n k i l:Nat} {f f' f2 f3:Idx} {R R':List Nat} {c t:Int} {S b o cp l0:Nat}
def ArS.frmH (h:ArS w0 w Y D S b o cp l0 n f) {F:Nat->Prop} (e:Frm F w w') (hF:∀x,F x->w0.heap.size<=x/\¬Y.F x/\x≠b/\x≠S):ArS w0 w' Y D S b o cp l0 n f:=
 ⟨⟨h.L.dv.frm e (λx hx hf=>(hF x hf).2.1 hx),h.L.gd,Ext.frm h.L.ex e (λx hx=>(hF x hx).1),h.L.nw⟩,h.gl,h.st.frm e (λhf=>(hF _ hf).2.2.2 rfl),h.pl.frm e (λx hx hf=>by injection hx with hx;exact (hF _ hf).2.2.1 hx.symm),h.nS,h.nb,h.n0,h.lt⟩
def HSt.of_frm (Y:Lay) (fr:Frm (λx=>Y.F x\/x=H.rm\/x=H.hm\/x=H.b) w w'):HSt w Y H w' Y:=⟨rfl,rfl,fr.mono (λx hx=>by
 rcases hx with h|h|h|h
 ·exact .inl h
 ·exact .inr (.inr (.inr (.inl h)))
 ·exact .inr (.inr (.inr (.inr h)))
 ·exact .inr (.inl h)),λx hx=> .inl hx⟩
def HpG.put {Q Q':Nat->Prop} (h:HpG Q w0 w Y D H n f R) (fr:Frm (λx=>Y.F x\/x=H.rm\/x=H.hm\/x=H.b) w w') (ar:ArS w0 w' Y D H.S H.b H.o H.cp 26 n f') (rg:RgS D 26 n f') (mr:bN .u64 w' H.rm (rsL R')) (mh:∃L,bN .i64 w' H.hm L/\∀k,k<n->bV L ((26+32*k:Nat):Int)=if cnR R' k=0 then none else some (.int .i64 (cnR R' k:Int))) (nd:(R'.map pO).Nodup) (rv:∀p∈R',Q' p) (ho:∀k,k<n->(f' k).2.2=decide (cnR R' k≠0)):HpG Q' w0 w' Y D H n f' R':=by
 have sp:=h.sep;have hd:=h.dif;refine ⟨ar,rg,h.hp.frm fr (λhf=> ?_),h.lg.frm fr (λhf=> ?_),mr,mh,nd,rv,ho,h.er,h.idl,h.avm.imp id (λ⟨r,a,b,c⟩=>⟨r,a,b.frm fr (λhf=> ?_),c⟩),h.sep,h.dif,h.dt⟩
 ·rcases hf with e|e|e|e
  ·exact (sp _ (.inl rfl)).2.1 e
  ·exact hd.1 e
  ·exact hd.2.1 e
  ·exact (sp _ (.inl rfl)).2.2.1 e
 ·rcases hf with e|e|e|e
  ·exact (sp _ (.inr (.inr (.inr (.inl rfl))))).2.1 e
  ·exact hd.2.2.2.1 e
  ·exact hd.2.2.2.2.1 e
  ·exact (sp _ (.inr (.inr (.inr (.inl rfl))))).2.2.1 e
 ·rcases hf with e|e|e|e
  ·exact (sp _ (.inr (.inr (.inr (.inr a))))).2.1 e
  ·exact c.1 e
  ·exact c.2.1 e
  ·exact (sp _ (.inr (.inr (.inr (.inr a))))).2.2.1 e
def Ei (R:List Nat) (p j:Nat):cnR (R++ [p]) j=cnR R j+if hk p=j then 1 else 0:=by
 unfold cnR;rw [dr,aq];by_cases e:hk p=j
 ·simp [e]
 ·simp [e]
def ad3 {R:List Nat} {p:Nat} (h:rsB R (pO p)=false):setL (rsL R) (pO p:Int) (.int .u64 (p:Int))=rsL (R++ [p]):=by
 have hg:(bV (rsL R) (pO p:Int)).isSome=false:=by rw [aaf];exact h
 unfold setL;rw [if_neg (by rw [hg];simp)];unfold rsL;rw [cg];rfl
def ad4 {R:List Nat} {p:Nat} (hn:(R.map pO).Nodup) (h:rsB R (pO p)=false):((R++ [p]).map pO).Nodup:=by
 rw [cg,ce,gS];refine List.nodup_append.2 ⟨hn,by simp,λa ha b hb e=> ?_⟩;simp only [ab] at hb;subst hb;obtain ⟨q,hq,e2⟩:=List.mem_map.1 ha;have:rsB R (pO p)=true:=List.any_eq_true.2 ⟨q,hq,by simp [e2,e]⟩;rw [h] at this;cases this
def aiL (h:HpS w0 w Y D H n f R) (a:k<n) (h0:0<=(f k).1) (hi:(i:Int)<perS (f k).1) (hu:cM D R (26+32*k) (f k).1 i=false) (kd:Nat) (k0:kd≠0) (k7:kd<=127) {p:Nat} (hp:p=ptrN (pOff (26+32*k) (f k).1 i) (bG (wd D (26+32*k) (offN (f k).1 i))) kd) (hx:D.exe<1000000000) (hR:R.length<1000000) (K:K1)
  (hK:∀w' Y',HSt w Y H w' Y'->HpS w0 w' Y' (zeD D (26+32*k) (f k).1 i) H n (upF f k ((f k).1,(f k).2.1,true)) (R++ [p])->K (.tuple #[.int .u64 (p:Int),.int .i64 0]) w'):
  wm K (hpV H) (.int .i64 (f k).1) (.int .i64 0) (.int .u64 (p:Int)) (.int .i64 ((26+32*k:Nat):Int)) w:=by
 have M:=h.n4;have hc:=h.cls a;have c:=cY (l:=26+32*k) (i:=i) oM h0 hc.1 hi;have hG:=dJ (wd D (26+32*k) (offN (f k).1 i));have E:=Dr (pOff (26+32*k) (f k).1 i) (bG (wd D (26+32*k) (offN (f k).1 i))) kd c.2.1 hG k7 c.2.2 c.1;have hh:=mt (k:=k) (g:=bG (wd D (26+32*k) (offN (f k).1 i))) (kd:=kd) h0 hc.1 oM hi;rw [<-hp] at E hh;have a9:=bB h0 hc.1 (show 0<=(i:Int) by omega) hi;have hb:=aK h0 hc.1 hi;have hw:=aO h0 hc.1;have zr:=Eh h.rg a h0 hi;have zc:=um h.rg.on (l:=26+32*k) oM M.1 h0 hc.1 hi;have zw:=uq h.rg.on (l:=26+32*k) oM M.1 h0 hc.1 hi;have C:bf (wd D (26+32*k) 1) i=false/\rsB R (pOff (26+32*k) (f k).1 i)=false:=by
  unfold cM at hu;simpa using hu
 have O:bS (wd D (26+32*k) (offN (f k).1 i))=176:=by
  have:=(h.rg.sn k a h0).bit i (by have:=aN h0 hc.1;omega);rw [C.1,decide_eq_true hi,gp] at this;simpa using this
 have z:rsB R (pO p)=false:=by rw [hh.1];exact C.2
 have hz:=λ(K:K1) (hK:∀w' Y',Stp w Y w' Y' (zeD D (26+32*k) (f k).1 i)->K (.int .i64 0) w')=>ahT h h0 hc.1 E.1 (show p<18446744073709551616 by omega) (by rw [hh.1];exact c.1) (by rw [hh.1];unfold pOff;omega) hx K (by rw [hh.1];exact hK)
 have U:∀w' Y',Stp w Y w' Y' (zeD D (26+32*k) (f k).1 i)->HpS w0 w' Y' (zeD D (26+32*k) (f k).1 i) H n f R:=λw' Y' s=>by
  refine h.step s zr.2.1 zr.1 (λq hq=> ?_) (λj hj=> ?_) ?_
  ·have J:=(h.rv q hq).kn oM h.rg;refine (h.rv q hq).congr oM h.rg (.inl rfl) (λi' r _=> ?_);by_cases e:hk q=k
   ·rw [e] at r ⊢;exact zw.2.1 i' r
   ·exact zw.2.2 _ oM _ (aK J.2.1 (h.cls J.1).1 r).2.2
  ·by_cases e:j=0
   ·subst e;exact zc.1.err
   ·rw [show (zeD D (26+32*k) (f k).1 i).err j=D.err j from gD e _ _];exact h.er j hj
  ·rw [zc.2.1 0 (.inl oM)];exact h.idl
 have v:Rsv (zeD D (26+32*k) (f k).1 i) (upF f k ((f k).1,(f k).2.1,true)) n p:=by
  refine ⟨k,i,kd,a,by rw [cS];exact h0,by rw [cS];exact hi,?_,?_,k0,k7⟩
  ·rw [cS];simp only;rw [zw.2.1 i hi];exact hp
  ·rw [cS];simp only;rw [zw.2.1 i hi];exact O
 have u:∀w1 Y1 w' L,HSt w Y H w1 Y1->HpS w0 w1 Y1 (zeD D (26+32*k) (f k).1 i) H n f R->Frm (λx=>Y1.F x\/x=H.rm\/x=H.hm\/x=H.b) w1 w'->ArS w0 w' Y1 (zeD D (26+32*k) (f k).1 i) H.S H.b H.o H.cp 26 n (upF f k ((f k).1,(f k).2.1,true))->bN .u64 w' H.rm (rsL (R++ [p]))->bN .i64 w' H.hm (setL L ((26+32*k:Nat):Int) (.int .i64 ((cnR R k:Int)+1)))->(∀k,k<n->bV L ((26+32*k:Nat):Int)=if cnR R k=0 then none else some (.int .i64 (cnR R k:Int)))->K (.tuple #[.int .u64 (p:Int),.int .i64 0]) w':=λw1 Y1 w' L s1 h1 fr ar mr mh hL=>by
  refine hK w' Y1 (s1.trans (HSt.of_frm Y1 fr)) (h1.put fr ar ?_ mr ⟨_,mh,λj hj=> ?_⟩ (ad4 h.nd z) (λq hq=> ?_) (λj hj=> ?_))
  ·have ha:=h1.rg.ag k a;exact h1.rg.upd h1.rg.on h1.rg.gd rfl a (λ_ _ _ _ _=>rfl) ⟨ha.1,ha.2.1.symm,ha.2.2.symm⟩ (λX=>h1.rg.sn k a X) _
  ·rw [mu,Ei,hh.2,hL j hj];by_cases e:j=k
   ·subst e;rw [if_pos rfl,if_pos rfl,if_neg oM];rfl
   ·have e2:¬k=j:=λh=>e h.symm
    rw [if_neg e2,hY,if_neg (show ¬((26+32*j:Nat):Int)=((26+32*k:Nat):Int) by omega)]
  ·rcases List.mem_append.1 hq with hq|hq
   ·obtain ⟨k',i',B,a1,a2,a3,a4,a5,a6,a7⟩:=h1.rv q hq;by_cases e:k'=k
    ·subst e;exact ⟨k',i',B,a1,by rw [cS];exact a2,by rw [cS];exact a3,by rw [cS];exact a4,by rw [cS];exact a5,a6,a7⟩
    ·exact ⟨k',i',B,a1,by rw [dN _ _ e];exact a2,by rw [dN _ _ e];exact a3,by rw [dN _ _ e];exact a4,by rw [dN _ _ e];exact a5,a6,a7⟩
   ·simp only [ab] at hq;subst hq;exact v
  ·rw [Ei,hh.2];by_cases e:j=k
   ·subst e;rw [cS];simp
   ·rw [dN _ _ e,if_neg (λh=>e h.symm),hY];exact h.ho j hj
 have b0:cnR R k<=R.length:=by unfold cnR;exact al _ _
 have ep:(pO p:Int)=((pO p:Nat):Int):=rfl;clear hK v;generalize zeD D (26+32*k) (f k).1 i=DZ at*;have W:¬(f k).1<0:=oM;have t:∀(w1:aa) (K:K1),ae prog 20 #[.int .u64 (p:Int)] w1 K=K (.int .u64 ((pO p:Nat):Int)) w1:=λw1 K=>fN p w1 K oM
 rw [AY];unfold wn;refine zS0 ?_;refine hz _ (λw1 Y1 s1=> ?_);have h1:=U w1 Y1 s1;have u:=u w1 Y1;obtain ⟨L,hm,hL⟩:=h1.hd;have d:=h1.dif;have sp:=h1.sep;have V:(bV L ((26+32*k:Nat):Int)).getD (.int .i64 0)= .int .i64 (cnR R k:Int):=by
  rw [hL k a];by_cases e:cnR R k=0
  ·rw [if_pos e,e];rfl
  ·rw [if_neg e];rfl
 have q4:=h1.cell.2.2.2.2.1;have ltp:=h1.ltp
 (repeat' first|refine am (λ_=> ?_) (λ_=> ?_)|refine ao ?_ ?_|refine jm q4 t ?_|exact JR q4 t|fail)
 refine nI mTr (h1.rs.ext xZ) _ _ (λw2 m2 g2=> ?_);rw [ad3 z] at m2;have m:Frm (λx=>x=H.rm) w1 w2:=(Frm.of_ext (show Ext w1 w1.drew from Ext.drew (Ext.refl _))).trans g2 (λx _ e=>e);have y:=h1.hp.frm m d.1;have q5:w2.cell? ⟨H.p,5,none⟩=some (.map (some H.hm)):=y.cell (i:=5) oM;have G:=hm.frm m (λe=>d.2.2.1 e.symm);have N:∀(w3:aa) (K:K1),Ext w2 w3->ev prog (Instr.lookup 109 (.map (some H.hm)) (.int .i64 ((26+32*k:Nat):Int)) false) w3 K=K (.int .i64 (cnR R k:Int)) w3:=λw3 K e=>by rw [dY mTh (G.ext e),V]
 have a8:=y.lt;refine jm q5 N ?_;refine nI mTh (G.ext xZ) _ _ (λw3 m3 g3=> ?_);have A:Frm (λx=>x=H.rm\/x=H.hm) w1 w3:=(m.mono (λx hx=> .inl hx)).trans g3 (λx _ e=> .inr e);have I:=y.frm g3 d.2.1;have T:=m2.frm g3 d.2.2.1;have P:=h1.ar.frmH A (λx hx=>hx.elim (λe=>sp x (.inr (.inl e))) (λe=>sp x (.inr (.inr (.inl e)))));have q3:w3.cell? ⟨H.p,3,none⟩=some (stV H.S):=I.cell (i:=3) oM;have a0:=I.lt;have Q:=λK h8 hK=>aac P a true K h8 hK
 refine jI q3 ?_;refine Q _ (λe=>absurd e W) (λ_ w4 a4 Z=> ?_);refine u w4 L (HSt.of_stp H s1) h1 ((A.mono (λx hx=> .inr (hx.elim .inl (λe=> .inr (.inl e))))).trans a4.frm (λx _ hx=>hx.elim .inl (λe=> .inr (.inr (.inr e))))) Z (T.frm a4.frm ?_) (m3.frm a4.frm ?_) hL
 ·exact λhf=>hf.elim (sp _ (.inr (.inl rfl))).2.1 (sp _ (.inr (.inl rfl))).2.2.1
 ·exact λhf=>hf.elim (sp _ (.inr (.inr (.inl rfl)))).2.1 (sp _ (.inr (.inr (.inl rfl)))).2.2.1
def yp.clean {l0 g:Nat} (h:yp D l0 n f c t D2 f2 k g) (c0:0<=c) (c5:c<5):wd D2 (l0+32*k) 1=0:=by
 rw [h.own 1 oM];unfold jQ;rw [if_neg oM];have:isB c 1=false:=by
  cases hb:isB c 1 with
  |false=>rfl
  |true=>
   obtain ⟨i,hi,e⟩:=nG.1 hb;have:=aK c0 c5 (i:=i) oM;omega
 rw [this,if_neg (by simp),if_pos oM]
def ad5 {R:List Nat} {c:Int} (c0:0<=c) (c5:c<5) (hl:26+32*k<=4096) (hi:(i:Int)<perS c) (h:cnR R k=0):rsB R (pOff (26+32*k) c i)=false:=by
 cases hb:rsB R (pOff (26+32*k) c i) with
 |false=>rfl
 |true=>
  obtain ⟨q,hq,e⟩:=List.any_eq_true.1 hb;have e:pO q=pOff (26+32*k) c i:=by simpa using e
  have hh:=mt (k:=k) (g:=0) (kd:=0) c0 c5 hl hi;have:hk q=k:=by
   rw [<-hh.2];unfold hk;rw [e,hh.1]
  have:=Eg hq
  simp_all
def sM (h:HpS w0 w Y D H n f R) (A:H.av=none) {x:Int} (t0:0<=t) (t8:t<8) (x1:1<=x) (x60:x<=60) (kd:Nat) (k0:kd≠0) (k7:kd<=127) (hx:D.exe<900000000) (hR:R.length<1000000) (K:K1)
  (N:(∀k,k<n->(f k).2.1=t->(f k).1=clsN x->∀i:Nat,(i:Int)<perS (clsN x)->cM D R (26+32*k) (clsN x) i=true)->(∀j,j<n->¬(f j).1<0)->(∀j,j<n->emG D 26 f j=none)->∀w' Y',HSt w Y H w' Y'->HpS w0 w' Y' D H n f R->K (.tuple #[.int .u64 ((0:Nat):Int),.int .i64 4]) w')
  (F:∀D2 f2 D3 f3 p k i,qe D f R n H.avl t (clsN x) kd D2 f2 D3 f3 p k i->∀w' Y',HSt w Y H w' Y'->HpS w0 w' Y' D3 H n f3 (R++ [p])->K (.tuple #[.int .u64 (p:Int),.int .i64 0]) w'):
  ae prog 15 #[hpV H,.int .i64 t,.int .i64 x,.int .u8 (kd:Int)] w K:=by
 have S:=h.n4;have d:=kP x;have Q:=aN d.1 d.2;have q0:=h.cell.1;have ltp:=h.ltp;have P:=h.erE;have hA:H.avl= []:=by
  rcases h.avm with ⟨_,b⟩|⟨r,a,_⟩
  ·exact b
  ·rw [A] at a;cases a
 have C:∀(w1:aa) (K:K1),ae prog 64 #[.int .i64 t,.int .i64 x,.int .u8 (kd:Int)] w1 K=K (.int .i64 0) w1:=λw1 K=>by
  rw [tr t x kd oM w1 K,if_pos ⟨t0,t8,x1,k0,k7⟩,if_pos x60]
 have E:=λ(w1:aa) (e:Ext w w1) (K:K1) hK=>aae (h.gl.ext e) x x1 x60 K hK
 generalize clsN x=c at*;have o:∀(w1:aa) (Y1:Lay) (D2:DS) (f2:Idx) (k i p:Nat),HSt w Y H w1 Y1->HpS w0 w1 Y1 D2 H n f2 R->k<n->(i:Int)<perS c->(f2 k).1=c->(f2 k).2.1=t->cM D2 R (26+32*k) c i=false->(∀j,j<i->cM D2 R (26+32*k) c j=true)->D2.n=D.n->D2.exe<=D.exe+210->(Cln D.co->Cln D2.co)->((D2=D/\f2=f/\((26+32*k:Nat):Int)∉H.avl)\/((∃g,yp D 26 n f c t D2 f2 k g)/\cnR R k=0/\∀k,k<n->(f k).2.1=t->(f k).1=c->((26+32*k:Nat):Int)∉H.avl->∀i:Nat,(i:Int)<perS c->cM D R (26+32*k) c i=true))->p=ptrN (pOff (26+32*k) c i) (bG (wd D2 (26+32*k) (offN c i))) kd->wm K (hpV H) (.int .i64 c) (.int .i64 0) (.int .u64 (p:Int)) (.int .i64 ((26+32*k:Nat):Int)) w1:=by
  intro w1 Y1 D2 f2 k i p s1 h1 m hi hc ht hu l q y u O hp;have zr:=Eh h1.rg m (by rw [hc];exact d.1) (i:=i) (by rw [hc];exact hi);have:=aiL h1 m (by rw [hc];exact d.1) (i:=i) (by rw [hc];exact hi) (by rw [hc];exact hu) kd k0 k7 (p:=p) (by rw [hc];exact hp) oM hR K (λw' Y' s h2=>F D2 f2 _ _ p k i ⟨m,d.1,d.2,hi,O,hc,ht,hu,l,hp,h1.rg,by rw [hc],by rw [hc,ht],zr.2.1.trans q,by have:=zr.2.2.1;omega,λhh=>zr.2.2.2 (u hh)⟩ w' Y' (s1.trans s) h2);rw [hc] at this;exact this
 refine Y0 _ _ _ _ _ _ ?_;unfold afy;refine ia C q0 P ?_;refine E _ xZ _ ?_;refine zS0 ?_;refine aag h t0 d.1 kd k0 k7 _ (λhu w1 e1=> ?_) (λk m ht hc I i hi hu l w1 e1=> ?_)
 ·have h1:=h.ext e1;refine zS0 ?_;refine aak h1 A t0 t8 d.1 d.2 oM _ (λa b w2 Y2 s2 h2=> ?_) (λD2 f2 k g ok y q u z w2 Y2 s2 h2=> ?_)
  ·refine zS4 @si @p8.eq_1 @AY @wn.eq_1 ?_;exact N (λk hk ht hc=>hu k hk ht hc (by rw [hA];simp)) a b w2 Y2 ((HSt.of_ext Y H e1).trans s2) h2
  ·have G:=(HSt.of_ext Y H e1).trans s2;have v:(f2 k).1=c:=by rw [ok.fe,cS]
   have J:(f2 k).2.1=t:=by rw [ok.fe,cS]
   have B:=λK=>GQ h2 ok.kn (by rw [v];exact d.1) kd k0 k7 K
   rw [v] at B;have L:cM D2 R (26+32*k) c 0=false:=by
    unfold cM;rw [ok.clean d.1 d.2,ad5 d.1 d.2 (by have:=ok.kn;omega) (show ((0:Nat):Int)<perS c by omega) z];rfl
   refine zS0 ?_;refine B _ (λhn=> ?_) (λi hi M l w3 e3=> ?_)
   ·have:=hn 0 oM;rw [L] at this;cases this
   ·refine zS2 @si @p8.eq_1 ?_;exact o w3 Y2 D2 f2 k i _ (G.ext e3) (h2.ext e3) ok.kn hi v J M l q y u (.inr ⟨⟨g,ok⟩,z,hu⟩) rfl
 ·refine zS2 @si @p8.eq_1 ?_;exact o w1 Y D f k i _ (HSt.of_ext Y H e1) (h.ext e1) m hi hc ht hu l rfl oM id (.inl ⟨rfl,rfl,I⟩) rfl
end
def Ej (D:DS) (f:Idx) (n p k i:Nat):Prop:=k<n/\0<=(f k).1/\(i:Int)<perS (f k).1/\p=ptrN (pOff (26+32*k) (f k).1 i) (bG (wd D (26+32*k) (offN (f k).1 i))) (bK (wd D (26+32*k) (offN (f k).1 i)))/\bS (wd D (26+32*k) (offN (f k).1 i))=177
def Liv (D:DS) (f:Idx) (n p:Nat):Prop:=∃k i,Ej D f n p k i
def ad6 {p:Nat} (h:p<72057594037927936):p=ptrN (pO p) (pG p) (pK p):=by unfold ptrN pO pG pK;omega
def Snd.live {D:DS} {l i:Nat} {c o:Int} (h:Snd D l c o) (c0:0<=c) (c5:c<5) (hi:(i:Int)<perS c) (a:bS (wd D l (offN c i))=177):isS (wd D l (offN c i))=true/\bf (wd D l 1) i=true/\bG (wd D l (offN c i))≠0/\bK (wd D l (offN c i))≠0/\bK (wd D l (offN c i))<=127:=by
 have hp:=aN c0 c5;have hg:=h.gd i hi;rw [a] at hg;have:=OJ hg;refine ⟨h.sl i hi,?_,this⟩;rw [h.bit i oM,decide_eq_true hi,a];rfl
section
variable {w0 w w' w'':aa} {Y Y' Y'':Lay} {D D' D2 D3:DS} {H:HL} {n k i l p:Nat} {f f' f2 f3:Idx} {R R':List Nat} {c t:Int}
def Ej.sp (h:Ej D f n p k i) (hn:26+32*n<=4096) (rg:RgS D 26 n f):pO p=pOff (26+32*k) (f k).1 i/\hk p=k/\p≠0/\p<72057594037927936/\pG p=bG (wd D (26+32*k) (offN (f k).1 i))/\pK p=bK (wd D (26+32*k) (offN (f k).1 i))/\pK p≠0:=by
 obtain ⟨a1,a2,a3,a4,a5⟩:=h;have hc:=rg.cls a1;have hl:=(rg.sn k a1 a2).live a2 hc.1 a3 a5;have hh:=mt (k:=k) (g:=bG (wd D (26+32*k) (offN (f k).1 i))) (kd:=bK (wd D (26+32*k) (offN (f k).1 i))) a2 hc.1 oM a3;have a:=cY (l:=26+32*k) oM a2 hc.1 a3;have hg:=dJ (wd D (26+32*k) (offN (f k).1 i));have b:=Dr (pOff (26+32*k) (f k).1 i) (bG (wd D (26+32*k) (offN (f k).1 i))) (bK (wd D (26+32*k) (offN (f k).1 i))) a.2.1 hg hl.2.2.2.2 a.2.2 a.1;have h1:=vZ (pOff (26+32*k) (f k).1 i) (bG (wd D (26+32*k) (offN (f k).1 i))) (bK (wd D (26+32*k) (offN (f k).1 i))) a.2.1 hg;have h2:=KY (pOff (26+32*k) (f k).1 i) (bG (wd D (26+32*k) (offN (f k).1 i))) (bK (wd D (26+32*k) (offN (f k).1 i))) a.2.1 hg oM;rw [<-a4] at hh b h1 h2;exact ⟨hh.1,hh.2,b.1,b.2,h1,h2,by rw [h2];exact hl.2.2.2.1⟩
def kS {k i n:Nat} {c:Int} (c0:0<=c) (c5:c<5) (hi:(i:Int)<perS c):1664<=pOff (26+32*k) c i/\(pOff (26+32*k) c i-1664)/2048=k:=by
 have a:=bB c0 c5 (show 0<=(i:Int) by omega) hi;have hb:=aK c0 c5 hi;have hw:=aO c0 c5;unfold pOff;omega
def HpG.home {Q:Nat->Prop} (h:HpG Q w0 w Y D H n f R) {x:Nat} (hx:x<18446744073709551616):∀(w1:aa) (K:K1),Ext w w1->ae prog 74 #[hpV H,.int .u64 (x:Int)] w1 K=K (if 1664<=x/\(x-1664)/2048<n then .tuple #[.int .i64 ((26+32*((x-1664)/2048):Nat):Int),.bool true] else .tuple #[.int .i64 0,.bool false]) w1:=λw1 K e=>by
 have hn:=h.n4;exact aad ((h.ext e).cell.2.1) ((h.ext e).cell.2.2.1) oM hx K
def Ek (h:HpS w0 w Y D H n f R) (m:k<n) (h0:0<=(f k).1) (hi:(i:Int)<perS (f k).1) (hp:p<18446744073709551616) (b:pO p=pOff (26+32*k) (f k).1 i) (K:K1)
  (hK:∀w',Ext w w'->K (.tuple #[.int .i64 ((26+32*k:Nat):Int),.int .i64 (i:Int),.int .i64 (f k).1]) w'):
  ae prog 84 #[hpV H,.int .u64 (p:Int)] w K:=by
 have B:=h.n4;have hc:=h.cls m;have d:=kS (k:=k) (n:=n) h0 hc.1 hi;have hG:=h.gl;have s:pO p<18446744073709551616:=by unfold pO;omega
 have r:=h.home s;rw [b,if_pos ⟨d.1,by rw [d.2];exact m⟩,d.2] at r;have g:∀(w1:aa) (K:K1),ae prog 20 #[.int .u64 (p:Int)] w1 K=K (.int .u64 ((pOff (26+32*k) (f k).1 i:Nat):Int)) w1:=λw1 K=>by rw [fN p w1 K hp,b]
 have x:=h.open m h0;have y:=bB h0 hc.1 (show 0<=(i:Int) by omega) hi;have hb:=aK h0 hc.1 hi;have q0:=h.cell.1;have ltp:=h.ltp;have e1:pOff (26+32*k) (f k).1 i-(26+32*k)*64=offN (f k).1 i*8+8:=by unfold pOff;omega
 have e2:(offN (f k).1 i*8+8)/8=offN (f k).1 i+1:=oM;have z:(26+32*k)*64<=pOff (26+32*k) (f k).1 i:=by unfold pOff;omega
 have C:pOff (26+32*k) (f k).1 i<18446744073709551616:=by rw [<-b];exact s
 have A:26+32*k<=4096:=oM;have q:=λ(w1:aa) (e:Ext w w1) (K:K1) o hyes=>X0 (w:=w1) (hG.ext e) h0 hc.1 (offN (f k).1 i+1) (by have:=bB h0 hc.1 (show 0<=(i:Int) by omega) hi;have:=aO h0 hc.1;omega) K o hyes
 have v:∀j:Nat,offN (f k).1 i+1=offN (f k).1 j+1->j=i:=λj hj=>me h0 hc.1 oM
 generalize (f k).1=c at*;generalize (f k).2.1=oo at*;generalize gX (wd D (26+32*k) 0)=gg at*;generalize 26+32*k=l at*;generalize pOff l c i=po at*;generalize hof:offN c i=of at*;refine ZK _ _ _ _ ?_;unfold afV;refine ia g r q0 ?_;refine x _ _ xZ (λw1 u=> ?_);have hN:=ah.new w1 [Value.iface 31 (.pointer (some ⟨Y.tb 0,0,none⟩)),.int .i64 (l:Int),.int .i64 c,.int .i64 oo,.int .u16 (gg:Int)] 134;have t:∀(w2:aa) (K:K1),ae prog 136 #[chV Y l c oo gg] w2 K=K (.int .i64 c) (w2.alloc (chO Y l c oo gg)):=λw2 K=>Di K
 have a:=chD hN;have d0:=a.1;have d1:=a.2.1;have d2:=a.2.2.1;have d3:=a.2.2.2.1;have d4:=a.2.2.2.2;refine vf g t e1 e2 ?_;refine q _ (Ext.trans u xZ) _ (λo=>(o i hi (by rw [hof])).elim) (λj hj he=> ?_);have:=v j he;subst this;refine jI t ?_;exact hK _ (u.trans xZ)
end
section
variable {w0 w w' w'':aa} {Y Y' Y'':Lay} {D D' D2 D3:DS} {H:HL} {n k i l p:Nat} {f f' f2 f3:Idx} {R R':List Nat} {c t:Int}
def Ej.at_ (h:Ej D f n p k i) (hn:26+32*n<=4096) (rg:RgS D 26 n f):1664<=pO p/\(pO p-1664)/2048=k/\p≠0/\p<72057594037927936/\pO p=pOff (26+32*k) (f k).1 i:=by
 have a:=h.sp hn rg;have b:=kS (k:=k) (n:=n) h.2.1 (rg.cls h.1).1 h.2.2.1;rw [<-a.1] at b;exact ⟨b.1,b.2,a.2.2.1,a.2.2.2.1,a.1⟩
def El {k i j:Nat} {c:Int} (c0:0<=c) (c5:c<5) (h:pOff l c i=pOff l c j):i=j:=by
 unfold pOff at h;exact me c0 c5 oM
def gQ (h:HpS w0 w Y D H n f R) (hp:p<18446744073709551616) (kd:Nat) (L:kd<256) (K:K1)
  (hL:Liv D f n p->∀w',Ext w w'->K (.int .i64 (if kd=0\/kd=pK p then 0 else 13)) w')
  (hN:¬Liv D f n p->∀e:Int,e≠0->(Rsv D f n p->e=12)->∀w',Ext w w'->K (.int .i64 e) w'):
  ae prog 21 #[hpV H,.int .u64 (p:Int),.int .u8 (kd:Int)] w K:=by
 have N:=h.n4;have hG:=h.gl;have G:pO p<18446744073709551616:=by unfold pO;omega
 have m:=h.home G;have q:=h.erE;have q0:=h.cell.1;have ltp:=h.ltp;have o:∀(w1:aa) (K:K1),ae prog 20 #[.int .u64 (p:Int)] w1 K=K (.int .u64 ((pO p:Nat):Int)) w1:=λw1 K=>fN p w1 K hp
 have g:∀(w1:aa) (K:K1),ae prog 73 #[.int .u64 (p:Int)] w1 K=K (.bool (decide (p=0))) w1:=λw1 K=>mg p w1 K hp
 have u:∀(w1:aa) (K:K1),ae prog 60 #[.int .u64 (p:Int)] w1 K=K (.int .u8 ((pK p:Nat):Int)) w1:=λw1 K=>gB p w1 K hp
 have J:pK p<256:=by unfold pK;omega
 have rz:Rsv D f n p->1664<=pO p/\(pO p-1664)/2048<n/\p≠0/\p<72057594037927936/\∃k i:Nat,(pO p-1664)/2048=k/\0<=(f k).1/\(i:Int)<perS (f k).1/\pO p=pOff (26+32*k) (f k).1 i/\bS (wd D (26+32*k) (offN (f k).1 i))=176:=λr=>by
  have a:=r.kn oM h.rg;obtain ⟨a1,a2,a3,a4,i,a5,a6,a7⟩:=a;have b:=kS (k:=hk p) (n:=n) a2 (h.cls a1).1 a5;rw [<-a6] at b;exact ⟨b.1,by omega,a3,a4,_,i,b.2,a2,a5,a6,a7⟩
 by_cases p0:p=0
 ·have y:∀(w1:aa) (K:K1),ae prog 73 #[.int .u64 (p:Int)] w1 K=K (.bool true) w1:=λw1 K=>by rw [g,decide_eq_true p0]
  refine mn _ _ _ _ _ ?_;unfold AZ
  (repeat' first|refine am (λ_=> ?_) (λ_=> ?_)|refine ao ?_ ?_|refine jI y ?_|exact yh y|fail)
  exact hN (λ⟨k,i,hl⟩=>(hl.at_ oM h.rg).2.2.1 p0) 1 oM (λr=>((rz r).2.2.1 p0).elim) _ xZ
 by_cases hin:1664<=pO p/\(pO p-1664)/2048<n
 ·rw [if_pos hin] at m;by_cases h56:p<72057594037927936
  ·have hd0:p/72057594037927936=0:=oM;obtain ⟨k,I⟩:∃k,(pO p-1664)/2048=k:=⟨_,rfl⟩;have x:k<n:=oM;rw [I] at m;have M:26+32*k<=4096:=oM;by_cases h0:0<=(f k).1
   ·have hc:=h.cls x;have z:=h.open x h0;have E:=λ(w1:aa) (e:Ext w w1) (K:K1) a1 a2 a3 a4 a5=>adC ((h.cx x h0).ext e) (h.er 0 oM) (f k).2.1 (gX (wd D (26+32*k) 0)) p hp K a1 a2 a3 a4 a5
    have nl:(∀i:Nat,(i:Int)<perS (f k).1->pO p≠pOff (26+32*k) (f k).1 i)->¬Liv D f n p/\¬Rsv D f n p:=λC=>⟨λ⟨k',i',hl⟩=>by
      have a:=hl.at_ oM h.rg;have e:k'=k:=oM;subst e;exact C i' hl.2.2.1 a.2.2.2.2,λr=>by
      obtain ⟨_,_,_,_,k',i',b1,b2,b3,b4,_⟩:=rz r;have e:k'=k:=oM;subst e;exact C i' b3 b4⟩
    have B:∀i:Nat,(i:Int)<perS (f k).1->pO p=pOff (26+32*k) (f k).1 i->¬(vW D (26+32*k) (f k).1 i (pG p)/\bK (wd D (26+32*k) (offN (f k).1 i))=pK p)->¬Liv D f n p:=λi hi j A=>λ⟨k',i',hl⟩=>by
     have a:=hl.at_ oM h.rg;have e:k'=k:=oM;subst e;have e:i=i':=El (k:=0) h0 hc.1 (j.symm.trans a.2.2.2.2);subst e;have s:=hl.sp oM h.rg;have v:=(h.rg.sn k' x h0).live h0 hc.1 hi hl.2.2.2.2;exact A ⟨⟨v.1,v.2.1,hl.2.2.2.2,s.2.2.2.2.1.symm⟩,s.2.2.2.2.2.1.symm⟩
    have rv:∀i:Nat,(i:Int)<perS (f k).1->pO p=pOff (26+32*k) (f k).1 i->vW D (26+32*k) (f k).1 i (pG p)->¬Rsv D f n p:=λi hi j hl r=>by
     obtain ⟨_,_,_,_,k',i',b1,b2,b3,b4,b5⟩:=rz r;have e:k'=k:=oM;subst e;have e:i=i':=El (k:=0) h0 hc.1 (j.symm.trans b4);subst e;have:=hl.2.2.1;omega
    have lv:∀i:Nat,(i:Int)<perS (f k).1->pO p=pOff (26+32*k) (f k).1 i->vW D (26+32*k) (f k).1 i (pG p)->bK (wd D (26+32*k) (offN (f k).1 i))=pK p->Liv D f n p:=λi hi j hl hk=>by
     refine ⟨k,i,x,h0,hi,?_,hl.2.2.1⟩;rw [hk,hl.2.2.2,<-j];exact ad6 h56
    generalize hll:26+32*k=l at*;generalize (f k).1=c at*;generalize (f k).2.1=oo at*;generalize gX (wd D l 0)=gg at*;refine mn _ _ _ _ _ ?_;unfold AZ
    (repeat' first|refine am (λ_=> ?_) (λ_=> ?_)|refine ao ?_ ?_|refine gH g p0 q q0 o m hd0 hd0 ?_|exact yi g p0 q q0 o m hd0 hd0|fail)
    refine z _ _ xZ (λw1 d=> ?_);have h1:=(h.ext d).cell.1;have F:=(h.ext d).ltp;refine jm h1 q ?_;refine E _ (d.trans xZ) _ (λhz=>(p0 hz).elim) (λ_ hr w2 e2=> ?_) (λ_ _ i hi j A w2 e2=> ?_) (λ_ _ i hi j hl hk w2 e2=> ?_) (λ_ _ i hi j hl hk w2 e2=> ?_)
    ·have hr:∀k:Nat,(k:Int)<perS c->pO p≠pOff l c k:=hr.resolve_left oM;refine Rr ?_;exact hN (nl hr).1 2 oM (λr=>((nl hr).2 r).elim) _ (d.trans (Ext.trans xZ e2))
    ·refine Rr ?_;exact hN (B i hi j (λa=>A a.1)) 12 oM (λ_=>rfl) _ (d.trans (Ext.trans xZ e2))
    ·refine Rr ?_;exact hN (B i hi j (λa=>hk a.2)) 13 oM (λr=>(rv i hi j hl r).elim) _ (d.trans (Ext.trans xZ e2))
    ·have t:=hL (lv i hi j hl hk);by_cases t1:kd=0
     ·rw [if_pos (.inl t1)] at t
      (repeat' first|refine am (λ_=> ?_) (λ_=> ?_)|refine ao ?_ ?_|refine jm t1 u ?_|exact JR t1 u|fail)
      exact t _ (d.trans (Ext.trans xZ e2))
     ·by_cases t2:kd=pK p
      ·rw [if_pos (.inr t2)] at t
       (repeat' first|refine am (λ_=> ?_) (λ_=> ?_)|refine ao ?_ ?_|refine ia t1 u t2 ?_|exact Fp t1 u t2|fail)
       all_goals exact t _ (d.trans (Ext.trans xZ e2))
      ·rw [if_neg (λa=>a.elim t1 t2)] at t
       (repeat' first|refine am (λ_=> ?_) (λ_=> ?_)|refine ao ?_ ?_|refine ia t1 u t2 ?_|exact Fp t1 u t2|fail)
       exact t _ (d.trans (Ext.trans xZ e2))
   ·have z:=h.openZ x oM;have nl:¬Liv D f n p:=λ⟨k',i',hl⟩=>by
     have a:=hl.at_ oM h.rg;have e:k'=k:=oM;subst e;exact h0 hl.2.1
    have nr:¬Rsv D f n p:=λr=>by
     obtain ⟨_,_,_,_,k',i',b1,b2,_⟩:=rz r;have e:k'=k:=oM;subst e;exact h0 b2
    generalize hll:26+32*k=l at*;refine mn _ _ _ _ _ ?_;unfold AZ
    (repeat' first|refine am (λ_=> ?_) (λ_=> ?_)|refine ao ?_ ?_|refine gH g p0 q q0 o m hd0 hd0 ?_|exact yi g p0 q q0 o m hd0 hd0|fail)
    refine z _ _ xZ (λw1 d=> ?_);have h1:=(h.ext d).cell.1;have F:=(h.ext d).ltp;refine jm h1 q ?_;exact hN nl 2 oM (λr=>(nr r).elim) _ (d.trans xZ)
  ·have hd0:¬p/72057594037927936=0:=oM;generalize 26+32*((pO p-1664)/2048)=l at*;refine mn _ _ _ _ _ ?_;unfold AZ
   (repeat' first|refine am (λ_=> ?_) (λ_=> ?_)|refine ao ?_ ?_|refine gH g p0 q q0 o m hd0 hd0 ?_|exact yi g p0 q q0 o m hd0 hd0|fail)
   exact hN (λ⟨k,i,hl⟩=>h56 (hl.at_ oM h.rg).2.2.2.1) 2 oM (λr=>(h56 (rz r).2.2.2.1).elim) _ xZ
 ·rw [if_neg hin] at m;refine mn _ _ _ _ _ ?_;unfold AZ
  (repeat' first|refine am (λ_=> ?_) (λ_=> ?_)|refine ao ?_ ?_|refine fJ g p0 q q0 o m ?_|exact adg g p0 q q0 o m|fail)
  exact hN (λ⟨k,i,hl⟩=>by
   have a:=hl.at_ oM h.rg;exact hin ⟨a.1,by rw [a.2.1];exact hl.1⟩) 2 oM (λr=>(hin ⟨(rz r).1,(rz r).2.1⟩).elim) _ xZ
def mv (h:HpS w0 w Y D H n f R) (hr:∀p∈R,p<18446744073709551616) (u:k<n) (h0:0<=(f k).1) (hi:(i:Int)<perS (f k).1) (hp:p<18446744073709551616) (p0:p≠0) (r:pO p=pOff (26+32*k) (f k).1 i) (hq:p∈R\/Liv D f n p) (K:K1)
  (hK:∀w',Ext w w'->K (.tuple #[.int .i64 (wordsS (f k).1),.int .i64 0]) w'):
  ae prog 29 #[hpV H,.int .u64 (p:Int)] w K:=by
 have g:=h.erE;have q0:=h.cell.1;have ltp:=h.ltp;have hG:=h.gl;have q:∀(w1:aa) (K:K1),ae prog 73 #[.int .u64 (p:Int)] w1 K=K (.bool (decide (p=0))) w1:=λw1 K=>mg p w1 K hp
 have v:=λ(w1:aa) (e:Ext w w1) (K:K1) hK=>k_holds (h.ext e) hr p hp K hK
 have s:=λ(w1:aa) (e:Ext w w1) (K:K1) (a:Liv D f n p->∀w',Ext w1 w'->K (.int .i64 0) w') b=>gQ (h.ext e) hp 0 oM K (λhl w' e'=>by rw [if_pos (.inl rfl)];exact a hl w' e') b
 have o:=λ(w1:aa) (e:Ext w w1) (K:K1) hK=>Ek (h.ext e) u h0 hi hp r K hK
 have m:∀(w1:aa) (K:K1),Ext w w1->ae prog 85 #[.int .i64 (f k).1] w1 K=K (.int .i64 (wordsS (f k).1)) w1:=λw1 K e=>tY _ w1 K (hG.ext e)
 generalize hcc:(f k).1=c at o m hK;refine Y9 _ _ _ _ ?_;unfold afC
 (repeat' first|refine am (λ_=> ?_) (λ_=> ?_)|refine ao ?_ ?_|refine vf q p0 g q0 ?_|exact adf q p0 g q0|fail)
 refine v _ xZ _ (λw1 e1=> ?_);have j:Ext w w1:=Ext.trans xZ e1;by_cases t1:p∈R
 ·(repeat' first|refine am (λ_=> ?_) (λ_=> ?_)|refine ao ?_ ?_|refine jI t1 ?_|exact yh t1|fail)
  rw [Ba];unfold wq;refine zS0 ?_;refine o _ (j.trans xZ) _ (λw2 e2=> ?_);have d:Ext w w2:=j.trans (Ext.trans xZ e2);have x:=(h.ext d).cell.1;have y:=(h.ext d).ltp;refine ia g x m ?_;exact hK _ (d.trans xZ)
 ·have hl:=hq.resolve_left t1
  (repeat' first|refine am (λ_=> ?_) (λ_=> ?_)|refine ao ?_ ?_|refine jI t1 ?_|exact yh t1|fail)
  refine s _ (j.trans xZ) _ (λ_ w2 e2=> ?_) (λnl=>(nl hl).elim);have d:Ext w w2:=j.trans (Ext.trans xZ e2);refine Rr ?_;rw [Ba];unfold wq;refine zS0 ?_;refine o _ (d.trans xZ) _ (λw3 e3=> ?_);have l:Ext w w3:=d.trans (Ext.trans xZ e3);have t:=(h.ext l).cell.1;have z:=(h.ext l).ltp;refine ia g t m ?_;exact hK _ (l.trans xZ)
end
def rmR (R:List Nat) (p:Nat):List Nat:=R.filter λq=> !decide (q=p)
def FS (f f2:Idx):Prop:=∀k,(f2 k).1=(f k).1/\(f2 k).2.1=(f k).2.1
def FS.refl (f:Idx):FS f f:=λ_=>⟨rfl,rfl⟩
def FS.trans {f f2 f3:Idx} (h:FS f f2) (k:FS f2 f3):FS f f3:=λj=>⟨(k j).1.trans (h j).1,(k j).2.trans (h j).2⟩
section
variable {w0 w w' w'':aa} {Y Y' Y'':Lay} {D D' D2 D3:DS} {H:HL} {n k i l p q:Nat} {f f' f2 f3:Idx} {R R':List Nat} {c t:Int}
def FS.liv (h:FS f f2):Liv D f2 n p↔Liv D f n p:=by
 have e:∀k,(f2 k).1=(f k).1:=λk=>(h k).1
 unfold Liv Ej;constructor<;>rintro ⟨k,i,h⟩<;>exact ⟨k,i,by simpa only [e] using h⟩
def FS.rsv (h:FS f f2):Rsv D f2 n p↔Rsv D f n p:=by
 have e:∀k,(f2 k).1=(f k).1:=λk=>(h k).1
 unfold Rsv;constructor<;>rintro ⟨k,i,kd,h⟩<;>exact ⟨k,i,kd,by simpa only [e] using h⟩
def ahV:q∈rmR R p↔q∈R/\q≠p:=by unfold rmR;simp
def aam (h:p∉R):rmR R p=R:=List.filter_eq_self.2 λq hq=>by
 have:q≠p:=λe=>h (e▸hq)
 simp [this]
def sO:∀{R:List Nat},(R.map pO).Nodup->∀{p q:Nat},p∈R->q∈R->pO p=pO q->p=q:=by
 intro R
 induction R with
 |nil=>intro _ p q h;cases h
 |cons x L ih=>
  intro hn a b ha hb e;rw [ce,bq] at hn;rcases List.mem_cons.1 ha with h1|ha
  ·rcases List.mem_cons.1 hb with h2|hb
   ·rw [h1,h2]
   ·exact (hn.1 (List.mem_map.2 ⟨b,hb,by rw [<-e,h1]⟩)).elim
  ·rcases List.mem_cons.1 hb with h2|hb
   ·exact (hn.1 (List.mem_map.2 ⟨a,ha,by rw [e,h2]⟩)).elim
   ·exact ih hn.2 ha hb e
def aiM (hn:(R.map pO).Nodup) (hp:p∈R):DO (rsL R) (pO p:Int)=rsL (rmR R p):=by
 unfold DO rsL rmR;rw [List.filter_map]
 congr 1
 refine ef λq hq=> ?_
 simp only [Function.comp];have:((pO q:Int)=(pO p:Int))↔q=p:=by
  constructor
  ·intro e;exact sO hn hq hp oM
  ·rintro rfl;rfl
 rw [decide_eq_decide.2 this]
def aiN:∀{R:List Nat},R.Nodup->p∈R->∀j,cnR R j=cnR (rmR R p) j+if hk p=j then 1 else 0:=by
 intro R
 induction R with
 |nil=>intro _ h;cases h
 |cons x R ih=>
  intro hn hp j;rw [bq] at hn;by_cases e:x=p
  ·subst e;have e1:rmR (x::R) x=R:=by
    have:=aam hn.1;unfold rmR at this ⊢;rw [ct];simp [this]
   rw [e1];unfold cnR;rw [ct];by_cases e2:hk x=j
   ·simp [e2]
   ·simp [e2]
  ·have a:p∈R:=by
    rcases List.mem_cons.1 hp with h|h
    ·exact absurd h.symm e
    ·exact h
   have i:=ih hn.2 a j;have e1:rmR (x::R) p=x::rmR R p:=by unfold rmR;rw [ct];simp [e]
   rw [e1];unfold cnR at i ⊢;rw [ct,ct];by_cases e2:hk x=j
   ·simp only [e2,decide_true,if_true,dk];omega
   ·simp only [e2,decide_false,eb,if_false];exact i
def aiO (hn:(R.map pO).Nodup):((rmR R p).map pO).Nodup:=List.Nodup.sublist (List.Sublist.map _ eP) hn
def aan (h:(R.map pO).Nodup):R.Nodup:=by
 induction R with
 |nil=>simp
 |cons x L ih=>
  rw [ce,bq] at h;rw [bq];exact ⟨λhm=>h.1 (List.mem_map.2 ⟨x,hm,rfl⟩),ih h.2⟩
def Plc (f:Idx) (n p:Nat):Prop:=hk p<n/\0<=(f (hk p)).1/\p≠0/\p<72057594037927936/\∃i:Nat,(i:Int)<perS (f (hk p)).1/\pO p=pOff (26+32*hk p) (f (hk p)).1 i
def Rsv.plc (h:Rsv D f n p) (hn:26+32*n<=4096) (rg:RgS D 26 n f):Plc f n p:=by
 obtain ⟨a,b,c,d,i,e,g,_⟩:=h.kn hn rg;exact ⟨a,b,c,d,i,e,g⟩
def FS.plc (h:FS f f2) (hp:Plc f n p):Plc f2 n p:=by
 have e:(f2 (hk p)).1=(f (hk p)).1:=(h _).1;unfold Plc at hp ⊢;rw [e];exact hp
def HpG.mapQ {Q Q':Nat->Prop} (h:HpG Q w0 w Y D H n f R) (hq:∀p∈R,Q p->Q' p):HpG Q' w0 w Y D H n f R:=
 ⟨h.ar,h.rg,h.hp,h.lg,h.rs,h.hd,h.nd,λp hp=>hq p hp (h.rv p hp),h.ho,h.er,h.idl,h.avm,h.sep,h.dif,h.dt⟩
def Bn {Q:Nat->Prop} (h:HpG Q w0 w Y D H n f R) (a7:Plc f n p) (hp:p∈R) (hR:R.length<1000000) (K:K1)
  (hK:∀w' f2,FS f f2->HSt w Y H w' Y->HpG Q w0 w' Y D H n f2 (rmR R p)->K (.tuple #[]) w'):
  ae prog 100 #[hpV H,.int .u64 (p:Int)] w K:=by
 have b7:=h.n4;obtain ⟨k1,c0,p0,b5,i,hi,G⟩:=a7;obtain ⟨k,v⟩:∃k,hk p=k:=⟨_,rfl⟩;rw [v] at k1 c0 hi G;have hc:=h.cls k1;have l:=kS (k:=k) (n:=n) c0 hc.1 hi;rw [<-G] at l;obtain ⟨L,hm,hL⟩:=h.hd;have d:=h.dif;have sp:=h.sep;have q4:=h.cell.2.2.2.2.1;have ltp:=h.ltp;have A:=aiN (aan h.nd) hp;have b6:cnR R k<=R.length:=by unfold cnR;exact al _ _
 have X:=A k;rw [v,if_pos rfl] at X;have a9:(bV L ((26+32*k:Nat):Int)).getD (.int .i64 0)= .int .i64 (cnR R k:Int):=by
  rw [hL k k1,if_neg oM];rfl
 have hx:pO p<18446744073709551616:=by unfold pO;omega
 have g:∀(w1:aa) (K:K1),ae prog 20 #[.int .u64 (p:Int)] w1 K=K (.int .u64 ((pO p:Nat):Int)) w1:=λw1 K=>fN p w1 K oM
 have V:∀(w1:aa) (K:K1),w1.cell? ⟨H.p,1,none⟩=some (.int .i64 ((26:Nat):Int))->w1.cell? ⟨H.p,2,none⟩=some (.int .i64 ((32*n:Nat):Int))->ae prog 74 #[hpV H,.int .u64 ((pO p:Nat):Int)] w1 K=K (.tuple #[.int .i64 ((26+32*k:Nat):Int),.bool true]) w1:=λw1 K a b=>by
  rw [aad a b oM hx K,if_pos ⟨l.1,by rw [l.2];exact k1⟩,l.2]
 have fk:¬(f k).1<0:=oM;have a6:=aiO (p:=p) h.nd;have a8:∀(f2:Idx),FS f f2->∀q∈rmR R p,Q q:=λf2 fs q hq=>h.rv q (ahV.1 hq).1
 have C:∀w' f2 L',FS f f2->Frm (λx=>Y.F x\/x=H.rm\/x=H.hm\/x=H.b) w w'->ArS w0 w' Y D H.S H.b H.o H.cp 26 n f2->RgS D 26 n f2->bN .u64 w' H.rm (rsL (rmR R p))->bN .i64 w' H.hm L'->(∀j,j<n->bV L' ((26+32*j:Nat):Int)=if cnR (rmR R p) j=0 then none else some (.int .i64 (cnR (rmR R p) j:Int)))->(∀j,j<n->(f2 j).2.2=decide (cnR (rmR R p) j≠0))->K (.tuple #[]) w':=λw' f2 L' fs fr ar rg mr mh U ho=>hK w' f2 fs (HSt.of_frm Y fr) (h.put fr ar rg mr ⟨L',mh,U⟩ a6 (a8 f2 fs) ho)
 have e1:(cnR R k:Int)-1=((cnR (rmR R p) k:Nat):Int):=oM;have a4:=aiM h.nd hp;refine TP _ _ _ _ ?_;unfold ZS
 (repeat' first|refine am (λ_=> ?_) (λ_=> ?_)|refine ao ?_ ?_|refine jm q4 g ?_|exact JR q4 g|fail)
 refine F9 rfl mTr (h.rs.ext xZ) _ (λw2 m2 g2=> ?_);rw [a4] at m2;have r:Frm (λx=>x=H.rm) w w2:=(Frm.of_ext (show Ext w w.drew from Ext.drew (Ext.refl _))).trans g2 (λx _ e=>e);have c:=h.hp.frm r d.1;have a1:w2.cell? ⟨H.p,1,none⟩=some (.int .i64 ((26:Nat):Int)):=c.cell (i:=1) oM;have a2:w2.cell? ⟨H.p,2,none⟩=some (.int .i64 ((32*n:Nat):Int)):=c.cell (i:=2) oM;have O:=λK=>V w2 K a1 a2
 have q5:w2.cell? ⟨H.p,5,none⟩=some (.map (some H.hm)):=c.cell (i:=5) oM;have J:=hm.frm r (λe=>d.2.2.1 e.symm);have M:∀(w3:aa) (K:K1),Ext w2 w3->ev prog (Instr.lookup 109 (.map (some H.hm)) (.int .i64 ((26+32*k:Nat):Int)) false) w3 K=K (.int .i64 (cnR R k:Int)) w3:=λw3 K e=>by rw [dY mTh (J.ext e),a9]
 have b4:=c.lt;refine fJ g O q5 M e1 e1 ?_;refine nI mTh (J.ext xZ) _ _ (λw3 m3 g3=> ?_);have s:Frm (λx=>x=H.rm\/x=H.hm) w w3:=(r.mono (λx hx=> .inl hx)).trans g3 (λx _ e=> .inr e);have t:=c.frm g3 d.2.1;have E:=m2.frm g3 d.2.2.1;have W:=h.ar.frmH s (λx hx=>hx.elim (λe=>sp x (.inr (.inl e))) (λe=>sp x (.inr (.inr (.inl e)))));have I:w3.cell? ⟨H.p,5,none⟩=some (.map (some H.hm)):=t.cell (i:=5) oM;have b3:=t.lt;have u:∀(w4:aa) (K:K1),Ext w3 w4->ev prog (Instr.lookup 109 (.map (some H.hm)) (.int .i64 ((26+32*k:Nat):Int)) false) w4 K=K (.int .i64 ((cnR (rmR R p) k:Nat):Int)) w4:=λw4 K e=>by rw [dY mTh (m3.ext e),mu,if_pos rfl];rfl
 have m:∀j,j<n->j≠k->cnR (rmR R p) j=cnR R j:=λj _ hj=>by
  have:=A j;rw [v,if_neg (λe=>hj e.symm)] at this;omega
 by_cases hz:cnR (rmR R p) k=0
 ·have B:((cnR (rmR R p) k:Nat):Int)<=0:=oM;refine vf I u hz @Int.le_refl ?_;refine F9 rfl mTh (m3.ext xZ) _ (λw4 m4 g4=> ?_);have z:Frm (λx=>x=H.rm\/x=H.hm) w w4:=s.trans g4 (λx _ e=> .inr e);have y:=t.frm g4 d.2.1;have N:=E.frm g4 d.2.2.1;have b1:=h.ar.frmH z (λx hx=>hx.elim (λe=>sp x (.inr (.inl e))) (λe=>sp x (.inr (.inr (.inl e)))));have Z:w4.cell? ⟨H.p,3,none⟩=some (stV H.S):=y.cell (i:=3) oM;have b2:=y.lt;have a0:=λK h8 hK=>aac b1 k1 false K h8 hK
  refine jI Z ?_;refine a0 _ (λe=>absurd e fk) (λ_ w5 a5 a3=> ?_);have fs:FS f (upF f k ((f k).1,(f k).2.1,false)):=λj=>by
   by_cases e:j=k
   ·subst e;rw [cS];exact ⟨rfl,rfl⟩
   ·rw [dN _ _ e];exact ⟨rfl,rfl⟩
  refine C w5 _ _ fs ((z.mono (λx hx=> .inr (hx.elim .inl (λe=> .inr (.inl e))))).trans a5.frm (λx _ hx=>hx.elim .inl (λe=> .inr (.inr (.inr e))))) a3 ?_ (N.frm a5.frm ?_) (m4.frm a5.frm ?_) (λj hj=> ?_) (λj hj=> ?_)
  ·have ha:=h.rg.ag k k1;exact h.rg.upd h.rg.on h.rg.gd rfl k1 (λ_ _ _ _ _=>rfl) ⟨ha.1,ha.2.1.symm,ha.2.2.symm⟩ (λb0=>h.rg.sn k k1 b0) _
  ·exact λhf=>hf.elim (sp _ (.inr (.inl rfl))).2.1 (sp _ (.inr (.inl rfl))).2.2.1
  ·exact λhf=>hf.elim (sp _ (.inr (.inr (.inl rfl)))).2.1 (sp _ (.inr (.inr (.inl rfl)))).2.2.1
  ·rw [aal,mu];by_cases e:j=k
   ·subst e;rw [if_pos rfl,if_pos hz]
   ·have ne:¬((26+32*j:Nat):Int)=((26+32*k:Nat):Int):=oM;rw [if_neg ne,if_neg ne,hL j hj,m j hj e]
  ·by_cases e:j=k
   ·subst e;rw [cS,hz];rfl
   ·rw [dN _ _ e,m j hj e];exact h.ho j hj
 ·have B:¬((cnR (rmR R p) k:Nat):Int)<=0:=oM;have T:Frm (λx=>Y.F x\/x=H.rm\/x=H.hm\/x=H.b) w w3:=s.mono (λx hx=> .inr (hx.elim .inl (λe=> .inr (.inl e))));have P:∀w',Ext w3 w'->K (.tuple #[]) w':=λw' e=>C w' f _ (FS.refl f) (T.ext e) (W.ext e) h.rg (E.ext e) (m3.ext e) (λj hj=>by
   rw [mu];by_cases e:j=k
   ·subst e;rw [if_pos rfl,if_neg hz]
   ·have ne:¬((26+32*j:Nat):Int)=((26+32*k:Nat):Int):=oM;rw [if_neg ne,hL j hj,m j hj e]) (λj hj=>by
   rw [h.ho j hj];by_cases e:j=k
   ·subst e;rw [decide_eq_decide];omega
   ·rw [m j hj e])
  refine ia I u B ?_;exact P _ xZ
def xh (h:HpS w0 w Y D H n f R) (hr:∀p∈R,p<18446744073709551616) (hp:p<18446744073709551616) (hR:R.length<1000000) (K:K1)
  (g:p∉R->∀w',Ext w w'->K (.int .i64 8) w')
  (b:p∈R->∀w' f2,FS f f2->HSt w Y H w' Y->HpS w0 w' Y D H n f2 (rmR R p)->K (.int .i64 0) w'):
  ae prog 82 #[hpV H,.int .u64 (p:Int)] w K:=by
 have d:=λ(w1:aa) (e:Ext w w1) (K:K1) hK=>k_holds (h.ext e) hr p hp K hK
 have c:=λ(hp:p∈R) (w1:aa) (e:Ext w w1) (K:K1) (hK:∀w' f2,FS f f2->HSt w1 Y H w' Y->HpS w0 w' Y D H n f2 (rmR R p)->K (.tuple #[]) w')=>Bn (h.ext e) ((h.rv p hp).plc (by have:=h.n4;omega) h.rg) hp hR K (λw' f2 fs s h2=>hK w' f2 fs s (h2.mapQ (λq _ hq=>fs.rsv.2 hq)))
 refine ZI _ _ _ _ ?_;unfold afT;refine zS0 ?_;refine d _ xZ _ (λw1 e1=> ?_);have a:Ext w w1:=Ext.trans xZ e1;by_cases t1:p∈R
 ·(repeat' first|refine am (λ_=> ?_) (λ_=> ?_)|refine ao ?_ ?_|refine jI t1 ?_|exact yh t1|fail)
  refine c t1 _ (a.trans xZ) _ (λw2 f2 fs s2 h2=> ?_);exact b t1 _ f2 fs ((HSt.of_ext Y H (a.trans xZ)).trans s2) h2
 ·(repeat' first|refine am (λ_=> ?_) (λ_=> ?_)|refine ao ?_ ?_|refine jI t1 ?_|exact yh t1|fail)
  exact g t1 _ (a.trans xZ)
def LU (h:HpS w0 w Y D H n f R) (K:K1) (hK:∀w',Ext w w'->K (.int .i64 (R.length:Int)) w'):
  ae prog 37 #[hpV H] w K:=by
 have q4:=h.cell.2.2.2.2.1;have ltp:=h.ltp;refine Zc _ _ _ ?_;unfold afF;refine zS1 q4 ?_;refine YW rfl mTr (h.rs.ext xZ) ?_;have e:(rsL R).length=R.length:=by unfold rsL;rw [cj]
 rw [e];exact hK _ xZ
end
end Go.Proofs.YtmpehclnnjgmcaaGreatDoor
namespace Go.Sh
open Go
abbrev KD:=List Nat->KF
def mkD (r:Nat):Deferred:={target:= .collected r,args:= #[]}
def exM (id:Nat) (k:KD) (e:Nat->KD) (j:Nat):KD:=
 match Nat.beq j id with
 |true=>k
 |false=>e j
def af4 (k r:aa->Prop) (j:Option Code) (w:aa):Prop:=
 match j with
 |none=>k w
 |some .ret=>r w
 |_=>False
def rsK (K:K1):List Nat->K1
 | []=>K
 |r::rs=>λv w=>w.heap[r]? =some (.deferred (some []))/\∀w',Frm (λx=>x=r) w w'->rsK K rs v w'
abbrev LV (fn:FuncId) (ps:Array Tmp) (a b:Code) (fr:Fr) (D:Nat) (st:LoopState) (pe:Option Code):Loop:={state:=st,pending:=pe,fn,tmps:=fr.toArray,params:=ps,assign:=a,body:=b,defers:=D}
def Lp (w:aa) (l:Nat) (fn:FuncId) (ps:Array Tmp) (a b:Code) (fr:Fr) (D:Nat) (st:LoopState) (pe:Option Code):Prop:=w.heap[l]? =some (.loop (LV fn ps a b fr D st pe))
def rgT (P:Program) (gv:an) (ps:Array Tmp) (a b:Code) (k r:List Nat->aa->Prop) (rs:List Nat) (fr:Fr) (w:aa):Prop:=
 match gv with
 | .func (.func f) fi cs=>uC P f=true/\∀fn w1,Ext w w1->w1.heap.size=w.heap.size+2->w1.heap[w.heap.size]? =some (.deferred (some []))->Lp w1 (w.heap.size+1) fn ps a b fr w.heap.size .ready none->
   ae P f (fi++ #[.func (.yield (w.heap.size+1)) #[] #[]]++cs) w1 λ_ w3=>∃st pe,st≠ .busy/\Lp w3 (w.heap.size+1) fn ps a b fr w.heap.size st pe/\∀w4,Frm (λx=>x=w.heap.size+1) w3 w4->af4 (k (w.heap.size::rs)) (r (w.heap.size::rs)) pe w4
 |_=>False
def tw (P:Program):Dec->Code->KD->KD->(Nat->KD)->KD
 |_,.rangeFunc g ps a b,k,r,_=>λrs fr w=>rgT P (evO fr g) ps a b (λrs w=>k rs fr w) (λrs w=>r rs fr w) rs fr w
 | .s da db,.seq a b,k,r,e=>tw P da a (tw P db b k r e) r e
 | .s da db,.cond x a b,k,r,e=>λrs fr w=>af (evO fr x) (tw P da a k r e rs fr w) (tw P db b k r e rs fr w)
 | .b d,.block id c,k,r,e=>tw P d c k r (exM id k e)
 |d,c,k,r,e=>λrs fr w=>jv P d c (k rs) (r rs) (λj=>e j rs) fr w
def okR (P:Program) (nt m:Nat):Dec->Code->Bool
 |_,.rangeFunc _ _ _ _=>true
 | .s da db,.seq a b=>okR P nt m da a&&okR P nt m db b
 | .s da db,.cond _ a b=>okR P nt m da a&&okR P nt m db b
 | .b d,.block _ c=>okR P nt m d c
 |d,c=>fv P nt c&&(lQ m c&&okT m d c)
def Frm.putObj {w:aa} {r:Nat} (o:Obj):Frm (λx=>x=r) w (w.putObj r o):=⟨rfl,rfl,rfl,by simp [World.putObj],λk _ hn=>World.putObj_heap_other hn⟩
def qf (P:Program):List ResultVar->Fr->aa->Option (List an)
 | [],_,_=>some []
 | .tmp t::rs,fr,w=>(qf P rs fr w).map (fr.getD t undef::·)
 | .cell a t::rs,fr,w=>match ldO P t w (fr.getD a undef) with
  |some v=>(qf P rs fr w).map (v::·)
  |none=>none
def aao {P:Program} {w:aa} {fr:Fr}:∀(rs:List ResultVar) (k:List an->Prop),By P rs fr w k↔∃vs,qf P rs fr w=some vs/\k vs:=by
 intro rs
 induction rs with
 |nil=>intro k;simp [By,qf]
 |cons x rs ih=>
  intro k
  cases x with
  |tmp t=>simp only [By,qf,ih];cases qf P rs fr w<;>simp
  |cell a t=>
   simp only [By,qf,ldR,oE]
   cases ldO P t w (fr.getD a undef) with
   |none=>simp
   |some v=>simp only [ih];cases qf P rs fr w<;>simp
def GU {w w':aa} {r:Nat} {ds:Option (List Deferred)} (h:w.heap[r]? =some (.deferred ds)) (f:Frm (λx=>x=r) w w') {a:Addr} {v:an} (hc:w.cell? a=some v):w'.cell? a=some v:=by
 have c:a.block≠r:=λe=>by unfold World.cell? at hc;rw [e,h] at hc;cases hc
 have b:a.block<w.heap.size:=by
  unfold World.cell? at hc
  cases hb:w.heap[a.block]? with
  |none=>rw [hb] at hc;cases hc
  |some x=>exact ay hb
 unfold World.cell? at hc ⊢;rw [f.block _ b c];exact hc
def T8 {w w':aa} {r:Nat} {ds:Option (List Deferred)} (h:w.heap[r]? =some (.deferred ds)) (f:Frm (λx=>x=r) w w') {b:Nat}:∀(n o:Nat) (l:List an),aT w b o n=some l->aT w' b o n=some l:=by
 intro n
 induction n with
 |zero=>intro o l hl;exact hl
 |succ n ih=>
  intro o l hl;unfold aT at hl ⊢
  cases hc:w.cell? ⟨b,o,none⟩ with
  |none=>rw [hc] at hl;cases hl
  |some v=>
   rw [hc] at hl;rw [GU h f hc]
   cases hr:aT w b (o+1) n with
   |none=>simp only [hr] at hl;cases hl
   |some l2=>simp only [hr] at hl;simp only [ih _ _ hr];exact hl
def ad7 {P:Program} {t:TypeId} {x:an} {w w':aa} {r:Nat} {ds:Option (List Deferred)} (h:w.heap[r]? =some (.deferred ds)) (f:Frm (λx=>x=r) w w') {v:an} (hv:ldO P t w x=some v):ldO P t w' x=some v:=by
 cases x with
 |pointer p=>
  cases p with
  |none=>cases hv
  |some a=>
   cases hi:fo P t with
   |none=>simp [ldO,hi] at hv
   |some g=>
    cases g with
    |false=>
     simp only [ldO,hi] at hv ⊢;exact GU h f hv
    |true=>
     obtain ⟨b,o,s⟩:=a
     cases s with
     |some _=>simp [ldO,hi] at hv
     |none=>
      cases hn:szT P t with
      |none=>simp [ldO,hi,hn] at hv
      |some n=>
       simp only [ldO,hi,hn] at hv ⊢
       cases hc:aT w b o n with
       |none=>rw [hc] at hv;cases hv
       |some l=>rw [hc] at hv;rw [T8 h f _ _ _ hc];exact hv
 |_=>cases hv
def aap {P:Program} {fr:Fr} {w w':aa} {r:Nat} {ds:Option (List Deferred)} (h:w.heap[r]? =some (.deferred ds)) (f:Frm (λx=>x=r) w w'):∀(rs:List ResultVar) (vs:List an),qf P rs fr w=some vs->qf P rs fr w'=some vs:=by
 intro rs
 induction rs with
 |nil=>intro vs hv;exact hv
 |cons x rs ih=>
  intro vs hv
  cases x with
  |tmp t=>
   simp only [qf] at hv ⊢
   cases hc:qf P rs fr w with
   |none=>rw [hc] at hv;cases hv
   |some l=>rw [hc] at hv;rw [ih _ hc];exact hv
  |cell a t=>
   simp only [qf] at hv ⊢
   cases hl:ldO P t w (fr.getD a undef) with
   |none=>rw [hl] at hv;cases hv
   |some u=>
    rw [hl] at hv;rw [ad7 h f hl]
    cases hc:qf P rs fr w with
    |none=>simp only [hc] at hv;cases hv
    |some l=>simp only [hc] at hv;simp only [ih _ hc];exact hv
def oU {P:Program} {fn:Func} {rv:List ResultVar} {K:K1} (a:fn.results=rv.toArray) {fr:Fr}:∀(rs:List Nat) (w:aa),aU P rv (rsK K rs) fr w->LeavesInM (FW none) 0 P fn fr.toArray (UE K) (rs.map mkD) .returning w
 | [],w,h=>kY (ds:= []) a h
 |r::rs,w,h=>by
  obtain ⟨vs,h1,h2,h3⟩:=(aao _ _).1 h;exact ⟨by simp,.inl ⟨r,_,rfl,run_takeDeferred h2,oU a rs _ ((aao _ _).2 ⟨vs,aap h2 (Frm.putObj _) _ _ h1,h3 _ (Frm.putObj _)⟩)⟩⟩
def T9 {P:Program} {g:Operand} {ps:Array Tmp} {a b:Code} {Q:Exit->Act->aa->Prop} {k r:KD} {rs:List Nat} {fr:Fr} {w:aa}
  (hk:∀rs w,k rs fr w->Q .normal (be (rs.map mkD) fr) w) (hr:∀rs w,r rs fr w->Q .ret (be (rs.map mkD) fr) w) (h:rgT P (evO fr g) ps a b (λrs w=>k rs fr w) (λrs w=>r rs fr w) rs fr w):(Code.rangeFunc g ps a b).wpIn (FW none) 0 P Q (be (rs.map mkD) fr) w:=by
 unfold rgT at h;split at h
 ·rename_i f fi cs hg;obtain ⟨d,h⟩:=h;refine wpIn_rangeFunc (λfn _=> ?_);have e:(be (rs.map mkD) fr).eval g= .func (.func f) fi cs:=by rw [fW,hg]
  refine ⟨w.heap.size+1,[mkD w.heap.size],((w.alloc (.deferred (some []))).alloc (.loop (LV fn ps a b fr w.heap.size .ready none))),{target:= .fn (.func f) cs,args:=fi++ #[.func (.yield (w.heap.size+1)) #[] #[]]},((w.alloc (.deferred (some []))).alloc (.loop (LV fn ps a b fr w.heap.size .ready none))),f,fi++ #[.func (.yield (w.heap.size+1)) #[] #[]]++cs,((w.alloc (.deferred (some []))).alloc (.loop (LV fn ps a b fr w.heap.size .ready none))),run_enterLoop_outer _ _ _ _ _,?_,λ_ _=>trivial,?_,λh=>fwD h,?_⟩
  ·simp only [resolve,e];simp [go_sem,Act.eval]
  ·simp only [invoke];exact jV d _ _
  ·refine (callsIn_wide (n:=0)).2 (Calls.mono (h fn _ (Ext.alloc (Ext.alloc_self w _) _) (by simp) ?_ ?_) ?_)
   ·rw [bv _ (by simp)];exact aQ w _
   ·have:=aQ (w.alloc (.deferred (some []))) (.loop (LV fn ps a b fr w.heap.size .ready none))
    rwa [World.size_alloc] at this
   ·intro en w3 hx
    cases en with
    |returned v=>
     obtain ⟨st,pe,hb,hl,hj⟩:=hx;refine ⟨pe,_,run_endLoop hl hb,?_⟩;have hj:=hj _ (Frm.putObj (Obj.loop {LV fn ps a b fr w.heap.size st pe with state:= .exhausted}))
     cases pe with
     |none=>exact hk (w.heap.size::rs) _ hj
     |some c=>
      cases c with
      |ret=>exact wpIn_ret (hr (w.heap.size::rs) _ hj)
      |_=>exact hj.elim
    |panicked c=>exact hx.elim
    |outgrown=>exact hx.elim
 ·exact h.elim
def GV {P:Program} {nt m:Nat} (hm:P.follows .mixedOrders=true):∀(d:Dec) (c:Code) {Q:Exit->Act->aa->Prop} {k r:KD} {e:Nat->KD},okR P nt m d c=true->
  (∀rs fr w,fr.length=nt->k rs fr w->Q .normal (be (rs.map mkD) fr) w)->(∀rs fr w,fr.length=nt->r rs fr w->Q .ret (be (rs.map mkD) fr) w)->(∀j rs fr w,fr.length=nt->e j rs fr w->Q (.exit j) (be (rs.map mkD) fr) w)->
  ∀(rs:List Nat) (fr:Fr) (w:aa),fr.length=nt->tw P d c k r e rs fr w->c.wpIn (FW none) 0 P Q (be (rs.map mkD) fr) w:=by
 have f:∀(d:Dec) (c:Code) {Q:Exit->Act->aa->Prop} {k r:KD} {e:Nat->KD},(fv P nt c&&(lQ m c&&okT m d c))=true->
  (∀rs fr w,fr.length=nt->k rs fr w->Q .normal (be (rs.map mkD) fr) w)->(∀rs fr w,fr.length=nt->r rs fr w->Q .ret (be (rs.map mkD) fr) w)->(∀j rs fr w,fr.length=nt->e j rs fr w->Q (.exit j) (be (rs.map mkD) fr) w)->
  ∀(rs:List Nat) (fr:Fr) (w:aa),fr.length=nt->jv P d c (k rs) (r rs) (λj=>e j rs) fr w->c.wpIn (FW none) 0 P Q (be (rs.map mkD) fr) w:=by
  intro d c Q k r e ho hk hr he rs fr w hl h;simp only [cv] at ho;exact jb hm c ho.1 (λfr w=>hk rs fr w) (λfr w=>hr rs fr w) (λj fr w=>he j rs fr w) fr w hl (tf d c ho.2.2 ho.2.1 (λ_ _ _ h=>h) (λ_ _ _ h=>h) (λ_ _ _ _ h=>h) fr w (eY.refl _ _) h)
 have rg:∀(g:Operand) (ps:Array Tmp) (a b:Code) {Q:Exit->Act->aa->Prop} {k r:KD} {e:Nat->KD},
  (∀rs fr w,fr.length=nt->k rs fr w->Q .normal (be (rs.map mkD) fr) w)->(∀rs fr w,fr.length=nt->r rs fr w->Q .ret (be (rs.map mkD) fr) w)->(∀j rs fr w,fr.length=nt->e j rs fr w->Q (.exit j) (be (rs.map mkD) fr) w)->
  ∀(rs:List Nat) (fr:Fr) (w:aa),fr.length=nt->rgT P (evO fr g) ps a b (λrs w=>k rs fr w) (λrs w=>r rs fr w) rs fr w->(Code.rangeFunc g ps a b).wpIn (FW none) 0 P Q (be (rs.map mkD) fr) w:=by
  intro g ps a b Q k r e hk hr he rs fr w hl h;exact T9 (λrs w=>hk rs fr w hl) (λrs w=>hr rs fr w hl) h
 intro d
 induction d with
 |s da db iha ihb=>
  intro c Q k r e ho hk hr he rs fr w hl h
  cases c
  case rangeFunc=>exact rg _ _ _ _ hk hr he rs fr w hl h
  case seq a b=>
   simp only [okR,cv] at ho;refine wpIn_seq (iha a ho.1 ?_ ?_ ?_ rs fr w hl h)
   ·intro rs fr w hl h;exact ihb b ho.2 hk hr he rs fr w hl h
   ·intro rs fr w hl h;exact hr rs fr w hl h
   ·intro j rs fr w hl h;exact he j rs fr w hl h
  case cond x a b=>
   simp only [okR,cv] at ho;simp only [tw,af] at h;have hc:(be (rs.map mkD) fr).eval x=evO fr x:=by rw [fW]
   split at h
   ·rename_i hx;exact wpIn_cond_true (by rw [hc,hx]) (iha a ho.1 hk hr he rs fr w hl h)
   ·rename_i hx;exact wpIn_cond_false (by rw [hc,hx]) (ihb b ho.2 hk hr he rs fr w hl h)
   ·exact h.elim
  all_goals exact f _ _ ho hk hr he rs fr w hl h
 |b d ih=>
  intro c Q k r e ho hk hr he rs fr w hl h
  cases c
  case rangeFunc=>exact rg _ _ _ _ hk hr he rs fr w hl h
  case block id c=>
   refine wpIn_block (ih c ho ?_ ?_ ?_ rs fr w hl h)
   ·intro rs fr w hl h;exact hk rs fr w hl h
   ·intro rs fr w hl h;exact hr rs fr w hl h
   ·intro j rs fr w hl h;unfold exM at h;simp only [Exit.inBlock]
    cases hj:Nat.beq j id with
    |true=>rw [hj] at h;rw [if_pos (Nat.eq_of_beq_eq_true hj)];exact hk rs fr w hl h
    |false=>rw [hj] at h;rw [if_neg (Nat.ne_of_beq_eq_false hj)];exact he j rs fr w hl h
  all_goals exact f _ _ ho hk hr he rs fr w hl h
 |o=>
  intro c Q k r e ho hk hr he rs fr w hl h
  cases c
  case rangeFunc=>exact rg _ _ _ _ hk hr he rs fr w hl h
  all_goals exact f _ _ ho hk hr he rs fr w hl h
 |_=>
  intro c Q k r e ho hk hr he rs fr w hl h
  cases c
  case rangeFunc=>exact rg _ _ _ _ hk hr he rs fr w hl h
  all_goals exact f _ _ ho hk hr he rs fr w hl h
def aiP (P:Program) (fn:Func) (d:Dec) (args:List an) (K:K1) (w:aa):Prop:=
 match fn.body with
 |some c=>tw P d c (λrs=>aU P fn.results.toList (rsK K rs)) (λrs=>aU P fn.results.toList (rsK K rs)) (λ_ _ _ _=>False) [] (args++List.replicate (fn.ntmps-args.length) undef) w
 |none=>False
def okG (P:Program) (fn:Func) (d:Dec) (args:List an):Bool:=
 match fn.body with
 |some c=>Nat.ble args.length fn.ntmps&&okR P fn.ntmps (2^fn.ntmps-1) d c
 |none=>false
def kT {P:Program} (hm:P.follows .mixedOrders=true) {f:FuncId} {fn:Func} (hf:P.funcs[f]? =some fn) (d:Dec) {args:List an} {w:aa} {K:K1} (a:okG P fn d args=true) (h:aiP P fn d args K w):ae P f args.toArray w K:=by
 unfold okG at a;unfold aiP at h
 cases hb:fn.body with
 |none=>rw [hb] at h;exact h.elim
 |some c=>
  rw [hb] at h a;simp only [cv] at a;have hl:=Nat.le_of_ble_eq_true a.1;refine (callsIn_wide (n:=0)).1 (callsIn_of_wp_marks (F:=FW none) hf hb trivial ?_);have e:({tmps:=args.toArray++Array.replicate (fn.ntmps-args.toArray.size) undef,defers:= []}:Act)=be ([].map mkD) (args++List.replicate (fn.ntmps-args.length) undef):=by
   simp [be]
  rw [e];refine GV hm d c a.2 ?_ ?_ ?_ [] _ w (by simp;omega) h
  ·intro rs fr w _ h;exact oU (by simp) rs w h
  ·intro rs fr w _ h;exact oU (by simp) rs w h
  ·intro j rs fr w _ h;exact h.elim
def LX (l:Nat) (fn:FuncId) (p:Tmp) (a b:Code) (fr:Fr) (D:Nat) (k:aa->Prop) (w1:aa):Prop:=Lp w1 l fn #[p] a b fr D .ready none/\∀w2,Frm (λy=>y=l) w1 w2->Lp w2 l fn #[p] a b fr D .busy none->k w2
def GW (l:Nat) (fn:FuncId) (p:Tmp) (a b:Code) (fr:Fr) (D:Nat) (st:LoopState) (pe:Option Code) (v:Bool) (k:K1) (w3:aa):Prop:=Lp w3 l fn #[p] a b fr D .busy none/\∀w4,Frm (λy=>y=l) w3 w4->Lp w4 l fn #[p] a b fr D st pe->k (.bool v) w4
def akg (P:Program) (p:Tmp) (a b:Code) (fr:Fr) (x:an) (B:(aa->Prop)->aa->Prop) (N R:aa->Prop) (w:aa):Prop:=
 iG P a (λfr' w1=>B (λw2=>iG P b (λ_ w3=>N w3) (λ_ w3=>R w3) nX fr' w2) w1) (λ_ _=>False) nX (put fr (some p) x) w
def Lp.put {w:aa} {l:Nat} {fn:FuncId} {ps:Array Tmp} {a b:Code} {fr:Fr} {D:Nat} {st c:LoopState} {pe d:Option Code} (h:Lp w l fn ps a b fr D st pe):Lp (w.putObj l (.loop (LV fn ps a b fr D c d))) l fn ps a b fr D c d:=World.putObj_heap_same (ay h)
def Lp.frm {G:Nat->Prop} {w w':aa} {l:Nat} {fn:FuncId} {ps:Array Tmp} {a b:Code} {fr:Fr} {D:Nat} {st:LoopState} {pe:Option Code} (h:Lp w l fn ps a b fr D st pe) (g:Frm G w w') (hG:¬G l):Lp w' l fn ps a b fr D st pe:=(g.block l (ay h) hG).trans h
def Lp.ext {w w':aa} {l:Nat} {fn:FuncId} {ps:Array Tmp} {a b:Code} {fr:Fr} {D:Nat} {st:LoopState} {pe:Option Code} (h:Lp w l fn ps a b fr D st pe) (e:Ext w w'):Lp w' l fn ps a b fr D st pe:=Lp.frm (G:=λ_=>False) h (Frm.of_ext e) (λh=>h)
def sP {P:Program} (hm:P.follows .mixedOrders=true) {l:Nat} {fn:FuncId} {p:Tmp} {a b:Code} {fr:Fr} {D:Nat} {x:an} {w:aa} {k:K1} (hL:Lp w l fn #[p] a b fr D .ready none)
  (c:(fv P fr.length a&&fv P fr.length b)=true) (h:akg P p a b fr x (LX l fn p a b fr D) (GW l fn p a b fr D .ready none true k) (GW l fn p a b fr D .done (some .ret) false k) w):nZ P (.func (.yield l) #[] #[]) #[x] w k:=by
 simp only [cv] at c;have hy:((do let d <-Deferred.ofValue (.func (.yield l) #[] #[]) #[x];invoke d.target d.args:Sem Next)).run P w= .ok (.round l fn (fr.toArray.setIfInBounds p x) a b) w:=by
  simp [Deferred.ofValue,invoke,Instr.yield,Sem.run_bind,run_getLoop hL,Result.andThen]
 unfold nZ;rw [hy];show RoundIn Fence.wide 0 P l fn _ a b w (UE k);refine roundIn_of_wpIn (F:=Fence.wide) trivial ?_;have e:({tmps:=fr.toArray.setIfInBounds p x,defers:= []}:Act)=be [] (put fr (some p) x):=by simp [be,Go.Sh.put]
 rw [e];refine jb (ro:=some l) (nt:=fr.length) hm a c.1 ?_ ?_ ?_ _ w (fX _ _ _) h
 ·intro fr' w1 hl h;refine ⟨_,run_beginRound h.1 rfl,?_⟩;have h:=h.2 _ (Frm.putObj _) h.1.put;refine jb (ro:=some l) (ds:= []) (nt:=fr.length) hm b c.2 ?_ ?_ ?_ fr' _ hl h
  ·intro f w3 _ h;exact ⟨_,_,run_endRound none h.1,h.2 _ (Frm.putObj _) h.1.put⟩
  ·intro f w3 _ h;exact ⟨_,_,run_endRound (some .ret) h.1,h.2 _ (Frm.putObj _) h.1.put⟩
  ·intro j f w3 _ h;exact h.elim
 ·intro fr' w1 _ h;exact h.elim
 ·intro j fr' w1 _ h;exact h.elim
def ra (u:Code×Dec):Code:=match u.1 with
 | .rangeFunc _ _ a _=>a
 |_=> .skip
def rb (u:Code×Dec):Code:=match u.1 with
 | .rangeFunc _ _ _ b=>b
 |_=> .skip
def GX {P:Program} {f:FuncId} {fi cs args:Array an} {w:aa} {k:K1} (he:uC P f=true):nZ P (.func (.func f) fi cs) args w k=ae P f (fi++args++cs) w k:=by
 have h:((do let d <-Deferred.ofValue (.func (.func f) fi cs) args;invoke d.target d.args:Sem Next)).run P w= .ok (.enter f (fi++args++cs)) w:=by
  simp [Deferred.ofValue,invoke,jV he]
 unfold nZ;rw [h];rfl
end Go.Sh
namespace Go.Proofs.YtmpehclnnjgmcaaGreatDoor
open Go Go.Sh
noncomputable section
variable (K:K1) (x0 x1 x2 x3 x4 x5 x6 x7 x8 x9 x10 x11 x12 x13 x14 x15 x16 x17 x18 x19 x20 x21 x22 x23 x24 x25 x26 x27 x28 x29 x30 x31 x32 x33 x34 x35 x36 x37 x38 x39 x40 x41 x42 x43 x44 x45 x46 x47 x48 x49 x50 x51 x52 x53 x54 x55 x56 x57 x58 x59 x60 x61 x62 x63 x64 x65 x66 x67 x68 x69 x70 x71 x72 x73 x74 x75 x76 x77 x78 x79 x80 x81 x82 x83 x84 x85 x86 x87 x88 x89 x90 x91 x92 x93 x94 x95 x96 x97 x98 x99 x100 x101 x102 x103 x104 x105 x106 x107 x108 x109 x110 x111 x112 x113 x114 x115 x116 x117 x118 x119 x120 x121 x122 x123 x124 x125 x126 x127 x128 x129 x130 x131 x132 x133 x134 x135 x136 x137 x138 x139 x140 x141 x142 x143 x144 x145 x146 x147 x148 x149 x150 x151 x152 x153 x154 x155 x156 x157 x158 x159 x160 x161 x162 x163 x164 x165 x166 x167 x168 x169 x170 x171 x172 x173 x174 x175 x176 x177 x178 x179 x180 x181 x182 x183 x184 x185 x186 x187 x188 x189 x190 x191 x192 x193 x194 x195 x196 x197 x198 x199 x200 x201 x202 x203 x204 x205 x206 x207 x208 x209 x210 x211:an) (w:aa)
noncomputable def qg:=uD Tryz.f25 (.s .o (.s .o (.s (.s .o (.b .o)) (.s .o (.s .o (.x 6 (.s .o (.b (.l [118] 249230249209671726169463823802564614 46768052394588561075518968417952830677224771289984 .o))) (.x 6 (.s .o (.b (.l [171] 2244866514940266882360859903052210718191512386011142 51422017413294533464089097778436056743307548176794020881643520 .o))) (.x 4 (.s .o (.b (.l [211] 2468256835981809063232453773836025757474103798450369795022913542 26956655658035997382582705148654515972627178950809305321376913063936 .o))) .o))))))))
abbrev qh:=aU prog Tryz.f25.results.toList
noncomputable def iV:Code:=ra (pw qg 5 11)
noncomputable def iW:Code:=rb (pw qg 5 11)
def iX (x0 x1 x2 x3 x16 x17 x18 x19 x20:an):Fr:=fz 224 0 [(0,x0),(1,x1),(2,x2),(3,x3),(16,x16),(17,x17),(18,x18),(19,x19),(20,x20)]
def GY:KF:=kO 6 (cP (pw qg 6 63) (qh K) (qh K) nX)
def aaq:Prop:=GY K (fy 224 6 [x1,x2]) w
def LY:Prop:=aH [118] 249230249209671726169463823802564614 (λE=>cP (pw qg 9 95) E (qh K) (exB 2 (GY K) nX)) (fy 224 581537248155900694395415588872650758 [x1,x2,x116,x117,x118]) w
def GZ:KF:=kO 6 (cP (pw qg 7 127) (qh K) (qh K) nX)
def aar:Prop:=GZ K (fy 224 6 [x1,x2]) w
def LZ:Prop:=aH [171] 2244866514940266882360859903052210718191512386011142 (λE=>cP (pw qg 10 191) E (qh K) (exB 4 (GZ K) nX)) (fy 224 5238021868193956058842006440455158342446862234025990 [x1,x2,x169,x170,x171]) w
def G0:KF:=kO 4 (cP (pw qg 8 255) (qh K) (qh K) nX)
def aas:Prop:=G0 K (fy 224 4 [x2]) w
def L8:Prop:=aH [211] 2468256835981809063232453773836025757474103798450369795022913542 (λE=>cP (pw qg 11 383) E (qh K) (exB 6 (G0 K) nX)) (fy 224 5759265950624221147542392138950726767439575529717529521720131590 [x1,x2,x209,x210,x211]) w
def G1:Prop:=
 lD 23 x1 w λa w=>
 nS a w λb w=>
 fA 38 b 5 w λc w=>
 fA 36 c 1 w λd w=>
 lD 34 d w λe w=>
 lN 34 e w λf w=>
 LZ K x1 x2 e f (.int .i64 0) w
def Ua:aaq K x1 x2 w=G1 K x1 x2 w:=aJ λσ=>kR
def xi (E1:VP1):Prop:=
 bT .lss 3 118 117 x118 x117 w λa w=>
 af a (
 iA 34 x116 x118 w λb w=>
 lD 63 b w λc w=>
 ev prog (Instr.alloc 63 true (.tuple #[])) w λd w=>
 sD 63 d c w λw=>
 lR 23 x1 w.drew λe=>
 nR e w.drew λf=>
 fR 38 f 3 w.drew λg=>
 lR 33 g w.drew λh=>
 fR 63 d 0 w.drew λi=>
 lR 26 i w.drew λj=>
 cL 29 (pA #[h,j]) w.drew λl w=>
 xR l 0 w λm=>
 xR l 1 w λn=>
 rC .neq 28 132 0 n w.drew λo=>
 gW o false m λp=>
 gF o false 63 d 1 w.drew λq=>
 gL o false 3 q w.drew λs=>
 gC o false 56 (pA #[s]) w.drew λt w=>
 gdR o false (λk=>rT .neq 3 135 138 p t w k) λv=>
 bh o (.bool true) v λy=>
 gL y false 23 x1 w λz=>
 gN y false z w λa0=>
 gF y false 38 a0 3 w λa1=>
 gL y false 33 a1 w λa2=>
 gF y false 63 d 0 w λa3=>
 gL y false 26 a3 w λa4=>
 gC y false 21 (pA #[a2,a4,(.int .u8 ((0:Nat):Int))]) w λa5 w=>
 gdR y false (λk=>rC .neq 28 148 0 a5 w k) λa6=>
 bh y (.bool true) a6 λa7=>
 gL a7 false 23 x1 w λa8=>
 gN a7 false a8 w λa9=>
 gF a7 false 38 a9 3 w λb0=>
 gL a7 false 33 b0 w λb1=>
 gF a7 false 63 d 0 w λb2=>
 gL a7 false 26 b2 w λb3=>
 gF a7 false 63 d 0 w λb4=>
 gL a7 false 26 b4 w λb5=>
 gC a7 false 60 (pA #[b5]) w λb6 w=>
 (gq a7 false (lG 23 x1 w a8))/\
 (gq a7 false (bw prog a8 w (λu=>u=a9)))/\
 (gq a7 false (fG 38 a9 3 w b0))/\
 (gq a7 false (lG 33 b0 w b1))/\
 (gq a7 false (fG 63 d 0 w b2))/\
 (gq a7 false (lG 26 b2 w b3))/\
 gC a7 false 21 (pA #[b1,b3,b6]) w λb7 w=>
 gdR a7 false (λk=>rC .neq 28 161 0 b7 w k) λb8=>
 bh a7 (.bool true) b8 λb9=>
 af b9 (
 sD 4 x2 (.bool false) w λw=>
 lR 4 x2 w λr=>
 K r w) (
 bC .add 3 118 1 x118 w λc0 w=>
 E1 c0 w)) (
 aaq K x1 x2 w)
def G2 (I:VP1) (μ:M1) (h0:I x118 w) (hr:∀x118 w,I x118 w->∀E1,Q1 I μ x118 w E1->xi K x1 x2 x116 x117 x118 w E1):LY K x1 x2 x116 x117 x118 w:=⟨I,μ,h0,λσ w hI E hE=>cast kR (hr (σ 118) w hI E hE)⟩
def G3:Prop:=
 lD 23 x1 w λa w=>
 nS a w λb w=>
 fA 38 b 5 w λc w=>
 fA 36 c 2 w λd w=>
 lD 34 d w λe w=>
 lN 34 e w λf w=>
 L8 K x1 x2 e f (.int .i64 0) w
def Ub:aar K x1 x2 w=G3 K x1 x2 w:=aJ λσ=>kR
def xj (E1:VP1):Prop:=
 bT .lss 3 171 170 x171 x170 w λa w=>
 af a (
 iA 34 x169 x171 w λb w=>
 lD 63 b w λc w=>
 ev prog (Instr.alloc 63 true (.tuple #[])) w λd w=>
 sD 63 d c w λw=>
 lR 23 x1 w.drew λe=>
 nR e w.drew λf=>
 fR 38 f 3 w.drew λg=>
 lR 33 g w.drew λh=>
 fR 63 d 0 w.drew λi=>
 lR 26 i w.drew λj=>
 cL 29 (pA #[h,j]) w.drew λl w=>
 xR l 0 w λm=>
 xR l 1 w λn=>
 rC .neq 28 185 0 n w.drew λo=>
 gW o false m λp=>
 gF o false 63 d 1 w.drew λq=>
 gL o false 3 q w.drew λs=>
 gC o false 56 (pA #[s]) w.drew λt w=>
 gdR o false (λk=>rT .neq 3 188 191 p t w k) λv=>
 bh o (.bool true) v λy=>
 gL y false 23 x1 w λz=>
 gN y false z w λa0=>
 gF y false 38 a0 3 w λa1=>
 gL y false 33 a1 w λa2=>
 gF y false 63 d 0 w λa3=>
 gL y false 26 a3 w λa4=>
 gC y false 21 (pA #[a2,a4,(.int .u8 ((0:Nat):Int))]) w λa5 w=>
 gdR y false (λk=>rC .neq 28 201 12 a5 w k) λa6=>
 bh y (.bool true) a6 λa7=>
 af a7 (
 sD 4 x2 (.bool false) w λw=>
 lR 4 x2 w λr=>
 K r w) (
 bC .add 3 171 1 x171 w λa8 w=>
 E1 a8 w)) (
 aar K x1 x2 w)
def G4 (I:VP1) (μ:M1) (h0:I x171 w) (hr:∀x171 w,I x171 w->∀E1,Q1 I μ x171 w E1->xj K x1 x2 x169 x170 x171 w E1):LZ K x1 x2 x169 x170 x171 w:=⟨I,μ,h0,λσ w hI E hE=>cast kR (hr (σ 171) w hI E hE)⟩
def G5:Prop:=
 sD 4 x2 (.bool true) w λw=>
 lR 4 x2 w λr=>
 K r w
def Uc:aas K x2 w=G5 K x2 w:=aJ λσ=>kR
def xk (E1:VP1):Prop:=
 bT .lss 3 211 210 x211 x210 w λa w=>
 af a (
 iA 34 x209 x211 w λb w=>
 lD 63 b w λc w=>
 ev prog (Instr.alloc 63 true (.tuple #[])) w λd w=>
 sD 63 d c w λw=>
 lR 23 x1 w.drew λe=>
 nR e w.drew λf=>
 fR 38 f 3 w.drew λg=>
 lR 33 g w.drew λh=>
 fR 63 d 0 w.drew λi=>
 lR 26 i w.drew λj=>
 cL 21 (pA #[h,j,(.int .u8 ((0:Nat):Int))]) w.drew λl w=>
 rC .eql 28 221 0 l w λm=>
 af m (
 sD 4 x2 (.bool false) w λw=>
 lR 4 x2 w λr=>
 K r w) (
 bC .add 3 211 1 x211 w λn w=>
 E1 n w)) (
 aas K x2 w)
def G6 (I:VP1) (μ:M1) (h0:I x211 w) (hr:∀x211 w,I x211 w->∀E1,Q1 I μ x211 w E1->xk K x1 x2 x209 x210 x211 w E1):L8 K x1 x2 x209 x210 x211 w:=⟨I,μ,h0,λσ w hI E hE=>cast kR (hr (σ 211) w hI E hE)⟩
def af5:Prop:=
 ev prog (Instr.box 23 x0) w λa w=>
 ev prog (Instr.alloc 4 true (.tuple #[])) w λb w=>
 ev prog (Instr.alloc 3 true (.tuple #[])) w λc w=>
 sD 3 c (.int .i64 0) w λw=>
 lD 23 a w λd w=>
 nS d w λe w=>
 fA 38 e 3 w λf w=>
 lD 33 f w λg w=>
 cL 80 (pA #[g]) w λh w=>
 rgT prog h #[21] iV iW (λrs w=>(λ(K:K1)=>
 lD 23 a w λi w=>
 nS i w λj w=>
 fA 38 j 3 w λl w=>
 lD 33 l w λm w=>
 cL 39 (pA #[m]) w λn w=>
 ev prog (Instr.alloc 73 true (.tuple #[])) w λo w=>
 sD 73 o n w λw=>
 lR 3 c w.drew λp=>
 lR 23 a w.drew λq=>
 nR q w.drew λs=>
 fR 38 s 5 w.drew λt=>
 fR 36 t 0 w.drew λv=>
 lR 34 v w.drew λy=>
 rd prog (bk #[34] 3 #[y]) w.drew λz=>
 rT .neq 3 50 56 p z w.drew λa0=>
 gF a0 false 73 o 2 w.drew λa1=>
 gL a0 false 3 a1 w.drew λa2=>
 gL a0 false 3 c w.drew λa3=>
 gdR a0 false (λk=>rT .neq 3 60 61 a2 a3 w.drew k) λa4=>
 bh a0 (.bool true) a4 λa5=>
 gF a5 false 73 o 3 w.drew λa6=>
 gL a5 false 3 a6 w.drew λa7=>
 gL a5 false 23 a w.drew λa8=>
 gN a5 false a8 w.drew λa9=>
 gF a5 false 38 a9 5 w.drew λb0=>
 gF a5 false 36 b0 0 w.drew λb1=>
 gL a5 false 34 b1 w.drew λb2=>
 gC a5 false 81 (pA #[b2]) w.drew λb3 w=>
 (gq a5 false (fG 73 o 3 w a6))/\
 (gq a5 false (lG 3 a6 w a7))/\
 gdR a5 false (λk=>rT .neq 3 66 72 a7 b3 w k) λb4=>
 bh a5 (.bool true) b4 λb5=>
 gF b5 false 73 o 0 w λb6=>
 gL b5 false 3 b6 w λb7=>
 gL b5 false 23 a w λb8=>
 gN b5 false b8 w λb9=>
 gF b5 false 38 b9 4 w λc0=>
 gL b5 false 3 c0 w λc1=>
 gdR b5 false (λk=>rT .neq 3 77 81 b7 c1 w k) λc2=>
 bh b5 (.bool true) c2 λc3=>
 gF c3 false 73 o 1 w λc4=>
 gL c3 false 3 c4 w λc5=>
 gdR c3 false (λk=>rC .lss 3 86 0 c5 w k) λc6=>
 bh c3 (.bool true) c6 λc7=>
 gF c7 false 73 o 1 w λc8=>
 gL c7 false 3 c8 w λc9=>
 gL c7 false 23 a w λd0=>
 gN c7 false d0 w λd1=>
 gF c7 false 38 d1 4 w λd2=>
 gL c7 false 3 d2 w λd3=>
 gdR c7 false (λk=>rT .gtr 3 91 95 c9 d3 w k) λd4=>
 bh c7 (.bool true) d4 λd5=>
 gL d5 false 23 a w λd6=>
 gN d5 false d6 w λd7=>
 gF d5 false 38 d7 3 w λd8=>
 gL d5 false 33 d8 w λd9=>
 gL d5 false 23 a w λe0=>
 gN d5 false e0 w λe1=>
 gF d5 false 38 e1 5 w λe2=>
 gF d5 false 36 e2 1 w λe3=>
 gL d5 false 34 e3 w λe4=>
 gdR d5 false (λk=>rd prog (bk #[34] 3 #[e4]) w k) λe5=>
 gC d5 false 37 (pA #[d9]) w λe6 w=>
 (gq d5 false (lG 23 a w e0))/\
 (gq d5 false (bw prog e0 w (λu=>u=e1)))/\
 (gq d5 false (fG 38 e1 5 w e2))/\
 (gq d5 false (fG 36 e2 1 w e3))/\
 (gq d5 false (lG 34 e3 w e4))/\
 (gq d5 false (ag prog (bk #[34] 3 #[e4]) w e5))/\
 gdR d5 false (λk=>rT .neq 3 103 109 e6 e5 w k) λe7=>
 bh d5 (.bool true) e7 λe8=>
 af e8 (
 sD 4 b (.bool false) w λw=>
 lR 4 b w λr=>
 K r w) (
 lD 23 a w λe9 w=>
 nS e9 w λf0 w=>
 fA 38 f0 5 w λf1 w=>
 fA 36 f1 0 w λf2 w=>
 lD 34 f2 w λf3 w=>
 lN 34 f3 w λf4 w=>
 LY K a b f3 f4 (.int .i64 0) w)) (rsK K rs)) (λrs w=>(λ(K:K1)=>
 lR 4 b w λx=>
 K x w) (rsK K rs)) [] (iX x0 a b c d e f g h) w
def aat (x0:an) (K:K1) (w:aa) (h:af5 K x0 w):ae prog 25 #[x0] w K:=
 kT (args:= [x0]) mixed Tryz.func25 qg.2 kR (cast kR h)
def G7 (x1 x2 x3:an) (x:an) (B:(aa->Prop)->aa->Prop) (N R:aa->Prop) (w:aa):Prop:=
 B (λw=>
 lR 3 x3 w.drew λa=>
 lR 23 x1 w.drew λb=>
 nR b w.drew λc=>
 fR 38 c 5 w.drew λd=>
 fR 36 d 0 w.drew λe=>
 lR 34 e w.drew λf=>
 rd prog (bk #[34] 3 #[f]) w.drew λg=>
 rT .geq 3 22 28 a g w.drew λh=>
 gL h false 23 x1 w.drew λi=>
 gN h false i w.drew λj=>
 gF h false 38 j 5 w.drew λl=>
 gF h false 36 l 0 w.drew λm=>
 gL h false 34 m w.drew λn=>
 gL h false 3 x3 w.drew λo=>
 gI h false 34 n o w.drew λp=>
 gF h false 63 p 0 w.drew λq=>
 gL h false 26 q w.drew λs=>
 gW h false x λt=>
 gdR h false (λk=>rT .neq 26 39 40 s t w.drew k) λv=>
 bh h (.bool true) v λy=>
 af y (
 sD 4 x2 (.bool false) w.drew λw=>
 R w) (
 lD 3 x3 w.drew λz w=>
 bC .add 3 43 1 z w λa0 w=>
 sD 3 x3 a0 w λw=>
 N w)) w
def aau {l:Nat} {fn:FuncId} {D:Nat} {x:an} {w:aa} {k:K1} {x0 x1 x2 x3 x16 x17 x18 x19 x20:an} (hL:Lp w l fn #[21] iV iW (iX x0 x1 x2 x3 x16 x17 x18 x19 x20) D .ready none) (h:G7 x1 x2 x3 x (LX l fn 21 iV iW (iX x0 x1 x2 x3 x16 x17 x18 x19 x20) D) (GW l fn 21 iV iW (iX x0 x1 x2 x3 x16 x17 x18 x19 x20) D .ready none true k) (GW l fn 21 iV iW (iX x0 x1 x2 x3 x16 x17 x18 x19 x20) D .done (some .ret) false k) w):nZ prog (.func (.yield l) #[] #[]) #[x] w k:=
 sP mixed hL kR (cast kR h)
noncomputable def aav:=uD Tryz.f39 (.s .o (.s .o (.s .o (.s (.s .o (.b .o)) .o))))
noncomputable def fg:Code:=ra (pw aav 6 23)
noncomputable def fh:Code:=rb (pw aav 6 23)
def fj (x0 x1 x2 x3 x7 x8 x10 x11 x12 x13 x14 x15 x16 x17 x18 x19 x20 x21 x22 x23:an):Fr:=fz 43 0 [(0,x0),(1,x1),(2,x2),(3,x3),(7,x7),(8,x8),(10,x10),(11,x11),(12,x12),(13,x13),(14,x14),(15,x15),(16,x16),(17,x17),(18,x18),(19,x19),(20,x20),(21,x21),(22,x22),(23,x23)]
def af6:Prop:=
 ev prog (Instr.box 33 x0) w λa w=>
 ev prog (Instr.alloc 73 true (.tuple #[])) w λb w=>
 lD 33 a w λc w=>
 bM .eql 33 (.tmp 7) (.const (.pointer none)) c (.pointer none) w λd w=>
 af d (
 ev prog (Instr.build 73 #[]) w λe w=>
 sD 73 b e w λw=>
 lR 73 b w λr=>
 K r w) (
 lR 33 a w.drew λf=>
 nR f w.drew λg=>
 fR 112 g 3 w.drew λh=>
 lR 107 h w.drew λi=>
 lR 33 a w.drew λj=>
 nR j w.drew λl=>
 fR 112 l 3 w.drew λm=>
 lR 107 m w.drew λn=>
 (cL 91 (pA #[i]) w.drew λo w=>
 (lG 33 a w j)/\
 (bw prog j w (λu=>u=l))/\
 (fG 112 l 3 w m)/\
 (lG 107 m w n)/\
 rd prog (bk #[50] 3 #[o]) w λp=>
 (cL 92 (pA #[n]) w λq w=>
 (ag prog (bk #[50] 3 #[o]) w p)/\
 rd prog (Instr.build 73 #[(0,p),(1,q)]) w λs=>
 ev prog (Instr.alloc 73 true (.tuple #[])) w λt w=>
 (lG 33 a w f)/\
 (bw prog f w (λu=>u=g))/\
 (fG 112 g 3 w h)/\
 (lG 107 h w i)/\
 (ag prog (bk #[50] 3 #[o]) w p)/\
 (lG 33 a w j)/\
 (bw prog j w (λu=>u=l))/\
 (fG 112 l 3 w m)/\
 (lG 107 m w n)/\
 (ag prog (Instr.build 73 #[(0,p),(1,q)]) w s)/\
 sD 73 t s w λw=>
 lD 33 a w λv w=>
 cL 80 (pA #[v]) w λy w=>
 rgT prog y #[24] fg fh (λrs w=>(λ(K:K1)=>
 lD 73 t w λz w=>
 sD 73 b z w λw=>
 lR 73 b w λB=>
 K B w) (rsK K rs)) (λrs w=>(λ(K:K1)=>
 lR 73 b w λA=>
 K A w) (rsK K rs)) [] (fj x0 a b t c d f g h i o p j l m n q s v y) w)/\
 (ev prog (Instr.alloc 73 true (.tuple #[])) w λa0 w=>
 (lG 33 a w f)/\
 (bw prog f w (λu=>u=g))/\
 (fG 112 g 3 w h)/\
 (lG 107 h w i)/\
 (ag prog (bk #[50] 3 #[o]) w p)/\
 (lG 33 a w j)/\
 (bw prog j w (λu=>u=l))/\
 (fG 112 l 3 w m)/\
 (lG 107 m w n)/\
 cL 92 (pA #[n]) w λa1 w=>
 (ag prog (bk #[50] 3 #[o]) w p)/\
 rd prog (Instr.build 73 #[(0,p),(1,a1)]) w λa2=>
 sD 73 a0 a2 w λw=>
 lD 33 a w λa3 w=>
 cL 80 (pA #[a3]) w λa4 w=>
 rgT prog a4 #[24] fg fh (λrs w=>(λ(K:K1)=>
 lD 73 a0 w λa5 w=>
 sD 73 b a5 w λw=>
 lR 73 b w λD=>
 K D w) (rsK K rs)) (λrs w=>(λ(K:K1)=>
 lR 73 b w λk=>
 K k w) (rsK K rs)) [] (fj x0 a b a0 c d f g h i o p j l m n a1 a2 a3 a4) w))/\
 (ev prog (Instr.alloc 73 true (.tuple #[])) w.drew λa6 w=>
 (lG 33 a w f)/\
 (bw prog f w (λu=>u=g))/\
 (fG 112 g 3 w h)/\
 (lG 107 h w i)/\
 (lG 33 a w j)/\
 (bw prog j w (λu=>u=l))/\
 (fG 112 l 3 w m)/\
 (lG 107 m w n)/\
 cL 91 (pA #[i]) w λa7 w=>
 (lG 33 a w j)/\
 (bw prog j w (λu=>u=l))/\
 (fG 112 l 3 w m)/\
 (lG 107 m w n)/\
 rd prog (bk #[50] 3 #[a7]) w λa8=>
 cL 92 (pA #[n]) w λa9 w=>
 (ag prog (bk #[50] 3 #[a7]) w a8)/\
 rd prog (Instr.build 73 #[(0,a8),(1,a9)]) w λb0=>
 sD 73 a6 b0 w λw=>
 lD 33 a w λb1 w=>
 cL 80 (pA #[b1]) w λb2 w=>
 rgT prog b2 #[24] fg fh (λrs w=>(λ(K:K1)=>
 lD 73 a6 w λb3 w=>
 sD 73 b b3 w λw=>
 lR 73 b w λC=>
 K C w) (rsK K rs)) (λrs w=>(λ(K:K1)=>
 lR 73 b w λx=>
 K x w) (rsK K rs)) [] (fj x0 a b a6 c d f g h i a7 a8 j l m n a9 b0 b1 b2) w))
def aaw (x0:an) (K:K1) (w:aa) (h:af6 K x0 w):ae prog 39 #[x0] w K:=
 kT (args:= [x0]) mixed Tryz.func39 aav.2 kR (cast kR h)
def G8 (x1 x3:an) (x:an) (B:(aa->Prop)->aa->Prop) (N R:aa->Prop) (w:aa):Prop:=
 B (λw=>
 lD 33 x1 w λa w=>
 cL 29 (pA #[a,x]) w λb w=>
 eX b 0 w λc w=>
 eX b 1 w λd w=>
 bC .eql 28 31 0 d w λe w=>
 af e (
 fA 73 x3 2 w λf w=>
 lD 3 f w λg w=>
 bC .add 3 34 1 g w λh w=>
 fA 73 x3 2 w λi w=>
 sD 3 i h w λw=>
 fA 73 x3 3 w λj w=>
 lD 3 j w λl w=>
 bT .add 3 38 39 l c w λm w=>
 fA 73 x3 3 w λn w=>
 sD 3 n m w λw=>
 N w) (
 N w)) w
def aax {l:Nat} {fn:FuncId} {D:Nat} {x:an} {w:aa} {k:K1} {x0 x1 x2 x3 x7 x8 x10 x11 x12 x13 x14 x15 x16 x17 x18 x19 x20 x21 x22 x23:an} (hL:Lp w l fn #[24] fg fh (fj x0 x1 x2 x3 x7 x8 x10 x11 x12 x13 x14 x15 x16 x17 x18 x19 x20 x21 x22 x23) D .ready none) (h:G8 x1 x3 x (LX l fn 24 fg fh (fj x0 x1 x2 x3 x7 x8 x10 x11 x12 x13 x14 x15 x16 x17 x18 x19 x20 x21 x22 x23) D) (GW l fn 24 fg fh (fj x0 x1 x2 x3 x7 x8 x10 x11 x12 x13 x14 x15 x16 x17 x18 x19 x20 x21 x22 x23) D .ready none true k) (GW l fn 24 fg fh (fj x0 x1 x2 x3 x7 x8 x10 x11 x12 x13 x14 x15 x16 x17 x18 x19 x20 x21 x22 x23) D .done (some .ret) false k) w):nZ prog (.func (.yield l) #[] #[]) #[x] w k:=
 sP mixed hL kR (cast kR h)
noncomputable def L9:=uD Tryz.f178 (.s .o (.s (.s .o (.b .o)) .o))
noncomputable def iy:Code:=ra (pw L9 4 5)
noncomputable def iz:Code:=rb (pw L9 4 5)
def iB (x0 x1 x2 x4 x6:an):Fr:=fz 13 0 [(0,x0),(1,x1),(2,x2),(4,x4),(6,x6)]
def aay:Prop:=
 ev prog (Instr.box 50 x0) w λa w=>
 rgT prog x1 #[7] iy iz (λrs w=>(λ(K:K1)=>
 lD 50 a w λb w=>
 K b w) (rsK K rs)) (λrs w=>(λ(K:K1)=>
 K (.slice none 0 0) w) (rsK K rs)) [] (iB x0 x1 a (.slice none 0 0) x1) w
def Ud (x0 x1:an) (K:K1) (w:aa) (h:aay K x0 x1 w):ae prog 178 #[x0,x1] w K:=
 kT (args:= [x0,x1]) mixed Tryz.func178 L9.2 kR (cast kR h)
def Bo (x2:an) (x:an) (B:(aa->Prop)->aa->Prop) (N R:aa->Prop) (w:aa):Prop:=
 B (λw=>
 lD 50 x2 w λa w=>
 ev prog (cq 50 1 #[(0,x)]) w λb w=>
 aV prog .append #[50,50] 50 #[false,false] (pA #[a,b]) w λc w=>
 sD 50 x2 c w λw=>
 N w) w
def Ue {l:Nat} {fn:FuncId} {D:Nat} {x:an} {w:aa} {k:K1} {x0 x1 x2 x4 x6:an} (hL:Lp w l fn #[7] iy iz (iB x0 x1 x2 x4 x6) D .ready none) (h:Bo x2 x (LX l fn 7 iy iz (iB x0 x1 x2 x4 x6) D) (GW l fn 7 iy iz (iB x0 x1 x2 x4 x6) D .ready none true k) (GW l fn 7 iy iz (iB x0 x1 x2 x4 x6) D .done (some .ret) false k) w):nZ prog (.func (.yield l) #[] #[]) #[x] w k:=
 sP mixed hL kR (cast kR h)
end
end Go.Proofs.YtmpehclnnjgmcaaGreatDoor
namespace Go.Sh
open Go
def lh (kk:IntKind) (w:aa) (r m:Nat) (L S:KVL):Prop:=∃es clock a,w.heap[m]? =some (.map es clock)/\MapKept.Stamped es clock/\es.toList.map (λx=>(x.key,x.val))=L.map (kvV kk)/\w.heap[r]? =some (.mapIter (some m) clock a clock)/\(leftOf es a).toList.map (λx=>(x.key,x.val))=S.map (kvV kk)
section
variable {P:Program} {kk:IntKind} {w w':aa} {r m:Nat} {L S:KVL} {z:an} {t:TypeId}
def lh.lt (h:lh kk w r m L S):r<w.heap.size/\m<w.heap.size/\r≠m:=by
 obtain ⟨es,clock,c,a,_,_,b,_⟩:=h;refine ⟨ay b,ay a,λe=> ?_⟩;rw [e,a] at b;cases b
def lh.map (h:lh kk w r m L S):bN kk w m L:=by
 obtain ⟨es,clock,d,a,b,c,_⟩:=h;exact ⟨es,clock,a,b,c⟩
def lh.frm {F:Nat->Prop} (h:lh kk w r m L S) (e:Frm F w w') (hr:¬F r) (hm:¬F m):lh kk w' r m L S:=by
 have hl:=h.lt;obtain ⟨es,clock,g,a,b,c,d,f⟩:=h;exact ⟨es,clock,g,(e.block m hl.2.1 hm).trans a,b,c,(e.block r hl.1 hr).trans d,f⟩
def Uf (hT:nU P kk t z) (h:bN kk w m L) {K:K1} (hK:∀w',Ext w w'->lh kk w' w.heap.size m L L->K (.pointer (some ⟨w.heap.size,0,none⟩)) w'):ev P (Instr.range t (.map (some m))) w K:=by
 obtain ⟨kt,et,ht,_,_⟩:=hT;obtain ⟨es,clock,a,b,c⟩:=h;unfold ev;rw [run_range_map w t kt et m es clock ht a];refine hK _ (Ext.alloc_self _ _) ⟨es,clock,#[],?_,b,c,aQ _ _,?_⟩
 ·rw [bv _ (ay a)];exact a
 ·have e:leftOf es #[]=es:=by
   unfold leftOf;rw [Array.filter_eq_self];simp
  rw [<-c,e]
def G9 {l:List MapEntry} (hn:(l.map (·.born)).Nodup) {A B:List MapEntry} {e:MapEntry} (h:l=A++e::B):l.filter (λx=> !(x.born==e.born))=A++B:=by
 subst h;rw [cg,ce,ee,bq] at hn;obtain ⟨_,⟨h2,_⟩,h3⟩:=hn;rw [dr,ct];have e1:A.filter (λx=> !(x.born==e.born))=A:=List.filter_eq_self.2 λx hx=>by
  have:=h3 x.born (List.mem_map.2 ⟨x,hx,rfl⟩) e.born cy;simp [this]
 have e2:B.filter (λx=> !(x.born==e.born))=B:=List.filter_eq_self.2 λx hx=>by
  have:x.born≠e.born:=λq=>h2 (q▸List.mem_map.2 ⟨x,hx,rfl⟩)
  simp [this]
 rw [e1,e2];simp
def aaz (h:lh kk w r m L S) (ty:TypeId) {K:K1} (h0:S= []->K (.tuple #[.bool false]) w)
  (h1:∀p S1 S2,S=S1++p::S2->∀w',Frm (λx=>x=r) w w'->lh kk w' r m L (S1++S2)->(∀K:K1,ev P (Instr.entry (.pointer (some ⟨r,0,none⟩))) w' K=K (.tuple #[.int kk p.1,p.2]) w')->K (.tuple #[.bool true,.int kk p.1,p.2]) w'):ev P (Instr.next (.pointer (some ⟨r,0,none⟩)) false ty) w K:=by
 have hl:=h.lt;obtain ⟨es,clock,i,a,b,c,d,f⟩:=h;have st:=(MapKept.stamped_iff es clock).1 b;rcases run_next_at (P:=P) w ty r m clock clock i es clock d a st.1 (bl _) with ⟨g0,g⟩|⟨e,he,w1,hw,g⟩
 ·unfold ev;rw [g];refine h0 ?_;have:(leftOf es i).toList= []:=cD (by simpa using g0);rw [this] at f;exact (List.map_eq_nil_iff.1 f.symm)
 ·unfold ev;rw [g];obtain ⟨A,B,j⟩:=List.append_of_mem he;rw [j,cg,ce] at f;obtain ⟨S1,S',hS,e1,e2⟩:=List.map_eq_append_iff.1 f.symm;obtain ⟨p,S2,hp,e3,e4⟩:=List.map_eq_cons_iff.1 e2;subst hp;have hk:e.key= .int kk p.1/\e.val=p.2:=by
   unfold kvV at e3;injection e3 with x y;exact ⟨x.symm,y.symm⟩
  rw [hk.1,hk.2];have s:w1.heap=w.heap:=by rcases hw with rfl|rfl<;>rfl
  have hs:(ChangeMaps.setBlock w1 r (.mapIter (some m) clock (i.push e.born) clock)).heap=w.heap.setIfInBounds r (.mapIter (some m) clock (i.push e.born) clock):=by
   show w1.heap.setIfInBounds _ _=_;rw [s]
  have l:(ChangeMaps.setBlock w1 r (.mapIter (some m) clock (i.push e.born) clock)).heap[r]? =some (.mapIter (some m) clock (i.push e.born) clock):=by
   rw [hs,Array.getElem?_setIfInBounds_self_of_lt hl.1]
  have n:(ChangeMaps.setBlock w1 r (.mapIter (some m) clock (i.push e.born) clock)).heap[m]? =some (.map es clock):=by
   rw [hs,ec hl.2.2];exact a
  refine h1 p S1 S2 hS _ ⟨?_,?_,?_,by rw [hs];simp,λk t o=>by rw [hs,ec (λq=>o q.symm)]⟩ ⟨es,clock,i.push e.born,n,b,c,l,?_⟩ ?_
  ·rcases hw with rfl|rfl<;>rfl
  ·rcases hw with rfl|rfl<;>rfl
  ·rcases hw with rfl|rfl<;>rfl
  ·have hn:((leftOf es i).toList.map (·.born)).Nodup:=by
    refine List.Nodup.sublist (List.Sublist.map _ ?_) st.2.1;unfold leftOf;rw [dn];exact eP
   have hf:(leftOf es (i.push e.born)).toList=(leftOf es i).toList.filter (λx=> !(x.born==e.born)):=by
    unfold leftOf;rw [dn,dn,fl];refine ef λx _=> ?_
    rw [contains_push]
    cases i.contains x.born<;>cases (x.born==e.born)<;>rfl
   rw [hf,G9 hn j,cg,cg,e1,e4]
  ·intro K';unfold ev;rw [run_entry_at _ r m clock i es clock e l n (mem_left he).1 st.2.1,hk.1,hk.2]
end
end Go.Sh
namespace Go.Proofs.YtmpehclnnjgmcaaGreatDoor
open Go Go.Sh
section
variable {w w':aa} {r m b:Nat} {L S:KVL} {kk:IntKind}
def lfM (w:aa) (m r:Nat):Nat:=
 match w.heap[m]?,w.heap[r]? with
 |some (.map es _),some (.mapIter _ _ seen _)=>(leftOf es seen).size
 |_,_=>0
def Ha (h:lh kk w r m L S):lfM w m r=S.length:=by
 obtain ⟨es,clock,b,a,_,_,d,f⟩:=h;have:=congrArg List.length f;simp only [cj] at this;simp only [lfM,a,d];simpa using this
def mTc:nU prog .i64 159 (.pointer none):=⟨3,160,by kernel_rfl,by kernel_rfl,by kernel_rfl⟩
def ad8 {y:an} (hm:bN .i64 w m L) (hb:ah w b 159 1 (λ_=> .map (some m))) (J:Nat->List Int->aa->Prop)
  (h0:∀r w1,w.heap.size<=r->r<w1.heap.size->Ext w w1->J r [] w1)
  (hE:∀r s w1 w2,w.heap.size<=r->J r s w1->Frm (λx=>x=r) w1 w2->J r s w2)
  (hy:∀r s x w1 (K':K1),w.heap.size<=r->r<w1.heap.size->J r s w1->x∈L.map (·.1)->s.length<L.length->(∀w2 G,Frm G w1 w2->¬G r->¬G m->¬G b->J r (s++ [x]) w2->K' (.bool true) w2)->nZ prog y #[.int .i64 x] w1 K')
  (K:K1) (hK:∀r s w',s.Perm (L.map (·.1))->w.heap.size<=r->J r s w'->K (.tuple #[]) w'):
  ae prog 142 #[y,.pointer (some ⟨b,0,none⟩)] w K:=by
 have f:w.cell? ⟨b,0,none⟩=some (.map (some m)):=hb.cell (i:=0) oM;have ltb:=hb.lt;refine T3 _ _ _ _ ?_;unfold Z5;refine zS1 f ?_;refine Uf mTc hm (λw1 e1 c=> ?_);refine Ec _ _ _ _ (λw2=>∃s S,lh .i64 w2 w.heap.size m L S/\(s++S.map (·.1)).Perm (L.map (·.1))/\J w.heap.size s w2) (λw2=>lfM w2 m w.heap.size) ⟨[],L,c,by simp,h0 _ _ (bl _) c.lt.1 e1⟩ ?_;intros;rename_i w2 hI E1 e;obtain ⟨s,S,it,pm,hj⟩:=hI;have n:=it.lt;unfold Bm;refine aaz it _ (λhS=> ?_) (λp S1 S2 hS w3 g3 d k=> ?_)
 ·subst hS;refine zS0 ?_;refine hK _ s _ (by simpa using pm) (bl _) hj
 ·have l:=hE _ _ _ _ (bl _) hj g3;have g:=d.lt;have j:s.length<L.length:=by
   have:=pm.length_eq;rw [hS] at this;simp at this;omega
  have hx:p.1∈L.map (·.1):=by
   refine pm.subset ?_;rw [hS];simp
  refine zS1 k ?_;refine hy _ s p.1 _ _ (bl _) g.1 l hx j (λw4 G g4 n1 n2 _ h=> ?_);have a:=d.frm g4 n1 n2;refine zS0 ?_;refine e _ ⟨s++ [p.1],S1++S2,a,?_,h⟩ ?_
  ·refine List.Perm.trans ?_ pm;rw [hS];simp only [cg,ce,cw,List.singleton_append];refine List.Perm.append_left s ?_;exact List.perm_middle.symm
  ·rw [Ha a,Ha it,hS];simp
def bA {G:Nat->Prop} {a b c:aa} (e:Ext a b) (g:Frm G b c) (h:∀x,G x->a.heap.size<=x):Ext a c:=Frm.to_ext (F:=λx=>a.heap.size<=x) ((Frm.of_ext e).trans g (λx _ hg=>h x hg)) (λx hx hg=>by omega)
def aaA (hm:bN .i64 w m L) (hb:ah w b 159 1 (λ_=> .map (some m))) (hL:L.length<1000000) (K:K1)
  (hK:∀s v w',s.Perm (L.map (·.1))->Ext w w'->bi w.heap.size v->SlO w' 3 1 v s.length (aX s)->K v w'):
  ae prog 178 #[.slice none 0 0,.func (.func 142) #[] #[.pointer (some ⟨b,0,none⟩)]] w K:=by
 have I:=hm.lt;have H:=hb.lt;refine Ud _ _ _ _ ?_;unfold aay;refine zS0 ?_;refine ⟨by kernel_rfl,λfn w1 e1 y hD l=> ?_⟩;have z:ah w1 w.heap.size 50 1 (λ_=>Value.slice none 0 0):=((ah.new w [Value.slice none 0 0] 50).congr (λi hi=>by rw [show i=0 by simpa using hi];rfl)).ext e1;have D:(w.alloc (.cells #[Value.slice none 0 0] 50)).heap.size=w.heap.size+1:=size_alloc _ _;rw [D] at y hD l ⊢;have d:Ext w w1:=(Ext.alloc_self _ _).trans e1;have M:¬m=w.heap.size:=oM;refine ad8 (hm.ext d) (hb.ext d) (λr s w2=>Lp w2 (w.heap.size+1+1) fn #[7] iy iz (iB (.slice none 0 0) (.func (.func 142) #[] #[.pointer (some ⟨b,0,none⟩)]) (.pointer (some ⟨w.heap.size,0,none⟩)) (.slice none 0 0) (.func (.func 142) #[] #[.pointer (some ⟨b,0,none⟩)])) (w.heap.size+1) .ready none/\w2.heap[w.heap.size+1]? =some (.deferred (some []))/\Ext w w2/\∃v,ah w2 w.heap.size 50 1 (λ_=>v)/\SlO w2 3 1 v s.length (aX s)/\∀bb,v.ownBlock=some bb->w.heap.size+3<=bb/\bb≠r) (λr w2 hr p e2=> ?_) (λr s w2 w3 hr hj g=> ?_) (λr s x w2 K' hr p hj hx J B=> ?_) _ (λr s w2 hp hr hj=> ?_)
 ·exact ⟨l.ext e2,(e2.blk _ (ay hD)).trans hD,d.trans e2,.slice none 0 0,z.ext e2,SlO.nil _ _ _,λbb h=>by cases h⟩
 ·obtain ⟨j1,j2,j3,v,j4,j5,j6⟩:=hj;exact ⟨j1.frm g oM,(g.block _ (ay j2) oM).trans j2,bA j3 g (λx h=>by omega),v,j4.frm g oM,j5.frm g (λbb h=>(j6 bb h).2),j6⟩
 ·obtain ⟨j1,j2,j3,v,j4,j5,j6⟩:=hj;refine Ue j1 ?_;unfold Bo LX;refine ⟨j1,λw3 g3 A=> ?_⟩;have k2:=(g3.block _ (ay j2) oM).trans j2;have k4:=j4.frm g3 oM;have k5:=j5.frm g3 (λbb h=>by have:=j6 bb h;omega);have hc:w3.cell? ⟨w.heap.size,0,none⟩=some v:=k4.cell (i:=0) oM;have F:=k4.lt;refine zS1 hc ?_;refine du jG (k5.ext xZ) (m:=1) (news:= [.int .i64 x]) rfl ?_ rfl oM oM oM (λv' w4 k hf hn _=> ?_)
  ·intro j u hj;have e0:j=0:=by
    cases j with
    |zero=>rfl
    |succ j=>simp at hj
   subst e0;injection hj with hj;subst hj;exact (ah.new w3 [Value.int .i64 x] 3).cell (i:=0) (by simp)
  ·have g4:Frm (λb=>v.ownBlock=some b) w3 w4:=(Frm.of_ext (Ext.alloc_self w3 _)).trans hf (λ_ _ h=>h);have c4:=k4.frm g4 (λh=>by have:=j6 _ h;omega);have E:=A.frm g4 (λh=>by have:=j6 _ h;omega);have d4:=(g4.block _ (ay k2) (λh=>by have:=j6 _ h;omega)).trans k2;have G:=c4.lt;have c:∀bb,v'.ownBlock=some bb->w.heap.size+3<=bb/\bb≠r:=λbb h=>by
    rcases hn bb h with h|h
    ·exact j6 bb h
    ·have:=g3.size;rw [size_alloc] at h;omega
   have c5:=c4.set v' (i:=0) oM;have a:Frm (λx=>x=w.heap.size) w4 (w4.setCell ⟨w.heap.size,0,none⟩ v'):=(Frm.refl _ w4).set v' (λ_=>rfl);have s5:=k.frm a (λbb h=>by have:=c bb h;omega);have q:=E.frm a oM;have d5:=(a.block _ (ay d4) oM).trans d4;have f:Frm (λx=>x=w.heap.size+1+1\/x=w.heap.size\/v.ownBlock=some x) w2 (w4.setCell ⟨w.heap.size,0,none⟩ v'):=((g3.mono (λx h=> .inl h)).trans g4 (λx _ h=> .inr (.inr h))).trans a (λx _ h=> .inr (.inl h));have C:w4.cell? ⟨w.heap.size,0,none⟩=some v:=c4.cell (i:=0) oM;have fz:=c4.frz 0;have iv:=aP k;simp (disch:=try exact dU) only [↓RBp,↓RA,↓reduceIte,Nat.reduceAdd,Nat.reduceMul,Nat.reduceEqDiff,RZ9,C,fz,iv,ke (t:=50) (by kernel_rfl) w.heap.size 0 v' w4 _ iv];refine ⟨q,λw6 g6 o=> ?_⟩;have n:=f.trans g6 (λx _ h=> .inl h);have gx:∀x,(x=w.heap.size+1+1\/x=w.heap.size\/v.ownBlock=some x)->w.heap.size<=x:=by
    rintro x (h|h|h)
    ·omega
    ·omega
    ·have:=j6 _ h;omega
   refine B w6 _ n ?_ ?_ ?_ ⟨o,(g6.block _ (ay d5) oM).trans d5,bA j3 n gx,v',(c5.congr (λi hi=>by rw [show i=0 by omega];rfl)).frm g6 oM,?_,c⟩
   ·rintro (h|h|h)
    ·omega
    ·omega
    ·exact (j6 _ h).2 rfl
   ·rintro (h|h|h)
    ·omega
    ·omega
    ·have:=j6 _ h;omega
   ·rintro (h|h|h)
    ·omega
    ·omega
    ·have:=j6 _ h;omega
   ·have:=s5.frm g6 (λbb h=>by have:=c bb h;omega);have e:aX (s++ [x])=aX s++ [.int .i64 x]:=by simp
    rw [e,aq];exact this
 ·obtain ⟨j1,j2,j3,v,j4,j5,j6⟩:=hj;refine ⟨.ready,none,by simp,j1,λw3 g3=> ?_⟩;have k4:=j4.frm g3 oM;have hc:w3.cell? ⟨w.heap.size,0,none⟩=some v:=k4.cell (i:=0) oM;unfold af4;simp (disch:=try exact dZ) only [↓RBp,↓RA,↓reduceIte,Nat.reduceAdd,Nat.reduceMul,Nat.reduceEqDiff,RB,RX,RA2,hc,rsK];have d3:=(g3.block _ (ay j2) oM).trans j2;refine ⟨d3,λw4 g4=> ?_⟩;have f:Frm (λx=>w.heap.size<=x) w2 w4:=(g3.mono (λx h=>by omega)).trans g4 (λx _ h=>by omega);refine hK s v w4 hp (bA j3 f (λx h=>by omega)) (λbb h=>by have:=j6 bb h;omega) ((j5.frm g3 (λbb h=>by have:=j6 bb h;omega)).frm g4 (λbb h=>by have:=j6 bb h;omega))
def Ug (hm:bN .i64 w m L) (hb:ah w b 159 1 (λ_=> .map (some m))) (hL:L.length<1000000) (K:K1)
  (hK:∀s v w',s.Perm (L.map (·.1))->Ext w w'->bi w.heap.size v->SlO w' 3 1 v s.length (aX s)->K v w'):
  ae prog 140 #[.func (.func 142) #[] #[.pointer (some ⟨b,0,none⟩)]] w K:=by
 refine T2 _ _ _ ?_;unfold Z2;refine zS0 ?_;exact aaA hm hb hL _ hK
end
end Go.Proofs.YtmpehclnnjgmcaaGreatDoor
namespace Go.Proofs.YtmpehclnnjgmcaaGreatDoor
open Go Go.Sh Go.Sort Go.Shelf Go.Proofs
def akh:Go.Shelf.Ren:=⟨λ|5=>141|8=>180|7=>179|19=>197|20=>198|10=>188|11=>189|12=>190|13=>191|14=>192|15=>193|16=>194|17=>195|18=>196|30=>210|31=>211|32=>212|33=>213|34=>214|35=>215|40=>221|n=>n,λ|23=>50|25=>3|3=>3|32=>129|22=>50|0=>0|44=>126|46=>26|4=>4|36=>260|35=>259|41=>127|5=>5|9=>9|53=>276|57=>279|63=>284|64=>43|n=>n,λ|n=>n⟩
def aiQ:SlLaysM.n5 prog akh:={
 mixed:=by kernel_rfl
 f5:=⟨Tryz.f141.name,by decide,Tryz.func141.trans (congrArg some (by kernel_rfl))⟩
 f7:=⟨Tryz.f179.name,by decide,Tryz.func179.trans (congrArg some (by kernel_rfl))⟩
 f8:=Tryz.func180.trans (congrArg some (by kernel_rfl))
 f10:=⟨Tryz.f188.name,by decide,Tryz.func188.trans (congrArg some (by kernel_rfl))⟩
 f11:=⟨Tryz.f189.name,by decide,Tryz.func189.trans (congrArg some (by kernel_rfl))⟩
 f12:=⟨Tryz.f190.name,by decide,Tryz.func190.trans (congrArg some (by kernel_rfl))⟩
 f13:=⟨Tryz.f191.name,by decide,Tryz.func191.trans (congrArg some (by kernel_rfl))⟩
 f14:=⟨Tryz.f192.name,by decide,Tryz.func192.trans (congrArg some (by kernel_rfl))⟩
 f15:=⟨Tryz.f193.name,by decide,Tryz.func193.trans (congrArg some (by kernel_rfl))⟩
 f16:=⟨Tryz.f194.name,by decide,Tryz.func194.trans (congrArg some (by kernel_rfl))⟩
 f17:=⟨Tryz.f195.name,by decide,Tryz.func195.trans (congrArg some (by kernel_rfl))⟩
 f18:=⟨Tryz.f196.name,by decide,Tryz.func196.trans (congrArg some (by kernel_rfl))⟩
 f19:=Tryz.func197.trans (congrArg some (by kernel_rfl))
 f20:=Tryz.func198.trans (congrArg some (by kernel_rfl))
 f30:=⟨Tryz.f210.name,by decide,Tryz.func210.trans (congrArg some (by kernel_rfl))⟩
 f31:=Tryz.func211.trans (congrArg some (by kernel_rfl))
 f32:=Tryz.func212.trans (congrArg some (by kernel_rfl))
 f33:=⟨Tryz.f213.name,by decide,Tryz.func213.trans (congrArg some (by kernel_rfl))⟩
 f34:=⟨Tryz.f214.name,by decide,Tryz.func214.trans (congrArg some (by kernel_rfl))⟩
 f35:=⟨Tryz.f215.name,by decide,Tryz.func215.trans (congrArg some (by kernel_rfl))⟩
 f40:=⟨Tryz.f221.name,by decide,Tryz.func221.trans (congrArg some (by kernel_rfl))⟩
 t0:=Tryz.underlying0
 a0:=Tryz.isAgg0
 z0:=Tryz.sizeOf0
 v0:=Tryz.zeroValue0
 t3:=Tryz.underlying3
 a3:=Tryz.isAgg3
 z3:=Tryz.sizeOf3
 v3:=Tryz.zeroValue3
 t4:=Tryz.underlying4
 a4:=Tryz.isAgg4
 z4:=Tryz.sizeOf4
 v4:=Tryz.zeroValue4
 t5:=Tryz.underlying5
 a5:=Tryz.isAgg5
 z5:=Tryz.sizeOf5
 v5:=Tryz.zeroValue5
 t9:=Tryz.underlying9
 a9:=Tryz.isAgg9
 z9:=Tryz.sizeOf9
 v9:=Tryz.zeroValue9
 t22:=Tryz.underlying50
 a22:=Tryz.isAgg50
 z22:=Tryz.sizeOf50
 v22:=Tryz.zeroValue50
 t23:=Tryz.underlying50
 a23:=Tryz.isAgg50
 z23:=Tryz.sizeOf50
 v23:=Tryz.zeroValue50
 t25:=Tryz.underlying3
 a25:=Tryz.isAgg3
 z25:=Tryz.sizeOf3
 v25:=Tryz.zeroValue3
 t32:=Tryz.underlying129
 a32:=Tryz.isAgg129
 z32:=Tryz.sizeOf129
 v32:=Tryz.zeroValue129
 t35:=Tryz.underlying259
 a35:=Tryz.isAgg259
 z35:=Tryz.sizeOf259
 v35:=Tryz.zeroValue259
 t36:=Tryz.underlying260
 a36:=Tryz.isAgg260
 z36:=Tryz.sizeOf260
 v36:=Tryz.zeroValue260
 t41:=Tryz.underlying127
 a41:=Tryz.isAgg127
 z41:=Tryz.sizeOf127
 v41:=Tryz.zeroValue127
 t44:=Tryz.underlying126
 a44:=Tryz.isAgg126
 z44:=Tryz.sizeOf126
 v44:=Tryz.zeroValue126
 t46:=Tryz.underlying26
 a46:=Tryz.isAgg26
 z46:=Tryz.sizeOf26
 v46:=Tryz.zeroValue26
 t53:=Tryz.underlying276
 a53:=Tryz.isAgg276
 z53:=Tryz.sizeOf276
 v53:=Tryz.zeroValue276
 t57:=Tryz.underlying279
 a57:=Tryz.isAgg279
 z57:=Tryz.sizeOf279
 v57:=Tryz.zeroValue279
 t63:=Tryz.underlying284
 a63:=Tryz.isAgg284
 z63:=Tryz.sizeOf284
 v63:=Tryz.zeroValue284
 t64:=Tryz.underlying43
 a64:=Tryz.isAgg43
 z64:=Tryz.sizeOf43
 v64:=Tryz.zeroValue43}
def Uh {w:aa} {g o n:Nat} {os:Array Obj} {a:Array an} {e:TypeId} {fr:Nat×Nat} (d:Array Int) (hb:w.heap[g]? =some (.cells a e fr)):
  (grow (putRow (Value.int .i64) (Sort.ahead w n) g o d) os).heap[g]? =some (.cells (putCells (Value.int .i64) o d a) e fr):=by
 have hg:g<w.heap.size:=(Array.getElem?_eq_some_iff.1 hb).1;rw [heap_grow_old _ _ (by simpa using hg)];simp [putRow,mapBlock,Sort.ahead,eu,hb,onCells]
def Ma {w:aa} {g o n:Nat} {os:Array Obj} (d:Array Int):Frm (λx=>x=g) w (grow (putRow (Value.int .i64) (Sort.ahead w n) g o d) os):=by
 refine ⟨rfl,rfl,rfl,by simp,λk hk a=> ?_⟩;rw [heap_grow_old _ _ (by simpa using hk)];have:g≠k:=λe=>a e.symm
 simp [putRow,mapBlock,Sort.ahead,eu,this]
def ad9 {w:aa} {v:an} {s:List Int} (hS:SlO w 3 1 v s.length (aX s)) (hl:s.length<1000000) (K:K1) (hK:∀w',Frm (λx=>v.ownBlock=some x) w w'->SlO w' 3 1 v s.length (aX (s.mergeSort λx y=>decide (x<=y)))->K (.tuple #[]) w'):
  ae prog 141 #[v] w K:=by
 rcases hS.2 with ⟨rfl,hz⟩|⟨b,o,cap,a,rfl,hb,h1,h2,h3,h4⟩
 ·have hs:s= []:=cD hz;subst hs;refine Calls.mono (AnyM.slices_Sort_int_none aiQ none 0 w) ?_;rintro e w' ⟨rfl,rfl⟩;exact hK _ (Frm.refl _ _) (by simpa using SlO.nil _ _ _)
 ·have hH:Holds (Value.int .i64) w b o s.toArray:=λj hj=>by
   have c:j<s.length:=by simpa using hj
   have:=h4 j (.int .i64 s[j]) (by simp [c]);refine ⟨?_,?_⟩
   ·simp only [World.cell?,hb,Option.isSome_none,eb,if_false,this];simp [c]
   ·have:=hS.frz (b:=b) rfl (o+j);exact this
  refine Calls.mono (AnyM.slices_Sort_int aiQ b o cap s w hH (ay hb) oM) ?_;rintro e w' ⟨rfl,nn,os,rfl⟩;have fr:=Ma (w:=w) (g:=b) (o:=o) (n:=nn) (os:=os) (s.mergeSort λx y=>decide (x<=y)).toArray;refine hK _ (fr.mono (λx e=>by rw [e];rfl)) ⟨by simp,.inr ⟨b,o,cap,_,rfl,Uh _ hb,h1,h2,by simpa [putCells] using h3,λi u hi=> ?_⟩⟩;have d:i<s.length:=by
   have:=(List.getElem?_eq_some_iff.1 hi).1;simpa using this
  have f:i<(s.mergeSort λx y=>decide (x<=y)).length:=by simpa using d
  simp only [aX,fu,dd f,Option.map_some,Option.some.injEq] at hi;subst hi;have h:o+i<a.size:=oM;simp [putCells,h,d]
end Go.Proofs.YtmpehclnnjgmcaaGreatDoor
namespace Go.Proofs.YtmpehclnnjgmcaaGreatDoor
open Go Go.Sh
structure CgB where
 b:Nat
 t:an
 k:an
 d:an
def CgB.own (c:CgB) (x:Nat):Prop:=x=c.b\/c.t.ownBlock=some x\/c.k.ownBlock=some x\/c.d.ownBlock=some x
def cgF (c:CgB) (i:Nat):an:= [c.t,c.k,c.d].getD i undef
structure Chg (w:aa) (c:CgB) (T:List Int) (Ks:List Nat) (M:List Int):Prop where
 bx:ah w c.b 162 3 (cgF c)
 t:SlO w 3 1 c.t T.length (aX T)
 k:SlO w 5 1 c.k Ks.length (u8L Ks)
 d:SlO w 3 1 c.d M.length (aX M)
 ne:c.t.ownBlock≠some c.b/\c.k.ownBlock≠some c.b/\c.d.ownBlock≠some c.b
 td:∀x,c.t.ownBlock=some x->c.d.ownBlock≠some x/\c.k.ownBlock≠some x
 kd:∀x,c.k.ownBlock=some x->c.d.ownBlock≠some x
def Chg.frm {w w':aa} {c:CgB} {T M:List Int} {Ks:List Nat} {G:Nat->Prop} (h:Chg w c T Ks M) (g:Frm G w w') (hG:∀x,c.own x->¬G x):Chg w' c T Ks M:=
 ⟨h.bx.frm g (hG _ (.inl rfl)),h.t.frm g (λb e=>hG _ (.inr (.inl e))),h.k.frm g (λb e=>hG _ (.inr (.inr (.inl e)))),h.d.frm g (λb e=>hG _ (.inr (.inr (.inr e)))),h.ne,h.td,h.kd⟩
def Chg.lt {w:aa} {c:CgB} {T M:List Int} {Ks:List Nat} (h:Chg w c T Ks M) {x:Nat} (hx:c.own x):x<w.heap.size:=by
 rcases hx with rfl|e|e|e
 ·exact h.bx.lt
 ·exact h.t.lt e
 ·exact h.k.lt e
 ·exact h.d.lt e
structure hJ (N0:Nat) (w:aa) (mb cb n:Nat) (C:Nat->CgB) (lv:Nat->Bool) (T:Nat->List Int) (Ks:Nat->List Nat) (M:Nat->List Int):Prop where
 mp:∃L,bN .i64 w mb L/\(∀p∈L,∃k,k<n/\p.1=((26+32*k:Nat):Int))/\∀k,k<n->bV L ((26+32*k:Nat):Int)=if lv k=true then some (.pointer (some ⟨(C k).b,0,none⟩)) else none
 cx:ah w cb 159 1 (λ_=> .map (some mb))
 ch:∀k,k<n->lv k=true->Chg w (C k) (T k) (Ks k) (M k)
 fr:∀k,k<n->lv k=true->∀x,(C k).own x->N0<=x/\x≠mb/\x≠cb
 dj:∀k j,k<n->j<n->lv k=true->lv j=true->∀x,(C k).own x->(C j).own x->k=j
 em:∀k,lv k=false->T k= []/\Ks k= []/\M k= []
 n0:N0<=mb/\N0<=cb/\mb≠cb
def upd {α:Type} (g:Nat->α) (k:Nat) (x:α) (j:Nat):α:=if j=k then x else g j
def dw {α:Type} (g:Nat->α) (k:Nat) (x:α):upd g k x k=x:=if_pos rfl
def dF {α:Type} (g:Nat->α) {k j:Nat} (x:α) (h:j≠k):upd g k x j=g j:=if_neg h
section
variable {w w':aa} {N0 mb cb n k:Nat} {C:Nat->CgB} {lv:Nat->Bool} {T M:Nat->List Int} {Ks:Nat->List Nat}
def hJ.lt (h:hJ N0 w mb cb n C lv T Ks M):mb<w.heap.size/\cb<w.heap.size:=by
 obtain ⟨L,a,_⟩:=h.mp;exact ⟨a.lt,h.cx.lt⟩
def hJ.frm {G:Nat->Prop} (h:hJ N0 w mb cb n C lv T Ks M) (g:Frm G w w') (hG:∀x,x<w.heap.size->N0<=x->¬G x):hJ N0 w' mb cb n C lv T Ks M:=by
 obtain ⟨L,a,b,c⟩:=h.mp;exact ⟨⟨L,a.frm g (hG _ a.lt h.n0.1),b,c⟩,h.cx.frm g (hG _ h.cx.lt h.n0.2.1),λk hk hl=>(h.ch k hk hl).frm g (λx hx=>hG x ((h.ch k hk hl).lt hx) (h.fr k hk hl x hx).1),h.fr,h.dj,h.em,h.n0⟩
def hJ.ext (h:hJ N0 w mb cb n C lv T Ks M) (e:Ext w w'):hJ N0 w' mb cb n C lv T Ks M:=
 h.frm (G:=λ_=>False) (Frm.of_ext e) (λ_ _ _ h=>h)
def hJ.put {G:Nat->Prop} {c:CgB} {t m:List Int} {ks:List Nat} (h:hJ N0 w mb cb n C lv T Ks M) (hk:k<n) (hl:lv k=true) (g:Frm G w w') (hG:∀x,G x->(C k).own x) (hb:c.b=(C k).b) (hc:Chg w' c t ks m) (hn:∀x,c.own x->(C k).own x\/w.heap.size<=x):hJ N0 w' mb cb n (upd C k c) lv (upd T k t) (upd Ks k ks) (upd M k m):=by
 obtain ⟨L,a,b,d⟩:=h.mp;have lt:=h.lt;have n0:=h.n0;have fk:=h.fr k hk hl;refine ⟨⟨L,a.frm g (λhx=>(fk _ (hG _ hx)).2.1 rfl),b,λj hj=> ?_⟩,h.cx.frm g (λhx=>(fk _ (hG _ hx)).2.2 rfl),λj hj f=> ?_,λj hj f x hx=> ?_,λi j hi hj l f x hx hy=> ?_,λj f=> ?_,n0⟩
 ·rw [d j hj];by_cases e:j=k
  ·subst e;rw [dw,hb]
  ·rw [dF _ _ e]
 ·by_cases e:j=k
  ·subst e;simp only [dw];exact hc
  ·simp only [dF _ _ e];exact (h.ch j hj f).frm g (λx hx hg=>e (h.dj j k hj hk f hl x hx (hG x hg)))
 ·by_cases e:j=k
  ·subst e;rw [dw] at hx;rcases hn x hx with hx|hx
   ·exact fk x hx
   ·exact ⟨by omega,by omega,by omega⟩
  ·rw [dF _ _ e] at hx;exact h.fr j hj f x hx
 ·have old:∀j,j<n->lv j=true->j≠k->(C j).own x->¬w.heap.size<=x:=λj hj f _ hx=>by have:=(h.ch j hj f).lt hx;omega
  by_cases e:i=k
  ·by_cases e2:j=k
   ·omega
   ·subst e;rw [dw] at hx;rw [dF _ _ e2] at hy;rcases hn x hx with hx|hx
    ·exact h.dj _ _ hi hj l f x hx hy
    ·exact absurd hx (old j hj f e2 hy)
  ·by_cases e2:j=k
   ·subst e2;rw [dw] at hy;rw [dF _ _ e] at hx;rcases hn x hy with hy|hy
    ·exact h.dj _ _ hi hj l f x hx hy
    ·exact absurd hy (old i hi l e hx)
   ·rw [dF _ _ e] at hx;rw [dF _ _ e2] at hy;exact h.dj _ _ hi hj l f x hx hy
 ·have e:j≠k:=λe=>by rw [e,hl] at f;cases f
  simp only [dF _ _ e];exact h.em j f
def aiR (h:hJ N0 w mb cb n C lv T Ks M) (hk:k<n) (hN:N0<=w.heap.size) (K:K1)
  (hK:∀w' C',Frm (λx=>x=mb) w w'->hJ N0 w' mb cb n C' (upd lv k true) T Ks M->K (.pointer (some ⟨(C' k).b,0,none⟩)) w'):
  ae prog 95 #[.int .i64 ((26+32*k:Nat):Int),.pointer (some ⟨cb,0,none⟩)] w K:=by
 obtain ⟨L,a,b,d⟩:=h.mp;have lt:=h.lt;have n0:=h.n0;have hc:w.cell? ⟨cb,0,none⟩=some (.map (some mb)):=h.cx.cell (i:=0) oM;have g:∀(w1:aa) (K:K1),Ext w w1->ev prog (Instr.lookup 159 (.map (some mb)) (.int .i64 ((26+32*k:Nat):Int)) false) w1 K=K ((if lv k=true then some (.pointer (some ⟨(C k).b,0,none⟩)) else none:Option an).getD (.pointer none)) w1:=λw1 K e=>by rw [dY mTc (a.ext e),d k hk]
 refine ZP _ _ _ _ ?_;unfold afZ
 cases hl:lv k with
 |true=>
  rw [hl] at g;have hu:upd lv k true=lv:=by
   funext j;by_cases e:j=k
   ·subst e;rw [dw,hl]
   ·rw [dF _ _ e]
  simp (disch:=try exact dX) only [↓RBp,↓RA,↓reduceIte,Nat.reduceAdd,Nat.reduceMul,Nat.reduceEqDiff,RB,RX,RA2,hc,g,Option.getD_some];rw [Bg];unfold wX;refine hK _ C (Frm.of_ext (Ext.refl _)) ?_;rw [hu];exact h
 |false=>
  rw [hl] at g;have r:=lt.1;have q:=lt.2;simp (disch:=try exact dX) only [↓RBp,↓RA,↓reduceIte,Nat.reduceAdd,Nat.reduceMul,Nat.reduceEqDiff,RB,RX,RA2,hc,g,Option.getD_none,eb];have hB:=ah.new w [Value.slice none 0 0,Value.slice none 0 0,Value.slice none 0 0] 162;refine nI mTc (a.ext xZ) _ _ (λw3 m3 g3=> ?_);rw [Bg];unfold wX;have l:Frm (λx=>x=mb) w w3:=(Frm.of_ext (Ext.alloc_self w _)).trans g3 (λ_ _ h=>h);have m:=hB.frm g3 oM;have em:=h.em k hl;have o:∀j,j<n->lv j=true->Chg w3 (C j) (T j) (Ks j) (M j):=λj hj c=>(h.ch j hj c).frm l (λx hx e=>(h.fr j hj c x hx).2.1 e)
  have ok:hJ N0 w3 mb cb n (upd C k ⟨w.heap.size,.slice none 0 0,.slice none 0 0,.slice none 0 0⟩) (upd lv k true) T Ks M:=by
   refine ⟨⟨_,m3,λp hp=> ?_,λj hj=> ?_⟩,h.cx.frm l (λe=>n0.2.2 e.symm),λj hj c=> ?_,λj hj c x hx=> ?_,λi j hi hj f c x hx hy=> ?_,λj c=> ?_,n0⟩
   ·have:setL L ((26+32*k:Nat):Int) (.pointer (some ⟨w.heap.size,0,none⟩))=L++ [(((26+32*k:Nat):Int),.pointer (some ⟨w.heap.size,0,none⟩))]:=by
     unfold setL;rw [if_neg (by rw [d k hk,hl];simp)]
    rw [this] at hp;rcases List.mem_append.1 hp with hp|hp
    ·exact b p hp
    ·simp only [ab] at hp;subst hp;exact ⟨k,hk,rfl⟩
   ·rw [mu];by_cases e:j=k
    ·subst e;rw [if_pos rfl,dw,dw,if_pos rfl]
    ·rw [if_neg oM,dF _ _ e,dF _ _ e];exact d j hj
   ·by_cases e:j=k
    ·subst e;rw [dw,em.1,em.2.1,em.2.2];refine ⟨?_,SlO.nil _ _ _,SlO.nil _ _ _,SlO.nil _ _ _,⟨by simp [Value.ownBlock],by simp [Value.ownBlock],by simp [Value.ownBlock]⟩,λx h=>(by cases h),λx h=>(by cases h)⟩;exact m
    ·rw [dF _ _ e] at c ⊢;exact o j hj c
   ·by_cases e:j=k
    ·subst e;rw [dw] at hx;rcases hx with hx|hx|hx|hx
     ·have hx:x=w.heap.size:=hx;omega
     ·cases hx
     ·cases hx
     ·cases hx
    ·rw [dF _ _ e] at c hx;exact h.fr j hj c x hx
   ·have nw:∀j,j<n->lv j=true->(C j).own x->(CgB.own ⟨w.heap.size,.slice none 0 0,.slice none 0 0,.slice none 0 0⟩ x)->False:=λj hj c h1 h2=>by
     have:=(h.ch j hj c).lt h1;rcases h2 with h2|h2|h2|h2
     ·have h2:x=w.heap.size:=h2;omega
     ·cases h2
     ·cases h2
     ·cases h2
    by_cases e:i=k
    ·by_cases e2:j=k
     ·omega
     ·subst e;rw [dw] at hx;rw [dF _ _ e2] at hy c;exact (nw j hj c hy hx).elim
    ·by_cases e2:j=k
     ·subst e2;rw [dw] at hy;rw [dF _ _ e] at hx f;exact (nw i hi f hx hy).elim
     ·rw [dF _ _ e] at hx f;rw [dF _ _ e2] at hy c;exact h.dj _ _ hi hj f c x hx hy
   ·have e:j≠k:=λe=>by rw [e,dw] at c;cases c
    rw [dF _ _ e] at c;exact h.em j c
  have:=hK w3 _ l ok;rw [dw] at this;exact this
end
def aaB {a:Int}:∀{L:List Int} {m:Nat},(∀x∈L,0<=x/\x<a)->(∀x∈L,bf m x.toNat=false)->L.Nodup->∃m',onc a L m=some m':=by
 intro L
 induction L with
 |nil=>intro m _ _ _;exact ⟨m,rfl⟩
 |cons x L ih=>
  intro m hr hb hn;simp only [onc];have h1:=hr x (by simp);have h2:=hb x (by simp);rw [if_pos ⟨h1,h2⟩];rw [bq] at hn;refine ih (λy hy=>hr y (by simp [hy])) (λy hy=> ?_) hn.2;rw [oQ,m9,hb y (by simp [hy])];have c:=hr y (by simp [hy]);have b:y≠x:=λe=>hn.1 (e▸hy)
  have:¬x.toNat=y.toNat:=oM;simp [this]
def aaC {c:Int} {L M:List Int} {ks:List Nat}:nT c L ks M↔ks.length=L.length/\(∀(i k:Nat),ks[i]? =some k->k≠0/\k<=127)/\(∀(i:Nat) (x:Int),(L++M)[i]? =some x->0<=x/\x<perS c)/\∀(i j:Nat) (x y:Int),j<i->(L++M)[i]? =some x->(L++M)[j]? =some y->y≠x:=by
 constructor
 ·intro h;have hL:=h.vL;have hM:=h.vM;obtain ⟨n1,n2,n3⟩:=h.nd;have nd:(L++M).Nodup:=by
   rw [ee];refine ⟨List.Pairwise.of_map Int.toNat (λa b h e=>h (by rw [e])) n1,List.Pairwise.of_map Int.toNat (λa b h e=>h (by rw [e])) n2,λa ha b hb e=> ?_⟩;subst e;have h1:=ie ha;have h2:=ie hb;rw [n3 _ h1] at h2;cases h2
  refine ⟨h.len,λi k hk=>h.kin k (cN hk),λi x hx=> ?_,λi j x y l hx hy e=> ?_⟩
  ·rcases List.mem_append.1 (cN hx) with h1|h1
   ·exact hL x h1
   ·exact hM x h1
  ·subst e;have hj:=(List.getElem?_eq_some_iff.1 hy).1;have:=(ga hj nd).1 (hy.trans hx.symm);omega
 ·intro ⟨h1,h2,h3,h4⟩;have d:∀x∈L++M,0<=x/\x<perS c:=λx hx=>by
   obtain ⟨i,hi⟩:=List.mem_iff_getElem?.1 hx;exact h3 i x hi
  have nd:(L++M).Nodup:=by
   rw [List.nodup_iff_pairwise_ne,List.pairwise_iff_getElem];intro i j hi hj f e;exact h4 j i _ _ f (dd hj) (dd hi) e
  rw [ee] at nd;refine ⟨h1,λk hk=> ?_,?_⟩
  ·obtain ⟨i,hi⟩:=List.mem_iff_getElem?.1 hk;exact h2 i k hi
  ·obtain ⟨m,hm⟩:=aaB (L:=L) (m:=0) (λx hx=>d x (by simp [hx])) (λx _=>by simp [bf]) nd.1;obtain ⟨_,_,hb⟩:=vY hm;obtain ⟨m',g⟩:=aaB (L:=M) (m:=m) (λx hx=>d x (by simp [hx])) (λx hx=>by
    rw [hb]
    cases hh:fL L x.toNat with
    |false=>simp [bf]
    |true=>
     obtain ⟨y,hy,n⟩:=gO hh;have:=d x (by simp [hx]);have:=d y (by simp [hy]);have e:y=x:=oM;exact absurd e (nd.2.2 y hy x hx)) nd.2.1
   rw [hm,Option.bind_some,g];rfl
def eO {α β:Type} (g:α->β):∀{L:List α},(∀a∈L,∀b∈L,g a=g b->a=b)->L.Nodup->(L.map g).Nodup:=by
 intro L
 induction L with
 |nil=>intro _ _;simp
 |cons x L ih=>
  intro h hn;rw [bq] at hn;rw [ce,bq];refine ⟨λhm=> ?_,ih (λa ha b hb=>h a (ap _ ha) b (ap _ hb)) hn.2⟩;obtain ⟨y,hy,e⟩:=List.mem_map.1 hm;have:=h y (ap _ hy) x cy e;exact hn.1 (this▸hy)
def sQ {α β:Type} {g:α->β}:∀{L:List α},(L.map g).Nodup->∀{a b:α},a∈L->b∈L->g a=g b->a=b:=by
 intro L
 induction L with
 |nil=>intro _ a b h;cases h
 |cons x L ih=>
  intro hn a b ha hb e;rw [ce,bq] at hn;rcases List.mem_cons.1 ha with h1|ha
  ·rcases List.mem_cons.1 hb with h2|hb
   ·rw [h1,h2]
   ·exact (hn.1 (List.mem_map.2 ⟨b,hb,by rw [<-e,h1]⟩)).elim
  ·rcases List.mem_cons.1 hb with h2|hb
   ·exact (hn.1 (List.mem_map.2 ⟨a,ha,by rw [e,h2]⟩)).elim
   ·exact ih hn.2 ha hb e
def Em {α β:Type} {g:α->β} {L:List α} (h:(L.map g).Nodup):L.Nodup:=by
 induction L with
 |nil=>simp
 |cons x L ih=>
  rw [ce,bq] at h;rw [bq];exact ⟨λhm=>h.1 (List.mem_map.2 ⟨x,hm,rfl⟩),ih h.2⟩
def ixP (f:Idx) (p:Nat):Nat:=((pO p-(26+32*hk p)*64)/8-9)/((wordsS (f (hk p)).1).toNat+1)
def At (f:Idx) (n p k i:Nat):Prop:=k<n/\0<=(f k).1/\(f k).1<5/\(i:Int)<perS (f k).1/\pO p=pOff (26+32*k) (f k).1 i
section
variable {D D':DS} {f f':Idx} {n k i j l p q:Nat} {c o:Int} {keep free L R:List Nat}
def At.ix (h:At f n p k i):hk p=k/\ixP f p=i:=by
 obtain ⟨a1,a2,a3,a4,a5⟩:=h;obtain ⟨z,m,hz,hm,g,z3,d,c⟩:=pT a2 a3;have a:hk p=k:=by
  have b:=kS (k:=k) (n:=n) a2 a3 a4;unfold hk;rw [a5];exact b.2
 refine ⟨a,?_⟩;unfold ixP;rw [a,a5,hz];unfold pOff;rw [c];have e:((26+32*k)*64+(8+i*(z+1))*8+8-(26+32*k)*64)/8-9=i*(z+1):=by
  generalize i*(z+1)=m;omega
 rw [e,cn];exact Nat.mul_div_cancel _ oM
def At.self (h:At f n p k i):At f n p (hk p) (ixP f p):=by rw [h.ix.1,h.ix.2];exact h
def At.uniq (h:At f n p (hk p) (ixP f p)) (h':At f n q (hk q) (ixP f q)) (e1:hk p=hk q) (e2:ixP f p=ixP f q):pO p=pO q:=by
 rw [h.2.2.2.2,h'.2.2.2.2,e1,e2]
def Rsv.at_ (h:Rsv D f n p) (hn:26+32*n<=4096) (rg:RgS D 26 n f):At f n p (hk p) (ixP f p)/\bS (wd D (26+32*hk p) (offN (f (hk p)).1 (ixP f p)))=176/\p=ptrN (pO p) (bG (wd D (26+32*hk p) (offN (f (hk p)).1 (ixP f p)))) (pK p)/\pK p≠0/\pK p<=127/\p<72057594037927936/\p≠0:=by
 have kn:=h.kn hn rg;obtain ⟨k,i,kd,a1,a2,a3,a4,a5,a6,a7⟩:=h;have c5:=(rg.cls a1).1;have hh:=mt (k:=k) (g:=bG (wd D (26+32*k) (offN (f k).1 i))) (kd:=kd) a2 c5 oM a3;rw [<-a4] at hh;have a:At f n p k i:=⟨a1,a2,c5,a3,hh.1⟩;have b:=cY (l:=26+32*k) oM a2 c5 a3;have c:pK p=kd:=by rw [a4];exact KY _ _ _ b.2.1 (dJ _) oM
 have e:=a.ix;refine ⟨a.self,?_,?_,by omega,by omega,kn.2.2.2.1,kn.2.2.1⟩
 ·rw [e.1,e.2];exact a5
 ·rw [e.1,e.2,c,hh.1];exact a4
def Liv.at_ (h:Liv D f n p) (hn:26+32*n<=4096) (rg:RgS D 26 n f):At f n p (hk p) (ixP f p)/\Ej D f n p (hk p) (ixP f p)/\p<72057594037927936/\p≠0:=by
 obtain ⟨k,i,h⟩:=h;have s:=h.sp hn rg;have a:At f n p k i:=⟨h.1,h.2.1,(rg.cls h.1).1,h.2.2.1,s.1⟩;have e:=a.ix;exact ⟨a.self,by rw [e.1,e.2];exact h,s.2.2.2.1,s.2.2.1⟩
def Liv.uniq (h:Liv D f n p) (h':Liv D f n q) (hn:26+32*n<=4096) (rg:RgS D 26 n f) (e1:hk p=hk q) (e2:ixP f p=ixP f q):p=q:=by
 have a:=(h.at_ hn rg).2.1;have b:=(h'.at_ hn rg).2.1;rw [a.2.2.2.1,b.2.2.2.1,e1,e2]
structure bj (D:DS) (f:Idx) (n:Nat) (keep free:List Nat):Prop where
 rg:RgS D 26 n f
 nn:D.n<=4096
 kp:∀p∈keep,Rsv D f n p
 fr:∀p∈free,Liv D f n p
 nk:(keep.map pO).Nodup
 nf:free.Nodup
def tkL (f:Idx) (L:List Nat) (k:Nat):List Int:=(L.filter λp=>decide (hk p=k)).map λp=>(ixP f p:Int)
def knL (L:List Nat) (k:Nat):List Nat:=(L.filter λp=>decide (hk p=k)).map pK
def wsK (D:DS) (f:Idx) (keep free:List Nat) (k:Nat):List (Nat×Nat):=(jo D (26+32*k) (f k).1 (tkL f keep k) (knL keep k) (tkL f free k)).getD []
def bW (D:DS) (f:Idx) (keep free:List Nat):Nat->List (Nat×Nat)
 |0=> []
 |m+1=>bW D f keep free m++wsK D f keep free m
def ji {x:Int}:x∈tkL f L k↔∃p∈L,hk p=k/\x=(ixP f p:Int):=by
 unfold tkL;simp only [gs,eo,decide_eq_true_eq];exact ⟨λ⟨p,⟨a,b⟩,c⟩=>⟨p,a,b,c.symm⟩,λ⟨p,a,b,c⟩=>⟨p,⟨a,b⟩,c.symm⟩⟩
def En:fL (tkL f L k) i=true↔∃p∈L,hk p=k/\ixP f p=i:=by
 constructor
 ·intro h;obtain ⟨x,hx,e⟩:=gO h;obtain ⟨p,a,b,c⟩:=ji.1 hx;exact ⟨p,a,b,by omega⟩
 ·rintro ⟨p,a,b,c⟩;have:=ie (ji.2 ⟨p,a,b,rfl⟩:((ixP f p:Nat):Int)∈tkL f L k);rw [<-c];simpa using this
def Pw:(knL L k).length=(tkL f L k).length:=by simp [knL,tkL]
def aaD:∀{L:List Nat},(∀p∈L,∀q∈L,hk p=hk q->ixP f p=ixP f q->p=q)->p∈L->hk p=k->kOf (tkL f L k) (knL L k) (ixP f p)=some (pK p):=by
 intro L
 induction L with
 |nil=>intro _ h;cases h
 |cons x L ih=>
  intro hu hp c;by_cases e:hk x=k
  ·have e1:tkL f (x::L) k=(ixP f x:Int)::tkL f L k:=by simp [tkL,e]
   have e2:knL (x::L) k=pK x::knL L k:=by simp [knL,e]
   rw [e1,e2,kOf];by_cases e3:ixP f x=ixP f p
   ·rw [if_pos oM];rw [hu x cy p hp oM e3]
   ·rw [if_neg oM];rcases List.mem_cons.1 hp with rfl|hp
    ·exact absurd rfl e3
    ·exact ih (λa ha b hb=>hu a (ap _ ha) b (ap _ hb)) hp c
  ·have e1:tkL f (x::L) k=tkL f L k:=by simp [tkL,e]
   have e2:knL (x::L) k=knL L k:=by simp [knL,e]
   rw [e1,e2];rcases List.mem_cons.1 hp with rfl|hp
   ·exact absurd c e
   ·exact ih (λa ha b hb=>hu a (ap _ ha) b (ap _ hb)) hp c
def aaE (h:¬∃p∈L,hk p=k/\ixP f p=i):kOf (tkL f L k) (knL L k) i=none:=by
 cases hk0:kOf (tkL f L k) (knL L k) i with
 |none=>rfl
 |some x=>exact absurd (En.1 (Dp (D:=DS.zero 0) (l:=0) (c:=0) hk0).2.1) h
def ahW:∀{L:List Int} {ks:List Nat} {a:List (Nat×Nat)} {b:Nat},ks.length=L.length->(∀x∈L,tkOk D l c x.toNat=true)->chT D l c L ks a b=some (a++jp D l c L ks,orL L b):=by
 intro L
 induction L with
 |nil=>intro ks a b _ _;rw [adI];cases ks<;>simp [jp,orL]
 |cons x L ih=>
  intro ks a b hl h
  cases ks with
  |nil=>simp at hl
  |cons y ks=>
   rw [X8,if_pos (h x cy),ih (by simpa using hl) (λz hz=>h z (ap _ hz)),pU];simp [jp]
def aea:∀{L:List Int} {a:List (Nat×Nat)} {b:Nat},(∀x∈L,dpOk D l c x.toNat=true)->lC D l c L a b=some (a++L.map (λx=>dpW D l c x.toNat),dpL D l c L b):=by
 intro L
 induction L with
 |nil=>intro a b _;rw [X9];simp [dpL]
 |cons x L ih=>
  intro a b h;rw [Tg,if_pos (h x cy),ih (λz hz=>h z (ap _ hz)),pV];simp
def aeb {L M:List Int} {ks:List Nat} (hl:ks.length=L.length) (h1:∀x∈L,tkOk D l c x.toNat=true) (h2:∀x∈M,dpOk D l c x.toNat=true):∃ws,jo D l c L ks M=some ws:=by
 by_cases hne:L.length=0/\M.length=0
 ·exact ⟨[],by unfold jo;rw [if_pos hne]⟩
 ·exact ⟨_,adJ hne (ahW hl h1) (aea h2)⟩
def bj.n4 (P:bj D f n keep free):26+32*n<=4096:=by have:=P.rg.lt;have:=P.nn;omega
def bj.ku (P:bj D f n keep free):∀p∈keep,∀q∈keep,hk p=hk q->ixP f p=ixP f q->p=q:=by
 intro p hp q hq e1 e2;have a:=((P.kp p hp).at_ P.n4 P.rg).1;have b:=((P.kp q hq).at_ P.n4 P.rg).1;have e:=a.uniq b e1 e2;exact sQ P.nk hp hq e
def bj.none (P:bj D f n keep free) (h0:(f k).1<0\/n<=k):tkL f keep k= []/\tkL f free k= []/\wsK D f keep free k= []:=by
 have a1:tkL f keep k= []:=List.eq_nil_iff_forall_not_mem.2 λx hx=>by
  obtain ⟨p,hp,e,_⟩:=ji.1 hx;have:=((P.kp p hp).at_ P.n4 P.rg).1;rw [e] at this;have a:=this.1;have b:=this.2.1;omega
 have a2:tkL f free k= []:=List.eq_nil_iff_forall_not_mem.2 λx hx=>by
  obtain ⟨p,hp,e,_⟩:=ji.1 hx;have:=((P.fr p hp).at_ P.n4 P.rg).1;rw [e] at this;have a:=this.1;have b:=this.2.1;omega
 refine ⟨a1,a2,?_⟩;unfold wsK;rw [a1,a2];unfold jo;rw [if_pos (by simp)];rfl
def aiS (h:Snd D l c o) (hi:(i:Int)<perS c) (c0:0<=c) (c5:c<5) (a:bS (wd D l (offN c i))=176):tkOk D l c i=true:=by
 have hp:=aN c0 c5;have b:=h.bit i oM;rw [a] at b;unfold tkOk;rw [h.sl i hi,b,h.gd i hi,a];simp
def aiT (h:Snd D l c o) (hi:(i:Int)<perS c) (c0:0<=c) (c5:c<5) (a:bS (wd D l (offN c i))=177):dpOk D l c i=true:=by
 have b:=h.live c0 c5 hi a;unfold dpOk;rw [b.1,b.2.1,a];rfl
def bj.act (P:bj D f n keep free) (d:k<n) (h0:0<=(f k).1):nT (f k).1 (tkL f keep k) (knL keep k) (tkL f free k)/\jo D (26+32*k) (f k).1 (tkL f keep k) (knL keep k) (tkL f free k)=some (wsK D f keep free k):=by
 have c5:=(P.rg.cls d).1;have s:=P.rg.sn k d h0;have kx:∀x∈tkL f keep k,∃p∈keep,hk p=k/\x=(ixP f p:Int)/\(ixP f p:Int)<perS (f k).1/\bS (wd D (26+32*k) (offN (f k).1 (ixP f p)))=176:=λx hx=>by
  obtain ⟨p,hp,e,e2⟩:=ji.1 hx;have a:=(P.kp p hp).at_ P.n4 P.rg;rw [e] at a;exact ⟨p,hp,e,e2,a.1.2.2.2.1,a.2.1⟩
 have fx:∀x∈tkL f free k,∃p∈free,hk p=k/\x=(ixP f p:Int)/\(ixP f p:Int)<perS (f k).1/\bS (wd D (26+32*k) (offN (f k).1 (ixP f p)))=177:=λx hx=>by
  obtain ⟨p,hp,e,e2⟩:=ji.1 hx;have a:=(P.fr p hp).at_ P.n4 P.rg;rw [e] at a;exact ⟨p,hp,e,e2,a.1.2.2.2.1,a.2.1.2.2.2.2⟩
 refine ⟨aaC.2 ⟨Pw,λi x hx=> ?_,λi x hx=> ?_,λi j x y g hx hy=> ?_⟩,?_⟩
 ·have:=cN hx;unfold knL at this;obtain ⟨p,hp,e⟩:=List.mem_map.1 this;have a:=(P.kp p (List.mem_filter.1 hp).1).at_ P.n4 P.rg;omega
 ·rcases List.mem_append.1 (cN hx) with h|h
  ·obtain ⟨p,_,_,e,b,_⟩:=kx x h;omega
  ·obtain ⟨p,_,_,e,b,_⟩:=fx x h;omega
 ·have nd:(tkL f keep k++tkL f free k).Nodup:=by
   refine List.nodup_append.2 ⟨?_,?_,λa ha b hb e=> ?_⟩
   ·unfold tkL;refine eO _ ?_ ((Em P.nk).filter _);intro p hp q hq e;have hp:=List.mem_filter.1 hp;have hq:=List.mem_filter.1 hq;have a:=of_decide_eq_true hp.2;have b:=of_decide_eq_true hq.2;exact P.ku p hp.1 q hq.1 oM oM
   ·unfold tkL;refine eO _ ?_ (P.nf.filter _);intro p hp q hq e;have hp:=List.mem_filter.1 hp;have hq:=List.mem_filter.1 hq;have a:=of_decide_eq_true hp.2;have b:=of_decide_eq_true hq.2;exact (P.fr p hp.1).uniq (P.fr q hq.1) P.n4 P.rg oM oM
   ·obtain ⟨p,_,_,e1,_,s1⟩:=kx a ha;obtain ⟨q,_,_,e2,_,s2⟩:=fx b hb;have:ixP f p=ixP f q:=oM;rw [this] at s1;omega
  intro e;have:=(ga (by rw [List.getElem?_eq_some_iff] at hy;exact hy.1) nd).1 (hy.trans (e▸hx.symm));omega
 ·obtain ⟨ws,hw⟩:=aeb (D:=D) (l:=26+32*k) (c:=(f k).1) (L:=tkL f keep k) (M:=tkL f free k) (ks:=knL keep k) Pw (λx hx=>by
   obtain ⟨p,_,_,e,b,s1⟩:=kx x hx;rw [e,cn];exact aiS s b h0 c5 s1) (λx hx=>by
   obtain ⟨p,_,_,e,b,s1⟩:=fx x hx;rw [e,cn];exact aiT s b h0 c5 s1)
  unfold wsK;rw [hw];rfl
end
section
variable {D D':DS} {f f':Idx} {n k i j l p q m:Nat} {c o:Int} {keep free L R:List Nat}
def aec {L M:List Int} {ks:List Nat} {ws:List (Nat×Nat)} (ha:nT c L ks M) (h:jo D l c L ks M=some ws):∀x∈ws,x.1=l*64+8\/∃i:Nat,(i:Int)<perS c/\x.1=l*64+offN c i*8:=by
 intro x hx;rcases (ng ha.len h).2.2 with ⟨e,_⟩|e
 ·rw [e] at hx;cases hx
 ·rw [e] at hx;rcases List.mem_append.1 hx with hx|hx
  ·rcases List.mem_append.1 hx with hx|hx
   ·obtain ⟨y,hy,k,_,e2,_⟩:=FN hx;have:=ha.vL y hy;exact .inr ⟨y.toNat,by omega,by rw [e2];rfl⟩
   ·obtain ⟨y,hy,e2⟩:=List.mem_map.1 hx;have:=ha.vM y hy;exact .inr ⟨y.toNat,by omega,by rw [<-e2];rfl⟩
  ·simp only [ab] at hx;rw [hx];exact .inl rfl
def ahX {L M:List Int} {ks:List Nat} {ws:List (Nat×Nat)} (c0:0<=c) (c5:c<5) (ha:nT c L ks M) (h:jo D l c L ks M=some ws):(ws.map (·.1)).Nodup:=by
 have nd:=ha.nd;have bd:∀x:Int,0<=x/\x<perS c->8<=offN c x.toNat:=λx hx=>(aK c0 c5 (i:=x.toNat) oM).2.1
 have zm:∀(L:List Int) (ks:List Nat),ks.length=L.length->(jp D l c L ks).map (·.1)=L.map λx=>l*64+offN c x.toNat*8:=by
  intro L
  induction L with
  |nil=>intro ks _;cases ks<;>rfl
  |cons x L ih=>
   intro ks hk
   cases ks with
   |nil=>simp at hk
   |cons y ks=>simp only [jp,ce,ih ks (by simpa using hk)];rfl
 rcases (ng ha.len h).2.2 with ⟨e,_⟩|e
 ·rw [e];simp
 ·rw [e,cg,cg,zm _ _ ha.len,hQ];have g:∀(L:List Int),(L.map Int.toNat).Nodup->(L.map λx=>l*64+offN c x.toNat*8).Nodup:=λL hL=>by
   have:(L.map λx=>l*64+offN c x.toNat*8)=(L.map Int.toNat).map λi=>l*64+offN c i*8:=by rw [hQ];rfl
   rw [this];refine eO _ (λa _ b _ e=>me c0 c5 ?_) hL;have e:l*64+offN c a*8=l*64+offN c b*8:=e;omega
  refine List.nodup_append.2 ⟨List.nodup_append.2 ⟨g L nd.1,g M nd.2.1,?_⟩,by simp,?_⟩
  ·intro a f b d e;obtain ⟨x,hx,rfl⟩:=List.mem_map.1 f;obtain ⟨y,hy,rfl⟩:=List.mem_map.1 d;have e:l*64+offN c x.toNat*8=l*64+offN c y.toNat*8:=e;have e2:=me c0 c5 (show offN c x.toNat=offN c y.toNat by omega);have:=nd.2.2 x.toNat (ie hx);rw [e2,ie hy] at this;cases this
  ·intro a f b d e;simp only [ce,gS,ab] at d;rcases List.mem_append.1 f with h1|h1
   ·obtain ⟨x,hx,rfl⟩:=List.mem_map.1 h1;have:=bd x (ha.vL x hx);omega
   ·obtain ⟨x,hx,rfl⟩:=List.mem_map.1 h1;have:=bd x (ha.vM x hx);have d:b=l*64+8:=d;have e:l*64+offN c x.toNat*8=b:=e;omega
def bj.actE (P:bj D f n keep free) (b:k<n) (h0:0<=(f k).1):ahz D (D.strs (wsK D f keep free k)) (26+32*k) (f k).1 (tkL f keep k) (knL keep k) (tkL f free k) (wsK D f keep free k):=by
 have a:=P.act b h0;exact ahA P.rg.on P.rg.gd (by have:=P.rg.lt;omega) h0 (P.rg.cls b).1 a.1 a.2
def bj.mem (P:bj D f n keep free) (b:k<n):∀x∈wsK D f keep free k,(26+32*k)*64+8<=x.1/\x.1<(26+32*k)*64+2048/\x.1%8=0/\x.2<18446744073709551616:=by
 intro x hx;by_cases h0:(f k).1<0
 ·rw [(P.none (.inl h0)).2.2] at hx;cases hx
 ·have a:=P.act b oM;have e:=(P.actE b oM).ok x hx;rcases aec a.1 a.2 x hx with h|⟨i,hi,h⟩
  ·exact ⟨by omega,by omega,e.1,e.2.2⟩
  ·have:=aK (show 0<=(f k).1 by omega) (P.rg.cls b).1 hi;exact ⟨by omega,by omega,e.1,e.2.2⟩
def bj.all (P:bj D f n keep free):∀m,m<=n->∀x∈bW D f keep free m,1664<=x.1/\x.1<(26+32*m)*64/\x.1%8=0/\x.2<18446744073709551616:=by
 intro m
 induction m with
 |zero=>intro _ x hx;cases hx
 |succ m ih=>
  intro hm x hx;rcases List.mem_append.1 hx with hx|hx
  ·have:=ih oM x hx;omega
  ·have:=P.mem (k:=m) oM x hx;omega
def bj.nd (P:bj D f n keep free):∀m,m<=n->((bW D f keep free m).map (·.1)).Nodup:=by
 intro m
 induction m with
 |zero=>intro _;simp [bW]
 |succ m ih=>
  intro hm;unfold bW;rw [cg];refine List.nodup_append.2 ⟨ih oM,?_,?_⟩
  ·by_cases h0:(f m).1<0
   ·rw [(P.none (.inl h0)).2.2];simp
   ·have a:=P.act (k:=m) oM oM;exact ahX oM (P.rg.cls oM).1 a.1 a.2
  ·intro a ha b hb e;obtain ⟨x,hx,rfl⟩:=List.mem_map.1 ha;obtain ⟨y,hy,rfl⟩:=List.mem_map.1 hb;have:=P.all m oM x hx;have:=P.mem (k:=m) oM y hy;omega
def Hb (m:Nat):∀L:List Nat,(L.filter λp=>decide (hk p<m+1)).length=(L.filter λp=>decide (hk p<m)).length+(L.filter λp=>decide (hk p=m)).length:=by
 intro L
 induction L with
 |nil=>rfl
 |cons x L ih=>
  simp only [ct];by_cases h1:hk x<m
  ·rw [if_pos (by simp;omega),if_pos (by simpa using h1),if_neg (by simp;omega)];simp only [dk,ih];omega
  ·by_cases h2:hk x=m
   ·rw [if_pos (by simp;omega),if_neg (by simpa using h1),if_pos (by simpa using h2)];simp only [dk,ih];omega
   ·rw [if_neg (by simp;omega),if_neg (by simpa using h1),if_neg (by simpa using h2)];exact ih
def bj.len (P:bj D f n keep free):∀m,m<=n->(bW D f keep free m).length<=2*((keep.filter λp=>decide (hk p<m)).length+(free.filter λp=>decide (hk p<m)).length):=by
 intro m
 induction m with
 |zero=>intro _;simp [bW]
 |succ m ih=>
  intro hm;have i:=ih oM;have a:=Hb m keep;have b:=Hb m free;have hl:(wsK D f keep free m).length<=2*((keep.filter λp=>decide (hk p=m)).length+(free.filter λp=>decide (hk p=m)).length):=by
   by_cases h0:(f m).1<0
   ·rw [(P.none (.inl h0)).2.2];simp
   ·have ac:=P.act (k:=m) oM oM;have e:=(P.actE (k:=m) oM oM).len;have e1:(tkL f keep m).length=(keep.filter λp=>decide (hk p=m)).length:=by simp [tkL]
    have e2:(tkL f free m).length=(free.filter λp=>decide (hk p=m)).length:=by simp [tkL]
    rw [e1,e2] at e;by_cases h1:(keep.filter λp=>decide (hk p=m)).length+(free.filter λp=>decide (hk p=m)).length=0
    ·have hw:=ac.2;unfold jo at hw;rw [if_pos oM] at hw;injection hw with hw;rw [<-hw];simp
    ·omega
  unfold bW;rw [aq];omega
def bj.le (P:bj D f n keep free):(bW D f keep free n).length<=2*(keep.length+free.length):=by
 have a:=P.len n (bl _);have b:=al (λp=>decide (hk p<n)) keep;have c:=al (λp=>decide (hk p<n)) free;omega
def bj.at_ (P:bj D f n keep free) (F:Nat->Nat):∀m,m<=n->(∀x,(26+32*m)*8<=x->aI (bW D f keep free m) F x=F x)/\∀k,k<m->∀j,j<256->aI (bW D f keep free m) F ((26+32*k)*8+j)=aI (wsK D f keep free k) F ((26+32*k)*8+j):=by
 intro m
 induction m with
 |zero=>intro _;exact ⟨λx _=>rfl,λk hk=>by omega⟩
 |succ m ih=>
  intro hm;have i:=ih oM;have a:∀(G:Nat->Nat) x,(x<(26+32*m)*8\/(26+32*(m+1))*8<=x)->aI (wsK D f keep free m) G x=G x:=λG x hx=>bz _ _ _ (λy hy=>by have:=P.mem (k:=m) oM y hy;omega)
  unfold bW;refine ⟨λx hx=> ?_,λk hk j hj=> ?_⟩
  ·rw [kN,a _ _ (.inr hx)];exact i.1 x oM
  ·rw [kN];by_cases e:k=m
   ·subst e;exact pL _ _ _ _ (i.1 _ oM)
   ·rw [a _ _ (.inl oM)];exact i.2 k oM j hj
structure sR (D D':DS) (f:Idx) (n:Nat) (keep free:List Nat):Prop where
 rg:RgS D' 26 n f
 blk:∀k,k<n->0<=(f k).1->∀i:Nat,(i:Int)<perS (f k).1->wd D' (26+32*k) (offN (f k).1 i)=Dq D (26+32*k) (f k).1 (tkL f keep k) (knL keep k) (tkL f free k) i
 rest:∀k,k<n->∀j,j<256->(∀i:Nat,0<=(f k).1->(i:Int)<perS (f k).1->j≠offN (f k).1 i)->j≠1->wd D' (26+32*k) j=wd D (26+32*k) j
def bj.eff (P:bj D f n keep free) (c:On D') (d:aM D') (hn:D'.n=D.n) (hc:∀j,208<=j->D'.cur j=aI (bW D f keep free n) D.cur j):sR D D' f n keep free:=by
 have w1:∀k,k<n->∀j,j<256->wd D' (26+32*k) j=wd (D.strs (wsK D f keep free k)) (26+32*k) j:=λk b j hj=>by
  have hw:=OI P.rg.on (ws:=wsK D f keep free k) (λx hx=>by
   have:=P.mem b x hx;have:=P.rg.lt;exact ⟨by omega,by omega⟩)
  unfold wd;rw [hc _ oM,(P.at_ D.cur n (bl _)).2 k b j hj,hw.2]
 have w0:∀k,k<n->(f k).1<0->∀j,j<256->wd D' (26+32*k) j=wd D (26+32*k) j:=λk b h0 j hj=>by
  rw [w1 k b j hj,(P.none (.inl h0)).2.2];rfl
 have rs:∀k,k<n->∀j,j<256->(∀i:Nat,0<=(f k).1->(i:Int)<perS (f k).1->j≠offN (f k).1 i)->j≠1->wd D' (26+32*k) j=wd D (26+32*k) j:=λk b j hj h h1=>by
  by_cases h0:(f k).1<0
  ·exact w0 k b h0 j hj
  ·rw [w1 k b j hj];exact (P.actE b oM).rest j hj (λi hi=>h i oM hi) h1
 refine ⟨⟨c,d,by rw [hn];exact P.rg.lt,λk b=> ?_,λk b h0=> ?_⟩,λk b h0 i hi=> ?_,rs⟩
 ·have:=rs k b 0 oM (λi h0 hi=>by have:=aK h0 (P.rg.cls b).1 hi;omega) oM;rw [this];exact P.rg.ag k b
 ·have a:=P.act b h0;have s:=(P.rg.sn k b h0).act h0 (P.rg.cls b).1 a.1 (P.actE b h0);exact s.congr h0 (P.rg.cls b).1 (λj hj=>w1 k b j hj)
 ·rw [w1 k b _ (aK h0 (P.rg.cls b).1 hi).2.2];exact (P.actE b h0).blk i hi
def sR.kept (E:sR D D' f n keep free) (P:bj D f n keep free) (hp:p∈keep):Ej D' f n p (hk p) (ixP f p):=by
 have a:=(P.kp p hp).at_ P.n4 P.rg;have b:=E.blk _ a.1.1 a.1.2.1 _ a.1.2.2.2.1;unfold Dq at b;rw [aaD P.ku hp rfl] at b;simp only at b;have t:=nh (D:=D) (l:=26+32*hk p) (c:=(f (hk p)).1) (ixP f p) (pK p) (by have:=a.2.2.2.2.1;omega);refine ⟨a.1.1,a.1.2.1,a.1.2.2.2.1,?_,by rw [b];exact t.2.2.2⟩;rw [b,t.2.1,t.2.2.1,<-a.1.2.2.2.2];exact a.2.2.1
def sR.same (E:sR D D' f n keep free) (h:At f n q k i) (h1:¬∃p∈keep,hk p=k/\ixP f p=i) (h2:¬∃p∈free,hk p=k/\ixP f p=i):wd D' (26+32*k) (offN (f k).1 i)=wd D (26+32*k) (offN (f k).1 i):=by
 rw [E.blk k h.1 h.2.1 i h.2.2.2.1];unfold Dq;rw [aaE h1];simp only;rw [if_neg (λh=>h2 (En.1 h))]
def sR.freed (E:sR D D' f n keep free) (P:bj D f n keep free) (hp:p∈free):bG (wd D' (26+32*hk p) (offN (f (hk p)).1 (ixP f p)))=freG (pG p)/\bS (wd D' (26+32*hk p) (offN (f (hk p)).1 (ixP f p)))=freS (pG p):=by
 have a:=(P.fr p hp).at_ P.n4 P.rg;have g:=a.2.1.sp P.n4 P.rg;have b:=E.blk _ a.1.1 a.1.2.1 _ a.1.2.2.2.1;unfold Dq at b;have d:¬∃q∈keep,hk q=hk p/\ixP f q=ixP f p:=λ⟨q,hq,e1,e2⟩=>by
  have s:=((P.kp q hq).at_ P.n4 P.rg).2.1;rw [e1,e2] at s;have:=a.2.1.2.2.2.2;omega
 rw [aaE d] at b;simp only at b;rw [if_pos (En.2 ⟨p,hp,rfl,rfl⟩)] at b;have t:=nj (D:=D) (l:=26+32*hk p) (c:=(f (hk p)).1) (ixP f p);rw [b];rw [g.2.2.2.2.1];exact ⟨t.2.1,t.2.2.2⟩
def aed (g:Nat):freS g≠177:=by unfold freS;split<;>omega
def sR.liv (E:sR D D' f n keep free) (P:bj D f n keep free):Liv D' f n q↔q∈keep\/(Liv D f n q/\q∉free):=by
 constructor
 ·rintro ⟨k,i,h⟩;have s:=h.sp P.n4 E.rg;have b:At f n q k i:=⟨h.1,h.2.1,(P.rg.cls h.1).1,h.2.2.1,s.1⟩;have ix:=b.ix;by_cases h1:∃p∈keep,hk p=k/\ixP f p=i
  ·obtain ⟨p,hp,e1,e2⟩:=h1;have a:=E.kept P hp;refine .inl ?_;have:Liv D' f n p:=⟨_,_,a⟩;have:=this.uniq ⟨k,i,h⟩ P.n4 E.rg oM oM;rw [<-this];exact hp
  ·by_cases h2:∃p∈free,hk p=k/\ixP f p=i
   ·obtain ⟨p,hp,e1,e2⟩:=h2;have a:=E.freed P hp;rw [e1,e2,h.2.2.2.2] at a;exact absurd a.2.symm (aed _)
   ·have e:=E.same b h1 h2;have l0:Ej D f n q k i:=⟨h.1,h.2.1,h.2.2.1,by rw [<-e];exact h.2.2.2.1,by rw [<-e];exact h.2.2.2.2⟩;exact .inr ⟨⟨k,i,l0⟩,λhq=>h2 ⟨q,hq,ix⟩⟩
 ·rintro (h|⟨h,hf⟩)
  ·exact ⟨_,_,E.kept P h⟩
  ·have a:=h.at_ P.n4 P.rg;have h1:¬∃p∈keep,hk p=hk q/\ixP f p=ixP f q:=λ⟨p,hp,e1,e2⟩=>by
    have s:=((P.kp p hp).at_ P.n4 P.rg).2.1;rw [e1,e2] at s;have:=a.2.1.2.2.2.2;omega
   have h2:¬∃p∈free,hk p=hk q/\ixP f p=ixP f q:=λ⟨p,hp,e1,e2⟩=>hf (by
    have:=(P.fr p hp).uniq h P.n4 P.rg e1 e2;rw [<-this];exact hp)
   have e:=E.same a.1 h1 h2;exact ⟨_,_,a.2.1.1,a.2.1.2.1,a.2.1.2.2.1,by rw [e];exact a.2.1.2.2.2.1,by rw [e];exact a.2.1.2.2.2.2⟩
def sR.rsv (E:sR D D' f n keep free) (P:bj D f n keep free) (h:Rsv D f n q) (hq:pO q∉keep.map pO):Rsv D' f n q:=by
 have a:=h.at_ P.n4 P.rg;have h1:¬∃p∈keep,hk p=hk q/\ixP f p=ixP f q:=λ⟨p,hp,e1,e2⟩=>hq (by
  have b:=((P.kp p hp).at_ P.n4 P.rg).1;rw [<-b.uniq a.1 e1 e2];exact List.mem_map.2 ⟨p,hp,rfl⟩)
 have h2:¬∃p∈free,hk p=hk q/\ixP f p=ixP f q:=λ⟨p,hp,e1,e2⟩=>by
  have b:=((P.fr p hp).at_ P.n4 P.rg).2.1.2.2.2.2;rw [e1,e2] at b;have:=a.2.1;omega
 have e:=E.same a.1 h1 h2;refine ⟨hk q,ixP f q,pK q,a.1.1,a.1.2.1,a.1.2.2.2.1,?_,by rw [e];exact a.2.1,a.2.2.2.1,a.2.2.2.2.1⟩;rw [e,<-a.1.2.2.2.2];exact a.2.2.1
end
def lvL (L:List Nat) (k:Nat):Bool:=L.any λp=>decide (hk p=k)
def Px (f:Idx) (L:List Nat) (p:Nat):tkL f (L++ [p])=upd (tkL f L) (hk p) (tkL f L (hk p)++ [(ixP f p:Int)]):=by
 funext j;unfold upd tkL;by_cases e:j=hk p
 ·subst e;simp
 ·have e':¬hk p=j:=λh=>e h.symm
  rw [if_neg e];simp [e']
def aee (L:List Nat) (p:Nat):knL (L++ [p])=upd (knL L) (hk p) (knL L (hk p)++ [pK p]):=by
 funext j;unfold upd knL;by_cases e:j=hk p
 ·subst e;simp
 ·have e':¬hk p=j:=λh=>e h.symm
  rw [if_neg e];simp [e']
def Py (L:List Nat) (p:Nat):lvL (L++ [p])=upd (lvL L) (hk p) true:=by
 funext j;unfold upd lvL;by_cases e:j=hk p
 ·subst e;simp
 ·have e':¬hk p=j:=λh=>e h.symm
  rw [if_neg e];simp [e']
def xm {α:Type} (g:Nat->α) (k:Nat):upd g k (g k)=g:=by
 funext j;by_cases e:j=k
 ·subst e;exact dw _ _ _
 ·exact dF _ _ e
def Chg.take {w w2 w3:aa} {c:CgB} {T M:List Int} {Ks:List Nat} {v2 v3:an} {x:Int} {y:Nat} (h:Chg w c T Ks M) (m:SlO w2 3 1 v2 (T.length+1) (aX T++ [.int .i64 x])) (a:Frm (λb=>c.t.ownBlock=some b) w w2) (g:∀b,v2.ownBlock=some b->c.t.ownBlock=some b\/w.heap.size<=b)
  (n:SlO w3 5 1 v3 (Ks.length+1) (u8L Ks++ [.int .u8 (y:Int)])) (f:Frm (λb=>c.k.ownBlock=some b) w2 w3) (j:∀b,v3.ownBlock=some b->c.k.ownBlock=some b\/w2.heap.size<=b):
  Chg ((w3.setCell ⟨c.b,0,none⟩ v2).setCell ⟨c.b,1,none⟩ v3) ⟨c.b,v2,v3,c.d⟩ (T++ [x]) (Ks++ [y]) M/\Frm c.own w ((w3.setCell ⟨c.b,0,none⟩ v2).setCell ⟨c.b,1,none⟩ v3)/\∀z,CgB.own ⟨c.b,v2,v3,c.d⟩ z->c.own z\/w.heap.size<=z:=by
 have lb:=h.bx.lt;have n2:v2.ownBlock≠some c.b:=λe=>(g _ e).elim h.ne.1 (λh=>by omega)
 have n3:v3.ownBlock≠some c.b:=λe=>(j _ e).elim h.ne.2.1 (λh=>by have:=a.size;omega)
 have l:∀z,v2.ownBlock=some z->c.k.ownBlock≠some z:=λz e e2=>(g _ e).elim (λe=>(h.td z e).2 e2) (λh1=>by have:=h.k.lt e2;omega)
 have b2:=h.bx.frm a h.ne.1;have b3:=b2.frm f h.ne.2.1;have b5:=(b3.set (i:=0) v2 oM).set (i:=1) v3 oM;have g5:Frm (λz=>z=c.b) w3 ((w3.setCell ⟨c.b,0,none⟩ v2).setCell ⟨c.b,1,none⟩ v3):=Frm.set (F:=λz=>z=c.b) (Frm.set (F:=λz=>z=c.b) (Frm.refl _ w3) (p:=⟨c.b,0,none⟩) v2 (λ_=>rfl)) (p:=⟨c.b,1,none⟩) v3 (λ_=>rfl);refine ⟨⟨?_,?_,?_,?_,⟨n2,n3,h.ne.2.2⟩,λz e=>⟨λe2=> ?_,λe2=> ?_⟩,λz e e2=> ?_⟩,?_,λz hz=> ?_⟩
 ·refine b5.congr (λi hi=> ?_);rcases i with _|_|_|i
  ·rfl
  ·rfl
  ·rfl
  ·omega
 ·have:=(m.frm f (λb e=>l b e)).frm g5 (λb e e2=>n2 (by rw [e,e2]));simpa using this
 ·have:=n.frm g5 (λb e e2=>n3 (by rw [e,e2]));simpa using this
 ·exact ((h.d.frm a (λb e e2=>(h.td b e2).1 e)).frm f (λb e e2=>h.kd b e2 e)).frm g5 (λb e e2=>h.ne.2.2 (by rw [e,e2]))
 ·exact (g _ e).elim (λe=>(h.td z e).1 e2) (λh1=>by have:=h.d.lt e2;omega)
 ·exact (j _ e2).elim (λe3=>l z e e3) (λh1=>by have:=m.lt e;omega)
 ·exact (j _ e).elim (λe=>h.kd z e e2) (λh1=>by have:=h.d.lt e2;have:=a.size;omega)
 ·refine ((a.mono (λz e=>(.inr (.inl e):c.own z))).trans f (λz _ e=> .inr (.inr (.inl e)))).trans g5 (λz _ e=> .inl e)
 ·rcases hz with e|e|e|e
  ·exact .inl (.inl e)
  ·exact (g _ e).elim (λe=> .inl (.inr (.inl e))) .inr
  ·exact (j _ e).elim (λe=> .inl (.inr (.inr (.inl e)))) (λh=> .inr (by have:=a.size;omega))
  ·exact .inl (.inr (.inr (.inr e)))
def Chg.drop {w w2:aa} {c:CgB} {T M:List Int} {Ks:List Nat} {v2:an} {x:Int} (h:Chg w c T Ks M) (g:SlO w2 3 1 v2 (M.length+1) (aX M++ [.int .i64 x])) (f:Frm (λb=>c.d.ownBlock=some b) w w2) (a:∀b,v2.ownBlock=some b->c.d.ownBlock=some b\/w.heap.size<=b):
  Chg (w2.setCell ⟨c.b,2,none⟩ v2) ⟨c.b,c.t,c.k,v2⟩ T Ks (M++ [x])/\Frm c.own w (w2.setCell ⟨c.b,2,none⟩ v2)/\∀z,CgB.own ⟨c.b,c.t,c.k,v2⟩ z->c.own z\/w.heap.size<=z:=by
 have lb:=h.bx.lt;have n2:v2.ownBlock≠some c.b:=λe=>(a _ e).elim h.ne.2.2 (λh=>by omega)
 have b2:=h.bx.frm f h.ne.2.2;have b5:=b2.set (i:=2) v2 oM;have g5:Frm (λz=>z=c.b) w2 (w2.setCell ⟨c.b,2,none⟩ v2):=(Frm.refl _ w2).set v2 (λ_=>rfl);refine ⟨⟨?_,?_,?_,?_,⟨h.ne.1,h.ne.2.1,n2⟩,λz e=>⟨λe2=> ?_,(h.td z e).2⟩,λz e e2=> ?_⟩,?_,λz hz=> ?_⟩
 ·refine b5.congr (λi hi=> ?_);rcases i with _|_|_|i
  ·rfl
  ·rfl
  ·rfl
  ·omega
 ·exact (h.t.frm f (λb e e2=>(h.td b e).1 e2)).frm g5 (λb e e2=>h.ne.1 (by rw [e,e2]))
 ·exact (h.k.frm f (λb e e2=>h.kd b e e2)).frm g5 (λb e e2=>h.ne.2.1 (by rw [e,e2]))
 ·have:=g.frm g5 (λb e e2=>n2 (by rw [e,e2]));simpa using this
 ·exact (a _ e2).elim (λe2=>(h.td z e).1 e2) (λh1=>by have:=h.t.lt e;omega)
 ·exact (a _ e2).elim (λe2=>h.kd z e e2) (λh1=>by have:=h.k.lt e;omega)
 ·exact (f.mono (λz e=>(.inr (.inr (.inr e)):c.own z))).trans g5 (λz _ e=> .inl e)
 ·rcases hz with e|e|e|e
  ·exact .inl (.inl e)
  ·exact .inl (.inr (.inl e))
  ·exact .inl (.inr (.inr (.inl e)))
  ·exact (a _ e).elim (λe=> .inl (.inr (.inr (.inr e)))) .inr
section
variable {w0 wN w w':aa} {Y:Lay} {D:DS} {H:HL} {n mb cb:Nat} {f:Idx} {R keep free:List Nat} {C:Nat->CgB}
def ur (f:Idx) (L:List Nat) (k:Nat):(tkL f L k).length<=L.length:=by unfold tkL;rw [cj];exact al _ _
def aiU (h:HpS w0 wN Y D H n f R) (e:Ext wN w) (hC:hJ wN.heap.size w mb cb n C (λ_=>false) (λ_=> []) (λ_=> []) (λ_=> [])) {m:Nat} {a:Option Addr} {cap:Nat} (hS:RdS m wN (.slice a keep.length cap) (bc keep)) (a5:keep.length<1000000) (kp:∀p∈keep,Rsv D f n p) (v2:an) (K:K1)
  (hK:∀w' C',Ext wN w'->hJ wN.heap.size w' mb cb n C' (lvL keep) (tkL f keep) (knL keep) (λ_=> [])->Lu K (hpV H) v2 (.pointer (some ⟨cb,0,none⟩)) (.func (.func 95) #[] #[.pointer (some ⟨cb,0,none⟩)]) w'):
  Lw K (hpV H) v2 (.pointer (some ⟨cb,0,none⟩)) (.func (.func 95) #[] #[.pointer (some ⟨cb,0,none⟩)]) (.slice a keep.length cap) (.int .i64 (keep.length:Int)) (.int .i64 0) w:=by
 have a6:=h.n4;have n0:=hC.n0;refine Gm _ _ _ _ _ _ _ _ _ (λz w1=>∃j C',z= .int .i64 ((j:Nat):Int)/\j<=keep.length/\Ext wN w1/\hJ wN.heap.size w1 mb cb n C' (lvL (keep.take j)) (tkL f (keep.take j)) (knL (keep.take j)) (λ_=> [])) (λz _=>keep.length-(intOf z).toNat) ⟨0,C,rfl,by omega,e,hC⟩ ?_;intros;rename_i z w1 hI E1 N;obtain ⟨j,C1,rfl,hj,e1,c1⟩:=hI;by_cases hjl:j<keep.length
 ·obtain ⟨sb,so,sc,r,hc⟩:=(hS.ext e1).get (gP hjl);injection r with r _ ev2;subst r;subst ev2;obtain ⟨p,hp⟩:∃p,keep[j]=p:=⟨_,rfl⟩;have a1:p∈keep:=hp▸bL hjl;have W:=((kp p a1).at_ oM h.rg);obtain ⟨k,I⟩:∃k,hk p=k:=⟨_,rfl⟩;have ht:keep.take (j+1)=keep.take j++ [p]:=by rw [ca hjl,hp]
  have L:∀wF C',Ext wN wF->hJ wN.heap.size wF mb cb n C' (upd (lvL (keep.take j)) k true) (upd (tkL f (keep.take j)) k (tkL f (keep.take j) k++ [(ixP f p:Int)])) (upd (knL (keep.take j)) k (knL (keep.take j) k++ [pK p])) (λ_=> [])->E1 (.int .i64 ((j+1:Nat):Int)) wF:=λwF C' eF cF=>by
   apply N
   ·refine ⟨j+1,C',rfl,by omega,eF,?_⟩;rw [ht,Py,Px,aee,I];exact cF
   ·simp [intOf];omega
  rw [hp] at hc;have a0:=W.1;rw [I] at a0;have V:=λ(w2:aa) (e2:Ext wN w2) (K:K1) hK=>Ek (h.ext e2) a0.1 a0.2.1 a0.2.2.2.1 (show p<18446744073709551616 by omega) a0.2.2.2.2 K hK
  have F:∀(w2:aa) (K:K1),ae prog 60 #[.int .u64 (p:Int)] w2 K=K (.int .u8 ((pK p:Nat):Int)) w2:=λw2 K=>gB p w2 K oM
  have lT:=ur f (keep.take j) k;have lK:(knL (keep.take j) k).length<=(keep.take j).length:=by unfold knL;rw [cj];exact al _ _
  have lj:(keep.take j).length=j:=by rw [gc];omega
  have e5:(j:Int)+1=((j+1:Nat):Int):=oM;generalize tkL f (keep.take j)=T at*;generalize knL (keep.take j)=Ks at*;generalize lvL (keep.take j)=lv at*;generalize (f k).1=cc at*;generalize ixP f p=ii at*;generalize hpk:pK p=pk at*;unfold wu;refine zS1 hc ?_;refine V _ (e1.trans xZ) _ (λw2 e2=> ?_);have c2:=(c1.ext (Ext.trans xZ e2));have A:=e1.trans (Ext.trans xZ e2);refine zS0 ?_;rw [GX (by kernel_rfl)];simp only [eS,eg,gi,dl];refine aiR c2 a0.1 A.size _ (λw3 C3 g3 c3=> ?_);have X:Ext wN w3:=bA A g3 (λx hx=>by omega);have g:=c3.ch k a0.1 (dw _ _ _);obtain ⟨c,y⟩:∃c,C3 k=c:=⟨_,rfl⟩;have o:=λ{wF c' t ks}=>c3.put (w':=wF) (c:=c') (t:=t) (m:= []) (ks:=ks) (G:=(C3 k).own) a0.1 (dw _ _ _)
  rw [y] at g o ⊢;have d0:w3.cell? ⟨c.b,0,none⟩=some c.t:=g.bx.cell (i:=0) oM;have d1:w3.cell? ⟨c.b,1,none⟩=some c.k:=g.bx.cell (i:=1) oM;have ltb:=g.bx.lt
  (repeat' first|refine am (λ_=> ?_) (λ_=> ?_)|refine ao ?_ ?_|refine jm d0 d1 ?_|exact JR d0 d1|fail)
  refine du jG (g.t.ext xZ) (m:=1) (news:= [.int .i64 (ii:Int)]) rfl ?_ rfl oM oM oM (λv3 w4 E Q J _=> ?_)
  ·intro q u hq;have e0:q=0:=by
    cases q with
    |zero=>rfl
    |succ q=>simp at hq
   subst e0;injection hq with hq;subst hq;exact (ah.new w3.drew [Value.int .i64 (ii:Int)] 3).cell (i:=0) (by simp)
  have l:Frm (λb=>c.t.ownBlock=some b) w3 w4:=(Frm.of_ext (show Ext w3 _ from Ext.alloc (Ext.drew (Ext.refl _)) _)).trans Q (λ_ _ h=>h);have b4:=g.bx.frm l g.ne.1;have v:w4.cell? ⟨c.b,1,none⟩=some c.k:=b4.cell (i:=1) oM;have a3:=b4.lt
  (repeat' first|refine am (λ_=> ?_) (λ_=> ?_)|refine ao ?_ ?_|refine jm v F ?_|exact JR v F|fail)
  have k4:=g.k.frm l (λb e e2=>(g.td b e2).2 e);refine du Fl (k4.ext xZ) (m:=1) (news:= [.int .u8 (pk:Int)]) rfl ?_ rfl oM oM oM (λv5 w6 B O U _=> ?_)
  ·intro q u hq;have e0:q=0:=by
    cases q with
    |zero=>rfl
    |succ q=>simp at hq
   subst e0;injection hq with hq;subst hq;exact (ah.new w4 [Value.int .u8 (pk:Int)] 5).cell (i:=0) (by simp)
  have s:Frm (λb=>c.k.ownBlock=some b) w4 w6:=(Frm.of_ext (Ext.alloc_self w4 _)).trans O (λ_ _ h=>h);have b6:=b4.frm s g.ne.2.1;have d6:w6.cell? ⟨c.b,0,none⟩=some c.t:=b6.cell (i:=0) oM;have d7:w6.cell? ⟨c.b,1,none⟩=some c.k:=b6.cell (i:=1) oM;have fz:=b6.frz;have a4:=b6.lt;have b7:=b6.set (i:=0) v3 oM;have d8:(w6.setCell ⟨c.b,0,none⟩ v3).cell? ⟨c.b,1,none⟩=some c.k:=b7.cell (i:=1) oM;have P:=b7.frz 1;have S:=aP E;have Z:=aP B;have M:SlO w4 3 1 v3 ((T k).length+1) (aX (T k)++ [.int .i64 (ii:Int)]):=E;have tk:=g.take M l (λb hb=>(J b hb).imp id (λh=>by simp only [RZ] at h;omega)) B s (λb hb=>(U b hb).imp id (λh=>by rw [size_alloc] at h;omega));have fF:=o (c':=⟨c.b,v3,v5,c.d⟩) tk.2.1 (λx hx=>hx) rfl tk.1 tk.2.2;have eF:Ext wN ((w6.setCell ⟨c.b,0,none⟩ v3).setCell ⟨c.b,1,none⟩ v5):=bA X tk.2.1 (λx hx=>(c3.fr k a0.1 (dw _ _ _) x (by rw [y];exact hx)).1);simp (disch:=try exact dU) only [↓RBp,↓RA,↓reduceIte,Nat.reduceAdd,Nat.reduceMul,Nat.reduceEqDiff,RZ9,d6,d7,fz,d8,P,ke (t:=50) (by kernel_rfl) c.b 0 v3 w6 _ S,ke (t:=51) (by kernel_rfl) c.b 1 v5 (w6.setCell ⟨c.b,0,none⟩ v3) _ Z,e5];have un:upd (λ_=>([]:List Int)) k []=λ_=> []:=xm _ _
  rw [un] at fF;exact L _ _ eF fF
 ·have a2:j=keep.length:=oM;subst a2;rw [cC] at c1;unfold wu;refine zS0 ?_;exact hK _ C1 e1 c1
def aiV (h:HpS w0 wN Y D H n f R) (e:Ext wN w) (hC:hJ wN.heap.size w mb cb n C (lvL keep) (tkL f keep) (knL keep) (λ_=> [])) {m:Nat} {a:Option Addr} {cap:Nat} (hS:RdS m wN (.slice a free.length cap) (bc free)) (W:free.length<1000000) (fr:∀p∈free,Liv D f n p) (K:K1)
  (hK:∀w' C',Ext wN w'->hJ wN.heap.size w' mb cb n C' (λk=>lvL keep k||lvL free k) (tkL f keep) (knL keep) (tkL f free)->DQ K (hpV H) (.pointer (some ⟨cb,0,none⟩)) w'):
  Lx K (hpV H) (.pointer (some ⟨cb,0,none⟩)) (.func (.func 95) #[] #[.pointer (some ⟨cb,0,none⟩)]) (.slice a free.length cap) (.int .i64 (free.length:Int)) (.int .i64 0) w:=by
 have X:=h.n4;have n0:=hC.n0;refine Gp _ _ _ _ _ _ _ _ (λz w1=>∃j C',z= .int .i64 ((j:Nat):Int)/\j<=free.length/\Ext wN w1/\hJ wN.heap.size w1 mb cb n C' (λk=>lvL keep k||lvL (free.take j) k) (tkL f keep) (knL keep) (tkL f (free.take j))) (λz _=>free.length-(intOf z).toNat) ⟨0,C,rfl,by omega,e,by
  have e1:(λk=>lvL keep k||lvL (free.take 0) k)=lvL keep:=by funext k;simp [lvL]
  have e2:tkL f (free.take 0)=λ_=> []:=by funext k;simp [tkL]
  rw [e1,e2];exact hC⟩ ?_
 intros;rename_i z w1 hI E1 I;obtain ⟨j,C1,rfl,hj,e1,c1⟩:=hI;by_cases hjl:j<free.length
 ·obtain ⟨sb,so,sc,s,hc⟩:=(hS.ext e1).get (gP hjl);injection s with s _ ev2;subst s;subst ev2;obtain ⟨p,hp⟩:∃p,free[j]=p:=⟨_,rfl⟩;have Q:p∈free:=hp▸bL hjl;have J:=((fr p Q).at_ oM h.rg);obtain ⟨k,r⟩:∃k,hk p=k:=⟨_,rfl⟩;have ht:free.take (j+1)=free.take j++ [p]:=by rw [ca hjl,hp]
  have B:∀wF C',Ext wN wF->hJ wN.heap.size wF mb cb n C' (upd (λk=>lvL keep k||lvL (free.take j) k) k true) (tkL f keep) (knL keep) (upd (tkL f (free.take j)) k (tkL f (free.take j) k++ [(ixP f p:Int)]))->E1 (.int .i64 ((j+1:Nat):Int)) wF:=λwF C' eF cF=>by
   apply I
   ·refine ⟨j+1,C',rfl,by omega,eF,?_⟩;have el:(λk=>lvL keep k||lvL (free.take (j+1)) k)=upd (λk=>lvL keep k||lvL (free.take j) k) k true:=by
     funext q;rw [ht,Py,r];unfold upd;by_cases e:q=k
     ·rw [if_pos e,if_pos e,hU]
     ·rw [if_neg e,if_neg e]
    rw [el,ht,Px,r];exact cF
   ·simp [intOf];omega
  rw [hp] at hc;have a0:=J.1;rw [r] at a0;have U:=λ(w2:aa) (e2:Ext wN w2) (K:K1) hK=>Ek (h.ext e2) a0.1 a0.2.1 a0.2.2.2.1 (show p<18446744073709551616 by omega) a0.2.2.2.2 K hK
  have lT:=ur f (free.take j) k;have lj:(free.take j).length=j:=by rw [gc];omega
  have e5:(j:Int)+1=((j+1:Nat):Int):=oM;generalize tkL f (free.take j)=M at*;generalize tkL f keep=T at*;generalize knL keep=Ks at*;generalize (λk=>lvL keep k||lvL (free.take j) k)=lv at*;generalize (f k).1=cc at*;generalize ixP f p=ii at*;unfold wx;refine zS1 hc ?_;refine U _ (e1.trans xZ) _ (λw2 e2=> ?_);have c2:=(c1.ext (Ext.trans xZ e2));have y:=e1.trans (Ext.trans xZ e2);refine zS0 ?_;rw [GX (by kernel_rfl)];simp only [eS,eg,gi,dl];refine aiR c2 a0.1 y.size _ (λw3 C3 g3 c3=> ?_);have O:Ext wN w3:=bA y g3 (λx hx=>by omega);have g:=c3.ch k a0.1 (dw _ _ _);obtain ⟨c,v⟩:∃c,C3 k=c:=⟨_,rfl⟩;have o:=λ{wF c' m}=>c3.put (w':=wF) (c:=c') (t:=T k) (m:=m) (ks:=Ks k) (G:=(C3 k).own) a0.1 (dw _ _ _)
  rw [v] at g o ⊢;have d2:w3.cell? ⟨c.b,2,none⟩=some c.d:=g.bx.cell (i:=2) oM;have ltb:=g.bx.lt
  (repeat' first|refine am (λ_=> ?_) (λ_=> ?_)|refine ao ?_ ?_|refine jI d2 ?_|exact yh d2|fail)
  refine du jG (g.d.ext xZ) (m:=1) (news:= [.int .i64 (ii:Int)]) rfl ?_ rfl oM oM oM (λv3 w4 A N E _=> ?_)
  ·intro q u hq;have e0:q=0:=by
    cases q with
    |zero=>rfl
    |succ q=>simp at hq
   subst e0;injection hq with hq;subst hq;exact (ah.new w3 [Value.int .i64 (ii:Int)] 3).cell (i:=0) (by simp)
  have l:Frm (λb=>c.d.ownBlock=some b) w3 w4:=(Frm.of_ext (show Ext w3 _ from Ext.alloc (Ext.refl _) _)).trans N (λ_ _ h=>h);have b4:=g.bx.frm l g.ne.2.2;have L:w4.cell? ⟨c.b,2,none⟩=some c.d:=b4.cell (i:=2) oM;have V:=b4.lt;have fz:=b4.frz;have P:=aP A;have F:SlO w4 3 1 v3 ((M k).length+1) (aX (M k)++ [.int .i64 (ii:Int)]):=A;have tk:=g.drop F l (λb hb=>(E b hb).imp id (λh=>by simp only [RZ] at h;omega));have fF:=o (c':=⟨c.b,c.t,c.k,v3⟩) tk.2.1 (λx hx=>hx) rfl tk.1 tk.2.2;have eF:Ext wN (w4.setCell ⟨c.b,2,none⟩ v3):=bA O tk.2.1 (λx hx=>(c3.fr k a0.1 (dw _ _ _) x (by rw [v];exact hx)).1);simp (disch:=try exact dU) only [↓RBp,↓RA,↓reduceIte,Nat.reduceAdd,Nat.reduceMul,Nat.reduceEqDiff,RZ9,L,fz,ke (t:=50) (by kernel_rfl) c.b 2 v3 w4 _ P,e5];rw [xm,xm] at fF;exact B _ _ eF fF
 ·have S:j=free.length:=oM;subst S;rw [cC] at c1;unfold wx;refine zS0 ?_;exact hK _ C1 e1 c1
end
def fa (P:List Nat):Prop:=P.Nodup/\0∉P
def fa.pre {P Q:List Nat} (h:fa (P++Q)):fa P:=⟨(List.nodup_append.1 h.1).1,λhm=>h.2 (dm _ hm)⟩
def snL (P:List Nat):KVL:=P.map λ(x:Nat)=>((x:Int),Value.bool true)
def ahY (P:List Nat) (p:Nat):(bV (snL P) (p:Int)).getD (.bool false)= .bool (decide (p∈P)):=by
 cases hg:bV (snL P) (p:Int) with
 |none=>
  have:p∉P:=λhm=>eM.1 hg ((p:Int),.bool true) (List.mem_map.2 ⟨p,hm,rfl⟩) rfl
  rw [decide_eq_false this];rfl
 |some v=>
  obtain ⟨x,hx,e⟩:=List.mem_map.1 (p6 hg);injection e with e1 e2;have:x=p:=oM;subst this;subst e2;rw [decide_eq_true hx];rfl
def ahZ {P:List Nat} {p:Nat} (h:p∉P):setL (snL P) (p:Int) (.bool true)=snL (P++ [p]):=by
 have:bV (snL P) (p:Int)=none:=eM.2 λq hq e=>by
  obtain ⟨x,hx,e2⟩:=List.mem_map.1 hq;rw [<-e2] at e;have:x=p:=by
   have:(x:Int)=(p:Int):=e;omega
  exact h (this▸hx)
 unfold setL;rw [if_neg (by rw [this];simp)];simp [snL]
def mTs:nU prog .u64 214 (.bool false):=⟨27,4,by kernel_rfl,by kernel_rfl,by kernel_rfl⟩
section
variable {w w1 w':aa} {sm m:Nat} {L P:List Nat}
def af7 {a:Option Addr} {cap:Nat} (hL:RdS m w (.slice a L.length cap) (bc L)) (hm:m<=w.heap.size) (hl:L.length<1000000) (hx:∀x∈L,x<18446744073709551616) (e1:Ext w w1) (hs:bN .u64 w1 sm (snL P)) (hn:w.heap.size<=sm) (q:fa P) (x9 x10 x11:an) (K:K1) (E1:an->aa->Prop)
  (k:¬fa (P++L)->∀w',Ext w w'->K (.bool false) w')
  (o:∀w',Ext w w'->bN .u64 w' sm (snL (P++L))->fa (P++L)->LF K E1 (.map (some sm)) x9 x10 x11 w'):
  LG K E1 (.map (some sm)) x9 x10 x11 (.slice a L.length cap) (.int .i64 (L.length:Int)) (.int .i64 0) w1:=by
 apply GM (I:=λz w2=>∃i:Nat,z= .int .i64 (i:Int)/\i<=L.length/\Ext w w2/\bN .u64 w2 sm (snL (P++L.take i))/\fa (P++L.take i)) (μ:=λz _=>L.length-(intOf z).toNat)
 ·exact ⟨0,rfl,by omega,e1,by simpa using hs,by simpa using q⟩
 ·intros;rename_i w2 hI E2 hE;obtain ⟨i,rfl,hi,e2,c,f⟩:=hI;unfold GL;by_cases hil:i<L.length
  ·obtain ⟨sb,so,sc,j,hc⟩:=(hL.ext e2).get (gP hil);injection j with j _ ev2;subst j;subst ev2;have l:=hx L[i] (bL hil);have ht:P++L.take (i+1)=(P++L.take i)++ [L[i]]:=by rw [ca hil,cw]
   have g:fa (P++L)->fa ((P++L.take i)++ [L[i]]):=λh=>by
    rw [<-ht];have:P++L=(P++L.take (i+1))++L.drop (i+1):=by rw [cw,ew]
    rw [this] at h;exact h.pre
   have n:∀w3,Ext w w3->bN .u64 w3 sm (snL ((P++L.take i)++ [L[i]]))->fa ((P++L.take i)++ [L[i]])->E2 (.int .i64 ((i+1:Nat):Int)) w3:=λw3 e3 h3 o3=>by
    apply hE
    ·exact ⟨i+1,rfl,by omega,e3,by rw [ht];exact h3,by rw [ht];exact o3⟩
    ·simp [intOf];omega
   have ei:(i:Int)+1=((i+1:Nat):Int):=oM;generalize P++L.take i=Q at*;generalize L[i]=p at*;have d:∀(w3:aa) (K:K1),Ext w2 w3->ev prog (Instr.lookup 214 (.map (some sm)) (.int .u64 (p:Int)) false) w3 K=K (.bool (decide (p∈Q))) w3:=λw3 K e=>by rw [dY mTs (c.ext e),ahY]
   by_cases p0:p=0
   ·have b:∀(w1:aa) (K:K1),ae prog 73 #[.int .u64 (p:Int)] w1 K=K (.bool true) w1:=λw1 K=>by rw [mg p w1 K l,decide_eq_true p0]
    refine zS2 hc b ?_;exact k (λh=>(g h).2 (by rw [p0];simp)) _ (e2.trans xZ)
   ·have b:∀(w1:aa) (K:K1),ae prog 73 #[.int .u64 (p:Int)] w1 K=K (.bool false) w1:=λw1 K=>by rw [mg p w1 K l,decide_eq_false p0]
    by_cases pq:p∈Q
    ·rw [decide_eq_true pq] at d;refine ia hc b d ?_;exact k (λh=>by
      have:=(List.nodup_append.1 (g h).1).2.2 p pq p (by simp);exact this rfl) _ (e2.trans xZ)
    ·rw [decide_eq_false pq] at d;refine ia hc b d ?_;refine nI mTs (c.ext xZ) _ _ (λw3 m3 g3=> ?_);rw [ahZ pq] at m3;have e3:Ext w w3:=bA (e2.trans xZ) g3 (λx h=>by omega);refine zS1 ei ?_;refine n _ e3 m3 ⟨List.nodup_append.2 ⟨f.1,by simp,λx hx y hy e=> ?_⟩,λh=> ?_⟩
     ·simp only [ab] at hy;subst hy;subst e;exact pq hx
     ·rcases List.mem_append.1 h with h|h
      ·exact f.2 h
      ·simp only [ab] at h;exact p0 h.symm
  ·have:i=L.length:=oM;subst this;rw [cC] at c f;refine zS0 ?_;exact o _ e2 c f
def Mb {A B:List Nat} {va vb:an} (hA:RdS m w va (bc A)) (hB:RdS m w vb (bc B)) (hm:m<=w.heap.size) (hl:A.length<1000000/\B.length<1000000) (hx:∀x∈A++B,x<18446744073709551616) {b cap:Nat} (c0:w.cell? ⟨b,0,none⟩=some va) (c1:w.cell? ⟨b,1,none⟩=some vb) (K:K1)
  (c:¬fa (A++B)->∀w',Ext w w'->K (.bool false) w')
  (e:fa (A++B)->∀w',Ext w w'->K (.bool true) w'):
  ae prog 94 #[.slice (some ⟨b,0,none⟩) 2 cap] w K:=by
 have lA:(bc A).length=A.length:=by simp [bc]
 have lB:(bc B).length=B.length:=by simp [bc]
 obtain ⟨aA,cA,rfl,_⟩:=id hA;obtain ⟨aB,cB,rfl,_⟩:=id hB;rw [lA] at hA c0;rw [lB] at hB c1;refine ZN _ _ _ ?_;unfold afW;refine zS0 ?_;have i:(w.alloc (.map #[] 0)).heap[w.heap.size]? =some (.map #[] 0):=aQ _ _;have m1:bN .u64 (w.alloc (.map #[] 0)) w.heap.size (snL []):=bN.empty i;have j:Ext w (w.alloc (.map #[] 0)):=Ext.alloc_self _ _;refine GK _ _ _ _ _ _ (λz w2=>Ext w w2/\((z= .int .i64 0/\bN .u64 w2 w.heap.size (snL [])/\fa [])\/(z= .int .i64 1/\bN .u64 w2 w.heap.size (snL A)/\fa A)\/(z= .int .i64 2/\fa (A++B)))) (λz _=>2-(intOf z).toNat) ⟨j,.inl ⟨rfl,m1,by simp [fa]⟩⟩ ?_;intros;rename_i z w2 hI E1 hE;obtain ⟨e2,hI⟩:=hI;have f:=e2.cell_some c0;have g:=e2.cell_some c1;unfold GJ;rcases hI with ⟨rfl,hs,ok⟩|⟨rfl,hs,ok⟩|⟨rfl,ok⟩
 ·refine zS2 @Int.toNat_zero f ?_;refine af7 hA hm hl.1 (λx h=>hx x (dm _ h)) (e2.trans xZ) (hs.ext xZ) (bl _) ok _ _ _ _ _ (λhn w3 e3=>c (λh=>hn (by simpa using h.pre)) w3 e3) (λw3 e3 d a=> ?_);rw [Bf];unfold wW;refine zS0 ?_;apply hE
  ·exact ⟨e3.trans xZ,.inr (.inl ⟨rfl,by simpa using d.ext xZ,by simpa using a⟩)⟩
  ·simp [intOf]
 ·refine zS2 @Int.toNat_one g ?_;refine af7 hB hm hl.2 (λx h=>hx x (ey _ h)) (e2.trans xZ) (hs.ext xZ) (bl _) ok _ _ _ _ _ (λhn w3 e3=>c hn w3 e3) (λw3 e3 d a=> ?_);rw [Bf];unfold wW;refine zS0 ?_;apply hE
  ·exact ⟨e3.trans xZ,.inr (.inr ⟨rfl,a⟩)⟩
  ·simp [intOf]
 ·refine zS2 @TO @GI.eq_1 ?_;exact e ok _ (e2.trans xZ)
end
def lvF (keep free:List Nat) (k:Nat):Bool:=lvL keep k||lvL free k
def chK (keep free:List Nat) (n:Nat):List Nat:=(List.range n).filter (lvF keep free)
def lnK (k:Nat):Int:=((26+32*k:Nat):Int)
section
variable {w0 wN w w':aa} {Y:Lay} {D:DS} {H:HL} {n mb cb m:Nat} {f:Idx} {R keep free:List Nat} {C:Nat->CgB}
def af8 {L:List Nat} {k:Nat} (h:lvL L k=false):tkL f L k= []:=by
 unfold tkL;rw [List.filter_eq_nil_iff.2 (λp hp=>by
  unfold lvL at h;rw [List.any_eq_false] at h;exact h p hp)]
 rfl
def ah0 {k:Nat} (h:lvF keep free k=false):wsK D f keep free k= []:=by
 unfold lvF at h;rw [Bool.or_eq_false_iff] at h;unfold wsK;rw [af8 h.1,af8 h.2];unfold jo;rw [if_pos (by simp)];rfl
def aaF:∀m,bW D f keep free m=(chK keep free m).flatMap (wsK D f keep free):=by
 intro m
 induction m with
 |zero=>rfl
 |succ m ih=>
  unfold chK at ih ⊢;unfold bW;rw [List.range_succ,dr,dp,ih]
  congr 1
  by_cases hl:lvF keep free m=true
  ·simp [hl]
  ·have hl:lvF keep free m=false:=by simpa using hl
   simp [hl,ah0 hl]
def Pz {k:Nat} (h:k∈chK keep free n):k<n/\lvF keep free k=true:=by
 unfold chK at h;rw [eo,gj] at h;exact h
def Ui {L:KVL} (hn:(L.map (·.1)).Nodup) (h1:∀p∈L,∃k,k<n/\p.1=((26+32*k:Nat):Int)) {g:Nat->an} (h2:∀k,k<n->bV L ((26+32*k:Nat):Int)=if lvF keep free k=true then some (g k) else none):(L.map (·.1)).Perm ((chK keep free n).map lnK):=by
 have c:((chK keep free n).map lnK).Nodup:=eO _ (λa _ b _ e=>by unfold lnK at e;omega) (List.nodup_range.filter _);refine (List.perm_ext_iff_of_nodup hn c).2 (λa=>⟨λha=> ?_,λha=> ?_⟩)
 ·obtain ⟨p,hp,rfl⟩:=List.mem_map.1 ha;obtain ⟨k,hk,e⟩:=h1 p hp;have hg:=h2 k hk;have hl:lvF keep free k=true:=by
   by_cases hl:lvF keep free k=true
   ·exact hl
   ·rw [if_neg hl] at hg;exact absurd e (eM.1 hg p hp)
  exact List.mem_map.2 ⟨k,by unfold chK;rw [eo,gj];exact ⟨hk,hl⟩,e.symm⟩
 ·obtain ⟨k,hk,rfl⟩:=List.mem_map.1 ha;have hk:=Pz hk;have hg:=h2 k hk.1;rw [if_pos hk.2] at hg;exact List.mem_map.2 ⟨_,p6 hg,rfl⟩
def Hc {s:List Int} (h:s.Perm ((chK keep free n).map lnK)):(s.mergeSort λx y=>decide (x<=y))=(chK keep free n).map lnK:=by
 refine List.Perm.eq_of_pairwise (le:=λa b:Int=>a<=b) (λa b _ _ h1 h2=>by omega) ?_ ?_ ((List.mergeSort_perm s _).trans h)
 ·have:=List.pairwise_mergeSort (le:=λx y:Int=>decide (x<=y)) (λa b c h1 h2=>by simp at*;omega) (λa b=>by simp;omega) s;exact this.imp (λh=>by simpa using h)
 ·refine List.Pairwise.map (R:=λa b:Nat=>a<b) lnK (λa b h=>by unfold lnK;omega) ?_;exact List.Pairwise.filter _ List.pairwise_lt_range
def aaG:∀(l:List (Nat×Nat)),bO (wrL l)=true:=by
 intro l
 induction l with
 |nil=>rfl
 |cons x l ih=>obtain ⟨a,b⟩:=x;simp [wrL,bO,aj,ih]
def bj.pos (P:bj D f n keep free) {k:Nat} (b:k<n) (hl:lvF keep free k=true):0<=(f k).1/\0<(wsK D f keep free k).length:=by
 have h0:0<=(f k).1/\¬(tkL f keep k= []/\tkL f free k= []):=by
  unfold lvF at hl;rcases Bool.or_eq_true_iff.1 hl with h|h
  ·unfold lvL at h;obtain ⟨p,hp,e⟩:=List.any_eq_true.1 h;have e:hk p=k:=by simpa using e
   have a:=((P.kp p hp).at_ P.n4 P.rg).1;rw [e] at a;exact ⟨a.2.1,λhh=>by
    have:(ixP f p:Int)∈tkL f keep k:=ji.2 ⟨p,hp,e,rfl⟩;rw [hh.1] at this;cases this⟩
  ·unfold lvL at h;obtain ⟨p,hp,e⟩:=List.any_eq_true.1 h;have e:hk p=k:=by simpa using e
   have a:=((P.fr p hp).at_ P.n4 P.rg).1;rw [e] at a;exact ⟨a.2.1,λhh=>by
    have:(ixP f p:Int)∈tkL f free k:=ji.2 ⟨p,hp,e,rfl⟩;rw [hh.2] at this;cases this⟩
 refine ⟨h0.1,?_⟩;have a:=P.act b h0.1;rcases (ng a.1.len a.2).2.2 with ⟨_,e1,e2⟩|e
 ·exact absurd ⟨e1,e2⟩ h0.2
 ·rw [e,aq,aq];simp only [dk,List.length_nil];omega
def aiW (h:HpS w0 wN Y D H n f R) (P:bj D f n keep free) (e:Ext wN w) (hC:hJ wN.heap.size w mb cb n C (lvF keep free) (tkL f keep) (knL keep) (tkL f free)) (hl:keep.length<=100000/\free.length<=100000) {a:Option Addr} {cap:Nat} (hS:SlO w 3 1 (.slice a (chK keep free n).length cap) (chK keep free n).length (aX ((chK keep free n).map lnK))) (K:K1)
  (hK:∀v' w',Ext w w'->bi w.heap.size v'->SlO w' 98 2 v' (bW D f keep free n).length (wrL (bW D f keep free n))->DR K (hpV H) v' w'):
  Ly K (hpV H) (.pointer (some ⟨cb,0,none⟩)) (.slice none 0 0) (.slice a (chK keep free n).length cap) (.int .i64 ((chK keep free n).length:Int)) (.int .i64 0) w:=by
 have b2:=h.n4;have M:=P.le;rw [aaF] at hK M;have mem:=λ(k:Nat) (hk:k∈chK keep free n)=>Pz hk
 have I:∀(j:Nat) (hj:j<(chK keep free n).length),((chK keep free n).take (j+1)).flatMap (wsK D f keep free)=((chK keep free n).take j).flatMap (wsK D f keep free)++wsK D f keep free (chK keep free n)[j]:=λj hj=>by
  rw [ca hj,dp];simp
 have G:∀j,(((chK keep free n).take j).flatMap (wsK D f keep free)).length<=2*(keep.length+free.length):=λj=>by
  have:(chK keep free n).flatMap (wsK D f keep free)=((chK keep free n).take j).flatMap (wsK D f keep free)++((chK keep free n).drop j).flatMap (wsK D f keep free):=by
   rw [<-dp,ew]
  rw [this,aq] at M;omega
 have a9:(chK keep free n).length<=n:=by
  unfold chK;exact hW (al _ _) (by rw [fq];exact bl n)
 obtain ⟨KS,a5⟩:∃KS,chK keep free n=KS:=⟨_,rfl⟩;rw [a5] at hS hK mem I G a9 ⊢;have a7:∀(j:Nat) (hj:j<KS.length),(aX (KS.map lnK))[j]? =some (.int .i64 ((26+32*KS[j]:Nat):Int)):=λj hj=>by simp [hj,lnK]
 have b0:RdS w.heap.size w (.slice a KS.length cap) (aX (KS.map lnK)):=by
  have lk:(aX (KS.map lnK)).length=KS.length:=by simp
  refine RdS.of_slR (t:=3) ?_;rw [lk];exact hS
 refine Gr _ _ _ _ _ _ _ _ (λv z w1=>∃j,z= .int .i64 ((j:Nat):Int)/\j<=KS.length/\Ext w w1/\bi w.heap.size v/\SlO w1 98 2 v ((KS.take j).flatMap (wsK D f keep free)).length (wrL ((KS.take j).flatMap (wsK D f keep free)))) (λ_ z _=>KS.length-(intOf z).toNat) ⟨0,rfl,by omega,Ext.refl _,(λb hb=>by cases hb),SlO.nil _ _ _⟩ ?_;intros;rename_i v z w1 hI E1 V;obtain ⟨j,rfl,hj,e1,nv,sv⟩:=hI;have p:=e.trans e1;by_cases hjl:j<KS.length
 ·obtain ⟨sb,so,sc,q,hc⟩:=(b0.ext e1).get (a7 j hjl);have lk:(aX (KS.map lnK)).length=KS.length:=by simp
  rw [lk] at q;injection q with q _ ev2;subst q;subst ev2;obtain ⟨k,F⟩:∃k,KS[j]=k:=⟨_,rfl⟩;have c:=mem k (F▸bL hjl);rw [F] at hc;have A:=I j hjl;rw [F] at A;have U:=G (j+1);have o:=P.pos c.1 c.2;have E:=P.act c.1 o.1;have c1:=hC.ext e1;have g:=c1.ch k c.1 c.2;have T:∀v2 w2,Ext w w2->bi w.heap.size v2->SlO w2 98 2 v2 (((KS.take j).flatMap (wsK D f keep free)).length+(wsK D f keep free k).length) (wrL ((KS.take j).flatMap (wsK D f keep free))++wrL (wsK D f keep free k))->E1 v2 (.int .i64 ((j+1:Nat):Int)) w2:=λv2 w2 e2 n2 s2=>by
   apply V
   ·refine ⟨j+1,rfl,by omega,e2,n2,?_⟩;rw [A,ck,aq];exact s2
   ·simp [intOf];omega
  rw [A,aq] at U;have e5:(j:Int)+1=((j+1:Nat):Int):=oM;have Z:=h.open c.1 o.1;have a8:=h.cx c.1 o.1;have S:=h.er 0 oM;have q0:=(h.ext p).cell.1;have ltp:=(h.ext p).ltp;obtain ⟨L,a6,_,a4⟩:=c1.mp;have J:∀(w2:aa) (K:an->Prop),Ext w1 w2->rd prog (Instr.lookup 159 (.map (some mb)) (.int .i64 ((26+32*k:Nat):Int)) false) w2 K=K (.pointer (some ⟨(C k).b,0,none⟩)):=λw2 K e2=>by rw [F8 mTc (a6.ext e2),a4 k c.1,if_pos c.2];rfl
  have d0:∀w2,Ext w1 w2->w2.cell? ⟨(C k).b,0,none⟩=some (C k).t:=λw2 e2=>(g.bx.ext e2).cell (i:=0) oM
  have d1:∀w2,Ext w1 w2->w2.cell? ⟨(C k).b,1,none⟩=some (C k).k:=λw2 e2=>(g.bx.ext e2).cell (i:=1) oM
  have d2:∀w2,Ext w1 w2->w2.cell? ⟨(C k).b,2,none⟩=some (C k).d:=λw2 e2=>(g.bx.ext e2).cell (i:=2) oM
  have dc:∀w2,Ext w1 w2->w2.cell? ⟨cb,0,none⟩=some (.map (some mb)):=λw2 e2=>(c1.cx.ext e2).cell (i:=0) oM
  have rt:RdS w1.heap.size w1 (C k).t (aX (tkL f keep k)):=RdS.of_slR (t:=3) (by rw [show (aX (tkL f keep k)).length=(tkL f keep k).length by simp];exact g.t);have rk:RdS w1.heap.size w1 (C k).k (u8L (knL keep k)):=RdS.of_slR (t:=5) (by rw [show (u8L (knL keep k)).length=(knL keep k).length by simp];exact g.k);have X:RdS w1.heap.size w1 (C k).d (aX (tkL f free k)):=RdS.of_slR (t:=3) (by rw [show (aX (tkL f free k)).length=(tkL f free k).length by simp];exact g.d);have l1:=ur f keep k;have l2:=ur f free k;have l3:(knL keep k).length<=keep.length:=by unfold knL;rw [cj];exact al _ _
  have k8:∀x∈knL keep k,x<256:=λx hx=>by have:=E.1.kin x hx;omega
  have Q:=λ(w2:aa) (e2:Ext w1 w2) (K:K1) hb hno hy=>Te (a8.ext (p.trans e2)) S (f k).2.1 (gX (wd D (26+32*k) 0)) (tkL f keep k) (tkL f free k) (knL keep k) (C k).t (C k).k (C k).d (rt.ext e2) (rk.ext e2) (X.ext e2) oM oM oM k8 K hb hno hy
  have B:=E.2;have O:=E.1;generalize wsK D f keep free k=W at*;generalize ((KS.take j).flatMap (wsK D f keep free))=W0 at*;generalize (f k).1=cc at*;generalize (f k).2.1=oo at*;generalize gX (wd D (26+32*k) 0)=gg at*;unfold wz;refine zS2 hc q0 ?_;refine Z _ _ (p.trans xZ) (λw2 e2=> ?_);have y:Ext w1 w2:=Ext.trans xZ e2;have hN:=ah.new w2 [Value.iface 31 (.pointer (some ⟨Y.tb 0,0,none⟩)),.int .i64 ((26+32*k:Nat):Int),.int .i64 cc,.int .i64 oo,.int .u16 (gg:Int)] 134;have l:=chD hN;have g0:=l.1;have g1:=l.2.1;have g2:=l.2.2.1;have g3:=l.2.2.2.1;have g4:=l.2.2.2.2;have ea:Ext w1 (w2.alloc (.cells #[Value.iface 31 (.pointer (some ⟨Y.tb 0,0,none⟩)),.int .i64 ((26+32*k:Nat):Int),.int .i64 cc,.int .i64 oo,.int .u16 (gg:Int)] 134)):=y.trans (Ext.alloc_self _ _);have a0:=d0 _ ea;have a1:=d1 _ ea;have a2:=d2 _ ea;have ac:=dc _ ea;have N:=λK=>J _ K ea
  refine jJ g0 g1 g2 g3 g4 a0 a1 a2 ac J N ?_;refine Q _ (y.trans xZ) _ (λhb=>absurd O hb) (λ_ hn=>by rw [B] at hn;cases hn) (λ_ ws r v3 w3 e3 n3 s3=> ?_);rw [B] at r;injection r with r;subst r;obtain ⟨xb,xo,xc,rfl,_⟩:=s3.isS o.2;have s:Ext w1 w3:=y.trans (Ext.trans xZ e3);refine Rr ?_;refine du dx (sv.ext (s.trans xZ)) (m:=W.length) (news:=wrL W) (vy W) (λj u hj=>s3.cell rfl hj) (aaG W) o.2 oM oM (λv4 w4 s4 f4 a3 _=> ?_);refine zS1 e5 ?_;refine T v4 _ (bA (e1.trans s) f4 (λx hx=>nv x hx)) (λb hb=> ?_) s4;rcases a3 b hb with h1|h1
  ·exact nv b h1
  ·have:=(e1.trans s).size;omega
 ·have b1:j=KS.length:=oM;subst b1;rw [cC] at sv;unfold wz;refine zS0 ?_;exact hK _ _ e1 nv sv
end
section
variable {w0 w w':aa} {Y:Lay} {D:DS} {H:HL} {n m mb:Nat} {f:Idx} {R keep free:List Nat} {L:KVL}
def Mc {P:Program} (f:Fn) (a b:Array an) (w:aa) (k:K1):ev P (Instr.makeFunc f a b) w k=k (.func f a b) w:=rfl
def ah1 (r:Option Nat):(Value.map r).cells= #[.map r]:=rfl
def SlO.form {t:TypeId} {z k:Nat} {v:an} {L:List an} (h:SlO w t z v k L):∃a cap,v= .slice a k cap:=by
 rcases h.2 with ⟨rfl,rfl⟩|⟨b,o,cap,a,rfl,_⟩
 ·exact ⟨none,0,rfl⟩
 ·exact ⟨_,cap,rfl⟩
def aaH (hm:bN .i64 w mb L) {b:Nat} (hb:ah w b 159 1 (λ_=> .map (some mb))) (hL:L.length<1000000) (K:K1)
  (hK:∀(s:List Int) v w',s.Perm (L.map (·.1))->Ext w w'->bi w.heap.size v->SlO w' 3 1 v s.length (aX (s.mergeSort λx y=>decide (x<=y)))->K v w'):
  ae prog 96 #[.func (.func 142) #[] #[.pointer (some ⟨b,0,none⟩)]] w K:=by
 refine ZQ _ _ _ ?_;unfold af0;refine zS0 ?_;refine Ug hm hb hL _ (λs v w1 hp e1 n1 s1=> ?_);have hl:s.length<1000000:=by
  have:=hp.length_eq;rw [cj] at this;omega
 refine zS0 ?_;refine ad9 s1 hl _ (λw2 g2 s2=> ?_);exact hK s v w2 hp (bA e1 g2 (λx hx=>n1 x hx)) n1 s2
def bj.of (h:HpS w0 w Y D H n f R) (c:∀p∈keep,p∈R) (d:∀p∈free,Liv D f n p) (hd:fa (keep++free)):bj D f n keep free:=by
 have nd:=List.nodup_append.1 hd.1;exact ⟨h.rg,h.n4.1,λp hp=>h.rv p (c p hp),d,eO _ (λa ha b hb e=>sO h.nd (c a ha) (c b hb) e) nd.1,nd.2.1⟩
def oV (h:HpS w0 w Y D H n f R) (e:∀p∈keep,p∈R) (r:∀p∈free,Liv D f n p) {va vb:an} (hA:RdS m w va (bc keep)) (hB:RdS m w vb (bc free)) (hm:m<=w.heap.size) (hl:keep.length<=100000/\free.length<=100000) (K:K1)
  (M:¬fa (keep++free)->∀w',Ext w w'->K (.tuple #[.slice none 0 0,.int .i64 1]) w')
  (E:fa (keep++free)->bj D f n keep free->∀v' w',Ext w w'->bi w.heap.size v'->SlO w' 98 2 v' (bW D f keep free n).length (wrL (bW D f keep free n))->K (.tuple #[v',.int .i64 0]) w'):
  ae prog 42 #[hpV H,va,vb] w K:=by
 have U:=h.n4;have lA:(bc keep).length=keep.length:=by simp [bc]
 have lB:(bc free).length=free.length:=by simp [bc]
 obtain ⟨aA,cA,rfl,_⟩:=id hA;obtain ⟨aB,cB,rfl,_⟩:=id hB;rw [lA] at hA ⊢;rw [lB] at hB ⊢;have hr:∀p∈R,p<18446744073709551616:=λp hp=>by
  have:=((h.rv p hp).kn oM h.rg).2.2.2.1;omega
 have hx:∀x∈keep++free,x<18446744073709551616:=λx hx=>by
  rcases List.mem_append.1 hx with hx|hx
  ·exact hr x (e x hx)
  ·have:=((r x hx).at_ oM h.rg).2.2.1;omega
 have t:=h.erE;have q0:=h.cell.1;have ltp:=h.ltp;have p5:∀v' w1,Ext w w1->SlO w1 98 2 v' (bW D f keep free n).length (wrL (bW D f keep free n))->bi w.heap.size v'->fa (keep++free)->bj D f n keep free->DR K (hpV H) v' w1:=λv' w1 e1 s1 n1 hd P=>by
  have g:=(h.ext e1).cell.1;have J:=(h.ext e1).ltp;rw [TJ];unfold Gq;refine jm g t ?_;exact E hd P v' _ (e1.trans xZ) n1 (s1.ext xZ)
 have p4:∀wN w1 mb cb C,Ext w wN->Ext wN w1->hJ wN.heap.size w1 mb cb n C (lvF keep free) (tkL f keep) (knL keep) (tkL f free)->fa (keep++free)->bj D f n keep free->DQ K (hpV H) (.pointer (some ⟨cb,0,none⟩)) w1:=λwN w1 mb cb C eN e1 hC hd P=>by
  obtain ⟨L,mL,h1,h2⟩:=hC.mp;have F:w1.cell? ⟨cb,0,none⟩=some (.map (some mb)):=hC.cx.cell (i:=0) oM;have S:=hC.cx.lt;have A:=Ui (keep:=keep) (free:=free) mL.keys h1 h2;have T:(chK keep free n).length<=n:=by
   unfold chK;exact hW (al _ _) (by rw [fq];exact bl n)
  have Q:L.length<1000000:=by
   have:=A.length_eq;rw [cj,cj] at this;omega
  rw [TI];unfold Gn;refine zS1 F ?_;refine ZR _ _ _ ?_;unfold af1;refine zS1 @Mc ?_;have l:ah (w1.alloc (.cells #[.map (some mb)] 159)) w1.heap.size 159 1 (λ_=> .map (some mb)):=(ah.new w1 [.map (some mb)] 159).congr (λi hi=>by rw [show i=0 by simpa using hi];rfl);refine aaH (mL.ext xZ) l Q _ (λs v w2 hp e2 n2 s2=> ?_);have u:=hp.trans A;have y:=u.length_eq;rw [cj] at y;rw [Hc u,y] at s2;have d:Ext w1 w2:=Ext.trans xZ e2;obtain ⟨a,cap,rfl⟩:=SlO.form s2;refine zS0 ?_;refine aiW (h.ext eN) P (e1.trans d) (hC.ext d) hl s2 K (λv' w3 e3 n3 s3=> ?_);exact p5 v' w3 (eN.trans (e1.trans (d.trans e3))) s3 (λb hb=>by have:=n3 b hb;have:=(eN.trans (e1.trans d)).size;omega) hd P
 have p2:∀w1,Ext w w1->fa (keep++free)->bj D f n keep free->Lt K (hpV H) (.slice aA keep.length cA) (.slice aB free.length cB) w1:=λw1 e1 hd P=>by
  have h1:=h.ext e1;rw [TG];unfold Gi;have G:((w1.alloc (.map #[] 0)).alloc (.cells #[.map (some w1.heap.size)] 159)).heap[w1.heap.size]? =some (.map #[] 0):=by
   rw [bv _ (by rw [size_alloc];omega)];exact aQ _ _
  have l:ah ((w1.alloc (.map #[] 0)).alloc (.cells #[.map (some w1.heap.size)] 159)) (w1.heap.size+1) 159 1 (λ_=> .map (some w1.heap.size)):=by
   have:=ah.new (w1.alloc (.map #[] 0)) [.map (some w1.heap.size)] 159;rw [size_alloc] at this;exact this.congr (λi hi=>by rw [show i=0 by simpa using hi];rfl)
  have c0:hJ w1.heap.size ((w1.alloc (.map #[] 0)).alloc (.cells #[.map (some w1.heap.size)] 159)) w1.heap.size (w1.heap.size+1) n (λ_=>⟨0,undef,undef,undef⟩) (λ_=>false) (λ_=> []) (λ_=> []) (λ_=> []):=
   ⟨⟨[],bN.empty G,λp hp=>(by cases hp),λk _=>rfl⟩,l,λk _ hl=>(by cases hl),λk _ hl=>(by cases hl),λk j _ _ hl=>(by cases hl),λk _=>⟨rfl,rfl,rfl⟩,by omega,by omega,by omega⟩
  refine zS3 @ah1 @size_alloc @Mc ?_;refine aiU h1 xZ c0 (hA.ext e1) oM P.kp _ K (λw2 C2 e2 c2=> ?_);rw [TH];unfold Gl;refine zS0 ?_;refine aiV h1 (e2.trans xZ) (c2.ext xZ) (hB.ext e1) oM P.fr K (λw3 C3 e3 c3=> ?_);exact p4 w1 w3 _ _ C3 e1 e3 c3 hd P
 have p1:∀w1,Ext w w1->fa (keep++free)->bj D f n keep free->Lr K (hpV H) (.slice aA keep.length cA) (.slice aB free.length cB) w1:=λw1 e1 hd P=>by
  rw [TF];unfold Gf;refine zS0 ?_;apply Gk (I:=λz w2=>∃i:Nat,z= .int .i64 (i:Int)/\i<=free.length/\Ext w w2) (μ:=λz _=>free.length-(intOf z).toNat)
  ·exact ⟨0,rfl,by omega,e1.trans xZ⟩
  ·intros;rename_i w2 hI E2 hE;obtain ⟨i,rfl,hi,e2⟩:=hI;unfold Gj;by_cases hil:i<free.length
   ·obtain ⟨sb,so,sc,c,hc⟩:=(hB.ext e2).get (gP hil);injection c with c _ ev2;subst c;subst ev2;have N:=r free[i] (bL hil);have q:=hx free[i] (ey _ (bL hil));have ei:(i:Int)+1=((i+1:Nat):Int):=oM;generalize free[i]=p at*;refine zS1 hc ?_;refine gQ (h.ext (e2.trans xZ)) q 0 oM _ (λ_ w3 e3=> ?_) (λnl=>(nl N).elim);rw [if_pos (.inl rfl)];refine zS1 ei ?_;apply hE
    ·exact ⟨i+1,rfl,by omega,e2.trans (Ext.trans xZ (e3.trans xZ))⟩
    ·simp [intOf];omega
   ·have:i=free.length:=oM;subst this;refine zS0 ?_;exact p2 _ (e2.trans xZ) hd P
 have p0:∀w1,Ext w w1->fa (keep++free)->bj D f n keep free->Ls K (hpV H) (.slice aA keep.length cA) (.slice aB free.length cB) (.slice aA keep.length cA) (.int .i64 (keep.length:Int)) (.int .i64 0) w1:=λw1 e1 hd P=>by
  apply Gh (I:=λz w2=>∃i:Nat,z= .int .i64 (i:Int)/\i<=keep.length/\Ext w w2) (μ:=λz _=>keep.length-(intOf z).toNat)
  ·exact ⟨0,rfl,by omega,e1⟩
  ·intros;rename_i w2 hI E2 hE;obtain ⟨i,rfl,hi,e2⟩:=hI;unfold Gg;by_cases hil:i<keep.length
   ·obtain ⟨sb,so,sc,c,hc⟩:=(hA.ext e2).get (gP hil);injection c with c _ ev2;subst c;subst ev2;have O:=e keep[i] (bL hil);have q:=hx keep[i] (dm _ (bL hil));have ei:(i:Int)+1=((i+1:Nat):Int):=oM;generalize keep[i]=p at*;refine zS1 hc ?_;refine k_holds (h.ext (e2.trans xZ)) hr p q _ (λw3 e3=> ?_);rw [decide_eq_true O];refine zS1 ei ?_;apply hE
    ·exact ⟨i+1,rfl,by omega,e2.trans (Ext.trans xZ (e3.trans xZ))⟩
    ·simp [intOf];omega
   ·have:i=keep.length:=oM;subst this;refine zS0 ?_;exact p1 _ (e2.trans xZ) hd P
 have B:=ah.new w [Value.slice aA keep.length cA,Value.slice aB free.length cB] 25;have b0:=B.cell (i:=0) (by simp);have b1:=B.cell (i:=1) (by simp);refine Ze _ _ _ _ _ ?_;unfold afG;refine zS0 ?_;refine Mb (hA.ext xZ) (hB.ext xZ) (by rw [size_alloc];omega) oM hx b0 b1 _ (λhd w1 e1=> ?_) (λhd w1 e1=> ?_)
 ·refine zS0 ?_;exact M hd _ (Ext.trans (Ext.alloc_self _ _) (e1.trans xZ))
 ·have o:Ext w w1:=Ext.trans (Ext.alloc_self _ _) e1;have g:=(h.ext o).cell.1;have J:=(h.ext o).ltp;refine jm g t ?_;exact p0 _ (o.trans xZ) hd (bj.of h e r hd)
end
def rmL (R ks:List Nat):List Nat:=R.filter λq=>decide (q∉ks)
def eQ {R ks:List Nat} {q:Nat}:q∈rmL R ks↔q∈R/\q∉ks:=by unfold rmL;simp
def Eo (R:List Nat):rmL R []=R:=by
 unfold rmL;exact List.filter_eq_self.2 (λq _=>by simp)
def xn (R ks:List Nat) (p:Nat):rmL R (ks++ [p])=rmR (rmL R ks) p:=by
 unfold rmL rmR;rw [fl];refine ef (λq _=> ?_);by_cases e:q=p
 ·subst e;simp
 ·simp [e]
structure RdH (w:aa) (Y:Lay) (H:HL) (v:an) (L:List an):Prop where
 rd:RdS w.heap.size w v L
 sp:L≠ []->∀b,v.ownBlock=some b->¬Y.F b/\b≠H.b/\b≠H.p/\b≠H.rm/\b≠H.hm
def RdS.blk {m:Nat} {w:aa} {v:an} {L:List an} (h:RdS m w v L) (hL:L≠ []) {b:Nat} (hb:v.ownBlock=some b):b<m:=by
 obtain ⟨a,cap,rfl,h⟩:=h;rcases h with h|⟨b',o,rfl,hm,_⟩
 ·exact absurd h hL
 ·injection hb with hb;subst hb;exact hm
def RdH.nil (w:aa) (Y:Lay) (H:HL):RdH w Y H (.slice none 0 0) []:=⟨RdS.nil _ _,λh=>absurd rfl h⟩
section
variable {Q:Nat->Prop} {w0 w w':aa} {Y Y':Lay} {D:DS} {H:HL} {n:Nat} {f:Idx} {R keep:List Nat} {v:an} {L:List an}
def RdH.get (h:RdH w Y H v L) {j:Nat} {u:an} (hj:L[j]? =some u):∃b o cap,v= .slice (some ⟨b,o,none⟩) L.length cap/\w.cell? ⟨b,o+j,none⟩=some u:=h.rd.get hj
def RdH.st (h:RdH w Y H v L) (s:HSt w Y H w' Y'):RdH w' Y' H v L:=by
 refine ⟨?_,λhL b hb=> ?_⟩
 ·obtain ⟨a,cap,rfl,hh⟩:=h.rd;by_cases hL:L= []
  ·exact ⟨a,cap,rfl,.inl hL⟩
  refine ⟨a,cap,rfl,.inr ?_⟩;rcases hh with hh|⟨b,o,rfl,hm,hc⟩
  ·exact absurd hh hL
  ·have sp:=h.sp hL b rfl;refine ⟨b,o,rfl,by have:=s.frm.size;omega,λj u hj=> ?_⟩;have hb:¬(Y.F b\/b=H.b\/b=H.p\/b=H.rm\/b=H.hm):=λhf=>by
    rcases hf with e|e|e|e|e
    ·exact sp.1 e
    ·exact sp.2.1 e
    ·exact sp.2.2.1 e
    ·exact sp.2.2.2.1 e
    ·exact sp.2.2.2.2 e
   have c:=hc j u hj;unfold World.cell? at c ⊢;rw [s.frm.block b hm hb];exact c
 ·have sp:=h.sp hL b hb;have hm:=h.rd.blk hL hb;exact ⟨λhf=>(s.fr b hf).elim sp.1 (λh=>by omega),sp.2⟩
def xp (h:HpG Q w0 w Y D H n f R) (e:∀p∈R,Plc f n p) {a:Option Addr} {cap:Nat} (hA:RdH w Y H (.slice a keep.length cap) (bc keep)) (hk:∀p∈keep,p<18446744073709551616) (hR:R.length<1000000) (hl:keep.length<1000000) (u:an) (K:K1)
  (hK:∀w' f2,FS f f2->HSt w Y H w' Y->HpG Q w0 w' Y D H n f2 (rmL R keep)->K (.tuple #[]) w'):
  ae prog 44 #[hpV H,.slice a keep.length cap,u] w K:=by
 have t:=h.n4;refine Zj _ _ _ _ _ ?_;unfold afI;refine zS0 ?_;apply Gs (I:=λz w1=>∃j f1,z= .int .i64 ((j:Nat):Int)/\j<=keep.length/\FS f f1/\HSt w Y H w1 Y/\HpG Q w0 w1 Y D H n f1 (rmL R (keep.take j))) (μ:=λz _=>keep.length-(intOf z).toNat)
 ·refine ⟨0,f,rfl,by omega,FS.refl f,HSt.of_ext Y H xZ,?_⟩;rw [List.take_zero,Eo];exact h.ext xZ
 ·intros;rename_i z w1 hI E1 g;obtain ⟨j,f1,rfl,hj,fs,s1,h1⟩:=hI;by_cases hjl:j<keep.length
  ·have lk:(bc keep)[j]? =some (.int .u64 ((keep[j]:Nat):Int)):=gP hjl;have o:=hA.st s1;obtain ⟨sb,so,sc,d,hc⟩:=o.get lk;injection d with d _ ev2;subst d;subst ev2;obtain ⟨p,hp⟩:∃p,keep[j]=p:=⟨_,rfl⟩;have i:=hk p (hp▸bL hjl);rw [hp] at hc;have ht:keep.take (j+1)=keep.take j++ [p]:=by rw [ca hjl,hp]
   have e5:(j:Int)+1=((j+1:Nat):Int):=oM;have l:∀q∈rmL R (keep.take j),q<18446744073709551616:=λq hq=>by
    have:=(e q (eQ.1 hq).1).2.2.2.1;omega
   have lR:(rmL R (keep.take j)).length<1000000:=by
    have:(rmL R (keep.take j)).length<=R.length:=al _ _;omega
   have c:∀w2 f2,FS f f2->HSt w Y H w2 Y->HpG Q w0 w2 Y D H n f2 (rmR (rmL R (keep.take j)) p)->E1 (.int .i64 ((j+1:Nat):Int)) w2:=λw2 f2 m s2 h2=>by
    apply g
    ·exact ⟨j+1,f2,rfl,by omega,m,s2,by rw [ht,xn];exact h2⟩
    ·simp [intOf];omega
   have r:p∈rmL R (keep.take j)->Plc f1 n p:=λhm=>fs.plc (e p (eQ.1 hm).1)
   generalize rmL R (keep.take j)=R1 at*;unfold wE;refine zS1 hc ?_;refine k_holds (h1.ext xZ) l p i _ (λw2 e2=> ?_);have b:Ext w1 w2:=Ext.trans xZ e2;by_cases hm:p∈R1
   ·(repeat' first|refine am (λ_=> ?_) (λ_=> ?_)|refine ao ?_ ?_|refine jI hm ?_|exact yh hm|fail)
    refine Bn (h1.ext (b.trans xZ)) (r hm) hm lR _ (λw3 f3 k s3 h3=> ?_);rw [Bb];unfold wG;refine zS1 e5 ?_;exact c _ f3 (fs.trans k) ((s1.ext (b.trans xZ)).trans (s3.ext xZ)) (h3.ext xZ)
   ·(repeat' first|refine am (λ_=> ?_) (λ_=> ?_)|refine ao ?_ ?_|refine jI hm ?_|exact yh hm|fail)
    rw [Bb];unfold wG;refine zS1 e5 ?_;refine c _ f1 fs (s1.ext (b.trans xZ)) ?_;rw [aam hm];exact h1.ext (b.trans xZ)
  ·have s:j=keep.length:=oM;subst s;rw [cC] at h1;unfold wE;refine zS0 ?_;exact hK _ f1 fs s1 h1
end
noncomputable section
variable (K:K1) (x0 x1 x2 x3 x4 x5 x6 x7 x8 x9 x10 x11 x12 x13 x14 x15 x16 x17 x18 x19 x20 x21 x22 x23 x24 x25 x26 x27 x28 x29 x30 x31 x32 x33 x34 x35 x36 x37 x38 x39 x40 x41 x42 x43 x44 x45 x46 x47 x48 x49 x50 x51 x52 x53 x54 x55 x56 x57 x58 x59 x60 x61 x62 x63 x64 x65 x66 x67 x68 x69 x70 x71 x72 x73 x74 x75 x76 x77:an) (w:aa)
def af9:Prop:=
 cL 14 (pA #[(.int .i64 2)]) w λa w=>
 bM .eql 23 (.tmp 7) (.const (.pointer none)) a (.pointer none) w λb w=>
 af b (
 K (.bool false) w) (
 nS a w λc w=>
 fA 38 c 3 w λd w=>
 lD 33 d w λe w=>
 cL 15 (pA #[e,(.int .i64 0),(.int .i64 4),(.int .u8 ((64:Nat):Int))]) w λf w=>
 eX f 0 w λg w=>
 eX f 1 w λh w=>
 nS a w λi w=>
 fA 38 i 3 w λj w=>
 lD 33 j w λl w=>
 cL 29 (pA #[l,g]) w λm w=>
 eX m 0 w λn w=>
 eX m 1 w λo w=>
 bC .neq 28 26 0 h w λp w=>
 gV p false o w λq w=>
 gd p false (λk=>bC .neq 28 29 0 q w k) w λs w=>
 au p (.bool true) s w λt w=>
 gV t false g w λv w=>
 gC t false 60 (pA #[v]) w λy w=>
 gd t false (λk=>bU .neq 5 34 .u8 64 y w k) w λz w=>
 au t (.bool true) z w λa0 w=>
 gV a0 false n w λa1 w=>
 gd a0 false (λk=>bC .neq 3 38 7 a1 w k) w λa2 w=>
 au a0 (.bool true) a2 w λa3 w=>
 gV a3 false a w λa4 w=>
 gd a3 false (λk=>nS a4 w k) w λa5 w=>
 gd a3 false (λk=>fA 38 a5 3 w k) w λa6 w=>
 gd a3 false (λk=>lD 33 a6 w k) w λa7 w=>
 gV a3 false g w λa8 w=>
 gC a3 false 21 (pA #[a7,a8,(.int .u8 ((0:Nat):Int))]) w λa9 w=>
 gd a3 false (λk=>bC .neq 28 47 12 a9 w k) w λb0 w=>
 au a3 (.bool true) b0 w λb1 w=>
 af b1 (
 K (.bool false) w) (
 cL 16 (pA #[a,(.int .i64 0)]) w λb2 w=>
 ev prog (cq 25 1 #[(0,g)]) w λb3 w=>
 cL 17 (pA #[b2,(.slice none 0 0),b3,(.slice none 0 0)]) w λb4 w=>
 bC .eql 28 54 0 b4 w λb5 w=>
 gV b5 true a w λb6 w=>
 gd b5 true (λk=>nS b6 w k) w λb7 w=>
 gd b5 true (λk=>fA 38 b7 3 w k) w λb8 w=>
 gd b5 true (λk=>lD 33 b8 w k) w λb9 w=>
 gV b5 true g w λc0 w=>
 gC b5 true 21 (pA #[b9,c0,(.int .u8 ((0:Nat):Int))]) w λc1 w=>
 gd b5 true (λk=>bC .eql 28 62 0 c1 w k) w λc2 w=>
 au b5 c2 (.bool false) w λc3 w=>
 gV c3 true a w λc4 w=>
 gd c3 true (λk=>nS c4 w k) w λc5 w=>
 gd c3 true (λk=>fA 38 c5 3 w k) w λc6 w=>
 gd c3 true (λk=>lD 33 c6 w k) w λc7 w=>
 gC c3 true 39 (pA #[c7]) w λc8 w=>
 gd c3 true (λk=>ev prog (Instr.field 73 c8 2) w k) w λc9 w=>
 gd c3 true (λk=>bC .eql 3 71 1 c9 w k) w λd0 w=>
 au c3 d0 (.bool false) w λd1 w=>
 K d1 w))
def aaI:=cA0 Tryz.func13 .o af9
def aga:Prop:=
 bM .mul 3 (ci 32) (.tmp 7) (.int .i64 32) x0 w λa w=>
 bM .add 3 (ci 26) (.tmp 8) (.int .i64 26) a w λb w=>
 cL 61 (pA #[b]) w λc w=>
 eX c 0 w λd w=>
 eX c 1 w λe w=>
 bC .neq 28 13 0 e w λf w=>
 gV f false d w λg w=>
 gd f false (λk=>bM .eql 30 (.tmp 16) (.const (.pointer none)) g (.pointer none) w k) w λh w=>
 au f (.bool true) h w λi w=>
 gV i false d w λj w=>
 gC i false 50 (pA #[j,(.int .i64 0)]) w λl w=>
 gd i false (λk=>bM .eql 31 (.tmp 21) (.const (.pointer none)) l (.pointer none) w k) w λm w=>
 au i (.bool true) m w λn w=>
 af n (
 K (.pointer none) w) (
 cL 50 (pA #[d,(.int .i64 0)]) w λo w=>
 ev prog (cU 31 o) w λp w=>
 cL 62 (pA #[p,(.int .i64 0),(.int .i64 26)]) w λq w=>
 bC .neq 28 28 0 q w λs w=>
 gV s false o w λt w=>
 gd s false (λk=>ev prog (cU 31 t) w k) w λv w=>
 gV s false x0 w λy w=>
 gd s false (λk=>bM .mul 3 (ci 32) (.tmp 33) (.int .i64 32) y w k) w λz w=>
 gC s false 63 (pA #[v,(.int .i64 26),z]) w λa0 w=>
 gd s false (λk=>bC .neq 28 35 0 a0 w k) w λa1 w=>
 au s (.bool true) a1 w λa2 w=>
 af a2 (
 K (.pointer none) w) (
 cL 57 (pA #[d,x0]) w λa3 w=>
 K a3 w))
def aaJ:=cA1 Tryz.func14 .o aga
def agb:Prop:=
 nR x0 w.drew λa=>
 fR 38 a 3 w.drew λb=>
 lR 33 b w.drew λc=>
 nR x0 w.drew λd=>
 fR 38 d 0 w.drew λe=>
 lR 30 e w.drew λf=>
 nR x0 w.drew λg=>
 fR 38 g 2 w.drew λh=>
 lR 32 h w.drew λi=>
 cL 50 (pA #[f,x1]) w.drew λj w=>
 (bw prog x0 w (λu=>u=a))/\
 (fG 38 a 3 w b)/\
 (lG 33 b w c)/\
 (bw prog x0 w (λu=>u=g))/\
 (fG 38 g 2 w h)/\
 (lG 32 h w i)/\
 cL 55 (pA #[c,j,i]) w λl w=>
 K l w
def aaK:=cA2 Tryz.func16 .o agb
noncomputable def aaL:=uD Tryz.f23 (.s .o (.s .o (.s .o (.s .o (.x 2049 (.s .o (.b (.l [77] 75557863725914323421187 1237788923557928446252290304 .o))) .o)))))
abbrev aaM:=aU prog Tryz.f23.results.toList
def Hd:KF:=kO 2049 (cP (pw aaL 5 31) (aaM K) (aaM K) nX)
def Ep:Prop:=Hd K (fy 102 2049 [x0,x11]) w
def Md:Prop:=aH [77] 75557863725914323421187 (λE=>cP (pw aaL 8 47) E (aaM K) (exB 0 (Hd K) nX)) (fy 102 226673591177742970259459 [x0,x1,x11,x76,x77]) w
def He:Prop:=
 nR x0 w.drew λa=>
 fR 38 a 5 w.drew λb=>
 fR 36 b 1 w.drew λc=>
 lR 34 c w.drew λd=>
 lR 63 x11 w.drew λe=>
 ev prog (cq 34 1 #[(0,e)]) w.drew λf w=>
 (bw prog x0 w (λu=>u=a))/\
 (fG 38 a 5 w b)/\
 (fG 36 b 1 w c)/\
 (lG 34 c w d)/\
 aV prog .append #[34,34] 34 #[false,false] (pA #[d,f]) w λg w=>
 nR x0 w λh=>
 fR 38 h 5 w λi=>
 fR 36 i 1 w λj=>
 sD 34 j g w λw=>
 K (.bool true) w
def Uj:Ep K x0 x11 w=He K x0 x11 w:=aJ λσ=>kR
def xq (E1:VP1):Prop:=
 bT .lss 3 77 76 x77 x76 w λa w=>
 af a (
 nR x0 w.drew λb=>
 fR 38 b 1 w.drew λc=>
 lR 31 c w.drew λd=>
 cL 31 (pA #[x1,x77]) w.drew λe w=>
 (bw prog x0 w (λu=>u=b))/\
 (fG 38 b 1 w c)/\
 (lG 31 c w d)/\
 cL 32 (pA #[d,e]) w λf w=>
 rU .neq 26 87 .u64 0 f w λg=>
 af g (
 K (.bool false) w) (
 bC .add 3 77 1 x77 w λh w=>
 E1 h w)) (
 Ep K x0 x11 w)
def Hf (I:VP1) (μ:M1) (h0:I x77 w) (hr:∀x77 w,I x77 w->∀E1,Q1 I μ x77 w E1->xq K x0 x1 x11 x76 x77 w E1):Md K x0 x1 x11 x76 x77 w:=⟨I,μ,h0,λσ w hI E hE=>cast kR (hr (σ 77) w hI E hE)⟩
def agc:Prop:=
 cL 18 (pA #[x2]) w λa w=>
 eX a 0 w λb w=>
 eX a 1 w λc w=>
 ev prog (Instr.build 63 #[(0,x1),(1,b)]) w λd w=>
 ev prog (Instr.alloc 63 true (.tuple #[])) w λe w=>
 sD 63 e d w λw=>
 rC .neq 3 21 0 c w.drew λf=>
 gW f false x1 λg=>
 gW f false x3 λh=>
 gC f false 60 (pA #[g]) w.drew λi w=>
 gdR f false (λk=>rT .neq 5 25 26 i h w k) λj=>
 bh f (.bool true) j λl=>
 gW l false x1 λm=>
 gW l false x0 λn=>
 gN l false n w λo=>
 gF l false 38 o 0 w λp=>
 gL l false 30 p w λq=>
 gC l false 52 (pA #[q]) w λs w=>
 gC l false 77 (pA #[m,s]) w λt w=>
 gdR l false (λk=>rd prog (Op.unary .not t) w k) λv=>
 bh l (.bool true) v λy=>
 gW y false x1 λz=>
 gC y false 20 (pA #[z]) w λa0 w=>
 gdR y false (λk=>rU .lss 26 41 .u64 1664 a0 w k) λa1=>
 bh y (.bool true) a1 λa2=>
 gW a2 false x0 λa3=>
 gN a2 false a3 w λa4=>
 gF a2 false 38 a4 5 w λa5=>
 gF a2 false 36 a5 2 w λa6=>
 gL a2 false 34 a6 w λa7=>
 gF a2 false 63 e 0 w λa8=>
 gL a2 false 26 a8 w λa9=>
 gC a2 false 59 (pA #[a7,a9]) w λb0 w=>
 gdR a2 false (λk=>rC .geq 3 52 0 b0 w k) λb1=>
 bh a2 (.bool true) b1 λb2=>
 gW b2 false x0 λb3=>
 gN b2 false b3 w λb4=>
 gF b2 false 38 b4 5 w λb5=>
 gF b2 false 36 b5 0 w λb6=>
 gL b2 false 34 b6 w λb7=>
 gL b2 false 63 e w λb8=>
 gC b2 false 78 (pA #[b7,b8]) w λb9 w=>
 gdR b2 false (λk=>rd prog (Op.unary .not b9) w k) λc0=>
 bh b2 (.bool true) c0 λc1=>
 gW c1 false x0 λc2=>
 gN c1 false c2 w λc3=>
 gF c1 false 38 c3 5 w λc4=>
 gF c1 false 36 c4 1 w λc5=>
 gL c1 false 34 c5 w λc6=>
 gL c1 false 63 e w λc7=>
 gC c1 false 78 (pA #[c6,c7]) w λc8 w=>
 gdR c1 false (λk=>rd prog (Op.unary .not c8) w k) λc9=>
 bh c1 (.bool true) c9 λd0=>
 af d0 (
 K (.bool false) w) (
 cL 56 (pA #[b]) w λd1 w=>
 Md K x0 x1 e d1 (.int .i64 0) w)
def aaN:=cA4 Tryz.func23 aaL.2 agc
def agd:Prop:=
 ev prog (Instr.box 53 x0) w λa w=>
 fA 53 a 4 w λb w=>
 lD 51 b w λc w=>
 lN 51 c w λd w=>
 bC .gtr 3 5 100 d w λe w=>
 gd e false (λk=>fA 53 a 5 w k) w λf w=>
 gd e false (λk=>lD 51 f w k) w λg w=>
 gd e false (λk=>lN 51 g w k) w λh w=>
 gd e false (λk=>bC .gtr 3 10 100 h w k) w λi w=>
 au e (.bool true) i w λj w=>
 K j w
def aaO:=cA1 Tryz.func26 .o agd
noncomputable def PA:=uD Tryz.f27 (.s .o (.s (.s .o (.b (.x 6291465 .o .o))) .o))
abbrev Hg:=aU prog Tryz.f27.results.toList
def aaP:KF:=kO 6291465 (cP (pw PA 5 21) (cP (pr (pr PA)) (Hg K) (Hg K) nX) (Hg K) (exB 0 (cP (pr (pr PA)) (Hg K) (Hg K) nX) nX))
def mw:Prop:=aaP K (fy 198 6291465 [x0,x3,x21,x22]) w
def my:Prop:=
 af x22 (
 fA 53 x3 1 w λa w=>
 lD 3 a w λb w=>
 bC .and 3 29 3 b w λc w=>
 cL 16 (pA #[x0,c]) w λd w=>
 fA 53 x3 2 w λe w=>
 lD 3 e w λf w=>
 fA 53 x3 3 w λg w=>
 lD 5 g w λh w=>
 cL 36 (pA #[d,f,h]) w λi w=>
 eX i 0 w λj w=>
 eX i 1 w λl w=>
 fA 53 x3 2 w λm w=>
 lD 3 m w λn w=>
 cL 18 (pA #[n]) w λo w=>
 eX o 0 w λp w=>
 eX o 1 w λq w=>
 bC .eql 3 48 1 q w λs w=>
 gd s false (λk=>fA 53 x3 3 w k) w λt w=>
 gd s false (λk=>lD 5 t w k) w λv w=>
 gd s false (λk=>bU .eql 5 52 .u8 0 v w k) w λy w=>
 au s (.bool true) y w λz w=>
 gd z false (λk=>fA 53 x3 3 w k) w λa0 w=>
 gd z false (λk=>lD 5 a0 w k) w λa1 w=>
 gd z false (λk=>bU .gtr 5 57 .u8 127 a1 w k) w λa2 w=>
 au z (.bool true) a2 w λa3 w=>
 af a3 (
 bC .eql 28 60 1 l w λa4 w=>
 gV a4 true j w λa5 w=>
 gd a4 true (λk=>bU .eql 27 63 .u64 0 a5 w k) w λa6 w=>
 au a4 a6 (.bool false) w λa7 w=>
 K a7 w) (
 bC .neq 3 67 0 q w λa8 w=>
 af a8 (
 bC .eql 28 69 9 l w λa9 w=>
 gV a9 true j w λb0 w=>
 gd a9 true (λk=>bU .eql 27 72 .u64 0 b0 w k) w λb1 w=>
 au a9 b1 (.bool false) w λb2 w=>
 K b2 w) (
 bC .eql 28 76 4 l w λb3 w=>
 af b3 (
 bU .eql 27 78 .u64 0 j w λb4 w=>
 K b4 w) (
 bC .eql 28 80 0 l w λb5 w=>
 gV b5 true x0 w λb6 w=>
 gV b5 true j w λb7 w=>
 gd b5 true (λk=>fA 53 x3 2 w k) w λb8 w=>
 gd b5 true (λk=>lD 3 b8 w k) w λb9 w=>
 gd b5 true (λk=>fA 53 x3 3 w k) w λc0 w=>
 gd b5 true (λk=>lD 5 c0 w k) w λc1 w=>
 gC b5 true 23 (pA #[b6,b7,b9,c1]) w λc2 w=>
 au b5 c2 (.bool false) w λc3 w=>
 K c3 w)))) (
 bU .eql 5 21 .u8 4 x21 w λc4 w=>
 af c4 (
 nS x0 w λc5 w=>
 fA 38 c5 5 w λc6 w=>
 fA 36 c6 1 w λc7 w=>
 lD 34 c7 w λc8 w=>
 lN 34 c8 w λc9 w=>
 bC .eql 3 98 0 c9 w λd0 w=>
 af d0 (
 nR x0 w.drew λd1=>
 fR 38 d1 3 w.drew λd2=>
 lR 33 d2 w.drew λd3=>
 fR 53 x3 2 w.drew λd4=>
 lR 3 d4 w.drew λd5=>
 rd prog (convert 3 27 d5) w.drew λd6=>
 cL 82 (pA #[d3,d6]) w.drew λd7 w=>
 rC .eql 28 107 8 d7 w λd8=>
 K d8 w) (
 fR 53 x3 3 w.drew λd9=>
 lR 5 d9 w.drew λe0=>
 rd prog (convert 5 3 e0) w.drew λe1=>
 nR x0 w.drew λe2=>
 fR 38 e2 5 w.drew λe3=>
 fR 36 e3 1 w.drew λe4=>
 lR 34 e4 w.drew λe5=>
 rd prog (bk #[34] 3 #[e5]) w.drew λe6=>
 rT .rem 3 111 117 e1 e6 w.drew λe7=>
 nS x0 w.drew λe8 w=>
 fA 38 e8 5 w λe9 w=>
 fA 36 e9 1 w λf0 w=>
 lD 34 f0 w λf1 w=>
 iA 34 f1 e7 w λf2 w=>
 fA 63 f2 0 w λf3 w=>
 lD 26 f3 w λf4 w=>
 nS x0 w λf5 w=>
 fA 38 f5 5 w λf6 w=>
 fA 36 f6 1 w λf7 w=>
 lD 34 f7 w λf8 w=>
 cL 79 (pA #[f8,e7]) w λf9 w=>
 nS x0 w λg0 w=>
 fA 38 g0 5 w λg1 w=>
 fA 36 g1 1 w λg2 w=>
 sD 34 g2 f9 w λw=>
 nS x0 w λg3 w=>
 fA 38 g3 3 w λg4 w=>
 lD 33 g4 w λg5 w=>
 cL 82 (pA #[g5,f4]) w λg6 w=>
 bC .eql 28 144 0 g6 w λg7 w=>
 gV g7 true x0 w λg8 w=>
 gd g7 true (λk=>nS g8 w k) w λg9 w=>
 gd g7 true (λk=>fA 38 g9 3 w k) w λh0 w=>
 gd g7 true (λk=>lD 33 h0 w k) w λh1 w=>
 gV g7 true f4 w λh2 w=>
 gC g7 true 82 (pA #[h1,h2]) w λh3 w=>
 gd g7 true (λk=>bC .eql 28 152 8 h3 w k) w λh4 w=>
 au g7 h4 (.bool false) w λh5 w=>
 K h5 w)) (
 lD 53 x3 w λh6 w=>
 cL 40 (pA #[x0,h6]) w λh7 w=>
 eX h7 0 w λh8 w=>
 eX h7 1 w λh9 w=>
 eX h7 2 w λi0 w=>
 eX h7 3 w λi1 w=>
 nS x0 w λi2 w=>
 fA 38 i2 5 w λi3 w=>
 lD 36 i3 w λi4 w=>
 cL 24 (pA #[i4,i0,i1]) w λi5 w=>
 eX i5 0 w λi6 w=>
 eX i5 1 w λi7 w=>
 ev prog (Instr.alloc 36 true (.tuple #[])) w λi8 w=>
 sD 36 i8 i6 w λw=>
 fA 53 x3 1 w λi9 w=>
 lD 3 i9 w λj0 w=>
 bC .and 3 175 3 j0 w λj1 w=>
 cL 16 (pA #[x0,j1]) w λj2 w=>
 cL 17 (pA #[j2,(.slice none 0 0),h8,h9]) w λj3 w=>
 bC .eql 28 181 9 j3 w λj4 w=>
 gV j4 true h8 w λj5 w=>
 gd j4 true (λk=>lN 25 j5 w k) w λj6 w=>
 gV j4 true h9 w λj7 w=>
 gd j4 true (λk=>lN 25 j7 w k) w λj8 w=>
 gd j4 true (λk=>bT .add 3 185 187 j6 j8 w k) w λj9 w=>
 gd j4 true (λk=>bC .gtr 3 188 40 j9 w k) w λl0 w=>
 au j4 l0 (.bool false) w λl1 w=>
 af l1 (
 K (.bool true) w) (
 bT .neq 3 191 192 j3 i7 w λl2 w=>
 af l2 (
 K (.bool false) w) (
 lD 36 i8 w λl3 w=>
 nS x0 w λl4 w=>
 fA 38 l4 5 w λl5 w=>
 sD 36 l5 l3 w λw=>
 K (.bool true) w))))
def nL:mw K x0 x3 x21 x22 w=my K x0 x3 x21 x22 w:=aJ λσ=>kR
def age:Prop:=
 ev prog (Instr.box 53 x1) w λa w=>
 fA 53 a 0 w λb w=>
 lD 5 b w λc w=>
 bU .rem 5 20 .u8 8 c w λd w=>
 bU .eql 5 21 .u8 0 d w λe w=>
 af e (
 mw K x0 a d e w) (
 bU .eql 5 21 .u8 1 d w λf w=>
 af f (
 mw K x0 a d f w) (
 bU .eql 5 21 .u8 2 d w λg w=>
 af g (
 mw K x0 a d g w) (
 bU .eql 5 21 .u8 3 d w λh w=>
 mw K x0 a d h w)))
def aaQ:=cA2 Tryz.func27 PA.2 age
noncomputable def xr:=uD Tryz.f40 (.s .o (.x 249 (.s .o (.b (.l [4,6,17] 98473 18014398509352528 (.s .o (.s .o (.x 229625 .o .o)))))) (.x 240 (.s .o (.b (.l [5,7,57] 108086391056891985 19807040628421969210310144160 (.s .o (.s .o (.x 252201579132748017 .o .o)))))) .o)))
abbrev tz:=aU prog Tryz.f40.results.toList
def xt:KF:=kO 249 (cP (pr (pr xr)) (tz K) (tz K) nX)
def Me:Prop:=xt K (fy 98 249 [x0,x3,x4,x5,x6,x7]) w
def Mf:Prop:=aH [4,6,17] 98473 (λE=>cP (pw xr 5 5) E (tz K) (exB 0 (xt K) nX)) (fy 98 229625 [x0,x3,x4,x5,x6,x7,x15,x16,x17]) w
def xw:KF:=kO 240 (cP (pw xr 3 7) (tz K) (tz K) nX)
def Mg:Prop:=xw K (fy 98 240 [x4,x5,x6,x7]) w
def Mh:Prop:=aH [5,7,57] 108086391056891985 (λE=>cP (pw xr 6 11) E (tz K) (exB 2 (xw K) nX)) (fy 98 252201579132748017 [x0,x4,x5,x6,x7,x55,x56,x57]) w
def aaR (E1:VP3):KF:=kO 229625 (cP (pw xr 8 229) (sE3 E1 4 6 17) (tz K) (exB 0 (xt K) nX))
def Mi (K:K1) (E1:VP3) (x0 x3 x4 x5 x6 x7 x15 x16 x17:an) (w:aa):Prop:=aaR K E1 (fy 98 229625 [x0,x3,x4,x5,x6,x7,x15,x16,x17]) w
def aaS (E1:VP3):KF:=kO 252201579132748017 (cP (pw xr 9 459) (sE3 E1 5 7 57) (tz K) (exB 2 (xw K) nX))
def Mj (K:K1) (E1:VP3) (x0 x4 x5 x6 x7 x55 x56 x57:an) (w:aa):Prop:=aaS K E1 (fy 98 252201579132748017 [x0,x4,x5,x6,x7,x55,x56,x57]) w
def Hh:Prop:=
 fA 53 x3 5 w λa w=>
 lD 51 a w λb w=>
 lN 51 b w λc w=>
 Mh K x0 x4 x5 x6 x7 b c (.int .i64 0) w
def Uk:Me K x0 x3 x4 x5 x6 x7 w=Hh K x0 x3 x4 x5 x6 x7 w:=aJ λσ=>kR
def qi (E1:VP3):Prop:=
 bT .lss 3 17 16 x17 x16 w λa w=>
 af a (
 iA 51 x15 x17 w λb w=>
 lD 5 b w λc w=>
 nS x0 w λd w=>
 fA 38 d 5 w λe w=>
 fA 36 e 1 w λf w=>
 lD 34 f w λg w=>
 lN 34 g w λh w=>
 bC .gtr 3 26 0 h w λi w=>
 af i (
 nR x0 w.drew λj=>
 fR 38 j 5 w.drew λl=>
 fR 36 l 1 w.drew λm=>
 lR 34 m w.drew λn=>
 rd prog (convert 5 3 c) w.drew λo=>
 nR x0 w.drew λp=>
 fR 38 p 5 w.drew λq=>
 fR 36 q 1 w.drew λs=>
 lR 34 s w.drew λt=>
 rd prog (bk #[34] 3 #[t]) w.drew λv=>
 rT .rem 3 34 40 o v w.drew λy=>
 iR 34 n y w.drew λz=>
 fR 63 z 0 w.drew λa0=>
 lR 26 a0 w.drew λa1=>
 ev prog (cq 25 1 #[(0,a1)]) w.drew λa2 w=>
 aV prog .append #[25,25] 25 #[false,false] (pA #[x4,a2]) w λa3 w=>
 ev prog (cq 58 1 #[(0,a1)]) w λa4 w=>
 aV prog .append #[58,58] 58 #[false,false] (pA #[x6,a4]) w λa5 w=>
 Mi K E1 x0 x3 a3 x5 a5 x7 x15 x16 x17 w) (
 Mi K E1 x0 x3 x4 x5 x6 x7 x15 x16 x17 w)) (
 Me K x0 x3 x4 x5 x6 x7 w)
def Hi (I:VP3) (μ:M3) (h0:I x4 x6 x17 w) (hr:∀x4 x6 x17 w,I x4 x6 x17 w->∀E1,Q3 I μ x4 x6 x17 w E1->qi K x0 x3 x4 x5 x6 x7 x15 x16 x17 w E1):Mf K x0 x3 x4 x5 x6 x7 x15 x16 x17 w:=⟨I,μ,h0,λσ w hI E hE=>cast kR (hr (σ 4) (σ 6) (σ 17) w hI E hE)⟩
def Hj:Prop:=
 K (.tuple #[x4,x5,x6,x7]) w
def Ul:Mg K x4 x5 x6 x7 w=Hj K x4 x5 x6 x7 w:=aJ λσ=>kR
def qj (E1:VP3):Prop:=
 bT .lss 3 57 56 x57 x56 w λa w=>
 af a (
 iA 51 x55 x57 w λb w=>
 lD 5 b w λc w=>
 nS x0 w λd w=>
 fA 38 d 5 w λe w=>
 fA 36 e 0 w λf w=>
 lD 34 f w λg w=>
 lN 34 g w λh w=>
 bC .gtr 3 66 0 h w λi w=>
 af i (
 nR x0 w.drew λj=>
 fR 38 j 5 w.drew λl=>
 fR 36 l 0 w.drew λm=>
 lR 34 m w.drew λn=>
 rd prog (convert 5 3 c) w.drew λo=>
 nR x0 w.drew λp=>
 fR 38 p 5 w.drew λq=>
 fR 36 q 0 w.drew λs=>
 lR 34 s w.drew λt=>
 rd prog (bk #[34] 3 #[t]) w.drew λv=>
 rT .rem 3 74 80 o v w.drew λy=>
 iR 34 n y w.drew λz=>
 fR 63 z 0 w.drew λa0=>
 lR 26 a0 w.drew λa1=>
 ev prog (cq 25 1 #[(0,a1)]) w.drew λa2 w=>
 aV prog .append #[25,25] 25 #[false,false] (pA #[x5,a2]) w λa3 w=>
 ev prog (cq 58 1 #[(0,a1)]) w λa4 w=>
 aV prog .append #[58,58] 58 #[false,false] (pA #[x7,a4]) w λa5 w=>
 Mj K E1 x0 x4 a3 x6 a5 x55 x56 x57 w) (
 Mj K E1 x0 x4 x5 x6 x7 x55 x56 x57 w)) (
 Mg K x4 x5 x6 x7 w)
def Hk (I:VP3) (μ:M3) (h0:I x5 x7 x57 w) (hr:∀x5 x7 x57 w,I x5 x7 x57 w->∀E1,Q3 I μ x5 x7 x57 w E1->qj K x0 x4 x5 x6 x7 x55 x56 x57 w E1):Mh K x0 x4 x5 x6 x7 x55 x56 x57 w:=⟨I,μ,h0,λσ w hI E hE=>cast kR (hr (σ 5) (σ 7) (σ 57) w hI E hE)⟩
def xx (E1:VP3):Prop:=
 bC .add 3 17 1 x17 w λa w=>
 E1 x4 x6 a w
def Bp (E1:VP3):Mi K E1 x0 x3 x4 x5 x6 x7 x15 x16 x17 w=xx x4 x6 x17 w E1:=aJ λσ=>kR
def xy (E1:VP3):Prop:=
 bC .add 3 57 1 x57 w λa w=>
 E1 x5 x7 a w
def Bq (E1:VP3):Mj K E1 x0 x4 x5 x6 x7 x55 x56 x57 w=xy x5 x7 x57 w E1:=aJ λσ=>kR
def agf:Prop:=
 ev prog (Instr.box 53 x1) w λa w=>
 fA 53 a 4 w λb w=>
 lD 51 b w λc w=>
 lN 51 c w λd w=>
 Mf K x0 a (.slice none 0 0) (.slice none 0 0) (.slice none 0 0) (.slice none 0 0) c d (.int .i64 0) w
def aaT:=cA2 Tryz.func40 xr.2 agf
def agh:Prop:=
 cL 50 (pA #[x0,(.int .i64 0)]) w λa w=>
 bM .eql 31 (.tmp 11) (.const (.pointer none)) a (.pointer none) w λb w=>
 af b (
 K (.pointer none) w) (
 ev prog (cU 31 a) w λc w=>
 cL 107 (pA #[c,(.int .i64 0),(.int .i64 26)]) w λd w=>
 eX d 0 w λe w=>
 eX d 1 w λf w=>
 bC .neq 28 19 0 f w λg w=>
 af g (
 K (.pointer none) w) (
 cL 108 (pA #[e]) w λh w=>
 eX h 0 w λi w=>
 eX h 1 w λj w=>
 bC .neq 28 26 0 j w λl w=>
 af l (
 K (.pointer none) w) (
 ev prog (cU 31 a) w λm w=>
 bM .mul 3 (ci 32) (.tmp 31) (.int .i64 32) x1 w λn w=>
 cL 109 (pA #[m,(.int .i64 26),n]) w λo w=>
 eX o 0 w λp w=>
 eX o 1 w λq w=>
 bC .neq 28 36 0 q w λs w=>
 gV s false p w λt w=>
 gd s false (λk=>bM .eql 33 (.tmp 39) (.const (.pointer none)) t (.pointer none) w k) w λv w=>
 au s (.bool true) v w λy w=>
 af y (
 K (.pointer none) w) (
 ev prog (Instr.build 38 #[(0,x0),(1,a),(2,e),(3,p),(4,x1)]) w λz w=>
 ev prog (Instr.box 38 z) w λa0 w=>
 K a0 w))))
def aaU:=cA2 Tryz.func57 .o agh
end
def drF (H:HL) (T:Nat) (i:Nat):an:= [hpV H,.pointer (some ⟨T,0,none⟩),.pointer (some ⟨H.B,0,none⟩)].getD i undef
structure Spc (w:aa) (Y:Lay) (H:HL) (B k:Nat):Prop where
 bx:ah w B 123 3 (drF H (Y.tb k))
 ne:¬Y.F B/\B≠H.b/\B≠H.p/\B≠H.rm/\B≠H.hm
structure yq (D:DS) (f:Idx) (n:Nat) (keep free:List Nat) (D2:DS) (f2:Idx):Prop where
 P:bj D f n keep free
 E:sR D D2 f n keep free
 fs:FS f f2
 n2:D2.n=D.n
 exe:D2.exe<=D.exe+1000
 cl:Cln D.co->Cln D2.co
 run:D2=D.run 0 (rpI (bW D f keep free n))
section
variable {Q:Nat->Prop} {w0 w w':aa} {Y Y':Lay} {D:DS} {H:HL} {n k B Wb:Nat} {f:Idx} {R keep free:List Nat} {v:an} {L:List an}
def Spc.st (h:Spc w Y H B k) (s:HSt w Y H w' Y'):Spc w' Y' H B k:=by
 have lt:=h.bx.lt;refine ⟨?_,λhf=>(s.fr B hf).elim h.ne.1 (λh=>by omega),h.ne.2⟩;rw [s.tb];exact h.bx.frm s.frm (λhf=>by
  rcases hf with e|e|e|e|e
  ·exact h.ne.1 e
  ·exact h.ne.2.1 e
  ·exact h.ne.2.2.1 e
  ·exact h.ne.2.2.2.1 e
  ·exact h.ne.2.2.2.2 e)
def Spc.cells (h:Spc w Y H B k):w.cell? ⟨B,0,none⟩=some (hpV H)/\w.cell? ⟨B,1,none⟩=some (.pointer (some ⟨Y.tb k,0,none⟩))/\w.cell? ⟨B,2,none⟩=some (.pointer (some ⟨H.B,0,none⟩)):=
 ⟨h.bx.cell (i:=0) oM,h.bx.cell (i:=1) oM,h.bx.cell (i:=2) oM⟩
def HpG.lts (h:HpG Q w0 w Y D H n f R):H.b<w.heap.size/\H.p<w.heap.size/\H.rm<w.heap.size/\H.hm<w.heap.size:=by
 obtain ⟨L,h1,_⟩:=h.hd;exact ⟨h.ar.pl.lt rfl,h.hp.lt,h.rs.lt,h1.lt⟩
def HpG.new (h:HpG Q w0 w Y D H n f R) (hB:w.heap.size<=B):¬Y.F B/\B≠H.b/\B≠H.p/\B≠H.rm/\B≠H.hm:=by
 have:=h.lts;exact ⟨λhf=>by have:=h.ar.L.dv.lt hf;omega,by omega,by omega,by omega,by omega⟩
def aef (h:HpG Q w0 w Y D H n f R) (c0:w.cell? ⟨Wb,0,none⟩=some (.pointer (some ⟨Y.d,0,none⟩))) (c2:w.cell? ⟨Wb,2,none⟩=some (.pointer (some ⟨H.B,0,none⟩))) (c3:w.cell? ⟨Wb,3,none⟩=some (hpV H)) (hk:k<8) (K:K1)
  (hK:∀B w',Ext w w'->w.heap.size<=B->Spc w' Y H B k->K (.pointer (some ⟨B,0,none⟩)) w'):
  ae prog 16 #[.pointer (some ⟨Wb,0,none⟩),.int .i64 (k:Int)] w K:=by
 have hT:∀(w1:aa) (K:K1),Ext w w1->ae prog 50 #[.pointer (some ⟨Y.d,0,none⟩),.int .i64 (k:Int)] w1 K=K (.pointer (some ⟨Y.tb k,0,none⟩)) w1:=λw1 K e=>by rw [<-h.dt.1];exact vx (h.ar.L.dv.ext e) k hk K
 have a:=ax c0;refine aaK _ _ _ _ ?_;unfold agb
 (repeat' first|refine am (λ_=> ?_) (λ_=> ?_)|refine ao ?_ ?_|refine vf c0 c2 c3 hT ?_|exact adf c0 c2 c3 hT|fail)
 refine Zk _ _ _ _ _ ?_;unfold afJ;refine zS0 ?_;have hB:=ah.new w.drew [hpV H,.pointer (some ⟨Y.tb k,0,none⟩),.pointer (some ⟨H.B,0,none⟩)] 123;exact hK _ _ xZ (bl _) ⟨hB,h.new (bl _)⟩
def aaV (w:aa) (K:K1) (hK:K (.slice none 0 0) w):ae prog 72 #[.slice none 0 0] w K:=by
 refine ZG _ _ _ ?_;unfold afR;refine zS0 ?_;exact hK
def ut (P:bj D f n keep free) (b:26+32*n<=D.n) (a:D.cur 0=0) (hw:sg D.n (bW D f keep free n)):On (D.run 0 (rpI (bW D f keep free n)))/\sR D (D.run 0 (rpI (bW D f keep free n))) f n keep free/\(D.run 0 (rpI (bW D f keep free n))).n=D.n/\(D.run 0 (rpI (bW D f keep free n))).exe<=D.exe+1000/\(D.run 0 (rpI (bW D f keep free n))).cur 0=0/\(Cln D.co->Cln (D.run 0 (rpI (bW D f keep free n))).co):=by
 by_cases h0:bW D f keep free n= []
 ·have e:D.run 0 (rpI (bW D f keep free n))=D:=by rw [h0];rfl
  rw [e];exact ⟨P.rg.on,P.eff P.rg.on P.rg.gd rfl (λj _=>by rw [h0];rfl),rfl,by omega,a,λh=>h⟩
 ·have e:rpI (bW D f keep free n)=cmI (cmC (bW D f keep free n)) (bW D f keep free n):=by unfold rpI;rw [if_neg h0]
  rw [e];have g:=ahL P.rg.on P.rg.gd oM hw (LQ hw.len);exact ⟨g.1,P.eff g.1 g.2.1 g.2.2.1 g.2.2.2.2.1,g.2.2.1,g.2.2.2.1,g.2.2.2.2.2.1,g.2.2.2.2.2.2⟩
def sS (h:HpS w0 w Y D H n f R) (a6:H.lk=false) (hk:k<8) (sp:Spc w Y H B k) (o:∀p∈keep,p∈R) (a0:∀p∈free,Liv D f n p) {va vb:an} (hA:RdH w Y H va (bc keep)) (hB:RdH w Y H vb (bc free)) (hl:keep.length<=100000/\free.length<=100000) (hR:R.length<1000000) (hx:D.exe<900000000) (K:K1)
  (a5:¬fa (keep++free)->∀w',Ext w w'->K (.int .i64 1) w')
  (J:40<keep.length+free.length->∀w',Ext w w'->K (.int .i64 9) w')
  (V:∀D2 f2 w' Y',fa (keep++free)->yq D f n keep free D2 f2->HSt w Y H w' Y'->HpS w0 w' Y' D2 H n f2 (rmL R keep)->K (.int .i64 0) w'):
  ae prog 17 #[.pointer (some ⟨B,0,none⟩),.slice none 0 0,va,vb] w K:=by
 have G:=h.n4;have lA:(bc keep).length=keep.length:=by simp [bc]
 obtain ⟨aA,cA,rfl,_⟩:=id hA.rd;rw [lA] at hA ⊢;have hr:∀p∈R,p<18446744073709551616:=λp hp=>by
  have:=((h.rv p hp).kn oM h.rg).2.2.2.1;omega
 have e0:=h.rg.on.err;have Q:=λ(w1:aa) (e:Ext w w1) (K:K1) (hK:∀v' w',Ext w1 w'->K (.tuple #[v',.int .i64 0]) w')=>Pt ((h.ext e).ar.L.dv) h.rg.gd (h.gl.ext e) oM rfl (h.ext e).lg (λ_=>⟨h.rg.on.off,h.idl⟩) [] (.slice none 0 0) (SlO.nil _ _ _) (by simp) (by simp) (λx hx=>by cases hx) K (λhl=>by simp at hl) (λ_ he=>absurd e0 he) (λ_ _ v' w' e' _ _=>hK v' w' e')
 have F:∀(w1:aa) (K:K1),Ext w w1->ae prog 28 #[.pointer (some ⟨Y.tb k,0,none⟩)] w1 K=K (.int .i64 0) w1:=λw1 K e=>by rw [fV (h.ar.L.dv.ext e) k hk K,h.er k hk]
 have M:=λ(w1:aa) (e:Ext w w1) (K:K1) a b=>oV (h.ext e) o a0 (hA.rd.ext e) (hB.rd.ext e) e.size hl K a b
 have a4:bj D f n keep free->fa (keep++free)->sg D.n (bW D f keep free n)->∀w2 Y2,HSt w Y H w2 Y2->HpG (λ_=>True) w0 w2 Y2 (D.run 0 (rpI (bW D f keep free n))) H n f R->∀w3 f3,FS f f3->HSt w2 Y2 H w3 Y2->HpG (λ_=>True) w0 w3 Y2 (D.run 0 (rpI (bW D f keep free n))) H n f3 (rmL R keep)->K (.int .i64 0) w3:=λP hd hw w2 Y2 s2 h2 w3 f3 fs s3 h3=>by
  have g:=ut P G.2 h.idl hw;refine V _ f3 w3 Y2 hd ⟨P,g.2.1,fs,g.2.2.1,g.2.2.2.1,g.2.2.2.2.2,rfl⟩ (s2.trans s3) (h3.mapQ (λq hq _=> ?_));refine fs.rsv.2 (g.2.1.rsv P (h.rv q (eQ.1 hq).1) (λhm=> ?_));obtain ⟨p,hp,e⟩:=List.mem_map.1 hm;have:=sO h.nd (o p hp) (eQ.1 hq).1 e;exact (eQ.1 hq).2 (this▸hp)
 have cm:bj D f n keep free->∀w1,Ext w w1->∀(v:an) (K2:K1),SlO w1 98 2 v (bW D f keep free n).length (wrL (bW D f keep free n))->(96<(bW D f keep free n).length->∀w',Ext w1 w'->K2 (.int .i64 9) w')->(sg D.n (bW D f keep free n)->∀w2 Y2,HSt w Y H w2 Y2->HpG (λ_=>True) w0 w2 Y2 (D.run 0 (rpI (bW D f keep free n))) H n f R->K2 (.int .i64 0) w2)->ae prog 43 #[.pointer (some ⟨H.B,0,none⟩),v] w1 K2:=λP w1 e1 v K2 hs ha hb=>by
  have h1:=h.ext e1;have U:=P.all n (bl _);refine GP h1.ar.L.dv h.rg.gd h1.gl oM rfl h1.lg e0 h.rg.on.off h.idl oM (bW D f keep free n) v hs (P.nd n (bl _)) (by have:=P.le;omega) (λx hx=> ?_) K2 ha (λhw w2 Y2 s2=> ?_)
  ·have:=U x hx;exact ⟨this.2.2.1,by omega,this.1,this.2.2.2⟩
  ·have g:=ut P G.2 h.idl hw;rw [g.1.err];refine hb hw w2 Y2 ((HSt.of_ext Y H e1).trans (HSt.of_stp H s2)) (h1.step s2 g.2.2.1 g.2.1.rg (λ_ _=>trivial) (λj hj=> ?_) g.2.2.2.2.1);by_cases e:j=0
   ·subst e;exact g.1.err
   ·rw [gD e];exact h.er j hj
 have O:=λ(w2:aa) (Y2:Lay) (f1:Idx) (D2:DS) (s2:HSt w Y H w2 Y2) (h2:HpG (λ_=>True) w0 w2 Y2 D2 H n f1 R) (a7:∀p∈R,Plc f1 n p) (K2:K1) hK=>xp h2 a7 (hA.st s2) (λp hp=>hr p (o p hp)) hR oM vb K2 hK
 have I:∀w1 Y1,HSt w Y H w1 Y1->(Spc w1 Y1 H B k):=λw1 Y1 s=>sp.st s
 have hq:∀(w1:aa),Ext w w1->w1.cell? ⟨B,0,none⟩=some (hpV H)/\w1.cell? ⟨B,1,none⟩=some (.pointer (some ⟨Y.tb k,0,none⟩))/\w1.cell? ⟨B,2,none⟩=some (.pointer (some ⟨H.B,0,none⟩)):=λw1 e=>(sp.st (HSt.of_ext Y H e)).cells
 have a1:∀(w1:aa),Ext w w1->w1.cell? ⟨H.p,7,none⟩=some (.bool false):=λw1 e=>by rw [<-a6];exact (h.ext e).cell.2.2.2.2.2.2.2
 have S:∀p∈R,Plc f n p:=λp hp=>(h.rv p hp).plc oM h.rg
 have T:bj D f n keep free->(bW D f keep free n).length<=2*(keep.length+free.length):=λP=>P.le
 generalize hWW:bW D f keep free n=W at*;have b0:=hq w (Ext.refl _);have y:=b0;have q0:=y.1;have q1:=y.2.1;have q2:=y.2.2;have ltB:=ax q0;refine Y6 _ _ _ _ _ _ ?_;unfold afz;refine zS3 q0 q1 q2 ?_;refine Q _ xZ _ (λv1 w1 e1=> ?_);have d:Ext w w1:=Ext.trans xZ e1;have b1:=hq w1 d;have z:=b1;have r0:=z.1;have r1:=z.2.1;have r2:=z.2.2;have r7:=a1 w1 d;have b7:=(h.ext d).ltp;have b3:=ax r0;refine fJ r0 r1 r2 r7 F F ?_;refine M _ (d.trans xZ) _ (λhd w2 e2=> ?_) (λhd P v2 w2 e2 n2 s2=> ?_)
 ·refine zS0 ?_;exact a5 hd _ (d.trans (Ext.trans xZ (e2.trans xZ)))
 ·have C:Ext w w2:=d.trans (Ext.trans xZ e2);have b2:=hq w2 C;have l:=b2;have u0:=l.1;have u1:=l.2.1;have u2:=l.2.2;have a9:=ax u0;have Z:=cm P;have le:=T P;have N:=a4 P hd;have app:∀(w3:aa) (K3:K1),Ext w2 w3->(∀v4 w4,Ext w3 w4->SlO w4 98 2 v4 W.length (wrL W)->K3 v4 w4)->aV prog .append #[79,79] 79 #[false,false] #[.slice none 0 0,v2] w3 K3:=λw3 K3 e3 A=>by
   by_cases h0:W.length=0
   ·have X:W= []:=cD h0;subst X;obtain ⟨a,c,rfl⟩:=SlO.form s2;rw [show ([]:List (Nat×Nat)).length=0 from rfl,jd dx none 0 0 oM a c];exact A _ _ (Ext.refl _) (SlO.nil _ _ _)
   ·obtain ⟨xb,xo,xc,rfl,_⟩:=s2.isS oM;refine du dx (SlO.nil w3 _ _) (m:=W.length) (news:=wrL W) (vy W) (λj u hj=>(s2.ext e3).cell rfl hj) (aaG W) oM oM oM (λv4 w4 E a3 _ _=> ?_);refine A v4 w4 (Frm.to_ext a3 (λb _ hb=>by cases hb)) ?_;rw [hV,eg] at E;exact E
  (repeat' first|refine am (λ_=> ?_) (λ_=> ?_)|refine ao ?_ ?_|refine ia u0 u1 u2 ?_|exact Fp u0 u1 u2|fail)
  refine aaV _ _ ?_
  (repeat' first|refine am (λ_=> ?_) (λ_=> ?_)|refine ao ?_ ?_|refine ia u0 u1 u2 ?_|exact Fp u0 u1 u2|fail)
  refine app _ _ xZ (λv4 w4 e4 s4=> ?_);have t:Ext w w4:=C.trans (Ext.trans xZ e4);have b4:=hq w4 t;have r:=b4;have x0:=r.1;have x1:=r.2.1;have x2:=r.2.2;have b6:=ax x0
  (repeat' first|refine am (λ_=> ?_) (λ_=> ?_)|refine ao ?_ ?_|refine ia x0 x1 x2 ?_|exact Fp x0 x1 x2|fail)
  refine Z _ (t.trans xZ) v4 _ (s4.ext xZ) (λhl w5 e5=> ?_) (λhw w5 Y5 s5 h5=> ?_)
  ·refine zS0 ?_;exact J oM _ (t.trans (Ext.trans xZ (e5.trans xZ)))
  ·have b5:=(I w5 Y5 s5).cells;have i:=b5;have y0:=i.1;have y1:=i.2.1;have y2:=i.2.2;have a8:=ax y0;refine zS3 y0 y1 y2 ?_;refine O w5 Y5 f _ s5 h5 S _ (λw6 f6 a2 s6 h6=> ?_);exact N hw w5 Y5 s5 h5 w6 f6 a2 s6 h6
end
def livI (D:DS) (l:Nat) (c:Int):Nat->List Nat
 |0=> []
 |i+1=>livI D l c i++if mkB D l c (i:Int) 177=true then [ptrN (pOff l c i) (bG (wd D l (offN c i))) (bK (wd D l (offN c i)))] else []
def livN (D:DS) (f:Idx):Nat->List Nat
 |0=> []
 |k+1=>livN D f k++if (f k).1<0 then [] else livI D (26+32*k) (f k).1 (perS (f k).1).toNat
section
variable {Q:Nat->Prop} {w0 w w':aa} {Y Y':Lay} {D:DS} {H:HL} {n k i l b p:Nat} {c:Int} {f:Idx} {R:List Nat}
def aaW:∀{m i:Nat},i<=m->∃t,livI D l c m=livI D l c i++t:=by
 intro m
 induction m with
 |zero=>intro i hi;exact ⟨[],by rw [show i=0 by omega];rfl⟩
 |succ m ih=>
  intro i hi;by_cases e:i=m+1
  ·subst e;exact ⟨[],by simp⟩
  ·obtain ⟨t,ht⟩:=ih (i:=i) oM;exact ⟨t++_,by rw [livI,ht,cw]⟩
def aaX:∀{m k:Nat},k<=m->∃t,livN D f m=livN D f k++t:=by
 intro m
 induction m with
 |zero=>intro i hi;exact ⟨[],by rw [show i=0 by omega];rfl⟩
 |succ m ih=>
  intro i hi;by_cases e:i=m+1
  ·subst e;exact ⟨[],by simp⟩
  ·obtain ⟨t,ht⟩:=ih (k:=i) oM;exact ⟨t++_,by rw [livN,ht,cw]⟩
def Mk (rg:RgS D 26 n f) (hk:k<n) (h0:0<=(f k).1) (i:Nat):mkB D (26+32*k) (f k).1 (i:Int) 177=true↔((i:Int)<perS (f k).1/\bS (wd D (26+32*k) (offN (f k).1 i))=177):=by
 have c5:=(rg.cls hk).1;have s:=rg.sn k hk h0;unfold mkB;simp only [cn,cv,decide_eq_true_eq];constructor
 ·rintro ⟨⟨_,a⟩,_,_,b⟩;exact ⟨a,b⟩
 ·rintro ⟨a,b⟩;have v:=s.live h0 c5 a b;exact ⟨⟨by omega,a⟩,v.1,v.2.1,b⟩
def Hl:∀{m:Nat},p∈livI D l c m↔∃i,i<m/\mkB D l c (i:Int) 177=true/\p=ptrN (pOff l c i) (bG (wd D l (offN c i))) (bK (wd D l (offN c i))):=by
 intro m
 induction m with
 |zero=>exact ⟨λh=>(by cases h),λ⟨i,h,_⟩=>by omega⟩
 |succ m ih=>
  rw [livI,cW,ih];constructor
  ·rintro (⟨i,a,b⟩|h)
   ·exact ⟨i,by omega,b⟩
   ·by_cases hm:mkB D l c (m:Int) 177=true
    ·rw [if_pos hm] at h;simp only [ab] at h;exact ⟨m,by omega,hm,h⟩
    ·rw [if_neg hm] at h;cases h
  ·rintro ⟨i,a,b,e⟩;by_cases hi:i=m
   ·subst hi;right;rw [if_pos b];simp [e]
   ·exact .inl ⟨i,by omega,b,e⟩
def xz:∀{m:Nat},p∈livN D f m↔∃k,k<m/\0<=(f k).1/\p∈livI D (26+32*k) (f k).1 (perS (f k).1).toNat:=by
 intro m
 induction m with
 |zero=>exact ⟨λh=>(by cases h),λ⟨i,h,_⟩=>by omega⟩
 |succ m ih=>
  rw [livN,cW,ih];constructor
  ·rintro (⟨i,a,b⟩|h)
   ·exact ⟨i,by omega,b⟩
   ·by_cases hm:(f m).1<0
    ·rw [if_pos hm] at h;cases h
    ·rw [if_neg hm] at h;exact ⟨m,by omega,by omega,h⟩
  ·rintro ⟨i,a,b,e⟩;by_cases hi:i=m
   ·subst hi;right;rw [if_neg oM];exact e
   ·exact .inl ⟨i,by omega,b,e⟩
def bn (rg:RgS D 26 n f):p∈livN D f n↔Liv D f n p:=by
 rw [xz];constructor
 ·rintro ⟨k,hk,h0,h⟩;obtain ⟨i,hi,hm,e⟩:=Hl.1 h;have:=(Mk rg hk h0 i).1 hm;exact ⟨k,i,hk,h0,this.1,e,this.2⟩
 ·rintro ⟨k,i,hk,h0,hi,e,hs⟩;exact ⟨k,hk,h0,Hl.2 ⟨i,by omega,(Mk rg hk h0 i).2 ⟨hi,hs⟩,e⟩⟩
def Er (l0:Nat):∀n:Nat,(lnL (λ_=>true) l0 n).length=n/\∀k:Nat,k<n->(lnL (λ_=>true) l0 n)[k]? =some (((l0+32*k:Nat)):Int):=by
 intro n
 induction n with
 |zero=>exact ⟨rfl,λk hk=>by omega⟩
 |succ n ih=>
  rw [lnL,if_pos rfl];refine ⟨by rw [aq,ih.1];rfl,λk hk=> ?_⟩;by_cases e:k=n
  ·subst e;rw [List.getElem?_append_right oM,ih.1];simp
  ·rw [List.getElem?_append_left oM];exact ih.2 k oM
def PB {y:an} (h:HpS w0 w Y D H n f R) (hb:ah w b 33 1 (λ_=>hpV H)) (G:Nat->Prop) (hG:∀x,G x->x<w.heap.size/\x≠b) (J:List Nat->aa->Prop) (Jx:aa->Prop)
  (h0:∀w1,Ext w w1->J [] w1)
  (hE:∀s w1 w2,J s w1->Ext w1 w2->J s w2)
  (hH:∀s w1,J s w1->HpS w0 w1 Y D H n f R)
  (hy:∀(s:List Nat) (p:Nat) (t:List Nat) w1 (K':K1),livN D f n=s++p::t->J s w1->(∀w2,Frm G w1 w2->J (s++ [p]) w2->K' (.bool true) w2)->(∀w2,Jx w2->K' (.bool false) w2)->nZ prog y #[.int .u64 (p:Int)] w1 K')
  (K:K1) (hK:∀w',J (livN D f n) w'->K (.tuple #[]) w') (hX:∀w',Jx w'->K (.tuple #[]) w'):
  ae prog 134 #[y,.pointer (some ⟨b,0,none⟩)] w K:=by
 have e6:=h.n4;have c2:w.cell? ⟨b,0,none⟩=some (hpV H):=hb.cell (i:=0) oM;have ltb:=hb.lt;have q3:=h.cell.2.2.2.1;have ltp:=h.ltp;have ln:=Er 26 n;have c4:=λ(w1:aa) (e:Ext w w1) (K:K1) hK=>DJ ((h.ext e).ar) K hK
 have A:∀(k:Nat) (v:an) (w1:aa) (cb:Nat) (E1:an->aa->Prop),k<n->0<=(f k).1->SlO w1 3 1 v (lnL (λ_=>true) 26 n).length (aX (lnL (λ_=>true) 26 n))->bi w.heap.size v->ah w1 b 33 1 (λ_=>hpV H)->w.heap.size<=cb->ah w1 cb 134 5 (chF (Y.tb 0) (26+32*k) (f k).1 (f k).2.1 (gX (wd D (26+32*k) 0)))->J (livN D f k) w1->(∀w2,J (livN D f (k+1)) w2->SlO w2 3 1 v (lnL (λ_=>true) 26 n).length (aX (lnL (λ_=>true) 26 n))->ah w2 b 33 1 (λ_=>hpV H)->E1 (.int .i64 ((k+1:Nat):Int)) w2)->D8 K E1 y (.pointer (some ⟨b,0,none⟩)) (.pointer (some ⟨cb,0,none⟩)) v (.int .i64 (n:Int)) (.int .i64 (k:Int)) (.int .i64 (perS (f k).1)) (.int .i64 0) w1:=by
  intro k v w1 cb E1 hk u hv nv b6 d9 hC hj M;have c5:=(h.cls hk).1;have d6:=aN u c5;have hs:=h.rg.sn k hk u;obtain ⟨m,hm⟩:∃m:Nat,perS (f k).1=(m:Int):=⟨(perS (f k).1).toNat,by omega⟩;have Q:livN D f (k+1)=livN D f k++livI D (26+32*k) (f k).1 m:=by
   rw [livN,if_neg oM,hm];rfl
  rw [hm];apply Eb (I:=λz w2=>∃i:Nat,z= .int .i64 (i:Int)/\i<=m/\J (livN D f k++livI D (26+32*k) (f k).1 i) w2/\SlO w2 3 1 v (lnL (λ_=>true) 26 n).length (aX (lnL (λ_=>true) 26 n))/\ah w2 b 33 1 (λ_=>hpV H)/\ah w2 cb 134 5 (chF (Y.tb 0) (26+32*k) (f k).1 (f k).2.1 (gX (wd D (26+32*k) 0)))) (μ:=λz _=>m-(intOf z).toNat)
  ·exact ⟨0,rfl,by omega,by simpa [livI] using hj,hv,b6,hC⟩
  ·intros;rename_i w2 hI E2 c0;obtain ⟨i,rfl,hi,o,r,q,L⟩:=hI;by_cases hil:i<m
   ·have ei:(i:Int)+1=((i+1:Nat):Int):=oM;have E:=hH _ _ o;have a7:=E.cx hk u;have b8:=h.er 0 oM;have c6:=hs.sndB u c5 i oM;have b5:=Mk h.rg hk u i;obtain ⟨t,ht⟩:=aaX (D:=D) (f:=f) (show k+1<=n by omega);obtain ⟨t2,V⟩:=aaW (D:=D) (l:=26+32*k) (c:=(f k).1) (show i+1<=m by omega);have c3:=λ(w3:aa) (e:Ext w2 w3) (K:K1) hK=>adw (a7.ext e) (f k).2.1 (gX (wd D (26+32*k) 0)) (i:Int) K hK
    have d1:=λ(w3:aa) (e:Ext w2 w3) (K:K1) a1 a2 a3 a4 a5 a6=>AD (a7.ext e) b8 (f k).2.1 (gX (wd D (26+32*k) 0)) (i:Int) 0 oM K a1 a2 a3 a4 a5 a6
    have g:∀w3,J (livN D f k++livI D (26+32*k) (f k).1 (i+1)) w3->SlO w3 3 1 v (lnL (λ_=>true) 26 n).length (aX (lnL (λ_=>true) 26 n))->ah w3 b 33 1 (λ_=>hpV H)->ah w3 cb 134 5 (chF (Y.tb 0) (26+32*k) (f k).1 (f k).2.1 (gX (wd D (26+32*k) 0)))->E2 (.int .i64 ((i+1:Nat):Int)) w3:=λw3 a1 a2 a3 a4=>by
     apply c0
     ·exact ⟨i+1,rfl,by omega,a1,a2,a3,a4⟩
     ·simp [intOf];omega
    rw [livI] at g V;rw [Q,V] at ht;have d2:=chD L;have e2:=L.lt;have c7:(i:Int)<perS (f k).1:=oM;rw [hm] at c7;have b4:(i:Int)<(m:Int):=oM;unfold sI;have C:=d2;have g0:=C.1;have g1:=C.2.1;have g2:=C.2.2.1;have g3:=C.2.2.2.1;have g4:=C.2.2.2.2;refine zS6 g0 g1 g2 g3 g4 g4 ?_;refine c3 _ xZ _ (λw3 e3=> ?_);have d:Ext w2 w3:=Ext.trans xZ e3;have d3:=chD (L.ext d);have d7:=(L.ext d).lt;have F:=d3;have u0:=F.1;have u1:=F.2.1;have u2:=F.2.2.1;have u3:=F.2.2.2.1;have u4:=F.2.2.2.2
    cases hmb:mkB D (26+32*k) (f k).1 (i:Int) 177 with
    |false=>
     rw [hmb,if_neg (by simp),dl] at g;refine zS0 ?_;rw [xe];unfold sJ;refine zS1 ei ?_;exact g _ (hE _ _ _ o (d.trans xZ)) (r.ext (d.trans xZ)) (q.ext (d.trans xZ)) (L.ext (d.trans xZ))
    |true=>
     have N:=(b5.1 hmb).2;rw [hmb,if_pos rfl] at g V ht;have d0:livN D f n=(livN D f k++livI D (26+32*k) (f k).1 i)++ptrN (pOff (26+32*k) (f k).1 i) (bG (wd D (26+32*k) (offN (f k).1 i))) (bK (wd D (26+32*k) (offN (f k).1 i)))::(t2++t):=by
      rw [ht];simp
     rw [<-cw] at g;have c8:=λ(w4:aa) (K':K1) a b=>hy _ _ _ w4 K' d0 a b
     have d5:=hE _ _ _ o d;generalize livN D f k++livI D (26+32*k) (f k).1 i=s1 at*;have e5:¬(177=178):=by decide
     refine zS6 u0 u1 u2 u3 u4 u4 ?_;refine d1 _ (d.trans xZ) _ (λb7=>absurd ⟨by omega,by rw [hm];exact b4⟩ b7) (λj P _ c1=> ?_) (λj P _ _ h8=> ?_) (λj P _ _ _ w4 e4=> ?_) (λj P _ _ h6=> ?_) (λj P _ _ h6=> ?_)
     ·have:j=i:=oM;subst this;exact absurd c6 c1
     ·have:j=i:=oM;subst this;rw [N] at h8;exact absurd h8 (by decide)
     ·have:j=i:=oM;subst this;have W:Ext w3 w4:=Ext.trans xZ e4;generalize ptrN (pOff (26+32*k) (f k).1 j) (bG (wd D (26+32*k) (offN (f k).1 j))) (bK (wd D (26+32*k) (offN (f k).1 j)))=pp at*;refine zS0 ?_;refine c8 _ _ (hE _ _ _ d5 (W.trans xZ)) (λw5 g5 j5=> ?_) (λw5 jx=> ?_)
      ·refine zS0 ?_;rw [xe];unfold sJ;refine zS1 ei ?_;have U:=d.trans W;exact g _ j5 ((r.ext (U.trans xZ)).frm g5 (λb hb hg=>by have:=nv b hb;have:=(hG b hg).1;omega)) ((q.ext (U.trans xZ)).frm g5 (λhg=>(hG b hg).2 rfl)) ((L.ext (U.trans xZ)).frm g5 (λhg=>by have:=(hG cb hg).1;omega))
      ·refine zS0 ?_;exact hX _ jx
     ·have:j=i:=oM;subst this;rw [N] at h6;exact absurd h6 (by decide)
     ·have:j=i:=oM;subst this;rw [N] at h6;exact absurd h6 (by decide)
   ·have b2:i=m:=oM;subst b2;unfold sI;refine zS0 ?_;rw [xd];unfold sG;have ek:(k:Int)+1=((k+1:Nat):Int):=oM;refine zS1 ek ?_;exact M _ (by rw [Q];exact o) r q
 refine T1 _ _ _ _ ?_;unfold Z1;refine zS2 c2 q3 ?_;refine c4 _ xZ _ (λv w1 e1 nv hv=> ?_);have a0:Ext w w1:=Ext.trans xZ e1;have Z:bi w.heap.size v:=λb hb=>nv b hb
 obtain ⟨a,cap,rfl⟩:=SlO.form hv;rw [ln.1];have A:=λk w1 cb E1=>A k (.slice a (lnL (λ_=>true) 26 n).length cap) w1 cb E1
 have a8:∀w2,SlO w2 3 1 (.slice a (lnL (λ_=>true) 26 n).length cap) (lnL (λ_=>true) 26 n).length (aX (lnL (λ_=>true) 26 n))->RdS w2.heap.size w2 (.slice a (lnL (λ_=>true) 26 n).length cap) (aX (lnL (λ_=>true) 26 n)):=λw2 h=>RdS.of_slR (t:=3) (by rw [show (aX (lnL (λ_=>true) 26 n)).length=(lnL (λ_=>true) 26 n).length by simp];exact h)
 have lk:(aX (lnL (λ_=>true) 26 n)).length=n:=by simp [ln.1]
 rw [ln.1] at A hv a8;refine zS0 ?_;apply Ea (I:=λz w2=>∃k:Nat,z= .int .i64 (k:Int)/\k<=n/\J (livN D f k) w2/\SlO w2 3 1 (.slice a n cap) n (aX (lnL (λ_=>true) 26 n))/\ah w2 b 33 1 (λ_=>hpV H)) (μ:=λz _=>n-(intOf z).toNat)
 ·exact ⟨0,rfl,by omega,h0 _ (a0.trans xZ),hv.ext xZ,hb.ext (a0.trans xZ)⟩
 ·intros;rename_i w2 hI E1 b0;obtain ⟨k,rfl,hk,o,r,q⟩:=hI;by_cases hkn:k<n
  ·have d4:(aX (lnL (λ_=>true) 26 n))[k]? =some (.int .i64 ((26+32*k:Nat):Int)):=by
    rw [aX,fu,ln.2 k hkn];rfl
   obtain ⟨sb,so,sc,O,hc⟩:=(a8 w2 r).get d4;rw [lk] at O;injection O with O _ ev2;subst O;subst ev2;have E:=hH _ _ o;have S:w2.cell? ⟨b,0,none⟩=some (hpV H):=q.cell (i:=0) oM;have a9:=E.cell.1;have e0:=E.ltp;have d8:=q.lt;have ek:(k:Int)+1=((k+1:Nat):Int):=oM;have M:∀w3,J (livN D f (k+1)) w3->SlO w3 3 1 (.slice (some ⟨sb,so,none⟩) n cap) n (aX (lnL (λ_=>true) 26 n))->ah w3 b 33 1 (λ_=>hpV H)->E1 (.int .i64 ((k+1:Nat):Int)) w3:=λw3 a1 a2 a3=>by
    apply b0
    ·exact ⟨k+1,rfl,by omega,a1,a2,a3⟩
    ·simp [intOf];omega
   unfold sF;by_cases u:0<=(f k).1
   ·have T:=E.open hkn u;have c5:=(h.cls hkn).1;have X:∀(w3:aa) (K:K1),Ext w2 w3->ae prog 135 #[.int .i64 (f k).1] w3 K=K (.int .i64 (perS (f k).1)) w3:=λw3 K e=>cQ _ w3 K (E.gl.ext e)
    have c9:∀(w3:aa) (K:K1),ae prog 136 #[chV Y (26+32*k) (f k).1 (f k).2.1 (gX (wd D (26+32*k) 0))] w3 K=K (.int .i64 (f k).1) (w3.alloc (chO Y (26+32*k) (f k).1 (f k).2.1 (gX (wd D (26+32*k) 0)))):=λw3 K=>Di K
    have b3:=λw3 cb=>A k w3 cb E1 hkn u
    refine zS3 hc S a9 ?_;refine T _ _ xZ (λw3 e3=> ?_);have d:Ext w2 w3:=Ext.trans xZ e3;have hN:=ah.new w3 [Value.iface 31 (.pointer (some ⟨Y.tb 0,0,none⟩)),.int .i64 ((26+32*k:Nat):Int),.int .i64 (f k).1,.int .i64 (f k).2.1,.int .u16 (gX (wd D (26+32*k) 0):Int)] 134;have B:=chD hN;have g0:=B.1;have g1:=B.2.1;have g2:=B.2.2.1;have g3:=B.2.2.2.1;have g4:=B.2.2.2.2;refine gH g0 g1 g2 g3 g4 c9 X X ?_;have sz:w.heap.size<=w3.heap.size:=by
     have:=Z sb rfl;have:=r.lt (b:=sb) rfl;have:=d.size;omega
    refine b3 _ w3.heap.size (r.ext (d.trans xZ)) Z (q.ext (d.trans xZ)) sz (ah.ext hN xZ) (hE _ _ _ o (d.trans xZ)) M
   ·have T:=E.openZ hkn oM;have b1:livN D f (k+1)=livN D f k:=by rw [livN,if_pos oM,dl]
    refine zS3 hc S a9 ?_;refine T _ _ xZ (λw3 e3=> ?_);have d:Ext w2 w3:=Ext.trans xZ e3;refine zS0 ?_;rw [xd];unfold sG;refine zS1 ek ?_;exact M _ (by rw [b1];exact hE _ _ _ o (d.trans xZ)) (r.ext (d.trans xZ)) (q.ext (d.trans xZ))
  ·have b9:k=n:=oM;subst b9;unfold sF;refine zS0 ?_;exact hK _ o
end
end Go.Proofs.YtmpehclnnjgmcaaGreatDoor
