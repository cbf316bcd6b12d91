/-
  Part 3 of what the proofs of this seat share.
-/
import Derived.Test.YtmpehclnnjgmcaaGreatDoorDf2
import Derived.Laws.StructEq
import Derived.Test.YtmpehclnnjgmcaaGreatDoorDf1
set_option linter.unusedSimpArgs false
set_option linter.unusedVariables false
set_option maxHeartbeats 20000000
set_option maxRecDepth 100000
set_option linter.defProp false
open Go.Proofs.Tryz (prog)
open Go.RowKit (intOf)
open Array renaming getElem?_toList->em,extract_eq_self_of_le->eP
open Bool renaming true_and->bv,and_eq_true->cp,false_and->es,not_eq_true'->eC,or_assoc->g8,false_or->g9
open Go renaming World->al,Value->aB
open Go.Builtin renaming append_->cB,firstCells->eq,clear_->gi,cap_->gv
open Go.Instr renaming buildSlice->ei,sliceBounds->gc
open Go.Result renaming andThen_ok->cd
open Go.Sem renaming run_bind->ca,run_pure->hH
open Int renaming toNat_natCast->ab
open List renaming getD_eq_getElem?_getD->av,getElem?_eq_getElem->aA,length_append->bb,length_singleton->cm,drop_eq_getElem_cons->cn,getElem_mem->co,mem_singleton->cF,append_assoc->da,take_length->dc,length_map->df,getElem?_append_left->dk,map_cons->eg,mem_append->en,size_toArray->eu,getElem?_map->ew,drop_length->eN,append_nil->e9,getElem?_append_right->fl,mem_range->fn,mem_map->ft,mem_of_getElem?->fF,getElem?_drop->ga,any_eq_true->gj,nodup_cons->gn,map_append->gp,foldl_cons->gs,drop_drop->g6
open Nat renaming zero_add->bl,add_assoc->ch,lt_of_lt_of_le->cj,mod_eq_of_lt->cw,le_refl->cA,lt_of_le_of_lt->cN,and_one_is_mod->cO,le_trans->db,or_comm->dj,or_lt_two_pow->ds,testBit_lt_two_pow->ej,mul_comm->ep,and_two_pow_sub_one_eq_mod->eF,testBit_two_pow_sub_one->fc,one_mul->fe,div_le_self->fi,and_le_left->fk,add_zero->fx,pow_lt_pow_right->f6,pow_le_pow_right->f7,eq_of_testBit_eq->f8,testBit_two_pow->f9,testBit_xor->gT,one_ne_zero->g5,or_assoc->hV
open Option renaming bind_some->dl
namespace Go.Sh
open Go
def NS {P:Program} {t:TypeId} (h:iJ P t=true):∃e,P.underlying t=some (.slice e):=by
 unfold iJ at h;split at h
 ·rename_i e hu;exact ⟨e,hu⟩
 ·cases h
def Xz {P:Program} {t:TypeId} (h:iJ P t=true) (ty:TypeId) (cs:Array Bool) (a:Option Addr) (n c:Nat) (w:al) (k:K1):aY P .cap #[t] ty cs #[.slice a n c] w k=k (.int .i64 c) w:=by
 obtain ⟨e,hu⟩:=NS h;have:(gv #[t] ty #[.slice a n c]).run P w= .ok (.int .i64 c) w:=by
  simp [gv,run_underlying hu,goInt]
 unfold aY builtin;rw [ca,this];rfl
def GJ {P:Program} {t e ty:TypeId} {z d:Nat} {zv:aB} (E:ElT P t t e z d zv) (h1:bX zv.cells.toList=true) {cs:Array Bool} {w:al} {b o n c:Nat} {a:Array aB} (hh:w.heap[b]? =some (.cells a e (0,0))) (hn:0<n) (g:o+n*z<=a.size) (k:K1):
  aY P .clear #[t] ty cs #[.slice (some ⟨b,o,none⟩) n c] w k=k (.tuple #[]) (w.setRow b (a.toList.take o++(Builtin.zeroCells zv.cells n).toList++a.toList.drop (o+n*z)).toArray):=by
 obtain ⟨i,hi,rfl,hz,rfl⟩:=E.info;have hl:(Builtin.zeroCells zv.cells n).toList.length=n*i.size:=by
  rw [Array.length_toList,size_zeroCells,E.zs]
 have ho:∀u∈(Builtin.zeroCells zv.cells n).toList,u.oneCell'=true:=by
  intro u hu;rw [Builtin.zeroCells] at hu;simp only [Array.toList_map,ft] at hu;obtain ⟨j,hj,rfl⟩:=hu;simp only [Array.toList_range,fn] at hj;by_cases hzs:zv.cells.size=0
  ·rw [hzs] at hj;omega
  ·refine rL h1 _ ?_;have:j%zv.cells.size<zv.cells.size:=Nat.mod_lt _ oM;rw [getElem!_pos zv.cells _ this];exact Array.getElem_mem_toList this
 have f:=run_storeCells_at P b o e (Builtin.zeroCells zv.cells n).toList 0 a w hh (by rw [hl];simpa using g) ho;simp only [fx,hl] at f
 cases n with
 |zero=>omega
 |succ n=>
  have:(gi #[t] ty #[.slice (some ⟨b,o,none⟩) (n+1) c]).run P w= .ok (.tuple #[]) (w.setRow b (a.toList.take o++(Builtin.zeroCells zv.cells (n+1)).toList++a.toList.drop (o+(n+1)*i.size)).toArray):=by
   simp [gi,run_underlying E.un,zeroValue,typeInfo,hi,hz,f]
  unfold aY builtin;rw [ca,this];rfl
def jE {P:Program} {t tx e ty:TypeId} {z d:Nat} {zv:aB} (E:ElT P t tx e z d zv) {cs:Array Bool} {w:al} (b:Option Addr) (n cap:Nat) (hc:n<=cap) (x:Option Addr) (c:Nat) (k:K1):
  aY P .append #[t,tx] ty cs #[.slice b n cap,.slice x 0 c] w k=k (.slice b n cap) w:=by
 obtain ⟨i,hi,rfl,hz,rfl⟩:=E.info;have:(cB #[t,tx] ty #[.slice b n cap,.slice x 0 c]).run P w= .ok (.slice b n cap) w:=by
  have hf:(eq i.size 0 (.slice x 0 c)).run P w= .ok #[] w:=by
   cases x with
   |none=>exact run_firstCells_none _ _ _ _ _
   |some a=>exact run_firstCells_some (P:=P) w i.size 0 a 0 c [] (by simp) (by simp)
  cases b with
  |none=>simp [cB,run_underlying E.un,run_underlying E.ux,sizeOf,typeInfo,hi,Builtin.lenOf,hc,hf]
  |some a=>simp [cB,run_underlying E.un,run_underlying E.ux,sizeOf,typeInfo,hi,Builtin.lenOf,hc,hf,storeCells]
 unfold aY builtin;rw [ca,this];rfl
def Cf {P:Program} {t tx e ty:TypeId} {z bytes:Nat} {zv:aB} (E:ElT P t t e z bytes zv) (hx:LJ P tx=some .i64) {cs:Array Bool} {w:al} {m:Nat} (hm:0<m) (hb:m*bytes<=140737488355328) (s:m<9223372036854775807) {k:K1}
  (h:∀c w',Ext w w'->SlO w' e z (.slice (some ⟨w.heap.size,0,none⟩) 0 c) 0 []->m<=c->k (.slice (some ⟨w.heap.size,0,none⟩) m c) w'):
  aY P .append #[t,tx] ty cs #[.slice none 0 0,.int .i64 (m:Int)] w k:=by
 obtain ⟨i,hi,rfl,hz,rfl⟩:=E.info;have f:=cE hx;have n:IntKind.i64.wrap (m:Int)=m:=bN oM oM;have h0:¬((m:Int)<0):=oM;have d:¬(281474976710656<(m:Int)*(i.bytes:Int)):=by
  have:((m*i.bytes:Nat):Int)=(m:Int)*(i.bytes:Int):=by simp
  omega
 have hg:¬(m<=0):=oM;have b:¬m=0:=oM;have g:¬(9223372036854775807<(m:Int)):=oM;have r:=growslice_fits (need:=m) (old:=0) oM (show m*i.bytes<=140737488355328 from hb);have a:¬(281474976710656<Builtin.nextslicecap m 0*i.bytes):=oM;have l:(asIntOf (.int .i64 (m:Int))).run P w= .ok (.i64,(m:Int)) w:=rfl;have hr:(cB #[t,tx] ty #[.slice none 0 0,.int .i64 (m:Int)]).run P w= .ok (.slice (some ⟨w.heap.size,0,none⟩) m (grownCap w m 0 e)) (w.drew.alloc (.cells ((if m*i.size=0 then #[] else Builtin.zeroCells zv.cells m)++Builtin.zeroCells zv.cells (grownCap w m 0 e-m)) e)):=by
  by_cases hz0:m*i.size=0
  ·simp [cB,run_underlying E.un,run_underlying f,sizeOf,typeInfo,zeroValue,hi,hz,n,h0,d,asInt,l,hg,g,a,Question.forced,newRow,grownCap,eq,hz0,b]
  ·simp [cB,run_underlying E.un,run_underlying f,sizeOf,typeInfo,zeroValue,hi,hz,n,h0,d,asInt,l,hg,g,a,Question.forced,newRow,grownCap,eq,hz0,b]
 unfold aY builtin;rw [ca,hr];have o:=grownCap_ge w m 0 e;have p:grownCap w m 0 e<=maxLen:=grownCap_le_maxLen w m 0 e (by simp only [maxLen];omega);refine h _ _ (((Ext.refl w).drew).alloc _) ⟨by simp,.inr ⟨w.heap.size,0,_,_,rfl,aL w.drew _,Nat.zero_le _,p,?_,by simp⟩⟩ o;have j:∀q,(Builtin.zeroCells zv.cells q).size=q*i.size:=λq=>by rw [size_zeroCells,E.zs]
 rw [Array.size_append,j];split
 ·rename_i e0;have:i.size=0:=by rcases Nat.mul_eq_zero.1 e0 with h|h;omega;exact h
  simp [this]
 ·rw [j,<-Nat.add_mul,bl];exact Nat.mul_le_mul_right _ oM
def stI (P:Program):List Field->Nat->Bool
 | [],_=>true
 |f::fs,i=>f.name != "_" &&(f.offset==i&&((LJ P f.type).isSome&&(cW P f.type==some false&&stI P fs (i+1))))
def kin:List aB->List aB->Bool
 | [],[]=>true
 | .int k _::l,.int k' _::l'=>decide (k=k')&&kin l l'
 |_,_=>false
def eqL:List aB->List aB->Bool
 | .int _ a::l,.int _ b::l'=>decide (a=b)&&eqL l l'
 |_,_=>true
def v7 {P:Program} {t:TypeId} (h:cW P t=some false) {cs:Array aB} {o:Nat} {v:aB} (hv:cs[o]? =some v) (w:al):(part t cs o).run P w= .ok v w:=by
 unfold part;rw [ca,jU h,cd];simp [hv]
def uA {P:Program} (d:Nat) (xs ys:Array aB) (w:al):∀(fs:List Field) (i:Nat) (lx ly:List aB),stI P fs i=true->xs.toList.drop i=lx->ys.toList.drop i=ly->kin lx ly=true->fs.length=lx.length->(Op.eqFields (d+1) xs ys fs).run P w= .ok (eqL lx ly) w:=by
 intro fs
 induction fs with
 |nil=>
  intro i lx ly _ _ _ hk hl
  cases lx with
  |nil=>cases ly<;>first|rfl|cases hk
  |cons a l=>cases hl
 |cons f fs ih=>
  intro i lx ly hs hx hy hk hl
  cases lx with
  |nil=>cases hl
  |cons a l=>
   cases ly with
   |nil=>cases a<;>cases hk
   |cons b l'=>
    cases a with
    |int k x=>
     cases b with
     |int k' y=>
      simp only [kin,cp,decide_eq_true_eq] at hk;obtain ⟨rfl,hk⟩:=hk;simp only [stI,cp,bne_iff_ne,ne_eq,beq_iff_eq] at hs;obtain ⟨h1,h2,h3,h4,h5⟩:=hs;obtain ⟨k',g⟩:=Option.isSome_iff_exists.1 h3;have j:xs[f.offset]? =some (.int k x):=by
       rw [h2,<-em,<-fx i,<-ga,hx];rfl
      have h:ys[f.offset]? =some (.int k y):=by
       rw [h2,<-em,<-fx i,<-ga,hy];rfl
      have e1:=run_equalIn_int (P:=P) w d f.type k k' x y (cE g);have c:xs.toList.drop (i+1)=l:=by rw [<-g6,hx];rfl
      have e:ys.toList.drop (i+1)=l':=by rw [<-g6,hy];rfl
      have hr:=ih (i+1) l l' h5 c e hk (by simpa using hl);unfold Op.eqFields;rw [if_pos h1,ca,v7 h4 j,cd,ca,v7 h4 h,cd,ca,e1,cd];by_cases hxy:x=y
      ·subst hxy;simp only [BEq.rfl,Bool.not_true,Bool.false_eq_true,if_false,hr,eqL,decide_true,bv]
      ·have:(x==y)=false:=by simpa using hxy
       simp only [this,Bool.not_false,if_true,hH,eqL,hxy,decide_false,es]
     |_=>cases hk
    |_=>cases hk
def stT (P:Program) (t:TypeId) (n:Nat):Bool:=
 match P.underlying t with
 |some (.struct fs)=>stI P fs.toList 0&&(fs.toList.length==n&&(!P.stoodInHeld t&& !P.eqGuardType P.depth t))
 |_=>false
def zN {P:Program} {t:TypeId} {n:Nat} (h:stT P t n=true) (lx ly:List aB) (hn:lx.length=n) (hk:kin lx ly=true) (w:al) (d:Nat):(Op.equalIn (d+2) t (.agg lx.toArray) (.agg ly.toArray)).run P w= .ok (eqL lx ly) w:=by
 unfold stT at h;split at h
 ·rename_i fs hu;simp only [cp,beq_iff_eq,eC] at h;have hf:P.fieldsOf t=fs:=by simp [Program.fieldsOf,hu]
  rw [run_equalIn_struct w (d+1) t _ _ (by rw [hf];exact hu) h.2.2.1,hf];exact uA d _ _ w fs.toList 0 lx ly h.1 (by simp) (by simp) hk (by rw [h.2.1,hn])
 ·cases h
def GK {P:Program} {t:TypeId} {n:Nat} (h:stT P t n=true) (x y:Operand) (lx ly:List aB) (hn:lx.length=n) (hk:kin lx ly=true) (w:al):(aC .eql t x y (.agg lx.toArray) (.agg ly.toArray)).run P w= .ok (.bool (eqL lx ly)) w:=by
 have hg:P.eqGuardType P.depth t=false:=by
  unfold stT at h;split at h
  ·simp only [cp,beq_iff_eq,eC] at h;exact h.2.2.2
  ·cases h
 unfold aC;rw [ca,run_eqGuard_agg w .eql t x y _ _ hg,cd,run_eql_struct,zN h lx ly hn hk];rfl
def GL {P:Program} (t:TypeId) (x y:Operand) (a b:Nat) (w:al) (ha:a<18446744073709551616) (hb:b<18446744073709551616):(aC .andNot t x y (.int .u64 (a:Int)) (.int .u64 (b:Int))).run P w= .ok (.int .u64 ((a&&&(18446744073709551615^^^b):Nat):Int)) w:=by
 rw [bh];simp only [binOp,Op.intBits];have e1:(BitVec.ofInt 64 (a:Int)).toNat=a:=by rw [bP oM oM];simp
 have e2:(BitVec.ofInt 64 (b:Int)).toNat=b:=by rw [bP oM oM];simp
 have e3:((BitVec.ofInt 64 (a:Int))&&& ~~~(BitVec.ofInt 64 (b:Int))).toNat=a&&&(18446744073709551615^^^b):=by
  rw [BitVec.toNat_and,BitVec.toNat_not,e1,e2]
  congr 1
  apply f8;intro i;rw [show (18446744073709551615:Nat)=2^64-1 from rfl,gT,fc];have:=Nat.testBit_two_pow_sub_succ (x:=b) (n:=64) hb i;rw [show (2:Nat)^64-1-b=2^64-(b+1) by omega,this];by_cases hi:i<64
  ·simp [hi]
  ·have c:b.testBit i=false:=by
    have d:2^64<=2^i:=f7 (by decide) oM;exact ej (cj hb d)
   simp [hi,c]
 show Result.ok (Value.int IntKind.u64 (IntKind.u64.wrap (((BitVec.ofInt 64 (a:Int))&&& ~~~(BitVec.ofInt 64 (b:Int))).toNat:Int))) w=_;rw [e3,gQ oM ?_];have:a&&&(18446744073709551615^^^b)<=a:=fk;omega
end Go.Sh
namespace Go.Proofs.YtmpehclnnjgmcaaGreatDoor
open Go Go.Sh
section
variable {w w':al} {q o cap:Nat} {d:Array Nat}
def aaZ (h:Ar w q o d) (hd:d.size<1099511627776) (K:K1) (hK:∀w',SW w w' q o (Go.Sort.sort ltN d)->(Go.Sort.sort ltN d).size=d.size->K (.tuple #[]) w'):
  ad prog 172 #[.slice (some ⟨q,o,none⟩) d.size cap] w K:=by
 refine Mk _ _ _ ?_;unfold P5;have hb:Go.Sort.bitsLen d.size<=40:=(Go.Sort.bitsLen_le_iff d.size 40).2 oM;refine zS1 @Y9 ?_;refine acj d.size w d 0 d.size (Go.Sort.bitsLen d.size) _ oM h hd oM oM oM (λw' h1 h2=> ?_);exact hK w' h1 h2
def kpN (d:Array Nat):Nat->List Nat
 |0=> []
 |n+1=>kpN d n++(if n=0\/d[n]!≠d[n-1]! then [d[n]!] else [])
def Sr (d:Array Nat):∀n,(kpN d n).length<=n:=by
 intro n
 induction n with
 |zero=>simp [kpN]
 |succ n ih=>simp only [kpN,bb];split<;>simp<;>omega
def Beg (D:Array Nat) (l:List Nat):Prop:=l.length<=D.size/\∀i,i<l.length->D[i]! =l[i]!
def Ar.beg {D:Array Nat} (h:Ar w q o D) {l:List Nat} (hb:Beg D l):Ar w q o l.toArray:=by
 obtain ⟨a,h1,h2,h3⟩:=h;refine ⟨a,h1,by have:=hb.1;simp;omega,λi hi=> ?_⟩;simp only [eu] at hi;have e:=hb.2 i hi;rw [h3 i (by have:=hb.1;omega),e];simp
def qg (D:Array Nat) (i x j:Nat) (hi:i<D.size):(D.setIfInBounds i x)[j]! =if j=i then x else D[j]! :=by
 simp only [getElem!_def,Array.getElem?_setIfInBounds];by_cases e:i=j
 ·subst e;simp [hi]
 ·rw [if_neg e,if_neg (λh=>e h.symm)]
def NT (h:Ar w q o d) (hd:d.size<1099511627776) (hc:d.size<=cap) (h0:0<d.size) (K:K1) (hK:∀w',Ar w' q o (kpN d d.size).toArray->Frm (λx=>x=q) w w'->K (.slice (some ⟨q,o,none⟩) (kpN d d.size).length cap) w'):
  ad prog 173 #[.slice (some ⟨q,o,none⟩) d.size cap] w K:=by
 refine NK _ _ _ ?_;unfold Sn;have p:∀k,k<=d.size->(kpN d k).length=k->Beg d (kpN d k):=by
  intro k
  induction k with
  |zero=>intro _ _;exact ⟨by simp [kpN],by simp [kpN]⟩
  |succ k ih=>
   intro hk hl;have h1:=Sr d k;have t:(kpN d k).length=k:=by
    simp only [kpN,bb] at hl;split at hl<;>simp at hl<;>omega
   have hb:=ih oM t;refine ⟨by rw [hl];exact hk,λi hi=> ?_⟩;rw [hl] at hi;by_cases e:i=k
   ·subst e;have H:i=0\/d[i]!≠d[i-1]! :=by
     by_cases hh:i=0\/d[i]!≠d[i-1]!
     ·exact hh
     ·simp only [kpN,if_neg hh,e9] at hl;omega
    simp only [kpN,if_pos H];rw [getElem!_def (kpN d i++ [d[i]!]),fl oM,t];simp
   ·have:=hb.2 i oM;rw [this];simp only [kpN];rw [getElem!_def,getElem!_def,dk oM]
 by_cases h2:d.size<2
 ·have e1:d.size=1:=oM;refine zS0 ?_;have s:kpN d d.size= [d[0]!]:=by rw [e1];simp [kpN]
  have hb:=p d.size oM (by rw [s];simp [e1]);have:=hK w (h.beg hb) (Frm.refl _ _);rw [s] at this;simp only [cm] at this;rw [<-e1] at this;exact this
 ·refine zS0 ?_;apply zJ (I:=λx w'=>∃k:Nat,x= .int .i64 (k:Int)/\1<=k/\k<=d.size/\(kpN d k).length=k/\SW w w' q o d) (μ:=λx _=>d.size-(intOf x).toNat)
  ·exact ⟨1,by simp,by omega,by omega,by simp [kpN],SW.refl h⟩
  ·intros;rename_i w1 hI E1 hE;obtain ⟨k,rfl,s,M,g,sw⟩:=hI;unfold vW;have ar:=sw.ar;by_cases hk:k<d.size
   ·have c1:=ar.cell k hk;have c2:=ar.cell (k-1) oM;have e0:(k:Int)-1=((k-1:Nat):Int):=oM;by_cases he:d[k]! =d[k-1]!
    ·have v:¬cap=k:=oM;have e1:kpN d (k+1)=kpN d k:=by
      simp only [kpN];rw [if_neg (by rintro (h|h);omega;exact h he),e9]
     refine zS6 e0 c1 c2 he v v ?_;apply zK (I:=λx y w'=>∃(k2:Nat) (D:Array Nat),y= .int .i64 (k2:Int)/\x= .int .i64 (((kpN d (k+k2)).length:Nat):Int)/\1<=k2/\k+k2<=d.size/\D.size=d.size/\SW w w' q o D/\Beg D (kpN d (k+k2))/\(∀j,k+k2-1<=j->D[j]! =d[j]!)/\(kpN d (k+k2)).length<=k+k2-1) (μ:=λ_ y _=>d.size-(intOf y).toNat)
     ·refine ⟨1,d,by simp,by rw [e1,g],by omega,by omega,rfl,sw.drew,?_,λ_ _=>rfl,by rw [e1,g];omega⟩;rw [e1];exact p k oM g
     ·intros;rename_i w2 F E2 A;obtain ⟨k2,D,rfl,rfl,L,N,u,r,l,f,J⟩:=F;unfold vY;have n:=r.ar;by_cases hk5:k+k2<d.size
      ·have c3:=n.cell (k+k2) oM;have c4:=n.cell (k+k2-1) oM;have a3:o+k+k2=o+(k+k2):=oM;have a4:o+k+(k2-1)=o+(k+k2-1):=oM;have g0:(k2:Int)-1=((k2-1:Nat):Int):=oM;have g1:((d.size-k:Nat):Int)=(d.size:Int)-(k:Int):=oM;generalize hm:(kpN d (k+k2)).length=m at*;by_cases he2:d[k+k2]! =d[k+k2-1]!
       ·have e2:kpN d (k+k2+1)=kpN d (k+k2):=by
         simp only [kpN];rw [if_neg (by rintro (h|h);omega;exact h he2),e9]
        have z:D[k+k2]! =D[k+k2-1]! :=by rw [f _ oM,f _ oM,he2]
        rw [z] at c3;refine zS8 g0 a3 a4 c3 c4 @sr @ig.eq_1 @ig.eq_1 ?_;apply A
        ·refine ⟨k2+1,D,by simp,by rw [<-ch,e2,hm],by omega,by omega,u,r.drew,by rw [<-ch,e2];exact l,λj hj=>f j oM,by rw [<-ch,e2];omega⟩
        ·simp [intOf];omega
       ·have e2:kpN d (k+k2+1)=kpN d (k+k2)++ [d[k+k2]!]:=by
         simp only [kpN];rw [if_pos (.inr he2)]
        have z:¬D[k+k2]! =D[k+k2-1]! :=by rw [f _ oM,f _ oM];exact he2
        have c5:=n.cell m oM;have E:¬((D[k+k2]! :Nat):Int)=((D[k+k2-1]! :Nat):Int):=oM;refine lC g0 a3 a4 c3 c4 c5 n.frz E @sr @ig.eq_1 @ig.eq_1 ?_;apply A
        ·refine ⟨k2+1,D.setIfInBounds m D[k+k2]!,by simp,?_,by omega,by omega,by simp [u],(r.set1 m _ oM).drew,?_,?_,?_⟩
         ·rw [<-ch,e2];simp [hm]
         ·rw [<-ch,e2];refine ⟨by simp;omega,λi hi=> ?_⟩;rw [qg _ _ _ _ oM];simp only [bb,cm,hm] at hi;by_cases e:i=m
          ·subst e;rw [if_pos rfl,f _ oM,getElem!_def (kpN d (k+k2)++ [d[k+k2]!]),fl oM,hm];simp
          ·rw [if_neg e,l.2 i oM,getElem!_def,getElem!_def,dk oM]
         ·intro j hj;rw [qg _ _ _ _ oM,if_neg oM];exact f j oM
         ·rw [<-ch,e2];simp only [bb,cm,hm];omega
        ·simp [intOf];omega
      ·have ek:k+k2=d.size:=oM;have g1:((d.size-k:Nat):Int)=(k2:Int):=oM;rw [ek] at l J;rw [ek];generalize hm:(kpN d d.size).length=m at*;obtain ⟨a,hh,hs,hf⟩:=n;have B:¬cap=m:=oM;have cl:∀(c:Nat) K,aY prog .clear #[58] 0 #[false] #[.slice (some ⟨q,o+m,none⟩) (d.size-m) c] w2 K=K (.tuple #[]) _:=λc K=>GJ cZ rfl hh oM oM K
       refine zS6 g1 B cl @GF @oN.eq_1 @oN.eq_1 ?_;refine hK _ ?_ ?_
       ·refine ⟨_,fY hh _,?_,λi hi=> ?_⟩
        ·simp [Builtin.zeroCells];omega
        ·simp only [eu,hm] at hi;rw [List.getElem?_toArray,da,dk (by simp;omega),List.getElem?_take_of_lt oM,em,hf i oM,l.2 i oM];simp
       ·exact r.frm.trans (b:=w2) (G:=λx=>x=q) ⟨rfl,rfl,rfl,by simp,λx _ hx=>fZ _ hx⟩ (λ_ _ h=>h)
    ·have C:¬((d[k]! :Nat):Int)=((d[k-1]! :Nat):Int):=oM;refine zS6 e0 c1 c2 C @GE @vX.eq_1 ?_;apply hE
     ·refine ⟨k+1,by simp,by omega,by omega,?_,sw.drew⟩;simp only [kpN];rw [if_pos (.inr he)];simp [g]
     ·simp [intOf];omega
   ·have ek:k=d.size:=oM;subst ek;refine zS2 @GD @vV.eq_1 ?_;have:=hK w1 (ar.beg (p _ (cA _) g)) sw.frm;rw [g] at this;exact this
end
end Go.Proofs.YtmpehclnnjgmcaaGreatDoor
namespace Go.Sh
open Go
variable {w w':al}
def Frm.cell {F:Nat->Prop} (h:Frm F w w') (b i:Nat) (hb:b<w.heap.size) (hn:¬F b):w'.cell? ⟨b,i,none⟩=w.cell? ⟨b,i,none⟩:=by
 have:=h.block b hb hn;unfold World.cell?;simp only [this]
def SlO.isS' {t:TypeId} {z n:Nat} {v:aB} {L:List aB} (h:SlO w t z v n L):∃a cap,v= .slice a n cap/\n<=cap:=by
 rcases h.2 with ⟨rfl,rfl⟩|⟨b,o,cap,a,rfl,_,h2,_⟩
 ·exact ⟨_,_,rfl,cA _⟩
 ·exact ⟨_,_,rfl,h2⟩
def SlO.lit' (w:al) (t:TypeId) (z n:Nat) (l:List aB) (hl:l.length=n*z) (hm:n<=maxLen) {b:Nat} (hb:b=w.heap.size):SlO (w.alloc (.cells l.toArray t)) t z (.slice (some ⟨b,0,none⟩) n n) n l:=by subst hb;exact SlO.lit w t z n l hl hm
end Go.Sh
namespace Go.Proofs.YtmpehclnnjgmcaaGreatDoor
open Go Go.Sh
def srtN (l:List Nat):List Nat:=(Go.Sort.sort ltN l.toArray).toList
def cmpN (l:List Nat):List Nat:=kpN l.toArray l.length
def dF (x:Nat):Nat:=x-x%64
def wrI (x:Nat×Nat):Ins:=⟨1,x.1,x.2⟩
def flI (x:Nat):Ins:=⟨2,x,0⟩
def az (ws:List (Nat×Nat)):List Ins:=ws.map wrI++(cmpN (srtN (ws.map λx=>dF x.1))).map flI++ [⟨3,0,0⟩]
def JK (l:List Nat):(cmpN l).length<=l.length:=Sr _ _
def oO (l:List Nat):(srtN l).Perm l:=by
 have:=(Go.Sort.sort_sorts ltN zf l.toArray).1;have h3:=this.2.2;have h1:=this.1;unfold srtN;rw [eP (by rw [h1];exact cA _)] at h3;rw [eP (cA _)] at h3;simpa using h3
def qh (l:List Nat):(srtN l).length=l.length:=(oO l).length_eq
def aR (ws:List (Nat×Nat)):(az ws).length<=2*ws.length+1:=by
 have:=JK (srtN (ws.map λx=>dF x.1));rw [qh] at this;simp only [az,bb,df,cm] at this ⊢;omega
def bw (n:Nat) (v:aB):Prop:=∀b,v.ownBlock=some b->n<=b
abbrev Nob:Nat->Prop:=λ_=>False
section
variable {w w':al}
def bD {t tx e ty:TypeId} {z a:Nat} {zv:aB} (E:ElT prog t tx e z a zv) {cs:Array Bool} {w0 w:al} {v:aB} {n:Nat} {L:List aB} (hv:SlO w e z v n L) (hf:Frm Nob w0 w) (hn:bw w0.heap.size v)
  {xb xo m c:Nat} {news:List aB} (hl:news.length=m*z) (hx:∀j u,news[j]? =some u->w.cell? ⟨xb,xo+j,none⟩=some u) (h1:bX news=true) (hm:0<m) (hb:(n+m)*a<=140737488355328) (g:n+m<9223372036854775807) {k:K1}
  (h:∀v' w',SlO w' e z v' (n+m) (L++news)->Frm Nob w0 w'->bw w0.heap.size v'->Frm (λb=>v.ownBlock=some b) w w'->(∀b,v'.ownBlock=some b->v.ownBlock=some b\/w.heap.size<=b)->k v' w'):
  aY prog .append #[t,tx] ty cs #[v,.slice (some ⟨xb,xo,none⟩) m c] w k:=by
 refine ck E hv hl hx h1 hm hb g (λv' w' hs d f _=> ?_);refine h v' w' hs (hf.trans d (λx hx e=>by have:=hn x e;omega)) ?_ d f;intro b i;rcases f b i with e|e
 ·exact hn b e
 ·exact db hf.size e
def Ar.of_heap {b o:Nat} {d:Array Nat} (h:Ar w b o d) (e:w'.heap[b]? =w.heap[b]?):Ar w' b o d:=by
 obtain ⟨a,h,h2⟩:=h;exact ⟨a,e.trans h,h2⟩
def Ar.of_sl {q o cap n:Nat} {l:List Nat} (h:SlO w 26 1 (.slice (some ⟨q,o,none⟩) n cap) n (l.map u64)):Ar w q o l.toArray:=by
 have hl:l.length=n:=by have:=h.1;simpa using this
 rcases h.2 with ⟨e,_⟩|⟨b,o',c,a,e,hh,h1,h2,h3,h4⟩
 ·cases e
 ·injection e with e1 e2 e3;injection e1 with e1;injection e1 with e4 e5 e6;subst e4;subst e5;subst e3;refine ⟨a,hh,by simp;omega,λi hi=> ?_⟩;simp only [eu] at hi;have:=h4 i (u64 l[i]) (by simp [aA hi]);rw [this];simp [hi,u64]
def jF {t:TypeId} {z n:Nat} {v:aB} {L:List aB} (h:SlO w t z v n L):aj v=true:=by
 rcases h.2 with ⟨rfl,_⟩|⟨_,_,_,_,rfl,_⟩<;>rfl
def gk (ws:List (Nat×Nat)) (v:aB) (hS:SlO w 98 2 v ws.length (wrL ws)) (h0:0<ws.length) (hl:ws.length<1073741824) (hw:∀x∈ws,x.1<18446744073709551616) (K:K1)
  (hK:∀v' w',SlO w' 220 3 v' (az ws).length (inL (az ws))->Ext w w'->bw w.heap.size v'->K v' w'):ad prog 123 #[v] w K:=by
 obtain ⟨sb,so,a2,rfl,a6⟩:=hS.isS h0;refine NE _ _ _ ?_;unfold Sj;have W:∀K:K1,ev prog (Instr.makeSlice 58 (.int .i64 0) (.int .i64 (ws.length:Int))) w K=K (.slice (some ⟨w.heap.size,0,none⟩) 0 ws.length) (w.alloc (.cells (mv (.int .u64 0) (ws.length*1)) 26)):=λK=>by
  have:=qI cZ 0 (ws.length:Int) w K oM oM oM oM;simpa using this
 refine zS1 W ?_;apply zF (I:=λx y z w'=>∃(i:Nat),z= .int .i64 (i:Int)/\i<=ws.length/\SlO w' 220 3 x i (inL ((ws.take i).map wrI))/\SlO w' 26 1 y i (((ws.take i).map λx=>dF x.1).map u64)/\Frm Nob w w'/\bw w.heap.size x/\bw w.heap.size y/\(∀b,x.ownBlock=some b->y.ownBlock≠some b)) (μ:=λ_ _ z _=>ws.length-(intOf z).toNat)
 ·refine ⟨0,rfl,by omega,SlO.nil _ _ _,?_,Frm.of_ext (Ext.alloc_self _ _),?_,?_,?_⟩
  ·have:=Xm w (.int .u64 0) ws.length 1 26 (by simp only [maxLen];omega);rw [Nat.mul_one] at this;exact this
  ·intro b hb;cases hb
  ·intro b hb;injection hb with hb;subst hb;exact cA _
  ·intro b hb;cases hb
 ·intros;rename_i w2 hI E1 hE;obtain ⟨i,rfl,hi,sp,d,hf,np,nl,hd⟩:=hI;obtain ⟨pa,pc,rfl,a5⟩:=sp.isS';obtain ⟨la,lc,rfl,b3⟩:=d.isS';unfold vN;by_cases hik:i<ws.length
  ·obtain ⟨x,hx⟩:∃x,ws[i]? =some x:=⟨_,aA hik⟩;have b0:=hw x (fF hx);obtain ⟨xo,xv⟩:=x;have hg:=iZ _ _ _ hx;have l:=hS.frm hf (λ_ _ h=>h);have c1:=l.cell rfl hg.1;have c2:=l.cell rfl hg.2;rw [<-ch] at c2;have lt:=l.lt rfl;refine zS2 c1 c2 ?_;have et:ws.take (i+1)=ws.take i++ [(xo,xv)]:=cG hx;refine bD de (w0:=w) (sp.ext xZ) (hf.ext xZ) np (news:=inL [wrI (xo,xv)]) (by simp [inL]) ?_ rfl oM oM oM (λA w3 a P f c Z=> ?_)
   ·intro j u hj;rw [bl,aO _ _ _ _ _ (by simp only [RZ])];simpa [inL,wrI] using hj
   obtain ⟨U,S,rfl,a4⟩:=a.isS';have ltp:∀b,(Value.slice pa i pc).ownBlock=some b->b<w2.heap.size:=λb hb=>sp.lt hb
   have c3:w3.cell? ⟨w2.heap.size,0,none⟩=some (.int .u64 (xo:Int)):=by
    rw [c.cell _ _ (by simp only [RZ];omega) (λe=>by have:=ltp _ e;omega),fW _ _ _ _ (by simp only [RZ];omega),aO _ _ _ _ _ rfl];rfl
   have b2:w2.heap.size<w3.heap.size:=by have:=c.size;simp only [RZ] at this;omega
   have J:SlO w3 26 1 (.slice la i lc) i (((ws.take i).map λx=>dF x.1).map u64):=(d.ext xZ).frm c (λb hb e=>hd b e hb);refine zS2 c3 @Xu ?_;have E:∀b,(Value.slice U (i+1) S).ownBlock=some b->(Value.slice la i lc).ownBlock≠some b:=by
    intro b hb e;rcases Z b hb with h1|h1
    ·exact hd b h1 e
    ·have:=d.lt e;simp only [RZ] at h1;omega
   refine bD cZ (w0:=w) (J.ext xZ) (P.ext xZ) nl (news:= [u64 (dF xo)]) (by simp) ?_ rfl oM oM oM (λa9 w4 C V M H Y=> ?_)
   ·intro j u hj;rw [bl,aO _ _ _ _ _ (by simp only [RZ])];simpa [u64,dF] using hj
   obtain ⟨b1,b5,rfl,a3⟩:=C.isS';refine zS0 ?_;apply hE
   ·refine ⟨i+1,by simp,by omega,?_,?_,V,f,M,?_⟩
    ·rw [et,gp,i5];exact (a.ext xZ).frm H (λb hb e=>E b hb e)
    ·rw [et];simpa using C
    ·intro b hb e;rcases Y b e with h1|h1
     ·exact E b hb h1
     ·have:=a.lt hb;simp only [RZ] at h1;omega
   ·simp [intOf];omega
  ·have:i=ws.length:=oM;subst this;rw [dc] at sp d;obtain ⟨q,o,cap,ev,hc⟩:=d.isS h0;injection ev with e1 _ e3;subst e1;subst e3;have ar:=Ar.of_sl d;have k:(List.map (λx:Nat×Nat=>dF x.1) ws).toArray.size=ws.length:=by simp
   generalize hls:(List.map (λx:Nat×Nat=>dF x.1) ws)=ls at*;have G:(Value.slice pa ws.length pc).ownBlock≠some q:=λe=>hd q e rfl
   have a8:=nl q rfl;refine zS2 @Gx @vK.eq_1 ?_;rw [<-k];refine aaZ ar oM _ (λw3 p s=> ?_);rw [<-s]
   try simp (disch:=try exact dZ) only [↓RBp,↓RA,↓reduceIte,Nat.reduceAdd,Nat.reduceMul,Nat.reduceEqDiff,RB,RX,RA2]
   refine NT p.ar oM oM oM _ (λw4 t T=> ?_);have O:kpN (Go.Sort.sort ltN ls.toArray) (Go.Sort.sort ltN ls.toArray).size=cmpN (srtN ls):=by
    unfold cmpN srtN;simp
   rw [O] at t ⊢;rw [s.trans k];have b4:(cmpN (srtN ls)).length<=ws.length:=by
    have h1:=JK (srtN ls);rw [qh] at h1;simp at k;omega
   have B:az ws=ws.map wrI++(cmpN (srtN ls)).map flI++ [⟨3,0,0⟩]:=by unfold az;rw [hls]
   have fq:Frm (λx=>x=q) w2 w4:=p.frm.trans T (λ_ _ h=>h);have f4:Frm Nob w w4:=hf.trans fq (λx hx e=>by omega);have R:SlO w4 220 3 (.slice pa ws.length pc) ws.length (inL (ws.map wrI)):=sp.frm fq (λb hb e=>G (by rw [hb,e]));generalize hcs:cmpN (srtN ls)=cs at*;refine zS0 ?_;apply zG (I:=λx z w'=>∃(j:Nat),z= .int .i64 (j:Int)/\j<=cs.length/\SlO w' 220 3 x (ws.length+j) (inL (ws.map wrI++(cs.take j).map flI))/\Frm Nob w w'/\bw w.heap.size x/\x.ownBlock≠some q/\Ar w' q o cs.toArray) (μ:=λ_ z _=>cs.length-(intOf z).toNat)
   ·exact ⟨0,rfl,by omega,by simpa using R,f4,np,G,t⟩
   ·intros;rename_i w5 L E2 X;obtain ⟨j,rfl,hj,g,f5,D,F,m⟩:=L;obtain ⟨a7,b6,rfl,a1⟩:=g.isS';unfold vP;by_cases hjk:j<cs.length
    ·have c1:=m.cell j (by simpa using hjk);have Q:(cs.toArray)[j]! =cs[j]:=by simp [hjk]
     rw [Q] at c1;have a0:=m.lt;refine zS1 c1 ?_;refine bD de (w0:=w) (g.ext xZ) (f5.ext xZ) D (news:=inL [flI cs[j]]) (by simp [inL]) ?_ rfl oM oM oM (λA w6 a n f c r=> ?_)
     ·intro j u hj;rw [bl,aO _ _ _ _ _ (by simp only [RZ])];simpa [inL,flI] using hj
     have et:cs.take (j+1)=cs.take j++ [cs[j]]:=cG (aA hjk);refine zS0 ?_;apply X
     ·refine ⟨j+1,by simp,by omega,?_,n,f,?_,?_⟩
      ·rw [et,gp,<-da,i5,<-ch];exact a
      ·intro e;rcases r q e with h1|h1
       ·exact F h1
       ·simp only [RZ] at h1;omega
      ·exact (m.of_heap (bg _ a0)).frm c (λe=>F e)
     ·simp [intOf];omega
    ·have:j=cs.length:=oM;subst this;rw [dc] at g;refine zS2 @Gy @vO.eq_1 ?_;refine bD de (w0:=w) (g.ext xZ) (f5.ext xZ) D (news:=inL [⟨3,0,0⟩]) (by simp [inL]) ?_ rfl oM oM oM (λA w6 a n f c r=> ?_)
     ·intro j u hj;rw [bl,aO _ _ _ _ _ (by simp only [RZ])];simpa [inL] using hj
     rw [<-i5,<-B] at a;have N:ws.length+cs.length+1=(az ws).length:=by rw [B];simp [ch]
     rw [N] at a;exact hK _ _ a (n.to_ext (λ_ _ h=>h)) f
end
def GM {P:Program} {t e:TypeId} {z a:Nat} {zv:aB} (E:ElT P t t e z a zv) (k:IntKind) (w:al):(Instr.sliceAt t (.slice none 0 0) none (some (.int k ((0:Nat):Int))) none).run P w= .ok (.slice none 0 0) w:=by
 obtain ⟨i,hi,rfl,hz,rfl⟩:=E.info;have hb:(gc true 0 0 none (some (.int k ((0:Nat):Int))) none).run P w= .ok (0,0,0) w:=by
  have:=λc=>oc (P:=P) k 0 0 c w (cA _)
  simp only [Int.ofNat_eq_natCast,Int.cast_ofNat_Int] at this;simp [gc,this]
 simp only [Instr.sliceAt,ca,ax E.un,cd,Instr.slice,hb];simp only [sizeOf,typeInfo,ca,program,Sem.run,hi,cd,hH,Option.map_none];simp
def XA {P:Program} {t e:TypeId} {z a:Nat} {zv:aB} (E:ElT P t t e z a zv) (b o len cap:Nat) (w:al) (k:K1):ev P (Instr.sliceAt t (.slice (some ⟨b,o,none⟩) len cap) none (some (.int .i64 ((0:Nat):Int))) none) w k=k (.slice (some ⟨b,o,none⟩) 0 cap) w:=aa (ge E b o len cap .i64 0 w oM) k
section
variable {w w':al}
def GN:ElT prog 120 120 220 3 24 (.agg #[.int .u8 0,.int .u64 0,.int .u64 0]):=de
def Ss (m:Nat) (hm:0<m) (a:m<1099511627776) (K:K1) (hK:∀c w',Ext w w'->SlO w' 220 3 (.slice (some ⟨w.heap.size,0,none⟩) 0 c) 0 []->m<=c->K (.slice (some ⟨w.heap.size,0,none⟩) 0 c) w'):
  ad prog 186 #[.slice none 0 0,.int .i64 (m:Int)] w K:=by
 refine NN _ _ _ _ ?_;unfold So;have r1:= @Xz prog 120 (by kernel_rfl);have r2:∀(w:al) (k:K1),ev prog (Instr.sliceAt 120 (.slice none 0 0) none (some (.int .i64 ((0:Nat):Int))) none) w k=k (.slice none 0 0) w:=λw k=>aa (GM GN .i64 w) k
 have r3:=λb o len cap w k=> @XA prog 120 _ _ _ _ GN b o len cap w k
 have z0:((0:Nat):Int)-((0:Nat):Int)=0:=rfl;have z1:(m:Int)-0=(m:Int):=oM;refine lC r1 r2 r3 z0 z1 @GH @vZ.eq_1 @su @fL.eq_1 @fL.eq_1 @fL.eq_1 ?_;refine Cf GN (by kernel_rfl) hm oM oM (λc w' he hs hc=> ?_);refine zS8 r1 r2 r3 z0 z1 @su @fL.eq_1 @fL.eq_1 ?_;exact hK c w' he hs hc
def lO (l:List Ins):bX (inL l)=true:=by
 induction l with
 |nil=>rfl
 |cons a l ih=>simp [inL,bX,aj,ih]
def zO (p q:List Ins) (v u:aB) (hp:SlO w 220 3 v p.length (inL p)) (hq:SlO w 220 3 u q.length (inL q)) (h1:0<p.length) (h2:0<q.length) (h3:p.length<1073741824) (h4:q.length<1073741824) (K:K1)
  (hK:∀v' w',SlO w' 220 3 v' (p++q).length (inL (p++q))->Ext w w'->bw w.heap.size v'->K v' w'):ad prog 119 #[v,u] w K:=by
 obtain ⟨pb,po,pc,rfl,k⟩:=hp.isS h1;obtain ⟨qb,qo,qc,rfl,l⟩:=hq.isS h2;refine vH _ _ _ _ ?_;unfold Gw;refine zS0 ?_;refine vU _ _ _ ?_;unfold GC;refine zS0 ?_;have d1:∀(w':al),Ext (w.alloc (.cells #[.slice (some ⟨pb,po,none⟩) p.length pc,.slice (some ⟨qb,qo,none⟩) q.length qc] 120)) w'->w'.cell? ⟨w.heap.size,0,none⟩=some (.slice (some ⟨pb,po,none⟩) p.length pc)/\w'.cell? ⟨w.heap.size,1,none⟩=some (.slice (some ⟨qb,qo,none⟩) q.length qc):=by
  intro w' he;constructor
  ·rw [he.cell _ _ (by simp only [RZ];omega),aO _ _ _ _ _ rfl];rfl
  ·rw [he.cell _ _ (by simp only [RZ];omega),aO _ _ _ _ _ rfl];rfl
 generalize hw1:w.alloc (.cells #[.slice (some ⟨pb,po,none⟩) p.length pc,.slice (some ⟨qb,qo,none⟩) q.length qc] 120)=w1 at*;have e1:Ext w w1:=by rw [<-hw1];exact Ext.alloc_self _ _
 apply mB (I:=λx z w'=>w'=w1/\∃i:Nat,z= .int .i64 (i:Int)/\i<=2/\x= .int .i64 (((if i=0 then 0 else if i=1 then p.length else p.length+q.length:Nat)):Int)) (μ:=λ_ z _=>2-(intOf z).toNat)
 ·exact ⟨rfl,0,rfl,by omega,rfl⟩
 ·intros;rename_i w2 hI E1 hE;obtain ⟨rfl,i,rfl,hi,hx⟩:=hI;obtain ⟨c0,c1⟩:=d1 w2 (Ext.refl _);have a:i=0\/i=1\/i=2:=oM;rcases a with rfl|rfl|rfl
  ·simp only [↓reduceIte] at hx;subst hx;unfold eS;refine zS3 c0 @i4 @ic.eq_1 ?_;apply hE
   ·exact ⟨rfl,1,rfl,by omega,by simp⟩
   ·simp [intOf]
  ·simp only [↓reduceIte,g5] at hx;subst hx;unfold eS;refine zS3 c1 @i4 @ic.eq_1 ?_;apply hE
   ·exact ⟨rfl,2,rfl,by omega,by simp⟩
   ·simp [intOf]
  ·simp only [↓reduceIte,Nat.reduceEqDiff] at hx;subst hx;unfold eS;have gg:∀K':K1,(∀c w',Ext w2 w'->SlO w' 220 3 (.slice (some ⟨w2.heap.size,0,none⟩) 0 c) 0 []->p.length+q.length<=c->K' (.slice (some ⟨w2.heap.size,0,none⟩) 0 c) w')->ad prog 186 #[.slice none 0 0,.int .i64 ((p.length+q.length:Nat):Int)] w2 K':=λK' h=>Ss (p.length+q.length) oM oM K' h
   refine zS2 @sk @oG.eq_1 ?_;refine gg _ (λc w3 g e m=> ?_);refine zS0 ?_;have ap:∀i,i<=2->(if i=0 then [] else if i=1 then p else p++q:List Ins).length=if i=0 then 0 else if i=1 then p.length else p.length+q.length:=by
    intro i hi;split
    ·rfl
    ·split<;>simp
   apply mC (I:=λx z w'=>∃i:Nat,z= .int .i64 (i:Int)/\i<=2/\SlO w' 220 3 x (if i=0 then [] else if i=1 then p else p++q:List Ins).length (inL (if i=0 then [] else if i=1 then p else p++q))/\Frm Nob w2 w'/\bw w2.heap.size x) (μ:=λ_ z _=>2-(intOf z).toNat)
   ·refine ⟨0,rfl,by omega,e,Frm.of_ext g,?_⟩;intro b hb;injection hb with hb;subst hb;exact cA _
   ·intros;rename_i w4 f E4 d;obtain ⟨i,rfl,hi,s4,f4,n4⟩:=f;unfold oJ;have e4:Ext w2 w4:=f4.to_ext (λ_ _ h=>h);obtain ⟨c0,c1⟩:=d1 w4 e4;obtain ⟨xa,xc,rfl,n⟩:=s4.isS';have a:i=0\/i=1\/i=2:=oM;rcases a with rfl|rfl|rfl
    ·simp only [↓reduceIte,List.length_nil] at s4 ⊢;refine zS1 c0 ?_;refine bD GN (w0:=w2) s4 f4 n4 (news:=inL p) (lJ p) (λj u hj=>(hp.ext (e1.trans e4)).cell rfl hj) (lO p) h1 oM oM (λv' w5 s5 f5 n5 _ _=> ?_);refine zS0 ?_;apply d
     ·exact ⟨1,rfl,by omega,by simpa [inL] using s5,f5,n5⟩
     ·simp [intOf]
    ·simp only [↓reduceIte,g5] at s4 ⊢;refine zS1 c1 ?_;refine bD GN (w0:=w2) s4 f4 n4 (news:=inL q) (lJ q) (λj u hj=>(hq.ext (e1.trans e4)).cell rfl hj) (lO q) h2 oM oM (λv' w5 s5 f5 n5 _ _=> ?_);refine zS0 ?_;apply d
     ·refine ⟨2,rfl,by omega,?_,f5,n5⟩;simp only [Nat.reduceEqDiff,if_false,bb,i5];exact s5
     ·simp [intOf]
    ·simp only [↓reduceIte,Nat.reduceEqDiff] at s4 ⊢;refine zS2 @sq @oI.eq_1 ?_;refine hK _ _ s4 (e1.trans e4) (λb hb=>db e1.size (n4 b hb))
end
def bq.ext {w w':al} (h:bq w) (e:Ext w w'):bq w':=⟨λi hi=>e.cell_some (h.pay i hi),λi hi=>e.cell_some (h.nib i hi)⟩
def Row (w:al) (b o:Nat) (l:List aB):Prop:=∀i v,l[i]? =some v->w.cell? ⟨b,o+i,none⟩=some v
def Row.ext {w w':al} {b o:Nat} {l:List aB} (h:Row w b o l) (e:Ext w w'):Row w' b o l:=λi v hv=>e.cell_some (h i v hv)
def u8s (l:List Nat):List aB:=l.map λ(n:Nat)=>Value.int .u8 (n:Int)
def XB {l:List Nat} {k:Nat} (h:k<l.length):(u8s l)[k]? =some (.int .u8 ((l.getD k 0:Nat):Int)):=by
 simp [u8s,ew,aA h,av]
def NU {l:List Nat} {k:Nat} (h:k<l.length):l.take (k+1)=l.take k++ [l.getD k 0]:=by
 rw [List.take_succ_eq_append_getElem h];simp [av,aA h]
def i6 (a:Int) (w:al) (K:K1):ad prog 158 #[.int .i64 a] w K=K (.bool (decide (0<=a)&&decide (a<=4064))) w:=by
 refine ao (by kernel_rfl) (Ng _ _ _ ?_) K;unfold Rv;by_cases h0:0<=a
 ·by_cases h1:a<=4064
  ·simp (disch:=first|omega|simp only [RO]|(simp only [RZ]<;>omega)|fail) only [↓RA,↓reduceIte,Nat.reduceAdd,Nat.reduceMul,Nat.reduceEqDiff,RB]
  ·simp (disch:=first|omega|simp only [RO]|(simp only [RZ]<;>omega)|fail) only [↓RA,↓reduceIte,Nat.reduceAdd,Nat.reduceMul,Nat.reduceEqDiff,RB]
 ·simp (disch:=first|omega|simp only [RO]|(simp only [RZ]<;>omega)|fail) only [↓RA,↓reduceIte,Nat.reduceAdd,Nat.reduceMul,Nat.reduceEqDiff,RB]
def cC (a:Int) (w:al) (K:K1) (h0:0<=a) (h1:a<144115188075855872):ad prog 162 #[.int .i64 a] w K=K (.int .u64 ((a.toNat*64:Nat):Int)) w:=by
 refine ao (by kernel_rfl) (Nk _ _ _ ?_) K;unfold Rz;simp (disch:=first|omega|simp only [RO]|(simp only [RZ]<;>omega)|fail) only [↓RA,↓reduceIte,Nat.reduceAdd,Nat.reduceMul,Nat.reduceEqDiff,RB]
def lP (c i:Int):Int:=8+i*(wordsS c+1)
def aJ {c:Int} (h0:0<=c) (h1:c<5):perS c=248/(wordsS c+1)/\4<=perS c/\perS c<=62:=by
 have hw:=aW h0 h1;have e:perS c=248/(wordsS c+1):=by unfold perS;rw [if_neg (by omega)]
 refine ⟨e,?_⟩;have:c=0\/c=1\/c=2\/c=3\/c=4:=by omega
 rcases this with rfl|rfl|rfl|rfl|rfl<;>(rw [e,hw.1];decide)
def bF {c i:Int} (h0:0<=c) (h1:c<5) (hi:0<=i) (a:i<perS c):8<=lP c i/\lP c i+wordsS c<256:=by
 have hp:=aJ h0 h1;have hw:=aW h0 h1;unfold lP;have:c=0\/c=1\/c=2\/c=3\/c=4:=by omega
 rcases this with rfl|rfl|rfl|rfl|rfl<;>(rw [hp.1,hw.1] at a;rw [hw.1];simp [lE] at a ⊢;omega)
def Ch (c i:Int) (w:al) (K:K1) (hG:bq w) (h0:0<=c) (h1:c<5) (hi:0<=i) (a:i<perS c):ad prog 161 #[.int .i64 c,.int .i64 i] w K=K (.tuple #[.int .i64 (lP c i),.int .i64 0]) w:=by
 refine ao (by kernel_rfl) (Nj _ _ _ _ ?_) K;unfold Ry;have hp:=aJ h0 h1;have hw:=aW h0 h1;have hb:=bF h0 h1 hi a;have hm:0<=i*(wordsS c+1)/\i*(wordsS c+1)<=256:=by unfold lP at hb;omega
 unfold lP;simp (disch:=first|omega|simp only [RO]|(simp only [RZ]<;>omega)|fail) only [↓RA,↓reduceIte,Nat.reduceAdd,Nat.reduceMul,Nat.reduceEqDiff,RB,bY c w _ hG,hG.pay,<-hw.1]
def St (r b:Nat) (w:al) (K:K1) (hG:bq w) (hr:r<4294967296) (hb:b<256):ad prog 174 #[.int .u32 r,.int .u8 b] w K=K (.int .u32 ((stepN r b:Nat):Int)) w:=by
 refine ao (by kernel_rfl) (Nq _ _ _ _ ?_) K;unfold RJ;have h1:r^^^b<4294967296:=Nat.xor_lt_two_pow (n:=32) hr (by omega);have hm:∀x:Nat,x&&&15=x%16:=λx=>eF x 4
 have h2:nb (r^^^b)<4294967296:=R8 _ h1;have e2:(r^^^b)/2^4^^^nibN ((r^^^b)%16)=nb (r^^^b):=rfl;have e3:nb (r^^^b)/2^4^^^nibN (nb (r^^^b)%16)=stepN r b:=rfl;have n1:=zz ((r^^^b)%16);have n2:=zz (nb (r^^^b)%16);simp (disch:=first|omega|simp only [RO]|(simp only [RZ]<;>omega)|fail) only [↓RA,↓reduceIte,Nat.reduceAdd,Nat.reduceMul,Nat.reduceEqDiff,RB,hm,hG.nib,e2,e3]
def Su:∀(l:List Nat) (r:Nat),r<4294967296->(∀x∈l,x<256)->l.foldl stepN r<4294967296:=by
 intro l
 induction l with
 |nil=>intro r h _;exact h
 |cons x l ih=>intro r h hl;exact ih _ (r9 r x h (hl x List.mem_cons_self)) (λy hy=>hl y (List.mem_cons_of_mem _ hy))
def Sv (l:List Nat) (b o cap:Nat) (w:al) (K:K1) (hG:bq w) (hl:∀x∈l,x<256) (hn:l.length<1000) (hr:Row w b o (u8s l)):ad prog 216 #[.int .u32 ((0:Nat):Int),.slice (some ⟨b,o,none⟩) l.length cap] w K=K (.int .u32 ((sumL l:Nat):Int)) w:=by
 refine ao (by kernel_rfl) (Nx _ _ _ _ ?_) K;unfold R4;simp (disch:=first|omega|simp only [RO]|(simp only [RZ]<;>omega)|fail) only [↓RA,↓reduceIte,Nat.reduceAdd,Nat.reduceMul,Nat.reduceEqDiff,RB];apply zy (I:=λx5 x12 w'=>∃k:Nat,k<=l.length/\w'=w/\x12= .int .i64 (k:Int)/\x5= .int .u32 (((l.take k).foldl stepN (4294967295^^^0):Nat):Int)) (μ:=λ_ x12 _=>l.length-(intOf x12).toNat)
 ·exact ⟨0,by omega,rfl,rfl,rfl⟩
 ·rintro x5 x12 w' ⟨k,hk,rfl,rfl,rfl⟩ E1 hE;unfold vA;have hf:(l.take k).foldl stepN (4294967295^^^0)<4294967296:=Su _ _ (by decide) (λx hx=>hl x (List.mem_of_mem_take hx));by_cases h:k<l.length
  ·have hc:=hr k _ (XB h);have hx:l.getD k 0<256:=by
    have:l.getD k 0=l[k]:=by simp [av,aA h]
    rw [this];exact hl _ (co h)
   have ht:=NU h;simp (disch:=first|omega|simp only [RO]|(simp only [RZ]<;>omega)|fail) only [↓RA,↓reduceIte,Nat.reduceAdd,Nat.reduceMul,Nat.reduceEqDiff,RB,hc,St _ _ _ _ hG hf hx];refine hE _ _ _ ⟨k+1,by omega,rfl,by simp,?_⟩ ?_
   ·rw [ht,List.foldl_append];rfl
   ·simp [intOf];omega
  ·have a:k=l.length:=by omega
   subst a;simp (disch:=first|omega|simp only [RO]|(simp only [RZ]<;>omega)|fail) only [↓RA,↓reduceIte,Nat.reduceAdd,Nat.reduceMul,Nat.reduceEqDiff,RB,Gr];unfold vz;rw [dc] at hf ⊢;simp (disch:=first|omega|simp only [RO]|(simp only [RZ]<;>omega)|fail) only [↓RA,↓reduceIte,Nat.reduceAdd,Nat.reduceMul,Nat.reduceEqDiff,RB,sumL]
def bq.alloc {w:al} (h:bq w) (o:Obj):bq (w.alloc o):=h.ext (Ext.alloc_self w o)
def bq.drew {w:al} (h:bq w):bq w.drew:=h.ext (Ext.refl w).drew
def XC (w:al) (l:List aB) (t:TypeId):Row (w.alloc (.cells l.toArray t)) w.heap.size 0 l:=by
 intro i v hv;rw [bl,aO _ _ _ _ _ rfl];simpa using hv
def acm (l:List Nat) (b o cap:Nat) (w:al) (K:K1) (hG:bq w) (hl:∀x∈l,x<256) (hn:l.length<1000) (hr:Row w b o (u8s l)):ad prog 200 #[.slice (some ⟨b,o,none⟩) l.length cap] w K=K (.int .u32 ((sumL l:Nat):Int)) w:=by
 refine ao (by kernel_rfl) (Nw _ _ _ ?_) K;unfold R3;simp (disch:=first|omega|simp only [RO]|(simp only [RZ]<;>omega)|fail) only [↓RA,↓reduceIte,Nat.reduceAdd,Nat.reduceMul,Nat.reduceEqDiff,RB,Sv l b o cap w _ hG hl hn hr]
def lQ (x:Nat):List Nat:= [x%256,x/256%256,x/65536%256,x/16777216%256]
def i7 {a b k:Nat} (hb:b<2^k):(2^k*a)|||b=2^k*a+b:=(Nat.two_pow_add_eq_or_of_lt hb a).symm
def fj (x:Nat) (h:x<4294967296):sealN x<18446744073709551616:=by have:=Jf x h;unfold sealN;omega
def mD (x:Nat):Obj:= .cells (u8s (lQ x)).toArray 5
def fu (x:Nat) (w:al) (K:K1) (hG:bq w) (hx:x<4294967296):ad prog 185 #[.int .u32 x] w K=K (.int .u64 ((sealN x:Nat):Int)) (w.alloc (mD x)):=by
 refine ao (by kernel_rfl) (Nu _ _ _ ?_) K;unfold RY;have hs:=Jf x hx;have e0:x%256<256:=by omega
 have a:=XC w (u8s (lQ x)) 5;have hc:=λK=>acm (lQ x) w.heap.size 0 4 (w.alloc (mD x)) K (hG.alloc _) (by simp [lQ];omega) (by simp [lQ]) a
 have e1:sumL (lQ x)=B8 x:=Gu x hx;have e2:(B8 x*2^32%18446744073709551616|||x)=sealN x:=by
  have:B8 x*2^32%18446744073709551616=2^32*B8 x:=by omega
  rw [this,i7 (by omega)];unfold sealN;omega
 rw [e1] at hc;have eo:w.alloc (.cells #[.int .u8 ((x%256:Nat):Int),.int .u8 ((x/2^8%256:Nat):Int),.int .u8 ((x/2^16%256:Nat):Int),.int .u8 ((x/2^24%256:Nat):Int)] 5)=w.alloc (mD x):=rfl;have el:(lQ x).length=4:=rfl;rw [el] at hc;simp (disch:=first|omega|simp only [RO]|(simp only [RZ]<;>omega)|fail) only [↓RA,↓reduceIte,Nat.reduceAdd,Nat.reduceMul,Nat.reduceEqDiff,RB,eo,hc,e2]
def adD {g k:Nat} (hg:g<65536) (hk:k<65536):g|||(k*2^16%4294967296)=g+k*65536:=by
 have:k*2^16%4294967296=2^16*k:=by omega
 rw [this,dj,i7 (by omega)];omega
def adE {x s:Nat} (hx:x<16777216) (hs:s<256):x|||(s*2^24%4294967296)=x+s*16777216:=by
 have:s*2^24%4294967296=2^24*s:=by omega
 rw [this,dj,i7 (by omega)];omega
def Sw {c:Nat} (h:c<65536):c*2^16%4294967296=c*65536:=by omega
def Sx {c:Nat} (h:c<4096):c*2^20%4294967296=c*1048576:=by omega
def hd1 {o:Nat} (ho:o<16):3305111552|||o*1048576=1048576*(3152+o):=by
 have:=i7 (a:=197) (b:=o*1048576) (k:=24) (by omega);simp only [Nat.reducePow,Nat.reduceMul] at this;omega
def hd2 {o c:Nat} (hc:c<16):1048576*(3152+o)|||c*65536=65536*(50432+o*16+c):=by
 have:=i7 (a:=3152+o) (b:=c*65536) (k:=20) (by omega);simp only [Nat.reducePow] at this;omega
def hd3 {x g:Nat} (hg:g<65536):65536*x|||g=65536*x+g:=by
 have:=i7 (a:=x) (b:=g) (k:=16) (by omega);simp only [Nat.reducePow] at this;exact this
def hd4 {c o:Nat} (hc:c<16) (ho:o<16):c*65536|||o*1048576<4294967296:=ds (n:=32) (by omega) (by omega)
def acn {g c o:Nat} (hg:g<65536) (hc:c<16) (ho:o<16):(g|||3305111552)|||(c*65536|||o*1048576)=g+c*65536+o*1048576+3305111552:=by
 rw [hV,dj (c*65536),<-hV 3305111552,hd1 ho,hd2 hc,dj g,hd3 hg];omega
def hd0 {g:Nat} (hg:g<65536):g|||3305111552=g+3305111552:=by
 have:=i7 (a:=197) (b:=g) (k:=24) (by omega);simp only [Nat.reducePow,Nat.reduceMul] at this;rw [dj,this];omega
def aa0 {g c o:Nat} (hg:g<65536) (hc:c<16) (ho:o<16):(g+3305111552)|||(c*65536|||o*1048576)=g+c*65536+o*1048576+3305111552:=by rw [<-hd0 hg];exact acn hg hc ho
def dg (g k s:Nat):Nat:=g+k*65536+s*16777216
def hdX (c o:Int) (g:Nat):Nat:=if 0<=c then g+(c+1).toNat*65536+(o+1).toNat*1048576+3305111552 else g+3305111552
def ij (g k s:Nat):Obj:= .cells #[.int .u16 (g:Int),.int .u8 (k:Int),.int .u8 (s:Int)] 200
def hdO (c o:Int) (g:Nat):Obj:= .cells #[.int .i64 c,.int .i64 o,.int .u16 (g:Int)] 132
def JL (g k s:Nat) (w:al) (K:K1) (hG:bq w) (hg:g<65536) (hk:k<256) (hs:s<256):ad prog 160 #[.agg #[.int .u16 (g:Int),.int .u8 (k:Int),.int .u8 (s:Int)]] w K=K (.int .u64 ((sealN (dg g k s):Nat):Int)) ((w.alloc (ij g k s)).alloc (mD (dg g k s))):=by
 refine ao (by kernel_rfl) (Ni _ _ _ ?_) K;unfold Rx;simp (disch:=first|omega|simp only [RO]|(simp only [RZ]<;>omega)|fail) only [↓RA,↓reduceIte,Nat.reduceAdd,Nat.reduceMul,Nat.reduceEqDiff,RB,RW,adD hg (show k<65536 by omega),adE (show g+k*65536<16777216 by omega) hs,λo x K=>fu x (w.alloc o) K (hG.alloc o),ij,dg]
def JM (c o:Int) (g:Nat) (w:al) (K:K1) (hG:bq w) (hg:g<65536) (hc: -1<=c) (a:c<5) (ho: -1<=o) (d:o<8):ad prog 163 #[.agg #[.int .i64 c,.int .i64 o,.int .u16 (g:Int)]] w K=K (.int .u64 ((sealN (hdX c o g):Nat):Int)) ((w.alloc (hdO c o g)).alloc (mD (hdX c o g))):=by
 refine ao (by kernel_rfl) (Nm _ _ _ ?_) K;unfold RE;by_cases h:0<=c
 ·have b:=hd4 (show (c+1).toNat<16 by omega) (show (o+1).toNat<16 by omega);have e:hdX c o g=g+(c+1).toNat*65536+(o+1).toNat*1048576+3305111552:=by unfold hdX;rw [if_pos h]
  simp (disch:=first|omega|simp only [RO]|(simp only [RZ]<;>omega)|fail) only [↓RA,↓reduceIte,Nat.reduceAdd,Nat.reduceMul,Nat.reduceEqDiff,RB,RW,hd0 hg,Sw (show (c+1).toNat<65536 by omega),Sx (show (o+1).toNat<4096 by omega),aa0 hg (show (c+1).toNat<16 by omega) (show (o+1).toNat<16 by omega),λo x K=>fu x (w.alloc o) K (hG.alloc o),hdO,e,r8,ox]
 ·have e:hdX c o g=g+3305111552:=by unfold hdX;rw [if_neg h]
  simp (disch:=first|omega|simp only [RO]|(simp only [RZ]<;>omega)|fail) only [↓RA,↓reduceIte,Nat.reduceAdd,Nat.reduceMul,Nat.reduceEqDiff,RB,RW,hd0 hg,λo x K=>fu x (w.alloc o) K (hG.alloc o),hdO,e,r8,ox]
def aco (g k s:Nat):aB:= .agg #[.int .u16 (g:Int),.int .u8 (k:Int),.int .u8 (s:Int)]
def isS (x:Nat):Bool:=decide (sealN (x%4294967296)=x)
def gX (x:Nat):Nat:=x%65536
def kX (x:Nat):Nat:=x/65536%256
def sX (x:Nat):Nat:=x/16777216%256
def Sy (x:Nat) (w:al) (K:K1) (hG:bq w) (hx:x<18446744073709551616) (h:∀w',Ext w w'->K (.tuple #[if isS x then aco (gX x) (kX x) (sX x) else aco 0 0 0,.bool (isS x)]) w'):ad prog 176 #[.int .u64 x] w K:=by
 refine Ns _ _ _ ?_;unfold RR;by_cases hs:sealN (x%4294967296)=x
 ·have e:isS x=true:=decide_eq_true hs;rw [e] at h;have e1:x%4294967296%65536=gX x:=by unfold gX;omega
  have e2:x%4294967296/2^16%256=kX x:=by unfold kX;omega
  have e3:x%4294967296/2^24%256=sX x:=by unfold sX;omega
  simp (disch:=first|omega|simp only [RO]|(simp only [RZ]<;>omega)|fail) only [↓RA,↓reduceIte,Nat.reduceAdd,Nat.reduceMul,Nat.reduceEqDiff,RB,RW,RS,λo x K=>fu x (w.alloc o) K (hG.alloc o),hs,e1,e2,e3];exact h _ (by repeat (first|(with_reducible first|refine eB ?_ _|assumption|exact eR _|refine eA ?_ _|refine eD ?_|refine eT ?_ (by assumption))|exact eR _))
 ·have e:isS x=false:=decide_eq_false hs;rw [e] at h;simp (disch:=first|omega|simp only [RO]|(simp only [RZ]<;>omega)|fail) only [↓RA,↓reduceIte,Nat.reduceAdd,Nat.reduceMul,Nat.reduceEqDiff,RB,RW,RS,λo x K=>fu x (w.alloc o) K (hG.alloc o),hs];exact h _ (by repeat (first|(with_reducible first|refine eB ?_ _|assumption|exact eR _|refine eA ?_ _|refine eD ?_|refine eT ?_ (by assumption))|exact eR _))
def hdV (c o:Int) (g:Nat):aB:= .agg #[.int .i64 c,.int .i64 o,.int .u16 (g:Int)]
def jG (c o:Int):Bool:=decide (0<=c)&&decide (c<5)&&decide (0<=o)&&decide (o<8)
def Sz {c:Int} (h:¬(0<=c/\c<5)):perS c=0:=by unfold perS;rw [if_pos (gh h)]
def gA (c o:Int) (g:Nat) (w:al) (K:K1) (hG:bq w):ad prog 159 #[.agg #[.int .i64 c,.int .i64 o,.int .u16 (g:Int)]] w K=K (.bool (jG c o)) (w.alloc (hdO c o g)):=by
 refine ao (by kernel_rfl) (Nh _ _ _ ?_) K;unfold Rw jG;by_cases h:0<=c/\c<5
 ·have hp:=aJ h.1 h.2;by_cases h1:0<=o
  ·by_cases h2:o<8
   ·simp (disch:=first|omega|simp only [RO]|(simp only [RZ]<;>omega)|fail) only [↓RA,↓reduceIte,Nat.reduceAdd,Nat.reduceMul,Nat.reduceEqDiff,RB,RW,RS,λq x K=>bY x (w.alloc q) K (hG.alloc q),hdO]
   ·simp (disch:=first|omega|simp only [RO]|(simp only [RZ]<;>omega)|fail) only [↓RA,↓reduceIte,Nat.reduceAdd,Nat.reduceMul,Nat.reduceEqDiff,RB,RW,RS,λq x K=>bY x (w.alloc q) K (hG.alloc q),hdO]
  ·simp (disch:=first|omega|simp only [RO]|(simp only [RZ]<;>omega)|fail) only [↓RA,↓reduceIte,Nat.reduceAdd,Nat.reduceMul,Nat.reduceEqDiff,RB,RW,RS,λq x K=>bY x (w.alloc q) K (hG.alloc q),hdO]
 ·have hp:=Sz h;have e:(decide (0<=c)&&decide (c<5))=false:=by simp only [Bool.and_eq_false_iff,decide_eq_false_iff_not];omega
  simp (disch:=first|omega|simp only [RO]|(simp only [RZ]<;>omega)|fail) only [↓RA,↓reduceIte,Nat.reduceAdd,Nat.reduceMul,Nat.reduceEqDiff,RB,RW,RS,λq x K=>bY x (w.alloc q) K (hG.alloc q),hdO,hp,e]
def hC (x:Nat):Int:=((x/65536%16:Nat):Int)-1
def hO (x:Nat):Int:=((x/1048576%16:Nat):Int)-1
def dQ (x:Nat):Bool:=isS x&&decide (sX x=197)&& !decide (gX x=0)&&((decide (hC x<0)&&decide (hO x<0))||jG (hC x) (hO x))
def JN (x:Nat):x&&&15=x%16:=eF x 4
def sE (x:Nat) (w:al) (K:K1) (hG:bq w) (hx:x<18446744073709551616) (h:∀w',Ext w w'->K (.tuple #[if dQ x then hdV (hC x) (hO x) (gX x) else hdV 0 0 0,.bool (dQ x)]) w'):ad prog 175 #[.int .u64 x] w K:=by
 refine Nr _ _ _ ?_;unfold RK;by_cases hs:sealN (x%4294967296)=x
 ·have e0:isS x=true:=decide_eq_true hs;have e3:x%4294967296/2^24=sX x:=by unfold sX;omega
  have e1:x%4294967296%65536=gX x:=by unfold gX;omega
  by_cases hm:sX x=197
  ·by_cases hg:gX x=0
   ·have e:dQ x=false:=by simp [dQ,hg]
    rw [e] at h;simp (disch:=first|omega|simp only [RO]|(simp only [RZ]<;>omega)|fail) only [↓RA,↓reduceIte,Nat.reduceAdd,Nat.reduceMul,Nat.reduceEqDiff,RB,RW,RS,λo x K=>fu x (w.alloc o) K (hG.alloc o),hs,e3,e1,hm,hg];exact h _ (by repeat (first|(with_reducible first|refine eB ?_ _|assumption|exact eR _|refine eA ?_ _|refine eD ?_|refine eT ?_ (by assumption))|exact eR _))
   ·have c1:((x%4294967296/2^16%16:Nat):Int)-1=hC x:=by unfold hC;omega
    have c2:((x%4294967296/2^20%16:Nat):Int)-1=hO x:=by unfold hO;omega
    have b1: -1<=hC x/\hC x<=14:=by unfold hC;omega
    have b2: -1<=hO x/\hO x<=14:=by unfold hO;omega
    have e:dQ x=((decide (hC x<0)&&decide (hO x<0))||jG (hC x) (hO x)):=by simp [dQ,e0,hm,hg]
    rw [e] at h;clear e;by_cases n1:hC x<0
    ·by_cases n2:hO x<0
     ·have e:((decide (hC x<0)&&decide (hO x<0))||jG (hC x) (hO x))=true:=by simp [n1,n2]
      rw [e] at h;simp (disch:=first|omega|simp only [RO]|(simp only [RZ]<;>omega)|fail) only [↓RA,↓reduceIte,Nat.reduceAdd,Nat.reduceMul,Nat.reduceEqDiff,RB,RW,RS,λo x K=>fu x (w.alloc o) K (hG.alloc o),hs,e3,e1,hm,hg,JN,c1,c2];exact h _ (by repeat (first|(with_reducible first|refine eB ?_ _|assumption|exact eR _|refine eA ?_ _|refine eD ?_|refine eT ?_ (by assumption))|exact eR _))
     ·have e:((decide (hC x<0)&&decide (hO x<0))||jG (hC x) (hO x))=false:=by simp [jG,n2];omega
      have ef:jG (hC x) (hO x)=false:=by simp [jG];omega
      rw [e] at h;simp (disch:=first|omega|simp only [RO]|(simp only [RZ]<;>omega)|fail) only [↓RA,↓reduceIte,Nat.reduceAdd,Nat.reduceMul,Nat.reduceEqDiff,RB,RW,RS,λo x K=>fu x (w.alloc o) K (hG.alloc o),λa b c d e g K=>gA d e g (((w.alloc a).alloc b).alloc c) K (((hG.alloc a).alloc b).alloc c),hs,e3,e1,hm,hg,JN,c1,c2,ef];exact h _ (by repeat (first|(with_reducible first|refine eB ?_ _|assumption|exact eR _|refine eA ?_ _|refine eD ?_|refine eT ?_ (by assumption))|exact eR _))
    ·have e:((decide (hC x<0)&&decide (hO x<0))||jG (hC x) (hO x))=jG (hC x) (hO x):=by simp [n1]
     rw [e] at h
     cases ef:jG (hC x) (hO x) with
     |true=>
      rw [ef] at h;simp (disch:=first|omega|simp only [RO]|(simp only [RZ]<;>omega)|fail) only [↓RA,↓reduceIte,Nat.reduceAdd,Nat.reduceMul,Nat.reduceEqDiff,RB,RW,RS,λo x K=>fu x (w.alloc o) K (hG.alloc o),λa b c d e g K=>gA d e g (((w.alloc a).alloc b).alloc c) K (((hG.alloc a).alloc b).alloc c),hs,e3,e1,hm,hg,JN,c1,c2,ef];exact h _ (by repeat (first|(with_reducible first|refine eB ?_ _|assumption|exact eR _|refine eA ?_ _|refine eD ?_|refine eT ?_ (by assumption))|exact eR _))
     |false=>
      rw [ef] at h;simp (disch:=first|omega|simp only [RO]|(simp only [RZ]<;>omega)|fail) only [↓RA,↓reduceIte,Nat.reduceAdd,Nat.reduceMul,Nat.reduceEqDiff,RB,RW,RS,λo x K=>fu x (w.alloc o) K (hG.alloc o),λa b c d e g K=>gA d e g (((w.alloc a).alloc b).alloc c) K (((hG.alloc a).alloc b).alloc c),hs,e3,e1,hm,hg,JN,c1,c2,ef];exact h _ (by repeat (first|(with_reducible first|refine eB ?_ _|assumption|exact eR _|refine eA ?_ _|refine eD ?_|refine eT ?_ (by assumption))|exact eR _))
  ·have e:dQ x=false:=by simp [dQ,hm]
   rw [e] at h;simp (disch:=first|omega|simp only [RO]|(simp only [RZ]<;>omega)|fail) only [↓RA,↓reduceIte,Nat.reduceAdd,Nat.reduceMul,Nat.reduceEqDiff,RB,RW,RS,λo x K=>fu x (w.alloc o) K (hG.alloc o),hs,e3,hm];exact h _ (by repeat (first|(with_reducible first|refine eB ?_ _|assumption|exact eR _|refine eA ?_ _|refine eD ?_|refine eT ?_ (by assumption))|exact eR _))
 ·have e0:isS x=false:=decide_eq_false hs;have e:dQ x=false:=by simp [dQ,e0]
  rw [e] at h;simp (disch:=first|omega|simp only [RO]|(simp only [RZ]<;>omega)|fail) only [↓RA,↓reduceIte,Nat.reduceAdd,Nat.reduceMul,Nat.reduceEqDiff,RB,RW,RS,λo x K=>fu x (w.alloc o) K (hG.alloc o),hs];exact h _ (by repeat (first|(with_reducible first|refine eB ?_ _|assumption|exact eR _|refine eA ?_ _|refine eD ?_|refine eT ?_ (by assumption))|exact eR _))
def bR (g k s:Nat):Bool:=if s=176 then decide (g≠0)&&decide (k=0) else if s=177 then decide (g≠0)&&decide (k≠0)&&decide (k<=127) else if s=178 then decide (g=65535)&&decide (k=0) else false
def cS (g k s:Nat) (w:al) (K:K1):ad prog 168 #[.agg #[.int .u16 (g:Int),.int .u8 (k:Int),.int .u8 (s:Int)]] w K=K (.bool (bR g k s)) (w.alloc (ij g k s)):=by
 refine ao (by kernel_rfl) (Nn _ _ _ ?_) K;unfold RF bR;by_cases h1:s=176
 ·by_cases h2:g=0
  ·simp (disch:=first|omega|simp only [RO]|(simp only [RZ]<;>omega)|fail) only [↓RA,↓reduceIte,Nat.reduceAdd,Nat.reduceMul,Nat.reduceEqDiff,RB,RW,RS,ij,h1,h2]
  ·by_cases h3:k=0
   ·simp (disch:=first|omega|simp only [RO]|(simp only [RZ]<;>omega)|fail) only [↓RA,↓reduceIte,Nat.reduceAdd,Nat.reduceMul,Nat.reduceEqDiff,RB,RW,RS,ij,h1,h2,h3]
   ·simp (disch:=first|omega|simp only [RO]|(simp only [RZ]<;>omega)|fail) only [↓RA,↓reduceIte,Nat.reduceAdd,Nat.reduceMul,Nat.reduceEqDiff,RB,RW,RS,ij,h1,h2,h3]
 ·by_cases h2:s=177
  ·by_cases h3:g=0
   ·simp (disch:=first|omega|simp only [RO]|(simp only [RZ]<;>omega)|fail) only [↓RA,↓reduceIte,Nat.reduceAdd,Nat.reduceMul,Nat.reduceEqDiff,RB,RW,RS,ij,h1,h2,h3]
   ·by_cases h4:k=0
    ·simp (disch:=first|omega|simp only [RO]|(simp only [RZ]<;>omega)|fail) only [↓RA,↓reduceIte,Nat.reduceAdd,Nat.reduceMul,Nat.reduceEqDiff,RB,RW,RS,ij,h1,h2,h3,h4]
    ·by_cases h5:k<=127
     ·simp (disch:=first|omega|simp only [RO]|(simp only [RZ]<;>omega)|fail) only [↓RA,↓reduceIte,Nat.reduceAdd,Nat.reduceMul,Nat.reduceEqDiff,RB,RW,RS,ij,h1,h2,h3,h4,h5]
     ·simp (disch:=first|omega|simp only [RO]|(simp only [RZ]<;>omega)|fail) only [↓RA,↓reduceIte,Nat.reduceAdd,Nat.reduceMul,Nat.reduceEqDiff,RB,RW,RS,ij,h1,h2,h3,h4,h5]
  ·by_cases h3:s=178
   ·by_cases h4:g=65535
    ·by_cases h5:k=0
     ·simp (disch:=first|omega|simp only [RO]|(simp only [RZ]<;>omega)|fail) only [↓RA,↓reduceIte,Nat.reduceAdd,Nat.reduceMul,Nat.reduceEqDiff,RB,RW,RS,ij,h1,h2,h3,h4,h5]
     ·simp (disch:=first|omega|simp only [RO]|(simp only [RZ]<;>omega)|fail) only [↓RA,↓reduceIte,Nat.reduceAdd,Nat.reduceMul,Nat.reduceEqDiff,RB,RW,RS,ij,h1,h2,h3,h4,h5]
    ·simp (disch:=first|omega|simp only [RO]|(simp only [RZ]<;>omega)|fail) only [↓RA,↓reduceIte,Nat.reduceAdd,Nat.reduceMul,Nat.reduceEqDiff,RB,RW,RS,ij,h1,h2,h3,h4]
   ·simp (disch:=first|omega|simp only [RO]|(simp only [RZ]<;>omega)|fail) only [↓RA,↓reduceIte,Nat.reduceAdd,Nat.reduceMul,Nat.reduceEqDiff,RB,RW,RS,ij,h1,h2,h3]
def v8 (g:Nat) (w:al) (K:K1) (hg:g<65536):ad prog 199 #[.int .u16 (g:Int)] w K=K (.tuple #[.int .u16 ((if g=65535 then 0 else g+1:Nat):Int),.bool (!decide (g=65535))]) w:=by
 refine ao (by kernel_rfl) (Nv _ _ _ ?_) K;unfold R0;by_cases h:g=65535
 ·simp (disch:=first|omega|simp only [RO]|(simp only [RZ]<;>omega)|fail) only [↓RA,↓reduceIte,Nat.reduceAdd,Nat.reduceMul,Nat.reduceEqDiff,RB,RW,RS,h]
 ·simp (disch:=first|omega|simp only [RO]|(simp only [RZ]<;>omega)|fail) only [↓RA,↓reduceIte,Nat.reduceAdd,Nat.reduceMul,Nat.reduceEqDiff,RB,RW,RS,h]
def freG (g:Nat):Nat:=if g=65535 then 65535 else g+1
def freS (g:Nat):Nat:=if g=65535 then 178 else 176
def JO (g k s:Nat) (w:al) (K:K1) (hg:g<65536):ad prog 181 #[.agg #[.int .u16 (g:Int),.int .u8 (k:Int),.int .u8 (s:Int)]] w K=K (.agg #[.int .u16 ((freG g:Nat):Int),.int .u8 ((0:Nat):Int),.int .u8 ((freS g:Nat):Int)]) ((w.alloc (ij g k s)).alloc (ij (freG g) 0 (freS g))):=by
 refine ao (by kernel_rfl) (Nt _ _ _ ?_) K;unfold RU;by_cases h:g=65535
 ·simp (disch:=first|omega|simp only [RO]|(simp only [RZ]<;>omega)|fail) only [↓RA,↓reduceIte,Nat.reduceAdd,Nat.reduceMul,Nat.reduceEqDiff,RB,RW,RS,h,v8,freG,freS,ij]
 ·simp (disch:=first|omega|simp only [RO]|(simp only [RZ]<;>omega)|fail) only [↓RA,↓reduceIte,Nat.reduceAdd,Nat.reduceMul,Nat.reduceEqDiff,RB,RW,RS,h,v8,freG,freS,ij]
def sF (off g k:Nat):Bool:=decide (off≠0)&&decide (off%8=0)&&decide (g≠0)&&decide (k≠0)&&decide (k<=127)
def ptrN (off g k:Nat):Nat:=off/8+g*4294967296+k*281474976710656
def aa1 {a g k:Nat} (ha:a<4294967296) (hg:g<65536) (hk:k<65536):(a|||g*2^32)|||k*2^48=a+g*4294967296+k*281474976710656:=by
 have h1:=i7 (a:=g) (b:=a) (k:=32) (by omega);rw [ep g,ep k,dj a,h1];have h2:=i7 (a:=k) (b:=2^32*g+a) (k:=48) (by omega);rw [dj,h2];omega
def aa2 {g:Nat} (hg:g<65536):g*2^32%18446744073709551616=g*2^32:=cw (by omega)
def aa3 {k:Nat} (hk:k<256):k*2^48%18446744073709551616=k*2^48:=cw (by omega)
def aa4 {a g:Nat} (ha:a<4294967296) (hg:g<65536):(a|||g*2^32<18446744073709551616)=True:=eq_true (ds (n:=64) (by omega) (by omega))
def aa5 (off g k:Nat) (w:al) (K:K1) (ho:off<18446744073709551616) (hg:g<65536) (hk:k<256):ad prog 169 #[.int .u64 (off:Int),.int .u16 (g:Int),.int .u8 (k:Int)] w K=K (.tuple #[.int .u64 ((if sF off g k=true/\off<=34359738360 then ptrN off g k else 0:Nat):Int),.int .i64 (if sF off g k=true then if off<=34359738360 then 0 else 2 else 1)]) w:=by
 refine ao (by kernel_rfl) (No _ _ _ _ _ ?_) K;unfold RG
 cases hb:sF off g k with
 |false=>
  by_cases h1:off=0
  ·simp (disch:=first|omega|simp only [RO]|(simp only [RZ]<;>omega)|fail) only [↓RA,↓reduceIte,Nat.reduceAdd,Nat.reduceMul,Nat.reduceEqDiff,RB,RW,RS,RI,h1]
  ·by_cases h2:off%8=0
   ·by_cases h3:g=0
    ·simp (disch:=first|omega|simp only [RO]|(simp only [RZ]<;>omega)|fail) only [↓RA,↓reduceIte,Nat.reduceAdd,Nat.reduceMul,Nat.reduceEqDiff,RB,RW,RS,RI,h1,h2,h3]
    ·by_cases h4:k=0
     ·simp (disch:=first|omega|simp only [RO]|(simp only [RZ]<;>omega)|fail) only [↓RA,↓reduceIte,Nat.reduceAdd,Nat.reduceMul,Nat.reduceEqDiff,RB,RW,RS,RI,h1,h2,h3,h4]
     ·have h5:¬k<=127:=by simp [sF,h1,h2,h3,h4] at hb;omega
      simp (disch:=first|omega|simp only [RO]|(simp only [RZ]<;>omega)|fail) only [↓RA,↓reduceIte,Nat.reduceAdd,Nat.reduceMul,Nat.reduceEqDiff,RB,RW,RS,RI,h1,h2,h3,h4,h5]
   ·simp (disch:=first|omega|simp only [RO]|(simp only [RZ]<;>omega)|fail) only [↓RA,↓reduceIte,Nat.reduceAdd,Nat.reduceMul,Nat.reduceEqDiff,RB,RW,RS,RI,h1,h2]
 |true=>
  have h:off≠0/\off%8=0/\g≠0/\k≠0/\k<=127:=by simpa [sF,and_assoc] using hb
  by_cases h6:off<=34359738360
  ·have s3:off/8|||g*2^32<18446744073709551616:=of_eq_true (aa4 (show off/8<4294967296 by omega) hg);simp (disch:=first|omega|simp only [RO]|(simp only [RZ]<;>omega)|fail) only [↓RA,↓reduceIte,Nat.reduceAdd,Nat.reduceMul,Nat.reduceEqDiff,RB,RW,RS,RI,h6,ptrN,aa2 hg,aa3 hk,aa1 (show off/8<4294967296 by omega) hg (show k<65536 by omega)]
  ·simp (disch:=first|omega|simp only [RO]|(simp only [RZ]<;>omega)|fail) only [↓RA,↓reduceIte,Nat.reduceAdd,Nat.reduceMul,Nat.reduceEqDiff,RB,RW,RS,RI,h6]
noncomputable section
variable (K:K1) (x0 x1 x2 x3 x4 x5 x6 x7 x8 x9 x10 x11 x12 x13 x14 x15 x16 x17 x18 x19 x20 x21 x22 x23 x24 x25 x26 x27 x28 x29 x30 x31 x32 x33 x34 x35 x36 x37 x38 x39 x40 x41 x42 x43 x44 x45 x46 x47 x48 x49 x50 x51 x52 x53 x54 x55 x56 x57 x58 x59 x60 x61 x62 x63 x64 x65 x66 x67 x68 x69 x70 x71 x72 x73 x74 x75 x76 x77 x78 x79 x80 x81 x82 x83 x84:aB) (w:al)
def Zv:Prop:=
 ev prog (Instr.alloc 134 true (.tuple #[])) w λa w=>
 cL 129 (pA #[x0,x1]) w λb w=>
 eX b 0 w λc w=>
 eX b 1 w λd w=>
 ev prog (Instr.alloc 132 true (.tuple #[])) w λe w=>
 sD 132 e c w λw=>
 bC .neq 28 14 0 d w λf w=>
 ae f (
 ev prog (Instr.build 134 #[]) w λg w=>
 sD 134 a g w λw=>
 lR 134 a w λr=>
 K (.tuple #[r,d]) w) (
 fA 132 e 0 w λh w=>
 lD 3 h w λi w=>
 bC .lss 3 19 0 i w λj w=>
 ae j (
 ev prog (Instr.build 134 #[]) w λl w=>
 sD 134 a l w λw=>
 lR 134 a w λo=>
 K (.tuple #[o,(.int .i64 8)]) w) (
 lD 132 e w λm w=>
 ev prog (Instr.build 134 #[(0,x0),(1,x1),(2,m)]) w λn w=>
 sD 134 a n w λw=>
 lR 134 a w λk=>
 K (.tuple #[k,(.int .i64 0)]) w))
def SA:=cA2 Tryz.func75 .o Zv
def Zw:Prop:=
 ev prog (Instr.box 134 x0) w λa w=>
 cL 73 (pA #[x1]) w λb w=>
 ae b (
 K (.tuple #[(.int .i64 0),(.int .i64 1)]) w) (
 lR 134 a w.drew λc=>
 cL 20 (pA #[x1]) w.drew λd w=>
 (lG 134 a w c)/\
 cL 130 (pA #[c,d]) w λe w=>
 xR e 0 w λf=>
 xR e 1 w λg=>
 ev prog (Op.unary .not g) w λh w=>
 gV h false x1 w λi w=>
 gd h false (λk=>bU .shr 27 24 .u64 56 i w k) w λj w=>
 gd h false (λk=>bU .neq 27 25 .u64 0 j w k) w λl w=>
 au h (.bool true) l w λm w=>
 ae m (
 K (.tuple #[(.int .i64 0),(.int .i64 2)]) w) (
 fA 134 a 0 w λn w=>
 lD 106 n w λo w=>
 bn prog o "Err" (pA #[]) w fun p w=>
 bC .neq 28 31 0 p w λq w=>
 ae q (
 K (.tuple #[(.int .i64 0),p]) w) (
 lD 134 a w λs w=>
 cL 131 (pA #[s,f]) w λt w=>
 eX t 0 w λv w=>
 eX t 1 w λy w=>
 eX t 2 w λz w=>
 ev prog (Instr.alloc 200 true (.tuple #[])) w λa0 w=>
 sD 200 a0 v w λw=>
 fA 134 a 0 w λa1 w=>
 lD 106 a1 w λa2 w=>
 bn prog a2 "Err" (pA #[]) w fun a3 w=>
 bC .neq 28 44 0 a3 w λa4 w=>
 ae a4 (
 K (.tuple #[(.int .i64 0),a3]) w) (
 rd prog (Op.unary .not y) w.drew λa5=>
 gW a5 false z λa6=>
 gdR a5 false (λk=>rd prog (Op.unary .not a6) w.drew k) λa7=>
 bo a5 (.bool true) a7 λa8=>
 gF a8 false 200 a0 2 w.drew λa9=>
 gL a8 false 5 a9 w.drew λb0=>
 gdR a8 false (λk=>rU .neq 5 55 .u8 177 b0 w.drew k) λb1=>
 bo a8 (.bool true) b1 λb2=>
 gF b2 false 200 a0 0 w.drew λb3=>
 gL b2 false 130 b3 w.drew λb4=>
 gW b2 false x1 λb5=>
 gC b2 false 132 (pA #[b5]) w.drew λb6 w=>
 (gq b2 false (fG 200 a0 0 w b3))/\
 (gq b2 false (lG 130 b3 w b4))/\
 gdR b2 false (λk=>rT .neq 130 60 62 b4 b6 w k) λb7=>
 bo b2 (.bool true) b7 λb8=>
 ae b8 (
 K (.tuple #[(.int .i64 0),(.int .i64 12)]) w) (
 fR 200 a0 1 w.drew λb9=>
 lR 5 b9 w.drew λc0=>
 cL 60 (pA #[x1]) w.drew λc1 w=>
 (fG 200 a0 1 w b9)/\
 (lG 5 b9 w c0)/\
 rT .neq 5 66 68 c0 c1 w λc2=>
 ae c2 (
 K (.tuple #[(.int .i64 0),(.int .i64 13)]) w) (
 K (.tuple #[f,(.int .i64 0)]) w))))))
def SB:=cA2 Tryz.func76 .o Zw
noncomputable def SC:=uD Tryz.f98 (.s .o (.s .o (.x 30 (.s .o (.b (.l [23] 6291486 17171483392 .o))) .o)))
abbrev SD:=aU prog Tryz.f98.results.toList
def Ci:KF:=kO 30 (cP (pw SC 3 7) (SD K) (SD K) nX)
def SE:Prop:=Ci K (fy 66 30 [x1,x2,x3,x4]) w
def SF:Prop:=aE [23] 6291486 (λE=>cP (pw SC 6 11) E (SD K) (exB 0 (Ci K) nX)) (fy 66 14680094 [x1,x2,x3,x4,x21,x22,x23]) w
def sG:Prop:=
 lD 134 x4 w λa w=>
 ev prog (ei 248 2 #[(0,x1),(1,x3)]) w λb w=>
 cL 143 (pA #[a,b]) w λc w=>
 ev prog (Op.unary .not c) w λd w=>
 ae d (
 K (.tuple #[(.slice none 0 0),(.int .i64 1)]) w) (
 fA 134 x4 0 w λe w=>
 lD 106 e w λf w=>
 bM .eql 106 (.tmp 41) (.const .nilIface) f .nilIface w λg w=>
 ae g (
 K (.tuple #[(.slice none 0 0),(.int .i64 0)]) w) (
 fA 134 x4 0 w λh w=>
 lD 106 h w λi w=>
 bn prog i "Err" (pA #[]) w fun j w=>
 bC .neq 28 46 0 j w λl w=>
 ae l (
 K (.tuple #[(.slice none 0 0),j]) w) (
 lD 134 x4 w λm w=>
 cL 144 (pA #[m,x1,x2,x3]) w λn w=>
 eX n 0 w λo w=>
 eX n 1 w λp w=>
 fA 134 x4 0 w λq w=>
 lD 106 q w λs w=>
 bn prog s "Err" (pA #[]) w fun t w=>
 bC .neq 28 60 0 t w λv w=>
 ae v (
 K (.tuple #[(.slice none 0 0),t]) w) (
 ev prog (Op.unary .not p) w λy w=>
 ae y (
 K (.tuple #[(.slice none 0 0),(.int .i64 8)]) w) (
 K (.tuple #[o,(.int .i64 0)]) w)))))
def NV:SE K x1 x2 x3 x4 w=sG K x1 x2 x3 x4 w:=aI λσ=>kR
def sI (E1:VP1):Prop:=
 bT .lss 3 23 22 x23 x22 w λa w=>
 ae a (
 iA 51 x21 x23 w λb w=>
 lD 5 b w λc w=>
 bU .eql 5 27 .u8 0 c w λd w=>
 gV d false c w λe w=>
 gd d false (λk=>bU .gtr 5 30 .u8 127 e w k) w λf w=>
 au d (.bool true) f w λg w=>
 ae g (
 K (.tuple #[(.slice none 0 0),(.int .i64 1)]) w) (
 bC .add 3 23 1 x23 w λh w=>
 E1 h w)) (
 SE K x1 x2 x3 x4 w)
def Cj (I:VP1) (μ:M1) (h0:I x23 w) (hr:∀x23 w,I x23 w->∀E1,Q1 I μ x23 w E1->sI K x1 x2 x3 x4 x21 x22 x23 w E1):SF K x1 x2 x3 x4 x21 x22 x23 w:=⟨I,μ,h0,λσ w hI E hE=>cast kR (hr (σ 23) w hI E hE)⟩
def SG:Prop:=
 ev prog (Instr.box 134 x0) w λa w=>
 lN 51 x2 w λb w=>
 lN 50 x1 w λc w=>
 bT .neq 3 17 19 b c w λd w=>
 ae d (
 K (.tuple #[(.slice none 0 0),(.int .i64 1)]) w) (
 lN 51 x2 w λe w=>
 SF K x1 x2 x3 a x2 e (.int .i64 0) w)
def SH:=cA4 Tryz.func98 SC.2 SG
noncomputable def zP:=uD Tryz.f121 (.s .o (.x 6 .o (.s .o (.s .o (.x 0 (.s .o (.b (.l [6] 36 536805456 .o))) .o)))))
abbrev sJ:=aU prog Tryz.f121.results.toList
def NW:KF:=kO 6 (cP (pr (pr zP)) (sJ K) (sJ K) nX)
def qN:Prop:=NW K (fy 29 6 [x1,x2]) w
def wa:KF:=kO 0 (cP (pw zP 5 31) (sJ K) (sJ K) nX)
def JP:Prop:=wa K (fy 29 0 []) w
def JQ:Prop:=aE [6] 36 (λE=>cP (pw zP 8 47) E (sJ K) (exB 0 (wa K) nX)) (fy 29 100 [x2,x5,x6]) w
def wc:Prop:=
 lD 134 x2 w λa w=>
 cL 165 (pA #[a,x1]) w λb w=>
 ev prog (Op.unary .not b) w λc w=>
 ae c (
 K (.int .i64 (-1)) w) (
 lD 134 x2 w λd w=>
 cL 166 (pA #[d]) w λe w=>
 JQ K x2 e x1 w)
def GO:qN K x1 x2 w=wc K x1 x2 w:=aI λσ=>kR
def wf:Prop:=
 K (.int .i64 (-1)) w
def GP:JP K w=wf K w:=aI λσ=>kR
def wg (E1:VP1):Prop:=
 lD 134 x2 w λa w=>
 cL 167 (pA #[a]) w λb w=>
 bT .lss 3 16 18 x6 b w λc w=>
 ae c (
 cV 3 129 x6 w λd w=>
 bT .shr 26 22 24 x5 d w λe w=>
 bU .and 26 25 .u64 1 e w λf w=>
 bU .eql 26 26 .u64 0 f w λg w=>
 ae g (
 K x6 w) (
 bC .add 3 20 1 x6 w λh w=>
 E1 h w)) (
 JP K w)
def zQ (I:VP1) (μ:M1) (h0:I x6 w) (hr:∀x6 w,I x6 w->∀E1,Q1 I μ x6 w E1->wg K x2 x5 x6 w E1):JQ K x2 x5 x6 w:=⟨I,μ,h0,λσ w hI E hE=>cast kR (hr (σ 6) w hI E hE)⟩
def SI:Prop:=
 ev prog (Instr.box 134 x0) w λa w=>
 bC .lss 3 7 0 x1 w λb w=>
 ae b (
 qN K (.int .i64 0) a w) (
 qN K x1 a w)
def NX:=cA2 Tryz.func121 zP.2 SI
noncomputable def SJ:=uD Tryz.f122 (.s .o (.s .o (.s .o (.s .o (.s .o (.s .o (.x 526 .o .o)))))))
abbrev SK:=aU prog Tryz.f122.results.toList
def NY:KF:=kO 526 (cP (pw SJ 7 127) (SK K) (SK K) nX)
def qO:Prop:=NY K (fy 74 526 [x1,x2,x3,x9]) w
def wh:Prop:=
 lR 134 x3 w.drew λa=>
 fR 200 x9 0 w.drew λb=>
 lR 130 b w.drew λc=>
 cL 170 (pA #[a,x1]) w.drew λd w=>
 (fG 200 x9 0 w b)/\
 (lG 130 b w c)/\
 rU .add 26 66 .u64 8 d w λe=>
 cL 169 (pA #[e,c,x2]) w λf w=>
 xR f 0 w λg=>
 xR f 1 w λh=>
 K (.tuple #[g,h]) w
def GQ:qO K x1 x2 x3 x9 w=wh K x1 x2 x3 x9 w:=aI λσ=>kR
def GR:Prop:=
 ev prog (Instr.box 134 x0) w λa w=>
 lD 134 a w λb w=>
 cL 165 (pA #[b,x1]) w λc w=>
 ev prog (Op.unary .not c) w λd w=>
 ae d (
 K (.tuple #[(.int .u64 ((0:Nat):Int)),(.int .i64 2)]) w) (
 fA 134 a 0 w λe w=>
 lD 106 e w λf w=>
 bn prog f "Err" (pA #[]) w fun g w=>
 bC .neq 28 20 0 g w λh w=>
 ae h (
 K (.tuple #[(.int .u64 ((0:Nat):Int)),g]) w) (
 lD 134 a w λi w=>
 cL 131 (pA #[i,x1]) w λj w=>
 eX j 0 w λl w=>
 eX j 1 w λm w=>
 eX j 2 w λn w=>
 ev prog (Instr.alloc 200 true (.tuple #[])) w λo w=>
 sD 200 o l w λw=>
 fA 134 a 0 w λp w=>
 lD 106 p w λq w=>
 bn prog q "Err" (pA #[]) w fun s w=>
 bC .neq 28 33 0 s w λt w=>
 ae t (
 K (.tuple #[(.int .u64 ((0:Nat):Int)),s]) w) (
 ev prog (Op.unary .not m) w λv w=>
 gd v false (λk=>lD 200 o w k) w λy w=>
 gC v false 168 (pA #[y]) w λz w=>
 gd v false (λk=>ev prog (Op.unary .not z) w k) w λa0 w=>
 au v (.bool true) a0 w λa1 w=>
 gV a1 false n w λa2 w=>
 gd a1 false (λk=>fA 200 o 2 w k) w λa3 w=>
 gd a1 false (λk=>lD 5 a3 w k) w λa4 w=>
 gd a1 false (λk=>bU .neq 5 46 .u8 176 a4 w k) w λa5 w=>
 gd a1 false (λk=>bT .neq 4 44 47 a2 a5 w k) w λa6 w=>
 au a1 (.bool true) a6 w λa7 w=>
 ae a7 (
 K (.tuple #[(.int .u64 ((0:Nat):Int)),(.int .i64 11)]) w) (
 fA 200 o 2 w λa8 w=>
 lD 5 a8 w λa9 w=>
 bU .eql 5 51 .u8 178 a9 w λb0 w=>
 ae b0 (
 K (.tuple #[(.int .u64 ((0:Nat):Int)),(.int .i64 12)]) w) (
 bU .eql 5 51 .u8 177 a9 w λb1 w=>
 ae b1 (
 fA 200 o 1 w λb2 w=>
 lD 5 b2 w λb3 w=>
 qO K x1 b3 a o w) (
 bU .eql 5 52 .u8 0 x2 w λb4 w=>
 gV b4 false x2 w λb5 w=>
 gd b4 false (λk=>bU .gtr 5 55 .u8 127 b5 w k) w λb6 w=>
 au b4 (.bool true) b6 w λb7 w=>
 ae b7 (
 K (.tuple #[(.int .u64 ((0:Nat):Int)),(.int .i64 1)]) w) (
 qO K x1 x2 a o w)))))))
def wi:=cA3 Tryz.func122 SJ.2 GR
def GS:Prop:=
 ev prog (Instr.alloc 132 true (.tuple #[])) w λa w=>
 bM .eql 106 (.tmp 12) (.const .nilIface) x0 .nilIface w λb w=>
 gV b false x1 w λc w=>
 gd b false (λk=>bC .lss 3 15 0 c w k) w λd w=>
 au b (.bool true) d w λe w=>
 ae e (
 ev prog (Instr.build 132 #[]) w λf w=>
 sD 132 a f w λw=>
 lR 132 a w λr=>
 K (.tuple #[r,(.int .i64 1)]) w) (
 bn prog x0 "Size" (pA #[]) w fun g w=>
 bU .quo 26 20 .u64 64 g w λh w=>
 bU .lss 26 22 .u64 32 h w λi w=>
 gV i false x1 w λj w=>
 gd i false (λk=>cV 3 26 j w k) w λl w=>
 gV i false h w λm w=>
 gd i false (λk=>bU .sub 26 27 .u64 32 m w k) w λn w=>
 gd i false (λk=>bT .gtr 26 26 28 l n w k) w λo w=>
 au i (.bool true) o w λp w=>
 ae p (
 ev prog (Instr.build 132 #[]) w λq w=>
 sD 132 a q w λw=>
 lR 132 a w λC=>
 K (.tuple #[C,(.int .i64 1)]) w) (
 bn prog x0 "Err" (pA #[]) w fun s w=>
 bC .neq 28 34 0 s w λt w=>
 ae t (
 ev prog (Instr.build 132 #[]) w λv w=>
 sD 132 a v w λw=>
 lR 132 a w λA=>
 K (.tuple #[A,s]) w) (
 rd prog (Instr.makeFunc (.method "Load") #[x0] #[]) w.drew fun y=>
 nR y w.drew λz=>
 cL 162 (pA #[x1]) w.drew λa0 w=>
 (ag prog (Instr.makeFunc (.method "Load") #[x0] #[]) w y)/\
 (br prog y w (λu=>u=z))/\
 bn prog x0 "Load" (pA #[a0]) w fun a1 w=>
 bn prog x0 "Err" (pA #[]) w fun a2 w=>
 bC .neq 28 47 0 a2 w λa3 w=>
 ae a3 (
 ev prog (Instr.build 132 #[]) w λa4 w=>
 sD 132 a a4 w λw=>
 lR 132 a w λB=>
 K (.tuple #[B,a2]) w) (
 cL 175 (pA #[a1]) w λa5 w=>
 eX a5 0 w λa6 w=>
 eX a5 1 w λa7 w=>
 ev prog (Instr.alloc 132 true (.tuple #[])) w λa8 w=>
 sD 132 a8 a6 w λw=>
 ev prog (Op.unary .not a7) w λa9 w=>
 ae a9 (
 ev prog (Instr.build 132 #[]) w λb0 w=>
 sD 132 a b0 w λw=>
 lR 132 a w λD=>
 K (.tuple #[D,(.int .i64 11)]) w) (
 lD 132 a8 w λb1 w=>
 sD 132 a b1 w λw=>
 lR 132 a w λx=>
 K (.tuple #[x,(.int .i64 0)]) w)))))
def wj:=cA2 Tryz.func129 .o GS
def SL:Prop:=
 ev prog (Instr.box 134 x0) w λa w=>
 fA 134 a 1 w λb w=>
 lD 3 b w λc w=>
 cL 162 (pA #[c]) w λd w=>
 fA 134 a 0 w λe w=>
 lD 106 e w λf w=>
 bM .eql 106 (.tmp 11) (.const .nilIface) f .nilIface w λg w=>
 gV g false x1 w λh w=>
 gV g false d w λi w=>
 gd g false (λk=>bT .lss 26 14 15 h i w k) w λj w=>
 au g (.bool true) j w λl w=>
 gV l false x1 w λm w=>
 gV l false d w λn w=>
 gd l false (λk=>bT .sub 26 19 20 m n w k) w λo w=>
 gd l false (λk=>bU .geq 26 21 .u64 2048 o w k) w λp w=>
 au l (.bool true) p w λq w=>
 ae q (
 K (.tuple #[(.int .i64 0),(.bool false)]) w) (
 fA 134 a 2 w λs w=>
 fA 132 s 0 w λt w=>
 lD 3 t w λv w=>
 bT .sub 26 27 28 x1 d w λy w=>
 bU .quo 26 29 .u64 8 y w λz w=>
 cV 26 3 z w λa0 w=>
 cL 138 (pA #[v,a0]) w λa1 w=>
 eX a1 0 w λa2 w=>
 eX a1 1 w λa3 w=>
 K (.tuple #[a2,a3]) w)
def NZ:=cA2 Tryz.func130 .o SL
def SM:Prop:=
 ev prog (Instr.box 134 x0) w λa w=>
 ev prog (Instr.alloc 200 true (.tuple #[])) w λb w=>
 lD 134 a w λc w=>
 cL 166 (pA #[c]) w λd w=>
 cV 3 129 x1 w λe w=>
 bT .shr 26 8 10 d e w λf w=>
 bU .and 26 11 .u64 1 f w λg w=>
 bU .eql 26 12 .u64 1 g w λh w=>
 fR 134 a 0 w.drew λi=>
 lR 106 i w.drew λj=>
 lR 134 a w.drew λl=>
 nR j w.drew λm=>
 cL 170 (pA #[l,x1]) w.drew λn w=>
 (fG 134 a 0 w i)/\
 (lG 106 i w j)/\
 (br prog j w (λu=>u=m))/\
 bn prog j "Load" (pA #[n]) w fun o w=>
 cL 176 (pA #[o]) w λp w=>
 xR p 0 w λq=>
 xR p 1 w λs=>
 sD 200 b q w λw=>
 lD 200 b w λt w=>
 sD 200 b t w λw=>
 lR 200 b w λr=>
 K (.tuple #[r,s,h]) w
def N1:=cA2 Tryz.func131 .o SM
def SN:Prop:=
 ev prog (Instr.box 134 x0) w λa w=>
 fA 134 a 0 w λb w=>
 lD 106 b w λc w=>
 bM .eql 106 (.tmp 4) (.const .nilIface) c .nilIface w λd w=>
 ae d (
 K (.int .i64 (-1)) w) (
 fA 134 a 2 w λe w=>
 fA 132 e 0 w λf w=>
 lD 3 f w λg w=>
 K g w)
def N2:=cA1 Tryz.func136 .o SN
def SO:Prop:=
 ev prog (Instr.box 134 x0) w λa w=>
 lD 134 a w λb w=>
 cL 177 (pA #[b,x1,(.int .u8 ((177:Nat):Int))]) w λc w=>
 K c w
def N3:=cA2 Tryz.func137 .o SO
noncomputable def sK:=uD Tryz.f143 (.s .o (.s .o (.x 0 (.s .o (.b (.l [5,12] 3076 2199023252144 (.s .o (.s .o (.x 7204 (.b (.s .o (.s .o (.b (.l [5,18] 203780 1099511366192 .o))))) .o)))))) .o)))
abbrev sM:=aU prog Tryz.f143.results.toList
def kq:KF:=kO 0 (cP (pw sK 3 7) (sM K) (sM K) nX)
def JR:Prop:=kq K (fy 41 0 []) w
def JS:Prop:=aE [5,12] 3076 (λE=>cP (pw sK 6 11) E (sM K) (exB 0 (kq K) nX)) (fy 41 7204 [x2,x5,x10,x11,x12]) w
def oP (E1:VP2):KF:=kO 7204 (cP (pw sK 9 459) (sE2 E1 5 12) (sM K) (exB 0 (kq K) nX))
def JT (K:K1) (E1:VP2) (x2 x5 x10 x11 x12:aB) (w:al):Prop:=oP K E1 (fy 41 7204 [x2,x5,x10,x11,x12]) w
def zR (K:K1) (E1:VP2) (x2 x5 x10 x11 x12 x16 x17 x18:aB) (w:al):Prop:=aE [5,18] 203780 (λE=>cP (pw sK 14 3275) E (sM K) (exB 2 (oP K E1) (exB 1 (oP K E1) (exB 0 (kq K) nX)))) (fy 41 465956 [x2,x5,x10,x11,x12,x16,x17,x18]) w
def wk:Prop:=
 K (.bool true) w
def GT:JR K w=wk K w:=aI λσ=>kR
def wl (E1:VP2):Prop:=
 bT .lss 3 12 11 x12 x11 w λa w=>
 ae a (
 iA 248 x10 x12 w λb w=>
 lD 50 b w λc w=>
 lN 50 c w λd w=>
 zR K E1 x2 x5 x10 x11 x12 c d (.int .i64 0) w) (
 JR K w)
def zS (I:VP2) (μ:M2) (h0:I x5 x12 w) (hr:∀x5 x12 w,I x5 x12 w->∀E1,Q2 I μ x5 x12 w E1->wl K x2 x5 x10 x11 x12 w E1):JS K x2 x5 x10 x11 x12 w:=⟨I,μ,h0,λσ w hI E hE=>cast kR (hr (σ 5) (σ 12) w hI E hE)⟩
def wm (E1:VP2):Prop:=
 bC .add 3 12 1 x12 w λa w=>
 E1 x5 a w
def GU (E1:VP2):JT K E1 x2 x5 x10 x11 x12 w=wm x5 x12 w E1:=aI λσ=>kR
def wn (E1:VP2) (E2:VP2):Prop:=
 bT .lss 3 18 17 x18 x17 w λa w=>
 ae a (
 iA 50 x16 x18 w λb w=>
 lD 3 b w λc w=>
 lD 134 x2 w λd w=>
 cL 165 (pA #[d,c]) w λe w=>
 ev prog (Op.unary .not e) w λf w=>
 gV f false x5 w λg w=>
 gV f false c w λh w=>
 gd f false (λk=>cV 3 129 h w k) w λi w=>
 gd f false (λk=>bT .shr 26 27 29 g i w k) w λj w=>
 gd f false (λk=>bU .and 26 30 .u64 1 j w k) w λl w=>
 gd f false (λk=>bU .eql 26 31 .u64 1 l w k) w λm w=>
 au f (.bool true) m w λn w=>
 ae n (
 K (.bool false) w) (
 cV 3 129 c w λo w=>
 bM .shl 26 (cu .u64 1) (.tmp 36) (.int .u64 ((1:Nat):Int)) o w λp w=>
 bT .or 26 34 37 x5 p w λq w=>
 bC .add 3 18 1 x18 w λs w=>
 E2 q s w)) (
 JT K E1 x2 x5 x10 x11 x12 w)
def zT (E1:VP2) (I:VP2) (μ:M2) (h0:I x5 x18 w) (hr:∀x5 x18 w,I x5 x18 w->∀E2,Q2 I μ x5 x18 w E2->wn K x2 x5 x10 x11 x12 x16 x17 x18 w E1 E2):zR K E1 x2 x5 x10 x11 x12 x16 x17 x18 w:=⟨I,μ,h0,λσ w hI E hE=>cast kR (hr (σ 5) (σ 18) w hI E hE)⟩
def SP:Prop:=
 ev prog (Instr.box 134 x0) w λa w=>
 lN 248 x1 w λb w=>
 JS K a (.int .u64 ((0:Nat):Int)) x1 b (.int .i64 0) w
def N4:=cA2 Tryz.func143 sK.2 SP
noncomputable def oQ:=uD Tryz.f144 (.s .o (.s .o (.s .o (.s .o (.x 3096 (.s .o (.b (.l [10,11,34] 12884901916 4835703278458499519086336 .o))) (.x 3088 (.s .o (.b (.l [10,11,84] 14507109835375550096474128 85070591730215273052729817791150690048 (.s .o (.s .o (.x 33849922949209616891776016 .o .o)))))) .o))))))
abbrev lS:=aU prog Tryz.f144.results.toList
def wq:KF:=kO 3096 (cP (pw oQ 5 31) (lS K) (lS K) nX)
def JU:Prop:=wq K (fy 135 3096 [x3,x4,x10,x11]) w
def zU:Prop:=aE [10,11,34] 12884901916 (λE=>cP (pw oQ 8 47) E (lS K) (exB 0 (wq K) nX)) (fy 135 30064774172 [x2,x3,x4,x10,x11,x32,x33,x34]) w
def oR:KF:=kO 3088 (cP (pw oQ 6 63) (lS K) (lS K) nX)
def JV:Prop:=oR K (fy 135 3088 [x4,x10,x11]) w
def JW:Prop:=aE [10,11,84] 14507109835375550096474128 (λE=>cP (pw oQ 9 95) E (lS K) (exB 2 (oR K) nX)) (fy 135 33849922949209616891776016 [x4,x10,x11,x82,x83,x84]) w
def N5 (E1:VP3):KF:=kO 33849922949209616891776016 (cP (pw oQ 12 3679) (sE3 E1 10 11 84) (lS K) (exB 2 (oR K) nX))
def zV (K:K1) (E1:VP3) (x4 x10 x11 x82 x83 x84:aB) (w:al):Prop:=N5 K E1 (fy 135 33849922949209616891776016 [x4,x10,x11,x82,x83,x84]) w
def wt:Prop:=
 lN 50 x3 w λa w=>
 JW K x4 x10 x11 x3 a (.int .i64 0) w
def GV:JU K x3 x4 x10 x11 w=wt K x3 x4 x10 x11 w:=aI λσ=>kR
def oS (E1:VP3):Prop:=
 bT .lss 3 34 33 x34 x33 w λa w=>
 ae a (
 iA 50 x32 x34 w λb w=>
 lD 3 b w λc w=>
 lD 134 x4 w λd w=>
 cL 131 (pA #[d,c]) w λe w=>
 eX e 0 w λf w=>
 eX e 1 w λg w=>
 eX e 2 w λh w=>
 ev prog (Instr.alloc 200 true (.tuple #[])) w λi w=>
 sD 200 i f w λw=>
 ev prog (Op.unary .not g) w λj w=>
 gV j false h w λl w=>
 au j (.bool true) l w λm w=>
 gd m false (λk=>fA 200 i 2 w k) w λn w=>
 gd m false (λk=>lD 5 n w k) w λo w=>
 gd m false (λk=>bU .neq 5 53 .u8 176 o w k) w λp w=>
 au m (.bool true) p w λq w=>
 gd q false (λk=>lD 200 i w k) w λs w=>
 gC q false 168 (pA #[s]) w λt w=>
 gd q false (λk=>ev prog (Op.unary .not t) w k) w λv w=>
 au q (.bool true) v w λy w=>
 ae y (
 K (.tuple #[(.slice none 0 0),(.bool false)]) w) (
 iA 51 x2 x34 w λz w=>
 lD 5 z w λa0 w=>
 fA 200 i 1 w λa1 w=>
 sD 5 a1 a0 w λw=>
 fA 200 i 2 w λa2 w=>
 sD 5 a2 (.int .u8 ((177:Nat):Int)) w λw=>
 lR 134 x4 w.drew λa3=>
 lR 200 i w.drew λa4=>
 cL 170 (pA #[a3,c]) w.drew λa5 w=>
 (lG 200 i w a4)/\
 cL 160 (pA #[a4]) w λa6 w=>
 rd prog (Instr.build 98 #[(0,a5),(1,a6)]) w λa7=>
 ev prog (ei 79 1 #[(0,a7)]) w λa8 w=>
 aY prog .append #[79,79] 79 #[false,false] (pA #[x10,a8]) w λa9 w=>
 cV 3 129 c w λb0 w=>
 bM .shl 26 (cu .u64 1) (.tmp 78) (.int .u64 ((1:Nat):Int)) b0 w λb1 w=>
 bT .or 26 76 79 x11 b1 w λb2 w=>
 bC .add 3 34 1 x34 w λb3 w=>
 E1 a9 b2 b3 w)) (
 JU K x3 x4 x10 x11 w)
def zX (I:VP3) (μ:M3) (h0:I x10 x11 x34 w) (hr:∀x10 x11 x34 w,I x10 x11 x34 w->∀E1,Q3 I μ x10 x11 x34 w E1->oS K x2 x3 x4 x10 x11 x32 x33 x34 w E1):zU K x2 x3 x4 x10 x11 x32 x33 x34 w:=⟨I,μ,h0,λσ w hI E hE=>cast kR (hr (σ 10) (σ 11) (σ 34) w hI E hE)⟩
def kr:Prop:=
 fA 134 x4 1 w λa w=>
 lD 3 a w λb w=>
 cL 162 (pA #[b]) w λc w=>
 bU .add 26 129 .u64 8 c w λd w=>
 ev prog (Instr.build 98 #[(0,d),(1,x11)]) w λe w=>
 ev prog (ei 79 1 #[(0,e)]) w λf w=>
 aY prog .append #[79,79] 79 #[false,false] (pA #[x10,f]) w λg w=>
 K (.tuple #[g,(.bool true)]) w
def GW:JV K x4 x10 x11 w=kr K x4 x10 x11 w:=aI λσ=>kR
def oT (E1:VP3):Prop:=
 bT .lss 3 84 83 x84 x83 w λa w=>
 ae a (
 iA 50 x82 x84 w λb w=>
 lD 3 b w λc w=>
 lD 134 x4 w λd w=>
 cL 131 (pA #[d,c]) w λe w=>
 eX e 0 w λf w=>
 eX e 1 w λg w=>
 eX e 2 w λh w=>
 ev prog (Instr.alloc 200 true (.tuple #[])) w λi w=>
 sD 200 i f w λw=>
 ev prog (Op.unary .not g) w λj w=>
 gV j false h w λl w=>
 gd j false (λk=>ev prog (Op.unary .not l) w k) w λm w=>
 au j (.bool true) m w λn w=>
 gd n false (λk=>fA 200 i 2 w k) w λo w=>
 gd n false (λk=>lD 5 o w k) w λp w=>
 gd n false (λk=>bU .neq 5 103 .u8 177 p w k) w λq w=>
 au n (.bool true) q w λs w=>
 ae s (
 K (.tuple #[(.slice none 0 0),(.bool false)]) w) (
 lD 200 i w λt w=>
 cL 181 (pA #[t]) w λv w=>
 sD 200 i v w λw=>
 lR 134 x4 w.drew λy=>
 lR 200 i w.drew λz=>
 cL 170 (pA #[y,c]) w.drew λa0 w=>
 (lG 200 i w z)/\
 cL 160 (pA #[z]) w λa1 w=>
 rd prog (Instr.build 98 #[(0,a0),(1,a1)]) w λa2=>
 ev prog (ei 79 1 #[(0,a2)]) w λa3 w=>
 aY prog .append #[79,79] 79 #[false,false] (pA #[x10,a3]) w λa4 w=>
 fA 200 i 2 w λa5 w=>
 lD 5 a5 w λa6 w=>
 bU .eql 5 118 .u8 176 a6 w λa7 w=>
 ae a7 (
 cV 3 129 c w λa8 w=>
 bM .shl 26 (cu .u64 1) (.tmp 122) (.int .u64 ((1:Nat):Int)) a8 w λa9 w=>
 bT .andNot 26 120 123 x11 a9 w λb0 w=>
 zV K E1 x4 a4 b0 x82 x83 x84 w) (
 zV K E1 x4 a4 x11 x82 x83 x84 w))) (
 JV K x4 x10 x11 w)
def zY (I:VP3) (μ:M3) (h0:I x10 x11 x84 w) (hr:∀x10 x11 x84 w,I x10 x11 x84 w->∀E1,Q3 I μ x10 x11 x84 w E1->oT K x4 x10 x11 x82 x83 x84 w E1):JW K x4 x10 x11 x82 x83 x84 w:=⟨I,μ,h0,λσ w hI E hE=>cast kR (hr (σ 10) (σ 11) (σ 84) w hI E hE)⟩
def kw (E1:VP3):Prop:=
 bC .add 3 84 1 x84 w λa w=>
 E1 x10 x11 a w
def sN (E1:VP3):zV K E1 x4 x10 x11 x82 x83 x84 w=kw x10 x11 x84 w E1:=aI λσ=>kR
def SQ:Prop:=
 ev prog (Instr.box 134 x0) w λa w=>
 lN 50 x1 w λb w=>
 bC .eql 3 23 0 b w λc w=>
 gV c true x3 w λd w=>
 gd c true (λk=>lN 50 d w k) w λe w=>
 gd c true (λk=>bC .eql 3 27 0 e w k) w λf w=>
 au c f (.bool false) w λg w=>
 ae g (
 K (.tuple #[(.slice none 0 0),(.bool true)]) w) (
 lD 134 a w λh w=>
 cL 166 (pA #[h]) w λi w=>
 lN 50 x1 w λj w=>
 zU K x2 x3 a (.slice none 0 0) i x1 j (.int .i64 0) w)
def N6:=cA4 Tryz.func144 oQ.2 SQ
def SR:Prop:=
 ev prog (Instr.box 134 x0) w λa w=>
 fA 134 a 0 w λb w=>
 lD 106 b w λc w=>
 bM .eql 106 (.tmp 7) (.const .nilIface) c .nilIface w λd w=>
 ae d (
 K (.int .i64 11) w) (
 fA 134 a 0 w λe w=>
 lD 106 e w λf w=>
 bn prog f "Err" (pA #[]) w fun g w=>
 bC .neq 28 12 0 g w λh w=>
 ae h (
 K g w) (
 lD 134 a w λi w=>
 cL 182 (pA #[i]) w λj w=>
 fA 134 a 0 w λl w=>
 lD 106 l w λm w=>
 bn prog m "Err" (pA #[]) w fun n w=>
 bC .neq 28 20 0 n w λo w=>
 ae o (
 K n w) (
 ev prog (Op.unary .not j) w λp w=>
 ae p (
 K (.int .i64 11) w) (
 K (.int .i64 0) w))))
def N7:=cA1 Tryz.func153 .o SR
noncomputable def GX:=uD Tryz.f157 (.s .o (.s .o (.s .o (.x 16 (.s .o (.b (.l [4,14] 8194 17592186028540 .o))) .o))))
abbrev GY:=aU prog Tryz.f157.results.toList
def wu:KF:=kO 16 (cP (pw GX 4 15) (GY K) (GY K) nX)
def JX:Prop:=wu K (fy 45 16 [x4]) w
def JY:Prop:=aE [4,14] 8194 (λE=>cP (pw GX 7 23) E (GY K) (exB 0 (wu K) nX)) (fy 45 24594 [x1,x4,x13,x14]) w
def wv:Prop:=
 K (.tuple #[x4,(.bool true)]) w
def GZ:JX K x4 w=wv K x4 w:=aI λσ=>kR
def wy (E1:VP2):Prop:=
 bT .lss 3 14 13 x14 x13 w λa w=>
 ae a (
 lD 134 x1 w λb w=>
 cL 131 (pA #[b,x14]) w λc w=>
 eX c 0 w λd w=>
 eX c 1 w λe w=>
 eX c 2 w λf w=>
 ev prog (Instr.alloc 200 true (.tuple #[])) w λg w=>
 sD 200 g d w λw=>
 ev prog (Op.unary .not e) w λh w=>
 gV h false f w λi w=>
 au h (.bool true) i w λj w=>
 gd j false (λk=>fA 200 g 2 w k) w λl w=>
 gd j false (λk=>lD 5 l w k) w λm w=>
 gd j false (λk=>bU .neq 5 31 .u8 176 m w k) w λn w=>
 au j (.bool true) n w λo w=>
 gd o false (λk=>fA 200 g 0 w k) w λp w=>
 gd o false (λk=>lD 130 p w k) w λq w=>
 gd o false (λk=>bU .eql 130 36 .u16 0 q w k) w λs w=>
 au o (.bool true) s w λt w=>
 ae t (
 K (.tuple #[(.int .u16 ((0:Nat):Int)),(.bool false)]) w) (
 fA 200 g 0 w λv w=>
 lD 130 v w λy w=>
 aY prog .max #[130,130] 130 #[false,false] #[x4,y] w λz w=>
 bC .add 3 14 1 x14 w λa0 w=>
 E1 z a0 w)) (
 JX K x4 w)
def zZ (I:VP2) (μ:M2) (h0:I x4 x14 w) (hr:∀x4 x14 w,I x4 x14 w->∀E1,Q2 I μ x4 x14 w E1->wy K x1 x4 x13 x14 w E1):JY K x1 x4 x13 x14 w:=⟨I,μ,h0,λσ w hI E hE=>cast kR (hr (σ 4) (σ 14) w hI E hE)⟩
def SS:Prop:=
 ev prog (Instr.box 134 x0) w λa w=>
 fA 134 a 0 w λb w=>
 lD 106 b w λc w=>
 bM .eql 106 (.tmp 10) (.const .nilIface) c .nilIface w λd w=>
 ae d (
 K (.tuple #[(.int .u16 ((0:Nat):Int)),(.bool false)]) w) (
 lD 134 a w λe w=>
 cL 167 (pA #[e]) w λf w=>
 JY K a (.int .u16 ((0:Nat):Int)) f (.int .i64 0) w)
def N8:=cA1 Tryz.func157 GX.2 SS
def ST:Prop:=
 ev prog (Instr.box 134 x0) w λa w=>
 bC .geq 3 5 0 x1 w λb w=>
 gV b true x1 w λc w=>
 gd b true (λk=>lD 134 a w k) w λd w=>
 gC b true 167 (pA #[d]) w λe w=>
 gd b true (λk=>bT .lss 3 8 10 c e w k) w λf w=>
 au b f (.bool false) w λg w=>
 K g w
def N9:=cA2 Tryz.func165 .o ST
def SU:Prop:=
 ev prog (Instr.box 134 x0) w λa w=>
 fR 134 a 0 w.drew λb=>
 lR 106 b w.drew λc=>
 fR 134 a 1 w.drew λd=>
 lR 3 d w.drew λe=>
 nR c w.drew λf=>
 cL 162 (pA #[e]) w.drew λg w=>
 (fG 134 a 0 w b)/\
 (lG 106 b w c)/\
 (br prog c w (λu=>u=f))/\
 rU .add 26 7 .u64 8 g w λh=>
 bn prog c "Load" (pA #[h]) w fun i w=>
 K i w
def Oa:=cA1 Tryz.func166 .o SU
def SV:Prop:=
 ev prog (Instr.box 134 x0) w λa w=>
 lD 134 a w λb w=>
 cL 136 (pA #[b]) w λc w=>
 cL 135 (pA #[c]) w λd w=>
 K d w
def Ob:=cA1 Tryz.func167 .o SV
def SX:Prop:=
 ev prog (Instr.box 134 x0) w λa w=>
 fA 134 a 2 w λb w=>
 fA 132 b 0 w λc w=>
 lD 3 c w λd w=>
 cL 161 (pA #[d,x1]) w λe w=>
 eX e 0 w λf w=>
 eX e 1 w λg w=>
 fA 134 a 1 w λh w=>
 lD 3 h w λi w=>
 cL 162 (pA #[i]) w λj w=>
 cV 3 26 f w λl w=>
 bU .mul 26 19 .u64 8 l w λm w=>
 bT .add 26 17 20 j m w λn w=>
 K n w
def Oc:=cA2 Tryz.func170 .o SX
def SY:Prop:=
 ev prog (Instr.box 134 x0) w λa w=>
 lD 134 a w λb w=>
 cL 165 (pA #[b,x1]) w λc w=>
 ev prog (Op.unary .not c) w λd w=>
 ae d (
 K (.bool false) w) (
 lD 134 a w λe w=>
 cL 131 (pA #[e,x1]) w λf w=>
 eX f 0 w λg w=>
 eX f 1 w λh w=>
 eX f 2 w λi w=>
 ev prog (Instr.alloc 200 true (.tuple #[])) w λj w=>
 sD 200 j g w λw=>
 gV h true i w λl w=>
 au h l (.bool false) w λm w=>
 gd m true (λk=>fA 200 j 2 w k) w λn w=>
 gd m true (λk=>lD 5 n w k) w λo w=>
 gV m true x2 w λp w=>
 gd m true (λk=>bT .eql 5 27 28 o p w k) w λq w=>
 au m q (.bool false) w λs w=>
 K s w)
def Od:=cA3 Tryz.func177 .o SY
noncomputable def lU:=uD Tryz.f182 (.s .o (.s .o (.s .o (.s .o (.x 2 (.s .o (.b (.l [6] 10 4502500115742788 .o))) (.s .o (.x 130 (.s .o (.b (.l [7,56] 36028797018963970 154742504838614940324464516 (.s .o (.s .o (.x 108086391056892034 (.b (.s .o (.x 108086391056893826 .o .o))) .o)))))) .o)))))))
abbrev jH:=aU prog Tryz.f182.results.toList
def wz:KF:=kO 2 (cP (pw lU 5 31) (jH K) (jH K) nX)
def JZ:Prop:=wz K (fy 91 2 [x1]) w
def J0:Prop:=aE [6] 10 (λE=>cP (pw lU 8 47) E (jH K) (exB 0 (wz K) nX)) (fy 91 74 [x1,x3,x6]) w
def ky:KF:=kO 130 (cP (pw lU 7 127) (jH K) (jH K) nX)
def J2:Prop:=ky K (fy 91 130 [x1,x7]) w
def J3:Prop:=aE [7,56] 36028797018963970 (λE=>cP (pw lU 10 191) E (jH K) (exB 2 (ky K) nX)) (fy 91 108086391056892034 [x1,x7,x55,x56]) w
def oU (E1:VP2):KF:=kO 108086391056892034 (cP (pw lU 13 7359) (sE2 E1 7 56) (jH K) (exB 2 (ky K) nX))
def qP (K:K1) (E1:VP2) (x1 x7 x55 x56:aB) (w:al):Prop:=oU K E1 (fy 91 108086391056892034 [x1,x7,x55,x56]) w
def Oe (E1:VP2):KF:=kO 108086391056893826 (cP (pw lU 16 52415) (oU K E1) (jH K) (exB 3 (oU K E1) (exB 2 (ky K) nX)))
def kz (K:K1) (E1:VP2) (x1 x7 x8 x9 x10 x55 x56:aB) (w:al):Prop:=Oe K E1 (fy 91 108086391056893826 [x1,x7,x8,x9,x10,x55,x56]) w
def wD:Prop:=
 fA 134 x1 2 w λa w=>
 fA 132 a 0 w λb w=>
 lD 3 b w λc w=>
 cL 135 (pA #[c]) w λd w=>
 J3 K x1 (.int .u64 ((0:Nat):Int)) d (.int .i64 0) w
def G0:JZ K x1 w=wD K x1 w:=aI λσ=>kR
def wE (E1:VP1):Prop:=
 bU .lss 26 40 .u64 8 x6 w λa w=>
 ae a (
 fA 134 x1 0 w λb w=>
 lD 106 b w λc w=>
 bU .mul 26 47 .u64 8 x6 w λd w=>
 bT .add 26 46 48 x3 d w λe w=>
 bn prog c "Load" (pA #[e]) w fun f w=>
 bU .neq 26 50 .u64 0 f w λg w=>
 ae g (
 K (.bool false) w) (
 bU .add 26 42 .u64 1 x6 w λh w=>
 E1 h w)) (
 JZ K x1 w)
def z6 (I:VP1) (μ:M1) (h0:I x6 w) (hr:∀x6 w,I x6 w->∀E1,Q1 I μ x6 w E1->wE K x1 x3 x6 w E1):J0 K x1 x3 x6 w:=⟨I,μ,h0,λσ w hI E hE=>cast kR (hr (σ 6) w hI E hE)⟩
def wG:Prop:=
 lD 134 x1 w λa w=>
 cL 166 (pA #[a]) w λb w=>
 bT .eql 26 88 89 b x7 w λc w=>
 K c w
def G1:J2 K x1 x7 w=wG K x1 x7 w:=aI λσ=>kR
def oV (E1:VP2):Prop:=
 bT .lss 3 56 55 x56 x55 w λa w=>
 ae a (
 fR 134 x1 0 w.drew λb=>
 lR 106 b w.drew λc=>
 lR 134 x1 w.drew λd=>
 nR c w.drew λe=>
 (cL 170 (pA #[d,x56]) w.drew λf w=>
 (fG 134 x1 0 w b)/\
 (lG 106 b w c)/\
 (br prog c w (λu=>u=e))/\
 (bn prog c "Load" (pA #[f]) w fun g w=>
 (cL 176 (pA #[g]) w λh w=>
 xR h 0 w λi=>
 xR h 1 w λj=>
 ev prog (Instr.alloc 200 true (.tuple #[])) w λl w=>
 (fG 134 x1 0 w b)/\
 (lG 106 b w c)/\
 (lG 134 x1 w d)/\
 (br prog c w (λu=>u=e))/\
 sD 200 l i w λw=>
 kz K E1 x1 x7 x56 l j x55 x56 w)/\
 (ev prog (Instr.alloc 200 true (.tuple #[])) w λm w=>
 (fG 134 x1 0 w b)/\
 (lG 106 b w c)/\
 (lG 134 x1 w d)/\
 (br prog c w (λu=>u=e))/\
 cL 176 (pA #[g]) w λn w=>
 xR n 0 w λo=>
 xR n 1 w λp=>
 sD 200 m o w λw=>
 kz K E1 x1 x7 x56 m p x55 x56 w))/\
 (ev prog (Instr.alloc 200 true (.tuple #[])) w λq w=>
 (fG 134 x1 0 w b)/\
 (lG 106 b w c)/\
 (lG 134 x1 w d)/\
 (br prog c w (λu=>u=e))/\
 bn prog c "Load" (pA #[f]) w fun s w=>
 cL 176 (pA #[s]) w λt w=>
 xR t 0 w λv=>
 xR t 1 w λy=>
 sD 200 q v w λw=>
 kz K E1 x1 x7 x56 q y x55 x56 w))/\
 (ev prog (Instr.alloc 200 true (.tuple #[])) w.drew λz w=>
 (fG 134 x1 0 w b)/\
 (lG 106 b w c)/\
 (lG 134 x1 w d)/\
 (br prog c w (λu=>u=e))/\
 cL 170 (pA #[d,x56]) w λa0 w=>
 (fG 134 x1 0 w b)/\
 (lG 106 b w c)/\
 (br prog c w (λu=>u=e))/\
 bn prog c "Load" (pA #[a0]) w fun a1 w=>
 cL 176 (pA #[a1]) w λa2 w=>
 xR a2 0 w λa3=>
 xR a2 1 w λa4=>
 sD 200 z a3 w λw=>
 kz K E1 x1 x7 x56 z a4 x55 x56 w)) (
 J2 K x1 x7 w)
def z7 (I:VP2) (μ:M2) (h0:I x7 x56 w) (hr:∀x7 x56 w,I x7 x56 w->∀E1,Q2 I μ x7 x56 w E1->oV K x1 x7 x55 x56 w E1):J3 K x1 x7 x55 x56 w:=⟨I,μ,h0,λσ w hI E hE=>cast kR (hr (σ 7) (σ 56) w hI E hE)⟩
def wH (E1:VP2):Prop:=
 bC .add 3 56 1 x56 w λa w=>
 E1 x7 a w
def G2 (E1:VP2):qP K E1 x1 x7 x55 x56 w=wH x7 x56 w E1:=aI λσ=>kR
def wI (E1:VP2):Prop:=
 ev prog (Op.unary .not x10) w λa w=>
 gd a false (λk=>lD 200 x9 w k) w λb w=>
 gC a false 168 (pA #[b]) w λc w=>
 gd a false (λk=>ev prog (Op.unary .not c) w k) w λd w=>
 au a (.bool true) d w λe w=>
 ae e (
 K (.bool false) w) (
 fA 200 x9 2 w λf w=>
 lD 5 f w λg w=>
 bU .neq 5 79 .u8 176 g w λh w=>
 ae h (
 cV 3 129 x8 w λi w=>
 bM .shl 26 (cu .u64 1) (.tmp 83) (.int .u64 ((1:Nat):Int)) i w λj w=>
 bT .or 26 81 84 x7 j w λl w=>
 qP K E1 x1 l x55 x56 w) (
 qP K E1 x1 x7 x55 x56 w))
def G3 (E1:VP2):kz K E1 x1 x7 x8 x9 x10 x55 x56 w=wI K x1 x7 x8 x9 x10 x55 x56 w E1:=aI λσ=>kR
def SZ:Prop:=
 ev prog (Instr.box 134 x0) w λa w=>
 fA 134 a 1 w λb w=>
 lD 3 b w λc w=>
 cL 162 (pA #[c]) w λd w=>
 fA 134 a 0 w λe w=>
 lD 106 e w λf w=>
 bn prog f "Load" (pA #[d]) w fun g w=>
 cL 175 (pA #[g]) w λh w=>
 eX h 0 w λi w=>
 eX h 1 w λj w=>
 ev prog (Instr.alloc 132 true (.tuple #[])) w λl w=>
 sD 132 l i w λw=>
 ev prog (Op.unary .not j) w λm w=>
 gd m false (λk=>fA 132 l 0 w k) w λn w=>
 gd m false (λk=>lD 3 n w k) w λo w=>
 gd m false (λk=>fA 134 a 2 w k) w λp w=>
 gd m false (λk=>fA 132 p 0 w k) w λq w=>
 gd m false (λk=>lD 3 q w k) w λs w=>
 gd m false (λk=>bT .neq 3 26 29 o s w k) w λt w=>
 au m (.bool true) t w λv w=>
 gd v false (λk=>fA 132 l 1 w k) w λy w=>
 gd v false (λk=>lD 3 y w k) w λz w=>
 gd v false (λk=>fA 134 a 2 w k) w λa0 w=>
 gd v false (λk=>fA 132 a0 1 w k) w λa1 w=>
 gd v false (λk=>lD 3 a1 w k) w λa2 w=>
 gd v false (λk=>bT .neq 3 34 37 z a2 w k) w λa3 w=>
 au v (.bool true) a3 w λa4 w=>
 ae a4 (
 K (.bool false) w) (
 J0 K a d (.int .u64 ((2:Nat):Int)) w)
def Of:=cA1 Tryz.func182 lU.2 SZ
end
section
variable {w w':al}
def cD (l g:Nat):List Ins:=az [(l*64,sealN (hdX (-1) (-1) g))]
def dh (ws:List (Nat×Nat)):0<(az ws).length:=by simp [az];omega
def J4 (hG:bq w) (l g:Nat) (hl:l<=4064) (hg:g≠0) (a:g<65536) (K:K1) (hK:∀v' w',SlO w' 220 3 v' (cD l g).length (inL (cD l g))->Ext w w'->bw w.heap.size v'->K (.tuple #[v',.int .i64 0]) w'):
  ad prog 155 #[.int .i64 (l:Int),.int .u16 (g:Int)] w K:=by
 refine NH _ _ _ _ ?_;unfold Sm;have hw:∀(w1:al) (K:K1),Ext w w1->ad prog 163 #[.agg #[.int .i64 (-1),.int .i64 (-1),.int .u16 (g:Int)]] w1 K=K (.int .u64 ((sealN (hdX (-1) (-1) g):Nat):Int)) ((w1.alloc (hdO (-1) (-1) g)).alloc (mD (hdX (-1) (-1) g))):=λw1 K he=>JM (-1) (-1) g w1 K (hG.ext he) a oM oM oM oM
 (repeat' first|refine ak (λ_=> ?_) (λ_=> ?_)|refine am ?_ ?_|refine rN @i6 @cC hw @ab ?_|exact Xo @i6 @cC hw @ab|fail)
 refine gk [(l*64,sealN (hdX (-1) (-1) g))] _ ?_ (by simp) (by simp) ?_ _ (λv' w' hs he hn=> ?_)
 ·exact (SlO.lit' _ 98 2 1 (wrL [(l*64,sealN (hdX (-1) (-1) g))]) rfl (by decide) (by simp only [RZ])).ext (Ext.refl _).drew
 ·intro x hx;simp only [cF] at hx;subst hx;simp only;omega
 ·refine hK v' w' hs (Ext.trans xZ he) (λb hb=>db ?_ (hn b hb));simp only [RZ];omega
def cT (l:Nat) (c:Int) (g:Nat):List (Nat×Nat):=(List.range (perS c).toNat).map (λ(i:Nat)=>(l*64+(lP c (i:Int)).toNat*8,sealN (dg g 0 176)))++(List.range 7).map (λk=>(l*64+(k+1)*8,0))
def planI (l:Nat) (c o:Int) (g:Nat):List Ins:=az (cT l c g)++az [(l*64,sealN (hdX c o g))]
def Og (l:Nat) (c:Int) (g:Nat):(cT l c g).length=(perS c).toNat+7:=by simp [cT]
def S0 (hG:bq w) (l:Nat) (c o:Int) (g:Nat) (hl:l<=4064) (a:0<=c) (hc:c<5) (U:0<=o) (ho:o<8) (hg:g≠0) (t:g<65536) (K:K1) (hK:∀v' w',SlO w' 220 3 v' (planI l c o g).length (inL (planI l c o g))->Ext w w'->bw w.heap.size v'->K (.tuple #[v',.int .i64 0]) w'):
  ad prog 118 #[.int .i64 (l:Int),.agg #[.int .i64 c,.int .i64 o,.int .u16 (g:Int)]] w K:=by
 refine ND _ _ _ _ ?_;unfold Si;have hp:=aJ a hc;have W:=aW a hc;have hf:∀(w1:al) (K:K1),Ext w w1->ad prog 159 #[.agg #[.int .i64 c,.int .i64 o,.int .u16 (g:Int)]] w1 K=K (.bool true) (w1.alloc (hdO c o g)):=λw1 K he=>by
  rw [gA c o g w1 K (hG.ext he)];have:jG c o=true:=by simp [jG];omega
  rw [this]
 have hb:∀(w1:al) (K:K1),Ext w w1->ad prog 160 #[.agg #[.int .u16 (g:Int),.int .u8 ((0:Nat):Int),.int .u8 ((176:Nat):Int)]] w1 K=K (.int .u64 ((sealN (dg g 0 176):Nat):Int)) ((w1.alloc (ij g 0 176)).alloc (mD (dg g 0 176))):=λw1 K he=>JL g 0 176 w1 K (hG.ext he) t oM oM
 have C:∀(w1:al) (K:K1),Ext w w1->ad prog 135 #[.int .i64 c] w1 K=K (.int .i64 (perS c)) w1:=λw1 K he=>bY c w1 K (hG.ext he)
 have hw:∀(w1:al) (K:K1),Ext w w1->ad prog 163 #[.agg #[.int .i64 c,.int .i64 o,.int .u16 (g:Int)]] w1 K=K (.int .u64 ((sealN (hdX c o g):Nat):Int)) ((w1.alloc (hdO c o g)).alloc (mD (hdX c o g))):=λw1 K he=>JM c o g w1 K (hG.ext he) t oM oM oM oM
 have R:∀(i:Nat) (w1:al) (K:K1),Ext w w1->i<(perS c).toNat->ad prog 161 #[.int .i64 c,.int .i64 (i:Int)] w1 K=K (.tuple #[.int .i64 (((lP c (i:Int)).toNat:Nat):Int),.int .i64 0]) w1:=λi w1 K he hi=>by
  have hb:=bF a hc (show 0<=(i:Int) by omega) oM;rw [Ch c i w1 K (hG.ext he) a hc oM oM,show (((lP c (i:Int)).toNat:Nat):Int)=lP c i by omega]
 (repeat' first|refine ak (λ_=> ?_) (λ_=> ?_)|refine am ?_ ?_|refine dY @i6 @cC hf hb C @ab ?_|exact Xp @i6 @cC hf hb C @ab|fail)
 have e1:Ext w (w.alloc (.cells #[.int .i64 c,.int .i64 o,.int .u16 (g:Int)] 132)):=Ext.alloc_self _ _;have e:∀w',Ext (w.alloc (.cells #[.int .i64 c,.int .i64 o,.int .u16 (g:Int)] 132)) w'->w'.cell? ⟨w.heap.size,0,none⟩=some (.int .i64 c)/\w'.cell? ⟨w.heap.size,1,none⟩=some (.int .i64 o)/\w'.cell? ⟨w.heap.size,2,none⟩=some (.int .u16 (g:Int)):=by
  intro w' he;have:∀i,w'.cell? ⟨w.heap.size,i,none⟩=_:=λi=>he.cell _ i (by simp only [RZ];omega)
  refine ⟨?_,?_,?_⟩<;>(rw [this,aO _ _ _ _ _ rfl];rfl)
 generalize hw1:w.alloc (.cells #[.int .i64 c,.int .i64 o,.int .u16 (g:Int)] 132)=w1 at*;have s1:w.heap.size<w1.heap.size:=by rw [<-hw1];simp only [RZ];omega
 generalize hA:(List.range (perS c).toNat).map (λ(i:Nat)=>(l*64+(lP c (i:Int)).toNat*8,sealN (dg g 0 176)))=A;have v:A.length=(perS c).toNat:=by rw [<-hA];simp
 generalize hB:(List.range 7).map (λk=>(l*64+(k+1)*8,0))=B;have r:B.length=7:=by rw [<-hB];simp
 have q:cT l c g=A++B:=by unfold cT;rw [hA,hB]
 have E:perS c=(((perS c).toNat:Nat):Int):=oM;generalize hn:(perS c).toNat=n at*;rw [E];apply zD (I:=λx z w'=>∃i:Nat,z= .int .i64 (i:Int)/\i<=n/\SlO w' 98 2 x i (wrL (A.take i))/\Frm Nob w1 w'/\bw w1.heap.size x) (μ:=λ_ z _=>n-(intOf z).toNat)
 ·exact ⟨0,rfl,by omega,SlO.nil _ _ _,Frm.of_ext xZ,λb hb=>by cases hb⟩
 ·intros;rename_i w2 hI E1 hE;obtain ⟨i,rfl,hi,sp,f2,n2⟩:=hI;have e2:Ext w1 w2:=f2.to_ext (λ_ _ h=>h);have a0:Ext w w2:=e1.trans e2;obtain ⟨q0,q1,q2⟩:=e w2 e2;obtain ⟨pa,pc,rfl,S⟩:=sp.isS';have Y:w.heap.size<w2.heap.size:=cj s1 e2.size;unfold vF;by_cases hin:i<n
  ·have Q:=bF a hc (show 0<=(i:Int) by omega) oM;generalize ho2:(lP c (i:Int)).toNat=oi at*;have G:A[i]? =some (l*64+oi*8,sealN (dg g 0 176)):=by rw [<-hA];simp [hin,ho2]
   have D:∀(w1:al) (K:K1),Ext w w1->ad prog 161 #[.int .i64 c,.int .i64 (i:Int)] w1 K=K (.tuple #[.int .i64 (oi:Int),.int .i64 0]) w1:=λw1 K he=>by rw [R i w1 K he hin,ho2]
   refine dY q0 q1 q2 D @cC @ab ?_;refine bD cv (w0:=w1) (sp.ext xZ) (f2.ext xZ) n2 (m:=1) (news:=wrL [(l*64+oi*8,sealN (dg g 0 176))]) (by simp [wrL]) ?_ rfl oM oM oM (λv' w3 p L n3 _ _=> ?_)
   ·intro j u hj;rw [bl,aO _ _ _ _ _ (by simp only [RZ])];simpa [wrL,u64] using hj
   refine zS0 ?_;apply hE
   ·refine ⟨i+1,by simp,by omega,?_,L,n3⟩;rw [cG G,bJ];exact p
   ·simp [intOf];omega
  ·have:i=n:=oM;subst this;have H:A.take i=A:=by rw [<-v,dc]
   rw [H] at sp;refine zS2 @Gv @vE.eq_1 ?_;apply zE (I:=λx z w'=>∃k:Nat,z= .int .u64 ((k+1:Nat):Int)/\k<=7/\SlO w' 98 2 x (i+k) (wrL (A++B.take k))/\Frm Nob w1 w'/\bw w1.heap.size x) (μ:=λ_ z _=>8-(intOf z).toNat)
   ·exact ⟨0,rfl,by omega,by simpa using sp,f2,n2⟩
   ·intros;rename_i w3 O E3 F;obtain ⟨k,rfl,hk,d,f3,n3⟩:=O;have e3:Ext w1 w3:=f3.to_ext (λ_ _ h=>h);have s:Ext w w3:=e1.trans e3;obtain ⟨q0,q1,q2⟩:=e w3 e3;obtain ⟨Z,X,rfl,T⟩:=d.isS';have V:w.heap.size<w3.heap.size:=cj s1 e3.size;unfold vG;by_cases hk7:k<7
    ·have P:B[k]? =some (l*64+(k+1)*8,0):=by rw [<-hB];simp [hk7]
     refine fC @cC @ab ?_;refine bD cv (w0:=w1) (d.ext xZ) (f3.ext xZ) n3 (m:=1) (news:=wrL [(l*64+(k+1)*8,0)]) (by simp [wrL]) ?_ rfl oM oM oM (λv' w4 p N n4 _ _=> ?_)
     ·intro j u hj;rw [bl,aO _ _ _ _ _ (by simp only [RZ])];simpa [wrL,u64] using hj
     refine zS0 ?_;apply F
     ·refine ⟨k+1,by simp,by omega,?_,N,n4⟩;rw [cG P,<-da,bJ];exact p
     ·simp [intOf];omega
    ·have:k=7:=oM;subst this;have M:B.take 7=B:=by rw [<-r,dc]
     rw [M,<-q] at d;have y:i+7=(cT l c g).length:=by rw [q];simp [v,r]
     rw [y] at d
     (repeat' first|refine ak (λ_=> ?_) (λ_=> ?_)|refine am ?_ ?_|refine fp q0 q1 q2 hw @cC @ab @si @oz.eq_1 ?_|exact BY q0 q1 q2 hw @cC @ab @si @oz.eq_1|fail)
     refine gk [(l*64,sealN (hdX c o g))] _ ?_ (by simp) (by simp) ?_ _ (λv4 w4 s4 e4 n4=> ?_)
     ·exact (SlO.lit' _ 98 2 1 (wrL [(l*64,sealN (hdX c o g))]) rfl (by decide) (by simp only [RZ])).ext (Ext.refl _).drew
     ·intro x hx;simp only [cF] at hx;subst hx;simp only;omega
     have f:Ext w3 w4:=Ext.trans xZ e4
     try simp (disch:=try exact dZ) only [↓RBp,↓RA,↓reduceIte,Nat.reduceAdd,Nat.reduceMul,Nat.reduceEqDiff,RB,RX,RA2]
     rw [y];refine gk (cT l c g) _ (d.ext f) oM oM ?_ _ (λv5 w5 s5 e5 n5=> ?_)
     ·rw [q];intro x hx;rcases List.mem_append.1 hx with hx|hx
      ·rw [<-hA] at hx;obtain ⟨j,hj,rfl⟩:=List.mem_map.1 hx;have Q:=bF a hc (show 0<=(j:Int) by omega) (by rw [fn] at hj;omega);simp only;omega
      ·rw [<-hB] at hx;obtain ⟨j,hj,rfl⟩:=List.mem_map.1 hx;rw [fn] at hj;simp only;omega
     try simp (disch:=try exact dZ) only [↓RBp,↓RA,↓reduceIte,Nat.reduceAdd,Nat.reduceMul,Nat.reduceEqDiff,RB,RX,RA2]
     have l1:=aR (cT l c g);have l2:=aR [(l*64,sealN (hdX c o g))];simp only [cm] at l2;refine zO _ _ v5 v4 s5 (s4.ext e5) (dh _) (dh _) oM oM _ (λv6 w6 s6 e6 n6=> ?_);have J:Ext w w6:=((s.trans f).trans e5).trans e6;refine hK v6 w6 s6 J (λb hb=>db ?_ (n6 b hb));exact ((s.trans f).trans e5).size
end
def bL (l:List Nat):List aB:=l.map u64
section
variable {w w':al} {Y:Lay} {D D':DS}
def sO (l:List Nat):bX (l.map u64)=true:=by
 induction l with
 |nil=>rfl
 |cons a l ih=>simp [bX,aj,ih]
def oX (l:List Nat) (b o cap:Nat) (hx:∀j u,(l.map u64)[j]? =some u->w.cell? ⟨b,o+j,none⟩=some u) (hb:b<w.heap.size) (h0:0<l.length) (hl:l.length<1099511627776) (K:K1)
  (hK:∀b' c' w',Ext w w'->af w' b' 26 l.length (λi=>u64 (l.getD i 0))->w.heap.size<=b'->l.length<=c'->K (.slice (some ⟨b',0,none⟩) l.length c') w'):ad prog 148 #[.slice (some ⟨b,o,none⟩) l.length cap] w K:=by
 refine M8 _ _ _ ?_;unfold Rh;refine zS0 ?_;refine ck cZ (SlO.lit0 w 26 1) (news:=l.map u64) (by simp) ?_ (sO l) h0 oM oM (λv' w' hv hf hn ho=> ?_)
 ·intro j u hj;rw [fW _ _ _ _ hb];exact hx j u hj
 ·have he:Ext w w':=Frm.to_ext (F:=λb=>b=w.heap.size) (((Frm.of_ext (Ext.alloc_self w _)).trans hf (λx _ e=>by injection e with e;exact e.symm))) (λb hb=>by omega);have c:=hv.2;rw [bl] at c;rcases c with ⟨_,e⟩|⟨b',o',c',a,rfl,hh,h1,h2,h3,h4⟩
  ·omega
  ·have d:o'=0:=by rcases ho with h|h<;>simpa [F0] using h
   subst d;refine hK b' c' w' he ⟨a,hh,by omega,?_⟩ ?_ h1
   ·intro i hi;have h6:=h4 i (u64 (l.getD i 0)) (by simp [ew,aA hi,av]);simpa using h6
   ·rcases hn b' rfl with h|h
    ·have h':w.heap.size=b':=by simpa [Value.ownBlock] using h
     omega
    ·rw [size_alloc] at h;omega
def DS.init (n:Nat) (l:List Nat):DS:={n:=n,cur:=λi=>l.getD i 0,pers:=λi=>l.getD i 0,done:=λ_=>0,hist:=λ_=> [],off:=false,armed:=false,left:=0,exe:=0,err:=λ_=>0,notes:=λ_ _=>none}
def aH.init (n:Nat) (l:List Nat) (h0:0<n) (hn:n<=4096) (hl:∀x∈l,x<18446744073709551616):aH (DS.init n l):=by
 have hg:∀i,l.getD i 0<18446744073709551616:=by
  intro i;rw [av]
  cases h:l[i]? with
  |none=>simp
  |some x=>exact hl x (fF h)
 exact ⟨h0,hn,λi _=>hg i,λi _=>hg i,λl _ o v h=>by simp [DS.init] at h,λl _=>cA _,⟨Int.le_refl _,by show (0:Int)<_;omega⟩,λid _ k p h=>by simp [DS.init] at h⟩
def Oh:Option Obj->Nat
 |some (.cells _ t _)=>t
 |some (.map _ _)=>1000000
 |_=>2000000
def S4 (b cb cc lb n:Nat):Array aB:= #[.slice (some ⟨b,0,none⟩) (8*n) (8*n),.slice (some ⟨cb,0,none⟩) (8*n) cc,.slice (some ⟨lb,0,none⟩) n n,.pointer none,.pointer none,.pointer none,.pointer none,.pointer none,.pointer none,.pointer none,.pointer none,.bool false,.bool false,.int .i64 0,.int .u64 ((0:Nat):Int)]
structure Prt (w0 w:al) (d b cb cc lb n:Nat) (tb nb:Nat->Nat) (i:Nat):Prop where
 dev:af w d 155 15 (λj=>if 3<=j/\j<3+i then .pointer (some ⟨tb (j-3),0,none⟩) else (S4 b cb cc lb n).getD j undef)
 th:∀j,j<i->af w (tb j) 147 4 (λq=>if q=0 then .pointer (some ⟨d,0,none⟩) else if q=1 then .int .i64 (j:Int) else if q=2 then .int .i64 0 else .map (some (nb j)))
 nt:∀j,j<i->w.heap[nb j]? =some (.map #[] 0)
 lo:∀j,j<i->d<tb j/\d<nb j
 inj:∀j q,j<i->q<i->(tb j=tb q\/nb j=nb q)->j=q
 ext:Frm (λx=>x=d) w0 w
def Zx (l:List Nat) (n b cb cc lb d:Nat) (w w1:al) (hd:d=w1.heap.size) (h0:0<n) (hn:n<=4096) (hl:l.length=8*n) (hb:af w b 26 (8*n) (λi=>u64 (l.getD i 0))) (he:Ext w w1) (k:af w1 cb 26 (8*n) (λi=>u64 (l.getD i 0))) (h1:w.heap.size<=cb) (p:af w1 lb 209 (2*n) (λi=>(#[Value.int .u64 ((0:Nat):Int),.slice none 0 0])[i%2]!)) (h2:w.heap.size<=lb) (K:K1)
  (hK:∀w' Y,Ext w w'->Dv w' Y (DS.init n l)->(∀x,Y.F x->x=b\/w.heap.size<=x)->(Y.dt=Y.tb/\∀i,Y.ids i=i)->K (.pointer (some ⟨Y.d,0,none⟩)) w'):qK K (.pointer (some ⟨d,0,none⟩)) (w1.alloc (.cells (S4 b cb cc lb n) 155)):=by
 rw [Gj];unfold vr;apply zk (I:=λx w'=>∃(i:Nat) (tb nb:Nat->Nat),x= .int .i64 (i:Int)/\i<=8/\Prt (w1.alloc (.cells (S4 b cb cc lb n) 155)) w' d b cb cc lb n tb nb i) (μ:=λx _=>8-(intOf x).toNat)
 ·refine ⟨0,λ_=>0,λ_=>0,rfl,by omega,⟨?_,λj hj=>by omega,λj hj=>by omega,λj hj=>by omega,λj q hj=>by omega,Frm.refl _ _⟩⟩;subst hd;refine (af.new w1 (S4 b cb cc lb n).toList 155).congr (λj hj=> ?_);rw [if_neg oM];simp [av]
 ·intros;rename_i w2 hI E1 hE;obtain ⟨i,tb,nb,rfl,hi,hp⟩:=hI;unfold vv;by_cases hi8:i<8
  ·have c1:=hp.dev.cell (i:=3+i) oM;have z1:=hp.dev.frz;have lt:=hp.dev.lt;refine zS2 c1 z1 ?_;have tl:∀j,j<i->tb j<w2.heap.size:=λj hj=>(hp.th j hj).lt
   have nl:∀j,j<i->nb j<w2.heap.size:=λj hj=>aF (hp.nt j hj)
   apply hE
   ·refine ⟨i+1,λj=>if j=i then w2.heap.size+1 else tb j,λj=>if j=i then w2.heap.size else nb j,by simp,by omega,⟨?_,?_,?_,?_,?_,?_⟩⟩
    ·refine (((hp.dev.set _ (i:=3+i) oM).alloc _).alloc _).congr (λj hj=> ?_);by_cases e:j=3+i
     ·subst e;rw [if_pos rfl,if_pos oM,if_pos oM]
     ·rw [if_neg e];by_cases e2:3<=j/\j<3+i
      ·rw [if_pos e2,if_pos oM,if_neg oM]
      ·rw [if_neg e2,if_neg oM]
    ·intro j hj;by_cases e:j=i
     ·subst e;simp only [if_true];have f:=af.new ((w2.setCell ⟨d,3+j,none⟩ (.pointer (some ⟨w2.heap.size+1,0,none⟩))).alloc (.map #[] 0)) [.pointer (some ⟨d,0,none⟩),.int .i64 (j:Int),.int .i64 0,.map (some w2.heap.size)] 147;rw [size_alloc,fX] at f;refine f.congr (λq hq=> ?_);have s:q=0\/q=1\/q=2\/q=3:=by simp at hq;omega
      rcases s with rfl|rfl|rfl|rfl<;>simp
     ·have c:j<i:=oM;simp only [e,if_false];exact (((hp.th j c).set_ne _ (by show tb j≠d;have:=(hp.lo j c).1;omega)).alloc _).alloc _
    ·intro j hj;by_cases e:j=i
     ·subst e;simp only [if_true];rw [bg _ (by rw [size_alloc,fX];omega)];have:=aL (w2.setCell ⟨d,3+j,none⟩ (.pointer (some ⟨w2.heap.size+1,0,none⟩))) (.map #[] 0);rw [fX] at this;exact this
     ·have c:j<i:=oM;simp only [e,if_false];rw [bg _ (by rw [size_alloc,fX];have:=nl j c;omega),bg _ (by rw [fX];exact nl j c),ff _ (by show nb j≠d;have:=(hp.lo j c).2;omega)];exact hp.nt j c
    ·intro j hj;by_cases e:j=i
     ·simp only [e,if_true];omega
     ·simp only [e,if_false];exact hp.lo j oM
    ·intro j q hj hq hh;by_cases e:j=i
     ·by_cases e2:q=i
      ·omega
      ·have a1:=tl q oM;have a2:=nl q oM;simp only [e,e2,if_true,if_false] at hh;omega
     ·by_cases e2:q=i
      ·have a1:=tl j oM;have a2:=nl j oM;simp only [e,e2,if_true,if_false] at hh;omega
      ·simp only [e,e2,if_false] at hh;exact hp.inj j q oM oM hh
    ·exact ((hp.ext.set _ (λ_=>rfl)).alloc _).alloc _
   ·simp [intOf];omega
  ·have:i=8:=oM;subst this;refine zS2 @Gk @vt.eq_1 ?_;have ha:=Frm.of_ext (F:=λx=>x=d) (Ext.alloc_self w1 (.cells (S4 b cb cc lb n) 155));have hf:=ha.trans hp.ext (λ_ _ h=>h);have m:Ext w w2:=Frm.to_ext (F:=λx=>x=d) ((Frm.of_ext he).trans hf (λ_ _ h=>h)) (λx hx=>by have:=he.size;omega);have c1:=hb.ext m;have c2:=k.frm hf (by have:=k.lt;omega);have c3:=p.frm hf (by have:=p.lt;omega);have t:=hb.lt;have v:=he.size;refine hK w2 {n:=n,d:=d,pb:=b,cb:=cb,pc:=8*n,cc:=cc,lb:=lb,tb:=tb,nb:=nb,dt:=tb,ids:=λi=>i,hv:=λ_=> .slice none 0 0} m ⟨rfl,?_,c1,c2,?_,?_,?_,?_,?_⟩ ?_ ⟨rfl,λ_=>rfl⟩
   ·refine hp.dev.congr (λj hj=> ?_);by_cases e:3<=j/\j<11
    ·rw [if_pos oM];unfold jB;rw [if_neg oM,if_neg oM,if_neg oM,if_pos oM]
    ·rw [if_neg oM];have c:j=0\/j=1\/j=2\/j=11\/j=12\/j=13\/j=14:=oM;rcases c with rfl|rfl|rfl|rfl|rfl|rfl|rfl<;>rfl
   ·refine c3.congr (λj hj=> ?_);have c:j%2=0\/j%2=1:=oM;rcases c with e|e<;>simp [om,DS.init,e]
   ·intro q hq;exact SlO.nil _ _ _
   ·intro j hj;refine (hp.th j hj).congr (λq hq=> ?_);simp only [thF,DS.init]
   ·intro j hj;refine ⟨#[],0,?_⟩;have:ntF (DS.init n l) j=λ_=>none:=by funext q;rfl
    rw [this];exact lz.empty (hp.nt j hj)
   ·obtain ⟨a1,o1,_⟩:=hp.dev;obtain ⟨a2,o2,_⟩:=c1;obtain ⟨a3,o3,_⟩:=c2;obtain ⟨a4,o4,_⟩:=c3;have u:b≠cb:=oM;intro r r' x hr g;have key:∀r,Lay.blk {n:=n,d:=d,pb:=b,cb:=cb,pc:=8*n,cc:=cc,lb:=lb,tb:=tb,nb:=nb,dt:=tb,ids:=λi=>i,hv:=λ_=> .slice none 0 0} r=some x->
      (r= .dev/\Oh w2.heap[x]? =155)\/(r= .pe/\Oh w2.heap[x]? =26/\x=b)\/(r= .cu/\Oh w2.heap[x]? =26/\x=cb)\/(r= .li/\Oh w2.heap[x]? =209)\/(∃j,j<8/\r= .th j/\Oh w2.heap[x]? =147/\x=tb j)\/(∃j,j<8/\r= .nt j/\Oh w2.heap[x]? =1000000/\x=nb j):=by
     intro r hr
     cases r with
     |dev=>simp [Lay.blk] at hr;subst hr;exact .inl ⟨rfl,by rw [o1];rfl⟩
     |pe=>simp [Lay.blk] at hr;subst hr;exact .inr (.inl ⟨rfl,by rw [o2];rfl,rfl⟩)
     |cu=>simp [Lay.blk] at hr;subst hr;exact .inr (.inr (.inl ⟨rfl,by rw [o3];rfl,rfl⟩))
     |li=>simp [Lay.blk] at hr;subst hr;exact .inr (.inr (.inr (.inl ⟨rfl,by rw [o4];rfl⟩)))
     |th j=>
      simp [Lay.blk] at hr;obtain ⟨a,o,_⟩:=hp.th j hr.1;exact .inr (.inr (.inr (.inr (.inl ⟨j,hr.1,rfl,by rw [<-hr.2,o];rfl,hr.2.symm⟩))))
     |nt j=>simp [Lay.blk] at hr;exact .inr (.inr (.inr (.inr (.inr ⟨j,hr.1,rfl,by rw [<-hr.2,hp.nt j hr.1];rfl,hr.2.symm⟩))))
     |hs q=>simp [Lay.blk,Value.ownBlock] at hr
    rcases key r hr with ⟨rfl,e1⟩|⟨rfl,e1,f1⟩|⟨rfl,e1,f1⟩|⟨rfl,e1⟩|⟨j,hj,rfl,e1,f1⟩|⟨j,hj,rfl,e1,f1⟩<;>
    rcases key r' g with ⟨rfl,e2⟩|⟨rfl,e2,f2⟩|⟨rfl,e2,f2⟩|⟨rfl,e2⟩|⟨q,hq,rfl,e2,f2⟩|⟨q,hq,rfl,e2,f2⟩<;>
    first
     |rfl
     |(exfalso;clear hr g key hK hl;omega)
     |(rw [hp.inj j q hj hq (.inl (f1.symm.trans f2))])
     |(rw [hp.inj j q hj hq (.inr (f1.symm.trans f2))])
   ·rintro x ⟨r,hr⟩
    cases r with
    |dev=>simp [Lay.blk] at hr;omega
    |pe=>simp [Lay.blk] at hr;omega
    |cu=>simp [Lay.blk] at hr;omega
    |li=>simp [Lay.blk] at hr;omega
    |th j=>simp [Lay.blk] at hr;have:=(hp.lo j hr.1).1;omega
    |nt j=>simp [Lay.blk] at hr;have:=(hp.lo j hr.1).2;omega
    |hs q=>simp [Lay.blk,Value.ownBlock] at hr
def acp (l:List Nat) (n b:Nat) (h0:0<n) (hn:n<=4096) (hl:l.length=8*n) (hc:af w b 26 (8*n) (λi=>u64 (l.getD i 0))) (K:K1)
  (hK:∀w' Y,Ext w w'->Dv w' Y (DS.init n l)->(∀x,Y.F x->x=b\/w.heap.size<=x)->(Y.dt=Y.tb/\∀i,Y.ids i=i)->K (.pointer (some ⟨Y.d,0,none⟩)) w'):ad prog 111 #[.slice (some ⟨b,0,none⟩) (8*n) (8*n)] w K:=by
 have hx:∀(w:al) (hc:af w b 26 (8*n) (λi=>u64 (l.getD i 0))) j u,(l.map u64)[j]? =some u->w.cell? ⟨b,0+j,none⟩=some u:=by
  intro w hc j u hj;rw [bl];have e:=(List.getElem?_eq_some_iff.1 hj).1;rw [df] at e;rw [hc.cell oM,<-hj];simp [ew,aA e,av]
 refine M5 _ _ _ ?_;unfold Re;have hd:=hc.drew;have e8:((8*n:Nat):Int)/8=(n:Int):=oM
 (repeat' first|refine ak (λ_=> ?_) (λ_=> ?_)|refine am ?_ ?_|refine zS1 e8 ?_|exact yS1 e8|fail)
 ·rw [<-hl];refine oX l b 0 _ (hx _ hd) hd.lt oM oM _ (λb' c' w1 he a c h=> ?_);rw [hl] at a ⊢;have f:=a.lt
  (repeat' first|refine ak (λ_=> ?_) (λ_=> ?_)|refine am ?_ ?_|refine zS1 e8 ?_|exact yS1 e8|fail)
  refine Zx l n b b' c' w1.heap.size _ w (w1.alloc (.cells (mv (.agg #[.int .u64 ((0:Nat):Int),.slice none 0 0]) (n*2)) 209)) (by rw [size_alloc]) h0 hn hl hc (((Ext.refl w).drew.trans he).alloc _) (a.alloc _) c ?_ (by have:=he.size;exact this) K hK;rw [ep 2 n];exact gb w1 _ (n*2) _
 ·have hd2:=(hc.alloc (.cells (mv (.agg #[.int .u64 ((0:Nat):Int),.slice none 0 0]) (n*2)) 209)).drew;rw [<-hl];refine oX l b 0 _ (hx _ hd2) hd2.lt oM oM _ (λb' c' w1 he a c h=> ?_);rw [hl] at a ⊢;have f:=a.lt;have g:=(gb w (.agg #[.int .u64 ((0:Nat):Int),.slice none 0 0]) (n*2) 209).drew.ext he
  (repeat' first|refine ak (λ_=> ?_) (λ_=> ?_)|refine am ?_ ?_|refine zS1 e8 ?_|exact yS1 e8|fail)
  refine Zx l n b b' c' w.heap.size _ w w1 rfl h0 hn hl hc ((Ext.alloc_self w _).drew.trans he) a (by have h9:=c;rw [oa,size_alloc] at h9;omega) ?_ (cA _) K hK;rw [ep 2 n];exact g
end
section
variable {w w':al} {Y:Lay} {D D':DS}
def DS.zero (n:Nat):DS:=DS.init n (List.replicate (8*n) 0)
def aH.zero (n:Nat) (h0:0<n) (hn:n<=4096):aH (DS.zero n):=aH.init n _ h0 hn (λx hx=>by rw [List.eq_of_mem_replicate hx];decide)
def S5 (n i:Nat):(DS.zero n).cur i=0:=by
 show (List.replicate (8*n) 0).getD i 0=0;rw [av,List.getElem?_replicate];split<;>rfl
def acq (n:Nat) (h0:0<n) (hn:n<=4096) (K:K1) (hK:∀w' Y,Ext w w'->Dv w' Y (DS.zero n)->(∀x,Y.F x->w.heap.size<=x)->(Y.dt=Y.tb/\∀i,Y.ids i=i)->K (.tuple #[.pointer (some ⟨Y.d,0,none⟩),.int .i64 0]) w'):ad prog 61 #[.int .i64 (n:Int)] w K:=by
 refine QS _ _ _ ?_;unfold Zg;have e1:((n:Int)*8)=((8*n:Nat):Int):=oM
 (repeat' first|refine ak (λ_=> ?_) (λ_=> ?_)|refine am ?_ ?_|refine zS1 e1 ?_|exact yS1 e1|fail)
 have hc:=gb w (.int .u64 ((0:Nat):Int)) (8*n) 26;have e2:(λi=>(Value.int .u64 ((0:Nat):Int)).cells[i%(Value.int .u64 ((0:Nat):Int)).cells.size]!)=λi=>u64 ((List.replicate (8*n) 0).getD i 0):=by
  funext i;have:=S5 n i;show _=u64 ((DS.zero n).cur i);rw [this];simp [Value.cells,Nat.mod_one]
 rw [e2] at hc;refine acp (List.replicate (8*n) 0) n w.heap.size h0 hn (by simp) hc _ (λw' Y he hd hF a=> ?_);refine hK w' Y ((Ext.alloc_self w _).trans he) hd (λx hx=> ?_) a;rcases hF x hx with h|h
 ·omega
 ·rw [size_alloc] at h;omega
def DS.arm (D:DS) (n:Int):DS:=if D.off=true then D else {D with armed:=decide (0<=n),left:=if n<0 then 0 else n}
def S6 (Y:Lay) (D:DS) (b:Bool) (j:Nat):jB Y {D with armed:=b} j=if j=12 then .bool b else jB Y D j:=by
 unfold jB;by_cases h:j=12
 ·subst h;simp
 ·simp [h]
def Dv.setArm (h:Dv w Y D) (b:Bool):Stp w Y (w.setCell ⟨Y.d,12,none⟩ (.bool b)) Y {D with armed:=b}:=h.setDev 12 _ oM (λj hj=>S6 Y D b j) ⟨rfl,rfl,rfl,rfl,rfl,rfl,rfl⟩
def acr (h:Dv w Y D) (n:Int) (K:K1) (hK:∀w',Stp w Y w' Y (D.arm n)->K (.tuple #[]) w'):ad prog 54 #[.pointer (some ⟨Y.d,0,none⟩),.int .i64 n] w K:=by
 refine QR _ _ _ _ ?_;unfold Zf;unfold DS.arm at hK
 (repeat' first|refine ak (λ_=> ?_) (λ_=> ?_)|refine am ?_ ?_|refine zS1 h.R ?_|exact yS1 h.R|fail)
 ·rename_i e;rw [if_pos e] at hK;exact hK _ (Stp.refl h)
 ·rename_i e;rw [if_neg e] at hK;have h2:=h.setArm (decide (0<=n));refine zS1 h2.dv.R ?_;exact hK _ (h2.trans (h2.dv.setLeft _))
end
abbrev chV (Y:Lay) (l:Nat) (c o:Int) (g:Nat):aB:= .agg #[.iface 31 (.pointer (some ⟨Y.tb 0,0,none⟩)),.int .i64 (l:Int),.int .i64 c,.int .i64 o,.int .u16 (g:Int)]
abbrev chO (Y:Lay) (l:Nat) (c o:Int) (g:Nat):Obj:= .cells #[.iface 31 (.pointer (some ⟨Y.tb 0,0,none⟩)),.int .i64 (l:Int),.int .i64 c,.int .i64 o,.int .u16 (g:Int)] 134
structure Cx (w:al) (Y:Lay) (D:DS) (l:Nat) (c:Int):Prop where
 dv:Dv w Y D
 gd:aH D
 gl:bq w
 on:D.off=false
 hl:l+32<=D.n
 c0:0<=c
 c5:c<5
section
variable {w w':al} {Y:Lay} {D:DS} {l:Nat} {c o:Int} {g:Nat}
def Cx.ext (h:Cx w Y D l c) (e:Ext w w'):Cx w' Y D l c:=⟨h.dv.ext e,h.gd,h.gl.ext e,h.on,h.hl,h.c0,h.c5⟩
def Cx.n (h:Cx w Y D l c):D.n<=4096:=h.gd.n
@[irreducible] def wd (D:DS) (l i:Nat):Nat:=D.cur (l*8+i)
def aS (x i:Nat):Bool:=decide (x/2^i%2=1)
def bG (x:Nat):Nat:=if isS x then gX x else 0
def bK (x:Nat):Nat:=if isS x then kX x else 0
def bS (x:Nat):Nat:=if isS x then sX x else 0
@[irreducible] def offN (c:Int) (i:Nat):Nat:=(lP c (i:Int)).toNat
def aK {c:Int} {i:Nat} (h0:0<=c) (h5:c<5) (hi:(i:Int)<perS c):lP c (i:Int)=(offN c i:Int)/\8<=offN c i/\offN c i<256:=by
 have:=bF h0 h5 (show 0<=(i:Int) by omega) hi;have hw:=aW h0 h5;unfold offN;omega
def Cx.wd_lt (h:Cx w Y D l c) (i:Nat) (hi:i<256):wd D l i<18446744073709551616:=by unfold wd;exact h.gd.cur _ (by have:=h.hl;omega)
def Cx.load (h:Cx w Y D l c) (i:Nat) (hi:i<256) (K:K1):ad prog 32 #[.pointer (some ⟨Y.tb 0,0,none⟩),.int .u64 ((l*64+i*8:Nat):Int)] w K=K (.int .u64 (wd D l i:Int)) w:=by
 have hl:=h.hl;have:=jC h.dv h.gd 0 oM h.on (l*64+i*8) oM oM K;rw [this,show (l*64+i*8)/8=l*8+i by omega];unfold wd;rfl
def Cx.loadE (h:Cx w Y D l c):∀(w1:al) (i:Nat) (K:K1),Ext w w1->i<256->ad prog 32 #[.pointer (some ⟨Y.tb 0,0,none⟩),.int .u64 ((l*64+i*8:Nat):Int)] w1 K=K (.int .u64 (wd D l i:Int)) w1:=λw1 i K he hi=>(h.ext he).load i hi K
def Aa (K:K1):ad prog 136 #[chV Y l c o g] w K=K (.int .i64 c) (w.alloc (chO Y l c o g)):=by
 refine ao (by kernel_rfl) (N2 _ _ _ ?_) K;unfold SN;exact yS0
structure Cg (w:al) (c:Int):Prop where
 gl:bq w
 c0:0<=c
 c5:c<5
def Cg.ext (h:Cg w c) (e:Ext w w'):Cg w' c:=⟨h.gl.ext e,h.c0,h.c5⟩
def Cx.cg (h:Cx w Y D l c):Cg w c:=⟨h.gl,h.c0,h.c5⟩
def Ck (hG:bq w) (Y:Lay) (l:Nat) (c o:Int) (g:Nat):∀(w1:al) (K:K1),Ext w w1->ad prog 167 #[chV Y l c o g] w1 K=K (.int .i64 (perS c)) ((w1.alloc (chO Y l c o g)).alloc (chO Y l c o g)):=by
 intro w1 K he;refine ao (by kernel_rfl) (Ob _ _ _ ?_) K;unfold SV;have hG:=hG.ext he;exact yS2 @Aa (λa b c K=>bY c ((w1.alloc a).alloc b) K ((hG.alloc a).alloc b))
def Cx.blocks (h:Cx w Y D l c) (o:Int) (g:Nat):∀(w1:al) (K:K1),Ext w w1->ad prog 167 #[chV Y l c o g] w1 K=K (.int .i64 (perS c)) ((w1.alloc (chO Y l c o g)).alloc (chO Y l c o g)):=Ck h.gl Y l c o g
def S7 (hG:bq w) (Y:Lay) (l:Nat) (c o:Int) (g:Nat) (i:Int) (K:K1) (hK:∀w',Ext w w'->K (.bool (decide (0<=i)&&decide (i<perS c))) w'):ad prog 165 #[chV Y l c o g,.int .i64 i] w K:=by
 refine N9 _ _ _ _ ?_;unfold ST;have hb:=Ck hG Y l c o g;by_cases h0:0<=i
 ·have e:(decide (0<=i)&&decide (i<perS c))=decide (i<perS c):=by simp [h0]
  rw [e] at hK;refine gG hb ?_;exact hK _ xZ
 ·have e:(decide (0<=i)&&decide (i<perS c))=false:=by simp [h0]
  rw [e] at hK;refine gG hb ?_;exact hK _ xZ
def S8 (h:Cx w Y D l c) (o:Int) (g:Nat) (i:Int) (K:K1) (hK:∀w',Ext w w'->K (.bool (decide (0<=i)&&decide (i<perS c))) w'):ad prog 165 #[chV Y l c o g,.int .i64 i] w K:=S7 h.gl Y l c o g i K hK
def Cx.at_ (h:Cx w Y D l c) (o:Int) (g:Nat):∀(w1:al) (i:Nat) (K:K1),Ext w w1->(i:Int)<perS c->ad prog 170 #[chV Y l c o g,.int .i64 (i:Int)] w1 K=K (.int .u64 ((l*64+offN c i*8:Nat):Int)) (w1.alloc (chO Y l c o g)):=by
 intro w1 i K he hi;refine ao (by kernel_rfl) (Oc _ _ _ _ ?_) K;unfold SX;have hG:=h.gl.ext he;have hb:=aK h.c0 h.c5 hi;have hl:=h.hl;have hn:=h.n;have b:∀(a:Obj) (K:K1),ad prog 161 #[.int .i64 c,.int .i64 (i:Int)] (w1.alloc a) K=K (.tuple #[.int .i64 (offN c i:Int),.int .i64 0]) (w1.alloc a):=λa K=>by
  rw [Ch c i (w1.alloc a) K (hG.alloc a) h.c0 h.c5 oM hi,hb.1]
 generalize offN c i=q at*;exact yS3 b @cC @ab
def Cx.bits (h:Cx w Y D l c) (o:Int) (g:Nat):∀(w1:al) (K:K1),Ext w w1->ad prog 166 #[chV Y l c o g] w1 K=K (.int .u64 (wd D l 1:Int)) ((w1.alloc (chO Y l c o g)).drew):=by
 intro w1 K he;refine ao (by kernel_rfl) (Oa _ _ _ ?_) K;unfold SU;have h1:=(h.ext he);have hl:=h.hl;have hn:=h.n;have ld:∀(w2:al) (K:K1),Ext w1 w2->ad prog 32 #[.pointer (some ⟨Y.tb 0,0,none⟩),.int .u64 ((l*64+8:Nat):Int)] w2 K=K (.int .u64 (wd D l 1:Int)) w2:=λw2 K he=>h1.loadE w2 1 K he oM
 (repeat' first|refine ak (λ_=> ?_) (λ_=> ?_)|refine am ?_ ?_|refine eQ @cC @ab ld ?_|exact BX @cC @ab ld|fail)
def wJ (x:Nat) (w:al) (K:K1) (hG:bq w) (hx:x<18446744073709551616) (h:∀w',Ext w w'->K (.tuple #[.agg #[.int .u16 (bG x:Int),.int .u8 (bK x:Int),.int .u8 (bS x:Int)],.bool (isS x)]) w'):ad prog 176 #[.int .u64 x] w K:=by
 refine Sy x w K hG hx (λw' he=> ?_);have:=h w' he;unfold bG bK bS at this
 cases hs:isS x with
 |true=>simp only [hs,if_true] at this ⊢;exact this
 |false=>simp only [hs,if_false] at this ⊢;exact this
def lV {b t:Nat} {f:Nat->aB} (h:af w b t 3 f) (v0 v1 v2:aB):(((w.setCell ⟨b,0,none⟩ v0).setCell ⟨b,1,none⟩ v1).setCell ⟨b,2,none⟩ v2).cell? ⟨b,0,none⟩=some v0/\(((w.setCell ⟨b,0,none⟩ v0).setCell ⟨b,1,none⟩ v1).setCell ⟨b,2,none⟩ v2).cell? ⟨b,1,none⟩=some v1/\(((w.setCell ⟨b,0,none⟩ v0).setCell ⟨b,1,none⟩ v1).setCell ⟨b,2,none⟩ v2).cell? ⟨b,2,none⟩=some v2/\af (((w.setCell ⟨b,0,none⟩ v0).setCell ⟨b,1,none⟩ v1).setCell ⟨b,2,none⟩ v2) b t 3 (λi=>if i=0 then v0 else if i=1 then v1 else v2):=by
 have h3:=((h.set v0 (i:=0) oM).set v1 (i:=1) oM).set v2 (i:=2) oM;exact ⟨h3.cell (i:=0) oM,h3.cell (i:=1) oM,h3.cell (i:=2) oM,h3.congr (λi hi=>by
  have:i=0\/i=1\/i=2:=oM;rcases this with rfl|rfl|rfl<;>simp)⟩
def oY (h:Cx w Y D l c) (o:Int) (g:Nat) (i:Nat) (hi:(i:Int)<perS c) (K:K1) (hK:∀w',Ext w w'->K (.tuple #[.agg #[.int .u16 (bG (wd D l (offN c i)):Int),.int .u8 (bK (wd D l (offN c i)):Int),.int .u8 (bS (wd D l (offN c i)):Int)],.bool (isS (wd D l (offN c i))),.bool (aS (wd D l 1) i)]) w'):
  ad prog 131 #[chV Y l c o g,.int .i64 (i:Int)] w K:=by
 refine N1 _ _ _ _ ?_;unfold SM;have hb:=h.bits o g;have ha:=h.at_ o g;have hl:=h.loadE;have bd:=aK h.c0 h.c5 hi;have hp:=aJ h.c0 h.c5;have hw:=h.wd_lt (offN c i) bd.2.2;have d:=h.wd_lt 1 oM;generalize hx:wd D l (offN c i)=x at*;generalize hy:wd D l 1=y at*;have an:∀z:Nat,z&&&1=z%2:=λz=>cO z
 have e:y/2^i<18446744073709551616:=cN (fi _ _) d
 (repeat' first|refine ak (λ_=> ?_) (λ_=> ?_)|refine am ?_ ?_|refine rN hb ha hl hx ?_|exact Xo hb ha hl hx|fail)
 refine wJ x _ _ (h.gl.ext xZ) hw (λw1 b=> ?_);have hC:af w1 (w.heap.size+1) 200 3 (λi=> [Value.int .u16 ((0:Nat):Int),.int .u8 ((0:Nat):Int),.int .u8 ((0:Nat):Int)].getD i undef):=by
  have:=(af.new (w.alloc (chO Y l c o g)) [Value.int .u16 ((0:Nat):Int),.int .u8 ((0:Nat):Int),.int .u8 ((0:Nat):Int)] 200);rw [size_alloc] at this;exact this.ext (Ext.trans xZ b)
 have e1:Ext w w1:=Ext.trans xZ b;have c0:=hC.cell (i:=0) oM;have c1:=hC.cell (i:=1) oM;have c2:=hC.cell (i:=2) oM;obtain ⟨d0,d1,d2,hD⟩:=lV hC (.int .u16 (bG x:Int)) (.int .u8 (bK x:Int)) (.int .u8 (bS x:Int));obtain ⟨f0,f1,f2,hF⟩:=lV hD (.int .u16 (bG x:Int)) (.int .u8 (bK x:Int)) (.int .u8 (bS x:Int));have a:decide (y/2^i&&&1=1)=aS y i:=by unfold aS;simp only [an]
 refine QB c0 c1 c2 hC.frz d0 d1 d2 hD.frz f0 f1 f2 a a a ?_;exact hK _ xZ
end
section
variable {w w':al} {Y:Lay} {D:DS} {l:Nat} {c o:Int} {g:Nat}
def bm {w1:al} (he:Ext (w.alloc (chO Y l c o g)) w1):w1.cell? ⟨w.heap.size,0,none⟩=some (.iface 31 (.pointer (some ⟨Y.tb 0,0,none⟩)))/\w1.cell? ⟨w.heap.size,1,none⟩=some (.int .i64 (l:Int))/\w1.cell? ⟨w.heap.size,2,none⟩=some (.int .i64 c)/\w1.cell? ⟨w.heap.size,3,none⟩=some (.int .i64 o)/\w1.cell? ⟨w.heap.size,4,none⟩=some (.int .u16 (g:Int)):=by
 have:∀i,w1.cell? ⟨w.heap.size,i,none⟩=_:=λi=>he.cell _ i (by simp only [RZ];omega)
 refine ⟨?_,?_,?_,?_,?_⟩<;>(rw [this,aO _ _ _ _ _ rfl];rfl)
@[irreducible] def mkB (D:DS) (l:Nat) (c i:Int) (s:Nat):Bool:=decide (0<=i/\i<perS c)&&(isS (wd D l (offN c i.toNat))&&(aS (wd D l 1) i.toNat&&decide (bS (wd D l (offN c i.toNat))=s)))
def S9 (h:Cx w Y D l c) (o:Int) (g:Nat) (i:Int) (s:Nat) (K:K1) (hK:∀w',Ext w w'->K (.bool (mkB D l c i s)) w'):
  ad prog 177 #[chV Y l c o g,.int .i64 i,.int .u8 (s:Int)] w K:=by
 refine Od _ _ _ _ _ ?_;unfold mkB at hK;unfold SY;refine zS0 ?_;refine S8 (h.ext xZ) o g i _ (λw1 b=> ?_);have e1:Ext w w1:=Ext.trans xZ b;obtain ⟨c0,c1,c2,c3,c4⟩:=bm b;by_cases hi:0<=i/\i<perS c
 ·obtain ⟨n,rfl⟩:∃n:Nat,i=(n:Int):=⟨i.toNat,by omega⟩;have e:(decide (0<=(n:Int))&&decide ((n:Int)<perS c))=true:=by simp [hi]
  rw [decide_eq_true hi,bv] at hK;rw [e];simp only [ab] at hK;refine zS6 c0 c1 c2 c3 c4 c4 ?_;refine oY (h.ext e1) o g n hi.2 _ (λw2 d=> ?_);have e2:Ext w w2:=e1.trans d;by_cases hs:isS (wd D l (offN c n))=true
  ·rw [hs,bv] at hK;by_cases a:aS (wd D l 1) n=true
   ·rw [a,bv] at hK;refine zS2 hs a ?_;exact hK _ xZ
   ·have a:aS (wd D l 1) n=false:=by simpa using a
    rw [a,es] at hK;refine zS2 hs a ?_;exact hK _ xZ
  ·have hs:isS (wd D l (offN c n))=false:=by simpa using hs
   rw [hs,es] at hK;refine zS1 hs ?_;exact hK _ xZ
 ·have e:(decide (0<=i)&&decide (i<perS c))=false:=by simp;omega
  rw [decide_eq_false hi,es] at hK;rw [e];refine zS0 ?_;exact hK _ xZ
def XD (h:Cx w Y D l c) (o:Int) (g:Nat) (i:Int) (K:K1) (hK:∀w',Ext w w'->K (.bool (mkB D l c i 177)) w'):ad prog 137 #[chV Y l c o g,.int .i64 i] w K:=by
 refine N3 _ _ _ _ ?_;unfold SO;refine zS0 ?_;refine S9 (h.ext xZ) o g i 177 _ (λw1 a=> ?_);exact hK _ (Ext.trans xZ a)
def frN (y:Nat):Nat->Nat->Int
 |0,_=> -1
 |m+1,i=>if aS y i=true then frN y m (i+1) else (i:Int)
def aa6 (h:Cx w Y D l c) (o:Int) (g:Nat) (i:Int) (K:K1) (hK:∀w',Ext w w'->K (.int .i64 (frN (wd D l 1) ((perS c).toNat-i.toNat) i.toNat)) w'):ad prog 121 #[chV Y l c o g,.int .i64 i] w K:=by
 have hp:=aJ h.c0 h.c5;have hb:=h.blocks o g;have k:=h.bits o g;have hy:=h.wd_lt 1 oM;refine NX _ _ _ _ ?_;unfold SI;have d:∀(j:Nat) (w1:al),Ext (w.alloc (chO Y l c o g)) w1->(∀w',Ext w w'->K (.int .i64 (frN (wd D l 1) ((perS c).toNat-j) j)) w')->qN K (.int .i64 (j:Int)) (.pointer (some ⟨w.heap.size,0,none⟩)) w1:=by
  intro j w1 b hK;obtain ⟨c0,c1,c2,c3,c4⟩:=bm b;have e1:Ext w w1:=Ext.trans xZ b;rw [GO];unfold wc;refine zS6 c0 c1 c2 c3 c4 c4 ?_;refine S8 (h.ext e1) o g j _ (λw2 e=> ?_);have e2:=e1.trans e;obtain ⟨d0,d1,d2,d3,d4⟩:=bm (b.trans e);by_cases hj:(j:Int)<perS c
  ·have eb:(decide (0<=(j:Int))&&decide ((j:Int)<perS c))=true:=by simp [hj]
   rw [eb];refine dY d0 d1 d2 d3 d4 k ?_;apply zQ (I:=λz w'=>∃q:Nat,z= .int .i64 (q:Int)/\q<=(perS c).toNat/\frN (wd D l 1) ((perS c).toNat-q) q=frN (wd D l 1) ((perS c).toNat-j) j/\Ext (w.alloc (chO Y l c o g)) w') (μ:=λz _=>(perS c).toNat-(intOf z).toNat)
   ·exact ⟨j,rfl,by omega,rfl,(b.trans e).trans xZ⟩
   ·intros;rename_i w3 hI E1 hE;obtain ⟨q,rfl,hq,a,f⟩:=hI;obtain ⟨g0,g1,g2,g3,g4⟩:=bm f;have e3:Ext w w3:=Ext.trans xZ f;unfold wg;by_cases hqp:(q:Int)<perS c
    ·have m:wd D l 1/2^q<18446744073709551616:=cN (fi _ _) hy;have hs:(perS c).toNat-q=((perS c).toNat-(q+1))+1:=oM;rw [hs] at a;simp only [frN] at a;by_cases hbq:aS (wd D l 1) q=true
     ·rw [if_pos hbq] at a;have e0:¬(wd D l 1/2^q&&&1=0):=by
       rw [cO];unfold aS at hbq;simp at hbq;omega
      refine fp g0 g1 g2 g3 g4 hb e0 e0 ?_;apply hE
      ·exact ⟨q+1,by simp,by omega,a,xZ⟩
      ·simp [intOf];omega
     ·rw [if_neg hbq] at a;have e0:wd D l 1/2^q&&&1=0:=by
       rw [cO];unfold aS at hbq;simp at hbq;omega
      refine fp g0 g1 g2 g3 g4 hb e0 e0 ?_;rw [a];exact hK _ xZ
    ·have hs:(perS c).toNat-q=0:=oM;rw [hs] at a;simp only [frN] at a;refine fp g0 g1 g2 g3 g4 hb @GP @wf.eq_1 ?_;rw [a];exact hK _ xZ
  ·have eb:(decide (0<=(j:Int))&&decide ((j:Int)<perS c))=false:=by simp;omega
   rw [eb];have:(perS c).toNat-j=0:=oM;rw [this] at hK;simp only [frN] at hK;refine zS0 ?_;exact hK _ xZ
 by_cases hi:i<0
 ·have:i.toNat=0:=oM;rw [this] at hK;refine zS0 ?_;exact d 0 _ xZ hK
 ·obtain ⟨j,rfl⟩:∃j:Nat,i=(j:Int):=⟨i.toNat,by omega⟩;rw [ab] at hK;refine zS0 ?_;exact d j _ xZ hK
@[irreducible] def okF (D:DS) (l:Nat) (c:Int) (i:Nat):Bool:=isS (wd D l (offN c i))&&(!aS (wd D l 1) i&&(decide (bS (wd D l (offN c i))=176)&& !decide (bG (wd D l (offN c i))=0)))
def mxG (D:DS) (l:Nat) (c:Int):Nat->Nat
 |0=>0
 |n+1=>if mxG D l c n<bG (wd D l (offN c n)) then bG (wd D l (offN c n)) else mxG D l c n
def alF (D:DS) (l:Nat) (c:Int):Nat->Bool
 |0=>true
 |n+1=>alF D l c n&&okF D l c n
def Ta {D:DS} {l:Nat} {c:Int}:∀{n i:Nat},i<n->okF D l c i=false->alF D l c n=false:=by
 intro n
 induction n with
 |zero=>intro i h;omega
 |succ n ih=>
  intro i h he;simp only [alF];by_cases e:i=n
  ·subst e;simp [he]
  ·rw [ih (i:=i) oM he];rfl
def aa7 (h:Cx w Y D l c) (o:Int) (g:Nat) (K:K1) (hK:∀w',Ext w w'->K (.tuple #[.int .u16 ((if alF D l c (perS c).toNat=true then mxG D l c (perS c).toNat else 0:Nat):Int),.bool (alF D l c (perS c).toNat)]) w'):ad prog 157 #[chV Y l c o g] w K:=by
 have hp:=aJ h.c0 h.c5;obtain ⟨n,hn⟩:∃n:Nat,perS c=(n:Int):=⟨(perS c).toNat,by omega⟩;rw [hn,ab] at hK;have hb:=h.blocks o g;rw [hn] at hb;refine N8 _ _ _ ?_;unfold SS;refine gG hb ?_;apply zZ (I:=λx z w'=>∃i:Nat,z= .int .i64 (i:Int)/\i<=n/\x= .int .u16 ((mxG D l c i:Nat):Int)/\alF D l c i=true/\Ext (w.alloc (chO Y l c o g)) w') (μ:=λ_ z _=>n-(intOf z).toNat)
 ·exact ⟨0,rfl,by omega,rfl,rfl,xZ⟩
 ·intros;rename_i w1 hI E1 hE;obtain ⟨i,rfl,hi,rfl,e,b⟩:=hI;obtain ⟨c0,c1,c2,c3,c4⟩:=bm b;have e1:Ext w w1:=Ext.trans xZ b;unfold wy;by_cases hin:i<n
  ·refine zS6 c0 c1 c2 c3 c4 c4 ?_;refine oY (h.ext e1) o g i oM _ (λw2 d=> ?_);have e2:=b.trans d;have f:=e1.trans d;have a:okF D l c i=false->∀w',Ext w w'->K (.tuple #[.int .u16 ((0:Nat):Int),.bool false]) w':=by
    intro hf w' he;have:=hK w' he;rw [Ta hin hf] at this;exact this
   by_cases b1:isS (wd D l (offN c i))=true
   ·by_cases b2:aS (wd D l 1) i=true
    ·refine zS2 b1 b2 ?_;exact a (by simp [okF,b2]) _ xZ
    ·have b2:aS (wd D l 1) i=false:=by simpa using b2
     by_cases b3:bS (wd D l (offN c i))=176
     ·by_cases b4:bG (wd D l (offN c i))=0
      ·refine zS4 b1 b2 b3 b4 ?_;exact a (by simp [okF,b4]) _ xZ
      ·refine zS3 b1 b2 b3 ?_;apply hE
       ·refine ⟨i+1,by simp,by omega,?_,?_,xZ⟩
        ·simp only [mxG];split<;>split<;>first|rfl|omega
        ·simp [alF,e,okF,b1,b2,b3,b4]
       ·simp [intOf];omega
     ·refine zS3 b1 b2 b3 ?_;exact a (by simp [okF,b3]) _ xZ
   ·have b1:isS (wd D l (offN c i))=false:=by simpa using b1
    refine zS1 b1 ?_;exact a (by simp [okF,b1]) _ xZ
  ·have:i=n:=oM;subst this;rw [e,if_pos rfl] at hK;refine zS2 @GZ @wv.eq_1 ?_;exact hK _ e1
end
def RdS (m:Nat) (w:al) (v:aB) (L:List aB):Prop:=∃a cap,v= .slice a L.length cap/\(L= []\/∃b o,a=some ⟨b,o,none⟩/\b<m/\∀j u,L[j]? =some u->w.cell? ⟨b,o+j,none⟩=some u)
section
variable {w w':al} {m:Nat} {v:aB} {L:List aB}
def RdS.ext (h:RdS m w v L) (e:Ext w w'):RdS m w' v L:=by
 obtain ⟨a,cap,hv,h⟩:=h;refine ⟨a,cap,hv,?_⟩;rcases h with h|⟨b,o,ha,hb,hc⟩
 ·exact .inl h
 ·exact .inr ⟨b,o,ha,hb,λj u hj=>e.cell_some (hc j u hj)⟩
def RdS.frm {F:Nat->Prop} (h:RdS m w v L) (e:Frm F w w') (hF:∀b,b<m->¬F b):RdS m w' v L:=by
 obtain ⟨a,cap,hv,h⟩:=h;refine ⟨a,cap,hv,?_⟩;rcases h with h|⟨b,o,ha,hb,hc⟩
 ·exact .inl h
 ·refine .inr ⟨b,o,ha,hb,λj u hj=> ?_⟩;have h1:=hc j u hj;rw [e.cell b _ (ay h1) (hF b hb)];exact h1
def RdS.get (h:RdS m w v L) {j:Nat} {u:aB} (hj:L[j]? =some u):∃b o cap,v= .slice (some ⟨b,o,none⟩) L.length cap/\w.cell? ⟨b,o+j,none⟩=some u:=by
 obtain ⟨a,cap,hv,h⟩:=h;rcases h with h|⟨b,o,ha,hb,hc⟩
 ·rw [h] at hj;simp at hj
 ·subst ha;exact ⟨b,o,cap,hv,hc j u hj⟩
def RdS.nil (w:al) (m:Nat):RdS m w (.slice none 0 0) []:=⟨none,0,rfl,.inl rfl⟩
end
abbrev aX (l:List Int):List aB:=l.map λi=>Value.int .i64 i
abbrev u8L (l:List Nat):List aB:=l.map λ(n:Nat)=>Value.int .u8 (n:Int)
def mE {l:List Int} {j:Nat} (h:j<l.length):(aX l)[j]? =some (.int .i64 l[j]):=by simp [h]
def Ab {l:List Nat} {j:Nat} (h:j<l.length):(u8L l)[j]? =some (.int .u8 ((l[j]:Nat):Int)):=by simp [h]
def onc (a:Int):List Int->Nat->Option Nat
 | [],m=>some m
 |i::l,m=>if (0<=i/\i<a)/\aS m i.toNat=false then onc a l (m|||2^i.toNat) else none
def Tb {a:Int} {l:List Int} {j m:Nat} (h:j<l.length):onc a (l.drop j) m=if (0<=l[j]/\l[j]<a)/\aS m l[j].toNat=false then onc a (l.drop (j+1)) (m|||2^l[j].toNat) else none:=by
 rw [cn h];rfl
def gm {i:Nat} (h:i<64):2^i<18446744073709551616:=by
 have:2^i<2^64:=f6 (by decide) h;simpa using this
def mF {a b:Nat} (ha:a<18446744073709551616) (hb:b<18446744073709551616):a|||b<18446744073709551616:=ds (n:=64) ha hb
section
variable {w w':al} {Y:Lay} {D:DS} {l:Nat} {c o:Int} {g:Nat}
def XE (h:Cg w c) (Y:Lay) (l:Nat) (o:Int) (g:Nat) (L M:List Int) (v u:aB) {m:Nat} (hL:RdS m w v (aX L)) (hM:RdS m w u (aX M)) (lL:L.length<1099511627776) (lM:M.length<1099511627776) (b cap:Nat) (F:w.cell? ⟨b,0,none⟩=some v) (J:w.cell? ⟨b,1,none⟩=some u) (K:K1)
  (hK:∀w',Ext w w'->K (.bool ((onc (perS c) L 0).bind (onc (perS c) M)).isSome) w'):ad prog 143 #[chV Y l c o g,.slice (some ⟨b,0,none⟩) 2 cap] w K:=by
 have hp:=aJ h.c0 h.c5;refine N4 _ _ _ _ ?_;unfold SP;refine zS0 ?_;have k:∀(E1:aB->aB->al->Prop) (L:List Int) (v:aB) (q m0:Nat) (w1:al),Ext (w.alloc (chO Y l c o g)) w1->RdS m w v (aX L)->L.length<1099511627776->m0<18446744073709551616->(onc (perS c) L m0=none->∀w',Ext w w'->K (.bool false) w')->(∀m1 w',onc (perS c) L m0=some m1->m1<18446744073709551616->Ext (w.alloc (chO Y l c o g)) w'->E1 (.int .u64 (m1:Int)) (.int .i64 ((q+1:Nat):Int)) w')->q<1000->
   zR K E1 (.pointer (some ⟨w.heap.size,0,none⟩)) (.int .u64 (m0:Int)) (.slice (some ⟨b,0,none⟩) 2 cap) (.int .i64 2) (.int .i64 (q:Int)) v (.int .i64 (L.length:Int)) (.int .i64 0) w1:=by
  intro E1 L v q m0 w1 e hL lL E p s hq;apply zT (I:=λx z w'=>∃j mm:Nat,z= .int .i64 (j:Int)/\x= .int .u64 (mm:Int)/\mm<18446744073709551616/\j<=L.length/\onc (perS c) (L.drop j) mm=onc (perS c) L m0/\Ext (w.alloc (chO Y l c o g)) w') (μ:=λ_ z _=>L.length-(intOf z).toNat)
  ·exact ⟨0,m0,rfl,rfl,E,by omega,rfl,e⟩
  ·intros;rename_i w2 hI E2 hE;obtain ⟨j,mm,rfl,rfl,f,hj,d,n⟩:=hI;obtain ⟨c0,c1,c2,c3,c4⟩:=bm n;have e2:Ext w w2:=Ext.trans xZ n;unfold wn;by_cases hjl:j<L.length
   ·obtain ⟨sb,so,sc,rfl,hc⟩:=(hL.ext e2).get (mE hjl);rw [Tb hjl] at d;generalize L[j]=x at d hc;simp (disch:=try exact dZ) only [↓RBp,↓RA,↓reduceIte,Nat.reduceAdd,Nat.reduceMul,Nat.reduceEqDiff,RB,RX,RA2,hc,c0,c1,c2,c3,c4,df];refine S7 (h.gl.ext e2) Y l c o g x _ (λw3 y=> ?_);have e3:Ext w w3:=e2.trans y;have A:=n.trans y;by_cases hx:0<=x/\x<perS c
    ·have eb:(decide (0<=x)&&decide (x<perS c))=true:=by simp [hx]
     rw [eb];obtain ⟨i,rfl⟩:∃i:Nat,x=(i:Int):=⟨x.toNat,by omega⟩;rw [ab] at d;have N:mm/2^i<18446744073709551616:=cN (fi _ _) f;have t:=gm (show i<64 by omega);have C:1*2^i%18446744073709551616=2^i:=by rw [fe];exact cw t
     have G:=mF f t;by_cases hbt:aS mm i=true
     ·rw [if_neg (by simp [hbt])] at d;have e1:mm/2^i&&&1=1:=by rw [cO];simpa [aS] using hbt
      refine zS1 e1 ?_;exact p d.symm _ e3
     ·rw [if_pos ⟨hx,by simpa using hbt⟩] at d;have e1:¬(mm/2^i&&&1=1):=by rw [cO];simpa [aS] using hbt
      refine zS2 e1 C ?_;apply hE
      ·exact ⟨j+1,_,by simp,rfl,G,by omega,d,A⟩
      ·simp [intOf];omega
    ·have eb:(decide (0<=x)&&decide (x<perS c))=false:=by simp;omega
     rw [eb];rw [if_neg (λhh=>hx hh.1)] at d;refine zS0 ?_;exact p d.symm _ e3
   ·have:j=L.length:=oM;subst this;rw [eN] at d;simp only [onc] at d;refine zS2 @GU @wm.eq_1 ?_;have:=s mm w2 d.symm f n;simpa using this
 apply zS (I:=λx z w'=>∃i mm:Nat,z= .int .i64 (i:Int)/\x= .int .u64 (mm:Int)/\mm<18446744073709551616/\i<=2/\(i=0->mm=0)/\(i=1->onc (perS c) L 0=some mm)/\(i=2->(onc (perS c) L 0).bind (onc (perS c) M)=some mm)/\Ext (w.alloc (chO Y l c o g)) w') (μ:=λ_ z _=>2-(intOf z).toNat)
 ·exact ⟨0,0,rfl,rfl,by omega,by omega,λ_=>rfl,λh=>by omega,λh=>by omega,xZ⟩
 ·intros;rename_i w1 hI E1 hE;obtain ⟨i,mm,rfl,rfl,f,hi,i0,i1,i2,e⟩:=hI;have e1:Ext w w1:=Ext.trans xZ e;have d0:=e1.cell_some F;have d1:=e1.cell_some J;unfold wl;have H:i=0\/i=1\/i=2:=oM;rcases H with rfl|rfl|rfl
  ·have:=i0 rfl;subst this;obtain ⟨a,sc,rfl,_⟩:=id hL;have D:RdS m w (.slice a L.length sc) (aX L):=by rw [show (aX L).length=L.length by simp] at hL;exact hL
   simp (disch:=try exact dZ) only [↓RBp,↓RA,↓reduceIte,Nat.reduceAdd,Nat.reduceMul,Nat.reduceEqDiff,RB,RX,RA2,d0,df];refine k E1 L _ 0 0 w1 e D lL oM (λhn w' he=> ?_) (λm1 w' hs r he=> ?_) oM
   ·have:=hK w' he;rw [hn] at this;exact this
   ·apply hE
    ·exact ⟨1,m1,rfl,rfl,r,by omega,λh=>by omega,λ_=>hs,λh=>by omega,he⟩
    ·simp [intOf]
  ·have h1:=i1 rfl;obtain ⟨a,sc,rfl,_⟩:=id hM;have B:RdS m w (.slice a M.length sc) (aX M):=by rw [show (aX M).length=M.length by simp] at hM;exact hM
   simp (disch:=try exact dZ) only [↓RBp,↓RA,↓reduceIte,Nat.reduceAdd,Nat.reduceMul,Nat.reduceEqDiff,RB,RX,RA2,d1,df];refine k E1 M _ 1 mm w1 e B lM f (λhn w' he=> ?_) (λm1 w' hs r he=> ?_) oM
   ·have:=hK w' he;rw [h1,dl,hn] at this;exact this
   ·apply hE
    ·exact ⟨2,m1,rfl,rfl,r,by omega,λh=>by omega,λh=>by omega,λ_=>by rw [h1,dl];exact hs,he⟩
    ·simp [intOf]
  ·have h2:=i2 rfl;rw [h2] at hK;refine zS2 @GT @wk.eq_1 ?_;exact hK _ e1
def aa8 (h:Cx w Y D l c) (o:Int) (g:Nat) (L M:List Int) (v u:aB) {m:Nat} (hL:RdS m w v (aX L)) (hM:RdS m w u (aX M)) (lL:L.length<1099511627776) (lM:M.length<1099511627776) (b cap:Nat) (a:w.cell? ⟨b,0,none⟩=some v) (d:w.cell? ⟨b,1,none⟩=some u) (K:K1)
  (hK:∀w',Ext w w'->K (.bool ((onc (perS c) L 0).bind (onc (perS c) M)).isSome) w'):ad prog 143 #[chV Y l c o g,.slice (some ⟨b,0,none⟩) 2 cap] w K:=XE h.cg Y l o g L M v u hL hM lL lM b cap a d K hK
end
@[irreducible] def tkOk (D:DS) (l:Nat) (c:Int) (i:Nat):Bool:=isS (wd D l (offN c i))&&(!aS (wd D l 1) i&&(decide (bS (wd D l (offN c i))=176)&&bR (bG (wd D l (offN c i))) (bK (wd D l (offN c i))) (bS (wd D l (offN c i)))))
@[irreducible] def dpOk (D:DS) (l:Nat) (c:Int) (i:Nat):Bool:=isS (wd D l (offN c i))&&(aS (wd D l 1) i&&decide (bS (wd D l (offN c i))=177))
def tkW (D:DS) (l:Nat) (c:Int) (i k:Nat):Nat×Nat:=(l*64+offN c i*8,sealN (dg (bG (wd D l (offN c i))) k 177))
def dpW (D:DS) (l:Nat) (c:Int) (i:Nat):Nat×Nat:=(l*64+offN c i*8,sealN (dg (freG (bG (wd D l (offN c i)))) 0 (freS (bG (wd D l (offN c i))))))
def dpB (D:DS) (l:Nat) (c:Int) (i b:Nat):Nat:=if freS (bG (wd D l (offN c i)))=176 then b&&&(18446744073709551615^^^2^i) else b
def chT (D:DS) (l:Nat) (c:Int):List Int->List Nat->List (Nat×Nat)->Nat->Option (List (Nat×Nat)×Nat)
 |i::r,k::ks,acc,b=>if tkOk D l c i.toNat=true then chT D l c r ks (acc++ [tkW D l c i.toNat k]) (b|||2^i.toNat) else none
 |_,_,acc,b=>some (acc,b)
def jn (D:DS) (l:Nat) (c:Int):List Int->List (Nat×Nat)->Nat->Option (List (Nat×Nat)×Nat)
 |i::r,acc,b=>if dpOk D l c i.toNat=true then jn D l c r (acc++ [dpW D l c i.toNat]) (dpB D l c i.toNat b) else none
 | [],acc,b=>some (acc,b)
def gJ (D:DS) (l:Nat) (c:Int) (take:List Int) (a:List Nat) (drop:List Int):Option (List (Nat×Nat)):=
 if take.length=0/\drop.length=0 then some [] else
 match chT D l c take a [] (wd D l 1) with
 |none=>none
 |some (ws,b)=>match jn D l c drop ws b with
  |none=>none
  |some (ws,b)=>some (ws++ [(l*64+8,b)])
def Tc {D:DS} {l:Nat} {c:Int} {L:List Int} {ks:List Nat} {j b:Nat} {a:List (Nat×Nat)} (h:j<L.length) (h2:ks.length=L.length):chT D l c (L.drop j) (ks.drop j) a b=if tkOk D l c L[j].toNat=true then chT D l c (L.drop (j+1)) (ks.drop (j+1)) (a++ [tkW D l c L[j].toNat (ks[j]'oM)]) (b|||2^L[j].toNat) else none:=by
 rw [cn h,cn (show j<ks.length by omega)];rfl
def Oi {D:DS} {l:Nat} {c:Int} {L:List Int} {j b:Nat} {a:List (Nat×Nat)} (h:j<L.length):jn D l c (L.drop j) a b=if dpOk D l c L[j].toNat=true then jn D l c (L.drop (j+1)) (a++ [dpW D l c L[j].toNat]) (dpB D l c L[j].toNat b) else none:=by
 rw [cn h];rfl
def cU (x:Nat):bG x<65536:=by unfold bG gX;split<;>omega
def Td (x:Nat):bK x<256:=by unfold bK kX;split<;>omega
def kA {g:Nat} (h:g<65536):freG g<65536:=by unfold freG;split<;>omega
def kB (g:Nat):freS g<256:=by unfold freS;split<;>omega
section
variable {w w':al} {Y:Lay} {D:DS} {l:Nat} {c o:Int} {g:Nat}
def Oj (h:Cx w Y D l c) (o:Int) (g:Nat) (L M:List Int) (ks:List Nat) (v kv u:aB) {m:Nat} (hL:RdS m w v (aX L)) (hk:RdS m w kv (u8L ks)) (hM:RdS m w u (aX M)) (lL:L.length<1073741824) (lM:M.length<1073741824) (lk:ks.length=L.length) (c8:∀k∈ks,k<256) (vL:∀i∈L,0<=i/\i<perS c) (vM:∀i∈M,0<=i/\i<perS c) (K:K1)
  (a1:gJ D l c L ks M=none->∀w',Ext w w'->K (.tuple #[.slice none 0 0,.bool false]) w')
  (V:∀ws,gJ D l c L ks M=some ws->∀v' w',Ext w w'->bw w.heap.size v'->SlO w' 98 2 v' ws.length (wrL ws)->K (.tuple #[v',.bool true]) w'):ad prog 144 #[chV Y l c o g,v,kv,u] w K:=by
 have hp:=aJ h.c0 h.c5;have Z:=h.bits o g;have hy:=h.wd_lt 1 oM;have N:=h.at_ o g;have C:∀(w1:al) (a b d:Nat) (K:K1),Ext w w1->a<65536->b<256->d<256->ad prog 160 #[.agg #[.int .u16 (a:Int),.int .u8 (b:Int),.int .u8 (d:Int)]] w1 K=K (.int .u64 ((sealN (dg a b d):Nat):Int)) ((w1.alloc (ij a b d)).alloc (mD (dg a b d))):=λw1 a b d K he ha hb hd=>JL a b d w1 K (h.gl.ext he) ha hb hd
 have l1:(aX L).length=L.length:=by simp
 have l2:(aX M).length=M.length:=by simp
 have l3:(u8L ks).length=L.length:=by simp [lk]
 obtain ⟨la,lc,rfl,_⟩:=id hL;obtain ⟨ma,mc,rfl,_⟩:=id hM;rw [l1] at hL ⊢;rw [l2] at hM ⊢;refine N6 _ _ _ _ _ _ ?_;unfold SQ;have e0:Ext w (w.alloc (chO Y l c o g)):=Ext.alloc_self _ _;have s0:w.heap.size<=(w.alloc (chO Y l c o g)).heap.size:=by simp only [RZ];omega
 have S:L.length+M.length≠0->∀w1,Ext (w.alloc (chO Y l c o g)) w1->zU K kv (.slice ma M.length mc) (.pointer (some ⟨w.heap.size,0,none⟩)) (.slice none 0 0) (.int .u64 (wd D l 1:Int)) (.slice la L.length lc) (.int .i64 (L.length:Int)) (.int .i64 0) w1:=by
  intro d8 w1 b0
  have s:gJ D l c L ks M=match chT D l c L ks [] (wd D l 1) with
   |none=>none
   |some (ws,b)=>match jn D l c M ws b with
    |none=>none
    |some (ws,b)=>some (ws++ [(l*64+8,b)]):=by unfold gJ;rw [if_neg oM]
  apply zX (I:=λx y z w'=>∃(j b:Nat) (p:List (Nat×Nat)),z= .int .i64 (j:Int)/\y= .int .u64 (b:Int)/\b<18446744073709551616/\j<=L.length/\p.length=j/\SlO w' 98 2 x p.length (wrL p)/\Frm Nob (w.alloc (chO Y l c o g)) w'/\bw (w.alloc (chO Y l c o g)).heap.size x/\chT D l c (L.drop j) (ks.drop j) p b=chT D l c L ks [] (wd D l 1)) (μ:=λ_ _ z _=>L.length-(intOf z).toNat)
  ·exact ⟨0,wd D l 1,[],rfl,rfl,hy,by omega,rfl,SlO.nil _ _ _,Frm.of_ext b0,(λb hb=>by cases hb),rfl⟩
  ·intros;rename_i w2 hI E1 hE;obtain ⟨j,b,p,rfl,rfl,hb,hj,ha,sp,f2,n2,r⟩:=hI;have W:Ext (w.alloc (chO Y l c o g)) w2:=f2.to_ext (λ_ _ h=>h);have e2:Ext w w2:=e0.trans W;obtain ⟨c0,c1,c2,c3,c4⟩:=bm W;obtain ⟨pa,pc,rfl,e5⟩:=sp.isS';by_cases hjl:j<L.length
   ·obtain ⟨sb,so,sc,B,hc⟩:=(hL.ext e2).get (mE hjl);injection B with B _ ev2;subst B;subst ev2;have hv:=vL L[j] (co hjl);have b4:=c8 (ks[j]'oM) (co _);have a2:=(hk.ext e2).get (Ab (l:=ks) (j:=j) oM);rw [Tc hjl lk] at r;generalize L[j]=x at r hc hv;generalize ks[j]'oM=kj at r b4 a2;obtain ⟨i,rfl⟩:∃i:Nat,x=(i:Int):=⟨x.toNat,by omega⟩;rw [ab] at r;obtain ⟨kb,ko,kc,rfl,b5⟩:=a2;rw [l3];unfold oS;refine zS6 hc c0 c1 c2 c3 c4 ?_;refine oY (h.ext e2) o g i hv.2 _ (λw3 t=> ?_);have e3:Ext w w3:=e2.trans t;have a5:=W.trans t;have dd:=bm a5;have d0:=dd.1;have d1:=dd.2.1;have d2:=dd.2.2.1;have d3:=dd.2.2.2.1;have d4:=dd.2.2.2.2;have H:=t.cell_some b5;have d9:=ay H;have b9:w.heap.size<w3.heap.size:=ay d0;have b1:=cU (wd D l (offN c i));have b2:=Td (wd D l (offN c i));have A:tkOk D l c i=false->∀w',Ext w w'->K (.tuple #[.slice none 0 0,.bool false]) w':=by
     intro hf;rw [if_neg (by simp [hf])] at r;exact a1 (by rw [s,<-r])
    by_cases t1:isS (wd D l (offN c i))=true
    ·by_cases t2:aS (wd D l 1) i=true
     ·refine zS2 t1 t2 ?_;exact A (by simp [tkOk,t2]) _ xZ
     ·have t2:aS (wd D l 1) i=false:=by simpa using t2
      by_cases t3:bS (wd D l (offN c i))=176
      ·by_cases t4:bR (bG (wd D l (offN c i))) (bK (wd D l (offN c i))) 176=true
       ·have P:tkOk D l c i=true:=by simp [tkOk,t1,t2,t3,t4]
        rw [if_pos P] at r;have F:=gm (show i<64 by omega);have U:1*2^i%18446744073709551616=2^i:=by rw [fe];exact cw F
        have b8:=mF hb F
        (repeat' first|refine ak (λ_=> ?_) (λ_=> ?_)|refine am ?_ ?_|refine IZ t1 t2 t3 @cS t4 H d0 d1 d2 d3 d4 N C C ?_|exact I1 t1 t2 t3 @cS t4 H d0 d1 d2 d3 d4 N C C|fail)
        refine bD cv (w0:=w.alloc (chO Y l c o g)) ((sp.ext t).ext xZ) ((f2.ext t).ext xZ) n2 (m:=1) (news:=wrL [tkW D l c i kj]) (by simp [wrL,tkW]) ?_ rfl oM oM oM (λv' w4 E b6 n4 _ _=> ?_)
        ·intro q u hq;rw [bl,kf,aO _ _ _ _ _ (by simp only [RZ])];simpa [wrL,tkW,u64] using hq
        refine zS1 U ?_;apply hE
        ·refine ⟨j+1,_,p++ [tkW D l c i kj],by simp,rfl,b8,by omega,by simp [ha],?_,b6,n4,r⟩;rw [bJ,bb];exact E
        ·simp [intOf];omega
       ·have t4:bR (bG (wd D l (offN c i))) (bK (wd D l (offN c i))) 176=false:=by simpa using t4
        refine zS6 t1 t2 t3 @cS t4 t4 ?_;exact A (by simp [tkOk,t3,t4]) _ xZ
      ·refine zS3 t1 t2 t3 ?_;exact A (by simp [tkOk,t3]) _ xZ
    ·have t1:isS (wd D l (offN c i))=false:=by simpa using t1
     refine zS1 t1 ?_;exact A (by simp [tkOk,t1]) _ xZ
   ·have c7:j=L.length:=oM;subst c7;have hd1:L.drop L.length= []:=eN;rw [hd1] at r;have a4:chT D l c L ks [] (wd D l 1)=some (p,b):=by rw [<-r];simp [chT]
    rw [a4] at s;simp only at s;unfold oS;refine zS2 @GV @wt.eq_1 ?_;apply zY (I:=λx y z w'=>∃(j b':Nat) (f:List (Nat×Nat)),z= .int .i64 (j:Int)/\y= .int .u64 (b':Int)/\b'<18446744073709551616/\j<=M.length/\f.length=L.length+j/\SlO w' 98 2 x f.length (wrL f)/\Frm Nob (w.alloc (chO Y l c o g)) w'/\bw (w.alloc (chO Y l c o g)).heap.size x/\jn D l c (M.drop j) f b'=jn D l c M p b) (μ:=λ_ _ z _=>M.length-(intOf z).toNat)
    ·exact ⟨0,b,p,rfl,rfl,hb,by omega,ha,sp,f2,n2,rfl⟩
    ·intros;rename_i w3 b7 E3 a0;obtain ⟨j,b',f,rfl,rfl,Q,e7,a3,O,f3,n3,e⟩:=b7;have t:Ext (w.alloc (chO Y l c o g)) w3:=f3.to_ext (λ_ _ h=>h);have e3:Ext w w3:=e0.trans t;obtain ⟨c0,c1,c2,c3,c4⟩:=bm t;obtain ⟨d5,c6,rfl,d7⟩:=O.isS';by_cases hjM:j<M.length
     ·obtain ⟨sb,so,sc,B,hc⟩:=(hM.ext e3).get (mE hjM);injection B with B _ ev2;subst B;subst ev2;have hv:=vM M[j] (co hjM);rw [Oi hjM] at e;generalize M[j]=x at e hc hv;obtain ⟨i,rfl⟩:∃i:Nat,x=(i:Int):=⟨x.toNat,by omega⟩;rw [ab] at e;unfold oT;refine zS6 hc c0 c1 c2 c3 c4 ?_;refine oY (h.ext e3) o g i hv.2 _ (λw4 G=> ?_);have e4:Ext w w4:=e3.trans G;have a6:=t.trans G;have dd:=bm a6;have d0:=dd.1;have d1:=dd.2.1;have d2:=dd.2.2.1;have d3:=dd.2.2.2.1;have d4:=dd.2.2.2.2;have e6:w.heap.size<w4.heap.size:=ay d0;have b1:=cU (wd D l (offN c i));have b2:=kA b1;have b3:=kB (bG (wd D l (offN c i)));have A:dpOk D l c i=false->∀w',Ext w w'->K (.tuple #[.slice none 0 0,.bool false]) w':=by
       intro hf;rw [if_neg (by simp [hf])] at e;exact a1 (by rw [s,<-e])
      by_cases t1:isS (wd D l (offN c i))=true
      ·by_cases t2:aS (wd D l 1) i=true
       ·by_cases t3:bS (wd D l (offN c i))=177
        ·have P:dpOk D l c i=true:=by simp [dpOk,t1,t2,t3]
         rw [if_pos P] at e;have F:=gm (show i<64 by omega);have U:1*2^i%18446744073709551616=2^i:=by rw [fe];exact cw F
         have a9:b'&&&(18446744073709551615^^^2^i)<18446744073709551616:=cN fk Q;have c9:∀(w:al) (k:K1),ev prog (aC .andNot 26 (.tmp 120) (.tmp 123) (.int .u64 (b':Int)) (.int .u64 ((2^i:Nat):Int))) w k=k (.int .u64 ((b'&&&(18446744073709551615^^^2^i):Nat):Int)) w:=λw k=>aa (GL _ _ _ b' (2^i) w Q F) k
         (repeat' first|refine ak (λ_=> ?_) (λ_=> ?_)|refine am ?_ ?_|refine jk t1 t2 t3 @JO d0 d1 d2 d3 d4 N C ?_|exact rO t1 t2 t3 @JO d0 d1 d2 d3 d4 N C|fail)
         refine bD cv (w0:=w.alloc (chO Y l c o g)) ((O.ext G).ext xZ) ((f3.ext G).ext xZ) n3 (m:=1) (news:=wrL [dpW D l c i]) (by simp [wrL,dpW]) ?_ rfl oM oM oM (λv' w5 E J n5 R _=> ?_)
         ·intro q u hq;rw [bl,kf,aO _ _ _ _ _ (by simp only [RZ])];simpa [wrL,dpW,u64] using hq
         have d6:∀q,(Value.slice d5 f.length c6).ownBlock=some q->q<w4.heap.size:=λq hq=>(O.ext G).lt hq
         have cq:w5.cell? ⟨w4.heap.size,2,none⟩=some (.int .u8 ((freS (bG (wd D l (offN c i))):Nat):Int)):=by
          rw [R.cell w4.heap.size 2 (by simp only [RZ];omega) (λhq=>by have:=d6 _ hq;omega)];exact yS0
         by_cases hfs:freS (bG (wd D l (offN c i)))=176
         ·have T:dpB D l c i b'=b'&&&(18446744073709551615^^^2^i):=by unfold dpB;rw [if_pos hfs]
          rw [hfs] at cq;refine zS6 cq U c9 @sN @kw.eq_1 @kw.eq_1 ?_;apply a0
          ·refine ⟨j+1,_,f++ [dpW D l c i],by simp,rfl,a9,by omega,by simp [a3];omega,?_,J,n5,by rw [<-T];exact e⟩;rw [bJ,bb];exact E
          ·simp [intOf];omega
         ·have T:dpB D l c i b'=b':=by unfold dpB;rw [if_neg hfs]
          rw [T] at e;refine zS4 cq hfs @sN @kw.eq_1 ?_;apply a0
          ·refine ⟨j+1,_,f++ [dpW D l c i],by simp,rfl,Q,by omega,by simp [a3];omega,?_,J,n5,e⟩;rw [bJ,bb];exact E
          ·simp [intOf];omega
        ·refine zS3 t1 t2 t3 ?_;exact A (by simp [dpOk,t3]) _ xZ
       ·have t2:aS (wd D l 1) i=false:=by simpa using t2
        refine zS2 t1 t2 ?_;exact A (by simp [dpOk,t2]) _ xZ
      ·have t1:isS (wd D l (offN c i))=false:=by simpa using t1
       refine zS1 t1 ?_;exact A (by simp [dpOk,t1]) _ xZ
     ·have a8:j=M.length:=oM;subst a8;rw [eN] at e;have a7:jn D l c M p b=some (f,b'):=by rw [<-e];simp [jn]
      rw [a7] at s;simp only at s;have b9:w.heap.size<w3.heap.size:=ay c0;have e8:=h.hl;have e1:=h.n;unfold oT;refine jk c0 c1 c2 c3 c4 @cC @ab @GW @kr.eq_1 @kr.eq_1 @kr.eq_1 ?_;refine bD cv (w0:=w.alloc (chO Y l c o g)) (O.ext xZ) (f3.ext xZ) n3 (m:=1) (news:=wrL [(l*64+8,b')]) (by simp [wrL]) ?_ rfl oM oM oM (λv' w5 E J n5 R _=> ?_)
      ·intro q u hq;rw [bl,aO _ _ _ _ _ (by simp only [RZ])];simpa [wrL,u64] using hq
      try simp (disch:=try exact dZ) only [↓RBp,↓RA,↓reduceIte,Nat.reduceAdd,Nat.reduceMul,Nat.reduceEqDiff,RB,RX,RA2]
      refine V _ s v' w5 (e0.trans (J.to_ext (λ_ _ h=>h))) (λq hq=>db s0 (n5 q hq)) ?_;rw [bJ,bb];exact E
 by_cases hL0:L.length=0
 ·by_cases hM0:M.length=0
  ·refine zS2 hL0 hM0 ?_;exact V [] (by unfold gJ;rw [if_pos ⟨hL0,hM0⟩]) _ _ xZ (λb hb=>by cases hb) (SlO.nil _ _ _)
  ·have hz:((L.length:Nat):Int)=0:=oM;have X:¬((M.length:Nat):Int)=0:=oM;refine eQ (rj hz) (fH X) Z ?_;exact S oM _ xZ
 ·have X:¬((L.length:Nat):Int)=0:=oM;refine fC (fH X) Z ?_;exact S oM _ xZ
end
structure On (D:DS):Prop where
 off:D.off=false
 arm:D.armed=false
 err:D.err 0=0
section
variable {D:DS}
def On.runs (h:On D):D.runs true=true:=by simp [DS.runs,h.off,h.arm]
def On.counted (h:On D):D.counted 0 true={D with exe:=D.exe+1}:=by
 rw [DS.counted_run h.runs,if_neg (by simp [h.arm])]
def On.store (h:On D) (off v:Nat) (hv:fD D off=true):D.store 0 off v=({D with exe:=D.exe+1}:DS).write off v:=by
 unfold DS.store;rw [hv,if_pos h.runs,h.counted]
def On.storeOn (h:On D) (off v:Nat) (hv:fD D off=true):On (D.store 0 off v):=by
 rw [h.store off v hv];exact ⟨h.off,h.arm,h.err⟩
def On.storeCur (h:On D) (off v:Nat) (hv:fD D off=true):(D.store 0 off v).cur=λj=>if j=off/8 then v else D.cur j:=by
 rw [h.store off v hv];rfl
def On.flush (h:On D) (off:Nat) (hv:fg D off=true):D.flush 0 off=({D with exe:=D.exe+1}:DS).note 0 ((off/64:Nat):Int) (D.done (off/64)+(D.hist (off/64)).length):=by
 unfold DS.flush;rw [hv,if_pos h.runs,h.counted]
def On.flushOn (h:On D) (off:Nat) (hv:fg D off=true):On (D.flush 0 off):=by
 rw [h.flush off hv];exact ⟨h.off,h.arm,h.err⟩
def On.flushCur (h:On D) (off:Nat) (hv:fg D off=true):(D.flush 0 off).cur=D.cur:=by
 rw [h.flush off hv];rfl
def On.fence (h:On D):D.fence 0=(({D with exe:=D.exe+1}:DS).parts (D.due 0)).clr 0:=by
 unfold DS.fence;rw [if_pos h.runs,h.counted]
def On.fenceOn (h:On D):On (D.fence 0):=by
 rw [h.fence];exact ⟨h.off,h.arm,h.err⟩
def On.fenceCur (h:On D):(D.fence 0).cur=D.cur:=by
 rw [h.fence];rfl
def On.zero (n:Nat):On (DS.zero n):=⟨rfl,rfl,rfl⟩
def go (D:DS) (i:Ins) (p:List Ins):D.run 0 (i::p)=(D.exec 0 i).run 0 p:=rfl
def On.runW:∀(ws:List (Nat×Nat)) (D:DS),On D->(∀x∈ws,x.1%8=0/\x.1<D.n*64)->On (D.run 0 (ws.map wrI))/\(D.run 0 (ws.map wrI)).cur=aD ws D.cur:=by
 intro ws
 induction ws with
 |nil=>intro D h _;exact ⟨h,rfl⟩
 |cons x ws ih=>
  intro D h hv;rw [eg,go];have e:D.exec 0 (wrI x)=D.store 0 x.1 x.2:=rfl;have hx:fD D x.1=true:=by simp [fD,hv x (by simp)]
  rw [e];have hn:=JI D 0 x.1 x.2;have:=ih (D.store 0 x.1 x.2) (h.storeOn _ _ hx) (λy hy=>by rw [hn];exact hv y (by simp [hy]));refine ⟨this.1,?_⟩;rw [this.2,h.storeCur _ _ hx];rfl
def On.runF:∀(ls:List Nat) (D:DS),On D->(∀x∈ls,x<D.n*64)->On (D.run 0 (ls.map flI))/\(D.run 0 (ls.map flI)).cur=D.cur:=by
 intro ls
 induction ls with
 |nil=>intro D h _;exact ⟨h,rfl⟩
 |cons x ls ih=>
  intro D h hv;rw [eg,go];have e:D.exec 0 (flI x)=D.flush 0 x:=rfl;have hx:fg D x=true:=by simp [fg,hv x (by simp)]
  rw [e];have hn:=JJ D 0 x;have:=ih (D.flush 0 x) (h.flushOn _ hx) (λy hy=>by rw [hn];exact hv y (by simp [hy]));exact ⟨this.1,this.2.trans (h.flushCur _ hx)⟩
def XF (d:Array Nat):∀n,n<=d.size->∀x∈kpN d n,x∈d.toList:=by
 intro n
 induction n with
 |zero=>intro _ x hx;simp [kpN] at hx
 |succ n ih=>
  intro hn x hx;simp only [kpN,en] at hx;rcases hx with hx|hx
  ·exact ih oM x hx
  ·split at hx
   ·simp only [cF] at hx;subst hx;rw [getElem!_pos d n oM];simp
   ·cases hx
def Te {l:List Nat} {x:Nat} (h:x∈cmpN l):x∈l:=by
 have:=XF l.toArray l.length (by simp) x h;simpa using this
def i8 {ws:List (Nat×Nat)} {x:Nat} (h:x∈cmpN (srtN (ws.map λx=>dF x.1))):∃y∈ws,x=dF y.1:=by
 have h1:=Te h;have h2:=(oO _).mem_iff.1 h1;obtain ⟨y,hy,rfl⟩:=List.mem_map.1 h2;exact ⟨y,hy,rfl⟩
def On.stores (h:On D) (ws:List (Nat×Nat)) (hv:∀x∈ws,x.1%8=0/\x.1<D.n*64):On (D.run 0 (az ws))/\(D.run 0 (az ws)).cur=aD ws D.cur:=by
 unfold az;rw [cH,cH];have h1:=On.runW ws D h hv;have n1:=fh 0 (ws.map wrI) D;have h2:=On.runF (cmpN (srtN (ws.map λx=>dF x.1))) (D.run 0 (ws.map wrI)) h1.1 (λx hx=>by
  obtain ⟨y,hy,rfl⟩:=i8 hx;have:=hv y hy;rw [n1];unfold dF;omega)
 refine ⟨h2.1.fenceOn,?_⟩;show (DS.fence _ 0).cur=_;rw [h2.1.fenceCur,h2.2,h1.2]
def bt {ws:List (Nat×Nat)} (h:∀x∈ws,x.1<18446744073709551616/\x.2<18446744073709551616):∀i∈az ws,okI i:=by
 intro i hi;simp only [az,en,ft,cF] at hi;rcases hi with (⟨x,hx,rfl⟩|⟨x,hx,rfl⟩)|rfl
 ·have:=h x hx;exact ⟨by simp [wrI],by simp [wrI],this.1,this.2⟩
 ·obtain ⟨y,hy,rfl⟩:=i8 hx;have:=h y hy;exact ⟨by simp [flI],by simp [flI],by simp only [flI,dF];omega,by simp [flI]⟩
 ·exact ⟨by simp,by simp,by simp,by simp⟩
end
def XG (x:Nat) (h:x<4294967296):sealN x%4294967296=x:=by unfold sealN;omega
def sQ {x:Nat} (h:x<4294967296):isS (sealN x)=true:=by unfold isS;rw [XG x h];simp
def Ac (x:Nat):gX (sealN x)=gX x:=by unfold gX sealN;omega
def XH (x:Nat):kX (sealN x)=kX x:=by unfold kX sealN;omega
def Ad (x:Nat):sX (sealN x)=sX x:=by unfold sX sealN;omega
def J5 (x:Nat):hC (sealN x)=hC x:=by unfold hC sealN;omega
def J6 (x:Nat):hO (sealN x)=hO x:=by unfold hO sealN;omega
section
variable {g k s:Nat}
def mG (hg:g<65536) (hk:k<256) (hs:s<256):dg g k s<4294967296:=by unfold dg;omega
def i9 (hg:g<65536) (hk:k<256) (hs:s<256):isS (sealN (dg g k s))=true:=sQ (mG hg hk hs)
def Ae (hg:g<65536) (hk:k<256) (hs:s<256):bG (sealN (dg g k s))=g:=by unfold bG;rw [i9 hg hk hs,if_pos rfl,Ac];unfold gX dg;omega
def G4 (hg:g<65536) (hk:k<256) (hs:s<256):bK (sealN (dg g k s))=k:=by unfold bK;rw [i9 hg hk hs,if_pos rfl,XH];unfold kX dg;omega
def oZ (hg:g<65536) (hk:k<256) (hs:s<256):bS (sealN (dg g k s))=s:=by unfold bS;rw [i9 hg hk hs,if_pos rfl,Ad];unfold sX dg;omega
end
section
variable {c o:Int} {g:Nat}
def pd (hc: -1<=c) (b:c<5) (ho: -1<=o) (a:o<8) (hg:g<65536):hdX c o g<4294967296:=by unfold hdX;split<;>omega
def acs (hc:0<=c) (b:c<5) (ho:0<=o) (a:o<8) (hg:g≠0) (d:g<65536):dQ (sealN (hdX c o g))=true/\hC (sealN (hdX c o g))=c/\hO (sealN (hdX c o g))=o/\gX (sealN (hdX c o g))=g:=by
 have h1:hC (sealN (hdX c o g))=c:=by rw [J5];unfold hC hdX;rw [if_pos hc];omega
 have h2:hO (sealN (hdX c o g))=o:=by rw [J6];unfold hO hdX;rw [if_pos hc];omega
 have h3:gX (sealN (hdX c o g))=g:=by rw [Ac];unfold gX hdX;rw [if_pos hc];omega
 have h4:sX (sealN (hdX c o g))=197:=by rw [Ad];unfold sX hdX;rw [if_pos hc];omega
 refine ⟨?_,h1,h2,h3⟩;unfold dQ;rw [h1,h2,h3,h4,sQ (pd oM b oM a d)];simp [hg,jG,hc,b,ho,a]
def Af (hg:g≠0) (a:g<65536):dQ (sealN (hdX (-1) (-1) g))=true/\hC (sealN (hdX (-1) (-1) g))= -1/\hO (sealN (hdX (-1) (-1) g))= -1/\gX (sealN (hdX (-1) (-1) g))=g:=by
 have e:hdX (-1) (-1) g=g+3305111552:=by unfold hdX;rw [if_neg oM]
 have h1:hC (sealN (hdX (-1) (-1) g))= -1:=by rw [J5,e];unfold hC;omega
 have h2:hO (sealN (hdX (-1) (-1) g))= -1:=by rw [J6,e];unfold hO;omega
 have h3:gX (sealN (hdX (-1) (-1) g))=g:=by rw [Ac,e];unfold gX;omega
 have h4:sX (sealN (hdX (-1) (-1) g))=197:=by rw [Ad,e];unfold sX;omega
 refine ⟨?_,h1,h2,h3⟩;unfold dQ;rw [h1,h2,h3,h4,sQ (pd oM oM oM oM a)];simp [hg]
end
def Cl {P:Program} (f:Fn) (a c:Array aB) (w:al) (k:aB->Prop):rd P (Instr.makeFunc f a c) w k=k (.func f a c):=ah rfl k
def Cm {P:Program} (f:Fn) (a c:Array aB) (w:al) (u:aB):ag P (Instr.makeFunc f a c) w u=(Value.func f a c=u):=aV rfl u
def bW (b i:Nat) (w:al) (k:aB->Prop):br prog (.func (.method "Load") #[.iface 31 (.pointer (some ⟨b,i,none⟩))] #[]) w k=k (.func (.method "Load") #[.iface 31 (.pointer (some ⟨b,i,none⟩))] #[]):=by
 have h:(execOp (fun _=>(.func (.method "Load") #[.iface 31 (.pointer (some ⟨b,i,none⟩))] #[])) PE).run prog w= .ok (.value (.func (.method "Load") #[.iface 31 (.pointer (some ⟨b,i,none⟩))] #[])) w:=by kernel_rfl
 unfold br;rw [h];simp
abbrev thV (Y:Lay):aB:= .iface 31 (.pointer (some ⟨Y.tb 0,0,none⟩))
section
variable {w w':al} {Y:Lay} {D:DS}
def Tf {b t:Nat} {f:Nat->aB} (h:af w b t 5 f) (v0 v1 v2 v3 v4:aB):(((((w.setCell ⟨b,0,none⟩ v0).setCell ⟨b,1,none⟩ v1).setCell ⟨b,2,none⟩ v2).setCell ⟨b,3,none⟩ v3).setCell ⟨b,4,none⟩ v4).cell? ⟨b,0,none⟩=some v0/\(((((w.setCell ⟨b,0,none⟩ v0).setCell ⟨b,1,none⟩ v1).setCell ⟨b,2,none⟩ v2).setCell ⟨b,3,none⟩ v3).setCell ⟨b,4,none⟩ v4).cell? ⟨b,1,none⟩=some v1/\(((((w.setCell ⟨b,0,none⟩ v0).setCell ⟨b,1,none⟩ v1).setCell ⟨b,2,none⟩ v2).setCell ⟨b,3,none⟩ v3).setCell ⟨b,4,none⟩ v4).cell? ⟨b,2,none⟩=some v2/\(((((w.setCell ⟨b,0,none⟩ v0).setCell ⟨b,1,none⟩ v1).setCell ⟨b,2,none⟩ v2).setCell ⟨b,3,none⟩ v3).setCell ⟨b,4,none⟩ v4).cell? ⟨b,3,none⟩=some v3/\(((((w.setCell ⟨b,0,none⟩ v0).setCell ⟨b,1,none⟩ v1).setCell ⟨b,2,none⟩ v2).setCell ⟨b,3,none⟩ v3).setCell ⟨b,4,none⟩ v4).cell? ⟨b,4,none⟩=some v4:=by
 have h3:=((((h.set v0 (i:=0) oM).set v1 (i:=1) oM).set v2 (i:=2) oM).set v3 (i:=3) oM).set v4 (i:=4) oM;exact ⟨h3.cell (i:=0) oM,h3.cell (i:=1) oM,h3.cell (i:=2) oM,h3.cell (i:=3) oM,h3.cell (i:=4) oM⟩
def sR (h:Dv w Y D) (g:aH D) (hG:bq w) (ho:D.off=false) (he:D.err 0=0) (l:Nat) (hl:l+32<=D.n) (j:dQ (wd D l 0)=true) (K:K1)
  (hK:∀w',Ext w w'->K (.tuple #[.agg #[.int .i64 (hC (wd D l 0)),.int .i64 (hO (wd D l 0)),.int .u16 (gX (wd D l 0):Int)],.int .i64 0]) w'):
  ad prog 129 #[thV Y,.int .i64 (l:Int)] w K:=by
 have hn:=g.n;have d:∀(w1:al) (K:K1),Ext w w1->ad prog 105 #[.pointer (some ⟨Y.tb 0,0,none⟩)] w1 K=K (.int .u64 ((D.n*64:Nat):Int)) w1:=λw1 K e=>km (h.ext e) g 0 oM K
 have c:∀(w1:al) (K:K1),Ext w w1->ad prog 28 #[.pointer (some ⟨Y.tb 0,0,none⟩)] w1 K=K (.int .i64 0) w1:=λw1 K e=>by rw [cM (h.ext e) 0 oM K,he]
 have hld:∀(w1:al) (K:K1),Ext w w1->ad prog 32 #[.pointer (some ⟨Y.tb 0,0,none⟩),.int .u64 ((l*64:Nat):Int)] w1 K=K (.int .u64 (wd D l 0:Int)) w1:=λw1 K e=>by
  rw [jC (h.ext e) g 0 oM ho (l*64) oM oM K,show l*64/8=l*8+0 by omega];unfold wd;rfl
 have hx:wd D l 0<18446744073709551616:=by unfold wd;exact g.cur _ oM
 have hq:D.n*64/64=D.n:=oM;generalize wd D l 0=x at*;refine wj _ _ _ _ ?_;unfold thV GS
 (repeat' first|refine ak (λ_=> ?_) (λ_=> ?_)|refine am ?_ ?_|refine jk d c hld hq @cC @ab @Cl @Cm @bW @bW @bW ?_|exact rO d c hld hq @cC @ab @Cl @Cm @bW @bW @bW|fail)
 refine sE x _ _ (hG.ext xZ) hx (λw1 f=> ?_);have e1:Ext w w1:=Ext.trans xZ f;have a:af w1 w.heap.size 132 3 (λi=> [Value.int .i64 0,.int .i64 0,.int .u16 ((0:Nat):Int)].getD i undef):=by
  have:=(af.new w [Value.int .i64 0,.int .i64 0,.int .u16 ((0:Nat):Int)] 132);exact this.ext (Ext.trans xZ f)
 have c0:=a.cell (i:=0) oM;have c1:=a.cell (i:=1) oM;have c2:=a.cell (i:=2) oM;have k:=a.lt;rw [j];unfold hdV;have b:=lV a (.int .i64 (hC x)) (.int .i64 (hO x)) (.int .u16 (gX x:Int));have d0:=b.1;have d1:=b.2.1;have d2:=b.2.2.1;have hD:=b.2.2.2;refine zS8 c0 c1 c2 a.frz d0 d1 d2 d2 ?_;exact hK _ xZ
def G5 (h:Dv w Y D) (g:aH D) (hG:bq w) (ho:D.off=false) (he:D.err 0=0) (l:Nat) (hl:l+32<=D.n) (j:dQ (wd D l 0)=false) (K:K1)
  (hK:∀w',Ext w w'->K (.tuple #[.agg #[.int .i64 0,.int .i64 0,.int .u16 ((0:Nat):Int)],.int .i64 11]) w'):
  ad prog 129 #[thV Y,.int .i64 (l:Int)] w K:=by
 have hn:=g.n;have d:∀(w1:al) (K:K1),Ext w w1->ad prog 105 #[.pointer (some ⟨Y.tb 0,0,none⟩)] w1 K=K (.int .u64 ((D.n*64:Nat):Int)) w1:=λw1 K e=>km (h.ext e) g 0 oM K
 have c:∀(w1:al) (K:K1),Ext w w1->ad prog 28 #[.pointer (some ⟨Y.tb 0,0,none⟩)] w1 K=K (.int .i64 0) w1:=λw1 K e=>by rw [cM (h.ext e) 0 oM K,he]
 have hld:∀(w1:al) (K:K1),Ext w w1->ad prog 32 #[.pointer (some ⟨Y.tb 0,0,none⟩),.int .u64 ((l*64:Nat):Int)] w1 K=K (.int .u64 (wd D l 0:Int)) w1:=λw1 K e=>by
  rw [jC (h.ext e) g 0 oM ho (l*64) oM oM K,show l*64/8=l*8+0 by omega];unfold wd;rfl
 have hx:wd D l 0<18446744073709551616:=by unfold wd;exact g.cur _ oM
 have hq:D.n*64/64=D.n:=oM;generalize wd D l 0=x at*;refine wj _ _ _ _ ?_;unfold thV GS
 (repeat' first|refine ak (λ_=> ?_) (λ_=> ?_)|refine am ?_ ?_|refine jk d c hld hq @cC @ab @Cl @Cm @bW @bW @bW ?_|exact rO d c hld hq @cC @ab @Cl @Cm @bW @bW @bW|fail)
 refine sE x _ _ (hG.ext xZ) hx (λw1 f=> ?_);have e1:Ext w w1:=Ext.trans xZ f;have a:af w1 w.heap.size 132 3 (λi=> [Value.int .i64 0,.int .i64 0,.int .u16 ((0:Nat):Int)].getD i undef):=by
  have:=(af.new w [Value.int .i64 0,.int .i64 0,.int .u16 ((0:Nat):Int)] 132);exact this.ext (Ext.trans xZ f)
 have c0:=a.cell (i:=0) oM;have c1:=a.cell (i:=1) oM;have c2:=a.cell (i:=2) oM;have k:=a.lt;rw [j];unfold hdV;have b:=lV a (.int .i64 0) (.int .i64 0) (.int .u16 ((0:Nat):Int));have d0:=b.1;have d1:=b.2.1;have d2:=b.2.2.1;have hD:=b.2.2.2;refine zS8 c0 c1 c2 a.frz d0 d1 d2 d2 ?_;exact hK _ xZ
abbrev chZ:aB:= .agg #[.nilIface,.int .i64 0,.int .i64 0,.int .i64 0,.int .u16 ((0:Nat):Int)]
def mH (h:Dv w Y D) (g:aH D) (hG:bq w) (ho:D.off=false) (he:D.err 0=0) (l:Nat) (hl:l+32<=D.n) (e:dQ (wd D l 0)=true) (K:K1)
  (hK:∀w',Ext w w'->K (if hC (wd D l 0)<0 then .tuple #[chZ,.int .i64 8] else .tuple #[chV Y l (hC (wd D l 0)) (hO (wd D l 0)) (gX (wd D l 0)),.int .i64 0]) w'):
  ad prog 75 #[thV Y,.int .i64 (l:Int)] w K:=by
 refine SA _ _ _ _ ?_;unfold thV Zv;refine zS0 ?_;refine sR (h.ext xZ) g (hG.ext xZ) ho he l hl e _ (λw1 d=> ?_);have e1:Ext w w1:=Ext.trans xZ d;have a:af w1 w.heap.size 134 5 (λi=> [Value.nilIface,.int .i64 0,.int .i64 0,.int .i64 0,.int .u16 ((0:Nat):Int)].getD i undef):=by
  have:=(af.new w [Value.nilIface,.int .i64 0,.int .i64 0,.int .i64 0,.int .u16 ((0:Nat):Int)] 134);exact this.ext (Ext.trans xZ d)
 have c0:=a.cell (i:=0) oM;have c1:=a.cell (i:=1) oM;have c2:=a.cell (i:=2) oM;have c3:=a.cell (i:=3) oM;have c4:=a.cell (i:=4) oM;have f:=a.lt;by_cases hc:hC (wd D l 0)<0
 ·rw [if_pos hc] at hK;have b:=Tf a .nilIface (.int .i64 0) (.int .i64 0) (.int .i64 0) (.int .u16 ((0:Nat):Int));have d0:=b.1;have d1:=b.2.1;have d2:=b.2.2.1;have d3:=b.2.2.2.1;have d4:=b.2.2.2.2;refine lC c0 c1 c2 c3 c4 a.frz d0 d1 d2 d3 d4 ?_;exact hK _ xZ
 ·rw [if_neg hc] at hK;have c:=Tf a (.iface 31 (.pointer (some ⟨Y.tb 0,0,none⟩))) (.int .i64 (l:Int)) (.int .i64 (hC (wd D l 0))) (.int .i64 (hO (wd D l 0))) (.int .u16 (gX (wd D l 0):Int));have d0:=c.1;have d1:=c.2.1;have d2:=c.2.2.1;have d3:=c.2.2.2.1;have d4:=c.2.2.2.2;refine lC c0 c1 c2 c3 c4 a.frz d0 d1 d2 d3 d4 ?_;exact hK _ xZ
end
def wK {a:Int}:∀{L:List Int} {m m':Nat},onc a L m=some m'->∀i∈L,0<=i/\i<a:=by
 intro L
 induction L with
 |nil=>intro m m' _ i hi;cases hi
 |cons x L ih=>
  intro m m' h i hi;simp only [onc] at h;split at h
  ·rename_i hx;rcases List.mem_cons.1 hi with rfl|hi
   ·exact hx.1
   ·exact ih h i hi
  ·cases h
structure kV (c:Int) (L:List Int) (ks:List Nat) (M:List Int):Prop where
 len:ks.length=L.length
 kin:∀k∈ks,k≠0/\k<=127
 onc:((onc (perS c) L 0).bind (onc (perS c) M)).isSome=true
def kV.vL {c:Int} {L M:List Int} {ks:List Nat} (h:kV c L ks M):∀i∈L,0<=i/\i<perS c:=by
 have:=h.onc
 cases h1:Go.Proofs.YtmpehclnnjgmcaaGreatDoor.onc (perS c) L 0 with
 |none=>rw [h1] at this;cases this
 |some m=>exact wK h1
def kV.vM {c:Int} {L M:List Int} {ks:List Nat} (h:kV c L ks M):∀i∈M,0<=i/\i<perS c:=by
 have:=h.onc
 cases h1:Go.Proofs.YtmpehclnnjgmcaaGreatDoor.onc (perS c) L 0 with
 |none=>rw [h1] at this;cases this
 |some m=>
  rw [h1,dl] at this
  cases h2:Go.Proofs.YtmpehclnnjgmcaaGreatDoor.onc (perS c) M m with
  |none=>rw [h2] at this;cases this
  |some m'=>exact wK h2
section
variable {w w':al} {Y:Lay} {D:DS} {l:Nat} {c o:Int} {g:Nat}
def Ok (h:Cx w Y D l c) (he:D.err 0=0) (o:Int) (g:Nat) (L M:List Int) (ks:List Nat) (v kv u:aB) {m:Nat} (hL:RdS m w v (aX L)) (hk:RdS m w kv (u8L ks)) (hM:RdS m w u (aX M)) (lL:L.length<1073741824) (lM:M.length<1073741824) (lk:ks.length<1073741824) (F:∀k∈ks,k<256) (K:K1)
  (r:¬kV c L ks M->∀w',Ext w w'->K (.tuple #[.slice none 0 0,.int .i64 1]) w')
  (O:kV c L ks M->gJ D l c L ks M=none->∀w',Ext w w'->K (.tuple #[.slice none 0 0,.int .i64 8]) w')
  (H:kV c L ks M->∀ws,gJ D l c L ks M=some ws->∀v' w',Ext w w'->bw w.heap.size v'->SlO w' 98 2 v' ws.length (wrL ws)->K (.tuple #[v',.int .i64 0]) w'):ad prog 98 #[chV Y l c o g,v,kv,u] w K:=by
 have y:∀(w1:al) (K:K1),Ext w w1->ad prog 28 #[.pointer (some ⟨Y.tb 0,0,none⟩)] w1 K=K (.int .i64 0) w1:=λw1 K e=>by rw [cM (h.dv.ext e) 0 oM K,he]
 have l1:(aX L).length=L.length:=by simp
 have l2:(aX M).length=M.length:=by simp
 have l3:(u8L ks).length=ks.length:=by simp
 obtain ⟨la,lc,rfl,_⟩:=id hL;obtain ⟨ma,mc,rfl,_⟩:=id hM;obtain ⟨ka,kc,rfl,_⟩:=id hk;rw [l1] at hL ⊢;rw [l2] at hM ⊢;rw [l3] at hk ⊢;have e0:Ext w (w.alloc (chO Y l c o g)):=Ext.alloc_self _ _;refine SH _ _ _ _ _ _ ?_;by_cases hln:ks.length=L.length
 ·have hz:((ks.length:Nat):Int)=((L.length:Nat):Int):=oM;have R:∀j,(hj:j<ks.length)->¬(ks[j]≠0/\ks[j]<=127)->∀w',Ext w w'->K (.tuple #[.slice none 0 0,.int .i64 1]) w':=λj hj hn=>r (λha=>hn (ha.kin _ (co hj)))
  unfold SG;refine zS1 (rj hz) ?_;apply Cj (I:=λz w'=>∃j:Nat,z= .int .i64 (j:Int)/\j<=ks.length/\(∀q,(hq:q<ks.length)->q<j->ks[q]≠0/\ks[q]<=127)/\Ext (w.alloc (chO Y l c o g)) w') (μ:=λz _=>ks.length-(intOf z).toNat)
  ·exact ⟨0,rfl,by omega,λq _ h=>by omega,xZ⟩
  ·intros;rename_i w1 hI E1 hE;obtain ⟨j,rfl,hj,C,s⟩:=hI;have e1:Ext w w1:=e0.trans s;obtain ⟨c0,c1,c2,c3,c4⟩:=bm s;by_cases hjl:j<ks.length
   ·obtain ⟨sb,so,sc,A,hc⟩:=(hk.ext e1).get (Ab hjl);injection A with A _ ev2;subst A;subst ev2;have N:=F ks[j] (co hjl);have t:=R j hjl;have B:(ks[j]≠0/\ks[j]<=127)->∀q,(hq:q<ks.length)->q<j+1->ks[q]≠0/\ks[q]<=127:=by
     intro hh q hq U;by_cases e:q=j
     ·subst e;exact hh
     ·exact C q hq oM
    generalize ks[j]=x at hc N t B;unfold sI;by_cases x0:x=0
    ·subst x0;refine zS1 hc ?_;exact t (by simp) _ e1
    ·by_cases x1:x<=127
     ·refine zS1 hc ?_;apply hE
      ·exact ⟨j+1,by simp,by omega,B ⟨x0,x1⟩,s⟩
      ·simp [intOf];omega
     ·refine zS1 hc ?_;exact t oM _ e1
   ·have P:j=ks.length:=oM;subst P;have G:∀k∈ks,k≠0/\k<=127:=by
     intro k hk;obtain ⟨q,hq,rfl⟩:=List.mem_iff_getElem.1 hk;exact C q hq hq
    unfold sI;refine zS8 c0 c1 c2 c3 c4 @NV @sG.eq_1 @sG.eq_1 ?_;refine aa8 (h.ext xZ) o g L M _ _ (hL.ext xZ) (hM.ext xZ) oM oM _ _ (by simp (disch:=try exact dZ) only [↓RBp,↓RA,↓reduceIte,Nat.reduceAdd,Nat.reduceMul,Nat.reduceEqDiff,RB,RX,RA2]) (by simp (disch:=try exact dZ) only [↓RBp,↓RA,↓reduceIte,Nat.reduceAdd,Nat.reduceMul,Nat.reduceEqDiff,RB,RX,RA2]) _ (λw2 S=> ?_);have E:Ext w1 w2:=Ext.trans xZ S;have e2:Ext w w2:=e1.trans E;have n:=s.trans E;have d:=bm n;have d0:=d.1;have d1:=d.2.1;have d2:=d.2.2.1;have d3:=d.2.2.2.1;have d4:=d.2.2.2.2
    cases hon:((onc (perS c) L 0).bind (onc (perS c) M)).isSome with
    |false=>
     refine zS0 ?_;exact r (λha=>by have:=ha.onc;rw [hon] at this;cases this) _ e2
    |true=>
     have hA:kV c L ks M:=⟨hln,G,hon⟩;refine dY d0 d1 d2 d3 d4 y ?_;refine Oj (h.ext e2) o g L M ks _ _ _ (hL.ext e2) (hk.ext e2) (hM.ext e2) lL lM hln F hA.vL hA.vM _ (λhn w3 a=> ?_) (λws hs v' w3 a J Q=> ?_)
     ·have e3:=e2.trans a;have p:=n.trans a;have i:=bm p;have g0:=i.1;have g1:=i.2.1;have g2:=i.2.2.1;have g3:=i.2.2.2.1;have g4:=i.2.2.2.2;refine dY g0 g1 g2 g3 g4 y ?_;exact O hA hn _ e3
     ·have e3:=e2.trans a;have p:=n.trans a;have f:=bm p;have g0:=f.1;have g1:=f.2.1;have g2:=f.2.2.1;have g3:=f.2.2.2.1;have g4:=f.2.2.2.2;refine dY g0 g1 g2 g3 g4 y ?_;exact H hA ws hs _ _ e3 (λb hb=>db e2.size (J b hb)) Q
 ·have T:¬((ks.length:Nat):Int)=((L.length:Nat):Int):=oM;unfold SG;refine zS1 (fH T) ?_;exact r (λha=>hln ha.len) _ xZ
end
structure Lv (w0 w:al) (Y:Lay) (D:DS):Prop where
 dv:Dv w Y D
 gd:aH D
 ex:Ext w0 w
 nw:∀x,Y.F x->w0.heap.size<=x
section
variable {w0 w w':al} {Y Y':Lay} {D D':DS} {a b c g:Nat}
def Lv.ext (h:Lv w0 w Y D) (e:Ext w w'):Lv w0 w' Y D:=⟨h.dv.ext e,h.gd,h.ex.trans e,h.nw⟩
def Ext.frm {F:Nat->Prop} (h:Ext w0 w) (f:Frm F w w') (hF:∀x,F x->w0.heap.size<=x):Ext w0 w':=
 (Frm.trans (F:=Nob) (G:=F) (Frm.of_ext h) f (λx hx hf=>by have:=hF x hf;omega)).to_ext (λ_ _ h=>h)
def Lv.step (h:Lv w0 w Y D) (s:Stp w Y w' Y' D') (g:aH D'):Lv w0 w' Y' D':=by
 refine ⟨s.dv,g,Ext.frm h.ex s.frm h.nw,λx hx=> ?_⟩;rcases s.fr x hx with h1|h1
 ·exact h.nw x h1
 ·exact db h.ex.size h1
def Lv.frm {G:Nat->Prop} (h:Lv w0 w Y D) (f:Frm G w w') (hG:∀b,G b->b<w0.heap.size):Dv w' Y D:=
 h.dv.frm f (λb hb hg=>by have:=h.nw b hb;have:=hG b hg;omega)
end
def cI {ws:List (Nat×Nat)}:∀{f:Nat->Nat} {x v:Nat},(∀y∈ws,y.1/8=x->y.2=v)->((∃y∈ws,y.1/8=x)\/f x=v)->aD ws f x=v:=by
 induction ws with
 |nil=>
  intro f x v _ h;rcases h with ⟨y,hy,_⟩|h
  ·cases hy
  ·exact h
 |cons z ws ih=>
  intro f x v h1 h2;rw [bQ];refine ih (λy hy=>h1 y (by simp [hy])) ?_;by_cases hx:x=z.1/8
  ·right;simp only [hx,if_true];exact h1 z (by simp) hx.symm
  ·rcases h2 with ⟨y,hy,a⟩|h2
   ·rcases List.mem_cons.1 hy with rfl|hy
    ·exact absurd a.symm hx
    ·exact .inl ⟨y,hy,a⟩
   ·right;simp only [hx,if_false];exact h2
def isB (c:Int) (j:Nat):Bool:=(List.range (perS c).toNat).any λi=>offN c i==j
section
variable {l g:Nat} {c o:Int}
end
section
variable {w w':al} {Y:Lay} {D:DS}
end
def DS.strs (D:DS) (ws:List (Nat×Nat)):DS:=D.run 0 (ws.map wrI)
def J7 {D:DS} (h:On D) {ws:List (Nat×Nat)} (hv:∀x∈ws,x.1%8=0/\x.1<D.n*64):On (D.strs ws)/\(D.strs ws).cur=aD ws D.cur:=On.runW ws D h hv
section
variable {w w':al} {Y:Lay} {D:DS}
def acu (i:Nat):aS 0 i=false:=by simp [aS]
end
section
variable {w w':al} {Y Y':Lay} {D D':DS}
def Lv.cx {w0:al} {l:Nat} {c:Int} (h:Lv w0 w Y D) (hG:bq w0) (on:D.off=false) (hl:l+32<=D.n) (c0:0<=c) (c5:c<5):Cx w Y D l c:=⟨h.dv,h.gd,hG.ext h.ex,on,hl,c0,c5⟩
def mI {x u:aB} {j:Nat} (h: [x][j]? =some u):j=0/\u=x:=by
 rcases j with _|j
 ·simp at h;exact ⟨rfl,h.symm⟩
 ·simp at h
end
section
variable {w w':al} {Y Y':Lay} {D D':DS}
variable {c o:Int} {g:Nat}
end
abbrev pE (p:Nat) (e:Int):aB:= .tuple #[.int .u64 (p:Int),.int .i64 e]
def sndB (D:DS) (l:Nat) (c:Int) (i:Nat):Prop:=isS (wd D l (offN c i))=true/\bR (bG (wd D l (offN c i))) (bK (wd D l (offN c i))) (bS (wd D l (offN c i)))=true/\aS (wd D l 1) i= !decide (bS (wd D l (offN c i))=176)
def pOff (l:Nat) (c:Int) (i:Nat):Nat:=l*64+offN c i*8+8
section
variable {w w':al} {Y:Lay} {D:DS} {l:Nat} {c o:Int} {g:Nat}
def bq1:(true==false)=false:=rfl
def bq2:(false==true)=false:=rfl
def bq3:(true==true)=true:=rfl
def bq4:(false==false)=true:=rfl
def Tg (off g k:Nat) (w:al) (K:K1) (h0:off≠0) (h8:off%8=0) (ho:off<=34359738360) (hg:g≠0) (b:g<65536) (hk:k≠0) (a:k<=127):ad prog 169 #[.int .u64 (off:Int),.int .u16 (g:Int),.int .u8 (k:Int)] w K=K (.tuple #[.int .u64 ((ptrN off g k:Nat):Int),.int .i64 0]) w:=by
 rw [aa5 off g k w K oM b oM];have e:sF off g k=true:=by simp [sF,h0,h8,hg,hk,a]
 rw [if_pos ⟨e,ho⟩,if_pos e,if_pos ho]
def J8 {g k:Nat} (h:bR g k 177=true):g≠0/\k≠0/\k<=127:=by simpa [bR,and_assoc] using h
def XI {g k:Nat} (h:bR g k 176=true):g≠0/\k=0:=by simpa [bR] using h
def acv {g k s:Nat} (h:bR g k s=true):s=176\/s=177\/s=178:=by
 unfold bR at h;split at h
 ·exact .inl (by assumption)
 ·split at h
  ·exact .inr (.inl (by assumption))
  ·split at h
   ·exact .inr (.inr (by assumption))
   ·cases h
def wL (h:Cx w Y D l c) (he:D.err 0=0) (o:Int) (g:Nat) (i:Int) (k:Nat) (hk:k<256) (K:K1)
  (hR:¬(0<=i/\i<perS c)->∀w',Ext w w'->K (pE 0 2) w')
  (hF:∀j:Nat,i=(j:Int)->(j:Int)<perS c->¬sndB D l c j->∀w',Ext w w'->K (pE 0 11) w')
  (hS:∀j:Nat,i=(j:Int)->(j:Int)<perS c->sndB D l c j->bS (wd D l (offN c j))=178->∀w',Ext w w'->K (pE 0 12) w')
  (hT:∀j:Nat,i=(j:Int)->(j:Int)<perS c->sndB D l c j->bS (wd D l (offN c j))=177->∀w',Ext w w'->K (pE (ptrN (pOff l c j) (bG (wd D l (offN c j))) (bK (wd D l (offN c j)))) 0) w')
  (hA:∀j:Nat,i=(j:Int)->(j:Int)<perS c->sndB D l c j->bS (wd D l (offN c j))=176->(k=0\/127<k)->∀w',Ext w w'->K (pE 0 1) w')
  (hN:∀j:Nat,i=(j:Int)->(j:Int)<perS c->sndB D l c j->bS (wd D l (offN c j))=176->k≠0->k<=127->∀w',Ext w w'->K (pE (ptrN (pOff l c j) (bG (wd D l (offN c j))) k) 0) w'):
  ad prog 122 #[chV Y l c o g,.int .i64 i,.int .u8 (k:Int)] w K:=by
 have b:∀(w1:al) (K:K1),Ext w w1->ad prog 28 #[.pointer (some ⟨Y.tb 0,0,none⟩)] w1 K=K (.int .i64 0) w1:=λw1 K e=>by rw [cM (h.dv.ext e) 0 oM K,he]
 have B:=h.at_ o g;have O:=h.hl;have Q:=h.n;have p:=λ(w1:al) (K:K1) (e:Ext w w1) (hk:∀w',Ext w1 w'->K (.bool (decide (0<=i)&&decide (i<perS c))) w')=>S8 (h.ext e) o g i K hk
 by_cases hi:0<=i/\i<perS c
 ·obtain ⟨j,rfl⟩:∃j:Nat,i=(j:Int):=⟨i.toNat,by omega⟩;have eb:(decide (0<=(j:Int))&&decide ((j:Int)<perS c))=true:=by simp [hi]
  rw [eb] at p;have hF:=hF j rfl hi.2;have hS:=hS j rfl hi.2;have hT:=hT j rfl hi.2;have hA:=hA j rfl hi.2;have hN:=hN j rfl hi.2;have L:=λ(w1:al) (K:K1) (e:Ext w w1) hk=>oY (h.ext e) o g j hi.2 K hk
  have bd:=aK h.c0 h.c5 hi.2;have z:∀(w1:al) (K:K1),Ext w w1->ad prog 170 #[chV Y l c o g,.int .i64 (j:Int)] w1 K=K (.int .u64 ((l*64+offN c j*8:Nat):Int)) (w1.alloc (chO Y l c o g)):=λw1 K e=>B w1 j K e hi.2
  have H:=cU (wd D l (offN c j));have P:=Td (wd D l (offN c j));unfold sndB pOff at*;clear B;generalize hx:wd D l (offN c j)=x at*;generalize hy:wd D l 1=y at*;generalize offN c j=q at*;have I:Ext w (w.alloc (chO Y l c o g)):=Ext.alloc_self _ _;refine wi _ _ _ _ _ ?_;unfold GR;refine zS0 ?_;refine p _ _ xZ (λw1 r=> ?_);have e1:Ext w w1:=I.trans r;have t:=bm r;have c0:=t.1;have c1:=t.2.1;have c2:=t.2.2.1;have c3:=t.2.2.2.1;have c4:=t.2.2.2.2;refine dY c0 c1 c2 c3 c4 b ?_;refine L _ _ e1 (λw2 C=> ?_);have e2:Ext w w2:=e1.trans C;have v:=r.trans C;have f:=bm v;have d0:=f.1;have d1:=f.2.1;have d2:=f.2.2.1;have d3:=f.2.2.2.1;have d4:=f.2.2.2.2;have S:w.heap.size<w2.heap.size:=ay d0;have u:∀(ss kk:Nat) (w3:al),kk≠0->kk<=127->bG x≠0->Ext (w2.alloc (.cells #[.int .u16 (bG x:Int),.int .u8 (bK x:Int),.int .u8 (ss:Int)] 200)) w3->(∀w',Ext w w'->K (pE (ptrN (l*64+q*8+8) (bG x) kk) 0) w')->qO K (.int .i64 (j:Int)) (.int .u8 (kk:Int)) (.pointer (some ⟨w.heap.size,0,none⟩)) (.pointer (some ⟨w2.heap.size,0,none⟩)) w3:=by
   intro ss kk w3 N M J e3 hK;have E:Ext w2 w3:=Ext.trans xZ e3;have R:=e2.trans E;have G:=v.trans E;have d:=bm G;have a0:=d.1;have a1:=d.2.1;have a2:=d.2.2.1;have a3:=d.2.2.2.1;have a4:=d.2.2.2.2;have z0:w3.cell? ⟨w2.heap.size,0,none⟩=some (.int .u16 (bG x:Int)):=by
    rw [e3.cell _ 0 (by simp only [RZ];omega),aO _ _ _ _ _ rfl];rfl
   have T:w2.heap.size<w3.heap.size:=ay z0;have F:∀(w4:al) (K:K1),ad prog 169 #[.int .u64 ((l*64+q*8+8:Nat):Int),.int .u16 (bG x:Int),.int .u8 (kk:Int)] w4 K=K (.tuple #[.int .u64 ((ptrN (l*64+q*8+8) (bG x) kk:Nat):Int),.int .i64 0]) w4:=λw4 K=>Tg _ _ _ w4 K oM oM oM J H N M
   rw [GQ];unfold wh
   (repeat' first|refine ak (λ_=> ?_) (λ_=> ?_)|refine am ?_ ?_|refine fp a0 a1 a2 a3 a4 z0 z F ?_|exact BY a0 a1 a2 a3 a4 z0 z F|fail)
   exact hK _ xZ
  by_cases t1:isS x=true
  ·by_cases t2:bR (bG x) (bK x) (bS x)=true
   ·rcases acv t2 with s|s|s
    ·have a:=t2;rw [s] at a;by_cases t3:aS y j=true
     ·refine qe d0 d1 d2 d3 d4 b t1 a t3 s @cS @bq1 @bq2 @bq3 @bq4 @bq4 @bq4 @bq4 ?_;exact hF (λhs=>by have:=hs.2.2;simp [t3,s] at this) _ xZ
     ·have t3:aS y j=false:=by simpa using t3
      have m:isS x=true/\bR (bG x) (bK x) (bS x)=true/\aS y j= !decide (bS x=176):=⟨t1,t2,by simp [t3,s]⟩;by_cases k0:k=0
      ·subst k0;refine qe d0 d1 d2 d3 d4 b t1 a t3 s @cS @bq1 @bq2 @bq3 @bq4 @bq4 @bq4 @bq4 ?_;exact hA m s (.inl rfl) _ xZ
      ·by_cases k1:k<=127
       ·refine qe d0 d1 d2 d3 d4 b t1 a t3 s @cS @bq1 @bq2 @bq3 @bq4 @bq4 @bq4 @bq4 ?_;exact u 176 k _ k0 k1 (XI a).1 xZ (hN m s k0 k1)
       ·refine qe d0 d1 d2 d3 d4 b t1 a t3 s @cS @bq1 @bq2 @bq3 @bq4 @bq4 @bq4 @bq4 ?_;exact hA m s (.inr oM) _ xZ
    ·have a:=t2;rw [s] at a;by_cases t3:aS y j=true
     ·have m:isS x=true/\bR (bG x) (bK x) (bS x)=true/\aS y j= !decide (bS x=176):=⟨t1,t2,by simp [t3,s]⟩;have g7:=J8 a;refine qe d0 d1 d2 d3 d4 b t1 a t3 s @cS @bq1 @bq2 @bq3 @bq4 @bq4 @bq4 @bq4 ?_;exact u 177 (bK x) _ g7.2.1 g7.2.2 g7.1 xZ (hT m s)
     ·have t3:aS y j=false:=by simpa using t3
      refine qe d0 d1 d2 d3 d4 b t1 a t3 s @cS @bq1 @bq2 @bq3 @bq4 @bq4 @bq4 @bq4 ?_;exact hF (λhs=>by have:=hs.2.2;simp [t3,s] at this) _ xZ
    ·have a:=t2;rw [s] at a;by_cases t3:aS y j=true
     ·have m:isS x=true/\bR (bG x) (bK x) (bS x)=true/\aS y j= !decide (bS x=176):=⟨t1,t2,by simp [t3,s]⟩;refine qe d0 d1 d2 d3 d4 b t1 a t3 s @cS @bq1 @bq2 @bq3 @bq4 @bq4 @bq4 @bq4 ?_;exact hS m s _ xZ
     ·have t3:aS y j=false:=by simpa using t3
      refine qe d0 d1 d2 d3 d4 b t1 a t3 s @cS @bq1 @bq2 @bq3 @bq4 @bq4 @bq4 @bq4 ?_;exact hF (λhs=>by have:=hs.2.2;simp [t3,s] at this) _ xZ
   ·have a:bR (bG x) (bK x) (bS x)=false:=by simpa using t2
    refine jk d0 d1 d2 d3 d4 b t1 a @cS @cS @cS ?_;exact hF (λhs=>t2 hs.2.1) _ xZ
  ·have A:isS x=false:=by simpa using t1
   refine fp d0 d1 d2 d3 d4 b A A ?_;exact hF (λhs=>t1 hs.1) _ xZ
 ·have eb:(decide (0<=i)&&decide (i<perS c))=false:=by simp;omega
  rw [eb] at p;refine wi _ _ _ _ _ ?_;unfold GR;refine zS0 ?_;refine p _ _ xZ (λw1 r=> ?_);have e1:Ext w w1:=(Ext.alloc_self _ _).trans r;refine zS0 ?_;exact hR hi _ e1
end
section
variable {w w':al} {Y:Lay} {D:DS} {l:Nat} {c o:Int} {g:Nat}
def mJ {c:Int} (h0:0<=c) (h5:c<5):∃z n:Nat,wordsS c=(z:Int)/\perS c=(n:Int)/\n*(z+1)<=248/\3<=z/\z<=60/\∀k:Nat,offN c k=8+k*(z+1):=by
 have hw:=aW h0 h5;have hp:=aJ h0 h5;obtain ⟨z,hz⟩:∃z:Nat,wordsS c=(z:Int):=⟨(wordsS c).toNat,by omega⟩;have e:(248:Int)/((z:Int)+1)=((248/(z+1):Nat):Int):=by
  rw [Int.natCast_ediv];rfl
 refine ⟨z,248/(z+1),hz,by rw [hp.1,hz,e],Nat.div_mul_le_self _ _,by omega,by omega,λk=> ?_⟩;unfold offN lP;rw [hz];have:(8+(k:Int)*((z:Int)+1))=((8+k*(z+1):Nat):Int):=by simp
 rw [this,ab]
def Th (hG:bq w) (h0:0<=c) (h5:c<5) (b:Nat) (hw:b<256) (K:K1)
  (d:(∀k:Nat,(k:Int)<perS c->b≠offN c k+1)->K (.tuple #[.int .i64 0,.bool false]) w)
  (g:∀k:Nat,(k:Int)<perS c->b=offN c k+1->K (.tuple #[.int .i64 (k:Int),.bool true]) w):
  ad prog 138 #[.int .i64 c,.int .i64 (b:Int)] w K:=by
 obtain ⟨z,n,hz,hn,i,z3,l,h⟩:=mJ h0 h5;have f:=(aW h0 h5).1;rw [hz] at f;have e:∀K:K1,ad prog 135 #[.int .i64 c] w K=K (.int .i64 (n:Int)) w:=λK=>by rw [bY c w K hG,hn]
 have j:0<n:=by have:=aJ h0 h5;omega
 refine Nf _ _ _ _ ?_;unfold Ru;rw [hn] at d g;by_cases h8:b<=8
 ·refine zS1 e ?_;exact d (λk hk=>by rw [h];omega)
 ·obtain ⟨a,rfl⟩:∃a,b=a+9:=⟨b-9,by omega⟩;have ea:(((a+9:Nat):Int)-8-1)=(a:Int):=oM;have eb:((z:Int)+1)=((z+1:Nat):Int):=oM;have ec:((a:Nat):Int)%((z+1:Nat):Int)=((a%(z+1):Nat):Int):=oM;have ed:((a:Nat):Int)/((z+1:Nat):Int)=((a/(z+1):Nat):Int):=oM;have dm:=Nat.div_add_mod a (z+1);have key:∀k,a+9=offN c k+1↔a=k*(z+1):=λk=>by rw [h];omega
  by_cases hm:a%(z+1)=0
  ·have hq:a=a/(z+1)*(z+1):=by rw [hm,ep] at dm;omega
   by_cases hl:a/(z+1)<n
   ·simp (disch:=try exact dZ) only [↓RBp,↓RA,↓reduceIte,Nat.reduceAdd,Nat.reduceMul,Nat.reduceEqDiff,RB,RX,RA2,e,hG.pay,<-f,ea,eb,ec,ed,hm];exact g _ oM ((key _).2 hq)
   ·simp (disch:=try exact dZ) only [↓RBp,↓RA,↓reduceIte,Nat.reduceAdd,Nat.reduceMul,Nat.reduceEqDiff,RB,RX,RA2,e,hG.pay,<-f,ea,eb,ec,ed,hm];refine d (λk hk he=> ?_);have h1:=(key k).1 he;apply hl;rw [h1,Nat.mul_div_cancel _ oM];omega
  ·simp (disch:=try exact dZ) only [↓RBp,↓RA,↓reduceIte,Nat.reduceAdd,Nat.reduceMul,Nat.reduceEqDiff,RB,RX,RA2,e,hG.pay,<-f,ea,eb,ec,ed,hm];refine d (λk hk he=> ?_);have h1:=(key k).1 he;apply hm;rw [h1];exact Nat.mul_mod_left _ _
def jI {c:Int} (h0:0<=c) (h5:c<5) {j k:Nat} (h:offN c j=offN c k):j=k:=by
 obtain ⟨z,n,hz,hn,d,z3,b,a⟩:=mJ h0 h5;rw [a,a] at h;have:j*(z+1)=k*(z+1):=oM;exact Nat.eq_of_mul_eq_mul_right oM this
def aa9 (hG:bq w) (h0:0<=c) (h5:c<5) (hl:l<=4096) (Y:Lay) (o:Int) (g off:Nat) (h8:off%8=0) (d:off<18446744073709551616) (K:K1)
  (a:(∀k:Nat,(k:Int)<perS c->off≠pOff l c k)->∀w',Ext w w'->K (.tuple #[.int .i64 0,.bool false]) w')
  (b:∀k:Nat,(k:Int)<perS c->off=pOff l c k->∀w',Ext w w'->K (.tuple #[.int .i64 (k:Int),.bool true]) w'):
  ad prog 130 #[chV Y l c o g,.int .u64 (off:Int)] w K:=by
 have bd:∀k:Nat,(k:Int)<perS c->8<=offN c k/\offN c k<255:=λk hk=>by
  have h1:=aK h0 h5 hk;have h2:=bF h0 h5 (show 0<=(k:Int) by omega) hk;have h3:=aW h0 h5;omega
 unfold pOff at*;refine NZ _ _ _ _ ?_;unfold SL;by_cases h1:off<l*64
 ·refine zS2 @cC @ab ?_;exact a (λk hk=>by have:=bd k hk;omega) _ xZ
 ·obtain ⟨q,rfl⟩:∃q,off=l*64+q*8:=⟨(off-l*64)/8,by omega⟩;have e1:l*64+q*8-l*64=q*8:=oM;have e2:q*8/8=q:=oM;by_cases h2:256<=q
  ·have h3:2048<=q*8:=oM;refine zS4 @cC @ab e1 e2 ?_;exact a (λk hk=>by have:=bd k hk;omega) _ xZ
  ·have h3:¬2048<=q*8:=oM;refine zS4 @cC @ab e1 e2 ?_;refine Th (hG.ext xZ) h0 h5 q oM _ (λhn=> ?_) (λk hk he=> ?_)
   ·refine zS0 ?_;exact a (λk hk he=>hn k hk oM) _ xZ
   ·refine zS0 ?_;exact b k hk oM _ xZ
end
section
variable {w w':al} {Y:Lay} {D:DS} {l:Nat} {c o:Int} {g:Nat}
def pO (p:Nat):Nat:=p%4294967296*8
def pG (p:Nat):Nat:=p/4294967296%65536
def pK (p:Nat):Nat:=p/281474976710656%256
def jJ (p:Nat) (w:al) (K:K1) (hp:p<18446744073709551616):ad prog 73 #[.int .u64 (p:Int)] w K=K (.bool (decide (p=0))) w:=by
 refine ao (by kernel_rfl) (Rq _ _ _ ?_) K;unfold Zr;exact yS0
def eU (p:Nat) (w:al) (K:K1) (hp:p<18446744073709551616):ad prog 20 #[.int .u64 (p:Int)] w K=K (.int .u64 ((pO p:Nat):Int)) w:=by
 refine ao (by kernel_rfl) (Ro _ _ _ ?_) K;unfold Zp pO;exact yS0
def pf (p:Nat) (w:al) (K:K1) (hp:p<18446744073709551616):ad prog 132 #[.int .u64 (p:Int)] w K=K (.int .u16 ((pG p:Nat):Int)) w:=by
 refine ao (by kernel_rfl) (Nc _ _ _ ?_) K;unfold Rs pG;exact yS0
def ja (p:Nat) (w:al) (K:K1) (hp:p<18446744073709551616):ad prog 60 #[.int .u64 (p:Int)] w K=K (.int .u8 ((pK p:Nat):Int)) w:=by
 refine ao (by kernel_rfl) (Rp _ _ _ ?_) K;unfold Zq pK;exact yS0
abbrev iE (i e:Int):aB:= .tuple #[.int .i64 i,.int .i64 e]
def sT (D:DS) (l:Nat) (c:Int) (k gg:Nat):Prop:=isS (wd D l (offN c k))=true/\aS (wd D l 1) k=true/\bS (wd D l (offN c k))=177/\bG (wd D l (offN c k))=gg
def XJ (h:Cx w Y D l c) (he:D.err 0=0) (o:Int) (g:Nat) (p:Nat) (hp:p<18446744073709551616) (K:K1)
  (hZ:p=0->∀w',Ext w w'->K (iE 0 1) w')
  (hR:p≠0->(72057594037927936<=p\/∀k:Nat,(k:Int)<perS c->pO p≠pOff l c k)->∀w',Ext w w'->K (iE 0 2) w')
  (hS:p≠0->p<72057594037927936->∀k:Nat,(k:Int)<perS c->pO p=pOff l c k->¬sT D l c k (pG p)->∀w',Ext w w'->K (iE 0 12) w')
  (hW:p≠0->p<72057594037927936->∀k:Nat,(k:Int)<perS c->pO p=pOff l c k->sT D l c k (pG p)->bK (wd D l (offN c k))≠pK p->∀w',Ext w w'->K (iE 0 13) w')
  (hY:p≠0->p<72057594037927936->∀k:Nat,(k:Int)<perS c->pO p=pOff l c k->sT D l c k (pG p)->bK (wd D l (offN c k))=pK p->∀w',Ext w w'->K (iE (k:Int) 0) w'):
  ad prog 76 #[chV Y l c o g,.int .u64 (p:Int)] w K:=by
 have a:∀(w1:al) (K:K1),Ext w w1->ad prog 28 #[.pointer (some ⟨Y.tb 0,0,none⟩)] w1 K=K (.int .i64 0) w1:=λw1 K e=>by rw [cM (h.dv.ext e) 0 oM K,he]
 have hl:=h.hl;have hn:=h.n;have s:pO p%8=0:=by unfold pO;omega
 have u:pO p<18446744073709551616:=by unfold pO;omega
 have A:pG p<65536:=by unfold pG;omega
 have B:pK p<256:=by unfold pK;omega
 refine SB _ _ _ _ ?_;unfold Zw;by_cases p0:p=0
 ·subst p0;refine zS1 @jJ ?_;exact hZ rfl _ xZ
 ·have hR:=hR p0;have hS:=hS p0;have hW:=hW p0;have hY:=hY p0;have e0:Ext w (w.alloc (chO Y l c o g)):=Ext.alloc_self _ _
  (repeat' first|refine ak (λ_=> ?_) (λ_=> ?_)|refine am ?_ ?_|refine eQ @jJ @eU p0 ?_|exact BX @jJ @eU p0|fail)
  refine aa9 (h.gl.ext xZ) h.c0 h.c5 oM Y o g (pO p) s u _ (λt w1 e1=> ?_) (λk hk j w1 e1=> ?_)
  ·have f:Ext w w1:=Ext.trans xZ e1;refine zS0 ?_;exact hR (.inr t) _ f
  ·have f:Ext w w1:=Ext.trans xZ e1;have ea:Ext (w.alloc (chO Y l c o g)) w1:=Ext.trans xZ e1;have d:=bm ea;have c0:=d.1;have c1:=d.2.1;have c2:=d.2.2.1;have c3:=d.2.2.2.1;have c4:=d.2.2.2.2;have m:p/72057594037927936=0↔p<72057594037927936:=oM;by_cases hp56:p<72057594037927936
   ·have hd0:=m.2 hp56;have hS:=hS hp56 k hk j;have hW:=hW hp56 k hk j;have hY:=hY hp56 k hk j;refine fp c0 c1 c2 c3 c4 a hd0 hd0 ?_;refine oY (h.ext f) o g k hk _ (λw2 e2=> ?_);have E:=f.trans e2;have eb:=ea.trans e2;have b:=bm eb;have d0:=b.1;have d1:=b.2.1;have d2:=b.2.2.1;have d3:=b.2.2.2.1;have d4:=b.2.2.2.2;have C:w.heap.size<w2.heap.size:=ay d0;have v:=cU (wd D l (offN c k));have z:=Td (wd D l (offN c k));unfold sT at hS hW hY;generalize wd D l (offN c k)=x at*;generalize wd D l 1=y at*;by_cases t1:isS x=true
    ·by_cases t2:aS y k=true
     ·by_cases t3:bS x=177
      ·by_cases t4:bG x=pG p
       ·have r:isS x=true/\aS y k=true/\bS x=177/\bG x=pG p:=⟨t1,t2,t3,t4⟩;by_cases t5:bK x=pK p
        ·(repeat' first|refine ak (λ_=> ?_) (λ_=> ?_)|refine am ?_ ?_|refine IZ d0 d1 d2 d3 d4 a t1 t2 t3 t4 @pf @ja t5 t5 ?_|exact I1 d0 d1 d2 d3 d4 a t1 t2 t3 t4 @pf @ja t5 t5|fail)
         exact hY r t5 _ xZ
        ·(repeat' first|refine ak (λ_=> ?_) (λ_=> ?_)|refine am ?_ ?_|refine IZ d0 d1 d2 d3 d4 a t1 t2 t3 t4 @pf @ja t5 t5 ?_|exact I1 d0 d1 d2 d3 d4 a t1 t2 t3 t4 @pf @ja t5 t5|fail)
         exact hW r t5 _ xZ
       ·(repeat' first|refine ak (λ_=> ?_) (λ_=> ?_)|refine am ?_ ?_|refine jk d0 d1 d2 d3 d4 a t1 t2 t3 t4 @pf ?_|exact rO d0 d1 d2 d3 d4 a t1 t2 t3 t4 @pf|fail)
        exact hS (λhs=>t4 hs.2.2.2) _ xZ
      ·(repeat' first|refine ak (λ_=> ?_) (λ_=> ?_)|refine am ?_ ?_|refine jk d0 d1 d2 d3 d4 a t1 t2 t3 t3 t3 ?_|exact rO d0 d1 d2 d3 d4 a t1 t2 t3 t3 t3|fail)
       exact hS (λhs=>t3 hs.2.2.1) _ xZ
     ·have q:aS y k=false:=by simpa using t2
      (repeat' first|refine ak (λ_=> ?_) (λ_=> ?_)|refine am ?_ ?_|refine fp d0 d1 d2 d3 d4 a t1 q ?_|exact BY d0 d1 d2 d3 d4 a t1 q|fail)
      exact hS (λhs=>t2 hs.2.1) _ xZ
    ·have i:isS x=false:=by simpa using t1
     (repeat' first|refine ak (λ_=> ?_) (λ_=> ?_)|refine am ?_ ?_|refine fp d0 d1 d2 d3 d4 a i i ?_|exact BY d0 d1 d2 d3 d4 a i i|fail)
     exact hS (λhs=>t1 hs.1) _ xZ
   ·have hd0:¬p/72057594037927936=0:=λh=>hp56 (m.1 h)
    refine gG hd0 ?_;exact hR (.inl oM) _ f
end
section
variable {w w':al} {Y:Lay} {D:DS} {l:Nat} {c o:Int} {g:Nat}
def mskN (D:DS) (l:Nat) (c:Int):Nat->Nat
 |0=>0
 |n+1=>if bS (wd D l (offN c n))=176 then mskN D l c n else mskN D l c n|||2^n
def gdN (D:DS) (l:Nat) (c:Int):Nat->Bool
 |0=>true
 |n+1=>gdN D l c n&&(isS (wd D l (offN c n))&&bR (bG (wd D l (offN c n))) (bK (wd D l (offN c n))) (bS (wd D l (offN c n))))
def Cn (D:DS) (l:Nat):Nat->Bool
 |0=>true
 |n+1=>Cn D l n&&decide (wd D l (n+2)=0)
def J9 (D:DS) (l:Nat) (c:Int):∀n,mskN D l c n<2^n:=by
 intro n
 induction n with
 |zero=>simp [mskN]
 |succ n ih=>
  have h2:2^n<2^(n+1):=f6 (by decide) oM;simp only [mskN];split
  ·omega
  ·exact ds oM h2
def aba {D:DS} {l:Nat} {c:Int}:∀{n i:Nat},i<n->(isS (wd D l (offN c i))&&bR (bG (wd D l (offN c i))) (bK (wd D l (offN c i))) (bS (wd D l (offN c i))))=false->gdN D l c n=false:=by
 intro n
 induction n with
 |zero=>intro i h;omega
 |succ n ih=>
  intro i h he;simp only [gdN];by_cases e:i=n
  ·subst e;simp only [he,Bool.and_false]
  ·rw [ih (i:=i) oM he];rfl
def XK {D:DS} {l:Nat}:∀{n i:Nat},i<n->wd D l (i+2)≠0->Cn D l n=false:=by
 intro n
 induction n with
 |zero=>intro i h;omega
 |succ n ih=>
  intro i h he;simp only [Cn];by_cases e:i=n
  ·subst e;simp [he]
  ·rw [ih (i:=i) oM he];rfl
def G6 (D:DS) (l:Nat) (c o:Int):Bool:=dQ (wd D l 0)&&(decide (hC (wd D l 0)=c)&&(decide (hO (wd D l 0)=o)&&(Cn D l 6&&(gdN D l c (perS c).toNat&&decide (wd D l 1=mskN D l c (perS c).toNat)))))
def Ag (h:Cx w Y D l c) (o:Int) (g:Nat) (K:K1) (hK:∀w',Ext w w'->K (.bool (G6 D l c o)) w'):
  ad prog 182 #[chV Y l c o g] w K:=by
 have hp:=aJ h.c0 h.c5;obtain ⟨n,hn⟩:∃n:Nat,perS c=(n:Int):=⟨(perS c).toNat,by omega⟩;have hl:=h.hl;have a7:=h.n;have ld:∀(w1:al) (K:K1),Ext w w1->ad prog 32 #[.pointer (some ⟨Y.tb 0,0,none⟩),.int .u64 ((l*64:Nat):Int)] w1 K=K (.int .u64 (wd D l 0:Int)) w1:=λw1 K he=>h.loadE w1 0 K he oM
 have S:=h.wd_lt 0 oM;have e0:Ext w (w.alloc (chO Y l c o g)):=Ext.alloc_self _ _;have no:G6 D l c o=false->∀w',Ext w w'->K (.bool false) w':=λhf w' e=>by have:=hK w' e;rw [hf] at this;exact this
 refine Of _ _ _ ?_;unfold SZ;refine eQ @cC @ab ld ?_;refine sE (wd D l 0) _ _ (h.gl.ext xZ) S (λw1 e1=> ?_);have ea:Ext (w.alloc (chO Y l c o g)) w1:=Ext.trans xZ e1;have W:=e0.trans ea;have j:=bm ea;have c0:=j.1;have c1:=j.2.1;have c2:=j.2.2.1;have c3:=j.2.2.2.1;have c4:=j.2.2.2.2;have Z:w.heap.size<w1.heap.size:=ay c0;unfold G6 at hK no;rw [hn,ab] at hK no
 cases hh:dQ (wd D l 0) with
 |false=>
  rw [hh] at no;unfold hdV;refine dY c0 c1 c2 c3 c4 c4 ?_;exact no rfl _ xZ
 |true=>
  by_cases hc:hC (wd D l 0)=c
  ·by_cases ho:hO (wd D l 0)=o
   ·rw [hh,decide_eq_true hc,decide_eq_true ho] at hK no;simp only [bv] at hK no;simp only [if_true];unfold hdV;rw [hc,ho];refine dY c0 c1 c2 c3 c4 c4 ?_;generalize gX (wd D l 0)=gx;have hld:=h.loadE;apply z6 (I:=λz w'=>∃q:Nat,z= .int .u64 ((q+2:Nat):Int)/\q<=6/\Cn D l q=true/\Ext (w.alloc (chO Y l c o g)) w') (μ:=λz _=>8-(intOf z).toNat)
    ·exact ⟨0,rfl,by omega,rfl,xZ⟩
    ·intros;rename_i w2 hI E1 hE;obtain ⟨q,rfl,hq,hz,eb⟩:=hI;have V:=e0.trans eb;have k:=bm eb;have d0:=k.1;have d1:=k.2.1;have d2:=k.2.2.1;have d3:=k.2.2.2.1;have d4:=k.2.2.2.2;unfold wE;by_cases F:q<6
     ·have e8:(q+2)*8+l*64=l*64+(q+2)*8:=oM;by_cases hw0:wd D l (q+2)=0
      ·refine fp d0 d1 d2 d3 d4 hld hw0 hw0 ?_;apply hE
       ·exact ⟨q+1,by simp;omega,by omega,by simp [Cn,hz,hw0],eb⟩
       ·simp [intOf];omega
      ·refine fp d0 d1 d2 d3 d4 hld hw0 hw0 ?_;exact no (by rw [XK F hw0];rfl) _ V
     ·have F:q=6:=oM;subst F;rw [hz] at hK no;simp only [bv] at hK no;have Q:∀(w1:al) (K:K1),Ext w w1->ad prog 135 #[.int .i64 c] w1 K=K (.int .i64 (n:Int)) w1:=λw1 K he=>by rw [bY c w1 K (h.gl.ext he),hn]
      refine fp d0 d1 d2 d3 d4 Q @G0 @wD.eq_1 ?_;apply z7 (I:=λy z w'=>∃i:Nat,z= .int .i64 (i:Int)/\i<=n/\y= .int .u64 ((mskN D l c i:Nat):Int)/\gdN D l c i=true/\Ext (w.alloc (chO Y l c o g)) w') (μ:=λ_ z _=>n-(intOf z).toNat)
      ·exact ⟨0,rfl,by omega,rfl,rfl,eb⟩
      ·intros;rename_i w3 T E3 O;obtain ⟨i,rfl,hi,rfl,hg,ec⟩:=T;have a3:=e0.trans ec;have f:=bm ec;have q0:=f.1;have q1:=f.2.1;have q2:=f.2.2.1;have q3:=f.2.2.2.1;have q4:=f.2.2.2.2;have a5:w.heap.size<w3.heap.size:=ay q0;by_cases hin:i<n
       ·have bd:=aK h.c0 h.c5 (i:=i) oM;have J:=h.at_ o g;have M:=h.wd_lt (offN c i) bd.2.2;have hm:=J9 D l c i;have L:mskN D l c i<18446744073709551616:=cj hm (by have:=gm (show i<64 by omega);omega);have G:=gm (show i<64 by omega);have P:1*2^i%18446744073709551616=2^i:=by rw [fe];exact cw G
        have a4:=mF L G;have C:gdN D l c (i+1)=(isS (wd D l (offN c i))&&bR (bG (wd D l (offN c i))) (bK (wd D l (offN c i))) (bS (wd D l (offN c i)))):=by simp only [gdN,hg,bv]
        have A:mskN D l c (i+1)=if bS (wd D l (offN c i))=176 then mskN D l c i else mskN D l c i|||2^i:=rfl
        have E:=λhf=>no (by rw [aba (D:=D) (l:=l) (c:=c) hin hf];rfl)
        have B:∀(w1:al) (K:K1),Ext w w1->ad prog 170 #[chV Y l c o g,.int .i64 (i:Int)] w1 K=K (.int .u64 ((l*64+offN c i*8:Nat):Int)) (w1.alloc (chO Y l c o g)):=λw1 K e=>J w1 i K e oM
        have m:∀(w1:al) (K:K1),Ext w w1->ad prog 32 #[.pointer (some ⟨Y.tb 0,0,none⟩),.int .u64 ((l*64+offN c i*8:Nat):Int)] w1 K=K (.int .u64 (wd D l (offN c i):Int)) w1:=λw1 K e=>hld w1 _ K e bd.2.2
        have v:∀(w1:al) (K:K1),Ext w w1->(∀w',Ext w1 w'->K (.tuple #[.agg #[.int .u16 (bG (wd D l (offN c i)):Int),.int .u8 (bK (wd D l (offN c i)):Int),.int .u8 (bS (wd D l (offN c i)):Int)],.bool (isS (wd D l (offN c i)))]) w')->ad prog 176 #[.int .u64 (wd D l (offN c i):Int)] w1 K:=λw1 K e hk=>wJ _ w1 K (h.gl.ext e) M hk
        clear J hld;generalize wd D l (offN c i)=x at*;generalize offN c i=qq at*;have p:∀(b:Nat) (w4:al),w4.cell? ⟨b,0,none⟩=some (.int .u16 (bG x:Int))->w4.cell? ⟨b,1,none⟩=some (.int .u8 (bK x:Int))->w4.cell? ⟨b,2,none⟩=some (.int .u8 (bS x:Int))->Ext (w.alloc (chO Y l c o g)) w4->kz K E3 (.pointer (some ⟨w.heap.size,0,none⟩)) (.int .u64 ((mskN D l c i:Nat):Int)) (.int .i64 (i:Int)) (.pointer (some ⟨b,0,none⟩)) (.bool (isS x)) (.int .i64 (n:Int)) (.int .i64 (i:Int)) w4:=by
         intro b w4 a0 a1 a2 ed;have a6:=e0.trans ed;have ltb:b<w4.heap.size:=ay a0;rw [G3];unfold wI;have k3:∀(y:Nat) (w5:al),Ext w4 w5->gdN D l c (i+1)=true->mskN D l c (i+1)=y->qP K E3 (.pointer (some ⟨w.heap.size,0,none⟩)) (.int .u64 (y:Int)) (.int .i64 (n:Int)) (.int .i64 (i:Int)) w5:=by
          intro y w5 e5 U R;rw [G2];unfold wH;refine zS0 ?_;apply O
          ·exact ⟨i+1,by simp,by omega,by rw [R],U,ed.trans e5⟩
          ·simp [intOf];omega
         by_cases t1:isS x=true
         ·by_cases t2:bR (bG x) (bK x) (bS x)=true
          ·rw [t1,t2] at C;by_cases t3:bS x=176
           ·rw [if_pos t3] at A;have u:=t2;rw [t3] at u;refine fp a0 a1 a2 t1 u t3 @cS @cS ?_;exact k3 _ _ xZ C A
           ·rw [if_neg t3] at A;refine fp a0 a1 a2 t1 t2 t3 @cS P ?_;exact k3 _ _ xZ C A
          ·have u:bR (bG x) (bK x) (bS x)=false:=by simpa using t2
           refine dY a0 a1 a2 t1 u @cS ?_;exact E (by rw [t1,u];rfl) _ xZ
         ·have H:isS x=false:=by simpa using t1
          refine rN a0 a1 a2 H ?_;exact E (by rw [H];rfl) _ xZ
        unfold oV
        (repeat' first|refine ak (λ_=> ?_) (λ_=> ?_)|refine am ?_ ?_|refine fp q0 q1 q2 q3 q4 B m m ?_|exact BY q0 q1 q2 q3 q4 B m m|fail)
        ·refine v _ _ xZ (λw4 e4=> ?_);have d:Ext w3 w4:=Ext.trans xZ e4;have ed:=ec.trans d;have a:=bm ed;have s0:=a.1;have s1:=a.2.1;have s2:=a.2.2.1;have s3:=a.2.2.2.1;have s4:=a.2.2.2.2;have X:w.heap.size<w4.heap.size:=ay s0
         (repeat' first|refine ak (λ_=> ?_) (λ_=> ?_)|refine am ?_ ?_|refine dY s0 s1 s2 s3 s4 s4 ?_|exact Xp s0 s1 s2 s3 s4 s4|fail)
         refine p _ _ ?_ ?_ ?_ xZ<;>simp (disch:=try exact dZ) only [↓RBp,↓RA,↓reduceIte,Nat.reduceAdd,Nat.reduceMul,Nat.reduceEqDiff,RB,RX,RA2]
        ·refine v _ _ xZ (λw4 e4=> ?_);have d:Ext w3 w4:=Ext.trans xZ e4;have ed:=ec.trans d;have hC:af w4 (w3.heap.size+1) 200 3 (λi=> [Value.int .u16 ((0:Nat):Int),.int .u8 ((0:Nat):Int),.int .u8 ((0:Nat):Int)].getD i undef):=by
          have:=(af.new (w3.alloc (chO Y l c o g)) [Value.int .u16 ((0:Nat):Int),.int .u8 ((0:Nat):Int),.int .u8 ((0:Nat):Int)] 200)
          try rw [size_alloc] at this
          exact this.ext (Ext.trans xZ e4)
         have p0:=hC.cell (i:=0) oM;have p1:=hC.cell (i:=1) oM;have p2:=hC.cell (i:=2) oM;have s:=lV hC (.int .u16 (bG x:Int)) (.int .u8 (bK x:Int)) (.int .u8 (bS x:Int));have r0:=s.1;have r1:=s.2.1;have r2:=s.2.2.1;have hD:=s.2.2.2;refine zS8 p0 p1 p2 hC.frz r0 r1 r2 r2 ?_;exact p _ _ r0 r1 r2 xZ
        ·refine v _ _ xZ (λw4 e4=> ?_);have d:Ext w3 w4:=Ext.trans xZ e4;have ed:=ec.trans d;have hC:af w4 (w3.heap.size+1) 200 3 (λi=> [Value.int .u16 ((0:Nat):Int),.int .u8 ((0:Nat):Int),.int .u8 ((0:Nat):Int)].getD i undef):=by
          have:=(af.new (w3.alloc (chO Y l c o g)) [Value.int .u16 ((0:Nat):Int),.int .u8 ((0:Nat):Int),.int .u8 ((0:Nat):Int)] 200)
          try rw [size_alloc] at this
          exact this.ext (Ext.trans xZ e4)
         have p0:=hC.cell (i:=0) oM;have p1:=hC.cell (i:=1) oM;have p2:=hC.cell (i:=2) oM;have t:=lV hC (.int .u16 (bG x:Int)) (.int .u8 (bK x:Int)) (.int .u8 (bS x:Int));have r0:=t.1;have r1:=t.2.1;have r2:=t.2.2.1;have hD:=t.2.2.2;refine zS8 p0 p1 p2 hC.frz r0 r1 r2 r2 ?_;exact p _ _ r0 r1 r2 xZ
        ·refine v _ _ xZ (λw4 e4=> ?_);have d:Ext w3 w4:=Ext.trans xZ e4;have ed:=ec.trans d;have hC:af w4 (w3.heap.size) 200 3 (λi=> [Value.int .u16 ((0:Nat):Int),.int .u8 ((0:Nat):Int),.int .u8 ((0:Nat):Int)].getD i undef):=by
          have:=(af.new w3 [Value.int .u16 ((0:Nat):Int),.int .u8 ((0:Nat):Int),.int .u8 ((0:Nat):Int)] 200)
          try rw [size_alloc] at this
          exact this.ext (Ext.trans xZ e4)
         have p0:=hC.cell (i:=0) oM;have p1:=hC.cell (i:=1) oM;have p2:=hC.cell (i:=2) oM;have r:=lV hC (.int .u16 (bG x:Int)) (.int .u8 (bK x:Int)) (.int .u8 (bS x:Int));have r0:=r.1;have r1:=r.2.1;have r2:=r.2.2.1;have hD:=r.2.2.2;refine zS8 p0 p1 p2 hC.frz r0 r1 r2 r2 ?_;exact p _ _ r0 r1 r2 xZ
       ·have:i=n:=oM;subst this;rw [hg] at hK;simp only [bv] at hK;have N:=h.bits o g;unfold oV;refine fp q0 q1 q2 q3 q4 N @G1 @wG.eq_1 ?_;exact hK _ xZ
   ·rw [hh,decide_eq_true hc,decide_eq_false ho] at no;simp only [if_true];unfold hdV;refine fp c0 c1 c2 c3 c4 hc ho ho ?_;exact no rfl _ xZ
  ·rw [hh,decide_eq_false hc] at no;simp only [if_true];unfold hdV;refine dY c0 c1 c2 c3 c4 hc ?_;exact no rfl _ xZ
def XL (h:Cx w Y D l c) (he:D.err 0=0) (o:Int) (g:Nat) (K:K1) (hK:∀w',Ext w w'->K (.int .i64 (if G6 D l c o=true then 0 else 11)) w'):
  ad prog 153 #[chV Y l c o g] w K:=by
 have b:∀(w1:al) (K:K1),Ext w w1->ad prog 28 #[.pointer (some ⟨Y.tb 0,0,none⟩)] w1 K=K (.int .i64 0) w1:=λw1 K e=>by rw [cM (h.dv.ext e) 0 oM K,he]
 refine N7 _ _ _ ?_;unfold SR;refine gG b ?_;refine Ag (h.ext xZ) o g _ (λw1 e1=> ?_);have ea:Ext (w.alloc (chO Y l c o g)) w1:=Ext.trans xZ e1;have d:Ext w w1:=(Ext.alloc_self _ _).trans ea;have a:=bm ea;have c0:=a.1;have c1:=a.2.1;have c2:=a.2.2.1;have c3:=a.2.2.2.1;have c4:=a.2.2.2.2
 cases hb:G6 D l c o with
 |true=>
  rw [if_pos hb] at hK;refine dY c0 c1 c2 c3 c4 b ?_;exact hK _ xZ
 |false=>
  rw [hb,if_neg (by simp)] at hK;refine dY c0 c1 c2 c3 c4 b ?_;exact hK _ xZ
end
def sU (x i:Nat):aS x i=x.testBit i:=by unfold aS;rw [Nat.testBit_eq_decide_div_mod_eq]
def lX (x y i:Nat):aS (x|||y) i=(aS x i||aS y i):=by simp only [sU,Nat.testBit_or]
def kC (m i:Nat):aS (2^m) i=decide (m=i):=by rw [sU,f9]
def Ka (x m i:Nat) (hi:i<64):aS (x&&&(18446744073709551615^^^2^m)) i=(aS x i&& !decide (m=i)):=by
 have h:(18446744073709551615:Nat).testBit i=true:=by
  have:(18446744073709551615:Nat)=2^64-1:=by decide
  rw [this,fc];simp [hi]
 simp only [sU,Nat.testBit_and,gT,h,f9]
 cases x.testBit i<;>cases decide (m=i)<;>rfl
def dR (L:List Int) (i:Nat):Bool:=L.any λx=>decide (x.toNat=i)
def fM (x:Int) (L:List Int) (i:Nat):dR (x::L) i=(decide (x.toNat=i)||dR L i):=rfl
def fm {L:List Int} {i:Nat} (h:dR L i=true):∃x∈L,x.toNat=i:=by
 unfold dR at h;rw [gj] at h;obtain ⟨x,hx,he⟩:=h;exact ⟨x,hx,by simpa using he⟩
def fE {L:List Int} {x:Int} (h:x∈L):dR L x.toNat=true:=by
 unfold dR;rw [gj];exact ⟨x,h,by simp⟩
def sV {a:Int}:∀{L:List Int} {m m':Nat},onc a L m=some m'->(∀x∈L,aS m x.toNat=false)/\(L.map Int.toNat).Nodup/\∀i,aS m' i=(aS m i||dR L i):=by
 intro L
 induction L with
 |nil=>intro m m' h;injection h with h;subst h;exact ⟨λx hx=>(by cases hx),by simp,λi=>by simp [dR]⟩
 |cons x L ih=>
  intro m m' h;simp only [onc] at h;split at h
  ·rename_i hx;obtain ⟨h1,h2,h3⟩:=ih h;refine ⟨λy hy=> ?_,?_,λi=> ?_⟩
   ·rcases List.mem_cons.1 hy with rfl|hy
    ·exact hx.2
    ·have:=h1 y hy;rw [lX] at this;simp at this;exact this.1
   ·rw [eg,gn];refine ⟨λhm=> ?_,h2⟩;obtain ⟨y,hy,he⟩:=List.mem_map.1 hm;have:=h1 y hy;rw [lX,he,kC] at this;simp at this
   ·rw [h3,lX,kC,fM,g8]
  ·cases h
def kV.nd {c:Int} {L M:List Int} {ks:List Nat} (h:kV c L ks M):(L.map Int.toNat).Nodup/\(M.map Int.toNat).Nodup/\∀i,dR L i=true->dR M i=false:=by
 have h0:=h.onc
 cases h1:Go.Proofs.YtmpehclnnjgmcaaGreatDoor.onc (perS c) L 0 with
 |none=>rw [h1] at h0;cases h0
 |some m=>
  rw [h1,dl] at h0
  cases h2:Go.Proofs.YtmpehclnnjgmcaaGreatDoor.onc (perS c) M m with
  |none=>rw [h2] at h0;cases h0
  |some m'=>
   obtain ⟨a1,a2,a3⟩:=sV h1;obtain ⟨b1,b2,b3⟩:=sV h2;refine ⟨a2,b2,λi hi=> ?_⟩
   cases hM:dR M i with
   |false=>rfl
   |true=>
    obtain ⟨x,hx,rfl⟩:=fm hM;have:=b1 x hx;rw [a3,hi] at this;simp at this
def gK (D:DS) (l:Nat) (c:Int):List Int->List Nat->List (Nat×Nat)
 |x::L,k::ks=>tkW D l c x.toNat k::gK D l c L ks
 |_,_=> []
def orL (L:List Int) (b:Nat):Nat:=L.foldl (λb x=>b|||2^x.toNat) b
def dpL (D:DS) (l:Nat) (c:Int) (L:List Int) (b:Nat):Nat:=L.foldl (λb x=>dpB D l c x.toNat b) b
def mK (x:Int) (L:List Int) (b:Nat):orL (x::L) b=orL L (b|||2^x.toNat):=gs ..
def mM (D:DS) (l:Nat) (c:Int) (x:Int) (L:List Int) (b:Nat):dpL D l c (x::L) b=dpL D l c L (dpB D l c x.toNat b):=gs ..
def kOf:List Int->List Nat->Nat->Option Nat
 |x::L,k::ks,i=>if x.toNat=i then some k else kOf L ks i
 |_,_,_=>none
section
variable {D:DS} {l:Nat} {c o:Int}
def Ti:∀{L:List Int} {ks:List Nat} {a:List (Nat×Nat)} {b:Nat} {r:List (Nat×Nat)×Nat},ks.length=L.length->chT D l c L ks a b=some r->(∀x∈L,tkOk D l c x.toNat=true)/\r.1=a++gK D l c L ks/\r.2=orL L b:=by
 intro L
 induction L with
 |nil=>
  intro ks a b r hk h;have:ks= []:=by simpa using hk
  subst this;simp only [chT] at h;injection h with h;subst h;exact ⟨λx hx=>(by cases hx),by simp [gK],rfl⟩
 |cons x L ih=>
  intro ks a b r hk h
  cases ks with
  |nil=>simp at hk
  |cons k ks=>
   simp only [chT] at h;split at h
   ·rename_i hx;obtain ⟨h1,h2,h3⟩:=ih (by simpa using hk) h;refine ⟨λy hy=> ?_,?_,by rw [mK];exact h3⟩
    ·rcases List.mem_cons.1 hy with rfl|hy
     ·exact hx
     ·exact h1 y hy
    ·rw [h2,gK,da];rfl
   ·cases h
def Ol:∀{M:List Int} {a:List (Nat×Nat)} {b:Nat} {r:List (Nat×Nat)×Nat},jn D l c M a b=some r->(∀x∈M,dpOk D l c x.toNat=true)/\r.1=a++M.map (λx=>dpW D l c x.toNat)/\r.2=dpL D l c M b:=by
 intro M
 induction M with
 |nil=>intro a b r h;simp only [jn] at h;injection h with h;subst h;exact ⟨λx hx=>(by cases hx),by simp,rfl⟩
 |cons x M ih=>
  intro a b r h;simp only [jn] at h;split at h
  ·rename_i hx;obtain ⟨h1,h2,h3⟩:=ih h;refine ⟨λy hy=> ?_,?_,by rw [mM];exact h3⟩
   ·rcases List.mem_cons.1 hy with rfl|hy
    ·exact hx
    ·exact h1 y hy
   ·rw [h2,eg,da];rfl
  ·cases h
def XM:∀(L:List Int) (b i:Nat),aS (orL L b) i=(aS b i||dR L i):=by
 intro L
 induction L with
 |nil=>intro b i;simp [orL,dR]
 |cons x L ih=>intro b i;rw [mK,ih,lX,kC,fM,g8]
def XN:∀(M:List Int) (b i:Nat),i<64->aS (dpL D l c M b) i=(aS b i&& !(dR M i&&decide (freS (bG (wd D l (offN c i)))=176))):=by
 intro M
 induction M with
 |nil=>intro b i _;simp [dpL,dR]
 |cons x M ih=>
  intro b i hi;rw [mM,ih _ _ hi,fM];unfold dpB;by_cases hx:x.toNat=i
  ·rw [hx];by_cases hf:freS (bG (wd D l (offN c i)))=176
   ·rw [if_pos hf,Ka _ _ _ hi];simp [hf]
   ·rw [if_neg hf];simp [hf]
  ·rw [decide_eq_false hx,g9];split
   ·rw [Ka _ _ _ hi,decide_eq_false hx];simp
   ·rfl
def abb:∀(L:List Int) (b:Nat),(∀x∈L,x.toNat<64)->b<18446744073709551616->orL L b<18446744073709551616:=by
 intro L
 induction L with
 |nil=>intro b _ h;exact h
 |cons x L ih=>intro b hx h;rw [mK];exact ih _ (λy hy=>hx y (by simp [hy])) (mF h (gm (hx x (by simp))))
def abc:∀(M:List Int) (b:Nat),b<18446744073709551616->dpL D l c M b<18446744073709551616:=by
 intro M
 induction M with
 |nil=>intro b h;exact h
 |cons x M ih=>
  intro b h;rw [mM];refine ih _ ?_;unfold dpB;split
  ·exact cN fk h
  ·exact h
def Cp:∀{L:List Int} {ks:List Nat} {y:Nat×Nat},y∈gK D l c L ks->∃x∈L,∃k∈ks,y=tkW D l c x.toNat k/\((L.map Int.toNat).Nodup->kOf L ks x.toNat=some k):=by
 intro L
 induction L with
 |nil=>intro ks y h;simp [gK] at h
 |cons x L ih=>
  intro ks y h
  cases ks with
  |nil=>simp [gK] at h
  |cons k ks=>
   simp only [gK,List.mem_cons] at h;rcases h with rfl|h
   ·exact ⟨x,by simp,k,by simp,rfl,λ_=>by simp [kOf]⟩
   ·obtain ⟨x',a,k',b,rfl,e⟩:=ih h;refine ⟨x',by simp [a],k',by simp [b],rfl,λhn=> ?_⟩;rw [eg,gn] at hn;have d:¬x.toNat=x'.toNat:=λhe=>hn.1 (by rw [he];exact List.mem_map.2 ⟨x',a,rfl⟩)
    rw [kOf,if_neg d];exact e hn.2
def Ah:∀{L:List Int} {ks:List Nat} {i k:Nat},kOf L ks i=some k->tkW D l c i k∈gK D l c L ks/\dR L i=true/\k∈ks:=by
 intro L
 induction L with
 |nil=>intro ks i k h;simp [kOf] at h
 |cons x L ih=>
  intro ks i k h
  cases ks with
  |nil=>simp [kOf] at h
  |cons k' ks=>
   simp only [kOf] at h;split at h
   ·rename_i hx;injection h with h;subst h;subst hx;exact ⟨by simp [gK],by simp [fM],by simp⟩
   ·obtain ⟨h1,h2,h3⟩:=ih h;exact ⟨by simp [gK,h1],by simp [fM,h2],by simp [h3]⟩
def Cq:∀{L:List Int} {ks:List Nat} {i:Nat},ks.length=L.length->kOf L ks i=none->dR L i=false:=by
 intro L
 induction L with
 |nil=>intro ks i _ _;rfl
 |cons x L ih=>
  intro ks i hk h
  cases ks with
  |nil=>simp at hk
  |cons k' ks=>
   simp only [kOf] at h;split at h
   ·cases h
   ·rename_i hx;rw [fM,decide_eq_false hx,g9];exact ih (by simpa using hk) h
def Ai (D:DS) (l:Nat) (c:Int) (L:List Int) (ks:List Nat) (M:List Int) (i:Nat):Nat:=
 match kOf L ks i with
 |some k=>(tkW D l c i k).2
 |none=>if dR M i=true then (dpW D l c i).2 else wd D l (offN c i)
def kD {L M:List Int} {ks:List Nat} {ws:List (Nat×Nat)} (hk:ks.length=L.length) (h:gJ D l c L ks M=some ws):(∀x∈L,tkOk D l c x.toNat=true)/\(∀x∈M,dpOk D l c x.toNat=true)/\((ws= []/\L= []/\M= [])\/ws=gK D l c L ks++M.map (λx=>dpW D l c x.toNat)++ [(l*64+8,dpL D l c M (orL L (wd D l 1)))]):=by
 unfold gJ at h;split at h
 ·rename_i h0;injection h with h;have e1:L= []:=by simpa using h0.1
  have e2:M= []:=by simpa using h0.2
  subst e1;subst e2;exact ⟨λx hx=>(by cases hx),λx hx=>(by cases hx),.inl ⟨h.symm,rfl,rfl⟩⟩
 ·cases h1:chT D l c L ks [] (wd D l 1) with
  |none=>rw [h1] at h;cases h
  |some r=>
   obtain ⟨a1,a2,a3⟩:=Ti hk h1;obtain ⟨r1,r2⟩:=r;rw [h1] at h;simp only at h a2 a3
   cases h2:jn D l c M r1 r2 with
   |none=>rw [h2] at h;cases h
   |some q=>
    obtain ⟨b1,b2,b3⟩:=Ol h2;obtain ⟨q1,q2⟩:=q;rw [h2] at h;simp only at h b2 b3;injection h with h;refine ⟨a1,b1,.inr ?_⟩;rw [<-h,b2,b3,a2,a3,List.nil_append]
end
structure abd (D D':DS) (l:Nat) (c:Int) (L:List Int) (ks:List Nat) (M:List Int) (ws:List (Nat×Nat)):Prop where
 ok:∀x∈ws,x.1%8=0/\x.1<D.n*64/\x.2<18446744073709551616
 on:On D'
 rest:∀j,j<256->(∀i:Nat,(i:Int)<perS c->j≠offN c i)->j≠1->wd D' l j=wd D l j
 blk:∀i:Nat,(i:Int)<perS c->wd D' l (offN c i)=Ai D l c L ks M i
 map:wd D' l 1=dpL D l c M (orL L (wd D l 1))
 far:∀j,(j<l*8\/l*8+256<=j)->D'.cur j=D.cur j
 len:ws.length<=L.length+M.length+1
 tk:∀x∈L,tkOk D l c x.toNat=true
 dp:∀x∈M,dpOk D l c x.toNat=true
def abe {D:DS} {l:Nat} {c:Int} (on:On D) (hg:aH D) (hl:l+32<=D.n) (c0:0<=c) (c5:c<5) {L M:List Int} {ks:List Nat} {ws:List (Nat×Nat)} (ha:kV c L ks M) (hs:gJ D l c L ks M=some ws):abd D (D.strs ws) l c L ks M ws:=by
 have hn:=hg.n;have hp:=aJ c0 c5;obtain ⟨h1,h2,h3⟩:=kD ha.len hs;have vL:=ha.vL;have vM:=ha.vM;obtain ⟨n1,n2,n3⟩:=ha.nd;have p:wd D l 1<18446744073709551616:=by unfold wd;exact hg.cur _ oM
 have zl:∀(L:List Int) (ks:List Nat),(gK D l c L ks).length<=L.length:=by
  intro L
  induction L with
  |nil=>intro ks;simp [gK]
  |cons x L ih=>intro ks;cases ks with
   |nil=>simp [gK]
   |cons k ks=>simp only [gK,List.length_cons];have:=ih ks;omega
 have b:∀x∈L,∀k∈ks,(tkW D l c x.toNat k).1=l*64+offN c x.toNat*8/\(tkW D l c x.toNat k).2<18446744073709551616:=λx hx k hk=>⟨rfl,fj _ (mG (cU _) (by have:=(ha.kin k hk).2;omega) oM)⟩
 have f:∀x∈M,(dpW D l c x.toNat).1=l*64+offN c x.toNat*8/\(dpW D l c x.toNat).2<18446744073709551616:=λx hx=>⟨rfl,fj _ (mG (kA (cU _)) oM (kB _))⟩
 have a:∀x:Int,0<=x/\x<perS c->8<=offN c x.toNat/\offN c x.toNat<256/\(x.toNat:Int)<perS c:=λx hx=>by
  have:=aK c0 c5 (i:=x.toNat) oM;omega
 have mem:∀y∈ws,(∃x∈L,∃k∈ks,y=tkW D l c x.toNat k/\kOf L ks x.toNat=some k)\/(∃x∈M,y=dpW D l c x.toNat)\/y=(l*64+8,dpL D l c M (orL L (wd D l 1))):=by
  intro y hy;rcases h3 with ⟨rfl,_⟩|rfl
  ·cases hy
  ·simp only [en,ft,cF] at hy;rcases hy with (hy|⟨x,hx,rfl⟩)|rfl
   ·obtain ⟨x,hx,k,hk,e,hf⟩:=Cp hy;exact .inl ⟨x,hx,k,hk,e,hf n1⟩
   ·exact .inr (.inl ⟨x,hx,rfl⟩)
   ·exact .inr (.inr rfl)
 have ok:∀x∈ws,x.1%8=0/\x.1<D.n*64/\x.2<18446744073709551616:=by
  intro y hy;rcases mem y hy with ⟨x,hx,k,hk,rfl,_⟩|⟨x,hx,rfl⟩|rfl
  ·have:=b x hx k hk;have:=a x (vL x hx);omega
  ·have:=f x hx;have:=a x (vM x hx);omega
  ·exact ⟨by simp only;omega,by simp only;omega,abc _ _ (abb _ _ (λx hx=>by have:=vL x hx;omega) p)⟩
 obtain ⟨o1,o2⟩:=J7 on (λx hx=>⟨(ok x hx).1,(ok x hx).2.1⟩);refine ⟨ok,o1,λj hj o q=> ?_,λi hi=> ?_,?_,λj hj=> ?_,?_,h1,h2⟩
 ·unfold wd;rw [o2];refine bi _ _ _ (λy hy=> ?_);rcases mem y hy with ⟨x,hx,k,hk,rfl,_⟩|⟨x,hx,rfl⟩|rfl
  ·have h4:=a x (vL x hx);have:=o _ h4.2.2;rw [(b x hx k hk).1];omega
  ·have h4:=a x (vM x hx);have:=o _ h4.2.2;rw [(f x hx).1];omega
  ·simp only;omega
 ·have bd:=aK c0 c5 hi;have g:∀x:Int,0<=x/\x<perS c->l*64+offN c x.toNat*8=(l*8+offN c i)*8->x.toNat=i:=λx hx he=>jI c0 c5 oM
  unfold wd;rw [o2];unfold Ai
  cases hk:kOf L ks i with
  |some k=>
   obtain ⟨k1,k2,k3⟩:=Ah (D:=D) (l:=l) (c:=c) hk;have hm:=n3 i k2;refine cI (λy hy he=> ?_) (.inl ⟨tkW D l c i k,?_,by show (l*64+offN c i*8)/8=_;omega⟩)
   ·rcases mem y hy with ⟨x,hx,k',d,rfl,hf⟩|⟨x,hx,rfl⟩|rfl
    ·have:=g x (vL x hx) (by rw [(b x hx k' d).1] at he;omega);subst this;rw [hk] at hf;injection hf with hf;subst hf;rfl
    ·have:=g x (vM x hx) (by rw [(f x hx).1] at he;omega);subst this;rw [fE hx] at hm;cases hm
    ·simp only at he;omega
   ·rcases h3 with ⟨_,e,_⟩|rfl
    ·rw [e] at k2;cases k2
    ·simp [k1]
  |none=>
   have h:=Cq ha.len hk;by_cases hm:dR M i=true
   ·rw [if_pos hm];obtain ⟨x0,m,e0⟩:=fm hm;refine cI (λy hy he=> ?_) (.inl ⟨dpW D l c i,?_,by show (l*64+offN c i*8)/8=_;omega⟩)
    ·rcases mem y hy with ⟨x,hx,k',d,rfl,hf⟩|⟨x,hx,rfl⟩|rfl
     ·have:=g x (vL x hx) (by rw [(b x hx k' d).1] at he;omega);subst this;rw [fE hx] at h;cases h
     ·have:=g x (vM x hx) (by rw [(f x hx).1] at he;omega);subst this;rfl
     ·simp only at he;omega
    ·rcases h3 with ⟨_,_,e⟩|rfl
     ·rw [e] at m;cases m
     ·have:dpW D l c i∈M.map (λx=>dpW D l c x.toNat):=List.mem_map.2 ⟨x0,m,by rw [e0]⟩;simp only [en];exact .inl (.inr this)
   ·rw [if_neg hm];unfold wd;refine bi _ _ _ (λy hy he=> ?_);rcases mem y hy with ⟨x,hx,k',d,rfl,hf⟩|⟨x,hx,rfl⟩|rfl
    ·have:=g x (vL x hx) (by rw [(b x hx k' d).1] at he;omega);subst this;rw [fE hx] at h;cases h
    ·have:=g x (vM x hx) (by rw [(f x hx).1] at he;omega);subst this;exact hm (fE hx)
    ·simp only at he;omega
 ·rcases h3 with ⟨rfl,rfl,rfl⟩|e
  ·unfold wd;rw [o2];rfl
  ·have:wd (D.strs ws) l 1=aD ws D.cur (l*8+1):=by unfold wd;rw [o2]
   rw [this];refine cI (λy hy he=> ?_) (.inl ⟨(l*64+8,dpL D l c M (orL L (wd D l 1))),by rw [e];simp,by simp only;omega⟩);rcases mem y hy with ⟨x,hx,k',d,rfl,hf⟩|⟨x,hx,rfl⟩|rfl
   ·have h4:=a x (vL x hx);rw [(b x hx k' d).1] at he;omega
   ·have h4:=a x (vM x hx);rw [(f x hx).1] at he;omega
   ·rfl
 ·rw [o2];refine bi _ _ _ (λy hy=> ?_);rcases mem y hy with ⟨x,hx,k,hk,rfl,_⟩|⟨x,hx,rfl⟩|rfl
  ·have h4:=a x (vL x hx);rw [(b x hx k hk).1];omega
  ·have h4:=a x (vM x hx);rw [(f x hx).1];omega
  ·simp only;omega
 ·rcases h3 with ⟨rfl,_⟩|rfl
  ·simp
  ·have:=zl L ks;simp;omega
structure Snd (D:DS) (l:Nat) (c o:Int):Prop where
 hd:dQ (wd D l 0)=true
 hc:hC (wd D l 0)=c
 ho:hO (wd D l 0)=o
 zer:∀j,2<=j->j<8->wd D l j=0
 sl:∀i:Nat,(i:Int)<perS c->isS (wd D l (offN c i))=true
 gd:∀i:Nat,(i:Int)<perS c->bR (bG (wd D l (offN c i))) (bK (wd D l (offN c i))) (bS (wd D l (offN c i)))=true
 bit:∀i:Nat,i<64->aS (wd D l 1) i=(decide ((i:Int)<perS c)&& !decide (bS (wd D l (offN c i))=176))
section
variable {D D':DS} {l:Nat} {c o:Int}
def Tj {g k s:Nat} (h:bR g k s=true):g≠0:=by
 unfold bR at h;split at h
 ·simp at h;exact h.1
 ·split at h
  ·simp at h;exact h.1.1
  ·split at h
   ·simp at h;omega
   ·cases h
def Tk (g:Nat):bR (freG g) 0 (freS g)=true:=by
 unfold freG freS bR;by_cases h:g=65535
 ·simp [h]
 ·simp [h]
def Tl {i:Nat} (h:tkOk D l c i=true):isS (wd D l (offN c i))=true/\aS (wd D l 1) i=false/\bS (wd D l (offN c i))=176/\bR (bG (wd D l (offN c i))) (bK (wd D l (offN c i))) (bS (wd D l (offN c i)))=true:=by
 unfold tkOk at h;simp only [cp,eC,decide_eq_true_eq] at h;exact h
def Tm {i:Nat} (h:dpOk D l c i=true):isS (wd D l (offN c i))=true/\aS (wd D l 1) i=true/\bS (wd D l (offN c i))=177:=by
 unfold dpOk at h;simp only [cp,decide_eq_true_eq] at h;exact h
def kE (i k:Nat) (hk:k<256):isS (tkW D l c i k).2=true/\bG (tkW D l c i k).2=bG (wd D l (offN c i))/\bK (tkW D l c i k).2=k/\bS (tkW D l c i k).2=177:=⟨i9 (cU _) hk oM,Ae (cU _) hk oM,G4 (cU _) hk oM,oZ (cU _) hk oM⟩
def kF (i:Nat):isS (dpW D l c i).2=true/\bG (dpW D l c i).2=freG (bG (wd D l (offN c i)))/\bK (dpW D l c i).2=0/\bS (dpW D l c i).2=freS (bG (wd D l (offN c i))):=⟨i9 (kA (cU _)) oM (kB _),Ae (kA (cU _)) oM (kB _),G4 (kA (cU _)) oM (kB _),oZ (kA (cU _)) oM (kB _)⟩
def Snd.act {L M:List Int} {ks:List Nat} {ws:List (Nat×Nat)} (h:Snd D l c o) (c0:0<=c) (c5:c<5) (ha:kV c L ks M) (e:abd D D' l c L ks M ws):Snd D' l c o:=by
 have bd:=λ(i:Nat) (hi:(i:Int)<perS c)=>aK c0 c5 hi
 have r:∀j,j<8->j≠1->wd D' l j=wd D l j:=λj hj h1=>e.rest j oM (λi hi=>by have:=bd i hi;omega) h1
 have r0:=r 0 oM oM;obtain ⟨n1,n2,n3⟩:=ha.nd;have kk:∀{i k:Nat},kOf L ks i=some k->k≠0/\k<=127/\tkOk D l c i=true/\dR L i=true/\dR M i=false:=λ{i k} hk=>by
  obtain ⟨k1,k2,k3⟩:=Ah (D:=D) (l:=l) (c:=c) hk;obtain ⟨x,hx,rfl⟩:=fm k2;exact ⟨(ha.kin k k3).1,(ha.kin k k3).2,e.tk x hx,k2,n3 _ k2⟩
 have mm:∀{i:Nat},dR M i=true->dpOk D l c i=true:=λ{i} hm=>by obtain ⟨x,hx,rfl⟩:=fm hm;exact e.dp x hx
 refine ⟨by rw [r0];exact h.hd,by rw [r0];exact h.hc,by rw [r0];exact h.ho,λj h2 h8=>by rw [r j h8 oM];exact h.zer j h2 h8,λi hi=> ?_,λi hi=> ?_,λi f=> ?_⟩
 ·rw [e.blk i hi];unfold Ai
  cases hk:kOf L ks i with
  |some k=>exact (kE i k (by have:=kk hk;omega)).1
  |none=>
   simp only;split
   ·exact (kF i).1
   ·exact h.sl i hi
 ·rw [e.blk i hi];unfold Ai
  cases hk:kOf L ks i with
  |some k=>
   have h1:=kk hk;obtain ⟨_,a,b,d⟩:=kE (D:=D) (l:=l) (c:=c) i k oM;simp only [a,b,d];have hg:=Tj (Tl h1.2.2.1).2.2.2;simp [bR,hg,h1.1,h1.2.1]
  |none=>
   simp only;split
   ·obtain ⟨_,a,b,d⟩:=kF (D:=D) (l:=l) (c:=c) i;rw [a,b,d];exact Tk _
   ·exact h.gd i hi
 ·rw [e.map,XN _ _ _ f,XM,h.bit i f];by_cases hi:(i:Int)<perS c
  ·rw [e.blk i hi,decide_eq_true hi];unfold Ai
   cases hk:kOf L ks i with
   |some k=>
    have h1:=kk hk;simp only [h1.2.2.2.1,h1.2.2.2.2,(kE (D:=D) (l:=l) (c:=c) i k oM).2.2.2];simp
   |none=>
    have hL:=Cq ha.len hk;simp only [hL];by_cases hm:dR M i=true
    ·have h1:=Tm (mm hm);have h2:=h.bit i f;rw [h1.2.1,decide_eq_true hi,bv] at h2;simp only [hm,if_true,(kF (D:=D) (l:=l) (c:=c) i).2.2.2,<-h2];simp
    ·have hm:dR M i=false:=by simpa using hm
     simp [hm]
  ·have hL:dR L i=false:=by
    cases hh:dR L i with
    |false=>rfl
    |true=>obtain ⟨x,hx,rfl⟩:=fm hh;have:=ha.vL x hx;omega
   have hM:dR M i=false:=by
    cases hh:dR M i with
    |false=>rfl
    |true=>obtain ⟨x,hx,rfl⟩:=fm hh;have:=ha.vM x hx;omega
   simp [hL,hM,hi]
def Tn:∀(n i:Nat),aS (mskN D l c n) i=(decide (i<n)&& !decide (bS (wd D l (offN c i))=176)):=by
 intro n
 induction n with
 |zero=>intro i;simp [mskN,aS]
 |succ n ih=>
  intro i;simp only [mskN];by_cases hin:i=n
  ·subst hin;split
   ·rename_i h;rw [ih];simp [h]
   ·rename_i h;rw [lX,ih,kC];simp [h]
  ·have e1:decide (i<n+1)=decide (i<n):=by congr 1;simp only [eq_iff_iff];omega
   have e2:decide (n=i)=false:=by simp;omega
   split
   ·rw [ih,e1]
   ·rw [lX,ih,kC,e1,e2,Bool.or_false]
def G7 {x y:Nat} (hx:x<18446744073709551616) (hy:y<18446744073709551616) (h:∀i,i<64->aS x i=aS y i):x=y:=by
 apply f8;intro i;by_cases hi:i<64
 ·have:=h i hi;rwa [sU,sU] at this
 ·have p:2^64<=2^i:=f7 oM oM;rw [ej (cj hx (by simpa using p)),ej (cj hy (by simpa using p))]
def XO:∀(n:Nat),(∀i,i<n->isS (wd D l (offN c i))=true/\bR (bG (wd D l (offN c i))) (bK (wd D l (offN c i))) (bS (wd D l (offN c i)))=true)->gdN D l c n=true:=by
 intro n
 induction n with
 |zero=>intro _;rfl
 |succ n ih=>
  intro h;have h1:=h n oM;simp only [gdN,ih (λi hi=>h i oM),h1.1,h1.2];rfl
def To:∀(n:Nat),(∀i,i<n->wd D l (i+2)=0)->Cn D l n=true:=by
 intro n
 induction n with
 |zero=>intro _;rfl
 |succ n ih=>
  intro h;simp only [Cn,ih (λi hi=>h i oM),h n oM];rfl
def Snd.con (h:Snd D l c o) (hg:aH D) (hl:l+32<=D.n) (c0:0<=c) (c5:c<5):G6 D l c o=true:=by
 have hp:=aJ c0 c5;obtain ⟨n,hn⟩:∃n:Nat,perS c=(n:Int):=⟨(perS c).toNat,by omega⟩;have hw:wd D l 1<18446744073709551616:=by unfold wd;exact hg.cur _ oM
 have hm:=J9 D l c n;have h2:=gm (show n<64 by omega);have e:wd D l 1=mskN D l c n:=G7 hw oM (λi hi=>by
  rw [h.bit i hi,Tn,hn]
  congr 2;simp)
 unfold G6;rw [hn,ab,h.hd,decide_eq_true h.hc,decide_eq_true h.ho,To 6 (λi hi=>h.zer _ oM oM),XO n (λi hi=>⟨h.sl i oM,h.gd i oM⟩),decide_eq_true e];rfl
end
def chF (T l:Nat) (c o:Int) (g:Nat) (i:Nat):aB:= [Value.iface 31 (.pointer (some ⟨T,0,none⟩)),.int .i64 (l:Int),.int .i64 c,.int .i64 o,.int .u16 (g:Int)].getD i undef
structure Loc (w0 w:al) (Y:Lay) (D:DS) (B l:Nat) (c o:Int) (g:Nat):Prop where
 L:Lv w0 w Y D
 bx:af w B 134 5 (chF (Y.tb 0) l c o g)
 nb:¬Y.F B
 on:On D
 lt:l+32<=D.n
 gl:bq w0
 c0:0<=c
 c5:c<5
def Out (w0:al) (Y:Lay) (B:Nat) (v:aB):Prop:=∀b,v.ownBlock=some b->w0.heap.size<=b/\¬Y.F b/\b≠B
section
variable {w0 w w':al} {Y Y':Lay} {D D':DS} {B l:Nat} {c o:Int} {g:Nat}
def Loc.ext (h:Loc w0 w Y D B l c o g) (e:Ext w w'):Loc w0 w' Y D B l c o g:=⟨h.L.ext e,h.bx.ext e,h.nb,h.on,h.lt,h.gl,h.c0,h.c5⟩
def Loc.step (h:Loc w0 w Y D B l c o g) (s:Stp w Y w' Y' D') (gd:aH D') (on:On D') (hn:D'.n=D.n):Loc w0 w' Y' D' B l c o g:=by
 have tb:Y'.tb 0=Y.tb 0:=by rw [s.tb]
 refine ⟨h.L.step s gd,?_,λhf=> ?_,on,by rw [hn];exact h.lt,h.gl,h.c0,h.c5⟩
 ·rw [tb];exact h.bx.frm s.frm h.nb
 ·rcases s.fr B hf with h1|h1
  ·exact h.nb h1
  ·have:=h.bx.lt;omega
def Loc.cx (h:Loc w0 w Y D B l c o g):Cx w Y D l c:=h.L.cx h.gl h.on.off h.lt h.c0 h.c5
def Loc.cells (h:Loc w0 w Y D B l c o g):w.cell? ⟨B,0,none⟩=some (.iface 31 (.pointer (some ⟨Y.tb 0,0,none⟩)))/\w.cell? ⟨B,1,none⟩=some (.int .i64 (l:Int))/\w.cell? ⟨B,2,none⟩=some (.int .i64 c)/\w.cell? ⟨B,3,none⟩=some (.int .i64 o)/\w.cell? ⟨B,4,none⟩=some (.int .u16 (g:Int)):=
 ⟨h.bx.cell (i:=0) oM,h.bx.cell (i:=1) oM,h.bx.cell (i:=2) oM,h.bx.cell (i:=3) oM,h.bx.cell (i:=4) oM⟩
def Loc.ltB (h:Loc w0 w Y D B l c o g):B<w.heap.size:=h.bx.lt
def Loc.frm {G:Nat->Prop} (h:Loc w0 w Y D B l c o g) (f:Frm G w w') (hG:∀b,G b->w0.heap.size<=b/\¬Y.F b/\b≠B):Loc w0 w' Y D B l c o g:=
 ⟨⟨h.L.dv.frm f (λb hb hg=>(hG b hg).2.1 hb),h.L.gd,Ext.frm h.L.ex f (λx hx=>(hG x hx).1),h.L.nw⟩,h.bx.frm f (λhb=>(hG B hb).2.2 rfl),h.nb,h.on,h.lt,h.gl,h.c0,h.c5⟩
def Out.step {v:aB} {t:TypeId} {z n:Nat} {L:List aB} (h:Out w0 Y B v) (hs:SlO w t z v n L) (s:Stp w Y w' Y' D'):Out w0 Y' B v/\SlO w' t z v n L:=by
 refine ⟨λb hb=>⟨(h b hb).1,λhf=> ?_,(h b hb).2.2⟩,hs.frm s.frm (λb hb=>(h b hb).2.1)⟩;rcases s.fr b hf with h1|h1
 ·exact (h b hb).2.1 h1
 ·have:=hs.lt hb;omega
def Out.nil (w0:al) (Y:Lay) (B:Nat):Out w0 Y B (.slice none 0 0):=λb hb=>by cases hb
def Out.new {v:aB} (h:Loc w0 w Y D B l c o g) (hv:bw w.heap.size v):Out w0 Y B v:=λb hb=>by
 have h1:=hv b hb;have h2:=h.ltB;have h3:=h.L.ex.size;exact ⟨by omega,λhf=>by have:=h.L.dv.lt hf;omega,by omega⟩
def Tp (D:DS) (l:Nat) (c:Int) (i:Int) (r:List Int) (k:Nat) (ks:List Nat) (a:List (Nat×Nat)) (b:Nat):chT D l c (i::r) (k::ks) a b=if tkOk D l c i.toNat=true then chT D l c r ks (a++ [tkW D l c i.toNat k]) (b|||2^i.toNat) else none:=rfl
def XP (D:DS) (l:Nat) (c:Int) (ks:List Nat) (a:List (Nat×Nat)) (b:Nat):chT D l c [] ks a b=some (a,b):=rfl
def Om (D:DS) (l:Nat) (c:Int) (i:Int) (r:List Int) (a:List (Nat×Nat)) (b:Nat):jn D l c (i::r) a b=if dpOk D l c i.toNat=true then jn D l c r (a++ [dpW D l c i.toNat]) (dpB D l c i.toNat b) else none:=rfl
def Tq (D:DS) (l:Nat) (c:Int) (a:List (Nat×Nat)) (b:Nat):jn D l c [] a b=some (a,b):=rfl
def XQ {L M:List Int} {ks:List Nat} {w1 w2:List (Nat×Nat)} {b1 b2:Nat} (a:¬(L.length=0/\M.length=0)) (h1:chT D l c L ks [] (wd D l 1)=some (w1,b1)) (h2:jn D l c M w1 b1=some (w2,b2)):gJ D l c L ks M=some (w2++ [(l*64+8,b2)]):=by
 unfold gJ;rw [if_neg a,h1];simp only [h2]
def Loc.er (h:Loc w0 w Y D B l c o g):∀(w1:al) (K:K1),Ext w w1->ad prog 28 #[.pointer (some ⟨Y.tb 0,0,none⟩)] w1 K=K (.int .i64 0) w1:=λw1 K e=>by rw [cM (h.L.dv.ext e) 0 oM K,h.on.err]
def Aj (off g k:Nat) (h8:off%8=0) (ho:off<34359738368):pO (ptrN off g k)=off:=by unfold pO ptrN;omega
def Ak (off g k:Nat) (ho:off<34359738368) (hg:g<65536):pG (ptrN off g k)=g:=by unfold pG ptrN;omega
def G8 (off g k:Nat) (ho:off<34359738368) (hg:g<65536) (hk:k<256):pK (ptrN off g k)=k:=by unfold pK ptrN;omega
def Al (off g k:Nat) (ho:off<34359738368) (hg:g<65536) (hk:k<=127) (h0:off≠0) (h8:off%8=0):ptrN off g k≠0/\ptrN off g k<72057594037927936:=by unfold ptrN;omega
def dx {l:Nat} {c:Int} {i:Nat} (hl:l<=4096) (c0:0<=c) (c5:c<5) (hi:(i:Int)<perS c):pOff l c i%8=0/\pOff l c i<34359738368/\pOff l c i≠0:=by
 have:=aK c0 c5 hi;unfold pOff;omega
def Snd.sndB {l:Nat} {c o:Int} (h:Snd D l c o) (c0:0<=c) (c5:c<5) (i:Nat) (hi:(i:Int)<perS c):sndB D l c i:=by
 have hp:=aJ c0 c5;refine ⟨h.sl i hi,h.gd i hi,?_⟩;rw [h.bit i oM,decide_eq_true hi,bv]
end
end Go.Proofs.YtmpehclnnjgmcaaGreatDoor
