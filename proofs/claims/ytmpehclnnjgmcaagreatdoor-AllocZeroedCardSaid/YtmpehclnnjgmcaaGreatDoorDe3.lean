/-
  Part 3 of what the proofs of this seat share.
-/
import Derived.Test.YtmpehclnnjgmcaaGreatDoorDe2
import Derived.Laws.StructEq
import Derived.Test.YtmpehclnnjgmcaaGreatDoorDe1
set_option linter.unusedSimpArgs false
set_option linter.unusedVariables false
set_option maxHeartbeats 20000000
set_option maxRecDepth 100000
set_option linter.defProp false
open Go.Proofs.Tryz (prog)
open Go.RowKit (intOf)
open Array renaming getElem?_toList->dk,extract_eq_self_of_le->ep
open Bool renaming true_and->bb,and_eq_true->cj,false_and->ee,not_eq_true'->ej,or_assoc->gi,false_or->gj
open Go renaming World->ab,Value->av
open Go.Builtin renaming append_->co,firstCells->ds,clear_->fu,cap_->f8
open Go.Instr renaming buildSlice->dc,sliceBounds->ft
open Go.Result renaming andThen_ok->bl
open Go.Sem renaming run_bind->bk,run_pure->gn
open Int renaming toNat_natCast->aa
open List renaming getD_eq_getElem?_getD->al,getElem?_eq_getElem->aq,length_append->aA,length_singleton->ca,drop_eq_getElem_cons->cd,getElem_mem->ch,mem_singleton->cp,append_assoc->cw,take_length->cB,length_map->cC,getElem?_append_left->cF,map_cons->db,mem_append->dl,size_toArray->eg,getElem?_map->ei,drop_length->en,append_nil->eq,getElem?_append_right->eF,mem_range->eN,mem_map->eP,mem_of_getElem?->fc,getElem?_drop->fn,any_eq_true->fx,nodup_cons->fF,map_append->f6,foldl_cons->f7,drop_drop->gc
open Nat renaming zero_add->aB,add_assoc->bq,lt_of_lt_of_le->bL,mod_eq_of_lt->cm,le_refl->cn,lt_of_le_of_lt->ct,and_one_is_mod->cv,le_trans->cA,or_comm->cD,or_lt_two_pow->da,testBit_lt_two_pow->dj,mul_comm->dn,and_two_pow_sub_one_eq_mod->em,testBit_two_pow_sub_one->es,one_mul->eu,div_le_self->ew,and_le_left->eC,add_zero->e9,pow_lt_pow_right->fe,pow_le_pow_right->fi,eq_of_testBit_eq->fk,testBit_two_pow->fl,testBit_xor->f9,one_ne_zero->ga,or_assoc->gp
open Option renaming bind_some->cN
namespace Go.Sh
open Go
def QK {P:Program} {t:TypeId} (h:js P t=true):∃e,P.underlying t=some (.slice e):=by
 unfold js at h;split at h
 ·rename_i e hu;exact ⟨e,hu⟩
 ·cases h
def abl {P:Program} {t:TypeId} (h:js P t=true) (ty:TypeId) (cs:Array Bool) (a:Option Addr) (n c:Nat) (w:ab) (k:K1):aS P .cap #[t] ty cs #[.slice a n c] w k=k (.int .i64 c) w:=by
 obtain ⟨e,hu⟩:=QK h;have:(f8 #[t] ty #[.slice a n c]).run P w= .ok (.int .i64 c) w:=by
  simp [f8,run_underlying hu,goInt]
 unfold aS builtin;rw [bk,this];rfl
def Jd {P:Program} {t e ty:TypeId} {z d:Nat} {zv:av} (E:ElT P t t e z d zv) (h1:bI zv.cells.toList=true) {cs:Array Bool} {w:ab} {b o n c:Nat} {a:Array av} (hh:w.heap[b]? =some (.cells a e (0,0))) (hn:0<n) (g:o+n*z<=a.size) (k:K1):
  aS P .clear #[t] ty cs #[.slice (some ⟨b,o,none⟩) n c] w k=k (.tuple #[]) (w.setRow b (a.toList.take o++(Builtin.zeroCells zv.cells n).toList++a.toList.drop (o+n*z)).toArray):=by
 obtain ⟨i,hi,rfl,hz,rfl⟩:=E.info;have hl:(Builtin.zeroCells zv.cells n).toList.length=n*i.size:=by
  rw [Array.length_toList,size_zeroCells,E.zs]
 have ho:∀u∈(Builtin.zeroCells zv.cells n).toList,u.oneCell'=true:=by
  intro u hu;rw [Builtin.zeroCells] at hu;simp only [Array.toList_map,eP] at hu;obtain ⟨j,hj,rfl⟩:=hu;simp only [Array.toList_range,eN] at hj;by_cases hzs:zv.cells.size=0
  ·rw [hzs] at hj;omega
  ·refine tS h1 _ ?_;have:j%zv.cells.size<zv.cells.size:=Nat.mod_lt _ oM;rw [getElem!_pos zv.cells _ this];exact Array.getElem_mem_toList this
 have f:=run_storeCells_at P b o e (Builtin.zeroCells zv.cells n).toList 0 a w hh (by rw [hl];simpa using g) ho;simp only [e9,hl] at f
 cases n with
 |zero=>omega
 |succ n=>
  have:(fu #[t] ty #[.slice (some ⟨b,o,none⟩) (n+1) c]).run P w= .ok (.tuple #[]) (w.setRow b (a.toList.take o++(Builtin.zeroCells zv.cells (n+1)).toList++a.toList.drop (o+(n+1)*i.size)).toArray):=by
   simp [fu,run_underlying E.un,zeroValue,typeInfo,hi,hz,f]
  unfold aS builtin;rw [bk,this];rfl
def iu {P:Program} {t tx e ty:TypeId} {z b:Nat} {zv:av} (E:ElT P t tx e z b zv) {cs:Array Bool} {w:ab} (base:Option Addr) (n cap:Nat) (hc:n<=cap) (x:Option Addr) (c:Nat) (k:K1):
  aS P .append #[t,tx] ty cs #[.slice base n cap,.slice x 0 c] w k=k (.slice base n cap) w:=by
 obtain ⟨i,hi,rfl,hz,rfl⟩:=E.info;have:(co #[t,tx] ty #[.slice base n cap,.slice x 0 c]).run P w= .ok (.slice base n cap) w:=by
  have hf:(ds i.size 0 (.slice x 0 c)).run P w= .ok #[] w:=by
   cases x with
   |none=>exact run_firstCells_none _ _ _ _ _
   |some a=>exact run_firstCells_some (P:=P) w i.size 0 a 0 c [] (by simp) (by simp)
  cases base with
  |none=>simp [co,run_underlying E.un,run_underlying E.ux,sizeOf,typeInfo,hi,Builtin.lenOf,hc,hf]
  |some a=>simp [co,run_underlying E.un,run_underlying E.ux,sizeOf,typeInfo,hi,Builtin.lenOf,hc,hf,storeCells]
 unfold aS builtin;rw [bk,this];rfl
def Ep {P:Program} {t tx e ty:TypeId} {z bytes:Nat} {zv:av} (E:ElT P t t e z bytes zv) (hx:OM P tx=some .i64) {cs:Array Bool} {w:ab} {m:Nat} (hm:0<m) (hb:m*bytes<=140737488355328) (s:m<9223372036854775807) {k:K1}
  (h:∀c w',Ext w w'->SlO w' e z (.slice (some ⟨w.heap.size,0,none⟩) 0 c) 0 []->m<=c->k (.slice (some ⟨w.heap.size,0,none⟩) m c) w'):
  aS P .append #[t,tx] ty cs #[.slice none 0 0,.int .i64 (m:Int)] w k:=by
 obtain ⟨i,hi,rfl,hz,rfl⟩:=E.info;have f:=cW hx;have n:IntKind.i64.wrap (m:Int)=m:=bZ oM oM;have h0:¬((m:Int)<0):=oM;have d:¬(281474976710656<(m:Int)*(i.bytes:Int)):=by
  have:((m*i.bytes:Nat):Int)=(m:Int)*(i.bytes:Int):=by simp
  omega
 have hg:¬(m<=0):=oM;have b:¬m=0:=oM;have g:¬(9223372036854775807<(m:Int)):=oM;have r:=growslice_fits (need:=m) (old:=0) oM (show m*i.bytes<=140737488355328 from hb);have a:¬(281474976710656<Builtin.nextslicecap m 0*i.bytes):=oM;have l:(asIntOf (.int .i64 (m:Int))).run P w= .ok (.i64,(m:Int)) w:=rfl;have hr:(co #[t,tx] ty #[.slice none 0 0,.int .i64 (m:Int)]).run P w= .ok (.slice (some ⟨w.heap.size,0,none⟩) m (grownCap w m 0 e)) (w.drew.alloc (.cells ((if m*i.size=0 then #[] else Builtin.zeroCells zv.cells m)++Builtin.zeroCells zv.cells (grownCap w m 0 e-m)) e)):=by
  by_cases hz0:m*i.size=0
  ·simp [co,run_underlying E.un,run_underlying f,sizeOf,typeInfo,zeroValue,hi,hz,n,h0,d,asInt,l,hg,g,a,Question.forced,newRow,grownCap,ds,hz0,b]
  ·simp [co,run_underlying E.un,run_underlying f,sizeOf,typeInfo,zeroValue,hi,hz,n,h0,d,asInt,l,hg,g,a,Question.forced,newRow,grownCap,ds,hz0,b]
 unfold aS builtin;rw [bk,hr];have o:=grownCap_ge w m 0 e;have p:grownCap w m 0 e<=maxLen:=grownCap_le_maxLen w m 0 e (by simp only [maxLen];omega);refine h _ _ (((Ext.refl w).drew).alloc _) ⟨by simp,.inr ⟨w.heap.size,0,_,_,rfl,aP w.drew _,Nat.zero_le _,p,?_,by simp⟩⟩ o;have j:∀q,(Builtin.zeroCells zv.cells q).size=q*i.size:=λq=>by rw [size_zeroCells,E.zs]
 rw [Array.size_append,j];split
 ·rename_i e0;have:i.size=0:=by rcases Nat.mul_eq_zero.1 e0 with h|h;omega;exact h
  simp [this]
 ·rw [j,<-Nat.add_mul,aB];exact Nat.mul_le_mul_right _ oM
def stI (P:Program):List Field->Nat->Bool
 | [],_=>true
 |f::fs,i=>f.name != "_" &&(f.offset==i&&((OM P f.type).isSome&&(dw P f.type==some false&&stI P fs (i+1))))
def kin:List av->List av->Bool
 | [],[]=>true
 | .int k _::l,.int k' _::l'=>decide (k=k')&&kin l l'
 |_,_=>false
def eqL:List av->List av->Bool
 | .int _ a::l,.int _ b::l'=>decide (a=b)&&eqL l l'
 |_,_=>true
def yL {P:Program} {t:TypeId} (h:dw P t=some false) {cs:Array av} {o:Nat} {v:av} (hv:cs[o]? =some v) (w:ab):(part t cs o).run P w= .ok v w:=by
 unfold part;rw [bk,k9 h,bl];simp [hv]
def wX {P:Program} (d:Nat) (xs ys:Array av) (w:ab):∀(fs:List Field) (i:Nat) (lx ly:List av),stI P fs i=true->xs.toList.drop i=lx->ys.toList.drop i=ly->kin lx ly=true->fs.length=lx.length->(Op.eqFields (d+1) xs ys fs).run P w= .ok (eqL lx ly) w:=by
 intro fs
 induction fs with
 |nil=>
  intro i lx ly _ _ _ hk hl
  cases lx with
  |nil=>cases ly<;>first|rfl|cases hk
  |cons a l=>cases hl
 |cons f fs ih=>
  intro i lx ly hs hx hy hk hl
  cases lx with
  |nil=>cases hl
  |cons a l=>
   cases ly with
   |nil=>cases a<;>cases hk
   |cons b l'=>
    cases a with
    |int k x=>
     cases b with
     |int k' y=>
      simp only [kin,cj,decide_eq_true_eq] at hk;obtain ⟨rfl,hk⟩:=hk;simp only [stI,cj,bne_iff_ne,ne_eq,beq_iff_eq] at hs;obtain ⟨h1,h2,h3,h4,h5⟩:=hs;obtain ⟨k',g⟩:=Option.isSome_iff_exists.1 h3;have j:xs[f.offset]? =some (.int k x):=by
       rw [h2,<-dk,<-e9 i,<-fn,hx];rfl
      have h:ys[f.offset]? =some (.int k y):=by
       rw [h2,<-dk,<-e9 i,<-fn,hy];rfl
      have e1:=run_equalIn_int (P:=P) w d f.type k k' x y (cW g);have c:xs.toList.drop (i+1)=l:=by rw [<-gc,hx];rfl
      have e:ys.toList.drop (i+1)=l':=by rw [<-gc,hy];rfl
      have hr:=ih (i+1) l l' h5 c e hk (by simpa using hl);unfold Op.eqFields;rw [if_pos h1,bk,yL h4 j,bl,bk,yL h4 h,bl,bk,e1,bl];by_cases hxy:x=y
      ·subst hxy;simp only [BEq.rfl,Bool.not_true,Bool.false_eq_true,if_false,hr,eqL,decide_true,bb]
      ·have:(x==y)=false:=by simpa using hxy
       simp only [this,Bool.not_false,if_true,gn,eqL,hxy,decide_false,ee]
     |_=>cases hk
    |_=>cases hk
def stT (P:Program) (t:TypeId) (n:Nat):Bool:=
 match P.underlying t with
 |some (.struct fs)=>stI P fs.toList 0&&(fs.toList.length==n&&(!P.stoodInHeld t&& !P.eqGuardType P.depth t))
 |_=>false
def B5 {P:Program} {t:TypeId} {n:Nat} (h:stT P t n=true) (lx ly:List av) (hn:lx.length=n) (hk:kin lx ly=true) (w:ab) (d:Nat):(Op.equalIn (d+2) t (.agg lx.toArray) (.agg ly.toArray)).run P w= .ok (eqL lx ly) w:=by
 unfold stT at h;split at h
 ·rename_i fs hu;simp only [cj,beq_iff_eq,ej] at h;have hf:P.fieldsOf t=fs:=by simp [Program.fieldsOf,hu]
  rw [run_equalIn_struct w (d+1) t _ _ (by rw [hf];exact hu) h.2.2.1,hf];exact wX d _ _ w fs.toList 0 lx ly h.1 (by simp) (by simp) hk (by rw [h.2.1,hn])
 ·cases h
def Je {P:Program} {t:TypeId} {n:Nat} (h:stT P t n=true) (x y:Operand) (lx ly:List av) (hn:lx.length=n) (hk:kin lx ly=true) (w:ab):(aE .eql t x y (.agg lx.toArray) (.agg ly.toArray)).run P w= .ok (.bool (eqL lx ly)) w:=by
 have hg:P.eqGuardType P.depth t=false:=by
  unfold stT at h;split at h
  ·simp only [cj,beq_iff_eq,ej] at h;exact h.2.2.2
  ·cases h
 unfold aE;rw [bk,run_eqGuard_agg w .eql t x y _ _ hg,bl,run_eql_struct,B5 h lx ly hn hk];rfl
def Jf {P:Program} (t:TypeId) (x y:Operand) (a b:Nat) (w:ab) (ha:a<18446744073709551616) (hb:b<18446744073709551616):(aE .andNot t x y (.int .u64 (a:Int)) (.int .u64 (b:Int))).run P w= .ok (.int .u64 ((a&&&(18446744073709551615^^^b):Nat):Int)) w:=by
 rw [bi];simp only [binOp,Op.intBits];have e1:(BitVec.ofInt 64 (a:Int)).toNat=a:=by rw [ce oM oM];simp
 have e2:(BitVec.ofInt 64 (b:Int)).toNat=b:=by rw [ce oM oM];simp
 have e3:((BitVec.ofInt 64 (a:Int))&&& ~~~(BitVec.ofInt 64 (b:Int))).toNat=a&&&(18446744073709551615^^^b):=by
  rw [BitVec.toNat_and,BitVec.toNat_not,e1,e2]
  congr 1
  apply fk;intro i;rw [show (18446744073709551615:Nat)=2^64-1 from rfl,f9,es];have:=Nat.testBit_two_pow_sub_succ (x:=b) (n:=64) hb i;rw [show (2:Nat)^64-1-b=2^64-(b+1) by omega,this];by_cases hi:i<64
  ·simp [hi]
  ·have c:b.testBit i=false:=by
    have d:2^64<=2^i:=fi (by decide) oM;exact dj (bL hb d)
   simp [hi,c]
 show Result.ok (Value.int IntKind.u64 (IntKind.u64.wrap (((BitVec.ofInt 64 (a:Int))&&& ~~~(BitVec.ofInt 64 (b:Int))).toNat:Int))) w=_;rw [e3,gK oM ?_];have:a&&&(18446744073709551615^^^b)<=a:=eC;omega
end Go.Sh
namespace Go.Proofs.YtmpehclnnjgmcaaGreatDoor
open Go Go.Sh
section
variable {w w':ab} {q o cap:Nat} {d:Array Nat}
def ae3 (h:Ar w q o d) (hd:d.size<1099511627776) (K:K1) (hK:∀w',SW w w' q o (Go.Sort.sort ltN d)->(Go.Sort.sort ltN d).size=d.size->K (.tuple #[]) w'):
  ae prog 172 #[.slice (some ⟨q,o,none⟩) d.size cap] w K:=by
 refine Pb _ _ _ ?_;unfold Tw;have hb:Go.Sort.bitsLen d.size<=40:=(Go.Sort.bitsLen_le_iff d.size 40).2 oM;refine zS1 @acS ?_;refine agv d.size w d 0 d.size (Go.Sort.bitsLen d.size) _ oM h hd oM oM oM (λw' h1 h2=> ?_);exact hK w' h1 h2
def kpN (d:Array Nat):Nat->List Nat
 |0=> []
 |n+1=>kpN d n++(if n=0\/d[n]!≠d[n-1]! then [d[n]!] else [])
def Vw (d:Array Nat):∀n,(kpN d n).length<=n:=by
 intro n
 induction n with
 |zero=>simp [kpN]
 |succ n ih=>simp only [kpN,aA];split<;>simp<;>omega
def Beg (D:Array Nat) (l:List Nat):Prop:=l.length<=D.size/\∀i,i<l.length->D[i]! =l[i]!
def Ar.beg {D:Array Nat} (h:Ar w q o D) {l:List Nat} (hb:Beg D l):Ar w q o l.toArray:=by
 obtain ⟨a,h1,h2,h3⟩:=h;refine ⟨a,h1,by have:=hb.1;simp;omega,λi hi=> ?_⟩;simp only [eg] at hi;have e:=hb.2 i hi;rw [h3 i (by have:=hb.1;omega),e];simp
def rJ (D:Array Nat) (i x j:Nat) (hi:i<D.size):(D.setIfInBounds i x)[j]! =if j=i then x else D[j]! :=by
 simp only [getElem!_def,Array.getElem?_setIfInBounds];by_cases e:i=j
 ·subst e;simp [hi]
 ·rw [if_neg e,if_neg (λh=>e h.symm)]
def QL (h:Ar w q o d) (hd:d.size<1099511627776) (hc:d.size<=cap) (h0:0<d.size) (K:K1) (hK:∀w',Ar w' q o (kpN d d.size).toArray->Frm (λx=>x=q) w w'->K (.slice (some ⟨q,o,none⟩) (kpN d d.size).length cap) w'):
  ae prog 173 #[.slice (some ⟨q,o,none⟩) d.size cap] w K:=by
 refine QC _ _ _ ?_;unfold Vt;have p:∀k,k<=d.size->(kpN d k).length=k->Beg d (kpN d k):=by
  intro k
  induction k with
  |zero=>intro _ _;exact ⟨by simp [kpN],by simp [kpN]⟩
  |succ k ih=>
   intro hk hl;have h1:=Vw d k;have t:(kpN d k).length=k:=by
    simp only [kpN,aA] at hl;split at hl<;>simp at hl<;>omega
   have hb:=ih oM t;refine ⟨by rw [hl];exact hk,λi hi=> ?_⟩;rw [hl] at hi;by_cases e:i=k
   ·subst e;have H:i=0\/d[i]!≠d[i-1]! :=by
     by_cases hh:i=0\/d[i]!≠d[i-1]!
     ·exact hh
     ·simp only [kpN,if_neg hh,eq] at hl;omega
    simp only [kpN,if_pos H];rw [getElem!_def (kpN d i++ [d[i]!]),eF oM,t];simp
   ·have:=hb.2 i oM;rw [this];simp only [kpN];rw [getElem!_def,getElem!_def,cF oM]
 by_cases h2:d.size<2
 ·have e1:d.size=1:=oM;refine zS0 ?_;have s:kpN d d.size= [d[0]!]:=by rw [e1];simp [kpN]
  have hb:=p d.size oM (by rw [s];simp [e1]);have:=hK w (h.beg hb) (Frm.refl _ _);rw [s] at this;simp only [ca] at this;rw [<-e1] at this;exact this
 ·refine zS0 ?_;apply B1 (I:=λx w'=>∃k:Nat,x= .int .i64 (k:Int)/\1<=k/\k<=d.size/\(kpN d k).length=k/\SW w w' q o d) (μ:=λx _=>d.size-(intOf x).toNat)
  ·exact ⟨1,by simp,by omega,by omega,by simp [kpN],SW.refl h⟩
  ·intros;rename_i w1 hI E1 hE;obtain ⟨k,rfl,s,M,g,sw⟩:=hI;unfold yG;have ar:=sw.ar;by_cases hk:k<d.size
   ·have c1:=ar.cell k hk;have c2:=ar.cell (k-1) oM;have e0:(k:Int)-1=((k-1:Nat):Int):=oM;by_cases he:d[k]! =d[k-1]!
    ·have v:¬cap=k:=oM;have e1:kpN d (k+1)=kpN d k:=by
      simp only [kpN];rw [if_neg (by rintro (h|h);omega;exact h he),eq]
     refine zS6 e0 c1 c2 he v v ?_;apply B2 (I:=λx y w'=>∃(k2:Nat) (D:Array Nat),y= .int .i64 (k2:Int)/\x= .int .i64 (((kpN d (k+k2)).length:Nat):Int)/\1<=k2/\k+k2<=d.size/\D.size=d.size/\SW w w' q o D/\Beg D (kpN d (k+k2))/\(∀j,k+k2-1<=j->D[j]! =d[j]!)/\(kpN d (k+k2)).length<=k+k2-1) (μ:=λ_ y _=>d.size-(intOf y).toNat)
     ·refine ⟨1,d,by simp,by rw [e1,g],by omega,by omega,rfl,sw.drew,?_,λ_ _=>rfl,by rw [e1,g];omega⟩;rw [e1];exact p k oM g
     ·intros;rename_i w2 F E2 A;obtain ⟨k2,D,rfl,rfl,L,N,u,r,l,f,J⟩:=F;unfold yI;have n:=r.ar;by_cases hk5:k+k2<d.size
      ·have c3:=n.cell (k+k2) oM;have c4:=n.cell (k+k2-1) oM;have a3:o+k+k2=o+(k+k2):=oM;have a4:o+k+(k2-1)=o+(k+k2-1):=oM;have g0:(k2:Int)-1=((k2-1:Nat):Int):=oM;have g1:((d.size-k:Nat):Int)=(d.size:Int)-(k:Int):=oM;generalize hm:(kpN d (k+k2)).length=m at*;by_cases he2:d[k+k2]! =d[k+k2-1]!
       ·have e2:kpN d (k+k2+1)=kpN d (k+k2):=by
         simp only [kpN];rw [if_neg (by rintro (h|h);omega;exact h he2),eq]
        have z:D[k+k2]! =D[k+k2-1]! :=by rw [f _ oM,f _ oM,he2]
        rw [z] at c3;refine zS8 g0 a3 a4 c3 c4 @uq @iY.eq_1 @iY.eq_1 ?_;apply A
        ·refine ⟨k2+1,D,by simp,by rw [<-bq,e2,hm],by omega,by omega,u,r.drew,by rw [<-bq,e2];exact l,λj hj=>f j oM,by rw [<-bq,e2];omega⟩
        ·simp [intOf];omega
       ·have e2:kpN d (k+k2+1)=kpN d (k+k2)++ [d[k+k2]!]:=by
         simp only [kpN];rw [if_pos (.inr he2)]
        have z:¬D[k+k2]! =D[k+k2-1]! :=by rw [f _ oM,f _ oM];exact he2
        have c5:=n.cell m oM;have E:¬((D[k+k2]! :Nat):Int)=((D[k+k2-1]! :Nat):Int):=oM;refine mG g0 a3 a4 c3 c4 c5 n.frz E @uq @iY.eq_1 @iY.eq_1 ?_;apply A
        ·refine ⟨k2+1,D.setIfInBounds m D[k+k2]!,by simp,?_,by omega,by omega,by simp [u],(r.set1 m _ oM).drew,?_,?_,?_⟩
         ·rw [<-bq,e2];simp [hm]
         ·rw [<-bq,e2];refine ⟨by simp;omega,λi hi=> ?_⟩;rw [rJ _ _ _ _ oM];simp only [aA,ca,hm] at hi;by_cases e:i=m
          ·subst e;rw [if_pos rfl,f _ oM,getElem!_def (kpN d (k+k2)++ [d[k+k2]!]),eF oM,hm];simp
          ·rw [if_neg e,l.2 i oM,getElem!_def,getElem!_def,cF oM]
         ·intro j hj;rw [rJ _ _ _ _ oM,if_neg oM];exact f j oM
         ·rw [<-bq,e2];simp only [aA,ca,hm];omega
        ·simp [intOf];omega
      ·have ek:k+k2=d.size:=oM;have g1:((d.size-k:Nat):Int)=(k2:Int):=oM;rw [ek] at l J;rw [ek];generalize hm:(kpN d d.size).length=m at*;obtain ⟨a,hh,hs,hf⟩:=n;have B:¬cap=m:=oM;have cl:∀(c:Nat) K,aS prog .clear #[58] 0 #[false] #[.slice (some ⟨q,o+m,none⟩) (d.size-m) c] w2 K=K (.tuple #[]) _:=λc K=>Jd df rfl hh oM oM K
       refine zS6 g1 B cl @I9 @qy.eq_1 @qy.eq_1 ?_;refine hK _ ?_ ?_
       ·refine ⟨_,gQ hh _,?_,λi hi=> ?_⟩
        ·simp [Builtin.zeroCells];omega
        ·simp only [eg,hm] at hi;rw [List.getElem?_toArray,cw,cF (by simp;omega),List.getElem?_take_of_lt oM,dk,hf i oM,l.2 i oM];simp
       ·exact r.frm.trans (b:=w2) (G:=λx=>x=q) ⟨rfl,rfl,rfl,by simp,λx _ hx=>gR _ hx⟩ (λ_ _ h=>h)
    ·have C:¬((d[k]! :Nat):Int)=((d[k-1]! :Nat):Int):=oM;refine zS6 e0 c1 c2 C @I8 @yH.eq_1 ?_;apply hE
     ·refine ⟨k+1,by simp,by omega,by omega,?_,sw.drew⟩;simp only [kpN];rw [if_pos (.inr he)];simp [g]
     ·simp [intOf];omega
   ·have ek:k=d.size:=oM;subst ek;refine zS2 @I7 @yF.eq_1 ?_;have:=hK w1 (ar.beg (p _ (cn _) g)) sw.frm;rw [g] at this;exact this
end
end Go.Proofs.YtmpehclnnjgmcaaGreatDoor
namespace Go.Sh
open Go
variable {w w':ab}
def Frm.cell {F:Nat->Prop} (h:Frm F w w') (b i:Nat) (hb:b<w.heap.size) (hn:¬F b):w'.cell? ⟨b,i,none⟩=w.cell? ⟨b,i,none⟩:=by
 have:=h.block b hb hn;unfold World.cell?;simp only [this]
def SlO.isS' {t:TypeId} {z n:Nat} {v:av} {L:List av} (h:SlO w t z v n L):∃a cap,v= .slice a n cap/\n<=cap:=by
 rcases h.2 with ⟨rfl,rfl⟩|⟨b,o,cap,a,rfl,_,h2,_⟩
 ·exact ⟨_,_,rfl,cn _⟩
 ·exact ⟨_,_,rfl,h2⟩
def SlO.lit' (w:ab) (t:TypeId) (z n:Nat) (l:List av) (hl:l.length=n*z) (hm:n<=maxLen) {b:Nat} (hb:b=w.heap.size):SlO (w.alloc (.cells l.toArray t)) t z (.slice (some ⟨b,0,none⟩) n n) n l:=by subst hb;exact SlO.lit w t z n l hl hm
end Go.Sh
namespace Go.Proofs.YtmpehclnnjgmcaaGreatDoor
open Go Go.Sh
def srtN (l:List Nat):List Nat:=(Go.Sort.sort ltN l.toArray).toList
def cmpN (l:List Nat):List Nat:=kpN l.toArray l.length
def dg (x:Nat):Nat:=x-x%64
def wrI (x:Nat×Nat):Ins:=⟨1,x.1,x.2⟩
def flI (x:Nat):Ins:=⟨2,x,0⟩
def ay (ws:List (Nat×Nat)):List Ins:=ws.map wrI++(cmpN (srtN (ws.map λx=>dg x.1))).map flI++ [⟨3,0,0⟩]
def MK (l:List Nat):(cmpN l).length<=l.length:=Vw _ _
def qz (l:List Nat):(srtN l).Perm l:=by
 have:=(Go.Sort.sort_sorts ltN BD l.toArray).1;have h3:=this.2.2;have h1:=this.1;unfold srtN;rw [ep (by rw [h1];exact cn _)] at h3;rw [ep (cn _)] at h3;simpa using h3
def rK (l:List Nat):(srtN l).length=l.length:=(qz l).length_eq
def aY (ws:List (Nat×Nat)):(ay ws).length<=2*ws.length+1:=by
 have:=MK (srtN (ws.map λx=>dg x.1));rw [rK] at this;simp only [ay,aA,cC,ca] at this ⊢;omega
def bh (n:Nat) (v:av):Prop:=∀b,v.ownBlock=some b->n<=b
abbrev Nob:Nat->Prop:=λ_=>False
section
variable {w w':ab}
def bD {t tx e ty:TypeId} {z a:Nat} {zv:av} (E:ElT prog t tx e z a zv) {cs:Array Bool} {w0 w:ab} {v:av} {n:Nat} {L:List av} (hv:SlO w e z v n L) (hf:Frm Nob w0 w) (hn:bh w0.heap.size v)
  {xb xo m c:Nat} {news:List av} (hl:news.length=m*z) (hx:∀j u,news[j]? =some u->w.cell? ⟨xb,xo+j,none⟩=some u) (h1:bI news=true) (hm:0<m) (hb:(n+m)*a<=140737488355328) (g:n+m<9223372036854775807) {k:K1}
  (h:∀v' w',SlO w' e z v' (n+m) (L++news)->Frm Nob w0 w'->bh w0.heap.size v'->Frm (λb=>v.ownBlock=some b) w w'->(∀b,v'.ownBlock=some b->v.ownBlock=some b\/w.heap.size<=b)->k v' w'):
  aS prog .append #[t,tx] ty cs #[v,.slice (some ⟨xb,xo,none⟩) m c] w k:=by
 refine cK E hv hl hx h1 hm hb g (λv' w' hs d f _=> ?_);refine h v' w' hs (hf.trans d (λx hx e=>by have:=hn x e;omega)) ?_ d f;intro b i;rcases f b i with e|e
 ·exact hn b e
 ·exact cA hf.size e
def Ar.of_heap {b o:Nat} {d:Array Nat} (h:Ar w b o d) (e:w'.heap[b]? =w.heap[b]?):Ar w' b o d:=by
 obtain ⟨a,h,h2⟩:=h;exact ⟨a,e.trans h,h2⟩
def Ar.of_sl {q o cap n:Nat} {l:List Nat} (h:SlO w 26 1 (.slice (some ⟨q,o,none⟩) n cap) n (l.map u64)):Ar w q o l.toArray:=by
 have hl:l.length=n:=by have:=h.1;simpa using this
 rcases h.2 with ⟨e,_⟩|⟨b,o',c,a,e,hh,h1,h2,h3,h4⟩
 ·cases e
 ·injection e with e1 e2 e3;injection e1 with e1;injection e1 with e4 e5 e6;subst e4;subst e5;subst e3;refine ⟨a,hh,by simp;omega,λi hi=> ?_⟩;simp only [eg] at hi;have:=h4 i (u64 l[i]) (by simp [aq hi]);rw [this];simp [hi,u64]
def bg {t:TypeId} {z n:Nat} {v:av} {L:List av} (h:SlO w t z v n L):aj v=true:=by
 rcases h.2 with ⟨rfl,_⟩|⟨_,_,_,_,rfl,_⟩<;>rfl
def hP (ws:List (Nat×Nat)) (v:av) (hS:SlO w 98 2 v ws.length (wrL ws)) (h0:0<ws.length) (hl:ws.length<1073741824) (hw:∀x∈ws,x.1<18446744073709551616) (K:K1)
  (hK:∀v' w',SlO w' 220 3 v' (ay ws).length (inL (ay ws))->Ext w w'->bh w.heap.size v'->K v' w'):ae prog 123 #[v] w K:=by
 obtain ⟨sb,so,a2,rfl,a6⟩:=hS.isS h0;refine Qu _ _ _ ?_;unfold Vo;have W:∀K:K1,ev prog (Instr.makeSlice 58 (.int .i64 0) (.int .i64 (ws.length:Int))) w K=K (.slice (some ⟨w.heap.size,0,none⟩) 0 ws.length) (w.alloc (.cells (n9 (.int .u64 0) (ws.length*1)) 26)):=λK=>by
  have:=sF df 0 (ws.length:Int) w K oM oM oM oM;simpa using this
 refine zS1 W ?_;apply BV (I:=λx y z w'=>∃(i:Nat),z= .int .i64 (i:Int)/\i<=ws.length/\SlO w' 220 3 x i (inL ((ws.take i).map wrI))/\SlO w' 26 1 y i (((ws.take i).map λx=>dg x.1).map u64)/\Frm Nob w w'/\bh w.heap.size x/\bh w.heap.size y/\(∀b,x.ownBlock=some b->y.ownBlock≠some b)) (μ:=λ_ _ z _=>ws.length-(intOf z).toNat)
 ·refine ⟨0,rfl,by omega,SlO.nil _ _ _,?_,Frm.of_ext (Ext.alloc_self _ _),?_,?_,?_⟩
  ·have:=aa9 w (.int .u64 0) ws.length 1 26 (by simp only [maxLen];omega);rw [Nat.mul_one] at this;exact this
  ·intro b hb;cases hb
  ·intro b hb;injection hb with hb;subst hb;exact cn _
  ·intro b hb;cases hb
 ·intros;rename_i w2 hI E1 hE;obtain ⟨i,rfl,hi,sp,d,hf,np,nl,hd⟩:=hI;obtain ⟨pa,pc,rfl,a5⟩:=sp.isS';obtain ⟨la,lc,rfl,b3⟩:=d.isS';unfold yw;by_cases hik:i<ws.length
  ·obtain ⟨x,hx⟩:∃x,ws[i]? =some x:=⟨_,aq hik⟩;have b0:=hw x (fc hx);obtain ⟨xo,xv⟩:=x;have hg:=jI _ _ _ hx;have l:=hS.frm hf (λ_ _ h=>h);have c1:=l.cell rfl hg.1;have c2:=l.cell rfl hg.2;rw [<-bq] at c2;have lt:=l.lt rfl;refine zS2 c1 c2 ?_;have et:ws.take (i+1)=ws.take i++ [(xo,xv)]:=cM hx;refine bD dz (w0:=w) (sp.ext xZ) (hf.ext xZ) np (news:=inL [wrI (xo,xv)]) (by simp [inL]) ?_ rfl oM oM oM (λA w3 a P f c Z=> ?_)
   ·intro j u hj;rw [aB,aV _ _ _ _ _ (by simp only [RZ])];simpa [inL,wrI] using hj
   obtain ⟨U,S,rfl,a4⟩:=a.isS';have ltp:∀b,(Value.slice pa i pc).ownBlock=some b->b<w2.heap.size:=λb hb=>sp.lt hb
   have c3:w3.cell? ⟨w2.heap.size,0,none⟩=some (.int .u64 (xo:Int)):=by
    rw [c.cell _ _ (by simp only [RZ];omega) (λe=>by have:=ltp _ e;omega),gO _ _ _ _ (by simp only [RZ];omega),aV _ _ _ _ _ rfl];rfl
   have b2:w2.heap.size<w3.heap.size:=by have:=c.size;simp only [RZ] at this;omega
   have J:SlO w3 26 1 (.slice la i lc) i (((ws.take i).map λx=>dg x.1).map u64):=(d.ext xZ).frm c (λb hb e=>hd b e hb);refine zS2 c3 @abg ?_;have E:∀b,(Value.slice U (i+1) S).ownBlock=some b->(Value.slice la i lc).ownBlock≠some b:=by
    intro b hb e;rcases Z b hb with h1|h1
    ·exact hd b h1 e
    ·have:=d.lt e;simp only [RZ] at h1;omega
   refine bD df (w0:=w) (J.ext xZ) (P.ext xZ) nl (news:= [u64 (dg xo)]) (by simp) ?_ rfl oM oM oM (λa9 w4 C V M H Y=> ?_)
   ·intro j u hj;rw [aB,aV _ _ _ _ _ (by simp only [RZ])];simpa [u64,dg] using hj
   obtain ⟨b1,b5,rfl,a3⟩:=C.isS';refine zS0 ?_;apply hE
   ·refine ⟨i+1,by simp,by omega,?_,?_,V,f,M,?_⟩
    ·rw [et,f6,jJ];exact (a.ext xZ).frm H (λb hb e=>E b hb e)
    ·rw [et];simpa using C
    ·intro b hb e;rcases Y b e with h1|h1
     ·exact E b hb h1
     ·have:=a.lt hb;simp only [RZ] at h1;omega
   ·simp [intOf];omega
  ·have:i=ws.length:=oM;subst this;rw [cB] at sp d;obtain ⟨q,o,cap,ev,hc⟩:=d.isS h0;injection ev with e1 _ e3;subst e1;subst e3;have ar:=Ar.of_sl d;have k:(List.map (λx:Nat×Nat=>dg x.1) ws).toArray.size=ws.length:=by simp
   generalize hls:(List.map (λx:Nat×Nat=>dg x.1) ws)=ls at*;have G:(Value.slice pa ws.length pc).ownBlock≠some q:=λe=>hd q e rfl
   have a8:=nl q rfl;refine zS2 @IX @yv.eq_1 ?_;rw [<-k];refine ae3 ar oM _ (λw3 p s=> ?_);rw [<-s]
   try simp (disch:=try exact dZ) only [↓RBp,↓RA,↓reduceIte,Nat.reduceAdd,Nat.reduceMul,Nat.reduceEqDiff,RB,RX,RA2]
   refine QL p.ar oM oM oM _ (λw4 t T=> ?_);have O:kpN (Go.Sort.sort ltN ls.toArray) (Go.Sort.sort ltN ls.toArray).size=cmpN (srtN ls):=by
    unfold cmpN srtN;simp
   rw [O] at t ⊢;rw [s.trans k];have b4:(cmpN (srtN ls)).length<=ws.length:=by
    have h1:=MK (srtN ls);rw [rK] at h1;simp at k;omega
   have B:ay ws=ws.map wrI++(cmpN (srtN ls)).map flI++ [⟨3,0,0⟩]:=by unfold ay;rw [hls]
   have fq:Frm (λx=>x=q) w2 w4:=p.frm.trans T (λ_ _ h=>h);have f4:Frm Nob w w4:=hf.trans fq (λx hx e=>by omega);have R:SlO w4 220 3 (.slice pa ws.length pc) ws.length (inL (ws.map wrI)):=sp.frm fq (λb hb e=>G (by rw [hb,e]));generalize hcs:cmpN (srtN ls)=cs at*;refine zS0 ?_;apply BW (I:=λx z w'=>∃(j:Nat),z= .int .i64 (j:Int)/\j<=cs.length/\SlO w' 220 3 x (ws.length+j) (inL (ws.map wrI++(cs.take j).map flI))/\Frm Nob w w'/\bh w.heap.size x/\x.ownBlock≠some q/\Ar w' q o cs.toArray) (μ:=λ_ z _=>cs.length-(intOf z).toNat)
   ·exact ⟨0,rfl,by omega,by simpa using R,f4,np,G,t⟩
   ·intros;rename_i w5 L E2 X;obtain ⟨j,rfl,hj,g,f5,D,F,m⟩:=L;obtain ⟨a7,b6,rfl,a1⟩:=g.isS';unfold yy;by_cases hjk:j<cs.length
    ·have c1:=m.cell j (by simpa using hjk);have Q:(cs.toArray)[j]! =cs[j]:=by simp [hjk]
     rw [Q] at c1;have a0:=m.lt;refine zS1 c1 ?_;refine bD dz (w0:=w) (g.ext xZ) (f5.ext xZ) D (news:=inL [flI cs[j]]) (by simp [inL]) ?_ rfl oM oM oM (λA w6 a n f c r=> ?_)
     ·intro j u hj;rw [aB,aV _ _ _ _ _ (by simp only [RZ])];simpa [inL,flI] using hj
     have et:cs.take (j+1)=cs.take j++ [cs[j]]:=cM (aq hjk);refine zS0 ?_;apply X
     ·refine ⟨j+1,by simp,by omega,?_,n,f,?_,?_⟩
      ·rw [et,f6,<-cw,jJ,<-bq];exact a
      ·intro e;rcases r q e with h1|h1
       ·exact F h1
       ·simp only [RZ] at h1;omega
      ·exact (m.of_heap (bt _ a0)).frm c (λe=>F e)
     ·simp [intOf];omega
    ·have:j=cs.length:=oM;subst this;rw [cB] at g;refine zS2 @IY @yx.eq_1 ?_;refine bD dz (w0:=w) (g.ext xZ) (f5.ext xZ) D (news:=inL [⟨3,0,0⟩]) (by simp [inL]) ?_ rfl oM oM oM (λA w6 a n f c r=> ?_)
     ·intro j u hj;rw [aB,aV _ _ _ _ _ (by simp only [RZ])];simpa [inL] using hj
     rw [<-jJ,<-B] at a;have N:ws.length+cs.length+1=(ay ws).length:=by rw [B];simp [bq]
     rw [N] at a;exact hK _ _ a (n.to_ext (λ_ _ h=>h)) f
end
def Jg {P:Program} {t e:TypeId} {z a:Nat} {zv:av} (E:ElT P t t e z a zv) (k:IntKind) (w:ab):(Instr.sliceAt t (.slice none 0 0) none (some (.int k ((0:Nat):Int))) none).run P w= .ok (.slice none 0 0) w:=by
 obtain ⟨i,hi,rfl,hz,rfl⟩:=E.info;have hb:(ft true 0 0 none (some (.int k ((0:Nat):Int))) none).run P w= .ok (0,0,0) w:=by
  have:=λc=>iV (P:=P) k 0 0 c w (cn _)
  simp only [Int.ofNat_eq_natCast,Int.cast_ofNat_Int] at this;simp [ft,this]
 simp only [Instr.sliceAt,bk,az E.un,bl,Instr.slice,hb];simp only [sizeOf,typeInfo,bk,program,Sem.run,hi,bl,gn,Option.map_none];simp
def abm {P:Program} {t e:TypeId} {z a:Nat} {zv:av} (E:ElT P t t e z a zv) (b o len cap:Nat) (w:ab) (k:K1):ev P (Instr.sliceAt t (.slice (some ⟨b,o,none⟩) len cap) none (some (.int .i64 ((0:Nat):Int))) none) w k=k (.slice (some ⟨b,o,none⟩) 0 cap) w:=ad (fU E b o len cap .i64 0 w oM) k
section
variable {w w':ab}
def Vx:ElT prog 120 120 220 3 24 (.agg #[.int .u8 0,.int .u64 0,.int .u64 0]):=dz
def ae4 (m:Nat) (hm:0<m) (a:m<1099511627776) (K:K1) (hK:∀c w',Ext w w'->SlO w' 220 3 (.slice (some ⟨w.heap.size,0,none⟩) 0 c) 0 []->m<=c->K (.slice (some ⟨w.heap.size,0,none⟩) 0 c) w'):
  ae prog 186 #[.slice none 0 0,.int .i64 (m:Int)] w K:=by
 refine QF _ _ _ _ ?_;unfold Vu;have r1:= @abl prog 120 (by kernel_rfl);have r2:∀(w:ab) (k:K1),ev prog (Instr.sliceAt 120 (.slice none 0 0) none (some (.int .i64 ((0:Nat):Int))) none) w k=k (.slice none 0 0) w:=λw k=>ad (Jg Vx .i64 w) k
 have r3:=λb o len cap w k=> @abm prog 120 _ _ _ _ Vx b o len cap w k
 have z0:((0:Nat):Int)-((0:Nat):Int)=0:=rfl;have z1:(m:Int)-0=(m:Int):=oM;refine mG r1 r2 r3 z0 z1 @Jb @yJ.eq_1 @ur @gw.eq_1 @gw.eq_1 @gw.eq_1 ?_;refine Ep Vx (by kernel_rfl) hm oM oM (λc w' he hs hc=> ?_);refine zS8 r1 r2 r3 z0 z1 @ur @gw.eq_1 @gw.eq_1 ?_;exact hK c w' he hs hc
def uu (l:List Ins):bI (inL l)=true:=by
 induction l with
 |nil=>rfl
 |cons a l ih=>simp [inL,bI,aj,ih]
def B6 (p q:List Ins) (v u:av) (hp:SlO w 220 3 v p.length (inL p)) (hq:SlO w 220 3 u q.length (inL q)) (h1:0<p.length) (h2:0<q.length) (h3:p.length<1073741824) (h4:q.length<1073741824) (K:K1)
  (hK:∀v' w',SlO w' 220 3 v' (p++q).length (inL (p++q))->Ext w w'->bh w.heap.size v'->K v' w'):ae prog 119 #[v,u] w K:=by
 obtain ⟨pb,po,pc,rfl,k⟩:=hp.isS h1;obtain ⟨qb,qo,qc,rfl,l⟩:=hq.isS h2;refine Qt _ _ _ _ ?_;unfold Vn;refine zS0 ?_;refine Qz _ _ _ ?_;unfold Vs;refine zS0 ?_;have d1:∀(w':ab),Ext (w.alloc (.cells #[.slice (some ⟨pb,po,none⟩) p.length pc,.slice (some ⟨qb,qo,none⟩) q.length qc] 120)) w'->w'.cell? ⟨w.heap.size,0,none⟩=some (.slice (some ⟨pb,po,none⟩) p.length pc)/\w'.cell? ⟨w.heap.size,1,none⟩=some (.slice (some ⟨qb,qo,none⟩) q.length qc):=by
  intro w' he;constructor
  ·rw [he.cell _ _ (by simp only [RZ];omega),aV _ _ _ _ _ rfl];rfl
  ·rw [he.cell _ _ (by simp only [RZ];omega),aV _ _ _ _ _ rfl];rfl
 generalize hw1:w.alloc (.cells #[.slice (some ⟨pb,po,none⟩) p.length pc,.slice (some ⟨qb,qo,none⟩) q.length qc] 120)=w1 at*;have e1:Ext w w1:=by rw [<-hw1];exact Ext.alloc_self _ _
 apply BY (I:=λx z w'=>w'=w1/\∃i:Nat,z= .int .i64 (i:Int)/\i<=2/\x= .int .i64 (((if i=0 then 0 else if i=1 then p.length else p.length+q.length:Nat)):Int)) (μ:=λ_ z _=>2-(intOf z).toNat)
 ·exact ⟨rfl,0,rfl,by omega,rfl⟩
 ·intros;rename_i w2 hI E1 hE;obtain ⟨rfl,i,rfl,hi,hx⟩:=hI;obtain ⟨c0,c1⟩:=d1 w2 (Ext.refl _);have a:i=0\/i=1\/i=2:=oM;rcases a with rfl|rfl|rfl
  ·simp only [↓reduceIte] at hx;subst hx;unfold lV;refine zS3 c0 @um @qw.eq_1 ?_;apply hE
   ·exact ⟨rfl,1,rfl,by omega,by simp⟩
   ·simp [intOf]
  ·simp only [↓reduceIte,ga] at hx;subst hx;unfold lV;refine zS3 c1 @um @qw.eq_1 ?_;apply hE
   ·exact ⟨rfl,2,rfl,by omega,by simp⟩
   ·simp [intOf]
  ·simp only [↓reduceIte,Nat.reduceEqDiff] at hx;subst hx;unfold lV;have gg:∀K':K1,(∀c w',Ext w2 w'->SlO w' 220 3 (.slice (some ⟨w2.heap.size,0,none⟩) 0 c) 0 []->p.length+q.length<=c->K' (.slice (some ⟨w2.heap.size,0,none⟩) 0 c) w')->ae prog 186 #[.slice none 0 0,.int .i64 ((p.length+q.length:Nat):Int)] w2 K':=λK' h=>ae4 (p.length+q.length) oM oM K' h
   refine zS2 @I3 @yC.eq_1 ?_;refine gg _ (λc w3 g e m=> ?_);refine zS0 ?_;have ap:∀i,i<=2->(if i=0 then [] else if i=1 then p else p++q:List Ins).length=if i=0 then 0 else if i=1 then p.length else p.length+q.length:=by
    intro i hi;split
    ·rfl
    ·split<;>simp
   apply BZ (I:=λx z w'=>∃i:Nat,z= .int .i64 (i:Int)/\i<=2/\SlO w' 220 3 x (if i=0 then [] else if i=1 then p else p++q:List Ins).length (inL (if i=0 then [] else if i=1 then p else p++q))/\Frm Nob w2 w'/\bh w2.heap.size x) (μ:=λ_ z _=>2-(intOf z).toNat)
   ·refine ⟨0,rfl,by omega,e,Frm.of_ext g,?_⟩;intro b hb;injection hb with hb;subst hb;exact cn _
   ·intros;rename_i w4 f E4 d;obtain ⟨i,rfl,hi,s4,f4,n4⟩:=f;unfold yE;have e4:Ext w2 w4:=f4.to_ext (λ_ _ h=>h);obtain ⟨c0,c1⟩:=d1 w4 e4;obtain ⟨xa,xc,rfl,n⟩:=s4.isS';have a:i=0\/i=1\/i=2:=oM;rcases a with rfl|rfl|rfl
    ·simp only [↓reduceIte,List.length_nil] at s4 ⊢;refine zS1 c0 ?_;refine bD Vx (w0:=w2) s4 f4 n4 (news:=inL p) (ut p) (λj u hj=>(hp.ext (e1.trans e4)).cell rfl hj) (uu p) h1 oM oM (λv' w5 s5 f5 n5 _ _=> ?_);refine zS0 ?_;apply d
     ·exact ⟨1,rfl,by omega,by simpa [inL] using s5,f5,n5⟩
     ·simp [intOf]
    ·simp only [↓reduceIte,ga] at s4 ⊢;refine zS1 c1 ?_;refine bD Vx (w0:=w2) s4 f4 n4 (news:=inL q) (ut q) (λj u hj=>(hq.ext (e1.trans e4)).cell rfl hj) (uu q) h2 oM oM (λv' w5 s5 f5 n5 _ _=> ?_);refine zS0 ?_;apply d
     ·refine ⟨2,rfl,by omega,?_,f5,n5⟩;simp only [Nat.reduceEqDiff,if_false,aA,jJ];exact s5
     ·simp [intOf]
    ·simp only [↓reduceIte,Nat.reduceEqDiff] at s4 ⊢;refine zS2 @I4 @yD.eq_1 ?_;refine hK _ _ s4 (e1.trans e4) (λb hb=>cA e1.size (n4 b hb))
end
def bB.ext {w w':ab} (h:bB w) (e:Ext w w'):bB w':=⟨λi hi=>e.cell_some (h.pay i hi),λi hi=>e.cell_some (h.nib i hi)⟩
def Row (w:ab) (b o:Nat) (l:List av):Prop:=∀i v,l[i]? =some v->w.cell? ⟨b,o+i,none⟩=some v
def Row.ext {w w':ab} {b o:Nat} {l:List av} (h:Row w b o l) (e:Ext w w'):Row w' b o l:=λi v hv=>e.cell_some (h i v hv)
def u8s (l:List Nat):List av:=l.map λ(n:Nat)=>Value.int .u8 (n:Int)
def abn {l:List Nat} {k:Nat} (h:k<l.length):(u8s l)[k]? =some (.int .u8 ((l.getD k 0:Nat):Int)):=by
 simp [u8s,ei,aq h,al]
def QM {l:List Nat} {k:Nat} (h:k<l.length):l.take (k+1)=l.take k++ [l.getD k 0]:=by
 rw [List.take_succ_eq_append_getElem h];simp [al,aq h]
def jK (a:Int) (w:ab) (K:K1):ae prog 158 #[.int .i64 a] w K=K (.bool (decide (0<=a)&&decide (a<=4064))) w:=by
 refine au (by kernel_rfl) (P2 _ _ _ ?_) K;unfold UR;by_cases h0:0<=a
 ·by_cases h1:a<=4064
  ·simp (disch:=first|omega|simp only [RO]|(simp only [RZ]<;>omega)|fail) only [↓RA,↓reduceIte,Nat.reduceAdd,Nat.reduceMul,Nat.reduceEqDiff,RB]
  ·simp (disch:=first|omega|simp only [RO]|(simp only [RZ]<;>omega)|fail) only [↓RA,↓reduceIte,Nat.reduceAdd,Nat.reduceMul,Nat.reduceEqDiff,RB]
 ·simp (disch:=first|omega|simp only [RO]|(simp only [RZ]<;>omega)|fail) only [↓RA,↓reduceIte,Nat.reduceAdd,Nat.reduceMul,Nat.reduceEqDiff,RB]
def cT (a:Int) (w:ab) (K:K1) (h0:0<=a) (h1:a<144115188075855872):ae prog 162 #[.int .i64 a] w K=K (.int .u64 ((a.toNat*64:Nat):Int)) w:=by
 refine au (by kernel_rfl) (P9 _ _ _ ?_) K;unfold UV;simp (disch:=first|omega|simp only [RO]|(simp only [RZ]<;>omega)|fail) only [↓RA,↓reduceIte,Nat.reduceAdd,Nat.reduceMul,Nat.reduceEqDiff,RB]
def mZ (c i:Int):Int:=8+i*(wordsS c+1)
def aM {c:Int} (h0:0<=c) (h1:c<5):perS c=248/(wordsS c+1)/\4<=perS c/\perS c<=62:=by
 have hw:=aN h0 h1;have e:perS c=248/(wordsS c+1):=by unfold perS;rw [if_neg (by omega)]
 refine ⟨e,?_⟩;have:c=0\/c=1\/c=2\/c=3\/c=4:=by omega
 rcases this with rfl|rfl|rfl|rfl|rfl<;>(rw [e,hw.1];decide)
def bv {c i:Int} (h0:0<=c) (h1:c<5) (hi:0<=i) (a:i<perS c):8<=mZ c i/\mZ c i+wordsS c<256:=by
 have hp:=aM h0 h1;have hw:=aN h0 h1;unfold mZ;have:c=0\/c=1\/c=2\/c=3\/c=4:=by omega
 rcases this with rfl|rfl|rfl|rfl|rfl<;>(rw [hp.1,hw.1] at a;rw [hw.1];simp [jG] at a ⊢;omega)
def Er (c i:Int) (w:ab) (K:K1) (hG:bB w) (h0:0<=c) (h1:c<5) (hi:0<=i) (a:i<perS c):ae prog 161 #[.int .i64 c,.int .i64 i] w K=K (.tuple #[.int .i64 (mZ c i),.int .i64 0]) w:=by
 refine au (by kernel_rfl) (P8 _ _ _ _ ?_) K;unfold UU;have hp:=aM h0 h1;have hw:=aN h0 h1;have hb:=bv h0 h1 hi a;have hm:0<=i*(wordsS c+1)/\i*(wordsS c+1)<=256:=by unfold mZ at hb;omega
 unfold mZ;simp (disch:=first|omega|simp only [RO]|(simp only [RZ]<;>omega)|fail) only [↓RA,↓reduceIte,Nat.reduceAdd,Nat.reduceMul,Nat.reduceEqDiff,RB,cy c w _ hG,hG.pay,<-hw.1]
def Vy (r b:Nat) (w:ab) (K:K1) (hG:bB w) (hr:r<4294967296) (hb:b<256):ae prog 174 #[.int .u32 r,.int .u8 b] w K=K (.int .u32 ((stepN r b:Nat):Int)) w:=by
 refine au (by kernel_rfl) (Qf _ _ _ _ ?_) K;unfold U2;have h1:r^^^b<4294967296:=Nat.xor_lt_two_pow (n:=32) hr (by omega);have hm:∀x:Nat,x&&&15=x%16:=λx=>em x 4
 have h2:nb (r^^^b)<4294967296:=Vd _ h1;have e2:(r^^^b)/2^4^^^nibN ((r^^^b)%16)=nb (r^^^b):=rfl;have e3:nb (r^^^b)/2^4^^^nibN (nb (r^^^b)%16)=stepN r b:=rfl;have n1:=BP ((r^^^b)%16);have n2:=BP (nb (r^^^b)%16);simp (disch:=first|omega|simp only [RO]|(simp only [RZ]<;>omega)|fail) only [↓RA,↓reduceIte,Nat.reduceAdd,Nat.reduceMul,Nat.reduceEqDiff,RB,hm,hG.nib,e2,e3]
def Vz:∀(l:List Nat) (r:Nat),r<4294967296->(∀x∈l,x<256)->l.foldl stepN r<4294967296:=by
 intro l
 induction l with
 |nil=>intro r h _;exact h
 |cons x l ih=>intro r h hl;exact ih _ (uf r x h (hl x List.mem_cons_self)) (λy hy=>hl y (List.mem_cons_of_mem _ hy))
def VA (l:List Nat) (b o cap:Nat) (w:ab) (K:K1) (hG:bB w) (hl:∀x∈l,x<256) (hn:l.length<1000) (hr:Row w b o (u8s l)):ae prog 216 #[.int .u32 ((0:Nat):Int),.slice (some ⟨b,o,none⟩) l.length cap] w K=K (.int .u32 ((sumL l:Nat):Int)) w:=by
 refine au (by kernel_rfl) (Qm _ _ _ _ ?_) K;unfold U9;simp (disch:=first|omega|simp only [RO]|(simp only [RZ]<;>omega)|fail) only [↓RA,↓reduceIte,Nat.reduceAdd,Nat.reduceMul,Nat.reduceEqDiff,RB];apply BO (I:=λx5 x12 w'=>∃k:Nat,k<=l.length/\w'=w/\x12= .int .i64 (k:Int)/\x5= .int .u32 (((l.take k).foldl stepN (4294967295^^^0):Nat):Int)) (μ:=λ_ x12 _=>l.length-(intOf x12).toNat)
 ·exact ⟨0,by omega,rfl,rfl,rfl⟩
 ·rintro x5 x12 w' ⟨k,hk,rfl,rfl,rfl⟩ E1 hE;unfold yi;have hf:(l.take k).foldl stepN (4294967295^^^0)<4294967296:=Vz _ _ (by decide) (λx hx=>hl x (List.mem_of_mem_take hx));by_cases h:k<l.length
  ·have hc:=hr k _ (abn h);have hx:l.getD k 0<256:=by
    have:l.getD k 0=l[k]:=by simp [al,aq h]
    rw [this];exact hl _ (ch h)
   have ht:=QM h;simp (disch:=first|omega|simp only [RO]|(simp only [RZ]<;>omega)|fail) only [↓RA,↓reduceIte,Nat.reduceAdd,Nat.reduceMul,Nat.reduceEqDiff,RB,hc,Vy _ _ _ _ hG hf hx];refine hE _ _ _ ⟨k+1,by omega,rfl,by simp,?_⟩ ?_
   ·rw [ht,List.foldl_append];rfl
   ·simp [intOf];omega
  ·have a:k=l.length:=by omega
   subst a;simp (disch:=first|omega|simp only [RO]|(simp only [RZ]<;>omega)|fail) only [↓RA,↓reduceIte,Nat.reduceAdd,Nat.reduceMul,Nat.reduceEqDiff,RB,IS];unfold yh;rw [cB] at hf ⊢;simp (disch:=first|omega|simp only [RO]|(simp only [RZ]<;>omega)|fail) only [↓RA,↓reduceIte,Nat.reduceAdd,Nat.reduceMul,Nat.reduceEqDiff,RB,sumL]
def bB.alloc {w:ab} (h:bB w) (o:Obj):bB (w.alloc o):=h.ext (Ext.alloc_self w o)
def bB.drew {w:ab} (h:bB w):bB w.drew:=h.ext (Ext.refl w).drew
def abo (w:ab) (l:List av) (t:TypeId):Row (w.alloc (.cells l.toArray t)) w.heap.size 0 l:=by
 intro i v hv;rw [aB,aV _ _ _ _ _ rfl];simpa using hv
def agy (l:List Nat) (b o cap:Nat) (w:ab) (K:K1) (hG:bB w) (hl:∀x∈l,x<256) (hn:l.length<1000) (hr:Row w b o (u8s l)):ae prog 200 #[.slice (some ⟨b,o,none⟩) l.length cap] w K=K (.int .u32 ((sumL l:Nat):Int)) w:=by
 refine au (by kernel_rfl) (Ql _ _ _ ?_) K;unfold U8;simp (disch:=first|omega|simp only [RO]|(simp only [RZ]<;>omega)|fail) only [↓RA,↓reduceIte,Nat.reduceAdd,Nat.reduceMul,Nat.reduceEqDiff,RB,VA l b o cap w _ hG hl hn hr]
def m9 (x:Nat):List Nat:= [x%256,x/256%256,x/65536%256,x/16777216%256]
def jL {a b k:Nat} (hb:b<2^k):(2^k*a)|||b=2^k*a+b:=(Nat.two_pow_add_eq_or_of_lt hb a).symm
def fN (x:Nat) (h:x<4294967296):sealN x<18446744073709551616:=by have:=Mh x h;unfold sealN;omega
def oj (x:Nat):Obj:= .cells (u8s (m9 x)).toArray 5
def fW (x:Nat) (w:ab) (K:K1) (hG:bB w) (hx:x<4294967296):ae prog 185 #[.int .u32 x] w K=K (.int .u64 ((sealN x:Nat):Int)) (w.alloc (oj x)):=by
 refine au (by kernel_rfl) (Qj _ _ _ ?_) K;unfold U6;have hs:=Mh x hx;have e0:x%256<256:=by omega
 have a:=abo w (u8s (m9 x)) 5;have hc:=λK=>agy (m9 x) w.heap.size 0 4 (w.alloc (oj x)) K (hG.alloc _) (by simp [m9];omega) (by simp [m9]) a
 have e1:sumL (m9 x)=Ej x:=IV x hx;have e2:(Ej x*2^32%18446744073709551616|||x)=sealN x:=by
  have:Ej x*2^32%18446744073709551616=2^32*Ej x:=by omega
  rw [this,jL (by omega)];unfold sealN;omega
 rw [e1] at hc;have eo:w.alloc (.cells #[.int .u8 ((x%256:Nat):Int),.int .u8 ((x/2^8%256:Nat):Int),.int .u8 ((x/2^16%256:Nat):Int),.int .u8 ((x/2^24%256:Nat):Int)] 5)=w.alloc (oj x):=rfl;have el:(m9 x).length=4:=rfl;rw [el] at hc;simp (disch:=first|omega|simp only [RO]|(simp only [RZ]<;>omega)|fail) only [↓RA,↓reduceIte,Nat.reduceAdd,Nat.reduceMul,Nat.reduceEqDiff,RB,eo,hc,e2]
def aia {g k:Nat} (hg:g<65536) (hk:k<65536):g|||(k*2^16%4294967296)=g+k*65536:=by
 have:k*2^16%4294967296=2^16*k:=by omega
 rw [this,cD,jL (by omega)];omega
def aib {x s:Nat} (hx:x<16777216) (hs:s<256):x|||(s*2^24%4294967296)=x+s*16777216:=by
 have:s*2^24%4294967296=2^24*s:=by omega
 rw [this,cD,jL (by omega)];omega
def VB {c:Nat} (h:c<65536):c*2^16%4294967296=c*65536:=by omega
def VC {c:Nat} (h:c<4096):c*2^20%4294967296=c*1048576:=by omega
def hd1 {o:Nat} (ho:o<16):3305111552|||o*1048576=1048576*(3152+o):=by
 have:=jL (a:=197) (b:=o*1048576) (k:=24) (by omega);simp only [Nat.reducePow,Nat.reduceMul] at this;omega
def hd2 {o c:Nat} (hc:c<16):1048576*(3152+o)|||c*65536=65536*(50432+o*16+c):=by
 have:=jL (a:=3152+o) (b:=c*65536) (k:=20) (by omega);simp only [Nat.reducePow] at this;omega
def hd3 {x g:Nat} (hg:g<65536):65536*x|||g=65536*x+g:=by
 have:=jL (a:=x) (b:=g) (k:=16) (by omega);simp only [Nat.reducePow] at this;exact this
def hd4 {c o:Nat} (hc:c<16) (ho:o<16):c*65536|||o*1048576<4294967296:=da (n:=32) (by omega) (by omega)
def agz {g c o:Nat} (hg:g<65536) (hc:c<16) (ho:o<16):(g|||3305111552)|||(c*65536|||o*1048576)=g+c*65536+o*1048576+3305111552:=by
 rw [gp,cD (c*65536),<-gp 3305111552,hd1 ho,hd2 hc,cD g,hd3 hg];omega
def hd0 {g:Nat} (hg:g<65536):g|||3305111552=g+3305111552:=by
 have:=jL (a:=197) (b:=g) (k:=24) (by omega);simp only [Nat.reducePow,Nat.reduceMul] at this;rw [cD,this];omega
def ae5 {g c o:Nat} (hg:g<65536) (hc:c<16) (ho:o<16):(g+3305111552)|||(c*65536|||o*1048576)=g+c*65536+o*1048576+3305111552:=by rw [<-hd0 hg];exact agz hg hc ho
def dB (g k s:Nat):Nat:=g+k*65536+s*16777216
def hdX (c o:Int) (g:Nat):Nat:=if 0<=c then g+(c+1).toNat*65536+(o+1).toNat*1048576+3305111552 else g+3305111552
def iZ (g k s:Nat):Obj:= .cells #[.int .u16 (g:Int),.int .u8 (k:Int),.int .u8 (s:Int)] 200
def hdO (c o:Int) (g:Nat):Obj:= .cells #[.int .i64 c,.int .i64 o,.int .u16 (g:Int)] 132
def ML (g k s:Nat) (w:ab) (K:K1) (hG:bB w) (hg:g<65536) (hk:k<256) (hs:s<256):ae prog 160 #[.agg #[.int .u16 (g:Int),.int .u8 (k:Int),.int .u8 (s:Int)]] w K=K (.int .u64 ((sealN (dB g k s):Nat):Int)) ((w.alloc (iZ g k s)).alloc (oj (dB g k s))):=by
 refine au (by kernel_rfl) (P7 _ _ _ ?_) K;unfold UT;simp (disch:=first|omega|simp only [RO]|(simp only [RZ]<;>omega)|fail) only [↓RA,↓reduceIte,Nat.reduceAdd,Nat.reduceMul,Nat.reduceEqDiff,RB,RW,aia hg (show k<65536 by omega),aib (show g+k*65536<16777216 by omega) hs,λo x K=>fW x (w.alloc o) K (hG.alloc o),iZ,dB]
def MM (c o:Int) (g:Nat) (w:ab) (K:K1) (hG:bB w) (hg:g<65536) (hc: -1<=c) (a:c<5) (ho: -1<=o) (d:o<8):ae prog 163 #[.agg #[.int .i64 c,.int .i64 o,.int .u16 (g:Int)]] w K=K (.int .u64 ((sealN (hdX c o g):Nat):Int)) ((w.alloc (hdO c o g)).alloc (oj (hdX c o g))):=by
 refine au (by kernel_rfl) (Qb _ _ _ ?_) K;unfold UY;by_cases h:0<=c
 ·have b:=hd4 (show (c+1).toNat<16 by omega) (show (o+1).toNat<16 by omega);have e:hdX c o g=g+(c+1).toNat*65536+(o+1).toNat*1048576+3305111552:=by unfold hdX;rw [if_pos h]
  simp (disch:=first|omega|simp only [RO]|(simp only [RZ]<;>omega)|fail) only [↓RA,↓reduceIte,Nat.reduceAdd,Nat.reduceMul,Nat.reduceEqDiff,RB,RW,hd0 hg,VB (show (c+1).toNat<65536 by omega),VC (show (o+1).toNat<4096 by omega),ae5 hg (show (c+1).toNat<16 by omega) (show (o+1).toNat<16 by omega),λo x K=>fW x (w.alloc o) K (hG.alloc o),hdO,e,ue,ql]
 ·have e:hdX c o g=g+3305111552:=by unfold hdX;rw [if_neg h]
  simp (disch:=first|omega|simp only [RO]|(simp only [RZ]<;>omega)|fail) only [↓RA,↓reduceIte,Nat.reduceAdd,Nat.reduceMul,Nat.reduceEqDiff,RB,RW,hd0 hg,λo x K=>fW x (w.alloc o) K (hG.alloc o),hdO,e,ue,ql]
def agA (g k s:Nat):av:= .agg #[.int .u16 (g:Int),.int .u8 (k:Int),.int .u8 (s:Int)]
def isS (x:Nat):Bool:=decide (sealN (x%4294967296)=x)
def gX (x:Nat):Nat:=x%65536
def kX (x:Nat):Nat:=x/65536%256
def sX (x:Nat):Nat:=x/16777216%256
def VD (x:Nat) (w:ab) (K:K1) (hG:bB w) (hx:x<18446744073709551616) (h:∀w',Ext w w'->K (.tuple #[if isS x then agA (gX x) (kX x) (sX x) else agA 0 0 0,.bool (isS x)]) w'):ae prog 176 #[.int .u64 x] w K:=by
 refine Qh _ _ _ ?_;unfold U4;by_cases hs:sealN (x%4294967296)=x
 ·have e:isS x=true:=decide_eq_true hs;rw [e] at h;have e1:x%4294967296%65536=gX x:=by unfold gX;omega
  have e2:x%4294967296/2^16%256=kX x:=by unfold kX;omega
  have e3:x%4294967296/2^24%256=sX x:=by unfold sX;omega
  simp (disch:=first|omega|simp only [RO]|(simp only [RZ]<;>omega)|fail) only [↓RA,↓reduceIte,Nat.reduceAdd,Nat.reduceMul,Nat.reduceEqDiff,RB,RW,RS,λo x K=>fW x (w.alloc o) K (hG.alloc o),hs,e1,e2,e3];exact h _ (by repeat (first|(with_reducible first|refine eB ?_ _|assumption|exact eR _|refine eA ?_ _|refine eD ?_|refine eT ?_ (by assumption))|exact eR _))
 ·have e:isS x=false:=decide_eq_false hs;rw [e] at h;simp (disch:=first|omega|simp only [RO]|(simp only [RZ]<;>omega)|fail) only [↓RA,↓reduceIte,Nat.reduceAdd,Nat.reduceMul,Nat.reduceEqDiff,RB,RW,RS,λo x K=>fW x (w.alloc o) K (hG.alloc o),hs];exact h _ (by repeat (first|(with_reducible first|refine eB ?_ _|assumption|exact eR _|refine eA ?_ _|refine eD ?_|refine eT ?_ (by assumption))|exact eR _))
def hdV (c o:Int) (g:Nat):av:= .agg #[.int .i64 c,.int .i64 o,.int .u16 (g:Int)]
def kG (c o:Int):Bool:=decide (0<=c)&&decide (c<5)&&decide (0<=o)&&decide (o<8)
def VE {c:Int} (h:¬(0<=c/\c<5)):perS c=0:=by unfold perS;rw [if_pos (fC h)]
def iw (c o:Int) (g:Nat) (w:ab) (K:K1) (hG:bB w):ae prog 159 #[.agg #[.int .i64 c,.int .i64 o,.int .u16 (g:Int)]] w K=K (.bool (kG c o)) (w.alloc (hdO c o g)):=by
 refine au (by kernel_rfl) (P6 _ _ _ ?_) K;unfold US kG;by_cases h:0<=c/\c<5
 ·have hp:=aM h.1 h.2;by_cases h1:0<=o
  ·by_cases h2:o<8
   ·simp (disch:=first|omega|simp only [RO]|(simp only [RZ]<;>omega)|fail) only [↓RA,↓reduceIte,Nat.reduceAdd,Nat.reduceMul,Nat.reduceEqDiff,RB,RW,RS,λq x K=>cy x (w.alloc q) K (hG.alloc q),hdO]
   ·simp (disch:=first|omega|simp only [RO]|(simp only [RZ]<;>omega)|fail) only [↓RA,↓reduceIte,Nat.reduceAdd,Nat.reduceMul,Nat.reduceEqDiff,RB,RW,RS,λq x K=>cy x (w.alloc q) K (hG.alloc q),hdO]
  ·simp (disch:=first|omega|simp only [RO]|(simp only [RZ]<;>omega)|fail) only [↓RA,↓reduceIte,Nat.reduceAdd,Nat.reduceMul,Nat.reduceEqDiff,RB,RW,RS,λq x K=>cy x (w.alloc q) K (hG.alloc q),hdO]
 ·have hp:=VE h;have e:(decide (0<=c)&&decide (c<5))=false:=by simp only [Bool.and_eq_false_iff,decide_eq_false_iff_not];omega
  simp (disch:=first|omega|simp only [RO]|(simp only [RZ]<;>omega)|fail) only [↓RA,↓reduceIte,Nat.reduceAdd,Nat.reduceMul,Nat.reduceEqDiff,RB,RW,RS,λq x K=>cy x (w.alloc q) K (hG.alloc q),hdO,hp,e]
def hC (x:Nat):Int:=((x/65536%16:Nat):Int)-1
def hO (x:Nat):Int:=((x/1048576%16:Nat):Int)-1
def eO (x:Nat):Bool:=isS x&&decide (sX x=197)&& !decide (gX x=0)&&((decide (hC x<0)&&decide (hO x<0))||kG (hC x) (hO x))
def MN (x:Nat):x&&&15=x%16:=em x 4
def uv (x:Nat) (w:ab) (K:K1) (hG:bB w) (hx:x<18446744073709551616) (h:∀w',Ext w w'->K (.tuple #[if eO x then hdV (hC x) (hO x) (gX x) else hdV 0 0 0,.bool (eO x)]) w'):ae prog 175 #[.int .u64 x] w K:=by
 refine Qg _ _ _ ?_;unfold U3;by_cases hs:sealN (x%4294967296)=x
 ·have e0:isS x=true:=decide_eq_true hs;have e3:x%4294967296/2^24=sX x:=by unfold sX;omega
  have e1:x%4294967296%65536=gX x:=by unfold gX;omega
  by_cases hm:sX x=197
  ·by_cases hg:gX x=0
   ·have e:eO x=false:=by simp [eO,hg]
    rw [e] at h;simp (disch:=first|omega|simp only [RO]|(simp only [RZ]<;>omega)|fail) only [↓RA,↓reduceIte,Nat.reduceAdd,Nat.reduceMul,Nat.reduceEqDiff,RB,RW,RS,λo x K=>fW x (w.alloc o) K (hG.alloc o),hs,e3,e1,hm,hg];exact h _ (by repeat (first|(with_reducible first|refine eB ?_ _|assumption|exact eR _|refine eA ?_ _|refine eD ?_|refine eT ?_ (by assumption))|exact eR _))
   ·have c1:((x%4294967296/2^16%16:Nat):Int)-1=hC x:=by unfold hC;omega
    have c2:((x%4294967296/2^20%16:Nat):Int)-1=hO x:=by unfold hO;omega
    have b1: -1<=hC x/\hC x<=14:=by unfold hC;omega
    have b2: -1<=hO x/\hO x<=14:=by unfold hO;omega
    have e:eO x=((decide (hC x<0)&&decide (hO x<0))||kG (hC x) (hO x)):=by simp [eO,e0,hm,hg]
    rw [e] at h;clear e;by_cases n1:hC x<0
    ·by_cases n2:hO x<0
     ·have e:((decide (hC x<0)&&decide (hO x<0))||kG (hC x) (hO x))=true:=by simp [n1,n2]
      rw [e] at h;simp (disch:=first|omega|simp only [RO]|(simp only [RZ]<;>omega)|fail) only [↓RA,↓reduceIte,Nat.reduceAdd,Nat.reduceMul,Nat.reduceEqDiff,RB,RW,RS,λo x K=>fW x (w.alloc o) K (hG.alloc o),hs,e3,e1,hm,hg,MN,c1,c2];exact h _ (by repeat (first|(with_reducible first|refine eB ?_ _|assumption|exact eR _|refine eA ?_ _|refine eD ?_|refine eT ?_ (by assumption))|exact eR _))
     ·have e:((decide (hC x<0)&&decide (hO x<0))||kG (hC x) (hO x))=false:=by simp [kG,n2];omega
      have ef:kG (hC x) (hO x)=false:=by simp [kG];omega
      rw [e] at h;simp (disch:=first|omega|simp only [RO]|(simp only [RZ]<;>omega)|fail) only [↓RA,↓reduceIte,Nat.reduceAdd,Nat.reduceMul,Nat.reduceEqDiff,RB,RW,RS,λo x K=>fW x (w.alloc o) K (hG.alloc o),λa b c d e g K=>iw d e g (((w.alloc a).alloc b).alloc c) K (((hG.alloc a).alloc b).alloc c),hs,e3,e1,hm,hg,MN,c1,c2,ef];exact h _ (by repeat (first|(with_reducible first|refine eB ?_ _|assumption|exact eR _|refine eA ?_ _|refine eD ?_|refine eT ?_ (by assumption))|exact eR _))
    ·have e:((decide (hC x<0)&&decide (hO x<0))||kG (hC x) (hO x))=kG (hC x) (hO x):=by simp [n1]
     rw [e] at h
     cases ef:kG (hC x) (hO x) with
     |true=>
      rw [ef] at h;simp (disch:=first|omega|simp only [RO]|(simp only [RZ]<;>omega)|fail) only [↓RA,↓reduceIte,Nat.reduceAdd,Nat.reduceMul,Nat.reduceEqDiff,RB,RW,RS,λo x K=>fW x (w.alloc o) K (hG.alloc o),λa b c d e g K=>iw d e g (((w.alloc a).alloc b).alloc c) K (((hG.alloc a).alloc b).alloc c),hs,e3,e1,hm,hg,MN,c1,c2,ef];exact h _ (by repeat (first|(with_reducible first|refine eB ?_ _|assumption|exact eR _|refine eA ?_ _|refine eD ?_|refine eT ?_ (by assumption))|exact eR _))
     |false=>
      rw [ef] at h;simp (disch:=first|omega|simp only [RO]|(simp only [RZ]<;>omega)|fail) only [↓RA,↓reduceIte,Nat.reduceAdd,Nat.reduceMul,Nat.reduceEqDiff,RB,RW,RS,λo x K=>fW x (w.alloc o) K (hG.alloc o),λa b c d e g K=>iw d e g (((w.alloc a).alloc b).alloc c) K (((hG.alloc a).alloc b).alloc c),hs,e3,e1,hm,hg,MN,c1,c2,ef];exact h _ (by repeat (first|(with_reducible first|refine eB ?_ _|assumption|exact eR _|refine eA ?_ _|refine eD ?_|refine eT ?_ (by assumption))|exact eR _))
  ·have e:eO x=false:=by simp [eO,hm]
   rw [e] at h;simp (disch:=first|omega|simp only [RO]|(simp only [RZ]<;>omega)|fail) only [↓RA,↓reduceIte,Nat.reduceAdd,Nat.reduceMul,Nat.reduceEqDiff,RB,RW,RS,λo x K=>fW x (w.alloc o) K (hG.alloc o),hs,e3,hm];exact h _ (by repeat (first|(with_reducible first|refine eB ?_ _|assumption|exact eR _|refine eA ?_ _|refine eD ?_|refine eT ?_ (by assumption))|exact eR _))
 ·have e0:isS x=false:=decide_eq_false hs;have e:eO x=false:=by simp [eO,e0]
  rw [e] at h;simp (disch:=first|omega|simp only [RO]|(simp only [RZ]<;>omega)|fail) only [↓RA,↓reduceIte,Nat.reduceAdd,Nat.reduceMul,Nat.reduceEqDiff,RB,RW,RS,λo x K=>fW x (w.alloc o) K (hG.alloc o),hs];exact h _ (by repeat (first|(with_reducible first|refine eB ?_ _|assumption|exact eR _|refine eA ?_ _|refine eD ?_|refine eT ?_ (by assumption))|exact eR _))
def cf (g k s:Nat):Bool:=if s=176 then decide (g≠0)&&decide (k=0) else if s=177 then decide (g≠0)&&decide (k≠0)&&decide (k<=127) else if s=178 then decide (g=65535)&&decide (k=0) else false
def dq (g k s:Nat) (w:ab) (K:K1):ae prog 168 #[.agg #[.int .u16 (g:Int),.int .u8 (k:Int),.int .u8 (s:Int)]] w K=K (.bool (cf g k s)) (w.alloc (iZ g k s)):=by
 refine au (by kernel_rfl) (Qc _ _ _ ?_) K;unfold UZ cf;by_cases h1:s=176
 ·by_cases h2:g=0
  ·simp (disch:=first|omega|simp only [RO]|(simp only [RZ]<;>omega)|fail) only [↓RA,↓reduceIte,Nat.reduceAdd,Nat.reduceMul,Nat.reduceEqDiff,RB,RW,RS,iZ,h1,h2]
  ·by_cases h3:k=0
   ·simp (disch:=first|omega|simp only [RO]|(simp only [RZ]<;>omega)|fail) only [↓RA,↓reduceIte,Nat.reduceAdd,Nat.reduceMul,Nat.reduceEqDiff,RB,RW,RS,iZ,h1,h2,h3]
   ·simp (disch:=first|omega|simp only [RO]|(simp only [RZ]<;>omega)|fail) only [↓RA,↓reduceIte,Nat.reduceAdd,Nat.reduceMul,Nat.reduceEqDiff,RB,RW,RS,iZ,h1,h2,h3]
 ·by_cases h2:s=177
  ·by_cases h3:g=0
   ·simp (disch:=first|omega|simp only [RO]|(simp only [RZ]<;>omega)|fail) only [↓RA,↓reduceIte,Nat.reduceAdd,Nat.reduceMul,Nat.reduceEqDiff,RB,RW,RS,iZ,h1,h2,h3]
   ·by_cases h4:k=0
    ·simp (disch:=first|omega|simp only [RO]|(simp only [RZ]<;>omega)|fail) only [↓RA,↓reduceIte,Nat.reduceAdd,Nat.reduceMul,Nat.reduceEqDiff,RB,RW,RS,iZ,h1,h2,h3,h4]
    ·by_cases h5:k<=127
     ·simp (disch:=first|omega|simp only [RO]|(simp only [RZ]<;>omega)|fail) only [↓RA,↓reduceIte,Nat.reduceAdd,Nat.reduceMul,Nat.reduceEqDiff,RB,RW,RS,iZ,h1,h2,h3,h4,h5]
     ·simp (disch:=first|omega|simp only [RO]|(simp only [RZ]<;>omega)|fail) only [↓RA,↓reduceIte,Nat.reduceAdd,Nat.reduceMul,Nat.reduceEqDiff,RB,RW,RS,iZ,h1,h2,h3,h4,h5]
  ·by_cases h3:s=178
   ·by_cases h4:g=65535
    ·by_cases h5:k=0
     ·simp (disch:=first|omega|simp only [RO]|(simp only [RZ]<;>omega)|fail) only [↓RA,↓reduceIte,Nat.reduceAdd,Nat.reduceMul,Nat.reduceEqDiff,RB,RW,RS,iZ,h1,h2,h3,h4,h5]
     ·simp (disch:=first|omega|simp only [RO]|(simp only [RZ]<;>omega)|fail) only [↓RA,↓reduceIte,Nat.reduceAdd,Nat.reduceMul,Nat.reduceEqDiff,RB,RW,RS,iZ,h1,h2,h3,h4,h5]
    ·simp (disch:=first|omega|simp only [RO]|(simp only [RZ]<;>omega)|fail) only [↓RA,↓reduceIte,Nat.reduceAdd,Nat.reduceMul,Nat.reduceEqDiff,RB,RW,RS,iZ,h1,h2,h3,h4]
   ·simp (disch:=first|omega|simp only [RO]|(simp only [RZ]<;>omega)|fail) only [↓RA,↓reduceIte,Nat.reduceAdd,Nat.reduceMul,Nat.reduceEqDiff,RB,RW,RS,iZ,h1,h2,h3]
def yM (g:Nat) (w:ab) (K:K1) (hg:g<65536):ae prog 199 #[.int .u16 (g:Int)] w K=K (.tuple #[.int .u16 ((if g=65535 then 0 else g+1:Nat):Int),.bool (!decide (g=65535))]) w:=by
 refine au (by kernel_rfl) (Qk _ _ _ ?_) K;unfold U7;by_cases h:g=65535
 ·simp (disch:=first|omega|simp only [RO]|(simp only [RZ]<;>omega)|fail) only [↓RA,↓reduceIte,Nat.reduceAdd,Nat.reduceMul,Nat.reduceEqDiff,RB,RW,RS,h]
 ·simp (disch:=first|omega|simp only [RO]|(simp only [RZ]<;>omega)|fail) only [↓RA,↓reduceIte,Nat.reduceAdd,Nat.reduceMul,Nat.reduceEqDiff,RB,RW,RS,h]
def freG (g:Nat):Nat:=if g=65535 then 65535 else g+1
def freS (g:Nat):Nat:=if g=65535 then 178 else 176
def MO (g k s:Nat) (w:ab) (K:K1) (hg:g<65536):ae prog 181 #[.agg #[.int .u16 (g:Int),.int .u8 (k:Int),.int .u8 (s:Int)]] w K=K (.agg #[.int .u16 ((freG g:Nat):Int),.int .u8 ((0:Nat):Int),.int .u8 ((freS g:Nat):Int)]) ((w.alloc (iZ g k s)).alloc (iZ (freG g) 0 (freS g))):=by
 refine au (by kernel_rfl) (Qi _ _ _ ?_) K;unfold U5;by_cases h:g=65535
 ·simp (disch:=first|omega|simp only [RO]|(simp only [RZ]<;>omega)|fail) only [↓RA,↓reduceIte,Nat.reduceAdd,Nat.reduceMul,Nat.reduceEqDiff,RB,RW,RS,h,yM,freG,freS,iZ]
 ·simp (disch:=first|omega|simp only [RO]|(simp only [RZ]<;>omega)|fail) only [↓RA,↓reduceIte,Nat.reduceAdd,Nat.reduceMul,Nat.reduceEqDiff,RB,RW,RS,h,yM,freG,freS,iZ]
def uw (off g k:Nat):Bool:=decide (off≠0)&&decide (off%8=0)&&decide (g≠0)&&decide (k≠0)&&decide (k<=127)
def ptrN (off g k:Nat):Nat:=off/8+g*4294967296+k*281474976710656
def ae6 {a g k:Nat} (ha:a<4294967296) (hg:g<65536) (hk:k<65536):(a|||g*2^32)|||k*2^48=a+g*4294967296+k*281474976710656:=by
 have h1:=jL (a:=g) (b:=a) (k:=32) (by omega);rw [dn g,dn k,cD a,h1];have h2:=jL (a:=k) (b:=2^32*g+a) (k:=48) (by omega);rw [cD,h2];omega
def ae7 {g:Nat} (hg:g<65536):g*2^32%18446744073709551616=g*2^32:=cm (by omega)
def ae8 {k:Nat} (hk:k<256):k*2^48%18446744073709551616=k*2^48:=cm (by omega)
def ae9 {a g:Nat} (ha:a<4294967296) (hg:g<65536):(a|||g*2^32<18446744073709551616)=True:=eq_true (da (n:=64) (by omega) (by omega))
def afa (off g k:Nat) (w:ab) (K:K1) (ho:off<18446744073709551616) (hg:g<65536) (hk:k<256):ae prog 169 #[.int .u64 (off:Int),.int .u16 (g:Int),.int .u8 (k:Int)] w K=K (.tuple #[.int .u64 ((if uw off g k=true/\off<=34359738360 then ptrN off g k else 0:Nat):Int),.int .i64 (if uw off g k=true then if off<=34359738360 then 0 else 2 else 1)]) w:=by
 refine au (by kernel_rfl) (Qd _ _ _ _ _ ?_) K;unfold U0
 cases hb:uw off g k with
 |false=>
  by_cases h1:off=0
  ·simp (disch:=first|omega|simp only [RO]|(simp only [RZ]<;>omega)|fail) only [↓RA,↓reduceIte,Nat.reduceAdd,Nat.reduceMul,Nat.reduceEqDiff,RB,RW,RS,RI,h1]
  ·by_cases h2:off%8=0
   ·by_cases h3:g=0
    ·simp (disch:=first|omega|simp only [RO]|(simp only [RZ]<;>omega)|fail) only [↓RA,↓reduceIte,Nat.reduceAdd,Nat.reduceMul,Nat.reduceEqDiff,RB,RW,RS,RI,h1,h2,h3]
    ·by_cases h4:k=0
     ·simp (disch:=first|omega|simp only [RO]|(simp only [RZ]<;>omega)|fail) only [↓RA,↓reduceIte,Nat.reduceAdd,Nat.reduceMul,Nat.reduceEqDiff,RB,RW,RS,RI,h1,h2,h3,h4]
     ·have h5:¬k<=127:=by simp [uw,h1,h2,h3,h4] at hb;omega
      simp (disch:=first|omega|simp only [RO]|(simp only [RZ]<;>omega)|fail) only [↓RA,↓reduceIte,Nat.reduceAdd,Nat.reduceMul,Nat.reduceEqDiff,RB,RW,RS,RI,h1,h2,h3,h4,h5]
   ·simp (disch:=first|omega|simp only [RO]|(simp only [RZ]<;>omega)|fail) only [↓RA,↓reduceIte,Nat.reduceAdd,Nat.reduceMul,Nat.reduceEqDiff,RB,RW,RS,RI,h1,h2]
 |true=>
  have h:off≠0/\off%8=0/\g≠0/\k≠0/\k<=127:=by simpa [uw,and_assoc] using hb
  by_cases h6:off<=34359738360
  ·have s3:off/8|||g*2^32<18446744073709551616:=of_eq_true (ae9 (show off/8<4294967296 by omega) hg);simp (disch:=first|omega|simp only [RO]|(simp only [RZ]<;>omega)|fail) only [↓RA,↓reduceIte,Nat.reduceAdd,Nat.reduceMul,Nat.reduceEqDiff,RB,RW,RS,RI,h6,ptrN,ae7 hg,ae8 hk,ae6 (show off/8<4294967296 by omega) hg (show k<65536 by omega)]
  ·simp (disch:=first|omega|simp only [RO]|(simp only [RZ]<;>omega)|fail) only [↓RA,↓reduceIte,Nat.reduceAdd,Nat.reduceMul,Nat.reduceEqDiff,RB,RW,RS,RI,h6]
def hQ (c:Int) (w:ab) (K:K1):ae prog 56 #[.int .i64 c] w K=K (.int .i64 (wordsS c)) w:=by
 refine au (by kernel_rfl) (UK _ _ _ ?_) K;unfold ac9;by_cases h:0<=c/\c<5
 ·have h':c=0\/c=1\/c=2\/c=3\/c=4:=by omega
  rcases h' with rfl|rfl|rfl|rfl|rfl
  ·simp (disch:=first|omega|simp only [RO]|(simp only [RZ]<;>omega)|fail) only [↓RA,↓reduceIte,Nat.reduceAdd,Nat.reduceMul,Nat.reduceEqDiff,RB,show wordsS 0=3 from rfl]
  ·simp (disch:=first|omega|simp only [RO]|(simp only [RZ]<;>omega)|fail) only [↓RA,↓reduceIte,Nat.reduceAdd,Nat.reduceMul,Nat.reduceEqDiff,RB,show wordsS 1=7 from rfl]
  ·simp (disch:=first|omega|simp only [RO]|(simp only [RZ]<;>omega)|fail) only [↓RA,↓reduceIte,Nat.reduceAdd,Nat.reduceMul,Nat.reduceEqDiff,RB,show wordsS 2=15 from rfl]
  ·simp (disch:=first|omega|simp only [RO]|(simp only [RZ]<;>omega)|fail) only [↓RA,↓reduceIte,Nat.reduceAdd,Nat.reduceMul,Nat.reduceEqDiff,RB,show wordsS 3=31 from rfl]
  ·simp (disch:=first|omega|simp only [RO]|(simp only [RZ]<;>omega)|fail) only [↓RA,↓reduceIte,Nat.reduceAdd,Nat.reduceMul,Nat.reduceEqDiff,RB,show wordsS 4=60 from rfl]
 ·simp (disch:=first|omega|simp only [RO]|(simp only [RZ]<;>omega)|fail) only [↓RA,↓reduceIte,Nat.reduceAdd,Nat.reduceMul,Nat.reduceEqDiff,RB,fC h]
noncomputable section
variable (K:K1) (x0 x1 x2 x3 x4 x5 x6 x7 x8 x9 x10 x11 x12 x13 x14 x15 x16 x17 x18 x19 x20 x21 x22 x23 x24 x25 x26 x27 x28 x29 x30 x31 x32 x33 x34 x35 x36 x37 x38 x39 x40 x41 x42 x43 x44 x45 x46 x47 x48 x49 x50 x51 x52 x53 x54 x55 x56 x57 x58 x59 x60 x61 x62 x63 x64 x65 x66 x67 x68 x69 x70 x71 x72 x73 x74 x75 x76 x77 x78 x79 x80 x81 x82 x83 x84:av) (w:ab)
def adg:Prop:=
 ev prog (Instr.alloc 134 true (.tuple #[])) w λa w=>
 cL 129 (pA #[x0,x1]) w λb w=>
 eX b 0 w λc w=>
 eX b 1 w λd w=>
 ev prog (Instr.alloc 132 true (.tuple #[])) w λe w=>
 sD 132 e c w λw=>
 bC .neq 28 14 0 d w λf w=>
 af f (
 ev prog (Instr.build 134 #[]) w λg w=>
 sD 134 a g w λw=>
 lR 134 a w λr=>
 K (.tuple #[r,d]) w) (
 fA 132 e 0 w λh w=>
 lD 3 h w λi w=>
 bC .lss 3 19 0 i w λj w=>
 af j (
 ev prog (Instr.build 134 #[]) w λl w=>
 sD 134 a l w λw=>
 lR 134 a w λo=>
 K (.tuple #[o,(.int .i64 8)]) w) (
 lD 132 e w λm w=>
 ev prog (Instr.build 134 #[(0,x0),(1,x1),(2,m)]) w λn w=>
 sD 134 a n w λw=>
 lR 134 a w λk=>
 K (.tuple #[k,(.int .i64 0)]) w))
def VF:=cA2 Tryz.func75 .o adg
def adh:Prop:=
 ev prog (Instr.box 134 x0) w λa w=>
 cL 73 (pA #[x1]) w λb w=>
 af b (
 K (.tuple #[(.int .i64 0),(.int .i64 1)]) w) (
 lR 134 a w.drew λc=>
 cL 20 (pA #[x1]) w.drew λd w=>
 (lG 134 a w c)/\
 cL 130 (pA #[c,d]) w λe w=>
 xR e 0 w λf=>
 xR e 1 w λg=>
 ev prog (Op.unary .not g) w λh w=>
 gV h false x1 w λi w=>
 gd h false (λk=>bU .shr 27 24 .u64 56 i w k) w λj w=>
 gd h false (λk=>bU .neq 27 25 .u64 0 j w k) w λl w=>
 aw h (.bool true) l w λm w=>
 af m (
 K (.tuple #[(.int .i64 0),(.int .i64 2)]) w) (
 fA 134 a 0 w λn w=>
 lD 106 n w λo w=>
 bA prog o "Err" (pA #[]) w fun p w=>
 bC .neq 28 31 0 p w λq w=>
 af q (
 K (.tuple #[(.int .i64 0),p]) w) (
 lD 134 a w λs w=>
 cL 131 (pA #[s,f]) w λt w=>
 eX t 0 w λv w=>
 eX t 1 w λy w=>
 eX t 2 w λz w=>
 ev prog (Instr.alloc 200 true (.tuple #[])) w λa0 w=>
 sD 200 a0 v w λw=>
 fA 134 a 0 w λa1 w=>
 lD 106 a1 w λa2 w=>
 bA prog a2 "Err" (pA #[]) w fun a3 w=>
 bC .neq 28 44 0 a3 w λa4 w=>
 af a4 (
 K (.tuple #[(.int .i64 0),a3]) w) (
 rd prog (Op.unary .not y) w.drew λa5=>
 gW a5 false z λa6=>
 gdR a5 false (λk=>rd prog (Op.unary .not a6) w.drew k) λa7=>
 bf a5 (.bool true) a7 λa8=>
 gF a8 false 200 a0 2 w.drew λa9=>
 gL a8 false 5 a9 w.drew λb0=>
 gdR a8 false (λk=>rU .neq 5 55 .u8 177 b0 w.drew k) λb1=>
 bf a8 (.bool true) b1 λb2=>
 gF b2 false 200 a0 0 w.drew λb3=>
 gL b2 false 130 b3 w.drew λb4=>
 gW b2 false x1 λb5=>
 gC b2 false 132 (pA #[b5]) w.drew λb6 w=>
 (gq b2 false (fG 200 a0 0 w b3))/\
 (gq b2 false (lG 130 b3 w b4))/\
 gdR b2 false (λk=>rT .neq 130 60 62 b4 b6 w k) λb7=>
 bf b2 (.bool true) b7 λb8=>
 af b8 (
 K (.tuple #[(.int .i64 0),(.int .i64 12)]) w) (
 fR 200 a0 1 w.drew λb9=>
 lR 5 b9 w.drew λc0=>
 cL 60 (pA #[x1]) w.drew λc1 w=>
 (fG 200 a0 1 w b9)/\
 (lG 5 b9 w c0)/\
 rT .neq 5 66 68 c0 c1 w λc2=>
 af c2 (
 K (.tuple #[(.int .i64 0),(.int .i64 13)]) w) (
 K (.tuple #[f,(.int .i64 0)]) w))))))
def VG:=cA2 Tryz.func76 .o adh
noncomputable def VH:=uD Tryz.f98 (.s .o (.s .o (.x 30 (.s .o (.b (.l [23] 6291486 17171483392 .o))) .o)))
abbrev VI:=aU prog Tryz.f98.results.toList
def Es:KF:=kO 30 (cP (pw VH 3 7) (VI K) (VI K) nX)
def VJ:Prop:=Es K (fy 66 30 [x1,x2,x3,x4]) w
def VK:Prop:=aG [23] 6291486 (λE=>cP (pw VH 6 11) E (VI K) (exB 0 (Es K) nX)) (fy 66 14680094 [x1,x2,x3,x4,x21,x22,x23]) w
def uy:Prop:=
 lD 134 x4 w λa w=>
 ev prog (dc 248 2 #[(0,x1),(1,x3)]) w λb w=>
 cL 143 (pA #[a,b]) w λc w=>
 ev prog (Op.unary .not c) w λd w=>
 af d (
 K (.tuple #[(.slice none 0 0),(.int .i64 1)]) w) (
 fA 134 x4 0 w λe w=>
 lD 106 e w λf w=>
 bM .eql 106 (.tmp 41) (.const .nilIface) f .nilIface w λg w=>
 af g (
 K (.tuple #[(.slice none 0 0),(.int .i64 0)]) w) (
 fA 134 x4 0 w λh w=>
 lD 106 h w λi w=>
 bA prog i "Err" (pA #[]) w fun j w=>
 bC .neq 28 46 0 j w λl w=>
 af l (
 K (.tuple #[(.slice none 0 0),j]) w) (
 lD 134 x4 w λm w=>
 cL 144 (pA #[m,x1,x2,x3]) w λn w=>
 eX n 0 w λo w=>
 eX n 1 w λp w=>
 fA 134 x4 0 w λq w=>
 lD 106 q w λs w=>
 bA prog s "Err" (pA #[]) w fun t w=>
 bC .neq 28 60 0 t w λv w=>
 af v (
 K (.tuple #[(.slice none 0 0),t]) w) (
 ev prog (Op.unary .not p) w λy w=>
 af y (
 K (.tuple #[(.slice none 0 0),(.int .i64 8)]) w) (
 K (.tuple #[o,(.int .i64 0)]) w)))))
def QN:VJ K x1 x2 x3 x4 w=uy K x1 x2 x3 x4 w:=aI λσ=>kR
def uz (E1:VP1):Prop:=
 bT .lss 3 23 22 x23 x22 w λa w=>
 af a (
 iA 51 x21 x23 w λb w=>
 lD 5 b w λc w=>
 bU .eql 5 27 .u8 0 c w λd w=>
 gV d false c w λe w=>
 gd d false (λk=>bU .gtr 5 30 .u8 127 e w k) w λf w=>
 aw d (.bool true) f w λg w=>
 af g (
 K (.tuple #[(.slice none 0 0),(.int .i64 1)]) w) (
 bC .add 3 23 1 x23 w λh w=>
 E1 h w)) (
 VJ K x1 x2 x3 x4 w)
def Et (I:VP1) (μ:M1) (h0:I x23 w) (hr:∀x23 w,I x23 w->∀E1,Q1 I μ x23 w E1->uz K x1 x2 x3 x4 x21 x22 x23 w E1):VK K x1 x2 x3 x4 x21 x22 x23 w:=⟨I,μ,h0,λσ w hI E hE=>cast kR (hr (σ 23) w hI E hE)⟩
def VL:Prop:=
 ev prog (Instr.box 134 x0) w λa w=>
 lN 51 x2 w λb w=>
 lN 50 x1 w λc w=>
 bT .neq 3 17 19 b c w λd w=>
 af d (
 K (.tuple #[(.slice none 0 0),(.int .i64 1)]) w) (
 lN 51 x2 w λe w=>
 VK K x1 x2 x3 a x2 e (.int .i64 0) w)
def VM:=cA4 Tryz.func98 VH.2 VL
noncomputable def B7:=uD Tryz.f121 (.s .o (.x 6 .o (.s .o (.s .o (.x 0 (.s .o (.b (.l [6] 36 536805456 .o))) .o)))))
abbrev uA:=aU prog Tryz.f121.results.toList
def QO:KF:=kO 6 (cP (pr (pr B7)) (uA K) (uA K) nX)
def sO:Prop:=QO K (fy 29 6 [x1,x2]) w
def yN:KF:=kO 0 (cP (pw B7 5 31) (uA K) (uA K) nX)
def MP:Prop:=yN K (fy 29 0 []) w
def MQ:Prop:=aG [6] 36 (λE=>cP (pw B7 8 47) E (uA K) (exB 0 (yN K) nX)) (fy 29 100 [x2,x5,x6]) w
def yO:Prop:=
 lD 134 x2 w λa w=>
 cL 165 (pA #[a,x1]) w λb w=>
 ev prog (Op.unary .not b) w λc w=>
 af c (
 K (.int .i64 (-1)) w) (
 lD 134 x2 w λd w=>
 cL 166 (pA #[d]) w λe w=>
 MQ K x2 e x1 w)
def Jh:sO K x1 x2 w=yO K x1 x2 w:=aI λσ=>kR
def yP:Prop:=
 K (.int .i64 (-1)) w
def Ji:MP K w=yP K w:=aI λσ=>kR
def yQ (E1:VP1):Prop:=
 lD 134 x2 w λa w=>
 cL 167 (pA #[a]) w λb w=>
 bT .lss 3 16 18 x6 b w λc w=>
 af c (
 cV 3 129 x6 w λd w=>
 bT .shr 26 22 24 x5 d w λe w=>
 bU .and 26 25 .u64 1 e w λf w=>
 bU .eql 26 26 .u64 0 f w λg w=>
 af g (
 K x6 w) (
 bC .add 3 20 1 x6 w λh w=>
 E1 h w)) (
 MP K w)
def B8 (I:VP1) (μ:M1) (h0:I x6 w) (hr:∀x6 w,I x6 w->∀E1,Q1 I μ x6 w E1->yQ K x2 x5 x6 w E1):MQ K x2 x5 x6 w:=⟨I,μ,h0,λσ w hI E hE=>cast kR (hr (σ 6) w hI E hE)⟩
def VN:Prop:=
 ev prog (Instr.box 134 x0) w λa w=>
 bC .lss 3 7 0 x1 w λb w=>
 af b (
 sO K (.int .i64 0) a w) (
 sO K x1 a w)
def QP:=cA2 Tryz.func121 B7.2 VN
noncomputable def VO:=uD Tryz.f122 (.s .o (.s .o (.s .o (.s .o (.s .o (.s .o (.x 526 .o .o)))))))
abbrev VP:=aU prog Tryz.f122.results.toList
def QQ:KF:=kO 526 (cP (pw VO 7 127) (VP K) (VP K) nX)
def sP:Prop:=QQ K (fy 74 526 [x1,x2,x3,x9]) w
def yR:Prop:=
 lR 134 x3 w.drew λa=>
 fR 200 x9 0 w.drew λb=>
 lR 130 b w.drew λc=>
 cL 170 (pA #[a,x1]) w.drew λd w=>
 (fG 200 x9 0 w b)/\
 (lG 130 b w c)/\
 rU .add 26 66 .u64 8 d w λe=>
 cL 169 (pA #[e,c,x2]) w λf w=>
 xR f 0 w λg=>
 xR f 1 w λh=>
 K (.tuple #[g,h]) w
def Jj:sP K x1 x2 x3 x9 w=yR K x1 x2 x3 x9 w:=aI λσ=>kR
def Jk:Prop:=
 ev prog (Instr.box 134 x0) w λa w=>
 lD 134 a w λb w=>
 cL 165 (pA #[b,x1]) w λc w=>
 ev prog (Op.unary .not c) w λd w=>
 af d (
 K (.tuple #[(.int .u64 ((0:Nat):Int)),(.int .i64 2)]) w) (
 fA 134 a 0 w λe w=>
 lD 106 e w λf w=>
 bA prog f "Err" (pA #[]) w fun g w=>
 bC .neq 28 20 0 g w λh w=>
 af h (
 K (.tuple #[(.int .u64 ((0:Nat):Int)),g]) w) (
 lD 134 a w λi w=>
 cL 131 (pA #[i,x1]) w λj w=>
 eX j 0 w λl w=>
 eX j 1 w λm w=>
 eX j 2 w λn w=>
 ev prog (Instr.alloc 200 true (.tuple #[])) w λo w=>
 sD 200 o l w λw=>
 fA 134 a 0 w λp w=>
 lD 106 p w λq w=>
 bA prog q "Err" (pA #[]) w fun s w=>
 bC .neq 28 33 0 s w λt w=>
 af t (
 K (.tuple #[(.int .u64 ((0:Nat):Int)),s]) w) (
 ev prog (Op.unary .not m) w λv w=>
 gd v false (λk=>lD 200 o w k) w λy w=>
 gC v false 168 (pA #[y]) w λz w=>
 gd v false (λk=>ev prog (Op.unary .not z) w k) w λa0 w=>
 aw v (.bool true) a0 w λa1 w=>
 gV a1 false n w λa2 w=>
 gd a1 false (λk=>fA 200 o 2 w k) w λa3 w=>
 gd a1 false (λk=>lD 5 a3 w k) w λa4 w=>
 gd a1 false (λk=>bU .neq 5 46 .u8 176 a4 w k) w λa5 w=>
 gd a1 false (λk=>bT .neq 4 44 47 a2 a5 w k) w λa6 w=>
 aw a1 (.bool true) a6 w λa7 w=>
 af a7 (
 K (.tuple #[(.int .u64 ((0:Nat):Int)),(.int .i64 11)]) w) (
 fA 200 o 2 w λa8 w=>
 lD 5 a8 w λa9 w=>
 bU .eql 5 51 .u8 178 a9 w λb0 w=>
 af b0 (
 K (.tuple #[(.int .u64 ((0:Nat):Int)),(.int .i64 12)]) w) (
 bU .eql 5 51 .u8 177 a9 w λb1 w=>
 af b1 (
 fA 200 o 1 w λb2 w=>
 lD 5 b2 w λb3 w=>
 sP K x1 b3 a o w) (
 bU .eql 5 52 .u8 0 x2 w λb4 w=>
 gV b4 false x2 w λb5 w=>
 gd b4 false (λk=>bU .gtr 5 55 .u8 127 b5 w k) w λb6 w=>
 aw b4 (.bool true) b6 w λb7 w=>
 af b7 (
 K (.tuple #[(.int .u64 ((0:Nat):Int)),(.int .i64 1)]) w) (
 sP K x1 x2 a o w)))))))
def yS:=cA3 Tryz.func122 VO.2 Jk
def Jl:Prop:=
 ev prog (Instr.alloc 132 true (.tuple #[])) w λa w=>
 bM .eql 106 (.tmp 12) (.const .nilIface) x0 .nilIface w λb w=>
 gV b false x1 w λc w=>
 gd b false (λk=>bC .lss 3 15 0 c w k) w λd w=>
 aw b (.bool true) d w λe w=>
 af e (
 ev prog (Instr.build 132 #[]) w λf w=>
 sD 132 a f w λw=>
 lR 132 a w λr=>
 K (.tuple #[r,(.int .i64 1)]) w) (
 bA prog x0 "Size" (pA #[]) w fun g w=>
 bU .quo 26 20 .u64 64 g w λh w=>
 bU .lss 26 22 .u64 32 h w λi w=>
 gV i false x1 w λj w=>
 gd i false (λk=>cV 3 26 j w k) w λl w=>
 gV i false h w λm w=>
 gd i false (λk=>bU .sub 26 27 .u64 32 m w k) w λn w=>
 gd i false (λk=>bT .gtr 26 26 28 l n w k) w λo w=>
 aw i (.bool true) o w λp w=>
 af p (
 ev prog (Instr.build 132 #[]) w λq w=>
 sD 132 a q w λw=>
 lR 132 a w λC=>
 K (.tuple #[C,(.int .i64 1)]) w) (
 bA prog x0 "Err" (pA #[]) w fun s w=>
 bC .neq 28 34 0 s w λt w=>
 af t (
 ev prog (Instr.build 132 #[]) w λv w=>
 sD 132 a v w λw=>
 lR 132 a w λA=>
 K (.tuple #[A,s]) w) (
 rd prog (Instr.makeFunc (.method "Load") #[x0] #[]) w.drew fun y=>
 nR y w.drew λz=>
 cL 162 (pA #[x1]) w.drew λa0 w=>
 (ag prog (Instr.makeFunc (.method "Load") #[x0] #[]) w y)/\
 (bw prog y w (λu=>u=z))/\
 bA prog x0 "Load" (pA #[a0]) w fun a1 w=>
 bA prog x0 "Err" (pA #[]) w fun a2 w=>
 bC .neq 28 47 0 a2 w λa3 w=>
 af a3 (
 ev prog (Instr.build 132 #[]) w λa4 w=>
 sD 132 a a4 w λw=>
 lR 132 a w λB=>
 K (.tuple #[B,a2]) w) (
 cL 175 (pA #[a1]) w λa5 w=>
 eX a5 0 w λa6 w=>
 eX a5 1 w λa7 w=>
 ev prog (Instr.alloc 132 true (.tuple #[])) w λa8 w=>
 sD 132 a8 a6 w λw=>
 ev prog (Op.unary .not a7) w λa9 w=>
 af a9 (
 ev prog (Instr.build 132 #[]) w λb0 w=>
 sD 132 a b0 w λw=>
 lR 132 a w λD=>
 K (.tuple #[D,(.int .i64 11)]) w) (
 lD 132 a8 w λb1 w=>
 sD 132 a b1 w λw=>
 lR 132 a w λx=>
 K (.tuple #[x,(.int .i64 0)]) w)))))
def yT:=cA2 Tryz.func129 .o Jl
def VQ:Prop:=
 ev prog (Instr.box 134 x0) w λa w=>
 fA 134 a 1 w λb w=>
 lD 3 b w λc w=>
 cL 162 (pA #[c]) w λd w=>
 fA 134 a 0 w λe w=>
 lD 106 e w λf w=>
 bM .eql 106 (.tmp 11) (.const .nilIface) f .nilIface w λg w=>
 gV g false x1 w λh w=>
 gV g false d w λi w=>
 gd g false (λk=>bT .lss 26 14 15 h i w k) w λj w=>
 aw g (.bool true) j w λl w=>
 gV l false x1 w λm w=>
 gV l false d w λn w=>
 gd l false (λk=>bT .sub 26 19 20 m n w k) w λo w=>
 gd l false (λk=>bU .geq 26 21 .u64 2048 o w k) w λp w=>
 aw l (.bool true) p w λq w=>
 af q (
 K (.tuple #[(.int .i64 0),(.bool false)]) w) (
 fA 134 a 2 w λs w=>
 fA 132 s 0 w λt w=>
 lD 3 t w λv w=>
 bT .sub 26 27 28 x1 d w λy w=>
 bU .quo 26 29 .u64 8 y w λz w=>
 cV 26 3 z w λa0 w=>
 cL 138 (pA #[v,a0]) w λa1 w=>
 eX a1 0 w λa2 w=>
 eX a1 1 w λa3 w=>
 K (.tuple #[a2,a3]) w)
def QR:=cA2 Tryz.func130 .o VQ
def VR:Prop:=
 ev prog (Instr.box 134 x0) w λa w=>
 ev prog (Instr.alloc 200 true (.tuple #[])) w λb w=>
 lD 134 a w λc w=>
 cL 166 (pA #[c]) w λd w=>
 cV 3 129 x1 w λe w=>
 bT .shr 26 8 10 d e w λf w=>
 bU .and 26 11 .u64 1 f w λg w=>
 bU .eql 26 12 .u64 1 g w λh w=>
 fR 134 a 0 w.drew λi=>
 lR 106 i w.drew λj=>
 lR 134 a w.drew λl=>
 nR j w.drew λm=>
 cL 170 (pA #[l,x1]) w.drew λn w=>
 (fG 134 a 0 w i)/\
 (lG 106 i w j)/\
 (bw prog j w (λu=>u=m))/\
 bA prog j "Load" (pA #[n]) w fun o w=>
 cL 176 (pA #[o]) w λp w=>
 xR p 0 w λq=>
 xR p 1 w λs=>
 sD 200 b q w λw=>
 lD 200 b w λt w=>
 sD 200 b t w λw=>
 lR 200 b w λr=>
 K (.tuple #[r,s,h]) w
def QS:=cA2 Tryz.func131 .o VR
def VS:Prop:=
 ev prog (Instr.box 134 x0) w λa w=>
 fA 134 a 0 w λb w=>
 lD 106 b w λc w=>
 bM .eql 106 (.tmp 4) (.const .nilIface) c .nilIface w λd w=>
 af d (
 K (.int .i64 (-1)) w) (
 fA 134 a 2 w λe w=>
 fA 132 e 0 w λf w=>
 lD 3 f w λg w=>
 K g w)
def QT:=cA1 Tryz.func136 .o VS
def VT:Prop:=
 ev prog (Instr.box 134 x0) w λa w=>
 lD 134 a w λb w=>
 cL 177 (pA #[b,x1,(.int .u8 ((177:Nat):Int))]) w λc w=>
 K c w
def QU:=cA2 Tryz.func137 .o VT
noncomputable def uB:=uD Tryz.f143 (.s .o (.s .o (.x 0 (.s .o (.b (.l [5,12] 3076 2199023252144 (.s .o (.s .o (.x 7204 (.b (.s .o (.s .o (.b (.l [5,18] 203780 1099511366192 .o))))) .o)))))) .o)))
abbrev uC:=aU prog Tryz.f143.results.toList
def lX:KF:=kO 0 (cP (pw uB 3 7) (uC K) (uC K) nX)
def MR:Prop:=lX K (fy 41 0 []) w
def MS:Prop:=aG [5,12] 3076 (λE=>cP (pw uB 6 11) E (uC K) (exB 0 (lX K) nX)) (fy 41 7204 [x2,x5,x10,x11,x12]) w
def qA (E1:VP2):KF:=kO 7204 (cP (pw uB 9 459) (sE2 E1 5 12) (uC K) (exB 0 (lX K) nX))
def MT (K:K1) (E1:VP2) (x2 x5 x10 x11 x12:av) (w:ab):Prop:=qA K E1 (fy 41 7204 [x2,x5,x10,x11,x12]) w
def B9 (K:K1) (E1:VP2) (x2 x5 x10 x11 x12 x16 x17 x18:av) (w:ab):Prop:=aG [5,18] 203780 (λE=>cP (pw uB 14 3275) E (uC K) (exB 2 (qA K E1) (exB 1 (qA K E1) (exB 0 (lX K) nX)))) (fy 41 465956 [x2,x5,x10,x11,x12,x16,x17,x18]) w
def yU:Prop:=
 K (.bool true) w
def Jm:MR K w=yU K w:=aI λσ=>kR
def yV (E1:VP2):Prop:=
 bT .lss 3 12 11 x12 x11 w λa w=>
 af a (
 iA 248 x10 x12 w λb w=>
 lD 50 b w λc w=>
 lN 50 c w λd w=>
 B9 K E1 x2 x5 x10 x11 x12 c d (.int .i64 0) w) (
 MR K w)
def Ca (I:VP2) (μ:M2) (h0:I x5 x12 w) (hr:∀x5 x12 w,I x5 x12 w->∀E1,Q2 I μ x5 x12 w E1->yV K x2 x5 x10 x11 x12 w E1):MS K x2 x5 x10 x11 x12 w:=⟨I,μ,h0,λσ w hI E hE=>cast kR (hr (σ 5) (σ 12) w hI E hE)⟩
def yW (E1:VP2):Prop:=
 bC .add 3 12 1 x12 w λa w=>
 E1 x5 a w
def Jn (E1:VP2):MT K E1 x2 x5 x10 x11 x12 w=yW x5 x12 w E1:=aI λσ=>kR
def yX (E1:VP2) (E2:VP2):Prop:=
 bT .lss 3 18 17 x18 x17 w λa w=>
 af a (
 iA 50 x16 x18 w λb w=>
 lD 3 b w λc w=>
 lD 134 x2 w λd w=>
 cL 165 (pA #[d,c]) w λe w=>
 ev prog (Op.unary .not e) w λf w=>
 gV f false x5 w λg w=>
 gV f false c w λh w=>
 gd f false (λk=>cV 3 129 h w k) w λi w=>
 gd f false (λk=>bT .shr 26 27 29 g i w k) w λj w=>
 gd f false (λk=>bU .and 26 30 .u64 1 j w k) w λl w=>
 gd f false (λk=>bU .eql 26 31 .u64 1 l w k) w λm w=>
 aw f (.bool true) m w λn w=>
 af n (
 K (.bool false) w) (
 cV 3 129 c w λo w=>
 bM .shl 26 (cu .u64 1) (.tmp 36) (.int .u64 ((1:Nat):Int)) o w λp w=>
 bT .or 26 34 37 x5 p w λq w=>
 bC .add 3 18 1 x18 w λs w=>
 E2 q s w)) (
 MT K E1 x2 x5 x10 x11 x12 w)
def Cb (E1:VP2) (I:VP2) (μ:M2) (h0:I x5 x18 w) (hr:∀x5 x18 w,I x5 x18 w->∀E2,Q2 I μ x5 x18 w E2->yX K x2 x5 x10 x11 x12 x16 x17 x18 w E1 E2):B9 K E1 x2 x5 x10 x11 x12 x16 x17 x18 w:=⟨I,μ,h0,λσ w hI E hE=>cast kR (hr (σ 5) (σ 18) w hI E hE)⟩
def VU:Prop:=
 ev prog (Instr.box 134 x0) w λa w=>
 lN 248 x1 w λb w=>
 MS K a (.int .u64 ((0:Nat):Int)) x1 b (.int .i64 0) w
def QV:=cA2 Tryz.func143 uB.2 VU
noncomputable def qB:=uD Tryz.f144 (.s .o (.s .o (.s .o (.s .o (.x 3096 (.s .o (.b (.l [10,11,34] 12884901916 4835703278458499519086336 .o))) (.x 3088 (.s .o (.b (.l [10,11,84] 14507109835375550096474128 85070591730215273052729817791150690048 (.s .o (.s .o (.x 33849922949209616891776016 .o .o)))))) .o))))))
abbrev ng:=aU prog Tryz.f144.results.toList
def yY:KF:=kO 3096 (cP (pw qB 5 31) (ng K) (ng K) nX)
def MU:Prop:=yY K (fy 135 3096 [x3,x4,x10,x11]) w
def Cc:Prop:=aG [10,11,34] 12884901916 (λE=>cP (pw qB 8 47) E (ng K) (exB 0 (yY K) nX)) (fy 135 30064774172 [x2,x3,x4,x10,x11,x32,x33,x34]) w
def qC:KF:=kO 3088 (cP (pw qB 6 63) (ng K) (ng K) nX)
def MV:Prop:=qC K (fy 135 3088 [x4,x10,x11]) w
def MW:Prop:=aG [10,11,84] 14507109835375550096474128 (λE=>cP (pw qB 9 95) E (ng K) (exB 2 (qC K) nX)) (fy 135 33849922949209616891776016 [x4,x10,x11,x82,x83,x84]) w
def QW (E1:VP3):KF:=kO 33849922949209616891776016 (cP (pw qB 12 3679) (sE3 E1 10 11 84) (ng K) (exB 2 (qC K) nX))
def Cd (K:K1) (E1:VP3) (x4 x10 x11 x82 x83 x84:av) (w:ab):Prop:=QW K E1 (fy 135 33849922949209616891776016 [x4,x10,x11,x82,x83,x84]) w
def yZ:Prop:=
 lN 50 x3 w λa w=>
 MW K x4 x10 x11 x3 a (.int .i64 0) w
def Jo:MU K x3 x4 x10 x11 w=yZ K x3 x4 x10 x11 w:=aI λσ=>kR
def qD (E1:VP3):Prop:=
 bT .lss 3 34 33 x34 x33 w λa w=>
 af a (
 iA 50 x32 x34 w λb w=>
 lD 3 b w λc w=>
 lD 134 x4 w λd w=>
 cL 131 (pA #[d,c]) w λe w=>
 eX e 0 w λf w=>
 eX e 1 w λg w=>
 eX e 2 w λh w=>
 ev prog (Instr.alloc 200 true (.tuple #[])) w λi w=>
 sD 200 i f w λw=>
 ev prog (Op.unary .not g) w λj w=>
 gV j false h w λl w=>
 aw j (.bool true) l w λm w=>
 gd m false (λk=>fA 200 i 2 w k) w λn w=>
 gd m false (λk=>lD 5 n w k) w λo w=>
 gd m false (λk=>bU .neq 5 53 .u8 176 o w k) w λp w=>
 aw m (.bool true) p w λq w=>
 gd q false (λk=>lD 200 i w k) w λs w=>
 gC q false 168 (pA #[s]) w λt w=>
 gd q false (λk=>ev prog (Op.unary .not t) w k) w λv w=>
 aw q (.bool true) v w λy w=>
 af y (
 K (.tuple #[(.slice none 0 0),(.bool false)]) w) (
 iA 51 x2 x34 w λz w=>
 lD 5 z w λa0 w=>
 fA 200 i 1 w λa1 w=>
 sD 5 a1 a0 w λw=>
 fA 200 i 2 w λa2 w=>
 sD 5 a2 (.int .u8 ((177:Nat):Int)) w λw=>
 lR 134 x4 w.drew λa3=>
 lR 200 i w.drew λa4=>
 cL 170 (pA #[a3,c]) w.drew λa5 w=>
 (lG 200 i w a4)/\
 cL 160 (pA #[a4]) w λa6 w=>
 rd prog (Instr.build 98 #[(0,a5),(1,a6)]) w λa7=>
 ev prog (dc 79 1 #[(0,a7)]) w λa8 w=>
 aS prog .append #[79,79] 79 #[false,false] (pA #[x10,a8]) w λa9 w=>
 cV 3 129 c w λb0 w=>
 bM .shl 26 (cu .u64 1) (.tmp 78) (.int .u64 ((1:Nat):Int)) b0 w λb1 w=>
 bT .or 26 76 79 x11 b1 w λb2 w=>
 bC .add 3 34 1 x34 w λb3 w=>
 E1 a9 b2 b3 w)) (
 MU K x3 x4 x10 x11 w)
def Ce (I:VP3) (μ:M3) (h0:I x10 x11 x34 w) (hr:∀x10 x11 x34 w,I x10 x11 x34 w->∀E1,Q3 I μ x10 x11 x34 w E1->qD K x2 x3 x4 x10 x11 x32 x33 x34 w E1):Cc K x2 x3 x4 x10 x11 x32 x33 x34 w:=⟨I,μ,h0,λσ w hI E hE=>cast kR (hr (σ 10) (σ 11) (σ 34) w hI E hE)⟩
def lY:Prop:=
 fA 134 x4 1 w λa w=>
 lD 3 a w λb w=>
 cL 162 (pA #[b]) w λc w=>
 bU .add 26 129 .u64 8 c w λd w=>
 ev prog (Instr.build 98 #[(0,d),(1,x11)]) w λe w=>
 ev prog (dc 79 1 #[(0,e)]) w λf w=>
 aS prog .append #[79,79] 79 #[false,false] (pA #[x10,f]) w λg w=>
 K (.tuple #[g,(.bool true)]) w
def Jp:MV K x4 x10 x11 w=lY K x4 x10 x11 w:=aI λσ=>kR
def qE (E1:VP3):Prop:=
 bT .lss 3 84 83 x84 x83 w λa w=>
 af a (
 iA 50 x82 x84 w λb w=>
 lD 3 b w λc w=>
 lD 134 x4 w λd w=>
 cL 131 (pA #[d,c]) w λe w=>
 eX e 0 w λf w=>
 eX e 1 w λg w=>
 eX e 2 w λh w=>
 ev prog (Instr.alloc 200 true (.tuple #[])) w λi w=>
 sD 200 i f w λw=>
 ev prog (Op.unary .not g) w λj w=>
 gV j false h w λl w=>
 gd j false (λk=>ev prog (Op.unary .not l) w k) w λm w=>
 aw j (.bool true) m w λn w=>
 gd n false (λk=>fA 200 i 2 w k) w λo w=>
 gd n false (λk=>lD 5 o w k) w λp w=>
 gd n false (λk=>bU .neq 5 103 .u8 177 p w k) w λq w=>
 aw n (.bool true) q w λs w=>
 af s (
 K (.tuple #[(.slice none 0 0),(.bool false)]) w) (
 lD 200 i w λt w=>
 cL 181 (pA #[t]) w λv w=>
 sD 200 i v w λw=>
 lR 134 x4 w.drew λy=>
 lR 200 i w.drew λz=>
 cL 170 (pA #[y,c]) w.drew λa0 w=>
 (lG 200 i w z)/\
 cL 160 (pA #[z]) w λa1 w=>
 rd prog (Instr.build 98 #[(0,a0),(1,a1)]) w λa2=>
 ev prog (dc 79 1 #[(0,a2)]) w λa3 w=>
 aS prog .append #[79,79] 79 #[false,false] (pA #[x10,a3]) w λa4 w=>
 fA 200 i 2 w λa5 w=>
 lD 5 a5 w λa6 w=>
 bU .eql 5 118 .u8 176 a6 w λa7 w=>
 af a7 (
 cV 3 129 c w λa8 w=>
 bM .shl 26 (cu .u64 1) (.tmp 122) (.int .u64 ((1:Nat):Int)) a8 w λa9 w=>
 bT .andNot 26 120 123 x11 a9 w λb0 w=>
 Cd K E1 x4 a4 b0 x82 x83 x84 w) (
 Cd K E1 x4 a4 x11 x82 x83 x84 w))) (
 MV K x4 x10 x11 w)
def Cf (I:VP3) (μ:M3) (h0:I x10 x11 x84 w) (hr:∀x10 x11 x84 w,I x10 x11 x84 w->∀E1,Q3 I μ x10 x11 x84 w E1->qE K x4 x10 x11 x82 x83 x84 w E1):MW K x4 x10 x11 x82 x83 x84 w:=⟨I,μ,h0,λσ w hI E hE=>cast kR (hr (σ 10) (σ 11) (σ 84) w hI E hE)⟩
def lZ (E1:VP3):Prop:=
 bC .add 3 84 1 x84 w λa w=>
 E1 x10 x11 a w
def uE (E1:VP3):Cd K E1 x4 x10 x11 x82 x83 x84 w=lZ x10 x11 x84 w E1:=aI λσ=>kR
def VV:Prop:=
 ev prog (Instr.box 134 x0) w λa w=>
 lN 50 x1 w λb w=>
 bC .eql 3 23 0 b w λc w=>
 gV c true x3 w λd w=>
 gd c true (λk=>lN 50 d w k) w λe w=>
 gd c true (λk=>bC .eql 3 27 0 e w k) w λf w=>
 aw c f (.bool false) w λg w=>
 af g (
 K (.tuple #[(.slice none 0 0),(.bool true)]) w) (
 lD 134 a w λh w=>
 cL 166 (pA #[h]) w λi w=>
 lN 50 x1 w λj w=>
 Cc K x2 x3 a (.slice none 0 0) i x1 j (.int .i64 0) w)
def QX:=cA4 Tryz.func144 qB.2 VV
def VW:Prop:=
 ev prog (Instr.box 134 x0) w λa w=>
 fA 134 a 0 w λb w=>
 lD 106 b w λc w=>
 bM .eql 106 (.tmp 7) (.const .nilIface) c .nilIface w λd w=>
 af d (
 K (.int .i64 11) w) (
 fA 134 a 0 w λe w=>
 lD 106 e w λf w=>
 bA prog f "Err" (pA #[]) w fun g w=>
 bC .neq 28 12 0 g w λh w=>
 af h (
 K g w) (
 lD 134 a w λi w=>
 cL 182 (pA #[i]) w λj w=>
 fA 134 a 0 w λl w=>
 lD 106 l w λm w=>
 bA prog m "Err" (pA #[]) w fun n w=>
 bC .neq 28 20 0 n w λo w=>
 af o (
 K n w) (
 ev prog (Op.unary .not j) w λp w=>
 af p (
 K (.int .i64 11) w) (
 K (.int .i64 0) w))))
def QY:=cA1 Tryz.func153 .o VW
noncomputable def Jq:=uD Tryz.f157 (.s .o (.s .o (.s .o (.x 16 (.s .o (.b (.l [4,14] 8194 17592186028540 .o))) .o))))
abbrev Jr:=aU prog Tryz.f157.results.toList
def y6:KF:=kO 16 (cP (pw Jq 4 15) (Jr K) (Jr K) nX)
def MX:Prop:=y6 K (fy 45 16 [x4]) w
def MY:Prop:=aG [4,14] 8194 (λE=>cP (pw Jq 7 23) E (Jr K) (exB 0 (y6 K) nX)) (fy 45 24594 [x1,x4,x13,x14]) w
def y7:Prop:=
 K (.tuple #[x4,(.bool true)]) w
def Js:MX K x4 w=y7 K x4 w:=aI λσ=>kR
def za (E1:VP2):Prop:=
 bT .lss 3 14 13 x14 x13 w λa w=>
 af a (
 lD 134 x1 w λb w=>
 cL 131 (pA #[b,x14]) w λc w=>
 eX c 0 w λd w=>
 eX c 1 w λe w=>
 eX c 2 w λf w=>
 ev prog (Instr.alloc 200 true (.tuple #[])) w λg w=>
 sD 200 g d w λw=>
 ev prog (Op.unary .not e) w λh w=>
 gV h false f w λi w=>
 aw h (.bool true) i w λj w=>
 gd j false (λk=>fA 200 g 2 w k) w λl w=>
 gd j false (λk=>lD 5 l w k) w λm w=>
 gd j false (λk=>bU .neq 5 31 .u8 176 m w k) w λn w=>
 aw j (.bool true) n w λo w=>
 gd o false (λk=>fA 200 g 0 w k) w λp w=>
 gd o false (λk=>lD 130 p w k) w λq w=>
 gd o false (λk=>bU .eql 130 36 .u16 0 q w k) w λs w=>
 aw o (.bool true) s w λt w=>
 af t (
 K (.tuple #[(.int .u16 ((0:Nat):Int)),(.bool false)]) w) (
 fA 200 g 0 w λv w=>
 lD 130 v w λy w=>
 aS prog .max #[130,130] 130 #[false,false] #[x4,y] w λz w=>
 bC .add 3 14 1 x14 w λa0 w=>
 E1 z a0 w)) (
 MX K x4 w)
def Ch (I:VP2) (μ:M2) (h0:I x4 x14 w) (hr:∀x4 x14 w,I x4 x14 w->∀E1,Q2 I μ x4 x14 w E1->za K x1 x4 x13 x14 w E1):MY K x1 x4 x13 x14 w:=⟨I,μ,h0,λσ w hI E hE=>cast kR (hr (σ 4) (σ 14) w hI E hE)⟩
def VX:Prop:=
 ev prog (Instr.box 134 x0) w λa w=>
 fA 134 a 0 w λb w=>
 lD 106 b w λc w=>
 bM .eql 106 (.tmp 10) (.const .nilIface) c .nilIface w λd w=>
 af d (
 K (.tuple #[(.int .u16 ((0:Nat):Int)),(.bool false)]) w) (
 lD 134 a w λe w=>
 cL 167 (pA #[e]) w λf w=>
 MY K a (.int .u16 ((0:Nat):Int)) f (.int .i64 0) w)
def QZ:=cA1 Tryz.func157 Jq.2 VX
def VY:Prop:=
 ev prog (Instr.box 134 x0) w λa w=>
 bC .geq 3 5 0 x1 w λb w=>
 gV b true x1 w λc w=>
 gd b true (λk=>lD 134 a w k) w λd w=>
 gC b true 167 (pA #[d]) w λe w=>
 gd b true (λk=>bT .lss 3 8 10 c e w k) w λf w=>
 aw b f (.bool false) w λg w=>
 K g w
def Q4:=cA2 Tryz.func165 .o VY
def VZ:Prop:=
 ev prog (Instr.box 134 x0) w λa w=>
 fR 134 a 0 w.drew λb=>
 lR 106 b w.drew λc=>
 fR 134 a 1 w.drew λd=>
 lR 3 d w.drew λe=>
 nR c w.drew λf=>
 cL 162 (pA #[e]) w.drew λg w=>
 (fG 134 a 0 w b)/\
 (lG 106 b w c)/\
 (bw prog c w (λu=>u=f))/\
 rU .add 26 7 .u64 8 g w λh=>
 bA prog c "Load" (pA #[h]) w fun i w=>
 K i w
def Q5:=cA1 Tryz.func166 .o VZ
def V0:Prop:=
 ev prog (Instr.box 134 x0) w λa w=>
 lD 134 a w λb w=>
 cL 136 (pA #[b]) w λc w=>
 cL 135 (pA #[c]) w λd w=>
 K d w
def Q6:=cA1 Tryz.func167 .o V0
def V1:Prop:=
 ev prog (Instr.box 134 x0) w λa w=>
 fA 134 a 2 w λb w=>
 fA 132 b 0 w λc w=>
 lD 3 c w λd w=>
 cL 161 (pA #[d,x1]) w λe w=>
 eX e 0 w λf w=>
 eX e 1 w λg w=>
 fA 134 a 1 w λh w=>
 lD 3 h w λi w=>
 cL 162 (pA #[i]) w λj w=>
 cV 3 26 f w λl w=>
 bU .mul 26 19 .u64 8 l w λm w=>
 bT .add 26 17 20 j m w λn w=>
 K n w
def Q7:=cA2 Tryz.func170 .o V1
def V2:Prop:=
 ev prog (Instr.box 134 x0) w λa w=>
 lD 134 a w λb w=>
 cL 165 (pA #[b,x1]) w λc w=>
 ev prog (Op.unary .not c) w λd w=>
 af d (
 K (.bool false) w) (
 lD 134 a w λe w=>
 cL 131 (pA #[e,x1]) w λf w=>
 eX f 0 w λg w=>
 eX f 1 w λh w=>
 eX f 2 w λi w=>
 ev prog (Instr.alloc 200 true (.tuple #[])) w λj w=>
 sD 200 j g w λw=>
 gV h true i w λl w=>
 aw h l (.bool false) w λm w=>
 gd m true (λk=>fA 200 j 2 w k) w λn w=>
 gd m true (λk=>lD 5 n w k) w λo w=>
 gV m true x2 w λp w=>
 gd m true (λk=>bT .eql 5 27 28 o p w k) w λq w=>
 aw m q (.bool false) w λs w=>
 K s w)
def Q8:=cA3 Tryz.func177 .o V2
noncomputable def nh:=uD Tryz.f182 (.s .o (.s .o (.s .o (.s .o (.x 2 (.s .o (.b (.l [6] 10 4502500115742788 .o))) (.s .o (.x 130 (.s .o (.b (.l [7,56] 36028797018963970 154742504838614940324464516 (.s .o (.s .o (.x 108086391056892034 (.b (.s .o (.x 108086391056893826 .o .o))) .o)))))) .o)))))))
abbrev kH:=aU prog Tryz.f182.results.toList
def zb:KF:=kO 2 (cP (pw nh 5 31) (kH K) (kH K) nX)
def MZ:Prop:=zb K (fy 91 2 [x1]) w
def M5:Prop:=aG [6] 10 (λE=>cP (pw nh 8 47) E (kH K) (exB 0 (zb K) nX)) (fy 91 74 [x1,x3,x6]) w
def l7:KF:=kO 130 (cP (pw nh 7 127) (kH K) (kH K) nX)
def M6:Prop:=l7 K (fy 91 130 [x1,x7]) w
def M8:Prop:=aG [7,56] 36028797018963970 (λE=>cP (pw nh 10 191) E (kH K) (exB 2 (l7 K) nX)) (fy 91 108086391056892034 [x1,x7,x55,x56]) w
def qF (E1:VP2):KF:=kO 108086391056892034 (cP (pw nh 13 7359) (sE2 E1 7 56) (kH K) (exB 2 (l7 K) nX))
def sQ (K:K1) (E1:VP2) (x1 x7 x55 x56:av) (w:ab):Prop:=qF K E1 (fy 91 108086391056892034 [x1,x7,x55,x56]) w
def Q9 (E1:VP2):KF:=kO 108086391056893826 (cP (pw nh 16 52415) (qF K E1) (kH K) (exB 3 (qF K E1) (exB 2 (l7 K) nX)))
def l8 (K:K1) (E1:VP2) (x1 x7 x8 x9 x10 x55 x56:av) (w:ab):Prop:=Q9 K E1 (fy 91 108086391056893826 [x1,x7,x8,x9,x10,x55,x56]) w
def zd:Prop:=
 fA 134 x1 2 w λa w=>
 fA 132 a 0 w λb w=>
 lD 3 b w λc w=>
 cL 135 (pA #[c]) w λd w=>
 M8 K x1 (.int .u64 ((0:Nat):Int)) d (.int .i64 0) w
def Jt:MZ K x1 w=zd K x1 w:=aI λσ=>kR
def ze (E1:VP1):Prop:=
 bU .lss 26 40 .u64 8 x6 w λa w=>
 af a (
 fA 134 x1 0 w λb w=>
 lD 106 b w λc w=>
 bU .mul 26 47 .u64 8 x6 w λd w=>
 bT .add 26 46 48 x3 d w λe w=>
 bA prog c "Load" (pA #[e]) w fun f w=>
 bU .neq 26 50 .u64 0 f w λg w=>
 af g (
 K (.bool false) w) (
 bU .add 26 42 .u64 1 x6 w λh w=>
 E1 h w)) (
 MZ K x1 w)
def Ci (I:VP1) (μ:M1) (h0:I x6 w) (hr:∀x6 w,I x6 w->∀E1,Q1 I μ x6 w E1->ze K x1 x3 x6 w E1):M5 K x1 x3 x6 w:=⟨I,μ,h0,λσ w hI E hE=>cast kR (hr (σ 6) w hI E hE)⟩
def zf:Prop:=
 lD 134 x1 w λa w=>
 cL 166 (pA #[a]) w λb w=>
 bT .eql 26 88 89 b x7 w λc w=>
 K c w
def Ju:M6 K x1 x7 w=zf K x1 x7 w:=aI λσ=>kR
def qG (E1:VP2):Prop:=
 bT .lss 3 56 55 x56 x55 w λa w=>
 af a (
 fR 134 x1 0 w.drew λb=>
 lR 106 b w.drew λc=>
 lR 134 x1 w.drew λd=>
 nR c w.drew λe=>
 (cL 170 (pA #[d,x56]) w.drew λf w=>
 (fG 134 x1 0 w b)/\
 (lG 106 b w c)/\
 (bw prog c w (λu=>u=e))/\
 (bA prog c "Load" (pA #[f]) w fun g w=>
 (cL 176 (pA #[g]) w λh w=>
 xR h 0 w λi=>
 xR h 1 w λj=>
 ev prog (Instr.alloc 200 true (.tuple #[])) w λl w=>
 (fG 134 x1 0 w b)/\
 (lG 106 b w c)/\
 (lG 134 x1 w d)/\
 (bw prog c w (λu=>u=e))/\
 sD 200 l i w λw=>
 l8 K E1 x1 x7 x56 l j x55 x56 w)/\
 (ev prog (Instr.alloc 200 true (.tuple #[])) w λm w=>
 (fG 134 x1 0 w b)/\
 (lG 106 b w c)/\
 (lG 134 x1 w d)/\
 (bw prog c w (λu=>u=e))/\
 cL 176 (pA #[g]) w λn w=>
 xR n 0 w λo=>
 xR n 1 w λp=>
 sD 200 m o w λw=>
 l8 K E1 x1 x7 x56 m p x55 x56 w))/\
 (ev prog (Instr.alloc 200 true (.tuple #[])) w λq w=>
 (fG 134 x1 0 w b)/\
 (lG 106 b w c)/\
 (lG 134 x1 w d)/\
 (bw prog c w (λu=>u=e))/\
 bA prog c "Load" (pA #[f]) w fun s w=>
 cL 176 (pA #[s]) w λt w=>
 xR t 0 w λv=>
 xR t 1 w λy=>
 sD 200 q v w λw=>
 l8 K E1 x1 x7 x56 q y x55 x56 w))/\
 (ev prog (Instr.alloc 200 true (.tuple #[])) w.drew λz w=>
 (fG 134 x1 0 w b)/\
 (lG 106 b w c)/\
 (lG 134 x1 w d)/\
 (bw prog c w (λu=>u=e))/\
 cL 170 (pA #[d,x56]) w λa0 w=>
 (fG 134 x1 0 w b)/\
 (lG 106 b w c)/\
 (bw prog c w (λu=>u=e))/\
 bA prog c "Load" (pA #[a0]) w fun a1 w=>
 cL 176 (pA #[a1]) w λa2 w=>
 xR a2 0 w λa3=>
 xR a2 1 w λa4=>
 sD 200 z a3 w λw=>
 l8 K E1 x1 x7 x56 z a4 x55 x56 w)) (
 M6 K x1 x7 w)
def Cj (I:VP2) (μ:M2) (h0:I x7 x56 w) (hr:∀x7 x56 w,I x7 x56 w->∀E1,Q2 I μ x7 x56 w E1->qG K x1 x7 x55 x56 w E1):M8 K x1 x7 x55 x56 w:=⟨I,μ,h0,λσ w hI E hE=>cast kR (hr (σ 7) (σ 56) w hI E hE)⟩
def zg (E1:VP2):Prop:=
 bC .add 3 56 1 x56 w λa w=>
 E1 x7 a w
def Jv (E1:VP2):sQ K E1 x1 x7 x55 x56 w=zg x7 x56 w E1:=aI λσ=>kR
def zh (E1:VP2):Prop:=
 ev prog (Op.unary .not x10) w λa w=>
 gd a false (λk=>lD 200 x9 w k) w λb w=>
 gC a false 168 (pA #[b]) w λc w=>
 gd a false (λk=>ev prog (Op.unary .not c) w k) w λd w=>
 aw a (.bool true) d w λe w=>
 af e (
 K (.bool false) w) (
 fA 200 x9 2 w λf w=>
 lD 5 f w λg w=>
 bU .neq 5 79 .u8 176 g w λh w=>
 af h (
 cV 3 129 x8 w λi w=>
 bM .shl 26 (cu .u64 1) (.tmp 83) (.int .u64 ((1:Nat):Int)) i w λj w=>
 bT .or 26 81 84 x7 j w λl w=>
 sQ K E1 x1 l x55 x56 w) (
 sQ K E1 x1 x7 x55 x56 w))
def Jw (E1:VP2):l8 K E1 x1 x7 x8 x9 x10 x55 x56 w=zh K x1 x7 x8 x9 x10 x55 x56 w E1:=aI λσ=>kR
def V3:Prop:=
 ev prog (Instr.box 134 x0) w λa w=>
 fA 134 a 1 w λb w=>
 lD 3 b w λc w=>
 cL 162 (pA #[c]) w λd w=>
 fA 134 a 0 w λe w=>
 lD 106 e w λf w=>
 bA prog f "Load" (pA #[d]) w fun g w=>
 cL 175 (pA #[g]) w λh w=>
 eX h 0 w λi w=>
 eX h 1 w λj w=>
 ev prog (Instr.alloc 132 true (.tuple #[])) w λl w=>
 sD 132 l i w λw=>
 ev prog (Op.unary .not j) w λm w=>
 gd m false (λk=>fA 132 l 0 w k) w λn w=>
 gd m false (λk=>lD 3 n w k) w λo w=>
 gd m false (λk=>fA 134 a 2 w k) w λp w=>
 gd m false (λk=>fA 132 p 0 w k) w λq w=>
 gd m false (λk=>lD 3 q w k) w λs w=>
 gd m false (λk=>bT .neq 3 26 29 o s w k) w λt w=>
 aw m (.bool true) t w λv w=>
 gd v false (λk=>fA 132 l 1 w k) w λy w=>
 gd v false (λk=>lD 3 y w k) w λz w=>
 gd v false (λk=>fA 134 a 2 w k) w λa0 w=>
 gd v false (λk=>fA 132 a0 1 w k) w λa1 w=>
 gd v false (λk=>lD 3 a1 w k) w λa2 w=>
 gd v false (λk=>bT .neq 3 34 37 z a2 w k) w λa3 w=>
 aw v (.bool true) a3 w λa4 w=>
 af a4 (
 K (.bool false) w) (
 M5 K a d (.int .u64 ((2:Nat):Int)) w)
def Ra:=cA1 Tryz.func182 nh.2 V3
end
section
variable {w w':ab}
def cU (l g:Nat):List Ins:=ay [(l*64,sealN (hdX (-1) (-1) g))]
def dC (ws:List (Nat×Nat)):0<(ay ws).length:=by simp [ay];omega
def Na (hG:bB w) (l g:Nat) (hl:l<=4064) (hg:g≠0) (a:g<65536) (K:K1) (hK:∀v' w',SlO w' 220 3 v' (cU l g).length (inL (cU l g))->Ext w w'->bh w.heap.size v'->K (.tuple #[v',.int .i64 0]) w'):
  ae prog 155 #[.int .i64 (l:Int),.int .u16 (g:Int)] w K:=by
 refine Qx _ _ _ _ ?_;unfold Vr;have hw:∀(w1:ab) (K:K1),Ext w w1->ae prog 163 #[.agg #[.int .i64 (-1),.int .i64 (-1),.int .u16 (g:Int)]] w1 K=K (.int .u64 ((sealN (hdX (-1) (-1) g):Nat):Int)) ((w1.alloc (hdO (-1) (-1) g)).alloc (oj (hdX (-1) (-1) g))):=λw1 K he=>MM (-1) (-1) g w1 K (hG.ext he) a oM oM oM oM
 (repeat' first|refine am (λ_=> ?_) (λ_=> ?_)|refine ao ?_ ?_|refine wQ @jK @cT hw @aa ?_|exact abb @jK @cT hw @aa|fail)
 refine hP [(l*64,sealN (hdX (-1) (-1) g))] _ ?_ (by simp) (by simp) ?_ _ (λv' w' hs he hn=> ?_)
 ·exact (SlO.lit' _ 98 2 1 (wrL [(l*64,sealN (hdX (-1) (-1) g))]) rfl (by decide) (by simp only [RZ])).ext (Ext.refl _).drew
 ·intro x hx;simp only [cp] at hx;subst hx;simp only;omega
 ·refine hK v' w' hs (Ext.trans xZ he) (λb hb=>cA ?_ (hn b hb));simp only [RZ];omega
def du (l:Nat) (c:Int) (g:Nat):List (Nat×Nat):=(List.range (perS c).toNat).map (λ(i:Nat)=>(l*64+(mZ c (i:Int)).toNat*8,sealN (dB g 0 176)))++(List.range 7).map (λk=>(l*64+(k+1)*8,0))
def planI (l:Nat) (c o:Int) (g:Nat):List Ins:=ay (du l c g)++ay [(l*64,sealN (hdX c o g))]
def Rb (l:Nat) (c:Int) (g:Nat):(du l c g).length=(perS c).toNat+7:=by simp [du]
def afb (hG:bB w) (l:Nat) (c o:Int) (g:Nat) (hl:l<=4064) (a:0<=c) (hc:c<5) (U:0<=o) (ho:o<8) (hg:g≠0) (t:g<65536) (K:K1) (hK:∀v' w',SlO w' 220 3 v' (planI l c o g).length (inL (planI l c o g))->Ext w w'->bh w.heap.size v'->K (.tuple #[v',.int .i64 0]) w'):
  ae prog 118 #[.int .i64 (l:Int),.agg #[.int .i64 c,.int .i64 o,.int .u16 (g:Int)]] w K:=by
 refine Qs _ _ _ _ ?_;unfold Vm;have hp:=aM a hc;have W:=aN a hc;have hf:∀(w1:ab) (K:K1),Ext w w1->ae prog 159 #[.agg #[.int .i64 c,.int .i64 o,.int .u16 (g:Int)]] w1 K=K (.bool true) (w1.alloc (hdO c o g)):=λw1 K he=>by
  rw [iw c o g w1 K (hG.ext he)];have:kG c o=true:=by simp [kG];omega
  rw [this]
 have hb:∀(w1:ab) (K:K1),Ext w w1->ae prog 160 #[.agg #[.int .u16 (g:Int),.int .u8 ((0:Nat):Int),.int .u8 ((176:Nat):Int)]] w1 K=K (.int .u64 ((sealN (dB g 0 176):Nat):Int)) ((w1.alloc (iZ g 0 176)).alloc (oj (dB g 0 176))):=λw1 K he=>ML g 0 176 w1 K (hG.ext he) t oM oM
 have C:∀(w1:ab) (K:K1),Ext w w1->ae prog 135 #[.int .i64 c] w1 K=K (.int .i64 (perS c)) w1:=λw1 K he=>cy c w1 K (hG.ext he)
 have hw:∀(w1:ab) (K:K1),Ext w w1->ae prog 163 #[.agg #[.int .i64 c,.int .i64 o,.int .u16 (g:Int)]] w1 K=K (.int .u64 ((sealN (hdX c o g):Nat):Int)) ((w1.alloc (hdO c o g)).alloc (oj (hdX c o g))):=λw1 K he=>MM c o g w1 K (hG.ext he) t oM oM oM oM
 have R:∀(i:Nat) (w1:ab) (K:K1),Ext w w1->i<(perS c).toNat->ae prog 161 #[.int .i64 c,.int .i64 (i:Int)] w1 K=K (.tuple #[.int .i64 (((mZ c (i:Int)).toNat:Nat):Int),.int .i64 0]) w1:=λi w1 K he hi=>by
  have hb:=bv a hc (show 0<=(i:Int) by omega) oM;rw [Er c i w1 K (hG.ext he) a hc oM oM,show (((mZ c (i:Int)).toNat:Nat):Int)=mZ c i by omega]
 (repeat' first|refine am (λ_=> ?_) (λ_=> ?_)|refine ao ?_ ?_|refine eI @jK @cT hf hb C @aa ?_|exact abc @jK @cT hf hb C @aa|fail)
 have e1:Ext w (w.alloc (.cells #[.int .i64 c,.int .i64 o,.int .u16 (g:Int)] 132)):=Ext.alloc_self _ _;have e:∀w',Ext (w.alloc (.cells #[.int .i64 c,.int .i64 o,.int .u16 (g:Int)] 132)) w'->w'.cell? ⟨w.heap.size,0,none⟩=some (.int .i64 c)/\w'.cell? ⟨w.heap.size,1,none⟩=some (.int .i64 o)/\w'.cell? ⟨w.heap.size,2,none⟩=some (.int .u16 (g:Int)):=by
  intro w' he;have:∀i,w'.cell? ⟨w.heap.size,i,none⟩=_:=λi=>he.cell _ i (by simp only [RZ];omega)
  refine ⟨?_,?_,?_⟩<;>(rw [this,aV _ _ _ _ _ rfl];rfl)
 generalize hw1:w.alloc (.cells #[.int .i64 c,.int .i64 o,.int .u16 (g:Int)] 132)=w1 at*;have s1:w.heap.size<w1.heap.size:=by rw [<-hw1];simp only [RZ];omega
 generalize hA:(List.range (perS c).toNat).map (λ(i:Nat)=>(l*64+(mZ c (i:Int)).toNat*8,sealN (dB g 0 176)))=A;have v:A.length=(perS c).toNat:=by rw [<-hA];simp
 generalize hB:(List.range 7).map (λk=>(l*64+(k+1)*8,0))=B;have r:B.length=7:=by rw [<-hB];simp
 have q:du l c g=A++B:=by unfold du;rw [hA,hB]
 have E:perS c=(((perS c).toNat:Nat):Int):=oM;generalize hn:(perS c).toNat=n at*;rw [E];apply BT (I:=λx z w'=>∃i:Nat,z= .int .i64 (i:Int)/\i<=n/\SlO w' 98 2 x i (wrL (A.take i))/\Frm Nob w1 w'/\bh w1.heap.size x) (μ:=λ_ z _=>n-(intOf z).toNat)
 ·exact ⟨0,rfl,by omega,SlO.nil _ _ _,Frm.of_ext xZ,λb hb=>by cases hb⟩
 ·intros;rename_i w2 hI E1 hE;obtain ⟨i,rfl,hi,sp,f2,n2⟩:=hI;have e2:Ext w1 w2:=f2.to_ext (λ_ _ h=>h);have a0:Ext w w2:=e1.trans e2;obtain ⟨q0,q1,q2⟩:=e w2 e2;obtain ⟨pa,pc,rfl,S⟩:=sp.isS';have Y:w.heap.size<w2.heap.size:=bL s1 e2.size;unfold yp;by_cases hin:i<n
  ·have Q:=bv a hc (show 0<=(i:Int) by omega) oM;generalize ho2:(mZ c (i:Int)).toNat=oi at*;have G:A[i]? =some (l*64+oi*8,sealN (dB g 0 176)):=by rw [<-hA];simp [hin,ho2]
   have D:∀(w1:ab) (K:K1),Ext w w1->ae prog 161 #[.int .i64 c,.int .i64 (i:Int)] w1 K=K (.tuple #[.int .i64 (oi:Int),.int .i64 0]) w1:=λw1 K he=>by rw [R i w1 K he hin,ho2]
   refine eI q0 q1 q2 D @cT @aa ?_;refine bD cR (w0:=w1) (sp.ext xZ) (f2.ext xZ) n2 (m:=1) (news:=wrL [(l*64+oi*8,sealN (dB g 0 176))]) (by simp [wrL]) ?_ rfl oM oM oM (λv' w3 p L n3 _ _=> ?_)
   ·intro j u hj;rw [aB,aV _ _ _ _ _ (by simp only [RZ])];simpa [wrL,u64] using hj
   refine zS0 ?_;apply hE
   ·refine ⟨i+1,by simp,by omega,?_,L,n3⟩;rw [cM G,bY];exact p
   ·simp [intOf];omega
  ·have:i=n:=oM;subst this;have H:A.take i=A:=by rw [<-v,cB]
   rw [H] at sp;refine zS2 @IW @yo.eq_1 ?_;apply BU (I:=λx z w'=>∃k:Nat,z= .int .u64 ((k+1:Nat):Int)/\k<=7/\SlO w' 98 2 x (i+k) (wrL (A++B.take k))/\Frm Nob w1 w'/\bh w1.heap.size x) (μ:=λ_ z _=>8-(intOf z).toNat)
   ·exact ⟨0,rfl,by omega,by simpa using sp,f2,n2⟩
   ·intros;rename_i w3 O E3 F;obtain ⟨k,rfl,hk,d,f3,n3⟩:=O;have e3:Ext w1 w3:=f3.to_ext (λ_ _ h=>h);have s:Ext w w3:=e1.trans e3;obtain ⟨q0,q1,q2⟩:=e w3 e3;obtain ⟨Z,X,rfl,T⟩:=d.isS';have V:w.heap.size<w3.heap.size:=bL s1 e3.size;unfold yq;by_cases hk7:k<7
    ·have P:B[k]? =some (l*64+(k+1)*8,0):=by rw [<-hB];simp [hk7]
     refine ij @cT @aa ?_;refine bD cR (w0:=w1) (d.ext xZ) (f3.ext xZ) n3 (m:=1) (news:=wrL [(l*64+(k+1)*8,0)]) (by simp [wrL]) ?_ rfl oM oM oM (λv' w4 p N n4 _ _=> ?_)
     ·intro j u hj;rw [aB,aV _ _ _ _ _ (by simp only [RZ])];simpa [wrL,u64] using hj
     refine zS0 ?_;apply F
     ·refine ⟨k+1,by simp,by omega,?_,N,n4⟩;rw [cM P,<-cw,bY];exact p
     ·simp [intOf];omega
    ·have:k=7:=oM;subst this;have M:B.take 7=B:=by rw [<-r,cB]
     rw [M,<-q] at d;have y:i+7=(du l c g).length:=by rw [q];simp [v,r]
     rw [y] at d
     (repeat' first|refine am (λ_=> ?_) (λ_=> ?_)|refine ao ?_ ?_|refine fB q0 q1 q2 hw @cT @aa @uj @qp.eq_1 ?_|exact wR q0 q1 q2 hw @cT @aa @uj @qp.eq_1|fail)
     refine hP [(l*64,sealN (hdX c o g))] _ ?_ (by simp) (by simp) ?_ _ (λv4 w4 s4 e4 n4=> ?_)
     ·exact (SlO.lit' _ 98 2 1 (wrL [(l*64,sealN (hdX c o g))]) rfl (by decide) (by simp only [RZ])).ext (Ext.refl _).drew
     ·intro x hx;simp only [cp] at hx;subst hx;simp only;omega
     have f:Ext w3 w4:=Ext.trans xZ e4
     try simp (disch:=try exact dZ) only [↓RBp,↓RA,↓reduceIte,Nat.reduceAdd,Nat.reduceMul,Nat.reduceEqDiff,RB,RX,RA2]
     rw [y];refine hP (du l c g) _ (d.ext f) oM oM ?_ _ (λv5 w5 s5 e5 n5=> ?_)
     ·rw [q];intro x hx;rcases List.mem_append.1 hx with hx|hx
      ·rw [<-hA] at hx;obtain ⟨j,hj,rfl⟩:=List.mem_map.1 hx;have Q:=bv a hc (show 0<=(j:Int) by omega) (by rw [eN] at hj;omega);simp only;omega
      ·rw [<-hB] at hx;obtain ⟨j,hj,rfl⟩:=List.mem_map.1 hx;rw [eN] at hj;simp only;omega
     try simp (disch:=try exact dZ) only [↓RBp,↓RA,↓reduceIte,Nat.reduceAdd,Nat.reduceMul,Nat.reduceEqDiff,RB,RX,RA2]
     have l1:=aY (du l c g);have l2:=aY [(l*64,sealN (hdX c o g))];simp only [ca] at l2;refine B6 _ _ v5 v4 s5 (s4.ext e5) (dC _) (dC _) oM oM _ (λv6 w6 s6 e6 n6=> ?_);have J:Ext w w6:=((s.trans f).trans e5).trans e6;refine hK v6 w6 s6 J (λb hb=>cA ?_ (n6 b hb));exact ((s.trans f).trans e5).size
end
def ba (l:List Nat):List av:=l.map u64
section
variable {w w':ab} {Y:Lay} {D D':DS}
def uF (l:List Nat):bI (l.map u64)=true:=by
 induction l with
 |nil=>rfl
 |cons a l ih=>simp [bI,aj,ih]
def qH (l:List Nat) (b o cap:Nat) (hx:∀j u,(l.map u64)[j]? =some u->w.cell? ⟨b,o+j,none⟩=some u) (hb:b<w.heap.size) (h0:0<l.length) (hl:l.length<1099511627776) (K:K1)
  (hK:∀b' c' w',Ext w w'->ah w' b' 26 l.length (λi=>u64 (l.getD i 0))->w.heap.size<=b'->l.length<=c'->K (.slice (some ⟨b',0,none⟩) l.length c') w'):ae prog 148 #[.slice (some ⟨b,o,none⟩) l.length cap] w K:=by
 refine PV _ _ _ ?_;unfold UD;refine zS0 ?_;refine cK df (SlO.lit0 w 26 1) (news:=l.map u64) (by simp) ?_ (uF l) h0 oM oM (λv' w' hv hf hn ho=> ?_)
 ·intro j u hj;rw [gO _ _ _ _ hb];exact hx j u hj
 ·have he:Ext w w':=Frm.to_ext (F:=λb=>b=w.heap.size) (((Frm.of_ext (Ext.alloc_self w _)).trans hf (λx _ e=>by injection e with e;exact e.symm))) (λb hb=>by omega);have c:=hv.2;rw [aB] at c;rcases c with ⟨_,e⟩|⟨b',o',c',a,rfl,hh,h1,h2,h3,h4⟩
  ·omega
  ·have d:o'=0:=by rcases ho with h|h<;>simpa [Is] using h
   subst d;refine hK b' c' w' he ⟨a,hh,by omega,?_⟩ ?_ h1
   ·intro i hi;have h6:=h4 i (u64 (l.getD i 0)) (by simp [ei,aq hi,al]);simpa using h6
   ·rcases hn b' rfl with h|h
    ·have h':w.heap.size=b':=by simpa [Value.ownBlock] using h
     omega
    ·rw [size_alloc] at h;omega
def DS.init (n:Nat) (l:List Nat):DS:={n:=n,cur:=λi=>l.getD i 0,pers:=λi=>l.getD i 0,done:=λ_=>0,hist:=λ_=> [],off:=false,armed:=false,left:=0,exe:=0,err:=λ_=>0,notes:=λ_ _=>none}
def aL.init (n:Nat) (l:List Nat) (h0:0<n) (hn:n<=4096) (hl:∀x∈l,x<18446744073709551616):aL (DS.init n l):=by
 have hg:∀i,l.getD i 0<18446744073709551616:=by
  intro i;rw [al]
  cases h:l[i]? with
  |none=>simp
  |some x=>exact hl x (fc h)
 exact ⟨h0,hn,λi _=>hg i,λi _=>hg i,λl _ o v h=>by simp [DS.init] at h,λl _=>cn _,⟨Int.le_refl _,by show (0:Int)<_;omega⟩,λid _ k p h=>by simp [DS.init] at h⟩
def Rc:Option Obj->Nat
 |some (.cells _ t _)=>t
 |some (.map _ _)=>1000000
 |_=>2000000
def V4 (b cb cc lb n:Nat):Array av:= #[.slice (some ⟨b,0,none⟩) (8*n) (8*n),.slice (some ⟨cb,0,none⟩) (8*n) cc,.slice (some ⟨lb,0,none⟩) n n,.pointer none,.pointer none,.pointer none,.pointer none,.pointer none,.pointer none,.pointer none,.pointer none,.bool false,.bool false,.int .i64 0,.int .u64 ((0:Nat):Int)]
structure Prt (w0 w:ab) (d b cb cc lb n:Nat) (tb nb:Nat->Nat) (i:Nat):Prop where
 dev:ah w d 155 15 (λj=>if 3<=j/\j<3+i then .pointer (some ⟨tb (j-3),0,none⟩) else (V4 b cb cc lb n).getD j undef)
 th:∀j,j<i->ah w (tb j) 147 4 (λq=>if q=0 then .pointer (some ⟨d,0,none⟩) else if q=1 then .int .i64 (j:Int) else if q=2 then .int .i64 0 else .map (some (nb j)))
 nt:∀j,j<i->w.heap[nb j]? =some (.map #[] 0)
 lo:∀j,j<i->d<tb j/\d<nb j
 inj:∀j q,j<i->q<i->(tb j=tb q\/nb j=nb q)->j=q
 ext:Frm (λx=>x=d) w0 w
def adi (l:List Nat) (n b cb cc lb d:Nat) (w w1:ab) (hd:d=w1.heap.size) (h0:0<n) (hn:n<=4096) (hl:l.length=8*n) (hb:ah w b 26 (8*n) (λi=>u64 (l.getD i 0))) (he:Ext w w1) (k:ah w1 cb 26 (8*n) (λi=>u64 (l.getD i 0))) (h1:w.heap.size<=cb) (p:ah w1 lb 209 (2*n) (λi=>(#[Value.int .u64 ((0:Nat):Int),.slice none 0 0])[i%2]!)) (h2:w.heap.size<=lb) (K:K1)
  (hK:∀w' Y,Ext w w'->Dv w' Y (DS.init n l)->(∀x,Y.F x->x=b\/w.heap.size<=x)->(Y.dt=Y.tb/\∀i,Y.ids i=i)->K (.pointer (some ⟨Y.d,0,none⟩)) w'):sI K (.pointer (some ⟨d,0,none⟩)) (w1.alloc (.cells (V4 b cb cc lb n) 155)):=by
 rw [IK];unfold xX;apply BI (I:=λx w'=>∃(i:Nat) (tb nb:Nat->Nat),x= .int .i64 (i:Int)/\i<=8/\Prt (w1.alloc (.cells (V4 b cb cc lb n) 155)) w' d b cb cc lb n tb nb i) (μ:=λx _=>8-(intOf x).toNat)
 ·refine ⟨0,λ_=>0,λ_=>0,rfl,by omega,⟨?_,λj hj=>by omega,λj hj=>by omega,λj hj=>by omega,λj q hj=>by omega,Frm.refl _ _⟩⟩;subst hd;refine (ah.new w1 (V4 b cb cc lb n).toList 155).congr (λj hj=> ?_);rw [if_neg oM];simp [al]
 ·intros;rename_i w2 hI E1 hE;obtain ⟨i,tb,nb,rfl,hi,hp⟩:=hI;unfold yd;by_cases hi8:i<8
  ·have c1:=hp.dev.cell (i:=3+i) oM;have z1:=hp.dev.frz;have lt:=hp.dev.lt;refine zS2 c1 z1 ?_;have tl:∀j,j<i->tb j<w2.heap.size:=λj hj=>(hp.th j hj).lt
   have nl:∀j,j<i->nb j<w2.heap.size:=λj hj=>aJ (hp.nt j hj)
   apply hE
   ·refine ⟨i+1,λj=>if j=i then w2.heap.size+1 else tb j,λj=>if j=i then w2.heap.size else nb j,by simp,by omega,⟨?_,?_,?_,?_,?_,?_⟩⟩
    ·refine (((hp.dev.set _ (i:=3+i) oM).alloc _).alloc _).congr (λj hj=> ?_);by_cases e:j=3+i
     ·subst e;rw [if_pos rfl,if_pos oM,if_pos oM]
     ·rw [if_neg e];by_cases e2:3<=j/\j<3+i
      ·rw [if_pos e2,if_pos oM,if_neg oM]
      ·rw [if_neg e2,if_neg oM]
    ·intro j hj;by_cases e:j=i
     ·subst e;simp only [if_true];have f:=ah.new ((w2.setCell ⟨d,3+j,none⟩ (.pointer (some ⟨w2.heap.size+1,0,none⟩))).alloc (.map #[] 0)) [.pointer (some ⟨d,0,none⟩),.int .i64 (j:Int),.int .i64 0,.map (some w2.heap.size)] 147;rw [size_alloc,gP] at f;refine f.congr (λq hq=> ?_);have s:q=0\/q=1\/q=2\/q=3:=by simp at hq;omega
      rcases s with rfl|rfl|rfl|rfl<;>simp
     ·have c:j<i:=oM;simp only [e,if_false];exact (((hp.th j c).set_ne _ (by show tb j≠d;have:=(hp.lo j c).1;omega)).alloc _).alloc _
    ·intro j hj;by_cases e:j=i
     ·subst e;simp only [if_true];rw [bt _ (by rw [size_alloc,gP];omega)];have:=aP (w2.setCell ⟨d,3+j,none⟩ (.pointer (some ⟨w2.heap.size+1,0,none⟩))) (.map #[] 0);rw [gP] at this;exact this
     ·have c:j<i:=oM;simp only [e,if_false];rw [bt _ (by rw [size_alloc,gP];have:=nl j c;omega),bt _ (by rw [gP];exact nl j c),fL _ (by show nb j≠d;have:=(hp.lo j c).2;omega)];exact hp.nt j c
    ·intro j hj;by_cases e:j=i
     ·simp only [e,if_true];omega
     ·simp only [e,if_false];exact hp.lo j oM
    ·intro j q hj hq hh;by_cases e:j=i
     ·by_cases e2:q=i
      ·omega
      ·have a1:=tl q oM;have a2:=nl q oM;simp only [e,e2,if_true,if_false] at hh;omega
     ·by_cases e2:q=i
      ·have a1:=tl j oM;have a2:=nl j oM;simp only [e,e2,if_true,if_false] at hh;omega
      ·simp only [e,e2,if_false] at hh;exact hp.inj j q oM oM hh
    ·exact ((hp.ext.set _ (λ_=>rfl)).alloc _).alloc _
   ·simp [intOf];omega
  ·have:i=8:=oM;subst this;refine zS2 @IL @xY.eq_1 ?_;have ha:=Frm.of_ext (F:=λx=>x=d) (Ext.alloc_self w1 (.cells (V4 b cb cc lb n) 155));have hf:=ha.trans hp.ext (λ_ _ h=>h);have m:Ext w w2:=Frm.to_ext (F:=λx=>x=d) ((Frm.of_ext he).trans hf (λ_ _ h=>h)) (λx hx=>by have:=he.size;omega);have c1:=hb.ext m;have c2:=k.frm hf (by have:=k.lt;omega);have c3:=p.frm hf (by have:=p.lt;omega);have t:=hb.lt;have v:=he.size;refine hK w2 {n:=n,d:=d,pb:=b,cb:=cb,pc:=8*n,cc:=cc,lb:=lb,tb:=tb,nb:=nb,dt:=tb,ids:=λi=>i,hv:=λ_=> .slice none 0 0} m ⟨rfl,?_,c1,c2,?_,?_,?_,?_,?_⟩ ?_ ⟨rfl,λ_=>rfl⟩
   ·refine hp.dev.congr (λj hj=> ?_);by_cases e:3<=j/\j<11
    ·rw [if_pos oM];unfold kF;rw [if_neg oM,if_neg oM,if_neg oM,if_pos oM]
    ·rw [if_neg oM];have c:j=0\/j=1\/j=2\/j=11\/j=12\/j=13\/j=14:=oM;rcases c with rfl|rfl|rfl|rfl|rfl|rfl|rfl<;>rfl
   ·refine c3.congr (λj hj=> ?_);have c:j%2=0\/j%2=1:=oM;rcases c with e|e<;>simp [qj,DS.init,e]
   ·intro q hq;exact SlO.nil _ _ _
   ·intro j hj;refine (hp.th j hj).congr (λq hq=> ?_);simp only [thF,DS.init]
   ·intro j hj;refine ⟨#[],0,?_⟩;have:ntF (DS.init n l) j=λ_=>none:=by funext q;rfl
    rw [this];exact mV.empty (hp.nt j hj)
   ·obtain ⟨a1,o1,_⟩:=hp.dev;obtain ⟨a2,o2,_⟩:=c1;obtain ⟨a3,o3,_⟩:=c2;obtain ⟨a4,o4,_⟩:=c3;have u:b≠cb:=oM;intro r r' x hr g;have key:∀r,Lay.blk {n:=n,d:=d,pb:=b,cb:=cb,pc:=8*n,cc:=cc,lb:=lb,tb:=tb,nb:=nb,dt:=tb,ids:=λi=>i,hv:=λ_=> .slice none 0 0} r=some x->
      (r= .dev/\Rc w2.heap[x]? =155)\/(r= .pe/\Rc w2.heap[x]? =26/\x=b)\/(r= .cu/\Rc w2.heap[x]? =26/\x=cb)\/(r= .li/\Rc w2.heap[x]? =209)\/(∃j,j<8/\r= .th j/\Rc w2.heap[x]? =147/\x=tb j)\/(∃j,j<8/\r= .nt j/\Rc w2.heap[x]? =1000000/\x=nb j):=by
     intro r hr
     cases r with
     |dev=>simp [Lay.blk] at hr;subst hr;exact .inl ⟨rfl,by rw [o1];rfl⟩
     |pe=>simp [Lay.blk] at hr;subst hr;exact .inr (.inl ⟨rfl,by rw [o2];rfl,rfl⟩)
     |cu=>simp [Lay.blk] at hr;subst hr;exact .inr (.inr (.inl ⟨rfl,by rw [o3];rfl,rfl⟩))
     |li=>simp [Lay.blk] at hr;subst hr;exact .inr (.inr (.inr (.inl ⟨rfl,by rw [o4];rfl⟩)))
     |th j=>
      simp [Lay.blk] at hr;obtain ⟨a,o,_⟩:=hp.th j hr.1;exact .inr (.inr (.inr (.inr (.inl ⟨j,hr.1,rfl,by rw [<-hr.2,o];rfl,hr.2.symm⟩))))
     |nt j=>simp [Lay.blk] at hr;exact .inr (.inr (.inr (.inr (.inr ⟨j,hr.1,rfl,by rw [<-hr.2,hp.nt j hr.1];rfl,hr.2.symm⟩))))
     |hs q=>simp [Lay.blk,Value.ownBlock] at hr
    rcases key r hr with ⟨rfl,e1⟩|⟨rfl,e1,f1⟩|⟨rfl,e1,f1⟩|⟨rfl,e1⟩|⟨j,hj,rfl,e1,f1⟩|⟨j,hj,rfl,e1,f1⟩<;>
    rcases key r' g with ⟨rfl,e2⟩|⟨rfl,e2,f2⟩|⟨rfl,e2,f2⟩|⟨rfl,e2⟩|⟨q,hq,rfl,e2,f2⟩|⟨q,hq,rfl,e2,f2⟩<;>
    first
     |rfl
     |(exfalso;clear hr g key hK hl;omega)
     |(rw [hp.inj j q hj hq (.inl (f1.symm.trans f2))])
     |(rw [hp.inj j q hj hq (.inr (f1.symm.trans f2))])
   ·rintro x ⟨r,hr⟩
    cases r with
    |dev=>simp [Lay.blk] at hr;omega
    |pe=>simp [Lay.blk] at hr;omega
    |cu=>simp [Lay.blk] at hr;omega
    |li=>simp [Lay.blk] at hr;omega
    |th j=>simp [Lay.blk] at hr;have:=(hp.lo j hr.1).1;omega
    |nt j=>simp [Lay.blk] at hr;have:=(hp.lo j hr.1).2;omega
    |hs q=>simp [Lay.blk,Value.ownBlock] at hr
def agB (l:List Nat) (n b:Nat) (h0:0<n) (hn:n<=4096) (hl:l.length=8*n) (hc:ah w b 26 (8*n) (λi=>u64 (l.getD i 0))) (K:K1)
  (hK:∀w' Y,Ext w w'->Dv w' Y (DS.init n l)->(∀x,Y.F x->x=b\/w.heap.size<=x)->(Y.dt=Y.tb/\∀i,Y.ids i=i)->K (.pointer (some ⟨Y.d,0,none⟩)) w'):ae prog 111 #[.slice (some ⟨b,0,none⟩) (8*n) (8*n)] w K:=by
 have hx:∀(w:ab) (hc:ah w b 26 (8*n) (λi=>u64 (l.getD i 0))) j u,(l.map u64)[j]? =some u->w.cell? ⟨b,0+j,none⟩=some u:=by
  intro w hc j u hj;rw [aB];have e:=(List.getElem?_eq_some_iff.1 hj).1;rw [cC] at e;rw [hc.cell oM,<-hj];simp [ei,aq e,al]
 refine PS _ _ _ ?_;unfold UA;have hd:=hc.drew;have e8:((8*n:Nat):Int)/8=(n:Int):=oM
 (repeat' first|refine am (λ_=> ?_) (λ_=> ?_)|refine ao ?_ ?_|refine zS1 e8 ?_|exact yS1 e8|fail)
 ·rw [<-hl];refine qH l b 0 _ (hx _ hd) hd.lt oM oM _ (λb' c' w1 he a c h=> ?_);rw [hl] at a ⊢;have f:=a.lt
  (repeat' first|refine am (λ_=> ?_) (λ_=> ?_)|refine ao ?_ ?_|refine zS1 e8 ?_|exact yS1 e8|fail)
  refine adi l n b b' c' w1.heap.size _ w (w1.alloc (.cells (n9 (.agg #[.int .u64 ((0:Nat):Int),.slice none 0 0]) (n*2)) 209)) (by rw [size_alloc]) h0 hn hl hc (((Ext.refl w).drew.trans he).alloc _) (a.alloc _) c ?_ (by have:=he.size;exact this) K hK;rw [dn 2 n];exact gS w1 _ (n*2) _
 ·have hd2:=(hc.alloc (.cells (n9 (.agg #[.int .u64 ((0:Nat):Int),.slice none 0 0]) (n*2)) 209)).drew;rw [<-hl];refine qH l b 0 _ (hx _ hd2) hd2.lt oM oM _ (λb' c' w1 he a c h=> ?_);rw [hl] at a ⊢;have f:=a.lt;have g:=(gS w (.agg #[.int .u64 ((0:Nat):Int),.slice none 0 0]) (n*2) 209).drew.ext he
  (repeat' first|refine am (λ_=> ?_) (λ_=> ?_)|refine ao ?_ ?_|refine zS1 e8 ?_|exact yS1 e8|fail)
  refine adi l n b b' c' w.heap.size _ w w1 rfl h0 hn hl hc ((Ext.alloc_self w _).drew.trans he) a (by have h9:=c;rw [p9,size_alloc] at h9;omega) ?_ (cn _) K hK;rw [dn 2 n];exact g
end
section
variable {w w':ab} {Y:Lay} {D D':DS}
def DS.zero (n:Nat):DS:=DS.init n (List.replicate (8*n) 0)
def aL.zero (n:Nat) (h0:0<n) (hn:n<=4096):aL (DS.zero n):=aL.init n _ h0 hn (λx hx=>by rw [List.eq_of_mem_replicate hx];decide)
def V5 (n i:Nat):(DS.zero n).cur i=0:=by
 show (List.replicate (8*n) 0).getD i 0=0;rw [al,List.getElem?_replicate];split<;>rfl
def agC (n:Nat) (h0:0<n) (hn:n<=4096) (K:K1) (hK:∀w' Y,Ext w w'->Dv w' Y (DS.zero n)->(∀x,Y.F x->w.heap.size<=x)->(Y.dt=Y.tb/\∀i,Y.ids i=i)->K (.tuple #[.pointer (some ⟨Y.d,0,none⟩),.int .i64 0]) w'):ae prog 61 #[.int .i64 (n:Int)] w K:=by
 refine Ui _ _ _ ?_;unfold acZ;have e1:((n:Int)*8)=((8*n:Nat):Int):=oM
 (repeat' first|refine am (λ_=> ?_) (λ_=> ?_)|refine ao ?_ ?_|refine zS1 e1 ?_|exact yS1 e1|fail)
 have hc:=gS w (.int .u64 ((0:Nat):Int)) (8*n) 26;have e2:(λi=>(Value.int .u64 ((0:Nat):Int)).cells[i%(Value.int .u64 ((0:Nat):Int)).cells.size]!)=λi=>u64 ((List.replicate (8*n) 0).getD i 0):=by
  funext i;have:=V5 n i;show _=u64 ((DS.zero n).cur i);rw [this];simp [Value.cells,Nat.mod_one]
 rw [e2] at hc;refine agB (List.replicate (8*n) 0) n w.heap.size h0 hn (by simp) hc _ (λw' Y he hd hF a=> ?_);refine hK w' Y ((Ext.alloc_self w _).trans he) hd (λx hx=> ?_) a;rcases hF x hx with h|h
 ·omega
 ·rw [size_alloc] at h;omega
def DS.arm (D:DS) (n:Int):DS:=if D.off=true then D else {D with armed:=decide (0<=n),left:=if n<0 then 0 else n}
def V6 (Y:Lay) (D:DS) (b:Bool) (j:Nat):kF Y {D with armed:=b} j=if j=12 then .bool b else kF Y D j:=by
 unfold kF;by_cases h:j=12
 ·subst h;simp
 ·simp [h]
def Dv.setArm (h:Dv w Y D) (b:Bool):Stp w Y (w.setCell ⟨Y.d,12,none⟩ (.bool b)) Y {D with armed:=b}:=h.setDev 12 _ oM (λj hj=>V6 Y D b j) ⟨rfl,rfl,rfl,rfl,rfl,rfl,rfl⟩
def agD (h:Dv w Y D) (n:Int) (K:K1) (hK:∀w',Stp w Y w' Y (D.arm n)->K (.tuple #[]) w'):ae prog 54 #[.pointer (some ⟨Y.d,0,none⟩),.int .i64 n] w K:=by
 refine Uh _ _ _ _ ?_;unfold acY;unfold DS.arm at hK
 (repeat' first|refine am (λ_=> ?_) (λ_=> ?_)|refine ao ?_ ?_|refine zS1 h.R ?_|exact yS1 h.R|fail)
 ·rename_i e;rw [if_pos e] at hK;exact hK _ (Stp.refl h)
 ·rename_i e;rw [if_neg e] at hK;have h2:=h.setArm (decide (0<=n));refine zS1 h2.dv.R ?_;exact hK _ (h2.trans (h2.dv.setLeft _))
end
abbrev chV (Y:Lay) (l:Nat) (c o:Int) (g:Nat):av:= .agg #[.iface 31 (.pointer (some ⟨Y.tb 0,0,none⟩)),.int .i64 (l:Int),.int .i64 c,.int .i64 o,.int .u16 (g:Int)]
abbrev chO (Y:Lay) (l:Nat) (c o:Int) (g:Nat):Obj:= .cells #[.iface 31 (.pointer (some ⟨Y.tb 0,0,none⟩)),.int .i64 (l:Int),.int .i64 c,.int .i64 o,.int .u16 (g:Int)] 134
structure Cx (w:ab) (Y:Lay) (D:DS) (l:Nat) (c:Int):Prop where
 dv:Dv w Y D
 gd:aL D
 gl:bB w
 on:D.off=false
 hl:l+32<=D.n
 c0:0<=c
 c5:c<5
section
variable {w w':ab} {Y:Lay} {D:DS} {l:Nat} {c o:Int} {g:Nat}
def Cx.ext (h:Cx w Y D l c) (e:Ext w w'):Cx w' Y D l c:=⟨h.dv.ext e,h.gd,h.gl.ext e,h.on,h.hl,h.c0,h.c5⟩
def Cx.n (h:Cx w Y D l c):D.n<=4096:=h.gd.n
@[irreducible] def wd (D:DS) (l i:Nat):Nat:=D.cur (l*8+i)
def bc (x i:Nat):Bool:=decide (x/2^i%2=1)
def bG (x:Nat):Nat:=if isS x then gX x else 0
def bK (x:Nat):Nat:=if isS x then kX x else 0
def bS (x:Nat):Nat:=if isS x then sX x else 0
@[irreducible] def offN (c:Int) (i:Nat):Nat:=(mZ c (i:Int)).toNat
def aH {c:Int} {i:Nat} (h0:0<=c) (h5:c<5) (hi:(i:Int)<perS c):mZ c (i:Int)=(offN c i:Int)/\8<=offN c i/\offN c i<256:=by
 have:=bv h0 h5 (show 0<=(i:Int) by omega) hi;have hw:=aN h0 h5;unfold offN;omega
def Cx.wd_lt (h:Cx w Y D l c) (i:Nat) (hi:i<256):wd D l i<18446744073709551616:=by unfold wd;exact h.gd.cur _ (by have:=h.hl;omega)
def Cx.load (h:Cx w Y D l c) (i:Nat) (hi:i<256) (K:K1):ae prog 32 #[.pointer (some ⟨Y.tb 0,0,none⟩),.int .u64 ((l*64+i*8:Nat):Int)] w K=K (.int .u64 (wd D l i:Int)) w:=by
 have hl:=h.hl;have:=gZ h.dv h.gd 0 oM h.on (l*64+i*8) oM oM K;rw [this,show (l*64+i*8)/8=l*8+i by omega];unfold wd;rfl
def Cx.loadE (h:Cx w Y D l c):∀(w1:ab) (i:Nat) (K:K1),Ext w w1->i<256->ae prog 32 #[.pointer (some ⟨Y.tb 0,0,none⟩),.int .u64 ((l*64+i*8:Nat):Int)] w1 K=K (.int .u64 (wd D l i:Int)) w1:=λw1 i K he hi=>(h.ext he).load i hi K
def Ck (K:K1):ae prog 136 #[chV Y l c o g] w K=K (.int .i64 c) (w.alloc (chO Y l c o g)):=by
 refine au (by kernel_rfl) (QT _ _ _ ?_) K;unfold VS;exact yS0
structure Cg (w:ab) (c:Int):Prop where
 gl:bB w
 c0:0<=c
 c5:c<5
def Cg.ext (h:Cg w c) (e:Ext w w'):Cg w' c:=⟨h.gl.ext e,h.c0,h.c5⟩
def Cx.cg (h:Cx w Y D l c):Cg w c:=⟨h.gl,h.c0,h.c5⟩
def Eu (hG:bB w) (Y:Lay) (l:Nat) (c o:Int) (g:Nat):∀(w1:ab) (K:K1),Ext w w1->ae prog 167 #[chV Y l c o g] w1 K=K (.int .i64 (perS c)) ((w1.alloc (chO Y l c o g)).alloc (chO Y l c o g)):=by
 intro w1 K he;refine au (by kernel_rfl) (Q6 _ _ _ ?_) K;unfold V0;have hG:=hG.ext he;exact yS2 @Ck (λa b c K=>cy c ((w1.alloc a).alloc b) K ((hG.alloc a).alloc b))
def Cx.blocks (h:Cx w Y D l c) (o:Int) (g:Nat):∀(w1:ab) (K:K1),Ext w w1->ae prog 167 #[chV Y l c o g] w1 K=K (.int .i64 (perS c)) ((w1.alloc (chO Y l c o g)).alloc (chO Y l c o g)):=Eu h.gl Y l c o g
def V7 (hG:bB w) (Y:Lay) (l:Nat) (c o:Int) (g:Nat) (i:Int) (K:K1) (hK:∀w',Ext w w'->K (.bool (decide (0<=i)&&decide (i<perS c))) w'):ae prog 165 #[chV Y l c o g,.int .i64 i] w K:=by
 refine Q4 _ _ _ _ ?_;unfold VY;have hb:=Eu hG Y l c o g;by_cases h0:0<=i
 ·have e:(decide (0<=i)&&decide (i<perS c))=decide (i<perS c):=by simp [h0]
  rw [e] at hK;refine iB hb ?_;exact hK _ xZ
 ·have e:(decide (0<=i)&&decide (i<perS c))=false:=by simp [h0]
  rw [e] at hK;refine iB hb ?_;exact hK _ xZ
def V8 (h:Cx w Y D l c) (o:Int) (g:Nat) (i:Int) (K:K1) (hK:∀w',Ext w w'->K (.bool (decide (0<=i)&&decide (i<perS c))) w'):ae prog 165 #[chV Y l c o g,.int .i64 i] w K:=V7 h.gl Y l c o g i K hK
def Cx.at_ (h:Cx w Y D l c) (o:Int) (g:Nat):∀(w1:ab) (i:Nat) (K:K1),Ext w w1->(i:Int)<perS c->ae prog 170 #[chV Y l c o g,.int .i64 (i:Int)] w1 K=K (.int .u64 ((l*64+offN c i*8:Nat):Int)) (w1.alloc (chO Y l c o g)):=by
 intro w1 i K he hi;refine au (by kernel_rfl) (Q7 _ _ _ _ ?_) K;unfold V1;have hG:=h.gl.ext he;have hb:=aH h.c0 h.c5 hi;have hl:=h.hl;have hn:=h.n;have b:∀(a:Obj) (K:K1),ae prog 161 #[.int .i64 c,.int .i64 (i:Int)] (w1.alloc a) K=K (.tuple #[.int .i64 (offN c i:Int),.int .i64 0]) (w1.alloc a):=λa K=>by
  rw [Er c i (w1.alloc a) K (hG.alloc a) h.c0 h.c5 oM hi,hb.1]
 generalize offN c i=q at*;exact yS3 b @cT @aa
def Cx.bits (h:Cx w Y D l c) (o:Int) (g:Nat):∀(w1:ab) (K:K1),Ext w w1->ae prog 166 #[chV Y l c o g] w1 K=K (.int .u64 (wd D l 1:Int)) ((w1.alloc (chO Y l c o g)).drew):=by
 intro w1 K he;refine au (by kernel_rfl) (Q5 _ _ _ ?_) K;unfold VZ;have h1:=(h.ext he);have hl:=h.hl;have hn:=h.n;have ld:∀(w2:ab) (K:K1),Ext w1 w2->ae prog 32 #[.pointer (some ⟨Y.tb 0,0,none⟩),.int .u64 ((l*64+8:Nat):Int)] w2 K=K (.int .u64 (wd D l 1:Int)) w2:=λw2 K he=>h1.loadE w2 1 K he oM
 (repeat' first|refine am (λ_=> ?_) (λ_=> ?_)|refine ao ?_ ?_|refine fV @cT @aa ld ?_|exact Eb @cT @aa ld|fail)
def zi (x:Nat) (w:ab) (K:K1) (hG:bB w) (hx:x<18446744073709551616) (h:∀w',Ext w w'->K (.tuple #[.agg #[.int .u16 (bG x:Int),.int .u8 (bK x:Int),.int .u8 (bS x:Int)],.bool (isS x)]) w'):ae prog 176 #[.int .u64 x] w K:=by
 refine VD x w K hG hx (λw' he=> ?_);have:=h w' he;unfold bG bK bS at this
 cases hs:isS x with
 |true=>simp only [hs,if_true] at this ⊢;exact this
 |false=>simp only [hs,if_false] at this ⊢;exact this
def nj {b t:Nat} {f:Nat->av} (h:ah w b t 3 f) (v0 v1 v2:av):(((w.setCell ⟨b,0,none⟩ v0).setCell ⟨b,1,none⟩ v1).setCell ⟨b,2,none⟩ v2).cell? ⟨b,0,none⟩=some v0/\(((w.setCell ⟨b,0,none⟩ v0).setCell ⟨b,1,none⟩ v1).setCell ⟨b,2,none⟩ v2).cell? ⟨b,1,none⟩=some v1/\(((w.setCell ⟨b,0,none⟩ v0).setCell ⟨b,1,none⟩ v1).setCell ⟨b,2,none⟩ v2).cell? ⟨b,2,none⟩=some v2/\ah (((w.setCell ⟨b,0,none⟩ v0).setCell ⟨b,1,none⟩ v1).setCell ⟨b,2,none⟩ v2) b t 3 (λi=>if i=0 then v0 else if i=1 then v1 else v2):=by
 have h3:=((h.set v0 (i:=0) oM).set v1 (i:=1) oM).set v2 (i:=2) oM;exact ⟨h3.cell (i:=0) oM,h3.cell (i:=1) oM,h3.cell (i:=2) oM,h3.congr (λi hi=>by
  have:i=0\/i=1\/i=2:=oM;rcases this with rfl|rfl|rfl<;>simp)⟩
def qI (h:Cx w Y D l c) (o:Int) (g:Nat) (i:Nat) (hi:(i:Int)<perS c) (K:K1) (hK:∀w',Ext w w'->K (.tuple #[.agg #[.int .u16 (bG (wd D l (offN c i)):Int),.int .u8 (bK (wd D l (offN c i)):Int),.int .u8 (bS (wd D l (offN c i)):Int)],.bool (isS (wd D l (offN c i))),.bool (bc (wd D l 1) i)]) w'):
  ae prog 131 #[chV Y l c o g,.int .i64 (i:Int)] w K:=by
 refine QS _ _ _ _ ?_;unfold VR;have hb:=h.bits o g;have ha:=h.at_ o g;have hl:=h.loadE;have bd:=aH h.c0 h.c5 hi;have hp:=aM h.c0 h.c5;have hw:=h.wd_lt (offN c i) bd.2.2;have d:=h.wd_lt 1 oM;generalize hx:wd D l (offN c i)=x at*;generalize hy:wd D l 1=y at*;have an:∀z:Nat,z&&&1=z%2:=λz=>cv z
 have e:y/2^i<18446744073709551616:=ct (ew _ _) d
 (repeat' first|refine am (λ_=> ?_) (λ_=> ?_)|refine ao ?_ ?_|refine wQ hb ha hl hx ?_|exact abb hb ha hl hx|fail)
 refine zi x _ _ (h.gl.ext xZ) hw (λw1 b=> ?_);have hC:ah w1 (w.heap.size+1) 200 3 (λi=> [Value.int .u16 ((0:Nat):Int),.int .u8 ((0:Nat):Int),.int .u8 ((0:Nat):Int)].getD i undef):=by
  have:=(ah.new (w.alloc (chO Y l c o g)) [Value.int .u16 ((0:Nat):Int),.int .u8 ((0:Nat):Int),.int .u8 ((0:Nat):Int)] 200);rw [size_alloc] at this;exact this.ext (Ext.trans xZ b)
 have e1:Ext w w1:=Ext.trans xZ b;have c0:=hC.cell (i:=0) oM;have c1:=hC.cell (i:=1) oM;have c2:=hC.cell (i:=2) oM;obtain ⟨d0,d1,d2,hD⟩:=nj hC (.int .u16 (bG x:Int)) (.int .u8 (bK x:Int)) (.int .u8 (bS x:Int));obtain ⟨f0,f1,f2,hF⟩:=nj hD (.int .u16 (bG x:Int)) (.int .u8 (bK x:Int)) (.int .u8 (bS x:Int));have a:decide (y/2^i&&&1=1)=bc y i:=by unfold bc;simp only [an]
 refine T1 c0 c1 c2 hC.frz d0 d1 d2 hD.frz f0 f1 f2 a a a ?_;exact hK _ xZ
end
section
variable {w w':ab} {Y:Lay} {D:DS} {l:Nat} {c o:Int} {g:Nat}
def bz {w1:ab} (he:Ext (w.alloc (chO Y l c o g)) w1):w1.cell? ⟨w.heap.size,0,none⟩=some (.iface 31 (.pointer (some ⟨Y.tb 0,0,none⟩)))/\w1.cell? ⟨w.heap.size,1,none⟩=some (.int .i64 (l:Int))/\w1.cell? ⟨w.heap.size,2,none⟩=some (.int .i64 c)/\w1.cell? ⟨w.heap.size,3,none⟩=some (.int .i64 o)/\w1.cell? ⟨w.heap.size,4,none⟩=some (.int .u16 (g:Int)):=by
 have:∀i,w1.cell? ⟨w.heap.size,i,none⟩=_:=λi=>he.cell _ i (by simp only [RZ];omega)
 refine ⟨?_,?_,?_,?_,?_⟩<;>(rw [this,aV _ _ _ _ _ rfl];rfl)
@[irreducible] def mkB (D:DS) (l:Nat) (c i:Int) (s:Nat):Bool:=decide (0<=i/\i<perS c)&&(isS (wd D l (offN c i.toNat))&&(bc (wd D l 1) i.toNat&&decide (bS (wd D l (offN c i.toNat))=s)))
def V9 (h:Cx w Y D l c) (o:Int) (g:Nat) (i:Int) (s:Nat) (K:K1) (hK:∀w',Ext w w'->K (.bool (mkB D l c i s)) w'):
  ae prog 177 #[chV Y l c o g,.int .i64 i,.int .u8 (s:Int)] w K:=by
 refine Q8 _ _ _ _ _ ?_;unfold mkB at hK;unfold V2;refine zS0 ?_;refine V8 (h.ext xZ) o g i _ (λw1 b=> ?_);have e1:Ext w w1:=Ext.trans xZ b;obtain ⟨c0,c1,c2,c3,c4⟩:=bz b;by_cases hi:0<=i/\i<perS c
 ·obtain ⟨n,rfl⟩:∃n:Nat,i=(n:Int):=⟨i.toNat,by omega⟩;have e:(decide (0<=(n:Int))&&decide ((n:Int)<perS c))=true:=by simp [hi]
  rw [decide_eq_true hi,bb] at hK;rw [e];simp only [aa] at hK;refine zS6 c0 c1 c2 c3 c4 c4 ?_;refine qI (h.ext e1) o g n hi.2 _ (λw2 d=> ?_);have e2:Ext w w2:=e1.trans d;by_cases hs:isS (wd D l (offN c n))=true
  ·rw [hs,bb] at hK;by_cases a:bc (wd D l 1) n=true
   ·rw [a,bb] at hK;refine zS2 hs a ?_;exact hK _ xZ
   ·have a:bc (wd D l 1) n=false:=by simpa using a
    rw [a,ee] at hK;refine zS2 hs a ?_;exact hK _ xZ
  ·have hs:isS (wd D l (offN c n))=false:=by simpa using hs
   rw [hs,ee] at hK;refine zS1 hs ?_;exact hK _ xZ
 ·have e:(decide (0<=i)&&decide (i<perS c))=false:=by simp;omega
  rw [decide_eq_false hi,ee] at hK;rw [e];refine zS0 ?_;exact hK _ xZ
def abp (h:Cx w Y D l c) (o:Int) (g:Nat) (i:Int) (K:K1) (hK:∀w',Ext w w'->K (.bool (mkB D l c i 177)) w'):ae prog 137 #[chV Y l c o g,.int .i64 i] w K:=by
 refine QU _ _ _ _ ?_;unfold VT;refine zS0 ?_;refine V9 (h.ext xZ) o g i 177 _ (λw1 a=> ?_);exact hK _ (Ext.trans xZ a)
def frN (y:Nat):Nat->Nat->Int
 |0,_=> -1
 |m+1,i=>if bc y i=true then frN y m (i+1) else (i:Int)
def afc (h:Cx w Y D l c) (o:Int) (g:Nat) (i:Int) (K:K1) (hK:∀w',Ext w w'->K (.int .i64 (frN (wd D l 1) ((perS c).toNat-i.toNat) i.toNat)) w'):ae prog 121 #[chV Y l c o g,.int .i64 i] w K:=by
 have hp:=aM h.c0 h.c5;have hb:=h.blocks o g;have k:=h.bits o g;have hy:=h.wd_lt 1 oM;refine QP _ _ _ _ ?_;unfold VN;have d:∀(j:Nat) (w1:ab),Ext (w.alloc (chO Y l c o g)) w1->(∀w',Ext w w'->K (.int .i64 (frN (wd D l 1) ((perS c).toNat-j) j)) w')->sO K (.int .i64 (j:Int)) (.pointer (some ⟨w.heap.size,0,none⟩)) w1:=by
  intro j w1 b hK;obtain ⟨c0,c1,c2,c3,c4⟩:=bz b;have e1:Ext w w1:=Ext.trans xZ b;rw [Jh];unfold yO;refine zS6 c0 c1 c2 c3 c4 c4 ?_;refine V8 (h.ext e1) o g j _ (λw2 e=> ?_);have e2:=e1.trans e;obtain ⟨d0,d1,d2,d3,d4⟩:=bz (b.trans e);by_cases hj:(j:Int)<perS c
  ·have eb:(decide (0<=(j:Int))&&decide ((j:Int)<perS c))=true:=by simp [hj]
   rw [eb];refine eI d0 d1 d2 d3 d4 k ?_;apply B8 (I:=λz w'=>∃q:Nat,z= .int .i64 (q:Int)/\q<=(perS c).toNat/\frN (wd D l 1) ((perS c).toNat-q) q=frN (wd D l 1) ((perS c).toNat-j) j/\Ext (w.alloc (chO Y l c o g)) w') (μ:=λz _=>(perS c).toNat-(intOf z).toNat)
   ·exact ⟨j,rfl,by omega,rfl,(b.trans e).trans xZ⟩
   ·intros;rename_i w3 hI E1 hE;obtain ⟨q,rfl,hq,a,f⟩:=hI;obtain ⟨g0,g1,g2,g3,g4⟩:=bz f;have e3:Ext w w3:=Ext.trans xZ f;unfold yQ;by_cases hqp:(q:Int)<perS c
    ·have m:wd D l 1/2^q<18446744073709551616:=ct (ew _ _) hy;have hs:(perS c).toNat-q=((perS c).toNat-(q+1))+1:=oM;rw [hs] at a;simp only [frN] at a;by_cases hbq:bc (wd D l 1) q=true
     ·rw [if_pos hbq] at a;have e0:¬(wd D l 1/2^q&&&1=0):=by
       rw [cv];unfold bc at hbq;simp at hbq;omega
      refine fB g0 g1 g2 g3 g4 hb e0 e0 ?_;apply hE
      ·exact ⟨q+1,by simp,by omega,a,xZ⟩
      ·simp [intOf];omega
     ·rw [if_neg hbq] at a;have e0:wd D l 1/2^q&&&1=0:=by
       rw [cv];unfold bc at hbq;simp at hbq;omega
      refine fB g0 g1 g2 g3 g4 hb e0 e0 ?_;rw [a];exact hK _ xZ
    ·have hs:(perS c).toNat-q=0:=oM;rw [hs] at a;simp only [frN] at a;refine fB g0 g1 g2 g3 g4 hb @Ji @yP.eq_1 ?_;rw [a];exact hK _ xZ
  ·have eb:(decide (0<=(j:Int))&&decide ((j:Int)<perS c))=false:=by simp;omega
   rw [eb];have:(perS c).toNat-j=0:=oM;rw [this] at hK;simp only [frN] at hK;refine zS0 ?_;exact hK _ xZ
 by_cases hi:i<0
 ·have:i.toNat=0:=oM;rw [this] at hK;refine zS0 ?_;exact d 0 _ xZ hK
 ·obtain ⟨j,rfl⟩:∃j:Nat,i=(j:Int):=⟨i.toNat,by omega⟩;rw [aa] at hK;refine zS0 ?_;exact d j _ xZ hK
@[irreducible] def okF (D:DS) (l:Nat) (c:Int) (i:Nat):Bool:=isS (wd D l (offN c i))&&(!bc (wd D l 1) i&&(decide (bS (wd D l (offN c i))=176)&& !decide (bG (wd D l (offN c i))=0)))
def mxG (D:DS) (l:Nat) (c:Int):Nat->Nat
 |0=>0
 |n+1=>if mxG D l c n<bG (wd D l (offN c n)) then bG (wd D l (offN c n)) else mxG D l c n
def alF (D:DS) (l:Nat) (c:Int):Nat->Bool
 |0=>true
 |n+1=>alF D l c n&&okF D l c n
def Wa {D:DS} {l:Nat} {c:Int}:∀{n i:Nat},i<n->okF D l c i=false->alF D l c n=false:=by
 intro n
 induction n with
 |zero=>intro i h;omega
 |succ n ih=>
  intro i h he;simp only [alF];by_cases e:i=n
  ·subst e;simp [he]
  ·rw [ih (i:=i) oM he];rfl
def afd (h:Cx w Y D l c) (o:Int) (g:Nat) (K:K1) (hK:∀w',Ext w w'->K (.tuple #[.int .u16 ((if alF D l c (perS c).toNat=true then mxG D l c (perS c).toNat else 0:Nat):Int),.bool (alF D l c (perS c).toNat)]) w'):ae prog 157 #[chV Y l c o g] w K:=by
 have hp:=aM h.c0 h.c5;obtain ⟨n,hn⟩:∃n:Nat,perS c=(n:Int):=⟨(perS c).toNat,by omega⟩;rw [hn,aa] at hK;have hb:=h.blocks o g;rw [hn] at hb;refine QZ _ _ _ ?_;unfold VX;refine iB hb ?_;apply Ch (I:=λx z w'=>∃i:Nat,z= .int .i64 (i:Int)/\i<=n/\x= .int .u16 ((mxG D l c i:Nat):Int)/\alF D l c i=true/\Ext (w.alloc (chO Y l c o g)) w') (μ:=λ_ z _=>n-(intOf z).toNat)
 ·exact ⟨0,rfl,by omega,rfl,rfl,xZ⟩
 ·intros;rename_i w1 hI E1 hE;obtain ⟨i,rfl,hi,rfl,e,b⟩:=hI;obtain ⟨c0,c1,c2,c3,c4⟩:=bz b;have e1:Ext w w1:=Ext.trans xZ b;unfold za;by_cases hin:i<n
  ·refine zS6 c0 c1 c2 c3 c4 c4 ?_;refine qI (h.ext e1) o g i oM _ (λw2 d=> ?_);have e2:=b.trans d;have f:=e1.trans d;have a:okF D l c i=false->∀w',Ext w w'->K (.tuple #[.int .u16 ((0:Nat):Int),.bool false]) w':=by
    intro hf w' he;have:=hK w' he;rw [Wa hin hf] at this;exact this
   by_cases b1:isS (wd D l (offN c i))=true
   ·by_cases b2:bc (wd D l 1) i=true
    ·refine zS2 b1 b2 ?_;exact a (by simp [okF,b2]) _ xZ
    ·have b2:bc (wd D l 1) i=false:=by simpa using b2
     by_cases b3:bS (wd D l (offN c i))=176
     ·by_cases b4:bG (wd D l (offN c i))=0
      ·refine zS4 b1 b2 b3 b4 ?_;exact a (by simp [okF,b4]) _ xZ
      ·refine zS3 b1 b2 b3 ?_;apply hE
       ·refine ⟨i+1,by simp,by omega,?_,?_,xZ⟩
        ·simp only [mxG];split<;>split<;>first|rfl|omega
        ·simp [alF,e,okF,b1,b2,b3,b4]
       ·simp [intOf];omega
     ·refine zS3 b1 b2 b3 ?_;exact a (by simp [okF,b3]) _ xZ
   ·have b1:isS (wd D l (offN c i))=false:=by simpa using b1
    refine zS1 b1 ?_;exact a (by simp [okF,b1]) _ xZ
  ·have:i=n:=oM;subst this;rw [e,if_pos rfl] at hK;refine zS2 @Js @y7.eq_1 ?_;exact hK _ e1
end
def RdS (m:Nat) (w:ab) (v:av) (L:List av):Prop:=∃a cap,v= .slice a L.length cap/\(L= []\/∃b o,a=some ⟨b,o,none⟩/\b<m/\∀j u,L[j]? =some u->w.cell? ⟨b,o+j,none⟩=some u)
section
variable {w w':ab} {m:Nat} {v:av} {L:List av}
def RdS.ext (h:RdS m w v L) (e:Ext w w'):RdS m w' v L:=by
 obtain ⟨a,cap,hv,h⟩:=h;refine ⟨a,cap,hv,?_⟩;rcases h with h|⟨b,o,ha,hb,hc⟩
 ·exact .inl h
 ·exact .inr ⟨b,o,ha,hb,λj u hj=>e.cell_some (hc j u hj)⟩
def RdS.frm {F:Nat->Prop} (h:RdS m w v L) (e:Frm F w w') (hF:∀b,b<m->¬F b):RdS m w' v L:=by
 obtain ⟨a,cap,hv,h⟩:=h;refine ⟨a,cap,hv,?_⟩;rcases h with h|⟨b,o,ha,hb,hc⟩
 ·exact .inl h
 ·refine .inr ⟨b,o,ha,hb,λj u hj=> ?_⟩;have h1:=hc j u hj;rw [e.cell b _ (aD h1) (hF b hb)];exact h1
def RdS.get (h:RdS m w v L) {j:Nat} {u:av} (hj:L[j]? =some u):∃b o cap,v= .slice (some ⟨b,o,none⟩) L.length cap/\w.cell? ⟨b,o+j,none⟩=some u:=by
 obtain ⟨a,cap,hv,h⟩:=h;rcases h with h|⟨b,o,ha,hb,hc⟩
 ·rw [h] at hj;simp at hj
 ·subst ha;exact ⟨b,o,cap,hv,hc j u hj⟩
def RdS.nil (w:ab) (m:Nat):RdS m w (.slice none 0 0) []:=⟨none,0,rfl,.inl rfl⟩
end
abbrev be (l:List Int):List av:=l.map λi=>Value.int .i64 i
abbrev u8L (l:List Nat):List av:=l.map λ(n:Nat)=>Value.int .u8 (n:Int)
def om {l:List Int} {j:Nat} (h:j<l.length):(be l)[j]? =some (.int .i64 l[j]):=by simp [h]
def Cl {l:List Nat} {j:Nat} (h:j<l.length):(u8L l)[j]? =some (.int .u8 ((l[j]:Nat):Int)):=by simp [h]
def onc (a:Int):List Int->Nat->Option Nat
 | [],m=>some m
 |i::l,m=>if (0<=i/\i<a)/\bc m i.toNat=false then onc a l (m|||2^i.toNat) else none
def Wc {a:Int} {l:List Int} {j m:Nat} (h:j<l.length):onc a (l.drop j) m=if (0<=l[j]/\l[j]<a)/\bc m l[j].toNat=false then onc a (l.drop (j+1)) (m|||2^l[j].toNat) else none:=by
 rw [cd h];rfl
def ia {i:Nat} (h:i<64):2^i<18446744073709551616:=by
 have:2^i<2^64:=fe (by decide) h;simpa using this
def oq {a b:Nat} (ha:a<18446744073709551616) (hb:b<18446744073709551616):a|||b<18446744073709551616:=da (n:=64) ha hb
section
variable {w w':ab} {Y:Lay} {D:DS} {l:Nat} {c o:Int} {g:Nat}
def abq (h:Cg w c) (Y:Lay) (l:Nat) (o:Int) (g:Nat) (L M:List Int) (v u:av) {m:Nat} (hL:RdS m w v (be L)) (hM:RdS m w u (be M)) (lL:L.length<1099511627776) (lM:M.length<1099511627776) (b cap:Nat) (F:w.cell? ⟨b,0,none⟩=some v) (J:w.cell? ⟨b,1,none⟩=some u) (K:K1)
  (hK:∀w',Ext w w'->K (.bool ((onc (perS c) L 0).bind (onc (perS c) M)).isSome) w'):ae prog 143 #[chV Y l c o g,.slice (some ⟨b,0,none⟩) 2 cap] w K:=by
 have hp:=aM h.c0 h.c5;refine QV _ _ _ _ ?_;unfold VU;refine zS0 ?_;have k:∀(E1:av->av->ab->Prop) (L:List Int) (v:av) (q m0:Nat) (w1:ab),Ext (w.alloc (chO Y l c o g)) w1->RdS m w v (be L)->L.length<1099511627776->m0<18446744073709551616->(onc (perS c) L m0=none->∀w',Ext w w'->K (.bool false) w')->(∀m1 w',onc (perS c) L m0=some m1->m1<18446744073709551616->Ext (w.alloc (chO Y l c o g)) w'->E1 (.int .u64 (m1:Int)) (.int .i64 ((q+1:Nat):Int)) w')->q<1000->
   B9 K E1 (.pointer (some ⟨w.heap.size,0,none⟩)) (.int .u64 (m0:Int)) (.slice (some ⟨b,0,none⟩) 2 cap) (.int .i64 2) (.int .i64 (q:Int)) v (.int .i64 (L.length:Int)) (.int .i64 0) w1:=by
  intro E1 L v q m0 w1 e hL lL E p s hq;apply Cb (I:=λx z w'=>∃j mm:Nat,z= .int .i64 (j:Int)/\x= .int .u64 (mm:Int)/\mm<18446744073709551616/\j<=L.length/\onc (perS c) (L.drop j) mm=onc (perS c) L m0/\Ext (w.alloc (chO Y l c o g)) w') (μ:=λ_ z _=>L.length-(intOf z).toNat)
  ·exact ⟨0,m0,rfl,rfl,E,by omega,rfl,e⟩
  ·intros;rename_i w2 hI E2 hE;obtain ⟨j,mm,rfl,rfl,f,hj,d,n⟩:=hI;obtain ⟨c0,c1,c2,c3,c4⟩:=bz n;have e2:Ext w w2:=Ext.trans xZ n;unfold yX;by_cases hjl:j<L.length
   ·obtain ⟨sb,so,sc,rfl,hc⟩:=(hL.ext e2).get (om hjl);rw [Wc hjl] at d;generalize L[j]=x at d hc;simp (disch:=try exact dZ) only [↓RBp,↓RA,↓reduceIte,Nat.reduceAdd,Nat.reduceMul,Nat.reduceEqDiff,RB,RX,RA2,hc,c0,c1,c2,c3,c4,cC];refine V7 (h.gl.ext e2) Y l c o g x _ (λw3 y=> ?_);have e3:Ext w w3:=e2.trans y;have A:=n.trans y;by_cases hx:0<=x/\x<perS c
    ·have eb:(decide (0<=x)&&decide (x<perS c))=true:=by simp [hx]
     rw [eb];obtain ⟨i,rfl⟩:∃i:Nat,x=(i:Int):=⟨x.toNat,by omega⟩;rw [aa] at d;have N:mm/2^i<18446744073709551616:=ct (ew _ _) f;have t:=ia (show i<64 by omega);have C:1*2^i%18446744073709551616=2^i:=by rw [eu];exact cm t
     have G:=oq f t;by_cases hbt:bc mm i=true
     ·rw [if_neg (by simp [hbt])] at d;have e1:mm/2^i&&&1=1:=by rw [cv];simpa [bc] using hbt
      refine zS1 e1 ?_;exact p d.symm _ e3
     ·rw [if_pos ⟨hx,by simpa using hbt⟩] at d;have e1:¬(mm/2^i&&&1=1):=by rw [cv];simpa [bc] using hbt
      refine zS2 e1 C ?_;apply hE
      ·exact ⟨j+1,_,by simp,rfl,G,by omega,d,A⟩
      ·simp [intOf];omega
    ·have eb:(decide (0<=x)&&decide (x<perS c))=false:=by simp;omega
     rw [eb];rw [if_neg (λhh=>hx hh.1)] at d;refine zS0 ?_;exact p d.symm _ e3
   ·have:j=L.length:=oM;subst this;rw [en] at d;simp only [onc] at d;refine zS2 @Jn @yW.eq_1 ?_;have:=s mm w2 d.symm f n;simpa using this
 apply Ca (I:=λx z w'=>∃i mm:Nat,z= .int .i64 (i:Int)/\x= .int .u64 (mm:Int)/\mm<18446744073709551616/\i<=2/\(i=0->mm=0)/\(i=1->onc (perS c) L 0=some mm)/\(i=2->(onc (perS c) L 0).bind (onc (perS c) M)=some mm)/\Ext (w.alloc (chO Y l c o g)) w') (μ:=λ_ z _=>2-(intOf z).toNat)
 ·exact ⟨0,0,rfl,rfl,by omega,by omega,λ_=>rfl,λh=>by omega,λh=>by omega,xZ⟩
 ·intros;rename_i w1 hI E1 hE;obtain ⟨i,mm,rfl,rfl,f,hi,i0,i1,i2,e⟩:=hI;have e1:Ext w w1:=Ext.trans xZ e;have d0:=e1.cell_some F;have d1:=e1.cell_some J;unfold yV;have H:i=0\/i=1\/i=2:=oM;rcases H with rfl|rfl|rfl
  ·have:=i0 rfl;subst this;obtain ⟨a,sc,rfl,_⟩:=id hL;have D:RdS m w (.slice a L.length sc) (be L):=by rw [show (be L).length=L.length by simp] at hL;exact hL
   simp (disch:=try exact dZ) only [↓RBp,↓RA,↓reduceIte,Nat.reduceAdd,Nat.reduceMul,Nat.reduceEqDiff,RB,RX,RA2,d0,cC];refine k E1 L _ 0 0 w1 e D lL oM (λhn w' he=> ?_) (λm1 w' hs r he=> ?_) oM
   ·have:=hK w' he;rw [hn] at this;exact this
   ·apply hE
    ·exact ⟨1,m1,rfl,rfl,r,by omega,λh=>by omega,λ_=>hs,λh=>by omega,he⟩
    ·simp [intOf]
  ·have h1:=i1 rfl;obtain ⟨a,sc,rfl,_⟩:=id hM;have B:RdS m w (.slice a M.length sc) (be M):=by rw [show (be M).length=M.length by simp] at hM;exact hM
   simp (disch:=try exact dZ) only [↓RBp,↓RA,↓reduceIte,Nat.reduceAdd,Nat.reduceMul,Nat.reduceEqDiff,RB,RX,RA2,d1,cC];refine k E1 M _ 1 mm w1 e B lM f (λhn w' he=> ?_) (λm1 w' hs r he=> ?_) oM
   ·have:=hK w' he;rw [h1,cN,hn] at this;exact this
   ·apply hE
    ·exact ⟨2,m1,rfl,rfl,r,by omega,λh=>by omega,λh=>by omega,λ_=>by rw [h1,cN];exact hs,he⟩
    ·simp [intOf]
  ·have h2:=i2 rfl;rw [h2] at hK;refine zS2 @Jm @yU.eq_1 ?_;exact hK _ e1
def afe (h:Cx w Y D l c) (o:Int) (g:Nat) (L M:List Int) (v u:av) {m:Nat} (hL:RdS m w v (be L)) (hM:RdS m w u (be M)) (lL:L.length<1099511627776) (lM:M.length<1099511627776) (b cap:Nat) (a:w.cell? ⟨b,0,none⟩=some v) (d:w.cell? ⟨b,1,none⟩=some u) (K:K1)
  (hK:∀w',Ext w w'->K (.bool ((onc (perS c) L 0).bind (onc (perS c) M)).isSome) w'):ae prog 143 #[chV Y l c o g,.slice (some ⟨b,0,none⟩) 2 cap] w K:=abq h.cg Y l o g L M v u hL hM lL lM b cap a d K hK
end
@[irreducible] def tkOk (D:DS) (l:Nat) (c:Int) (i:Nat):Bool:=isS (wd D l (offN c i))&&(!bc (wd D l 1) i&&(decide (bS (wd D l (offN c i))=176)&&cf (bG (wd D l (offN c i))) (bK (wd D l (offN c i))) (bS (wd D l (offN c i)))))
@[irreducible] def dpOk (D:DS) (l:Nat) (c:Int) (i:Nat):Bool:=isS (wd D l (offN c i))&&(bc (wd D l 1) i&&decide (bS (wd D l (offN c i))=177))
def tkW (D:DS) (l:Nat) (c:Int) (i k:Nat):Nat×Nat:=(l*64+offN c i*8,sealN (dB (bG (wd D l (offN c i))) k 177))
def dpW (D:DS) (l:Nat) (c:Int) (i:Nat):Nat×Nat:=(l*64+offN c i*8,sealN (dB (freG (bG (wd D l (offN c i)))) 0 (freS (bG (wd D l (offN c i))))))
def dpB (D:DS) (l:Nat) (c:Int) (i b:Nat):Nat:=if freS (bG (wd D l (offN c i)))=176 then b&&&(18446744073709551615^^^2^i) else b
def chT (D:DS) (l:Nat) (c:Int):List Int->List Nat->List (Nat×Nat)->Nat->Option (List (Nat×Nat)×Nat)
 |i::r,k::ks,acc,b=>if tkOk D l c i.toNat=true then chT D l c r ks (acc++ [tkW D l c i.toNat k]) (b|||2^i.toNat) else none
 |_,_,acc,b=>some (acc,b)
def kf (D:DS) (l:Nat) (c:Int):List Int->List (Nat×Nat)->Nat->Option (List (Nat×Nat)×Nat)
 |i::r,acc,b=>if dpOk D l c i.toNat=true then kf D l c r (acc++ [dpW D l c i.toNat]) (dpB D l c i.toNat b) else none
 | [],acc,b=>some (acc,b)
def iD (D:DS) (l:Nat) (c:Int) (take:List Int) (a:List Nat) (drop:List Int):Option (List (Nat×Nat)):=
 if take.length=0/\drop.length=0 then some [] else
 match chT D l c take a [] (wd D l 1) with
 |none=>none
 |some (ws,b)=>match kf D l c drop ws b with
  |none=>none
  |some (ws,b)=>some (ws++ [(l*64+8,b)])
def Wd {D:DS} {l:Nat} {c:Int} {L:List Int} {ks:List Nat} {j b:Nat} {a:List (Nat×Nat)} (h:j<L.length) (h2:ks.length=L.length):chT D l c (L.drop j) (ks.drop j) a b=if tkOk D l c L[j].toNat=true then chT D l c (L.drop (j+1)) (ks.drop (j+1)) (a++ [tkW D l c L[j].toNat (ks[j]'oM)]) (b|||2^L[j].toNat) else none:=by
 rw [cd h,cd (show j<ks.length by omega)];rfl
def Rd {D:DS} {l:Nat} {c:Int} {L:List Int} {j b:Nat} {a:List (Nat×Nat)} (h:j<L.length):kf D l c (L.drop j) a b=if dpOk D l c L[j].toNat=true then kf D l c (L.drop (j+1)) (a++ [dpW D l c L[j].toNat]) (dpB D l c L[j].toNat b) else none:=by
 rw [cd h];rfl
def dh (x:Nat):bG x<65536:=by unfold bG gX;split<;>omega
def We (x:Nat):bK x<256:=by unfold bK kX;split<;>omega
def l9 {g:Nat} (h:g<65536):freG g<65536:=by unfold freG;split<;>omega
def md (g:Nat):freS g<256:=by unfold freS;split<;>omega
section
variable {w w':ab} {Y:Lay} {D:DS} {l:Nat} {c o:Int} {g:Nat}
def Re (h:Cx w Y D l c) (o:Int) (g:Nat) (L M:List Int) (ks:List Nat) (v kv u:av) {m:Nat} (hL:RdS m w v (be L)) (hk:RdS m w kv (u8L ks)) (hM:RdS m w u (be M)) (lL:L.length<1073741824) (lM:M.length<1073741824) (lk:ks.length=L.length) (c8:∀k∈ks,k<256) (vL:∀i∈L,0<=i/\i<perS c) (vM:∀i∈M,0<=i/\i<perS c) (K:K1)
  (a1:iD D l c L ks M=none->∀w',Ext w w'->K (.tuple #[.slice none 0 0,.bool false]) w')
  (V:∀ws,iD D l c L ks M=some ws->∀v' w',Ext w w'->bh w.heap.size v'->SlO w' 98 2 v' ws.length (wrL ws)->K (.tuple #[v',.bool true]) w'):ae prog 144 #[chV Y l c o g,v,kv,u] w K:=by
 have hp:=aM h.c0 h.c5;have Z:=h.bits o g;have hy:=h.wd_lt 1 oM;have N:=h.at_ o g;have C:∀(w1:ab) (a b d:Nat) (K:K1),Ext w w1->a<65536->b<256->d<256->ae prog 160 #[.agg #[.int .u16 (a:Int),.int .u8 (b:Int),.int .u8 (d:Int)]] w1 K=K (.int .u64 ((sealN (dB a b d):Nat):Int)) ((w1.alloc (iZ a b d)).alloc (oj (dB a b d))):=λw1 a b d K he ha hb hd=>ML a b d w1 K (h.gl.ext he) ha hb hd
 have l1:(be L).length=L.length:=by simp
 have l2:(be M).length=M.length:=by simp
 have l3:(u8L ks).length=L.length:=by simp [lk]
 obtain ⟨la,lc,rfl,_⟩:=id hL;obtain ⟨ma,mc,rfl,_⟩:=id hM;rw [l1] at hL ⊢;rw [l2] at hM ⊢;refine QX _ _ _ _ _ _ ?_;unfold VV;have e0:Ext w (w.alloc (chO Y l c o g)):=Ext.alloc_self _ _;have s0:w.heap.size<=(w.alloc (chO Y l c o g)).heap.size:=by simp only [RZ];omega
 have S:L.length+M.length≠0->∀w1,Ext (w.alloc (chO Y l c o g)) w1->Cc K kv (.slice ma M.length mc) (.pointer (some ⟨w.heap.size,0,none⟩)) (.slice none 0 0) (.int .u64 (wd D l 1:Int)) (.slice la L.length lc) (.int .i64 (L.length:Int)) (.int .i64 0) w1:=by
  intro d8 w1 b0
  have s:iD D l c L ks M=match chT D l c L ks [] (wd D l 1) with
   |none=>none
   |some (ws,b)=>match kf D l c M ws b with
    |none=>none
    |some (ws,b)=>some (ws++ [(l*64+8,b)]):=by unfold iD;rw [if_neg oM]
  apply Ce (I:=λx y z w'=>∃(j b:Nat) (p:List (Nat×Nat)),z= .int .i64 (j:Int)/\y= .int .u64 (b:Int)/\b<18446744073709551616/\j<=L.length/\p.length=j/\SlO w' 98 2 x p.length (wrL p)/\Frm Nob (w.alloc (chO Y l c o g)) w'/\bh (w.alloc (chO Y l c o g)).heap.size x/\chT D l c (L.drop j) (ks.drop j) p b=chT D l c L ks [] (wd D l 1)) (μ:=λ_ _ z _=>L.length-(intOf z).toNat)
  ·exact ⟨0,wd D l 1,[],rfl,rfl,hy,by omega,rfl,SlO.nil _ _ _,Frm.of_ext b0,(λb hb=>by cases hb),rfl⟩
  ·intros;rename_i w2 hI E1 hE;obtain ⟨j,b,p,rfl,rfl,hb,hj,ha,sp,f2,n2,r⟩:=hI;have W:Ext (w.alloc (chO Y l c o g)) w2:=f2.to_ext (λ_ _ h=>h);have e2:Ext w w2:=e0.trans W;obtain ⟨c0,c1,c2,c3,c4⟩:=bz W;obtain ⟨pa,pc,rfl,e5⟩:=sp.isS';by_cases hjl:j<L.length
   ·obtain ⟨sb,so,sc,B,hc⟩:=(hL.ext e2).get (om hjl);injection B with B _ ev2;subst B;subst ev2;have hv:=vL L[j] (ch hjl);have b4:=c8 (ks[j]'oM) (ch _);have a2:=(hk.ext e2).get (Cl (l:=ks) (j:=j) oM);rw [Wd hjl lk] at r;generalize L[j]=x at r hc hv;generalize ks[j]'oM=kj at r b4 a2;obtain ⟨i,rfl⟩:∃i:Nat,x=(i:Int):=⟨x.toNat,by omega⟩;rw [aa] at r;obtain ⟨kb,ko,kc,rfl,b5⟩:=a2;rw [l3];unfold qD;refine zS6 hc c0 c1 c2 c3 c4 ?_;refine qI (h.ext e2) o g i hv.2 _ (λw3 t=> ?_);have e3:Ext w w3:=e2.trans t;have a5:=W.trans t;have dd:=bz a5;have d0:=dd.1;have d1:=dd.2.1;have d2:=dd.2.2.1;have d3:=dd.2.2.2.1;have d4:=dd.2.2.2.2;have H:=t.cell_some b5;have d9:=aD H;have b9:w.heap.size<w3.heap.size:=aD d0;have b1:=dh (wd D l (offN c i));have b2:=We (wd D l (offN c i));have A:tkOk D l c i=false->∀w',Ext w w'->K (.tuple #[.slice none 0 0,.bool false]) w':=by
     intro hf;rw [if_neg (by simp [hf])] at r;exact a1 (by rw [s,<-r])
    by_cases t1:isS (wd D l (offN c i))=true
    ·by_cases t2:bc (wd D l 1) i=true
     ·refine zS2 t1 t2 ?_;exact A (by simp [tkOk,t2]) _ xZ
     ·have t2:bc (wd D l 1) i=false:=by simpa using t2
      by_cases t3:bS (wd D l (offN c i))=176
      ·by_cases t4:cf (bG (wd D l (offN c i))) (bK (wd D l (offN c i))) 176=true
       ·have P:tkOk D l c i=true:=by simp [tkOk,t1,t2,t3,t4]
        rw [if_pos P] at r;have F:=ia (show i<64 by omega);have U:1*2^i%18446744073709551616=2^i:=by rw [eu];exact cm F
        have b8:=oq hb F
        (repeat' first|refine am (λ_=> ?_) (λ_=> ?_)|refine ao ?_ ?_|refine LT t1 t2 t3 @dq t4 H d0 d1 d2 d3 d4 N C C ?_|exact LU t1 t2 t3 @dq t4 H d0 d1 d2 d3 d4 N C C|fail)
        refine bD cR (w0:=w.alloc (chO Y l c o g)) ((sp.ext t).ext xZ) ((f2.ext t).ext xZ) n2 (m:=1) (news:=wrL [tkW D l c i kj]) (by simp [wrL,tkW]) ?_ rfl oM oM oM (λv' w4 E b6 n4 _ _=> ?_)
        ·intro q u hq;rw [aB,lO,aV _ _ _ _ _ (by simp only [RZ])];simpa [wrL,tkW,u64] using hq
        refine zS1 U ?_;apply hE
        ·refine ⟨j+1,_,p++ [tkW D l c i kj],by simp,rfl,b8,by omega,by simp [ha],?_,b6,n4,r⟩;rw [bY,aA];exact E
        ·simp [intOf];omega
       ·have t4:cf (bG (wd D l (offN c i))) (bK (wd D l (offN c i))) 176=false:=by simpa using t4
        refine zS6 t1 t2 t3 @dq t4 t4 ?_;exact A (by simp [tkOk,t3,t4]) _ xZ
      ·refine zS3 t1 t2 t3 ?_;exact A (by simp [tkOk,t3]) _ xZ
    ·have t1:isS (wd D l (offN c i))=false:=by simpa using t1
     refine zS1 t1 ?_;exact A (by simp [tkOk,t1]) _ xZ
   ·have c7:j=L.length:=oM;subst c7;have hd1:L.drop L.length= []:=en;rw [hd1] at r;have a4:chT D l c L ks [] (wd D l 1)=some (p,b):=by rw [<-r];simp [chT]
    rw [a4] at s;simp only at s;unfold qD;refine zS2 @Jo @yZ.eq_1 ?_;apply Cf (I:=λx y z w'=>∃(j b':Nat) (f:List (Nat×Nat)),z= .int .i64 (j:Int)/\y= .int .u64 (b':Int)/\b'<18446744073709551616/\j<=M.length/\f.length=L.length+j/\SlO w' 98 2 x f.length (wrL f)/\Frm Nob (w.alloc (chO Y l c o g)) w'/\bh (w.alloc (chO Y l c o g)).heap.size x/\kf D l c (M.drop j) f b'=kf D l c M p b) (μ:=λ_ _ z _=>M.length-(intOf z).toNat)
    ·exact ⟨0,b,p,rfl,rfl,hb,by omega,ha,sp,f2,n2,rfl⟩
    ·intros;rename_i w3 b7 E3 a0;obtain ⟨j,b',f,rfl,rfl,Q,e7,a3,O,f3,n3,e⟩:=b7;have t:Ext (w.alloc (chO Y l c o g)) w3:=f3.to_ext (λ_ _ h=>h);have e3:Ext w w3:=e0.trans t;obtain ⟨c0,c1,c2,c3,c4⟩:=bz t;obtain ⟨d5,c6,rfl,d7⟩:=O.isS';by_cases hjM:j<M.length
     ·obtain ⟨sb,so,sc,B,hc⟩:=(hM.ext e3).get (om hjM);injection B with B _ ev2;subst B;subst ev2;have hv:=vM M[j] (ch hjM);rw [Rd hjM] at e;generalize M[j]=x at e hc hv;obtain ⟨i,rfl⟩:∃i:Nat,x=(i:Int):=⟨x.toNat,by omega⟩;rw [aa] at e;unfold qE;refine zS6 hc c0 c1 c2 c3 c4 ?_;refine qI (h.ext e3) o g i hv.2 _ (λw4 G=> ?_);have e4:Ext w w4:=e3.trans G;have a6:=t.trans G;have dd:=bz a6;have d0:=dd.1;have d1:=dd.2.1;have d2:=dd.2.2.1;have d3:=dd.2.2.2.1;have d4:=dd.2.2.2.2;have e6:w.heap.size<w4.heap.size:=aD d0;have b1:=dh (wd D l (offN c i));have b2:=l9 b1;have b3:=md (bG (wd D l (offN c i)));have A:dpOk D l c i=false->∀w',Ext w w'->K (.tuple #[.slice none 0 0,.bool false]) w':=by
       intro hf;rw [if_neg (by simp [hf])] at e;exact a1 (by rw [s,<-e])
      by_cases t1:isS (wd D l (offN c i))=true
      ·by_cases t2:bc (wd D l 1) i=true
       ·by_cases t3:bS (wd D l (offN c i))=177
        ·have P:dpOk D l c i=true:=by simp [dpOk,t1,t2,t3]
         rw [if_pos P] at e;have F:=ia (show i<64 by omega);have U:1*2^i%18446744073709551616=2^i:=by rw [eu];exact cm F
         have a9:b'&&&(18446744073709551615^^^2^i)<18446744073709551616:=ct eC Q;have c9:∀(w:ab) (k:K1),ev prog (aE .andNot 26 (.tmp 120) (.tmp 123) (.int .u64 (b':Int)) (.int .u64 ((2^i:Nat):Int))) w k=k (.int .u64 ((b'&&&(18446744073709551615^^^2^i):Nat):Int)) w:=λw k=>ad (Jf _ _ _ b' (2^i) w Q F) k
         (repeat' first|refine am (λ_=> ?_) (λ_=> ?_)|refine ao ?_ ?_|refine gY t1 t2 t3 @MO d0 d1 d2 d3 d4 N C ?_|exact tT t1 t2 t3 @MO d0 d1 d2 d3 d4 N C|fail)
         refine bD cR (w0:=w.alloc (chO Y l c o g)) ((O.ext G).ext xZ) ((f3.ext G).ext xZ) n3 (m:=1) (news:=wrL [dpW D l c i]) (by simp [wrL,dpW]) ?_ rfl oM oM oM (λv' w5 E J n5 R _=> ?_)
         ·intro q u hq;rw [aB,lO,aV _ _ _ _ _ (by simp only [RZ])];simpa [wrL,dpW,u64] using hq
         have d6:∀q,(Value.slice d5 f.length c6).ownBlock=some q->q<w4.heap.size:=λq hq=>(O.ext G).lt hq
         have cq:w5.cell? ⟨w4.heap.size,2,none⟩=some (.int .u8 ((freS (bG (wd D l (offN c i))):Nat):Int)):=by
          rw [R.cell w4.heap.size 2 (by simp only [RZ];omega) (λhq=>by have:=d6 _ hq;omega)];exact yS0
         by_cases hfs:freS (bG (wd D l (offN c i)))=176
         ·have T:dpB D l c i b'=b'&&&(18446744073709551615^^^2^i):=by unfold dpB;rw [if_pos hfs]
          rw [hfs] at cq;refine zS6 cq U c9 @uE @lZ.eq_1 @lZ.eq_1 ?_;apply a0
          ·refine ⟨j+1,_,f++ [dpW D l c i],by simp,rfl,a9,by omega,by simp [a3];omega,?_,J,n5,by rw [<-T];exact e⟩;rw [bY,aA];exact E
          ·simp [intOf];omega
         ·have T:dpB D l c i b'=b':=by unfold dpB;rw [if_neg hfs]
          rw [T] at e;refine zS4 cq hfs @uE @lZ.eq_1 ?_;apply a0
          ·refine ⟨j+1,_,f++ [dpW D l c i],by simp,rfl,Q,by omega,by simp [a3];omega,?_,J,n5,e⟩;rw [bY,aA];exact E
          ·simp [intOf];omega
        ·refine zS3 t1 t2 t3 ?_;exact A (by simp [dpOk,t3]) _ xZ
       ·have t2:bc (wd D l 1) i=false:=by simpa using t2
        refine zS2 t1 t2 ?_;exact A (by simp [dpOk,t2]) _ xZ
      ·have t1:isS (wd D l (offN c i))=false:=by simpa using t1
       refine zS1 t1 ?_;exact A (by simp [dpOk,t1]) _ xZ
     ·have a8:j=M.length:=oM;subst a8;rw [en] at e;have a7:kf D l c M p b=some (f,b'):=by rw [<-e];simp [kf]
      rw [a7] at s;simp only at s;have b9:w.heap.size<w3.heap.size:=aD c0;have e8:=h.hl;have e1:=h.n;unfold qE;refine gY c0 c1 c2 c3 c4 @cT @aa @Jp @lY.eq_1 @lY.eq_1 @lY.eq_1 ?_;refine bD cR (w0:=w.alloc (chO Y l c o g)) (O.ext xZ) (f3.ext xZ) n3 (m:=1) (news:=wrL [(l*64+8,b')]) (by simp [wrL]) ?_ rfl oM oM oM (λv' w5 E J n5 R _=> ?_)
      ·intro q u hq;rw [aB,aV _ _ _ _ _ (by simp only [RZ])];simpa [wrL,u64] using hq
      try simp (disch:=try exact dZ) only [↓RBp,↓RA,↓reduceIte,Nat.reduceAdd,Nat.reduceMul,Nat.reduceEqDiff,RB,RX,RA2]
      refine V _ s v' w5 (e0.trans (J.to_ext (λ_ _ h=>h))) (λq hq=>cA s0 (n5 q hq)) ?_;rw [bY,aA];exact E
 by_cases hL0:L.length=0
 ·by_cases hM0:M.length=0
  ·refine zS2 hL0 hM0 ?_;exact V [] (by unfold iD;rw [if_pos ⟨hL0,hM0⟩]) _ _ xZ (λb hb=>by cases hb) (SlO.nil _ _ _)
  ·have hz:((L.length:Nat):Int)=0:=oM;have X:¬((M.length:Nat):Int)=0:=oM;refine fV (tz hz) (go X) Z ?_;exact S oM _ xZ
 ·have X:¬((L.length:Nat):Int)=0:=oM;refine ij (go X) Z ?_;exact S oM _ xZ
end
structure On (D:DS):Prop where
 off:D.off=false
 arm:D.armed=false
 err:D.err 0=0
section
variable {D:DS}
def On.runs (h:On D):D.runs true=true:=by simp [DS.runs,h.off,h.arm]
def On.counted (h:On D):D.counted 0 true={D with exe:=D.exe+1}:=by
 rw [DS.counted_run h.runs,if_neg (by simp [h.arm])]
def On.store (h:On D) (off v:Nat) (hv:fa D off=true):D.store 0 off v=({D with exe:=D.exe+1}:DS).write off v:=by
 unfold DS.store;rw [hv,if_pos h.runs,h.counted]
def On.storeOn (h:On D) (off v:Nat) (hv:fa D off=true):On (D.store 0 off v):=by
 rw [h.store off v hv];exact ⟨h.off,h.arm,h.err⟩
def On.storeCur (h:On D) (off v:Nat) (hv:fa D off=true):(D.store 0 off v).cur=λj=>if j=off/8 then v else D.cur j:=by
 rw [h.store off v hv];rfl
def On.flush (h:On D) (off:Nat) (hv:fM D off=true):D.flush 0 off=({D with exe:=D.exe+1}:DS).note 0 ((off/64:Nat):Int) (D.done (off/64)+(D.hist (off/64)).length):=by
 unfold DS.flush;rw [hv,if_pos h.runs,h.counted]
def On.flushOn (h:On D) (off:Nat) (hv:fM D off=true):On (D.flush 0 off):=by
 rw [h.flush off hv];exact ⟨h.off,h.arm,h.err⟩
def On.flushCur (h:On D) (off:Nat) (hv:fM D off=true):(D.flush 0 off).cur=D.cur:=by
 rw [h.flush off hv];rfl
def On.fence (h:On D):D.fence 0=(({D with exe:=D.exe+1}:DS).parts (D.due 0)).clr 0:=by
 unfold DS.fence;rw [if_pos h.runs,h.counted]
def On.fenceOn (h:On D):On (D.fence 0):=by
 rw [h.fence];exact ⟨h.off,h.arm,h.err⟩
def On.fenceCur (h:On D):(D.fence 0).cur=D.cur:=by
 rw [h.fence];rfl
def On.zero (n:Nat):On (DS.zero n):=⟨rfl,rfl,rfl⟩
def ib (D:DS) (i:Ins) (p:List Ins):D.run 0 (i::p)=(D.exec 0 i).run 0 p:=rfl
def On.runW:∀(ws:List (Nat×Nat)) (D:DS),On D->(∀x∈ws,x.1%8=0/\x.1<D.n*64)->On (D.run 0 (ws.map wrI))/\(D.run 0 (ws.map wrI)).cur=aF ws D.cur:=by
 intro ws
 induction ws with
 |nil=>intro D h _;exact ⟨h,rfl⟩
 |cons x ws ih=>
  intro D h hv;rw [db,ib];have e:D.exec 0 (wrI x)=D.store 0 x.1 x.2:=rfl;have hx:fa D x.1=true:=by simp [fa,hv x (by simp)]
  rw [e];have hn:=sN D 0 x.1 x.2;have:=ih (D.store 0 x.1 x.2) (h.storeOn _ _ hx) (λy hy=>by rw [hn];exact hv y (by simp [hy]));refine ⟨this.1,?_⟩;rw [this.2,h.storeCur _ _ hx];rfl
def On.runF:∀(ls:List Nat) (D:DS),On D->(∀x∈ls,x<D.n*64)->On (D.run 0 (ls.map flI))/\(D.run 0 (ls.map flI)).cur=D.cur:=by
 intro ls
 induction ls with
 |nil=>intro D h _;exact ⟨h,rfl⟩
 |cons x ls ih=>
  intro D h hv;rw [db,ib];have e:D.exec 0 (flI x)=D.flush 0 x:=rfl;have hx:fM D x=true:=by simp [fM,hv x (by simp)]
  rw [e];have hn:=MJ D 0 x;have:=ih (D.flush 0 x) (h.flushOn _ hx) (λy hy=>by rw [hn];exact hv y (by simp [hy]));exact ⟨this.1,this.2.trans (h.flushCur _ hx)⟩
def abr (d:Array Nat):∀n,n<=d.size->∀x∈kpN d n,x∈d.toList:=by
 intro n
 induction n with
 |zero=>intro _ x hx;simp [kpN] at hx
 |succ n ih=>
  intro hn x hx;simp only [kpN,dl] at hx;rcases hx with hx|hx
  ·exact ih oM x hx
  ·split at hx
   ·simp only [cp] at hx;subst hx;rw [getElem!_pos d n oM];simp
   ·cases hx
def Wf {l:List Nat} {x:Nat} (h:x∈cmpN l):x∈l:=by
 have:=abr l.toArray l.length (by simp) x h;simpa using this
def jM {ws:List (Nat×Nat)} {x:Nat} (h:x∈cmpN (srtN (ws.map λx=>dg x.1))):∃y∈ws,x=dg y.1:=by
 have h1:=Wf h;have h2:=(qz _).mem_iff.1 h1;obtain ⟨y,hy,rfl⟩:=List.mem_map.1 h2;exact ⟨y,hy,rfl⟩
def On.stores (h:On D) (ws:List (Nat×Nat)) (hv:∀x∈ws,x.1%8=0/\x.1<D.n*64):On (D.run 0 (ay ws))/\(D.run 0 (ay ws)).cur=aF ws D.cur:=by
 unfold ay;rw [cX,cX];have h1:=On.runW ws D h hv;have n1:=eV 0 (ws.map wrI) D;have h2:=On.runF (cmpN (srtN (ws.map λx=>dg x.1))) (D.run 0 (ws.map wrI)) h1.1 (λx hx=>by
  obtain ⟨y,hy,rfl⟩:=jM hx;have:=hv y hy;rw [n1];unfold dg;omega)
 refine ⟨h2.1.fenceOn,?_⟩;show (DS.fence _ 0).cur=_;rw [h2.1.fenceCur,h2.2,h1.2]
def bE {ws:List (Nat×Nat)} (h:∀x∈ws,x.1<18446744073709551616/\x.2<18446744073709551616):∀i∈ay ws,okI i:=by
 intro i hi;simp only [ay,dl,eP,cp] at hi;rcases hi with (⟨x,hx,rfl⟩|⟨x,hx,rfl⟩)|rfl
 ·have:=h x hx;exact ⟨by simp [wrI],by simp [wrI],this.1,this.2⟩
 ·obtain ⟨y,hy,rfl⟩:=jM hx;have:=h y hy;exact ⟨by simp [flI],by simp [flI],by simp only [flI,dg];omega,by simp [flI]⟩
 ·exact ⟨by simp,by simp,by simp,by simp⟩
end
def abt (x:Nat) (h:x<4294967296):sealN x%4294967296=x:=by unfold sealN;omega
def uG {x:Nat} (h:x<4294967296):isS (sealN x)=true:=by unfold isS;rw [abt x h];simp
def Cm (x:Nat):gX (sealN x)=gX x:=by unfold gX sealN;omega
def abu (x:Nat):kX (sealN x)=kX x:=by unfold kX sealN;omega
def Cn (x:Nat):sX (sealN x)=sX x:=by unfold sX sealN;omega
def Nb (x:Nat):hC (sealN x)=hC x:=by unfold hC sealN;omega
def Nc (x:Nat):hO (sealN x)=hO x:=by unfold hO sealN;omega
section
variable {g k s:Nat}
def ox (hg:g<65536) (hk:k<256) (hs:s<256):dB g k s<4294967296:=by unfold dB;omega
def jN (hg:g<65536) (hk:k<256) (hs:s<256):isS (sealN (dB g k s))=true:=uG (ox hg hk hs)
def uH (hg:g<65536) (hk:k<256) (hs:s<256):bG (sealN (dB g k s))=g:=by unfold bG;rw [jN hg hk hs,if_pos rfl,Cm];unfold gX dB;omega
def Jy (hg:g<65536) (hk:k<256) (hs:s<256):bK (sealN (dB g k s))=k:=by unfold bK;rw [jN hg hk hs,if_pos rfl,abu];unfold kX dB;omega
def qJ (hg:g<65536) (hk:k<256) (hs:s<256):bS (sealN (dB g k s))=s:=by unfold bS;rw [jN hg hk hs,if_pos rfl,Cn];unfold sX dB;omega
end
section
variable {c o:Int} {g:Nat}
def qK (hc: -1<=c) (b:c<5) (ho: -1<=o) (a:o<8) (hg:g<65536):hdX c o g<4294967296:=by unfold hdX;split<;>omega
def adj (hc:0<=c) (b:c<5) (ho:0<=o) (a:o<8) (hg:g≠0) (d:g<65536):eO (sealN (hdX c o g))=true/\hC (sealN (hdX c o g))=c/\hO (sealN (hdX c o g))=o/\gX (sealN (hdX c o g))=g:=by
 have h1:hC (sealN (hdX c o g))=c:=by rw [Nb];unfold hC hdX;rw [if_pos hc];omega
 have h2:hO (sealN (hdX c o g))=o:=by rw [Nc];unfold hO hdX;rw [if_pos hc];omega
 have h3:gX (sealN (hdX c o g))=g:=by rw [Cm];unfold gX hdX;rw [if_pos hc];omega
 have h4:sX (sealN (hdX c o g))=197:=by rw [Cn];unfold sX hdX;rw [if_pos hc];omega
 refine ⟨?_,h1,h2,h3⟩;unfold eO;rw [h1,h2,h3,h4,uG (qK oM b oM a d)];simp [hg,kG,hc,b,ho,a]
def Cp (hg:g≠0) (a:g<65536):eO (sealN (hdX (-1) (-1) g))=true/\hC (sealN (hdX (-1) (-1) g))= -1/\hO (sealN (hdX (-1) (-1) g))= -1/\gX (sealN (hdX (-1) (-1) g))=g:=by
 have e:hdX (-1) (-1) g=g+3305111552:=by unfold hdX;rw [if_neg oM]
 have h1:hC (sealN (hdX (-1) (-1) g))= -1:=by rw [Nb,e];unfold hC;omega
 have h2:hO (sealN (hdX (-1) (-1) g))= -1:=by rw [Nc,e];unfold hO;omega
 have h3:gX (sealN (hdX (-1) (-1) g))=g:=by rw [Cm,e];unfold gX;omega
 have h4:sX (sealN (hdX (-1) (-1) g))=197:=by rw [Cn,e];unfold sX;omega
 refine ⟨?_,h1,h2,h3⟩;unfold eO;rw [h1,h2,h3,h4,uG (qK oM oM oM oM a)];simp [hg]
end
def Ev {P:Program} (f:Fn) (a c:Array av) (w:ab) (k:av->Prop):rd P (Instr.makeFunc f a c) w k=k (.func f a c):=ai rfl k
def Ew {P:Program} (f:Fn) (a c:Array av) (w:ab) (u:av):ag P (Instr.makeFunc f a c) w u=(Value.func f a c=u):=aT rfl u
def ck (b i:Nat) (w:ab) (k:av->Prop):bw prog (.func (.method "Load") #[.iface 31 (.pointer (some ⟨b,i,none⟩))] #[]) w k=k (.func (.method "Load") #[.iface 31 (.pointer (some ⟨b,i,none⟩))] #[]):=by
 have h:(execOp (fun _=>(.func (.method "Load") #[.iface 31 (.pointer (some ⟨b,i,none⟩))] #[])) S5).run prog w= .ok (.value (.func (.method "Load") #[.iface 31 (.pointer (some ⟨b,i,none⟩))] #[])) w:=by kernel_rfl
 unfold bw;rw [h];simp
abbrev thV (Y:Lay):av:= .iface 31 (.pointer (some ⟨Y.tb 0,0,none⟩))
section
variable {w w':ab} {Y:Lay} {D:DS}
def Wg {b t:Nat} {f:Nat->av} (h:ah w b t 5 f) (v0 v1 v2 v3 v4:av):(((((w.setCell ⟨b,0,none⟩ v0).setCell ⟨b,1,none⟩ v1).setCell ⟨b,2,none⟩ v2).setCell ⟨b,3,none⟩ v3).setCell ⟨b,4,none⟩ v4).cell? ⟨b,0,none⟩=some v0/\(((((w.setCell ⟨b,0,none⟩ v0).setCell ⟨b,1,none⟩ v1).setCell ⟨b,2,none⟩ v2).setCell ⟨b,3,none⟩ v3).setCell ⟨b,4,none⟩ v4).cell? ⟨b,1,none⟩=some v1/\(((((w.setCell ⟨b,0,none⟩ v0).setCell ⟨b,1,none⟩ v1).setCell ⟨b,2,none⟩ v2).setCell ⟨b,3,none⟩ v3).setCell ⟨b,4,none⟩ v4).cell? ⟨b,2,none⟩=some v2/\(((((w.setCell ⟨b,0,none⟩ v0).setCell ⟨b,1,none⟩ v1).setCell ⟨b,2,none⟩ v2).setCell ⟨b,3,none⟩ v3).setCell ⟨b,4,none⟩ v4).cell? ⟨b,3,none⟩=some v3/\(((((w.setCell ⟨b,0,none⟩ v0).setCell ⟨b,1,none⟩ v1).setCell ⟨b,2,none⟩ v2).setCell ⟨b,3,none⟩ v3).setCell ⟨b,4,none⟩ v4).cell? ⟨b,4,none⟩=some v4:=by
 have h3:=((((h.set v0 (i:=0) oM).set v1 (i:=1) oM).set v2 (i:=2) oM).set v3 (i:=3) oM).set v4 (i:=4) oM;exact ⟨h3.cell (i:=0) oM,h3.cell (i:=1) oM,h3.cell (i:=2) oM,h3.cell (i:=3) oM,h3.cell (i:=4) oM⟩
def Cq (h:Dv w Y D) (g:aL D) (hG:bB w) (ho:D.off=false) (he:D.err 0=0) (l:Nat) (hl:l+32<=D.n) (j:eO (wd D l 0)=true) (K:K1)
  (hK:∀w',Ext w w'->K (.tuple #[.agg #[.int .i64 (hC (wd D l 0)),.int .i64 (hO (wd D l 0)),.int .u16 (gX (wd D l 0):Int)],.int .i64 0]) w'):
  ae prog 129 #[thV Y,.int .i64 (l:Int)] w K:=by
 have hn:=g.n;have d:∀(w1:ab) (K:K1),Ext w w1->ae prog 105 #[.pointer (some ⟨Y.tb 0,0,none⟩)] w1 K=K (.int .u64 ((D.n*64:Nat):Int)) w1:=λw1 K e=>lU (h.ext e) g 0 oM K
 have c:∀(w1:ab) (K:K1),Ext w w1->ae prog 28 #[.pointer (some ⟨Y.tb 0,0,none⟩)] w1 K=K (.int .i64 0) w1:=λw1 K e=>by rw [dA (h.ext e) 0 oM K,he]
 have hld:∀(w1:ab) (K:K1),Ext w w1->ae prog 32 #[.pointer (some ⟨Y.tb 0,0,none⟩),.int .u64 ((l*64:Nat):Int)] w1 K=K (.int .u64 (wd D l 0:Int)) w1:=λw1 K e=>by
  rw [gZ (h.ext e) g 0 oM ho (l*64) oM oM K,show l*64/8=l*8+0 by omega];unfold wd;rfl
 have hx:wd D l 0<18446744073709551616:=by unfold wd;exact g.cur _ oM
 have hq:D.n*64/64=D.n:=oM;generalize wd D l 0=x at*;refine yT _ _ _ _ ?_;unfold thV Jl
 (repeat' first|refine am (λ_=> ?_) (λ_=> ?_)|refine ao ?_ ?_|refine gY d c hld hq @cT @aa @Ev @Ew @ck @ck @ck ?_|exact tT d c hld hq @cT @aa @Ev @Ew @ck @ck @ck|fail)
 refine uv x _ _ (hG.ext xZ) hx (λw1 f=> ?_);have e1:Ext w w1:=Ext.trans xZ f;have a:ah w1 w.heap.size 132 3 (λi=> [Value.int .i64 0,.int .i64 0,.int .u16 ((0:Nat):Int)].getD i undef):=by
  have:=(ah.new w [Value.int .i64 0,.int .i64 0,.int .u16 ((0:Nat):Int)] 132);exact this.ext (Ext.trans xZ f)
 have c0:=a.cell (i:=0) oM;have c1:=a.cell (i:=1) oM;have c2:=a.cell (i:=2) oM;have k:=a.lt;rw [j];unfold hdV;have b:=nj a (.int .i64 (hC x)) (.int .i64 (hO x)) (.int .u16 (gX x:Int));have d0:=b.1;have d1:=b.2.1;have d2:=b.2.2.1;have hD:=b.2.2.2;refine zS8 c0 c1 c2 a.frz d0 d1 d2 d2 ?_;exact hK _ xZ
def Jz (h:Dv w Y D) (g:aL D) (hG:bB w) (ho:D.off=false) (he:D.err 0=0) (l:Nat) (hl:l+32<=D.n) (j:eO (wd D l 0)=false) (K:K1)
  (hK:∀w',Ext w w'->K (.tuple #[.agg #[.int .i64 0,.int .i64 0,.int .u16 ((0:Nat):Int)],.int .i64 11]) w'):
  ae prog 129 #[thV Y,.int .i64 (l:Int)] w K:=by
 have hn:=g.n;have d:∀(w1:ab) (K:K1),Ext w w1->ae prog 105 #[.pointer (some ⟨Y.tb 0,0,none⟩)] w1 K=K (.int .u64 ((D.n*64:Nat):Int)) w1:=λw1 K e=>lU (h.ext e) g 0 oM K
 have c:∀(w1:ab) (K:K1),Ext w w1->ae prog 28 #[.pointer (some ⟨Y.tb 0,0,none⟩)] w1 K=K (.int .i64 0) w1:=λw1 K e=>by rw [dA (h.ext e) 0 oM K,he]
 have hld:∀(w1:ab) (K:K1),Ext w w1->ae prog 32 #[.pointer (some ⟨Y.tb 0,0,none⟩),.int .u64 ((l*64:Nat):Int)] w1 K=K (.int .u64 (wd D l 0:Int)) w1:=λw1 K e=>by
  rw [gZ (h.ext e) g 0 oM ho (l*64) oM oM K,show l*64/8=l*8+0 by omega];unfold wd;rfl
 have hx:wd D l 0<18446744073709551616:=by unfold wd;exact g.cur _ oM
 have hq:D.n*64/64=D.n:=oM;generalize wd D l 0=x at*;refine yT _ _ _ _ ?_;unfold thV Jl
 (repeat' first|refine am (λ_=> ?_) (λ_=> ?_)|refine ao ?_ ?_|refine gY d c hld hq @cT @aa @Ev @Ew @ck @ck @ck ?_|exact tT d c hld hq @cT @aa @Ev @Ew @ck @ck @ck|fail)
 refine uv x _ _ (hG.ext xZ) hx (λw1 f=> ?_);have e1:Ext w w1:=Ext.trans xZ f;have a:ah w1 w.heap.size 132 3 (λi=> [Value.int .i64 0,.int .i64 0,.int .u16 ((0:Nat):Int)].getD i undef):=by
  have:=(ah.new w [Value.int .i64 0,.int .i64 0,.int .u16 ((0:Nat):Int)] 132);exact this.ext (Ext.trans xZ f)
 have c0:=a.cell (i:=0) oM;have c1:=a.cell (i:=1) oM;have c2:=a.cell (i:=2) oM;have k:=a.lt;rw [j];unfold hdV;have b:=nj a (.int .i64 0) (.int .i64 0) (.int .u16 ((0:Nat):Int));have d0:=b.1;have d1:=b.2.1;have d2:=b.2.2.1;have hD:=b.2.2.2;refine zS8 c0 c1 c2 a.frz d0 d1 d2 d2 ?_;exact hK _ xZ
abbrev chZ:av:= .agg #[.nilIface,.int .i64 0,.int .i64 0,.int .i64 0,.int .u16 ((0:Nat):Int)]
def oy (h:Dv w Y D) (g:aL D) (hG:bB w) (ho:D.off=false) (he:D.err 0=0) (l:Nat) (hl:l+32<=D.n) (e:eO (wd D l 0)=true) (K:K1)
  (hK:∀w',Ext w w'->K (if hC (wd D l 0)<0 then .tuple #[chZ,.int .i64 8] else .tuple #[chV Y l (hC (wd D l 0)) (hO (wd D l 0)) (gX (wd D l 0)),.int .i64 0]) w'):
  ae prog 75 #[thV Y,.int .i64 (l:Int)] w K:=by
 refine VF _ _ _ _ ?_;unfold thV adg;refine zS0 ?_;refine Cq (h.ext xZ) g (hG.ext xZ) ho he l hl e _ (λw1 d=> ?_);have e1:Ext w w1:=Ext.trans xZ d;have a:ah w1 w.heap.size 134 5 (λi=> [Value.nilIface,.int .i64 0,.int .i64 0,.int .i64 0,.int .u16 ((0:Nat):Int)].getD i undef):=by
  have:=(ah.new w [Value.nilIface,.int .i64 0,.int .i64 0,.int .i64 0,.int .u16 ((0:Nat):Int)] 134);exact this.ext (Ext.trans xZ d)
 have c0:=a.cell (i:=0) oM;have c1:=a.cell (i:=1) oM;have c2:=a.cell (i:=2) oM;have c3:=a.cell (i:=3) oM;have c4:=a.cell (i:=4) oM;have f:=a.lt;by_cases hc:hC (wd D l 0)<0
 ·rw [if_pos hc] at hK;have b:=Wg a .nilIface (.int .i64 0) (.int .i64 0) (.int .i64 0) (.int .u16 ((0:Nat):Int));have d0:=b.1;have d1:=b.2.1;have d2:=b.2.2.1;have d3:=b.2.2.2.1;have d4:=b.2.2.2.2;refine mG c0 c1 c2 c3 c4 a.frz d0 d1 d2 d3 d4 ?_;exact hK _ xZ
 ·rw [if_neg hc] at hK;have c:=Wg a (.iface 31 (.pointer (some ⟨Y.tb 0,0,none⟩))) (.int .i64 (l:Int)) (.int .i64 (hC (wd D l 0))) (.int .i64 (hO (wd D l 0))) (.int .u16 (gX (wd D l 0):Int));have d0:=c.1;have d1:=c.2.1;have d2:=c.2.2.1;have d3:=c.2.2.2.1;have d4:=c.2.2.2.2;refine mG c0 c1 c2 c3 c4 a.frz d0 d1 d2 d3 d4 ?_;exact hK _ xZ
end
def zj {a:Int}:∀{L:List Int} {m m':Nat},onc a L m=some m'->∀i∈L,0<=i/\i<a:=by
 intro L
 induction L with
 |nil=>intro m m' _ i hi;cases hi
 |cons x L ih=>
  intro m m' h i hi;simp only [onc] at h;split at h
  ·rename_i hx;rcases List.mem_cons.1 hi with rfl|hi
   ·exact hx.1
   ·exact ih h i hi
  ·cases h
structure mH (c:Int) (L:List Int) (ks:List Nat) (M:List Int):Prop where
 len:ks.length=L.length
 kin:∀k∈ks,k≠0/\k<=127
 onc:((onc (perS c) L 0).bind (onc (perS c) M)).isSome=true
def mH.vL {c:Int} {L M:List Int} {ks:List Nat} (h:mH c L ks M):∀i∈L,0<=i/\i<perS c:=by
 have:=h.onc
 cases h1:Go.Proofs.YtmpehclnnjgmcaaGreatDoor.onc (perS c) L 0 with
 |none=>rw [h1] at this;cases this
 |some m=>exact zj h1
def mH.vM {c:Int} {L M:List Int} {ks:List Nat} (h:mH c L ks M):∀i∈M,0<=i/\i<perS c:=by
 have:=h.onc
 cases h1:Go.Proofs.YtmpehclnnjgmcaaGreatDoor.onc (perS c) L 0 with
 |none=>rw [h1] at this;cases this
 |some m=>
  rw [h1,cN] at this
  cases h2:Go.Proofs.YtmpehclnnjgmcaaGreatDoor.onc (perS c) M m with
  |none=>rw [h2] at this;cases this
  |some m'=>exact zj h2
section
variable {w w':ab} {Y:Lay} {D:DS} {l:Nat} {c o:Int} {g:Nat}
def Rf (h:Cx w Y D l c) (he:D.err 0=0) (o:Int) (g:Nat) (L M:List Int) (ks:List Nat) (v kv u:av) {m:Nat} (hL:RdS m w v (be L)) (hk:RdS m w kv (u8L ks)) (hM:RdS m w u (be M)) (lL:L.length<1073741824) (lM:M.length<1073741824) (lk:ks.length<1073741824) (F:∀k∈ks,k<256) (K:K1)
  (r:¬mH c L ks M->∀w',Ext w w'->K (.tuple #[.slice none 0 0,.int .i64 1]) w')
  (O:mH c L ks M->iD D l c L ks M=none->∀w',Ext w w'->K (.tuple #[.slice none 0 0,.int .i64 8]) w')
  (H:mH c L ks M->∀ws,iD D l c L ks M=some ws->∀v' w',Ext w w'->bh w.heap.size v'->SlO w' 98 2 v' ws.length (wrL ws)->K (.tuple #[v',.int .i64 0]) w'):ae prog 98 #[chV Y l c o g,v,kv,u] w K:=by
 have y:∀(w1:ab) (K:K1),Ext w w1->ae prog 28 #[.pointer (some ⟨Y.tb 0,0,none⟩)] w1 K=K (.int .i64 0) w1:=λw1 K e=>by rw [dA (h.dv.ext e) 0 oM K,he]
 have l1:(be L).length=L.length:=by simp
 have l2:(be M).length=M.length:=by simp
 have l3:(u8L ks).length=ks.length:=by simp
 obtain ⟨la,lc,rfl,_⟩:=id hL;obtain ⟨ma,mc,rfl,_⟩:=id hM;obtain ⟨ka,kc,rfl,_⟩:=id hk;rw [l1] at hL ⊢;rw [l2] at hM ⊢;rw [l3] at hk ⊢;have e0:Ext w (w.alloc (chO Y l c o g)):=Ext.alloc_self _ _;refine VM _ _ _ _ _ _ ?_;by_cases hln:ks.length=L.length
 ·have hz:((ks.length:Nat):Int)=((L.length:Nat):Int):=oM;have R:∀j,(hj:j<ks.length)->¬(ks[j]≠0/\ks[j]<=127)->∀w',Ext w w'->K (.tuple #[.slice none 0 0,.int .i64 1]) w':=λj hj hn=>r (λha=>hn (ha.kin _ (ch hj)))
  unfold VL;refine zS1 (tz hz) ?_;apply Et (I:=λz w'=>∃j:Nat,z= .int .i64 (j:Int)/\j<=ks.length/\(∀q,(hq:q<ks.length)->q<j->ks[q]≠0/\ks[q]<=127)/\Ext (w.alloc (chO Y l c o g)) w') (μ:=λz _=>ks.length-(intOf z).toNat)
  ·exact ⟨0,rfl,by omega,λq _ h=>by omega,xZ⟩
  ·intros;rename_i w1 hI E1 hE;obtain ⟨j,rfl,hj,C,s⟩:=hI;have e1:Ext w w1:=e0.trans s;obtain ⟨c0,c1,c2,c3,c4⟩:=bz s;by_cases hjl:j<ks.length
   ·obtain ⟨sb,so,sc,A,hc⟩:=(hk.ext e1).get (Cl hjl);injection A with A _ ev2;subst A;subst ev2;have N:=F ks[j] (ch hjl);have t:=R j hjl;have B:(ks[j]≠0/\ks[j]<=127)->∀q,(hq:q<ks.length)->q<j+1->ks[q]≠0/\ks[q]<=127:=by
     intro hh q hq U;by_cases e:q=j
     ·subst e;exact hh
     ·exact C q hq oM
    generalize ks[j]=x at hc N t B;unfold uz;by_cases x0:x=0
    ·subst x0;refine zS1 hc ?_;exact t (by simp) _ e1
    ·by_cases x1:x<=127
     ·refine zS1 hc ?_;apply hE
      ·exact ⟨j+1,by simp,by omega,B ⟨x0,x1⟩,s⟩
      ·simp [intOf];omega
     ·refine zS1 hc ?_;exact t oM _ e1
   ·have P:j=ks.length:=oM;subst P;have G:∀k∈ks,k≠0/\k<=127:=by
     intro k hk;obtain ⟨q,hq,rfl⟩:=List.mem_iff_getElem.1 hk;exact C q hq hq
    unfold uz;refine zS8 c0 c1 c2 c3 c4 @QN @uy.eq_1 @uy.eq_1 ?_;refine afe (h.ext xZ) o g L M _ _ (hL.ext xZ) (hM.ext xZ) oM oM _ _ (by simp (disch:=try exact dZ) only [↓RBp,↓RA,↓reduceIte,Nat.reduceAdd,Nat.reduceMul,Nat.reduceEqDiff,RB,RX,RA2]) (by simp (disch:=try exact dZ) only [↓RBp,↓RA,↓reduceIte,Nat.reduceAdd,Nat.reduceMul,Nat.reduceEqDiff,RB,RX,RA2]) _ (λw2 S=> ?_);have E:Ext w1 w2:=Ext.trans xZ S;have e2:Ext w w2:=e1.trans E;have n:=s.trans E;have d:=bz n;have d0:=d.1;have d1:=d.2.1;have d2:=d.2.2.1;have d3:=d.2.2.2.1;have d4:=d.2.2.2.2
    cases hon:((onc (perS c) L 0).bind (onc (perS c) M)).isSome with
    |false=>
     refine zS0 ?_;exact r (λha=>by have:=ha.onc;rw [hon] at this;cases this) _ e2
    |true=>
     have hA:mH c L ks M:=⟨hln,G,hon⟩;refine eI d0 d1 d2 d3 d4 y ?_;refine Re (h.ext e2) o g L M ks _ _ _ (hL.ext e2) (hk.ext e2) (hM.ext e2) lL lM hln F hA.vL hA.vM _ (λhn w3 a=> ?_) (λws hs v' w3 a J Q=> ?_)
     ·have e3:=e2.trans a;have p:=n.trans a;have i:=bz p;have g0:=i.1;have g1:=i.2.1;have g2:=i.2.2.1;have g3:=i.2.2.2.1;have g4:=i.2.2.2.2;refine eI g0 g1 g2 g3 g4 y ?_;exact O hA hn _ e3
     ·have e3:=e2.trans a;have p:=n.trans a;have f:=bz p;have g0:=f.1;have g1:=f.2.1;have g2:=f.2.2.1;have g3:=f.2.2.2.1;have g4:=f.2.2.2.2;refine eI g0 g1 g2 g3 g4 y ?_;exact H hA ws hs _ _ e3 (λb hb=>cA e2.size (J b hb)) Q
 ·have T:¬((ks.length:Nat):Int)=((L.length:Nat):Int):=oM;unfold VL;refine zS1 (go T) ?_;exact r (λha=>hln ha.len) _ xZ
end
structure Lv (w0 w:ab) (Y:Lay) (D:DS):Prop where
 dv:Dv w Y D
 gd:aL D
 ex:Ext w0 w
 nw:∀x,Y.F x->w0.heap.size<=x
section
variable {w0 w w':ab} {Y Y':Lay} {D D':DS} {a b c g:Nat}
def Lv.ext (h:Lv w0 w Y D) (e:Ext w w'):Lv w0 w' Y D:=⟨h.dv.ext e,h.gd,h.ex.trans e,h.nw⟩
def Ext.frm {F:Nat->Prop} (h:Ext w0 w) (f:Frm F w w') (hF:∀x,F x->w0.heap.size<=x):Ext w0 w':=
 (Frm.trans (F:=Nob) (G:=F) (Frm.of_ext h) f (λx hx hf=>by have:=hF x hf;omega)).to_ext (λ_ _ h=>h)
def Lv.step (h:Lv w0 w Y D) (s:Stp w Y w' Y' D') (g:aL D'):Lv w0 w' Y' D':=by
 refine ⟨s.dv,g,Ext.frm h.ex s.frm h.nw,λx hx=> ?_⟩;rcases s.fr x hx with h1|h1
 ·exact h.nw x h1
 ·exact cA h.ex.size h1
def Lv.frm {G:Nat->Prop} (h:Lv w0 w Y D) (f:Frm G w w') (hG:∀b,G b->b<w0.heap.size):Dv w' Y D:=
 h.dv.frm f (λb hb hg=>by have:=h.nw b hb;have:=hG b hg;omega)
end
def cY {ws:List (Nat×Nat)}:∀{f:Nat->Nat} {x v:Nat},(∀y∈ws,y.1/8=x->y.2=v)->((∃y∈ws,y.1/8=x)\/f x=v)->aF ws f x=v:=by
 induction ws with
 |nil=>
  intro f x v _ h;rcases h with ⟨y,hy,_⟩|h
  ·cases hy
  ·exact h
 |cons z ws ih=>
  intro f x v h1 h2;rw [bR];refine ih (λy hy=>h1 y (by simp [hy])) ?_;by_cases hx:x=z.1/8
  ·right;simp only [hx,if_true];exact h1 z (by simp) hx.symm
  ·rcases h2 with ⟨y,hy,a⟩|h2
   ·rcases List.mem_cons.1 hy with rfl|hy
    ·exact absurd a.symm hx
    ·exact .inl ⟨y,hy,a⟩
   ·right;simp only [hx,if_false];exact h2
def isB (c:Int) (j:Nat):Bool:=(List.range (perS c).toNat).any λi=>offN c i==j
section
variable {l g:Nat} {c o:Int}
end
section
variable {w w':ab} {Y:Lay} {D:DS}
end
def DS.strs (D:DS) (ws:List (Nat×Nat)):DS:=D.run 0 (ws.map wrI)
def Nd {D:DS} (h:On D) {ws:List (Nat×Nat)} (hv:∀x∈ws,x.1%8=0/\x.1<D.n*64):On (D.strs ws)/\(D.strs ws).cur=aF ws D.cur:=On.runW ws D h hv
section
variable {w w':ab} {Y:Lay} {D:DS}
def agE (i:Nat):bc 0 i=false:=by simp [bc]
end
section
variable {w w':ab} {Y Y':Lay} {D D':DS}
def Lv.cx {w0:ab} {l:Nat} {c:Int} (h:Lv w0 w Y D) (hG:bB w0) (on:D.off=false) (hl:l+32<=D.n) (c0:0<=c) (c5:c<5):Cx w Y D l c:=⟨h.dv,h.gd,hG.ext h.ex,on,hl,c0,c5⟩
def jO {x u:av} {j:Nat} (h: [x][j]? =some u):j=0/\u=x:=by
 rcases j with _|j
 ·simp at h;exact ⟨rfl,h.symm⟩
 ·simp at h
end
section
variable {w w':ab} {Y Y':Lay} {D D':DS}
variable {c o:Int} {g:Nat}
end
abbrev pE (p:Nat) (e:Int):av:= .tuple #[.int .u64 (p:Int),.int .i64 e]
def sndB (D:DS) (l:Nat) (c:Int) (i:Nat):Prop:=isS (wd D l (offN c i))=true/\cf (bG (wd D l (offN c i))) (bK (wd D l (offN c i))) (bS (wd D l (offN c i)))=true/\bc (wd D l 1) i= !decide (bS (wd D l (offN c i))=176)
def pOff (l:Nat) (c:Int) (i:Nat):Nat:=l*64+offN c i*8+8
section
variable {w w':ab} {Y:Lay} {D:DS} {l:Nat} {c o:Int} {g:Nat}
def bq1:(true==false)=false:=rfl
def bq2:(false==true)=false:=rfl
def bq3:(true==true)=true:=rfl
def bq4:(false==false)=true:=rfl
def Wh (off g k:Nat) (w:ab) (K:K1) (h0:off≠0) (h8:off%8=0) (ho:off<=34359738360) (hg:g≠0) (b:g<65536) (hk:k≠0) (a:k<=127):ae prog 169 #[.int .u64 (off:Int),.int .u16 (g:Int),.int .u8 (k:Int)] w K=K (.tuple #[.int .u64 ((ptrN off g k:Nat):Int),.int .i64 0]) w:=by
 rw [afa off g k w K oM b oM];have e:uw off g k=true:=by simp [uw,h0,h8,hg,hk,a]
 rw [if_pos ⟨e,ho⟩,if_pos e,if_pos ho]
def Nf {g k:Nat} (h:cf g k 177=true):g≠0/\k≠0/\k<=127:=by simpa [cf,and_assoc] using h
def abv {g k:Nat} (h:cf g k 176=true):g≠0/\k=0:=by simpa [cf] using h
def agF {g k s:Nat} (h:cf g k s=true):s=176\/s=177\/s=178:=by
 unfold cf at h;split at h
 ·exact .inl (by assumption)
 ·split at h
  ·exact .inr (.inl (by assumption))
  ·split at h
   ·exact .inr (.inr (by assumption))
   ·cases h
def zk (h:Cx w Y D l c) (he:D.err 0=0) (o:Int) (g:Nat) (i:Int) (k:Nat) (hk:k<256) (K:K1)
  (hR:¬(0<=i/\i<perS c)->∀w',Ext w w'->K (pE 0 2) w')
  (hF:∀j:Nat,i=(j:Int)->(j:Int)<perS c->¬sndB D l c j->∀w',Ext w w'->K (pE 0 11) w')
  (hS:∀j:Nat,i=(j:Int)->(j:Int)<perS c->sndB D l c j->bS (wd D l (offN c j))=178->∀w',Ext w w'->K (pE 0 12) w')
  (hT:∀j:Nat,i=(j:Int)->(j:Int)<perS c->sndB D l c j->bS (wd D l (offN c j))=177->∀w',Ext w w'->K (pE (ptrN (pOff l c j) (bG (wd D l (offN c j))) (bK (wd D l (offN c j)))) 0) w')
  (hA:∀j:Nat,i=(j:Int)->(j:Int)<perS c->sndB D l c j->bS (wd D l (offN c j))=176->(k=0\/127<k)->∀w',Ext w w'->K (pE 0 1) w')
  (hN:∀j:Nat,i=(j:Int)->(j:Int)<perS c->sndB D l c j->bS (wd D l (offN c j))=176->k≠0->k<=127->∀w',Ext w w'->K (pE (ptrN (pOff l c j) (bG (wd D l (offN c j))) k) 0) w'):
  ae prog 122 #[chV Y l c o g,.int .i64 i,.int .u8 (k:Int)] w K:=by
 have b:∀(w1:ab) (K:K1),Ext w w1->ae prog 28 #[.pointer (some ⟨Y.tb 0,0,none⟩)] w1 K=K (.int .i64 0) w1:=λw1 K e=>by rw [dA (h.dv.ext e) 0 oM K,he]
 have B:=h.at_ o g;have O:=h.hl;have Q:=h.n;have p:=λ(w1:ab) (K:K1) (e:Ext w w1) (hk:∀w',Ext w1 w'->K (.bool (decide (0<=i)&&decide (i<perS c))) w')=>V8 (h.ext e) o g i K hk
 by_cases hi:0<=i/\i<perS c
 ·obtain ⟨j,rfl⟩:∃j:Nat,i=(j:Int):=⟨i.toNat,by omega⟩;have eb:(decide (0<=(j:Int))&&decide ((j:Int)<perS c))=true:=by simp [hi]
  rw [eb] at p;have hF:=hF j rfl hi.2;have hS:=hS j rfl hi.2;have hT:=hT j rfl hi.2;have hA:=hA j rfl hi.2;have hN:=hN j rfl hi.2;have L:=λ(w1:ab) (K:K1) (e:Ext w w1) hk=>qI (h.ext e) o g j hi.2 K hk
  have bd:=aH h.c0 h.c5 hi.2;have z:∀(w1:ab) (K:K1),Ext w w1->ae prog 170 #[chV Y l c o g,.int .i64 (j:Int)] w1 K=K (.int .u64 ((l*64+offN c j*8:Nat):Int)) (w1.alloc (chO Y l c o g)):=λw1 K e=>B w1 j K e hi.2
  have H:=dh (wd D l (offN c j));have P:=We (wd D l (offN c j));unfold sndB pOff at*;clear B;generalize hx:wd D l (offN c j)=x at*;generalize hy:wd D l 1=y at*;generalize offN c j=q at*;have I:Ext w (w.alloc (chO Y l c o g)):=Ext.alloc_self _ _;refine yS _ _ _ _ _ ?_;unfold Jk;refine zS0 ?_;refine p _ _ xZ (λw1 r=> ?_);have e1:Ext w w1:=I.trans r;have t:=bz r;have c0:=t.1;have c1:=t.2.1;have c2:=t.2.2.1;have c3:=t.2.2.2.1;have c4:=t.2.2.2.2;refine eI c0 c1 c2 c3 c4 b ?_;refine L _ _ e1 (λw2 C=> ?_);have e2:Ext w w2:=e1.trans C;have v:=r.trans C;have f:=bz v;have d0:=f.1;have d1:=f.2.1;have d2:=f.2.2.1;have d3:=f.2.2.2.1;have d4:=f.2.2.2.2;have S:w.heap.size<w2.heap.size:=aD d0;have u:∀(ss kk:Nat) (w3:ab),kk≠0->kk<=127->bG x≠0->Ext (w2.alloc (.cells #[.int .u16 (bG x:Int),.int .u8 (bK x:Int),.int .u8 (ss:Int)] 200)) w3->(∀w',Ext w w'->K (pE (ptrN (l*64+q*8+8) (bG x) kk) 0) w')->sP K (.int .i64 (j:Int)) (.int .u8 (kk:Int)) (.pointer (some ⟨w.heap.size,0,none⟩)) (.pointer (some ⟨w2.heap.size,0,none⟩)) w3:=by
   intro ss kk w3 N M J e3 hK;have E:Ext w2 w3:=Ext.trans xZ e3;have R:=e2.trans E;have G:=v.trans E;have d:=bz G;have a0:=d.1;have a1:=d.2.1;have a2:=d.2.2.1;have a3:=d.2.2.2.1;have a4:=d.2.2.2.2;have z0:w3.cell? ⟨w2.heap.size,0,none⟩=some (.int .u16 (bG x:Int)):=by
    rw [e3.cell _ 0 (by simp only [RZ];omega),aV _ _ _ _ _ rfl];rfl
   have T:w2.heap.size<w3.heap.size:=aD z0;have F:∀(w4:ab) (K:K1),ae prog 169 #[.int .u64 ((l*64+q*8+8:Nat):Int),.int .u16 (bG x:Int),.int .u8 (kk:Int)] w4 K=K (.tuple #[.int .u64 ((ptrN (l*64+q*8+8) (bG x) kk:Nat):Int),.int .i64 0]) w4:=λw4 K=>Wh _ _ _ w4 K oM oM oM J H N M
   rw [Jj];unfold yR
   (repeat' first|refine am (λ_=> ?_) (λ_=> ?_)|refine ao ?_ ?_|refine fB a0 a1 a2 a3 a4 z0 z F ?_|exact wR a0 a1 a2 a3 a4 z0 z F|fail)
   exact hK _ xZ
  by_cases t1:isS x=true
  ·by_cases t2:cf (bG x) (bK x) (bS x)=true
   ·rcases agF t2 with s|s|s
    ·have a:=t2;rw [s] at a;by_cases t3:bc y j=true
     ·refine rH d0 d1 d2 d3 d4 b t1 a t3 s @dq @bq1 @bq2 @bq3 @bq4 @bq4 @bq4 @bq4 ?_;exact hF (λhs=>by have:=hs.2.2;simp [t3,s] at this) _ xZ
     ·have t3:bc y j=false:=by simpa using t3
      have m:isS x=true/\cf (bG x) (bK x) (bS x)=true/\bc y j= !decide (bS x=176):=⟨t1,t2,by simp [t3,s]⟩;by_cases k0:k=0
      ·subst k0;refine rH d0 d1 d2 d3 d4 b t1 a t3 s @dq @bq1 @bq2 @bq3 @bq4 @bq4 @bq4 @bq4 ?_;exact hA m s (.inl rfl) _ xZ
      ·by_cases k1:k<=127
       ·refine rH d0 d1 d2 d3 d4 b t1 a t3 s @dq @bq1 @bq2 @bq3 @bq4 @bq4 @bq4 @bq4 ?_;exact u 176 k _ k0 k1 (abv a).1 xZ (hN m s k0 k1)
       ·refine rH d0 d1 d2 d3 d4 b t1 a t3 s @dq @bq1 @bq2 @bq3 @bq4 @bq4 @bq4 @bq4 ?_;exact hA m s (.inr oM) _ xZ
    ·have a:=t2;rw [s] at a;by_cases t3:bc y j=true
     ·have m:isS x=true/\cf (bG x) (bK x) (bS x)=true/\bc y j= !decide (bS x=176):=⟨t1,t2,by simp [t3,s]⟩;have g7:=Nf a;refine rH d0 d1 d2 d3 d4 b t1 a t3 s @dq @bq1 @bq2 @bq3 @bq4 @bq4 @bq4 @bq4 ?_;exact u 177 (bK x) _ g7.2.1 g7.2.2 g7.1 xZ (hT m s)
     ·have t3:bc y j=false:=by simpa using t3
      refine rH d0 d1 d2 d3 d4 b t1 a t3 s @dq @bq1 @bq2 @bq3 @bq4 @bq4 @bq4 @bq4 ?_;exact hF (λhs=>by have:=hs.2.2;simp [t3,s] at this) _ xZ
    ·have a:=t2;rw [s] at a;by_cases t3:bc y j=true
     ·have m:isS x=true/\cf (bG x) (bK x) (bS x)=true/\bc y j= !decide (bS x=176):=⟨t1,t2,by simp [t3,s]⟩;refine rH d0 d1 d2 d3 d4 b t1 a t3 s @dq @bq1 @bq2 @bq3 @bq4 @bq4 @bq4 @bq4 ?_;exact hS m s _ xZ
     ·have t3:bc y j=false:=by simpa using t3
      refine rH d0 d1 d2 d3 d4 b t1 a t3 s @dq @bq1 @bq2 @bq3 @bq4 @bq4 @bq4 @bq4 ?_;exact hF (λhs=>by have:=hs.2.2;simp [t3,s] at this) _ xZ
   ·have a:cf (bG x) (bK x) (bS x)=false:=by simpa using t2
    refine gY d0 d1 d2 d3 d4 b t1 a @dq @dq @dq ?_;exact hF (λhs=>t2 hs.2.1) _ xZ
  ·have A:isS x=false:=by simpa using t1
   refine fB d0 d1 d2 d3 d4 b A A ?_;exact hF (λhs=>t1 hs.1) _ xZ
 ·have eb:(decide (0<=i)&&decide (i<perS c))=false:=by simp;omega
  rw [eb] at p;refine yS _ _ _ _ _ ?_;unfold Jk;refine zS0 ?_;refine p _ _ xZ (λw1 r=> ?_);have e1:Ext w w1:=(Ext.alloc_self _ _).trans r;refine zS0 ?_;exact hR hi _ e1
end
section
variable {w w':ab} {Y:Lay} {D:DS} {l:Nat} {c o:Int} {g:Nat}
def oz {c:Int} (h0:0<=c) (h5:c<5):∃z n:Nat,wordsS c=(z:Int)/\perS c=(n:Int)/\n*(z+1)<=248/\3<=z/\z<=60/\∀k:Nat,offN c k=8+k*(z+1):=by
 have hw:=aN h0 h5;have hp:=aM h0 h5;obtain ⟨z,hz⟩:∃z:Nat,wordsS c=(z:Int):=⟨(wordsS c).toNat,by omega⟩;have e:(248:Int)/((z:Int)+1)=((248/(z+1):Nat):Int):=by
  rw [Int.natCast_ediv];rfl
 refine ⟨z,248/(z+1),hz,by rw [hp.1,hz,e],Nat.div_mul_le_self _ _,by omega,by omega,λk=> ?_⟩;unfold offN mZ;rw [hz];have:(8+(k:Int)*((z:Int)+1))=((8+k*(z+1):Nat):Int):=by simp
 rw [this,aa]
def Wi (hG:bB w) (h0:0<=c) (h5:c<5) (b:Nat) (hw:b<256) (K:K1)
  (d:(∀k:Nat,(k:Int)<perS c->b≠offN c k+1)->K (.tuple #[.int .i64 0,.bool false]) w)
  (g:∀k:Nat,(k:Int)<perS c->b=offN c k+1->K (.tuple #[.int .i64 (k:Int),.bool true]) w):
  ae prog 138 #[.int .i64 c,.int .i64 (b:Int)] w K:=by
 obtain ⟨z,n,hz,hn,i,z3,l,h⟩:=oz h0 h5;have f:=(aN h0 h5).1;rw [hz] at f;have e:∀K:K1,ae prog 135 #[.int .i64 c] w K=K (.int .i64 (n:Int)) w:=λK=>by rw [cy c w K hG,hn]
 have j:0<n:=by have:=aM h0 h5;omega
 refine P1 _ _ _ _ ?_;unfold UQ;rw [hn] at d g;by_cases h8:b<=8
 ·refine zS1 e ?_;exact d (λk hk=>by rw [h];omega)
 ·obtain ⟨a,rfl⟩:∃a,b=a+9:=⟨b-9,by omega⟩;have ea:(((a+9:Nat):Int)-8-1)=(a:Int):=oM;have eb:((z:Int)+1)=((z+1:Nat):Int):=oM;have ec:((a:Nat):Int)%((z+1:Nat):Int)=((a%(z+1):Nat):Int):=oM;have ed:((a:Nat):Int)/((z+1:Nat):Int)=((a/(z+1):Nat):Int):=oM;have dm:=Nat.div_add_mod a (z+1);have key:∀k,a+9=offN c k+1↔a=k*(z+1):=λk=>by rw [h];omega
  by_cases hm:a%(z+1)=0
  ·have hq:a=a/(z+1)*(z+1):=by rw [hm,dn] at dm;omega
   by_cases hl:a/(z+1)<n
   ·simp (disch:=try exact dZ) only [↓RBp,↓RA,↓reduceIte,Nat.reduceAdd,Nat.reduceMul,Nat.reduceEqDiff,RB,RX,RA2,e,hG.pay,<-f,ea,eb,ec,ed,hm];exact g _ oM ((key _).2 hq)
   ·simp (disch:=try exact dZ) only [↓RBp,↓RA,↓reduceIte,Nat.reduceAdd,Nat.reduceMul,Nat.reduceEqDiff,RB,RX,RA2,e,hG.pay,<-f,ea,eb,ec,ed,hm];refine d (λk hk he=> ?_);have h1:=(key k).1 he;apply hl;rw [h1,Nat.mul_div_cancel _ oM];omega
  ·simp (disch:=try exact dZ) only [↓RBp,↓RA,↓reduceIte,Nat.reduceAdd,Nat.reduceMul,Nat.reduceEqDiff,RB,RX,RA2,e,hG.pay,<-f,ea,eb,ec,ed,hm];refine d (λk hk he=> ?_);have h1:=(key k).1 he;apply hm;rw [h1];exact Nat.mul_mod_left _ _
def kI {c:Int} (h0:0<=c) (h5:c<5) {j k:Nat} (h:offN c j=offN c k):j=k:=by
 obtain ⟨z,n,hz,hn,d,z3,b,a⟩:=oz h0 h5;rw [a,a] at h;have:j*(z+1)=k*(z+1):=oM;exact Nat.eq_of_mul_eq_mul_right oM this
def aff (hG:bB w) (h0:0<=c) (h5:c<5) (hl:l<=4096) (Y:Lay) (o:Int) (g off:Nat) (h8:off%8=0) (d:off<18446744073709551616) (K:K1)
  (a:(∀k:Nat,(k:Int)<perS c->off≠pOff l c k)->∀w',Ext w w'->K (.tuple #[.int .i64 0,.bool false]) w')
  (b:∀k:Nat,(k:Int)<perS c->off=pOff l c k->∀w',Ext w w'->K (.tuple #[.int .i64 (k:Int),.bool true]) w'):
  ae prog 130 #[chV Y l c o g,.int .u64 (off:Int)] w K:=by
 have bd:∀k:Nat,(k:Int)<perS c->8<=offN c k/\offN c k<255:=λk hk=>by
  have h1:=aH h0 h5 hk;have h2:=bv h0 h5 (show 0<=(k:Int) by omega) hk;have h3:=aN h0 h5;omega
 unfold pOff at*;refine QR _ _ _ _ ?_;unfold VQ;by_cases h1:off<l*64
 ·refine zS2 @cT @aa ?_;exact a (λk hk=>by have:=bd k hk;omega) _ xZ
 ·obtain ⟨q,rfl⟩:∃q,off=l*64+q*8:=⟨(off-l*64)/8,by omega⟩;have e1:l*64+q*8-l*64=q*8:=oM;have e2:q*8/8=q:=oM;by_cases h2:256<=q
  ·have h3:2048<=q*8:=oM;refine zS4 @cT @aa e1 e2 ?_;exact a (λk hk=>by have:=bd k hk;omega) _ xZ
  ·have h3:¬2048<=q*8:=oM;refine zS4 @cT @aa e1 e2 ?_;refine Wi (hG.ext xZ) h0 h5 q oM _ (λhn=> ?_) (λk hk he=> ?_)
   ·refine zS0 ?_;exact a (λk hk he=>hn k hk oM) _ xZ
   ·refine zS0 ?_;exact b k hk oM _ xZ
end
section
variable {w w':ab} {Y:Lay} {D:DS} {l:Nat} {c o:Int} {g:Nat}
def pO (p:Nat):Nat:=p%4294967296*8
def pG (p:Nat):Nat:=p/4294967296%65536
def pK (p:Nat):Nat:=p/281474976710656%256
def kJ (p:Nat) (w:ab) (K:K1) (hp:p<18446744073709551616):ae prog 73 #[.int .u64 (p:Int)] w K=K (.bool (decide (p=0))) w:=by
 refine au (by kernel_rfl) (UM _ _ _ ?_) K;unfold adb;exact yS0
def eW (p:Nat) (w:ab) (K:K1) (hp:p<18446744073709551616):ae prog 20 #[.int .u64 (p:Int)] w K=K (.int .u64 ((pO p:Nat):Int)) w:=by
 refine au (by kernel_rfl) (UJ _ _ _ ?_) K;unfold ac8 pO;exact yS0
def nm (p:Nat) (w:ab) (K:K1) (hp:p<18446744073709551616):ae prog 132 #[.int .u64 (p:Int)] w K=K (.int .u16 ((pG p:Nat):Int)) w:=by
 refine au (by kernel_rfl) (PZ _ _ _ ?_) K;unfold UO pG;exact yS0
def ge (p:Nat) (w:ab) (K:K1) (hp:p<18446744073709551616):ae prog 60 #[.int .u64 (p:Int)] w K=K (.int .u8 ((pK p:Nat):Int)) w:=by
 refine au (by kernel_rfl) (UL _ _ _ ?_) K;unfold ada pK;exact yS0
abbrev iE (i e:Int):av:= .tuple #[.int .i64 i,.int .i64 e]
def uI (D:DS) (l:Nat) (c:Int) (k gg:Nat):Prop:=isS (wd D l (offN c k))=true/\bc (wd D l 1) k=true/\bS (wd D l (offN c k))=177/\bG (wd D l (offN c k))=gg
def abw (h:Cx w Y D l c) (he:D.err 0=0) (o:Int) (g:Nat) (p:Nat) (hp:p<18446744073709551616) (K:K1)
  (hZ:p=0->∀w',Ext w w'->K (iE 0 1) w')
  (hR:p≠0->(72057594037927936<=p\/∀k:Nat,(k:Int)<perS c->pO p≠pOff l c k)->∀w',Ext w w'->K (iE 0 2) w')
  (hS:p≠0->p<72057594037927936->∀k:Nat,(k:Int)<perS c->pO p=pOff l c k->¬uI D l c k (pG p)->∀w',Ext w w'->K (iE 0 12) w')
  (hW:p≠0->p<72057594037927936->∀k:Nat,(k:Int)<perS c->pO p=pOff l c k->uI D l c k (pG p)->bK (wd D l (offN c k))≠pK p->∀w',Ext w w'->K (iE 0 13) w')
  (hY:p≠0->p<72057594037927936->∀k:Nat,(k:Int)<perS c->pO p=pOff l c k->uI D l c k (pG p)->bK (wd D l (offN c k))=pK p->∀w',Ext w w'->K (iE (k:Int) 0) w'):
  ae prog 76 #[chV Y l c o g,.int .u64 (p:Int)] w K:=by
 have a:∀(w1:ab) (K:K1),Ext w w1->ae prog 28 #[.pointer (some ⟨Y.tb 0,0,none⟩)] w1 K=K (.int .i64 0) w1:=λw1 K e=>by rw [dA (h.dv.ext e) 0 oM K,he]
 have hl:=h.hl;have hn:=h.n;have s:pO p%8=0:=by unfold pO;omega
 have u:pO p<18446744073709551616:=by unfold pO;omega
 have A:pG p<65536:=by unfold pG;omega
 have B:pK p<256:=by unfold pK;omega
 refine VG _ _ _ _ ?_;unfold adh;by_cases p0:p=0
 ·subst p0;refine zS1 @kJ ?_;exact hZ rfl _ xZ
 ·have hR:=hR p0;have hS:=hS p0;have hW:=hW p0;have hY:=hY p0;have e0:Ext w (w.alloc (chO Y l c o g)):=Ext.alloc_self _ _
  (repeat' first|refine am (λ_=> ?_) (λ_=> ?_)|refine ao ?_ ?_|refine fV @kJ @eW p0 ?_|exact Eb @kJ @eW p0|fail)
  refine aff (h.gl.ext xZ) h.c0 h.c5 oM Y o g (pO p) s u _ (λt w1 e1=> ?_) (λk hk j w1 e1=> ?_)
  ·have f:Ext w w1:=Ext.trans xZ e1;refine zS0 ?_;exact hR (.inr t) _ f
  ·have f:Ext w w1:=Ext.trans xZ e1;have ea:Ext (w.alloc (chO Y l c o g)) w1:=Ext.trans xZ e1;have d:=bz ea;have c0:=d.1;have c1:=d.2.1;have c2:=d.2.2.1;have c3:=d.2.2.2.1;have c4:=d.2.2.2.2;have m:p/72057594037927936=0↔p<72057594037927936:=oM;by_cases hp56:p<72057594037927936
   ·have hd0:=m.2 hp56;have hS:=hS hp56 k hk j;have hW:=hW hp56 k hk j;have hY:=hY hp56 k hk j;refine fB c0 c1 c2 c3 c4 a hd0 hd0 ?_;refine qI (h.ext f) o g k hk _ (λw2 e2=> ?_);have E:=f.trans e2;have eb:=ea.trans e2;have b:=bz eb;have d0:=b.1;have d1:=b.2.1;have d2:=b.2.2.1;have d3:=b.2.2.2.1;have d4:=b.2.2.2.2;have C:w.heap.size<w2.heap.size:=aD d0;have v:=dh (wd D l (offN c k));have z:=We (wd D l (offN c k));unfold uI at hS hW hY;generalize wd D l (offN c k)=x at*;generalize wd D l 1=y at*;by_cases t1:isS x=true
    ·by_cases t2:bc y k=true
     ·by_cases t3:bS x=177
      ·by_cases t4:bG x=pG p
       ·have r:isS x=true/\bc y k=true/\bS x=177/\bG x=pG p:=⟨t1,t2,t3,t4⟩;by_cases t5:bK x=pK p
        ·(repeat' first|refine am (λ_=> ?_) (λ_=> ?_)|refine ao ?_ ?_|refine LT d0 d1 d2 d3 d4 a t1 t2 t3 t4 @nm @ge t5 t5 ?_|exact LU d0 d1 d2 d3 d4 a t1 t2 t3 t4 @nm @ge t5 t5|fail)
         exact hY r t5 _ xZ
        ·(repeat' first|refine am (λ_=> ?_) (λ_=> ?_)|refine ao ?_ ?_|refine LT d0 d1 d2 d3 d4 a t1 t2 t3 t4 @nm @ge t5 t5 ?_|exact LU d0 d1 d2 d3 d4 a t1 t2 t3 t4 @nm @ge t5 t5|fail)
         exact hW r t5 _ xZ
       ·(repeat' first|refine am (λ_=> ?_) (λ_=> ?_)|refine ao ?_ ?_|refine gY d0 d1 d2 d3 d4 a t1 t2 t3 t4 @nm ?_|exact tT d0 d1 d2 d3 d4 a t1 t2 t3 t4 @nm|fail)
        exact hS (λhs=>t4 hs.2.2.2) _ xZ
      ·(repeat' first|refine am (λ_=> ?_) (λ_=> ?_)|refine ao ?_ ?_|refine gY d0 d1 d2 d3 d4 a t1 t2 t3 t3 t3 ?_|exact tT d0 d1 d2 d3 d4 a t1 t2 t3 t3 t3|fail)
       exact hS (λhs=>t3 hs.2.2.1) _ xZ
     ·have q:bc y k=false:=by simpa using t2
      (repeat' first|refine am (λ_=> ?_) (λ_=> ?_)|refine ao ?_ ?_|refine fB d0 d1 d2 d3 d4 a t1 q ?_|exact wR d0 d1 d2 d3 d4 a t1 q|fail)
      exact hS (λhs=>t2 hs.2.1) _ xZ
    ·have i:isS x=false:=by simpa using t1
     (repeat' first|refine am (λ_=> ?_) (λ_=> ?_)|refine ao ?_ ?_|refine fB d0 d1 d2 d3 d4 a i i ?_|exact wR d0 d1 d2 d3 d4 a i i|fail)
     exact hS (λhs=>t1 hs.1) _ xZ
   ·have hd0:¬p/72057594037927936=0:=λh=>hp56 (m.1 h)
    refine iB hd0 ?_;exact hR (.inl oM) _ f
end
section
variable {w w':ab} {Y:Lay} {D:DS} {l:Nat} {c o:Int} {g:Nat}
def mskN (D:DS) (l:Nat) (c:Int):Nat->Nat
 |0=>0
 |n+1=>if bS (wd D l (offN c n))=176 then mskN D l c n else mskN D l c n|||2^n
def gdN (D:DS) (l:Nat) (c:Int):Nat->Bool
 |0=>true
 |n+1=>gdN D l c n&&(isS (wd D l (offN c n))&&cf (bG (wd D l (offN c n))) (bK (wd D l (offN c n))) (bS (wd D l (offN c n))))
def Ex (D:DS) (l:Nat):Nat->Bool
 |0=>true
 |n+1=>Ex D l n&&decide (wd D l (n+2)=0)
def Ng (D:DS) (l:Nat) (c:Int):∀n,mskN D l c n<2^n:=by
 intro n
 induction n with
 |zero=>simp [mskN]
 |succ n ih=>
  have h2:2^n<2^(n+1):=fe (by decide) oM;simp only [mskN];split
  ·omega
  ·exact da oM h2
def afg {D:DS} {l:Nat} {c:Int}:∀{n i:Nat},i<n->(isS (wd D l (offN c i))&&cf (bG (wd D l (offN c i))) (bK (wd D l (offN c i))) (bS (wd D l (offN c i))))=false->gdN D l c n=false:=by
 intro n
 induction n with
 |zero=>intro i h;omega
 |succ n ih=>
  intro i h he;simp only [gdN];by_cases e:i=n
  ·subst e;simp only [he,Bool.and_false]
  ·rw [ih (i:=i) oM he];rfl
def abx {D:DS} {l:Nat}:∀{n i:Nat},i<n->wd D l (i+2)≠0->Ex D l n=false:=by
 intro n
 induction n with
 |zero=>intro i h;omega
 |succ n ih=>
  intro i h he;simp only [Ex];by_cases e:i=n
  ·subst e;simp [he]
  ·rw [ih (i:=i) oM he];rfl
def JA (D:DS) (l:Nat) (c o:Int):Bool:=eO (wd D l 0)&&(decide (hC (wd D l 0)=c)&&(decide (hO (wd D l 0)=o)&&(Ex D l 6&&(gdN D l c (perS c).toNat&&decide (wd D l 1=mskN D l c (perS c).toNat)))))
def Cr (h:Cx w Y D l c) (o:Int) (g:Nat) (K:K1) (hK:∀w',Ext w w'->K (.bool (JA D l c o)) w'):
  ae prog 182 #[chV Y l c o g] w K:=by
 have hp:=aM h.c0 h.c5;obtain ⟨n,hn⟩:∃n:Nat,perS c=(n:Int):=⟨(perS c).toNat,by omega⟩;have hl:=h.hl;have a7:=h.n;have ld:∀(w1:ab) (K:K1),Ext w w1->ae prog 32 #[.pointer (some ⟨Y.tb 0,0,none⟩),.int .u64 ((l*64:Nat):Int)] w1 K=K (.int .u64 (wd D l 0:Int)) w1:=λw1 K he=>h.loadE w1 0 K he oM
 have S:=h.wd_lt 0 oM;have e0:Ext w (w.alloc (chO Y l c o g)):=Ext.alloc_self _ _;have no:JA D l c o=false->∀w',Ext w w'->K (.bool false) w':=λhf w' e=>by have:=hK w' e;rw [hf] at this;exact this
 refine Ra _ _ _ ?_;unfold V3;refine fV @cT @aa ld ?_;refine uv (wd D l 0) _ _ (h.gl.ext xZ) S (λw1 e1=> ?_);have ea:Ext (w.alloc (chO Y l c o g)) w1:=Ext.trans xZ e1;have W:=e0.trans ea;have j:=bz ea;have c0:=j.1;have c1:=j.2.1;have c2:=j.2.2.1;have c3:=j.2.2.2.1;have c4:=j.2.2.2.2;have Z:w.heap.size<w1.heap.size:=aD c0;unfold JA at hK no;rw [hn,aa] at hK no
 cases hh:eO (wd D l 0) with
 |false=>
  rw [hh] at no;unfold hdV;refine eI c0 c1 c2 c3 c4 c4 ?_;exact no rfl _ xZ
 |true=>
  by_cases hc:hC (wd D l 0)=c
  ·by_cases ho:hO (wd D l 0)=o
   ·rw [hh,decide_eq_true hc,decide_eq_true ho] at hK no;simp only [bb] at hK no;simp only [if_true];unfold hdV;rw [hc,ho];refine eI c0 c1 c2 c3 c4 c4 ?_;generalize gX (wd D l 0)=gx;have hld:=h.loadE;apply Ci (I:=λz w'=>∃q:Nat,z= .int .u64 ((q+2:Nat):Int)/\q<=6/\Ex D l q=true/\Ext (w.alloc (chO Y l c o g)) w') (μ:=λz _=>8-(intOf z).toNat)
    ·exact ⟨0,rfl,by omega,rfl,xZ⟩
    ·intros;rename_i w2 hI E1 hE;obtain ⟨q,rfl,hq,hz,eb⟩:=hI;have V:=e0.trans eb;have k:=bz eb;have d0:=k.1;have d1:=k.2.1;have d2:=k.2.2.1;have d3:=k.2.2.2.1;have d4:=k.2.2.2.2;unfold ze;by_cases F:q<6
     ·have e8:(q+2)*8+l*64=l*64+(q+2)*8:=oM;by_cases hw0:wd D l (q+2)=0
      ·refine fB d0 d1 d2 d3 d4 hld hw0 hw0 ?_;apply hE
       ·exact ⟨q+1,by simp;omega,by omega,by simp [Ex,hz,hw0],eb⟩
       ·simp [intOf];omega
      ·refine fB d0 d1 d2 d3 d4 hld hw0 hw0 ?_;exact no (by rw [abx F hw0];rfl) _ V
     ·have F:q=6:=oM;subst F;rw [hz] at hK no;simp only [bb] at hK no;have Q:∀(w1:ab) (K:K1),Ext w w1->ae prog 135 #[.int .i64 c] w1 K=K (.int .i64 (n:Int)) w1:=λw1 K he=>by rw [cy c w1 K (h.gl.ext he),hn]
      refine fB d0 d1 d2 d3 d4 Q @Jt @zd.eq_1 ?_;apply Cj (I:=λy z w'=>∃i:Nat,z= .int .i64 (i:Int)/\i<=n/\y= .int .u64 ((mskN D l c i:Nat):Int)/\gdN D l c i=true/\Ext (w.alloc (chO Y l c o g)) w') (μ:=λ_ z _=>n-(intOf z).toNat)
      ·exact ⟨0,rfl,by omega,rfl,rfl,eb⟩
      ·intros;rename_i w3 T E3 O;obtain ⟨i,rfl,hi,rfl,hg,ec⟩:=T;have a3:=e0.trans ec;have f:=bz ec;have q0:=f.1;have q1:=f.2.1;have q2:=f.2.2.1;have q3:=f.2.2.2.1;have q4:=f.2.2.2.2;have a5:w.heap.size<w3.heap.size:=aD q0;by_cases hin:i<n
       ·have bd:=aH h.c0 h.c5 (i:=i) oM;have J:=h.at_ o g;have M:=h.wd_lt (offN c i) bd.2.2;have hm:=Ng D l c i;have L:mskN D l c i<18446744073709551616:=bL hm (by have:=ia (show i<64 by omega);omega);have G:=ia (show i<64 by omega);have P:1*2^i%18446744073709551616=2^i:=by rw [eu];exact cm G
        have a4:=oq L G;have C:gdN D l c (i+1)=(isS (wd D l (offN c i))&&cf (bG (wd D l (offN c i))) (bK (wd D l (offN c i))) (bS (wd D l (offN c i)))):=by simp only [gdN,hg,bb]
        have A:mskN D l c (i+1)=if bS (wd D l (offN c i))=176 then mskN D l c i else mskN D l c i|||2^i:=rfl
        have E:=λhf=>no (by rw [afg (D:=D) (l:=l) (c:=c) hin hf];rfl)
        have B:∀(w1:ab) (K:K1),Ext w w1->ae prog 170 #[chV Y l c o g,.int .i64 (i:Int)] w1 K=K (.int .u64 ((l*64+offN c i*8:Nat):Int)) (w1.alloc (chO Y l c o g)):=λw1 K e=>J w1 i K e oM
        have m:∀(w1:ab) (K:K1),Ext w w1->ae prog 32 #[.pointer (some ⟨Y.tb 0,0,none⟩),.int .u64 ((l*64+offN c i*8:Nat):Int)] w1 K=K (.int .u64 (wd D l (offN c i):Int)) w1:=λw1 K e=>hld w1 _ K e bd.2.2
        have v:∀(w1:ab) (K:K1),Ext w w1->(∀w',Ext w1 w'->K (.tuple #[.agg #[.int .u16 (bG (wd D l (offN c i)):Int),.int .u8 (bK (wd D l (offN c i)):Int),.int .u8 (bS (wd D l (offN c i)):Int)],.bool (isS (wd D l (offN c i)))]) w')->ae prog 176 #[.int .u64 (wd D l (offN c i):Int)] w1 K:=λw1 K e hk=>zi _ w1 K (h.gl.ext e) M hk
        clear J hld;generalize wd D l (offN c i)=x at*;generalize offN c i=qq at*;have p:∀(b:Nat) (w4:ab),w4.cell? ⟨b,0,none⟩=some (.int .u16 (bG x:Int))->w4.cell? ⟨b,1,none⟩=some (.int .u8 (bK x:Int))->w4.cell? ⟨b,2,none⟩=some (.int .u8 (bS x:Int))->Ext (w.alloc (chO Y l c o g)) w4->l8 K E3 (.pointer (some ⟨w.heap.size,0,none⟩)) (.int .u64 ((mskN D l c i:Nat):Int)) (.int .i64 (i:Int)) (.pointer (some ⟨b,0,none⟩)) (.bool (isS x)) (.int .i64 (n:Int)) (.int .i64 (i:Int)) w4:=by
         intro b w4 a0 a1 a2 ed;have a6:=e0.trans ed;have ltb:b<w4.heap.size:=aD a0;rw [Jw];unfold zh;have k3:∀(y:Nat) (w5:ab),Ext w4 w5->gdN D l c (i+1)=true->mskN D l c (i+1)=y->sQ K E3 (.pointer (some ⟨w.heap.size,0,none⟩)) (.int .u64 (y:Int)) (.int .i64 (n:Int)) (.int .i64 (i:Int)) w5:=by
          intro y w5 e5 U R;rw [Jv];unfold zg;refine zS0 ?_;apply O
          ·exact ⟨i+1,by simp,by omega,by rw [R],U,ed.trans e5⟩
          ·simp [intOf];omega
         by_cases t1:isS x=true
         ·by_cases t2:cf (bG x) (bK x) (bS x)=true
          ·rw [t1,t2] at C;by_cases t3:bS x=176
           ·rw [if_pos t3] at A;have u:=t2;rw [t3] at u;refine fB a0 a1 a2 t1 u t3 @dq @dq ?_;exact k3 _ _ xZ C A
           ·rw [if_neg t3] at A;refine fB a0 a1 a2 t1 t2 t3 @dq P ?_;exact k3 _ _ xZ C A
          ·have u:cf (bG x) (bK x) (bS x)=false:=by simpa using t2
           refine eI a0 a1 a2 t1 u @dq ?_;exact E (by rw [t1,u];rfl) _ xZ
         ·have H:isS x=false:=by simpa using t1
          refine wQ a0 a1 a2 H ?_;exact E (by rw [H];rfl) _ xZ
        unfold qG
        (repeat' first|refine am (λ_=> ?_) (λ_=> ?_)|refine ao ?_ ?_|refine fB q0 q1 q2 q3 q4 B m m ?_|exact wR q0 q1 q2 q3 q4 B m m|fail)
        ·refine v _ _ xZ (λw4 e4=> ?_);have d:Ext w3 w4:=Ext.trans xZ e4;have ed:=ec.trans d;have a:=bz ed;have s0:=a.1;have s1:=a.2.1;have s2:=a.2.2.1;have s3:=a.2.2.2.1;have s4:=a.2.2.2.2;have X:w.heap.size<w4.heap.size:=aD s0
         (repeat' first|refine am (λ_=> ?_) (λ_=> ?_)|refine ao ?_ ?_|refine eI s0 s1 s2 s3 s4 s4 ?_|exact abc s0 s1 s2 s3 s4 s4|fail)
         refine p _ _ ?_ ?_ ?_ xZ<;>simp (disch:=try exact dZ) only [↓RBp,↓RA,↓reduceIte,Nat.reduceAdd,Nat.reduceMul,Nat.reduceEqDiff,RB,RX,RA2]
        ·refine v _ _ xZ (λw4 e4=> ?_);have d:Ext w3 w4:=Ext.trans xZ e4;have ed:=ec.trans d;have hC:ah w4 (w3.heap.size+1) 200 3 (λi=> [Value.int .u16 ((0:Nat):Int),.int .u8 ((0:Nat):Int),.int .u8 ((0:Nat):Int)].getD i undef):=by
          have:=(ah.new (w3.alloc (chO Y l c o g)) [Value.int .u16 ((0:Nat):Int),.int .u8 ((0:Nat):Int),.int .u8 ((0:Nat):Int)] 200)
          try rw [size_alloc] at this
          exact this.ext (Ext.trans xZ e4)
         have p0:=hC.cell (i:=0) oM;have p1:=hC.cell (i:=1) oM;have p2:=hC.cell (i:=2) oM;have s:=nj hC (.int .u16 (bG x:Int)) (.int .u8 (bK x:Int)) (.int .u8 (bS x:Int));have r0:=s.1;have r1:=s.2.1;have r2:=s.2.2.1;have hD:=s.2.2.2;refine zS8 p0 p1 p2 hC.frz r0 r1 r2 r2 ?_;exact p _ _ r0 r1 r2 xZ
        ·refine v _ _ xZ (λw4 e4=> ?_);have d:Ext w3 w4:=Ext.trans xZ e4;have ed:=ec.trans d;have hC:ah w4 (w3.heap.size+1) 200 3 (λi=> [Value.int .u16 ((0:Nat):Int),.int .u8 ((0:Nat):Int),.int .u8 ((0:Nat):Int)].getD i undef):=by
          have:=(ah.new (w3.alloc (chO Y l c o g)) [Value.int .u16 ((0:Nat):Int),.int .u8 ((0:Nat):Int),.int .u8 ((0:Nat):Int)] 200)
          try rw [size_alloc] at this
          exact this.ext (Ext.trans xZ e4)
         have p0:=hC.cell (i:=0) oM;have p1:=hC.cell (i:=1) oM;have p2:=hC.cell (i:=2) oM;have t:=nj hC (.int .u16 (bG x:Int)) (.int .u8 (bK x:Int)) (.int .u8 (bS x:Int));have r0:=t.1;have r1:=t.2.1;have r2:=t.2.2.1;have hD:=t.2.2.2;refine zS8 p0 p1 p2 hC.frz r0 r1 r2 r2 ?_;exact p _ _ r0 r1 r2 xZ
        ·refine v _ _ xZ (λw4 e4=> ?_);have d:Ext w3 w4:=Ext.trans xZ e4;have ed:=ec.trans d;have hC:ah w4 (w3.heap.size) 200 3 (λi=> [Value.int .u16 ((0:Nat):Int),.int .u8 ((0:Nat):Int),.int .u8 ((0:Nat):Int)].getD i undef):=by
          have:=(ah.new w3 [Value.int .u16 ((0:Nat):Int),.int .u8 ((0:Nat):Int),.int .u8 ((0:Nat):Int)] 200)
          try rw [size_alloc] at this
          exact this.ext (Ext.trans xZ e4)
         have p0:=hC.cell (i:=0) oM;have p1:=hC.cell (i:=1) oM;have p2:=hC.cell (i:=2) oM;have r:=nj hC (.int .u16 (bG x:Int)) (.int .u8 (bK x:Int)) (.int .u8 (bS x:Int));have r0:=r.1;have r1:=r.2.1;have r2:=r.2.2.1;have hD:=r.2.2.2;refine zS8 p0 p1 p2 hC.frz r0 r1 r2 r2 ?_;exact p _ _ r0 r1 r2 xZ
       ·have:i=n:=oM;subst this;rw [hg] at hK;simp only [bb] at hK;have N:=h.bits o g;unfold qG;refine fB q0 q1 q2 q3 q4 N @Ju @zf.eq_1 ?_;exact hK _ xZ
   ·rw [hh,decide_eq_true hc,decide_eq_false ho] at no;simp only [if_true];unfold hdV;refine fB c0 c1 c2 c3 c4 hc ho ho ?_;exact no rfl _ xZ
  ·rw [hh,decide_eq_false hc] at no;simp only [if_true];unfold hdV;refine eI c0 c1 c2 c3 c4 hc ?_;exact no rfl _ xZ
def aby (h:Cx w Y D l c) (he:D.err 0=0) (o:Int) (g:Nat) (K:K1) (hK:∀w',Ext w w'->K (.int .i64 (if JA D l c o=true then 0 else 11)) w'):
  ae prog 153 #[chV Y l c o g] w K:=by
 have b:∀(w1:ab) (K:K1),Ext w w1->ae prog 28 #[.pointer (some ⟨Y.tb 0,0,none⟩)] w1 K=K (.int .i64 0) w1:=λw1 K e=>by rw [dA (h.dv.ext e) 0 oM K,he]
 refine QY _ _ _ ?_;unfold VW;refine iB b ?_;refine Cr (h.ext xZ) o g _ (λw1 e1=> ?_);have ea:Ext (w.alloc (chO Y l c o g)) w1:=Ext.trans xZ e1;have d:Ext w w1:=(Ext.alloc_self _ _).trans ea;have a:=bz ea;have c0:=a.1;have c1:=a.2.1;have c2:=a.2.2.1;have c3:=a.2.2.2.1;have c4:=a.2.2.2.2
 cases hb:JA D l c o with
 |true=>
  rw [if_pos hb] at hK;refine eI c0 c1 c2 c3 c4 b ?_;exact hK _ xZ
 |false=>
  rw [hb,if_neg (by simp)] at hK;refine eI c0 c1 c2 c3 c4 b ?_;exact hK _ xZ
end
def uJ (x i:Nat):bc x i=x.testBit i:=by unfold bc;rw [Nat.testBit_eq_decide_div_mod_eq]
def nq (x y i:Nat):bc (x|||y) i=(bc x i||bc y i):=by simp only [uJ,Nat.testBit_or]
def me (m i:Nat):bc (2^m) i=decide (m=i):=by rw [uJ,fl]
def Nh (x m i:Nat) (hi:i<64):bc (x&&&(18446744073709551615^^^2^m)) i=(bc x i&& !decide (m=i)):=by
 have h:(18446744073709551615:Nat).testBit i=true:=by
  have:(18446744073709551615:Nat)=2^64-1:=by decide
  rw [this,es];simp [hi]
 simp only [uJ,Nat.testBit_and,f9,h,fl]
 cases x.testBit i<;>cases decide (m=i)<;>rfl
def eQ (L:List Int) (i:Nat):Bool:=L.any λx=>decide (x.toNat=i)
def gy (x:Int) (L:List Int) (i:Nat):eQ (x::L) i=(decide (x.toNat=i)||eQ L i):=rfl
def fO {L:List Int} {i:Nat} (h:eQ L i=true):∃x∈L,x.toNat=i:=by
 unfold eQ at h;rw [fx] at h;obtain ⟨x,hx,he⟩:=h;exact ⟨x,hx,by simpa using he⟩
def gf {L:List Int} {x:Int} (h:x∈L):eQ L x.toNat=true:=by
 unfold eQ;rw [fx];exact ⟨x,h,by simp⟩
def uK {a:Int}:∀{L:List Int} {m m':Nat},onc a L m=some m'->(∀x∈L,bc m x.toNat=false)/\(L.map Int.toNat).Nodup/\∀i,bc m' i=(bc m i||eQ L i):=by
 intro L
 induction L with
 |nil=>intro m m' h;injection h with h;subst h;exact ⟨λx hx=>(by cases hx),by simp,λi=>by simp [eQ]⟩
 |cons x L ih=>
  intro m m' h;simp only [onc] at h;split at h
  ·rename_i hx;obtain ⟨h1,h2,h3⟩:=ih h;refine ⟨λy hy=> ?_,?_,λi=> ?_⟩
   ·rcases List.mem_cons.1 hy with rfl|hy
    ·exact hx.2
    ·have:=h1 y hy;rw [nq] at this;simp at this;exact this.1
   ·rw [db,fF];refine ⟨λhm=> ?_,h2⟩;obtain ⟨y,hy,he⟩:=List.mem_map.1 hm;have:=h1 y hy;rw [nq,he,me] at this;simp at this
   ·rw [h3,nq,me,gy,gi]
  ·cases h
def mH.nd {c:Int} {L M:List Int} {ks:List Nat} (h:mH c L ks M):(L.map Int.toNat).Nodup/\(M.map Int.toNat).Nodup/\∀i,eQ L i=true->eQ M i=false:=by
 have h0:=h.onc
 cases h1:Go.Proofs.YtmpehclnnjgmcaaGreatDoor.onc (perS c) L 0 with
 |none=>rw [h1] at h0;cases h0
 |some m=>
  rw [h1,cN] at h0
  cases h2:Go.Proofs.YtmpehclnnjgmcaaGreatDoor.onc (perS c) M m with
  |none=>rw [h2] at h0;cases h0
  |some m'=>
   obtain ⟨a1,a2,a3⟩:=uK h1;obtain ⟨b1,b2,b3⟩:=uK h2;refine ⟨a2,b2,λi hi=> ?_⟩
   cases hM:eQ M i with
   |false=>rfl
   |true=>
    obtain ⟨x,hx,rfl⟩:=fO hM;have:=b1 x hx;rw [a3,hi] at this;simp at this
def iF (D:DS) (l:Nat) (c:Int):List Int->List Nat->List (Nat×Nat)
 |x::L,k::ks=>tkW D l c x.toNat k::iF D l c L ks
 |_,_=> []
def orL (L:List Int) (b:Nat):Nat:=L.foldl (λb x=>b|||2^x.toNat) b
def dpL (D:DS) (l:Nat) (c:Int) (L:List Int) (b:Nat):Nat:=L.foldl (λb x=>dpB D l c x.toNat b) b
def oB (x:Int) (L:List Int) (b:Nat):orL (x::L) b=orL L (b|||2^x.toNat):=f7 ..
def oC (D:DS) (l:Nat) (c:Int) (x:Int) (L:List Int) (b:Nat):dpL D l c (x::L) b=dpL D l c L (dpB D l c x.toNat b):=f7 ..
def kOf:List Int->List Nat->Nat->Option Nat
 |x::L,k::ks,i=>if x.toNat=i then some k else kOf L ks i
 |_,_,_=>none
section
variable {D:DS} {l:Nat} {c o:Int}
def Wj:∀{L:List Int} {ks:List Nat} {a:List (Nat×Nat)} {b:Nat} {r:List (Nat×Nat)×Nat},ks.length=L.length->chT D l c L ks a b=some r->(∀x∈L,tkOk D l c x.toNat=true)/\r.1=a++iF D l c L ks/\r.2=orL L b:=by
 intro L
 induction L with
 |nil=>
  intro ks a b r hk h;have:ks= []:=by simpa using hk
  subst this;simp only [chT] at h;injection h with h;subst h;exact ⟨λx hx=>(by cases hx),by simp [iF],rfl⟩
 |cons x L ih=>
  intro ks a b r hk h
  cases ks with
  |nil=>simp at hk
  |cons k ks=>
   simp only [chT] at h;split at h
   ·rename_i hx;obtain ⟨h1,h2,h3⟩:=ih (by simpa using hk) h;refine ⟨λy hy=> ?_,?_,by rw [oB];exact h3⟩
    ·rcases List.mem_cons.1 hy with rfl|hy
     ·exact hx
     ·exact h1 y hy
    ·rw [h2,iF,cw];rfl
   ·cases h
def Rg:∀{M:List Int} {a:List (Nat×Nat)} {b:Nat} {r:List (Nat×Nat)×Nat},kf D l c M a b=some r->(∀x∈M,dpOk D l c x.toNat=true)/\r.1=a++M.map (λx=>dpW D l c x.toNat)/\r.2=dpL D l c M b:=by
 intro M
 induction M with
 |nil=>intro a b r h;simp only [kf] at h;injection h with h;subst h;exact ⟨λx hx=>(by cases hx),by simp,rfl⟩
 |cons x M ih=>
  intro a b r h;simp only [kf] at h;split at h
  ·rename_i hx;obtain ⟨h1,h2,h3⟩:=ih h;refine ⟨λy hy=> ?_,?_,by rw [oC];exact h3⟩
   ·rcases List.mem_cons.1 hy with rfl|hy
    ·exact hx
    ·exact h1 y hy
   ·rw [h2,db,cw];rfl
  ·cases h
def abz:∀(L:List Int) (b i:Nat),bc (orL L b) i=(bc b i||eQ L i):=by
 intro L
 induction L with
 |nil=>intro b i;simp [orL,eQ]
 |cons x L ih=>intro b i;rw [oB,ih,nq,me,gy,gi]
def abA:∀(M:List Int) (b i:Nat),i<64->bc (dpL D l c M b) i=(bc b i&& !(eQ M i&&decide (freS (bG (wd D l (offN c i)))=176))):=by
 intro M
 induction M with
 |nil=>intro b i _;simp [dpL,eQ]
 |cons x M ih=>
  intro b i hi;rw [oC,ih _ _ hi,gy];unfold dpB;by_cases hx:x.toNat=i
  ·rw [hx];by_cases hf:freS (bG (wd D l (offN c i)))=176
   ·rw [if_pos hf,Nh _ _ _ hi];simp [hf]
   ·rw [if_neg hf];simp [hf]
  ·rw [decide_eq_false hx,gj];split
   ·rw [Nh _ _ _ hi,decide_eq_false hx];simp
   ·rfl
def afh:∀(L:List Int) (b:Nat),(∀x∈L,x.toNat<64)->b<18446744073709551616->orL L b<18446744073709551616:=by
 intro L
 induction L with
 |nil=>intro b _ h;exact h
 |cons x L ih=>intro b hx h;rw [oB];exact ih _ (λy hy=>hx y (by simp [hy])) (oq h (ia (hx x (by simp))))
def afi:∀(M:List Int) (b:Nat),b<18446744073709551616->dpL D l c M b<18446744073709551616:=by
 intro M
 induction M with
 |nil=>intro b h;exact h
 |cons x M ih=>
  intro b h;rw [oC];refine ih _ ?_;unfold dpB;split
  ·exact ct eC h
  ·exact h
def Ey:∀{L:List Int} {ks:List Nat} {y:Nat×Nat},y∈iF D l c L ks->∃x∈L,∃k∈ks,y=tkW D l c x.toNat k/\((L.map Int.toNat).Nodup->kOf L ks x.toNat=some k):=by
 intro L
 induction L with
 |nil=>intro ks y h;simp [iF] at h
 |cons x L ih=>
  intro ks y h
  cases ks with
  |nil=>simp [iF] at h
  |cons k ks=>
   simp only [iF,List.mem_cons] at h;rcases h with rfl|h
   ·exact ⟨x,by simp,k,by simp,rfl,λ_=>by simp [kOf]⟩
   ·obtain ⟨x',a,k',b,rfl,e⟩:=ih h;refine ⟨x',by simp [a],k',by simp [b],rfl,λhn=> ?_⟩;rw [db,fF] at hn;have d:¬x.toNat=x'.toNat:=λhe=>hn.1 (by rw [he];exact List.mem_map.2 ⟨x',a,rfl⟩)
    rw [kOf,if_neg d];exact e hn.2
def Cs:∀{L:List Int} {ks:List Nat} {i k:Nat},kOf L ks i=some k->tkW D l c i k∈iF D l c L ks/\eQ L i=true/\k∈ks:=by
 intro L
 induction L with
 |nil=>intro ks i k h;simp [kOf] at h
 |cons x L ih=>
  intro ks i k h
  cases ks with
  |nil=>simp [kOf] at h
  |cons k' ks=>
   simp only [kOf] at h;split at h
   ·rename_i hx;injection h with h;subst h;subst hx;exact ⟨by simp [iF],by simp [gy],by simp⟩
   ·obtain ⟨h1,h2,h3⟩:=ih h;exact ⟨by simp [iF,h1],by simp [gy,h2],by simp [h3]⟩
def Ez:∀{L:List Int} {ks:List Nat} {i:Nat},ks.length=L.length->kOf L ks i=none->eQ L i=false:=by
 intro L
 induction L with
 |nil=>intro ks i _ _;rfl
 |cons x L ih=>
  intro ks i hk h
  cases ks with
  |nil=>simp at hk
  |cons k' ks=>
   simp only [kOf] at h;split at h
   ·cases h
   ·rename_i hx;rw [gy,decide_eq_false hx,gj];exact ih (by simpa using hk) h
def Ct (D:DS) (l:Nat) (c:Int) (L:List Int) (ks:List Nat) (M:List Int) (i:Nat):Nat:=
 match kOf L ks i with
 |some k=>(tkW D l c i k).2
 |none=>if eQ M i=true then (dpW D l c i).2 else wd D l (offN c i)
def mg {L M:List Int} {ks:List Nat} {ws:List (Nat×Nat)} (hk:ks.length=L.length) (h:iD D l c L ks M=some ws):(∀x∈L,tkOk D l c x.toNat=true)/\(∀x∈M,dpOk D l c x.toNat=true)/\((ws= []/\L= []/\M= [])\/ws=iF D l c L ks++M.map (λx=>dpW D l c x.toNat)++ [(l*64+8,dpL D l c M (orL L (wd D l 1)))]):=by
 unfold iD at h;split at h
 ·rename_i h0;injection h with h;have e1:L= []:=by simpa using h0.1
  have e2:M= []:=by simpa using h0.2
  subst e1;subst e2;exact ⟨λx hx=>(by cases hx),λx hx=>(by cases hx),.inl ⟨h.symm,rfl,rfl⟩⟩
 ·cases h1:chT D l c L ks [] (wd D l 1) with
  |none=>rw [h1] at h;cases h
  |some r=>
   obtain ⟨a1,a2,a3⟩:=Wj hk h1;obtain ⟨r1,r2⟩:=r;rw [h1] at h;simp only at h a2 a3
   cases h2:kf D l c M r1 r2 with
   |none=>rw [h2] at h;cases h
   |some q=>
    obtain ⟨b1,b2,b3⟩:=Rg h2;obtain ⟨q1,q2⟩:=q;rw [h2] at h;simp only at h b2 b3;injection h with h;refine ⟨a1,b1,.inr ?_⟩;rw [<-h,b2,b3,a2,a3,List.nil_append]
end
structure afj (D D':DS) (l:Nat) (c:Int) (L:List Int) (ks:List Nat) (M:List Int) (ws:List (Nat×Nat)):Prop where
 ok:∀x∈ws,x.1%8=0/\x.1<D.n*64/\x.2<18446744073709551616
 on:On D'
 rest:∀j,j<256->(∀i:Nat,(i:Int)<perS c->j≠offN c i)->j≠1->wd D' l j=wd D l j
 blk:∀i:Nat,(i:Int)<perS c->wd D' l (offN c i)=Ct D l c L ks M i
 map:wd D' l 1=dpL D l c M (orL L (wd D l 1))
 far:∀j,(j<l*8\/l*8+256<=j)->D'.cur j=D.cur j
 len:ws.length<=L.length+M.length+1
 tk:∀x∈L,tkOk D l c x.toNat=true
 dp:∀x∈M,dpOk D l c x.toNat=true
def afk {D:DS} {l:Nat} {c:Int} (on:On D) (hg:aL D) (hl:l+32<=D.n) (c0:0<=c) (c5:c<5) {L M:List Int} {ks:List Nat} {ws:List (Nat×Nat)} (ha:mH c L ks M) (hs:iD D l c L ks M=some ws):afj D (D.strs ws) l c L ks M ws:=by
 have hn:=hg.n;have hp:=aM c0 c5;obtain ⟨h1,h2,h3⟩:=mg ha.len hs;have vL:=ha.vL;have vM:=ha.vM;obtain ⟨n1,n2,n3⟩:=ha.nd;have p:wd D l 1<18446744073709551616:=by unfold wd;exact hg.cur _ oM
 have zl:∀(L:List Int) (ks:List Nat),(iF D l c L ks).length<=L.length:=by
  intro L
  induction L with
  |nil=>intro ks;simp [iF]
  |cons x L ih=>intro ks;cases ks with
   |nil=>simp [iF]
   |cons k ks=>simp only [iF,List.length_cons];have:=ih ks;omega
 have b:∀x∈L,∀k∈ks,(tkW D l c x.toNat k).1=l*64+offN c x.toNat*8/\(tkW D l c x.toNat k).2<18446744073709551616:=λx hx k hk=>⟨rfl,fN _ (ox (dh _) (by have:=(ha.kin k hk).2;omega) oM)⟩
 have f:∀x∈M,(dpW D l c x.toNat).1=l*64+offN c x.toNat*8/\(dpW D l c x.toNat).2<18446744073709551616:=λx hx=>⟨rfl,fN _ (ox (l9 (dh _)) oM (md _))⟩
 have a:∀x:Int,0<=x/\x<perS c->8<=offN c x.toNat/\offN c x.toNat<256/\(x.toNat:Int)<perS c:=λx hx=>by
  have:=aH c0 c5 (i:=x.toNat) oM;omega
 have mem:∀y∈ws,(∃x∈L,∃k∈ks,y=tkW D l c x.toNat k/\kOf L ks x.toNat=some k)\/(∃x∈M,y=dpW D l c x.toNat)\/y=(l*64+8,dpL D l c M (orL L (wd D l 1))):=by
  intro y hy;rcases h3 with ⟨rfl,_⟩|rfl
  ·cases hy
  ·simp only [dl,eP,cp] at hy;rcases hy with (hy|⟨x,hx,rfl⟩)|rfl
   ·obtain ⟨x,hx,k,hk,e,hf⟩:=Ey hy;exact .inl ⟨x,hx,k,hk,e,hf n1⟩
   ·exact .inr (.inl ⟨x,hx,rfl⟩)
   ·exact .inr (.inr rfl)
 have ok:∀x∈ws,x.1%8=0/\x.1<D.n*64/\x.2<18446744073709551616:=by
  intro y hy;rcases mem y hy with ⟨x,hx,k,hk,rfl,_⟩|⟨x,hx,rfl⟩|rfl
  ·have:=b x hx k hk;have:=a x (vL x hx);omega
  ·have:=f x hx;have:=a x (vM x hx);omega
  ·exact ⟨by simp only;omega,by simp only;omega,afi _ _ (afh _ _ (λx hx=>by have:=vL x hx;omega) p)⟩
 obtain ⟨o1,o2⟩:=Nd on (λx hx=>⟨(ok x hx).1,(ok x hx).2.1⟩);refine ⟨ok,o1,λj hj o q=> ?_,λi hi=> ?_,?_,λj hj=> ?_,?_,h1,h2⟩
 ·unfold wd;rw [o2];refine bu _ _ _ (λy hy=> ?_);rcases mem y hy with ⟨x,hx,k,hk,rfl,_⟩|⟨x,hx,rfl⟩|rfl
  ·have h4:=a x (vL x hx);have:=o _ h4.2.2;rw [(b x hx k hk).1];omega
  ·have h4:=a x (vM x hx);have:=o _ h4.2.2;rw [(f x hx).1];omega
  ·simp only;omega
 ·have bd:=aH c0 c5 hi;have g:∀x:Int,0<=x/\x<perS c->l*64+offN c x.toNat*8=(l*8+offN c i)*8->x.toNat=i:=λx hx he=>kI c0 c5 oM
  unfold wd;rw [o2];unfold Ct
  cases hk:kOf L ks i with
  |some k=>
   obtain ⟨k1,k2,k3⟩:=Cs (D:=D) (l:=l) (c:=c) hk;have hm:=n3 i k2;refine cY (λy hy he=> ?_) (.inl ⟨tkW D l c i k,?_,by show (l*64+offN c i*8)/8=_;omega⟩)
   ·rcases mem y hy with ⟨x,hx,k',d,rfl,hf⟩|⟨x,hx,rfl⟩|rfl
    ·have:=g x (vL x hx) (by rw [(b x hx k' d).1] at he;omega);subst this;rw [hk] at hf;injection hf with hf;subst hf;rfl
    ·have:=g x (vM x hx) (by rw [(f x hx).1] at he;omega);subst this;rw [gf hx] at hm;cases hm
    ·simp only at he;omega
   ·rcases h3 with ⟨_,e,_⟩|rfl
    ·rw [e] at k2;cases k2
    ·simp [k1]
  |none=>
   have h:=Ez ha.len hk;by_cases hm:eQ M i=true
   ·rw [if_pos hm];obtain ⟨x0,m,e0⟩:=fO hm;refine cY (λy hy he=> ?_) (.inl ⟨dpW D l c i,?_,by show (l*64+offN c i*8)/8=_;omega⟩)
    ·rcases mem y hy with ⟨x,hx,k',d,rfl,hf⟩|⟨x,hx,rfl⟩|rfl
     ·have:=g x (vL x hx) (by rw [(b x hx k' d).1] at he;omega);subst this;rw [gf hx] at h;cases h
     ·have:=g x (vM x hx) (by rw [(f x hx).1] at he;omega);subst this;rfl
     ·simp only at he;omega
    ·rcases h3 with ⟨_,_,e⟩|rfl
     ·rw [e] at m;cases m
     ·have:dpW D l c i∈M.map (λx=>dpW D l c x.toNat):=List.mem_map.2 ⟨x0,m,by rw [e0]⟩;simp only [dl];exact .inl (.inr this)
   ·rw [if_neg hm];unfold wd;refine bu _ _ _ (λy hy he=> ?_);rcases mem y hy with ⟨x,hx,k',d,rfl,hf⟩|⟨x,hx,rfl⟩|rfl
    ·have:=g x (vL x hx) (by rw [(b x hx k' d).1] at he;omega);subst this;rw [gf hx] at h;cases h
    ·have:=g x (vM x hx) (by rw [(f x hx).1] at he;omega);subst this;exact hm (gf hx)
    ·simp only at he;omega
 ·rcases h3 with ⟨rfl,rfl,rfl⟩|e
  ·unfold wd;rw [o2];rfl
  ·have:wd (D.strs ws) l 1=aF ws D.cur (l*8+1):=by unfold wd;rw [o2]
   rw [this];refine cY (λy hy he=> ?_) (.inl ⟨(l*64+8,dpL D l c M (orL L (wd D l 1))),by rw [e];simp,by simp only;omega⟩);rcases mem y hy with ⟨x,hx,k',d,rfl,hf⟩|⟨x,hx,rfl⟩|rfl
   ·have h4:=a x (vL x hx);rw [(b x hx k' d).1] at he;omega
   ·have h4:=a x (vM x hx);rw [(f x hx).1] at he;omega
   ·rfl
 ·rw [o2];refine bu _ _ _ (λy hy=> ?_);rcases mem y hy with ⟨x,hx,k,hk,rfl,_⟩|⟨x,hx,rfl⟩|rfl
  ·have h4:=a x (vL x hx);rw [(b x hx k hk).1];omega
  ·have h4:=a x (vM x hx);rw [(f x hx).1];omega
  ·simp only;omega
 ·rcases h3 with ⟨rfl,_⟩|rfl
  ·simp
  ·have:=zl L ks;simp;omega
structure Snd (D:DS) (l:Nat) (c o:Int):Prop where
 hd:eO (wd D l 0)=true
 hc:hC (wd D l 0)=c
 ho:hO (wd D l 0)=o
 zer:∀j,2<=j->j<8->wd D l j=0
 sl:∀i:Nat,(i:Int)<perS c->isS (wd D l (offN c i))=true
 gd:∀i:Nat,(i:Int)<perS c->cf (bG (wd D l (offN c i))) (bK (wd D l (offN c i))) (bS (wd D l (offN c i)))=true
 bit:∀i:Nat,i<64->bc (wd D l 1) i=(decide ((i:Int)<perS c)&& !decide (bS (wd D l (offN c i))=176))
section
variable {D D':DS} {l:Nat} {c o:Int}
def Wk {g k s:Nat} (h:cf g k s=true):g≠0:=by
 unfold cf at h;split at h
 ·simp at h;exact h.1
 ·split at h
  ·simp at h;exact h.1.1
  ·split at h
   ·simp at h;omega
   ·cases h
def Wl (g:Nat):cf (freG g) 0 (freS g)=true:=by
 unfold freG freS cf;by_cases h:g=65535
 ·simp [h]
 ·simp [h]
def Wn {i:Nat} (h:tkOk D l c i=true):isS (wd D l (offN c i))=true/\bc (wd D l 1) i=false/\bS (wd D l (offN c i))=176/\cf (bG (wd D l (offN c i))) (bK (wd D l (offN c i))) (bS (wd D l (offN c i)))=true:=by
 unfold tkOk at h;simp only [cj,ej,decide_eq_true_eq] at h;exact h
def Wo {i:Nat} (h:dpOk D l c i=true):isS (wd D l (offN c i))=true/\bc (wd D l 1) i=true/\bS (wd D l (offN c i))=177:=by
 unfold dpOk at h;simp only [cj,decide_eq_true_eq] at h;exact h
def mi (i k:Nat) (hk:k<256):isS (tkW D l c i k).2=true/\bG (tkW D l c i k).2=bG (wd D l (offN c i))/\bK (tkW D l c i k).2=k/\bS (tkW D l c i k).2=177:=⟨jN (dh _) hk oM,uH (dh _) hk oM,Jy (dh _) hk oM,qJ (dh _) hk oM⟩
def mj (i:Nat):isS (dpW D l c i).2=true/\bG (dpW D l c i).2=freG (bG (wd D l (offN c i)))/\bK (dpW D l c i).2=0/\bS (dpW D l c i).2=freS (bG (wd D l (offN c i))):=⟨jN (l9 (dh _)) oM (md _),uH (l9 (dh _)) oM (md _),Jy (l9 (dh _)) oM (md _),qJ (l9 (dh _)) oM (md _)⟩
def Snd.act {L M:List Int} {ks:List Nat} {ws:List (Nat×Nat)} (h:Snd D l c o) (c0:0<=c) (c5:c<5) (ha:mH c L ks M) (e:afj D D' l c L ks M ws):Snd D' l c o:=by
 have bd:=λ(i:Nat) (hi:(i:Int)<perS c)=>aH c0 c5 hi
 have r:∀j,j<8->j≠1->wd D' l j=wd D l j:=λj hj h1=>e.rest j oM (λi hi=>by have:=bd i hi;omega) h1
 have r0:=r 0 oM oM;obtain ⟨n1,n2,n3⟩:=ha.nd;have kk:∀{i k:Nat},kOf L ks i=some k->k≠0/\k<=127/\tkOk D l c i=true/\eQ L i=true/\eQ M i=false:=λ{i k} hk=>by
  obtain ⟨k1,k2,k3⟩:=Cs (D:=D) (l:=l) (c:=c) hk;obtain ⟨x,hx,rfl⟩:=fO k2;exact ⟨(ha.kin k k3).1,(ha.kin k k3).2,e.tk x hx,k2,n3 _ k2⟩
 have mm:∀{i:Nat},eQ M i=true->dpOk D l c i=true:=λ{i} hm=>by obtain ⟨x,hx,rfl⟩:=fO hm;exact e.dp x hx
 refine ⟨by rw [r0];exact h.hd,by rw [r0];exact h.hc,by rw [r0];exact h.ho,λj h2 h8=>by rw [r j h8 oM];exact h.zer j h2 h8,λi hi=> ?_,λi hi=> ?_,λi f=> ?_⟩
 ·rw [e.blk i hi];unfold Ct
  cases hk:kOf L ks i with
  |some k=>exact (mi i k (by have:=kk hk;omega)).1
  |none=>
   simp only;split
   ·exact (mj i).1
   ·exact h.sl i hi
 ·rw [e.blk i hi];unfold Ct
  cases hk:kOf L ks i with
  |some k=>
   have h1:=kk hk;obtain ⟨_,a,b,d⟩:=mi (D:=D) (l:=l) (c:=c) i k oM;simp only [a,b,d];have hg:=Wk (Wn h1.2.2.1).2.2.2;simp [cf,hg,h1.1,h1.2.1]
  |none=>
   simp only;split
   ·obtain ⟨_,a,b,d⟩:=mj (D:=D) (l:=l) (c:=c) i;rw [a,b,d];exact Wl _
   ·exact h.gd i hi
 ·rw [e.map,abA _ _ _ f,abz,h.bit i f];by_cases hi:(i:Int)<perS c
  ·rw [e.blk i hi,decide_eq_true hi];unfold Ct
   cases hk:kOf L ks i with
   |some k=>
    have h1:=kk hk;simp only [h1.2.2.2.1,h1.2.2.2.2,(mi (D:=D) (l:=l) (c:=c) i k oM).2.2.2];simp
   |none=>
    have hL:=Ez ha.len hk;simp only [hL];by_cases hm:eQ M i=true
    ·have h1:=Wo (mm hm);have h2:=h.bit i f;rw [h1.2.1,decide_eq_true hi,bb] at h2;simp only [hm,if_true,(mj (D:=D) (l:=l) (c:=c) i).2.2.2,<-h2];simp
    ·have hm:eQ M i=false:=by simpa using hm
     simp [hm]
  ·have hL:eQ L i=false:=by
    cases hh:eQ L i with
    |false=>rfl
    |true=>obtain ⟨x,hx,rfl⟩:=fO hh;have:=ha.vL x hx;omega
   have hM:eQ M i=false:=by
    cases hh:eQ M i with
    |false=>rfl
    |true=>obtain ⟨x,hx,rfl⟩:=fO hh;have:=ha.vM x hx;omega
   simp [hL,hM,hi]
def Wp:∀(n i:Nat),bc (mskN D l c n) i=(decide (i<n)&& !decide (bS (wd D l (offN c i))=176)):=by
 intro n
 induction n with
 |zero=>intro i;simp [mskN,bc]
 |succ n ih=>
  intro i;simp only [mskN];by_cases hin:i=n
  ·subst hin;split
   ·rename_i h;rw [ih];simp [h]
   ·rename_i h;rw [nq,ih,me];simp [h]
  ·have e1:decide (i<n+1)=decide (i<n):=by congr 1;simp only [eq_iff_iff];omega
   have e2:decide (n=i)=false:=by simp;omega
   split
   ·rw [ih,e1]
   ·rw [nq,ih,me,e1,e2,Bool.or_false]
def JB {x y:Nat} (hx:x<18446744073709551616) (hy:y<18446744073709551616) (h:∀i,i<64->bc x i=bc y i):x=y:=by
 apply fk;intro i;by_cases hi:i<64
 ·have:=h i hi;rwa [uJ,uJ] at this
 ·have p:2^64<=2^i:=fi oM oM;rw [dj (bL hx (by simpa using p)),dj (bL hy (by simpa using p))]
def abB:∀(n:Nat),(∀i,i<n->isS (wd D l (offN c i))=true/\cf (bG (wd D l (offN c i))) (bK (wd D l (offN c i))) (bS (wd D l (offN c i)))=true)->gdN D l c n=true:=by
 intro n
 induction n with
 |zero=>intro _;rfl
 |succ n ih=>
  intro h;have h1:=h n oM;simp only [gdN,ih (λi hi=>h i oM),h1.1,h1.2];rfl
def Wq:∀(n:Nat),(∀i,i<n->wd D l (i+2)=0)->Ex D l n=true:=by
 intro n
 induction n with
 |zero=>intro _;rfl
 |succ n ih=>
  intro h;simp only [Ex,ih (λi hi=>h i oM),h n oM];rfl
def Snd.con (h:Snd D l c o) (hg:aL D) (hl:l+32<=D.n) (c0:0<=c) (c5:c<5):JA D l c o=true:=by
 have hp:=aM c0 c5;obtain ⟨n,hn⟩:∃n:Nat,perS c=(n:Int):=⟨(perS c).toNat,by omega⟩;have hw:wd D l 1<18446744073709551616:=by unfold wd;exact hg.cur _ oM
 have hm:=Ng D l c n;have h2:=ia (show n<64 by omega);have e:wd D l 1=mskN D l c n:=JB hw oM (λi hi=>by
  rw [h.bit i hi,Wp,hn]
  congr 2;simp)
 unfold JA;rw [hn,aa,h.hd,decide_eq_true h.hc,decide_eq_true h.ho,Wq 6 (λi hi=>h.zer _ oM oM),abB n (λi hi=>⟨h.sl i oM,h.gd i oM⟩),decide_eq_true e];rfl
end
def chF (T l:Nat) (c o:Int) (g:Nat) (i:Nat):av:= [Value.iface 31 (.pointer (some ⟨T,0,none⟩)),.int .i64 (l:Int),.int .i64 c,.int .i64 o,.int .u16 (g:Int)].getD i undef
structure Loc (w0 w:ab) (Y:Lay) (D:DS) (B l:Nat) (c o:Int) (g:Nat):Prop where
 L:Lv w0 w Y D
 bx:ah w B 134 5 (chF (Y.tb 0) l c o g)
 nb:¬Y.F B
 on:On D
 lt:l+32<=D.n
 gl:bB w0
 c0:0<=c
 c5:c<5
def Out (w0:ab) (Y:Lay) (B:Nat) (v:av):Prop:=∀b,v.ownBlock=some b->w0.heap.size<=b/\¬Y.F b/\b≠B
section
variable {w0 w w':ab} {Y Y':Lay} {D D':DS} {B l:Nat} {c o:Int} {g:Nat}
def Loc.ext (h:Loc w0 w Y D B l c o g) (e:Ext w w'):Loc w0 w' Y D B l c o g:=⟨h.L.ext e,h.bx.ext e,h.nb,h.on,h.lt,h.gl,h.c0,h.c5⟩
def Loc.step (h:Loc w0 w Y D B l c o g) (s:Stp w Y w' Y' D') (gd:aL D') (on:On D') (hn:D'.n=D.n):Loc w0 w' Y' D' B l c o g:=by
 have tb:Y'.tb 0=Y.tb 0:=by rw [s.tb]
 refine ⟨h.L.step s gd,?_,λhf=> ?_,on,by rw [hn];exact h.lt,h.gl,h.c0,h.c5⟩
 ·rw [tb];exact h.bx.frm s.frm h.nb
 ·rcases s.fr B hf with h1|h1
  ·exact h.nb h1
  ·have:=h.bx.lt;omega
def Loc.cx (h:Loc w0 w Y D B l c o g):Cx w Y D l c:=h.L.cx h.gl h.on.off h.lt h.c0 h.c5
def Loc.cells (h:Loc w0 w Y D B l c o g):w.cell? ⟨B,0,none⟩=some (.iface 31 (.pointer (some ⟨Y.tb 0,0,none⟩)))/\w.cell? ⟨B,1,none⟩=some (.int .i64 (l:Int))/\w.cell? ⟨B,2,none⟩=some (.int .i64 c)/\w.cell? ⟨B,3,none⟩=some (.int .i64 o)/\w.cell? ⟨B,4,none⟩=some (.int .u16 (g:Int)):=
 ⟨h.bx.cell (i:=0) oM,h.bx.cell (i:=1) oM,h.bx.cell (i:=2) oM,h.bx.cell (i:=3) oM,h.bx.cell (i:=4) oM⟩
def Loc.ltB (h:Loc w0 w Y D B l c o g):B<w.heap.size:=h.bx.lt
def Loc.frm {G:Nat->Prop} (h:Loc w0 w Y D B l c o g) (f:Frm G w w') (hG:∀b,G b->w0.heap.size<=b/\¬Y.F b/\b≠B):Loc w0 w' Y D B l c o g:=
 ⟨⟨h.L.dv.frm f (λb hb hg=>(hG b hg).2.1 hb),h.L.gd,Ext.frm h.L.ex f (λx hx=>(hG x hx).1),h.L.nw⟩,h.bx.frm f (λhb=>(hG B hb).2.2 rfl),h.nb,h.on,h.lt,h.gl,h.c0,h.c5⟩
def Out.step {v:av} {t:TypeId} {z n:Nat} {L:List av} (h:Out w0 Y B v) (hs:SlO w t z v n L) (s:Stp w Y w' Y' D'):Out w0 Y' B v/\SlO w' t z v n L:=by
 refine ⟨λb hb=>⟨(h b hb).1,λhf=> ?_,(h b hb).2.2⟩,hs.frm s.frm (λb hb=>(h b hb).2.1)⟩;rcases s.fr b hf with h1|h1
 ·exact (h b hb).2.1 h1
 ·have:=hs.lt hb;omega
def Out.nil (w0:ab) (Y:Lay) (B:Nat):Out w0 Y B (.slice none 0 0):=λb hb=>by cases hb
def Out.new {v:av} (h:Loc w0 w Y D B l c o g) (hv:bh w.heap.size v):Out w0 Y B v:=λb hb=>by
 have h1:=hv b hb;have h2:=h.ltB;have h3:=h.L.ex.size;exact ⟨by omega,λhf=>by have:=h.L.dv.lt hf;omega,by omega⟩
def Wr (D:DS) (l:Nat) (c:Int) (i:Int) (r:List Int) (k:Nat) (ks:List Nat) (a:List (Nat×Nat)) (b:Nat):chT D l c (i::r) (k::ks) a b=if tkOk D l c i.toNat=true then chT D l c r ks (a++ [tkW D l c i.toNat k]) (b|||2^i.toNat) else none:=rfl
def abC (D:DS) (l:Nat) (c:Int) (ks:List Nat) (a:List (Nat×Nat)) (b:Nat):chT D l c [] ks a b=some (a,b):=rfl
def Rh (D:DS) (l:Nat) (c:Int) (i:Int) (r:List Int) (a:List (Nat×Nat)) (b:Nat):kf D l c (i::r) a b=if dpOk D l c i.toNat=true then kf D l c r (a++ [dpW D l c i.toNat]) (dpB D l c i.toNat b) else none:=rfl
def Ws (D:DS) (l:Nat) (c:Int) (a:List (Nat×Nat)) (b:Nat):kf D l c [] a b=some (a,b):=rfl
def abD {L M:List Int} {ks:List Nat} {w1 w2:List (Nat×Nat)} {b1 b2:Nat} (a:¬(L.length=0/\M.length=0)) (h1:chT D l c L ks [] (wd D l 1)=some (w1,b1)) (h2:kf D l c M w1 b1=some (w2,b2)):iD D l c L ks M=some (w2++ [(l*64+8,b2)]):=by
 unfold iD;rw [if_neg a,h1];simp only [h2]
def Loc.er (h:Loc w0 w Y D B l c o g):∀(w1:ab) (K:K1),Ext w w1->ae prog 28 #[.pointer (some ⟨Y.tb 0,0,none⟩)] w1 K=K (.int .i64 0) w1:=λw1 K e=>by rw [dA (h.L.dv.ext e) 0 oM K,h.on.err]
def uN (off g k:Nat) (h8:off%8=0) (ho:off<34359738368):pO (ptrN off g k)=off:=by unfold pO ptrN;omega
def uO (off g k:Nat) (ho:off<34359738368) (hg:g<65536):pG (ptrN off g k)=g:=by unfold pG ptrN;omega
def JC (off g k:Nat) (ho:off<34359738368) (hg:g<65536) (hk:k<256):pK (ptrN off g k)=k:=by unfold pK ptrN;omega
def Cu (off g k:Nat) (ho:off<34359738368) (hg:g<65536) (hk:k<=127) (h0:off≠0) (h8:off%8=0):ptrN off g k≠0/\ptrN off g k<72057594037927936:=by unfold ptrN;omega
def cE {l:Nat} {c:Int} {i:Nat} (hl:l<=4096) (c0:0<=c) (c5:c<5) (hi:(i:Int)<perS c):pOff l c i%8=0/\pOff l c i<34359738368/\pOff l c i≠0:=by
 have:=aH c0 c5 hi;unfold pOff;omega
def Snd.sndB {l:Nat} {c o:Int} (h:Snd D l c o) (c0:0<=c) (c5:c<5) (i:Nat) (hi:(i:Int)<perS c):sndB D l c i:=by
 have hp:=aM c0 c5;refine ⟨h.sl i hi,h.gd i hi,?_⟩;rw [h.bit i oM,decide_eq_true hi,bb]
end
end Go.Proofs.YtmpehclnnjgmcaaGreatDoor
