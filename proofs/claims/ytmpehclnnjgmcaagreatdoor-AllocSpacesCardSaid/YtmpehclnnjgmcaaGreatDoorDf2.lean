/-
  Part 2 of what the proofs of this seat share.
-/
import Derived.Test.YtmpehclnnjgmcaaGreatDoorDf1
import Derived.Laws.IdiomRangeMap
import Derived.MapKept
import Derived.Laws.MakeOwn
import Derived.Sort.AssemblyPlain
import Derived.Sort.LotD4
import Derived.Sort.LotD5
set_option linter.defProp false
set_option linter.unusedSimpArgs false
set_option linter.unusedVariables false
set_option maxHeartbeats 20000000
set_option maxRecDepth 100000
set_option linter.defProp false
open Go.Proofs.Tryz (prog)
open Go.RowKit (intOf)
open And renaming intro->ab
open Array renaming toList_push->cN,getElem?_modify->da,mem_iff_getElem?->ds,mem_toList_iff->d6,eq_empty_of_size_eq_zero->eo,getElem?_setIfInBounds->er,append_empty->fs
open Bool renaming and_eq_true->eq,false_eq_true->fx,not_eq_true'->f8
open Go renaming World->an,Value->bb
open Go.Builtin renaming append_->dp,firstCells->ea,len_->ek,nextslicecap->eN,clear_->f7
open Go.Instr renaming buildSlice->aA,sliceBounds->el,makeInterface->fl,sliceBound->f6
open Go.Result renaming andThen_ok->df
open Go.Sem renaming run_bind->bx
open Go.Sort renaming scanSorted->al,medianAdjacent->av,partialInsertionSort->aB,partitionEqual->bl,breakPatterns->bv,choosePivot->cd,partEqLoop->cj,bitsLen_le_iff->co,partialIns->cA,reverseRange->cO,insertionSort->dc,medianAdjacent_count->dd,medianAdjacent_mem->dl,lt_two_pow_bitsLen->eC,partition_holds->fc,reverseLoop->f9
open Int renaming toNat_of_nonneg->ec
open List renaming getElem?_map->cm,getElem?_eq_getElem->cw,mem_singleton->cB,getElem?_append_right->db,getElem?_append_left->dk,length_drop->dm,mem_of_mem_take->d7,mem_of_getElem?->d8,mem_cons_of_mem->d9,mem_cons_self->ef,length_append->eg,getElem?_inj->en,eq_nil_of_length_eq_zero->ep,mem_append->ew,getElem?_cons_succ->eF,getElem?_toArray->e9,size_toArray->f0,nodup_append->f3,foldl_append->f4,append_assoc->f5,filter_cons->gg,map_append->gn,length_map->gp,map_cons->gv,map_nil->gx
open Nat renaming le_refl->bd,mod_two_eq_zero_or_one->cg,xor_lt_two_pow->ch,xor_assoc->cF,xor_comm->dj,add_mul->eb,two_pow_pos->ex,add_assoc->e8,zero_add->fe,le_trans->fi,div_lt_iff_lt_mul->fk,pow_le_pow_right->fn,mul_le_mul_right->fq,zero_le->ft,lt_of_lt_of_le->fF,testBit_xor->gs,xor_zero->gT,add_zero->g7,pow_add->g8,one_mul->g9,mod_lt->hA
open Option renaming map_some->cx
namespace Go.Sh
open Go
structure ElT (P:Program) (t tx e:TypeId) (z bytes:Nat) (zv:bb):Prop where
 un:P.underlying t=some (.slice e)
 ux:P.underlying tx=some (.slice e)
 inf:((P.info? e).map λi=>(i.size,i.zero,i.bytes))=some (z,some zv,bytes)
 zs:zv.cells.size=z
 pos:0<z
def ElT.info {P:Program} {t tx e:TypeId} {z bytes:Nat} {zv:bb} (h:ElT P t tx e z bytes zv):∃i,P.info? e=some i/\i.size=z/\i.zero=some zv/\i.bytes=bytes:=by
 have:=h.inf
 cases hi:P.info? e with
 |none=>rw [hi] at this;cases this
 |some i=>rw [hi] at this;simp at this;exact ⟨i,rfl,this.1,this.2.1,this.2.2⟩
def ur {v:bb} (h:aj v=true):v.oneCell'=true:=by cases v<;>first|rfl|cases h
def rL {l:List bb} (h:bX l=true):∀v∈l,v.oneCell'=true:=by
 induction l with
 |nil=>intro v hv;cases hv
 |cons a l ih=>
  simp only [bX,eq] at h;intro v hv
  cases hv with
  |head=>exact ur h.1
  |tail _ hv=>exact ih h.2 v hv
def fY {w:an} {g:Nat} {a:Array bb} {e:TypeId} (hg:w.heap[g]? =some (.cells a e (0,0))) (new:Array bb):(w.setRow g new).heap[g]? =some (.cells new e (0,0)):=setRow_heap w g a _ e _ hg
def fZ {w:an} {g k:Nat} (new:Array bb) (h:k≠g):(w.setRow g new).heap[k]? =w.heap[k]? :=setRow_other w g k _ h
def ji {l news:List bb} {p i:Nat} (hp:p+news.length<=l.length):(l.take p++news++l.drop (p+news.length))[i]? =if i<p then l[i]? else if i<p+news.length then news[i-p]? else l[i]? :=by
 by_cases h1:i<p
 ·rw [if_pos h1,f5,dk (by simp;omega),List.getElem?_take_of_lt h1]
 ·rw [if_neg h1];by_cases h2:i<p+news.length
  ·rw [if_pos h2,dk (by simp;omega),db (by simp;omega)]
   congr 1;simp;omega
  ·rw [if_neg h2,db (by simp;omega),List.getElem?_drop]
   congr 1;simp;omega
def mu {P:Program} (w:an) (t tx ty e:TypeId) (i:TypeInfo) (z:bb) (ht:P.underlying t=some (.slice e)) (k:P.underlying tx=some (.slice e)) (hi:P.info? e=some i) (hz:i.zero=some z)
  (g:Option Addr) (b d:Nat) (f:List bb) (l:(ea i.size b (.slice g b d)).run P w.drew= .ok f.toArray w.drew)
  (a:Addr) (n c:Nat) (news:List bb) (hf:(ea i.size n (.slice (some a) n c)).run P w.drew= .ok news.toArray w.drew)
  (hg:d<b+n) (o:((b+n:Nat):Int)<=9223372036854775807) (m:eN (b+n) d*i.bytes<=281474976710656):
  (dp #[t,tx] ty #[.slice g b d,.slice (some a) n c]).run P w=
   .ok (.slice (some ⟨w.heap.size,0,none⟩) (b+n) (grownCap w (b+n) d e))
    (w.drew.alloc (.cells ((f++news).toArray++Builtin.zeroCells z.cells (grownCap w (b+n) d e-(b+n))) e)):=by
 have hn:¬(b+n<=d):=oM;have h:¬(9223372036854775807<((b:Int)+(n:Int))):=oM;have j:¬(281474976710656<eN (b+n) d*i.bytes):=oM;simp [dp,run_underlying ht,run_underlying k,sizeOf,typeInfo,zeroValue,hi,hz,Builtin.lenOf,hn,h,j,Question.forced,hf,l,newRow,grownCap]
 congr 2
 apply Array.ext';simp [f5]
def y6 {P:Program} (w:an) (t tx ty e:TypeId) (i:TypeInfo) (ht:P.underlying t=some (.slice e)) (l:P.underlying tx=some (.slice e)) (hi:P.info? e=some i)
  (g o b f:Nat) (d:Array bb) (hg:w.heap[g]? =some (.cells d e (0,0)))
  (a:Addr) (m c:Nat) (news:List bb) (hf:(ea i.size m (.slice (some a) m c)).run P w= .ok news.toArray w) (h1:∀u∈news,u.oneCell'=true)
  (h:b+m<=f) (k:o+b*i.size+news.length<=d.size):
  (dp #[t,tx] ty #[.slice (some ⟨g,o,none⟩) b f,.slice (some a) m c]).run P w=
   .ok (.slice (some ⟨g,o,none⟩) (b+m) f) (w.setRow g (d.toList.take (o+b*i.size)++news++d.toList.drop (o+b*i.size+news.length)).toArray):=by
 have j:=run_storeCells_at P g (o+b*i.size) e news 0 d w hg (by simpa using k) h1;simp only [g7] at j;simp [dp,run_underlying ht,run_underlying l,sizeOf,typeInfo,hi,Builtin.lenOf,h,hf,dT,j]
def F0:bb->Nat
 | .slice (some a) _ _=>a.off
 |_=>0
def ut (z:Nat):bb->Nat
 | .slice (some a) n _=>a.off+n*z
 |_=>0
def BS {P:Program} {t tx e ty:TypeId} {z g:Nat} {zv:bb} (E:ElT P t tx e z g zv) {cs:Array Bool} {w:an} {v:bb} {n:Nat} {L:List bb} (hv:SlO w e z v n L)
  {xb xo m c:Nat} {news:List bb} (hl:news.length=m*z) (hx:∀j u,news[j]? =some u->w.cell? ⟨xb,xo+j,none⟩=some u) (h1:bX news=true) (hm:0<m) (hb:(n+m)*g<=140737488355328) (T:n+m<9223372036854775807) {k:K1}
  (h:∀v' w',SlO w' e z v' (n+m) (L++news)->Frm (λb=>v.ownBlock=some b) w w'->(∀b,v'.ownBlock=some b->v.ownBlock=some b\/w.heap.size<=b)->(F0 v'=0\/F0 v'=F0 v)->(∀v0 n0 L0,SlO w e z v0 n0 L0->(v0.ownBlock=v.ownBlock->ut z v0<=ut z v)->SlO w' e z v0 n0 L0/\(v0.ownBlock=v'.ownBlock->ut z v0<=ut z v'))->k v' w'):
  aY P .append #[t,tx] ty cs #[v,.slice (some ⟨xb,xo,none⟩) m c] w k:=by
 obtain ⟨i,hi,rfl,hz,rfl⟩:=E.info;have ht:=E.un;have r:=E.ux;have J:=E.zs;have y:∀j u,news[j]? =some u->w.cell? ((⟨xb,xo,none⟩:Addr).add j)=some u:=by intro j u hj;rw [dT];exact hx j u hj
 have hf:=run_firstCells_some (P:=P) w i.size m ⟨xb,xo,none⟩ m c news hl y;have B:=run_firstCells_some (P:=P) w.drew i.size m ⟨xb,xo,none⟩ m c news hl y;unfold aY builtin;have p:∀(old:Nat),old<n+m->SlO (w.drew.alloc (.cells ((L++news).toArray++Builtin.zeroCells zv.cells (grownCap w (n+m) old e-(n+m))) e)) e i.size (.slice (some ⟨w.heap.size,0,none⟩) (n+m) (grownCap w (n+m) old e)) (n+m) (L++news):=by
  intro old ho;have K:=grownCap_ge w (n+m) old e;have q:grownCap w (n+m) old e<=maxLen:=grownCap_le_maxLen w (n+m) old e (by simp only [maxLen];omega);refine ⟨by rw [eg,hv.1,hl,eb],.inr ⟨w.heap.size,0,_,_,rfl,aL w.drew _,K,q,?_,?_⟩⟩
  ·simp only [Array.size_append,f0,eg,size_zeroCells,J,hv.1,hl,<-eb,fe];exact fq _ oM
  ·intro j u hj;rw [fe,Array.getElem?_append_left]
   ·simpa using hj
   ·have:=(List.getElem?_eq_some_iff.1 hj).1;simpa using this
 have fresh:∀(o:Obj),Frm (λb=>v.ownBlock=some b) w (w.drew.alloc o):=λo=>((Frm.refl _ w).drew).alloc o
 have old:∀{l c:Nat} (o:Obj) (v0:bb) (n0:Nat) (L0:List bb),SlO w e i.size v0 n0 L0->(v0.ownBlock=v.ownBlock->ut i.size v0<=ut i.size v)->SlO (w.drew.alloc o) e i.size v0 n0 L0/\(v0.ownBlock=(Value.slice (some ⟨w.heap.size,0,none⟩) l c).ownBlock->ut i.size v0<=ut i.size (.slice (some ⟨w.heap.size,0,none⟩) l c)):=λo v0 n0 L0 s0 _=>⟨s0.ext (Ext.alloc (Ext.drew (Ext.refl _)) _),λe=>absurd (s0.lt (b:=w.heap.size) e) (Nat.lt_irrefl _)⟩
 rcases hv.2 with ⟨rfl,rfl⟩|⟨b,o,cap,a,rfl,hh,R,q,Q,hc⟩
 ·have hL:L= []:=ep (by simpa using hv.1);subst hL;have hr:=mu w t tx ty e i zv ht r hi hz none 0 0 [] (run_firstCells_none _ _ _ _ _) ⟨xb,xo,none⟩ m c news B oM oM (growslice_fits oM hb);rw [bx,hr];exact h _ _ (p 0 oM) (fresh _) (λb hb=>by injection hb with hb;subst hb;exact .inr (bd _)) (.inl rfl) (old _)
 ·by_cases hroom:n+m<=cap
  ·have s:o+n*i.size+news.length<=a.size:=by
    have:=fq i.size hroom;rw [eb] at this;omega
   have hr:=y6 w t tx ty e i ht r hi b o n cap a hh ⟨xb,xo,none⟩ m c news hf (rL h1) hroom s;rw [bx,hr];have f:o+n*i.size+news.length<=a.toList.length:=by simpa using s
   refine h _ _ ⟨by rw [eg,hv.1,hl,eb],.inr ⟨b,o,cap,_,rfl,fY hh _,hroom,q,?_,?_⟩⟩ ⟨rfl,rfl,rfl,by simp,λk _ hk=>fZ _ (λe=>hk (by simp [Value.ownBlock,e]))⟩ (λb' x=> .inl x) (.inr rfl) (λv0 n0 L0 s0 he=>⟨?_,λe=>fi (he e) (by show o+n*i.size<=o+(n+m)*i.size;rw [eb];omega)⟩)
   ·simp;omega
   ·intro j u hj;rw [e9,ji f];by_cases A:j<L.length
    ·rw [dk A] at hj;have:=hc j u hj;rw [if_pos (by have:=hv.1;omega)];simpa using this
    ·rw [db oM] at hj;have S:=(List.getElem?_eq_some_iff.1 hj).1;have U:=hv.1;rw [if_neg oM,if_pos oM,<-hj]
     congr 1;omega
   ·by_cases e0:v0.ownBlock=some b
    ·obtain ⟨I,h0|⟨b0,o0,G,a0,rfl,d,D,C,O,H⟩⟩:=s0
     ·rw [h0.1] at e0;cases e0
     ·injection e0 with e0;subst e0;have V:o0+n0*i.size<=o+n*i.size:=he rfl;rw [hh] at d;injection d with d;injection d with d;subst d;refine ⟨I,.inr ⟨b0,o0,G,_,rfl,fY hh _,D,C,?_,λj u hj=> ?_⟩⟩
      ·simp;omega
      ·have A:=(List.getElem?_eq_some_iff.1 hj).1;rw [e9,ji f];have:=H j u hj;rw [if_pos oM];simpa using this
    ·exact s0.frm (F:=λb'=>b'=b) ⟨rfl,rfl,rfl,by simp,λk _ hk=>fZ _ hk⟩ (λb' x e=>e0 (by rw [x,e]))
  ·have N:∀j u,L[j]? =some u->w.drew.cell? ((⟨b,o,none⟩:Addr).add j)=some u:=by
    intro j u hj;rw [dT];exact hv.cell rfl hj
   have M:=run_firstCells_some (P:=P) w.drew i.size n ⟨b,o,none⟩ n cap L hv.1 N;have hr:=mu w t tx ty e i zv ht r hi hz (some ⟨b,o,none⟩) n cap L M ⟨xb,xo,none⟩ m c news B oM oM (growslice_fits oM hb);rw [bx,hr];exact h _ _ (p cap oM) (fresh _) (λb hb=>by injection hb with hb;subst hb;exact .inr (bd _)) (.inl rfl) (old _)
def ck {P:Program} {t tx e ty:TypeId} {z f:Nat} {zv:bb} (E:ElT P t tx e z f zv) {cs:Array Bool} {w:an} {v:bb} {n:Nat} {L:List bb} (hv:SlO w e z v n L)
  {xb xo m c:Nat} {news:List bb} (hl:news.length=m*z) (hx:∀j u,news[j]? =some u->w.cell? ⟨xb,xo+j,none⟩=some u) (h1:bX news=true) (hm:0<m) (hb:(n+m)*f<=140737488355328) (g:n+m<9223372036854775807) {k:K1}
  (h:∀v' w',SlO w' e z v' (n+m) (L++news)->Frm (λb=>v.ownBlock=some b) w w'->(∀b,v'.ownBlock=some b->v.ownBlock=some b\/w.heap.size<=b)->(F0 v'=0\/F0 v'=F0 v)->k v' w'):
  aY P .append #[t,tx] ty cs #[v,.slice (some ⟨xb,xo,none⟩) m c] w k:=BS E hv hl hx h1 hm hb g λv' w' a b c d _=>h v' w' a b c d
def mv (zv:bb) (n:Nat):Array bb:=madeCells zv.cells n
def qI {P:Program} {t e:TypeId} {z a:Nat} {zv:bb} (E:ElT P t t e z a zv) (l n:Int) (w:an) (k:K1) (h0:0<=l) (hl:l<=n) (hb:(a:Int)*n<=281474976710656) (b:n<=9223372036854775807):
  ev P (Instr.makeSlice t (.int .i64 l) (.int .i64 n)) w k=k (.slice (some ⟨w.heap.size,0,none⟩) l.toNat n.toNat) (w.alloc (.cells (mv zv (n.toNat*z)) e)):=by
 obtain ⟨i,hi,rfl,hz,rfl⟩:=E.info;exact aa (run_make w t e i zv E.un hi hz .i64 .i64 l n h0 hl hb b) k
def Qu {zv:bb} {n i:Nat} (h:i<n):(mv zv n)[i]? =some (zv.cells[i%zv.cells.size]!):=by
 unfold mv madeCells;simp [h]
def gb (w:an) (zv:bb) (n:Nat) (t:TypeId):af (w.alloc (.cells (mv zv n) t)) w.heap.size t n (λi=>zv.cells[i%zv.cells.size]!):=
 ⟨mv zv n,aL _ _,by simp [mv,madeCells],λi hi=>Qu hi⟩
def Xm (w:an) (zv:bb) (c z:Nat) (t:TypeId) (hm:c<=maxLen):SlO (w.alloc (.cells (mv zv (c*z)) t)) t z (.slice (some ⟨w.heap.size,0,none⟩) 0 c) 0 []:=
 ⟨by simp,.inr ⟨w.heap.size,0,c,_,rfl,aL _ _,ft _,hm,by simp [mv,madeCells],by intro i u h;simp at h⟩⟩
def Qv {P:Program} {t e:TypeId} {z a:Nat} {zv:bb} (E:ElT P t t e z a zv) (b o len cap:Nat) (lo hi:Option bb) (l h:Nat) (w:an)
  (hb:(el true len cap lo hi none).run P w= .ok (l,h,cap) w):(Instr.sliceAt t (.slice (some ⟨b,o,none⟩) len cap) lo hi none).run P w= .ok (.slice (some ⟨b,if cap=l then o else o+l*z,none⟩) (h-l) (cap-l)) w:=by
 obtain ⟨i,hi,rfl,hz,rfl⟩:=E.info;simp only [Instr.sliceAt,bx,ax E.un,df,Instr.slice,hb];simp only [sizeOf,typeInfo,bx,program,Sem.run,hi,df,Sem.run_pure,cx];by_cases hc:cap=l
 ·simp [hc]
 ·simp [hc,dT]
def oc {P:Program} (k:IntKind) (n y:Nat) (c:BoundsCode) (w:an) (h:n<=y):(f6 (.int k n) y c).run P w= .ok n w:=by
 simp [f6,asIntOf,h]
def ge {P:Program} {t e:TypeId} {z a:Nat} {zv:bb} (E:ElT P t t e z a zv) (b o len cap:Nat) (k:IntKind) (n:Nat) (w:an) (h:n<=cap):(Instr.sliceAt t (.slice (some ⟨b,o,none⟩) len cap) none (some (.int k n)) none).run P w= .ok (.slice (some ⟨b,o,none⟩) n cap) w:=by
 have:=Qv E b o len cap none (some (.int k n)) 0 n w (by simp [el,oc _ _ _ _ _ h]);simpa using this
def iY {P:Program} {t e:TypeId} {z a:Nat} {zv:bb} (E:ElT P t t e z a zv) (b o len cap:Nat) (k:IntKind) (n:Nat) (w:an) (h:n<=len):(Instr.sliceAt t (.slice (some ⟨b,o,none⟩) len cap) (some (.int k n)) none none).run P w= .ok (.slice (some ⟨b,if cap=n then o else o+n*z,none⟩) (len-n) (cap-n)) w:=
 Qv E b o len cap (some (.int k n)) none n len w (by simp [el,oc _ _ _ _ _ h])
def lz (w:an) (r:Nat) (es:Array MapEntry) (clock:Nat) (m:Int->Option bb):Prop:=
 w.heap[r]? =some (.map es clock)/\(∀x∈es.toList,x.born<clock)/\(es.toList.map (·.born)).Nodup/\(es.toList.map (·.key)).Nodup/\(∀x∈es.toList,∃i,x.key= .int .i64 i)/\∀i v,m i=some v↔∃x∈es.toList,x.key= .int .i64 i/\x.val=v
def lz.lt {w:an} {r:Nat} {es:Array MapEntry} {clock:Nat} {m:Int->Option bb} (h:lz w r es clock m):r<w.heap.size:=aF h.1
def lz.of_heap {w w':an} {r:Nat} {es:Array MapEntry} {clock:Nat} {m:Int->Option bb} (h:lz w r es clock m) (e:w'.heap[r]? =w.heap[r]?):lz w' r es clock m:=⟨e.trans h.1,h.2⟩
def lz.empty {w:an} {r clock:Nat} (h:w.heap[r]? =some (.map #[] clock)):lz w r #[] clock (λ_=>none):=⟨h,by simp,by simp,by simp,by simp,by simp⟩
def dM {P:Program} (t:TypeId) (w:an) (k:K1):ev P (Instr.makeMap t none) w k=k (.map (some w.heap.size)) (w.alloc (.map #[] 0)):=rfl
def MN (P:Program) (t:TypeId):Bool:=
 match P.underlying t with
 |some (.map kt _)=>match P.underlying kt with
  |some (.int .i64)=>true
  |_=>false
 |_=>false
def y7 {P:Program} {t:TypeId} (h:MN P t=true):∃kt et,P.underlying t=some (.map kt et)/\P.underlying kt=some (.int .i64):=by
 unfold MN at h;split at h
 ·rename_i kt et hu;split at h
  ·rename_i hk;exact ⟨kt,et,hu,hk⟩
  ·cases h
 ·cases h
def fB (w:an) (r:Nat) (o:Obj):an:={w with heap:=w.heap.setIfInBounds r o}
def gz {w:an} {r:Nat} {o o':Obj} (h:w.heap[r]? =some o):(fB w r o').heap[r]? =some o':=(MapKept.heap_set h).1
def IY {w:an} {r b:Nat} {o':Obj} (h:b≠r):(fB w r o').heap[b]? =w.heap[b]? :=by
 show (w.heap.setIfInBounds r o')[b]? =_;rw [Array.getElem?_setIfInBounds_ne (Ne.symm h)]
def gf {w:an} {r:Nat} {o':Obj}:Frm (λb=>b=r) w (fB w r o'):=⟨rfl,rfl,rfl,by simp [fB],λ_ _ hn=>IY hn⟩
def ib (i:Int):MapKept.IsKey (.int .i64) (.int .i64 i):=by simp [MapKept.IsKey]
def za {P:Program} {t:TypeId} (ht:MN P t=true) {w:an} {r:Nat} {es:Array MapEntry} {clock:Nat} {m:Int->Option bb} (hm:lz w r es clock m) (i:Int) (v:bb) {k:an->Prop}
  (h:∀w' E s,lz w' r E s (λj=>if j=i then some v else m j)->Frm (λb=>b=r) w w'->k w'):ac P (Instr.mapUpdate t (.map (some r)) (.int .i64 i) v) w k:=by
 obtain ⟨kt,et,hu,hk⟩:=y7 ht;obtain ⟨hb,f,A,n,p,z⟩:=hm;have B:∀x∈es.toList,MapKept.IsKey (.int .i64) x.key:=by
  intro x hx;obtain ⟨i,e⟩:=p x hx;rw [e];exact ib i
 unfold ac;rcases MapKept.findNow_spec (ib i) es.toList 0 B with ⟨h1,h2⟩|⟨j,e,h1,h2,h3⟩
 ·have hr:(Instr.mapUpdate t (.map (some r)) (.int .i64 i) v).run P w= .ok () (fB w r (.map (es.push {key:= .int .i64 i,val:=v,born:=clock}) (clock+1))):=by
   simp [Instr.mapUpdate,run_underlying hu,MapKept.run_getObj_map hb,MapKept.run_checkKey hk (ib i),MapKept.run_findKey hk h1,MapKept.run_setObj_map _ hb,fB]
  rw [hr];refine h _ _ _ ⟨gz hb,?_,?_,?_,?_,?_⟩ gf
  ·intro x hx;simp only [cN,ew,cB] at hx;rcases hx with hx|rfl
   ·have:=f x hx;omega
   ·exact Nat.lt_succ_self _
  ·simp only [cN,gn,gv,gx];rw [f3];refine ⟨A,by simp,?_⟩;intro a ha b l e;simp only [cB] at l;obtain ⟨x,hx,rfl⟩:=List.mem_map.1 ha;have:=f x hx;omega
  ·simp only [cN,gn,gv,gx];rw [f3];refine ⟨n,by simp,?_⟩;intro a ha b l e;simp only [cB] at l;obtain ⟨x,hx,rfl⟩:=List.mem_map.1 ha;exact h2 x hx (e.trans l)
  ·intro x hx;simp only [cN,ew,cB] at hx;rcases hx with hx|rfl
   ·exact p x hx
   ·exact ⟨i,rfl⟩
  ·intro j u;simp only [cN,ew,cB];by_cases hj:j=i
   ·subst hj;simp only [if_true,Option.some.injEq];constructor
    ·rintro rfl;exact ⟨_,.inr rfl,rfl,rfl⟩
    ·rintro ⟨x,hx|rfl,hk,hv⟩
     ·exact absurd hk (h2 x hx)
     ·exact hv
   ·simp only [hj,if_false];rw [z];constructor
    ·rintro ⟨x,hx,hk,hv⟩;exact ⟨x,.inl hx,hk,hv⟩
    ·rintro ⟨x,hx|rfl,hk,hv⟩
     ·exact ⟨x,hx,hk,hv⟩
     ·injection hk with _ hk;exact absurd hk.symm hj
 ·have hj:es[j]? =some e:=by simpa using h2
  have hr:(Instr.mapUpdate t (.map (some r)) (.int .i64 i) v).run P w= .ok () (fB w r (.map (es.modify j λe=>{e with key:= .int .i64 i,val:=v}) clock)):=by
   simp [Instr.mapUpdate,run_underlying hu,MapKept.run_getObj_map hb,MapKept.run_checkKey hk (ib i),MapKept.run_findKey hk h1,hj,h3,MapKept.run_keyThatStays (ib i),MapKept.run_setObj_map _ hb,fB]
  rw [hr];have C:∀e',es[j]? =some e'->({e' with key:= .int .i64 i,val:=v}:MapEntry).key=e'.key:=λe' g=>by rw [hj] at g;cases g;exact h3.symm
  have D:j<es.size:=(Array.getElem?_eq_some_iff.1 hj).1;have o:=MapKept.stamped_modify (es:=es) (clock:=clock) ⟨f,A,n⟩ j (λe=>{e with key:= .int .i64 i,val:=v}) (λ_ _=>rfl) (λe' _ g=>C e' g);have c:∀x,x∈(es.modify j λe=>{e with key:= .int .i64 i,val:=v}).toList↔(x={e with key:= .int .i64 i,val:=v}\/(x∈es.toList/\x.key≠ .int .i64 i)):=by
   intro x;rw [d6,ds];constructor
   ·rintro ⟨q,hq⟩;rw [da] at hq;by_cases d:j=q
    ·subst d;rw [if_pos rfl,hj] at hq;simp at hq;exact .inl hq.symm
    ·rw [if_neg d] at hq;refine .inr ⟨by rw [d6,ds];exact ⟨q,hq⟩,?_⟩;intro y;have F:q<es.size:=(Array.getElem?_eq_some_iff.1 hq).1;have h5:(es.toList.map (·.key))[q]? =some (.int .i64 i):=by simp [cm,hq,y]
     have h6:(es.toList.map (·.key))[j]? =some (.int .i64 i):=by simp [cm,hj,h3]
     exact d ((en (by simpa using D) n).1 (h6.trans h5.symm))
   ·rintro (rfl|⟨hx,y⟩)
    ·exact ⟨j,by rw [da,if_pos rfl,hj];rfl⟩
    ·rw [d6,ds] at hx;obtain ⟨q,hq⟩:=hx;refine ⟨q,?_⟩;rw [da,if_neg,hq];intro d;subst d;rw [hj] at hq;cases hq;exact y h3
  refine h _ _ _ ⟨gz hb,o.1,o.2.1,o.2.2,?_,?_⟩ gf
  ·intro x hx;rcases (c x).1 hx with rfl|⟨hx,_⟩
   ·exact ⟨i,rfl⟩
   ·exact p x hx
  ·intro q u;by_cases hq:q=i
   ·subst hq;simp only [if_true,Option.some.injEq];constructor
    ·rintro rfl;exact ⟨_,(c _).2 (.inl rfl),rfl,rfl⟩
    ·rintro ⟨x,hx,hk,hv⟩;rcases (c x).1 hx with rfl|⟨_,hn⟩
     ·exact hv
     ·exact absurd hk hn
   ·simp only [hq,if_false];rw [z];constructor
    ·rintro ⟨x,hx,hk,hv⟩;exact ⟨x,(c x).2 (.inr ⟨hx,by rw [hk];intro e;injection e with _ e;exact hq e⟩),hk,hv⟩
    ·rintro ⟨x,hx,hk,hv⟩;rcases (c x).1 hx with rfl|⟨hx,_⟩
     ·injection hk with _ hk;exact absurd hk.symm hq
     ·exact ⟨x,hx,hk,hv⟩
def Qw {P:Program} {t:TypeId} (ht:MN P t=true) {w:an} {r:Nat} {es:Array MapEntry} {clock:Nat} (hb:w.heap[r]? =some (.map es clock)) (k:K1):
  ev P (Instr.range t (.map (some r))) w k=k (.pointer (some ⟨w.heap.size,0,none⟩)) (w.alloc (.mapIter (some r) clock #[] clock)):=by
 obtain ⟨kt,et,hu,hk⟩:=y7 ht;exact aa (run_range_map w t kt et r es clock hu hb) k
def Xn {P:Program} {ty:TypeId} {w:an} {it m c d clock:Nat} {a:Array Nat} {es:Array MapEntry} (n:w.heap[it]? =some (.mapIter (some m) c a d)) (hm:w.heap[m]? =some (.map es clock)) (g:∀x∈es.toList,x.born<c) (r:c<=d) {k:K1}
  (h0:(∀x∈es.toList,x.born∈a)->∀w',Ext w w'->k (.tuple #[.bool false]) w')
  (h1:∀x∈es.toList,x.born∉a->∀w',w'.heap[it]? =some (.mapIter (some m) c (a.push x.born) clock)->w'.heap.size=w.heap.size->Frm (λb=>b=it) w w'->k (.tuple #[.bool true,x.key,x.val]) w'):ev P (Instr.next (.pointer (some ⟨it,0,none⟩)) false ty) w k:=by
 unfold ev;simp only [Instr.next,getObj,bx,Sem.run,n,hm,Result.andThen,Go.next_test_false a es c d g r,fx,if_false];have f:∀x∈(Array.filter (λe=> !a.contains e.born) es).toList,x∈es.toList/\x.born∉a:=λx hx=>by simpa using hx
 have l:(Array.filter (λe=> !a.contains e.born) es).size=0->∀x∈es.toList,x.born∈a:=by
  intro h x hx;by_cases hs:x.born∈a
  ·exact hs
  ·have:x∈Array.filter (λe=> !a.contains e.born) es:=by simp [hs];simpa using hx
   rw [eo h] at this;simp at this
 generalize Array.filter (λe=> !a.contains e.born) es=L at f l ⊢;have e1:L.filter (λx=>decide (x.born<c))=L:=Array.filter_eq_self.2 (λx hx=>by simpa using g x (f x (by simpa using hx)).1);have e2:L.filter (λx=>decide (x.born>=c))= #[]:=by
  rw [Array.filter_eq_empty_iff];intro x hx;have:=g x (f x (by simpa using hx)).1;simp;omega
 simp only [e1,e2,fs];by_cases hz:L.size=0
 ·have:L= #[]:=eo hz;subst this;have hr:(choose (Question.mapNext 1)).run P w= .ok 0 w:=by simp [choose,Sem.run,Question.forced]
  simp only [Array.isEmpty_empty,if_true,Array.map_empty,fs,f0,List.length_singleton,hr];exact h0 (l hz) w (Ext.refl w)
 ·have q:L.isEmpty=false:=by simp [Array.isEmpty,hz]
  simp only [q,fx,if_false,Array.empty_append,Array.size_map];have s:∃(j:Nat) (w1:an),j<L.size/\w1.heap=w.heap/\w1.os=w.os/\w1.tape=w.tape/\w1.output=w.output/\(choose (Question.mapNext L.size)).run P w= .ok j w1:=by
   by_cases hf:L.size<=1
   ·exact ⟨0,w,by omega,rfl,rfl,rfl,rfl,by simp [choose,Sem.run,Question.forced,hf]⟩
   ·exact ⟨_,w.drew,hA _ oM,rfl,rfl,rfl,rfl,by
     simp only [choose,Sem.run,Question.forced,decide_eq_true_eq,hf,if_false,Question.cut];rfl⟩
  obtain ⟨j,w1,hj,a1,a2,a3,a4,o⟩:=s;have i:w1.heap[it]? =some (.mapIter (some m) c a d):=by rw [a1];exact n
  have p:∀o',(setObj it o').run P w1= .ok () (fB w1 it o'):=λo'=>by simp [setObj,Sem.run,i,fB]
  simp only [o,Array.getElem?_map,Array.getElem?_eq_getElem hj,cx,bx,p,Result.andThen];have hx:=f L[j] (by simp);refine h1 L[j] hx.1 hx.2 _ (gz i) (by simp [fB,a1]) ⟨a2,a3,a4,by simp [fB,a1],?_⟩;intro b hb hn;rw [IY hn,a1]
def Qx {P:Program} {w:an} {it m a clock stamp:Nat} {b:Array Nat} {es:Array MapEntry} (d:w.heap[it]? =some (.mapIter (some m) a (b.push stamp) clock)) (hm:w.heap[m]? =some (.map es clock)) (hn:(es.toList.map (·.born)).Nodup) {x:MapEntry} (hx:x∈es.toList) (c:x.born=stamp) (k:K1):
  ev P (Instr.entry (.pointer (some ⟨it,0,none⟩))) w k=k (.tuple #[x.key,x.val]) w:=by
 refine aa ?_ k;subst c;have hf:=find_born x es.toList hn hx;have f:es.find? (λe=>e.born==x.born)=some x:=by rw [<-Array.find?_toList];exact hf
 simp [Instr.entry,getObj,Sem.run,d,hm,bx,f]
def MO {P:Program} {t ty:TypeId} (ht:MN P t=true) {cs:Array Bool} {w:an} {r:Nat} {es:Array MapEntry} {clock:Nat} (hb:w.heap[r]? =some (.map es clock)) (k:K1):
  aY P .clear #[t] ty cs #[.map (some r)] w k=k (.tuple #[]) (fB w r (.map #[] clock)):=by
 obtain ⟨kt,et,hu,hk⟩:=y7 ht;have hr:(f7 #[t] ty #[.map (some r)]).run P w= .ok (.tuple #[]) (fB w r (.map #[] clock)):=by
  simp [f7,run_underlying hu,MapKept.run_getObj_map hb,MapKept.run_setObj_map _ hb,fB]
 unfold aY builtin;rw [bx,hr];rfl
def Qy {P:Program} {t e:TypeId} {z a:Nat} {zv:bb} (E:ElT P t t e z a zv) (w:an) (k:K1):ev P (aA t 0 #[]) w k=k (.slice (some ⟨w.heap.size,0,none⟩) 0 0) (w.alloc (.cells #[] e)):=by
 obtain ⟨i,hi,rfl,hz,rfl⟩:=E.info;refine aa ?_ k;unfold aA;rw [bx,ax E.un,df];simp only;simp [sizeOf,typeInfo,program,Sem.run,hi,bx,Instr.fill,newRow,Array.range_zero']
def SlO.lit0 (w:an) (t:TypeId) (z:Nat):SlO (w.alloc (.cells #[] t)) t z (.slice (some ⟨w.heap.size,0,none⟩) 0 0) 0 []:=
 ⟨by simp,.inr ⟨w.heap.size,0,0,#[],rfl,aL _ _,bd _,ft _,by simp,by intro i u h;simp at h⟩⟩
def F1 {P:Program} {t:TypeId} (h:iJ P t=true) (p:Option Addr) (n c:Nat) (w:an) (d:Nat):(Op.equalIn (d+1) t (.slice p n c) (.slice none 0 0)).run P w= .ok p.isNone w:=by
 unfold iJ at h;split at h
 ·rename_i e hu;unfold Op.equalIn;rw [bx,ax hu,df]
  cases p<;>rfl
 ·cases h
def run_eq_sl_nil {P:Program} {t:TypeId} (h:iJ P t=true) (x y:Operand) (p:Option Addr) (n c:Nat) (w:an):(aC .eql t x y (.slice p n c) (.slice none 0 0)).run P w= .ok (.bool p.isNone) w:=
 mi (by cases p<;>rfl) (by cases p<;>rfl) (F1 h p n c w)
def run_shr_i {P:Program} {k:IntKind} (t:TypeId) (x y:Operand) (a:Nat) (n:Int) (w:an) (h0:0<=n) (hn:n<=k.bits):(aC .shr t x y (.int k (a:Int)) (.int .i64 n)).run P w= .ok (.int k ((a/2^n.toNat:Nat):Int)) w:=by
 have:=qC (P:=P) (k:=k) (j:= .i64) t x y a n.toNat w oM
 rwa [ec h0] at this
def run_shl_i {P:Program} {k:IntKind} (hu:kU k=true) (t:TypeId) (x y:Operand) (a:Nat) (n:Int) (w:an) (h0:0<=n) (hn:n<=k.bits):(aC .shl t x y (.int k (a:Int)) (.int .i64 n)).run P w= .ok (.int k ((a*2^n.toNat%2^k.bits:Nat):Int)) w:=by
 have:=qD (P:=P) (k:=k) (j:= .i64) hu t x y a n.toNat w oM
 rwa [ec h0] at this
end Go.Sh
namespace Go.Proofs.YtmpehclnnjgmcaaGreatDoor
open Go Go.Sh
def cZ:ElT prog 58 58 26 1 8 (.int .u64 0):=⟨by kernel_rfl,by kernel_rfl,by kernel_rfl,by kernel_rfl,by decide⟩
def jy:ElT prog 79 79 98 2 16 (.agg #[.int .u64 0,.int .u64 0]):=⟨by kernel_rfl,by kernel_rfl,by kernel_rfl,by kernel_rfl,by decide⟩
def BT:ElT prog 51 51 5 1 1 (.int .u8 0):=⟨by kernel_rfl,by kernel_rfl,by kernel_rfl,by kernel_rfl,by decide⟩
def F2:ElT prog 152 152 209 2 32 (.agg #[.int .u64 0,.slice none 0 0]):=⟨by kernel_rfl,by kernel_rfl,by kernel_rfl,by kernel_rfl,by decide⟩
def jz:ElT prog 50 50 3 1 8 (.int .i64 0):=⟨by kernel_rfl,by kernel_rfl,by kernel_rfl,by kernel_rfl,by decide⟩
def de:ElT prog 120 120 220 3 24 (.agg #[.int .u8 0,.int .u64 0,.int .u64 0]):=⟨by kernel_rfl,by kernel_rfl,by kernel_rfl,by kernel_rfl,by decide⟩
def F3:ElT prog 210 210 195 4 32 (.agg #[.int .i64 0,.int .i64 0,.int .i64 0,.bool false]):=⟨by kernel_rfl,by kernel_rfl,by kernel_rfl,by kernel_rfl,by decide⟩
def mw:ElT prog 34 34 63 2 16 (.agg #[.int .u64 0,.int .i64 0]):=⟨by kernel_rfl,by kernel_rfl,by kernel_rfl,by kernel_rfl,by decide⟩
def Qz:ElT prog 25 25 27 1 8 (.int .u64 0):=⟨by kernel_rfl,by kernel_rfl,by kernel_rfl,by kernel_rfl,by decide⟩
def F4 (p:Option Addr) (w:an) (k:K1):bn prog (.iface 31 (.pointer p)) "Err" #[] w k=ad prog 28 #[.pointer p] w k:=eE kR k
def zb (p:Option Addr) (a0 a1:bb) (w:an) (k:K1):bn prog (.iface 31 (.pointer p)) "Store" #[a0,a1] w k=ad prog 30 #[.pointer p,a0,a1] w k:=eE kR k
def zd (p:Option Addr) (a0:bb) (w:an) (k:K1):bn prog (.iface 31 (.pointer p)) "Flush" #[a0] w k=ad prog 101 #[.pointer p,a0] w k:=eE kR k
def ze (p:Option Addr) (w:an) (k:K1):bn prog (.iface 31 (.pointer p)) "Fence" #[] w k=ad prog 102 #[.pointer p] w k:=eE kR k
def BU (p:Option Addr) (w:an) (k:K1):bn prog (.iface 31 (.pointer p)) "Size" #[] w k=ad prog 105 #[.pointer p] w k:=eE kR k
def BV (p:Option Addr) (a0:bb) (w:an) (k:K1):bn prog (.iface 31 (.pointer p)) "Load" #[a0] w k=ad prog 32 #[.pointer p,a0] w k:=eE kR k
def RQ0:=
 ab (@qI prog 58 _ _ _ _ cZ)<|
 ab (@qI prog 51 _ _ _ _ BT)<|
 ab (@qI prog 152 _ _ _ _ F2)<|
 ab (@Qy prog 58 _ _ _ _ cZ)<|
 ab (@Qy prog 79 _ _ _ _ jy)<|
 ab (λx y p n c w k=>aa (@Go.Sh.run_eq_sl_nil prog 58 kR x y p n c w) k)<|
 ab (λx y p n c w k=>aa (@Go.Sh.run_eq_sl_nil prog 79 kR x y p n c w) k)<|
 ab (λty a n c w k=>ah (@Go.Sh.run_len prog 58 kR ty a n c w) k)<|
 ab (λty a n c w u=>aV (@Go.Sh.run_len prog 58 kR ty a n c w) u)<|
 ab (λty a n c w k=>ah (@Go.Sh.run_len prog 51 kR ty a n c w) k)<|
 ab (λty a n c w u=>aV (@Go.Sh.run_len prog 51 kR ty a n c w) u)<|
 (λty a n c w k=>ah (@Go.Sh.run_len prog 79 kR ty a n c w) k)
def RQ1:=
 ab (λty a n c w u=>aV (@Go.Sh.run_len prog 79 kR ty a n c w) u)<|
 ab (λty a n c w k=>ah (@Go.Sh.run_len prog 50 kR ty a n c w) k)<|
 ab (λty a n c w u=>aV (@Go.Sh.run_len prog 50 kR ty a n c w) u)<|
 ab (λty a n c w k=>ah (@Go.Sh.run_len prog 152 kR ty a n c w) k)<|
 ab (λty a n c w u=>aV (@Go.Sh.run_len prog 152 kR ty a n c w) u)<|
 ab (λty a n c w k=>ah (@Go.Sh.run_len prog 120 kR ty a n c w) k)<|
 ab (λty a n c w u=>aV (@Go.Sh.run_len prog 120 kR ty a n c w) u)<|
 ab (λty a n c w k=>ah (@Go.Sh.run_len prog 254 kR ty a n c w) k)<|
 ab (λty a n c w u=>aV (@Go.Sh.run_len prog 254 kR ty a n c w) u)<|
 ab (λty a n c w k=>ah (@Go.Sh.run_len prog 248 kR ty a n c w) k)<|
 ab (λty a n c w u=>aV (@Go.Sh.run_len prog 248 kR ty a n c w) u)<|
 (λty a n c w k=>ah (@Go.Sh.run_len prog 210 kR ty a n c w) k)
def RQ2:=
 ab (λty a n c w u=>aV (@Go.Sh.run_len prog 210 kR ty a n c w) u)<|
 ab (λty a n c w k=>ah (@Go.Sh.run_len prog 25 kR ty a n c w) k)<|
 ab (λty a n c w u=>aV (@Go.Sh.run_len prog 25 kR ty a n c w) u)<|
 ab (λty a n c w k=>ah (@Go.Sh.run_len prog 213 kR ty a n c w) k)<|
 ab (λty a n c w u=>aV (@Go.Sh.run_len prog 213 kR ty a n c w) u)<|
 ab (λty a n c w k=>ah (@Go.Sh.run_len prog 34 kR ty a n c w) k)<|
 ab (λty a n c w u=>aV (@Go.Sh.run_len prog 34 kR ty a n c w) u)<|
 ab (λb o len cap kd n w (k:K1) h=>aa (ge jy b o len cap kd n w h) k)<|
 ab (λb o len cap kd n w (k:K1) h=>aa (iY jy b o len cap kd n w h) k)<|
 ab (λb o len cap kd n w (k:bb->Prop) h=>ah (ge jy b o len cap kd n w h) k)<|
 ab (λb o len cap kd n w (k:bb->Prop) h=>ah (iY jy b o len cap kd n w h) k)<|
 (λb o len cap kd n w (k:K1) h=>aa (ge cZ b o len cap kd n w h) k)
def RQ3:=
 ab (λb o len cap kd n w (k:K1) h=>aa (iY cZ b o len cap kd n w h) k)<|
 ab (λb o len cap kd n w (k:bb->Prop) h=>ah (ge cZ b o len cap kd n w h) k)<|
 ab (λb o len cap kd n w (k:bb->Prop) h=>ah (iY cZ b o len cap kd n w h) k)<|
 ab (λb o len cap kd n w (k:K1) h=>aa (ge de b o len cap kd n w h) k)<|
 ab (λb o len cap kd n w (k:K1) h=>aa (iY de b o len cap kd n w h) k)<|
 ab (λb o len cap kd n w (k:bb->Prop) h=>ah (ge de b o len cap kd n w h) k)<|
 ab (λb o len cap kd n w (k:bb->Prop) h=>ah (iY de b o len cap kd n w h) k)<|
 ab (λb o len cap kd n w (k:K1) h=>aa (ge mw b o len cap kd n w h) k)<|
 ab (λb o len cap kd n w (k:K1) h=>aa (iY mw b o len cap kd n w h) k)<|
 ab (λb o len cap kd n w (k:bb->Prop) h=>ah (ge mw b o len cap kd n w h) k)<|
 ab (λb o len cap kd n w (k:bb->Prop) h=>ah (iY mw b o len cap kd n w h) k)<|
 (λt x y (a:Nat) (n:Int) w (k:K1) (h0:0<=n) (hn:n<=8)=>aa (Go.Sh.run_shr_i (P:=prog) (k:= .u8) t x y a n w h0 hn) k)
def RQ4:=
 ab (λt x y (a:Nat) (n:Int) w (k:K1) (h0:0<=n) (hn:n<=8)=>aa (show (aC .shl t x y (.int .u8 (a:Int)) (.int .i64 n)).run prog w= .ok (.int .u8 ((a*2^n.toNat%256:Nat):Int)) w from Go.Sh.run_shl_i (k:= .u8) rfl t x y a n w h0 hn) k)<|
 ab (λt x y (a:Nat) (n:Int) w (k:bb->Prop) (h0:0<=n) (hn:n<=8)=>ah (Go.Sh.run_shr_i (P:=prog) (k:= .u8) t x y a n w h0 hn) k)<|
 ab (λt x y (a:Nat) (n:Int) w (k:bb->Prop) (h0:0<=n) (hn:n<=8)=>ah (show (aC .shl t x y (.int .u8 (a:Int)) (.int .i64 n)).run prog w= .ok (.int .u8 ((a*2^n.toNat%256:Nat):Int)) w from Go.Sh.run_shl_i (k:= .u8) rfl t x y a n w h0 hn) k)<|
 ab (λt x y (a:Nat) (n:Int) w (k:K1) (h0:0<=n) (hn:n<=16)=>aa (Go.Sh.run_shr_i (P:=prog) (k:= .u16) t x y a n w h0 hn) k)<|
 ab (λt x y (a:Nat) (n:Int) w (k:K1) (h0:0<=n) (hn:n<=16)=>aa (show (aC .shl t x y (.int .u16 (a:Int)) (.int .i64 n)).run prog w= .ok (.int .u16 ((a*2^n.toNat%65536:Nat):Int)) w from Go.Sh.run_shl_i (k:= .u16) rfl t x y a n w h0 hn) k)<|
 ab (λt x y (a:Nat) (n:Int) w (k:bb->Prop) (h0:0<=n) (hn:n<=16)=>ah (Go.Sh.run_shr_i (P:=prog) (k:= .u16) t x y a n w h0 hn) k)<|
 ab (λt x y (a:Nat) (n:Int) w (k:bb->Prop) (h0:0<=n) (hn:n<=16)=>ah (show (aC .shl t x y (.int .u16 (a:Int)) (.int .i64 n)).run prog w= .ok (.int .u16 ((a*2^n.toNat%65536:Nat):Int)) w from Go.Sh.run_shl_i (k:= .u16) rfl t x y a n w h0 hn) k)<|
 ab (λt x y (a:Nat) (n:Int) w (k:K1) (h0:0<=n) (hn:n<=32)=>aa (Go.Sh.run_shr_i (P:=prog) (k:= .u32) t x y a n w h0 hn) k)<|
 ab (λt x y (a:Nat) (n:Int) w (k:K1) (h0:0<=n) (hn:n<=32)=>aa (show (aC .shl t x y (.int .u32 (a:Int)) (.int .i64 n)).run prog w= .ok (.int .u32 ((a*2^n.toNat%4294967296:Nat):Int)) w from Go.Sh.run_shl_i (k:= .u32) rfl t x y a n w h0 hn) k)<|
 ab (λt x y (a:Nat) (n:Int) w (k:bb->Prop) (h0:0<=n) (hn:n<=32)=>ah (Go.Sh.run_shr_i (P:=prog) (k:= .u32) t x y a n w h0 hn) k)<|
 ab (λt x y (a:Nat) (n:Int) w (k:bb->Prop) (h0:0<=n) (hn:n<=32)=>ah (show (aC .shl t x y (.int .u32 (a:Int)) (.int .i64 n)).run prog w= .ok (.int .u32 ((a*2^n.toNat%4294967296:Nat):Int)) w from Go.Sh.run_shl_i (k:= .u32) rfl t x y a n w h0 hn) k)<|
 (λt x y (a:Nat) (n:Int) w (k:K1) (h0:0<=n) (hn:n<=64)=>aa (Go.Sh.run_shr_i (P:=prog) (k:= .u64) t x y a n w h0 hn) k)
def RQ5:=
 ab (λt x y (a:Nat) (n:Int) w (k:K1) (h0:0<=n) (hn:n<=64)=>aa (show (aC .shl t x y (.int .u64 (a:Int)) (.int .i64 n)).run prog w= .ok (.int .u64 ((a*2^n.toNat%18446744073709551616:Nat):Int)) w from Go.Sh.run_shl_i (k:= .u64) rfl t x y a n w h0 hn) k)<|
 ab (λt x y (a:Nat) (n:Int) w (k:bb->Prop) (h0:0<=n) (hn:n<=64)=>ah (Go.Sh.run_shr_i (P:=prog) (k:= .u64) t x y a n w h0 hn) k)<|
 ab (λt x y (a:Nat) (n:Int) w (k:bb->Prop) (h0:0<=n) (hn:n<=64)=>ah (show (aC .shl t x y (.int .u64 (a:Int)) (.int .i64 n)).run prog w= .ok (.int .u64 ((a*2^n.toNat%18446744073709551616:Nat):Int)) w from Go.Sh.run_shl_i (k:= .u64) rfl t x y a n w h0 hn) k)<|
 ab (@dM prog 145)<|
 ab (@dM prog 110)<|
 ab (@dM prog 159)<|
 ab (@dM prog 214)<|
 ab (@dM prog 108)<|
 ab (@dM prog 109)<|
 ab (@dM prog 238)<|
 ab (λb o kd i w k h0 h1=>ah (@Go.Sh.run_indexArr prog 153 8 1 kR b o kd i w h0 h1) k)<|
 (λb o kd i w k h0 h1=>ah (@Go.Sh.run_indexArr prog 182 5 1 kR b o kd i w h0 h1) k)
def RQ6:=
 ab (λb o kd i w k h0 h1=>ah (@Go.Sh.run_indexArr prog 257 16 1 kR b o kd i w h0 h1) k)<|
 ab F4<|
 ab zb<|
 ab zd<|
 ab ze<|
 ab BU<|
 BV
def RA2:=ab RQ0<|ab RQ1<|ab RQ2<|ab RQ3<|ab RQ4<|ab RQ5<|RQ6
def dU {p:Prop} (h:p:=by first|omega|(simp only [Go.Sh.RO];done)|(simp only [Go.Sh.RZ]<;>omega)|fail):p:=h
def dV {p:Prop} (h:p:=by first|omega|(simp only [Go.Sh.RO];done)|(simp only [Go.Sh.RZ]<;>omega)|((with_reducible (repeat (first|assumption|exact Go.Sh.Ext.refl _|refine Go.Sh.Ext.alloc ?_ _|refine Go.Sh.Ext.drew ?_|refine Go.Sh.Ext.trans ?_ (by assumption))));done)|fail):p:=h
def ak {P A B p q:Prop} (a:p->A) (b:q->B) (h:(p->A)->(q->B)->P:=by intro a b;with_reducible exact y4 a b):P:=h a b
def am {P A B:Prop} (a:A) (b:B) (h:A->B->P:=by intro a b;with_reducible exact And.intro a b):P:=h a b
set_option linter.defProp false in
def RZ9:=ab RB<|ab RX RA2
def zS0 {P Q:Prop} (q:Q) (h:Q->P:=by intro q;simp (disch:=try exact dU) only [↓RBp,↓RA,↓reduceIte,Nat.reduceAdd,Nat.reduceMul,Nat.reduceEqDiff,RZ9];exact q):P:=h q
def yS0 {P:Prop} (h:P:=by simp (disch:=try exact dU) only [↓RBp,↓RA,↓reduceIte,Nat.reduceAdd,Nat.reduceMul,Nat.reduceEqDiff,RZ9]):P:=h
def zS1 {P Q:Prop} {A0:Prop} (a0:A0) (q:Q) (h:A0->Q->P:=by intro a0 q;simp (disch:=try exact dU) only [↓RBp,↓RA,↓reduceIte,Nat.reduceAdd,Nat.reduceMul,Nat.reduceEqDiff,RZ9,a0];exact q):P:=h a0 q
def yS1 {P:Prop} {A0:Prop} (a0:A0) (h:A0->P:=by intro a0;simp (disch:=try exact dU) only [↓RBp,↓RA,↓reduceIte,Nat.reduceAdd,Nat.reduceMul,Nat.reduceEqDiff,RZ9,a0]):P:=h a0
def zS2 {P Q:Prop} {A0 A1:Prop} (a0:A0) (a1:A1) (q:Q) (h:A0->A1->Q->P:=by intro a0 a1 q;simp (disch:=try exact dU) only [↓RBp,↓RA,↓reduceIte,Nat.reduceAdd,Nat.reduceMul,Nat.reduceEqDiff,RZ9,a0,a1];exact q):P:=h a0 a1 q
def yS2 {P:Prop} {A0 A1:Prop} (a0:A0) (a1:A1) (h:A0->A1->P:=by intro a0 a1;simp (disch:=try exact dU) only [↓RBp,↓RA,↓reduceIte,Nat.reduceAdd,Nat.reduceMul,Nat.reduceEqDiff,RZ9,a0,a1]):P:=h a0 a1
def zS3 {P Q:Prop} {A0 A1 A2:Prop} (a0:A0) (a1:A1) (a2:A2) (q:Q) (h:A0->A1->A2->Q->P:=by intro a0 a1 a2 q;simp (disch:=try exact dU) only [↓RBp,↓RA,↓reduceIte,Nat.reduceAdd,Nat.reduceMul,Nat.reduceEqDiff,RZ9,a0,a1,a2];exact q):P:=h a0 a1 a2 q
def yS3 {P:Prop} {A0 A1 A2:Prop} (a0:A0) (a1:A1) (a2:A2) (h:A0->A1->A2->P:=by intro a0 a1 a2;simp (disch:=try exact dU) only [↓RBp,↓RA,↓reduceIte,Nat.reduceAdd,Nat.reduceMul,Nat.reduceEqDiff,RZ9,a0,a1,a2]):P:=h a0 a1 a2
def zS4 {P Q:Prop} {A0 A1 A2 A3:Prop} (a0:A0) (a1:A1) (a2:A2) (a3:A3) (q:Q) (h:A0->A1->A2->A3->Q->P:=by intro a0 a1 a2 a3 q;simp (disch:=try exact dU) only [↓RBp,↓RA,↓reduceIte,Nat.reduceAdd,Nat.reduceMul,Nat.reduceEqDiff,RZ9,a0,a1,a2,a3];exact q):P:=h a0 a1 a2 a3 q
def yS4 {P:Prop} {A0 A1 A2 A3:Prop} (a0:A0) (a1:A1) (a2:A2) (a3:A3) (h:A0->A1->A2->A3->P:=by intro a0 a1 a2 a3;simp (disch:=try exact dU) only [↓RBp,↓RA,↓reduceIte,Nat.reduceAdd,Nat.reduceMul,Nat.reduceEqDiff,RZ9,a0,a1,a2,a3]):P:=h a0 a1 a2 a3
def zS6 {P Q:Prop} {A0 A1 A2 A3 A4 A5:Prop} (a0:A0) (a1:A1) (a2:A2) (a3:A3) (a4:A4) (a5:A5) (q:Q) (h:A0->A1->A2->A3->A4->A5->Q->P:=by intro a0 a1 a2 a3 a4 a5 q;simp (disch:=try exact dU) only [↓RBp,↓RA,↓reduceIte,Nat.reduceAdd,Nat.reduceMul,Nat.reduceEqDiff,RZ9,a0,a1,a2,a3,a4,a5];exact q):P:=h a0 a1 a2 a3 a4 a5 q
def yS6 {P:Prop} {A0 A1 A2 A3 A4 A5:Prop} (a0:A0) (a1:A1) (a2:A2) (a3:A3) (a4:A4) (a5:A5) (h:A0->A1->A2->A3->A4->A5->P:=by intro a0 a1 a2 a3 a4 a5;simp (disch:=try exact dU) only [↓RBp,↓RA,↓reduceIte,Nat.reduceAdd,Nat.reduceMul,Nat.reduceEqDiff,RZ9,a0,a1,a2,a3,a4,a5]):P:=h a0 a1 a2 a3 a4 a5
def zS8 {P Q:Prop} {A0 A1 A2 A3 A4 A5 A6 A7:Prop} (a0:A0) (a1:A1) (a2:A2) (a3:A3) (a4:A4) (a5:A5) (a6:A6) (a7:A7) (q:Q) (h:A0->A1->A2->A3->A4->A5->A6->A7->Q->P:=by intro a0 a1 a2 a3 a4 a5 a6 a7 q;simp (disch:=try exact dU) only [↓RBp,↓RA,↓reduceIte,Nat.reduceAdd,Nat.reduceMul,Nat.reduceEqDiff,RZ9,a0,a1,a2,a3,a4,a5,a6,a7];exact q):P:=h a0 a1 a2 a3 a4 a5 a6 a7 q
def yS8 {P:Prop} {A0 A1 A2 A3 A4 A5 A6 A7:Prop} (a0:A0) (a1:A1) (a2:A2) (a3:A3) (a4:A4) (a5:A5) (a6:A6) (a7:A7) (h:A0->A1->A2->A3->A4->A5->A6->A7->P:=by intro a0 a1 a2 a3 a4 a5 a6 a7;simp (disch:=try exact dU) only [↓RBp,↓RA,↓reduceIte,Nat.reduceAdd,Nat.reduceMul,Nat.reduceEqDiff,RZ9,a0,a1,a2,a3,a4,a5,a6,a7]):P:=h a0 a1 a2 a3 a4 a5 a6 a7
def lC {P Q:Prop} {A0 A1 A2 A3 A4 A5 A6 A7 A8 A9 b:Prop} (a0:A0) (a1:A1) (a2:A2) (a3:A3) (a4:A4) (a5:A5) (a6:A6) (a7:A7) (a8:A8) (a9:A9) (a:b) (q:Q) (h:A0->A1->A2->A3->A4->A5->A6->A7->A8->A9->b->Q->P:=by intro a0 a1 a2 a3 a4 a5 a6 a7 a8 a9 a q;simp (disch:=try exact dU) only [↓RBp,↓RA,↓reduceIte,Nat.reduceAdd,Nat.reduceMul,Nat.reduceEqDiff,RZ9,a0,a1,a2,a3,a4,a5,a6,a7,a8,a9,a];exact q):P:=h a0 a1 a2 a3 a4 a5 a6 a7 a8 a9 a q
def uu {P:Prop} {A0 A1 A2 A3 A4 A5 A6 A7 A8 A9 b:Prop} (a0:A0) (a1:A1) (a2:A2) (a3:A3) (a4:A4) (a5:A5) (a6:A6) (a7:A7) (a8:A8) (a9:A9) (a:b) (h:A0->A1->A2->A3->A4->A5->A6->A7->A8->A9->b->P:=by intro a0 a1 a2 a3 a4 a5 a6 a7 a8 a9 a;simp (disch:=try exact dU) only [↓RBp,↓RA,↓reduceIte,Nat.reduceAdd,Nat.reduceMul,Nat.reduceEqDiff,RZ9,a0,a1,a2,a3,a4,a5,a6,a7,a8,a9,a]):P:=h a0 a1 a2 a3 a4 a5 a6 a7 a8 a9 a
def QB {P Q:Prop} {A0 A1 A2 A3 A4 A5 A6 A7 A8 A9 i g e f:Prop} (a0:A0) (a1:A1) (a2:A2) (a3:A3) (a4:A4) (a5:A5) (a6:A6) (a7:A7) (a8:A8) (a9:A9) (a:i) (b:g) (c:e) (d:f) (q:Q) (h:A0->A1->A2->A3->A4->A5->A6->A7->A8->A9->i->g->e->f->Q->P:=by intro a0 a1 a2 a3 a4 a5 a6 a7 a8 a9 a b c d q;simp (disch:=try exact dU) only [↓RBp,↓RA,↓reduceIte,Nat.reduceAdd,Nat.reduceMul,Nat.reduceEqDiff,RZ9,a0,a1,a2,a3,a4,a5,a6,a7,a8,a9,a,b,c,d];exact q):P:=h a0 a1 a2 a3 a4 a5 a6 a7 a8 a9 a b c d q
def aaN {P:Prop} {A0 A1 A2 A3 A4 A5 A6 A7 A8 A9 i g e f:Prop} (a0:A0) (a1:A1) (a2:A2) (a3:A3) (a4:A4) (a5:A5) (a6:A6) (a7:A7) (a8:A8) (a9:A9) (a:i) (b:g) (c:e) (d:f) (h:A0->A1->A2->A3->A4->A5->A6->A7->A8->A9->i->g->e->f->P:=by intro a0 a1 a2 a3 a4 a5 a6 a7 a8 a9 a b c d;simp (disch:=try exact dU) only [↓RBp,↓RA,↓reduceIte,Nat.reduceAdd,Nat.reduceMul,Nat.reduceEqDiff,RZ9,a0,a1,a2,a3,a4,a5,a6,a7,a8,a9,a,b,c,d]):P:=h a0 a1 a2 a3 a4 a5 a6 a7 a8 a9 a b c d
def aaO {P Q:Prop} {A0 A1 A2 A3 A4 A5 A6 A7 A8 A9 r n j k o m l p:Prop} (a0:A0) (a1:A1) (a2:A2) (a3:A3) (a4:A4) (a5:A5) (a6:A6) (a7:A7) (a8:A8) (a9:A9) (c:r) (d:n) (g:j) (i:k) (a:o) (e:m) (b:l) (f:p) (q:Q) (h:A0->A1->A2->A3->A4->A5->A6->A7->A8->A9->r->n->j->k->o->m->l->p->Q->P:=by intro a0 a1 a2 a3 a4 a5 a6 a7 a8 a9 c d g i a e b f q;simp (disch:=try exact dU) only [↓RBp,↓RA,↓reduceIte,Nat.reduceAdd,Nat.reduceMul,Nat.reduceEqDiff,RZ9,a0,a1,a2,a3,a4,a5,a6,a7,a8,a9,c,d,g,i,a,e,b,f];exact q):P:=h a0 a1 a2 a3 a4 a5 a6 a7 a8 a9 c d g i a e b f q
def aaP {P:Prop} {A0 A1 A2 A3 A4 A5 A6 A7 A8 A9 q n j k o m l p:Prop} (a0:A0) (a1:A1) (a2:A2) (a3:A3) (a4:A4) (a5:A5) (a6:A6) (a7:A7) (a8:A8) (a9:A9) (c:q) (d:n) (g:j) (i:k) (a:o) (e:m) (b:l) (f:p) (h:A0->A1->A2->A3->A4->A5->A6->A7->A8->A9->q->n->j->k->o->m->l->p->P:=by intro a0 a1 a2 a3 a4 a5 a6 a7 a8 a9 c d g i a e b f;simp (disch:=try exact dU) only [↓RBp,↓RA,↓reduceIte,Nat.reduceAdd,Nat.reduceMul,Nat.reduceEqDiff,RZ9,a0,a1,a2,a3,a4,a5,a6,a7,a8,a9,c,d,g,i,a,e,b,f]):P:=h a0 a1 a2 a3 a4 a5 a6 a7 a8 a9 c d g i a e b f
def F5 {P Q:Prop} (q:Q) (h:Q->P:=by intro q;simp (disch:=try exact dV) only [↓RBp,↓RA,↓reduceIte,Nat.reduceAdd,Nat.reduceMul,Nat.reduceEqDiff,RZ9];exact q):P:=h q
def gG {P Q:Prop} {A0:Prop} (a0:A0) (q:Q) (h:A0->Q->P:=by intro a0 q;simp (disch:=try exact dV) only [↓RBp,↓RA,↓reduceIte,Nat.reduceAdd,Nat.reduceMul,Nat.reduceEqDiff,RZ9,a0];exact q):P:=h a0 q
def BW {P:Prop} {A0:Prop} (a0:A0) (h:A0->P:=by intro a0;simp (disch:=try exact dV) only [↓RBp,↓RA,↓reduceIte,Nat.reduceAdd,Nat.reduceMul,Nat.reduceEqDiff,RZ9,a0]):P:=h a0
def fC {P Q:Prop} {A0 A1:Prop} (a0:A0) (a1:A1) (q:Q) (h:A0->A1->Q->P:=by intro a0 a1 q;simp (disch:=try exact dV) only [↓RBp,↓RA,↓reduceIte,Nat.reduceAdd,Nat.reduceMul,Nat.reduceEqDiff,RZ9,a0,a1];exact q):P:=h a0 a1 q
def F6 {P:Prop} {A0 A1:Prop} (a0:A0) (a1:A1) (h:A0->A1->P:=by intro a0 a1;simp (disch:=try exact dV) only [↓RBp,↓RA,↓reduceIte,Nat.reduceAdd,Nat.reduceMul,Nat.reduceEqDiff,RZ9,a0,a1]):P:=h a0 a1
def eQ {P Q:Prop} {A0 A1 A2:Prop} (a0:A0) (a1:A1) (a2:A2) (q:Q) (h:A0->A1->A2->Q->P:=by intro a0 a1 a2 q;simp (disch:=try exact dV) only [↓RBp,↓RA,↓reduceIte,Nat.reduceAdd,Nat.reduceMul,Nat.reduceEqDiff,RZ9,a0,a1,a2];exact q):P:=h a0 a1 a2 q
def BX {P:Prop} {A0 A1 A2:Prop} (a0:A0) (a1:A1) (a2:A2) (h:A0->A1->A2->P:=by intro a0 a1 a2;simp (disch:=try exact dV) only [↓RBp,↓RA,↓reduceIte,Nat.reduceAdd,Nat.reduceMul,Nat.reduceEqDiff,RZ9,a0,a1,a2]):P:=h a0 a1 a2
def rN {P Q:Prop} {A0 A1 A2 A3:Prop} (a0:A0) (a1:A1) (a2:A2) (a3:A3) (q:Q) (h:A0->A1->A2->A3->Q->P:=by intro a0 a1 a2 a3 q;simp (disch:=try exact dV) only [↓RBp,↓RA,↓reduceIte,Nat.reduceAdd,Nat.reduceMul,Nat.reduceEqDiff,RZ9,a0,a1,a2,a3];exact q):P:=h a0 a1 a2 a3 q
def Xo {P:Prop} {A0 A1 A2 A3:Prop} (a0:A0) (a1:A1) (a2:A2) (a3:A3) (h:A0->A1->A2->A3->P:=by intro a0 a1 a2 a3;simp (disch:=try exact dV) only [↓RBp,↓RA,↓reduceIte,Nat.reduceAdd,Nat.reduceMul,Nat.reduceEqDiff,RZ9,a0,a1,a2,a3]):P:=h a0 a1 a2 a3
def dY {P Q:Prop} {A0 A1 A2 A3 A4 A5:Prop} (a0:A0) (a1:A1) (a2:A2) (a3:A3) (a4:A4) (a5:A5) (q:Q) (h:A0->A1->A2->A3->A4->A5->Q->P:=by intro a0 a1 a2 a3 a4 a5 q;simp (disch:=try exact dV) only [↓RBp,↓RA,↓reduceIte,Nat.reduceAdd,Nat.reduceMul,Nat.reduceEqDiff,RZ9,a0,a1,a2,a3,a4,a5];exact q):P:=h a0 a1 a2 a3 a4 a5 q
def Xp {P:Prop} {A0 A1 A2 A3 A4 A5:Prop} (a0:A0) (a1:A1) (a2:A2) (a3:A3) (a4:A4) (a5:A5) (h:A0->A1->A2->A3->A4->A5->P:=by intro a0 a1 a2 a3 a4 a5;simp (disch:=try exact dV) only [↓RBp,↓RA,↓reduceIte,Nat.reduceAdd,Nat.reduceMul,Nat.reduceEqDiff,RZ9,a0,a1,a2,a3,a4,a5]):P:=h a0 a1 a2 a3 a4 a5
def fp {P Q:Prop} {A0 A1 A2 A3 A4 A5 A6 A7:Prop} (a0:A0) (a1:A1) (a2:A2) (a3:A3) (a4:A4) (a5:A5) (a6:A6) (a7:A7) (q:Q) (h:A0->A1->A2->A3->A4->A5->A6->A7->Q->P:=by intro a0 a1 a2 a3 a4 a5 a6 a7 q;simp (disch:=try exact dV) only [↓RBp,↓RA,↓reduceIte,Nat.reduceAdd,Nat.reduceMul,Nat.reduceEqDiff,RZ9,a0,a1,a2,a3,a4,a5,a6,a7];exact q):P:=h a0 a1 a2 a3 a4 a5 a6 a7 q
def BY {P:Prop} {A0 A1 A2 A3 A4 A5 A6 A7:Prop} (a0:A0) (a1:A1) (a2:A2) (a3:A3) (a4:A4) (a5:A5) (a6:A6) (a7:A7) (h:A0->A1->A2->A3->A4->A5->A6->A7->P:=by intro a0 a1 a2 a3 a4 a5 a6 a7;simp (disch:=try exact dV) only [↓RBp,↓RA,↓reduceIte,Nat.reduceAdd,Nat.reduceMul,Nat.reduceEqDiff,RZ9,a0,a1,a2,a3,a4,a5,a6,a7]):P:=h a0 a1 a2 a3 a4 a5 a6 a7
def jk {P Q:Prop} {A0 A1 A2 A3 A4 A5 A6 A7 A8 A9 b:Prop} (a0:A0) (a1:A1) (a2:A2) (a3:A3) (a4:A4) (a5:A5) (a6:A6) (a7:A7) (a8:A8) (a9:A9) (a:b) (q:Q) (h:A0->A1->A2->A3->A4->A5->A6->A7->A8->A9->b->Q->P:=by intro a0 a1 a2 a3 a4 a5 a6 a7 a8 a9 a q;simp (disch:=try exact dV) only [↓RBp,↓RA,↓reduceIte,Nat.reduceAdd,Nat.reduceMul,Nat.reduceEqDiff,RZ9,a0,a1,a2,a3,a4,a5,a6,a7,a8,a9,a];exact q):P:=h a0 a1 a2 a3 a4 a5 a6 a7 a8 a9 a q
def rO {P:Prop} {A0 A1 A2 A3 A4 A5 A6 A7 A8 A9 b:Prop} (a0:A0) (a1:A1) (a2:A2) (a3:A3) (a4:A4) (a5:A5) (a6:A6) (a7:A7) (a8:A8) (a9:A9) (a:b) (h:A0->A1->A2->A3->A4->A5->A6->A7->A8->A9->b->P:=by intro a0 a1 a2 a3 a4 a5 a6 a7 a8 a9 a;simp (disch:=try exact dV) only [↓RBp,↓RA,↓reduceIte,Nat.reduceAdd,Nat.reduceMul,Nat.reduceEqDiff,RZ9,a0,a1,a2,a3,a4,a5,a6,a7,a8,a9,a]):P:=h a0 a1 a2 a3 a4 a5 a6 a7 a8 a9 a
def IZ {P Q:Prop} {A0 A1 A2 A3 A4 A5 A6 A7 A8 A9 i g e f:Prop} (a0:A0) (a1:A1) (a2:A2) (a3:A3) (a4:A4) (a5:A5) (a6:A6) (a7:A7) (a8:A8) (a9:A9) (a:i) (b:g) (c:e) (d:f) (q:Q) (h:A0->A1->A2->A3->A4->A5->A6->A7->A8->A9->i->g->e->f->Q->P:=by intro a0 a1 a2 a3 a4 a5 a6 a7 a8 a9 a b c d q;simp (disch:=try exact dV) only [↓RBp,↓RA,↓reduceIte,Nat.reduceAdd,Nat.reduceMul,Nat.reduceEqDiff,RZ9,a0,a1,a2,a3,a4,a5,a6,a7,a8,a9,a,b,c,d];exact q):P:=h a0 a1 a2 a3 a4 a5 a6 a7 a8 a9 a b c d q
def I1 {P:Prop} {A0 A1 A2 A3 A4 A5 A6 A7 A8 A9 i g e f:Prop} (a0:A0) (a1:A1) (a2:A2) (a3:A3) (a4:A4) (a5:A5) (a6:A6) (a7:A7) (a8:A8) (a9:A9) (a:i) (b:g) (c:e) (d:f) (h:A0->A1->A2->A3->A4->A5->A6->A7->A8->A9->i->g->e->f->P:=by intro a0 a1 a2 a3 a4 a5 a6 a7 a8 a9 a b c d;simp (disch:=try exact dV) only [↓RBp,↓RA,↓reduceIte,Nat.reduceAdd,Nat.reduceMul,Nat.reduceEqDiff,RZ9,a0,a1,a2,a3,a4,a5,a6,a7,a8,a9,a,b,c,d]):P:=h a0 a1 a2 a3 a4 a5 a6 a7 a8 a9 a b c d
def qe {P Q:Prop} {A0 A1 A2 A3 A4 A5 A6 A7 A8 A9 r n j k o m l p:Prop} (a0:A0) (a1:A1) (a2:A2) (a3:A3) (a4:A4) (a5:A5) (a6:A6) (a7:A7) (a8:A8) (a9:A9) (c:r) (d:n) (g:j) (i:k) (a:o) (e:m) (b:l) (f:p) (q:Q) (h:A0->A1->A2->A3->A4->A5->A6->A7->A8->A9->r->n->j->k->o->m->l->p->Q->P:=by intro a0 a1 a2 a3 a4 a5 a6 a7 a8 a9 c d g i a e b f q;simp (disch:=try exact dV) only [↓RBp,↓RA,↓reduceIte,Nat.reduceAdd,Nat.reduceMul,Nat.reduceEqDiff,RZ9,a0,a1,a2,a3,a4,a5,a6,a7,a8,a9,c,d,g,i,a,e,b,f];exact q):P:=h a0 a1 a2 a3 a4 a5 a6 a7 a8 a9 c d g i a e b f q
def ltN (x y:Nat):Bool:=decide (x<y)
def zf:Go.Sort.SWO ltN:=⟨λx=>by simp [ltN],λx y z=>by simp [ltN];omega,λx y z=>by simp [ltN];omega⟩
def Ar (w:an) (b o:Nat) (d:Array Nat):Prop:=∃a:Array bb,w.heap[b]? =some (.cells a 26 (0,0))/\o+d.size<=a.size/\∀i,i<d.size->a[o+i]? =some (.int .u64 ((d[i]! :Nat):Int))
section
variable {w w':an} {b o:Nat} {d:Array Nat}
def Ar.lt (h:Ar w b o d):b<w.heap.size:=by obtain ⟨a,h,_⟩:=h;exact aF h
def Ar.drew (h:Ar w b o d):Ar w.drew b o d:=h
def Ar.cell (h:Ar w b o d) (i:Nat) (hi:i<d.size):w.cell? ⟨b,o+i,none⟩=some (.int .u64 ((d[i]! :Nat):Int)):=by
 obtain ⟨a,h,_,h2⟩:=h;rw [jt h];exact h2 i hi
def Ar.frz (h:Ar w b o d) (i:Nat):w.frozen? ⟨b,i,none⟩=false:=by
 obtain ⟨a,h,_⟩:=h;unfold World.frozen?;simp only [h];simp
def Ar.set (h:Ar w b o d) (i x:Nat) (hi:i<d.size):Ar (w.setCell ⟨b,o+i,none⟩ (.int .u64 (x:Int))) b o (d.setIfInBounds i x):=by
 obtain ⟨a,h,hs,hf⟩:=h;refine ⟨a.setIfInBounds (o+i) (.int .u64 (x:Int)),?_,by simpa using hs,?_⟩
 ·simp only [World.setCell,da,h];simp
 ·intro j hj;rw [Array.size_setIfInBounds] at hj;rw [er];by_cases e:i=j
  ·subst e;have:o+i<a.size:=oM;simp [this,hi]
  ·have e':¬o+i=o+j:=oM;rw [if_neg e',hf j hj];simp [Array.getElem!_eq_getD,Array.getD_eq_getD_getElem?,er,e]
def Ar.set_ne (h:Ar w b o d) (b' i:Nat) (v:bb) (hb:b'≠b):Ar (w.setCell ⟨b',i,none⟩ v) b o d:=by
 obtain ⟨a,h,h2⟩:=h;exact ⟨a,by rw [ff v (Ne.symm hb)];exact h,h2⟩
def Ar.alloc (h:Ar w b o d) (x:Obj):Ar (w.alloc x) b o d:=by
 have hl:=h.lt;obtain ⟨a,h,h2⟩:=h;exact ⟨a,by rw [bg _ hl];exact h,h2⟩
def Ar.frm {F:Nat->Prop} (h:Ar w b o d) (e:Frm F w w') (hF:¬F b):Ar w' b o d:=by
 have hl:=h.lt;obtain ⟨a,h,h2⟩:=h;exact ⟨a,by rw [e.block b hl hF];exact h,h2⟩
def QC (d:Array Nat) (i j:Nat):Go.Sort.swp d i j=(d.setIfInBounds i d[j]!).setIfInBounds j d[i]! :=rfl
def bE (d:Array Nat) (i j:Nat):(Go.Sort.swp d i j).size=d.size:=by simp [QC]
structure SW (w0 w:an) (b o:Nat) (d:Array Nat):Prop where
 ar:Ar w b o d
 frm:Frm (λx=>x=b) w0 w
def SW.refl (h:Ar w b o d):SW w w b o d:=⟨h,Frm.refl _ _⟩
def SW.drew {w0:an} (h:SW w0 w b o d):SW w0 w.drew b o d:=⟨h.ar,h.frm.drew⟩
def SW.trans {w0 w1 w2:an} {d1 d2:Array Nat} (h:SW w0 w1 b o d1) (k:SW w1 w2 b o d2):SW w0 w2 b o d2:=⟨k.ar,h.frm.trans k.frm (λ_ _ h=>h)⟩
def SW.swp {w0:an} (h:SW w0 w b o d) (i j:Nat) (hi:i<d.size) (hj:j<d.size):SW w0 ((w.setCell ⟨b,o+i,none⟩ (.int .u64 ((d[j]! :Nat):Int))).setCell ⟨b,o+j,none⟩ (.int .u64 ((d[i]! :Nat):Int))) b o (Go.Sort.swp d i j):=by
 refine ⟨?_,(h.frm.set _ (λ_=>rfl)).set _ (λ_=>rfl)⟩;have:=(h.ar.set i d[j]! hi).set j d[i]! (by simpa using hj);rw [QC];exact this
def SW.set1 {w0:an} (h:SW w0 w b o d) (i x:Nat) (hi:i<d.size):SW w0 (w.setCell ⟨b,o+i,none⟩ (.int .u64 (x:Int))) b o (d.setIfInBounds i x):=⟨h.ar.set i x hi,h.frm.set _ (λ_=>rfl)⟩
end
def Y0 (x:Nat) (w:an) (K:K1):ad prog 220 #[.int .u64 (x:Int)] w K=K (.bool false) w:=by
 refine ao (by kernel_rfl) (MK _ _ _ ?_) K;unfold Qo
 (repeat' first|refine ak (λ_=> ?_) (λ_=> ?_)|refine am ?_ ?_|refine zS0 ?_|exact yS0|fail)
def aG (x y:Nat) (w:an) (K:K1):ad prog 207 #[.int .u64 (x:Int),.int .u64 (y:Int)] w K=K (.bool (ltN x y)) w:=by
 refine ao (by kernel_rfl) (MB _ _ _ _ ?_) K;unfold Qg ltN
 (repeat' first|refine ak (λ_=> ?_) (λ_=> ?_)|refine am ?_ ?_|refine zS1 @Y0 ?_|exact yS1 @Y0|fail)
def uv (a:Nat) (d:Array Nat):Go.Sort.insInner ltN a 0 d=d:=rfl
def uw (a j:Nat) (d:Array Nat):Go.Sort.insInner ltN a (j+1) d=if (decide (j+1>a)&&ltN d[j+1]! d[j]!)=true then Go.Sort.insInner ltN a j (Go.Sort.swp d (j+1) j) else d:=rfl
def BZ (a b i:Nat) (d:Array Nat):Go.Sort.insOuter ltN a b i d=if i<b then Go.Sort.insOuter ltN a b (i+1) (Go.Sort.insInner ltN a i d) else d:=by rw [Go.Sort.insOuter]
section
variable {w w':an} {q o cap:Nat} {d:Array Nat}
def ace (h:Ar w q o d) (hd:d.size<1099511627776) (a b:Nat) (t:a<=b) (hb:b<=d.size) (K:K1) (hK:∀w',SW w w' q o (dc ltN d a b)->(dc ltN d a b).size=d.size->K (.tuple #[]) w'):
  ad prog 201 #[.slice (some ⟨q,o,none⟩) d.size cap,.int .i64 (a:Int),.int .i64 (b:Int)] w K:=by
 refine Mu _ _ _ _ _ ?_;unfold P9;refine zS0 ?_;apply ym (I:=λx w'=>∃(i:Nat) (d':Array Nat),x= .int .i64 (i:Int)/\a+1<=i/\i<=b+1/\d'.size=d.size/\SW w w' q o d'/\Go.Sort.insOuter ltN a b i d'=dc ltN d a b) (μ:=λx _=>b+1-(intOf x).toNat)
 ·exact ⟨a+1,d,by simp,by omega,by omega,rfl,SW.refl h,rfl⟩
 ·intros;rename_i w1 hI E1 hE;obtain ⟨i,d1,rfl,r,u,k,l,e1⟩:=hI;unfold uO;rw [BZ] at e1;by_cases hib:i<b
  ·rw [if_pos hib] at e1;refine zS0 ?_;apply yo (I:=λx w'=>∃(j:Nat) (d':Array Nat),x= .int .i64 (j:Int)/\a<=j/\j<=i/\d'.size=d.size/\SW w w' q o d'/\Go.Sort.insInner ltN a j d'=Go.Sort.insInner ltN a i d1) (μ:=λx _=>(intOf x).toNat)
   ·exact ⟨i,d1,rfl,by omega,by omega,k,l,rfl⟩
   ·intros;rename_i w2 n E2 p;obtain ⟨j,d2,rfl,s,v,f,c,e2⟩:=n;unfold uP;have ar:=c.ar
    cases j with
    |zero=>
     rw [uv] at e2;refine zS2 @iM @gY.eq_1 ?_;apply hE
     ·exact ⟨i+1,d2,by simp,by omega,by omega,f,c.drew,by rw [e2,e1]⟩
     ·simp [intOf];omega
    |succ j=>
     rw [uw] at e2;have ej:((j+1:Nat):Int)-1=(j:Int):=oM;by_cases hja:a<j+1
     ·have c1:=ar.cell (j+1) oM;have c2:=ar.cell j oM;by_cases hlt:ltN d2[j+1]! d2[j]! =true
      ·have g:=ar.set (j+1) d2[j]! oM;have c3:=g.cell j (by simp;omega);have m:=c.swp (j+1) j oM oM
       (repeat' first|refine ak (λ_=> ?_) (λ_=> ?_)|refine am ?_ ?_|refine zS8 ej c1 c2 ar.frz @aG hlt c3 g.frz ?_|exact yS8 ej c1 c2 ar.frz @aG hlt c3 g.frz|fail)
       apply p
       ·exact ⟨j,_,rfl,by omega,by omega,(bE _ _ _).trans f,m.drew.drew,by rw [if_pos (by simp [hlt];omega)] at e2;exact e2⟩
       ·simp [intOf]
      ·have e:ltN d2[j+1]! d2[j]! =false:=by simpa using hlt
       (repeat' first|refine ak (λ_=> ?_) (λ_=> ?_)|refine am ?_ ?_|refine zS8 ej c1 c2 ar.frz @aG e @iM @gY.eq_1 ?_|exact yS8 ej c1 c2 ar.frz @aG e @iM @gY.eq_1|fail)
       apply hE
       ·exact ⟨i+1,d2,by simp,by omega,by omega,f,c.drew,by rw [if_neg (by simp [e])] at e2;rw [e2,e1]⟩
       ·simp [intOf];omega
     ·refine zS2 @iM @gY.eq_1 ?_;apply hE
      ·exact ⟨i+1,d2,by simp,by omega,by omega,f,c.drew,by rw [if_neg (by simp;omega)] at e2;rw [e2,e1]⟩
      ·simp [intOf];omega
  ·rw [if_neg hib] at e1;refine zS0 ?_;rw [<-e1] at hK;exact hK _ l k
end
section
variable {w w':an} {q o cap:Nat} {d:Array Nat}
def Sp (w:an) (s k:Nat):Prop:=af w s 3 1 (λ_=> .int .i64 (k:Int))
def Sp.cell {s k:Nat} (h:Sp w s k):w.cell? ⟨s,0,none⟩=some (.int .i64 (k:Int)):=af.cell h oM
def Sp.frz {s k:Nat} (h:Sp w s k):w.frozen? ⟨s,0,none⟩=false:=af.frz h 0
structure CW (w0 w:an) (q o s:Nat) (d:Array Nat) (k:Nat):Prop where
 ar:Ar w q o d
 sp:Sp w s k
 frm:Frm (λx=>x=s) w0 w
def acf {s k:Nat} (h:Ar w q o d) (hs:Sp w s k):s≠q:=by
 intro e;subst e;obtain ⟨a,h,_⟩:=h;obtain ⟨a',h',_⟩:=hs;rw [h] at h';injection h' with h';injection h' with _ h';exact absurd h' (by decide)
def rP {s k:Nat} (h:Ar w q o d) (hs:Sp w s k) (hd:d.size<1099511627776) (hk:k<1099511627776) (a b:Nat) (ha:a<d.size) (hb:b<d.size) (K:K1)
  (hK:∀w',CW w w' q o s d (Go.Sort.order2 ltN d a b k).2.2->K (.tuple #[.int .i64 (((Go.Sort.order2 ltN d a b k).1:Nat):Int),.int .i64 (((Go.Sort.order2 ltN d a b k).2.1:Nat):Int)]) w'):
  ad prog 222 #[.slice (some ⟨q,o,none⟩) d.size cap,.int .i64 (a:Int),.int .i64 (b:Int),.pointer (some ⟨s,0,none⟩)] w K:=by
 refine ML _ _ _ _ _ _ ?_;unfold Qp;have c1:=h.cell a ha;have c2:=h.cell b hb;have ns:=acf h hs;unfold Go.Sort.order2 at hK;by_cases hl:ltN d[b]! d[a]! =true
 ·rw [if_pos hl] at hK
  (repeat' first|refine ak (λ_=> ?_) (λ_=> ?_)|refine am ?_ ?_|refine zS6 c1 c2 @aG hl hs.cell hs.frz ?_|exact yS6 c1 c2 @aG hl hs.cell hs.frz|fail)
  have f:Sp (w.setCell ⟨s,0,none⟩ (.int .i64 ((k:Int)+1))) s (k+1):=by
   refine (af.set hs (i:=0) (.int .i64 ((k:Int)+1)) oM).congr ?_;intro i hi;have e:i=0:=oM;rw [if_pos e];simp
  exact hK _ ⟨(h.set_ne s 0 _ ns).drew,f,((Frm.refl (λx=>x=s) w).set _ (λ_=>rfl)).drew⟩
 ·rw [if_neg hl] at hK;have c:ltN d[b]! d[a]! =false:=by simpa using hl
  (repeat' first|refine ak (λ_=> ?_) (λ_=> ?_)|refine am ?_ ?_|refine zS4 c1 c2 @aG c ?_|exact yS4 c1 c2 @aG c|fail)
  exact hK _ ⟨h.drew,hs,(Frm.refl _ w).drew⟩
def CW.trans {w0 w1 w2:an} {s k k':Nat} (h:CW w0 w1 q o s d k) (h':CW w1 w2 q o s d k'):CW w0 w2 q o s d k':=⟨h'.ar,h'.sp,h.frm.trans h'.frm (λ_ _ h=>h)⟩
def QD (a b k n:Nat) (ha:a<n) (hb:b<n):(Go.Sort.order2 ltN d a b k).1<n/\(Go.Sort.order2 ltN d a b k).2.1<n/\(Go.Sort.order2 ltN d a b k).2.2<=k+1:=by
 unfold Go.Sort.order2;split<;>simp<;>omega
def rQ {s k:Nat} (h:Ar w q o d) (hs:Sp w s k) (hd:d.size<1099511627776) (hk:k<1099511627770) (a b c:Nat) (ha:a<d.size) (hb:b<d.size) (hc:c<d.size) (K:K1)
  (hK:∀w',CW w w' q o s d (Go.Sort.median ltN d a b c k).2->K (.int .i64 (((Go.Sort.median ltN d a b c k).1:Nat):Int)) w'):
  ad prog 219 #[.slice (some ⟨q,o,none⟩) d.size cap,.int .i64 (a:Int),.int .i64 (b:Int),.int .i64 (c:Int),.pointer (some ⟨s,0,none⟩)] w K:=by
 refine MJ _ _ _ _ _ _ _ ?_;unfold Qn;have l1:=QD (d:=d) a b k _ ha hb;have l2:=QD (d:=d) (Go.Sort.order2 ltN d a b k).2.1 c (Go.Sort.order2 ltN d a b k).2.2 _ l1.2.1 hc;have l3:=QD (d:=d) (Go.Sort.order2 ltN d a b k).1 (Go.Sort.order2 ltN d (Go.Sort.order2 ltN d a b k).2.1 c (Go.Sort.order2 ltN d a b k).2.2).1 (Go.Sort.order2 ltN d (Go.Sort.order2 ltN d a b k).2.1 c (Go.Sort.order2 ltN d a b k).2.2).2.2 _ l1.1 l2.1;refine zS0 ?_;refine rP h hs hd oM a b ha hb _ (λw1 h1=> ?_);refine zS0 ?_;refine rP h1.ar h1.sp hd oM _ c l1.2.1 hc _ (λw2 h2=> ?_);refine zS0 ?_;refine rP h2.ar h2.sp hd oM _ _ l1.1 l2.1 _ (λw3 h3=> ?_);refine zS0 ?_;exact hK _ ((h1.trans h2).trans h3)
def rR {s k:Nat} (h:Ar w q o d) (hs:Sp w s k) (hd:d.size<1099511627776) (hk:k<1099511627770) (a:Nat) (h0:0<a) (ha:a+1<d.size) (K:K1)
  (hK:∀w',CW w w' q o s d (av ltN d a k).2->K (.int .i64 (((av ltN d a k).1:Nat):Int)) w'):
  ad prog 218 #[.slice (some ⟨q,o,none⟩) d.size cap,.int .i64 (a:Int),.pointer (some ⟨s,0,none⟩)] w K:=by
 refine MI _ _ _ _ _ ?_;unfold Qm;have e1:(a:Int)-1=((a-1:Nat):Int):=oM;have e2:(a:Int)+1=((a+1:Nat):Int):=oM;refine zS2 e1 e2 ?_;refine rQ h hs hd hk (a-1) a (a+1) oM oM ha _ (λw1 h1=> ?_);exact hK _ h1
def jA:Go.Sort.Hint->Int
 | .unknown=>0
 | .increasing=>1
 | .decreasing=>2
def MP (h:Ar w q o d) (hd:d.size<1099511627776) (a b:Nat) (g:a<b) (hb:b<=d.size) (K:K1) (hK:∀w',SW w w' q o (cO d a b)->(cO d a b).size=d.size->K (.tuple #[]) w'):
  ad prog 205 #[.slice (some ⟨q,o,none⟩) d.size cap,.int .i64 (a:Int),.int .i64 (b:Int)] w K:=by
 refine Mz _ _ _ _ _ ?_;unfold Qe;have e1:(b:Int)-1=((b-1:Nat):Int):=oM;refine zS1 e1 ?_;apply yy (I:=λx y w'=>∃(i j:Nat) (d':Array Nat),x= .int .i64 (i:Int)/\y= .int .i64 (j:Int)/\j<d.size/\d'.size=d.size/\SW w w' q o d'/\f9 i j d'=cO d a b) (μ:=λx y _=>(intOf y).toNat-(intOf x).toNat)
 ·exact ⟨a,b-1,d,rfl,rfl,by omega,rfl,SW.refl h,rfl⟩
 ·intros;rename_i w1 hI E1 hE;obtain ⟨i,j,d1,rfl,rfl,hj,hs,sw,e⟩:=hI;unfold uU;rw [f9] at e;by_cases hij:i<j
  ·rw [if_pos hij] at e;have ar:=sw.ar;have c1:=ar.cell i oM;have c2:=ar.cell j oM;have c:=ar.set i d1[j]! oM;have c3:=c.cell j (by simp;omega);have f:=sw.swp i j oM oM;have e2:(j:Int)-1=((j-1:Nat):Int):=oM;have e3:(i:Int)+1=((i+1:Nat):Int):=oM
   (repeat' first|refine ak (λ_=> ?_) (λ_=> ?_)|refine am ?_ ?_|refine zS8 c1 c2 c3 ar.frz c.frz e2 e3 e3 ?_|exact yS8 c1 c2 c3 ar.frz c.frz e2 e3 e3|fail)
   apply hE
   ·exact ⟨i+1,j-1,_,rfl,rfl,by omega,(bE _ _ _).trans hs,f.drew,e⟩
   ·simp [intOf];omega
  ·rw [if_neg hij] at e;refine zS0 ?_;rw [<-e] at hK;exact hK _ sw hs
def Y8 (d:Array Nat) (a b c k:Nat):(Go.Sort.median ltN d a b c k).2<=k+3:=Go.Sort.median_count ltN d a b c k
def pkH (r:Nat×Nat):Nat×Go.Sort.Hint:=(r.1,if r.2=0 then .increasing else if r.2=12 then .decreasing else .unknown)
def QE (h:Ar w q o d) (hd:d.size<1099511627776) (a b:Nat) (u:a+12<b) (hb:b<=d.size) (K:K1)
  (hK:∀w',Ext w w'->K (.tuple #[.int .i64 (((cd ltN d a b).1:Nat):Int),.int .i64 (jA (cd ltN d a b).2)]) w'):
  ad prog 204 #[.slice (some ⟨q,o,none⟩) d.size cap,.int .i64 (a:Int),.int .i64 (b:Int)] w K:=by
 have e0:(b:Int)-(a:Int)=((b-a:Nat):Int):=oM;have e1:(a:Int)+((b-a:Nat):Int)/4*1=((a+(b-a)/4*1:Nat):Int):=oM;have e2:(a:Int)+((b-a:Nat):Int)/4*2=((a+(b-a)/4*2:Nat):Int):=oM;have e3:(a:Int)+((b-a:Nat):Int)/4*3=((a+(b-a)/4*3:Nat):Int):=oM;have j:Sp (w.alloc (.cells #[.int .i64 0] 3)) w.heap.size 0:=(af.new w [.int .i64 0] 3).congr (λi hi=>by have e:i=0:=(by simpa using hi);subst e;rfl);have h':=h.alloc (.cells #[.int .i64 0] 3);have m:∀w1 p k,CW (w.alloc (.cells #[.int .i64 0] 3)) w1 q o w.heap.size d k->k<1099511627776->p=(cd ltN d a b).1->jA (if k=0 then Go.Sort.Hint.increasing else if k=12 then Go.Sort.Hint.decreasing else Go.Sort.Hint.unknown)=jA (cd ltN d a b).2->
   nV (.pointer (some ⟨w.heap.size,0,none⟩)) (.int .i64 (p:Int)) K w1:=by
  intro w1 p k hc hk hp hh;unfold nV;rw [<-hh,<-hp] at hK;have he:Ext w w1:=Frm.to_ext (F:=λx=>x=w.heap.size) ((Frm.of_ext (Ext.alloc_self w _)).trans hc.frm (λ_ _ h=>h)) (λx hx=>by omega);by_cases hk0:k=0
  ·subst hk0;refine zS1 hc.sp.cell ?_;exact hK _ he
  ·rw [if_neg hk0] at hK;by_cases hk2:k=12
   ·subst hk2;refine zS1 hc.sp.cell ?_;exact hK _ he
   ·rw [if_neg hk2] at hK;refine zS1 hc.sp.cell ?_;exact hK _ he
 have c:cd ltN d a b=pkH (if b-a>=50 then Go.Sort.median ltN d (av ltN d (a+(b-a)/4*1) 0).1 (av ltN d (a+(b-a)/4*2) (av ltN d (a+(b-a)/4*1) 0).2).1 (av ltN d (a+(b-a)/4*3) (av ltN d (a+(b-a)/4*2) (av ltN d (a+(b-a)/4*1) 0).2).2).1 (av ltN d (a+(b-a)/4*3) (av ltN d (a+(b-a)/4*2) (av ltN d (a+(b-a)/4*1) 0).2).2).2
   else Go.Sort.median ltN d (a+(b-a)/4*1) (a+(b-a)/4*2) (a+(b-a)/4*3) 0):=by
  unfold cd pkH;simp only [if_pos (show b-a>=8 by omega)]
 have l:0<a+(b-a)/4*1/\a+(b-a)/4*1+1<d.size:=oM;have n:0<a+(b-a)/4*2/\a+(b-a)/4*2+1<d.size:=oM;have g:0<a+(b-a)/4*3/\a+(b-a)/4*3+1<d.size:=oM;generalize a+(b-a)/4*1=i1 at*;generalize a+(b-a)/4*2=i2 at*;generalize a+(b-a)/4*3=i3 at*;by_cases h50:b-a>=50
 ·rw [if_pos h50] at c;have m1:=dd ltN d i1 0;have a1:=dl ltN d i1 0;have t:=λK hK=>rR (cap:=cap) (K:=K) h' j hd oM i1 l.1 l.2 hK
  generalize av ltN d i1 0=r1 at*;have m2:=dd ltN d i2 r1.2;have a2:=dl ltN d i2 r1.2;have r:=λw1 (h1:CW (w.alloc (.cells #[.int .i64 0] 3)) w1 q o w.heap.size d r1.2) K hK=>rR (cap:=cap) (K:=K) h1.ar h1.sp hd oM i2 n.1 n.2 hK
  generalize av ltN d i2 r1.2=r2 at*;have m3:=dd ltN d i3 r2.2;have a3:=dl ltN d i3 r2.2;have s:=λw1 (h1:CW (w.alloc (.cells #[.int .i64 0] 3)) w1 q o w.heap.size d r2.2) K hK=>rR (cap:=cap) (K:=K) h1.ar h1.sp hd oM i3 g.1 g.2 hK
  generalize av ltN d i3 r2.2=r3 at*;have m4:=Y8 d r1.1 r2.1 r3.1 r3.2;have f:=λw1 (h1:CW (w.alloc (.cells #[.int .i64 0] 3)) w1 q o w.heap.size d r3.2) K hK=>rQ (cap:=cap) (K:=K) h1.ar h1.sp hd oM r1.1 r2.1 r3.1 oM oM oM hK
  generalize Go.Sort.median ltN d r1.1 r2.1 r3.1 r3.2=r4 at*;refine uT _ _ _ _ _ ?_;unfold FP;refine zS4 e0 e1 e2 e3 ?_;refine t _ (λw1 h1=> ?_);refine zS4 e0 e1 e2 e3 ?_;refine r _ h1 _ (λw2 h2=> ?_);refine zS4 e0 e1 e2 e3 ?_;refine s _ (h1.trans h2) _ (λw3 h3=> ?_);refine zS6 e0 e1 e2 e3 @rB @nW.eq_1 ?_;refine f _ ((h1.trans h2).trans h3) _ (λw4 h4=> ?_);refine zS1 @rA ?_;exact m _ _ _ (((h1.trans h2).trans h3).trans h4) oM (by rw [c];rfl) (by rw [c];rfl)
 ·rw [if_neg h50] at c;have m4:=Y8 d i1 i2 i3 0;have f:=λK hK=>rQ (cap:=cap) (K:=K) h' j hd oM i1 i2 i3 oM oM oM hK
  generalize Go.Sort.median ltN d i1 i2 i3 0=r4 at*;refine uT _ _ _ _ _ ?_;unfold FP;refine zS6 e0 e1 e2 e3 @rB @nW.eq_1 ?_;refine f _ (λw4 h4=> ?_);refine zS1 @rA ?_;exact m _ _ _ h4 oM (by rw [c];rfl) (by rw [c];rfl)
end
def B0 (n k:Nat) (h:2^k<=n):Go.Sort.bitsLen n=k+Go.Sort.bitsLen (n/2^k):=by
 apply Nat.le_antisymm
 ·rw [co,g8];have:=eC (n/2^k);have h3:=(fk (ex k)).1 this;rw [Nat.mul_comm];exact h3
 ·have h1:=eC n;have hk:k<=Go.Sort.bitsLen n:=by
   rcases Nat.lt_or_ge (Go.Sort.bitsLen n) k with h2|h2
   ·have:=fn (show 0<2 by omega) (Nat.le_of_lt h2);omega
   ·exact h2
  have h2:Go.Sort.bitsLen (n/2^k)<=Go.Sort.bitsLen n-k:=by
   rw [co,fk (ex k),<-g8];rw [Nat.sub_add_cancel hk];exact h1
  omega
def aaQ (P:Program) (t:TypeId):Bool:=
 match P.underlying t with
 |some .string=>true
 |_=>false
def MQ {P:Program} {t:TypeId} (ht:aaQ P t=true) (s:ByteArray) (k:IntKind) (i:Nat) (b:UInt8) (w:an) (kk:K1) (h:s[i]? =some b):ev P (Instr.index t (.string s) (.int k (i:Int))) w kk=kk (.int .u8 ((b.toNat:Nat):Int)) w:=by
 unfold aaQ at ht;split at ht
 ·rename_i hu;refine aa ?_ kk;simp [Instr.index,asIntOf,ax hu,h]
 ·cases ht
def acg:ByteArray:={data:= #[0,1,2,2,3,3,3,3,4,4,4,4,4,4,4,4,5,5,5,5,5,5,5,5,5,5,5,5,5,5,5,5,6,6,6,6,6,6,6,6,6,6,6,6,6,6,6,6,6,6,6,6,6,6,6,6,6,6,6,6,6,6,6,6,7,7,7,7,7,7,7,7,7,7,7,7,7,7,7,7,7,7,7,7,7,7,7,7,7,7,7,7,7,7,7,7,7,7,7,7,7,7,7,7,7,7,7,7,7,7,7,7,7,7,7,7,7,7,7,7,7,7,7,7,7,7,7,7,8,8,8,8,8,8,8,8,8,8,8,8,8,8,8,8,8,8,8,8,8,8,8,8,8,8,8,8,8,8,8,8,8,8,8,8,8,8,8,8,8,8,8,8,8,8,8,8,8,8,8,8,8,8,8,8,8,8,8,8,8,8,8,8,8,8,8,8,8,8,8,8,8,8,8,8,8,8,8,8,8,8,8,8,8,8,8,8,8,8,8,8,8,8,8,8,8,8,8,8,8,8,8,8,8,8,8,8,8,8,8,8,8,8,8,8,8,8,8,8,8,8,8,8,8,8,8,8]}
def QF:∀i:Nat,i<256->acg[i]? =some (UInt8.ofNat (Go.Sort.bitsLen i)):=by decide+kernel
def MR {i:Nat} (h:i<256):(UInt8.ofNat (Go.Sort.bitsLen i)).toNat=Go.Sort.bitsLen i:=by
 have:Go.Sort.bitsLen i<=8:=(co i 8).2 h;rw [UInt8.toNat_ofNat'];omega
def aaR:aaQ prog 9=true:=by kernel_rfl
def Xq (n:Nat) (hn:n<18446744073709551616) (w:an) (K:K1):ad prog 198 #[.int .u64 (n:Int)] w K=K (.int .i64 ((Go.Sort.bitsLen n:Nat):Int)) w:=by
 refine ao (by kernel_rfl) (Mt _ _ _ ?_) K;unfold P8;have a:∀(m:Nat) (k:Int),m<256->0<=k->k<100->((Go.Sort.bitsLen n:Nat):Int)=k+((Go.Sort.bitsLen m:Nat):Int)->nN (.int .u64 (m:Int)) (.int .i64 k) (λv w'=>v= .int .i64 ((Go.Sort.bitsLen n:Nat):Int)/\w'=w) w:=by
  intro m k hm b hk e;unfold nN;have hb:=(co m 8).2 hm;have e2:=MR hm;have em:m%256=m:=oM;have r1:=λk w kk=>MQ aaR acg k m _ w kk (QF m hm)
  refine zS1 em ?_;refine (r1 .u8 w _).symm▸ ?_;exact yS2 e2 e
 have b0:∀m k:Nat,2^k<=m->((Go.Sort.bitsLen m:Nat):Int)=(k:Int)+((Go.Sort.bitsLen (m/2^k):Nat):Int):=λm k h=>by rw [B0 m k h];omega
 by_cases h1:4294967296<=n
 ·have q1:=b0 n 32 h1;by_cases h2:65536<=n/2^32
  ·have q2:=b0 (n/2^32) 16 h2;by_cases h3:256<=n/2^32/2^16
   ·have q3:=b0 (n/2^32/2^16) 8 h3;refine zS6 @cX @dr.eq_1 @cY @du.eq_1 @ba @ba ?_;exact a _ _ oM oM oM oM
   ·refine zS6 @cX @dr.eq_1 @cY @du.eq_1 @ba @ba ?_;exact a _ _ oM oM oM oM
  ·by_cases h3:256<=n/2^32
   ·have q3:=b0 (n/2^32) 8 h3;refine zS6 @cX @dr.eq_1 @cY @du.eq_1 @ba @ba ?_;exact a _ _ oM oM oM oM
   ·refine zS6 @cX @dr.eq_1 @cY @du.eq_1 @ba @ba ?_;exact a _ _ oM oM oM oM
 ·by_cases h2:65536<=n
  ·have q2:=b0 n 16 h2;by_cases h3:256<=n/2^16
   ·have q3:=b0 (n/2^16) 8 h3;refine zS6 @cX @dr.eq_1 @cY @du.eq_1 @ba @ba ?_;exact a _ _ oM oM oM oM
   ·refine zS6 @cX @dr.eq_1 @cY @du.eq_1 @ba @ba ?_;exact a _ _ oM oM oM oM
  ·by_cases h3:256<=n
   ·have q3:=b0 n 8 h3;refine zS6 @cX @dr.eq_1 @cY @du.eq_1 @ba @ba ?_;exact a _ _ oM oM oM oM
   ·refine zS6 @cX @dr.eq_1 @cY @du.eq_1 @ba @ba ?_;exact a _ _ oM oM oM oM
def Y9 (n:Nat) (hn:n<18446744073709551616) (w:an) (K:K1):ad prog 180 #[.int .u64 (n:Int)] w K=K (.int .i64 ((Go.Sort.bitsLen n:Nat):Int)) w:=by
 refine ao (by kernel_rfl) (Ml _ _ _ ?_) K;unfold P6;exact yS1 @Xq
def aaS (n:Nat) (hn:n<1099511627776) (w:an) (K:K1):ad prog 211 #[.int .i64 (n:Int)] w K=K (.int .u64 ((2^Go.Sort.bitsLen n:Nat):Int)) w:=by
 refine ao (by kernel_rfl) (ME _ _ _ ?_) K;unfold Qj;have hb:Go.Sort.bitsLen n<=40:=(co n 40).2 oM;have e:1*2^Go.Sort.bitsLen n%18446744073709551616=2^Go.Sort.bitsLen n:=by
  rw [g9];exact Nat.mod_eq_of_lt (Nat.lt_of_le_of_lt (fn oM hb) (by decide))
 exact yS2 @Y9 e
section
variable {w w':an} {q o cap:Nat} {d:Array Nat}
def Rn (w:an) (s x:Nat):Prop:=af w s 276 1 (λ_=> .int .u64 (x:Int))
def Rn.cell {s k:Nat} (h:Rn w s k):w.cell? ⟨s,0,none⟩=some (.int .u64 (k:Int)):=af.cell h oM
def Rn.frz {s k:Nat} (h:Rn w s k):w.frozen? ⟨s,0,none⟩=false:=af.frz h 0
def Rn.set {s k:Nat} (h:Rn w s k) (x:Nat):Rn (w.setCell ⟨s,0,none⟩ (.int .u64 (x:Int))) s x:=by
 refine (af.set h (i:=0) (.int .u64 (x:Int)) oM).congr ?_;intro i hi;have e:i=0:=oM;rw [if_pos e]
def ach {s x:Nat} (h:Rn w s x) (hx:x<18446744073709551616) (K:K1) (hK:∀w',Rn w' s (Go.Sort.xorNextN x)->Frm (λb=>b=s) w w'->K (.int .u64 ((Go.Sort.xorNextN x:Nat):Int)) w'):ad prog 212 #[.pointer (some ⟨s,0,none⟩)] w K:=by
 refine MF _ _ _ ?_;unfold Qk;have p:(18446744073709551616:Nat)=2^64:=by decide
 have g1:x^^^(x*2^13%18446744073709551616)<18446744073709551616:=ch (n:=64) oM oM;have h1:=h.set (x^^^(x*2^13%18446744073709551616));have g2:(x^^^(x*2^13%18446744073709551616))^^^((x^^^(x*2^13%18446744073709551616))/2^7)<18446744073709551616:=ch (n:=64) g1 oM;have h2:=h1.set ((x^^^(x*2^13%18446744073709551616))^^^((x^^^(x*2^13%18446744073709551616))/2^7));have h3:=h2.set (((x^^^(x*2^13%18446744073709551616))^^^((x^^^(x*2^13%18446744073709551616))/2^7))^^^(((x^^^(x*2^13%18446744073709551616))^^^((x^^^(x*2^13%18446744073709551616))/2^7))*2^17%18446744073709551616));have m1:∀y:Nat,y%18446744073709551616<18446744073709551616:=λy=>hA _ oM
 have m2:(x^^^(x*2^13%18446744073709551616))/2^7<18446744073709551616:=oM;have m3:=m1 (x*2^13);have m4:=m1 (((x^^^(x*2^13%18446744073709551616))^^^((x^^^(x*2^13%18446744073709551616))/2^7))*2^17);have e:Go.Sort.xorNextN x=((x^^^(x*2^13%18446744073709551616))^^^((x^^^(x*2^13%18446744073709551616))/2^7))^^^(((x^^^(x*2^13%18446744073709551616))^^^((x^^^(x*2^13%18446744073709551616))/2^7))*2^17%18446744073709551616):=rfl;rw [<-e] at h3;simp (disch:=first|assumption|decide|simp only [RO]|fail) only [↓RBp,↓RA,↓reduceIte,Nat.reduceAdd,Nat.reduceMul,Nat.reduceEqDiff,RB,RX,RA2,h.cell,h.frz,h1.cell,h1.frz,h2.cell,h2.frz,h3.cell,<-e];refine hK _ h3 ?_;exact (((((Frm.refl (λb=>b=s) w).set _ (λ_=>rfl)).set _ (λ_=>rfl)).set _ (λ_=>rfl)).drew.drew).drew
def bst (a len m:Nat) (st:UInt64×Array Nat) (b:Nat):Nat->UInt64×Array Nat
 |0=>st
 |k+1=>Go.Sort.breakStep a len m (bst a len m st b k) (b+k)
def QG (a len m:Nat) (st:UInt64×Array Nat) (b:Nat):∀k,(bst a len m st b k).2.size=st.2.size:=by
 intro k
 induction k with
 |zero=>rfl
 |succ k ih=>show (Go.Sort.swp _ _ _).size=_;rw [bE,ih]
def QH (d:Array Nat) (a b:Nat) (h:b-a>=8):bv d a b=(bst a (b-a) (1<<<Go.Sort.bitsLen (b-a)) (UInt64.ofNat (b-a),d) (a+(b-a)/4*2-1) 3).2:=by
 unfold bv;simp only [if_pos h];rfl
def Xr (h:Ar w q o d) (hd:d.size<1099511627776) (a b:Nat) (N:a+12<b) (hb:b<=d.size) (K:K1) (hK:∀w',SW w w' q o (bv d a b)->(bv d a b).size=d.size->K (.tuple #[]) w'):
  ad prog 203 #[.slice (some ⟨q,o,none⟩) d.size cap,.int .i64 (a:Int),.int .i64 (b:Int)] w K:=by
 have h8:b-a>=8:=oM;rw [QH d a b h8] at hK;have e0:(b:Int)-(a:Int)=((b-a:Nat):Int):=oM;have e1:(a:Int)+((b-a:Nat):Int)/4*2=((a+(b-a)/4*2:Nat):Int):=oM;have e2:((a+(b-a)/4*2:Nat):Int)-1=((a+(b-a)/4*2-1:Nat):Int):=oM;have e3:((a+(b-a)/4*2:Nat):Int)+1=((a+(b-a)/4*2+1:Nat):Int):=oM;have hm:1<<<Go.Sort.bitsLen (b-a)=2^Go.Sort.bitsLen (b-a):=by rw [Nat.shiftLeft_eq,g9]
 have P:=Go.Sort.two_pow_bitsLen_le (n:=b-a) oM;have O:=ex (Go.Sort.bitsLen (b-a));have A:b-a<1099511627776:=oM;have cn:=λw K=>aaS (b-a) A w K
 rw [hm] at hK;generalize 2^Go.Sort.bitsLen (b-a)=m at*;have C:a+(b-a)/4*2-1+2<b/\a<=a+(b-a)/4*2-1/\a+(b-a)/4*2+1=a+(b-a)/4*2-1+2:=oM;rw [C.2.2] at e3;generalize a+(b-a)/4*2-1=ix at*;have hu:(UInt64.ofNat (b-a)).toNat=b-a:=by rw [UInt64.toNat_ofNat'];omega
 refine Mx _ _ _ _ _ ?_;unfold Qb;refine zS4 e0 e1 e2 cn ?_;have D:Rn (w.alloc (.cells #[.int .u64 ((b-a:Nat):Int)] 276)) w.heap.size (b-a):=(af.new w [.int .u64 ((b-a:Nat):Int)] 276).congr (λi hi=>by have e:i=0:=(by simpa using hi);subst e;rfl);have h':=h.alloc (.cells #[.int .u64 ((b-a:Nat):Int)] 276);have L:=h.lt;apply yv (I:=λx w'=>∃k:Nat,x= .int .i64 ((ix+k:Nat):Int)/\k<=3/\Rn w' w.heap.size (bst a (b-a) m (UInt64.ofNat (b-a),d) ix k).1.toNat/\Ar w' q o (bst a (b-a) m (UInt64.ofNat (b-a),d) ix k).2/\Frm (λx=>x=q\/x=w.heap.size) (w.alloc (.cells #[.int .u64 ((b-a:Nat):Int)] 276)) w') (μ:=λx _=>ix+3-(intOf x).toNat)
 ·exact ⟨0,rfl,by omega,by rw [show (bst a (b-a) m (UInt64.ofNat (b-a),d) ix 0).1.toNat=b-a from hu];exact D,h',Frm.refl _ _⟩
 ·intros;rename_i w1 hI E1 hE;obtain ⟨k,rfl,hk,hr,ar,hf⟩:=hI;have c:(bst a (b-a) m (UInt64.ofNat (b-a),d) ix k).2.size=d.size:=QG a (b-a) m (UInt64.ofNat (b-a),d) ix k;by_cases hk3:k<3
  ·have H:bst a (b-a) m (UInt64.ofNat (b-a),d) ix (k+1)=Go.Sort.breakStep a (b-a) m (bst a (b-a) m (UInt64.ofNat (b-a),d) ix k) (ix+k):=rfl;generalize hB:bst a (b-a) m (UInt64.ofNat (b-a),d) ix k=B at*;have t:B.1.toNat<18446744073709551616:=B.1.toNat_lt;have M:=Go.Sort.xorNextN_lt _ t;have u:=Go.Sort.xorNext_toNat B.1;unfold nU;refine zS2 e1 e3 ?_;refine ach hr t _ (λw2 E z=> ?_);have J:Go.Sort.xorNextN B.1.toNat&&&(m-1)<=m-1:=Nat.and_le_right;have f:Ar w2 q o B.2:=ar.frm z oM;generalize hy:Go.Sort.xorNextN B.1.toNat&&&(m-1)=y at*;have r:∀ot,ot=(if y>=b-a then y-(b-a) else y)->bst a (b-a) m (UInt64.ofNat (b-a),d) ix (k+1)=(Go.Sort.xorNext B.1,Go.Sort.swp B.2 (ix+k) (a+ot)):=by
    intro ot ho;rw [H];unfold Go.Sort.breakStep;simp only [u,hy,<-ho]
   have v:∀ot,ot=(if y>=b-a then y-(b-a) else y)->a+ot<b->∀(w3:an),w3=((w2.setCell ⟨q,o+(ix+k),none⟩ (.int .u64 ((B.2[a+ot]! :Nat):Int))).setCell ⟨q,o+(a+ot),none⟩ (.int .u64 ((B.2[ix+k]! :Nat):Int))).drew->
     ∃k':Nat,Value.int .i64 (((ix+k:Nat):Int)+1)= .int .i64 ((ix+k':Nat):Int)/\k'<=3/\Rn w3 w.heap.size (bst a (b-a) m (UInt64.ofNat (b-a),d) ix k').1.toNat/\Ar w3 q o (bst a (b-a) m (UInt64.ofNat (b-a),d) ix k').2/\Frm (λx=>x=q\/x=w.heap.size) (w.alloc (.cells #[.int .u64 ((b-a:Nat):Int)] 276)) w3:=by
    intro ot ho p w3 G;subst G;refine ⟨k+1,by congr 1,by omega,?_,?_,?_⟩
    ·rw [r ot ho];show Rn _ _ (Go.Sort.xorNext B.1).toNat
     rw [u];exact ((af.set_ne E _ (by show w.heap.size≠q;omega)).set_ne _ (by show w.heap.size≠q;omega)).drew
    ·rw [r ot ho];exact ((SW.refl f).swp (ix+k) (a+ot) (by rw [c];omega) (by rw [c];omega)).drew.ar
    ·exact (((hf.trans (z.mono (λx hx=>(.inr hx:x=q\/x=w.heap.size))) (λ_ _ h=>h)).set _ (λ_=> .inl rfl)).set _ (λ_=> .inl rfl)).drew
   by_cases hyl:y>=b-a
   ·have s:y-(b-a)=(if y>=b-a then y-(b-a) else y):=by rw [if_pos hyl]
    have e4:(y:Int)-((b-a:Nat):Int)=((y-(b-a):Nat):Int):=oM;have e5:(a:Int)+((y-(b-a):Nat):Int)=((a+(y-(b-a)):Nat):Int):=oM;have p:a+(y-(b-a))<b:=oM;have l:=v _ s p _ rfl;generalize y-(b-a)=ot at*;have c1:=f.cell (a+ot) (by rw [c];omega);have c2:=f.cell (ix+k) (by rw [c];omega);have g:=f.set (ix+k) B.2[a+ot]! (by rw [c];omega);have c3:=g.cell (a+ot) (by simp;rw [c];omega)
    (repeat' first|refine ak (λ_=> ?_) (λ_=> ?_)|refine am ?_ ?_|refine lC hy e4 e5 c1 c2 c3 f.frz g.frz @iO @cz.eq_1 @cz.eq_1 ?_|exact uu hy e4 e5 c1 c2 c3 f.frz g.frz @iO @cz.eq_1 @cz.eq_1|fail)
    apply hE
    ·exact l
    ·simp [intOf];omega
   ·have s:y=(if y>=b-a then y-(b-a) else y):=by rw [if_neg hyl]
    have e5:(a:Int)+(y:Int)=((a+y:Nat):Int):=oM;have p:a+y<b:=oM;have l:=v _ s p _ rfl;have c1:=f.cell (a+y) (by rw [c];omega);have c2:=f.cell (ix+k) (by rw [c];omega);have g:=f.set (ix+k) B.2[a+y]! (by rw [c];omega);have c3:=g.cell (a+y) (by simp;rw [c];omega)
    (repeat' first|refine ak (λ_=> ?_) (λ_=> ?_)|refine am ?_ ?_|refine lC hy e5 c1 c2 c3 f.frz g.frz @iO @cz.eq_1 @cz.eq_1 @cz.eq_1 ?_|exact uu hy e5 c1 c2 c3 f.frz g.frz @iO @cz.eq_1 @cz.eq_1 @cz.eq_1|fail)
    apply hE
    ·exact l
    ·simp [intOf];omega
  ·have:k=3:=oM;subst this;unfold nU;refine zS2 e1 e3 ?_;refine hK _ ⟨ar,?_⟩ c;have j:=(Frm.of_ext (F:=λx=>x=q\/x=w.heap.size) (Ext.alloc_self w (.cells #[.int .u64 ((b-a:Nat):Int)] 276))).trans hf (λ_ _ h=>h);exact ⟨j.os,j.tape,j.output,j.size,λx hx hn=>j.block x hx (by rintro (h|h);exact hn h;omega)⟩
end
section
variable {w w':an} {q o cap:Nat} {d:Array Nat}
def Xs (hi first a:Nat) (d:Array Nat):Go.Sort.siftDown ltN hi first a d=if 2*a+1>=hi then d else
  if (decide (2*a+1+1<hi)&&ltN d[first+(2*a+1)]! d[first+(2*a+1)+1]!)=true then
   (if ltN d[first+a]! d[first+(2*a+2)]! =true then Go.Sort.siftDown ltN hi first (2*a+2) (Go.Sort.swp d (first+a) (first+(2*a+2))) else d)
  else (if ltN d[first+a]! d[first+(2*a+1)]! =true then Go.Sort.siftDown ltN hi first (2*a+1) (Go.Sort.swp d (first+a) (first+(2*a+1))) else d):=by
 rw [Go.Sort.siftDown];by_cases h1:2*a+1>=hi
 ·rw [dif_pos h1,if_pos h1]
 ·rw [dif_neg h1,if_neg h1];by_cases h2:(decide (2*a+1+1<hi)&&ltN d[first+(2*a+1)]! d[first+(2*a+1)+1]!)=true
  ·rw [if_pos h2,if_pos h2];have h3:2*a+2<hi:=by simp at h2;omega
   cases h4:ltN d[first+a]! d[first+(2*a+2)]! with
   |true=>simp [h3]
   |false=>simp
  ·rw [if_neg h2,if_neg h2]
   cases h4:ltN d[first+a]! d[first+(2*a+1)]! with
   |true=>simp
   |false=>simp
def QI (h:Ar w q o d) (hd:d.size<1099511627776) (lo hi first:Nat) (f:lo<=hi+1) (hb:first+hi<=d.size) (K:K1) (hK:∀w',SW w w' q o (Go.Sort.siftDown ltN hi first lo d)->(Go.Sort.siftDown ltN hi first lo d).size=d.size->K (.tuple #[]) w'):
  ad prog 217 #[.slice (some ⟨q,o,none⟩) d.size cap,.int .i64 (lo:Int),.int .i64 (hi:Int),.int .i64 (first:Int)] w K:=by
 refine MH _ _ _ _ _ _ ?_;unfold Ql;apply yW (I:=λx w'=>∃(a:Nat) (d':Array Nat),x= .int .i64 (a:Int)/\a<=hi+1/\d'.size=d.size/\SW w w' q o d'/\Go.Sort.siftDown ltN hi first a d'=Go.Sort.siftDown ltN hi first lo d) (μ:=λx _=>hi+1-(intOf x).toNat)
 ·exact ⟨lo,d,rfl,f,rfl,SW.refl h,rfl⟩
 ·intros;rename_i w1 hI E1 hE;obtain ⟨a,d1,rfl,hr,hs,sw,e⟩:=hI;rw [Xs] at e;have ar:=sw.ar;have g1:2*(a:Int)+1=((2*a+1:Nat):Int):=oM;have g2:((2*a+1:Nat):Int)+1=((2*a+2:Nat):Int):=oM;have g3:(first:Int)+((2*a+1:Nat):Int)=((first+(2*a+1):Nat):Int):=oM;have g4:((first+(2*a+1):Nat):Int)+1=((first+(2*a+1)+1:Nat):Int):=oM;have g5:(first:Int)+((2*a+2:Nat):Int)=((first+(2*a+2):Nat):Int):=oM;have g6:(first:Int)+(a:Int)=((first+a:Nat):Int):=oM;by_cases h1:2*a+1>=hi
  ·rw [if_pos h1] at e;unfold dP;refine zS1 g1 ?_;rw [<-e] at hK;exact hK _ sw hs
  ·rw [if_neg h1] at e;have c1:=ar.cell (first+(2*a+1)) oM;have c0:=ar.cell (first+a) oM;have g:first+(2*a+1)+1=first+(2*a+2):=oM
   by_cases h2:2*a+1+1<hi
   ·have c2:=ar.cell (first+(2*a+2)) oM;rw [g] at g4 e
    cases h3:ltN d1[first+(2*a+1)]! d1[first+(2*a+2)]! with
    |true=>
     rw [h3,if_pos (by simp;omega)] at e
     cases h4:ltN d1[first+a]! d1[first+(2*a+2)]! with
     |true=>
      rw [h4,if_pos rfl] at e;have b:=ar.set (first+a) d1[first+(2*a+2)]! oM;have c3:=b.cell (first+(2*a+2)) (by simp;omega);have c:=sw.swp (first+a) (first+(2*a+2)) oM oM;unfold dP
      (repeat' first|refine ak (λ_=> ?_) (λ_=> ?_)|refine am ?_ ?_|refine aaO g1 g2 g3 g4 g5 g6 c0 c1 c2 @aG h3 h4 c3 ar.frz b.frz @bI @aN.eq_1 @aN.eq_1 ?_|exact aaP g1 g2 g3 g4 g5 g6 c0 c1 c2 @aG h3 h4 c3 ar.frz b.frz @bI @aN.eq_1 @aN.eq_1|fail)
      apply hE
      ·exact ⟨2*a+2,_,rfl,by omega,(bE _ _ _).trans hs,c.drew.drew.drew,e⟩
      ·simp [intOf];omega
     |false=>
      rw [h4,if_neg (by simp)] at e;unfold dP
      (repeat' first|refine ak (λ_=> ?_) (λ_=> ?_)|refine am ?_ ?_|refine QB g1 g2 g3 g4 g5 g6 c0 c1 c2 @aG h3 h4 @bI @aN.eq_1 ?_|exact aaN g1 g2 g3 g4 g5 g6 c0 c1 c2 @aG h3 h4 @bI @aN.eq_1|fail)
      rw [<-e] at hK;exact hK _ sw.drew.drew hs
    |false=>
     rw [h3,if_neg (by simp)] at e
     cases h4:ltN d1[first+a]! d1[first+(2*a+1)]! with
     |true=>
      rw [h4,if_pos rfl] at e;have b:=ar.set (first+a) d1[first+(2*a+1)]! oM;have c3:=b.cell (first+(2*a+1)) (by simp;omega);have c:=sw.swp (first+a) (first+(2*a+1)) oM oM;unfold dP
      (repeat' first|refine ak (λ_=> ?_) (λ_=> ?_)|refine am ?_ ?_|refine aaO g1 g2 g3 g4 g5 g6 c0 c1 c2 @aG h3 h4 c3 ar.frz b.frz @bI @aN.eq_1 @aN.eq_1 ?_|exact aaP g1 g2 g3 g4 g5 g6 c0 c1 c2 @aG h3 h4 c3 ar.frz b.frz @bI @aN.eq_1 @aN.eq_1|fail)
      apply hE
      ·exact ⟨2*a+1,_,rfl,by omega,(bE _ _ _).trans hs,c.drew.drew.drew,e⟩
      ·simp [intOf];omega
     |false=>
      rw [h4,if_neg (by simp)] at e;unfold dP
      (repeat' first|refine ak (λ_=> ?_) (λ_=> ?_)|refine am ?_ ?_|refine QB g1 g2 g3 g4 g5 g6 c0 c1 c2 @aG h3 h4 @bI @aN.eq_1 ?_|exact aaN g1 g2 g3 g4 g5 g6 c0 c1 c2 @aG h3 h4 @bI @aN.eq_1|fail)
      rw [<-e] at hK;exact hK _ sw.drew.drew hs
   ·rw [if_neg (by simp;omega)] at e;have h3:True:=trivial
    cases h4:ltN d1[first+a]! d1[first+(2*a+1)]! with
    |true=>
     rw [h4,if_pos rfl] at e;have b:=ar.set (first+a) d1[first+(2*a+1)]! oM;have c3:=b.cell (first+(2*a+1)) (by simp;omega);have c:=sw.swp (first+a) (first+(2*a+1)) oM oM;unfold dP
     (repeat' first|refine ak (λ_=> ?_) (λ_=> ?_)|refine am ?_ ?_|refine aaO g1 g2 g3 g4 g5 g6 c0 c1 @aG h4 c3 ar.frz b.frz @bI @aN.eq_1 @aN.eq_1 @aN.eq_1 @aN.eq_1 ?_|exact aaP g1 g2 g3 g4 g5 g6 c0 c1 @aG h4 c3 ar.frz b.frz @bI @aN.eq_1 @aN.eq_1 @aN.eq_1 @aN.eq_1|fail)
     apply hE
     ·exact ⟨2*a+1,_,rfl,by omega,(bE _ _ _).trans hs,c.drew.drew.drew,e⟩
     ·simp [intOf];omega
    |false=>
     rw [h4,if_neg (by simp)] at e;unfold dP
     (repeat' first|refine ak (λ_=> ?_) (λ_=> ?_)|refine am ?_ ?_|refine QB g1 g2 g3 g4 g5 g6 c0 c1 @aG h4 @bI @aN.eq_1 @aN.eq_1 @aN.eq_1 ?_|exact aaN g1 g2 g3 g4 g5 g6 c0 c1 @aG h4 @bI @aN.eq_1 @aN.eq_1 @aN.eq_1|fail)
     rw [<-e] at hK;exact hK _ sw.drew.drew hs
def aaT (h:Ar w q o d) (hd:d.size<1099511627776) (a b:Nat) (s:a<b) (hb:b<=d.size) (K:K1) (hK:∀w',SW w w' q o (Go.Sort.heapSort ltN d a b)->(Go.Sort.heapSort ltN d a b).size=d.size->K (.tuple #[]) w'):
  ad prog 202 #[.slice (some ⟨q,o,none⟩) d.size cap,.int .i64 (a:Int),.int .i64 (b:Int)] w K:=by
 have e0:(b:Int)-(a:Int)=((b-a:Nat):Int):=oM;have e1:(((b-a:Nat):Int)-1)/2=(((b-a-1)/2+1:Nat):Int)-1:=oM;refine Mv _ _ _ _ _ ?_;unfold Qa;refine zS2 e0 e1 ?_;apply yq (I:=λx w'=>∃(k:Nat) (d':Array Nat),x= .int .i64 ((k:Int)-1)/\k<=(b-a-1)/2+1/\d'.size=d.size/\SW w w' q o d'/\Go.Sort.heapPop ltN a (b-a) (Go.Sort.heapBuild ltN (b-a) a k d')=Go.Sort.heapSort ltN d a b) (μ:=λx _=>((intOf x)+1).toNat)
 ·exact ⟨(b-a-1)/2+1,d,rfl,by omega,rfl,SW.refl h,rfl⟩
 ·intros;rename_i w1 hI E1 hE;obtain ⟨k,d1,rfl,hk,hs,sw,e⟩:=hI
  cases k with
  |zero=>
   unfold nQ;have e2:((b-a:Nat):Int)-1=((b-a:Nat):Int)-1:=rfl;refine zS2 @FM @uR.eq_1 ?_;apply yr (I:=λx w'=>∃(k:Nat) (d':Array Nat),x= .int .i64 ((k:Int)-1)/\k<=b-a/\d'.size=d.size/\SW w w' q o d'/\Go.Sort.heapPop ltN a k d'=Go.Sort.heapSort ltN d a b) (μ:=λx _=>((intOf x)+1).toNat)
   ·exact ⟨b-a,d1,rfl,by omega,hs,sw,e⟩
   ·intros;rename_i w2 m E2 p;obtain ⟨k,d2,rfl,r,l,g,e3⟩:=m
    cases k with
    |zero=>
     unfold nT;have e4:Go.Sort.heapPop ltN a 0 d2=d2:=rfl;rw [e4] at e3;refine zS0 ?_;rw [<-e3] at hK;exact hK _ g l
    |succ k=>
     have e4:Go.Sort.heapPop ltN a (k+1) d2=Go.Sort.heapPop ltN a k (Go.Sort.siftDown ltN k a 0 (Go.Sort.swp d2 a (a+k))):=rfl;rw [e4] at e3;have g1:((k+1:Nat):Int)-1=(k:Int):=oM;have g2:(a:Int)+(k:Int)=((a+k:Nat):Int):=oM;have ar:=g.ar;have c0:=ar.cell a oM;have c1:=ar.cell (a+k) oM;have c:=ar.set a d2[a+k]! oM;have c3:=c.cell (a+k) (by simp;omega);have j:=g.swp a (a+k) oM oM;have n:=bE d2 a (a+k);unfold nT
     (repeat' first|refine ak (λ_=> ?_) (λ_=> ?_)|refine am ?_ ?_|refine zS8 g1 g2 c0 c1 c3 ar.frz c.frz c.frz ?_|exact yS8 g1 g2 c0 c1 c3 ar.frz c.frz c.frz|fail)
     have i:d.size=(Go.Sort.swp d2 a (a+k)).size:=by rw [n,l]
     rw [i];refine QI (cap:=cap) j.drew.ar oM 0 k a oM oM _ (λw3 h3 f=> ?_);rw [<-i] at f;try rw [<-i]
     refine zS0 ?_;apply p
     ·exact ⟨k,_,by rw [g1],by omega,f,j.drew.trans h3,e3⟩
     ·simp [intOf]
  |succ k=>
   have e4:Go.Sort.heapBuild ltN (b-a) a (k+1) d1=Go.Sort.heapBuild ltN (b-a) a k (Go.Sort.siftDown ltN (b-a) a k d1):=rfl;rw [e4] at e;have g1:((k+1:Nat):Int)-1=(k:Int):=oM;unfold nQ;refine zS1 g1 ?_;rw [<-hs];refine QI (cap:=cap) sw.ar oM k (b-a) a oM oM _ (λw3 h3 f=> ?_);rw [hs] at f;try rw [hs]
   refine zS0 ?_;apply hE
   ·exact ⟨k,_,by rw [g1],by omega,f,sw.trans h3,e⟩
   ·simp [intOf]
end
section
variable {w w':an} {q o cap:Nat} {d:Array Nat}
def od (p:Nat->Bool) (d:Array Nat) (j i:Nat):Go.Sort.scanUp p d j i=if (decide (i<=j)&&p d[i]!)=true then Go.Sort.scanUp p d j (i+1) else i:=by rw [Go.Sort.scanUp]
def gH (p:Nat->Bool) (d:Array Nat) (i j:Nat):Go.Sort.scanDown p d i (j+1)=if (decide (i<=j+1)&&p d[j+1]!)=true then Go.Sort.scanDown p d i j else j+1:=rfl
def QJ (h:Ar w q o d) (hd:d.size<1099511627776) (a b pv:Nat) (G:a+1<b) (hb:b<=d.size) (hp:a<=pv) (F:pv<b) (K:K1) (hK:∀w',SW w w' q o (Go.Sort.partition ltN d a b pv).2.2->(Go.Sort.partition ltN d a b pv).2.2.size=d.size->K (.tuple #[.int .i64 (((Go.Sort.partition ltN d a b pv).1:Nat):Int),.bool (Go.Sort.partition ltN d a b pv).2.1]) w'):
  ad prog 209 #[.slice (some ⟨q,o,none⟩) d.size cap,.int .i64 (a:Int),.int .i64 (b:Int),.int .i64 (pv:Int)] w K:=by
 have c0:=h.cell a oM;have cp:=h.cell pv oM;have p:=h.set a d[pv]! oM;have cq:=p.cell pv (by simp;omega);have C:=(SW.refl h).swp a pv oM oM;have s:=bE d a pv;unfold Go.Sort.partition at hK;simp only at hK;generalize hD:Go.Sort.swp d a pv=D at*;have e1:(a:Int)+1=((a+1:Nat):Int):=oM;have e2:(b:Int)-1=((b-1:Nat):Int):=oM;have t3:∀(i0 j0:Nat) (D0:Array Nat),D0.size=d.size->(∀w',SW w w' q o (Go.Sort.swp (Go.Sort.partLoop ltN a i0 j0 D0).2 (Go.Sort.partLoop ltN a i0 j0 D0).1 a)->(Go.Sort.swp (Go.Sort.partLoop ltN a i0 j0 D0).2 (Go.Sort.partLoop ltN a i0 j0 D0).1 a).size=d.size->K (.tuple #[.int .i64 (((Go.Sort.partLoop ltN a i0 j0 D0).1:Nat):Int),.bool false]) w')->a+1<=i0->i0<=b->i0<=j0+2->a<=j0->j0<b->∀w0,SW w w0 q o D0->
   yM K (.slice (some ⟨q,o,none⟩) d.size cap) (.int .i64 ((a:Nat):Int)) (.int .i64 ((i0:Nat):Int)) (.int .i64 ((j0:Nat):Int)) w0:=by
  intro i0 j0 D0 hz r b1 b2 b0 b3 b4 w0 s0;apply yR (I:=λx y w'=>∃(i j:Nat) (D1:Array Nat),x= .int .i64 (i:Int)/\y= .int .i64 (j:Int)/\a+1<=i/\i<=b/\i<=j+2/\a<=j/\j<b/\D1.size=d.size/\SW w w' q o D1/\Go.Sort.partLoop ltN a i j D1=Go.Sort.partLoop ltN a i0 j0 D0) (μ:=λx y _=>(intOf y).toNat+1-(intOf x).toNat)
  ·exact ⟨i0,j0,D0,rfl,rfl,b1,b2,b0,b3,b4,hz,s0,rfl⟩
  ·intros;rename_i w1 hI E1 hE;obtain ⟨i1,j1,D1,rfl,rfl,b5,b6,b9,b7,b8,t,v,eP⟩:=hI;rw [Go.Sort.partLoop] at eP;have t5:∀(i j:Nat) wB,SW w wB q o D1->i1<=i->i<=b->j<=j1->a<=j->Go.Sort.scanUp (λx=>ltN x D1[a]!) D1 j1 i1=i->Go.Sort.scanDown (λx=> !ltN x D1[a]!) D1 i j1=j->yN K E1 (.slice (some ⟨q,o,none⟩) d.size cap) (.int .i64 ((a:Nat):Int)) (.int .i64 ((i:Nat):Int)) (.int .i64 ((j:Nat):Int)) wB:=by
    intro i j wB g h1 h2 h3 h4 eu ed;simp only [eu,ed] at eP;by_cases hij:i>j
    ·rw [if_pos hij] at eP;rw [<-eP] at r;have c:=g.ar;have d1:=c.cell a oM;have d2:=c.cell j oM;have f:=c.set j D1[a]! oM;have d3:=f.cell a (by simp;omega);have l:=g.swp j a oM oM
     (repeat' first|refine ak (λ_=> ?_) (λ_=> ?_)|refine am ?_ ?_|refine lC @iX @hU.eq_1 @rF @n9.eq_1 d1 d2 d3 c.frz f.frz f.frz f.frz ?_|exact uu @iX @hU.eq_1 @rF @n9.eq_1 d1 d2 d3 c.frz f.frz f.frz f.frz|fail)
     exact r _ l.drew ((bE _ _ _).trans t)
    ·rw [if_neg hij,dif_pos oM] at eP;have c:=g.ar;have d1:=c.cell i oM;have d2:=c.cell j oM;have f:=c.set i D1[j]! oM;have d3:=f.cell j (by simp;omega);have l:=g.swp i j oM oM;have g1:(i:Int)+1=((i+1:Nat):Int):=oM;have g2:(j:Int)-1=((j-1:Nat):Int):=oM
     (repeat' first|refine ak (λ_=> ?_) (λ_=> ?_)|refine am ?_ ?_|refine lC @iX @hU.eq_1 d1 d2 d3 c.frz f.frz g1 g2 g2 g2 ?_|exact uu @iX @hU.eq_1 d1 d2 d3 c.frz f.frz g1 g2 g2 g2|fail)
     apply hE
     ·exact ⟨i+1,j-1,_,rfl,rfl,by omega,by omega,by omega,by omega,by omega,(bE _ _ _).trans t,l.drew,eP⟩
     ·simp [intOf];omega
   have t4:∀(i:Nat) wB,SW w wB q o D1->i1<=i->i<=b->Go.Sort.scanUp (λx=>ltN x D1[a]!) D1 j1 i1=i->yO K E1 (.slice (some ⟨q,o,none⟩) d.size cap) (.int .i64 ((a:Nat):Int)) (.int .i64 ((i:Nat):Int)) (.int .i64 ((j1:Nat):Int)) wB:=by
    intro i wB g h1 h2 eu;apply yT (I:=λx w'=>∃j:Nat,x= .int .i64 (j:Int)/\j<=j1/\a<=j/\SW w w' q o D1/\Go.Sort.scanDown (λx=> !ltN x D1[a]!) D1 i j=Go.Sort.scanDown (λx=> !ltN x D1[a]!) D1 i j1) (μ:=λx _=>(intOf x).toNat)
    ·exact ⟨j1,rfl,by omega,by omega,g,rfl⟩
    ·intros;rename_i wA n EA m;obtain ⟨j,rfl,A,E,e,eA⟩:=n;have k:=e.ar
     cases j with
     |zero=>
      have e0:Go.Sort.scanDown (λx=> !ltN x D1[a]!) D1 i 0=0:=rfl;rw [e0] at eA;unfold ia
      (repeat' first|refine ak (λ_=> ?_) (λ_=> ?_)|refine am ?_ ?_|refine zS0 ?_|exact yS0|fail)
      apply t5 i 0 _ e.drew oM oM oM oM eu eA.symm
     |succ j=>
      rw [gH] at eA;have gj:((j+1:Nat):Int)-1=(j:Int):=oM;by_cases hij:i<=j+1
      ·have c1:=k.cell (j+1) oM;have c2:=k.cell a oM
       cases hl:ltN D1[j+1]! D1[a]! with
       |false=>
        rw [if_pos (by simp [hl];omega)] at eA;unfold ia
        (repeat' first|refine ak (λ_=> ?_) (λ_=> ?_)|refine am ?_ ?_|refine zS6 gj c1 c2 @aG hl hl ?_|exact yS6 gj c1 c2 @aG hl hl|fail)
        apply m
        ·exact ⟨j,rfl,by omega,by omega,e.drew,eA⟩
        ·simp [intOf]
       |true=>
        rw [if_neg (by simp [hl])] at eA;unfold ia
        (repeat' first|refine ak (λ_=> ?_) (λ_=> ?_)|refine am ?_ ?_|refine zS6 gj c1 c2 @aG hl hl ?_|exact yS6 gj c1 c2 @aG hl hl|fail)
        apply t5 i (j+1) _ e.drew oM oM oM oM eu eA.symm
      ·rw [if_neg (by simp;omega)] at eA;unfold ia
       (repeat' first|refine ak (λ_=> ?_) (λ_=> ?_)|refine am ?_ ?_|refine zS0 ?_|exact yS0|fail)
       apply t5 i (j+1) _ e.drew oM oM oM oM eu eA.symm
   unfold vf;apply yS (I:=λx w'=>∃i:Nat,x= .int .i64 (i:Int)/\i1<=i/\i<=j1+2/\i<=b/\SW w w' q o D1/\Go.Sort.scanUp (λx=>ltN x D1[a]!) D1 j1 i=Go.Sort.scanUp (λx=>ltN x D1[a]!) D1 j1 i1) (μ:=λx _=>j1+3-(intOf x).toNat)
   ·exact ⟨i1,rfl,by omega,by omega,by omega,v,rfl⟩
   ·intros;rename_i wA n EA m;obtain ⟨i,rfl,z,u,B,e,eA⟩:=n;rw [od] at eA;have k:=e.ar;have gi:(i:Int)+1=((i+1:Nat):Int):=oM;by_cases hij:i<=j1
    ·have c1:=k.cell i oM;have c2:=k.cell a oM
     cases hl:ltN D1[i]! D1[a]! with
     |true=>
      rw [if_pos (by simp [hl];omega)] at eA;unfold ke
      (repeat' first|refine ak (λ_=> ?_) (λ_=> ?_)|refine am ?_ ?_|refine zS6 gi c1 c2 @aG hl hl ?_|exact yS6 gi c1 c2 @aG hl hl|fail)
      apply m
      ·exact ⟨i+1,rfl,by omega,by omega,by omega,e.drew,eA⟩
      ·simp [intOf];omega
     |false=>
      rw [if_neg (by simp [hl])] at eA;unfold ke
      (repeat' first|refine ak (λ_=> ?_) (λ_=> ?_)|refine am ?_ ?_|refine zS8 gi c1 c2 @aG hl @iW @eO.eq_1 @eO.eq_1 ?_|exact yS8 gi c1 c2 @aG hl @iW @eO.eq_1 @eO.eq_1|fail)
      apply t4 i _ e.drew oM oM eA.symm
    ·rw [if_neg (by simp;omega)] at eA;unfold ke
     (repeat' first|refine ak (λ_=> ?_) (λ_=> ?_)|refine am ?_ ?_|refine zS3 gi @iW @eO.eq_1 ?_|exact yS3 gi @iW @eO.eq_1|fail)
     apply t4 i _ e.drew oM oM eA.symm
 have t2:∀(i j:Nat) wB,SW w wB q o D->a+1<=i->i<=b->j<=b-1->a<=j->Go.Sort.scanUp (λx=>ltN x D[a]!) D (b-1) (a+1)=i->Go.Sort.scanDown (λx=> !ltN x D[a]!) D i (b-1)=j->yK K (.slice (some ⟨q,o,none⟩) d.size cap) (.int .i64 ((a:Nat):Int)) (.int .i64 ((i:Nat):Int)) (.int .i64 ((j:Nat):Int)) wB:=by
  intro i j wB g h1 h2 h3 h4 eu ed;simp only [eu,ed] at hK;by_cases hij:i>j
  ·simp only [if_pos hij] at hK;have c:=g.ar;have d1:=c.cell a oM;have d2:=c.cell j oM;have f:=c.set j D[a]! oM;have d3:=f.cell a (by simp;omega);have l:=g.swp j a oM oM
   (repeat' first|refine ak (λ_=> ?_) (λ_=> ?_)|refine am ?_ ?_|refine zS8 @iV @hP.eq_1 d1 d2 d3 c.frz f.frz f.frz ?_|exact yS8 @iV @hP.eq_1 d1 d2 d3 c.frz f.frz f.frz|fail)
   exact hK _ l.drew ((bE _ _ _).trans s)
  ·simp only [if_neg hij] at hK;have c:=g.ar;have d1:=c.cell i oM;have d2:=c.cell j oM;have f:=c.set i D[j]! oM;have d3:=f.cell j (by simp;omega);have l:=g.swp i j oM oM;have g1:(i:Int)+1=((i+1:Nat):Int):=oM;have g2:(j:Int)-1=((j-1:Nat):Int):=oM
   (repeat' first|refine ak (λ_=> ?_) (λ_=> ?_)|refine am ?_ ?_|refine lC @iV @hP.eq_1 d1 d2 d3 c.frz f.frz g1 g2 g2 g2 ?_|exact uu @iV @hP.eq_1 d1 d2 d3 c.frz f.frz g1 g2 g2 g2|fail)
   apply t3 (i+1) (j-1) _ ((bE _ _ _).trans s) hK oM oM oM oM oM _ l.drew
 have t1:∀(i:Nat) wB,SW w wB q o D->a+1<=i->i<=b->Go.Sort.scanUp (λx=>ltN x D[a]!) D (b-1) (a+1)=i->yL K (.slice (some ⟨q,o,none⟩) d.size cap) (.int .i64 ((a:Nat):Int)) (.int .i64 ((i:Nat):Int)) (.int .i64 ((b-1:Nat):Int)) wB:=by
  intro i wB g h1 h2 eu;apply yQ (I:=λx w'=>∃j:Nat,x= .int .i64 (j:Int)/\j<=b-1/\a<=j/\SW w w' q o D/\Go.Sort.scanDown (λx=> !ltN x D[a]!) D i j=Go.Sort.scanDown (λx=> !ltN x D[a]!) D i (b-1)) (μ:=λx _=>(intOf x).toNat)
  ·exact ⟨b-1,rfl,by omega,by omega,g,rfl⟩
  ·intros;rename_i wA n EA m;obtain ⟨j,rfl,A,E,e,eA⟩:=n;have k:=e.ar
   cases j with
   |zero=>
    have e0:Go.Sort.scanDown (λx=> !ltN x D[a]!) D i 0=0:=rfl;rw [e0] at eA;unfold hQ
    (repeat' first|refine ak (λ_=> ?_) (λ_=> ?_)|refine am ?_ ?_|refine zS0 ?_|exact yS0|fail)
    apply t2 i 0 _ e.drew oM oM oM oM eu eA.symm
   |succ j=>
    rw [gH] at eA;have gj:((j+1:Nat):Int)-1=(j:Int):=oM;by_cases hij:i<=j+1
    ·have c1:=k.cell (j+1) oM;have c2:=k.cell a oM
     cases hl:ltN D[j+1]! D[a]! with
     |false=>
      rw [if_pos (by simp [hl];omega)] at eA;unfold hQ
      (repeat' first|refine ak (λ_=> ?_) (λ_=> ?_)|refine am ?_ ?_|refine zS6 gj c1 c2 @aG hl hl ?_|exact yS6 gj c1 c2 @aG hl hl|fail)
      apply m
      ·exact ⟨j,rfl,by omega,by omega,e.drew,eA⟩
      ·simp [intOf]
     |true=>
      rw [if_neg (by simp [hl])] at eA;unfold hQ
      (repeat' first|refine ak (λ_=> ?_) (λ_=> ?_)|refine am ?_ ?_|refine zS6 gj c1 c2 @aG hl hl ?_|exact yS6 gj c1 c2 @aG hl hl|fail)
      apply t2 i (j+1) _ e.drew oM oM oM oM eu eA.symm
    ·rw [if_neg (by simp;omega)] at eA;unfold hQ
     (repeat' first|refine ak (λ_=> ?_) (λ_=> ?_)|refine am ?_ ?_|refine zS0 ?_|exact yS0|fail)
     apply t2 i (j+1) _ e.drew oM oM oM oM eu eA.symm
 refine MD _ _ _ _ _ _ ?_;unfold Qi
 (repeat' first|refine ak (λ_=> ?_) (λ_=> ?_)|refine am ?_ ?_|refine zS8 e1 e2 c0 cp cq h.frz p.frz p.frz ?_|exact yS8 e1 e2 c0 cp cq h.frz p.frz p.frz|fail)
 apply yP (I:=λx w'=>∃i:Nat,x= .int .i64 (i:Int)/\(a+1)<=i/\i<=(b-1)+2/\i<=b/\SW w w' q o D/\Go.Sort.scanUp (λx=>ltN x D[a]!) D (b-1) i=Go.Sort.scanUp (λx=>ltN x D[a]!) D (b-1) (a+1)) (μ:=λx _=>(b-1)+3-(intOf x).toNat)
 ·exact ⟨(a+1),rfl,by omega,by omega,by omega,C.drew,rfl⟩
 ·intros;rename_i wA n EA m;obtain ⟨i,rfl,z,u,B,e,eA⟩:=n;rw [od] at eA;have k:=e.ar;have gi:(i:Int)+1=((i+1:Nat):Int):=oM;by_cases hij:i<=(b-1)
  ·have c1:=k.cell i oM;have c2:=k.cell a oM
   cases hl:ltN D[i]! D[a]! with
   |true=>
    rw [if_pos (by simp [hl];omega)] at eA;unfold j9
    (repeat' first|refine ak (λ_=> ?_) (λ_=> ?_)|refine am ?_ ?_|refine zS6 gi c1 c2 @aG hl hl ?_|exact yS6 gi c1 c2 @aG hl hl|fail)
    apply m
    ·exact ⟨i+1,rfl,by omega,by omega,by omega,e.drew,eA⟩
    ·simp [intOf];omega
   |false=>
    rw [if_neg (by simp [hl])] at eA;unfold j9
    (repeat' first|refine ak (λ_=> ?_) (λ_=> ?_)|refine am ?_ ?_|refine zS8 gi c1 c2 @aG hl @iU @eM.eq_1 @eM.eq_1 ?_|exact yS8 gi c1 c2 @aG hl @iU @eM.eq_1 @eM.eq_1|fail)
    apply t1 i _ e.drew oM oM eA.symm
  ·rw [if_neg (by simp;omega)] at eA;unfold j9
   (repeat' first|refine ak (λ_=> ?_) (λ_=> ?_)|refine am ?_ ?_|refine zS3 gi @iU @eM.eq_1 ?_|exact yS3 gi @iU @eM.eq_1|fail)
   apply t1 i _ e.drew oM oM eA.symm
end
section
variable {w w':an} {q o cap:Nat} {d:Array Nat}
def QK (h:Ar w q o d) (hd:d.size<1099511627776) (a b pv:Nat) (E:a+1<b) (hb:b<=d.size) (hp:a<=pv) (A:pv<b) (K:K1) (hK:∀w',SW w w' q o (bl ltN d a b pv).2->(bl ltN d a b pv).2.size=d.size->a<(bl ltN d a b pv).1/\(bl ltN d a b pv).1<=b->K (.int .i64 (((bl ltN d a b pv).1:Nat):Int)) w'):
  ad prog 208 #[.slice (some ⟨q,o,none⟩) d.size cap,.int .i64 (a:Int),.int .i64 (b:Int),.int .i64 (pv:Int)] w K:=by
 have c0:=h.cell a oM;have cp:=h.cell pv oM;have e:=h.set a d[pv]! oM;have cq:=e.cell pv (by simp;omega);have v:=(SW.refl h).swp a pv oM oM;have u:=bE d a pv;unfold bl at hK;generalize hD:Go.Sort.swp d a pv=D at*;have e1:(a:Int)+1=((a+1:Nat):Int):=oM;have e2:(b:Int)-1=((b-1:Nat):Int):=oM;have t3:∀(i0 j0:Nat) (D0:Array Nat),D0.size=d.size->(∀w',SW w w' q o (cj ltN a i0 j0 D0).2->(cj ltN a i0 j0 D0).2.size=d.size->a<(cj ltN a i0 j0 D0).1/\(cj ltN a i0 j0 D0).1<=b->K (.int .i64 (((cj ltN a i0 j0 D0).1:Nat):Int)) w')->a+1<=i0->i0<=b->i0<=j0+2->a<=j0->j0<b->∀w0,SW w w0 q o D0->
   yE K (.slice (some ⟨q,o,none⟩) d.size cap) (.int .i64 ((a:Nat):Int)) (.int .i64 ((i0:Nat):Int)) (.int .i64 ((j0:Nat):Int)) w0:=by
  intro i0 j0 D0 hz p b1 b2 b0 b3 b4 w0 s0;apply yH (I:=λx y w'=>∃(i j:Nat) (D1:Array Nat),x= .int .i64 (i:Int)/\y= .int .i64 (j:Int)/\a+1<=i/\i<=b/\i<=j+2/\a<=j/\j<b/\D1.size=d.size/\SW w w' q o D1/\cj ltN a i j D1=cj ltN a i0 j0 D0) (μ:=λx y _=>(intOf y).toNat+1-(intOf x).toNat)
  ·exact ⟨i0,j0,D0,rfl,rfl,b1,b2,b0,b3,b4,hz,s0,rfl⟩
  ·intros;rename_i w1 hI E1 hE;obtain ⟨i1,j1,D1,rfl,rfl,b5,b6,b9,b7,b8,r,t,eP⟩:=hI;rw [cj] at eP;have t5:∀(i j:Nat) wB,SW w wB q o D1->i1<=i->i<=b->j<=j1->a<=j->Go.Sort.scanUp (λx=> !ltN D1[a]! x) D1 j1 i1=i->Go.Sort.scanDown (λx=>ltN D1[a]! x) D1 i j1=j->yF K E1 (.slice (some ⟨q,o,none⟩) d.size cap) (.int .i64 ((a:Nat):Int)) (.int .i64 ((i:Nat):Int)) (.int .i64 ((j:Nat):Int)) wB:=by
    intro i j wB k h1 h2 h3 h4 eu ed;simp only [eu,ed] at eP;by_cases hij:i>j
    ·rw [if_pos hij] at eP;rw [<-eP] at p
     (repeat' first|refine ak (λ_=> ?_) (λ_=> ?_)|refine am ?_ ?_|refine zS4 @iT @gZ.eq_1 @rE @n8.eq_1 ?_|exact yS4 @iT @gZ.eq_1 @rE @n8.eq_1|fail)
     exact p _ k r ⟨by show a<i;omega,h2⟩
    ·rw [if_neg hij,dif_pos oM] at eP;have g:=k.ar;have d1:=g.cell i oM;have d2:=g.cell j oM;have l:=g.set i D1[j]! oM;have d3:=l.cell j (by simp;omega);have s:=k.swp i j oM oM;have g1:(i:Int)+1=((i+1:Nat):Int):=oM;have g2:(j:Int)-1=((j-1:Nat):Int):=oM
     (repeat' first|refine ak (λ_=> ?_) (λ_=> ?_)|refine am ?_ ?_|refine lC @iT @gZ.eq_1 d1 d2 d3 g.frz l.frz g1 g2 g2 g2 ?_|exact uu @iT @gZ.eq_1 d1 d2 d3 g.frz l.frz g1 g2 g2 g2|fail)
     apply hE
     ·exact ⟨i+1,j-1,_,rfl,rfl,by omega,by omega,by omega,by omega,by omega,(bE _ _ _).trans r,s.drew,eP⟩
     ·simp [intOf];omega
   have t4:∀(i:Nat) wB,SW w wB q o D1->i1<=i->i<=b->Go.Sort.scanUp (λx=> !ltN D1[a]! x) D1 j1 i1=i->yG K E1 (.slice (some ⟨q,o,none⟩) d.size cap) (.int .i64 ((a:Nat):Int)) (.int .i64 ((i:Nat):Int)) (.int .i64 ((j1:Nat):Int)) wB:=by
    intro i wB k h1 h2 eu;apply yJ (I:=λx w'=>∃j:Nat,x= .int .i64 (j:Int)/\j<=j1/\a<=j/\SW w w' q o D1/\Go.Sort.scanDown (λx=>ltN D1[a]! x) D1 i j=Go.Sort.scanDown (λx=>ltN D1[a]! x) D1 i j1) (μ:=λx _=>(intOf x).toNat)
    ·exact ⟨j1,rfl,by omega,by omega,k,rfl⟩
    ·intros;rename_i wA n EA m;obtain ⟨j,rfl,C,G,c,eA⟩:=n;have f:=c.ar
     cases j with
     |zero=>
      have e0:Go.Sort.scanDown (λx=>ltN D1[a]! x) D1 i 0=0:=rfl;rw [e0] at eA;unfold hJ
      (repeat' first|refine ak (λ_=> ?_) (λ_=> ?_)|refine am ?_ ?_|refine zS0 ?_|exact yS0|fail)
      apply t5 i 0 _ c.drew oM oM oM oM eu eA.symm
     |succ j=>
      rw [gH] at eA;have gj:((j+1:Nat):Int)-1=(j:Int):=oM;by_cases hij:i<=j+1
      ·have c1:=f.cell (j+1) oM;have c2:=f.cell a oM
       cases hl:ltN D1[a]! D1[j+1]! with
       |true=>
        rw [if_pos (by simp [hl];omega)] at eA;unfold hJ
        (repeat' first|refine ak (λ_=> ?_) (λ_=> ?_)|refine am ?_ ?_|refine zS6 gj c1 c2 @aG hl hl ?_|exact yS6 gj c1 c2 @aG hl hl|fail)
        apply m
        ·exact ⟨j,rfl,by omega,by omega,c.drew,eA⟩
        ·simp [intOf]
       |false=>
        rw [if_neg (by simp [hl])] at eA;unfold hJ
        (repeat' first|refine ak (λ_=> ?_) (λ_=> ?_)|refine am ?_ ?_|refine zS6 gj c1 c2 @aG hl hl ?_|exact yS6 gj c1 c2 @aG hl hl|fail)
        apply t5 i (j+1) _ c.drew oM oM oM oM eu eA.symm
      ·rw [if_neg (by simp;omega)] at eA;unfold hJ
       (repeat' first|refine ak (λ_=> ?_) (λ_=> ?_)|refine am ?_ ?_|refine zS0 ?_|exact yS0|fail)
       apply t5 i (j+1) _ c.drew oM oM oM oM eu eA.symm
   unfold u6;apply yI (I:=λx w'=>∃i:Nat,x= .int .i64 (i:Int)/\i1<=i/\i<=j1+2/\i<=b/\SW w w' q o D1/\Go.Sort.scanUp (λx=> !ltN D1[a]! x) D1 j1 i=Go.Sort.scanUp (λx=> !ltN D1[a]! x) D1 j1 i1) (μ:=λx _=>j1+3-(intOf x).toNat)
   ·exact ⟨i1,rfl,by omega,by omega,by omega,t,rfl⟩
   ·intros;rename_i wA n EA m;obtain ⟨i,rfl,B,z,F,c,eA⟩:=n;rw [od] at eA;have f:=c.ar;have gi:(i:Int)+1=((i+1:Nat):Int):=oM;by_cases hij:i<=j1
    ·have c1:=f.cell i oM;have c2:=f.cell a oM
     cases hl:ltN D1[a]! D1[i]! with
     |false=>
      rw [if_pos (by simp [hl];omega)] at eA;unfold j8
      (repeat' first|refine ak (λ_=> ?_) (λ_=> ?_)|refine am ?_ ?_|refine zS6 gi c1 c2 @aG hl hl ?_|exact yS6 gi c1 c2 @aG hl hl|fail)
      apply m
      ·exact ⟨i+1,rfl,by omega,by omega,by omega,c.drew,eA⟩
      ·simp [intOf];omega
     |true=>
      rw [if_neg (by simp [hl])] at eA;unfold j8
      (repeat' first|refine ak (λ_=> ?_) (λ_=> ?_)|refine am ?_ ?_|refine zS8 gi c1 c2 @aG hl @iS @eK.eq_1 @eK.eq_1 ?_|exact yS8 gi c1 c2 @aG hl @iS @eK.eq_1 @eK.eq_1|fail)
      apply t4 i _ c.drew oM oM eA.symm
    ·rw [if_neg (by simp;omega)] at eA;unfold j8
     (repeat' first|refine ak (λ_=> ?_) (λ_=> ?_)|refine am ?_ ?_|refine zS3 gi @iS @eK.eq_1 ?_|exact yS3 gi @iS @eK.eq_1|fail)
     apply t4 i _ c.drew oM oM eA.symm
 refine MC _ _ _ _ _ _ ?_;unfold Qh
 (repeat' first|refine ak (λ_=> ?_) (λ_=> ?_)|refine am ?_ ?_|refine zS8 e1 e2 c0 cp cq h.frz e.frz e.frz ?_|exact yS8 e1 e2 c0 cp cq h.frz e.frz e.frz|fail)
 apply t3 (a+1) (b-1) D u hK oM oM oM oM oM _ v.drew
end
section
variable {w w':an} {q o cap:Nat} {d:Array Nat}
def uy (d:Array Nat) (b i:Nat):al ltN d b i=if (decide (i<b)&& !ltN d[i]! d[i-1]!)=true then al ltN d b (i+1) else i:=by rw [al]
def rS (j:Nat) (d:Array Nat):Go.Sort.shiftDown ltN (j+1) d=if (!ltN d[j+1]! d[j]!)=true then d else Go.Sort.shiftDown ltN j (Go.Sort.swp d (j+1) j):=rfl
def F7 (b j:Nat) (d:Array Nat):Go.Sort.shiftUp ltN b j d=if j<b then (if (!ltN d[j]! d[j-1]!)=true then d else Go.Sort.shiftUp ltN b (j+1) (Go.Sort.swp d j (j-1))) else d:=by rw [Go.Sort.shiftUp]
def qy (a b s i:Nat) (d:Array Nat):cA ltN a b (s+1) i d=(if al ltN d b i=b then (d,true) else if b-a<50 then (d,false) else
  cA ltN a b s (al ltN d b i) (if b-al ltN d b i>=2 then Go.Sort.shiftUp ltN b (al ltN d b i+1) (if al ltN d b i-a>=2 then Go.Sort.shiftDown ltN (al ltN d b i-1) (Go.Sort.swp d (al ltN d b i) (al ltN d b i-1)) else Go.Sort.swp d (al ltN d b i) (al ltN d b i-1)) else (if al ltN d b i-a>=2 then Go.Sort.shiftDown ltN (al ltN d b i-1) (Go.Sort.swp d (al ltN d b i) (al ltN d b i-1)) else Go.Sort.swp d (al ltN d b i) (al ltN d b i-1)))):=rfl
def aci (h:Ar w q o d) (hd:d.size<1099511627776) (a b:Nat) (B:a+1<b) (hb:b<=d.size) (K:K1) (hK:∀w',SW w w' q o (aB ltN d a b).1->(aB ltN d a b).1.size=d.size->K (.bool (aB ltN d a b).2) w'):
  ad prog 206 #[.slice (some ⟨q,o,none⟩) d.size cap,.int .i64 (a:Int),.int .i64 (b:Int)] w K:=by
 have e1:(a:Int)+1=((a+1:Nat):Int):=oM;refine MA _ _ _ _ _ ?_;unfold Qf;refine zS1 e1 ?_;generalize hT:aB ltN d a b=T at*;apply yA (I:=λx y w'=>∃(i j:Nat) (D:Array Nat),x= .int .i64 (i:Int)/\y= .int .i64 (j:Int)/\j<=5/\a+1<=i/\i<=b/\D.size=d.size/\SW w w' q o D/\cA ltN a b (5-j) i D=T) (μ:=λ_ y _=>6-(intOf y).toNat)
 ·exact ⟨a+1,0,d,rfl,rfl,by omega,by omega,by omega,rfl,SW.refl h,hT⟩
 ·intro x7 x8 w1 hI E1 hE;obtain ⟨i0,jj,D,rfl,rfl,C,b1,b2,hz,sw,eT⟩:=hI;by_cases hj:jj<5
  ·obtain ⟨s,hs⟩:∃s,5-jj=s+1:=⟨4-jj,by omega⟩;rw [hs,qy] at eT;have es:5-(jj+1)=s:=oM;have gj:(jj:Int)+1=((jj+1:Nat):Int):=oM;have t2:∀(i:Nat) (D3:Array Nat) wB,a+1<=i->i<=b->D3.size=d.size->SW w wB q o D3->cA ltN a b s i D3=T->ms K E1 (.slice (some ⟨q,o,none⟩) d.size cap) (.int .i64 ((a:Nat):Int)) (.int .i64 ((b:Nat):Int)) (.int .i64 ((i:Nat):Int)) (.int .i64 ((jj:Nat):Int)) wB:=by
    intro i D3 wB h1 h2 l A e3;refine zS3 @FR @uY.eq_1 gj ?_;apply hE
    ·exact ⟨i,jj+1,D3,rfl,rfl,by omega,h1,h2,l,A,by rw [es];exact e3⟩
    ·simp [intOf];omega
   have t4:∀(i:Nat) (D2:Array Nat) wB,a+1<=i->i<b->D2.size=d.size->SW w wB q o D2->cA ltN a b s i (if b-i>=2 then Go.Sort.shiftUp ltN b (i+1) D2 else D2)=T->mt K E1 (.slice (some ⟨q,o,none⟩) d.size cap) (.int .i64 ((a:Nat):Int)) (.int .i64 ((b:Nat):Int)) (.int .i64 ((i:Nat):Int)) (.int .i64 ((jj:Nat):Int)) wB:=by
    intro i D2 wB h1 h2 k u e2;have g1:(b:Int)-(i:Int)=((b-i:Nat):Int):=oM;have g2:(i:Int)+1=((i+1:Nat):Int):=oM;by_cases hbi:b-i>=2
    ·rw [if_pos hbi] at e2;refine zS4 @rD @nZ.eq_1 g1 g2 ?_;apply yD (I:=λx w'=>∃(j:Nat) (D3:Array Nat),x= .int .i64 (j:Int)/\i+1<=j/\j<=b/\D3.size=d.size/\SW w w' q o D3/\Go.Sort.shiftUp ltN b j D3=Go.Sort.shiftUp ltN b (i+1) D2) (μ:=λx _=>b+1-(intOf x).toNat)
     ·exact ⟨i+1,D2,rfl,by omega,by omega,k,u,rfl⟩
     ·intros;rename_i wA n EA m;obtain ⟨j,D3,rfl,h3,h4,l,e,eA⟩:=n;rw [F7] at eA;have f:=e.ar;have q1:(j:Int)-1=((j-1:Nat):Int):=oM;have q2:(j:Int)+1=((j+1:Nat):Int):=oM;by_cases hjb:j<b
      ·rw [if_pos hjb] at eA;have c1:=f.cell j oM;have c2:=f.cell (j-1) oM
       cases hl:ltN D3[j]! D3[j-1]! with
       |true=>
        rw [hl,if_neg (by simp)] at eA;have c:=f.set j D3[j-1]! oM;have c3:=c.cell (j-1) (by simp;omega);have p:=e.swp j (j-1) oM oM;unfold j7
        (repeat' first|refine ak (λ_=> ?_) (λ_=> ?_)|refine am ?_ ?_|refine lC q1 q2 c1 c2 c3 @aG hl f.frz c.frz c.frz c.frz ?_|exact uu q1 q2 c1 c2 c3 @aG hl f.frz c.frz c.frz c.frz|fail)
        apply m
        ·exact ⟨j+1,_,rfl,by omega,by omega,(bE _ _ _).trans l,p.drew.drew,eA⟩
        ·simp [intOf];omega
       |false=>
        rw [hl,if_pos (by simp)] at eA;unfold j7
        (repeat' first|refine ak (λ_=> ?_) (λ_=> ?_)|refine am ?_ ?_|refine zS6 q1 q2 c1 c2 @aG hl ?_|exact yS6 q1 q2 c1 c2 @aG hl|fail)
        apply t2 i D3 _ h1 oM l e.drew (by rw [eA];exact e2)
      ·rw [if_neg hjb] at eA;unfold j7
       (repeat' first|refine ak (λ_=> ?_) (λ_=> ?_)|refine am ?_ ?_|refine zS2 q1 q2 ?_|exact yS2 q1 q2|fail)
       apply t2 i D3 _ h1 oM l e (by rw [eA];exact e2)
    ·rw [if_neg hbi] at e2;refine zS4 @rD @nZ.eq_1 g1 g2 ?_;apply t2 i D2 _ h1 oM k u e2
   have t3:∀(i:Nat) wB,a+1<=i->i<=b->SW w wB q o D->al ltN D b i0=i->yz K E1 (.slice (some ⟨q,o,none⟩) d.size cap) (.int .i64 ((a:Nat):Int)) (.int .i64 ((b:Nat):Int)) (.int .i64 ((i:Nat):Int)) (.int .i64 ((jj:Nat):Int)) wB:=by
    intro i wB h1 h2 r ei;rw [ei] at eT;by_cases hib:i=b
    ·rw [if_pos hib] at eT;rw [<-eT] at hK;subst hib;refine zS2 @eJ @eI.eq_1 ?_;exact hK _ r hz
    ·rw [if_neg hib] at eT;have g1:(b:Int)-(a:Int)=((b-a:Nat):Int):=oM;have g2:(i:Int)-1=((i-1:Nat):Int):=oM;have g3:(i:Int)-(a:Int)=((i-a:Nat):Int):=oM;by_cases h50:b-a<50
     ·rw [if_pos h50] at eT;rw [<-eT] at hK;refine zS3 @eJ @eI.eq_1 g1 ?_;exact hK _ r hz
     ·rw [if_neg h50] at eT;have g:=r.ar;have c1:=g.cell i oM;have c2:=g.cell (i-1) oM;have c:=g.set i D[i-1]! oM;have c3:=c.cell (i-1) (by simp;omega);have p:=r.swp i (i-1) oM oM;have v:=(bE D i (i-1)).trans hz;by_cases hia:i-a>=2
      ·rw [if_pos hia] at eT
       (repeat' first|refine ak (λ_=> ?_) (λ_=> ?_)|refine am ?_ ?_|refine lC @eJ @eI.eq_1 g1 g2 g3 c1 c2 c3 g.frz c.frz c.frz ?_|exact uu @eJ @eI.eq_1 g1 g2 g3 c1 c2 c3 g.frz c.frz c.frz|fail)
       apply yC (I:=λx w'=>∃(j:Nat) (D2:Array Nat),x= .int .i64 (j:Int)/\j<=i-1/\D2.size=d.size/\SW w w' q o D2/\Go.Sort.shiftDown ltN j D2=Go.Sort.shiftDown ltN (i-1) (Go.Sort.swp D i (i-1))) (μ:=λx _=>(intOf x).toNat)
       ·exact ⟨i-1,_,rfl,by omega,v,p.drew,rfl⟩
       ·intros;rename_i wA n EA m;obtain ⟨j,D2,rfl,h3,k,e,eA⟩:=n;have f:=e.ar
        cases j with
        |zero=>
         have e0:Go.Sort.shiftDown ltN 0 D2=D2:=rfl;rw [e0] at eA;unfold jZ
         (repeat' first|refine ak (λ_=> ?_) (λ_=> ?_)|refine am ?_ ?_|refine zS0 ?_|exact yS0|fail)
         apply t4 i D2 _ h1 oM k e (by rw [eA];exact eT)
        |succ j=>
         rw [rS] at eA;have q1:((j+1:Nat):Int)-1=(j:Int):=oM;have d1:=f.cell (j+1) oM;have d2:=f.cell j oM
         cases hl:ltN D2[j+1]! D2[j]! with
         |true=>
          rw [hl,if_neg (by simp)] at eA;have t:=f.set (j+1) D2[j]! oM;have d3:=t.cell j (by simp;omega);have z:=e.swp (j+1) j oM oM;unfold jZ
          (repeat' first|refine ak (λ_=> ?_) (λ_=> ?_)|refine am ?_ ?_|refine zS8 q1 d1 d2 d3 @aG hl f.frz t.frz ?_|exact yS8 q1 d1 d2 d3 @aG hl f.frz t.frz|fail)
          apply m
          ·exact ⟨j,_,rfl,by omega,(bE _ _ _).trans k,z.drew.drew,eA⟩
          ·simp [intOf]
         |false=>
          rw [hl,if_pos (by simp)] at eA;unfold jZ
          (repeat' first|refine ak (λ_=> ?_) (λ_=> ?_)|refine am ?_ ?_|refine zS6 q1 d1 d2 @aG hl hl ?_|exact yS6 q1 d1 d2 @aG hl hl|fail)
          apply t4 i D2 _ h1 oM k e.drew (by rw [eA];exact eT)
      ·rw [if_neg hia] at eT
       (repeat' first|refine ak (λ_=> ?_) (λ_=> ?_)|refine am ?_ ?_|refine lC @eJ @eI.eq_1 g1 g2 g3 c1 c2 c3 g.frz c.frz c.frz ?_|exact uu @eJ @eI.eq_1 g1 g2 g3 c1 c2 c3 g.frz c.frz c.frz|fail)
       apply t4 i _ _ h1 oM v p.drew eT
   unfold nY;refine zS0 ?_;apply yB (I:=λx w'=>∃i:Nat,x= .int .i64 (i:Int)/\a+1<=i/\i<=b/\SW w w' q o D/\al ltN D b i=al ltN D b i0) (μ:=λx _=>b+1-(intOf x).toNat)
   ·exact ⟨i0,rfl,b1,b2,sw,rfl⟩
   ·intros;rename_i wA n EA m;obtain ⟨i,rfl,h1,h2,e,eA⟩:=n;rw [uy] at eA;have f:=e.ar;have q1:(i:Int)-1=((i-1:Nat):Int):=oM;have q2:(i:Int)+1=((i+1:Nat):Int):=oM;by_cases hib:i<b
    ·have c1:=f.cell i oM;have c2:=f.cell (i-1) oM
     cases hl:ltN D[i]! D[i-1]! with
     |false=>
      rw [if_pos (by simp [hl];omega)] at eA;unfold jY
      (repeat' first|refine ak (λ_=> ?_) (λ_=> ?_)|refine am ?_ ?_|refine zS6 q1 q2 c1 c2 @aG hl ?_|exact yS6 q1 q2 c1 c2 @aG hl|fail)
      apply m
      ·exact ⟨i+1,rfl,by omega,by omega,e.drew,eA⟩
      ·simp [intOf];omega
     |true=>
      rw [if_neg (by simp [hl])] at eA;unfold jY
      (repeat' first|refine ak (λ_=> ?_) (λ_=> ?_)|refine am ?_ ?_|refine zS6 q1 q2 c1 c2 @aG hl ?_|exact yS6 q1 q2 c1 c2 @aG hl|fail)
      apply t3 i _ h1 h2 e.drew eA.symm
    ·rw [if_neg (by simp;omega)] at eA;unfold jY
     (repeat' first|refine ak (λ_=> ?_) (λ_=> ?_)|refine am ?_ ?_|refine zS0 ?_|exact yS0|fail)
     apply t3 i _ h1 h2 e.drew eA.symm
  ·have:jj=5:=oM;subst this;have e0:cA ltN a b (5-5) i0 D=(D,false):=rfl;rw [e0] at eT;rw [<-eT] at hK;unfold nY;refine zS2 @FQ @uX.eq_1 ?_;exact hK _ sw hz
end
section
variable {w w':an} {q o cap:Nat} {d:Array Nat}
def pd3 (D:Array Nat) (a b c pv:Nat) (wb wp:Bool):Array Nat:=
 if (decide (a>0)&& !ltN D[a-1]! D[pv]!)=true then
  match bl ltN D a b pv with
  |(mid,d4)=>if _h:a<mid/\mid<=b then Go.Sort.pdq ltN d4 mid b c wb wp else d4
 else
  match Go.Sort.partition ltN D a b pv with
  |(mid,ap,d4)=>
   if _h:a<=mid/\mid<b then
    if mid-a<b-mid then Go.Sort.pdq ltN (Go.Sort.pdq ltN d4 a mid c true true) (mid+1) b c (decide (mid-a>=(b-a)/8)) ap
    else Go.Sort.pdq ltN (Go.Sort.pdq ltN d4 (mid+1) b c true true) a mid c (decide (b-mid>=(b-a)/8)) ap
   else d4
def pd2 (D:Array Nat) (a b d pv:Nat) (c:Go.Sort.Hint) (wb wp:Bool):Array Nat:=
 let pi:=if wb&&wp&&c= .increasing then aB ltN D a b else (D,false)
 if pi.2 then pi.1 else pd3 pi.1 a b d pv wb wp
def pd1 (D:Array Nat) (a b d:Nat) (wb wp:Bool):Array Nat:=
 let c:=cd ltN D a b
 pd2 (if c.2= .decreasing then cO D a b else D) a b d (if c.2= .decreasing then (b-1)-(c.1-a) else c.1) (if c.2= .decreasing then Go.Sort.Hint.increasing else c.2) wb wp
def aaU (D:Array Nat) (a b c:Nat) (wb wp:Bool):Go.Sort.pdq ltN D a b c wb wp=if b-a<=12 then dc ltN D a b else if c=0 then Go.Sort.heapSort ltN D a b else pd1 (if !wb then bv D a b else D) a b (if !wb then c-1 else c) wb wp:=by
 rw [Go.Sort.pdq];rfl
def acj:∀(N:Nat) (w:an) (d:Array Nat) (a0 b0 k:Nat) (K:K1),b0-a0<=N->Ar w q o d->d.size<1099511627776->a0<=b0->b0<=d.size->k<1099511627776->(∀w',SW w w' q o (Go.Sort.pdq ltN d a0 b0 k true true)->(Go.Sort.pdq ltN d a0 b0 k true true).size=d.size->K (.tuple #[]) w')->
  ad prog 187 #[.slice (some ⟨q,o,none⟩) d.size cap,.int .i64 (a0:Int),.int .i64 (b0:Int),.int .i64 (k:Int)] w K:=by
 intro N
 induction N using Nat.strongRecOn with
 |ind N ih=>
 intro w d a0 b0 k K hN h hd J hb L hK;refine Mp _ _ _ _ _ _ ?_;unfold P7;generalize hT:Go.Sort.pdq ltN d a0 b0 k true true=T at*;apply yf (I:=λx1 x2 x3 x8 x9 w'=>∃(a b e:Nat) (wb wp:Bool) (D:Array Nat),x1= .int .i64 (a:Int)/\x2= .int .i64 (b:Int)/\x3= .int .i64 (e:Int)/\x8= .bool wb/\x9= .bool wp/\b-a<=b0-a0/\a<=b/\b<=d.size/\e<=k/\D.size=d.size/\SW w w' q o D/\Go.Sort.pdq ltN D a b e wb wp=T) (μ:=λx1 x2 _ _ _ _=>(intOf x2).toNat-(intOf x1).toNat)
 ·exact ⟨a0,b0,k,true,true,d,rfl,rfl,rfl,rfl,rfl,bd _,J,hb,bd _,rfl,SW.refl h,hT⟩
 ·intro x1 x2 x3 x8 x9 w1 hI E1 hE;obtain ⟨a,b,f,wb,wp,D,rfl,rfl,rfl,rfl,rfl,O,G,P,M,hz,sw,eT⟩:=hI;rw [aaU] at eT;have g0:(b:Int)-(a:Int)=((b-a:Nat):Int):=oM;by_cases h12:b-a<=12
  ·rw [if_pos h12] at eT;unfold jX;refine zS1 g0 ?_;rw [<-hz];refine ace sw.ar oM a b G oM _ (λw2 h2 g=> ?_);rw [eT] at h2 g;exact hK _ (sw.trans h2) (g.trans hz)
  ·rw [if_neg h12] at eT;by_cases hl0:f=0
   ·rw [if_pos hl0] at eT;subst hl0;unfold jX;refine zS1 g0 ?_;rw [<-hz];refine aaT sw.ar oM a b oM oM _ (λw2 h2 g=> ?_);rw [eT] at h2 g;exact hK _ (sw.trans h2) (g.trans hz)
   ·rw [if_neg hl0] at eT;have t3:∀(e pv:Nat) (D3:Array Nat) wB,e<=f->a<=pv->pv<b->D3.size=d.size->SW w wB q o D3->pd3 D3 a b e pv wb wp=T->qH K E1 (.slice (some ⟨q,o,none⟩) d.size cap) (.int .i64 ((a:Nat):Int)) (.int .i64 ((b:Nat):Int)) (.int .i64 ((e:Nat):Int)) (.bool wb) (.bool wp) (.int .i64 (((b-a):Nat):Int)) (.int .i64 ((pv:Nat):Int)) wB:=by
     intro e pv D3 wB hl n l i p e3;unfold pd3 at e3;have B:=p.ar;have cc:=B.cell pv oM;by_cases ha:a>0
     ·have ga:(a:Int)-1=((a-1:Nat):Int):=oM;have ca:=B.cell (a-1) oM
      cases hlt:ltN D3[a-1]! D3[pv]! with
      |false=>
       rw [hlt,if_pos (by simp;omega)] at e3;have kk:=λK hK=>QK (cap:=cap) (K:=K) p.drew.ar oM a b pv oM oM n l hK
       generalize bl ltN D3 a b pv=R at*;obtain ⟨c,d4⟩:=R;simp only at e3 kk
       (repeat' first|refine ak (λ_=> ?_) (λ_=> ?_)|refine am ?_ ?_|refine zS8 @eH @eG.eq_1 ga ca cc @aG hlt hlt ?_|exact yS8 @eH @eG.eq_1 ga ca cc @aG hlt hlt|fail)
       rw [<-i];refine kk _ (λw4 h4 s H=> ?_);rw [dif_pos H] at e3
       try rw [i]
       apply hE
       ·exact ⟨c,b,e,wb,wp,d4,rfl,rfl,rfl,rfl,rfl,by omega,by omega,by omega,by omega,s.trans i,p.drew.trans h4,e3⟩
       ·simp [intOf];omega
      |true=>
       rw [hlt,if_neg (by simp)] at e3
       (repeat' first|refine ak (λ_=> ?_) (λ_=> ?_)|refine am ?_ ?_|refine zS8 @eH @eG.eq_1 ga ca cc @aG hlt hlt ?_|exact yS8 @eH @eG.eq_1 ga ca cc @aG hlt hlt|fail)
       have y:=fc ltN zf D3 a b pv n l oM;have kk:=λK hK=>QJ (cap:=cap) (K:=K) p.drew.ar oM a b pv oM oM n l hK
       generalize Go.Sort.partition ltN D3 a b pv=R at*;obtain ⟨c,ap,d4⟩:=R;simp only at e3 y kk;obtain ⟨m1,m2,_⟩:=y;rw [dif_pos ⟨m1,m2⟩] at e3;rw [<-i];refine kk _ (λw4 h4 s=> ?_);have g1:(c:Int)-(a:Int)=((c-a:Nat):Int):=oM;have g2:(b:Int)-(c:Int)=((b-c:Nat):Int):=oM;have g3:(c:Int)+1=((c+1:Nat):Int):=oM;have g4:((b-a:Nat):Int)/8=(((b-a)/8:Nat):Int):=oM;have j:d4.size=d.size:=s.trans i;have f1:decide (((b-a:Nat):Int)/8<=(c:Int)-(a:Int))=decide (c-a>=(b-a)/8):=by
        have:(((b-a:Nat):Int)/8<=(c:Int)-(a:Int))=(c-a>=(b-a)/8):=propext oM;simp only [this]
       have f2:decide (((b-a:Nat):Int)/8<=(b:Int)-(c:Int))=decide (b-c>=(b-a)/8):=by
        have:(((b-a:Nat):Int)/8<=(b:Int)-(c:Int))=(b-c>=(b-a)/8):=propext oM;simp only [this]
       by_cases hmm:c-a<b-c
       ·rw [if_pos hmm] at e3;refine zS6 g0 f1 f2 g1 g2 g4 ?_;rw [i,<-j];refine ih (c-a) oM w4 d4 a c e _ (bd _) h4.ar oM m1 oM oM (λw5 h5 u=> ?_)
        try rw [j]
        refine zS1 g3 ?_;apply hE
        ·exact ⟨c+1,b,e,decide (c-a>=(b-a)/8),ap,_,rfl,rfl,rfl,by rw [f1],rfl,by omega,by omega,by omega,by omega,u.trans j,(p.drew.trans h4).trans h5,e3⟩
        ·simp [intOf];omega
       ·rw [if_neg hmm] at e3;refine zS8 g0 f1 f2 g1 g2 g3 g4 g4 ?_;rw [i,<-j];refine ih (b-(c+1)) oM w4 d4 (c+1) b e _ (bd _) h4.ar oM oM oM oM (λw5 h5 u=> ?_)
        try rw [j]
        apply hE
        ·exact ⟨a,c,e,decide (b-c>=(b-a)/8),ap,_,rfl,rfl,rfl,by rw [f2],rfl,by omega,by omega,by omega,by omega,u.trans j,(p.drew.trans h4).trans h5,e3⟩
        ·simp [intOf];omega
     ·rw [if_neg (by simp [ha])] at e3
      (repeat' first|refine ak (λ_=> ?_) (λ_=> ?_)|refine am ?_ ?_|refine zS2 @eH @eG.eq_1 ?_|exact yS2 @eH @eG.eq_1|fail)
      have y:=fc ltN zf D3 a b pv n l oM;have kk:=λK hK=>QJ (cap:=cap) (K:=K) p.drew.ar oM a b pv oM oM n l hK
      generalize Go.Sort.partition ltN D3 a b pv=R at*;obtain ⟨c,ap,d4⟩:=R;simp only at e3 y kk;obtain ⟨m1,m2,_⟩:=y;rw [dif_pos ⟨m1,m2⟩] at e3;rw [<-i];refine kk _ (λw4 h4 s=> ?_);have g1:(c:Int)-(a:Int)=((c-a:Nat):Int):=oM;have g2:(b:Int)-(c:Int)=((b-c:Nat):Int):=oM;have g3:(c:Int)+1=((c+1:Nat):Int):=oM;have g4:((b-a:Nat):Int)/8=(((b-a)/8:Nat):Int):=oM;have j:d4.size=d.size:=s.trans i;have f1:decide (((b-a:Nat):Int)/8<=(c:Int)-(a:Int))=decide (c-a>=(b-a)/8):=by
       have:(((b-a:Nat):Int)/8<=(c:Int)-(a:Int))=(c-a>=(b-a)/8):=propext oM;simp only [this]
      have f2:decide (((b-a:Nat):Int)/8<=(b:Int)-(c:Int))=decide (b-c>=(b-a)/8):=by
       have:(((b-a:Nat):Int)/8<=(b:Int)-(c:Int))=(b-c>=(b-a)/8):=propext oM;simp only [this]
      by_cases hmm:c-a<b-c
      ·rw [if_pos hmm] at e3;refine zS6 g0 f1 f2 g1 g2 g4 ?_;rw [i,<-j];refine ih (c-a) oM w4 d4 a c e _ (bd _) h4.ar oM m1 oM oM (λw5 h5 u=> ?_)
       try rw [j]
       refine zS1 g3 ?_;apply hE
       ·exact ⟨c+1,b,e,decide (c-a>=(b-a)/8),ap,_,rfl,rfl,rfl,by rw [f1],rfl,by omega,by omega,by omega,by omega,u.trans j,(p.drew.trans h4).trans h5,e3⟩
       ·simp [intOf];omega
      ·rw [if_neg hmm] at e3;refine zS8 g0 f1 f2 g1 g2 g3 g4 g4 ?_;rw [i,<-j];refine ih (b-(c+1)) oM w4 d4 (c+1) b e _ (bd _) h4.ar oM oM oM oM (λw5 h5 u=> ?_)
       try rw [j]
       apply hE
       ·exact ⟨a,c,e,decide (b-c>=(b-a)/8),ap,_,rfl,rfl,rfl,by rw [f2],rfl,by omega,by omega,by omega,by omega,u.trans j,(p.drew.trans h4).trans h5,e3⟩
       ·simp [intOf];omega
    have t2:∀(e pv:Nat) (hh:Go.Sort.Hint) (D2:Array Nat) wB,e<=f->a<=pv->pv<b->D2.size=d.size->SW w wB q o D2->pd2 D2 a b e pv hh wb wp=T->qG K E1 (.slice (some ⟨q,o,none⟩) d.size cap) (.int .i64 ((a:Nat):Int)) (.int .i64 ((b:Nat):Int)) (.int .i64 ((e:Nat):Int)) (.bool wb) (.bool wp) (.int .i64 (((b-a):Nat):Int)) (.int .i64 ((pv:Nat):Int)) (.int .i64 (jA hh)) wB:=by
     intro e pv hh D2 wB hl n l g m e2;unfold pd2 at e2;have r:(wb&&wp&&decide (hh= .increasing))=false->pd3 D2 a b e pv wb wp=T:=by
      intro hc;simpa [hc] using e2
     cases hwb:wb with
     |false=>
      rw [hwb] at r t3;refine zS2 @iL @gU.eq_1 ?_;apply t3 e pv D2 _ hl n l g m (r (by simp))
     |true=>
      cases hwp:wp with
      |false=>
       rw [hwb,hwp] at r t3;refine zS2 @iL @gU.eq_1 ?_;apply t3 e pv D2 _ hl n l g m (r (by simp))
      |true=>
       rw [hwb,hwp] at r t3 e2;by_cases hi:hh= .increasing
       ·have x:(if (aB ltN D2 a b).2=true then (aB ltN D2 a b).1 else pd3 (aB ltN D2 a b).1 a b e pv true true)=T:=by simpa [hi] using e2
        have kk:=λK hK=>aci (cap:=cap) (K:=K) m.ar oM a b oM oM hK
        generalize aB ltN D2 a b=R at*;obtain ⟨d5,r5⟩:=R;simp only at x kk;subst hi;have t:jA .increasing=1:=rfl;refine zS3 @iL @gU.eq_1 t ?_;rw [<-g];refine kk _ (λw4 h4 s=> ?_)
        try rw [g]
        cases r5 with
        |true=>
         rw [if_pos rfl] at x;rw [<-x] at hK;refine zS0 ?_;exact hK _ (m.trans h4) (s.trans g)
        |false=>
         rw [if_neg (by simp)] at x;refine zS0 ?_;apply t3 e pv d5 _ hl n l (s.trans g) (m.trans h4) x
       ·have t:¬jA hh=1:=by cases hh<;>simp_all [jA]
        refine zS3 @iL @gU.eq_1 (fH t) ?_;apply t3 e pv D2 _ hl n l g m (r (by simp [hi]))
    have t1:∀(e:Nat) (D1:Array Nat) wB,e<=f->D1.size=d.size->SW w wB q o D1->pd1 D1 a b e wb wp=T->qF K E1 (.slice (some ⟨q,o,none⟩) d.size cap) (.int .i64 ((a:Nat):Int)) (.int .i64 ((b:Nat):Int)) (.int .i64 ((e:Nat):Int)) (.bool wb) (.bool wp) (.int .i64 (((b-a):Nat):Int)) wB:=by
     intro e D1 wB hl v A e1;unfold pd1 at e1;have z:=Go.Sort.choosePivot_holds ltN D1 a b oM;have kk:=λK hK=>QE (cap:=cap) (K:=K) A.ar oM a b oM oM hK
     generalize cd ltN D1 a b=C at*;obtain ⟨pv,hh⟩:=C;simp only at e1 z kk;refine zS2 @FL @uN.eq_1 ?_;rw [<-v];refine kk _ (λw2 h2=> ?_)
     try rw [v]
     have m:SW w w2 q o D1:=⟨A.ar.frm (Frm.of_ext (F:=λ_=>False) h2) (λh=>h),A.frm.ext h2⟩;by_cases hdec:hh= .decreasing
     ·subst hdec;simp only [if_true] at e1;have t:jA .decreasing=2:=rfl;have g1:(b:Int)-1=((b-1:Nat):Int):=oM;have g2:(pv:Int)-(a:Int)=((pv-a:Nat):Int):=oM;have g3:((b-1:Nat):Int)-((pv-a:Nat):Int)=((b-1-(pv-a):Nat):Int):=oM;refine zS1 t ?_;rw [<-v];refine MP m.ar oM a b oM oM _ (λw3 h3 i=> ?_)
      try rw [v]
      refine zS3 g1 g2 g3 ?_;have tt:=t2 e (b-1-(pv-a)) .increasing (cO D1 a b) w3 hl oM oM (i.trans v) (m.trans h3) e1;rw [show jA .increasing=1 from rfl] at tt;apply tt
     ·simp only [hdec,if_false] at e1;have t:¬jA hh=2:=by cases hh<;>simp_all [jA]
      refine zS1 (fH t) ?_;apply t2 e pv hh D1 _ hl z.1 z.2 v m e1
    have gl:(f:Int)-1=((f-1:Nat):Int):=oM;unfold jX
    (repeat' first|refine ak (λ_=> ?_) (λ_=> ?_)|refine am ?_ ?_|refine zS1 g0 ?_|exact yS1 g0|fail)
    ·rename_i hw;have i1:(if (!wb)=true then bv D a b else D)=D:=if_neg (by simp [hw]);have i2:(if (!wb)=true then f-1 else f)=f:=if_neg (by simp [hw]);rw [i1,i2] at eT;apply t1 f D _ (bd _) hz sw eT
    ·rename_i hw;have E:wb=false:=by simpa using hw
     have i1:(if (!wb)=true then bv D a b else D)=bv D a b:=if_pos (by simp [E]);have i2:(if (!wb)=true then f-1 else f)=f-1:=if_pos (by simp [E]);rw [i1,i2] at eT;rw [<-hz];refine Xr sw.ar oM a b oM oM _ (λw2 h2 g=> ?_)
     try rw [hz]
     refine zS2 gl g0 ?_;apply t1 (f-1) _ _ oM (g.trans hz) (sw.trans h2) eT
end
noncomputable section
variable (K:K1) (x0 x1 x2 x3 x4 x5 x6 x7 x8 x9 x10 x11 x12 x13 x14 x15 x16 x17 x18 x19 x20 x21 x22 x23 x24 x25 x26:bb) (w:an)
def Za:Prop:=
 bM .eql 31 (.tmp 3) (.const (.pointer none)) x0 (.pointer none) w λa w=>
 gV a false x0 w λb w=>
 gd a false (λk=>nS b w k) w λc w=>
 gd a false (λk=>fA 147 c 0 w k) w λd w=>
 gd a false (λk=>lD 30 d w k) w λe w=>
 gd a false (λk=>bM .eql 30 (.tmp 9) (.const (.pointer none)) e (.pointer none) w k) w λf w=>
 au a (.bool true) f w λg w=>
 ae g (
 K (.int .i64 1) w) (
 nS x0 w λh w=>
 fA 147 h 2 w λi w=>
 lD 28 i w λj w=>
 K j w)
def QL:=cA1 Tryz.func28 .o Za
def Zb:Prop:=
 bM .eql 31 (.tmp 6) (.const (.pointer none)) x0 (.pointer none) w λa w=>
 gV a false x0 w λb w=>
 gd a false (λk=>nS b w k) w λc w=>
 gd a false (λk=>fA 147 c 0 w k) w λd w=>
 gd a false (λk=>lD 30 d w k) w λe w=>
 gd a false (λk=>bM .eql 30 (.tmp 12) (.const (.pointer none)) e (.pointer none) w k) w λf w=>
 au a (.bool true) f w λg w=>
 gV g false x0 w λh w=>
 gV g false x0 w λi w=>
 gV g false x1 w λj w=>
 gC g false 87 (pA #[i,j]) w λl w=>
 gC g false 86 (pA #[h,l]) w λm w=>
 gd g false (λk=>ev prog (Op.unary .not m) w k) w λn w=>
 au g (.bool true) n w λo w=>
 ae o (
 K (.tuple #[]) w) (
 cL 88 (pA #[x0,x1,x2]) w λp w=>
 K (.tuple #[]) w)
def QM:=cA3 Tryz.func30 .o Zb
def QN:Prop:=
 bM .eql 31 (.tmp 5) (.const (.pointer none)) x0 (.pointer none) w λa w=>
 gV a false x0 w λb w=>
 gd a false (λk=>nS b w k) w λc w=>
 gd a false (λk=>fA 147 c 0 w k) w λd w=>
 gd a false (λk=>lD 30 d w k) w λe w=>
 gd a false (λk=>bM .eql 30 (.tmp 11) (.const (.pointer none)) e (.pointer none) w k) w λf w=>
 au a (.bool true) f w λg w=>
 gV g false x0 w λh w=>
 gV g false x0 w λi w=>
 gV g false x1 w λj w=>
 gC g false 87 (pA #[i,j]) w λl w=>
 gC g false 89 (pA #[h,l]) w λm w=>
 gd g false (λk=>ev prog (Op.unary .not m) w k) w λn w=>
 au g (.bool true) n w λo w=>
 ae o (
 K (.int .u64 ((0:Nat):Int)) w) (
 nS x0 w λp w=>
 fA 147 p 0 w λq w=>
 lD 30 q w λs w=>
 nS s w λt w=>
 fA 155 t 1 w λv w=>
 lD 58 v w λy w=>
 bU .quo 26 29 .u64 8 x1 w λz w=>
 iA 58 y z w λa0 w=>
 lD 26 a0 w λa1 w=>
 K a1 w)
def B3:=cA2 Tryz.func32 .o QN
def Zc:Prop:=
 bM .eql 30 (.tmp 7) (.const (.pointer none)) x0 (.pointer none) w λa w=>
 ae a (
 K (.pointer none) w) (
 cL 104 (pA #[x0,x1]) w λb w=>
 cL 103 (pA #[b]) w λc w=>
 eX c 0 w λd w=>
 eX c 1 w λe w=>
 bC .neq 28 16 0 e w λf w=>
 ae f (
 K (.pointer none) w) (
 K d w))
def QO:=cA2 Tryz.func49 .o Zc
def Zd:Prop:=
 bM .eql 30 (.tmp 5) (.const (.pointer none)) x0 (.pointer none) w λa w=>
 gV a false x1 w λb w=>
 gd a false (λk=>bC .lss 3 8 0 b w k) w λc w=>
 au a (.bool true) c w λd w=>
 gV d false x1 w λe w=>
 gd d false (λk=>bC .geq 3 12 8 e w k) w λf w=>
 au d (.bool true) f w λg w=>
 ae g (
 K (.pointer none) w) (
 nS x0 w λh w=>
 fA 155 h 3 w λi w=>
 iA 153 i x1 w λj w=>
 lD 31 j w λl w=>
 K l w)
def QP:=cA2 Tryz.func50 .o Zd
def Ze:Prop:=
 cL 106 (pA #[x0]) w λa w=>
 cV 3 26 a w λb w=>
 bU .mul 26 5 .u64 64 b w λc w=>
 K c w
def QQ:=cA1 Tryz.func52 .o Ze
def Zf:Prop:=
 bM .eql 30 (.tmp 4) (.const (.pointer none)) x0 (.pointer none) w λa w=>
 gV a false x0 w λb w=>
 gd a false (λk=>nS b w k) w λc w=>
 gd a false (λk=>fA 155 c 4 w k) w λd w=>
 gd a false (λk=>lD 4 d w k) w λe w=>
 au a (.bool true) e w λf w=>
 ae f (
 K (.tuple #[]) w) (
 bC .geq 3 13 0 x1 w λg w=>
 nS x0 w λh w=>
 fA 155 h 5 w λi w=>
 sD 4 i g w λw=>
 aY prog .max #[3,3] 3 #[false,true] #[x1,(.int .i64 0)] w λj w=>
 nS x0 w λl w=>
 fA 155 l 6 w λm w=>
 sD 3 m j w λw=>
 K (.tuple #[]) w)
def QR:=cA2 Tryz.func54 .o Zf
def Zg:Prop:=
 bC .lss 3 4 1 x0 w λa w=>
 gV a false x0 w λb w=>
 gd a false (λk=>bC .gtr 3 7 4096 b w k) w λc w=>
 au a (.bool true) c w λd w=>
 ae d (
 K (.tuple #[(.pointer none),(.int .i64 1)]) w) (
 bC .mul 3 10 8 x0 w λe w=>
 ev prog (Instr.makeSlice 58 e e) w λf w=>
 cL 111 (pA #[f]) w λg w=>
 K (.tuple #[g,(.int .i64 0)]) w)
def QS:=cA1 Tryz.func61 .o Zg
noncomputable def Zh:=uD Tryz.f86 (.s .o (.s .o (.s .o (.x 32 .o .o))))
abbrev Zi:=aU prog Tryz.f86.results.toList
def QT:KF:=kO 32 (cP (pw Zh 4 15) (Zi K) (Zi K) nX)
def F8:Prop:=QT K (fy 42 32 [x5]) w
def rV:Prop:=
 nS x5 w λa w=>
 fA 155 a 7 w λb w=>
 lD 26 b w λc w=>
 bU .add 26 38 .u64 1 c w λd w=>
 nS x5 w λe w=>
 fA 155 e 7 w λf w=>
 sD 26 f d w λw=>
 K (.bool true) w
def vg:F8 K x5 w=rV K x5 w:=aI λσ=>kR
def Zj:Prop:=
 cL 89 (pA #[x0,x1]) w λa w=>
 ev prog (Op.unary .not a) w λb w=>
 ae b (
 K (.bool false) w) (
 nS x0 w λc w=>
 fA 147 c 0 w λd w=>
 lD 30 d w λe w=>
 nS e w λf w=>
 fA 155 f 5 w λg w=>
 lD 4 g w λh w=>
 ae h (
 nS e w λi w=>
 fA 155 i 6 w λj w=>
 lD 3 j w λl w=>
 bC .eql 3 21 0 l w λm w=>
 ae m (
 nS e w λn w=>
 fA 155 n 4 w λo w=>
 sD 4 o (.bool true) w λw=>
 cL 139 (pA #[x0,(.int .i64 3)]) w λp w=>
 K (.bool false) w) (
 nS e w λq w=>
 fA 155 q 6 w λs w=>
 lD 3 s w λt w=>
 bC .sub 3 31 1 t w λv w=>
 nS e w λy w=>
 fA 155 y 6 w λz w=>
 sD 3 z v w λw=>
 F8 K e w)) (
 F8 K e w))
def QU:=cA2 Tryz.func86 Zh.2 Zj
def Zk:Prop:=
 bU .rem 26 5 .u64 8 x1 w λa w=>
 bU .eql 26 6 .u64 0 a w λb w=>
 gV b true x1 w λc w=>
 gV b true x0 w λd w=>
 gd b true (λk=>nS d w k) w λe w=>
 gd b true (λk=>fA 147 e 0 w k) w λf w=>
 gd b true (λk=>lD 30 f w k) w λg w=>
 gC b true 52 (pA #[g]) w λh w=>
 gd b true (λk=>bT .lss 26 9 14 c h w k) w λi w=>
 au b i (.bool false) w λj w=>
 K j w
def QV:=cA2 Tryz.func87 .o Zk
def Zl:Prop:=
 nS x0 w λa w=>
 fA 147 a 0 w λb w=>
 lD 30 b w λc w=>
 nS c w λd w=>
 fA 155 d 2 w λe w=>
 lD 152 e w λf w=>
 bU .quo 26 14 .u64 64 x1 w λg w=>
 iA 152 f g w λh w=>
 nS h w λi w=>
 fA 209 i 1 w λj w=>
 lD 79 j w λl w=>
 ev prog (Instr.build 98 #[(0,x1),(1,x2)]) w λm w=>
 ev prog (aA 79 1 #[(0,m)]) w λn w=>
 aY prog .append #[79,79] 79 #[false,false] (pA #[l,n]) w λo w=>
 nS h w λp w=>
 fA 209 p 1 w λq w=>
 sD 79 q o w λw=>
 nS x0 w λs w=>
 fA 147 s 0 w λt w=>
 lD 30 t w λv w=>
 nS v w λy w=>
 fA 155 y 1 w λz w=>
 lD 58 z w λa0 w=>
 bU .quo 26 36 .u64 8 x1 w λa1 w=>
 iA 58 a0 a1 w λa2 w=>
 sD 26 a2 x2 w λw=>
 K (.tuple #[]) w
def QW:=cA3 Tryz.func88 .o Zl
noncomputable def Zm:=uD Tryz.f89 (.s .o (.x 0 .o .o))
abbrev Zn:=aU prog Tryz.f89.results.toList
def QX:KF:=kO 0 (cP (pr (pr Zm)) (Zn K) (Zn K) nX)
def F9:Prop:=QX K (fy 20 0 []) w
def rW:Prop:=
 K (.bool false) w
def vh:F9 K w=rW K w:=aI λσ=>kR
def QY:Prop:=
 nS x0 w λa w=>
 fA 147 a 0 w λb w=>
 lD 30 b w λc w=>
 nS c w λd w=>
 fA 155 d 4 w λe w=>
 lD 4 e w λf w=>
 ae f (
 cL 139 (pA #[x0,(.int .i64 3)]) w λg w=>
 F9 K w) (
 ev prog (Op.unary .not x1) w λh w=>
 ae h (
 cL 139 (pA #[x0,(.int .i64 2)]) w λi w=>
 F9 K w) (
 K (.bool true) w))
def B4:=cA2 Tryz.func89 Zm.2 QY
noncomputable def QZ:=uD Tryz.f93 (.s .o (.s .o (.x 8 (.s .o (.b (.l [11] 1033 536868880 .o))) .o)))
abbrev Q4:=aU prog Tryz.f93.results.toList
def B5:KF:=kO 8 (cP (pw QZ 3 7) (Q4 K) (Q4 K) nX)
def Q5:Prop:=B5 K (fy 30 8 [x3]) w
def Q6:Prop:=aE [11] 1033 (λE=>cP (pw QZ 6 11) E (Q4 K) (exB 0 (B5 K) nX)) (fy 30 3081 [x0,x3,x10,x11]) w
def B6:Prop:=
 K x3 w
def MS:Q5 K x3 w=B6 K x3 w:=aI λσ=>kR
def rX (E1:VP1):Prop:=
 bT .lss 3 11 10 x11 x10 w λa w=>
 ae a (
 bC .quo 3 17 8 x11 w λb w=>
 iA 58 x0 b w λc w=>
 lD 26 c w λd w=>
 bC .rem 3 21 8 x11 w λe w=>
 bC .mul 3 22 8 e w λf w=>
 cV 3 129 f w λg w=>
 bT .shr 26 20 24 d g w λh w=>
 cV 26 5 h w λi w=>
 iA 51 x3 x11 w λj w=>
 sD 5 j i w λw=>
 bC .add 3 11 1 x11 w λl w=>
 E1 l w) (
 Q5 K x3 w)
def B7 (I:VP1) (μ:M1) (h0:I x11 w) (hr:∀x11 w,I x11 w->∀E1,Q1 I μ x11 w E1->rX K x0 x3 x10 x11 w E1):Q6 K x0 x3 x10 x11 w:=⟨I,μ,h0,λσ w hI E hE=>cast kR (hr (σ 11) w hI E hE)⟩
def Zo:Prop:=
 lN 58 x0 w λa w=>
 bC .mul 3 6 8 a w λb w=>
 ev prog (Instr.makeSlice 51 b b) w λc w=>
 lN 51 c w λd w=>
 Q6 K x0 c d (.int .i64 0) w
def Q7:=cA1 Tryz.func93 QZ.2 Zo
def Q8:Prop:=
 bM .eql 31 (.tmp 6) (.const (.pointer none)) x0 (.pointer none) w λa w=>
 gV a false x0 w λb w=>
 gd a false (λk=>nS b w k) w λc w=>
 gd a false (λk=>fA 147 c 0 w k) w λd w=>
 gd a false (λk=>lD 30 d w k) w λe w=>
 gd a false (λk=>bM .eql 30 (.tmp 12) (.const (.pointer none)) e (.pointer none) w k) w λf w=>
 au a (.bool true) f w λg w=>
 gV g false x0 w λh w=>
 gV g false x1 w λi w=>
 gV g false x0 w λj w=>
 gd g false (λk=>nS j w k) w λl w=>
 gd g false (λk=>fA 147 l 0 w k) w λm w=>
 gd g false (λk=>lD 30 m w k) w λn w=>
 gC g false 52 (pA #[n]) w λo w=>
 gd g false (λk=>bT .lss 26 17 22 i o w k) w λp w=>
 gC g false 86 (pA #[h,p]) w λq w=>
 gd g false (λk=>ev prog (Op.unary .not q) w k) w λs w=>
 au g (.bool true) s w λt w=>
 ae t (
 K (.tuple #[]) w) (
 bU .quo 26 27 .u64 64 x1 w λv w=>
 cV 26 3 v w λy w=>
 nS x0 w λz w=>
 fA 147 z 0 w λa0 w=>
 lD 30 a0 w λa1 w=>
 nS a1 w λa2 w=>
 fA 155 a2 2 w λa3 w=>
 lD 152 a3 w λa4 w=>
 iA 152 a4 y w λa5 w=>
 nR x0 w.drew λa6=>
 fR 147 a6 3 w.drew λa7=>
 lR 145 a7 w.drew λa8=>
 nR a5 w.drew λa9=>
 fR 209 a9 0 w.drew λb0=>
 lR 26 b0 w.drew λb1=>
 nR a5 w.drew λb2=>
 fR 209 b2 1 w.drew λb3=>
 lR 79 b3 w.drew λb4=>
 rd prog (ek #[79] 3 #[b4]) w.drew λb5=>
 rd prog (convert 3 26 b5) w.drew λb6=>
 rT .add 26 47 53 b1 b6 w.drew λb7=>
 ac prog (Instr.mapUpdate 145 a8 y b7) w.drew λw=>
 K (.tuple #[]) w)
def MT:=cA2 Tryz.func101 .o Q8
noncomputable def Ga:=uD Tryz.f102 (.s .o (.x 1 (.s .o (.b (.l [] 8388609 9007199237963804 .o))) .o))
abbrev Gb:=aU prog Tryz.f102.results.toList
def vj:KF:=kO 1 (cP (pr (pr Ga)) (Gb K) (Gb K) nX)
def I2:Prop:=vj K (fy 57 1 [x0]) w
def I3:Prop:=aE [] 8388609 (λE=>cP (pw Ga 5 5) E (Gb K) (exB 0 (vj K) nX)) (fy 57 8388609 [x0,x23]) w
def vk:Prop:=
 nS x0 w λa w=>
 fA 147 a 3 w λb w=>
 lD 145 b w λc w=>
 aY prog .clear #[145] 0 #[false] (pA #[c]) w λ_ w=>
 K (.tuple #[]) w
def Gc:I2 K x0 w=vk K x0 w:=aI λσ=>kR
def vl (E1:VP0):Prop:=
 ev prog (Instr.next x23 false 0) w λa w=>
 eX a 0 w λb w=>
 ae b (
 ev prog (Instr.entry x23) w λc w=>
 eX c 0 w λd w=>
 eX c 1 w λe w=>
 nS x0 w λf w=>
 fA 147 f 0 w λg w=>
 lD 30 g w λh w=>
 nS h w λi w=>
 fA 155 i 2 w λj w=>
 lD 152 j w λl w=>
 iA 152 l d w λm w=>
 fA 209 m 0 w λn w=>
 lD 26 n w λo w=>
 bT .gtr 26 40 41 e o w λp w=>
 ae p (
 nS x0 w λq w=>
 fA 147 q 0 w λs w=>
 lD 30 s w λt w=>
 bT .sub 26 48 49 e o w λv w=>
 cV 26 3 v w λy w=>
 cL 147 (pA #[t,d,y]) w λz w=>
 E1 w) (
 E1 w)) (
 I2 K x0 w)
def zg (x0 x23:bb) (K:K1) (w:an) (I:VP0) (μ:an->Nat) (h0:I w)
  (hr:∀(w:an),I w->∀E1:VP0,(∀(w':an),I w'->μ w'<μ w->E1 w')->vl K x0 x23 w E1):I3 K x0 x23 w:=
 ⟨I,μ,h0,λσ w hI E hE=>cast kR (hr w hI E hE)⟩
def Q9:Prop:=
 bM .eql 31 (.tmp 5) (.const (.pointer none)) x0 (.pointer none) w λa w=>
 gV a false x0 w λb w=>
 gd a false (λk=>nS b w k) w λc w=>
 gd a false (λk=>fA 147 c 0 w k) w λd w=>
 gd a false (λk=>lD 30 d w k) w λe w=>
 gd a false (λk=>bM .eql 30 (.tmp 11) (.const (.pointer none)) e (.pointer none) w k) w λf w=>
 au a (.bool true) f w λg w=>
 gV g false x0 w λh w=>
 gC g false 86 (pA #[h,(.bool true)]) w λi w=>
 gd g false (λk=>ev prog (Op.unary .not i) w k) w λj w=>
 au g (.bool true) j w λl w=>
 ae l (
 K (.tuple #[]) w) (
 nS x0 w λm w=>
 fA 147 m 3 w λn w=>
 lD 145 n w λo w=>
 ev prog (Instr.range 145 o) w λp w=>
 I3 K x0 p w)
def MU:=cA1 Tryz.func102 Ga.2 Q9
noncomputable def Gd:=uD Tryz.f103 (.s .o (.s .o (.s .o (.s .o (.x 16 (.s .o (.b (.l [26] 50331664 70368677068896 .o))) .o)))))
abbrev Ge:=aU prog Tryz.f103.results.toList
def vm:KF:=kO 16 (cP (pw Gd 5 31) (Ge K) (Ge K) nX)
def I4:Prop:=vm K (fy 48 16 [x4]) w
def I5:Prop:=aE [26] 50331664 (λE=>cP (pw Gd 8 47) E (Ge K) (exB 0 (vm K) nX)) (fy 48 117440528 [x4,x24,x25,x26]) w
def vn:Prop:=
 cL 111 (pA #[x4]) w λa w=>
 K (.tuple #[a,(.int .i64 0)]) w
def Gf:I4 K x4 w=vn K x4 w:=aI λσ=>kR
def og (E1:VP1):Prop:=
 bT .lss 3 26 25 x26 x25 w λa w=>
 ae a (
 iA 51 x24 x26 w λb w=>
 lD 5 b w λc w=>
 bC .quo 3 32 8 x26 w λd w=>
 iA 58 x4 d w λe w=>
 lD 26 e w λf w=>
 cV 5 26 c w λg w=>
 bC .rem 3 38 8 x26 w λh w=>
 bC .mul 3 39 8 h w λi w=>
 cV 3 129 i w λj w=>
 bT .shl 26 37 41 g j w λl w=>
 bT .or 26 35 42 f l w λm w=>
 iA 58 x4 d w λn w=>
 sD 26 n m w λw=>
 bC .add 3 26 1 x26 w λo w=>
 E1 o w) (
 I4 K x4 w)
def zh (I:VP1) (μ:M1) (h0:I x26 w) (hr:∀x26 w,I x26 w->∀E1,Q1 I μ x26 w E1->og K x4 x24 x25 x26 w E1):I5 K x4 x24 x25 x26 w:=⟨I,μ,h0,λσ w hI E hE=>cast kR (hr (σ 26) w hI E hE)⟩
def Ra:Prop:=
 lN 51 x0 w λa w=>
 bC .rem 3 8 64 a w λb w=>
 bC .neq 3 9 0 b w λc w=>
 ae c (
 K (.tuple #[(.pointer none),(.int .i64 11)]) w) (
 lN 51 x0 w λd w=>
 bC .eql 3 12 0 d w λe w=>
 gV e false x0 w λf w=>
 gd e false (λk=>lN 51 f w k) w λg w=>
 gd e false (λk=>bC .quo 3 16 64 g w k) w λh w=>
 gd e false (λk=>bC .gtr 3 17 4096 h w k) w λi w=>
 au e (.bool true) i w λj w=>
 ae j (
 K (.tuple #[(.pointer none),(.int .i64 1)]) w) (
 lN 51 x0 w λl w=>
 bC .quo 3 21 8 l w λm w=>
 ev prog (Instr.makeSlice 58 m m) w λn w=>
 lN 51 x0 w λo w=>
 I5 K n x0 o (.int .i64 0) w))
def MV:=cA1 Tryz.func103 Gd.2 Ra
noncomputable def Gg:=uD Tryz.f104 (.s .o (.s .o (.s .o (.x 32 (.s .o (.s (.s .o (.b (.l [23] 6291491 18014398501094336 .o))) .o)) .o))))
abbrev Gh:=aU prog Tryz.f104.results.toList
def vo:KF:=kO 32 (cP (pw Gg 4 15) (Gh K) (Gh K) nX)
def qJ:Prop:=vo K (fy 56 32 [x5]) w
def I6:Prop:=aE [23] 6291491 (λE=>cP (pw Gg 9 87) E (Gh K) (exB 0 (vo K) nX)) (fy 56 14680099 [x0,x1,x5,x21,x22,x23]) w
def vp:Prop:=
 cL 93 (pA #[x5]) w λa w=>
 K a w
def Gi:qJ K x5 w=vp K x5 w:=aI λσ=>kR
def oh (E1:VP1):Prop:=
 bT .lss 3 23 22 x23 x22 w λa w=>
 ae a (
 iA 50 x21 x23 w λb w=>
 lD 3 b w λc w=>
 nS x0 w λd w=>
 fA 155 d 2 w λe w=>
 lD 152 e w λf w=>
 iA 152 f c w λg w=>
 fA 209 g 1 w λh w=>
 lD 79 h w λi w=>
 lN 51 x1 w λj w=>
 bT .rem 3 37 39 x23 j w λl w=>
 iA 51 x1 l w λm w=>
 lD 5 m w λn w=>
 cV 5 3 n w λo w=>
 lN 79 i w λp w=>
 bC .add 3 45 1 p w λq w=>
 bT .rem 3 43 46 o q w λs w=>
 ev prog (Instr.sliceAt 79 i none (some s) none) w λt w=>
 cL 150 (pA #[x5,t]) w λv w=>
 bC .add 3 23 1 x23 w λy w=>
 E1 y w) (
 qJ K x5 w)
def zi (I:VP1) (μ:M1) (h0:I x23 w) (hr:∀x23 w,I x23 w->∀E1,Q1 I μ x23 w E1->oh K x0 x1 x5 x21 x22 x23 w E1):I6 K x0 x1 x5 x21 x22 x23 w:=⟨I,μ,h0,λσ w hI E hE=>cast kR (hr (σ 23) w hI E hE)⟩
def Rb:Prop:=
 bM .eql 30 (.tmp 10) (.const (.pointer none)) x0 (.pointer none) w λa w=>
 ae a (
 K (.slice none 0 0) w) (
 nS x0 w λb w=>
 fA 155 b 0 w λc w=>
 lD 58 c w λd w=>
 cL 148 (pA #[d]) w λe w=>
 lN 51 x1 w λf w=>
 bC .gtr 3 18 0 f w λg w=>
 ae g (
 cL 149 (pA #[x0]) w λh w=>
 lN 50 h w λi w=>
 I6 K x0 x1 e h i (.int .i64 0) w) (
 qJ K e w))
def MW:=cA2 Tryz.func104 Gg.2 Rb
def Rc:Prop:=
 bM .eql 31 (.tmp 3) (.const (.pointer none)) x0 (.pointer none) w λa w=>
 ae a (
 K (.int .u64 ((0:Nat):Int)) w) (
 nS x0 w λb w=>
 fA 147 b 0 w λc w=>
 lD 30 c w λd w=>
 cL 52 (pA #[d]) w λe w=>
 K e w)
def MX:=cA1 Tryz.func105 .o Rc
def Rd:Prop:=
 bM .eql 30 (.tmp 3) (.const (.pointer none)) x0 (.pointer none) w λa w=>
 ae a (
 K (.int .i64 0) w) (
 nS x0 w λb w=>
 fA 155 b 2 w λc w=>
 lD 152 c w λd w=>
 lN 152 d w λe w=>
 K e w)
def MY:=cA1 Tryz.func106 .o Rd
noncomputable def zj:=uD Tryz.f111 (.s .o (.x 8 .o (.x 8 (.s .o (.b (.l [14] 8 268419088 .o))) .o)))
abbrev rY:=aU prog Tryz.f111.results.toList
def MZ:KF:=kO 8 (cP (pr (pr zj)) (rY K) (rY K) nX)
def qK:Prop:=MZ K (fy 29 8 [x3]) w
def vq:KF:=kO 8 (cP (pw zj 3 7) (rY K) (rY K) nX)
def I7:Prop:=vq K (fy 29 8 [x3]) w
def I8:Prop:=aE [14] 8 (λE=>cP (pw zj 6 11) E (rY K) (exB 0 (vq K) nX)) (fy 29 16392 [x3,x14]) w
def vr:Prop:=
 I8 K x3 (.int .i64 0) w
def Gj:qK K x3 w=vr K x3 w:=aI λσ=>kR
def vt:Prop:=
 K x3 w
def Gk:I7 K x3 w=vt K x3 w:=aI λσ=>kR
def vv (E1:VP1):Prop:=
 bC .lss 3 14 8 x14 w λa w=>
 ae a (
 ev prog (Instr.makeMap 145 none) w λb w=>
 ev prog (Instr.build 147 #[(0,x3),(1,x14),(3,b)]) w λc w=>
 ev prog (Instr.box 147 c) w λd w=>
 nS x3 w λe w=>
 fA 155 e 3 w λf w=>
 iA 153 f x14 w λg w=>
 sD 31 g d w λw=>
 bC .add 3 14 1 x14 w λh w=>
 E1 h w) (
 I7 K x3 w)
def zk (I:VP1) (μ:M1) (h0:I x14 w) (hr:∀x14 w,I x14 w->∀E1,Q1 I μ x14 w E1->vv K x3 x14 w E1):I8 K x3 x14 w:=⟨I,μ,h0,λσ w hI E hE=>cast kR (hr (σ 14) w hI E hE)⟩
def Re:Prop:=
 rd prog (ek #[58] 3 #[x0]) w.drew λa=>
 rC .quo 3 9 8 a w.drew λb=>
 (cL 148 (pA #[x0]) w.drew λc w=>
 (ag prog (ek #[58] 3 #[x0]) w a)/\
 (ag prog (aC .quo 3 (.tmp 9) (ci 8) a (.int .i64 8)) w b)/\
 ev prog (Instr.makeSlice 152 b b) w λd w=>
 rd prog (Instr.build 155 #[(0,x0),(1,c),(2,d)]) w λe=>
 ev prog (Instr.box 155 e) w λf w=>
 qK K f w)/\
 (ev prog (Instr.makeSlice 152 b b) w.drew λg w=>
 cL 148 (pA #[x0]) w λh w=>
 (ag prog (ek #[58] 3 #[x0]) w a)/\
 (ag prog (aC .quo 3 (.tmp 9) (ci 8) a (.int .i64 8)) w b)/\
 rd prog (Instr.build 155 #[(0,x0),(1,h),(2,g)]) w λi=>
 ev prog (Instr.box 155 i) w λj w=>
 qK K j w)
def M5:=cA1 Tryz.func111 zj.2 Re
def Rf:Prop:=
 nS x0 w λa w=>
 fA 147 a 2 w λb w=>
 lD 28 b w λc w=>
 bC .eql 28 7 0 c w λd w=>
 ae d (
 nS x0 w λe w=>
 fA 147 e 2 w λf w=>
 sD 28 f x1 w λw=>
 K (.tuple #[]) w) (
 K (.tuple #[]) w)
def M6:=cA2 Tryz.func139 .o Rf
def Rg:Prop:=
 nS x0 w λa w=>
 fA 155 a 2 w λb w=>
 lD 152 b w λc w=>
 iA 152 c x1 w λd w=>
 nR x0 w.drew λe=>
 fR 155 e 0 w.drew λf=>
 lR 58 f w.drew λg=>
 nR d w.drew λh=>
 fR 209 h 1 w.drew λi=>
 lR 79 i w.drew λj=>
 rd prog (Instr.sliceAt 79 j none (some x2) none) w.drew λl=>
 cL 150 (pA #[g,l]) w.drew λm w=>
 nS d w λn w=>
 fA 209 n 0 w λo w=>
 lD 26 o w λp w=>
 cV 3 26 x2 w λq w=>
 bT .add 26 27 29 p q w λs w=>
 nS d w λt w=>
 fA 209 t 0 w λv w=>
 sD 26 v s w λw=>
 nS d w λy w=>
 fA 209 y 1 w λz w=>
 lD 79 z w λa0 w=>
 ev prog (Instr.sliceAt 79 a0 (some x2) none none) w λa1 w=>
 nS d w λa2 w=>
 fA 209 a2 1 w λa3 w=>
 sD 79 a3 a1 w λw=>
 nS d w λa4 w=>
 fA 209 a4 1 w λa5 w=>
 lD 79 a5 w λa6 w=>
 lN 79 a6 w λa7 w=>
 bC .eql 3 46 0 a7 w λa8 w=>
 ae a8 (
 nS d w λa9 w=>
 fA 209 a9 1 w λb0 w=>
 sD 79 b0 (.slice none 0 0) w λw=>
 K (.tuple #[]) w) (
 K (.tuple #[]) w)
def M7:=cA3 Tryz.func147 .o Rg
def Rh:Prop:=
 bM .eql 58 (.tmp 3) (.const (.slice none 0 0)) x0 (.slice none 0 0) w λa w=>
 ae a (
 K (.slice none 0 0) w) (
 ev prog (aA 58 0 #[]) w λb w=>
 aY prog .append #[58,58] 58 #[false,false] (pA #[b,x0]) w λc w=>
 K c w)
def M8:=cA1 Tryz.func148 .o Rh
noncomputable def zo:=uD Tryz.f149 (.s .o (.s .o (.s .o (.x 8 (.s .o (.b (.l [3,12] 2049 1073737752 (.s .o (.s .o (.x 6153 .o .o)))))) .o))))
abbrev zp:=aU prog Tryz.f149.results.toList
def oj:KF:=kO 8 (cP (pw zo 4 15) (zp K) (zp K) nX)
def I9:Prop:=oj K (fy 31 8 [x3]) w
def Ja:Prop:=aE [3,12] 2049 (λE=>cP (pw zo 7 23) E (zp K) (exB 0 (oj K) nX)) (fy 31 6153 [x0,x3,x11,x12]) w
def M9 (E1:VP2):KF:=kO 6153 (cP (pw zo 10 919) (sE2 E1 3 12) (zp K) (exB 0 (oj K) nX))
def zq (K:K1) (E1:VP2) (x0 x3 x11 x12:bb) (w:an):Prop:=M9 K E1 (fy 31 6153 [x0,x3,x11,x12]) w
def vw:Prop:=
 K x3 w
def Gl:I9 K x3 w=vw K x3 w:=aI λσ=>kR
def kg (E1:VP2):Prop:=
 bT .lss 3 12 11 x12 x11 w λa w=>
 ae a (
 nS x0 w λb w=>
 fA 155 b 2 w λc w=>
 lD 152 c w λd w=>
 iA 152 d x12 w λe w=>
 fA 209 e 1 w λf w=>
 lD 79 f w λg w=>
 lN 79 g w λh w=>
 bC .gtr 3 23 0 h w λi w=>
 ae i (
 ev prog (aA 50 1 #[(0,x12)]) w λj w=>
 aY prog .append #[50,50] 50 #[false,false] (pA #[x3,j]) w λl w=>
 zq K E1 x0 l x11 x12 w) (
 zq K E1 x0 x3 x11 x12 w)) (
 I9 K x3 w)
def zt (I:VP2) (μ:M2) (h0:I x3 x12 w) (hr:∀x3 x12 w,I x3 x12 w->∀E1,Q2 I μ x3 x12 w E1->kg K x0 x3 x11 x12 w E1):Ja K x0 x3 x11 x12 w:=⟨I,μ,h0,λσ w hI E hE=>cast kR (hr (σ 3) (σ 12) w hI E hE)⟩
def ol (E1:VP2):Prop:=
 bC .add 3 12 1 x12 w λa w=>
 E1 x3 a w
def rZ (E1:VP2):zq K E1 x0 x3 x11 x12 w=ol x3 x12 w E1:=aI λσ=>kR
def Ri:Prop:=
 bM .eql 30 (.tmp 5) (.const (.pointer none)) x0 (.pointer none) w λa w=>
 ae a (
 K (.slice none 0 0) w) (
 nS x0 w λb w=>
 fA 155 b 2 w λc w=>
 lD 152 c w λd w=>
 lN 152 d w λe w=>
 Ja K x0 (.slice none 0 0) e (.int .i64 0) w)
def Na:=cA1 Tryz.func149 zo.2 Ri
noncomputable def Rj:=uD Tryz.f150 (.s .o (.b (.l [8] 193 1048352 .o)))
abbrev Rk:=aU prog Tryz.f150.results.toList
def Jb:Prop:=aE [8] 193 (λE=>cP (pw Rj 3 1) E (Rk K) (exB 0 (Rk K) nX)) (fy 20 449 [x0,x6,x7,x8]) w
def kh (E1:VP1):Prop:=
 bT .lss 3 8 7 x8 x7 w λa w=>
 ae a (
 iA 79 x6 x8 w λb w=>
 lD 98 b w λc w=>
 ev prog (Instr.alloc 98 true (.tuple #[])) w λd w=>
 sD 98 d c w λw=>
 fA 98 d 0 w λe w=>
 lD 26 e w λf w=>
 bU .quo 26 14 .u64 8 f w λg w=>
 fA 98 d 1 w λh w=>
 lD 26 h w λi w=>
 iA 58 x0 g w λj w=>
 sD 26 j i w λw=>
 bC .add 3 8 1 x8 w λl w=>
 E1 l w) (
 K (.tuple #[]) w)
def my (I:VP1) (μ:M1) (h0:I x8 w) (hr:∀x8 w,I x8 w->∀E1,Q1 I μ x8 w E1->kh K x0 x6 x7 x8 w E1):Jb K x0 x6 x7 x8 w:=⟨I,μ,h0,λσ w hI E hE=>cast kR (hr (σ 8) w hI E hE)⟩
def Gm:Prop:=
 lN 79 x1 w λa w=>
 Jb K x0 x1 a (.int .i64 0) w
def vx:=cA2 Tryz.func150 Rj.2 Gm
end
structure DS where
 n:Nat
 cur:Nat->Nat
 pers:Nat->Nat
 done:Nat->Nat
 hist:Nat->List (Nat×Nat)
 off:Bool
 armed:Bool
 left:Int
 exe:Nat
 err:Nat->Int
 notes:Nat->Int->Option Nat
structure Lay where
 n:Nat
 d:Nat
 pb:Nat
 cb:Nat
 pc:Nat
 cc:Nat
 lb:Nat
 tb:Nat->Nat
 nb:Nat->Nat
 dt:Nat->Nat
 ids:Nat->Nat
 hv:Nat->bb
inductive adC
 |dev|pe|cu|li
 |th (i:Nat)|nt (i:Nat)|hs (l:Nat)
def Lay.blk (Y:Lay):adC->Option Nat
 | .dev=>some Y.d
 | .pe=>some Y.pb
 | .cu=>some Y.cb
 | .li=>some Y.lb
 | .th i=>if i<8 then some (Y.tb i) else none
 | .nt i=>if i<8 then some (Y.nb i) else none
 | .hs l=>if l<Y.n then (Y.hv l).ownBlock else none
def Lay.F (Y:Lay) (b:Nat):Prop:=∃r,Y.blk r=some b
abbrev bp (b:Nat):bb:= .pointer (some ⟨b,0,none⟩)
abbrev u64 (n:Nat):bb:= .int .u64 (n:Int)
abbrev sl (b n c:Nat):bb:= .slice (some ⟨b,0,none⟩) n c
def jB (Y:Lay) (D:DS) (i:Nat):bb:=
 if i=0 then sl Y.pb (8*D.n) Y.pc else if i=1 then sl Y.cb (8*D.n) Y.cc else if i=2 then sl Y.lb D.n D.n else
 if i<11 then bp (Y.dt (i-3)) else if i=11 then .bool D.off else if i=12 then .bool D.armed else if i=13 then .int .i64 D.left else u64 D.exe
def om (Y:Lay) (D:DS) (i:Nat):bb:=if i%2=0 then u64 (D.done (i/2)) else Y.hv (i/2)
def thF (Y:Lay) (D:DS) (id i:Nat):bb:=if i=0 then bp Y.d else if i=1 then .int .i64 (Y.ids id:Int) else if i=2 then .int .i64 (D.err id) else .map (some (Y.nb id))
def wrL:List (Nat×Nat)->List bb
 | []=> []
 |(o,v)::l=>u64 o::u64 v::wrL l
def ntF (D:DS) (id:Nat) (i:Int):Option bb:=(D.notes id i).map u64
structure aH (D:DS):Prop where
 n0:0<D.n
 n:D.n<=4096
 cur:∀i,i<8*D.n->D.cur i<18446744073709551616
 pers:∀i,i<8*D.n->D.pers i<18446744073709551616
 hist:∀l,l<D.n->∀o v,(o,v)∈D.hist l->o%8=0/\o/64=l/\v<18446744073709551616
 cnt:∀l,l<D.n->D.done l+(D.hist l).length<=D.exe
 left:0<=D.left/\D.left<9223372036854775808
 notes:∀id,id<8->∀k p,D.notes id k=some p->0<=k/\k<D.n/\p<=D.done k.toNat+(D.hist k.toNat).length
structure Dv (w:an) (Y:Lay) (D:DS):Prop where
 yn:Y.n=D.n
 dev:af w Y.d 155 15 (jB Y D)
 pe:af w Y.pb 26 (8*D.n) (λi=>u64 (D.pers i))
 cu:af w Y.cb 26 (8*D.n) (λi=>u64 (D.cur i))
 li:af w Y.lb 209 (2*D.n) (om Y D)
 hs:∀l,l<D.n->SlO w 98 2 (Y.hv l) (D.hist l).length (wrL (D.hist l))
 th:∀i,i<8->af w (Y.tb i) 147 4 (thF Y D i)
 nt:∀i,i<8->∃es c,lz w (Y.nb i) es c (ntF D i)
 inj:∀r r' b,Y.blk r=some b->Y.blk r'=some b->r=r'
def Dv.lt {w:an} {Y:Lay} {D:DS} (h:Dv w Y D) {b:Nat} (hb:Y.F b):b<w.heap.size:=by
 obtain ⟨r,hr⟩:=hb
 cases r with
 |dev=>injection hr with hr;subst hr;exact h.dev.lt
 |pe=>injection hr with hr;subst hr;exact h.pe.lt
 |cu=>injection hr with hr;subst hr;exact h.cu.lt
 |li=>injection hr with hr;subst hr;exact h.li.lt
 |th i=>simp only [Lay.blk] at hr;split at hr<;>cases hr;exact (h.th i (by assumption)).lt
 |nt i=>
  simp only [Lay.blk] at hr;split at hr<;>cases hr;obtain ⟨es,c,hm⟩:=h.nt i (by assumption);exact hm.lt
 |hs l=>
  simp only [Lay.blk] at hr;split at hr
  ·exact (h.hs l (by have:=h.yn;omega)).lt hr
  ·cases hr
def Dv.of_heap {w w':an} {Y:Lay} {D:DS} (h:Dv w Y D) (e:∀b,Y.F b->w'.heap[b]? =w.heap[b]?):Dv w' Y D where
 yn:=h.yn
 dev:=h.dev.of_heap (e _ ⟨.dev,rfl⟩)
 pe:=h.pe.of_heap (e _ ⟨.pe,rfl⟩)
 cu:=h.cu.of_heap (e _ ⟨.cu,rfl⟩)
 li:=h.li.of_heap (e _ ⟨.li,rfl⟩)
 hs l hl:=(h.hs l hl).of_heap (λb hb=>e b ⟨.hs l,by have:=h.yn;simp only [Lay.blk];rw [if_pos oM];exact hb⟩)
 th i hi:=(h.th i hi).of_heap (e _ ⟨.th i,by simp [Lay.blk,hi]⟩)
 nt i hi:=by obtain ⟨es,c,hm⟩:=h.nt i hi;exact ⟨es,c,hm.of_heap (e _ ⟨.nt i,by simp [Lay.blk,hi]⟩)⟩
 inj:=h.inj
def Dv.ext {w w':an} {Y:Lay} {D:DS} (h:Dv w Y D) (e:Ext w w'):Dv w' Y D:=h.of_heap (λb hb=>e.blk b (h.lt hb))
def Dv.frm {w w':an} {Y:Lay} {D:DS} {G:Nat->Prop} (h:Dv w Y D) (e:Frm G w w') (hG:∀b,Y.F b->¬G b):Dv w' Y D:=h.of_heap (λb hb=>e.block b (h.lt hb) (hG b hb))
structure Stp (w:an) (Y:Lay) (w':an) (Y':Lay) (D':DS):Prop where
 dv:Dv w' Y' D'
 y:Y'={Y with hv:=Y'.hv}
 frm:Frm Y.F w w'
 fr:∀b,Y'.F b->Y.F b\/w.heap.size<=b
def Stp.refl {w:an} {Y:Lay} {D:DS} (h:Dv w Y D):Stp w Y w Y D:=⟨h,rfl,Frm.refl _ _,λb hb=> .inl hb⟩
def Stp.ext {w w':an} {Y:Lay} {D:DS} (h:Dv w Y D) (e:Ext w w'):Stp w Y w' Y D:=⟨h.ext e,rfl,Frm.of_ext e,λb hb=> .inl hb⟩
def Stp.trans {w w' w'':an} {Y Y' Y'':Lay} {D' a:DS} (h:Stp w Y w' Y' D') (k:Stp w' Y' w'' Y'' a):Stp w Y w'' Y'' a where
 dv:=k.dv
 y:=by rw [k.y,h.y]
 frm:=h.frm.trans k.frm (λx hx hf=>by
  rcases h.fr x hf with h1|h1
  ·exact h1
  ·omega)
 fr b hb:=by
  rcases k.fr b hb with h1|h1
  ·exact h.fr b h1
  ·exact .inr (fi h.frm.size h1)
def Stp.grow {w w' w'':an} {Y Y':Lay} {D':DS} (h:Stp w Y w' Y' D') (e:Ext w' w''):Stp w Y w'' Y' D':=h.trans (Stp.ext h.dv e)
def Stp.pre {w0 w w':an} {Y Y':Lay} {D':DS} (e:Ext w0 w) (hl:∀b,Y.F b->b<w0.heap.size) (h:Stp w Y w' Y' D'):Stp w0 Y w' Y' D' where
 dv:=h.dv
 y:=h.y
 frm:=(Frm.of_ext e:Frm Y.F w0 w).trans h.frm (λ_ _ h=>h)
 fr b hb:=by
  rcases h.fr b hb with h1|h1
  ·exact .inl h1
  ·exact .inr (fi e.size h1)
def Stp.to {w w':an} {Y Y':Lay} {D1 D2:DS} (h:Stp w Y w' Y' D1) (e:D1=D2):Stp w Y w' Y' D2:=e▸h
def Stp.tb {w w':an} {Y Y':Lay} {D':DS} (h:Stp w Y w' Y' D'):Y'.tb=Y.tb:=by rw [h.y]
def Stp.d {w w':an} {Y Y':Lay} {D':DS} (h:Stp w Y w' Y' D'):Y'.d=Y.d:=by rw [h.y]
def Frm.one (w:an) (b i:Nat) (v:bb):Frm (λx=>x=b) w (w.setCell ⟨b,i,none⟩ v):=(Frm.refl _ w).set v (λ_=>rfl)
section
variable {w w':an} {Y:Lay} {D D':DS}
def Dv.setDev (h:Dv w Y D) (i:Nat) (v:bb) (hi:i<15) (hv:∀j,j<15->jB Y D' j=if j=i then v else jB Y D j)
  (e:D'.n=D.n/\D'.pers=D.pers/\D'.cur=D.cur/\D'.done=D.done/\D'.hist=D.hist/\D'.err=D.err/\D'.notes=D.notes):Stp w Y (w.setCell ⟨Y.d,i,none⟩ v) Y D':=by
 have hf:=Frm.one w Y.d i v;have ne:∀r b,Y.blk r=some b->r≠ .dev->b≠Y.d:=λr b hr hn e=>hn (h.inj r .dev b hr (by rw [e];rfl))
 obtain ⟨e1,e2,e3,e4,e5,e6,e7⟩:=e;refine ⟨⟨by rw [e1];exact h.yn,(h.dev.set v hi).congr (λj hj=>(hv j hj).symm),?_,?_,?_,?_,?_,?_,h.inj⟩,rfl,hf.mono (λb hb=>⟨.dev,by rw [hb];rfl⟩),λb hb=> .inl hb⟩
 ·rw [e1,e2];exact h.pe.frm hf (ne .pe _ rfl (by simp))
 ·rw [e1,e3];exact h.cu.frm hf (ne .cu _ rfl (by simp))
 ·have:om Y D'=om Y D:=by funext j;simp [om,e4]
  rw [e1,this];exact h.li.frm hf (ne .li _ rfl (by simp))
 ·rw [e1,e5];exact λl hl=>(h.hs l hl).frm hf (λb hb=>ne (.hs l) b (by simp only [Lay.blk];rw [if_pos (by have:=h.yn;omega)];exact hb) (by simp))
 ·intro j hj;have:thF Y D' j=thF Y D j:=by funext q;simp [thF,e6]
  rw [this];exact (h.th j hj).frm hf (ne (.th j) _ (by simp [Lay.blk,hj]) (by simp))
 ·intro j hj;have:ntF D' j=ntF D j:=by funext q;simp [ntF,e7]
  rw [this];obtain ⟨es,c,hm⟩:=h.nt j hj;exact ⟨es,c,hm.of_heap (hf.block _ hm.lt (ne (.nt j) _ (by simp [Lay.blk,hj]) (by simp)))⟩
def Dv.setErr (h:Dv w Y D) (id:Nat) (f:id<8) (x:Int):Stp w Y (w.setCell ⟨Y.tb id,2,none⟩ (.int .i64 x)) Y {D with err:=λj=>if j=id then x else D.err j}:=by
 have hf:=Frm.one w (Y.tb id) 2 (.int .i64 x);have hb:Y.blk (.th id)=some (Y.tb id):=by simp [Lay.blk,f]
 have ne:∀r b,Y.blk r=some b->r≠ .th id->b≠Y.tb id:=λr b hr hn e=>hn (h.inj r (.th id) b hr (by rw [e];exact hb))
 refine ⟨⟨h.yn,h.dev.frm hf (ne .dev _ rfl (by simp)),h.pe.frm hf (ne .pe _ rfl (by simp)),h.cu.frm hf (ne .cu _ rfl (by simp)),h.li.frm hf (ne .li _ rfl (by simp)),?_,?_,?_,h.inj⟩,rfl,hf.mono (λb d=>⟨.th id,by rw [d];exact hb⟩),λb hb=> .inl hb⟩
 ·exact λl hl=>(h.hs l hl).frm hf (λb hb=>ne (.hs l) b (by simp only [Lay.blk];rw [if_pos (by have:=h.yn;have:l<D.n:=hl;omega)];exact hb) (by simp))
 ·intro j hj;by_cases hji:j=id
  ·subst hji;refine ((h.th j hj).set _ oM).congr (λq hq=> ?_);have a:q=0\/q=1\/q=2\/q=3:=oM;rcases a with rfl|rfl|rfl|rfl<;>simp [thF]
  ·have:thF Y {D with err:=λj=>if j=id then x else D.err j} j=thF Y D j:=by funext q;simp [thF,hji]
   rw [this];exact (h.th j hj).frm hf (ne (.th j) _ (by simp [Lay.blk,hj]) (by simpa using hji))
 ·intro j hj;obtain ⟨es,c,hm⟩:=h.nt j hj;exact ⟨es,c,hm.of_heap (hf.block _ hm.lt (ne (.nt j) _ (by simp [Lay.blk,hj]) (by simp)))⟩
def Dv.setCur (h:Dv w Y D) (i x:Nat) (hi:i<8*D.n):Stp w Y (w.setCell ⟨Y.cb,i,none⟩ (u64 x)) Y {D with cur:=λj=>if j=i then x else D.cur j}:=by
 have hf:=Frm.one w Y.cb i (u64 x);have ne:∀r b,Y.blk r=some b->r≠ .cu->b≠Y.cb:=λr b hr hn e=>hn (h.inj r .cu b hr (by rw [e];rfl))
 refine ⟨⟨h.yn,h.dev.frm hf (ne .dev _ rfl (by simp)),h.pe.frm hf (ne .pe _ rfl (by simp)),?_,h.li.frm hf (ne .li _ rfl (by simp)),?_,?_,?_,h.inj⟩,rfl,hf.mono (λb a=>⟨.cu,by rw [a];rfl⟩),λb hb=> .inl hb⟩
 ·exact (h.cu.set (u64 x) hi).congr (λj hj=>by show _=u64 (if j=i then x else D.cur j);split<;>simp_all)
 ·exact λl hl=>(h.hs l hl).frm hf (λb hb=>ne (.hs l) b (by simp only [Lay.blk];rw [if_pos (by have:=h.yn;have:l<D.n:=hl;omega)];exact hb) (by simp))
 ·exact λj hj=>(h.th j hj).frm hf (ne (.th j) _ (by simp [Lay.blk,hj]) (by simp))
 ·intro j hj;obtain ⟨es,c,hm⟩:=h.nt j hj;exact ⟨es,c,hm.of_heap (hf.block _ hm.lt (ne (.nt j) _ (by simp [Lay.blk,hj]) (by simp)))⟩
def Dv.setPers (h:Dv w Y D) (i x:Nat) (hi:i<8*D.n):Stp w Y (w.setCell ⟨Y.pb,i,none⟩ (u64 x)) Y {D with pers:=λj=>if j=i then x else D.pers j}:=by
 have hf:=Frm.one w Y.pb i (u64 x);have ne:∀r b,Y.blk r=some b->r≠ .pe->b≠Y.pb:=λr b hr hn e=>hn (h.inj r .pe b hr (by rw [e];rfl))
 refine ⟨⟨h.yn,h.dev.frm hf (ne .dev _ rfl (by simp)),?_,h.cu.frm hf (ne .cu _ rfl (by simp)),h.li.frm hf (ne .li _ rfl (by simp)),?_,?_,?_,h.inj⟩,rfl,hf.mono (λb a=>⟨.pe,by rw [a];rfl⟩),λb hb=> .inl hb⟩
 ·exact (h.pe.set (u64 x) hi).congr (λj hj=>by show _=u64 (if j=i then x else D.pers j);split<;>simp_all)
 ·exact λl hl=>(h.hs l hl).frm hf (λb hb=>ne (.hs l) b (by simp only [Lay.blk];rw [if_pos (by have:=h.yn;have:l<D.n:=hl;omega)];exact hb) (by simp))
 ·exact λj hj=>(h.th j hj).frm hf (ne (.th j) _ (by simp [Lay.blk,hj]) (by simp))
 ·intro j hj;obtain ⟨es,c,hm⟩:=h.nt j hj;exact ⟨es,c,hm.of_heap (hf.block _ hm.lt (ne (.nt j) _ (by simp [Lay.blk,hj]) (by simp)))⟩
def Dv.setDone (h:Dv w Y D) (l x:Nat) (hl:l<D.n):Stp w Y (w.setCell ⟨Y.lb,l*2,none⟩ (u64 x)) Y {D with done:=λj=>if j=l then x else D.done j}:=by
 have hf:=Frm.one w Y.lb (l*2) (u64 x);have ne:∀r b,Y.blk r=some b->r≠ .li->b≠Y.lb:=λr b hr hn e=>hn (h.inj r .li b hr (by rw [e];rfl))
 refine ⟨⟨h.yn,h.dev.frm hf (ne .dev _ rfl (by simp)),h.pe.frm hf (ne .pe _ rfl (by simp)),h.cu.frm hf (ne .cu _ rfl (by simp)),?_,?_,?_,?_,h.inj⟩,rfl,hf.mono (λb a=>⟨.li,by rw [a];rfl⟩),λb hb=> .inl hb⟩
 ·refine (h.li.set (u64 x) (i:=l*2) oM).congr (λj hj=> ?_);by_cases e:j=l*2
  ·subst e;have e1:l*2%2=0:=oM;have e2:l*2/2=l:=oM;simp [om,e1,e2]
  ·rw [if_neg e];by_cases e2:j%2=0
   ·have:¬j/2=l:=oM;simp [om,e2,this]
   ·simp [om,e2]
 ·exact λl hl=>(h.hs l hl).frm hf (λb hb=>ne (.hs l) b (by simp only [Lay.blk];rw [if_pos (by have:=h.yn;have:l<D.n:=hl;omega)];exact hb) (by simp))
 ·exact λj hj=>(h.th j hj).frm hf (ne (.th j) _ (by simp [Lay.blk,hj]) (by simp))
 ·intro j hj;obtain ⟨es,c,hm⟩:=h.nt j hj;exact ⟨es,c,hm.of_heap (hf.block _ hm.lt (ne (.nt j) _ (by simp [Lay.blk,hj]) (by simp)))⟩
def Dv.setHist (h:Dv w Y D) (l:Nat) (hl:l<D.n) (v:bb) (H:List (Nat×Nat)) (hv:SlO w' 98 2 v H.length (wrL H)) (hf:Frm (λb=>(Y.hv l).ownBlock=some b) w w') (hn:∀b,v.ownBlock=some b->(Y.hv l).ownBlock=some b\/w.heap.size<=b):
  Stp w Y (w'.setCell ⟨Y.lb,l*2+1,none⟩ v) {Y with hv:=λj=>if j=l then v else Y.hv j} {D with hist:=λj=>if j=l then H else D.hist j}:=by
 have A:=h.yn;have m:∀b,(Y.hv l).ownBlock=some b->Y.blk (.hs l)=some b:=λb hb=>by simp only [Lay.blk];rw [if_pos oM];exact hb
 have ne:∀r b,Y.blk r=some b->r≠ .hs l->¬(Y.hv l).ownBlock=some b:=λr b hr hn e=>hn (h.inj r (.hs l) b hr (m b e))
 have z:=h.li.frm hf (ne .li _ rfl (by simp));have a:=Frm.one w' Y.lb (l*2+1) v;have f:∀r b,Y.blk r=some b->r≠ .li->b≠Y.lb:=λr b hr hn e=>hn (h.inj r .li b hr (by rw [e];rfl))
 have x:∀b,v.ownBlock=some b->b≠Y.lb:=by
  intro b hb e;rcases hn b hb with h1|h1
  ·exact f (.hs l) b (m b h1) (by simp) e
  ·have:=h.li.lt;omega
 have d:∀r,r≠ .hs l->Lay.blk {Y with hv:=λj=>if j=l then v else Y.hv j} r=Y.blk r:=by
  intro r hr
  cases r with
  |hs q=>have:¬q=l:=λe=>hr (by rw [e]);simp [Lay.blk,this]
  |_=>rfl
 have k:Lay.blk {Y with hv:=λj=>if j=l then v else Y.hv j} (.hs l)=v.ownBlock:=by simp [Lay.blk];omega
 have u:Frm Y.F w (w'.setCell ⟨Y.lb,l*2+1,none⟩ v):=(hf.mono (λb hb=>(⟨.hs l,m b hb⟩:Y.F b))).trans (a.mono (λb hb=>(⟨.li,by rw [hb];rfl⟩:Y.F b))) (λ_ _ h=>h);have o:∀b,v.ownBlock=some b->∀r,r≠ .hs l->Y.blk r=some b->False:=by
  intro b hb r hr p;rcases hn b hb with h1|h1
  ·exact ne r b p hr h1
  ·have:=h.lt ⟨r,p⟩;omega
 refine ⟨⟨h.yn,?_,?_,?_,?_,?_,?_,?_,?_⟩,rfl,u,?_⟩
 ·exact (h.dev.frm hf (ne .dev _ rfl (by simp))).frm a (f .dev _ rfl (by simp))
 ·exact (h.pe.frm hf (ne .pe _ rfl (by simp))).frm a (f .pe _ rfl (by simp))
 ·exact (h.cu.frm hf (ne .cu _ rfl (by simp))).frm a (f .cu _ rfl (by simp))
 ·refine (z.set v (i:=l*2+1) oM).congr (λj hj=> ?_);by_cases e:j=l*2+1
  ·subst e;have e1:(l*2+1)%2=1:=oM;have e2:(l*2+1)/2=l:=oM;simp [om,e1,e2]
  ·rw [if_neg e];by_cases e2:j%2=0
   ·simp [om,e2]
   ·have:¬j/2=l:=oM;simp [om,e2,this]
 ·intro q hq;have y:q<D.n:=hq;by_cases e:q=l
  ·subst e;simp only [if_true];exact hv.frm a x
  ·simp only [e,if_false];have t:∀b,(Y.hv q).ownBlock=some b->Y.blk (.hs q)=some b:=λb hb=>by simp only [Lay.blk];rw [if_pos oM];exact hb
   exact ((h.hs q y).frm hf (λb hb=>ne (.hs q) b (t b hb) (by simpa using e))).frm a (λb hb=>f (.hs q) b (t b hb) (by simp))
 ·intro j hj;exact ((h.th j hj).frm hf (ne (.th j) _ (by simp [Lay.blk,hj]) (by simp))).frm a (f (.th j) _ (by simp [Lay.blk,hj]) (by simp))
 ·intro j hj;obtain ⟨es,c,hm⟩:=h.nt j hj;have s:=hm.of_heap (hf.block _ hm.lt (ne (.nt j) _ (by simp [Lay.blk,hj]) (by simp)));exact ⟨es,c,s.of_heap (a.block _ s.lt (f (.nt j) _ (by simp [Lay.blk,hj]) (by simp)))⟩
 ·intro r r' b hr g;by_cases e1:r= .hs l
  ·by_cases e2:r'= .hs l
   ·rw [e1,e2]
   ·rw [e1,k] at hr;rw [d r' e2] at g;exact (o b hr r' e2 g).elim
  ·by_cases e2:r'= .hs l
   ·rw [e2,k] at g;rw [d r e1] at hr;exact (o b g r e1 hr).elim
   ·rw [d r e1] at hr;rw [d r' e2] at g;exact h.inj r r' b hr g
 ·rintro b ⟨r,hr⟩;by_cases e1:r= .hs l
  ·rw [e1,k] at hr;rcases hn b hr with h1|h1
   ·exact .inl ⟨.hs l,m b h1⟩
   ·exact .inr h1
  ·rw [d r e1] at hr;exact .inl ⟨r,hr⟩
def Dv.setNote (h:Dv w Y D) (id:Nat) (f:id<8) (m:Int->Option Nat) {es:Array MapEntry} {c:Nat} (hm:lz w' (Y.nb id) es c (λi=>(m i).map u64)) (hf:Frm (λb=>b=Y.nb id) w w'):
  Stp w Y w' Y {D with notes:=λj=>if j=id then m else D.notes j}:=by
 have hb:Y.blk (.nt id)=some (Y.nb id):=by simp [Lay.blk,f]
 have ne:∀r b,Y.blk r=some b->r≠ .nt id->b≠Y.nb id:=λr b hr hn e=>hn (h.inj r (.nt id) b hr (by rw [e];exact hb))
 refine ⟨⟨h.yn,h.dev.frm hf (ne .dev _ rfl (by simp)),h.pe.frm hf (ne .pe _ rfl (by simp)),h.cu.frm hf (ne .cu _ rfl (by simp)),h.li.frm hf (ne .li _ rfl (by simp)),?_,?_,?_,h.inj⟩,rfl,hf.mono (λb d=>⟨.nt id,by rw [d];exact hb⟩),λb hb=> .inl hb⟩
 ·exact λl hl=>(h.hs l hl).frm hf (λb hb=>ne (.hs l) b (by simp only [Lay.blk];rw [if_pos (by have:=h.yn;have:l<D.n:=hl;omega)];exact hb) (by simp))
 ·exact λj hj=>(h.th j hj).frm hf (ne (.th j) _ (by simp [Lay.blk,hj]) (by simp))
 ·intro j hj;by_cases e:j=id
  ·subst e;have e:ntF {D with notes:=λq=>if q=j then m else D.notes q} j=λi=>(m i).map u64:=by funext q;simp [ntF]
   rw [e];exact ⟨es,c,hm⟩
  ·obtain ⟨g,c',a⟩:=h.nt j hj;have:ntF {D with notes:=λj=>if j=id then m else D.notes j} j=ntF D j:=by funext q;simp [ntF,e]
   rw [this];exact ⟨g,c',a.of_heap (hf.block _ a.lt (ne (.nt j) _ (by simp [Lay.blk,hj]) (by simpa using e)))⟩
end
section
variable {w w':an} {Y:Lay} {D D':DS}
def Dv.c_tdev (h:Dv w Y D) (id:Nat) (hi:id<8):w.cell? ⟨Y.tb id,0,none⟩=some (.pointer (some ⟨Y.d,0,none⟩)):=(h.th id hi).cell oM
def Dv.c_tid (h:Dv w Y D) (id:Nat) (hi:id<8):w.cell? ⟨Y.tb id,1,none⟩=some (.int .i64 (Y.ids id:Int)):=(h.th id hi).cell oM
def Dv.c_err (h:Dv w Y D) (id:Nat) (hi:id<8):w.cell? ⟨Y.tb id,2,none⟩=some (.int .i64 (D.err id)):=(h.th id hi).cell oM
def Dv.c_nb (h:Dv w Y D) (id:Nat) (hi:id<8):w.cell? ⟨Y.tb id,3,none⟩=some (.map (some (Y.nb id))):=(h.th id hi).cell oM
def Dv.z_t (h:Dv w Y D) (id i:Nat) (hi:id<8):w.frozen? ⟨Y.tb id,i,none⟩=false:=(h.th id hi).frz i
def Dv.c_pe (h:Dv w Y D):w.cell? ⟨Y.d,0,none⟩=some (.slice (some ⟨Y.pb,0,none⟩) (8*D.n) Y.pc):=h.dev.cell oM
def Dv.c_cu (h:Dv w Y D):w.cell? ⟨Y.d,1,none⟩=some (.slice (some ⟨Y.cb,0,none⟩) (8*D.n) Y.cc):=h.dev.cell oM
def Dv.c_li (h:Dv w Y D):w.cell? ⟨Y.d,2,none⟩=some (.slice (some ⟨Y.lb,0,none⟩) D.n D.n):=h.dev.cell oM
def Dv.c_th (h:Dv w Y D) (i:Nat) (h1:3<=i) (h2:i<11):w.cell? ⟨Y.d,i,none⟩=some (.pointer (some ⟨Y.dt (i-3),0,none⟩)):=by
 rw [h.dev.cell oM];unfold jB;rw [if_neg oM,if_neg oM,if_neg oM,if_pos h2]
def Dv.c_off (h:Dv w Y D):w.cell? ⟨Y.d,11,none⟩=some (.bool D.off):=h.dev.cell oM
def Dv.c_arm (h:Dv w Y D):w.cell? ⟨Y.d,12,none⟩=some (.bool D.armed):=h.dev.cell oM
def Dv.c_left (h:Dv w Y D):w.cell? ⟨Y.d,13,none⟩=some (.int .i64 D.left):=h.dev.cell oM
def Dv.c_exe (h:Dv w Y D):w.cell? ⟨Y.d,14,none⟩=some (.int .u64 (D.exe:Int)):=h.dev.cell oM
def Dv.z_d (h:Dv w Y D) (i:Nat):w.frozen? ⟨Y.d,i,none⟩=false:=h.dev.frz i
def Dv.c_cur (h:Dv w Y D) (i:Nat) (hi:i<8*D.n):w.cell? ⟨Y.cb,i,none⟩=some (.int .u64 (D.cur i:Int)):=h.cu.cell hi
def Dv.z_c (h:Dv w Y D) (i:Nat):w.frozen? ⟨Y.cb,i,none⟩=false:=h.cu.frz i
def Dv.c_pers (h:Dv w Y D) (i:Nat) (hi:i<8*D.n):w.cell? ⟨Y.pb,i,none⟩=some (.int .u64 (D.pers i:Int)):=h.pe.cell hi
def Dv.z_p (h:Dv w Y D) (i:Nat):w.frozen? ⟨Y.pb,i,none⟩=false:=h.pe.frz i
def Dv.c_done (h:Dv w Y D) (l:Nat) (hl:l<D.n):w.cell? ⟨Y.lb,l*2,none⟩=some (.int .u64 (D.done l:Int)):=by
 rw [h.li.cell oM];unfold om;rw [if_pos oM,show l*2/2=l by omega]
def Dv.c_hist (h:Dv w Y D) (l:Nat) (hl:l<D.n):w.cell? ⟨Y.lb,l*2+1,none⟩=some (Y.hv l):=by
 rw [h.li.cell oM];unfold om;rw [if_neg oM,show (l*2+1)/2=l by omega]
def Dv.z_l (h:Dv w Y D) (i:Nat):w.frozen? ⟨Y.lb,i,none⟩=false:=h.li.frz i
set_option linter.defProp false in
def Dv.R (h:Dv w Y D):=ab h.c_tdev<|ab h.c_err<|ab h.c_nb<|ab h.z_t<|ab h.c_pe<|ab h.c_cu<|ab h.c_li<|ab h.c_th<|ab h.c_off<|ab h.c_arm<|ab h.c_left<|ab h.c_exe<|ab h.z_d<|ab h.c_cur<|ab h.z_c<|ab h.c_pers<|ab h.z_p<|ab h.c_done<|ab h.c_hist h.z_l
end
def DS.fail (D:DS) (id:Nat) (e:Int):DS:=if D.err id=0 then {D with err:=λj=>if j=id then e else D.err j} else D
def Gn {w:an} {Y:Lay} {D:DS} (h:Dv w Y D) (id:Nat) (a:id<8) (e:Int) (K:K1) (hK:∀w',Stp w Y w' Y (D.fail id e)->K (.tuple #[]) w'):ad prog 139 #[.pointer (some ⟨Y.tb id,0,none⟩),.int .i64 e] w K:=by
 refine M6 _ _ _ _ ?_;unfold Rf
 (repeat' first|refine ak (λ_=> ?_) (λ_=> ?_)|refine am ?_ ?_|refine zS1 h.R ?_|exact yS1 h.R|fail)
 ·rename_i h0;refine hK _ ?_;unfold DS.fail;rw [if_pos h0];exact h.setErr id a e
 ·rename_i h0;refine hK _ ?_;unfold DS.fail;rw [if_neg h0];exact Stp.refl h
def DS.on (D:DS) (id:Nat) (v:Bool):DS:=if D.off=true then D.fail id 3 else if v=true then D else D.fail id 2
def ack {w:an} {Y:Lay} {D:DS} (h:Dv w Y D) (id:Nat) (a:id<8) (v:Bool) (K:K1) (hK:∀w',Stp w Y w' Y (D.on id v)->K (.bool (!D.off&&v)) w'):ad prog 89 #[.pointer (some ⟨Y.tb id,0,none⟩),.bool v] w K:=by
 refine B4 _ _ _ _ ?_;unfold QY;unfold DS.on at hK
 (repeat' first|refine ak (λ_=> ?_) (λ_=> ?_)|refine am ?_ ?_|refine zS1 h.R ?_|exact yS1 h.R|fail)
 ·rename_i h0;refine Gn h id a 3 _ (λw' hs=> ?_);refine zS2 @vh @rW.eq_1 ?_;simpa [h0] using hK w' (by simpa [h0] using hs)
 ·rename_i h0 h1;simpa [h0,h1] using hK w (by simpa [h0,h1] using Stp.refl h)
 ·rename_i h0 h1;refine Gn h id a 2 _ (λw' hs=> ?_);refine zS2 @vh @rW.eq_1 ?_;simpa [h0,h1] using hK w' (by simpa [h0,h1] using hs)
def DS.counted (D:DS) (id:Nat) (v:Bool):DS:=
 if D.off=true then D.fail id 3 else if v=false then D.fail id 2 else
 if D.armed=true then if D.left=0 then ({D with off:=true}:DS).fail id 3 else {D with left:=D.left-1,exe:=D.exe+1} else {D with exe:=D.exe+1}
def DS.runs (D:DS) (v:Bool):Bool:= !D.off&&v&& !(D.armed&&decide (D.left=0))
def Rl (Y:Lay) (D:DS) (b:Bool) (j:Nat):jB Y {D with off:=b} j=if j=11 then .bool b else jB Y D j:=by
 unfold jB;by_cases h:j=11
 ·subst h;simp
 ·simp [h]
def Nb (Y:Lay) (D:DS) (x:Int) (j:Nat):jB Y {D with left:=x} j=if j=13 then .int .i64 x else jB Y D j:=by
 unfold jB;by_cases h:j=13
 ·subst h;simp
 ·simp [h]
def Rm (Y:Lay) (D:DS) (x:Nat) (j:Nat) (hj:j<15):jB Y {D with exe:=x} j=if j=14 then .int .u64 (x:Int) else jB Y D j:=by
 unfold jB;by_cases h:j=14
 ·subst h;simp [u64]
 ·rw [if_neg h];simp;repeat (first|rfl|split|omega)
def Dv.setOff {w:an} {Y:Lay} {D:DS} (h:Dv w Y D) (b:Bool):Stp w Y (w.setCell ⟨Y.d,11,none⟩ (.bool b)) Y {D with off:=b}:=h.setDev 11 _ oM (λj hj=>Rl Y D b j) ⟨rfl,rfl,rfl,rfl,rfl,rfl,rfl⟩
def Dv.setLeft {w:an} {Y:Lay} {D:DS} (h:Dv w Y D) (x:Int):Stp w Y (w.setCell ⟨Y.d,13,none⟩ (.int .i64 x)) Y {D with left:=x}:=h.setDev 13 _ oM (λj hj=>Nb Y D x j) ⟨rfl,rfl,rfl,rfl,rfl,rfl,rfl⟩
def Dv.setExe {w:an} {Y:Lay} {D:DS} (h:Dv w Y D) (x:Nat):Stp w Y (w.setCell ⟨Y.d,14,none⟩ (.int .u64 (x:Int))) Y {D with exe:=x}:=h.setDev 14 _ oM (λj hj=>Rm Y D x j hj) ⟨rfl,rfl,rfl,rfl,rfl,rfl,rfl⟩
def oq {w:an} {Y:Lay} {D:DS} (h:Dv w Y D) (id:Nat) (b:id<8) (v:Bool) (hx:D.exe<1099511627776) (hl:0<=D.left) (d:D.left<9223372036854775808) (K:K1) (hK:∀w',Stp w Y w' Y (D.counted id v)->K (.bool (D.runs v)) w'):ad prog 86 #[.pointer (some ⟨Y.tb id,0,none⟩),.bool v] w K:=by
 refine QU _ _ _ _ ?_;unfold Zj;unfold DS.counted DS.runs at hK;refine zS0 ?_;refine ack h id b v _ (λw1 h1=> ?_);by_cases ho:D.off=true
 ·refine zS1 ho ?_;simp only [DS.on,ho,if_true] at h1;simpa [ho] using hK w1 (by simpa [ho] using h1)
 ·by_cases hv:v=true
  ·have e:D.on id v=D:=by simp [DS.on,ho,hv]
   rw [e] at h1;have a:D.off=false:=by simpa using ho
   subst hv
   (repeat' first|refine ak (λ_=> ?_) (λ_=> ?_)|refine am ?_ ?_|refine zS4 a h1.dv.R @vg @rV.eq_1 ?_|exact yS4 a h1.dv.R @vg @rV.eq_1|fail)
   ·rename_i ha hz;have h2:=h1.trans (h1.dv.setOff true);refine Gn h2.dv id b 3 _ (λw3 h3=> ?_);simpa [a,ha,hz] using hK w3 (by simpa [a,ha,hz] using h2.trans h3)
   ·rename_i ha hz;have h2:=h1.trans (h1.dv.setLeft (D.left-1));refine zS1 h2.dv.R ?_;simpa [a,ha,hz] using hK _ (by simpa [a,ha,hz] using h2.trans (h2.dv.setExe (D.exe+1)))
   ·rename_i ha;simpa [a,ha] using hK _ (by simpa [a,ha] using h1.trans (h1.dv.setExe (D.exe+1)))
  ·have c:v=false:=by simpa using hv
   subst c;refine zS0 ?_;have a:D.off=false:=by simpa using ho
   have e:D.on id false=D.fail id 2:=by simp [DS.on,a]
   rw [e] at h1;simpa [a] using hK _ (by simpa [a] using h1)
noncomputable section
variable (K:K1) (x0 x1 x2 x3 x4 x5 x6 x7 x8 x9 x10 x11 x12:bb) (w:an)
def Zp:Prop:=
 cV 27 126 x0 w λa w=>
 cV 126 26 a w λb w=>
 bU .mul 26 5 .u64 8 b w λc w=>
 K c w
def Ro:=cA1 Tryz.func20 .o Zp
def Zq:Prop:=
 bU .shr 27 3 .u64 48 x0 w λa w=>
 cV 27 5 a w λb w=>
 K b w
def Rp:=cA1 Tryz.func60 .o Zq
def Zr:Prop:=
 bU .eql 27 3 .u64 0 x0 w λa w=>
 K a w
def Rq:=cA1 Tryz.func73 .o Zr
def Zs:Prop:=
 bC .lss 3 3 0 x0 w λa w=>
 gV a false x0 w λb w=>
 gd a false (λk=>bC .geq 3 6 5 b w k) w λc w=>
 au a (.bool true) c w λd w=>
 ae d (
 K (.int .i64 0) w) (
 iA 182 (.pointer (some ⟨0,0,none⟩)) x0 w λe w=>
 lD 3 e w λf w=>
 K f w)
def Rr:=cA1 Tryz.func85 .o Zs
def Rs:Prop:=
 bU .shr 27 3 .u64 32 x0 w λa w=>
 cV 27 130 a w λb w=>
 K b w
def Nc:=cA1 Tryz.func132 .o Rs
def Rt:Prop:=
 cL 85 (pA #[x0]) w λa w=>
 bC .eql 3 6 0 a w λb w=>
 ae b (
 K (.int .i64 0) w) (
 bC .add 3 8 1 a w λc w=>
 bM .quo 3 (ci 248) (.tmp 9) (.int .i64 248) c w λd w=>
 K d w)
def Nd:=cA1 Tryz.func135 .o Rt
def Ru:Prop:=
 cL 135 (pA #[x0]) w λa w=>
 bC .eql 3 11 0 a w λb w=>
 gV b false x1 w λc w=>
 gd b false (λk=>bC .leq 3 14 8 c w k) w λd w=>
 au b (.bool true) d w λe w=>
 gV e false x1 w λf w=>
 gd e false (λk=>bC .geq 3 18 256 f w k) w λg w=>
 au e (.bool true) g w λh w=>
 ae h (
 K (.tuple #[(.int .i64 0),(.bool false)]) w) (
 iA 182 (.pointer (some ⟨0,0,none⟩)) x0 w λi w=>
 lD 3 i w λj w=>
 bC .add 3 23 1 j w λl w=>
 bC .sub 3 25 8 x1 w λm w=>
 bC .sub 3 26 1 m w λn w=>
 bT .rem 3 28 29 n l w λo w=>
 bC .neq 3 30 0 o w λp w=>
 gV p false n w λq w=>
 gV p false l w λs w=>
 gd p false (λk=>bT .quo 3 33 34 q s w k) w λt w=>
 gV p false a w λv w=>
 gd p false (λk=>bT .geq 3 35 36 t v w k) w λy w=>
 au p (.bool true) y w λz w=>
 ae z (
 K (.tuple #[(.int .i64 0),(.bool false)]) w) (
 bT .quo 3 39 40 n l w λa0 w=>
 K (.tuple #[a0,(.bool true)]) w))
def Nf:=cA2 Tryz.func138 .o Ru
def Rv:Prop:=
 bC .geq 3 3 0 x0 w λa w=>
 gV a true x0 w λb w=>
 gd a true (λk=>bC .leq 3 6 4064 b w k) w λc w=>
 au a c (.bool false) w λd w=>
 K d w
def Ng:=cA1 Tryz.func158 .o Rv
def Rw:Prop:=
 ev prog (Instr.box 132 x0) w λa w=>
 fA 132 a 0 w λb w=>
 lD 3 b w λc w=>
 cL 135 (pA #[c]) w λd w=>
 bC .gtr 3 5 0 d w λe w=>
 gd e true (λk=>fA 132 a 1 w k) w λf w=>
 gd e true (λk=>lD 3 f w k) w λg w=>
 gd e true (λk=>bC .geq 3 9 0 g w k) w λh w=>
 au e h (.bool false) w λi w=>
 gd i true (λk=>fA 132 a 1 w k) w λj w=>
 gd i true (λk=>lD 3 j w k) w λl w=>
 gd i true (λk=>bC .lss 3 14 8 l w k) w λm w=>
 au i m (.bool false) w λn w=>
 K n w
def Nh:=cA1 Tryz.func159 .o Rw
def Rx:Prop:=
 ev prog (Instr.box 200 x0) w λa w=>
 fA 200 a 0 w λb w=>
 lD 130 b w λc w=>
 cV 130 126 c w λd w=>
 fA 200 a 1 w λe w=>
 lD 5 e w λf w=>
 cV 5 126 f w λg w=>
 bU .shl 126 8 .u64 16 g w λh w=>
 bT .or 126 5 9 d h w λi w=>
 fA 200 a 2 w λj w=>
 lD 5 j w λl w=>
 cV 5 126 l w λm w=>
 bU .shl 126 13 .u64 24 m w λn w=>
 bT .or 126 10 14 i n w λo w=>
 cL 185 (pA #[o]) w λp w=>
 K p w
def Ni:=cA1 Tryz.func160 .o Rx
def Ry:Prop:=
 cL 135 (pA #[x0]) w λa w=>
 bC .eql 3 9 0 a w λb w=>
 ae b (
 K (.tuple #[(.int .i64 0),(.int .i64 1)]) w) (
 bC .lss 3 11 0 x1 w λc w=>
 gV c false x1 w λd w=>
 gV c false a w λe w=>
 gd c false (λk=>bT .geq 3 14 15 d e w k) w λf w=>
 au c (.bool true) f w λg w=>
 ae g (
 K (.tuple #[(.int .i64 0),(.int .i64 2)]) w) (
 iA 182 (.pointer (some ⟨0,0,none⟩)) x0 w λh w=>
 lD 3 h w λi w=>
 bC .add 3 21 1 i w λj w=>
 bT .mul 3 18 22 x1 j w λl w=>
 bM .add 3 (ci 8) (.tmp 23) (.int .i64 8) l w λm w=>
 K (.tuple #[m,(.int .i64 0)]) w))
def Nj:=cA2 Tryz.func161 .o Ry
def Rz:Prop:=
 cV 3 26 x0 w λa w=>
 bU .mul 26 4 .u64 64 a w λb w=>
 K b w
def Nk:=cA1 Tryz.func162 .o Rz
noncomputable def RC:=uD Tryz.f163 (.s .o (.s .o (.x 8 .o .o)))
abbrev RD:=aU prog Tryz.f163.results.toList
def Nl:KF:=kO 8 (cP (pw RC 3 7) (RD K) (RD K) nX)
def zu:Prop:=Nl K (fy 26 8 [x3]) w
def ox:Prop:=
 cL 185 (pA #[x3]) w λa w=>
 K a w
def r8:zu K x3 w=ox K x3 w:=aI λσ=>kR
def RE:Prop:=
 ev prog (Instr.box 132 x0) w λa w=>
 fA 132 a 2 w λb w=>
 lD 130 b w λc w=>
 cV 130 126 c w λd w=>
 bU .or 126 6 .u32 3305111552 d w λe w=>
 fA 132 a 0 w λf w=>
 lD 3 f w λg w=>
 bC .geq 3 9 0 g w λh w=>
 ae h (
 fA 132 a 0 w λi w=>
 lD 3 i w λj w=>
 bC .add 3 13 1 j w λl w=>
 cV 3 126 l w λm w=>
 bU .shl 126 15 .u64 16 m w λn w=>
 fA 132 a 1 w λo w=>
 lD 3 o w λp w=>
 bC .add 3 18 1 p w λq w=>
 cV 3 126 q w λs w=>
 bU .shl 126 20 .u64 20 s w λt w=>
 bT .or 126 16 21 n t w λv w=>
 bT .or 126 11 22 e v w λy w=>
 zu K y w) (
 zu K e w)
def Nm:=cA1 Tryz.func163 RC.2 RE
def RF:Prop:=
 ev prog (Instr.box 200 x0) w λa w=>
 fA 200 a 2 w λb w=>
 lD 5 b w λc w=>
 bU .eql 5 4 .u8 176 c w λd w=>
 ae d (
 fA 200 a 0 w λe w=>
 lD 130 e w λf w=>
 bU .neq 130 8 .u16 0 f w λg w=>
 gd g true (λk=>fA 200 a 1 w k) w λh w=>
 gd g true (λk=>lD 5 h w k) w λi w=>
 gd g true (λk=>bU .eql 5 12 .u8 0 i w k) w λj w=>
 au g j (.bool false) w λl w=>
 K l w) (
 bU .eql 5 4 .u8 177 c w λm w=>
 ae m (
 fA 200 a 0 w λn w=>
 lD 130 n w λo w=>
 bU .neq 130 18 .u16 0 o w λp w=>
 gd p true (λk=>fA 200 a 1 w k) w λq w=>
 gd p true (λk=>lD 5 q w k) w λs w=>
 gd p true (λk=>bU .neq 5 22 .u8 0 s w k) w λt w=>
 au p t (.bool false) w λv w=>
 gd v true (λk=>fA 200 a 1 w k) w λy w=>
 gd v true (λk=>lD 5 y w k) w λz w=>
 gd v true (λk=>bU .leq 5 27 .u8 127 z w k) w λa0 w=>
 au v a0 (.bool false) w λa1 w=>
 K a1 w) (
 bU .eql 5 4 .u8 178 c w λa2 w=>
 ae a2 (
 fA 200 a 0 w λa3 w=>
 lD 130 a3 w λa4 w=>
 bU .eql 130 33 .u16 65535 a4 w λa5 w=>
 gd a5 true (λk=>fA 200 a 1 w k) w λa6 w=>
 gd a5 true (λk=>lD 5 a6 w k) w λa7 w=>
 gd a5 true (λk=>bU .eql 5 37 .u8 0 a7 w k) w λa8 w=>
 au a5 a8 (.bool false) w λa9 w=>
 K a9 w) (
 K (.bool false) w)))
def Nn:=cA1 Tryz.func168 .o RF
def RG:Prop:=
 bU .eql 26 8 .u64 0 x0 w λa w=>
 gV a false x0 w λb w=>
 gd a false (λk=>bU .rem 26 11 .u64 8 b w k) w λc w=>
 gd a false (λk=>bU .neq 26 12 .u64 0 c w k) w λd w=>
 au a (.bool true) d w λe w=>
 gV e false x1 w λf w=>
 gd e false (λk=>bU .eql 130 16 .u16 0 f w k) w λg w=>
 au e (.bool true) g w λh w=>
 gV h false x2 w λi w=>
 gd h false (λk=>bU .eql 5 20 .u8 0 i w k) w λj w=>
 au h (.bool true) j w λl w=>
 gV l false x2 w λm w=>
 gd l false (λk=>bU .gtr 5 24 .u8 127 m w k) w λn w=>
 au l (.bool true) n w λo w=>
 ae o (
 K (.tuple #[(.int .u64 ((0:Nat):Int)),(.int .i64 1)]) w) (
 bU .gtr 26 27 .u64 34359738360 x0 w λp w=>
 ae p (
 K (.tuple #[(.int .u64 ((0:Nat):Int)),(.int .i64 2)]) w) (
 bU .quo 26 29 .u64 8 x0 w λq w=>
 cV 130 26 x1 w λs w=>
 bU .shl 26 32 .u64 32 s w λt w=>
 bT .or 26 30 33 q t w λv w=>
 cV 5 26 x2 w λy w=>
 bU .shl 26 36 .u64 48 y w λz w=>
 bT .or 26 34 37 v z w λa0 w=>
 K (.tuple #[a0,(.int .i64 0)]) w))
def No:=cA3 Tryz.func169 .o RG
def RH:Prop:=
 bU .rem 26 4 .u64 64 x0 w λa w=>
 bT .sub 26 3 5 x0 a w λb w=>
 K b w
def Np:=cA1 Tryz.func171 .o RH
def RJ:Prop:=
 cV 5 126 x1 w λa w=>
 bT .xor 126 5 7 x0 a w λb w=>
 bU .shr 126 9 .u64 4 b w λc w=>
 bU .and 126 11 .u32 15 b w λd w=>
 iA 257 (.pointer (some ⟨1,0,none⟩)) d w λe w=>
 lD 126 e w λf w=>
 bT .xor 126 10 14 c f w λg w=>
 bU .shr 126 16 .u64 4 g w λh w=>
 bU .and 126 18 .u32 15 g w λi w=>
 iA 257 (.pointer (some ⟨1,0,none⟩)) i w λj w=>
 lD 126 j w λl w=>
 bT .xor 126 17 21 h l w λm w=>
 K m w
def Nq:=cA2 Tryz.func174 .o RJ
def RK:Prop:=
 ev prog (Instr.alloc 132 true (.tuple #[])) w λa w=>
 cV 26 126 x0 w λb w=>
 cL 185 (pA #[b]) w λc w=>
 bT .neq 26 9 10 c x0 w λd w=>
 gV d false b w λe w=>
 gd d false (λk=>bU .shr 126 13 .u64 24 e w k) w λf w=>
 gd d false (λk=>bU .neq 126 14 .u32 197 f w k) w λg w=>
 au d (.bool true) g w λh w=>
 gV h false b w λi w=>
 gd h false (λk=>cV 126 130 i w k) w λj w=>
 gd h false (λk=>bU .eql 130 19 .u16 0 j w k) w λl w=>
 au h (.bool true) l w λm w=>
 ae m (
 ev prog (Instr.build 132 #[]) w λn w=>
 sD 132 a n w λw=>
 lR 132 a w λr=>
 K (.tuple #[r,(.bool false)]) w) (
 bU .shr 126 23 .u64 16 b w λo w=>
 bU .and 126 24 .u32 15 o w λp w=>
 cV 126 3 p w λq w=>
 bC .sub 3 26 1 q w λs w=>
 bU .shr 126 28 .u64 20 b w λt w=>
 bU .and 126 29 .u32 15 t w λv w=>
 cV 126 3 v w λy w=>
 bC .sub 3 31 1 y w λz w=>
 cV 126 130 b w λa0 w=>
 ev prog (Instr.build 132 #[(0,s),(1,z),(2,a0)]) w λa1 w=>
 ev prog (Instr.alloc 132 true (.tuple #[])) w λa2 w=>
 sD 132 a2 a1 w λw=>
 fA 132 a2 0 w λa3 w=>
 lD 3 a3 w λa4 w=>
 bC .lss 3 37 0 a4 w λa5 w=>
 gd a5 true (λk=>fA 132 a2 1 w k) w λa6 w=>
 gd a5 true (λk=>lD 3 a6 w k) w λa7 w=>
 gd a5 true (λk=>bC .lss 3 41 0 a7 w k) w λa8 w=>
 au a5 a8 (.bool false) w λa9 w=>
 gd a9 false (λk=>lD 132 a2 w k) w λb0 w=>
 gC a9 false 159 (pA #[b0]) w λb1 w=>
 au a9 (.bool true) b1 w λb2 w=>
 ae b2 (
 lD 132 a2 w λb3 w=>
 sD 132 a b3 w λw=>
 lR 132 a w λx=>
 K (.tuple #[x,(.bool true)]) w) (
 ev prog (Instr.build 132 #[]) w λb4 w=>
 sD 132 a b4 w λw=>
 lR 132 a w λu=>
 K (.tuple #[u,(.bool false)]) w))
def Nr:=cA1 Tryz.func175 .o RK
def RR:Prop:=
 ev prog (Instr.alloc 200 true (.tuple #[])) w λa w=>
 cV 26 126 x0 w λb w=>
 cL 185 (pA #[b]) w λc w=>
 bT .neq 26 8 9 c x0 w λd w=>
 ae d (
 ev prog (Instr.build 200 #[]) w λe w=>
 sD 200 a e w λw=>
 lR 200 a w λr=>
 K (.tuple #[r,(.bool false)]) w) (
 cV 126 130 b w λf w=>
 bU .shr 126 14 .u64 16 b w λg w=>
 cV 126 5 g w λh w=>
 bU .shr 126 17 .u64 24 b w λi w=>
 cV 126 5 i w λj w=>
 ev prog (Instr.build 200 #[(0,f),(1,h),(2,j)]) w λl w=>
 sD 200 a l w λw=>
 lR 200 a w λk=>
 K (.tuple #[k,(.bool true)]) w)
def Ns:=cA1 Tryz.func176 .o RR
def RU:Prop:=
 ev prog (Instr.box 200 x0) w λa w=>
 ev prog (Instr.alloc 200 true (.tuple #[])) w λb w=>
 fA 200 a 0 w λc w=>
 lD 130 c w λd w=>
 cL 199 (pA #[d]) w λe w=>
 eX e 0 w λf w=>
 eX e 1 w λg w=>
 ae g (
 ev prog (Instr.build 200 #[(0,f),(2,(.int .u8 ((176:Nat):Int)))]) w λh w=>
 sD 200 b h w λw=>
 lR 200 b w λr=>
 K r w) (
 ev prog (Instr.build 200 #[(0,(.int .u16 ((65535:Nat):Int))),(2,(.int .u8 ((178:Nat):Int)))]) w λi w=>
 sD 200 b i w λw=>
 lR 200 b w λj=>
 K j w)
def Nt:=cA1 Tryz.func181 .o RU
def RY:Prop:=
 cV 126 5 x0 w λa w=>
 bU .shr 126 6 .u64 8 x0 w λb w=>
 cV 126 5 b w λc w=>
 bU .shr 126 9 .u64 16 x0 w λd w=>
 cV 126 5 d w λe w=>
 bU .shr 126 12 .u64 24 x0 w λf w=>
 cV 126 5 f w λg w=>
 ev prog (aA 51 4 #[(0,a),(1,c),(2,e),(3,g)]) w λh w=>
 cL 200 (pA #[h]) w λi w=>
 cV 126 26 i w λj w=>
 bU .shl 26 18 .u64 32 j w λl w=>
 cV 126 26 x0 w λm w=>
 bT .or 26 19 21 l m w λn w=>
 K n w
def Nu:=cA1 Tryz.func185 .o RY
def R0:Prop:=
 bU .eql 130 4 .u16 65535 x0 w λa w=>
 ae a (
 K (.tuple #[(.int .u16 ((0:Nat):Int)),(.bool false)]) w) (
 bU .add 130 6 .u16 1 x0 w λb w=>
 K (.tuple #[b,(.bool true)]) w)
def Nv:=cA1 Tryz.func199 .o R0
def R3:Prop:=
 cL 216 (pA #[(.int .u32 ((0:Nat):Int)),x0]) w λa w=>
 K a w
def Nw:=cA1 Tryz.func200 .o R3
noncomputable def Gp:=uD Tryz.f216 (.s .o (.s .o (.x 32 (.s .o (.b (.l [5,12] 3072 1044640 .o))) .o)))
abbrev Gq:=aU prog Tryz.f216.results.toList
def vy:KF:=kO 32 (cP (pw Gp 3 7) (Gq K) (Gq K) nX)
def Jc:Prop:=vy K (fy 22 32 [x5]) w
def Jd:Prop:=aE [5,12] 3072 (λE=>cP (pw Gp 6 11) E (Gq K) (exB 0 (vy K) nX)) (fy 22 7200 [x5,x10,x11,x12]) w
def vz:Prop:=
 ev prog (Op.unary .xor x5) w λa w=>
 K a w
def Gr:Jc K x5 w=vz K x5 w:=aI λσ=>kR
def vA (E1:VP2):Prop:=
 bT .lss 3 12 11 x12 x11 w λa w=>
 ae a (
 iA 51 x10 x12 w λb w=>
 lD 5 b w λc w=>
 cL 174 (pA #[x5,c]) w λd w=>
 bC .add 3 12 1 x12 w λe w=>
 E1 d e w) (
 Jc K x5 w)
def zy (I:VP2) (μ:M2) (h0:I x5 x12 w) (hr:∀x5 x12 w,I x5 x12 w->∀E1,Q2 I μ x5 x12 w E1->vA K x5 x10 x11 x12 w E1):Jd K x5 x10 x11 x12 w:=⟨I,μ,h0,λσ w hI E hE=>cast kR (hr (σ 5) (σ 12) w hI E hE)⟩
def R4:Prop:=
 ev prog (Op.unary .xor x0) w λa w=>
 lN 51 x1 w λb w=>
 Jd K a x1 b (.int .i64 0) w
def Nx:=cA2 Tryz.func216 Gp.2 R4
end
end Go.Proofs.YtmpehclnnjgmcaaGreatDoor
namespace Go.Proofs.YtmpehclnnjgmcaaGreatDoor
def nibN (i:Nat):Nat:=([0,274646895,549293790,820201905,1098587580,1361435347,1640403810,1905808397,2197175160,2460548119,2722870694,2987750089,3280807620,3553878443,3811616794,4084100981]:List Nat).getD i 0
def bs (c:Nat):Nat:=if c%2=1 then (c/2)^^^2197175160 else c/2
def bsN:Nat->Nat->Nat
 |0,c=>c
 |n+1,c=>bsN n (bs c)
def nb (c:Nat):Nat:=(c/16)^^^nibN (c%16)
def stepN (r b:Nat):Nat:=nb (nb (r^^^b))
def sumL (l:List Nat):Nat:=4294967295^^^(l.foldl stepN (4294967295^^^0))
def B8 (x:Nat):Nat:=bsN 32 (4294967295^^^x)^^^4294967295
def sealN (x:Nat):Nat:=B8 x*4294967296+x
def R5 (a b:Nat):(a^^^b)/2=a/2^^^b/2:=by
 have:=Nat.shiftRight_xor_distrib (a:=a) (b:=b) (i:=1);simpa [Nat.shiftRight_succ] using this
def R6 (a b:Nat):(a^^^b)%2=(a%2+b%2)%2:=by
 have h:=gs a b 0;simp only [Nat.testBit_zero] at h;have ha:=cg a;have hb:=cg b;have hc:=cg (a^^^b);rcases ha with ha|ha<;>rcases hb with hb|hb<;>rcases hc with hc|hc<;>simp [ha,hb,hc] at h ⊢
def aaV (a b:Nat):bs (a^^^b)=bs a^^^bs b:=by
 have ha:=cg a;have hb:=cg b;unfold bs;rw [R6,R5];rcases ha with ha|ha<;>rcases hb with hb|hb<;>simp [ha,hb]
 ·rw [cF]
 ·rw [cF,cF,dj (b/2)]
 ·rw [cF,<-cF 2197175160,dj 2197175160,cF,Nat.xor_self,gT]
def Je:∀(n a b:Nat),bsN n (a^^^b)=bsN n a^^^bsN n b:=by
 intro n
 induction n with
 |zero=>intro a b;rfl
 |succ n ih=>intro a b;simp only [bsN,aaV,ih]
def aaW (q:Nat):bs (2*q)=q:=by unfold bs;rw [if_neg (by omega)];omega
def vB:∀(n q:Nat),bsN n (2^n*q)=q:=by
 intro n
 induction n with
 |zero=>intro q;simp [bsN]
 |succ n ih=>
  intro q;simp only [bsN];rw [show 2^(n+1)*q=2*(2^n*q) by rw [Nat.pow_succ];ac_rfl,aaW,ih]
def qL:∀(m n c:Nat),bsN (m+n) c=bsN n (bsN m c):=by
 intro m
 induction m with
 |zero=>intro n c;simp [bsN]
 |succ m ih=>intro n c;rw [show m+1+n=(m+n)+1 by omega];simp only [bsN,ih]
def Ny (r:Nat) (h:r<16):bsN 4 r=nibN r:=by
 have:∀r:Fin 16,bsN 4 r.1=nibN r.1:=by decide
 exact this ⟨r,h⟩
def ki (k c:Nat):c=(2^k*(c/2^k))^^^(c%2^k):=by
 apply Nat.eq_of_testBit_eq;intro i;rw [gs,Nat.testBit_two_pow_mul,Nat.testBit_mod_two_pow];by_cases h:i<k
 ·simp [h,Nat.not_le.2 h]
 ·have h':k<=i:=by omega
  simp only [h,h',decide_true,decide_false,Bool.true_and,Bool.false_and,Bool.xor_false];rw [Nat.testBit_div_two_pow]
  congr 1;omega
def Zt (c:Nat):nb c=bsN 4 c:=by
 have h:=ki 4 c
 conv=>rhs;rw [h]
 rw [Je,vB,Ny _ (by omega)];rfl
def R7 (r b:Nat):stepN r b=bsN 8 (r^^^b):=by
 unfold stepN;rw [Zt,Zt,<-qL 4 4]
def Gs (k y b:Nat):bsN k y^^^b=bsN k (y^^^(2^k*b)):=by rw [Je,vB]
def Gt (x:Nat) (h:x<4294967296):x=((x%256^^^(2^8*(x/256%256)))^^^(2^16*(x/65536%256)))^^^(2^24*(x/16777216%256)):=by
 have e1:=ki 8 (x%2^16);have e2:=ki 16 (x%2^24);have e3:=ki 24 x;rw [show x%2^16/2^8=x/256%256 by omega,show x%2^16%2^8=x%256 by omega] at e1;rw [show x%2^24/2^16=x/65536%256 by omega,show x%2^24%2^16=x%2^16 by omega] at e2;rw [show x/2^24=x/16777216%256 by omega] at e3
 conv=>lhs;rw [e3,e2,e1]
 rw [dj,dj (2^16*_),dj (2^8*_)]
def Gu (x:Nat) (h:x<4294967296):sumL [x%256,x/256%256,x/65536%256,x/16777216%256]=B8 x:=by
 unfold sumL B8;simp only [List.foldl_cons,List.foldl_nil,R7,gT];rw [Gs 8 (4294967295^^^x%256),<-qL 8 8,Gs (8+8) _ (x/65536%256),<-qL (8+8) 8,Gs (8+8+8) _ (x/16777216%256),<-qL (8+8+8) 8,dj 4294967295 (bsN _ _)]
 congr 2
 conv=>rhs;rw [Gt x h]
 simp only [cF,Nat.reduceAdd]
def acl (c:Nat) (h:c<4294967296):bs c<4294967296:=by
 unfold bs;split
 ·exact ch (n:=32) (by omega) (by omega)
 ·omega
def aaX:∀(n c:Nat),c<4294967296->bsN n c<4294967296:=by
 intro n
 induction n with
 |zero=>intro c h;exact h
 |succ n ih=>intro c h;exact ih _ (acl c h)
def Jf (x:Nat) (h:x<4294967296):B8 x<4294967296:=
 ch (n:=32) (aaX 32 _ (ch (n:=32) (by omega) h)) (by omega)
def zz (i:Nat):nibN i<4294967296:=by
 by_cases h:i<16
 ·have:∀r:Fin 16,nibN r.1<4294967296:=by decide
  exact this ⟨i,h⟩
 ·unfold nibN;rw [List.getD_eq_getElem?_getD,List.getElem?_eq_none (by simp;omega)];decide
def R8 (c:Nat) (h:c<4294967296):nb c<4294967296:=ch (n:=32) (by omega) (zz _)
def r9 (r b:Nat) (h:r<4294967296) (hb:b<256):stepN r b<4294967296:=R8 _ (R8 _ (ch (n:=32) h (by omega)))
end Go.Proofs.YtmpehclnnjgmcaaGreatDoor
namespace Go.Proofs.YtmpehclnnjgmcaaGreatDoor
open Go Go.Sh
def lE (i:Nat):Int:=([3,7,15,31,60]:List Int).getD i 0
structure bq (w:an):Prop where
 pay:∀i,i<5->w.cell? ⟨0,i,none⟩=some (.int .i64 (lE i))
 nib:∀i,i<16->w.cell? ⟨1,i,none⟩=some (.int .u32 (nibN i))
def wordsS (c:Int):Int:=if 0<=c/\c<5 then lE c.toNat else 0
def Xt (i:Nat) (h:i<5):3<=lE i/\lE i<=60:=by
 rcases i with _|_|_|_|_|i<;>first|(simp [lE];done)|omega
def aW {c:Int} (h0:0<=c) (h1:c<5):wordsS c=lE c.toNat/\3<=wordsS c/\wordsS c<=60:=by
 unfold wordsS;rw [if_pos ⟨h0,h1⟩];exact ⟨rfl,Xt _ (by omega)⟩
def gh {c:Int} (h:¬(0<=c/\c<5)):wordsS c=0:=by unfold wordsS;rw [if_neg h]
def Xu (off:Nat) (w:an) (K:K1) (h1:off<18446744073709551616):ad prog 171 #[.int .u64 off] w K=K (.int .u64 ((off-off%64:Nat):Int)) w:=by
 refine ao (by kernel_rfl) (Np _ _ _ ?_) K;unfold RH;simp (disch:=first|omega|simp only [RO]) only [↓RA,↓reduceIte,Nat.reduceAdd,Nat.reduceMul,Nat.reduceEqDiff,RB]
def qM (c:Int) (w:an) (K:K1) (hG:bq w):ad prog 85 #[.int .i64 c] w K=K (.int .i64 (wordsS c)) w:=by
 refine ao (by kernel_rfl) (Rr _ _ _ ?_) K;unfold Zs;by_cases h0:c<0
 ·simp (disch:=first|omega|simp only [RO]) only [↓RA,↓reduceIte,Nat.reduceAdd,Nat.reduceMul,Nat.reduceEqDiff,RB,gh]
 ·by_cases h1:5<=c
  ·simp (disch:=first|omega|simp only [RO]) only [↓RA,↓reduceIte,Nat.reduceAdd,Nat.reduceMul,Nat.reduceEqDiff,RB,gh]
  ·simp (disch:=first|omega|simp only [RO]) only [↓RA,↓reduceIte,Nat.reduceAdd,Nat.reduceMul,Nat.reduceEqDiff,RB,hG.pay,(aW (c:=c) (by omega) (by omega)).1]
def perS (c:Int):Int:=if wordsS c=0 then 0 else 248/(wordsS c+1)
def bY (c:Int) (w:an) (K:K1) (hG:bq w):ad prog 135 #[.int .i64 c] w K=K (.int .i64 (perS c)) w:=by
 refine ao (by kernel_rfl) (Nd _ _ _ ?_) K;unfold Rt;by_cases h:0<=c/\c<5
 ·have hw:=aW h.1 h.2;have e:perS c=248/(wordsS c+1):=by unfold perS;rw [if_neg (by omega)]
  simp (disch:=first|omega|simp only [RO]) only [↓RA,↓reduceIte,Nat.reduceAdd,Nat.reduceMul,Nat.reduceEqDiff,RB,qM c w _ hG,e]
 ·have hw:=gh h;have e:perS c=0:=by unfold perS;rw [if_pos hw]
  simp (disch:=first|omega|simp only [RO]) only [↓RA,↓reduceIte,Nat.reduceAdd,Nat.reduceMul,Nat.reduceEqDiff,RB,qM c w _ hG,hw,e]
section
variable {w w':an} {Y:Lay} {D D':DS}
def Jg (h:Dv w Y D) (K:K1):ad prog 106 #[.pointer (some ⟨Y.d,0,none⟩)] w K=K (.int .i64 (D.n:Int)) w:=by
 refine ao (by kernel_rfl) (MY _ _ _ ?_) K;unfold Rd
 (repeat' first|refine ak (λ_=> ?_) (λ_=> ?_)|refine am ?_ ?_|refine zS1 h.R ?_|exact yS1 h.R|fail)
def kl (h:Dv w Y D) (g:aH D) (K:K1):ad prog 52 #[.pointer (some ⟨Y.d,0,none⟩)] w K=K (.int .u64 ((D.n*64:Nat):Int)) w:=by
 refine ao (by kernel_rfl) (QQ _ _ _ ?_) K;unfold Ze;have:=g.n
 (repeat' first|refine ak (λ_=> ?_) (λ_=> ?_)|refine am ?_ ?_|refine zS1 (Jg h) ?_|exact yS1 (Jg h)|fail)
def fD (D:DS) (off:Nat):Bool:=decide (off%8=0)&&decide (off<D.n*64)
def zB (h:Dv w Y D) (g:aH D) (id:Nat) (a:id<8) (off:Nat) (K:K1):ad prog 87 #[.pointer (some ⟨Y.tb id,0,none⟩),.int .u64 (off:Int)] w K=K (.bool (fD D off)) w:=by
 refine ao (by kernel_rfl) (QV _ _ _ _ ?_) K;unfold Zk fD
 (repeat' first|refine ak (λ_=> ?_) (λ_=> ?_)|refine am ?_ ?_|refine zS2 h.R (kl h g) ?_|exact yS2 h.R (kl h g)|fail)
def R9 (h:Dv w Y D) (id:Nat) (a:id<8) (ho:D.off=false) (K:K1):ad prog 89 #[.pointer (some ⟨Y.tb id,0,none⟩),.bool true] w K=K (.bool true) w:=by
 refine ao (by kernel_rfl) (B4 _ _ _ _ ?_) K;unfold QY
 (repeat' first|refine ak (λ_=> ?_) (λ_=> ?_)|refine am ?_ ?_|refine zS2 h.R ho ?_|exact yS2 h.R ho|fail)
def jC (h:Dv w Y D) (g:aH D) (id:Nat) (a:id<8) (ho:D.off=false) (off:Nat) (h1:off%8=0) (h2:off<D.n*64) (K:K1):ad prog 32 #[.pointer (some ⟨Y.tb id,0,none⟩),.int .u64 (off:Int)] w K=K (.int .u64 (D.cur (off/8):Int)) w:=by
 refine ao (by kernel_rfl) (B3 _ _ _ _ ?_) K;unfold QN;have hv:fD D off=true:=by simp [fD,h1,h2]
 have:=g.n
 (repeat' first|refine ak (λ_=> ?_) (λ_=> ?_)|refine am ?_ ?_|refine zS4 h.R (zB h g id a) (R9 h id a ho) hv ?_|exact yS4 h.R (zB h g id a) (R9 h id a ho) hv|fail)
def cM (h:Dv w Y D) (id:Nat) (a:id<8) (K:K1):ad prog 28 #[.pointer (some ⟨Y.tb id,0,none⟩)] w K=K (.int .i64 (D.err id)) w:=by
 refine ao (by kernel_rfl) (QL _ _ _ ?_) K;unfold Za
 (repeat' first|refine ak (λ_=> ?_) (λ_=> ?_)|refine am ?_ ?_|refine zS1 h.R ?_|exact yS1 h.R|fail)
def km (h:Dv w Y D) (g:aH D) (id:Nat) (a:id<8) (K:K1):ad prog 105 #[.pointer (some ⟨Y.tb id,0,none⟩)] w K=K (.int .u64 ((D.n*64:Nat):Int)) w:=by
 refine ao (by kernel_rfl) (MX _ _ _ ?_) K;unfold Rc
 (repeat' first|refine ak (λ_=> ?_) (λ_=> ?_)|refine am ?_ ?_|refine zS2 h.R (kl h g) ?_|exact yS2 h.R (kl h g)|fail)
def jD (h:Dv w Y D) (id:Nat) (a:id<8) (K:K1):ad prog 50 #[.pointer (some ⟨Y.d,0,none⟩),.int .i64 (id:Int)] w K=K (.pointer (some ⟨Y.dt id,0,none⟩)) w:=by
 refine ao (by kernel_rfl) (QP _ _ _ _ ?_) K;unfold Zd;have e:3+id-3=id:=oM
 (repeat' first|refine ak (λ_=> ?_) (λ_=> ?_)|refine am ?_ ?_|refine zS2 h.R e ?_|exact yS2 h.R e|fail)
end
def cv:ElT prog 79 79 98 2 16 (.agg #[.int .u64 0,.int .u64 0]):=⟨by kernel_rfl,by kernel_rfl,by kernel_rfl,by kernel_rfl,by decide⟩
def bJ (a b:List (Nat×Nat)):wrL (a++b)=wrL a++wrL b:=by
 induction a with
 |nil=>rfl
 |cons x a ih=>obtain ⟨o,v⟩:=x;simp [wrL,ih]
def se (a:List (Nat×Nat)):(wrL a).length=a.length*2:=by
 induction a with
 |nil=>rfl
 |cons x a ih=>obtain ⟨o,v⟩:=x;simp [wrL,ih];omega
def DS.write (D:DS) (off v:Nat):DS:={D with hist:=λj=>if j=off/64 then D.hist (off/64)++ [(off,v)] else D.hist j,cur:=λj=>if j=off/8 then v else D.cur j}
section
variable {w w':an} {Y:Lay} {D D':DS}
def Xv (h:Dv w Y D) (g:aH D) (id:Nat) (d:id<8) (off v:Nat) (h1:off%8=0) (h2:off<D.n*64) (hx:D.exe<1099511627776) (K:K1) (hK:∀w' Y',Stp w Y w' Y' (D.write off v)->K (.tuple #[]) w'):ad prog 88 #[.pointer (some ⟨Y.tb id,0,none⟩),.int .u64 (off:Int),.int .u64 (v:Int)] w K:=by
 refine QW _ _ _ _ _ ?_;unfold Zl;have:=g.n;have hl:off/64<D.n:=oM;have hc:=g.cnt (off/64) hl;refine zS1 h.R ?_;have h':=h.ext (Ext.alloc_self w (.cells #[.int .u64 (off:Int),.int .u64 (v:Int)] 98));refine ck cv (h'.hs _ hl) (news:= [u64 off,u64 v]) (by simp) ?_ rfl oM oM oM (λv' w' hv hf hn _=> ?_)
 ·intro j u hj;rw [fe,aO _ _ _ _ _ rfl];simpa [u64] using hj
 have hs:=h'.setHist (off/64) hl v' (D.hist (off/64)++ [(off,v)]) (by rw [bJ];simpa [wrL] using hv) hf hn;have a:=(h'.li.frm hf (λe=>by have:=h'.inj (.hs (off/64)) .li Y.lb (by simp only [Lay.blk];rw [if_pos (by have:=h'.yn;omega)];exact e) rfl;cases this));have c1:=a.cell (i:=off/64*2+1) oM;have o1:aj v'=true:=by rcases hv.2 with ⟨rfl,_⟩|⟨_,_,_,_,rfl,_⟩<;>rfl
 have c2:=hs.dv.c_cur (off/8) (by show off/8<8*D.n;omega);refine zS6 c1 c2 a.frz o1 hs.dv.R hs.dv.R ?_;have c:=(Stp.pre (Ext.alloc_self w _) (λb hb=>h.lt hb) hs).trans (hs.dv.setCur (off/8) v (by show off/8<8*D.n;omega));exact hK _ _ c
def DS.store (D:DS) (id off v:Nat):DS:=if D.runs (fD D off)=true then (D.counted id (fD D off)).write off v else D.counted id (fD D off)
def DS.fail_n (D:DS) (id:Nat) (e:Int):(D.fail id e).n=D.n:=by unfold DS.fail;split<;>rfl
def DS.counted_run {D:DS} {id:Nat} {v:Bool} (h:D.runs v=true):D.counted id v=if D.armed=true then {D with left:=D.left-1,exe:=D.exe+1} else {D with exe:=D.exe+1}:=by
 simp only [DS.runs,eq,f8,Bool.and_eq_false_iff] at h;obtain ⟨⟨h1,h2⟩,h3⟩:=h;unfold DS.counted;rw [if_neg (by simp [h1]),if_neg (by simp [h2])];by_cases ha:D.armed=true
 ·rw [if_pos ha,if_pos ha];have:¬D.left=0:=by rcases h3 with h3|h3<;>simp_all
  rw [if_neg this]
 ·rw [if_neg ha,if_neg ha]
def aH.fail (g:aH D) (id:Nat) (e:Int):aH (D.fail id e):=by
 unfold DS.fail;split
 ·exact ⟨g.n0,g.n,g.cur,g.pers,g.hist,g.cnt,g.left,g.notes⟩
 ·exact g
def aH.counted (g:aH D) (id:Nat) (v:Bool):aH (D.counted id v):=by
 unfold DS.counted;have hc:∀l,l<D.n->D.done l+(D.hist l).length<=D.exe+1:=λl hl=>Nat.le_succ_of_le (g.cnt l hl)
 have hl:=g.left;split
 ·exact g.fail _ _
 ·split
  ·exact g.fail _ _
  ·split
   ·split
    ·exact aH.fail (D:={D with off:=true}) ⟨g.n0,g.n,g.cur,g.pers,g.hist,g.cnt,g.left,g.notes⟩ _ _
    ·exact ⟨g.n0,g.n,g.cur,g.pers,g.hist,hc,⟨by show 0<=D.left-1;omega,by show D.left-1<_;omega⟩,g.notes⟩
   ·exact ⟨g.n0,g.n,g.cur,g.pers,g.hist,hc,g.left,g.notes⟩
def DS.counted_n (D:DS) (id:Nat) (v:Bool):(D.counted id v).n=D.n:=by
 unfold DS.counted;split
 ·exact D.fail_n _ _
 ·split
  ·exact D.fail_n _ _
  ·split
   ·split
    ·exact DS.fail_n _ _ _
    ·rfl
   ·rfl
def DS.counted_exe (D:DS) (id:Nat) (v:Bool):(D.counted id v).exe<=D.exe+1:=by
 have hf:∀(D:DS) e,(D.fail id e).exe=D.exe:=by intro D e;unfold DS.fail;split<;>rfl
 unfold DS.counted;split
 ·rw [hf];omega
 ·split
  ·rw [hf];omega
  ·split
   ·split
    ·rw [hf];show D.exe<=_;omega
    ·exact bd _
   ·exact bd _
def aH.write (g:aH D) (off v:Nat) (h1:off%8=0) (h2:off<D.n*64) (hv:v<18446744073709551616) (hc:∀l,l<D.n->D.done l+(D.hist l).length+1<=D.exe):aH (D.write off v):=by
 refine ⟨g.n0,g.n,?_,g.pers,?_,?_,g.left,?_⟩
 ·intro i hi;show (if i=off/8 then v else D.cur i)<_;split
  ·exact hv
  ·exact g.cur i hi
 ·intro l hl o x hx;have a:(o,x)∈(if l=off/64 then D.hist (off/64)++ [(off,v)] else D.hist l):=hx;split at a
  ·rename_i e;rcases List.mem_append.1 a with h|h
   ·have:=g.hist _ (by show off/64<D.n;omega) o x h;omega
   ·simp at h;obtain ⟨rfl,rfl⟩:=h;exact ⟨h1,e.symm,hv⟩
  ·exact g.hist l hl o x a
 ·intro l hl;show D.done l+(if l=off/64 then D.hist (off/64)++ [(off,v)] else D.hist l).length<=D.exe;have:=hc l hl;split
  ·rename_i e;subst e;simp;omega
  ·omega
 ·intro id b k p hk;have:=g.notes id b k p hk;refine ⟨this.1,this.2.1,?_⟩;show p<=D.done k.toNat+(if k.toNat=off/64 then D.hist (off/64)++ [(off,v)] else D.hist k.toNat).length;split
  ·rename_i e;rw [<-e];simp;omega
  ·exact this.2.2
def DS.counted_hist {D:DS} {id:Nat} {v:Bool} (h:D.runs v=true):(D.counted id v).hist=D.hist/\(D.counted id v).done=D.done/\(D.counted id v).exe=D.exe+1/\(D.counted id v).cur=D.cur/\(D.counted id v).pers=D.pers/\(D.counted id v).notes=D.notes/\(D.counted id v).off=D.off/\(D.counted id v).err=D.err:=by
 rw [DS.counted_run h];split<;>exact ⟨rfl,rfl,rfl,rfl,rfl,rfl,rfl,rfl⟩
def zC {D:DS} {v:Bool} (h:D.runs v=true):v=true/\D.off=false:=by
 simp only [DS.runs,eq,f8] at h;exact ⟨h.1.2,h.1.1⟩
def Ca {D:DS} {off:Nat} (h:fD D off=true):off%8=0/\off<D.n*64:=by simpa [fD] using h
def aH.store (g:aH D) (id off v:Nat) (hv:v<18446744073709551616):aH (D.store id off v):=by
 unfold DS.store;split
 ·rename_i hr;obtain ⟨h1,h2⟩:=Ca (zC hr).1;have:=DS.counted_hist (id:=id) hr;refine (g.counted id _).write off v h1 (by rw [DS.counted_n];exact h2) hv ?_;intro l hl;rw [DS.counted_n] at hl;rw [this.1,this.2.1,this.2.2.1];have:=g.cnt l hl;omega
 ·exact g.counted id _
def Jh (h:Dv w Y D) (g:aH D) (id:Nat) (a:id<8) (off v:Nat) (hx:D.exe<1099511627775) (K:K1) (hK:∀w' Y',Stp w Y w' Y' (D.store id off v)->K (.tuple #[]) w'):ad prog 30 #[.pointer (some ⟨Y.tb id,0,none⟩),.int .u64 (off:Int),.int .u64 (v:Int)] w K:=by
 refine QM _ _ _ _ _ ?_;unfold Zb;refine zS2 h.R (zB h g id a) ?_;refine oq h id a (fD D off) oM g.left.1 g.left.2 _ (λw1 h1=> ?_);unfold DS.store at hK
 (repeat' first|refine ak (λ_=> ?_) (λ_=> ?_)|refine am ?_ ?_|refine zS0 ?_|exact yS0|fail)
 ·rename_i hr;rw [if_pos hr] at hK;obtain ⟨e1,e2⟩:=Ca (zC hr).1;have hn:=DS.counted_hist (id:=id) hr;refine Xv h1.dv (g.counted id _) id a off v e1 (by rw [DS.counted_n];exact e2) (by rw [hn.2.2.1];omega) _ (λw2 Y2 h2=> ?_);exact hK _ _ (h1.trans h2)
 ·rename_i hr;rw [if_neg hr] at hK;exact hK _ _ h1
end
def aD (l:List (Nat×Nat)) (f:Nat->Nat):Nat->Nat:=l.foldl (λf x=>λj=>if j=x.1/8 then x.2 else f j) f
def qf (l:List (Nat×Nat)) (x:Nat×Nat) (f:Nat->Nat):aD (l++ [x]) f=λj=>if j=x.1/8 then x.2 else aD l f j:=by simp [aD,f4]
def iZ:∀(l:List (Nat×Nat)) (i:Nat) (x:Nat×Nat),l[i]? =some x->(wrL l)[i*2]? =some (.int .u64 (x.1:Int))/\(wrL l)[i*2+1]? =some (.int .u64 (x.2:Int)):=by
 intro l
 induction l with
 |nil=>intro i x h;simp at h
 |cons y l ih=>
  intro i x h;obtain ⟨o,v⟩:=y
  cases i with
  |zero=>simp at h;subst h;exact ⟨rfl,rfl⟩
  |succ i=>
   have:=ih i x (by simpa using h);simp only [wrL,show (i+1)*2=i*2+1+1 by omega,eF];exact this
def cG {α:Type} {l:List α} {k:Nat} {x:α} (h:l[k]? =some x):l.take (k+1)=l.take k++ [x]:=by
 have hk:=(List.getElem?_eq_some_iff.1 h).1;rw [List.take_succ_eq_append_getElem hk];congr 2;simpa [cw hk] using h
section
variable {w w':an} {Y:Lay} {D D':DS}
def Xw (h:Dv w Y D) (g:aH D) (l k b o len cap:Nat) (hl:l<D.n) (hv:Y.hv l= .slice (some ⟨b,o,none⟩) len cap) (hk:k<=(D.hist l).length) (d:(D.hist l).length<1099511627776) (K:K1) (hK:∀w',Stp w Y w' Y {D with pers:=aD ((D.hist l).take k) D.pers}->Frm (λb=>b=Y.pb) w w'->K (.tuple #[]) w'):
  ad prog 150 #[.slice (some ⟨Y.pb,0,none⟩) (8*D.n) Y.pc,.slice (some ⟨b,o,none⟩) k cap] w K:=by
 refine vx _ _ _ _ ?_;unfold Gm;refine zS0 ?_;apply my (I:=λx8 w'=>∃j:Nat,x8= .int .i64 (j:Int)/\j<=k/\Stp w Y w' Y {D with pers:=aD ((D.hist l).take j) D.pers}/\Frm (λb=>b=Y.pb) w w') (μ:=λx8 _=>k-(intOf x8).toNat)
 ·exact ⟨0,rfl,by omega,Stp.refl h,Frm.refl _ _⟩
 ·intros;rename_i w1 hI E1 hE;obtain ⟨j,rfl,hj,hs,a⟩:=hI;unfold kh;have hn:=g.n;by_cases hjk:j<k
  ·have c:j<(D.hist l).length:=oM;obtain ⟨x,hx⟩:∃x,(D.hist l)[j]? =some x:=⟨_,cw c⟩;have hw:=iZ _ _ _ hx;have hS:=hs.dv.hs l hl;have c1:=hS.cell hv hw.1;have c2:=hS.cell hv hw.2;have hg:=g.hist l hl x.1 x.2 (d8 hx);have bp:=hs.dv.pe.lt;have c3:=hs.dv.c_pers (x.1/8) (by show _<8*D.n;omega);rw [<-e8] at c2;refine zS4 hs.dv.R c1 c2 c3 ?_;apply hE
   ·refine ⟨j+1,by simp,by omega,?_,(a.set _ (λ_=>rfl)).alloc _⟩;rw [cG hx,qf];exact (hs.trans (hs.dv.setPers (x.1/8) x.2 (by show _<8*D.n;omega))).grow (Ext.alloc_self _ _)
   ·simp [intOf];omega
  ·have:j=k:=oM;subst this;refine zS0 ?_;exact hK _ hs a
def DS.persist (D:DS) (l k:Nat):DS:={D with pers:=aD ((D.hist l).take k) D.pers,done:=λj=>if j=l then D.done l+k else D.done j,hist:=λj=>if j=l then (D.hist l).drop k else D.hist j}
def Sa (k:Nat) (l:List (Nat×Nat)):wrL (l.drop k)=(wrL l).drop (k*2):=by
 induction k generalizing l with
 |zero=>simp
 |succ k ih=>
  cases l with
  |nil=>simp [wrL]
  |cons x l=>obtain ⟨o,v⟩:=x;simp only [List.drop_succ_cons,ih,wrL,show (k+1)*2=k*2+1+1 by omega]
def Nz (h:Dv w Y D) (g:aH D) (l k:Nat) (hl:l<D.n) (h0:0<k) (hk:k<=(D.hist l).length) (hx:D.exe<1099511627776) (K:K1) (hK:∀w' Y',Stp w Y w' Y' (D.persist l k)->Frm (λb=>b=Y.pb\/b=Y.lb) w w'->K (.tuple #[]) w'):
  ad prog 147 #[.pointer (some ⟨Y.d,0,none⟩),.int .i64 (l:Int),.int .i64 (k:Int)] w K:=by
 have hn:=g.n;have hc:=g.cnt l hl;have hS:=h.hs l hl;obtain ⟨b,o,cap,hv,p⟩:=hS.isS (fF h0 hk);have r1:=λw k'=>ah (P:=prog) (ge cv b o (D.hist l).length cap .i64 k w oM) k'
 have r2:=λw k'=>aa (P:=prog) (iY cv b o (D.hist l).length cap .i64 k w hk) k'
 have c1:=h.c_hist l hl;rw [hv] at c1;refine M7 _ _ _ _ _ ?_;unfold Rg;refine zS3 h.R hv r1 ?_;have hd:=h.ext (Ext.refl w).drew;refine Xw hd g l k b o _ cap hl hv hk oM _ (λw1 h1 m=> ?_);have f:Frm (λb=>b=Y.pb\/b=Y.lb) w w1:=(Frm.of_ext (Ext.refl w).drew).trans (m.mono (λb hb=> .inl hb)) (λ_ _ h=>h);have a:=Stp.pre (Ext.refl w).drew (λb hb=>h.lt hb) h1;have c2:=a.dv.c_done l hl;have c3:=a.dv.c_hist l hl;rw [hv] at c3;refine zS2 a.dv.R c2 ?_;have h2:=a.trans (a.dv.setDone l (D.done l+k) hl);have c4:=h2.dv.c_hist l hl;have q:=h2.dv.c_done l hl;rw [hv] at c4;refine zS3 h2.dv.R hv r2 ?_;have i:=h2.dv.hs l hl;rw [hv] at i;have hd2:=i.drop (k:=k) hk;have h3:=h2.trans (h2.dv.setHist l hl _ ((D.hist l).drop k) (by rw [Sa,dm];exact hd2) (Frm.refl _ _) (λb' c=> .inl (by rw [hv];exact c)));have c5:=h3.dv.c_hist l hl;simp only [if_true] at c5
 (repeat' first|refine ak (λ_=> ?_) (λ_=> ?_)|refine am ?_ ?_|refine zS2 h3.dv.R c5 ?_|exact yS2 h3.dv.R c5|fail)
 ·rename_i e;have e':(D.hist l).drop k= []:=ep (by rw [dm];omega);have h4:=h3.trans (h3.dv.setHist l hl (.slice none 0 0) [] (SlO.nil _ _ _) (Frm.refl _ _) (λb' c=>by cases c));refine hK _ _ (h4.to ?_) (((f.set _ (λ_=> .inr rfl)).set _ (λ_=> .inr rfl)).set _ (λ_=> .inr rfl));unfold DS.persist;simp only [DS.mk.injEq,true_and,and_true];funext j;by_cases hj:j=l
  ·simp [hj,e']
  ·simp [hj]
 ·refine hK _ _ (h3.to ?_) ((f.set _ (λ_=> .inr rfl)).set _ (λ_=> .inr rfl));unfold DS.persist;simp only [DS.mk.injEq,true_and,and_true]
end
def DS.note (D:DS) (id:Nat) (k:Int) (p:Nat):DS:={D with notes:=λj=>if j=id then (λi=>if i=k then some p else D.notes id i) else D.notes j}
def fg (D:DS) (off:Nat):Bool:=decide (off<D.n*64)
def DS.flush (D:DS) (id off:Nat):DS:=if D.runs (fg D off)=true then (D.counted id (fg D off)).note id ((off/64:Nat):Int) (D.done (off/64)+(D.hist (off/64)).length) else D.counted id (fg D off)
def aaY:MN prog 145=true:=by kernel_rfl
section
variable {w w':an} {Y:Lay} {D D':DS}
def aH.note (g:aH D) (id:Nat) (l p:Nat) (hl:l<D.n) (hp:p<=D.done l+(D.hist l).length):aH (D.note id (l:Int) p):=by
 refine ⟨g.n0,g.n,g.cur,g.pers,g.hist,g.cnt,g.left,?_⟩;intro j hj k q hk;have a:(if j=id then (λi=>if i=(l:Int) then some p else D.notes id i) else D.notes j) k=some q:=hk;by_cases e1:j=id
 ·by_cases e2:k=(l:Int)
  ·simp only [e1,e2,if_true,Option.some.injEq] at a;subst e2;subst a;exact ⟨Int.natCast_nonneg _,by show (l:Int)<(D.n:Int);omega,by show p<=D.done (l:Int).toNat+(D.hist (l:Int).toNat).length;simpa using hp⟩
  ·simp only [e1,e2,if_true,if_false] at a;subst e1;exact g.notes j hj k q a
 ·simp only [e1,if_false] at a;exact g.notes j hj k q a
def aH.flush (g:aH D) (id off:Nat):aH (D.flush id off):=by
 unfold DS.flush;split
 ·rename_i hr;have hv:=(zC hr).1;have hn:=DS.counted_hist (id:=id) hr;simp only [fg,decide_eq_true_eq] at hv;refine (g.counted id _).note id _ _ (by rw [DS.counted_n];omega) ?_;rw [hn.1,hn.2.1];exact bd _
 ·exact g.counted id _
def Ji (h:Dv w Y D) (g:aH D) (id:Nat) (k:id<8) (off:Nat) (hx:D.exe<1099511627775) (K:K1) (hK:∀w',Stp w Y w' Y (D.flush id off)->K (.tuple #[]) w'):ad prog 101 #[.pointer (some ⟨Y.tb id,0,none⟩),.int .u64 (off:Int)] w K:=by
 refine MT _ _ _ _ ?_;unfold Q8;unfold DS.flush at hK;have hn:=g.n;refine zS2 h.R (kl h g) ?_;refine oq h id k (fg D off) oM g.left.1 g.left.2 _ (λw1 h1=> ?_);by_cases hr:D.runs (fg D off)=true
 ·rw [if_pos hr] at hK;have hv:=(zC hr).1;simp only [fg,decide_eq_true_eq] at hv;have hc:=DS.counted_hist (id:=id) hr;have l:=DS.counted_n D id (fg D off);have s:=g.cnt (off/64) oM;have hl:off/64<(D.counted id (fg D off)).n:=by rw [l];omega
  have c1:=h1.dv.c_done (off/64) hl;have hS:=h1.dv.hs (off/64) hl;have c2:=h1.dv.c_hist (off/64) hl;have ln:∃a cap,Y.hv (off/64)= .slice a (D.hist (off/64)).length cap:=by
   rw [hc.1] at hS;rcases hS.2 with ⟨e,e2⟩|⟨b,o,cap,a,e,_⟩
   ·rw [e,e2];exact ⟨_,_,rfl⟩
   ·exact ⟨_,_,e⟩
  obtain ⟨a,cap,j⟩:=ln;rw [hc.2.1] at c1;rw [j] at c2;refine zS6 hr h1.dv.R l hc.2.1 j j ?_;obtain ⟨es,c,hm⟩:=h1.dv.nt id k;refine za aaY (hm.of_heap (w':=w1.drew) rfl) _ _ (λw2 r c2 d f=> ?_);have m:Frm (λb=>b=Y.nb id) w1 w2:=⟨f.os,f.tape,f.output,f.size,f.block⟩;have q:lz w2 (Y.nb id) r c2 (λi=>((if i=((off/64:Nat):Int) then some (D.done (off/64)+(D.hist (off/64)).length) else (D.counted id (fg D off)).notes id i):Option Nat).map u64):=by
   refine ⟨d.1,d.2.1,d.2.2.1,d.2.2.2.1,d.2.2.2.2.1,?_⟩;intro i v;have:=d.2.2.2.2.2 i v;rw [<-this];show ((if i=((off/64:Nat):Int) then some (D.done (off/64)+(D.hist (off/64)).length) else (D.counted id (fg D off)).notes id i):Option Nat).map u64=some v↔(if i=((off/64:Nat):Int) then some _ else ntF (D.counted id (fg D off)) id i)=some v;by_cases e:i=((off/64:Nat):Int)
   ·rw [if_pos e,if_pos e];exact Iff.rfl
   ·rw [if_neg e,if_neg e];exact Iff.rfl
  exact hK _ (h1.trans (h1.dv.setNote id k _ q m))
 ·rw [if_neg hr] at hK;have p:D.runs (fg D off)=false:=by simpa using hr
  refine zS1 p ?_;exact hK _ h1
def DS.parts (D:DS) (kk:Nat->Nat):DS:={D with pers:=λx=>aD ((D.hist (x/8)).take (kk (x/8))) D.pers x,done:=λl=>D.done l+kk l,hist:=λl=>(D.hist l).drop (kk l)}
def bQ (x:Nat×Nat) (l:List (Nat×Nat)) (f:Nat->Nat):aD (x::l) f=aD l (λj=>if j=x.1/8 then x.2 else f j):=rfl
def mz (l:List (Nat×Nat)):∀(f g:Nat->Nat) (x:Nat),f x=g x->aD l f x=aD l g x:=by
 induction l with
 |nil=>intro f g x h;exact h
 |cons y l ih=>
  intro f g x h;rw [bQ,bQ];exact ih _ _ x (by simp [h])
def bi (l:List (Nat×Nat)):∀(f:Nat->Nat) (x:Nat),(∀y∈l,y.1/8≠x)->aD l f x=f x:=by
 induction l with
 |nil=>intro f x h;rfl
 |cons y l ih=>
  intro f x h;rw [bQ,ih _ x (λz hz=>h z (d9 _ hz))];have:=h y ef;simp [Ne.symm this]
def uz (g:aH D) (kk:Nat->Nat) (l k:Nat) (hl:l<D.n) (h0:kk l=0):(D.parts kk).persist l k=D.parts (λj=>if j=l then k else kk j):=by
 unfold DS.persist DS.parts;simp only [DS.mk.injEq,true_and,and_true,h0,List.drop_zero,g7];refine ⟨?_,?_,?_⟩
 ·funext x;by_cases hx:x/8=l
  ·simp only [hx,if_true];exact mz _ _ _ _ (by simp [hx,h0,aD])
  ·simp only [hx,if_false];rw [bi];intro y hy e;have:=g.hist l hl y.1 y.2 (d7 hy);apply hx;omega
 ·funext j;by_cases hj:j=l
  ·simp [hj]
  ·simp [hj]
 ·funext j;by_cases hj:j=l
  ·simp [hj]
  ·simp [hj]
def NA (l:List (Nat×Nat)):∀(f:Nat->Nat) (x:Nat),f x<18446744073709551616->(∀y∈l,y.2<18446744073709551616)->aD l f x<18446744073709551616:=by
 induction l with
 |nil=>intro f x h _;exact h
 |cons y l ih=>
  intro f x h hl;rw [bQ];refine ih _ x ?_ (λz hz=>hl z (d9 _ hz));have:=hl y ef;split
  ·exact this
  ·exact h
def aH.parts (g:aH D) (kk:Nat->Nat) (hk:∀l,l<D.n->kk l<=(D.hist l).length):aH (D.parts kk):=by
 refine ⟨g.n0,g.n,g.cur,?_,?_,?_,g.left,?_⟩
 ·intro i hi;refine NA _ _ _ (g.pers i hi) ?_;intro y hy;exact (g.hist (i/8) (by show i/8<D.n;have:i<8*D.n:=hi;omega) y.1 y.2 (d7 hy)).2.2
 ·intro l hl o v hv;exact g.hist l hl o v (List.mem_of_mem_drop hv)
 ·intro l hl;have:=g.cnt l hl;have h2:=hk l hl;show D.done l+kk l+((D.hist l).drop (kk l)).length<=D.exe;rw [dm];omega
 ·intro id a k p b;have:=g.notes id a k p b;refine ⟨this.1,this.2.1,?_⟩;have h2:=hk k.toNat oM;show p<=D.done k.toNat+kk k.toNat+((D.hist k.toNat).drop (kk k.toNat)).length;rw [dm];omega
def DS.due (D:DS) (id l:Nat):Nat:=
 match D.notes id (l:Int) with
 |some p=>p-D.done l
 |none=>0
def DS.clr (D:DS) (id:Nat):DS:={D with notes:=λj=>if j=id then (λ_=>none) else D.notes j}
def DS.fence (D:DS) (id:Nat):DS:=if D.runs true=true then ((D.counted id true).parts (D.due id)).clr id else D.counted id true
def Sb (g:aH D) (id l:Nat) (a:id<8):D.due id l<=(D.hist l).length:=by
 unfold DS.due
 cases h:D.notes id (l:Int) with
 |none=>simp
 |some p=>have:=(g.notes id a _ p h).2.2;simp at this;simp;omega
def aH.clr (g:aH D) (id:Nat):aH (D.clr id):=by
 refine ⟨g.n0,g.n,g.cur,g.pers,g.hist,g.cnt,g.left,?_⟩;intro j hj k p hk;have a:(if j=id then (λ_=>none) else D.notes j) k=some p:=hk;by_cases e:j=id
 ·simp [e] at a
 ·simp only [e,if_false] at a;exact g.notes j hj k p a
def aH.fence (g:aH D) (id:Nat) (a:id<8):aH (D.fence id):=by
 unfold DS.fence;split
 ·rename_i hr;have hn:=DS.counted_hist (id:=id) hr;refine ((g.counted id _).parts _ ?_).clr id;intro l hl;rw [hn.1];exact Sb g id l a
 ·exact g.counted id _
def Jj (es:Array MapEntry) (a:Array Nat):Nat:=(es.toList.filter λx=> !a.contains x.born).length
def NB {α:Type} {p q:α->Bool}:∀{l:List α},(∀x,q x=true->p x=true)->∀{x:α},x∈l->p x=true->q x=false->(l.filter q).length<(l.filter p).length:=by
 intro l
 induction l with
 |nil=>intro _ x hx;cases hx
 |cons a l ih=>
  intro c x hx hp hq;have d:(l.filter q).length<=(l.filter p).length:=by
   clear ih hx
   induction l with
   |nil=>simp
   |cons b l ih=>
    simp only [gg]
    cases hb:q b with
    |true=>rw [c b hb];simp;exact ih
    |false=>cases p b<;>simp<;>omega
  simp only [gg]
  cases hx with
  |head=>rw [hp,hq];simp;omega
  |tail _ hx=>
   have:=ih c hx hp hq
   cases ha:q a with
   |true=>rw [c a ha];simp;exact this
   |false=>cases p a<;>simp<;>omega
def Cb {es:Array MapEntry} {a:Array Nat} {x:MapEntry} (hx:x∈es.toList) (hs:x.born∉a):Jj es (a.push x.born)<Jj es a:=by
 refine NB ?_ hx (by simpa using hs) (by simp);intro y hy;simp at hy ⊢;intro h;exact hy.1 h
def itN (it:Nat) (es:Array MapEntry) (w:an):Nat:=
 match w.heap[it]? with
 |some (.mapIter _ _ seen _)=>Jj es seen
 |_=>0
def Jk (h:Dv w Y D) (g:aH D) (id:Nat) (r:id<8) (hx:D.exe<1099511627775) (K:K1) (hK:∀w' Y',Stp w Y w' Y' (D.fence id)->K (.tuple #[]) w'):ad prog 102 #[.pointer (some ⟨Y.tb id,0,none⟩)] w K:=by
 refine MU _ _ _ ?_;unfold Q9;unfold DS.fence at hK;refine zS1 h.R ?_;refine oq h id r true oM g.left.1 g.left.2 _ (λw1 h1=> ?_);by_cases hr:D.runs true=true
 ·rw [if_pos hr] at hK;have hc:=DS.counted_hist (id:=id) hr;have c9:=DS.counted_n D id true;have gc:=g.counted id true;have b0:(D.counted id true).exe<1099511627776:=by rw [hc.2.2.1];omega
  have c8:∀l,l<(D.counted id true).n->D.due id l<=((D.counted id true).hist l).length:=λl hl=>by rw [hc.1];exact Sb g id l r
  generalize hC:D.counted id true=C at*;obtain ⟨es,f,hm⟩:=h1.dv.nt id r;have r1:=Qw aaY hm.1;refine zS3 hr h1.dv.R r1 ?_;obtain ⟨it,O⟩:∃it,it=w1.heap.size:=⟨_,rfl⟩;rw [<-O];have a2:=hm.2.1;have a6:=hm.2.2.1;have X:=hm.2.2.2.2.1;have a3:=hm.2.2.2.2.2;have b2:=hm.2.2.2.1;apply zg (I:=λw'=>∃c B kk Y',w'.heap[it]? =some (.mapIter (some (Y.nb id)) f c B)/\f<=B/\Stp w Y w' Y' (C.parts kk)/\¬Y'.F it/\w'.heap[Y.nb id]? =some (.map es f)/\it<w'.heap.size/\(∀l,l<C.n->kk l<=(C.hist l).length)/\
   (∀x∈es.toList,∀l:Nat,x.key= .int .i64 (l:Int)->(x.born∈c->kk l=D.due id l)/\(x.born∉c->kk l=0))/\(∀l:Nat,(∀x∈es.toList,x.key≠ .int .i64 (l:Int))->kk l=0)) (μ:=λw'=>itN it es w')
  ·subst O;refine ⟨#[],f,λ_=>0,Y,aL _ _,bd _,(h1.grow (Ext.alloc_self _ _)).to ?_,λhF=> ?_,?_,?_,λl hl=>ft _,λx hx l hk=>⟨λhb=>by simp at hb,λ_=>rfl⟩,λl hl=>rfl⟩
   ·unfold DS.parts;simp [aD]
   ·have:=h1.dv.lt hF;omega
   ·rw [bg _ hm.lt];exact hm.1
   ·rw [size_alloc];omega
  ·intros;rename_i w2 hI E1 hE;obtain ⟨c,B,kk,Y',S,c2,hs,v,u,a1,L,V,A⟩:=hI;obtain ⟨J,rfl⟩:∃J,Y'={Y with hv:=J}:=⟨_,hs.y⟩;unfold vl;refine Xn S u a2 c2 ?_ ?_
   ·intro a9 w3 he;have h3:=hs.grow he;have d:=Ext.heap_some he u;have r2:=λty cs k=>MO (ty:=ty) (cs:=cs) aaY d k
    refine zS4 @Gc @vk.eq_1 h3.dv.R r2 ?_;have c5:kk=D.due id:=by
     funext l;by_cases hx:∃x∈es.toList,x.key= .int .i64 (l:Int)
     ·obtain ⟨x,hx,hk⟩:=hx;exact (V x hx l hk).1 (a9 x hx)
     ·rw [A l (λx c4 hk=>hx ⟨x,c4,hk⟩)];unfold DS.due
      cases hn:D.notes id (l:Int) with
      |none=>rfl
      |some p=>
       exfalso;apply hx;have:=(a3 (l:Int) (u64 p)).1 (by simp [ntF,hc.2.2.2.2.2.1,hn]);obtain ⟨x,hx,hk,_⟩:=this;exact ⟨x,hx,hk⟩
    rw [c5] at h3;have b8:lz (fB w3 (Y.nb id) (.map #[] f)) (Y.nb id) #[] f (λi=>((λ_=>none:Int->Option Nat) i).map u64):=lz.empty (gz d);exact hK _ _ (h3.trans (h3.dv.setNote id r (λ_=>none) b8 gf))
   ·intro x hx U w3 t b7 N;obtain ⟨i,o⟩:=X x hx;have b3:(C.notes id i).map u64=some x.val:=(a3 i x.val).2 ⟨x,hx,o,rfl⟩;have a0:∃p,C.notes id i=some p/\u64 p=x.val:=Option.map_eq_some_iff.1 b3;obtain ⟨p,hp,a5⟩:=a0;have G:=gc.notes id r i p hp;have W:∃l:Nat,i=(l:Int):=⟨i.toNat,(ec G.1).symm⟩;obtain ⟨l,W⟩:=W;rw [W] at o hp G;have hl:l<C.n:=Int.ofNat_lt.1 G.2.1;have H:kk l=0:=(V x hx l o).2 U;have a8:w.heap.size<=it:=by rw [O];exact h1.frm.size
    have s:Dv w3 {Y with hv:=J} (C.parts kk):=hs.dv.frm N (λb hb e=>v (by rw [<-e];exact hb));have h3:Stp w Y w3 {Y with hv:=J} (C.parts kk):=⟨s,rfl,hs.frm.trans N (λb hb e=>absurd (e▸hb) (Nat.not_lt.2 a8)),hs.fr⟩;have c3:Y.nb id≠it:=λe=>v ⟨.nt id,by simp [Lay.blk,r,e]⟩
    have d:w3.heap[Y.nb id]? =some (.map es f):=by rw [N.block _ (aF u) c3];exact u
    have r2:=λk=>Qx (P:=prog) t d a6 hx rfl k
    have hd:(C.parts kk).done l=C.done l:=by simp [DS.parts,H]
    have d1:=gc.n;have d2:=gc.cnt l hl;have d0:p<=C.done l+(C.hist l).length:=by simpa using G.2.2
    have a7:(C.parts kk).n=C.n:=rfl;have c1:=s.c_done l hl;rw [hd] at c1;have E:D.due id l=p-C.done l:=by
     have a4:=hp;rw [hc.2.2.2.2.2.1] at a4;unfold DS.due;rw [a4,hc.2.1]
    have b6:((C.parts kk).hist l).length=(C.hist l).length:=by simp [DS.parts,H]
    have m:it<w3.heap.size:=by rw [b7];exact a1
    have T:itN it es w2=Jj es c:=by unfold itN;rw [S]
    have Q:∀y∈es.toList,∀q:Nat,y.key= .int .i64 (q:Int)->∀z:Nat->Nat,z l=D.due id l->(∀j,j≠l->z j=kk j)->(y.born∈c.push x.born->z q=D.due id q)/\(y.born∉c.push x.born->z q=0):=by
     intro y hy q hq z e1 e2;by_cases hql:q=l
     ·subst hql;refine ⟨λ_=>e1,λhn=> ?_⟩;exfalso;apply hn;have c6:y=x:=by
       have h5:=List.mem_iff_getElem?.1 hy;have h6:=List.mem_iff_getElem?.1 hx;obtain ⟨a,ha⟩:=h5;obtain ⟨b,hb⟩:=h6;have h7:(es.toList.map (·.key))[a]? =some (.int .i64 (q:Int)):=by rw [cm,ha,cx,hq]
       have h8:(es.toList.map (·.key))[b]? =some (.int .i64 (q:Int)):=by rw [cm,hb,cx,o]
       have h9:a=b:=(en (by rw [gp];exact (List.getElem?_eq_some_iff.1 ha).1) b2).1 (h7.trans h8.symm);rw [h9,hb] at ha;injection ha with ha;exact ha.symm
      rw [c6];simp
     ·rw [e2 q hql];have h5:=V y hy q hq;have b4:y.born≠x.born:=by
       intro e;have b9:=List.mem_iff_getElem?.1 hy;have c7:=List.mem_iff_getElem?.1 hx;obtain ⟨a,ha⟩:=b9;obtain ⟨b,hb⟩:=c7;have h7:(es.toList.map (·.born))[a]? =some x.born:=by rw [cm,ha,cx,e]
       have h8:(es.toList.map (·.born))[b]? =some x.born:=by rw [cm,hb,cx]
       have h9:a=b:=(en (by rw [gp];exact (List.getElem?_eq_some_iff.1 ha).1) a6).1 (h7.trans h8.symm);rw [h9,hb] at ha;injection ha with ha;rw [<-ha,o] at hq;injection hq with _ hq;exact hql (Int.ofNat_inj.1 hq).symm
      refine ⟨λhb=>h5.1 ?_,λhb=>h5.2 (λh6=>hb ?_)⟩
      ·rcases Array.mem_push.1 hb with h6|h6
       ·exact h6
       ·exact absurd h6 b4
      ·exact Array.mem_push.2 (.inl h6)
    have Z:∀q:Nat,(∀y∈es.toList,y.key≠ .int .i64 (q:Int))->q≠l:=λq hq e=>hq x hx (by rw [o,e])
    by_cases hpd:C.done l<p
    ·simp (disch:=try exact dZ) only [↓RBp,↓RA,↓reduceIte,Nat.reduceAdd,Nat.reduceMul,Nat.reduceEqDiff,RB,RX,RA2,r2,o,<-a5,s.R,a7,hd];refine Nz s (gc.parts kk L) l (p-C.done l) hl (by clear hE;omega) (by rw [b6];clear hE;omega) (show C.exe<_ from b0) _ (λw4 Y4 h4 c0=> ?_);have b1:¬(Y.nb id=Y.pb\/Y.nb id=Y.lb):=by
      rintro (e|e)
      ·have:=h.inj (.nt id) .pe (Y.nb id) (by simp [Lay.blk,r]) (by rw [e];rfl);cases this
      ·have:=h.inj (.nt id) .li (Y.nb id) (by simp [Lay.blk,r]) (by rw [e];rfl);cases this
     have M:w4.heap[it]? =some (.mapIter (some (Y.nb id)) f (c.push x.born) f):=by rw [h4.frm.block it m v];exact t
     apply hE
     ·refine ⟨c.push x.born,f,λj=>if j=l then p-C.done l else kk j,Y4,M,bd _,?_,?_,?_,?_,?_,?_,?_⟩
      ·rw [<-uz gc kk l _ hl H];exact h3.trans h4
      ·intro hF;rcases h4.fr it hF with h5|h5
       ·exact v h5
       ·exact absurd m (Nat.not_lt.2 h5)
      ·rw [c0.block _ (aF d) b1];exact d
      ·exact fF m h4.frm.size
      ·intro q hq;show (if q=l then p-C.done l else kk q)<=_;by_cases e:q=l
       ·rw [if_pos e,e];clear hE;omega
       ·rw [if_neg e];exact L q hq
      ·intro y hy q hq;exact Q y hy q hq (λj=>if j=l then p-C.done l else kk j) ((if_pos rfl).trans E.symm) (λj hj=>if_neg hj)
      ·intro q hq;show (if q=l then p-C.done l else kk q)=0;rw [if_neg (Z q hq)];exact A q hq
     ·show itN it es w4<itN it es w2;rw [T];unfold itN;rw [M];exact Cb hx U
    ·simp (disch:=try exact dZ) only [↓RBp,↓RA,↓reduceIte,Nat.reduceAdd,Nat.reduceMul,Nat.reduceEqDiff,RB,RX,RA2,r2,o,<-a5,s.R,a7,hd];apply hE
     ·refine ⟨c.push x.born,f,kk,_,t,bd _,h3,v,d,m,L,?_,A⟩;intro y hy q hq;exact Q y hy q hq kk (by rw [H,E];clear hE;omega) (λj hj=>rfl)
     ·show itN it es w3<itN it es w2;rw [T];unfold itN;rw [t];exact Cb hx U
 ·rw [if_neg hr] at hK;have b5:D.runs true=false:=by simpa using hr
  refine zS1 b5 ?_;exact hK _ _ h1
end
noncomputable section
variable (K:K1) (x0 x1 x2 x3 x4 x5 x6 x7 x8 x9 x10 x11 x12 x13 x14 x15 x16 x17 x18 x19 x20 x21 x22 x23 x24 x25 x26 x27 x28 x29 x30 x31 x32 x33 x34 x35 x36 x37 x38 x39 x40 x41:bb) (w:an)
noncomputable def Sc:=uD Tryz.f99 (.s .o (.s .o (.x 2 (.s .o (.b (.l [16] 49154 16711744 .o))) .o)))
abbrev Sd:=aU prog Tryz.f99.results.toList
def Cc:KF:=kO 2 (cP (pw Sc 3 7) (Sd K) (Sd K) nX)
def Se:Prop:=Cc K (fy 26 2 [x1]) w
def Sf:Prop:=aE [16] 49154 (λE=>cP (pw Sc 6 11) E (Sd K) (exB 0 (Cc K) nX)) (fy 26 114690 [x1,x14,x15,x16]) w
def Cd:Prop:=
 bn prog x1 "Err" (pA #[]) w fun a w=>
 K a w
def NC:Se K x1 w=Cd K x1 w:=aI λσ=>kR
def sf (E1:VP1):Prop:=
 bT .lss 3 16 15 x16 x15 w λa w=>
 ae a (
 iA 120 x14 x16 w λb w=>
 lD 220 b w λc w=>
 ev prog (Instr.alloc 220 true (.tuple #[])) w λd w=>
 sD 220 d c w λw=>
 lD 220 d w λe w=>
 cL 146 (pA #[e,x1]) w λf w=>
 bC .add 3 16 1 x16 w λg w=>
 E1 g w) (
 Se K x1 w)
def Ce (I:VP1) (μ:M1) (h0:I x16 w) (hr:∀x16 w,I x16 w->∀E1,Q1 I μ x16 w E1->sf K x1 x14 x15 x16 w E1):Sf K x1 x14 x15 x16 w:=⟨I,μ,h0,λσ w hI E hE=>cast kR (hr (σ 16) w hI E hE)⟩
def Zu:Prop:=
 bM .eql 106 (.tmp 7) (.const .nilIface) x1 .nilIface w λa w=>
 gV a false x0 w λb w=>
 gC a false 145 (pA #[b]) w λc w=>
 gd a false (λk=>ev prog (Op.unary .not c) w k) w λd w=>
 au a (.bool true) d w λe w=>
 ae e (
 K (.int .i64 1) w) (
 lN 120 x0 w λf w=>
 Sf K x1 x0 f (.int .i64 0) w)
def Sg:=cA2 Tryz.func99 Sc.2 Zu
noncomputable def sg:=uD Tryz.f118 (.s .o (.s .o (.s .o (.s .o (.x 73 (.s .o (.b (.l [6,33] 4294967433 36028788429031232 .o))) (.x 73 (.s .o (.b (.l [6,11] 9 295111876382333864000 .o))) .o))))))
abbrev oy:=aU prog Tryz.f118.results.toList
def vC:KF:=kO 73 (cP (pw sg 5 31) (oy K) (oy K) nX)
def Jl:Prop:=vC K (fy 79 73 [x0,x3,x6]) w
def Jm:Prop:=aE [6,33] 4294967433 (λE=>cP (pw sg 8 47) E (oy K) (exB 0 (vC K) nX)) (fy 79 12884902089 [x0,x3,x6,x7,x32,x33]) w
def vD:KF:=kO 73 (cP (pw sg 6 63) (oy K) (oy K) nX)
def Jn:Prop:=vD K (fy 79 73 [x0,x3,x6]) w
def Jo:Prop:=aE [6,11] 9 (λE=>cP (pw sg 9 95) E (oy K) (exB 2 (vD K) nX)) (fy 79 2121 [x0,x3,x6,x11]) w
def vE:Prop:=
 Jo K x0 x3 x6 (.int .u64 ((1:Nat):Int)) w
def Gv:Jl K x0 x3 x6 w=vE K x0 x3 x6 w:=aI λσ=>kR
def vF (E1:VP2):Prop:=
 bT .lss 3 33 32 x33 x32 w λa w=>
 ae a (
 fA 132 x3 0 w λb w=>
 lD 3 b w λc w=>
 cL 161 (pA #[c,x33]) w λd w=>
 eX d 0 w λe w=>
 eX d 1 w λf w=>
 cL 162 (pA #[x0]) w λg w=>
 cV 3 26 e w λh w=>
 bU .mul 26 47 .u64 8 h w λi w=>
 bT .add 26 45 48 g i w λj w=>
 ev prog (Instr.build 98 #[(0,j),(1,x7)]) w λl w=>
 ev prog (aA 79 1 #[(0,l)]) w λm w=>
 aY prog .append #[79,79] 79 #[false,false] (pA #[x6,m]) w λn w=>
 bC .add 3 33 1 x33 w λo w=>
 E1 n o w) (
 Jl K x0 x3 x6 w)
def zD (I:VP2) (μ:M2) (h0:I x6 x33 w) (hr:∀x6 x33 w,I x6 x33 w->∀E1,Q2 I μ x6 x33 w E1->vF K x0 x3 x6 x7 x32 x33 w E1):Jm K x0 x3 x6 x7 x32 x33 w:=⟨I,μ,h0,λσ w hI E hE=>cast kR (hr (σ 6) (σ 33) w hI E hE)⟩
def oz:Prop:=
 lR 132 x3 w.drew λa=>
 cL 162 (pA #[x0]) w.drew λb w=>
 (lG 132 x3 w a)/\
 cL 163 (pA #[a]) w λc w=>
 rd prog (Instr.build 98 #[(0,b),(1,c)]) w λd=>
 ev prog (aA 79 1 #[(0,d)]) w λe w=>
 cL 123 (pA #[e]) w λf w=>
 cL 123 (pA #[x6]) w λg w=>
 cL 119 (pA #[g,f]) w λh w=>
 K (.tuple #[h,(.int .i64 0)]) w
def si:Jn K x0 x3 x6 w=oz K x0 x3 x6 w:=aI λσ=>kR
def vG (E1:VP2):Prop:=
 bU .lss 26 55 .u64 8 x11 w λa w=>
 ae a (
 cL 162 (pA #[x0]) w λb w=>
 bU .mul 26 62 .u64 8 x11 w λc w=>
 bT .add 26 61 63 b c w λd w=>
 ev prog (Instr.build 98 #[(0,d)]) w λe w=>
 ev prog (aA 79 1 #[(0,e)]) w λf w=>
 aY prog .append #[79,79] 79 #[false,false] (pA #[x6,f]) w λg w=>
 bU .add 26 57 .u64 1 x11 w λh w=>
 E1 g h w) (
 Jn K x0 x3 x6 w)
def zE (I:VP2) (μ:M2) (h0:I x6 x11 w) (hr:∀x6 x11 w,I x6 x11 w->∀E1,Q2 I μ x6 x11 w E1->vG K x0 x3 x6 x11 w E1):Jo K x0 x3 x6 x11 w:=⟨I,μ,h0,λσ w hI E hE=>cast kR (hr (σ 6) (σ 11) w hI E hE)⟩
def Si:Prop:=
 ev prog (Instr.box 132 x1) w λa w=>
 cL 158 (pA #[x0]) w λb w=>
 ev prog (Op.unary .not b) w λc w=>
 gd c false (λk=>lD 132 a w k) w λd w=>
 gC c false 159 (pA #[d]) w λe w=>
 gd c false (λk=>ev prog (Op.unary .not e) w k) w λf w=>
 au c (.bool true) f w λg w=>
 gd g false (λk=>fA 132 a 2 w k) w λh w=>
 gd g false (λk=>lD 130 h w k) w λi w=>
 gd g false (λk=>bU .eql 130 23 .u16 0 i w k) w λj w=>
 au g (.bool true) j w λl w=>
 ae l (
 K (.tuple #[(.slice none 0 0),(.int .i64 1)]) w) (
 fA 132 a 2 w λm w=>
 lD 130 m w λn w=>
 ev prog (Instr.build 200 #[(0,n),(2,(.int .u8 ((176:Nat):Int)))]) w λo w=>
 cL 160 (pA #[o]) w λp w=>
 fA 132 a 0 w λq w=>
 lD 3 q w λs w=>
 cL 135 (pA #[s]) w λt w=>
 Jm K x0 a (.slice none 0 0) p t (.int .i64 0) w)
def ND:=cA2 Tryz.func118 sg.2 Si
def Gw:Prop:=
 ev prog (aA 254 2 #[(0,x0),(1,x1)]) w λa w=>
 cL 164 (pA #[a]) w λb w=>
 K b w
def vH:=cA2 Tryz.func119 .o Gw
noncomputable def sj:=uD Tryz.f123 (.s .o (.s .o (.s .o (.s .o (.x 24 (.s .o (.b (.l [3,4,17] 98304 68719345752 .o))) (.s .o (.x 8 (.s .o (.b (.l [3,41] 1649267441664 2249600790429960 .o))) .o)))))))
abbrev oA:=aU prog Tryz.f123.results.toList
def vI:KF:=kO 24 (cP (pw sj 5 31) (oA K) (oA K) nX)
def Jp:Prop:=vI K (fy 55 24 [x3,x4]) w
def Jq:Prop:=aE [3,4,17] 98304 (λE=>cP (pw sj 8 47) E (oA K) (exB 0 (vI K) nX)) (fy 55 229400 [x3,x4,x15,x16,x17]) w
def vJ:KF:=kO 8 (cP (pw sj 7 127) (oA K) (oA K) nX)
def Jr:Prop:=vJ K (fy 55 8 [x3]) w
def Js:Prop:=aE [3,41] 1649267441664 (λE=>cP (pw sj 10 191) E (oA K) (exB 2 (vJ K) nX)) (fy 55 3848290697224 [x3,x39,x40,x41]) w
def vK:Prop:=
 cL 172 (pA #[x4]) w λa w=>
 cL 173 (pA #[x4]) w λb w=>
 lN 58 b w λc w=>
 Js K x3 b c (.int .i64 0) w
def Gx:Jp K x3 x4 w=vK K x3 x4 w:=aI λσ=>kR
def vN (E1:VP3):Prop:=
 bT .lss 3 17 16 x17 x16 w λa w=>
 ae a (
 iA 79 x15 x17 w λb w=>
 lD 98 b w λc w=>
 ev prog (Instr.alloc 98 true (.tuple #[])) w λd w=>
 sD 98 d c w λw=>
 fA 98 d 0 w λe w=>
 lD 26 e w λf w=>
 fA 98 d 1 w λg w=>
 lD 26 g w λh w=>
 ev prog (Instr.build 220 #[(0,(.int .u8 ((1:Nat):Int))),(1,f),(2,h)]) w λi w=>
 ev prog (aA 120 1 #[(0,i)]) w λj w=>
 aY prog .append #[120,120] 120 #[false,false] (pA #[x3,j]) w λl w=>
 fA 98 d 0 w λm w=>
 lD 26 m w λn w=>
 cL 171 (pA #[n]) w λo w=>
 ev prog (aA 58 1 #[(0,o)]) w λp w=>
 aY prog .append #[58,58] 58 #[false,false] (pA #[x4,p]) w λq w=>
 bC .add 3 17 1 x17 w λs w=>
 E1 l q s w) (
 Jp K x3 x4 w)
def zF (I:VP3) (μ:M3) (h0:I x3 x4 x17 w) (hr:∀x3 x4 x17 w,I x3 x4 x17 w->∀E1,Q3 I μ x3 x4 x17 w E1->vN K x3 x4 x15 x16 x17 w E1):Jq K x3 x4 x15 x16 x17 w:=⟨I,μ,h0,λσ w hI E hE=>cast kR (hr (σ 3) (σ 4) (σ 17) w hI E hE)⟩
def vO:Prop:=
 ev prog (Instr.build 220 #[(0,(.int .u8 ((3:Nat):Int)))]) w λa w=>
 ev prog (aA 120 1 #[(0,a)]) w λb w=>
 aY prog .append #[120,120] 120 #[false,false] (pA #[x3,b]) w λc w=>
 K c w
def Gy:Jr K x3 w=vO K x3 w:=aI λσ=>kR
def vP (E1:VP2):Prop:=
 bT .lss 3 41 40 x41 x40 w λa w=>
 ae a (
 iA 58 x39 x41 w λb w=>
 lD 26 b w λc w=>
 ev prog (Instr.build 220 #[(0,(.int .u8 ((2:Nat):Int))),(1,c)]) w λd w=>
 ev prog (aA 120 1 #[(0,d)]) w λe w=>
 aY prog .append #[120,120] 120 #[false,false] (pA #[x3,e]) w λf w=>
 bC .add 3 41 1 x41 w λg w=>
 E1 f g w) (
 Jr K x3 w)
def zG (I:VP2) (μ:M2) (h0:I x3 x41 w) (hr:∀x3 x41 w,I x3 x41 w->∀E1,Q2 I μ x3 x41 w E1->vP K x3 x39 x40 x41 w E1):Js K x3 x39 x40 x41 w:=⟨I,μ,h0,λσ w hI E hE=>cast kR (hr (σ 3) (σ 41) w hI E hE)⟩
def Sj:Prop:=
 lN 79 x0 w λa w=>
 bC .eql 3 10 0 a w λb w=>
 ae b (
 K (.slice none 0 0) w) (
 lN 79 x0 w λc w=>
 ev prog (Instr.makeSlice 58 (.int .i64 0) c) w λd w=>
 lN 79 x0 w λe w=>
 Jq K (.slice none 0 0) d x0 e (.int .i64 0) w)
def NE:=cA1 Tryz.func123 sj.2 Sj
noncomputable def Gz:=uD Tryz.f145 (.s .o (.x 0 (.s .o (.b (.l [7] 96 1048468 .o))) .o))
abbrev GA:=aU prog Tryz.f145.results.toList
def vQ:KF:=kO 0 (cP (pr (pr Gz)) (GA K) (GA K) nX)
def Jt:Prop:=vQ K (fy 20 0 []) w
def Ju:Prop:=aE [7] 96 (λE=>cP (pw Gz 5 5) E (GA K) (exB 0 (vQ K) nX)) (fy 20 224 [x5,x6,x7]) w
def vR:Prop:=
 K (.bool true) w
def GB:Jt K w=vR K w:=aI λσ=>kR
def oB (E1:VP1):Prop:=
 bT .lss 3 7 6 x7 x6 w λa w=>
 ae a (
 iA 120 x5 x7 w λb w=>
 lD 220 b w λc w=>
 ev prog (Instr.alloc 220 true (.tuple #[])) w λd w=>
 sD 220 d c w λw=>
 fA 220 d 0 w λe w=>
 lD 218 e w λf w=>
 bU .lss 218 12 .u8 1 f w λg w=>
 gd g false (λk=>fA 220 d 0 w k) w λh w=>
 gd g false (λk=>lD 218 h w k) w λi w=>
 gd g false (λk=>bU .gtr 218 16 .u8 3 i w k) w λj w=>
 au g (.bool true) j w λl w=>
 ae l (
 K (.bool false) w) (
 bC .add 3 7 1 x7 w λm w=>
 E1 m w)) (
 Jt K w)
def zH (I:VP1) (μ:M1) (h0:I x7 w) (hr:∀x7 w,I x7 w->∀E1,Q1 I μ x7 w E1->oB K x5 x6 x7 w E1):Ju K x5 x6 x7 w:=⟨I,μ,h0,λσ w hI E hE=>cast kR (hr (σ 7) w hI E hE)⟩
def Sk:Prop:=
 lN 120 x0 w λa w=>
 Ju K x0 a (.int .i64 0) w
def NF:=cA1 Tryz.func145 Gz.2 Sk
def Sl:Prop:=
 ev prog (Instr.box 220 x0) w λa w=>
 fA 220 a 0 w λb w=>
 lD 218 b w λc w=>
 bU .eql 218 5 .u8 1 c w λd w=>
 ae d (
 fA 220 a 1 w λe w=>
 lD 26 e w λf w=>
 fA 220 a 2 w λg w=>
 lD 26 g w λh w=>
 bn prog x1 "Store" (pA #[f,h]) w fun i w=>
 K (.tuple #[]) w) (
 bU .eql 218 5 .u8 2 c w λj w=>
 ae j (
 fA 220 a 1 w λl w=>
 lD 26 l w λm w=>
 bn prog x1 "Flush" (pA #[m]) w fun n w=>
 K (.tuple #[]) w) (
 bU .eql 218 5 .u8 3 c w λo w=>
 ae o (
 bn prog x1 "Fence" (pA #[]) w fun p w=>
 K (.tuple #[]) w) (
 K (.tuple #[]) w)))
def NG:=cA2 Tryz.func146 .o Sl
def Sm:Prop:=
 cL 158 (pA #[x0]) w λa w=>
 ev prog (Op.unary .not a) w λb w=>
 gV b false x1 w λc w=>
 gd b false (λk=>bU .eql 130 11 .u16 0 c w k) w λd w=>
 au b (.bool true) d w λe w=>
 ae e (
 K (.tuple #[(.slice none 0 0),(.int .i64 1)]) w) (
 ev prog (Instr.build 132 #[(0,(.int .i64 (-1))),(1,(.int .i64 (-1))),(2,x1)]) w λf w=>
 ev prog (Instr.alloc 132 true (.tuple #[])) w λg w=>
 sD 132 g f w λw=>
 lR 132 g w.drew λh=>
 cL 162 (pA #[x0]) w.drew λi w=>
 (lG 132 g w h)/\
 cL 163 (pA #[h]) w λj w=>
 rd prog (Instr.build 98 #[(0,i),(1,j)]) w λl=>
 ev prog (aA 79 1 #[(0,l)]) w λm w=>
 cL 123 (pA #[m]) w λn w=>
 K (.tuple #[n,(.int .i64 0)]) w)
def NH:=cA2 Tryz.func155 .o Sm
noncomputable def oC:=uD Tryz.f164 (.s .o (.s .o (.x 9 (.s .o (.b (.l [3,11] 1537 8386600 (.s .o (.s .o (.x 3593 .o .o)))))) (.s .o (.x 64 (.s .o (.b (.l [6,27] 100663296 34225520960 .o))) .o)))))
abbrev lF:=aU prog Tryz.f164.results.toList
def oF:KF:=kO 9 (cP (pw oC 3 7) (lF K) (lF K) nX)
def Jv:Prop:=oF K (fy 36 9 [x0,x3]) w
def Jw:Prop:=aE [3,11] 1537 (λE=>cP (pw oC 6 11) E (lF K) (exB 0 (oF K) nX)) (fy 36 3593 [x0,x3,x9,x10,x11]) w
def vT:KF:=kO 64 (cP (pw oC 5 31) (lF K) (lF K) nX)
def Jy:Prop:=vT K (fy 36 64 [x6]) w
def Jz:Prop:=aE [6,27] 100663296 (λE=>cP (pw oC 8 47) E (lF K) (exB 2 (vT K) nX)) (fy 36 234881088 [x6,x25,x26,x27]) w
def NI (E1:VP2):KF:=kO 3593 (cP (pw oC 9 459) (sE2 E1 3 11) (lF K) (exB 0 (oF K) nX))
def JA (K:K1) (E1:VP2) (x0 x3 x9 x10 x11:bb) (w:an):Prop:=NI K E1 (fy 36 3593 [x0,x3,x9,x10,x11]) w
def oG:Prop:=
 cL 186 (pA #[(.slice none 0 0),x3]) w λa w=>
 lN 254 x0 w λb w=>
 Jz K a x0 b (.int .i64 0) w
def sk:Jv K x0 x3 w=oG K x0 x3 w:=aI λσ=>kR
def eS (E1:VP2):Prop:=
 bT .lss 3 11 10 x11 x10 w λa w=>
 ae a (
 iA 254 x9 x11 w λb w=>
 lD 120 b w λc w=>
 lN 120 c w λd w=>
 bT .add 3 15 17 x3 d w λe w=>
 bC .lss 3 19 0 e w λf w=>
 ae f (
 ev prog (fl 9 (.string {data:= #[108,101,110,32,111,117,116,32,111,102,32,114,97,110,103,101]})) w λg w=>
 False) (
 JA K E1 x0 e x9 x10 x11 w)) (
 Jv K x0 x3 w)
def mB (I:VP2) (μ:M2) (h0:I x3 x11 w) (hr:∀x3 x11 w,I x3 x11 w->∀E1,Q2 I μ x3 x11 w E1->eS K x0 x3 x9 x10 x11 w E1):Jw K x0 x3 x9 x10 x11 w:=⟨I,μ,h0,λσ w hI E hE=>cast kR (hr (σ 3) (σ 11) w hI E hE)⟩
def oI:Prop:=
 K x6 w
def sq:Jy K x6 w=oI K x6 w:=aI λσ=>kR
def oJ (E1:VP2):Prop:=
 bT .lss 3 27 26 x27 x26 w λa w=>
 ae a (
 iA 254 x25 x27 w λb w=>
 lD 120 b w λc w=>
 aY prog .append #[120,120] 120 #[false,false] (pA #[x6,c]) w λd w=>
 bC .add 3 27 1 x27 w λe w=>
 E1 d e w) (
 Jy K x6 w)
def mC (I:VP2) (μ:M2) (h0:I x6 x27 w) (hr:∀x6 x27 w,I x6 x27 w->∀E1,Q2 I μ x6 x27 w E1->oJ K x6 x25 x26 x27 w E1):Jz K x6 x25 x26 x27 w:=⟨I,μ,h0,λσ w hI E hE=>cast kR (hr (σ 6) (σ 27) w hI E hE)⟩
def ic (E1:VP2):Prop:=
 bC .add 3 11 1 x11 w λa w=>
 E1 x3 a w
def i4 (E1:VP2):JA K E1 x0 x3 x9 x10 x11 w=ic x3 x11 w E1:=aI λσ=>kR
def GC:Prop:=
 lN 254 x0 w λa w=>
 Jw K x0 (.int .i64 0) x0 a (.int .i64 0) w
def vU:=cA1 Tryz.func164 oC.2 GC
noncomputable def lH:=uD Tryz.f173 (.s .o (.s .o (.x 1 (.s .o (.b (.l [3] 1 1152921504606846012 (.s .o (.x 9 (.b (.s .o (.s (.s .o (.x 9 (.s .o (.b (.l [3,5] 17 18014397972611112 (.s .o (.x 57 .o .o))))) .o)) .o))) .o))))) .o)))
abbrev lI:=aU prog Tryz.f173.results.toList
def fK:KF:=kO 1 (cP (pw lH 3 7) (lI K) (lI K) nX)
def JB:Prop:=fK K (fy 61 1 [x0]) w
def JC:Prop:=aE [3] 1 (λE=>cP (pw lH 6 11) E (lI K) (exB 0 (fK K) nX)) (fy 61 9 [x0,x3]) w
def ie (E1:VP1):KF:=kO 9 (cP (pw lH 8 203) (sE1 E1 3) (lI K) (exB 0 (fK K) nX))
def JD (K:K1) (E1:VP1) (x0 x3:bb) (w:an):Prop:=ie K E1 (fy 61 9 [x0,x3]) w
def oK (E1:VP1):KF:=kO 9 (cP (pw lH 13 6731) (ie K E1) (lI K) (exB 1 (ie K E1) (exB 0 (fK K) nX)))
def JE (K:K1) (E1:VP1) (x0 x3:bb) (w:an):Prop:=oK K E1 (fy 61 9 [x0,x3]) w
def JF (K:K1) (E1:VP1) (x0 x3 x4 x5:bb) (w:an):Prop:=aE [3,5] 17 (λE=>cP (pw lH 16 10827) E (lI K) (exB 2 (oK K E1) (exB 1 (ie K E1) (exB 0 (fK K) nX)))) (fy 61 57 [x0,x3,x4,x5]) w
def NJ (E1:VP1) (E2:VP2):KF:=kO 57 (cP (pw lH 18 207435) (sE2 E2 3 5) (lI K) (exB 2 (oK K E1) (exB 1 (ie K E1) (exB 0 (fK K) nX))))
def zI (K:K1) (E1:VP1) (E2:VP2) (x0 x3 x4 x5:bb) (w:an):Prop:=NJ K E1 E2 (fy 61 57 [x0,x3,x4,x5]) w
def vV:Prop:=
 K x0 w
def GD:JB K x0 w=vV K x0 w:=aI λσ=>kR
def vW (E1:VP1):Prop:=
 lN 58 x0 w λa w=>
 bT .lss 3 10 12 x3 a w λb w=>
 ae b (
 iR 58 x0 x3 w.drew λc=>
 lR 26 c w.drew λd=>
 rC .sub 3 21 1 x3 w.drew λe=>
 iR 58 x0 e w.drew λf=>
 lR 26 f w.drew λg=>
 rT .eql 26 19 24 d g w.drew λh=>
 ae h (
 ev prog (Instr.sliceAt 58 x0 (some x3) none none) w.drew λi w=>
 JF K E1 x0 x3 i (.int .i64 1) w) (
 JD K E1 x0 x3 w.drew)) (
 JB K x0 w)
def zJ (I:VP1) (μ:M1) (h0:I x3 w) (hr:∀x3 w,I x3 w->∀E1,Q1 I μ x3 w E1->vW K x0 x3 w E1):JC K x0 x3 w:=⟨I,μ,h0,λσ w hI E hE=>cast kR (hr (σ 3) w hI E hE)⟩
def vX (E1:VP1):Prop:=
 bC .add 3 14 1 x3 w λa w=>
 E1 a w
def GE (E1:VP1):JD K E1 x0 x3 w=vX x3 w E1:=aI λσ=>kR
def oN (E1:VP1):Prop:=
 ev prog (Instr.sliceAt 58 x0 (some x3) none none) w λa w=>
 aY prog .clear #[58] 0 #[false] (pA #[a]) w λ_ w=>
 ev prog (Instr.sliceAt 58 x0 none (some x3) none) w λb w=>
 K b w
def GF (E1:VP1):JE K E1 x0 x3 w=oN K x0 x3 w E1:=aI λσ=>kR
def vY (E1:VP1) (E2:VP2):Prop:=
 lN 58 x4 w λa w=>
 bT .lss 3 29 31 x5 a w λb w=>
 ae b (
 iR 58 x4 x5 w.drew λc=>
 lR 26 c w.drew λd=>
 rC .sub 3 40 1 x5 w.drew λe=>
 iR 58 x4 e w.drew λf=>
 lR 26 f w.drew λg=>
 rT .neq 26 38 43 d g w.drew λh=>
 ae h (
 iA 58 x4 x5 w.drew λi w=>
 lD 26 i w λj w=>
 iA 58 x0 x3 w λl w=>
 sD 26 l j w λw=>
 bC .add 3 52 1 x3 w λm w=>
 zI K E1 E2 x0 m x4 x5 w) (
 zI K E1 E2 x0 x3 x4 x5 w.drew)) (
 JE K E1 x0 x3 w)
def zK (E1:VP1) (I:VP2) (μ:M2) (h0:I x3 x5 w) (hr:∀x3 x5 w,I x3 x5 w->∀E2,Q2 I μ x3 x5 w E2->vY K x0 x3 x4 x5 w E1 E2):JF K E1 x0 x3 x4 x5 w:=⟨I,μ,h0,λσ w hI E hE=>cast kR (hr (σ 3) (σ 5) w hI E hE)⟩
def ig (E1:VP1) (E2:VP2):Prop:=
 bC .add 3 33 1 x5 w λa w=>
 E2 x3 a w
def sr (E1:VP1) (E2:VP2):zI K E1 E2 x0 x3 x4 x5 w=ig x3 x5 w E1 E2:=aI λσ=>kR
def Sn:Prop:=
 lN 58 x0 w λa w=>
 bC .lss 3 7 2 a w λb w=>
 ae b (
 K x0 w) (
 JC K x0 (.int .i64 1) w)
def NK:=cA1 Tryz.func173 lH.2 Sn
noncomputable def GG:=uD Tryz.f186 (.s .o (.x 3 .o (.x 1 .o .o)))
abbrev zL:=aU prog Tryz.f186.results.toList
def NL:KF:=kO 3 (cP (pr (pr GG)) (zL K) (zL K) nX)
def JG:Prop:=NL K (fy 27 3 [x0,x1]) w
def NM:KF:=kO 1 (cP (pw GG 3 7) (zL K) (zL K) nX)
def zM:Prop:=NM K (fy 27 1 [x0]) w
def vZ:Prop:=
 aY prog .cap #[120] 3 #[false] (pA #[x0]) w λa w=>
 lN 120 x0 w λb w=>
 bT .sub 3 10 12 a b w λc w=>
 bT .sub 3 8 13 x1 c w λd w=>
 bC .gtr 3 15 0 d w λe w=>
 ae e (
 aY prog .cap #[120] 3 #[false] (pA #[x0]) w λf w=>
 ev prog (Instr.sliceAt 120 x0 none (some f) none) w λg w=>
 aY prog .append #[120,3] 120 #[false,false] (pA #[g,d]) w λh w=>
 lN 120 x0 w λi w=>
 ev prog (Instr.sliceAt 120 h none (some i) none) w λj w=>
 zM K j w) (
 zM K x0 w)
def GH:JG K x0 x1 w=vZ K x0 x1 w:=aI λσ=>kR
def fL:Prop:=
 K x0 w
def su:zM K x0 w=fL K x0 w:=aI λσ=>kR
def So:Prop:=
 bC .lss 3 5 0 x1 w λa w=>
 ae a (
 ev prog (fl 9 (.string {data:= #[99,97,110,110,111,116,32,98,101,32,110,101,103,97,116,105,118,101]})) w λb w=>
 False) (
 JG K x0 x1 w)
def NN:=cA2 Tryz.func186 GG.2 So
end
structure Ins where
 op:Nat
 off:Nat
 val:Nat
def inL:List Ins->List bb
 | []=> []
 |i::l=> .int .u8 (i.op:Int):: .int .u64 (i.off:Int):: .int .u64 (i.val:Int)::inL l
def i5 (a b:List Ins):inL (a++b)=inL a++inL b:=by
 induction a with
 |nil=>rfl
 |cons x a ih=>simp [inL,ih]
def lJ (a:List Ins):(inL a).length=a.length*3:=by
 induction a with
 |nil=>rfl
 |cons x a ih=>simp [inL,ih];omega
def JH:∀(l:List Ins) (i:Nat) (x:Ins),l[i]? =some x->(inL l)[i*3]? =some (.int .u8 (x.op:Int))/\(inL l)[i*3+1]? =some (.int .u64 (x.off:Int))/\(inL l)[i*3+2]? =some (.int .u64 (x.val:Int)):=by
 intro l
 induction l with
 |nil=>intro i x h;simp at h
 |cons y l ih=>
  intro i x h
  cases i with
  |zero=>simp at h;subst h;exact ⟨rfl,rfl,rfl⟩
  |succ i=>
   have:=ih i x (by simpa using h);simp only [inL,show (i+1)*3=i*3+1+1+1 by omega,eF];exact this
def okI (i:Ins):Prop:=1<=i.op/\i.op<=3/\i.off<18446744073709551616/\i.val<18446744073709551616
def DS.exec (D:DS) (id:Nat) (i:Ins):DS:=if i.op=1 then D.store id i.off i.val else if i.op=2 then D.flush id i.off else D.fence id
def DS.run (D:DS) (id:Nat) (p:List Ins):DS:=p.foldl (λD i=>D.exec id i) D
section
variable {w w':an} {Y:Lay} {D D':DS}
def NO (D:DS) (id off v:Nat):(D.store id off v).exe<=D.exe+1:=by
 unfold DS.store;split
 ·exact DS.counted_exe D id _
 ·exact DS.counted_exe D id _
def NP (D:DS) (id off:Nat):(D.flush id off).exe<=D.exe+1:=by
 unfold DS.flush;split
 ·exact DS.counted_exe D id _
 ·exact DS.counted_exe D id _
def NQ (D:DS) (id:Nat):(D.fence id).exe<=D.exe+1:=by
 unfold DS.fence;split
 ·exact DS.counted_exe D id _
 ·exact DS.counted_exe D id _
def JI (D:DS) (id off v:Nat):(D.store id off v).n=D.n:=by
 unfold DS.store;split
 ·exact DS.counted_n D id _
 ·exact DS.counted_n D id _
def JJ (D:DS) (id off:Nat):(D.flush id off).n=D.n:=by
 unfold DS.flush;split
 ·exact DS.counted_n D id _
 ·exact DS.counted_n D id _
def Xx (D:DS) (id:Nat):(D.fence id).n=D.n:=by
 unfold DS.fence;split
 ·exact DS.counted_n D id _
 ·exact DS.counted_n D id _
def Sq (D:DS) (id:Nat) (i:Ins):(D.exec id i).exe<=D.exe+1:=by
 unfold DS.exec;split
 ·exact NO _ _ _ _
 ·split
  ·exact NP _ _ _
  ·exact NQ _ _
def GI (D:DS) (id:Nat) (i:Ins):(D.exec id i).n=D.n:=by
 unfold DS.exec;split
 ·exact JI _ _ _ _
 ·split
  ·exact JJ _ _ _
  ·exact Xx _ _
def aH.exec (g:aH D) (id:Nat) (a:id<8) (i:Ins) (hi:okI i):aH (D.exec id i):=by
 unfold DS.exec;split
 ·exact g.store _ _ _ hi.2.2.2
 ·split
  ·exact g.flush _ _
  ·exact g.fence _ a
def ee (id:Nat):∀(p:List Ins) (D:DS),(D.run id p).exe<=D.exe+p.length:=by
 intro p
 induction p with
 |nil=>intro D;exact bd _
 |cons i p ih=>intro D;have:=ih (D.exec id i);have h2:=Sq D id i;simp only [List.length_cons];show ((D.exec id i).run id p).exe<=_;omega
def fh (id:Nat):∀(p:List Ins) (D:DS),(D.run id p).n=D.n:=by
 intro p
 induction p with
 |nil=>intro D;rfl
 |cons i p ih=>intro D;show ((D.exec id i).run id p).n=_;rw [ih,GI]
def aH.run (id:Nat) (a:id<8):∀(p:List Ins) (D:DS),aH D->(∀i∈p,okI i)->aH (D.run id p):=by
 intro p
 induction p with
 |nil=>intro D g _;exact g
 |cons i p ih=>intro D g h;exact ih _ (g.exec id a i (h i ef)) (λj hj=>h j (d9 _ hj))
def cH (D:DS) (id:Nat) (p q:List Ins):D.run id (p++q)=(D.run id p).run id q:=by simp [DS.run,f4]
def NR (h:Dv w Y D) (g:aH D) (id:Nat) (a:id<8) (i:Ins) (hi:okI i) (hx:D.exe<1099511627775) (K:K1) (hK:∀w' Y',Stp w Y w' Y' (D.exec id i)->K (.tuple #[]) w'):ad prog 146 #[.agg #[.int .u8 (i.op:Int),.int .u64 (i.off:Int),.int .u64 (i.val:Int)],.iface 31 (.pointer (some ⟨Y.tb id,0,none⟩))] w K:=by
 refine NG _ _ _ _ ?_;unfold Sl;have h':=h.ext (Ext.alloc_self w (.cells #[.int .u8 (i.op:Int),.int .u64 (i.off:Int),.int .u64 (i.val:Int)] 220));have hp:∀w' Y' D',Stp (w.alloc (.cells #[.int .u8 (i.op:Int),.int .u64 (i.off:Int),.int .u64 (i.val:Int)] 220)) Y w' Y' D'->Stp w Y w' Y' D':=λw' Y' D' hs=>Stp.pre (Ext.alloc_self w _) (λb hb=>h.lt hb) hs
 unfold DS.exec at hK;obtain ⟨o1,o2,o3,o4⟩:=hi
 (repeat' first|refine ak (λ_=> ?_) (λ_=> ?_)|refine am ?_ ?_|refine zS0 ?_|exact yS0|fail)
 ·rename_i e;rw [if_pos e] at hK;refine Jh h' g id a i.off i.val hx _ (λw' Y' hs=> ?_);exact hK _ _ (hp _ _ _ hs)
 ·rename_i e e2;rw [if_neg e,if_pos e2] at hK;refine Ji h' g id a i.off hx _ (λw' hs=> ?_);exact hK _ _ (hp _ _ _ hs)
 ·rename_i e e2;rw [if_neg e,if_neg e2] at hK;refine Jk h' g id a hx _ (λw' Y' hs=> ?_);exact hK _ _ (hp _ _ _ hs)
def Xy (p:List Ins) (v:bb) (h:SlO w 220 3 v p.length (inL p)) (hp:∀i∈p,okI i) (hl:p.length<1099511627776) (K:K1) (hK:∀w',Ext w w'->K (.bool true) w'):ad prog 145 #[v] w K:=by
 have hv:∃a cap,v= .slice a p.length cap:=by
  rcases h.2 with ⟨e,e2⟩|⟨b,o,cap,a,e,_⟩
  ·rw [e,e2];exact ⟨_,_,rfl⟩
  ·exact ⟨_,_,e⟩
 obtain ⟨a,cap,rfl⟩:=hv;refine NF _ _ _ ?_;unfold Sk;refine zS0 ?_;apply zH (I:=λx w'=>∃j:Nat,x= .int .i64 (j:Int)/\j<=p.length/\Ext w w') (μ:=λx _=>p.length-(intOf x).toNat)
 ·exact ⟨0,rfl,by omega,Ext.refl _⟩
 ·intros;rename_i w1 hI E1 hE;obtain ⟨j,rfl,hj,he⟩:=hI;by_cases hjk:j<p.length
  ·obtain ⟨x,hx⟩:∃x,p[j]? =some x:=⟨_,cw hjk⟩;have hw:=JH _ _ _ hx;obtain ⟨b,o,c,ev,hc⟩:=h.isS oM;injection ev with e1 e2 e3;subst e1;subst e3;have hS:=h.ext he;have c1:=hS.cell rfl hw.1;have c2:=hS.cell rfl hw.2.1;have c3:=hS.cell rfl hw.2.2;rw [<-e8] at c2 c3;obtain ⟨o1,o2,o3,o4⟩:=hp x (d8 hx);have lt:=hS.lt rfl;unfold oB;refine zS3 c1 c2 c3 ?_;apply hE
   ·exact ⟨j+1,by simp,by omega,he.alloc _⟩
   ·simp [intOf];omega
  ·have:j=p.length:=oM;subst this;unfold oB;refine zS2 @GB @vR.eq_1 ?_;exact hK _ he
def sC (h:Dv w Y D) (g:aH D) (id:Nat) (f:id<8) (p:List Ins) (v:bb) (hS:SlO w 220 3 v p.length (inL p)) (l:∀b,v.ownBlock=some b->¬Y.F b) (hp:∀i∈p,okI i) (hx:D.exe+p.length<1099511627775) (K:K1)
  (hK:∀w' Y',Stp w Y w' Y' (D.run id p)->K (.int .i64 ((D.run id p).err id)) w'):ad prog 99 #[v,.iface 31 (.pointer (some ⟨Y.tb id,0,none⟩))] w K:=by
 have hv:∃a cap,v= .slice a p.length cap:=by
  rcases hS.2 with ⟨e,e2⟩|⟨b,o,cap,a,e,_⟩
  ·rw [e,e2];exact ⟨_,_,rfl⟩
  ·exact ⟨_,_,e⟩
 obtain ⟨a,cap,rfl⟩:=hv;refine Sg _ _ _ _ ?_;unfold Zu;refine zS0 ?_;refine Xy p _ hS hp oM _ (λw1 m=> ?_);refine zS0 ?_;apply Ce (I:=λx w'=>∃(j:Nat) (Y':Lay),x= .int .i64 (j:Int)/\j<=p.length/\Stp w Y w' Y' (D.run id (p.take j))) (μ:=λx _=>p.length-(intOf x).toNat)
 ·exact ⟨0,Y,rfl,by omega,Stp.ext h m⟩
 ·intros;rename_i w2 hI E1 hE;obtain ⟨j,Y',rfl,hj,hs⟩:=hI;obtain ⟨k,rfl⟩:∃k,Y'={Y with hv:=k}:=⟨_,hs.y⟩;by_cases hjk:j<p.length
  ·obtain ⟨x,d⟩:∃x,p[j]? =some x:=⟨_,cw hjk⟩;have hw:=JH _ _ _ d;obtain ⟨b,o,r,ev,hc⟩:=hS.isS oM;injection ev with e1 e2 e3;subst e1;subst e3;have c:=hS.frm hs.frm l;have c1:=c.cell rfl hw.1;have c2:=c.cell rfl hw.2.1;have c3:=c.cell rfl hw.2.2;rw [<-e8] at c2 c3;have lt:=c.lt rfl;have n:=hp x (d8 d);have q:(D.run id (p.take j)).exe<1099511627775:=by have:=ee id (p.take j) D;rw [List.length_take] at this;omega
   have gj:=aH.run id f (p.take j) D g (λi hi=>hp i (d7 hi));unfold sf;refine zS3 c1 c2 c3 ?_;refine NR (hs.dv.ext (Ext.alloc_self _ _)) gj id f x n q _ (λw3 Y3 h3=> ?_);refine zS0 ?_;apply hE
   ·refine ⟨j+1,Y3,by simp,by omega,?_⟩;rw [cG d,cH];exact hs.trans (Stp.pre (Ext.alloc_self _ _) (λb hb=>hs.dv.lt hb) h3)
   ·simp [intOf];omega
  ·have:j=p.length:=oM;subst this;rw [List.take_length] at hs;unfold sf;refine zS3 @NC @Cd.eq_1 (cM hs.dv id f) ?_;exact hK _ _ hs
end
end Go.Proofs.YtmpehclnnjgmcaaGreatDoor
