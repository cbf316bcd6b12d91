/-
  Part 2 of what the proofs of this seat share.
-/
import Derived.Test.YtmpehclnnjgmcaaGreatDoorCb1
import Derived.Laws.IdiomRangeMap
import Derived.MapKept
import Derived.Laws.MakeOwn
import Derived.Sort.AssemblyPlain
import Derived.Sort.LotD4
import Derived.Sort.LotD5
set_option linter.defProp false
set_option linter.unusedSimpArgs false
set_option linter.unusedVariables false
set_option maxHeartbeats 20000000
set_option maxRecDepth 100000
open Go.Proofs.Tryz (prog)
open Go.RowKit (intOf)
namespace Go.Sh
open Go
structure ElT (P:Program) (t tx e:TypeId) (z bytes:Nat) (zv:Value):Prop where
 un:P.underlying t=some (.slice e)
 ux:P.underlying tx=some (.slice e)
 inf:((P.info? e).map fun i=>(i.size,i.zero,i.bytes))=some (z,some zv,bytes)
 zs:zv.cells.size=z
 pos:0<z
theorem ElT.info {P:Program} {t tx e:TypeId} {z bytes:Nat} {zv:Value} (h:ElT P t tx e z bytes zv):∃i,P.info? e=some i∧i.size=z∧i.zero=some zv∧i.bytes=bytes:=by
 have:=h.inf
 cases hi:P.info? e with
 |none=>rw [hi] at this;cases this
 |some i=>rw [hi] at this;simp at this;exact ⟨i,rfl,this.1,this.2.1,this.2.2⟩
theorem isOne_oneCell {v:Value} (h:isOne v=true):v.oneCell'=true:=by cases v<;>first|rfl|cases h
theorem allOne_mem {l:List Value} (h:allOne l=true):∀v∈l,v.oneCell'=true:=by
 induction l with
 |nil=>intro v hv;cases hv
 |cons a l ih=>
  simp only [allOne,Bool.and_eq_true] at h
  intro v hv
  cases hv with
  |head=>exact isOne_oneCell h.1
  |tail _ hv=>exact ih h.2 v hv
theorem setRow_heap_eq {w:World} {g:Nat} {cur:Array Value} {e:TypeId} (hg:w.heap[g]? =some (.cells cur e (0,0))) (new:Array Value):(w.setRow g new).heap[g]? =some (.cells new e (0,0)):=setRow_heap w g cur _ e _ hg
theorem setRow_heap_ne {w:World} {g k:Nat} (new:Array Value) (h:k≠g):(w.setRow g new).heap[k]? =w.heap[k]? :=setRow_other w g k _ h
theorem getElem?_splice {l news:List Value} {p i:Nat} (hp:p+news.length≤l.length):(l.take p++news++l.drop (p+news.length))[i]? =if i<p then l[i]? else if i<p+news.length then news[i-p]? else l[i]? :=by
 by_cases h1:i<p
 ·rw [if_pos h1,List.append_assoc,List.getElem?_append_left (by simp;omega),List.getElem?_take_of_lt h1]
 ·rw [if_neg h1]
  by_cases h2:i<p+news.length
  ·rw [if_pos h2,List.getElem?_append_left (by simp;omega),List.getElem?_append_right (by simp;omega)]
   congr 1;simp;omega
  ·rw [if_neg h2,List.getElem?_append_right (by simp;omega),List.getElem?_drop]
   congr 1;simp;omega
theorem run_app_grow {P:Program} (w:World) (t tx ty e:TypeId) (i:TypeInfo) (z:Value) (ht:P.underlying t=some (.slice e)) (htx:P.underlying tx=some (.slice e)) (hi:P.info? e=some i) (hz:i.zero=some z)
  (base:Option Addr) (sLen sCap:Nat) (olds:List Value) (hfo:(Builtin.firstCells i.size sLen (.slice base sLen sCap)).run P w.drew= .ok olds.toArray w.drew)
  (a:Addr) (n c:Nat) (news:List Value) (hf:(Builtin.firstCells i.size n (.slice (some a) n c)).run P w.drew= .ok news.toArray w.drew)
  (hg:sCap<sLen+n) (h63:((sLen+n:Nat):Int)≤9223372036854775807) (hfit:Builtin.nextslicecap (sLen+n) sCap*i.bytes≤281474976710656):
  (Builtin.append_ #[t,tx] ty #[.slice base sLen sCap,.slice (some a) n c]).run P w=
   .ok (.slice (some ⟨w.heap.size,0,none⟩) (sLen+n) (grownCap w (sLen+n) sCap e))
    (w.drew.alloc (.cells ((olds++news).toArray++Builtin.zeroCells z.cells (grownCap w (sLen+n) sCap e-(sLen+n))) e)):=by
 have hn:¬(sLen+n≤sCap):=by omega
 have h63':¬(9223372036854775807<((sLen:Int)+(n:Int))):=by omega
 have h48':¬(281474976710656<Builtin.nextslicecap (sLen+n) sCap*i.bytes):=by omega
 simp [Builtin.append_,run_underlying ht,run_underlying htx,sizeOf,typeInfo,zeroValue,hi,hz,Builtin.lenOf,hn,h63',h48',Question.forced,hf,hfo,newRow,grownCap]
 congr 2
 apply Array.ext'
 simp [List.append_assoc]
theorem run_app_room {P:Program} (w:World) (t tx ty e:TypeId) (i:TypeInfo) (ht:P.underlying t=some (.slice e)) (htx:P.underlying tx=some (.slice e)) (hi:P.info? e=some i)
  (g o sLen sCap:Nat) (cur:Array Value) (hg:w.heap[g]? =some (.cells cur e (0,0)))
  (a:Addr) (m c:Nat) (news:List Value) (hf:(Builtin.firstCells i.size m (.slice (some a) m c)).run P w= .ok news.toArray w) (h1:∀u∈news,u.oneCell'=true)
  (hroom:sLen+m≤sCap) (hfit:o+sLen*i.size+news.length≤cur.size):
  (Builtin.append_ #[t,tx] ty #[.slice (some ⟨g,o,none⟩) sLen sCap,.slice (some a) m c]).run P w=
   .ok (.slice (some ⟨g,o,none⟩) (sLen+m) sCap) (w.setRow g (cur.toList.take (o+sLen*i.size)++news++cur.toList.drop (o+sLen*i.size+news.length)).toArray):=by
 have hst:=run_storeCells_at P g (o+sLen*i.size) e news 0 cur w hg (by simpa using hfit) h1
 simp only [Nat.add_zero] at hst
 simp [Builtin.append_,run_underlying ht,run_underlying htx,sizeOf,typeInfo,hi,Builtin.lenOf,hroom,hf,addr_add,hst]
def sOff:Value→Nat
 | .slice (some a) _ _=>a.off
 |_=>0
theorem blt_append {P:Program} {t tx e ty:TypeId} {z bytes:Nat} {zv:Value} (E:ElT P t tx e z bytes zv) {cs:Array Bool} {w:World} {v:Value} {n:Nat} {L:List Value} (hv:SlO w e z v n L)
  {xb xo m c:Nat} {news:List Value} (hl:news.length=m*z) (hx:∀j u,news[j]? =some u→w.cell? ⟨xb,xo+j,none⟩=some u) (h1:allOne news=true) (hm:0<m) (hb:(n+m)*bytes≤140737488355328) (hm':n+m<9223372036854775807) {k:K1}
  (h:∀v' w',SlO w' e z v' (n+m) (L++news)→Frm (fun b=>v.ownBlock=some b) w w'→(∀b,v'.ownBlock=some b→v.ownBlock=some b∨w.heap.size≤b)→(sOff v'=0∨sOff v'=sOff v)→k v' w'):
  bltS P .append #[t,tx] ty cs #[v,.slice (some ⟨xb,xo,none⟩) m c] w k:=by
 obtain ⟨i,hi,rfl,hz,rfl⟩:=E.info
 have ht:=E.un
 have htx:=E.ux
 have hzs:=E.zs
 have hx':∀j u,news[j]? =some u→w.cell? ((⟨xb,xo,none⟩:Addr).add j)=some u:=by intro j u hj;rw [addr_add];exact hx j u hj
 have hf:=run_firstCells_some (P:=P) w i.size m ⟨xb,xo,none⟩ m c news hl hx'
 have hf':=run_firstCells_some (P:=P) w.drew i.size m ⟨xb,xo,none⟩ m c news hl hx'
 unfold bltS builtin
 have grown:∀(old:Nat),old<n+m→SlO (w.drew.alloc (.cells ((L++news).toArray++Builtin.zeroCells zv.cells (grownCap w (n+m) old e-(n+m))) e)) e i.size (.slice (some ⟨w.heap.size,0,none⟩) (n+m) (grownCap w (n+m) old e)) (n+m) (L++news):=by
  intro old ho
  have hge:=grownCap_ge w (n+m) old e
  have hcm:grownCap w (n+m) old e≤maxLen:=grownCap_le_maxLen w (n+m) old e (by simp only [maxLen];omega)
  refine ⟨by rw [List.length_append,hv.1,hl,Nat.add_mul],.inr ⟨w.heap.size,0,_,_,rfl,heap_alloc_eq w.drew _,hge,hcm,?_,?_⟩⟩
  ·simp only [Array.size_append,List.size_toArray,List.length_append,size_zeroCells,hzs,hv.1,hl,←Nat.add_mul,Nat.zero_add]
   exact Nat.mul_le_mul_right _ oM
  ·intro j u hj
   rw [Nat.zero_add,Array.getElem?_append_left]
   ·simpa using hj
   ·have:=(List.getElem?_eq_some_iff.1 hj).1
    simpa using this
 have fresh:∀(o:Obj),Frm (fun b=>v.ownBlock=some b) w (w.drew.alloc o):=fun o=>((Frm.refl _ w).drew).alloc o
 rcases hv.2 with ⟨rfl,rfl⟩|⟨b,o,cap,a,rfl,hh,hnc,hcm,hsz,hc⟩
 ·have hL:L= []:=List.eq_nil_of_length_eq_zero (by simpa using hv.1)
  subst hL
  have hr:=run_app_grow w t tx ty e i zv ht htx hi hz none 0 0 [] (run_firstCells_none _ _ _ _ _) ⟨xb,xo,none⟩ m c news hf' oM oM (growslice_fits oM hb)
  rw [Sem.run_bind,hr]
  exact h _ _ (grown 0 oM) (fresh _) (fun b hb=>by injection hb with hb;subst hb;exact .inr (Nat.le_refl _)) (.inl rfl)
 ·by_cases hroom:n+m≤cap
  ·have hfit:o+n*i.size+news.length≤a.size:=by
    have:=Nat.mul_le_mul_right i.size hroom
    rw [Nat.add_mul] at this;omega
   have hr:=run_app_room w t tx ty e i ht htx hi b o n cap a hh ⟨xb,xo,none⟩ m c news hf (allOne_mem h1) hroom hfit
   rw [Sem.run_bind,hr]
   have hfit':o+n*i.size+news.length≤a.toList.length:=by simpa using hfit
   refine h _ _ ⟨by rw [List.length_append,hv.1,hl,Nat.add_mul],.inr ⟨b,o,cap,_,rfl,setRow_heap_eq hh _,hroom,hcm,?_,?_⟩⟩ ⟨rfl,rfl,rfl,by simp,fun k _ hk=>setRow_heap_ne _ (fun e=>hk (by simp [Value.ownBlock,e]))⟩ (fun b' hb'=> .inl hb') (.inr rfl)
   ·simp;omega
   ·intro j u hj
    rw [List.getElem?_toArray,getElem?_splice hfit']
    by_cases hjL:j<L.length
    ·rw [List.getElem?_append_left hjL] at hj
     have:=hc j u hj
     rw [if_pos (by have:=hv.1;omega)];simpa using this
    ·rw [List.getElem?_append_right oM] at hj
     have hlt:=(List.getElem?_eq_some_iff.1 hj).1
     have hv1:=hv.1
     rw [if_neg oM,if_pos oM,←hj]
     congr 1;omega
  ·have hxo:∀j u,L[j]? =some u→w.drew.cell? ((⟨b,o,none⟩:Addr).add j)=some u:=by
    intro j u hj;rw [addr_add];exact hv.cell rfl hj
   have hfo:=run_firstCells_some (P:=P) w.drew i.size n ⟨b,o,none⟩ n cap L hv.1 hxo
   have hr:=run_app_grow w t tx ty e i zv ht htx hi hz (some ⟨b,o,none⟩) n cap L hfo ⟨xb,xo,none⟩ m c news hf' oM oM (growslice_fits oM hb)
   rw [Sem.run_bind,hr]
   exact h _ _ (grown cap oM) (fresh _) (fun b hb=>by injection hb with hb;subst hb;exact .inr (Nat.le_refl _)) (.inl rfl)
def zrow (zv:Value) (n:Nat):Array Value:=madeCells zv.cells n
theorem ev_make {P:Program} {t e:TypeId} {z bytes:Nat} {zv:Value} (E:ElT P t t e z bytes zv) (l n:Int) (w:World) (k:K1) (h0:0≤l) (hl:l≤n) (hb:(bytes:Int)*n≤281474976710656) (h63:n≤9223372036854775807):
  ev P (Instr.makeSlice t (.int .i64 l) (.int .i64 n)) w k=k (.slice (some ⟨w.heap.size,0,none⟩) l.toNat n.toNat) (w.alloc (.cells (zrow zv (n.toNat*z)) e)):=by
 obtain ⟨i,hi,rfl,hz,rfl⟩:=E.info
 exact ev_of_run (run_make w t e i zv E.un hi hz .i64 .i64 l n h0 hl hb h63) k
theorem zrow_get {zv:Value} {n i:Nat} (h:i<n):(zrow zv n)[i]? =some (zv.cells[i%zv.cells.size]!):=by
 unfold zrow madeCells;simp [h]
theorem zrow_cells (w:World) (zv:Value) (n:Nat) (t:TypeId):Cells (w.alloc (.cells (zrow zv n) t)) w.heap.size t n (fun i=>zv.cells[i%zv.cells.size]!):=
 ⟨zrow zv n,heap_alloc_eq _ _,by simp [zrow,madeCells],fun i hi=>zrow_get hi⟩
theorem zrow_sl (w:World) (zv:Value) (c z:Nat) (t:TypeId) (hm:c≤maxLen):SlO (w.alloc (.cells (zrow zv (c*z)) t)) t z (.slice (some ⟨w.heap.size,0,none⟩) 0 c) 0 []:=
 ⟨by simp,.inr ⟨w.heap.size,0,c,_,rfl,heap_alloc_eq _ _,Nat.zero_le _,hm,by simp [zrow,madeCells],by intro i u h;simp at h⟩⟩
theorem run_sl {P:Program} {t e:TypeId} {z bytes:Nat} {zv:Value} (E:ElT P t t e z bytes zv) (b o len cap:Nat) (lo hi:Option Value) (l h:Nat) (w:World)
  (hb:(Instr.sliceBounds true len cap lo hi none).run P w= .ok (l,h,cap) w):(Instr.sliceAt t (.slice (some ⟨b,o,none⟩) len cap) lo hi none).run P w= .ok (.slice (some ⟨b,if cap=l then o else o+l*z,none⟩) (h-l) (cap-l)) w:=by
 obtain ⟨i,hi,rfl,hz,rfl⟩:=E.info
 simp only [Instr.sliceAt,Sem.run_bind,run_underlying_some E.un,Result.andThen_ok,Instr.slice,hb]
 simp only [sizeOf,typeInfo,Sem.run_bind,program,Sem.run,hi,Result.andThen_ok,Sem.run_pure,Option.map_some]
 by_cases hc:cap=l
 ·simp [hc]
 ·simp [hc,addr_add]
theorem run_bound {P:Program} (k:IntKind) (n y:Nat) (c:BoundsCode) (w:World) (h:n≤y):(Instr.sliceBound (.int k n) y c).run P w= .ok n w:=by
 simp [Instr.sliceBound,asIntOf,h]
theorem run_hi {P:Program} {t e:TypeId} {z bytes:Nat} {zv:Value} (E:ElT P t t e z bytes zv) (b o len cap:Nat) (k:IntKind) (n:Nat) (w:World) (h:n≤cap):(Instr.sliceAt t (.slice (some ⟨b,o,none⟩) len cap) none (some (.int k n)) none).run P w= .ok (.slice (some ⟨b,o,none⟩) n cap) w:=by
 have:=run_sl E b o len cap none (some (.int k n)) 0 n w (by simp [Instr.sliceBounds,run_bound _ _ _ _ _ h])
 simpa using this
theorem run_lo {P:Program} {t e:TypeId} {z bytes:Nat} {zv:Value} (E:ElT P t t e z bytes zv) (b o len cap:Nat) (k:IntKind) (n:Nat) (w:World) (h:n≤len):(Instr.sliceAt t (.slice (some ⟨b,o,none⟩) len cap) (some (.int k n)) none none).run P w= .ok (.slice (some ⟨b,if cap=n then o else o+n*z,none⟩) (len-n) (cap-n)) w:=
 run_sl E b o len cap (some (.int k n)) none n len w (by simp [Instr.sliceBounds,run_bound _ _ _ _ _ h])
def MapI (w:World) (r:Nat) (es:Array MapEntry) (clock:Nat) (m:Int→Option Value):Prop:=
 w.heap[r]? =some (.map es clock)∧(∀x∈es.toList,x.born<clock)∧(es.toList.map (·.born)).Nodup∧(es.toList.map (·.key)).Nodup∧(∀x∈es.toList,∃i,x.key= .int .i64 i)∧∀i v,m i=some v↔∃x∈es.toList,x.key= .int .i64 i∧x.val=v
theorem MapI.lt {w:World} {r:Nat} {es:Array MapEntry} {clock:Nat} {m:Int→Option Value} (h:MapI w r es clock m):r<w.heap.size:=lt_of_heap h.1
theorem MapI.of_heap {w w':World} {r:Nat} {es:Array MapEntry} {clock:Nat} {m:Int→Option Value} (h:MapI w r es clock m) (e:w'.heap[r]? =w.heap[r]?):MapI w' r es clock m:=⟨e.trans h.1,h.2⟩
theorem MapI.empty {w:World} {r clock:Nat} (h:w.heap[r]? =some (.map #[] clock)):MapI w r #[] clock (fun _=>none):=⟨h,by simp,by simp,by simp,by simp,by simp⟩
theorem ev_makeMap {P:Program} (t:TypeId) (w:World) (k:K1):ev P (Instr.makeMap t none) w k=k (.map (some w.heap.size)) (w.alloc (.map #[] 0)):=rfl
def mapT (P:Program) (t:TypeId):Bool:=
 match P.underlying t with
 |some (.map kt _)=>match P.underlying kt with
  |some (.int .i64)=>true
  |_=>false
 |_=>false
theorem mapT_un {P:Program} {t:TypeId} (h:mapT P t=true):∃kt et,P.underlying t=some (.map kt et)∧P.underlying kt=some (.int .i64):=by
 unfold mapT at h
 split at h
 ·rename_i kt et hu
  split at h
  ·rename_i hk;exact ⟨kt,et,hu,hk⟩
  ·cases h
 ·cases h
def putO (w:World) (r:Nat) (o:Obj):World:={w with heap:=w.heap.setIfInBounds r o}
theorem putO_eq {w:World} {r:Nat} {o o':Obj} (h:w.heap[r]? =some o):(putO w r o').heap[r]? =some o':=(MapKept.heap_set h).1
theorem putO_ne {w:World} {r b:Nat} {o':Obj} (h:b≠r):(putO w r o').heap[b]? =w.heap[b]? :=by
 show (w.heap.setIfInBounds r o')[b]? =_
 rw [Array.getElem?_setIfInBounds_ne (Ne.symm h)]
theorem putO_frm {w:World} {r:Nat} {o':Obj}:Frm (fun b=>b=r) w (putO w r o'):=⟨rfl,rfl,rfl,by simp [putO],fun _ _ hn=>putO_ne hn⟩
theorem isKey_i64 (i:Int):MapKept.IsKey (.int .i64) (.int .i64 i):=by simp [MapKept.IsKey]
theorem ac_mapUpdate {P:Program} {t:TypeId} (ht:mapT P t=true) {w:World} {r:Nat} {es:Array MapEntry} {clock:Nat} {m:Int→Option Value} (hm:MapI w r es clock m) (i:Int) (v:Value) {k:World→Prop}
  (h:∀w' es' clock',MapI w' r es' clock' (fun j=>if j=i then some v else m j)→Frm (fun b=>b=r) w w'→k w'):ac P (Instr.mapUpdate t (.map (some r)) (.int .i64 i) v) w k:=by
 obtain ⟨kt,et,hu,hk⟩:=mapT_un ht
 obtain ⟨hb,hclk,hbn,hkn,hks,hmm⟩:=hm
 have hks':∀x∈es.toList,MapKept.IsKey (.int .i64) x.key:=by
  intro x hx;obtain ⟨i,e⟩:=hks x hx;rw [e];exact isKey_i64 i
 unfold ac
 rcases MapKept.findNow_spec (isKey_i64 i) es.toList 0 hks' with ⟨h1,h2⟩|⟨j,e,h1,h2,h3⟩
 ·have hr:(Instr.mapUpdate t (.map (some r)) (.int .i64 i) v).run P w= .ok () (putO w r (.map (es.push {key:= .int .i64 i,val:=v,born:=clock}) (clock+1))):=by
   simp [Instr.mapUpdate,run_underlying hu,MapKept.run_getObj_map hb,MapKept.run_checkKey hk (isKey_i64 i),MapKept.run_findKey hk h1,MapKept.run_setObj_map _ hb,putO]
  rw [hr]
  refine h _ _ _ ⟨putO_eq hb,?_,?_,?_,?_,?_⟩ putO_frm
  ·intro x hx
   simp only [Array.toList_push,List.mem_append,List.mem_singleton] at hx
   rcases hx with hx|rfl
   ·have:=hclk x hx;omega
   ·exact Nat.lt_succ_self _
  ·simp only [Array.toList_push,List.map_append,List.map_cons,List.map_nil]
   rw [List.nodup_append]
   refine ⟨hbn,by simp,?_⟩
   intro a ha b hb' e
   simp only [List.mem_singleton] at hb'
   obtain ⟨x,hx,rfl⟩:=List.mem_map.1 ha
   have:=hclk x hx
   omega
  ·simp only [Array.toList_push,List.map_append,List.map_cons,List.map_nil]
   rw [List.nodup_append]
   refine ⟨hkn,by simp,?_⟩
   intro a ha b hb' e
   simp only [List.mem_singleton] at hb'
   obtain ⟨x,hx,rfl⟩:=List.mem_map.1 ha
   exact h2 x hx (e.trans hb')
  ·intro x hx
   simp only [Array.toList_push,List.mem_append,List.mem_singleton] at hx
   rcases hx with hx|rfl
   ·exact hks x hx
   ·exact ⟨i,rfl⟩
  ·intro j u
   simp only [Array.toList_push,List.mem_append,List.mem_singleton]
   by_cases hj:j=i
   ·subst hj
    simp only [if_true,Option.some.injEq]
    constructor
    ·rintro rfl;exact ⟨_,.inr rfl,rfl,rfl⟩
    ·rintro ⟨x,hx|rfl,hk,hv⟩
     ·exact absurd hk (h2 x hx)
     ·exact hv
   ·simp only [hj,if_false]
    rw [hmm]
    constructor
    ·rintro ⟨x,hx,hk,hv⟩;exact ⟨x,.inl hx,hk,hv⟩
    ·rintro ⟨x,hx|rfl,hk,hv⟩
     ·exact ⟨x,hx,hk,hv⟩
     ·injection hk with _ hk;exact absurd hk.symm hj
 ·have hj:es[j]? =some e:=by simpa using h2
  have hr:(Instr.mapUpdate t (.map (some r)) (.int .i64 i) v).run P w= .ok () (putO w r (.map (es.modify j fun e=>{e with key:= .int .i64 i,val:=v}) clock)):=by
   simp [Instr.mapUpdate,run_underlying hu,MapKept.run_getObj_map hb,MapKept.run_checkKey hk (isKey_i64 i),MapKept.run_findKey hk h1,hj,h3,MapKept.run_keyThatStays (isKey_i64 i),MapKept.run_setObj_map _ hb,putO]
  rw [hr]
  have hkey:∀e',es[j]? =some e'→({e' with key:= .int .i64 i,val:=v}:MapEntry).key=e'.key:=fun e' he'=>by rw [hj] at he';cases he';exact h3.symm
  have hjl:j<es.size:=(Array.getElem?_eq_some_iff.1 hj).1
  have hst:=MapKept.stamped_modify (es:=es) (clock:=clock) ⟨hclk,hbn,hkn⟩ j (fun e=>{e with key:= .int .i64 i,val:=v}) (fun _ _=>rfl) (fun e' _ he'=>hkey e' he')
  have hmem:∀x,x∈(es.modify j fun e=>{e with key:= .int .i64 i,val:=v}).toList↔(x={e with key:= .int .i64 i,val:=v}∨(x∈es.toList∧x.key≠ .int .i64 i)):=by
   intro x
   rw [Array.mem_toList_iff,Array.mem_iff_getElem?]
   constructor
   ·rintro ⟨q,hq⟩
    rw [Array.getElem?_modify] at hq
    by_cases hqj:j=q
    ·subst hqj;rw [if_pos rfl,hj] at hq;simp at hq;exact .inl hq.symm
    ·rw [if_neg hqj] at hq
     refine .inr ⟨by rw [Array.mem_toList_iff,Array.mem_iff_getElem?];exact ⟨q,hq⟩,?_⟩
     intro hxk
     have hql:q<es.size:=(Array.getElem?_eq_some_iff.1 hq).1
     have h5:(es.toList.map (·.key))[q]? =some (.int .i64 i):=by simp [List.getElem?_map,hq,hxk]
     have h6:(es.toList.map (·.key))[j]? =some (.int .i64 i):=by simp [List.getElem?_map,hj,h3]
     exact hqj ((List.getElem?_inj (by simpa using hjl) hkn).1 (h6.trans h5.symm))
   ·rintro (rfl|⟨hx,hxk⟩)
    ·exact ⟨j,by rw [Array.getElem?_modify,if_pos rfl,hj];rfl⟩
    ·rw [Array.mem_toList_iff,Array.mem_iff_getElem?] at hx
     obtain ⟨q,hq⟩:=hx
     refine ⟨q,?_⟩
     rw [Array.getElem?_modify,if_neg,hq]
     intro hqj;subst hqj;rw [hj] at hq;cases hq;exact hxk h3
  refine h _ _ _ ⟨putO_eq hb,hst.1,hst.2.1,hst.2.2,?_,?_⟩ putO_frm
  ·intro x hx
   rcases (hmem x).1 hx with rfl|⟨hx,_⟩
   ·exact ⟨i,rfl⟩
   ·exact hks x hx
  ·intro q u
   by_cases hq:q=i
   ·subst hq
    simp only [if_true,Option.some.injEq]
    constructor
    ·rintro rfl;exact ⟨_,(hmem _).2 (.inl rfl),rfl,rfl⟩
    ·rintro ⟨x,hx,hk,hv⟩
     rcases (hmem x).1 hx with rfl|⟨_,hn⟩
     ·exact hv
     ·exact absurd hk hn
   ·simp only [hq,if_false]
    rw [hmm]
    constructor
    ·rintro ⟨x,hx,hk,hv⟩;exact ⟨x,(hmem x).2 (.inr ⟨hx,by rw [hk];intro e;injection e with _ e;exact hq e⟩),hk,hv⟩
    ·rintro ⟨x,hx,hk,hv⟩
     rcases (hmem x).1 hx with rfl|⟨hx,_⟩
     ·injection hk with _ hk;exact absurd hk.symm hq
     ·exact ⟨x,hx,hk,hv⟩
theorem ev_range {P:Program} {t:TypeId} (ht:mapT P t=true) {w:World} {r:Nat} {es:Array MapEntry} {clock:Nat} (hb:w.heap[r]? =some (.map es clock)) (k:K1):
  ev P (Instr.range t (.map (some r))) w k=k (.pointer (some ⟨w.heap.size,0,none⟩)) (w.alloc (.mapIter (some r) clock #[] clock)):=by
 obtain ⟨kt,et,hu,hk⟩:=mapT_un ht
 exact ev_of_run (run_range_map w t kt et r es clock hu hb) k
theorem ev_next {P:Program} {ty:TypeId} {w:World} {it m since last clock:Nat} {seen:Array Nat} {es:Array MapEntry} (hit:w.heap[it]? =some (.mapIter (some m) since seen last)) (hm:w.heap[m]? =some (.map es clock)) (hold:∀x∈es.toList,x.born<since) (hsl:since≤last) {k:K1}
  (h0:(∀x∈es.toList,x.born∈seen)→∀w',Ext w w'→k (.tuple #[.bool false]) w')
  (h1:∀x∈es.toList,x.born∉seen→∀w',w'.heap[it]? =some (.mapIter (some m) since (seen.push x.born) clock)→w'.heap.size=w.heap.size→Frm (fun b=>b=it) w w'→k (.tuple #[.bool true,x.key,x.val]) w'):ev P (Instr.next (.pointer (some ⟨it,0,none⟩)) false ty) w k:=by
 unfold ev
 simp only [Instr.next,getObj,Sem.run_bind,Sem.run,hit,hm,Result.andThen,Go.next_test_false seen es since last hold hsl,Bool.false_eq_true,if_false]
 have hmem:∀x∈(Array.filter (fun e=> !seen.contains e.born) es).toList,x∈es.toList∧x.born∉seen:=fun x hx=>by simpa using hx
 have hall:(Array.filter (fun e=> !seen.contains e.born) es).size=0→∀x∈es.toList,x.born∈seen:=by
  intro h x hx
  by_cases hs:x.born∈seen
  ·exact hs
  ·have:x∈Array.filter (fun e=> !seen.contains e.born) es:=by simp [hs];simpa using hx
   rw [Array.eq_empty_of_size_eq_zero h] at this
   simp at this
 generalize Array.filter (fun e=> !seen.contains e.born) es=L at hmem hall ⊢
 have e1:L.filter (fun x=>decide (x.born<since))=L:=Array.filter_eq_self.2 (fun x hx=>by simpa using hold x (hmem x (by simpa using hx)).1)
 have e2:L.filter (fun x=>decide (x.born≥since))= #[]:=by
  rw [Array.filter_eq_empty_iff]
  intro x hx
  have:=hold x (hmem x (by simpa using hx)).1
  simp
  omega
 simp only [e1,e2,Array.append_empty]
 by_cases hz:L.size=0
 ·have:L= #[]:=Array.eq_empty_of_size_eq_zero hz
  subst this
  have hr:(choose (Question.mapNext 1)).run P w= .ok 0 w:=by simp [choose,Sem.run,Question.forced]
  simp only [Array.isEmpty_empty,if_true,Array.map_empty,Array.append_empty,List.size_toArray,List.length_singleton,hr]
  exact h0 (hall hz) w (Ext.refl w)
 ·have hne:L.isEmpty=false:=by simp [Array.isEmpty,hz]
  simp only [hne,Bool.false_eq_true,if_false,Array.empty_append,Array.size_map]
  have hch:∃(j:Nat) (w1:World),j<L.size∧w1.heap=w.heap∧w1.os=w.os∧w1.tape=w.tape∧w1.output=w.output∧(choose (Question.mapNext L.size)).run P w= .ok j w1:=by
   by_cases hf:L.size≤1
   ·exact ⟨0,w,by omega,rfl,rfl,rfl,rfl,by simp [choose,Sem.run,Question.forced,hf]⟩
   ·exact ⟨_,w.drew,Nat.mod_lt _ oM,rfl,rfl,rfl,rfl,by
     simp only [choose,Sem.run,Question.forced,decide_eq_true_eq,hf,if_false,Question.cut]
     rfl⟩
  obtain ⟨j,w1,hj,a1,a2,a3,a4,hrun⟩:=hch
  have hit1:w1.heap[it]? =some (.mapIter (some m) since seen last):=by rw [a1];exact hit
  have hset:∀o',(setObj it o').run P w1= .ok () (putO w1 it o'):=fun o'=>by simp [setObj,Sem.run,hit1,putO]
  simp only [hrun,Array.getElem?_map,Array.getElem?_eq_getElem hj,Option.map_some,Sem.run_bind,hset,Result.andThen]
  have hx:=hmem L[j] (by simp)
  refine h1 L[j] hx.1 hx.2 _ (putO_eq hit1) (by simp [putO,a1]) ⟨a2,a3,a4,by simp [putO,a1],?_⟩
  intro b hb hn
  rw [putO_ne hn,a1]
theorem ev_entry {P:Program} {w:World} {it m since clock stamp:Nat} {seen:Array Nat} {es:Array MapEntry} (hit:w.heap[it]? =some (.mapIter (some m) since (seen.push stamp) clock)) (hm:w.heap[m]? =some (.map es clock)) (hn:(es.toList.map (·.born)).Nodup) {x:MapEntry} (hx:x∈es.toList) (hxs:x.born=stamp) (k:K1):
  ev P (Instr.entry (.pointer (some ⟨it,0,none⟩))) w k=k (.tuple #[x.key,x.val]) w:=by
 refine ev_of_run ?_ k
 subst hxs
 have hf:=find_born x es.toList hn hx
 have hf':es.find? (fun e=>e.born==x.born)=some x:=by rw [←Array.find?_toList];exact hf
 simp [Instr.entry,getObj,Sem.run,hit,hm,Sem.run_bind,hf']
theorem blt_clear {P:Program} {t ty:TypeId} (ht:mapT P t=true) {cs:Array Bool} {w:World} {r:Nat} {es:Array MapEntry} {clock:Nat} (hb:w.heap[r]? =some (.map es clock)) (k:K1):
  bltS P .clear #[t] ty cs #[.map (some r)] w k=k (.tuple #[]) (putO w r (.map #[] clock)):=by
 obtain ⟨kt,et,hu,hk⟩:=mapT_un ht
 have hr:(Builtin.clear_ #[t] ty #[.map (some r)]).run P w= .ok (.tuple #[]) (putO w r (.map #[] clock)):=by
  simp [Builtin.clear_,run_underlying hu,MapKept.run_getObj_map hb,MapKept.run_setObj_map _ hb,putO]
 unfold bltS builtin
 rw [Sem.run_bind,hr];rfl
theorem ev_bs0 {P:Program} {t e:TypeId} {z bytes:Nat} {zv:Value} (E:ElT P t t e z bytes zv) (w:World) (k:K1):ev P (Instr.buildSlice t 0 #[]) w k=k (.slice (some ⟨w.heap.size,0,none⟩) 0 0) (w.alloc (.cells #[] e)):=by
 obtain ⟨i,hi,rfl,hz,rfl⟩:=E.info
 refine ev_of_run ?_ k
 unfold Instr.buildSlice
 rw [Sem.run_bind,run_underlying_some E.un,Result.andThen_ok]
 simp only
 simp [sizeOf,typeInfo,program,Sem.run,hi,Sem.run_bind,Instr.fill,newRow,Array.range_zero']
theorem SlO.lit0 (w:World) (t:TypeId) (z:Nat):SlO (w.alloc (.cells #[] t)) t z (.slice (some ⟨w.heap.size,0,none⟩) 0 0) 0 []:=
 ⟨by simp,.inr ⟨w.heap.size,0,0,#[],rfl,heap_alloc_eq _ _,Nat.le_refl _,Nat.zero_le _,by simp,by intro i u h;simp at h⟩⟩
theorem equalIn_sl {P:Program} {t:TypeId} (h:sliceT P t=true) (p:Option Addr) (n c:Nat) (w:World) (d:Nat):(Op.equalIn (d+1) t (.slice p n c) (.slice none 0 0)).run P w= .ok p.isNone w:=by
 unfold sliceT at h
 split at h
 ·rename_i e hu
  unfold Op.equalIn
  rw [Sem.run_bind,run_underlying_some hu,Result.andThen_ok]
  cases p<;>rfl
 ·cases h
theorem run_eq_sl_nil {P:Program} {t:TypeId} (h:sliceT P t=true) (x y:Operand) (p:Option Addr) (n c:Nat) (w:World):(binM .eql t x y (.slice p n c) (.slice none 0 0)).run P w= .ok (.bool p.isNone) w:=
 run_eqM (by cases p<;>rfl) (by cases p<;>rfl) (equalIn_sl h p n c w)
theorem run_shr_i {P:Program} {k:IntKind} (t:TypeId) (x y:Operand) (a:Nat) (n:Int) (w:World) (h0:0≤n) (hn:n≤k.bits):(binM .shr t x y (.int k (a:Int)) (.int .i64 n)).run P w= .ok (.int k ((a/2^n.toNat:Nat):Int)) w:=by
 have:=shr_nat (P:=P) (k:=k) (j:= .i64) t x y a n.toNat w oM
 rwa [Int.toNat_of_nonneg h0] at this
theorem run_shl_i {P:Program} {k:IntKind} (hu:unsg k=true) (t:TypeId) (x y:Operand) (a:Nat) (n:Int) (w:World) (h0:0≤n) (hn:n≤k.bits):(binM .shl t x y (.int k (a:Int)) (.int .i64 n)).run P w= .ok (.int k ((a*2^n.toNat%2^k.bits:Nat):Int)) w:=by
 have:=shl_nat (P:=P) (k:=k) (j:= .i64) hu t x y a n.toNat w oM
 rwa [Int.toNat_of_nonneg h0] at this
end Go.Sh
namespace Go.Proofs.YtmpehclnnjgmcaaGreatDoor
open Go Go.Sh
theorem el_58_58:ElT prog 58 58 26 1 8 (.int .u64 0):=⟨by kernel_rfl,by kernel_rfl,by kernel_rfl,by kernel_rfl,by decide⟩
theorem el_79_79:ElT prog 79 79 98 2 16 (.agg #[.int .u64 0,.int .u64 0]):=⟨by kernel_rfl,by kernel_rfl,by kernel_rfl,by kernel_rfl,by decide⟩
theorem el_51_51:ElT prog 51 51 5 1 1 (.int .u8 0):=⟨by kernel_rfl,by kernel_rfl,by kernel_rfl,by kernel_rfl,by decide⟩
theorem el_152_152:ElT prog 152 152 209 2 32 (.agg #[.int .u64 0,.slice none 0 0]):=⟨by kernel_rfl,by kernel_rfl,by kernel_rfl,by kernel_rfl,by decide⟩
theorem el_50_50:ElT prog 50 50 3 1 8 (.int .i64 0):=⟨by kernel_rfl,by kernel_rfl,by kernel_rfl,by kernel_rfl,by decide⟩
theorem el_120_120:ElT prog 120 120 220 3 24 (.agg #[.int .u8 0,.int .u64 0,.int .u64 0]):=⟨by kernel_rfl,by kernel_rfl,by kernel_rfl,by kernel_rfl,by decide⟩
theorem el_210_210:ElT prog 210 210 195 4 32 (.agg #[.int .i64 0,.int .i64 0,.int .i64 0,.bool false]):=⟨by kernel_rfl,by kernel_rfl,by kernel_rfl,by kernel_rfl,by decide⟩
theorem el_34_34:ElT prog 34 34 63 2 16 (.agg #[.int .u64 0,.int .i64 0]):=⟨by kernel_rfl,by kernel_rfl,by kernel_rfl,by kernel_rfl,by decide⟩
theorem el_25_25:ElT prog 25 25 27 1 8 (.int .u64 0):=⟨by kernel_rfl,by kernel_rfl,by kernel_rfl,by kernel_rfl,by decide⟩
theorem inv_31_Err (p:Option Addr) (w:World) (k:K1):invS prog (.iface 31 (.pointer p)) "Err" #[] w k=callS prog 28 #[.pointer p] w k:=inv_of_run kR k
theorem inv_31_Store (p:Option Addr) (a0 a1:Value) (w:World) (k:K1):invS prog (.iface 31 (.pointer p)) "Store" #[a0,a1] w k=callS prog 30 #[.pointer p,a0,a1] w k:=inv_of_run kR k
theorem inv_31_Flush (p:Option Addr) (a0:Value) (w:World) (k:K1):invS prog (.iface 31 (.pointer p)) "Flush" #[a0] w k=callS prog 101 #[.pointer p,a0] w k:=inv_of_run kR k
theorem inv_31_Fence (p:Option Addr) (w:World) (k:K1):invS prog (.iface 31 (.pointer p)) "Fence" #[] w k=callS prog 102 #[.pointer p] w k:=inv_of_run kR k
theorem inv_31_Size (p:Option Addr) (w:World) (k:K1):invS prog (.iface 31 (.pointer p)) "Size" #[] w k=callS prog 105 #[.pointer p] w k:=inv_of_run kR k
theorem inv_31_Load (p:Option Addr) (a0:Value) (w:World) (k:K1):invS prog (.iface 31 (.pointer p)) "Load" #[a0] w k=callS prog 32 #[.pointer p,a0] w k:=inv_of_run kR k
def RQ0:=
 And.intro (@ev_make prog 58 _ _ _ _ el_58_58)<|
 And.intro (@ev_make prog 51 _ _ _ _ el_51_51)<|
 And.intro (@ev_make prog 152 _ _ _ _ el_152_152)<|
 And.intro (@ev_bs0 prog 58 _ _ _ _ el_58_58)<|
 And.intro (@ev_bs0 prog 79 _ _ _ _ el_79_79)<|
 And.intro (fun x y p n c w k=>ev_of_run (@Go.Sh.run_eq_sl_nil prog 58 kR x y p n c w) k)<|
 And.intro (fun x y p n c w k=>ev_of_run (@Go.Sh.run_eq_sl_nil prog 79 kR x y p n c w) k)<|
 And.intro (fun ty a n c w k=>rd_of_run (@Go.Sh.run_len prog 58 kR ty a n c w) k)<|
 And.intro (fun ty a n c w u=>ag_of_run (@Go.Sh.run_len prog 58 kR ty a n c w) u)<|
 And.intro (fun ty a n c w k=>rd_of_run (@Go.Sh.run_len prog 51 kR ty a n c w) k)<|
 And.intro (fun ty a n c w u=>ag_of_run (@Go.Sh.run_len prog 51 kR ty a n c w) u)<|
 (fun ty a n c w k=>rd_of_run (@Go.Sh.run_len prog 79 kR ty a n c w) k)
def RQ1:=
 And.intro (fun ty a n c w u=>ag_of_run (@Go.Sh.run_len prog 79 kR ty a n c w) u)<|
 And.intro (fun ty a n c w k=>rd_of_run (@Go.Sh.run_len prog 50 kR ty a n c w) k)<|
 And.intro (fun ty a n c w u=>ag_of_run (@Go.Sh.run_len prog 50 kR ty a n c w) u)<|
 And.intro (fun ty a n c w k=>rd_of_run (@Go.Sh.run_len prog 152 kR ty a n c w) k)<|
 And.intro (fun ty a n c w u=>ag_of_run (@Go.Sh.run_len prog 152 kR ty a n c w) u)<|
 And.intro (fun ty a n c w k=>rd_of_run (@Go.Sh.run_len prog 120 kR ty a n c w) k)<|
 And.intro (fun ty a n c w u=>ag_of_run (@Go.Sh.run_len prog 120 kR ty a n c w) u)<|
 And.intro (fun ty a n c w k=>rd_of_run (@Go.Sh.run_len prog 254 kR ty a n c w) k)<|
 And.intro (fun ty a n c w u=>ag_of_run (@Go.Sh.run_len prog 254 kR ty a n c w) u)<|
 And.intro (fun ty a n c w k=>rd_of_run (@Go.Sh.run_len prog 248 kR ty a n c w) k)<|
 And.intro (fun ty a n c w u=>ag_of_run (@Go.Sh.run_len prog 248 kR ty a n c w) u)<|
 (fun ty a n c w k=>rd_of_run (@Go.Sh.run_len prog 210 kR ty a n c w) k)
def RQ2:=
 And.intro (fun ty a n c w u=>ag_of_run (@Go.Sh.run_len prog 210 kR ty a n c w) u)<|
 And.intro (fun ty a n c w k=>rd_of_run (@Go.Sh.run_len prog 25 kR ty a n c w) k)<|
 And.intro (fun ty a n c w u=>ag_of_run (@Go.Sh.run_len prog 25 kR ty a n c w) u)<|
 And.intro (fun ty a n c w k=>rd_of_run (@Go.Sh.run_len prog 213 kR ty a n c w) k)<|
 And.intro (fun ty a n c w u=>ag_of_run (@Go.Sh.run_len prog 213 kR ty a n c w) u)<|
 And.intro (fun ty a n c w k=>rd_of_run (@Go.Sh.run_len prog 34 kR ty a n c w) k)<|
 And.intro (fun ty a n c w u=>ag_of_run (@Go.Sh.run_len prog 34 kR ty a n c w) u)<|
 And.intro (fun b o len cap kd n w (k:K1) h=>ev_of_run (run_hi el_79_79 b o len cap kd n w h) k)<|
 And.intro (fun b o len cap kd n w (k:K1) h=>ev_of_run (run_lo el_79_79 b o len cap kd n w h) k)<|
 And.intro (fun b o len cap kd n w (k:Value→Prop) h=>rd_of_run (run_hi el_79_79 b o len cap kd n w h) k)<|
 And.intro (fun b o len cap kd n w (k:Value→Prop) h=>rd_of_run (run_lo el_79_79 b o len cap kd n w h) k)<|
 (fun b o len cap kd n w (k:K1) h=>ev_of_run (run_hi el_58_58 b o len cap kd n w h) k)
def RQ3:=
 And.intro (fun b o len cap kd n w (k:K1) h=>ev_of_run (run_lo el_58_58 b o len cap kd n w h) k)<|
 And.intro (fun b o len cap kd n w (k:Value→Prop) h=>rd_of_run (run_hi el_58_58 b o len cap kd n w h) k)<|
 And.intro (fun b o len cap kd n w (k:Value→Prop) h=>rd_of_run (run_lo el_58_58 b o len cap kd n w h) k)<|
 And.intro (fun b o len cap kd n w (k:K1) h=>ev_of_run (run_hi el_120_120 b o len cap kd n w h) k)<|
 And.intro (fun b o len cap kd n w (k:K1) h=>ev_of_run (run_lo el_120_120 b o len cap kd n w h) k)<|
 And.intro (fun b o len cap kd n w (k:Value→Prop) h=>rd_of_run (run_hi el_120_120 b o len cap kd n w h) k)<|
 And.intro (fun b o len cap kd n w (k:Value→Prop) h=>rd_of_run (run_lo el_120_120 b o len cap kd n w h) k)<|
 And.intro (fun b o len cap kd n w (k:K1) h=>ev_of_run (run_hi el_34_34 b o len cap kd n w h) k)<|
 And.intro (fun b o len cap kd n w (k:K1) h=>ev_of_run (run_lo el_34_34 b o len cap kd n w h) k)<|
 And.intro (fun b o len cap kd n w (k:Value→Prop) h=>rd_of_run (run_hi el_34_34 b o len cap kd n w h) k)<|
 And.intro (fun b o len cap kd n w (k:Value→Prop) h=>rd_of_run (run_lo el_34_34 b o len cap kd n w h) k)<|
 (fun t x y (a:Nat) (n:Int) w (k:K1) (h0:0≤n) (hn:n≤8)=>ev_of_run (Go.Sh.run_shr_i (P:=prog) (k:= .u8) t x y a n w h0 hn) k)
def RQ4:=
 And.intro (fun t x y (a:Nat) (n:Int) w (k:K1) (h0:0≤n) (hn:n≤8)=>ev_of_run (show (binM .shl t x y (.int .u8 (a:Int)) (.int .i64 n)).run prog w= .ok (.int .u8 ((a*2^n.toNat%256:Nat):Int)) w from Go.Sh.run_shl_i (k:= .u8) rfl t x y a n w h0 hn) k)<|
 And.intro (fun t x y (a:Nat) (n:Int) w (k:Value→Prop) (h0:0≤n) (hn:n≤8)=>rd_of_run (Go.Sh.run_shr_i (P:=prog) (k:= .u8) t x y a n w h0 hn) k)<|
 And.intro (fun t x y (a:Nat) (n:Int) w (k:Value→Prop) (h0:0≤n) (hn:n≤8)=>rd_of_run (show (binM .shl t x y (.int .u8 (a:Int)) (.int .i64 n)).run prog w= .ok (.int .u8 ((a*2^n.toNat%256:Nat):Int)) w from Go.Sh.run_shl_i (k:= .u8) rfl t x y a n w h0 hn) k)<|
 And.intro (fun t x y (a:Nat) (n:Int) w (k:K1) (h0:0≤n) (hn:n≤16)=>ev_of_run (Go.Sh.run_shr_i (P:=prog) (k:= .u16) t x y a n w h0 hn) k)<|
 And.intro (fun t x y (a:Nat) (n:Int) w (k:K1) (h0:0≤n) (hn:n≤16)=>ev_of_run (show (binM .shl t x y (.int .u16 (a:Int)) (.int .i64 n)).run prog w= .ok (.int .u16 ((a*2^n.toNat%65536:Nat):Int)) w from Go.Sh.run_shl_i (k:= .u16) rfl t x y a n w h0 hn) k)<|
 And.intro (fun t x y (a:Nat) (n:Int) w (k:Value→Prop) (h0:0≤n) (hn:n≤16)=>rd_of_run (Go.Sh.run_shr_i (P:=prog) (k:= .u16) t x y a n w h0 hn) k)<|
 And.intro (fun t x y (a:Nat) (n:Int) w (k:Value→Prop) (h0:0≤n) (hn:n≤16)=>rd_of_run (show (binM .shl t x y (.int .u16 (a:Int)) (.int .i64 n)).run prog w= .ok (.int .u16 ((a*2^n.toNat%65536:Nat):Int)) w from Go.Sh.run_shl_i (k:= .u16) rfl t x y a n w h0 hn) k)<|
 And.intro (fun t x y (a:Nat) (n:Int) w (k:K1) (h0:0≤n) (hn:n≤32)=>ev_of_run (Go.Sh.run_shr_i (P:=prog) (k:= .u32) t x y a n w h0 hn) k)<|
 And.intro (fun t x y (a:Nat) (n:Int) w (k:K1) (h0:0≤n) (hn:n≤32)=>ev_of_run (show (binM .shl t x y (.int .u32 (a:Int)) (.int .i64 n)).run prog w= .ok (.int .u32 ((a*2^n.toNat%4294967296:Nat):Int)) w from Go.Sh.run_shl_i (k:= .u32) rfl t x y a n w h0 hn) k)<|
 And.intro (fun t x y (a:Nat) (n:Int) w (k:Value→Prop) (h0:0≤n) (hn:n≤32)=>rd_of_run (Go.Sh.run_shr_i (P:=prog) (k:= .u32) t x y a n w h0 hn) k)<|
 And.intro (fun t x y (a:Nat) (n:Int) w (k:Value→Prop) (h0:0≤n) (hn:n≤32)=>rd_of_run (show (binM .shl t x y (.int .u32 (a:Int)) (.int .i64 n)).run prog w= .ok (.int .u32 ((a*2^n.toNat%4294967296:Nat):Int)) w from Go.Sh.run_shl_i (k:= .u32) rfl t x y a n w h0 hn) k)<|
 (fun t x y (a:Nat) (n:Int) w (k:K1) (h0:0≤n) (hn:n≤64)=>ev_of_run (Go.Sh.run_shr_i (P:=prog) (k:= .u64) t x y a n w h0 hn) k)
def RQ5:=
 And.intro (fun t x y (a:Nat) (n:Int) w (k:K1) (h0:0≤n) (hn:n≤64)=>ev_of_run (show (binM .shl t x y (.int .u64 (a:Int)) (.int .i64 n)).run prog w= .ok (.int .u64 ((a*2^n.toNat%18446744073709551616:Nat):Int)) w from Go.Sh.run_shl_i (k:= .u64) rfl t x y a n w h0 hn) k)<|
 And.intro (fun t x y (a:Nat) (n:Int) w (k:Value→Prop) (h0:0≤n) (hn:n≤64)=>rd_of_run (Go.Sh.run_shr_i (P:=prog) (k:= .u64) t x y a n w h0 hn) k)<|
 And.intro (fun t x y (a:Nat) (n:Int) w (k:Value→Prop) (h0:0≤n) (hn:n≤64)=>rd_of_run (show (binM .shl t x y (.int .u64 (a:Int)) (.int .i64 n)).run prog w= .ok (.int .u64 ((a*2^n.toNat%18446744073709551616:Nat):Int)) w from Go.Sh.run_shl_i (k:= .u64) rfl t x y a n w h0 hn) k)<|
 And.intro (@ev_makeMap prog 145)<|
 And.intro (@ev_makeMap prog 110)<|
 And.intro (@ev_makeMap prog 159)<|
 And.intro (@ev_makeMap prog 214)<|
 And.intro (@ev_makeMap prog 108)<|
 And.intro (@ev_makeMap prog 109)<|
 And.intro (@ev_makeMap prog 238)<|
 And.intro (fun b o kd i w k h0 h1=>rd_of_run (@Go.Sh.run_indexArr prog 153 8 1 kR b o kd i w h0 h1) k)<|
 (fun b o kd i w k h0 h1=>rd_of_run (@Go.Sh.run_indexArr prog 182 5 1 kR b o kd i w h0 h1) k)
def RQ6:=
 And.intro (fun b o kd i w k h0 h1=>rd_of_run (@Go.Sh.run_indexArr prog 257 16 1 kR b o kd i w h0 h1) k)<|
 And.intro inv_31_Err<|
 And.intro inv_31_Store<|
 And.intro inv_31_Flush<|
 And.intro inv_31_Fence<|
 And.intro inv_31_Size<|
 inv_31_Load
def RA2:=And.intro RQ0<|And.intro RQ1<|And.intro RQ2<|And.intro RQ3<|And.intro RQ4<|And.intro RQ5<|RQ6
def ltN (x y:Nat):Bool:=decide (x<y)
theorem ltN_swo:Go.Sort.SWO ltN:=⟨fun x=>by simp [ltN],fun x y z=>by simp [ltN];omega,fun x y z=>by simp [ltN];omega⟩
def Ar (w:World) (b o:Nat) (d:Array Nat):Prop:=∃a:Array Value,w.heap[b]? =some (.cells a 26 (0,0))∧o+d.size≤a.size∧∀i,i<d.size→a[o+i]? =some (.int .u64 ((d[i]! :Nat):Int))
section
variable {w w':World} {b o:Nat} {d:Array Nat}
theorem Ar.lt (h:Ar w b o d):b<w.heap.size:=by obtain ⟨a,h,_⟩:=h;exact lt_of_heap h
theorem Ar.drew (h:Ar w b o d):Ar w.drew b o d:=h
theorem Ar.cell (h:Ar w b o d) (i:Nat) (hi:i<d.size):w.cell? ⟨b,o+i,none⟩=some (.int .u64 ((d[i]! :Nat):Int)):=by
 obtain ⟨a,h,_,h2⟩:=h
 rw [cell_of_blk h];exact h2 i hi
theorem Ar.frz (h:Ar w b o d) (i:Nat):w.frozen? ⟨b,i,none⟩=false:=by
 obtain ⟨a,h,_⟩:=h
 unfold World.frozen?;simp only [h];simp
theorem Ar.set (h:Ar w b o d) (i x:Nat) (hi:i<d.size):Ar (w.setCell ⟨b,o+i,none⟩ (.int .u64 (x:Int))) b o (d.setIfInBounds i x):=by
 obtain ⟨a,h,hs,hf⟩:=h
 refine ⟨a.setIfInBounds (o+i) (.int .u64 (x:Int)),?_,by simpa using hs,?_⟩
 ·simp only [World.setCell,Array.getElem?_modify,h];simp
 ·intro j hj
  rw [Array.size_setIfInBounds] at hj
  rw [Array.getElem?_setIfInBounds]
  by_cases e:i=j
  ·subst e
   have:o+i<a.size:=by omega
   simp [this,hi]
  ·have e':¬o+i=o+j:=by omega
   rw [if_neg e',hf j hj]
   simp [Array.getElem!_eq_getD,Array.getD_eq_getD_getElem?,Array.getElem?_setIfInBounds,e]
theorem Ar.set_ne (h:Ar w b o d) (b' i:Nat) (v:Value) (hb:b'≠b):Ar (w.setCell ⟨b',i,none⟩ v) b o d:=by
 obtain ⟨a,h,h2⟩:=h
 exact ⟨a,by rw [heap_set_ne v (Ne.symm hb)];exact h,h2⟩
theorem Ar.alloc (h:Ar w b o d) (x:Obj):Ar (w.alloc x) b o d:=by
 have hl:=h.lt
 obtain ⟨a,h,h2⟩:=h
 exact ⟨a,by rw [heap_alloc_lt _ hl];exact h,h2⟩
theorem Ar.frm {F:Nat→Prop} (h:Ar w b o d) (e:Frm F w w') (hF:¬F b):Ar w' b o d:=by
 have hl:=h.lt
 obtain ⟨a,h,h2⟩:=h
 exact ⟨a,by rw [e.block b hl hF];exact h,h2⟩
theorem swp_eq (d:Array Nat) (i j:Nat):Go.Sort.swp d i j=(d.setIfInBounds i d[j]!).setIfInBounds j d[i]! :=rfl
theorem swp_size (d:Array Nat) (i j:Nat):(Go.Sort.swp d i j).size=d.size:=by simp [swp_eq]
structure SW (w0 w:World) (b o:Nat) (d:Array Nat):Prop where
 ar:Ar w b o d
 frm:Frm (fun x=>x=b) w0 w
theorem SW.refl (h:Ar w b o d):SW w w b o d:=⟨h,Frm.refl _ _⟩
theorem SW.drew {w0:World} (h:SW w0 w b o d):SW w0 w.drew b o d:=⟨h.ar,h.frm.drew⟩
theorem SW.trans {w0 w1 w2:World} {d1 d2:Array Nat} (h:SW w0 w1 b o d1) (k:SW w1 w2 b o d2):SW w0 w2 b o d2:=⟨k.ar,h.frm.trans k.frm (fun _ _ h=>h)⟩
theorem SW.swp {w0:World} (h:SW w0 w b o d) (i j:Nat) (hi:i<d.size) (hj:j<d.size):SW w0 ((w.setCell ⟨b,o+i,none⟩ (.int .u64 ((d[j]! :Nat):Int))).setCell ⟨b,o+j,none⟩ (.int .u64 ((d[i]! :Nat):Int))) b o (Go.Sort.swp d i j):=by
 refine ⟨?_,(h.frm.set _ (fun _=>rfl)).set _ (fun _=>rfl)⟩
 have:=(h.ar.set i d[j]! hi).set j d[i]! (by simpa using hj)
 rw [swp_eq];exact this
theorem SW.set1 {w0:World} (h:SW w0 w b o d) (i x:Nat) (hi:i<d.size):SW w0 (w.setCell ⟨b,o+i,none⟩ (.int .u64 (x:Int))) b o (d.setIfInBounds i x):=⟨h.ar.set i x hi,h.frm.set _ (fun _=>rfl)⟩
end
theorem c_nan (x:Nat) (w:World) (K:K1):callS prog 220 #[.int .u64 (x:Int)] w K=K (.bool false) w:=by
 refine callS_det (by kernel_rfl) (f220_call _ _ _ ?_) K
 unfold f220_t
 (repeat' (first|(with_reducible first|refine brS_mk (fun _=> ?_) (fun _=> ?_)|refine And.intro ?_ ?_)|(simp (disch:=try exact dZ) only [↓RBp,↓RA,↓reduceIte,Nat.reduceAdd,Nat.reduceMul,Nat.reduceEqDiff,RB,RX,RA2])))
theorem c_Less (x y:Nat) (w:World) (K:K1):callS prog 207 #[.int .u64 (x:Int),.int .u64 (y:Int)] w K=K (.bool (ltN x y)) w:=by
 refine callS_det (by kernel_rfl) (f207_call _ _ _ _ ?_) K
 unfold f207_t ltN
 (repeat' (first|(with_reducible first|refine brS_mk (fun _=> ?_) (fun _=> ?_)|refine And.intro ?_ ?_)|(simp (disch:=try exact dZ) only [↓RBp,↓RA,↓reduceIte,Nat.reduceAdd,Nat.reduceMul,Nat.reduceEqDiff,RB,RX,RA2,c_nan])))
theorem insInner_zero (a:Nat) (d:Array Nat):Go.Sort.insInner ltN a 0 d=d:=rfl
theorem insInner_succ (a j:Nat) (d:Array Nat):Go.Sort.insInner ltN a (j+1) d=if (decide (j+1>a)&&ltN d[j+1]! d[j]!)=true then Go.Sort.insInner ltN a j (Go.Sort.swp d (j+1) j) else d:=rfl
theorem insOuter_eq (a b i:Nat) (d:Array Nat):Go.Sort.insOuter ltN a b i d=if i<b then Go.Sort.insOuter ltN a b (i+1) (Go.Sort.insInner ltN a i d) else d:=by rw [Go.Sort.insOuter]
section
variable {w w':World} {q o cap:Nat} {d:Array Nat}
theorem k_ins (h:Ar w q o d) (hd:d.size<1099511627776) (a b:Nat) (hab:a≤b) (hb:b≤d.size) (K:K1) (hK:∀w',SW w w' q o (Go.Sort.insertionSort ltN d a b)→(Go.Sort.insertionSort ltN d a b).size=d.size→K (.tuple #[]) w'):
  callS prog 201 #[.slice (some ⟨q,o,none⟩) d.size cap,.int .i64 (a:Int),.int .i64 (b:Int)] w K:=by
 refine f201_call _ _ _ _ _ ?_
 unfold f201_t
 simp (disch:=try exact dZ) only [↓RBp,↓RA,↓reduceIte,Nat.reduceAdd,Nat.reduceMul,Nat.reduceEqDiff,RB,RX,RA2]
 apply f201_l1_rule (I:=fun x w'=>∃(i:Nat) (d':Array Nat),x= .int .i64 (i:Int)∧a+1≤i∧i≤b+1∧d'.size=d.size∧SW w w' q o d'∧Go.Sort.insOuter ltN a b i d'=Go.Sort.insertionSort ltN d a b) (μ:=fun x _=>b+1-(intOf x).toNat)
 ·exact ⟨a+1,d,by simp,by omega,by omega,rfl,SW.refl h,rfl⟩
 ·intros;rename_i w1 hI E1 hE
  obtain ⟨i,d1,rfl,hi1,hi2,hs1,sw1,e1⟩:=hI
  unfold f201_l1_t
  rw [insOuter_eq] at e1
  by_cases hib:i<b
  ·rw [if_pos hib] at e1
   simp (disch:=try exact dZ) only [↓RBp,↓RA,↓reduceIte,Nat.reduceAdd,Nat.reduceMul,Nat.reduceEqDiff,RB,RX,RA2]
   apply f201_l2_rule (I:=fun x w'=>∃(j:Nat) (d':Array Nat),x= .int .i64 (j:Int)∧a≤j∧j≤i∧d'.size=d.size∧SW w w' q o d'∧Go.Sort.insInner ltN a j d'=Go.Sort.insInner ltN a i d1) (μ:=fun x _=>(intOf x).toNat)
   ·exact ⟨i,d1,rfl,by omega,by omega,hs1,sw1,rfl⟩
   ·intros;rename_i w2 hI2 E2 hE2
    obtain ⟨j,d2,rfl,hj1,hj2,hs2,sw2,e2⟩:=hI2
    unfold f201_l2_t
    have ar:=sw2.ar
    cases j with
    |zero=>
     rw [insInner_zero] at e2
     simp (disch:=try exact dZ) only [↓RBp,↓RA,↓reduceIte,Nat.reduceAdd,Nat.reduceMul,Nat.reduceEqDiff,RB,RX,RA2,f201_k1_eq,f201_k1_t]
     apply hE
     ·exact ⟨i+1,d2,by simp,by omega,by omega,hs2,sw2.drew,by rw [e2,e1]⟩
     ·simp [intOf];omega
    |succ j=>
     rw [insInner_succ] at e2
     have ej:((j+1:Nat):Int)-1=(j:Int):=by omega
     by_cases hja:a<j+1
     ·have c1:=ar.cell (j+1) oM
      have c2:=ar.cell j oM
      by_cases hlt:ltN d2[j+1]! d2[j]! =true
      ·have ar2:=ar.set (j+1) d2[j]! oM
       have c3:=ar2.cell j (by simp;omega)
       have ssw:=sw2.swp (j+1) j oM oM
       (repeat' (first|(with_reducible first|refine brS_mk (fun _=> ?_) (fun _=> ?_)|refine And.intro ?_ ?_)|(simp (disch:=try exact dZ) only [↓RBp,↓RA,↓reduceIte,Nat.reduceAdd,Nat.reduceMul,Nat.reduceEqDiff,RB,RX,RA2,ej,c1,c2,ar.frz,c_Less,hlt,c3,ar2.frz])))
       apply hE2
       ·exact ⟨j,_,rfl,by omega,by omega,(swp_size _ _ _).trans hs2,ssw.drew.drew,by rw [if_pos (by simp [hlt];omega)] at e2;exact e2⟩
       ·simp [intOf]
      ·have hlt':ltN d2[j+1]! d2[j]! =false:=by simpa using hlt
       (repeat' (first|(with_reducible first|refine brS_mk (fun _=> ?_) (fun _=> ?_)|refine And.intro ?_ ?_)|(simp (disch:=try exact dZ) only [↓RBp,↓RA,↓reduceIte,Nat.reduceAdd,Nat.reduceMul,Nat.reduceEqDiff,RB,RX,RA2,ej,c1,c2,ar.frz,c_Less,hlt',f201_k1_eq,f201_k1_t])))
       apply hE
       ·exact ⟨i+1,d2,by simp,by omega,by omega,hs2,sw2.drew,by rw [if_neg (by simp [hlt'])] at e2;rw [e2,e1]⟩
       ·simp [intOf];omega
     ·simp (disch:=try exact dZ) only [↓RBp,↓RA,↓reduceIte,Nat.reduceAdd,Nat.reduceMul,Nat.reduceEqDiff,RB,RX,RA2,f201_k1_eq,f201_k1_t]
      apply hE
      ·exact ⟨i+1,d2,by simp,by omega,by omega,hs2,sw2.drew,by rw [if_neg (by simp;omega)] at e2;rw [e2,e1]⟩
      ·simp [intOf];omega
  ·rw [if_neg hib] at e1
   simp (disch:=try exact dZ) only [↓RBp,↓RA,↓reduceIte,Nat.reduceAdd,Nat.reduceMul,Nat.reduceEqDiff,RB,RX,RA2]
   rw [←e1] at hK
   exact hK _ sw1 hs1
end
section
variable {w w':World} {q o cap:Nat} {d:Array Nat}
def Sp (w:World) (s k:Nat):Prop:=Cells w s 3 1 (fun _=> .int .i64 (k:Int))
theorem Sp.cell {s k:Nat} (h:Sp w s k):w.cell? ⟨s,0,none⟩=some (.int .i64 (k:Int)):=Cells.cell h oM
theorem Sp.frz {s k:Nat} (h:Sp w s k):w.frozen? ⟨s,0,none⟩=false:=Cells.frz h 0
structure CW (w0 w:World) (q o s:Nat) (d:Array Nat) (k:Nat):Prop where
 ar:Ar w q o d
 sp:Sp w s k
 frm:Frm (fun x=>x=s) w0 w
theorem ne_sq {s k:Nat} (h:Ar w q o d) (hs:Sp w s k):s≠q:=by
 intro e;subst e
 obtain ⟨a,h,_⟩:=h
 obtain ⟨a',h',_⟩:=hs
 rw [h] at h';injection h' with h';injection h' with _ h';exact absurd h' (by decide)
theorem k_order2 {s k:Nat} (h:Ar w q o d) (hs:Sp w s k) (hd:d.size<1099511627776) (hk:k<1099511627776) (a b:Nat) (ha:a<d.size) (hb:b<d.size) (K:K1)
  (hK:∀w',CW w w' q o s d (Go.Sort.order2 ltN d a b k).2.2→K (.tuple #[.int .i64 (((Go.Sort.order2 ltN d a b k).1:Nat):Int),.int .i64 (((Go.Sort.order2 ltN d a b k).2.1:Nat):Int)]) w'):
  callS prog 222 #[.slice (some ⟨q,o,none⟩) d.size cap,.int .i64 (a:Int),.int .i64 (b:Int),.pointer (some ⟨s,0,none⟩)] w K:=by
 refine f222_call _ _ _ _ _ _ ?_
 unfold f222_t
 have c1:=h.cell a ha
 have c2:=h.cell b hb
 have ns:=ne_sq h hs
 unfold Go.Sort.order2 at hK
 by_cases hl:ltN d[b]! d[a]! =true
 ·rw [if_pos hl] at hK
  (repeat' (first|(with_reducible first|refine brS_mk (fun _=> ?_) (fun _=> ?_)|refine And.intro ?_ ?_)|(simp (disch:=try exact dZ) only [↓RBp,↓RA,↓reduceIte,Nat.reduceAdd,Nat.reduceMul,Nat.reduceEqDiff,RB,RX,RA2,c1,c2,c_Less,hl,hs.cell,hs.frz])))
  have hs2:Sp (w.setCell ⟨s,0,none⟩ (.int .i64 ((k:Int)+1))) s (k+1):=by
   refine (Cells.set hs (i:=0) (.int .i64 ((k:Int)+1)) oM).congr ?_
   intro i hi
   have e:i=0:=by omega
   rw [if_pos e];simp
  exact hK _ ⟨(h.set_ne s 0 _ ns).drew,hs2,((Frm.refl (fun x=>x=s) w).set _ (fun _=>rfl)).drew⟩
 ·rw [if_neg hl] at hK
  have hl':ltN d[b]! d[a]! =false:=by simpa using hl
  (repeat' (first|(with_reducible first|refine brS_mk (fun _=> ?_) (fun _=> ?_)|refine And.intro ?_ ?_)|(simp (disch:=try exact dZ) only [↓RBp,↓RA,↓reduceIte,Nat.reduceAdd,Nat.reduceMul,Nat.reduceEqDiff,RB,RX,RA2,c1,c2,c_Less,hl'])))
  exact hK _ ⟨h.drew,hs,(Frm.refl _ w).drew⟩
theorem CW.trans {w0 w1 w2:World} {s k k':Nat} (h:CW w0 w1 q o s d k) (h':CW w1 w2 q o s d k'):CW w0 w2 q o s d k':=⟨h'.ar,h'.sp,h.frm.trans h'.frm (fun _ _ h=>h)⟩
theorem o2_lt (a b k n:Nat) (ha:a<n) (hb:b<n):(Go.Sort.order2 ltN d a b k).1<n∧(Go.Sort.order2 ltN d a b k).2.1<n∧(Go.Sort.order2 ltN d a b k).2.2≤k+1:=by
 unfold Go.Sort.order2;split<;>simp<;>omega
theorem k_median {s k:Nat} (h:Ar w q o d) (hs:Sp w s k) (hd:d.size<1099511627776) (hk:k<1099511627770) (a b c:Nat) (ha:a<d.size) (hb:b<d.size) (hc:c<d.size) (K:K1)
  (hK:∀w',CW w w' q o s d (Go.Sort.median ltN d a b c k).2→K (.int .i64 (((Go.Sort.median ltN d a b c k).1:Nat):Int)) w'):
  callS prog 219 #[.slice (some ⟨q,o,none⟩) d.size cap,.int .i64 (a:Int),.int .i64 (b:Int),.int .i64 (c:Int),.pointer (some ⟨s,0,none⟩)] w K:=by
 refine f219_call _ _ _ _ _ _ _ ?_
 unfold f219_t
 have l1:=o2_lt (d:=d) a b k _ ha hb
 have l2:=o2_lt (d:=d) (Go.Sort.order2 ltN d a b k).2.1 c (Go.Sort.order2 ltN d a b k).2.2 _ l1.2.1 hc
 have l3:=o2_lt (d:=d) (Go.Sort.order2 ltN d a b k).1 (Go.Sort.order2 ltN d (Go.Sort.order2 ltN d a b k).2.1 c (Go.Sort.order2 ltN d a b k).2.2).1 (Go.Sort.order2 ltN d (Go.Sort.order2 ltN d a b k).2.1 c (Go.Sort.order2 ltN d a b k).2.2).2.2 _ l1.1 l2.1
 simp (disch:=try exact dZ) only [↓RBp,↓RA,↓reduceIte,Nat.reduceAdd,Nat.reduceMul,Nat.reduceEqDiff,RB,RX,RA2]
 refine k_order2 h hs hd oM a b ha hb _ (fun w1 h1=> ?_)
 simp (disch:=try exact dZ) only [↓RBp,↓RA,↓reduceIte,Nat.reduceAdd,Nat.reduceMul,Nat.reduceEqDiff,RB,RX,RA2]
 refine k_order2 h1.ar h1.sp hd oM _ c l1.2.1 hc _ (fun w2 h2=> ?_)
 simp (disch:=try exact dZ) only [↓RBp,↓RA,↓reduceIte,Nat.reduceAdd,Nat.reduceMul,Nat.reduceEqDiff,RB,RX,RA2]
 refine k_order2 h2.ar h2.sp hd oM _ _ l1.1 l2.1 _ (fun w3 h3=> ?_)
 simp (disch:=try exact dZ) only [↓RBp,↓RA,↓reduceIte,Nat.reduceAdd,Nat.reduceMul,Nat.reduceEqDiff,RB,RX,RA2]
 exact hK _ ((h1.trans h2).trans h3)
theorem k_medadj {s k:Nat} (h:Ar w q o d) (hs:Sp w s k) (hd:d.size<1099511627776) (hk:k<1099511627770) (a:Nat) (h0:0<a) (ha:a+1<d.size) (K:K1)
  (hK:∀w',CW w w' q o s d (Go.Sort.medianAdjacent ltN d a k).2→K (.int .i64 (((Go.Sort.medianAdjacent ltN d a k).1:Nat):Int)) w'):
  callS prog 218 #[.slice (some ⟨q,o,none⟩) d.size cap,.int .i64 (a:Int),.pointer (some ⟨s,0,none⟩)] w K:=by
 refine f218_call _ _ _ _ _ ?_
 unfold f218_t
 have e1:(a:Int)-1=((a-1:Nat):Int):=by omega
 have e2:(a:Int)+1=((a+1:Nat):Int):=by omega
 simp (disch:=try exact dZ) only [↓RBp,↓RA,↓reduceIte,Nat.reduceAdd,Nat.reduceMul,Nat.reduceEqDiff,RB,RX,RA2,e1,e2]
 refine k_median h hs hd hk (a-1) a (a+1) oM oM ha _ (fun w1 h1=> ?_)
 exact hK _ h1
def hintN:Go.Sort.Hint→Int
 | .unknown=>0
 | .increasing=>1
 | .decreasing=>2
theorem k_reverse (h:Ar w q o d) (hd:d.size<1099511627776) (a b:Nat) (hab:a<b) (hb:b≤d.size) (K:K1) (hK:∀w',SW w w' q o (Go.Sort.reverseRange d a b)→(Go.Sort.reverseRange d a b).size=d.size→K (.tuple #[]) w'):
  callS prog 205 #[.slice (some ⟨q,o,none⟩) d.size cap,.int .i64 (a:Int),.int .i64 (b:Int)] w K:=by
 refine f205_call _ _ _ _ _ ?_
 unfold f205_t
 have e1:(b:Int)-1=((b-1:Nat):Int):=by omega
 simp (disch:=try exact dZ) only [↓RBp,↓RA,↓reduceIte,Nat.reduceAdd,Nat.reduceMul,Nat.reduceEqDiff,RB,RX,RA2,e1]
 apply f205_l1_rule (I:=fun x y w'=>∃(i j:Nat) (d':Array Nat),x= .int .i64 (i:Int)∧y= .int .i64 (j:Int)∧j<d.size∧d'.size=d.size∧SW w w' q o d'∧Go.Sort.reverseLoop i j d'=Go.Sort.reverseRange d a b) (μ:=fun x y _=>(intOf y).toNat-(intOf x).toNat)
 ·exact ⟨a,b-1,d,rfl,rfl,by omega,rfl,SW.refl h,rfl⟩
 ·intros;rename_i w1 hI E1 hE
  obtain ⟨i,j,d1,rfl,rfl,hj,hs,sw,e⟩:=hI
  unfold f205_l1_t
  rw [Go.Sort.reverseLoop] at e
  by_cases hij:i<j
  ·rw [if_pos hij] at e
   have ar:=sw.ar
   have c1:=ar.cell i oM
   have c2:=ar.cell j oM
   have ar2:=ar.set i d1[j]! oM
   have c3:=ar2.cell j (by simp;omega)
   have ssw:=sw.swp i j oM oM
   have e2:(j:Int)-1=((j-1:Nat):Int):=by omega
   have e3:(i:Int)+1=((i+1:Nat):Int):=by omega
   (repeat' (first|(with_reducible first|refine brS_mk (fun _=> ?_) (fun _=> ?_)|refine And.intro ?_ ?_)|(simp (disch:=try exact dZ) only [↓RBp,↓RA,↓reduceIte,Nat.reduceAdd,Nat.reduceMul,Nat.reduceEqDiff,RB,RX,RA2,c1,c2,c3,ar.frz,ar2.frz,e2,e3])))
   apply hE
   ·exact ⟨i+1,j-1,_,rfl,rfl,by omega,(swp_size _ _ _).trans hs,ssw.drew,e⟩
   ·simp [intOf];omega
  ·rw [if_neg hij] at e
   simp (disch:=try exact dZ) only [↓RBp,↓RA,↓reduceIte,Nat.reduceAdd,Nat.reduceMul,Nat.reduceEqDiff,RB,RX,RA2]
   rw [←e] at hK
   exact hK _ sw hs
theorem med_k (d:Array Nat) (a b c k:Nat):(Go.Sort.median ltN d a b c k).2≤k+3:=Go.Sort.median_count ltN d a b c k
def pkH (r:Nat×Nat):Nat×Go.Sort.Hint:=(r.1,if r.2=0 then .increasing else if r.2=12 then .decreasing else .unknown)
theorem k_choose (h:Ar w q o d) (hd:d.size<1099511627776) (a b:Nat) (hab:a+12<b) (hb:b≤d.size) (K:K1)
  (hK:∀w',Ext w w'→K (.tuple #[.int .i64 (((Go.Sort.choosePivot ltN d a b).1:Nat):Int),.int .i64 (hintN (Go.Sort.choosePivot ltN d a b).2)]) w'):
  callS prog 204 #[.slice (some ⟨q,o,none⟩) d.size cap,.int .i64 (a:Int),.int .i64 (b:Int)] w K:=by
 have e0:(b:Int)-(a:Int)=((b-a:Nat):Int):=by omega
 have e1:(a:Int)+((b-a:Nat):Int)/4*1=((a+(b-a)/4*1:Nat):Int):=by omega
 have e2:(a:Int)+((b-a:Nat):Int)/4*2=((a+(b-a)/4*2:Nat):Int):=by omega
 have e3:(a:Int)+((b-a:Nat):Int)/4*3=((a+(b-a)/4*3:Nat):Int):=by omega
 have hsp:Sp (w.alloc (.cells #[.int .i64 0] 3)) w.heap.size 0:=(Cells.new w [.int .i64 0] 3).congr (fun i hi=>by have e:i=0:=(by simpa using hi);subst e;rfl)
 have h':=h.alloc (.cells #[.int .i64 0] 3)
 have fin:∀w1 p k,CW (w.alloc (.cells #[.int .i64 0] 3)) w1 q o w.heap.size d k→k<1099511627776→p=(Go.Sort.choosePivot ltN d a b).1→hintN (if k=0 then Go.Sort.Hint.increasing else if k=12 then Go.Sort.Hint.decreasing else Go.Sort.Hint.unknown)=hintN (Go.Sort.choosePivot ltN d a b).2→
   f204_k1_t (.pointer (some ⟨w.heap.size,0,none⟩)) (.int .i64 (p:Int)) K w1:=by
  intro w1 p k hc hk hp hh
  unfold f204_k1_t
  rw [←hh,←hp] at hK
  have he:Ext w w1:=Frm.to_ext (F:=fun x=>x=w.heap.size) ((Frm.of_ext (Ext.alloc_self w _)).trans hc.frm (fun _ _ h=>h)) (fun x hx=>by omega)
  by_cases hk0:k=0
  ·subst hk0
   simp (disch:=try exact dZ) only [↓RBp,↓RA,↓reduceIte,Nat.reduceAdd,Nat.reduceMul,Nat.reduceEqDiff,RB,RX,RA2,hc.sp.cell]
   exact hK _ he
  ·rw [if_neg hk0] at hK
   by_cases hk2:k=12
   ·subst hk2
    simp (disch:=try exact dZ) only [↓RBp,↓RA,↓reduceIte,Nat.reduceAdd,Nat.reduceMul,Nat.reduceEqDiff,RB,RX,RA2,hc.sp.cell]
    exact hK _ he
   ·rw [if_neg hk2] at hK
    simp (disch:=try exact dZ) only [↓RBp,↓RA,↓reduceIte,Nat.reduceAdd,Nat.reduceMul,Nat.reduceEqDiff,RB,RX,RA2,hc.sp.cell]
    exact hK _ he
 have hcp:Go.Sort.choosePivot ltN d a b=pkH (if b-a≥50 then Go.Sort.median ltN d (Go.Sort.medianAdjacent ltN d (a+(b-a)/4*1) 0).1 (Go.Sort.medianAdjacent ltN d (a+(b-a)/4*2) (Go.Sort.medianAdjacent ltN d (a+(b-a)/4*1) 0).2).1 (Go.Sort.medianAdjacent ltN d (a+(b-a)/4*3) (Go.Sort.medianAdjacent ltN d (a+(b-a)/4*2) (Go.Sort.medianAdjacent ltN d (a+(b-a)/4*1) 0).2).2).1 (Go.Sort.medianAdjacent ltN d (a+(b-a)/4*3) (Go.Sort.medianAdjacent ltN d (a+(b-a)/4*2) (Go.Sort.medianAdjacent ltN d (a+(b-a)/4*1) 0).2).2).2
   else Go.Sort.median ltN d (a+(b-a)/4*1) (a+(b-a)/4*2) (a+(b-a)/4*3) 0):=by
  unfold Go.Sort.choosePivot pkH;simp only [if_pos (show b-a≥8 by omega)]
 have bi1:0<a+(b-a)/4*1∧a+(b-a)/4*1+1<d.size:=by omega
 have bi2:0<a+(b-a)/4*2∧a+(b-a)/4*2+1<d.size:=by omega
 have bi3:0<a+(b-a)/4*3∧a+(b-a)/4*3+1<d.size:=by omega
 generalize a+(b-a)/4*1=i1 at*
 generalize a+(b-a)/4*2=i2 at*
 generalize a+(b-a)/4*3=i3 at*
 by_cases h50:b-a≥50
 ·rw [if_pos h50] at hcp
  have m1:=Go.Sort.medianAdjacent_count ltN d i1 0
  have a1:=Go.Sort.medianAdjacent_mem ltN d i1 0
  have kk1:=fun K hK=>k_medadj (cap:=cap) (K:=K) h' hsp hd oM i1 bi1.1 bi1.2 hK
  generalize Go.Sort.medianAdjacent ltN d i1 0=r1 at*
  have m2:=Go.Sort.medianAdjacent_count ltN d i2 r1.2
  have a2:=Go.Sort.medianAdjacent_mem ltN d i2 r1.2
  have kk2:=fun w1 (h1:CW (w.alloc (.cells #[.int .i64 0] 3)) w1 q o w.heap.size d r1.2) K hK=>k_medadj (cap:=cap) (K:=K) h1.ar h1.sp hd oM i2 bi2.1 bi2.2 hK
  generalize Go.Sort.medianAdjacent ltN d i2 r1.2=r2 at*
  have m3:=Go.Sort.medianAdjacent_count ltN d i3 r2.2
  have a3:=Go.Sort.medianAdjacent_mem ltN d i3 r2.2
  have kk3:=fun w1 (h1:CW (w.alloc (.cells #[.int .i64 0] 3)) w1 q o w.heap.size d r2.2) K hK=>k_medadj (cap:=cap) (K:=K) h1.ar h1.sp hd oM i3 bi3.1 bi3.2 hK
  generalize Go.Sort.medianAdjacent ltN d i3 r2.2=r3 at*
  have m4:=med_k d r1.1 r2.1 r3.1 r3.2
  have kk4:=fun w1 (h1:CW (w.alloc (.cells #[.int .i64 0] 3)) w1 q o w.heap.size d r3.2) K hK=>k_median (cap:=cap) (K:=K) h1.ar h1.sp hd oM r1.1 r2.1 r3.1 oM oM oM hK
  generalize Go.Sort.median ltN d r1.1 r2.1 r3.1 r3.2=r4 at*
  refine f204_call _ _ _ _ _ ?_
  unfold f204_t
  simp (disch:=try exact dZ) only [↓RBp,↓RA,↓reduceIte,Nat.reduceAdd,Nat.reduceMul,Nat.reduceEqDiff,RB,RX,RA2,e0,e1,e2,e3]
  refine kk1 _ (fun w1 h1=> ?_)
  simp (disch:=try exact dZ) only [↓RBp,↓RA,↓reduceIte,Nat.reduceAdd,Nat.reduceMul,Nat.reduceEqDiff,RB,RX,RA2,e0,e1,e2,e3]
  refine kk2 _ h1 _ (fun w2 h2=> ?_)
  simp (disch:=try exact dZ) only [↓RBp,↓RA,↓reduceIte,Nat.reduceAdd,Nat.reduceMul,Nat.reduceEqDiff,RB,RX,RA2,e0,e1,e2,e3]
  refine kk3 _ (h1.trans h2) _ (fun w3 h3=> ?_)
  simp (disch:=try exact dZ) only [↓RBp,↓RA,↓reduceIte,Nat.reduceAdd,Nat.reduceMul,Nat.reduceEqDiff,RB,RX,RA2,e0,e1,e2,e3,f204_k2_eq,f204_k2_t]
  refine kk4 _ ((h1.trans h2).trans h3) _ (fun w4 h4=> ?_)
  simp (disch:=try exact dZ) only [↓RBp,↓RA,↓reduceIte,Nat.reduceAdd,Nat.reduceMul,Nat.reduceEqDiff,RB,RX,RA2,f204_k1_eq]
  exact fin _ _ _ (((h1.trans h2).trans h3).trans h4) oM (by rw [hcp];rfl) (by rw [hcp];rfl)
 ·rw [if_neg h50] at hcp
  have m4:=med_k d i1 i2 i3 0
  have kk4:=fun K hK=>k_median (cap:=cap) (K:=K) h' hsp hd oM i1 i2 i3 oM oM oM hK
  generalize Go.Sort.median ltN d i1 i2 i3 0=r4 at*
  refine f204_call _ _ _ _ _ ?_
  unfold f204_t
  simp (disch:=try exact dZ) only [↓RBp,↓RA,↓reduceIte,Nat.reduceAdd,Nat.reduceMul,Nat.reduceEqDiff,RB,RX,RA2,e0,e1,e2,e3,f204_k2_eq,f204_k2_t]
  refine kk4 _ (fun w4 h4=> ?_)
  simp (disch:=try exact dZ) only [↓RBp,↓RA,↓reduceIte,Nat.reduceAdd,Nat.reduceMul,Nat.reduceEqDiff,RB,RX,RA2,f204_k1_eq]
  exact fin _ _ _ h4 oM (by rw [hcp];rfl) (by rw [hcp];rfl)
end
theorem bitsLen_div (n k:Nat) (h:2^k≤n):Go.Sort.bitsLen n=k+Go.Sort.bitsLen (n/2^k):=by
 apply Nat.le_antisymm
 ·rw [Go.Sort.bitsLen_le_iff,Nat.pow_add]
  have:=Go.Sort.lt_two_pow_bitsLen (n/2^k)
  have h3:=(Nat.div_lt_iff_lt_mul (Nat.two_pow_pos k)).1 this
  rw [Nat.mul_comm];exact h3
 ·have h1:=Go.Sort.lt_two_pow_bitsLen n
  have hk:k≤Go.Sort.bitsLen n:=by
   rcases Nat.lt_or_ge (Go.Sort.bitsLen n) k with h2|h2
   ·have:=Nat.pow_le_pow_right (show 0<2 by omega) (Nat.le_of_lt h2)
    omega
   ·exact h2
  have h2:Go.Sort.bitsLen (n/2^k)≤Go.Sort.bitsLen n-k:=by
   rw [Go.Sort.bitsLen_le_iff,Nat.div_lt_iff_lt_mul (Nat.two_pow_pos k),←Nat.pow_add]
   rw [Nat.sub_add_cancel hk];exact h1
  omega
def strT (P:Program) (t:TypeId):Bool:=
 match P.underlying t with
 |some .string=>true
 |_=>false
theorem ev_strIdx {P:Program} {t:TypeId} (ht:strT P t=true) (s:ByteArray) (k:IntKind) (i:Nat) (b:UInt8) (w:World) (kk:K1) (h:s[i]? =some b):ev P (Instr.index t (.string s) (.int k (i:Int))) w kk=kk (.int .u8 ((b.toNat:Nat):Int)) w:=by
 unfold strT at ht
 split at ht
 ·rename_i hu
  refine ev_of_run ?_ kk
  simp [Instr.index,asIntOf,run_underlying_some hu,h]
 ·cases ht
def tab8:ByteArray:={data:= #[0,1,2,2,3,3,3,3,4,4,4,4,4,4,4,4,5,5,5,5,5,5,5,5,5,5,5,5,5,5,5,5,6,6,6,6,6,6,6,6,6,6,6,6,6,6,6,6,6,6,6,6,6,6,6,6,6,6,6,6,6,6,6,6,7,7,7,7,7,7,7,7,7,7,7,7,7,7,7,7,7,7,7,7,7,7,7,7,7,7,7,7,7,7,7,7,7,7,7,7,7,7,7,7,7,7,7,7,7,7,7,7,7,7,7,7,7,7,7,7,7,7,7,7,7,7,7,7,8,8,8,8,8,8,8,8,8,8,8,8,8,8,8,8,8,8,8,8,8,8,8,8,8,8,8,8,8,8,8,8,8,8,8,8,8,8,8,8,8,8,8,8,8,8,8,8,8,8,8,8,8,8,8,8,8,8,8,8,8,8,8,8,8,8,8,8,8,8,8,8,8,8,8,8,8,8,8,8,8,8,8,8,8,8,8,8,8,8,8,8,8,8,8,8,8,8,8,8,8,8,8,8,8,8,8,8,8,8,8,8,8,8,8,8,8,8,8,8,8,8,8,8,8,8,8,8]}
theorem tab8_get:∀i:Nat,i<256→tab8[i]? =some (UInt8.ofNat (Go.Sort.bitsLen i)):=by decide+kernel
theorem bitsLen_8 {i:Nat} (h:i<256):(UInt8.ofNat (Go.Sort.bitsLen i)).toNat=Go.Sort.bitsLen i:=by
 have:Go.Sort.bitsLen i≤8:=(Go.Sort.bitsLen_le_iff i 8).2 h
 rw [UInt8.toNat_ofNat'];omega
theorem strT_s:strT prog 9=true:=by kernel_rfl
theorem c_Len64 (n:Nat) (hn:n<18446744073709551616) (w:World) (K:K1):callS prog 198 #[.int .u64 (n:Int)] w K=K (.int .i64 ((Go.Sort.bitsLen n:Nat):Int)) w:=by
 refine callS_det (by kernel_rfl) (f198_call _ _ _ ?_) K
 unfold f198_t
 have fin:∀(m:Nat) (k:Int),m<256→0≤k→k<100→((Go.Sort.bitsLen n:Nat):Int)=k+((Go.Sort.bitsLen m:Nat):Int)→f198_k3_t (.int .u64 (m:Int)) (.int .i64 k) (fun v w'=>v= .int .i64 ((Go.Sort.bitsLen n:Nat):Int)∧w'=w) w:=by
  intro m k hm hk0 hk e
  unfold f198_k3_t
  have hb:=(Go.Sort.bitsLen_le_iff m 8).2 hm
  have e2:=bitsLen_8 hm
  have em:m%256=m:=by omega
  have r1:=fun k w kk=>ev_strIdx strT_s tab8 k m _ w kk (tab8_get m hm)
  simp (disch:=try exact dZ) only [↓RBp,↓RA,↓reduceIte,Nat.reduceAdd,Nat.reduceMul,Nat.reduceEqDiff,RB,RX,RA2,em]
  refine (r1 .u8 w _).symm▸ ?_
  simp (disch:=try exact dZ) only [↓RBp,↓RA,↓reduceIte,Nat.reduceAdd,Nat.reduceMul,Nat.reduceEqDiff,RB,RX,RA2,e2,e]
 have b0:∀m k:Nat,2^k≤m→((Go.Sort.bitsLen m:Nat):Int)=(k:Int)+((Go.Sort.bitsLen (m/2^k):Nat):Int):=fun m k h=>by rw [bitsLen_div m k h];omega
 by_cases h1:4294967296≤n
 ·have q1:=b0 n 32 h1
  by_cases h2:65536≤n/2^32
  ·have q2:=b0 (n/2^32) 16 h2
   by_cases h3:256≤n/2^32/2^16
   ·have q3:=b0 (n/2^32/2^16) 8 h3
    simp (disch:=try exact dZ) only [↓RBp,↓RA,↓reduceIte,Nat.reduceAdd,Nat.reduceMul,Nat.reduceEqDiff,RB,RX,RA2,f198_k1_eq,f198_k1_t,f198_k2_eq,f198_k2_t,f198_k3_eq]
    exact fin _ _ oM oM oM oM
   ·simp (disch:=try exact dZ) only [↓RBp,↓RA,↓reduceIte,Nat.reduceAdd,Nat.reduceMul,Nat.reduceEqDiff,RB,RX,RA2,f198_k1_eq,f198_k1_t,f198_k2_eq,f198_k2_t,f198_k3_eq]
    exact fin _ _ oM oM oM oM
  ·by_cases h3:256≤n/2^32
   ·have q3:=b0 (n/2^32) 8 h3
    simp (disch:=try exact dZ) only [↓RBp,↓RA,↓reduceIte,Nat.reduceAdd,Nat.reduceMul,Nat.reduceEqDiff,RB,RX,RA2,f198_k1_eq,f198_k1_t,f198_k2_eq,f198_k2_t,f198_k3_eq]
    exact fin _ _ oM oM oM oM
   ·simp (disch:=try exact dZ) only [↓RBp,↓RA,↓reduceIte,Nat.reduceAdd,Nat.reduceMul,Nat.reduceEqDiff,RB,RX,RA2,f198_k1_eq,f198_k1_t,f198_k2_eq,f198_k2_t,f198_k3_eq]
    exact fin _ _ oM oM oM oM
 ·by_cases h2:65536≤n
  ·have q2:=b0 n 16 h2
   by_cases h3:256≤n/2^16
   ·have q3:=b0 (n/2^16) 8 h3
    simp (disch:=try exact dZ) only [↓RBp,↓RA,↓reduceIte,Nat.reduceAdd,Nat.reduceMul,Nat.reduceEqDiff,RB,RX,RA2,f198_k1_eq,f198_k1_t,f198_k2_eq,f198_k2_t,f198_k3_eq]
    exact fin _ _ oM oM oM oM
   ·simp (disch:=try exact dZ) only [↓RBp,↓RA,↓reduceIte,Nat.reduceAdd,Nat.reduceMul,Nat.reduceEqDiff,RB,RX,RA2,f198_k1_eq,f198_k1_t,f198_k2_eq,f198_k2_t,f198_k3_eq]
    exact fin _ _ oM oM oM oM
  ·by_cases h3:256≤n
   ·have q3:=b0 n 8 h3
    simp (disch:=try exact dZ) only [↓RBp,↓RA,↓reduceIte,Nat.reduceAdd,Nat.reduceMul,Nat.reduceEqDiff,RB,RX,RA2,f198_k1_eq,f198_k1_t,f198_k2_eq,f198_k2_t,f198_k3_eq]
    exact fin _ _ oM oM oM oM
   ·simp (disch:=try exact dZ) only [↓RBp,↓RA,↓reduceIte,Nat.reduceAdd,Nat.reduceMul,Nat.reduceEqDiff,RB,RX,RA2,f198_k1_eq,f198_k1_t,f198_k2_eq,f198_k2_t,f198_k3_eq]
    exact fin _ _ oM oM oM oM
theorem c_Len (n:Nat) (hn:n<18446744073709551616) (w:World) (K:K1):callS prog 180 #[.int .u64 (n:Int)] w K=K (.int .i64 ((Go.Sort.bitsLen n:Nat):Int)) w:=by
 refine callS_det (by kernel_rfl) (f180_call _ _ _ ?_) K
 unfold f180_t
 simp (disch:=try exact dZ) only [↓RBp,↓RA,↓reduceIte,Nat.reduceAdd,Nat.reduceMul,Nat.reduceEqDiff,RB,RX,RA2,c_Len64]
theorem c_npow (n:Nat) (hn:n<1099511627776) (w:World) (K:K1):callS prog 211 #[.int .i64 (n:Int)] w K=K (.int .u64 ((2^Go.Sort.bitsLen n:Nat):Int)) w:=by
 refine callS_det (by kernel_rfl) (f211_call _ _ _ ?_) K
 unfold f211_t
 have hb:Go.Sort.bitsLen n≤40:=(Go.Sort.bitsLen_le_iff n 40).2 oM
 have e:1*2^Go.Sort.bitsLen n%18446744073709551616=2^Go.Sort.bitsLen n:=by
  rw [Nat.one_mul]
  exact Nat.mod_eq_of_lt (Nat.lt_of_le_of_lt (Nat.pow_le_pow_right oM hb) (by decide))
 simp (disch:=try exact dZ) only [↓RBp,↓RA,↓reduceIte,Nat.reduceAdd,Nat.reduceMul,Nat.reduceEqDiff,RB,RX,RA2,c_Len,e]
section
variable {w w':World} {q o cap:Nat} {d:Array Nat}
def Rn (w:World) (s x:Nat):Prop:=Cells w s 276 1 (fun _=> .int .u64 (x:Int))
theorem Rn.cell {s k:Nat} (h:Rn w s k):w.cell? ⟨s,0,none⟩=some (.int .u64 (k:Int)):=Cells.cell h oM
theorem Rn.frz {s k:Nat} (h:Rn w s k):w.frozen? ⟨s,0,none⟩=false:=Cells.frz h 0
theorem Rn.set {s k:Nat} (h:Rn w s k) (x:Nat):Rn (w.setCell ⟨s,0,none⟩ (.int .u64 (x:Int))) s x:=by
 refine (Cells.set h (i:=0) (.int .u64 (x:Int)) oM).congr ?_
 intro i hi
 have e:i=0:=by omega
 rw [if_pos e]
theorem k_xor {s x:Nat} (h:Rn w s x) (hx:x<18446744073709551616) (K:K1) (hK:∀w',Rn w' s (Go.Sort.xorNextN x)→Frm (fun b=>b=s) w w'→K (.int .u64 ((Go.Sort.xorNextN x:Nat):Int)) w'):callS prog 212 #[.pointer (some ⟨s,0,none⟩)] w K:=by
 refine f212_call _ _ _ ?_
 unfold f212_t
 have p:(18446744073709551616:Nat)=2^64:=by decide
 have g1:x^^^(x*2^13%18446744073709551616)<18446744073709551616:=Nat.xor_lt_two_pow (n:=64) oM oM
 have h1:=h.set (x^^^(x*2^13%18446744073709551616))
 have g2:(x^^^(x*2^13%18446744073709551616))^^^((x^^^(x*2^13%18446744073709551616))/2^7)<18446744073709551616:=Nat.xor_lt_two_pow (n:=64) g1 oM
 have h2:=h1.set ((x^^^(x*2^13%18446744073709551616))^^^((x^^^(x*2^13%18446744073709551616))/2^7))
 have h3:=h2.set (((x^^^(x*2^13%18446744073709551616))^^^((x^^^(x*2^13%18446744073709551616))/2^7))^^^(((x^^^(x*2^13%18446744073709551616))^^^((x^^^(x*2^13%18446744073709551616))/2^7))*2^17%18446744073709551616))
 have m1:∀y:Nat,y%18446744073709551616<18446744073709551616:=fun y=>Nat.mod_lt _ oM
 have m2:(x^^^(x*2^13%18446744073709551616))/2^7<18446744073709551616:=by omega
 have m3:=m1 (x*2^13)
 have m4:=m1 (((x^^^(x*2^13%18446744073709551616))^^^((x^^^(x*2^13%18446744073709551616))/2^7))*2^17)
 have e:Go.Sort.xorNextN x=((x^^^(x*2^13%18446744073709551616))^^^((x^^^(x*2^13%18446744073709551616))/2^7))^^^(((x^^^(x*2^13%18446744073709551616))^^^((x^^^(x*2^13%18446744073709551616))/2^7))*2^17%18446744073709551616):=rfl
 rw [←e] at h3
 simp (disch:=first|assumption|decide|simp only [RO]|fail) only [↓RBp,↓RA,↓reduceIte,Nat.reduceAdd,Nat.reduceMul,Nat.reduceEqDiff,RB,RX,RA2,h.cell,h.frz,h1.cell,h1.frz,h2.cell,h2.frz,h3.cell,←e]
 refine hK _ h3 ?_
 exact (((((Frm.refl (fun b=>b=s) w).set _ (fun _=>rfl)).set _ (fun _=>rfl)).set _ (fun _=>rfl)).drew.drew).drew
def bst (a len m:Nat) (st:UInt64×Array Nat) (idx:Nat):Nat→UInt64×Array Nat
 |0=>st
 |k+1=>Go.Sort.breakStep a len m (bst a len m st idx k) (idx+k)
theorem bst_size (a len m:Nat) (st:UInt64×Array Nat) (idx:Nat):∀k,(bst a len m st idx k).2.size=st.2.size:=by
 intro k
 induction k with
 |zero=>rfl
 |succ k ih=>show (Go.Sort.swp _ _ _).size=_;rw [swp_size,ih]
theorem break_eq (d:Array Nat) (a b:Nat) (h:b-a≥8):Go.Sort.breakPatterns d a b=(bst a (b-a) (1<<<Go.Sort.bitsLen (b-a)) (UInt64.ofNat (b-a),d) (a+(b-a)/4*2-1) 3).2:=by
 unfold Go.Sort.breakPatterns;simp only [if_pos h];rfl
theorem k_break (h:Ar w q o d) (hd:d.size<1099511627776) (a b:Nat) (hab:a+12<b) (hb:b≤d.size) (K:K1) (hK:∀w',SW w w' q o (Go.Sort.breakPatterns d a b)→(Go.Sort.breakPatterns d a b).size=d.size→K (.tuple #[]) w'):
  callS prog 203 #[.slice (some ⟨q,o,none⟩) d.size cap,.int .i64 (a:Int),.int .i64 (b:Int)] w K:=by
 have h8:b-a≥8:=by omega
 rw [break_eq d a b h8] at hK
 have e0:(b:Int)-(a:Int)=((b-a:Nat):Int):=by omega
 have e1:(a:Int)+((b-a:Nat):Int)/4*2=((a+(b-a)/4*2:Nat):Int):=by omega
 have e2:((a+(b-a)/4*2:Nat):Int)-1=((a+(b-a)/4*2-1:Nat):Int):=by omega
 have e3:((a+(b-a)/4*2:Nat):Int)+1=((a+(b-a)/4*2+1:Nat):Int):=by omega
 have hm:1<<<Go.Sort.bitsLen (b-a)=2^Go.Sort.bitsLen (b-a):=by rw [Nat.shiftLeft_eq,Nat.one_mul]
 have hm2:=Go.Sort.two_pow_bitsLen_le (n:=b-a) oM
 have hm0:=Nat.two_pow_pos (Go.Sort.bitsLen (b-a))
 have hlen:b-a<1099511627776:=by omega
 have cn:=fun w K=>c_npow (b-a) hlen w K
 rw [hm] at hK
 generalize 2^Go.Sort.bitsLen (b-a)=m at*
 have hidx:a+(b-a)/4*2-1+2<b∧a≤a+(b-a)/4*2-1∧a+(b-a)/4*2+1=a+(b-a)/4*2-1+2:=by omega
 rw [hidx.2.2] at e3
 generalize a+(b-a)/4*2-1=ix at*
 have hu:(UInt64.ofNat (b-a)).toNat=b-a:=by rw [UInt64.toNat_ofNat'];omega
 refine f203_call _ _ _ _ _ ?_
 unfold f203_t
 simp (disch:=try exact dZ) only [↓RBp,↓RA,↓reduceIte,Nat.reduceAdd,Nat.reduceMul,Nat.reduceEqDiff,RB,RX,RA2,e0,e1,e2,cn]
 have hrn:Rn (w.alloc (.cells #[.int .u64 ((b-a:Nat):Int)] 276)) w.heap.size (b-a):=(Cells.new w [.int .u64 ((b-a:Nat):Int)] 276).congr (fun i hi=>by have e:i=0:=(by simpa using hi);subst e;rfl)
 have h':=h.alloc (.cells #[.int .u64 ((b-a:Nat):Int)] 276)
 have hqs:=h.lt
 apply f203_l1_rule (I:=fun x w'=>∃k:Nat,x= .int .i64 ((ix+k:Nat):Int)∧k≤3∧Rn w' w.heap.size (bst a (b-a) m (UInt64.ofNat (b-a),d) ix k).1.toNat∧Ar w' q o (bst a (b-a) m (UInt64.ofNat (b-a),d) ix k).2∧Frm (fun x=>x=q∨x=w.heap.size) (w.alloc (.cells #[.int .u64 ((b-a:Nat):Int)] 276)) w') (μ:=fun x _=>ix+3-(intOf x).toNat)
 ·exact ⟨0,rfl,by omega,by rw [show (bst a (b-a) m (UInt64.ofNat (b-a),d) ix 0).1.toNat=b-a from hu];exact hrn,h',Frm.refl _ _⟩
 ·intros;rename_i w1 hI E1 hE
  obtain ⟨k,rfl,hk,hr,ar,hf⟩:=hI
  have hsz:(bst a (b-a) m (UInt64.ofNat (b-a),d) ix k).2.size=d.size:=bst_size a (b-a) m (UInt64.ofNat (b-a),d) ix k
  by_cases hk3:k<3
  ·have hst:bst a (b-a) m (UInt64.ofNat (b-a),d) ix (k+1)=Go.Sort.breakStep a (b-a) m (bst a (b-a) m (UInt64.ofNat (b-a),d) ix k) (ix+k):=rfl
   generalize hB:bst a (b-a) m (UInt64.ofNat (b-a),d) ix k=B at*
   have hlt:B.1.toNat<18446744073709551616:=B.1.toNat_lt
   have hxl:=Go.Sort.xorNextN_lt _ hlt
   have hxe:=Go.Sort.xorNext_toNat B.1
   unfold f203_l1_t
   simp (disch:=try exact dZ) only [↓RBp,↓RA,↓reduceIte,Nat.reduceAdd,Nat.reduceMul,Nat.reduceEqDiff,RB,RX,RA2,e1,e3]
   refine k_xor hr hlt _ (fun w2 hr2 hf2=> ?_)
   have hand:Go.Sort.xorNextN B.1.toNat&&&(m-1)≤m-1:=Nat.and_le_right
   have ar2:Ar w2 q o B.2:=ar.frm hf2 oM
   generalize hy:Go.Sort.xorNextN B.1.toNat&&&(m-1)=y at*
   have hstep:∀ot,ot=(if y≥b-a then y-(b-a) else y)→bst a (b-a) m (UInt64.ofNat (b-a),d) ix (k+1)=(Go.Sort.xorNext B.1,Go.Sort.swp B.2 (ix+k) (a+ot)):=by
    intro ot ho
    rw [hst];unfold Go.Sort.breakStep;simp only [hxe,hy,←ho]
   have fin:∀ot,ot=(if y≥b-a then y-(b-a) else y)→a+ot<b→∀(w3:World),w3=((w2.setCell ⟨q,o+(ix+k),none⟩ (.int .u64 ((B.2[a+ot]! :Nat):Int))).setCell ⟨q,o+(a+ot),none⟩ (.int .u64 ((B.2[ix+k]! :Nat):Int))).drew→
     ∃k':Nat,Value.int .i64 (((ix+k:Nat):Int)+1)= .int .i64 ((ix+k':Nat):Int)∧k'≤3∧Rn w3 w.heap.size (bst a (b-a) m (UInt64.ofNat (b-a),d) ix k').1.toNat∧Ar w3 q o (bst a (b-a) m (UInt64.ofNat (b-a),d) ix k').2∧Frm (fun x=>x=q∨x=w.heap.size) (w.alloc (.cells #[.int .u64 ((b-a:Nat):Int)] 276)) w3:=by
    intro ot ho hob w3 hw3
    subst hw3
    refine ⟨k+1,by congr 1,by omega,?_,?_,?_⟩
    ·rw [hstep ot ho]
     show Rn _ _ (Go.Sort.xorNext B.1).toNat
     rw [hxe]
     exact ((Cells.set_ne hr2 _ (by show w.heap.size≠q;omega)).set_ne _ (by show w.heap.size≠q;omega)).drew
    ·rw [hstep ot ho]
     exact ((SW.refl ar2).swp (ix+k) (a+ot) (by rw [hsz];omega) (by rw [hsz];omega)).drew.ar
    ·exact (((hf.trans (hf2.mono (fun x hx=>(.inr hx:x=q∨x=w.heap.size))) (fun _ _ h=>h)).set _ (fun _=> .inl rfl)).set _ (fun _=> .inl rfl)).drew
   by_cases hyl:y≥b-a
   ·have hot:y-(b-a)=(if y≥b-a then y-(b-a) else y):=by rw [if_pos hyl]
    have e4:(y:Int)-((b-a:Nat):Int)=((y-(b-a):Nat):Int):=by omega
    have e5:(a:Int)+((y-(b-a):Nat):Int)=((a+(y-(b-a)):Nat):Int):=by omega
    have hob:a+(y-(b-a))<b:=by omega
    have fin2:=fin _ hot hob _ rfl
    generalize y-(b-a)=ot at*
    have c1:=ar2.cell (a+ot) (by rw [hsz];omega)
    have c2:=ar2.cell (ix+k) (by rw [hsz];omega)
    have ar3:=ar2.set (ix+k) B.2[a+ot]! (by rw [hsz];omega)
    have c3:=ar3.cell (a+ot) (by simp;rw [hsz];omega)
    (repeat' (first|(with_reducible first|refine brS_mk (fun _=> ?_) (fun _=> ?_)|refine And.intro ?_ ?_)|(simp (disch:=try exact dZ) only [↓RBp,↓RA,↓reduceIte,Nat.reduceAdd,Nat.reduceMul,Nat.reduceEqDiff,RB,RX,RA2,hy,e4,e5,c1,c2,c3,ar2.frz,ar3.frz,f203_k1_eq,f203_k1_t])))
    apply hE
    ·exact fin2
    ·simp [intOf];omega
   ·have hot:y=(if y≥b-a then y-(b-a) else y):=by rw [if_neg hyl]
    have e5:(a:Int)+(y:Int)=((a+y:Nat):Int):=by omega
    have hob:a+y<b:=by omega
    have fin2:=fin _ hot hob _ rfl
    have c1:=ar2.cell (a+y) (by rw [hsz];omega)
    have c2:=ar2.cell (ix+k) (by rw [hsz];omega)
    have ar3:=ar2.set (ix+k) B.2[a+y]! (by rw [hsz];omega)
    have c3:=ar3.cell (a+y) (by simp;rw [hsz];omega)
    (repeat' (first|(with_reducible first|refine brS_mk (fun _=> ?_) (fun _=> ?_)|refine And.intro ?_ ?_)|(simp (disch:=try exact dZ) only [↓RBp,↓RA,↓reduceIte,Nat.reduceAdd,Nat.reduceMul,Nat.reduceEqDiff,RB,RX,RA2,hy,e5,c1,c2,c3,ar2.frz,ar3.frz,f203_k1_eq,f203_k1_t])))
    apply hE
    ·exact fin2
    ·simp [intOf];omega
  ·have:k=3:=by omega
   subst this
   unfold f203_l1_t
   simp (disch:=try exact dZ) only [↓RBp,↓RA,↓reduceIte,Nat.reduceAdd,Nat.reduceMul,Nat.reduceEqDiff,RB,RX,RA2,e1,e3]
   refine hK _ ⟨ar,?_⟩ hsz
   have hf3:=(Frm.of_ext (F:=fun x=>x=q∨x=w.heap.size) (Ext.alloc_self w (.cells #[.int .u64 ((b-a:Nat):Int)] 276))).trans hf (fun _ _ h=>h)
   exact ⟨hf3.os,hf3.tape,hf3.output,hf3.size,fun x hx hn=>hf3.block x hx (by rintro (h|h);exact hn h;omega)⟩
end
section
variable {w w':World} {q o cap:Nat} {d:Array Nat}
theorem sift_eq (hi first root:Nat) (d:Array Nat):Go.Sort.siftDown ltN hi first root d=if 2*root+1≥hi then d else
  if (decide (2*root+1+1<hi)&&ltN d[first+(2*root+1)]! d[first+(2*root+1)+1]!)=true then
   (if ltN d[first+root]! d[first+(2*root+2)]! =true then Go.Sort.siftDown ltN hi first (2*root+2) (Go.Sort.swp d (first+root) (first+(2*root+2))) else d)
  else (if ltN d[first+root]! d[first+(2*root+1)]! =true then Go.Sort.siftDown ltN hi first (2*root+1) (Go.Sort.swp d (first+root) (first+(2*root+1))) else d):=by
 rw [Go.Sort.siftDown]
 by_cases h1:2*root+1≥hi
 ·rw [dif_pos h1,if_pos h1]
 ·rw [dif_neg h1,if_neg h1]
  by_cases h2:(decide (2*root+1+1<hi)&&ltN d[first+(2*root+1)]! d[first+(2*root+1)+1]!)=true
  ·rw [if_pos h2,if_pos h2]
   have h3:2*root+2<hi:=by simp at h2;omega
   cases h4:ltN d[first+root]! d[first+(2*root+2)]! with
   |true=>simp [h3]
   |false=>simp
  ·rw [if_neg h2,if_neg h2]
   cases h4:ltN d[first+root]! d[first+(2*root+1)]! with
   |true=>simp
   |false=>simp
theorem k_sift (h:Ar w q o d) (hd:d.size<1099511627776) (lo hi first:Nat) (hlo:lo≤hi+1) (hb:first+hi≤d.size) (K:K1) (hK:∀w',SW w w' q o (Go.Sort.siftDown ltN hi first lo d)→(Go.Sort.siftDown ltN hi first lo d).size=d.size→K (.tuple #[]) w'):
  callS prog 217 #[.slice (some ⟨q,o,none⟩) d.size cap,.int .i64 (lo:Int),.int .i64 (hi:Int),.int .i64 (first:Int)] w K:=by
 refine f217_call _ _ _ _ _ _ ?_
 unfold f217_t
 apply f217_l1_rule (I:=fun x w'=>∃(root:Nat) (d':Array Nat),x= .int .i64 (root:Int)∧root≤hi+1∧d'.size=d.size∧SW w w' q o d'∧Go.Sort.siftDown ltN hi first root d'=Go.Sort.siftDown ltN hi first lo d) (μ:=fun x _=>hi+1-(intOf x).toNat)
 ·exact ⟨lo,d,rfl,hlo,rfl,SW.refl h,rfl⟩
 ·intros;rename_i w1 hI E1 hE
  obtain ⟨root,d1,rfl,hr,hs,sw,e⟩:=hI
  rw [sift_eq] at e
  have ar:=sw.ar
  have g1:2*(root:Int)+1=((2*root+1:Nat):Int):=by omega
  have g2:((2*root+1:Nat):Int)+1=((2*root+2:Nat):Int):=by omega
  have g3:(first:Int)+((2*root+1:Nat):Int)=((first+(2*root+1):Nat):Int):=by omega
  have g4:((first+(2*root+1):Nat):Int)+1=((first+(2*root+1)+1:Nat):Int):=by omega
  have g5:(first:Int)+((2*root+2:Nat):Int)=((first+(2*root+2):Nat):Int):=by omega
  have g6:(first:Int)+(root:Int)=((first+root:Nat):Int):=by omega
  by_cases h1:2*root+1≥hi
  ·rw [if_pos h1] at e
   unfold f217_l1_t
   simp (disch:=try exact dZ) only [↓RBp,↓RA,↓reduceIte,Nat.reduceAdd,Nat.reduceMul,Nat.reduceEqDiff,RB,RX,RA2,g1]
   rw [←e] at hK
   exact hK _ sw hs
  ·rw [if_neg h1] at e
   have c1:=ar.cell (first+(2*root+1)) oM
   have c0:=ar.cell (first+root) oM
   have r12:first+(2*root+1)+1=first+(2*root+2):=by omega
   by_cases h2:2*root+1+1<hi
   ·have c2:=ar.cell (first+(2*root+2)) oM
    rw [r12] at g4 e
    cases h3:ltN d1[first+(2*root+1)]! d1[first+(2*root+2)]! with
    |true=>
     rw [h3,if_pos (by simp;omega)] at e
     cases h4:ltN d1[first+root]! d1[first+(2*root+2)]! with
     |true=>
      rw [h4,if_pos rfl] at e
      have ar2:=ar.set (first+root) d1[first+(2*root+2)]! oM
      have c3:=ar2.cell (first+(2*root+2)) (by simp;omega)
      have ssw:=sw.swp (first+root) (first+(2*root+2)) oM oM
      unfold f217_l1_t
      (repeat' (first|(with_reducible first|refine brS_mk (fun _=> ?_) (fun _=> ?_)|refine And.intro ?_ ?_)|(simp (disch:=try exact dZ) only [↓RBp,↓RA,↓reduceIte,Nat.reduceAdd,Nat.reduceMul,Nat.reduceEqDiff,RB,RX,RA2,g1,g2,g3,g4,g5,g6,c0,c1,c2,c_Less,h3,h4,c3,ar.frz,ar2.frz,f217_k1_eq,f217_k1_t])))
      apply hE
      ·exact ⟨2*root+2,_,rfl,by omega,(swp_size _ _ _).trans hs,ssw.drew.drew.drew,e⟩
      ·simp [intOf];omega
     |false=>
      rw [h4,if_neg (by simp)] at e
      unfold f217_l1_t
      (repeat' (first|(with_reducible first|refine brS_mk (fun _=> ?_) (fun _=> ?_)|refine And.intro ?_ ?_)|(simp (disch:=try exact dZ) only [↓RBp,↓RA,↓reduceIte,Nat.reduceAdd,Nat.reduceMul,Nat.reduceEqDiff,RB,RX,RA2,g1,g2,g3,g4,g5,g6,c0,c1,c2,c_Less,h3,h4,f217_k1_eq,f217_k1_t])))
      rw [←e] at hK
      exact hK _ sw.drew.drew hs
    |false=>
     rw [h3,if_neg (by simp)] at e
     cases h4:ltN d1[first+root]! d1[first+(2*root+1)]! with
     |true=>
      rw [h4,if_pos rfl] at e
      have ar2:=ar.set (first+root) d1[first+(2*root+1)]! oM
      have c3:=ar2.cell (first+(2*root+1)) (by simp;omega)
      have ssw:=sw.swp (first+root) (first+(2*root+1)) oM oM
      unfold f217_l1_t
      (repeat' (first|(with_reducible first|refine brS_mk (fun _=> ?_) (fun _=> ?_)|refine And.intro ?_ ?_)|(simp (disch:=try exact dZ) only [↓RBp,↓RA,↓reduceIte,Nat.reduceAdd,Nat.reduceMul,Nat.reduceEqDiff,RB,RX,RA2,g1,g2,g3,g4,g5,g6,c0,c1,c2,c_Less,h3,h4,c3,ar.frz,ar2.frz,f217_k1_eq,f217_k1_t])))
      apply hE
      ·exact ⟨2*root+1,_,rfl,by omega,(swp_size _ _ _).trans hs,ssw.drew.drew.drew,e⟩
      ·simp [intOf];omega
     |false=>
      rw [h4,if_neg (by simp)] at e
      unfold f217_l1_t
      (repeat' (first|(with_reducible first|refine brS_mk (fun _=> ?_) (fun _=> ?_)|refine And.intro ?_ ?_)|(simp (disch:=try exact dZ) only [↓RBp,↓RA,↓reduceIte,Nat.reduceAdd,Nat.reduceMul,Nat.reduceEqDiff,RB,RX,RA2,g1,g2,g3,g4,g5,g6,c0,c1,c2,c_Less,h3,h4,f217_k1_eq,f217_k1_t])))
      rw [←e] at hK
      exact hK _ sw.drew.drew hs
   ·rw [if_neg (by simp;omega)] at e
    have h3:True:=trivial
    cases h4:ltN d1[first+root]! d1[first+(2*root+1)]! with
    |true=>
     rw [h4,if_pos rfl] at e
     have ar2:=ar.set (first+root) d1[first+(2*root+1)]! oM
     have c3:=ar2.cell (first+(2*root+1)) (by simp;omega)
     have ssw:=sw.swp (first+root) (first+(2*root+1)) oM oM
     unfold f217_l1_t
     (repeat' (first|(with_reducible first|refine brS_mk (fun _=> ?_) (fun _=> ?_)|refine And.intro ?_ ?_)|(simp (disch:=try exact dZ) only [↓RBp,↓RA,↓reduceIte,Nat.reduceAdd,Nat.reduceMul,Nat.reduceEqDiff,RB,RX,RA2,g1,g2,g3,g4,g5,g6,c0,c1,c_Less,h4,c3,ar.frz,ar2.frz,f217_k1_eq,f217_k1_t])))
     apply hE
     ·exact ⟨2*root+1,_,rfl,by omega,(swp_size _ _ _).trans hs,ssw.drew.drew.drew,e⟩
     ·simp [intOf];omega
    |false=>
     rw [h4,if_neg (by simp)] at e
     unfold f217_l1_t
     (repeat' (first|(with_reducible first|refine brS_mk (fun _=> ?_) (fun _=> ?_)|refine And.intro ?_ ?_)|(simp (disch:=try exact dZ) only [↓RBp,↓RA,↓reduceIte,Nat.reduceAdd,Nat.reduceMul,Nat.reduceEqDiff,RB,RX,RA2,g1,g2,g3,g4,g5,g6,c0,c1,c_Less,h4,f217_k1_eq,f217_k1_t])))
     rw [←e] at hK
     exact hK _ sw.drew.drew hs
theorem k_heap (h:Ar w q o d) (hd:d.size<1099511627776) (a b:Nat) (hab:a<b) (hb:b≤d.size) (K:K1) (hK:∀w',SW w w' q o (Go.Sort.heapSort ltN d a b)→(Go.Sort.heapSort ltN d a b).size=d.size→K (.tuple #[]) w'):
  callS prog 202 #[.slice (some ⟨q,o,none⟩) d.size cap,.int .i64 (a:Int),.int .i64 (b:Int)] w K:=by
 have e0:(b:Int)-(a:Int)=((b-a:Nat):Int):=by omega
 have e1:(((b-a:Nat):Int)-1)/2=(((b-a-1)/2+1:Nat):Int)-1:=by omega
 refine f202_call _ _ _ _ _ ?_
 unfold f202_t
 simp (disch:=try exact dZ) only [↓RBp,↓RA,↓reduceIte,Nat.reduceAdd,Nat.reduceMul,Nat.reduceEqDiff,RB,RX,RA2,e0,e1]
 apply f202_l1_rule (I:=fun x w'=>∃(k:Nat) (d':Array Nat),x= .int .i64 ((k:Int)-1)∧k≤(b-a-1)/2+1∧d'.size=d.size∧SW w w' q o d'∧Go.Sort.heapPop ltN a (b-a) (Go.Sort.heapBuild ltN (b-a) a k d')=Go.Sort.heapSort ltN d a b) (μ:=fun x _=>((intOf x)+1).toNat)
 ·exact ⟨(b-a-1)/2+1,d,rfl,by omega,rfl,SW.refl h,rfl⟩
 ·intros;rename_i w1 hI E1 hE
  obtain ⟨k,d1,rfl,hk,hs,sw,e⟩:=hI
  cases k with
  |zero=>
   unfold f202_l1_t
   have e2:((b-a:Nat):Int)-1=((b-a:Nat):Int)-1:=rfl
   simp (disch:=try exact dZ) only [↓RBp,↓RA,↓reduceIte,Nat.reduceAdd,Nat.reduceMul,Nat.reduceEqDiff,RB,RX,RA2,f202_k1_eq,f202_k1_t]
   apply f202_l2_rule (I:=fun x w'=>∃(k:Nat) (d':Array Nat),x= .int .i64 ((k:Int)-1)∧k≤b-a∧d'.size=d.size∧SW w w' q o d'∧Go.Sort.heapPop ltN a k d'=Go.Sort.heapSort ltN d a b) (μ:=fun x _=>((intOf x)+1).toNat)
   ·exact ⟨b-a,d1,rfl,by omega,hs,sw,e⟩
   ·intros;rename_i w2 hI2 E2 hE2
    obtain ⟨k,d2,rfl,hk2,hs2,sw2,e3⟩:=hI2
    cases k with
    |zero=>
     unfold f202_l2_t
     have e4:Go.Sort.heapPop ltN a 0 d2=d2:=rfl
     rw [e4] at e3
     simp (disch:=try exact dZ) only [↓RBp,↓RA,↓reduceIte,Nat.reduceAdd,Nat.reduceMul,Nat.reduceEqDiff,RB,RX,RA2]
     rw [←e3] at hK
     exact hK _ sw2 hs2
    |succ k=>
     have e4:Go.Sort.heapPop ltN a (k+1) d2=Go.Sort.heapPop ltN a k (Go.Sort.siftDown ltN k a 0 (Go.Sort.swp d2 a (a+k))):=rfl
     rw [e4] at e3
     have g1:((k+1:Nat):Int)-1=(k:Int):=by omega
     have g2:(a:Int)+(k:Int)=((a+k:Nat):Int):=by omega
     have ar:=sw2.ar
     have c0:=ar.cell a oM
     have c1:=ar.cell (a+k) oM
     have ar2:=ar.set a d2[a+k]! oM
     have c3:=ar2.cell (a+k) (by simp;omega)
     have ssw:=sw2.swp a (a+k) oM oM
     have hsz:=swp_size d2 a (a+k)
     unfold f202_l2_t
     (repeat' (first|(with_reducible first|refine brS_mk (fun _=> ?_) (fun _=> ?_)|refine And.intro ?_ ?_)|(simp (disch:=try exact dZ) only [↓RBp,↓RA,↓reduceIte,Nat.reduceAdd,Nat.reduceMul,Nat.reduceEqDiff,RB,RX,RA2,g1,g2,c0,c1,c3,ar.frz,ar2.frz])))
     have hb2:d.size=(Go.Sort.swp d2 a (a+k)).size:=by rw [hsz,hs2]
     rw [hb2]
     refine k_sift (cap:=cap) ssw.drew.ar oM 0 k a oM oM _ (fun w3 h3 hz3=> ?_)
     rw [←hb2] at hz3;try rw [←hb2]
     simp (disch:=try exact dZ) only [↓RBp,↓RA,↓reduceIte,Nat.reduceAdd,Nat.reduceMul,Nat.reduceEqDiff,RB,RX,RA2]
     apply hE2
     ·exact ⟨k,_,by rw [g1],by omega,hz3,ssw.drew.trans h3,e3⟩
     ·simp [intOf]
  |succ k=>
   have e4:Go.Sort.heapBuild ltN (b-a) a (k+1) d1=Go.Sort.heapBuild ltN (b-a) a k (Go.Sort.siftDown ltN (b-a) a k d1):=rfl
   rw [e4] at e
   have g1:((k+1:Nat):Int)-1=(k:Int):=by omega
   unfold f202_l1_t
   simp (disch:=try exact dZ) only [↓RBp,↓RA,↓reduceIte,Nat.reduceAdd,Nat.reduceMul,Nat.reduceEqDiff,RB,RX,RA2,g1]
   rw [←hs]
   refine k_sift (cap:=cap) sw.ar oM k (b-a) a oM oM _ (fun w3 h3 hz3=> ?_)
   rw [hs] at hz3;try rw [hs]
   simp (disch:=try exact dZ) only [↓RBp,↓RA,↓reduceIte,Nat.reduceAdd,Nat.reduceMul,Nat.reduceEqDiff,RB,RX,RA2]
   apply hE
   ·exact ⟨k,_,by rw [g1],by omega,hz3,sw.trans h3,e⟩
   ·simp [intOf]
end
section
variable {w w':World} {q o cap:Nat} {d:Array Nat}
theorem scanUp_eq (p:Nat→Bool) (d:Array Nat) (j i:Nat):Go.Sort.scanUp p d j i=if (decide (i≤j)&&p d[i]!)=true then Go.Sort.scanUp p d j (i+1) else i:=by rw [Go.Sort.scanUp]
theorem scanDown_succ (p:Nat→Bool) (d:Array Nat) (i j:Nat):Go.Sort.scanDown p d i (j+1)=if (decide (i≤j+1)&&p d[j+1]!)=true then Go.Sort.scanDown p d i j else j+1:=rfl
theorem k_part (h:Ar w q o d) (hd:d.size<1099511627776) (a b pv:Nat) (hab:a+1<b) (hb:b≤d.size) (hp:a≤pv) (hp2:pv<b) (K:K1) (hK:∀w',SW w w' q o (Go.Sort.partition ltN d a b pv).2.2→(Go.Sort.partition ltN d a b pv).2.2.size=d.size→K (.tuple #[.int .i64 (((Go.Sort.partition ltN d a b pv).1:Nat):Int),.bool (Go.Sort.partition ltN d a b pv).2.1]) w'):
  callS prog 209 #[.slice (some ⟨q,o,none⟩) d.size cap,.int .i64 (a:Int),.int .i64 (b:Int),.int .i64 (pv:Int)] w K:=by
 have c0:=h.cell a oM
 have cp:=h.cell pv oM
 have ar0:=h.set a d[pv]! oM
 have cq:=ar0.cell pv (by simp;omega)
 have sw0:=(SW.refl h).swp a pv oM oM
 have hz0:=swp_size d a pv
 unfold Go.Sort.partition at hK
 simp only at hK
 generalize hD:Go.Sort.swp d a pv=D at*
 have e1:(a:Int)+1=((a+1:Nat):Int):=by omega
 have e2:(b:Int)-1=((b-1:Nat):Int):=by omega
 have t3:∀(i0 j0:Nat) (D0:Array Nat),D0.size=d.size→(∀w',SW w w' q o (Go.Sort.swp (Go.Sort.partLoop ltN a i0 j0 D0).2 (Go.Sort.partLoop ltN a i0 j0 D0).1 a)→(Go.Sort.swp (Go.Sort.partLoop ltN a i0 j0 D0).2 (Go.Sort.partLoop ltN a i0 j0 D0).1 a).size=d.size→K (.tuple #[.int .i64 (((Go.Sort.partLoop ltN a i0 j0 D0).1:Nat):Int),.bool false]) w')→a+1≤i0→i0≤b→i0≤j0+2→a≤j0→j0<b→∀w0,SW w w0 q o D0→
   f209_l3 K (.slice (some ⟨q,o,none⟩) d.size cap) (.int .i64 ((a:Nat):Int)) (.int .i64 ((i0:Nat):Int)) (.int .i64 ((j0:Nat):Int)) w0:=by
  intro i0 j0 D0 hz hK3 b1 b2 b0 b3 b4 w0 s0
  apply f209_l3_rule (I:=fun x y w'=>∃(i j:Nat) (D1:Array Nat),x= .int .i64 (i:Int)∧y= .int .i64 (j:Int)∧a+1≤i∧i≤b∧i≤j+2∧a≤j∧j<b∧D1.size=d.size∧SW w w' q o D1∧Go.Sort.partLoop ltN a i j D1=Go.Sort.partLoop ltN a i0 j0 D0) (μ:=fun x y _=>(intOf y).toNat+1-(intOf x).toNat)
  ·exact ⟨i0,j0,D0,rfl,rfl,b1,b2,b0,b3,b4,hz,s0,rfl⟩
  ·intros;rename_i w1 hI E1 hE
   obtain ⟨i1,j1,D1,rfl,rfl,b5,b6,b9,b7,b8,hz1,sw1,eP⟩:=hI
   rw [Go.Sort.partLoop] at eP
   have t5:∀(i j:Nat) wB,SW w wB q o D1→i1≤i→i≤b→j≤j1→a≤j→Go.Sort.scanUp (fun x=>ltN x D1[a]!) D1 j1 i1=i→Go.Sort.scanDown (fun x=> !ltN x D1[a]!) D1 i j1=j→f209_k5 K E1 (.slice (some ⟨q,o,none⟩) d.size cap) (.int .i64 ((a:Nat):Int)) (.int .i64 ((i:Nat):Int)) (.int .i64 ((j:Nat):Int)) wB:=by
    intro i j wB swB h1 h2 h3 h4 eu ed
    simp only [eu,ed] at eP
    by_cases hij:i>j
    ·rw [if_pos hij] at eP
     rw [←eP] at hK3
     have arB:=swB.ar
     have d1:=arB.cell a oM
     have d2:=arB.cell j oM
     have ar2:=arB.set j D1[a]! oM
     have d3:=ar2.cell a (by simp;omega)
     have ssw:=swB.swp j a oM oM
     (repeat' (first|(with_reducible first|refine brS_mk (fun _=> ?_) (fun _=> ?_)|refine And.intro ?_ ?_)|(simp (disch:=try exact dZ) only [↓RBp,↓RA,↓reduceIte,Nat.reduceAdd,Nat.reduceMul,Nat.reduceEqDiff,RB,RX,RA2,f209_k5_eq,f209_k5_t,f209_k3_eq,f209_k3_t,d1,d2,d3,arB.frz,ar2.frz])))
     exact hK3 _ ssw.drew ((swp_size _ _ _).trans hz1)
    ·rw [if_neg hij,dif_pos oM] at eP
     have arB:=swB.ar
     have d1:=arB.cell i oM
     have d2:=arB.cell j oM
     have ar2:=arB.set i D1[j]! oM
     have d3:=ar2.cell j (by simp;omega)
     have ssw:=swB.swp i j oM oM
     have g1:(i:Int)+1=((i+1:Nat):Int):=by omega
     have g2:(j:Int)-1=((j-1:Nat):Int):=by omega
     (repeat' (first|(with_reducible first|refine brS_mk (fun _=> ?_) (fun _=> ?_)|refine And.intro ?_ ?_)|(simp (disch:=try exact dZ) only [↓RBp,↓RA,↓reduceIte,Nat.reduceAdd,Nat.reduceMul,Nat.reduceEqDiff,RB,RX,RA2,f209_k5_eq,f209_k5_t,d1,d2,d3,arB.frz,ar2.frz,g1,g2])))
     apply hE
     ·exact ⟨i+1,j-1,_,rfl,rfl,by omega,by omega,by omega,by omega,by omega,(swp_size _ _ _).trans hz1,ssw.drew,eP⟩
     ·simp [intOf];omega
   have t4:∀(i:Nat) wB,SW w wB q o D1→i1≤i→i≤b→Go.Sort.scanUp (fun x=>ltN x D1[a]!) D1 j1 i1=i→f209_l5 K E1 (.slice (some ⟨q,o,none⟩) d.size cap) (.int .i64 ((a:Nat):Int)) (.int .i64 ((i:Nat):Int)) (.int .i64 ((j1:Nat):Int)) wB:=by
    intro i wB swB h1 h2 eu
    apply f209_l5_rule (I:=fun x w'=>∃j:Nat,x= .int .i64 (j:Int)∧j≤j1∧a≤j∧SW w w' q o D1∧Go.Sort.scanDown (fun x=> !ltN x D1[a]!) D1 i j=Go.Sort.scanDown (fun x=> !ltN x D1[a]!) D1 i j1) (μ:=fun x _=>(intOf x).toNat)
    ·exact ⟨j1,rfl,by omega,by omega,swB,rfl⟩
    ·intros;rename_i wA hIA EA hEA
     obtain ⟨j,rfl,hj1,hj2,swA,eA⟩:=hIA
     have arA:=swA.ar
     cases j with
     |zero=>
      have e0:Go.Sort.scanDown (fun x=> !ltN x D1[a]!) D1 i 0=0:=rfl
      rw [e0] at eA
      unfold f209_l5_t
      (repeat' (first|(with_reducible first|refine brS_mk (fun _=> ?_) (fun _=> ?_)|refine And.intro ?_ ?_)|(simp (disch:=try exact dZ) only [↓RBp,↓RA,↓reduceIte,Nat.reduceAdd,Nat.reduceMul,Nat.reduceEqDiff,RB,RX,RA2])))
      apply t5 i 0 _ swA.drew oM oM oM oM eu eA.symm
     |succ j=>
      rw [scanDown_succ] at eA
      have gj:((j+1:Nat):Int)-1=(j:Int):=by omega
      by_cases hij:i≤j+1
      ·have c1:=arA.cell (j+1) oM
       have c2:=arA.cell a oM
       cases hl:ltN D1[j+1]! D1[a]! with
       |false=>
        rw [if_pos (by simp [hl];omega)] at eA
        unfold f209_l5_t
        (repeat' (first|(with_reducible first|refine brS_mk (fun _=> ?_) (fun _=> ?_)|refine And.intro ?_ ?_)|(simp (disch:=try exact dZ) only [↓RBp,↓RA,↓reduceIte,Nat.reduceAdd,Nat.reduceMul,Nat.reduceEqDiff,RB,RX,RA2,gj,c1,c2,c_Less,hl])))
        apply hEA
        ·exact ⟨j,rfl,by omega,by omega,swA.drew,eA⟩
        ·simp [intOf]
       |true=>
        rw [if_neg (by simp [hl])] at eA
        unfold f209_l5_t
        (repeat' (first|(with_reducible first|refine brS_mk (fun _=> ?_) (fun _=> ?_)|refine And.intro ?_ ?_)|(simp (disch:=try exact dZ) only [↓RBp,↓RA,↓reduceIte,Nat.reduceAdd,Nat.reduceMul,Nat.reduceEqDiff,RB,RX,RA2,gj,c1,c2,c_Less,hl])))
        apply t5 i (j+1) _ swA.drew oM oM oM oM eu eA.symm
      ·rw [if_neg (by simp;omega)] at eA
       unfold f209_l5_t
       (repeat' (first|(with_reducible first|refine brS_mk (fun _=> ?_) (fun _=> ?_)|refine And.intro ?_ ?_)|(simp (disch:=try exact dZ) only [↓RBp,↓RA,↓reduceIte,Nat.reduceAdd,Nat.reduceMul,Nat.reduceEqDiff,RB,RX,RA2])))
       apply t5 i (j+1) _ swA.drew oM oM oM oM eu eA.symm
   unfold f209_l3_t
   apply f209_l4_rule (I:=fun x w'=>∃i:Nat,x= .int .i64 (i:Int)∧i1≤i∧i≤j1+2∧i≤b∧SW w w' q o D1∧Go.Sort.scanUp (fun x=>ltN x D1[a]!) D1 j1 i=Go.Sort.scanUp (fun x=>ltN x D1[a]!) D1 j1 i1) (μ:=fun x _=>j1+3-(intOf x).toNat)
   ·exact ⟨i1,rfl,by omega,by omega,by omega,sw1,rfl⟩
   ·intros;rename_i wA hIA EA hEA
    obtain ⟨i,rfl,hi1,hi2,hi3,swA,eA⟩:=hIA
    rw [scanUp_eq] at eA
    have arA:=swA.ar
    have gi:(i:Int)+1=((i+1:Nat):Int):=by omega
    by_cases hij:i≤j1
    ·have c1:=arA.cell i oM
     have c2:=arA.cell a oM
     cases hl:ltN D1[i]! D1[a]! with
     |true=>
      rw [if_pos (by simp [hl];omega)] at eA
      unfold f209_l4_t
      (repeat' (first|(with_reducible first|refine brS_mk (fun _=> ?_) (fun _=> ?_)|refine And.intro ?_ ?_)|(simp (disch:=try exact dZ) only [↓RBp,↓RA,↓reduceIte,Nat.reduceAdd,Nat.reduceMul,Nat.reduceEqDiff,RB,RX,RA2,gi,c1,c2,c_Less,hl])))
      apply hEA
      ·exact ⟨i+1,rfl,by omega,by omega,by omega,swA.drew,eA⟩
      ·simp [intOf];omega
     |false=>
      rw [if_neg (by simp [hl])] at eA
      unfold f209_l4_t
      (repeat' (first|(with_reducible first|refine brS_mk (fun _=> ?_) (fun _=> ?_)|refine And.intro ?_ ?_)|(simp (disch:=try exact dZ) only [↓RBp,↓RA,↓reduceIte,Nat.reduceAdd,Nat.reduceMul,Nat.reduceEqDiff,RB,RX,RA2,gi,c1,c2,c_Less,hl,f209_k4_eq,f209_k4_t])))
      apply t4 i _ swA.drew oM oM eA.symm
    ·rw [if_neg (by simp;omega)] at eA
     unfold f209_l4_t
     (repeat' (first|(with_reducible first|refine brS_mk (fun _=> ?_) (fun _=> ?_)|refine And.intro ?_ ?_)|(simp (disch:=try exact dZ) only [↓RBp,↓RA,↓reduceIte,Nat.reduceAdd,Nat.reduceMul,Nat.reduceEqDiff,RB,RX,RA2,gi,f209_k4_eq,f209_k4_t])))
     apply t4 i _ swA.drew oM oM eA.symm
 have t2:∀(i j:Nat) wB,SW w wB q o D→a+1≤i→i≤b→j≤b-1→a≤j→Go.Sort.scanUp (fun x=>ltN x D[a]!) D (b-1) (a+1)=i→Go.Sort.scanDown (fun x=> !ltN x D[a]!) D i (b-1)=j→f209_k2 K (.slice (some ⟨q,o,none⟩) d.size cap) (.int .i64 ((a:Nat):Int)) (.int .i64 ((i:Nat):Int)) (.int .i64 ((j:Nat):Int)) wB:=by
  intro i j wB swB h1 h2 h3 h4 eu ed
  simp only [eu,ed] at hK
  by_cases hij:i>j
  ·simp only [if_pos hij] at hK
   have arB:=swB.ar
   have d1:=arB.cell a oM
   have d2:=arB.cell j oM
   have ar2:=arB.set j D[a]! oM
   have d3:=ar2.cell a (by simp;omega)
   have ssw:=swB.swp j a oM oM
   (repeat' (first|(with_reducible first|refine brS_mk (fun _=> ?_) (fun _=> ?_)|refine And.intro ?_ ?_)|(simp (disch:=try exact dZ) only [↓RBp,↓RA,↓reduceIte,Nat.reduceAdd,Nat.reduceMul,Nat.reduceEqDiff,RB,RX,RA2,f209_k2_eq,f209_k2_t,d1,d2,d3,arB.frz,ar2.frz])))
   exact hK _ ssw.drew ((swp_size _ _ _).trans hz0)
  ·simp only [if_neg hij] at hK
   have arB:=swB.ar
   have d1:=arB.cell i oM
   have d2:=arB.cell j oM
   have ar2:=arB.set i D[j]! oM
   have d3:=ar2.cell j (by simp;omega)
   have ssw:=swB.swp i j oM oM
   have g1:(i:Int)+1=((i+1:Nat):Int):=by omega
   have g2:(j:Int)-1=((j-1:Nat):Int):=by omega
   (repeat' (first|(with_reducible first|refine brS_mk (fun _=> ?_) (fun _=> ?_)|refine And.intro ?_ ?_)|(simp (disch:=try exact dZ) only [↓RBp,↓RA,↓reduceIte,Nat.reduceAdd,Nat.reduceMul,Nat.reduceEqDiff,RB,RX,RA2,f209_k2_eq,f209_k2_t,d1,d2,d3,arB.frz,ar2.frz,g1,g2])))
   apply t3 (i+1) (j-1) _ ((swp_size _ _ _).trans hz0) hK oM oM oM oM oM _ ssw.drew
 have t1:∀(i:Nat) wB,SW w wB q o D→a+1≤i→i≤b→Go.Sort.scanUp (fun x=>ltN x D[a]!) D (b-1) (a+1)=i→f209_l2 K (.slice (some ⟨q,o,none⟩) d.size cap) (.int .i64 ((a:Nat):Int)) (.int .i64 ((i:Nat):Int)) (.int .i64 ((b-1:Nat):Int)) wB:=by
  intro i wB swB h1 h2 eu
  apply f209_l2_rule (I:=fun x w'=>∃j:Nat,x= .int .i64 (j:Int)∧j≤b-1∧a≤j∧SW w w' q o D∧Go.Sort.scanDown (fun x=> !ltN x D[a]!) D i j=Go.Sort.scanDown (fun x=> !ltN x D[a]!) D i (b-1)) (μ:=fun x _=>(intOf x).toNat)
  ·exact ⟨b-1,rfl,by omega,by omega,swB,rfl⟩
  ·intros;rename_i wA hIA EA hEA
   obtain ⟨j,rfl,hj1,hj2,swA,eA⟩:=hIA
   have arA:=swA.ar
   cases j with
   |zero=>
    have e0:Go.Sort.scanDown (fun x=> !ltN x D[a]!) D i 0=0:=rfl
    rw [e0] at eA
    unfold f209_l2_t
    (repeat' (first|(with_reducible first|refine brS_mk (fun _=> ?_) (fun _=> ?_)|refine And.intro ?_ ?_)|(simp (disch:=try exact dZ) only [↓RBp,↓RA,↓reduceIte,Nat.reduceAdd,Nat.reduceMul,Nat.reduceEqDiff,RB,RX,RA2])))
    apply t2 i 0 _ swA.drew oM oM oM oM eu eA.symm
   |succ j=>
    rw [scanDown_succ] at eA
    have gj:((j+1:Nat):Int)-1=(j:Int):=by omega
    by_cases hij:i≤j+1
    ·have c1:=arA.cell (j+1) oM
     have c2:=arA.cell a oM
     cases hl:ltN D[j+1]! D[a]! with
     |false=>
      rw [if_pos (by simp [hl];omega)] at eA
      unfold f209_l2_t
      (repeat' (first|(with_reducible first|refine brS_mk (fun _=> ?_) (fun _=> ?_)|refine And.intro ?_ ?_)|(simp (disch:=try exact dZ) only [↓RBp,↓RA,↓reduceIte,Nat.reduceAdd,Nat.reduceMul,Nat.reduceEqDiff,RB,RX,RA2,gj,c1,c2,c_Less,hl])))
      apply hEA
      ·exact ⟨j,rfl,by omega,by omega,swA.drew,eA⟩
      ·simp [intOf]
     |true=>
      rw [if_neg (by simp [hl])] at eA
      unfold f209_l2_t
      (repeat' (first|(with_reducible first|refine brS_mk (fun _=> ?_) (fun _=> ?_)|refine And.intro ?_ ?_)|(simp (disch:=try exact dZ) only [↓RBp,↓RA,↓reduceIte,Nat.reduceAdd,Nat.reduceMul,Nat.reduceEqDiff,RB,RX,RA2,gj,c1,c2,c_Less,hl])))
      apply t2 i (j+1) _ swA.drew oM oM oM oM eu eA.symm
    ·rw [if_neg (by simp;omega)] at eA
     unfold f209_l2_t
     (repeat' (first|(with_reducible first|refine brS_mk (fun _=> ?_) (fun _=> ?_)|refine And.intro ?_ ?_)|(simp (disch:=try exact dZ) only [↓RBp,↓RA,↓reduceIte,Nat.reduceAdd,Nat.reduceMul,Nat.reduceEqDiff,RB,RX,RA2])))
     apply t2 i (j+1) _ swA.drew oM oM oM oM eu eA.symm
 refine f209_call _ _ _ _ _ _ ?_
 unfold f209_t
 (repeat' (first|(with_reducible first|refine brS_mk (fun _=> ?_) (fun _=> ?_)|refine And.intro ?_ ?_)|(simp (disch:=try exact dZ) only [↓RBp,↓RA,↓reduceIte,Nat.reduceAdd,Nat.reduceMul,Nat.reduceEqDiff,RB,RX,RA2,e1,e2,c0,cp,cq,h.frz,ar0.frz])))
 apply f209_l1_rule (I:=fun x w'=>∃i:Nat,x= .int .i64 (i:Int)∧(a+1)≤i∧i≤(b-1)+2∧i≤b∧SW w w' q o D∧Go.Sort.scanUp (fun x=>ltN x D[a]!) D (b-1) i=Go.Sort.scanUp (fun x=>ltN x D[a]!) D (b-1) (a+1)) (μ:=fun x _=>(b-1)+3-(intOf x).toNat)
 ·exact ⟨(a+1),rfl,by omega,by omega,by omega,sw0.drew,rfl⟩
 ·intros;rename_i wA hIA EA hEA
  obtain ⟨i,rfl,hi1,hi2,hi3,swA,eA⟩:=hIA
  rw [scanUp_eq] at eA
  have arA:=swA.ar
  have gi:(i:Int)+1=((i+1:Nat):Int):=by omega
  by_cases hij:i≤(b-1)
  ·have c1:=arA.cell i oM
   have c2:=arA.cell a oM
   cases hl:ltN D[i]! D[a]! with
   |true=>
    rw [if_pos (by simp [hl];omega)] at eA
    unfold f209_l1_t
    (repeat' (first|(with_reducible first|refine brS_mk (fun _=> ?_) (fun _=> ?_)|refine And.intro ?_ ?_)|(simp (disch:=try exact dZ) only [↓RBp,↓RA,↓reduceIte,Nat.reduceAdd,Nat.reduceMul,Nat.reduceEqDiff,RB,RX,RA2,gi,c1,c2,c_Less,hl])))
    apply hEA
    ·exact ⟨i+1,rfl,by omega,by omega,by omega,swA.drew,eA⟩
    ·simp [intOf];omega
   |false=>
    rw [if_neg (by simp [hl])] at eA
    unfold f209_l1_t
    (repeat' (first|(with_reducible first|refine brS_mk (fun _=> ?_) (fun _=> ?_)|refine And.intro ?_ ?_)|(simp (disch:=try exact dZ) only [↓RBp,↓RA,↓reduceIte,Nat.reduceAdd,Nat.reduceMul,Nat.reduceEqDiff,RB,RX,RA2,gi,c1,c2,c_Less,hl,f209_k1_eq,f209_k1_t])))
    apply t1 i _ swA.drew oM oM eA.symm
  ·rw [if_neg (by simp;omega)] at eA
   unfold f209_l1_t
   (repeat' (first|(with_reducible first|refine brS_mk (fun _=> ?_) (fun _=> ?_)|refine And.intro ?_ ?_)|(simp (disch:=try exact dZ) only [↓RBp,↓RA,↓reduceIte,Nat.reduceAdd,Nat.reduceMul,Nat.reduceEqDiff,RB,RX,RA2,gi,f209_k1_eq,f209_k1_t])))
   apply t1 i _ swA.drew oM oM eA.symm
end
section
variable {w w':World} {q o cap:Nat} {d:Array Nat}
theorem k_partEq (h:Ar w q o d) (hd:d.size<1099511627776) (a b pv:Nat) (hab:a+1<b) (hb:b≤d.size) (hp:a≤pv) (hp2:pv<b) (K:K1) (hK:∀w',SW w w' q o (Go.Sort.partitionEqual ltN d a b pv).2→(Go.Sort.partitionEqual ltN d a b pv).2.size=d.size→a<(Go.Sort.partitionEqual ltN d a b pv).1∧(Go.Sort.partitionEqual ltN d a b pv).1≤b→K (.int .i64 (((Go.Sort.partitionEqual ltN d a b pv).1:Nat):Int)) w'):
  callS prog 208 #[.slice (some ⟨q,o,none⟩) d.size cap,.int .i64 (a:Int),.int .i64 (b:Int),.int .i64 (pv:Int)] w K:=by
 have c0:=h.cell a oM
 have cp:=h.cell pv oM
 have ar0:=h.set a d[pv]! oM
 have cq:=ar0.cell pv (by simp;omega)
 have sw0:=(SW.refl h).swp a pv oM oM
 have hz0:=swp_size d a pv
 unfold Go.Sort.partitionEqual at hK
 generalize hD:Go.Sort.swp d a pv=D at*
 have e1:(a:Int)+1=((a+1:Nat):Int):=by omega
 have e2:(b:Int)-1=((b-1:Nat):Int):=by omega
 have t3:∀(i0 j0:Nat) (D0:Array Nat),D0.size=d.size→(∀w',SW w w' q o (Go.Sort.partEqLoop ltN a i0 j0 D0).2→(Go.Sort.partEqLoop ltN a i0 j0 D0).2.size=d.size→a<(Go.Sort.partEqLoop ltN a i0 j0 D0).1∧(Go.Sort.partEqLoop ltN a i0 j0 D0).1≤b→K (.int .i64 (((Go.Sort.partEqLoop ltN a i0 j0 D0).1:Nat):Int)) w')→a+1≤i0→i0≤b→i0≤j0+2→a≤j0→j0<b→∀w0,SW w w0 q o D0→
   f208_l1 K (.slice (some ⟨q,o,none⟩) d.size cap) (.int .i64 ((a:Nat):Int)) (.int .i64 ((i0:Nat):Int)) (.int .i64 ((j0:Nat):Int)) w0:=by
  intro i0 j0 D0 hz hK3 b1 b2 b0 b3 b4 w0 s0
  apply f208_l1_rule (I:=fun x y w'=>∃(i j:Nat) (D1:Array Nat),x= .int .i64 (i:Int)∧y= .int .i64 (j:Int)∧a+1≤i∧i≤b∧i≤j+2∧a≤j∧j<b∧D1.size=d.size∧SW w w' q o D1∧Go.Sort.partEqLoop ltN a i j D1=Go.Sort.partEqLoop ltN a i0 j0 D0) (μ:=fun x y _=>(intOf y).toNat+1-(intOf x).toNat)
  ·exact ⟨i0,j0,D0,rfl,rfl,b1,b2,b0,b3,b4,hz,s0,rfl⟩
  ·intros;rename_i w1 hI E1 hE
   obtain ⟨i1,j1,D1,rfl,rfl,b5,b6,b9,b7,b8,hz1,sw1,eP⟩:=hI
   rw [Go.Sort.partEqLoop] at eP
   have t5:∀(i j:Nat) wB,SW w wB q o D1→i1≤i→i≤b→j≤j1→a≤j→Go.Sort.scanUp (fun x=> !ltN D1[a]! x) D1 j1 i1=i→Go.Sort.scanDown (fun x=>ltN D1[a]! x) D1 i j1=j→f208_k3 K E1 (.slice (some ⟨q,o,none⟩) d.size cap) (.int .i64 ((a:Nat):Int)) (.int .i64 ((i:Nat):Int)) (.int .i64 ((j:Nat):Int)) wB:=by
    intro i j wB swB h1 h2 h3 h4 eu ed
    simp only [eu,ed] at eP
    by_cases hij:i>j
    ·rw [if_pos hij] at eP
     rw [←eP] at hK3
     (repeat' (first|(with_reducible first|refine brS_mk (fun _=> ?_) (fun _=> ?_)|refine And.intro ?_ ?_)|(simp (disch:=try exact dZ) only [↓RBp,↓RA,↓reduceIte,Nat.reduceAdd,Nat.reduceMul,Nat.reduceEqDiff,RB,RX,RA2,f208_k3_eq,f208_k3_t,f208_k1_eq,f208_k1_t])))
     exact hK3 _ swB hz1 ⟨by show a<i;omega,h2⟩
    ·rw [if_neg hij,dif_pos oM] at eP
     have arB:=swB.ar
     have d1:=arB.cell i oM
     have d2:=arB.cell j oM
     have ar2:=arB.set i D1[j]! oM
     have d3:=ar2.cell j (by simp;omega)
     have ssw:=swB.swp i j oM oM
     have g1:(i:Int)+1=((i+1:Nat):Int):=by omega
     have g2:(j:Int)-1=((j-1:Nat):Int):=by omega
     (repeat' (first|(with_reducible first|refine brS_mk (fun _=> ?_) (fun _=> ?_)|refine And.intro ?_ ?_)|(simp (disch:=try exact dZ) only [↓RBp,↓RA,↓reduceIte,Nat.reduceAdd,Nat.reduceMul,Nat.reduceEqDiff,RB,RX,RA2,f208_k3_eq,f208_k3_t,d1,d2,d3,arB.frz,ar2.frz,g1,g2])))
     apply hE
     ·exact ⟨i+1,j-1,_,rfl,rfl,by omega,by omega,by omega,by omega,by omega,(swp_size _ _ _).trans hz1,ssw.drew,eP⟩
     ·simp [intOf];omega
   have t4:∀(i:Nat) wB,SW w wB q o D1→i1≤i→i≤b→Go.Sort.scanUp (fun x=> !ltN D1[a]! x) D1 j1 i1=i→f208_l3 K E1 (.slice (some ⟨q,o,none⟩) d.size cap) (.int .i64 ((a:Nat):Int)) (.int .i64 ((i:Nat):Int)) (.int .i64 ((j1:Nat):Int)) wB:=by
    intro i wB swB h1 h2 eu
    apply f208_l3_rule (I:=fun x w'=>∃j:Nat,x= .int .i64 (j:Int)∧j≤j1∧a≤j∧SW w w' q o D1∧Go.Sort.scanDown (fun x=>ltN D1[a]! x) D1 i j=Go.Sort.scanDown (fun x=>ltN D1[a]! x) D1 i j1) (μ:=fun x _=>(intOf x).toNat)
    ·exact ⟨j1,rfl,by omega,by omega,swB,rfl⟩
    ·intros;rename_i wA hIA EA hEA
     obtain ⟨j,rfl,hj1,hj2,swA,eA⟩:=hIA
     have arA:=swA.ar
     cases j with
     |zero=>
      have e0:Go.Sort.scanDown (fun x=>ltN D1[a]! x) D1 i 0=0:=rfl
      rw [e0] at eA
      unfold f208_l3_t
      (repeat' (first|(with_reducible first|refine brS_mk (fun _=> ?_) (fun _=> ?_)|refine And.intro ?_ ?_)|(simp (disch:=try exact dZ) only [↓RBp,↓RA,↓reduceIte,Nat.reduceAdd,Nat.reduceMul,Nat.reduceEqDiff,RB,RX,RA2])))
      apply t5 i 0 _ swA.drew oM oM oM oM eu eA.symm
     |succ j=>
      rw [scanDown_succ] at eA
      have gj:((j+1:Nat):Int)-1=(j:Int):=by omega
      by_cases hij:i≤j+1
      ·have c1:=arA.cell (j+1) oM
       have c2:=arA.cell a oM
       cases hl:ltN D1[a]! D1[j+1]! with
       |true=>
        rw [if_pos (by simp [hl];omega)] at eA
        unfold f208_l3_t
        (repeat' (first|(with_reducible first|refine brS_mk (fun _=> ?_) (fun _=> ?_)|refine And.intro ?_ ?_)|(simp (disch:=try exact dZ) only [↓RBp,↓RA,↓reduceIte,Nat.reduceAdd,Nat.reduceMul,Nat.reduceEqDiff,RB,RX,RA2,gj,c1,c2,c_Less,hl])))
        apply hEA
        ·exact ⟨j,rfl,by omega,by omega,swA.drew,eA⟩
        ·simp [intOf]
       |false=>
        rw [if_neg (by simp [hl])] at eA
        unfold f208_l3_t
        (repeat' (first|(with_reducible first|refine brS_mk (fun _=> ?_) (fun _=> ?_)|refine And.intro ?_ ?_)|(simp (disch:=try exact dZ) only [↓RBp,↓RA,↓reduceIte,Nat.reduceAdd,Nat.reduceMul,Nat.reduceEqDiff,RB,RX,RA2,gj,c1,c2,c_Less,hl])))
        apply t5 i (j+1) _ swA.drew oM oM oM oM eu eA.symm
      ·rw [if_neg (by simp;omega)] at eA
       unfold f208_l3_t
       (repeat' (first|(with_reducible first|refine brS_mk (fun _=> ?_) (fun _=> ?_)|refine And.intro ?_ ?_)|(simp (disch:=try exact dZ) only [↓RBp,↓RA,↓reduceIte,Nat.reduceAdd,Nat.reduceMul,Nat.reduceEqDiff,RB,RX,RA2])))
       apply t5 i (j+1) _ swA.drew oM oM oM oM eu eA.symm
   unfold f208_l1_t
   apply f208_l2_rule (I:=fun x w'=>∃i:Nat,x= .int .i64 (i:Int)∧i1≤i∧i≤j1+2∧i≤b∧SW w w' q o D1∧Go.Sort.scanUp (fun x=> !ltN D1[a]! x) D1 j1 i=Go.Sort.scanUp (fun x=> !ltN D1[a]! x) D1 j1 i1) (μ:=fun x _=>j1+3-(intOf x).toNat)
   ·exact ⟨i1,rfl,by omega,by omega,by omega,sw1,rfl⟩
   ·intros;rename_i wA hIA EA hEA
    obtain ⟨i,rfl,hi1,hi2,hi3,swA,eA⟩:=hIA
    rw [scanUp_eq] at eA
    have arA:=swA.ar
    have gi:(i:Int)+1=((i+1:Nat):Int):=by omega
    by_cases hij:i≤j1
    ·have c1:=arA.cell i oM
     have c2:=arA.cell a oM
     cases hl:ltN D1[a]! D1[i]! with
     |false=>
      rw [if_pos (by simp [hl];omega)] at eA
      unfold f208_l2_t
      (repeat' (first|(with_reducible first|refine brS_mk (fun _=> ?_) (fun _=> ?_)|refine And.intro ?_ ?_)|(simp (disch:=try exact dZ) only [↓RBp,↓RA,↓reduceIte,Nat.reduceAdd,Nat.reduceMul,Nat.reduceEqDiff,RB,RX,RA2,gi,c1,c2,c_Less,hl])))
      apply hEA
      ·exact ⟨i+1,rfl,by omega,by omega,by omega,swA.drew,eA⟩
      ·simp [intOf];omega
     |true=>
      rw [if_neg (by simp [hl])] at eA
      unfold f208_l2_t
      (repeat' (first|(with_reducible first|refine brS_mk (fun _=> ?_) (fun _=> ?_)|refine And.intro ?_ ?_)|(simp (disch:=try exact dZ) only [↓RBp,↓RA,↓reduceIte,Nat.reduceAdd,Nat.reduceMul,Nat.reduceEqDiff,RB,RX,RA2,gi,c1,c2,c_Less,hl,f208_k2_eq,f208_k2_t])))
      apply t4 i _ swA.drew oM oM eA.symm
    ·rw [if_neg (by simp;omega)] at eA
     unfold f208_l2_t
     (repeat' (first|(with_reducible first|refine brS_mk (fun _=> ?_) (fun _=> ?_)|refine And.intro ?_ ?_)|(simp (disch:=try exact dZ) only [↓RBp,↓RA,↓reduceIte,Nat.reduceAdd,Nat.reduceMul,Nat.reduceEqDiff,RB,RX,RA2,gi,f208_k2_eq,f208_k2_t])))
     apply t4 i _ swA.drew oM oM eA.symm
 refine f208_call _ _ _ _ _ _ ?_
 unfold f208_t
 (repeat' (first|(with_reducible first|refine brS_mk (fun _=> ?_) (fun _=> ?_)|refine And.intro ?_ ?_)|(simp (disch:=try exact dZ) only [↓RBp,↓RA,↓reduceIte,Nat.reduceAdd,Nat.reduceMul,Nat.reduceEqDiff,RB,RX,RA2,e1,e2,c0,cp,cq,h.frz,ar0.frz])))
 apply t3 (a+1) (b-1) D hz0 hK oM oM oM oM oM _ sw0.drew
end
section
variable {w w':World} {q o cap:Nat} {d:Array Nat}
theorem scanSorted_eq (d:Array Nat) (b i:Nat):Go.Sort.scanSorted ltN d b i=if (decide (i<b)&& !ltN d[i]! d[i-1]!)=true then Go.Sort.scanSorted ltN d b (i+1) else i:=by rw [Go.Sort.scanSorted]
theorem shiftDown_succ (j:Nat) (d:Array Nat):Go.Sort.shiftDown ltN (j+1) d=if (!ltN d[j+1]! d[j]!)=true then d else Go.Sort.shiftDown ltN j (Go.Sort.swp d (j+1) j):=rfl
theorem shiftUp_eq (b j:Nat) (d:Array Nat):Go.Sort.shiftUp ltN b j d=if j<b then (if (!ltN d[j]! d[j-1]!)=true then d else Go.Sort.shiftUp ltN b (j+1) (Go.Sort.swp d j (j-1))) else d:=by rw [Go.Sort.shiftUp]
theorem partialIns_succ (a b s i:Nat) (d:Array Nat):Go.Sort.partialIns ltN a b (s+1) i d=(if Go.Sort.scanSorted ltN d b i=b then (d,true) else if b-a<50 then (d,false) else
  Go.Sort.partialIns ltN a b s (Go.Sort.scanSorted ltN d b i) (if b-Go.Sort.scanSorted ltN d b i≥2 then Go.Sort.shiftUp ltN b (Go.Sort.scanSorted ltN d b i+1) (if Go.Sort.scanSorted ltN d b i-a≥2 then Go.Sort.shiftDown ltN (Go.Sort.scanSorted ltN d b i-1) (Go.Sort.swp d (Go.Sort.scanSorted ltN d b i) (Go.Sort.scanSorted ltN d b i-1)) else Go.Sort.swp d (Go.Sort.scanSorted ltN d b i) (Go.Sort.scanSorted ltN d b i-1)) else (if Go.Sort.scanSorted ltN d b i-a≥2 then Go.Sort.shiftDown ltN (Go.Sort.scanSorted ltN d b i-1) (Go.Sort.swp d (Go.Sort.scanSorted ltN d b i) (Go.Sort.scanSorted ltN d b i-1)) else Go.Sort.swp d (Go.Sort.scanSorted ltN d b i) (Go.Sort.scanSorted ltN d b i-1)))):=rfl
theorem k_pis (h:Ar w q o d) (hd:d.size<1099511627776) (a b:Nat) (hab:a+1<b) (hb:b≤d.size) (K:K1) (hK:∀w',SW w w' q o (Go.Sort.partialInsertionSort ltN d a b).1→(Go.Sort.partialInsertionSort ltN d a b).1.size=d.size→K (.bool (Go.Sort.partialInsertionSort ltN d a b).2) w'):
  callS prog 206 #[.slice (some ⟨q,o,none⟩) d.size cap,.int .i64 (a:Int),.int .i64 (b:Int)] w K:=by
 have e1:(a:Int)+1=((a+1:Nat):Int):=by omega
 refine f206_call _ _ _ _ _ ?_
 unfold f206_t
 simp (disch:=try exact dZ) only [↓RBp,↓RA,↓reduceIte,Nat.reduceAdd,Nat.reduceMul,Nat.reduceEqDiff,RB,RX,RA2,e1]
 generalize hT:Go.Sort.partialInsertionSort ltN d a b=T at*
 apply f206_l1_rule (I:=fun x y w'=>∃(i j:Nat) (D:Array Nat),x= .int .i64 (i:Int)∧y= .int .i64 (j:Int)∧j≤5∧a+1≤i∧i≤b∧D.size=d.size∧SW w w' q o D∧Go.Sort.partialIns ltN a b (5-j) i D=T) (μ:=fun _ y _=>6-(intOf y).toNat)
 ·exact ⟨a+1,0,d,rfl,rfl,by omega,by omega,by omega,rfl,SW.refl h,hT⟩
 ·intro x7 x8 w1 hI E1 hE
  obtain ⟨i0,jj,D,rfl,rfl,hj5,b1,b2,hz,sw,eT⟩:=hI
  by_cases hj:jj<5
  ·obtain ⟨s,hs⟩:∃s,5-jj=s+1:=⟨4-jj,by omega⟩
   rw [hs,partialIns_succ] at eT
   have es:5-(jj+1)=s:=by omega
   have gj:(jj:Int)+1=((jj+1:Nat):Int):=by omega
   have t2:∀(i:Nat) (D3:Array Nat) wB,a+1≤i→i≤b→D3.size=d.size→SW w wB q o D3→Go.Sort.partialIns ltN a b s i D3=T→f206_k2 K E1 (.slice (some ⟨q,o,none⟩) d.size cap) (.int .i64 ((a:Nat):Int)) (.int .i64 ((b:Nat):Int)) (.int .i64 ((i:Nat):Int)) (.int .i64 ((jj:Nat):Int)) wB:=by
    intro i D3 wB h1 h2 hz3 sw3 e3
    simp (disch:=try exact dZ) only [↓RBp,↓RA,↓reduceIte,Nat.reduceAdd,Nat.reduceMul,Nat.reduceEqDiff,RB,RX,RA2,f206_k2_eq,f206_k2_t,gj]
    apply hE
    ·exact ⟨i,jj+1,D3,rfl,rfl,by omega,h1,h2,hz3,sw3,by rw [es];exact e3⟩
    ·simp [intOf];omega
   have t4:∀(i:Nat) (D2:Array Nat) wB,a+1≤i→i<b→D2.size=d.size→SW w wB q o D2→Go.Sort.partialIns ltN a b s i (if b-i≥2 then Go.Sort.shiftUp ltN b (i+1) D2 else D2)=T→f206_k4 K E1 (.slice (some ⟨q,o,none⟩) d.size cap) (.int .i64 ((a:Nat):Int)) (.int .i64 ((b:Nat):Int)) (.int .i64 ((i:Nat):Int)) (.int .i64 ((jj:Nat):Int)) wB:=by
    intro i D2 wB h1 h2 hz2 sw2 e2
    have g1:(b:Int)-(i:Int)=((b-i:Nat):Int):=by omega
    have g2:(i:Int)+1=((i+1:Nat):Int):=by omega
    by_cases hbi:b-i≥2
    ·rw [if_pos hbi] at e2
     simp (disch:=try exact dZ) only [↓RBp,↓RA,↓reduceIte,Nat.reduceAdd,Nat.reduceMul,Nat.reduceEqDiff,RB,RX,RA2,f206_k4_eq,f206_k4_t,g1,g2]
     apply f206_l4_rule (I:=fun x w'=>∃(j:Nat) (D3:Array Nat),x= .int .i64 (j:Int)∧i+1≤j∧j≤b∧D3.size=d.size∧SW w w' q o D3∧Go.Sort.shiftUp ltN b j D3=Go.Sort.shiftUp ltN b (i+1) D2) (μ:=fun x _=>b+1-(intOf x).toNat)
     ·exact ⟨i+1,D2,rfl,by omega,by omega,hz2,sw2,rfl⟩
     ·intros;rename_i wA hIA EA hEA
      obtain ⟨j,D3,rfl,h3,h4,hz3,swA,eA⟩:=hIA
      rw [shiftUp_eq] at eA
      have arA:=swA.ar
      have q1:(j:Int)-1=((j-1:Nat):Int):=by omega
      have q2:(j:Int)+1=((j+1:Nat):Int):=by omega
      by_cases hjb:j<b
      ·rw [if_pos hjb] at eA
       have c1:=arA.cell j oM
       have c2:=arA.cell (j-1) oM
       cases hl:ltN D3[j]! D3[j-1]! with
       |true=>
        rw [hl,if_neg (by simp)] at eA
        have ar2:=arA.set j D3[j-1]! oM
        have c3:=ar2.cell (j-1) (by simp;omega)
        have ssw:=swA.swp j (j-1) oM oM
        unfold f206_l4_t
        (repeat' (first|(with_reducible first|refine brS_mk (fun _=> ?_) (fun _=> ?_)|refine And.intro ?_ ?_)|(simp (disch:=try exact dZ) only [↓RBp,↓RA,↓reduceIte,Nat.reduceAdd,Nat.reduceMul,Nat.reduceEqDiff,RB,RX,RA2,q1,q2,c1,c2,c3,c_Less,hl,arA.frz,ar2.frz])))
        apply hEA
        ·exact ⟨j+1,_,rfl,by omega,by omega,(swp_size _ _ _).trans hz3,ssw.drew.drew,eA⟩
        ·simp [intOf];omega
       |false=>
        rw [hl,if_pos (by simp)] at eA
        unfold f206_l4_t
        (repeat' (first|(with_reducible first|refine brS_mk (fun _=> ?_) (fun _=> ?_)|refine And.intro ?_ ?_)|(simp (disch:=try exact dZ) only [↓RBp,↓RA,↓reduceIte,Nat.reduceAdd,Nat.reduceMul,Nat.reduceEqDiff,RB,RX,RA2,q1,q2,c1,c2,c_Less,hl])))
        apply t2 i D3 _ h1 oM hz3 swA.drew (by rw [eA];exact e2)
      ·rw [if_neg hjb] at eA
       unfold f206_l4_t
       (repeat' (first|(with_reducible first|refine brS_mk (fun _=> ?_) (fun _=> ?_)|refine And.intro ?_ ?_)|(simp (disch:=try exact dZ) only [↓RBp,↓RA,↓reduceIte,Nat.reduceAdd,Nat.reduceMul,Nat.reduceEqDiff,RB,RX,RA2,q1,q2])))
       apply t2 i D3 _ h1 oM hz3 swA (by rw [eA];exact e2)
    ·rw [if_neg hbi] at e2
     simp (disch:=try exact dZ) only [↓RBp,↓RA,↓reduceIte,Nat.reduceAdd,Nat.reduceMul,Nat.reduceEqDiff,RB,RX,RA2,f206_k4_eq,f206_k4_t,g1,g2]
     apply t2 i D2 _ h1 oM hz2 sw2 e2
   have t3:∀(i:Nat) wB,a+1≤i→i≤b→SW w wB q o D→Go.Sort.scanSorted ltN D b i0=i→f206_k3 K E1 (.slice (some ⟨q,o,none⟩) d.size cap) (.int .i64 ((a:Nat):Int)) (.int .i64 ((b:Nat):Int)) (.int .i64 ((i:Nat):Int)) (.int .i64 ((jj:Nat):Int)) wB:=by
    intro i wB h1 h2 swB ei
    rw [ei] at eT
    by_cases hib:i=b
    ·rw [if_pos hib] at eT
     rw [←eT] at hK
     subst hib
     simp (disch:=try exact dZ) only [↓RBp,↓RA,↓reduceIte,Nat.reduceAdd,Nat.reduceMul,Nat.reduceEqDiff,RB,RX,RA2,f206_k3_eq,f206_k3_t]
     exact hK _ swB hz
    ·rw [if_neg hib] at eT
     have g1:(b:Int)-(a:Int)=((b-a:Nat):Int):=by omega
     have g2:(i:Int)-1=((i-1:Nat):Int):=by omega
     have g3:(i:Int)-(a:Int)=((i-a:Nat):Int):=by omega
     by_cases h50:b-a<50
     ·rw [if_pos h50] at eT
      rw [←eT] at hK
      simp (disch:=try exact dZ) only [↓RBp,↓RA,↓reduceIte,Nat.reduceAdd,Nat.reduceMul,Nat.reduceEqDiff,RB,RX,RA2,f206_k3_eq,f206_k3_t,g1]
      exact hK _ swB hz
     ·rw [if_neg h50] at eT
      have arB:=swB.ar
      have c1:=arB.cell i oM
      have c2:=arB.cell (i-1) oM
      have ar2:=arB.set i D[i-1]! oM
      have c3:=ar2.cell (i-1) (by simp;omega)
      have ssw:=swB.swp i (i-1) oM oM
      have hz1:=(swp_size D i (i-1)).trans hz
      by_cases hia:i-a≥2
      ·rw [if_pos hia] at eT
       (repeat' (first|(with_reducible first|refine brS_mk (fun _=> ?_) (fun _=> ?_)|refine And.intro ?_ ?_)|(simp (disch:=try exact dZ) only [↓RBp,↓RA,↓reduceIte,Nat.reduceAdd,Nat.reduceMul,Nat.reduceEqDiff,RB,RX,RA2,f206_k3_eq,f206_k3_t,g1,g2,g3,c1,c2,c3,arB.frz,ar2.frz])))
       apply f206_l3_rule (I:=fun x w'=>∃(j:Nat) (D2:Array Nat),x= .int .i64 (j:Int)∧j≤i-1∧D2.size=d.size∧SW w w' q o D2∧Go.Sort.shiftDown ltN j D2=Go.Sort.shiftDown ltN (i-1) (Go.Sort.swp D i (i-1))) (μ:=fun x _=>(intOf x).toNat)
       ·exact ⟨i-1,_,rfl,by omega,hz1,ssw.drew,rfl⟩
       ·intros;rename_i wA hIA EA hEA
        obtain ⟨j,D2,rfl,h3,hz2,swA,eA⟩:=hIA
        have arA:=swA.ar
        cases j with
        |zero=>
         have e0:Go.Sort.shiftDown ltN 0 D2=D2:=rfl
         rw [e0] at eA
         unfold f206_l3_t
         (repeat' (first|(with_reducible first|refine brS_mk (fun _=> ?_) (fun _=> ?_)|refine And.intro ?_ ?_)|(simp (disch:=try exact dZ) only [↓RBp,↓RA,↓reduceIte,Nat.reduceAdd,Nat.reduceMul,Nat.reduceEqDiff,RB,RX,RA2])))
         apply t4 i D2 _ h1 oM hz2 swA (by rw [eA];exact eT)
        |succ j=>
         rw [shiftDown_succ] at eA
         have q1:((j+1:Nat):Int)-1=(j:Int):=by omega
         have d1:=arA.cell (j+1) oM
         have d2:=arA.cell j oM
         cases hl:ltN D2[j+1]! D2[j]! with
         |true=>
          rw [hl,if_neg (by simp)] at eA
          have ar3:=arA.set (j+1) D2[j]! oM
          have d3:=ar3.cell j (by simp;omega)
          have ssw2:=swA.swp (j+1) j oM oM
          unfold f206_l3_t
          (repeat' (first|(with_reducible first|refine brS_mk (fun _=> ?_) (fun _=> ?_)|refine And.intro ?_ ?_)|(simp (disch:=try exact dZ) only [↓RBp,↓RA,↓reduceIte,Nat.reduceAdd,Nat.reduceMul,Nat.reduceEqDiff,RB,RX,RA2,q1,d1,d2,d3,c_Less,hl,arA.frz,ar3.frz])))
          apply hEA
          ·exact ⟨j,_,rfl,by omega,(swp_size _ _ _).trans hz2,ssw2.drew.drew,eA⟩
          ·simp [intOf]
         |false=>
          rw [hl,if_pos (by simp)] at eA
          unfold f206_l3_t
          (repeat' (first|(with_reducible first|refine brS_mk (fun _=> ?_) (fun _=> ?_)|refine And.intro ?_ ?_)|(simp (disch:=try exact dZ) only [↓RBp,↓RA,↓reduceIte,Nat.reduceAdd,Nat.reduceMul,Nat.reduceEqDiff,RB,RX,RA2,q1,d1,d2,c_Less,hl])))
          apply t4 i D2 _ h1 oM hz2 swA.drew (by rw [eA];exact eT)
      ·rw [if_neg hia] at eT
       (repeat' (first|(with_reducible first|refine brS_mk (fun _=> ?_) (fun _=> ?_)|refine And.intro ?_ ?_)|(simp (disch:=try exact dZ) only [↓RBp,↓RA,↓reduceIte,Nat.reduceAdd,Nat.reduceMul,Nat.reduceEqDiff,RB,RX,RA2,f206_k3_eq,f206_k3_t,g1,g2,g3,c1,c2,c3,arB.frz,ar2.frz])))
       apply t4 i _ _ h1 oM hz1 ssw.drew eT
   unfold f206_l1_t
   simp (disch:=try exact dZ) only [↓RBp,↓RA,↓reduceIte,Nat.reduceAdd,Nat.reduceMul,Nat.reduceEqDiff,RB,RX,RA2]
   apply f206_l2_rule (I:=fun x w'=>∃i:Nat,x= .int .i64 (i:Int)∧a+1≤i∧i≤b∧SW w w' q o D∧Go.Sort.scanSorted ltN D b i=Go.Sort.scanSorted ltN D b i0) (μ:=fun x _=>b+1-(intOf x).toNat)
   ·exact ⟨i0,rfl,b1,b2,sw,rfl⟩
   ·intros;rename_i wA hIA EA hEA
    obtain ⟨i,rfl,h1,h2,swA,eA⟩:=hIA
    rw [scanSorted_eq] at eA
    have arA:=swA.ar
    have q1:(i:Int)-1=((i-1:Nat):Int):=by omega
    have q2:(i:Int)+1=((i+1:Nat):Int):=by omega
    by_cases hib:i<b
    ·have c1:=arA.cell i oM
     have c2:=arA.cell (i-1) oM
     cases hl:ltN D[i]! D[i-1]! with
     |false=>
      rw [if_pos (by simp [hl];omega)] at eA
      unfold f206_l2_t
      (repeat' (first|(with_reducible first|refine brS_mk (fun _=> ?_) (fun _=> ?_)|refine And.intro ?_ ?_)|(simp (disch:=try exact dZ) only [↓RBp,↓RA,↓reduceIte,Nat.reduceAdd,Nat.reduceMul,Nat.reduceEqDiff,RB,RX,RA2,q1,q2,c1,c2,c_Less,hl])))
      apply hEA
      ·exact ⟨i+1,rfl,by omega,by omega,swA.drew,eA⟩
      ·simp [intOf];omega
     |true=>
      rw [if_neg (by simp [hl])] at eA
      unfold f206_l2_t
      (repeat' (first|(with_reducible first|refine brS_mk (fun _=> ?_) (fun _=> ?_)|refine And.intro ?_ ?_)|(simp (disch:=try exact dZ) only [↓RBp,↓RA,↓reduceIte,Nat.reduceAdd,Nat.reduceMul,Nat.reduceEqDiff,RB,RX,RA2,q1,q2,c1,c2,c_Less,hl])))
      apply t3 i _ h1 h2 swA.drew eA.symm
    ·rw [if_neg (by simp;omega)] at eA
     unfold f206_l2_t
     (repeat' (first|(with_reducible first|refine brS_mk (fun _=> ?_) (fun _=> ?_)|refine And.intro ?_ ?_)|(simp (disch:=try exact dZ) only [↓RBp,↓RA,↓reduceIte,Nat.reduceAdd,Nat.reduceMul,Nat.reduceEqDiff,RB,RX,RA2])))
     apply t3 i _ h1 h2 swA.drew eA.symm
  ·have:jj=5:=by omega
   subst this
   have e0:Go.Sort.partialIns ltN a b (5-5) i0 D=(D,false):=rfl
   rw [e0] at eT
   rw [←eT] at hK
   unfold f206_l1_t
   simp (disch:=try exact dZ) only [↓RBp,↓RA,↓reduceIte,Nat.reduceAdd,Nat.reduceMul,Nat.reduceEqDiff,RB,RX,RA2,f206_k1_eq,f206_k1_t]
   exact hK _ sw hz
end
section
variable {w w':World} {q o cap:Nat} {d:Array Nat}
def pd3 (D:Array Nat) (a b lim pv:Nat) (wb wp:Bool):Array Nat:=
 if (decide (a>0)&& !ltN D[a-1]! D[pv]!)=true then
  match Go.Sort.partitionEqual ltN D a b pv with
  |(mid,d4)=>if _h:a<mid∧mid≤b then Go.Sort.pdq ltN d4 mid b lim wb wp else d4
 else
  match Go.Sort.partition ltN D a b pv with
  |(mid,ap,d4)=>
   if _h:a≤mid∧mid<b then
    if mid-a<b-mid then Go.Sort.pdq ltN (Go.Sort.pdq ltN d4 a mid lim true true) (mid+1) b lim (decide (mid-a≥(b-a)/8)) ap
    else Go.Sort.pdq ltN (Go.Sort.pdq ltN d4 (mid+1) b lim true true) a mid lim (decide (b-mid≥(b-a)/8)) ap
   else d4
def pd2 (D:Array Nat) (a b lim pv:Nat) (hint:Go.Sort.Hint) (wb wp:Bool):Array Nat:=
 let pi:=if wb&&wp&&hint= .increasing then Go.Sort.partialInsertionSort ltN D a b else (D,false)
 if pi.2 then pi.1 else pd3 pi.1 a b lim pv wb wp
def pd1 (D:Array Nat) (a b lim:Nat) (wb wp:Bool):Array Nat:=
 let c:=Go.Sort.choosePivot ltN D a b
 pd2 (if c.2= .decreasing then Go.Sort.reverseRange D a b else D) a b lim (if c.2= .decreasing then (b-1)-(c.1-a) else c.1) (if c.2= .decreasing then Go.Sort.Hint.increasing else c.2) wb wp
theorem pdq_eq (D:Array Nat) (a b lim:Nat) (wb wp:Bool):Go.Sort.pdq ltN D a b lim wb wp=if b-a≤12 then Go.Sort.insertionSort ltN D a b else if lim=0 then Go.Sort.heapSort ltN D a b else pd1 (if !wb then Go.Sort.breakPatterns D a b else D) a b (if !wb then lim-1 else lim) wb wp:=by
 rw [Go.Sort.pdq]
 rfl
theorem k_pdq:∀(N:Nat) (w:World) (d:Array Nat) (a0 b0 lim0:Nat) (K:K1),b0-a0≤N→Ar w q o d→d.size<1099511627776→a0≤b0→b0≤d.size→lim0<1099511627776→(∀w',SW w w' q o (Go.Sort.pdq ltN d a0 b0 lim0 true true)→(Go.Sort.pdq ltN d a0 b0 lim0 true true).size=d.size→K (.tuple #[]) w')→
  callS prog 187 #[.slice (some ⟨q,o,none⟩) d.size cap,.int .i64 (a0:Int),.int .i64 (b0:Int),.int .i64 (lim0:Int)] w K:=by
 intro N
 induction N using Nat.strongRecOn with
 |ind N ih=>
 intro w d a0 b0 lim0 K hN h hd hab hb hlim hK
 refine f187_call _ _ _ _ _ _ ?_
 unfold f187_t
 generalize hT:Go.Sort.pdq ltN d a0 b0 lim0 true true=T at*
 apply f187_l1_rule (I:=fun x1 x2 x3 x8 x9 w'=>∃(a b lim:Nat) (wb wp:Bool) (D:Array Nat),x1= .int .i64 (a:Int)∧x2= .int .i64 (b:Int)∧x3= .int .i64 (lim:Int)∧x8= .bool wb∧x9= .bool wp∧b-a≤b0-a0∧a≤b∧b≤d.size∧lim≤lim0∧D.size=d.size∧SW w w' q o D∧Go.Sort.pdq ltN D a b lim wb wp=T) (μ:=fun x1 x2 _ _ _ _=>(intOf x2).toNat-(intOf x1).toNat)
 ·exact ⟨a0,b0,lim0,true,true,d,rfl,rfl,rfl,rfl,rfl,Nat.le_refl _,hab,hb,Nat.le_refl _,rfl,SW.refl h,hT⟩
 ·intro x1 x2 x3 x8 x9 w1 hI E1 hE
  obtain ⟨a,b,lim0',wb,wp,D,rfl,rfl,rfl,rfl,rfl,hba,hab1,hb1,hl1,hz,sw,eT⟩:=hI
  rw [pdq_eq] at eT
  have g0:(b:Int)-(a:Int)=((b-a:Nat):Int):=by omega
  by_cases h12:b-a≤12
  ·rw [if_pos h12] at eT
   unfold f187_l1_t
   simp (disch:=try exact dZ) only [↓RBp,↓RA,↓reduceIte,Nat.reduceAdd,Nat.reduceMul,Nat.reduceEqDiff,RB,RX,RA2,g0]
   rw [←hz]
   refine k_ins sw.ar oM a b hab1 oM _ (fun w2 h2 hz2=> ?_)
   rw [eT] at h2 hz2
   exact hK _ (sw.trans h2) (hz2.trans hz)
  ·rw [if_neg h12] at eT
   by_cases hl0:lim0'=0
   ·rw [if_pos hl0] at eT
    subst hl0
    unfold f187_l1_t
    simp (disch:=try exact dZ) only [↓RBp,↓RA,↓reduceIte,Nat.reduceAdd,Nat.reduceMul,Nat.reduceEqDiff,RB,RX,RA2,g0]
    rw [←hz]
    refine k_heap sw.ar oM a b oM oM _ (fun w2 h2 hz2=> ?_)
    rw [eT] at h2 hz2
    exact hK _ (sw.trans h2) (hz2.trans hz)
   ·rw [if_neg hl0] at eT
    have t3:∀(lim pv:Nat) (D3:Array Nat) wB,lim≤lim0'→a≤pv→pv<b→D3.size=d.size→SW w wB q o D3→pd3 D3 a b lim pv wb wp=T→f187_k3 K E1 (.slice (some ⟨q,o,none⟩) d.size cap) (.int .i64 ((a:Nat):Int)) (.int .i64 ((b:Nat):Int)) (.int .i64 ((lim:Nat):Int)) (.bool wb) (.bool wp) (.int .i64 (((b-a):Nat):Int)) (.int .i64 ((pv:Nat):Int)) wB:=by
     intro lim pv D3 wB hl hp1 hp2 hz3 sw3 e3
     unfold pd3 at e3
     have ar3:=sw3.ar
     have cc:=ar3.cell pv oM
     by_cases ha:a>0
     ·have ga:(a:Int)-1=((a-1:Nat):Int):=by omega
      have ca:=ar3.cell (a-1) oM
      cases hlt:ltN D3[a-1]! D3[pv]! with
      |false=>
       rw [hlt,if_pos (by simp;omega)] at e3
       have kk:=fun K hK=>k_partEq (cap:=cap) (K:=K) sw3.drew.ar oM a b pv oM oM hp1 hp2 hK
       generalize Go.Sort.partitionEqual ltN D3 a b pv=R at*
       obtain ⟨mid,d4⟩:=R
       simp only at e3 kk
       (repeat' (first|(with_reducible first|refine brS_mk (fun _=> ?_) (fun _=> ?_)|refine And.intro ?_ ?_)|(simp (disch:=try exact dZ) only [↓RBp,↓RA,↓reduceIte,Nat.reduceAdd,Nat.reduceMul,Nat.reduceEqDiff,RB,RX,RA2,f187_k3_eq,f187_k3_t,ga,ca,cc,c_Less,hlt])))
       rw [←hz3]
       refine kk _ (fun w4 h4 hz4 hr4=> ?_)
       rw [dif_pos hr4] at e3
       try rw [hz3]
       apply hE
       ·exact ⟨mid,b,lim,wb,wp,d4,rfl,rfl,rfl,rfl,rfl,by omega,by omega,by omega,by omega,hz4.trans hz3,sw3.drew.trans h4,e3⟩
       ·simp [intOf];omega
      |true=>
       rw [hlt,if_neg (by simp)] at e3
       (repeat' (first|(with_reducible first|refine brS_mk (fun _=> ?_) (fun _=> ?_)|refine And.intro ?_ ?_)|(simp (disch:=try exact dZ) only [↓RBp,↓RA,↓reduceIte,Nat.reduceAdd,Nat.reduceMul,Nat.reduceEqDiff,RB,RX,RA2,f187_k3_eq,f187_k3_t,ga,ca,cc,c_Less,hlt])))
       have hst:=Go.Sort.partition_holds ltN ltN_swo D3 a b pv hp1 hp2 oM
       have kk:=fun K hK=>k_part (cap:=cap) (K:=K) sw3.drew.ar oM a b pv oM oM hp1 hp2 hK
       generalize Go.Sort.partition ltN D3 a b pv=R at*
       obtain ⟨mid,ap,d4⟩:=R
       simp only at e3 hst kk
       obtain ⟨m1,m2,_⟩:=hst
       rw [dif_pos ⟨m1,m2⟩] at e3
       rw [←hz3]
       refine kk _ (fun w4 h4 hz4=> ?_)
       have g1:(mid:Int)-(a:Int)=((mid-a:Nat):Int):=by omega
       have g2:(b:Int)-(mid:Int)=((b-mid:Nat):Int):=by omega
       have g3:(mid:Int)+1=((mid+1:Nat):Int):=by omega
       have g4:((b-a:Nat):Int)/8=(((b-a)/8:Nat):Int):=by omega
       have hz5:d4.size=d.size:=hz4.trans hz3
       have f1:decide (((b-a:Nat):Int)/8≤(mid:Int)-(a:Int))=decide (mid-a≥(b-a)/8):=by
        have:(((b-a:Nat):Int)/8≤(mid:Int)-(a:Int))=(mid-a≥(b-a)/8):=propext oM
        simp only [this]
       have f2:decide (((b-a:Nat):Int)/8≤(b:Int)-(mid:Int))=decide (b-mid≥(b-a)/8):=by
        have:(((b-a:Nat):Int)/8≤(b:Int)-(mid:Int))=(b-mid≥(b-a)/8):=propext oM
        simp only [this]
       by_cases hmm:mid-a<b-mid
       ·rw [if_pos hmm] at e3
        simp (disch:=try exact dZ) only [↓RBp,↓RA,↓reduceIte,Nat.reduceAdd,Nat.reduceMul,Nat.reduceEqDiff,RB,RX,RA2,g0,f1,f2,g1,g2,g4]
        rw [hz3,←hz5]
        refine ih (mid-a) oM w4 d4 a mid lim _ (Nat.le_refl _) h4.ar oM m1 oM oM (fun w5 h5 hz6=> ?_)
        try rw [hz5]
        simp (disch:=try exact dZ) only [↓RBp,↓RA,↓reduceIte,Nat.reduceAdd,Nat.reduceMul,Nat.reduceEqDiff,RB,RX,RA2,g3]
        apply hE
        ·exact ⟨mid+1,b,lim,decide (mid-a≥(b-a)/8),ap,_,rfl,rfl,rfl,by rw [f1],rfl,by omega,by omega,by omega,by omega,hz6.trans hz5,(sw3.drew.trans h4).trans h5,e3⟩
        ·simp [intOf];omega
       ·rw [if_neg hmm] at e3
        simp (disch:=try exact dZ) only [↓RBp,↓RA,↓reduceIte,Nat.reduceAdd,Nat.reduceMul,Nat.reduceEqDiff,RB,RX,RA2,g0,f1,f2,g1,g2,g3,g4]
        rw [hz3,←hz5]
        refine ih (b-(mid+1)) oM w4 d4 (mid+1) b lim _ (Nat.le_refl _) h4.ar oM oM oM oM (fun w5 h5 hz6=> ?_)
        try rw [hz5]
        apply hE
        ·exact ⟨a,mid,lim,decide (b-mid≥(b-a)/8),ap,_,rfl,rfl,rfl,by rw [f2],rfl,by omega,by omega,by omega,by omega,hz6.trans hz5,(sw3.drew.trans h4).trans h5,e3⟩
        ·simp [intOf];omega
     ·rw [if_neg (by simp [ha])] at e3
      (repeat' (first|(with_reducible first|refine brS_mk (fun _=> ?_) (fun _=> ?_)|refine And.intro ?_ ?_)|(simp (disch:=try exact dZ) only [↓RBp,↓RA,↓reduceIte,Nat.reduceAdd,Nat.reduceMul,Nat.reduceEqDiff,RB,RX,RA2,f187_k3_eq,f187_k3_t])))
      have hst:=Go.Sort.partition_holds ltN ltN_swo D3 a b pv hp1 hp2 oM
      have kk:=fun K hK=>k_part (cap:=cap) (K:=K) sw3.drew.ar oM a b pv oM oM hp1 hp2 hK
      generalize Go.Sort.partition ltN D3 a b pv=R at*
      obtain ⟨mid,ap,d4⟩:=R
      simp only at e3 hst kk
      obtain ⟨m1,m2,_⟩:=hst
      rw [dif_pos ⟨m1,m2⟩] at e3
      rw [←hz3]
      refine kk _ (fun w4 h4 hz4=> ?_)
      have g1:(mid:Int)-(a:Int)=((mid-a:Nat):Int):=by omega
      have g2:(b:Int)-(mid:Int)=((b-mid:Nat):Int):=by omega
      have g3:(mid:Int)+1=((mid+1:Nat):Int):=by omega
      have g4:((b-a:Nat):Int)/8=(((b-a)/8:Nat):Int):=by omega
      have hz5:d4.size=d.size:=hz4.trans hz3
      have f1:decide (((b-a:Nat):Int)/8≤(mid:Int)-(a:Int))=decide (mid-a≥(b-a)/8):=by
       have:(((b-a:Nat):Int)/8≤(mid:Int)-(a:Int))=(mid-a≥(b-a)/8):=propext oM
       simp only [this]
      have f2:decide (((b-a:Nat):Int)/8≤(b:Int)-(mid:Int))=decide (b-mid≥(b-a)/8):=by
       have:(((b-a:Nat):Int)/8≤(b:Int)-(mid:Int))=(b-mid≥(b-a)/8):=propext oM
       simp only [this]
      by_cases hmm:mid-a<b-mid
      ·rw [if_pos hmm] at e3
       simp (disch:=try exact dZ) only [↓RBp,↓RA,↓reduceIte,Nat.reduceAdd,Nat.reduceMul,Nat.reduceEqDiff,RB,RX,RA2,g0,f1,f2,g1,g2,g4]
       rw [hz3,←hz5]
       refine ih (mid-a) oM w4 d4 a mid lim _ (Nat.le_refl _) h4.ar oM m1 oM oM (fun w5 h5 hz6=> ?_)
       try rw [hz5]
       simp (disch:=try exact dZ) only [↓RBp,↓RA,↓reduceIte,Nat.reduceAdd,Nat.reduceMul,Nat.reduceEqDiff,RB,RX,RA2,g3]
       apply hE
       ·exact ⟨mid+1,b,lim,decide (mid-a≥(b-a)/8),ap,_,rfl,rfl,rfl,by rw [f1],rfl,by omega,by omega,by omega,by omega,hz6.trans hz5,(sw3.drew.trans h4).trans h5,e3⟩
       ·simp [intOf];omega
      ·rw [if_neg hmm] at e3
       simp (disch:=try exact dZ) only [↓RBp,↓RA,↓reduceIte,Nat.reduceAdd,Nat.reduceMul,Nat.reduceEqDiff,RB,RX,RA2,g0,f1,f2,g1,g2,g3,g4]
       rw [hz3,←hz5]
       refine ih (b-(mid+1)) oM w4 d4 (mid+1) b lim _ (Nat.le_refl _) h4.ar oM oM oM oM (fun w5 h5 hz6=> ?_)
       try rw [hz5]
       apply hE
       ·exact ⟨a,mid,lim,decide (b-mid≥(b-a)/8),ap,_,rfl,rfl,rfl,by rw [f2],rfl,by omega,by omega,by omega,by omega,hz6.trans hz5,(sw3.drew.trans h4).trans h5,e3⟩
       ·simp [intOf];omega
    have t2:∀(lim pv:Nat) (hh:Go.Sort.Hint) (D2:Array Nat) wB,lim≤lim0'→a≤pv→pv<b→D2.size=d.size→SW w wB q o D2→pd2 D2 a b lim pv hh wb wp=T→f187_k2 K E1 (.slice (some ⟨q,o,none⟩) d.size cap) (.int .i64 ((a:Nat):Int)) (.int .i64 ((b:Nat):Int)) (.int .i64 ((lim:Nat):Int)) (.bool wb) (.bool wp) (.int .i64 (((b-a):Nat):Int)) (.int .i64 ((pv:Nat):Int)) (.int .i64 (hintN hh)) wB:=by
     intro lim pv hh D2 wB hl hp1 hp2 hz2 sw2 e2
     unfold pd2 at e2
     have nopi:(wb&&wp&&decide (hh= .increasing))=false→pd3 D2 a b lim pv wb wp=T:=by
      intro hc
      simpa [hc] using e2
     cases hwb:wb with
     |false=>
      rw [hwb] at nopi t3
      simp (disch:=try exact dZ) only [↓RBp,↓RA,↓reduceIte,Nat.reduceAdd,Nat.reduceMul,Nat.reduceEqDiff,RB,RX,RA2,f187_k2_eq,f187_k2_t]
      apply t3 lim pv D2 _ hl hp1 hp2 hz2 sw2 (nopi (by simp))
     |true=>
      cases hwp:wp with
      |false=>
       rw [hwb,hwp] at nopi t3
       simp (disch:=try exact dZ) only [↓RBp,↓RA,↓reduceIte,Nat.reduceAdd,Nat.reduceMul,Nat.reduceEqDiff,RB,RX,RA2,f187_k2_eq,f187_k2_t]
       apply t3 lim pv D2 _ hl hp1 hp2 hz2 sw2 (nopi (by simp))
      |true=>
       rw [hwb,hwp] at nopi t3 e2
       by_cases hi:hh= .increasing
       ·have e2':(if (Go.Sort.partialInsertionSort ltN D2 a b).2=true then (Go.Sort.partialInsertionSort ltN D2 a b).1 else pd3 (Go.Sort.partialInsertionSort ltN D2 a b).1 a b lim pv true true)=T:=by simpa [hi] using e2
        have kk:=fun K hK=>k_pis (cap:=cap) (K:=K) sw2.ar oM a b oM oM hK
        generalize Go.Sort.partialInsertionSort ltN D2 a b=R at*
        obtain ⟨d5,r5⟩:=R
        simp only at e2' kk
        subst hi
        have hn1:hintN .increasing=1:=rfl
        simp (disch:=try exact dZ) only [↓RBp,↓RA,↓reduceIte,Nat.reduceAdd,Nat.reduceMul,Nat.reduceEqDiff,RB,RX,RA2,f187_k2_eq,f187_k2_t,hn1]
        rw [←hz2]
        refine kk _ (fun w4 h4 hz4=> ?_)
        try rw [hz2]
        cases r5 with
        |true=>
         rw [if_pos rfl] at e2'
         rw [←e2'] at hK
         simp (disch:=try exact dZ) only [↓RBp,↓RA,↓reduceIte,Nat.reduceAdd,Nat.reduceMul,Nat.reduceEqDiff,RB,RX,RA2]
         exact hK _ (sw2.trans h4) (hz4.trans hz2)
        |false=>
         rw [if_neg (by simp)] at e2'
         simp (disch:=try exact dZ) only [↓RBp,↓RA,↓reduceIte,Nat.reduceAdd,Nat.reduceMul,Nat.reduceEqDiff,RB,RX,RA2]
         apply t3 lim pv d5 _ hl hp1 hp2 (hz4.trans hz2) (sw2.trans h4) e2'
       ·have hn1:¬hintN hh=1:=by cases hh<;>simp_all [hintN]
        simp (disch:=try exact dZ) only [↓RBp,↓RA,↓reduceIte,Nat.reduceAdd,Nat.reduceMul,Nat.reduceEqDiff,RB,RX,RA2,f187_k2_eq,f187_k2_t,dec_false hn1]
        apply t3 lim pv D2 _ hl hp1 hp2 hz2 sw2 (nopi (by simp [hi]))
    have t1:∀(lim:Nat) (D1:Array Nat) wB,lim≤lim0'→D1.size=d.size→SW w wB q o D1→pd1 D1 a b lim wb wp=T→f187_k1 K E1 (.slice (some ⟨q,o,none⟩) d.size cap) (.int .i64 ((a:Nat):Int)) (.int .i64 ((b:Nat):Int)) (.int .i64 ((lim:Nat):Int)) (.bool wb) (.bool wp) (.int .i64 (((b-a):Nat):Int)) wB:=by
     intro lim D1 wB hl hz1 sw1 e1
     unfold pd1 at e1
     have hcp:=Go.Sort.choosePivot_holds ltN D1 a b oM
     have kk:=fun K hK=>k_choose (cap:=cap) (K:=K) sw1.ar oM a b oM oM hK
     generalize Go.Sort.choosePivot ltN D1 a b=C at*
     obtain ⟨pv,hh⟩:=C
     simp only at e1 hcp kk
     simp (disch:=try exact dZ) only [↓RBp,↓RA,↓reduceIte,Nat.reduceAdd,Nat.reduceMul,Nat.reduceEqDiff,RB,RX,RA2,f187_k1_eq,f187_k1_t]
     rw [←hz1]
     refine kk _ (fun w2 h2=> ?_)
     try rw [hz1]
     have sw2:SW w w2 q o D1:=⟨sw1.ar.frm (Frm.of_ext (F:=fun _=>False) h2) (fun h=>h),sw1.frm.ext h2⟩
     by_cases hdec:hh= .decreasing
     ·subst hdec
      simp only [if_true] at e1
      have hn1:hintN .decreasing=2:=rfl
      have g1:(b:Int)-1=((b-1:Nat):Int):=by omega
      have g2:(pv:Int)-(a:Int)=((pv-a:Nat):Int):=by omega
      have g3:((b-1:Nat):Int)-((pv-a:Nat):Int)=((b-1-(pv-a):Nat):Int):=by omega
      simp (disch:=try exact dZ) only [↓RBp,↓RA,↓reduceIte,Nat.reduceAdd,Nat.reduceMul,Nat.reduceEqDiff,RB,RX,RA2,hn1]
      rw [←hz1]
      refine k_reverse sw2.ar oM a b oM oM _ (fun w3 h3 hz3=> ?_)
      try rw [hz1]
      simp (disch:=try exact dZ) only [↓RBp,↓RA,↓reduceIte,Nat.reduceAdd,Nat.reduceMul,Nat.reduceEqDiff,RB,RX,RA2,g1,g2,g3]
      have tt:=t2 lim (b-1-(pv-a)) .increasing (Go.Sort.reverseRange D1 a b) w3 hl oM oM (hz3.trans hz1) (sw2.trans h3) e1
      rw [show hintN .increasing=1 from rfl] at tt
      apply tt
     ·simp only [hdec,if_false] at e1
      have hn1:¬hintN hh=2:=by cases hh<;>simp_all [hintN]
      simp (disch:=try exact dZ) only [↓RBp,↓RA,↓reduceIte,Nat.reduceAdd,Nat.reduceMul,Nat.reduceEqDiff,RB,RX,RA2,dec_false hn1]
      apply t2 lim pv hh D1 _ hl hcp.1 hcp.2 hz1 sw2 e1
    have gl:(lim0':Int)-1=((lim0'-1:Nat):Int):=by omega
    unfold f187_l1_t
    (repeat' (first|(with_reducible first|refine brS_mk (fun _=> ?_) (fun _=> ?_)|refine And.intro ?_ ?_)|(simp (disch:=try exact dZ) only [↓RBp,↓RA,↓reduceIte,Nat.reduceAdd,Nat.reduceMul,Nat.reduceEqDiff,RB,RX,RA2,g0])))
    ·rename_i hw
     have i1:(if (!wb)=true then Go.Sort.breakPatterns D a b else D)=D:=if_neg (by simp [hw])
     have i2:(if (!wb)=true then lim0'-1 else lim0')=lim0':=if_neg (by simp [hw])
     rw [i1,i2] at eT
     apply t1 lim0' D _ (Nat.le_refl _) hz sw eT
    ·rename_i hw
     have hw':wb=false:=by simpa using hw
     have i1:(if (!wb)=true then Go.Sort.breakPatterns D a b else D)=Go.Sort.breakPatterns D a b:=if_pos (by simp [hw'])
     have i2:(if (!wb)=true then lim0'-1 else lim0')=lim0'-1:=if_pos (by simp [hw'])
     rw [i1,i2] at eT
     rw [←hz]
     refine k_break sw.ar oM a b oM oM _ (fun w2 h2 hz2=> ?_)
     try rw [hz]
     simp (disch:=try exact dZ) only [↓RBp,↓RA,↓reduceIte,Nat.reduceAdd,Nat.reduceMul,Nat.reduceEqDiff,RB,RX,RA2,gl,g0]
     apply t1 (lim0'-1) _ _ oM (hz2.trans hz) (sw.trans h2) eT
end
def f28_t (x0:Value) (K:K1) (w:World):Prop:=
 bM .eql 31 (.tmp 3) (.const (.pointer none)) x0 (.pointer none) w fun a w=>
 gV a false x0 w fun b w=>
 gd a false (fun k=>nS b w k) w fun c w=>
 gd a false (fun k=>fA 147 c 0 w k) w fun d w=>
 gd a false (fun k=>lD 30 d w k) w fun e w=>
 gd a false (fun k=>bM .eql 30 (.tmp 9) (.const (.pointer none)) e (.pointer none) w k) w fun f w=>
 pickS a (.bool true) f w fun g w=>
 cndS g (
 K (.int .i64 1) w) (
 nS x0 w fun h w=>
 fA 147 h 2 w fun i w=>
 lD 28 i w fun j w=>
 K j w)
theorem f28_call (x0:Value) (K:K1) (w:World) (h:f28_t x0 K w):callS prog 28 #[x0] w K:=
 call_of_txt (args:= [x0]) mixed Tryz.func28 .o kR (cast kR h)
def f30_t (x0 x1 x2:Value) (K:K1) (w:World):Prop:=
 bM .eql 31 (.tmp 6) (.const (.pointer none)) x0 (.pointer none) w fun a w=>
 gV a false x0 w fun b w=>
 gd a false (fun k=>nS b w k) w fun c w=>
 gd a false (fun k=>fA 147 c 0 w k) w fun d w=>
 gd a false (fun k=>lD 30 d w k) w fun e w=>
 gd a false (fun k=>bM .eql 30 (.tmp 12) (.const (.pointer none)) e (.pointer none) w k) w fun f w=>
 pickS a (.bool true) f w fun g w=>
 gV g false x0 w fun h w=>
 gV g false x0 w fun i w=>
 gV g false x1 w fun j w=>
 gC g false 87 (pA #[i,j]) w fun l w=>
 gC g false 86 (pA #[h,l]) w fun m w=>
 gd g false (fun k=>ev prog (Op.unary .not m) w k) w fun n w=>
 pickS g (.bool true) n w fun o w=>
 cndS o (
 K (.tuple #[]) w) (
 cL 88 (pA #[x0,x1,x2]) w fun p w=>
 K (.tuple #[]) w)
theorem f30_call (x0 x1 x2:Value) (K:K1) (w:World) (h:f30_t x0 x1 x2 K w):callS prog 30 #[x0,x1,x2] w K:=
 call_of_txt (args:= [x0,x1,x2]) mixed Tryz.func30 .o kR (cast kR h)
def f32_t (x0 x1:Value) (K:K1) (w:World):Prop:=
 bM .eql 31 (.tmp 5) (.const (.pointer none)) x0 (.pointer none) w fun a w=>
 gV a false x0 w fun b w=>
 gd a false (fun k=>nS b w k) w fun c w=>
 gd a false (fun k=>fA 147 c 0 w k) w fun d w=>
 gd a false (fun k=>lD 30 d w k) w fun e w=>
 gd a false (fun k=>bM .eql 30 (.tmp 11) (.const (.pointer none)) e (.pointer none) w k) w fun f w=>
 pickS a (.bool true) f w fun g w=>
 gV g false x0 w fun h w=>
 gV g false x0 w fun i w=>
 gV g false x1 w fun j w=>
 gC g false 87 (pA #[i,j]) w fun l w=>
 gC g false 89 (pA #[h,l]) w fun m w=>
 gd g false (fun k=>ev prog (Op.unary .not m) w k) w fun n w=>
 pickS g (.bool true) n w fun o w=>
 cndS o (
 K (.int .u64 ((0:Nat):Int)) w) (
 nS x0 w fun p w=>
 fA 147 p 0 w fun q w=>
 lD 30 q w fun s w=>
 nS s w fun t w=>
 fA 155 t 1 w fun v w=>
 lD 58 v w fun y w=>
 bU .quo 26 29 .u64 8 x1 w fun z w=>
 iA 58 y z w fun a0 w=>
 lD 26 a0 w fun a1 w=>
 K a1 w)
theorem f32_call (x0 x1:Value) (K:K1) (w:World) (h:f32_t x0 x1 K w):callS prog 32 #[x0,x1] w K:=
 call_of_txt (args:= [x0,x1]) mixed Tryz.func32 .o kR (cast kR h)
def f50_t (x0 x1:Value) (K:K1) (w:World):Prop:=
 bM .eql 30 (.tmp 5) (.const (.pointer none)) x0 (.pointer none) w fun a w=>
 gV a false x1 w fun b w=>
 gd a false (fun k=>bC .lss 3 8 0 b w k) w fun c w=>
 pickS a (.bool true) c w fun d w=>
 gV d false x1 w fun e w=>
 gd d false (fun k=>bC .geq 3 12 8 e w k) w fun f w=>
 pickS d (.bool true) f w fun g w=>
 cndS g (
 K (.pointer none) w) (
 nS x0 w fun h w=>
 fA 155 h 3 w fun i w=>
 iA 153 i x1 w fun j w=>
 lD 31 j w fun l w=>
 K l w)
theorem f50_call (x0 x1:Value) (K:K1) (w:World) (h:f50_t x0 x1 K w):callS prog 50 #[x0,x1] w K:=
 call_of_txt (args:= [x0,x1]) mixed Tryz.func50 .o kR (cast kR h)
def f52_t (x0:Value) (K:K1) (w:World):Prop:=
 cL 106 (pA #[x0]) w fun a w=>
 cV 3 26 a w fun b w=>
 bU .mul 26 5 .u64 64 b w fun c w=>
 K c w
theorem f52_call (x0:Value) (K:K1) (w:World) (h:f52_t x0 K w):callS prog 52 #[x0] w K:=
 call_of_txt (args:= [x0]) mixed Tryz.func52 .o kR (cast kR h)
def f61_t (x0:Value) (K:K1) (w:World):Prop:=
 bC .lss 3 4 1 x0 w fun a w=>
 gV a false x0 w fun b w=>
 gd a false (fun k=>bC .gtr 3 7 4096 b w k) w fun c w=>
 pickS a (.bool true) c w fun d w=>
 cndS d (
 K (.tuple #[(.pointer none),(.int .i64 1)]) w) (
 bC .mul 3 10 8 x0 w fun e w=>
 ev prog (Instr.makeSlice 58 e e) w fun f w=>
 cL 111 (pA #[f]) w fun g w=>
 K (.tuple #[g,(.int .i64 0)]) w)
theorem f61_call (x0:Value) (K:K1) (w:World) (h:f61_t x0 K w):callS prog 61 #[x0] w K:=
 call_of_txt (args:= [x0]) mixed Tryz.func61 .o kR (cast kR h)
noncomputable def f86_u:Code×Dec:=((Tryz.f86.body).getD .skip,(.s .o (.s .o (.s .o (.x 32 .o .o)))))
abbrev f86_e (K:K1):KF:=endK prog Tryz.f86.results.toList K
def f86_k1_o (K:K1):KF:=fun fr w=>∀σ,cP (pr (pr (pr (pr f86_u)))) (f86_e K) (f86_e K) nX (mixF 32 σ 0 fr) w
def f86_k1 (K:K1) (x5:Value) (w:World):Prop:=f86_k1_o K (fz 42 0 [(5,x5)]) w
def f86_k1_t (x5:Value) (K:K1) (w:World):Prop:=
 nS x5 w fun a w=>
 fA 155 a 7 w fun b w=>
 lD 26 b w fun c w=>
 bU .add 26 38 .u64 1 c w fun d w=>
 nS x5 w fun e w=>
 fA 155 e 7 w fun f w=>
 sD 26 f d w fun w=>
 K (.bool true) w
theorem f86_k1_eq (K:K1) (x5:Value) (w:World):f86_k1 K x5 w=f86_k1_t x5 K w:=cutE fun σ=>by kernel_rfl
def f86_t (x0 x1:Value) (K:K1) (w:World):Prop:=
 cL 89 (pA #[x0,x1]) w fun a w=>
 ev prog (Op.unary .not a) w fun b w=>
 cndS b (
 K (.bool false) w) (
 nS x0 w fun c w=>
 fA 147 c 0 w fun d w=>
 lD 30 d w fun e w=>
 nS e w fun f w=>
 fA 155 f 5 w fun g w=>
 lD 4 g w fun h w=>
 cndS h (
 nS e w fun i w=>
 fA 155 i 6 w fun j w=>
 lD 3 j w fun l w=>
 bC .eql 3 21 0 l w fun m w=>
 cndS m (
 nS e w fun n w=>
 fA 155 n 4 w fun o w=>
 sD 4 o (.bool true) w fun w=>
 cL 139 (pA #[x0,(.int .i64 3)]) w fun p w=>
 K (.bool false) w) (
 nS e w fun q w=>
 fA 155 q 6 w fun s w=>
 lD 3 s w fun t w=>
 bC .sub 3 31 1 t w fun v w=>
 nS e w fun y w=>
 fA 155 y 6 w fun z w=>
 sD 3 z v w fun w=>
 f86_k1 K e w)) (
 f86_k1 K e w))
theorem f86_call (x0 x1:Value) (K:K1) (w:World) (h:f86_t x0 x1 K w):callS prog 86 #[x0,x1] w K:=
 call_of_txt (args:= [x0,x1]) mixed Tryz.func86 f86_u.2 kR (cast kR h)
def f87_t (x0 x1:Value) (K:K1) (w:World):Prop:=
 bU .rem 26 5 .u64 8 x1 w fun a w=>
 bU .eql 26 6 .u64 0 a w fun b w=>
 gV b true x1 w fun c w=>
 gV b true x0 w fun d w=>
 gd b true (fun k=>nS d w k) w fun e w=>
 gd b true (fun k=>fA 147 e 0 w k) w fun f w=>
 gd b true (fun k=>lD 30 f w k) w fun g w=>
 gC b true 52 (pA #[g]) w fun h w=>
 gd b true (fun k=>bT .lss 26 9 14 c h w k) w fun i w=>
 pickS b i (.bool false) w fun j w=>
 K j w
theorem f87_call (x0 x1:Value) (K:K1) (w:World) (h:f87_t x0 x1 K w):callS prog 87 #[x0,x1] w K:=
 call_of_txt (args:= [x0,x1]) mixed Tryz.func87 .o kR (cast kR h)
def f88_t (x0 x1 x2:Value) (K:K1) (w:World):Prop:=
 nS x0 w fun a w=>
 fA 147 a 0 w fun b w=>
 lD 30 b w fun c w=>
 nS c w fun d w=>
 fA 155 d 2 w fun e w=>
 lD 152 e w fun f w=>
 bU .quo 26 14 .u64 64 x1 w fun g w=>
 iA 152 f g w fun h w=>
 nS h w fun i w=>
 fA 209 i 1 w fun j w=>
 lD 79 j w fun l w=>
 ev prog (Instr.build 98 #[(0,x1),(1,x2)]) w fun m w=>
 ev prog (Instr.buildSlice 79 1 #[(0,m)]) w fun n w=>
 bltS prog .append #[79,79] 79 #[false,false] (pA #[l,n]) w fun o w=>
 nS h w fun p w=>
 fA 209 p 1 w fun q w=>
 sD 79 q o w fun w=>
 nS x0 w fun s w=>
 fA 147 s 0 w fun t w=>
 lD 30 t w fun v w=>
 nS v w fun y w=>
 fA 155 y 1 w fun z w=>
 lD 58 z w fun a0 w=>
 bU .quo 26 36 .u64 8 x1 w fun a1 w=>
 iA 58 a0 a1 w fun a2 w=>
 sD 26 a2 x2 w fun w=>
 K (.tuple #[]) w
theorem f88_call (x0 x1 x2:Value) (K:K1) (w:World) (h:f88_t x0 x1 x2 K w):callS prog 88 #[x0,x1,x2] w K:=
 call_of_txt (args:= [x0,x1,x2]) mixed Tryz.func88 .o kR (cast kR h)
noncomputable def f89_u:Code×Dec:=((Tryz.f89.body).getD .skip,(.s .o (.x 0 .o .o)))
abbrev f89_e (K:K1):KF:=endK prog Tryz.f89.results.toList K
def f89_k1_o (K:K1):KF:=fun fr w=>∀σ,cP (pr (pr f89_u)) (f89_e K) (f89_e K) nX (mixF 0 σ 0 fr) w
def f89_k1 (K:K1) (w:World):Prop:=f89_k1_o K (fz 20 0 []) w
def f89_k1_t (K:K1) (w:World):Prop:=
 K (.bool false) w
theorem f89_k1_eq (K:K1) (w:World):f89_k1 K w=f89_k1_t K w:=cutE fun σ=>by kernel_rfl
def f89_t (x0 x1:Value) (K:K1) (w:World):Prop:=
 nS x0 w fun a w=>
 fA 147 a 0 w fun b w=>
 lD 30 b w fun c w=>
 nS c w fun d w=>
 fA 155 d 4 w fun e w=>
 lD 4 e w fun f w=>
 cndS f (
 cL 139 (pA #[x0,(.int .i64 3)]) w fun g w=>
 f89_k1 K w) (
 ev prog (Op.unary .not x1) w fun h w=>
 cndS h (
 cL 139 (pA #[x0,(.int .i64 2)]) w fun i w=>
 f89_k1 K w) (
 K (.bool true) w))
theorem f89_call (x0 x1:Value) (K:K1) (w:World) (h:f89_t x0 x1 K w):callS prog 89 #[x0,x1] w K:=
 call_of_txt (args:= [x0,x1]) mixed Tryz.func89 f89_u.2 kR (cast kR h)
def f101_t (x0 x1:Value) (K:K1) (w:World):Prop:=
 bM .eql 31 (.tmp 6) (.const (.pointer none)) x0 (.pointer none) w fun a w=>
 gV a false x0 w fun b w=>
 gd a false (fun k=>nS b w k) w fun c w=>
 gd a false (fun k=>fA 147 c 0 w k) w fun d w=>
 gd a false (fun k=>lD 30 d w k) w fun e w=>
 gd a false (fun k=>bM .eql 30 (.tmp 12) (.const (.pointer none)) e (.pointer none) w k) w fun f w=>
 pickS a (.bool true) f w fun g w=>
 gV g false x0 w fun h w=>
 gV g false x1 w fun i w=>
 gV g false x0 w fun j w=>
 gd g false (fun k=>nS j w k) w fun l w=>
 gd g false (fun k=>fA 147 l 0 w k) w fun m w=>
 gd g false (fun k=>lD 30 m w k) w fun n w=>
 gC g false 52 (pA #[n]) w fun o w=>
 gd g false (fun k=>bT .lss 26 17 22 i o w k) w fun p w=>
 gC g false 86 (pA #[h,p]) w fun q w=>
 gd g false (fun k=>ev prog (Op.unary .not q) w k) w fun s w=>
 pickS g (.bool true) s w fun t w=>
 cndS t (
 K (.tuple #[]) w) (
 bU .quo 26 27 .u64 64 x1 w fun v w=>
 cV 26 3 v w fun y w=>
 nS x0 w fun z w=>
 fA 147 z 0 w fun a0 w=>
 lD 30 a0 w fun a1 w=>
 nS a1 w fun a2 w=>
 fA 155 a2 2 w fun a3 w=>
 lD 152 a3 w fun a4 w=>
 iA 152 a4 y w fun a5 w=>
 nR x0 w.drew fun a6=>
 fR 147 a6 3 w.drew fun a7=>
 lR 145 a7 w.drew fun a8=>
 nR a5 w.drew fun a9=>
 fR 209 a9 0 w.drew fun b0=>
 lR 26 b0 w.drew fun b1=>
 nR a5 w.drew fun b2=>
 fR 209 b2 1 w.drew fun b3=>
 lR 79 b3 w.drew fun b4=>
 rd prog (Builtin.len_ #[79] 3 #[b4]) w.drew fun b5=>
 rd prog (convert 3 26 b5) w.drew fun b6=>
 rT .add 26 47 53 b1 b6 w.drew fun b7=>
 ac prog (Instr.mapUpdate 145 a8 y b7) w.drew fun w=>
 K (.tuple #[]) w)
theorem f101_call (x0 x1:Value) (K:K1) (w:World) (h:f101_t x0 x1 K w):callS prog 101 #[x0,x1] w K:=
 call_of_txt (args:= [x0,x1]) mixed Tryz.func101 .o kR (cast kR h)
noncomputable def f102_u:Code×Dec:=((Tryz.f102.body).getD .skip,(.s .o (.x 1 (.s .o (.b (.l [] 8388609 9007199237963804 .o))) .o)))
abbrev f102_e (K:K1):KF:=endK prog Tryz.f102.results.toList K
def f102_k1_o (K:K1):KF:=fun fr w=>∀σ,cP (pr (pr f102_u)) (f102_e K) (f102_e K) nX (mixF 1 σ 0 fr) w
def f102_k1 (K:K1) (x0:Value) (w:World):Prop:=f102_k1_o K (fz 57 0 [(0,x0)]) w
def f102_l1 (K:K1) (x0 x23:Value) (w:World):Prop:=loopT [] 8388609 (fun E=>cP (pl (pl (pr (pl (pr f102_u))))) E (f102_e K) (exB 0 (f102_k1_o K) nX)) (fz 57 0 [(0,x0),(23,x23)]) w
def f102_k1_t (x0:Value) (K:K1) (w:World):Prop:=
 nS x0 w fun a w=>
 fA 147 a 3 w fun b w=>
 lD 145 b w fun c w=>
 bltS prog .clear #[145] 0 #[false] (pA #[c]) w fun _ w=>
 K (.tuple #[]) w
theorem f102_k1_eq (K:K1) (x0:Value) (w:World):f102_k1 K x0 w=f102_k1_t x0 K w:=cutE fun σ=>by kernel_rfl
def f102_l1_t (x0 x23:Value) (K:K1) (E1:VP0) (w:World):Prop:=
 ev prog (Instr.next x23 false 0) w fun a w=>
 eX a 0 w fun b w=>
 cndS b (
 ev prog (Instr.entry x23) w fun c w=>
 eX c 0 w fun d w=>
 eX c 1 w fun e w=>
 nS x0 w fun f w=>
 fA 147 f 0 w fun g w=>
 lD 30 g w fun h w=>
 nS h w fun i w=>
 fA 155 i 2 w fun j w=>
 lD 152 j w fun l w=>
 iA 152 l d w fun m w=>
 fA 209 m 0 w fun n w=>
 lD 26 n w fun o w=>
 bT .gtr 26 40 41 e o w fun p w=>
 cndS p (
 nS x0 w fun q w=>
 fA 147 q 0 w fun s w=>
 lD 30 s w fun t w=>
 bT .sub 26 48 49 e o w fun v w=>
 cV 26 3 v w fun y w=>
 cL 147 (pA #[t,d,y]) w fun z w=>
 E1 w) (
 E1 w)) (
 f102_k1 K x0 w)
theorem f102_l1_rule (x0 x23:Value) (K:K1) (w:World) (I:VP0) (μ:World→Nat) (h0:I w)
  (hr:∀(w:World),I w→∀E1:VP0,(∀(w':World),I w'→μ w'<μ w→E1 w')→f102_l1_t x0 x23 K E1 w):f102_l1 K x0 x23 w:=
 ⟨I,μ,h0,fun σ w hI E hE=>cast kR (hr w hI E hE)⟩
def f102_t (x0:Value) (K:K1) (w:World):Prop:=
 bM .eql 31 (.tmp 5) (.const (.pointer none)) x0 (.pointer none) w fun a w=>
 gV a false x0 w fun b w=>
 gd a false (fun k=>nS b w k) w fun c w=>
 gd a false (fun k=>fA 147 c 0 w k) w fun d w=>
 gd a false (fun k=>lD 30 d w k) w fun e w=>
 gd a false (fun k=>bM .eql 30 (.tmp 11) (.const (.pointer none)) e (.pointer none) w k) w fun f w=>
 pickS a (.bool true) f w fun g w=>
 gV g false x0 w fun h w=>
 gC g false 86 (pA #[h,(.bool true)]) w fun i w=>
 gd g false (fun k=>ev prog (Op.unary .not i) w k) w fun j w=>
 pickS g (.bool true) j w fun l w=>
 cndS l (
 K (.tuple #[]) w) (
 nS x0 w fun m w=>
 fA 147 m 3 w fun n w=>
 lD 145 n w fun o w=>
 ev prog (Instr.range 145 o) w fun p w=>
 f102_l1 K x0 p w)
theorem f102_call (x0:Value) (K:K1) (w:World) (h:f102_t x0 K w):callS prog 102 #[x0] w K:=
 call_of_txt (args:= [x0]) mixed Tryz.func102 f102_u.2 kR (cast kR h)
def f105_t (x0:Value) (K:K1) (w:World):Prop:=
 bM .eql 31 (.tmp 3) (.const (.pointer none)) x0 (.pointer none) w fun a w=>
 cndS a (
 K (.int .u64 ((0:Nat):Int)) w) (
 nS x0 w fun b w=>
 fA 147 b 0 w fun c w=>
 lD 30 c w fun d w=>
 cL 52 (pA #[d]) w fun e w=>
 K e w)
theorem f105_call (x0:Value) (K:K1) (w:World) (h:f105_t x0 K w):callS prog 105 #[x0] w K:=
 call_of_txt (args:= [x0]) mixed Tryz.func105 .o kR (cast kR h)
def f106_t (x0:Value) (K:K1) (w:World):Prop:=
 bM .eql 30 (.tmp 3) (.const (.pointer none)) x0 (.pointer none) w fun a w=>
 cndS a (
 K (.int .i64 0) w) (
 nS x0 w fun b w=>
 fA 155 b 2 w fun c w=>
 lD 152 c w fun d w=>
 lN 152 d w fun e w=>
 K e w)
theorem f106_call (x0:Value) (K:K1) (w:World) (h:f106_t x0 K w):callS prog 106 #[x0] w K:=
 call_of_txt (args:= [x0]) mixed Tryz.func106 .o kR (cast kR h)
noncomputable def f111_u:Code×Dec:=((Tryz.f111.body).getD .skip,(.s .o (.x 8 .o (.x 8 (.s .o (.b (.l [14] 8 268419088 .o))) .o))))
abbrev f111_e (K:K1):KF:=endK prog Tryz.f111.results.toList K
def f111_k1_o (K:K1):KF:=fun fr w=>∀σ,cP (pr (pr f111_u)) (f111_e K) (f111_e K) nX (mixF 8 σ 0 fr) w
def f111_k1 (K:K1) (x3:Value) (w:World):Prop:=f111_k1_o K (fz 29 0 [(3,x3)]) w
def f111_k2_o (K:K1):KF:=fun fr w=>∀σ,cP (pr (pr (pr f111_u))) (f111_e K) (f111_e K) nX (mixF 8 σ 0 fr) w
def f111_k2 (K:K1) (x3:Value) (w:World):Prop:=f111_k2_o K (fz 29 0 [(3,x3)]) w
def f111_l1 (K:K1) (x3 x14:Value) (w:World):Prop:=loopT [14] 8 (fun E=>cP (pl (pl (pr (pl (pr (pr f111_u)))))) E (f111_e K) (exB 0 (f111_k2_o K) nX)) (fz 29 0 [(3,x3),(14,x14)]) w
def f111_k1_t (x3:Value) (K:K1) (w:World):Prop:=
 f111_l1 K x3 (.int .i64 0) w
theorem f111_k1_eq (K:K1) (x3:Value) (w:World):f111_k1 K x3 w=f111_k1_t x3 K w:=cutE fun σ=>by kernel_rfl
def f111_k2_t (x3:Value) (K:K1) (w:World):Prop:=
 K x3 w
theorem f111_k2_eq (K:K1) (x3:Value) (w:World):f111_k2 K x3 w=f111_k2_t x3 K w:=cutE fun σ=>by kernel_rfl
def f111_l1_t (x3 x14:Value) (K:K1) (E1:VP1) (w:World):Prop:=
 bC .lss 3 14 8 x14 w fun a w=>
 cndS a (
 ev prog (Instr.makeMap 145 none) w fun b w=>
 ev prog (Instr.build 147 #[(0,x3),(1,x14),(3,b)]) w fun c w=>
 ev prog (Instr.box 147 c) w fun d w=>
 nS x3 w fun e w=>
 fA 155 e 3 w fun f w=>
 iA 153 f x14 w fun g w=>
 sD 31 g d w fun w=>
 bC .add 3 14 1 x14 w fun h w=>
 E1 h w) (
 f111_k2 K x3 w)
theorem f111_l1_rule (x3 x14:Value) (K:K1) (w:World) (I:VP1) (μ:Value→World→Nat) (h0:I x14 w)
  (hr:∀(x14:Value) (w:World),I x14 w→∀E1:VP1,(∀(y14:Value) (w':World),I y14 w'→μ y14 w'<μ x14 w→E1 y14 w')→f111_l1_t x3 x14 K E1 w):f111_l1 K x3 x14 w:=
 ⟨I,μ,h0,fun σ w hI E hE=>cast kR (hr (σ 14) w hI E hE)⟩
def f111_t (x0:Value) (K:K1) (w:World):Prop:=
 rd prog (Builtin.len_ #[58] 3 #[x0]) w.drew fun a=>
 rC .quo 3 9 8 a w.drew fun b=>
 (cL 148 (pA #[x0]) w.drew fun c w=>
 (ag prog (Builtin.len_ #[58] 3 #[x0]) w a)∧
 (ag prog (binM .quo 3 (.tmp 9) (ci 8) a (.int .i64 8)) w b)∧
 ev prog (Instr.makeSlice 152 b b) w fun d w=>
 rd prog (Instr.build 155 #[(0,x0),(1,c),(2,d)]) w fun e=>
 ev prog (Instr.box 155 e) w fun f w=>
 f111_k1 K f w)∧
 (ev prog (Instr.makeSlice 152 b b) w.drew fun g w=>
 cL 148 (pA #[x0]) w fun h w=>
 (ag prog (Builtin.len_ #[58] 3 #[x0]) w a)∧
 (ag prog (binM .quo 3 (.tmp 9) (ci 8) a (.int .i64 8)) w b)∧
 rd prog (Instr.build 155 #[(0,x0),(1,h),(2,g)]) w fun i=>
 ev prog (Instr.box 155 i) w fun j w=>
 f111_k1 K j w)
theorem f111_call (x0:Value) (K:K1) (w:World) (h:f111_t x0 K w):callS prog 111 #[x0] w K:=
 call_of_txt (args:= [x0]) mixed Tryz.func111 f111_u.2 kR (cast kR h)
def f139_t (x0 x1:Value) (K:K1) (w:World):Prop:=
 nS x0 w fun a w=>
 fA 147 a 2 w fun b w=>
 lD 28 b w fun c w=>
 bC .eql 28 7 0 c w fun d w=>
 cndS d (
 nS x0 w fun e w=>
 fA 147 e 2 w fun f w=>
 sD 28 f x1 w fun w=>
 K (.tuple #[]) w) (
 K (.tuple #[]) w)
theorem f139_call (x0 x1:Value) (K:K1) (w:World) (h:f139_t x0 x1 K w):callS prog 139 #[x0,x1] w K:=
 call_of_txt (args:= [x0,x1]) mixed Tryz.func139 .o kR (cast kR h)
def f147_t (x0 x1 x2:Value) (K:K1) (w:World):Prop:=
 nS x0 w fun a w=>
 fA 155 a 2 w fun b w=>
 lD 152 b w fun c w=>
 iA 152 c x1 w fun d w=>
 nR x0 w.drew fun e=>
 fR 155 e 0 w.drew fun f=>
 lR 58 f w.drew fun g=>
 nR d w.drew fun h=>
 fR 209 h 1 w.drew fun i=>
 lR 79 i w.drew fun j=>
 rd prog (Instr.sliceAt 79 j none (some x2) none) w.drew fun l=>
 cL 150 (pA #[g,l]) w.drew fun m w=>
 nS d w fun n w=>
 fA 209 n 0 w fun o w=>
 lD 26 o w fun p w=>
 cV 3 26 x2 w fun q w=>
 bT .add 26 27 29 p q w fun s w=>
 nS d w fun t w=>
 fA 209 t 0 w fun v w=>
 sD 26 v s w fun w=>
 nS d w fun y w=>
 fA 209 y 1 w fun z w=>
 lD 79 z w fun a0 w=>
 ev prog (Instr.sliceAt 79 a0 (some x2) none none) w fun a1 w=>
 nS d w fun a2 w=>
 fA 209 a2 1 w fun a3 w=>
 sD 79 a3 a1 w fun w=>
 nS d w fun a4 w=>
 fA 209 a4 1 w fun a5 w=>
 lD 79 a5 w fun a6 w=>
 lN 79 a6 w fun a7 w=>
 bC .eql 3 46 0 a7 w fun a8 w=>
 cndS a8 (
 nS d w fun a9 w=>
 fA 209 a9 1 w fun b0 w=>
 sD 79 b0 (.slice none 0 0) w fun w=>
 K (.tuple #[]) w) (
 K (.tuple #[]) w)
theorem f147_call (x0 x1 x2:Value) (K:K1) (w:World) (h:f147_t x0 x1 x2 K w):callS prog 147 #[x0,x1,x2] w K:=
 call_of_txt (args:= [x0,x1,x2]) mixed Tryz.func147 .o kR (cast kR h)
def f148_t (x0:Value) (K:K1) (w:World):Prop:=
 bM .eql 58 (.tmp 3) (.const (.slice none 0 0)) x0 (.slice none 0 0) w fun a w=>
 cndS a (
 K (.slice none 0 0) w) (
 ev prog (Instr.buildSlice 58 0 #[]) w fun b w=>
 bltS prog .append #[58,58] 58 #[false,false] (pA #[b,x0]) w fun c w=>
 K c w)
theorem f148_call (x0:Value) (K:K1) (w:World) (h:f148_t x0 K w):callS prog 148 #[x0] w K:=
 call_of_txt (args:= [x0]) mixed Tryz.func148 .o kR (cast kR h)
noncomputable def f150_u:Code×Dec:=((Tryz.f150.body).getD .skip,(.s .o (.b (.l [8] 193 1048352 .o))))
abbrev f150_e (K:K1):KF:=endK prog Tryz.f150.results.toList K
def f150_l1 (K:K1) (x0 x6 x7 x8:Value) (w:World):Prop:=loopT [8] 193 (fun E=>cP (pl (pl (pr f150_u))) E (f150_e K) (exB 0 (f150_e K) nX)) (fz 20 0 [(0,x0),(6,x6),(7,x7),(8,x8)]) w
def f150_l1_t (x0 x6 x7 x8:Value) (K:K1) (E1:VP1) (w:World):Prop:=
 bT .lss 3 8 7 x8 x7 w fun a w=>
 cndS a (
 iA 79 x6 x8 w fun b w=>
 lD 98 b w fun c w=>
 ev prog (Instr.alloc 98 true (.tuple #[])) w fun d w=>
 sD 98 d c w fun w=>
 fA 98 d 0 w fun e w=>
 lD 26 e w fun f w=>
 bU .quo 26 14 .u64 8 f w fun g w=>
 fA 98 d 1 w fun h w=>
 lD 26 h w fun i w=>
 iA 58 x0 g w fun j w=>
 sD 26 j i w fun w=>
 bC .add 3 8 1 x8 w fun l w=>
 E1 l w) (
 K (.tuple #[]) w)
theorem f150_l1_rule (x0 x6 x7 x8:Value) (K:K1) (w:World) (I:VP1) (μ:Value→World→Nat) (h0:I x8 w)
  (hr:∀(x8:Value) (w:World),I x8 w→∀E1:VP1,(∀(y8:Value) (w':World),I y8 w'→μ y8 w'<μ x8 w→E1 y8 w')→f150_l1_t x0 x6 x7 x8 K E1 w):f150_l1 K x0 x6 x7 x8 w:=
 ⟨I,μ,h0,fun σ w hI E hE=>cast kR (hr (σ 8) w hI E hE)⟩
def f150_t (x0 x1:Value) (K:K1) (w:World):Prop:=
 lN 79 x1 w fun a w=>
 f150_l1 K x0 x1 a (.int .i64 0) w
theorem f150_call (x0 x1:Value) (K:K1) (w:World) (h:f150_t x0 x1 K w):callS prog 150 #[x0,x1] w K:=
 call_of_txt (args:= [x0,x1]) mixed Tryz.func150 f150_u.2 kR (cast kR h)
structure DS where
 n:Nat
 cur:Nat→Nat
 pers:Nat→Nat
 done:Nat→Nat
 hist:Nat→List (Nat×Nat)
 off:Bool
 armed:Bool
 left:Int
 exe:Nat
 err:Nat→Int
 notes:Nat→Int→Option Nat
structure Lay where
 n:Nat
 d:Nat
 pb:Nat
 cb:Nat
 pc:Nat
 cc:Nat
 lb:Nat
 tb:Nat→Nat
 nb:Nat→Nat
 dt:Nat→Nat
 ids:Nat→Nat
 hv:Nat→Value
inductive Role
 |dev|pe|cu|li
 |th (i:Nat)|nt (i:Nat)|hs (l:Nat)
def Lay.blk (Y:Lay):Role→Option Nat
 | .dev=>some Y.d
 | .pe=>some Y.pb
 | .cu=>some Y.cb
 | .li=>some Y.lb
 | .th i=>if i<8 then some (Y.tb i) else none
 | .nt i=>if i<8 then some (Y.nb i) else none
 | .hs l=>if l<Y.n then (Y.hv l).ownBlock else none
def Lay.F (Y:Lay) (b:Nat):Prop:=∃r,Y.blk r=some b
abbrev bp (b:Nat):Value:= .pointer (some ⟨b,0,none⟩)
abbrev u64 (n:Nat):Value:= .int .u64 (n:Int)
abbrev sl (b n c:Nat):Value:= .slice (some ⟨b,0,none⟩) n c
def devF (Y:Lay) (D:DS) (i:Nat):Value:=
 if i=0 then sl Y.pb (8*D.n) Y.pc else if i=1 then sl Y.cb (8*D.n) Y.cc else if i=2 then sl Y.lb D.n D.n else
 if i<11 then bp (Y.dt (i-3)) else if i=11 then .bool D.off else if i=12 then .bool D.armed else if i=13 then .int .i64 D.left else u64 D.exe
def linF (Y:Lay) (D:DS) (i:Nat):Value:=if i%2=0 then u64 (D.done (i/2)) else Y.hv (i/2)
def thF (Y:Lay) (D:DS) (id i:Nat):Value:=if i=0 then bp Y.d else if i=1 then .int .i64 (Y.ids id:Int) else if i=2 then .int .i64 (D.err id) else .map (some (Y.nb id))
def wrL:List (Nat×Nat)→List Value
 | []=> []
 |(o,v)::l=>u64 o::u64 v::wrL l
def ntF (D:DS) (id:Nat) (i:Int):Option Value:=(D.notes id i).map u64
structure Good (D:DS):Prop where
 n0:0<D.n
 n:D.n≤4096
 cur:∀i,i<8*D.n→D.cur i<18446744073709551616
 pers:∀i,i<8*D.n→D.pers i<18446744073709551616
 hist:∀l,l<D.n→∀o v,(o,v)∈D.hist l→o%8=0∧o/64=l∧v<18446744073709551616
 cnt:∀l,l<D.n→D.done l+(D.hist l).length≤D.exe
 left:0≤D.left∧D.left<9223372036854775808
 notes:∀id,id<8→∀k p,D.notes id k=some p→0≤k∧k<D.n∧p≤D.done k.toNat+(D.hist k.toNat).length
structure Dv (w:World) (Y:Lay) (D:DS):Prop where
 yn:Y.n=D.n
 dev:Cells w Y.d 155 15 (devF Y D)
 pe:Cells w Y.pb 26 (8*D.n) (fun i=>u64 (D.pers i))
 cu:Cells w Y.cb 26 (8*D.n) (fun i=>u64 (D.cur i))
 li:Cells w Y.lb 209 (2*D.n) (linF Y D)
 hs:∀l,l<D.n→SlO w 98 2 (Y.hv l) (D.hist l).length (wrL (D.hist l))
 th:∀i,i<8→Cells w (Y.tb i) 147 4 (thF Y D i)
 nt:∀i,i<8→∃es c,MapI w (Y.nb i) es c (ntF D i)
 inj:∀r r' b,Y.blk r=some b→Y.blk r'=some b→r=r'
theorem Dv.lt {w:World} {Y:Lay} {D:DS} (h:Dv w Y D) {b:Nat} (hb:Y.F b):b<w.heap.size:=by
 obtain ⟨r,hr⟩:=hb
 cases r with
 |dev=>injection hr with hr;subst hr;exact h.dev.lt
 |pe=>injection hr with hr;subst hr;exact h.pe.lt
 |cu=>injection hr with hr;subst hr;exact h.cu.lt
 |li=>injection hr with hr;subst hr;exact h.li.lt
 |th i=>simp only [Lay.blk] at hr;split at hr<;>cases hr;exact (h.th i (by assumption)).lt
 |nt i=>
  simp only [Lay.blk] at hr;split at hr<;>cases hr
  obtain ⟨es,c,hm⟩:=h.nt i (by assumption)
  exact hm.lt
 |hs l=>
  simp only [Lay.blk] at hr;split at hr
  ·exact (h.hs l (by have:=h.yn;omega)).lt hr
  ·cases hr
theorem Dv.of_heap {w w':World} {Y:Lay} {D:DS} (h:Dv w Y D) (e:∀b,Y.F b→w'.heap[b]? =w.heap[b]?):Dv w' Y D where
 yn:=h.yn
 dev:=h.dev.of_heap (e _ ⟨.dev,rfl⟩)
 pe:=h.pe.of_heap (e _ ⟨.pe,rfl⟩)
 cu:=h.cu.of_heap (e _ ⟨.cu,rfl⟩)
 li:=h.li.of_heap (e _ ⟨.li,rfl⟩)
 hs l hl:=(h.hs l hl).of_heap (fun b hb=>e b ⟨.hs l,by have:=h.yn;simp only [Lay.blk];rw [if_pos oM];exact hb⟩)
 th i hi:=(h.th i hi).of_heap (e _ ⟨.th i,by simp [Lay.blk,hi]⟩)
 nt i hi:=by obtain ⟨es,c,hm⟩:=h.nt i hi;exact ⟨es,c,hm.of_heap (e _ ⟨.nt i,by simp [Lay.blk,hi]⟩)⟩
 inj:=h.inj
theorem Dv.ext {w w':World} {Y:Lay} {D:DS} (h:Dv w Y D) (e:Ext w w'):Dv w' Y D:=h.of_heap (fun b hb=>e.blk b (h.lt hb))
theorem Dv.frm {w w':World} {Y:Lay} {D:DS} {G:Nat→Prop} (h:Dv w Y D) (e:Frm G w w') (hG:∀b,Y.F b→¬G b):Dv w' Y D:=h.of_heap (fun b hb=>e.block b (h.lt hb) (hG b hb))
structure Stp (w:World) (Y:Lay) (w':World) (Y':Lay) (D':DS):Prop where
 dv:Dv w' Y' D'
 y:Y'={Y with hv:=Y'.hv}
 frm:Frm Y.F w w'
 fr:∀b,Y'.F b→Y.F b∨w.heap.size≤b
theorem Stp.refl {w:World} {Y:Lay} {D:DS} (h:Dv w Y D):Stp w Y w Y D:=⟨h,rfl,Frm.refl _ _,fun b hb=> .inl hb⟩
theorem Stp.ext {w w':World} {Y:Lay} {D:DS} (h:Dv w Y D) (e:Ext w w'):Stp w Y w' Y D:=⟨h.ext e,rfl,Frm.of_ext e,fun b hb=> .inl hb⟩
theorem Stp.trans {w w' w'':World} {Y Y' Y'':Lay} {D' D'':DS} (h:Stp w Y w' Y' D') (k:Stp w' Y' w'' Y'' D''):Stp w Y w'' Y'' D'' where
 dv:=k.dv
 y:=by rw [k.y,h.y]
 frm:=h.frm.trans k.frm (fun x hx hf=>by
  rcases h.fr x hf with h1|h1
  ·exact h1
  ·omega)
 fr b hb:=by
  rcases k.fr b hb with h1|h1
  ·exact h.fr b h1
  ·exact .inr (Nat.le_trans h.frm.size h1)
theorem Stp.grow {w w' w'':World} {Y Y':Lay} {D':DS} (h:Stp w Y w' Y' D') (e:Ext w' w''):Stp w Y w'' Y' D':=h.trans (Stp.ext h.dv e)
theorem Stp.pre {w0 w w':World} {Y Y':Lay} {D':DS} (e:Ext w0 w) (hl:∀b,Y.F b→b<w0.heap.size) (h:Stp w Y w' Y' D'):Stp w0 Y w' Y' D' where
 dv:=h.dv
 y:=h.y
 frm:=(Frm.of_ext e:Frm Y.F w0 w).trans h.frm (fun _ _ h=>h)
 fr b hb:=by
  rcases h.fr b hb with h1|h1
  ·exact .inl h1
  ·exact .inr (Nat.le_trans e.size h1)
theorem Stp.to {w w':World} {Y Y':Lay} {D1 D2:DS} (h:Stp w Y w' Y' D1) (e:D1=D2):Stp w Y w' Y' D2:=e▸h
theorem Stp.tb {w w':World} {Y Y':Lay} {D':DS} (h:Stp w Y w' Y' D'):Y'.tb=Y.tb:=by rw [h.y]
theorem Stp.d {w w':World} {Y Y':Lay} {D':DS} (h:Stp w Y w' Y' D'):Y'.d=Y.d:=by rw [h.y]
theorem Frm.one (w:World) (b i:Nat) (v:Value):Frm (fun x=>x=b) w (w.setCell ⟨b,i,none⟩ v):=(Frm.refl _ w).set v (fun _=>rfl)
section
variable {w w':World} {Y:Lay} {D D':DS}
theorem Dv.setDev (h:Dv w Y D) (i:Nat) (v:Value) (hi:i<15) (hv:∀j,j<15→devF Y D' j=if j=i then v else devF Y D j)
  (e:D'.n=D.n∧D'.pers=D.pers∧D'.cur=D.cur∧D'.done=D.done∧D'.hist=D.hist∧D'.err=D.err∧D'.notes=D.notes):Stp w Y (w.setCell ⟨Y.d,i,none⟩ v) Y D':=by
 have hf:=Frm.one w Y.d i v
 have ne:∀r b,Y.blk r=some b→r≠ .dev→b≠Y.d:=fun r b hr hn e=>hn (h.inj r .dev b hr (by rw [e];rfl))
 obtain ⟨e1,e2,e3,e4,e5,e6,e7⟩:=e
 refine ⟨⟨by rw [e1];exact h.yn,(h.dev.set v hi).congr (fun j hj=>(hv j hj).symm),?_,?_,?_,?_,?_,?_,h.inj⟩,rfl,hf.mono (fun b hb=>⟨.dev,by rw [hb];rfl⟩),fun b hb=> .inl hb⟩
 ·rw [e1,e2];exact h.pe.frm hf (ne .pe _ rfl (by simp))
 ·rw [e1,e3];exact h.cu.frm hf (ne .cu _ rfl (by simp))
 ·have:linF Y D'=linF Y D:=by funext j;simp [linF,e4]
  rw [e1,this];exact h.li.frm hf (ne .li _ rfl (by simp))
 ·rw [e1,e5];exact fun l hl=>(h.hs l hl).frm hf (fun b hb=>ne (.hs l) b (by simp only [Lay.blk];rw [if_pos (by have:=h.yn;omega)];exact hb) (by simp))
 ·intro j hj
  have:thF Y D' j=thF Y D j:=by funext q;simp [thF,e6]
  rw [this];exact (h.th j hj).frm hf (ne (.th j) _ (by simp [Lay.blk,hj]) (by simp))
 ·intro j hj
  have:ntF D' j=ntF D j:=by funext q;simp [ntF,e7]
  rw [this]
  obtain ⟨es,c,hm⟩:=h.nt j hj
  exact ⟨es,c,hm.of_heap (hf.block _ hm.lt (ne (.nt j) _ (by simp [Lay.blk,hj]) (by simp)))⟩
theorem Dv.setErr (h:Dv w Y D) (id:Nat) (hid:id<8) (x:Int):Stp w Y (w.setCell ⟨Y.tb id,2,none⟩ (.int .i64 x)) Y {D with err:=fun j=>if j=id then x else D.err j}:=by
 have hf:=Frm.one w (Y.tb id) 2 (.int .i64 x)
 have hb:Y.blk (.th id)=some (Y.tb id):=by simp [Lay.blk,hid]
 have ne:∀r b,Y.blk r=some b→r≠ .th id→b≠Y.tb id:=fun r b hr hn e=>hn (h.inj r (.th id) b hr (by rw [e];exact hb))
 refine ⟨⟨h.yn,h.dev.frm hf (ne .dev _ rfl (by simp)),h.pe.frm hf (ne .pe _ rfl (by simp)),h.cu.frm hf (ne .cu _ rfl (by simp)),h.li.frm hf (ne .li _ rfl (by simp)),?_,?_,?_,h.inj⟩,rfl,hf.mono (fun b hb'=>⟨.th id,by rw [hb'];exact hb⟩),fun b hb=> .inl hb⟩
 ·exact fun l hl=>(h.hs l hl).frm hf (fun b hb=>ne (.hs l) b (by simp only [Lay.blk];rw [if_pos (by have:=h.yn;have:l<D.n:=hl;omega)];exact hb) (by simp))
 ·intro j hj
  by_cases hji:j=id
  ·subst hji
   refine ((h.th j hj).set _ oM).congr (fun q hq=> ?_)
   have hq':q=0∨q=1∨q=2∨q=3:=by omega
   rcases hq' with rfl|rfl|rfl|rfl<;>simp [thF]
  ·have:thF Y {D with err:=fun j=>if j=id then x else D.err j} j=thF Y D j:=by funext q;simp [thF,hji]
   rw [this];exact (h.th j hj).frm hf (ne (.th j) _ (by simp [Lay.blk,hj]) (by simpa using hji))
 ·intro j hj
  obtain ⟨es,c,hm⟩:=h.nt j hj
  exact ⟨es,c,hm.of_heap (hf.block _ hm.lt (ne (.nt j) _ (by simp [Lay.blk,hj]) (by simp)))⟩
theorem Dv.setCur (h:Dv w Y D) (i x:Nat) (hi:i<8*D.n):Stp w Y (w.setCell ⟨Y.cb,i,none⟩ (u64 x)) Y {D with cur:=fun j=>if j=i then x else D.cur j}:=by
 have hf:=Frm.one w Y.cb i (u64 x)
 have ne:∀r b,Y.blk r=some b→r≠ .cu→b≠Y.cb:=fun r b hr hn e=>hn (h.inj r .cu b hr (by rw [e];rfl))
 refine ⟨⟨h.yn,h.dev.frm hf (ne .dev _ rfl (by simp)),h.pe.frm hf (ne .pe _ rfl (by simp)),?_,h.li.frm hf (ne .li _ rfl (by simp)),?_,?_,?_,h.inj⟩,rfl,hf.mono (fun b hb'=>⟨.cu,by rw [hb'];rfl⟩),fun b hb=> .inl hb⟩
 ·exact (h.cu.set (u64 x) hi).congr (fun j hj=>by show _=u64 (if j=i then x else D.cur j);split<;>simp_all)
 ·exact fun l hl=>(h.hs l hl).frm hf (fun b hb=>ne (.hs l) b (by simp only [Lay.blk];rw [if_pos (by have:=h.yn;have:l<D.n:=hl;omega)];exact hb) (by simp))
 ·exact fun j hj=>(h.th j hj).frm hf (ne (.th j) _ (by simp [Lay.blk,hj]) (by simp))
 ·intro j hj
  obtain ⟨es,c,hm⟩:=h.nt j hj
  exact ⟨es,c,hm.of_heap (hf.block _ hm.lt (ne (.nt j) _ (by simp [Lay.blk,hj]) (by simp)))⟩
theorem Dv.setPers (h:Dv w Y D) (i x:Nat) (hi:i<8*D.n):Stp w Y (w.setCell ⟨Y.pb,i,none⟩ (u64 x)) Y {D with pers:=fun j=>if j=i then x else D.pers j}:=by
 have hf:=Frm.one w Y.pb i (u64 x)
 have ne:∀r b,Y.blk r=some b→r≠ .pe→b≠Y.pb:=fun r b hr hn e=>hn (h.inj r .pe b hr (by rw [e];rfl))
 refine ⟨⟨h.yn,h.dev.frm hf (ne .dev _ rfl (by simp)),?_,h.cu.frm hf (ne .cu _ rfl (by simp)),h.li.frm hf (ne .li _ rfl (by simp)),?_,?_,?_,h.inj⟩,rfl,hf.mono (fun b hb'=>⟨.pe,by rw [hb'];rfl⟩),fun b hb=> .inl hb⟩
 ·exact (h.pe.set (u64 x) hi).congr (fun j hj=>by show _=u64 (if j=i then x else D.pers j);split<;>simp_all)
 ·exact fun l hl=>(h.hs l hl).frm hf (fun b hb=>ne (.hs l) b (by simp only [Lay.blk];rw [if_pos (by have:=h.yn;have:l<D.n:=hl;omega)];exact hb) (by simp))
 ·exact fun j hj=>(h.th j hj).frm hf (ne (.th j) _ (by simp [Lay.blk,hj]) (by simp))
 ·intro j hj
  obtain ⟨es,c,hm⟩:=h.nt j hj
  exact ⟨es,c,hm.of_heap (hf.block _ hm.lt (ne (.nt j) _ (by simp [Lay.blk,hj]) (by simp)))⟩
theorem Dv.setDone (h:Dv w Y D) (l x:Nat) (hl:l<D.n):Stp w Y (w.setCell ⟨Y.lb,l*2,none⟩ (u64 x)) Y {D with done:=fun j=>if j=l then x else D.done j}:=by
 have hf:=Frm.one w Y.lb (l*2) (u64 x)
 have ne:∀r b,Y.blk r=some b→r≠ .li→b≠Y.lb:=fun r b hr hn e=>hn (h.inj r .li b hr (by rw [e];rfl))
 refine ⟨⟨h.yn,h.dev.frm hf (ne .dev _ rfl (by simp)),h.pe.frm hf (ne .pe _ rfl (by simp)),h.cu.frm hf (ne .cu _ rfl (by simp)),?_,?_,?_,?_,h.inj⟩,rfl,hf.mono (fun b hb'=>⟨.li,by rw [hb'];rfl⟩),fun b hb=> .inl hb⟩
 ·refine (h.li.set (u64 x) (i:=l*2) oM).congr (fun j hj=> ?_)
  by_cases e:j=l*2
  ·subst e
   have e1:l*2%2=0:=by omega
   have e2:l*2/2=l:=by omega
   simp [linF,e1,e2]
  ·rw [if_neg e]
   by_cases e2:j%2=0
   ·have:¬j/2=l:=by omega
    simp [linF,e2,this]
   ·simp [linF,e2]
 ·exact fun l hl=>(h.hs l hl).frm hf (fun b hb=>ne (.hs l) b (by simp only [Lay.blk];rw [if_pos (by have:=h.yn;have:l<D.n:=hl;omega)];exact hb) (by simp))
 ·exact fun j hj=>(h.th j hj).frm hf (ne (.th j) _ (by simp [Lay.blk,hj]) (by simp))
 ·intro j hj
  obtain ⟨es,c,hm⟩:=h.nt j hj
  exact ⟨es,c,hm.of_heap (hf.block _ hm.lt (ne (.nt j) _ (by simp [Lay.blk,hj]) (by simp)))⟩
theorem Dv.setHist (h:Dv w Y D) (l:Nat) (hl:l<D.n) (v:Value) (H:List (Nat×Nat)) (hv:SlO w' 98 2 v H.length (wrL H)) (hf:Frm (fun b=>(Y.hv l).ownBlock=some b) w w') (hn:∀b,v.ownBlock=some b→(Y.hv l).ownBlock=some b∨w.heap.size≤b):
  Stp w Y (w'.setCell ⟨Y.lb,l*2+1,none⟩ v) {Y with hv:=fun j=>if j=l then v else Y.hv j} {D with hist:=fun j=>if j=l then H else D.hist j}:=by
 have hyn:=h.yn
 have hbl:∀b,(Y.hv l).ownBlock=some b→Y.blk (.hs l)=some b:=fun b hb=>by simp only [Lay.blk];rw [if_pos oM];exact hb
 have ne:∀r b,Y.blk r=some b→r≠ .hs l→¬(Y.hv l).ownBlock=some b:=fun r b hr hn e=>hn (h.inj r (.hs l) b hr (hbl b e))
 have hli:=h.li.frm hf (ne .li _ rfl (by simp))
 have hf2:=Frm.one w' Y.lb (l*2+1) v
 have ne2:∀r b,Y.blk r=some b→r≠ .li→b≠Y.lb:=fun r b hr hn e=>hn (h.inj r .li b hr (by rw [e];rfl))
 have hvl:∀b,v.ownBlock=some b→b≠Y.lb:=by
  intro b hb e
  rcases hn b hb with h1|h1
  ·exact ne2 (.hs l) b (hbl b h1) (by simp) e
  ·have:=h.li.lt;omega
 have blk':∀r,r≠ .hs l→Lay.blk {Y with hv:=fun j=>if j=l then v else Y.hv j} r=Y.blk r:=by
  intro r hr
  cases r with
  |hs q=>have:¬q=l:=fun e=>hr (by rw [e]);simp [Lay.blk,this]
  |_=>rfl
 have blkl:Lay.blk {Y with hv:=fun j=>if j=l then v else Y.hv j} (.hs l)=v.ownBlock:=by simp [Lay.blk];omega
 have both:Frm Y.F w (w'.setCell ⟨Y.lb,l*2+1,none⟩ v):=(hf.mono (fun b hb=>(⟨.hs l,hbl b hb⟩:Y.F b))).trans (hf2.mono (fun b hb=>(⟨.li,by rw [hb];rfl⟩:Y.F b))) (fun _ _ h=>h)
 have hnew:∀b,v.ownBlock=some b→∀r,r≠ .hs l→Y.blk r=some b→False:=by
  intro b hb r hr hrb
  rcases hn b hb with h1|h1
  ·exact ne r b hrb hr h1
  ·have:=h.lt ⟨r,hrb⟩;omega
 refine ⟨⟨h.yn,?_,?_,?_,?_,?_,?_,?_,?_⟩,rfl,both,?_⟩
 ·exact (h.dev.frm hf (ne .dev _ rfl (by simp))).frm hf2 (ne2 .dev _ rfl (by simp))
 ·exact (h.pe.frm hf (ne .pe _ rfl (by simp))).frm hf2 (ne2 .pe _ rfl (by simp))
 ·exact (h.cu.frm hf (ne .cu _ rfl (by simp))).frm hf2 (ne2 .cu _ rfl (by simp))
 ·refine (hli.set v (i:=l*2+1) oM).congr (fun j hj=> ?_)
  by_cases e:j=l*2+1
  ·subst e
   have e1:(l*2+1)%2=1:=by omega
   have e2:(l*2+1)/2=l:=by omega
   simp [linF,e1,e2]
  ·rw [if_neg e]
   by_cases e2:j%2=0
   ·simp [linF,e2]
   ·have:¬j/2=l:=by omega
    simp [linF,e2,this]
 ·intro q hq
  have hq':q<D.n:=hq
  by_cases e:q=l
  ·subst e
   simp only [if_true]
   exact hv.frm hf2 hvl
  ·simp only [e,if_false]
   have hqb:∀b,(Y.hv q).ownBlock=some b→Y.blk (.hs q)=some b:=fun b hb=>by simp only [Lay.blk];rw [if_pos oM];exact hb
   exact ((h.hs q hq').frm hf (fun b hb=>ne (.hs q) b (hqb b hb) (by simpa using e))).frm hf2 (fun b hb=>ne2 (.hs q) b (hqb b hb) (by simp))
 ·intro j hj
  exact ((h.th j hj).frm hf (ne (.th j) _ (by simp [Lay.blk,hj]) (by simp))).frm hf2 (ne2 (.th j) _ (by simp [Lay.blk,hj]) (by simp))
 ·intro j hj
  obtain ⟨es,c,hm⟩:=h.nt j hj
  have hm1:=hm.of_heap (hf.block _ hm.lt (ne (.nt j) _ (by simp [Lay.blk,hj]) (by simp)))
  exact ⟨es,c,hm1.of_heap (hf2.block _ hm1.lt (ne2 (.nt j) _ (by simp [Lay.blk,hj]) (by simp)))⟩
 ·intro r r' b hr hr'
  by_cases e1:r= .hs l
  ·by_cases e2:r'= .hs l
   ·rw [e1,e2]
   ·rw [e1,blkl] at hr;rw [blk' r' e2] at hr'
    exact (hnew b hr r' e2 hr').elim
  ·by_cases e2:r'= .hs l
   ·rw [e2,blkl] at hr';rw [blk' r e1] at hr
    exact (hnew b hr' r e1 hr).elim
   ·rw [blk' r e1] at hr;rw [blk' r' e2] at hr';exact h.inj r r' b hr hr'
 ·rintro b ⟨r,hr⟩
  by_cases e1:r= .hs l
  ·rw [e1,blkl] at hr
   rcases hn b hr with h1|h1
   ·exact .inl ⟨.hs l,hbl b h1⟩
   ·exact .inr h1
  ·rw [blk' r e1] at hr;exact .inl ⟨r,hr⟩
theorem Dv.setNote (h:Dv w Y D) (id:Nat) (hid:id<8) (m:Int→Option Nat) {es:Array MapEntry} {c:Nat} (hm:MapI w' (Y.nb id) es c (fun i=>(m i).map u64)) (hf:Frm (fun b=>b=Y.nb id) w w'):
  Stp w Y w' Y {D with notes:=fun j=>if j=id then m else D.notes j}:=by
 have hb:Y.blk (.nt id)=some (Y.nb id):=by simp [Lay.blk,hid]
 have ne:∀r b,Y.blk r=some b→r≠ .nt id→b≠Y.nb id:=fun r b hr hn e=>hn (h.inj r (.nt id) b hr (by rw [e];exact hb))
 refine ⟨⟨h.yn,h.dev.frm hf (ne .dev _ rfl (by simp)),h.pe.frm hf (ne .pe _ rfl (by simp)),h.cu.frm hf (ne .cu _ rfl (by simp)),h.li.frm hf (ne .li _ rfl (by simp)),?_,?_,?_,h.inj⟩,rfl,hf.mono (fun b hb'=>⟨.nt id,by rw [hb'];exact hb⟩),fun b hb=> .inl hb⟩
 ·exact fun l hl=>(h.hs l hl).frm hf (fun b hb=>ne (.hs l) b (by simp only [Lay.blk];rw [if_pos (by have:=h.yn;have:l<D.n:=hl;omega)];exact hb) (by simp))
 ·exact fun j hj=>(h.th j hj).frm hf (ne (.th j) _ (by simp [Lay.blk,hj]) (by simp))
 ·intro j hj
  by_cases e:j=id
  ·subst e
   have e:ntF {D with notes:=fun q=>if q=j then m else D.notes q} j=fun i=>(m i).map u64:=by funext q;simp [ntF]
   rw [e];exact ⟨es,c,hm⟩
  ·obtain ⟨es',c',hm'⟩:=h.nt j hj
   have:ntF {D with notes:=fun j=>if j=id then m else D.notes j} j=ntF D j:=by funext q;simp [ntF,e]
   rw [this]
   exact ⟨es',c',hm'.of_heap (hf.block _ hm'.lt (ne (.nt j) _ (by simp [Lay.blk,hj]) (by simpa using e)))⟩
end
section
variable {w w':World} {Y:Lay} {D D':DS}
theorem Dv.c_tdev (h:Dv w Y D) (id:Nat) (hi:id<8):w.cell? ⟨Y.tb id,0,none⟩=some (.pointer (some ⟨Y.d,0,none⟩)):=(h.th id hi).cell oM
theorem Dv.c_err (h:Dv w Y D) (id:Nat) (hi:id<8):w.cell? ⟨Y.tb id,2,none⟩=some (.int .i64 (D.err id)):=(h.th id hi).cell oM
theorem Dv.c_nb (h:Dv w Y D) (id:Nat) (hi:id<8):w.cell? ⟨Y.tb id,3,none⟩=some (.map (some (Y.nb id))):=(h.th id hi).cell oM
theorem Dv.z_t (h:Dv w Y D) (id i:Nat) (hi:id<8):w.frozen? ⟨Y.tb id,i,none⟩=false:=(h.th id hi).frz i
theorem Dv.c_pe (h:Dv w Y D):w.cell? ⟨Y.d,0,none⟩=some (.slice (some ⟨Y.pb,0,none⟩) (8*D.n) Y.pc):=h.dev.cell oM
theorem Dv.c_cu (h:Dv w Y D):w.cell? ⟨Y.d,1,none⟩=some (.slice (some ⟨Y.cb,0,none⟩) (8*D.n) Y.cc):=h.dev.cell oM
theorem Dv.c_li (h:Dv w Y D):w.cell? ⟨Y.d,2,none⟩=some (.slice (some ⟨Y.lb,0,none⟩) D.n D.n):=h.dev.cell oM
theorem Dv.c_th (h:Dv w Y D) (i:Nat) (h1:3≤i) (h2:i<11):w.cell? ⟨Y.d,i,none⟩=some (.pointer (some ⟨Y.dt (i-3),0,none⟩)):=by
 rw [h.dev.cell oM];unfold devF;rw [if_neg oM,if_neg oM,if_neg oM,if_pos h2]
theorem Dv.c_off (h:Dv w Y D):w.cell? ⟨Y.d,11,none⟩=some (.bool D.off):=h.dev.cell oM
theorem Dv.c_arm (h:Dv w Y D):w.cell? ⟨Y.d,12,none⟩=some (.bool D.armed):=h.dev.cell oM
theorem Dv.c_left (h:Dv w Y D):w.cell? ⟨Y.d,13,none⟩=some (.int .i64 D.left):=h.dev.cell oM
theorem Dv.c_exe (h:Dv w Y D):w.cell? ⟨Y.d,14,none⟩=some (.int .u64 (D.exe:Int)):=h.dev.cell oM
theorem Dv.z_d (h:Dv w Y D) (i:Nat):w.frozen? ⟨Y.d,i,none⟩=false:=h.dev.frz i
theorem Dv.c_cur (h:Dv w Y D) (i:Nat) (hi:i<8*D.n):w.cell? ⟨Y.cb,i,none⟩=some (.int .u64 (D.cur i:Int)):=h.cu.cell hi
theorem Dv.z_c (h:Dv w Y D) (i:Nat):w.frozen? ⟨Y.cb,i,none⟩=false:=h.cu.frz i
theorem Dv.c_pers (h:Dv w Y D) (i:Nat) (hi:i<8*D.n):w.cell? ⟨Y.pb,i,none⟩=some (.int .u64 (D.pers i:Int)):=h.pe.cell hi
theorem Dv.z_p (h:Dv w Y D) (i:Nat):w.frozen? ⟨Y.pb,i,none⟩=false:=h.pe.frz i
theorem Dv.c_done (h:Dv w Y D) (l:Nat) (hl:l<D.n):w.cell? ⟨Y.lb,l*2,none⟩=some (.int .u64 (D.done l:Int)):=by
 rw [h.li.cell oM];unfold linF;rw [if_pos oM,show l*2/2=l by omega]
theorem Dv.c_hist (h:Dv w Y D) (l:Nat) (hl:l<D.n):w.cell? ⟨Y.lb,l*2+1,none⟩=some (Y.hv l):=by
 rw [h.li.cell oM];unfold linF;rw [if_neg oM,show (l*2+1)/2=l by omega]
theorem Dv.z_l (h:Dv w Y D) (i:Nat):w.frozen? ⟨Y.lb,i,none⟩=false:=h.li.frz i
set_option linter.defProp false in
def Dv.R (h:Dv w Y D):=And.intro h.c_tdev<|And.intro h.c_err<|And.intro h.c_nb<|And.intro h.z_t<|And.intro h.c_pe<|And.intro h.c_cu<|And.intro h.c_li<|And.intro h.c_th<|And.intro h.c_off<|And.intro h.c_arm<|And.intro h.c_left<|And.intro h.c_exe<|And.intro h.z_d<|And.intro h.c_cur<|And.intro h.z_c<|And.intro h.c_pers<|And.intro h.z_p<|And.intro h.c_done<|And.intro h.c_hist h.z_l
end
def DS.fail (D:DS) (id:Nat) (e:Int):DS:=if D.err id=0 then {D with err:=fun j=>if j=id then e else D.err j} else D
theorem k_fail {w:World} {Y:Lay} {D:DS} (h:Dv w Y D) (id:Nat) (hid:id<8) (e:Int) (K:K1) (hK:∀w',Stp w Y w' Y (D.fail id e)→K (.tuple #[]) w'):callS prog 139 #[.pointer (some ⟨Y.tb id,0,none⟩),.int .i64 e] w K:=by
 refine f139_call _ _ _ _ ?_
 unfold f139_t
 (repeat' (first|(with_reducible first|refine brS_mk (fun _=> ?_) (fun _=> ?_)|refine And.intro ?_ ?_)|(simp (disch:=try exact dZ) only [↓RBp,↓RA,↓reduceIte,Nat.reduceAdd,Nat.reduceMul,Nat.reduceEqDiff,RB,RX,RA2,h.R])))
 ·rename_i h0
  refine hK _ ?_
  unfold DS.fail;rw [if_pos h0];exact h.setErr id hid e
 ·rename_i h0
  refine hK _ ?_
  unfold DS.fail;rw [if_neg h0];exact Stp.refl h
def DS.on (D:DS) (id:Nat) (v:Bool):DS:=if D.off=true then D.fail id 3 else if v=true then D else D.fail id 2
theorem k_on {w:World} {Y:Lay} {D:DS} (h:Dv w Y D) (id:Nat) (hid:id<8) (v:Bool) (K:K1) (hK:∀w',Stp w Y w' Y (D.on id v)→K (.bool (!D.off&&v)) w'):callS prog 89 #[.pointer (some ⟨Y.tb id,0,none⟩),.bool v] w K:=by
 refine f89_call _ _ _ _ ?_
 unfold f89_t
 unfold DS.on at hK
 (repeat' (first|(with_reducible first|refine brS_mk (fun _=> ?_) (fun _=> ?_)|refine And.intro ?_ ?_)|(simp (disch:=try exact dZ) only [↓RBp,↓RA,↓reduceIte,Nat.reduceAdd,Nat.reduceMul,Nat.reduceEqDiff,RB,RX,RA2,h.R])))
 ·rename_i h0
  refine k_fail h id hid 3 _ (fun w' hs=> ?_)
  simp (disch:=try exact dZ) only [↓RBp,↓RA,↓reduceIte,Nat.reduceAdd,Nat.reduceMul,Nat.reduceEqDiff,RB,RX,RA2,f89_k1_eq,f89_k1_t]
  simpa [h0] using hK w' (by simpa [h0] using hs)
 ·rename_i h0 h1
  simpa [h0,h1] using hK w (by simpa [h0,h1] using Stp.refl h)
 ·rename_i h0 h1
  refine k_fail h id hid 2 _ (fun w' hs=> ?_)
  simp (disch:=try exact dZ) only [↓RBp,↓RA,↓reduceIte,Nat.reduceAdd,Nat.reduceMul,Nat.reduceEqDiff,RB,RX,RA2,f89_k1_eq,f89_k1_t]
  simpa [h0,h1] using hK w' (by simpa [h0,h1] using hs)
def DS.counted (D:DS) (id:Nat) (v:Bool):DS:=
 if D.off=true then D.fail id 3 else if v=false then D.fail id 2 else
 if D.armed=true then if D.left=0 then ({D with off:=true}:DS).fail id 3 else {D with left:=D.left-1,exe:=D.exe+1} else {D with exe:=D.exe+1}
def DS.runs (D:DS) (v:Bool):Bool:= !D.off&&v&& !(D.armed&&decide (D.left=0))
theorem devF_off (Y:Lay) (D:DS) (b:Bool) (j:Nat):devF Y {D with off:=b} j=if j=11 then .bool b else devF Y D j:=by
 unfold devF
 by_cases h:j=11
 ·subst h;simp
 ·simp [h]
theorem devF_left (Y:Lay) (D:DS) (x:Int) (j:Nat):devF Y {D with left:=x} j=if j=13 then .int .i64 x else devF Y D j:=by
 unfold devF
 by_cases h:j=13
 ·subst h;simp
 ·simp [h]
theorem devF_exe (Y:Lay) (D:DS) (x:Nat) (j:Nat) (hj:j<15):devF Y {D with exe:=x} j=if j=14 then .int .u64 (x:Int) else devF Y D j:=by
 unfold devF
 by_cases h:j=14
 ·subst h;simp [u64]
 ·rw [if_neg h];simp;repeat (first|rfl|split|omega)
theorem Dv.setOff {w:World} {Y:Lay} {D:DS} (h:Dv w Y D) (b:Bool):Stp w Y (w.setCell ⟨Y.d,11,none⟩ (.bool b)) Y {D with off:=b}:=h.setDev 11 _ oM (fun j hj=>devF_off Y D b j) ⟨rfl,rfl,rfl,rfl,rfl,rfl,rfl⟩
theorem Dv.setLeft {w:World} {Y:Lay} {D:DS} (h:Dv w Y D) (x:Int):Stp w Y (w.setCell ⟨Y.d,13,none⟩ (.int .i64 x)) Y {D with left:=x}:=h.setDev 13 _ oM (fun j hj=>devF_left Y D x j) ⟨rfl,rfl,rfl,rfl,rfl,rfl,rfl⟩
theorem Dv.setExe {w:World} {Y:Lay} {D:DS} (h:Dv w Y D) (x:Nat):Stp w Y (w.setCell ⟨Y.d,14,none⟩ (.int .u64 (x:Int))) Y {D with exe:=x}:=h.setDev 14 _ oM (fun j hj=>devF_exe Y D x j hj) ⟨rfl,rfl,rfl,rfl,rfl,rfl,rfl⟩
theorem k_counted {w:World} {Y:Lay} {D:DS} (h:Dv w Y D) (id:Nat) (hid:id<8) (v:Bool) (hx:D.exe<1099511627776) (hl:0≤D.left) (hl':D.left<9223372036854775808) (K:K1) (hK:∀w',Stp w Y w' Y (D.counted id v)→K (.bool (D.runs v)) w'):callS prog 86 #[.pointer (some ⟨Y.tb id,0,none⟩),.bool v] w K:=by
 refine f86_call _ _ _ _ ?_
 unfold f86_t
 unfold DS.counted DS.runs at hK
 simp (disch:=try exact dZ) only [↓RBp,↓RA,↓reduceIte,Nat.reduceAdd,Nat.reduceMul,Nat.reduceEqDiff,RB,RX,RA2]
 refine k_on h id hid v _ (fun w1 h1=> ?_)
 by_cases ho:D.off=true
 ·simp (disch:=try exact dZ) only [↓RBp,↓RA,↓reduceIte,Nat.reduceAdd,Nat.reduceMul,Nat.reduceEqDiff,RB,RX,RA2,ho]
  simp only [DS.on,ho,if_true] at h1
  simpa [ho] using hK w1 (by simpa [ho] using h1)
 ·by_cases hv:v=true
  ·have e:D.on id v=D:=by simp [DS.on,ho,hv]
   rw [e] at h1
   have ho':D.off=false:=by simpa using ho
   subst hv
   (repeat' (first|(with_reducible first|refine brS_mk (fun _=> ?_) (fun _=> ?_)|refine And.intro ?_ ?_)|(simp (disch:=try exact dZ) only [↓RBp,↓RA,↓reduceIte,Nat.reduceAdd,Nat.reduceMul,Nat.reduceEqDiff,RB,RX,RA2,ho',h1.dv.R,f86_k1_eq,f86_k1_t])))
   ·rename_i ha hz
    have h2:=h1.trans (h1.dv.setOff true)
    refine k_fail h2.dv id hid 3 _ (fun w3 h3=> ?_)
    simpa [ho',ha,hz] using hK w3 (by simpa [ho',ha,hz] using h2.trans h3)
   ·rename_i ha hz
    have h2:=h1.trans (h1.dv.setLeft (D.left-1))
    simp (disch:=try exact dZ) only [↓RBp,↓RA,↓reduceIte,Nat.reduceAdd,Nat.reduceMul,Nat.reduceEqDiff,RB,RX,RA2,h2.dv.R]
    simpa [ho',ha,hz] using hK _ (by simpa [ho',ha,hz] using h2.trans (h2.dv.setExe (D.exe+1)))
   ·rename_i ha
    simpa [ho',ha] using hK _ (by simpa [ho',ha] using h1.trans (h1.dv.setExe (D.exe+1)))
  ·have hv':v=false:=by simpa using hv
   subst hv'
   simp (disch:=try exact dZ) only [↓RBp,↓RA,↓reduceIte,Nat.reduceAdd,Nat.reduceMul,Nat.reduceEqDiff,RB,RX,RA2]
   have ho':D.off=false:=by simpa using ho
   have e:D.on id false=D.fail id 2:=by simp [DS.on,ho']
   rw [e] at h1
   simpa [ho'] using hK _ (by simpa [ho'] using h1)
noncomputable def f19_u:Code×Dec:=((Tryz.f19.body).getD .skip,(.s .o (.s .o (.x 8 (.b (.l [3] 1 524280 .o)) .o))))
abbrev f19_e (K:K1):KF:=endK prog Tryz.f19.results.toList K
def f19_k1_o (K:K1):KF:=fun fr w=>∀σ,cP (pr (pr (pr f19_u))) (f19_e K) (f19_e K) nX (mixF 8 σ 0 fr) w
def f19_k1 (K:K1) (x3:Value) (w:World):Prop:=f19_k1_o K (fz 20 0 [(3,x3)]) w
def f19_l1 (K:K1) (x0 x3:Value) (w:World):Prop:=loopT [3] 1 (fun E=>cP (pl (pl (pl (pr (pr f19_u))))) E (f19_e K) (exB 0 (f19_k1_o K) nX)) (fz 20 0 [(0,x0),(3,x3)]) w
def f19_k1_t (x3:Value) (K:K1) (w:World):Prop:=
 K x3 w
theorem f19_k1_eq (K:K1) (x3:Value) (w:World):f19_k1 K x3 w=f19_k1_t x3 K w:=cutE fun σ=>by kernel_rfl
def f19_l1_t (x0 x3:Value) (K:K1) (E1:VP1) (w:World):Prop:=
 cL 56 (pA #[x0]) w fun a w=>
 bC .gtr 3 5 0 a w fun b w=>
 gV b true x3 w fun c w=>
 gd b true (fun k=>bC .add 3 8 1 c w k) w fun d w=>
 gV b true x0 w fun e w=>
 gC b true 56 (pA #[e]) w fun f w=>
 gd b true (fun k=>bC .add 3 11 1 f w k) w fun g w=>
 gd b true (fun k=>bT .mul 3 9 12 d g w k) w fun h w=>
 gd b true (fun k=>bM .add 3 (ci 8) (.tmp 13) (.int .i64 8) h w k) w fun i w=>
 gd b true (fun k=>bC .leq 3 14 256 i w k) w fun j w=>
 pickS b j (.bool false) w fun l w=>
 cndS l (
 bC .add 3 17 1 x3 w fun m w=>
 E1 m w) (
 f19_k1 K x3 w)
theorem f19_l1_rule (x0 x3:Value) (K:K1) (w:World) (I:VP1) (μ:Value→World→Nat) (h0:I x3 w)
  (hr:∀(x3:Value) (w:World),I x3 w→∀E1:VP1,(∀(y3:Value) (w':World),I y3 w'→μ y3 w'<μ x3 w→E1 y3 w')→f19_l1_t x0 x3 K E1 w):f19_l1 K x0 x3 w:=
 ⟨I,μ,h0,fun σ w hI E hE=>cast kR (hr (σ 3) w hI E hE)⟩
def f19_t (x0:Value) (K:K1) (w:World):Prop:=
 f19_l1 K x0 (.int .i64 0) w
theorem f19_call (x0:Value) (K:K1) (w:World) (h:f19_t x0 K w):callS prog 19 #[x0] w K:=
 call_of_txt (args:= [x0]) mixed Tryz.func19 f19_u.2 kR (cast kR h)
def f20_t (x0:Value) (K:K1) (w:World):Prop:=
 cV 27 126 x0 w fun a w=>
 cV 126 26 a w fun b w=>
 bU .mul 26 5 .u64 8 b w fun c w=>
 K c w
theorem f20_call (x0:Value) (K:K1) (w:World) (h:f20_t x0 K w):callS prog 20 #[x0] w K:=
 call_of_txt (args:= [x0]) mixed Tryz.func20 .o kR (cast kR h)
def f56_t (x0:Value) (K:K1) (w:World):Prop:=
 bC .eql 3 3 0 x0 w fun a w=>
 cndS a (
 K (.int .i64 3) w) (
 bC .eql 3 3 1 x0 w fun b w=>
 cndS b (
 K (.int .i64 7) w) (
 bC .eql 3 3 2 x0 w fun c w=>
 cndS c (
 K (.int .i64 15) w) (
 bC .eql 3 3 3 x0 w fun d w=>
 cndS d (
 K (.int .i64 31) w) (
 bC .eql 3 3 4 x0 w fun e w=>
 cndS e (
 K (.int .i64 60) w) (
 K (.int .i64 0) w)))))
theorem f56_call (x0:Value) (K:K1) (w:World) (h:f56_t x0 K w):callS prog 56 #[x0] w K:=
 call_of_txt (args:= [x0]) mixed Tryz.func56 .o kR (cast kR h)
def f60_t (x0:Value) (K:K1) (w:World):Prop:=
 bU .shr 27 3 .u64 48 x0 w fun a w=>
 cV 27 5 a w fun b w=>
 K b w
theorem f60_call (x0:Value) (K:K1) (w:World) (h:f60_t x0 K w):callS prog 60 #[x0] w K:=
 call_of_txt (args:= [x0]) mixed Tryz.func60 .o kR (cast kR h)
def f73_t (x0:Value) (K:K1) (w:World):Prop:=
 bU .eql 27 3 .u64 0 x0 w fun a w=>
 K a w
theorem f73_call (x0:Value) (K:K1) (w:World) (h:f73_t x0 K w):callS prog 73 #[x0] w K:=
 call_of_txt (args:= [x0]) mixed Tryz.func73 .o kR (cast kR h)
def f85_t (x0:Value) (K:K1) (w:World):Prop:=
 bC .lss 3 3 0 x0 w fun a w=>
 gV a false x0 w fun b w=>
 gd a false (fun k=>bC .geq 3 6 5 b w k) w fun c w=>
 pickS a (.bool true) c w fun d w=>
 cndS d (
 K (.int .i64 0) w) (
 iA 182 (.pointer (some ⟨0,0,none⟩)) x0 w fun e w=>
 lD 3 e w fun f w=>
 K f w)
theorem f85_call (x0:Value) (K:K1) (w:World) (h:f85_t x0 K w):callS prog 85 #[x0] w K:=
 call_of_txt (args:= [x0]) mixed Tryz.func85 .o kR (cast kR h)
def f132_t (x0:Value) (K:K1) (w:World):Prop:=
 bU .shr 27 3 .u64 32 x0 w fun a w=>
 cV 27 130 a w fun b w=>
 K b w
theorem f132_call (x0:Value) (K:K1) (w:World) (h:f132_t x0 K w):callS prog 132 #[x0] w K:=
 call_of_txt (args:= [x0]) mixed Tryz.func132 .o kR (cast kR h)
def f135_t (x0:Value) (K:K1) (w:World):Prop:=
 cL 85 (pA #[x0]) w fun a w=>
 bC .eql 3 6 0 a w fun b w=>
 cndS b (
 K (.int .i64 0) w) (
 bC .add 3 8 1 a w fun c w=>
 bM .quo 3 (ci 248) (.tmp 9) (.int .i64 248) c w fun d w=>
 K d w)
theorem f135_call (x0:Value) (K:K1) (w:World) (h:f135_t x0 K w):callS prog 135 #[x0] w K:=
 call_of_txt (args:= [x0]) mixed Tryz.func135 .o kR (cast kR h)
def f138_t (x0 x1:Value) (K:K1) (w:World):Prop:=
 cL 135 (pA #[x0]) w fun a w=>
 bC .eql 3 11 0 a w fun b w=>
 gV b false x1 w fun c w=>
 gd b false (fun k=>bC .leq 3 14 8 c w k) w fun d w=>
 pickS b (.bool true) d w fun e w=>
 gV e false x1 w fun f w=>
 gd e false (fun k=>bC .geq 3 18 256 f w k) w fun g w=>
 pickS e (.bool true) g w fun h w=>
 cndS h (
 K (.tuple #[(.int .i64 0),(.bool false)]) w) (
 iA 182 (.pointer (some ⟨0,0,none⟩)) x0 w fun i w=>
 lD 3 i w fun j w=>
 bC .add 3 23 1 j w fun l w=>
 bC .sub 3 25 8 x1 w fun m w=>
 bC .sub 3 26 1 m w fun n w=>
 bT .rem 3 28 29 n l w fun o w=>
 bC .neq 3 30 0 o w fun p w=>
 gV p false n w fun q w=>
 gV p false l w fun s w=>
 gd p false (fun k=>bT .quo 3 33 34 q s w k) w fun t w=>
 gV p false a w fun v w=>
 gd p false (fun k=>bT .geq 3 35 36 t v w k) w fun y w=>
 pickS p (.bool true) y w fun z w=>
 cndS z (
 K (.tuple #[(.int .i64 0),(.bool false)]) w) (
 bT .quo 3 39 40 n l w fun a0 w=>
 K (.tuple #[a0,(.bool true)]) w))
theorem f138_call (x0 x1:Value) (K:K1) (w:World) (h:f138_t x0 x1 K w):callS prog 138 #[x0,x1] w K:=
 call_of_txt (args:= [x0,x1]) mixed Tryz.func138 .o kR (cast kR h)
def f158_t (x0:Value) (K:K1) (w:World):Prop:=
 bC .geq 3 3 0 x0 w fun a w=>
 gV a true x0 w fun b w=>
 gd a true (fun k=>bC .leq 3 6 4064 b w k) w fun c w=>
 pickS a c (.bool false) w fun d w=>
 K d w
theorem f158_call (x0:Value) (K:K1) (w:World) (h:f158_t x0 K w):callS prog 158 #[x0] w K:=
 call_of_txt (args:= [x0]) mixed Tryz.func158 .o kR (cast kR h)
def f159_t (x0:Value) (K:K1) (w:World):Prop:=
 ev prog (Instr.box 132 x0) w fun a w=>
 fA 132 a 0 w fun b w=>
 lD 3 b w fun c w=>
 cL 135 (pA #[c]) w fun d w=>
 bC .gtr 3 5 0 d w fun e w=>
 gd e true (fun k=>fA 132 a 1 w k) w fun f w=>
 gd e true (fun k=>lD 3 f w k) w fun g w=>
 gd e true (fun k=>bC .geq 3 9 0 g w k) w fun h w=>
 pickS e h (.bool false) w fun i w=>
 gd i true (fun k=>fA 132 a 1 w k) w fun j w=>
 gd i true (fun k=>lD 3 j w k) w fun l w=>
 gd i true (fun k=>bC .lss 3 14 8 l w k) w fun m w=>
 pickS i m (.bool false) w fun n w=>
 K n w
theorem f159_call (x0:Value) (K:K1) (w:World) (h:f159_t x0 K w):callS prog 159 #[x0] w K:=
 call_of_txt (args:= [x0]) mixed Tryz.func159 .o kR (cast kR h)
def f160_t (x0:Value) (K:K1) (w:World):Prop:=
 ev prog (Instr.box 200 x0) w fun a w=>
 fA 200 a 0 w fun b w=>
 lD 130 b w fun c w=>
 cV 130 126 c w fun d w=>
 fA 200 a 1 w fun e w=>
 lD 5 e w fun f w=>
 cV 5 126 f w fun g w=>
 bU .shl 126 8 .u64 16 g w fun h w=>
 bT .or 126 5 9 d h w fun i w=>
 fA 200 a 2 w fun j w=>
 lD 5 j w fun l w=>
 cV 5 126 l w fun m w=>
 bU .shl 126 13 .u64 24 m w fun n w=>
 bT .or 126 10 14 i n w fun o w=>
 cL 185 (pA #[o]) w fun p w=>
 K p w
theorem f160_call (x0:Value) (K:K1) (w:World) (h:f160_t x0 K w):callS prog 160 #[x0] w K:=
 call_of_txt (args:= [x0]) mixed Tryz.func160 .o kR (cast kR h)
def f161_t (x0 x1:Value) (K:K1) (w:World):Prop:=
 cL 135 (pA #[x0]) w fun a w=>
 bC .eql 3 9 0 a w fun b w=>
 cndS b (
 K (.tuple #[(.int .i64 0),(.int .i64 1)]) w) (
 bC .lss 3 11 0 x1 w fun c w=>
 gV c false x1 w fun d w=>
 gV c false a w fun e w=>
 gd c false (fun k=>bT .geq 3 14 15 d e w k) w fun f w=>
 pickS c (.bool true) f w fun g w=>
 cndS g (
 K (.tuple #[(.int .i64 0),(.int .i64 2)]) w) (
 iA 182 (.pointer (some ⟨0,0,none⟩)) x0 w fun h w=>
 lD 3 h w fun i w=>
 bC .add 3 21 1 i w fun j w=>
 bT .mul 3 18 22 x1 j w fun l w=>
 bM .add 3 (ci 8) (.tmp 23) (.int .i64 8) l w fun m w=>
 K (.tuple #[m,(.int .i64 0)]) w))
theorem f161_call (x0 x1:Value) (K:K1) (w:World) (h:f161_t x0 x1 K w):callS prog 161 #[x0,x1] w K:=
 call_of_txt (args:= [x0,x1]) mixed Tryz.func161 .o kR (cast kR h)
def f162_t (x0:Value) (K:K1) (w:World):Prop:=
 cV 3 26 x0 w fun a w=>
 bU .mul 26 4 .u64 64 a w fun b w=>
 K b w
theorem f162_call (x0:Value) (K:K1) (w:World) (h:f162_t x0 K w):callS prog 162 #[x0] w K:=
 call_of_txt (args:= [x0]) mixed Tryz.func162 .o kR (cast kR h)
noncomputable def f163_u:Code×Dec:=((Tryz.f163.body).getD .skip,(.s .o (.s .o (.x 8 .o .o))))
abbrev f163_e (K:K1):KF:=endK prog Tryz.f163.results.toList K
def f163_k1_o (K:K1):KF:=fun fr w=>∀σ,cP (pr (pr (pr f163_u))) (f163_e K) (f163_e K) nX (mixF 8 σ 0 fr) w
def f163_k1 (K:K1) (x3:Value) (w:World):Prop:=f163_k1_o K (fz 26 0 [(3,x3)]) w
def f163_k1_t (x3:Value) (K:K1) (w:World):Prop:=
 cL 185 (pA #[x3]) w fun a w=>
 K a w
theorem f163_k1_eq (K:K1) (x3:Value) (w:World):f163_k1 K x3 w=f163_k1_t x3 K w:=cutE fun σ=>by kernel_rfl
def f163_t (x0:Value) (K:K1) (w:World):Prop:=
 ev prog (Instr.box 132 x0) w fun a w=>
 fA 132 a 2 w fun b w=>
 lD 130 b w fun c w=>
 cV 130 126 c w fun d w=>
 bU .or 126 6 .u32 3305111552 d w fun e w=>
 fA 132 a 0 w fun f w=>
 lD 3 f w fun g w=>
 bC .geq 3 9 0 g w fun h w=>
 cndS h (
 fA 132 a 0 w fun i w=>
 lD 3 i w fun j w=>
 bC .add 3 13 1 j w fun l w=>
 cV 3 126 l w fun m w=>
 bU .shl 126 15 .u64 16 m w fun n w=>
 fA 132 a 1 w fun o w=>
 lD 3 o w fun p w=>
 bC .add 3 18 1 p w fun q w=>
 cV 3 126 q w fun s w=>
 bU .shl 126 20 .u64 20 s w fun t w=>
 bT .or 126 16 21 n t w fun v w=>
 bT .or 126 11 22 e v w fun y w=>
 f163_k1 K y w) (
 f163_k1 K e w)
theorem f163_call (x0:Value) (K:K1) (w:World) (h:f163_t x0 K w):callS prog 163 #[x0] w K:=
 call_of_txt (args:= [x0]) mixed Tryz.func163 f163_u.2 kR (cast kR h)
def f168_t (x0:Value) (K:K1) (w:World):Prop:=
 ev prog (Instr.box 200 x0) w fun a w=>
 fA 200 a 2 w fun b w=>
 lD 5 b w fun c w=>
 bU .eql 5 4 .u8 176 c w fun d w=>
 cndS d (
 fA 200 a 0 w fun e w=>
 lD 130 e w fun f w=>
 bU .neq 130 8 .u16 0 f w fun g w=>
 gd g true (fun k=>fA 200 a 1 w k) w fun h w=>
 gd g true (fun k=>lD 5 h w k) w fun i w=>
 gd g true (fun k=>bU .eql 5 12 .u8 0 i w k) w fun j w=>
 pickS g j (.bool false) w fun l w=>
 K l w) (
 bU .eql 5 4 .u8 177 c w fun m w=>
 cndS m (
 fA 200 a 0 w fun n w=>
 lD 130 n w fun o w=>
 bU .neq 130 18 .u16 0 o w fun p w=>
 gd p true (fun k=>fA 200 a 1 w k) w fun q w=>
 gd p true (fun k=>lD 5 q w k) w fun s w=>
 gd p true (fun k=>bU .neq 5 22 .u8 0 s w k) w fun t w=>
 pickS p t (.bool false) w fun v w=>
 gd v true (fun k=>fA 200 a 1 w k) w fun y w=>
 gd v true (fun k=>lD 5 y w k) w fun z w=>
 gd v true (fun k=>bU .leq 5 27 .u8 127 z w k) w fun a0 w=>
 pickS v a0 (.bool false) w fun a1 w=>
 K a1 w) (
 bU .eql 5 4 .u8 178 c w fun a2 w=>
 cndS a2 (
 fA 200 a 0 w fun a3 w=>
 lD 130 a3 w fun a4 w=>
 bU .eql 130 33 .u16 65535 a4 w fun a5 w=>
 gd a5 true (fun k=>fA 200 a 1 w k) w fun a6 w=>
 gd a5 true (fun k=>lD 5 a6 w k) w fun a7 w=>
 gd a5 true (fun k=>bU .eql 5 37 .u8 0 a7 w k) w fun a8 w=>
 pickS a5 a8 (.bool false) w fun a9 w=>
 K a9 w) (
 K (.bool false) w)))
theorem f168_call (x0:Value) (K:K1) (w:World) (h:f168_t x0 K w):callS prog 168 #[x0] w K:=
 call_of_txt (args:= [x0]) mixed Tryz.func168 .o kR (cast kR h)
def f169_t (x0 x1 x2:Value) (K:K1) (w:World):Prop:=
 bU .eql 26 8 .u64 0 x0 w fun a w=>
 gV a false x0 w fun b w=>
 gd a false (fun k=>bU .rem 26 11 .u64 8 b w k) w fun c w=>
 gd a false (fun k=>bU .neq 26 12 .u64 0 c w k) w fun d w=>
 pickS a (.bool true) d w fun e w=>
 gV e false x1 w fun f w=>
 gd e false (fun k=>bU .eql 130 16 .u16 0 f w k) w fun g w=>
 pickS e (.bool true) g w fun h w=>
 gV h false x2 w fun i w=>
 gd h false (fun k=>bU .eql 5 20 .u8 0 i w k) w fun j w=>
 pickS h (.bool true) j w fun l w=>
 gV l false x2 w fun m w=>
 gd l false (fun k=>bU .gtr 5 24 .u8 127 m w k) w fun n w=>
 pickS l (.bool true) n w fun o w=>
 cndS o (
 K (.tuple #[(.int .u64 ((0:Nat):Int)),(.int .i64 1)]) w) (
 bU .gtr 26 27 .u64 34359738360 x0 w fun p w=>
 cndS p (
 K (.tuple #[(.int .u64 ((0:Nat):Int)),(.int .i64 2)]) w) (
 bU .quo 26 29 .u64 8 x0 w fun q w=>
 cV 130 26 x1 w fun s w=>
 bU .shl 26 32 .u64 32 s w fun t w=>
 bT .or 26 30 33 q t w fun v w=>
 cV 5 26 x2 w fun y w=>
 bU .shl 26 36 .u64 48 y w fun z w=>
 bT .or 26 34 37 v z w fun a0 w=>
 K (.tuple #[a0,(.int .i64 0)]) w))
theorem f169_call (x0 x1 x2:Value) (K:K1) (w:World) (h:f169_t x0 x1 x2 K w):callS prog 169 #[x0,x1,x2] w K:=
 call_of_txt (args:= [x0,x1,x2]) mixed Tryz.func169 .o kR (cast kR h)
def f171_t (x0:Value) (K:K1) (w:World):Prop:=
 bU .rem 26 4 .u64 64 x0 w fun a w=>
 bT .sub 26 3 5 x0 a w fun b w=>
 K b w
theorem f171_call (x0:Value) (K:K1) (w:World) (h:f171_t x0 K w):callS prog 171 #[x0] w K:=
 call_of_txt (args:= [x0]) mixed Tryz.func171 .o kR (cast kR h)
def f174_t (x0 x1:Value) (K:K1) (w:World):Prop:=
 cV 5 126 x1 w fun a w=>
 bT .xor 126 5 7 x0 a w fun b w=>
 bU .shr 126 9 .u64 4 b w fun c w=>
 bU .and 126 11 .u32 15 b w fun d w=>
 iA 257 (.pointer (some ⟨1,0,none⟩)) d w fun e w=>
 lD 126 e w fun f w=>
 bT .xor 126 10 14 c f w fun g w=>
 bU .shr 126 16 .u64 4 g w fun h w=>
 bU .and 126 18 .u32 15 g w fun i w=>
 iA 257 (.pointer (some ⟨1,0,none⟩)) i w fun j w=>
 lD 126 j w fun l w=>
 bT .xor 126 17 21 h l w fun m w=>
 K m w
theorem f174_call (x0 x1:Value) (K:K1) (w:World) (h:f174_t x0 x1 K w):callS prog 174 #[x0,x1] w K:=
 call_of_txt (args:= [x0,x1]) mixed Tryz.func174 .o kR (cast kR h)
def f175_t (x0:Value) (K:K1) (w:World):Prop:=
 ev prog (Instr.alloc 132 true (.tuple #[])) w fun a w=>
 cV 26 126 x0 w fun b w=>
 cL 185 (pA #[b]) w fun c w=>
 bT .neq 26 9 10 c x0 w fun d w=>
 gV d false b w fun e w=>
 gd d false (fun k=>bU .shr 126 13 .u64 24 e w k) w fun f w=>
 gd d false (fun k=>bU .neq 126 14 .u32 197 f w k) w fun g w=>
 pickS d (.bool true) g w fun h w=>
 gV h false b w fun i w=>
 gd h false (fun k=>cV 126 130 i w k) w fun j w=>
 gd h false (fun k=>bU .eql 130 19 .u16 0 j w k) w fun l w=>
 pickS h (.bool true) l w fun m w=>
 cndS m (
 ev prog (Instr.build 132 #[]) w fun n w=>
 sD 132 a n w fun w=>
 lR 132 a w fun r=>
 K (.tuple #[r,(.bool false)]) w) (
 bU .shr 126 23 .u64 16 b w fun o w=>
 bU .and 126 24 .u32 15 o w fun p w=>
 cV 126 3 p w fun q w=>
 bC .sub 3 26 1 q w fun s w=>
 bU .shr 126 28 .u64 20 b w fun t w=>
 bU .and 126 29 .u32 15 t w fun v w=>
 cV 126 3 v w fun y w=>
 bC .sub 3 31 1 y w fun z w=>
 cV 126 130 b w fun a0 w=>
 ev prog (Instr.build 132 #[(0,s),(1,z),(2,a0)]) w fun a1 w=>
 ev prog (Instr.alloc 132 true (.tuple #[])) w fun a2 w=>
 sD 132 a2 a1 w fun w=>
 fA 132 a2 0 w fun a3 w=>
 lD 3 a3 w fun a4 w=>
 bC .lss 3 37 0 a4 w fun a5 w=>
 gd a5 true (fun k=>fA 132 a2 1 w k) w fun a6 w=>
 gd a5 true (fun k=>lD 3 a6 w k) w fun a7 w=>
 gd a5 true (fun k=>bC .lss 3 41 0 a7 w k) w fun a8 w=>
 pickS a5 a8 (.bool false) w fun a9 w=>
 gd a9 false (fun k=>lD 132 a2 w k) w fun b0 w=>
 gC a9 false 159 (pA #[b0]) w fun b1 w=>
 pickS a9 (.bool true) b1 w fun b2 w=>
 cndS b2 (
 lD 132 a2 w fun b3 w=>
 sD 132 a b3 w fun w=>
 lR 132 a w fun r_1=>
 K (.tuple #[r_1,(.bool true)]) w) (
 ev prog (Instr.build 132 #[]) w fun b4 w=>
 sD 132 a b4 w fun w=>
 lR 132 a w fun r_2=>
 K (.tuple #[r_2,(.bool false)]) w))
theorem f175_call (x0:Value) (K:K1) (w:World) (h:f175_t x0 K w):callS prog 175 #[x0] w K:=
 call_of_txt (args:= [x0]) mixed Tryz.func175 .o kR (cast kR h)
def f176_t (x0:Value) (K:K1) (w:World):Prop:=
 ev prog (Instr.alloc 200 true (.tuple #[])) w fun a w=>
 cV 26 126 x0 w fun b w=>
 cL 185 (pA #[b]) w fun c w=>
 bT .neq 26 8 9 c x0 w fun d w=>
 cndS d (
 ev prog (Instr.build 200 #[]) w fun e w=>
 sD 200 a e w fun w=>
 lR 200 a w fun r=>
 K (.tuple #[r,(.bool false)]) w) (
 cV 126 130 b w fun f w=>
 bU .shr 126 14 .u64 16 b w fun g w=>
 cV 126 5 g w fun h w=>
 bU .shr 126 17 .u64 24 b w fun i w=>
 cV 126 5 i w fun j w=>
 ev prog (Instr.build 200 #[(0,f),(1,h),(2,j)]) w fun l w=>
 sD 200 a l w fun w=>
 lR 200 a w fun r_1=>
 K (.tuple #[r_1,(.bool true)]) w)
theorem f176_call (x0:Value) (K:K1) (w:World) (h:f176_t x0 K w):callS prog 176 #[x0] w K:=
 call_of_txt (args:= [x0]) mixed Tryz.func176 .o kR (cast kR h)
def f181_t (x0:Value) (K:K1) (w:World):Prop:=
 ev prog (Instr.box 200 x0) w fun a w=>
 ev prog (Instr.alloc 200 true (.tuple #[])) w fun b w=>
 fA 200 a 0 w fun c w=>
 lD 130 c w fun d w=>
 cL 199 (pA #[d]) w fun e w=>
 eX e 0 w fun f w=>
 eX e 1 w fun g w=>
 cndS g (
 ev prog (Instr.build 200 #[(0,f),(2,(.int .u8 ((176:Nat):Int)))]) w fun h w=>
 sD 200 b h w fun w=>
 lR 200 b w fun r=>
 K r w) (
 ev prog (Instr.build 200 #[(0,(.int .u16 ((65535:Nat):Int))),(2,(.int .u8 ((178:Nat):Int)))]) w fun i w=>
 sD 200 b i w fun w=>
 lR 200 b w fun r_1=>
 K r_1 w)
theorem f181_call (x0:Value) (K:K1) (w:World) (h:f181_t x0 K w):callS prog 181 #[x0] w K:=
 call_of_txt (args:= [x0]) mixed Tryz.func181 .o kR (cast kR h)
def f185_t (x0:Value) (K:K1) (w:World):Prop:=
 cV 126 5 x0 w fun a w=>
 bU .shr 126 6 .u64 8 x0 w fun b w=>
 cV 126 5 b w fun c w=>
 bU .shr 126 9 .u64 16 x0 w fun d w=>
 cV 126 5 d w fun e w=>
 bU .shr 126 12 .u64 24 x0 w fun f w=>
 cV 126 5 f w fun g w=>
 ev prog (Instr.buildSlice 51 4 #[(0,a),(1,c),(2,e),(3,g)]) w fun h w=>
 cL 200 (pA #[h]) w fun i w=>
 cV 126 26 i w fun j w=>
 bU .shl 26 18 .u64 32 j w fun l w=>
 cV 126 26 x0 w fun m w=>
 bT .or 26 19 21 l m w fun n w=>
 K n w
theorem f185_call (x0:Value) (K:K1) (w:World) (h:f185_t x0 K w):callS prog 185 #[x0] w K:=
 call_of_txt (args:= [x0]) mixed Tryz.func185 .o kR (cast kR h)
def f199_t (x0:Value) (K:K1) (w:World):Prop:=
 bU .eql 130 4 .u16 65535 x0 w fun a w=>
 cndS a (
 K (.tuple #[(.int .u16 ((0:Nat):Int)),(.bool false)]) w) (
 bU .add 130 6 .u16 1 x0 w fun b w=>
 K (.tuple #[b,(.bool true)]) w)
theorem f199_call (x0:Value) (K:K1) (w:World) (h:f199_t x0 K w):callS prog 199 #[x0] w K:=
 call_of_txt (args:= [x0]) mixed Tryz.func199 .o kR (cast kR h)
def f200_t (x0:Value) (K:K1) (w:World):Prop:=
 cL 216 (pA #[(.int .u32 ((0:Nat):Int)),x0]) w fun a w=>
 K a w
theorem f200_call (x0:Value) (K:K1) (w:World) (h:f200_t x0 K w):callS prog 200 #[x0] w K:=
 call_of_txt (args:= [x0]) mixed Tryz.func200 .o kR (cast kR h)
noncomputable def f216_u:Code×Dec:=((Tryz.f216.body).getD .skip,(.s .o (.s .o (.x 32 (.s .o (.b (.l [5,12] 3072 1044640 .o))) .o))))
abbrev f216_e (K:K1):KF:=endK prog Tryz.f216.results.toList K
def f216_k1_o (K:K1):KF:=fun fr w=>∀σ,cP (pr (pr (pr f216_u))) (f216_e K) (f216_e K) nX (mixF 32 σ 0 fr) w
def f216_k1 (K:K1) (x5:Value) (w:World):Prop:=f216_k1_o K (fz 22 0 [(5,x5)]) w
def f216_l1 (K:K1) (x5 x10 x11 x12:Value) (w:World):Prop:=loopT [5,12] 3072 (fun E=>cP (pl (pl (pr (pl (pr (pr f216_u)))))) E (f216_e K) (exB 0 (f216_k1_o K) nX)) (fz 22 0 [(5,x5),(10,x10),(11,x11),(12,x12)]) w
def f216_k1_t (x5:Value) (K:K1) (w:World):Prop:=
 ev prog (Op.unary .xor x5) w fun a w=>
 K a w
theorem f216_k1_eq (K:K1) (x5:Value) (w:World):f216_k1 K x5 w=f216_k1_t x5 K w:=cutE fun σ=>by kernel_rfl
def f216_l1_t (x5 x10 x11 x12:Value) (K:K1) (E1:VP2) (w:World):Prop:=
 bT .lss 3 12 11 x12 x11 w fun a w=>
 cndS a (
 iA 51 x10 x12 w fun b w=>
 lD 5 b w fun c w=>
 cL 174 (pA #[x5,c]) w fun d w=>
 bC .add 3 12 1 x12 w fun e w=>
 E1 d e w) (
 f216_k1 K x5 w)
theorem f216_l1_rule (x5 x10 x11 x12:Value) (K:K1) (w:World) (I:VP2) (μ:Value→Value→World→Nat) (h0:I x5 x12 w)
  (hr:∀(x5 x12:Value) (w:World),I x5 x12 w→∀E1:VP2,(∀(y5 y12:Value) (w':World),I y5 y12 w'→μ y5 y12 w'<μ x5 x12 w→E1 y5 y12 w')→f216_l1_t x5 x10 x11 x12 K E1 w):f216_l1 K x5 x10 x11 x12 w:=
 ⟨I,μ,h0,fun σ w hI E hE=>cast kR (hr (σ 5) (σ 12) w hI E hE)⟩
def f216_t (x0 x1:Value) (K:K1) (w:World):Prop:=
 ev prog (Op.unary .xor x0) w fun a w=>
 lN 51 x1 w fun b w=>
 f216_l1 K a x1 b (.int .i64 0) w
theorem f216_call (x0 x1:Value) (K:K1) (w:World) (h:f216_t x0 x1 K w):callS prog 216 #[x0,x1] w K:=
 call_of_txt (args:= [x0,x1]) mixed Tryz.func216 f216_u.2 kR (cast kR h)
end Go.Proofs.YtmpehclnnjgmcaaGreatDoor
namespace Go.Proofs.YtmpehclnnjgmcaaGreatDoor
def nibN (i:Nat):Nat:=([0,274646895,549293790,820201905,1098587580,1361435347,1640403810,1905808397,2197175160,2460548119,2722870694,2987750089,3280807620,3553878443,3811616794,4084100981]:List Nat).getD i 0
def bs (c:Nat):Nat:=if c%2=1 then (c/2)^^^2197175160 else c/2
def bsN:Nat→Nat→Nat
 |0,c=>c
 |n+1,c=>bsN n (bs c)
def nb (c:Nat):Nat:=(c/16)^^^nibN (c%16)
def stepN (r b:Nat):Nat:=nb (nb (r^^^b))
def sumL (l:List Nat):Nat:=4294967295^^^(l.foldl stepN (4294967295^^^0))
def sumN (x:Nat):Nat:=bsN 32 (4294967295^^^x)^^^4294967295
def sealN (x:Nat):Nat:=sumN x*4294967296+x
theorem div2_xor (a b:Nat):(a^^^b)/2=a/2^^^b/2:=by
 have:=Nat.shiftRight_xor_distrib (a:=a) (b:=b) (i:=1)
 simpa [Nat.shiftRight_succ] using this
theorem mod2_xor (a b:Nat):(a^^^b)%2=(a%2+b%2)%2:=by
 have h:=Nat.testBit_xor a b 0
 simp only [Nat.testBit_zero] at h
 have ha:=Nat.mod_two_eq_zero_or_one a
 have hb:=Nat.mod_two_eq_zero_or_one b
 have hc:=Nat.mod_two_eq_zero_or_one (a^^^b)
 rcases ha with ha|ha<;>rcases hb with hb|hb<;>rcases hc with hc|hc<;>simp [ha,hb,hc] at h ⊢
theorem bs_xor (a b:Nat):bs (a^^^b)=bs a^^^bs b:=by
 have ha:=Nat.mod_two_eq_zero_or_one a
 have hb:=Nat.mod_two_eq_zero_or_one b
 unfold bs
 rw [mod2_xor,div2_xor]
 rcases ha with ha|ha<;>rcases hb with hb|hb<;>simp [ha,hb]
 ·rw [Nat.xor_assoc]
 ·rw [Nat.xor_assoc,Nat.xor_assoc,Nat.xor_comm (b/2)]
 ·rw [Nat.xor_assoc,←Nat.xor_assoc 2197175160,Nat.xor_comm 2197175160,Nat.xor_assoc,Nat.xor_self,Nat.xor_zero]
theorem bsN_xor:∀(n a b:Nat),bsN n (a^^^b)=bsN n a^^^bsN n b:=by
 intro n
 induction n with
 |zero=>intro a b;rfl
 |succ n ih=>intro a b;simp only [bsN,bs_xor,ih]
theorem bs_two (q:Nat):bs (2*q)=q:=by unfold bs;rw [if_neg (by omega)];omega
theorem bsN_shift:∀(n q:Nat),bsN n (2^n*q)=q:=by
 intro n
 induction n with
 |zero=>intro q;simp [bsN]
 |succ n ih=>
  intro q
  simp only [bsN]
  rw [show 2^(n+1)*q=2*(2^n*q) by rw [Nat.pow_succ];ac_rfl,bs_two,ih]
theorem bsN_add:∀(m n c:Nat),bsN (m+n) c=bsN n (bsN m c):=by
 intro m
 induction m with
 |zero=>intro n c;simp [bsN]
 |succ m ih=>intro n c;rw [show m+1+n=(m+n)+1 by omega];simp only [bsN,ih]
theorem nib_table (r:Nat) (h:r<16):bsN 4 r=nibN r:=by
 have:∀r:Fin 16,bsN 4 r.1=nibN r.1:=by decide
 exact this ⟨r,h⟩
theorem split_xor (k c:Nat):c=(2^k*(c/2^k))^^^(c%2^k):=by
 apply Nat.eq_of_testBit_eq
 intro i
 rw [Nat.testBit_xor,Nat.testBit_two_pow_mul,Nat.testBit_mod_two_pow]
 by_cases h:i<k
 ·simp [h,Nat.not_le.2 h]
 ·have h':k≤i:=by omega
  simp only [h,h',decide_true,decide_false,Bool.true_and,Bool.false_and,Bool.xor_false]
  rw [Nat.testBit_div_two_pow]
  congr 1;omega
theorem nb_eq (c:Nat):nb c=bsN 4 c:=by
 have h:=split_xor 4 c
 conv=>rhs;rw [h]
 rw [bsN_xor,bsN_shift,nib_table _ (by omega)]
 rfl
theorem stepN_eq (r b:Nat):stepN r b=bsN 8 (r^^^b):=by
 unfold stepN;rw [nb_eq,nb_eq,←bsN_add 4 4]
theorem bsN_in (k y b:Nat):bsN k y^^^b=bsN k (y^^^(2^k*b)):=by rw [bsN_xor,bsN_shift]
theorem four_bytes (x:Nat) (h:x<4294967296):x=((x%256^^^(2^8*(x/256%256)))^^^(2^16*(x/65536%256)))^^^(2^24*(x/16777216%256)):=by
 have e1:=split_xor 8 (x%2^16)
 have e2:=split_xor 16 (x%2^24)
 have e3:=split_xor 24 x
 rw [show x%2^16/2^8=x/256%256 by omega,show x%2^16%2^8=x%256 by omega] at e1
 rw [show x%2^24/2^16=x/65536%256 by omega,show x%2^24%2^16=x%2^16 by omega] at e2
 rw [show x/2^24=x/16777216%256 by omega] at e3
 conv=>lhs;rw [e3,e2,e1]
 rw [Nat.xor_comm,Nat.xor_comm (2^16*_),Nat.xor_comm (2^8*_)]
theorem sumL_bytes (x:Nat) (h:x<4294967296):sumL [x%256,x/256%256,x/65536%256,x/16777216%256]=sumN x:=by
 unfold sumL sumN
 simp only [List.foldl_cons,List.foldl_nil,stepN_eq,Nat.xor_zero]
 rw [bsN_in 8 (4294967295^^^x%256),←bsN_add 8 8,bsN_in (8+8) _ (x/65536%256),←bsN_add (8+8) 8,bsN_in (8+8+8) _ (x/16777216%256),←bsN_add (8+8+8) 8,Nat.xor_comm 4294967295 (bsN _ _)]
 congr 2
 conv=>rhs;rw [four_bytes x h]
 simp only [Nat.xor_assoc,Nat.reduceAdd]
theorem bs_lt (c:Nat) (h:c<4294967296):bs c<4294967296:=by
 unfold bs
 split
 ·exact Nat.xor_lt_two_pow (n:=32) (by omega) (by omega)
 ·omega
theorem bsN_lt:∀(n c:Nat),c<4294967296→bsN n c<4294967296:=by
 intro n
 induction n with
 |zero=>intro c h;exact h
 |succ n ih=>intro c h;exact ih _ (bs_lt c h)
theorem sumN_lt (x:Nat) (h:x<4294967296):sumN x<4294967296:=
 Nat.xor_lt_two_pow (n:=32) (bsN_lt 32 _ (Nat.xor_lt_two_pow (n:=32) (by omega) h)) (by omega)
theorem nibN_lt (i:Nat):nibN i<4294967296:=by
 by_cases h:i<16
 ·have:∀r:Fin 16,nibN r.1<4294967296:=by decide
  exact this ⟨i,h⟩
 ·unfold nibN
  rw [List.getD_eq_getElem?_getD,List.getElem?_eq_none (by simp;omega)]
  decide
theorem nb_lt (c:Nat) (h:c<4294967296):nb c<4294967296:=Nat.xor_lt_two_pow (n:=32) (by omega) (nibN_lt _)
theorem stepN_lt (r b:Nat) (h:r<4294967296) (hb:b<256):stepN r b<4294967296:=nb_lt _ (nb_lt _ (Nat.xor_lt_two_pow (n:=32) h (by omega)))
end Go.Proofs.YtmpehclnnjgmcaaGreatDoor
namespace Go.Proofs.YtmpehclnnjgmcaaGreatDoor
open Go Go.Sh
def payN (i:Nat):Int:=([3,7,15,31,60]:List Int).getD i 0
structure Glob (w:World):Prop where
 pay:∀i,i<5→w.cell? ⟨0,i,none⟩=some (.int .i64 (payN i))
 nib:∀i,i<16→w.cell? ⟨1,i,none⟩=some (.int .u32 (nibN i))
def wordsS (c:Int):Int:=if 0≤c∧c<5 then payN c.toNat else 0
theorem payN_bd (i:Nat) (h:i<5):3≤payN i∧payN i≤60:=by
 rcases i with _|_|_|_|_|i<;>first|(simp [payN];done)|omega
theorem wordsS_in {c:Int} (h0:0≤c) (h1:c<5):wordsS c=payN c.toNat∧3≤wordsS c∧wordsS c≤60:=by
 unfold wordsS;rw [if_pos ⟨h0,h1⟩];exact ⟨rfl,payN_bd _ (by omega)⟩
theorem wordsS_out {c:Int} (h:¬(0≤c∧c<5)):wordsS c=0:=by unfold wordsS;rw [if_neg h]
theorem c_start (off:Nat) (w:World) (K:K1) (h1:off<18446744073709551616):callS prog 171 #[.int .u64 off] w K=K (.int .u64 ((off-off%64:Nat):Int)) w:=by
 refine callS_det (by kernel_rfl) (f171_call _ _ _ ?_) K
 unfold f171_t
 simp (disch:=first|omega|simp only [RO]) only [↓RA,↓reduceIte,Nat.reduceAdd,Nat.reduceMul,Nat.reduceEqDiff,RB]
theorem c_Words (c:Int) (w:World) (K:K1) (hG:Glob w):callS prog 85 #[.int .i64 c] w K=K (.int .i64 (wordsS c)) w:=by
 refine callS_det (by kernel_rfl) (f85_call _ _ _ ?_) K
 unfold f85_t
 by_cases h0:c<0
 ·simp (disch:=first|omega|simp only [RO]) only [↓RA,↓reduceIte,Nat.reduceAdd,Nat.reduceMul,Nat.reduceEqDiff,RB,wordsS_out]
 ·by_cases h1:5≤c
  ·simp (disch:=first|omega|simp only [RO]) only [↓RA,↓reduceIte,Nat.reduceAdd,Nat.reduceMul,Nat.reduceEqDiff,RB,wordsS_out]
  ·simp (disch:=first|omega|simp only [RO]) only [↓RA,↓reduceIte,Nat.reduceAdd,Nat.reduceMul,Nat.reduceEqDiff,RB,hG.pay,(wordsS_in (c:=c) (by omega) (by omega)).1]
def perS (c:Int):Int:=if wordsS c=0 then 0 else 248/(wordsS c+1)
theorem c_PerChunk (c:Int) (w:World) (K:K1) (hG:Glob w):callS prog 135 #[.int .i64 c] w K=K (.int .i64 (perS c)) w:=by
 refine callS_det (by kernel_rfl) (f135_call _ _ _ ?_) K
 unfold f135_t
 by_cases h:0≤c∧c<5
 ·have hw:=wordsS_in h.1 h.2
  have e:perS c=248/(wordsS c+1):=by unfold perS;rw [if_neg (by omega)]
  simp (disch:=first|omega|simp only [RO]) only [↓RA,↓reduceIte,Nat.reduceAdd,Nat.reduceMul,Nat.reduceEqDiff,RB,c_Words c w _ hG,e]
 ·have hw:=wordsS_out h
  have e:perS c=0:=by unfold perS;rw [if_pos hw]
  simp (disch:=first|omega|simp only [RO]) only [↓RA,↓reduceIte,Nat.reduceAdd,Nat.reduceMul,Nat.reduceEqDiff,RB,c_Words c w _ hG,hw,e]
section
variable {w w':World} {Y:Lay} {D D':DS}
theorem c_Lines (h:Dv w Y D) (K:K1):callS prog 106 #[.pointer (some ⟨Y.d,0,none⟩)] w K=K (.int .i64 (D.n:Int)) w:=by
 refine callS_det (by kernel_rfl) (f106_call _ _ _ ?_) K
 unfold f106_t
 (repeat' (first|(with_reducible first|refine brS_mk (fun _=> ?_) (fun _=> ?_)|refine And.intro ?_ ?_)|(simp (disch:=try exact dZ) only [↓RBp,↓RA,↓reduceIte,Nat.reduceAdd,Nat.reduceMul,Nat.reduceEqDiff,RB,RX,RA2,h.R])))
theorem c_DSize (h:Dv w Y D) (g:Good D) (K:K1):callS prog 52 #[.pointer (some ⟨Y.d,0,none⟩)] w K=K (.int .u64 ((D.n*64:Nat):Int)) w:=by
 refine callS_det (by kernel_rfl) (f52_call _ _ _ ?_) K
 unfold f52_t
 have:=g.n
 (repeat' (first|(with_reducible first|refine brS_mk (fun _=> ?_) (fun _=> ?_)|refine And.intro ?_ ?_)|(simp (disch:=try exact dZ) only [↓RBp,↓RA,↓reduceIte,Nat.reduceAdd,Nat.reduceMul,Nat.reduceEqDiff,RB,RX,RA2,c_Lines h])))
def vOff (D:DS) (off:Nat):Bool:=decide (off%8=0)&&decide (off<D.n*64)
theorem c_word (h:Dv w Y D) (g:Good D) (id:Nat) (hid:id<8) (off:Nat) (K:K1):callS prog 87 #[.pointer (some ⟨Y.tb id,0,none⟩),.int .u64 (off:Int)] w K=K (.bool (vOff D off)) w:=by
 refine callS_det (by kernel_rfl) (f87_call _ _ _ _ ?_) K
 unfold f87_t vOff
 (repeat' (first|(with_reducible first|refine brS_mk (fun _=> ?_) (fun _=> ?_)|refine And.intro ?_ ?_)|(simp (disch:=try exact dZ) only [↓RBp,↓RA,↓reduceIte,Nat.reduceAdd,Nat.reduceMul,Nat.reduceEqDiff,RB,RX,RA2,h.R,c_DSize h g])))
theorem c_onOk (h:Dv w Y D) (id:Nat) (hid:id<8) (ho:D.off=false) (K:K1):callS prog 89 #[.pointer (some ⟨Y.tb id,0,none⟩),.bool true] w K=K (.bool true) w:=by
 refine callS_det (by kernel_rfl) (f89_call _ _ _ _ ?_) K
 unfold f89_t
 (repeat' (first|(with_reducible first|refine brS_mk (fun _=> ?_) (fun _=> ?_)|refine And.intro ?_ ?_)|(simp (disch:=try exact dZ) only [↓RBp,↓RA,↓reduceIte,Nat.reduceAdd,Nat.reduceMul,Nat.reduceEqDiff,RB,RX,RA2,h.R,ho])))
theorem c_Load (h:Dv w Y D) (g:Good D) (id:Nat) (hid:id<8) (ho:D.off=false) (off:Nat) (h1:off%8=0) (h2:off<D.n*64) (K:K1):callS prog 32 #[.pointer (some ⟨Y.tb id,0,none⟩),.int .u64 (off:Int)] w K=K (.int .u64 (D.cur (off/8):Int)) w:=by
 refine callS_det (by kernel_rfl) (f32_call _ _ _ _ ?_) K
 unfold f32_t
 have hv:vOff D off=true:=by simp [vOff,h1,h2]
 have:=g.n
 (repeat' (first|(with_reducible first|refine brS_mk (fun _=> ?_) (fun _=> ?_)|refine And.intro ?_ ?_)|(simp (disch:=try exact dZ) only [↓RBp,↓RA,↓reduceIte,Nat.reduceAdd,Nat.reduceMul,Nat.reduceEqDiff,RB,RX,RA2,h.R,c_word h g id hid,c_onOk h id hid ho,hv])))
theorem c_Err (h:Dv w Y D) (id:Nat) (hid:id<8) (K:K1):callS prog 28 #[.pointer (some ⟨Y.tb id,0,none⟩)] w K=K (.int .i64 (D.err id)) w:=by
 refine callS_det (by kernel_rfl) (f28_call _ _ _ ?_) K
 unfold f28_t
 (repeat' (first|(with_reducible first|refine brS_mk (fun _=> ?_) (fun _=> ?_)|refine And.intro ?_ ?_)|(simp (disch:=try exact dZ) only [↓RBp,↓RA,↓reduceIte,Nat.reduceAdd,Nat.reduceMul,Nat.reduceEqDiff,RB,RX,RA2,h.R])))
theorem c_TSize (h:Dv w Y D) (g:Good D) (id:Nat) (hid:id<8) (K:K1):callS prog 105 #[.pointer (some ⟨Y.tb id,0,none⟩)] w K=K (.int .u64 ((D.n*64:Nat):Int)) w:=by
 refine callS_det (by kernel_rfl) (f105_call _ _ _ ?_) K
 unfold f105_t
 (repeat' (first|(with_reducible first|refine brS_mk (fun _=> ?_) (fun _=> ?_)|refine And.intro ?_ ?_)|(simp (disch:=try exact dZ) only [↓RBp,↓RA,↓reduceIte,Nat.reduceAdd,Nat.reduceMul,Nat.reduceEqDiff,RB,RX,RA2,h.R,c_DSize h g])))
theorem c_Thread (h:Dv w Y D) (id:Nat) (hid:id<8) (K:K1):callS prog 50 #[.pointer (some ⟨Y.d,0,none⟩),.int .i64 (id:Int)] w K=K (.pointer (some ⟨Y.dt id,0,none⟩)) w:=by
 refine callS_det (by kernel_rfl) (f50_call _ _ _ _ ?_) K
 unfold f50_t
 have e:3+id-3=id:=by omega
 (repeat' (first|(with_reducible first|refine brS_mk (fun _=> ?_) (fun _=> ?_)|refine And.intro ?_ ?_)|(simp (disch:=try exact dZ) only [↓RBp,↓RA,↓reduceIte,Nat.reduceAdd,Nat.reduceMul,Nat.reduceEqDiff,RB,RX,RA2,h.R,e])))
end
theorem elWrite:ElT prog 79 79 98 2 16 (.agg #[.int .u64 0,.int .u64 0]):=⟨by kernel_rfl,by kernel_rfl,by kernel_rfl,by kernel_rfl,by decide⟩
theorem wrL_append (a b:List (Nat×Nat)):wrL (a++b)=wrL a++wrL b:=by
 induction a with
 |nil=>rfl
 |cons x a ih=>obtain ⟨o,v⟩:=x;simp [wrL,ih]
theorem wrL_length (a:List (Nat×Nat)):(wrL a).length=a.length*2:=by
 induction a with
 |nil=>rfl
 |cons x a ih=>obtain ⟨o,v⟩:=x;simp [wrL,ih];omega
def DS.write (D:DS) (off v:Nat):DS:={D with hist:=fun j=>if j=off/64 then D.hist (off/64)++ [(off,v)] else D.hist j,cur:=fun j=>if j=off/8 then v else D.cur j}
section
variable {w w':World} {Y:Lay} {D D':DS}
theorem k_write (h:Dv w Y D) (g:Good D) (id:Nat) (hid:id<8) (off v:Nat) (h1:off%8=0) (h2:off<D.n*64) (hx:D.exe<1099511627776) (K:K1) (hK:∀w' Y',Stp w Y w' Y' (D.write off v)→K (.tuple #[]) w'):callS prog 88 #[.pointer (some ⟨Y.tb id,0,none⟩),.int .u64 (off:Int),.int .u64 (v:Int)] w K:=by
 refine f88_call _ _ _ _ _ ?_
 unfold f88_t
 have:=g.n
 have hl:off/64<D.n:=by omega
 have hc:=g.cnt (off/64) hl
 simp (disch:=try exact dZ) only [↓RBp,↓RA,↓reduceIte,Nat.reduceAdd,Nat.reduceMul,Nat.reduceEqDiff,RB,RX,RA2,h.R]
 have h':=h.ext (Ext.alloc_self w (.cells #[.int .u64 (off:Int),.int .u64 (v:Int)] 98))
 refine blt_append elWrite (h'.hs _ hl) (news:= [u64 off,u64 v]) (by simp) ?_ rfl oM oM oM (fun v' w' hv hf hn _=> ?_)
 ·intro j u hj
  rw [Nat.zero_add,cell_new _ _ _ _ _ rfl];simpa [u64] using hj
 have hs:=h'.setHist (off/64) hl v' (D.hist (off/64)++ [(off,v)]) (by rw [wrL_append];simpa [wrL] using hv) hf hn
 have hli:=(h'.li.frm hf (fun e=>by have:=h'.inj (.hs (off/64)) .li Y.lb (by simp only [Lay.blk];rw [if_pos (by have:=h'.yn;omega)];exact e) rfl;cases this))
 have c1:=hli.cell (i:=off/64*2+1) oM
 have o1:isOne v'=true:=by rcases hv.2 with ⟨rfl,_⟩|⟨_,_,_,_,rfl,_⟩<;>rfl
 have c2:=hs.dv.c_cur (off/8) (by show off/8<8*D.n;omega)
 simp (disch:=try exact dZ) only [↓RBp,↓RA,↓reduceIte,Nat.reduceAdd,Nat.reduceMul,Nat.reduceEqDiff,RB,RX,RA2,c1,c2,hli.frz,o1,hs.dv.R]
 have hs2:=(Stp.pre (Ext.alloc_self w _) (fun b hb=>h.lt hb) hs).trans (hs.dv.setCur (off/8) v (by show off/8<8*D.n;omega))
 exact hK _ _ hs2
def DS.store (D:DS) (id off v:Nat):DS:=if D.runs (vOff D off)=true then (D.counted id (vOff D off)).write off v else D.counted id (vOff D off)
theorem DS.fail_n (D:DS) (id:Nat) (e:Int):(D.fail id e).n=D.n:=by unfold DS.fail;split<;>rfl
theorem DS.counted_run {D:DS} {id:Nat} {v:Bool} (h:D.runs v=true):D.counted id v=if D.armed=true then {D with left:=D.left-1,exe:=D.exe+1} else {D with exe:=D.exe+1}:=by
 simp only [DS.runs,Bool.and_eq_true,Bool.not_eq_true',Bool.and_eq_false_iff] at h
 obtain ⟨⟨h1,h2⟩,h3⟩:=h
 unfold DS.counted
 rw [if_neg (by simp [h1]),if_neg (by simp [h2])]
 by_cases ha:D.armed=true
 ·rw [if_pos ha,if_pos ha]
  have:¬D.left=0:=by rcases h3 with h3|h3<;>simp_all
  rw [if_neg this]
 ·rw [if_neg ha,if_neg ha]
theorem Good.fail (g:Good D) (id:Nat) (e:Int):Good (D.fail id e):=by
 unfold DS.fail
 split
 ·exact ⟨g.n0,g.n,g.cur,g.pers,g.hist,g.cnt,g.left,g.notes⟩
 ·exact g
theorem Good.counted (g:Good D) (id:Nat) (v:Bool):Good (D.counted id v):=by
 unfold DS.counted
 have hc:∀l,l<D.n→D.done l+(D.hist l).length≤D.exe+1:=fun l hl=>Nat.le_succ_of_le (g.cnt l hl)
 have hl:=g.left
 split
 ·exact g.fail _ _
 ·split
  ·exact g.fail _ _
  ·split
   ·split
    ·exact Good.fail (D:={D with off:=true}) ⟨g.n0,g.n,g.cur,g.pers,g.hist,g.cnt,g.left,g.notes⟩ _ _
    ·exact ⟨g.n0,g.n,g.cur,g.pers,g.hist,hc,⟨by show 0≤D.left-1;omega,by show D.left-1<_;omega⟩,g.notes⟩
   ·exact ⟨g.n0,g.n,g.cur,g.pers,g.hist,hc,g.left,g.notes⟩
theorem DS.counted_n (D:DS) (id:Nat) (v:Bool):(D.counted id v).n=D.n:=by
 unfold DS.counted
 split
 ·exact D.fail_n _ _
 ·split
  ·exact D.fail_n _ _
  ·split
   ·split
    ·exact DS.fail_n _ _ _
    ·rfl
   ·rfl
theorem DS.counted_exe (D:DS) (id:Nat) (v:Bool):(D.counted id v).exe≤D.exe+1:=by
 have hf:∀(D:DS) e,(D.fail id e).exe=D.exe:=by intro D e;unfold DS.fail;split<;>rfl
 unfold DS.counted
 split
 ·rw [hf];omega
 ·split
  ·rw [hf];omega
  ·split
   ·split
    ·rw [hf];show D.exe≤_;omega
    ·exact Nat.le_refl _
   ·exact Nat.le_refl _
theorem Good.write (g:Good D) (off v:Nat) (h1:off%8=0) (h2:off<D.n*64) (hv:v<18446744073709551616) (hc:∀l,l<D.n→D.done l+(D.hist l).length+1≤D.exe):Good (D.write off v):=by
 refine ⟨g.n0,g.n,?_,g.pers,?_,?_,g.left,?_⟩
 ·intro i hi
  show (if i=off/8 then v else D.cur i)<_
  split
  ·exact hv
  ·exact g.cur i hi
 ·intro l hl o x hx
  have hx':(o,x)∈(if l=off/64 then D.hist (off/64)++ [(off,v)] else D.hist l):=hx
  split at hx'
  ·rename_i e
   rcases List.mem_append.1 hx' with h|h
   ·have:=g.hist _ (by show off/64<D.n;omega) o x h;omega
   ·simp at h;obtain ⟨rfl,rfl⟩:=h;exact ⟨h1,e.symm,hv⟩
  ·exact g.hist l hl o x hx'
 ·intro l hl
  show D.done l+(if l=off/64 then D.hist (off/64)++ [(off,v)] else D.hist l).length≤D.exe
  have:=hc l hl
  split
  ·rename_i e;subst e;simp;omega
  ·omega
 ·intro id hid k p hk
  have:=g.notes id hid k p hk
  refine ⟨this.1,this.2.1,?_⟩
  show p≤D.done k.toNat+(if k.toNat=off/64 then D.hist (off/64)++ [(off,v)] else D.hist k.toNat).length
  split
  ·rename_i e;rw [←e];simp;omega
  ·exact this.2.2
theorem DS.counted_hist {D:DS} {id:Nat} {v:Bool} (h:D.runs v=true):(D.counted id v).hist=D.hist∧(D.counted id v).done=D.done∧(D.counted id v).exe=D.exe+1∧(D.counted id v).cur=D.cur∧(D.counted id v).pers=D.pers∧(D.counted id v).notes=D.notes∧(D.counted id v).off=D.off∧(D.counted id v).err=D.err:=by
 rw [DS.counted_run h];split<;>exact ⟨rfl,rfl,rfl,rfl,rfl,rfl,rfl,rfl⟩
theorem runs_v {D:DS} {v:Bool} (h:D.runs v=true):v=true∧D.off=false:=by
 simp only [DS.runs,Bool.and_eq_true,Bool.not_eq_true'] at h;exact ⟨h.1.2,h.1.1⟩
theorem vOff_iff {D:DS} {off:Nat} (h:vOff D off=true):off%8=0∧off<D.n*64:=by simpa [vOff] using h
theorem Good.store (g:Good D) (id off v:Nat) (hv:v<18446744073709551616):Good (D.store id off v):=by
 unfold DS.store
 split
 ·rename_i hr
  obtain ⟨h1,h2⟩:=vOff_iff (runs_v hr).1
  have:=DS.counted_hist (id:=id) hr
  refine (g.counted id _).write off v h1 (by rw [DS.counted_n];exact h2) hv ?_
  intro l hl
  rw [DS.counted_n] at hl
  rw [this.1,this.2.1,this.2.2.1]
  have:=g.cnt l hl
  omega
 ·exact g.counted id _
theorem k_Store (h:Dv w Y D) (g:Good D) (id:Nat) (hid:id<8) (off v:Nat) (hx:D.exe<1099511627775) (K:K1) (hK:∀w' Y',Stp w Y w' Y' (D.store id off v)→K (.tuple #[]) w'):callS prog 30 #[.pointer (some ⟨Y.tb id,0,none⟩),.int .u64 (off:Int),.int .u64 (v:Int)] w K:=by
 refine f30_call _ _ _ _ _ ?_
 unfold f30_t
 simp (disch:=try exact dZ) only [↓RBp,↓RA,↓reduceIte,Nat.reduceAdd,Nat.reduceMul,Nat.reduceEqDiff,RB,RX,RA2,h.R,c_word h g id hid]
 refine k_counted h id hid (vOff D off) oM g.left.1 g.left.2 _ (fun w1 h1=> ?_)
 unfold DS.store at hK
 (repeat' (first|(with_reducible first|refine brS_mk (fun _=> ?_) (fun _=> ?_)|refine And.intro ?_ ?_)|(simp (disch:=try exact dZ) only [↓RBp,↓RA,↓reduceIte,Nat.reduceAdd,Nat.reduceMul,Nat.reduceEqDiff,RB,RX,RA2])))
 ·rename_i hr
  rw [if_pos hr] at hK
  obtain ⟨e1,e2⟩:=vOff_iff (runs_v hr).1
  have hn:=DS.counted_hist (id:=id) hr
  refine k_write h1.dv (g.counted id _) id hid off v e1 (by rw [DS.counted_n];exact e2) (by rw [hn.2.2.1];omega) _ (fun w2 Y2 h2=> ?_)
  exact hK _ _ (h1.trans h2)
 ·rename_i hr
  rw [if_neg hr] at hK
  exact hK _ _ h1
end
def applyH (l:List (Nat×Nat)) (f:Nat→Nat):Nat→Nat:=l.foldl (fun f x=>fun j=>if j=x.1/8 then x.2 else f j) f
theorem applyH_snoc (l:List (Nat×Nat)) (x:Nat×Nat) (f:Nat→Nat):applyH (l++ [x]) f=fun j=>if j=x.1/8 then x.2 else applyH l f j:=by simp [applyH,List.foldl_append]
theorem wrL_get:∀(l:List (Nat×Nat)) (i:Nat) (x:Nat×Nat),l[i]? =some x→(wrL l)[i*2]? =some (.int .u64 (x.1:Int))∧(wrL l)[i*2+1]? =some (.int .u64 (x.2:Int)):=by
 intro l
 induction l with
 |nil=>intro i x h;simp at h
 |cons y l ih=>
  intro i x h
  obtain ⟨o,v⟩:=y
  cases i with
  |zero=>simp at h;subst h;exact ⟨rfl,rfl⟩
  |succ i=>
   have:=ih i x (by simpa using h)
   simp only [wrL,show (i+1)*2=i*2+1+1 by omega,List.getElem?_cons_succ]
   exact this
theorem take_snoc' {α:Type} {l:List α} {k:Nat} {x:α} (h:l[k]? =some x):l.take (k+1)=l.take k++ [x]:=by
 have hk:=(List.getElem?_eq_some_iff.1 h).1
 rw [List.take_succ_eq_append_getElem hk];congr 2;simpa [List.getElem?_eq_getElem hk] using h
section
variable {w w':World} {Y:Lay} {D D':DS}
theorem k_apply (h:Dv w Y D) (g:Good D) (l k b o len cap:Nat) (hl:l<D.n) (hv:Y.hv l= .slice (some ⟨b,o,none⟩) len cap) (hk:k≤(D.hist l).length) (hk':(D.hist l).length<1099511627776) (K:K1) (hK:∀w',Stp w Y w' Y {D with pers:=applyH ((D.hist l).take k) D.pers}→Frm (fun b=>b=Y.pb) w w'→K (.tuple #[]) w'):
  callS prog 150 #[.slice (some ⟨Y.pb,0,none⟩) (8*D.n) Y.pc,.slice (some ⟨b,o,none⟩) k cap] w K:=by
 refine f150_call _ _ _ _ ?_
 unfold f150_t
 simp (disch:=try exact dZ) only [↓RBp,↓RA,↓reduceIte,Nat.reduceAdd,Nat.reduceMul,Nat.reduceEqDiff,RB,RX,RA2]
 apply f150_l1_rule (I:=fun x8 w'=>∃j:Nat,x8= .int .i64 (j:Int)∧j≤k∧Stp w Y w' Y {D with pers:=applyH ((D.hist l).take j) D.pers}∧Frm (fun b=>b=Y.pb) w w') (μ:=fun x8 _=>k-(intOf x8).toNat)
 ·exact ⟨0,rfl,by omega,Stp.refl h,Frm.refl _ _⟩
 ·intros;rename_i w1 hI E1 hE
  obtain ⟨j,rfl,hj,hs,hfr⟩:=hI
  unfold f150_l1_t
  have hn:=g.n
  by_cases hjk:j<k
  ·have hjl:j<(D.hist l).length:=by omega
   obtain ⟨x,hx⟩:∃x,(D.hist l)[j]? =some x:=⟨_,List.getElem?_eq_getElem hjl⟩
   have hw:=wrL_get _ _ _ hx
   have hS:=hs.dv.hs l hl
   have c1:=hS.cell hv hw.1
   have c2:=hS.cell hv hw.2
   have hg:=g.hist l hl x.1 x.2 (List.mem_of_getElem? hx)
   have bp:=hs.dv.pe.lt
   have c3:=hs.dv.c_pers (x.1/8) (by show _<8*D.n;omega)
   rw [←Nat.add_assoc] at c2
   simp (disch:=try exact dZ) only [↓RBp,↓RA,↓reduceIte,Nat.reduceAdd,Nat.reduceMul,Nat.reduceEqDiff,RB,RX,RA2,hs.dv.R,c1,c2,c3]
   apply hE
   ·refine ⟨j+1,by simp,by omega,?_,(hfr.set _ (fun _=>rfl)).alloc _⟩
    rw [take_snoc' hx,applyH_snoc]
    exact (hs.trans (hs.dv.setPers (x.1/8) x.2 (by show _<8*D.n;omega))).grow (Ext.alloc_self _ _)
   ·simp [intOf];omega
  ·have:j=k:=by omega
   subst this
   simp (disch:=try exact dZ) only [↓RBp,↓RA,↓reduceIte,Nat.reduceAdd,Nat.reduceMul,Nat.reduceEqDiff,RB,RX,RA2]
   exact hK _ hs hfr
def DS.persist (D:DS) (l k:Nat):DS:={D with pers:=applyH ((D.hist l).take k) D.pers,done:=fun j=>if j=l then D.done l+k else D.done j,hist:=fun j=>if j=l then (D.hist l).drop k else D.hist j}
theorem wrL_drop (k:Nat) (l:List (Nat×Nat)):wrL (l.drop k)=(wrL l).drop (k*2):=by
 induction k generalizing l with
 |zero=>simp
 |succ k ih=>
  cases l with
  |nil=>simp [wrL]
  |cons x l=>obtain ⟨o,v⟩:=x;simp only [List.drop_succ_cons,ih,wrL,show (k+1)*2=k*2+1+1 by omega]
theorem k_persist (h:Dv w Y D) (g:Good D) (l k:Nat) (hl:l<D.n) (h0:0<k) (hk:k≤(D.hist l).length) (hx:D.exe<1099511627776) (K:K1) (hK:∀w' Y',Stp w Y w' Y' (D.persist l k)→Frm (fun b=>b=Y.pb∨b=Y.lb) w w'→K (.tuple #[]) w'):
  callS prog 147 #[.pointer (some ⟨Y.d,0,none⟩),.int .i64 (l:Int),.int .i64 (k:Int)] w K:=by
 have hn:=g.n
 have hc:=g.cnt l hl
 have hS:=h.hs l hl
 obtain ⟨b,o,cap,hv,hcap⟩:=hS.isS (Nat.lt_of_lt_of_le h0 hk)
 have r1:=fun w k'=>rd_of_run (P:=prog) (run_hi elWrite b o (D.hist l).length cap .i64 k w oM) k'
 have r2:=fun w k'=>ev_of_run (P:=prog) (run_lo elWrite b o (D.hist l).length cap .i64 k w hk) k'
 have c1:=h.c_hist l hl
 rw [hv] at c1
 refine f147_call _ _ _ _ _ ?_
 unfold f147_t
 simp (disch:=try exact dZ) only [↓RBp,↓RA,↓reduceIte,Nat.reduceAdd,Nat.reduceMul,Nat.reduceEqDiff,RB,RX,RA2,h.R,hv,r1]
 have hd:=h.ext (Ext.refl w).drew
 refine k_apply hd g l k b o _ cap hl hv hk oM _ (fun w1 h1 hf1=> ?_)
 have hF1:Frm (fun b=>b=Y.pb∨b=Y.lb) w w1:=(Frm.of_ext (Ext.refl w).drew).trans (hf1.mono (fun b hb=> .inl hb)) (fun _ _ h=>h)
 have h1':=Stp.pre (Ext.refl w).drew (fun b hb=>h.lt hb) h1
 have c2:=h1'.dv.c_done l hl
 have c3:=h1'.dv.c_hist l hl
 rw [hv] at c3
 simp (disch:=try exact dZ) only [↓RBp,↓RA,↓reduceIte,Nat.reduceAdd,Nat.reduceMul,Nat.reduceEqDiff,RB,RX,RA2,h1'.dv.R,c2]
 have h2:=h1'.trans (h1'.dv.setDone l (D.done l+k) hl)
 have c4:=h2.dv.c_hist l hl
 have c4':=h2.dv.c_done l hl
 rw [hv] at c4
 simp (disch:=try exact dZ) only [↓RBp,↓RA,↓reduceIte,Nat.reduceAdd,Nat.reduceMul,Nat.reduceEqDiff,RB,RX,RA2,h2.dv.R,hv,r2]
 have hS2:=h2.dv.hs l hl
 rw [hv] at hS2
 have hd2:=hS2.drop (k:=k) hk
 have h3:=h2.trans (h2.dv.setHist l hl _ ((D.hist l).drop k) (by rw [wrL_drop,List.length_drop];exact hd2) (Frm.refl _ _) (fun b' hb'=> .inl (by rw [hv];exact hb')))
 have c5:=h3.dv.c_hist l hl
 simp only [if_true] at c5
 (repeat' (first|(with_reducible first|refine brS_mk (fun _=> ?_) (fun _=> ?_)|refine And.intro ?_ ?_)|(simp (disch:=try exact dZ) only [↓RBp,↓RA,↓reduceIte,Nat.reduceAdd,Nat.reduceMul,Nat.reduceEqDiff,RB,RX,RA2,h3.dv.R,c5])))
 ·rename_i e
  have e':(D.hist l).drop k= []:=List.eq_nil_of_length_eq_zero (by rw [List.length_drop];omega)
  have h4:=h3.trans (h3.dv.setHist l hl (.slice none 0 0) [] (SlO.nil _ _ _) (Frm.refl _ _) (fun b' hb'=>by cases hb'))
  refine hK _ _ (h4.to ?_) (((hF1.set _ (fun _=> .inr rfl)).set _ (fun _=> .inr rfl)).set _ (fun _=> .inr rfl))
  unfold DS.persist
  simp only [DS.mk.injEq,true_and,and_true]
  funext j
  by_cases hj:j=l
  ·simp [hj,e']
  ·simp [hj]
 ·refine hK _ _ (h3.to ?_) ((hF1.set _ (fun _=> .inr rfl)).set _ (fun _=> .inr rfl))
  unfold DS.persist
  simp only [DS.mk.injEq,true_and,and_true]
end
def DS.note (D:DS) (id:Nat) (k:Int) (p:Nat):DS:={D with notes:=fun j=>if j=id then (fun i=>if i=k then some p else D.notes id i) else D.notes j}
def fOff (D:DS) (off:Nat):Bool:=decide (off<D.n*64)
def DS.flush (D:DS) (id off:Nat):DS:=if D.runs (fOff D off)=true then (D.counted id (fOff D off)).note id ((off/64:Nat):Int) (D.done (off/64)+(D.hist (off/64)).length) else D.counted id (fOff D off)
theorem mapN:mapT prog 145=true:=by kernel_rfl
section
variable {w w':World} {Y:Lay} {D D':DS}
theorem Good.note (g:Good D) (id:Nat) (l p:Nat) (hl:l<D.n) (hp:p≤D.done l+(D.hist l).length):Good (D.note id (l:Int) p):=by
 refine ⟨g.n0,g.n,g.cur,g.pers,g.hist,g.cnt,g.left,?_⟩
 intro j hj k q hk
 have hk':(if j=id then (fun i=>if i=(l:Int) then some p else D.notes id i) else D.notes j) k=some q:=hk
 by_cases e1:j=id
 ·by_cases e2:k=(l:Int)
  ·simp only [e1,e2,if_true,Option.some.injEq] at hk'
   subst e2;subst hk'
   exact ⟨Int.natCast_nonneg _,by show (l:Int)<(D.n:Int);omega,by show p≤D.done (l:Int).toNat+(D.hist (l:Int).toNat).length;simpa using hp⟩
  ·simp only [e1,e2,if_true,if_false] at hk'
   subst e1;exact g.notes j hj k q hk'
 ·simp only [e1,if_false] at hk'
  exact g.notes j hj k q hk'
theorem Good.flush (g:Good D) (id off:Nat):Good (D.flush id off):=by
 unfold DS.flush
 split
 ·rename_i hr
  have hv:=(runs_v hr).1
  have hn:=DS.counted_hist (id:=id) hr
  simp only [fOff,decide_eq_true_eq] at hv
  refine (g.counted id _).note id _ _ (by rw [DS.counted_n];omega) ?_
  rw [hn.1,hn.2.1];exact Nat.le_refl _
 ·exact g.counted id _
theorem k_Flush (h:Dv w Y D) (g:Good D) (id:Nat) (hid:id<8) (off:Nat) (hx:D.exe<1099511627775) (K:K1) (hK:∀w',Stp w Y w' Y (D.flush id off)→K (.tuple #[]) w'):callS prog 101 #[.pointer (some ⟨Y.tb id,0,none⟩),.int .u64 (off:Int)] w K:=by
 refine f101_call _ _ _ _ ?_
 unfold f101_t
 unfold DS.flush at hK
 have hn:=g.n
 simp (disch:=try exact dZ) only [↓RBp,↓RA,↓reduceIte,Nat.reduceAdd,Nat.reduceMul,Nat.reduceEqDiff,RB,RX,RA2,h.R,c_DSize h g]
 refine k_counted h id hid (fOff D off) oM g.left.1 g.left.2 _ (fun w1 h1=> ?_)
 by_cases hr:D.runs (fOff D off)=true
 ·rw [if_pos hr] at hK
  have hv:=(runs_v hr).1
  simp only [fOff,decide_eq_true_eq] at hv
  have hc:=DS.counted_hist (id:=id) hr
  have hcn:=DS.counted_n D id (fOff D off)
  have hcl:=g.cnt (off/64) oM
  have hl:off/64<(D.counted id (fOff D off)).n:=by rw [hcn];omega
  have c1:=h1.dv.c_done (off/64) hl
  have hS:=h1.dv.hs (off/64) hl
  have c2:=h1.dv.c_hist (off/64) hl
  have ln:∃a cap,Y.hv (off/64)= .slice a (D.hist (off/64)).length cap:=by
   rw [hc.1] at hS
   rcases hS.2 with ⟨e,e2⟩|⟨b,o,cap,a,e,_⟩
   ·rw [e,e2];exact ⟨_,_,rfl⟩
   ·exact ⟨_,_,e⟩
  obtain ⟨a,cap,hv2⟩:=ln
  rw [hc.2.1] at c1
  rw [hv2] at c2
  simp (disch:=try exact dZ) only [↓RBp,↓RA,↓reduceIte,Nat.reduceAdd,Nat.reduceMul,Nat.reduceEqDiff,RB,RX,RA2,hr,h1.dv.R,hcn,hc.2.1,hv2]
  obtain ⟨es,c,hm⟩:=h1.dv.nt id hid
  refine ac_mapUpdate mapN (hm.of_heap (w':=w1.drew) rfl) _ _ (fun w2 es2 c2 hm2 hf2=> ?_)
  have hfr:Frm (fun b=>b=Y.nb id) w1 w2:=⟨hf2.os,hf2.tape,hf2.output,hf2.size,hf2.block⟩
  have hm3:MapI w2 (Y.nb id) es2 c2 (fun i=>((if i=((off/64:Nat):Int) then some (D.done (off/64)+(D.hist (off/64)).length) else (D.counted id (fOff D off)).notes id i):Option Nat).map u64):=by
   refine ⟨hm2.1,hm2.2.1,hm2.2.2.1,hm2.2.2.2.1,hm2.2.2.2.2.1,?_⟩
   intro i v
   have:=hm2.2.2.2.2.2 i v
   rw [←this]
   show ((if i=((off/64:Nat):Int) then some (D.done (off/64)+(D.hist (off/64)).length) else (D.counted id (fOff D off)).notes id i):Option Nat).map u64=some v↔(if i=((off/64:Nat):Int) then some _ else ntF (D.counted id (fOff D off)) id i)=some v
   by_cases e:i=((off/64:Nat):Int)
   ·rw [if_pos e,if_pos e];exact Iff.rfl
   ·rw [if_neg e,if_neg e];exact Iff.rfl
  exact hK _ (h1.trans (h1.dv.setNote id hid _ hm3 hfr))
 ·rw [if_neg hr] at hK
  have hr':D.runs (fOff D off)=false:=by simpa using hr
  simp (disch:=try exact dZ) only [↓RBp,↓RA,↓reduceIte,Nat.reduceAdd,Nat.reduceMul,Nat.reduceEqDiff,RB,RX,RA2,hr']
  exact hK _ h1
def DS.parts (D:DS) (kk:Nat→Nat):DS:={D with pers:=fun x=>applyH ((D.hist (x/8)).take (kk (x/8))) D.pers x,done:=fun l=>D.done l+kk l,hist:=fun l=>(D.hist l).drop (kk l)}
theorem applyH_cons (x:Nat×Nat) (l:List (Nat×Nat)) (f:Nat→Nat):applyH (x::l) f=applyH l (fun j=>if j=x.1/8 then x.2 else f j):=rfl
theorem applyH_congr (l:List (Nat×Nat)):∀(f g:Nat→Nat) (x:Nat),f x=g x→applyH l f x=applyH l g x:=by
 induction l with
 |nil=>intro f g x h;exact h
 |cons y l ih=>
  intro f g x h
  rw [applyH_cons,applyH_cons]
  exact ih _ _ x (by simp [h])
theorem applyH_other (l:List (Nat×Nat)):∀(f:Nat→Nat) (x:Nat),(∀y∈l,y.1/8≠x)→applyH l f x=f x:=by
 induction l with
 |nil=>intro f x h;rfl
 |cons y l ih=>
  intro f x h
  rw [applyH_cons,ih _ x (fun z hz=>h z (List.mem_cons_of_mem _ hz))]
  have:=h y List.mem_cons_self
  simp [Ne.symm this]
theorem parts_persist (g:Good D) (kk:Nat→Nat) (l k:Nat) (hl:l<D.n) (h0:kk l=0):(D.parts kk).persist l k=D.parts (fun j=>if j=l then k else kk j):=by
 unfold DS.persist DS.parts
 simp only [DS.mk.injEq,true_and,and_true,h0,List.drop_zero,Nat.add_zero]
 refine ⟨?_,?_,?_⟩
 ·funext x
  by_cases hx:x/8=l
  ·simp only [hx,if_true]
   exact applyH_congr _ _ _ _ (by simp [hx,h0,applyH])
  ·simp only [hx,if_false]
   rw [applyH_other]
   intro y hy e
   have:=g.hist l hl y.1 y.2 (List.mem_of_mem_take hy)
   apply hx;omega
 ·funext j
  by_cases hj:j=l
  ·simp [hj]
  ·simp [hj]
 ·funext j
  by_cases hj:j=l
  ·simp [hj]
  ·simp [hj]
theorem applyH_lt (l:List (Nat×Nat)):∀(f:Nat→Nat) (x:Nat),f x<18446744073709551616→(∀y∈l,y.2<18446744073709551616)→applyH l f x<18446744073709551616:=by
 induction l with
 |nil=>intro f x h _;exact h
 |cons y l ih=>
  intro f x h hl
  rw [applyH_cons]
  refine ih _ x ?_ (fun z hz=>hl z (List.mem_cons_of_mem _ hz))
  have:=hl y List.mem_cons_self
  split
  ·exact this
  ·exact h
theorem Good.parts (g:Good D) (kk:Nat→Nat) (hk:∀l,l<D.n→kk l≤(D.hist l).length):Good (D.parts kk):=by
 refine ⟨g.n0,g.n,g.cur,?_,?_,?_,g.left,?_⟩
 ·intro i hi
  refine applyH_lt _ _ _ (g.pers i hi) ?_
  intro y hy
  exact (g.hist (i/8) (by show i/8<D.n;have:i<8*D.n:=hi;omega) y.1 y.2 (List.mem_of_mem_take hy)).2.2
 ·intro l hl o v hv
  exact g.hist l hl o v (List.mem_of_mem_drop hv)
 ·intro l hl
  have:=g.cnt l hl
  have h2:=hk l hl
  show D.done l+kk l+((D.hist l).drop (kk l)).length≤D.exe
  rw [List.length_drop];omega
 ·intro id hid k p hkp
  have:=g.notes id hid k p hkp
  refine ⟨this.1,this.2.1,?_⟩
  have h2:=hk k.toNat oM
  show p≤D.done k.toNat+kk k.toNat+((D.hist k.toNat).drop (kk k.toNat)).length
  rw [List.length_drop];omega
def DS.due (D:DS) (id l:Nat):Nat:=
 match D.notes id (l:Int) with
 |some p=>p-D.done l
 |none=>0
def DS.clr (D:DS) (id:Nat):DS:={D with notes:=fun j=>if j=id then (fun _=>none) else D.notes j}
def DS.fence (D:DS) (id:Nat):DS:=if D.runs true=true then ((D.counted id true).parts (D.due id)).clr id else D.counted id true
theorem due_le (g:Good D) (id l:Nat) (hid:id<8):D.due id l≤(D.hist l).length:=by
 unfold DS.due
 cases h:D.notes id (l:Int) with
 |none=>simp
 |some p=>have:=(g.notes id hid _ p h).2.2;simp at this;simp;omega
theorem Good.clr (g:Good D) (id:Nat):Good (D.clr id):=by
 refine ⟨g.n0,g.n,g.cur,g.pers,g.hist,g.cnt,g.left,?_⟩
 intro j hj k p hk
 have hk':(if j=id then (fun _=>none) else D.notes j) k=some p:=hk
 by_cases e:j=id
 ·simp [e] at hk'
 ·simp only [e,if_false] at hk';exact g.notes j hj k p hk'
theorem Good.fence (g:Good D) (id:Nat) (hid:id<8):Good (D.fence id):=by
 unfold DS.fence
 split
 ·rename_i hr
  have hn:=DS.counted_hist (id:=id) hr
  refine ((g.counted id _).parts _ ?_).clr id
  intro l hl
  rw [hn.1];exact due_le g id l hid
 ·exact g.counted id _
def leftN (es:Array MapEntry) (seen:Array Nat):Nat:=(es.toList.filter fun x=> !seen.contains x.born).length
theorem filter_lt {α:Type} {p q:α→Bool}:∀{l:List α},(∀x,q x=true→p x=true)→∀{x:α},x∈l→p x=true→q x=false→(l.filter q).length<(l.filter p).length:=by
 intro l
 induction l with
 |nil=>intro _ x hx;cases hx
 |cons a l ih=>
  intro hpq x hx hp hq
  have hle:(l.filter q).length≤(l.filter p).length:=by
   clear ih hx
   induction l with
   |nil=>simp
   |cons b l ih=>
    simp only [List.filter_cons]
    cases hb:q b with
    |true=>rw [hpq b hb];simp;exact ih
    |false=>cases p b<;>simp<;>omega
  simp only [List.filter_cons]
  cases hx with
  |head=>rw [hp,hq];simp;omega
  |tail _ hx=>
   have:=ih hpq hx hp hq
   cases ha:q a with
   |true=>rw [hpq a ha];simp;exact this
   |false=>cases p a<;>simp<;>omega
theorem leftN_lt {es:Array MapEntry} {seen:Array Nat} {x:MapEntry} (hx:x∈es.toList) (hs:x.born∉seen):leftN es (seen.push x.born)<leftN es seen:=by
 refine filter_lt ?_ hx (by simpa using hs) (by simp)
 intro y hy
 simp at hy ⊢
 intro h;exact hy.1 h
def itN (it:Nat) (es:Array MapEntry) (w:World):Nat:=
 match w.heap[it]? with
 |some (.mapIter _ _ seen _)=>leftN es seen
 |_=>0
theorem k_Fence (h:Dv w Y D) (g:Good D) (id:Nat) (hid:id<8) (hx:D.exe<1099511627775) (K:K1) (hK:∀w' Y',Stp w Y w' Y' (D.fence id)→K (.tuple #[]) w'):callS prog 102 #[.pointer (some ⟨Y.tb id,0,none⟩)] w K:=by
 refine f102_call _ _ _ ?_
 unfold f102_t
 unfold DS.fence at hK
 simp (disch:=try exact dZ) only [↓RBp,↓RA,↓reduceIte,Nat.reduceAdd,Nat.reduceMul,Nat.reduceEqDiff,RB,RX,RA2,h.R]
 refine k_counted h id hid true oM g.left.1 g.left.2 _ (fun w1 h1=> ?_)
 by_cases hr:D.runs true=true
 ·rw [if_pos hr] at hK
  have hc:=DS.counted_hist (id:=id) hr
  have hcn:=DS.counted_n D id true
  have gc:=g.counted id true
  have hexe:(D.counted id true).exe<1099511627776:=by rw [hc.2.2.1];omega
  have hdue:∀l,l<(D.counted id true).n→D.due id l≤((D.counted id true).hist l).length:=fun l hl=>by rw [hc.1];exact due_le g id l hid
  generalize hC:D.counted id true=C at*
  obtain ⟨es,clk,hm⟩:=h1.dv.nt id hid
  have r1:=ev_range mapN hm.1
  simp (disch:=try exact dZ) only [↓RBp,↓RA,↓reduceIte,Nat.reduceAdd,Nat.reduceMul,Nat.reduceEqDiff,RB,RX,RA2,hr,h1.dv.R,r1]
  obtain ⟨it,hit⟩:∃it,it=w1.heap.size:=⟨_,rfl⟩
  rw [←hit]
  have hborn:=hm.2.1
  have hnd:=hm.2.2.1
  have hkeys:=hm.2.2.2.2.1
  have hlk:=hm.2.2.2.2.2
  have hknd:=hm.2.2.2.1
  apply f102_l1_rule (I:=fun w'=>∃seen last kk Y',w'.heap[it]? =some (.mapIter (some (Y.nb id)) clk seen last)∧clk≤last∧Stp w Y w' Y' (C.parts kk)∧¬Y'.F it∧w'.heap[Y.nb id]? =some (.map es clk)∧it<w'.heap.size∧(∀l,l<C.n→kk l≤(C.hist l).length)∧
   (∀x∈es.toList,∀l:Nat,x.key= .int .i64 (l:Int)→(x.born∈seen→kk l=D.due id l)∧(x.born∉seen→kk l=0))∧(∀l:Nat,(∀x∈es.toList,x.key≠ .int .i64 (l:Int))→kk l=0)) (μ:=fun w'=>itN it es w')
  ·subst hit
   refine ⟨#[],clk,fun _=>0,Y,heap_alloc_eq _ _,Nat.le_refl _,(h1.grow (Ext.alloc_self _ _)).to ?_,fun hF=> ?_,?_,?_,fun l hl=>Nat.zero_le _,fun x hx l hk=>⟨fun hb=>by simp at hb,fun _=>rfl⟩,fun l hl=>rfl⟩
   ·unfold DS.parts;simp [applyH]
   ·have:=h1.dv.lt hF;omega
   ·rw [heap_alloc_lt _ hm.lt];exact hm.1
   ·rw [size_alloc];omega
  ·intros;rename_i w2 hI E1 hE
   obtain ⟨seen,last,kk,Y',hit2,hle,hs,hnF,hmap,hitlt,hkk,hin,hout⟩:=hI
   obtain ⟨hv',rfl⟩:∃hv',Y'={Y with hv:=hv'}:=⟨_,hs.y⟩
   unfold f102_l1_t
   refine ev_next hit2 hmap hborn hle ?_ ?_
   ·intro hall w3 he
    have h3:=hs.grow he
    have hmap3:=Ext.heap_some he hmap
    have r2:=fun ty cs k=>blt_clear (ty:=ty) (cs:=cs) mapN hmap3 k
    simp (disch:=try exact dZ) only [↓RBp,↓RA,↓reduceIte,Nat.reduceAdd,Nat.reduceMul,Nat.reduceEqDiff,RB,RX,RA2,f102_k1_eq,f102_k1_t,h3.dv.R,r2]
    have hkd:kk=D.due id:=by
     funext l
     by_cases hx:∃x∈es.toList,x.key= .int .i64 (l:Int)
     ·obtain ⟨x,hx,hk⟩:=hx
      exact (hin x hx l hk).1 (hall x hx)
     ·rw [hout l (fun x hx' hk=>hx ⟨x,hx',hk⟩)]
      unfold DS.due
      cases hn:D.notes id (l:Int) with
      |none=>rfl
      |some p=>
       exfalso;apply hx
       have:=(hlk (l:Int) (u64 p)).1 (by simp [ntF,hc.2.2.2.2.2.1,hn])
       obtain ⟨x,hx,hk,_⟩:=this
       exact ⟨x,hx,hk⟩
    rw [hkd] at h3
    have hme:MapI (putO w3 (Y.nb id) (.map #[] clk)) (Y.nb id) #[] clk (fun i=>((fun _=>none:Int→Option Nat) i).map u64):=MapI.empty (putO_eq hmap3)
    exact hK _ _ (h3.trans (h3.dv.setNote id hid (fun _=>none) hme putO_frm))
   ·intro x hx hns w3 hit3 hsz hf3
    obtain ⟨i,hki⟩:=hkeys x hx
    have hval:(C.notes id i).map u64=some x.val:=(hlk i x.val).2 ⟨x,hx,hki,rfl⟩
    have hval2:∃p,C.notes id i=some p∧u64 p=x.val:=Option.map_eq_some_iff.1 hval
    obtain ⟨p,hp,hxv⟩:=hval2
    have hgn:=gc.notes id hid i p hp
    have hil:∃l:Nat,i=(l:Int):=⟨i.toNat,(Int.toNat_of_nonneg hgn.1).symm⟩
    obtain ⟨l,hil⟩:=hil
    rw [hil] at hki hp hgn
    have hl:l<C.n:=Int.ofNat_lt.1 hgn.2.1
    have hk0:kk l=0:=(hin x hx l hki).2 hns
    have hitw:w.heap.size≤it:=by rw [hit];exact h1.frm.size
    have hdv3:Dv w3 {Y with hv:=hv'} (C.parts kk):=hs.dv.frm hf3 (fun b hb e=>hnF (by rw [←e];exact hb))
    have h3:Stp w Y w3 {Y with hv:=hv'} (C.parts kk):=⟨hdv3,rfl,hs.frm.trans hf3 (fun b hb e=>absurd (e▸hb) (Nat.not_lt.2 hitw)),hs.fr⟩
    have hnb:Y.nb id≠it:=fun e=>hnF ⟨.nt id,by simp [Lay.blk,hid,e]⟩
    have hmap3:w3.heap[Y.nb id]? =some (.map es clk):=by rw [hf3.block _ (lt_of_heap hmap) hnb];exact hmap
    have r2:=fun k=>ev_entry (P:=prog) hit3 hmap3 hnd hx rfl k
    have hd:(C.parts kk).done l=C.done l:=by simp [DS.parts,hk0]
    have hn4:=gc.n
    have hcl:=gc.cnt l hl
    have hp':p≤C.done l+(C.hist l).length:=by simpa using hgn.2.2
    have hnn:(C.parts kk).n=C.n:=rfl
    have c1:=hdv3.c_done l hl
    rw [hd] at c1
    have hdue1:D.due id l=p-C.done l:=by
     have hp2:=hp
     rw [hc.2.2.2.2.2.1] at hp2
     unfold DS.due;rw [hp2,hc.2.1]
    have hh1:((C.parts kk).hist l).length=(C.hist l).length:=by simp [DS.parts,hk0]
    have hit3lt:it<w3.heap.size:=by rw [hsz];exact hitlt
    have hit0:itN it es w2=leftN es seen:=by unfold itN;rw [hit2]
    have hin':∀y∈es.toList,∀q:Nat,y.key= .int .i64 (q:Int)→∀kk':Nat→Nat,kk' l=D.due id l→(∀j,j≠l→kk' j=kk j)→(y.born∈seen.push x.born→kk' q=D.due id q)∧(y.born∉seen.push x.born→kk' q=0):=by
     intro y hy q hq kk' e1 e2
     by_cases hql:q=l
     ·subst hql
      refine ⟨fun _=>e1,fun hn=> ?_⟩
      exfalso;apply hn
      have hyx:y=x:=by
       have h5:=List.mem_iff_getElem?.1 hy
       have h6:=List.mem_iff_getElem?.1 hx
       obtain ⟨a,ha⟩:=h5
       obtain ⟨b,hb⟩:=h6
       have h7:(es.toList.map (·.key))[a]? =some (.int .i64 (q:Int)):=by rw [List.getElem?_map,ha,Option.map_some,hq]
       have h8:(es.toList.map (·.key))[b]? =some (.int .i64 (q:Int)):=by rw [List.getElem?_map,hb,Option.map_some,hki]
       have h9:a=b:=(List.getElem?_inj (by rw [List.length_map];exact (List.getElem?_eq_some_iff.1 ha).1) hknd).1 (h7.trans h8.symm)
       rw [h9,hb] at ha
       injection ha with ha
       exact ha.symm
      rw [hyx];simp
     ·rw [e2 q hql]
      have h5:=hin y hy q hq
      have hne:y.born≠x.born:=by
       intro e
       have h10:=List.mem_iff_getElem?.1 hy
       have h11:=List.mem_iff_getElem?.1 hx
       obtain ⟨a,ha⟩:=h10
       obtain ⟨b,hb⟩:=h11
       have h7:(es.toList.map (·.born))[a]? =some x.born:=by rw [List.getElem?_map,ha,Option.map_some,e]
       have h8:(es.toList.map (·.born))[b]? =some x.born:=by rw [List.getElem?_map,hb,Option.map_some]
       have h9:a=b:=(List.getElem?_inj (by rw [List.length_map];exact (List.getElem?_eq_some_iff.1 ha).1) hnd).1 (h7.trans h8.symm)
       rw [h9,hb] at ha
       injection ha with ha
       rw [←ha,hki] at hq
       injection hq with _ hq
       exact hql (Int.ofNat_inj.1 hq).symm
      refine ⟨fun hb=>h5.1 ?_,fun hb=>h5.2 (fun h6=>hb ?_)⟩
      ·rcases Array.mem_push.1 hb with h6|h6
       ·exact h6
       ·exact absurd h6 hne
      ·exact Array.mem_push.2 (.inl h6)
    have hout':∀q:Nat,(∀y∈es.toList,y.key≠ .int .i64 (q:Int))→q≠l:=fun q hq e=>hq x hx (by rw [hki,e])
    by_cases hpd:C.done l<p
    ·simp (disch:=try exact dZ) only [↓RBp,↓RA,↓reduceIte,Nat.reduceAdd,Nat.reduceMul,Nat.reduceEqDiff,RB,RX,RA2,r2,hki,←hxv,hdv3.R,hnn,hd]
     refine k_persist hdv3 (gc.parts kk hkk) l (p-C.done l) hl (by clear hE;omega) (by rw [hh1];clear hE;omega) (show C.exe<_ from hexe) _ (fun w4 Y4 h4 hf4=> ?_)
     have hnb4:¬(Y.nb id=Y.pb∨Y.nb id=Y.lb):=by
      rintro (e|e)
      ·have:=h.inj (.nt id) .pe (Y.nb id) (by simp [Lay.blk,hid]) (by rw [e];rfl);cases this
      ·have:=h.inj (.nt id) .li (Y.nb id) (by simp [Lay.blk,hid]) (by rw [e];rfl);cases this
     have hit4:w4.heap[it]? =some (.mapIter (some (Y.nb id)) clk (seen.push x.born) clk):=by rw [h4.frm.block it hit3lt hnF];exact hit3
     apply hE
     ·refine ⟨seen.push x.born,clk,fun j=>if j=l then p-C.done l else kk j,Y4,hit4,Nat.le_refl _,?_,?_,?_,?_,?_,?_,?_⟩
      ·rw [←parts_persist gc kk l _ hl hk0];exact h3.trans h4
      ·intro hF
       rcases h4.fr it hF with h5|h5
       ·exact hnF h5
       ·exact absurd hit3lt (Nat.not_lt.2 h5)
      ·rw [hf4.block _ (lt_of_heap hmap3) hnb4];exact hmap3
      ·exact Nat.lt_of_lt_of_le hit3lt h4.frm.size
      ·intro q hq
       show (if q=l then p-C.done l else kk q)≤_
       by_cases e:q=l
       ·rw [if_pos e,e];clear hE;omega
       ·rw [if_neg e];exact hkk q hq
      ·intro y hy q hq
       exact hin' y hy q hq (fun j=>if j=l then p-C.done l else kk j) ((if_pos rfl).trans hdue1.symm) (fun j hj=>if_neg hj)
      ·intro q hq
       show (if q=l then p-C.done l else kk q)=0
       rw [if_neg (hout' q hq)];exact hout q hq
     ·show itN it es w4<itN it es w2
      rw [hit0];unfold itN;rw [hit4];exact leftN_lt hx hns
    ·simp (disch:=try exact dZ) only [↓RBp,↓RA,↓reduceIte,Nat.reduceAdd,Nat.reduceMul,Nat.reduceEqDiff,RB,RX,RA2,r2,hki,←hxv,hdv3.R,hnn,hd]
     apply hE
     ·refine ⟨seen.push x.born,clk,kk,_,hit3,Nat.le_refl _,h3,hnF,hmap3,hit3lt,hkk,?_,hout⟩
      intro y hy q hq
      exact hin' y hy q hq kk (by rw [hk0,hdue1];clear hE;omega) (fun j hj=>rfl)
     ·show itN it es w3<itN it es w2
      rw [hit0];unfold itN;rw [hit3];exact leftN_lt hx hns
 ·rw [if_neg hr] at hK
  have hr':D.runs true=false:=by simpa using hr
  simp (disch:=try exact dZ) only [↓RBp,↓RA,↓reduceIte,Nat.reduceAdd,Nat.reduceMul,Nat.reduceEqDiff,RB,RX,RA2,hr']
  exact hK _ _ h1
end
noncomputable def f99_u:Code×Dec:=((Tryz.f99.body).getD .skip,(.s .o (.s .o (.x 2 (.s .o (.b (.l [16] 49154 16711744 .o))) .o))))
abbrev f99_e (K:K1):KF:=endK prog Tryz.f99.results.toList K
def f99_k1_o (K:K1):KF:=fun fr w=>∀σ,cP (pr (pr (pr f99_u))) (f99_e K) (f99_e K) nX (mixF 2 σ 0 fr) w
def f99_k1 (K:K1) (x1:Value) (w:World):Prop:=f99_k1_o K (fz 26 0 [(1,x1)]) w
def f99_l1 (K:K1) (x1 x14 x15 x16:Value) (w:World):Prop:=loopT [16] 49154 (fun E=>cP (pl (pl (pr (pl (pr (pr f99_u)))))) E (f99_e K) (exB 0 (f99_k1_o K) nX)) (fz 26 0 [(1,x1),(14,x14),(15,x15),(16,x16)]) w
def f99_k1_t (x1:Value) (K:K1) (w:World):Prop:=
 invS prog x1 "Err" (pA #[]) w fun a w=>
 K a w
theorem f99_k1_eq (K:K1) (x1:Value) (w:World):f99_k1 K x1 w=f99_k1_t x1 K w:=cutE fun σ=>by kernel_rfl
def f99_l1_t (x1 x14 x15 x16:Value) (K:K1) (E1:VP1) (w:World):Prop:=
 bT .lss 3 16 15 x16 x15 w fun a w=>
 cndS a (
 iA 120 x14 x16 w fun b w=>
 lD 220 b w fun c w=>
 ev prog (Instr.alloc 220 true (.tuple #[])) w fun d w=>
 sD 220 d c w fun w=>
 lD 220 d w fun e w=>
 cL 146 (pA #[e,x1]) w fun f w=>
 bC .add 3 16 1 x16 w fun g w=>
 E1 g w) (
 f99_k1 K x1 w)
theorem f99_l1_rule (x1 x14 x15 x16:Value) (K:K1) (w:World) (I:VP1) (μ:Value→World→Nat) (h0:I x16 w)
  (hr:∀(x16:Value) (w:World),I x16 w→∀E1:VP1,(∀(y16:Value) (w':World),I y16 w'→μ y16 w'<μ x16 w→E1 y16 w')→f99_l1_t x1 x14 x15 x16 K E1 w):f99_l1 K x1 x14 x15 x16 w:=
 ⟨I,μ,h0,fun σ w hI E hE=>cast kR (hr (σ 16) w hI E hE)⟩
def f99_t (x0 x1:Value) (K:K1) (w:World):Prop:=
 bM .eql 106 (.tmp 7) (.const .nilIface) x1 .nilIface w fun a w=>
 gV a false x0 w fun b w=>
 gC a false 145 (pA #[b]) w fun c w=>
 gd a false (fun k=>ev prog (Op.unary .not c) w k) w fun d w=>
 pickS a (.bool true) d w fun e w=>
 cndS e (
 K (.int .i64 1) w) (
 lN 120 x0 w fun f w=>
 f99_l1 K x1 x0 f (.int .i64 0) w)
theorem f99_call (x0 x1:Value) (K:K1) (w:World) (h:f99_t x0 x1 K w):callS prog 99 #[x0,x1] w K:=
 call_of_txt (args:= [x0,x1]) mixed Tryz.func99 f99_u.2 kR (cast kR h)
noncomputable def f118_u:Code×Dec:=((Tryz.f118.body).getD .skip,(.s .o (.s .o (.s .o (.s .o (.x 73 (.s .o (.b (.l [6,33] 4294967433 36028788429031232 .o))) (.x 73 (.s .o (.b (.l [6,11] 9 295111876382333864000 .o))) .o)))))))
abbrev f118_e (K:K1):KF:=endK prog Tryz.f118.results.toList K
def f118_k1_o (K:K1):KF:=fun fr w=>∀σ,cP (pr (pr (pr (pr (pr f118_u))))) (f118_e K) (f118_e K) nX (mixF 73 σ 0 fr) w
def f118_k1 (K:K1) (x0 x3 x6:Value) (w:World):Prop:=f118_k1_o K (fz 79 0 [(0,x0),(3,x3),(6,x6)]) w
def f118_l1 (K:K1) (x0 x3 x6 x7 x32 x33:Value) (w:World):Prop:=loopT [6,33] 4294967433 (fun E=>cP (pl (pl (pr (pl (pr (pr (pr (pr f118_u)))))))) E (f118_e K) (exB 0 (f118_k1_o K) nX)) (fz 79 0 [(0,x0),(3,x3),(6,x6),(7,x7),(32,x32),(33,x33)]) w
def f118_k2_o (K:K1):KF:=fun fr w=>∀σ,cP (pr (pr (pr (pr (pr (pr f118_u)))))) (f118_e K) (f118_e K) nX (mixF 73 σ 0 fr) w
def f118_k2 (K:K1) (x0 x3 x6:Value) (w:World):Prop:=f118_k2_o K (fz 79 0 [(0,x0),(3,x3),(6,x6)]) w
def f118_l2 (K:K1) (x0 x3 x6 x11:Value) (w:World):Prop:=loopT [6,11] 9 (fun E=>cP (pl (pl (pr (pl (pr (pr (pr (pr (pr f118_u))))))))) E (f118_e K) (exB 2 (f118_k2_o K) nX)) (fz 79 0 [(0,x0),(3,x3),(6,x6),(11,x11)]) w
def f118_k1_t (x0 x3 x6:Value) (K:K1) (w:World):Prop:=
 f118_l2 K x0 x3 x6 (.int .u64 ((1:Nat):Int)) w
theorem f118_k1_eq (K:K1) (x0 x3 x6:Value) (w:World):f118_k1 K x0 x3 x6 w=f118_k1_t x0 x3 x6 K w:=cutE fun σ=>by kernel_rfl
def f118_l1_t (x0 x3 x6 x7 x32 x33:Value) (K:K1) (E1:VP2) (w:World):Prop:=
 bT .lss 3 33 32 x33 x32 w fun a w=>
 cndS a (
 fA 132 x3 0 w fun b w=>
 lD 3 b w fun c w=>
 cL 161 (pA #[c,x33]) w fun d w=>
 eX d 0 w fun e w=>
 eX d 1 w fun f w=>
 cL 162 (pA #[x0]) w fun g w=>
 cV 3 26 e w fun h w=>
 bU .mul 26 47 .u64 8 h w fun i w=>
 bT .add 26 45 48 g i w fun j w=>
 ev prog (Instr.build 98 #[(0,j),(1,x7)]) w fun l w=>
 ev prog (Instr.buildSlice 79 1 #[(0,l)]) w fun m w=>
 bltS prog .append #[79,79] 79 #[false,false] (pA #[x6,m]) w fun n w=>
 bC .add 3 33 1 x33 w fun o w=>
 E1 n o w) (
 f118_k1 K x0 x3 x6 w)
theorem f118_l1_rule (x0 x3 x6 x7 x32 x33:Value) (K:K1) (w:World) (I:VP2) (μ:Value→Value→World→Nat) (h0:I x6 x33 w)
  (hr:∀(x6 x33:Value) (w:World),I x6 x33 w→∀E1:VP2,(∀(y6 y33:Value) (w':World),I y6 y33 w'→μ y6 y33 w'<μ x6 x33 w→E1 y6 y33 w')→f118_l1_t x0 x3 x6 x7 x32 x33 K E1 w):f118_l1 K x0 x3 x6 x7 x32 x33 w:=
 ⟨I,μ,h0,fun σ w hI E hE=>cast kR (hr (σ 6) (σ 33) w hI E hE)⟩
def f118_k2_t (x0 x3 x6:Value) (K:K1) (w:World):Prop:=
 lR 132 x3 w.drew fun a=>
 cL 162 (pA #[x0]) w.drew fun b w=>
 (lG 132 x3 w a)∧
 cL 163 (pA #[a]) w fun c w=>
 rd prog (Instr.build 98 #[(0,b),(1,c)]) w fun d=>
 ev prog (Instr.buildSlice 79 1 #[(0,d)]) w fun e w=>
 cL 123 (pA #[e]) w fun f w=>
 cL 123 (pA #[x6]) w fun g w=>
 cL 119 (pA #[g,f]) w fun h w=>
 K (.tuple #[h,(.int .i64 0)]) w
theorem f118_k2_eq (K:K1) (x0 x3 x6:Value) (w:World):f118_k2 K x0 x3 x6 w=f118_k2_t x0 x3 x6 K w:=cutE fun σ=>by kernel_rfl
def f118_l2_t (x0 x3 x6 x11:Value) (K:K1) (E1:VP2) (w:World):Prop:=
 bU .lss 26 55 .u64 8 x11 w fun a w=>
 cndS a (
 cL 162 (pA #[x0]) w fun b w=>
 bU .mul 26 62 .u64 8 x11 w fun c w=>
 bT .add 26 61 63 b c w fun d w=>
 ev prog (Instr.build 98 #[(0,d)]) w fun e w=>
 ev prog (Instr.buildSlice 79 1 #[(0,e)]) w fun f w=>
 bltS prog .append #[79,79] 79 #[false,false] (pA #[x6,f]) w fun g w=>
 bU .add 26 57 .u64 1 x11 w fun h w=>
 E1 g h w) (
 f118_k2 K x0 x3 x6 w)
theorem f118_l2_rule (x0 x3 x6 x11:Value) (K:K1) (w:World) (I:VP2) (μ:Value→Value→World→Nat) (h0:I x6 x11 w)
  (hr:∀(x6 x11:Value) (w:World),I x6 x11 w→∀E1:VP2,(∀(y6 y11:Value) (w':World),I y6 y11 w'→μ y6 y11 w'<μ x6 x11 w→E1 y6 y11 w')→f118_l2_t x0 x3 x6 x11 K E1 w):f118_l2 K x0 x3 x6 x11 w:=
 ⟨I,μ,h0,fun σ w hI E hE=>cast kR (hr (σ 6) (σ 11) w hI E hE)⟩
def f118_t (x0 x1:Value) (K:K1) (w:World):Prop:=
 ev prog (Instr.box 132 x1) w fun a w=>
 cL 158 (pA #[x0]) w fun b w=>
 ev prog (Op.unary .not b) w fun c w=>
 gd c false (fun k=>lD 132 a w k) w fun d w=>
 gC c false 159 (pA #[d]) w fun e w=>
 gd c false (fun k=>ev prog (Op.unary .not e) w k) w fun f w=>
 pickS c (.bool true) f w fun g w=>
 gd g false (fun k=>fA 132 a 2 w k) w fun h w=>
 gd g false (fun k=>lD 130 h w k) w fun i w=>
 gd g false (fun k=>bU .eql 130 23 .u16 0 i w k) w fun j w=>
 pickS g (.bool true) j w fun l w=>
 cndS l (
 K (.tuple #[(.slice none 0 0),(.int .i64 1)]) w) (
 fA 132 a 2 w fun m w=>
 lD 130 m w fun n w=>
 ev prog (Instr.build 200 #[(0,n),(2,(.int .u8 ((176:Nat):Int)))]) w fun o w=>
 cL 160 (pA #[o]) w fun p w=>
 fA 132 a 0 w fun q w=>
 lD 3 q w fun s w=>
 cL 135 (pA #[s]) w fun t w=>
 f118_l1 K x0 a (.slice none 0 0) p t (.int .i64 0) w)
theorem f118_call (x0 x1:Value) (K:K1) (w:World) (h:f118_t x0 x1 K w):callS prog 118 #[x0,x1] w K:=
 call_of_txt (args:= [x0,x1]) mixed Tryz.func118 f118_u.2 kR (cast kR h)
def f119_t (x0 x1:Value) (K:K1) (w:World):Prop:=
 ev prog (Instr.buildSlice 254 2 #[(0,x0),(1,x1)]) w fun a w=>
 cL 164 (pA #[a]) w fun b w=>
 K b w
theorem f119_call (x0 x1:Value) (K:K1) (w:World) (h:f119_t x0 x1 K w):callS prog 119 #[x0,x1] w K:=
 call_of_txt (args:= [x0,x1]) mixed Tryz.func119 .o kR (cast kR h)
noncomputable def f123_u:Code×Dec:=((Tryz.f123.body).getD .skip,(.s .o (.s .o (.s .o (.s .o (.x 24 (.s .o (.b (.l [3,4,17] 98304 68719345752 .o))) (.s .o (.x 8 (.s .o (.b (.l [3,41] 1649267441664 2249600790429960 .o))) .o))))))))
abbrev f123_e (K:K1):KF:=endK prog Tryz.f123.results.toList K
def f123_k1_o (K:K1):KF:=fun fr w=>∀σ,cP (pr (pr (pr (pr (pr f123_u))))) (f123_e K) (f123_e K) nX (mixF 24 σ 0 fr) w
def f123_k1 (K:K1) (x3 x4:Value) (w:World):Prop:=f123_k1_o K (fz 55 0 [(3,x3),(4,x4)]) w
def f123_l1 (K:K1) (x3 x4 x15 x16 x17:Value) (w:World):Prop:=loopT [3,4,17] 98304 (fun E=>cP (pl (pl (pr (pl (pr (pr (pr (pr f123_u)))))))) E (f123_e K) (exB 0 (f123_k1_o K) nX)) (fz 55 0 [(3,x3),(4,x4),(15,x15),(16,x16),(17,x17)]) w
def f123_k2_o (K:K1):KF:=fun fr w=>∀σ,cP (pr (pr (pr (pr (pr (pr (pr f123_u))))))) (f123_e K) (f123_e K) nX (mixF 8 σ 0 fr) w
def f123_k2 (K:K1) (x3:Value) (w:World):Prop:=f123_k2_o K (fz 55 0 [(3,x3)]) w
def f123_l2 (K:K1) (x3 x39 x40 x41:Value) (w:World):Prop:=loopT [3,41] 1649267441664 (fun E=>cP (pl (pl (pr (pl (pr (pr (pr (pr (pr (pr f123_u)))))))))) E (f123_e K) (exB 2 (f123_k2_o K) nX)) (fz 55 0 [(3,x3),(39,x39),(40,x40),(41,x41)]) w
def f123_k1_t (x3 x4:Value) (K:K1) (w:World):Prop:=
 cL 172 (pA #[x4]) w fun a w=>
 cL 173 (pA #[x4]) w fun b w=>
 lN 58 b w fun c w=>
 f123_l2 K x3 b c (.int .i64 0) w
theorem f123_k1_eq (K:K1) (x3 x4:Value) (w:World):f123_k1 K x3 x4 w=f123_k1_t x3 x4 K w:=cutE fun σ=>by kernel_rfl
def f123_l1_t (x3 x4 x15 x16 x17:Value) (K:K1) (E1:VP3) (w:World):Prop:=
 bT .lss 3 17 16 x17 x16 w fun a w=>
 cndS a (
 iA 79 x15 x17 w fun b w=>
 lD 98 b w fun c w=>
 ev prog (Instr.alloc 98 true (.tuple #[])) w fun d w=>
 sD 98 d c w fun w=>
 fA 98 d 0 w fun e w=>
 lD 26 e w fun f w=>
 fA 98 d 1 w fun g w=>
 lD 26 g w fun h w=>
 ev prog (Instr.build 220 #[(0,(.int .u8 ((1:Nat):Int))),(1,f),(2,h)]) w fun i w=>
 ev prog (Instr.buildSlice 120 1 #[(0,i)]) w fun j w=>
 bltS prog .append #[120,120] 120 #[false,false] (pA #[x3,j]) w fun l w=>
 fA 98 d 0 w fun m w=>
 lD 26 m w fun n w=>
 cL 171 (pA #[n]) w fun o w=>
 ev prog (Instr.buildSlice 58 1 #[(0,o)]) w fun p w=>
 bltS prog .append #[58,58] 58 #[false,false] (pA #[x4,p]) w fun q w=>
 bC .add 3 17 1 x17 w fun s w=>
 E1 l q s w) (
 f123_k1 K x3 x4 w)
theorem f123_l1_rule (x3 x4 x15 x16 x17:Value) (K:K1) (w:World) (I:VP3) (μ:Value→Value→Value→World→Nat) (h0:I x3 x4 x17 w)
  (hr:∀(x3 x4 x17:Value) (w:World),I x3 x4 x17 w→∀E1:VP3,(∀(y3 y4 y17:Value) (w':World),I y3 y4 y17 w'→μ y3 y4 y17 w'<μ x3 x4 x17 w→E1 y3 y4 y17 w')→f123_l1_t x3 x4 x15 x16 x17 K E1 w):f123_l1 K x3 x4 x15 x16 x17 w:=
 ⟨I,μ,h0,fun σ w hI E hE=>cast kR (hr (σ 3) (σ 4) (σ 17) w hI E hE)⟩
def f123_k2_t (x3:Value) (K:K1) (w:World):Prop:=
 ev prog (Instr.build 220 #[(0,(.int .u8 ((3:Nat):Int)))]) w fun a w=>
 ev prog (Instr.buildSlice 120 1 #[(0,a)]) w fun b w=>
 bltS prog .append #[120,120] 120 #[false,false] (pA #[x3,b]) w fun c w=>
 K c w
theorem f123_k2_eq (K:K1) (x3:Value) (w:World):f123_k2 K x3 w=f123_k2_t x3 K w:=cutE fun σ=>by kernel_rfl
def f123_l2_t (x3 x39 x40 x41:Value) (K:K1) (E1:VP2) (w:World):Prop:=
 bT .lss 3 41 40 x41 x40 w fun a w=>
 cndS a (
 iA 58 x39 x41 w fun b w=>
 lD 26 b w fun c w=>
 ev prog (Instr.build 220 #[(0,(.int .u8 ((2:Nat):Int))),(1,c)]) w fun d w=>
 ev prog (Instr.buildSlice 120 1 #[(0,d)]) w fun e w=>
 bltS prog .append #[120,120] 120 #[false,false] (pA #[x3,e]) w fun f w=>
 bC .add 3 41 1 x41 w fun g w=>
 E1 f g w) (
 f123_k2 K x3 w)
theorem f123_l2_rule (x3 x39 x40 x41:Value) (K:K1) (w:World) (I:VP2) (μ:Value→Value→World→Nat) (h0:I x3 x41 w)
  (hr:∀(x3 x41:Value) (w:World),I x3 x41 w→∀E1:VP2,(∀(y3 y41:Value) (w':World),I y3 y41 w'→μ y3 y41 w'<μ x3 x41 w→E1 y3 y41 w')→f123_l2_t x3 x39 x40 x41 K E1 w):f123_l2 K x3 x39 x40 x41 w:=
 ⟨I,μ,h0,fun σ w hI E hE=>cast kR (hr (σ 3) (σ 41) w hI E hE)⟩
def f123_t (x0:Value) (K:K1) (w:World):Prop:=
 lN 79 x0 w fun a w=>
 bC .eql 3 10 0 a w fun b w=>
 cndS b (
 K (.slice none 0 0) w) (
 lN 79 x0 w fun c w=>
 ev prog (Instr.makeSlice 58 (.int .i64 0) c) w fun d w=>
 lN 79 x0 w fun e w=>
 f123_l1 K (.slice none 0 0) d x0 e (.int .i64 0) w)
theorem f123_call (x0:Value) (K:K1) (w:World) (h:f123_t x0 K w):callS prog 123 #[x0] w K:=
 call_of_txt (args:= [x0]) mixed Tryz.func123 f123_u.2 kR (cast kR h)
noncomputable def f145_u:Code×Dec:=((Tryz.f145.body).getD .skip,(.s .o (.x 0 (.s .o (.b (.l [7] 96 1048468 .o))) .o)))
abbrev f145_e (K:K1):KF:=endK prog Tryz.f145.results.toList K
def f145_k1_o (K:K1):KF:=fun fr w=>∀σ,cP (pr (pr f145_u)) (f145_e K) (f145_e K) nX (mixF 0 σ 0 fr) w
def f145_k1 (K:K1) (w:World):Prop:=f145_k1_o K (fz 20 0 []) w
def f145_l1 (K:K1) (x5 x6 x7:Value) (w:World):Prop:=loopT [7] 96 (fun E=>cP (pl (pl (pr (pl (pr f145_u))))) E (f145_e K) (exB 0 (f145_k1_o K) nX)) (fz 20 0 [(5,x5),(6,x6),(7,x7)]) w
def f145_k1_t (K:K1) (w:World):Prop:=
 K (.bool true) w
theorem f145_k1_eq (K:K1) (w:World):f145_k1 K w=f145_k1_t K w:=cutE fun σ=>by kernel_rfl
def f145_l1_t (x5 x6 x7:Value) (K:K1) (E1:VP1) (w:World):Prop:=
 bT .lss 3 7 6 x7 x6 w fun a w=>
 cndS a (
 iA 120 x5 x7 w fun b w=>
 lD 220 b w fun c w=>
 ev prog (Instr.alloc 220 true (.tuple #[])) w fun d w=>
 sD 220 d c w fun w=>
 fA 220 d 0 w fun e w=>
 lD 218 e w fun f w=>
 bU .lss 218 12 .u8 1 f w fun g w=>
 gd g false (fun k=>fA 220 d 0 w k) w fun h w=>
 gd g false (fun k=>lD 218 h w k) w fun i w=>
 gd g false (fun k=>bU .gtr 218 16 .u8 3 i w k) w fun j w=>
 pickS g (.bool true) j w fun l w=>
 cndS l (
 K (.bool false) w) (
 bC .add 3 7 1 x7 w fun m w=>
 E1 m w)) (
 f145_k1 K w)
theorem f145_l1_rule (x5 x6 x7:Value) (K:K1) (w:World) (I:VP1) (μ:Value→World→Nat) (h0:I x7 w)
  (hr:∀(x7:Value) (w:World),I x7 w→∀E1:VP1,(∀(y7:Value) (w':World),I y7 w'→μ y7 w'<μ x7 w→E1 y7 w')→f145_l1_t x5 x6 x7 K E1 w):f145_l1 K x5 x6 x7 w:=
 ⟨I,μ,h0,fun σ w hI E hE=>cast kR (hr (σ 7) w hI E hE)⟩
def f145_t (x0:Value) (K:K1) (w:World):Prop:=
 lN 120 x0 w fun a w=>
 f145_l1 K x0 a (.int .i64 0) w
theorem f145_call (x0:Value) (K:K1) (w:World) (h:f145_t x0 K w):callS prog 145 #[x0] w K:=
 call_of_txt (args:= [x0]) mixed Tryz.func145 f145_u.2 kR (cast kR h)
def f146_t (x0 x1:Value) (K:K1) (w:World):Prop:=
 ev prog (Instr.box 220 x0) w fun a w=>
 fA 220 a 0 w fun b w=>
 lD 218 b w fun c w=>
 bU .eql 218 5 .u8 1 c w fun d w=>
 cndS d (
 fA 220 a 1 w fun e w=>
 lD 26 e w fun f w=>
 fA 220 a 2 w fun g w=>
 lD 26 g w fun h w=>
 invS prog x1 "Store" (pA #[f,h]) w fun i w=>
 K (.tuple #[]) w) (
 bU .eql 218 5 .u8 2 c w fun j w=>
 cndS j (
 fA 220 a 1 w fun l w=>
 lD 26 l w fun m w=>
 invS prog x1 "Flush" (pA #[m]) w fun n w=>
 K (.tuple #[]) w) (
 bU .eql 218 5 .u8 3 c w fun o w=>
 cndS o (
 invS prog x1 "Fence" (pA #[]) w fun p w=>
 K (.tuple #[]) w) (
 K (.tuple #[]) w)))
theorem f146_call (x0 x1:Value) (K:K1) (w:World) (h:f146_t x0 x1 K w):callS prog 146 #[x0,x1] w K:=
 call_of_txt (args:= [x0,x1]) mixed Tryz.func146 .o kR (cast kR h)
def f155_t (x0 x1:Value) (K:K1) (w:World):Prop:=
 cL 158 (pA #[x0]) w fun a w=>
 ev prog (Op.unary .not a) w fun b w=>
 gV b false x1 w fun c w=>
 gd b false (fun k=>bU .eql 130 11 .u16 0 c w k) w fun d w=>
 pickS b (.bool true) d w fun e w=>
 cndS e (
 K (.tuple #[(.slice none 0 0),(.int .i64 1)]) w) (
 ev prog (Instr.build 132 #[(0,(.int .i64 (-1))),(1,(.int .i64 (-1))),(2,x1)]) w fun f w=>
 ev prog (Instr.alloc 132 true (.tuple #[])) w fun g w=>
 sD 132 g f w fun w=>
 lR 132 g w.drew fun h=>
 cL 162 (pA #[x0]) w.drew fun i w=>
 (lG 132 g w h)∧
 cL 163 (pA #[h]) w fun j w=>
 rd prog (Instr.build 98 #[(0,i),(1,j)]) w fun l=>
 ev prog (Instr.buildSlice 79 1 #[(0,l)]) w fun m w=>
 cL 123 (pA #[m]) w fun n w=>
 K (.tuple #[n,(.int .i64 0)]) w)
theorem f155_call (x0 x1:Value) (K:K1) (w:World) (h:f155_t x0 x1 K w):callS prog 155 #[x0,x1] w K:=
 call_of_txt (args:= [x0,x1]) mixed Tryz.func155 .o kR (cast kR h)
noncomputable def f164_u:Code×Dec:=((Tryz.f164.body).getD .skip,(.s .o (.s .o (.x 9 (.s .o (.b (.l [3,11] 1537 8386600 (.s .o (.s .o (.x 3593 .o .o)))))) (.s .o (.x 64 (.s .o (.b (.l [6,27] 100663296 34225520960 .o))) .o))))))
abbrev f164_e (K:K1):KF:=endK prog Tryz.f164.results.toList K
def f164_k1_o (K:K1):KF:=fun fr w=>∀σ,cP (pr (pr (pr f164_u))) (f164_e K) (f164_e K) nX (mixF 9 σ 0 fr) w
def f164_k1 (K:K1) (x0 x3:Value) (w:World):Prop:=f164_k1_o K (fz 36 0 [(0,x0),(3,x3)]) w
def f164_l1 (K:K1) (x0 x3 x9 x10 x11:Value) (w:World):Prop:=loopT [3,11] 1537 (fun E=>cP (pl (pl (pr (pl (pr (pr f164_u)))))) E (f164_e K) (exB 0 (f164_k1_o K) nX)) (fz 36 0 [(0,x0),(3,x3),(9,x9),(10,x10),(11,x11)]) w
def f164_k2_o (K:K1):KF:=fun fr w=>∀σ,cP (pr (pr (pr (pr (pr f164_u))))) (f164_e K) (f164_e K) nX (mixF 64 σ 0 fr) w
def f164_k2 (K:K1) (x6:Value) (w:World):Prop:=f164_k2_o K (fz 36 0 [(6,x6)]) w
def f164_l2 (K:K1) (x6 x25 x26 x27:Value) (w:World):Prop:=loopT [6,27] 100663296 (fun E=>cP (pl (pl (pr (pl (pr (pr (pr (pr f164_u)))))))) E (f164_e K) (exB 2 (f164_k2_o K) nX)) (fz 36 0 [(6,x6),(25,x25),(26,x26),(27,x27)]) w
def f164_k3_o (K:K1) (E1:VP2):KF:=fun fr w=>∀σ,cP (pr (pr (pr (pl (pl (pr (pl (pr (pr f164_u))))))))) (fun fr w=>E1 (sv fr 3) (sv fr 11) w) (f164_e K) (exB 0 (f164_k1_o K) nX) (mixF 3593 σ 0 fr) w
def f164_k3 (K:K1) (E1:VP2) (x0 x3 x9 x10 x11:Value) (w:World):Prop:=f164_k3_o K E1 (fz 36 0 [(0,x0),(3,x3),(9,x9),(10,x10),(11,x11)]) w
def f164_k1_t (x0 x3:Value) (K:K1) (w:World):Prop:=
 cL 186 (pA #[(.slice none 0 0),x3]) w fun a w=>
 lN 254 x0 w fun b w=>
 f164_l2 K a x0 b (.int .i64 0) w
theorem f164_k1_eq (K:K1) (x0 x3:Value) (w:World):f164_k1 K x0 x3 w=f164_k1_t x0 x3 K w:=cutE fun σ=>by kernel_rfl
def f164_l1_t (x0 x3 x9 x10 x11:Value) (K:K1) (E1:VP2) (w:World):Prop:=
 bT .lss 3 11 10 x11 x10 w fun a w=>
 cndS a (
 iA 254 x9 x11 w fun b w=>
 lD 120 b w fun c w=>
 lN 120 c w fun d w=>
 bT .add 3 15 17 x3 d w fun e w=>
 bC .lss 3 19 0 e w fun f w=>
 cndS f (
 ev prog (Instr.makeInterface 9 (.string {data:= #[108,101,110,32,111,117,116,32,111,102,32,114,97,110,103,101]})) w fun g w=>
 False) (
 f164_k3 K E1 x0 e x9 x10 x11 w)) (
 f164_k1 K x0 x3 w)
theorem f164_l1_rule (x0 x3 x9 x10 x11:Value) (K:K1) (w:World) (I:VP2) (μ:Value→Value→World→Nat) (h0:I x3 x11 w)
  (hr:∀(x3 x11:Value) (w:World),I x3 x11 w→∀E1:VP2,(∀(y3 y11:Value) (w':World),I y3 y11 w'→μ y3 y11 w'<μ x3 x11 w→E1 y3 y11 w')→f164_l1_t x0 x3 x9 x10 x11 K E1 w):f164_l1 K x0 x3 x9 x10 x11 w:=
 ⟨I,μ,h0,fun σ w hI E hE=>cast kR (hr (σ 3) (σ 11) w hI E hE)⟩
def f164_k2_t (x6:Value) (K:K1) (w:World):Prop:=
 K x6 w
theorem f164_k2_eq (K:K1) (x6:Value) (w:World):f164_k2 K x6 w=f164_k2_t x6 K w:=cutE fun σ=>by kernel_rfl
def f164_l2_t (x6 x25 x26 x27:Value) (K:K1) (E1:VP2) (w:World):Prop:=
 bT .lss 3 27 26 x27 x26 w fun a w=>
 cndS a (
 iA 254 x25 x27 w fun b w=>
 lD 120 b w fun c w=>
 bltS prog .append #[120,120] 120 #[false,false] (pA #[x6,c]) w fun d w=>
 bC .add 3 27 1 x27 w fun e w=>
 E1 d e w) (
 f164_k2 K x6 w)
theorem f164_l2_rule (x6 x25 x26 x27:Value) (K:K1) (w:World) (I:VP2) (μ:Value→Value→World→Nat) (h0:I x6 x27 w)
  (hr:∀(x6 x27:Value) (w:World),I x6 x27 w→∀E1:VP2,(∀(y6 y27:Value) (w':World),I y6 y27 w'→μ y6 y27 w'<μ x6 x27 w→E1 y6 y27 w')→f164_l2_t x6 x25 x26 x27 K E1 w):f164_l2 K x6 x25 x26 x27 w:=
 ⟨I,μ,h0,fun σ w hI E hE=>cast kR (hr (σ 6) (σ 27) w hI E hE)⟩
def f164_k3_t (x0 x3 x9 x10 x11:Value) (K:K1) (E1:VP2) (w:World):Prop:=
 bC .add 3 11 1 x11 w fun a w=>
 E1 x3 a w
theorem f164_k3_eq (K:K1) (E1:VP2) (x0 x3 x9 x10 x11:Value) (w:World):f164_k3 K E1 x0 x3 x9 x10 x11 w=f164_k3_t x0 x3 x9 x10 x11 K E1 w:=cutE fun σ=>by kernel_rfl
def f164_t (x0:Value) (K:K1) (w:World):Prop:=
 lN 254 x0 w fun a w=>
 f164_l1 K x0 (.int .i64 0) x0 a (.int .i64 0) w
theorem f164_call (x0:Value) (K:K1) (w:World) (h:f164_t x0 K w):callS prog 164 #[x0] w K:=
 call_of_txt (args:= [x0]) mixed Tryz.func164 f164_u.2 kR (cast kR h)
noncomputable def f173_u:Code×Dec:=((Tryz.f173.body).getD .skip,(.s .o (.s .o (.x 1 (.s .o (.b (.l [3] 1 1152921504606846012 (.s .o (.x 9 (.b (.s .o (.s (.s .o (.x 9 (.s .o (.b (.l [3,5] 17 18014397972611112 (.s .o (.x 57 .o .o))))) .o)) .o))) .o))))) .o))))
abbrev f173_e (K:K1):KF:=endK prog Tryz.f173.results.toList K
def f173_k1_o (K:K1):KF:=fun fr w=>∀σ,cP (pr (pr (pr f173_u))) (f173_e K) (f173_e K) nX (mixF 1 σ 0 fr) w
def f173_k1 (K:K1) (x0:Value) (w:World):Prop:=f173_k1_o K (fz 61 0 [(0,x0)]) w
def f173_l1 (K:K1) (x0 x3:Value) (w:World):Prop:=loopT [3] 1 (fun E=>cP (pl (pl (pr (pl (pr (pr f173_u)))))) E (f173_e K) (exB 0 (f173_k1_o K) nX)) (fz 61 0 [(0,x0),(3,x3)]) w
def f173_k2_o (K:K1) (E1:VP1):KF:=fun fr w=>∀σ,cP (pr (pr (pl (pl (pr (pl (pr (pr f173_u)))))))) (fun fr w=>E1 (sv fr 3) w) (f173_e K) (exB 0 (f173_k1_o K) nX) (mixF 9 σ 0 fr) w
def f173_k2 (K:K1) (E1:VP1) (x0 x3:Value) (w:World):Prop:=f173_k2_o K E1 (fz 61 0 [(0,x0),(3,x3)]) w
def f173_k3_o (K:K1) (E1:VP1):KF:=fun fr w=>∀σ,cP (pr (pr (pl (pr (pl (pl (pr (pl (pl (pr (pl (pr (pr f173_u))))))))))))) (f173_k2_o K E1) (f173_e K) (exB 1 (f173_k2_o K E1) (exB 0 (f173_k1_o K) nX)) (mixF 9 σ 0 fr) w
def f173_k3 (K:K1) (E1:VP1) (x0 x3:Value) (w:World):Prop:=f173_k3_o K E1 (fz 61 0 [(0,x0),(3,x3)]) w
def f173_l2 (K:K1) (E1:VP1) (x0 x3 x4 x5:Value) (w:World):Prop:=loopT [3,5] 17 (fun E=>cP (pl (pl (pr (pl (pr (pl (pr (pl (pl (pr (pl (pl (pr (pl (pr (pr f173_u)))))))))))))))) E (f173_e K) (exB 2 (f173_k3_o K E1) (exB 1 (f173_k2_o K E1) (exB 0 (f173_k1_o K) nX)))) (fz 61 0 [(0,x0),(3,x3),(4,x4),(5,x5)]) w
def f173_k4_o (K:K1) (E1:VP1) (E2:VP2):KF:=fun fr w=>∀σ,cP (pr (pr (pl (pl (pr (pl (pr (pl (pr (pl (pl (pr (pl (pl (pr (pl (pr (pr f173_u)))))))))))))))))) (fun fr w=>E2 (sv fr 3) (sv fr 5) w) (f173_e K) (exB 2 (f173_k3_o K E1) (exB 1 (f173_k2_o K E1) (exB 0 (f173_k1_o K) nX))) (mixF 57 σ 0 fr) w
def f173_k4 (K:K1) (E1:VP1) (E2:VP2) (x0 x3 x4 x5:Value) (w:World):Prop:=f173_k4_o K E1 E2 (fz 61 0 [(0,x0),(3,x3),(4,x4),(5,x5)]) w
def f173_k1_t (x0:Value) (K:K1) (w:World):Prop:=
 K x0 w
theorem f173_k1_eq (K:K1) (x0:Value) (w:World):f173_k1 K x0 w=f173_k1_t x0 K w:=cutE fun σ=>by kernel_rfl
def f173_l1_t (x0 x3:Value) (K:K1) (E1:VP1) (w:World):Prop:=
 lN 58 x0 w fun a w=>
 bT .lss 3 10 12 x3 a w fun b w=>
 cndS b (
 iR 58 x0 x3 w.drew fun c=>
 lR 26 c w.drew fun d=>
 rC .sub 3 21 1 x3 w.drew fun e=>
 iR 58 x0 e w.drew fun f=>
 lR 26 f w.drew fun g=>
 rT .eql 26 19 24 d g w.drew fun h=>
 cndS h (
 ev prog (Instr.sliceAt 58 x0 (some x3) none none) w.drew fun i w=>
 f173_l2 K E1 x0 x3 i (.int .i64 1) w) (
 f173_k2 K E1 x0 x3 w.drew)) (
 f173_k1 K x0 w)
theorem f173_l1_rule (x0 x3:Value) (K:K1) (w:World) (I:VP1) (μ:Value→World→Nat) (h0:I x3 w)
  (hr:∀(x3:Value) (w:World),I x3 w→∀E1:VP1,(∀(y3:Value) (w':World),I y3 w'→μ y3 w'<μ x3 w→E1 y3 w')→f173_l1_t x0 x3 K E1 w):f173_l1 K x0 x3 w:=
 ⟨I,μ,h0,fun σ w hI E hE=>cast kR (hr (σ 3) w hI E hE)⟩
def f173_k2_t (x0 x3:Value) (K:K1) (E1:VP1) (w:World):Prop:=
 bC .add 3 14 1 x3 w fun a w=>
 E1 a w
theorem f173_k2_eq (K:K1) (E1:VP1) (x0 x3:Value) (w:World):f173_k2 K E1 x0 x3 w=f173_k2_t x0 x3 K E1 w:=cutE fun σ=>by kernel_rfl
def f173_k3_t (x0 x3:Value) (K:K1) (E1:VP1) (w:World):Prop:=
 ev prog (Instr.sliceAt 58 x0 (some x3) none none) w fun a w=>
 bltS prog .clear #[58] 0 #[false] (pA #[a]) w fun _ w=>
 ev prog (Instr.sliceAt 58 x0 none (some x3) none) w fun b w=>
 K b w
theorem f173_k3_eq (K:K1) (E1:VP1) (x0 x3:Value) (w:World):f173_k3 K E1 x0 x3 w=f173_k3_t x0 x3 K E1 w:=cutE fun σ=>by kernel_rfl
def f173_l2_t (x0 x3 x4 x5:Value) (K:K1) (E1:VP1) (E2:VP2) (w:World):Prop:=
 lN 58 x4 w fun a w=>
 bT .lss 3 29 31 x5 a w fun b w=>
 cndS b (
 iR 58 x4 x5 w.drew fun c=>
 lR 26 c w.drew fun d=>
 rC .sub 3 40 1 x5 w.drew fun e=>
 iR 58 x4 e w.drew fun f=>
 lR 26 f w.drew fun g=>
 rT .neq 26 38 43 d g w.drew fun h=>
 cndS h (
 iA 58 x4 x5 w.drew fun i w=>
 lD 26 i w fun j w=>
 iA 58 x0 x3 w fun l w=>
 sD 26 l j w fun w=>
 bC .add 3 52 1 x3 w fun m w=>
 f173_k4 K E1 E2 x0 m x4 x5 w) (
 f173_k4 K E1 E2 x0 x3 x4 x5 w.drew)) (
 f173_k3 K E1 x0 x3 w)
theorem f173_l2_rule (x0 x3 x4 x5:Value) (K:K1) (E1:VP1) (w:World) (I:VP2) (μ:Value→Value→World→Nat) (h0:I x3 x5 w)
  (hr:∀(x3 x5:Value) (w:World),I x3 x5 w→∀E2:VP2,(∀(y3 y5:Value) (w':World),I y3 y5 w'→μ y3 y5 w'<μ x3 x5 w→E2 y3 y5 w')→f173_l2_t x0 x3 x4 x5 K E1 E2 w):f173_l2 K E1 x0 x3 x4 x5 w:=
 ⟨I,μ,h0,fun σ w hI E hE=>cast kR (hr (σ 3) (σ 5) w hI E hE)⟩
def f173_k4_t (x0 x3 x4 x5:Value) (K:K1) (E1:VP1) (E2:VP2) (w:World):Prop:=
 bC .add 3 33 1 x5 w fun a w=>
 E2 x3 a w
theorem f173_k4_eq (K:K1) (E1:VP1) (E2:VP2) (x0 x3 x4 x5:Value) (w:World):f173_k4 K E1 E2 x0 x3 x4 x5 w=f173_k4_t x0 x3 x4 x5 K E1 E2 w:=cutE fun σ=>by kernel_rfl
def f173_t (x0:Value) (K:K1) (w:World):Prop:=
 lN 58 x0 w fun a w=>
 bC .lss 3 7 2 a w fun b w=>
 cndS b (
 K x0 w) (
 f173_l1 K x0 (.int .i64 1) w)
theorem f173_call (x0:Value) (K:K1) (w:World) (h:f173_t x0 K w):callS prog 173 #[x0] w K:=
 call_of_txt (args:= [x0]) mixed Tryz.func173 f173_u.2 kR (cast kR h)
noncomputable def f186_u:Code×Dec:=((Tryz.f186.body).getD .skip,(.s .o (.x 3 .o (.x 1 .o .o))))
abbrev f186_e (K:K1):KF:=endK prog Tryz.f186.results.toList K
def f186_k1_o (K:K1):KF:=fun fr w=>∀σ,cP (pr (pr f186_u)) (f186_e K) (f186_e K) nX (mixF 3 σ 0 fr) w
def f186_k1 (K:K1) (x0 x1:Value) (w:World):Prop:=f186_k1_o K (fz 27 0 [(0,x0),(1,x1)]) w
def f186_k2_o (K:K1):KF:=fun fr w=>∀σ,cP (pr (pr (pr f186_u))) (f186_e K) (f186_e K) nX (mixF 1 σ 0 fr) w
def f186_k2 (K:K1) (x0:Value) (w:World):Prop:=f186_k2_o K (fz 27 0 [(0,x0)]) w
def f186_k1_t (x0 x1:Value) (K:K1) (w:World):Prop:=
 bltS prog .cap #[120] 3 #[false] (pA #[x0]) w fun a w=>
 lN 120 x0 w fun b w=>
 bT .sub 3 10 12 a b w fun c w=>
 bT .sub 3 8 13 x1 c w fun d w=>
 bC .gtr 3 15 0 d w fun e w=>
 cndS e (
 bltS prog .cap #[120] 3 #[false] (pA #[x0]) w fun f w=>
 ev prog (Instr.sliceAt 120 x0 none (some f) none) w fun g w=>
 bltS prog .append #[120,3] 120 #[false,false] (pA #[g,d]) w fun h w=>
 lN 120 x0 w fun i w=>
 ev prog (Instr.sliceAt 120 h none (some i) none) w fun j w=>
 f186_k2 K j w) (
 f186_k2 K x0 w)
theorem f186_k1_eq (K:K1) (x0 x1:Value) (w:World):f186_k1 K x0 x1 w=f186_k1_t x0 x1 K w:=cutE fun σ=>by kernel_rfl
def f186_k2_t (x0:Value) (K:K1) (w:World):Prop:=
 K x0 w
theorem f186_k2_eq (K:K1) (x0:Value) (w:World):f186_k2 K x0 w=f186_k2_t x0 K w:=cutE fun σ=>by kernel_rfl
def f186_t (x0 x1:Value) (K:K1) (w:World):Prop:=
 bC .lss 3 5 0 x1 w fun a w=>
 cndS a (
 ev prog (Instr.makeInterface 9 (.string {data:= #[99,97,110,110,111,116,32,98,101,32,110,101,103,97,116,105,118,101]})) w fun b w=>
 False) (
 f186_k1 K x0 x1 w)
theorem f186_call (x0 x1:Value) (K:K1) (w:World) (h:f186_t x0 x1 K w):callS prog 186 #[x0,x1] w K:=
 call_of_txt (args:= [x0,x1]) mixed Tryz.func186 f186_u.2 kR (cast kR h)
end Go.Proofs.YtmpehclnnjgmcaaGreatDoor
