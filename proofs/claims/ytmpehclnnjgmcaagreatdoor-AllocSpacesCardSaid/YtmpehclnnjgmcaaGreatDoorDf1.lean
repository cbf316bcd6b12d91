/-
  Part 1 of what the proofs of this seat share.
-/
import Derived.WalkKit
import Derived.RangeFuncLeaves
import Derived.TacticsIn
import Derived.OrdersIn
import Derived.Test.YtmpehclnnjgmcaaGreatDoorProg
import Derived.KernelRfl
import Derived.Below
import Derived.Laws.AppendOwn
import Derived.Laws.OwnMore
set_option linter.defProp false
set_option linter.unusedVariables false
set_option maxRecDepth 100000
set_option linter.defProp false
open Go.Proofs.Tryz (prog)
open And renaming intro->ab
open Array renaming getD_eq_getD_getElem?->aA,getElem?_eq_getElem->cN,getElem?_eq_none->c5,getElem?_modify->c6,getElem?_push->c8
open BitVec renaming toNat_xor->dd
open Bool renaming and_eq_true->av,false_eq_true->a9,not_eq_true'->bb,not_true->b7,or_eq_true->b9,false_and->cb,and_true->cj,not_false->cq,true_and->cw,false_or->cx,and_false->dv
open Go renaming Value->al,World->an
open Go.Builtin renaming len_->c4
open Go.Instr renaming buildSlice->aB,makeInterface->b8
open Go.Result renaming andThen_ok->ap
open Go.Sem renaming run_bind->ar,run_pure->bl,run_map->d8
open Int renaming toNat_natCast->bv,toNat_of_nonneg->bx,emod_eq_of_lt->cB,ofNat_inj->d2,ofNat_lt->d5,ofNat_le->d6,le_of_lt->d7
open List renaming getD_eq_getElem?_getD->a8,mem_cons_self->b0,size_toArray->b4,mem_cons_of_mem->b5,getElem?_toArray->b6,getElem?_eq_getElem->cc,getElem?_cons_zero->cg,getElem?_cons_succ->ch,length_cons->cm,getElem?_eq_none->cn,mapM_cons->cp,length_nil->cF,mem_range->cO,countP_append->dc,mapM_toArray->dj,mem_filter->dl,all_cons->d1
open Nat renaming eq_of_beq_eq_true->bd,add_zero->ca,lt_or_ge->co,zero_add->c7,le_refl->c9,zero_testBit->dk,testBit_and->dm,strongRecOn->dp,min_eq_left->dt,shiftRight->d0,lt_trans->d3,le_trans->d4,sub_mul->d9,blt_eq->ea
open Option renaming getD_some->cd,bind_some->cA,map_some->df
namespace Go.Sh
open Go
universe u
abbrev Fr:=List al
abbrev K1:=al->an->Prop
abbrev KF:=Fr->an->Prop
inductive bZ {α:Sort u} (k:α):Type
 |mk
def pA (a:Array al):Array al:=a
def abZ (a:Array al):pA a=a:=rfl
def PD (k:K1):Ending->an->Prop
 | .returned v,w=>k v w
 |_,_=>False
def ad (P:Program) (f:FuncId) (args:Array al) (w:an) (k:K1) (_:bZ k:= .mk):Prop:=Calls P f args w (PD k)
def stN (P:Program) (r:Result Next) (k:K1):Prop:=
 match r with
 | .ok (.value v) w=>k v w
 | .ok .skip w=>k undef w
 | .ok (.enter f args) w=>ad P f args w k
 | .ok (.round l f tmps a b) w=>RoundIn Fence.wide 0 P l f tmps a b w (PD k)
 |_=>False
def ev (P:Program) (s:Sem al) (w:an) (k:K1) (_:bZ k:= .mk):Prop:=
 match s.run P w with
 | .ok v w'=>k v w'
 | .halt _ _=>False
def ac (P:Program) (s:Sem Unit) (w:an) (k:an->Prop) (_:bZ k:= .mk):Prop:=
 match s.run P w with
 | .ok _ w'=>k w'
 | .halt _ _=>False
def au (c a b:al) (w:an) (k:K1):Prop:=
 match c with
 | .bool true=>k a w
 | .bool false=>k b w
 |_=>False
def Lx (P:Program) (x:al) (w:an) (k:K1) (_:bZ k:= .mk):Prop:=
 stN P ((execOp (fun _=>x) {dst:=none,op:= .nilCheck (.tmp 0),type:=0,pos:= "",after:= #[],guard:=none}).run P w) k
def bn (P:Program) (b:al) (a:String) (args:Array al) (w:an) (k:K1) (_:bZ k:= .mk):Prop:=stN P ((callMethod b a args).run P w) k
def aY (P:Program) (b:Builtin) (ts:Array TypeId) (ty:TypeId) (cs:Array Bool) (args:Array al) (w:an) (k:K1) (_:bZ k:= .mk):Prop:=stN P ((builtin b ts ty cs args).run P w) k
def aC (op:BinOp) (t:TypeId) (x y:Operand) (a b:al):Sem al:=do eqGuard op t x y a b;binOp op t a b
def md (P:Program) (f:al) (args:Array al) (w:an) (k:K1) (_:bZ k:= .mk):Prop:=stN P ((do let d <-Deferred.ofValue f args;invoke d.target d.args:Sem Next).run P w) k
def cW (P:Program) (t:TypeId):Option Bool:=(P.underlying t).map λ
 | .struct _=>true
 | .array _ _=>true
 |_=>false
def szT (P:Program) (t:TypeId):Option Nat:=(P.info? t).map (·.size)
def dS (P:Program) (t:TypeId):Option al:=(P.info? t).bind (·.zero)
def ax {P:Program} {t:TypeId} {d:TypeDesc} (h:P.underlying t=some d) (w:an):(underlying t).run P w= .ok d w:=by
 simp [underlying,program,Bind.bind,Sem.bind,Sem.run,h,pure]
def me {P:Program} {t:TypeId} {i:TypeInfo} (h:P.info? t=some i) (w:an):(typeInfo t).run P w= .ok i w:=by
 simp [typeInfo,program,Bind.bind,Sem.bind,Sem.run,h,pure]
def jU {P:Program} {t:TypeId} {b:Bool} (h:cW P t=some b) (w:an):(isAgg t).run P w= .ok b w:=by
 unfold cW at h
 cases hu:P.underlying t with
 |none=>rw [hu] at h;cases h
 |some d=>
  rw [hu] at h;unfold isAgg;rw [ar,ax hu]
  cases d<;>simp at h<;>subst h<;>rfl
def dK {P:Program} {t:TypeId} {n:Nat} (h:szT P t=some n) (w:an):(sizeOf t).run P w= .ok n w:=by
 unfold szT at h
 cases hu:P.info? t with
 |none=>rw [hu] at h;cases h
 |some i=>
  rw [hu] at h;simp at h;subst h;unfold sizeOf;rw [ar,me hu];rfl
def cQ {P:Program} {t:TypeId} {v:al} (h:dS P t=some v) (w:an):(zeroValue t).run P w= .ok v w:=by
 unfold dS at h
 cases hu:P.info? t with
 |none=>rw [hu] at h;cases h
 |some i=>
  rw [hu] at h;simp only [cA] at h;unfold zeroValue;rw [ar,me hu,ap];simp [h]
def Bu {P:Program} {t:TypeId} (h:cW P t=some false) (a:Addr) (w:an):(Instr.loadAt t (.pointer (some a))).run P w=(load a).run P w:=by
 unfold Instr.loadAt Instr.sureAddr;rw [ar,bl,ap];unfold loadVar;rw [ar,jU h,ap];simp
def p8 {P:Program} (a:Addr) (w:an):(load a).run P w=match w.cell? a with
  |some v=> .ok v w
  |none=>match w.farLoad P a false with
   | .ok (v,_)=> .ok v w
   | .error h=> .halt h w:=by
 unfold load;simp only [Sem.run]
 cases w.cell? a<;>rfl
def aP (w:an) (b o:Nat):Nat->Option (List al)
 |0=>some []
 |n+1=>match w.cell? ⟨b,o,none⟩ with
  |some v=>match aP w b (o+1) n with
   |some l=>some (v::l)
   |none=>none
  |none=>none
def dT (b o n:Nat):Addr.add ⟨b,o,none⟩ n=⟨b,o+n,none⟩:=by
 unfold Addr.add;split
 ·rename_i h;subst h;rfl
 ·rfl
def mf {P:Program} {w:an} {b o:Nat}:∀(n i:Nat) (a:Array al) (l:List al),aP w b (o+i) n=some l->(loadCellsFrom ⟨b,o,none⟩ i n a).run P w= .ok (a++l.toArray) w:=by
 intro n
 induction n with
 |zero=>intro i a l h;simp [aP] at h;subst h;simp [loadCellsFrom]
 |succ n ih=>
  intro i a l h;unfold aP at h
  cases hc:w.cell? ⟨b,o+i,none⟩ with
  |none=>rw [hc] at h;cases h
  |some v=>
   rw [hc] at h;simp only at h
   cases hr:aP w b (o+i+1) n with
   |none=>rw [hr] at h;cases h
   |some l'=>
    rw [hr] at h;simp only [Option.some.injEq] at h;subst h;unfold loadCellsFrom;rw [ar,dT,p8,hc];simp only [ap];rw [ih (i+1) (a.push v) l' hr];simp
def Bv {P:Program} {t:TypeId} {n:Nat} (h:cW P t=some true) (hn:szT P t=some n) {w:an} {b o:Nat} {l:List al} (hl:aP w b o n=some l):(Instr.loadAt t (.pointer (some ⟨b,o,none⟩))).run P w= .ok (.agg l.toArray) w:=by
 unfold Instr.loadAt Instr.sureAddr;rw [ar,bl,ap];unfold loadVar;rw [ar,jU h,ap];simp only [if_true];rw [ar,dK hn,ap,ar];unfold loadCells;rw [mf n 0 #[] l hl];simp
def aj:al->Bool
 | .agg _=>false
 | .tuple _=>false
 |_=>true
def uC {v:al} (h:aj v=true):v.cells= #[v]:=by cases v<;>first|rfl|cases h
def uj {P:Program} {a:Addr} {v:al} (h:aj v=true) {u:al} {w:an} (hc:w.cell? a=some u) (hz:w.frozen? a=false):(store a v).run P w= .ok () (w.setCell a v):=by
 unfold store
 cases v<;>first|(simp only [Sem.run,hc,hz];rfl)|(exact absurd h (by simp [aj]))
def fQ (w:an) (b o:Nat):List al->an
 | []=>w
 |v::l=>fQ (w.setCell ⟨b,o,none⟩ v) b (o+1) l
def bX:List al->Bool
 | []=>true
 |v::l=>aj v&&bX l
def dn (w:an) (b o:Nat):Nat->Bool
 |0=>true
 |n+1=>(w.cell? ⟨b,o,none⟩).isSome&&(!w.frozen? ⟨b,o,none⟩&&dn w b (o+1) n)
def ql {w:an} {p:Addr} {v:al} {b:Nat}:∀(n o:Nat),dn w b o n=true->dn (w.setCell p v) b o n=true:=by
 intro n
 induction n with
 |zero=>intro o _;rfl
 |succ n ih=>
  intro o h;simp only [dn,av] at h ⊢;obtain ⟨h1,h2,h3⟩:=h;refine ⟨?_,?_,ih _ h3⟩
  ·obtain ⟨u,hu⟩:=Option.isSome_iff_exists.1 h1;obtain ⟨u',a⟩:=Go.RowKit.cell?_setCell_some (p:=p) (x:=v) hu;rw [a];rfl
  ·rw [World.frozen?_setCell];exact h2
def qZ {P:Program} {b o:Nat}:∀(l:List al) (i:Nat) (w:an),bX l=true->dn w b (o+i) l.length=true->(storeCells ⟨b,o,none⟩ l i).run P w= .ok () (fQ w b (o+i) l):=by
 intro l
 induction l with
 |nil=>intro i w _ _;rfl
 |cons v l ih=>
  intro i w ha hf;simp only [bX,av] at ha;simp only [cm,dn,av,bb] at hf;obtain ⟨h1,h2,h3⟩:=hf;obtain ⟨u,hu⟩:=Option.isSome_iff_exists.1 h1;unfold storeCells;rw [ar,dT,uj ha.1 hu h2,ap,ih (i+1) _ ha.2 (ql _ _ h3)];rfl
def ldO (P:Program) (t:TypeId) (w:an) (x:al):Option al:=
 match x with
 | .pointer (some a)=>match cW P t with
  |some false=>w.cell? a
  |some true=>match a with
   |⟨b,o,none⟩=>match szT P t with
    |some n=>(aP w b o n).map λl=> .agg l.toArray
    |none=>none
   |_=>none
  |none=>none
 |_=>none
def xN {P:Program} {t:TypeId} {w:an} {x v:al} (h:ldO P t w x=some v):(Instr.loadAt t x).run P w= .ok v w:=by
 unfold ldO at h;split at h
 ·rename_i a;split at h
  ·rename_i ha;rw [Bu ha,p8,h]
  ·rename_i ha;split at h
   ·rename_i b o;split at h
    ·rename_i n hn
     cases hc:aP w b o n with
     |none=>rw [hc] at h;cases h
     |some l=>rw [hc] at h;simp at h;subst h;exact Bv ha hn hc
    ·cases h
   ·cases h
  ·cases h
 ·cases h
def oE (o:Option al) (k:al->Prop) (_:bZ k:= .mk):Prop:=
 match o with
 |some v=>k v
 |none=>False
def ldS (P:Program) (t:TypeId) (x:al) (w:an) (k:K1) (_:bZ k:= .mk):Prop:=oE (ldO P t w x) (λv=>k v w)
def ldR (P:Program) (t:TypeId) (x:al) (w:an) (k:al->Prop) (_:bZ k:= .mk):Prop:=oE (ldO P t w x) k
def ldG (P:Program) (t:TypeId) (x:al) (w:an) (v:al):Prop:=ldO P t w x=some v
def stO (P:Program) (t:TypeId) (w:an) (x v:al):Option an:=
 match x with
 | .pointer (some ⟨b,o,none⟩)=>match szT P t with
  |some n=>match Nat.beq v.cells.toList.length n&&(bX v.cells.toList&&dn w b o n) with
   |true=>some (fQ w b o v.cells.toList)
   |false=>none
  |none=>none
 |_=>none
def WF {P:Program} {t:TypeId} {w w':an} {x v:al} (h:stO P t w x v=some w'):(Instr.storeAt t x v).run P w= .ok () w':=by
 unfold stO at h;split at h
 ·rename_i b o;split at h
  ·rename_i n hn;split at h
   ·rename_i hb;simp only [av] at hb;simp only [Option.some.injEq] at h;subst h;have hl:=bd hb.1;unfold Instr.storeAt Instr.sureAddr;rw [ar,bl,ap];unfold storeVar;rw [ar,dK hn,ap];rw [if_neg (by rw [<-Array.length_toList];simp [hl])];rw [qZ v.cells.toList 0 w hb.2.1 (by rw [hl];exact hb.2.2)];rfl
   ·cases h
  ·cases h
 ·cases h
def oW (o:Option an) (k:an->Prop) (_:bZ k:= .mk):Prop:=
 match o with
 |some w=>k w
 |none=>False
def stS (P:Program) (t:TypeId) (x v:al) (w:an) (k:an->Prop) (_:bZ k:= .mk):Prop:=oW (stO P t w x v) k
def WG:Operand->Bool
 | .const _=>true
 |_=>false
def evO (fr:Fr):Operand->al
 | .tmp t=>fr.getD t undef
 | .const v=>v
 | .global g=> .pointer (some ⟨g,0,none⟩)
 | .func f=> .func (.func f) #[] #[]
def put (fr:Fr) (d:Option Tmp) (v:al):Fr:=
 match d with
 |some d=>fr.set d v
 |none=>fr
def opS (P:Program) (o:Op) (ty:TypeId) (ρ:Operand->al) (w:an) (k:K1):Prop:=
 match o with
 | .move x=>k (ρ x) w
 | .assign x=>k (ρ x) w
 | .pick c a b=>au (ρ c) (ρ a) (ρ b) w k
 | .alloc t=>ev P (Instr.alloc t true (.tuple #[])) w k
 | .box t x=>ev P (Instr.box t (ρ x)) w k
 | .build t ps=>ev P (Instr.build t (ps.toList.map λp=>(p.1,ρ p.2)).toArray) w k
 | .buildSlice t n ps=>ev P (aB t n (ps.toList.map λp=>(p.1,ρ p.2)).toArray) w k
 | .load t a=>ldS P t (ρ a) w k
 | .store t a x=>stS P t (ρ a) (ρ x) w (k undef)
 | .nilCheck x=>Lx P (ρ x) w k
 | .binOp op t x y _=>ev P (aC op t x y (ρ x) (ρ y)) w k
 | .unOp op _ x=>ev P (Op.unary op (ρ x)) w k
 | .convert s d x=>ev P (convert s d (ρ x)) w k
 | .makeInterface t x=>ev P (b8 t (ρ x)) w k
 | .makeMap t none=>ev P (Instr.makeMap t none) w k
 | .makeSlice t l c=>ev P (Instr.makeSlice t (ρ l) (ρ c)) w k
 | .slice t x lo hi mx=>ev P (Instr.sliceAt t (ρ x) (lo.map ρ) (hi.map ρ) (mx.map ρ)) w k
 | .fieldAddr s x f=>ev P (Instr.fieldAt s (ρ x) f) w k
 | .field t x f=>ev P (Instr.field t (ρ x) f) w k
 | .indexAddr t x i=>ev P (Instr.indexAt t (ρ x) (ρ i)) w k
 | .index t x i=>ev P (Instr.index t (ρ x) (ρ i)) w k
 | .lookup t x i ok=>ev P (Instr.lookup t (ρ x) (ρ i) ok) w k
 | .mapUpdate t m i x=>ac P (Instr.mapUpdate t (ρ m) (ρ i) (ρ x)) w (k undef)
 | .insert t m i x=>ac P (Instr.mapUpdate t (ρ m) (ρ i) (ρ x)) w (k undef)
 | .range t x=>ev P (Instr.range t (ρ x)) w k
 | .next it s=>ev P (Instr.next (ρ it) s ty) w k
 | .entry it=>ev P (Instr.entry (ρ it)) w k
 | .extract t i=>ev P (Instr.extract (ρ t) i) w k
 | .makeFunc f a b=>ev P (Instr.makeFunc f (a.toList.map ρ).toArray (b.toList.map ρ).toArray) w k
 | .call ⟨.value (.func f),args,_⟩=>ad P f (args.toList.map ρ).toArray w k
 | .call ⟨.value f,args,_⟩=>md P (ρ f) (args.toList.map ρ).toArray w k
 | .call ⟨.invoke r name,args,_⟩=>bn P (ρ r) name (args.toList.map ρ).toArray w k
 | .call ⟨.builtin b,args,ts⟩=>aY P b ts ty (args.toList.map WG).toArray (args.toList.map ρ).toArray w k
 |_=>False
def q8 (P:Program) (f:FuncId):Bool:=
 match P.funcs[f]? with
 |some fn=>fn.body.isSome&& !(fn.name== "runtime.NumGoroutine")
 |none=>false
def Ly (P:Program):Op->Bool
 | .call ⟨.value (.func f),_,_⟩=>q8 P f
 |_=>true
def aQ {P:Program} {s:Sem al} {w:an} {k:K1} (h:ev P s w k):stN P ((do pure (Next.value (<-s)):Sem Next).run P w) k:=by
 unfold ev at h;rw [ar]
 cases hr:s.run P w with
 |ok v w'=>rw [hr] at h;simpa [stN] using h
 |halt x w'=>rw [hr] at h;exact h.elim
def nG {P:Program} {s:Sem Unit} {w:an} {k:an->Prop} (h:ac P s w k) (K:K1) (hk:∀w,k w->K undef w):stN P ((do s;pure Next.skip:Sem Next).run P w) K:=by
 unfold ac at h;rw [ar]
 cases hr:s.run P w with
 |ok v w'=>rw [hr] at h;simpa [stN] using hk _ h
 |halt x w'=>rw [hr] at h;exact h.elim
def Lz {P:Program} {t:TypeId} {x:al} {w:an} {k:K1} (h:ldS P t x w k):ev P (Instr.loadAt t x) w k:=by
 unfold ldS oE at h;split at h
 ·rename_i v hv;unfold ev;rw [xN hv];exact h
 ·exact h.elim
def LA {P:Program} {t:TypeId} {x v:al} {w:an} {k:an->Prop} (h:stS P t x v w k):ac P (Instr.storeAt t x v) w k:=by
 unfold stS oW at h;split at h
 ·rename_i w' hw;unfold ac;rw [WF hw];exact h
 ·exact h.elim
def nH (ps:Array (Nat×Operand)) (ρ:Operand->al):(ps.map λ(i,x)=>(i,ρ x))=(ps.toList.map λp=>(p.1,ρ p.2)).toArray:=by
 apply Array.ext';simp
def fS (ps:Array Operand) {α:Type} (ρ:Operand->α):ps.map ρ=(ps.toList.map ρ).toArray:=by
 apply Array.ext';simp
def iC {P:Program} {f:FuncId} (h:q8 P f=true) (args:Array al) (w:an):(callFunc f args).run P w= .ok (.enter f args) w:=by
 unfold q8 at h
 cases hf:P.funcs[f]? with
 |none=>rw [hf] at h;cases h
 |some fn=>
  rw [hf] at h;simp only [av,bb] at h;obtain ⟨hb,hn⟩:=h;have a:fn.body.isNone=false:=by cases hx:fn.body<;>simp_all
  unfold callFunc;simp only [program,Bind.bind,Sem.bind,Sem.run,hf,hn,a,a9,if_false,pure]
def uE {P:Program} {o:Oper} {ρ:Operand->al} {w:an} {k:K1} (hρ:∀f,ρ (.func f)= .func (.func f) #[] #[]) (j:Ly P o.op=true) (h:opS P o.op o.type ρ w k):stN P ((execOp ρ o).run P w) k:=by
 obtain ⟨dst,op,ty,pos,after,guard⟩:=o
 cases op with
 |move x=>exact h
 |assign x=>exact h
 |pick c a b=>
  simp only [opS,au] at h;simp only [execOp]
  cases hc:ρ c with
  |bool t=>rw [hc] at h;cases t<;>simpa [stN,asBool] using h
  |_=>rw [hc] at h;exact h.elim
 |alloc t=>exact aQ h
 |box t x=>exact aQ h
 |build t ps=>simp only [execOp,nH];exact aQ h
 |buildSlice t n ps=>simp only [execOp,nH];exact aQ h
 |load t a=>exact aQ (Lz h)
 |store t a x=>exact nG (LA h) k (λ_ h=>h)
 |nilCheck x=>exact h
 |binOp op t x y yt=>exact aQ h
 |unOp op t x=>exact aQ h
 |convert s d x=>exact aQ h
 |makeInterface t x=>exact aQ h
 |makeMap t r=>cases r with
  |none=>exact aQ h
  |some r=>exact h.elim
 |makeSlice t l c=>exact aQ h
 |slice t x lo hi mx=>exact aQ h
 |fieldAddr s x f=>exact aQ h
 |field t x f=>exact aQ h
 |indexAddr t x i=>exact aQ h
 |index t x i=>exact aQ h
 |lookup t x i c=>exact aQ h
 |mapUpdate t m i x=>exact nG h k (λ_ h=>h)
 |insert t m i x=>exact nG h k (λ_ h=>h)
 |range t x=>exact aQ h
 |next it s=>exact aQ h
 |entry it=>exact aQ h
 |extract t i=>exact aQ h
 |makeFunc f a b=>simp only [execOp,fS];exact aQ h
 |call c=>
  obtain ⟨g,args,ts⟩:=c
  cases g with
  |value f=>
   cases f with
   |func f=>
    simp only [opS] at h;have hr:=iC j (args.toList.map ρ).toArray w;have e:(execOp ρ {dst:=dst,op:= .call ⟨.value (.func f),args,ts⟩,type:=ty,pos:=pos,after:=after,guard:=guard})=callFunc f (args.toList.map ρ).toArray:=by
     simp only [execOp,resolve,fS,hρ,Deferred.ofValue,Bind.bind,Sem.bind,pure,invoke];simp
    rw [e,hr];exact h
   |_=>simp only [opS,md] at h;simp only [execOp,resolve,fS];exact h
  |invoke r name=>
   simp only [opS,bn] at h;simp only [execOp,resolve,fS,Bind.bind,Sem.bind,pure,invoke];have e:((#[ρ r]++(args.toList.map ρ).toArray).extract 1 (#[ρ r]++(args.toList.map ρ).toArray).size)=(args.toList.map ρ).toArray:=by
    apply Array.ext';simp only [Array.toList_extract,Array.toList_append,List.extract_eq_take_drop,Array.size_append];simp [List.take_of_length_le]
   simp only [Array.getElem?_append,e];simpa using h
  |builtin b=>
   simp only [opS,aY] at h;simp only [execOp,resolve,fS,Bind.bind,Sem.bind,pure,invoke];exact h
 |_=>exact h.elim
def gd (x:al) (c:Bool) (a:K1->Prop) (w:an) (k:K1):Prop:=
 match x with
 | .bool b=>match b,c with
  |true,true=>a k
  |false,false=>a k
  |_,_=>k undef w
 |_=>k undef w
def p9 (ops:List Oper) (j:Nat) (fr:Fr):al:=
 match (ops[j]?).bind (·.dst) with
 |some d=>fr.getD d undef
 |none=>undef
def qm (P:Program) (ops:List Oper) (o:Oper) (fr:Fr) (w:an) (k:K1):Prop:=
 match o.guard with
 |none=>opS P o.op o.type (evO fr) w k
 |some (j,want)=>gd (p9 ops j fr) want (λk=>opS P o.op o.type (evO fr) w k) w k
def LB (P:Program) (ops:List Oper):List Oper->KF->Fr->an->Prop
 | [],k,fr,w=>k fr w
 |o::rest,k,fr,w=>qm P ops o fr w (λv w'=>LB P ops rest k (put fr o.dst v) w')
def aT (ds:List Deferred) (fr:Fr):Act:={tmps:=fr.toArray,defers:=ds}
def FW (ro:Option Nat):Fence:={Fence.wide with round:=ro}
def fwD {ro:Option Nat} {p:Prop} (h:(FW ro).depth.isSome=true):p:=by cases h
def ey (ds:List Deferred) (fr:Fr):(aT ds fr).eval=evO fr:=by
 funext x;cases x<;>simp [Act.eval,aT,evO,aA,a8]
def dN (ds:List Deferred) (fr:Fr) (d:Option Tmp) (v:al):(aT ds fr).put d v=aT ds (put fr d v):=by
 cases d<;>simp [Act.put,aT,put]
def Bw (fr:Fr) (f:FuncId):evO fr (.func f)= .func (.func f) #[] #[]:=rfl
def isB (x:al) (a:Bool):Bool:=
 match x with
 | .bool b=>b==a
 |_=>false
def dz (ops:List Oper) (o:Oper) (fr:Fr):Bool:=
 match o.guard with
 |none=>true
 |some (j,want)=>isB (p9 ops j fr) want
def uF (ops:List Oper) (o:Oper) (ds:List Deferred) (fr:Fr):Region.wanted o (yielded ops.toArray (aT ds fr).tmps)=dz ops o fr:=by
 obtain ⟨dst,op,ty,pos,after,guard⟩:=o
 cases guard with
 |none=>rfl
 |some g=>
  obtain ⟨j,a⟩:=g;simp only [Region.wanted,dz,isB,yielded,p9,aT,b6]
  cases hd:(ops[j]?).bind (·.dst) with
  |none=>simp [undef]
  |some d=>
   simp only [cA,a8]
   cases hf:fr[d]? with
   |none=>simp [undef]
   |some x=>cases x<;>simp
def aap {x:al} {a:Bool} {c:K1->Prop} {w:an} {k:K1} (h:gd x a c w k) (hx:isB x a=true):c k:=by
 unfold gd at h
 cases x<;>simp [isB] at hx;rename_i b;subst hx
 cases b<;>exact h
def ab0 {x:al} {a:Bool} {c:K1->Prop} {w:an} {k:K1} (h:gd x a c w k) (hx:isB x a=false):k undef w:=by
 unfold gd at h
 cases x<;>simp [isB] at hx<;>try exact h
 rename_i b
 cases b<;>cases a<;>simp at hx<;>exact h
def q9 {P:Program} {ops:List Oper} {o:Oper} {fr:Fr} {w:an} {k:K1} (h:qm P ops o fr w k) (hw:dz ops o fr=true):opS P o.op o.type (evO fr) w k:=by
 unfold qm at h;unfold dz at hw
 cases hg:o.guard with
 |none=>rw [hg] at h;exact h
 |some g=>rw [hg] at h hw;exact aap h hw
def Ik {P:Program} {ops:List Oper} {o:Oper} {fr:Fr} {w:an} {k:K1} (h:qm P ops o fr w k) (hw:dz ops o fr=false):k undef w:=by
 unfold qm at h;unfold dz at hw
 cases hg:o.guard with
 |none=>rw [hg] at hw;cases hw
 |some g=>rw [hg] at h hw;exact ab0 h hw
def aaq {P:Program} {o:Oper} {ρ:Operand->al} {w:an} {k:K1} (h:opS P o.op o.type ρ w k) (ro:Option Nat):o.semAt ro ρ=execOp ρ o:=by
 refine Oper.semAt_eq ro ρ o (λc e=> ?_);rw [e] at h;exact h.elim
def kY {P:Program} {ro:Option Nat} {ds:List Deferred} {o:Oper} {fr:Fr} {r:Result Next} {k:K1} {next:Act->an->Prop} {Q:Exit->Act->an->Prop} (h:stN P r k) (hk:∀v w',k v w'->next (aT ds (put fr o.dst v)) w'):o.uponIn (FW ro) 0 P (aT ds fr) next Q r:=by
 cases r with
 |halt x w'=>exact h.elim
 |ok n w'=>
  cases n<;>simp only [stN] at h<;>try exact h.elim
  ·simp only [Oper.uponIn_value,dN];exact hk _ _ h
  ·simp only [Oper.uponIn_skip,dN];exact hk _ _ h
  ·rw [Oper.uponIn_enter];refine ⟨λh=>fwD h,(callsIn_wide (n:=0)).2 (Calls.mono h ?_)⟩;intro e w'' hr
   cases e with
   |returned v=>simp only [dN];exact hk _ _ hr
   |panicked c=>exact hr.elim
   |outgrown=>exact hr.elim
  ·rw [Oper.uponIn_round];refine ⟨λh=>fwD h,RoundIn.mono (F:=Fence.wide) h ?_⟩;intro e w'' hr
   cases e with
   |returned v=>simp only [dN];exact hk _ _ hr
   |panicked c=>exact hr.elim
   |outgrown=>exact hr.elim
def WH {P:Program} {ro:Option Nat} {ds:List Deferred} {o:Oper} {fr:Fr} {w:an} {k:K1} {next:Act->an->Prop} {Q:Exit->Act->an->Prop} (a:Ly P o.op=true) (h:opS P o.op o.type (evO fr) w k) (hk:∀v w',k v w'->next (aT ds (put fr o.dst v)) w'):o.wpIn (FW ro) 0 P (aT ds fr) w next Q:=by
 have h':=uE (Bw fr) a h;refine ⟨λ_ _=>trivial,?_⟩;rw [ey,aaq h];exact kY h' hk
def Ek {P:Program} {ro:Option Nat} {ds:List Deferred} {nt:Nat} {ops:List Oper} {Q:Exit->Act->an->Prop} {k:KF} (hk:∀fr w,fr.length=nt->k fr w->Q .normal (aT ds fr) w):∀(l:List Oper) (fr:Fr) (w:an),fr.length=nt->(l.all λo=>Ly P o.op)=true->LB P ops l k fr w->wpListIn (FW ro) 0 P ops.toArray Q l (aT ds fr) w:=by
 intro l
 induction l with
 |nil=>intro fr w hl _ h;exact hk _ _ hl h
 |cons o rest ih=>
  intro fr w hl a h;simp only [d1,av] at a;unfold LB at h;unfold wpListIn;rw [uF]
  cases hw:dz ops o fr with
  |true=>
   rw [if_pos rfl];exact WH a.1 (q9 h hw) (λv w' h=>ih _ _ (by cases o.dst<;>simp [put,hl]) a.2 h)
  |false=>
   rw [if_neg (by simp),dN];exact ⟨λ_ _=>trivial,ih _ _ (by cases o.dst<;>simp [put,hl]) a.2 (Ik h hw)⟩
def PE:Oper:={dst:=none,op:= .nilCheck (.tmp 0),type:=0,pos:= "",after:= #[],guard:=none}
def rd (P:Program) (s:Sem al) (w:an) (k:al->Prop) (_:bZ k:= .mk):Prop:=
 match s.run P w with
 | .ok v w'=>w'=w/\k v
 | .halt _ _=>False
def br (P:Program) (x:al) (w:an) (k:al->Prop) (_:bZ k:= .mk):Prop:=
 match (execOp (λ_=>x) PE).run P w with
 | .ok (.value v) w'=>w'=w/\k v
 |_=>False
def bo (c a b:al) (k:al->Prop):Prop:=
 match c with
 | .bool true=>k a
 | .bool false=>k b
 |_=>False
def ag (P:Program) (s:Sem al) (w:an) (v:al):Prop:=s.run P w= .ok v w
def rdO (o:Op) (ty:TypeId) (ρ:Operand->al):Option (Sem al):=
 match o with
 | .build t ps=>some (Instr.build t (ps.toList.map λp=>(p.1,ρ p.2)).toArray)
 | .binOp op t x y _=>some (aC op t x y (ρ x) (ρ y))
 | .unOp op _ x=>some (Op.unary op (ρ x))
 | .convert s d x=>some (convert s d (ρ x))
 | .makeInterface t x=>some (b8 t (ρ x))
 | .slice t x lo hi mx=>some (Instr.sliceAt t (ρ x) (lo.map ρ) (hi.map ρ) (mx.map ρ))
 | .fieldAddr s x f=>some (Instr.fieldAt s (ρ x) f)
 | .field t x f=>some (Instr.field t (ρ x) f)
 | .indexAddr t x i=>some (Instr.indexAt t (ρ x) (ρ i))
 | .index t x i=>some (Instr.index t (ρ x) (ρ i))
 | .lookup t x i ok=>some (Instr.lookup t (ρ x) (ρ i) ok)
 | .extract t i=>some (Instr.extract (ρ t) i)
 | .makeFunc f a b=>some (Instr.makeFunc f (a.toList.map ρ).toArray (b.toList.map ρ).toArray)
 | .call ⟨.builtin .len,args,ts⟩=>some (c4 ts ty (args.toList.map ρ).toArray)
 | .call ⟨.builtin .max,args,ts⟩=>some (Builtin.max_ ts ty (args.toList.map ρ).toArray)
 | .call ⟨.builtin .min,args,ts⟩=>some (Builtin.min_ ts ty (args.toList.map ρ).toArray)
 |_=>none
def kS:Op->Bool
 | .move _| .pick ..| .nilCheck _=>true
 | .build ..| .load ..| .binOp ..| .unOp ..| .convert ..| .makeInterface ..| .slice ..| .fieldAddr ..| .field ..| .indexAddr ..| .index ..| .lookup ..| .extract ..| .makeFunc ..=>true
 | .call ⟨.builtin .len,_,_⟩| .call ⟨.builtin .max,_,_⟩| .call ⟨.builtin .min,_,_⟩=>true
 |_=>false
def rdS (P:Program) (o:Op) (ty:TypeId) (ρ:Operand->al) (w:an) (k:al->Prop):Prop:=
 match o with
 | .move x=>k (ρ x)
 | .pick c a b=>bo (ρ c) (ρ a) (ρ b) k
 | .nilCheck x=>br P (ρ x) w k
 | .load t a=>ldR P t (ρ a) w k
 |o=>match rdO o ty ρ with
  |some s=>rd P s w k
  |none=>False
def free:Op->Bool
 | .move _| .pick ..| .extract ..=>true
 |_=>false
def agS (P:Program) (o:Op) (ty:TypeId) (ρ:Operand->al) (w:an) (v:al):Prop:=
 match o with
 | .nilCheck x=>br P (ρ x) w (λu=>u=v)
 | .load t a=>ldG P t (ρ a) w v
 |o=>match rdO o ty ρ with
  |some s=>ag P s w v
  |none=>True
def yl (P:Program) (o:Oper) (ρ:Operand->al) (w:an) (v:al):Prop:=(execOp ρ o).run P w= .ok (.value v) w
def uG {P:Program} {o:Oper} {ρ:Operand->al} {s:Sem al} {w:an} {v:al} (hs:rdO o.op o.type ρ=some s) (h:s.run P w= .ok v w):yl P o ρ w v:=by
 have key:execOp ρ o=(do pure (Next.value (<-s)):Sem Next):=by
  obtain ⟨dst,op,ty,pos,after,guard⟩:=o
  cases op<;>simp only [rdO] at hs
  case call c=>
   obtain ⟨a,args,ts⟩:=c
   cases a with
   |value f=>simp at hs
   |invoke r n=>simp at hs
   |builtin b=>cases b<;>simp at hs<;>(subst hs;simp only [execOp,resolve,fS,Bind.bind,Sem.bind,pure,invoke];rfl)
  all_goals (first|(simp at hs;done)|skip)
  all_goals (simp only [Option.some.injEq] at hs;subst hs;first|rfl|(simp only [execOp,nH];done)|(simp only [execOp,fS];done))
 unfold yl;rw [key,ar,h];rfl
def Il {P:Program} {dst:Option Tmp} {x:Operand} {ty:TypeId} {pos:String} {after:Array Edge} {g:Option (Nat×Bool)} {ρ:Operand->al} {w:an} {k:al->Prop} (h:br P (ρ x) w k):∃v,yl P ⟨dst,.nilCheck x,ty,pos,after,g⟩ ρ w v/\k v:=by
 unfold br at h;have e:execOp (λ_=>ρ x) PE=execOp ρ ⟨dst,.nilCheck x,ty,pos,after,g⟩:=rfl;rw [e] at h;unfold yl;split at h
 ·rename_i v w' hr;obtain ⟨rfl,hk⟩:=h;exact ⟨v,hr,hk⟩
 ·exact h.elim
def PF {P:Program} {dst:Option Tmp} {t:TypeId} {x:Operand} {ty:TypeId} {pos:String} {after:Array Edge} {g:Option (Nat×Bool)} {ρ:Operand->al} {w:an} {v:al} (h:ldO P t w (ρ x)=some v):yl P ⟨dst,.load t x,ty,pos,after,g⟩ ρ w v:=by
 unfold yl;show ((do pure (Next.value (<-Instr.loadAt t (ρ x))):Sem Next).run P w)=_;rw [ar,xN h];rfl
def nI {P:Program} {o:Oper} {ρ:Operand->al} {w:an} {k:al->Prop} (h:rdS P o.op o.type ρ w k):∃v,yl P o ρ w v/\k v:=by
 have f:∀s,rdO o.op o.type ρ=some s->rd P s w k->∃v,yl P o ρ w v/\k v:=by
  intro s hs hr;unfold rd at hr;split at hr
  ·rename_i v w' d;obtain ⟨rfl,hk⟩:=hr;exact ⟨v,uG hs d,hk⟩
  ·exact hr.elim
 obtain ⟨dst,op,ty,pos,after,guard⟩:=o;have e:(match rdO op ty ρ with|some s=>rd P s w k|none=>False)->∃v,yl P ⟨dst,op,ty,pos,after,guard⟩ ρ w v/\k v:=by
  intro h
  cases hs:rdO op ty ρ with
  |none=>rw [hs] at h;exact h.elim
  |some s=>rw [hs] at h;exact f s hs h
 cases op
 case move x=>exact ⟨ρ x,rfl,h⟩
 case pick c a b=>
  simp only [rdS,bo] at h
  cases hc:ρ c with
  |bool t=>rw [hc] at h;cases t<;>exact ⟨_,by simp [yl,execOp,hc,asBool],h⟩
  |_=>rw [hc] at h;exact h.elim
 case nilCheck x=>exact Il h
 case load t x=>
  simp only [rdS,ldR,oE] at h;split at h
  ·rename_i v hv;exact ⟨v,PF hv,h⟩
  ·exact h.elim
 all_goals exact e h
def LC {P:Program} {o:Oper} {ρ:Operand->al} {w w':an} {v:al} (hr:kS o.op=true) (hy:yl P o ρ w v) (h:free o.op=true\/agS P o.op o.type ρ w' v):yl P o ρ w' v:=by
 obtain ⟨dst,op,ty,pos,after,guard⟩:=o;have e:∀s,rdO op ty ρ=some s->(match rdO op ty ρ with|some s=>ag P s w' v|none=>True)->yl P ⟨dst,op,ty,pos,after,guard⟩ ρ w' v:=by
  intro s hs h;rw [hs] at h;exact uG hs h
 cases op<;>simp only [kS,a9] at hr
 case move x=>simp only [yl,execOp,pure,Sem.run] at hy ⊢;injection hy with a b;rw [a]
 case pick c a b=>
  simp only [yl,execOp] at hy ⊢
  cases hc:ρ c<;>simp [hc,asBool,stuck] at hy ⊢;exact hy
 case extract t i=>
  simp only [yl,execOp,Instr.extract] at hy ⊢
  cases ht:ρ t<;>simp [ht,stuck] at hy ⊢;rename_i vs
  cases hv:vs[i]? <;>simp [hv] at hy ⊢;exact hy
 case nilCheck x=>
  simp only [free,a9,false_or,agS] at h;obtain ⟨u,h1,rfl⟩:=Il (dst:=dst) (ty:=ty) (pos:=pos) (after:=after) (g:=guard) h;exact h1
 case load t x=>
  simp only [free,a9,false_or,agS,ldG] at h;exact PF h
 case call c=>
  obtain ⟨d,args,ts⟩:=c
  cases d with
  |value f=>simp at hr
  |invoke r n=>simp at hr
  |builtin b=>
   cases b<;>simp at hr<;>(simp only [free,a9,false_or,agS] at h;exact e _ rfl h)
 all_goals (simp only [free,a9,false_or,agS] at h;exact e _ rfl h)
def dA (e:Edge):Bool:=Region.binds .any e
def tb (m i:Nat):Bool:=Nat.beq (Nat.land (d0 m i) 1) 1
def sb (m i:Nat):Nat:=Nat.lor m (Nat.pow 2 i)
def Bx (m i:Nat):tb m i=m.testBit i:=by
 have h:Nat.land (d0 m i) 1=(m>>>i)%2:=Nat.and_one_is_mod _;unfold tb;rw [h,Nat.testBit_eq_decide_div_mod_eq,<-Nat.shiftRight_eq_div_pow];have h2:m>>>i%2<2:=Nat.mod_lt _ (by decide);generalize m>>>i%2=x at h2
 match x,h2 with
 |0,_=>rfl
 |1,_=>rfl
def Im (m i j:Nat):tb (sb m i) j=if i=j then true else tb m j:=by
 rw [Bx,Bx];show (m|||2^i).testBit j=_;rw [Nat.testBit_or,Nat.testBit_two_pow];by_cases e:i=j<;>simp [e]
def iD (done:Nat) (n:Nat):Nat:=(List.range n).countP λi=> !tb done i
def rdy (done:Nat) (o:Oper):Bool:=o.after.toList.all λe=> !dA e||tb done e.on
def gu (done:Nat):List Oper->Nat->Option (Nat×Oper)
 | [],_=>none
 |o::os,i=>match !tb done i&&(kS o.op&&rdy done o) with
  |true=>some (i,o)
  |false=>gu done os (i+1)
def gw (done:Nat):List Oper->Nat->List (Nat×Oper)
 | [],_=> []
 |o::os,i=>match !tb done i&&(!kS o.op&&rdy done o) with
  |true=>(i,o)::gw done os (i+1)
  |false=>gw done os (i+1)
def WI (acc:List Nat) (o:Oper):Nat:=o.after.toList.foldl (λs e=>match dA e with|true=>s|||2^e.on|||acc.getD e.on 0|false=>s) 0
def By:List Oper->List Nat->List Nat
 | [],acc=>acc
 |o::os,acc=>By os (acc++ [WI acc o])
def xO (done:Nat) (m:Nat):List Oper->Nat->List Oper
 | [],_=> []
 |o::os,i=>match tb done i&&(kS o.op&&(!free o.op&& !tb m i)) with
  |true=>o::xO done m os (i+1)
  |false=>xO done m os (i+1)
def jo (o:Oper) (fr:Fr):al:=
 match o.dst with
 |some d=>fr.getD d undef
 |none=>undef
def gq (x:al) (a:Bool) (A:Prop):Prop:=
 match x with
 | .bool b=>match b,a with
  |true,true=>A
  |false,false=>A
  |_,_=>True
 |_=>True
def eZ (P:Program) (ops:List Oper):List Oper->Fr->an->Prop->Prop
 | [],_,_,X=>X
 |o::rest,fr,w,X=>
  (match o.guard with
   |none=>agS P o.op o.type (evO fr) w (jo o fr)
   |some (j,want)=>gq (p9 ops j fr) want (agS P o.op o.type (evO fr) w (jo o fr)))/\eZ P ops rest fr w X
def gdR (x:al) (c:Bool) (a:(al->Prop)->Prop) (k:al->Prop):Prop:=
 match x with
 | .bool b=>match b,c with
  |true,true=>a k
  |false,false=>a k
  |_,_=>k undef
 |_=>k undef
def Bz (P:Program) (ops:List Oper) (o:Oper) (fr:Fr) (w:an) (k:al->Prop):Prop:=
 match o.guard with
 |none=>rdS P o.op o.type (evO fr) w k
 |some (j,want)=>gdR (p9 ops j fr) want (λk=>rdS P o.op o.type (evO fr) w k) k
def xP {α:Type} (f:α->Prop):α->List α->Prop
 |x,[]=>f x
 |x,y::l=>f x/\xP f y l
def jl (P:Program) (ops:List Oper) (bef:List Nat) (k:KF):Nat->Nat->Fr->an->Prop
 |0,_,fr,w=>k fr w
 |n+1,done,fr,w=>
  match gu done ops 0 with
  |some (i,o)=>Bz P ops o fr w (λv=>jl P ops bef k n (sb done i) (put fr o.dst v) w)
  |none=>match gw done ops 0 with
   | []=>k fr w
   |x::l=>xP (λio=>qm P ops io.2 fr w (λv w'=>eZ P ops (xO done (bef.getD io.1 0) ops 0) (put fr io.2.dst v) w' (jl P ops bef k n (sb done io.1) (put fr io.2.dst v) w'))) x l
def mg (ops:List Oper) (o:Oper):List Tmp:=
 (o.op.operands.toList.filterMap λ| .tmp t=>some t|_=>none)++
 (match o.guard with
  |some (g,_)=>((ops[g]?).bind (·.dst)).toList
  |none=> [])
def nJ:Op->Bool
 | .select ..=>false
 |_=>true
def rc (ops:List Oper) (bef:List Nat) (k:Nat) (o:Oper) (j:Nat) (p:Oper):Bool:=
 Nat.beq j k||
 (match o.dst with
  |none=>true
  |some s=>
   match kS o.op with
   |true=> !(p.dst==some s)&&(!(mg ops p).contains s||tb (bef.getD j 0) k)
   |false=>(!(p.dst==some s)&& !(mg ops p).contains s)||(tb (bef.getD j 0) k||tb (bef.getD k 0) j))
def kZ (ops:List Oper) (nt:Nat) (o:Oper):Bool:=
 match o.dst with
 |none=> !kS o.op
 |some d=>Nat.blt d nt&&(!kS o.op|| !(mg ops o).contains d)
def PG (P:Program) (nt:Nat) (ops:List Oper) (bef:List Nat) (k:Nat) (o:Oper):Bool:=
 Ly P o.op&&nJ o.op&&kZ ops nt o&&
 (o.after.toList.all λe=> !dA e||Nat.blt e.on k)&&
 (match o.guard with
  |none=>true
  |some (j,_)=>tb (bef.getD k 0) j)&&
 ((List.range ops.length).all λi=> !tb (bef.getD k 0) i||o.after.toList.any λe=>dA e&&(Nat.beq e.on i||tb (bef.getD e.on 0) i))&&
 (List.range ops.length).all λj=>match ops[j]? with
  |none=>true
  |some p=>rc ops bef k o j p
def gP (P:Program) (nt:Nat) (ops:List Oper) (bef:List Nat):Bool:=
 (List.range ops.length).all λk=>match ops[k]? with
  |none=>true
  |some o=>PG P nt ops bef k o
structure WJ (P:Program) (nt:Nat) (ops:List Oper) (bef:List Nat) (k:Nat) (o:Oper):Prop where
 ok:Ly P o.op=true
 sel:nJ o.op=true
 self:kZ ops nt o=true
 back:∀e∈o.after.toList,dA e=true->e.on<k
 gua:∀j want,o.guard=some (j,want)->tb (bef.getD k 0) j=true
 anc:∀i,i<ops.length->tb (bef.getD k 0) i=true->∃e∈o.after.toList,dA e=true/\(e.on=i\/tb (bef.getD e.on 0) i=true)
 pair:∀j p,ops[j]? =some p->rc ops bef k o j p=true
def bf {P:Program} {nt:Nat} {ops:List Oper} {bef:List Nat} (h:gP P nt ops bef=true) {k:Nat} {o:Oper} (hk:ops[k]? =some o):WJ P nt ops bef k o:=by
 have a:k<ops.length:=by
  rcases co k ops.length with h|h
  ·exact h
  ·rw [cn h] at hk;cases hk
 unfold gP at h;have h1:=List.all_eq_true.1 h k (List.mem_range.2 a);rw [hk] at h1;simp only [PG,av] at h1;obtain ⟨⟨⟨⟨⟨⟨a1,a2⟩,a3⟩,a4⟩,a5⟩,a6⟩,a7⟩:=h1;refine ⟨a1,a2,a3,?_,?_,?_,?_⟩
 ·intro e he hb;have:=List.all_eq_true.1 a4 e he;simp only [hb,b7,cx] at this
  rwa [ea] at this
 ·intro j c hg;rw [hg] at a5;exact a5
 ·intro i hi ht;have:=List.all_eq_true.1 a6 i (List.mem_range.2 hi);simp only [ht,b7,cx] at this;obtain ⟨e,he,hb⟩:=List.any_eq_true.1 this;simp only [av,b9] at hb;exact ⟨e,he,hb.1,hb.2.imp bd id⟩
 ·intro j p hj;have b:j<ops.length:=by
   rcases co j ops.length with h|h
   ·exact h
   ·rw [cn h] at hj;cases hj
  have:=List.all_eq_true.1 a7 j (List.mem_range.2 b);rw [hj] at this;exact this
def iF {ops:List Oper} {o:Oper} {fr fr':Fr} (h:∀s∈mg ops o,fr.getD s undef=fr'.getD s undef):dz ops o fr=dz ops o fr'/\(nJ o.op=true->execOp (evO fr) o=execOp (evO fr') o):=by
 constructor
 ·unfold dz
  cases hg:o.guard with
  |none=>rfl
  |some g=>
   obtain ⟨j,a⟩:=g;simp only [p9]
   cases hd:(ops[j]?).bind (·.dst) with
   |none=>rfl
   |some d=>simp only;rw [h d (by unfold mg;rw [hg];simp [hd])]
 ·intro hs;refine execOp_congr o (λcs b e=>by rw [e] at hs;cases hs) λx hx=> ?_
  cases x with
  |tmp t=>exact h t (List.mem_append_left _ (List.mem_filterMap.2 ⟨.tmp t,by simpa using hx,rfl⟩))
  |_=>rfl
def dD {fr:Fr} {d:Option Tmp} {v:al} {s:Nat} (h:d≠some s):(put fr d v).getD s undef=fr.getD s undef:=by
 cases d with
 |none=>rfl
 |some d=>
  have a:d≠s:=λe=>h (by rw [e])
  simp [put,a8,List.getElem?_set_ne a]
def fa {fr:Fr} {d:Nat} {v:al} (h:d<fr.length):(put fr (some d) v).getD d undef=v:=by
 simp [put,a8,h]
def ez (fr:Fr) (d:Option Tmp) (v:al):(put fr d v).length=fr.length:=by cases d<;>simp [put]
def El {done:Nat}:∀(l:List Oper) (i:Nat),gu done l i=none->∀j o,l[j]? =some o->tb done (i+j)=false->rdy done o=true->kS o.op=false:=by
 intro l
 induction l with
 |nil=>intro i _ j o h;simp at h
 |cons x l ih=>
  intro i h j o hj hd hr;unfold gu at h;split at h
  ·cases h
  ·rename_i hx
   cases j with
   |zero=>
    simp only [cg,Option.some.injEq] at hj;subst hj;simp only [ca] at hd;simp only [hd,hr,cq,cw,cj] at hx;exact hx
   |succ j=>
    simp only [ch] at hj;exact ih (i+1) h j o hj (by rw [<-hd];congr 1;omega) hr
def fT {done:Nat}:∀(l:List Oper) (i:Nat) (k:Nat) (o:Oper),gu done l i=some (k,o)->∃j,k=i+j/\l[j]? =some o/\tb done k=false/\rdy done o=true/\kS o.op=true:=by
 intro l
 induction l with
 |nil=>intro i k o h;cases h
 |cons x l ih=>
  intro i k o h;unfold gu at h;split at h
  ·rename_i hx;simp only [Option.some.injEq,Prod.mk.injEq] at h;obtain ⟨rfl,rfl⟩:=h;simp only [av,bb] at hx;exact ⟨0,rfl,rfl,hx.1,hx.2.2,hx.2.1⟩
  ·obtain ⟨j,e,h2⟩:=ih (i+1) k o h;exact ⟨j+1,by omega,by simpa using h2⟩
def LD {done:Nat}:∀(l:List Oper) (i:Nat) (j:Nat) (o:Oper),l[j]? =some o->tb done (i+j)=false->rdy done o=true->kS o.op=false->(i+j,o)∈gw done l i:=by
 intro l
 induction l with
 |nil=>intro i j o h;simp at h
 |cons x l ih=>
  intro i j o hj hd hr hn;unfold gw
  cases j with
  |zero=>
   simp only [cg,Option.some.injEq] at hj;subst hj;simp only [ca] at hd ⊢;simp only [hd,hr,hn,cq,cj];exact b0
  |succ j=>
   simp only [ch] at hj;have:=ih (i+1) j o hj (by rw [<-hd];congr 1;omega) hr hn;have e:i+1+j=i+(j+1):=by omega
   rw [e] at this;split
   ·exact b5 _ this
   ·exact this
def PH {α:Type} {f:α->Prop}:∀(l:List α) (x:α),xP f x l->∀y∈x::l,f y:=by
 intro l
 induction l with
 |nil=>intro x h y hy;simp at hy;subst hy;exact h
 |cons z l ih=>
  intro x h y hy;rcases List.mem_cons.1 hy with rfl|hy
  ·exact h.1
  ·exact ih z h.2 y hy
def PI {done:Nat} {m:Nat}:∀(l:List Oper) (i:Nat) (j:Nat) (o:Oper),l[j]? =some o->tb done (i+j)=true->kS o.op=true->free o.op=false->tb m (i+j)=false->o∈xO done m l i:=by
 intro l
 induction l with
 |nil=>intro i j o h;simp at h
 |cons x l ih=>
  intro i j o hj hd hr hf hm;unfold xO
  cases j with
  |zero=>
   simp only [cg,Option.some.injEq] at hj;subst hj;simp only [ca] at hd hm;simp only [hd,hr,hf,hm,cq,cj];exact b0
  |succ j=>
   simp only [ch] at hj;have e:i+1+j=i+(j+1):=by omega
   have:=ih (i+1) j o hj (by rw [e];exact hd) hr hf (by rw [e];exact hm);split
   ·exact b5 _ this
   ·exact this
def xQ {P:Program} {ops:List Oper} {fr:Fr} {w:an} {X:Prop}:∀(l:List Oper),eZ P ops l fr w X->X/\∀o∈l,dz ops o fr=true->agS P o.op o.type (evO fr) w (jo o fr):=by
 intro l
 induction l with
 |nil=>intro h;exact ⟨h,λo ho=>by cases ho⟩
 |cons x l ih=>
  intro h;unfold eZ at h;obtain ⟨h1,h2⟩:=h;obtain ⟨hX,hl⟩:=ih h2;refine ⟨hX,λo ho hw=> ?_⟩;rcases List.mem_cons.1 ho with rfl|ho
  ·unfold dz at hw
   cases hg:o.guard with
   |none=>rw [hg] at h1;exact h1
   |some g=>
    obtain ⟨j,a⟩:=g;rw [hg] at h1 hw;simp only [gq] at h1;simp only [isB] at hw
    cases hx:p9 ops j fr<;>rw [hx] at h1 hw<;>simp at hw;subst hw;rename_i b
    cases b<;>exact h1
  ·exact hl o ho hw
def re:∀(l:List Bool) (i:Nat),i<l.length->l.getD i false=false->(l.set i true).count false+1=l.count false:=by
 intro l
 induction l with
 |nil=>intro i h;simp at h
 |cons x l ih=>
  intro i h hx
  cases i with
  |zero=>simp at hx;subst hx;simp
  |succ i=>
   simp at h hx;have:=ih i h (by simpa using hx);simp only [List.set_cons_succ,List.count_cons];omega
def k9:∀(l:List Bool),l.count false=0->∀i,i<l.length->l.getD i false=true:=by
 intro l
 induction l with
 |nil=>intro _ i h;simp at h
 |cons x l ih=>
  intro h i hi
  cases x with
  |false=>simp at h
  |true=>
   cases i with
   |zero=>simp
   |succ i=>simp at hi h;simpa using ih (by simpa using h) i hi
def uk {p q:Nat->Bool} {i:Nat} (a:p i=true) (c:q i=false) (h:∀j,j≠i->p j=q j):∀(n:Nat),i<n->(List.range n).countP q+1=(List.range n).countP p:=by
 have b:∀n,n<=i->(List.range n).countP q=(List.range n).countP p:=by
  intro n hn;refine List.countP_congr λj hj=> ?_
  rw [cO] at hj;rw [h j (by omega)]
 intro n
 induction n with
 |zero=>intro h;omega
 |succ n ih=>
  intro hi;rw [List.range_succ,dc,dc];by_cases e:i=n
  ·subst e;rw [b i (c9 _)];simp [a,c]
  ·have:=ih (by omega);simp only [List.countP_singleton];rw [h n (λe'=>e e'.symm)];omega
def uH {done i n:Nat} (hi:i<n) (h:tb done i=false):iD (sb done i) n+1=iD done n:=by
 unfold iD;refine uk (i:=i) (by simp [h]) (by simp [Im]) (λj hj=> ?_) n hi;rw [Im,if_neg (λe=>hj e.symm)]
def xS {done n:Nat} (h:iD done n=0) (i:Nat) (hi:i<n):tb done i=true:=by
 unfold iD at h;rw [List.countP_eq_zero] at h;have:=h i (List.mem_range.2 hi);simpa using this
def In (i:Nat):tb 0 i=false:=by rw [Bx];exact dk i
structure Inv (P:Program) (nt:Nat) (ops:List Oper) (listed:Array Bool) (frs:Fr) (done:Nat) (fr:Fr) (w:an):Prop where
 szL:listed.size=ops.length
 lenS:frs.length=nt
 len:fr.length=nt
 sub:∀i,listed.getD i false=true->tb done i=true
 dcL:∀i o e,ops[i]? =some o->listed.getD i false=true->e∈o.after.toList->dA e=true->listed.getD e.on false=true
 dcD:∀i o e,ops[i]? =some o->tb done i=true->e∈o.after.toList->dA e=true->tb done e.on=true
 only:∀i o,ops[i]? =some o->tb done i=true->listed.getD i false=false->kS o.op=true/\(dz ops o fr=true->yl P o (evO fr) w (jo o fr))/\(dz ops o fr=false->jo o fr=undef)
 agree:∀s,(∀i o,ops[i]? =some o->tb done i=true->listed.getD i false=false->o.dst≠some s)->fr.getD s undef=frs.getD s undef
section
variable {P:Program} {nt:Nat} {ops:List Oper} {bef:List Nat}
def cf {k:Nat} {o:Oper} (hk:ops[k]? =some o):k<ops.length:=by
 rcases co k ops.length with h|h
 ·exact h
 ·rw [cn h] at hk;cases hk
def iG (b:gP P nt ops bef=true) (S:Nat->Prop) (hS:∀i o e,ops[i]? =some o->S i->e∈o.after.toList->dA e=true->S e.on):
  ∀k o,ops[k]? =some o->(∀e∈o.after.toList,dA e=true->S e.on)->∀i,i<ops.length->tb (bef.getD k 0) i=true->S i:=by
 intro k
 induction k using dp with
 |_ k ih=>
  intro o hk hp i hi ht;have F:=bf b hk;obtain ⟨e,he,hb,h⟩:=F.anc i hi ht;rcases h with rfl|h
  ·exact hp e he hb
  ·have a:=F.back e he hb;have d:e.on<ops.length:=d3 a (cf hk);have ho:ops[e.on]? =some ops[e.on]:=cc d;exact ih e.on a _ ho (λe' f c=>hS e.on _ e' ho (hp e he hb) f c) i hi h
def xT (a:gP P nt ops bef=true) {k:Nat} {o:Oper} (hk:ops[k]? =some o) {d:Nat} (hd:o.dst=some d):d<nt:=by
 have:=(bf a hk).self;simp only [kZ,hd,av] at this;have:=this.1
 rwa [ea] at this
def BA (a:gP P nt ops bef=true) {k:Nat} {o:Oper} (hk:ops[k]? =some o) (hr:kS o.op=true) {fr:Fr} (hl:fr.length=nt) (v:al):jo o (put fr o.dst v)=v:=by
 unfold jo
 cases hd:o.dst with
 |none=>have:=(bf a hk).self;simp [kZ,hd,hr] at this
 |some d=>exact fa (by rw [hl];exact xT a hk hd)
def Inv.read (g:gP P nt ops bef=true) {b:Array Bool} {q:Fr} {done:Nat} {fr:Fr} {w:an} (I:Inv P nt ops b q done fr w) {k:Nat} {o:Oper} (hk:ops[k]? =some o) (hd:tb done k=false) (hr:rdy done o=true) (f:kS o.op=true)
  {v:al} (hy:dz ops o fr=true->yl P o (evO fr) w v) (hn:dz ops o fr=false->v=undef):Inv P nt ops b q (sb done k) (put fr o.dst v) w:=by
 have y:=cf hk;have F:=bf g hk;have t:∀e∈o.after.toList,dA e=true->tb done e.on=true:=by
  intro e he hb;have:=List.all_eq_true.1 hr e he;simpa [hb] using this
 have z:b.getD k false=false:=by
  cases h:b.getD k false with
  |false=>rfl
  |true=>rw [I.sub k h] at hd;cases hd
 have n:∀s∈mg ops o,o.dst≠some s:=by
  intro s hs e;have:=F.self;simp only [kZ,e,av,f,b7,cx,bb] at this;have h2:=this.2;rw [List.contains_iff_mem.2 hs] at h2
  cases h2
 have l:∀j p,ops[j]? =some p->tb done j=true->p.dst≠o.dst/\∀s∈mg ops p,o.dst≠some s:=by
  intro j p hj r;have u:j≠k:=λe=>by subst e;rw [r] at hd;cases hd
  have hp:=F.pair j p hj
  cases hdst:o.dst with
  |none=>have:=F.self;simp [kZ,hdst,f] at this
  |some d=>
   simp only [rc,hdst,f,b9,av,bb] at hp;rcases hp with hp|⟨hp1,hp2⟩
   ·exact absurd (bd hp) u
   ·refine ⟨λe=>by rw [e] at hp1;simp at hp1,λs hs e=> ?_⟩;simp only [Option.some.injEq] at e;subst e;rcases hp2 with hp2|hp2
    ·rw [List.contains_iff_mem.2 hs] at hp2;cases hp2
    ·have:=iG g (λi=>tb done i=true) I.dcD j p hj (λe he hb=>I.dcD j p e hj r he hb) k y hp2;rw [this] at hd;cases hd
 have c:∀j,tb (sb done k) j=if k=j then true else tb done j:=λj=>Im done k j
 refine ⟨I.szL,I.lenS,by rw [ez];exact I.len,?_,I.dcL,?_,?_,?_⟩
 ·intro i hi;rw [c];split
  ·rfl
  ·exact I.sub i hi
 ·intro i p e hi a he hb;rw [c] at a ⊢;split
  ·rfl
  ·split at a
   ·rename_i e1;subst e1;rw [hk] at hi;cases hi;exact t e he hb
   ·exact I.dcD i p e hi a he hb
 ·intro i p hi a m;rw [c] at a;split at a
  ·rename_i e1;subst e1;rw [hk] at hi;cases hi;have hs:=iF (ops:=ops) (o:=o) (fr:=put fr o.dst v) (fr':=fr) (λs hs=>dD (n s hs));refine ⟨f,λhw=> ?_,λhw=> ?_⟩
   ·rw [BA g hk f I.len];rw [hs.1] at hw;unfold yl;rw [hs.2 F.sel];exact hy hw
   ·rw [BA g hk f I.len];rw [hs.1] at hw;exact hn hw
  ·obtain ⟨x,A⟩:=l i p hi a;have hs:=iF (ops:=ops) (o:=p) (fr:=put fr o.dst v) (fr':=fr) (λs hs=>dD (A s hs));have hv:jo p (put fr o.dst v)=jo p fr:=by
    unfold jo
    cases hpd:p.dst with
    |none=>rfl
    |some d=>exact dD (λe=>x (by rw [hpd,e]))
   obtain ⟨b1,b2,b3⟩:=I.only i p hi a m;refine ⟨b1,λhw=> ?_,λhw=> ?_⟩
   ·rw [hs.1] at hw;rw [hv];unfold yl;rw [hs.2 (bf g hi).sel];exact b2 hw
   ·rw [hs.1] at hw;rw [hv];exact b3 hw
 ·intro s hs;have h1:=hs k o hk (by rw [c,if_pos rfl]) z;rw [dD h1];exact I.agree s (λi p hi a m=>hs i p hi (by rw [c];split;exact rfl;exact a) m)
def Inv.catch (g:gP P nt ops bef=true) {a:Array Bool} {f:Fr} {done:Nat} {fr:Fr} {w:an} (I:Inv P nt ops a f done fr w) {k:Nat} {o:Oper} (hk:ops[k]? =some o) (hd:tb done k=true)
  (hp:∀e∈o.after.toList,dA e=true->a.getD e.on false=true) {v:al} (hv:jo o fr=v):Inv P nt ops (a.setIfInBounds k true) (put f o.dst v) done fr w:=by
 have h:=cf hk;have c:∀j,(a.setIfInBounds k true).getD j false=if k=j then true else a.getD j false:=by
  intro j;have l:k<a.size:=by rw [I.szL];exact h
  by_cases e:k=j
  ·subst e;simp [aA,l]
  ·simp [aA,e]
 refine ⟨by simp [I.szL],by rw [ez];exact I.lenS,I.len,?_,?_,I.dcD,?_,?_⟩
 ·intro i hi;rw [c] at hi;split at hi
  ·rename_i e;subst e;exact hd
  ·exact I.sub i hi
 ·intro i p e hi b he hb;rw [c] at b ⊢;split
  ·rfl
  ·split at b
   ·rename_i e1;subst e1;rw [hk] at hi;cases hi;exact hp e he hb
   ·exact I.dcL i p e hi b he hb
 ·intro i p hi d b;rw [c] at b;split at b
  ·cases b
  ·exact I.only i p hi d b
 ·intro s hs;by_cases e:o.dst=some s
  ·rw [e];rw [fa (by rw [I.lenS];exact xT g hk e)];rw [<-hv];unfold jo;rw [e]
  ·rw [dD e];refine I.agree s (λi p hi d b=> ?_);by_cases e1:k=i
   ·subst e1;rw [hk] at hi;cases hi;exact e
   ·exact hs i p hi d (by rw [c,if_neg e1];exact b)
def Inv.act (l:gP P nt ops bef=true) {a:Array Bool} {u:Fr} {done:Nat} {fr:Fr} {w:an} (I:Inv P nt ops a u done fr w) {k:Nat} {o:Oper} (hk:ops[k]? =some o) (hd:tb done k=false) (B:kS o.op=false)
  (hp:∀e∈o.after.toList,dA e=true->a.getD e.on false=true) {v:al} {w':an}
  (y:∀p∈xO done (bef.getD k 0) ops 0,dz ops p (put fr o.dst v)=true->agS P p.op p.type (evO (put fr o.dst v)) w' (jo p (put fr o.dst v))):
  Inv P nt ops (a.setIfInBounds k true) (put u o.dst v) (sb done k) (put fr o.dst v) w':=by
 have x:=cf hk;have F:=bf l hk;have f:∀j,tb (sb done k) j=if k=j then true else tb done j:=λj=>Im done k j
 have g:∀j,(a.setIfInBounds k true).getD j false=if k=j then true else a.getD j false:=by
  intro j;have z:k<a.size:=by rw [I.szL];exact x
  by_cases e:k=j
  ·subst e;simp [aA,z]
  ·simp [aA,e]
 have t:∀j p,ops[j]? =some p->tb done j=true->a.getD j false=false->tb (bef.getD k 0) j=false:=by
  intro j p hj n q
  cases ht:tb (bef.getD k 0) j with
  |false=>rfl
  |true=>
   have:=iG l (λi=>a.getD i false=true) I.dcL k o hk hp j (cf hj) ht;rw [this] at q;cases q
 have r:∀j p,ops[j]? =some p->tb done j=true->a.getD j false=false->(o.dst≠none->p.dst≠o.dst)/\∀s∈mg ops p,o.dst≠some s:=by
  intro j p hj n q;have m:j≠k:=λe=>by subst e;rw [n] at hd;cases hd
  have hp':=F.pair j p hj
  cases hdst:o.dst with
  |none=>exact ⟨λh=>absurd rfl h,λs _ e=>by cases e⟩
  |some d=>
   simp only [rc,hdst,B,b9,av,bb] at hp';rcases hp' with hp'|⟨hp1,hp2⟩|hp'|hp'
   ·exact absurd (bd hp') m
   ·refine ⟨λ_ e=>by rw [e] at hp1;simp at hp1,λs hs e=> ?_⟩;simp only [Option.some.injEq] at e;subst e;rw [List.contains_iff_mem.2 hs] at hp2;cases hp2
   ·have:=iG l (λi=>tb done i=true) I.dcD j p hj (λe he hb=>I.dcD j p e hj n he hb) k x hp';rw [this] at hd;cases hd
   ·rw [t j p hj n q] at hp';cases hp'
 refine ⟨by simp [I.szL],by rw [ez];exact I.lenS,by rw [ez];exact I.len,?_,?_,?_,?_,?_⟩
 ·intro i hi;rw [f];rw [g] at hi;split
  ·rfl
  ·rename_i e;rw [if_neg e] at hi;exact I.sub i hi
 ·intro i p e hi c he hb;rw [g] at c ⊢;split
  ·rfl
  ·split at c
   ·rename_i e1;subst e1;rw [hk] at hi;cases hi;exact hp e he hb
   ·exact I.dcL i p e hi c he hb
 ·intro i p e hi b he hb;rw [f] at b ⊢;split
  ·rfl
  ·split at b
   ·rename_i e1;subst e1;rw [hk] at hi;cases hi;exact I.sub _ (hp e he hb)
   ·exact I.dcD i p e hi b he hb
 ·intro i p hi b c;rw [f] at b;rw [g] at c;split at c
  ·cases c
  ·rename_i e1;rw [if_neg e1] at b;obtain ⟨A,C⟩:=r i p hi b c;have hs:=iF (ops:=ops) (o:=p) (fr:=put fr o.dst v) (fr':=fr) (λs hs=>dD (C s hs));have hv:jo p (put fr o.dst v)=jo p fr:=by
    unfold jo
    cases hpd:p.dst with
    |none=>rfl
    |some d=>
     refine dD (λe=> ?_);exact A (by rw [e];simp) (by rw [hpd,e])
   obtain ⟨b1,b2,b3⟩:=I.only i p hi b c;refine ⟨b1,λhw=> ?_,λhw=> ?_⟩
   ·have hy:yl P p (evO (put fr o.dst v)) w (jo p (put fr o.dst v)):=by
     rw [hv];unfold yl;rw [hs.2 (bf l hi).sel];exact b2 (by rw [<-hs.1];exact hw)
    refine LC b1 hy ?_
    cases hf:free p.op with
    |true=>exact .inl rfl
    |false=>exact .inr (y p (PI ops 0 i p hi (by simpa using b) b1 hf (by simpa using t i p hi b c)) hw)
   ·rw [hv];exact b3 (by rw [<-hs.1];exact hw)
 ·intro s hs;by_cases e:o.dst=some s
  ·rw [e,fa (by rw [I.len];exact xT l hk e),fa (by rw [I.lenS];exact xT l hk e)]
  ·rw [dD e,dD e];refine I.agree s (λi p hi b c=> ?_);have m:k≠i:=λe1=>by subst e1;rw [b] at hd;cases hd
   exact hs i p hi (by rw [f,if_neg m];exact b) (by rw [g,if_neg m];exact c)
def LE {o:Oper} {fr:Fr} {w:an} {k:al->Prop} (h:Bz P ops o fr w k):∃v,(dz ops o fr=true->yl P o (evO fr) w v)/\(dz ops o fr=false->v=undef)/\k v:=by
 unfold Bz at h;unfold dz
 cases hg:o.guard with
 |none=>
  rw [hg] at h;obtain ⟨v,h1,h2⟩:=nI h;exact ⟨v,λ_=>h1,(λh=>by cases h),h2⟩
 |some g=>
  obtain ⟨j,a⟩:=g;rw [hg] at h;simp only [gdR] at h;simp only [isB]
  cases hx:p9 ops j fr<;>rw [hx] at h<;>simp only at h ⊢
  case bool b=>
   cases b<;>cases a<;>simp only at h
   ·obtain ⟨v,h1,h2⟩:=nI h;exact ⟨v,λ_=>h1,(λh=>by cases h),h2⟩
   ·exact ⟨undef,(λh=>by cases h),λ_=>rfl,h⟩
   ·exact ⟨undef,(λh=>by cases h),λ_=>rfl,h⟩
   ·obtain ⟨v,h1,h2⟩:=nI h;exact ⟨v,λ_=>h1,(λh=>by cases h),h2⟩
  all_goals exact ⟨undef,(λh=>by cases h),λ_=>rfl,h⟩
def xU (d:gP P nt ops bef=true) {k:KF} {b:Array Bool} {c:Fr} {w:an}:∀(n:Nat) (done:Nat) (fr:Fr),Inv P nt ops b c done fr w->iD done ops.length<=n->jl P ops bef k n done fr w->
  ∃n' a fr',Inv P nt ops b c a fr' w/\iD a ops.length<=n'/\jl P ops bef k n' a fr' w/\gu a ops 0=none:=by
 intro n
 induction n with
 |zero=>
  intro done fr I hc h;refine ⟨0,done,fr,I,hc,h,?_⟩
  cases hf:gu done ops 0 with
  |none=>rfl
  |some x=>
   obtain ⟨i,o⟩:=x;obtain ⟨j,e,hj,hd,_⟩:=fT ops 0 i o hf;have:=xS (n:=ops.length) (done:=done) (by omega) i (by have:=cf hj;omega);rw [this] at hd;cases hd
 |succ n ih=>
  intro done fr I hc h
  cases hf:gu done ops 0 with
  |none=>exact ⟨n+1,done,fr,I,hc,h,hf⟩
  |some x=>
   obtain ⟨i,o⟩:=x;obtain ⟨j,e,hj,hd,hr,f⟩:=fT ops 0 i o hf;have e':i=j:=by omega
   subst e';unfold jl at h;rw [hf] at h;obtain ⟨v,h1,h2,h3⟩:=LE h;have:=uH (n:=ops.length) (cf hj) hd;exact ih _ _ (I.read d hj hd hr f h1 h2) (by omega) h3
def uI {a:Array Bool} (c:a.size=ops.length) {i:Nat} (h:i∈Region.ready .any ops.toArray a):∃o,ops[i]? =some o/\a.getD i false=false/\∀e∈o.after.toList,dA e=true->a.getD e.on false=true:=by
 unfold Region.ready at h;rw [dl,cO] at h;obtain ⟨hi,h⟩:=h;simp only [b4] at hi;have ho:ops[i]? =some ops[i]:=cc hi;simp only [b6,ho,df,cd,av,bb] at h;refine ⟨_,ho,?_,?_⟩
 ·have b:i<a.size:=by rw [c];exact hi
  have:=h.1;simp only [aA,cN b,cd] at this ⊢;exact this
 ·intro e he hb;have:=(Array.all_eq_true_iff_forall_mem.1 h.2) e (by simpa using he);unfold dA at hb;rw [hb] at this;exact this
def Em (c:gP P nt ops bef=true) {a:Array Bool} (g:a.size=ops.length) (h:Region.ready .any ops.toArray a= []):∀i,i<ops.length->a.getD i false=true:=by
 intro i
 induction i using dp with
 |_ i ih=>
  intro hi
  cases hl:a.getD i false with
  |true=>rfl
  |false=>
   exfalso;have ho:ops[i]? =some ops[i]:=cc hi;have F:=bf c ho;have hm:i∈Region.ready .any ops.toArray a:=by
    unfold Region.ready;rw [dl,cO];refine ⟨by simpa using hi,?_⟩;have d:i<a.size:=by rw [g];exact hi
    simp only [b6,ho,df,cd,av,bb];refine ⟨?_,?_⟩
    ·simp only [aA,cN d,cd] at hl ⊢;exact hl
    ·refine Array.all_eq_true_iff_forall_mem.2 λe he=> ?_
     have f:e∈(ops[i]).after.toList:=by simpa using he
     cases hb:Region.binds .any e with
     |false=>rfl
     |true=>
      have b:=F.back e f hb;simp [ih e.on b (d3 b hi)]
   rw [h] at hm;cases hm
def PJ {a b:Fr} (hl:a.length=b.length) (h:∀s,a.getD s undef=b.getD s undef):a=b:=by
 refine List.ext_getElem hl λi h1 h2=> ?_
 have:=h i;simpa [a8,h1,h2] using this
def BB {k:KF} {a:Array Bool} {c:Fr} {w:an} {n:Nat} {done:Nat} {fr:Fr} (I:Inv P nt ops a c done fr w) (hl:∀i,i<ops.length->a.getD i false=true) (h:jl P ops bef k n done fr w):k c w:=by
 have f:fr=c:=by
  refine PJ (by rw [I.len,I.lenS]) λs=>I.agree s λi o hi g d=> ?_
  rw [hl i (cf hi)] at d;cases d
 subst f;have b:∀i,i<ops.length->tb done i=true:=λi hi=>I.sub i (hl i hi)
 cases n with
 |zero=>exact h
 |succ n=>
  unfold jl at h;have hf:gu done ops 0=none:=by
   cases hf:gu done ops 0 with
   |none=>rfl
   |some x=>
    obtain ⟨i,o⟩:=x;obtain ⟨j,e,hj,hd,_⟩:=fT ops 0 i o hf;have:=b i (by have:=cf hj;omega);rw [this] at hd;cases hd
  rw [hf] at h;have hn:gw done ops 0= []:=by
   have key:∀(l:List Oper) (i:Nat),(∀j,j<l.length->tb done (i+j)=true)->gw done l i= []:=by
    intro l
    induction l with
    |nil=>intro i _;rfl
    |cons x l ih=>
     intro i hh;unfold gw;have h0:=hh 0 (by simp);simp only [ca] at h0;simp only [h0,b7,cb];exact ih (i+1) (λj hj=>by have:=hh (j+1) (by simpa using hj);rw [show i+1+j=i+(j+1) by omega];exact this)
   exact key ops 0 (λj hj=>by simpa using b j hj)
  rw [hn] at h;exact h
def PK {ro:Option Nat} {ds:List Deferred} (b:gP P nt ops bef=true) {Q:Exit->Act->an->Prop} {k:KF} (hk:∀fr w,fr.length=nt->k fr w->Q .normal (aT ds fr) w):
  ∀(m:Nat) (a:Array Bool) (f:Fr) (w:an) (n:Nat) (done:Nat) (fr:Fr),Inv P nt ops a f done fr w->iD done ops.length<=n->a.toList.count false<=m->jl P ops bef k n done fr w->wpAnyIn (FW ro) 0 P .any ops.toArray Q m a (aT ds f) w:=by
 intro m
 induction m with
 |zero=>
  intro a f w n done fr I hc hm h;have hl:∀i,i<ops.length->a.getD i false=true:=by
   intro i hi;have:=k9 a.toList (by omega) i (by simpa [I.szL] using hi);simpa [a8,aA] using this
  refine ⟨?_,hk _ _ I.lenS (BB I hl h)⟩
  cases hr:Region.ready .any ops.toArray a with
  |nil=>rfl
  |cons i l=>
   obtain ⟨o,ho,q,_⟩:=uI I.szL (i:=i) (by rw [hr];exact b0);rw [hl i (cf ho)] at q;cases q
 |succ m ih=>
  intro a f w n0 z G I0 C hm h0;obtain ⟨n,done,fr,I,hc,h,hf⟩:=xU b n0 z G I0 C h0;refine ⟨λhr=>hk _ _ I.lenS (BB I (Em b I.szL hr) h),λi hi=> ?_⟩;obtain ⟨o,ho,q,hp⟩:=uI I.szL hi;have F:=bf b ho;have A:=cf ho;have t:(a.setIfInBounds i true).toList.count false<=m:=by
   have:=re a.toList i (by simpa [I.szL] using A) (by simpa [a8,aA] using q);simp only [Array.toList_setIfInBounds];omega
  unfold wpOpIn;simp only [b6,ho];rw [uF];have D:∀s∈mg ops o,fr.getD s undef=f.getD s undef:=by
   intro s hs;refine I.agree s λj p hj E y e=> ?_
   have r:=(I.only j p hj E y).1;have B:i≠j:=by
    intro e1;subst e1;rw [ho] at hj;cases hj;have:=F.self;simp only [kZ,e,r,b7,cx,av,bb] at this;have h2:=this.2;rw [List.contains_iff_mem.2 hs] at h2
    cases h2
   have:=(bf b hj).pair i o ho;simp only [rc,e,r,b9,av,bb] at this;rcases this with this|⟨_,this⟩
   ·exact B (bd this)
   ·rcases this with this|this
    ·rw [List.contains_iff_mem.2 hs] at this;cases this
    ·have:=iG b (λi=>a.getD i false=true) I.dcL i o ho hp j (cf hj) this;rw [this] at y;cases y
  have g:=iF D;rw [<-g.1]
  cases hd:tb done i with
  |true=>
   obtain ⟨b1,b2,b3⟩:=I.only i o ho hd q
   cases hw:dz ops o fr with
   |true=>
    rw [if_pos rfl];refine ⟨λ_ _=>trivial,?_⟩;have hy:=b2 hw;unfold yl at hy;rw [g.2 F.sel] at hy;rw [ey,Oper.semAt_eq _ _ _ (λc e=>by rw [e] at b1;cases b1),hy,Oper.uponIn_value,dN];exact ih _ _ _ _ _ _ (I.catch b ho hd hp rfl) hc t h
   |false=>
    rw [if_neg (by simp),dN];exact ⟨λ_ _=>trivial,ih _ _ _ _ _ _ (I.catch b ho hd hp (b3 hw)) hc t h⟩
  |false=>
   have u:rdy done o=true:=by
    refine List.all_eq_true.2 λe he=> ?_
    cases hb:dA e with
    |false=>rfl
    |true=>rw [I.sub _ (hp e he hb)];rfl
   have r:=El ops 0 hf i o ho (by simpa using hd) u;have d:=LD ops 0 i o ho (by simpa using hd) u r;simp only [c7] at d;have J:=uH (n:=ops.length) A hd
   cases n with
   |zero=>omega
   |succ n=>
    unfold jl at h;rw [hf] at h;have h2:qm P ops o fr w (λv w'=>eZ P ops (xO done (bef.getD i 0) ops 0) (put fr o.dst v) w' (jl P ops bef k n (sb done i) (put fr o.dst v) w')):=by
     cases hn:gw done ops 0 with
     |nil=>rw [hn] at d;cases d
     |cons x l=>
      rw [hn] at h d;exact PH l x h (i,o) d
    have step:∀v w',eZ P ops (xO done (bef.getD i 0) ops 0) (put fr o.dst v) w' (jl P ops bef k n (sb done i) (put fr o.dst v) w')->wpAnyIn (FW ro) 0 P .any ops.toArray Q m (a.setIfInBounds i true) (aT ds (put f o.dst v)) w':=by
     intro v w' H;obtain ⟨h3,h4⟩:=xQ _ H;exact ih _ _ _ _ _ _ (I.act b ho hd r hp h4) (by omega) t h3
    cases hw:dz ops o fr with
    |true=>
     rw [if_pos rfl];refine ⟨λ_ _=>trivial,?_⟩;have h5:=uE (Bw fr) F.ok (q9 h2 hw);rw [g.2 F.sel] at h5;rw [ey,Oper.semAt_eq _ _ _ (λc e=>by have h6:=q9 h2 hw;rw [e] at h6;exact h6.elim)];exact kY h5 step
    |false=>
     rw [if_neg (by simp),dN];exact ⟨λ_ _=>trivial,step _ _ (Ik h2 hw)⟩
def En {ro:Option Nat} {ds:List Deferred} (a:gP P nt ops bef=true) (hm:P.follows .mixedOrders=true) {Q:Exit->Act->an->Prop} {k:KF} (hk:∀fr w,fr.length=nt->k fr w->Q .normal (aT ds fr) w) {id:Nat} {fr:Fr} {w:an} (hl:fr.length=nt)
  (h:jl P ops bef k ops.length 0 fr w.drew):(Code.region id ops.toArray true).wpIn (FW ro) 0 P Q (aT ds fr) w:=by
 refine wpIn_region_any hm ?_;have hr:∀i,(Array.replicate ops.length false).getD i false=false:=λi=>by
  simp only [aA,Array.getElem?_replicate];split<;>rfl
 refine PK a hk _ _ _ _ ops.length 0 fr ⟨by simp,hl,hl,?_,?_,?_,?_,?_⟩ (by unfold iD;exact d4 List.countP_le_length (by simp)) (by simp) h
 ·intro i h;simp only [b4,hr] at h;cases h
 ·intro i o e _ h;simp only [b4,hr] at h;cases h
 ·intro i o e _ h;rw [In] at h;cases h
 ·intro i o _ h;rw [In] at h;cases h
 ·intro s _;rfl
end
def ae (x:al) (A B:Prop):Prop:=
 match x with
 | .bool true=>A
 | .bool false=>B
 |_=>False
def ab1 (a:KF->KF) (fr:Fr) (w:an):Prop:=
 ∃(I:KF) (μ:Fr->an->Nat),I fr w/\∀fr w,I fr w->a (λfr' w'=>I fr' w'/\μ fr' w'<μ fr w) fr w
def exB (id:Nat) (k:KF) (e:Nat->KF) (j:Nat):KF:=
 match Nat.beq j id with
 |true=>k
 |false=>e j
def dW (P:Program):Code->KF->KF->(Nat->KF)->KF
 | .skip,k,_,_,fr,w=>k fr w
 | .region _ ops d,k,_,_,fr,w=>match d with
  |false=>LB P ops.toList ops.toList k fr w
  |true=>jl P ops.toList (By ops.toList []) k ops.toList.length 0 fr w.drew
 | .seq a b,k,r,e,fr,w=>dW P a (λfr w=>dW P b k r e fr w) r e fr w
 | .cond c x y,k,r,e,fr,w=>ae (evO fr c) (dW P x k r e fr w) (dW P y k r e fr w)
 | .block id c,k,r,e,fr,w=>dW P c k r (exB id k e) fr w
 | .loop c,_,r,e,fr,w=>ab1 (λE fr w=>dW P c E r e fr w) fr w
 | .exit id,_,_,e,fr,w=>e id fr w
 | .ret,_,r,_,fr,w=>r fr w
 |_,_,_,_,_,_=>False
def dL (P:Program) (nt:Nat):Code->Bool
 | .region _ ops d=>match d with
  |false=>ops.toList.all λo=>Ly P o.op
  |true=>gP P nt ops.toList (By ops.toList [])
 | .seq a b=>dL P nt a&&dL P nt b
 | .cond _ a b=>dL P nt a&&dL P nt b
 | .block _ c=>dL P nt c
 | .loop c=>dL P nt c
 |_=>true
def gy {P:Program} {ro:Option Nat} {ds:List Deferred} {nt:Nat} (hm:P.follows .mixedOrders=true):∀(c:Code) {Q:Exit->Act->an->Prop} {k r:KF} {e:Nat->KF},dL P nt c=true->
  (∀fr w,fr.length=nt->k fr w->Q .normal (aT ds fr) w)->(∀fr w,fr.length=nt->r fr w->Q .ret (aT ds fr) w)->(∀j fr w,fr.length=nt->e j fr w->Q (.exit j) (aT ds fr) w)->
  ∀(fr:Fr) (w:an),fr.length=nt->dW P c k r e fr w->c.wpIn (FW ro) 0 P Q (aT ds fr) w:=by
 intro c
 induction c with
 |skip=>intro Q k r e _ hk _ _ fr w hl h;exact wpIn_skip (hk _ _ hl h)
 |region id ops d=>
  intro Q k r e f hk _ _ fr w hl h
  cases d with
  |false=>
   refine wpIn_region_list ?_;have:=Ek (ro:=ro) (ds:=ds) (P:=P) (ops:=ops.toList) (Q:=Q) hk ops.toList fr w hl f h;simpa using this
  |true=>
   have:=En (ro:=ro) (ds:=ds) (P:=P) (id:=id) f hm hk hl h;simpa using this
 |seq a b iha ihb=>
  intro Q k r e f hk hr he fr w hl h;simp only [dL,av] at f;refine wpIn_seq (iha f.1 ?_ ?_ ?_ fr w hl h)
  ·intro fr w hl h;exact ihb f.2 hk hr he fr w hl h
  ·intro fr w hl h;exact hr fr w hl h
  ·intro j fr w hl h;exact he j fr w hl h
 |cond c x y ihx ihy=>
  intro Q k r e f hk hr he fr w hl h;simp only [dL,av] at f;simp only [dW,ae] at h;have hc:(aT ds fr).eval c=evO fr c:=by rw [ey]
  split at h
  ·rename_i hx;exact wpIn_cond_true (by rw [hc,hx]) (ihx f.1 hk hr he fr w hl h)
  ·rename_i hx;exact wpIn_cond_false (by rw [hc,hx]) (ihy f.2 hk hr he fr w hl h)
  ·exact h.elim
 |block id c ih=>
  intro Q k r e f hk hr he fr w hl h;refine wpIn_block (ih f ?_ ?_ ?_ fr w hl h)
  ·intro fr w hl h;exact hk fr w hl h
  ·intro fr w hl h;exact hr fr w hl h
  ·intro j fr w hl h;unfold exB at h;simp only [Exit.inBlock]
   cases hj:Nat.beq j id with
   |true=>rw [hj] at h;rw [if_pos (bd hj)];exact hk fr w hl h
   |false=>rw [hj] at h;rw [if_neg (Nat.ne_of_beq_eq_false hj)];exact he j fr w hl h
 |loop c ih=>
  intro Q k r e f hk hr he fr w hl h;obtain ⟨I,μ,h0,g⟩:=h;refine wpIn_loop (λa w=>∃fr,a=aT ds fr/\fr.length=nt/\I fr w) (λa w=>μ a.tmps.toList w) ⟨fr,rfl,hl,h0⟩ ?_;rintro a w ⟨fr,rfl,hl,hI⟩;refine ih f ?_ ?_ ?_ fr w hl (g fr w hI)
  ·intro fr' w' i h';exact ⟨⟨fr',rfl,i,h'.1⟩,by simpa [aT] using h'.2⟩
  ·intro fr w hl h;exact hr fr w hl h
  ·intro j fr w hl h;exact he j fr w hl h
 |exit id=>intro Q k r e _ _ _ he fr w hl h;exact wpIn_exit (he _ _ _ hl h)
 |ret=>intro Q k r e _ _ hr _ fr w hl h;exact wpIn_ret (hr _ _ hl h)
 |_=>intro Q k r e _ _ _ _ fr w _ h;exact h.elim
def ab2 (t:TypeId) (x:al):Sem al:=do loadVar t (<-asAddr x)
def xV (P:Program):List ResultVar->Fr->an->(List al->Prop)->Prop
 | [],_,_,k=>k []
 | .tmp t::rs,fr,w,k=>xV P rs fr w (λvs=>k (fr.getD t undef::vs))
 | .cell a t::rs,fr,w,k=>ldR P t (fr.getD a undef) w (λv=>xV P rs fr w (λvs=>k (v::vs)))
def aar (vs:List al):al:=
 match vs with
 | [v]=>v
 |vs=> .tuple vs.toArray
def aU (P:Program) (rs:List ResultVar) (K:K1):KF:=λfr w=>xV P rs fr w (λvs=>K (aar vs) w)
def lf (b:Array al):ResultVar->Sem al
 | .tmp t=>pure (b.getD t undef)
 | .cell a t=>ab2 t (b.getD a undef)
def Eo (fn:Func) (b:Array al):results fn b=(do
  let vs <-fn.results.mapM (lf b)
  pure (if h:vs.size=1 then vs[0] else .tuple vs)):=by
 have e:(λ| .tmp t=>pure (b.getD t undef)| .cell a t=>do loadVar t (<-asAddr (b.getD a undef)):ResultVar->Sem al)=lf b:=by
  funext x;cases x<;>rfl
 rw [<-e];rfl
def PM {P:Program} {w:an} {fr:Fr}:∀(rs:List ResultVar) (k:List al->Prop),xV P rs fr w k->∃vs,k vs/\(rs.mapM (lf fr.toArray)).run P w= .ok vs w:=by
 intro rs
 induction rs with
 |nil=>intro k h;exact ⟨[],h,rfl⟩
 |cons x rs ih=>
  intro k h;have hg:∀t,fr.toArray.getD t undef=fr.getD t undef:=λt=>by simp [aA,a8]
  cases x with
  |tmp t=>
   obtain ⟨vs,h1,h2⟩:=ih _ h;refine ⟨_,h1,?_⟩;have b:(lf fr.toArray (.tmp t)).run P w= .ok (fr.getD t undef) w:=by simp only [lf,hg,bl]
   rw [cp,ar,b,ap,ar,h2];rfl
  |cell a t=>
   simp only [xV,ldR,oE] at h;split at h
   ·rename_i v hr;obtain ⟨vs,h1,h2⟩:=ih _ h;refine ⟨_,h1,?_⟩;have b:(lf fr.toArray (.cell a t)).run P w= .ok v w:=by
     simp only [lf,hg];have:=xN hr
     cases hx:fr.getD a undef with
     |pointer p=>rw [hx] at hr this;cases p with
      |none=>cases hr
      |some p=>exact this
     |_=>rw [hx] at hr;cases hr
    rw [cp,ar,b,ap,ar,h2];rfl
   ·exact h.elim
def jg {ds:List Deferred} {P:Program} {fn:Func} {rs:List ResultVar} (a:fn.results=rs.toArray) {w:an} {fr:Fr} {K:K1} (h:aU P rs K fr w):∃v,(results fn (aT ds fr).tmps).run P w= .ok v w/\K v w:=by
 obtain ⟨vs,h1,h2⟩:=PM rs _ h;refine ⟨aar vs,?_,h1⟩;rw [Eo,ar,a,dj,d8];unfold aT;rw [h2];simp only [ap,bl]
 congr 1
 cases vs with
 |nil=>rfl
 |cons v l=>cases l<;>simp [aar]
def rf {P:Program} (hm:P.follows .mixedOrders=true) {f:FuncId} {fn:Func} {c:Code} {nt:Nat} {rs:List ResultVar} (hf:P.funcs[f]? =some fn) (hb:fn.body=some c) (hn:fn.ntmps=nt) (d:fn.results=rs.toArray) (b:dL P nt c=true)
  {args:List al} {w:an} {K:K1} (hl:args.length<=nt) (h:dW P c (aU P rs K) (aU P rs K) (λ_ _ _=>False) (args++List.replicate (nt-args.length) undef) w):ad P f args.toArray w K:=by
 refine calls_of_wp hf hb ?_;have e:({tmps:=args.toArray++Array.replicate (fn.ntmps-args.toArray.size) undef,defers:= []}:Act)=aT [] (args++List.replicate (nt-args.length) undef):=by
  simp [aT,hn]
 rw [e];have a:∀fr w,aU P rs K fr w->∃v,(results fn (aT [] fr).tmps).run P w= .ok v w/\PD K (.returned v) w:=λfr w h=>jg d h
 refine wpIn_wide.1 (gy (ro:=none) hm c b ?_ ?_ ?_ _ w (by simp;omega) h)
 ·intro fr w _ h;exact ⟨rfl,a fr w h⟩
 ·intro fr w _ h;exact ⟨rfl,a fr w h⟩
 ·intro j fr w _ h;exact h.elim
def cl:Code->Code
 | .seq a _=>a
 | .cond _ a _=>a
 | .block _ c=>c
 | .loop c=>c
 |c=>c
def cr:Code->Code
 | .seq _ b=>b
 | .cond _ _ b=>b
 |c=>c
def PN (A B:Prop):ae (.bool true) A B=A:=rfl
def LF (A B:Prop):ae (.bool false) A B=B:=rfl
def LG (a b:al) (w:an) (k:K1):au (.bool true) a b w k=k a w:=rfl
def Ep (a b:al) (w:an) (k:K1):au (.bool false) a b w k=k b w:=rfl
def Er (a b:al) (k:al->Prop):bo (.bool true) a b k=k a:=rfl
def BC (a b:al) (k:al->Prop):bo (.bool false) a b k=k b:=rfl
def YQ (y:K1->Prop) (w:an) (k:K1):gd (.bool true) true y w k=y k:=rfl
def YR (y:K1->Prop) (w:an) (k:K1):gd (.bool false) false y w k=y k:=rfl
def YS (y:K1->Prop) (w:an) (k:K1):gd (.bool true) false y w k=k undef w:=rfl
def YT (y:K1->Prop) (w:an) (k:K1):gd (.bool false) true y w k=k undef w:=rfl
def PO (y:(al->Prop)->Prop) (k:al->Prop):gdR (.bool true) true y k=y k:=rfl
def PP (y:(al->Prop)->Prop) (k:al->Prop):gdR (.bool false) false y k=y k:=rfl
def PQ (y:(al->Prop)->Prop) (k:al->Prop):gdR (.bool true) false y k=k undef:=rfl
def PR (y:(al->Prop)->Prop) (k:al->Prop):gdR (.bool false) true y k=k undef:=rfl
def YU (A:Prop):gq (.bool true) true A=A:=rfl
def YV (A:Prop):gq (.bool false) false A=A:=rfl
def YW (A:Prop):gq (.bool true) false A=True:=rfl
def YX (A:Prop):gq (.bool false) true A=True:=rfl
def PS {P:Program} {s s':Sem al} (w:an) (k:K1) (h:s=s'):ev P s w k=ev P s' w k:=by rw [h]
def aa {P:Program} {s:Sem al} {w w':an} {v:al} (h:s.run P w= .ok v w') (k:K1):ev P s w k=k v w':=by unfold ev;rw [h]
def ah {P:Program} {s:Sem al} {w:an} {v:al} (h:s.run P w= .ok v w) (k:al->Prop):rd P s w k=k v:=by unfold rd;rw [h];simp
def aV {P:Program} {s:Sem al} {w:an} {v:al} (h:s.run P w= .ok v w) (u:al):ag P s w u=(v=u):=by unfold ag;rw [h];simp
attribute [congr] PS
def WK (v:al) (k:al->Prop):oE (some v) k=k v:=rfl
@[congr] theorem oE_congr {o o':Option al} (k:al->Prop) (h:o=o'):oE o k=oE o' k:=by rw [h]
def oL (o:Option (List al)) (k:al->Prop) (_:bZ k:= .mk):Prop:=
 match o with
 |some l=>k (.agg l.toArray)
 |none=>False
def WL (l:List al) (k:al->Prop):oL (some l) k=k (.agg l.toArray):=rfl
@[congr] theorem oL_congr {o o':Option (List al)} (k:al->Prop) (h:o=o'):oL o k=oL o' k:=by rw [h]
def stB (b:Bool) (k:Prop) (_:bZ k:= .mk):Prop:=
 match b with
 |true=>k
 |false=>False
def PT (k:Prop):stB true k=k:=rfl
@[congr] theorem stB_congr {b b':Bool} (k:Prop) (h:b=b'):stB b k=stB b' k:=by rw [h]
@[congr] theorem ldS_congr {P:Program} {t:TypeId} {x x':al} (w:an) (k:K1) (h:x=x'):ldS P t x w k=ldS P t x' w k:=by rw [h]
@[congr] theorem ldR_congr {P:Program} {t:TypeId} {x x':al} (w:an) (k:al->Prop) (h:x=x'):ldR P t x w k=ldR P t x' w k:=by rw [h]
@[congr] theorem stS_congr {P:Program} {t:TypeId} {x x' v v':al} (w:an) (k:an->Prop) (h:x=x') (hv:v=v'):stS P t x v w k=stS P t x' v' w k:=by rw [h,hv]
def dE {P:Program} {t:TypeId} (h:cW P t=some false) (a:Addr) (w:an) (k:K1):ldS P t (.pointer (some a)) w k=oE (w.cell? a) (λv=>k v w):=by simp only [ldS,ldO,h]
def fU {P:Program} {t:TypeId} (h:cW P t=some false) (a:Addr) (w:an) (k:al->Prop):ldR P t (.pointer (some a)) w k=oE (w.cell? a) k:=by simp only [ldR,ldO,h]
def kT {P:Program} {t:TypeId} (h:cW P t=some false) (a:Addr) (w:an) (v:al):ldG P t (.pointer (some a)) w v=(w.cell? a=some v):=by simp only [ldG,ldO,h]
def PU (o:Option (List al)) (k:al->Prop):oE (o.map λl=> .agg l.toArray) k=oL o k:=by cases o<;>rfl
def lh {P:Program} {t:TypeId} {n:Nat} (h:cW P t=some true) (hn:szT P t=some n) (b o:Nat) (w:an) (k:K1):ldS P t (.pointer (some ⟨b,o,none⟩)) w k=oL (aP w b o n) (λv=>k v w):=by simp only [ldS,ldO,h,hn,PU]
def rh {P:Program} {t:TypeId} {n:Nat} (h:cW P t=some true) (hn:szT P t=some n) (b o:Nat) (w:an) (k:al->Prop):ldR P t (.pointer (some ⟨b,o,none⟩)) w k=oL (aP w b o n) k:=by simp only [ldR,ldO,h,hn,PU]
def LH {P:Program} {t:TypeId} {n:Nat} (h:cW P t=some true) (hn:szT P t=some n) (b o:Nat) (w:an) (v:al):ldG P t (.pointer (some ⟨b,o,none⟩)) w v=oL (aP w b o n) (λu=>u=v):=by
 simp only [ldG,ldO,h,hn]
 cases aP w b o n<;>simp [oL]
def xW {P:Program} {t:TypeId} {n:Nat} (hn:szT P t=some n) (b o:Nat) (l:List al) (w:an) (k:an->Prop):stS P t (.pointer (some ⟨b,o,none⟩)) (.agg l.toArray) w k=stB (Nat.beq l.length n&&(bX l&&dn w b o n)) (k (fQ w b o l)):=by
 simp only [stS,stO,hn,Value.cells,List.toList_toArray]
 cases (Nat.beq l.length n&&(bX l&&dn w b o n))<;>rfl
def iH {P:Program} {t:TypeId} (hn:szT P t=some 1) (b o:Nat) (v:al) (w:an) (k:an->Prop) (h:aj v=true):stS P t (.pointer (some ⟨b,o,none⟩)) v w k=stB ((w.cell? ⟨b,o,none⟩).isSome&& !w.frozen? ⟨b,o,none⟩) (k (w.setCell ⟨b,o,none⟩ v)):=by
 simp only [stS,stO,hn,uC h,bX,dn,h,cj];show oW (match (true&&(true&&_)) with|true=>_|false=>none) k=_;simp only [cw]
 cases ((w.cell? ⟨b,o,none⟩).isSome&& !w.frozen? ⟨b,o,none⟩)<;>rfl
@[congr] theorem cndS_congr {x x':al} (A B:Prop) (h:x=x'):ae x A B=ae x' A B:=by rw [h]
@[congr] theorem pickS_congr {x x':al} (a b:al) (w:an) (k:K1) (h:x=x'):au x a b w k=au x' a b w k:=by rw [h]
@[congr] theorem pickV_congr {x x':al} (a b:al) (k:al->Prop) (h:x=x'):bo x a b k=bo x' a b k:=by rw [h]
@[congr] theorem gd_congr {x x':al} (b:Bool) (y:K1->Prop) (w:an) (k:K1) (h:x=x'):gd x b y w k=gd x' b y w k:=by rw [h]
@[congr] theorem gdR_congr {x x':al} (b:Bool) (y:(al->Prop)->Prop) (k:al->Prop) (h:x=x'):gdR x b y k=gdR x' b y k:=by rw [h]
@[congr] theorem gq_congr {x x':al} (b:Bool) (A:Prop) (h:x=x'):gq x b A=gq x' b A:=by rw [h]
@[congr] theorem rd_congr {P:Program} {s s':Sem al} (w:an) (k:al->Prop) (h:s=s'):rd P s w k=rd P s' w k:=by rw [h]
@[congr] theorem ag_congr {P:Program} {s s':Sem al} (w:an) (v:al) (h:s=s'):ag P s w v=ag P s' w v:=by rw [h]
@[congr] theorem ac_congr {P:Program} {s s':Sem Unit} (w:an) (k:an->Prop) (h:s=s'):ac P s w k=ac P s' w k:=by rw [h]
@[congr] theorem callS_congr {P:Program} {f:FuncId} {a a':Array al} (w:an) (k:K1) (h:a=a'):ad P f a w k=ad P f a' w k:=by rw [h]
@[congr] theorem nilS_congr {P:Program} {x x':al} (w:an) (k:K1) (h:x=x'):Lx P x w k=Lx P x' w k:=by rw [h]
@[congr] theorem nilR_congr {P:Program} {x x':al} (w:an) (k:al->Prop) (h:x=x'):br P x w k=br P x' w k:=by rw [h]
@[congr] theorem invS_congr {P:Program} {x x':al} (n:String) {a a':Array al} (w:an) (k:K1) (h:x=x') (ha:a=a'):bn P x n a w k=bn P x' n a' w k:=by rw [h,ha]
@[congr] theorem bltS_congr {P:Program} (b:Builtin) (ts:Array TypeId) (ty:TypeId) (cs:Array Bool) {a a':Array al} (w:an) (k:K1) (ha:a=a'):aY P b ts ty cs a w k=aY P b ts ty cs a' w k:=by rw [ha]
def aas {P:Program} (t:TypeId) (v:al) (w:an) (k:K1):ev P (Instr.box t v) w k=k (.pointer (some ⟨w.heap.size,0,none⟩)) (w.alloc (.cells v.cells t)):=rfl
def cy {P:Program} {t:TypeId} {z:al} (h:dS P t=some z) (w:an) (k:K1):ev P (Instr.alloc t true (.tuple #[])) w k=k (.pointer (some ⟨w.heap.size,0,none⟩)) (w.alloc (.cells z.cells t)):=by
 refine aa ?_ k;unfold Instr.alloc;rw [ar,cQ h];rfl
def Es (P:Program) (s:TypeId) (f:Nat):Option Nat:=
 match P.underlying s with
 |some (.struct fs)=>match fs[f]? with
  |some x=>match szT P x.type with
   |some (_+1)=>some x.offset
   |_=>none
  |none=>none
 |_=>none
def jp {P:Program} {s:TypeId} {f n:Nat} (h:Es P s f=some n) (b o:Nat) (w:an):(Instr.fieldAt s (.pointer (some ⟨b,o,none⟩)) f).run P w= .ok (.pointer (some ⟨b,o+n,none⟩)) w:=by
 unfold Es at h
 cases hu:P.underlying s with
 |none=>rw [hu] at h;cases h
 |some d=>
  rw [hu] at h
  cases d<;>simp at h;rename_i fs
  cases hf:fs[f]? with
  |none=>rw [hf] at h;cases h
  |some x=>
   rw [hf] at h;simp only at h
   cases hz:szT P x.type with
   |none=>rw [hz] at h;cases h
   |some m=>
    rw [hz] at h
    cases m with
    |zero=>cases h
    |succ m=>
     simp only [Option.some.injEq] at h;unfold Instr.fieldAt;rw [ar,ax hu,ap];simp only [hf,Instr.sureAddr];rw [ar,bl,ap,ar];unfold fieldPlace;rw [ar,dK hz];simp only [ap,Nat.succ_ne_zero,if_false];simp [dT,h]
def ai {P:Program} {s:TypeId} {f n:Nat} (h:Es P s f=some n) (b o:Nat) (w:an) (k:K1):ev P (Instr.fieldAt s (.pointer (some ⟨b,o,none⟩)) f) w k=k (.pointer (some ⟨b,o+n,none⟩)) w:=aa (jp h b o w) k
def aw {P:Program} {s:TypeId} {f n:Nat} (h:Es P s f=some n) (b o:Nat) (w:an) (k:al->Prop):rd P (Instr.fieldAt s (.pointer (some ⟨b,o,none⟩)) f) w k=k (.pointer (some ⟨b,o+n,none⟩)):=ah (jp h b o w) k
def aM {P:Program} {s:TypeId} {f n:Nat} (h:Es P s f=some n) (b o:Nat) (w:an) (u:al):ag P (Instr.fieldAt s (.pointer (some ⟨b,o,none⟩)) f) w u=(.pointer (some ⟨b,o+n,none⟩)=u):=aV (jp h b o w) u
def BD (P:Program) (t:TypeId):Option Nat:=
 match P.underlying t with
 |some (.slice e)=>szT P e
 |_=>none
def jq {P:Program} {t:TypeId} {n:Nat} (h:BD P t=some n) (b o len cap:Nat) (kd:IntKind) (i:Int) (w:an) (h0:0<=i) (h1:i<len):(Instr.indexAt t (.slice (some ⟨b,o,none⟩) len cap) (.int kd i)).run P w= .ok (.pointer (some ⟨b,o+i.toNat*n,none⟩)) w:=by
 unfold BD at h
 cases hu:P.underlying t with
 |none=>rw [hu] at h;cases h
 |some d=>
  rw [hu] at h
  cases d<;>simp at h;rename_i e;simp [Instr.indexAt,asIntOf,ax hu,dK h,h0,h1,dT]
def bH {P:Program} {t:TypeId} {n:Nat} (h:BD P t=some n) (b o len cap:Nat) (kd:IntKind) (i:Int) (w:an) (k:K1) (h0:0<=i) (h1:i<len):ev P (Instr.indexAt t (.slice (some ⟨b,o,none⟩) len cap) (.int kd i)) w k=k (.pointer (some ⟨b,o+i.toNat*n,none⟩)) w:=aa (jq h b o len cap kd i w h0 h1) k
def lp {P:Program} {t:TypeId} {n:Nat} (h:BD P t=some n) (b o len cap:Nat) (kd:IntKind) (i:Int) (w:an) (k:al->Prop) (h0:0<=i) (h1:i<len):rd P (Instr.indexAt t (.slice (some ⟨b,o,none⟩) len cap) (.int kd i)) w k=k (.pointer (some ⟨b,o+i.toNat*n,none⟩)):=ah (jq h b o len cap kd i w h0 h1) k
def Et {P:Program} {t:TypeId} {n:Nat} (h:BD P t=some n) (b o len cap:Nat) (kd:IntKind) (i:Int) (w:an) (u:al) (h0:0<=i) (h1:i<len):ag P (Instr.indexAt t (.slice (some ⟨b,o,none⟩) len cap) (.int kd i)) w u=(.pointer (some ⟨b,o+i.toNat*n,none⟩)=u):=aV (jq h b o len cap kd i w h0 h1) u
def aat (P:Program) (t:TypeId):Option (Nat×Nat):=
 match P.underlying t with
 |some (.array m e)=>(szT P e).map λn=>(m,n)
 |_=>none
def run_indexArr {P:Program} {t:TypeId} {m n:Nat} (h:aat P t=some (m,n)) (b o:Nat) (kd:IntKind) (i:Int) (w:an) (h0:0<=i) (h1:i<m):(Instr.indexAt t (.pointer (some ⟨b,o,none⟩)) (.int kd i)).run P w= .ok (.pointer (some ⟨b,o+i.toNat*n,none⟩)) w:=by
 unfold aat at h
 cases hu:P.underlying t with
 |none=>rw [hu] at h;cases h
 |some d=>
  rw [hu] at h
  cases d<;>simp at h;rename_i m' e;obtain ⟨h,rfl,rfl⟩:=h;simp [Instr.indexAt,asIntOf,Instr.sureAddr,ax hu,dK h,h0,h1,dT]
def jr {P:Program} {t:TypeId} {m n:Nat} (h:aat P t=some (m,n)) (b o:Nat) (kd:IntKind) (i:Int) (w:an) (k:K1) (h0:0<=i) (h1:i<m):ev P (Instr.indexAt t (.pointer (some ⟨b,o,none⟩)) (.int kd i)) w k=k (.pointer (some ⟨b,o+i.toNat*n,none⟩)) w:=aa (run_indexArr h b o kd i w h0 h1) k
def WM {P:Program} (a:Addr) (w:an) (k:K1):Lx P (.pointer (some a)) w k=k (.pointer (some a)) w:=rfl
def LI {P:Program} (t:TypeId) (v:al) (w:an) (k:K1):Lx P (.iface t v) w k=k (.iface t v) w:=rfl
def PV {P:Program} (a:Addr) (w:an) (k:al->Prop):br P (.pointer (some a)) w k=k (.pointer (some a)):=by
 show (w=w/\_)=_;simp
def Eu {P:Program} (t:TypeId) (v:al) (w:an) (k:al->Prop):br P (.iface t v) w k=k (.iface t v):=by
 show (w=w/\_)=_;simp
def aau {P:Program} (a:al) (l:List al) (w:an) (k:K1):ev P (Instr.extract (.tuple (a::l).toArray) 0) w k=k a w:=rfl
def aav {P:Program} (a b:al) (l:List al) (w:an) (k:K1):ev P (Instr.extract (.tuple (a::b::l).toArray) 1) w k=k b w:=rfl
def aaw {P:Program} (a b c:al) (l:List al) (w:an) (k:K1):ev P (Instr.extract (.tuple (a::b::c::l).toArray) 2) w k=k c w:=rfl
def aax {P:Program} (a b c d:al) (l:List al) (w:an) (k:K1):ev P (Instr.extract (.tuple (a::b::c::d::l).toArray) 3) w k=k d w:=rfl
def aay {P:Program} (a:al) (l:List al) (w:an) (k:al->Prop):rd P (Instr.extract (.tuple (a::l).toArray) 0) w k=k a:=ah rfl k
def aaz {P:Program} (a b:al) (l:List al) (w:an) (k:al->Prop):rd P (Instr.extract (.tuple (a::b::l).toArray) 1) w k=k b:=ah rfl k
def aaA {P:Program} (a b c:al) (l:List al) (w:an) (k:al->Prop):rd P (Instr.extract (.tuple (a::b::c::l).toArray) 2) w k=k c:=ah rfl k
def aaB {P:Program} (b:Bool) (w:an) (k:K1):ev P (Op.unary .not (.bool b)) w k=k (.bool !b) w:=rfl
def aaC {P:Program} (b:Bool) (w:an) (k:al->Prop):rd P (Op.unary .not (.bool b)) w k=k (.bool !b):=ah rfl k
def bh {P:Program} (op:BinOp) (t:TypeId) (x y:Operand) (k k':IntKind) (a b:Int) (w:an):(aC op t x y (.int k a) (.int k' b)).run P w=(binOp op t (.int k a) (.int k' b)).run P w:=by
 unfold aC;rw [ar];have:(eqGuard op t x y (.int k a) (.int k' b)).run P w= .ok () w:=by
  unfold eqGuard
  cases op<;>rfl
 rw [this];rfl
def run_add {P:Program} (t:TypeId) (x y:Operand) (k:IntKind) (a b:Int) (w:an):(aC .add t x y (.int k a) (.int k b)).run P w= .ok (.int k (k.wrap (a+b))) w:=by
 rw [bh];simp [binOp,Op.intArith]
def run_sub {P:Program} (t:TypeId) (x y:Operand) (k:IntKind) (a b:Int) (w:an):(aC .sub t x y (.int k a) (.int k b)).run P w= .ok (.int k (k.wrap (a-b))) w:=by
 rw [bh];simp [binOp,Op.intArith]
def run_mul {P:Program} (t:TypeId) (x y:Operand) (k:IntKind) (a b:Int) (w:an):(aC .mul t x y (.int k a) (.int k b)).run P w= .ok (.int k (k.wrap (a*b))) w:=by
 rw [bh];simp [binOp,Op.intArith]
def jV {P:Program} (op:BinOp) (t:TypeId) (x y:Operand) (k:IntKind) (a b:Int) (w:an):(aC op t x y (.int k a) (.int k b)).run P w=(binOp op t (.int k a) (.int k b)).run P w:=bh op t x y k k a b w
def run_lss {P:Program} (t:TypeId) (x y:Operand) (k:IntKind) (a b:Int) (w:an):(aC .lss t x y (.int k a) (.int k b)).run P w= .ok (.bool (decide (a<b))) w:=by rw [jV];simp [binOp,Op.intCmp]
def run_leq {P:Program} (t:TypeId) (x y:Operand) (k:IntKind) (a b:Int) (w:an):(aC .leq t x y (.int k a) (.int k b)).run P w= .ok (.bool (decide (a<=b))) w:=by rw [jV];simp [binOp,Op.intCmp]
def run_gtr {P:Program} (t:TypeId) (x y:Operand) (k:IntKind) (a b:Int) (w:an):(aC .gtr t x y (.int k a) (.int k b)).run P w= .ok (.bool (decide (b<a))) w:=by rw [jV];simp [binOp,Op.intCmp]
def run_geq {P:Program} (t:TypeId) (x y:Operand) (k:IntKind) (a b:Int) (w:an):(aC .geq t x y (.int k a) (.int k b)).run P w= .ok (.bool (decide (b<=a))) w:=by rw [jV];simp [binOp,Op.intCmp]
def run_eql {P:Program} (t:TypeId) (x y:Operand) (k:IntKind) (a b:Int) (w:an):(aC .eql t x y (.int k a) (.int k b)).run P w= .ok (.bool (decide (a=b))) w:=by rw [jV];simp [binOp,Op.intCmp];rfl
def run_neq {P:Program} (t:TypeId) (x y:Operand) (k:IntKind) (a b:Int) (w:an):(aC .neq t x y (.int k a) (.int k b)).run P w= .ok (.bool (!decide (a=b))) w:=by rw [jV];simp [binOp,Op.intCmp,bne];rfl
def lo (k:IntKind):Int:=k.min
def gQ {n:Int} (h0:0<=n) (h1:n<18446744073709551616):IntKind.u64.wrap n=n:=by
 unfold IntKind.wrap;simp only [IntKind.bits,IntKind.signed];simp;omega
def PW {n:Int} (h0:0<=n) (h1:n<4294967296):IntKind.u32.wrap n=n:=by
 unfold IntKind.wrap;simp only [IntKind.bits,IntKind.signed];simp;omega
def bN {n:Int} (h0: -9223372036854775808<=n) (h1:n<9223372036854775808):IntKind.i64.wrap n=n:=by
 unfold IntKind.wrap;simp only [IntKind.bits,IntKind.signed];simp;omega
def ri {a b:Int} (h:0<=a):a.tdiv b=a/b:=Int.tdiv_eq_ediv_of_nonneg h
def Io {P:Program} (t:TypeId) (x y:Operand) (k:IntKind) (a b:Int) (w:an) (ha:0<=a) (hb:0<b) (hw:k.wrap (a/b)=a/b):(aC .quo t x y (.int k a) (.int k b)).run P w= .ok (.int k (a/b)) w:=by
 rw [bh];have c:b≠0:=by omega
 simp [binOp,Op.intDiv,c,ri ha,hw]
def run_rem {P:Program} (t:TypeId) (x y:Operand) (k:IntKind) (a b:Int) (w:an) (ha:0<=a) (hb:0<b):(aC .rem t x y (.int k a) (.int k b)).run P w= .ok (.int k (a%b)) w:=by
 rw [bh];have c:b≠0:=by omega
 simp [binOp,Op.intDiv,c,Int.tmod_eq_emod_of_nonneg ha]
def Ip {a b:Int} (ha:0<=a) (hb:0<b):0<=a/b/\a/b<=a:=⟨Int.ediv_nonneg ha (d7 hb),Int.ediv_le_self b ha⟩
def js {P:Program} (t:TypeId) (x y:Operand) (a b:Int) (w:an) (ha:0<=a) (h:a<9223372036854775808) (hb:0<b):(aC .quo t x y (.int .i64 a) (.int .i64 b)).run P w= .ok (.int .i64 (a/b)) w:=
 Io t x y .i64 a b w ha hb (bN (by have:=(Ip ha hb).1;omega) (by have:=(Ip ha hb).2;omega))
def LJ (P:Program) (t:TypeId):Option IntKind:=
 match P.underlying t with
 |some (.int k)=>some k
 |_=>none
def cE {P:Program} {t:TypeId} {k:IntKind} (h:LJ P t=some k):P.underlying t=some (.int k):=by
 unfold LJ at h;split at h
 ·rename_i e;simp at h;subst h;exact e
 ·cases h
def run_convert {P:Program} {s d:TypeId} {j k:IntKind} (hs:LJ P s=some j) (hd:LJ P d=some k) (i:IntKind) (n:Int) (w:an):(convert s d (.int i n)).run P w= .ok (.int k (k.wrap n)) w:=by
 unfold convert;rw [ar,ax (cE hs),ap,ar,ax (cE hd),ap];rfl
def WN {P:Program} (t:TypeId) (x y:Operand) (k j:IntKind) (a b:Int) (w:an) (hb:0<=b):(aC .shr t x y (.int k a) (.int j b)).run P w= .ok (.int k (a/2^(min b.toNat k.bits))) w:=by
 rw [bh];have:¬b<0:=by omega
 simp only [binOp,Op.shift,this,if_false];rw [Int.fdiv_eq_ediv_of_nonneg _ (d7 (Int.pow_pos (by omega)))];rfl
def WO {P:Program} (t:TypeId) (x y:Operand) (k j:IntKind) (a b:Int) (w:an) (hb:0<=b):(aC .shl t x y (.int k a) (.int j b)).run P w= .ok (.int k (k.wrap (a*2^(min b.toNat k.bits)))) w:=by
 rw [bh];have:¬b<0:=by omega
 simp only [binOp,Op.shift,this,if_false];rfl
def bP {n:Nat} {a:Int} (h0:0<=a) (h1:a<2^n):(BitVec.ofInt n a).toNat=a.toNat:=by
 rw [BitVec.toNat_ofInt]
 congr 1
 exact cB h0 (by exact_mod_cast h1)
def kU:IntKind->Bool
 | .u8=>true
 | .u16=>true
 | .u32=>true
 | .u64=>true
 |_=>false
def iI {k:IntKind} (hk:kU k=true) (x:BitVec k.bits):k.wrap (x.toNat:Int)=x.toNat:=by
 have h:=x.isLt;unfold IntKind.wrap;have hs:k.signed=false:=by cases k<;>first|rfl|cases hk
 simp only [hs,cb,a9,if_false];exact cB (by omega) (by exact_mod_cast h)
def WP {P:Program} (t:TypeId) (x y:Operand) {k:IntKind} (hk:kU k=true) (a b:Int) (w:an) (ha:0<=a) (d:a<2^k.bits) (hb:0<=b) (c:b<2^k.bits):(aC .and t x y (.int k a) (.int k b)).run P w= .ok (.int k ((a.toNat&&&b.toNat:Nat):Int)) w:=by
 rw [bh];simp only [binOp,ne_eq,not_true,if_false,Op.intBits];rw [bl,iI hk,BitVec.toNat_and,bP ha d,bP hb c]
def aaD {P:Program} (t:TypeId) (x y:Operand) {k:IntKind} (hk:kU k=true) (a b:Int) (w:an) (ha:0<=a) (d:a<2^k.bits) (hb:0<=b) (c:b<2^k.bits):(aC .or t x y (.int k a) (.int k b)).run P w= .ok (.int k ((a.toNat|||b.toNat:Nat):Int)) w:=by
 rw [bh];simp only [binOp,ne_eq,not_true,if_false,Op.intBits];rw [bl,iI hk,BitVec.toNat_or,bP ha d,bP hb c]
def WQ {P:Program} (t:TypeId) (x y:Operand) {k:IntKind} (hk:kU k=true) (a b:Int) (w:an) (ha:0<=a) (d:a<2^k.bits) (hb:0<=b) (c:b<2^k.bits):(aC .xor t x y (.int k a) (.int k b)).run P w= .ok (.int k ((a.toNat^^^b.toNat:Nat):Int)) w:=by
 rw [bh];simp only [binOp,ne_eq,not_true,if_false,Op.intBits];rw [bl,iI hk,dd,bP ha d,bP hb c]
def mi {P:Program} {t:TypeId} {x y:Operand} {u v:al} {w:an} {r:Bool} (hg:(eqGuard .eql t x y u v).run P w= .ok () w) (hb:binOp .eql t u v=(do pure (.bool (<-Op.equal t u v)))) (h:∀d,(Op.equalIn (d+1) t u v).run P w= .ok r w):(aC .eql t x y u v).run P w= .ok (.bool r) w:=by
 unfold aC;rw [ar,hg,ap,hb,ar];unfold Op.equal;rw [show Op.maxDepth=9999+1 from rfl,h];rfl
def Iq {P:Program} {t:TypeId} {x y:Operand} {u v:al} {w:an} {r:Bool} (hg:(eqGuard .neq t x y u v).run P w= .ok () w) (hb:binOp .neq t u v=(do pure (.bool (!(<-Op.equal t u v))))) (h:∀d,(Op.equalIn (d+1) t u v).run P w= .ok r w):(aC .neq t x y u v).run P w= .ok (.bool (!r)) w:=by
 unfold aC;rw [ar,hg,ap,hb,ar];unfold Op.equal;rw [show Op.maxDepth=9999+1 from rfl,h];rfl
def WR (P:Program) (t:TypeId):Bool:=
 match P.underlying t with
 |some (.pointer _)=>true
 |_=>false
def qa {P:Program} {t:TypeId} (h:WR P t=true) (p:Option Addr) (w:an) (d:Nat):(Op.equalIn (d+1) t (.pointer p) (.pointer none)).run P w= .ok p.isNone w:=by
 unfold WR at h;split at h
 ·rename_i e hu;unfold Op.equalIn;rw [ar,ax hu,ap]
  cases p<;>rfl
 ·cases h
def run_eq_ptr_nil {P:Program} {t:TypeId} (h:WR P t=true) (x y:Operand) (p:Option Addr) (w:an):(aC .eql t x y (.pointer p) (.pointer none)).run P w= .ok (.bool p.isNone) w:=
 mi rfl (by cases p<;>rfl) (qa h p w)
def run_neq_ptr_nil {P:Program} {t:TypeId} (h:WR P t=true) (x y:Operand) (p:Option Addr) (w:an):(aC .neq t x y (.pointer p) (.pointer none)).run P w= .ok (.bool (!p.isNone)) w:=
 Iq rfl (by cases p<;>rfl) (qa h p w)
def nK (P:Program) (t:TypeId):Bool:=
 match P.underlying t with
 |some (.interface _)=>true
 |_=>false
def run_eq_iface_nil {P:Program} {t:TypeId} (h:nK P t=true) (x y:Operand) (u:TypeId) (v:al) (w:an):(aC .eql t x y (.iface u v) .nilIface).run P w= .ok (.bool false) w:=by
 unfold nK at h;split at h
 ·rename_i e hu;refine mi rfl rfl λd=> ?_
  unfold Op.equalIn;rw [ar,ax hu,ap];rfl
 ·cases h
def run_eq_nil_nil {P:Program} {t:TypeId} (h:nK P t=true) (x:Operand) (u:al) (w:an):(aC .eql t x (.const u) .nilIface .nilIface).run P w= .ok (.bool true) w:=by
 unfold nK at h;split at h
 ·rename_i e hu;refine mi (by cases x<;>rfl) rfl λd=> ?_
  unfold Op.equalIn;rw [ar,ax hu,ap];rfl
 ·cases h
def Ir (P:Program) (t:TypeId):Bool:=
 match P.underlying t with
 |some .bool=>true
 |_=>false
def mj {P:Program} {t:TypeId} (h:Ir P t=true) (a b:Bool) (w:an) (d:Nat):(Op.equalIn (d+1) t (.bool a) (.bool b)).run P w= .ok (a==b) w:=by
 unfold Ir at h;split at h
 ·rename_i hu;unfold Op.equalIn;rw [ar,ax hu,ap];rfl
 ·cases h
def run_eq_bool {P:Program} {t:TypeId} (h:Ir P t=true) (x y:Operand) (a b:Bool) (w:an):(aC .eql t x y (.bool a) (.bool b)).run P w= .ok (.bool (a==b)) w:=
 mi rfl rfl (mj h a b w)
def run_neq_bool {P:Program} {t:TypeId} (h:Ir P t=true) (x y:Operand) (a b:Bool) (w:an):(aC .neq t x y (.bool a) (.bool b)).run P w= .ok (.bool (!(a==b))) w:=
 Iq rfl rfl (mj h a b w)
def run_makeInterface {P:Program} {t:TypeId} (h:cW P t=some false) (h':nK P t=false) (v:al) (w:an):(b8 t v).run P w= .ok (.iface t v) w:=by
 unfold cW at h
 cases hu:P.underlying t with
 |none=>rw [hu] at h;cases h
 |some d=>
  unfold b8;rw [ar,ax hu,ap];unfold nK at h';rw [hu] at h'
  cases d<;>first|rfl|cases h'
def iJ (P:Program) (t:TypeId):Bool:=
 match P.underlying t with
 |some (.slice _)=>true
 |_=>false
def run_len {P:Program} {t:TypeId} (h:iJ P t=true) (ty:TypeId) (a:Option Addr) (n c:Nat) (w:an):(c4 #[t] ty #[.slice a n c]).run P w= .ok (.int .i64 n) w:=by
 unfold iJ at h;split at h
 ·rename_i e hu;simp [c4,ax hu,goInt]
 ·cases h
def dJ {P:Program} {t:TypeId} (h:iJ P t=true) (ty:TypeId) (cs:Array Bool) (a:Option Addr) (n c:Nat) (w:an) (k:K1):aY P .len #[t] ty cs #[.slice a n c] w k=k (.int .i64 n) w:=by
 unfold aY builtin;rw [ar,run_len h];rfl
def WS {P:Program} (ts:Array TypeId) (ty:TypeId) (cs:Array Bool) (i:IntKind) (a b:Int) (w:an) (k:K1):aY P .max ts ty cs #[.int i a,.int i b] w k=k (.int i (if a<b then b else a)) w:=rfl
def WT {P:Program} (ts:Array TypeId) (ty:TypeId) (cs:Array Bool) (i:IntKind) (a b:Int) (w:an) (k:K1):aY P .min ts ty cs #[.int i a,.int i b] w k=k (.int i (if b<a then b else a)) w:=rfl
def eE {P:Program} {x:al} {n:String} {args a:Array al} {w:an} {f:FuncId} (h:(callMethod x n args).run P w= .ok (.enter f a) w) (k:K1):bn P x n args w k=ad P f a w k:=by
 unfold bn;rw [h];rfl
def aq {a:Nat->Option (Nat×Nat)} {cells:Array al} {i off:Nat} {v:al} {b:List (Nat×al)} (hp:a i=some (off,1)) (hv:aj v=true) (ho:off<cells.size):Instr.fill a cells ((i,v)::b)=Instr.fill a (cells.setIfInBounds off v) b:=by
 rw [Instr.fill,hp];simp only [uC hv,b4,List.length_singleton,ne_eq,not_true,b9,decide_eq_true_eq];rw [if_neg (by simp;omega)]
 congr 1
def YY (P:Program) (t:TypeId) (f:Nat):Option Bool:=
 match P.underlying t with
 |some (.struct fs)=>(fs[f]?).bind λx=>cW P x.type
 |_=>none
def bc (P:Program) (t:TypeId):Option (List (Nat×Nat)):=
 match P.underlying t with
 |some (.struct fs)=>fs.toList.mapM λf=>(szT P f.type).map λn=>(f.offset,n)
 |_=>none
def Ev {P:Program} (w:an):∀(l:List Field) (ps:List (Nat×Nat)),(l.mapM λf=>(szT P f.type).map λn=>(f.offset,n))=some ps->(l.mapM (m:=Sem) λf=>do pure (f.offset,<-sizeOf f.type)).run P w= .ok ps w:=by
 intro l
 induction l with
 |nil=>intro ps h;simp at h;subst h;rfl
 |cons f l ih=>
  intro ps h;rw [cp] at h
  cases hs:szT P f.type with
  |none=>rw [hs] at h;cases h
  |some n=>
   rw [hs] at h
   cases hr:(l.mapM λf=>(szT P f.type).map λn=>(f.offset,n)) with
   |none=>rw [hr] at h;simp at h
   |some qs=>
    rw [hr] at h;simp at h;subst h;rw [cp,ar,ar,dK hs];simp only [ap,bl];rw [ar,ih qs hr];rfl
def run_buildS {P:Program} {t:TypeId} {z:al} {ps:List (Nat×Nat)} {parts:Array (Nat×al)} {cs:Array al} (hz:dS P t=some z) (hp:bc P t=some ps) (hf:Instr.fill (ps.toArray[·]?) z.cells parts.toList=some cs) (w:an):(Instr.build t parts).run P w= .ok (.agg cs) w:=by
 unfold bc at hp;split at hp
 ·rename_i fs hu;unfold Instr.build;rw [ar,cQ hz,ap,ar,ax hu,ap];simp only;have e:(fs.mapM (m:=Sem) λf=>do pure (f.offset,<-sizeOf f.type)).run P w= .ok ps.toArray w:=by
   have:=Ev w fs.toList ps hp;rw [<-Array.toArray_toList (xs:=fs),dj,d8];rw [this];rfl
  rw [ar,e,ap];simp only [hf];rfl
 ·cases hp
def run_field {P:Program} {t:TypeId} {f n:Nat} (h:Es P t f=some n) (h1:YY P t f=some false) {cs:Array al} {v:al} (hv:cs[n]? =some v) (w:an):(Instr.field t (.agg cs) f).run P w= .ok v w:=by
 unfold Es at h
 cases hu:P.underlying t with
 |none=>rw [hu] at h;cases h
 |some d=>
  unfold YY at h1;rw [hu] at h h1
  cases d<;>simp only [reduceCtorEq] at h;rename_i fs;simp only at h1
  cases hf:fs[f]? with
  |none=>rw [hf] at h;cases h
  |some x=>
   rw [hf] at h h1;simp only [cA] at h h1
   cases hz:szT P x.type with
   |none=>rw [hz] at h;cases h
   |some m=>
    rw [hz] at h
    cases m with
    |zero=>cases h
    |succ m=>
     simp only [Option.some.injEq] at h;subst h;unfold Instr.field;rw [ar,ax hu,ap];simp only [hf,asAgg];rw [ar,bl,ap];unfold part;rw [ar,jU h1,ap];simp [hv]
section
variable (P:Program)
def RM:=ab WK<|ab WL<|ab PT<|ab PN<|ab LF<|ab LG<|ab Ep<|ab Er<|ab BC<|
 ab YQ<|ab YR<|ab YS<|ab YT<|ab PO<|ab PP<|ab PQ<|ab PR<|ab YU<|ab YV<|ab YW YX
def RP:=ab (@aas P)<|ab (@WM P)<|ab (@LI P)<|ab (@PV P)<|ab (@Eu P)<|ab (@aau P)<|ab (@aav P)<|ab (@aaw P)<|ab (@aax P)<|
 ab (@aay P)<|ab (@aaz P)<|ab (@aaA P)<|ab (@aaB P)<|ab (@aaC P)<|ab (@WS P) (@WT P)
end
def jW (cs:Array al):(Value.agg cs).cells=cs:=rfl
def LK (k:IntKind) (n:Int):(Value.int k n).cells= #[.int k n]:=rfl
def Ew (b:Bool):(Value.bool b).cells= #[.bool b]:=rfl
def LM (a:Option Addr):(Value.pointer a).cells= #[.pointer a]:=rfl
def BE (a:Option Addr) (n c:Nat):(Value.slice a n c).cells= #[.slice a n c]:=rfl
def BF (t:TypeId) (v:al):(Value.iface t v).cells= #[.iface t v]:=rfl
def LN:(Value.nilIface).cells= #[.nilIface]:=rfl
def rj {p:Prop} [Decidable p] (h:p):decide p=true:=decide_eq_true h
def fH {p:Prop} [Decidable p] (h:¬p):decide p=false:=decide_eq_false h
def ab3 (h:Decidable True): @decide True h=true:=by cases h with
 |isTrue _=>rfl
 |isFalse h=>exact absurd trivial h
def ab4 (h:Decidable False): @decide False h=false:=by cases h with
 |isTrue h=>exact h.elim
 |isFalse _=>rfl
def rn (w:an) (b o:Nat):aP w b o 0=some []:=rfl
def jt {w:an} {b:Nat} {c:Array al} {t:TypeId} {z:Nat×Nat} (h:w.heap[b]? =some (.cells c t z)) (i:Nat):w.cell? ⟨b,i,none⟩=c[i]? :=by
 unfold World.cell?;rw [h];rfl
set_option linter.defProp false in
def RV:=ab abZ<|ab jW<|ab LK<|ab Ew<|ab LM<|ab BE<|ab BF<|ab LN<|
 ab ab3<|ab ab4<|ab @rj<|ab @fH<|ab b7<|ab cw<|ab cb<|ab cj<|ab dv<|ab bv<|ab cq<|ab c7<|ab Nat.mul_one<|ab ca<|ab (@Option.isNone_some Addr)<|ab (@Option.isNone_none Addr) (@and_self)
def PX (z:Array al) (n:Nat):((Array.range n).map (z[·%z.size]!))=((List.range n).map λi=>z[i%z.size]!).toArray:=by
 apply Array.ext';simp
def run_buildSliceS {P:Program} {t e:TypeId} {len size:Nat} {z:al} {parts:Array (Nat×al)} {cs:Array al} (hu:P.underlying t=some (.slice e)) (hs:szT P e=some size) (hz:dS P e=some z) (b:len*size<=16777216) (a:len*size≠0)
  (hf:Instr.fill (λi=>some (i*size,size)) ((List.range (len*size)).map λi=>z.cells[i%z.cells.size]!).toArray parts.toList=some cs) (w:an):(aB t len parts).run P w= .ok (.slice (some ⟨w.heap.size,0,none⟩) len len) (w.alloc (.cells cs e)):=by
 unfold aB;rw [ar,ax hu,ap];simp only;rw [ar,dK hs,ap];rw [if_neg (by simpa using b)];simp only [a,if_false];rw [ar,cQ hz,ap,ar,bl,ap,PX];simp only [hf];rfl
def uJ {c:Nat->Option (Nat×Nat)} {cells:Array al} {i off:Nat} {a b:al} {d:List (Nat×al)} (hp:c i=some (off,2)) (ho:off+2<=cells.size):Instr.fill c cells ((i,.agg #[a,b])::d)=Instr.fill c ((cells.setIfInBounds off a).setIfInBounds (off+1) b) d:=by
 rw [Instr.fill,hp];simp only [jW,b4,cm,cF];rw [if_neg (by simp;omega)]
 congr 1
def LO {d:Nat->Option (Nat×Nat)} {cells:Array al} {i off:Nat} {a b c:al} {e:List (Nat×al)} (hp:d i=some (off,3)) (ho:off+3<=cells.size):Instr.fill d cells ((i,.agg #[a,b,c])::e)=Instr.fill d (((cells.setIfInBounds off a).setIfInBounds (off+1) b).setIfInBounds (off+2) c) e:=by
 rw [Instr.fill,hp];simp only [jW,b4,cm,cF];rw [if_neg (by simp;omega)]
 congr 1
def WU (k:IntKind) (n:Int):aj (.int k n)=true:=rfl
def PY (b:Bool):aj (.bool b)=true:=rfl
def WV (a:Option Addr):aj (.pointer a)=true:=rfl
def LP (a:Option Addr) (n c:Nat):aj (.slice a n c)=true:=rfl
def LQ (t:TypeId) (v:al):aj (.iface t v)=true:=rfl
def WW:aj .nilIface=true:=rfl
def WX (r:Option Nat):aj (.map r)=true:=rfl
set_option linter.defProp false in
def RO:=ab WU<|ab PY<|ab WV<|ab LP<|ab LQ<|ab WW WX
def dq {k:IntKind} {n:Nat} (hu:kU k=true) (h:n<2^k.bits):k.wrap (n:Int)=n:=by
 unfold IntKind.wrap;have hs:k.signed=false:=by cases k<;>first|rfl|cases hu
 simp only [hs,cb,a9,if_false];exact cB (by omega) (by exact_mod_cast h)
def bA {k:IntKind} {n:Nat} (hu:kU k=true):k.wrap (n:Int)=((n%2^k.bits:Nat):Int):=by
 unfold IntKind.wrap;have hs:k.signed=false:=by cases k<;>first|rfl|cases hu
 simp only [hs,cb,a9,if_false]
 norm_cast
def xX {P:Program} {k:IntKind} (hu:kU k=true) (t:TypeId) (x y:Operand) (a b:Nat) (w:an) (h:a+b<2^k.bits):(aC .add t x y (.int k a) (.int k b)).run P w= .ok (.int k ((a+b:Nat):Int)) w:=by
 rw [run_add];congr 2;exact_mod_cast dq hu h
def Is {P:Program} {k:IntKind} (hu:kU k=true) (t:TypeId) (x y:Operand) (a b:Nat) (w:an) (h0:b<=a) (h:a<2^k.bits):(aC .sub t x y (.int k a) (.int k b)).run P w= .ok (.int k ((a-b:Nat):Int)) w:=by
 rw [run_sub];congr 2;rw [show (a:Int)-(b:Int)=((a-b:Nat):Int) by omega];exact dq hu (by omega)
def It {P:Program} {k:IntKind} (hu:kU k=true) (t:TypeId) (x y:Operand) (a b:Nat) (w:an) (h:a*b<2^k.bits):(aC .mul t x y (.int k a) (.int k b)).run P w= .ok (.int k ((a*b:Nat):Int)) w:=by
 rw [run_mul];congr 2;exact_mod_cast dq hu h
def WY {P:Program} {k:IntKind} (hu:kU k=true) (t:TypeId) (x y:Operand) (a b:Nat) (w:an) (h:a<2^k.bits) (hb:0<b):(aC .quo t x y (.int k a) (.int k b)).run P w= .ok (.int k ((a/b:Nat):Int)) w:=by
 rw [Io t x y k a b w (by omega) (by omega) (by have:=dq hu (Nat.lt_of_le_of_lt (Nat.div_le_self a b) h);exact_mod_cast this)];rfl
def qB {P:Program} {k:IntKind} (t:TypeId) (x y:Operand) (a b:Nat) (w:an) (hb:0<b):(aC .rem t x y (.int k a) (.int k b)).run P w= .ok (.int k ((a%b:Nat):Int)) w:=by
 rw [run_rem t x y k a b w (by omega) (by omega)];norm_cast
def qC {P:Program} {k j:IntKind} (t:TypeId) (x y:Operand) (a n:Nat) (w:an) (hn:n<=k.bits):(aC .shr t x y (.int k a) (.int j n)).run P w= .ok (.int k ((a/2^n:Nat):Int)) w:=by
 rw [WN t x y k j a n w (by omega)];simp only [bv,dt hn]
 try norm_cast
def qD {P:Program} {k j:IntKind} (hu:kU k=true) (t:TypeId) (x y:Operand) (a n:Nat) (w:an) (hn:n<=k.bits):(aC .shl t x y (.int k a) (.int j n)).run P w= .ok (.int k ((a*2^n%2^k.bits:Nat):Int)) w:=by
 rw [WO t x y k j a n w (by omega)];simp only [bv,dt hn];have:=bA (k:=k) (n:=a*2^n) hu;rw [<-this]
 norm_cast
def Iu {P:Program} {k:IntKind} (hu:kU k=true) (t:TypeId) (x y:Operand) (a b:Nat) (w:an) (ha:a<2^k.bits) (hb:b<2^k.bits):(aC .and t x y (.int k a) (.int k b)).run P w= .ok (.int k ((a&&&b:Nat):Int)) w:=by
 rw [WP t x y hu a b w (by omega) (by exact_mod_cast ha) (by omega) (by exact_mod_cast hb)];simp only [bv]
def PZ {P:Program} {k:IntKind} (hu:kU k=true) (t:TypeId) (x y:Operand) (a b:Nat) (w:an) (ha:a<2^k.bits) (hb:b<2^k.bits):(aC .or t x y (.int k a) (.int k b)).run P w= .ok (.int k ((a|||b:Nat):Int)) w:=by
 rw [aaD t x y hu a b w (by omega) (by exact_mod_cast ha) (by omega) (by exact_mod_cast hb)];simp only [bv]
def Iv {P:Program} {k:IntKind} (hu:kU k=true) (t:TypeId) (x y:Operand) (a b:Nat) (w:an) (ha:a<2^k.bits) (hb:b<2^k.bits):(aC .xor t x y (.int k a) (.int k b)).run P w= .ok (.int k ((a^^^b:Nat):Int)) w:=by
 rw [WQ t x y hu a b w (by omega) (by exact_mod_cast ha) (by omega) (by exact_mod_cast hb)];simp only [bv]
def xY {P:Program} (k:IntKind) (t:TypeId) (x y:Operand) (a b:Nat) (w:an):(aC .lss t x y (.int k a) (.int k b)).run P w= .ok (.bool (decide (a<b))) w:=by rw [run_lss];simp only [d5]
def Iw {P:Program} (k:IntKind) (t:TypeId) (x y:Operand) (a b:Nat) (w:an):(aC .leq t x y (.int k a) (.int k b)).run P w= .ok (.bool (decide (a<=b))) w:=by rw [run_leq];simp only [d6]
def Ix {P:Program} (k:IntKind) (t:TypeId) (x y:Operand) (a b:Nat) (w:an):(aC .gtr t x y (.int k a) (.int k b)).run P w= .ok (.bool (decide (b<a))) w:=by rw [run_gtr];simp only [d5]
def yb {P:Program} (k:IntKind) (t:TypeId) (x y:Operand) (a b:Nat) (w:an):(aC .geq t x y (.int k a) (.int k b)).run P w= .ok (.bool (decide (b<=a))) w:=by rw [run_geq];simp only [d6]
def ml {P:Program} (k:IntKind) (t:TypeId) (x y:Operand) (a b:Nat) (w:an):(aC .eql t x y (.int k a) (.int k b)).run P w= .ok (.bool (decide (a=b))) w:=by rw [run_eql];simp only [d2]
def iK {P:Program} (k:IntKind) (t:TypeId) (x y:Operand) (a b:Nat) (w:an):(aC .neq t x y (.int k a) (.int k b)).run P w= .ok (.bool (!decide (a=b))) w:=by rw [run_neq];simp only [d2]
def qE {P:Program} {k:IntKind} (hu:kU k=true) (a:Nat) (w:an) (ha:a<2^k.bits):(Op.unary .xor (.int k a)).run P w= .ok (.int k (((2^k.bits-1)^^^a:Nat):Int)) w:=by
 have hs:k.signed=false:=by cases k<;>first|rfl|cases hu
 have hm:k.max=((2^k.bits-1:Nat):Int):=by cases k<;>first|rfl|cases hu
 have h2:0<2^k.bits:=Nat.two_pow_pos _;simp only [Op.unary,hs,a9,if_false,Op.intBits,hm];rw [bl,iI hu,dd,bP (by omega) (by exact_mod_cast (by omega:2^k.bits-1<2^k.bits)),bP (by omega) (by exact_mod_cast ha)];simp only [bv]
section
variable (P:Program)
def LR (t:TypeId) (x y:Operand) (a b:Nat) (w:an) (k:K1) (hb:0<b):ev P (aC .rem t x y (.int .u8 (a:Int)) (.int .u8 (b:Int))) w k=k (.int .u8 ((a%b:Nat):Int)) w:=aa (qB (k:= .u8) t x y a b w hb) k
def LS (t:TypeId) (x y:Operand) (a b:Nat) (w:an) (k:al->Prop) (hb:0<b):rd P (aC .rem t x y (.int .u8 (a:Int)) (.int .u8 (b:Int))) w k=k (.int .u8 ((a%b:Nat):Int)):=ah (qB (k:= .u8) t x y a b w hb) k
def LT (t:TypeId) (x y:Operand) (a b:Nat) (w:an) (k:K1):ev P (aC .lss t x y (.int .u8 (a:Int)) (.int .u8 (b:Int))) w k=k (.bool (decide (a<b))) w:=aa (xY .u8 t x y a b w) k
def LU (t:TypeId) (x y:Operand) (a b:Nat) (w:an) (k:K1):ev P (aC .leq t x y (.int .u8 (a:Int)) (.int .u8 (b:Int))) w k=k (.bool (decide (a<=b))) w:=aa (Iw .u8 t x y a b w) k
def LV (t:TypeId) (x y:Operand) (a b:Nat) (w:an) (k:K1):ev P (aC .gtr t x y (.int .u8 (a:Int)) (.int .u8 (b:Int))) w k=k (.bool (decide (b<a))) w:=aa (Ix .u8 t x y a b w) k
def LX (t:TypeId) (x y:Operand) (a b:Nat) (w:an) (k:K1):ev P (aC .eql t x y (.int .u8 (a:Int)) (.int .u8 (b:Int))) w k=k (.bool (decide (a=b))) w:=aa (ml .u8 t x y a b w) k
def LY (t:TypeId) (x y:Operand) (a b:Nat) (w:an) (k:al->Prop):rd P (aC .eql t x y (.int .u8 (a:Int)) (.int .u8 (b:Int))) w k=k (.bool (decide (a=b))):=ah (ml .u8 t x y a b w) k
def LZ (t:TypeId) (x y:Operand) (a b:Nat) (w:an) (k:K1):ev P (aC .neq t x y (.int .u8 (a:Int)) (.int .u8 (b:Int))) w k=k (.bool (!decide (a=b))) w:=aa (iK .u8 t x y a b w) k
def Ma (t:TypeId) (x y:Operand) (a b:Nat) (w:an) (k:al->Prop):rd P (aC .neq t x y (.int .u8 (a:Int)) (.int .u8 (b:Int))) w k=k (.bool (!decide (a=b))):=ah (iK .u8 t x y a b w) k
def Mb (a:Nat) (w:an) (k:K1) (ha:a<256):ev P (Op.unary .xor (.int .u8 (a:Int))) w k=k (.int .u8 ((255^^^a:Nat):Int)) w:=aa (qE (k:= .u8) rfl a w ha) k
def Ex (t:TypeId) (x y:Operand) (a b:Nat) (w:an) (k:K1) (h:a+b<65536):ev P (aC .add t x y (.int .u16 (a:Int)) (.int .u16 (b:Int))) w k=k (.int .u16 ((a+b:Nat):Int)) w:=aa (xX (k:= .u16) rfl t x y a b w h) k
def Ey (t:TypeId) (x y:Operand) (a b:Nat) (w:an) (k:K1):ev P (aC .eql t x y (.int .u16 (a:Int)) (.int .u16 (b:Int))) w k=k (.bool (decide (a=b))) w:=aa (ml .u16 t x y a b w) k
def Ez (t:TypeId) (x y:Operand) (a b:Nat) (w:an) (k:K1):ev P (aC .neq t x y (.int .u16 (a:Int)) (.int .u16 (b:Int))) w k=k (.bool (!decide (a=b))) w:=aa (iK .u16 t x y a b w) k
def EB (t:TypeId) (x y:Operand) (a b:Nat) (w:an) (k:al->Prop):rd P (aC .neq t x y (.int .u16 (a:Int)) (.int .u16 (b:Int))) w k=k (.bool (!decide (a=b))):=ah (iK .u16 t x y a b w) k
def EC (a:Nat) (w:an) (k:K1) (ha:a<65536):ev P (Op.unary .xor (.int .u16 (a:Int))) w k=k (.int .u16 ((65535^^^a:Nat):Int)) w:=aa (qE (k:= .u16) rfl a w ha) k
def ED (t:TypeId) (x y:Operand) (a b:Nat) (w:an) (k:K1) (ha:a<4294967296) (hb:b<4294967296):ev P (aC .and t x y (.int .u32 (a:Int)) (.int .u32 (b:Int))) w k=k (.int .u32 ((a&&&b:Nat):Int)) w:=aa (Iu (k:= .u32) rfl t x y a b w ha hb) k
def Mc (t:TypeId) (x y:Operand) (a b:Nat) (w:an) (k:K1) (ha:a<4294967296) (hb:b<4294967296):ev P (aC .or t x y (.int .u32 (a:Int)) (.int .u32 (b:Int))) w k=k (.int .u32 ((a|||b:Nat):Int)) w:=aa (PZ (k:= .u32) rfl t x y a b w ha hb) k
def EE (t:TypeId) (x y:Operand) (a b:Nat) (w:an) (k:K1) (ha:a<4294967296) (hb:b<4294967296):ev P (aC .xor t x y (.int .u32 (a:Int)) (.int .u32 (b:Int))) w k=k (.int .u32 ((a^^^b:Nat):Int)) w:=aa (Iv (k:= .u32) rfl t x y a b w ha hb) k
def EF (t:TypeId) (x y:Operand) (a b:Nat) (w:an) (k:K1):ev P (aC .geq t x y (.int .u32 (a:Int)) (.int .u32 (b:Int))) w k=k (.bool (decide (b<=a))) w:=aa (yb .u32 t x y a b w) k
def EG (t:TypeId) (x y:Operand) (a b:Nat) (w:an) (k:K1):ev P (aC .neq t x y (.int .u32 (a:Int)) (.int .u32 (b:Int))) w k=k (.bool (!decide (a=b))) w:=aa (iK .u32 t x y a b w) k
def EH (a:Nat) (w:an) (k:K1) (ha:a<4294967296):ev P (Op.unary .xor (.int .u32 (a:Int))) w k=k (.int .u32 ((4294967295^^^a:Nat):Int)) w:=aa (qE (k:= .u32) rfl a w ha) k
def EI (t:TypeId) (x y:Operand) (a n:Nat) (w:an) (k:K1) (hn:n<=32):ev P (aC .shr t x y (.int .u32 (a:Int)) (.int .u64 (n:Int))) w k=k (.int .u32 ((a/2^n:Nat):Int)) w:=aa (qC (k:= .u32) (j:= .u64) t x y a n w hn) k
def EJ (t:TypeId) (x y:Operand) (a n:Nat) (w:an) (k:K1) (hn:n<=32):ev P (aC .shl t x y (.int .u32 (a:Int)) (.int .u64 (n:Int))) w k=k (.int .u32 ((a*2^n%4294967296:Nat):Int)) w:=aa (qD (k:= .u32) (j:= .u64) rfl t x y a n w hn) k
def EK (t:TypeId) (x y:Operand) (a b:Nat) (w:an) (k:K1) (h:a+b<18446744073709551616):ev P (aC .add t x y (.int .u64 (a:Int)) (.int .u64 (b:Int))) w k=k (.int .u64 ((a+b:Nat):Int)) w:=aa (xX (k:= .u64) rfl t x y a b w h) k
def EL (t:TypeId) (x y:Operand) (a b:Nat) (w:an) (k:al->Prop) (h:a+b<18446744073709551616):rd P (aC .add t x y (.int .u64 (a:Int)) (.int .u64 (b:Int))) w k=k (.int .u64 ((a+b:Nat):Int)):=ah (xX (k:= .u64) rfl t x y a b w h) k
def EM (t:TypeId) (x y:Operand) (a b:Nat) (w:an) (k:K1) (h0:b<=a) (h:a<18446744073709551616):ev P (aC .sub t x y (.int .u64 (a:Int)) (.int .u64 (b:Int))) w k=k (.int .u64 ((a-b:Nat):Int)) w:=aa (Is (k:= .u64) rfl t x y a b w h0 h) k
def EN (t:TypeId) (x y:Operand) (a b:Nat) (w:an) (k:al->Prop) (h0:b<=a) (h:a<18446744073709551616):rd P (aC .sub t x y (.int .u64 (a:Int)) (.int .u64 (b:Int))) w k=k (.int .u64 ((a-b:Nat):Int)):=ah (Is (k:= .u64) rfl t x y a b w h0 h) k
def EO (t:TypeId) (x y:Operand) (a b:Nat) (w:an) (k:K1) (h:a*b<18446744073709551616):ev P (aC .mul t x y (.int .u64 (a:Int)) (.int .u64 (b:Int))) w k=k (.int .u64 ((a*b:Nat):Int)) w:=aa (It (k:= .u64) rfl t x y a b w h) k
def EP (t:TypeId) (x y:Operand) (a b:Nat) (w:an) (k:al->Prop) (h:a*b<18446744073709551616):rd P (aC .mul t x y (.int .u64 (a:Int)) (.int .u64 (b:Int))) w k=k (.int .u64 ((a*b:Nat):Int)):=ah (It (k:= .u64) rfl t x y a b w h) k
def EQ (t:TypeId) (x y:Operand) (a b:Nat) (w:an) (k:K1) (h:a<18446744073709551616) (hb:0<b):ev P (aC .quo t x y (.int .u64 (a:Int)) (.int .u64 (b:Int))) w k=k (.int .u64 ((a/b:Nat):Int)) w:=aa (WY (k:= .u64) rfl t x y a b w h hb) k
def ER (t:TypeId) (x y:Operand) (a b:Nat) (w:an) (k:K1) (hb:0<b):ev P (aC .rem t x y (.int .u64 (a:Int)) (.int .u64 (b:Int))) w k=k (.int .u64 ((a%b:Nat):Int)) w:=aa (qB (k:= .u64) t x y a b w hb) k
def ES (t:TypeId) (x y:Operand) (a b:Nat) (w:an) (k:al->Prop) (hb:0<b):rd P (aC .rem t x y (.int .u64 (a:Int)) (.int .u64 (b:Int))) w k=k (.int .u64 ((a%b:Nat):Int)):=ah (qB (k:= .u64) t x y a b w hb) k
def ET (t:TypeId) (x y:Operand) (a b:Nat) (w:an) (k:K1) (ha:a<18446744073709551616) (hb:b<18446744073709551616):ev P (aC .and t x y (.int .u64 (a:Int)) (.int .u64 (b:Int))) w k=k (.int .u64 ((a&&&b:Nat):Int)) w:=aa (Iu (k:= .u64) rfl t x y a b w ha hb) k
def Md (t:TypeId) (x y:Operand) (a b:Nat) (w:an) (k:K1) (ha:a<18446744073709551616) (hb:b<18446744073709551616):ev P (aC .or t x y (.int .u64 (a:Int)) (.int .u64 (b:Int))) w k=k (.int .u64 ((a|||b:Nat):Int)) w:=aa (PZ (k:= .u64) rfl t x y a b w ha hb) k
def EU (t:TypeId) (x y:Operand) (a b:Nat) (w:an) (k:al->Prop) (ha:a<18446744073709551616) (hb:b<18446744073709551616):rd P (aC .xor t x y (.int .u64 (a:Int)) (.int .u64 (b:Int))) w k=k (.int .u64 ((a^^^b:Nat):Int)):=ah (Iv (k:= .u64) rfl t x y a b w ha hb) k
def EV (t:TypeId) (x y:Operand) (a b:Nat) (w:an) (k:K1):ev P (aC .lss t x y (.int .u64 (a:Int)) (.int .u64 (b:Int))) w k=k (.bool (decide (a<b))) w:=aa (xY .u64 t x y a b w) k
def EW (t:TypeId) (x y:Operand) (a b:Nat) (w:an) (k:al->Prop):rd P (aC .lss t x y (.int .u64 (a:Int)) (.int .u64 (b:Int))) w k=k (.bool (decide (a<b))):=ah (xY .u64 t x y a b w) k
def EX (t:TypeId) (x y:Operand) (a b:Nat) (w:an) (k:K1):ev P (aC .leq t x y (.int .u64 (a:Int)) (.int .u64 (b:Int))) w k=k (.bool (decide (a<=b))) w:=aa (Iw .u64 t x y a b w) k
def EY (t:TypeId) (x y:Operand) (a b:Nat) (w:an) (k:K1):ev P (aC .gtr t x y (.int .u64 (a:Int)) (.int .u64 (b:Int))) w k=k (.bool (decide (b<a))) w:=aa (Ix .u64 t x y a b w) k
def EZ (t:TypeId) (x y:Operand) (a b:Nat) (w:an) (k:K1):ev P (aC .geq t x y (.int .u64 (a:Int)) (.int .u64 (b:Int))) w k=k (.bool (decide (b<=a))) w:=aa (yb .u64 t x y a b w) k
def E0 (t:TypeId) (x y:Operand) (a b:Nat) (w:an) (k:al->Prop):rd P (aC .geq t x y (.int .u64 (a:Int)) (.int .u64 (b:Int))) w k=k (.bool (decide (b<=a))):=ah (yb .u64 t x y a b w) k
def E5 (t:TypeId) (x y:Operand) (a b:Nat) (w:an) (k:K1):ev P (aC .eql t x y (.int .u64 (a:Int)) (.int .u64 (b:Int))) w k=k (.bool (decide (a=b))) w:=aa (ml .u64 t x y a b w) k
def E6 (t:TypeId) (x y:Operand) (a b:Nat) (w:an) (k:al->Prop):rd P (aC .eql t x y (.int .u64 (a:Int)) (.int .u64 (b:Int))) w k=k (.bool (decide (a=b))):=ah (ml .u64 t x y a b w) k
def E7 (t:TypeId) (x y:Operand) (a b:Nat) (w:an) (k:K1):ev P (aC .neq t x y (.int .u64 (a:Int)) (.int .u64 (b:Int))) w k=k (.bool (!decide (a=b))) w:=aa (iK .u64 t x y a b w) k
def E8 (t:TypeId) (x y:Operand) (a b:Nat) (w:an) (k:al->Prop):rd P (aC .neq t x y (.int .u64 (a:Int)) (.int .u64 (b:Int))) w k=k (.bool (!decide (a=b))):=ah (iK .u64 t x y a b w) k
def E9 (a:Nat) (w:an) (k:K1) (ha:a<18446744073709551616):ev P (Op.unary .xor (.int .u64 (a:Int))) w k=k (.int .u64 ((18446744073709551615^^^a:Nat):Int)) w:=aa (qE (k:= .u64) rfl a w ha) k
def Fa (t:TypeId) (x y:Operand) (a n:Nat) (w:an) (k:K1) (hn:n<=64):ev P (aC .shr t x y (.int .u64 (a:Int)) (.int .u64 (n:Int))) w k=k (.int .u64 ((a/2^n:Nat):Int)) w:=aa (qC (k:= .u64) (j:= .u64) t x y a n w hn) k
def Fb (t:TypeId) (x y:Operand) (a n:Nat) (w:an) (k:al->Prop) (hn:n<=64):rd P (aC .shr t x y (.int .u64 (a:Int)) (.int .u64 (n:Int))) w k=k (.int .u64 ((a/2^n:Nat):Int)):=ah (qC (k:= .u64) (j:= .u64) t x y a n w hn) k
def Fc (t:TypeId) (x y:Operand) (a n:Nat) (w:an) (k:K1) (hn:n<=64):ev P (aC .shl t x y (.int .u64 (a:Int)) (.int .u64 (n:Int))) w k=k (.int .u64 ((a*2^n%18446744073709551616:Nat):Int)) w:=aa (qD (k:= .u64) (j:= .u64) rfl t x y a n w hn) k
def Fd (t:TypeId) (x y:Operand) (a n:Nat) (w:an) (k:al->Prop) (hn:n<=64):rd P (aC .shl t x y (.int .u64 (a:Int)) (.int .u64 (n:Int))) w k=k (.int .u64 ((a*2^n%18446744073709551616:Nat):Int)):=ah (qD (k:= .u64) (j:= .u64) rfl t x y a n w hn) k
def Fe (t:TypeId) (x y:Operand) (a b:Int) (w:an) (k:K1) (h0: -9223372036854775808<=a+b) (h1:a+b<9223372036854775808):ev P (aC .add t x y (.int .i64 a) (.int .i64 b)) w k=k (.int .i64 (a+b)) w:=aa ((Go.Sh.run_add t x y .i64 a b w).trans (by rw [bN h0 h1])) k
def Ff (t:TypeId) (x y:Operand) (a b:Int) (w:an) (k:al->Prop) (h0: -9223372036854775808<=a+b) (h1:a+b<9223372036854775808):rd P (aC .add t x y (.int .i64 a) (.int .i64 b)) w k=k (.int .i64 (a+b)):=ah ((Go.Sh.run_add t x y .i64 a b w).trans (by rw [bN h0 h1])) k
def Fg (t:TypeId) (x y:Operand) (a b:Int) (w:an) (u:al) (h0: -9223372036854775808<=a+b) (h1:a+b<9223372036854775808):ag P (aC .add t x y (.int .i64 a) (.int .i64 b)) w u=(.int .i64 (a+b)=u):=aV ((Go.Sh.run_add t x y .i64 a b w).trans (by rw [bN h0 h1])) u
def Fh (t:TypeId) (x y:Operand) (a b:Int) (w:an) (k:K1) (h0: -9223372036854775808<=a-b) (h1:a-b<9223372036854775808):ev P (aC .sub t x y (.int .i64 a) (.int .i64 b)) w k=k (.int .i64 (a-b)) w:=aa ((Go.Sh.run_sub t x y .i64 a b w).trans (by rw [bN h0 h1])) k
def Fi (t:TypeId) (x y:Operand) (a b:Int) (w:an) (k:al->Prop) (h0: -9223372036854775808<=a-b) (h1:a-b<9223372036854775808):rd P (aC .sub t x y (.int .i64 a) (.int .i64 b)) w k=k (.int .i64 (a-b)):=ah ((Go.Sh.run_sub t x y .i64 a b w).trans (by rw [bN h0 h1])) k
def Fj (t:TypeId) (x y:Operand) (a b:Int) (w:an) (u:al) (h0: -9223372036854775808<=a-b) (h1:a-b<9223372036854775808):ag P (aC .sub t x y (.int .i64 a) (.int .i64 b)) w u=(.int .i64 (a-b)=u):=aV ((Go.Sh.run_sub t x y .i64 a b w).trans (by rw [bN h0 h1])) u
def Fk (t:TypeId) (x y:Operand) (a b:Int) (w:an) (k:K1) (h0: -9223372036854775808<=a*b) (h1:a*b<9223372036854775808):ev P (aC .mul t x y (.int .i64 a) (.int .i64 b)) w k=k (.int .i64 (a*b)) w:=aa ((Go.Sh.run_mul t x y .i64 a b w).trans (by rw [bN h0 h1])) k
def Fl (t:TypeId) (x y:Operand) (a b:Int) (w:an) (k:al->Prop) (h0: -9223372036854775808<=a*b) (h1:a*b<9223372036854775808):rd P (aC .mul t x y (.int .i64 a) (.int .i64 b)) w k=k (.int .i64 (a*b)):=ah ((Go.Sh.run_mul t x y .i64 a b w).trans (by rw [bN h0 h1])) k
def Fm (t:TypeId) (x y:Operand) (a b:Int) (w:an) (u:al) (h0: -9223372036854775808<=a*b) (h1:a*b<9223372036854775808):ag P (aC .mul t x y (.int .i64 a) (.int .i64 b)) w u=(.int .i64 (a*b)=u):=aV ((Go.Sh.run_mul t x y .i64 a b w).trans (by rw [bN h0 h1])) u
def Fo (t:TypeId) (x y:Operand) (a b:Int) (w:an) (k:K1) (ha:0<=a) (h:a<9223372036854775808) (hb:0<b):ev P (aC .quo t x y (.int .i64 a) (.int .i64 b)) w k=k (.int .i64 (a/b)) w:=aa (js t x y a b w ha h hb) k
def Fp (t:TypeId) (x y:Operand) (a b:Int) (w:an) (k:al->Prop) (ha:0<=a) (h:a<9223372036854775808) (hb:0<b):rd P (aC .quo t x y (.int .i64 a) (.int .i64 b)) w k=k (.int .i64 (a/b)):=ah (js t x y a b w ha h hb) k
def Fq (t:TypeId) (x y:Operand) (a b:Int) (w:an) (u:al) (ha:0<=a) (h:a<9223372036854775808) (hb:0<b):ag P (aC .quo t x y (.int .i64 a) (.int .i64 b)) w u=(.int .i64 (a/b)=u):=aV (js t x y a b w ha h hb) u
def Fs (t:TypeId) (x y:Operand) (a b:Int) (w:an) (k:K1) (ha:0<=a) (hb:0<b):ev P (aC .rem t x y (.int .i64 a) (.int .i64 b)) w k=k (.int .i64 (a%b)) w:=aa (Go.Sh.run_rem t x y .i64 a b w ha hb) k
def Ft (t:TypeId) (x y:Operand) (a b:Int) (w:an) (k:al->Prop) (ha:0<=a) (hb:0<b):rd P (aC .rem t x y (.int .i64 a) (.int .i64 b)) w k=k (.int .i64 (a%b)):=ah (Go.Sh.run_rem t x y .i64 a b w ha hb) k
def Fu (t:TypeId) (x y:Operand) (a b:Int) (w:an) (k:K1):ev P (aC .lss t x y (.int .i64 a) (.int .i64 b)) w k=k (.bool (decide (a<b))) w:=aa (Go.Sh.run_lss t x y .i64 a b w) k
def Fv (t:TypeId) (x y:Operand) (a b:Int) (w:an) (k:al->Prop):rd P (aC .lss t x y (.int .i64 a) (.int .i64 b)) w k=k (.bool (decide (a<b))):=ah (Go.Sh.run_lss t x y .i64 a b w) k
def Fw (t:TypeId) (x y:Operand) (a b:Int) (w:an) (k:K1):ev P (aC .leq t x y (.int .i64 a) (.int .i64 b)) w k=k (.bool (decide (a<=b))) w:=aa (Go.Sh.run_leq t x y .i64 a b w) k
def Fx (t:TypeId) (x y:Operand) (a b:Int) (w:an) (k:al->Prop):rd P (aC .leq t x y (.int .i64 a) (.int .i64 b)) w k=k (.bool (decide (a<=b))):=ah (Go.Sh.run_leq t x y .i64 a b w) k
def Fy (t:TypeId) (x y:Operand) (a b:Int) (w:an) (k:K1):ev P (aC .gtr t x y (.int .i64 a) (.int .i64 b)) w k=k (.bool (decide (b<a))) w:=aa (Go.Sh.run_gtr t x y .i64 a b w) k
def Fz (t:TypeId) (x y:Operand) (a b:Int) (w:an) (k:al->Prop):rd P (aC .gtr t x y (.int .i64 a) (.int .i64 b)) w k=k (.bool (decide (b<a))):=ah (Go.Sh.run_gtr t x y .i64 a b w) k
def FA (t:TypeId) (x y:Operand) (a b:Int) (w:an) (k:K1):ev P (aC .geq t x y (.int .i64 a) (.int .i64 b)) w k=k (.bool (decide (b<=a))) w:=aa (Go.Sh.run_geq t x y .i64 a b w) k
def FB (t:TypeId) (x y:Operand) (a b:Int) (w:an) (k:al->Prop):rd P (aC .geq t x y (.int .i64 a) (.int .i64 b)) w k=k (.bool (decide (b<=a))):=ah (Go.Sh.run_geq t x y .i64 a b w) k
def FC (t:TypeId) (x y:Operand) (a b:Int) (w:an) (k:K1):ev P (aC .eql t x y (.int .i64 a) (.int .i64 b)) w k=k (.bool (decide (a=b))) w:=aa (Go.Sh.run_eql t x y .i64 a b w) k
def FD (t:TypeId) (x y:Operand) (a b:Int) (w:an) (k:al->Prop):rd P (aC .eql t x y (.int .i64 a) (.int .i64 b)) w k=k (.bool (decide (a=b))):=ah (Go.Sh.run_eql t x y .i64 a b w) k
def FE (t:TypeId) (x y:Operand) (a b:Int) (w:an) (k:K1):ev P (aC .neq t x y (.int .i64 a) (.int .i64 b)) w k=k (.bool (!decide (a=b))) w:=aa (Go.Sh.run_neq t x y .i64 a b w) k
def FF (t:TypeId) (x y:Operand) (a b:Int) (w:an) (k:al->Prop):rd P (aC .neq t x y (.int .i64 a) (.int .i64 b)) w k=k (.bool (!decide (a=b))):=ah (Go.Sh.run_neq t x y .i64 a b w) k
def RN0:=ab (LR P)<|ab (LS P)<|(LT P)
def RN1:=ab (LU P)<|ab (LV P)<|ab (LX P)<|ab (LY P)<|ab (LZ P)<|ab (Ma P)<|(Mb P)
def RN2:=(Ex P)
def RN3:=ab (Ey P)<|ab (Ez P)<|ab (EB P)<|(EC P)
def RN4:=ab (ED P)<|ab (Mc P)<|(EE P)
def RN5:=ab (EF P)<|ab (EG P)<|ab (EH P)<|(EI P)
def RN6:=ab (EJ P)<|ab (EK P)<|ab (EL P)<|ab (EM P)<|ab (EN P)<|ab (EO P)<|ab (EP P)<|ab (EQ P)<|ab (ER P)<|ab (ES P)<|ab (ET P)<|(Md P)
def RN7:=ab (EU P)<|ab (EV P)<|ab (EW P)<|ab (EX P)<|ab (EY P)<|ab (EZ P)<|ab (E0 P)<|ab (E5 P)<|ab (E6 P)<|ab (E7 P)<|ab (E8 P)<|ab (E9 P)<|ab (Fa P)<|(Fb P)
def RN8:=ab (Fc P)<|ab (Fd P)<|ab (Fe P)<|ab (Ff P)<|ab (Fg P)<|ab (Fh P)<|ab (Fi P)<|ab (Fj P)<|ab (Fk P)<|ab (Fl P)<|ab (Fm P)<|ab (Fo P)<|ab (Fp P)<|ab (Fq P)<|ab (Fs P)<|ab (Ft P)<|ab (Fu P)<|ab (Fv P)<|ab (Fw P)<|(Fx P)
def RN9:=ab (Fy P)<|ab (Fz P)<|ab (FA P)<|ab (FB P)<|ab (FC P)<|ab (FD P)<|ab (FE P)<|(FF P)
def RN:=ab (RN0 P)<|ab (RN1 P)<|ab (RN2 P)<|ab (RN3 P)<|ab (RN4 P)<|ab (RN5 P)<|ab (RN6 P)<|ab (RN7 P)<|ab (RN8 P)<|(RN9 P)
end
def dOk (m:Nat):Option Tmp->Bool
 |none=>true
 |some d=>tb m d
def ju (m:Nat):Code->Bool
 | .region _ ops _=>ops.toList.all λo=>dOk m o.dst
 | .seq a b=>ju m a&&ju m b
 | .cond _ a b=>ju m a&&ju m b
 | .block _ c=>ju m c
 | .loop c=>ju m c
 |_=>true
def aaE (m' m:Nat):Bool:=Nat.beq (Nat.land m' m) m'
structure dB (m:Nat) (f0 fr:Fr):Prop where
 len:fr.length=f0.length
 eq:∀i,tb m i=false->fr.getD i undef=f0.getD i undef
def dB.refl (m:Nat) (f:Fr):dB m f f:=⟨rfl,λ_ _=>rfl⟩
def dB.put {m:Nat} {f0 fr:Fr} (h:dB m f0 fr) {d:Option Tmp} (hd:dOk m d=true) (v:al):dB m f0 (put fr d v):=by
 refine ⟨by rw [ez];exact h.len,λi hi=> ?_⟩;rw [dD (λe=>by subst e;simp only [dOk] at hd;rw [hd] at hi;cases hi)];exact h.eq i hi
def WZ {m' m i:Nat} (h:aaE m' m=true) (hi:tb m i=false):tb m' i=false:=by
 have e:m'&&&m=m':=bd h;rw [Bx] at hi ⊢;rw [<-e,dm,hi,dv]
def dB.up {m m':Nat} {f0 f1 fr:Fr} (hm:aaE m' m=true) (a:dB m f0 f1) (h:dB m' f1 fr):dB m f0 fr:=
 ⟨h.len.trans a.len,λi hi=>(h.eq i (WZ hm hi)).trans (a.eq i hi)⟩
def mn {P:Program} {r:Result Next} {k k':K1} (hk:∀v w,k v w->k' v w) (h:stN P r k):stN P r k':=by
 cases r with
 |halt x w=>exact h.elim
 |ok n w=>
  cases n<;>simp only [stN] at h ⊢<;>try exact hk _ _ h
  ·refine Calls.mono h ?_;intro e w' hr
   cases e with
   |returned v=>exact hk _ _ hr
   |panicked c=>exact hr
   |outgrown=>exact hr
  ·refine RoundIn.mono h ?_;intro e w' hr
   cases e with
   |returned v=>exact hk _ _ hr
   |panicked c=>exact hr
   |outgrown=>exact hr
def BG {P:Program} {f:FuncId} {args:Array al} {w:an} {k k':K1} (hk:∀v w,k v w->k' v w) (h:ad P f args w k):ad P f args w k':=by
 refine Calls.mono h ?_;intro e w' hr
 cases e with
 |returned v=>exact hk _ _ hr
 |panicked c=>exact hr
 |outgrown=>exact hr
def bB {P:Program} {s:Sem al} {w:an} {k k':K1} (hk:∀v w,k v w->k' v w) (h:ev P s w k):ev P s w k':=by
 unfold ev at h ⊢
 cases hr:s.run P w with
 |ok v w'=>rw [hr] at h;exact hk _ _ h
 |halt x w'=>rw [hr] at h;exact h
def Iy {P:Program} {s:Sem Unit} {w:an} {k k':an->Prop} (hk:∀w,k w->k' w) (h:ac P s w k):ac P s w k':=by
 unfold ac at h ⊢
 cases hr:s.run P w with
 |ok v w'=>rw [hr] at h;exact hk _ h
 |halt x w'=>rw [hr] at h;exact h
def Iz {o:Option al} {k k':al->Prop} (hk:∀v,k v->k' v) (h:oE o k):oE o k':=by
 unfold oE at h ⊢
 cases o with
 |some v=>exact hk _ h
 |none=>exact h
def W1 {o:Option an} {k k':an->Prop} (hk:∀v,k v->k' v) (h:oW o k):oW o k':=by
 unfold oW at h ⊢
 cases o with
 |some v=>exact hk _ h
 |none=>exact h
def BH {P:Program} {o:Op} {ty:TypeId} {ρ:Operand->al} {w:an} {k k':K1} (hk:∀v w,k v w->k' v w) (h:opS P o ty ρ w k):opS P o ty ρ w k':=by
 cases o with
 |move x=>exact hk _ _ h
 |assign x=>exact hk _ _ h
 |pick c a b=>
  simp only [opS,au] at h ⊢;split at h
  ·exact hk _ _ h
  ·exact hk _ _ h
  ·exact h
 |alloc t=>exact bB hk h
 |box t x=>simp only [opS] at h ⊢;exact bB hk h
 |build t ps=>exact bB hk h
 |buildSlice t n ps=>exact bB hk h
 |load t a=>exact Iz (λv=>hk v _) h
 |store t a x=>exact W1 (λv=>hk _ _) h
 |nilCheck x=>exact mn hk h
 |binOp op t x y yt=>exact bB hk h
 |unOp op t x=>exact bB hk h
 |convert s d x=>exact bB hk h
 |makeInterface t x=>exact bB hk h
 |makeMap t r=>cases r with
  |none=>simp only [opS] at h ⊢;exact bB hk h
  |some r=>exact h
 |makeSlice t l c=>exact bB hk h
 |slice t x lo hi mx=>exact bB hk h
 |fieldAddr s x f=>exact bB hk h
 |field t x f=>exact bB hk h
 |indexAddr t x i=>exact bB hk h
 |index t x i=>exact bB hk h
 |lookup t x i c=>exact bB hk h
 |mapUpdate t m i x=>exact Iy (λw=>hk _ w) h
 |insert t m i x=>exact Iy (λw=>hk _ w) h
 |range t x=>exact bB hk h
 |next it s=>exact bB hk h
 |entry it=>exact bB hk h
 |extract t i=>exact bB hk h
 |makeFunc f a b=>simp only [opS] at h ⊢;exact bB hk h
 |call c=>
  obtain ⟨e,args,ts⟩:=c
  cases e with
  |value f=>
   cases f with
   |func f=>exact BG hk h
   |_=>exact mn hk h
  |invoke r name=>exact mn hk h
  |builtin b=>exact mn hk h
 |_=>exact h.elim
def W2 {x:al} {a:Bool} {c:K1->Prop} {w:an} {k k':K1} (hy:c k->c k') (hk:∀v w,k v w->k' v w) (h:gd x a c w k):gd x a c w k':=by
 unfold gd at h ⊢;split
 ·rename_i b
  cases b<;>cases a<;>simp only at h ⊢<;>first|exact hy h|exact hk _ _ h
 ·rename_i hx;split at h
  ·rename_i b;exact absurd rfl (hx b)
  ·exact hk _ _ h
def uK {P:Program} {ops:List Oper} {o:Oper} {fr:Fr} {w:an} {k k':K1} (hk:∀v w,k v w->k' v w) (h:qm P ops o fr w k):qm P ops o fr w k':=by
 unfold qm at h ⊢
 cases hg:o.guard with
 |none=>rw [hg] at h;exact BH hk h
 |some g=>rw [hg] at h;exact W2 (BH hk) hk h
def Me {P:Program} {ops:List Oper} {m:Nat} {f0:Fr} {k k':KF} (hk:∀fr w,dB m f0 fr->k fr w->k' fr w):∀(l:List Oper) (fr:Fr) (w:an),(l.all λo=>dOk m o.dst)=true->dB m f0 fr->LB P ops l k fr w->LB P ops l k' fr w:=by
 intro l
 induction l with
 |nil=>intro fr w _ hs h;exact hk _ _ hs h
 |cons o l ih=>
  intro fr w hd hs h;simp only [d1,av] at hd;exact uK (λv w' h=>ih _ _ hd.2 (hs.put hd.1 v) h) h
def W3 {P:Program} {s:Sem al} {w:an} {k k':al->Prop} (hk:∀v,k v->k' v) (h:rd P s w k):rd P s w k':=by
 unfold rd at h ⊢
 cases hr:s.run P w with
 |ok v w'=>rw [hr] at h;exact ⟨h.1,hk _ h.2⟩
 |halt x w'=>rw [hr] at h;exact h
def Mf {P:Program} {x:al} {w:an} {k k':al->Prop} (hk:∀v,k v->k' v) (h:br P x w k):br P x w k':=by
 unfold br at h ⊢;split
 ·rename_i v w' hr;rw [hr] at h;exact ⟨h.1,hk _ h.2⟩
 ·rename_i hx;split at h
  ·rename_i v w' hr;exact absurd hr (hx v w')
  ·exact h
def BI {P:Program} {o:Op} {ty:TypeId} {ρ:Operand->al} {w:an} {k k':al->Prop} (hk:∀v,k v->k' v) (h:rdS P o ty ρ w k):rdS P o ty ρ w k':=by
 have d:(match rdO o ty ρ with|some s=>rd P s w k|none=>False)->(match rdO o ty ρ with|some s=>rd P s w k'|none=>False):=by
  intro h
  cases hs:rdO o ty ρ with
  |none=>rw [hs] at h;exact h.elim
  |some s=>rw [hs] at h;exact W3 hk h
 cases o
 case move x=>exact hk _ h
 case pick c a b=>
  simp only [rdS,bo] at h ⊢;split at h
  ·exact hk _ h
  ·exact hk _ h
  ·exact h
 case nilCheck x=>exact Mf hk h
 case load t x=>exact Iz hk h
 all_goals exact d h
def P0 {x:al} {a:Bool} {c:(al->Prop)->Prop} {k k':al->Prop} (hy:c k->c k') (hk:∀v,k v->k' v) (h:gdR x a c k):gdR x a c k':=by
 unfold gdR at h ⊢;split
 ·rename_i b
  cases b<;>cases a<;>simp only at h ⊢<;>first|exact hy h|exact hk _ h
 ·rename_i hx;split at h
  ·rename_i b;exact absurd rfl (hx b)
  ·exact hk _ h
def Mg {P:Program} {ops:List Oper} {o:Oper} {fr:Fr} {w:an} {k k':al->Prop} (hk:∀v,k v->k' v) (h:Bz P ops o fr w k):Bz P ops o fr w k':=by
 unfold Bz at h ⊢
 cases hg:o.guard with
 |none=>rw [hg] at h;exact BI hk h
 |some g=>rw [hg] at h;exact P0 (BI hk) hk h
def yd {P:Program} {ops:List Oper} {fr:Fr} {w:an} {X Y:Prop} (hX:X->Y):∀(l:List Oper),eZ P ops l fr w X->eZ P ops l fr w Y:=by
 intro l
 induction l with
 |nil=>exact hX
 |cons o l ih=>intro h;exact ⟨h.1,ih h.2⟩
def Mh {α:Type} {f g:α->Prop}:∀(l:List α) (x:α),(∀y∈x::l,f y->g y)->xP f x l->xP g x l:=by
 intro l
 induction l with
 |nil=>intro x h;exact h x b0
 |cons y l ih=>intro x h h1;exact ⟨h x b0 h1.1,ih y (λz hz=>h z (b5 _ hz)) h1.2⟩
def uL {done:Nat}:∀(l:List Oper) (i:Nat) (k:Nat) (o:Oper),(k,o)∈gw done l i->o∈l:=by
 intro l
 induction l with
 |nil=>intro i k o h;cases h
 |cons x l ih=>
  intro i k o h;unfold gw at h;split at h
  ·rcases List.mem_cons.1 h with h|h
   ·injection h with _ h;rw [h];exact b0
   ·exact b5 _ (ih _ _ _ h)
  ·exact b5 _ (ih _ _ _ h)
def Mi {P:Program} {ops:List Oper} {bef:List Nat} {m:Nat} {f0:Fr} {k k':KF} (hd:(ops.all λo=>dOk m o.dst)=true) (hk:∀fr w,dB m f0 fr->k fr w->k' fr w):∀(n done:Nat) (fr:Fr) (w:an),dB m f0 fr->jl P ops bef k n done fr w->jl P ops bef k' n done fr w:=by
 intro n
 induction n with
 |zero=>intro done fr w hs h;exact hk _ _ hs h
 |succ n ih=>
  intro done fr w hs h;unfold jl at h ⊢
  cases hf:gu done ops 0 with
  |some x=>
   obtain ⟨i,o⟩:=x;rw [hf] at h;obtain ⟨j,_,hj,_⟩:=fT ops 0 i o hf;have ho:=List.all_eq_true.1 hd o (List.mem_of_getElem? hj);exact Mg (λv h=>ih _ _ _ (hs.put ho v) h) h
  |none=>
   rw [hf] at h;simp only at h ⊢
   cases hn:gw done ops 0 with
   |nil=>rw [hn] at h;exact hk _ _ hs h
   |cons x l=>
    rw [hn] at h;refine Mh l x (λy hy h=> ?_) h;have ho:=List.all_eq_true.1 hd y.2 (uL ops 0 y.1 y.2 (by rw [hn];exact hy));exact uK (λv w' h=>yd (λh=>ih _ _ _ (hs.put ho v) h) _ h) h
def uM {x:al} {A B A' B':Prop} (h1:A->A') (h2:B->B') (h:ae x A B):ae x A' B':=by
 unfold ae at h ⊢;split at h
 ·exact h1 h
 ·exact h2 h
 ·exact h
def BJ {m:Nat} {f0:Fr} {id:Nat} {k k':KF} {e e':Nat->KF} (hk:∀fr w,dB m f0 fr->k fr w->k' fr w) (he:∀j fr w,dB m f0 fr->e j fr w->e' j fr w):∀j fr w,dB m f0 fr->exB id k e j fr w->exB id k' e' j fr w:=by
 intro j fr w hs h;unfold exB at h ⊢
 cases hj:Nat.beq j id with
 |true=>rw [hj] at h;exact hk _ _ hs h
 |false=>rw [hj] at h;exact he _ _ _ hs h
def FG {P:Program} {m:Nat} {f0:Fr}:∀(c:Code) {k k' r r':KF} {e e':Nat->KF},ju m c=true->(∀fr w,dB m f0 fr->k fr w->k' fr w)->(∀fr w,dB m f0 fr->r fr w->r' fr w)->(∀j fr w,dB m f0 fr->e j fr w->e' j fr w)->
  ∀(fr:Fr) (w:an),dB m f0 fr->dW P c k r e fr w->dW P c k' r' e' fr w:=by
 intro c
 induction c with
 |skip=>intro k k' r r' e e' _ hk _ _ fr w hs h;exact hk _ _ hs h
 |region id ops d=>
  intro k k' r r' e e' hw hk _ _ fr w hs h
  cases d with
  |false=>exact Me hk _ _ _ hw hs h
  |true=>exact Mi hw hk _ _ _ _ hs h
 |seq a b iha ihb=>
  intro k k' r r' e e' hw hk hr he fr w hs h;simp only [ju,av] at hw;exact iha hw.1 (λfr w hs h=>ihb hw.2 hk hr he fr w hs h) hr he fr w hs h
 |cond c x y ihx ihy=>
  intro k k' r r' e e' hw hk hr he fr w hs h;simp only [ju,av] at hw;exact uM (ihx hw.1 hk hr he fr w hs) (ihy hw.2 hk hr he fr w hs) h
 |block id c ih=>
  intro k k' r r' e e' hw hk hr he fr w hs h;exact ih hw hk hr (BJ hk he) fr w hs h
 |loop c ih=>
  intro k k' r r' e e' hw hk hr he fr w hs h;obtain ⟨I,μ,h0,f⟩:=h;refine ⟨λfr w=>dB m f0 fr/\I fr w,μ,⟨hs,h0⟩,?_⟩;rintro fr w ⟨hs,hI⟩;exact ih hw (λfr' w' g h=>⟨⟨g,h.1⟩,h.2⟩) hr he fr w hs (f fr w hI)
 |exit id=>intro k k' r r' e e' _ _ _ he fr w hs h;exact he _ _ _ hs h
 |ret=>intro k k' r r' e e' _ _ hr _ fr w hs h;exact hr _ _ hs h
 |_=>intro k k' r r' e e' _ _ _ _ fr w _ h;exact h.elim
def sv (fr:Fr) (i:Nat):al:=fr.getD i undef
def dB.sv {m:Nat} {f0 fr:Fr} (h:dB m f0 fr) (i:Nat) (hi:tb m i=false):sv fr i=sv f0 i:=h.eq i hi
def rp (keep:Nat) (σ:Nat->al):Nat->Fr->Fr
 |_,[]=> []
 |i,x::l=>(match tb keep i with|true=>x|false=>σ i)::rp keep σ (i+1) l
def BK {keep:Nat} {σ:Nat->al}:∀(l:Fr) (i:Nat) (g:Fr),g.length=l.length->(∀j,j<l.length->(tb keep (i+j)=true->l.getD j undef=g.getD j undef)/\(tb keep (i+j)=false->σ (i+j)=g.getD j undef))->rp keep σ i l=g:=by
 intro l
 induction l with
 |nil=>intro i g hg _;simp at hg;simp [rp,hg]
 |cons x l ih=>
  intro i g hg h
  cases g with
  |nil=>simp at hg
  |cons y g=>
   have h0:=h 0 (by simp);simp only [ca,List.getD_cons_zero] at h0;have h1:=ih (i+1) g (by simpa using hg) (λj hj=>by
    have:=h (j+1) (by simp;omega);rw [show i+(j+1)=i+1+j by omega] at this;simpa using this)
   simp only [rp,h1]
   cases hb:tb keep i with
   |true=>simp only;rw [h0.1 hb]
   |false=>simp only;rw [h0.2 hb]
def Mj (keep:Nat) (fr:Fr):rp keep (sv fr) 0 fr=fr:=BK fr 0 fr rfl (λj _=>⟨λ_=>rfl,λ_=>by simp [sv]⟩)
def lq (T:Type):List Nat->Type
 | []=>an->T
 |_::l=>al->lq T l
def rq {T:Type}:(l:List Nat)->lq T l->(Nat->al)->an->T
 | [],I,_=>I
 |i::l,I,σ=>rq l (I (σ i)) σ
def aaF:(l:List Nat)->lq Prop l->lq Nat l->Nat->lq Prop l->Prop
 | [],I,μ,m,E=>∀w,I w->μ w<m->E w
 |_::l,I,μ,m,E=>∀y,aaF l (I y) (μ y) m (E y)
def aaG:(l:List Nat)->lq Prop l->lq Nat l->Nat->lq Prop l
 | [],I,μ,m=>λw=>I w/\μ w<m
 |_::l,I,μ,m=>λy=>aaG l (I y) (μ y) m
def BL:∀(l:List Nat) (I:lq Prop l) (μ:lq Nat l) (m:Nat),aaF l I μ m (aaG l I μ m)
 | [],_,_,_=>λ_ a b=>⟨a,b⟩
 |_::l,I,μ,m=>λy=>BL l (I y) (μ y) m
def BM:∀(l:List Nat) (I:lq Prop l) (μ:lq Nat l) (m:Nat) (σ:Nat->al) (w:an),rq l (aaG l I μ m) σ w->rq l I σ w/\rq l μ σ w<m
 | [],_,_,_,_,_=>λh=>h
 |i::l,I,μ,m,σ,w=>BM l (I (σ i)) (μ (σ i)) m σ w
def aE (lm:List Nat) (keep:Nat) (a:KF->KF) (fr:Fr) (w:an):Prop:=
 ∃(I:lq Prop lm) (μ:lq Nat lm),rq lm I (sv fr) w/\∀(σ:Nat->al) (w:an),rq lm I σ w->∀E:lq Prop lm,aaF lm I μ (rq lm μ σ w) E->a (λfr w=>rq lm E (sv fr) w) (rp keep σ 0 fr) w
inductive Dec
 |o
 |s (a b:Dec)
 |x (keep:Nat) (a b:Dec)
 |b (a:Dec)
 |l (lm:List Nat) (keep wr:Nat) (a:Dec)
def gR (P:Program):Dec->Code->KF->KF->(Nat->KF)->KF
 | .o,c,k,r,e=>dW P c k r e
 | .s da db,c,k,r,e=>match c with
  | .seq a b=>gR P da a (λfr w=>gR P db b k r e fr w) r e
  | .cond x a b=>λfr w=>ae (evO fr x) (gR P da a k r e fr w) (gR P db b k r e fr w)
  |_=>λ_ _=>False
 | .x keep da db,c,k,r,e=>match c with
  | .seq a b=>gR P da a (λfr w=>∀σ:Nat->al,gR P db b k r e (rp keep σ 0 fr) w) r e
  |_=>λ_ _=>False
 | .b d,c,k,r,e=>match c with
  | .block id c=>gR P d c k r (exB id k e)
  |_=>λ_ _=>False
 | .l lm keep _ d,c,_,r,e=>match c with
  | .loop c=>λfr w=>aE lm keep (λE=>gR P d c E r e) fr w
  |_=>λ_ _=>False
def okT (m:Nat):Dec->Code->Bool
 | .s da db,c=>match c with
  | .seq a b=>okT m da a&&okT m db b
  | .cond _ a b=>okT m da a&&okT m db b
  |_=>true
 | .x _ da db,c=>match c with
  | .seq a b=>okT m da a&&okT m db b
  |_=>true
 | .b d,c=>match c with
  | .block _ c=>okT m d c
  |_=>true
 | .l _ keep wr d,c=>match c with
  | .loop c=>ju wr c&&(aaE wr m&&(Nat.beq (Nat.land keep wr) 0&&okT wr d c))
  |_=>true
 | .o,_=>true
def W4 {keep wr i:Nat} (h:Nat.beq (Nat.land keep wr) 0=true) (hi:tb keep i=true):tb wr i=false:=by
 have e:keep&&&wr=0:=bd h;rw [Bx] at hi ⊢;have h2:(keep&&&wr).testBit i=false:=by rw [e];exact dk i
 rw [dm,hi,cw] at h2;exact h2
def qd {P:Program}:∀(d:Dec) (c:Code) {m:Nat} {f0:Fr} {k k' r r':KF} {e e':Nat->KF},okT m d c=true->ju m c=true->(∀fr w,dB m f0 fr->k fr w->k' fr w)->(∀fr w,dB m f0 fr->r fr w->r' fr w)->(∀j fr w,dB m f0 fr->e j fr w->e' j fr w)->
  ∀(fr:Fr) (w:an),dB m f0 fr->gR P d c k r e fr w->dW P c k' r' e' fr w:=by
 intro d
 induction d with
 |o=>intro c m f0 k k' r r' e e' _ hw hk hr he fr w hs h;exact FG c hw hk hr he fr w hs h
 |s da db iha ihb=>
  intro c m f0 k k' r r' e e' ho hw hk hr he fr w hs h
  cases c with
  |seq a b=>
   simp only [okT,ju,av] at ho hw;exact iha a ho.1 hw.1 (λfr w hs h=>ihb b ho.2 hw.2 hk hr he fr w hs h) hr he fr w hs h
  |cond x a b=>
   simp only [okT,ju,av] at ho hw;exact uM (iha a ho.1 hw.1 hk hr he fr w hs) (ihb b ho.2 hw.2 hk hr he fr w hs) h
  |_=>exact h.elim
 |x keep da db iha ihb=>
  intro c m f0 k k' r r' e e' ho hw hk hr he fr w hs h
  cases c with
  |seq a b=>
   simp only [okT,ju,av] at ho hw;refine iha a ho.1 hw.1 (λfr w hs h=> ?_) hr he fr w hs h;have h1:=h (sv fr);rw [Mj] at h1;exact ihb b ho.2 hw.2 hk hr he fr w hs h1
  |_=>exact h.elim
 |b d ih=>
  intro c m f0 k k' r r' e e' ho hw hk hr he fr w hs h
  cases c with
  |block id c=>exact ih c ho hw hk hr (BJ hk he) fr w hs h
  |_=>exact h.elim
 |l lm keep wr d ih=>
  intro c m f0 k k' r r' e e' ho hw hk hr he fr w hs h
  cases c with
  |loop c=>
   simp only [okT,av] at ho;obtain ⟨o1,o2,o3,o4⟩:=ho;obtain ⟨I,μ,h0,g⟩:=h;refine ⟨λf' w'=>dB wr fr f'/\rq lm I (sv f') w',λf' w'=>rq lm μ (sv f') w',⟨dB.refl _ _,h0⟩,?_⟩;rintro f' w' ⟨hs',hI⟩;have hb:=g (sv f') w' hI _ (BL lm I μ (rq lm μ (sv f') w'));have hm:rp keep (sv f') 0 fr=f':=BK fr 0 f' hs'.len (λj _=>⟨λhj=>by
    rw [c7] at hj;exact (hs'.eq j (W4 o3 hj)).symm,λ_=>by simp [sv]⟩)
   rw [hm] at hb;refine ih c o4 o1 (λf2 w2 f h2=> ?_) (λf2 w2 f h2=>hr f2 w2 (dB.up o2 hs f) h2) (λj f2 w2 f h2=>he j f2 w2 (dB.up o2 hs f) h2) f' w' hs' hb;have h3:=BM lm I μ _ (sv f2) w2 h2;exact ⟨⟨f,h3.1⟩,h3.2⟩
  |_=>exact h.elim
def nX:Nat->KF:=λ_ _ _=>False
def txt (P:Program) (fn:Func) (d:Dec) (args:List al) (K:K1) (w:an):Prop:=
 match fn.body with
 |some c=>gR P d c (aU P fn.results.toList K) (aU P fn.results.toList K) nX (args++List.replicate (fn.ntmps-args.length) undef) w
 |none=>False
def okF (P:Program) (fn:Func) (d:Dec) (args:List al):Bool:=
 match fn.body with
 |some c=>Nat.ble args.length fn.ntmps&&(dL P fn.ntmps c&&(ju (2^fn.ntmps-1) c&&okT (2^fn.ntmps-1) d c))
 |none=>false
def be {P:Program} (hm:P.follows .mixedOrders=true) {f:FuncId} {fn:Func} (hf:P.funcs[f]? =some fn) (d:Dec) {args:List al} {w:an} {K:K1} (a:okF P fn d args=true) (h:txt P fn d args K w):ad P f args.toArray w K:=by
 unfold okF at a;unfold txt at h
 cases hb:fn.body with
 |none=>rw [hb] at h;exact h.elim
 |some c=>
  rw [hb] at h a;simp only [av] at a;obtain ⟨o1,o2,o3,o4⟩:=a;exact rf hm hf hb rfl (by simp) o2 (Nat.le_of_ble_eq_true o1) (qd d c o4 o3 (λ_ _ _ h=>h) (λ_ _ _ h=>h) (λ_ _ _ _ h=>h) _ w (dB.refl _ _) h)
def pl (u:Code×Dec):Code×Dec:=(cl u.1,match u.2 with
 | .s a _=>a
 | .x _ a _=>a
 | .b a=>a
 | .l _ _ _ a=>a
 | .o=> .o)
def pr (u:Code×Dec):Code×Dec:=(cr u.1,match u.2 with
 | .s _ b=>b
 | .x _ _ b=>b
 |_=> .o)
def fz:Nat->Nat->List (Nat×al)->Fr
 |0,_,_=> []
 |n+1,i,[]=>undef::fz n (i+1) []
 |n+1,i,(j,x)::l=>match Nat.beq i j with
  |true=>x::fz n (i+1) l
  |false=>undef::fz n (i+1) ((j,x)::l)
def aI {p:(Nat->al)->Prop} {A:Prop} (h:∀σ,p σ=A):(∀σ,p σ)=A:=propext ⟨λa=>(h λ_=>undef)▸a (λ_=>undef),λa σ=>(h σ).symm▸a⟩
abbrev VP0:=an->Prop
abbrev VP1:=al->VP0
abbrev VP2:=al->VP1
abbrev VP3:=al->VP2
abbrev VP4:=al->VP3
abbrev VP5:=al->VP4
end Go.Sh
namespace Go.Proofs.YtmpehclnnjgmcaaGreatDoor
open Go Go.Sh
def kR {p:Prop} (h:p:=by kernel_rfl):p:=h
noncomputable def cP (u:Code×Dec):KF->KF->(Nat->KF)->KF:=gR prog u.2 u.1
def mixed:prog.follows .mixedOrders=true:=by kernel_rfl
def mo (v0 v1:al) (h0:aj v0=true) (h1:aj v1=true) (w:an):(Instr.build 98 #[(0,v0),(1,v1)]).run prog w= .ok (.agg #[v0,v1]) w:=
 Go.Sh.run_buildS (z:= .agg #[.int .u64 0,.int .u64 0]) kR (show bc prog 98=some [(0,1),(1,1)] from kR) (by show Instr.fill _ _ [(0,v0),(1,v1)]=_;rw [aq (off:=0) rfl h0 (by simp [Value.cells])];rw [aq (off:=1) rfl h1 (by simp [Value.cells])];rfl) w
def W5 (a b:al) (w:an):(aB 79 1 #[(0,.agg #[a,b])]).run prog w= .ok (.slice (some ⟨w.heap.size,0,none⟩) 1 1) (w.alloc (.cells #[a,b] 98)):=
 Go.Sh.run_buildSliceS (z:=(.agg #[.int .u64 0,.int .u64 0])) (show prog.underlying 79=some (.slice 98) from kR) (show szT prog 98=some 2 from kR) kR (by decide) (by decide) (by show Instr.fill _ #[.int .u64 0,.int .u64 0] [(0,.agg #[a,b])]=_;rw [uJ (off:=0) rfl (by simp)];rfl) w
def qn (v0 v1 v2:al) (h0:aj v0=true) (h1:aj v1=true) (h2:aj v2=true) (w:an):(Instr.build 155 #[(0,v0),(1,v1),(2,v2)]).run prog w= .ok (.agg #[v0,v1,v2,.pointer none,.pointer none,.pointer none,.pointer none,.pointer none,.pointer none,.pointer none,.pointer none,.bool false,.bool false,.int .i64 0,.int .u64 0]) w:=
 Go.Sh.run_buildS (z:= .agg #[.slice none 0 0,.slice none 0 0,.slice none 0 0,.pointer none,.pointer none,.pointer none,.pointer none,.pointer none,.pointer none,.pointer none,.pointer none,.bool false,.bool false,.int .i64 0,.int .u64 0]) kR (show bc prog 155=some [(0,1),(1,1),(2,1),(3,8),(11,1),(12,1),(13,1),(14,1)] from kR) (by show Instr.fill _ _ [(0,v0),(1,v1),(2,v2)]=_;rw [aq (off:=0) rfl h0 (by simp [Value.cells])];rw [aq (off:=1) rfl h1 (by simp [Value.cells])];rw [aq (off:=2) rfl h2 (by simp [Value.cells])];rfl) w
def qp (v0 v1 v3:al) (h0:aj v0=true) (h1:aj v1=true) (h3:aj v3=true) (w:an):(Instr.build 147 #[(0,v0),(1,v1),(3,v3)]).run prog w= .ok (.agg #[v0,v1,.int .i64 0,v3]) w:=
 Go.Sh.run_buildS (z:= .agg #[.pointer none,.int .i64 0,.int .i64 0,.map none]) kR (show bc prog 147=some [(0,1),(1,1),(2,1),(3,1)] from kR) (by show Instr.fill _ _ [(0,v0),(1,v1),(3,v3)]=_;rw [aq (off:=0) rfl h0 (by simp [Value.cells])];rw [aq (off:=1) rfl h1 (by simp [Value.cells])];rw [aq (off:=3) rfl h3 (by simp [Value.cells])];rfl) w
def W6 (v0:al) (h0:aj v0=true) (w:an):(aB 50 1 #[(0,v0)]).run prog w= .ok (.slice (some ⟨w.heap.size,0,none⟩) 1 1) (w.alloc (.cells #[v0] 3)):=
 Go.Sh.run_buildSliceS (z:=(.int .i64 0)) (show prog.underlying 50=some (.slice 3) from kR) (show szT prog 3=some 1 from kR) kR (by decide) (by decide) (by show Instr.fill _ #[.int .i64 0] [(0,v0)]=_;rw [aq (off:=0) rfl h0 (by simp)];rfl) w
def FH (w:an):(Instr.build 132 #[]).run prog w= .ok (.agg #[.int .i64 0,.int .i64 0,.int .u16 0]) w:=
 Go.Sh.run_buildS (z:= .agg #[.int .i64 0,.int .i64 0,.int .u16 0]) kR (show bc prog 132=some [(0,1),(1,1),(2,1)] from kR) rfl w
def jh (v0 v1 v2:al) (h0:aj v0=true) (h1:aj v1=true) (h2:aj v2=true) (w:an):(Instr.build 132 #[(0,v0),(1,v1),(2,v2)]).run prog w= .ok (.agg #[v0,v1,v2]) w:=
 Go.Sh.run_buildS (z:= .agg #[.int .i64 0,.int .i64 0,.int .u16 0]) kR (show bc prog 132=some [(0,1),(1,1),(2,1)] from kR) (by show Instr.fill _ _ [(0,v0),(1,v1),(2,v2)]=_;rw [aq (off:=0) rfl h0 (by simp [Value.cells])];rw [aq (off:=1) rfl h1 (by simp [Value.cells])];rw [aq (off:=2) rfl h2 (by simp [Value.cells])];rfl) w
def FI (w:an):(Instr.build 200 #[]).run prog w= .ok (.agg #[.int .u16 0,.int .u8 0,.int .u8 0]) w:=
 Go.Sh.run_buildS (z:= .agg #[.int .u16 0,.int .u8 0,.int .u8 0]) kR (show bc prog 200=some [(0,1),(1,1),(2,1)] from kR) rfl w
def qr (v0 v1 v2:al) (h0:aj v0=true) (h1:aj v1=true) (h2:aj v2=true) (w:an):(Instr.build 200 #[(0,v0),(1,v1),(2,v2)]).run prog w= .ok (.agg #[v0,v1,v2]) w:=
 Go.Sh.run_buildS (z:= .agg #[.int .u16 0,.int .u8 0,.int .u8 0]) kR (show bc prog 200=some [(0,1),(1,1),(2,1)] from kR) (by show Instr.fill _ _ [(0,v0),(1,v1),(2,v2)]=_;rw [aq (off:=0) rfl h0 (by simp [Value.cells])];rw [aq (off:=1) rfl h1 (by simp [Value.cells])];rw [aq (off:=2) rfl h2 (by simp [Value.cells])];rfl) w
def ul (v0 v2:al) (h0:aj v0=true) (h2:aj v2=true) (w:an):(Instr.build 200 #[(0,v0),(2,v2)]).run prog w= .ok (.agg #[v0,.int .u8 0,v2]) w:=
 Go.Sh.run_buildS (z:= .agg #[.int .u16 0,.int .u8 0,.int .u8 0]) kR (show bc prog 200=some [(0,1),(1,1),(2,1)] from kR) (by show Instr.fill _ _ [(0,v0),(2,v2)]=_;rw [aq (off:=0) rfl h0 (by simp [Value.cells])];rw [aq (off:=2) rfl h2 (by simp [Value.cells])];rfl) w
def W7 (v0 v1 v2 v3:al) (h0:aj v0=true) (h1:aj v1=true) (h2:aj v2=true) (h3:aj v3=true) (w:an):(aB 51 4 #[(0,v0),(1,v1),(2,v2),(3,v3)]).run prog w= .ok (.slice (some ⟨w.heap.size,0,none⟩) 4 4) (w.alloc (.cells #[v0,v1,v2,v3] 5)):=
 Go.Sh.run_buildSliceS (z:=(.int .u8 0)) (show prog.underlying 51=some (.slice 5) from kR) (show szT prog 5=some 1 from kR) kR (by decide) (by decide) (by show Instr.fill _ #[.int .u8 0,.int .u8 0,.int .u8 0,.int .u8 0] [(0,v0),(1,v1),(2,v2),(3,v3)]=_;rw [aq (off:=0) rfl h0 (by simp)];rw [aq (off:=1) rfl h1 (by simp)];rw [aq (off:=2) rfl h2 (by simp)];rw [aq (off:=3) rfl h3 (by simp)];rfl) w
def rr (v0:al) (h0:aj v0=true) (w:an):(Instr.build 98 #[(0,v0)]).run prog w= .ok (.agg #[v0,.int .u64 0]) w:=
 Go.Sh.run_buildS (z:= .agg #[.int .u64 0,.int .u64 0]) kR (show bc prog 98=some [(0,1),(1,1)] from kR) (by show Instr.fill _ _ [(0,v0)]=_;rw [aq (off:=0) rfl h0 (by simp [Value.cells])];rfl) w
def P1 (v0 v1:al) (h0:aj v0=true) (h1:aj v1=true) (w:an):(aB 254 2 #[(0,v0),(1,v1)]).run prog w= .ok (.slice (some ⟨w.heap.size,0,none⟩) 2 2) (w.alloc (.cells #[v0,v1] 120)):=
 Go.Sh.run_buildSliceS (z:=(.slice none 0 0)) (show prog.underlying 254=some (.slice 120) from kR) (show szT prog 120=some 1 from kR) kR (by decide) (by decide) (by show Instr.fill _ #[.slice none 0 0,.slice none 0 0] [(0,v0),(1,v1)]=_;rw [aq (off:=0) rfl h0 (by simp)];rw [aq (off:=1) rfl h1 (by simp)];rfl) w
def qt (v0 v1 v2:al) (h0:aj v0=true) (h1:aj v1=true) (h2:aj v2=true) (w:an):(Instr.build 220 #[(0,v0),(1,v1),(2,v2)]).run prog w= .ok (.agg #[v0,v1,v2]) w:=
 Go.Sh.run_buildS (z:= .agg #[.int .u8 0,.int .u64 0,.int .u64 0]) kR (show bc prog 220=some [(0,1),(1,1),(2,1)] from kR) (by show Instr.fill _ _ [(0,v0),(1,v1),(2,v2)]=_;rw [aq (off:=0) rfl h0 (by simp [Value.cells])];rw [aq (off:=1) rfl h1 (by simp [Value.cells])];rw [aq (off:=2) rfl h2 (by simp [Value.cells])];rfl) w
def P2 (a c b:al) (w:an):(aB 120 1 #[(0,.agg #[a,c,b])]).run prog w= .ok (.slice (some ⟨w.heap.size,0,none⟩) 1 1) (w.alloc (.cells #[a,c,b] 220)):=
 Go.Sh.run_buildSliceS (z:=(.agg #[.int .u8 0,.int .u64 0,.int .u64 0])) (show prog.underlying 120=some (.slice 220) from kR) (show szT prog 220=some 3 from kR) kR (by decide) (by decide) (by show Instr.fill _ #[.int .u8 0,.int .u64 0,.int .u64 0] [(0,.agg #[a,c,b])]=_;rw [LO (off:=0) rfl (by simp)];rfl) w
def W8 (v0:al) (h0:aj v0=true) (w:an):(aB 58 1 #[(0,v0)]).run prog w= .ok (.slice (some ⟨w.heap.size,0,none⟩) 1 1) (w.alloc (.cells #[v0] 26)):=
 Go.Sh.run_buildSliceS (z:=(.int .u64 0)) (show prog.underlying 58=some (.slice 26) from kR) (show szT prog 26=some 1 from kR) kR (by decide) (by decide) (by show Instr.fill _ #[.int .u64 0] [(0,v0)]=_;rw [aq (off:=0) rfl h0 (by simp)];rfl) w
def um (v0 v1:al) (h0:aj v0=true) (h1:aj v1=true) (w:an):(Instr.build 220 #[(0,v0),(1,v1)]).run prog w= .ok (.agg #[v0,v1,.int .u64 0]) w:=
 Go.Sh.run_buildS (z:= .agg #[.int .u8 0,.int .u64 0,.int .u64 0]) kR (show bc prog 220=some [(0,1),(1,1),(2,1)] from kR) (by show Instr.fill _ _ [(0,v0),(1,v1)]=_;rw [aq (off:=0) rfl h0 (by simp [Value.cells])];rw [aq (off:=1) rfl h1 (by simp [Value.cells])];rfl) w
def BN (v0:al) (h0:aj v0=true) (w:an):(Instr.build 220 #[(0,v0)]).run prog w= .ok (.agg #[v0,.int .u64 0,.int .u64 0]) w:=
 Go.Sh.run_buildS (z:= .agg #[.int .u8 0,.int .u64 0,.int .u64 0]) kR (show bc prog 220=some [(0,1),(1,1),(2,1)] from kR) (by show Instr.fill _ _ [(0,v0)]=_;rw [aq (off:=0) rfl h0 (by simp [Value.cells])];rfl) w
def FJ (w:an):(Instr.build 134 #[]).run prog w= .ok (.agg #[.nilIface,.int .i64 0,.int .i64 0,.int .i64 0,.int .u16 0]) w:=
 Go.Sh.run_buildS (z:= .agg #[.nilIface,.int .i64 0,.int .i64 0,.int .i64 0,.int .u16 0]) kR (show bc prog 134=some [(0,1),(1,1),(2,3)] from kR) rfl w
def qu (v0 v1 b a c:al) (h0:aj v0=true) (h1:aj v1=true) (w:an):(Instr.build 134 #[(0,v0),(1,v1),(2,.agg #[b,a,c])]).run prog w= .ok (.agg #[v0,v1,b,a,c]) w:=
 Go.Sh.run_buildS (z:= .agg #[.nilIface,.int .i64 0,.int .i64 0,.int .i64 0,.int .u16 0]) kR (show bc prog 134=some [(0,1),(1,1),(2,3)] from kR) (by show Instr.fill _ _ [(0,v0),(1,v1),(2,.agg #[b,a,c])]=_;rw [aq (off:=0) rfl h0 (by simp [Value.cells])];rw [aq (off:=1) rfl h1 (by simp [Value.cells])];rw [Instr.fill];rfl) w
def P3 (v0 v1:al) (h0:aj v0=true) (h1:aj v1=true) (w:an):(aB 248 2 #[(0,v0),(1,v1)]).run prog w= .ok (.slice (some ⟨w.heap.size,0,none⟩) 2 2) (w.alloc (.cells #[v0,v1] 50)):=
 Go.Sh.run_buildSliceS (z:=(.slice none 0 0)) (show prog.underlying 248=some (.slice 50) from kR) (show szT prog 50=some 1 from kR) kR (by decide) (by decide) (by show Instr.fill _ #[.slice none 0 0,.slice none 0 0] [(0,v0),(1,v1)]=_;rw [aq (off:=0) rfl h0 (by simp)];rw [aq (off:=1) rfl h1 (by simp)];rfl) w
def BO (v0:al) (h0:aj v0=true) (w:an):(Instr.build 212 #[(0,v0)]).run prog w= .ok (.agg #[v0,.slice none 0 0]) w:=
 Go.Sh.run_buildS (z:= .agg #[.nilIface,.slice none 0 0]) kR (show bc prog 212=some [(0,1),(1,1)] from kR) (by show Instr.fill _ _ [(0,v0)]=_;rw [aq (off:=0) rfl h0 (by simp [Value.cells])];rfl) w
def qv (v0 v1 v2:al) (h0:aj v0=true) (h1:aj v1=true) (h2:aj v2=true) (w:an):(Instr.build 195 #[(0,v0),(1,v1),(2,v2)]).run prog w= .ok (.agg #[v0,v1,v2,.bool false]) w:=
 Go.Sh.run_buildS (z:= .agg #[.int .i64 0,.int .i64 0,.int .i64 0,.bool false]) kR (show bc prog 195=some [(0,1),(1,1),(2,1),(3,1)] from kR) (by show Instr.fill _ _ [(0,v0),(1,v1),(2,v2)]=_;rw [aq (off:=0) rfl h0 (by simp [Value.cells])];rw [aq (off:=1) rfl h1 (by simp [Value.cells])];rw [aq (off:=2) rfl h2 (by simp [Value.cells])];rfl) w
def P4 (v0 v1:al) (h0:aj v0=true) (h1:aj v1=true) (w:an):(aB 213 2 #[(0,v0),(1,v1)]).run prog w= .ok (.slice (some ⟨w.heap.size,0,none⟩) 2 2) (w.alloc (.cells #[v0,v1] 25)):=
 Go.Sh.run_buildSliceS (z:=(.slice none 0 0)) (show prog.underlying 213=some (.slice 25) from kR) (show szT prog 25=some 1 from kR) kR (by decide) (by decide) (by show Instr.fill _ #[.slice none 0 0,.slice none 0 0] [(0,v0),(1,v1)]=_;rw [aq (off:=0) rfl h0 (by simp)];rw [aq (off:=1) rfl h1 (by simp)];rfl) w
def W9 (v0:al) (h0:aj v0=true) (w:an):(aB 51 1 #[(0,v0)]).run prog w= .ok (.slice (some ⟨w.heap.size,0,none⟩) 1 1) (w.alloc (.cells #[v0] 5)):=
 Go.Sh.run_buildSliceS (z:=(.int .u8 0)) (show prog.underlying 51=some (.slice 5) from kR) (show szT prog 5=some 1 from kR) kR (by decide) (by decide) (by show Instr.fill _ #[.int .u8 0] [(0,v0)]=_;rw [aq (off:=0) rfl h0 (by simp)];rfl) w
def qw (v0 v1 v2:al) (h0:aj v0=true) (h1:aj v1=true) (h2:aj v2=true) (w:an):(Instr.build 123 #[(0,v0),(1,v1),(2,v2)]).run prog w= .ok (.agg #[v0,v1,v2]) w:=
 Go.Sh.run_buildS (z:= .agg #[.pointer none,.pointer none,.pointer none]) kR (show bc prog 123=some [(0,1),(1,1),(2,1)] from kR) (by show Instr.fill _ _ [(0,v0),(1,v1),(2,v2)]=_;rw [aq (off:=0) rfl h0 (by simp [Value.cells])];rw [aq (off:=1) rfl h1 (by simp [Value.cells])];rw [aq (off:=2) rfl h2 (by simp [Value.cells])];rfl) w
def Xa (v0 v1:al) (h0:aj v0=true) (h1:aj v1=true) (w:an):(aB 58 2 #[(0,v0),(1,v1)]).run prog w= .ok (.slice (some ⟨w.heap.size,0,none⟩) 2 2) (w.alloc (.cells #[v0,v1] 26)):=
 Go.Sh.run_buildSliceS (z:=(.int .u64 0)) (show prog.underlying 58=some (.slice 26) from kR) (show szT prog 26=some 1 from kR) kR (by decide) (by decide) (by show Instr.fill _ #[.int .u64 0,.int .u64 0] [(0,v0),(1,v1)]=_;rw [aq (off:=0) rfl h0 (by simp)];rw [aq (off:=1) rfl h1 (by simp)];rfl) w
def FK (w:an):(Instr.build 162 #[]).run prog w= .ok (.agg #[.slice none 0 0,.slice none 0 0,.slice none 0 0]) w:=
 Go.Sh.run_buildS (z:= .agg #[.slice none 0 0,.slice none 0 0,.slice none 0 0]) kR (show bc prog 162=some [(0,1),(1,1),(2,1)] from kR) rfl w
def jm (v0 v1 v2 v3 v4 v5:al) (h0:aj v0=true) (h1:aj v1=true) (h2:aj v2=true) (h3:aj v3=true) (h4:aj v4=true) (h5:aj v5=true) (w:an):(Instr.build 112 #[(0,v0),(1,v1),(2,v2),(3,v3),(4,v4),(5,v5)]).run prog w= .ok (.agg #[v0,v1,v2,v3,v4,v5,.map none,.bool false]) w:=
 Go.Sh.run_buildS (z:= .agg #[.nilIface,.int .i64 0,.int .i64 0,.pointer none,.map none,.map none,.map none,.bool false]) kR (show bc prog 112=some [(0,1),(1,1),(2,1),(3,1),(4,1),(5,1),(6,1),(7,1)] from kR) (by show Instr.fill _ _ [(0,v0),(1,v1),(2,v2),(3,v3),(4,v4),(5,v5)]=_;rw [aq (off:=0) rfl h0 (by simp [Value.cells])];rw [aq (off:=1) rfl h1 (by simp [Value.cells])];rw [aq (off:=2) rfl h2 (by simp [Value.cells])];rw [aq (off:=3) rfl h3 (by simp [Value.cells])];rw [aq (off:=4) rfl h4 (by simp [Value.cells])];rw [aq (off:=5) rfl h5 (by simp [Value.cells])];rfl) w
def qx (v0 v1 v2:al) (h0:aj v0=true) (h1:aj v1=true) (h2:aj v2=true) (w:an):(Instr.build 171 #[(0,v0),(1,v1),(2,v2)]).run prog w= .ok (.agg #[v0,v1,v2]) w:=
 Go.Sh.run_buildS (z:= .agg #[.nilIface,.int .u64 0,.int .u64 0]) kR (show bc prog 171=some [(0,1),(1,1),(2,1)] from kR) (by show Instr.fill _ _ [(0,v0),(1,v1),(2,v2)]=_;rw [aq (off:=0) rfl h0 (by simp [Value.cells])];rw [aq (off:=1) rfl h1 (by simp [Value.cells])];rw [aq (off:=2) rfl h2 (by simp [Value.cells])];rfl) w
def nL (w:an):(Instr.build 73 #[]).run prog w= .ok (.agg #[.int .i64 0,.int .i64 0,.int .i64 0,.int .i64 0]) w:=
 Go.Sh.run_buildS (z:= .agg #[.int .i64 0,.int .i64 0,.int .i64 0,.int .i64 0]) kR (show bc prog 73=some [(0,1),(1,1),(2,1),(3,1)] from kR) rfl w
def mq (v0 v1:al) (h0:aj v0=true) (h1:aj v1=true) (w:an):(Instr.build 73 #[(0,v0),(1,v1)]).run prog w= .ok (.agg #[v0,v1,.int .i64 0,.int .i64 0]) w:=
 Go.Sh.run_buildS (z:= .agg #[.int .i64 0,.int .i64 0,.int .i64 0,.int .i64 0]) kR (show bc prog 73=some [(0,1),(1,1),(2,1),(3,1)] from kR) (by show Instr.fill _ _ [(0,v0),(1,v1)]=_;rw [aq (off:=0) rfl h0 (by simp [Value.cells])];rw [aq (off:=1) rfl h1 (by simp [Value.cells])];rfl) w
def Xb (v0:al) (h0:aj v0=true) (w:an):(aB 25 1 #[(0,v0)]).run prog w= .ok (.slice (some ⟨w.heap.size,0,none⟩) 1 1) (w.alloc (.cells #[v0] 27)):=
 Go.Sh.run_buildSliceS (z:=(.int .u64 0)) (show prog.underlying 25=some (.slice 27) from kR) (show szT prog 27=some 1 from kR) kR (by decide) (by decide) (by show Instr.fill _ #[.int .u64 0] [(0,v0)]=_;rw [aq (off:=0) rfl h0 (by simp)];rfl) w
def ye (v0 v1:al) (h0:aj v0=true) (h1:aj v1=true) (w:an):(Instr.build 63 #[(0,v0),(1,v1)]).run prog w= .ok (.agg #[v0,v1]) w:=
 Go.Sh.run_buildS (z:= .agg #[.int .u64 0,.int .i64 0]) kR (show bc prog 63=some [(0,1),(1,1)] from kR) (by show Instr.fill _ _ [(0,v0),(1,v1)]=_;rw [aq (off:=0) rfl h0 (by simp [Value.cells])];rw [aq (off:=1) rfl h1 (by simp [Value.cells])];rfl) w
def Xc (a b:al) (w:an):(aB 34 1 #[(0,.agg #[a,b])]).run prog w= .ok (.slice (some ⟨w.heap.size,0,none⟩) 1 1) (w.alloc (.cells #[a,b] 63)):=
 Go.Sh.run_buildSliceS (z:=(.agg #[.int .u64 0,.int .i64 0])) (show prog.underlying 34=some (.slice 63) from kR) (show szT prog 63=some 2 from kR) kR (by decide) (by decide) (by show Instr.fill _ #[.int .u64 0,.int .i64 0] [(0,.agg #[a,b])]=_;rw [uJ (off:=0) rfl (by simp)];rfl) w
def lr (v0 v1 v2 v3 v4:al) (h0:aj v0=true) (h1:aj v1=true) (h2:aj v2=true) (h3:aj v3=true) (h4:aj v4=true) (w:an):(Instr.build 38 #[(0,v0),(1,v1),(2,v2),(3,v3),(4,v4)]).run prog w= .ok (.agg #[v0,v1,v2,v3,v4,.slice none 0 0,.slice none 0 0,.slice none 0 0]) w:=
 Go.Sh.run_buildS (z:= .agg #[.pointer none,.pointer none,.pointer none,.pointer none,.int .i64 0,.slice none 0 0,.slice none 0 0,.slice none 0 0]) kR (show bc prog 38=some [(0,1),(1,1),(2,1),(3,1),(4,1),(5,3)] from kR) (by show Instr.fill _ _ [(0,v0),(1,v1),(2,v2),(3,v3),(4,v4)]=_;rw [aq (off:=0) rfl h0 (by simp [Value.cells])];rw [aq (off:=1) rfl h1 (by simp [Value.cells])];rw [aq (off:=2) rfl h2 (by simp [Value.cells])];rw [aq (off:=3) rfl h3 (by simp [Value.cells])];rw [aq (off:=4) rfl h4 (by simp [Value.cells])];rfl) w
def Xd (v0 v1:al) (h0:aj v0=true) (h1:aj v1=true) (w:an):(aB 25 2 #[(0,v0),(1,v1)]).run prog w= .ok (.slice (some ⟨w.heap.size,0,none⟩) 2 2) (w.alloc (.cells #[v0,v1] 27)):=
 Go.Sh.run_buildSliceS (z:=(.int .u64 0)) (show prog.underlying 25=some (.slice 27) from kR) (show szT prog 27=some 1 from kR) kR (by decide) (by decide) (by show Instr.fill _ #[.int .u64 0,.int .u64 0] [(0,v0),(1,v1)]=_;rw [aq (off:=0) rfl h0 (by simp)];rw [aq (off:=1) rfl h1 (by simp)];rfl) w
def RT0:=
 ab (@dJ prog 58 kR)<|
 ab (λ(n:Int) (w:an) (k:K1) (h0:0<=n) (h1:n<18446744073709551616)=>aa (show (convert 3 129 (.int .i64 n)).run prog w= .ok (.int .u64 ((n.toNat:Nat):Int)) w from (@Go.Sh.run_convert prog 3 129 .i64 .u64 kR kR .i64 n w).trans (by rw [gQ h0 h1,bx h0])) k)<|
 ab (λ(n:Nat) (w:an) (k:K1)=>aa (show (convert 129 126 (.int .u64 (n:Int))).run prog w= .ok (.int .u32 ((n%4294967296:Nat):Int)) w from (@Go.Sh.run_convert prog 129 126 .u64 .u32 kR kR .u64 n w).trans (by rw [bA rfl];rfl)) k)<|
 ab (@bH prog 58 1 kR)<|
 ab (@lp prog 58 1 kR)<|
 ab (@Et prog 58 1 kR)<|
 ab (@dE prog 26 kR)<|
 ab (@fU prog 26 kR)<|
 ab (@kT prog 26 kR)<|
 ab (λ(n:Nat) (w:an) (k:K1)=>aa (show (convert 126 5 (.int .u32 (n:Int))).run prog w= .ok (.int .u8 ((n%256:Nat):Int)) w from (@Go.Sh.run_convert prog 126 5 .u32 .u8 kR kR .u32 n w).trans (by rw [bA rfl];rfl)) k)<|
 ab (λ(n:Nat) (w:an) (k:K1) (h:n<9223372036854775808)=>aa ((@Go.Sh.run_convert prog 5 3 .u8 .i64 kR kR .u8 n w).trans (by rw [bN (by omega) (by omega)])) k)<|
 (λ(n:Nat) (w:an) (k:al->Prop) (h:n<9223372036854775808)=>ah ((@Go.Sh.run_convert prog 5 3 .u8 .i64 kR kR .u8 n w).trans (by rw [bN (by omega) (by omega)])) k)
def RT1:=
 ab (λ(n:Nat) (w:an) (k:K1)=>aa (show (convert 26 5 (.int .u64 (n:Int))).run prog w= .ok (.int .u8 ((n%256:Nat):Int)) w from (@Go.Sh.run_convert prog 26 5 .u64 .u8 kR kR .u64 n w).trans (by rw [bA rfl];rfl)) k)<|
 ab (@iH prog 26 kR)<|
 ab (λ(n:Int) (w:an) (k:K1) (h0:0<=n) (h1:n<18446744073709551616)=>aa (show (convert 3 276 (.int .i64 n)).run prog w= .ok (.int .u64 ((n.toNat:Nat):Int)) w from (@Go.Sh.run_convert prog 3 276 .i64 .u64 kR kR .i64 n w).trans (by rw [gQ h0 h1,bx h0])) k)<|
 ab (@cy prog 276 _ (show dS prog 276=some (.int .u64 0) from kR))<|
 ab (@iH prog 276 kR)<|
 ab (λ(n:Nat) (w:an) (k:K1) (h:n<9223372036854775808)=>aa ((@Go.Sh.run_convert prog 129 3 .u64 .i64 kR kR .u64 n w).trans (by rw [bN (by omega) (by omega)])) k)<|
 ab (@cy prog 3 _ (show dS prog 3=some (.int .i64 0) from kR))<|
 ab (@dE prog 3 kR)<|
 ab (@fU prog 3 kR)<|
 ab (@kT prog 3 kR)<|
 ab (@dE prog 276 kR)<|
 (@fU prog 276 kR)
def RT2:=
 ab (@iH prog 3 kR)<|
 ab (λx y p w k=>aa (@Go.Sh.run_eq_ptr_nil prog 31 kR x y p w) k)<|
 ab (@ai prog 147 0 0 kR)<|
 ab (@dE prog 30 kR)<|
 ab (@fU prog 30 kR)<|
 ab (@kT prog 30 kR)<|
 ab (λx y p w k=>aa (@Go.Sh.run_eq_ptr_nil prog 30 kR x y p w) k)<|
 ab (@ai prog 147 2 2 kR)<|
 ab (@dE prog 28 kR)<|
 ab (@ai prog 155 1 1 kR)<|
 ab (@dE prog 58 kR)<|
 (@fU prog 58 kR)
def RT3:=
 ab (@ai prog 155 3 3 kR)<|
 ab (@jr prog 153 8 1 kR)<|
 ab (@dE prog 31 kR)<|
 ab (@fU prog 31 kR)<|
 ab (@kT prog 31 kR)<|
 ab (λ(n:Int) (w:an) (k:K1) (h0:0<=n) (h1:n<18446744073709551616)=>aa (show (convert 3 26 (.int .i64 n)).run prog w= .ok (.int .u64 ((n.toNat:Nat):Int)) w from (@Go.Sh.run_convert prog 3 26 .i64 .u64 kR kR .i64 n w).trans (by rw [gQ h0 h1,bx h0])) k)<|
 ab (λ(n:Int) (w:an) (k:al->Prop) (h0:0<=n) (h1:n<18446744073709551616)=>ah (show (convert 3 26 (.int .i64 n)).run prog w= .ok (.int .u64 ((n.toNat:Nat):Int)) w from (@Go.Sh.run_convert prog 3 26 .i64 .u64 kR kR .i64 n w).trans (by rw [gQ h0 h1,bx h0])) k)<|
 ab (@ai prog 155 4 11 kR)<|
 ab (@dE prog 4 kR)<|
 ab (@fU prog 4 kR)<|
 ab (@ai prog 155 5 12 kR)<|
 (@iH prog 4 kR)
def RT4:=
 ab (@ai prog 155 6 13 kR)<|
 ab (@ai prog 155 7 14 kR)<|
 ab (@ai prog 155 2 2 kR)<|
 ab (@dE prog 152 kR)<|
 ab (@bH prog 152 2 kR)<|
 ab (@ai prog 209 1 1 kR)<|
 ab (@aw prog 209 1 1 kR)<|
 ab (@dE prog 79 kR)<|
 ab (@fU prog 79 kR)<|
 ab (λ(v0 v1:al) (w:an) (k:K1) (h0:aj v0=true) (h1:aj v1=true)=>aa (mo v0 v1 h0 h1 w) k)<|
 ab (λ(v0 v1:al) (w:an) (k:al->Prop) (h0:aj v0=true) (h1:aj v1=true)=>ah (mo v0 v1 h0 h1 w) k)<|
 (λ(a b:al) (w:an) (k:K1)=>aa (W5 a b w) k)
def RT5:=
 ab (@iH prog 79 kR)<|
 ab (@dJ prog 51 kR)<|
 ab (@bH prog 51 1 kR)<|
 ab (@iH prog 5 kR)<|
 ab (λ(n:Nat) (w:an) (k:K1) (h:n<9223372036854775808)=>aa ((@Go.Sh.run_convert prog 26 3 .u64 .i64 kR kR .u64 n w).trans (by rw [bN (by omega) (by omega)])) k)<|
 ab (@ai prog 147 3 3 kR)<|
 ab (@aw prog 147 3 3 kR)<|
 ab (@dE prog 145 kR)<|
 ab (@fU prog 145 kR)<|
 ab (@ai prog 209 0 0 kR)<|
 ab (@aw prog 209 0 0 kR)<|
 (@dJ prog 79 kR)
def RT6:=
 ab (@dE prog 5 kR)<|
 ab (@fU prog 5 kR)<|
 ab (@kT prog 5 kR)<|
 ab (λ(n:Nat) (w:an) (k:K1) (h:n<18446744073709551616)=>aa ((@Go.Sh.run_convert prog 5 26 .u8 .u64 kR kR .u8 n w).trans (by rw [dq rfl h])) k)<|
 ab (@ai prog 155 0 0 kR)<|
 ab (@aw prog 155 0 0 kR)<|
 ab (@dJ prog 50 kR)<|
 ab (@bH prog 50 1 kR)<|
 ab (@lp prog 50 1 kR)<|
 ab (@dJ prog 152 kR)<|
 ab (λ(v0 v1 v2:al) (w:an) (k:al->Prop) (h0:aj v0=true) (h1:aj v1=true) (h2:aj v2=true)=>ah (qn v0 v1 v2 h0 h1 h2 w) k)<|
 (λ(v0 v1 v3:al) (w:an) (k:K1) (h0:aj v0=true) (h1:aj v1=true) (h3:aj v3=true)=>aa (qp v0 v1 v3 h0 h1 h3 w) k)
def RT7:=
 ab (@iH prog 31 kR)<|
 ab (@iH prog 28 kR)<|
 ab (λ(v0:al) (w:an) (k:K1) (h0:aj v0=true)=>aa (W6 v0 h0 w) k)<|
 ab (@bH prog 79 2 kR)<|
 ab (@lh prog 98 2 kR kR)<|
 ab (@cy prog 98 _ (show dS prog 98=some (.agg #[.int .u64 0,.int .u64 0]) from kR))<|
 ab (@xW prog 98 2 kR)<|
 ab (@ai prog 98 0 0 kR)<|
 ab (@ai prog 98 1 1 kR)<|
 ab (λ(n:Nat) (w:an) (k:K1)=>aa (show (convert 27 126 (.int .u64 (n:Int))).run prog w= .ok (.int .u32 ((n%4294967296:Nat):Int)) w from (@Go.Sh.run_convert prog 27 126 .u64 .u32 kR kR .u64 n w).trans (by rw [bA rfl];rfl)) k)<|
 ab (λ(n:Nat) (w:an) (k:K1) (h:n<18446744073709551616)=>aa ((@Go.Sh.run_convert prog 126 26 .u32 .u64 kR kR .u32 n w).trans (by rw [dq rfl h])) k)<|
 (λ(n:Nat) (w:an) (k:K1)=>aa (show (convert 27 5 (.int .u64 (n:Int))).run prog w= .ok (.int .u8 ((n%256:Nat):Int)) w from (@Go.Sh.run_convert prog 27 5 .u64 .u8 kR kR .u64 n w).trans (by rw [bA rfl];rfl)) k)
def RT8:=
 ab (@jr prog 182 5 1 kR)<|
 ab (λ(n:Nat) (w:an) (k:K1)=>aa (show (convert 27 130 (.int .u64 (n:Int))).run prog w= .ok (.int .u16 ((n%65536:Nat):Int)) w from (@Go.Sh.run_convert prog 27 130 .u64 .u16 kR kR .u64 n w).trans (by rw [bA rfl];rfl)) k)<|
 ab (@ai prog 132 0 0 kR)<|
 ab (@aw prog 132 0 0 kR)<|
 ab (@ai prog 132 1 1 kR)<|
 ab (@aw prog 132 1 1 kR)<|
 ab (@ai prog 200 0 0 kR)<|
 ab (@aw prog 200 0 0 kR)<|
 ab (@aM prog 200 0 0 kR)<|
 ab (@dE prog 130 kR)<|
 ab (@fU prog 130 kR)<|
 (@kT prog 130 kR)
def RT9:=
 ab (λ(n:Nat) (w:an) (k:K1) (h:n<4294967296)=>aa ((@Go.Sh.run_convert prog 130 126 .u16 .u32 kR kR .u16 n w).trans (by rw [dq rfl h])) k)<|
 ab (@ai prog 200 1 1 kR)<|
 ab (@aw prog 200 1 1 kR)<|
 ab (@aM prog 200 1 1 kR)<|
 ab (λ(n:Nat) (w:an) (k:K1) (h:n<4294967296)=>aa ((@Go.Sh.run_convert prog 5 126 .u8 .u32 kR kR .u8 n w).trans (by rw [dq rfl h])) k)<|
 ab (@ai prog 200 2 2 kR)<|
 ab (@aw prog 200 2 2 kR)<|
 ab (@ai prog 132 2 2 kR)<|
 ab (@aw prog 132 2 2 kR)<|
 ab (@aM prog 132 2 2 kR)<|
 ab (λ(n:Int) (w:an) (k:K1) (h0:0<=n) (h1:n<4294967296)=>aa (show (convert 3 126 (.int .i64 n)).run prog w= .ok (.int .u32 ((n.toNat:Nat):Int)) w from (@Go.Sh.run_convert prog 3 126 .i64 .u32 kR kR .i64 n w).trans (by rw [PW h0 h1,bx h0])) k)<|
 (λ(n:Nat) (w:an) (k:K1) (h:n<18446744073709551616)=>aa ((@Go.Sh.run_convert prog 130 26 .u16 .u64 kR kR .u16 n w).trans (by rw [dq rfl h])) k)
def ac4:=
 ab (@jr prog 257 16 1 kR)<|
 ab (@dE prog 126 kR)<|
 ab (@lh prog 132 3 kR kR)<|
 ab (@rh prog 132 3 kR kR)<|
 ab (@LH prog 132 3 kR kR)<|
 ab (@cy prog 132 _ (show dS prog 132=some (.agg #[.int .i64 0,.int .i64 0,.int .u16 0]) from kR))<|
 ab (λ(n:Nat) (w:an) (k:K1)=>aa (show (convert 26 126 (.int .u64 (n:Int))).run prog w= .ok (.int .u32 ((n%4294967296:Nat):Int)) w from (@Go.Sh.run_convert prog 26 126 .u64 .u32 kR kR .u64 n w).trans (by rw [bA rfl];rfl)) k)<|
 ab (λ(n:Nat) (w:an) (k:K1)=>aa (show (convert 126 130 (.int .u32 (n:Int))).run prog w= .ok (.int .u16 ((n%65536:Nat):Int)) w from (@Go.Sh.run_convert prog 126 130 .u32 .u16 kR kR .u32 n w).trans (by rw [bA rfl];rfl)) k)<|
 ab (λ(w:an) (k:K1)=>aa (FH w) k)<|
 ab (@xW prog 132 3 kR)<|
 ab (λ(n:Nat) (w:an) (k:K1) (h:n<9223372036854775808)=>aa ((@Go.Sh.run_convert prog 126 3 .u32 .i64 kR kR .u32 n w).trans (by rw [bN (by omega) (by omega)])) k)<|
 (λ(v0 v1 v2:al) (w:an) (k:K1) (h0:aj v0=true) (h1:aj v1=true) (h2:aj v2=true)=>aa (jh v0 v1 v2 h0 h1 h2 w) k)
def ac5:=
 ab (λ(v0 v1 v2:al) (w:an) (k:al->Prop) (h0:aj v0=true) (h1:aj v1=true) (h2:aj v2=true)=>ah (jh v0 v1 v2 h0 h1 h2 w) k)<|
 ab (@lh prog 132 3 kR kR)<|
 ab (@rh prog 132 3 kR kR)<|
 ab (@LH prog 132 3 kR kR)<|
 ab (@lh prog 200 3 kR kR)<|
 ab (@rh prog 200 3 kR kR)<|
 ab (@LH prog 200 3 kR kR)<|
 ab (@cy prog 200 _ (show dS prog 200=some (.agg #[.int .u16 0,.int .u8 0,.int .u8 0]) from kR))<|
 ab (λ(w:an) (k:K1)=>aa (FI w) k)<|
 ab (@xW prog 200 3 kR)<|
 ab (λ(v0 v1 v2:al) (w:an) (k:K1) (h0:aj v0=true) (h1:aj v1=true) (h2:aj v2=true)=>aa (qr v0 v1 v2 h0 h1 h2 w) k)<|
 (λ(v0 v2:al) (w:an) (k:K1) (h0:aj v0=true) (h2:aj v2=true)=>aa (ul v0 v2 h0 h2 w) k)
def ac6:=
 ab (λ(v0 v1 v2 v3:al) (w:an) (k:K1) (h0:aj v0=true) (h1:aj v1=true) (h2:aj v2=true) (h3:aj v3=true)=>aa (W7 v0 v1 v2 v3 h0 h1 h2 h3 w) k)<|
 ab (λx y u v w k=>aa (@Go.Sh.run_eq_iface_nil prog 106 kR x y u v w) k)<|
 ab (λx u w k=>aa (@Go.Sh.run_eq_nil_nil prog 106 kR x u w) k)<|
 ab (@dJ prog 120 kR)<|
 ab (@bH prog 120 3 kR)<|
 ab (@lh prog 220 3 kR kR)<|
 ab (@cy prog 220 _ (show dS prog 220=some (.agg #[.int .u8 0,.int .u64 0,.int .u64 0]) from kR))<|
 ab (@xW prog 220 3 kR)<|
 ab (λ(v0:al) (w:an) (k:K1) (h0:aj v0=true)=>aa (rr v0 h0 w) k)<|
 ab (λ(v0:al) (w:an) (k:al->Prop) (h0:aj v0=true)=>ah (rr v0 h0 w) k)<|
 ab (λ(v0 v1:al) (w:an) (k:K1) (h0:aj v0=true) (h1:aj v1=true)=>aa (P1 v0 v1 h0 h1 w) k)<|
 (λ(v0 v1 v2:al) (w:an) (k:K1) (h0:aj v0=true) (h1:aj v1=true) (h2:aj v2=true)=>aa (qt v0 v1 v2 h0 h1 h2 w) k)
def ac7:=
 ab (λ(a c b:al) (w:an) (k:K1)=>aa (P2 a c b w) k)<|
 ab (λ(v0:al) (w:an) (k:K1) (h0:aj v0=true)=>aa (W8 v0 h0 w) k)<|
 ab (λ(v0 v1:al) (w:an) (k:K1) (h0:aj v0=true) (h1:aj v1=true)=>aa (um v0 v1 h0 h1 w) k)<|
 ab (λ(v0:al) (w:an) (k:K1) (h0:aj v0=true)=>aa (BN v0 h0 w) k)<|
 ab (@ai prog 220 0 0 kR)<|
 ab (@dE prog 218 kR)<|
 ab (@ai prog 220 1 1 kR)<|
 ab (@ai prog 220 2 2 kR)<|
 ab (@dJ prog 254 kR)<|
 ab (@bH prog 254 1 kR)<|
 ab (@dE prog 120 kR)<|
 (λv w k=>aa (@Go.Sh.run_makeInterface prog 9 kR kR v w) k)
def ac8:=
 ab (λv w k=>ah (@Go.Sh.run_makeInterface prog 9 kR kR v w) k)<|
 ab (@lh prog 134 5 kR kR)<|
 ab (@rh prog 134 5 kR kR)<|
 ab (@LH prog 134 5 kR kR)<|
 ab (@cy prog 134 _ (show dS prog 134=some (.agg #[.nilIface,.int .i64 0,.int .i64 0,.int .i64 0,.int .u16 0]) from kR))<|
 ab (λ(w:an) (k:K1)=>aa (FJ w) k)<|
 ab (@xW prog 134 5 kR)<|
 ab (λ(v0 v1 b a c:al) (w:an) (k:K1) (h0:aj v0=true) (h1:aj v1=true)=>aa (qu v0 v1 b a c h0 h1 w) k)<|
 ab (@lh prog 134 5 kR kR)<|
 ab (@rh prog 134 5 kR kR)<|
 ab (@LH prog 134 5 kR kR)<|
 (@ai prog 134 0 0 kR)
def ac9:=
 ab (@aw prog 134 0 0 kR)<|
 ab (@aM prog 134 0 0 kR)<|
 ab (@dE prog 106 kR)<|
 ab (@fU prog 106 kR)<|
 ab (@kT prog 106 kR)<|
 ab (λ(v0 v1:al) (w:an) (k:K1) (h0:aj v0=true) (h1:aj v1=true)=>aa (P3 v0 v1 h0 h1 w) k)<|
 ab (@lh prog 200 3 kR kR)<|
 ab (@rh prog 200 3 kR kR)<|
 ab (@LH prog 200 3 kR kR)<|
 ab (λx y a b w k=>aa (@Go.Sh.run_eq_bool prog 4 kR x y a b w) k)<|
 ab (λx y a b w k=>aa (@Go.Sh.run_neq_bool prog 4 kR x y a b w) k)<|
 (@ai prog 134 1 1 kR)
def ada:=
 ab (@aw prog 134 1 1 kR)<|
 ab (@ai prog 134 2 2 kR)<|
 ab (@dJ prog 248 kR)<|
 ab (@bH prog 248 1 kR)<|
 ab (@dE prog 50 kR)<|
 ab (@fU prog 50 kR)<|
 ab (@kT prog 50 kR)<|
 ab (λx y p w k=>aa (@Go.Sh.run_eq_ptr_nil prog 192 kR x y p w) k)<|
 ab (λx y p w k=>aa (@Go.Sh.run_neq_ptr_nil prog 192 kR x y p w) k)<|
 ab (@ai prog 195 1 1 kR)<|
 ab (@ai prog 195 3 3 kR)<|
 (@ai prog 147 1 1 kR)
def adb:=
 ab (λx y p w k=>aa (@Go.Sh.run_eq_ptr_nil prog 107 kR x y p w) k)<|
 ab (@ai prog 212 1 1 kR)<|
 ab (@aw prog 212 1 1 kR)<|
 ab (@aM prog 212 1 1 kR)<|
 ab (@dE prog 210 kR)<|
 ab (@fU prog 210 kR)<|
 ab (@kT prog 210 kR)<|
 ab (@dJ prog 210 kR)<|
 ab (@bH prog 210 4 kR)<|
 ab (@lh prog 195 4 kR kR)<|
 ab (@cy prog 195 _ (show dS prog 195=some (.agg #[.int .i64 0,.int .i64 0,.int .i64 0,.bool false]) from kR))<|
 (@xW prog 195 4 kR)
def adc:=
 ab (@ai prog 195 0 0 kR)<|
 ab (@aw prog 195 0 0 kR)<|
 ab (@aM prog 195 0 0 kR)<|
 ab (@ai prog 195 2 2 kR)<|
 ab (@ai prog 212 0 0 kR)<|
 ab (@aw prog 212 0 0 kR)<|
 ab (@aM prog 212 0 0 kR)<|
 ab (λ(v0:al) (w:an) (k:K1) (h0:aj v0=true)=>aa (BO v0 h0 w) k)<|
 ab (λ(v0 v1 v2:al) (w:an) (k:al->Prop) (h0:aj v0=true) (h1:aj v1=true) (h2:aj v2=true)=>ah (qv v0 v1 v2 h0 h1 h2 w) k)<|
 ab (@iH prog 210 kR)<|
 ab (λx y p w k=>aa (@Go.Sh.run_eq_ptr_nil prog 33 kR x y p w) k)<|
 (λx y p w k=>aa (@Go.Sh.run_neq_ptr_nil prog 33 kR x y p w) k)
def ade:=
 ab (@ai prog 112 0 0 kR)<|
 ab (@aw prog 112 0 0 kR)<|
 ab (@aM prog 112 0 0 kR)<|
 ab (@ai prog 112 4 4 kR)<|
 ab (@aw prog 112 4 4 kR)<|
 ab (@aM prog 112 4 4 kR)<|
 ab (@dE prog 108 kR)<|
 ab (@fU prog 108 kR)<|
 ab (@kT prog 108 kR)<|
 ab (@ai prog 112 5 5 kR)<|
 ab (@dE prog 109 kR)<|
 (@ai prog 112 3 3 kR)
def adf:=
 ab (@aw prog 112 3 3 kR)<|
 ab (@aM prog 112 3 3 kR)<|
 ab (@dE prog 107 kR)<|
 ab (@fU prog 107 kR)<|
 ab (@kT prog 107 kR)<|
 ab (λx y p w k=>aa (@Go.Sh.run_eq_ptr_nil prog 40 kR x y p w) k)<|
 ab (λx y p w k=>aa (@Go.Sh.run_neq_ptr_nil prog 40 kR x y p w) k)<|
 ab (λx y p w k=>ah (@Go.Sh.run_eq_ptr_nil prog 40 kR x y p w) k)<|
 ab (@ai prog 123 2 2 kR)<|
 ab (@aw prog 123 2 2 kR)<|
 ab (@aM prog 123 2 2 kR)<|
 (@dE prog 32 kR)
def adg:=
 ab (@fU prog 32 kR)<|
 ab (@kT prog 32 kR)<|
 ab (@ai prog 123 1 1 kR)<|
 ab (@aw prog 123 1 1 kR)<|
 ab (@ai prog 123 0 0 kR)<|
 ab (@aw prog 123 0 0 kR)<|
 ab (@aM prog 123 0 0 kR)<|
 ab (@dE prog 33 kR)<|
 ab (@fU prog 33 kR)<|
 ab (@kT prog 33 kR)<|
 ab (@ai prog 112 7 7 kR)<|
 (@ai prog 112 6 6 kR)
def adh:=
 ab (@iH prog 110 kR)<|
 ab (@ai prog 112 1 1 kR)<|
 ab (@aw prog 112 1 1 kR)<|
 ab (@ai prog 112 2 2 kR)<|
 ab (@aw prog 112 2 2 kR)<|
 ab (@dE prog 110 kR)<|
 ab (λ(v0 v1:al) (w:an) (k:K1) (h0:aj v0=true) (h1:aj v1=true)=>aa (P4 v0 v1 h0 h1 w) k)<|
 ab (@dJ prog 25 kR)<|
 ab (@bH prog 25 1 kR)<|
 ab (@dE prog 27 kR)<|
 ab (@cy prog 159 _ (show dS prog 159=some (.map none) from kR))<|
 (@iH prog 159 kR)
def adi:=
 ab (@aw prog 162 0 0 kR)<|
 ab (@aM prog 162 0 0 kR)<|
 ab (@aw prog 162 1 1 kR)<|
 ab (@aM prog 162 1 1 kR)<|
 ab (@dE prog 51 kR)<|
 ab (@fU prog 51 kR)<|
 ab (@kT prog 51 kR)<|
 ab (λ(v0:al) (w:an) (k:K1) (h0:aj v0=true)=>aa (W9 v0 h0 w) k)<|
 ab (@iH prog 50 kR)<|
 ab (@iH prog 51 kR)<|
 ab (@ai prog 162 2 2 kR)<|
 (@aw prog 162 2 2 kR)
def adj:=
 ab (@dE prog 159 kR)<|
 ab (@fU prog 159 kR)<|
 ab (@ai prog 171 0 0 kR)<|
 ab (@aw prog 171 0 0 kR)<|
 ab (@aM prog 171 0 0 kR)<|
 ab (λx y p w k=>aa (@Go.Sh.run_eq_ptr_nil prog 32 kR x y p w) k)<|
 ab (λ(v0 v1 v2:al) (w:an) (k:K1) (h0:aj v0=true) (h1:aj v1=true) (h2:aj v2=true)=>aa (qw v0 v1 v2 h0 h1 h2 w) k)<|
 ab (@iH prog 107 kR)<|
 ab (@ai prog 171 1 1 kR)<|
 ab (@aw prog 171 1 1 kR)<|
 ab (λ(v0 v1:al) (w:an) (k:K1) (h0:aj v0=true) (h1:aj v1=true)=>aa (Xa v0 v1 h0 h1 w) k)<|
 (@dJ prog 213 kR)
def adk:=
 ab (@bH prog 213 1 kR)<|
 ab (@dE prog 25 kR)<|
 ab (λx y p w k=>aa (@Go.Sh.run_eq_ptr_nil prog 160 kR x y p w) k)<|
 ab (λ(w:an) (k:K1)=>aa (FK w) k)<|
 ab (λ(v0 v1 v2 v3 v4 v5:al) (w:an) (k:K1) (h0:aj v0=true) (h1:aj v1=true) (h2:aj v2=true) (h3:aj v3=true) (h4:aj v4=true) (h5:aj v5=true)=>aa (jm v0 v1 v2 v3 v4 v5 h0 h1 h2 h3 h4 h5 w) k)<|
 ab (λ(v0 v1 v2:al) (w:an) (k:K1) (h0:aj v0=true) (h1:aj v1=true) (h2:aj v2=true)=>aa (qx v0 v1 v2 h0 h1 h2 w) k)<|
 ab (@aw prog 171 2 2 kR)<|
 ab (@dE prog 4 kR)<|
 ab (@fU prog 4 kR)<|
 ab (@cy prog 4 _ (show dS prog 4=some (.bool false) from kR))<|
 ab (@dE prog 23 kR)<|
 (@fU prog 23 kR)
def adl:=
 ab (@kT prog 23 kR)<|
 ab (@ai prog 38 3 3 kR)<|
 ab (@aw prog 38 3 3 kR)<|
 ab (@aM prog 38 3 3 kR)<|
 ab (@cy prog 73 _ (show dS prog 73=some (.agg #[.int .i64 0,.int .i64 0,.int .i64 0,.int .i64 0]) from kR))<|
 ab (@xW prog 73 4 kR)<|
 ab (@ai prog 38 5 5 kR)<|
 ab (@aw prog 38 5 5 kR)<|
 ab (@aM prog 38 5 5 kR)<|
 ab (@ai prog 36 0 0 kR)<|
 ab (@aw prog 36 0 0 kR)<|
 (@dE prog 34 kR)
def adm:=
 ab (@fU prog 34 kR)<|
 ab (@kT prog 34 kR)<|
 ab (@dJ prog 34 kR)<|
 ab (@ai prog 73 2 2 kR)<|
 ab (@aw prog 73 2 2 kR)<|
 ab (@ai prog 73 3 3 kR)<|
 ab (@aw prog 73 3 3 kR)<|
 ab (@aM prog 73 3 3 kR)<|
 ab (@aw prog 73 0 0 kR)<|
 ab (@aw prog 38 4 4 kR)<|
 ab (@aw prog 73 1 1 kR)<|
 (@ai prog 36 1 1 kR)
def adn:=
 ab (@aw prog 36 1 1 kR)<|
 ab (@aM prog 36 1 1 kR)<|
 ab (@bH prog 34 2 kR)<|
 ab (@lp prog 34 2 kR)<|
 ab (@lh prog 63 2 kR kR)<|
 ab (@rh prog 63 2 kR kR)<|
 ab (@cy prog 63 _ (show dS prog 63=some (.agg #[.int .u64 0,.int .i64 0]) from kR))<|
 ab (@xW prog 63 2 kR)<|
 ab (@ai prog 63 0 0 kR)<|
 ab (@aw prog 63 0 0 kR)<|
 ab (@aM prog 63 0 0 kR)<|
 (@ai prog 63 1 1 kR)
def ado:=
 ab (@aw prog 63 1 1 kR)<|
 ab (@ai prog 36 2 2 kR)<|
 ab (@aw prog 36 2 2 kR)<|
 ab (@aM prog 36 2 2 kR)<|
 ab (@lh prog 73 4 kR kR)<|
 ab (@rh prog 73 4 kR kR)<|
 ab (λ(w:an) (k:K1)=>aa (nL w) k)<|
 ab (λ(w:an) (k:al->Prop)=>ah (nL w) k)<|
 ab (λ(v0 v1:al) (w:an) (k:al->Prop) (h0:aj v0=true) (h1:aj v1=true)=>ah (mq v0 v1 h0 h1 w) k)<|
 ab (@lh prog 73 4 kR kR)<|
 ab (@rh prog 73 4 kR kR)<|
 (λx y p w k=>aa (@Go.Sh.run_eq_ptr_nil prog 23 kR x y p w) k)
def adp:=
 ab (λ(v0:al) (w:an) (k:K1) (h0:aj v0=true)=>aa (Xb v0 h0 w) k)<|
 ab (λ(c0 c1 c2 c3:al) (w:an) (k:K1)=>aa (@Go.Sh.run_field prog 73 2 2 kR kR #[c0,c1,c2,c3] c2 rfl w) k)<|
 ab (λ(c0 c1 c2 c3:al) (w:an) (k:al->Prop)=>ah (@Go.Sh.run_field prog 73 2 2 kR kR #[c0,c1,c2,c3] c2 rfl w) k)<|
 ab (λv w k=>aa (@Go.Sh.run_makeInterface prog 31 kR kR v w) k)<|
 ab (λv w k=>ah (@Go.Sh.run_makeInterface prog 31 kR kR v w) k)<|
 ab (@ai prog 38 0 0 kR)<|
 ab (@aw prog 38 0 0 kR)<|
 ab (@aM prog 38 0 0 kR)<|
 ab (@aw prog 38 2 2 kR)<|
 ab (@aM prog 38 2 2 kR)<|
 ab (λ(v0 v1:al) (w:an) (k:K1) (h0:aj v0=true) (h1:aj v1=true)=>aa (ye v0 v1 h0 h1 w) k)<|
 (@aw prog 38 1 1 kR)
def adq:=
 ab (@aM prog 38 1 1 kR)<|
 ab (λ(a b:al) (w:an) (k:K1)=>aa (Xc a b w) k)<|
 ab (@iH prog 34 kR)<|
 ab (@ai prog 53 4 4 kR)<|
 ab (@ai prog 53 5 5 kR)<|
 ab (@ai prog 53 0 0 kR)<|
 ab (@ai prog 53 1 1 kR)<|
 ab (@ai prog 53 2 2 kR)<|
 ab (@aw prog 53 2 2 kR)<|
 ab (@ai prog 53 3 3 kR)<|
 ab (@aw prog 53 3 3 kR)<|
 (λ(n:Int) (w:an) (k:al->Prop) (h0:0<=n) (h1:n<18446744073709551616)=>ah (show (convert 3 27 (.int .i64 n)).run prog w= .ok (.int .u64 ((n.toNat:Nat):Int)) w from (@Go.Sh.run_convert prog 3 27 .i64 .u64 kR kR .i64 n w).trans (by rw [gQ h0 h1,bx h0])) k)
def adr:=
 ab (@lh prog 53 6 kR kR)<|
 ab (@lh prog 36 3 kR kR)<|
 ab (@rh prog 36 3 kR kR)<|
 ab (@cy prog 36 _ (show dS prog 36=some (.agg #[.slice none 0 0,.slice none 0 0,.slice none 0 0]) from kR))<|
 ab (@xW prog 36 3 kR)<|
 ab (λ(v0 v1 v2 v3 v4:al) (w:an) (k:K1) (h0:aj v0=true) (h1:aj v1=true) (h2:aj v2=true) (h3:aj v3=true) (h4:aj v4=true)=>aa (lr v0 v1 v2 v3 v4 h0 h1 h2 h3 h4 w) k)<|
 ab (@lh prog 36 3 kR kR)<|
 ab (@rh prog 36 3 kR kR)<|
 (λ(v0 v1:al) (w:an) (k:K1) (h0:aj v0=true) (h1:aj v1=true)=>aa (Xd v0 v1 h0 h1 w) k)
def RT:=ab RT0<|ab RT1<|ab RT2<|ab RT3<|ab RT4<|ab RT5<|ab RT6<|ab RT7<|ab RT8<|ab RT9<|ab ac4<|ab ac5<|ab ac6<|ab ac7<|ab ac8<|ab ac9<|ab ada<|ab adb<|ab adc<|ab ade<|ab adf<|ab adg<|ab adh<|ab adi<|ab adj<|ab adk<|ab adl<|ab adm<|ab adn<|ab ado<|ab adp<|ab adq<|adr
def RA:=ab RT<|ab (RN prog) (RP prog)
def RB:=ab RM RV
def pw (u:Code×Dec):Nat->Nat->Code×Dec
 |0,_=>u
 |d+1,b=>match Nat.beq (Nat.mod b 2) 0 with
  |true=>pw (pl u) d (Nat.div b 2)
  |false=>pw (pr u) d (Nat.div b 2)
def fy:Nat->Nat->List al->Fr
 |0,_,_=> []
 |n+1,m,[]=>undef::fy n (Nat.div m 2) []
 |n+1,m,x::l=>match Nat.beq (Nat.mod m 2) 1 with
  |true=>x::fy n (Nat.div m 2) l
  |false=>undef::fy n (Nat.div m 2) (x::l)
def sE1 (E:VP1) (a:Nat):KF:=λfr w=>E (sv fr a) w
def sE2 (E:VP2) (a b:Nat):KF:=λfr w=>E (sv fr a) (sv fr b) w
def sE3 (E:VP3) (a b c:Nat):KF:=λfr w=>E (sv fr a) (sv fr b) (sv fr c) w
def sE4 (E:VP4) (a b c d:Nat):KF:=λfr w=>E (sv fr a) (sv fr b) (sv fr c) (sv fr d) w
def sE5 (E:VP5) (a b c d e:Nat):KF:=λfr w=>E (sv fr a) (sv fr b) (sv fr c) (sv fr d) (sv fr e) w
def uD (f:Func) (d:Dec):Code×Dec:=(f.body.getD .skip,d)
def kO (m:Nat) (T:KF):KF:=λfr w=>∀σ,T (rp m σ 0 fr) w
abbrev Q0 (I:VP0) (μ:an->Nat) (w:an) (E:VP0):Prop:=∀w',I w'->μ w'<μ w->E w'
abbrev Q1 (I:VP1) (μ:al->an->Nat) (a:al) (w:an) (E:VP1):Prop:=∀y w',I y w'->μ y w'<μ a w->E y w'
abbrev Q2 (I:VP2) (μ:al->al->an->Nat) (a b:al) (w:an) (E:VP2):Prop:=∀y z w',I y z w'->μ y z w'<μ a b w->E y z w'
abbrev Q3 (I:VP3) (μ:al->al->al->an->Nat) (a b c:al) (w:an) (E:VP3):Prop:=∀x y z w',I x y z w'->μ x y z w'<μ a b c w->E x y z w'
abbrev vi (n:Int):al:= .int .i64 n
abbrev ci (n:Int):Operand:= .const (.int .i64 n)
abbrev vu (s:IntKind) (n:Nat):al:= .int s ((n:Nat):Int)
abbrev cu (s:IntKind) (n:Nat):Operand:= .const (.int s ((n:Nat):Int))
abbrev fA (s:TypeId) (x:al) (f:Nat) (w:an) (k:K1) (_:bZ k:= .mk):Prop:=ev prog (Instr.fieldAt s x f) w k
abbrev iA (s:TypeId) (x i:al) (w:an) (k:K1) (_:bZ k:= .mk):Prop:=ev prog (Instr.indexAt s x i) w k
abbrev eX (x:al) (i:Nat) (w:an) (k:K1) (_:bZ k:= .mk):Prop:=ev prog (Instr.extract x i) w k
abbrev bM (o:BinOp) (t:TypeId) (x y:Operand) (a b:al) (w:an) (k:K1) (_:bZ k:= .mk):Prop:=ev prog (aC o t x y a b) w k
abbrev bT (o:BinOp) (t:TypeId) (i j:Nat) (a b:al) (w:an) (k:K1) (_:bZ k:= .mk):Prop:=ev prog (aC o t (.tmp i) (.tmp j) a b) w k
abbrev bC (o:BinOp) (t:TypeId) (i:Nat) (n:Int) (a:al) (w:an) (k:K1) (_:bZ k:= .mk):Prop:=ev prog (aC o t (.tmp i) (.const (.int .i64 n)) a (.int .i64 n)) w k
abbrev bU (o:BinOp) (t:TypeId) (i:Nat) (s:IntKind) (n:Nat) (a:al) (w:an) (k:K1) (_:bZ k:= .mk):Prop:=ev prog (aC o t (.tmp i) (.const (.int s ((n:Nat):Int))) a (.int s ((n:Nat):Int))) w k
abbrev fR (s:TypeId) (x:al) (f:Nat) (w:an) (k:al->Prop) (_:bZ k:= .mk):Prop:=rd prog (Instr.fieldAt s x f) w k
abbrev iR (s:TypeId) (x i:al) (w:an) (k:al->Prop) (_:bZ k:= .mk):Prop:=rd prog (Instr.indexAt s x i) w k
abbrev xR (x:al) (i:Nat) (w:an) (k:al->Prop) (_:bZ k:= .mk):Prop:=rd prog (Instr.extract x i) w k
abbrev rM (o:BinOp) (t:TypeId) (x y:Operand) (a b:al) (w:an) (k:al->Prop) (_:bZ k:= .mk):Prop:=rd prog (aC o t x y a b) w k
abbrev rT (o:BinOp) (t:TypeId) (i j:Nat) (a b:al) (w:an) (k:al->Prop) (_:bZ k:= .mk):Prop:=rd prog (aC o t (.tmp i) (.tmp j) a b) w k
abbrev rC (o:BinOp) (t:TypeId) (i:Nat) (n:Int) (a:al) (w:an) (k:al->Prop) (_:bZ k:= .mk):Prop:=rd prog (aC o t (.tmp i) (.const (.int .i64 n)) a (.int .i64 n)) w k
abbrev rU (o:BinOp) (t:TypeId) (i:Nat) (s:IntKind) (n:Nat) (a:al) (w:an) (k:al->Prop) (_:bZ k:= .mk):Prop:=rd prog (aC o t (.tmp i) (.const (.int s ((n:Nat):Int))) a (.int s ((n:Nat):Int))) w k
abbrev fG (s:TypeId) (x:al) (f:Nat) (w:an) (v:al):Prop:=ag prog (Instr.fieldAt s x f) w v
abbrev lD (t:TypeId) (a:al) (w:an) (k:K1) (_:bZ k:= .mk):Prop:=ldS prog t a w k
abbrev lR (t:TypeId) (a:al) (w:an) (k:al->Prop) (_:bZ k:= .mk):Prop:=ldR prog t a w k
abbrev lG (t:TypeId) (a:al) (w:an) (v:al):Prop:=ldG prog t a w v
abbrev sD (t:TypeId) (a x:al) (w:an) (k:an->Prop) (_:bZ k:= .mk):Prop:=stS prog t a x w k
abbrev cL (f:FuncId) (a:Array al) (w:an) (k:K1) (_:bZ k:= .mk):Prop:=ad prog f a w k
abbrev lN (t:TypeId) (x:al) (w:an) (k:K1) (_:bZ k:= .mk):Prop:=aY prog .len #[t] 3 #[false] #[x] w k
abbrev nS (x:al) (w:an) (k:K1) (_:bZ k:= .mk):Prop:=Lx prog x w k
abbrev nR (x:al) (w:an) (k:al->Prop) (_:bZ k:= .mk):Prop:=br prog x w k
abbrev cV (a b:TypeId) (x:al) (w:an) (k:K1) (_:bZ k:= .mk):Prop:=ev prog (convert a b x) w k
abbrev gV (c:al) (b:Bool) (x:al) (w:an) (k:K1) (_:bZ k:= .mk):Prop:=gd c b (λk=>k x w) w k
abbrev gW (c:al) (b:Bool) (x:al) (k:al->Prop) (_:bZ k:= .mk):Prop:=gdR c b (λk=>k x) k
abbrev gF (c:al) (b:Bool) (s:TypeId) (x:al) (f:Nat) (w:an) (k:al->Prop) (_:bZ k:= .mk):Prop:=gdR c b (λk=>rd prog (Instr.fieldAt s x f) w k) k
abbrev gI (c:al) (b:Bool) (s:TypeId) (x i:al) (w:an) (k:al->Prop) (_:bZ k:= .mk):Prop:=gdR c b (λk=>rd prog (Instr.indexAt s x i) w k) k
abbrev gL (c:al) (b:Bool) (t:TypeId) (x:al) (w:an) (k:al->Prop) (_:bZ k:= .mk):Prop:=gdR c b (λk=>ldR prog t x w k) k
abbrev gN (c:al) (b:Bool) (x:al) (w:an) (k:al->Prop) (_:bZ k:= .mk):Prop:=gdR c b (λk=>br prog x w k) k
abbrev gC (c:al) (b:Bool) (f:FuncId) (a:Array al) (w:an) (k:K1) (_:bZ k:= .mk):Prop:=gd c b (λk=>ad prog f a w k) w k
def cA0 {f:FuncId} {fn:Func} (hf:prog.funcs[f]? =some fn) (d:Dec) (t:K1->World->Prop) (o:okF prog fn d []=true:=by intros;kernel_rfl) (e:∀(K:K1) (w:World),t K w=txt prog fn d [] K w:=by intros;kernel_rfl) (K:K1) (w:World) (h:t K w):ad prog f #[] w K:=be (args:= []) mixed hf d o (cast (e K w) h)
def cA1 {f:FuncId} {fn:Func} (hf:prog.funcs[f]? =some fn) (d:Dec) (t:K1->Value->World->Prop) (o:∀x0:Value,okF prog fn d [x0]=true:=by intros;kernel_rfl) (e:∀(K:K1) (x0:Value) (w:World),t K x0 w=txt prog fn d [x0] K w:=by intros;kernel_rfl) (x0:Value) (K:K1) (w:World) (h:t K x0 w):ad prog f #[x0] w K:=be (args:= [x0]) mixed hf d (o x0) (cast (e K x0 w) h)
def cA2 {f:FuncId} {fn:Func} (hf:prog.funcs[f]? =some fn) (d:Dec) (t:K1->Value->Value->World->Prop) (o:∀x0 x1:Value,okF prog fn d [x0,x1]=true:=by intros;kernel_rfl) (e:∀(K:K1) (x0 x1:Value) (w:World),t K x0 x1 w=txt prog fn d [x0,x1] K w:=by intros;kernel_rfl) (x0 x1:Value) (K:K1) (w:World) (h:t K x0 x1 w):ad prog f #[x0,x1] w K:=be (args:= [x0,x1]) mixed hf d (o x0 x1) (cast (e K x0 x1 w) h)
def cA3 {f:FuncId} {fn:Func} (hf:prog.funcs[f]? =some fn) (d:Dec) (t:K1->Value->Value->Value->World->Prop) (o:∀x0 x1 x2:Value,okF prog fn d [x0,x1,x2]=true:=by intros;kernel_rfl) (e:∀(K:K1) (x0 x1 x2:Value) (w:World),t K x0 x1 x2 w=txt prog fn d [x0,x1,x2] K w:=by intros;kernel_rfl) (x0 x1 x2:Value) (K:K1) (w:World) (h:t K x0 x1 x2 w):ad prog f #[x0,x1,x2] w K:=be (args:= [x0,x1,x2]) mixed hf d (o x0 x1 x2) (cast (e K x0 x1 x2 w) h)
def cA4 {f:FuncId} {fn:Func} (hf:prog.funcs[f]? =some fn) (d:Dec) (t:K1->Value->Value->Value->Value->World->Prop) (o:∀x0 x1 x2 x3:Value,okF prog fn d [x0,x1,x2,x3]=true:=by intros;kernel_rfl) (e:∀(K:K1) (x0 x1 x2 x3:Value) (w:World),t K x0 x1 x2 x3 w=txt prog fn d [x0,x1,x2,x3] K w:=by intros;kernel_rfl) (x0 x1 x2 x3:Value) (K:K1) (w:World) (h:t K x0 x1 x2 x3 w):ad prog f #[x0,x1,x2,x3] w K:=be (args:= [x0,x1,x2,x3]) mixed hf d (o x0 x1 x2 x3) (cast (e K x0 x1 x2 x3 w) h)
def cA5 {f:FuncId} {fn:Func} (hf:prog.funcs[f]? =some fn) (d:Dec) (t:K1->Value->Value->Value->Value->Value->World->Prop) (o:∀x0 x1 x2 x3 x4:Value,okF prog fn d [x0,x1,x2,x3,x4]=true:=by intros;kernel_rfl) (e:∀(K:K1) (x0 x1 x2 x3 x4:Value) (w:World),t K x0 x1 x2 x3 x4 w=txt prog fn d [x0,x1,x2,x3,x4] K w:=by intros;kernel_rfl) (x0 x1 x2 x3 x4:Value) (K:K1) (w:World) (h:t K x0 x1 x2 x3 x4 w):ad prog f #[x0,x1,x2,x3,x4] w K:=be (args:= [x0,x1,x2,x3,x4]) mixed hf d (o x0 x1 x2 x3 x4) (cast (e K x0 x1 x2 x3 x4 w) h)
def cA6 {f:FuncId} {fn:Func} (hf:prog.funcs[f]? =some fn) (d:Dec) (t:K1->Value->Value->Value->Value->Value->Value->World->Prop) (o:∀x0 x1 x2 x3 x4 x5:Value,okF prog fn d [x0,x1,x2,x3,x4,x5]=true:=by intros;kernel_rfl) (e:∀(K:K1) (x0 x1 x2 x3 x4 x5:Value) (w:World),t K x0 x1 x2 x3 x4 x5 w=txt prog fn d [x0,x1,x2,x3,x4,x5] K w:=by intros;kernel_rfl) (x0 x1 x2 x3 x4 x5:Value) (K:K1) (w:World) (h:t K x0 x1 x2 x3 x4 x5 w):ad prog f #[x0,x1,x2,x3,x4,x5] w K:=be (args:= [x0,x1,x2,x3,x4,x5]) mixed hf d (o x0 x1 x2 x3 x4 x5) (cast (e K x0 x1 x2 x3 x4 x5 w) h)
def cA7 {f:FuncId} {fn:Func} (hf:prog.funcs[f]? =some fn) (d:Dec) (t:K1->Value->Value->Value->Value->Value->Value->Value->World->Prop) (o:∀x0 x1 x2 x3 x4 x5 x6:Value,okF prog fn d [x0,x1,x2,x3,x4,x5,x6]=true:=by intros;kernel_rfl) (e:∀(K:K1) (x0 x1 x2 x3 x4 x5 x6:Value) (w:World),t K x0 x1 x2 x3 x4 x5 x6 w=txt prog fn d [x0,x1,x2,x3,x4,x5,x6] K w:=by intros;kernel_rfl) (x0 x1 x2 x3 x4 x5 x6:Value) (K:K1) (w:World) (h:t K x0 x1 x2 x3 x4 x5 x6 w):ad prog f #[x0,x1,x2,x3,x4,x5,x6] w K:=be (args:= [x0,x1,x2,x3,x4,x5,x6]) mixed hf d (o x0 x1 x2 x3 x4 x5 x6) (cast (e K x0 x1 x2 x3 x4 x5 x6 w) h)
def cA8 {f:FuncId} {fn:Func} (hf:prog.funcs[f]? =some fn) (d:Dec) (t:K1->Value->Value->Value->Value->Value->Value->Value->Value->World->Prop) (o:∀x0 x1 x2 x3 x4 x5 x6 x7:Value,okF prog fn d [x0,x1,x2,x3,x4,x5,x6,x7]=true:=by intros;kernel_rfl) (e:∀(K:K1) (x0 x1 x2 x3 x4 x5 x6 x7:Value) (w:World),t K x0 x1 x2 x3 x4 x5 x6 x7 w=txt prog fn d [x0,x1,x2,x3,x4,x5,x6,x7] K w:=by intros;kernel_rfl) (x0 x1 x2 x3 x4 x5 x6 x7:Value) (K:K1) (w:World) (h:t K x0 x1 x2 x3 x4 x5 x6 x7 w):ad prog f #[x0,x1,x2,x3,x4,x5,x6,x7] w K:=be (args:= [x0,x1,x2,x3,x4,x5,x6,x7]) mixed hf d (o x0 x1 x2 x3 x4 x5 x6 x7) (cast (e K x0 x1 x2 x3 x4 x5 x6 x7 w) h)
def cA9 {f:FuncId} {fn:Func} (hf:prog.funcs[f]? =some fn) (d:Dec) (t:K1->Value->Value->Value->Value->Value->Value->Value->Value->Value->World->Prop) (o:∀x0 x1 x2 x3 x4 x5 x6 x7 x8:Value,okF prog fn d [x0,x1,x2,x3,x4,x5,x6,x7,x8]=true:=by intros;kernel_rfl) (e:∀(K:K1) (x0 x1 x2 x3 x4 x5 x6 x7 x8:Value) (w:World),t K x0 x1 x2 x3 x4 x5 x6 x7 x8 w=txt prog fn d [x0,x1,x2,x3,x4,x5,x6,x7,x8] K w:=by intros;kernel_rfl) (x0 x1 x2 x3 x4 x5 x6 x7 x8:Value) (K:K1) (w:World) (h:t K x0 x1 x2 x3 x4 x5 x6 x7 x8 w):ad prog f #[x0,x1,x2,x3,x4,x5,x6,x7,x8] w K:=be (args:= [x0,x1,x2,x3,x4,x5,x6,x7,x8]) mixed hf d (o x0 x1 x2 x3 x4 x5 x6 x7 x8) (cast (e K x0 x1 x2 x3 x4 x5 x6 x7 x8 w) h)
def adK {f:FuncId} {fn:Func} (hf:prog.funcs[f]? =some fn) (d:Dec) (t:K1->Value->Value->Value->Value->Value->Value->Value->Value->Value->Value->World->Prop) (o:∀x0 x1 x2 x3 x4 x5 x6 x7 x8 x9:Value,okF prog fn d [x0,x1,x2,x3,x4,x5,x6,x7,x8,x9]=true:=by intros;kernel_rfl) (e:∀(K:K1) (x0 x1 x2 x3 x4 x5 x6 x7 x8 x9:Value) (w:World),t K x0 x1 x2 x3 x4 x5 x6 x7 x8 x9 w=txt prog fn d [x0,x1,x2,x3,x4,x5,x6,x7,x8,x9] K w:=by intros;kernel_rfl) (x0 x1 x2 x3 x4 x5 x6 x7 x8 x9:Value) (K:K1) (w:World) (h:t K x0 x1 x2 x3 x4 x5 x6 x7 x8 x9 w):ad prog f #[x0,x1,x2,x3,x4,x5,x6,x7,x8,x9] w K:=be (args:= [x0,x1,x2,x3,x4,x5,x6,x7,x8,x9]) mixed hf d (o x0 x1 x2 x3 x4 x5 x6 x7 x8 x9) (cast (e K x0 x1 x2 x3 x4 x5 x6 x7 x8 x9 w) h)
def adL {f:FuncId} {fn:Func} (hf:prog.funcs[f]? =some fn) (d:Dec) (t:K1->Value->Value->Value->Value->Value->Value->Value->Value->Value->Value->Value->World->Prop) (o:∀x0 x1 x2 x3 x4 x5 x6 x7 x8 x9 x10:Value,okF prog fn d [x0,x1,x2,x3,x4,x5,x6,x7,x8,x9,x10]=true:=by intros;kernel_rfl) (e:∀(K:K1) (x0 x1 x2 x3 x4 x5 x6 x7 x8 x9 x10:Value) (w:World),t K x0 x1 x2 x3 x4 x5 x6 x7 x8 x9 x10 w=txt prog fn d [x0,x1,x2,x3,x4,x5,x6,x7,x8,x9,x10] K w:=by intros;kernel_rfl) (x0 x1 x2 x3 x4 x5 x6 x7 x8 x9 x10:Value) (K:K1) (w:World) (h:t K x0 x1 x2 x3 x4 x5 x6 x7 x8 x9 x10 w):ad prog f #[x0,x1,x2,x3,x4,x5,x6,x7,x8,x9,x10] w K:=be (args:= [x0,x1,x2,x3,x4,x5,x6,x7,x8,x9,x10]) mixed hf d (o x0 x1 x2 x3 x4 x5 x6 x7 x8 x9 x10) (cast (e K x0 x1 x2 x3 x4 x5 x6 x7 x8 x9 x10 w) h)
def adM {f:FuncId} {fn:Func} (hf:prog.funcs[f]? =some fn) (d:Dec) (t:K1->Value->Value->Value->Value->Value->Value->Value->Value->Value->Value->Value->Value->World->Prop) (o:∀x0 x1 x2 x3 x4 x5 x6 x7 x8 x9 x10 x11:Value,okF prog fn d [x0,x1,x2,x3,x4,x5,x6,x7,x8,x9,x10,x11]=true:=by intros;kernel_rfl) (e:∀(K:K1) (x0 x1 x2 x3 x4 x5 x6 x7 x8 x9 x10 x11:Value) (w:World),t K x0 x1 x2 x3 x4 x5 x6 x7 x8 x9 x10 x11 w=txt prog fn d [x0,x1,x2,x3,x4,x5,x6,x7,x8,x9,x10,x11] K w:=by intros;kernel_rfl) (x0 x1 x2 x3 x4 x5 x6 x7 x8 x9 x10 x11:Value) (K:K1) (w:World) (h:t K x0 x1 x2 x3 x4 x5 x6 x7 x8 x9 x10 x11 w):ad prog f #[x0,x1,x2,x3,x4,x5,x6,x7,x8,x9,x10,x11] w K:=be (args:= [x0,x1,x2,x3,x4,x5,x6,x7,x8,x9,x10,x11]) mixed hf d (o x0 x1 x2 x3 x4 x5 x6 x7 x8 x9 x10 x11) (cast (e K x0 x1 x2 x3 x4 x5 x6 x7 x8 x9 x10 x11 w) h)
abbrev M0:=an->Nat
abbrev M1:=al->an->Nat
abbrev M2:=al->al->an->Nat
abbrev M3:=al->al->al->an->Nat
abbrev M4:=al->al->al->al->an->Nat
noncomputable section
variable (K:K1) (x0 x1 x2 x3 x4 x5 x6 x7 x8 x9 x10 x11 x12:al) (w:an)
def P5:Prop:=
 lN 58 x0 w λa w=>
 cV 3 129 a w λb w=>
 cL 180 (pA #[b]) w λc w=>
 cL 187 (pA #[x0,(.int .i64 0),a,c]) w λd w=>
 K (.tuple #[]) w
def Mk:=cA1 Tryz.func172 .o P5
def P6:Prop:=
 ae (.bool false) (
 cV 129 126 x0 w λa w=>
 cL 197 (pA #[a]) w λb w=>
 K b w) (
 cL 198 (pA #[x0]) w λc w=>
 K c w)
def Ml:=cA1 Tryz.func180 .o P6
noncomputable def ru:=uD Tryz.f187 (.s .o (.s .o (.b (.l [1,2,3,8,9] 1 21778071482940061661655974875633165532942 (.b (.s .o (.s .o (.s .o (.x 1807 .o (.s .o (.x 7951 .o (.x 3855 .o .o))))))))))))
abbrev jv:=aU prog Tryz.f187.results.toList
def IA:Prop:=aE [1,2,3,8,9] 1 (λE=>cP (pw ru 4 3) E (jv K) (exB 0 (jv K) nX)) (fy 134 783 [x0,x1,x2,x3,x8,x9]) w
def Mm (E1:VP5):KF:=kO 1807 (cP (pw ru 9 483) (sE5 E1 1 2 3 8 9) (jv K) (exB 1 (sE5 E1 1 2 3 8 9) (exB 0 (jv K) nX)))
def qF (K:K1) (E1:VP5) (x0 x1 x2 x3 x8 x9 x10:al) (w:an):Prop:=Mm K E1 (fy 134 1807 [x0,x1,x2,x3,x8,x9,x10]) w
def Mn (E1:VP5):KF:=kO 7951 (cP (pw ru 11 2019) (sE5 E1 1 2 3 8 9) (jv K) (exB 1 (sE5 E1 1 2 3 8 9) (exB 0 (jv K) nX)))
def qG (K:K1) (E1:VP5) (x0 x1 x2 x3 x8 x9 x10 x11 x12:al) (w:an):Prop:=Mn K E1 (fy 134 7951 [x0,x1,x2,x3,x8,x9,x10,x11,x12]) w
def Mo (E1:VP5):KF:=kO 3855 (cP (pw ru 12 4067) (sE5 E1 1 2 3 8 9) (jv K) (exB 1 (sE5 E1 1 2 3 8 9) (exB 0 (jv K) nX)))
def qH (K:K1) (E1:VP5) (x0 x1 x2 x3 x8 x9 x10 x11:al) (w:an):Prop:=Mo K E1 (fy 134 3855 [x0,x1,x2,x3,x8,x9,x10,x11]) w
def jX (E1:VP5):Prop:=
 bT .sub 3 19 20 x2 x1 w λa w=>
 bC .leq 3 22 12 a w λb w=>
 ae b (
 cL 201 (pA #[x0,x1,x2]) w λc w=>
 K (.tuple #[]) w) (
 bC .eql 3 28 0 x3 w λd w=>
 ae d (
 cL 202 (pA #[x0,x1,x2]) w λe w=>
 K (.tuple #[]) w) (
 ev prog (Op.unary .not x8) w λf w=>
 ae f (
 cL 203 (pA #[x0,x1,x2]) w λg w=>
 bC .sub 3 40 1 x3 w λh w=>
 qF K E1 x0 x1 x2 h x8 x9 a w) (
 qF K E1 x0 x1 x2 x3 x8 x9 a w)))
def yf (x0 x1 x2 x3 x8 x9:al) (K:K1) (w:an) (I:VP5) (μ:al->al->al->al->al->an->Nat) (h0:I x1 x2 x3 x8 x9 w)
  (hr:∀(x1 x2 x3 x8 x9:al) (w:an),I x1 x2 x3 x8 x9 w->∀E1:VP5,(∀(y1 y2 y3 y8 y9:al) (w':an),I y1 y2 y3 y8 y9 w'->μ y1 y2 y3 y8 y9 w'<μ x1 x2 x3 x8 x9 w->E1 y1 y2 y3 y8 y9 w')->jX K x0 x1 x2 x3 x8 x9 w E1):IA K x0 x1 x2 x3 x8 x9 w:=
 ⟨I,μ,h0,λσ w hI E hE=>cast kR (hr (σ 1) (σ 2) (σ 3) (σ 8) (σ 9) w hI E hE)⟩
def uN (E1:VP5):Prop:=
 cL 204 (pA #[x0,x1,x2]) w λa w=>
 eX a 0 w λb w=>
 eX a 1 w λc w=>
 bC .eql 259 49 2 c w λd w=>
 ae d (
 cL 205 (pA #[x0,x1,x2]) w λe w=>
 bC .sub 3 55 1 x2 w λf w=>
 bT .sub 3 57 58 b x1 w λg w=>
 bT .sub 3 56 59 f g w λh w=>
 qG K E1 x0 x1 x2 x3 x8 x9 x10 h (.int .i64 1) w) (
 qG K E1 x0 x1 x2 x3 x8 x9 x10 b c w)
def FL (E1:VP5):qF K E1 x0 x1 x2 x3 x8 x9 x10 w=uN K x0 x1 x2 x3 x8 x9 x10 w E1:=aI λσ=>kR
def gU (E1:VP5):Prop:=
 gV x8 true x9 w λa w=>
 au x8 a (.bool false) w λb w=>
 gV b true x12 w λc w=>
 gd b true (λk=>bC .eql 259 66 1 c w k) w λd w=>
 au b d (.bool false) w λe w=>
 ae e (
 cL 206 (pA #[x0,x1,x2]) w λf w=>
 ae f (
 K (.tuple #[]) w) (
 qH K E1 x0 x1 x2 x3 x8 x9 x10 x11 w)) (
 qH K E1 x0 x1 x2 x3 x8 x9 x10 x11 w)
def iL (E1:VP5):qG K E1 x0 x1 x2 x3 x8 x9 x10 x11 x12 w=gU K x0 x1 x2 x3 x8 x9 x10 x11 x12 w E1:=aI λσ=>kR
def eG (E1:VP5):Prop:=
 rC .gtr 3 73 0 x1 w.drew λa=>
 gW a true x0 λb=>
 gW a true x1 λc=>
 gdR a true (λk=>rC .sub 3 77 1 c w.drew k) λd=>
 gI a true 58 b d w.drew λe=>
 gL a true 26 e w.drew λf=>
 gW a true x0 λg=>
 gW a true x11 λh=>
 gI a true 58 g h w.drew λi=>
 gL a true 26 i w.drew λj=>
 gC a true 207 (pA #[f,j]) w.drew λl w=>
 gdR a true (λk=>rd prog (Op.unary .not l) w k) λm=>
 bo a m (.bool false) λn=>
 ae n (
 cL 208 (pA #[x0,x1,x2,x11]) w λo w=>
 E1 o x2 x3 x8 x9 w) (
 cL 209 (pA #[x0,x1,x2,x11]) w λp w=>
 eX p 0 w λq w=>
 eX p 1 w λs w=>
 bT .sub 3 103 104 q x1 w λt w=>
 bT .sub 3 106 107 x2 q w λv w=>
 bC .quo 3 109 8 x10 w λy w=>
 bT .lss 3 111 112 t v w λz w=>
 ae z (
 bT .geq 3 114 115 t y w λa0 w=>
 cL 187 (pA #[x0,x1,q,x3]) w λa1 w=>
 bC .add 3 122 1 q w λa2 w=>
 E1 a2 x2 x3 a0 s w) (
 bT .geq 3 124 125 v y w λa3 w=>
 bC .add 3 128 1 q w λa4 w=>
 cL 187 (pA #[x0,a4,x2,x3]) w λa5 w=>
 E1 x1 q x3 a3 s w))
def eH (E1:VP5):qH K E1 x0 x1 x2 x3 x8 x9 x10 x11 w=eG x0 x1 x2 x3 x8 x9 x10 x11 w E1:=aI λσ=>kR
def P7:Prop:=
 IA K x0 x1 x2 x3 (.bool true) (.bool true) w
def Mp:=cA4 Tryz.func187 ru.2 P7
noncomputable def yg:=uD Tryz.f198 (.s .o (.x 5 .o (.x 5 .o (.x 5 .o .o))))
abbrev nM:=aU prog Tryz.f198.results.toList
def Mq:KF:=kO 5 (cP (pr (pr yg)) (nM K) (nM K) nX)
def yh:Prop:=Mq K (fy 25 5 [x0,x2]) w
def Mr:KF:=kO 5 (cP (pw yg 3 7) (nM K) (nM K) nX)
def yi:Prop:=Mr K (fy 25 5 [x0,x2]) w
def Ms:KF:=kO 5 (cP (pw yg 4 15) (nM K) (nM K) nX)
def yj:Prop:=Ms K (fy 25 5 [x0,x2]) w
def dr:Prop:=
 bU .geq 26 7 .u64 65536 x0 w λa w=>
 ae a (
 bU .shr 26 9 .u64 16 x0 w λb w=>
 bC .add 3 11 16 x2 w λc w=>
 yi K b c w) (
 yi K x0 x2 w)
def cX:yh K x0 x2 w=dr K x0 x2 w:=aI λσ=>kR
def du:Prop:=
 bU .geq 26 13 .u64 256 x0 w λa w=>
 ae a (
 bU .shr 26 15 .u64 8 x0 w λb w=>
 bC .add 3 17 8 x2 w λc w=>
 yj K b c w) (
 yj K x0 x2 w)
def cY:yi K x0 x2 w=du K x0 x2 w:=aI λσ=>kR
def nN (x0 x2:al) (K:K1) (w:an):Prop:=
 cV 26 5 x0 w λa w=>
 ev prog (Instr.index 9 (.string {data:= #[0,1,2,2,3,3,3,3,4,4,4,4,4,4,4,4,5,5,5,5,5,5,5,5,5,5,5,5,5,5,5,5,6,6,6,6,6,6,6,6,6,6,6,6,6,6,6,6,6,6,6,6,6,6,6,6,6,6,6,6,6,6,6,6,7,7,7,7,7,7,7,7,7,7,7,7,7,7,7,7,7,7,7,7,7,7,7,7,7,7,7,7,7,7,7,7,7,7,7,7,7,7,7,7,7,7,7,7,7,7,7,7,7,7,7,7,7,7,7,7,7,7,7,7,7,7,7,7,8,8,8,8,8,8,8,8,8,8,8,8,8,8,8,8,8,8,8,8,8,8,8,8,8,8,8,8,8,8,8,8,8,8,8,8,8,8,8,8,8,8,8,8,8,8,8,8,8,8,8,8,8,8,8,8,8,8,8,8,8,8,8,8,8,8,8,8,8,8,8,8,8,8,8,8,8,8,8,8,8,8,8,8,8,8,8,8,8,8,8,8,8,8,8,8,8,8,8,8,8,8,8,8,8,8,8,8,8,8,8,8,8,8,8,8,8,8,8,8,8,8,8,8,8,8,8,8]}) a) w λb w=>
 cV 5 3 b w λc w=>
 bT .add 3 19 23 x2 c w λd w=>
 K d w
def ba:yj K x0 x2 w=nN x0 x2 K w:=aI λσ=>kR
def P8:Prop:=
 bU .geq 26 3 .u64 4294967296 x0 w λa w=>
 ae a (
 bU .shr 26 5 .u64 32 x0 w λb w=>
 yh K b (.int .i64 32) w) (
 yh K x0 (.int .i64 0) w)
def Mt:=cA1 Tryz.func198 yg.2 P8
noncomputable def yk:=uD Tryz.f201 (.s .o (.b (.l [6] 7 562949953420480 (.s .o (.x 71 (.b (.s .o (.b (.l [7] 71 562949953355904 .o)))) .o)))))
abbrev nO:=aU prog Tryz.f201.results.toList
def IB:Prop:=aE [6] 7 (λE=>cP (pw yk 3 1) E (nO K) (exB 0 (nO K) nX)) (fy 49 71 [x0,x1,x2,x6]) w
def nP (E1:VP1):KF:=kO 71 (cP (pw yk 5 25) (sE1 E1 6) (nO K) (exB 0 (nO K) nX))
def IC (K:K1) (E1:VP1) (x0 x1 x2 x6:al) (w:an):Prop:=nP K E1 (fy 49 71 [x0,x1,x2,x6]) w
def ID (K:K1) (E1:VP1) (x0 x1 x2 x6 x7:al) (w:an):Prop:=aE [7] 71 (λE=>cP (pw yk 9 73) E (nO K) (exB 2 (nP K E1) (exB 1 (nP K E1) (exB 0 (nO K) nX)))) (fy 49 199 [x0,x1,x2,x6,x7]) w
def uO (E1:VP1):Prop:=
 bT .lss 3 10 11 x6 x2 w λa w=>
 ae a (
 ID K E1 x0 x1 x2 x6 x6 w) (
 K (.tuple #[]) w)
def ym (I:VP1) (μ:M1) (h0:I x6 w) (hr:∀x6 w,I x6 w->∀E1,Q1 I μ x6 w E1->uO K x0 x1 x2 x6 w E1):IB K x0 x1 x2 x6 w:=⟨I,μ,h0,λσ w hI E hE=>cast kR (hr (σ 6) w hI E hE)⟩
def gY (E1:VP1):Prop:=
 bC .add 3 13 1 x6 w λa w=>
 E1 a w
def iM (E1:VP1):IC K E1 x0 x1 x2 x6 w=gY x6 w E1:=aI λσ=>kR
def uP (E1:VP1) (E2:VP1):Prop:=
 rT .gtr 3 16 17 x7 x1 w.drew λa=>
 gW a true x0 λb=>
 gW a true x7 λc=>
 gI a true 58 b c w.drew λd=>
 gL a true 26 d w.drew λe=>
 gW a true x0 λf=>
 gW a true x7 λg=>
 gdR a true (λk=>rC .sub 3 25 1 g w.drew k) λh=>
 gI a true 58 f h w.drew λi=>
 gL a true 26 i w.drew λj=>
 gC a true 207 (pA #[e,j]) w.drew λl w=>
 bo a l (.bool false) λm=>
 ae m (
 rC .sub 3 36 1 x7 w.drew λn=>
 rC .sub 3 39 1 x7 w.drew λo=>
 iR 58 x0 o w.drew λp=>
 lR 26 p w.drew λq=>
 iR 58 x0 x7 w.drew λs=>
 lR 26 s w.drew λt=>
 iR 58 x0 x7 w.drew λv=>
 sD 26 v q w.drew λw=>
 (ag prog (aC .sub 3 (.tmp 36) (ci 1) x7 (.int .i64 1)) w n)/\
 iR 58 x0 n w λy=>
 sD 26 y t w λw=>
 bC .sub 3 31 1 x7 w λz w=>
 E2 z w) (
 IC K E1 x0 x1 x2 x6 w)
def yo (E1:VP1) (I:VP1) (μ:M1) (h0:I x7 w) (hr:∀x7 w,I x7 w->∀E2,Q1 I μ x7 w E2->uP K x0 x1 x2 x6 x7 w E1 E2):ID K E1 x0 x1 x2 x6 x7 w:=⟨I,μ,h0,λσ w hI E hE=>cast kR (hr (σ 7) w hI E hE)⟩
def P9:Prop:=
 bC .add 3 8 1 x1 w λa w=>
 IB K x0 x1 x2 a w
def Mu:=cA3 Tryz.func201 yk.2 P9
noncomputable def yp:=uD Tryz.f202 (.s .o (.s .o (.s .o (.x 449 (.s .o (.b (.l [9] 449 133956096 .o))) (.s .o (.b (.l [10] 193 72057593501058048 .o)))))))
abbrev rx:=aU prog Tryz.f202.results.toList
def uQ:KF:=kO 449 (cP (pw yp 4 15) (rx K) (rx K) nX)
def IE:Prop:=uQ K (fy 56 449 [x0,x6,x7,x8]) w
def IF:Prop:=aE [9] 449 (λE=>cP (pw yp 7 23) E (rx K) (exB 0 (uQ K) nX)) (fy 56 961 [x0,x6,x7,x8,x9]) w
def IG:Prop:=aE [10] 193 (λE=>cP (pw yp 7 31) E (rx K) (exB 2 (rx K) nX)) (fy 56 1217 [x0,x6,x7,x10]) w
def uR:Prop:=
 bC .sub 3 27 1 x8 w λa w=>
 IG K x0 x6 x7 a w
def FM:IE K x0 x6 x7 x8 w=uR K x0 x6 x7 x8 w:=aI λσ=>kR
def nQ (E1:VP1):Prop:=
 bC .geq 3 18 0 x9 w λa w=>
 ae a (
 cL 217 (pA #[x0,x9,x8,x6]) w λb w=>
 bC .sub 3 20 1 x9 w λc w=>
 E1 c w) (
 IE K x0 x6 x7 x8 w)
def yq (I:VP1) (μ:M1) (h0:I x9 w) (hr:∀x9 w,I x9 w->∀E1,Q1 I μ x9 w E1->nQ K x0 x6 x7 x8 x9 w E1):IF K x0 x6 x7 x8 x9 w:=⟨I,μ,h0,λσ w hI E hE=>cast kR (hr (σ 9) w hI E hE)⟩
def nT (E1:VP1):Prop:=
 bC .geq 3 29 0 x10 w λa w=>
 ae a (
 rT .add 3 36 37 x6 x10 w.drew λb=>
 rT .add 3 40 41 x6 x10 w.drew λc=>
 iR 58 x0 c w.drew λd=>
 lR 26 d w.drew λe=>
 iR 58 x0 x6 w.drew λf=>
 lR 26 f w.drew λg=>
 iR 58 x0 x6 w.drew λh=>
 sD 26 h e w.drew λw=>
 (ag prog (aC .add 3 (.tmp 36) (.tmp 37) x6 x10) w b)/\
 iR 58 x0 b w λi=>
 sD 26 i g w λw=>
 cL 217 (pA #[x0,x7,x10,x6]) w λj w=>
 bC .sub 3 31 1 x10 w λl w=>
 E1 l w) (
 K (.tuple #[]) w)
def yr (I:VP1) (μ:M1) (h0:I x10 w) (hr:∀x10 w,I x10 w->∀E1,Q1 I μ x10 w E1->nT K x0 x6 x7 x10 w E1):IG K x0 x6 x7 x10 w:=⟨I,μ,h0,λσ w hI E hE=>cast kR (hr (σ 10) w hI E hE)⟩
def Qa:Prop:=
 bT .sub 3 12 13 x2 x1 w λa w=>
 bC .sub 3 15 1 a w λb w=>
 bC .quo 3 16 2 b w λc w=>
 IF K x0 x1 (.int .i64 0) a c w
def Mv:=cA3 Tryz.func202 yp.2 Qa
noncomputable def ry:=uD Tryz.f203 (.s .o (.s .o (.s (.s .o (.s .o (.s .o (.b (.l [9] 451 36893488147351995904 (.s .o (.s (.b (.s .o (.x 1987 .o .o))) .o))))))) .o)))
abbrev jw:=aU prog Tryz.f203.results.toList
def IH:Prop:=aE [9] 451 (λE=>cP (pw ry 8 59) E (jw K) (exB 0 (jw K) nX)) (fy 65 963 [x0,x1,x6,x7,x8,x9]) w
def Mw (E1:VP1):KF:=kO 1987 (cP (pw ry 13 6459) (cP (pw ry 10 827) (sE1 E1 9) (jw K) (exB 0 (jw K) nX)) (jw K) (exB 1 (cP (pw ry 10 827) (sE1 E1 9) (jw K) (exB 0 (jw K) nX)) (exB 0 (jw K) nX)))
def yu (K:K1) (E1:VP1) (x0 x1 x6 x7 x8 x9 x10:al) (w:an):Prop:=Mw K E1 (fy 65 1987 [x0,x1,x6,x7,x8,x9,x10]) w
def nU (E1:VP1):Prop:=
 bC .quo 3 28 4 x6 w λa w=>
 bC .mul 3 29 2 a w λb w=>
 bT .add 3 27 30 x1 b w λc w=>
 bC .add 3 31 1 c w λd w=>
 bT .leq 3 26 32 x9 d w λe w=>
 ae e (
 cL 212 (pA #[x7]) w λf w=>
 bU .sub 129 37 .u64 1 x8 w λg w=>
 bT .and 129 36 38 f g w λh w=>
 cV 129 3 h w λi w=>
 bT .geq 3 41 42 i x6 w λj w=>
 ae j (
 bT .sub 3 44 45 i x6 w λl w=>
 yu K E1 x0 x1 x6 x7 x8 x9 l w) (
 yu K E1 x0 x1 x6 x7 x8 x9 i w)) (
 K (.tuple #[]) w)
def yv (I:VP1) (μ:M1) (h0:I x9 w) (hr:∀x9 w,I x9 w->∀E1,Q1 I μ x9 w E1->nU K x0 x1 x6 x7 x8 x9 w E1):IH K x0 x1 x6 x7 x8 x9 w:=⟨I,μ,h0,λσ w hI E hE=>cast kR (hr (σ 9) w hI E hE)⟩
def cz (E1:VP1):Prop:=
 rT .add 3 50 51 x1 x10 w.drew λa=>
 rT .add 3 54 55 x1 x10 w.drew λb=>
 iR 58 x0 b w.drew λc=>
 lR 26 c w.drew λd=>
 iR 58 x0 x9 w.drew λe=>
 lR 26 e w.drew λf=>
 iR 58 x0 x9 w.drew λg=>
 sD 26 g d w.drew λw=>
 (ag prog (aC .add 3 (.tmp 50) (.tmp 51) x1 x10) w a)/\
 iR 58 x0 a w λh=>
 sD 26 h f w λw=>
 bC .add 3 34 1 x9 w λi w=>
 E1 i w
def iO (E1:VP1):yu K E1 x0 x1 x6 x7 x8 x9 x10 w=cz x0 x1 x9 x10 w E1:=aI λσ=>kR
def Qb:Prop:=
 bT .sub 3 11 12 x2 x1 w λa w=>
 bC .geq 3 14 8 a w λb w=>
 ae b (
 cV 3 276 a w λc w=>
 ev prog (Instr.alloc 276 true (.tuple #[])) w λd w=>
 sD 276 d c w λw=>
 cL 211 (pA #[a]) w λe w=>
 bC .quo 3 21 4 a w λf w=>
 bC .mul 3 22 2 f w λg w=>
 bT .add 3 20 23 x1 g w λh w=>
 bC .sub 3 24 1 h w λi w=>
 IH K x0 x1 a d e i w) (
 K (.tuple #[]) w)
def Mx:=cA3 Tryz.func203 ry.2 Qb
noncomputable def FN:=uD Tryz.f204 (.s .o (.s .o (.s .o (.s .o (.s .o (.s .o (.x 2560 (.s .o (.s (.x 7681 .o .o) .o)) .o)))))))
abbrev FO:=aU prog Tryz.f204.results.toList
def uS:KF:=kO 2560 (cP (pw FN 7 127) (FO K) (FO K) nX)
def yw:Prop:=uS K (fy 57 2560 [x9,x11]) w
def My:KF:=kO 7681 (cP (pw FN 10 703) (uS K) (FO K) nX)
def yx:Prop:=My K (fy 57 7681 [x0,x9,x10,x11,x12]) w
def nV (x9 x11:al) (K:K1) (w:an):Prop:=
 lD 3 x9 w λa w=>
 bC .eql 3 49 0 a w λb w=>
 ae b (
 K (.tuple #[x11,(.int .i64 1)]) w) (
 bC .eql 3 49 12 a w λc w=>
 ae c (
 K (.tuple #[x11,(.int .i64 2)]) w) (
 K (.tuple #[x11,(.int .i64 0)]) w))
def rA:yw K x9 x11 w=nV x9 x11 K w:=aI λσ=>kR
def nW:Prop:=
 cL 219 (pA #[x0,x10,x11,x12,x9]) w λa w=>
 yw K x9 a w
def rB:yx K x0 x9 x10 x11 x12 w=nW K x0 x9 x10 x11 x12 w:=aI λσ=>kR
def FP:Prop:=
 bT .sub 3 13 14 x2 x1 w λa w=>
 ev prog (Instr.alloc 3 true (.tuple #[])) w λb w=>
 bC .quo 3 17 4 a w λc w=>
 bC .mul 3 18 1 c w λd w=>
 bT .add 3 16 19 x1 d w λe w=>
 bC .quo 3 22 4 a w λf w=>
 bC .mul 3 23 2 f w λg w=>
 bT .add 3 21 24 x1 g w λh w=>
 bC .quo 3 27 4 a w λi w=>
 bC .mul 3 28 3 i w λj w=>
 bT .add 3 26 29 x1 j w λl w=>
 bC .geq 3 31 8 a w λm w=>
 ae m (
 bC .geq 3 33 50 a w λn w=>
 ae n (
 cL 218 (pA #[x0,e,b]) w λo w=>
 cL 218 (pA #[x0,h,b]) w λp w=>
 cL 218 (pA #[x0,l,b]) w λq w=>
 yx K x0 b o p q w) (
 yx K x0 b e h l w)) (
 yw K b h w)
def uT:=cA3 Tryz.func204 FN.2 FP
noncomputable def Qc:=uD Tryz.f205 (.s .o (.s .o (.b (.l [6,7] 1 4294965440 .o))))
abbrev Qd:=aU prog Tryz.f205.results.toList
def II:Prop:=aE [6,7] 1 (λE=>cP (pw Qc 4 3) E (Qd K) (exB 0 (Qd K) nX)) (fy 32 193 [x0,x6,x7]) w
def uU (E1:VP2):Prop:=
 bT .lss 3 11 12 x6 x7 w λa w=>
 ae a (
 iR 58 x0 x7 w.drew λb=>
 lR 26 b w.drew λc=>
 iR 58 x0 x6 w.drew λd=>
 lR 26 d w.drew λe=>
 iR 58 x0 x6 w.drew λf=>
 sD 26 f c w.drew λw=>
 iR 58 x0 x7 w λg=>
 sD 26 g e w λw=>
 bC .add 3 28 1 x6 w λh w=>
 bC .sub 3 30 1 x7 w λi w=>
 E1 h i w) (
 K (.tuple #[]) w)
def yy (I:VP2) (μ:M2) (h0:I x6 x7 w) (hr:∀x6 x7 w,I x6 x7 w->∀E1,Q2 I μ x6 x7 w E1->uU K x0 x6 x7 w E1):II K x0 x6 x7 w:=⟨I,μ,h0,λσ w hI E hE=>cast kR (hr (σ 6) (σ 7) w hI E hE)⟩
def Qe:Prop:=
 bC .sub 3 9 1 x2 w λa w=>
 II K x0 x1 a w
def Mz:=cA3 Tryz.func205 Qc.2 Qe
noncomputable def iP:=uD Tryz.f206 (.s .o (.s .o (.x 0 (.s .o (.b (.l [7,8] 7 10889035741470030830827987437816582760384 (.s .o (.x 391 (.b (.x 391 (.b (.l [7] 263 34359607424 .o)) (.s .o (.s .o (.s .o (.x 391 (.s .o (.s (.s .o (.b (.l [9] 391 39614081238685424723062424064 .o))) .o)) (.s .o (.s (.s .o (.b (.l [10] 391 10889035738934729630371528634823176356864 .o))) .o)))))))) .o))))) .o)))
abbrev iQ:=aU prog Tryz.f206.results.toList
def dO:KF:=kO 0 (cP (pw iP 3 7) (iQ K) (iQ K) nX)
def IJ:Prop:=dO K (fy 133 0 []) w
def IK:Prop:=aE [7,8] 7 (λE=>cP (pw iP 6 11) E (iQ K) (exB 0 (dO K) nX)) (fy 133 391 [x0,x1,x2,x7,x8]) w
def dw (E1:VP2):KF:=kO 391 (cP (pw iP 8 203) (sE2 E1 7 8) (iQ K) (exB 0 (dO K) nX))
def ms (K:K1) (E1:VP2) (x0 x1 x2 x7 x8:al) (w:an):Prop:=dw K E1 (fy 133 391 [x0,x1,x2,x7,x8]) w
def uV (E1:VP2):KF:=kO 391 (cP (pw iP 10 587) (dw K E1) (iQ K) (exB 1 (dw K E1) (exB 0 (dO K) nX)))
def yz (K:K1) (E1:VP2) (x0 x1 x2 x7 x8:al) (w:an):Prop:=uV K E1 (fy 133 391 [x0,x1,x2,x7,x8]) w
def IL (K:K1) (E1:VP2) (x0 x1 x2 x7 x8:al) (w:an):Prop:=aE [7] 263 (λE=>cP (pw iP 12 75) E (iQ K) (exB 2 (uV K E1) (exB 1 (dw K E1) (exB 0 (dO K) nX)))) (fy 133 391 [x0,x1,x2,x7,x8]) w
def uW (E1:VP2):KF:=kO 391 (cP (pw iP 14 15947) (dw K E1) (iQ K) (exB 1 (dw K E1) (exB 0 (dO K) nX)))
def mt (K:K1) (E1:VP2) (x0 x1 x2 x7 x8:al) (w:an):Prop:=uW K E1 (fy 133 391 [x0,x1,x2,x7,x8]) w
def IM (K:K1) (E1:VP2) (x0 x1 x2 x7 x8 x9:al) (w:an):Prop:=aE [9] 391 (λE=>cP (pw iP 19 89675) E (iQ K) (exB 4 (uW K E1) (exB 1 (dw K E1) (exB 0 (dO K) nX)))) (fy 133 903 [x0,x1,x2,x7,x8,x9]) w
def IN (K:K1) (E1:VP2) (x0 x1 x2 x7 x8 x10:al) (w:an):Prop:=aE [10] 391 (λE=>cP (pw iP 19 97867) E (iQ K) (exB 6 (dw K E1) (exB 1 (dw K E1) (exB 0 (dO K) nX)))) (fy 133 1415 [x0,x1,x2,x7,x8,x10]) w
def uX:Prop:=
 K (.bool false) w
def FQ:IJ K w=uX K w:=aI λσ=>kR
def nY (E1:VP2):Prop:=
 bC .lss 3 13 5 x8 w λa w=>
 ae a (
 IL K E1 x0 x1 x2 x7 x8 w) (
 IJ K w)
def yA (I:VP2) (μ:M2) (h0:I x7 x8 w) (hr:∀x7 x8 w,I x7 x8 w->∀E1,Q2 I μ x7 x8 w E1->nY K x0 x1 x2 x7 x8 w E1):IK K x0 x1 x2 x7 x8 w:=⟨I,μ,h0,λσ w hI E hE=>cast kR (hr (σ 7) (σ 8) w hI E hE)⟩
def uY (E1:VP2):Prop:=
 bC .add 3 15 1 x8 w λa w=>
 E1 x7 a w
def FR (E1:VP2):ms K E1 x0 x1 x2 x7 x8 w=uY x7 x8 w E1:=aI λσ=>kR
def eI (E1:VP2):Prop:=
 bT .eql 3 35 36 x7 x2 w λa w=>
 ae a (
 K (.bool true) w) (
 bT .sub 3 38 39 x2 x1 w λb w=>
 bC .lss 3 40 50 b w λc w=>
 ae c (
 K (.bool false) w) (
 rC .sub 3 45 1 x7 w.drew λd=>
 rC .sub 3 48 1 x7 w.drew λe=>
 iR 58 x0 e w.drew λf=>
 lR 26 f w.drew λg=>
 iR 58 x0 x7 w.drew λh=>
 lR 26 h w.drew λi=>
 iR 58 x0 x7 w.drew λj=>
 sD 26 j g w.drew λw=>
 (ag prog (aC .sub 3 (.tmp 45) (ci 1) x7 (.int .i64 1)) w d)/\
 iR 58 x0 d w λl=>
 sD 26 l i w λw=>
 bT .sub 3 58 59 x7 x1 w λm w=>
 bC .geq 3 60 2 m w λn w=>
 ae n (
 bC .sub 3 62 1 x7 w λo w=>
 IM K E1 x0 x1 x2 x7 x8 o w) (
 mt K E1 x0 x1 x2 x7 x8 w)))
def eJ (E1:VP2):yz K E1 x0 x1 x2 x7 x8 w=eI K x0 x1 x2 x7 x8 w E1:=aI λσ=>kR
def jY (E1:VP2) (E2:VP1):Prop:=
 rT .lss 3 17 18 x7 x2 w.drew λa=>
 gW a true x0 λb=>
 gW a true x7 λc=>
 gI a true 58 b c w.drew λd=>
 gL a true 26 d w.drew λe=>
 gW a true x0 λf=>
 gW a true x7 λg=>
 gdR a true (λk=>rC .sub 3 26 1 g w.drew k) λh=>
 gI a true 58 f h w.drew λi=>
 gL a true 26 i w.drew λj=>
 gC a true 207 (pA #[e,j]) w.drew λl w=>
 gdR a true (λk=>rd prog (Op.unary .not l) w k) λm=>
 bo a m (.bool false) λn=>
 ae n (
 bC .add 3 33 1 x7 w λo w=>
 E2 o w) (
 yz K E1 x0 x1 x2 x7 x8 w)
def yB (E1:VP2) (I:VP1) (μ:M1) (h0:I x7 w) (hr:∀x7 w,I x7 w->∀E2,Q1 I μ x7 w E2->jY K x0 x1 x2 x7 x8 w E1 E2):IL K E1 x0 x1 x2 x7 x8 w:=⟨I,μ,h0,λσ w hI E hE=>cast kR (hr (σ 7) w hI E hE)⟩
def nZ (E1:VP2):Prop:=
 bT .sub 3 95 96 x2 x7 w λa w=>
 bC .geq 3 97 2 a w λb w=>
 ae b (
 bC .add 3 99 1 x7 w λc w=>
 IN K E1 x0 x1 x2 x7 x8 c w) (
 ms K E1 x0 x1 x2 x7 x8 w)
def rD (E1:VP2):mt K E1 x0 x1 x2 x7 x8 w=nZ K x0 x1 x2 x7 x8 w E1:=aI λσ=>kR
def jZ (E1:VP2) (E2:VP1):Prop:=
 bC .geq 3 64 1 x9 w λa w=>
 ae a (
 iR 58 x0 x9 w.drew λb=>
 lR 26 b w.drew λc=>
 rC .sub 3 73 1 x9 w.drew λd=>
 iR 58 x0 d w.drew λe=>
 lR 26 e w.drew λf=>
 cL 207 (pA #[c,f]) w.drew λg w=>
 rd prog (Op.unary .not g) w λh=>
 ae h (
 mt K E1 x0 x1 x2 x7 x8 w) (
 rC .sub 3 82 1 x9 w.drew λi=>
 rC .sub 3 85 1 x9 w.drew λj=>
 iR 58 x0 j w.drew λl=>
 lR 26 l w.drew λm=>
 iR 58 x0 x9 w.drew λn=>
 lR 26 n w.drew λo=>
 iR 58 x0 x9 w.drew λp=>
 sD 26 p m w.drew λw=>
 (ag prog (aC .sub 3 (.tmp 82) (ci 1) x9 (.int .i64 1)) w i)/\
 iR 58 x0 i w λq=>
 sD 26 q o w λw=>
 bC .sub 3 66 1 x9 w λs w=>
 E2 s w)) (
 mt K E1 x0 x1 x2 x7 x8 w)
def yC (E1:VP2) (I:VP1) (μ:M1) (h0:I x9 w) (hr:∀x9 w,I x9 w->∀E2,Q1 I μ x9 w E2->jZ K x0 x1 x2 x7 x8 x9 w E1 E2):IM K E1 x0 x1 x2 x7 x8 x9 w:=⟨I,μ,h0,λσ w hI E hE=>cast kR (hr (σ 9) w hI E hE)⟩
def j7 (E1:VP2) (E2:VP1):Prop:=
 bT .lss 3 101 102 x10 x2 w λa w=>
 ae a (
 iR 58 x0 x10 w.drew λb=>
 lR 26 b w.drew λc=>
 rC .sub 3 111 1 x10 w.drew λd=>
 iR 58 x0 d w.drew λe=>
 lR 26 e w.drew λf=>
 cL 207 (pA #[c,f]) w.drew λg w=>
 rd prog (Op.unary .not g) w λh=>
 ae h (
 ms K E1 x0 x1 x2 x7 x8 w) (
 rC .sub 3 120 1 x10 w.drew λi=>
 rC .sub 3 123 1 x10 w.drew λj=>
 iR 58 x0 j w.drew λl=>
 lR 26 l w.drew λm=>
 iR 58 x0 x10 w.drew λn=>
 lR 26 n w.drew λo=>
 iR 58 x0 x10 w.drew λp=>
 sD 26 p m w.drew λw=>
 (ag prog (aC .sub 3 (.tmp 120) (ci 1) x10 (.int .i64 1)) w i)/\
 iR 58 x0 i w λq=>
 sD 26 q o w λw=>
 bC .add 3 104 1 x10 w λs w=>
 E2 s w)) (
 ms K E1 x0 x1 x2 x7 x8 w)
def yD (E1:VP2) (I:VP1) (μ:M1) (h0:I x10 w) (hr:∀x10 w,I x10 w->∀E2,Q1 I μ x10 w E2->j7 K x0 x1 x2 x7 x8 x10 w E1 E2):IN K E1 x0 x1 x2 x7 x8 x10 w:=⟨I,μ,h0,λσ w hI E hE=>cast kR (hr (σ 10) w hI E hE)⟩
def Qf:Prop:=
 bC .add 3 11 1 x1 w λa w=>
 IK K x0 x1 x2 a (.int .i64 0) w
def MA:=cA3 Tryz.func206 iP.2 Qf
def Qg:Prop:=
 cL 220 (pA #[x0]) w λa w=>
 gV a true x1 w λb w=>
 gC a true 220 (pA #[b]) w λc w=>
 gd a true (λk=>ev prog (Op.unary .not c) w k) w λd w=>
 au a d (.bool false) w λe w=>
 gV e false x0 w λf w=>
 gV e false x1 w λg w=>
 gd e false (λk=>bT .lss 26 13 14 f g w k) w λh w=>
 au e (.bool true) h w λi w=>
 K i w
def MB:=cA2 Tryz.func207 .o Qg
noncomputable def lu:=uD Tryz.f208 (.s .o (.s .o (.s .o (.x 512 (.b (.l [9,10] 3 9671406556917032860780032 (.b (.x 1539 (.b (.l [9] 1027 70368207307264 .o)) (.x 1539 (.b (.l [10] 515 4611615649683211264 .o)) .o))))) .o))))
abbrev lw:=aU prog Tryz.f208.results.toList
def fI:KF:=kO 512 (cP (pw lu 4 15) (lw K) (lw K) nX)
def IP:Prop:=fI K (fy 84 512 [x9]) w
def yE:Prop:=aE [9,10] 3 (λE=>cP (pw lu 6 7) E (lw K) (exB 0 (fI K) nX)) (fy 84 1539 [x0,x1,x9,x10]) w
def uZ (E1:VP2):KF:=kO 1539 (cP (pw lu 8 135) (sE2 E1 9 10) (lw K) (exB 1 (sE2 E1 9 10) (exB 0 (fI K) nX)))
def IQ (K:K1) (E1:VP2) (x0 x1 x9 x10:al) (w:an):Prop:=uZ K E1 (fy 84 1539 [x0,x1,x9,x10]) w
def IR (K:K1) (E1:VP2) (x0 x1 x9 x10:al) (w:an):Prop:=aE [9] 1027 (λE=>cP (pw lu 10 7) E (lw K) (exB 2 (uZ K E1) (exB 1 (sE2 E1 9 10) (exB 0 (fI K) nX)))) (fy 84 1539 [x0,x1,x9,x10]) w
def u5 (E1:VP2):KF:=kO 1539 (cP (pw lu 9 391) (sE2 E1 9 10) (lw K) (exB 1 (sE2 E1 9 10) (exB 0 (fI K) nX)))
def yF (K:K1) (E1:VP2) (x0 x1 x9 x10:al) (w:an):Prop:=u5 K E1 (fy 84 1539 [x0,x1,x9,x10]) w
def yG (K:K1) (E1:VP2) (x0 x1 x9 x10:al) (w:an):Prop:=aE [10] 515 (λE=>cP (pw lu 11 135) E (lw K) (exB 4 (u5 K E1) (exB 1 (sE2 E1 9 10) (exB 0 (fI K) nX)))) (fy 84 1539 [x0,x1,x9,x10]) w
def n8:Prop:=
 K x9 w
def rE:IP K x9 w=n8 K x9 w:=aI λσ=>kR
def u6 (E1:VP2):Prop:=
 IR K E1 x0 x1 x9 x10 w
def yH (I:VP2) (μ:M2) (h0:I x9 x10 w) (hr:∀x9 x10 w,I x9 x10 w->∀E1,Q2 I μ x9 x10 w E1->u6 K x0 x1 x9 x10 w E1):yE K x0 x1 x9 x10 w:=⟨I,μ,h0,λσ w hI E hE=>cast kR (hr (σ 9) (σ 10) w hI E hE)⟩
def eK (E1:VP2):Prop:=
 yG K E1 x0 x1 x9 x10 w
def iS (E1:VP2):IQ K E1 x0 x1 x9 x10 w=eK K x0 x1 x9 x10 w E1:=aI λσ=>kR
def j8 (E1:VP2) (E2:VP1):Prop:=
 rT .leq 3 29 30 x9 x10 w.drew λa=>
 gW a true x0 λb=>
 gW a true x1 λc=>
 gI a true 58 b c w.drew λd=>
 gL a true 26 d w.drew λe=>
 gW a true x0 λf=>
 gW a true x9 λg=>
 gI a true 58 f g w.drew λh=>
 gL a true 26 h w.drew λi=>
 gC a true 207 (pA #[e,i]) w.drew λj w=>
 gdR a true (λk=>rd prog (Op.unary .not j) w k) λl=>
 bo a l (.bool false) λm=>
 ae m (
 bC .add 3 44 1 x9 w λn w=>
 E2 n w) (
 IQ K E1 x0 x1 x9 x10 w)
def yI (E1:VP2) (I:VP1) (μ:M1) (h0:I x9 w) (hr:∀x9 w,I x9 w->∀E2,Q1 I μ x9 w E2->j8 K x0 x1 x9 x10 w E1 E2):IR K E1 x0 x1 x9 x10 w:=⟨I,μ,h0,λσ w hI E hE=>cast kR (hr (σ 9) w hI E hE)⟩
def gZ (E1:VP2):Prop:=
 bT .gtr 3 62 63 x9 x10 w λa w=>
 ae a (
 IP K x9 w) (
 iR 58 x0 x10 w.drew λb=>
 lR 26 b w.drew λc=>
 iR 58 x0 x9 w.drew λd=>
 lR 26 d w.drew λe=>
 iR 58 x0 x9 w.drew λf=>
 sD 26 f c w.drew λw=>
 iR 58 x0 x10 w λg=>
 sD 26 g e w λw=>
 bC .add 3 79 1 x9 w λh w=>
 bC .sub 3 81 1 x10 w λi w=>
 E1 h i w)
def iT (E1:VP2):yF K E1 x0 x1 x9 x10 w=gZ K x0 x9 x10 w E1:=aI λσ=>kR
def hJ (E1:VP2) (E2:VP1):Prop:=
 rT .leq 3 46 47 x9 x10 w.drew λa=>
 gW a true x0 λb=>
 gW a true x1 λc=>
 gI a true 58 b c w.drew λd=>
 gL a true 26 d w.drew λe=>
 gW a true x0 λf=>
 gW a true x10 λg=>
 gI a true 58 f g w.drew λh=>
 gL a true 26 h w.drew λi=>
 gC a true 207 (pA #[e,i]) w.drew λj w=>
 bo a j (.bool false) λl=>
 ae l (
 bC .sub 3 60 1 x10 w λm w=>
 E2 m w) (
 yF K E1 x0 x1 x9 x10 w)
def yJ (E1:VP2) (I:VP1) (μ:M1) (h0:I x10 w) (hr:∀x10 w,I x10 w->∀E2,Q1 I μ x10 w E2->hJ K x0 x1 x9 x10 w E1 E2):yG K E1 x0 x1 x9 x10 w:=⟨I,μ,h0,λσ w hI E hE=>cast kR (hr (σ 10) w hI E hE)⟩
def Qh:Prop:=
 iR 58 x0 x3 w.drew λa=>
 lR 26 a w.drew λb=>
 iR 58 x0 x1 w.drew λc=>
 lR 26 c w.drew λd=>
 iR 58 x0 x1 w.drew λe=>
 sD 26 e b w.drew λw=>
 iR 58 x0 x3 w λf=>
 sD 26 f d w λw=>
 bC .add 3 25 1 x1 w λg w=>
 bC .sub 3 27 1 x2 w λh w=>
 yE K x0 x1 g h w
def MC:=cA4 Tryz.func208 lu.2 Qh
noncomputable def fV:=uD Tryz.f209 (.s .o (.s .o (.s .o (.x 3075 (.b (.l [10] 2051 70367670436864 .o)) (.x 3075 (.b (.l [11] 1027 9223301668110600192 .o)) (.s .o (.s .o (.s .o (.s .o (.x 2051 (.b (.l [10,11] 3 11417981541647678414640987641481260342710373376 (.b (.x 3075 (.b (.l [10] 2051 41537741042978506913543222282159104 .o)) (.x 3075 (.b (.l [11] 1027 5444476332360147136792965474937657624576 .o)) .o))))) .o))))))))))
abbrev eL:=aU prog Tryz.f209.results.toList
def u7:KF:=kO 3075 (cP (pw fV 4 15) (eL K) (eL K) nX)
def IS:Prop:=u7 K (fy 168 3075 [x0,x1,x10,x11]) w
def IT:Prop:=aE [10] 2051 (λE=>cP (pw fV 6 7) E (eL K) (exB 0 (u7 K) nX)) (fy 168 3075 [x0,x1,x10,x11]) w
def u9:KF:=kO 3075 (cP (pw fV 5 31) (eL K) (eL K) nX)
def yK:Prop:=u9 K (fy 168 3075 [x0,x1,x10,x11]) w
def yL:Prop:=aE [11] 1027 (λE=>cP (pw fV 7 15) E (eL K) (exB 2 (u9 K) nX)) (fy 168 3075 [x0,x1,x10,x11]) w
def fJ:KF:=kO 2051 (cP (pw fV 10 1023) (eL K) (eL K) nX)
def IU:Prop:=fJ K (fy 168 2051 [x0,x1,x11]) w
def yM:Prop:=aE [10,11] 3 (λE=>cP (pw fV 12 511) E (eL K) (exB 4 (fJ K) nX)) (fy 168 3075 [x0,x1,x10,x11]) w
def vd (E1:VP2):KF:=kO 3075 (cP (pw fV 14 8703) (sE2 E1 10 11) (eL K) (exB 5 (sE2 E1 10 11) (exB 4 (fJ K) nX)))
def IV (K:K1) (E1:VP2) (x0 x1 x10 x11:al) (w:an):Prop:=vd K E1 (fy 168 3075 [x0,x1,x10,x11]) w
def IW (K:K1) (E1:VP2) (x0 x1 x10 x11:al) (w:an):Prop:=aE [10] 2051 (λE=>cP (pw fV 16 511) E (eL K) (exB 6 (vd K E1) (exB 5 (sE2 E1 10 11) (exB 4 (fJ K) nX)))) (fy 168 3075 [x0,x1,x10,x11]) w
def ve (E1:VP2):KF:=kO 3075 (cP (pw fV 15 25087) (sE2 E1 10 11) (eL K) (exB 5 (sE2 E1 10 11) (exB 4 (fJ K) nX)))
def yN (K:K1) (E1:VP2) (x0 x1 x10 x11:al) (w:an):Prop:=ve K E1 (fy 168 3075 [x0,x1,x10,x11]) w
def yO (K:K1) (E1:VP2) (x0 x1 x10 x11:al) (w:an):Prop:=aE [11] 1027 (λE=>cP (pw fV 17 8703) E (eL K) (exB 8 (ve K E1) (exB 5 (sE2 E1 10 11) (exB 4 (fJ K) nX)))) (fy 168 3075 [x0,x1,x10,x11]) w
def eM:Prop:=
 yL K x0 x1 x10 x11 w
def iU:IS K x0 x1 x10 x11 w=eM K x0 x1 x10 x11 w:=aI λσ=>kR
def j9 (E1:VP1):Prop:=
 rT .leq 3 30 31 x10 x11 w.drew λa=>
 gW a true x0 λb=>
 gW a true x10 λc=>
 gI a true 58 b c w.drew λd=>
 gL a true 26 d w.drew λe=>
 gW a true x0 λf=>
 gW a true x1 λg=>
 gI a true 58 f g w.drew λh=>
 gL a true 26 h w.drew λi=>
 gC a true 207 (pA #[e,i]) w.drew λj w=>
 bo a j (.bool false) λl=>
 ae l (
 bC .add 3 44 1 x10 w λm w=>
 E1 m w) (
 IS K x0 x1 x10 x11 w)
def yP (I:VP1) (μ:M1) (h0:I x10 w) (hr:∀x10 w,I x10 w->∀E1,Q1 I μ x10 w E1->j9 K x0 x1 x10 x11 w E1):IT K x0 x1 x10 x11 w:=⟨I,μ,h0,λσ w hI E hE=>cast kR (hr (σ 10) w hI E hE)⟩
def hP:Prop:=
 bT .gtr 3 63 64 x10 x11 w λa w=>
 ae a (
 iR 58 x0 x1 w.drew λb=>
 lR 26 b w.drew λc=>
 iR 58 x0 x11 w.drew λd=>
 lR 26 d w.drew λe=>
 iR 58 x0 x11 w.drew λf=>
 sD 26 f c w.drew λw=>
 iR 58 x0 x1 w λg=>
 sD 26 g e w λw=>
 K (.tuple #[x11,(.bool true)]) w) (
 iR 58 x0 x11 w.drew λh=>
 lR 26 h w.drew λi=>
 iR 58 x0 x10 w.drew λj=>
 lR 26 j w.drew λl=>
 iR 58 x0 x10 w.drew λm=>
 sD 26 m i w.drew λw=>
 iR 58 x0 x11 w λn=>
 sD 26 n l w λw=>
 bC .add 3 95 1 x10 w λo w=>
 bC .sub 3 97 1 x11 w λp w=>
 yM K x0 x1 o p w)
def iV:yK K x0 x1 x10 x11 w=hP K x0 x1 x10 x11 w:=aI λσ=>kR
def hQ (E1:VP1):Prop:=
 rT .leq 3 46 47 x10 x11 w.drew λa=>
 gW a true x0 λb=>
 gW a true x11 λc=>
 gI a true 58 b c w.drew λd=>
 gL a true 26 d w.drew λe=>
 gW a true x0 λf=>
 gW a true x1 λg=>
 gI a true 58 f g w.drew λh=>
 gL a true 26 h w.drew λi=>
 gC a true 207 (pA #[e,i]) w.drew λj w=>
 gdR a true (λk=>rd prog (Op.unary .not j) w k) λl=>
 bo a l (.bool false) λm=>
 ae m (
 bC .sub 3 61 1 x11 w λn w=>
 E1 n w) (
 yK K x0 x1 x10 x11 w)
def yQ (I:VP1) (μ:M1) (h0:I x11 w) (hr:∀x11 w,I x11 w->∀E1,Q1 I μ x11 w E1->hQ K x0 x1 x10 x11 w E1):yL K x0 x1 x10 x11 w:=⟨I,μ,h0,λσ w hI E hE=>cast kR (hr (σ 11) w hI E hE)⟩
def n9:Prop:=
 iR 58 x0 x1 w.drew λa=>
 lR 26 a w.drew λb=>
 iR 58 x0 x11 w.drew λc=>
 lR 26 c w.drew λd=>
 iR 58 x0 x11 w.drew λe=>
 sD 26 e b w.drew λw=>
 iR 58 x0 x1 w λf=>
 sD 26 f d w λw=>
 K (.tuple #[x11,(.bool false)]) w
def rF:IU K x0 x1 x11 w=n9 K x0 x1 x11 w:=aI λσ=>kR
def vf (E1:VP2):Prop:=
 IW K E1 x0 x1 x10 x11 w
def yR (I:VP2) (μ:M2) (h0:I x10 x11 w) (hr:∀x10 x11 w,I x10 x11 w->∀E1,Q2 I μ x10 x11 w E1->vf K x0 x1 x10 x11 w E1):yM K x0 x1 x10 x11 w:=⟨I,μ,h0,λσ w hI E hE=>cast kR (hr (σ 10) (σ 11) w hI E hE)⟩
def eO (E1:VP2):Prop:=
 yO K E1 x0 x1 x10 x11 w
def iW (E1:VP2):IV K E1 x0 x1 x10 x11 w=eO K x0 x1 x10 x11 w E1:=aI λσ=>kR
def ke (E1:VP2) (E2:VP1):Prop:=
 rT .leq 3 99 100 x10 x11 w.drew λa=>
 gW a true x0 λb=>
 gW a true x10 λc=>
 gI a true 58 b c w.drew λd=>
 gL a true 26 d w.drew λe=>
 gW a true x0 λf=>
 gW a true x1 λg=>
 gI a true 58 f g w.drew λh=>
 gL a true 26 h w.drew λi=>
 gC a true 207 (pA #[e,i]) w.drew λj w=>
 bo a j (.bool false) λl=>
 ae l (
 bC .add 3 113 1 x10 w λm w=>
 E2 m w) (
 IV K E1 x0 x1 x10 x11 w)
def yS (E1:VP2) (I:VP1) (μ:M1) (h0:I x10 w) (hr:∀x10 w,I x10 w->∀E2,Q1 I μ x10 w E2->ke K x0 x1 x10 x11 w E1 E2):IW K E1 x0 x1 x10 x11 w:=⟨I,μ,h0,λσ w hI E hE=>cast kR (hr (σ 10) w hI E hE)⟩
def hU (E1:VP2):Prop:=
 bT .gtr 3 132 133 x10 x11 w λa w=>
 ae a (
 IU K x0 x1 x11 w) (
 iR 58 x0 x11 w.drew λb=>
 lR 26 b w.drew λc=>
 iR 58 x0 x10 w.drew λd=>
 lR 26 d w.drew λe=>
 iR 58 x0 x10 w.drew λf=>
 sD 26 f c w.drew λw=>
 iR 58 x0 x11 w λg=>
 sD 26 g e w λw=>
 bC .add 3 149 1 x10 w λh w=>
 bC .sub 3 151 1 x11 w λi w=>
 E1 h i w)
def iX (E1:VP2):yN K E1 x0 x1 x10 x11 w=hU K x0 x1 x10 x11 w E1:=aI λσ=>kR
def ia (E1:VP2) (E2:VP1):Prop:=
 rT .leq 3 115 116 x10 x11 w.drew λa=>
 gW a true x0 λb=>
 gW a true x11 λc=>
 gI a true 58 b c w.drew λd=>
 gL a true 26 d w.drew λe=>
 gW a true x0 λf=>
 gW a true x1 λg=>
 gI a true 58 f g w.drew λh=>
 gL a true 26 h w.drew λi=>
 gC a true 207 (pA #[e,i]) w.drew λj w=>
 gdR a true (λk=>rd prog (Op.unary .not j) w k) λl=>
 bo a l (.bool false) λm=>
 ae m (
 bC .sub 3 130 1 x11 w λn w=>
 E2 n w) (
 yN K E1 x0 x1 x10 x11 w)
def yT (E1:VP2) (I:VP1) (μ:M1) (h0:I x11 w) (hr:∀x11 w,I x11 w->∀E2,Q1 I μ x11 w E2->ia K x0 x1 x10 x11 w E1 E2):yO K E1 x0 x1 x10 x11 w:=⟨I,μ,h0,λσ w hI E hE=>cast kR (hr (σ 11) w hI E hE)⟩
def Qi:Prop:=
 iR 58 x0 x3 w.drew λa=>
 lR 26 a w.drew λb=>
 iR 58 x0 x1 w.drew λc=>
 lR 26 c w.drew λd=>
 iR 58 x0 x1 w.drew λe=>
 sD 26 e b w.drew λw=>
 iR 58 x0 x3 w λf=>
 sD 26 f d w λw=>
 bC .add 3 26 1 x1 w λg w=>
 bC .sub 3 28 1 x2 w λh w=>
 IT K x0 x1 g h w
def MD:=cA4 Tryz.func209 fV.2 Qi
def Qj:Prop:=
 cV 3 129 x0 w λa w=>
 cL 180 (pA #[a]) w λb w=>
 bM .shl 129 (cu .u64 1) (.tmp 5) (.int .u64 ((1:Nat):Int)) b w λc w=>
 K c w
def ME:=cA1 Tryz.func211 .o Qj
def Qk:Prop:=
 nR x0 w.drew λa=>
 lR 276 a w.drew λb=>
 nR x0 w.drew λc=>
 lR 276 c w.drew λd=>
 rU .shl 276 8 .u64 13 d w.drew λe=>
 rT .xor 276 5 9 b e w.drew λf=>
 nR x0 w.drew λg=>
 sD 276 g f w.drew λw=>
 nR x0 w.drew λh=>
 lR 276 h w.drew λi=>
 nR x0 w.drew λj=>
 lR 276 j w.drew λl=>
 rU .shr 276 17 .u64 7 l w.drew λm=>
 rT .xor 276 14 18 i m w.drew λn=>
 nR x0 w.drew λo=>
 sD 276 o n w.drew λw=>
 nR x0 w.drew λp=>
 lR 276 p w.drew λq=>
 nR x0 w.drew λs=>
 lR 276 s w.drew λt=>
 rU .shl 276 26 .u64 17 t w.drew λv=>
 rT .xor 276 23 27 q v w.drew λy=>
 nR x0 w.drew λz=>
 sD 276 z y w.drew λw=>
 nS x0 w λa0 w=>
 lD 276 a0 w λa1 w=>
 K a1 w
def MF:=cA1 Tryz.func212 .o Qk
noncomputable def FT:=uD Tryz.f217 (.s .o (.b (.l [8] 13 75557863725914323417856 (.b (.s .o (.s .o (.x 781 .o .o)))))))
abbrev yU:=aU prog Tryz.f217.results.toList
def IX:Prop:=aE [8] 13 (λE=>cP (pw FT 3 1) E (yU K) (exB 0 (yU K) nX)) (fy 76 269 [x0,x2,x3,x8]) w
def MG (E1:VP1):KF:=kO 781 (cP (pw FT 7 113) (sE1 E1 8) (yU K) (exB 1 (sE1 E1 8) (exB 0 (yU K) nX)))
def yV (K:K1) (E1:VP1) (x0 x2 x3 x8 x9:al) (w:an):Prop:=MG K E1 (fy 76 781 [x0,x2,x3,x8,x9]) w
def dP (E1:VP1):Prop:=
 bM .mul 3 (ci 2) (.tmp 11) (.int .i64 2) x8 w λa w=>
 bC .add 3 12 1 a w λb w=>
 bT .geq 3 14 15 b x2 w λc w=>
 ae c (
 K (.tuple #[]) w) (
 rC .add 3 17 1 b w.drew λd=>
 rT .lss 3 18 19 d x2 w.drew λe=>
 gW e true x0 λf=>
 gW e true x3 λg=>
 gW e true b λh=>
 gdR e true (λk=>rT .add 3 23 24 g h w.drew k) λi=>
 gI e true 58 f i w.drew λj=>
 gL e true 26 j w.drew λl=>
 gW e true x0 λm=>
 gW e true x3 λn=>
 gW e true b λo=>
 gdR e true (λk=>rT .add 3 29 30 n o w.drew k) λp=>
 gdR e true (λk=>rC .add 3 31 1 p w.drew k) λq=>
 gI e true 58 m q w.drew λs=>
 gL e true 26 s w.drew λt=>
 gC e true 207 (pA #[l,t]) w.drew λv w=>
 bo e v (.bool false) λy=>
 ae y (
 bC .add 3 37 1 b w λz w=>
 yV K E1 x0 x2 x3 x8 z w) (
 yV K E1 x0 x2 x3 x8 b w))
def yW (I:VP1) (μ:M1) (h0:I x8 w) (hr:∀x8 w,I x8 w->∀E1,Q1 I μ x8 w E1->dP K x0 x2 x3 x8 w E1):IX K x0 x2 x3 x8 w:=⟨I,μ,h0,λσ w hI E hE=>cast kR (hr (σ 8) w hI E hE)⟩
def aN (E1:VP1):Prop:=
 rT .add 3 40 41 x3 x8 w.drew λa=>
 iR 58 x0 a w.drew λb=>
 lR 26 b w.drew λc=>
 rT .add 3 46 47 x3 x9 w.drew λd=>
 iR 58 x0 d w.drew λe=>
 lR 26 e w.drew λf=>
 cL 207 (pA #[c,f]) w.drew λg w=>
 rd prog (Op.unary .not g) w λh=>
 ae h (
 K (.tuple #[]) w) (
 rT .add 3 54 55 x3 x8 w.drew λi=>
 rT .add 3 58 59 x3 x9 w.drew λj=>
 rT .add 3 62 63 x3 x9 w.drew λl=>
 iR 58 x0 l w.drew λm=>
 lR 26 m w.drew λn=>
 rT .add 3 68 69 x3 x8 w.drew λo=>
 iR 58 x0 o w.drew λp=>
 lR 26 p w.drew λq=>
 iR 58 x0 i w.drew λs=>
 sD 26 s n w.drew λw=>
 (ag prog (aC .add 3 (.tmp 58) (.tmp 59) x3 x9) w j)/\
 iR 58 x0 j w λt=>
 sD 26 t q w λw=>
 E1 x9 w)
def bI (E1:VP1):yV K E1 x0 x2 x3 x8 x9 w=aN K x0 x3 x8 x9 w E1:=aI λσ=>kR
def Ql:Prop:=
 IX K x0 x2 x3 x1 w
def MH:=cA4 Tryz.func217 FT.2 Ql
def Qm:Prop:=
 bC .sub 3 8 1 x1 w λa w=>
 bC .add 3 11 1 x1 w λb w=>
 cL 219 (pA #[x0,a,x1,b,x2]) w λc w=>
 K c w
def MI:=cA3 Tryz.func218 .o Qm
def Qn:Prop:=
 cL 222 (pA #[x0,x1,x2,x4]) w λa w=>
 eX a 0 w λb w=>
 eX a 1 w λc w=>
 cL 222 (pA #[x0,c,x3,x4]) w λd w=>
 eX d 0 w λe w=>
 eX d 1 w λf w=>
 cL 222 (pA #[x0,b,e,x4]) w λg w=>
 eX g 0 w λh w=>
 eX g 1 w λi w=>
 K i w
def MJ:=cA5 Tryz.func219 .o Qn
def Qo:Prop:=
 bT .neq 26 3 4 x0 x0 w λa w=>
 K a w
def MK:=cA1 Tryz.func220 .o Qo
def Qp:Prop:=
 iR 58 x0 x2 w.drew λa=>
 lR 26 a w.drew λb=>
 iR 58 x0 x1 w.drew λc=>
 lR 26 c w.drew λd=>
 cL 207 (pA #[b,d]) w.drew λe w=>
 ae e (
 nS x3 w λf w=>
 lD 3 f w λg w=>
 bC .add 3 21 1 g w λh w=>
 nS x3 w λi w=>
 sD 3 i h w λw=>
 K (.tuple #[x2,x1]) w) (
 K (.tuple #[x1,x2]) w)
def ML:=cA4 Tryz.func222 .o Qp
end
end Go.Proofs.YtmpehclnnjgmcaaGreatDoor
namespace Go.Sh
open Go
def rG {P:Program}:∀(n k:Nat) (m:Machine) (o:Outcome) (w:an),runN P n m= .ended o w->runN P (n+k) m= .ended o w:=by
 intro n k m o w h;rw [runN_add,h]
def rH {P:Program} {f:FuncId} {args:Array al} {w:an} {K:K1} (h:ad P f args w K) (hi:P.inits.idxOf? f=none):∃n v w',runN P n (lone (Frame.enter P f args .normal) [] w)= .ended (.done v) w'/\K v w':=by
 refine Calls.done (R:=K) (Calls.mono h ?_) hi;intro e w' hr
 cases e<;>exact hr
def ao {P:Program} {f:FuncId} {args:Array al} {w w0:an} {v0:al} (hi:P.inits.idxOf? f=none) (h:ad P f args w (λv w'=>v=v0/\w'=w0)) (K:K1):ad P f args w K=K v0 w0:=by
 apply propext;constructor
 ·intro h';obtain ⟨n,v,w',hr,rfl,rfl⟩:=rH h hi;obtain ⟨n',v',w'',d,hk⟩:=rH h' hi;have e1:=rG n n' _ _ _ hr;have e2:=rG n' n _ _ _ d;rw [Nat.add_comm n' n,e1] at e2;injection e2 with a b;injection a with a;subst a;subst b;exact hk
 ·intro hk;refine Calls.mono h ?_;intro e w' hr
  cases e with
  |returned v=>obtain ⟨rfl,rfl⟩:=hr;exact hk
  |panicked c=>exact hr.elim
  |outgrown=>exact hr.elim
def Ext (w w':an):Prop:=Go.RowKit.Below w.heap.size w w'
def Ext.refl (w:an):Ext w w:=Go.RowKit.Below.refl _ _
def Ext.size {w w':an} (h:Ext w w'):w.heap.size<=w'.heap.size:=Go.RowKit.Below.size h
def Ext.blk {w w':an} (h:Ext w w') (b:Nat) (hb:b<w.heap.size):w'.heap[b]? =w.heap[b]? :=Go.RowKit.Below.block h b hb
def Ext.trans {a b c:an} (h:Ext a b) (k:Ext b c):Ext a c:=Go.RowKit.Below.trans h (Go.RowKit.Below.mono k h.size)
def Ext.alloc {a w:an} (h:Ext a w) (o:Obj):Ext a (w.alloc o):=Go.RowKit.Below.alloc h h.size o
def Ext.drew {a w:an} (h:Ext a w):Ext a w.drew:=Go.RowKit.Below.drew h
def Ext.setCell {a w:an} (h:Ext a w) {p:Addr} (hp:a.heap.size<=p.block) (u:al):Ext a (w.setCell p u):=Go.RowKit.Below.setCell h hp u
def Ext.cell {w w':an} (h:Ext w w') (b o:Nat) (hb:b<w.heap.size):w'.cell? ⟨b,o,none⟩=w.cell? ⟨b,o,none⟩:=Go.RowKit.Below.cell (p:=⟨b,o,none⟩) h hb
def Ext.alloc_self (w:an) (o:Obj):Ext w (w.alloc o):=(Ext.refl w).alloc o
def ay {w:an} {b o:Nat} {v:al} (h:w.cell? ⟨b,o,none⟩=some v):b<w.heap.size:=World.block_lt_of_cell? (a:=⟨b,o,none⟩) w h
def Ext.cell_some {w w':an} (h:Ext w w') {b o:Nat} {v:al} (hc:w.cell? ⟨b,o,none⟩=some v):w'.cell? ⟨b,o,none⟩=some v:=by
 rw [h.cell b o (ay hc)];exact hc
def Ext.heap_some {w w':an} (h:Ext w w') {b:Nat} {o:Obj} (hc:w.heap[b]? =some o):w'.heap[b]? =some o:=by
 have hb:b<w.heap.size:=by
  rcases co b w.heap.size with h|h
  ·exact h
  ·rw [c5 h] at hc;cases hc
 rw [h.blk b hb];exact hc
def aO (w:an) (c:Array al) (t:TypeId) (b i:Nat) (h:b=w.heap.size):(w.alloc (.cells c t)).cell? ⟨b,i,none⟩=c[i]? :=by subst h;exact World.cell?_alloc_new w c t i
def fW (w:an) (o:Obj) (b i:Nat) (h:b<w.heap.size):(w.alloc o).cell? ⟨b,i,none⟩=w.cell? ⟨b,i,none⟩:=World.cell?_alloc_lt (w:=w) (a:=⟨b,i,none⟩) (o:=o) h
def kf (w:an) (a:Addr):w.drew.cell? a=w.cell? a:=rfl
def FU (w:an) (c:Array al) (t:TypeId) (b i:Nat) (h:b=w.heap.size):(w.alloc (.cells c t)).frozen? ⟨b,i,none⟩=false:=by subst h;exact World.frozen?_alloc_new w c t i
def FV (w:an) (o:Obj) (b i:Nat) (h:b<w.heap.size):(w.alloc o).frozen? ⟨b,i,none⟩=w.frozen? ⟨b,i,none⟩:=World.frozen?_alloc_old (w:=w) (a:=⟨b,i,none⟩) (o:=o) (Nat.ne_of_lt h)
def BP (w:an) (a:Addr):w.drew.frozen? a=w.frozen? a:=rfl
def Xe (w:an) (c:Array al) (t:TypeId) (b i:Nat) (v:al) (h:b=w.heap.size):(w.alloc (.cells c t)).setCell ⟨b,i,none⟩ v=w.alloc (.cells (c.setIfInBounds i v) t):=by subst h;exact World.setCell_alloc_new (w:=w) c t i v
def Xf (w:an) (o:Obj) (b i:Nat) (v:al) (h:b<w.heap.size):(w.alloc o).setCell ⟨b,i,none⟩ v=(w.setCell ⟨b,i,none⟩ v).alloc o:=World.setCell_alloc_past (w:=w) o b i v h
def Qq (w:an) (a:Addr) (v:al):w.drew.setCell a v=(w.setCell a v).drew:=rfl
def FX (w:an) (o:Obj):w.drew.alloc o=(w.alloc o).drew:=rfl
def oa (w:an):w.drew.heap.size=w.heap.size:=rfl
def size_alloc (w:an) (o:Obj):(w.alloc o).heap.size=w.heap.size+1:=World.size_alloc w o
def fX (w:an) (a:Addr) (v:al):(w.setCell a v).heap.size=w.heap.size:=World.size_setCell w a v
def ads (a:al) (l:List al):(a::l).toArray[0]? =some a:=rfl
def adt (a b:al) (l:List al):(a::b::l).toArray[1]? =some b:=rfl
def adu (a b c:al) (l:List al):(a::b::c::l).toArray[2]? =some c:=rfl
def adv (a b c d:al) (l:List al):(a::b::c::d::l).toArray[3]? =some d:=rfl
def adw (a b c d e:al) (l:List al):(a::b::c::d::e::l).toArray[4]? =some e:=rfl
def ab5 (a v:al) (l:List al):(a::l).toArray.setIfInBounds 0 v=(v::l).toArray:=by simp
def ab6 (a b v:al) (l:List al):(a::b::l).toArray.setIfInBounds 1 v=(a::v::l).toArray:=by simp
def ab7 (a b c v:al) (l:List al):(a::b::c::l).toArray.setIfInBounds 2 v=(a::b::v::l).toArray:=by simp
def ab8 (a b c d v:al) (l:List al):(a::b::c::d::l).toArray.setIfInBounds 3 v=(a::b::c::v::l).toArray:=by simp
def ab9 (a b c d e v:al) (l:List al):(a::b::c::d::e::l).toArray.setIfInBounds 4 v=(a::b::c::d::v::l).toArray:=by simp
def BQ (n:Nat):Nat.beq n n=true:=Nat.beq_refl n
def yX (w:an) (b o:Nat):fQ w b o []=w:=rfl
def uq (w:an) (b o:Nat) (v:al) (l:List al):fQ w b o (v::l)=fQ (w.setCell ⟨b,o,none⟩ v) b (o+1) l:=rfl
def FY:bX []=true:=rfl
def BR (v:al) (l:List al) (h:aj v=true):bX (v::l)=bX l:=by simp [bX,h]
def yY (w:an) (b o:Nat):dn w b o 0=true:=rfl
def yZ (w:an) (b o n:Nat):dn w b o (n+1)=((w.cell? ⟨b,o,none⟩).isSome&&(!w.frozen? ⟨b,o,none⟩&&dn w b (o+1) n)):=rfl
def YZ (x:Option al) (y:Option (List al)):Option (List al):=
 match x,y with
 |some v,some l=>some (v::l)
 |_,_=>none
def FZ (v:al) (l:List al):YZ (some v) (some l)=some (v::l):=rfl
def rI (w:an) (b o n:Nat):aP w b o (n+1)=YZ (w.cell? ⟨b,o,none⟩) (aP w b (o+1) n):=by
 conv=>lhs;unfold aP
 cases w.cell? ⟨b,o,none⟩<;>cases aP w b (o+1) n<;>rfl
set_option linter.defProp false in
def RZ:=ab oa<|ab size_alloc fX
def zu8:Value.int .u8 0=Value.int .u8 ((0:Nat):Int):=rfl
def adx:Value.int .u16 0=Value.int .u16 ((0:Nat):Int):=rfl
def ady:Value.int .u32 0=Value.int .u32 ((0:Nat):Int):=rfl
def adz:Value.int .u64 0=Value.int .u64 ((0:Nat):Int):=rfl
def rJ:(false=true)=False:=by simp
def rK:(true=false)=False:=by simp
set_option linter.defProp false in
def RI:=ab rJ<|ab rK<|ab true_and<|ab and_true<|ab false_and and_false
set_option linter.defProp false in
def RS:=ab zu8<|ab adx<|ab ady<|ab adz<|ab yX<|ab uq<|ab FY<|ab BR<|ab yY<|ab yZ<|ab FZ<|ab rn<|ab rI<|ab (@Option.isSome_some al)<|ab BQ<|ab (@cm al) (@cF al)
set_option linter.defProp false in
def RW:=ab aO<|ab fW<|ab kf<|ab FU<|ab FV<|ab BP<|ab Xe<|ab Xf<|ab Qq<|ab FX<|
 ab oa<|ab size_alloc<|ab fX<|ab ads<|ab adt<|ab adu<|ab adv<|ab adw<|ab ab5<|ab ab6<|ab ab7<|ab ab8 ab9
def pnd (p:Prop):Prop:=p
def hld (p:Prop):Prop:=p
def aaH (p:Prop):pnd p=hld p:=rfl
inductive Dep (A B:Prop):Type
 |mk
def brS (p A B:Prop) (_:Dep A B:= .mk):Prop:=(p->A)/\(¬p->B)
def y4 {p A B:Prop} (h1:p->A) (h2:¬p->B):brS (hld p) A B:=⟨h1,h2⟩
def Qr (A B:Prop):brS (hld True) A B=A:=by unfold brS hld;simp
def MM (A B:Prop):brS (hld False) A B=B:=by unfold brS hld;simp
def Xg (p A B:Prop):brS (hld (¬p)) A B=brS (pnd p) B A:=by
 unfold brS hld pnd;by_cases h:p<;>simp [h]
def aaI (b:Bool) (A B:Prop):ae (.bool b) A B=brS (pnd (b=true)) A B:=by
 unfold brS pnd;cases b<;>simp [ae]
def Xh (c:Bool) (a b:al) (w:an) (k:K1):au (.bool c) a b w k=brS (pnd (c=true)) (k a w) (k b w):=by
 unfold brS pnd;cases c<;>simp [au]
def Qs (c:Bool) (a b:al) (k:al->Prop):bo (.bool c) a b k=brS (pnd (c=true)) (k a) (k b):=by
 unfold brS pnd;cases c<;>simp [bo]
def aaJ (c:Bool) (y:K1->Prop) (w:an) (k:K1):gd (.bool c) true y w k=brS (pnd (c=true)) (y k) (k undef w):=by
 unfold brS pnd;cases c<;>simp [YQ,YT]
def aaK (c:Bool) (y:K1->Prop) (w:an) (k:K1):gd (.bool c) false y w k=brS (pnd (c=true)) (k undef w) (y k):=by
 unfold brS pnd;cases c<;>simp [YR,YS]
def Xi (c:Bool) (y:(al->Prop)->Prop) (k:al->Prop):gdR (.bool c) true y k=brS (pnd (c=true)) (y k) (k undef):=by
 unfold brS pnd;cases c<;>simp [PO,PR]
def Xj (c:Bool) (y:(al->Prop)->Prop) (k:al->Prop):gdR (.bool c) false y k=brS (pnd (c=true)) (k undef) (y k):=by
 unfold brS pnd;cases c<;>simp [PP,PQ]
def aaL (c:Bool) (A:Prop):gq (.bool c) true A=brS (pnd (c=true)) A True:=by
 unfold brS pnd;cases c<;>simp [YU,YX]
def aaM (c:Bool) (A:Prop):gq (.bool c) false A=brS (pnd (c=true)) True A:=by
 unfold brS pnd;cases c<;>simp [YV,YW]
def adA (b:Bool) (y:K1->Prop) (w:an) (k:K1):gd undef b y w k=k undef w:=rfl
def aca (b:Bool) (y:(al->Prop)->Prop) (k:al->Prop):gdR undef b y k=k undef:=rfl
def adB (b:Bool) (A:Prop):gq undef b A=True:=rfl
def Xk (p:Prop) [Decidable p]:(decide p=true)=p:=by simp
def Xl (b:Bool):((!b)=true)=¬(b=true):=by cases b<;>simp
def Qt:(true=true)=True:=by simp
def acb:(¬True)=False:=by simp
def acd:(¬False)=True:=by simp
set_option linter.defProp false in
def RBp:=ab adA<|ab aca<|ab adB<|ab aaI<|ab Xh<|ab Qs<|ab aaJ<|ab aaK<|ab Xi<|ab Xj<|ab aaL aaM
set_option linter.defProp false in
def RBr:=ab aaH<|ab rJ<|ab rK<|ab Qr<|ab MM<|ab Xg<|ab @Xk<|ab Xl<|ab Qt<|ab acb acd
set_option linter.defProp false in
def RX:=ab RBr<|ab RW RS
def Ext.setB {a w:an} (h:Ext a w) {b i:Nat} (hb:a.heap.size<=b) (u:al):Ext a (w.setCell ⟨b,i,none⟩ u):=h.setCell hb u
def bg {w:an} {b:Nat} (o:Obj) (h:b<w.heap.size):(w.alloc o).heap[b]? =w.heap[b]? :=by
 show (w.heap.push o)[b]? =_;rw [c8,if_neg (by omega)]
def aL (w:an) (o:Obj):(w.alloc o).heap[w.heap.size]? =some o:=by
 show (w.heap.push o)[w.heap.size]? =_;rw [c8,if_pos rfl]
def ff {w:an} {b:Nat} {a:Addr} (v:al) (h:b≠a.block):(w.setCell a v).heap[b]? =w.heap[b]? :=by
 simp only [World.setCell,c6];rw [if_neg (by omega)]
def aF {w:an} {b:Nat} {o:Obj} (h:w.heap[b]? =some o):b<w.heap.size:=by
 rcases co b w.heap.size with h'|h'
 ·exact h'
 ·rw [c5 h'] at h;cases h
structure Frm (F:Nat->Prop) (w w':an):Prop where
 os:w'.os=w.os
 tape:w'.tape=w.tape
 output:w'.output=w.output
 size:w.heap.size<=w'.heap.size
 block:∀k,k<w.heap.size->¬F k->w'.heap[k]? =w.heap[k]?
def Frm.refl (F:Nat->Prop) (w:an):Frm F w w:=⟨rfl,rfl,rfl,c9 _,λ_ _ _=>rfl⟩
def Frm.of_ext {F:Nat->Prop} {w w':an} (h:Ext w w'):Frm F w w':=⟨h.os,h.tape,h.output,Ext.size h,λk hk _=>Ext.blk h k hk⟩
def Frm.to_ext {w w':an} {F:Nat->Prop} (h:Frm F w w') (hF:∀b,b<w.heap.size->¬F b):Ext w w':=⟨h.os,h.tape,h.output,h.size,λk hk=>h.block k hk (hF k hk)⟩
def Frm.mono {F G:Nat->Prop} {w w':an} (h:Frm F w w') (hG:∀b,F b->G b):Frm G w w':=⟨h.os,h.tape,h.output,h.size,λk hk hn=>h.block k hk (λhf=>hn (hG k hf))⟩
def Frm.trans {F G:Nat->Prop} {a b c:an} (h:Frm F a b) (k:Frm G b c) (hG:∀x,x<a.heap.size->G x->F x):Frm F a c:=
 ⟨k.os.trans h.os,k.tape.trans h.tape,k.output.trans h.output,d4 h.size k.size,
  λx hx hn=>(k.block x (Nat.lt_of_lt_of_le hx h.size) (λhg=>hn (hG x hx hg))).trans (h.block x hx hn)⟩
def Frm.alloc {F:Nat->Prop} {a w:an} (h:Frm F a w) (o:Obj):Frm F a (w.alloc o):=
 h.trans (G:=λ_=>False) (Frm.of_ext (Ext.alloc_self w o)) (λ_ _ h=>h.elim)
def Frm.drew {F:Nat->Prop} {a w:an} (h:Frm F a w):Frm F a w.drew:=⟨h.os,h.tape,h.output,h.size,h.block⟩
def Frm.set {F:Nat->Prop} {a w:an} (h:Frm F a w) {p:Addr} (v:al) (hp:p.block<a.heap.size->F p.block):Frm F a (w.setCell p v):=
 h.trans (G:=λb=>b=p.block) ⟨rfl,rfl,rfl,by simp [World.setCell],λk _ hn=>ff v hn⟩ (λx hx e=>by subst e;exact hp hx)
def Frm.ext {F:Nat->Prop} {a w w':an} (h:Frm F a w) (e:Ext w w'):Frm F a w':=h.trans (G:=λ_=>False) (Frm.of_ext e) (λ_ _ h=>h.elim)
def af (w:an) (b:Nat) (t:TypeId) (n:Nat) (f:Nat->al):Prop:=∃a:Array al,w.heap[b]? =some (.cells a t (0,0))/\n<=a.size/\∀i,i<n->a[i]? =some (f i)
section
variable {w w':an} {b b' n m:Nat} {t t':TypeId} {f g:Nat->al}
def af.lt (h:af w b t n f):b<w.heap.size:=by obtain ⟨a,h,_⟩:=h;exact aF h
def af.of_heap (h:af w b t n f) (e:w'.heap[b]? =w.heap[b]?):af w' b t n f:=by obtain ⟨a,h,h2⟩:=h;exact ⟨a,e.trans h,h2⟩
def af.ext (h:af w b t n f) (e:Ext w w'):af w' b t n f:=h.of_heap (e.blk b h.lt)
def af.frm {F:Nat->Prop} (h:af w b t n f) (e:Frm F w w') (hb:¬F b):af w' b t n f:=h.of_heap (e.block b h.lt hb)
def af.alloc (h:af w b t n f) (o:Obj):af (w.alloc o) b t n f:=h.of_heap (bg o h.lt)
def af.drew (h:af w b t n f):af w.drew b t n f:=h
def af.cell (h:af w b t n f) {i:Nat} (hi:i<n):w.cell? ⟨b,i,none⟩=some (f i):=by
 obtain ⟨a,h,hs,hf⟩:=h;rw [jt h];exact hf i hi
def af.frz (h:af w b t n f) (i:Nat):w.frozen? ⟨b,i,none⟩=false:=by
 obtain ⟨a,h,hs,hf⟩:=h;unfold World.frozen?;simp only [h];simp
def af.congr (h:af w b t n f) (e:∀i,i<n->f i=g i):af w b t n g:=by
 obtain ⟨a,h,hs,hf⟩:=h;exact ⟨a,h,hs,λi hi=>by rw [<-e i hi];exact hf i hi⟩
def af.ty (h:af w b t n f) (h':af w b t' m g):t=t':=by
 obtain ⟨a,h,hs,hf⟩:=h;obtain ⟨a',h',c,d⟩:=h';rw [h] at h';injection h' with h';injection h'
def af.ne (h:af w b t n f) (h':af w b' t' m g) (ht:t≠t'):b≠b':=by
 intro e;subst e;exact ht (h.ty h')
def af.set_ne (h:af w b t n f) {a:Addr} (v:al) (hb:b≠a.block):af (w.setCell a v) b t n f:=h.of_heap (ff v hb)
def af.set (h:af w b t n f) {i:Nat} (v:al) (hi:i<n):af (w.setCell ⟨b,i,none⟩ v) b t n (λj=>if j=i then v else f j):=by
 obtain ⟨a,h,hs,hf⟩:=h;refine ⟨a.setIfInBounds i v,?_,by simp [hs],?_⟩
 ·simp only [World.setCell,c6,h];simp
 ·intro j hj;rw [Array.getElem?_setIfInBounds];by_cases e:i=j
  ·subst e;simp;omega
  ·have e':¬j=i:=λh=>e h.symm
   simp only [e,e',if_false];exact hf j hj
def af.new (w:an) (l:List al) (t:TypeId):af (w.alloc (.cells l.toArray t)) w.heap.size t l.length (λi=>l.getD i undef):=by
 refine ⟨l.toArray,aL _ _,by simp,?_⟩;intro i hi;simp [hi]
end
def SlO (w:an) (t:TypeId) (z:Nat) (v:al) (n:Nat) (L:List al):Prop:=L.length=n*z/\((v= .slice none 0 0/\n=0)\/
 ∃b o cap a,v= .slice (some ⟨b,o,none⟩) n cap/\w.heap[b]? =some (.cells a t (0,0))/\n<=cap/\cap<=maxLen/\o+cap*z<=a.size/\∀i u,L[i]? =some u->a[o+i]? =some u)
section
variable {w w':an} {t:TypeId} {z n:Nat} {v:al} {L:List al}
def SlO.nil (w:an) (t:TypeId) (z:Nat):SlO w t z (.slice none 0 0) 0 []:=⟨by simp,.inl ⟨rfl,rfl⟩⟩
def SlO.lt (h:SlO w t z v n L) {b:Nat} (hb:v.ownBlock=some b):b<w.heap.size:=by
 rcases h.2 with ⟨rfl,_⟩|⟨b',o,cap,a,rfl,hh,_⟩
 ·cases hb
 ·injection hb with hb;subst hb;exact aF hh
def SlO.of_heap (h:SlO w t z v n L) (e:∀b,v.ownBlock=some b->w'.heap[b]? =w.heap[b]?):SlO w' t z v n L:=by
 refine ⟨h.1,?_⟩;rcases h.2 with h|⟨b',o,cap,a,rfl,hh,h2⟩
 ·exact .inl h
 ·exact .inr ⟨b',o,cap,a,rfl,(e b' rfl).trans hh,h2⟩
def SlO.ext (h:SlO w t z v n L) (e:Ext w w'):SlO w' t z v n L:=h.of_heap (λb hb=>e.blk b (h.lt hb))
def SlO.frm {F:Nat->Prop} (h:SlO w t z v n L) (e:Frm F w w') (hF:∀b,v.ownBlock=some b->¬F b):SlO w' t z v n L:=h.of_heap (λb hb=>e.block b (h.lt hb) (hF b hb))
def SlO.cell (h:SlO w t z v n L) {b o m cap:Nat} (hv:v= .slice (some ⟨b,o,none⟩) m cap) {i:Nat} {u:al} (hi:L[i]? =some u):w.cell? ⟨b,o+i,none⟩=some u:=by
 rcases h.2 with ⟨rfl,_⟩|⟨b',o',c,a,rfl,hh,_,_,_,h2⟩
 ·cases hv
 ·injection hv with h3 h4 h5;injection h3 with h3;injection h3 with h3 h6;subst h3;subst h6;rw [jt hh];exact h2 i u hi
def SlO.lit (w:an) (t:TypeId) (z n:Nat) (l:List al) (hl:l.length=n*z) (hm:n<=maxLen):SlO (w.alloc (.cells l.toArray t)) t z (.slice (some ⟨w.heap.size,0,none⟩) n n) n l:=
 ⟨hl,.inr ⟨w.heap.size,0,n,l.toArray,rfl,aL _ _,c9 _,hm,by simp [hl],by intro i u h;simpa using h⟩⟩
def SlO.isS {t:TypeId} {z n:Nat} {v:al} {L:List al} (h:SlO w t z v n L) (hn:0<n):∃b o cap,v= .slice (.some ⟨b,o,none⟩) n cap/\n<=cap:=by
 obtain ⟨hl,h2⟩:=h
 cases h2 with
 |inl h=>exact absurd h.2 (by omega)
 |inr h=>obtain ⟨b,o,cap,a,e,_,e2,_⟩:=h;exact ⟨b,o,cap,e,e2⟩
def SlO.drop {t:TypeId} {z n b o m cap k:Nat} {L:List al} (h:SlO w t z (.slice (some ⟨b,o,none⟩) m cap) n L) (hk:k<=n):SlO w t z (.slice (some ⟨b,if cap=k then o else o+k*z,none⟩) (m-k) (cap-k)) (n-k) (L.drop (k*z)):=by
 obtain ⟨hl,h2⟩:=h;rcases h2 with ⟨e,_⟩|⟨b',o',d,a,e,hh,h1,h3,h4,h5⟩
 ·cases e
 ·injection e with e1 e2 e3;injection e1 with e1;injection e1 with e1 e4;subst e1;subst e4;subst e2;subst e3;refine ⟨by rw [List.length_drop,hl,d9],.inr ⟨b,_,cap-k,a,rfl,hh,by omega,by omega,?_,?_⟩⟩
  ·split
   ·rename_i e;rw [e] at h4 ⊢;simp;omega
   ·rw [d9];have:=Nat.mul_le_mul_right z (show k<=cap by omega);omega
  ·intro i u hu;rw [List.getElem?_drop] at hu;split
   ·rename_i e;have c:=(List.getElem?_eq_some_iff.1 hu).1;rw [hl] at c;have:m=k:=by omega
    rw [this] at c;omega
   ·have:=h5 _ _ hu;rw [<-this];congr 1;omega
end
def SlO.frz {w:an} {t:TypeId} {z n:Nat} {v:al} {L:List al} (h:SlO w t z v n L) {b:Nat} (hb:v.ownBlock=some b) (i:Nat):w.frozen? ⟨b,i,none⟩=false:=by
 rcases h.2 with ⟨rfl,_⟩|⟨b',o,cap,a,rfl,hh,_⟩
 ·cases hb
 ·injection hb with hb;subst hb;unfold World.frozen?;simp only [hh];simp
def eB {a w:World} (h:Ext a w) {b i:Nat} (u:Value) (hb:a.heap.size<=b:=by first|omega|(simp only [RZ]<;>omega)):Ext a (w.setCell ⟨b,i,none⟩ u):=Ext.setB h hb u
def eR (w:an):Ext w w:=Ext.refl w
def eA {a w:an} (h:Ext a w) (o:Obj):Ext a (w.alloc o):=Ext.alloc h o
def eD {a w:an} (h:Ext a w):Ext a w.drew:=Ext.drew h
def eT {a b c:an} (h:Ext a b) (k:Ext b c):Ext a c:=Ext.trans h k
def xZ {a b:World} (h:Ext a b:=by repeat (first|(with_reducible first|refine Go.Sh.eB ?_ _|assumption|exact Go.Sh.eR _|refine Go.Sh.eA ?_ _|refine Go.Sh.eD ?_|refine Go.Sh.eT ?_ (by assumption))|exact Go.Sh.eR _)):Ext a b:=h
def oM {p:Prop} (h:p:=by omega):p:=h
def dZ {p:Prop} (h:p:=by first|omega|(simp only [Go.Sh.RO];done)|((simp only [Go.Sh.RZ]<;>omega);done)|fail):p:=h
def dX {p:Prop} (h:p:=by first|omega|(simp only [Go.Sh.RO];done)|(simp only [Go.Sh.RZ]<;>omega)|((with_reducible (repeat (first|assumption|exact Go.Sh.Ext.refl _|refine Go.Sh.Ext.alloc ?_ _|refine Go.Sh.Ext.drew ?_|refine Go.Sh.Ext.trans ?_ (by assumption))));done)|fail):p:=h
end Go.Sh
