/-
  Part 1 of what the proofs of this seat share.
-/
import Derived.WalkKit
import Derived.RangeFuncLeaves
import Derived.TacticsIn
import Derived.OrdersIn
import Derived.Test.YtmpehclnnjgmcaaGreatDoorProg
import Derived.KernelRfl
import Derived.Below
import Derived.Laws.AppendOwn
import Derived.Laws.OwnMore
set_option linter.defProp false
set_option linter.unusedVariables false
set_option maxRecDepth 100000
set_option linter.defProp false
open Go.Proofs.Tryz (prog)
open And renaming intro->aa
open Array renaming getD_eq_getD_getElem?->ar,getElem?_eq_getElem->cv,getElem?_eq_none->cy,getElem?_modify->cA,getElem?_push->cC
open BitVec renaming toNat_xor->cN
open Bool renaming and_eq_true->aq,false_eq_true->aB,not_eq_true'->a8,not_true->b0,or_eq_true->b5,false_and->b7,and_true->cc,not_false->cm,true_and->cn,false_or->co,and_false->c9
open Go renaming Value->ab,World->al
open Go.Builtin renaming len_->cx
open Go.Instr renaming buildSlice->av,makeInterface->b4
open Go.Result renaming andThen_ok->an
open Go.Sem renaming run_bind->ap,run_pure->bb,run_map->dr
open Int renaming toNat_of_nonneg->bd,toNat_natCast->bk,emod_eq_of_lt->cq,ofNat_inj->dj,ofNat_lt->dm,ofNat_le->dn,le_of_lt->dp
open List renaming getD_eq_getElem?_getD->aA,mem_cons_self->bl,size_toArray->bq,mem_cons_of_mem->bx,getElem?_toArray->bL,getElem?_eq_getElem->b8,getElem?_cons_zero->ca,getElem?_cons_succ->cb,length_cons->ce,getElem?_eq_none->cg,mapM_cons->cj,length_nil->ct,mem_range->cw,countP_append->cF,mapM_toArray->cW,mem_filter->c5,all_cons->dd
open Nat renaming eq_of_beq_eq_true->a9,add_zero->b6,lt_or_ge->ch,zero_add->cB,le_refl->cD,zero_testBit->c4,testBit_and->c6,strongRecOn->c7,min_eq_left->c8,shiftRight->dc,lt_trans->dk,le_trans->dl,sub_mul->dt,blt_eq->dv
open Option renaming getD_some->b9,bind_some->cp,map_some->cU
namespace Go.Sh
open Go
universe u
abbrev Fr:=List ab
abbrev K1:=ab->al->Prop
abbrev KF:=Fr->al->Prop
inductive cZ {α:Sort u} (k:α):Type
 |mk
def pA (a:Array ab):Array ab:=a
def aid (a:Array ab):pA a=a:=rfl
def UE (k:K1):Ending->al->Prop
 | .returned v,w=>k v w
 |_,_=>False
def ae (P:Program) (f:FuncId) (args:Array ab) (w:al) (k:K1) (_:cZ k:= .mk):Prop:=Calls P f args w (UE k)
def stN (P:Program) (r:Result Next) (k:K1):Prop:=
 match r with
 | .ok (.value v) w=>k v w
 | .ok .skip w=>k undef w
 | .ok (.enter f args) w=>ae P f args w k
 | .ok (.round l f tmps a b) w=>RoundIn Fence.wide 0 P l f tmps a b w (UE k)
 |_=>False
def ev (P:Program) (s:Sem ab) (w:al) (k:K1) (_:cZ k:= .mk):Prop:=
 match s.run P w with
 | .ok v w'=>k v w'
 | .halt _ _=>False
def ac (P:Program) (s:Sem Unit) (w:al) (k:al->Prop) (_:cZ k:= .mk):Prop:=
 match s.run P w with
 | .ok _ w'=>k w'
 | .halt _ _=>False
def au (c a b:ab) (w:al) (k:K1):Prop:=
 match c with
 | .bool true=>k a w
 | .bool false=>k b w
 |_=>False
def Qc (P:Program) (x:ab) (w:al) (k:K1) (_:cZ k:= .mk):Prop:=
 stN P ((execOp (fun _=>x) {dst:=none,op:= .nilCheck (.tmp 0),type:=0,pos:= "",after:= #[],guard:=none}).run P w) k
def bF (P:Program) (b:ab) (a:String) (args:Array ab) (w:al) (k:K1) (_:cZ k:= .mk):Prop:=stN P ((callMethod b a args).run P w) k
def aV (P:Program) (b:Builtin) (ts:Array TypeId) (ty:TypeId) (cs:Array Bool) (args:Array ab) (w:al) (k:K1) (_:cZ k:= .mk):Prop:=stN P ((builtin b ts ty cs args).run P w) k
def aG (op:BinOp) (t:TypeId) (x y:Operand) (a b:ab):Sem ab:=do eqGuard op t x y a b;binOp op t a b
def nZ (P:Program) (f:ab) (args:Array ab) (w:al) (k:K1) (_:cZ k:= .mk):Prop:=stN P ((do let d <-Deferred.ofValue f args;invoke d.target d.args:Sem Next).run P w) k
def fo (P:Program) (t:TypeId):Option Bool:=(P.underlying t).map λ
 | .struct _=>true
 | .array _ _=>true
 |_=>false
def szT (P:Program) (t:TypeId):Option Nat:=(P.info? t).map (·.size)
def fD (P:Program) (t:TypeId):Option ab:=(P.info? t).bind (·.zero)
def aC {P:Program} {t:TypeId} {d:TypeDesc} (h:P.underlying t=some d) (w:al):(underlying t).run P w= .ok d w:=by
 simp [underlying,program,Bind.bind,Sem.bind,Sem.run,h,pure]
def o9 {P:Program} {t:TypeId} {i:TypeInfo} (h:P.info? t=some i) (w:al):(typeInfo t).run P w= .ok i w:=by
 simp [typeInfo,program,Bind.bind,Sem.bind,Sem.run,h,pure]
def qF {P:Program} {t:TypeId} {b:Bool} (h:fo P t=some b) (w:al):(isAgg t).run P w= .ok b w:=by
 unfold fo at h
 cases hu:P.underlying t with
 |none=>rw [hu] at h;cases h
 |some d=>
  rw [hu] at h;unfold isAgg;rw [ap,aC hu]
  cases d<;>simp at h<;>subst h<;>rfl
def fp {P:Program} {t:TypeId} {n:Nat} (h:szT P t=some n) (w:al):(sizeOf t).run P w= .ok n w:=by
 unfold szT at h
 cases hu:P.info? t with
 |none=>rw [hu] at h;cases h
 |some i=>
  rw [hu] at h;simp at h;subst h;unfold sizeOf;rw [ap,o9 hu];rfl
def dL {P:Program} {t:TypeId} {v:ab} (h:fD P t=some v) (w:al):(zeroValue t).run P w= .ok v w:=by
 unfold fD at h
 cases hu:P.info? t with
 |none=>rw [hu] at h;cases h
 |some i=>
  rw [hu] at h;simp only [cp] at h;unfold zeroValue;rw [ap,o9 hu,an];simp [h]
def ET {P:Program} {t:TypeId} (h:fo P t=some false) (a:Addr) (w:al):(Instr.loadAt t (.pointer (some a))).run P w=(load a).run P w:=by
 unfold Instr.loadAt Instr.sureAddr;rw [ap,bb,an];unfold loadVar;rw [ap,qF h,an];simp
def sZ {P:Program} (a:Addr) (w:al):(load a).run P w=match w.cell? a with
  |some v=> .ok v w
  |none=>match w.farLoad P a false with
   | .ok (v,_)=> .ok v w
   | .error h=> .halt h w:=by
 unfold load;simp only [Sem.run]
 cases w.cell? a<;>rfl
def aT (w:al) (b o:Nat):Nat->Option (List ab)
 |0=>some []
 |n+1=>match w.cell? ⟨b,o,none⟩ with
  |some v=>match aT w b (o+1) n with
   |some l=>some (v::l)
   |none=>none
  |none=>none
def fM (b o n:Nat):Addr.add ⟨b,o,none⟩ n=⟨b,o+n,none⟩:=by
 unfold Addr.add;split
 ·rename_i h;subst h;rfl
 ·rfl
def iZ {P:Program} {w:al} {b o:Nat}:∀(n i:Nat) (a:Array ab) (l:List ab),aT w b (o+i) n=some l->(loadCellsFrom ⟨b,o,none⟩ i n a).run P w= .ok (a++l.toArray) w:=by
 intro n
 induction n with
 |zero=>intro i a l h;simp [aT] at h;subst h;simp [loadCellsFrom]
 |succ n ih=>
  intro i a l h;unfold aT at h
  cases hc:w.cell? ⟨b,o+i,none⟩ with
  |none=>rw [hc] at h;cases h
  |some v=>
   rw [hc] at h;simp only at h
   cases hr:aT w b (o+i+1) n with
   |none=>rw [hr] at h;cases h
   |some l'=>
    rw [hr] at h;simp only [Option.some.injEq] at h;subst h;unfold loadCellsFrom;rw [ap,fM,sZ,hc];simp only [an];rw [ih (i+1) (a.push v) l' hr];simp
def EU {P:Program} {t:TypeId} {n:Nat} (h:fo P t=some true) (hn:szT P t=some n) {w:al} {b o:Nat} {l:List ab} (hl:aT w b o n=some l):(Instr.loadAt t (.pointer (some ⟨b,o,none⟩))).run P w= .ok (.agg l.toArray) w:=by
 unfold Instr.loadAt Instr.sureAddr;rw [ap,bb,an];unfold loadVar;rw [ap,qF h,an];simp only [if_true];rw [ap,fp hn,an,ap];unfold loadCells;rw [iZ n 0 #[] l hl];simp
def aj:ab->Bool
 | .agg _=>false
 | .tuple _=>false
 |_=>true
def ys {v:ab} (h:aj v=true):v.cells= #[v]:=by cases v<;>first|rfl|cases h
def xT {P:Program} {a:Addr} {v:ab} (h:aj v=true) {u:ab} {w:al} (hc:w.cell? a=some u) (hz:w.frozen? a=false):(store a v).run P w= .ok () (w.setCell a v):=by
 unfold store
 cases v<;>first|(simp only [Sem.run,hc,hz];rfl)|(exact absurd h (by simp [aj]))
def iD (w:al) (b o:Nat):List ab->al
 | []=>w
 |v::l=>iD (w.setCell ⟨b,o,none⟩ v) b (o+1) l
def bO:List ab->Bool
 | []=>true
 |v::l=>aj v&&bO l
def eG (w:al) (b o:Nat):Nat->Bool
 |0=>true
 |n+1=>(w.cell? ⟨b,o,none⟩).isSome&&(!w.frozen? ⟨b,o,none⟩&&eG w b (o+1) n)
def tA {w:al} {p:Addr} {v:ab} {b:Nat}:∀(n o:Nat),eG w b o n=true->eG (w.setCell p v) b o n=true:=by
 intro n
 induction n with
 |zero=>intro o _;rfl
 |succ n ih=>
  intro o h;simp only [eG,aq] at h ⊢;obtain ⟨h1,h2,h3⟩:=h;refine ⟨?_,?_,ih _ h3⟩
  ·obtain ⟨u,hu⟩:=Option.isSome_iff_exists.1 h1;obtain ⟨u',a⟩:=Go.RowKit.cell?_setCell_some (p:=p) (x:=v) hu;rw [a];rfl
  ·rw [World.frozen?_setCell];exact h2
def uB {P:Program} {b o:Nat}:∀(l:List ab) (i:Nat) (w:al),bO l=true->eG w b (o+i) l.length=true->(storeCells ⟨b,o,none⟩ l i).run P w= .ok () (iD w b (o+i) l):=by
 intro l
 induction l with
 |nil=>intro i w _ _;rfl
 |cons v l ih=>
  intro i w ha hf;simp only [bO,aq] at ha;simp only [ce,eG,aq,a8] at hf;obtain ⟨h1,h2,h3⟩:=hf;obtain ⟨u,hu⟩:=Option.isSome_iff_exists.1 h1;unfold storeCells;rw [ap,fM,xT ha.1 hu h2,an,ih (i+1) _ ha.2 (tA _ _ h3)];rfl
def ldO (P:Program) (t:TypeId) (w:al) (x:ab):Option ab:=
 match x with
 | .pointer (some a)=>match fo P t with
  |some false=>w.cell? a
  |some true=>match a with
   |⟨b,o,none⟩=>match szT P t with
    |some n=>(aT w b o n).map λl=> .agg l.toArray
    |none=>none
   |_=>none
  |none=>none
 |_=>none
def Bt {P:Program} {t:TypeId} {w:al} {x v:ab} (h:ldO P t w x=some v):(Instr.loadAt t x).run P w= .ok v w:=by
 unfold ldO at h;split at h
 ·rename_i a;split at h
  ·rename_i ha;rw [ET ha,sZ,h]
  ·rename_i ha;split at h
   ·rename_i b o;split at h
    ·rename_i n hn
     cases hc:aT w b o n with
     |none=>rw [hc] at h;cases h
     |some l=>rw [hc] at h;simp at h;subst h;exact EU ha hn hc
    ·cases h
   ·cases h
  ·cases h
 ·cases h
def oE (o:Option ab) (k:ab->Prop) (_:cZ k:= .mk):Prop:=
 match o with
 |some v=>k v
 |none=>False
def ldS (P:Program) (t:TypeId) (x:ab) (w:al) (k:K1) (_:cZ k:= .mk):Prop:=oE (ldO P t w x) (λv=>k v w)
def ldR (P:Program) (t:TypeId) (x:ab) (w:al) (k:ab->Prop) (_:cZ k:= .mk):Prop:=oE (ldO P t w x) k
def ldG (P:Program) (t:TypeId) (x:ab) (w:al) (v:ab):Prop:=ldO P t w x=some v
def stO (P:Program) (t:TypeId) (w:al) (x v:ab):Option al:=
 match x with
 | .pointer (some ⟨b,o,none⟩)=>match szT P t with
  |some n=>match Nat.beq v.cells.toList.length n&&(bO v.cells.toList&&eG w b o n) with
   |true=>some (iD w b o v.cells.toList)
   |false=>none
  |none=>none
 |_=>none
def acx {P:Program} {t:TypeId} {w w':al} {x v:ab} (h:stO P t w x v=some w'):(Instr.storeAt t x v).run P w= .ok () w':=by
 unfold stO at h;split at h
 ·rename_i b o;split at h
  ·rename_i n hn;split at h
   ·rename_i hb;simp only [aq] at hb;simp only [Option.some.injEq] at h;subst h;have hl:=a9 hb.1;unfold Instr.storeAt Instr.sureAddr;rw [ap,bb,an];unfold storeVar;rw [ap,fp hn,an];rw [if_neg (by rw [<-Array.length_toList];simp [hl])];rw [uB v.cells.toList 0 w hb.2.1 (by rw [hl];exact hb.2.2)];rfl
   ·cases h
  ·cases h
 ·cases h
def oW (o:Option al) (k:al->Prop) (_:cZ k:= .mk):Prop:=
 match o with
 |some w=>k w
 |none=>False
def stS (P:Program) (t:TypeId) (x v:ab) (w:al) (k:al->Prop) (_:cZ k:= .mk):Prop:=oW (stO P t w x v) k
def acy:Operand->Bool
 | .const _=>true
 |_=>false
def evO (fr:Fr):Operand->ab
 | .tmp t=>fr.getD t undef
 | .const v=>v
 | .global g=> .pointer (some ⟨g,0,none⟩)
 | .func f=> .func (.func f) #[] #[]
def put (fr:Fr) (d:Option Tmp) (v:ab):Fr:=
 match d with
 |some d=>fr.set d v
 |none=>fr
def opS (P:Program) (o:Op) (ty:TypeId) (ρ:Operand->ab) (w:al) (k:K1):Prop:=
 match o with
 | .move x=>k (ρ x) w
 | .assign x=>k (ρ x) w
 | .pick c a b=>au (ρ c) (ρ a) (ρ b) w k
 | .alloc t=>ev P (Instr.alloc t true (.tuple #[])) w k
 | .box t x=>ev P (Instr.box t (ρ x)) w k
 | .build t ps=>ev P (Instr.build t (ps.toList.map λp=>(p.1,ρ p.2)).toArray) w k
 | .buildSlice t n ps=>ev P (av t n (ps.toList.map λp=>(p.1,ρ p.2)).toArray) w k
 | .load t a=>ldS P t (ρ a) w k
 | .store t a x=>stS P t (ρ a) (ρ x) w (k undef)
 | .nilCheck x=>Qc P (ρ x) w k
 | .binOp op t x y _=>ev P (aG op t x y (ρ x) (ρ y)) w k
 | .unOp op _ x=>ev P (Op.unary op (ρ x)) w k
 | .convert s d x=>ev P (convert s d (ρ x)) w k
 | .makeInterface t x=>ev P (b4 t (ρ x)) w k
 | .makeMap t none=>ev P (Instr.makeMap t none) w k
 | .makeSlice t l c=>ev P (Instr.makeSlice t (ρ l) (ρ c)) w k
 | .slice t x lo hi mx=>ev P (Instr.sliceAt t (ρ x) (lo.map ρ) (hi.map ρ) (mx.map ρ)) w k
 | .fieldAddr s x f=>ev P (Instr.fieldAt s (ρ x) f) w k
 | .field t x f=>ev P (Instr.field t (ρ x) f) w k
 | .indexAddr t x i=>ev P (Instr.indexAt t (ρ x) (ρ i)) w k
 | .index t x i=>ev P (Instr.index t (ρ x) (ρ i)) w k
 | .lookup t x i ok=>ev P (Instr.lookup t (ρ x) (ρ i) ok) w k
 | .mapUpdate t m i x=>ac P (Instr.mapUpdate t (ρ m) (ρ i) (ρ x)) w (k undef)
 | .insert t m i x=>ac P (Instr.mapUpdate t (ρ m) (ρ i) (ρ x)) w (k undef)
 | .range t x=>ev P (Instr.range t (ρ x)) w k
 | .next it s=>ev P (Instr.next (ρ it) s ty) w k
 | .entry it=>ev P (Instr.entry (ρ it)) w k
 | .extract t i=>ev P (Instr.extract (ρ t) i) w k
 | .makeFunc f a b=>ev P (Instr.makeFunc f (a.toList.map ρ).toArray (b.toList.map ρ).toArray) w k
 | .call ⟨.value (.func f),args,_⟩=>ae P f (args.toList.map ρ).toArray w k
 | .call ⟨.value f,args,_⟩=>nZ P (ρ f) (args.toList.map ρ).toArray w k
 | .call ⟨.invoke r name,args,_⟩=>bF P (ρ r) name (args.toList.map ρ).toArray w k
 | .call ⟨.builtin b,args,ts⟩=>aV P b ts ty (args.toList.map acy).toArray (args.toList.map ρ).toArray w k
 |_=>False
def uC (P:Program) (f:FuncId):Bool:=
 match P.funcs[f]? with
 |some fn=>fn.body.isSome&& !(fn.name== "runtime.NumGoroutine")
 |none=>false
def Qd (P:Program):Op->Bool
 | .call ⟨.value (.func f),_,_⟩=>uC P f
 |_=>true
def aZ {P:Program} {s:Sem ab} {w:al} {k:K1} (h:ev P s w k):stN P ((do pure (Next.value (<-s)):Sem Next).run P w) k:=by
 unfold ev at h;rw [ap]
 cases hr:s.run P w with
 |ok v w'=>rw [hr] at h;simpa [stN] using h
 |halt x w'=>rw [hr] at h;exact h.elim
def qG {P:Program} {s:Sem Unit} {w:al} {k:al->Prop} (h:ac P s w k) (K:K1) (hk:∀w,k w->K undef w):stN P ((do s;pure Next.skip:Sem Next).run P w) K:=by
 unfold ac at h;rw [ap]
 cases hr:s.run P w with
 |ok v w'=>rw [hr] at h;simpa [stN] using hk _ h
 |halt x w'=>rw [hr] at h;exact h.elim
def Qe {P:Program} {t:TypeId} {x:ab} {w:al} {k:K1} (h:ldS P t x w k):ev P (Instr.loadAt t x) w k:=by
 unfold ldS oE at h;split at h
 ·rename_i v hv;unfold ev;rw [Bt hv];exact h
 ·exact h.elim
def Qf {P:Program} {t:TypeId} {x v:ab} {w:al} {k:al->Prop} (h:stS P t x v w k):ac P (Instr.storeAt t x v) w k:=by
 unfold stS oW at h;split at h
 ·rename_i w' hw;unfold ac;rw [acx hw];exact h
 ·exact h.elim
def qH (ps:Array (Nat×Operand)) (ρ:Operand->ab):(ps.map λ(i,x)=>(i,ρ x))=(ps.toList.map λp=>(p.1,ρ p.2)).toArray:=by
 apply Array.ext';simp
def iF (ps:Array Operand) {α:Type} (ρ:Operand->α):ps.map ρ=(ps.toList.map ρ).toArray:=by
 apply Array.ext';simp
def jV {P:Program} {f:FuncId} (h:uC P f=true) (args:Array ab) (w:al):(callFunc f args).run P w= .ok (.enter f args) w:=by
 unfold uC at h
 cases hf:P.funcs[f]? with
 |none=>rw [hf] at h;cases h
 |some fn=>
  rw [hf] at h;simp only [aq,a8] at h;obtain ⟨hb,hn⟩:=h;have a:fn.body.isNone=false:=by cases hx:fn.body<;>simp_all
  unfold callFunc;simp only [program,Bind.bind,Sem.bind,Sem.run,hf,hn,a,aB,if_false,pure]
def yu {P:Program} {o:Oper} {ρ:Operand->ab} {w:al} {k:K1} (hρ:∀f,ρ (.func f)= .func (.func f) #[] #[]) (j:Qd P o.op=true) (h:opS P o.op o.type ρ w k):stN P ((execOp ρ o).run P w) k:=by
 obtain ⟨dst,op,ty,pos,after,guard⟩:=o
 cases op with
 |move x=>exact h
 |assign x=>exact h
 |pick c a b=>
  simp only [opS,au] at h;simp only [execOp]
  cases hc:ρ c with
  |bool t=>rw [hc] at h;cases t<;>simpa [stN,asBool] using h
  |_=>rw [hc] at h;exact h.elim
 |alloc t=>exact aZ h
 |box t x=>exact aZ h
 |build t ps=>simp only [execOp,qH];exact aZ h
 |buildSlice t n ps=>simp only [execOp,qH];exact aZ h
 |load t a=>exact aZ (Qe h)
 |store t a x=>exact qG (Qf h) k (λ_ h=>h)
 |nilCheck x=>exact h
 |binOp op t x y yt=>exact aZ h
 |unOp op t x=>exact aZ h
 |convert s d x=>exact aZ h
 |makeInterface t x=>exact aZ h
 |makeMap t r=>cases r with
  |none=>exact aZ h
  |some r=>exact h.elim
 |makeSlice t l c=>exact aZ h
 |slice t x lo hi mx=>exact aZ h
 |fieldAddr s x f=>exact aZ h
 |field t x f=>exact aZ h
 |indexAddr t x i=>exact aZ h
 |index t x i=>exact aZ h
 |lookup t x i c=>exact aZ h
 |mapUpdate t m i x=>exact qG h k (λ_ h=>h)
 |insert t m i x=>exact qG h k (λ_ h=>h)
 |range t x=>exact aZ h
 |next it s=>exact aZ h
 |entry it=>exact aZ h
 |extract t i=>exact aZ h
 |makeFunc f a b=>simp only [execOp,iF];exact aZ h
 |call c=>
  obtain ⟨g,args,ts⟩:=c
  cases g with
  |value f=>
   cases f with
   |func f=>
    simp only [opS] at h;have hr:=jV j (args.toList.map ρ).toArray w;have e:(execOp ρ {dst:=dst,op:= .call ⟨.value (.func f),args,ts⟩,type:=ty,pos:=pos,after:=after,guard:=guard})=callFunc f (args.toList.map ρ).toArray:=by
     simp only [execOp,resolve,iF,hρ,Deferred.ofValue,Bind.bind,Sem.bind,pure,invoke];simp
    rw [e,hr];exact h
   |_=>simp only [opS,nZ] at h;simp only [execOp,resolve,iF];exact h
  |invoke r name=>
   simp only [opS,bF] at h;simp only [execOp,resolve,iF,Bind.bind,Sem.bind,pure,invoke];have e:((#[ρ r]++(args.toList.map ρ).toArray).extract 1 (#[ρ r]++(args.toList.map ρ).toArray).size)=(args.toList.map ρ).toArray:=by
    apply Array.ext';simp only [Array.toList_extract,Array.toList_append,List.extract_eq_take_drop,Array.size_append];simp [List.take_of_length_le]
   simp only [Array.getElem?_append,e];simpa using h
  |builtin b=>
   simp only [opS,aV] at h;simp only [execOp,resolve,iF,Bind.bind,Sem.bind,pure,invoke];exact h
 |_=>exact h.elim
def gd (x:ab) (c:Bool) (a:K1->Prop) (w:al) (k:K1):Prop:=
 match x with
 | .bool b=>match b,c with
  |true,true=>a k
  |false,false=>a k
  |_,_=>k undef w
 |_=>k undef w
def s8 (ops:List Oper) (j:Nat) (fr:Fr):ab:=
 match (ops[j]?).bind (·.dst) with
 |some d=>fr.getD d undef
 |none=>undef
def xU (P:Program) (ops:List Oper) (o:Oper) (fr:Fr) (w:al) (k:K1):Prop:=
 match o.guard with
 |none=>opS P o.op o.type (evO fr) w k
 |some (j,want)=>gd (s8 ops j fr) want (λk=>opS P o.op o.type (evO fr) w k) w k
def Qg (P:Program) (ops:List Oper):List Oper->KF->Fr->al->Prop
 | [],k,fr,w=>k fr w
 |o::rest,k,fr,w=>xU P ops o fr w (λv w'=>Qg P ops rest k (put fr o.dst v) w')
def be (ds:List Deferred) (fr:Fr):Act:={tmps:=fr.toArray,defers:=ds}
def FW (ro:Option Nat):Fence:={Fence.wide with round:=ro}
def fwD {ro:Option Nat} {p:Prop} (h:(FW ro).depth.isSome=true):p:=by cases h
def fW (ds:List Deferred) (fr:Fr):(be ds fr).eval=evO fr:=by
 funext x;cases x<;>simp [Act.eval,be,evO,ar,aA]
def fE (ds:List Deferred) (fr:Fr) (d:Option Tmp) (v:ab):(be ds fr).put d v=be ds (put fr d v):=by
 cases d<;>simp [Act.put,be,put]
def EV (fr:Fr) (f:FuncId):evO fr (.func f)= .func (.func f) #[] #[]:=rfl
def isB (x:ab) (a:Bool):Bool:=
 match x with
 | .bool b=>b==a
 |_=>false
def eV (ops:List Oper) (o:Oper) (fr:Fr):Bool:=
 match o.guard with
 |none=>true
 |some (j,want)=>isB (s8 ops j fr) want
def yv (ops:List Oper) (o:Oper) (ds:List Deferred) (fr:Fr):Region.wanted o (yielded ops.toArray (be ds fr).tmps)=eV ops o fr:=by
 obtain ⟨dst,op,ty,pos,after,guard⟩:=o
 cases guard with
 |none=>rfl
 |some g=>
  obtain ⟨j,a⟩:=g;simp only [Region.wanted,eV,isB,yielded,s8,be,bL]
  cases hd:(ops[j]?).bind (·.dst) with
  |none=>simp [undef]
  |some d=>
   simp only [cp,aA]
   cases hf:fr[d]? with
   |none=>simp [undef]
   |some x=>cases x<;>simp
def agI {x:ab} {a:Bool} {c:K1->Prop} {w:al} {k:K1} (h:gd x a c w k) (hx:isB x a=true):c k:=by
 unfold gd at h
 cases x<;>simp [isB] at hx;rename_i b;subst hx
 cases b<;>exact h
def aie {x:ab} {a:Bool} {c:K1->Prop} {w:al} {k:K1} (h:gd x a c w k) (hx:isB x a=false):k undef w:=by
 unfold gd at h
 cases x<;>simp [isB] at hx<;>try exact h
 rename_i b
 cases b<;>cases a<;>simp at hx<;>exact h
def uE {P:Program} {ops:List Oper} {o:Oper} {fr:Fr} {w:al} {k:K1} (h:xU P ops o fr w k) (hw:eV ops o fr=true):opS P o.op o.type (evO fr) w k:=by
 unfold xU at h;unfold eV at hw
 cases hg:o.guard with
 |none=>rw [hg] at h;exact h
 |some g=>rw [hg] at h hw;exact agI h hw
def MN {P:Program} {ops:List Oper} {o:Oper} {fr:Fr} {w:al} {k:K1} (h:xU P ops o fr w k) (hw:eV ops o fr=false):k undef w:=by
 unfold xU at h;unfold eV at hw
 cases hg:o.guard with
 |none=>rw [hg] at hw;cases hw
 |some g=>rw [hg] at h hw;exact aie h hw
def agJ {P:Program} {o:Oper} {ρ:Operand->ab} {w:al} {k:K1} (h:opS P o.op o.type ρ w k) (ro:Option Nat):o.semAt ro ρ=execOp ρ o:=by
 refine Oper.semAt_eq ro ρ o (λc e=> ?_);rw [e] at h;exact h.elim
def nY {P:Program} {ro:Option Nat} {ds:List Deferred} {o:Oper} {fr:Fr} {r:Result Next} {k:K1} {next:Act->al->Prop} {Q:Exit->Act->al->Prop} (h:stN P r k) (hk:∀v w',k v w'->next (be ds (put fr o.dst v)) w'):o.uponIn (FW ro) 0 P (be ds fr) next Q r:=by
 cases r with
 |halt x w'=>exact h.elim
 |ok n w'=>
  cases n<;>simp only [stN] at h<;>try exact h.elim
  ·simp only [Oper.uponIn_value,fE];exact hk _ _ h
  ·simp only [Oper.uponIn_skip,fE];exact hk _ _ h
  ·rw [Oper.uponIn_enter];refine ⟨λh=>fwD h,(callsIn_wide (n:=0)).2 (Calls.mono h ?_)⟩;intro e w'' hr
   cases e with
   |returned v=>simp only [fE];exact hk _ _ hr
   |panicked c=>exact hr.elim
   |outgrown=>exact hr.elim
  ·rw [Oper.uponIn_round];refine ⟨λh=>fwD h,RoundIn.mono (F:=Fence.wide) h ?_⟩;intro e w'' hr
   cases e with
   |returned v=>simp only [fE];exact hk _ _ hr
   |panicked c=>exact hr.elim
   |outgrown=>exact hr.elim
def acz {P:Program} {ro:Option Nat} {ds:List Deferred} {o:Oper} {fr:Fr} {w:al} {k:K1} {next:Act->al->Prop} {Q:Exit->Act->al->Prop} (a:Qd P o.op=true) (h:opS P o.op o.type (evO fr) w k) (hk:∀v w',k v w'->next (be ds (put fr o.dst v)) w'):o.wpIn (FW ro) 0 P (be ds fr) w next Q:=by
 have h':=yu (EV fr) a h;refine ⟨λ_ _=>trivial,?_⟩;rw [fW,agJ h];exact nY h' hk
def Ia {P:Program} {ro:Option Nat} {ds:List Deferred} {nt:Nat} {ops:List Oper} {Q:Exit->Act->al->Prop} {k:KF} (hk:∀fr w,fr.length=nt->k fr w->Q .normal (be ds fr) w):∀(l:List Oper) (fr:Fr) (w:al),fr.length=nt->(l.all λo=>Qd P o.op)=true->Qg P ops l k fr w->wpListIn (FW ro) 0 P ops.toArray Q l (be ds fr) w:=by
 intro l
 induction l with
 |nil=>intro fr w hl _ h;exact hk _ _ hl h
 |cons o rest ih=>
  intro fr w hl a h;simp only [dd,aq] at a;unfold Qg at h;unfold wpListIn;rw [yv]
  cases hw:eV ops o fr with
  |true=>
   rw [if_pos rfl];exact acz a.1 (uE h hw) (λv w' h=>ih _ _ (by cases o.dst<;>simp [put,hl]) a.2 h)
  |false=>
   rw [if_neg (by simp),fE];exact ⟨λ_ _=>trivial,ih _ _ (by cases o.dst<;>simp [put,hl]) a.2 (MN h hw)⟩
def UF:Oper:={dst:=none,op:= .nilCheck (.tmp 0),type:=0,pos:= "",after:= #[],guard:=none}
def rd (P:Program) (s:Sem ab) (w:al) (k:ab->Prop) (_:cZ k:= .mk):Prop:=
 match s.run P w with
 | .ok v w'=>w'=w/\k v
 | .halt _ _=>False
def bw (P:Program) (x:ab) (w:al) (k:ab->Prop) (_:cZ k:= .mk):Prop:=
 match (execOp (λ_=>x) UF).run P w with
 | .ok (.value v) w'=>w'=w/\k v
 |_=>False
def bh (c a b:ab) (k:ab->Prop):Prop:=
 match c with
 | .bool true=>k a
 | .bool false=>k b
 |_=>False
def ag (P:Program) (s:Sem ab) (w:al) (v:ab):Prop:=s.run P w= .ok v w
def rdO (o:Op) (ty:TypeId) (ρ:Operand->ab):Option (Sem ab):=
 match o with
 | .build t ps=>some (Instr.build t (ps.toList.map λp=>(p.1,ρ p.2)).toArray)
 | .binOp op t x y _=>some (aG op t x y (ρ x) (ρ y))
 | .unOp op _ x=>some (Op.unary op (ρ x))
 | .convert s d x=>some (convert s d (ρ x))
 | .makeInterface t x=>some (b4 t (ρ x))
 | .slice t x lo hi mx=>some (Instr.sliceAt t (ρ x) (lo.map ρ) (hi.map ρ) (mx.map ρ))
 | .fieldAddr s x f=>some (Instr.fieldAt s (ρ x) f)
 | .field t x f=>some (Instr.field t (ρ x) f)
 | .indexAddr t x i=>some (Instr.indexAt t (ρ x) (ρ i))
 | .index t x i=>some (Instr.index t (ρ x) (ρ i))
 | .lookup t x i ok=>some (Instr.lookup t (ρ x) (ρ i) ok)
 | .extract t i=>some (Instr.extract (ρ t) i)
 | .makeFunc f a b=>some (Instr.makeFunc f (a.toList.map ρ).toArray (b.toList.map ρ).toArray)
 | .call ⟨.builtin .len,args,ts⟩=>some (cx ts ty (args.toList.map ρ).toArray)
 | .call ⟨.builtin .max,args,ts⟩=>some (Builtin.max_ ts ty (args.toList.map ρ).toArray)
 | .call ⟨.builtin .min,args,ts⟩=>some (Builtin.min_ ts ty (args.toList.map ρ).toArray)
 |_=>none
def nO:Op->Bool
 | .move _| .pick ..| .nilCheck _=>true
 | .build ..| .load ..| .binOp ..| .unOp ..| .convert ..| .makeInterface ..| .slice ..| .fieldAddr ..| .field ..| .indexAddr ..| .index ..| .lookup ..| .extract ..| .makeFunc ..=>true
 | .call ⟨.builtin .len,_,_⟩| .call ⟨.builtin .max,_,_⟩| .call ⟨.builtin .min,_,_⟩=>true
 |_=>false
def rdS (P:Program) (o:Op) (ty:TypeId) (ρ:Operand->ab) (w:al) (k:ab->Prop):Prop:=
 match o with
 | .move x=>k (ρ x)
 | .pick c a b=>bh (ρ c) (ρ a) (ρ b) k
 | .nilCheck x=>bw P (ρ x) w k
 | .load t a=>ldR P t (ρ a) w k
 |o=>match rdO o ty ρ with
  |some s=>rd P s w k
  |none=>False
def free:Op->Bool
 | .move _| .pick ..| .extract ..=>true
 |_=>false
def agS (P:Program) (o:Op) (ty:TypeId) (ρ:Operand->ab) (w:al) (v:ab):Prop:=
 match o with
 | .nilCheck x=>bw P (ρ x) w (λu=>u=v)
 | .load t a=>ldG P t (ρ a) w v
 |o=>match rdO o ty ρ with
  |some s=>ag P s w v
  |none=>True
def yl (P:Program) (o:Oper) (ρ:Operand->ab) (w:al) (v:ab):Prop:=(execOp ρ o).run P w= .ok (.value v) w
def yw {P:Program} {o:Oper} {ρ:Operand->ab} {s:Sem ab} {w:al} {v:ab} (hs:rdO o.op o.type ρ=some s) (h:s.run P w= .ok v w):yl P o ρ w v:=by
 have key:execOp ρ o=(do pure (Next.value (<-s)):Sem Next):=by
  obtain ⟨dst,op,ty,pos,after,guard⟩:=o
  cases op<;>simp only [rdO] at hs
  case call c=>
   obtain ⟨a,args,ts⟩:=c
   cases a with
   |value f=>simp at hs
   |invoke r n=>simp at hs
   |builtin b=>cases b<;>simp at hs<;>(subst hs;simp only [execOp,resolve,iF,Bind.bind,Sem.bind,pure,invoke];rfl)
  all_goals (first|(simp at hs;done)|skip)
  all_goals (simp only [Option.some.injEq] at hs;subst hs;first|rfl|(simp only [execOp,qH];done)|(simp only [execOp,iF];done))
 unfold yl;rw [key,ap,h];rfl
def MO {P:Program} {dst:Option Tmp} {x:Operand} {ty:TypeId} {pos:String} {after:Array Edge} {g:Option (Nat×Bool)} {ρ:Operand->ab} {w:al} {k:ab->Prop} (h:bw P (ρ x) w k):∃v,yl P ⟨dst,.nilCheck x,ty,pos,after,g⟩ ρ w v/\k v:=by
 unfold bw at h;have e:execOp (λ_=>ρ x) UF=execOp ρ ⟨dst,.nilCheck x,ty,pos,after,g⟩:=rfl;rw [e] at h;unfold yl;split at h
 ·rename_i v w' hr;obtain ⟨rfl,hk⟩:=h;exact ⟨v,hr,hk⟩
 ·exact h.elim
def UG {P:Program} {dst:Option Tmp} {t:TypeId} {x:Operand} {ty:TypeId} {pos:String} {after:Array Edge} {g:Option (Nat×Bool)} {ρ:Operand->ab} {w:al} {v:ab} (h:ldO P t w (ρ x)=some v):yl P ⟨dst,.load t x,ty,pos,after,g⟩ ρ w v:=by
 unfold yl;show ((do pure (Next.value (<-Instr.loadAt t (ρ x))):Sem Next).run P w)=_;rw [ap,Bt h];rfl
def qI {P:Program} {o:Oper} {ρ:Operand->ab} {w:al} {k:ab->Prop} (h:rdS P o.op o.type ρ w k):∃v,yl P o ρ w v/\k v:=by
 have f:∀s,rdO o.op o.type ρ=some s->rd P s w k->∃v,yl P o ρ w v/\k v:=by
  intro s hs hr;unfold rd at hr;split at hr
  ·rename_i v w' d;obtain ⟨rfl,hk⟩:=hr;exact ⟨v,yw hs d,hk⟩
  ·exact hr.elim
 obtain ⟨dst,op,ty,pos,after,guard⟩:=o;have e:(match rdO op ty ρ with|some s=>rd P s w k|none=>False)->∃v,yl P ⟨dst,op,ty,pos,after,guard⟩ ρ w v/\k v:=by
  intro h
  cases hs:rdO op ty ρ with
  |none=>rw [hs] at h;exact h.elim
  |some s=>rw [hs] at h;exact f s hs h
 cases op
 case move x=>exact ⟨ρ x,rfl,h⟩
 case pick c a b=>
  simp only [rdS,bh] at h
  cases hc:ρ c with
  |bool t=>rw [hc] at h;cases t<;>exact ⟨_,by simp [yl,execOp,hc,asBool],h⟩
  |_=>rw [hc] at h;exact h.elim
 case nilCheck x=>exact MO h
 case load t x=>
  simp only [rdS,ldR,oE] at h;split at h
  ·rename_i v hv;exact ⟨v,UG hv,h⟩
  ·exact h.elim
 all_goals exact e h
def Qh {P:Program} {o:Oper} {ρ:Operand->ab} {w w':al} {v:ab} (hr:nO o.op=true) (hy:yl P o ρ w v) (h:free o.op=true\/agS P o.op o.type ρ w' v):yl P o ρ w' v:=by
 obtain ⟨dst,op,ty,pos,after,guard⟩:=o;have e:∀s,rdO op ty ρ=some s->(match rdO op ty ρ with|some s=>ag P s w' v|none=>True)->yl P ⟨dst,op,ty,pos,after,guard⟩ ρ w' v:=by
  intro s hs h;rw [hs] at h;exact yw hs h
 cases op<;>simp only [nO,aB] at hr
 case move x=>simp only [yl,execOp,pure,Sem.run] at hy ⊢;injection hy with a b;rw [a]
 case pick c a b=>
  simp only [yl,execOp] at hy ⊢
  cases hc:ρ c<;>simp [hc,asBool,stuck] at hy ⊢;exact hy
 case extract t i=>
  simp only [yl,execOp,Instr.extract] at hy ⊢
  cases ht:ρ t<;>simp [ht,stuck] at hy ⊢;rename_i vs
  cases hv:vs[i]? <;>simp [hv] at hy ⊢;exact hy
 case nilCheck x=>
  simp only [free,aB,false_or,agS] at h;obtain ⟨u,h1,rfl⟩:=MO (dst:=dst) (ty:=ty) (pos:=pos) (after:=after) (g:=guard) h;exact h1
 case load t x=>
  simp only [free,aB,false_or,agS,ldG] at h;exact UG h
 case call c=>
  obtain ⟨d,args,ts⟩:=c
  cases d with
  |value f=>simp at hr
  |invoke r n=>simp at hr
  |builtin b=>
   cases b<;>simp at hr<;>(simp only [free,aB,false_or,agS] at h;exact e _ rfl h)
 all_goals (simp only [free,aB,false_or,agS] at h;exact e _ rfl h)
def eW (e:Edge):Bool:=Region.binds .any e
def tb (m i:Nat):Bool:=Nat.beq (Nat.land (dc m i) 1) 1
def sb (m i:Nat):Nat:=Nat.lor m (Nat.pow 2 i)
def EW (m i:Nat):tb m i=m.testBit i:=by
 have h:Nat.land (dc m i) 1=(m>>>i)%2:=Nat.and_one_is_mod _;unfold tb;rw [h,Nat.testBit_eq_decide_div_mod_eq,<-Nat.shiftRight_eq_div_pow];have h2:m>>>i%2<2:=Nat.mod_lt _ (by decide);generalize m>>>i%2=x at h2
 match x,h2 with
 |0,_=>rfl
 |1,_=>rfl
def MP (m i j:Nat):tb (sb m i) j=if i=j then true else tb m j:=by
 rw [EW,EW];show (m|||2^i).testBit j=_;rw [Nat.testBit_or,Nat.testBit_two_pow];by_cases e:i=j<;>simp [e]
def jW (done:Nat) (n:Nat):Nat:=(List.range n).countP λi=> !tb done i
def rdy (done:Nat) (o:Oper):Bool:=o.after.toList.all λe=> !eW e||tb done e.on
def kV (done:Nat):List Oper->Nat->Option (Nat×Oper)
 | [],_=>none
 |o::os,i=>match !tb done i&&(nO o.op&&rdy done o) with
  |true=>some (i,o)
  |false=>kV done os (i+1)
def kW (done:Nat):List Oper->Nat->List (Nat×Oper)
 | [],_=> []
 |o::os,i=>match !tb done i&&(!nO o.op&&rdy done o) with
  |true=>(i,o)::kW done os (i+1)
  |false=>kW done os (i+1)
def acA (acc:List Nat) (o:Oper):Nat:=o.after.toList.foldl (λs e=>match eW e with|true=>s|||2^e.on|||acc.getD e.on 0|false=>s) 0
def UH:List Oper->List Nat->List Nat
 | [],acc=>acc
 |o::os,acc=>UH os (acc++ [acA acc o])
def EX (done:Nat) (m:Nat):List Oper->Nat->List Oper
 | [],_=> []
 |o::os,i=>match tb done i&&(nO o.op&&(!free o.op&& !tb m i)) with
  |true=>o::EX done m os (i+1)
  |false=>EX done m os (i+1)
def lF (o:Oper) (fr:Fr):ab:=
 match o.dst with
 |some d=>fr.getD d undef
 |none=>undef
def gq (x:ab) (a:Bool) (A:Prop):Prop:=
 match x with
 | .bool b=>match b,a with
  |true,true=>A
  |false,false=>A
  |_,_=>True
 |_=>True
def ja (P:Program) (ops:List Oper):List Oper->Fr->al->Prop->Prop
 | [],_,_,X=>X
 |o::rest,fr,w,X=>
  (match o.guard with
   |none=>agS P o.op o.type (evO fr) w (lF o fr)
   |some (j,want)=>gq (s8 ops j fr) want (agS P o.op o.type (evO fr) w (lF o fr)))/\ja P ops rest fr w X
def gdR (x:ab) (c:Bool) (a:(ab->Prop)->Prop) (k:ab->Prop):Prop:=
 match x with
 | .bool b=>match b,c with
  |true,true=>a k
  |false,false=>a k
  |_,_=>k undef
 |_=>k undef
def Qi (P:Program) (ops:List Oper) (o:Oper) (fr:Fr) (w:al) (k:ab->Prop):Prop:=
 match o.guard with
 |none=>rdS P o.op o.type (evO fr) w k
 |some (j,want)=>gdR (s8 ops j fr) want (λk=>rdS P o.op o.type (evO fr) w k) k
def UI {α:Type} (f:α->Prop):α->List α->Prop
 |x,[]=>f x
 |x,y::l=>f x/\UI f y l
def nP (P:Program) (ops:List Oper) (bef:List Nat) (k:KF):Nat->Nat->Fr->al->Prop
 |0,_,fr,w=>k fr w
 |n+1,done,fr,w=>
  match kV done ops 0 with
  |some (i,o)=>Qi P ops o fr w (λv=>nP P ops bef k n (sb done i) (put fr o.dst v) w)
  |none=>match kW done ops 0 with
   | []=>k fr w
   |x::l=>UI (λio=>xU P ops io.2 fr w (λv w'=>ja P ops (EX done (bef.getD io.1 0) ops 0) (put fr io.2.dst v) w' (nP P ops bef k n (sb done io.1) (put fr io.2.dst v) w'))) x l
def pf (ops:List Oper) (o:Oper):List Tmp:=
 (o.op.operands.toList.filterMap λ| .tmp t=>some t|_=>none)++
 (match o.guard with
  |some (g,_)=>((ops[g]?).bind (·.dst)).toList
  |none=> [])
def qJ:Op->Bool
 | .select ..=>false
 |_=>true
def uF (ops:List Oper) (bef:List Nat) (k:Nat) (o:Oper) (j:Nat) (p:Oper):Bool:=
 Nat.beq j k||
 (match o.dst with
  |none=>true
  |some s=>
   match nO o.op with
   |true=> !(p.dst==some s)&&(!(pf ops p).contains s||tb (bef.getD j 0) k)
   |false=>(!(p.dst==some s)&& !(pf ops p).contains s)||(tb (bef.getD j 0) k||tb (bef.getD k 0) j))
def n8 (ops:List Oper) (nt:Nat) (o:Oper):Bool:=
 match o.dst with
 |none=> !nO o.op
 |some d=>Nat.blt d nt&&(!nO o.op|| !(pf ops o).contains d)
def UJ (P:Program) (nt:Nat) (ops:List Oper) (bef:List Nat) (k:Nat) (o:Oper):Bool:=
 Qd P o.op&&qJ o.op&&n8 ops nt o&&
 (o.after.toList.all λe=> !eW e||Nat.blt e.on k)&&
 (match o.guard with
  |none=>true
  |some (j,_)=>tb (bef.getD k 0) j)&&
 ((List.range ops.length).all λi=> !tb (bef.getD k 0) i||o.after.toList.any λe=>eW e&&(Nat.beq e.on i||tb (bef.getD e.on 0) i))&&
 (List.range ops.length).all λj=>match ops[j]? with
  |none=>true
  |some p=>uF ops bef k o j p
def ju (P:Program) (nt:Nat) (ops:List Oper) (bef:List Nat):Bool:=
 (List.range ops.length).all λk=>match ops[k]? with
  |none=>true
  |some o=>UJ P nt ops bef k o
structure acB (P:Program) (nt:Nat) (ops:List Oper) (bef:List Nat) (k:Nat) (o:Oper):Prop where
 ok:Qd P o.op=true
 sel:qJ o.op=true
 self:n8 ops nt o=true
 back:∀e∈o.after.toList,eW e=true->e.on<k
 gua:∀j want,o.guard=some (j,want)->tb (bef.getD k 0) j=true
 anc:∀i,i<ops.length->tb (bef.getD k 0) i=true->∃e∈o.after.toList,eW e=true/\(e.on=i\/tb (bef.getD e.on 0) i=true)
 pair:∀j p,ops[j]? =some p->uF ops bef k o j p=true
def bu {P:Program} {nt:Nat} {ops:List Oper} {bef:List Nat} (h:ju P nt ops bef=true) {k:Nat} {o:Oper} (hk:ops[k]? =some o):acB P nt ops bef k o:=by
 have a:k<ops.length:=by
  rcases ch k ops.length with h|h
  ·exact h
  ·rw [cg h] at hk;cases hk
 unfold ju at h;have h1:=List.all_eq_true.1 h k (List.mem_range.2 a);rw [hk] at h1;simp only [UJ,aq] at h1;obtain ⟨⟨⟨⟨⟨⟨a1,a2⟩,a3⟩,a4⟩,a5⟩,a6⟩,a7⟩:=h1;refine ⟨a1,a2,a3,?_,?_,?_,?_⟩
 ·intro e he hb;have:=List.all_eq_true.1 a4 e he;simp only [hb,b0,co] at this
  rwa [dv] at this
 ·intro j c hg;rw [hg] at a5;exact a5
 ·intro i hi ht;have:=List.all_eq_true.1 a6 i (List.mem_range.2 hi);simp only [ht,b0,co] at this;obtain ⟨e,he,hb⟩:=List.any_eq_true.1 this;simp only [aq,b5] at hb;exact ⟨e,he,hb.1,hb.2.imp a9 id⟩
 ·intro j p hj;have b:j<ops.length:=by
   rcases ch j ops.length with h|h
   ·exact h
   ·rw [cg h] at hj;cases hj
  have:=List.all_eq_true.1 a7 j (List.mem_range.2 b);rw [hj] at this;exact this
def jX {ops:List Oper} {o:Oper} {fr fr':Fr} (h:∀s∈pf ops o,fr.getD s undef=fr'.getD s undef):eV ops o fr=eV ops o fr'/\(qJ o.op=true->execOp (evO fr) o=execOp (evO fr') o):=by
 constructor
 ·unfold eV
  cases hg:o.guard with
  |none=>rfl
  |some g=>
   obtain ⟨j,a⟩:=g;simp only [s8]
   cases hd:(ops[j]?).bind (·.dst) with
   |none=>rfl
   |some d=>simp only;rw [h d (by unfold pf;rw [hg];simp [hd])]
 ·intro hs;refine execOp_congr o (λcs b e=>by rw [e] at hs;cases hs) λx hx=> ?_
  cases x with
  |tmp t=>exact h t (List.mem_append_left _ (List.mem_filterMap.2 ⟨.tmp t,by simpa using hx,rfl⟩))
  |_=>rfl
def fb {fr:Fr} {d:Option Tmp} {v:ab} {s:Nat} (h:d≠some s):(put fr d v).getD s undef=fr.getD s undef:=by
 cases d with
 |none=>rfl
 |some d=>
  have a:d≠s:=λe=>h (by rw [e])
  simp [put,aA,List.getElem?_set_ne a]
def gz {fr:Fr} {d:Nat} {v:ab} (h:d<fr.length):(put fr (some d) v).getD d undef=v:=by
 simp [put,aA,h]
def fX (fr:Fr) (d:Option Tmp) (v:ab):(put fr d v).length=fr.length:=by cases d<;>simp [put]
def Ib {done:Nat}:∀(l:List Oper) (i:Nat),kV done l i=none->∀j o,l[j]? =some o->tb done (i+j)=false->rdy done o=true->nO o.op=false:=by
 intro l
 induction l with
 |nil=>intro i _ j o h;simp at h
 |cons x l ih=>
  intro i h j o hj hd hr;unfold kV at h;split at h
  ·cases h
  ·rename_i hx
   cases j with
   |zero=>
    simp only [ca,Option.some.injEq] at hj;subst hj;simp only [b6] at hd;simp only [hd,hr,cm,cn,cc] at hx;exact hx
   |succ j=>
    simp only [cb] at hj;exact ih (i+1) h j o hj (by rw [<-hd];congr 1;omega) hr
def jY {done:Nat}:∀(l:List Oper) (i:Nat) (k:Nat) (o:Oper),kV done l i=some (k,o)->∃j,k=i+j/\l[j]? =some o/\tb done k=false/\rdy done o=true/\nO o.op=true:=by
 intro l
 induction l with
 |nil=>intro i k o h;cases h
 |cons x l ih=>
  intro i k o h;unfold kV at h;split at h
  ·rename_i hx;simp only [Option.some.injEq,Prod.mk.injEq] at h;obtain ⟨rfl,rfl⟩:=h;simp only [aq,a8] at hx;exact ⟨0,rfl,rfl,hx.1,hx.2.2,hx.2.1⟩
  ·obtain ⟨j,e,h2⟩:=ih (i+1) k o h;exact ⟨j+1,by omega,by simpa using h2⟩
def Qj {done:Nat}:∀(l:List Oper) (i:Nat) (j:Nat) (o:Oper),l[j]? =some o->tb done (i+j)=false->rdy done o=true->nO o.op=false->(i+j,o)∈kW done l i:=by
 intro l
 induction l with
 |nil=>intro i j o h;simp at h
 |cons x l ih=>
  intro i j o hj hd hr hn;unfold kW
  cases j with
  |zero=>
   simp only [ca,Option.some.injEq] at hj;subst hj;simp only [b6] at hd ⊢;simp only [hd,hr,hn,cm,cc];exact bl
  |succ j=>
   simp only [cb] at hj;have:=ih (i+1) j o hj (by rw [<-hd];congr 1;omega) hr hn;have e:i+1+j=i+(j+1):=by omega
   rw [e] at this;split
   ·exact bx _ this
   ·exact this
def UK {α:Type} {f:α->Prop}:∀(l:List α) (x:α),UI f x l->∀y∈x::l,f y:=by
 intro l
 induction l with
 |nil=>intro x h y hy;simp at hy;subst hy;exact h
 |cons z l ih=>
  intro x h y hy;rcases List.mem_cons.1 hy with rfl|hy
  ·exact h.1
  ·exact ih z h.2 y hy
def UL {done:Nat} {m:Nat}:∀(l:List Oper) (i:Nat) (j:Nat) (o:Oper),l[j]? =some o->tb done (i+j)=true->nO o.op=true->free o.op=false->tb m (i+j)=false->o∈EX done m l i:=by
 intro l
 induction l with
 |nil=>intro i j o h;simp at h
 |cons x l ih=>
  intro i j o hj hd hr hf hm;unfold EX
  cases j with
  |zero=>
   simp only [ca,Option.some.injEq] at hj;subst hj;simp only [b6] at hd hm;simp only [hd,hr,hf,hm,cm,cc];exact bl
  |succ j=>
   simp only [cb] at hj;have e:i+1+j=i+(j+1):=by omega
   have:=ih (i+1) j o hj (by rw [e];exact hd) hr hf (by rw [e];exact hm);split
   ·exact bx _ this
   ·exact this
def Bu {P:Program} {ops:List Oper} {fr:Fr} {w:al} {X:Prop}:∀(l:List Oper),ja P ops l fr w X->X/\∀o∈l,eV ops o fr=true->agS P o.op o.type (evO fr) w (lF o fr):=by
 intro l
 induction l with
 |nil=>intro h;exact ⟨h,λo ho=>by cases ho⟩
 |cons x l ih=>
  intro h;unfold ja at h;obtain ⟨h1,h2⟩:=h;obtain ⟨hX,hl⟩:=ih h2;refine ⟨hX,λo ho hw=> ?_⟩;rcases List.mem_cons.1 ho with rfl|ho
  ·unfold eV at hw
   cases hg:o.guard with
   |none=>rw [hg] at h1;exact h1
   |some g=>
    obtain ⟨j,a⟩:=g;rw [hg] at h1 hw;simp only [gq] at h1;simp only [isB] at hw
    cases hx:s8 ops j fr<;>rw [hx] at h1 hw<;>simp at hw;subst hw;rename_i b
    cases b<;>exact h1
  ·exact hl o ho hw
def uG:∀(l:List Bool) (i:Nat),i<l.length->l.getD i false=false->(l.set i true).count false+1=l.count false:=by
 intro l
 induction l with
 |nil=>intro i h;simp at h
 |cons x l ih=>
  intro i h hx
  cases i with
  |zero=>simp at hx;subst hx;simp
  |succ i=>
   simp at h hx;have:=ih i h (by simpa using hx);simp only [List.set_cons_succ,List.count_cons];omega
def n9:∀(l:List Bool),l.count false=0->∀i,i<l.length->l.getD i false=true:=by
 intro l
 induction l with
 |nil=>intro _ i h;simp at h
 |cons x l ih=>
  intro h i hi
  cases x with
  |false=>simp at h
  |true=>
   cases i with
   |zero=>simp
   |succ i=>simp at hi h;simpa using ih (by simpa using h) i hi
def xV {p q:Nat->Bool} {i:Nat} (c:p i=true) (a:q i=false) (h:∀j,j≠i->p j=q j):∀(n:Nat),i<n->(List.range n).countP q+1=(List.range n).countP p:=by
 have b:∀n,n<=i->(List.range n).countP q=(List.range n).countP p:=by
  intro n hn;refine List.countP_congr λj hj=> ?_
  rw [cw] at hj;rw [h j (by omega)]
 intro n
 induction n with
 |zero=>intro h;omega
 |succ n ih=>
  intro hi;rw [List.range_succ,cF,cF];by_cases e:i=n
  ·subst e;rw [b i (cD _)];simp [c,a]
  ·have:=ih (by omega);simp only [List.countP_singleton];rw [h n (λe'=>e e'.symm)];omega
def yx {done i n:Nat} (hi:i<n) (h:tb done i=false):jW (sb done i) n+1=jW done n:=by
 unfold jW;refine xV (i:=i) (by simp [h]) (by simp [MP]) (λj hj=> ?_) n hi;rw [MP,if_neg (λe=>hj e.symm)]
def Bv {done n:Nat} (h:jW done n=0) (i:Nat) (hi:i<n):tb done i=true:=by
 unfold jW at h;rw [List.countP_eq_zero] at h;have:=h i (List.mem_range.2 hi);simpa using this
def MQ (i:Nat):tb 0 i=false:=by rw [EW];exact c4 i
structure Inv (P:Program) (nt:Nat) (ops:List Oper) (listed:Array Bool) (frs:Fr) (done:Nat) (fr:Fr) (w:al):Prop where
 szL:listed.size=ops.length
 lenS:frs.length=nt
 len:fr.length=nt
 sub:∀i,listed.getD i false=true->tb done i=true
 dcL:∀i o e,ops[i]? =some o->listed.getD i false=true->e∈o.after.toList->eW e=true->listed.getD e.on false=true
 dcD:∀i o e,ops[i]? =some o->tb done i=true->e∈o.after.toList->eW e=true->tb done e.on=true
 only:∀i o,ops[i]? =some o->tb done i=true->listed.getD i false=false->nO o.op=true/\(eV ops o fr=true->yl P o (evO fr) w (lF o fr))/\(eV ops o fr=false->lF o fr=undef)
 agree:∀s,(∀i o,ops[i]? =some o->tb done i=true->listed.getD i false=false->o.dst≠some s)->fr.getD s undef=frs.getD s undef
section
variable {P:Program} {nt:Nat} {ops:List Oper} {bef:List Nat}
def de {k:Nat} {o:Oper} (hk:ops[k]? =some o):k<ops.length:=by
 rcases ch k ops.length with h|h
 ·exact h
 ·rw [cg h] at hk;cases hk
def jZ (d:ju P nt ops bef=true) (S:Nat->Prop) (hS:∀i o e,ops[i]? =some o->S i->e∈o.after.toList->eW e=true->S e.on):
  ∀k o,ops[k]? =some o->(∀e∈o.after.toList,eW e=true->S e.on)->∀i,i<ops.length->tb (bef.getD k 0) i=true->S i:=by
 intro k
 induction k using c7 with
 |_ k ih=>
  intro o hk hp i hi ht;have F:=bu d hk;obtain ⟨e,he,hb,h⟩:=F.anc i hi ht;rcases h with rfl|h
  ·exact hp e he hb
  ·have a:=F.back e he hb;have c:e.on<ops.length:=dk a (de hk);have ho:ops[e.on]? =some ops[e.on]:=b8 c;exact ih e.on a _ ho (λe' b f=>hS e.on _ e' ho (hp e he hb) b f) i hi h
def Bw (a:ju P nt ops bef=true) {k:Nat} {o:Oper} (hk:ops[k]? =some o) {d:Nat} (hd:o.dst=some d):d<nt:=by
 have:=(bu a hk).self;simp only [n8,hd,aq] at this;have:=this.1
 rwa [dv] at this
def EY (a:ju P nt ops bef=true) {k:Nat} {o:Oper} (hk:ops[k]? =some o) (hr:nO o.op=true) {fr:Fr} (hl:fr.length=nt) (v:ab):lF o (put fr o.dst v)=v:=by
 unfold lF
 cases hd:o.dst with
 |none=>have:=(bu a hk).self;simp [n8,hd,hr] at this
 |some d=>exact gz (by rw [hl];exact Bw a hk hd)
def Inv.read (g:ju P nt ops bef=true) {b:Array Bool} {r:Fr} {done:Nat} {fr:Fr} {w:al} (I:Inv P nt ops b r done fr w) {k:Nat} {o:Oper} (hk:ops[k]? =some o) (hd:tb done k=false) (hr:rdy done o=true) (f:nO o.op=true)
  {v:ab} (hy:eV ops o fr=true->yl P o (evO fr) w v) (hn:eV ops o fr=false->v=undef):Inv P nt ops b r (sb done k) (put fr o.dst v) w:=by
 have y:=de hk;have F:=bu g hk;have t:∀e∈o.after.toList,eW e=true->tb done e.on=true:=by
  intro e he hb;have:=List.all_eq_true.1 hr e he;simpa [hb] using this
 have x:b.getD k false=false:=by
  cases h:b.getD k false with
  |false=>rfl
  |true=>rw [I.sub k h] at hd;cases hd
 have n:∀s∈pf ops o,o.dst≠some s:=by
  intro s hs e;have:=F.self;simp only [n8,e,aq,f,b0,co,a8] at this;have h2:=this.2;rw [List.contains_iff_mem.2 hs] at h2
  cases h2
 have m:∀j p,ops[j]? =some p->tb done j=true->p.dst≠o.dst/\∀s∈pf ops p,o.dst≠some s:=by
  intro j p hj q;have u:j≠k:=λe=>by subst e;rw [q] at hd;cases hd
  have hp:=F.pair j p hj
  cases hdst:o.dst with
  |none=>have:=F.self;simp [n8,hdst,f] at this
  |some d=>
   simp only [uF,hdst,f,b5,aq,a8] at hp;rcases hp with hp|⟨hp1,hp2⟩
   ·exact absurd (a9 hp) u
   ·refine ⟨λe=>by rw [e] at hp1;simp at hp1,λs hs e=> ?_⟩;simp only [Option.some.injEq] at e;subst e;rcases hp2 with hp2|hp2
    ·rw [List.contains_iff_mem.2 hs] at hp2;cases hp2
    ·have:=jZ g (λi=>tb done i=true) I.dcD j p hj (λe he hb=>I.dcD j p e hj q he hb) k y hp2;rw [this] at hd;cases hd
 have c:∀j,tb (sb done k) j=if k=j then true else tb done j:=λj=>MP done k j
 refine ⟨I.szL,I.lenS,by rw [fX];exact I.len,?_,I.dcL,?_,?_,?_⟩
 ·intro i hi;rw [c];split
  ·rfl
  ·exact I.sub i hi
 ·intro i p e hi a he hb;rw [c] at a ⊢;split
  ·rfl
  ·split at a
   ·rename_i e1;subst e1;rw [hk] at hi;cases hi;exact t e he hb
   ·exact I.dcD i p e hi a he hb
 ·intro i p hi a l;rw [c] at a;split at a
  ·rename_i e1;subst e1;rw [hk] at hi;cases hi;have hs:=jX (ops:=ops) (o:=o) (fr:=put fr o.dst v) (fr':=fr) (λs hs=>fb (n s hs));refine ⟨f,λhw=> ?_,λhw=> ?_⟩
   ·rw [EY g hk f I.len];rw [hs.1] at hw;unfold yl;rw [hs.2 F.sel];exact hy hw
   ·rw [EY g hk f I.len];rw [hs.1] at hw;exact hn hw
  ·obtain ⟨A,z⟩:=m i p hi a;have hs:=jX (ops:=ops) (o:=p) (fr:=put fr o.dst v) (fr':=fr) (λs hs=>fb (z s hs));have hv:lF p (put fr o.dst v)=lF p fr:=by
    unfold lF
    cases hpd:p.dst with
    |none=>rfl
    |some d=>exact fb (λe=>A (by rw [hpd,e]))
   obtain ⟨b1,b2,b3⟩:=I.only i p hi a l;refine ⟨b1,λhw=> ?_,λhw=> ?_⟩
   ·rw [hs.1] at hw;rw [hv];unfold yl;rw [hs.2 (bu g hi).sel];exact b2 hw
   ·rw [hs.1] at hw;rw [hv];exact b3 hw
 ·intro s hs;have h1:=hs k o hk (by rw [c,if_pos rfl]) x;rw [fb h1];exact I.agree s (λi p hi a l=>hs i p hi (by rw [c];split;exact rfl;exact a) l)
def Inv.catch (h:ju P nt ops bef=true) {a:Array Bool} {f:Fr} {done:Nat} {fr:Fr} {w:al} (I:Inv P nt ops a f done fr w) {k:Nat} {o:Oper} (hk:ops[k]? =some o) (hd:tb done k=true)
  (hp:∀e∈o.after.toList,eW e=true->a.getD e.on false=true) {v:ab} (hv:lF o fr=v):Inv P nt ops (a.setIfInBounds k true) (put f o.dst v) done fr w:=by
 have l:=de hk;have c:∀j,(a.setIfInBounds k true).getD j false=if k=j then true else a.getD j false:=by
  intro j;have g:k<a.size:=by rw [I.szL];exact l
  by_cases e:k=j
  ·subst e;simp [ar,g]
  ·simp [ar,e]
 refine ⟨by simp [I.szL],by rw [fX];exact I.lenS,I.len,?_,?_,I.dcD,?_,?_⟩
 ·intro i hi;rw [c] at hi;split at hi
  ·rename_i e;subst e;exact hd
  ·exact I.sub i hi
 ·intro i p e hi b he hb;rw [c] at b ⊢;split
  ·rfl
  ·split at b
   ·rename_i e1;subst e1;rw [hk] at hi;cases hi;exact hp e he hb
   ·exact I.dcL i p e hi b he hb
 ·intro i p hi d b;rw [c] at b;split at b
  ·cases b
  ·exact I.only i p hi d b
 ·intro s hs;by_cases e:o.dst=some s
  ·rw [e];rw [gz (by rw [I.lenS];exact Bw h hk e)];rw [<-hv];unfold lF;rw [e]
  ·rw [fb e];refine I.agree s (λi p hi d b=> ?_);by_cases e1:k=i
   ·subst e1;rw [hk] at hi;cases hi;exact e
   ·exact hs i p hi d (by rw [c,if_neg e1];exact b)
def Inv.act (l:ju P nt ops bef=true) {a:Array Bool} {u:Fr} {done:Nat} {fr:Fr} {w:al} (I:Inv P nt ops a u done fr w) {k:Nat} {o:Oper} (hk:ops[k]? =some o) (hd:tb done k=false) (B:nO o.op=false)
  (hp:∀e∈o.after.toList,eW e=true->a.getD e.on false=true) {v:ab} {w':al}
  (C:∀p∈EX done (bef.getD k 0) ops 0,eV ops p (put fr o.dst v)=true->agS P p.op p.type (evO (put fr o.dst v)) w' (lF p (put fr o.dst v))):
  Inv P nt ops (a.setIfInBounds k true) (put u o.dst v) (sb done k) (put fr o.dst v) w':=by
 have x:=de hk;have F:=bu l hk;have g:∀j,tb (sb done k) j=if k=j then true else tb done j:=λj=>MP done k j
 have f:∀j,(a.setIfInBounds k true).getD j false=if k=j then true else a.getD j false:=by
  intro j;have y:k<a.size:=by rw [I.szL];exact x
  by_cases e:k=j
  ·subst e;simp [ar,y]
  ·simp [ar,e]
 have t:∀j p,ops[j]? =some p->tb done j=true->a.getD j false=false->tb (bef.getD k 0) j=false:=by
  intro j p hj n q
  cases ht:tb (bef.getD k 0) j with
  |false=>rfl
  |true=>
   have:=jZ l (λi=>a.getD i false=true) I.dcL k o hk hp j (de hj) ht;rw [this] at q;cases q
 have r:∀j p,ops[j]? =some p->tb done j=true->a.getD j false=false->(o.dst≠none->p.dst≠o.dst)/\∀s∈pf ops p,o.dst≠some s:=by
  intro j p hj n q;have m:j≠k:=λe=>by subst e;rw [n] at hd;cases hd
  have hp':=F.pair j p hj
  cases hdst:o.dst with
  |none=>exact ⟨λh=>absurd rfl h,λs _ e=>by cases e⟩
  |some d=>
   simp only [uF,hdst,B,b5,aq,a8] at hp';rcases hp' with hp'|⟨hp1,hp2⟩|hp'|hp'
   ·exact absurd (a9 hp') m
   ·refine ⟨λ_ e=>by rw [e] at hp1;simp at hp1,λs hs e=> ?_⟩;simp only [Option.some.injEq] at e;subst e;rw [List.contains_iff_mem.2 hs] at hp2;cases hp2
   ·have:=jZ l (λi=>tb done i=true) I.dcD j p hj (λe he hb=>I.dcD j p e hj n he hb) k x hp';rw [this] at hd;cases hd
   ·rw [t j p hj n q] at hp';cases hp'
 refine ⟨by simp [I.szL],by rw [fX];exact I.lenS,by rw [fX];exact I.len,?_,?_,?_,?_,?_⟩
 ·intro i hi;rw [g];rw [f] at hi;split
  ·rfl
  ·rename_i e;rw [if_neg e] at hi;exact I.sub i hi
 ·intro i p e hi c he hb;rw [f] at c ⊢;split
  ·rfl
  ·split at c
   ·rename_i e1;subst e1;rw [hk] at hi;cases hi;exact hp e he hb
   ·exact I.dcL i p e hi c he hb
 ·intro i p e hi b he hb;rw [g] at b ⊢;split
  ·rfl
  ·split at b
   ·rename_i e1;subst e1;rw [hk] at hi;cases hi;exact I.sub _ (hp e he hb)
   ·exact I.dcD i p e hi b he hb
 ·intro i p hi b c;rw [g] at b;rw [f] at c;split at c
  ·cases c
  ·rename_i e1;rw [if_neg e1] at b;obtain ⟨A,z⟩:=r i p hi b c;have hs:=jX (ops:=ops) (o:=p) (fr:=put fr o.dst v) (fr':=fr) (λs hs=>fb (z s hs));have hv:lF p (put fr o.dst v)=lF p fr:=by
    unfold lF
    cases hpd:p.dst with
    |none=>rfl
    |some d=>
     refine fb (λe=> ?_);exact A (by rw [e];simp) (by rw [hpd,e])
   obtain ⟨b1,b2,b3⟩:=I.only i p hi b c;refine ⟨b1,λhw=> ?_,λhw=> ?_⟩
   ·have hy:yl P p (evO (put fr o.dst v)) w (lF p (put fr o.dst v)):=by
     rw [hv];unfold yl;rw [hs.2 (bu l hi).sel];exact b2 (by rw [<-hs.1];exact hw)
    refine Qh b1 hy ?_
    cases hf:free p.op with
    |true=>exact .inl rfl
    |false=>exact .inr (C p (UL ops 0 i p hi (by simpa using b) b1 hf (by simpa using t i p hi b c)) hw)
   ·rw [hv];exact b3 (by rw [<-hs.1];exact hw)
 ·intro s hs;by_cases e:o.dst=some s
  ·rw [e,gz (by rw [I.len];exact Bw l hk e),gz (by rw [I.lenS];exact Bw l hk e)]
  ·rw [fb e,fb e];refine I.agree s (λi p hi b c=> ?_);have m:k≠i:=λe1=>by subst e1;rw [b] at hd;cases hd
   exact hs i p hi (by rw [g,if_neg m];exact b) (by rw [f,if_neg m];exact c)
def Qk {o:Oper} {fr:Fr} {w:al} {k:ab->Prop} (h:Qi P ops o fr w k):∃v,(eV ops o fr=true->yl P o (evO fr) w v)/\(eV ops o fr=false->v=undef)/\k v:=by
 unfold Qi at h;unfold eV
 cases hg:o.guard with
 |none=>
  rw [hg] at h;obtain ⟨v,h1,h2⟩:=qI h;exact ⟨v,λ_=>h1,(λh=>by cases h),h2⟩
 |some g=>
  obtain ⟨j,a⟩:=g;rw [hg] at h;simp only [gdR] at h;simp only [isB]
  cases hx:s8 ops j fr<;>rw [hx] at h<;>simp only at h ⊢
  case bool b=>
   cases b<;>cases a<;>simp only at h
   ·obtain ⟨v,h1,h2⟩:=qI h;exact ⟨v,λ_=>h1,(λh=>by cases h),h2⟩
   ·exact ⟨undef,(λh=>by cases h),λ_=>rfl,h⟩
   ·exact ⟨undef,(λh=>by cases h),λ_=>rfl,h⟩
   ·obtain ⟨v,h1,h2⟩:=qI h;exact ⟨v,λ_=>h1,(λh=>by cases h),h2⟩
  all_goals exact ⟨undef,(λh=>by cases h),λ_=>rfl,h⟩
def Bx (f:ju P nt ops bef=true) {k:KF} {b:Array Bool} {c:Fr} {w:al}:∀(n:Nat) (done:Nat) (fr:Fr),Inv P nt ops b c done fr w->jW done ops.length<=n->nP P ops bef k n done fr w->
  ∃n' a fr',Inv P nt ops b c a fr' w/\jW a ops.length<=n'/\nP P ops bef k n' a fr' w/\kV a ops 0=none:=by
 intro n
 induction n with
 |zero=>
  intro done fr I hc h;refine ⟨0,done,fr,I,hc,h,?_⟩
  cases hf:kV done ops 0 with
  |none=>rfl
  |some x=>
   obtain ⟨i,o⟩:=x;obtain ⟨j,e,hj,hd,_⟩:=jY ops 0 i o hf;have:=Bv (n:=ops.length) (done:=done) (by omega) i (by have:=de hj;omega);rw [this] at hd;cases hd
 |succ n ih=>
  intro done fr I hc h
  cases hf:kV done ops 0 with
  |none=>exact ⟨n+1,done,fr,I,hc,h,hf⟩
  |some x=>
   obtain ⟨i,o⟩:=x;obtain ⟨j,e,hj,hd,hr,d⟩:=jY ops 0 i o hf;have e':i=j:=by omega
   subst e';unfold nP at h;rw [hf] at h;obtain ⟨v,h1,h2,h3⟩:=Qk h;have:=yx (n:=ops.length) (de hj) hd;exact ih _ _ (I.read f hj hd hr d h1 h2) (by omega) h3
def yy {a:Array Bool} (c:a.size=ops.length) {i:Nat} (h:i∈Region.ready .any ops.toArray a):∃o,ops[i]? =some o/\a.getD i false=false/\∀e∈o.after.toList,eW e=true->a.getD e.on false=true:=by
 unfold Region.ready at h;rw [c5,cw] at h;obtain ⟨hi,h⟩:=h;simp only [bq] at hi;have ho:ops[i]? =some ops[i]:=b8 hi;simp only [bL,ho,cU,b9,aq,a8] at h;refine ⟨_,ho,?_,?_⟩
 ·have b:i<a.size:=by rw [c];exact hi
  have:=h.1;simp only [ar,cv b,b9] at this ⊢;exact this
 ·intro e he hb;have:=(Array.all_eq_true_iff_forall_mem.1 h.2) e (by simpa using he);unfold eW at hb;rw [hb] at this;exact this
def Ic (d:ju P nt ops bef=true) {a:Array Bool} (f:a.size=ops.length) (h:Region.ready .any ops.toArray a= []):∀i,i<ops.length->a.getD i false=true:=by
 intro i
 induction i using c7 with
 |_ i ih=>
  intro hi
  cases hl:a.getD i false with
  |true=>rfl
  |false=>
   exfalso;have ho:ops[i]? =some ops[i]:=b8 hi;have F:=bu d ho;have hm:i∈Region.ready .any ops.toArray a:=by
    unfold Region.ready;rw [c5,cw];refine ⟨by simpa using hi,?_⟩;have g:i<a.size:=by rw [f];exact hi
    simp only [bL,ho,cU,b9,aq,a8];refine ⟨?_,?_⟩
    ·simp only [ar,cv g,b9] at hl ⊢;exact hl
    ·refine Array.all_eq_true_iff_forall_mem.2 λe he=> ?_
     have c:e∈(ops[i]).after.toList:=by simpa using he
     cases hb:Region.binds .any e with
     |false=>rfl
     |true=>
      have b:=F.back e c hb;simp [ih e.on b (dk b hi)]
   rw [h] at hm;cases hm
def UM {a b:Fr} (hl:a.length=b.length) (h:∀s,a.getD s undef=b.getD s undef):a=b:=by
 refine List.ext_getElem hl λi h1 h2=> ?_
 have:=h i;simpa [aA,h1,h2] using this
def EZ {k:KF} {a:Array Bool} {c:Fr} {w:al} {n:Nat} {done:Nat} {fr:Fr} (I:Inv P nt ops a c done fr w) (hl:∀i,i<ops.length->a.getD i false=true) (h:nP P ops bef k n done fr w):k c w:=by
 have f:fr=c:=by
  refine UM (by rw [I.len,I.lenS]) λs=>I.agree s λi o hi g d=> ?_
  rw [hl i (de hi)] at d;cases d
 subst f;have b:∀i,i<ops.length->tb done i=true:=λi hi=>I.sub i (hl i hi)
 cases n with
 |zero=>exact h
 |succ n=>
  unfold nP at h;have hf:kV done ops 0=none:=by
   cases hf:kV done ops 0 with
   |none=>rfl
   |some x=>
    obtain ⟨i,o⟩:=x;obtain ⟨j,e,hj,hd,_⟩:=jY ops 0 i o hf;have:=b i (by have:=de hj;omega);rw [this] at hd;cases hd
  rw [hf] at h;have hn:kW done ops 0= []:=by
   have key:∀(l:List Oper) (i:Nat),(∀j,j<l.length->tb done (i+j)=true)->kW done l i= []:=by
    intro l
    induction l with
    |nil=>intro i _;rfl
    |cons x l ih=>
     intro i hh;unfold kW;have h0:=hh 0 (by simp);simp only [b6] at h0;simp only [h0,b0,b7];exact ih (i+1) (λj hj=>by have:=hh (j+1) (by simpa using hj);rw [show i+1+j=i+(j+1) by omega];exact this)
   exact key ops 0 (λj hj=>by simpa using b j hj)
  rw [hn] at h;exact h
def UN {ro:Option Nat} {ds:List Deferred} (b:ju P nt ops bef=true) {Q:Exit->Act->al->Prop} {k:KF} (hk:∀fr w,fr.length=nt->k fr w->Q .normal (be ds fr) w):
  ∀(m:Nat) (a:Array Bool) (f:Fr) (w:al) (n:Nat) (done:Nat) (fr:Fr),Inv P nt ops a f done fr w->jW done ops.length<=n->a.toList.count false<=m->nP P ops bef k n done fr w->wpAnyIn (FW ro) 0 P .any ops.toArray Q m a (be ds f) w:=by
 intro m
 induction m with
 |zero=>
  intro a f w n done fr I hc hm h;have hl:∀i,i<ops.length->a.getD i false=true:=by
   intro i hi;have:=n9 a.toList (by omega) i (by simpa [I.szL] using hi);simpa [aA,ar] using this
  refine ⟨?_,hk _ _ I.lenS (EZ I hl h)⟩
  cases hr:Region.ready .any ops.toArray a with
  |nil=>rfl
  |cons i l=>
   obtain ⟨o,ho,q,_⟩:=yy I.szL (i:=i) (by rw [hr];exact bl);rw [hl i (de ho)] at q;cases q
 |succ m ih=>
  intro a f w n0 z H I0 C hm h0;obtain ⟨n,done,fr,I,hc,h,hf⟩:=Bx b n0 z H I0 C h0;refine ⟨λhr=>hk _ _ I.lenS (EZ I (Ic b I.szL hr) h),λi hi=> ?_⟩;obtain ⟨o,ho,q,hp⟩:=yy I.szL hi;have F:=bu b ho;have A:=de ho;have t:(a.setIfInBounds i true).toList.count false<=m:=by
   have:=uG a.toList i (by simpa [I.szL] using A) (by simpa [aA,ar] using q);simp only [Array.toList_setIfInBounds];omega
  unfold wpOpIn;simp only [bL,ho];rw [yv];have G:∀s∈pf ops o,fr.getD s undef=f.getD s undef:=by
   intro s hs;refine I.agree s λj p hj D y e=> ?_
   have r:=(I.only j p hj D y).1;have B:i≠j:=by
    intro e1;subst e1;rw [ho] at hj;cases hj;have:=F.self;simp only [n8,e,r,b0,co,aq,a8] at this;have h2:=this.2;rw [List.contains_iff_mem.2 hs] at h2
    cases h2
   have:=(bu b hj).pair i o ho;simp only [uF,e,r,b5,aq,a8] at this;rcases this with this|⟨_,this⟩
   ·exact B (a9 this)
   ·rcases this with this|this
    ·rw [List.contains_iff_mem.2 hs] at this;cases this
    ·have:=jZ b (λi=>a.getD i false=true) I.dcL i o ho hp j (de hj) this;rw [this] at y;cases y
  have g:=jX G;rw [<-g.1]
  cases hd:tb done i with
  |true=>
   obtain ⟨b1,b2,b3⟩:=I.only i o ho hd q
   cases hw:eV ops o fr with
   |true=>
    rw [if_pos rfl];refine ⟨λ_ _=>trivial,?_⟩;have hy:=b2 hw;unfold yl at hy;rw [g.2 F.sel] at hy;rw [fW,Oper.semAt_eq _ _ _ (λc e=>by rw [e] at b1;cases b1),hy,Oper.uponIn_value,fE];exact ih _ _ _ _ _ _ (I.catch b ho hd hp rfl) hc t h
   |false=>
    rw [if_neg (by simp),fE];exact ⟨λ_ _=>trivial,ih _ _ _ _ _ _ (I.catch b ho hd hp (b3 hw)) hc t h⟩
  |false=>
   have u:rdy done o=true:=by
    refine List.all_eq_true.2 λe he=> ?_
    cases hb:eW e with
    |false=>rfl
    |true=>rw [I.sub _ (hp e he hb)];rfl
   have r:=Ib ops 0 hf i o ho (by simpa using hd) u;have d:=Qj ops 0 i o ho (by simpa using hd) u r;simp only [cB] at d;have J:=yx (n:=ops.length) A hd
   cases n with
   |zero=>omega
   |succ n=>
    unfold nP at h;rw [hf] at h;have h2:xU P ops o fr w (λv w'=>ja P ops (EX done (bef.getD i 0) ops 0) (put fr o.dst v) w' (nP P ops bef k n (sb done i) (put fr o.dst v) w')):=by
     cases hn:kW done ops 0 with
     |nil=>rw [hn] at d;cases d
     |cons x l=>
      rw [hn] at h d;exact UK l x h (i,o) d
    have step:∀v w',ja P ops (EX done (bef.getD i 0) ops 0) (put fr o.dst v) w' (nP P ops bef k n (sb done i) (put fr o.dst v) w')->wpAnyIn (FW ro) 0 P .any ops.toArray Q m (a.setIfInBounds i true) (be ds (put f o.dst v)) w':=by
     intro v w' E;obtain ⟨h3,h4⟩:=Bu _ E;exact ih _ _ _ _ _ _ (I.act b ho hd r hp h4) (by omega) t h3
    cases hw:eV ops o fr with
    |true=>
     rw [if_pos rfl];refine ⟨λ_ _=>trivial,?_⟩;have h5:=yu (EV fr) F.ok (uE h2 hw);rw [g.2 F.sel] at h5;rw [fW,Oper.semAt_eq _ _ _ (λc e=>by have h6:=uE h2 hw;rw [e] at h6;exact h6.elim)];exact nY h5 step
    |false=>
     rw [if_neg (by simp),fE];exact ⟨λ_ _=>trivial,step _ _ (MN h2 hw)⟩
def Id {ro:Option Nat} {ds:List Deferred} (a:ju P nt ops bef=true) (hm:P.follows .mixedOrders=true) {Q:Exit->Act->al->Prop} {k:KF} (hk:∀fr w,fr.length=nt->k fr w->Q .normal (be ds fr) w) {id:Nat} {fr:Fr} {w:al} (hl:fr.length=nt)
  (h:nP P ops bef k ops.length 0 fr w.drew):(Code.region id ops.toArray true).wpIn (FW ro) 0 P Q (be ds fr) w:=by
 refine wpIn_region_any hm ?_;have hr:∀i,(Array.replicate ops.length false).getD i false=false:=λi=>by
  simp only [ar,Array.getElem?_replicate];split<;>rfl
 refine UN a hk _ _ _ _ ops.length 0 fr ⟨by simp,hl,hl,?_,?_,?_,?_,?_⟩ (by unfold jW;exact dl List.countP_le_length (by simp)) (by simp) h
 ·intro i h;simp only [bq,hr] at h;cases h
 ·intro i o e _ h;simp only [bq,hr] at h;cases h
 ·intro i o e _ h;rw [MQ] at h;cases h
 ·intro i o _ h;rw [MQ] at h;cases h
 ·intro s _;rfl
end
def af (x:ab) (A B:Prop):Prop:=
 match x with
 | .bool true=>A
 | .bool false=>B
 |_=>False
def aif (a:KF->KF) (fr:Fr) (w:al):Prop:=
 ∃(I:KF) (μ:Fr->al->Nat),I fr w/\∀fr w,I fr w->a (λfr' w'=>I fr' w'/\μ fr' w'<μ fr w) fr w
def exB (id:Nat) (k:KF) (e:Nat->KF) (j:Nat):KF:=
 match Nat.beq j id with
 |true=>k
 |false=>e j
def iG (P:Program):Code->KF->KF->(Nat->KF)->KF
 | .skip,k,_,_,fr,w=>k fr w
 | .region _ ops d,k,_,_,fr,w=>match d with
  |false=>Qg P ops.toList ops.toList k fr w
  |true=>nP P ops.toList (UH ops.toList []) k ops.toList.length 0 fr w.drew
 | .seq a b,k,r,e,fr,w=>iG P a (λfr w=>iG P b k r e fr w) r e fr w
 | .cond c x y,k,r,e,fr,w=>af (evO fr c) (iG P x k r e fr w) (iG P y k r e fr w)
 | .block id c,k,r,e,fr,w=>iG P c k r (exB id k e) fr w
 | .loop c,_,r,e,fr,w=>aif (λE fr w=>iG P c E r e fr w) fr w
 | .exit id,_,_,e,fr,w=>e id fr w
 | .ret,_,r,_,fr,w=>r fr w
 |_,_,_,_,_,_=>False
def fv (P:Program) (nt:Nat):Code->Bool
 | .region _ ops d=>match d with
  |false=>ops.toList.all λo=>Qd P o.op
  |true=>ju P nt ops.toList (UH ops.toList [])
 | .seq a b=>fv P nt a&&fv P nt b
 | .cond _ a b=>fv P nt a&&fv P nt b
 | .block _ c=>fv P nt c
 | .loop c=>fv P nt c
 |_=>true
def jb {P:Program} {ro:Option Nat} {ds:List Deferred} {nt:Nat} (hm:P.follows .mixedOrders=true):∀(c:Code) {Q:Exit->Act->al->Prop} {k r:KF} {e:Nat->KF},fv P nt c=true->
  (∀fr w,fr.length=nt->k fr w->Q .normal (be ds fr) w)->(∀fr w,fr.length=nt->r fr w->Q .ret (be ds fr) w)->(∀j fr w,fr.length=nt->e j fr w->Q (.exit j) (be ds fr) w)->
  ∀(fr:Fr) (w:al),fr.length=nt->iG P c k r e fr w->c.wpIn (FW ro) 0 P Q (be ds fr) w:=by
 intro c
 induction c with
 |skip=>intro Q k r e _ hk _ _ fr w hl h;exact wpIn_skip (hk _ _ hl h)
 |region id ops d=>
  intro Q k r e f hk _ _ fr w hl h
  cases d with
  |false=>
   refine wpIn_region_list ?_;have:=Ia (ro:=ro) (ds:=ds) (P:=P) (ops:=ops.toList) (Q:=Q) hk ops.toList fr w hl f h;simpa using this
  |true=>
   have:=Id (ro:=ro) (ds:=ds) (P:=P) (id:=id) f hm hk hl h;simpa using this
 |seq a b iha ihb=>
  intro Q k r e f hk hr he fr w hl h;simp only [fv,aq] at f;refine wpIn_seq (iha f.1 ?_ ?_ ?_ fr w hl h)
  ·intro fr w hl h;exact ihb f.2 hk hr he fr w hl h
  ·intro fr w hl h;exact hr fr w hl h
  ·intro j fr w hl h;exact he j fr w hl h
 |cond c x y ihx ihy=>
  intro Q k r e f hk hr he fr w hl h;simp only [fv,aq] at f;simp only [iG,af] at h;have hc:(be ds fr).eval c=evO fr c:=by rw [fW]
  split at h
  ·rename_i hx;exact wpIn_cond_true (by rw [hc,hx]) (ihx f.1 hk hr he fr w hl h)
  ·rename_i hx;exact wpIn_cond_false (by rw [hc,hx]) (ihy f.2 hk hr he fr w hl h)
  ·exact h.elim
 |block id c ih=>
  intro Q k r e f hk hr he fr w hl h;refine wpIn_block (ih f ?_ ?_ ?_ fr w hl h)
  ·intro fr w hl h;exact hk fr w hl h
  ·intro fr w hl h;exact hr fr w hl h
  ·intro j fr w hl h;unfold exB at h;simp only [Exit.inBlock]
   cases hj:Nat.beq j id with
   |true=>rw [hj] at h;rw [if_pos (a9 hj)];exact hk fr w hl h
   |false=>rw [hj] at h;rw [if_neg (Nat.ne_of_beq_eq_false hj)];exact he j fr w hl h
 |loop c ih=>
  intro Q k r e f hk hr he fr w hl h;obtain ⟨I,μ,h0,g⟩:=h;refine wpIn_loop (λa w=>∃fr,a=be ds fr/\fr.length=nt/\I fr w) (λa w=>μ a.tmps.toList w) ⟨fr,rfl,hl,h0⟩ ?_;rintro a w ⟨fr,rfl,hl,hI⟩;refine ih f ?_ ?_ ?_ fr w hl (g fr w hI)
  ·intro fr' w' i h';exact ⟨⟨fr',rfl,i,h'.1⟩,by simpa [be] using h'.2⟩
  ·intro fr w hl h;exact hr fr w hl h
  ·intro j fr w hl h;exact he j fr w hl h
 |exit id=>intro Q k r e _ _ _ he fr w hl h;exact wpIn_exit (he _ _ _ hl h)
 |ret=>intro Q k r e _ _ hr _ fr w hl h;exact wpIn_ret (hr _ _ hl h)
 |_=>intro Q k r e _ _ _ _ fr w _ h;exact h.elim
def aig (t:TypeId) (x:ab):Sem ab:=do loadVar t (<-asAddr x)
def By (P:Program):List ResultVar->Fr->al->(List ab->Prop)->Prop
 | [],_,_,k=>k []
 | .tmp t::rs,fr,w,k=>By P rs fr w (λvs=>k (fr.getD t undef::vs))
 | .cell a t::rs,fr,w,k=>ldR P t (fr.getD a undef) w (λv=>By P rs fr w (λvs=>k (v::vs)))
def agK (vs:List ab):ab:=
 match vs with
 | [v]=>v
 |vs=> .tuple vs.toArray
def aU (P:Program) (rs:List ResultVar) (K:K1):KF:=λfr w=>By P rs fr w (λvs=>K (agK vs) w)
def og (b:Array ab):ResultVar->Sem ab
 | .tmp t=>pure (b.getD t undef)
 | .cell a t=>aig t (b.getD a undef)
def Ie (fn:Func) (b:Array ab):results fn b=(do
  let vs <-fn.results.mapM (og b)
  pure (if h:vs.size=1 then vs[0] else .tuple vs)):=by
 have e:(λ| .tmp t=>pure (b.getD t undef)| .cell a t=>do loadVar t (<-asAddr (b.getD a undef)):ResultVar->Sem ab)=og b:=by
  funext x;cases x<;>rfl
 rw [<-e];rfl
def UO {P:Program} {w:al} {fr:Fr}:∀(rs:List ResultVar) (k:List ab->Prop),By P rs fr w k->∃vs,k vs/\(rs.mapM (og fr.toArray)).run P w= .ok vs w:=by
 intro rs
 induction rs with
 |nil=>intro k h;exact ⟨[],h,rfl⟩
 |cons x rs ih=>
  intro k h;have hg:∀t,fr.toArray.getD t undef=fr.getD t undef:=λt=>by simp [ar,aA]
  cases x with
  |tmp t=>
   obtain ⟨vs,h1,h2⟩:=ih _ h;refine ⟨_,h1,?_⟩;have b:(og fr.toArray (.tmp t)).run P w= .ok (fr.getD t undef) w:=by simp only [og,hg,bb]
   rw [cj,ap,b,an,ap,h2];rfl
  |cell a t=>
   simp only [By,ldR,oE] at h;split at h
   ·rename_i v hr;obtain ⟨vs,h1,h2⟩:=ih _ h;refine ⟨_,h1,?_⟩;have b:(og fr.toArray (.cell a t)).run P w= .ok v w:=by
     simp only [og,hg];have:=Bt hr
     cases hx:fr.getD a undef with
     |pointer p=>rw [hx] at hr this;cases p with
      |none=>cases hr
      |some p=>exact this
     |_=>rw [hx] at hr;cases hr
    rw [cj,ap,b,an,ap,h2];rfl
   ·exact h.elim
def kY {ds:List Deferred} {P:Program} {fn:Func} {rs:List ResultVar} (a:fn.results=rs.toArray) {w:al} {fr:Fr} {K:K1} (h:aU P rs K fr w):∃v,(results fn (be ds fr).tmps).run P w= .ok v w/\K v w:=by
 obtain ⟨vs,h1,h2⟩:=UO rs _ h;refine ⟨agK vs,?_,h1⟩;rw [Ie,ap,a,cW,dr];unfold be;rw [h2];simp only [an,bb]
 congr 1
 cases vs with
 |nil=>rfl
 |cons v l=>cases l<;>simp [agK]
def uH {P:Program} (hm:P.follows .mixedOrders=true) {f:FuncId} {fn:Func} {c:Code} {nt:Nat} {rs:List ResultVar} (hf:P.funcs[f]? =some fn) (hb:fn.body=some c) (hn:fn.ntmps=nt) (b:fn.results=rs.toArray) (d:fv P nt c=true)
  {args:List ab} {w:al} {K:K1} (hl:args.length<=nt) (h:iG P c (aU P rs K) (aU P rs K) (λ_ _ _=>False) (args++List.replicate (nt-args.length) undef) w):ae P f args.toArray w K:=by
 refine calls_of_wp hf hb ?_;have e:({tmps:=args.toArray++Array.replicate (fn.ntmps-args.toArray.size) undef,defers:= []}:Act)=be [] (args++List.replicate (nt-args.length) undef):=by
  simp [be,hn]
 rw [e];have a:∀fr w,aU P rs K fr w->∃v,(results fn (be [] fr).tmps).run P w= .ok v w/\UE K (.returned v) w:=λfr w h=>kY b h
 refine wpIn_wide.1 (jb (ro:=none) hm c d ?_ ?_ ?_ _ w (by simp;omega) h)
 ·intro fr w _ h;exact ⟨rfl,a fr w h⟩
 ·intro fr w _ h;exact ⟨rfl,a fr w h⟩
 ·intro j fr w _ h;exact h.elim
def cl:Code->Code
 | .seq a _=>a
 | .cond _ a _=>a
 | .block _ c=>c
 | .loop c=>c
 |c=>c
def cr:Code->Code
 | .seq _ b=>b
 | .cond _ _ b=>b
 |c=>c
def UP (A B:Prop):af (.bool true) A B=A:=rfl
def Ql (A B:Prop):af (.bool false) A B=B:=rfl
def Qm (a b:ab) (w:al) (k:K1):au (.bool true) a b w k=k a w:=rfl
def If (a b:ab) (w:al) (k:K1):au (.bool false) a b w k=k b w:=rfl
def Ig (a b:ab) (k:ab->Prop):bh (.bool true) a b k=k a:=rfl
def E0 (a b:ab) (k:ab->Prop):bh (.bool false) a b k=k b:=rfl
def aeJ (y:K1->Prop) (w:al) (k:K1):gd (.bool true) true y w k=y k:=rfl
def aeK (y:K1->Prop) (w:al) (k:K1):gd (.bool false) false y w k=y k:=rfl
def aeL (y:K1->Prop) (w:al) (k:K1):gd (.bool true) false y w k=k undef w:=rfl
def aeM (y:K1->Prop) (w:al) (k:K1):gd (.bool false) true y w k=k undef w:=rfl
def UQ (y:(ab->Prop)->Prop) (k:ab->Prop):gdR (.bool true) true y k=y k:=rfl
def UR (y:(ab->Prop)->Prop) (k:ab->Prop):gdR (.bool false) false y k=y k:=rfl
def US (y:(ab->Prop)->Prop) (k:ab->Prop):gdR (.bool true) false y k=k undef:=rfl
def UT (y:(ab->Prop)->Prop) (k:ab->Prop):gdR (.bool false) true y k=k undef:=rfl
def aeN (A:Prop):gq (.bool true) true A=A:=rfl
def aeO (A:Prop):gq (.bool false) false A=A:=rfl
def aeP (A:Prop):gq (.bool true) false A=True:=rfl
def aeQ (A:Prop):gq (.bool false) true A=True:=rfl
def UU {P:Program} {s s':Sem ab} (w:al) (k:K1) (h:s=s'):ev P s w k=ev P s' w k:=by rw [h]
def ad {P:Program} {s:Sem ab} {w w':al} {v:ab} (h:s.run P w= .ok v w') (k:K1):ev P s w k=k v w':=by unfold ev;rw [h]
def ai {P:Program} {s:Sem ab} {w:al} {v:ab} (h:s.run P w= .ok v w) (k:ab->Prop):rd P s w k=k v:=by unfold rd;rw [h];simp
def aW {P:Program} {s:Sem ab} {w:al} {v:ab} (h:s.run P w= .ok v w) (u:ab):ag P s w u=(v=u):=by unfold ag;rw [h];simp
attribute [congr] UU
def acC (v:ab) (k:ab->Prop):oE (some v) k=k v:=rfl
@[congr] theorem oE_congr {o o':Option ab} (k:ab->Prop) (h:o=o'):oE o k=oE o' k:=by rw [h]
def oL (o:Option (List ab)) (k:ab->Prop) (_:cZ k:= .mk):Prop:=
 match o with
 |some l=>k (.agg l.toArray)
 |none=>False
def acD (l:List ab) (k:ab->Prop):oL (some l) k=k (.agg l.toArray):=rfl
@[congr] theorem oL_congr {o o':Option (List ab)} (k:ab->Prop) (h:o=o'):oL o k=oL o' k:=by rw [h]
def stB (b:Bool) (k:Prop) (_:cZ k:= .mk):Prop:=
 match b with
 |true=>k
 |false=>False
def UV (k:Prop):stB true k=k:=rfl
@[congr] theorem stB_congr {b b':Bool} (k:Prop) (h:b=b'):stB b k=stB b' k:=by rw [h]
@[congr] theorem ldS_congr {P:Program} {t:TypeId} {x x':ab} (w:al) (k:K1) (h:x=x'):ldS P t x w k=ldS P t x' w k:=by rw [h]
@[congr] theorem ldR_congr {P:Program} {t:TypeId} {x x':ab} (w:al) (k:ab->Prop) (h:x=x'):ldR P t x w k=ldR P t x' w k:=by rw [h]
@[congr] theorem stS_congr {P:Program} {t:TypeId} {x x' v v':ab} (w:al) (k:al->Prop) (h:x=x') (hv:v=v'):stS P t x v w k=stS P t x' v' w k:=by rw [h,hv]
def fd {P:Program} {t:TypeId} (h:fo P t=some false) (a:Addr) (w:al) (k:K1):ldS P t (.pointer (some a)) w k=oE (w.cell? a) (λv=>k v w):=by simp only [ldS,ldO,h]
def iH {P:Program} {t:TypeId} (h:fo P t=some false) (a:Addr) (w:al) (k:ab->Prop):ldR P t (.pointer (some a)) w k=oE (w.cell? a) k:=by simp only [ldR,ldO,h]
def oh {P:Program} {t:TypeId} (h:fo P t=some false) (a:Addr) (w:al) (v:ab):ldG P t (.pointer (some a)) w v=(w.cell? a=some v):=by simp only [ldG,ldO,h]
def UW (o:Option (List ab)) (k:ab->Prop):oE (o.map λl=> .agg l.toArray) k=oL o k:=by cases o<;>rfl
def oj {P:Program} {t:TypeId} {n:Nat} (h:fo P t=some true) (hn:szT P t=some n) (b o:Nat) (w:al) (k:K1):ldS P t (.pointer (some ⟨b,o,none⟩)) w k=oL (aT w b o n) (λv=>k v w):=by simp only [ldS,ldO,h,hn,UW]
def uI {P:Program} {t:TypeId} {n:Nat} (h:fo P t=some true) (hn:szT P t=some n) (b o:Nat) (w:al) (k:ab->Prop):ldR P t (.pointer (some ⟨b,o,none⟩)) w k=oL (aT w b o n) k:=by simp only [ldR,ldO,h,hn,UW]
def Qn {P:Program} {t:TypeId} {n:Nat} (h:fo P t=some true) (hn:szT P t=some n) (b o:Nat) (w:al) (v:ab):ldG P t (.pointer (some ⟨b,o,none⟩)) w v=oL (aT w b o n) (λu=>u=v):=by
 simp only [ldG,ldO,h,hn]
 cases aT w b o n<;>simp [oL]
def xX {P:Program} {t:TypeId} {n:Nat} (hn:szT P t=some n) (b o:Nat) (l:List ab) (w:al) (k:al->Prop):stS P t (.pointer (some ⟨b,o,none⟩)) (.agg l.toArray) w k=stB (Nat.beq l.length n&&(bO l&&eG w b o n)) (k (iD w b o l)):=by
 simp only [stS,stO,hn,Value.cells,List.toList_toArray]
 cases (Nat.beq l.length n&&(bO l&&eG w b o n))<;>rfl
def ke {P:Program} {t:TypeId} (hn:szT P t=some 1) (b o:Nat) (v:ab) (w:al) (k:al->Prop) (h:aj v=true):stS P t (.pointer (some ⟨b,o,none⟩)) v w k=stB ((w.cell? ⟨b,o,none⟩).isSome&& !w.frozen? ⟨b,o,none⟩) (k (w.setCell ⟨b,o,none⟩ v)):=by
 simp only [stS,stO,hn,ys h,bO,eG,h,cc];show oW (match (true&&(true&&_)) with|true=>_|false=>none) k=_;simp only [cn]
 cases ((w.cell? ⟨b,o,none⟩).isSome&& !w.frozen? ⟨b,o,none⟩)<;>rfl
@[congr] theorem cndS_congr {x x':ab} (A B:Prop) (h:x=x'):af x A B=af x' A B:=by rw [h]
@[congr] theorem pickS_congr {x x':ab} (a b:ab) (w:al) (k:K1) (h:x=x'):au x a b w k=au x' a b w k:=by rw [h]
@[congr] theorem pickV_congr {x x':ab} (a b:ab) (k:ab->Prop) (h:x=x'):bh x a b k=bh x' a b k:=by rw [h]
@[congr] theorem gd_congr {x x':ab} (b:Bool) (y:K1->Prop) (w:al) (k:K1) (h:x=x'):gd x b y w k=gd x' b y w k:=by rw [h]
@[congr] theorem gdR_congr {x x':ab} (b:Bool) (y:(ab->Prop)->Prop) (k:ab->Prop) (h:x=x'):gdR x b y k=gdR x' b y k:=by rw [h]
@[congr] theorem gq_congr {x x':ab} (b:Bool) (A:Prop) (h:x=x'):gq x b A=gq x' b A:=by rw [h]
@[congr] theorem rd_congr {P:Program} {s s':Sem ab} (w:al) (k:ab->Prop) (h:s=s'):rd P s w k=rd P s' w k:=by rw [h]
@[congr] theorem ag_congr {P:Program} {s s':Sem ab} (w:al) (v:ab) (h:s=s'):ag P s w v=ag P s' w v:=by rw [h]
@[congr] theorem ac_congr {P:Program} {s s':Sem Unit} (w:al) (k:al->Prop) (h:s=s'):ac P s w k=ac P s' w k:=by rw [h]
@[congr] theorem callS_congr {P:Program} {f:FuncId} {a a':Array ab} (w:al) (k:K1) (h:a=a'):ae P f a w k=ae P f a' w k:=by rw [h]
@[congr] theorem nilS_congr {P:Program} {x x':ab} (w:al) (k:K1) (h:x=x'):Qc P x w k=Qc P x' w k:=by rw [h]
@[congr] theorem nilR_congr {P:Program} {x x':ab} (w:al) (k:ab->Prop) (h:x=x'):bw P x w k=bw P x' w k:=by rw [h]
@[congr] theorem invS_congr {P:Program} {x x':ab} (n:String) {a a':Array ab} (w:al) (k:K1) (h:x=x') (ha:a=a'):bF P x n a w k=bF P x' n a' w k:=by rw [h,ha]
@[congr] theorem bltS_congr {P:Program} (b:Builtin) (ts:Array TypeId) (ty:TypeId) (cs:Array Bool) {a a':Array ab} (w:al) (k:K1) (ha:a=a'):aV P b ts ty cs a w k=aV P b ts ty cs a' w k:=by rw [ha]
def agL {P:Program} (t:TypeId) (v:ab) (w:al) (k:K1):ev P (Instr.box t v) w k=k (.pointer (some ⟨w.heap.size,0,none⟩)) (w.alloc (.cells v.cells t)):=rfl
def df {P:Program} {t:TypeId} {z:ab} (h:fD P t=some z) (w:al) (k:K1):ev P (Instr.alloc t true (.tuple #[])) w k=k (.pointer (some ⟨w.heap.size,0,none⟩)) (w.alloc (.cells z.cells t)):=by
 refine ad ?_ k;unfold Instr.alloc;rw [ap,dL h];rfl
def Ih (P:Program) (s:TypeId) (f:Nat):Option Nat:=
 match P.underlying s with
 |some (.struct fs)=>match fs[f]? with
  |some x=>match szT P x.type with
   |some (_+1)=>some x.offset
   |_=>none
  |none=>none
 |_=>none
def lH {P:Program} {s:TypeId} {f n:Nat} (h:Ih P s f=some n) (b o:Nat) (w:al):(Instr.fieldAt s (.pointer (some ⟨b,o,none⟩)) f).run P w= .ok (.pointer (some ⟨b,o+n,none⟩)) w:=by
 unfold Ih at h
 cases hu:P.underlying s with
 |none=>rw [hu] at h;cases h
 |some d=>
  rw [hu] at h
  cases d<;>simp at h;rename_i fs
  cases hf:fs[f]? with
  |none=>rw [hf] at h;cases h
  |some x=>
   rw [hf] at h;simp only at h
   cases hz:szT P x.type with
   |none=>rw [hz] at h;cases h
   |some m=>
    rw [hz] at h
    cases m with
    |zero=>cases h
    |succ m=>
     simp only [Option.some.injEq] at h;unfold Instr.fieldAt;rw [ap,aC hu,an];simp only [hf,Instr.sureAddr];rw [ap,bb,an,ap];unfold fieldPlace;rw [ap,fp hz];simp only [an,Nat.succ_ne_zero,if_false];simp [fM,h]
def ak {P:Program} {s:TypeId} {f n:Nat} (h:Ih P s f=some n) (b o:Nat) (w:al) (k:K1):ev P (Instr.fieldAt s (.pointer (some ⟨b,o,none⟩)) f) w k=k (.pointer (some ⟨b,o+n,none⟩)) w:=ad (lH h b o w) k
def az {P:Program} {s:TypeId} {f n:Nat} (h:Ih P s f=some n) (b o:Nat) (w:al) (k:ab->Prop):rd P (Instr.fieldAt s (.pointer (some ⟨b,o,none⟩)) f) w k=k (.pointer (some ⟨b,o+n,none⟩)):=ai (lH h b o w) k
def aS {P:Program} {s:TypeId} {f n:Nat} (h:Ih P s f=some n) (b o:Nat) (w:al) (u:ab):ag P (Instr.fieldAt s (.pointer (some ⟨b,o,none⟩)) f) w u=(.pointer (some ⟨b,o+n,none⟩)=u):=aW (lH h b o w) u
def E5 (P:Program) (t:TypeId):Option Nat:=
 match P.underlying t with
 |some (.slice e)=>szT P e
 |_=>none
def lI {P:Program} {t:TypeId} {n:Nat} (h:E5 P t=some n) (b o len cap:Nat) (kd:IntKind) (i:Int) (w:al) (h0:0<=i) (h1:i<len):(Instr.indexAt t (.slice (some ⟨b,o,none⟩) len cap) (.int kd i)).run P w= .ok (.pointer (some ⟨b,o+i.toNat*n,none⟩)) w:=by
 unfold E5 at h
 cases hu:P.underlying t with
 |none=>rw [hu] at h;cases h
 |some d=>
  rw [hu] at h
  cases d<;>simp at h;rename_i e;simp [Instr.indexAt,asIntOf,aC hu,fp h,h0,h1,fM]
def bP {P:Program} {t:TypeId} {n:Nat} (h:E5 P t=some n) (b o len cap:Nat) (kd:IntKind) (i:Int) (w:al) (k:K1) (h0:0<=i) (h1:i<len):ev P (Instr.indexAt t (.slice (some ⟨b,o,none⟩) len cap) (.int kd i)) w k=k (.pointer (some ⟨b,o+i.toNat*n,none⟩)) w:=ad (lI h b o len cap kd i w h0 h1) k
def om {P:Program} {t:TypeId} {n:Nat} (h:E5 P t=some n) (b o len cap:Nat) (kd:IntKind) (i:Int) (w:al) (k:ab->Prop) (h0:0<=i) (h1:i<len):rd P (Instr.indexAt t (.slice (some ⟨b,o,none⟩) len cap) (.int kd i)) w k=k (.pointer (some ⟨b,o+i.toNat*n,none⟩)):=ai (lI h b o len cap kd i w h0 h1) k
def Ii {P:Program} {t:TypeId} {n:Nat} (h:E5 P t=some n) (b o len cap:Nat) (kd:IntKind) (i:Int) (w:al) (u:ab) (h0:0<=i) (h1:i<len):ag P (Instr.indexAt t (.slice (some ⟨b,o,none⟩) len cap) (.int kd i)) w u=(.pointer (some ⟨b,o+i.toNat*n,none⟩)=u):=aW (lI h b o len cap kd i w h0 h1) u
def agM (P:Program) (t:TypeId):Option (Nat×Nat):=
 match P.underlying t with
 |some (.array m e)=>(szT P e).map λn=>(m,n)
 |_=>none
def run_indexArr {P:Program} {t:TypeId} {m n:Nat} (h:agM P t=some (m,n)) (b o:Nat) (kd:IntKind) (i:Int) (w:al) (h0:0<=i) (h1:i<m):(Instr.indexAt t (.pointer (some ⟨b,o,none⟩)) (.int kd i)).run P w= .ok (.pointer (some ⟨b,o+i.toNat*n,none⟩)) w:=by
 unfold agM at h
 cases hu:P.underlying t with
 |none=>rw [hu] at h;cases h
 |some d=>
  rw [hu] at h
  cases d<;>simp at h;rename_i m' e;obtain ⟨h,rfl,rfl⟩:=h;simp [Instr.indexAt,asIntOf,Instr.sureAddr,aC hu,fp h,h0,h1,fM]
def lJ {P:Program} {t:TypeId} {m n:Nat} (h:agM P t=some (m,n)) (b o:Nat) (kd:IntKind) (i:Int) (w:al) (k:K1) (h0:0<=i) (h1:i<m):ev P (Instr.indexAt t (.pointer (some ⟨b,o,none⟩)) (.int kd i)) w k=k (.pointer (some ⟨b,o+i.toNat*n,none⟩)) w:=ad (run_indexArr h b o kd i w h0 h1) k
def acE {P:Program} (a:Addr) (w:al) (k:K1):Qc P (.pointer (some a)) w k=k (.pointer (some a)) w:=rfl
def Qo {P:Program} (t:TypeId) (v:ab) (w:al) (k:K1):Qc P (.iface t v) w k=k (.iface t v) w:=rfl
def UX {P:Program} (a:Addr) (w:al) (k:ab->Prop):bw P (.pointer (some a)) w k=k (.pointer (some a)):=by
 show (w=w/\_)=_;simp
def Ij {P:Program} (t:TypeId) (v:ab) (w:al) (k:ab->Prop):bw P (.iface t v) w k=k (.iface t v):=by
 show (w=w/\_)=_;simp
def agN {P:Program} (a:ab) (l:List ab) (w:al) (k:K1):ev P (Instr.extract (.tuple (a::l).toArray) 0) w k=k a w:=rfl
def agO {P:Program} (a b:ab) (l:List ab) (w:al) (k:K1):ev P (Instr.extract (.tuple (a::b::l).toArray) 1) w k=k b w:=rfl
def agP {P:Program} (a b c:ab) (l:List ab) (w:al) (k:K1):ev P (Instr.extract (.tuple (a::b::c::l).toArray) 2) w k=k c w:=rfl
def agQ {P:Program} (a b c d:ab) (l:List ab) (w:al) (k:K1):ev P (Instr.extract (.tuple (a::b::c::d::l).toArray) 3) w k=k d w:=rfl
def agR {P:Program} (a:ab) (l:List ab) (w:al) (k:ab->Prop):rd P (Instr.extract (.tuple (a::l).toArray) 0) w k=k a:=ai rfl k
def agT {P:Program} (a b:ab) (l:List ab) (w:al) (k:ab->Prop):rd P (Instr.extract (.tuple (a::b::l).toArray) 1) w k=k b:=ai rfl k
def agU {P:Program} (a b c:ab) (l:List ab) (w:al) (k:ab->Prop):rd P (Instr.extract (.tuple (a::b::c::l).toArray) 2) w k=k c:=ai rfl k
def agV {P:Program} (b:Bool) (w:al) (k:K1):ev P (Op.unary .not (.bool b)) w k=k (.bool !b) w:=rfl
def agW {P:Program} (b:Bool) (w:al) (k:ab->Prop):rd P (Op.unary .not (.bool b)) w k=k (.bool !b):=ai rfl k
def bg {P:Program} (op:BinOp) (t:TypeId) (x y:Operand) (k k':IntKind) (a b:Int) (w:al):(aG op t x y (.int k a) (.int k' b)).run P w=(binOp op t (.int k a) (.int k' b)).run P w:=by
 unfold aG;rw [ap];have:(eqGuard op t x y (.int k a) (.int k' b)).run P w= .ok () w:=by
  unfold eqGuard
  cases op<;>rfl
 rw [this];rfl
def run_add {P:Program} (t:TypeId) (x y:Operand) (k:IntKind) (a b:Int) (w:al):(aG .add t x y (.int k a) (.int k b)).run P w= .ok (.int k (k.wrap (a+b))) w:=by
 rw [bg];simp [binOp,Op.intArith]
def run_sub {P:Program} (t:TypeId) (x y:Operand) (k:IntKind) (a b:Int) (w:al):(aG .sub t x y (.int k a) (.int k b)).run P w= .ok (.int k (k.wrap (a-b))) w:=by
 rw [bg];simp [binOp,Op.intArith]
def run_mul {P:Program} (t:TypeId) (x y:Operand) (k:IntKind) (a b:Int) (w:al):(aG .mul t x y (.int k a) (.int k b)).run P w= .ok (.int k (k.wrap (a*b))) w:=by
 rw [bg];simp [binOp,Op.intArith]
def mB {P:Program} (op:BinOp) (t:TypeId) (x y:Operand) (k:IntKind) (a b:Int) (w:al):(aG op t x y (.int k a) (.int k b)).run P w=(binOp op t (.int k a) (.int k b)).run P w:=bg op t x y k k a b w
def run_lss {P:Program} (t:TypeId) (x y:Operand) (k:IntKind) (a b:Int) (w:al):(aG .lss t x y (.int k a) (.int k b)).run P w= .ok (.bool (decide (a<b))) w:=by rw [mB];simp [binOp,Op.intCmp]
def run_leq {P:Program} (t:TypeId) (x y:Operand) (k:IntKind) (a b:Int) (w:al):(aG .leq t x y (.int k a) (.int k b)).run P w= .ok (.bool (decide (a<=b))) w:=by rw [mB];simp [binOp,Op.intCmp]
def run_gtr {P:Program} (t:TypeId) (x y:Operand) (k:IntKind) (a b:Int) (w:al):(aG .gtr t x y (.int k a) (.int k b)).run P w= .ok (.bool (decide (b<a))) w:=by rw [mB];simp [binOp,Op.intCmp]
def run_geq {P:Program} (t:TypeId) (x y:Operand) (k:IntKind) (a b:Int) (w:al):(aG .geq t x y (.int k a) (.int k b)).run P w= .ok (.bool (decide (b<=a))) w:=by rw [mB];simp [binOp,Op.intCmp]
def run_eql {P:Program} (t:TypeId) (x y:Operand) (k:IntKind) (a b:Int) (w:al):(aG .eql t x y (.int k a) (.int k b)).run P w= .ok (.bool (decide (a=b))) w:=by rw [mB];simp [binOp,Op.intCmp];rfl
def run_neq {P:Program} (t:TypeId) (x y:Operand) (k:IntKind) (a b:Int) (w:al):(aG .neq t x y (.int k a) (.int k b)).run P w= .ok (.bool (!decide (a=b))) w:=by rw [mB];simp [binOp,Op.intCmp,bne];rfl
def lo (k:IntKind):Int:=k.min
def iI {n:Int} (h0:0<=n) (h1:n<18446744073709551616):IntKind.u64.wrap n=n:=by
 unfold IntKind.wrap;simp only [IntKind.bits,IntKind.signed];simp;omega
def UY {n:Int} (h0:0<=n) (h1:n<4294967296):IntKind.u32.wrap n=n:=by
 unfold IntKind.wrap;simp only [IntKind.bits,IntKind.signed];simp;omega
def cz {n:Int} (h0: -9223372036854775808<=n) (h1:n<9223372036854775808):IntKind.i64.wrap n=n:=by
 unfold IntKind.wrap;simp only [IntKind.bits,IntKind.signed];simp;omega
def uJ {a b:Int} (h:0<=a):a.tdiv b=a/b:=Int.tdiv_eq_ediv_of_nonneg h
def MR {P:Program} (t:TypeId) (x y:Operand) (k:IntKind) (a b:Int) (w:al) (ha:0<=a) (hb:0<b) (hw:k.wrap (a/b)=a/b):(aG .quo t x y (.int k a) (.int k b)).run P w= .ok (.int k (a/b)) w:=by
 rw [bg];have c:b≠0:=by omega
 simp [binOp,Op.intDiv,c,uJ ha,hw]
def run_rem {P:Program} (t:TypeId) (x y:Operand) (k:IntKind) (a b:Int) (w:al) (ha:0<=a) (hb:0<b):(aG .rem t x y (.int k a) (.int k b)).run P w= .ok (.int k (a%b)) w:=by
 rw [bg];have c:b≠0:=by omega
 simp [binOp,Op.intDiv,c,Int.tmod_eq_emod_of_nonneg ha]
def MS {a b:Int} (ha:0<=a) (hb:0<b):0<=a/b/\a/b<=a:=⟨Int.ediv_nonneg ha (dp hb),Int.ediv_le_self b ha⟩
def lO {P:Program} (t:TypeId) (x y:Operand) (a b:Int) (w:al) (ha:0<=a) (h:a<9223372036854775808) (hb:0<b):(aG .quo t x y (.int .i64 a) (.int .i64 b)).run P w= .ok (.int .i64 (a/b)) w:=
 MR t x y .i64 a b w ha hb (cz (by have:=(MS ha hb).1;omega) (by have:=(MS ha hb).2;omega))
def UZ (P:Program) (t:TypeId):Option IntKind:=
 match P.underlying t with
 |some (.int k)=>some k
 |_=>none
def fw {P:Program} {t:TypeId} {k:IntKind} (h:UZ P t=some k):P.underlying t=some (.int k):=by
 unfold UZ at h;split at h
 ·rename_i e;simp at h;subst h;exact e
 ·cases h
def run_convert {P:Program} {s d:TypeId} {j k:IntKind} (hs:UZ P s=some j) (hd:UZ P d=some k) (i:IntKind) (n:Int) (w:al):(convert s d (.int i n)).run P w= .ok (.int k (k.wrap n)) w:=by
 unfold convert;rw [ap,aC (fw hs),an,ap,aC (fw hd),an];rfl
def acF {P:Program} (t:TypeId) (x y:Operand) (k j:IntKind) (a b:Int) (w:al) (hb:0<=b):(aG .shr t x y (.int k a) (.int j b)).run P w= .ok (.int k (a/2^(min b.toNat k.bits))) w:=by
 rw [bg];have:¬b<0:=by omega
 simp only [binOp,Op.shift,this,if_false];rw [Int.fdiv_eq_ediv_of_nonneg _ (dp (Int.pow_pos (by omega)))];rfl
def acG {P:Program} (t:TypeId) (x y:Operand) (k j:IntKind) (a b:Int) (w:al) (hb:0<=b):(aG .shl t x y (.int k a) (.int j b)).run P w= .ok (.int k (k.wrap (a*2^(min b.toNat k.bits)))) w:=by
 rw [bg];have:¬b<0:=by omega
 simp only [binOp,Op.shift,this,if_false];rfl
def cI {n:Nat} {a:Int} (h0:0<=a) (h1:a<2^n):(BitVec.ofInt n a).toNat=a.toNat:=by
 rw [BitVec.toNat_ofInt]
 congr 1
 exact cq h0 (by exact_mod_cast h1)
def nQ:IntKind->Bool
 | .u8=>true
 | .u16=>true
 | .u32=>true
 | .u64=>true
 |_=>false
def kf {k:IntKind} (hk:nQ k=true) (x:BitVec k.bits):k.wrap (x.toNat:Int)=x.toNat:=by
 have h:=x.isLt;unfold IntKind.wrap;have hs:k.signed=false:=by cases k<;>first|rfl|cases hk
 simp only [hs,b7,aB,if_false];exact cq (by omega) (by exact_mod_cast h)
def acH {P:Program} (t:TypeId) (x y:Operand) {k:IntKind} (hk:nQ k=true) (a b:Int) (w:al) (ha:0<=a) (c:a<2^k.bits) (hb:0<=b) (d:b<2^k.bits):(aG .and t x y (.int k a) (.int k b)).run P w= .ok (.int k ((a.toNat&&&b.toNat:Nat):Int)) w:=by
 rw [bg];simp only [binOp,ne_eq,not_true,if_false,Op.intBits];rw [bb,kf hk,BitVec.toNat_and,cI ha c,cI hb d]
def agX {P:Program} (t:TypeId) (x y:Operand) {k:IntKind} (hk:nQ k=true) (a b:Int) (w:al) (ha:0<=a) (c:a<2^k.bits) (hb:0<=b) (d:b<2^k.bits):(aG .or t x y (.int k a) (.int k b)).run P w= .ok (.int k ((a.toNat|||b.toNat:Nat):Int)) w:=by
 rw [bg];simp only [binOp,ne_eq,not_true,if_false,Op.intBits];rw [bb,kf hk,BitVec.toNat_or,cI ha c,cI hb d]
def acI {P:Program} (t:TypeId) (x y:Operand) {k:IntKind} (hk:nQ k=true) (a b:Int) (w:al) (ha:0<=a) (c:a<2^k.bits) (hb:0<=b) (d:b<2^k.bits):(aG .xor t x y (.int k a) (.int k b)).run P w= .ok (.int k ((a.toNat^^^b.toNat:Nat):Int)) w:=by
 rw [bg];simp only [binOp,ne_eq,not_true,if_false,Op.intBits];rw [bb,kf hk,cN,cI ha c,cI hb d]
def tN {P:Program} {t:TypeId} {x y:Operand} {u v:ab} {w:al} {r:Bool} (hg:(eqGuard .eql t x y u v).run P w= .ok () w) (hb:binOp .eql t u v=(do pure (.bool (<-Op.equal t u v)))) (h:∀d,(Op.equalIn (d+1) t u v).run P w= .ok r w):(aG .eql t x y u v).run P w= .ok (.bool r) w:=by
 unfold aG;rw [ap,hg,an,hb,ap];unfold Op.equal;rw [show Op.maxDepth=9999+1 from rfl,h];rfl
def MT {P:Program} {t:TypeId} {x y:Operand} {u v:ab} {w:al} {r:Bool} (hg:(eqGuard .neq t x y u v).run P w= .ok () w) (hb:binOp .neq t u v=(do pure (.bool (!(<-Op.equal t u v))))) (h:∀d,(Op.equalIn (d+1) t u v).run P w= .ok r w):(aG .neq t x y u v).run P w= .ok (.bool (!r)) w:=by
 unfold aG;rw [ap,hg,an,hb,ap];unfold Op.equal;rw [show Op.maxDepth=9999+1 from rfl,h];rfl
def acJ (P:Program) (t:TypeId):Bool:=
 match P.underlying t with
 |some (.pointer _)=>true
 |_=>false
def te {P:Program} {t:TypeId} (h:acJ P t=true) (p:Option Addr) (w:al) (d:Nat):(Op.equalIn (d+1) t (.pointer p) (.pointer none)).run P w= .ok p.isNone w:=by
 unfold acJ at h;split at h
 ·rename_i e hu;unfold Op.equalIn;rw [ap,aC hu,an]
  cases p<;>rfl
 ·cases h
def run_eq_ptr_nil {P:Program} {t:TypeId} (h:acJ P t=true) (x y:Operand) (p:Option Addr) (w:al):(aG .eql t x y (.pointer p) (.pointer none)).run P w= .ok (.bool p.isNone) w:=
 tN rfl (by cases p<;>rfl) (te h p w)
def run_neq_ptr_nil {P:Program} {t:TypeId} (h:acJ P t=true) (x y:Operand) (p:Option Addr) (w:al):(aG .neq t x y (.pointer p) (.pointer none)).run P w= .ok (.bool (!p.isNone)) w:=
 MT rfl (by cases p<;>rfl) (te h p w)
def qK (P:Program) (t:TypeId):Bool:=
 match P.underlying t with
 |some (.interface _)=>true
 |_=>false
def run_eq_iface_nil {P:Program} {t:TypeId} (h:qK P t=true) (x y:Operand) (u:TypeId) (v:ab) (w:al):(aG .eql t x y (.iface u v) .nilIface).run P w= .ok (.bool false) w:=by
 unfold qK at h;split at h
 ·rename_i e hu;refine tN rfl rfl λd=> ?_
  unfold Op.equalIn;rw [ap,aC hu,an];rfl
 ·cases h
def run_eq_nil_nil {P:Program} {t:TypeId} (h:qK P t=true) (x:Operand) (u:ab) (w:al):(aG .eql t x (.const u) .nilIface .nilIface).run P w= .ok (.bool true) w:=by
 unfold qK at h;split at h
 ·rename_i e hu;refine tN (by cases x<;>rfl) rfl λd=> ?_
  unfold Op.equalIn;rw [ap,aC hu,an];rfl
 ·cases h
def U0 (P:Program) (t:TypeId):Bool:=
 match P.underlying t with
 |some .bool=>true
 |_=>false
def Bz {P:Program} {t:TypeId} (h:U0 P t=true) (a b:Bool) (w:al) (d:Nat):(Op.equalIn (d+1) t (.bool a) (.bool b)).run P w= .ok (a==b) w:=by
 unfold U0 at h;split at h
 ·rename_i hu;unfold Op.equalIn;rw [ap,aC hu,an];rfl
 ·cases h
def run_neq_bool {P:Program} {t:TypeId} (h:U0 P t=true) (x y:Operand) (a b:Bool) (w:al):(aG .neq t x y (.bool a) (.bool b)).run P w= .ok (.bool (!(a==b))) w:=
 MT rfl rfl (Bz h a b w)
def run_makeInterface {P:Program} {t:TypeId} (h:fo P t=some false) (h':qK P t=false) (v:ab) (w:al):(b4 t v).run P w= .ok (.iface t v) w:=by
 unfold fo at h
 cases hu:P.underlying t with
 |none=>rw [hu] at h;cases h
 |some d=>
  unfold b4;rw [ap,aC hu,an];unfold qK at h';rw [hu] at h'
  cases d<;>first|rfl|cases h'
def kg (P:Program) (t:TypeId):Bool:=
 match P.underlying t with
 |some (.slice _)=>true
 |_=>false
def run_len {P:Program} {t:TypeId} (h:kg P t=true) (ty:TypeId) (a:Option Addr) (n c:Nat) (w:al):(cx #[t] ty #[.slice a n c]).run P w= .ok (.int .i64 n) w:=by
 unfold kg at h;split at h
 ·rename_i e hu;simp [cx,aC hu,goInt]
 ·cases h
def eH {P:Program} {t:TypeId} (h:kg P t=true) (ty:TypeId) (cs:Array Bool) (a:Option Addr) (n c:Nat) (w:al) (k:K1):aV P .len #[t] ty cs #[.slice a n c] w k=k (.int .i64 n) w:=by
 unfold aV builtin;rw [ap,run_len h];rfl
def acK {P:Program} (ts:Array TypeId) (ty:TypeId) (cs:Array Bool) (i:IntKind) (a b:Int) (w:al) (k:K1):aV P .max ts ty cs #[.int i a,.int i b] w k=k (.int i (if a<b then b else a)) w:=rfl
def acL {P:Program} (ts:Array TypeId) (ty:TypeId) (cs:Array Bool) (i:IntKind) (a b:Int) (w:al) (k:K1):aV P .min ts ty cs #[.int i a,.int i b] w k=k (.int i (if b<a then b else a)) w:=rfl
def fY {P:Program} {x:ab} {n:String} {args a:Array ab} {w:al} {f:FuncId} (h:(callMethod x n args).run P w= .ok (.enter f a) w) (k:K1):bF P x n args w k=ae P f a w k:=by
 unfold bF;rw [h];rfl
def aw {a:Nat->Option (Nat×Nat)} {cells:Array ab} {i off:Nat} {v:ab} {b:List (Nat×ab)} (hp:a i=some (off,1)) (hv:aj v=true) (ho:off<cells.size):Instr.fill a cells ((i,v)::b)=Instr.fill a (cells.setIfInBounds off v) b:=by
 rw [Instr.fill,hp];simp only [ys hv,bq,List.length_singleton,ne_eq,not_true,b5,decide_eq_true_eq];rw [if_neg (by simp;omega)]
 congr 1
def aeR (P:Program) (t:TypeId) (f:Nat):Option Bool:=
 match P.underlying t with
 |some (.struct fs)=>(fs[f]?).bind λx=>fo P x.type
 |_=>none
def bm (P:Program) (t:TypeId):Option (List (Nat×Nat)):=
 match P.underlying t with
 |some (.struct fs)=>fs.toList.mapM λf=>(szT P f.type).map λn=>(f.offset,n)
 |_=>none
def Ik {P:Program} (w:al):∀(l:List Field) (ps:List (Nat×Nat)),(l.mapM λf=>(szT P f.type).map λn=>(f.offset,n))=some ps->(l.mapM (m:=Sem) λf=>do pure (f.offset,<-sizeOf f.type)).run P w= .ok ps w:=by
 intro l
 induction l with
 |nil=>intro ps h;simp at h;subst h;rfl
 |cons f l ih=>
  intro ps h;rw [cj] at h
  cases hs:szT P f.type with
  |none=>rw [hs] at h;cases h
  |some n=>
   rw [hs] at h
   cases hr:(l.mapM λf=>(szT P f.type).map λn=>(f.offset,n)) with
   |none=>rw [hr] at h;simp at h
   |some qs=>
    rw [hr] at h;simp at h;subst h;rw [cj,ap,ap,fp hs];simp only [an,bb];rw [ap,ih qs hr];rfl
def run_buildS {P:Program} {t:TypeId} {z:ab} {ps:List (Nat×Nat)} {parts:Array (Nat×ab)} {cs:Array ab} (hz:fD P t=some z) (hp:bm P t=some ps) (hf:Instr.fill (ps.toArray[·]?) z.cells parts.toList=some cs) (w:al):(Instr.build t parts).run P w= .ok (.agg cs) w:=by
 unfold bm at hp;split at hp
 ·rename_i fs hu;unfold Instr.build;rw [ap,dL hz,an,ap,aC hu,an];simp only;have e:(fs.mapM (m:=Sem) λf=>do pure (f.offset,<-sizeOf f.type)).run P w= .ok ps.toArray w:=by
   have:=Ik w fs.toList ps hp;rw [<-Array.toArray_toList (xs:=fs),cW,dr];rw [this];rfl
  rw [ap,e,an];simp only [hf];rfl
 ·cases hp
def run_field {P:Program} {t:TypeId} {f n:Nat} (h:Ih P t f=some n) (h1:aeR P t f=some false) {cs:Array ab} {v:ab} (hv:cs[n]? =some v) (w:al):(Instr.field t (.agg cs) f).run P w= .ok v w:=by
 unfold Ih at h
 cases hu:P.underlying t with
 |none=>rw [hu] at h;cases h
 |some d=>
  unfold aeR at h1;rw [hu] at h h1
  cases d<;>simp only [reduceCtorEq] at h;rename_i fs;simp only at h1
  cases hf:fs[f]? with
  |none=>rw [hf] at h;cases h
  |some x=>
   rw [hf] at h h1;simp only [cp] at h h1
   cases hz:szT P x.type with
   |none=>rw [hz] at h;cases h
   |some m=>
    rw [hz] at h
    cases m with
    |zero=>cases h
    |succ m=>
     simp only [Option.some.injEq] at h;subst h;unfold Instr.field;rw [ap,aC hu,an];simp only [hf,asAgg];rw [ap,bb,an];unfold part;rw [ap,qF h1,an];simp [hv]
section
variable (P:Program)
def RM:=aa acC<|aa acD<|aa UV<|aa UP<|aa Ql<|aa Qm<|aa If<|aa Ig<|aa E0<|
 aa aeJ<|aa aeK<|aa aeL<|aa aeM<|aa UQ<|aa UR<|aa US<|aa UT<|aa aeN<|aa aeO<|aa aeP aeQ
def RP:=aa (@agL P)<|aa (@acE P)<|aa (@Qo P)<|aa (@UX P)<|aa (@Ij P)<|aa (@agN P)<|aa (@agO P)<|aa (@agP P)<|aa (@agQ P)<|
 aa (@agR P)<|aa (@agT P)<|aa (@agU P)<|aa (@agV P)<|aa (@agW P)<|aa (@acK P) (@acL P)
end
def mC (cs:Array ab):(Value.agg cs).cells=cs:=rfl
def Qp (k:IntKind) (n:Int):(Value.int k n).cells= #[.int k n]:=rfl
def Il (b:Bool):(Value.bool b).cells= #[.bool b]:=rfl
def Qq (a:Option Addr):(Value.pointer a).cells= #[.pointer a]:=rfl
def E6 (a:Option Addr) (n c:Nat):(Value.slice a n c).cells= #[.slice a n c]:=rfl
def E7 (t:TypeId) (v:ab):(Value.iface t v).cells= #[.iface t v]:=rfl
def Qr:(Value.nilIface).cells= #[.nilIface]:=rfl
def uK {p:Prop} [Decidable p] (h:p):decide p=true:=decide_eq_true h
def im {p:Prop} [Decidable p] (h:¬p):decide p=false:=decide_eq_false h
def aih (h:Decidable True): @decide True h=true:=by cases h with
 |isTrue _=>rfl
 |isFalse h=>exact absurd trivial h
def aii (h:Decidable False): @decide False h=false:=by cases h with
 |isTrue h=>exact h.elim
 |isFalse _=>rfl
def uN (w:al) (b o:Nat):aT w b o 0=some []:=rfl
def lP {w:al} {b:Nat} {c:Array ab} {t:TypeId} {z:Nat×Nat} (h:w.heap[b]? =some (.cells c t z)) (i:Nat):w.cell? ⟨b,i,none⟩=c[i]? :=by
 unfold World.cell?;rw [h];rfl
set_option linter.defProp false in
def RV:=aa aid<|aa mC<|aa Qp<|aa Il<|aa Qq<|aa E6<|aa E7<|aa Qr<|
 aa aih<|aa aii<|aa @uK<|aa @im<|aa b0<|aa cn<|aa b7<|aa cc<|aa c9<|aa bk<|aa cm<|aa cB<|aa Nat.mul_one<|aa b6<|aa (@Option.isNone_some Addr)<|aa (@Option.isNone_none Addr) (@and_self)
def U1 (z:Array ab) (n:Nat):((Array.range n).map (z[·%z.size]!))=((List.range n).map λi=>z[i%z.size]!).toArray:=by
 apply Array.ext';simp
def run_buildSliceS {P:Program} {t e:TypeId} {len size:Nat} {z:ab} {parts:Array (Nat×ab)} {cs:Array ab} (hu:P.underlying t=some (.slice e)) (hs:szT P e=some size) (hz:fD P e=some z) (b:len*size<=16777216) (a:len*size≠0)
  (hf:Instr.fill (λi=>some (i*size,size)) ((List.range (len*size)).map λi=>z.cells[i%z.cells.size]!).toArray parts.toList=some cs) (w:al):(av t len parts).run P w= .ok (.slice (some ⟨w.heap.size,0,none⟩) len len) (w.alloc (.cells cs e)):=by
 unfold av;rw [ap,aC hu,an];simp only;rw [ap,fp hs,an];rw [if_neg (by simpa using b)];simp only [a,if_false];rw [ap,dL hz,an,ap,bb,an,U1];simp only [hf];rfl
def yz {c:Nat->Option (Nat×Nat)} {cells:Array ab} {i off:Nat} {a b:ab} {d:List (Nat×ab)} (hp:c i=some (off,2)) (ho:off+2<=cells.size):Instr.fill c cells ((i,.agg #[a,b])::d)=Instr.fill c ((cells.setIfInBounds off a).setIfInBounds (off+1) b) d:=by
 rw [Instr.fill,hp];simp only [mC,bq,ce,ct];rw [if_neg (by simp;omega)]
 congr 1
def Qs {d:Nat->Option (Nat×Nat)} {cells:Array ab} {i off:Nat} {a b c:ab} {e:List (Nat×ab)} (hp:d i=some (off,3)) (ho:off+3<=cells.size):Instr.fill d cells ((i,.agg #[a,b,c])::e)=Instr.fill d (((cells.setIfInBounds off a).setIfInBounds (off+1) b).setIfInBounds (off+2) c) e:=by
 rw [Instr.fill,hp];simp only [mC,bq,ce,ct];rw [if_neg (by simp;omega)]
 congr 1
def acM (k:IntKind) (n:Int):aj (.int k n)=true:=rfl
def U2 (b:Bool):aj (.bool b)=true:=rfl
def acN (a:Option Addr):aj (.pointer a)=true:=rfl
def Qt (a:Option Addr) (n c:Nat):aj (.slice a n c)=true:=rfl
def Qu (t:TypeId) (v:ab):aj (.iface t v)=true:=rfl
def acO:aj .nilIface=true:=rfl
def acP (r:Option Nat):aj (.map r)=true:=rfl
set_option linter.defProp false in
def RO:=aa acM<|aa U2<|aa acN<|aa Qt<|aa Qu<|aa acO acP
def eI {k:IntKind} {n:Nat} (hu:nQ k=true) (h:n<2^k.bits):k.wrap (n:Int)=n:=by
 unfold IntKind.wrap;have hs:k.signed=false:=by cases k<;>first|rfl|cases hu
 simp only [hs,b7,aB,if_false];exact cq (by omega) (by exact_mod_cast h)
def bQ {k:IntKind} {n:Nat} (hu:nQ k=true):k.wrap (n:Int)=((n%2^k.bits:Nat):Int):=by
 unfold IntKind.wrap;have hs:k.signed=false:=by cases k<;>first|rfl|cases hu
 simp only [hs,b7,aB,if_false]
 norm_cast
def BA {P:Program} {k:IntKind} (hu:nQ k=true) (t:TypeId) (x y:Operand) (a b:Nat) (w:al) (h:a+b<2^k.bits):(aG .add t x y (.int k a) (.int k b)).run P w= .ok (.int k ((a+b:Nat):Int)) w:=by
 rw [run_add];congr 2;exact_mod_cast eI hu h
def MU {P:Program} {k:IntKind} (hu:nQ k=true) (t:TypeId) (x y:Operand) (a b:Nat) (w:al) (h0:b<=a) (h:a<2^k.bits):(aG .sub t x y (.int k a) (.int k b)).run P w= .ok (.int k ((a-b:Nat):Int)) w:=by
 rw [run_sub];congr 2;rw [show (a:Int)-(b:Int)=((a-b:Nat):Int) by omega];exact eI hu (by omega)
def MV {P:Program} {k:IntKind} (hu:nQ k=true) (t:TypeId) (x y:Operand) (a b:Nat) (w:al) (h:a*b<2^k.bits):(aG .mul t x y (.int k a) (.int k b)).run P w= .ok (.int k ((a*b:Nat):Int)) w:=by
 rw [run_mul];congr 2;exact_mod_cast eI hu h
def acQ {P:Program} {k:IntKind} (hu:nQ k=true) (t:TypeId) (x y:Operand) (a b:Nat) (w:al) (h:a<2^k.bits) (hb:0<b):(aG .quo t x y (.int k a) (.int k b)).run P w= .ok (.int k ((a/b:Nat):Int)) w:=by
 rw [MR t x y k a b w (by omega) (by omega) (by have:=eI hu (Nat.lt_of_le_of_lt (Nat.div_le_self a b) h);exact_mod_cast this)];rfl
def tO {P:Program} {k:IntKind} (t:TypeId) (x y:Operand) (a b:Nat) (w:al) (hb:0<b):(aG .rem t x y (.int k a) (.int k b)).run P w= .ok (.int k ((a%b:Nat):Int)) w:=by
 rw [run_rem t x y k a b w (by omega) (by omega)];norm_cast
def tP {P:Program} {k j:IntKind} (t:TypeId) (x y:Operand) (a n:Nat) (w:al) (hn:n<=k.bits):(aG .shr t x y (.int k a) (.int j n)).run P w= .ok (.int k ((a/2^n:Nat):Int)) w:=by
 rw [acF t x y k j a n w (by omega)];simp only [bk,c8 hn]
 try norm_cast
def tQ {P:Program} {k j:IntKind} (hu:nQ k=true) (t:TypeId) (x y:Operand) (a n:Nat) (w:al) (hn:n<=k.bits):(aG .shl t x y (.int k a) (.int j n)).run P w= .ok (.int k ((a*2^n%2^k.bits:Nat):Int)) w:=by
 rw [acG t x y k j a n w (by omega)];simp only [bk,c8 hn];have:=bQ (k:=k) (n:=a*2^n) hu;rw [<-this]
 norm_cast
def MW {P:Program} {k:IntKind} (hu:nQ k=true) (t:TypeId) (x y:Operand) (a b:Nat) (w:al) (ha:a<2^k.bits) (hb:b<2^k.bits):(aG .and t x y (.int k a) (.int k b)).run P w= .ok (.int k ((a&&&b:Nat):Int)) w:=by
 rw [acH t x y hu a b w (by omega) (by exact_mod_cast ha) (by omega) (by exact_mod_cast hb)];simp only [bk]
def U3 {P:Program} {k:IntKind} (hu:nQ k=true) (t:TypeId) (x y:Operand) (a b:Nat) (w:al) (ha:a<2^k.bits) (hb:b<2^k.bits):(aG .or t x y (.int k a) (.int k b)).run P w= .ok (.int k ((a|||b:Nat):Int)) w:=by
 rw [agX t x y hu a b w (by omega) (by exact_mod_cast ha) (by omega) (by exact_mod_cast hb)];simp only [bk]
def MX {P:Program} {k:IntKind} (hu:nQ k=true) (t:TypeId) (x y:Operand) (a b:Nat) (w:al) (ha:a<2^k.bits) (hb:b<2^k.bits):(aG .xor t x y (.int k a) (.int k b)).run P w= .ok (.int k ((a^^^b:Nat):Int)) w:=by
 rw [acI t x y hu a b w (by omega) (by exact_mod_cast ha) (by omega) (by exact_mod_cast hb)];simp only [bk]
def BB {P:Program} (k:IntKind) (t:TypeId) (x y:Operand) (a b:Nat) (w:al):(aG .lss t x y (.int k a) (.int k b)).run P w= .ok (.bool (decide (a<b))) w:=by rw [run_lss];simp only [dm]
def MY {P:Program} (k:IntKind) (t:TypeId) (x y:Operand) (a b:Nat) (w:al):(aG .leq t x y (.int k a) (.int k b)).run P w= .ok (.bool (decide (a<=b))) w:=by rw [run_leq];simp only [dn]
def MZ {P:Program} (k:IntKind) (t:TypeId) (x y:Operand) (a b:Nat) (w:al):(aG .gtr t x y (.int k a) (.int k b)).run P w= .ok (.bool (decide (b<a))) w:=by rw [run_gtr];simp only [dm]
def BC {P:Program} (k:IntKind) (t:TypeId) (x y:Operand) (a b:Nat) (w:al):(aG .geq t x y (.int k a) (.int k b)).run P w= .ok (.bool (decide (b<=a))) w:=by rw [run_geq];simp only [dn]
def ph {P:Program} (k:IntKind) (t:TypeId) (x y:Operand) (a b:Nat) (w:al):(aG .eql t x y (.int k a) (.int k b)).run P w= .ok (.bool (decide (a=b))) w:=by rw [run_eql];simp only [dj]
def kh {P:Program} (k:IntKind) (t:TypeId) (x y:Operand) (a b:Nat) (w:al):(aG .neq t x y (.int k a) (.int k b)).run P w= .ok (.bool (!decide (a=b))) w:=by rw [run_neq];simp only [dj]
def tR {P:Program} {k:IntKind} (hu:nQ k=true) (a:Nat) (w:al) (ha:a<2^k.bits):(Op.unary .xor (.int k a)).run P w= .ok (.int k (((2^k.bits-1)^^^a:Nat):Int)) w:=by
 have hs:k.signed=false:=by cases k<;>first|rfl|cases hu
 have hm:k.max=((2^k.bits-1:Nat):Int):=by cases k<;>first|rfl|cases hu
 have h2:0<2^k.bits:=Nat.two_pow_pos _;simp only [Op.unary,hs,aB,if_false,Op.intBits,hm];rw [bb,kf hu,cN,cI (by omega) (by exact_mod_cast (by omega:2^k.bits-1<2^k.bits)),cI (by omega) (by exact_mod_cast ha)];simp only [bk]
section
variable (P:Program)
def Qv (t:TypeId) (x y:Operand) (a b:Nat) (w:al) (k:K1) (hb:0<b):ev P (aG .rem t x y (.int .u8 (a:Int)) (.int .u8 (b:Int))) w k=k (.int .u8 ((a%b:Nat):Int)) w:=ad (tO (k:= .u8) t x y a b w hb) k
def Qw (t:TypeId) (x y:Operand) (a b:Nat) (w:al) (k:ab->Prop) (hb:0<b):rd P (aG .rem t x y (.int .u8 (a:Int)) (.int .u8 (b:Int))) w k=k (.int .u8 ((a%b:Nat):Int)):=ai (tO (k:= .u8) t x y a b w hb) k
def Qx (t:TypeId) (x y:Operand) (a b:Nat) (w:al) (k:K1):ev P (aG .lss t x y (.int .u8 (a:Int)) (.int .u8 (b:Int))) w k=k (.bool (decide (a<b))) w:=ad (BB .u8 t x y a b w) k
def Qy (t:TypeId) (x y:Operand) (a b:Nat) (w:al) (k:K1):ev P (aG .leq t x y (.int .u8 (a:Int)) (.int .u8 (b:Int))) w k=k (.bool (decide (a<=b))) w:=ad (MY .u8 t x y a b w) k
def Qz (t:TypeId) (x y:Operand) (a b:Nat) (w:al) (k:K1):ev P (aG .gtr t x y (.int .u8 (a:Int)) (.int .u8 (b:Int))) w k=k (.bool (decide (b<a))) w:=ad (MZ .u8 t x y a b w) k
def QB (t:TypeId) (x y:Operand) (a b:Nat) (w:al) (k:K1):ev P (aG .eql t x y (.int .u8 (a:Int)) (.int .u8 (b:Int))) w k=k (.bool (decide (a=b))) w:=ad (ph .u8 t x y a b w) k
def QC (t:TypeId) (x y:Operand) (a b:Nat) (w:al) (k:ab->Prop):rd P (aG .eql t x y (.int .u8 (a:Int)) (.int .u8 (b:Int))) w k=k (.bool (decide (a=b))):=ai (ph .u8 t x y a b w) k
def QD (t:TypeId) (x y:Operand) (a b:Nat) (w:al) (k:K1):ev P (aG .neq t x y (.int .u8 (a:Int)) (.int .u8 (b:Int))) w k=k (.bool (!decide (a=b))) w:=ad (kh .u8 t x y a b w) k
def QE (t:TypeId) (x y:Operand) (a b:Nat) (w:al) (k:ab->Prop):rd P (aG .neq t x y (.int .u8 (a:Int)) (.int .u8 (b:Int))) w k=k (.bool (!decide (a=b))):=ai (kh .u8 t x y a b w) k
def QF (a:Nat) (w:al) (k:K1) (ha:a<256):ev P (Op.unary .xor (.int .u8 (a:Int))) w k=k (.int .u8 ((255^^^a:Nat):Int)) w:=ad (tR (k:= .u8) rfl a w ha) k
def Im (t:TypeId) (x y:Operand) (a b:Nat) (w:al) (k:K1) (h:a+b<65536):ev P (aG .add t x y (.int .u16 (a:Int)) (.int .u16 (b:Int))) w k=k (.int .u16 ((a+b:Nat):Int)) w:=ad (BA (k:= .u16) rfl t x y a b w h) k
def In (t:TypeId) (x y:Operand) (a b:Nat) (w:al) (k:K1):ev P (aG .eql t x y (.int .u16 (a:Int)) (.int .u16 (b:Int))) w k=k (.bool (decide (a=b))) w:=ad (ph .u16 t x y a b w) k
def Io (t:TypeId) (x y:Operand) (a b:Nat) (w:al) (k:K1):ev P (aG .neq t x y (.int .u16 (a:Int)) (.int .u16 (b:Int))) w k=k (.bool (!decide (a=b))) w:=ad (kh .u16 t x y a b w) k
def Ip (t:TypeId) (x y:Operand) (a b:Nat) (w:al) (k:ab->Prop):rd P (aG .neq t x y (.int .u16 (a:Int)) (.int .u16 (b:Int))) w k=k (.bool (!decide (a=b))):=ai (kh .u16 t x y a b w) k
def Iq (a:Nat) (w:al) (k:K1) (ha:a<65536):ev P (Op.unary .xor (.int .u16 (a:Int))) w k=k (.int .u16 ((65535^^^a:Nat):Int)) w:=ad (tR (k:= .u16) rfl a w ha) k
def Ir (t:TypeId) (x y:Operand) (a b:Nat) (w:al) (k:K1) (ha:a<4294967296) (hb:b<4294967296):ev P (aG .and t x y (.int .u32 (a:Int)) (.int .u32 (b:Int))) w k=k (.int .u32 ((a&&&b:Nat):Int)) w:=ad (MW (k:= .u32) rfl t x y a b w ha hb) k
def QG (t:TypeId) (x y:Operand) (a b:Nat) (w:al) (k:K1) (ha:a<4294967296) (hb:b<4294967296):ev P (aG .or t x y (.int .u32 (a:Int)) (.int .u32 (b:Int))) w k=k (.int .u32 ((a|||b:Nat):Int)) w:=ad (U3 (k:= .u32) rfl t x y a b w ha hb) k
def Is (t:TypeId) (x y:Operand) (a b:Nat) (w:al) (k:K1) (ha:a<4294967296) (hb:b<4294967296):ev P (aG .xor t x y (.int .u32 (a:Int)) (.int .u32 (b:Int))) w k=k (.int .u32 ((a^^^b:Nat):Int)) w:=ad (MX (k:= .u32) rfl t x y a b w ha hb) k
def It (t:TypeId) (x y:Operand) (a b:Nat) (w:al) (k:K1):ev P (aG .geq t x y (.int .u32 (a:Int)) (.int .u32 (b:Int))) w k=k (.bool (decide (b<=a))) w:=ad (BC .u32 t x y a b w) k
def Iu (t:TypeId) (x y:Operand) (a b:Nat) (w:al) (k:K1):ev P (aG .neq t x y (.int .u32 (a:Int)) (.int .u32 (b:Int))) w k=k (.bool (!decide (a=b))) w:=ad (kh .u32 t x y a b w) k
def Iv (a:Nat) (w:al) (k:K1) (ha:a<4294967296):ev P (Op.unary .xor (.int .u32 (a:Int))) w k=k (.int .u32 ((4294967295^^^a:Nat):Int)) w:=ad (tR (k:= .u32) rfl a w ha) k
def Iw (t:TypeId) (x y:Operand) (a n:Nat) (w:al) (k:K1) (hn:n<=32):ev P (aG .shr t x y (.int .u32 (a:Int)) (.int .u64 (n:Int))) w k=k (.int .u32 ((a/2^n:Nat):Int)) w:=ad (tP (k:= .u32) (j:= .u64) t x y a n w hn) k
def Ix (t:TypeId) (x y:Operand) (a n:Nat) (w:al) (k:K1) (hn:n<=32):ev P (aG .shl t x y (.int .u32 (a:Int)) (.int .u64 (n:Int))) w k=k (.int .u32 ((a*2^n%4294967296:Nat):Int)) w:=ad (tQ (k:= .u32) (j:= .u64) rfl t x y a n w hn) k
def Iy (t:TypeId) (x y:Operand) (a b:Nat) (w:al) (k:K1) (h:a+b<18446744073709551616):ev P (aG .add t x y (.int .u64 (a:Int)) (.int .u64 (b:Int))) w k=k (.int .u64 ((a+b:Nat):Int)) w:=ad (BA (k:= .u64) rfl t x y a b w h) k
def Iz (t:TypeId) (x y:Operand) (a b:Nat) (w:al) (k:ab->Prop) (h:a+b<18446744073709551616):rd P (aG .add t x y (.int .u64 (a:Int)) (.int .u64 (b:Int))) w k=k (.int .u64 ((a+b:Nat):Int)):=ai (BA (k:= .u64) rfl t x y a b w h) k
def IA (t:TypeId) (x y:Operand) (a b:Nat) (w:al) (k:K1) (h0:b<=a) (h:a<18446744073709551616):ev P (aG .sub t x y (.int .u64 (a:Int)) (.int .u64 (b:Int))) w k=k (.int .u64 ((a-b:Nat):Int)) w:=ad (MU (k:= .u64) rfl t x y a b w h0 h) k
def IB (t:TypeId) (x y:Operand) (a b:Nat) (w:al) (k:ab->Prop) (h0:b<=a) (h:a<18446744073709551616):rd P (aG .sub t x y (.int .u64 (a:Int)) (.int .u64 (b:Int))) w k=k (.int .u64 ((a-b:Nat):Int)):=ai (MU (k:= .u64) rfl t x y a b w h0 h) k
def IC (t:TypeId) (x y:Operand) (a b:Nat) (w:al) (k:K1) (h:a*b<18446744073709551616):ev P (aG .mul t x y (.int .u64 (a:Int)) (.int .u64 (b:Int))) w k=k (.int .u64 ((a*b:Nat):Int)) w:=ad (MV (k:= .u64) rfl t x y a b w h) k
def ID (t:TypeId) (x y:Operand) (a b:Nat) (w:al) (k:ab->Prop) (h:a*b<18446744073709551616):rd P (aG .mul t x y (.int .u64 (a:Int)) (.int .u64 (b:Int))) w k=k (.int .u64 ((a*b:Nat):Int)):=ai (MV (k:= .u64) rfl t x y a b w h) k
def IE (t:TypeId) (x y:Operand) (a b:Nat) (w:al) (k:K1) (h:a<18446744073709551616) (hb:0<b):ev P (aG .quo t x y (.int .u64 (a:Int)) (.int .u64 (b:Int))) w k=k (.int .u64 ((a/b:Nat):Int)) w:=ad (acQ (k:= .u64) rfl t x y a b w h hb) k
def IF (t:TypeId) (x y:Operand) (a b:Nat) (w:al) (k:K1) (hb:0<b):ev P (aG .rem t x y (.int .u64 (a:Int)) (.int .u64 (b:Int))) w k=k (.int .u64 ((a%b:Nat):Int)) w:=ad (tO (k:= .u64) t x y a b w hb) k
def IG (t:TypeId) (x y:Operand) (a b:Nat) (w:al) (k:ab->Prop) (hb:0<b):rd P (aG .rem t x y (.int .u64 (a:Int)) (.int .u64 (b:Int))) w k=k (.int .u64 ((a%b:Nat):Int)):=ai (tO (k:= .u64) t x y a b w hb) k
def IH (t:TypeId) (x y:Operand) (a b:Nat) (w:al) (k:K1) (ha:a<18446744073709551616) (hb:b<18446744073709551616):ev P (aG .and t x y (.int .u64 (a:Int)) (.int .u64 (b:Int))) w k=k (.int .u64 ((a&&&b:Nat):Int)) w:=ad (MW (k:= .u64) rfl t x y a b w ha hb) k
def QH (t:TypeId) (x y:Operand) (a b:Nat) (w:al) (k:K1) (ha:a<18446744073709551616) (hb:b<18446744073709551616):ev P (aG .or t x y (.int .u64 (a:Int)) (.int .u64 (b:Int))) w k=k (.int .u64 ((a|||b:Nat):Int)) w:=ad (U3 (k:= .u64) rfl t x y a b w ha hb) k
def II (t:TypeId) (x y:Operand) (a b:Nat) (w:al) (k:ab->Prop) (ha:a<18446744073709551616) (hb:b<18446744073709551616):rd P (aG .xor t x y (.int .u64 (a:Int)) (.int .u64 (b:Int))) w k=k (.int .u64 ((a^^^b:Nat):Int)):=ai (MX (k:= .u64) rfl t x y a b w ha hb) k
def IJ (t:TypeId) (x y:Operand) (a b:Nat) (w:al) (k:K1):ev P (aG .lss t x y (.int .u64 (a:Int)) (.int .u64 (b:Int))) w k=k (.bool (decide (a<b))) w:=ad (BB .u64 t x y a b w) k
def IK (t:TypeId) (x y:Operand) (a b:Nat) (w:al) (k:ab->Prop):rd P (aG .lss t x y (.int .u64 (a:Int)) (.int .u64 (b:Int))) w k=k (.bool (decide (a<b))):=ai (BB .u64 t x y a b w) k
def IL (t:TypeId) (x y:Operand) (a b:Nat) (w:al) (k:K1):ev P (aG .leq t x y (.int .u64 (a:Int)) (.int .u64 (b:Int))) w k=k (.bool (decide (a<=b))) w:=ad (MY .u64 t x y a b w) k
def IM (t:TypeId) (x y:Operand) (a b:Nat) (w:al) (k:K1):ev P (aG .gtr t x y (.int .u64 (a:Int)) (.int .u64 (b:Int))) w k=k (.bool (decide (b<a))) w:=ad (MZ .u64 t x y a b w) k
def IN (t:TypeId) (x y:Operand) (a b:Nat) (w:al) (k:K1):ev P (aG .geq t x y (.int .u64 (a:Int)) (.int .u64 (b:Int))) w k=k (.bool (decide (b<=a))) w:=ad (BC .u64 t x y a b w) k
def IP (t:TypeId) (x y:Operand) (a b:Nat) (w:al) (k:ab->Prop):rd P (aG .geq t x y (.int .u64 (a:Int)) (.int .u64 (b:Int))) w k=k (.bool (decide (b<=a))):=ai (BC .u64 t x y a b w) k
def IQ (t:TypeId) (x y:Operand) (a b:Nat) (w:al) (k:K1):ev P (aG .eql t x y (.int .u64 (a:Int)) (.int .u64 (b:Int))) w k=k (.bool (decide (a=b))) w:=ad (ph .u64 t x y a b w) k
def IR (t:TypeId) (x y:Operand) (a b:Nat) (w:al) (k:ab->Prop):rd P (aG .eql t x y (.int .u64 (a:Int)) (.int .u64 (b:Int))) w k=k (.bool (decide (a=b))):=ai (ph .u64 t x y a b w) k
def IS (t:TypeId) (x y:Operand) (a b:Nat) (w:al) (k:K1):ev P (aG .neq t x y (.int .u64 (a:Int)) (.int .u64 (b:Int))) w k=k (.bool (!decide (a=b))) w:=ad (kh .u64 t x y a b w) k
def IT (t:TypeId) (x y:Operand) (a b:Nat) (w:al) (k:ab->Prop):rd P (aG .neq t x y (.int .u64 (a:Int)) (.int .u64 (b:Int))) w k=k (.bool (!decide (a=b))):=ai (kh .u64 t x y a b w) k
def IU (a:Nat) (w:al) (k:K1) (ha:a<18446744073709551616):ev P (Op.unary .xor (.int .u64 (a:Int))) w k=k (.int .u64 ((18446744073709551615^^^a:Nat):Int)) w:=ad (tR (k:= .u64) rfl a w ha) k
def IV (t:TypeId) (x y:Operand) (a n:Nat) (w:al) (k:K1) (hn:n<=64):ev P (aG .shr t x y (.int .u64 (a:Int)) (.int .u64 (n:Int))) w k=k (.int .u64 ((a/2^n:Nat):Int)) w:=ad (tP (k:= .u64) (j:= .u64) t x y a n w hn) k
def IW (t:TypeId) (x y:Operand) (a n:Nat) (w:al) (k:ab->Prop) (hn:n<=64):rd P (aG .shr t x y (.int .u64 (a:Int)) (.int .u64 (n:Int))) w k=k (.int .u64 ((a/2^n:Nat):Int)):=ai (tP (k:= .u64) (j:= .u64) t x y a n w hn) k
def IX (t:TypeId) (x y:Operand) (a n:Nat) (w:al) (k:K1) (hn:n<=64):ev P (aG .shl t x y (.int .u64 (a:Int)) (.int .u64 (n:Int))) w k=k (.int .u64 ((a*2^n%18446744073709551616:Nat):Int)) w:=ad (tQ (k:= .u64) (j:= .u64) rfl t x y a n w hn) k
def IY (t:TypeId) (x y:Operand) (a n:Nat) (w:al) (k:ab->Prop) (hn:n<=64):rd P (aG .shl t x y (.int .u64 (a:Int)) (.int .u64 (n:Int))) w k=k (.int .u64 ((a*2^n%18446744073709551616:Nat):Int)):=ai (tQ (k:= .u64) (j:= .u64) rfl t x y a n w hn) k
def IZ (t:TypeId) (x y:Operand) (a b:Int) (w:al) (k:K1) (h0: -9223372036854775808<=a+b) (h1:a+b<9223372036854775808):ev P (aG .add t x y (.int .i64 a) (.int .i64 b)) w k=k (.int .i64 (a+b)) w:=ad ((Go.Sh.run_add t x y .i64 a b w).trans (by rw [cz h0 h1])) k
def I1 (t:TypeId) (x y:Operand) (a b:Int) (w:al) (k:ab->Prop) (h0: -9223372036854775808<=a+b) (h1:a+b<9223372036854775808):rd P (aG .add t x y (.int .i64 a) (.int .i64 b)) w k=k (.int .i64 (a+b)):=ai ((Go.Sh.run_add t x y .i64 a b w).trans (by rw [cz h0 h1])) k
def I2 (t:TypeId) (x y:Operand) (a b:Int) (w:al) (u:ab) (h0: -9223372036854775808<=a+b) (h1:a+b<9223372036854775808):ag P (aG .add t x y (.int .i64 a) (.int .i64 b)) w u=(.int .i64 (a+b)=u):=aW ((Go.Sh.run_add t x y .i64 a b w).trans (by rw [cz h0 h1])) u
def I4 (t:TypeId) (x y:Operand) (a b:Int) (w:al) (k:K1) (h0: -9223372036854775808<=a-b) (h1:a-b<9223372036854775808):ev P (aG .sub t x y (.int .i64 a) (.int .i64 b)) w k=k (.int .i64 (a-b)) w:=ad ((Go.Sh.run_sub t x y .i64 a b w).trans (by rw [cz h0 h1])) k
def I7 (t:TypeId) (x y:Operand) (a b:Int) (w:al) (k:ab->Prop) (h0: -9223372036854775808<=a-b) (h1:a-b<9223372036854775808):rd P (aG .sub t x y (.int .i64 a) (.int .i64 b)) w k=k (.int .i64 (a-b)):=ai ((Go.Sh.run_sub t x y .i64 a b w).trans (by rw [cz h0 h1])) k
def I8 (t:TypeId) (x y:Operand) (a b:Int) (w:al) (u:ab) (h0: -9223372036854775808<=a-b) (h1:a-b<9223372036854775808):ag P (aG .sub t x y (.int .i64 a) (.int .i64 b)) w u=(.int .i64 (a-b)=u):=aW ((Go.Sh.run_sub t x y .i64 a b w).trans (by rw [cz h0 h1])) u
def I9 (t:TypeId) (x y:Operand) (a b:Int) (w:al) (k:K1) (h0: -9223372036854775808<=a*b) (h1:a*b<9223372036854775808):ev P (aG .mul t x y (.int .i64 a) (.int .i64 b)) w k=k (.int .i64 (a*b)) w:=ad ((Go.Sh.run_mul t x y .i64 a b w).trans (by rw [cz h0 h1])) k
def Ja (t:TypeId) (x y:Operand) (a b:Int) (w:al) (k:ab->Prop) (h0: -9223372036854775808<=a*b) (h1:a*b<9223372036854775808):rd P (aG .mul t x y (.int .i64 a) (.int .i64 b)) w k=k (.int .i64 (a*b)):=ai ((Go.Sh.run_mul t x y .i64 a b w).trans (by rw [cz h0 h1])) k
def Jb (t:TypeId) (x y:Operand) (a b:Int) (w:al) (u:ab) (h0: -9223372036854775808<=a*b) (h1:a*b<9223372036854775808):ag P (aG .mul t x y (.int .i64 a) (.int .i64 b)) w u=(.int .i64 (a*b)=u):=aW ((Go.Sh.run_mul t x y .i64 a b w).trans (by rw [cz h0 h1])) u
def Jc (t:TypeId) (x y:Operand) (a b:Int) (w:al) (k:K1) (ha:0<=a) (h:a<9223372036854775808) (hb:0<b):ev P (aG .quo t x y (.int .i64 a) (.int .i64 b)) w k=k (.int .i64 (a/b)) w:=ad (lO t x y a b w ha h hb) k
def Jd (t:TypeId) (x y:Operand) (a b:Int) (w:al) (k:ab->Prop) (ha:0<=a) (h:a<9223372036854775808) (hb:0<b):rd P (aG .quo t x y (.int .i64 a) (.int .i64 b)) w k=k (.int .i64 (a/b)):=ai (lO t x y a b w ha h hb) k
def Je (t:TypeId) (x y:Operand) (a b:Int) (w:al) (u:ab) (ha:0<=a) (h:a<9223372036854775808) (hb:0<b):ag P (aG .quo t x y (.int .i64 a) (.int .i64 b)) w u=(.int .i64 (a/b)=u):=aW (lO t x y a b w ha h hb) u
def Jf (t:TypeId) (x y:Operand) (a b:Int) (w:al) (k:K1) (ha:0<=a) (hb:0<b):ev P (aG .rem t x y (.int .i64 a) (.int .i64 b)) w k=k (.int .i64 (a%b)) w:=ad (Go.Sh.run_rem t x y .i64 a b w ha hb) k
def Jg (t:TypeId) (x y:Operand) (a b:Int) (w:al) (k:ab->Prop) (ha:0<=a) (hb:0<b):rd P (aG .rem t x y (.int .i64 a) (.int .i64 b)) w k=k (.int .i64 (a%b)):=ai (Go.Sh.run_rem t x y .i64 a b w ha hb) k
def Jh (t:TypeId) (x y:Operand) (a b:Int) (w:al) (k:K1):ev P (aG .lss t x y (.int .i64 a) (.int .i64 b)) w k=k (.bool (decide (a<b))) w:=ad (Go.Sh.run_lss t x y .i64 a b w) k
def Ji (t:TypeId) (x y:Operand) (a b:Int) (w:al) (k:ab->Prop):rd P (aG .lss t x y (.int .i64 a) (.int .i64 b)) w k=k (.bool (decide (a<b))):=ai (Go.Sh.run_lss t x y .i64 a b w) k
def Jj (t:TypeId) (x y:Operand) (a b:Int) (w:al) (k:K1):ev P (aG .leq t x y (.int .i64 a) (.int .i64 b)) w k=k (.bool (decide (a<=b))) w:=ad (Go.Sh.run_leq t x y .i64 a b w) k
def Jk (t:TypeId) (x y:Operand) (a b:Int) (w:al) (k:ab->Prop):rd P (aG .leq t x y (.int .i64 a) (.int .i64 b)) w k=k (.bool (decide (a<=b))):=ai (Go.Sh.run_leq t x y .i64 a b w) k
def Jl (t:TypeId) (x y:Operand) (a b:Int) (w:al) (k:K1):ev P (aG .gtr t x y (.int .i64 a) (.int .i64 b)) w k=k (.bool (decide (b<a))) w:=ad (Go.Sh.run_gtr t x y .i64 a b w) k
def Jm (t:TypeId) (x y:Operand) (a b:Int) (w:al) (k:ab->Prop):rd P (aG .gtr t x y (.int .i64 a) (.int .i64 b)) w k=k (.bool (decide (b<a))):=ai (Go.Sh.run_gtr t x y .i64 a b w) k
def Jn (t:TypeId) (x y:Operand) (a b:Int) (w:al) (k:K1):ev P (aG .geq t x y (.int .i64 a) (.int .i64 b)) w k=k (.bool (decide (b<=a))) w:=ad (Go.Sh.run_geq t x y .i64 a b w) k
def Jo (t:TypeId) (x y:Operand) (a b:Int) (w:al) (k:ab->Prop):rd P (aG .geq t x y (.int .i64 a) (.int .i64 b)) w k=k (.bool (decide (b<=a))):=ai (Go.Sh.run_geq t x y .i64 a b w) k
def Jp (t:TypeId) (x y:Operand) (a b:Int) (w:al) (k:K1):ev P (aG .eql t x y (.int .i64 a) (.int .i64 b)) w k=k (.bool (decide (a=b))) w:=ad (Go.Sh.run_eql t x y .i64 a b w) k
def Jq (t:TypeId) (x y:Operand) (a b:Int) (w:al) (k:ab->Prop):rd P (aG .eql t x y (.int .i64 a) (.int .i64 b)) w k=k (.bool (decide (a=b))):=ai (Go.Sh.run_eql t x y .i64 a b w) k
def Jr (t:TypeId) (x y:Operand) (a b:Int) (w:al) (k:K1):ev P (aG .neq t x y (.int .i64 a) (.int .i64 b)) w k=k (.bool (!decide (a=b))) w:=ad (Go.Sh.run_neq t x y .i64 a b w) k
def Js (t:TypeId) (x y:Operand) (a b:Int) (w:al) (k:ab->Prop):rd P (aG .neq t x y (.int .i64 a) (.int .i64 b)) w k=k (.bool (!decide (a=b))):=ai (Go.Sh.run_neq t x y .i64 a b w) k
def RN0:=aa (Qv P)<|aa (Qw P)<|(Qx P)
def RN1:=aa (Qy P)<|aa (Qz P)<|aa (QB P)<|aa (QC P)<|aa (QD P)<|aa (QE P)<|(QF P)
def RN2:=(Im P)
def RN3:=aa (In P)<|aa (Io P)<|aa (Ip P)<|(Iq P)
def RN4:=aa (Ir P)<|aa (QG P)<|(Is P)
def RN5:=aa (It P)<|aa (Iu P)<|aa (Iv P)<|(Iw P)
def RN6:=aa (Ix P)<|aa (Iy P)<|aa (Iz P)<|aa (IA P)<|aa (IB P)<|aa (IC P)<|aa (ID P)<|aa (IE P)<|aa (IF P)<|aa (IG P)<|aa (IH P)<|(QH P)
def RN7:=aa (II P)<|aa (IJ P)<|aa (IK P)<|aa (IL P)<|aa (IM P)<|aa (IN P)<|aa (IP P)<|aa (IQ P)<|aa (IR P)<|aa (IS P)<|aa (IT P)<|aa (IU P)<|aa (IV P)<|(IW P)
def RN8:=aa (IX P)<|aa (IY P)<|aa (IZ P)<|aa (I1 P)<|aa (I2 P)<|aa (I4 P)<|aa (I7 P)<|aa (I8 P)<|aa (I9 P)<|aa (Ja P)<|aa (Jb P)<|aa (Jc P)<|aa (Jd P)<|aa (Je P)<|aa (Jf P)<|aa (Jg P)<|aa (Jh P)<|aa (Ji P)<|aa (Jj P)<|(Jk P)
def RN9:=aa (Jl P)<|aa (Jm P)<|aa (Jn P)<|aa (Jo P)<|aa (Jp P)<|aa (Jq P)<|aa (Jr P)<|(Js P)
def RN:=aa (RN0 P)<|aa (RN1 P)<|aa (RN2 P)<|aa (RN3 P)<|aa (RN4 P)<|aa (RN5 P)<|aa (RN6 P)<|aa (RN7 P)<|aa (RN8 P)<|(RN9 P)
end
def dOk (m:Nat):Option Tmp->Bool
 |none=>true
 |some d=>tb m d
def lQ (m:Nat):Code->Bool
 | .region _ ops _=>ops.toList.all λo=>dOk m o.dst
 | .seq a b=>lQ m a&&lQ m b
 | .cond _ a b=>lQ m a&&lQ m b
 | .block _ c=>lQ m c
 | .loop c=>lQ m c
 |_=>true
def agY (m' m:Nat):Bool:=Nat.beq (Nat.land m' m) m'
structure eY (m:Nat) (f0 fr:Fr):Prop where
 len:fr.length=f0.length
 eq:∀i,tb m i=false->fr.getD i undef=f0.getD i undef
def eY.refl (m:Nat) (f:Fr):eY m f f:=⟨rfl,λ_ _=>rfl⟩
def eY.put {m:Nat} {f0 fr:Fr} (h:eY m f0 fr) {d:Option Tmp} (hd:dOk m d=true) (v:ab):eY m f0 (put fr d v):=by
 refine ⟨by rw [fX];exact h.len,λi hi=> ?_⟩;rw [fb (λe=>by subst e;simp only [dOk] at hd;rw [hd] at hi;cases hi)];exact h.eq i hi
def acR {m' m i:Nat} (h:agY m' m=true) (hi:tb m i=false):tb m' i=false:=by
 have e:m'&&&m=m':=a9 h;rw [EW] at hi ⊢;rw [<-e,c6,hi,c9]
def eY.up {m m':Nat} {f0 f1 fr:Fr} (hm:agY m' m=true) (a:eY m f0 f1) (h:eY m' f1 fr):eY m f0 fr:=
 ⟨h.len.trans a.len,λi hi=>(h.eq i (acR hm hi)).trans (a.eq i hi)⟩
def pj {P:Program} {r:Result Next} {k k':K1} (hk:∀v w,k v w->k' v w) (h:stN P r k):stN P r k':=by
 cases r with
 |halt x w=>exact h.elim
 |ok n w=>
  cases n<;>simp only [stN] at h ⊢<;>try exact hk _ _ h
  ·refine Calls.mono h ?_;intro e w' hr
   cases e with
   |returned v=>exact hk _ _ hr
   |panicked c=>exact hr
   |outgrown=>exact hr
  ·refine RoundIn.mono h ?_;intro e w' hr
   cases e with
   |returned v=>exact hk _ _ hr
   |panicked c=>exact hr
   |outgrown=>exact hr
def E8 {P:Program} {f:FuncId} {args:Array ab} {w:al} {k k':K1} (hk:∀v w,k v w->k' v w) (h:ae P f args w k):ae P f args w k':=by
 refine Calls.mono h ?_;intro e w' hr
 cases e with
 |returned v=>exact hk _ _ hr
 |panicked c=>exact hr
 |outgrown=>exact hr
def bR {P:Program} {s:Sem ab} {w:al} {k k':K1} (hk:∀v w,k v w->k' v w) (h:ev P s w k):ev P s w k':=by
 unfold ev at h ⊢
 cases hr:s.run P w with
 |ok v w'=>rw [hr] at h;exact hk _ _ h
 |halt x w'=>rw [hr] at h;exact h
def M5 {P:Program} {s:Sem Unit} {w:al} {k k':al->Prop} (hk:∀w,k w->k' w) (h:ac P s w k):ac P s w k':=by
 unfold ac at h ⊢
 cases hr:s.run P w with
 |ok v w'=>rw [hr] at h;exact hk _ h
 |halt x w'=>rw [hr] at h;exact h
def M6 {o:Option ab} {k k':ab->Prop} (hk:∀v,k v->k' v) (h:oE o k):oE o k':=by
 unfold oE at h ⊢
 cases o with
 |some v=>exact hk _ h
 |none=>exact h
def acS {o:Option al} {k k':al->Prop} (hk:∀v,k v->k' v) (h:oW o k):oW o k':=by
 unfold oW at h ⊢
 cases o with
 |some v=>exact hk _ h
 |none=>exact h
def E9 {P:Program} {o:Op} {ty:TypeId} {ρ:Operand->ab} {w:al} {k k':K1} (hk:∀v w,k v w->k' v w) (h:opS P o ty ρ w k):opS P o ty ρ w k':=by
 cases o with
 |move x=>exact hk _ _ h
 |assign x=>exact hk _ _ h
 |pick c a b=>
  simp only [opS,au] at h ⊢;split at h
  ·exact hk _ _ h
  ·exact hk _ _ h
  ·exact h
 |alloc t=>exact bR hk h
 |box t x=>simp only [opS] at h ⊢;exact bR hk h
 |build t ps=>exact bR hk h
 |buildSlice t n ps=>exact bR hk h
 |load t a=>exact M6 (λv=>hk v _) h
 |store t a x=>exact acS (λv=>hk _ _) h
 |nilCheck x=>exact pj hk h
 |binOp op t x y yt=>exact bR hk h
 |unOp op t x=>exact bR hk h
 |convert s d x=>exact bR hk h
 |makeInterface t x=>exact bR hk h
 |makeMap t r=>cases r with
  |none=>simp only [opS] at h ⊢;exact bR hk h
  |some r=>exact h
 |makeSlice t l c=>exact bR hk h
 |slice t x lo hi mx=>exact bR hk h
 |fieldAddr s x f=>exact bR hk h
 |field t x f=>exact bR hk h
 |indexAddr t x i=>exact bR hk h
 |index t x i=>exact bR hk h
 |lookup t x i c=>exact bR hk h
 |mapUpdate t m i x=>exact M5 (λw=>hk _ w) h
 |insert t m i x=>exact M5 (λw=>hk _ w) h
 |range t x=>exact bR hk h
 |next it s=>exact bR hk h
 |entry it=>exact bR hk h
 |extract t i=>exact bR hk h
 |makeFunc f a b=>simp only [opS] at h ⊢;exact bR hk h
 |call c=>
  obtain ⟨e,args,ts⟩:=c
  cases e with
  |value f=>
   cases f with
   |func f=>exact E8 hk h
   |_=>exact pj hk h
  |invoke r name=>exact pj hk h
  |builtin b=>exact pj hk h
 |_=>exact h.elim
def acT {x:ab} {a:Bool} {c:K1->Prop} {w:al} {k k':K1} (hy:c k->c k') (hk:∀v w,k v w->k' v w) (h:gd x a c w k):gd x a c w k':=by
 unfold gd at h ⊢;split
 ·rename_i b
  cases b<;>cases a<;>simp only at h ⊢<;>first|exact hy h|exact hk _ _ h
 ·rename_i hx;split at h
  ·rename_i b;exact absurd rfl (hx b)
  ·exact hk _ _ h
def yA {P:Program} {ops:List Oper} {o:Oper} {fr:Fr} {w:al} {k k':K1} (hk:∀v w,k v w->k' v w) (h:xU P ops o fr w k):xU P ops o fr w k':=by
 unfold xU at h ⊢
 cases hg:o.guard with
 |none=>rw [hg] at h;exact E9 hk h
 |some g=>rw [hg] at h;exact acT (E9 hk) hk h
def QI {P:Program} {ops:List Oper} {m:Nat} {f0:Fr} {k k':KF} (hk:∀fr w,eY m f0 fr->k fr w->k' fr w):∀(l:List Oper) (fr:Fr) (w:al),(l.all λo=>dOk m o.dst)=true->eY m f0 fr->Qg P ops l k fr w->Qg P ops l k' fr w:=by
 intro l
 induction l with
 |nil=>intro fr w _ hs h;exact hk _ _ hs h
 |cons o l ih=>
  intro fr w hd hs h;simp only [dd,aq] at hd;exact yA (λv w' h=>ih _ _ hd.2 (hs.put hd.1 v) h) h
def acU {P:Program} {s:Sem ab} {w:al} {k k':ab->Prop} (hk:∀v,k v->k' v) (h:rd P s w k):rd P s w k':=by
 unfold rd at h ⊢
 cases hr:s.run P w with
 |ok v w'=>rw [hr] at h;exact ⟨h.1,hk _ h.2⟩
 |halt x w'=>rw [hr] at h;exact h
def QJ {P:Program} {x:ab} {w:al} {k k':ab->Prop} (hk:∀v,k v->k' v) (h:bw P x w k):bw P x w k':=by
 unfold bw at h ⊢;split
 ·rename_i v w' hr;rw [hr] at h;exact ⟨h.1,hk _ h.2⟩
 ·rename_i hx;split at h
  ·rename_i v w' hr;exact absurd hr (hx v w')
  ·exact h
def Fa {P:Program} {o:Op} {ty:TypeId} {ρ:Operand->ab} {w:al} {k k':ab->Prop} (hk:∀v,k v->k' v) (h:rdS P o ty ρ w k):rdS P o ty ρ w k':=by
 have d:(match rdO o ty ρ with|some s=>rd P s w k|none=>False)->(match rdO o ty ρ with|some s=>rd P s w k'|none=>False):=by
  intro h
  cases hs:rdO o ty ρ with
  |none=>rw [hs] at h;exact h.elim
  |some s=>rw [hs] at h;exact acU hk h
 cases o
 case move x=>exact hk _ h
 case pick c a b=>
  simp only [rdS,bh] at h ⊢;split at h
  ·exact hk _ h
  ·exact hk _ h
  ·exact h
 case nilCheck x=>exact QJ hk h
 case load t x=>exact M6 hk h
 all_goals exact d h
def U4 {x:ab} {a:Bool} {c:(ab->Prop)->Prop} {k k':ab->Prop} (hy:c k->c k') (hk:∀v,k v->k' v) (h:gdR x a c k):gdR x a c k':=by
 unfold gdR at h ⊢;split
 ·rename_i b
  cases b<;>cases a<;>simp only at h ⊢<;>first|exact hy h|exact hk _ h
 ·rename_i hx;split at h
  ·rename_i b;exact absurd rfl (hx b)
  ·exact hk _ h
def QK {P:Program} {ops:List Oper} {o:Oper} {fr:Fr} {w:al} {k k':ab->Prop} (hk:∀v,k v->k' v) (h:Qi P ops o fr w k):Qi P ops o fr w k':=by
 unfold Qi at h ⊢
 cases hg:o.guard with
 |none=>rw [hg] at h;exact Fa hk h
 |some g=>rw [hg] at h;exact U4 (Fa hk) hk h
def BD {P:Program} {ops:List Oper} {fr:Fr} {w:al} {X Y:Prop} (hX:X->Y):∀(l:List Oper),ja P ops l fr w X->ja P ops l fr w Y:=by
 intro l
 induction l with
 |nil=>exact hX
 |cons o l ih=>intro h;exact ⟨h.1,ih h.2⟩
def QL {α:Type} {f g:α->Prop}:∀(l:List α) (x:α),(∀y∈x::l,f y->g y)->UI f x l->UI g x l:=by
 intro l
 induction l with
 |nil=>intro x h;exact h x bl
 |cons y l ih=>intro x h h1;exact ⟨h x bl h1.1,ih y (λz hz=>h z (bx _ hz)) h1.2⟩
def QM {done:Nat}:∀(l:List Oper) (i:Nat) (k:Nat) (o:Oper),(k,o)∈kW done l i->o∈l:=by
 intro l
 induction l with
 |nil=>intro i k o h;cases h
 |cons x l ih=>
  intro i k o h;unfold kW at h;split at h
  ·rcases List.mem_cons.1 h with h|h
   ·injection h with _ h;rw [h];exact bl
   ·exact bx _ (ih _ _ _ h)
  ·exact bx _ (ih _ _ _ h)
def QN {P:Program} {ops:List Oper} {bef:List Nat} {m:Nat} {f0:Fr} {k k':KF} (hd:(ops.all λo=>dOk m o.dst)=true) (hk:∀fr w,eY m f0 fr->k fr w->k' fr w):∀(n done:Nat) (fr:Fr) (w:al),eY m f0 fr->nP P ops bef k n done fr w->nP P ops bef k' n done fr w:=by
 intro n
 induction n with
 |zero=>intro done fr w hs h;exact hk _ _ hs h
 |succ n ih=>
  intro done fr w hs h;unfold nP at h ⊢
  cases hf:kV done ops 0 with
  |some x=>
   obtain ⟨i,o⟩:=x;rw [hf] at h;obtain ⟨j,_,hj,_⟩:=jY ops 0 i o hf;have ho:=List.all_eq_true.1 hd o (List.mem_of_getElem? hj);exact QK (λv h=>ih _ _ _ (hs.put ho v) h) h
  |none=>
   rw [hf] at h;simp only at h ⊢
   cases hn:kW done ops 0 with
   |nil=>rw [hn] at h;exact hk _ _ hs h
   |cons x l=>
    rw [hn] at h;refine QL l x (λy hy h=> ?_) h;have ho:=List.all_eq_true.1 hd y.2 (QM ops 0 y.1 y.2 (by rw [hn];exact hy));exact yA (λv w' h=>BD (λh=>ih _ _ _ (hs.put ho v) h) _ h) h
def yB {x:ab} {A B A' B':Prop} (h1:A->A') (h2:B->B') (h:af x A B):af x A' B':=by
 unfold af at h ⊢;split at h
 ·exact h1 h
 ·exact h2 h
 ·exact h
def Fb {m:Nat} {f0:Fr} {id:Nat} {k k':KF} {e e':Nat->KF} (hk:∀fr w,eY m f0 fr->k fr w->k' fr w) (he:∀j fr w,eY m f0 fr->e j fr w->e' j fr w):∀j fr w,eY m f0 fr->exB id k e j fr w->exB id k' e' j fr w:=by
 intro j fr w hs h;unfold exB at h ⊢
 cases hj:Nat.beq j id with
 |true=>rw [hj] at h;exact hk _ _ hs h
 |false=>rw [hj] at h;exact he _ _ _ hs h
def Jt {P:Program} {m:Nat} {f0:Fr}:∀(c:Code) {k k' r r':KF} {e e':Nat->KF},lQ m c=true->(∀fr w,eY m f0 fr->k fr w->k' fr w)->(∀fr w,eY m f0 fr->r fr w->r' fr w)->(∀j fr w,eY m f0 fr->e j fr w->e' j fr w)->
  ∀(fr:Fr) (w:al),eY m f0 fr->iG P c k r e fr w->iG P c k' r' e' fr w:=by
 intro c
 induction c with
 |skip=>intro k k' r r' e e' _ hk _ _ fr w hs h;exact hk _ _ hs h
 |region id ops d=>
  intro k k' r r' e e' hw hk _ _ fr w hs h
  cases d with
  |false=>exact QI hk _ _ _ hw hs h
  |true=>exact QN hw hk _ _ _ _ hs h
 |seq a b iha ihb=>
  intro k k' r r' e e' hw hk hr he fr w hs h;simp only [lQ,aq] at hw;exact iha hw.1 (λfr w hs h=>ihb hw.2 hk hr he fr w hs h) hr he fr w hs h
 |cond c x y ihx ihy=>
  intro k k' r r' e e' hw hk hr he fr w hs h;simp only [lQ,aq] at hw;exact yB (ihx hw.1 hk hr he fr w hs) (ihy hw.2 hk hr he fr w hs) h
 |block id c ih=>
  intro k k' r r' e e' hw hk hr he fr w hs h;exact ih hw hk hr (Fb hk he) fr w hs h
 |loop c ih=>
  intro k k' r r' e e' hw hk hr he fr w hs h;obtain ⟨I,μ,h0,f⟩:=h;refine ⟨λfr w=>eY m f0 fr/\I fr w,μ,⟨hs,h0⟩,?_⟩;rintro fr w ⟨hs,hI⟩;exact ih hw (λfr' w' g h=>⟨⟨g,h.1⟩,h.2⟩) hr he fr w hs (f fr w hI)
 |exit id=>intro k k' r r' e e' _ _ _ he fr w hs h;exact he _ _ _ hs h
 |ret=>intro k k' r r' e e' _ _ hr _ fr w hs h;exact hr _ _ hs h
 |_=>intro k k' r r' e e' _ _ _ _ fr w _ h;exact h.elim
def sv (fr:Fr) (i:Nat):ab:=fr.getD i undef
def eY.sv {m:Nat} {f0 fr:Fr} (h:eY m f0 fr) (i:Nat) (hi:tb m i=false):sv fr i=sv f0 i:=h.eq i hi
def BE (keep:Nat) (σ:Nat->ab):Nat->Fr->Fr
 |_,[]=> []
 |i,x::l=>(match tb keep i with|true=>x|false=>σ i)::BE keep σ (i+1) l
def Fc {keep:Nat} {σ:Nat->ab}:∀(l:Fr) (i:Nat) (g:Fr),g.length=l.length->(∀j,j<l.length->(tb keep (i+j)=true->l.getD j undef=g.getD j undef)/\(tb keep (i+j)=false->σ (i+j)=g.getD j undef))->BE keep σ i l=g:=by
 intro l
 induction l with
 |nil=>intro i g hg _;simp at hg;simp [BE,hg]
 |cons x l ih=>
  intro i g hg h
  cases g with
  |nil=>simp at hg
  |cons y g=>
   have h0:=h 0 (by simp);simp only [b6,List.getD_cons_zero] at h0;have h1:=ih (i+1) g (by simpa using hg) (λj hj=>by
    have:=h (j+1) (by simp;omega);rw [show i+(j+1)=i+1+j by omega] at this;simpa using this)
   simp only [BE,h1]
   cases hb:tb keep i with
   |true=>simp only;rw [h0.1 hb]
   |false=>simp only;rw [h0.2 hb]
def QO (keep:Nat) (fr:Fr):BE keep (sv fr) 0 fr=fr:=Fc fr 0 fr rfl (λj _=>⟨λ_=>rfl,λ_=>by simp [sv]⟩)
def oq (T:Type):List Nat->Type
 | []=>al->T
 |_::l=>ab->oq T l
def uO {T:Type}:(l:List Nat)->oq T l->(Nat->ab)->al->T
 | [],I,_=>I
 |i::l,I,σ=>uO l (I (σ i)) σ
def agZ:(l:List Nat)->oq Prop l->oq Nat l->Nat->oq Prop l->Prop
 | [],I,μ,m,E=>∀w,I w->μ w<m->E w
 |_::l,I,μ,m,E=>∀y,agZ l (I y) (μ y) m (E y)
def ag0:(l:List Nat)->oq Prop l->oq Nat l->Nat->oq Prop l
 | [],I,μ,m=>λw=>I w/\μ w<m
 |_::l,I,μ,m=>λy=>ag0 l (I y) (μ y) m
def Fd:∀(l:List Nat) (I:oq Prop l) (μ:oq Nat l) (m:Nat),agZ l I μ m (ag0 l I μ m)
 | [],_,_,_=>λ_ a b=>⟨a,b⟩
 |_::l,I,μ,m=>λy=>Fd l (I y) (μ y) m
def Fe:∀(l:List Nat) (I:oq Prop l) (μ:oq Nat l) (m:Nat) (σ:Nat->ab) (w:al),uO l (ag0 l I μ m) σ w->uO l I σ w/\uO l μ σ w<m
 | [],_,_,_,_,_=>λh=>h
 |i::l,I,μ,m,σ,w=>Fe l (I (σ i)) (μ (σ i)) m σ w
def aH (lm:List Nat) (keep:Nat) (a:KF->KF) (fr:Fr) (w:al):Prop:=
 ∃(I:oq Prop lm) (μ:oq Nat lm),uO lm I (sv fr) w/\∀(σ:Nat->ab) (w:al),uO lm I σ w->∀E:oq Prop lm,agZ lm I μ (uO lm μ σ w) E->a (λfr w=>uO lm E (sv fr) w) (BE keep σ 0 fr) w
inductive Dec
 |o
 |s (a b:Dec)
 |x (keep:Nat) (a b:Dec)
 |b (a:Dec)
 |l (lm:List Nat) (keep wr:Nat) (a:Dec)
def jv (P:Program):Dec->Code->KF->KF->(Nat->KF)->KF
 | .o,c,k,r,e=>iG P c k r e
 | .s da db,c,k,r,e=>match c with
  | .seq a b=>jv P da a (λfr w=>jv P db b k r e fr w) r e
  | .cond x a b=>λfr w=>af (evO fr x) (jv P da a k r e fr w) (jv P db b k r e fr w)
  |_=>λ_ _=>False
 | .x keep da db,c,k,r,e=>match c with
  | .seq a b=>jv P da a (λfr w=>∀σ:Nat->ab,jv P db b k r e (BE keep σ 0 fr) w) r e
  |_=>λ_ _=>False
 | .b d,c,k,r,e=>match c with
  | .block id c=>jv P d c k r (exB id k e)
  |_=>λ_ _=>False
 | .l lm keep _ d,c,_,r,e=>match c with
  | .loop c=>λfr w=>aH lm keep (λE=>jv P d c E r e) fr w
  |_=>λ_ _=>False
def okT (m:Nat):Dec->Code->Bool
 | .s da db,c=>match c with
  | .seq a b=>okT m da a&&okT m db b
  | .cond _ a b=>okT m da a&&okT m db b
  |_=>true
 | .x _ da db,c=>match c with
  | .seq a b=>okT m da a&&okT m db b
  |_=>true
 | .b d,c=>match c with
  | .block _ c=>okT m d c
  |_=>true
 | .l _ keep wr d,c=>match c with
  | .loop c=>lQ wr c&&(agY wr m&&(Nat.beq (Nat.land keep wr) 0&&okT wr d c))
  |_=>true
 | .o,_=>true
def acV {keep wr i:Nat} (h:Nat.beq (Nat.land keep wr) 0=true) (hi:tb keep i=true):tb wr i=false:=by
 have e:keep&&&wr=0:=a9 h;rw [EW] at hi ⊢;have h2:(keep&&&wr).testBit i=false:=by rw [e];exact c4 i
 rw [c6,hi,cn] at h2;exact h2
def tf {P:Program}:∀(d:Dec) (c:Code) {m:Nat} {f0:Fr} {k k' r r':KF} {e e':Nat->KF},okT m d c=true->lQ m c=true->(∀fr w,eY m f0 fr->k fr w->k' fr w)->(∀fr w,eY m f0 fr->r fr w->r' fr w)->(∀j fr w,eY m f0 fr->e j fr w->e' j fr w)->
  ∀(fr:Fr) (w:al),eY m f0 fr->jv P d c k r e fr w->iG P c k' r' e' fr w:=by
 intro d
 induction d with
 |o=>intro c m f0 k k' r r' e e' _ hw hk hr he fr w hs h;exact Jt c hw hk hr he fr w hs h
 |s da db iha ihb=>
  intro c m f0 k k' r r' e e' ho hw hk hr he fr w hs h
  cases c with
  |seq a b=>
   simp only [okT,lQ,aq] at ho hw;exact iha a ho.1 hw.1 (λfr w hs h=>ihb b ho.2 hw.2 hk hr he fr w hs h) hr he fr w hs h
  |cond x a b=>
   simp only [okT,lQ,aq] at ho hw;exact yB (iha a ho.1 hw.1 hk hr he fr w hs) (ihb b ho.2 hw.2 hk hr he fr w hs) h
  |_=>exact h.elim
 |x keep da db iha ihb=>
  intro c m f0 k k' r r' e e' ho hw hk hr he fr w hs h
  cases c with
  |seq a b=>
   simp only [okT,lQ,aq] at ho hw;refine iha a ho.1 hw.1 (λfr w hs h=> ?_) hr he fr w hs h;have h1:=h (sv fr);rw [QO] at h1;exact ihb b ho.2 hw.2 hk hr he fr w hs h1
  |_=>exact h.elim
 |b d ih=>
  intro c m f0 k k' r r' e e' ho hw hk hr he fr w hs h
  cases c with
  |block id c=>exact ih c ho hw hk hr (Fb hk he) fr w hs h
  |_=>exact h.elim
 |l lm keep wr d ih=>
  intro c m f0 k k' r r' e e' ho hw hk hr he fr w hs h
  cases c with
  |loop c=>
   simp only [okT,aq] at ho;obtain ⟨o1,o2,o3,o4⟩:=ho;obtain ⟨I,μ,h0,g⟩:=h;refine ⟨λf' w'=>eY wr fr f'/\uO lm I (sv f') w',λf' w'=>uO lm μ (sv f') w',⟨eY.refl _ _,h0⟩,?_⟩;rintro f' w' ⟨hs',hI⟩;have hb:=g (sv f') w' hI _ (Fd lm I μ (uO lm μ (sv f') w'));have hm:BE keep (sv f') 0 fr=f':=Fc fr 0 f' hs'.len (λj _=>⟨λhj=>by
    rw [cB] at hj;exact (hs'.eq j (acV o3 hj)).symm,λ_=>by simp [sv]⟩)
   rw [hm] at hb;refine ih c o4 o1 (λf2 w2 f h2=> ?_) (λf2 w2 f h2=>hr f2 w2 (eY.up o2 hs f) h2) (λj f2 w2 f h2=>he j f2 w2 (eY.up o2 hs f) h2) f' w' hs' hb;have h3:=Fe lm I μ _ (sv f2) w2 h2;exact ⟨⟨f,h3.1⟩,h3.2⟩
  |_=>exact h.elim
def nX:Nat->KF:=λ_ _ _=>False
def txt (P:Program) (fn:Func) (d:Dec) (args:List ab) (K:K1) (w:al):Prop:=
 match fn.body with
 |some c=>jv P d c (aU P fn.results.toList K) (aU P fn.results.toList K) nX (args++List.replicate (fn.ntmps-args.length) undef) w
 |none=>False
def okF (P:Program) (fn:Func) (d:Dec) (args:List ab):Bool:=
 match fn.body with
 |some c=>Nat.ble args.length fn.ntmps&&(fv P fn.ntmps c&&(lQ (2^fn.ntmps-1) c&&okT (2^fn.ntmps-1) d c))
 |none=>false
def br {P:Program} (hm:P.follows .mixedOrders=true) {f:FuncId} {fn:Func} (hf:P.funcs[f]? =some fn) (d:Dec) {args:List ab} {w:al} {K:K1} (a:okF P fn d args=true) (h:txt P fn d args K w):ae P f args.toArray w K:=by
 unfold okF at a;unfold txt at h
 cases hb:fn.body with
 |none=>rw [hb] at h;exact h.elim
 |some c=>
  rw [hb] at h a;simp only [aq] at a;obtain ⟨o1,o2,o3,o4⟩:=a;exact uH hm hf hb rfl (by simp) o2 (Nat.le_of_ble_eq_true o1) (tf d c o4 o3 (λ_ _ _ h=>h) (λ_ _ _ h=>h) (λ_ _ _ _ h=>h) _ w (eY.refl _ _) h)
def pl (u:Code×Dec):Code×Dec:=(cl u.1,match u.2 with
 | .s a _=>a
 | .x _ a _=>a
 | .b a=>a
 | .l _ _ _ a=>a
 | .o=> .o)
def pr (u:Code×Dec):Code×Dec:=(cr u.1,match u.2 with
 | .s _ b=>b
 | .x _ _ b=>b
 |_=> .o)
def fz:Nat->Nat->List (Nat×ab)->Fr
 |0,_,_=> []
 |n+1,i,[]=>undef::fz n (i+1) []
 |n+1,i,(j,x)::l=>match Nat.beq i j with
  |true=>x::fz n (i+1) l
  |false=>undef::fz n (i+1) ((j,x)::l)
def aJ {p:(Nat->ab)->Prop} {A:Prop} (h:∀σ,p σ=A):(∀σ,p σ)=A:=propext ⟨λa=>(h λ_=>undef)▸a (λ_=>undef),λa σ=>(h σ).symm▸a⟩
abbrev VP0:=al->Prop
abbrev VP1:=ab->VP0
abbrev VP2:=ab->VP1
abbrev VP3:=ab->VP2
abbrev VP4:=ab->VP3
abbrev VP5:=ab->VP4
end Go.Sh
namespace Go.Proofs.YtmpehclnnjgmcaaGreatDoor
open Go Go.Sh
def kR {p:Prop} (h:p:=by kernel_rfl):p:=h
noncomputable def cP (u:Code×Dec):KF->KF->(Nat->KF)->KF:=jv prog u.2 u.1
def mixed:prog.follows .mixedOrders=true:=by kernel_rfl
def pt (v0 v1:ab) (h0:aj v0=true) (h1:aj v1=true) (w:al):(Instr.build 98 #[(0,v0),(1,v1)]).run prog w= .ok (.agg #[v0,v1]) w:=
 Go.Sh.run_buildS (z:= .agg #[.int .u64 0,.int .u64 0]) kR (show bm prog 98=some [(0,1),(1,1)] from kR) (by show Instr.fill _ _ [(0,v0),(1,v1)]=_;rw [aw (off:=0) rfl h0 (by simp [Value.cells])];rw [aw (off:=1) rfl h1 (by simp [Value.cells])];rfl) w
def acW (a b:ab) (w:al):(av 79 1 #[(0,.agg #[a,b])]).run prog w= .ok (.slice (some ⟨w.heap.size,0,none⟩) 1 1) (w.alloc (.cells #[a,b] 98)):=
 Go.Sh.run_buildSliceS (z:=(.agg #[.int .u64 0,.int .u64 0])) (show prog.underlying 79=some (.slice 98) from kR) (show szT prog 98=some 2 from kR) kR (by decide) (by decide) (by show Instr.fill _ #[.int .u64 0,.int .u64 0] [(0,.agg #[a,b])]=_;rw [yz (off:=0) rfl (by simp)];rfl) w
def tB (v0 v1 v2:ab) (h0:aj v0=true) (h1:aj v1=true) (h2:aj v2=true) (w:al):(Instr.build 155 #[(0,v0),(1,v1),(2,v2)]).run prog w= .ok (.agg #[v0,v1,v2,.pointer none,.pointer none,.pointer none,.pointer none,.pointer none,.pointer none,.pointer none,.pointer none,.bool false,.bool false,.int .i64 0,.int .u64 0]) w:=
 Go.Sh.run_buildS (z:= .agg #[.slice none 0 0,.slice none 0 0,.slice none 0 0,.pointer none,.pointer none,.pointer none,.pointer none,.pointer none,.pointer none,.pointer none,.pointer none,.bool false,.bool false,.int .i64 0,.int .u64 0]) kR (show bm prog 155=some [(0,1),(1,1),(2,1),(3,8),(11,1),(12,1),(13,1),(14,1)] from kR) (by show Instr.fill _ _ [(0,v0),(1,v1),(2,v2)]=_;rw [aw (off:=0) rfl h0 (by simp [Value.cells])];rw [aw (off:=1) rfl h1 (by simp [Value.cells])];rw [aw (off:=2) rfl h2 (by simp [Value.cells])];rfl) w
def tC (v0 v1 v3:ab) (h0:aj v0=true) (h1:aj v1=true) (h3:aj v3=true) (w:al):(Instr.build 147 #[(0,v0),(1,v1),(3,v3)]).run prog w= .ok (.agg #[v0,v1,.int .i64 0,v3]) w:=
 Go.Sh.run_buildS (z:= .agg #[.pointer none,.int .i64 0,.int .i64 0,.map none]) kR (show bm prog 147=some [(0,1),(1,1),(2,1),(3,1)] from kR) (by show Instr.fill _ _ [(0,v0),(1,v1),(3,v3)]=_;rw [aw (off:=0) rfl h0 (by simp [Value.cells])];rw [aw (off:=1) rfl h1 (by simp [Value.cells])];rw [aw (off:=3) rfl h3 (by simp [Value.cells])];rfl) w
def acX (v0:ab) (h0:aj v0=true) (w:al):(av 50 1 #[(0,v0)]).run prog w= .ok (.slice (some ⟨w.heap.size,0,none⟩) 1 1) (w.alloc (.cells #[v0] 3)):=
 Go.Sh.run_buildSliceS (z:=(.int .i64 0)) (show prog.underlying 50=some (.slice 3) from kR) (show szT prog 3=some 1 from kR) kR (by decide) (by decide) (by show Instr.fill _ #[.int .i64 0] [(0,v0)]=_;rw [aw (off:=0) rfl h0 (by simp)];rfl) w
def Ju (w:al):(Instr.build 132 #[]).run prog w= .ok (.agg #[.int .i64 0,.int .i64 0,.int .u16 0]) w:=
 Go.Sh.run_buildS (z:= .agg #[.int .i64 0,.int .i64 0,.int .u16 0]) kR (show bm prog 132=some [(0,1),(1,1),(2,1)] from kR) rfl w
def kZ (v0 v1 v2:ab) (h0:aj v0=true) (h1:aj v1=true) (h2:aj v2=true) (w:al):(Instr.build 132 #[(0,v0),(1,v1),(2,v2)]).run prog w= .ok (.agg #[v0,v1,v2]) w:=
 Go.Sh.run_buildS (z:= .agg #[.int .i64 0,.int .i64 0,.int .u16 0]) kR (show bm prog 132=some [(0,1),(1,1),(2,1)] from kR) (by show Instr.fill _ _ [(0,v0),(1,v1),(2,v2)]=_;rw [aw (off:=0) rfl h0 (by simp [Value.cells])];rw [aw (off:=1) rfl h1 (by simp [Value.cells])];rw [aw (off:=2) rfl h2 (by simp [Value.cells])];rfl) w
def Jv (w:al):(Instr.build 200 #[]).run prog w= .ok (.agg #[.int .u16 0,.int .u8 0,.int .u8 0]) w:=
 Go.Sh.run_buildS (z:= .agg #[.int .u16 0,.int .u8 0,.int .u8 0]) kR (show bm prog 200=some [(0,1),(1,1),(2,1)] from kR) rfl w
def tD (v0 v1 v2:ab) (h0:aj v0=true) (h1:aj v1=true) (h2:aj v2=true) (w:al):(Instr.build 200 #[(0,v0),(1,v1),(2,v2)]).run prog w= .ok (.agg #[v0,v1,v2]) w:=
 Go.Sh.run_buildS (z:= .agg #[.int .u16 0,.int .u8 0,.int .u8 0]) kR (show bm prog 200=some [(0,1),(1,1),(2,1)] from kR) (by show Instr.fill _ _ [(0,v0),(1,v1),(2,v2)]=_;rw [aw (off:=0) rfl h0 (by simp [Value.cells])];rw [aw (off:=1) rfl h1 (by simp [Value.cells])];rw [aw (off:=2) rfl h2 (by simp [Value.cells])];rfl) w
def xY (v0 v2:ab) (h0:aj v0=true) (h2:aj v2=true) (w:al):(Instr.build 200 #[(0,v0),(2,v2)]).run prog w= .ok (.agg #[v0,.int .u8 0,v2]) w:=
 Go.Sh.run_buildS (z:= .agg #[.int .u16 0,.int .u8 0,.int .u8 0]) kR (show bm prog 200=some [(0,1),(1,1),(2,1)] from kR) (by show Instr.fill _ _ [(0,v0),(2,v2)]=_;rw [aw (off:=0) rfl h0 (by simp [Value.cells])];rw [aw (off:=2) rfl h2 (by simp [Value.cells])];rfl) w
def acY (v0 v1 v2 v3:ab) (h0:aj v0=true) (h1:aj v1=true) (h2:aj v2=true) (h3:aj v3=true) (w:al):(av 51 4 #[(0,v0),(1,v1),(2,v2),(3,v3)]).run prog w= .ok (.slice (some ⟨w.heap.size,0,none⟩) 4 4) (w.alloc (.cells #[v0,v1,v2,v3] 5)):=
 Go.Sh.run_buildSliceS (z:=(.int .u8 0)) (show prog.underlying 51=some (.slice 5) from kR) (show szT prog 5=some 1 from kR) kR (by decide) (by decide) (by show Instr.fill _ #[.int .u8 0,.int .u8 0,.int .u8 0,.int .u8 0] [(0,v0),(1,v1),(2,v2),(3,v3)]=_;rw [aw (off:=0) rfl h0 (by simp)];rw [aw (off:=1) rfl h1 (by simp)];rw [aw (off:=2) rfl h2 (by simp)];rw [aw (off:=3) rfl h3 (by simp)];rfl) w
def uP (v0:ab) (h0:aj v0=true) (w:al):(Instr.build 98 #[(0,v0)]).run prog w= .ok (.agg #[v0,.int .u64 0]) w:=
 Go.Sh.run_buildS (z:= .agg #[.int .u64 0,.int .u64 0]) kR (show bm prog 98=some [(0,1),(1,1)] from kR) (by show Instr.fill _ _ [(0,v0)]=_;rw [aw (off:=0) rfl h0 (by simp [Value.cells])];rfl) w
def U5 (v0 v1:ab) (h0:aj v0=true) (h1:aj v1=true) (w:al):(av 254 2 #[(0,v0),(1,v1)]).run prog w= .ok (.slice (some ⟨w.heap.size,0,none⟩) 2 2) (w.alloc (.cells #[v0,v1] 120)):=
 Go.Sh.run_buildSliceS (z:=(.slice none 0 0)) (show prog.underlying 254=some (.slice 120) from kR) (show szT prog 120=some 1 from kR) kR (by decide) (by decide) (by show Instr.fill _ #[.slice none 0 0,.slice none 0 0] [(0,v0),(1,v1)]=_;rw [aw (off:=0) rfl h0 (by simp)];rw [aw (off:=1) rfl h1 (by simp)];rfl) w
def tF (v0 v1 v2:ab) (h0:aj v0=true) (h1:aj v1=true) (h2:aj v2=true) (w:al):(Instr.build 220 #[(0,v0),(1,v1),(2,v2)]).run prog w= .ok (.agg #[v0,v1,v2]) w:=
 Go.Sh.run_buildS (z:= .agg #[.int .u8 0,.int .u64 0,.int .u64 0]) kR (show bm prog 220=some [(0,1),(1,1),(2,1)] from kR) (by show Instr.fill _ _ [(0,v0),(1,v1),(2,v2)]=_;rw [aw (off:=0) rfl h0 (by simp [Value.cells])];rw [aw (off:=1) rfl h1 (by simp [Value.cells])];rw [aw (off:=2) rfl h2 (by simp [Value.cells])];rfl) w
def U6 (b c a:ab) (w:al):(av 120 1 #[(0,.agg #[b,c,a])]).run prog w= .ok (.slice (some ⟨w.heap.size,0,none⟩) 1 1) (w.alloc (.cells #[b,c,a] 220)):=
 Go.Sh.run_buildSliceS (z:=(.agg #[.int .u8 0,.int .u64 0,.int .u64 0])) (show prog.underlying 120=some (.slice 220) from kR) (show szT prog 220=some 3 from kR) kR (by decide) (by decide) (by show Instr.fill _ #[.int .u8 0,.int .u64 0,.int .u64 0] [(0,.agg #[b,c,a])]=_;rw [Qs (off:=0) rfl (by simp)];rfl) w
def acZ (v0:ab) (h0:aj v0=true) (w:al):(av 58 1 #[(0,v0)]).run prog w= .ok (.slice (some ⟨w.heap.size,0,none⟩) 1 1) (w.alloc (.cells #[v0] 26)):=
 Go.Sh.run_buildSliceS (z:=(.int .u64 0)) (show prog.underlying 58=some (.slice 26) from kR) (show szT prog 26=some 1 from kR) kR (by decide) (by decide) (by show Instr.fill _ #[.int .u64 0] [(0,v0)]=_;rw [aw (off:=0) rfl h0 (by simp)];rfl) w
def yd (v0 v1:ab) (h0:aj v0=true) (h1:aj v1=true) (w:al):(Instr.build 220 #[(0,v0),(1,v1)]).run prog w= .ok (.agg #[v0,v1,.int .u64 0]) w:=
 Go.Sh.run_buildS (z:= .agg #[.int .u8 0,.int .u64 0,.int .u64 0]) kR (show bm prog 220=some [(0,1),(1,1),(2,1)] from kR) (by show Instr.fill _ _ [(0,v0),(1,v1)]=_;rw [aw (off:=0) rfl h0 (by simp [Value.cells])];rw [aw (off:=1) rfl h1 (by simp [Value.cells])];rfl) w
def Ff (v0:ab) (h0:aj v0=true) (w:al):(Instr.build 220 #[(0,v0)]).run prog w= .ok (.agg #[v0,.int .u64 0,.int .u64 0]) w:=
 Go.Sh.run_buildS (z:= .agg #[.int .u8 0,.int .u64 0,.int .u64 0]) kR (show bm prog 220=some [(0,1),(1,1),(2,1)] from kR) (by show Instr.fill _ _ [(0,v0)]=_;rw [aw (off:=0) rfl h0 (by simp [Value.cells])];rfl) w
def Jw (w:al):(Instr.build 134 #[]).run prog w= .ok (.agg #[.nilIface,.int .i64 0,.int .i64 0,.int .i64 0,.int .u16 0]) w:=
 Go.Sh.run_buildS (z:= .agg #[.nilIface,.int .i64 0,.int .i64 0,.int .i64 0,.int .u16 0]) kR (show bm prog 134=some [(0,1),(1,1),(2,3)] from kR) rfl w
def tG (v0 v1 a b c:ab) (h0:aj v0=true) (h1:aj v1=true) (w:al):(Instr.build 134 #[(0,v0),(1,v1),(2,.agg #[a,b,c])]).run prog w= .ok (.agg #[v0,v1,a,b,c]) w:=
 Go.Sh.run_buildS (z:= .agg #[.nilIface,.int .i64 0,.int .i64 0,.int .i64 0,.int .u16 0]) kR (show bm prog 134=some [(0,1),(1,1),(2,3)] from kR) (by show Instr.fill _ _ [(0,v0),(1,v1),(2,.agg #[a,b,c])]=_;rw [aw (off:=0) rfl h0 (by simp [Value.cells])];rw [aw (off:=1) rfl h1 (by simp [Value.cells])];rw [Instr.fill];rfl) w
def U7 (v0 v1:ab) (h0:aj v0=true) (h1:aj v1=true) (w:al):(av 248 2 #[(0,v0),(1,v1)]).run prog w= .ok (.slice (some ⟨w.heap.size,0,none⟩) 2 2) (w.alloc (.cells #[v0,v1] 50)):=
 Go.Sh.run_buildSliceS (z:=(.slice none 0 0)) (show prog.underlying 248=some (.slice 50) from kR) (show szT prog 50=some 1 from kR) kR (by decide) (by decide) (by show Instr.fill _ #[.slice none 0 0,.slice none 0 0] [(0,v0),(1,v1)]=_;rw [aw (off:=0) rfl h0 (by simp)];rw [aw (off:=1) rfl h1 (by simp)];rfl) w
def Fg (v0:ab) (h0:aj v0=true) (w:al):(Instr.build 212 #[(0,v0)]).run prog w= .ok (.agg #[v0,.slice none 0 0]) w:=
 Go.Sh.run_buildS (z:= .agg #[.nilIface,.slice none 0 0]) kR (show bm prog 212=some [(0,1),(1,1)] from kR) (by show Instr.fill _ _ [(0,v0)]=_;rw [aw (off:=0) rfl h0 (by simp [Value.cells])];rfl) w
def tH (v0 v1 v2:ab) (h0:aj v0=true) (h1:aj v1=true) (h2:aj v2=true) (w:al):(Instr.build 195 #[(0,v0),(1,v1),(2,v2)]).run prog w= .ok (.agg #[v0,v1,v2,.bool false]) w:=
 Go.Sh.run_buildS (z:= .agg #[.int .i64 0,.int .i64 0,.int .i64 0,.bool false]) kR (show bm prog 195=some [(0,1),(1,1),(2,1),(3,1)] from kR) (by show Instr.fill _ _ [(0,v0),(1,v1),(2,v2)]=_;rw [aw (off:=0) rfl h0 (by simp [Value.cells])];rw [aw (off:=1) rfl h1 (by simp [Value.cells])];rw [aw (off:=2) rfl h2 (by simp [Value.cells])];rfl) w
def U8 (v0 v1:ab) (h0:aj v0=true) (h1:aj v1=true) (w:al):(av 213 2 #[(0,v0),(1,v1)]).run prog w= .ok (.slice (some ⟨w.heap.size,0,none⟩) 2 2) (w.alloc (.cells #[v0,v1] 25)):=
 Go.Sh.run_buildSliceS (z:=(.slice none 0 0)) (show prog.underlying 213=some (.slice 25) from kR) (show szT prog 25=some 1 from kR) kR (by decide) (by decide) (by show Instr.fill _ #[.slice none 0 0,.slice none 0 0] [(0,v0),(1,v1)]=_;rw [aw (off:=0) rfl h0 (by simp)];rw [aw (off:=1) rfl h1 (by simp)];rfl) w
def ac0 (v0:ab) (h0:aj v0=true) (w:al):(av 51 1 #[(0,v0)]).run prog w= .ok (.slice (some ⟨w.heap.size,0,none⟩) 1 1) (w.alloc (.cells #[v0] 5)):=
 Go.Sh.run_buildSliceS (z:=(.int .u8 0)) (show prog.underlying 51=some (.slice 5) from kR) (show szT prog 5=some 1 from kR) kR (by decide) (by decide) (by show Instr.fill _ #[.int .u8 0] [(0,v0)]=_;rw [aw (off:=0) rfl h0 (by simp)];rfl) w
def tI (v0 v1 v2:ab) (h0:aj v0=true) (h1:aj v1=true) (h2:aj v2=true) (w:al):(Instr.build 123 #[(0,v0),(1,v1),(2,v2)]).run prog w= .ok (.agg #[v0,v1,v2]) w:=
 Go.Sh.run_buildS (z:= .agg #[.pointer none,.pointer none,.pointer none]) kR (show bm prog 123=some [(0,1),(1,1),(2,1)] from kR) (by show Instr.fill _ _ [(0,v0),(1,v1),(2,v2)]=_;rw [aw (off:=0) rfl h0 (by simp [Value.cells])];rw [aw (off:=1) rfl h1 (by simp [Value.cells])];rw [aw (off:=2) rfl h2 (by simp [Value.cells])];rfl) w
def ac1 (v0 v1:ab) (h0:aj v0=true) (h1:aj v1=true) (w:al):(av 58 2 #[(0,v0),(1,v1)]).run prog w= .ok (.slice (some ⟨w.heap.size,0,none⟩) 2 2) (w.alloc (.cells #[v0,v1] 26)):=
 Go.Sh.run_buildSliceS (z:=(.int .u64 0)) (show prog.underlying 58=some (.slice 26) from kR) (show szT prog 26=some 1 from kR) kR (by decide) (by decide) (by show Instr.fill _ #[.int .u64 0,.int .u64 0] [(0,v0),(1,v1)]=_;rw [aw (off:=0) rfl h0 (by simp)];rw [aw (off:=1) rfl h1 (by simp)];rfl) w
def Jy (w:al):(Instr.build 162 #[]).run prog w= .ok (.agg #[.slice none 0 0,.slice none 0 0,.slice none 0 0]) w:=
 Go.Sh.run_buildS (z:= .agg #[.slice none 0 0,.slice none 0 0,.slice none 0 0]) kR (show bm prog 162=some [(0,1),(1,1),(2,1)] from kR) rfl w
def lr (v0 v1 v2 v3 v4 v5:ab) (h0:aj v0=true) (h1:aj v1=true) (h2:aj v2=true) (h3:aj v3=true) (h4:aj v4=true) (h5:aj v5=true) (w:al):(Instr.build 112 #[(0,v0),(1,v1),(2,v2),(3,v3),(4,v4),(5,v5)]).run prog w= .ok (.agg #[v0,v1,v2,v3,v4,v5,.map none,.bool false]) w:=
 Go.Sh.run_buildS (z:= .agg #[.nilIface,.int .i64 0,.int .i64 0,.pointer none,.map none,.map none,.map none,.bool false]) kR (show bm prog 112=some [(0,1),(1,1),(2,1),(3,1),(4,1),(5,1),(6,1),(7,1)] from kR) (by show Instr.fill _ _ [(0,v0),(1,v1),(2,v2),(3,v3),(4,v4),(5,v5)]=_;rw [aw (off:=0) rfl h0 (by simp [Value.cells])];rw [aw (off:=1) rfl h1 (by simp [Value.cells])];rw [aw (off:=2) rfl h2 (by simp [Value.cells])];rw [aw (off:=3) rfl h3 (by simp [Value.cells])];rw [aw (off:=4) rfl h4 (by simp [Value.cells])];rw [aw (off:=5) rfl h5 (by simp [Value.cells])];rfl) w
def tJ (v0 v1 v2:ab) (h0:aj v0=true) (h1:aj v1=true) (h2:aj v2=true) (w:al):(Instr.build 171 #[(0,v0),(1,v1),(2,v2)]).run prog w= .ok (.agg #[v0,v1,v2]) w:=
 Go.Sh.run_buildS (z:= .agg #[.nilIface,.int .u64 0,.int .u64 0]) kR (show bm prog 171=some [(0,1),(1,1),(2,1)] from kR) (by show Instr.fill _ _ [(0,v0),(1,v1),(2,v2)]=_;rw [aw (off:=0) rfl h0 (by simp [Value.cells])];rw [aw (off:=1) rfl h1 (by simp [Value.cells])];rw [aw (off:=2) rfl h2 (by simp [Value.cells])];rfl) w
def QP (w:al):(Instr.build 73 #[]).run prog w= .ok (.agg #[.int .i64 0,.int .i64 0,.int .i64 0,.int .i64 0]) w:=
 Go.Sh.run_buildS (z:= .agg #[.int .i64 0,.int .i64 0,.int .i64 0,.int .i64 0]) kR (show bm prog 73=some [(0,1),(1,1),(2,1),(3,1)] from kR) rfl w
def pu (v0 v1:ab) (h0:aj v0=true) (h1:aj v1=true) (w:al):(Instr.build 73 #[(0,v0),(1,v1)]).run prog w= .ok (.agg #[v0,v1,.int .i64 0,.int .i64 0]) w:=
 Go.Sh.run_buildS (z:= .agg #[.int .i64 0,.int .i64 0,.int .i64 0,.int .i64 0]) kR (show bm prog 73=some [(0,1),(1,1),(2,1),(3,1)] from kR) (by show Instr.fill _ _ [(0,v0),(1,v1)]=_;rw [aw (off:=0) rfl h0 (by simp [Value.cells])];rw [aw (off:=1) rfl h1 (by simp [Value.cells])];rfl) w
def ac2 (v0:ab) (h0:aj v0=true) (w:al):(av 25 1 #[(0,v0)]).run prog w= .ok (.slice (some ⟨w.heap.size,0,none⟩) 1 1) (w.alloc (.cells #[v0] 27)):=
 Go.Sh.run_buildSliceS (z:=(.int .u64 0)) (show prog.underlying 25=some (.slice 27) from kR) (show szT prog 27=some 1 from kR) kR (by decide) (by decide) (by show Instr.fill _ #[.int .u64 0] [(0,v0)]=_;rw [aw (off:=0) rfl h0 (by simp)];rfl) w
def BF (v0 v1:ab) (h0:aj v0=true) (h1:aj v1=true) (w:al):(Instr.build 63 #[(0,v0),(1,v1)]).run prog w= .ok (.agg #[v0,v1]) w:=
 Go.Sh.run_buildS (z:= .agg #[.int .u64 0,.int .i64 0]) kR (show bm prog 63=some [(0,1),(1,1)] from kR) (by show Instr.fill _ _ [(0,v0),(1,v1)]=_;rw [aw (off:=0) rfl h0 (by simp [Value.cells])];rw [aw (off:=1) rfl h1 (by simp [Value.cells])];rfl) w
def ac3 (a b:ab) (w:al):(av 34 1 #[(0,.agg #[a,b])]).run prog w= .ok (.slice (some ⟨w.heap.size,0,none⟩) 1 1) (w.alloc (.cells #[a,b] 63)):=
 Go.Sh.run_buildSliceS (z:=(.agg #[.int .u64 0,.int .i64 0])) (show prog.underlying 34=some (.slice 63) from kR) (show szT prog 63=some 2 from kR) kR (by decide) (by decide) (by show Instr.fill _ #[.int .u64 0,.int .i64 0] [(0,.agg #[a,b])]=_;rw [yz (off:=0) rfl (by simp)];rfl) w
def ov (v0 v1 v2 v3 v4:ab) (h0:aj v0=true) (h1:aj v1=true) (h2:aj v2=true) (h3:aj v3=true) (h4:aj v4=true) (w:al):(Instr.build 38 #[(0,v0),(1,v1),(2,v2),(3,v3),(4,v4)]).run prog w= .ok (.agg #[v0,v1,v2,v3,v4,.slice none 0 0,.slice none 0 0,.slice none 0 0]) w:=
 Go.Sh.run_buildS (z:= .agg #[.pointer none,.pointer none,.pointer none,.pointer none,.int .i64 0,.slice none 0 0,.slice none 0 0,.slice none 0 0]) kR (show bm prog 38=some [(0,1),(1,1),(2,1),(3,1),(4,1),(5,3)] from kR) (by show Instr.fill _ _ [(0,v0),(1,v1),(2,v2),(3,v3),(4,v4)]=_;rw [aw (off:=0) rfl h0 (by simp [Value.cells])];rw [aw (off:=1) rfl h1 (by simp [Value.cells])];rw [aw (off:=2) rfl h2 (by simp [Value.cells])];rw [aw (off:=3) rfl h3 (by simp [Value.cells])];rw [aw (off:=4) rfl h4 (by simp [Value.cells])];rfl) w
def BG (v0 v2:ab) (h0:aj v0=true) (h2:aj v2=true) (w:al):(Instr.build 36 #[(0,v0),(2,v2)]).run prog w= .ok (.agg #[v0,.slice none 0 0,v2]) w:=
 Go.Sh.run_buildS (z:= .agg #[.slice none 0 0,.slice none 0 0,.slice none 0 0]) kR (show bm prog 36=some [(0,1),(1,1),(2,1)] from kR) (by show Instr.fill _ _ [(0,v0),(2,v2)]=_;rw [aw (off:=0) rfl h0 (by simp [Value.cells])];rw [aw (off:=2) rfl h2 (by simp [Value.cells])];rfl) w
def RT0:=
 aa (@eH prog 58 kR)<|
 aa (λ(n:Int) (w:al) (k:K1) (h0:0<=n) (h1:n<18446744073709551616)=>ad (show (convert 3 129 (.int .i64 n)).run prog w= .ok (.int .u64 ((n.toNat:Nat):Int)) w from (@Go.Sh.run_convert prog 3 129 .i64 .u64 kR kR .i64 n w).trans (by rw [iI h0 h1,bd h0])) k)<|
 aa (λ(n:Nat) (w:al) (k:K1)=>ad (show (convert 129 126 (.int .u64 (n:Int))).run prog w= .ok (.int .u32 ((n%4294967296:Nat):Int)) w from (@Go.Sh.run_convert prog 129 126 .u64 .u32 kR kR .u64 n w).trans (by rw [bQ rfl];rfl)) k)<|
 aa (@bP prog 58 1 kR)<|
 aa (@om prog 58 1 kR)<|
 aa (@Ii prog 58 1 kR)<|
 aa (@fd prog 26 kR)<|
 aa (@iH prog 26 kR)<|
 aa (@oh prog 26 kR)<|
 aa (λ(n:Nat) (w:al) (k:K1)=>ad (show (convert 126 5 (.int .u32 (n:Int))).run prog w= .ok (.int .u8 ((n%256:Nat):Int)) w from (@Go.Sh.run_convert prog 126 5 .u32 .u8 kR kR .u32 n w).trans (by rw [bQ rfl];rfl)) k)<|
 aa (λ(n:Nat) (w:al) (k:K1) (h:n<9223372036854775808)=>ad ((@Go.Sh.run_convert prog 5 3 .u8 .i64 kR kR .u8 n w).trans (by rw [cz (by omega) (by omega)])) k)<|
 (λ(n:Nat) (w:al) (k:ab->Prop) (h:n<9223372036854775808)=>ai ((@Go.Sh.run_convert prog 5 3 .u8 .i64 kR kR .u8 n w).trans (by rw [cz (by omega) (by omega)])) k)
def RT1:=
 aa (λ(n:Nat) (w:al) (k:K1)=>ad (show (convert 26 5 (.int .u64 (n:Int))).run prog w= .ok (.int .u8 ((n%256:Nat):Int)) w from (@Go.Sh.run_convert prog 26 5 .u64 .u8 kR kR .u64 n w).trans (by rw [bQ rfl];rfl)) k)<|
 aa (@ke prog 26 kR)<|
 aa (λ(n:Int) (w:al) (k:K1) (h0:0<=n) (h1:n<18446744073709551616)=>ad (show (convert 3 276 (.int .i64 n)).run prog w= .ok (.int .u64 ((n.toNat:Nat):Int)) w from (@Go.Sh.run_convert prog 3 276 .i64 .u64 kR kR .i64 n w).trans (by rw [iI h0 h1,bd h0])) k)<|
 aa (@df prog 276 _ (show fD prog 276=some (.int .u64 0) from kR))<|
 aa (@ke prog 276 kR)<|
 aa (λ(n:Nat) (w:al) (k:K1) (h:n<9223372036854775808)=>ad ((@Go.Sh.run_convert prog 129 3 .u64 .i64 kR kR .u64 n w).trans (by rw [cz (by omega) (by omega)])) k)<|
 aa (@df prog 3 _ (show fD prog 3=some (.int .i64 0) from kR))<|
 aa (@fd prog 3 kR)<|
 aa (@iH prog 3 kR)<|
 aa (@oh prog 3 kR)<|
 aa (@fd prog 276 kR)<|
 (@iH prog 276 kR)
def RT2:=
 aa (@ke prog 3 kR)<|
 aa (λx y p w k=>ad (@Go.Sh.run_eq_ptr_nil prog 31 kR x y p w) k)<|
 aa (@ak prog 147 0 0 kR)<|
 aa (@fd prog 30 kR)<|
 aa (@iH prog 30 kR)<|
 aa (λx y p w k=>ad (@Go.Sh.run_eq_ptr_nil prog 30 kR x y p w) k)<|
 aa (@ak prog 147 2 2 kR)<|
 aa (@fd prog 28 kR)<|
 aa (@ak prog 155 1 1 kR)<|
 aa (@fd prog 58 kR)<|
 aa (@iH prog 58 kR)<|
 (@ak prog 155 3 3 kR)
def RT3:=
 aa (@lJ prog 153 8 1 kR)<|
 aa (@fd prog 31 kR)<|
 aa (@iH prog 31 kR)<|
 aa (@oh prog 31 kR)<|
 aa (λ(n:Int) (w:al) (k:K1) (h0:0<=n) (h1:n<18446744073709551616)=>ad (show (convert 3 26 (.int .i64 n)).run prog w= .ok (.int .u64 ((n.toNat:Nat):Int)) w from (@Go.Sh.run_convert prog 3 26 .i64 .u64 kR kR .i64 n w).trans (by rw [iI h0 h1,bd h0])) k)<|
 aa (λ(n:Int) (w:al) (k:ab->Prop) (h0:0<=n) (h1:n<18446744073709551616)=>ai (show (convert 3 26 (.int .i64 n)).run prog w= .ok (.int .u64 ((n.toNat:Nat):Int)) w from (@Go.Sh.run_convert prog 3 26 .i64 .u64 kR kR .i64 n w).trans (by rw [iI h0 h1,bd h0])) k)<|
 aa (λ(n:Int) (w:al) (k:ab) (h0:0<=n) (h1:n<18446744073709551616)=>aW (show (convert 3 26 (.int .i64 n)).run prog w= .ok (.int .u64 ((n.toNat:Nat):Int)) w from (@Go.Sh.run_convert prog 3 26 .i64 .u64 kR kR .i64 n w).trans (by rw [iI h0 h1,bd h0])) k)<|
 aa (@ak prog 155 4 11 kR)<|
 aa (@fd prog 4 kR)<|
 aa (@iH prog 4 kR)<|
 aa (@ak prog 155 5 12 kR)<|
 (@ke prog 4 kR)
def RT4:=
 aa (@ak prog 155 6 13 kR)<|
 aa (@ak prog 155 7 14 kR)<|
 aa (@ak prog 155 2 2 kR)<|
 aa (@fd prog 152 kR)<|
 aa (@bP prog 152 2 kR)<|
 aa (@ak prog 209 1 1 kR)<|
 aa (@az prog 209 1 1 kR)<|
 aa (@fd prog 79 kR)<|
 aa (@iH prog 79 kR)<|
 aa (λ(v0 v1:ab) (w:al) (k:K1) (h0:aj v0=true) (h1:aj v1=true)=>ad (pt v0 v1 h0 h1 w) k)<|
 aa (λ(v0 v1:ab) (w:al) (k:ab->Prop) (h0:aj v0=true) (h1:aj v1=true)=>ai (pt v0 v1 h0 h1 w) k)<|
 (λ(a b:ab) (w:al) (k:K1)=>ad (acW a b w) k)
def RT5:=
 aa (@ke prog 79 kR)<|
 aa (@eH prog 51 kR)<|
 aa (@bP prog 51 1 kR)<|
 aa (@ke prog 5 kR)<|
 aa (λ(n:Nat) (w:al) (k:K1) (h:n<9223372036854775808)=>ad ((@Go.Sh.run_convert prog 26 3 .u64 .i64 kR kR .u64 n w).trans (by rw [cz (by omega) (by omega)])) k)<|
 aa (@ak prog 147 3 3 kR)<|
 aa (@az prog 147 3 3 kR)<|
 aa (@fd prog 145 kR)<|
 aa (@iH prog 145 kR)<|
 aa (@ak prog 209 0 0 kR)<|
 aa (@az prog 209 0 0 kR)<|
 (@eH prog 79 kR)
def RT6:=
 aa (@fd prog 5 kR)<|
 aa (@iH prog 5 kR)<|
 aa (@oh prog 5 kR)<|
 aa (λ(n:Nat) (w:al) (k:K1) (h:n<18446744073709551616)=>ad ((@Go.Sh.run_convert prog 5 26 .u8 .u64 kR kR .u8 n w).trans (by rw [eI rfl h])) k)<|
 aa (@ak prog 155 0 0 kR)<|
 aa (@az prog 155 0 0 kR)<|
 aa (@eH prog 50 kR)<|
 aa (@bP prog 50 1 kR)<|
 aa (@om prog 50 1 kR)<|
 aa (@eH prog 152 kR)<|
 aa (λ(v0 v1 v2:ab) (w:al) (k:ab->Prop) (h0:aj v0=true) (h1:aj v1=true) (h2:aj v2=true)=>ai (tB v0 v1 v2 h0 h1 h2 w) k)<|
 (λ(v0 v1 v3:ab) (w:al) (k:K1) (h0:aj v0=true) (h1:aj v1=true) (h3:aj v3=true)=>ad (tC v0 v1 v3 h0 h1 h3 w) k)
def RT7:=
 aa (@ke prog 31 kR)<|
 aa (@ke prog 28 kR)<|
 aa (λ(v0:ab) (w:al) (k:K1) (h0:aj v0=true)=>ad (acX v0 h0 w) k)<|
 aa (@bP prog 79 2 kR)<|
 aa (@oj prog 98 2 kR kR)<|
 aa (@df prog 98 _ (show fD prog 98=some (.agg #[.int .u64 0,.int .u64 0]) from kR))<|
 aa (@xX prog 98 2 kR)<|
 aa (@ak prog 98 0 0 kR)<|
 aa (@ak prog 98 1 1 kR)<|
 aa (λ(n:Nat) (w:al) (k:K1)=>ad (show (convert 27 126 (.int .u64 (n:Int))).run prog w= .ok (.int .u32 ((n%4294967296:Nat):Int)) w from (@Go.Sh.run_convert prog 27 126 .u64 .u32 kR kR .u64 n w).trans (by rw [bQ rfl];rfl)) k)<|
 aa (λ(n:Nat) (w:al) (k:K1) (h:n<18446744073709551616)=>ad ((@Go.Sh.run_convert prog 126 26 .u32 .u64 kR kR .u32 n w).trans (by rw [eI rfl h])) k)<|
 (λ(n:Nat) (w:al) (k:K1)=>ad (show (convert 27 5 (.int .u64 (n:Int))).run prog w= .ok (.int .u8 ((n%256:Nat):Int)) w from (@Go.Sh.run_convert prog 27 5 .u64 .u8 kR kR .u64 n w).trans (by rw [bQ rfl];rfl)) k)
def RT8:=
 aa (@lJ prog 182 5 1 kR)<|
 aa (λ(n:Nat) (w:al) (k:K1)=>ad (show (convert 27 130 (.int .u64 (n:Int))).run prog w= .ok (.int .u16 ((n%65536:Nat):Int)) w from (@Go.Sh.run_convert prog 27 130 .u64 .u16 kR kR .u64 n w).trans (by rw [bQ rfl];rfl)) k)<|
 aa (@ak prog 132 0 0 kR)<|
 aa (@az prog 132 0 0 kR)<|
 aa (@ak prog 132 1 1 kR)<|
 aa (@az prog 132 1 1 kR)<|
 aa (@ak prog 200 0 0 kR)<|
 aa (@az prog 200 0 0 kR)<|
 aa (@aS prog 200 0 0 kR)<|
 aa (@fd prog 130 kR)<|
 aa (@iH prog 130 kR)<|
 (@oh prog 130 kR)
def RT9:=
 aa (λ(n:Nat) (w:al) (k:K1) (h:n<4294967296)=>ad ((@Go.Sh.run_convert prog 130 126 .u16 .u32 kR kR .u16 n w).trans (by rw [eI rfl h])) k)<|
 aa (@ak prog 200 1 1 kR)<|
 aa (@az prog 200 1 1 kR)<|
 aa (@aS prog 200 1 1 kR)<|
 aa (λ(n:Nat) (w:al) (k:K1) (h:n<4294967296)=>ad ((@Go.Sh.run_convert prog 5 126 .u8 .u32 kR kR .u8 n w).trans (by rw [eI rfl h])) k)<|
 aa (@ak prog 200 2 2 kR)<|
 aa (@az prog 200 2 2 kR)<|
 aa (@ak prog 132 2 2 kR)<|
 aa (@az prog 132 2 2 kR)<|
 aa (@aS prog 132 2 2 kR)<|
 aa (λ(n:Int) (w:al) (k:K1) (h0:0<=n) (h1:n<4294967296)=>ad (show (convert 3 126 (.int .i64 n)).run prog w= .ok (.int .u32 ((n.toNat:Nat):Int)) w from (@Go.Sh.run_convert prog 3 126 .i64 .u32 kR kR .i64 n w).trans (by rw [UY h0 h1,bd h0])) k)<|
 (λ(n:Nat) (w:al) (k:K1) (h:n<18446744073709551616)=>ad ((@Go.Sh.run_convert prog 130 26 .u16 .u64 kR kR .u16 n w).trans (by rw [eI rfl h])) k)
def ajC:=
 aa (@lJ prog 257 16 1 kR)<|
 aa (@fd prog 126 kR)<|
 aa (@oj prog 132 3 kR kR)<|
 aa (@uI prog 132 3 kR kR)<|
 aa (@Qn prog 132 3 kR kR)<|
 aa (@df prog 132 _ (show fD prog 132=some (.agg #[.int .i64 0,.int .i64 0,.int .u16 0]) from kR))<|
 aa (λ(n:Nat) (w:al) (k:K1)=>ad (show (convert 26 126 (.int .u64 (n:Int))).run prog w= .ok (.int .u32 ((n%4294967296:Nat):Int)) w from (@Go.Sh.run_convert prog 26 126 .u64 .u32 kR kR .u64 n w).trans (by rw [bQ rfl];rfl)) k)<|
 aa (λ(n:Nat) (w:al) (k:K1)=>ad (show (convert 126 130 (.int .u32 (n:Int))).run prog w= .ok (.int .u16 ((n%65536:Nat):Int)) w from (@Go.Sh.run_convert prog 126 130 .u32 .u16 kR kR .u32 n w).trans (by rw [bQ rfl];rfl)) k)<|
 aa (λ(w:al) (k:K1)=>ad (Ju w) k)<|
 aa (@xX prog 132 3 kR)<|
 aa (λ(n:Nat) (w:al) (k:K1) (h:n<9223372036854775808)=>ad ((@Go.Sh.run_convert prog 126 3 .u32 .i64 kR kR .u32 n w).trans (by rw [cz (by omega) (by omega)])) k)<|
 (λ(v0 v1 v2:ab) (w:al) (k:K1) (h0:aj v0=true) (h1:aj v1=true) (h2:aj v2=true)=>ad (kZ v0 v1 v2 h0 h1 h2 w) k)
def ajD:=
 aa (λ(v0 v1 v2:ab) (w:al) (k:ab->Prop) (h0:aj v0=true) (h1:aj v1=true) (h2:aj v2=true)=>ai (kZ v0 v1 v2 h0 h1 h2 w) k)<|
 aa (@oj prog 132 3 kR kR)<|
 aa (@uI prog 132 3 kR kR)<|
 aa (@Qn prog 132 3 kR kR)<|
 aa (@oj prog 200 3 kR kR)<|
 aa (@uI prog 200 3 kR kR)<|
 aa (@Qn prog 200 3 kR kR)<|
 aa (@df prog 200 _ (show fD prog 200=some (.agg #[.int .u16 0,.int .u8 0,.int .u8 0]) from kR))<|
 aa (λ(w:al) (k:K1)=>ad (Jv w) k)<|
 aa (@xX prog 200 3 kR)<|
 aa (λ(v0 v1 v2:ab) (w:al) (k:K1) (h0:aj v0=true) (h1:aj v1=true) (h2:aj v2=true)=>ad (tD v0 v1 v2 h0 h1 h2 w) k)<|
 (λ(v0 v2:ab) (w:al) (k:K1) (h0:aj v0=true) (h2:aj v2=true)=>ad (xY v0 v2 h0 h2 w) k)
def ajE:=
 aa (λ(v0 v1 v2 v3:ab) (w:al) (k:K1) (h0:aj v0=true) (h1:aj v1=true) (h2:aj v2=true) (h3:aj v3=true)=>ad (acY v0 v1 v2 v3 h0 h1 h2 h3 w) k)<|
 aa (λx y u v w k=>ad (@Go.Sh.run_eq_iface_nil prog 106 kR x y u v w) k)<|
 aa (λx u w k=>ad (@Go.Sh.run_eq_nil_nil prog 106 kR x u w) k)<|
 aa (@eH prog 120 kR)<|
 aa (@bP prog 120 3 kR)<|
 aa (@oj prog 220 3 kR kR)<|
 aa (@df prog 220 _ (show fD prog 220=some (.agg #[.int .u8 0,.int .u64 0,.int .u64 0]) from kR))<|
 aa (@xX prog 220 3 kR)<|
 aa (λ(v0:ab) (w:al) (k:K1) (h0:aj v0=true)=>ad (uP v0 h0 w) k)<|
 aa (λ(v0:ab) (w:al) (k:ab->Prop) (h0:aj v0=true)=>ai (uP v0 h0 w) k)<|
 aa (λ(v0 v1:ab) (w:al) (k:K1) (h0:aj v0=true) (h1:aj v1=true)=>ad (U5 v0 v1 h0 h1 w) k)<|
 (λ(v0 v1 v2:ab) (w:al) (k:K1) (h0:aj v0=true) (h1:aj v1=true) (h2:aj v2=true)=>ad (tF v0 v1 v2 h0 h1 h2 w) k)
def ajF:=
 aa (λ(a c b:ab) (w:al) (k:K1)=>ad (U6 a c b w) k)<|
 aa (λ(v0:ab) (w:al) (k:K1) (h0:aj v0=true)=>ad (acZ v0 h0 w) k)<|
 aa (λ(v0 v1:ab) (w:al) (k:K1) (h0:aj v0=true) (h1:aj v1=true)=>ad (yd v0 v1 h0 h1 w) k)<|
 aa (λ(v0:ab) (w:al) (k:K1) (h0:aj v0=true)=>ad (Ff v0 h0 w) k)<|
 aa (@ak prog 220 0 0 kR)<|
 aa (@fd prog 218 kR)<|
 aa (@ak prog 220 1 1 kR)<|
 aa (@ak prog 220 2 2 kR)<|
 aa (@eH prog 254 kR)<|
 aa (@bP prog 254 1 kR)<|
 aa (@fd prog 120 kR)<|
 (λv w k=>ad (@Go.Sh.run_makeInterface prog 9 kR kR v w) k)
def ajG:=
 aa (λv w k=>ai (@Go.Sh.run_makeInterface prog 9 kR kR v w) k)<|
 aa (@oj prog 134 5 kR kR)<|
 aa (@uI prog 134 5 kR kR)<|
 aa (@Qn prog 134 5 kR kR)<|
 aa (@df prog 134 _ (show fD prog 134=some (.agg #[.nilIface,.int .i64 0,.int .i64 0,.int .i64 0,.int .u16 0]) from kR))<|
 aa (λ(w:al) (k:K1)=>ad (Jw w) k)<|
 aa (@xX prog 134 5 kR)<|
 aa (λ(v0 v1 a b c:ab) (w:al) (k:K1) (h0:aj v0=true) (h1:aj v1=true)=>ad (tG v0 v1 a b c h0 h1 w) k)<|
 aa (@oj prog 134 5 kR kR)<|
 aa (@uI prog 134 5 kR kR)<|
 aa (@Qn prog 134 5 kR kR)<|
 (@ak prog 134 0 0 kR)
def ajH:=
 aa (@az prog 134 0 0 kR)<|
 aa (@aS prog 134 0 0 kR)<|
 aa (@fd prog 106 kR)<|
 aa (@iH prog 106 kR)<|
 aa (@oh prog 106 kR)<|
 aa (λ(v0 v1:ab) (w:al) (k:K1) (h0:aj v0=true) (h1:aj v1=true)=>ad (U7 v0 v1 h0 h1 w) k)<|
 aa (@oj prog 200 3 kR kR)<|
 aa (@uI prog 200 3 kR kR)<|
 aa (@Qn prog 200 3 kR kR)<|
 aa (λx y a b w k=>ad (@Go.Sh.run_neq_bool prog 4 kR x y a b w) k)<|
 aa (@ak prog 134 1 1 kR)<|
 (@az prog 134 1 1 kR)
def ajI:=
 aa (@ak prog 134 2 2 kR)<|
 aa (@eH prog 248 kR)<|
 aa (@bP prog 248 1 kR)<|
 aa (@fd prog 50 kR)<|
 aa (@iH prog 50 kR)<|
 aa (@oh prog 50 kR)<|
 aa (λx y p w k=>ad (@Go.Sh.run_eq_ptr_nil prog 192 kR x y p w) k)<|
 aa (λx y p w k=>ad (@Go.Sh.run_neq_ptr_nil prog 192 kR x y p w) k)<|
 aa (@ak prog 195 1 1 kR)<|
 aa (@ak prog 195 3 3 kR)<|
 aa (@ak prog 147 1 1 kR)<|
 (λx y p w k=>ad (@Go.Sh.run_eq_ptr_nil prog 107 kR x y p w) k)
def ajJ:=
 aa (@ak prog 212 1 1 kR)<|
 aa (@az prog 212 1 1 kR)<|
 aa (@aS prog 212 1 1 kR)<|
 aa (@fd prog 210 kR)<|
 aa (@iH prog 210 kR)<|
 aa (@oh prog 210 kR)<|
 aa (@eH prog 210 kR)<|
 aa (@bP prog 210 4 kR)<|
 aa (@oj prog 195 4 kR kR)<|
 aa (@df prog 195 _ (show fD prog 195=some (.agg #[.int .i64 0,.int .i64 0,.int .i64 0,.bool false]) from kR))<|
 aa (@xX prog 195 4 kR)<|
 (@ak prog 195 0 0 kR)
def ajK:=
 aa (@az prog 195 0 0 kR)<|
 aa (@aS prog 195 0 0 kR)<|
 aa (@ak prog 195 2 2 kR)<|
 aa (@ak prog 212 0 0 kR)<|
 aa (@az prog 212 0 0 kR)<|
 aa (@aS prog 212 0 0 kR)<|
 aa (λ(v0:ab) (w:al) (k:K1) (h0:aj v0=true)=>ad (Fg v0 h0 w) k)<|
 aa (λ(v0 v1 v2:ab) (w:al) (k:ab->Prop) (h0:aj v0=true) (h1:aj v1=true) (h2:aj v2=true)=>ai (tH v0 v1 v2 h0 h1 h2 w) k)<|
 aa (@ke prog 210 kR)<|
 aa (λx y p w k=>ad (@Go.Sh.run_eq_ptr_nil prog 33 kR x y p w) k)<|
 aa (λx y p w k=>ad (@Go.Sh.run_neq_ptr_nil prog 33 kR x y p w) k)<|
 (@ak prog 112 0 0 kR)
def ajL:=
 aa (@az prog 112 0 0 kR)<|
 aa (@aS prog 112 0 0 kR)<|
 aa (@ak prog 112 4 4 kR)<|
 aa (@az prog 112 4 4 kR)<|
 aa (@aS prog 112 4 4 kR)<|
 aa (@fd prog 108 kR)<|
 aa (@iH prog 108 kR)<|
 aa (@oh prog 108 kR)<|
 aa (@ak prog 112 5 5 kR)<|
 aa (@fd prog 109 kR)<|
 aa (@ak prog 112 3 3 kR)<|
 (@az prog 112 3 3 kR)
def ajM:=
 aa (@aS prog 112 3 3 kR)<|
 aa (@fd prog 107 kR)<|
 aa (@iH prog 107 kR)<|
 aa (@oh prog 107 kR)<|
 aa (λx y p w k=>ad (@Go.Sh.run_eq_ptr_nil prog 40 kR x y p w) k)<|
 aa (λx y p w k=>ad (@Go.Sh.run_neq_ptr_nil prog 40 kR x y p w) k)<|
 aa (@ak prog 123 2 2 kR)<|
 aa (@az prog 123 2 2 kR)<|
 aa (@aS prog 123 2 2 kR)<|
 aa (@fd prog 32 kR)<|
 aa (@iH prog 32 kR)<|
 (@oh prog 32 kR)
def ajN:=
 aa (@ak prog 123 1 1 kR)<|
 aa (@az prog 123 1 1 kR)<|
 aa (@ak prog 123 0 0 kR)<|
 aa (@az prog 123 0 0 kR)<|
 aa (@aS prog 123 0 0 kR)<|
 aa (@fd prog 33 kR)<|
 aa (@iH prog 33 kR)<|
 aa (@oh prog 33 kR)<|
 aa (@ak prog 112 7 7 kR)<|
 aa (@ak prog 112 6 6 kR)<|
 aa (@ke prog 110 kR)<|
 (@ak prog 112 1 1 kR)
def ajO:=
 aa (@az prog 112 1 1 kR)<|
 aa (@ak prog 112 2 2 kR)<|
 aa (@az prog 112 2 2 kR)<|
 aa (@fd prog 110 kR)<|
 aa (λ(v0 v1:ab) (w:al) (k:K1) (h0:aj v0=true) (h1:aj v1=true)=>ad (U8 v0 v1 h0 h1 w) k)<|
 aa (@eH prog 25 kR)<|
 aa (@bP prog 25 1 kR)<|
 aa (@fd prog 27 kR)<|
 aa (@df prog 159 _ (show fD prog 159=some (.map none) from kR))<|
 aa (@ke prog 159 kR)<|
 aa (@az prog 162 0 0 kR)<|
 (@aS prog 162 0 0 kR)
def ajP:=
 aa (@az prog 162 1 1 kR)<|
 aa (@aS prog 162 1 1 kR)<|
 aa (@fd prog 51 kR)<|
 aa (@iH prog 51 kR)<|
 aa (@oh prog 51 kR)<|
 aa (λ(v0:ab) (w:al) (k:K1) (h0:aj v0=true)=>ad (ac0 v0 h0 w) k)<|
 aa (@ke prog 50 kR)<|
 aa (@ke prog 51 kR)<|
 aa (@ak prog 162 2 2 kR)<|
 aa (@az prog 162 2 2 kR)<|
 aa (@fd prog 159 kR)<|
 (@iH prog 159 kR)
def ajQ:=
 aa (@ak prog 171 0 0 kR)<|
 aa (@az prog 171 0 0 kR)<|
 aa (@aS prog 171 0 0 kR)<|
 aa (λx y p w k=>ad (@Go.Sh.run_eq_ptr_nil prog 32 kR x y p w) k)<|
 aa (λ(v0 v1 v2:ab) (w:al) (k:K1) (h0:aj v0=true) (h1:aj v1=true) (h2:aj v2=true)=>ad (tI v0 v1 v2 h0 h1 h2 w) k)<|
 aa (@ke prog 107 kR)<|
 aa (@ak prog 171 1 1 kR)<|
 aa (@az prog 171 1 1 kR)<|
 aa (λ(v0 v1:ab) (w:al) (k:K1) (h0:aj v0=true) (h1:aj v1=true)=>ad (ac1 v0 v1 h0 h1 w) k)<|
 aa (@eH prog 213 kR)<|
 aa (@bP prog 213 1 kR)<|
 (@fd prog 25 kR)
def ajR:=
 aa (λx y p w k=>ad (@Go.Sh.run_eq_ptr_nil prog 160 kR x y p w) k)<|
 aa (λ(w:al) (k:K1)=>ad (Jy w) k)<|
 aa (λ(v0 v1 v2 v3 v4 v5:ab) (w:al) (k:K1) (h0:aj v0=true) (h1:aj v1=true) (h2:aj v2=true) (h3:aj v3=true) (h4:aj v4=true) (h5:aj v5=true)=>ad (lr v0 v1 v2 v3 v4 v5 h0 h1 h2 h3 h4 h5 w) k)<|
 aa (λ(v0 v1 v2:ab) (w:al) (k:K1) (h0:aj v0=true) (h1:aj v1=true) (h2:aj v2=true)=>ad (tJ v0 v1 v2 h0 h1 h2 w) k)<|
 aa (@az prog 171 2 2 kR)<|
 aa (@fd prog 4 kR)<|
 aa (@iH prog 4 kR)<|
 aa (@df prog 4 _ (show fD prog 4=some (.bool false) from kR))<|
 aa (@fd prog 23 kR)<|
 aa (@iH prog 23 kR)<|
 aa (@oh prog 23 kR)<|
 (@ak prog 38 3 3 kR)
def ajS:=
 aa (@az prog 38 3 3 kR)<|
 aa (@aS prog 38 3 3 kR)<|
 aa (@df prog 73 _ (show fD prog 73=some (.agg #[.int .i64 0,.int .i64 0,.int .i64 0,.int .i64 0]) from kR))<|
 aa (@xX prog 73 4 kR)<|
 aa (@ak prog 38 5 5 kR)<|
 aa (@az prog 38 5 5 kR)<|
 aa (@aS prog 38 5 5 kR)<|
 aa (@ak prog 36 0 0 kR)<|
 aa (@az prog 36 0 0 kR)<|
 aa (@fd prog 34 kR)<|
 aa (@iH prog 34 kR)<|
 (@oh prog 34 kR)
def ajT:=
 aa (@eH prog 34 kR)<|
 aa (@ak prog 73 2 2 kR)<|
 aa (@az prog 73 2 2 kR)<|
 aa (@ak prog 73 3 3 kR)<|
 aa (@az prog 73 3 3 kR)<|
 aa (@aS prog 73 3 3 kR)<|
 aa (@az prog 73 0 0 kR)<|
 aa (@ak prog 38 4 4 kR)<|
 aa (@az prog 38 4 4 kR)<|
 aa (@az prog 73 1 1 kR)<|
 aa (@ak prog 36 1 1 kR)<|
 (@az prog 36 1 1 kR)
def ajU:=
 aa (@aS prog 36 1 1 kR)<|
 aa (@bP prog 34 2 kR)<|
 aa (@om prog 34 2 kR)<|
 aa (@oj prog 63 2 kR kR)<|
 aa (@uI prog 63 2 kR kR)<|
 aa (@df prog 63 _ (show fD prog 63=some (.agg #[.int .u64 0,.int .i64 0]) from kR))<|
 aa (@xX prog 63 2 kR)<|
 aa (@ak prog 63 0 0 kR)<|
 aa (@az prog 63 0 0 kR)<|
 aa (@aS prog 63 0 0 kR)<|
 aa (@ak prog 63 1 1 kR)<|
 (@az prog 63 1 1 kR)
def ajV:=
 aa (@ak prog 36 2 2 kR)<|
 aa (@az prog 36 2 2 kR)<|
 aa (@aS prog 36 2 2 kR)<|
 aa (@oj prog 73 4 kR kR)<|
 aa (@uI prog 73 4 kR kR)<|
 aa (λ(w:al) (k:K1)=>ad (QP w) k)<|
 aa (λ(v0 v1:ab) (w:al) (k:ab->Prop) (h0:aj v0=true) (h1:aj v1=true)=>ai (pu v0 v1 h0 h1 w) k)<|
 aa (@oj prog 73 4 kR kR)<|
 aa (@uI prog 73 4 kR kR)<|
 aa (λx y p w k=>ad (@Go.Sh.run_eq_ptr_nil prog 23 kR x y p w) k)<|
 aa (λ(v0:ab) (w:al) (k:K1) (h0:aj v0=true)=>ad (ac2 v0 h0 w) k)<|
 (λ(c0 c1 c2 c3:ab) (w:al) (k:K1)=>ad (@Go.Sh.run_field prog 73 2 2 kR kR #[c0,c1,c2,c3] c2 rfl w) k)
def ajW:=
 aa (λ(c0 c1 c2 c3:ab) (w:al) (k:ab->Prop)=>ai (@Go.Sh.run_field prog 73 2 2 kR kR #[c0,c1,c2,c3] c2 rfl w) k)<|
 aa (λv w k=>ad (@Go.Sh.run_makeInterface prog 31 kR kR v w) k)<|
 aa (λv w k=>ai (@Go.Sh.run_makeInterface prog 31 kR kR v w) k)<|
 aa (@ak prog 38 0 0 kR)<|
 aa (@az prog 38 0 0 kR)<|
 aa (@ak prog 38 2 2 kR)<|
 aa (@az prog 38 2 2 kR)<|
 aa (@aS prog 38 2 2 kR)<|
 aa (λ(v0 v1:ab) (w:al) (k:K1) (h0:aj v0=true) (h1:aj v1=true)=>ad (BF v0 v1 h0 h1 w) k)<|
 aa (@ak prog 38 1 1 kR)<|
 aa (@az prog 38 1 1 kR)<|
 (@aS prog 38 1 1 kR)
def ajX:=
 aa (λ(a b:ab) (w:al) (k:K1)=>ad (ac3 a b w) k)<|
 aa (@ke prog 34 kR)<|
 aa (@ak prog 53 4 4 kR)<|
 aa (@ak prog 53 5 5 kR)<|
 aa (@ak prog 53 0 0 kR)<|
 aa (@ak prog 53 1 1 kR)<|
 aa (@ak prog 53 2 2 kR)<|
 aa (@az prog 53 2 2 kR)<|
 aa (@ak prog 53 3 3 kR)<|
 aa (@az prog 53 3 3 kR)<|
 aa (λ(n:Int) (w:al) (k:ab->Prop) (h0:0<=n) (h1:n<18446744073709551616)=>ai (show (convert 3 27 (.int .i64 n)).run prog w= .ok (.int .u64 ((n.toNat:Nat):Int)) w from (@Go.Sh.run_convert prog 3 27 .i64 .u64 kR kR .i64 n w).trans (by rw [iI h0 h1,bd h0])) k)<|
 (@oj prog 53 6 kR kR)
def ajY:=
 aa (@oj prog 36 3 kR kR)<|
 aa (@uI prog 36 3 kR kR)<|
 aa (@df prog 36 _ (show fD prog 36=some (.agg #[.slice none 0 0,.slice none 0 0,.slice none 0 0]) from kR))<|
 aa (@xX prog 36 3 kR)<|
 aa (λ(v0 v1 v2 v3 v4:ab) (w:al) (k:K1) (h0:aj v0=true) (h1:aj v1=true) (h2:aj v2=true) (h3:aj v3=true) (h4:aj v4=true)=>ad (ov v0 v1 v2 v3 v4 h0 h1 h2 h3 h4 w) k)<|
 aa (@oj prog 36 3 kR kR)<|
 aa (@uI prog 36 3 kR kR)<|
 aa (@eH prog 49 kR)<|
 aa (@bP prog 49 6 kR)<|
 aa (@df prog 53 _ (show fD prog 53=some (.agg #[.int .u8 0,.int .i64 0,.int .i64 0,.int .u8 0,.slice none 0 0,.slice none 0 0]) from kR))<|
 aa (@xX prog 53 6 kR)<|
 (λ(v0 v2:ab) (w:al) (k:ab->Prop) (h0:aj v0=true) (h2:aj v2=true)=>ai (BG v0 v2 h0 h2 w) k)
def RT:=aa RT0<|aa RT1<|aa RT2<|aa RT3<|aa RT4<|aa RT5<|aa RT6<|aa RT7<|aa RT8<|aa RT9<|aa ajC<|aa ajD<|aa ajE<|aa ajF<|aa ajG<|aa ajH<|aa ajI<|aa ajJ<|aa ajK<|aa ajL<|aa ajM<|aa ajN<|aa ajO<|aa ajP<|aa ajQ<|aa ajR<|aa ajS<|aa ajT<|aa ajU<|aa ajV<|aa ajW<|aa ajX<|ajY
def RA:=aa RT<|aa (RN prog) (RP prog)
def RB:=aa RM RV
def pw (u:Code×Dec):Nat->Nat->Code×Dec
 |0,_=>u
 |d+1,b=>match Nat.beq (Nat.mod b 2) 0 with
  |true=>pw (pl u) d (Nat.div b 2)
  |false=>pw (pr u) d (Nat.div b 2)
def fy:Nat->Nat->List ab->Fr
 |0,_,_=> []
 |n+1,m,[]=>undef::fy n (Nat.div m 2) []
 |n+1,m,x::l=>match Nat.beq (Nat.mod m 2) 1 with
  |true=>x::fy n (Nat.div m 2) l
  |false=>undef::fy n (Nat.div m 2) (x::l)
def sE1 (E:VP1) (a:Nat):KF:=λfr w=>E (sv fr a) w
def sE2 (E:VP2) (a b:Nat):KF:=λfr w=>E (sv fr a) (sv fr b) w
def sE3 (E:VP3) (a b c:Nat):KF:=λfr w=>E (sv fr a) (sv fr b) (sv fr c) w
def sE4 (E:VP4) (a b c d:Nat):KF:=λfr w=>E (sv fr a) (sv fr b) (sv fr c) (sv fr d) w
def sE5 (E:VP5) (a b c d e:Nat):KF:=λfr w=>E (sv fr a) (sv fr b) (sv fr c) (sv fr d) (sv fr e) w
def uD (f:Func) (d:Dec):Code×Dec:=(f.body.getD .skip,d)
def kO (m:Nat) (T:KF):KF:=λfr w=>∀σ,T (BE m σ 0 fr) w
abbrev Q0 (I:VP0) (μ:al->Nat) (w:al) (E:VP0):Prop:=∀w',I w'->μ w'<μ w->E w'
abbrev Q1 (I:VP1) (μ:ab->al->Nat) (a:ab) (w:al) (E:VP1):Prop:=∀y w',I y w'->μ y w'<μ a w->E y w'
abbrev Q2 (I:VP2) (μ:ab->ab->al->Nat) (a b:ab) (w:al) (E:VP2):Prop:=∀y z w',I y z w'->μ y z w'<μ a b w->E y z w'
abbrev Q3 (I:VP3) (μ:ab->ab->ab->al->Nat) (a b c:ab) (w:al) (E:VP3):Prop:=∀x y z w',I x y z w'->μ x y z w'<μ a b c w->E x y z w'
abbrev vi (n:Int):ab:= .int .i64 n
abbrev ci (n:Int):Operand:= .const (.int .i64 n)
abbrev vu (s:IntKind) (n:Nat):ab:= .int s ((n:Nat):Int)
abbrev cu (s:IntKind) (n:Nat):Operand:= .const (.int s ((n:Nat):Int))
abbrev fA (s:TypeId) (x:ab) (f:Nat) (w:al) (k:K1) (_:cZ k:= .mk):Prop:=ev prog (Instr.fieldAt s x f) w k
abbrev iA (s:TypeId) (x i:ab) (w:al) (k:K1) (_:cZ k:= .mk):Prop:=ev prog (Instr.indexAt s x i) w k
abbrev eX (x:ab) (i:Nat) (w:al) (k:K1) (_:cZ k:= .mk):Prop:=ev prog (Instr.extract x i) w k
abbrev bM (o:BinOp) (t:TypeId) (x y:Operand) (a b:ab) (w:al) (k:K1) (_:cZ k:= .mk):Prop:=ev prog (aG o t x y a b) w k
abbrev bT (o:BinOp) (t:TypeId) (i j:Nat) (a b:ab) (w:al) (k:K1) (_:cZ k:= .mk):Prop:=ev prog (aG o t (.tmp i) (.tmp j) a b) w k
abbrev bC (o:BinOp) (t:TypeId) (i:Nat) (n:Int) (a:ab) (w:al) (k:K1) (_:cZ k:= .mk):Prop:=ev prog (aG o t (.tmp i) (.const (.int .i64 n)) a (.int .i64 n)) w k
abbrev bU (o:BinOp) (t:TypeId) (i:Nat) (s:IntKind) (n:Nat) (a:ab) (w:al) (k:K1) (_:cZ k:= .mk):Prop:=ev prog (aG o t (.tmp i) (.const (.int s ((n:Nat):Int))) a (.int s ((n:Nat):Int))) w k
abbrev fR (s:TypeId) (x:ab) (f:Nat) (w:al) (k:ab->Prop) (_:cZ k:= .mk):Prop:=rd prog (Instr.fieldAt s x f) w k
abbrev iR (s:TypeId) (x i:ab) (w:al) (k:ab->Prop) (_:cZ k:= .mk):Prop:=rd prog (Instr.indexAt s x i) w k
abbrev xR (x:ab) (i:Nat) (w:al) (k:ab->Prop) (_:cZ k:= .mk):Prop:=rd prog (Instr.extract x i) w k
abbrev rM (o:BinOp) (t:TypeId) (x y:Operand) (a b:ab) (w:al) (k:ab->Prop) (_:cZ k:= .mk):Prop:=rd prog (aG o t x y a b) w k
abbrev rT (o:BinOp) (t:TypeId) (i j:Nat) (a b:ab) (w:al) (k:ab->Prop) (_:cZ k:= .mk):Prop:=rd prog (aG o t (.tmp i) (.tmp j) a b) w k
abbrev rC (o:BinOp) (t:TypeId) (i:Nat) (n:Int) (a:ab) (w:al) (k:ab->Prop) (_:cZ k:= .mk):Prop:=rd prog (aG o t (.tmp i) (.const (.int .i64 n)) a (.int .i64 n)) w k
abbrev rU (o:BinOp) (t:TypeId) (i:Nat) (s:IntKind) (n:Nat) (a:ab) (w:al) (k:ab->Prop) (_:cZ k:= .mk):Prop:=rd prog (aG o t (.tmp i) (.const (.int s ((n:Nat):Int))) a (.int s ((n:Nat):Int))) w k
abbrev fG (s:TypeId) (x:ab) (f:Nat) (w:al) (v:ab):Prop:=ag prog (Instr.fieldAt s x f) w v
abbrev lD (t:TypeId) (a:ab) (w:al) (k:K1) (_:cZ k:= .mk):Prop:=ldS prog t a w k
abbrev lR (t:TypeId) (a:ab) (w:al) (k:ab->Prop) (_:cZ k:= .mk):Prop:=ldR prog t a w k
abbrev lG (t:TypeId) (a:ab) (w:al) (v:ab):Prop:=ldG prog t a w v
abbrev sD (t:TypeId) (a x:ab) (w:al) (k:al->Prop) (_:cZ k:= .mk):Prop:=stS prog t a x w k
abbrev cL (f:FuncId) (a:Array ab) (w:al) (k:K1) (_:cZ k:= .mk):Prop:=ae prog f a w k
abbrev lN (t:TypeId) (x:ab) (w:al) (k:K1) (_:cZ k:= .mk):Prop:=aV prog .len #[t] 3 #[false] #[x] w k
abbrev nS (x:ab) (w:al) (k:K1) (_:cZ k:= .mk):Prop:=Qc prog x w k
abbrev nR (x:ab) (w:al) (k:ab->Prop) (_:cZ k:= .mk):Prop:=bw prog x w k
abbrev cV (a b:TypeId) (x:ab) (w:al) (k:K1) (_:cZ k:= .mk):Prop:=ev prog (convert a b x) w k
abbrev gV (c:ab) (b:Bool) (x:ab) (w:al) (k:K1) (_:cZ k:= .mk):Prop:=gd c b (λk=>k x w) w k
abbrev gW (c:ab) (b:Bool) (x:ab) (k:ab->Prop) (_:cZ k:= .mk):Prop:=gdR c b (λk=>k x) k
abbrev gF (c:ab) (b:Bool) (s:TypeId) (x:ab) (f:Nat) (w:al) (k:ab->Prop) (_:cZ k:= .mk):Prop:=gdR c b (λk=>rd prog (Instr.fieldAt s x f) w k) k
abbrev gI (c:ab) (b:Bool) (s:TypeId) (x i:ab) (w:al) (k:ab->Prop) (_:cZ k:= .mk):Prop:=gdR c b (λk=>rd prog (Instr.indexAt s x i) w k) k
abbrev gL (c:ab) (b:Bool) (t:TypeId) (x:ab) (w:al) (k:ab->Prop) (_:cZ k:= .mk):Prop:=gdR c b (λk=>ldR prog t x w k) k
abbrev gN (c:ab) (b:Bool) (x:ab) (w:al) (k:ab->Prop) (_:cZ k:= .mk):Prop:=gdR c b (λk=>bw prog x w k) k
abbrev gC (c:ab) (b:Bool) (f:FuncId) (a:Array ab) (w:al) (k:K1) (_:cZ k:= .mk):Prop:=gd c b (λk=>ae prog f a w k) w k
def cA0 {f:FuncId} {fn:Func} (hf:prog.funcs[f]? =some fn) (d:Dec) (t:K1->World->Prop) (o:okF prog fn d []=true:=by intros;kernel_rfl) (e:∀(K:K1) (w:World),t K w=txt prog fn d [] K w:=by intros;kernel_rfl) (K:K1) (w:World) (h:t K w):ae prog f #[] w K:=br (args:= []) mixed hf d o (cast (e K w) h)
def cA1 {f:FuncId} {fn:Func} (hf:prog.funcs[f]? =some fn) (d:Dec) (t:K1->Value->World->Prop) (o:∀x0:Value,okF prog fn d [x0]=true:=by intros;kernel_rfl) (e:∀(K:K1) (x0:Value) (w:World),t K x0 w=txt prog fn d [x0] K w:=by intros;kernel_rfl) (x0:Value) (K:K1) (w:World) (h:t K x0 w):ae prog f #[x0] w K:=br (args:= [x0]) mixed hf d (o x0) (cast (e K x0 w) h)
def cA2 {f:FuncId} {fn:Func} (hf:prog.funcs[f]? =some fn) (d:Dec) (t:K1->Value->Value->World->Prop) (o:∀x0 x1:Value,okF prog fn d [x0,x1]=true:=by intros;kernel_rfl) (e:∀(K:K1) (x0 x1:Value) (w:World),t K x0 x1 w=txt prog fn d [x0,x1] K w:=by intros;kernel_rfl) (x0 x1:Value) (K:K1) (w:World) (h:t K x0 x1 w):ae prog f #[x0,x1] w K:=br (args:= [x0,x1]) mixed hf d (o x0 x1) (cast (e K x0 x1 w) h)
def cA3 {f:FuncId} {fn:Func} (hf:prog.funcs[f]? =some fn) (d:Dec) (t:K1->Value->Value->Value->World->Prop) (o:∀x0 x1 x2:Value,okF prog fn d [x0,x1,x2]=true:=by intros;kernel_rfl) (e:∀(K:K1) (x0 x1 x2:Value) (w:World),t K x0 x1 x2 w=txt prog fn d [x0,x1,x2] K w:=by intros;kernel_rfl) (x0 x1 x2:Value) (K:K1) (w:World) (h:t K x0 x1 x2 w):ae prog f #[x0,x1,x2] w K:=br (args:= [x0,x1,x2]) mixed hf d (o x0 x1 x2) (cast (e K x0 x1 x2 w) h)
def cA4 {f:FuncId} {fn:Func} (hf:prog.funcs[f]? =some fn) (d:Dec) (t:K1->Value->Value->Value->Value->World->Prop) (o:∀x0 x1 x2 x3:Value,okF prog fn d [x0,x1,x2,x3]=true:=by intros;kernel_rfl) (e:∀(K:K1) (x0 x1 x2 x3:Value) (w:World),t K x0 x1 x2 x3 w=txt prog fn d [x0,x1,x2,x3] K w:=by intros;kernel_rfl) (x0 x1 x2 x3:Value) (K:K1) (w:World) (h:t K x0 x1 x2 x3 w):ae prog f #[x0,x1,x2,x3] w K:=br (args:= [x0,x1,x2,x3]) mixed hf d (o x0 x1 x2 x3) (cast (e K x0 x1 x2 x3 w) h)
def cA5 {f:FuncId} {fn:Func} (hf:prog.funcs[f]? =some fn) (d:Dec) (t:K1->Value->Value->Value->Value->Value->World->Prop) (o:∀x0 x1 x2 x3 x4:Value,okF prog fn d [x0,x1,x2,x3,x4]=true:=by intros;kernel_rfl) (e:∀(K:K1) (x0 x1 x2 x3 x4:Value) (w:World),t K x0 x1 x2 x3 x4 w=txt prog fn d [x0,x1,x2,x3,x4] K w:=by intros;kernel_rfl) (x0 x1 x2 x3 x4:Value) (K:K1) (w:World) (h:t K x0 x1 x2 x3 x4 w):ae prog f #[x0,x1,x2,x3,x4] w K:=br (args:= [x0,x1,x2,x3,x4]) mixed hf d (o x0 x1 x2 x3 x4) (cast (e K x0 x1 x2 x3 x4 w) h)
def cA6 {f:FuncId} {fn:Func} (hf:prog.funcs[f]? =some fn) (d:Dec) (t:K1->Value->Value->Value->Value->Value->Value->World->Prop) (o:∀x0 x1 x2 x3 x4 x5:Value,okF prog fn d [x0,x1,x2,x3,x4,x5]=true:=by intros;kernel_rfl) (e:∀(K:K1) (x0 x1 x2 x3 x4 x5:Value) (w:World),t K x0 x1 x2 x3 x4 x5 w=txt prog fn d [x0,x1,x2,x3,x4,x5] K w:=by intros;kernel_rfl) (x0 x1 x2 x3 x4 x5:Value) (K:K1) (w:World) (h:t K x0 x1 x2 x3 x4 x5 w):ae prog f #[x0,x1,x2,x3,x4,x5] w K:=br (args:= [x0,x1,x2,x3,x4,x5]) mixed hf d (o x0 x1 x2 x3 x4 x5) (cast (e K x0 x1 x2 x3 x4 x5 w) h)
def cA7 {f:FuncId} {fn:Func} (hf:prog.funcs[f]? =some fn) (d:Dec) (t:K1->Value->Value->Value->Value->Value->Value->Value->World->Prop) (o:∀x0 x1 x2 x3 x4 x5 x6:Value,okF prog fn d [x0,x1,x2,x3,x4,x5,x6]=true:=by intros;kernel_rfl) (e:∀(K:K1) (x0 x1 x2 x3 x4 x5 x6:Value) (w:World),t K x0 x1 x2 x3 x4 x5 x6 w=txt prog fn d [x0,x1,x2,x3,x4,x5,x6] K w:=by intros;kernel_rfl) (x0 x1 x2 x3 x4 x5 x6:Value) (K:K1) (w:World) (h:t K x0 x1 x2 x3 x4 x5 x6 w):ae prog f #[x0,x1,x2,x3,x4,x5,x6] w K:=br (args:= [x0,x1,x2,x3,x4,x5,x6]) mixed hf d (o x0 x1 x2 x3 x4 x5 x6) (cast (e K x0 x1 x2 x3 x4 x5 x6 w) h)
def cA8 {f:FuncId} {fn:Func} (hf:prog.funcs[f]? =some fn) (d:Dec) (t:K1->Value->Value->Value->Value->Value->Value->Value->Value->World->Prop) (o:∀x0 x1 x2 x3 x4 x5 x6 x7:Value,okF prog fn d [x0,x1,x2,x3,x4,x5,x6,x7]=true:=by intros;kernel_rfl) (e:∀(K:K1) (x0 x1 x2 x3 x4 x5 x6 x7:Value) (w:World),t K x0 x1 x2 x3 x4 x5 x6 x7 w=txt prog fn d [x0,x1,x2,x3,x4,x5,x6,x7] K w:=by intros;kernel_rfl) (x0 x1 x2 x3 x4 x5 x6 x7:Value) (K:K1) (w:World) (h:t K x0 x1 x2 x3 x4 x5 x6 x7 w):ae prog f #[x0,x1,x2,x3,x4,x5,x6,x7] w K:=br (args:= [x0,x1,x2,x3,x4,x5,x6,x7]) mixed hf d (o x0 x1 x2 x3 x4 x5 x6 x7) (cast (e K x0 x1 x2 x3 x4 x5 x6 x7 w) h)
def cA9 {f:FuncId} {fn:Func} (hf:prog.funcs[f]? =some fn) (d:Dec) (t:K1->Value->Value->Value->Value->Value->Value->Value->Value->Value->World->Prop) (o:∀x0 x1 x2 x3 x4 x5 x6 x7 x8:Value,okF prog fn d [x0,x1,x2,x3,x4,x5,x6,x7,x8]=true:=by intros;kernel_rfl) (e:∀(K:K1) (x0 x1 x2 x3 x4 x5 x6 x7 x8:Value) (w:World),t K x0 x1 x2 x3 x4 x5 x6 x7 x8 w=txt prog fn d [x0,x1,x2,x3,x4,x5,x6,x7,x8] K w:=by intros;kernel_rfl) (x0 x1 x2 x3 x4 x5 x6 x7 x8:Value) (K:K1) (w:World) (h:t K x0 x1 x2 x3 x4 x5 x6 x7 x8 w):ae prog f #[x0,x1,x2,x3,x4,x5,x6,x7,x8] w K:=br (args:= [x0,x1,x2,x3,x4,x5,x6,x7,x8]) mixed hf d (o x0 x1 x2 x3 x4 x5 x6 x7 x8) (cast (e K x0 x1 x2 x3 x4 x5 x6 x7 x8 w) h)
def akm {f:FuncId} {fn:Func} (hf:prog.funcs[f]? =some fn) (d:Dec) (t:K1->Value->Value->Value->Value->Value->Value->Value->Value->Value->Value->World->Prop) (o:∀x0 x1 x2 x3 x4 x5 x6 x7 x8 x9:Value,okF prog fn d [x0,x1,x2,x3,x4,x5,x6,x7,x8,x9]=true:=by intros;kernel_rfl) (e:∀(K:K1) (x0 x1 x2 x3 x4 x5 x6 x7 x8 x9:Value) (w:World),t K x0 x1 x2 x3 x4 x5 x6 x7 x8 x9 w=txt prog fn d [x0,x1,x2,x3,x4,x5,x6,x7,x8,x9] K w:=by intros;kernel_rfl) (x0 x1 x2 x3 x4 x5 x6 x7 x8 x9:Value) (K:K1) (w:World) (h:t K x0 x1 x2 x3 x4 x5 x6 x7 x8 x9 w):ae prog f #[x0,x1,x2,x3,x4,x5,x6,x7,x8,x9] w K:=br (args:= [x0,x1,x2,x3,x4,x5,x6,x7,x8,x9]) mixed hf d (o x0 x1 x2 x3 x4 x5 x6 x7 x8 x9) (cast (e K x0 x1 x2 x3 x4 x5 x6 x7 x8 x9 w) h)
def akn {f:FuncId} {fn:Func} (hf:prog.funcs[f]? =some fn) (d:Dec) (t:K1->Value->Value->Value->Value->Value->Value->Value->Value->Value->Value->Value->World->Prop) (o:∀x0 x1 x2 x3 x4 x5 x6 x7 x8 x9 x10:Value,okF prog fn d [x0,x1,x2,x3,x4,x5,x6,x7,x8,x9,x10]=true:=by intros;kernel_rfl) (e:∀(K:K1) (x0 x1 x2 x3 x4 x5 x6 x7 x8 x9 x10:Value) (w:World),t K x0 x1 x2 x3 x4 x5 x6 x7 x8 x9 x10 w=txt prog fn d [x0,x1,x2,x3,x4,x5,x6,x7,x8,x9,x10] K w:=by intros;kernel_rfl) (x0 x1 x2 x3 x4 x5 x6 x7 x8 x9 x10:Value) (K:K1) (w:World) (h:t K x0 x1 x2 x3 x4 x5 x6 x7 x8 x9 x10 w):ae prog f #[x0,x1,x2,x3,x4,x5,x6,x7,x8,x9,x10] w K:=br (args:= [x0,x1,x2,x3,x4,x5,x6,x7,x8,x9,x10]) mixed hf d (o x0 x1 x2 x3 x4 x5 x6 x7 x8 x9 x10) (cast (e K x0 x1 x2 x3 x4 x5 x6 x7 x8 x9 x10 w) h)
def ako {f:FuncId} {fn:Func} (hf:prog.funcs[f]? =some fn) (d:Dec) (t:K1->Value->Value->Value->Value->Value->Value->Value->Value->Value->Value->Value->Value->World->Prop) (o:∀x0 x1 x2 x3 x4 x5 x6 x7 x8 x9 x10 x11:Value,okF prog fn d [x0,x1,x2,x3,x4,x5,x6,x7,x8,x9,x10,x11]=true:=by intros;kernel_rfl) (e:∀(K:K1) (x0 x1 x2 x3 x4 x5 x6 x7 x8 x9 x10 x11:Value) (w:World),t K x0 x1 x2 x3 x4 x5 x6 x7 x8 x9 x10 x11 w=txt prog fn d [x0,x1,x2,x3,x4,x5,x6,x7,x8,x9,x10,x11] K w:=by intros;kernel_rfl) (x0 x1 x2 x3 x4 x5 x6 x7 x8 x9 x10 x11:Value) (K:K1) (w:World) (h:t K x0 x1 x2 x3 x4 x5 x6 x7 x8 x9 x10 x11 w):ae prog f #[x0,x1,x2,x3,x4,x5,x6,x7,x8,x9,x10,x11] w K:=br (args:= [x0,x1,x2,x3,x4,x5,x6,x7,x8,x9,x10,x11]) mixed hf d (o x0 x1 x2 x3 x4 x5 x6 x7 x8 x9 x10 x11) (cast (e K x0 x1 x2 x3 x4 x5 x6 x7 x8 x9 x10 x11 w) h)
abbrev M0:=al->Nat
abbrev M1:=ab->al->Nat
abbrev M2:=ab->ab->al->Nat
abbrev M3:=ab->ab->ab->al->Nat
abbrev M4:=ab->ab->ab->ab->al->Nat
noncomputable section
variable (K:K1) (x0 x1 x2 x3 x4 x5 x6 x7 x8 x9 x10 x11 x12:ab) (w:al)
def U9:Prop:=
 lN 58 x0 w λa w=>
 cV 3 129 a w λb w=>
 cL 180 (pA #[b]) w λc w=>
 cL 187 (pA #[x0,(.int .i64 0),a,c]) w λd w=>
 K (.tuple #[]) w
def QQ:=cA1 Tryz.func172 .o U9
def Va:Prop:=
 af (.bool false) (
 cV 129 126 x0 w λa w=>
 cL 197 (pA #[a]) w λb w=>
 K b w) (
 cL 198 (pA #[x0]) w λc w=>
 K c w)
def QR:=cA1 Tryz.func180 .o Va
noncomputable def uQ:=uD Tryz.f187 (.s .o (.s .o (.b (.l [1,2,3,8,9] 1 21778071482940061661655974875633165532942 (.b (.s .o (.s .o (.s .o (.x 1807 .o (.s .o (.x 7951 .o (.x 3855 .o .o))))))))))))
abbrev lS:=aU prog Tryz.f187.results.toList
def Na:Prop:=aH [1,2,3,8,9] 1 (λE=>cP (pw uQ 4 3) E (lS K) (exB 0 (lS K) nX)) (fy 134 783 [x0,x1,x2,x3,x8,x9]) w
def QS (E1:VP5):KF:=kO 1807 (cP (pw uQ 9 483) (sE5 E1 1 2 3 8 9) (lS K) (exB 1 (sE5 E1 1 2 3 8 9) (exB 0 (lS K) nX)))
def tS (K:K1) (E1:VP5) (x0 x1 x2 x3 x8 x9 x10:ab) (w:al):Prop:=QS K E1 (fy 134 1807 [x0,x1,x2,x3,x8,x9,x10]) w
def QT (E1:VP5):KF:=kO 7951 (cP (pw uQ 11 2019) (sE5 E1 1 2 3 8 9) (lS K) (exB 1 (sE5 E1 1 2 3 8 9) (exB 0 (lS K) nX)))
def tT (K:K1) (E1:VP5) (x0 x1 x2 x3 x8 x9 x10 x11 x12:ab) (w:al):Prop:=QT K E1 (fy 134 7951 [x0,x1,x2,x3,x8,x9,x10,x11,x12]) w
def QU (E1:VP5):KF:=kO 3855 (cP (pw uQ 12 4067) (sE5 E1 1 2 3 8 9) (lS K) (exB 1 (sE5 E1 1 2 3 8 9) (exB 0 (lS K) nX)))
def tU (K:K1) (E1:VP5) (x0 x1 x2 x3 x8 x9 x10 x11:ab) (w:al):Prop:=QU K E1 (fy 134 3855 [x0,x1,x2,x3,x8,x9,x10,x11]) w
def mD (E1:VP5):Prop:=
 bT .sub 3 19 20 x2 x1 w λa w=>
 bC .leq 3 22 12 a w λb w=>
 af b (
 cL 201 (pA #[x0,x1,x2]) w λc w=>
 K (.tuple #[]) w) (
 bC .eql 3 28 0 x3 w λd w=>
 af d (
 cL 202 (pA #[x0,x1,x2]) w λe w=>
 K (.tuple #[]) w) (
 ev prog (Op.unary .not x8) w λf w=>
 af f (
 cL 203 (pA #[x0,x1,x2]) w λg w=>
 bC .sub 3 40 1 x3 w λh w=>
 tS K E1 x0 x1 x2 h x8 x9 a w) (
 tS K E1 x0 x1 x2 x3 x8 x9 a w)))
def BH (x0 x1 x2 x3 x8 x9:ab) (K:K1) (w:al) (I:VP5) (μ:ab->ab->ab->ab->ab->al->Nat) (h0:I x1 x2 x3 x8 x9 w)
  (hr:∀(x1 x2 x3 x8 x9:ab) (w:al),I x1 x2 x3 x8 x9 w->∀E1:VP5,(∀(y1 y2 y3 y8 y9:ab) (w':al),I y1 y2 y3 y8 y9 w'->μ y1 y2 y3 y8 y9 w'<μ x1 x2 x3 x8 x9 w->E1 y1 y2 y3 y8 y9 w')->mD K x0 x1 x2 x3 x8 x9 w E1):Na K x0 x1 x2 x3 x8 x9 w:=
 ⟨I,μ,h0,λσ w hI E hE=>cast kR (hr (σ 1) (σ 2) (σ 3) (σ 8) (σ 9) w hI E hE)⟩
def yC (E1:VP5):Prop:=
 cL 204 (pA #[x0,x1,x2]) w λa w=>
 eX a 0 w λb w=>
 eX a 1 w λc w=>
 bC .eql 259 49 2 c w λd w=>
 af d (
 cL 205 (pA #[x0,x1,x2]) w λe w=>
 bC .sub 3 55 1 x2 w λf w=>
 bT .sub 3 57 58 b x1 w λg w=>
 bT .sub 3 56 59 f g w λh w=>
 tT K E1 x0 x1 x2 x3 x8 x9 x10 h (.int .i64 1) w) (
 tT K E1 x0 x1 x2 x3 x8 x9 x10 b c w)
def Jz (E1:VP5):tS K E1 x0 x1 x2 x3 x8 x9 x10 w=yC K x0 x1 x2 x3 x8 x9 x10 w E1:=aJ λσ=>kR
def jw (E1:VP5):Prop:=
 gV x8 true x9 w λa w=>
 au x8 a (.bool false) w λb w=>
 gV b true x12 w λc w=>
 gd b true (λk=>bC .eql 259 66 1 c w k) w λd w=>
 au b d (.bool false) w λe w=>
 af e (
 cL 206 (pA #[x0,x1,x2]) w λf w=>
 af f (
 K (.tuple #[]) w) (
 tU K E1 x0 x1 x2 x3 x8 x9 x10 x11 w)) (
 tU K E1 x0 x1 x2 x3 x8 x9 x10 x11 w)
def ki (E1:VP5):tT K E1 x0 x1 x2 x3 x8 x9 x10 x11 x12 w=jw K x0 x1 x2 x3 x8 x9 x10 x11 x12 w E1:=aJ λσ=>kR
def fZ (E1:VP5):Prop:=
 rC .gtr 3 73 0 x1 w.drew λa=>
 gW a true x0 λb=>
 gW a true x1 λc=>
 gdR a true (λk=>rC .sub 3 77 1 c w.drew k) λd=>
 gI a true 58 b d w.drew λe=>
 gL a true 26 e w.drew λf=>
 gW a true x0 λg=>
 gW a true x11 λh=>
 gI a true 58 g h w.drew λi=>
 gL a true 26 i w.drew λj=>
 gC a true 207 (pA #[f,j]) w.drew λl w=>
 gdR a true (λk=>rd prog (Op.unary .not l) w k) λm=>
 bh a m (.bool false) λn=>
 af n (
 cL 208 (pA #[x0,x1,x2,x11]) w λo w=>
 E1 o x2 x3 x8 x9 w) (
 cL 209 (pA #[x0,x1,x2,x11]) w λp w=>
 eX p 0 w λq w=>
 eX p 1 w λs w=>
 bT .sub 3 103 104 q x1 w λt w=>
 bT .sub 3 106 107 x2 q w λv w=>
 bC .quo 3 109 8 x10 w λy w=>
 bT .lss 3 111 112 t v w λz w=>
 af z (
 bT .geq 3 114 115 t y w λa0 w=>
 cL 187 (pA #[x0,x1,q,x3]) w λa1 w=>
 bC .add 3 122 1 q w λa2 w=>
 E1 a2 x2 x3 a0 s w) (
 bT .geq 3 124 125 v y w λa3 w=>
 bC .add 3 128 1 q w λa4 w=>
 cL 187 (pA #[x0,a4,x2,x3]) w λa5 w=>
 E1 x1 q x3 a3 s w))
def gb (E1:VP5):tU K E1 x0 x1 x2 x3 x8 x9 x10 x11 w=fZ x0 x1 x2 x3 x8 x9 x10 x11 w E1:=aJ λσ=>kR
def Vb:Prop:=
 Na K x0 x1 x2 x3 (.bool true) (.bool true) w
def QV:=cA4 Tryz.func187 uQ.2 Vb
noncomputable def BI:=uD Tryz.f198 (.s .o (.x 5 .o (.x 5 .o (.x 5 .o .o))))
abbrev qL:=aU prog Tryz.f198.results.toList
def QW:KF:=kO 5 (cP (pr (pr BI)) (qL K) (qL K) nX)
def BJ:Prop:=QW K (fy 25 5 [x0,x2]) w
def QX:KF:=kO 5 (cP (pw BI 3 7) (qL K) (qL K) nX)
def BK:Prop:=QX K (fy 25 5 [x0,x2]) w
def QY:KF:=kO 5 (cP (pw BI 4 15) (qL K) (qL K) nX)
def BL:Prop:=QY K (fy 25 5 [x0,x2]) w
def eJ:Prop:=
 bU .geq 26 7 .u64 65536 x0 w λa w=>
 af a (
 bU .shr 26 9 .u64 16 x0 w λb w=>
 bC .add 3 11 16 x2 w λc w=>
 BK K b c w) (
 BK K x0 x2 w)
def dQ:BJ K x0 x2 w=eJ K x0 x2 w:=aJ λσ=>kR
def eK:Prop:=
 bU .geq 26 13 .u64 256 x0 w λa w=>
 af a (
 bU .shr 26 15 .u64 8 x0 w λb w=>
 bC .add 3 17 8 x2 w λc w=>
 BL K b c w) (
 BL K x0 x2 w)
def dR:BK K x0 x2 w=eK K x0 x2 w:=aJ λσ=>kR
def qM (x0 x2:ab) (K:K1) (w:al):Prop:=
 cV 26 5 x0 w λa w=>
 ev prog (Instr.index 9 (.string {data:= #[0,1,2,2,3,3,3,3,4,4,4,4,4,4,4,4,5,5,5,5,5,5,5,5,5,5,5,5,5,5,5,5,6,6,6,6,6,6,6,6,6,6,6,6,6,6,6,6,6,6,6,6,6,6,6,6,6,6,6,6,6,6,6,6,7,7,7,7,7,7,7,7,7,7,7,7,7,7,7,7,7,7,7,7,7,7,7,7,7,7,7,7,7,7,7,7,7,7,7,7,7,7,7,7,7,7,7,7,7,7,7,7,7,7,7,7,7,7,7,7,7,7,7,7,7,7,7,7,8,8,8,8,8,8,8,8,8,8,8,8,8,8,8,8,8,8,8,8,8,8,8,8,8,8,8,8,8,8,8,8,8,8,8,8,8,8,8,8,8,8,8,8,8,8,8,8,8,8,8,8,8,8,8,8,8,8,8,8,8,8,8,8,8,8,8,8,8,8,8,8,8,8,8,8,8,8,8,8,8,8,8,8,8,8,8,8,8,8,8,8,8,8,8,8,8,8,8,8,8,8,8,8,8,8,8,8,8,8,8,8,8,8,8,8,8,8,8,8,8,8,8,8,8,8,8,8]}) a) w λb w=>
 cV 5 3 b w λc w=>
 bT .add 3 19 23 x2 c w λd w=>
 K d w
def bo:BL K x0 x2 w=qM x0 x2 K w:=aJ λσ=>kR
def Vc:Prop:=
 bU .geq 26 3 .u64 4294967296 x0 w λa w=>
 af a (
 bU .shr 26 5 .u64 32 x0 w λb w=>
 BJ K b (.int .i64 32) w) (
 BJ K x0 (.int .i64 0) w)
def QZ:=cA1 Tryz.func198 BI.2 Vc
noncomputable def BM:=uD Tryz.f201 (.s .o (.b (.l [6] 7 562949953420480 (.s .o (.x 71 (.b (.s .o (.b (.l [7] 71 562949953355904 .o)))) .o)))))
abbrev qN:=aU prog Tryz.f201.results.toList
def Nb:Prop:=aH [6] 7 (λE=>cP (pw BM 3 1) E (qN K) (exB 0 (qN K) nX)) (fy 49 71 [x0,x1,x2,x6]) w
def qO (E1:VP1):KF:=kO 71 (cP (pw BM 5 25) (sE1 E1 6) (qN K) (exB 0 (qN K) nX))
def Nc (K:K1) (E1:VP1) (x0 x1 x2 x6:ab) (w:al):Prop:=qO K E1 (fy 49 71 [x0,x1,x2,x6]) w
def Nd (K:K1) (E1:VP1) (x0 x1 x2 x6 x7:ab) (w:al):Prop:=aH [7] 71 (λE=>cP (pw BM 9 73) E (qN K) (exB 2 (qO K E1) (exB 1 (qO K E1) (exB 0 (qN K) nX)))) (fy 49 199 [x0,x1,x2,x6,x7]) w
def yD (E1:VP1):Prop:=
 bT .lss 3 10 11 x6 x2 w λa w=>
 af a (
 Nd K E1 x0 x1 x2 x6 x6 w) (
 K (.tuple #[]) w)
def BN (I:VP1) (μ:M1) (h0:I x6 w) (hr:∀x6 w,I x6 w->∀E1,Q1 I μ x6 w E1->yD K x0 x1 x2 x6 w E1):Nb K x0 x1 x2 x6 w:=⟨I,μ,h0,λσ w hI E hE=>cast kR (hr (σ 6) w hI E hE)⟩
def jy (E1:VP1):Prop:=
 bC .add 3 13 1 x6 w λa w=>
 E1 a w
def km (E1:VP1):Nc K E1 x0 x1 x2 x6 w=jy x6 w E1:=aJ λσ=>kR
def yE (E1:VP1) (E2:VP1):Prop:=
 rT .gtr 3 16 17 x7 x1 w.drew λa=>
 gW a true x0 λb=>
 gW a true x7 λc=>
 gI a true 58 b c w.drew λd=>
 gL a true 26 d w.drew λe=>
 gW a true x0 λf=>
 gW a true x7 λg=>
 gdR a true (λk=>rC .sub 3 25 1 g w.drew k) λh=>
 gI a true 58 f h w.drew λi=>
 gL a true 26 i w.drew λj=>
 gC a true 207 (pA #[e,j]) w.drew λl w=>
 bh a l (.bool false) λm=>
 af m (
 rC .sub 3 36 1 x7 w.drew λn=>
 rC .sub 3 39 1 x7 w.drew λo=>
 iR 58 x0 o w.drew λp=>
 lR 26 p w.drew λq=>
 iR 58 x0 x7 w.drew λs=>
 lR 26 s w.drew λt=>
 iR 58 x0 x7 w.drew λv=>
 sD 26 v q w.drew λw=>
 (ag prog (aG .sub 3 (.tmp 36) (ci 1) x7 (.int .i64 1)) w n)/\
 iR 58 x0 n w λy=>
 sD 26 y t w λw=>
 bC .sub 3 31 1 x7 w λz w=>
 E2 z w) (
 Nc K E1 x0 x1 x2 x6 w)
def BO (E1:VP1) (I:VP1) (μ:M1) (h0:I x7 w) (hr:∀x7 w,I x7 w->∀E2,Q1 I μ x7 w E2->yE K x0 x1 x2 x6 x7 w E1 E2):Nd K E1 x0 x1 x2 x6 x7 w:=⟨I,μ,h0,λσ w hI E hE=>cast kR (hr (σ 7) w hI E hE)⟩
def Vd:Prop:=
 bC .add 3 8 1 x1 w λa w=>
 Nb K x0 x1 x2 a w
def Q4:=cA3 Tryz.func201 BM.2 Vd
noncomputable def BP:=uD Tryz.f202 (.s .o (.s .o (.s .o (.x 449 (.s .o (.b (.l [9] 449 133956096 .o))) (.s .o (.b (.l [10] 193 72057593501058048 .o)))))))
abbrev uR:=aU prog Tryz.f202.results.toList
def yF:KF:=kO 449 (cP (pw BP 4 15) (uR K) (uR K) nX)
def Nf:Prop:=yF K (fy 56 449 [x0,x6,x7,x8]) w
def Ng:Prop:=aH [9] 449 (λE=>cP (pw BP 7 23) E (uR K) (exB 0 (yF K) nX)) (fy 56 961 [x0,x6,x7,x8,x9]) w
def Nh:Prop:=aH [10] 193 (λE=>cP (pw BP 7 31) E (uR K) (exB 2 (uR K) nX)) (fy 56 1217 [x0,x6,x7,x10]) w
def yG:Prop:=
 bC .sub 3 27 1 x8 w λa w=>
 Nh K x0 x6 x7 a w
def JA:Nf K x0 x6 x7 x8 w=yG K x0 x6 x7 x8 w:=aJ λσ=>kR
def qP (E1:VP1):Prop:=
 bC .geq 3 18 0 x9 w λa w=>
 af a (
 cL 217 (pA #[x0,x9,x8,x6]) w λb w=>
 bC .sub 3 20 1 x9 w λc w=>
 E1 c w) (
 Nf K x0 x6 x7 x8 w)
def BQ (I:VP1) (μ:M1) (h0:I x9 w) (hr:∀x9 w,I x9 w->∀E1,Q1 I μ x9 w E1->qP K x0 x6 x7 x8 x9 w E1):Ng K x0 x6 x7 x8 x9 w:=⟨I,μ,h0,λσ w hI E hE=>cast kR (hr (σ 9) w hI E hE)⟩
def qQ (E1:VP1):Prop:=
 bC .geq 3 29 0 x10 w λa w=>
 af a (
 rT .add 3 36 37 x6 x10 w.drew λb=>
 rT .add 3 40 41 x6 x10 w.drew λc=>
 iR 58 x0 c w.drew λd=>
 lR 26 d w.drew λe=>
 iR 58 x0 x6 w.drew λf=>
 lR 26 f w.drew λg=>
 iR 58 x0 x6 w.drew λh=>
 sD 26 h e w.drew λw=>
 (ag prog (aG .add 3 (.tmp 36) (.tmp 37) x6 x10) w b)/\
 iR 58 x0 b w λi=>
 sD 26 i g w λw=>
 cL 217 (pA #[x0,x7,x10,x6]) w λj w=>
 bC .sub 3 31 1 x10 w λl w=>
 E1 l w) (
 K (.tuple #[]) w)
def BR (I:VP1) (μ:M1) (h0:I x10 w) (hr:∀x10 w,I x10 w->∀E1,Q1 I μ x10 w E1->qQ K x0 x6 x7 x10 w E1):Nh K x0 x6 x7 x10 w:=⟨I,μ,h0,λσ w hI E hE=>cast kR (hr (σ 10) w hI E hE)⟩
def Ve:Prop:=
 bT .sub 3 12 13 x2 x1 w λa w=>
 bC .sub 3 15 1 a w λb w=>
 bC .quo 3 16 2 b w λc w=>
 Ng K x0 x1 (.int .i64 0) a c w
def Q5:=cA3 Tryz.func202 BP.2 Ve
noncomputable def uS:=uD Tryz.f203 (.s .o (.s .o (.s (.s .o (.s .o (.s .o (.b (.l [9] 451 36893488147351995904 (.s .o (.s (.b (.s .o (.x 1987 .o .o))) .o))))))) .o)))
abbrev lU:=aU prog Tryz.f203.results.toList
def Ni:Prop:=aH [9] 451 (λE=>cP (pw uS 8 59) E (lU K) (exB 0 (lU K) nX)) (fy 65 963 [x0,x1,x6,x7,x8,x9]) w
def Q6 (E1:VP1):KF:=kO 1987 (cP (pw uS 13 6459) (cP (pw uS 10 827) (sE1 E1 9) (lU K) (exB 0 (lU K) nX)) (lU K) (exB 1 (cP (pw uS 10 827) (sE1 E1 9) (lU K) (exB 0 (lU K) nX)) (exB 0 (lU K) nX)))
def BS (K:K1) (E1:VP1) (x0 x1 x6 x7 x8 x9 x10:ab) (w:al):Prop:=Q6 K E1 (fy 65 1987 [x0,x1,x6,x7,x8,x9,x10]) w
def qR (E1:VP1):Prop:=
 bC .quo 3 28 4 x6 w λa w=>
 bC .mul 3 29 2 a w λb w=>
 bT .add 3 27 30 x1 b w λc w=>
 bC .add 3 31 1 c w λd w=>
 bT .leq 3 26 32 x9 d w λe w=>
 af e (
 cL 212 (pA #[x7]) w λf w=>
 bU .sub 129 37 .u64 1 x8 w λg w=>
 bT .and 129 36 38 f g w λh w=>
 cV 129 3 h w λi w=>
 bT .geq 3 41 42 i x6 w λj w=>
 af j (
 bT .sub 3 44 45 i x6 w λl w=>
 BS K E1 x0 x1 x6 x7 x8 x9 l w) (
 BS K E1 x0 x1 x6 x7 x8 x9 i w)) (
 K (.tuple #[]) w)
def BT (I:VP1) (μ:M1) (h0:I x9 w) (hr:∀x9 w,I x9 w->∀E1,Q1 I μ x9 w E1->qR K x0 x1 x6 x7 x8 x9 w E1):Ni K x0 x1 x6 x7 x8 x9 w:=⟨I,μ,h0,λσ w hI E hE=>cast kR (hr (σ 9) w hI E hE)⟩
def dy (E1:VP1):Prop:=
 rT .add 3 50 51 x1 x10 w.drew λa=>
 rT .add 3 54 55 x1 x10 w.drew λb=>
 iR 58 x0 b w.drew λc=>
 lR 26 c w.drew λd=>
 iR 58 x0 x9 w.drew λe=>
 lR 26 e w.drew λf=>
 iR 58 x0 x9 w.drew λg=>
 sD 26 g d w.drew λw=>
 (ag prog (aG .add 3 (.tmp 50) (.tmp 51) x1 x10) w a)/\
 iR 58 x0 a w λh=>
 sD 26 h f w λw=>
 bC .add 3 34 1 x9 w λi w=>
 E1 i w
def kq (E1:VP1):BS K E1 x0 x1 x6 x7 x8 x9 x10 w=dy x0 x1 x9 x10 w E1:=aJ λσ=>kR
def Vf:Prop:=
 bT .sub 3 11 12 x2 x1 w λa w=>
 bC .geq 3 14 8 a w λb w=>
 af b (
 cV 3 276 a w λc w=>
 ev prog (Instr.alloc 276 true (.tuple #[])) w λd w=>
 sD 276 d c w λw=>
 cL 211 (pA #[a]) w λe w=>
 bC .quo 3 21 4 a w λf w=>
 bC .mul 3 22 2 f w λg w=>
 bT .add 3 20 23 x1 g w λh w=>
 bC .sub 3 24 1 h w λi w=>
 Ni K x0 x1 a d e i w) (
 K (.tuple #[]) w)
def Q7:=cA3 Tryz.func203 uS.2 Vf
noncomputable def JB:=uD Tryz.f204 (.s .o (.s .o (.s .o (.s .o (.s .o (.s .o (.x 2560 (.s .o (.s (.x 7681 .o .o) .o)) .o)))))))
abbrev JC:=aU prog Tryz.f204.results.toList
def yH:KF:=kO 2560 (cP (pw JB 7 127) (JC K) (JC K) nX)
def BU:Prop:=yH K (fy 57 2560 [x9,x11]) w
def Q8:KF:=kO 7681 (cP (pw JB 10 703) (yH K) (JC K) nX)
def BV:Prop:=Q8 K (fy 57 7681 [x0,x9,x10,x11,x12]) w
def qT (x9 x11:ab) (K:K1) (w:al):Prop:=
 lD 3 x9 w λa w=>
 bC .eql 3 49 0 a w λb w=>
 af b (
 K (.tuple #[x11,(.int .i64 1)]) w) (
 bC .eql 3 49 12 a w λc w=>
 af c (
 K (.tuple #[x11,(.int .i64 2)]) w) (
 K (.tuple #[x11,(.int .i64 0)]) w))
def uT:BU K x9 x11 w=qT x9 x11 K w:=aJ λσ=>kR
def qU:Prop:=
 cL 219 (pA #[x0,x10,x11,x12,x9]) w λa w=>
 BU K x9 a w
def uU:BV K x0 x9 x10 x11 x12 w=qU K x0 x9 x10 x11 x12 w:=aJ λσ=>kR
def JD:Prop:=
 bT .sub 3 13 14 x2 x1 w λa w=>
 ev prog (Instr.alloc 3 true (.tuple #[])) w λb w=>
 bC .quo 3 17 4 a w λc w=>
 bC .mul 3 18 1 c w λd w=>
 bT .add 3 16 19 x1 d w λe w=>
 bC .quo 3 22 4 a w λf w=>
 bC .mul 3 23 2 f w λg w=>
 bT .add 3 21 24 x1 g w λh w=>
 bC .quo 3 27 4 a w λi w=>
 bC .mul 3 28 3 i w λj w=>
 bT .add 3 26 29 x1 j w λl w=>
 bC .geq 3 31 8 a w λm w=>
 af m (
 bC .geq 3 33 50 a w λn w=>
 af n (
 cL 218 (pA #[x0,e,b]) w λo w=>
 cL 218 (pA #[x0,h,b]) w λp w=>
 cL 218 (pA #[x0,l,b]) w λq w=>
 BV K x0 b o p q w) (
 BV K x0 b e h l w)) (
 BU K b h w)
def yI:=cA3 Tryz.func204 JB.2 JD
noncomputable def Vg:=uD Tryz.f205 (.s .o (.s .o (.b (.l [6,7] 1 4294965440 .o))))
abbrev Vh:=aU prog Tryz.f205.results.toList
def Nj:Prop:=aH [6,7] 1 (λE=>cP (pw Vg 4 3) E (Vh K) (exB 0 (Vh K) nX)) (fy 32 193 [x0,x6,x7]) w
def yJ (E1:VP2):Prop:=
 bT .lss 3 11 12 x6 x7 w λa w=>
 af a (
 iR 58 x0 x7 w.drew λb=>
 lR 26 b w.drew λc=>
 iR 58 x0 x6 w.drew λd=>
 lR 26 d w.drew λe=>
 iR 58 x0 x6 w.drew λf=>
 sD 26 f c w.drew λw=>
 iR 58 x0 x7 w λg=>
 sD 26 g e w λw=>
 bC .add 3 28 1 x6 w λh w=>
 bC .sub 3 30 1 x7 w λi w=>
 E1 h i w) (
 K (.tuple #[]) w)
def BW (I:VP2) (μ:M2) (h0:I x6 x7 w) (hr:∀x6 x7 w,I x6 x7 w->∀E1,Q2 I μ x6 x7 w E1->yJ K x0 x6 x7 w E1):Nj K x0 x6 x7 w:=⟨I,μ,h0,λσ w hI E hE=>cast kR (hr (σ 6) (σ 7) w hI E hE)⟩
def Vi:Prop:=
 bC .sub 3 9 1 x2 w λa w=>
 Nj K x0 x1 a w
def Q9:=cA3 Tryz.func205 Vg.2 Vi
noncomputable def kr:=uD Tryz.f206 (.s .o (.s .o (.x 0 (.s .o (.b (.l [7,8] 7 10889035741470030830827987437816582760384 (.s .o (.x 391 (.b (.x 391 (.b (.l [7] 263 34359607424 .o)) (.s .o (.s .o (.s .o (.x 391 (.s .o (.s (.s .o (.b (.l [9] 391 39614081238685424723062424064 .o))) .o)) (.s .o (.s (.s .o (.b (.l [10] 391 10889035738934729630371528634823176356864 .o))) .o)))))))) .o))))) .o)))
abbrev kw:=aU prog Tryz.f206.results.toList
def fH:KF:=kO 0 (cP (pw kr 3 7) (kw K) (kw K) nX)
def Nk:Prop:=fH K (fy 133 0 []) w
def Nl:Prop:=aH [7,8] 7 (λE=>cP (pw kr 6 11) E (kw K) (exB 0 (fH K) nX)) (fy 133 391 [x0,x1,x2,x7,x8]) w
def eL (E1:VP2):KF:=kO 391 (cP (pw kr 8 203) (sE2 E1 7 8) (kw K) (exB 0 (fH K) nX))
def pz (K:K1) (E1:VP2) (x0 x1 x2 x7 x8:ab) (w:al):Prop:=eL K E1 (fy 133 391 [x0,x1,x2,x7,x8]) w
def yK (E1:VP2):KF:=kO 391 (cP (pw kr 10 587) (eL K E1) (kw K) (exB 1 (eL K E1) (exB 0 (fH K) nX)))
def BX (K:K1) (E1:VP2) (x0 x1 x2 x7 x8:ab) (w:al):Prop:=yK K E1 (fy 133 391 [x0,x1,x2,x7,x8]) w
def Nm (K:K1) (E1:VP2) (x0 x1 x2 x7 x8:ab) (w:al):Prop:=aH [7] 263 (λE=>cP (pw kr 12 75) E (kw K) (exB 2 (yK K E1) (exB 1 (eL K E1) (exB 0 (fH K) nX)))) (fy 133 391 [x0,x1,x2,x7,x8]) w
def yL (E1:VP2):KF:=kO 391 (cP (pw kr 14 15947) (eL K E1) (kw K) (exB 1 (eL K E1) (exB 0 (fH K) nX)))
def pB (K:K1) (E1:VP2) (x0 x1 x2 x7 x8:ab) (w:al):Prop:=yL K E1 (fy 133 391 [x0,x1,x2,x7,x8]) w
def Nn (K:K1) (E1:VP2) (x0 x1 x2 x7 x8 x9:ab) (w:al):Prop:=aH [9] 391 (λE=>cP (pw kr 19 89675) E (kw K) (exB 4 (yL K E1) (exB 1 (eL K E1) (exB 0 (fH K) nX)))) (fy 133 903 [x0,x1,x2,x7,x8,x9]) w
def No (K:K1) (E1:VP2) (x0 x1 x2 x7 x8 x10:ab) (w:al):Prop:=aH [10] 391 (λE=>cP (pw kr 19 97867) E (kw K) (exB 6 (eL K E1) (exB 1 (eL K E1) (exB 0 (fH K) nX)))) (fy 133 1415 [x0,x1,x2,x7,x8,x10]) w
def yM:Prop:=
 K (.bool false) w
def JE:Nk K w=yM K w:=aJ λσ=>kR
def qV (E1:VP2):Prop:=
 bC .lss 3 13 5 x8 w λa w=>
 af a (
 Nm K E1 x0 x1 x2 x7 x8 w) (
 Nk K w)
def BY (I:VP2) (μ:M2) (h0:I x7 x8 w) (hr:∀x7 x8 w,I x7 x8 w->∀E1,Q2 I μ x7 x8 w E1->qV K x0 x1 x2 x7 x8 w E1):Nl K x0 x1 x2 x7 x8 w:=⟨I,μ,h0,λσ w hI E hE=>cast kR (hr (σ 7) (σ 8) w hI E hE)⟩
def yN (E1:VP2):Prop:=
 bC .add 3 15 1 x8 w λa w=>
 E1 x7 a w
def JF (E1:VP2):pz K E1 x0 x1 x2 x7 x8 w=yN x7 x8 w E1:=aJ λσ=>kR
def ge (E1:VP2):Prop:=
 bT .eql 3 35 36 x7 x2 w λa w=>
 af a (
 K (.bool true) w) (
 bT .sub 3 38 39 x2 x1 w λb w=>
 bC .lss 3 40 50 b w λc w=>
 af c (
 K (.bool false) w) (
 rC .sub 3 45 1 x7 w.drew λd=>
 rC .sub 3 48 1 x7 w.drew λe=>
 iR 58 x0 e w.drew λf=>
 lR 26 f w.drew λg=>
 iR 58 x0 x7 w.drew λh=>
 lR 26 h w.drew λi=>
 iR 58 x0 x7 w.drew λj=>
 sD 26 j g w.drew λw=>
 (ag prog (aG .sub 3 (.tmp 45) (ci 1) x7 (.int .i64 1)) w d)/\
 iR 58 x0 d w λl=>
 sD 26 l i w λw=>
 bT .sub 3 58 59 x7 x1 w λm w=>
 bC .geq 3 60 2 m w λn w=>
 af n (
 bC .sub 3 62 1 x7 w λo w=>
 Nn K E1 x0 x1 x2 x7 x8 o w) (
 pB K E1 x0 x1 x2 x7 x8 w)))
def gf (E1:VP2):BX K E1 x0 x1 x2 x7 x8 w=ge K x0 x1 x2 x7 x8 w E1:=aJ λσ=>kR
def mE (E1:VP2) (E2:VP1):Prop:=
 rT .lss 3 17 18 x7 x2 w.drew λa=>
 gW a true x0 λb=>
 gW a true x7 λc=>
 gI a true 58 b c w.drew λd=>
 gL a true 26 d w.drew λe=>
 gW a true x0 λf=>
 gW a true x7 λg=>
 gdR a true (λk=>rC .sub 3 26 1 g w.drew k) λh=>
 gI a true 58 f h w.drew λi=>
 gL a true 26 i w.drew λj=>
 gC a true 207 (pA #[e,j]) w.drew λl w=>
 gdR a true (λk=>rd prog (Op.unary .not l) w k) λm=>
 bh a m (.bool false) λn=>
 af n (
 bC .add 3 33 1 x7 w λo w=>
 E2 o w) (
 BX K E1 x0 x1 x2 x7 x8 w)
def BZ (E1:VP2) (I:VP1) (μ:M1) (h0:I x7 w) (hr:∀x7 w,I x7 w->∀E2,Q1 I μ x7 w E2->mE K x0 x1 x2 x7 x8 w E1 E2):Nm K E1 x0 x1 x2 x7 x8 w:=⟨I,μ,h0,λσ w hI E hE=>cast kR (hr (σ 7) w hI E hE)⟩
def qW (E1:VP2):Prop:=
 bT .sub 3 95 96 x2 x7 w λa w=>
 bC .geq 3 97 2 a w λb w=>
 af b (
 bC .add 3 99 1 x7 w λc w=>
 No K E1 x0 x1 x2 x7 x8 c w) (
 pz K E1 x0 x1 x2 x7 x8 w)
def uV (E1:VP2):pB K E1 x0 x1 x2 x7 x8 w=qW K x0 x1 x2 x7 x8 w E1:=aJ λσ=>kR
def mF (E1:VP2) (E2:VP1):Prop:=
 bC .geq 3 64 1 x9 w λa w=>
 af a (
 iR 58 x0 x9 w.drew λb=>
 lR 26 b w.drew λc=>
 rC .sub 3 73 1 x9 w.drew λd=>
 iR 58 x0 d w.drew λe=>
 lR 26 e w.drew λf=>
 cL 207 (pA #[c,f]) w.drew λg w=>
 rd prog (Op.unary .not g) w λh=>
 af h (
 pB K E1 x0 x1 x2 x7 x8 w) (
 rC .sub 3 82 1 x9 w.drew λi=>
 rC .sub 3 85 1 x9 w.drew λj=>
 iR 58 x0 j w.drew λl=>
 lR 26 l w.drew λm=>
 iR 58 x0 x9 w.drew λn=>
 lR 26 n w.drew λo=>
 iR 58 x0 x9 w.drew λp=>
 sD 26 p m w.drew λw=>
 (ag prog (aG .sub 3 (.tmp 82) (ci 1) x9 (.int .i64 1)) w i)/\
 iR 58 x0 i w λq=>
 sD 26 q o w λw=>
 bC .sub 3 66 1 x9 w λs w=>
 E2 s w)) (
 pB K E1 x0 x1 x2 x7 x8 w)
def B0 (E1:VP2) (I:VP1) (μ:M1) (h0:I x9 w) (hr:∀x9 w,I x9 w->∀E2,Q1 I μ x9 w E2->mF K x0 x1 x2 x7 x8 x9 w E1 E2):Nn K E1 x0 x1 x2 x7 x8 x9 w:=⟨I,μ,h0,λσ w hI E hE=>cast kR (hr (σ 9) w hI E hE)⟩
def mG (E1:VP2) (E2:VP1):Prop:=
 bT .lss 3 101 102 x10 x2 w λa w=>
 af a (
 iR 58 x0 x10 w.drew λb=>
 lR 26 b w.drew λc=>
 rC .sub 3 111 1 x10 w.drew λd=>
 iR 58 x0 d w.drew λe=>
 lR 26 e w.drew λf=>
 cL 207 (pA #[c,f]) w.drew λg w=>
 rd prog (Op.unary .not g) w λh=>
 af h (
 pz K E1 x0 x1 x2 x7 x8 w) (
 rC .sub 3 120 1 x10 w.drew λi=>
 rC .sub 3 123 1 x10 w.drew λj=>
 iR 58 x0 j w.drew λl=>
 lR 26 l w.drew λm=>
 iR 58 x0 x10 w.drew λn=>
 lR 26 n w.drew λo=>
 iR 58 x0 x10 w.drew λp=>
 sD 26 p m w.drew λw=>
 (ag prog (aG .sub 3 (.tmp 120) (ci 1) x10 (.int .i64 1)) w i)/\
 iR 58 x0 i w λq=>
 sD 26 q o w λw=>
 bC .add 3 104 1 x10 w λs w=>
 E2 s w)) (
 pz K E1 x0 x1 x2 x7 x8 w)
def B1 (E1:VP2) (I:VP1) (μ:M1) (h0:I x10 w) (hr:∀x10 w,I x10 w->∀E2,Q1 I μ x10 w E2->mG K x0 x1 x2 x7 x8 x10 w E1 E2):No K E1 x0 x1 x2 x7 x8 x10 w:=⟨I,μ,h0,λσ w hI E hE=>cast kR (hr (σ 10) w hI E hE)⟩
def Vj:Prop:=
 bC .add 3 11 1 x1 w λa w=>
 Nl K x0 x1 x2 a (.int .i64 0) w
def Ra:=cA3 Tryz.func206 kr.2 Vj
def Vk:Prop:=
 cL 220 (pA #[x0]) w λa w=>
 gV a true x1 w λb w=>
 gC a true 220 (pA #[b]) w λc w=>
 gd a true (λk=>ev prog (Op.unary .not c) w k) w λd w=>
 au a d (.bool false) w λe w=>
 gV e false x0 w λf w=>
 gV e false x1 w λg w=>
 gd e false (λk=>bT .lss 26 13 14 f g w k) w λh w=>
 au e (.bool true) h w λi w=>
 K i w
def Rb:=cA2 Tryz.func207 .o Vk
noncomputable def ox:=uD Tryz.f208 (.s .o (.s .o (.s .o (.x 512 (.b (.l [9,10] 3 9671406556917032860780032 (.b (.x 1539 (.b (.l [9] 1027 70368207307264 .o)) (.x 1539 (.b (.l [10] 515 4611615649683211264 .o)) .o))))) .o))))
abbrev oy:=aU prog Tryz.f208.results.toList
def ip:KF:=kO 512 (cP (pw ox 4 15) (oy K) (oy K) nX)
def Np:Prop:=ip K (fy 84 512 [x9]) w
def B3:Prop:=aH [9,10] 3 (λE=>cP (pw ox 6 7) E (oy K) (exB 0 (ip K) nX)) (fy 84 1539 [x0,x1,x9,x10]) w
def yO (E1:VP2):KF:=kO 1539 (cP (pw ox 8 135) (sE2 E1 9 10) (oy K) (exB 1 (sE2 E1 9 10) (exB 0 (ip K) nX)))
def Nq (K:K1) (E1:VP2) (x0 x1 x9 x10:ab) (w:al):Prop:=yO K E1 (fy 84 1539 [x0,x1,x9,x10]) w
def Nr (K:K1) (E1:VP2) (x0 x1 x9 x10:ab) (w:al):Prop:=aH [9] 1027 (λE=>cP (pw ox 10 7) E (oy K) (exB 2 (yO K E1) (exB 1 (sE2 E1 9 10) (exB 0 (ip K) nX)))) (fy 84 1539 [x0,x1,x9,x10]) w
def yP (E1:VP2):KF:=kO 1539 (cP (pw ox 9 391) (sE2 E1 9 10) (oy K) (exB 1 (sE2 E1 9 10) (exB 0 (ip K) nX)))
def B4 (K:K1) (E1:VP2) (x0 x1 x9 x10:ab) (w:al):Prop:=yP K E1 (fy 84 1539 [x0,x1,x9,x10]) w
def B5 (K:K1) (E1:VP2) (x0 x1 x9 x10:ab) (w:al):Prop:=aH [10] 515 (λE=>cP (pw ox 11 135) E (oy K) (exB 4 (yP K E1) (exB 1 (sE2 E1 9 10) (exB 0 (ip K) nX)))) (fy 84 1539 [x0,x1,x9,x10]) w
def qX:Prop:=
 K x9 w
def uW:Np K x9 w=qX K x9 w:=aJ λσ=>kR
def yQ (E1:VP2):Prop:=
 Nr K E1 x0 x1 x9 x10 w
def B6 (I:VP2) (μ:M2) (h0:I x9 x10 w) (hr:∀x9 x10 w,I x9 x10 w->∀E1,Q2 I μ x9 x10 w E1->yQ K x0 x1 x9 x10 w E1):B3 K x0 x1 x9 x10 w:=⟨I,μ,h0,λσ w hI E hE=>cast kR (hr (σ 9) (σ 10) w hI E hE)⟩
def gh (E1:VP2):Prop:=
 B5 K E1 x0 x1 x9 x10 w
def ky (E1:VP2):Nq K E1 x0 x1 x9 x10 w=gh K x0 x1 x9 x10 w E1:=aJ λσ=>kR
def mH (E1:VP2) (E2:VP1):Prop:=
 rT .leq 3 29 30 x9 x10 w.drew λa=>
 gW a true x0 λb=>
 gW a true x1 λc=>
 gI a true 58 b c w.drew λd=>
 gL a true 26 d w.drew λe=>
 gW a true x0 λf=>
 gW a true x9 λg=>
 gI a true 58 f g w.drew λh=>
 gL a true 26 h w.drew λi=>
 gC a true 207 (pA #[e,i]) w.drew λj w=>
 gdR a true (λk=>rd prog (Op.unary .not j) w k) λl=>
 bh a l (.bool false) λm=>
 af m (
 bC .add 3 44 1 x9 w λn w=>
 E2 n w) (
 Nq K E1 x0 x1 x9 x10 w)
def B7 (E1:VP2) (I:VP1) (μ:M1) (h0:I x9 w) (hr:∀x9 w,I x9 w->∀E2,Q1 I μ x9 w E2->mH K x0 x1 x9 x10 w E1 E2):Nr K E1 x0 x1 x9 x10 w:=⟨I,μ,h0,λσ w hI E hE=>cast kR (hr (σ 9) w hI E hE)⟩
def jz (E1:VP2):Prop:=
 bT .gtr 3 62 63 x9 x10 w λa w=>
 af a (
 Np K x9 w) (
 iR 58 x0 x10 w.drew λb=>
 lR 26 b w.drew λc=>
 iR 58 x0 x9 w.drew λd=>
 lR 26 d w.drew λe=>
 iR 58 x0 x9 w.drew λf=>
 sD 26 f c w.drew λw=>
 iR 58 x0 x10 w λg=>
 sD 26 g e w λw=>
 bC .add 3 79 1 x9 w λh w=>
 bC .sub 3 81 1 x10 w λi w=>
 E1 h i w)
def kA (E1:VP2):B4 K E1 x0 x1 x9 x10 w=jz K x0 x9 x10 w E1:=aJ λσ=>kR
def jA (E1:VP2) (E2:VP1):Prop:=
 rT .leq 3 46 47 x9 x10 w.drew λa=>
 gW a true x0 λb=>
 gW a true x1 λc=>
 gI a true 58 b c w.drew λd=>
 gL a true 26 d w.drew λe=>
 gW a true x0 λf=>
 gW a true x10 λg=>
 gI a true 58 f g w.drew λh=>
 gL a true 26 h w.drew λi=>
 gC a true 207 (pA #[e,i]) w.drew λj w=>
 bh a j (.bool false) λl=>
 af l (
 bC .sub 3 60 1 x10 w λm w=>
 E2 m w) (
 B4 K E1 x0 x1 x9 x10 w)
def B8 (E1:VP2) (I:VP1) (μ:M1) (h0:I x10 w) (hr:∀x10 w,I x10 w->∀E2,Q1 I μ x10 w E2->jA K x0 x1 x9 x10 w E1 E2):B5 K E1 x0 x1 x9 x10 w:=⟨I,μ,h0,λσ w hI E hE=>cast kR (hr (σ 10) w hI E hE)⟩
def Vl:Prop:=
 iR 58 x0 x3 w.drew λa=>
 lR 26 a w.drew λb=>
 iR 58 x0 x1 w.drew λc=>
 lR 26 c w.drew λd=>
 iR 58 x0 x1 w.drew λe=>
 sD 26 e b w.drew λw=>
 iR 58 x0 x3 w λf=>
 sD 26 f d w λw=>
 bC .add 3 25 1 x1 w λg w=>
 bC .sub 3 27 1 x2 w λh w=>
 B3 K x0 x1 g h w
def Rc:=cA4 Tryz.func208 ox.2 Vl
noncomputable def iJ:=uD Tryz.f209 (.s .o (.s .o (.s .o (.x 3075 (.b (.l [10] 2051 70367670436864 .o)) (.x 3075 (.b (.l [11] 1027 9223301668110600192 .o)) (.s .o (.s .o (.s .o (.s .o (.x 2051 (.b (.l [10,11] 3 11417981541647678414640987641481260342710373376 (.b (.x 3075 (.b (.l [10] 2051 41537741042978506913543222282159104 .o)) (.x 3075 (.b (.l [11] 1027 5444476332360147136792965474937657624576 .o)) .o))))) .o))))))))))
abbrev gk:=aU prog Tryz.f209.results.toList
def yR:KF:=kO 3075 (cP (pw iJ 4 15) (gk K) (gk K) nX)
def Ns:Prop:=yR K (fy 168 3075 [x0,x1,x10,x11]) w
def Nt:Prop:=aH [10] 2051 (λE=>cP (pw iJ 6 7) E (gk K) (exB 0 (yR K) nX)) (fy 168 3075 [x0,x1,x10,x11]) w
def yS:KF:=kO 3075 (cP (pw iJ 5 31) (gk K) (gk K) nX)
def B9:Prop:=yS K (fy 168 3075 [x0,x1,x10,x11]) w
def Ca:Prop:=aH [11] 1027 (λE=>cP (pw iJ 7 15) E (gk K) (exB 2 (yS K) nX)) (fy 168 3075 [x0,x1,x10,x11]) w
def iq:KF:=kO 2051 (cP (pw iJ 10 1023) (gk K) (gk K) nX)
def Nu:Prop:=iq K (fy 168 2051 [x0,x1,x11]) w
def Cb:Prop:=aH [10,11] 3 (λE=>cP (pw iJ 12 511) E (gk K) (exB 4 (iq K) nX)) (fy 168 3075 [x0,x1,x10,x11]) w
def yT (E1:VP2):KF:=kO 3075 (cP (pw iJ 14 8703) (sE2 E1 10 11) (gk K) (exB 5 (sE2 E1 10 11) (exB 4 (iq K) nX)))
def Nv (K:K1) (E1:VP2) (x0 x1 x10 x11:ab) (w:al):Prop:=yT K E1 (fy 168 3075 [x0,x1,x10,x11]) w
def Nw (K:K1) (E1:VP2) (x0 x1 x10 x11:ab) (w:al):Prop:=aH [10] 2051 (λE=>cP (pw iJ 16 511) E (gk K) (exB 6 (yT K E1) (exB 5 (sE2 E1 10 11) (exB 4 (iq K) nX)))) (fy 168 3075 [x0,x1,x10,x11]) w
def yU (E1:VP2):KF:=kO 3075 (cP (pw iJ 15 25087) (sE2 E1 10 11) (gk K) (exB 5 (sE2 E1 10 11) (exB 4 (iq K) nX)))
def Cc (K:K1) (E1:VP2) (x0 x1 x10 x11:ab) (w:al):Prop:=yU K E1 (fy 168 3075 [x0,x1,x10,x11]) w
def Cd (K:K1) (E1:VP2) (x0 x1 x10 x11:ab) (w:al):Prop:=aH [11] 1027 (λE=>cP (pw iJ 17 8703) E (gk K) (exB 8 (yU K E1) (exB 5 (sE2 E1 10 11) (exB 4 (iq K) nX)))) (fy 168 3075 [x0,x1,x10,x11]) w
def gm:Prop:=
 Ca K x0 x1 x10 x11 w
def kB:Ns K x0 x1 x10 x11 w=gm K x0 x1 x10 x11 w:=aJ λσ=>kR
def mI (E1:VP1):Prop:=
 rT .leq 3 30 31 x10 x11 w.drew λa=>
 gW a true x0 λb=>
 gW a true x10 λc=>
 gI a true 58 b c w.drew λd=>
 gL a true 26 d w.drew λe=>
 gW a true x0 λf=>
 gW a true x1 λg=>
 gI a true 58 f g w.drew λh=>
 gL a true 26 h w.drew λi=>
 gC a true 207 (pA #[e,i]) w.drew λj w=>
 bh a j (.bool false) λl=>
 af l (
 bC .add 3 44 1 x10 w λm w=>
 E1 m w) (
 Ns K x0 x1 x10 x11 w)
def Ce (I:VP1) (μ:M1) (h0:I x10 w) (hr:∀x10 w,I x10 w->∀E1,Q1 I μ x10 w E1->mI K x0 x1 x10 x11 w E1):Nt K x0 x1 x10 x11 w:=⟨I,μ,h0,λσ w hI E hE=>cast kR (hr (σ 10) w hI E hE)⟩
def jB:Prop:=
 bT .gtr 3 63 64 x10 x11 w λa w=>
 af a (
 iR 58 x0 x1 w.drew λb=>
 lR 26 b w.drew λc=>
 iR 58 x0 x11 w.drew λd=>
 lR 26 d w.drew λe=>
 iR 58 x0 x11 w.drew λf=>
 sD 26 f c w.drew λw=>
 iR 58 x0 x1 w λg=>
 sD 26 g e w λw=>
 K (.tuple #[x11,(.bool true)]) w) (
 iR 58 x0 x11 w.drew λh=>
 lR 26 h w.drew λi=>
 iR 58 x0 x10 w.drew λj=>
 lR 26 j w.drew λl=>
 iR 58 x0 x10 w.drew λm=>
 sD 26 m i w.drew λw=>
 iR 58 x0 x11 w λn=>
 sD 26 n l w λw=>
 bC .add 3 95 1 x10 w λo w=>
 bC .sub 3 97 1 x11 w λp w=>
 Cb K x0 x1 o p w)
def kC:B9 K x0 x1 x10 x11 w=jB K x0 x1 x10 x11 w:=aJ λσ=>kR
def jC (E1:VP1):Prop:=
 rT .leq 3 46 47 x10 x11 w.drew λa=>
 gW a true x0 λb=>
 gW a true x11 λc=>
 gI a true 58 b c w.drew λd=>
 gL a true 26 d w.drew λe=>
 gW a true x0 λf=>
 gW a true x1 λg=>
 gI a true 58 f g w.drew λh=>
 gL a true 26 h w.drew λi=>
 gC a true 207 (pA #[e,i]) w.drew λj w=>
 gdR a true (λk=>rd prog (Op.unary .not j) w k) λl=>
 bh a l (.bool false) λm=>
 af m (
 bC .sub 3 61 1 x11 w λn w=>
 E1 n w) (
 B9 K x0 x1 x10 x11 w)
def Cf (I:VP1) (μ:M1) (h0:I x11 w) (hr:∀x11 w,I x11 w->∀E1,Q1 I μ x11 w E1->jC K x0 x1 x10 x11 w E1):Ca K x0 x1 x10 x11 w:=⟨I,μ,h0,λσ w hI E hE=>cast kR (hr (σ 11) w hI E hE)⟩
def qY:Prop:=
 iR 58 x0 x1 w.drew λa=>
 lR 26 a w.drew λb=>
 iR 58 x0 x11 w.drew λc=>
 lR 26 c w.drew λd=>
 iR 58 x0 x11 w.drew λe=>
 sD 26 e b w.drew λw=>
 iR 58 x0 x1 w λf=>
 sD 26 f d w λw=>
 K (.tuple #[x11,(.bool false)]) w
def uX:Nu K x0 x1 x11 w=qY K x0 x1 x11 w:=aJ λσ=>kR
def yV (E1:VP2):Prop:=
 Nw K E1 x0 x1 x10 x11 w
def Ch (I:VP2) (μ:M2) (h0:I x10 x11 w) (hr:∀x10 x11 w,I x10 x11 w->∀E1,Q2 I μ x10 x11 w E1->yV K x0 x1 x10 x11 w E1):Cb K x0 x1 x10 x11 w:=⟨I,μ,h0,λσ w hI E hE=>cast kR (hr (σ 10) (σ 11) w hI E hE)⟩
def go (E1:VP2):Prop:=
 Cd K E1 x0 x1 x10 x11 w
def kD (E1:VP2):Nv K E1 x0 x1 x10 x11 w=go K x0 x1 x10 x11 w E1:=aJ λσ=>kR
def mJ (E1:VP2) (E2:VP1):Prop:=
 rT .leq 3 99 100 x10 x11 w.drew λa=>
 gW a true x0 λb=>
 gW a true x10 λc=>
 gI a true 58 b c w.drew λd=>
 gL a true 26 d w.drew λe=>
 gW a true x0 λf=>
 gW a true x1 λg=>
 gI a true 58 f g w.drew λh=>
 gL a true 26 h w.drew λi=>
 gC a true 207 (pA #[e,i]) w.drew λj w=>
 bh a j (.bool false) λl=>
 af l (
 bC .add 3 113 1 x10 w λm w=>
 E2 m w) (
 Nv K E1 x0 x1 x10 x11 w)
def Ci (E1:VP2) (I:VP1) (μ:M1) (h0:I x10 w) (hr:∀x10 w,I x10 w->∀E2,Q1 I μ x10 w E2->mJ K x0 x1 x10 x11 w E1 E2):Nw K E1 x0 x1 x10 x11 w:=⟨I,μ,h0,λσ w hI E hE=>cast kR (hr (σ 10) w hI E hE)⟩
def jD (E1:VP2):Prop:=
 bT .gtr 3 132 133 x10 x11 w λa w=>
 af a (
 Nu K x0 x1 x11 w) (
 iR 58 x0 x11 w.drew λb=>
 lR 26 b w.drew λc=>
 iR 58 x0 x10 w.drew λd=>
 lR 26 d w.drew λe=>
 iR 58 x0 x10 w.drew λf=>
 sD 26 f c w.drew λw=>
 iR 58 x0 x11 w λg=>
 sD 26 g e w λw=>
 bC .add 3 149 1 x10 w λh w=>
 bC .sub 3 151 1 x11 w λi w=>
 E1 h i w)
def kE (E1:VP2):Cc K E1 x0 x1 x10 x11 w=jD K x0 x1 x10 x11 w E1:=aJ λσ=>kR
def jE (E1:VP2) (E2:VP1):Prop:=
 rT .leq 3 115 116 x10 x11 w.drew λa=>
 gW a true x0 λb=>
 gW a true x11 λc=>
 gI a true 58 b c w.drew λd=>
 gL a true 26 d w.drew λe=>
 gW a true x0 λf=>
 gW a true x1 λg=>
 gI a true 58 f g w.drew λh=>
 gL a true 26 h w.drew λi=>
 gC a true 207 (pA #[e,i]) w.drew λj w=>
 gdR a true (λk=>rd prog (Op.unary .not j) w k) λl=>
 bh a l (.bool false) λm=>
 af m (
 bC .sub 3 130 1 x11 w λn w=>
 E2 n w) (
 Cc K E1 x0 x1 x10 x11 w)
def Cj (E1:VP2) (I:VP1) (μ:M1) (h0:I x11 w) (hr:∀x11 w,I x11 w->∀E2,Q1 I μ x11 w E2->jE K x0 x1 x10 x11 w E1 E2):Cd K E1 x0 x1 x10 x11 w:=⟨I,μ,h0,λσ w hI E hE=>cast kR (hr (σ 11) w hI E hE)⟩
def Vm:Prop:=
 iR 58 x0 x3 w.drew λa=>
 lR 26 a w.drew λb=>
 iR 58 x0 x1 w.drew λc=>
 lR 26 c w.drew λd=>
 iR 58 x0 x1 w.drew λe=>
 sD 26 e b w.drew λw=>
 iR 58 x0 x3 w λf=>
 sD 26 f d w λw=>
 bC .add 3 26 1 x1 w λg w=>
 bC .sub 3 28 1 x2 w λh w=>
 Nt K x0 x1 g h w
def Rd:=cA4 Tryz.func209 iJ.2 Vm
def Vn:Prop:=
 cV 3 129 x0 w λa w=>
 cL 180 (pA #[a]) w λb w=>
 bM .shl 129 (cu .u64 1) (.tmp 5) (.int .u64 ((1:Nat):Int)) b w λc w=>
 K c w
def Re:=cA1 Tryz.func211 .o Vn
def Vo:Prop:=
 nR x0 w.drew λa=>
 lR 276 a w.drew λb=>
 nR x0 w.drew λc=>
 lR 276 c w.drew λd=>
 rU .shl 276 8 .u64 13 d w.drew λe=>
 rT .xor 276 5 9 b e w.drew λf=>
 nR x0 w.drew λg=>
 sD 276 g f w.drew λw=>
 nR x0 w.drew λh=>
 lR 276 h w.drew λi=>
 nR x0 w.drew λj=>
 lR 276 j w.drew λl=>
 rU .shr 276 17 .u64 7 l w.drew λm=>
 rT .xor 276 14 18 i m w.drew λn=>
 nR x0 w.drew λo=>
 sD 276 o n w.drew λw=>
 nR x0 w.drew λp=>
 lR 276 p w.drew λq=>
 nR x0 w.drew λs=>
 lR 276 s w.drew λt=>
 rU .shl 276 26 .u64 17 t w.drew λv=>
 rT .xor 276 23 27 q v w.drew λy=>
 nR x0 w.drew λz=>
 sD 276 z y w.drew λw=>
 nS x0 w λa0 w=>
 lD 276 a0 w λa1 w=>
 K a1 w
def Rf:=cA1 Tryz.func212 .o Vo
noncomputable def JG:=uD Tryz.f217 (.s .o (.b (.l [8] 13 75557863725914323417856 (.b (.s .o (.s .o (.x 781 .o .o)))))))
abbrev Ck:=aU prog Tryz.f217.results.toList
def Nx:Prop:=aH [8] 13 (λE=>cP (pw JG 3 1) E (Ck K) (exB 0 (Ck K) nX)) (fy 76 269 [x0,x2,x3,x8]) w
def Rg (E1:VP1):KF:=kO 781 (cP (pw JG 7 113) (sE1 E1 8) (Ck K) (exB 1 (sE1 E1 8) (exB 0 (Ck K) nX)))
def Cl (K:K1) (E1:VP1) (x0 x2 x3 x8 x9:ab) (w:al):Prop:=Rg K E1 (fy 76 781 [x0,x2,x3,x8,x9]) w
def fI (E1:VP1):Prop:=
 bM .mul 3 (ci 2) (.tmp 11) (.int .i64 2) x8 w λa w=>
 bC .add 3 12 1 a w λb w=>
 bT .geq 3 14 15 b x2 w λc w=>
 af c (
 K (.tuple #[]) w) (
 rC .add 3 17 1 b w.drew λd=>
 rT .lss 3 18 19 d x2 w.drew λe=>
 gW e true x0 λf=>
 gW e true x3 λg=>
 gW e true b λh=>
 gdR e true (λk=>rT .add 3 23 24 g h w.drew k) λi=>
 gI e true 58 f i w.drew λj=>
 gL e true 26 j w.drew λl=>
 gW e true x0 λm=>
 gW e true x3 λn=>
 gW e true b λo=>
 gdR e true (λk=>rT .add 3 29 30 n o w.drew k) λp=>
 gdR e true (λk=>rC .add 3 31 1 p w.drew k) λq=>
 gI e true 58 m q w.drew λs=>
 gL e true 26 s w.drew λt=>
 gC e true 207 (pA #[l,t]) w.drew λv w=>
 bh e v (.bool false) λy=>
 af y (
 bC .add 3 37 1 b w λz w=>
 Cl K E1 x0 x2 x3 x8 z w) (
 Cl K E1 x0 x2 x3 x8 b w))
def Cm (I:VP1) (μ:M1) (h0:I x8 w) (hr:∀x8 w,I x8 w->∀E1,Q1 I μ x8 w E1->fI K x0 x2 x3 x8 w E1):Nx K x0 x2 x3 x8 w:=⟨I,μ,h0,λσ w hI E hE=>cast kR (hr (σ 8) w hI E hE)⟩
def aR (E1:VP1):Prop:=
 rT .add 3 40 41 x3 x8 w.drew λa=>
 iR 58 x0 a w.drew λb=>
 lR 26 b w.drew λc=>
 rT .add 3 46 47 x3 x9 w.drew λd=>
 iR 58 x0 d w.drew λe=>
 lR 26 e w.drew λf=>
 cL 207 (pA #[c,f]) w.drew λg w=>
 rd prog (Op.unary .not g) w λh=>
 af h (
 K (.tuple #[]) w) (
 rT .add 3 54 55 x3 x8 w.drew λi=>
 rT .add 3 58 59 x3 x9 w.drew λj=>
 rT .add 3 62 63 x3 x9 w.drew λl=>
 iR 58 x0 l w.drew λm=>
 lR 26 m w.drew λn=>
 rT .add 3 68 69 x3 x8 w.drew λo=>
 iR 58 x0 o w.drew λp=>
 lR 26 p w.drew λq=>
 iR 58 x0 i w.drew λs=>
 sD 26 s n w.drew λw=>
 (ag prog (aG .add 3 (.tmp 58) (.tmp 59) x3 x9) w j)/\
 iR 58 x0 j w λt=>
 sD 26 t q w λw=>
 E1 x9 w)
def cf (E1:VP1):Cl K E1 x0 x2 x3 x8 x9 w=aR K x0 x3 x8 x9 w E1:=aJ λσ=>kR
def Vp:Prop:=
 Nx K x0 x2 x3 x1 w
def Rh:=cA4 Tryz.func217 JG.2 Vp
def Vq:Prop:=
 bC .sub 3 8 1 x1 w λa w=>
 bC .add 3 11 1 x1 w λb w=>
 cL 219 (pA #[x0,a,x1,b,x2]) w λc w=>
 K c w
def Ri:=cA3 Tryz.func218 .o Vq
def Vr:Prop:=
 cL 222 (pA #[x0,x1,x2,x4]) w λa w=>
 eX a 0 w λb w=>
 eX a 1 w λc w=>
 cL 222 (pA #[x0,c,x3,x4]) w λd w=>
 eX d 0 w λe w=>
 eX d 1 w λf w=>
 cL 222 (pA #[x0,b,e,x4]) w λg w=>
 eX g 0 w λh w=>
 eX g 1 w λi w=>
 K i w
def Rj:=cA5 Tryz.func219 .o Vr
def Vs:Prop:=
 bT .neq 26 3 4 x0 x0 w λa w=>
 K a w
def Rk:=cA1 Tryz.func220 .o Vs
def Vt:Prop:=
 iR 58 x0 x2 w.drew λa=>
 lR 26 a w.drew λb=>
 iR 58 x0 x1 w.drew λc=>
 lR 26 c w.drew λd=>
 cL 207 (pA #[b,d]) w.drew λe w=>
 af e (
 nS x3 w λf w=>
 lD 3 f w λg w=>
 bC .add 3 21 1 g w λh w=>
 nS x3 w λi w=>
 sD 3 i h w λw=>
 K (.tuple #[x2,x1]) w) (
 K (.tuple #[x1,x2]) w)
def Rl:=cA4 Tryz.func222 .o Vt
end
end Go.Proofs.YtmpehclnnjgmcaaGreatDoor
namespace Go.Sh
open Go
def uY {P:Program}:∀(n k:Nat) (m:Machine) (o:Outcome) (w:al),runN P n m= .ended o w->runN P (n+k) m= .ended o w:=by
 intro n k m o w h;rw [runN_add,h]
def uZ {P:Program} {f:FuncId} {args:Array ab} {w:al} {K:K1} (h:ae P f args w K) (hi:P.inits.idxOf? f=none):∃n v w',runN P n (lone (Frame.enter P f args .normal) [] w)= .ended (.done v) w'/\K v w':=by
 refine Calls.done (R:=K) (Calls.mono h ?_) hi;intro e w' hr
 cases e<;>exact hr
def aD {P:Program} {f:FuncId} {args:Array ab} {w w0:al} {v0:ab} (hi:P.inits.idxOf? f=none) (h:ae P f args w (λv w'=>v=v0/\w'=w0)) (K:K1):ae P f args w K=K v0 w0:=by
 apply propext;constructor
 ·intro h';obtain ⟨n,v,w',hr,rfl,rfl⟩:=uZ h hi;obtain ⟨n',v',w'',d,hk⟩:=uZ h' hi;have e1:=uY n n' _ _ _ hr;have e2:=uY n' n _ _ _ d;rw [Nat.add_comm n' n,e1] at e2;injection e2 with a b;injection a with a;subst a;subst b;exact hk
 ·intro hk;refine Calls.mono h ?_;intro e w' hr
  cases e with
  |returned v=>obtain ⟨rfl,rfl⟩:=hr;exact hk
  |panicked c=>exact hr.elim
  |outgrown=>exact hr.elim
def Ext (w w':al):Prop:=Go.RowKit.Below w.heap.size w w'
def Ext.refl (w:al):Ext w w:=Go.RowKit.Below.refl _ _
def Ext.size {w w':al} (h:Ext w w'):w.heap.size<=w'.heap.size:=Go.RowKit.Below.size h
def Ext.blk {w w':al} (h:Ext w w') (b:Nat) (hb:b<w.heap.size):w'.heap[b]? =w.heap[b]? :=Go.RowKit.Below.block h b hb
def Ext.trans {a b c:al} (h:Ext a b) (k:Ext b c):Ext a c:=Go.RowKit.Below.trans h (Go.RowKit.Below.mono k h.size)
def Ext.alloc {a w:al} (h:Ext a w) (o:Obj):Ext a (w.alloc o):=Go.RowKit.Below.alloc h h.size o
def Ext.drew {a w:al} (h:Ext a w):Ext a w.drew:=Go.RowKit.Below.drew h
def Ext.setCell {a w:al} (h:Ext a w) {p:Addr} (hp:a.heap.size<=p.block) (u:ab):Ext a (w.setCell p u):=Go.RowKit.Below.setCell h hp u
def Ext.cell {w w':al} (h:Ext w w') (b o:Nat) (hb:b<w.heap.size):w'.cell? ⟨b,o,none⟩=w.cell? ⟨b,o,none⟩:=Go.RowKit.Below.cell (p:=⟨b,o,none⟩) h hb
def Ext.alloc_self (w:al) (o:Obj):Ext w (w.alloc o):=(Ext.refl w).alloc o
def ax {w:al} {b o:Nat} {v:ab} (h:w.cell? ⟨b,o,none⟩=some v):b<w.heap.size:=World.block_lt_of_cell? (a:=⟨b,o,none⟩) w h
def Ext.cell_some {w w':al} (h:Ext w w') {b o:Nat} {v:ab} (hc:w.cell? ⟨b,o,none⟩=some v):w'.cell? ⟨b,o,none⟩=some v:=by
 rw [h.cell b o (ax hc)];exact hc
def Ext.heap_some {w w':al} (h:Ext w w') {b:Nat} {o:Obj} (hc:w.heap[b]? =some o):w'.heap[b]? =some o:=by
 have hb:b<w.heap.size:=by
  rcases ch b w.heap.size with h|h
  ·exact h
  ·rw [cy h] at hc;cases hc
 rw [h.blk b hb];exact hc
def aY (w:al) (c:Array ab) (t:TypeId) (b i:Nat) (h:b=w.heap.size):(w.alloc (.cells c t)).cell? ⟨b,i,none⟩=c[i]? :=by subst h;exact World.cell?_alloc_new w c t i
def iK (w:al) (o:Obj) (b i:Nat) (h:b<w.heap.size):(w.alloc o).cell? ⟨b,i,none⟩=w.cell? ⟨b,i,none⟩:=World.cell?_alloc_lt (w:=w) (a:=⟨b,i,none⟩) (o:=o) h
def mK (w:al) (a:Addr):w.drew.cell? a=w.cell? a:=rfl
def JH (w:al) (c:Array ab) (t:TypeId) (b i:Nat) (h:b=w.heap.size):(w.alloc (.cells c t)).frozen? ⟨b,i,none⟩=false:=by subst h;exact World.frozen?_alloc_new w c t i
def JI (w:al) (o:Obj) (b i:Nat) (h:b<w.heap.size):(w.alloc o).frozen? ⟨b,i,none⟩=w.frozen? ⟨b,i,none⟩:=World.frozen?_alloc_old (w:=w) (a:=⟨b,i,none⟩) (o:=o) (Nat.ne_of_lt h)
def Fh (w:al) (a:Addr):w.drew.frozen? a=w.frozen? a:=rfl
def ac4 (w:al) (c:Array ab) (t:TypeId) (b i:Nat) (v:ab) (h:b=w.heap.size):(w.alloc (.cells c t)).setCell ⟨b,i,none⟩ v=w.alloc (.cells (c.setIfInBounds i v) t):=by subst h;exact World.setCell_alloc_new (w:=w) c t i v
def ac5 (w:al) (o:Obj) (b i:Nat) (v:ab) (h:b<w.heap.size):(w.alloc o).setCell ⟨b,i,none⟩ v=(w.setCell ⟨b,i,none⟩ v).alloc o:=World.setCell_alloc_past (w:=w) o b i v h
def Vu (w:al) (a:Addr) (v:ab):w.drew.setCell a v=(w.setCell a v).drew:=rfl
def JJ (w:al) (o:Obj):w.drew.alloc o=(w.alloc o).drew:=rfl
def qZ (w:al):w.drew.heap.size=w.heap.size:=rfl
def size_alloc (w:al) (o:Obj):(w.alloc o).heap.size=w.heap.size+1:=World.size_alloc w o
def gE (w:al) (a:Addr) (v:ab):(w.setCell a v).heap.size=w.heap.size:=World.size_setCell w a v
def ajZ (a:ab) (l:List ab):(a::l).toArray[0]? =some a:=rfl
def aj0 (a b:ab) (l:List ab):(a::b::l).toArray[1]? =some b:=rfl
def aj1 (a b c:ab) (l:List ab):(a::b::c::l).toArray[2]? =some c:=rfl
def aj2 (a b c d:ab) (l:List ab):(a::b::c::d::l).toArray[3]? =some d:=rfl
def aj3 (a b c d e:ab) (l:List ab):(a::b::c::d::e::l).toArray[4]? =some e:=rfl
def aij (a v:ab) (l:List ab):(a::l).toArray.setIfInBounds 0 v=(v::l).toArray:=by simp
def aik (a b v:ab) (l:List ab):(a::b::l).toArray.setIfInBounds 1 v=(a::v::l).toArray:=by simp
def ail (a b c v:ab) (l:List ab):(a::b::c::l).toArray.setIfInBounds 2 v=(a::b::v::l).toArray:=by simp
def aim (a b c d v:ab) (l:List ab):(a::b::c::d::l).toArray.setIfInBounds 3 v=(a::b::c::v::l).toArray:=by simp
def ain (a b c d e v:ab) (l:List ab):(a::b::c::d::e::l).toArray.setIfInBounds 4 v=(a::b::c::d::v::l).toArray:=by simp
def Fi (n:Nat):Nat.beq n n=true:=Nat.beq_refl n
def Cn (w:al) (b o:Nat):iD w b o []=w:=rfl
def ye (w:al) (b o:Nat) (v:ab) (l:List ab):iD w b o (v::l)=iD (w.setCell ⟨b,o,none⟩ v) b (o+1) l:=rfl
def JK:bO []=true:=rfl
def Fj (v:ab) (l:List ab) (h:aj v=true):bO (v::l)=bO l:=by simp [bO,h]
def Cp (w:al) (b o:Nat):eG w b o 0=true:=rfl
def Cq (w:al) (b o n:Nat):eG w b o (n+1)=((w.cell? ⟨b,o,none⟩).isSome&&(!w.frozen? ⟨b,o,none⟩&&eG w b (o+1) n)):=rfl
def aeS (x:Option ab) (y:Option (List ab)):Option (List ab):=
 match x,y with
 |some v,some l=>some (v::l)
 |_,_=>none
def JL (v:ab) (l:List ab):aeS (some v) (some l)=some (v::l):=rfl
def u5 (w:al) (b o n:Nat):aT w b o (n+1)=aeS (w.cell? ⟨b,o,none⟩) (aT w b (o+1) n):=by
 conv=>lhs;unfold aT
 cases w.cell? ⟨b,o,none⟩<;>cases aT w b (o+1) n<;>rfl
set_option linter.defProp false in
def RZ:=aa qZ<|aa size_alloc gE
def zu8:Value.int .u8 0=Value.int .u8 ((0:Nat):Int):=rfl
def aj4:Value.int .u16 0=Value.int .u16 ((0:Nat):Int):=rfl
def aj5:Value.int .u32 0=Value.int .u32 ((0:Nat):Int):=rfl
def aj6:Value.int .u64 0=Value.int .u64 ((0:Nat):Int):=rfl
def u7:(false=true)=False:=by simp
def u9:(true=false)=False:=by simp
set_option linter.defProp false in
def RI:=aa u7<|aa u9<|aa true_and<|aa and_true<|aa false_and and_false
set_option linter.defProp false in
def RS:=aa zu8<|aa aj4<|aa aj5<|aa aj6<|aa Cn<|aa ye<|aa JK<|aa Fj<|aa Cp<|aa Cq<|aa JL<|aa uN<|aa u5<|aa (@Option.isSome_some ab)<|aa Fi<|aa (@ce ab) (@ct ab)
set_option linter.defProp false in
def RW:=aa aY<|aa iK<|aa mK<|aa JH<|aa JI<|aa Fh<|aa ac4<|aa ac5<|aa Vu<|aa JJ<|
 aa qZ<|aa size_alloc<|aa gE<|aa ajZ<|aa aj0<|aa aj1<|aa aj2<|aa aj3<|aa aij<|aa aik<|aa ail<|aa aim ain
def pnd (p:Prop):Prop:=p
def hld (p:Prop):Prop:=p
def ag1 (p:Prop):pnd p=hld p:=rfl
inductive Dep (A B:Prop):Type
 |mk
def brS (p A B:Prop) (_:Dep A B:= .mk):Prop:=(p->A)/\(¬p->B)
def Cr {p A B:Prop} (h1:p->A) (h2:¬p->B):brS (hld p) A B:=⟨h1,h2⟩
def Vv (A B:Prop):brS (hld True) A B=A:=by unfold brS hld;simp
def Rm (A B:Prop):brS (hld False) A B=B:=by unfold brS hld;simp
def ac6 (p A B:Prop):brS (hld (¬p)) A B=brS (pnd p) B A:=by
 unfold brS hld pnd;by_cases h:p<;>simp [h]
def ag2 (b:Bool) (A B:Prop):af (.bool b) A B=brS (pnd (b=true)) A B:=by
 unfold brS pnd;cases b<;>simp [af]
def ac7 (c:Bool) (a b:ab) (w:al) (k:K1):au (.bool c) a b w k=brS (pnd (c=true)) (k a w) (k b w):=by
 unfold brS pnd;cases c<;>simp [au]
def Vw (c:Bool) (a b:ab) (k:ab->Prop):bh (.bool c) a b k=brS (pnd (c=true)) (k a) (k b):=by
 unfold brS pnd;cases c<;>simp [bh]
def ag3 (c:Bool) (y:K1->Prop) (w:al) (k:K1):gd (.bool c) true y w k=brS (pnd (c=true)) (y k) (k undef w):=by
 unfold brS pnd;cases c<;>simp [aeJ,aeM]
def ag4 (c:Bool) (y:K1->Prop) (w:al) (k:K1):gd (.bool c) false y w k=brS (pnd (c=true)) (k undef w) (y k):=by
 unfold brS pnd;cases c<;>simp [aeK,aeL]
def ac8 (c:Bool) (y:(ab->Prop)->Prop) (k:ab->Prop):gdR (.bool c) true y k=brS (pnd (c=true)) (y k) (k undef):=by
 unfold brS pnd;cases c<;>simp [UQ,UT]
def ac9 (c:Bool) (y:(ab->Prop)->Prop) (k:ab->Prop):gdR (.bool c) false y k=brS (pnd (c=true)) (k undef) (y k):=by
 unfold brS pnd;cases c<;>simp [UR,US]
def ag5 (c:Bool) (A:Prop):gq (.bool c) true A=brS (pnd (c=true)) A True:=by
 unfold brS pnd;cases c<;>simp [aeN,aeQ]
def ag6 (c:Bool) (A:Prop):gq (.bool c) false A=brS (pnd (c=true)) True A:=by
 unfold brS pnd;cases c<;>simp [aeO,aeP]
def aj7 (b:Bool) (y:K1->Prop) (w:al) (k:K1):gd undef b y w k=k undef w:=rfl
def aio (b:Bool) (y:(ab->Prop)->Prop) (k:ab->Prop):gdR undef b y k=k undef:=rfl
def aj8 (b:Bool) (A:Prop):gq undef b A=True:=rfl
def ada (p:Prop) [Decidable p]:(decide p=true)=p:=by simp
def adb (b:Bool):((!b)=true)=¬(b=true):=by cases b<;>simp
def Vx:(true=true)=True:=by simp
def aip:(¬True)=False:=by simp
def aiq:(¬False)=True:=by simp
set_option linter.defProp false in
def RBp:=aa aj7<|aa aio<|aa aj8<|aa ag2<|aa ac7<|aa Vw<|aa ag3<|aa ag4<|aa ac8<|aa ac9<|aa ag5 ag6
set_option linter.defProp false in
def RBr:=aa ag1<|aa u7<|aa u9<|aa Vv<|aa Rm<|aa ac6<|aa @ada<|aa adb<|aa Vx<|aa aip aiq
set_option linter.defProp false in
def RX:=aa RBr<|aa RW RS
def Ext.setB {a w:al} (h:Ext a w) {b i:Nat} (hb:a.heap.size<=b) (u:ab):Ext a (w.setCell ⟨b,i,none⟩ u):=h.setCell hb u
def bv {w:al} {b:Nat} (o:Obj) (h:b<w.heap.size):(w.alloc o).heap[b]? =w.heap[b]? :=by
 show (w.heap.push o)[b]? =_;rw [cC,if_neg (by omega)]
def aQ (w:al) (o:Obj):(w.alloc o).heap[w.heap.size]? =some o:=by
 show (w.heap.push o)[w.heap.size]? =_;rw [cC,if_pos rfl]
def gG {w:al} {b:Nat} {a:Addr} (v:ab) (h:b≠a.block):(w.setCell a v).heap[b]? =w.heap[b]? :=by
 simp only [World.setCell,cA];rw [if_neg (by omega)]
def ay {w:al} {b:Nat} {o:Obj} (h:w.heap[b]? =some o):b<w.heap.size:=by
 rcases ch b w.heap.size with h'|h'
 ·exact h'
 ·rw [cy h'] at h;cases h
structure Frm (F:Nat->Prop) (w w':al):Prop where
 os:w'.os=w.os
 tape:w'.tape=w.tape
 output:w'.output=w.output
 size:w.heap.size<=w'.heap.size
 block:∀k,k<w.heap.size->¬F k->w'.heap[k]? =w.heap[k]?
def Frm.refl (F:Nat->Prop) (w:al):Frm F w w:=⟨rfl,rfl,rfl,cD _,λ_ _ _=>rfl⟩
def Frm.of_ext {F:Nat->Prop} {w w':al} (h:Ext w w'):Frm F w w':=⟨h.os,h.tape,h.output,Ext.size h,λk hk _=>Ext.blk h k hk⟩
def Frm.to_ext {w w':al} {F:Nat->Prop} (h:Frm F w w') (hF:∀b,b<w.heap.size->¬F b):Ext w w':=⟨h.os,h.tape,h.output,h.size,λk hk=>h.block k hk (hF k hk)⟩
def Frm.mono {F G:Nat->Prop} {w w':al} (h:Frm F w w') (hG:∀b,F b->G b):Frm G w w':=⟨h.os,h.tape,h.output,h.size,λk hk hn=>h.block k hk (λhf=>hn (hG k hf))⟩
def Frm.trans {F G:Nat->Prop} {a b c:al} (h:Frm F a b) (k:Frm G b c) (hG:∀x,x<a.heap.size->G x->F x):Frm F a c:=
 ⟨k.os.trans h.os,k.tape.trans h.tape,k.output.trans h.output,dl h.size k.size,
  λx hx hn=>(k.block x (Nat.lt_of_lt_of_le hx h.size) (λhg=>hn (hG x hx hg))).trans (h.block x hx hn)⟩
def Frm.alloc {F:Nat->Prop} {a w:al} (h:Frm F a w) (o:Obj):Frm F a (w.alloc o):=
 h.trans (G:=λ_=>False) (Frm.of_ext (Ext.alloc_self w o)) (λ_ _ h=>h.elim)
def Frm.drew {F:Nat->Prop} {a w:al} (h:Frm F a w):Frm F a w.drew:=⟨h.os,h.tape,h.output,h.size,h.block⟩
def Frm.set {F:Nat->Prop} {a w:al} (h:Frm F a w) {p:Addr} (v:ab) (hp:p.block<a.heap.size->F p.block):Frm F a (w.setCell p v):=
 h.trans (G:=λb=>b=p.block) ⟨rfl,rfl,rfl,by simp [World.setCell],λk _ hn=>gG v hn⟩ (λx hx e=>by subst e;exact hp hx)
def Frm.ext {F:Nat->Prop} {a w w':al} (h:Frm F a w) (e:Ext w w'):Frm F a w':=h.trans (G:=λ_=>False) (Frm.of_ext e) (λ_ _ h=>h.elim)
def ah (w:al) (b:Nat) (t:TypeId) (n:Nat) (f:Nat->ab):Prop:=∃a:Array ab,w.heap[b]? =some (.cells a t (0,0))/\n<=a.size/\∀i,i<n->a[i]? =some (f i)
section
variable {w w':al} {b b' n m:Nat} {t t':TypeId} {f g:Nat->ab}
def ah.lt (h:ah w b t n f):b<w.heap.size:=by obtain ⟨a,h,_⟩:=h;exact ay h
def ah.of_heap (h:ah w b t n f) (e:w'.heap[b]? =w.heap[b]?):ah w' b t n f:=by obtain ⟨a,h,h2⟩:=h;exact ⟨a,e.trans h,h2⟩
def ah.ext (h:ah w b t n f) (e:Ext w w'):ah w' b t n f:=h.of_heap (e.blk b h.lt)
def ah.frm {F:Nat->Prop} (h:ah w b t n f) (e:Frm F w w') (hb:¬F b):ah w' b t n f:=h.of_heap (e.block b h.lt hb)
def ah.alloc (h:ah w b t n f) (o:Obj):ah (w.alloc o) b t n f:=h.of_heap (bv o h.lt)
def ah.drew (h:ah w b t n f):ah w.drew b t n f:=h
def ah.cell (h:ah w b t n f) {i:Nat} (hi:i<n):w.cell? ⟨b,i,none⟩=some (f i):=by
 obtain ⟨a,h,hs,hf⟩:=h;rw [lP h];exact hf i hi
def ah.frz (h:ah w b t n f) (i:Nat):w.frozen? ⟨b,i,none⟩=false:=by
 obtain ⟨a,h,hs,hf⟩:=h;unfold World.frozen?;simp only [h];simp
def ah.congr (h:ah w b t n f) (e:∀i,i<n->f i=g i):ah w b t n g:=by
 obtain ⟨a,h,hs,hf⟩:=h;exact ⟨a,h,hs,λi hi=>by rw [<-e i hi];exact hf i hi⟩
def ah.ty (h:ah w b t n f) (h':ah w b t' m g):t=t':=by
 obtain ⟨a,h,hs,hf⟩:=h;obtain ⟨a',h',d,c⟩:=h';rw [h] at h';injection h' with h';injection h'
def ah.ne (h:ah w b t n f) (h':ah w b' t' m g) (ht:t≠t'):b≠b':=by
 intro e;subst e;exact ht (h.ty h')
def ah.set_ne (h:ah w b t n f) {a:Addr} (v:ab) (hb:b≠a.block):ah (w.setCell a v) b t n f:=h.of_heap (gG v hb)
def ah.set (h:ah w b t n f) {i:Nat} (v:ab) (hi:i<n):ah (w.setCell ⟨b,i,none⟩ v) b t n (λj=>if j=i then v else f j):=by
 obtain ⟨a,h,hs,hf⟩:=h;refine ⟨a.setIfInBounds i v,?_,by simp [hs],?_⟩
 ·simp only [World.setCell,cA,h];simp
 ·intro j hj;rw [Array.getElem?_setIfInBounds];by_cases e:i=j
  ·subst e;simp;omega
  ·have e':¬j=i:=λh=>e h.symm
   simp only [e,e',if_false];exact hf j hj
def ah.new (w:al) (l:List ab) (t:TypeId):ah (w.alloc (.cells l.toArray t)) w.heap.size t l.length (λi=>l.getD i undef):=by
 refine ⟨l.toArray,aQ _ _,by simp,?_⟩;intro i hi;simp [hi]
end
def SlO (w:al) (t:TypeId) (z:Nat) (v:ab) (n:Nat) (L:List ab):Prop:=L.length=n*z/\((v= .slice none 0 0/\n=0)\/
 ∃b o cap a,v= .slice (some ⟨b,o,none⟩) n cap/\w.heap[b]? =some (.cells a t (0,0))/\n<=cap/\cap<=maxLen/\o+cap*z<=a.size/\∀i u,L[i]? =some u->a[o+i]? =some u)
section
variable {w w':al} {t:TypeId} {z n:Nat} {v:ab} {L:List ab}
def SlO.nil (w:al) (t:TypeId) (z:Nat):SlO w t z (.slice none 0 0) 0 []:=⟨by simp,.inl ⟨rfl,rfl⟩⟩
def SlO.lt (h:SlO w t z v n L) {b:Nat} (hb:v.ownBlock=some b):b<w.heap.size:=by
 rcases h.2 with ⟨rfl,_⟩|⟨b',o,cap,a,rfl,hh,_⟩
 ·cases hb
 ·injection hb with hb;subst hb;exact ay hh
def SlO.of_heap (h:SlO w t z v n L) (e:∀b,v.ownBlock=some b->w'.heap[b]? =w.heap[b]?):SlO w' t z v n L:=by
 refine ⟨h.1,?_⟩;rcases h.2 with h|⟨b',o,cap,a,rfl,hh,h2⟩
 ·exact .inl h
 ·exact .inr ⟨b',o,cap,a,rfl,(e b' rfl).trans hh,h2⟩
def SlO.ext (h:SlO w t z v n L) (e:Ext w w'):SlO w' t z v n L:=h.of_heap (λb hb=>e.blk b (h.lt hb))
def SlO.frm {F:Nat->Prop} (h:SlO w t z v n L) (e:Frm F w w') (hF:∀b,v.ownBlock=some b->¬F b):SlO w' t z v n L:=h.of_heap (λb hb=>e.block b (h.lt hb) (hF b hb))
def SlO.cell (h:SlO w t z v n L) {b o m cap:Nat} (hv:v= .slice (some ⟨b,o,none⟩) m cap) {i:Nat} {u:ab} (hi:L[i]? =some u):w.cell? ⟨b,o+i,none⟩=some u:=by
 rcases h.2 with ⟨rfl,_⟩|⟨b',o',c,a,rfl,hh,_,_,_,h2⟩
 ·cases hv
 ·injection hv with h3 h4 h5;injection h3 with h3;injection h3 with h3 h6;subst h3;subst h6;rw [lP hh];exact h2 i u hi
def SlO.lit (w:al) (t:TypeId) (z n:Nat) (l:List ab) (hl:l.length=n*z) (hm:n<=maxLen):SlO (w.alloc (.cells l.toArray t)) t z (.slice (some ⟨w.heap.size,0,none⟩) n n) n l:=
 ⟨hl,.inr ⟨w.heap.size,0,n,l.toArray,rfl,aQ _ _,cD _,hm,by simp [hl],by intro i u h;simpa using h⟩⟩
def SlO.view {b o m cap:Nat} (h:SlO w t z (.slice (some ⟨b,o,none⟩) m cap) n L):m=n/\n<=cap:=by
 rcases h.2 with ⟨e,_⟩|⟨b',o',c,a,e,hh,h1,_⟩
 ·cases e
 ·injection e with h3 h4 h5;subst h4;subst h5;exact ⟨rfl,h1⟩
def SlO.isS {t:TypeId} {z n:Nat} {v:ab} {L:List ab} (h:SlO w t z v n L) (hn:0<n):∃b o cap,v= .slice (.some ⟨b,o,none⟩) n cap/\n<=cap:=by
 obtain ⟨hl,h2⟩:=h
 cases h2 with
 |inl h=>exact absurd h.2 (by omega)
 |inr h=>obtain ⟨b,o,cap,a,e,_,e2,_⟩:=h;exact ⟨b,o,cap,e,e2⟩
def SlO.drop {t:TypeId} {z n b o m cap k:Nat} {L:List ab} (h:SlO w t z (.slice (some ⟨b,o,none⟩) m cap) n L) (hk:k<=n):SlO w t z (.slice (some ⟨b,if cap=k then o else o+k*z,none⟩) (m-k) (cap-k)) (n-k) (L.drop (k*z)):=by
 obtain ⟨hl,h2⟩:=h;rcases h2 with ⟨e,_⟩|⟨b',o',d,a,e,hh,h1,h3,h4,h5⟩
 ·cases e
 ·injection e with e1 e2 e3;injection e1 with e1;injection e1 with e1 e4;subst e1;subst e4;subst e2;subst e3;refine ⟨by rw [List.length_drop,hl,dt],.inr ⟨b,_,cap-k,a,rfl,hh,by omega,by omega,?_,?_⟩⟩
  ·split
   ·rename_i e;rw [e] at h4 ⊢;simp;omega
   ·rw [dt];have:=Nat.mul_le_mul_right z (show k<=cap by omega);omega
  ·intro i u hu;rw [List.getElem?_drop] at hu;split
   ·rename_i e;have c:=(List.getElem?_eq_some_iff.1 hu).1;rw [hl] at c;have:m=k:=by omega
    rw [this] at c;omega
   ·have:=h5 _ _ hu;rw [<-this];congr 1;omega
end
def SlO.frz {w:al} {t:TypeId} {z n:Nat} {v:ab} {L:List ab} (h:SlO w t z v n L) {b:Nat} (hb:v.ownBlock=some b) (i:Nat):w.frozen? ⟨b,i,none⟩=false:=by
 rcases h.2 with ⟨rfl,_⟩|⟨b',o,cap,a,rfl,hh,_⟩
 ·cases hb
 ·injection hb with hb;subst hb;unfold World.frozen?;simp only [hh];simp
def eB {a w:World} (h:Ext a w) {b i:Nat} (u:Value) (hb:a.heap.size<=b:=by first|omega|(simp only [RZ]<;>omega)):Ext a (w.setCell ⟨b,i,none⟩ u):=Ext.setB h hb u
def eR (w:al):Ext w w:=Ext.refl w
def eA {a w:al} (h:Ext a w) (o:Obj):Ext a (w.alloc o):=Ext.alloc h o
def eD {a w:al} (h:Ext a w):Ext a w.drew:=Ext.drew h
def eT {a b c:al} (h:Ext a b) (k:Ext b c):Ext a c:=Ext.trans h k
def xZ {a b:World} (h:Ext a b:=by repeat (first|(with_reducible first|refine Go.Sh.eB ?_ _|assumption|exact Go.Sh.eR _|refine Go.Sh.eA ?_ _|refine Go.Sh.eD ?_|refine Go.Sh.eT ?_ (by assumption))|exact Go.Sh.eR _)):Ext a b:=h
def oM {p:Prop} (h:p:=by omega):p:=h
def dZ {p:Prop} (h:p:=by first|omega|(simp only [Go.Sh.RO];done)|((simp only [Go.Sh.RZ]<;>omega);done)|fail):p:=h
def dX {p:Prop} (h:p:=by first|omega|(simp only [Go.Sh.RO];done)|(simp only [Go.Sh.RZ]<;>omega)|((with_reducible (repeat (first|assumption|exact Go.Sh.Ext.refl _|refine Go.Sh.Ext.alloc ?_ _|refine Go.Sh.Ext.drew ?_|refine Go.Sh.Ext.trans ?_ (by assumption))));done)|fail):p:=h
end Go.Sh
