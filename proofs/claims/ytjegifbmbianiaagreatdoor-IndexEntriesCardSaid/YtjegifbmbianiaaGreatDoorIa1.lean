/-
  Part 1 of what the proofs of this seat share.
-/
import Derived.WalkKit
import Derived.RangeFuncLeaves
import Derived.TacticsIn
import Derived.OrdersIn
import Derived.Below
import Derived.Laws.AppendOwn
import Derived.Laws.OwnMore
import Derived.Laws.IdiomRangeMap
import Derived.MapKept
import Derived.Laws.MakeOwn
import Derived.Maps.RangeRun
import Derived.Test.YtjegifbmbianiaaGreatDoorProg
import Derived.KernelRfl
set_option linter.defProp false
set_option linter.unusedSimpArgs false
set_option linter.unusedVariables false
set_option maxRecDepth 100000
open Go.Proofs.Tryz (prog)
namespace Go.Sh
open Go
universe u
abbrev Fr:=List Value
abbrev K1:=Value→World→Prop
abbrev KF:=Fr→World→Prop
inductive DepK {α:Sort u} (k:α):Type
 |mk
def pA (a:Array Value):Array Value:=a
theorem pA_eq (a:Array Value):pA a=a:=rfl
def retK (k:K1):Ending→World→Prop
 | .returned v,w=>k v w
 |_,_=>False
def callS (P:Program) (f:FuncId) (args:Array Value) (w:World) (k:K1) (_:DepK k:= .mk):Prop:=Calls P f args w (retK k)
def stN (P:Program) (r:Result Next) (k:K1):Prop:=
 match r with
 | .ok (.value v) w=>k v w
 | .ok .skip w=>k undef w
 | .ok (.enter f args) w=>callS P f args w k
 | .ok (.round l f tmps a b) w=>RoundIn Fence.wide 0 P l f tmps a b w (retK k)
 |_=>False
def ev (P:Program) (s:Sem Value) (w:World) (k:K1) (_:DepK k:= .mk):Prop:=
 match s.run P w with
 | .ok v w'=>k v w'
 | .halt _ _=>False
def ac (P:Program) (s:Sem Unit) (w:World) (k:World→Prop) (_:DepK k:= .mk):Prop:=
 match s.run P w with
 | .ok _ w'=>k w'
 | .halt _ _=>False
def pickS (c a b:Value) (w:World) (k:K1):Prop:=
 match c with
 | .bool true=>k a w
 | .bool false=>k b w
 |_=>False
def nilS (P:Program) (x:Value) (w:World) (k:K1) (_:DepK k:= .mk):Prop:=
 stN P ((execOp (fun _=>x) {dst:=none,op:= .nilCheck (.tmp 0),type:=0,pos:= "",after:= #[],guard:=none}).run P w) k
def invS (P:Program) (recv:Value) (name:String) (args:Array Value) (w:World) (k:K1) (_:DepK k:= .mk):Prop:=stN P ((callMethod recv name args).run P w) k
def bltS (P:Program) (b:Builtin) (ts:Array TypeId) (ty:TypeId) (cs:Array Bool) (args:Array Value) (w:World) (k:K1) (_:DepK k:= .mk):Prop:=stN P ((builtin b ts ty cs args).run P w) k
def binM (op:BinOp) (t:TypeId) (x y:Operand) (a b:Value):Sem Value:=do eqGuard op t x y a b;binOp op t a b
def dynS (P:Program) (f:Value) (args:Array Value) (w:World) (k:K1) (_:DepK k:= .mk):Prop:=stN P ((do let d ←Deferred.ofValue f args;invoke d.target d.args:Sem Next).run P w) k
def isAggT (P:Program) (t:TypeId):Option Bool:=(P.underlying t).map fun
 | .struct _=>true
 | .array _ _=>true
 |_=>false
def szT (P:Program) (t:TypeId):Option Nat:=(P.info? t).map (·.size)
def zeroT (P:Program) (t:TypeId):Option Value:=(P.info? t).bind (·.zero)
theorem run_underlying_some {P:Program} {t:TypeId} {d:TypeDesc} (h:P.underlying t=some d) (w:World):(underlying t).run P w= .ok d w:=by
 simp [underlying,program,Bind.bind,Sem.bind,Sem.run,h,pure]
theorem run_typeInfo {P:Program} {t:TypeId} {i:TypeInfo} (h:P.info? t=some i) (w:World):(typeInfo t).run P w= .ok i w:=by
 simp [typeInfo,program,Bind.bind,Sem.bind,Sem.run,h,pure]
theorem run_isAgg {P:Program} {t:TypeId} {b:Bool} (h:isAggT P t=some b) (w:World):(isAgg t).run P w= .ok b w:=by
 unfold isAggT at h
 cases hu:P.underlying t with
 |none=>rw [hu] at h;cases h
 |some d=>
  rw [hu] at h
  unfold isAgg
  rw [Sem.run_bind,run_underlying_some hu]
  cases d<;>simp at h<;>subst h<;>rfl
theorem run_sizeOf {P:Program} {t:TypeId} {n:Nat} (h:szT P t=some n) (w:World):(sizeOf t).run P w= .ok n w:=by
 unfold szT at h
 cases hu:P.info? t with
 |none=>rw [hu] at h;cases h
 |some i=>
  rw [hu] at h;simp at h;subst h
  unfold sizeOf
  rw [Sem.run_bind,run_typeInfo hu];rfl
theorem run_zeroValue {P:Program} {t:TypeId} {v:Value} (h:zeroT P t=some v) (w:World):(zeroValue t).run P w= .ok v w:=by
 unfold zeroT at h
 cases hu:P.info? t with
 |none=>rw [hu] at h;cases h
 |some i=>
  rw [hu] at h
  simp only [Option.bind_some] at h
  unfold zeroValue
  rw [Sem.run_bind,run_typeInfo hu,Result.andThen_ok]
  simp [h]
theorem run_loadAt1 {P:Program} {t:TypeId} (h:isAggT P t=some false) (a:Addr) (w:World):(Instr.loadAt t (.pointer (some a))).run P w=(load a).run P w:=by
 unfold Instr.loadAt Instr.sureAddr
 rw [Sem.run_bind,Sem.run_pure,Result.andThen_ok]
 unfold loadVar
 rw [Sem.run_bind,run_isAgg h,Result.andThen_ok]
 simp
theorem run_load_eq {P:Program} (a:Addr) (w:World):(load a).run P w=match w.cell? a with
  |some v=> .ok v w
  |none=>match w.farLoad P a false with
   | .ok (v,_)=> .ok v w
   | .error h=> .halt h w:=by
 unfold load
 simp only [Sem.run]
 cases w.cell? a<;>rfl
def cellsFrom (w:World) (b o:Nat):Nat→Option (List Value)
 |0=>some []
 |n+1=>match w.cell? ⟨b,o,none⟩ with
  |some v=>match cellsFrom w b (o+1) n with
   |some l=>some (v::l)
   |none=>none
  |none=>none
theorem addr_add (b o n:Nat):Addr.add ⟨b,o,none⟩ n=⟨b,o+n,none⟩:=by
 unfold Addr.add;split
 ·rename_i h;subst h;rfl
 ·rfl
theorem run_loadCellsFrom {P:Program} {w:World} {b o:Nat}:∀(n i:Nat) (acc:Array Value) (l:List Value),cellsFrom w b (o+i) n=some l→(loadCellsFrom ⟨b,o,none⟩ i n acc).run P w= .ok (acc++l.toArray) w:=by
 intro n
 induction n with
 |zero=>intro i acc l h;simp [cellsFrom] at h;subst h;simp [loadCellsFrom]
 |succ n ih=>
  intro i acc l h
  unfold cellsFrom at h
  cases hc:w.cell? ⟨b,o+i,none⟩ with
  |none=>rw [hc] at h;cases h
  |some v=>
   rw [hc] at h
   simp only at h
   cases hr:cellsFrom w b (o+i+1) n with
   |none=>rw [hr] at h;cases h
   |some l'=>
    rw [hr] at h
    simp only [Option.some.injEq] at h
    subst h
    unfold loadCellsFrom
    rw [Sem.run_bind,addr_add,run_load_eq,hc]
    simp only [Result.andThen_ok]
    rw [ih (i+1) (acc.push v) l' hr]
    simp
theorem run_loadAtN {P:Program} {t:TypeId} {n:Nat} (h:isAggT P t=some true) (hn:szT P t=some n) {w:World} {b o:Nat} {l:List Value} (hl:cellsFrom w b o n=some l):(Instr.loadAt t (.pointer (some ⟨b,o,none⟩))).run P w= .ok (.agg l.toArray) w:=by
 unfold Instr.loadAt Instr.sureAddr
 rw [Sem.run_bind,Sem.run_pure,Result.andThen_ok]
 unfold loadVar
 rw [Sem.run_bind,run_isAgg h,Result.andThen_ok]
 simp only [if_true]
 rw [Sem.run_bind,run_sizeOf hn,Result.andThen_ok,Sem.run_bind]
 unfold loadCells
 rw [run_loadCellsFrom n 0 #[] l hl]
 simp
def isOne:Value→Bool
 | .agg _=>false
 | .tuple _=>false
 |_=>true
theorem cells_one {v:Value} (h:isOne v=true):v.cells= #[v]:=by cases v<;>first|rfl|cases h
theorem run_store_one {P:Program} {a:Addr} {v:Value} (h:isOne v=true) {u:Value} {w:World} (hc:w.cell? a=some u) (hz:w.frozen? a=false):(store a v).run P w= .ok () (w.setCell a v):=by
 unfold store
 cases v<;>first|(simp only [Sem.run,hc,hz];rfl)|(exact absurd h (by simp [isOne]))
def setCells (w:World) (b o:Nat):List Value→World
 | []=>w
 |v::l=>setCells (w.setCell ⟨b,o,none⟩ v) b (o+1) l
def allOne:List Value→Bool
 | []=>true
 |v::l=>isOne v&&allOne l
def freeRow (w:World) (b o:Nat):Nat→Bool
 |0=>true
 |n+1=>(w.cell? ⟨b,o,none⟩).isSome&&(!w.frozen? ⟨b,o,none⟩&&freeRow w b (o+1) n)
theorem freeRow_setCell {w:World} {p:Addr} {v:Value} {b:Nat}:∀(n o:Nat),freeRow w b o n=true→freeRow (w.setCell p v) b o n=true:=by
 intro n
 induction n with
 |zero=>intro o _;rfl
 |succ n ih=>
  intro o h
  simp only [freeRow,Bool.and_eq_true] at h ⊢
  obtain ⟨h1,h2,h3⟩:=h
  refine ⟨?_,?_,ih _ h3⟩
  ·obtain ⟨u,hu⟩:=Option.isSome_iff_exists.1 h1
   obtain ⟨u',hu'⟩:=Go.RowKit.cell?_setCell_some (p:=p) (x:=v) hu
   rw [hu'];rfl
  ·rw [World.frozen?_setCell];exact h2
theorem run_storeCells {P:Program} {b o:Nat}:∀(l:List Value) (i:Nat) (w:World),allOne l=true→freeRow w b (o+i) l.length=true→(storeCells ⟨b,o,none⟩ l i).run P w= .ok () (setCells w b (o+i) l):=by
 intro l
 induction l with
 |nil=>intro i w _ _;rfl
 |cons v l ih=>
  intro i w ha hf
  simp only [allOne,Bool.and_eq_true] at ha
  simp only [List.length_cons,freeRow,Bool.and_eq_true,Bool.not_eq_true'] at hf
  obtain ⟨h1,h2,h3⟩:=hf
  obtain ⟨u,hu⟩:=Option.isSome_iff_exists.1 h1
  unfold storeCells
  rw [Sem.run_bind,addr_add,run_store_one ha.1 hu h2,Result.andThen_ok,ih (i+1) _ ha.2 (freeRow_setCell _ _ h3)]
  rfl
def ldO (P:Program) (t:TypeId) (w:World) (x:Value):Option Value:=
 match x with
 | .pointer (some a)=>match isAggT P t with
  |some false=>w.cell? a
  |some true=>match a with
   |⟨b,o,none⟩=>match szT P t with
    |some n=>(cellsFrom w b o n).map fun l=> .agg l.toArray
    |none=>none
   |_=>none
  |none=>none
 |_=>none
theorem ldO_run {P:Program} {t:TypeId} {w:World} {x v:Value} (h:ldO P t w x=some v):(Instr.loadAt t x).run P w= .ok v w:=by
 unfold ldO at h
 split at h
 ·rename_i a
  split at h
  ·rename_i ha
   rw [run_loadAt1 ha,run_load_eq,h]
  ·rename_i ha
   split at h
   ·rename_i b o
    split at h
    ·rename_i n hn
     cases hc:cellsFrom w b o n with
     |none=>rw [hc] at h;cases h
     |some l=>rw [hc] at h;simp at h;subst h;exact run_loadAtN ha hn hc
    ·cases h
   ·cases h
  ·cases h
 ·cases h
def oE (o:Option Value) (k:Value→Prop) (_:DepK k:= .mk):Prop:=
 match o with
 |some v=>k v
 |none=>False
def ldS (P:Program) (t:TypeId) (x:Value) (w:World) (k:K1) (_:DepK k:= .mk):Prop:=oE (ldO P t w x) (fun v=>k v w)
def ldR (P:Program) (t:TypeId) (x:Value) (w:World) (k:Value→Prop) (_:DepK k:= .mk):Prop:=oE (ldO P t w x) k
def ldG (P:Program) (t:TypeId) (x:Value) (w:World) (v:Value):Prop:=ldO P t w x=some v
def stO (P:Program) (t:TypeId) (w:World) (x v:Value):Option World:=
 match x with
 | .pointer (some ⟨b,o,none⟩)=>match szT P t with
  |some n=>match Nat.beq v.cells.toList.length n&&(allOne v.cells.toList&&freeRow w b o n) with
   |true=>some (setCells w b o v.cells.toList)
   |false=>none
  |none=>none
 |_=>none
theorem stO_run {P:Program} {t:TypeId} {w w':World} {x v:Value} (h:stO P t w x v=some w'):(Instr.storeAt t x v).run P w= .ok () w':=by
 unfold stO at h
 split at h
 ·rename_i b o
  split at h
  ·rename_i n hn
   split at h
   ·rename_i hb
    simp only [Bool.and_eq_true] at hb
    simp only [Option.some.injEq] at h
    subst h
    have hl:=Nat.eq_of_beq_eq_true hb.1
    unfold Instr.storeAt Instr.sureAddr
    rw [Sem.run_bind,Sem.run_pure,Result.andThen_ok]
    unfold storeVar
    rw [Sem.run_bind,run_sizeOf hn,Result.andThen_ok]
    rw [if_neg (by rw [←Array.length_toList];simp [hl])]
    rw [run_storeCells v.cells.toList 0 w hb.2.1 (by rw [hl];exact hb.2.2)]
    rfl
   ·cases h
  ·cases h
 ·cases h
def oW (o:Option World) (k:World→Prop) (_:DepK k:= .mk):Prop:=
 match o with
 |some w=>k w
 |none=>False
def stS (P:Program) (t:TypeId) (x v:Value) (w:World) (k:World→Prop) (_:DepK k:= .mk):Prop:=oW (stO P t w x v) k
def isConst:Operand→Bool
 | .const _=>true
 |_=>false
def evO (fr:Fr):Operand→Value
 | .tmp t=>fr.getD t undef
 | .const v=>v
 | .global g=> .pointer (some ⟨g,0,none⟩)
 | .func f=> .func (.func f) #[] #[]
def put (fr:Fr) (d:Option Tmp) (v:Value):Fr:=
 match d with
 |some d=>fr.set d v
 |none=>fr
def opS (P:Program) (o:Op) (ty:TypeId) (ρ:Operand→Value) (w:World) (k:K1):Prop:=
 match o with
 | .move x=>k (ρ x) w
 | .assign x=>k (ρ x) w
 | .pick c a b=>pickS (ρ c) (ρ a) (ρ b) w k
 | .alloc t=>ev P (Instr.alloc t true (.tuple #[])) w k
 | .box t x=>ev P (Instr.box t (ρ x)) w k
 | .build t ps=>ev P (Instr.build t (ps.toList.map fun p=>(p.1,ρ p.2)).toArray) w k
 | .buildSlice t n ps=>ev P (Instr.buildSlice t n (ps.toList.map fun p=>(p.1,ρ p.2)).toArray) w k
 | .load t a=>ldS P t (ρ a) w k
 | .store t a x=>stS P t (ρ a) (ρ x) w (k undef)
 | .nilCheck x=>nilS P (ρ x) w k
 | .binOp op t x y _=>ev P (binM op t x y (ρ x) (ρ y)) w k
 | .unOp op _ x=>ev P (Op.unary op (ρ x)) w k
 | .convert s d x=>ev P (convert s d (ρ x)) w k
 | .makeInterface t x=>ev P (Instr.makeInterface t (ρ x)) w k
 | .makeMap t none=>ev P (Instr.makeMap t none) w k
 | .makeSlice t l c=>ev P (Instr.makeSlice t (ρ l) (ρ c)) w k
 | .slice t x lo hi mx=>ev P (Instr.sliceAt t (ρ x) (lo.map ρ) (hi.map ρ) (mx.map ρ)) w k
 | .fieldAddr s x f=>ev P (Instr.fieldAt s (ρ x) f) w k
 | .field t x f=>ev P (Instr.field t (ρ x) f) w k
 | .indexAddr t x i=>ev P (Instr.indexAt t (ρ x) (ρ i)) w k
 | .index t x i=>ev P (Instr.index t (ρ x) (ρ i)) w k
 | .lookup t x i ok=>ev P (Instr.lookup t (ρ x) (ρ i) ok) w k
 | .mapUpdate t m i x=>ac P (Instr.mapUpdate t (ρ m) (ρ i) (ρ x)) w (k undef)
 | .insert t m i x=>ac P (Instr.mapUpdate t (ρ m) (ρ i) (ρ x)) w (k undef)
 | .range t x=>ev P (Instr.range t (ρ x)) w k
 | .next it s=>ev P (Instr.next (ρ it) s ty) w k
 | .entry it=>ev P (Instr.entry (ρ it)) w k
 | .extract t i=>ev P (Instr.extract (ρ t) i) w k
 | .makeFunc f a b=>ev P (Instr.makeFunc f (a.toList.map ρ).toArray (b.toList.map ρ).toArray) w k
 | .call ⟨.value (.func f),args,_⟩=>callS P f (args.toList.map ρ).toArray w k
 | .call ⟨.value f,args,_⟩=>dynS P (ρ f) (args.toList.map ρ).toArray w k
 | .call ⟨.invoke r name,args,_⟩=>invS P (ρ r) name (args.toList.map ρ).toArray w k
 | .call ⟨.builtin b,args,ts⟩=>bltS P b ts ty (args.toList.map isConst).toArray (args.toList.map ρ).toArray w k
 |_=>False
def enters (P:Program) (f:FuncId):Bool:=
 match P.funcs[f]? with
 |some fn=>fn.body.isSome&& !(fn.name== "runtime.NumGoroutine")
 |none=>false
def opOk (P:Program):Op→Bool
 | .call ⟨.value (.func f),_,_⟩=>enters P f
 |_=>true
theorem stN_of_ev {P:Program} {s:Sem Value} {w:World} {k:K1} (h:ev P s w k):stN P ((do pure (Next.value (←s)):Sem Next).run P w) k:=by
 unfold ev at h
 rw [Sem.run_bind]
 cases hr:s.run P w with
 |ok v w'=>rw [hr] at h;simpa [stN] using h
 |halt x w'=>rw [hr] at h;exact h.elim
theorem stN_of_ac {P:Program} {s:Sem Unit} {w:World} {k:World→Prop} (h:ac P s w k) (K:K1) (hk:∀w,k w→K undef w):stN P ((do s;pure Next.skip:Sem Next).run P w) K:=by
 unfold ac at h
 rw [Sem.run_bind]
 cases hr:s.run P w with
 |ok v w'=>rw [hr] at h;simpa [stN] using hk _ h
 |halt x w'=>rw [hr] at h;exact h.elim
theorem ev_of_ldS {P:Program} {t:TypeId} {x:Value} {w:World} {k:K1} (h:ldS P t x w k):ev P (Instr.loadAt t x) w k:=by
 unfold ldS oE at h
 split at h
 ·rename_i v hv;unfold ev;rw [ldO_run hv];exact h
 ·exact h.elim
theorem ac_of_stS {P:Program} {t:TypeId} {x v:Value} {w:World} {k:World→Prop} (h:stS P t x v w k):ac P (Instr.storeAt t x v) w k:=by
 unfold stS oW at h
 split at h
 ·rename_i w' hw;unfold ac;rw [stO_run hw];exact h
 ·exact h.elim
theorem map_parts (ps:Array (Nat×Operand)) (ρ:Operand→Value):(ps.map fun (i,x)=>(i,ρ x))=(ps.toList.map fun p=>(p.1,ρ p.2)).toArray:=by
 apply Array.ext';simp
theorem map_args (ps:Array Operand) {α:Type} (ρ:Operand→α):ps.map ρ=(ps.toList.map ρ).toArray:=by
 apply Array.ext';simp
theorem run_callFunc {P:Program} {f:FuncId} (h:enters P f=true) (args:Array Value) (w:World):(callFunc f args).run P w= .ok (.enter f args) w:=by
 unfold enters at h
 cases hf:P.funcs[f]? with
 |none=>rw [hf] at h;cases h
 |some fn=>
  rw [hf] at h
  simp only [Bool.and_eq_true,Bool.not_eq_true'] at h
  obtain ⟨hb,hn⟩:=h
  have hb':fn.body.isNone=false:=by cases hx:fn.body<;>simp_all
  unfold callFunc
  simp only [program,Bind.bind,Sem.bind,Sem.run,hf,hn,hb',Bool.false_eq_true,if_false,pure]
theorem opS_sound {P:Program} {o:Oper} {ρ:Operand→Value} {w:World} {k:K1} (hρ:∀f,ρ (.func f)= .func (.func f) #[] #[]) (hok:opOk P o.op=true) (h:opS P o.op o.type ρ w k):stN P ((execOp ρ o).run P w) k:=by
 obtain ⟨dst,op,ty,pos,after,guard⟩:=o
 cases op with
 |move x=>exact h
 |assign x=>exact h
 |pick c a b=>
  simp only [opS,pickS] at h
  simp only [execOp]
  cases hc:ρ c with
  |bool t=>rw [hc] at h;cases t<;>simpa [stN,asBool] using h
  |_=>rw [hc] at h;exact h.elim
 |alloc t=>exact stN_of_ev h
 |box t x=>exact stN_of_ev h
 |build t ps=>simp only [execOp,map_parts];exact stN_of_ev h
 |buildSlice t n ps=>simp only [execOp,map_parts];exact stN_of_ev h
 |load t a=>exact stN_of_ev (ev_of_ldS h)
 |store t a x=>exact stN_of_ac (ac_of_stS h) k (fun _ h=>h)
 |nilCheck x=>exact h
 |binOp op t x y yt=>exact stN_of_ev h
 |unOp op t x=>exact stN_of_ev h
 |convert s d x=>exact stN_of_ev h
 |makeInterface t x=>exact stN_of_ev h
 |makeMap t r=>cases r with
  |none=>exact stN_of_ev h
  |some r=>exact h.elim
 |makeSlice t l c=>exact stN_of_ev h
 |slice t x lo hi mx=>exact stN_of_ev h
 |fieldAddr s x f=>exact stN_of_ev h
 |field t x f=>exact stN_of_ev h
 |indexAddr t x i=>exact stN_of_ev h
 |index t x i=>exact stN_of_ev h
 |lookup t x i c=>exact stN_of_ev h
 |mapUpdate t m i x=>exact stN_of_ac h k (fun _ h=>h)
 |insert t m i x=>exact stN_of_ac h k (fun _ h=>h)
 |range t x=>exact stN_of_ev h
 |next it s=>exact stN_of_ev h
 |entry it=>exact stN_of_ev h
 |extract t i=>exact stN_of_ev h
 |makeFunc f a b=>simp only [execOp,map_args];exact stN_of_ev h
 |call c=>
  obtain ⟨callee,args,ts⟩:=c
  cases callee with
  |value f=>
   cases f with
   |func f=>
    simp only [opS] at h
    have hr:=run_callFunc hok (args.toList.map ρ).toArray w
    have e:(execOp ρ {dst:=dst,op:= .call ⟨.value (.func f),args,ts⟩,type:=ty,pos:=pos,after:=after,guard:=guard})=callFunc f (args.toList.map ρ).toArray:=by
     simp only [execOp,resolve,map_args,hρ,Deferred.ofValue,Bind.bind,Sem.bind,pure,invoke]
     simp
    rw [e,hr];exact h
   |_=>simp only [opS,dynS] at h;simp only [execOp,resolve,map_args];exact h
  |invoke r name=>
   simp only [opS,invS] at h
   simp only [execOp,resolve,map_args,Bind.bind,Sem.bind,pure,invoke]
   have e:((#[ρ r]++(args.toList.map ρ).toArray).extract 1 (#[ρ r]++(args.toList.map ρ).toArray).size)=(args.toList.map ρ).toArray:=by
    apply Array.ext'
    simp only [Array.toList_extract,Array.toList_append,List.extract_eq_take_drop,Array.size_append]
    simp [List.take_of_length_le]
   simp only [Array.getElem?_append,e]
   simpa using h
  |builtin b=>
   simp only [opS,bltS] at h
   simp only [execOp,resolve,map_args,Bind.bind,Sem.bind,pure,invoke]
   exact h
 |_=>exact h.elim
def gd (x:Value) (want:Bool) (yes:K1→Prop) (w:World) (k:K1):Prop:=
 match x with
 | .bool b=>match b,want with
  |true,true=>yes k
  |false,false=>yes k
  |_,_=>k undef w
 |_=>k undef w
def dstOf (ops:List Oper) (j:Nat) (fr:Fr):Value:=
 match (ops[j]?).bind (·.dst) with
 |some d=>fr.getD d undef
 |none=>undef
def oneS (P:Program) (ops:List Oper) (o:Oper) (fr:Fr) (w:World) (k:K1):Prop:=
 match o.guard with
 |none=>opS P o.op o.type (evO fr) w k
 |some (j,want)=>gd (dstOf ops j fr) want (fun k=>opS P o.op o.type (evO fr) w k) w k
def regT (P:Program) (ops:List Oper):List Oper→KF→Fr→World→Prop
 | [],k,fr,w=>k fr w
 |o::rest,k,fr,w=>oneS P ops o fr w (fun v w'=>regT P ops rest k (put fr o.dst v) w')
def actOf (ds:List Deferred) (fr:Fr):Act:={tmps:=fr.toArray,defers:=ds}
def FW (ro:Option Nat):Fence:={Fence.wide with round:=ro}
theorem fwD {ro:Option Nat} {p:Prop} (h:(FW ro).depth.isSome=true):p:=by cases h
theorem eval_actOf (ds:List Deferred) (fr:Fr):(actOf ds fr).eval=evO fr:=by
 funext x;cases x<;>simp [Act.eval,actOf,evO,Array.getD_eq_getD_getElem?,List.getD_eq_getElem?_getD]
theorem put_actOf (ds:List Deferred) (fr:Fr) (d:Option Tmp) (v:Value):(actOf ds fr).put d v=actOf ds (put fr d v):=by
 cases d<;>simp [Act.put,actOf,put]
theorem evO_func (fr:Fr) (f:FuncId):evO fr (.func f)= .func (.func f) #[] #[]:=rfl
def isB (x:Value) (want:Bool):Bool:=
 match x with
 | .bool b=>b==want
 |_=>false
def wantB (ops:List Oper) (o:Oper) (fr:Fr):Bool:=
 match o.guard with
 |none=>true
 |some (j,want)=>isB (dstOf ops j fr) want
theorem wanted_eq (ops:List Oper) (o:Oper) (ds:List Deferred) (fr:Fr):Region.wanted o (yielded ops.toArray (actOf ds fr).tmps)=wantB ops o fr:=by
 obtain ⟨dst,op,ty,pos,after,guard⟩:=o
 cases guard with
 |none=>rfl
 |some g=>
  obtain ⟨j,want⟩:=g
  simp only [Region.wanted,wantB,isB,yielded,dstOf,actOf,List.getElem?_toArray]
  cases hd:(ops[j]?).bind (·.dst) with
  |none=>simp [undef]
  |some d=>
   simp only [Option.bind_some,List.getD_eq_getElem?_getD]
   cases hf:fr[d]? with
   |none=>simp [undef]
   |some x=>cases x<;>simp
theorem gd_yes {x:Value} {want:Bool} {yes:K1→Prop} {w:World} {k:K1} (h:gd x want yes w k) (hx:isB x want=true):yes k:=by
 unfold gd at h
 cases x<;>simp [isB] at hx
 rename_i b
 subst hx
 cases b<;>exact h
theorem gd_no {x:Value} {want:Bool} {yes:K1→Prop} {w:World} {k:K1} (h:gd x want yes w k) (hx:isB x want=false):k undef w:=by
 unfold gd at h
 cases x<;>simp [isB] at hx<;>try exact h
 rename_i b
 cases b<;>cases want<;>simp at hx<;>exact h
theorem oneS_yes {P:Program} {ops:List Oper} {o:Oper} {fr:Fr} {w:World} {k:K1} (h:oneS P ops o fr w k) (hw:wantB ops o fr=true):opS P o.op o.type (evO fr) w k:=by
 unfold oneS at h
 unfold wantB at hw
 cases hg:o.guard with
 |none=>rw [hg] at h;exact h
 |some g=>rw [hg] at h hw;exact gd_yes h hw
theorem oneS_no {P:Program} {ops:List Oper} {o:Oper} {fr:Fr} {w:World} {k:K1} (h:oneS P ops o fr w k) (hw:wantB ops o fr=false):k undef w:=by
 unfold oneS at h
 unfold wantB at hw
 cases hg:o.guard with
 |none=>rw [hg] at hw;cases hw
 |some g=>rw [hg] at h hw;exact gd_no h hw
theorem opS_at {P:Program} {o:Oper} {ρ:Operand→Value} {w:World} {k:K1} (h:opS P o.op o.type ρ w k) (ro:Option Nat):o.semAt ro ρ=execOp ρ o:=by
 refine Oper.semAt_eq ro ρ o (fun c e=> ?_)
 rw [e] at h
 exact h.elim
theorem uponIn_of_stN {P:Program} {ro:Option Nat} {ds:List Deferred} {o:Oper} {fr:Fr} {r:Result Next} {k:K1} {next:Act→World→Prop} {Q:Exit→Act→World→Prop} (h:stN P r k) (hk:∀v w',k v w'→next (actOf ds (put fr o.dst v)) w'):o.uponIn (FW ro) 0 P (actOf ds fr) next Q r:=by
 cases r with
 |halt x w'=>exact h.elim
 |ok n w'=>
  cases n<;>simp only [stN] at h<;>try exact h.elim
  ·simp only [Oper.uponIn_value,put_actOf];exact hk _ _ h
  ·simp only [Oper.uponIn_skip,put_actOf];exact hk _ _ h
  ·rw [Oper.uponIn_enter]
   refine ⟨fun h=>fwD h,(callsIn_wide (n:=0)).2 (Calls.mono h ?_)⟩
   intro e w'' hr
   cases e with
   |returned v=>simp only [put_actOf];exact hk _ _ hr
   |panicked c=>exact hr.elim
   |outgrown=>exact hr.elim
  ·rw [Oper.uponIn_round]
   refine ⟨fun h=>fwD h,RoundIn.mono (F:=Fence.wide) h ?_⟩
   intro e w'' hr
   cases e with
   |returned v=>simp only [put_actOf];exact hk _ _ hr
   |panicked c=>exact hr.elim
   |outgrown=>exact hr.elim
theorem oper_wp {P:Program} {ro:Option Nat} {ds:List Deferred} {o:Oper} {fr:Fr} {w:World} {k:K1} {next:Act→World→Prop} {Q:Exit→Act→World→Prop} (hok:opOk P o.op=true) (h:opS P o.op o.type (evO fr) w k) (hk:∀v w',k v w'→next (actOf ds (put fr o.dst v)) w'):o.wpIn (FW ro) 0 P (actOf ds fr) w next Q:=by
 have h':=opS_sound (evO_func fr) hok h
 refine ⟨fun _ _=>trivial,?_⟩
 rw [eval_actOf,opS_at h]
 exact uponIn_of_stN h' hk
theorem regT_sound {P:Program} {ro:Option Nat} {ds:List Deferred} {nt:Nat} {ops:List Oper} {Q:Exit→Act→World→Prop} {k:KF} (hk:∀fr w,fr.length=nt→k fr w→Q .normal (actOf ds fr) w):∀(l:List Oper) (fr:Fr) (w:World),fr.length=nt→(l.all fun o=>opOk P o.op)=true→regT P ops l k fr w→wpListIn (FW ro) 0 P ops.toArray Q l (actOf ds fr) w:=by
 intro l
 induction l with
 |nil=>intro fr w hl _ h;exact hk _ _ hl h
 |cons o rest ih=>
  intro fr w hl hok h
  simp only [List.all_cons,Bool.and_eq_true] at hok
  unfold regT at h
  unfold wpListIn
  rw [wanted_eq]
  cases hw:wantB ops o fr with
  |true=>
   rw [if_pos rfl]
   exact oper_wp hok.1 (oneS_yes h hw) (fun v w' h=>ih _ _ (by cases o.dst<;>simp [put,hl]) hok.2 h)
  |false=>
   rw [if_neg (by simp),put_actOf]
   exact ⟨fun _ _=>trivial,ih _ _ (by cases o.dst<;>simp [put,hl]) hok.2 (oneS_no h hw)⟩
def nilOp:Oper:={dst:=none,op:= .nilCheck (.tmp 0),type:=0,pos:= "",after:= #[],guard:=none}
def rd (P:Program) (s:Sem Value) (w:World) (k:Value→Prop) (_:DepK k:= .mk):Prop:=
 match s.run P w with
 | .ok v w'=>w'=w∧k v
 | .halt _ _=>False
def nilR (P:Program) (x:Value) (w:World) (k:Value→Prop) (_:DepK k:= .mk):Prop:=
 match (execOp (fun _=>x) nilOp).run P w with
 | .ok (.value v) w'=>w'=w∧k v
 |_=>False
def pickV (c a b:Value) (k:Value→Prop):Prop:=
 match c with
 | .bool true=>k a
 | .bool false=>k b
 |_=>False
def ag (P:Program) (s:Sem Value) (w:World) (v:Value):Prop:=s.run P w= .ok v w
def rdO (o:Op) (ty:TypeId) (ρ:Operand→Value):Option (Sem Value):=
 match o with
 | .build t ps=>some (Instr.build t (ps.toList.map fun p=>(p.1,ρ p.2)).toArray)
 | .binOp op t x y _=>some (binM op t x y (ρ x) (ρ y))
 | .unOp op _ x=>some (Op.unary op (ρ x))
 | .convert s d x=>some (convert s d (ρ x))
 | .makeInterface t x=>some (Instr.makeInterface t (ρ x))
 | .slice t x lo hi mx=>some (Instr.sliceAt t (ρ x) (lo.map ρ) (hi.map ρ) (mx.map ρ))
 | .fieldAddr s x f=>some (Instr.fieldAt s (ρ x) f)
 | .field t x f=>some (Instr.field t (ρ x) f)
 | .indexAddr t x i=>some (Instr.indexAt t (ρ x) (ρ i))
 | .index t x i=>some (Instr.index t (ρ x) (ρ i))
 | .lookup t x i ok=>some (Instr.lookup t (ρ x) (ρ i) ok)
 | .extract t i=>some (Instr.extract (ρ t) i)
 | .makeFunc f a b=>some (Instr.makeFunc f (a.toList.map ρ).toArray (b.toList.map ρ).toArray)
 | .call ⟨.builtin .len,args,ts⟩=>some (Builtin.len_ ts ty (args.toList.map ρ).toArray)
 | .call ⟨.builtin .max,args,ts⟩=>some (Builtin.max_ ts ty (args.toList.map ρ).toArray)
 | .call ⟨.builtin .min,args,ts⟩=>some (Builtin.min_ ts ty (args.toList.map ρ).toArray)
 |_=>none
def isRd:Op→Bool
 | .move _| .pick ..| .nilCheck _=>true
 | .build ..| .load ..| .binOp ..| .unOp ..| .convert ..| .makeInterface ..| .slice ..| .fieldAddr ..| .field ..| .indexAddr ..| .index ..| .lookup ..| .extract ..| .makeFunc ..=>true
 | .call ⟨.builtin .len,_,_⟩| .call ⟨.builtin .max,_,_⟩| .call ⟨.builtin .min,_,_⟩=>true
 |_=>false
def rdS (P:Program) (o:Op) (ty:TypeId) (ρ:Operand→Value) (w:World) (k:Value→Prop):Prop:=
 match o with
 | .move x=>k (ρ x)
 | .pick c a b=>pickV (ρ c) (ρ a) (ρ b) k
 | .nilCheck x=>nilR P (ρ x) w k
 | .load t a=>ldR P t (ρ a) w k
 |o=>match rdO o ty ρ with
  |some s=>rd P s w k
  |none=>False
def Cst {α:Type} (P:Program) (s:Sem α):Prop:=(∃v,∀w,s.run P w= .ok v w)∨∀w v w',s.run P w≠ .ok v w'
section
variable {α β:Type} {P:Program}
theorem Cst.pure (v:α):Cst P (Pure.pure v):= .inl ⟨v,fun _=>rfl⟩
theorem Cst.halt {s:Sem α} (h:∀w v w',s.run P w≠ .ok v w'):Cst P s:= .inr h
theorem never_bind {s:Sem α} {f:α→Sem β} (h:∀x w v w',(f x).run P w≠ .ok v w') (w:World) (v:β) (w':World):(s>>=f).run P w≠ .ok v w':=by
 rw [Sem.run_bind]
 cases s.run P w with
 |ok x w1=>exact h x w1 v w'
 |halt=>intro h;cases h
theorem Cst.bind {s:Sem α} {f:α→Sem β} (hs:Cst P s) (hf:∀x,Cst P (f x)):Cst P (s>>=f):=by
 rcases hs with ⟨x,hx⟩|hs
 ·rcases hf x with ⟨v,hv⟩|hn
  ·exact .inl ⟨v,fun w=>by rw [Sem.run_bind,hx];exact hv w⟩
  ·exact .inr fun w v w'=>by rw [Sem.run_bind,hx];exact hn w v w'
 ·refine .inr fun w v w'=> ?_
  rw [Sem.run_bind]
  cases h:s.run P w with
  |ok x w1=>exact absurd h (hs _ _ _)
  |halt=>intro h;cases h
theorem Cst.stuck (m:String):Cst P (stuck m:Sem α):= .inr fun w v w' h=>by cases h
theorem never_panic (x y:Int) (b:Bool) (c:BoundsCode) (w:World) (v:α) (w':World):(runtimePanic (.bounds x y b c):Sem α).run P w≠ .ok v w':=by
 unfold runtimePanic
 refine never_bind (fun p w v w' h=> ?_) w v w'
 cases h
theorem Cst.panic (k:IntKind) (x y:Int) (c:BoundsCode):Cst P (boundsPanic k x y c:Sem α):=by
 refine .inr fun w v w'=> ?_
 unfold boundsPanic
 simp only
 split
 ·exact never_bind (fun s=>never_panic _ _ _ _) w v w'
 ·exact never_bind (fun s=>never_panic _ _ _ _) w v w'
theorem Cst.under (t:TypeId):Cst P (underlying t):=by
 unfold underlying
 refine .bind (.inl ⟨P,fun _=>rfl⟩) fun p=> ?_
 split<;>first|exact .pure _|exact .stuck _
theorem Cst.size (t:TypeId):Cst P (sizeOf t):=by
 unfold sizeOf typeInfo
 refine .bind (.bind (.inl ⟨P,fun _=>rfl⟩) fun p=> ?_) fun _=> .pure _
 split<;>first|exact .pure _|exact .stuck _
theorem Cst.int (v:Value):Cst P (asIntOf v):=by
 unfold asIntOf
 split<;>first|exact .pure _|exact .stuck _|exact .inr fun w v w' h=>by cases h
theorem Cst.bound (x:Value) (y:Nat) (c:BoundsCode):Cst P (Instr.sliceBound x y c):=by
 unfold Instr.sliceBound
 refine .bind (.int x) fun q=> ?_
 obtain ⟨k,i⟩:=q
 simp only
 split<;>first|exact .pure _|exact .panic _ _ _ _
theorem Cst.bounds (b:Bool) (len cap:Nat) (lo hi mx:Option Value):Cst P (Instr.sliceBounds b len cap lo hi mx):=by
 unfold Instr.sliceBounds
 cases mx<;>cases hi<;>cases lo<;>simp only
 all_goals repeat' first|exact .pure _|exact .stuck _|exact .bound _ _ _|refine .bind ?_ fun _=> ?_
theorem Cst.sliceAt (t:TypeId) (x:Value) (lo hi mx:Option Value):Cst P (Instr.sliceAt t x lo hi mx):=by
 unfold Instr.sliceAt
 refine .bind (.under t) fun d=> ?_
 have sa:∀x:Value,Cst P (Instr.sureAddr x):=fun x=>by unfold Instr.sureAddr;split<;>first|exact .pure _|exact .stuck _
 have aa:∀x:Value,Cst P (asAddr x):=fun x=>by unfold asAddr;split<;>first|exact .pure _|exact .stuck _|exact .inr (fun w v w' h=>by cases h)
 split
 ·exact .bind (sa x) fun a=> .bind (.bounds _ _ _ _ _ _) fun q=> .bind (.size _) fun _=> .pure _
 ·unfold Instr.slice
  refine .bind (.under t) fun d=> ?_
  split
  ·split
   all_goals repeat' first|exact .pure _|exact .stuck _|exact .bounds _ _ _ _ _ _|refine .bind ?_ fun _=> ?_|split
  ·exact .bind (.bounds _ _ _ _ _ _) fun _=> .bind (.size _) fun _=> .pure _
  ·refine .bind (aa _) fun a=> .bind (.under _) fun d=> ?_
   split
   ·exact .bind (.bounds _ _ _ _ _ _) fun _=> .bind (.size _) fun _=> .pure _
   ·exact .stuck _
  ·exact .stuck _
end
def free:Op→Bool
 | .move _| .pick ..| .extract ..| .slice ..=>true
 |_=>false
def agS (P:Program) (o:Op) (ty:TypeId) (ρ:Operand→Value) (w:World) (v:Value):Prop:=
 match o with
 | .nilCheck x=>nilR P (ρ x) w (fun u=>u=v)
 | .load t a=>ldG P t (ρ a) w v
 |o=>match rdO o ty ρ with
  |some s=>ag P s w v
  |none=>True
def yl (P:Program) (o:Oper) (ρ:Operand→Value) (w:World) (v:Value):Prop:=(execOp ρ o).run P w= .ok (.value v) w
theorem yl_of_rdO {P:Program} {o:Oper} {ρ:Operand→Value} {s:Sem Value} {w:World} {v:Value} (hs:rdO o.op o.type ρ=some s) (h:s.run P w= .ok v w):yl P o ρ w v:=by
 have key:execOp ρ o=(do pure (Next.value (←s)):Sem Next):=by
  obtain ⟨dst,op,ty,pos,after,guard⟩:=o
  cases op<;>simp only [rdO] at hs
  case call c=>
   obtain ⟨callee,args,ts⟩:=c
   cases callee with
   |value f=>simp at hs
   |invoke r n=>simp at hs
   |builtin b=>cases b<;>simp at hs<;>(subst hs;simp only [execOp,resolve,map_args,Bind.bind,Sem.bind,pure,invoke];rfl)
  all_goals (first|(simp at hs;done)|skip)
  all_goals (simp only [Option.some.injEq] at hs;subst hs;first|rfl|(simp only [execOp,map_parts];done)|(simp only [execOp,map_args];done))
 unfold yl
 rw [key,Sem.run_bind,h]
 rfl
theorem nilR_yl {P:Program} {dst:Option Tmp} {x:Operand} {ty:TypeId} {pos:String} {after:Array Edge} {g:Option (Nat×Bool)} {ρ:Operand→Value} {w:World} {k:Value→Prop} (h:nilR P (ρ x) w k):∃v,yl P ⟨dst,.nilCheck x,ty,pos,after,g⟩ ρ w v∧k v:=by
 unfold nilR at h
 have e:execOp (fun _=>ρ x) nilOp=execOp ρ ⟨dst,.nilCheck x,ty,pos,after,g⟩:=rfl
 rw [e] at h
 unfold yl
 split at h
 ·rename_i v w' hr;obtain ⟨rfl,hk⟩:=h;exact ⟨v,hr,hk⟩
 ·exact h.elim
theorem ldO_yl {P:Program} {dst:Option Tmp} {t:TypeId} {x:Operand} {ty:TypeId} {pos:String} {after:Array Edge} {g:Option (Nat×Bool)} {ρ:Operand→Value} {w:World} {v:Value} (h:ldO P t w (ρ x)=some v):yl P ⟨dst,.load t x,ty,pos,after,g⟩ ρ w v:=by
 unfold yl
 show ((do pure (Next.value (←Instr.loadAt t (ρ x))):Sem Next).run P w)=_
 rw [Sem.run_bind,ldO_run h];rfl
theorem rdS_sound {P:Program} {o:Oper} {ρ:Operand→Value} {w:World} {k:Value→Prop} (h:rdS P o.op o.type ρ w k):∃v,yl P o ρ w v∧k v:=by
 have gen:∀s,rdO o.op o.type ρ=some s→rd P s w k→∃v,yl P o ρ w v∧k v:=by
  intro s hs hr
  unfold rd at hr
  split at hr
  ·rename_i v w' hrun
   obtain ⟨rfl,hk⟩:=hr
   exact ⟨v,yl_of_rdO hs hrun,hk⟩
  ·exact hr.elim
 obtain ⟨dst,op,ty,pos,after,guard⟩:=o
 have dfl:(match rdO op ty ρ with|some s=>rd P s w k|none=>False)→∃v,yl P ⟨dst,op,ty,pos,after,guard⟩ ρ w v∧k v:=by
  intro h
  cases hs:rdO op ty ρ with
  |none=>rw [hs] at h;exact h.elim
  |some s=>rw [hs] at h;exact gen s hs h
 cases op
 case move x=>exact ⟨ρ x,rfl,h⟩
 case pick c a b=>
  simp only [rdS,pickV] at h
  cases hc:ρ c with
  |bool t=>rw [hc] at h;cases t<;>exact ⟨_,by simp [yl,execOp,hc,asBool],h⟩
  |_=>rw [hc] at h;exact h.elim
 case nilCheck x=>exact nilR_yl h
 case load t x=>
  simp only [rdS,ldR,oE] at h
  split at h
  ·rename_i v hv;exact ⟨v,ldO_yl hv,h⟩
  ·exact h.elim
 all_goals exact dfl h
theorem agS_sound {P:Program} {o:Oper} {ρ:Operand→Value} {w w':World} {v:Value} (hr:isRd o.op=true) (hy:yl P o ρ w v) (h:free o.op=true∨agS P o.op o.type ρ w' v):yl P o ρ w' v:=by
 obtain ⟨dst,op,ty,pos,after,guard⟩:=o
 have dfl:∀s,rdO op ty ρ=some s→(match rdO op ty ρ with|some s=>ag P s w' v|none=>True)→yl P ⟨dst,op,ty,pos,after,guard⟩ ρ w' v:=by
  intro s hs h
  rw [hs] at h
  exact yl_of_rdO hs h
 cases op<;>simp only [isRd,Bool.false_eq_true] at hr
 case move x=>simp only [yl,execOp,pure,Sem.run] at hy ⊢;injection hy with a b;rw [a]
 case pick c a b=>
  simp only [yl,execOp] at hy ⊢
  cases hc:ρ c<;>simp [hc,asBool,stuck] at hy ⊢
  exact hy
 case extract t i=>
  simp only [yl,execOp,Instr.extract] at hy ⊢
  cases ht:ρ t<;>simp [ht,stuck] at hy ⊢
  rename_i vs
  cases hv:vs[i]? <;>simp [hv] at hy ⊢
  exact hy
 case slice t x lo hi mx=>
  have e:execOp ρ ⟨dst,.slice t x lo hi mx,ty,pos,after,guard⟩=(Instr.sliceAt t (ρ x) (lo.map ρ) (hi.map ρ) (mx.map ρ)>>=fun v=>pure (Next.value v)):=rfl
  unfold yl at hy ⊢
  rw [e,Sem.run_bind] at hy ⊢
  rcases Cst.sliceAt (P:=P) t (ρ x) (lo.map ρ) (hi.map ρ) (mx.map ρ) with ⟨u,hu⟩|hn
  ·rw [hu] at hy ⊢
   injection hy with a b
   rw [←a];rfl
  ·cases hr:(Instr.sliceAt t (ρ x) (lo.map ρ) (hi.map ρ) (mx.map ρ)).run P w with
   |ok v w1=>exact absurd hr (hn _ _ _)
   |halt=>rw [hr] at hy;cases hy
 case nilCheck x=>
  simp only [free,Bool.false_eq_true,false_or,agS] at h
  obtain ⟨u,h1,rfl⟩:=nilR_yl (dst:=dst) (ty:=ty) (pos:=pos) (after:=after) (g:=guard) h
  exact h1
 case load t x=>
  simp only [free,Bool.false_eq_true,false_or,agS,ldG] at h
  exact ldO_yl h
 case call c=>
  obtain ⟨callee,args,ts⟩:=c
  cases callee with
  |value f=>simp at hr
  |invoke r n=>simp at hr
  |builtin b=>
   cases b<;>simp at hr<;>(simp only [free,Bool.false_eq_true,false_or,agS] at h;exact dfl _ rfl h)
 all_goals (simp only [free,Bool.false_eq_true,false_or,agS] at h;exact dfl _ rfl h)
def bindsA (e:Edge):Bool:=Region.binds .any e
def tb (m i:Nat):Bool:=Nat.beq (Nat.land (Nat.shiftRight m i) 1) 1
def sb (m i:Nat):Nat:=Nat.lor m (Nat.pow 2 i)
theorem tb_eq (m i:Nat):tb m i=m.testBit i:=by
 have h:Nat.land (Nat.shiftRight m i) 1=(m>>>i)%2:=Nat.and_one_is_mod _
 unfold tb
 rw [h,Nat.testBit_eq_decide_div_mod_eq,←Nat.shiftRight_eq_div_pow]
 have h2:m>>>i%2<2:=Nat.mod_lt _ (by decide)
 generalize m>>>i%2=x at h2
 match x,h2 with
 |0,_=>rfl
 |1,_=>rfl
theorem tb_sb (m i j:Nat):tb (sb m i) j=if i=j then true else tb m j:=by
 rw [tb_eq,tb_eq]
 show (m|||2^i).testBit j=_
 rw [Nat.testBit_or,Nat.testBit_two_pow]
 by_cases e:i=j<;>simp [e]
def undone (done:Nat) (n:Nat):Nat:=(List.range n).countP fun i=> !tb done i
def rdy (done:Nat) (o:Oper):Bool:=o.after.toList.all fun e=> !bindsA e||tb done e.on
def findR (done:Nat):List Oper→Nat→Option (Nat×Oper)
 | [],_=>none
 |o::os,i=>match !tb done i&&(isRd o.op&&rdy done o) with
  |true=>some (i,o)
  |false=>findR done os (i+1)
def noisy (done:Nat):List Oper→Nat→List (Nat×Oper)
 | [],_=> []
 |o::os,i=>match !tb done i&&(!isRd o.op&&rdy done o) with
  |true=>(i,o)::noisy done os (i+1)
  |false=>noisy done os (i+1)
def befStep (acc:List Nat) (o:Oper):Nat:=o.after.toList.foldl (fun s e=>match bindsA e with|true=>s|||2^e.on|||acc.getD e.on 0|false=>s) 0
def befOf:List Oper→List Nat→List Nat
 | [],acc=>acc
 |o::os,acc=>befOf os (acc++ [befStep acc o])
def pend (done:Nat) (m:Nat):List Oper→Nat→List Oper
 | [],_=> []
 |o::os,i=>match tb done i&&(isRd o.op&&(!free o.op&& !tb m i)) with
  |true=>o::pend done m os (i+1)
  |false=>pend done m os (i+1)
def dstV (o:Oper) (fr:Fr):Value:=
 match o.dst with
 |some d=>fr.getD d undef
 |none=>undef
def gq (x:Value) (want:Bool) (A:Prop):Prop:=
 match x with
 | .bool b=>match b,want with
  |true,true=>A
  |false,false=>A
  |_,_=>True
 |_=>True
def recheck (P:Program) (ops:List Oper):List Oper→Fr→World→Prop→Prop
 | [],_,_,X=>X
 |o::rest,fr,w,X=>
  (match o.guard with
   |none=>agS P o.op o.type (evO fr) w (dstV o fr)
   |some (j,want)=>gq (dstOf ops j fr) want (agS P o.op o.type (evO fr) w (dstV o fr)))∧recheck P ops rest fr w X
def gdR (x:Value) (want:Bool) (yes:(Value→Prop)→Prop) (k:Value→Prop):Prop:=
 match x with
 | .bool b=>match b,want with
  |true,true=>yes k
  |false,false=>yes k
  |_,_=>k undef
 |_=>k undef
def oneR (P:Program) (ops:List Oper) (o:Oper) (fr:Fr) (w:World) (k:Value→Prop):Prop:=
 match o.guard with
 |none=>rdS P o.op o.type (evO fr) w k
 |some (j,want)=>gdR (dstOf ops j fr) want (fun k=>rdS P o.op o.type (evO fr) w k) k
def allN {α:Type} (f:α→Prop):α→List α→Prop
 |x,[]=>f x
 |x,y::l=>f x∧allN f y l
def regA (P:Program) (ops:List Oper) (bef:List Nat) (k:KF):Nat→Nat→Fr→World→Prop
 |0,_,fr,w=>k fr w
 |n+1,done,fr,w=>
  match findR done ops 0 with
  |some (i,o)=>oneR P ops o fr w (fun v=>regA P ops bef k n (sb done i) (put fr o.dst v) w)
  |none=>match noisy done ops 0 with
   | []=>k fr w
   |x::l=>allN (fun io=>oneS P ops io.2 fr w (fun v w'=>recheck P ops (pend done (bef.getD io.1 0) ops 0) (put fr io.2.dst v) w' (regA P ops bef k n (sb done io.1) (put fr io.2.dst v) w'))) x l
def looks (ops:List Oper) (o:Oper):List Tmp:=
 (o.op.operands.toList.filterMap fun| .tmp t=>some t|_=>none)++
 (match o.guard with
  |some (g,_)=>((ops[g]?).bind (·.dst)).toList
  |none=> [])
def notSelect:Op→Bool
 | .select ..=>false
 |_=>true
def pairOk (ops:List Oper) (bef:List Nat) (k:Nat) (o:Oper) (j:Nat) (p:Oper):Bool:=
 Nat.beq j k||
 (match o.dst with
  |none=>true
  |some s=>
   match isRd o.op with
   |true=> !(p.dst==some s)&&(!(looks ops p).contains s||tb (bef.getD j 0) k)
   |false=>(!(p.dst==some s)&& !(looks ops p).contains s)||(tb (bef.getD j 0) k||tb (bef.getD k 0) j))
def selfOk (ops:List Oper) (nt:Nat) (o:Oper):Bool:=
 match o.dst with
 |none=> !isRd o.op
 |some d=>Nat.blt d nt&&(!isRd o.op|| !(looks ops o).contains d)
def operOk (P:Program) (nt:Nat) (ops:List Oper) (bef:List Nat) (k:Nat) (o:Oper):Bool:=
 opOk P o.op&&notSelect o.op&&selfOk ops nt o&&
 (o.after.toList.all fun e=> !bindsA e||Nat.blt e.on k)&&
 (match o.guard with
  |none=>true
  |some (j,_)=>tb (bef.getD k 0) j)&&
 ((List.range ops.length).all fun i=> !tb (bef.getD k 0) i||o.after.toList.any fun e=>bindsA e&&(Nat.beq e.on i||tb (bef.getD e.on 0) i))&&
 (List.range ops.length).all fun j=>match ops[j]? with
  |none=>true
  |some p=>pairOk ops bef k o j p
def regOk (P:Program) (nt:Nat) (ops:List Oper) (bef:List Nat):Bool:=
 (List.range ops.length).all fun k=>match ops[k]? with
  |none=>true
  |some o=>operOk P nt ops bef k o
structure OpFacts (P:Program) (nt:Nat) (ops:List Oper) (bef:List Nat) (k:Nat) (o:Oper):Prop where
 ok:opOk P o.op=true
 sel:notSelect o.op=true
 self:selfOk ops nt o=true
 back:∀e∈o.after.toList,bindsA e=true→e.on<k
 gua:∀j want,o.guard=some (j,want)→tb (bef.getD k 0) j=true
 anc:∀i,i<ops.length→tb (bef.getD k 0) i=true→∃e∈o.after.toList,bindsA e=true∧(e.on=i∨tb (bef.getD e.on 0) i=true)
 pair:∀j p,ops[j]? =some p→pairOk ops bef k o j p=true
theorem facts_of_regOk {P:Program} {nt:Nat} {ops:List Oper} {bef:List Nat} (h:regOk P nt ops bef=true) {k:Nat} {o:Oper} (hk:ops[k]? =some o):OpFacts P nt ops bef k o:=by
 have hlt:k<ops.length:=by
  rcases Nat.lt_or_ge k ops.length with h|h
  ·exact h
  ·rw [List.getElem?_eq_none h] at hk;cases hk
 unfold regOk at h
 have h1:=List.all_eq_true.1 h k (List.mem_range.2 hlt)
 rw [hk] at h1
 simp only [operOk,Bool.and_eq_true] at h1
 obtain ⟨⟨⟨⟨⟨⟨a1,a2⟩,a3⟩,a4⟩,a5⟩,a6⟩,a7⟩:=h1
 refine ⟨a1,a2,a3,?_,?_,?_,?_⟩
 ·intro e he hb
  have:=List.all_eq_true.1 a4 e he
  simp only [hb,Bool.not_true,Bool.false_or] at this
  rwa [Nat.blt_eq] at this
 ·intro j want hg
  rw [hg] at a5;exact a5
 ·intro i hi ht
  have:=List.all_eq_true.1 a6 i (List.mem_range.2 hi)
  simp only [ht,Bool.not_true,Bool.false_or] at this
  obtain ⟨e,he,hb⟩:=List.any_eq_true.1 this
  simp only [Bool.and_eq_true,Bool.or_eq_true] at hb
  exact ⟨e,he,hb.1,hb.2.imp Nat.eq_of_beq_eq_true id⟩
 ·intro j p hj
  have hjl:j<ops.length:=by
   rcases Nat.lt_or_ge j ops.length with h|h
   ·exact h
   ·rw [List.getElem?_eq_none h] at hj;cases hj
  have:=List.all_eq_true.1 a7 j (List.mem_range.2 hjl)
  rw [hj] at this;exact this
theorem looks_same {ops:List Oper} {o:Oper} {fr fr':Fr} (h:∀s∈looks ops o,fr.getD s undef=fr'.getD s undef):wantB ops o fr=wantB ops o fr'∧(notSelect o.op=true→execOp (evO fr) o=execOp (evO fr') o):=by
 constructor
 ·unfold wantB
  cases hg:o.guard with
  |none=>rfl
  |some g=>
   obtain ⟨j,want⟩:=g
   simp only [dstOf]
   cases hd:(ops[j]?).bind (·.dst) with
   |none=>rfl
   |some d=>simp only;rw [h d (by unfold looks;rw [hg];simp [hd])]
 ·intro hs
  refine execOp_congr o (fun cs b e=>by rw [e] at hs;cases hs) fun x hx=> ?_
  cases x with
  |tmp t=>exact h t (List.mem_append_left _ (List.mem_filterMap.2 ⟨.tmp t,by simpa using hx,rfl⟩))
  |_=>rfl
theorem getD_put {fr:Fr} {d:Option Tmp} {v:Value} {s:Nat} (h:d≠some s):(put fr d v).getD s undef=fr.getD s undef:=by
 cases d with
 |none=>rfl
 |some d=>
  have hne:d≠s:=fun e=>h (by rw [e])
  simp [put,List.getD_eq_getElem?_getD,List.getElem?_set_ne hne]
theorem getD_put_self {fr:Fr} {d:Nat} {v:Value} (h:d<fr.length):(put fr (some d) v).getD d undef=v:=by
 simp [put,List.getD_eq_getElem?_getD,h]
theorem length_put (fr:Fr) (d:Option Tmp) (v:Value):(put fr d v).length=fr.length:=by cases d<;>simp [put]
theorem findR_none {done:Nat}:∀(l:List Oper) (i:Nat),findR done l i=none→∀j o,l[j]? =some o→tb done (i+j)=false→rdy done o=true→isRd o.op=false:=by
 intro l
 induction l with
 |nil=>intro i _ j o h;simp at h
 |cons x l ih=>
  intro i h j o hj hd hr
  unfold findR at h
  split at h
  ·cases h
  ·rename_i hx
   cases j with
   |zero=>
    simp only [List.getElem?_cons_zero,Option.some.injEq] at hj
    subst hj
    simp only [Nat.add_zero] at hd
    simp only [hd,hr,Bool.not_false,Bool.true_and,Bool.and_true] at hx
    exact hx
   |succ j=>
    simp only [List.getElem?_cons_succ] at hj
    exact ih (i+1) h j o hj (by rw [←hd];congr 1;omega) hr
theorem findR_some {done:Nat}:∀(l:List Oper) (i:Nat) (k:Nat) (o:Oper),findR done l i=some (k,o)→∃j,k=i+j∧l[j]? =some o∧tb done k=false∧rdy done o=true∧isRd o.op=true:=by
 intro l
 induction l with
 |nil=>intro i k o h;cases h
 |cons x l ih=>
  intro i k o h
  unfold findR at h
  split at h
  ·rename_i hx
   simp only [Option.some.injEq,Prod.mk.injEq] at h
   obtain ⟨rfl,rfl⟩:=h
   simp only [Bool.and_eq_true,Bool.not_eq_true'] at hx
   exact ⟨0,rfl,rfl,hx.1,hx.2.2,hx.2.1⟩
  ·obtain ⟨j,e,h2⟩:=ih (i+1) k o h
   exact ⟨j+1,by omega,by simpa using h2⟩
theorem mem_noisy {done:Nat}:∀(l:List Oper) (i:Nat) (j:Nat) (o:Oper),l[j]? =some o→tb done (i+j)=false→rdy done o=true→isRd o.op=false→(i+j,o)∈noisy done l i:=by
 intro l
 induction l with
 |nil=>intro i j o h;simp at h
 |cons x l ih=>
  intro i j o hj hd hr hn
  unfold noisy
  cases j with
  |zero=>
   simp only [List.getElem?_cons_zero,Option.some.injEq] at hj
   subst hj
   simp only [Nat.add_zero] at hd ⊢
   simp only [hd,hr,hn,Bool.not_false,Bool.and_true]
   exact List.mem_cons_self
  |succ j=>
   simp only [List.getElem?_cons_succ] at hj
   have:=ih (i+1) j o hj (by rw [←hd];congr 1;omega) hr hn
   have e:i+1+j=i+(j+1):=by omega
   rw [e] at this
   split
   ·exact List.mem_cons_of_mem _ this
   ·exact this
theorem allN_mem {α:Type} {f:α→Prop}:∀(l:List α) (x:α),allN f x l→∀y∈x::l,f y:=by
 intro l
 induction l with
 |nil=>intro x h y hy;simp at hy;subst hy;exact h
 |cons z l ih=>
  intro x h y hy
  rcases List.mem_cons.1 hy with rfl|hy
  ·exact h.1
  ·exact ih z h.2 y hy
theorem mem_pend {done:Nat} {m:Nat}:∀(l:List Oper) (i:Nat) (j:Nat) (o:Oper),l[j]? =some o→tb done (i+j)=true→isRd o.op=true→free o.op=false→tb m (i+j)=false→o∈pend done m l i:=by
 intro l
 induction l with
 |nil=>intro i j o h;simp at h
 |cons x l ih=>
  intro i j o hj hd hr hf hm
  unfold pend
  cases j with
  |zero=>
   simp only [List.getElem?_cons_zero,Option.some.injEq] at hj
   subst hj
   simp only [Nat.add_zero] at hd hm
   simp only [hd,hr,hf,hm,Bool.not_false,Bool.and_true]
   exact List.mem_cons_self
  |succ j=>
   simp only [List.getElem?_cons_succ] at hj
   have e:i+1+j=i+(j+1):=by omega
   have:=ih (i+1) j o hj (by rw [e];exact hd) hr hf (by rw [e];exact hm)
   split
   ·exact List.mem_cons_of_mem _ this
   ·exact this
theorem recheck_spec {P:Program} {ops:List Oper} {fr:Fr} {w:World} {X:Prop}:∀(l:List Oper),recheck P ops l fr w X→X∧∀o∈l,wantB ops o fr=true→agS P o.op o.type (evO fr) w (dstV o fr):=by
 intro l
 induction l with
 |nil=>intro h;exact ⟨h,fun o ho=>by cases ho⟩
 |cons x l ih=>
  intro h
  unfold recheck at h
  obtain ⟨h1,h2⟩:=h
  obtain ⟨hX,hl⟩:=ih h2
  refine ⟨hX,fun o ho hw=> ?_⟩
  rcases List.mem_cons.1 ho with rfl|ho
  ·unfold wantB at hw
   cases hg:o.guard with
   |none=>rw [hg] at h1;exact h1
   |some g=>
    obtain ⟨j,want⟩:=g
    rw [hg] at h1 hw
    simp only [gq] at h1
    simp only [isB] at hw
    cases hx:dstOf ops j fr<;>rw [hx] at h1 hw<;>simp at hw
    subst hw
    rename_i b
    cases b<;>exact h1
  ·exact hl o ho hw
theorem count_set_true:∀(l:List Bool) (i:Nat),i<l.length→l.getD i false=false→(l.set i true).count false+1=l.count false:=by
 intro l
 induction l with
 |nil=>intro i h;simp at h
 |cons x l ih=>
  intro i h hx
  cases i with
  |zero=>simp at hx;subst hx;simp
  |succ i=>
   simp at h hx
   have:=ih i h (by simpa using hx)
   simp only [List.set_cons_succ,List.count_cons]
   omega
theorem getD_of_count_zero:∀(l:List Bool),l.count false=0→∀i,i<l.length→l.getD i false=true:=by
 intro l
 induction l with
 |nil=>intro _ i h;simp at h
 |cons x l ih=>
  intro h i hi
  cases x with
  |false=>simp at h
  |true=>
   cases i with
   |zero=>simp
   |succ i=>simp at hi h;simpa using ih (by simpa using h) i hi
theorem countP_single {p q:Nat→Bool} {i:Nat} (hpi:p i=true) (hqi:q i=false) (h:∀j,j≠i→p j=q j):∀(n:Nat),i<n→(List.range n).countP q+1=(List.range n).countP p:=by
 have low:∀n,n≤i→(List.range n).countP q=(List.range n).countP p:=by
  intro n hn
  refine List.countP_congr fun j hj=> ?_
  rw [List.mem_range] at hj
  rw [h j (by omega)]
 intro n
 induction n with
 |zero=>intro h;omega
 |succ n ih=>
  intro hi
  rw [List.range_succ,List.countP_append,List.countP_append]
  by_cases e:i=n
  ·subst e;rw [low i (Nat.le_refl _)];simp [hpi,hqi]
  ·have:=ih (by omega);simp only [List.countP_singleton];rw [h n (fun e'=>e e'.symm)];omega
theorem undone_sb {done i n:Nat} (hi:i<n) (h:tb done i=false):undone (sb done i) n+1=undone done n:=by
 unfold undone
 refine countP_single (i:=i) (by simp [h]) (by simp [tb_sb]) (fun j hj=> ?_) n hi
 rw [tb_sb,if_neg (fun e=>hj e.symm)]
theorem tb_of_undone {done n:Nat} (h:undone done n=0) (i:Nat) (hi:i<n):tb done i=true:=by
 unfold undone at h
 rw [List.countP_eq_zero] at h
 have:=h i (List.mem_range.2 hi)
 simpa using this
theorem tb_zero (i:Nat):tb 0 i=false:=by rw [tb_eq];exact Nat.zero_testBit i
structure Inv (P:Program) (nt:Nat) (ops:List Oper) (listed:Array Bool) (frs:Fr) (done:Nat) (fr:Fr) (w:World):Prop where
 szL:listed.size=ops.length
 lenS:frs.length=nt
 len:fr.length=nt
 sub:∀i,listed.getD i false=true→tb done i=true
 dcL:∀i o e,ops[i]? =some o→listed.getD i false=true→e∈o.after.toList→bindsA e=true→listed.getD e.on false=true
 dcD:∀i o e,ops[i]? =some o→tb done i=true→e∈o.after.toList→bindsA e=true→tb done e.on=true
 only:∀i o,ops[i]? =some o→tb done i=true→listed.getD i false=false→isRd o.op=true∧(wantB ops o fr=true→yl P o (evO fr) w (dstV o fr))∧(wantB ops o fr=false→dstV o fr=undef)
 agree:∀s,(∀i o,ops[i]? =some o→tb done i=true→listed.getD i false=false→o.dst≠some s)→fr.getD s undef=frs.getD s undef
section
variable {P:Program} {nt:Nat} {ops:List Oper} {bef:List Nat}
theorem lt_of_get {k:Nat} {o:Oper} (hk:ops[k]? =some o):k<ops.length:=by
 rcases Nat.lt_or_ge k ops.length with h|h
 ·exact h
 ·rw [List.getElem?_eq_none h] at hk;cases hk
theorem anc_closed (hOk:regOk P nt ops bef=true) (S:Nat→Prop) (hS:∀i o e,ops[i]? =some o→S i→e∈o.after.toList→bindsA e=true→S e.on):
  ∀k o,ops[k]? =some o→(∀e∈o.after.toList,bindsA e=true→S e.on)→∀i,i<ops.length→tb (bef.getD k 0) i=true→S i:=by
 intro k
 induction k using Nat.strongRecOn with
 |_ k ih=>
  intro o hk hp i hi ht
  have F:=facts_of_regOk hOk hk
  obtain ⟨e,he,hb,h⟩:=F.anc i hi ht
  rcases h with rfl|h
  ·exact hp e he hb
  ·have hlt:=F.back e he hb
   have hel:e.on<ops.length:=Nat.lt_trans hlt (lt_of_get hk)
   have ho:ops[e.on]? =some ops[e.on]:=List.getElem?_eq_getElem hel
   exact ih e.on hlt _ ho (fun e' he' hb'=>hS e.on _ e' ho (hp e he hb) he' hb') i hi h
theorem dst_lt (hOk:regOk P nt ops bef=true) {k:Nat} {o:Oper} (hk:ops[k]? =some o) {d:Nat} (hd:o.dst=some d):d<nt:=by
 have:=(facts_of_regOk hOk hk).self
 simp only [selfOk,hd,Bool.and_eq_true] at this
 have:=this.1
 rwa [Nat.blt_eq] at this
theorem dstV_put (hOk:regOk P nt ops bef=true) {k:Nat} {o:Oper} (hk:ops[k]? =some o) (hr:isRd o.op=true) {fr:Fr} (hl:fr.length=nt) (v:Value):dstV o (put fr o.dst v)=v:=by
 unfold dstV
 cases hd:o.dst with
 |none=>have:=(facts_of_regOk hOk hk).self;simp [selfOk,hd,hr] at this
 |some d=>exact getD_put_self (by rw [hl];exact dst_lt hOk hk hd)
theorem Inv.read (hOk:regOk P nt ops bef=true) {listed:Array Bool} {frs:Fr} {done:Nat} {fr:Fr} {w:World} (I:Inv P nt ops listed frs done fr w) {k:Nat} {o:Oper} (hk:ops[k]? =some o) (hd:tb done k=false) (hr:rdy done o=true) (hrd:isRd o.op=true)
  {v:Value} (hy:wantB ops o fr=true→yl P o (evO fr) w v) (hn:wantB ops o fr=false→v=undef):Inv P nt ops listed frs (sb done k) (put fr o.dst v) w:=by
 have hkl:=lt_of_get hk
 have F:=facts_of_regOk hOk hk
 have hpre:∀e∈o.after.toList,bindsA e=true→tb done e.on=true:=by
  intro e he hb
  have:=List.all_eq_true.1 hr e he
  simpa [hb] using this
 have hLk:listed.getD k false=false:=by
  cases h:listed.getD k false with
  |false=>rfl
  |true=>rw [I.sub k h] at hd;cases hd
 have hself:∀s∈looks ops o,o.dst≠some s:=by
  intro s hs e
  have:=F.self
  simp only [selfOk,e,Bool.and_eq_true,hrd,Bool.not_true,Bool.false_or,Bool.not_eq_true'] at this
  have h2:=this.2
  rw [List.contains_iff_mem.2 hs] at h2
  cases h2
 have hother:∀j p,ops[j]? =some p→tb done j=true→p.dst≠o.dst∧∀s∈looks ops p,o.dst≠some s:=by
  intro j p hj hdj
  have hne:j≠k:=fun e=>by subst e;rw [hdj] at hd;cases hd
  have hp:=F.pair j p hj
  cases hdst:o.dst with
  |none=>have:=F.self;simp [selfOk,hdst,hrd] at this
  |some d=>
   simp only [pairOk,hdst,hrd,Bool.or_eq_true,Bool.and_eq_true,Bool.not_eq_true'] at hp
   rcases hp with hp|⟨hp1,hp2⟩
   ·exact absurd (Nat.eq_of_beq_eq_true hp) hne
   ·refine ⟨fun e=>by rw [e] at hp1;simp at hp1,fun s hs e=> ?_⟩
    simp only [Option.some.injEq] at e
    subst e
    rcases hp2 with hp2|hp2
    ·rw [List.contains_iff_mem.2 hs] at hp2;cases hp2
    ·have:=anc_closed hOk (fun i=>tb done i=true) I.dcD j p hj (fun e he hb=>I.dcD j p e hj hdj he hb) k hkl hp2
     rw [this] at hd;cases hd
 have hset:∀j,tb (sb done k) j=if k=j then true else tb done j:=fun j=>tb_sb done k j
 refine ⟨I.szL,I.lenS,by rw [length_put];exact I.len,?_,I.dcL,?_,?_,?_⟩
 ·intro i hi
  rw [hset];split
  ·rfl
  ·exact I.sub i hi
 ·intro i p e hi hdi he hb
  rw [hset] at hdi ⊢
  split
  ·rfl
  ·split at hdi
   ·rename_i e1;subst e1
    rw [hk] at hi;cases hi
    exact hpre e he hb
   ·exact I.dcD i p e hi hdi he hb
 ·intro i p hi hdi hli
  rw [hset] at hdi
  split at hdi
  ·rename_i e1;subst e1
   rw [hk] at hi;cases hi
   have hs:=looks_same (ops:=ops) (o:=o) (fr:=put fr o.dst v) (fr':=fr) (fun s hs=>getD_put (hself s hs))
   refine ⟨hrd,fun hw=> ?_,fun hw=> ?_⟩
   ·rw [dstV_put hOk hk hrd I.len]
    rw [hs.1] at hw
    unfold yl;rw [hs.2 F.sel];exact hy hw
   ·rw [dstV_put hOk hk hrd I.len]
    rw [hs.1] at hw;exact hn hw
  ·obtain ⟨ho1,ho2⟩:=hother i p hi hdi
   have hs:=looks_same (ops:=ops) (o:=p) (fr:=put fr o.dst v) (fr':=fr) (fun s hs=>getD_put (ho2 s hs))
   have hv:dstV p (put fr o.dst v)=dstV p fr:=by
    unfold dstV
    cases hpd:p.dst with
    |none=>rfl
    |some d=>exact getD_put (fun e=>ho1 (by rw [hpd,e]))
   obtain ⟨b1,b2,b3⟩:=I.only i p hi hdi hli
   refine ⟨b1,fun hw=> ?_,fun hw=> ?_⟩
   ·rw [hs.1] at hw;rw [hv];unfold yl;rw [hs.2 (facts_of_regOk hOk hi).sel];exact b2 hw
   ·rw [hs.1] at hw;rw [hv];exact b3 hw
 ·intro s hs
  have h1:=hs k o hk (by rw [hset,if_pos rfl]) hLk
  rw [getD_put h1]
  exact I.agree s (fun i p hi hdi hli=>hs i p hi (by rw [hset];split;exact rfl;exact hdi) hli)
theorem Inv.catch (hOk:regOk P nt ops bef=true) {listed:Array Bool} {frs:Fr} {done:Nat} {fr:Fr} {w:World} (I:Inv P nt ops listed frs done fr w) {k:Nat} {o:Oper} (hk:ops[k]? =some o) (hd:tb done k=true)
  (hp:∀e∈o.after.toList,bindsA e=true→listed.getD e.on false=true) {v:Value} (hv:dstV o fr=v):Inv P nt ops (listed.setIfInBounds k true) (put frs o.dst v) done fr w:=by
 have hkl:=lt_of_get hk
 have hset:∀j,(listed.setIfInBounds k true).getD j false=if k=j then true else listed.getD j false:=by
  intro j
  have hk':k<listed.size:=by rw [I.szL];exact hkl
  by_cases e:k=j
  ·subst e;simp [Array.getD_eq_getD_getElem?,hk']
  ·simp [Array.getD_eq_getD_getElem?,e]
 refine ⟨by simp [I.szL],by rw [length_put];exact I.lenS,I.len,?_,?_,I.dcD,?_,?_⟩
 ·intro i hi
  rw [hset] at hi
  split at hi
  ·rename_i e;subst e;exact hd
  ·exact I.sub i hi
 ·intro i p e hi hli he hb
  rw [hset] at hli ⊢
  split
  ·rfl
  ·split at hli
   ·rename_i e1;subst e1
    rw [hk] at hi;cases hi
    exact hp e he hb
   ·exact I.dcL i p e hi hli he hb
 ·intro i p hi hdi hli
  rw [hset] at hli
  split at hli
  ·cases hli
  ·exact I.only i p hi hdi hli
 ·intro s hs
  by_cases e:o.dst=some s
  ·rw [e]
   rw [getD_put_self (by rw [I.lenS];exact dst_lt hOk hk e)]
   rw [←hv];unfold dstV;rw [e]
  ·rw [getD_put e]
   refine I.agree s (fun i p hi hdi hli=> ?_)
   by_cases e1:k=i
   ·subst e1;rw [hk] at hi;cases hi;exact e
   ·exact hs i p hi hdi (by rw [hset,if_neg e1];exact hli)
theorem Inv.act (hOk:regOk P nt ops bef=true) {listed:Array Bool} {frs:Fr} {done:Nat} {fr:Fr} {w:World} (I:Inv P nt ops listed frs done fr w) {k:Nat} {o:Oper} (hk:ops[k]? =some o) (hd:tb done k=false) (hrd:isRd o.op=false)
  (hp:∀e∈o.after.toList,bindsA e=true→listed.getD e.on false=true) {v:Value} {w':World}
  (hag:∀p∈pend done (bef.getD k 0) ops 0,wantB ops p (put fr o.dst v)=true→agS P p.op p.type (evO (put fr o.dst v)) w' (dstV p (put fr o.dst v))):
  Inv P nt ops (listed.setIfInBounds k true) (put frs o.dst v) (sb done k) (put fr o.dst v) w':=by
 have hkl:=lt_of_get hk
 have F:=facts_of_regOk hOk hk
 have hsetD:∀j,tb (sb done k) j=if k=j then true else tb done j:=fun j=>tb_sb done k j
 have hsetL:∀j,(listed.setIfInBounds k true).getD j false=if k=j then true else listed.getD j false:=by
  intro j
  have hk':k<listed.size:=by rw [I.szL];exact hkl
  by_cases e:k=j
  ·subst e;simp [Array.getD_eq_getD_getElem?,hk']
  ·simp [Array.getD_eq_getD_getElem?,e]
 have hnot:∀j p,ops[j]? =some p→tb done j=true→listed.getD j false=false→tb (bef.getD k 0) j=false:=by
  intro j p hj hdj hlj
  cases ht:tb (bef.getD k 0) j with
  |false=>rfl
  |true=>
   have:=anc_closed hOk (fun i=>listed.getD i false=true) I.dcL k o hk hp j (lt_of_get hj) ht
   rw [this] at hlj;cases hlj
 have hother:∀j p,ops[j]? =some p→tb done j=true→listed.getD j false=false→(o.dst≠none→p.dst≠o.dst)∧∀s∈looks ops p,o.dst≠some s:=by
  intro j p hj hdj hlj
  have hne:j≠k:=fun e=>by subst e;rw [hdj] at hd;cases hd
  have hp':=F.pair j p hj
  cases hdst:o.dst with
  |none=>exact ⟨fun h=>absurd rfl h,fun s _ e=>by cases e⟩
  |some d=>
   simp only [pairOk,hdst,hrd,Bool.or_eq_true,Bool.and_eq_true,Bool.not_eq_true'] at hp'
   rcases hp' with hp'|⟨hp1,hp2⟩|hp'|hp'
   ·exact absurd (Nat.eq_of_beq_eq_true hp') hne
   ·refine ⟨fun _ e=>by rw [e] at hp1;simp at hp1,fun s hs e=> ?_⟩
    simp only [Option.some.injEq] at e
    subst e
    rw [List.contains_iff_mem.2 hs] at hp2;cases hp2
   ·have:=anc_closed hOk (fun i=>tb done i=true) I.dcD j p hj (fun e he hb=>I.dcD j p e hj hdj he hb) k hkl hp'
    rw [this] at hd;cases hd
   ·rw [hnot j p hj hdj hlj] at hp';cases hp'
 refine ⟨by simp [I.szL],by rw [length_put];exact I.lenS,by rw [length_put];exact I.len,?_,?_,?_,?_,?_⟩
 ·intro i hi
  rw [hsetD];rw [hsetL] at hi
  split
  ·rfl
  ·rename_i e;rw [if_neg e] at hi;exact I.sub i hi
 ·intro i p e hi hli he hb
  rw [hsetL] at hli ⊢
  split
  ·rfl
  ·split at hli
   ·rename_i e1;subst e1
    rw [hk] at hi;cases hi
    exact hp e he hb
   ·exact I.dcL i p e hi hli he hb
 ·intro i p e hi hdi he hb
  rw [hsetD] at hdi ⊢
  split
  ·rfl
  ·split at hdi
   ·rename_i e1;subst e1
    rw [hk] at hi;cases hi
    exact I.sub _ (hp e he hb)
   ·exact I.dcD i p e hi hdi he hb
 ·intro i p hi hdi hli
  rw [hsetD] at hdi
  rw [hsetL] at hli
  split at hli
  ·cases hli
  ·rename_i e1
   rw [if_neg e1] at hdi
   obtain ⟨ho1,ho2⟩:=hother i p hi hdi hli
   have hs:=looks_same (ops:=ops) (o:=p) (fr:=put fr o.dst v) (fr':=fr) (fun s hs=>getD_put (ho2 s hs))
   have hv:dstV p (put fr o.dst v)=dstV p fr:=by
    unfold dstV
    cases hpd:p.dst with
    |none=>rfl
    |some d=>
     refine getD_put (fun e=> ?_)
     exact ho1 (by rw [e];simp) (by rw [hpd,e])
   obtain ⟨b1,b2,b3⟩:=I.only i p hi hdi hli
   refine ⟨b1,fun hw=> ?_,fun hw=> ?_⟩
   ·have hy:yl P p (evO (put fr o.dst v)) w (dstV p (put fr o.dst v)):=by
     rw [hv];unfold yl;rw [hs.2 (facts_of_regOk hOk hi).sel];exact b2 (by rw [←hs.1];exact hw)
    refine agS_sound b1 hy ?_
    cases hf:free p.op with
    |true=>exact .inl rfl
    |false=>exact .inr (hag p (mem_pend ops 0 i p hi (by simpa using hdi) b1 hf (by simpa using hnot i p hi hdi hli)) hw)
   ·rw [hv];exact b3 (by rw [←hs.1];exact hw)
 ·intro s hs
  by_cases e:o.dst=some s
  ·rw [e,getD_put_self (by rw [I.len];exact dst_lt hOk hk e),getD_put_self (by rw [I.lenS];exact dst_lt hOk hk e)]
  ·rw [getD_put e,getD_put e]
   refine I.agree s (fun i p hi hdi hli=> ?_)
   have hne:k≠i:=fun e1=>by subst e1;rw [hdi] at hd;cases hd
   exact hs i p hi (by rw [hsetD,if_neg hne];exact hdi) (by rw [hsetL,if_neg hne];exact hli)
theorem oneR_spec {o:Oper} {fr:Fr} {w:World} {k:Value→Prop} (h:oneR P ops o fr w k):∃v,(wantB ops o fr=true→yl P o (evO fr) w v)∧(wantB ops o fr=false→v=undef)∧k v:=by
 unfold oneR at h
 unfold wantB
 cases hg:o.guard with
 |none=>
  rw [hg] at h
  obtain ⟨v,h1,h2⟩:=rdS_sound h
  exact ⟨v,fun _=>h1,(fun h=>by cases h),h2⟩
 |some g=>
  obtain ⟨j,want⟩:=g
  rw [hg] at h
  simp only [gdR] at h
  simp only [isB]
  cases hx:dstOf ops j fr<;>rw [hx] at h<;>simp only at h ⊢
  case bool b=>
   cases b<;>cases want<;>simp only at h
   ·obtain ⟨v,h1,h2⟩:=rdS_sound h;exact ⟨v,fun _=>h1,(fun h=>by cases h),h2⟩
   ·exact ⟨undef,(fun h=>by cases h),fun _=>rfl,h⟩
   ·exact ⟨undef,(fun h=>by cases h),fun _=>rfl,h⟩
   ·obtain ⟨v,h1,h2⟩:=rdS_sound h;exact ⟨v,fun _=>h1,(fun h=>by cases h),h2⟩
  all_goals exact ⟨undef,(fun h=>by cases h),fun _=>rfl,h⟩
theorem regA_advance (hOk:regOk P nt ops bef=true) {k:KF} {listed:Array Bool} {frs:Fr} {w:World}:∀(n:Nat) (done:Nat) (fr:Fr),Inv P nt ops listed frs done fr w→undone done ops.length≤n→regA P ops bef k n done fr w→
  ∃n' done' fr',Inv P nt ops listed frs done' fr' w∧undone done' ops.length≤n'∧regA P ops bef k n' done' fr' w∧findR done' ops 0=none:=by
 intro n
 induction n with
 |zero=>
  intro done fr I hc h
  refine ⟨0,done,fr,I,hc,h,?_⟩
  cases hf:findR done ops 0 with
  |none=>rfl
  |some x=>
   obtain ⟨i,o⟩:=x
   obtain ⟨j,e,hj,hd,_⟩:=findR_some ops 0 i o hf
   have:=tb_of_undone (n:=ops.length) (done:=done) (by omega) i (by have:=lt_of_get hj;omega)
   rw [this] at hd;cases hd
 |succ n ih=>
  intro done fr I hc h
  cases hf:findR done ops 0 with
  |none=>exact ⟨n+1,done,fr,I,hc,h,hf⟩
  |some x=>
   obtain ⟨i,o⟩:=x
   obtain ⟨j,e,hj,hd,hr,hrd⟩:=findR_some ops 0 i o hf
   have e':i=j:=by omega
   subst e'
   unfold regA at h
   rw [hf] at h
   obtain ⟨v,h1,h2,h3⟩:=oneR_spec h
   have:=undone_sb (n:=ops.length) (lt_of_get hj) hd
   exact ih _ _ (I.read hOk hj hd hr hrd h1 h2) (by omega) h3
theorem mem_ready {listed:Array Bool} (hsz:listed.size=ops.length) {i:Nat} (h:i∈Region.ready .any ops.toArray listed):∃o,ops[i]? =some o∧listed.getD i false=false∧∀e∈o.after.toList,bindsA e=true→listed.getD e.on false=true:=by
 unfold Region.ready at h
 rw [List.mem_filter,List.mem_range] at h
 obtain ⟨hi,h⟩:=h
 simp only [List.size_toArray] at hi
 have ho:ops[i]? =some ops[i]:=List.getElem?_eq_getElem hi
 simp only [List.getElem?_toArray,ho,Option.map_some,Option.getD_some,Bool.and_eq_true,Bool.not_eq_true'] at h
 refine ⟨_,ho,?_,?_⟩
 ·have hi':i<listed.size:=by rw [hsz];exact hi
  have:=h.1
  simp only [Array.getD_eq_getD_getElem?,Array.getElem?_eq_getElem hi',Option.getD_some] at this ⊢
  exact this
 ·intro e he hb
  have:=(Array.all_eq_true_iff_forall_mem.1 h.2) e (by simpa using he)
  unfold bindsA at hb
  rw [hb] at this
  exact this
theorem all_listed (hOk:regOk P nt ops bef=true) {listed:Array Bool} (hsz:listed.size=ops.length) (h:Region.ready .any ops.toArray listed= []):∀i,i<ops.length→listed.getD i false=true:=by
 intro i
 induction i using Nat.strongRecOn with
 |_ i ih=>
  intro hi
  cases hl:listed.getD i false with
  |true=>rfl
  |false=>
   exfalso
   have ho:ops[i]? =some ops[i]:=List.getElem?_eq_getElem hi
   have F:=facts_of_regOk hOk ho
   have hm:i∈Region.ready .any ops.toArray listed:=by
    unfold Region.ready
    rw [List.mem_filter,List.mem_range]
    refine ⟨by simpa using hi,?_⟩
    have hi':i<listed.size:=by rw [hsz];exact hi
    simp only [List.getElem?_toArray,ho,Option.map_some,Option.getD_some,Bool.and_eq_true,Bool.not_eq_true']
    refine ⟨?_,?_⟩
    ·simp only [Array.getD_eq_getD_getElem?,Array.getElem?_eq_getElem hi',Option.getD_some] at hl ⊢
     exact hl
    ·refine Array.all_eq_true_iff_forall_mem.2 fun e he=> ?_
     have he':e∈(ops[i]).after.toList:=by simpa using he
     cases hb:Region.binds .any e with
     |false=>rfl
     |true=>
      have hlt:=F.back e he' hb
      simp [ih e.on hlt (Nat.lt_trans hlt hi)]
   rw [h] at hm;cases hm
theorem ext_getD {a b:Fr} (hl:a.length=b.length) (h:∀s,a.getD s undef=b.getD s undef):a=b:=by
 refine List.ext_getElem hl fun i h1 h2=> ?_
 have:=h i
 simpa [List.getD_eq_getElem?_getD,h1,h2] using this
theorem regA_end {k:KF} {listed:Array Bool} {frs:Fr} {w:World} {n:Nat} {done:Nat} {fr:Fr} (I:Inv P nt ops listed frs done fr w) (hl:∀i,i<ops.length→listed.getD i false=true) (h:regA P ops bef k n done fr w):k frs w:=by
 have hfr:fr=frs:=by
  refine ext_getD (by rw [I.len,I.lenS]) fun s=>I.agree s fun i o hi hdi hli=> ?_
  rw [hl i (lt_of_get hi)] at hli;cases hli
 subst hfr
 have hdone:∀i,i<ops.length→tb done i=true:=fun i hi=>I.sub i (hl i hi)
 cases n with
 |zero=>exact h
 |succ n=>
  unfold regA at h
  have hf:findR done ops 0=none:=by
   cases hf:findR done ops 0 with
   |none=>rfl
   |some x=>
    obtain ⟨i,o⟩:=x
    obtain ⟨j,e,hj,hd,_⟩:=findR_some ops 0 i o hf
    have:=hdone i (by have:=lt_of_get hj;omega)
    rw [this] at hd;cases hd
  rw [hf] at h
  have hn:noisy done ops 0= []:=by
   have key:∀(l:List Oper) (i:Nat),(∀j,j<l.length→tb done (i+j)=true)→noisy done l i= []:=by
    intro l
    induction l with
    |nil=>intro i _;rfl
    |cons x l ih=>
     intro i hh
     unfold noisy
     have h0:=hh 0 (by simp)
     simp only [Nat.add_zero] at h0
     simp only [h0,Bool.not_true,Bool.false_and]
     exact ih (i+1) (fun j hj=>by have:=hh (j+1) (by simpa using hj);rw [show i+1+j=i+(j+1) by omega];exact this)
   exact key ops 0 (fun j hj=>by simpa using hdone j hj)
  rw [hn] at h
  exact h
theorem regA_any {ro:Option Nat} {ds:List Deferred} (hOk:regOk P nt ops bef=true) {Q:Exit→Act→World→Prop} {k:KF} (hk:∀fr w,fr.length=nt→k fr w→Q .normal (actOf ds fr) w):
  ∀(m:Nat) (listed:Array Bool) (frs:Fr) (w:World) (n:Nat) (done:Nat) (fr:Fr),Inv P nt ops listed frs done fr w→undone done ops.length≤n→listed.toList.count false≤m→regA P ops bef k n done fr w→wpAnyIn (FW ro) 0 P .any ops.toArray Q m listed (actOf ds frs) w:=by
 intro m
 induction m with
 |zero=>
  intro listed frs w n done fr I hc hm h
  have hl:∀i,i<ops.length→listed.getD i false=true:=by
   intro i hi
   have:=getD_of_count_zero listed.toList (by omega) i (by simpa [I.szL] using hi)
   simpa [List.getD_eq_getElem?_getD,Array.getD_eq_getD_getElem?] using this
  refine ⟨?_,hk _ _ I.lenS (regA_end I hl h)⟩
  cases hr:Region.ready .any ops.toArray listed with
  |nil=>rfl
  |cons i l=>
   obtain ⟨o,ho,hli,_⟩:=mem_ready I.szL (i:=i) (by rw [hr];exact List.mem_cons_self)
   rw [hl i (lt_of_get ho)] at hli;cases hli
 |succ m ih=>
  intro listed frs w n0 done0 fr0 I0 hc0 hm h0
  obtain ⟨n,done,fr,I,hc,h,hf⟩:=regA_advance hOk n0 done0 fr0 I0 hc0 h0
  refine ⟨fun hr=>hk _ _ I.lenS (regA_end I (all_listed hOk I.szL hr) h),fun i hi=> ?_⟩
  obtain ⟨o,ho,hli,hp⟩:=mem_ready I.szL hi
  have F:=facts_of_regOk hOk ho
  have hil:=lt_of_get ho
  have hcnt:(listed.setIfInBounds i true).toList.count false≤m:=by
   have:=count_set_true listed.toList i (by simpa [I.szL] using hil) (by simpa [List.getD_eq_getElem?_getD,Array.getD_eq_getD_getElem?] using hli)
   simp only [Array.toList_setIfInBounds]
   omega
  unfold wpOpIn
  simp only [List.getElem?_toArray,ho]
  rw [wanted_eq]
  have hag:∀s∈looks ops o,fr.getD s undef=frs.getD s undef:=by
   intro s hs
   refine I.agree s fun j p hj hdj hlj e=> ?_
   have hrd:=(I.only j p hj hdj hlj).1
   have hne:i≠j:=by
    intro e1;subst e1;rw [ho] at hj;cases hj
    have:=F.self
    simp only [selfOk,e,hrd,Bool.not_true,Bool.false_or,Bool.and_eq_true,Bool.not_eq_true'] at this
    have h2:=this.2
    rw [List.contains_iff_mem.2 hs] at h2
    cases h2
   have:=(facts_of_regOk hOk hj).pair i o ho
   simp only [pairOk,e,hrd,Bool.or_eq_true,Bool.and_eq_true,Bool.not_eq_true'] at this
   rcases this with this|⟨_,this⟩
   ·exact hne (Nat.eq_of_beq_eq_true this)
   ·rcases this with this|this
    ·rw [List.contains_iff_mem.2 hs] at this;cases this
    ·have:=anc_closed hOk (fun i=>listed.getD i false=true) I.dcL i o ho hp j (lt_of_get hj) this
     rw [this] at hlj;cases hlj
  have hsame:=looks_same hag
  rw [←hsame.1]
  cases hd:tb done i with
  |true=>
   obtain ⟨b1,b2,b3⟩:=I.only i o ho hd hli
   cases hw:wantB ops o fr with
   |true=>
    rw [if_pos rfl]
    refine ⟨fun _ _=>trivial,?_⟩
    have hy:=b2 hw
    unfold yl at hy
    rw [hsame.2 F.sel] at hy
    rw [eval_actOf,Oper.semAt_eq _ _ _ (fun c e=>by rw [e] at b1;cases b1),hy,Oper.uponIn_value,put_actOf]
    exact ih _ _ _ _ _ _ (I.catch hOk ho hd hp rfl) hc hcnt h
   |false=>
    rw [if_neg (by simp),put_actOf]
    exact ⟨fun _ _=>trivial,ih _ _ _ _ _ _ (I.catch hOk ho hd hp (b3 hw)) hc hcnt h⟩
  |false=>
   have hrdy:rdy done o=true:=by
    refine List.all_eq_true.2 fun e he=> ?_
    cases hb:bindsA e with
    |false=>rfl
    |true=>rw [I.sub _ (hp e he hb)];rfl
   have hrd:=findR_none ops 0 hf i o ho (by simpa using hd) hrdy
   have hmem:=mem_noisy ops 0 i o ho (by simpa using hd) hrdy hrd
   simp only [Nat.zero_add] at hmem
   have hcd:=undone_sb (n:=ops.length) hil hd
   cases n with
   |zero=>omega
   |succ n=>
    unfold regA at h
    rw [hf] at h
    have h2:oneS P ops o fr w (fun v w'=>recheck P ops (pend done (bef.getD i 0) ops 0) (put fr o.dst v) w' (regA P ops bef k n (sb done i) (put fr o.dst v) w')):=by
     cases hn:noisy done ops 0 with
     |nil=>rw [hn] at hmem;cases hmem
     |cons x l=>
      rw [hn] at h hmem
      exact allN_mem l x h (i,o) hmem
    have step:∀v w',recheck P ops (pend done (bef.getD i 0) ops 0) (put fr o.dst v) w' (regA P ops bef k n (sb done i) (put fr o.dst v) w')→wpAnyIn (FW ro) 0 P .any ops.toArray Q m (listed.setIfInBounds i true) (actOf ds (put frs o.dst v)) w':=by
     intro v w' hre
     obtain ⟨h3,h4⟩:=recheck_spec _ hre
     exact ih _ _ _ _ _ _ (I.act hOk ho hd hrd hp h4) (by omega) hcnt h3
    cases hw:wantB ops o fr with
    |true=>
     rw [if_pos rfl]
     refine ⟨fun _ _=>trivial,?_⟩
     have h5:=opS_sound (evO_func fr) F.ok (oneS_yes h2 hw)
     rw [hsame.2 F.sel] at h5
     rw [eval_actOf,Oper.semAt_eq _ _ _ (fun c e=>by have h6:=oneS_yes h2 hw;rw [e] at h6;exact h6.elim)]
     exact uponIn_of_stN h5 step
    |false=>
     rw [if_neg (by simp),put_actOf]
     exact ⟨fun _ _=>trivial,step _ _ (oneS_no h2 hw)⟩
theorem regA_sound {ro:Option Nat} {ds:List Deferred} (hOk:regOk P nt ops bef=true) (hm:P.follows .mixedOrders=true) {Q:Exit→Act→World→Prop} {k:KF} (hk:∀fr w,fr.length=nt→k fr w→Q .normal (actOf ds fr) w) {id:Nat} {fr:Fr} {w:World} (hl:fr.length=nt)
  (h:regA P ops bef k ops.length 0 fr w.drew):(Code.region id ops.toArray true).wpIn (FW ro) 0 P Q (actOf ds fr) w:=by
 refine wpIn_region_any hm ?_
 have hr:∀i,(Array.replicate ops.length false).getD i false=false:=fun i=>by
  simp only [Array.getD_eq_getD_getElem?,Array.getElem?_replicate];split<;>rfl
 refine regA_any hOk hk _ _ _ _ ops.length 0 fr ⟨by simp,hl,hl,?_,?_,?_,?_,?_⟩ (by unfold undone;exact Nat.le_trans List.countP_le_length (by simp)) (by simp) h
 ·intro i h;simp only [List.size_toArray,hr] at h;cases h
 ·intro i o e _ h;simp only [List.size_toArray,hr] at h;cases h
 ·intro i o e _ h;rw [tb_zero] at h;cases h
 ·intro i o _ h;rw [tb_zero] at h;cases h
 ·intro s _;rfl
end
def cndS (x:Value) (A B:Prop):Prop:=
 match x with
 | .bool true=>A
 | .bool false=>B
 |_=>False
def loopS (body:KF→KF) (fr:Fr) (w:World):Prop:=
 ∃(I:KF) (μ:Fr→World→Nat),I fr w∧∀fr w,I fr w→body (fun fr' w'=>I fr' w'∧μ fr' w'<μ fr w) fr w
def exB (id:Nat) (k:KF) (e:Nat→KF) (j:Nat):KF:=
 match Nat.beq j id with
 |true=>k
 |false=>e j
def codeS (P:Program):Code→KF→KF→(Nat→KF)→KF
 | .skip,k,_,_,fr,w=>k fr w
 | .region _ ops d,k,_,_,fr,w=>match d with
  |false=>regT P ops.toList ops.toList k fr w
  |true=>regA P ops.toList (befOf ops.toList []) k ops.toList.length 0 fr w.drew
 | .seq a b,k,r,e,fr,w=>codeS P a (fun fr w=>codeS P b k r e fr w) r e fr w
 | .cond c x y,k,r,e,fr,w=>cndS (evO fr c) (codeS P x k r e fr w) (codeS P y k r e fr w)
 | .block id c,k,r,e,fr,w=>codeS P c k r (exB id k e) fr w
 | .loop c,_,r,e,fr,w=>loopS (fun E fr w=>codeS P c E r e fr w) fr w
 | .exit id,_,_,e,fr,w=>e id fr w
 | .ret,_,r,_,fr,w=>r fr w
 |_,_,_,_,_,_=>False
def codeOk (P:Program) (nt:Nat):Code→Bool
 | .region _ ops d=>match d with
  |false=>ops.toList.all fun o=>opOk P o.op
  |true=>regOk P nt ops.toList (befOf ops.toList [])
 | .seq a b=>codeOk P nt a&&codeOk P nt b
 | .cond _ a b=>codeOk P nt a&&codeOk P nt b
 | .block _ c=>codeOk P nt c
 | .loop c=>codeOk P nt c
 |_=>true
theorem codeS_sound {P:Program} {ro:Option Nat} {ds:List Deferred} {nt:Nat} (hm:P.follows .mixedOrders=true):∀(c:Code) {Q:Exit→Act→World→Prop} {k r:KF} {e:Nat→KF},codeOk P nt c=true→
  (∀fr w,fr.length=nt→k fr w→Q .normal (actOf ds fr) w)→(∀fr w,fr.length=nt→r fr w→Q .ret (actOf ds fr) w)→(∀j fr w,fr.length=nt→e j fr w→Q (.exit j) (actOf ds fr) w)→
  ∀(fr:Fr) (w:World),fr.length=nt→codeS P c k r e fr w→c.wpIn (FW ro) 0 P Q (actOf ds fr) w:=by
 intro c
 induction c with
 |skip=>intro Q k r e _ hk _ _ fr w hl h;exact wpIn_skip (hk _ _ hl h)
 |region id ops d=>
  intro Q k r e hok hk _ _ fr w hl h
  cases d with
  |false=>
   refine wpIn_region_list ?_
   have:=regT_sound (ro:=ro) (ds:=ds) (P:=P) (ops:=ops.toList) (Q:=Q) hk ops.toList fr w hl hok h
   simpa using this
  |true=>
   have:=regA_sound (ro:=ro) (ds:=ds) (P:=P) (id:=id) hok hm hk hl h
   simpa using this
 |seq a b iha ihb=>
  intro Q k r e hok hk hr he fr w hl h
  simp only [codeOk,Bool.and_eq_true] at hok
  refine wpIn_seq (iha hok.1 ?_ ?_ ?_ fr w hl h)
  ·intro fr w hl h;exact ihb hok.2 hk hr he fr w hl h
  ·intro fr w hl h;exact hr fr w hl h
  ·intro j fr w hl h;exact he j fr w hl h
 |cond c x y ihx ihy=>
  intro Q k r e hok hk hr he fr w hl h
  simp only [codeOk,Bool.and_eq_true] at hok
  simp only [codeS,cndS] at h
  have hc:(actOf ds fr).eval c=evO fr c:=by rw [eval_actOf]
  split at h
  ·rename_i hx;exact wpIn_cond_true (by rw [hc,hx]) (ihx hok.1 hk hr he fr w hl h)
  ·rename_i hx;exact wpIn_cond_false (by rw [hc,hx]) (ihy hok.2 hk hr he fr w hl h)
  ·exact h.elim
 |block id c ih=>
  intro Q k r e hok hk hr he fr w hl h
  refine wpIn_block (ih hok ?_ ?_ ?_ fr w hl h)
  ·intro fr w hl h;exact hk fr w hl h
  ·intro fr w hl h;exact hr fr w hl h
  ·intro j fr w hl h
   unfold exB at h
   simp only [Exit.inBlock]
   cases hj:Nat.beq j id with
   |true=>rw [hj] at h;rw [if_pos (Nat.eq_of_beq_eq_true hj)];exact hk fr w hl h
   |false=>rw [hj] at h;rw [if_neg (Nat.ne_of_beq_eq_false hj)];exact he j fr w hl h
 |loop c ih=>
  intro Q k r e hok hk hr he fr w hl h
  obtain ⟨I,μ,h0,hround⟩:=h
  refine wpIn_loop (fun a w=>∃fr,a=actOf ds fr∧fr.length=nt∧I fr w) (fun a w=>μ a.tmps.toList w) ⟨fr,rfl,hl,h0⟩ ?_
  rintro a w ⟨fr,rfl,hl,hI⟩
  refine ih hok ?_ ?_ ?_ fr w hl (hround fr w hI)
  ·intro fr' w' hl' h';exact ⟨⟨fr',rfl,hl',h'.1⟩,by simpa [actOf] using h'.2⟩
  ·intro fr w hl h;exact hr fr w hl h
  ·intro j fr w hl h;exact he j fr w hl h
 |exit id=>intro Q k r e _ _ _ he fr w hl h;exact wpIn_exit (he _ _ _ hl h)
 |ret=>intro Q k r e _ _ hr _ fr w hl h;exact wpIn_ret (hr _ _ hl h)
 |_=>intro Q k r e _ _ _ _ fr w _ h;exact h.elim
def cellV (t:TypeId) (x:Value):Sem Value:=do loadVar t (←asAddr x)
def resV (P:Program):List ResultVar→Fr→World→(List Value→Prop)→Prop
 | [],_,_,k=>k []
 | .tmp t::rs,fr,w,k=>resV P rs fr w (fun vs=>k (fr.getD t undef::vs))
 | .cell a t::rs,fr,w,k=>ldR P t (fr.getD a undef) w (fun v=>resV P rs fr w (fun vs=>k (v::vs)))
def oneV (vs:List Value):Value:=
 match vs with
 | [v]=>v
 |vs=> .tuple vs.toArray
def endK (P:Program) (rs:List ResultVar) (K:K1):KF:=fun fr w=>resV P rs fr w (fun vs=>K (oneV vs) w)
def resOne (tmps:Array Value):ResultVar→Sem Value
 | .tmp t=>pure (tmps.getD t undef)
 | .cell a t=>cellV t (tmps.getD a undef)
theorem results_eq (fn:Func) (tmps:Array Value):results fn tmps=(do
  let vs ←fn.results.mapM (resOne tmps)
  pure (if h:vs.size=1 then vs[0] else .tuple vs)):=by
 have e:(fun| .tmp t=>pure (tmps.getD t undef)| .cell a t=>do loadVar t (←asAddr (tmps.getD a undef)):ResultVar→Sem Value)=resOne tmps:=by
  funext x;cases x<;>rfl
 rw [←e];rfl
theorem resV_run {P:Program} {w:World} {fr:Fr}:∀(rs:List ResultVar) (k:List Value→Prop),resV P rs fr w k→∃vs,k vs∧(rs.mapM (resOne fr.toArray)).run P w= .ok vs w:=by
 intro rs
 induction rs with
 |nil=>intro k h;exact ⟨[],h,rfl⟩
 |cons x rs ih=>
  intro k h
  have hg:∀t,fr.toArray.getD t undef=fr.getD t undef:=fun t=>by simp [Array.getD_eq_getD_getElem?,List.getD_eq_getElem?_getD]
  cases x with
  |tmp t=>
   obtain ⟨vs,h1,h2⟩:=ih _ h
   refine ⟨_,h1,?_⟩
   have hr':(resOne fr.toArray (.tmp t)).run P w= .ok (fr.getD t undef) w:=by simp only [resOne,hg,Sem.run_pure]
   rw [List.mapM_cons,Sem.run_bind,hr',Result.andThen_ok,Sem.run_bind,h2]
   rfl
  |cell a t=>
   simp only [resV,ldR,oE] at h
   split at h
   ·rename_i v hr
    obtain ⟨vs,h1,h2⟩:=ih _ h
    refine ⟨_,h1,?_⟩
    have hr':(resOne fr.toArray (.cell a t)).run P w= .ok v w:=by
     simp only [resOne,hg]
     have:=ldO_run hr
     cases hx:fr.getD a undef with
     |pointer p=>rw [hx] at hr this;cases p with
      |none=>cases hr
      |some p=>exact this
     |_=>rw [hx] at hr;cases hr
    rw [List.mapM_cons,Sem.run_bind,hr',Result.andThen_ok,Sem.run_bind,h2]
    rfl
   ·exact h.elim
theorem results_of_resV {ds:List Deferred} {P:Program} {fn:Func} {rs:List ResultVar} (hrs:fn.results=rs.toArray) {w:World} {fr:Fr} {K:K1} (h:endK P rs K fr w):∃v,(results fn (actOf ds fr).tmps).run P w= .ok v w∧K v w:=by
 obtain ⟨vs,h1,h2⟩:=resV_run rs _ h
 refine ⟨oneV vs,?_,h1⟩
 rw [results_eq,Sem.run_bind,hrs,List.mapM_toArray,Sem.run_map]
 unfold actOf
 rw [h2]
 simp only [Result.andThen_ok,Sem.run_pure]
 congr 1
 cases vs with
 |nil=>rfl
 |cons v l=>cases l<;>simp [oneV]
theorem calls_of_codeS {P:Program} (hm:P.follows .mixedOrders=true) {f:FuncId} {fn:Func} {c:Code} {nt:Nat} {rs:List ResultVar} (hf:P.funcs[f]? =some fn) (hb:fn.body=some c) (hn:fn.ntmps=nt) (hrs:fn.results=rs.toArray) (hok:codeOk P nt c=true)
  {args:List Value} {w:World} {K:K1} (hl:args.length≤nt) (h:codeS P c (endK P rs K) (endK P rs K) (fun _ _ _=>False) (args++List.replicate (nt-args.length) undef) w):callS P f args.toArray w K:=by
 refine calls_of_wp hf hb ?_
 have e:({tmps:=args.toArray++Array.replicate (fn.ntmps-args.toArray.size) undef,defers:= []}:Act)=actOf [] (args++List.replicate (nt-args.length) undef):=by
  simp [actOf,hn]
 rw [e]
 have post:∀fr w,endK P rs K fr w→∃v,(results fn (actOf [] fr).tmps).run P w= .ok v w∧retK K (.returned v) w:=fun fr w h=>results_of_resV hrs h
 refine wpIn_wide.1 (codeS_sound (ro:=none) hm c hok ?_ ?_ ?_ _ w (by simp;omega) h)
 ·intro fr w _ h;exact ⟨rfl,post fr w h⟩
 ·intro fr w _ h;exact ⟨rfl,post fr w h⟩
 ·intro j fr w _ h;exact h.elim
def cl:Code→Code
 | .seq a _=>a
 | .cond _ a _=>a
 | .block _ c=>c
 | .loop c=>c
 |c=>c
def cr:Code→Code
 | .seq _ b=>b
 | .cond _ _ b=>b
 |c=>c
theorem cnd_true (A B:Prop):cndS (.bool true) A B=A:=rfl
theorem cnd_false (A B:Prop):cndS (.bool false) A B=B:=rfl
theorem pick_true (a b:Value) (w:World) (k:K1):pickS (.bool true) a b w k=k a w:=rfl
theorem pick_false (a b:Value) (w:World) (k:K1):pickS (.bool false) a b w k=k b w:=rfl
theorem pickV_true (a b:Value) (k:Value→Prop):pickV (.bool true) a b k=k a:=rfl
theorem pickV_false (a b:Value) (k:Value→Prop):pickV (.bool false) a b k=k b:=rfl
theorem gd_tt (y:K1→Prop) (w:World) (k:K1):gd (.bool true) true y w k=y k:=rfl
theorem gd_ff (y:K1→Prop) (w:World) (k:K1):gd (.bool false) false y w k=y k:=rfl
theorem gd_tf (y:K1→Prop) (w:World) (k:K1):gd (.bool true) false y w k=k undef w:=rfl
theorem gd_ft (y:K1→Prop) (w:World) (k:K1):gd (.bool false) true y w k=k undef w:=rfl
theorem gdR_tt (y:(Value→Prop)→Prop) (k:Value→Prop):gdR (.bool true) true y k=y k:=rfl
theorem gdR_ff (y:(Value→Prop)→Prop) (k:Value→Prop):gdR (.bool false) false y k=y k:=rfl
theorem gdR_tf (y:(Value→Prop)→Prop) (k:Value→Prop):gdR (.bool true) false y k=k undef:=rfl
theorem gdR_ft (y:(Value→Prop)→Prop) (k:Value→Prop):gdR (.bool false) true y k=k undef:=rfl
theorem gq_tt (A:Prop):gq (.bool true) true A=A:=rfl
theorem gq_ff (A:Prop):gq (.bool false) false A=A:=rfl
theorem gq_tf (A:Prop):gq (.bool true) false A=True:=rfl
theorem gq_ft (A:Prop):gq (.bool false) true A=True:=rfl
theorem ev_congr {P:Program} {s s':Sem Value} (w:World) (k:K1) (h:s=s'):ev P s w k=ev P s' w k:=by rw [h]
theorem ev_of_run {P:Program} {s:Sem Value} {w w':World} {v:Value} (h:s.run P w= .ok v w') (k:K1):ev P s w k=k v w':=by unfold ev;rw [h]
theorem rd_of_run {P:Program} {s:Sem Value} {w:World} {v:Value} (h:s.run P w= .ok v w) (k:Value→Prop):rd P s w k=k v:=by unfold rd;rw [h];simp
theorem ag_of_run {P:Program} {s:Sem Value} {w:World} {v:Value} (h:s.run P w= .ok v w) (u:Value):ag P s w u=(v=u):=by unfold ag;rw [h];simp
attribute [congr] ev_congr
theorem oE_some (v:Value) (k:Value→Prop):oE (some v) k=k v:=rfl
@[congr] theorem oE_congr {o o':Option Value} (k:Value→Prop) (h:o=o'):oE o k=oE o' k:=by rw [h]
def oL (o:Option (List Value)) (k:Value→Prop) (_:DepK k:= .mk):Prop:=
 match o with
 |some l=>k (.agg l.toArray)
 |none=>False
theorem oL_some (l:List Value) (k:Value→Prop):oL (some l) k=k (.agg l.toArray):=rfl
@[congr] theorem oL_congr {o o':Option (List Value)} (k:Value→Prop) (h:o=o'):oL o k=oL o' k:=by rw [h]
def stB (b:Bool) (k:Prop) (_:DepK k:= .mk):Prop:=
 match b with
 |true=>k
 |false=>False
theorem stB_true (k:Prop):stB true k=k:=rfl
@[congr] theorem stB_congr {b b':Bool} (k:Prop) (h:b=b'):stB b k=stB b' k:=by rw [h]
@[congr] theorem ldS_congr {P:Program} {t:TypeId} {x x':Value} (w:World) (k:K1) (h:x=x'):ldS P t x w k=ldS P t x' w k:=by rw [h]
@[congr] theorem ldR_congr {P:Program} {t:TypeId} {x x':Value} (w:World) (k:Value→Prop) (h:x=x'):ldR P t x w k=ldR P t x' w k:=by rw [h]
@[congr] theorem stS_congr {P:Program} {t:TypeId} {x x' v v':Value} (w:World) (k:World→Prop) (h:x=x') (hv:v=v'):stS P t x v w k=stS P t x' v' w k:=by rw [h,hv]
theorem ldS1 {P:Program} {t:TypeId} (h:isAggT P t=some false) (a:Addr) (w:World) (k:K1):ldS P t (.pointer (some a)) w k=oE (w.cell? a) (fun v=>k v w):=by simp only [ldS,ldO,h]
theorem ldR1 {P:Program} {t:TypeId} (h:isAggT P t=some false) (a:Addr) (w:World) (k:Value→Prop):ldR P t (.pointer (some a)) w k=oE (w.cell? a) k:=by simp only [ldR,ldO,h]
theorem ldG1 {P:Program} {t:TypeId} (h:isAggT P t=some false) (a:Addr) (w:World) (v:Value):ldG P t (.pointer (some a)) w v=(w.cell? a=some v):=by simp only [ldG,ldO,h]
theorem oE_map (o:Option (List Value)) (k:Value→Prop):oE (o.map fun l=> .agg l.toArray) k=oL o k:=by cases o<;>rfl
theorem ldSN {P:Program} {t:TypeId} {n:Nat} (h:isAggT P t=some true) (hn:szT P t=some n) (b o:Nat) (w:World) (k:K1):ldS P t (.pointer (some ⟨b,o,none⟩)) w k=oL (cellsFrom w b o n) (fun v=>k v w):=by simp only [ldS,ldO,h,hn,oE_map]
theorem ldRN {P:Program} {t:TypeId} {n:Nat} (h:isAggT P t=some true) (hn:szT P t=some n) (b o:Nat) (w:World) (k:Value→Prop):ldR P t (.pointer (some ⟨b,o,none⟩)) w k=oL (cellsFrom w b o n) k:=by simp only [ldR,ldO,h,hn,oE_map]
theorem ldGN {P:Program} {t:TypeId} {n:Nat} (h:isAggT P t=some true) (hn:szT P t=some n) (b o:Nat) (w:World) (v:Value):ldG P t (.pointer (some ⟨b,o,none⟩)) w v=oL (cellsFrom w b o n) (fun u=>u=v):=by
 simp only [ldG,ldO,h,hn]
 cases cellsFrom w b o n<;>simp [oL]
theorem stSN {P:Program} {t:TypeId} {n:Nat} (hn:szT P t=some n) (b o:Nat) (l:List Value) (w:World) (k:World→Prop):stS P t (.pointer (some ⟨b,o,none⟩)) (.agg l.toArray) w k=stB (Nat.beq l.length n&&(allOne l&&freeRow w b o n)) (k (setCells w b o l)):=by
 simp only [stS,stO,hn,Value.cells,List.toList_toArray]
 cases (Nat.beq l.length n&&(allOne l&&freeRow w b o n))<;>rfl
theorem stS1 {P:Program} {t:TypeId} (hn:szT P t=some 1) (b o:Nat) (v:Value) (w:World) (k:World→Prop) (h:isOne v=true):stS P t (.pointer (some ⟨b,o,none⟩)) v w k=stB ((w.cell? ⟨b,o,none⟩).isSome&& !w.frozen? ⟨b,o,none⟩) (k (w.setCell ⟨b,o,none⟩ v)):=by
 simp only [stS,stO,hn,cells_one h,allOne,freeRow,h,Bool.and_true]
 show oW (match (true&&(true&&_)) with|true=>_|false=>none) k=_
 simp only [Bool.true_and]
 cases ((w.cell? ⟨b,o,none⟩).isSome&& !w.frozen? ⟨b,o,none⟩)<;>rfl
@[congr] theorem cndS_congr {x x':Value} (A B:Prop) (h:x=x'):cndS x A B=cndS x' A B:=by rw [h]
@[congr] theorem pickS_congr {x x':Value} (a b:Value) (w:World) (k:K1) (h:x=x'):pickS x a b w k=pickS x' a b w k:=by rw [h]
@[congr] theorem pickV_congr {x x':Value} (a b:Value) (k:Value→Prop) (h:x=x'):pickV x a b k=pickV x' a b k:=by rw [h]
@[congr] theorem gd_congr {x x':Value} (b:Bool) (y:K1→Prop) (w:World) (k:K1) (h:x=x'):gd x b y w k=gd x' b y w k:=by rw [h]
@[congr] theorem gdR_congr {x x':Value} (b:Bool) (y:(Value→Prop)→Prop) (k:Value→Prop) (h:x=x'):gdR x b y k=gdR x' b y k:=by rw [h]
@[congr] theorem gq_congr {x x':Value} (b:Bool) (A:Prop) (h:x=x'):gq x b A=gq x' b A:=by rw [h]
@[congr] theorem rd_congr {P:Program} {s s':Sem Value} (w:World) (k:Value→Prop) (h:s=s'):rd P s w k=rd P s' w k:=by rw [h]
@[congr] theorem ag_congr {P:Program} {s s':Sem Value} (w:World) (v:Value) (h:s=s'):ag P s w v=ag P s' w v:=by rw [h]
@[congr] theorem ac_congr {P:Program} {s s':Sem Unit} (w:World) (k:World→Prop) (h:s=s'):ac P s w k=ac P s' w k:=by rw [h]
@[congr] theorem callS_congr {P:Program} {f:FuncId} {a a':Array Value} (w:World) (k:K1) (h:a=a'):callS P f a w k=callS P f a' w k:=by rw [h]
@[congr] theorem nilS_congr {P:Program} {x x':Value} (w:World) (k:K1) (h:x=x'):nilS P x w k=nilS P x' w k:=by rw [h]
@[congr] theorem nilR_congr {P:Program} {x x':Value} (w:World) (k:Value→Prop) (h:x=x'):nilR P x w k=nilR P x' w k:=by rw [h]
@[congr] theorem invS_congr {P:Program} {x x':Value} (n:String) {a a':Array Value} (w:World) (k:K1) (h:x=x') (ha:a=a'):invS P x n a w k=invS P x' n a' w k:=by rw [h,ha]
@[congr] theorem bltS_congr {P:Program} (b:Builtin) (ts:Array TypeId) (ty:TypeId) (cs:Array Bool) {a a':Array Value} (w:World) (k:K1) (ha:a=a'):bltS P b ts ty cs a w k=bltS P b ts ty cs a' w k:=by rw [ha]
theorem ev_box {P:Program} (t:TypeId) (v:Value) (w:World) (k:K1):ev P (Instr.box t v) w k=k (.pointer (some ⟨w.heap.size,0,none⟩)) (w.alloc (.cells v.cells t)):=rfl
theorem ev_alloc {P:Program} {t:TypeId} {z:Value} (h:zeroT P t=some z) (w:World) (k:K1):ev P (Instr.alloc t true (.tuple #[])) w k=k (.pointer (some ⟨w.heap.size,0,none⟩)) (w.alloc (.cells z.cells t)):=by
 refine ev_of_run ?_ k
 unfold Instr.alloc
 rw [Sem.run_bind,run_zeroValue h]
 rfl
def fldT (P:Program) (s:TypeId) (f:Nat):Option Nat:=
 match P.underlying s with
 |some (.struct fs)=>match fs[f]? with
  |some x=>match szT P x.type with
   |some (_+1)=>some x.offset
   |_=>none
  |none=>none
 |_=>none
theorem run_fieldAt {P:Program} {s:TypeId} {f n:Nat} (h:fldT P s f=some n) (b o:Nat) (w:World):(Instr.fieldAt s (.pointer (some ⟨b,o,none⟩)) f).run P w= .ok (.pointer (some ⟨b,o+n,none⟩)) w:=by
 unfold fldT at h
 cases hu:P.underlying s with
 |none=>rw [hu] at h;cases h
 |some d=>
  rw [hu] at h
  cases d<;>simp at h
  rename_i fs
  cases hf:fs[f]? with
  |none=>rw [hf] at h;cases h
  |some x=>
   rw [hf] at h
   simp only at h
   cases hz:szT P x.type with
   |none=>rw [hz] at h;cases h
   |some m=>
    rw [hz] at h
    cases m with
    |zero=>cases h
    |succ m=>
     simp only [Option.some.injEq] at h
     unfold Instr.fieldAt
     rw [Sem.run_bind,run_underlying_some hu,Result.andThen_ok]
     simp only [hf,Instr.sureAddr]
     rw [Sem.run_bind,Sem.run_pure,Result.andThen_ok,Sem.run_bind]
     unfold fieldPlace
     rw [Sem.run_bind,run_sizeOf hz]
     simp only [Result.andThen_ok,Nat.succ_ne_zero,if_false]
     simp [addr_add,h]
theorem ev_fieldAt {P:Program} {s:TypeId} {f n:Nat} (h:fldT P s f=some n) (b o:Nat) (w:World) (k:K1):ev P (Instr.fieldAt s (.pointer (some ⟨b,o,none⟩)) f) w k=k (.pointer (some ⟨b,o+n,none⟩)) w:=ev_of_run (run_fieldAt h b o w) k
theorem rd_fieldAt {P:Program} {s:TypeId} {f n:Nat} (h:fldT P s f=some n) (b o:Nat) (w:World) (k:Value→Prop):rd P (Instr.fieldAt s (.pointer (some ⟨b,o,none⟩)) f) w k=k (.pointer (some ⟨b,o+n,none⟩)):=rd_of_run (run_fieldAt h b o w) k
theorem ag_fieldAt {P:Program} {s:TypeId} {f n:Nat} (h:fldT P s f=some n) (b o:Nat) (w:World) (u:Value):ag P (Instr.fieldAt s (.pointer (some ⟨b,o,none⟩)) f) w u=(.pointer (some ⟨b,o+n,none⟩)=u):=ag_of_run (run_fieldAt h b o w) u
def elemT (P:Program) (t:TypeId):Option Nat:=
 match P.underlying t with
 |some (.slice e)=>szT P e
 |_=>none
theorem run_indexAt {P:Program} {t:TypeId} {n:Nat} (h:elemT P t=some n) (b o len cap:Nat) (kd:IntKind) (i:Int) (w:World) (h0:0≤i) (h1:i<len):(Instr.indexAt t (.slice (some ⟨b,o,none⟩) len cap) (.int kd i)).run P w= .ok (.pointer (some ⟨b,o+i.toNat*n,none⟩)) w:=by
 unfold elemT at h
 cases hu:P.underlying t with
 |none=>rw [hu] at h;cases h
 |some d=>
  rw [hu] at h
  cases d<;>simp at h
  rename_i e
  simp [Instr.indexAt,asIntOf,run_underlying_some hu,run_sizeOf h,h0,h1,addr_add]
theorem ev_indexAt {P:Program} {t:TypeId} {n:Nat} (h:elemT P t=some n) (b o len cap:Nat) (kd:IntKind) (i:Int) (w:World) (k:K1) (h0:0≤i) (h1:i<len):ev P (Instr.indexAt t (.slice (some ⟨b,o,none⟩) len cap) (.int kd i)) w k=k (.pointer (some ⟨b,o+i.toNat*n,none⟩)) w:=ev_of_run (run_indexAt h b o len cap kd i w h0 h1) k
theorem rd_indexAt {P:Program} {t:TypeId} {n:Nat} (h:elemT P t=some n) (b o len cap:Nat) (kd:IntKind) (i:Int) (w:World) (k:Value→Prop) (h0:0≤i) (h1:i<len):rd P (Instr.indexAt t (.slice (some ⟨b,o,none⟩) len cap) (.int kd i)) w k=k (.pointer (some ⟨b,o+i.toNat*n,none⟩)):=rd_of_run (run_indexAt h b o len cap kd i w h0 h1) k
theorem ag_indexAt {P:Program} {t:TypeId} {n:Nat} (h:elemT P t=some n) (b o len cap:Nat) (kd:IntKind) (i:Int) (w:World) (u:Value) (h0:0≤i) (h1:i<len):ag P (Instr.indexAt t (.slice (some ⟨b,o,none⟩) len cap) (.int kd i)) w u=(.pointer (some ⟨b,o+i.toNat*n,none⟩)=u):=ag_of_run (run_indexAt h b o len cap kd i w h0 h1) u
def arrT (P:Program) (t:TypeId):Option (Nat×Nat):=
 match P.underlying t with
 |some (.array m e)=>(szT P e).map fun n=>(m,n)
 |_=>none
theorem run_indexArr {P:Program} {t:TypeId} {m n:Nat} (h:arrT P t=some (m,n)) (b o:Nat) (kd:IntKind) (i:Int) (w:World) (h0:0≤i) (h1:i<m):(Instr.indexAt t (.pointer (some ⟨b,o,none⟩)) (.int kd i)).run P w= .ok (.pointer (some ⟨b,o+i.toNat*n,none⟩)) w:=by
 unfold arrT at h
 cases hu:P.underlying t with
 |none=>rw [hu] at h;cases h
 |some d=>
  rw [hu] at h
  cases d<;>simp at h
  rename_i m' e
  obtain ⟨h,rfl,rfl⟩:=h
  simp [Instr.indexAt,asIntOf,Instr.sureAddr,run_underlying_some hu,run_sizeOf h,h0,h1,addr_add]
theorem ev_indexArr {P:Program} {t:TypeId} {m n:Nat} (h:arrT P t=some (m,n)) (b o:Nat) (kd:IntKind) (i:Int) (w:World) (k:K1) (h0:0≤i) (h1:i<m):ev P (Instr.indexAt t (.pointer (some ⟨b,o,none⟩)) (.int kd i)) w k=k (.pointer (some ⟨b,o+i.toNat*n,none⟩)) w:=ev_of_run (run_indexArr h b o kd i w h0 h1) k
theorem nil_ptr {P:Program} (a:Addr) (w:World) (k:K1):nilS P (.pointer (some a)) w k=k (.pointer (some a)) w:=rfl
theorem nil_iface {P:Program} (t:TypeId) (v:Value) (w:World) (k:K1):nilS P (.iface t v) w k=k (.iface t v) w:=rfl
theorem nilR_ptr {P:Program} (a:Addr) (w:World) (k:Value→Prop):nilR P (.pointer (some a)) w k=k (.pointer (some a)):=by
 show (w=w∧_)=_;simp
theorem nilR_iface {P:Program} (t:TypeId) (v:Value) (w:World) (k:Value→Prop):nilR P (.iface t v) w k=k (.iface t v):=by
 show (w=w∧_)=_;simp
theorem ev_ex0 {P:Program} (a:Value) (l:List Value) (w:World) (k:K1):ev P (Instr.extract (.tuple (a::l).toArray) 0) w k=k a w:=rfl
theorem ev_ex1 {P:Program} (a b:Value) (l:List Value) (w:World) (k:K1):ev P (Instr.extract (.tuple (a::b::l).toArray) 1) w k=k b w:=rfl
theorem ev_ex2 {P:Program} (a b c:Value) (l:List Value) (w:World) (k:K1):ev P (Instr.extract (.tuple (a::b::c::l).toArray) 2) w k=k c w:=rfl
theorem ev_ex3 {P:Program} (a b c d:Value) (l:List Value) (w:World) (k:K1):ev P (Instr.extract (.tuple (a::b::c::d::l).toArray) 3) w k=k d w:=rfl
theorem rd_ex0 {P:Program} (a:Value) (l:List Value) (w:World) (k:Value→Prop):rd P (Instr.extract (.tuple (a::l).toArray) 0) w k=k a:=rd_of_run rfl k
theorem rd_ex1 {P:Program} (a b:Value) (l:List Value) (w:World) (k:Value→Prop):rd P (Instr.extract (.tuple (a::b::l).toArray) 1) w k=k b:=rd_of_run rfl k
theorem rd_ex2 {P:Program} (a b c:Value) (l:List Value) (w:World) (k:Value→Prop):rd P (Instr.extract (.tuple (a::b::c::l).toArray) 2) w k=k c:=rd_of_run rfl k
theorem ev_not {P:Program} (b:Bool) (w:World) (k:K1):ev P (Op.unary .not (.bool b)) w k=k (.bool !b) w:=rfl
theorem rd_not {P:Program} (b:Bool) (w:World) (k:Value→Prop):rd P (Op.unary .not (.bool b)) w k=k (.bool !b):=rd_of_run rfl k
theorem run_binM_int {P:Program} (op:BinOp) (t:TypeId) (x y:Operand) (k k':IntKind) (a b:Int) (w:World):(binM op t x y (.int k a) (.int k' b)).run P w=(binOp op t (.int k a) (.int k' b)).run P w:=by
 unfold binM
 rw [Sem.run_bind]
 have:(eqGuard op t x y (.int k a) (.int k' b)).run P w= .ok () w:=by
  unfold eqGuard
  cases op<;>rfl
 rw [this];rfl
theorem run_add {P:Program} (t:TypeId) (x y:Operand) (k:IntKind) (a b:Int) (w:World):(binM .add t x y (.int k a) (.int k b)).run P w= .ok (.int k (k.wrap (a+b))) w:=by
 rw [run_binM_int];simp [binOp,Op.intArith]
theorem run_sub {P:Program} (t:TypeId) (x y:Operand) (k:IntKind) (a b:Int) (w:World):(binM .sub t x y (.int k a) (.int k b)).run P w= .ok (.int k (k.wrap (a-b))) w:=by
 rw [run_binM_int];simp [binOp,Op.intArith]
theorem run_mul {P:Program} (t:TypeId) (x y:Operand) (k:IntKind) (a b:Int) (w:World):(binM .mul t x y (.int k a) (.int k b)).run P w= .ok (.int k (k.wrap (a*b))) w:=by
 rw [run_binM_int];simp [binOp,Op.intArith]
theorem run_cmp {P:Program} (op:BinOp) (t:TypeId) (x y:Operand) (k:IntKind) (a b:Int) (w:World):(binM op t x y (.int k a) (.int k b)).run P w=(binOp op t (.int k a) (.int k b)).run P w:=run_binM_int op t x y k k a b w
theorem run_lss {P:Program} (t:TypeId) (x y:Operand) (k:IntKind) (a b:Int) (w:World):(binM .lss t x y (.int k a) (.int k b)).run P w= .ok (.bool (decide (a<b))) w:=by rw [run_cmp];simp [binOp,Op.intCmp]
theorem run_leq {P:Program} (t:TypeId) (x y:Operand) (k:IntKind) (a b:Int) (w:World):(binM .leq t x y (.int k a) (.int k b)).run P w= .ok (.bool (decide (a≤b))) w:=by rw [run_cmp];simp [binOp,Op.intCmp]
theorem run_gtr {P:Program} (t:TypeId) (x y:Operand) (k:IntKind) (a b:Int) (w:World):(binM .gtr t x y (.int k a) (.int k b)).run P w= .ok (.bool (decide (b<a))) w:=by rw [run_cmp];simp [binOp,Op.intCmp]
theorem run_geq {P:Program} (t:TypeId) (x y:Operand) (k:IntKind) (a b:Int) (w:World):(binM .geq t x y (.int k a) (.int k b)).run P w= .ok (.bool (decide (b≤a))) w:=by rw [run_cmp];simp [binOp,Op.intCmp]
theorem run_eql {P:Program} (t:TypeId) (x y:Operand) (k:IntKind) (a b:Int) (w:World):(binM .eql t x y (.int k a) (.int k b)).run P w= .ok (.bool (decide (a=b))) w:=by rw [run_cmp];simp [binOp,Op.intCmp];rfl
theorem run_neq {P:Program} (t:TypeId) (x y:Operand) (k:IntKind) (a b:Int) (w:World):(binM .neq t x y (.int k a) (.int k b)).run P w= .ok (.bool (!decide (a=b))) w:=by rw [run_cmp];simp [binOp,Op.intCmp,bne];rfl
def lo (k:IntKind):Int:=k.min
theorem wrap_u64 {n:Int} (h0:0≤n) (h1:n<18446744073709551616):IntKind.u64.wrap n=n:=by
 unfold IntKind.wrap;simp only [IntKind.bits,IntKind.signed];simp;omega
theorem wrap_u32 {n:Int} (h0:0≤n) (h1:n<4294967296):IntKind.u32.wrap n=n:=by
 unfold IntKind.wrap;simp only [IntKind.bits,IntKind.signed];simp;omega
theorem wrap_i64 {n:Int} (h0: -9223372036854775808≤n) (h1:n<9223372036854775808):IntKind.i64.wrap n=n:=by
 unfold IntKind.wrap;simp only [IntKind.bits,IntKind.signed];simp;omega
theorem wrap_u64_mod (n:Int):IntKind.u64.wrap n=n%18446744073709551616:=by unfold IntKind.wrap;simp [IntKind.bits,IntKind.signed]
theorem tdiv_nonneg_eq {a b:Int} (h:0≤a):a.tdiv b=a/b:=Int.tdiv_eq_ediv_of_nonneg h
theorem run_quo {P:Program} (t:TypeId) (x y:Operand) (k:IntKind) (a b:Int) (w:World) (ha:0≤a) (hb:0<b) (hw:k.wrap (a/b)=a/b):(binM .quo t x y (.int k a) (.int k b)).run P w= .ok (.int k (a/b)) w:=by
 rw [run_binM_int]
 have hb':b≠0:=by omega
 simp [binOp,Op.intDiv,hb',tdiv_nonneg_eq ha,hw]
theorem run_rem {P:Program} (t:TypeId) (x y:Operand) (k:IntKind) (a b:Int) (w:World) (ha:0≤a) (hb:0<b):(binM .rem t x y (.int k a) (.int k b)).run P w= .ok (.int k (a%b)) w:=by
 rw [run_binM_int]
 have hb':b≠0:=by omega
 simp [binOp,Op.intDiv,hb',Int.tmod_eq_emod_of_nonneg ha]
theorem ediv_le {a b:Int} (ha:0≤a) (hb:0<b):0≤a/b∧a/b≤a:=⟨Int.ediv_nonneg ha (Int.le_of_lt hb),Int.ediv_le_self b ha⟩
theorem run_quo_i64 {P:Program} (t:TypeId) (x y:Operand) (a b:Int) (w:World) (ha:0≤a) (h:a<9223372036854775808) (hb:0<b):(binM .quo t x y (.int .i64 a) (.int .i64 b)).run P w= .ok (.int .i64 (a/b)) w:=
 run_quo t x y .i64 a b w ha hb (wrap_i64 (by have:=(ediv_le ha hb).1;omega) (by have:=(ediv_le ha hb).2;omega))
def intT (P:Program) (t:TypeId):Option IntKind:=
 match P.underlying t with
 |some (.int k)=>some k
 |_=>none
theorem underlying_of_intT {P:Program} {t:TypeId} {k:IntKind} (h:intT P t=some k):P.underlying t=some (.int k):=by
 unfold intT at h
 split at h
 ·rename_i e;simp at h;subst h;exact e
 ·cases h
theorem run_convert {P:Program} {s d:TypeId} {j k:IntKind} (hs:intT P s=some j) (hd:intT P d=some k) (i:IntKind) (n:Int) (w:World):(convert s d (.int i n)).run P w= .ok (.int k (k.wrap n)) w:=by
 unfold convert
 rw [Sem.run_bind,run_underlying_some (underlying_of_intT hs),Result.andThen_ok,Sem.run_bind,run_underlying_some (underlying_of_intT hd),Result.andThen_ok]
 rfl
theorem run_shr {P:Program} (t:TypeId) (x y:Operand) (k j:IntKind) (a b:Int) (w:World) (hb:0≤b):(binM .shr t x y (.int k a) (.int j b)).run P w= .ok (.int k (a/2^(min b.toNat k.bits))) w:=by
 rw [run_binM_int]
 have:¬b<0:=by omega
 simp only [binOp,Op.shift,this,if_false]
 rw [Int.fdiv_eq_ediv_of_nonneg _ (Int.le_of_lt (Int.pow_pos (by omega)))]
 rfl
theorem run_shl {P:Program} (t:TypeId) (x y:Operand) (k j:IntKind) (a b:Int) (w:World) (hb:0≤b):(binM .shl t x y (.int k a) (.int j b)).run P w= .ok (.int k (k.wrap (a*2^(min b.toNat k.bits)))) w:=by
 rw [run_binM_int]
 have:¬b<0:=by omega
 simp only [binOp,Op.shift,this,if_false]
 rfl
theorem ofInt_toNat {n:Nat} {a:Int} (h0:0≤a) (h1:a<2^n):(BitVec.ofInt n a).toNat=a.toNat:=by
 rw [BitVec.toNat_ofInt]
 congr 1
 exact Int.emod_eq_of_lt h0 (by exact_mod_cast h1)
def unsg:IntKind→Bool
 | .u8=>true
 | .u16=>true
 | .u32=>true
 | .u64=>true
 |_=>false
theorem wrap_toNat {k:IntKind} (hk:unsg k=true) (x:BitVec k.bits):k.wrap (x.toNat:Int)=x.toNat:=by
 have h:=x.isLt
 unfold IntKind.wrap
 have hs:k.signed=false:=by cases k<;>first|rfl|cases hk
 simp only [hs,Bool.false_and,Bool.false_eq_true,if_false]
 exact Int.emod_eq_of_lt (by omega) (by exact_mod_cast h)
theorem run_and {P:Program} (t:TypeId) (x y:Operand) {k:IntKind} (hk:unsg k=true) (a b:Int) (w:World) (ha:0≤a) (ha':a<2^k.bits) (hb:0≤b) (hb':b<2^k.bits):(binM .and t x y (.int k a) (.int k b)).run P w= .ok (.int k ((a.toNat&&&b.toNat:Nat):Int)) w:=by
 rw [run_binM_int]
 simp only [binOp,ne_eq,not_true,if_false,Op.intBits]
 rw [Sem.run_pure,wrap_toNat hk,BitVec.toNat_and,ofInt_toNat ha ha',ofInt_toNat hb hb']
theorem run_or {P:Program} (t:TypeId) (x y:Operand) {k:IntKind} (hk:unsg k=true) (a b:Int) (w:World) (ha:0≤a) (ha':a<2^k.bits) (hb:0≤b) (hb':b<2^k.bits):(binM .or t x y (.int k a) (.int k b)).run P w= .ok (.int k ((a.toNat|||b.toNat:Nat):Int)) w:=by
 rw [run_binM_int]
 simp only [binOp,ne_eq,not_true,if_false,Op.intBits]
 rw [Sem.run_pure,wrap_toNat hk,BitVec.toNat_or,ofInt_toNat ha ha',ofInt_toNat hb hb']
theorem run_xor {P:Program} (t:TypeId) (x y:Operand) {k:IntKind} (hk:unsg k=true) (a b:Int) (w:World) (ha:0≤a) (ha':a<2^k.bits) (hb:0≤b) (hb':b<2^k.bits):(binM .xor t x y (.int k a) (.int k b)).run P w= .ok (.int k ((a.toNat^^^b.toNat:Nat):Int)) w:=by
 rw [run_binM_int]
 simp only [binOp,ne_eq,not_true,if_false,Op.intBits]
 rw [Sem.run_pure,wrap_toNat hk,BitVec.toNat_xor,ofInt_toNat ha ha',ofInt_toNat hb hb']
theorem run_eqM {P:Program} {t:TypeId} {x y:Operand} {u v:Value} {w:World} {r:Bool} (hg:(eqGuard .eql t x y u v).run P w= .ok () w) (hb:binOp .eql t u v=(do pure (.bool (←Op.equal t u v)))) (h:∀d,(Op.equalIn (d+1) t u v).run P w= .ok r w):(binM .eql t x y u v).run P w= .ok (.bool r) w:=by
 unfold binM
 rw [Sem.run_bind,hg,Result.andThen_ok,hb,Sem.run_bind]
 unfold Op.equal
 rw [show Op.maxDepth=9999+1 from rfl,h];rfl
theorem run_neM {P:Program} {t:TypeId} {x y:Operand} {u v:Value} {w:World} {r:Bool} (hg:(eqGuard .neq t x y u v).run P w= .ok () w) (hb:binOp .neq t u v=(do pure (.bool (!(←Op.equal t u v))))) (h:∀d,(Op.equalIn (d+1) t u v).run P w= .ok r w):(binM .neq t x y u v).run P w= .ok (.bool (!r)) w:=by
 unfold binM
 rw [Sem.run_bind,hg,Result.andThen_ok,hb,Sem.run_bind]
 unfold Op.equal
 rw [show Op.maxDepth=9999+1 from rfl,h];rfl
def ptrT (P:Program) (t:TypeId):Bool:=
 match P.underlying t with
 |some (.pointer _)=>true
 |_=>false
theorem equalIn_ptr {P:Program} {t:TypeId} (h:ptrT P t=true) (p:Option Addr) (w:World) (d:Nat):(Op.equalIn (d+1) t (.pointer p) (.pointer none)).run P w= .ok p.isNone w:=by
 unfold ptrT at h
 split at h
 ·rename_i e hu
  unfold Op.equalIn
  rw [Sem.run_bind,run_underlying_some hu,Result.andThen_ok]
  cases p<;>rfl
 ·cases h
theorem run_eq_ptr_nil {P:Program} {t:TypeId} (h:ptrT P t=true) (x y:Operand) (p:Option Addr) (w:World):(binM .eql t x y (.pointer p) (.pointer none)).run P w= .ok (.bool p.isNone) w:=
 run_eqM rfl (by cases p<;>rfl) (equalIn_ptr h p w)
def ifaceT (P:Program) (t:TypeId):Bool:=
 match P.underlying t with
 |some (.interface _)=>true
 |_=>false
theorem run_eq_iface_nil {P:Program} {t:TypeId} (h:ifaceT P t=true) (x y:Operand) (u:TypeId) (v:Value) (w:World):(binM .eql t x y (.iface u v) .nilIface).run P w= .ok (.bool false) w:=by
 unfold ifaceT at h
 split at h
 ·rename_i e hu
  refine run_eqM rfl rfl fun d=> ?_
  unfold Op.equalIn
  rw [Sem.run_bind,run_underlying_some hu,Result.andThen_ok]
  rfl
 ·cases h
theorem run_eq_nil_nil {P:Program} {t:TypeId} (h:ifaceT P t=true) (x:Operand) (u:Value) (w:World):(binM .eql t x (.const u) .nilIface .nilIface).run P w= .ok (.bool true) w:=by
 unfold ifaceT at h
 split at h
 ·rename_i e hu
  refine run_eqM (by cases x<;>rfl) rfl fun d=> ?_
  unfold Op.equalIn
  rw [Sem.run_bind,run_underlying_some hu,Result.andThen_ok]
  rfl
 ·cases h
def boolT (P:Program) (t:TypeId):Bool:=
 match P.underlying t with
 |some .bool=>true
 |_=>false
theorem equalIn_bool {P:Program} {t:TypeId} (h:boolT P t=true) (a b:Bool) (w:World) (d:Nat):(Op.equalIn (d+1) t (.bool a) (.bool b)).run P w= .ok (a==b) w:=by
 unfold boolT at h
 split at h
 ·rename_i hu
  unfold Op.equalIn
  rw [Sem.run_bind,run_underlying_some hu,Result.andThen_ok]
  rfl
 ·cases h
theorem run_eq_bool {P:Program} {t:TypeId} (h:boolT P t=true) (x y:Operand) (a b:Bool) (w:World):(binM .eql t x y (.bool a) (.bool b)).run P w= .ok (.bool (a==b)) w:=
 run_eqM rfl rfl (equalIn_bool h a b w)
theorem run_neq_bool {P:Program} {t:TypeId} (h:boolT P t=true) (x y:Operand) (a b:Bool) (w:World):(binM .neq t x y (.bool a) (.bool b)).run P w= .ok (.bool (!(a==b))) w:=
 run_neM rfl rfl (equalIn_bool h a b w)
theorem run_makeInterface {P:Program} {t:TypeId} (h:isAggT P t=some false) (h':ifaceT P t=false) (v:Value) (w:World):(Instr.makeInterface t v).run P w= .ok (.iface t v) w:=by
 unfold isAggT at h
 cases hu:P.underlying t with
 |none=>rw [hu] at h;cases h
 |some d=>
  unfold Instr.makeInterface
  rw [Sem.run_bind,run_underlying_some hu,Result.andThen_ok]
  unfold ifaceT at h'
  rw [hu] at h'
  cases d<;>first|rfl|cases h'
def sliceT (P:Program) (t:TypeId):Bool:=
 match P.underlying t with
 |some (.slice _)=>true
 |_=>false
theorem run_len {P:Program} {t:TypeId} (h:sliceT P t=true) (ty:TypeId) (a:Option Addr) (n c:Nat) (w:World):(Builtin.len_ #[t] ty #[.slice a n c]).run P w= .ok (.int .i64 n) w:=by
 unfold sliceT at h
 split at h
 ·rename_i e hu
  simp [Builtin.len_,run_underlying_some hu,goInt]
 ·cases h
theorem blt_len {P:Program} {t:TypeId} (h:sliceT P t=true) (ty:TypeId) (cs:Array Bool) (a:Option Addr) (n c:Nat) (w:World) (k:K1):bltS P .len #[t] ty cs #[.slice a n c] w k=k (.int .i64 n) w:=by
 unfold bltS builtin
 rw [Sem.run_bind,run_len h];rfl
theorem blt_max {P:Program} (ts:Array TypeId) (ty:TypeId) (cs:Array Bool) (i:IntKind) (a b:Int) (w:World) (k:K1):bltS P .max ts ty cs #[.int i a,.int i b] w k=k (.int i (if a<b then b else a)) w:=rfl
theorem blt_min {P:Program} (ts:Array TypeId) (ty:TypeId) (cs:Array Bool) (i:IntKind) (a b:Int) (w:World) (k:K1):bltS P .min ts ty cs #[.int i a,.int i b] w k=k (.int i (if b<a then b else a)) w:=rfl
theorem inv_of_run {P:Program} {x:Value} {n:String} {args args':Array Value} {w:World} {f:FuncId} (h:(callMethod x n args).run P w= .ok (.enter f args') w) (k:K1):invS P x n args w k=callS P f args' w k:=by
 unfold invS;rw [h];rfl
theorem fill_one {place:Nat→Option (Nat×Nat)} {cells:Array Value} {i off:Nat} {v:Value} {rest:List (Nat×Value)} (hp:place i=some (off,1)) (hv:isOne v=true) (ho:off<cells.size):Instr.fill place cells ((i,v)::rest)=Instr.fill place (cells.setIfInBounds off v) rest:=by
 rw [Instr.fill,hp]
 simp only [cells_one hv,List.size_toArray,List.length_singleton,ne_eq,not_true,Bool.or_eq_true,decide_eq_true_eq]
 rw [if_neg (by simp;omega)]
 congr 1
def faggT (P:Program) (t:TypeId) (f:Nat):Option Bool:=
 match P.underlying t with
 |some (.struct fs)=>(fs[f]?).bind fun x=>isAggT P x.type
 |_=>none
def placesT (P:Program) (t:TypeId):Option (List (Nat×Nat)):=
 match P.underlying t with
 |some (.struct fs)=>fs.toList.mapM fun f=>(szT P f.type).map fun n=>(f.offset,n)
 |_=>none
theorem run_places {P:Program} (w:World):∀(l:List Field) (ps:List (Nat×Nat)),(l.mapM fun f=>(szT P f.type).map fun n=>(f.offset,n))=some ps→(l.mapM (m:=Sem) fun f=>do pure (f.offset,←sizeOf f.type)).run P w= .ok ps w:=by
 intro l
 induction l with
 |nil=>intro ps h;simp at h;subst h;rfl
 |cons f l ih=>
  intro ps h
  rw [List.mapM_cons] at h
  cases hs:szT P f.type with
  |none=>rw [hs] at h;cases h
  |some n=>
   rw [hs] at h
   cases hr:(l.mapM fun f=>(szT P f.type).map fun n=>(f.offset,n)) with
   |none=>rw [hr] at h;simp at h
   |some qs=>
    rw [hr] at h
    simp at h
    subst h
    rw [List.mapM_cons,Sem.run_bind,Sem.run_bind,run_sizeOf hs]
    simp only [Result.andThen_ok,Sem.run_pure]
    rw [Sem.run_bind,ih qs hr]
    rfl
theorem run_buildS {P:Program} {t:TypeId} {z:Value} {ps:List (Nat×Nat)} {parts:Array (Nat×Value)} {cs:Array Value} (hz:zeroT P t=some z) (hp:placesT P t=some ps) (hf:Instr.fill (ps.toArray[·]?) z.cells parts.toList=some cs) (w:World):(Instr.build t parts).run P w= .ok (.agg cs) w:=by
 unfold placesT at hp
 split at hp
 ·rename_i fs hu
  unfold Instr.build
  rw [Sem.run_bind,run_zeroValue hz,Result.andThen_ok,Sem.run_bind,run_underlying_some hu,Result.andThen_ok]
  simp only
  have e:(fs.mapM (m:=Sem) fun f=>do pure (f.offset,←sizeOf f.type)).run P w= .ok ps.toArray w:=by
   have:=run_places w fs.toList ps hp
   rw [←Array.toArray_toList (xs:=fs),List.mapM_toArray,Sem.run_map]
   rw [this];rfl
  rw [Sem.run_bind,e,Result.andThen_ok]
  simp only [hf]
  rfl
 ·cases hp
theorem run_field {P:Program} {t:TypeId} {f n:Nat} (h:fldT P t f=some n) (h1:faggT P t f=some false) {cs:Array Value} {v:Value} (hv:cs[n]? =some v) (w:World):(Instr.field t (.agg cs) f).run P w= .ok v w:=by
 unfold fldT at h
 cases hu:P.underlying t with
 |none=>rw [hu] at h;cases h
 |some d=>
  unfold faggT at h1
  rw [hu] at h h1
  cases d<;>simp only [reduceCtorEq] at h
  rename_i fs
  simp only at h1
  cases hf:fs[f]? with
  |none=>rw [hf] at h;cases h
  |some x=>
   rw [hf] at h h1
   simp only [Option.bind_some] at h h1
   cases hz:szT P x.type with
   |none=>rw [hz] at h;cases h
   |some m=>
    rw [hz] at h
    cases m with
    |zero=>cases h
    |succ m=>
     simp only [Option.some.injEq] at h
     subst h
     unfold Instr.field
     rw [Sem.run_bind,run_underlying_some hu,Result.andThen_ok]
     simp only [hf,asAgg]
     rw [Sem.run_bind,Sem.run_pure,Result.andThen_ok]
     unfold part
     rw [Sem.run_bind,run_isAgg h1,Result.andThen_ok]
     simp [hv]
section
variable (P:Program)
def RM:=And.intro oE_some<|And.intro oL_some<|And.intro stB_true<|And.intro cnd_true<|And.intro cnd_false<|And.intro pick_true<|And.intro pick_false<|And.intro pickV_true<|And.intro pickV_false<|
 And.intro gd_tt<|And.intro gd_ff<|And.intro gd_tf<|And.intro gd_ft<|And.intro gdR_tt<|And.intro gdR_ff<|And.intro gdR_tf<|And.intro gdR_ft<|And.intro gq_tt<|And.intro gq_ff<|And.intro gq_tf gq_ft
def RP:=And.intro (@ev_box P)<|And.intro (@nil_ptr P)<|And.intro (@nil_iface P)<|And.intro (@nilR_ptr P)<|And.intro (@nilR_iface P)<|And.intro (@ev_ex0 P)<|And.intro (@ev_ex1 P)<|And.intro (@ev_ex2 P)<|And.intro (@ev_ex3 P)<|
 And.intro (@rd_ex0 P)<|And.intro (@rd_ex1 P)<|And.intro (@rd_ex2 P)<|And.intro (@ev_not P)<|And.intro (@rd_not P)<|And.intro (@blt_max P) (@blt_min P)
end
theorem cells_agg (cs:Array Value):(Value.agg cs).cells=cs:=rfl
theorem cells_int (k:IntKind) (n:Int):(Value.int k n).cells= #[.int k n]:=rfl
theorem cells_bool (b:Bool):(Value.bool b).cells= #[.bool b]:=rfl
theorem cells_ptr (a:Option Addr):(Value.pointer a).cells= #[.pointer a]:=rfl
theorem cells_slice (a:Option Addr) (n c:Nat):(Value.slice a n c).cells= #[.slice a n c]:=rfl
theorem cells_iface (t:TypeId) (v:Value):(Value.iface t v).cells= #[.iface t v]:=rfl
theorem cells_nil:(Value.nilIface).cells= #[.nilIface]:=rfl
theorem dec_true {p:Prop} [Decidable p] (h:p):decide p=true:=decide_eq_true h
theorem dec_false {p:Prop} [Decidable p] (h:¬p):decide p=false:=decide_eq_false h
theorem dec_T (h:Decidable True): @decide True h=true:=by cases h with
 |isTrue _=>rfl
 |isFalse h=>exact absurd trivial h
theorem dec_F (h:Decidable False): @decide False h=false:=by cases h with
 |isTrue h=>exact h.elim
 |isFalse _=>rfl
theorem cellsFrom_zero (w:World) (b o:Nat):cellsFrom w b o 0=some []:=rfl
theorem cell_of_blk {w:World} {b:Nat} {c:Array Value} {t:TypeId} {z:Nat×Nat} (h:w.heap[b]? =some (.cells c t z)) (i:Nat):w.cell? ⟨b,i,none⟩=c[i]? :=by
 unfold World.cell?;rw [h];rfl
set_option linter.defProp false in
def RV:=And.intro pA_eq<|And.intro cells_agg<|And.intro cells_int<|And.intro cells_bool<|And.intro cells_ptr<|And.intro cells_slice<|And.intro cells_iface<|And.intro cells_nil<|
 And.intro dec_T<|And.intro dec_F<|And.intro @dec_true<|And.intro @dec_false<|And.intro Bool.not_true<|And.intro Bool.true_and<|And.intro Bool.false_and<|And.intro Bool.and_true<|And.intro Bool.and_false<|And.intro Int.toNat_natCast<|And.intro Bool.not_false<|And.intro Nat.zero_add<|And.intro Nat.mul_one<|And.intro Nat.add_zero<|And.intro (@Option.isNone_some Addr)<|And.intro (@Option.isNone_none Addr) (@and_self)
theorem zeros_eq (z:Array Value) (n:Nat):((Array.range n).map (z[·%z.size]!))=((List.range n).map fun i=>z[i%z.size]!).toArray:=by
 apply Array.ext';simp
theorem run_buildSliceS {P:Program} {t e:TypeId} {len size:Nat} {z:Value} {parts:Array (Nat×Value)} {cs:Array Value} (hu:P.underlying t=some (.slice e)) (hs:szT P e=some size) (hz:zeroT P e=some z) (hle:len*size≤16777216) (hne:len*size≠0)
  (hf:Instr.fill (fun i=>some (i*size,size)) ((List.range (len*size)).map fun i=>z.cells[i%z.cells.size]!).toArray parts.toList=some cs) (w:World):(Instr.buildSlice t len parts).run P w= .ok (.slice (some ⟨w.heap.size,0,none⟩) len len) (w.alloc (.cells cs e)):=by
 unfold Instr.buildSlice
 rw [Sem.run_bind,run_underlying_some hu,Result.andThen_ok]
 simp only
 rw [Sem.run_bind,run_sizeOf hs,Result.andThen_ok]
 rw [if_neg (by simpa using hle)]
 simp only [hne,if_false]
 rw [Sem.run_bind,run_zeroValue hz,Result.andThen_ok,Sem.run_bind,Sem.run_pure,Result.andThen_ok,zeros_eq]
 simp only [hf]
 rfl
theorem fill_agg2 {place:Nat→Option (Nat×Nat)} {cells:Array Value} {i off:Nat} {a b:Value} {rest:List (Nat×Value)} (hp:place i=some (off,2)) (ho:off+2≤cells.size):Instr.fill place cells ((i,.agg #[a,b])::rest)=Instr.fill place ((cells.setIfInBounds off a).setIfInBounds (off+1) b) rest:=by
 rw [Instr.fill,hp]
 simp only [cells_agg,List.size_toArray,List.length_cons,List.length_nil]
 rw [if_neg (by simp;omega)]
 congr 1
theorem fill_agg3 {place:Nat→Option (Nat×Nat)} {cells:Array Value} {i off:Nat} {a b c:Value} {rest:List (Nat×Value)} (hp:place i=some (off,3)) (ho:off+3≤cells.size):Instr.fill place cells ((i,.agg #[a,b,c])::rest)=Instr.fill place (((cells.setIfInBounds off a).setIfInBounds (off+1) b).setIfInBounds (off+2) c) rest:=by
 rw [Instr.fill,hp]
 simp only [cells_agg,List.size_toArray,List.length_cons,List.length_nil]
 rw [if_neg (by simp;omega)]
 congr 1
theorem one_int (k:IntKind) (n:Int):isOne (.int k n)=true:=rfl
theorem one_bool (b:Bool):isOne (.bool b)=true:=rfl
theorem one_ptr (a:Option Addr):isOne (.pointer a)=true:=rfl
theorem one_slice (a:Option Addr) (n c:Nat):isOne (.slice a n c)=true:=rfl
theorem one_iface (t:TypeId) (v:Value):isOne (.iface t v)=true:=rfl
theorem one_nil:isOne .nilIface=true:=rfl
theorem one_map (r:Option Nat):isOne (.map r)=true:=rfl
set_option linter.defProp false in
def RO:=And.intro one_int<|And.intro one_bool<|And.intro one_ptr<|And.intro one_slice<|And.intro one_iface<|And.intro one_nil one_map
theorem runN_ended {P:Program}:∀(n k:Nat) (m:Machine) (o:Outcome) (w:World),runN P n m= .ended o w→runN P (n+k) m= .ended o w:=by
 intro n k m o w h
 rw [runN_add,h]
theorem callS_done {P:Program} {f:FuncId} {args:Array Value} {w:World} {K:K1} (h:callS P f args w K) (hi:P.inits.idxOf? f=none):∃n v w',runN P n (lone (Frame.enter P f args .normal) [] w)= .ended (.done v) w'∧K v w':=by
 refine Calls.done (R:=K) (Calls.mono h ?_) hi
 intro e w' hr
 cases e<;>exact hr
theorem callS_det {P:Program} {f:FuncId} {args:Array Value} {w w0:World} {v0:Value} (hi:P.inits.idxOf? f=none) (h:callS P f args w (fun v w'=>v=v0∧w'=w0)) (K:K1):callS P f args w K=K v0 w0:=by
 apply propext
 constructor
 ·intro h'
  obtain ⟨n,v,w',hr,rfl,rfl⟩:=callS_done h hi
  obtain ⟨n',v',w'',hr',hk⟩:=callS_done h' hi
  have e1:=runN_ended n n' _ _ _ hr
  have e2:=runN_ended n' n _ _ _ hr'
  rw [Nat.add_comm n' n,e1] at e2
  injection e2 with a b
  injection a with a
  subst a;subst b
  exact hk
 ·intro hk
  refine Calls.mono h ?_
  intro e w' hr
  cases e with
  |returned v=>obtain ⟨rfl,rfl⟩:=hr;exact hk
  |panicked c=>exact hr.elim
  |outgrown=>exact hr.elim
def Ext (w w':World):Prop:=Go.RowKit.Below w.heap.size w w'
theorem Ext.refl (w:World):Ext w w:=Go.RowKit.Below.refl _ _
theorem Ext.size {w w':World} (h:Ext w w'):w.heap.size≤w'.heap.size:=Go.RowKit.Below.size h
theorem Ext.blk {w w':World} (h:Ext w w') (b:Nat) (hb:b<w.heap.size):w'.heap[b]? =w.heap[b]? :=Go.RowKit.Below.block h b hb
theorem Ext.trans {a b c:World} (h:Ext a b) (k:Ext b c):Ext a c:=Go.RowKit.Below.trans h (Go.RowKit.Below.mono k h.size)
theorem Ext.alloc {a w:World} (h:Ext a w) (o:Obj):Ext a (w.alloc o):=Go.RowKit.Below.alloc h h.size o
theorem Ext.drew {a w:World} (h:Ext a w):Ext a w.drew:=Go.RowKit.Below.drew h
theorem Ext.setCell {a w:World} (h:Ext a w) {p:Addr} (hp:a.heap.size≤p.block) (u:Value):Ext a (w.setCell p u):=Go.RowKit.Below.setCell h hp u
theorem Ext.cell {w w':World} (h:Ext w w') (b o:Nat) (hb:b<w.heap.size):w'.cell? ⟨b,o,none⟩=w.cell? ⟨b,o,none⟩:=Go.RowKit.Below.cell (p:=⟨b,o,none⟩) h hb
theorem Ext.alloc_self (w:World) (o:Obj):Ext w (w.alloc o):=(Ext.refl w).alloc o
theorem lt_of_cell {w:World} {b o:Nat} {v:Value} (h:w.cell? ⟨b,o,none⟩=some v):b<w.heap.size:=World.block_lt_of_cell? (a:=⟨b,o,none⟩) w h
theorem Ext.cell_some {w w':World} (h:Ext w w') {b o:Nat} {v:Value} (hc:w.cell? ⟨b,o,none⟩=some v):w'.cell? ⟨b,o,none⟩=some v:=by
 rw [h.cell b o (lt_of_cell hc)];exact hc
theorem Ext.heap_some {w w':World} (h:Ext w w') {b:Nat} {o:Obj} (hc:w.heap[b]? =some o):w'.heap[b]? =some o:=by
 have hb:b<w.heap.size:=by
  rcases Nat.lt_or_ge b w.heap.size with h|h
  ·exact h
  ·rw [Array.getElem?_eq_none h] at hc;cases hc
 rw [h.blk b hb];exact hc
theorem cell_new (w:World) (c:Array Value) (t:TypeId) (b i:Nat) (h:b=w.heap.size):(w.alloc (.cells c t)).cell? ⟨b,i,none⟩=c[i]? :=by subst h;exact World.cell?_alloc_new w c t i
theorem cell_old (w:World) (o:Obj) (b i:Nat) (h:b<w.heap.size):(w.alloc o).cell? ⟨b,i,none⟩=w.cell? ⟨b,i,none⟩:=World.cell?_alloc_lt (w:=w) (a:=⟨b,i,none⟩) (o:=o) h
theorem cell_drew (w:World) (a:Addr):w.drew.cell? a=w.cell? a:=rfl
theorem frozen_new (w:World) (c:Array Value) (t:TypeId) (b i:Nat) (h:b=w.heap.size):(w.alloc (.cells c t)).frozen? ⟨b,i,none⟩=false:=by subst h;exact World.frozen?_alloc_new w c t i
theorem frozen_old (w:World) (o:Obj) (b i:Nat) (h:b<w.heap.size):(w.alloc o).frozen? ⟨b,i,none⟩=w.frozen? ⟨b,i,none⟩:=World.frozen?_alloc_old (w:=w) (a:=⟨b,i,none⟩) (o:=o) (Nat.ne_of_lt h)
theorem frozen_drew (w:World) (a:Addr):w.drew.frozen? a=w.frozen? a:=rfl
theorem set_new (w:World) (c:Array Value) (t:TypeId) (b i:Nat) (v:Value) (h:b=w.heap.size):(w.alloc (.cells c t)).setCell ⟨b,i,none⟩ v=w.alloc (.cells (c.setIfInBounds i v) t):=by subst h;exact World.setCell_alloc_new (w:=w) c t i v
theorem set_old (w:World) (o:Obj) (b i:Nat) (v:Value) (h:b<w.heap.size):(w.alloc o).setCell ⟨b,i,none⟩ v=(w.setCell ⟨b,i,none⟩ v).alloc o:=World.setCell_alloc_past (w:=w) o b i v h
theorem set_drew (w:World) (a:Addr) (v:Value):w.drew.setCell a v=(w.setCell a v).drew:=rfl
theorem alloc_drew (w:World) (o:Obj):w.drew.alloc o=(w.alloc o).drew:=rfl
theorem size_drew (w:World):w.drew.heap.size=w.heap.size:=rfl
theorem size_alloc (w:World) (o:Obj):(w.alloc o).heap.size=w.heap.size+1:=World.size_alloc w o
theorem size_set (w:World) (a:Addr) (v:Value):(w.setCell a v).heap.size=w.heap.size:=World.size_setCell w a v
theorem arr0 (a:Value) (l:List Value):(a::l).toArray[0]? =some a:=rfl
theorem arr1 (a b:Value) (l:List Value):(a::b::l).toArray[1]? =some b:=rfl
theorem arr2 (a b c:Value) (l:List Value):(a::b::c::l).toArray[2]? =some c:=rfl
theorem arr3 (a b c d:Value) (l:List Value):(a::b::c::d::l).toArray[3]? =some d:=rfl
theorem arr4 (a b c d e:Value) (l:List Value):(a::b::c::d::e::l).toArray[4]? =some e:=rfl
theorem aset0 (a v:Value) (l:List Value):(a::l).toArray.setIfInBounds 0 v=(v::l).toArray:=by simp
theorem aset1 (a b v:Value) (l:List Value):(a::b::l).toArray.setIfInBounds 1 v=(a::v::l).toArray:=by simp
theorem aset2 (a b c v:Value) (l:List Value):(a::b::c::l).toArray.setIfInBounds 2 v=(a::b::v::l).toArray:=by simp
theorem aset3 (a b c d v:Value) (l:List Value):(a::b::c::d::l).toArray.setIfInBounds 3 v=(a::b::c::v::l).toArray:=by simp
theorem aset4 (a b c d e v:Value) (l:List Value):(a::b::c::d::e::l).toArray.setIfInBounds 4 v=(a::b::c::d::v::l).toArray:=by simp
theorem beqNat_refl (n:Nat):Nat.beq n n=true:=Nat.beq_refl n
theorem setCells_nil (w:World) (b o:Nat):setCells w b o []=w:=rfl
theorem setCells_cons (w:World) (b o:Nat) (v:Value) (l:List Value):setCells w b o (v::l)=setCells (w.setCell ⟨b,o,none⟩ v) b (o+1) l:=rfl
theorem allOne_nil:allOne []=true:=rfl
theorem allOne_cons (v:Value) (l:List Value) (h:isOne v=true):allOne (v::l)=allOne l:=by simp [allOne,h]
theorem freeRow_zero (w:World) (b o:Nat):freeRow w b o 0=true:=rfl
theorem freeRow_succ (w:World) (b o n:Nat):freeRow w b o (n+1)=((w.cell? ⟨b,o,none⟩).isSome&&(!w.frozen? ⟨b,o,none⟩&&freeRow w b (o+1) n)):=rfl
def consO (x:Option Value) (y:Option (List Value)):Option (List Value):=
 match x,y with
 |some v,some l=>some (v::l)
 |_,_=>none
theorem consO_some (v:Value) (l:List Value):consO (some v) (some l)=some (v::l):=rfl
theorem cellsFrom_succ (w:World) (b o n:Nat):cellsFrom w b o (n+1)=consO (w.cell? ⟨b,o,none⟩) (cellsFrom w b (o+1) n):=by
 conv=>lhs;unfold cellsFrom
 cases w.cell? ⟨b,o,none⟩<;>cases cellsFrom w b (o+1) n<;>rfl
set_option linter.defProp false in
def RZ:=And.intro size_drew<|And.intro size_alloc size_set
theorem zu8:Value.int .u8 0=Value.int .u8 ((0:Nat):Int):=rfl
theorem zu16:Value.int .u16 0=Value.int .u16 ((0:Nat):Int):=rfl
theorem zu32:Value.int .u32 0=Value.int .u32 ((0:Nat):Int):=rfl
theorem zu64:Value.int .u64 0=Value.int .u64 ((0:Nat):Int):=rfl
theorem false_true:(false=true)=False:=by simp
theorem true_false:(true=false)=False:=by simp
set_option linter.defProp false in
def RS:=And.intro zu8<|And.intro zu16<|And.intro zu32<|And.intro zu64<|And.intro setCells_nil<|And.intro setCells_cons<|And.intro allOne_nil<|And.intro allOne_cons<|And.intro freeRow_zero<|And.intro freeRow_succ<|And.intro consO_some<|And.intro cellsFrom_zero<|And.intro cellsFrom_succ<|And.intro (@Option.isSome_some Value)<|And.intro beqNat_refl<|And.intro (@List.length_cons Value) (@List.length_nil Value)
set_option linter.defProp false in
def RW:=And.intro cell_new<|And.intro cell_old<|And.intro cell_drew<|And.intro frozen_new<|And.intro frozen_old<|And.intro frozen_drew<|And.intro set_new<|And.intro set_old<|And.intro set_drew<|And.intro alloc_drew<|
 And.intro size_drew<|And.intro size_alloc<|And.intro size_set<|And.intro arr0<|And.intro arr1<|And.intro arr2<|And.intro arr3<|And.intro arr4<|And.intro aset0<|And.intro aset1<|And.intro aset2<|And.intro aset3 aset4
def pnd (p:Prop):Prop:=p
def hld (p:Prop):Prop:=p
theorem pnd_eq (p:Prop):pnd p=hld p:=rfl
inductive Dep (A B:Prop):Type
 |mk
def brS (p A B:Prop) (_:Dep A B:= .mk):Prop:=(p→A)∧(¬p→B)
theorem brS_mk {p A B:Prop} (h1:p→A) (h2:¬p→B):brS (hld p) A B:=⟨h1,h2⟩
theorem brS_true (A B:Prop):brS (hld True) A B=A:=by unfold brS hld;simp
theorem brS_false (A B:Prop):brS (hld False) A B=B:=by unfold brS hld;simp
theorem brS_not (p A B:Prop):brS (hld (¬p)) A B=brS (pnd p) B A:=by
 unfold brS hld pnd;by_cases h:p<;>simp [h]
theorem cnd_bl (b:Bool) (A B:Prop):cndS (.bool b) A B=brS (pnd (b=true)) A B:=by
 unfold brS pnd;cases b<;>simp [cndS]
theorem pick_bl (c:Bool) (a b:Value) (w:World) (k:K1):pickS (.bool c) a b w k=brS (pnd (c=true)) (k a w) (k b w):=by
 unfold brS pnd;cases c<;>simp [pickS]
theorem pickV_bl (c:Bool) (a b:Value) (k:Value→Prop):pickV (.bool c) a b k=brS (pnd (c=true)) (k a) (k b):=by
 unfold brS pnd;cases c<;>simp [pickV]
theorem gd_blT (c:Bool) (y:K1→Prop) (w:World) (k:K1):gd (.bool c) true y w k=brS (pnd (c=true)) (y k) (k undef w):=by
 unfold brS pnd;cases c<;>simp [gd_tt,gd_ft]
theorem gd_blF (c:Bool) (y:K1→Prop) (w:World) (k:K1):gd (.bool c) false y w k=brS (pnd (c=true)) (k undef w) (y k):=by
 unfold brS pnd;cases c<;>simp [gd_ff,gd_tf]
theorem gdR_blT (c:Bool) (y:(Value→Prop)→Prop) (k:Value→Prop):gdR (.bool c) true y k=brS (pnd (c=true)) (y k) (k undef):=by
 unfold brS pnd;cases c<;>simp [gdR_tt,gdR_ft]
theorem gdR_blF (c:Bool) (y:(Value→Prop)→Prop) (k:Value→Prop):gdR (.bool c) false y k=brS (pnd (c=true)) (k undef) (y k):=by
 unfold brS pnd;cases c<;>simp [gdR_ff,gdR_tf]
theorem gq_blT (c:Bool) (A:Prop):gq (.bool c) true A=brS (pnd (c=true)) A True:=by
 unfold brS pnd;cases c<;>simp [gq_tt,gq_ft]
theorem gq_blF (c:Bool) (A:Prop):gq (.bool c) false A=brS (pnd (c=true)) True A:=by
 unfold brS pnd;cases c<;>simp [gq_ff,gq_tf]
theorem gd_u (b:Bool) (y:K1→Prop) (w:World) (k:K1):gd undef b y w k=k undef w:=rfl
theorem gdR_u (b:Bool) (y:(Value→Prop)→Prop) (k:Value→Prop):gdR undef b y k=k undef:=rfl
theorem gq_u (b:Bool) (A:Prop):gq undef b A=True:=rfl
theorem dec_iff (p:Prop) [Decidable p]:(decide p=true)=p:=by simp
theorem not_iff (b:Bool):((!b)=true)=¬(b=true):=by cases b<;>simp
theorem true_iff:(true=true)=True:=by simp
theorem not_t:(¬True)=False:=by simp
theorem not_f:(¬False)=True:=by simp
set_option linter.defProp false in
def RBp:=And.intro gd_u<|And.intro gdR_u<|And.intro gq_u<|And.intro cnd_bl<|And.intro pick_bl<|And.intro pickV_bl<|And.intro gd_blT<|And.intro gd_blF<|And.intro gdR_blT<|And.intro gdR_blF<|And.intro gq_blT gq_blF
set_option linter.defProp false in
def RBr:=And.intro pnd_eq<|And.intro false_true<|And.intro true_false<|And.intro brS_true<|And.intro brS_false<|And.intro brS_not<|And.intro @dec_iff<|And.intro not_iff<|And.intro true_iff<|And.intro not_t not_f
set_option linter.defProp false in
def RX:=And.intro RBr<|And.intro RW RS
theorem Ext.setB {a w:World} (h:Ext a w) {b i:Nat} (hb:a.heap.size≤b) (u:Value):Ext a (w.setCell ⟨b,i,none⟩ u):=h.setCell hb u
theorem heap_alloc_lt {w:World} {b:Nat} (o:Obj) (h:b<w.heap.size):(w.alloc o).heap[b]? =w.heap[b]? :=by
 show (w.heap.push o)[b]? =_
 rw [Array.getElem?_push,if_neg (by omega)]
theorem heap_alloc_eq (w:World) (o:Obj):(w.alloc o).heap[w.heap.size]? =some o:=by
 show (w.heap.push o)[w.heap.size]? =_
 rw [Array.getElem?_push,if_pos rfl]
theorem heap_set_ne {w:World} {b:Nat} {a:Addr} (v:Value) (h:b≠a.block):(w.setCell a v).heap[b]? =w.heap[b]? :=by
 simp only [World.setCell,Array.getElem?_modify]
 rw [if_neg (by omega)]
theorem lt_of_heap {w:World} {b:Nat} {o:Obj} (h:w.heap[b]? =some o):b<w.heap.size:=by
 rcases Nat.lt_or_ge b w.heap.size with h'|h'
 ·exact h'
 ·rw [Array.getElem?_eq_none h'] at h;cases h
structure Frm (F:Nat→Prop) (w w':World):Prop where
 os:w'.os=w.os
 tape:w'.tape=w.tape
 output:w'.output=w.output
 size:w.heap.size≤w'.heap.size
 block:∀k,k<w.heap.size→¬F k→w'.heap[k]? =w.heap[k]?
theorem Frm.refl (F:Nat→Prop) (w:World):Frm F w w:=⟨rfl,rfl,rfl,Nat.le_refl _,fun _ _ _=>rfl⟩
theorem Frm.of_ext {F:Nat→Prop} {w w':World} (h:Ext w w'):Frm F w w':=⟨h.os,h.tape,h.output,Ext.size h,fun k hk _=>Ext.blk h k hk⟩
theorem Frm.to_ext {w w':World} {F:Nat→Prop} (h:Frm F w w') (hF:∀b,b<w.heap.size→¬F b):Ext w w':=⟨h.os,h.tape,h.output,h.size,fun k hk=>h.block k hk (hF k hk)⟩
theorem Frm.mono {F G:Nat→Prop} {w w':World} (h:Frm F w w') (hG:∀b,F b→G b):Frm G w w':=⟨h.os,h.tape,h.output,h.size,fun k hk hn=>h.block k hk (fun hf=>hn (hG k hf))⟩
theorem Frm.trans {F G:Nat→Prop} {a b c:World} (h:Frm F a b) (k:Frm G b c) (hG:∀x,x<a.heap.size→G x→F x):Frm F a c:=
 ⟨k.os.trans h.os,k.tape.trans h.tape,k.output.trans h.output,Nat.le_trans h.size k.size,
  fun x hx hn=>(k.block x (Nat.lt_of_lt_of_le hx h.size) (fun hg=>hn (hG x hx hg))).trans (h.block x hx hn)⟩
theorem Frm.alloc {F:Nat→Prop} {a w:World} (h:Frm F a w) (o:Obj):Frm F a (w.alloc o):=
 h.trans (G:=fun _=>False) (Frm.of_ext (Ext.alloc_self w o)) (fun _ _ h=>h.elim)
theorem Frm.drew {F:Nat→Prop} {a w:World} (h:Frm F a w):Frm F a w.drew:=⟨h.os,h.tape,h.output,h.size,h.block⟩
theorem Frm.set {F:Nat→Prop} {a w:World} (h:Frm F a w) {p:Addr} (v:Value) (hp:p.block<a.heap.size→F p.block):Frm F a (w.setCell p v):=
 h.trans (G:=fun b=>b=p.block) ⟨rfl,rfl,rfl,by simp [World.setCell],fun k _ hn=>heap_set_ne v hn⟩ (fun x hx e=>by subst e;exact hp hx)
theorem Frm.ext {F:Nat→Prop} {a w w':World} (h:Frm F a w) (e:Ext w w'):Frm F a w':=h.trans (G:=fun _=>False) (Frm.of_ext e) (fun _ _ h=>h.elim)
def Cells (w:World) (b:Nat) (t:TypeId) (n:Nat) (f:Nat→Value):Prop:=∃a:Array Value,w.heap[b]? =some (.cells a t (0,0))∧n≤a.size∧∀i,i<n→a[i]? =some (f i)
section
variable {w w':World} {b b' n m:Nat} {t t':TypeId} {f g:Nat→Value}
theorem Cells.lt (h:Cells w b t n f):b<w.heap.size:=by obtain ⟨a,h,_⟩:=h;exact lt_of_heap h
theorem Cells.of_heap (h:Cells w b t n f) (e:w'.heap[b]? =w.heap[b]?):Cells w' b t n f:=by obtain ⟨a,h,h2⟩:=h;exact ⟨a,e.trans h,h2⟩
theorem Cells.ext (h:Cells w b t n f) (e:Ext w w'):Cells w' b t n f:=h.of_heap (e.blk b h.lt)
theorem Cells.frm {F:Nat→Prop} (h:Cells w b t n f) (e:Frm F w w') (hb:¬F b):Cells w' b t n f:=h.of_heap (e.block b h.lt hb)
theorem Cells.alloc (h:Cells w b t n f) (o:Obj):Cells (w.alloc o) b t n f:=h.of_heap (heap_alloc_lt o h.lt)
theorem Cells.drew (h:Cells w b t n f):Cells w.drew b t n f:=h
theorem Cells.cell (h:Cells w b t n f) {i:Nat} (hi:i<n):w.cell? ⟨b,i,none⟩=some (f i):=by
 obtain ⟨a,h,hs,hf⟩:=h
 rw [cell_of_blk h];exact hf i hi
theorem Cells.frz (h:Cells w b t n f) (i:Nat):w.frozen? ⟨b,i,none⟩=false:=by
 obtain ⟨a,h,hs,hf⟩:=h
 unfold World.frozen?;simp only [h];simp
theorem Cells.congr (h:Cells w b t n f) (e:∀i,i<n→f i=g i):Cells w b t n g:=by
 obtain ⟨a,h,hs,hf⟩:=h
 exact ⟨a,h,hs,fun i hi=>by rw [←e i hi];exact hf i hi⟩
theorem Cells.ty (h:Cells w b t n f) (h':Cells w b t' m g):t=t':=by
 obtain ⟨a,h,hs,hf⟩:=h
 obtain ⟨a',h',hs',hf'⟩:=h'
 rw [h] at h';injection h' with h';injection h'
theorem Cells.ne (h:Cells w b t n f) (h':Cells w b' t' m g) (ht:t≠t'):b≠b':=by
 intro e;subst e;exact ht (h.ty h')
theorem Cells.set_ne (h:Cells w b t n f) {a:Addr} (v:Value) (hb:b≠a.block):Cells (w.setCell a v) b t n f:=h.of_heap (heap_set_ne v hb)
theorem Cells.set (h:Cells w b t n f) {i:Nat} (v:Value) (hi:i<n):Cells (w.setCell ⟨b,i,none⟩ v) b t n (fun j=>if j=i then v else f j):=by
 obtain ⟨a,h,hs,hf⟩:=h
 refine ⟨a.setIfInBounds i v,?_,by simp [hs],?_⟩
 ·simp only [World.setCell,Array.getElem?_modify,h];simp
 ·intro j hj
  rw [Array.getElem?_setIfInBounds]
  by_cases e:i=j
  ·subst e;simp;omega
  ·have e':¬j=i:=fun h=>e h.symm
   simp only [e,e',if_false];exact hf j hj
theorem Cells.new (w:World) (l:List Value) (t:TypeId):Cells (w.alloc (.cells l.toArray t)) w.heap.size t l.length (fun i=>l.getD i undef):=by
 refine ⟨l.toArray,heap_alloc_eq _ _,by simp,?_⟩
 intro i hi
 simp [hi]
end
def SlO (w:World) (t:TypeId) (z:Nat) (v:Value) (n:Nat) (L:List Value):Prop:=L.length=n*z∧((v= .slice none 0 0∧n=0)∨
 ∃b o cap a,v= .slice (some ⟨b,o,none⟩) n cap∧w.heap[b]? =some (.cells a t (0,0))∧n≤cap∧cap≤maxLen∧o+cap*z≤a.size∧∀i u,L[i]? =some u→a[o+i]? =some u)
section
variable {w w':World} {t:TypeId} {z n:Nat} {v:Value} {L:List Value}
theorem SlO.nil (w:World) (t:TypeId) (z:Nat):SlO w t z (.slice none 0 0) 0 []:=⟨by simp,.inl ⟨rfl,rfl⟩⟩
theorem SlO.lt (h:SlO w t z v n L) {b:Nat} (hb:v.ownBlock=some b):b<w.heap.size:=by
 rcases h.2 with ⟨rfl,_⟩|⟨b',o,cap,a,rfl,hh,_⟩
 ·cases hb
 ·injection hb with hb;subst hb;exact lt_of_heap hh
theorem SlO.of_heap (h:SlO w t z v n L) (e:∀b,v.ownBlock=some b→w'.heap[b]? =w.heap[b]?):SlO w' t z v n L:=by
 refine ⟨h.1,?_⟩
 rcases h.2 with h|⟨b',o,cap,a,rfl,hh,h2⟩
 ·exact .inl h
 ·exact .inr ⟨b',o,cap,a,rfl,(e b' rfl).trans hh,h2⟩
theorem SlO.ext (h:SlO w t z v n L) (e:Ext w w'):SlO w' t z v n L:=h.of_heap (fun b hb=>e.blk b (h.lt hb))
theorem SlO.frm {F:Nat→Prop} (h:SlO w t z v n L) (e:Frm F w w') (hF:∀b,v.ownBlock=some b→¬F b):SlO w' t z v n L:=h.of_heap (fun b hb=>e.block b (h.lt hb) (hF b hb))
theorem SlO.cell (h:SlO w t z v n L) {b o m cap:Nat} (hv:v= .slice (some ⟨b,o,none⟩) m cap) {i:Nat} {u:Value} (hi:L[i]? =some u):w.cell? ⟨b,o+i,none⟩=some u:=by
 rcases h.2 with ⟨rfl,_⟩|⟨b',o',cap',a,rfl,hh,_,_,_,h2⟩
 ·cases hv
 ·injection hv with h3 h4 h5;injection h3 with h3;injection h3 with h3 h6;subst h3;subst h6
  rw [cell_of_blk hh];exact h2 i u hi
theorem SlO.lit (w:World) (t:TypeId) (z n:Nat) (l:List Value) (hl:l.length=n*z) (hm:n≤maxLen):SlO (w.alloc (.cells l.toArray t)) t z (.slice (some ⟨w.heap.size,0,none⟩) n n) n l:=
 ⟨hl,.inr ⟨w.heap.size,0,n,l.toArray,rfl,heap_alloc_eq _ _,Nat.le_refl _,hm,by simp [hl],by intro i u h;simpa using h⟩⟩
theorem SlO.isS {t:TypeId} {z n:Nat} {v:Value} {L:List Value} (h:SlO w t z v n L) (hn:0<n):∃b o cap,v= .slice (.some ⟨b,o,none⟩) n cap∧n≤cap:=by
 obtain ⟨hl,h2⟩:=h
 cases h2 with
 |inl h=>exact absurd h.2 (by omega)
 |inr h=>obtain ⟨b,o,cap,a,e,_,e2,_⟩:=h;exact ⟨b,o,cap,e,e2⟩
theorem SlO.drop {t:TypeId} {z n b o m cap k:Nat} {L:List Value} (h:SlO w t z (.slice (some ⟨b,o,none⟩) m cap) n L) (hk:k≤n):SlO w t z (.slice (some ⟨b,if cap=k then o else o+k*z,none⟩) (m-k) (cap-k)) (n-k) (L.drop (k*z)):=by
 obtain ⟨hl,h2⟩:=h
 rcases h2 with ⟨e,_⟩|⟨b',o',cap',a,e,hh,h1,h3,h4,h5⟩
 ·cases e
 ·injection e with e1 e2 e3;injection e1 with e1;injection e1 with e1 e4;subst e1;subst e4;subst e2;subst e3
  refine ⟨by rw [List.length_drop,hl,Nat.sub_mul],.inr ⟨b,_,cap-k,a,rfl,hh,by omega,by omega,?_,?_⟩⟩
  ·split
   ·rename_i e;rw [e] at h4 ⊢;simp;omega
   ·rw [Nat.sub_mul]
    have:=Nat.mul_le_mul_right z (show k≤cap by omega)
    omega
  ·intro i u hu
   rw [List.getElem?_drop] at hu
   split
   ·rename_i e
    have hlt:=(List.getElem?_eq_some_iff.1 hu).1
    rw [hl] at hlt
    have:m=k:=by omega
    rw [this] at hlt;omega
   ·have:=h5 _ _ hu;rw [←this];congr 1;omega
end
theorem SlO.frz {w:World} {t:TypeId} {z n:Nat} {v:Value} {L:List Value} (h:SlO w t z v n L) {b:Nat} (hb:v.ownBlock=some b) (i:Nat):w.frozen? ⟨b,i,none⟩=false:=by
 rcases h.2 with ⟨rfl,_⟩|⟨b',o,cap,a,rfl,hh,_⟩
 ·cases hb
 ·injection hb with hb;subst hb;unfold World.frozen?;simp only [hh];simp
theorem eB {a w:World} (h:Ext a w) {b i:Nat} (u:Value) (hb:a.heap.size≤b:=by first|omega|(simp only [RZ]<;>omega)):Ext a (w.setCell ⟨b,i,none⟩ u):=Ext.setB h hb u
theorem eR (w:World):Ext w w:=Ext.refl w
theorem eA {a w:World} (h:Ext a w) (o:Obj):Ext a (w.alloc o):=Ext.alloc h o
theorem eD {a w:World} (h:Ext a w):Ext a w.drew:=Ext.drew h
theorem eT {a b c:World} (h:Ext a b) (k:Ext b c):Ext a c:=Ext.trans h k
theorem xZ {a b:World} (h:Ext a b:=by repeat (first|(with_reducible first|refine Go.Sh.eB ?_ _|assumption|exact Go.Sh.eR _|refine Go.Sh.eA ?_ _|refine Go.Sh.eD ?_|refine Go.Sh.eT ?_ (by assumption))|exact Go.Sh.eR _)):Ext a b:=h
theorem oM {p:Prop} (h:p:=by omega):p:=h
theorem dZ {p:Prop} (h:p:=by first|omega|(simp only [Go.Sh.RO];done)|((simp only [Go.Sh.RZ]<;>omega);done)|fail):p:=h
theorem cast_wrap {k:IntKind} {n:Nat} (hu:unsg k=true) (h:n<2^k.bits):k.wrap (n:Int)=n:=by
 unfold IntKind.wrap
 have hs:k.signed=false:=by cases k<;>first|rfl|cases hu
 simp only [hs,Bool.false_and,Bool.false_eq_true,if_false]
 exact Int.emod_eq_of_lt (by omega) (by exact_mod_cast h)
theorem cast_wrap_mod {k:IntKind} {n:Nat} (hu:unsg k=true):k.wrap (n:Int)=((n%2^k.bits:Nat):Int):=by
 unfold IntKind.wrap
 have hs:k.signed=false:=by cases k<;>first|rfl|cases hu
 simp only [hs,Bool.false_and,Bool.false_eq_true,if_false]
 norm_cast
theorem add_nat {P:Program} {k:IntKind} (hu:unsg k=true) (t:TypeId) (x y:Operand) (a b:Nat) (w:World) (h:a+b<2^k.bits):(binM .add t x y (.int k a) (.int k b)).run P w= .ok (.int k ((a+b:Nat):Int)) w:=by
 rw [run_add];congr 2;exact_mod_cast cast_wrap hu h
theorem sub_nat {P:Program} {k:IntKind} (hu:unsg k=true) (t:TypeId) (x y:Operand) (a b:Nat) (w:World) (h0:b≤a) (h:a<2^k.bits):(binM .sub t x y (.int k a) (.int k b)).run P w= .ok (.int k ((a-b:Nat):Int)) w:=by
 rw [run_sub];congr 2
 rw [show (a:Int)-(b:Int)=((a-b:Nat):Int) by omega]
 exact cast_wrap hu (by omega)
theorem mul_nat {P:Program} {k:IntKind} (hu:unsg k=true) (t:TypeId) (x y:Operand) (a b:Nat) (w:World) (h:a*b<2^k.bits):(binM .mul t x y (.int k a) (.int k b)).run P w= .ok (.int k ((a*b:Nat):Int)) w:=by
 rw [run_mul];congr 2;exact_mod_cast cast_wrap hu h
theorem quo_nat {P:Program} {k:IntKind} (hu:unsg k=true) (t:TypeId) (x y:Operand) (a b:Nat) (w:World) (h:a<2^k.bits) (hb:0<b):(binM .quo t x y (.int k a) (.int k b)).run P w= .ok (.int k ((a/b:Nat):Int)) w:=by
 rw [run_quo t x y k a b w (by omega) (by omega) (by have:=cast_wrap hu (Nat.lt_of_le_of_lt (Nat.div_le_self a b) h);exact_mod_cast this)]
 rfl
theorem rem_nat {P:Program} {k:IntKind} (t:TypeId) (x y:Operand) (a b:Nat) (w:World) (hb:0<b):(binM .rem t x y (.int k a) (.int k b)).run P w= .ok (.int k ((a%b:Nat):Int)) w:=by
 rw [run_rem t x y k a b w (by omega) (by omega)];norm_cast
theorem shr_nat {P:Program} {k j:IntKind} (t:TypeId) (x y:Operand) (a n:Nat) (w:World) (hn:n≤k.bits):(binM .shr t x y (.int k a) (.int j n)).run P w= .ok (.int k ((a/2^n:Nat):Int)) w:=by
 rw [run_shr t x y k j a n w (by omega)]
 simp only [Int.toNat_natCast,Nat.min_eq_left hn]
 try norm_cast
theorem shl_nat {P:Program} {k j:IntKind} (hu:unsg k=true) (t:TypeId) (x y:Operand) (a n:Nat) (w:World) (hn:n≤k.bits):(binM .shl t x y (.int k a) (.int j n)).run P w= .ok (.int k ((a*2^n%2^k.bits:Nat):Int)) w:=by
 rw [run_shl t x y k j a n w (by omega)]
 simp only [Int.toNat_natCast,Nat.min_eq_left hn]
 have:=cast_wrap_mod (k:=k) (n:=a*2^n) hu
 rw [←this]
 norm_cast
theorem and_nat {P:Program} {k:IntKind} (hu:unsg k=true) (t:TypeId) (x y:Operand) (a b:Nat) (w:World) (ha:a<2^k.bits) (hb:b<2^k.bits):(binM .and t x y (.int k a) (.int k b)).run P w= .ok (.int k ((a&&&b:Nat):Int)) w:=by
 rw [run_and t x y hu a b w (by omega) (by exact_mod_cast ha) (by omega) (by exact_mod_cast hb)];simp only [Int.toNat_natCast]
theorem or_nat {P:Program} {k:IntKind} (hu:unsg k=true) (t:TypeId) (x y:Operand) (a b:Nat) (w:World) (ha:a<2^k.bits) (hb:b<2^k.bits):(binM .or t x y (.int k a) (.int k b)).run P w= .ok (.int k ((a|||b:Nat):Int)) w:=by
 rw [run_or t x y hu a b w (by omega) (by exact_mod_cast ha) (by omega) (by exact_mod_cast hb)];simp only [Int.toNat_natCast]
theorem xor_nat {P:Program} {k:IntKind} (hu:unsg k=true) (t:TypeId) (x y:Operand) (a b:Nat) (w:World) (ha:a<2^k.bits) (hb:b<2^k.bits):(binM .xor t x y (.int k a) (.int k b)).run P w= .ok (.int k ((a^^^b:Nat):Int)) w:=by
 rw [run_xor t x y hu a b w (by omega) (by exact_mod_cast ha) (by omega) (by exact_mod_cast hb)];simp only [Int.toNat_natCast]
theorem lss_nat {P:Program} (k:IntKind) (t:TypeId) (x y:Operand) (a b:Nat) (w:World):(binM .lss t x y (.int k a) (.int k b)).run P w= .ok (.bool (decide (a<b))) w:=by rw [run_lss];simp only [Int.ofNat_lt]
theorem leq_nat {P:Program} (k:IntKind) (t:TypeId) (x y:Operand) (a b:Nat) (w:World):(binM .leq t x y (.int k a) (.int k b)).run P w= .ok (.bool (decide (a≤b))) w:=by rw [run_leq];simp only [Int.ofNat_le]
theorem gtr_nat {P:Program} (k:IntKind) (t:TypeId) (x y:Operand) (a b:Nat) (w:World):(binM .gtr t x y (.int k a) (.int k b)).run P w= .ok (.bool (decide (b<a))) w:=by rw [run_gtr];simp only [Int.ofNat_lt]
theorem geq_nat {P:Program} (k:IntKind) (t:TypeId) (x y:Operand) (a b:Nat) (w:World):(binM .geq t x y (.int k a) (.int k b)).run P w= .ok (.bool (decide (b≤a))) w:=by rw [run_geq];simp only [Int.ofNat_le]
theorem eql_nat {P:Program} (k:IntKind) (t:TypeId) (x y:Operand) (a b:Nat) (w:World):(binM .eql t x y (.int k a) (.int k b)).run P w= .ok (.bool (decide (a=b))) w:=by rw [run_eql];simp only [Int.ofNat_inj]
theorem neq_nat {P:Program} (k:IntKind) (t:TypeId) (x y:Operand) (a b:Nat) (w:World):(binM .neq t x y (.int k a) (.int k b)).run P w= .ok (.bool (!decide (a=b))) w:=by rw [run_neq];simp only [Int.ofNat_inj]
theorem com_nat {P:Program} {k:IntKind} (hu:unsg k=true) (a:Nat) (w:World) (ha:a<2^k.bits):(Op.unary .xor (.int k a)).run P w= .ok (.int k (((2^k.bits-1)^^^a:Nat):Int)) w:=by
 have hs:k.signed=false:=by cases k<;>first|rfl|cases hu
 have hm:k.max=((2^k.bits-1:Nat):Int):=by cases k<;>first|rfl|cases hu
 have h2:0<2^k.bits:=Nat.two_pow_pos _
 simp only [Op.unary,hs,Bool.false_eq_true,if_false,Op.intBits,hm]
 rw [Sem.run_pure,wrap_toNat hu,BitVec.toNat_xor,ofInt_toNat (by omega) (by exact_mod_cast (by omega:2^k.bits-1<2^k.bits)),ofInt_toNat (by omega) (by exact_mod_cast ha)]
 simp only [Int.toNat_natCast]
section
variable (P:Program)
theorem ev_rem_u8 (t:TypeId) (x y:Operand) (a b:Nat) (w:World) (k:K1) (hb:0<b):ev P (binM .rem t x y (.int .u8 (a:Int)) (.int .u8 (b:Int))) w k=k (.int .u8 ((a%b:Nat):Int)) w:=ev_of_run (rem_nat (k:= .u8) t x y a b w hb) k
theorem ev_and_u8 (t:TypeId) (x y:Operand) (a b:Nat) (w:World) (k:K1) (ha:a<256) (hb:b<256):ev P (binM .and t x y (.int .u8 (a:Int)) (.int .u8 (b:Int))) w k=k (.int .u8 ((a&&&b:Nat):Int)) w:=ev_of_run (and_nat (k:= .u8) rfl t x y a b w ha hb) k
theorem rd_and_u8 (t:TypeId) (x y:Operand) (a b:Nat) (w:World) (k:Value→Prop) (ha:a<256) (hb:b<256):rd P (binM .and t x y (.int .u8 (a:Int)) (.int .u8 (b:Int))) w k=k (.int .u8 ((a&&&b:Nat):Int)):=rd_of_run (and_nat (k:= .u8) rfl t x y a b w ha hb) k
theorem ev_lss_u8 (t:TypeId) (x y:Operand) (a b:Nat) (w:World) (k:K1):ev P (binM .lss t x y (.int .u8 (a:Int)) (.int .u8 (b:Int))) w k=k (.bool (decide (a<b))) w:=ev_of_run (lss_nat .u8 t x y a b w) k
theorem rd_lss_u8 (t:TypeId) (x y:Operand) (a b:Nat) (w:World) (k:Value→Prop):rd P (binM .lss t x y (.int .u8 (a:Int)) (.int .u8 (b:Int))) w k=k (.bool (decide (a<b))):=rd_of_run (lss_nat .u8 t x y a b w) k
theorem ev_leq_u8 (t:TypeId) (x y:Operand) (a b:Nat) (w:World) (k:K1):ev P (binM .leq t x y (.int .u8 (a:Int)) (.int .u8 (b:Int))) w k=k (.bool (decide (a≤b))) w:=ev_of_run (leq_nat .u8 t x y a b w) k
theorem ev_gtr_u8 (t:TypeId) (x y:Operand) (a b:Nat) (w:World) (k:K1):ev P (binM .gtr t x y (.int .u8 (a:Int)) (.int .u8 (b:Int))) w k=k (.bool (decide (b<a))) w:=ev_of_run (gtr_nat .u8 t x y a b w) k
theorem ev_geq_u8 (t:TypeId) (x y:Operand) (a b:Nat) (w:World) (k:K1):ev P (binM .geq t x y (.int .u8 (a:Int)) (.int .u8 (b:Int))) w k=k (.bool (decide (b≤a))) w:=ev_of_run (geq_nat .u8 t x y a b w) k
theorem ev_eql_u8 (t:TypeId) (x y:Operand) (a b:Nat) (w:World) (k:K1):ev P (binM .eql t x y (.int .u8 (a:Int)) (.int .u8 (b:Int))) w k=k (.bool (decide (a=b))) w:=ev_of_run (eql_nat .u8 t x y a b w) k
theorem rd_eql_u8 (t:TypeId) (x y:Operand) (a b:Nat) (w:World) (k:Value→Prop):rd P (binM .eql t x y (.int .u8 (a:Int)) (.int .u8 (b:Int))) w k=k (.bool (decide (a=b))):=rd_of_run (eql_nat .u8 t x y a b w) k
theorem ag_eql_u8 (t:TypeId) (x y:Operand) (a b:Nat) (w:World) (u:Value):ag P (binM .eql t x y (.int .u8 (a:Int)) (.int .u8 (b:Int))) w u=(.bool (decide (a=b))=u):=ag_of_run (eql_nat .u8 t x y a b w) u
theorem ev_neq_u8 (t:TypeId) (x y:Operand) (a b:Nat) (w:World) (k:K1):ev P (binM .neq t x y (.int .u8 (a:Int)) (.int .u8 (b:Int))) w k=k (.bool (!decide (a=b))) w:=ev_of_run (neq_nat .u8 t x y a b w) k
theorem rd_neq_u8 (t:TypeId) (x y:Operand) (a b:Nat) (w:World) (k:Value→Prop):rd P (binM .neq t x y (.int .u8 (a:Int)) (.int .u8 (b:Int))) w k=k (.bool (!decide (a=b))):=rd_of_run (neq_nat .u8 t x y a b w) k
theorem ev_com_u8 (a:Nat) (w:World) (k:K1) (ha:a<256):ev P (Op.unary .xor (.int .u8 (a:Int))) w k=k (.int .u8 ((255^^^a:Nat):Int)) w:=ev_of_run (com_nat (k:= .u8) rfl a w ha) k
theorem ev_shr_u8 (t:TypeId) (x y:Operand) (a n:Nat) (w:World) (k:K1) (hn:n≤8):ev P (binM .shr t x y (.int .u8 (a:Int)) (.int .u64 (n:Int))) w k=k (.int .u8 ((a/2^n:Nat):Int)) w:=ev_of_run (shr_nat (k:= .u8) (j:= .u64) t x y a n w hn) k
theorem ev_add_u16 (t:TypeId) (x y:Operand) (a b:Nat) (w:World) (k:K1) (h:a+b<65536):ev P (binM .add t x y (.int .u16 (a:Int)) (.int .u16 (b:Int))) w k=k (.int .u16 ((a+b:Nat):Int)) w:=ev_of_run (add_nat (k:= .u16) rfl t x y a b w h) k
theorem ev_eql_u16 (t:TypeId) (x y:Operand) (a b:Nat) (w:World) (k:K1):ev P (binM .eql t x y (.int .u16 (a:Int)) (.int .u16 (b:Int))) w k=k (.bool (decide (a=b))) w:=ev_of_run (eql_nat .u16 t x y a b w) k
theorem ev_neq_u16 (t:TypeId) (x y:Operand) (a b:Nat) (w:World) (k:K1):ev P (binM .neq t x y (.int .u16 (a:Int)) (.int .u16 (b:Int))) w k=k (.bool (!decide (a=b))) w:=ev_of_run (neq_nat .u16 t x y a b w) k
theorem rd_neq_u16 (t:TypeId) (x y:Operand) (a b:Nat) (w:World) (k:Value→Prop):rd P (binM .neq t x y (.int .u16 (a:Int)) (.int .u16 (b:Int))) w k=k (.bool (!decide (a=b))):=rd_of_run (neq_nat .u16 t x y a b w) k
theorem ev_com_u16 (a:Nat) (w:World) (k:K1) (ha:a<65536):ev P (Op.unary .xor (.int .u16 (a:Int))) w k=k (.int .u16 ((65535^^^a:Nat):Int)) w:=ev_of_run (com_nat (k:= .u16) rfl a w ha) k
theorem ev_quo_u32 (t:TypeId) (x y:Operand) (a b:Nat) (w:World) (k:K1) (h:a<4294967296) (hb:0<b):ev P (binM .quo t x y (.int .u32 (a:Int)) (.int .u32 (b:Int))) w k=k (.int .u32 ((a/b:Nat):Int)) w:=ev_of_run (quo_nat (k:= .u32) rfl t x y a b w h hb) k
theorem rd_quo_u32 (t:TypeId) (x y:Operand) (a b:Nat) (w:World) (k:Value→Prop) (h:a<4294967296) (hb:0<b):rd P (binM .quo t x y (.int .u32 (a:Int)) (.int .u32 (b:Int))) w k=k (.int .u32 ((a/b:Nat):Int)):=rd_of_run (quo_nat (k:= .u32) rfl t x y a b w h hb) k
theorem ev_and_u32 (t:TypeId) (x y:Operand) (a b:Nat) (w:World) (k:K1) (ha:a<4294967296) (hb:b<4294967296):ev P (binM .and t x y (.int .u32 (a:Int)) (.int .u32 (b:Int))) w k=k (.int .u32 ((a&&&b:Nat):Int)) w:=ev_of_run (and_nat (k:= .u32) rfl t x y a b w ha hb) k
theorem ev_or_u32 (t:TypeId) (x y:Operand) (a b:Nat) (w:World) (k:K1) (ha:a<4294967296) (hb:b<4294967296):ev P (binM .or t x y (.int .u32 (a:Int)) (.int .u32 (b:Int))) w k=k (.int .u32 ((a|||b:Nat):Int)) w:=ev_of_run (or_nat (k:= .u32) rfl t x y a b w ha hb) k
theorem ev_xor_u32 (t:TypeId) (x y:Operand) (a b:Nat) (w:World) (k:K1) (ha:a<4294967296) (hb:b<4294967296):ev P (binM .xor t x y (.int .u32 (a:Int)) (.int .u32 (b:Int))) w k=k (.int .u32 ((a^^^b:Nat):Int)) w:=ev_of_run (xor_nat (k:= .u32) rfl t x y a b w ha hb) k
theorem ev_lss_u32 (t:TypeId) (x y:Operand) (a b:Nat) (w:World) (k:K1):ev P (binM .lss t x y (.int .u32 (a:Int)) (.int .u32 (b:Int))) w k=k (.bool (decide (a<b))) w:=ev_of_run (lss_nat .u32 t x y a b w) k
theorem ev_geq_u32 (t:TypeId) (x y:Operand) (a b:Nat) (w:World) (k:K1):ev P (binM .geq t x y (.int .u32 (a:Int)) (.int .u32 (b:Int))) w k=k (.bool (decide (b≤a))) w:=ev_of_run (geq_nat .u32 t x y a b w) k
theorem ev_eql_u32 (t:TypeId) (x y:Operand) (a b:Nat) (w:World) (k:K1):ev P (binM .eql t x y (.int .u32 (a:Int)) (.int .u32 (b:Int))) w k=k (.bool (decide (a=b))) w:=ev_of_run (eql_nat .u32 t x y a b w) k
theorem rd_eql_u32 (t:TypeId) (x y:Operand) (a b:Nat) (w:World) (k:Value→Prop):rd P (binM .eql t x y (.int .u32 (a:Int)) (.int .u32 (b:Int))) w k=k (.bool (decide (a=b))):=rd_of_run (eql_nat .u32 t x y a b w) k
theorem ev_neq_u32 (t:TypeId) (x y:Operand) (a b:Nat) (w:World) (k:K1):ev P (binM .neq t x y (.int .u32 (a:Int)) (.int .u32 (b:Int))) w k=k (.bool (!decide (a=b))) w:=ev_of_run (neq_nat .u32 t x y a b w) k
theorem rd_neq_u32 (t:TypeId) (x y:Operand) (a b:Nat) (w:World) (k:Value→Prop):rd P (binM .neq t x y (.int .u32 (a:Int)) (.int .u32 (b:Int))) w k=k (.bool (!decide (a=b))):=rd_of_run (neq_nat .u32 t x y a b w) k
theorem ev_com_u32 (a:Nat) (w:World) (k:K1) (ha:a<4294967296):ev P (Op.unary .xor (.int .u32 (a:Int))) w k=k (.int .u32 ((4294967295^^^a:Nat):Int)) w:=ev_of_run (com_nat (k:= .u32) rfl a w ha) k
theorem ev_shr_u32 (t:TypeId) (x y:Operand) (a n:Nat) (w:World) (k:K1) (hn:n≤32):ev P (binM .shr t x y (.int .u32 (a:Int)) (.int .u64 (n:Int))) w k=k (.int .u32 ((a/2^n:Nat):Int)) w:=ev_of_run (shr_nat (k:= .u32) (j:= .u64) t x y a n w hn) k
theorem ev_shl_u32 (t:TypeId) (x y:Operand) (a n:Nat) (w:World) (k:K1) (hn:n≤32):ev P (binM .shl t x y (.int .u32 (a:Int)) (.int .u64 (n:Int))) w k=k (.int .u32 ((a*2^n%4294967296:Nat):Int)) w:=ev_of_run (shl_nat (k:= .u32) (j:= .u64) rfl t x y a n w hn) k
theorem ev_add_u64 (t:TypeId) (x y:Operand) (a b:Nat) (w:World) (k:K1) (h:a+b<18446744073709551616):ev P (binM .add t x y (.int .u64 (a:Int)) (.int .u64 (b:Int))) w k=k (.int .u64 ((a+b:Nat):Int)) w:=ev_of_run (add_nat (k:= .u64) rfl t x y a b w h) k
theorem rd_add_u64 (t:TypeId) (x y:Operand) (a b:Nat) (w:World) (k:Value→Prop) (h:a+b<18446744073709551616):rd P (binM .add t x y (.int .u64 (a:Int)) (.int .u64 (b:Int))) w k=k (.int .u64 ((a+b:Nat):Int)):=rd_of_run (add_nat (k:= .u64) rfl t x y a b w h) k
theorem ag_add_u64 (t:TypeId) (x y:Operand) (a b:Nat) (w:World) (u:Value) (h:a+b<18446744073709551616):ag P (binM .add t x y (.int .u64 (a:Int)) (.int .u64 (b:Int))) w u=(.int .u64 ((a+b:Nat):Int)=u):=ag_of_run (add_nat (k:= .u64) rfl t x y a b w h) u
theorem ev_sub_u64 (t:TypeId) (x y:Operand) (a b:Nat) (w:World) (k:K1) (h0:b≤a) (h:a<18446744073709551616):ev P (binM .sub t x y (.int .u64 (a:Int)) (.int .u64 (b:Int))) w k=k (.int .u64 ((a-b:Nat):Int)) w:=ev_of_run (sub_nat (k:= .u64) rfl t x y a b w h0 h) k
theorem rd_sub_u64 (t:TypeId) (x y:Operand) (a b:Nat) (w:World) (k:Value→Prop) (h0:b≤a) (h:a<18446744073709551616):rd P (binM .sub t x y (.int .u64 (a:Int)) (.int .u64 (b:Int))) w k=k (.int .u64 ((a-b:Nat):Int)):=rd_of_run (sub_nat (k:= .u64) rfl t x y a b w h0 h) k
theorem ev_mul_u64 (t:TypeId) (x y:Operand) (a b:Nat) (w:World) (k:K1) (h:a*b<18446744073709551616):ev P (binM .mul t x y (.int .u64 (a:Int)) (.int .u64 (b:Int))) w k=k (.int .u64 ((a*b:Nat):Int)) w:=ev_of_run (mul_nat (k:= .u64) rfl t x y a b w h) k
theorem rd_mul_u64 (t:TypeId) (x y:Operand) (a b:Nat) (w:World) (k:Value→Prop) (h:a*b<18446744073709551616):rd P (binM .mul t x y (.int .u64 (a:Int)) (.int .u64 (b:Int))) w k=k (.int .u64 ((a*b:Nat):Int)):=rd_of_run (mul_nat (k:= .u64) rfl t x y a b w h) k
theorem ev_quo_u64 (t:TypeId) (x y:Operand) (a b:Nat) (w:World) (k:K1) (h:a<18446744073709551616) (hb:0<b):ev P (binM .quo t x y (.int .u64 (a:Int)) (.int .u64 (b:Int))) w k=k (.int .u64 ((a/b:Nat):Int)) w:=ev_of_run (quo_nat (k:= .u64) rfl t x y a b w h hb) k
theorem ev_rem_u64 (t:TypeId) (x y:Operand) (a b:Nat) (w:World) (k:K1) (hb:0<b):ev P (binM .rem t x y (.int .u64 (a:Int)) (.int .u64 (b:Int))) w k=k (.int .u64 ((a%b:Nat):Int)) w:=ev_of_run (rem_nat (k:= .u64) t x y a b w hb) k
theorem rd_rem_u64 (t:TypeId) (x y:Operand) (a b:Nat) (w:World) (k:Value→Prop) (hb:0<b):rd P (binM .rem t x y (.int .u64 (a:Int)) (.int .u64 (b:Int))) w k=k (.int .u64 ((a%b:Nat):Int)):=rd_of_run (rem_nat (k:= .u64) t x y a b w hb) k
theorem ev_and_u64 (t:TypeId) (x y:Operand) (a b:Nat) (w:World) (k:K1) (ha:a<18446744073709551616) (hb:b<18446744073709551616):ev P (binM .and t x y (.int .u64 (a:Int)) (.int .u64 (b:Int))) w k=k (.int .u64 ((a&&&b:Nat):Int)) w:=ev_of_run (and_nat (k:= .u64) rfl t x y a b w ha hb) k
theorem rd_and_u64 (t:TypeId) (x y:Operand) (a b:Nat) (w:World) (k:Value→Prop) (ha:a<18446744073709551616) (hb:b<18446744073709551616):rd P (binM .and t x y (.int .u64 (a:Int)) (.int .u64 (b:Int))) w k=k (.int .u64 ((a&&&b:Nat):Int)):=rd_of_run (and_nat (k:= .u64) rfl t x y a b w ha hb) k
theorem ev_or_u64 (t:TypeId) (x y:Operand) (a b:Nat) (w:World) (k:K1) (ha:a<18446744073709551616) (hb:b<18446744073709551616):ev P (binM .or t x y (.int .u64 (a:Int)) (.int .u64 (b:Int))) w k=k (.int .u64 ((a|||b:Nat):Int)) w:=ev_of_run (or_nat (k:= .u64) rfl t x y a b w ha hb) k
theorem rd_or_u64 (t:TypeId) (x y:Operand) (a b:Nat) (w:World) (k:Value→Prop) (ha:a<18446744073709551616) (hb:b<18446744073709551616):rd P (binM .or t x y (.int .u64 (a:Int)) (.int .u64 (b:Int))) w k=k (.int .u64 ((a|||b:Nat):Int)):=rd_of_run (or_nat (k:= .u64) rfl t x y a b w ha hb) k
theorem ag_or_u64 (t:TypeId) (x y:Operand) (a b:Nat) (w:World) (u:Value) (ha:a<18446744073709551616) (hb:b<18446744073709551616):ag P (binM .or t x y (.int .u64 (a:Int)) (.int .u64 (b:Int))) w u=(.int .u64 ((a|||b:Nat):Int)=u):=ag_of_run (or_nat (k:= .u64) rfl t x y a b w ha hb) u
theorem ev_xor_u64 (t:TypeId) (x y:Operand) (a b:Nat) (w:World) (k:K1) (ha:a<18446744073709551616) (hb:b<18446744073709551616):ev P (binM .xor t x y (.int .u64 (a:Int)) (.int .u64 (b:Int))) w k=k (.int .u64 ((a^^^b:Nat):Int)) w:=ev_of_run (xor_nat (k:= .u64) rfl t x y a b w ha hb) k
theorem rd_xor_u64 (t:TypeId) (x y:Operand) (a b:Nat) (w:World) (k:Value→Prop) (ha:a<18446744073709551616) (hb:b<18446744073709551616):rd P (binM .xor t x y (.int .u64 (a:Int)) (.int .u64 (b:Int))) w k=k (.int .u64 ((a^^^b:Nat):Int)):=rd_of_run (xor_nat (k:= .u64) rfl t x y a b w ha hb) k
theorem ev_lss_u64 (t:TypeId) (x y:Operand) (a b:Nat) (w:World) (k:K1):ev P (binM .lss t x y (.int .u64 (a:Int)) (.int .u64 (b:Int))) w k=k (.bool (decide (a<b))) w:=ev_of_run (lss_nat .u64 t x y a b w) k
theorem rd_lss_u64 (t:TypeId) (x y:Operand) (a b:Nat) (w:World) (k:Value→Prop):rd P (binM .lss t x y (.int .u64 (a:Int)) (.int .u64 (b:Int))) w k=k (.bool (decide (a<b))):=rd_of_run (lss_nat .u64 t x y a b w) k
theorem ev_leq_u64 (t:TypeId) (x y:Operand) (a b:Nat) (w:World) (k:K1):ev P (binM .leq t x y (.int .u64 (a:Int)) (.int .u64 (b:Int))) w k=k (.bool (decide (a≤b))) w:=ev_of_run (leq_nat .u64 t x y a b w) k
theorem ev_gtr_u64 (t:TypeId) (x y:Operand) (a b:Nat) (w:World) (k:K1):ev P (binM .gtr t x y (.int .u64 (a:Int)) (.int .u64 (b:Int))) w k=k (.bool (decide (b<a))) w:=ev_of_run (gtr_nat .u64 t x y a b w) k
theorem rd_gtr_u64 (t:TypeId) (x y:Operand) (a b:Nat) (w:World) (k:Value→Prop):rd P (binM .gtr t x y (.int .u64 (a:Int)) (.int .u64 (b:Int))) w k=k (.bool (decide (b<a))):=rd_of_run (gtr_nat .u64 t x y a b w) k
theorem ev_geq_u64 (t:TypeId) (x y:Operand) (a b:Nat) (w:World) (k:K1):ev P (binM .geq t x y (.int .u64 (a:Int)) (.int .u64 (b:Int))) w k=k (.bool (decide (b≤a))) w:=ev_of_run (geq_nat .u64 t x y a b w) k
theorem rd_geq_u64 (t:TypeId) (x y:Operand) (a b:Nat) (w:World) (k:Value→Prop):rd P (binM .geq t x y (.int .u64 (a:Int)) (.int .u64 (b:Int))) w k=k (.bool (decide (b≤a))):=rd_of_run (geq_nat .u64 t x y a b w) k
theorem ev_eql_u64 (t:TypeId) (x y:Operand) (a b:Nat) (w:World) (k:K1):ev P (binM .eql t x y (.int .u64 (a:Int)) (.int .u64 (b:Int))) w k=k (.bool (decide (a=b))) w:=ev_of_run (eql_nat .u64 t x y a b w) k
theorem rd_eql_u64 (t:TypeId) (x y:Operand) (a b:Nat) (w:World) (k:Value→Prop):rd P (binM .eql t x y (.int .u64 (a:Int)) (.int .u64 (b:Int))) w k=k (.bool (decide (a=b))):=rd_of_run (eql_nat .u64 t x y a b w) k
theorem ag_eql_u64 (t:TypeId) (x y:Operand) (a b:Nat) (w:World) (u:Value):ag P (binM .eql t x y (.int .u64 (a:Int)) (.int .u64 (b:Int))) w u=(.bool (decide (a=b))=u):=ag_of_run (eql_nat .u64 t x y a b w) u
theorem ev_neq_u64 (t:TypeId) (x y:Operand) (a b:Nat) (w:World) (k:K1):ev P (binM .neq t x y (.int .u64 (a:Int)) (.int .u64 (b:Int))) w k=k (.bool (!decide (a=b))) w:=ev_of_run (neq_nat .u64 t x y a b w) k
theorem rd_neq_u64 (t:TypeId) (x y:Operand) (a b:Nat) (w:World) (k:Value→Prop):rd P (binM .neq t x y (.int .u64 (a:Int)) (.int .u64 (b:Int))) w k=k (.bool (!decide (a=b))):=rd_of_run (neq_nat .u64 t x y a b w) k
theorem ev_com_u64 (a:Nat) (w:World) (k:K1) (ha:a<18446744073709551616):ev P (Op.unary .xor (.int .u64 (a:Int))) w k=k (.int .u64 ((18446744073709551615^^^a:Nat):Int)) w:=ev_of_run (com_nat (k:= .u64) rfl a w ha) k
theorem ev_shr_u64 (t:TypeId) (x y:Operand) (a n:Nat) (w:World) (k:K1) (hn:n≤64):ev P (binM .shr t x y (.int .u64 (a:Int)) (.int .u64 (n:Int))) w k=k (.int .u64 ((a/2^n:Nat):Int)) w:=ev_of_run (shr_nat (k:= .u64) (j:= .u64) t x y a n w hn) k
theorem rd_shr_u64 (t:TypeId) (x y:Operand) (a n:Nat) (w:World) (k:Value→Prop) (hn:n≤64):rd P (binM .shr t x y (.int .u64 (a:Int)) (.int .u64 (n:Int))) w k=k (.int .u64 ((a/2^n:Nat):Int)):=rd_of_run (shr_nat (k:= .u64) (j:= .u64) t x y a n w hn) k
theorem ev_shl_u64 (t:TypeId) (x y:Operand) (a n:Nat) (w:World) (k:K1) (hn:n≤64):ev P (binM .shl t x y (.int .u64 (a:Int)) (.int .u64 (n:Int))) w k=k (.int .u64 ((a*2^n%18446744073709551616:Nat):Int)) w:=ev_of_run (shl_nat (k:= .u64) (j:= .u64) rfl t x y a n w hn) k
theorem rd_shl_u64 (t:TypeId) (x y:Operand) (a n:Nat) (w:World) (k:Value→Prop) (hn:n≤64):rd P (binM .shl t x y (.int .u64 (a:Int)) (.int .u64 (n:Int))) w k=k (.int .u64 ((a*2^n%18446744073709551616:Nat):Int)):=rd_of_run (shl_nat (k:= .u64) (j:= .u64) rfl t x y a n w hn) k
theorem ev_add_i64 (t:TypeId) (x y:Operand) (a b:Int) (w:World) (k:K1) (h0: -9223372036854775808≤a+b) (h1:a+b<9223372036854775808):ev P (binM .add t x y (.int .i64 a) (.int .i64 b)) w k=k (.int .i64 (a+b)) w:=ev_of_run ((Go.Sh.run_add t x y .i64 a b w).trans (by rw [wrap_i64 h0 h1])) k
theorem rd_add_i64 (t:TypeId) (x y:Operand) (a b:Int) (w:World) (k:Value→Prop) (h0: -9223372036854775808≤a+b) (h1:a+b<9223372036854775808):rd P (binM .add t x y (.int .i64 a) (.int .i64 b)) w k=k (.int .i64 (a+b)):=rd_of_run ((Go.Sh.run_add t x y .i64 a b w).trans (by rw [wrap_i64 h0 h1])) k
theorem ag_add_i64 (t:TypeId) (x y:Operand) (a b:Int) (w:World) (u:Value) (h0: -9223372036854775808≤a+b) (h1:a+b<9223372036854775808):ag P (binM .add t x y (.int .i64 a) (.int .i64 b)) w u=(.int .i64 (a+b)=u):=ag_of_run ((Go.Sh.run_add t x y .i64 a b w).trans (by rw [wrap_i64 h0 h1])) u
theorem ev_sub_i64 (t:TypeId) (x y:Operand) (a b:Int) (w:World) (k:K1) (h0: -9223372036854775808≤a-b) (h1:a-b<9223372036854775808):ev P (binM .sub t x y (.int .i64 a) (.int .i64 b)) w k=k (.int .i64 (a-b)) w:=ev_of_run ((Go.Sh.run_sub t x y .i64 a b w).trans (by rw [wrap_i64 h0 h1])) k
theorem rd_sub_i64 (t:TypeId) (x y:Operand) (a b:Int) (w:World) (k:Value→Prop) (h0: -9223372036854775808≤a-b) (h1:a-b<9223372036854775808):rd P (binM .sub t x y (.int .i64 a) (.int .i64 b)) w k=k (.int .i64 (a-b)):=rd_of_run ((Go.Sh.run_sub t x y .i64 a b w).trans (by rw [wrap_i64 h0 h1])) k
theorem ag_sub_i64 (t:TypeId) (x y:Operand) (a b:Int) (w:World) (u:Value) (h0: -9223372036854775808≤a-b) (h1:a-b<9223372036854775808):ag P (binM .sub t x y (.int .i64 a) (.int .i64 b)) w u=(.int .i64 (a-b)=u):=ag_of_run ((Go.Sh.run_sub t x y .i64 a b w).trans (by rw [wrap_i64 h0 h1])) u
theorem ev_mul_i64 (t:TypeId) (x y:Operand) (a b:Int) (w:World) (k:K1) (h0: -9223372036854775808≤a*b) (h1:a*b<9223372036854775808):ev P (binM .mul t x y (.int .i64 a) (.int .i64 b)) w k=k (.int .i64 (a*b)) w:=ev_of_run ((Go.Sh.run_mul t x y .i64 a b w).trans (by rw [wrap_i64 h0 h1])) k
theorem rd_mul_i64 (t:TypeId) (x y:Operand) (a b:Int) (w:World) (k:Value→Prop) (h0: -9223372036854775808≤a*b) (h1:a*b<9223372036854775808):rd P (binM .mul t x y (.int .i64 a) (.int .i64 b)) w k=k (.int .i64 (a*b)):=rd_of_run ((Go.Sh.run_mul t x y .i64 a b w).trans (by rw [wrap_i64 h0 h1])) k
theorem ag_mul_i64 (t:TypeId) (x y:Operand) (a b:Int) (w:World) (u:Value) (h0: -9223372036854775808≤a*b) (h1:a*b<9223372036854775808):ag P (binM .mul t x y (.int .i64 a) (.int .i64 b)) w u=(.int .i64 (a*b)=u):=ag_of_run ((Go.Sh.run_mul t x y .i64 a b w).trans (by rw [wrap_i64 h0 h1])) u
theorem ev_quo_i64 (t:TypeId) (x y:Operand) (a b:Int) (w:World) (k:K1) (ha:0≤a) (h:a<9223372036854775808) (hb:0<b):ev P (binM .quo t x y (.int .i64 a) (.int .i64 b)) w k=k (.int .i64 (a/b)) w:=ev_of_run (run_quo_i64 t x y a b w ha h hb) k
theorem rd_quo_i64 (t:TypeId) (x y:Operand) (a b:Int) (w:World) (k:Value→Prop) (ha:0≤a) (h:a<9223372036854775808) (hb:0<b):rd P (binM .quo t x y (.int .i64 a) (.int .i64 b)) w k=k (.int .i64 (a/b)):=rd_of_run (run_quo_i64 t x y a b w ha h hb) k
theorem ag_quo_i64 (t:TypeId) (x y:Operand) (a b:Int) (w:World) (u:Value) (ha:0≤a) (h:a<9223372036854775808) (hb:0<b):ag P (binM .quo t x y (.int .i64 a) (.int .i64 b)) w u=(.int .i64 (a/b)=u):=ag_of_run (run_quo_i64 t x y a b w ha h hb) u
theorem ev_rem_i64 (t:TypeId) (x y:Operand) (a b:Int) (w:World) (k:K1) (ha:0≤a) (hb:0<b):ev P (binM .rem t x y (.int .i64 a) (.int .i64 b)) w k=k (.int .i64 (a%b)) w:=ev_of_run (Go.Sh.run_rem t x y .i64 a b w ha hb) k
theorem ev_lss_i64 (t:TypeId) (x y:Operand) (a b:Int) (w:World) (k:K1):ev P (binM .lss t x y (.int .i64 a) (.int .i64 b)) w k=k (.bool (decide (a<b))) w:=ev_of_run (Go.Sh.run_lss t x y .i64 a b w) k
theorem rd_lss_i64 (t:TypeId) (x y:Operand) (a b:Int) (w:World) (k:Value→Prop):rd P (binM .lss t x y (.int .i64 a) (.int .i64 b)) w k=k (.bool (decide (a<b))):=rd_of_run (Go.Sh.run_lss t x y .i64 a b w) k
theorem ev_leq_i64 (t:TypeId) (x y:Operand) (a b:Int) (w:World) (k:K1):ev P (binM .leq t x y (.int .i64 a) (.int .i64 b)) w k=k (.bool (decide (a≤b))) w:=ev_of_run (Go.Sh.run_leq t x y .i64 a b w) k
theorem rd_leq_i64 (t:TypeId) (x y:Operand) (a b:Int) (w:World) (k:Value→Prop):rd P (binM .leq t x y (.int .i64 a) (.int .i64 b)) w k=k (.bool (decide (a≤b))):=rd_of_run (Go.Sh.run_leq t x y .i64 a b w) k
theorem ev_gtr_i64 (t:TypeId) (x y:Operand) (a b:Int) (w:World) (k:K1):ev P (binM .gtr t x y (.int .i64 a) (.int .i64 b)) w k=k (.bool (decide (b<a))) w:=ev_of_run (Go.Sh.run_gtr t x y .i64 a b w) k
theorem rd_gtr_i64 (t:TypeId) (x y:Operand) (a b:Int) (w:World) (k:Value→Prop):rd P (binM .gtr t x y (.int .i64 a) (.int .i64 b)) w k=k (.bool (decide (b<a))):=rd_of_run (Go.Sh.run_gtr t x y .i64 a b w) k
theorem ev_geq_i64 (t:TypeId) (x y:Operand) (a b:Int) (w:World) (k:K1):ev P (binM .geq t x y (.int .i64 a) (.int .i64 b)) w k=k (.bool (decide (b≤a))) w:=ev_of_run (Go.Sh.run_geq t x y .i64 a b w) k
theorem ev_eql_i64 (t:TypeId) (x y:Operand) (a b:Int) (w:World) (k:K1):ev P (binM .eql t x y (.int .i64 a) (.int .i64 b)) w k=k (.bool (decide (a=b))) w:=ev_of_run (Go.Sh.run_eql t x y .i64 a b w) k
theorem rd_eql_i64 (t:TypeId) (x y:Operand) (a b:Int) (w:World) (k:Value→Prop):rd P (binM .eql t x y (.int .i64 a) (.int .i64 b)) w k=k (.bool (decide (a=b))):=rd_of_run (Go.Sh.run_eql t x y .i64 a b w) k
theorem ev_neq_i64 (t:TypeId) (x y:Operand) (a b:Int) (w:World) (k:K1):ev P (binM .neq t x y (.int .i64 a) (.int .i64 b)) w k=k (.bool (!decide (a=b))) w:=ev_of_run (Go.Sh.run_neq t x y .i64 a b w) k
theorem rd_neq_i64 (t:TypeId) (x y:Operand) (a b:Int) (w:World) (k:Value→Prop):rd P (binM .neq t x y (.int .i64 a) (.int .i64 b)) w k=k (.bool (!decide (a=b))):=rd_of_run (Go.Sh.run_neq t x y .i64 a b w) k
def RN0:=And.intro (ev_rem_u8 P)<|And.intro (ev_and_u8 P)<|And.intro (rd_and_u8 P)<|(ev_lss_u8 P)
def RN1:=And.intro (rd_lss_u8 P)<|And.intro (ev_leq_u8 P)<|And.intro (ev_gtr_u8 P)<|And.intro (ev_geq_u8 P)<|And.intro (ev_eql_u8 P)<|And.intro (rd_eql_u8 P)<|And.intro (ag_eql_u8 P)<|And.intro (ev_neq_u8 P)<|And.intro (rd_neq_u8 P)<|And.intro (ev_com_u8 P)<|(ev_shr_u8 P)
def RN2:=(ev_add_u16 P)
def RN3:=And.intro (ev_eql_u16 P)<|And.intro (ev_neq_u16 P)<|And.intro (rd_neq_u16 P)<|(ev_com_u16 P)
def RN4:=And.intro (ev_quo_u32 P)<|And.intro (rd_quo_u32 P)<|And.intro (ev_and_u32 P)<|And.intro (ev_or_u32 P)<|(ev_xor_u32 P)
def RN5:=And.intro (ev_lss_u32 P)<|And.intro (ev_geq_u32 P)<|And.intro (ev_eql_u32 P)<|And.intro (rd_eql_u32 P)<|And.intro (ev_neq_u32 P)<|And.intro (rd_neq_u32 P)<|And.intro (ev_com_u32 P)<|(ev_shr_u32 P)
def RN6:=And.intro (ev_shl_u32 P)<|And.intro (ev_add_u64 P)<|And.intro (rd_add_u64 P)<|And.intro (ag_add_u64 P)<|And.intro (ev_sub_u64 P)<|And.intro (rd_sub_u64 P)<|And.intro (ev_mul_u64 P)<|And.intro (rd_mul_u64 P)<|And.intro (ev_quo_u64 P)<|And.intro (ev_rem_u64 P)<|And.intro (rd_rem_u64 P)<|And.intro (ev_and_u64 P)<|And.intro (rd_and_u64 P)<|And.intro (ev_or_u64 P)<|And.intro (rd_or_u64 P)<|And.intro (ag_or_u64 P)<|(ev_xor_u64 P)
def RN7:=And.intro (rd_xor_u64 P)<|And.intro (ev_lss_u64 P)<|And.intro (rd_lss_u64 P)<|And.intro (ev_leq_u64 P)<|And.intro (ev_gtr_u64 P)<|And.intro (rd_gtr_u64 P)<|And.intro (ev_geq_u64 P)<|And.intro (rd_geq_u64 P)<|And.intro (ev_eql_u64 P)<|And.intro (rd_eql_u64 P)<|And.intro (ag_eql_u64 P)<|And.intro (ev_neq_u64 P)<|And.intro (rd_neq_u64 P)<|And.intro (ev_com_u64 P)<|And.intro (ev_shr_u64 P)<|(rd_shr_u64 P)
def RN8:=And.intro (ev_shl_u64 P)<|And.intro (rd_shl_u64 P)<|And.intro (ev_add_i64 P)<|And.intro (rd_add_i64 P)<|And.intro (ag_add_i64 P)<|And.intro (ev_sub_i64 P)<|And.intro (rd_sub_i64 P)<|And.intro (ag_sub_i64 P)<|And.intro (ev_mul_i64 P)<|And.intro (rd_mul_i64 P)<|And.intro (ag_mul_i64 P)<|And.intro (ev_quo_i64 P)<|And.intro (rd_quo_i64 P)<|And.intro (ag_quo_i64 P)<|And.intro (ev_rem_i64 P)<|And.intro (ev_lss_i64 P)<|And.intro (rd_lss_i64 P)<|And.intro (ev_leq_i64 P)<|(rd_leq_i64 P)
def RN9:=And.intro (ev_gtr_i64 P)<|And.intro (rd_gtr_i64 P)<|And.intro (ev_geq_i64 P)<|And.intro (ev_eql_i64 P)<|And.intro (rd_eql_i64 P)<|And.intro (ev_neq_i64 P)<|(rd_neq_i64 P)
def RN:=And.intro (RN0 P)<|And.intro (RN1 P)<|And.intro (RN2 P)<|And.intro (RN3 P)<|And.intro (RN4 P)<|And.intro (RN5 P)<|And.intro (RN6 P)<|And.intro (RN7 P)<|And.intro (RN8 P)<|(RN9 P)
end
structure ElT (P:Program) (t tx e:TypeId) (z bytes:Nat) (zv:Value):Prop where
 un:P.underlying t=some (.slice e)
 ux:P.underlying tx=some (.slice e)
 inf:((P.info? e).map fun i=>(i.size,i.zero,i.bytes))=some (z,some zv,bytes)
 zs:zv.cells.size=z
 pos:0<z
theorem ElT.info {P:Program} {t tx e:TypeId} {z bytes:Nat} {zv:Value} (h:ElT P t tx e z bytes zv):∃i,P.info? e=some i∧i.size=z∧i.zero=some zv∧i.bytes=bytes:=by
 have:=h.inf
 cases hi:P.info? e with
 |none=>rw [hi] at this;cases this
 |some i=>rw [hi] at this;simp at this;exact ⟨i,rfl,this.1,this.2.1,this.2.2⟩
theorem isOne_oneCell {v:Value} (h:isOne v=true):v.oneCell'=true:=by cases v<;>first|rfl|cases h
theorem allOne_mem {l:List Value} (h:allOne l=true):∀v∈l,v.oneCell'=true:=by
 induction l with
 |nil=>intro v hv;cases hv
 |cons a l ih=>
  simp only [allOne,Bool.and_eq_true] at h
  intro v hv
  cases hv with
  |head=>exact isOne_oneCell h.1
  |tail _ hv=>exact ih h.2 v hv
theorem setRow_heap_eq {w:World} {g:Nat} {cur:Array Value} {e:TypeId} (hg:w.heap[g]? =some (.cells cur e (0,0))) (new:Array Value):(w.setRow g new).heap[g]? =some (.cells new e (0,0)):=setRow_heap w g cur _ e _ hg
theorem setRow_heap_ne {w:World} {g k:Nat} (new:Array Value) (h:k≠g):(w.setRow g new).heap[k]? =w.heap[k]? :=setRow_other w g k _ h
theorem getElem?_splice {l news:List Value} {p i:Nat} (hp:p+news.length≤l.length):(l.take p++news++l.drop (p+news.length))[i]? =if i<p then l[i]? else if i<p+news.length then news[i-p]? else l[i]? :=by
 by_cases h1:i<p
 ·rw [if_pos h1,List.append_assoc,List.getElem?_append_left (by simp;omega),List.getElem?_take_of_lt h1]
 ·rw [if_neg h1]
  by_cases h2:i<p+news.length
  ·rw [if_pos h2,List.getElem?_append_left (by simp;omega),List.getElem?_append_right (by simp;omega)]
   congr 1;simp;omega
  ·rw [if_neg h2,List.getElem?_append_right (by simp;omega),List.getElem?_drop]
   congr 1;simp;omega
theorem run_app_grow {P:Program} (w:World) (t tx ty e:TypeId) (i:TypeInfo) (z:Value) (ht:P.underlying t=some (.slice e)) (htx:P.underlying tx=some (.slice e)) (hi:P.info? e=some i) (hz:i.zero=some z)
  (base:Option Addr) (sLen sCap:Nat) (olds:List Value) (hfo:(Builtin.firstCells i.size sLen (.slice base sLen sCap)).run P w.drew= .ok olds.toArray w.drew)
  (a:Addr) (n c:Nat) (news:List Value) (hf:(Builtin.firstCells i.size n (.slice (some a) n c)).run P w.drew= .ok news.toArray w.drew)
  (hg:sCap<sLen+n) (h63:((sLen+n:Nat):Int)≤9223372036854775807) (hfit:Builtin.nextslicecap (sLen+n) sCap*i.bytes≤281474976710656):
  (Builtin.append_ #[t,tx] ty #[.slice base sLen sCap,.slice (some a) n c]).run P w=
   .ok (.slice (some ⟨w.heap.size,0,none⟩) (sLen+n) (grownCap w (sLen+n) sCap e))
    (w.drew.alloc (.cells ((olds++news).toArray++Builtin.zeroCells z.cells (grownCap w (sLen+n) sCap e-(sLen+n))) e)):=by
 have hn:¬(sLen+n≤sCap):=oM
 have h63':¬(9223372036854775807<((sLen:Int)+(n:Int))):=oM
 have h48':¬(281474976710656<Builtin.nextslicecap (sLen+n) sCap*i.bytes):=oM
 simp [Builtin.append_,run_underlying ht,run_underlying htx,sizeOf,typeInfo,zeroValue,hi,hz,Builtin.lenOf,hn,h63',h48',Question.forced,hf,hfo,newRow,grownCap]
 congr 2
 apply Array.ext'
 simp [List.append_assoc]
theorem run_app_room {P:Program} (w:World) (t tx ty e:TypeId) (i:TypeInfo) (ht:P.underlying t=some (.slice e)) (htx:P.underlying tx=some (.slice e)) (hi:P.info? e=some i)
  (g o sLen sCap:Nat) (cur:Array Value) (hg:w.heap[g]? =some (.cells cur e (0,0)))
  (a:Addr) (m c:Nat) (news:List Value) (hf:(Builtin.firstCells i.size m (.slice (some a) m c)).run P w= .ok news.toArray w) (h1:∀u∈news,u.oneCell'=true)
  (hroom:sLen+m≤sCap) (hfit:o+sLen*i.size+news.length≤cur.size):
  (Builtin.append_ #[t,tx] ty #[.slice (some ⟨g,o,none⟩) sLen sCap,.slice (some a) m c]).run P w=
   .ok (.slice (some ⟨g,o,none⟩) (sLen+m) sCap) (w.setRow g (cur.toList.take (o+sLen*i.size)++news++cur.toList.drop (o+sLen*i.size+news.length)).toArray):=by
 have hst:=run_storeCells_at P g (o+sLen*i.size) e news 0 cur w hg (by simpa using hfit) h1
 simp only [Nat.add_zero] at hst
 simp [Builtin.append_,run_underlying ht,run_underlying htx,sizeOf,typeInfo,hi,Builtin.lenOf,hroom,hf,addr_add,hst]
def sOff:Value→Nat
 | .slice (some a) _ _=>a.off
 |_=>0
def sEnd (z:Nat):Value→Nat
 | .slice (some a) n _=>a.off+n*z
 |_=>0
theorem blt_appendK {P:Program} {t tx e ty:TypeId} {z bytes:Nat} {zv:Value} (E:ElT P t tx e z bytes zv) {cs:Array Bool} {w:World} {v:Value} {n:Nat} {L:List Value} (hv:SlO w e z v n L)
  {xb xo m c:Nat} {news:List Value} (hl:news.length=m*z) (hx:∀j u,news[j]? =some u→w.cell? ⟨xb,xo+j,none⟩=some u) (h1:allOne news=true) (hm:0<m) (hb:(n+m)*bytes≤140737488355328) (hm':n+m<9223372036854775807) {k:K1}
  (h:∀v' w',SlO w' e z v' (n+m) (L++news)→Frm (fun b=>v.ownBlock=some b) w w'→(∀b,v'.ownBlock=some b→v.ownBlock=some b∨w.heap.size≤b)→(sOff v'=0∨sOff v'=sOff v)→(∀v0 n0 L0,SlO w e z v0 n0 L0→(v0.ownBlock=v.ownBlock→sEnd z v0≤sEnd z v)→SlO w' e z v0 n0 L0∧(v0.ownBlock=v'.ownBlock→sEnd z v0≤sEnd z v'))→k v' w'):
  bltS P .append #[t,tx] ty cs #[v,.slice (some ⟨xb,xo,none⟩) m c] w k:=by
 obtain ⟨i,hi,rfl,hz,rfl⟩:=E.info
 have ht:=E.un
 have htx:=E.ux
 have hzs:=E.zs
 have hx':∀j u,news[j]? =some u→w.cell? ((⟨xb,xo,none⟩:Addr).add j)=some u:=by intro j u hj;rw [addr_add];exact hx j u hj
 have hf:=run_firstCells_some (P:=P) w i.size m ⟨xb,xo,none⟩ m c news hl hx'
 have hf':=run_firstCells_some (P:=P) w.drew i.size m ⟨xb,xo,none⟩ m c news hl hx'
 unfold bltS builtin
 have grown:∀(old:Nat),old<n+m→SlO (w.drew.alloc (.cells ((L++news).toArray++Builtin.zeroCells zv.cells (grownCap w (n+m) old e-(n+m))) e)) e i.size (.slice (some ⟨w.heap.size,0,none⟩) (n+m) (grownCap w (n+m) old e)) (n+m) (L++news):=by
  intro old ho
  have hge:=grownCap_ge w (n+m) old e
  have hcm:grownCap w (n+m) old e≤maxLen:=grownCap_le_maxLen w (n+m) old e (by simp only [maxLen];omega)
  refine ⟨by rw [List.length_append,hv.1,hl,Nat.add_mul],.inr ⟨w.heap.size,0,_,_,rfl,heap_alloc_eq w.drew _,hge,hcm,?_,?_⟩⟩
  ·simp only [Array.size_append,List.size_toArray,List.length_append,size_zeroCells,hzs,hv.1,hl,←Nat.add_mul,Nat.zero_add]
   exact Nat.mul_le_mul_right _ oM
  ·intro j u hj
   rw [Nat.zero_add,Array.getElem?_append_left]
   ·simpa using hj
   ·have:=(List.getElem?_eq_some_iff.1 hj).1
    simpa using this
 have fresh:∀(o:Obj),Frm (fun b=>v.ownBlock=some b) w (w.drew.alloc o):=fun o=>((Frm.refl _ w).drew).alloc o
 have old:∀{l c:Nat} (o:Obj) (v0:Value) (n0:Nat) (L0:List Value),SlO w e i.size v0 n0 L0→(v0.ownBlock=v.ownBlock→sEnd i.size v0≤sEnd i.size v)→SlO (w.drew.alloc o) e i.size v0 n0 L0∧(v0.ownBlock=(Value.slice (some ⟨w.heap.size,0,none⟩) l c).ownBlock→sEnd i.size v0≤sEnd i.size (.slice (some ⟨w.heap.size,0,none⟩) l c)):=fun o v0 n0 L0 s0 _=>⟨s0.ext (Ext.alloc (Ext.drew (Ext.refl _)) _),fun e=>absurd (s0.lt (b:=w.heap.size) e) (Nat.lt_irrefl _)⟩
 rcases hv.2 with ⟨rfl,rfl⟩|⟨b,o,cap,a,rfl,hh,hnc,hcm,hsz,hc⟩
 ·have hL:L= []:=List.eq_nil_of_length_eq_zero (by simpa using hv.1)
  subst hL
  have hr:=run_app_grow w t tx ty e i zv ht htx hi hz none 0 0 [] (run_firstCells_none _ _ _ _ _) ⟨xb,xo,none⟩ m c news hf' oM oM (growslice_fits oM hb)
  rw [Sem.run_bind,hr]
  exact h _ _ (grown 0 oM) (fresh _) (fun b hb=>by injection hb with hb;subst hb;exact .inr (Nat.le_refl _)) (.inl rfl) (old _)
 ·by_cases hroom:n+m≤cap
  ·have hfit:o+n*i.size+news.length≤a.size:=by
    have:=Nat.mul_le_mul_right i.size hroom
    rw [Nat.add_mul] at this;omega
   have hr:=run_app_room w t tx ty e i ht htx hi b o n cap a hh ⟨xb,xo,none⟩ m c news hf (allOne_mem h1) hroom hfit
   rw [Sem.run_bind,hr]
   have hfit':o+n*i.size+news.length≤a.toList.length:=by simpa using hfit
   refine h _ _ ⟨by rw [List.length_append,hv.1,hl,Nat.add_mul],.inr ⟨b,o,cap,_,rfl,setRow_heap_eq hh _,hroom,hcm,?_,?_⟩⟩ ⟨rfl,rfl,rfl,by simp,fun k _ hk=>setRow_heap_ne _ (fun e=>hk (by simp [Value.ownBlock,e]))⟩ (fun b' hb'=> .inl hb') (.inr rfl) (fun v0 n0 L0 s0 he=>⟨?_,fun e=>Nat.le_trans (he e) (by show o+n*i.size≤o+(n+m)*i.size;rw [Nat.add_mul];omega)⟩)
   ·simp;omega
   ·intro j u hj
    rw [List.getElem?_toArray,getElem?_splice hfit']
    by_cases hjL:j<L.length
    ·rw [List.getElem?_append_left hjL] at hj
     have:=hc j u hj
     rw [if_pos (by have:=hv.1;omega)];simpa using this
    ·rw [List.getElem?_append_right oM] at hj
     have hlt:=(List.getElem?_eq_some_iff.1 hj).1
     have hv1:=hv.1
     rw [if_neg oM,if_pos oM,←hj]
     congr 1;omega
   ·by_cases e0:v0.ownBlock=some b
    ·obtain ⟨hl0,h0|⟨b0,o0,cap0,a0,rfl,hh0,hnc0,hcm0,hsz0,hc0⟩⟩:=s0
     ·rw [h0.1] at e0;cases e0
     ·injection e0 with e0
      subst e0
      have hle:o0+n0*i.size≤o+n*i.size:=he rfl
      rw [hh] at hh0
      injection hh0 with hh0
      injection hh0 with hh0
      subst hh0
      refine ⟨hl0,.inr ⟨b0,o0,cap0,_,rfl,setRow_heap_eq hh _,hnc0,hcm0,?_,fun j u hj=> ?_⟩⟩
      ·simp;omega
      ·have hjL:=(List.getElem?_eq_some_iff.1 hj).1
       rw [List.getElem?_toArray,getElem?_splice hfit']
       have:=hc0 j u hj
       rw [if_pos oM];simpa using this
    ·exact s0.frm (F:=fun b'=>b'=b) ⟨rfl,rfl,rfl,by simp,fun k _ hk=>setRow_heap_ne _ hk⟩ (fun b' hb' e=>e0 (by rw [hb',e]))
  ·have hxo:∀j u,L[j]? =some u→w.drew.cell? ((⟨b,o,none⟩:Addr).add j)=some u:=by
    intro j u hj;rw [addr_add];exact hv.cell rfl hj
   have hfo:=run_firstCells_some (P:=P) w.drew i.size n ⟨b,o,none⟩ n cap L hv.1 hxo
   have hr:=run_app_grow w t tx ty e i zv ht htx hi hz (some ⟨b,o,none⟩) n cap L hfo ⟨xb,xo,none⟩ m c news hf' oM oM (growslice_fits oM hb)
   rw [Sem.run_bind,hr]
   exact h _ _ (grown cap oM) (fresh _) (fun b hb=>by injection hb with hb;subst hb;exact .inr (Nat.le_refl _)) (.inl rfl) (old _)
theorem blt_append {P:Program} {t tx e ty:TypeId} {z bytes:Nat} {zv:Value} (E:ElT P t tx e z bytes zv) {cs:Array Bool} {w:World} {v:Value} {n:Nat} {L:List Value} (hv:SlO w e z v n L)
  {xb xo m c:Nat} {news:List Value} (hl:news.length=m*z) (hx:∀j u,news[j]? =some u→w.cell? ⟨xb,xo+j,none⟩=some u) (h1:allOne news=true) (hm:0<m) (hb:(n+m)*bytes≤140737488355328) (hm':n+m<9223372036854775807) {k:K1}
  (h:∀v' w',SlO w' e z v' (n+m) (L++news)→Frm (fun b=>v.ownBlock=some b) w w'→(∀b,v'.ownBlock=some b→v.ownBlock=some b∨w.heap.size≤b)→(sOff v'=0∨sOff v'=sOff v)→k v' w'):
  bltS P .append #[t,tx] ty cs #[v,.slice (some ⟨xb,xo,none⟩) m c] w k:=blt_appendK E hv hl hx h1 hm hb hm' fun v' w' a b c d _=>h v' w' a b c d
def zrow (zv:Value) (n:Nat):Array Value:=madeCells zv.cells n
theorem ev_make {P:Program} {t e:TypeId} {z bytes:Nat} {zv:Value} (E:ElT P t t e z bytes zv) (l n:Int) (w:World) (k:K1) (h0:0≤l) (hl:l≤n) (hb:(bytes:Int)*n≤281474976710656) (h63:n≤9223372036854775807):
  ev P (Instr.makeSlice t (.int .i64 l) (.int .i64 n)) w k=k (.slice (some ⟨w.heap.size,0,none⟩) l.toNat n.toNat) (w.alloc (.cells (zrow zv (n.toNat*z)) e)):=by
 obtain ⟨i,hi,rfl,hz,rfl⟩:=E.info
 exact ev_of_run (run_make w t e i zv E.un hi hz .i64 .i64 l n h0 hl hb h63) k
theorem zrow_get {zv:Value} {n i:Nat} (h:i<n):(zrow zv n)[i]? =some (zv.cells[i%zv.cells.size]!):=by
 unfold zrow madeCells;simp [h]
theorem zrow_cells (w:World) (zv:Value) (n:Nat) (t:TypeId):Cells (w.alloc (.cells (zrow zv n) t)) w.heap.size t n (fun i=>zv.cells[i%zv.cells.size]!):=
 ⟨zrow zv n,heap_alloc_eq _ _,by simp [zrow,madeCells],fun i hi=>zrow_get hi⟩
theorem run_sl {P:Program} {t e:TypeId} {z bytes:Nat} {zv:Value} (E:ElT P t t e z bytes zv) (b o len cap:Nat) (lo hi:Option Value) (l h:Nat) (w:World)
  (hb:(Instr.sliceBounds true len cap lo hi none).run P w= .ok (l,h,cap) w):(Instr.sliceAt t (.slice (some ⟨b,o,none⟩) len cap) lo hi none).run P w= .ok (.slice (some ⟨b,if cap=l then o else o+l*z,none⟩) (h-l) (cap-l)) w:=by
 obtain ⟨i,hi,rfl,hz,rfl⟩:=E.info
 simp only [Instr.sliceAt,Sem.run_bind,run_underlying_some E.un,Result.andThen_ok,Instr.slice,hb]
 simp only [sizeOf,typeInfo,Sem.run_bind,program,Sem.run,hi,Result.andThen_ok,Sem.run_pure,Option.map_some]
 by_cases hc:cap=l
 ·simp [hc]
 ·simp [hc,addr_add]
theorem run_bound {P:Program} (k:IntKind) (n y:Nat) (c:BoundsCode) (w:World) (h:n≤y):(Instr.sliceBound (.int k n) y c).run P w= .ok n w:=by
 simp [Instr.sliceBound,asIntOf,h]
theorem run_hi {P:Program} {t e:TypeId} {z bytes:Nat} {zv:Value} (E:ElT P t t e z bytes zv) (b o len cap:Nat) (k:IntKind) (n:Nat) (w:World) (h:n≤cap):(Instr.sliceAt t (.slice (some ⟨b,o,none⟩) len cap) none (some (.int k n)) none).run P w= .ok (.slice (some ⟨b,o,none⟩) n cap) w:=by
 have:=run_sl E b o len cap none (some (.int k n)) 0 n w (by simp [Instr.sliceBounds,run_bound _ _ _ _ _ h])
 simpa using this
theorem run_lo {P:Program} {t e:TypeId} {z bytes:Nat} {zv:Value} (E:ElT P t t e z bytes zv) (b o len cap:Nat) (k:IntKind) (n:Nat) (w:World) (h:n≤len):(Instr.sliceAt t (.slice (some ⟨b,o,none⟩) len cap) (some (.int k n)) none none).run P w= .ok (.slice (some ⟨b,if cap=n then o else o+n*z,none⟩) (len-n) (cap-n)) w:=
 run_sl E b o len cap (some (.int k n)) none n len w (by simp [Instr.sliceBounds,run_bound _ _ _ _ _ h])
def MapI (w:World) (r:Nat) (es:Array MapEntry) (clock:Nat) (m:Int→Option Value):Prop:=
 w.heap[r]? =some (.map es clock)∧(∀x∈es.toList,x.born<clock)∧(es.toList.map (·.born)).Nodup∧(es.toList.map (·.key)).Nodup∧(∀x∈es.toList,∃i,x.key= .int .i64 i)∧∀i v,m i=some v↔∃x∈es.toList,x.key= .int .i64 i∧x.val=v
theorem MapI.lt {w:World} {r:Nat} {es:Array MapEntry} {clock:Nat} {m:Int→Option Value} (h:MapI w r es clock m):r<w.heap.size:=lt_of_heap h.1
theorem MapI.of_heap {w w':World} {r:Nat} {es:Array MapEntry} {clock:Nat} {m:Int→Option Value} (h:MapI w r es clock m) (e:w'.heap[r]? =w.heap[r]?):MapI w' r es clock m:=⟨e.trans h.1,h.2⟩
theorem MapI.empty {w:World} {r clock:Nat} (h:w.heap[r]? =some (.map #[] clock)):MapI w r #[] clock (fun _=>none):=⟨h,by simp,by simp,by simp,by simp,by simp⟩
theorem ev_makeMap {P:Program} (t:TypeId) (w:World) (k:K1):ev P (Instr.makeMap t none) w k=k (.map (some w.heap.size)) (w.alloc (.map #[] 0)):=rfl
def mapT (P:Program) (t:TypeId):Bool:=
 match P.underlying t with
 |some (.map kt _)=>match P.underlying kt with
  |some (.int .i64)=>true
  |_=>false
 |_=>false
theorem mapT_un {P:Program} {t:TypeId} (h:mapT P t=true):∃kt et,P.underlying t=some (.map kt et)∧P.underlying kt=some (.int .i64):=by
 unfold mapT at h
 split at h
 ·rename_i kt et hu
  split at h
  ·rename_i hk;exact ⟨kt,et,hu,hk⟩
  ·cases h
 ·cases h
def putO (w:World) (r:Nat) (o:Obj):World:={w with heap:=w.heap.setIfInBounds r o}
theorem putO_eq {w:World} {r:Nat} {o o':Obj} (h:w.heap[r]? =some o):(putO w r o').heap[r]? =some o':=(MapKept.heap_set h).1
theorem putO_ne {w:World} {r b:Nat} {o':Obj} (h:b≠r):(putO w r o').heap[b]? =w.heap[b]? :=by
 show (w.heap.setIfInBounds r o')[b]? =_
 rw [Array.getElem?_setIfInBounds_ne (Ne.symm h)]
theorem putO_frm {w:World} {r:Nat} {o':Obj}:Frm (fun b=>b=r) w (putO w r o'):=⟨rfl,rfl,rfl,by simp [putO],fun _ _ hn=>putO_ne hn⟩
theorem isKey_i64 (i:Int):MapKept.IsKey (.int .i64) (.int .i64 i):=by simp [MapKept.IsKey]
theorem ac_mapUpdate {P:Program} {t:TypeId} (ht:mapT P t=true) {w:World} {r:Nat} {es:Array MapEntry} {clock:Nat} {m:Int→Option Value} (hm:MapI w r es clock m) (i:Int) (v:Value) {k:World→Prop}
  (h:∀w' es' clock',MapI w' r es' clock' (fun j=>if j=i then some v else m j)→Frm (fun b=>b=r) w w'→k w'):ac P (Instr.mapUpdate t (.map (some r)) (.int .i64 i) v) w k:=by
 obtain ⟨kt,et,hu,hk⟩:=mapT_un ht
 obtain ⟨hb,hclk,hbn,hkn,hks,hmm⟩:=hm
 have hks':∀x∈es.toList,MapKept.IsKey (.int .i64) x.key:=by
  intro x hx;obtain ⟨i,e⟩:=hks x hx;rw [e];exact isKey_i64 i
 unfold ac
 rcases MapKept.findNow_spec (isKey_i64 i) es.toList 0 hks' with ⟨h1,h2⟩|⟨j,e,h1,h2,h3⟩
 ·have hr:(Instr.mapUpdate t (.map (some r)) (.int .i64 i) v).run P w= .ok () (putO w r (.map (es.push {key:= .int .i64 i,val:=v,born:=clock}) (clock+1))):=by
   simp [Instr.mapUpdate,run_underlying hu,MapKept.run_getObj_map hb,MapKept.run_checkKey hk (isKey_i64 i),MapKept.run_findKey hk h1,MapKept.run_setObj_map _ hb,putO]
  rw [hr]
  refine h _ _ _ ⟨putO_eq hb,?_,?_,?_,?_,?_⟩ putO_frm
  ·intro x hx
   simp only [Array.toList_push,List.mem_append,List.mem_singleton] at hx
   rcases hx with hx|rfl
   ·have:=hclk x hx;omega
   ·exact Nat.lt_succ_self _
  ·simp only [Array.toList_push,List.map_append,List.map_cons,List.map_nil]
   rw [List.nodup_append]
   refine ⟨hbn,by simp,?_⟩
   intro a ha b hb' e
   simp only [List.mem_singleton] at hb'
   obtain ⟨x,hx,rfl⟩:=List.mem_map.1 ha
   have:=hclk x hx
   omega
  ·simp only [Array.toList_push,List.map_append,List.map_cons,List.map_nil]
   rw [List.nodup_append]
   refine ⟨hkn,by simp,?_⟩
   intro a ha b hb' e
   simp only [List.mem_singleton] at hb'
   obtain ⟨x,hx,rfl⟩:=List.mem_map.1 ha
   exact h2 x hx (e.trans hb')
  ·intro x hx
   simp only [Array.toList_push,List.mem_append,List.mem_singleton] at hx
   rcases hx with hx|rfl
   ·exact hks x hx
   ·exact ⟨i,rfl⟩
  ·intro j u
   simp only [Array.toList_push,List.mem_append,List.mem_singleton]
   by_cases hj:j=i
   ·subst hj
    simp only [if_true,Option.some.injEq]
    constructor
    ·rintro rfl;exact ⟨_,.inr rfl,rfl,rfl⟩
    ·rintro ⟨x,hx|rfl,hk,hv⟩
     ·exact absurd hk (h2 x hx)
     ·exact hv
   ·simp only [hj,if_false]
    rw [hmm]
    constructor
    ·rintro ⟨x,hx,hk,hv⟩;exact ⟨x,.inl hx,hk,hv⟩
    ·rintro ⟨x,hx|rfl,hk,hv⟩
     ·exact ⟨x,hx,hk,hv⟩
     ·injection hk with _ hk;exact absurd hk.symm hj
 ·have hj:es[j]? =some e:=by simpa using h2
  have hr:(Instr.mapUpdate t (.map (some r)) (.int .i64 i) v).run P w= .ok () (putO w r (.map (es.modify j fun e=>{e with key:= .int .i64 i,val:=v}) clock)):=by
   simp [Instr.mapUpdate,run_underlying hu,MapKept.run_getObj_map hb,MapKept.run_checkKey hk (isKey_i64 i),MapKept.run_findKey hk h1,hj,h3,MapKept.run_keyThatStays (isKey_i64 i),MapKept.run_setObj_map _ hb,putO]
  rw [hr]
  have hkey:∀e',es[j]? =some e'→({e' with key:= .int .i64 i,val:=v}:MapEntry).key=e'.key:=fun e' he'=>by rw [hj] at he';cases he';exact h3.symm
  have hjl:j<es.size:=(Array.getElem?_eq_some_iff.1 hj).1
  have hst:=MapKept.stamped_modify (es:=es) (clock:=clock) ⟨hclk,hbn,hkn⟩ j (fun e=>{e with key:= .int .i64 i,val:=v}) (fun _ _=>rfl) (fun e' _ he'=>hkey e' he')
  have hmem:∀x,x∈(es.modify j fun e=>{e with key:= .int .i64 i,val:=v}).toList↔(x={e with key:= .int .i64 i,val:=v}∨(x∈es.toList∧x.key≠ .int .i64 i)):=by
   intro x
   rw [Array.mem_toList_iff,Array.mem_iff_getElem?]
   constructor
   ·rintro ⟨q,hq⟩
    rw [Array.getElem?_modify] at hq
    by_cases hqj:j=q
    ·subst hqj;rw [if_pos rfl,hj] at hq;simp at hq;exact .inl hq.symm
    ·rw [if_neg hqj] at hq
     refine .inr ⟨by rw [Array.mem_toList_iff,Array.mem_iff_getElem?];exact ⟨q,hq⟩,?_⟩
     intro hxk
     have hql:q<es.size:=(Array.getElem?_eq_some_iff.1 hq).1
     have h5:(es.toList.map (·.key))[q]? =some (.int .i64 i):=by simp [List.getElem?_map,hq,hxk]
     have h6:(es.toList.map (·.key))[j]? =some (.int .i64 i):=by simp [List.getElem?_map,hj,h3]
     exact hqj ((List.getElem?_inj (by simpa using hjl) hkn).1 (h6.trans h5.symm))
   ·rintro (rfl|⟨hx,hxk⟩)
    ·exact ⟨j,by rw [Array.getElem?_modify,if_pos rfl,hj];rfl⟩
    ·rw [Array.mem_toList_iff,Array.mem_iff_getElem?] at hx
     obtain ⟨q,hq⟩:=hx
     refine ⟨q,?_⟩
     rw [Array.getElem?_modify,if_neg,hq]
     intro hqj;subst hqj;rw [hj] at hq;cases hq;exact hxk h3
  refine h _ _ _ ⟨putO_eq hb,hst.1,hst.2.1,hst.2.2,?_,?_⟩ putO_frm
  ·intro x hx
   rcases (hmem x).1 hx with rfl|⟨hx,_⟩
   ·exact ⟨i,rfl⟩
   ·exact hks x hx
  ·intro q u
   by_cases hq:q=i
   ·subst hq
    simp only [if_true,Option.some.injEq]
    constructor
    ·rintro rfl;exact ⟨_,(hmem _).2 (.inl rfl),rfl,rfl⟩
    ·rintro ⟨x,hx,hk,hv⟩
     rcases (hmem x).1 hx with rfl|⟨_,hn⟩
     ·exact hv
     ·exact absurd hk hn
   ·simp only [hq,if_false]
    rw [hmm]
    constructor
    ·rintro ⟨x,hx,hk,hv⟩;exact ⟨x,(hmem x).2 (.inr ⟨hx,by rw [hk];intro e;injection e with _ e;exact hq e⟩),hk,hv⟩
    ·rintro ⟨x,hx,hk,hv⟩
     rcases (hmem x).1 hx with rfl|⟨hx,_⟩
     ·injection hk with _ hk;exact absurd hk.symm hq
     ·exact ⟨x,hx,hk,hv⟩
theorem ev_range {P:Program} {t:TypeId} (ht:mapT P t=true) {w:World} {r:Nat} {es:Array MapEntry} {clock:Nat} (hb:w.heap[r]? =some (.map es clock)) (k:K1):
  ev P (Instr.range t (.map (some r))) w k=k (.pointer (some ⟨w.heap.size,0,none⟩)) (w.alloc (.mapIter (some r) clock #[] clock)):=by
 obtain ⟨kt,et,hu,hk⟩:=mapT_un ht
 exact ev_of_run (run_range_map w t kt et r es clock hu hb) k
theorem ev_next {P:Program} {ty:TypeId} {w:World} {it m since last clock:Nat} {seen:Array Nat} {es:Array MapEntry} (hit:w.heap[it]? =some (.mapIter (some m) since seen last)) (hm:w.heap[m]? =some (.map es clock)) (hold:∀x∈es.toList,x.born<since) (hsl:since≤last) {k:K1}
  (h0:(∀x∈es.toList,x.born∈seen)→∀w',Ext w w'→k (.tuple #[.bool false]) w')
  (h1:∀x∈es.toList,x.born∉seen→∀w',w'.heap[it]? =some (.mapIter (some m) since (seen.push x.born) clock)→w'.heap.size=w.heap.size→Frm (fun b=>b=it) w w'→k (.tuple #[.bool true,x.key,x.val]) w'):ev P (Instr.next (.pointer (some ⟨it,0,none⟩)) false ty) w k:=by
 unfold ev
 simp only [Instr.next,getObj,Sem.run_bind,Sem.run,hit,hm,Result.andThen,Go.next_test_false seen es since last hold hsl,Bool.false_eq_true,if_false]
 have hmem:∀x∈(Array.filter (fun e=> !seen.contains e.born) es).toList,x∈es.toList∧x.born∉seen:=fun x hx=>by simpa using hx
 have hall:(Array.filter (fun e=> !seen.contains e.born) es).size=0→∀x∈es.toList,x.born∈seen:=by
  intro h x hx
  by_cases hs:x.born∈seen
  ·exact hs
  ·have:x∈Array.filter (fun e=> !seen.contains e.born) es:=by simp [hs];simpa using hx
   rw [Array.eq_empty_of_size_eq_zero h] at this
   simp at this
 generalize Array.filter (fun e=> !seen.contains e.born) es=L at hmem hall ⊢
 have e1:L.filter (fun x=>decide (x.born<since))=L:=Array.filter_eq_self.2 (fun x hx=>by simpa using hold x (hmem x (by simpa using hx)).1)
 have e2:L.filter (fun x=>decide (x.born≥since))= #[]:=by
  rw [Array.filter_eq_empty_iff]
  intro x hx
  have:=hold x (hmem x (by simpa using hx)).1
  simp
  omega
 simp only [e1,e2,Array.append_empty]
 by_cases hz:L.size=0
 ·have:L= #[]:=Array.eq_empty_of_size_eq_zero hz
  subst this
  have hr:(choose (Question.mapNext 1)).run P w= .ok 0 w:=by simp [choose,Sem.run,Question.forced]
  simp only [Array.isEmpty_empty,if_true,Array.map_empty,Array.append_empty,List.size_toArray,List.length_singleton,hr]
  exact h0 (hall hz) w (Ext.refl w)
 ·have hne:L.isEmpty=false:=by simp [Array.isEmpty,hz]
  simp only [hne,Bool.false_eq_true,if_false,Array.empty_append,Array.size_map]
  have hch:∃(j:Nat) (w1:World),j<L.size∧w1.heap=w.heap∧w1.os=w.os∧w1.tape=w.tape∧w1.output=w.output∧(choose (Question.mapNext L.size)).run P w= .ok j w1:=by
   by_cases hf:L.size≤1
   ·exact ⟨0,w,by omega,rfl,rfl,rfl,rfl,by simp [choose,Sem.run,Question.forced,hf]⟩
   ·exact ⟨_,w.drew,Nat.mod_lt _ oM,rfl,rfl,rfl,rfl,by
     simp only [choose,Sem.run,Question.forced,decide_eq_true_eq,hf,if_false,Question.cut]
     rfl⟩
  obtain ⟨j,w1,hj,a1,a2,a3,a4,hrun⟩:=hch
  have hit1:w1.heap[it]? =some (.mapIter (some m) since seen last):=by rw [a1];exact hit
  have hset:∀o',(setObj it o').run P w1= .ok () (putO w1 it o'):=fun o'=>by simp [setObj,Sem.run,hit1,putO]
  simp only [hrun,Array.getElem?_map,Array.getElem?_eq_getElem hj,Option.map_some,Sem.run_bind,hset,Result.andThen]
  have hx:=hmem L[j] (by simp)
  refine h1 L[j] hx.1 hx.2 _ (putO_eq hit1) (by simp [putO,a1]) ⟨a2,a3,a4,by simp [putO,a1],?_⟩
  intro b hb hn
  rw [putO_ne hn,a1]
theorem ev_entry {P:Program} {w:World} {it m since clock stamp:Nat} {seen:Array Nat} {es:Array MapEntry} (hit:w.heap[it]? =some (.mapIter (some m) since (seen.push stamp) clock)) (hm:w.heap[m]? =some (.map es clock)) (hn:(es.toList.map (·.born)).Nodup) {x:MapEntry} (hx:x∈es.toList) (hxs:x.born=stamp) (k:K1):
  ev P (Instr.entry (.pointer (some ⟨it,0,none⟩))) w k=k (.tuple #[x.key,x.val]) w:=by
 refine ev_of_run ?_ k
 subst hxs
 have hf:=find_born x es.toList hn hx
 have hf':es.find? (fun e=>e.born==x.born)=some x:=by rw [←Array.find?_toList];exact hf
 simp [Instr.entry,getObj,Sem.run,hit,hm,Sem.run_bind,hf']
theorem blt_clear {P:Program} {t ty:TypeId} (ht:mapT P t=true) {cs:Array Bool} {w:World} {r:Nat} {es:Array MapEntry} {clock:Nat} (hb:w.heap[r]? =some (.map es clock)) (k:K1):
  bltS P .clear #[t] ty cs #[.map (some r)] w k=k (.tuple #[]) (putO w r (.map #[] clock)):=by
 obtain ⟨kt,et,hu,hk⟩:=mapT_un ht
 have hr:(Builtin.clear_ #[t] ty #[.map (some r)]).run P w= .ok (.tuple #[]) (putO w r (.map #[] clock)):=by
  simp [Builtin.clear_,run_underlying hu,MapKept.run_getObj_map hb,MapKept.run_setObj_map _ hb,putO]
 unfold bltS builtin
 rw [Sem.run_bind,hr];rfl
theorem ev_bs0 {P:Program} {t e:TypeId} {z bytes:Nat} {zv:Value} (E:ElT P t t e z bytes zv) (w:World) (k:K1):ev P (Instr.buildSlice t 0 #[]) w k=k (.slice (some ⟨w.heap.size,0,none⟩) 0 0) (w.alloc (.cells #[] e)):=by
 obtain ⟨i,hi,rfl,hz,rfl⟩:=E.info
 refine ev_of_run ?_ k
 unfold Instr.buildSlice
 rw [Sem.run_bind,run_underlying_some E.un,Result.andThen_ok]
 simp only
 simp [sizeOf,typeInfo,program,Sem.run,hi,Sem.run_bind,Instr.fill,newRow,Array.range_zero']
theorem SlO.lit0 (w:World) (t:TypeId) (z:Nat):SlO (w.alloc (.cells #[] t)) t z (.slice (some ⟨w.heap.size,0,none⟩) 0 0) 0 []:=
 ⟨by simp,.inr ⟨w.heap.size,0,0,#[],rfl,heap_alloc_eq _ _,Nat.le_refl _,Nat.zero_le _,by simp,by intro i u h;simp at h⟩⟩
theorem equalIn_sl {P:Program} {t:TypeId} (h:sliceT P t=true) (p:Option Addr) (n c:Nat) (w:World) (d:Nat):(Op.equalIn (d+1) t (.slice p n c) (.slice none 0 0)).run P w= .ok p.isNone w:=by
 unfold sliceT at h
 split at h
 ·rename_i e hu
  unfold Op.equalIn
  rw [Sem.run_bind,run_underlying_some hu,Result.andThen_ok]
  cases p<;>rfl
 ·cases h
theorem run_eq_sl_nil {P:Program} {t:TypeId} (h:sliceT P t=true) (x y:Operand) (p:Option Addr) (n c:Nat) (w:World):(binM .eql t x y (.slice p n c) (.slice none 0 0)).run P w= .ok (.bool p.isNone) w:=
 run_eqM (by cases p<;>rfl) (by cases p<;>rfl) (equalIn_sl h p n c w)
theorem run_shr_i {P:Program} {k:IntKind} (t:TypeId) (x y:Operand) (a:Nat) (n:Int) (w:World) (h0:0≤n) (hn:n≤k.bits):(binM .shr t x y (.int k (a:Int)) (.int .i64 n)).run P w= .ok (.int k ((a/2^n.toNat:Nat):Int)) w:=by
 have:=shr_nat (P:=P) (k:=k) (j:= .i64) t x y a n.toNat w oM
 rwa [Int.toNat_of_nonneg h0] at this
theorem run_shl_i {P:Program} {k:IntKind} (hu:unsg k=true) (t:TypeId) (x y:Operand) (a:Nat) (n:Int) (w:World) (h0:0≤n) (hn:n≤k.bits):(binM .shl t x y (.int k (a:Int)) (.int .i64 n)).run P w= .ok (.int k ((a*2^n.toNat%2^k.bits:Nat):Int)) w:=by
 have:=shl_nat (P:=P) (k:=k) (j:= .i64) hu t x y a n.toNat w oM
 rwa [Int.toNat_of_nonneg h0] at this
abbrev KVL:=List (Int×Value)
def getL (L:KVL) (i:Int):Option Value:=(L.find? fun p=>decide (p.1=i)).map (·.2)
def setL (L:KVL) (i:Int) (v:Value):KVL:=if (getL L i).isSome then L.map (fun p=>if p.1=i then (i,v) else p) else L++ [(i,v)]
def delL (L:KVL) (i:Int):KVL:=L.filter fun p=> !decide (p.1=i)
def kvV (kk:IntKind) (p:Int×Value):Value×Value:=(.int kk p.1,p.2)
def MapK (kk:IntKind) (w:World) (r:Nat) (L:KVL):Prop:=∃es clock,w.heap[r]? =some (.map es clock)∧MapKept.Stamped es clock∧es.toList.map (fun x=>(x.key,x.val))=L.map (kvV kk)
def MapT (P:Program) (kk:IntKind) (t:TypeId) (z:Value):Prop:=∃kt et,P.underlying t=some (.map kt et)∧P.underlying kt=some (.int kk)∧zeroT P et=some z
section
variable {P:Program} {kk:IntKind} {w w':World} {r:Nat} {L:KVL} {i:Int} {v u z:Value} {t:TypeId}
theorem getL_mem (h:getL L i=some v):(i,v)∈L:=by
 unfold getL at h
 cases hf:L.find? (fun p=>decide (p.1=i)) with
 |none=>rw [hf] at h;cases h
 |some p=>
  rw [hf] at h
  have h1:=List.mem_of_find?_eq_some hf
  have h2:=List.find?_some hf
  simp only [decide_eq_true_eq] at h2
  simp only [Option.map_some,Option.some.injEq] at h
  obtain ⟨a,b⟩:=p
  simp only at h2 h
  subst h2;subst h;exact h1
theorem getL_of {L:KVL} {i:Int} {v:Value} (hn:(L.map (·.1)).Nodup) (h:(i,v)∈L):getL L i=some v:=by
 induction L with
 |nil=>cases h
 |cons p L ih=>
  unfold getL
  rw [List.find?_cons]
  by_cases e:p.1=i
  ·rw [decide_eq_true e]
   rcases List.mem_cons.1 h with h|h
   ·rw [←h];rfl
   ·exfalso
    rw [List.map_cons,List.nodup_cons] at hn
    exact hn.1 (List.mem_map.2 ⟨_,h,e.symm⟩)
  ·rw [decide_eq_false e]
   rcases List.mem_cons.1 h with h|h
   ·rw [←h] at e;exact absurd rfl e
   ·rw [List.map_cons,List.nodup_cons] at hn
    exact ih hn.2 h
theorem getL_none {L:KVL} {i:Int}:getL L i=none↔∀p∈L,p.1≠i:=by
 unfold getL
 rw [Option.map_eq_none_iff,List.find?_eq_none]
 simp
theorem set_at {L:KVL} (hn:(L.map (·.1)).Nodup) {j:Nat} (h:L[j]? =some (i,u)):L.set j (i,v)=L.map (fun p=>if p.1=i then (i,v) else p):=by
 apply List.ext_getElem?
 intro q
 rw [List.getElem?_set,List.getElem?_map]
 have hj:=(List.getElem?_eq_some_iff.1 h).1
 by_cases e:j=q
 ·subst e
  rw [if_pos rfl,if_pos hj,h];simp
 ·rw [if_neg e]
  cases hq:L[q]? with
  |none=>rfl
  |some p=>
   simp only [Option.map_some,Option.some.injEq]
   have:p.1≠i:=fun e2=>by
    have h1:(L.map (·.1))[q]? =some i:=by rw [List.getElem?_map,hq,←e2];rfl
    have h2:(L.map (·.1))[j]? =some i:=by rw [List.getElem?_map,h];rfl
    exact e ((List.getElem?_inj (by rw [List.length_map];exact hj) hn).1 (h2.trans h1.symm))
   rw [if_neg this]
theorem erase_at:∀{L:KVL} {j:Nat},(L.map (·.1)).Nodup→L[j]? =some (i,u)→L.eraseIdx j=delL L i
 | [],j,_,h=>by simp at h
 |p::L,0,hn,h=>by
  simp only [List.getElem?_cons_zero,Option.some.injEq] at h
  subst h
  rw [List.map_cons,List.nodup_cons] at hn
  simp only [List.eraseIdx_cons_zero,delL,List.filter_cons]
  rw [if_neg (by simp)]
  symm
  rw [List.filter_eq_self]
  intro q hq
  simp only [Bool.not_eq_true',decide_eq_false_iff_not]
  intro e
  exact hn.1 (List.mem_map.2 ⟨q,hq,e⟩)
 |p::L,j+1,hn,h=>by
  simp only [List.getElem?_cons_succ] at h
  rw [List.map_cons,List.nodup_cons] at hn
  have hp:p.1≠i:=fun e=>hn.1 (by rw [e];exact List.mem_map.2 ⟨_,List.mem_of_getElem? h,rfl⟩)
  simp only [List.eraseIdx_cons_succ]
  rw [erase_at hn.2 h]
  simp only [delL,List.filter_cons]
  rw [if_pos (by simpa using hp)]
theorem MapK.lt (h:MapK kk w r L):r<w.heap.size:=by
 obtain ⟨es,c,h1,_⟩:=h
 exact lt_of_heap h1
theorem MapK.of_heap (h:MapK kk w r L) (e:w'.heap[r]? =w.heap[r]?):MapK kk w' r L:=by
 obtain ⟨es,c,h1,h2⟩:=h
 exact ⟨es,c,e.trans h1,h2⟩
theorem MapK.ext (h:MapK kk w r L) (e:Ext w w'):MapK kk w' r L:=h.of_heap (e.blk r h.lt)
theorem MapK.frm {F:Nat→Prop} (h:MapK kk w r L) (e:Frm F w w') (hF:¬F r):MapK kk w' r L:=h.of_heap (e.block r h.lt hF)
theorem MapK.empty {clock:Nat} (h:w.heap[r]? =some (.map #[] clock)):MapK kk w r []:=⟨#[],clock,h,MapKept.stamped_empty _,rfl⟩
theorem MapK.keys (h:MapK kk w r L):(L.map (·.1)).Nodup:=by
 obtain ⟨es,c,h1,h2,h3⟩:=h
 have h4:es.toList.map (·.key)=(L.map (·.1)).map (Value.int kk):=by
  have:=congrArg (List.map Prod.fst) h3
  simp only [List.map_map] at this
  rw [List.map_map];exact this
 have h5:=h2.2.2
 rw [h4] at h5
 exact List.Pairwise.of_map (S:=fun a b=>a≠b) (Value.int kk) (fun a b h e=>h (by rw [e])) h5
theorem mk_at {es:Array MapEntry} (h3:es.toList.map (fun x=>(x.key,x.val))=L.map (kvV kk)) (j:Nat):(es.toList[j]?).map (fun x=>(x.key,x.val))=(L[j]?).map (kvV kk):=by
 have:=congrArg (fun l=>l[j]?) h3
 simpa only [List.getElem?_map] using this
theorem mk_find {es:Array MapEntry} {c:Nat} (h2:MapKept.Stamped es c) (h3:es.toList.map (fun x=>(x.key,x.val))=L.map (kvV kk)) (i:Int):
  (Instr.findNow (.int kk) (.int kk i) es.toList 0=some none∧getL L i=none)∨∃j e,Instr.findNow (.int kk) (.int kk i) es.toList 0=some (some (j,e.val))∧es.toList[j]? =some e∧e.key= .int kk i∧L[j]? =some (i,e.val)∧getL L i=some e.val:=by
 have hks:∀x∈es.toList,MapKept.IsKey (.int kk) x.key:=fun x hx=>by
  have:(x.key,x.val)∈L.map (kvV kk):=by rw [←h3];exact List.mem_map.2 ⟨x,hx,rfl⟩
  obtain ⟨p,_,hp⟩:=List.mem_map.1 this
  have:x.key= .int kk p.1:=(congrArg Prod.fst hp).symm
  rw [this];simp [MapKept.IsKey]
 have hn:(L.map (·.1)).Nodup:=by
  have h4:es.toList.map (·.key)=(L.map (·.1)).map (Value.int kk):=by
   have:=congrArg (List.map Prod.fst) h3
   simp only [List.map_map] at this
   rw [List.map_map];exact this
  have h5:=h2.2.2
  rw [h4] at h5
  exact List.Pairwise.of_map (S:=fun a b=>a≠b) (Value.int kk) (fun a b h e=>h (by rw [e])) h5
 rcases MapKept.findNow_spec (d:= .int kk) (k:= .int kk i) (by simp [MapKept.IsKey]) es.toList 0 hks with ⟨a,b⟩|⟨j,e,a,b,d⟩
 ·left
  refine ⟨a,getL_none.2 (fun p hp e=> ?_)⟩
  have:kvV kk p∈es.toList.map (fun x=>(x.key,x.val)):=by rw [h3];exact List.mem_map.2 ⟨p,hp,rfl⟩
  obtain ⟨x,hx,hxp⟩:=List.mem_map.1 this
  have h6:x.key= .int kk p.1:=congrArg Prod.fst hxp
  rw [e] at h6
  exact b x hx h6
 ·right
  rw [Nat.zero_add] at a
  have h7:=mk_at h3 j
  rw [b] at h7
  cases hL:L[j]? with
  |none=>rw [hL] at h7;cases h7
  |some p=>
   rw [hL] at h7
   simp only [Option.map_some,Option.some.injEq,kvV,Prod.mk.injEq] at h7
   rw [d] at h7
   have hp1:p.1=i:=by injection h7.1 with _ h;exact h.symm
   have hp:p=(i,e.val):=by obtain ⟨a,b⟩:=p;simp only at hp1 h7;rw [hp1,h7.2]
   rw [hp] at hL
   exact ⟨j,e,a,b,d,hL,getL_of hn (List.mem_of_getElem? hL)⟩
theorem run_lookupK (ht:MapT P kk t z) (h:MapK kk w r L) (i:Int):(Instr.lookup t (.map (some r)) (.int kk i) true).run P w= .ok (.tuple #[(getL L i).getD z,.bool (getL L i).isSome]) w:=by
 obtain ⟨kt,et,hu,hk,hz⟩:=ht
 obtain ⟨es,c,h1,h2,h3⟩:=h
 rcases mk_find h2 h3 i with ⟨a,b⟩|⟨j,e,a,_,_,_,b⟩
 ·simp [Instr.lookup,run_underlying hu,MapKept.run_getObj_map h1,MapKept.run_checkKey hk (show MapKept.IsKey (.int kk) (.int kk i) by simp [MapKept.IsKey]),MapKept.run_findKey hk a,run_zeroValue hz,b]
 ·simp [Instr.lookup,run_underlying hu,MapKept.run_getObj_map h1,MapKept.run_checkKey hk (show MapKept.IsKey (.int kk) (.int kk i) by simp [MapKept.IsKey]),MapKept.run_findKey hk a,b]
theorem run_lookupK1 (ht:MapT P kk t z) (h:MapK kk w r L) (i:Int):(Instr.lookup t (.map (some r)) (.int kk i) false).run P w= .ok ((getL L i).getD z) w:=by
 obtain ⟨kt,et,hu,hk,hz⟩:=ht
 obtain ⟨es,c,h1,h2,h3⟩:=h
 rcases mk_find h2 h3 i with ⟨a,b⟩|⟨j,e,a,_,_,_,b⟩
 ·simp [Instr.lookup,run_underlying hu,MapKept.run_getObj_map h1,MapKept.run_checkKey hk (show MapKept.IsKey (.int kk) (.int kk i) by simp [MapKept.IsKey]),MapKept.run_findKey hk a,run_zeroValue hz,b]
 ·simp [Instr.lookup,run_underlying hu,MapKept.run_getObj_map h1,MapKept.run_checkKey hk (show MapKept.IsKey (.int kk) (.int kk i) by simp [MapKept.IsKey]),MapKept.run_findKey hk a,b]
theorem ac_setK {k:World→Prop} (ht:MapT P kk t z) (h:MapK kk w r L) (i:Int) (v:Value) (hK:∀w',MapK kk w' r (setL L i v)→Frm (fun b=>b=r) w w'→k w'):ac P (Instr.mapUpdate t (.map (some r)) (.int kk i) v) w k:=by
 obtain ⟨kt,et,hu,hk,hz⟩:=ht
 have hkeys:=h.keys
 obtain ⟨es,c,h1,h2,h3⟩:=h
 have hik:MapKept.IsKey (.int kk) (.int kk i):=by simp [MapKept.IsKey]
 unfold ac
 rcases mk_find h2 h3 i with ⟨a,b⟩|⟨j,e,a,d1,d2,d3,b⟩
 ·have hr:(Instr.mapUpdate t (.map (some r)) (.int kk i) v).run P w= .ok () (putO w r (.map (es.push {key:= .int kk i,val:=v,born:=c}) (c+1))):=by
   simp [Instr.mapUpdate,run_underlying hu,MapKept.run_getObj_map h1,MapKept.run_checkKey hk hik,MapKept.run_findKey hk a,MapKept.run_setObj_map _ h1,putO]
  rw [hr]
  refine hK _ ⟨_,_,putO_eq h1,MapKept.stamped_push h2 (fun x hx e=> ?_),?_⟩ putO_frm
  ·have:(x.key,x.val)∈L.map (kvV kk):=by rw [←h3];exact List.mem_map.2 ⟨x,hx,rfl⟩
   obtain ⟨p,hp,hpx⟩:=List.mem_map.1 this
   have h6:Value.int kk p.1=x.key:=congrArg Prod.fst hpx
   rw [e] at h6
   injection h6 with _ h6
   exact getL_none.1 b p hp h6
  ·unfold setL
   rw [b,if_neg (by simp)]
   simp [h3,kvV]
 ·have hj:es[j]? =some e:=by simpa using d1
  have hr:(Instr.mapUpdate t (.map (some r)) (.int kk i) v).run P w= .ok () (putO w r (.map (es.modify j fun e=>{e with key:= .int kk i,val:=v}) c)):=by
   simp [Instr.mapUpdate,run_underlying hu,MapKept.run_getObj_map h1,MapKept.run_checkKey hk hik,MapKept.run_findKey hk a,hj,d2,MapKept.run_keyThatStays hik,MapKept.run_setObj_map _ h1,putO]
  rw [hr]
  have hst:=MapKept.stamped_modify (es:=es) (clock:=c) h2 j (fun e=>{e with key:= .int kk i,val:=v}) (fun _ _=>rfl) (fun e' _ he'=>by rw [hj] at he';cases he';exact d2.symm)
  refine hK _ ⟨_,_,putO_eq h1,hst,?_⟩ putO_frm
  unfold setL
  rw [b,if_pos (by simp),←set_at hkeys d3]
  apply List.ext_getElem?
  intro q
  have h7:=mk_at h3 q
  rw [List.getElem?_map,List.getElem?_map,Array.getElem?_toList,Array.getElem?_modify,List.getElem?_set]
  have hjl:j<L.length:=(List.getElem?_eq_some_iff.1 d3).1
  by_cases e2:j=q
  ·subst e2
   rw [if_pos rfl,if_pos rfl,if_pos hjl,hj];rfl
  ·rw [if_neg e2,if_neg e2,←h7,Array.getElem?_toList]
theorem blt_delK {ts:Array TypeId} {ty:TypeId} {cs:Array Bool} {k:K1} (hts:ts[0]? =some t) (ht:MapT P kk t z) (h:MapK kk w r L) (i:Int) (hK:∀w',MapK kk w' r (delL L i)→Frm (fun b=>b=r) w w'→k (.tuple #[]) w'):bltS P .delete ts ty cs #[.map (some r),.int kk i] w k:=by
 obtain ⟨kt,et,hu,hk,hz⟩:=ht
 have hkeys:=h.keys
 obtain ⟨es,c,h1,h2,h3⟩:=h
 have hik:MapKept.IsKey (.int kk) (.int kk i):=by simp [MapKept.IsKey]
 unfold bltS
 rcases mk_find h2 h3 i with ⟨a,b⟩|⟨j,e,a,d1,d2,d3,b⟩
 ·have hr:(builtin .delete ts ty cs #[.map (some r),.int kk i]).run P w= .ok (.value (.tuple #[])) (putO w r (.map es c)):=by
   simp [builtin,Builtin.delete_,hts,run_underlying hu,MapKept.run_getObj_map h1,MapKept.run_checkKey hk hik,MapKept.run_findKey hk a,MapKept.run_setObj_map _ h1,putO]
  rw [hr]
  refine hK _ ⟨_,_,putO_eq h1,h2,?_⟩ putO_frm
  unfold delL
  rw [List.filter_eq_self.2 (fun p hp=>by simpa using getL_none.1 b p hp)]
  exact h3
 ·have hr:(builtin .delete ts ty cs #[.map (some r),.int kk i]).run P w= .ok (.value (.tuple #[])) (putO w r (.map (es.eraseIdxIfInBounds j) c)):=by
   simp [builtin,Builtin.delete_,hts,run_underlying hu,MapKept.run_getObj_map h1,MapKept.run_checkKey hk hik,MapKept.run_findKey hk a,MapKept.run_setObj_map _ h1,putO]
  rw [hr]
  refine hK _ ⟨_,_,putO_eq h1,MapKept.stamped_erase h2 j,?_⟩ putO_frm
  rw [←erase_at hkeys d3,Array.toList_eraseIdxIfInBounds]
  have er:∀{α β:Type} (g:α→β) (l:List α) (j:Nat),(l.eraseIdx j).map g=(l.map g).eraseIdx j:=by
   intro α β g l
   induction l with
   |nil=>intro j;rfl
   |cons x l ih=>
    intro j
    cases j with
    |zero=>rfl
    |succ j=>simp only [List.eraseIdx_cons_succ,List.map_cons,ih]
  rw [er,er,h3]
end
def MapIt (kk:IntKind) (w:World) (r m:Nat) (L S:KVL):Prop:=∃es clock seen,w.heap[m]? =some (.map es clock)∧MapKept.Stamped es clock∧es.toList.map (fun x=>(x.key,x.val))=L.map (kvV kk)∧w.heap[r]? =some (.mapIter (some m) clock seen clock)∧(leftOf es seen).toList.map (fun x=>(x.key,x.val))=S.map (kvV kk)
section
variable {P:Program} {kk:IntKind} {w w':World} {r m:Nat} {L S:KVL} {z:Value} {t:TypeId}
theorem MapIt.lt (h:MapIt kk w r m L S):r<w.heap.size∧m<w.heap.size∧r≠m:=by
 obtain ⟨es,clock,seen,a,_,_,b,_⟩:=h
 refine ⟨lt_of_heap b,lt_of_heap a,fun e=> ?_⟩
 rw [e,a] at b;cases b
theorem MapIt.map (h:MapIt kk w r m L S):MapK kk w m L:=by
 obtain ⟨es,clock,seen,a,b,c,_⟩:=h
 exact ⟨es,clock,a,b,c⟩
theorem MapIt.frm {F:Nat→Prop} (h:MapIt kk w r m L S) (e:Frm F w w') (hr:¬F r) (hm:¬F m):MapIt kk w' r m L S:=by
 have hl:=h.lt
 obtain ⟨es,clock,seen,a,b,c,d,f⟩:=h
 exact ⟨es,clock,seen,(e.block m hl.2.1 hm).trans a,b,c,(e.block r hl.1 hr).trans d,f⟩
theorem ev_rangeK (hT:MapT P kk t z) (h:MapK kk w m L) {K:K1} (hK:∀w',Ext w w'→MapIt kk w' w.heap.size m L L→K (.pointer (some ⟨w.heap.size,0,none⟩)) w'):ev P (Instr.range t (.map (some m))) w K:=by
 obtain ⟨kt,et,ht,_,_⟩:=hT
 obtain ⟨es,clock,a,b,c⟩:=h
 unfold ev
 rw [run_range_map w t kt et m es clock ht a]
 refine hK _ (Ext.alloc_self _ _) ⟨es,clock,#[],?_,b,c,heap_alloc_eq _ _,?_⟩
 ·rw [heap_alloc_lt _ (lt_of_heap a)];exact a
 ·have e:leftOf es #[]=es:=by
   unfold leftOf
   rw [Array.filter_eq_self]
   simp
  rw [←c,e]
theorem filter_born {l:List MapEntry} (hn:(l.map (·.born)).Nodup) {A B:List MapEntry} {e:MapEntry} (h:l=A++e::B):l.filter (fun x=> !(x.born==e.born))=A++B:=by
 subst h
 rw [List.map_append,List.map_cons,List.nodup_append,List.nodup_cons] at hn
 obtain ⟨_,⟨h2,_⟩,h3⟩:=hn
 rw [List.filter_append,List.filter_cons]
 have e1:A.filter (fun x=> !(x.born==e.born))=A:=List.filter_eq_self.2 fun x hx=>by
  have:=h3 x.born (List.mem_map.2 ⟨x,hx,rfl⟩) e.born List.mem_cons_self
  simp [this]
 have e2:B.filter (fun x=> !(x.born==e.born))=B:=List.filter_eq_self.2 fun x hx=>by
  have:x.born≠e.born:=fun q=>h2 (q▸List.mem_map.2 ⟨x,hx,rfl⟩)
  simp [this]
 rw [e1,e2];simp
end
def dOk (m:Nat):Option Tmp→Bool
 |none=>true
 |some d=>tb m d
def wrOk (m:Nat):Code→Bool
 | .region _ ops _=>ops.toList.all fun o=>dOk m o.dst
 | .seq a b=>wrOk m a&&wrOk m b
 | .cond _ a b=>wrOk m a&&wrOk m b
 | .block _ c=>wrOk m c
 | .loop c=>wrOk m c
 |_=>true
def subM (m' m:Nat):Bool:=Nat.beq (Nat.land m' m) m'
structure Same (m:Nat) (f0 fr:Fr):Prop where
 len:fr.length=f0.length
 eq:∀i,tb m i=false→fr.getD i undef=f0.getD i undef
theorem Same.refl (m:Nat) (f:Fr):Same m f f:=⟨rfl,fun _ _=>rfl⟩
theorem Same.put {m:Nat} {f0 fr:Fr} (h:Same m f0 fr) {d:Option Tmp} (hd:dOk m d=true) (v:Value):Same m f0 (put fr d v):=by
 refine ⟨by rw [length_put];exact h.len,fun i hi=> ?_⟩
 rw [getD_put (fun e=>by subst e;simp only [dOk] at hd;rw [hd] at hi;cases hi)]
 exact h.eq i hi
theorem subM_tb {m' m i:Nat} (h:subM m' m=true) (hi:tb m i=false):tb m' i=false:=by
 have e:m'&&&m=m':=Nat.eq_of_beq_eq_true h
 rw [tb_eq] at hi ⊢
 rw [←e,Nat.testBit_and,hi,Bool.and_false]
theorem Same.up {m m':Nat} {f0 f1 fr:Fr} (hm:subM m' m=true) (a:Same m f0 f1) (h:Same m' f1 fr):Same m f0 fr:=
 ⟨h.len.trans a.len,fun i hi=>(h.eq i (subM_tb hm hi)).trans (a.eq i hi)⟩
theorem stN_mono {P:Program} {r:Result Next} {k k':K1} (hk:∀v w,k v w→k' v w) (h:stN P r k):stN P r k':=by
 cases r with
 |halt x w=>exact h.elim
 |ok n w=>
  cases n<;>simp only [stN] at h ⊢<;>try exact hk _ _ h
  ·refine Calls.mono h ?_
   intro e w' hr
   cases e with
   |returned v=>exact hk _ _ hr
   |panicked c=>exact hr
   |outgrown=>exact hr
  ·refine RoundIn.mono h ?_
   intro e w' hr
   cases e with
   |returned v=>exact hk _ _ hr
   |panicked c=>exact hr
   |outgrown=>exact hr
theorem callS_monoK {P:Program} {f:FuncId} {args:Array Value} {w:World} {k k':K1} (hk:∀v w,k v w→k' v w) (h:callS P f args w k):callS P f args w k':=by
 refine Calls.mono h ?_
 intro e w' hr
 cases e with
 |returned v=>exact hk _ _ hr
 |panicked c=>exact hr
 |outgrown=>exact hr
theorem ev_mono {P:Program} {s:Sem Value} {w:World} {k k':K1} (hk:∀v w,k v w→k' v w) (h:ev P s w k):ev P s w k':=by
 unfold ev at h ⊢
 cases hr:s.run P w with
 |ok v w'=>rw [hr] at h;exact hk _ _ h
 |halt x w'=>rw [hr] at h;exact h
theorem ac_mono {P:Program} {s:Sem Unit} {w:World} {k k':World→Prop} (hk:∀w,k w→k' w) (h:ac P s w k):ac P s w k':=by
 unfold ac at h ⊢
 cases hr:s.run P w with
 |ok v w'=>rw [hr] at h;exact hk _ h
 |halt x w'=>rw [hr] at h;exact h
theorem oE_mono {o:Option Value} {k k':Value→Prop} (hk:∀v,k v→k' v) (h:oE o k):oE o k':=by
 unfold oE at h ⊢
 cases o with
 |some v=>exact hk _ h
 |none=>exact h
theorem oW_mono {o:Option World} {k k':World→Prop} (hk:∀v,k v→k' v) (h:oW o k):oW o k':=by
 unfold oW at h ⊢
 cases o with
 |some v=>exact hk _ h
 |none=>exact h
theorem opS_mono {P:Program} {o:Op} {ty:TypeId} {ρ:Operand→Value} {w:World} {k k':K1} (hk:∀v w,k v w→k' v w) (h:opS P o ty ρ w k):opS P o ty ρ w k':=by
 cases o with
 |move x=>exact hk _ _ h
 |assign x=>exact hk _ _ h
 |pick c a b=>
  simp only [opS,pickS] at h ⊢
  split at h
  ·exact hk _ _ h
  ·exact hk _ _ h
  ·exact h
 |alloc t=>exact ev_mono hk h
 |box t x=>simp only [opS] at h ⊢;exact ev_mono hk h
 |build t ps=>exact ev_mono hk h
 |buildSlice t n ps=>exact ev_mono hk h
 |load t a=>exact oE_mono (fun v=>hk v _) h
 |store t a x=>exact oW_mono (fun v=>hk _ _) h
 |nilCheck x=>exact stN_mono hk h
 |binOp op t x y yt=>exact ev_mono hk h
 |unOp op t x=>exact ev_mono hk h
 |convert s d x=>exact ev_mono hk h
 |makeInterface t x=>exact ev_mono hk h
 |makeMap t r=>cases r with
  |none=>simp only [opS] at h ⊢;exact ev_mono hk h
  |some r=>exact h
 |makeSlice t l c=>exact ev_mono hk h
 |slice t x lo hi mx=>exact ev_mono hk h
 |fieldAddr s x f=>exact ev_mono hk h
 |field t x f=>exact ev_mono hk h
 |indexAddr t x i=>exact ev_mono hk h
 |index t x i=>exact ev_mono hk h
 |lookup t x i c=>exact ev_mono hk h
 |mapUpdate t m i x=>exact ac_mono (fun w=>hk _ w) h
 |insert t m i x=>exact ac_mono (fun w=>hk _ w) h
 |range t x=>exact ev_mono hk h
 |next it s=>exact ev_mono hk h
 |entry it=>exact ev_mono hk h
 |extract t i=>exact ev_mono hk h
 |makeFunc f a b=>simp only [opS] at h ⊢;exact ev_mono hk h
 |call c=>
  obtain ⟨callee,args,ts⟩:=c
  cases callee with
  |value f=>
   cases f with
   |func f=>exact callS_monoK hk h
   |_=>exact stN_mono hk h
  |invoke r name=>exact stN_mono hk h
  |builtin b=>exact stN_mono hk h
 |_=>exact h.elim
theorem gd_mono {x:Value} {want:Bool} {yes:K1→Prop} {w:World} {k k':K1} (hy:yes k→yes k') (hk:∀v w,k v w→k' v w) (h:gd x want yes w k):gd x want yes w k':=by
 unfold gd at h ⊢
 split
 ·rename_i b
  cases b<;>cases want<;>simp only at h ⊢<;>first|exact hy h|exact hk _ _ h
 ·rename_i hx
  split at h
  ·rename_i b;exact absurd rfl (hx b)
  ·exact hk _ _ h
theorem oneS_mono {P:Program} {ops:List Oper} {o:Oper} {fr:Fr} {w:World} {k k':K1} (hk:∀v w,k v w→k' v w) (h:oneS P ops o fr w k):oneS P ops o fr w k':=by
 unfold oneS at h ⊢
 cases hg:o.guard with
 |none=>rw [hg] at h;exact opS_mono hk h
 |some g=>rw [hg] at h;exact gd_mono (opS_mono hk) hk h
theorem regT_mono {P:Program} {ops:List Oper} {m:Nat} {f0:Fr} {k k':KF} (hk:∀fr w,Same m f0 fr→k fr w→k' fr w):∀(l:List Oper) (fr:Fr) (w:World),(l.all fun o=>dOk m o.dst)=true→Same m f0 fr→regT P ops l k fr w→regT P ops l k' fr w:=by
 intro l
 induction l with
 |nil=>intro fr w _ hs h;exact hk _ _ hs h
 |cons o l ih=>
  intro fr w hd hs h
  simp only [List.all_cons,Bool.and_eq_true] at hd
  exact oneS_mono (fun v w' h=>ih _ _ hd.2 (hs.put hd.1 v) h) h
theorem rd_mono {P:Program} {s:Sem Value} {w:World} {k k':Value→Prop} (hk:∀v,k v→k' v) (h:rd P s w k):rd P s w k':=by
 unfold rd at h ⊢
 cases hr:s.run P w with
 |ok v w'=>rw [hr] at h;exact ⟨h.1,hk _ h.2⟩
 |halt x w'=>rw [hr] at h;exact h
theorem nilR_mono {P:Program} {x:Value} {w:World} {k k':Value→Prop} (hk:∀v,k v→k' v) (h:nilR P x w k):nilR P x w k':=by
 unfold nilR at h ⊢
 split
 ·rename_i v w' hr;rw [hr] at h;exact ⟨h.1,hk _ h.2⟩
 ·rename_i hx
  split at h
  ·rename_i v w' hr;exact absurd hr (hx v w')
  ·exact h
theorem rdS_mono {P:Program} {o:Op} {ty:TypeId} {ρ:Operand→Value} {w:World} {k k':Value→Prop} (hk:∀v,k v→k' v) (h:rdS P o ty ρ w k):rdS P o ty ρ w k':=by
 have dfl:(match rdO o ty ρ with|some s=>rd P s w k|none=>False)→(match rdO o ty ρ with|some s=>rd P s w k'|none=>False):=by
  intro h
  cases hs:rdO o ty ρ with
  |none=>rw [hs] at h;exact h.elim
  |some s=>rw [hs] at h;exact rd_mono hk h
 cases o
 case move x=>exact hk _ h
 case pick c a b=>
  simp only [rdS,pickV] at h ⊢
  split at h
  ·exact hk _ h
  ·exact hk _ h
  ·exact h
 case nilCheck x=>exact nilR_mono hk h
 case load t x=>exact oE_mono hk h
 all_goals exact dfl h
theorem gdR_mono {x:Value} {want:Bool} {yes:(Value→Prop)→Prop} {k k':Value→Prop} (hy:yes k→yes k') (hk:∀v,k v→k' v) (h:gdR x want yes k):gdR x want yes k':=by
 unfold gdR at h ⊢
 split
 ·rename_i b
  cases b<;>cases want<;>simp only at h ⊢<;>first|exact hy h|exact hk _ h
 ·rename_i hx
  split at h
  ·rename_i b;exact absurd rfl (hx b)
  ·exact hk _ h
theorem oneR_mono {P:Program} {ops:List Oper} {o:Oper} {fr:Fr} {w:World} {k k':Value→Prop} (hk:∀v,k v→k' v) (h:oneR P ops o fr w k):oneR P ops o fr w k':=by
 unfold oneR at h ⊢
 cases hg:o.guard with
 |none=>rw [hg] at h;exact rdS_mono hk h
 |some g=>rw [hg] at h;exact gdR_mono (rdS_mono hk) hk h
theorem recheck_mono {P:Program} {ops:List Oper} {fr:Fr} {w:World} {X Y:Prop} (hX:X→Y):∀(l:List Oper),recheck P ops l fr w X→recheck P ops l fr w Y:=by
 intro l
 induction l with
 |nil=>exact hX
 |cons o l ih=>intro h;exact ⟨h.1,ih h.2⟩
theorem allN_mono {α:Type} {f g:α→Prop}:∀(l:List α) (x:α),(∀y∈x::l,f y→g y)→allN f x l→allN g x l:=by
 intro l
 induction l with
 |nil=>intro x h;exact h x List.mem_cons_self
 |cons y l ih=>intro x h h1;exact ⟨h x List.mem_cons_self h1.1,ih y (fun z hz=>h z (List.mem_cons_of_mem _ hz)) h1.2⟩
theorem noisy_mem {done:Nat}:∀(l:List Oper) (i:Nat) (k:Nat) (o:Oper),(k,o)∈noisy done l i→o∈l:=by
 intro l
 induction l with
 |nil=>intro i k o h;cases h
 |cons x l ih=>
  intro i k o h
  unfold noisy at h
  split at h
  ·rcases List.mem_cons.1 h with h|h
   ·injection h with _ h;rw [h];exact List.mem_cons_self
   ·exact List.mem_cons_of_mem _ (ih _ _ _ h)
  ·exact List.mem_cons_of_mem _ (ih _ _ _ h)
theorem regA_mono {P:Program} {ops:List Oper} {bef:List Nat} {m:Nat} {f0:Fr} {k k':KF} (hd:(ops.all fun o=>dOk m o.dst)=true) (hk:∀fr w,Same m f0 fr→k fr w→k' fr w):∀(n done:Nat) (fr:Fr) (w:World),Same m f0 fr→regA P ops bef k n done fr w→regA P ops bef k' n done fr w:=by
 intro n
 induction n with
 |zero=>intro done fr w hs h;exact hk _ _ hs h
 |succ n ih=>
  intro done fr w hs h
  unfold regA at h ⊢
  cases hf:findR done ops 0 with
  |some x=>
   obtain ⟨i,o⟩:=x
   rw [hf] at h
   obtain ⟨j,_,hj,_⟩:=findR_some ops 0 i o hf
   have ho:=List.all_eq_true.1 hd o (List.mem_of_getElem? hj)
   exact oneR_mono (fun v h=>ih _ _ _ (hs.put ho v) h) h
  |none=>
   rw [hf] at h
   simp only at h ⊢
   cases hn:noisy done ops 0 with
   |nil=>rw [hn] at h;exact hk _ _ hs h
   |cons x l=>
    rw [hn] at h
    refine allN_mono l x (fun y hy h=> ?_) h
    have ho:=List.all_eq_true.1 hd y.2 (noisy_mem ops 0 y.1 y.2 (by rw [hn];exact hy))
    exact oneS_mono (fun v w' h=>recheck_mono (fun h=>ih _ _ _ (hs.put ho v) h) _ h) h
theorem cndS_mono {x:Value} {A B A' B':Prop} (h1:A→A') (h2:B→B') (h:cndS x A B):cndS x A' B':=by
 unfold cndS at h ⊢
 split at h
 ·exact h1 h
 ·exact h2 h
 ·exact h
theorem exB_mono {m:Nat} {f0:Fr} {id:Nat} {k k':KF} {e e':Nat→KF} (hk:∀fr w,Same m f0 fr→k fr w→k' fr w) (he:∀j fr w,Same m f0 fr→e j fr w→e' j fr w):∀j fr w,Same m f0 fr→exB id k e j fr w→exB id k' e' j fr w:=by
 intro j fr w hs h
 unfold exB at h ⊢
 cases hj:Nat.beq j id with
 |true=>rw [hj] at h;exact hk _ _ hs h
 |false=>rw [hj] at h;exact he _ _ _ hs h
theorem codeS_mono {P:Program} {m:Nat} {f0:Fr}:∀(c:Code) {k k' r r':KF} {e e':Nat→KF},wrOk m c=true→(∀fr w,Same m f0 fr→k fr w→k' fr w)→(∀fr w,Same m f0 fr→r fr w→r' fr w)→(∀j fr w,Same m f0 fr→e j fr w→e' j fr w)→
  ∀(fr:Fr) (w:World),Same m f0 fr→codeS P c k r e fr w→codeS P c k' r' e' fr w:=by
 intro c
 induction c with
 |skip=>intro k k' r r' e e' _ hk _ _ fr w hs h;exact hk _ _ hs h
 |region id ops d=>
  intro k k' r r' e e' hw hk _ _ fr w hs h
  cases d with
  |false=>exact regT_mono hk _ _ _ hw hs h
  |true=>exact regA_mono hw hk _ _ _ _ hs h
 |seq a b iha ihb=>
  intro k k' r r' e e' hw hk hr he fr w hs h
  simp only [wrOk,Bool.and_eq_true] at hw
  exact iha hw.1 (fun fr w hs h=>ihb hw.2 hk hr he fr w hs h) hr he fr w hs h
 |cond c x y ihx ihy=>
  intro k k' r r' e e' hw hk hr he fr w hs h
  simp only [wrOk,Bool.and_eq_true] at hw
  exact cndS_mono (ihx hw.1 hk hr he fr w hs) (ihy hw.2 hk hr he fr w hs) h
 |block id c ih=>
  intro k k' r r' e e' hw hk hr he fr w hs h
  exact ih hw hk hr (exB_mono hk he) fr w hs h
 |loop c ih=>
  intro k k' r r' e e' hw hk hr he fr w hs h
  obtain ⟨I,μ,h0,hround⟩:=h
  refine ⟨fun fr w=>Same m f0 fr∧I fr w,μ,⟨hs,h0⟩,?_⟩
  rintro fr w ⟨hs,hI⟩
  exact ih hw (fun fr' w' hs' h=>⟨⟨hs',h.1⟩,h.2⟩) hr he fr w hs (hround fr w hI)
 |exit id=>intro k k' r r' e e' _ _ _ he fr w hs h;exact he _ _ _ hs h
 |ret=>intro k k' r r' e e' _ _ hr _ fr w hs h;exact hr _ _ hs h
 |_=>intro k k' r r' e e' _ _ _ _ fr w _ h;exact h.elim
def sv (fr:Fr) (i:Nat):Value:=fr.getD i undef
theorem Same.sv {m:Nat} {f0 fr:Fr} (h:Same m f0 fr) (i:Nat) (hi:tb m i=false):sv fr i=sv f0 i:=h.eq i hi
def mixF (keep:Nat) (σ:Nat→Value):Nat→Fr→Fr
 |_,[]=> []
 |i,x::l=>(match tb keep i with|true=>x|false=>σ i)::mixF keep σ (i+1) l
theorem mixF_get {keep:Nat} {σ:Nat→Value}:∀(l:Fr) (i:Nat) (g:Fr),g.length=l.length→(∀j,j<l.length→(tb keep (i+j)=true→l.getD j undef=g.getD j undef)∧(tb keep (i+j)=false→σ (i+j)=g.getD j undef))→mixF keep σ i l=g:=by
 intro l
 induction l with
 |nil=>intro i g hg _;simp at hg;simp [mixF,hg]
 |cons x l ih=>
  intro i g hg h
  cases g with
  |nil=>simp at hg
  |cons y g=>
   have h0:=h 0 (by simp)
   simp only [Nat.add_zero,List.getD_cons_zero] at h0
   have h1:=ih (i+1) g (by simpa using hg) (fun j hj=>by
    have:=h (j+1) (by simp;omega)
    rw [show i+(j+1)=i+1+j by omega] at this
    simpa using this)
   simp only [mixF,h1]
   cases hb:tb keep i with
   |true=>simp only;rw [h0.1 hb]
   |false=>simp only;rw [h0.2 hb]
theorem mixF_self (keep:Nat) (fr:Fr):mixF keep (sv fr) 0 fr=fr:=mixF_get fr 0 fr rfl (fun j _=>⟨fun _=>rfl,fun _=>by simp [sv]⟩)
def Nary (T:Type):List Nat→Type
 | []=>World→T
 |_::l=>Value→Nary T l
def appV {T:Type}:(l:List Nat)→Nary T l→(Nat→Value)→World→T
 | [],I,_=>I
 |i::l,I,σ=>appV l (I (σ i)) σ
def subI:(l:List Nat)→Nary Prop l→Nary Nat l→Nat→Nary Prop l→Prop
 | [],I,μ,m,E=>∀w,I w→μ w<m→E w
 |_::l,I,μ,m,E=>∀y,subI l (I y) (μ y) m (E y)
def andI:(l:List Nat)→Nary Prop l→Nary Nat l→Nat→Nary Prop l
 | [],I,μ,m=>fun w=>I w∧μ w<m
 |_::l,I,μ,m=>fun y=>andI l (I y) (μ y) m
theorem sub_andI:∀(l:List Nat) (I:Nary Prop l) (μ:Nary Nat l) (m:Nat),subI l I μ m (andI l I μ m)
 | [],_,_,_=>fun _ a b=>⟨a,b⟩
 |_::l,I,μ,m=>fun y=>sub_andI l (I y) (μ y) m
theorem app_andI:∀(l:List Nat) (I:Nary Prop l) (μ:Nary Nat l) (m:Nat) (σ:Nat→Value) (w:World),appV l (andI l I μ m) σ w→appV l I σ w∧appV l μ σ w<m
 | [],_,_,_,_,_=>fun h=>h
 |i::l,I,μ,m,σ,w=>app_andI l (I (σ i)) (μ (σ i)) m σ w
def loopT (lm:List Nat) (keep:Nat) (body:KF→KF) (fr:Fr) (w:World):Prop:=
 ∃(I:Nary Prop lm) (μ:Nary Nat lm),appV lm I (sv fr) w∧∀(σ:Nat→Value) (w:World),appV lm I σ w→∀E:Nary Prop lm,subI lm I μ (appV lm μ σ w) E→body (fun fr w=>appV lm E (sv fr) w) (mixF keep σ 0 fr) w
inductive Dec
 |o
 |s (a b:Dec)
 |x (keep:Nat) (a b:Dec)
 |b (a:Dec)
 |l (lm:List Nat) (keep wr:Nat) (a:Dec)
def codeT (P:Program):Dec→Code→KF→KF→(Nat→KF)→KF
 | .o,c,k,r,e=>codeS P c k r e
 | .s da db,c,k,r,e=>match c with
  | .seq a b=>codeT P da a (fun fr w=>codeT P db b k r e fr w) r e
  | .cond x a b=>fun fr w=>cndS (evO fr x) (codeT P da a k r e fr w) (codeT P db b k r e fr w)
  |_=>fun _ _=>False
 | .x keep da db,c,k,r,e=>match c with
  | .seq a b=>codeT P da a (fun fr w=>∀σ:Nat→Value,codeT P db b k r e (mixF keep σ 0 fr) w) r e
  |_=>fun _ _=>False
 | .b d,c,k,r,e=>match c with
  | .block id c=>codeT P d c k r (exB id k e)
  |_=>fun _ _=>False
 | .l lm keep _ d,c,_,r,e=>match c with
  | .loop c=>fun fr w=>loopT lm keep (fun E=>codeT P d c E r e) fr w
  |_=>fun _ _=>False
def okT (m:Nat):Dec→Code→Bool
 | .s da db,c=>match c with
  | .seq a b=>okT m da a&&okT m db b
  | .cond _ a b=>okT m da a&&okT m db b
  |_=>true
 | .x _ da db,c=>match c with
  | .seq a b=>okT m da a&&okT m db b
  |_=>true
 | .b d,c=>match c with
  | .block _ c=>okT m d c
  |_=>true
 | .l _ keep wr d,c=>match c with
  | .loop c=>wrOk wr c&&(subM wr m&&(Nat.beq (Nat.land keep wr) 0&&okT wr d c))
  |_=>true
 | .o,_=>true
theorem keep_tb {keep wr i:Nat} (h:Nat.beq (Nat.land keep wr) 0=true) (hi:tb keep i=true):tb wr i=false:=by
 have e:keep&&&wr=0:=Nat.eq_of_beq_eq_true h
 rw [tb_eq] at hi ⊢
 have h2:(keep&&&wr).testBit i=false:=by rw [e];exact Nat.zero_testBit i
 rw [Nat.testBit_and,hi,Bool.true_and] at h2
 exact h2
theorem codeT_sound {P:Program}:∀(d:Dec) (c:Code) {m:Nat} {f0:Fr} {k k' r r':KF} {e e':Nat→KF},okT m d c=true→wrOk m c=true→(∀fr w,Same m f0 fr→k fr w→k' fr w)→(∀fr w,Same m f0 fr→r fr w→r' fr w)→(∀j fr w,Same m f0 fr→e j fr w→e' j fr w)→
  ∀(fr:Fr) (w:World),Same m f0 fr→codeT P d c k r e fr w→codeS P c k' r' e' fr w:=by
 intro d
 induction d with
 |o=>intro c m f0 k k' r r' e e' _ hw hk hr he fr w hs h;exact codeS_mono c hw hk hr he fr w hs h
 |s da db iha ihb=>
  intro c m f0 k k' r r' e e' ho hw hk hr he fr w hs h
  cases c with
  |seq a b=>
   simp only [okT,wrOk,Bool.and_eq_true] at ho hw
   exact iha a ho.1 hw.1 (fun fr w hs h=>ihb b ho.2 hw.2 hk hr he fr w hs h) hr he fr w hs h
  |cond x a b=>
   simp only [okT,wrOk,Bool.and_eq_true] at ho hw
   exact cndS_mono (iha a ho.1 hw.1 hk hr he fr w hs) (ihb b ho.2 hw.2 hk hr he fr w hs) h
  |_=>exact h.elim
 |x keep da db iha ihb=>
  intro c m f0 k k' r r' e e' ho hw hk hr he fr w hs h
  cases c with
  |seq a b=>
   simp only [okT,wrOk,Bool.and_eq_true] at ho hw
   refine iha a ho.1 hw.1 (fun fr w hs h=> ?_) hr he fr w hs h
   have h1:=h (sv fr)
   rw [mixF_self] at h1
   exact ihb b ho.2 hw.2 hk hr he fr w hs h1
  |_=>exact h.elim
 |b d ih=>
  intro c m f0 k k' r r' e e' ho hw hk hr he fr w hs h
  cases c with
  |block id c=>exact ih c ho hw hk hr (exB_mono hk he) fr w hs h
  |_=>exact h.elim
 |l lm keep wr d ih=>
  intro c m f0 k k' r r' e e' ho hw hk hr he fr w hs h
  cases c with
  |loop c=>
   simp only [okT,Bool.and_eq_true] at ho
   obtain ⟨o1,o2,o3,o4⟩:=ho
   obtain ⟨I,μ,h0,hround⟩:=h
   refine ⟨fun f' w'=>Same wr fr f'∧appV lm I (sv f') w',fun f' w'=>appV lm μ (sv f') w',⟨Same.refl _ _,h0⟩,?_⟩
   rintro f' w' ⟨hs',hI⟩
   have hb:=hround (sv f') w' hI _ (sub_andI lm I μ (appV lm μ (sv f') w'))
   have hm:mixF keep (sv f') 0 fr=f':=mixF_get fr 0 f' hs'.len (fun j _=>⟨fun hj=>by
    rw [Nat.zero_add] at hj
    exact (hs'.eq j (keep_tb o3 hj)).symm,fun _=>by simp [sv]⟩)
   rw [hm] at hb
   refine ih c o4 o1 (fun f2 w2 hs2 h2=> ?_) (fun f2 w2 hs2 h2=>hr f2 w2 (Same.up o2 hs hs2) h2) (fun j f2 w2 hs2 h2=>he j f2 w2 (Same.up o2 hs hs2) h2) f' w' hs' hb
   have h3:=app_andI lm I μ _ (sv f2) w2 h2
   exact ⟨⟨hs2,h3.1⟩,h3.2⟩
  |_=>exact h.elim
def nX:Nat→KF:=fun _ _ _=>False
def txt (P:Program) (fn:Func) (d:Dec) (args:List Value) (K:K1) (w:World):Prop:=
 match fn.body with
 |some c=>codeT P d c (endK P fn.results.toList K) (endK P fn.results.toList K) nX (args++List.replicate (fn.ntmps-args.length) undef) w
 |none=>False
def okF (P:Program) (fn:Func) (d:Dec) (args:List Value):Bool:=
 match fn.body with
 |some c=>Nat.ble args.length fn.ntmps&&(codeOk P fn.ntmps c&&(wrOk (2^fn.ntmps-1) c&&okT (2^fn.ntmps-1) d c))
 |none=>false
theorem call_of_txt {P:Program} (hm:P.follows .mixedOrders=true) {f:FuncId} {fn:Func} (hf:P.funcs[f]? =some fn) (d:Dec) {args:List Value} {w:World} {K:K1} (hok:okF P fn d args=true) (h:txt P fn d args K w):callS P f args.toArray w K:=by
 unfold okF at hok
 unfold txt at h
 cases hb:fn.body with
 |none=>rw [hb] at h;exact h.elim
 |some c=>
  rw [hb] at h hok
  simp only [Bool.and_eq_true] at hok
  obtain ⟨o1,o2,o3,o4⟩:=hok
  exact calls_of_codeS hm hf hb rfl (by simp) o2 (Nat.le_of_ble_eq_true o1) (codeT_sound d c o4 o3 (fun _ _ _ h=>h) (fun _ _ _ h=>h) (fun _ _ _ _ h=>h) _ w (Same.refl _ _) h)
def pl (u:Code×Dec):Code×Dec:=(cl u.1,match u.2 with
 | .s a _=>a
 | .x _ a _=>a
 | .b a=>a
 | .l _ _ _ a=>a
 | .o=> .o)
def pr (u:Code×Dec):Code×Dec:=(cr u.1,match u.2 with
 | .s _ b=>b
 | .x _ _ b=>b
 |_=> .o)
def fz:Nat→Nat→List (Nat×Value)→Fr
 |0,_,_=> []
 |n+1,i,[]=>undef::fz n (i+1) []
 |n+1,i,(j,x)::l=>match Nat.beq i j with
  |true=>x::fz n (i+1) l
  |false=>undef::fz n (i+1) ((j,x)::l)
theorem cutE {p:(Nat→Value)→Prop} {A:Prop} (h:∀σ,p σ=A):(∀σ,p σ)=A:=propext ⟨fun a=>(h fun _=>undef)▸a (fun _=>undef),fun a σ=>(h σ).symm▸a⟩
abbrev VP0:=World→Prop
abbrev VP1:=Value→VP0
abbrev VP2:=Value→VP1
abbrev VP3:=Value→VP2
abbrev VP4:=Value→VP3
abbrev VP5:=Value→VP4
end Go.Sh
namespace Go.Proofs.YtjegifbmbianiaaGreatDoor
open Go Go.Sh
theorem kR {p:Prop} (h:p:=by kernel_rfl):p:=h
noncomputable def cP (u:Code×Dec):KF→KF→(Nat→KF)→KF:=codeT prog u.2 u.1
theorem mixed:prog.follows .mixedOrders=true:=by kernel_rfl
theorem build_220_0_1_2 (v0 v1 v2:Value) (h0:isOne v0=true) (h1:isOne v1=true) (h2:isOne v2=true) (w:World):(Instr.build 220 #[(0,v0),(1,v1),(2,v2)]).run prog w= .ok (.agg #[v0,v1,v2,.pointer none,.pointer none,.pointer none,.pointer none,.pointer none,.pointer none,.pointer none,.pointer none,.bool false,.bool false,.int .i64 0,.int .u64 0]) w:=
 Go.Sh.run_buildS (z:= .agg #[.slice none 0 0,.slice none 0 0,.slice none 0 0,.pointer none,.pointer none,.pointer none,.pointer none,.pointer none,.pointer none,.pointer none,.pointer none,.bool false,.bool false,.int .i64 0,.int .u64 0]) kR (show placesT prog 220=some [(0,1),(1,1),(2,1),(3,8),(11,1),(12,1),(13,1),(14,1)] from kR) (by show Instr.fill _ _ [(0,v0),(1,v1),(2,v2)]=_;rw [fill_one (off:=0) rfl h0 (by simp [Value.cells])];rw [fill_one (off:=1) rfl h1 (by simp [Value.cells])];rw [fill_one (off:=2) rfl h2 (by simp [Value.cells])];rfl) w
theorem build_262_0_1_3 (v0 v1 v3:Value) (h0:isOne v0=true) (h1:isOne v1=true) (h3:isOne v3=true) (w:World):(Instr.build 262 #[(0,v0),(1,v1),(3,v3)]).run prog w= .ok (.agg #[v0,v1,.int .i64 0,v3]) w:=
 Go.Sh.run_buildS (z:= .agg #[.pointer none,.int .i64 0,.int .i64 0,.map none]) kR (show placesT prog 262=some [(0,1),(1,1),(2,1),(3,1)] from kR) (by show Instr.fill _ _ [(0,v0),(1,v1),(3,v3)]=_;rw [fill_one (off:=0) rfl h0 (by simp [Value.cells])];rw [fill_one (off:=1) rfl h1 (by simp [Value.cells])];rw [fill_one (off:=3) rfl h3 (by simp [Value.cells])];rfl) w
theorem build_255_0_1 (v0 v1:Value) (h0:isOne v0=true) (h1:isOne v1=true) (w:World):(Instr.build 255 #[(0,v0),(1,v1)]).run prog w= .ok (.agg #[v0,v1]) w:=
 Go.Sh.run_buildS (z:= .agg #[.int .u64 0,.int .u64 0]) kR (show placesT prog 255=some [(0,1),(1,1)] from kR) (by show Instr.fill _ _ [(0,v0),(1,v1)]=_;rw [fill_one (off:=0) rfl h0 (by simp [Value.cells])];rw [fill_one (off:=1) rfl h1 (by simp [Value.cells])];rfl) w
theorem bs_247_1 (v0_0 v0_1:Value) (w:World):(Instr.buildSlice 247 1 #[(0,.agg #[v0_0,v0_1])]).run prog w= .ok (.slice (some ⟨w.heap.size,0,none⟩) 1 1) (w.alloc (.cells #[v0_0,v0_1] 255)):=
 Go.Sh.run_buildSliceS (z:=(.agg #[.int .u64 0,.int .u64 0])) (show prog.underlying 247=some (.slice 255) from kR) (show szT prog 255=some 2 from kR) kR (by decide) (by decide) (by show Instr.fill _ #[.int .u64 0,.int .u64 0] [(0,.agg #[v0_0,v0_1])]=_;rw [fill_agg2 (off:=0) rfl (by simp)];rfl) w
theorem build_232_ (w:World):(Instr.build 232 #[]).run prog w= .ok (.agg #[.int .i64 0,.int .i64 0,.int .u16 0]) w:=
 Go.Sh.run_buildS (z:= .agg #[.int .i64 0,.int .i64 0,.int .u16 0]) kR (show placesT prog 232=some [(0,1),(1,1),(2,1)] from kR) rfl w
theorem build_232_0_1_2 (v0 v1 v2:Value) (h0:isOne v0=true) (h1:isOne v1=true) (h2:isOne v2=true) (w:World):(Instr.build 232 #[(0,v0),(1,v1),(2,v2)]).run prog w= .ok (.agg #[v0,v1,v2]) w:=
 Go.Sh.run_buildS (z:= .agg #[.int .i64 0,.int .i64 0,.int .u16 0]) kR (show placesT prog 232=some [(0,1),(1,1),(2,1)] from kR) (by show Instr.fill _ _ [(0,v0),(1,v1),(2,v2)]=_;rw [fill_one (off:=0) rfl h0 (by simp [Value.cells])];rw [fill_one (off:=1) rfl h1 (by simp [Value.cells])];rw [fill_one (off:=2) rfl h2 (by simp [Value.cells])];rfl) w
theorem build_357_ (w:World):(Instr.build 357 #[]).run prog w= .ok (.agg #[.int .u16 0,.int .u8 0,.int .u8 0]) w:=
 Go.Sh.run_buildS (z:= .agg #[.int .u16 0,.int .u8 0,.int .u8 0]) kR (show placesT prog 357=some [(0,1),(1,1),(2,1)] from kR) rfl w
theorem build_357_0_1_2 (v0 v1 v2:Value) (h0:isOne v0=true) (h1:isOne v1=true) (h2:isOne v2=true) (w:World):(Instr.build 357 #[(0,v0),(1,v1),(2,v2)]).run prog w= .ok (.agg #[v0,v1,v2]) w:=
 Go.Sh.run_buildS (z:= .agg #[.int .u16 0,.int .u8 0,.int .u8 0]) kR (show placesT prog 357=some [(0,1),(1,1),(2,1)] from kR) (by show Instr.fill _ _ [(0,v0),(1,v1),(2,v2)]=_;rw [fill_one (off:=0) rfl h0 (by simp [Value.cells])];rw [fill_one (off:=1) rfl h1 (by simp [Value.cells])];rw [fill_one (off:=2) rfl h2 (by simp [Value.cells])];rfl) w
theorem bs_203_4 (v0 v1 v2 v3:Value) (h0:isOne v0=true) (h1:isOne v1=true) (h2:isOne v2=true) (h3:isOne v3=true) (w:World):(Instr.buildSlice 203 4 #[(0,v0),(1,v1),(2,v2),(3,v3)]).run prog w= .ok (.slice (some ⟨w.heap.size,0,none⟩) 4 4) (w.alloc (.cells #[v0,v1,v2,v3] 5)):=
 Go.Sh.run_buildSliceS (z:=(.int .u8 0)) (show prog.underlying 203=some (.slice 5) from kR) (show szT prog 5=some 1 from kR) kR (by decide) (by decide) (by show Instr.fill _ #[.int .u8 0,.int .u8 0,.int .u8 0,.int .u8 0] [(0,v0),(1,v1),(2,v2),(3,v3)]=_;rw [fill_one (off:=0) rfl h0 (by simp)];rw [fill_one (off:=1) rfl h1 (by simp)];rw [fill_one (off:=2) rfl h2 (by simp)];rw [fill_one (off:=3) rfl h3 (by simp)];rfl) w
theorem build_357_0_2 (v0 v2:Value) (h0:isOne v0=true) (h2:isOne v2=true) (w:World):(Instr.build 357 #[(0,v0),(2,v2)]).run prog w= .ok (.agg #[v0,.int .u8 0,v2]) w:=
 Go.Sh.run_buildS (z:= .agg #[.int .u16 0,.int .u8 0,.int .u8 0]) kR (show placesT prog 357=some [(0,1),(1,1),(2,1)] from kR) (by show Instr.fill _ _ [(0,v0),(2,v2)]=_;rw [fill_one (off:=0) rfl h0 (by simp [Value.cells])];rw [fill_one (off:=2) rfl h2 (by simp [Value.cells])];rfl) w
theorem build_315_0_1_2 (v0 v1 v2:Value) (h0:isOne v0=true) (h1:isOne v1=true) (h2:isOne v2=true) (w:World):(Instr.build 315 #[(0,v0),(1,v1),(2,v2)]).run prog w= .ok (.agg #[v0,v1,v2]) w:=
 Go.Sh.run_buildS (z:= .agg #[.int .u8 0,.int .u64 0,.int .u64 0]) kR (show placesT prog 315=some [(0,1),(1,1),(2,1)] from kR) (by show Instr.fill _ _ [(0,v0),(1,v1),(2,v2)]=_;rw [fill_one (off:=0) rfl h0 (by simp [Value.cells])];rw [fill_one (off:=1) rfl h1 (by simp [Value.cells])];rw [fill_one (off:=2) rfl h2 (by simp [Value.cells])];rfl) w
theorem bs_222_1 (v0_0 v0_1 v0_2:Value) (w:World):(Instr.buildSlice 222 1 #[(0,.agg #[v0_0,v0_1,v0_2])]).run prog w= .ok (.slice (some ⟨w.heap.size,0,none⟩) 1 1) (w.alloc (.cells #[v0_0,v0_1,v0_2] 315)):=
 Go.Sh.run_buildSliceS (z:=(.agg #[.int .u8 0,.int .u64 0,.int .u64 0])) (show prog.underlying 222=some (.slice 315) from kR) (show szT prog 315=some 3 from kR) kR (by decide) (by decide) (by show Instr.fill _ #[.int .u8 0,.int .u64 0,.int .u64 0] [(0,.agg #[v0_0,v0_1,v0_2])]=_;rw [fill_agg3 (off:=0) rfl (by simp)];rfl) w
theorem bs_34_1 (v0:Value) (h0:isOne v0=true) (w:World):(Instr.buildSlice 34 1 #[(0,v0)]).run prog w= .ok (.slice (some ⟨w.heap.size,0,none⟩) 1 1) (w.alloc (.cells #[v0] 41)):=
 Go.Sh.run_buildSliceS (z:=(.int .u64 0)) (show prog.underlying 34=some (.slice 41) from kR) (show szT prog 41=some 1 from kR) kR (by decide) (by decide) (by show Instr.fill _ #[.int .u64 0] [(0,v0)]=_;rw [fill_one (off:=0) rfl h0 (by simp)];rfl) w
theorem build_315_0_1 (v0 v1:Value) (h0:isOne v0=true) (h1:isOne v1=true) (w:World):(Instr.build 315 #[(0,v0),(1,v1)]).run prog w= .ok (.agg #[v0,v1,.int .u64 0]) w:=
 Go.Sh.run_buildS (z:= .agg #[.int .u8 0,.int .u64 0,.int .u64 0]) kR (show placesT prog 315=some [(0,1),(1,1),(2,1)] from kR) (by show Instr.fill _ _ [(0,v0),(1,v1)]=_;rw [fill_one (off:=0) rfl h0 (by simp [Value.cells])];rw [fill_one (off:=1) rfl h1 (by simp [Value.cells])];rfl) w
theorem build_315_0 (v0:Value) (h0:isOne v0=true) (w:World):(Instr.build 315 #[(0,v0)]).run prog w= .ok (.agg #[v0,.int .u64 0,.int .u64 0]) w:=
 Go.Sh.run_buildS (z:= .agg #[.int .u8 0,.int .u64 0,.int .u64 0]) kR (show placesT prog 315=some [(0,1),(1,1),(2,1)] from kR) (by show Instr.fill _ _ [(0,v0)]=_;rw [fill_one (off:=0) rfl h0 (by simp [Value.cells])];rfl) w
theorem bs_480_2 (v0 v1:Value) (h0:isOne v0=true) (h1:isOne v1=true) (w:World):(Instr.buildSlice 480 2 #[(0,v0),(1,v1)]).run prog w= .ok (.slice (some ⟨w.heap.size,0,none⟩) 2 2) (w.alloc (.cells #[v0,v1] 222)):=
 Go.Sh.run_buildSliceS (z:=(.slice none 0 0)) (show prog.underlying 480=some (.slice 222) from kR) (show szT prog 222=some 1 from kR) kR (by decide) (by decide) (by show Instr.fill _ #[.slice none 0 0,.slice none 0 0] [(0,v0),(1,v1)]=_;rw [fill_one (off:=0) rfl h0 (by simp)];rw [fill_one (off:=1) rfl h1 (by simp)];rfl) w
theorem build_255_0 (v0:Value) (h0:isOne v0=true) (w:World):(Instr.build 255 #[(0,v0)]).run prog w= .ok (.agg #[v0,.int .u64 0]) w:=
 Go.Sh.run_buildS (z:= .agg #[.int .u64 0,.int .u64 0]) kR (show placesT prog 255=some [(0,1),(1,1)] from kR) (by show Instr.fill _ _ [(0,v0)]=_;rw [fill_one (off:=0) rfl h0 (by simp [Value.cells])];rfl) w
theorem build_234_ (w:World):(Instr.build 234 #[]).run prog w= .ok (.agg #[.nilIface,.int .i64 0,.int .i64 0,.int .i64 0,.int .u16 0]) w:=
 Go.Sh.run_buildS (z:= .agg #[.nilIface,.int .i64 0,.int .i64 0,.int .i64 0,.int .u16 0]) kR (show placesT prog 234=some [(0,1),(1,1),(2,3)] from kR) rfl w
theorem build_234_0_1_2 (v0 v1 v2_0 v2_1 v2_2:Value) (h0:isOne v0=true) (h1:isOne v1=true) (w:World):(Instr.build 234 #[(0,v0),(1,v1),(2,.agg #[v2_0,v2_1,v2_2])]).run prog w= .ok (.agg #[v0,v1,v2_0,v2_1,v2_2]) w:=
 Go.Sh.run_buildS (z:= .agg #[.nilIface,.int .i64 0,.int .i64 0,.int .i64 0,.int .u16 0]) kR (show placesT prog 234=some [(0,1),(1,1),(2,3)] from kR) (by show Instr.fill _ _ [(0,v0),(1,v1),(2,.agg #[v2_0,v2_1,v2_2])]=_;rw [fill_one (off:=0) rfl h0 (by simp [Value.cells])];rw [fill_one (off:=1) rfl h1 (by simp [Value.cells])];rw [Instr.fill];rfl) w
theorem bs_484_2 (v0 v1:Value) (h0:isOne v0=true) (h1:isOne v1=true) (w:World):(Instr.buildSlice 484 2 #[(0,v0),(1,v1)]).run prog w= .ok (.slice (some ⟨w.heap.size,0,none⟩) 2 2) (w.alloc (.cells #[v0,v1] 22)):=
 Go.Sh.run_buildSliceS (z:=(.slice none 0 0)) (show prog.underlying 484=some (.slice 22) from kR) (show szT prog 22=some 1 from kR) kR (by decide) (by decide) (by show Instr.fill _ #[.slice none 0 0,.slice none 0 0] [(0,v0),(1,v1)]=_;rw [fill_one (off:=0) rfl h0 (by simp)];rw [fill_one (off:=1) rfl h1 (by simp)];rfl) w
def RT0:=
 And.intro (fun (n:Nat) (w:World) (k:K1)=>ev_of_run (show (convert 64 40 (.int .u64 (n:Int))).run prog w= .ok (.int .u32 ((n%4294967296:Nat):Int)) w from (@Go.Sh.run_convert prog 64 40 .u64 .u32 kR kR .u64 n w).trans (by rw [cast_wrap_mod rfl];rfl)) k)<|
 And.intro (fun (n:Nat) (w:World) (k:K1)=>ev_of_run (show (convert 40 5 (.int .u32 (n:Int))).run prog w= .ok (.int .u8 ((n%256:Nat):Int)) w from (@Go.Sh.run_convert prog 40 5 .u32 .u8 kR kR .u32 n w).trans (by rw [cast_wrap_mod rfl];rfl)) k)<|
 And.intro (fun (n:Nat) (w:World) (k:K1) (h:n<9223372036854775808)=>ev_of_run ((@Go.Sh.run_convert prog 5 3 .u8 .i64 kR kR .u8 n w).trans (by rw [wrap_i64 (by omega) (by omega)])) k)<|
 And.intro (fun (n:Nat) (w:World) (k:K1)=>ev_of_run (show (convert 41 5 (.int .u64 (n:Int))).run prog w= .ok (.int .u8 ((n%256:Nat):Int)) w from (@Go.Sh.run_convert prog 41 5 .u64 .u8 kR kR .u64 n w).trans (by rw [cast_wrap_mod rfl];rfl)) k)<|
 And.intro (@blt_len prog 34 kR)<|
 And.intro (fun (n:Int) (w:World) (k:K1) (h0:0≤n) (h1:n<18446744073709551616)=>ev_of_run (show (convert 3 64 (.int .i64 n)).run prog w= .ok (.int .u64 ((n.toNat:Nat):Int)) w from (@Go.Sh.run_convert prog 3 64 .i64 .u64 kR kR .i64 n w).trans (by rw [wrap_u64 h0 h1,Int.toNat_of_nonneg h0])) k)<|
 And.intro (@ldS1 prog 439 kR)<|
 And.intro (@ldR1 prog 439 kR)<|
 And.intro (@stS1 prog 439 kR)<|
 And.intro (@ev_indexAt prog 34 1 kR)<|
 And.intro (@rd_indexAt prog 34 1 kR)<|
 (@ldS1 prog 41 kR)
def RT1:=
 And.intro (@ldR1 prog 41 kR)<|
 And.intro (@stS1 prog 41 kR)<|
 And.intro (fun (n:Int) (w:World) (k:K1) (h0:0≤n) (h1:n<18446744073709551616)=>ev_of_run (show (convert 3 439 (.int .i64 n)).run prog w= .ok (.int .u64 ((n.toNat:Nat):Int)) w from (@Go.Sh.run_convert prog 3 439 .i64 .u64 kR kR .i64 n w).trans (by rw [wrap_u64 h0 h1,Int.toNat_of_nonneg h0])) k)<|
 And.intro (@ev_alloc prog 439 _ (show zeroT prog 439=some (.int .u64 0) from kR))<|
 And.intro (fun (n:Nat) (w:World) (k:K1) (h:n<9223372036854775808)=>ev_of_run ((@Go.Sh.run_convert prog 64 3 .u64 .i64 kR kR .u64 n w).trans (by rw [wrap_i64 (by omega) (by omega)])) k)<|
 And.intro (@ev_alloc prog 3 _ (show zeroT prog 3=some (.int .i64 0) from kR))<|
 And.intro (@ldS1 prog 3 kR)<|
 And.intro (@ldR1 prog 3 kR)<|
 And.intro (@stS1 prog 3 kR)<|
 And.intro (fun x y p w k=>ev_of_run (@Go.Sh.run_eq_ptr_nil prog 111 kR x y p w) k)<|
 And.intro (@ev_fieldAt prog 220 3 3 kR)<|
 (@ev_indexArr prog 218 8 1 kR)
def RT2:=
 And.intro (@ldS1 prog 87 kR)<|
 And.intro (fun x y p w k=>ev_of_run (@Go.Sh.run_eq_ptr_nil prog 87 kR x y p w) k)<|
 And.intro (@ev_fieldAt prog 262 0 0 kR)<|
 And.intro (@ldS1 prog 111 kR)<|
 And.intro (fun (v0 v1 v2:Value) (w:World) (k:Value→Prop) (h0:isOne v0=true) (h1:isOne v1=true) (h2:isOne v2=true)=>rd_of_run (build_220_0_1_2 v0 v1 v2 h0 h1 h2 w) k)<|
 And.intro (fun (v0 v1 v3:Value) (w:World) (k:K1) (h0:isOne v0=true) (h1:isOne v1=true) (h3:isOne v3=true)=>ev_of_run (build_262_0_1_3 v0 v1 v3 h0 h1 h3 w) k)<|
 And.intro (@stS1 prog 87 kR)<|
 And.intro (@ev_fieldAt prog 262 1 1 kR)<|
 And.intro (@ev_fieldAt prog 262 2 2 kR)<|
 And.intro (@ldS1 prog 30 kR)<|
 And.intro (@ev_fieldAt prog 220 5 12 kR)<|
 (@ldS1 prog 4 kR)
def RT3:=
 And.intro (@ldR1 prog 4 kR)<|
 And.intro (@ldG1 prog 4 kR)<|
 And.intro (@ev_fieldAt prog 220 6 13 kR)<|
 And.intro (@ev_fieldAt prog 220 4 11 kR)<|
 And.intro (@stS1 prog 4 kR)<|
 And.intro (@ev_fieldAt prog 220 7 14 kR)<|
 And.intro (@ev_fieldAt prog 220 2 2 kR)<|
 And.intro (@ldS1 prog 217 kR)<|
 And.intro (@ev_indexAt prog 217 2 kR)<|
 And.intro (@ev_fieldAt prog 354 1 1 kR)<|
 And.intro (@rd_fieldAt prog 354 1 1 kR)<|
 (@ldS1 prog 247 kR)
def RT4:=
 And.intro (@ldR1 prog 247 kR)<|
 And.intro (fun (v0 v1:Value) (w:World) (k:K1) (h0:isOne v0=true) (h1:isOne v1=true)=>ev_of_run (build_255_0_1 v0 v1 h0 h1 w) k)<|
 And.intro (fun (v0 v1:Value) (w:World) (k:Value→Prop) (h0:isOne v0=true) (h1:isOne v1=true)=>rd_of_run (build_255_0_1 v0 v1 h0 h1 w) k)<|
 And.intro (fun (v0_0 v0_1:Value) (w:World) (k:K1)=>ev_of_run (bs_247_1 v0_0 v0_1 w) k)<|
 And.intro (@stS1 prog 247 kR)<|
 And.intro (@ev_fieldAt prog 220 1 1 kR)<|
 And.intro (@ldS1 prog 34 kR)<|
 And.intro (@ldR1 prog 34 kR)<|
 And.intro (@stS1 prog 30 kR)<|
 And.intro (fun (n:Int) (w:World) (k:K1) (h0:0≤n) (h1:n<18446744073709551616)=>ev_of_run (show (convert 3 41 (.int .i64 n)).run prog w= .ok (.int .u64 ((n.toNat:Nat):Int)) w from (@Go.Sh.run_convert prog 3 41 .i64 .u64 kR kR .i64 n w).trans (by rw [wrap_u64 h0 h1,Int.toNat_of_nonneg h0])) k)<|
 And.intro (fun (n:Int) (w:World) (k:Value→Prop) (h0:0≤n) (h1:n<18446744073709551616)=>rd_of_run (show (convert 3 41 (.int .i64 n)).run prog w= .ok (.int .u64 ((n.toNat:Nat):Int)) w from (@Go.Sh.run_convert prog 3 41 .i64 .u64 kR kR .i64 n w).trans (by rw [wrap_u64 h0 h1,Int.toNat_of_nonneg h0])) k)<|
 (@blt_len prog 217 kR)
def RT5:=
 And.intro (@ev_fieldAt prog 262 3 3 kR)<|
 And.intro (@rd_fieldAt prog 262 3 3 kR)<|
 And.intro (@ldS1 prog 260 kR)<|
 And.intro (@ldR1 prog 260 kR)<|
 And.intro (@ev_fieldAt prog 354 0 0 kR)<|
 And.intro (@rd_fieldAt prog 354 0 0 kR)<|
 And.intro (fun (n:Nat) (w:World) (k:K1) (h:n<9223372036854775808)=>ev_of_run ((@Go.Sh.run_convert prog 41 3 .u64 .i64 kR kR .u64 n w).trans (by rw [wrap_i64 (by omega) (by omega)])) k)<|
 And.intro (@blt_len prog 247 kR)<|
 And.intro (@rd_fieldAt prog 220 0 0 kR)<|
 And.intro (@ev_indexAt prog 247 2 kR)<|
 And.intro (@ldSN prog 255 2 kR kR)<|
 (@ev_alloc prog 255 _ (show zeroT prog 255=some (.agg #[.int .u64 0,.int .u64 0]) from kR))
def RT6:=
 And.intro (@stSN prog 255 2 kR)<|
 And.intro (@ev_fieldAt prog 255 0 0 kR)<|
 And.intro (@ev_fieldAt prog 255 1 1 kR)<|
 And.intro (fun (n:Nat) (w:World) (k:K1)=>ev_of_run (show (convert 96 40 (.int .u64 (n:Int))).run prog w= .ok (.int .u32 ((n%4294967296:Nat):Int)) w from (@Go.Sh.run_convert prog 96 40 .u64 .u32 kR kR .u64 n w).trans (by rw [cast_wrap_mod rfl];rfl)) k)<|
 And.intro (fun (n:Nat) (w:World) (k:K1) (h:n<18446744073709551616)=>ev_of_run ((@Go.Sh.run_convert prog 40 41 .u32 .u64 kR kR .u32 n w).trans (by rw [cast_wrap rfl h])) k)<|
 And.intro (@ev_indexArr prog 350 5 1 kR)<|
 And.intro (fun (n:Nat) (w:World) (k:K1)=>ev_of_run (show (convert 96 5 (.int .u64 (n:Int))).run prog w= .ok (.int .u8 ((n%256:Nat):Int)) w from (@Go.Sh.run_convert prog 96 5 .u64 .u8 kR kR .u64 n w).trans (by rw [cast_wrap_mod rfl];rfl)) k)<|
 And.intro (@ev_fieldAt prog 357 2 2 kR)<|
 And.intro (@rd_fieldAt prog 357 2 2 kR)<|
 And.intro (@ldS1 prog 5 kR)<|
 And.intro (@ldR1 prog 5 kR)<|
 (@ldG1 prog 5 kR)
def RT7:=
 And.intro (@ev_fieldAt prog 357 0 0 kR)<|
 And.intro (@rd_fieldAt prog 357 0 0 kR)<|
 And.intro (@ag_fieldAt prog 357 0 0 kR)<|
 And.intro (@ldS1 prog 230 kR)<|
 And.intro (@ldR1 prog 230 kR)<|
 And.intro (@ldG1 prog 230 kR)<|
 And.intro (@ev_fieldAt prog 357 1 1 kR)<|
 And.intro (@rd_fieldAt prog 357 1 1 kR)<|
 And.intro (@ag_fieldAt prog 357 1 1 kR)<|
 And.intro (fun (n:Nat) (w:World) (k:K1) (h:n<18446744073709551616)=>ev_of_run ((@Go.Sh.run_convert prog 230 41 .u16 .u64 kR kR .u16 n w).trans (by rw [cast_wrap rfl h])) k)<|
 And.intro (fun (n:Nat) (w:World) (k:K1) (h:n<18446744073709551616)=>ev_of_run ((@Go.Sh.run_convert prog 5 41 .u8 .u64 kR kR .u8 n w).trans (by rw [cast_wrap rfl h])) k)<|
 (@ev_fieldAt prog 232 2 2 kR)
def RT8:=
 And.intro (fun (n:Nat) (w:World) (k:K1) (h:n<4294967296)=>ev_of_run ((@Go.Sh.run_convert prog 230 40 .u16 .u32 kR kR .u16 n w).trans (by rw [cast_wrap rfl h])) k)<|
 And.intro (@ev_fieldAt prog 232 0 0 kR)<|
 And.intro (fun (n:Int) (w:World) (k:K1) (h0:0≤n) (h1:n<4294967296)=>ev_of_run (show (convert 3 40 (.int .i64 n)).run prog w= .ok (.int .u32 ((n.toNat:Nat):Int)) w from (@Go.Sh.run_convert prog 3 40 .i64 .u32 kR kR .i64 n w).trans (by rw [wrap_u32 h0 h1,Int.toNat_of_nonneg h0])) k)<|
 And.intro (@ev_fieldAt prog 232 1 1 kR)<|
 And.intro (@ldSN prog 232 3 kR kR)<|
 And.intro (@ldRN prog 232 3 kR kR)<|
 And.intro (@ldGN prog 232 3 kR kR)<|
 And.intro (@ev_alloc prog 232 _ (show zeroT prog 232=some (.agg #[.int .i64 0,.int .i64 0,.int .u16 0]) from kR))<|
 And.intro (fun (n:Nat) (w:World) (k:K1)=>ev_of_run (show (convert 41 40 (.int .u64 (n:Int))).run prog w= .ok (.int .u32 ((n%4294967296:Nat):Int)) w from (@Go.Sh.run_convert prog 41 40 .u64 .u32 kR kR .u64 n w).trans (by rw [cast_wrap_mod rfl];rfl)) k)<|
 And.intro (fun (n:Nat) (w:World) (k:K1)=>ev_of_run (show (convert 40 230 (.int .u32 (n:Int))).run prog w= .ok (.int .u16 ((n%65536:Nat):Int)) w from (@Go.Sh.run_convert prog 40 230 .u32 .u16 kR kR .u32 n w).trans (by rw [cast_wrap_mod rfl];rfl)) k)<|
 And.intro (fun (w:World) (k:K1)=>ev_of_run (build_232_ w) k)<|
 (@stSN prog 232 3 kR)
def RT9:=
 And.intro (fun (n:Nat) (w:World) (k:K1) (h:n<9223372036854775808)=>ev_of_run ((@Go.Sh.run_convert prog 40 3 .u32 .i64 kR kR .u32 n w).trans (by rw [wrap_i64 (by omega) (by omega)])) k)<|
 And.intro (fun (v0 v1 v2:Value) (w:World) (k:K1) (h0:isOne v0=true) (h1:isOne v1=true) (h2:isOne v2=true)=>ev_of_run (build_232_0_1_2 v0 v1 v2 h0 h1 h2 w) k)<|
 And.intro (@ldSN prog 232 3 kR kR)<|
 And.intro (@ldRN prog 232 3 kR kR)<|
 And.intro (@ldGN prog 232 3 kR kR)<|
 And.intro (@ldSN prog 357 3 kR kR)<|
 And.intro (@ldRN prog 357 3 kR kR)<|
 And.intro (@ldGN prog 357 3 kR kR)<|
 And.intro (@ev_alloc prog 357 _ (show zeroT prog 357=some (.agg #[.int .u16 0,.int .u8 0,.int .u8 0]) from kR))<|
 And.intro (fun (w:World) (k:K1)=>ev_of_run (build_357_ w) k)<|
 And.intro (@stSN prog 357 3 kR)<|
 (fun (v0 v1 v2:Value) (w:World) (k:K1) (h0:isOne v0=true) (h1:isOne v1=true) (h2:isOne v2=true)=>ev_of_run (build_357_0_1_2 v0 v1 v2 h0 h1 h2 w) k)
def RT10:=
 And.intro (fun (n:Nat) (w:World) (k:K1) (h:n<4294967296)=>ev_of_run ((@Go.Sh.run_convert prog 5 40 .u8 .u32 kR kR .u8 n w).trans (by rw [cast_wrap rfl h])) k)<|
 And.intro (@ev_indexArr prog 479 16 1 kR)<|
 And.intro (@ldS1 prog 40 kR)<|
 And.intro (fun (n:Nat) (w:World) (k:K1)=>ev_of_run (show (convert 96 230 (.int .u64 (n:Int))).run prog w= .ok (.int .u16 ((n%65536:Nat):Int)) w from (@Go.Sh.run_convert prog 96 230 .u64 .u16 kR kR .u64 n w).trans (by rw [cast_wrap_mod rfl];rfl)) k)<|
 And.intro (fun (v0 v1 v2 v3:Value) (w:World) (k:K1) (h0:isOne v0=true) (h1:isOne v1=true) (h2:isOne v2=true) (h3:isOne v3=true)=>ev_of_run (bs_203_4 v0 v1 v2 v3 h0 h1 h2 h3 w) k)<|
 And.intro (fun (v0 v2:Value) (w:World) (k:K1) (h0:isOne v0=true) (h2:isOne v2=true)=>ev_of_run (build_357_0_2 v0 v2 h0 h2 w) k)<|
 And.intro (@blt_len prog 203 kR)<|
 And.intro (@ev_indexAt prog 203 1 kR)<|
 And.intro (fun x y u v w k=>ev_of_run (@Go.Sh.run_eq_iface_nil prog 170 kR x y u v w) k)<|
 And.intro (fun x u w k=>ev_of_run (@Go.Sh.run_eq_nil_nil prog 170 kR x u w) k)<|
 And.intro (@blt_len prog 222 kR)<|
 (@ev_indexAt prog 222 3 kR)
def RT11:=
 And.intro (@ldSN prog 315 3 kR kR)<|
 And.intro (@ev_alloc prog 315 _ (show zeroT prog 315=some (.agg #[.int .u8 0,.int .u64 0,.int .u64 0]) from kR))<|
 And.intro (@stSN prog 315 3 kR)<|
 And.intro (fun (v0 v1 v2:Value) (w:World) (k:K1) (h0:isOne v0=true) (h1:isOne v1=true) (h2:isOne v2=true)=>ev_of_run (build_315_0_1_2 v0 v1 v2 h0 h1 h2 w) k)<|
 And.intro (fun (v0_0 v0_1 v0_2:Value) (w:World) (k:K1)=>ev_of_run (bs_222_1 v0_0 v0_1 v0_2 w) k)<|
 And.intro (fun (v0:Value) (w:World) (k:K1) (h0:isOne v0=true)=>ev_of_run (bs_34_1 v0 h0 w) k)<|
 And.intro (fun (v0 v1:Value) (w:World) (k:K1) (h0:isOne v0=true) (h1:isOne v1=true)=>ev_of_run (build_315_0_1 v0 v1 h0 h1 w) k)<|
 And.intro (fun (v0:Value) (w:World) (k:K1) (h0:isOne v0=true)=>ev_of_run (build_315_0 v0 h0 w) k)<|
 And.intro (@ev_fieldAt prog 315 0 0 kR)<|
 And.intro (@ldS1 prog 313 kR)<|
 And.intro (@ev_fieldAt prog 315 1 1 kR)<|
 (@ev_fieldAt prog 315 2 2 kR)
def RT12:=
 And.intro (fun (v0 v1:Value) (w:World) (k:K1) (h0:isOne v0=true) (h1:isOne v1=true)=>ev_of_run (bs_480_2 v0 v1 h0 h1 w) k)<|
 And.intro (fun (v0:Value) (w:World) (k:K1) (h0:isOne v0=true)=>ev_of_run (build_255_0 v0 h0 w) k)<|
 And.intro (fun (v0:Value) (w:World) (k:Value→Prop) (h0:isOne v0=true)=>rd_of_run (build_255_0 v0 h0 w) k)<|
 And.intro (@blt_len prog 480 kR)<|
 And.intro (@ev_indexAt prog 480 1 kR)<|
 And.intro (@ldS1 prog 222 kR)<|
 And.intro (fun v w k=>ev_of_run (@Go.Sh.run_makeInterface prog 9 kR kR v w) k)<|
 And.intro (fun v w k=>rd_of_run (@Go.Sh.run_makeInterface prog 9 kR kR v w) k)<|
 And.intro (@ldSN prog 234 5 kR kR)<|
 And.intro (@ldRN prog 234 5 kR kR)<|
 And.intro (@ldGN prog 234 5 kR kR)<|
 (@ev_alloc prog 234 _ (show zeroT prog 234=some (.agg #[.nilIface,.int .i64 0,.int .i64 0,.int .i64 0,.int .u16 0]) from kR))
def RT13:=
 And.intro (fun (w:World) (k:K1)=>ev_of_run (build_234_ w) k)<|
 And.intro (@stSN prog 234 5 kR)<|
 And.intro (fun (v0 v1 v2_0 v2_1 v2_2:Value) (w:World) (k:K1) (h0:isOne v0=true) (h1:isOne v1=true)=>ev_of_run (build_234_0_1_2 v0 v1 v2_0 v2_1 v2_2 h0 h1 w) k)<|
 And.intro (@ev_fieldAt prog 234 0 0 kR)<|
 And.intro (@rd_fieldAt prog 234 0 0 kR)<|
 And.intro (@ag_fieldAt prog 234 0 0 kR)<|
 And.intro (@ldS1 prog 170 kR)<|
 And.intro (@ldR1 prog 170 kR)<|
 And.intro (@ldG1 prog 170 kR)<|
 And.intro (@ldSN prog 234 5 kR kR)<|
 And.intro (@ldRN prog 234 5 kR kR)<|
 (@ldGN prog 234 5 kR kR)
def RT14:=
 And.intro (@ev_fieldAt prog 234 2 2 kR)<|
 And.intro (@ldSN prog 357 3 kR kR)<|
 And.intro (@ldRN prog 357 3 kR kR)<|
 And.intro (@ldGN prog 357 3 kR kR)<|
 And.intro (fun x y a b w k=>ev_of_run (@Go.Sh.run_neq_bool prog 4 kR x y a b w) k)<|
 And.intro (@ev_fieldAt prog 234 1 1 kR)<|
 And.intro (@rd_fieldAt prog 234 1 1 kR)<|
 And.intro (@blt_len prog 22 kR)<|
 And.intro (fun (v0 v1:Value) (w:World) (k:K1) (h0:isOne v0=true) (h1:isOne v1=true)=>ev_of_run (bs_484_2 v0 v1 h0 h1 w) k)<|
 And.intro (@blt_len prog 484 kR)<|
 And.intro (@ev_indexAt prog 484 1 kR)<|
 (@ldS1 prog 22 kR)
def RT15:=
 And.intro (@ev_indexAt prog 22 1 kR)<|
 (@stS1 prog 5 kR)
def RT:=And.intro RT0<|And.intro RT1<|And.intro RT2<|And.intro RT3<|And.intro RT4<|And.intro RT5<|And.intro RT6<|And.intro RT7<|And.intro RT8<|And.intro RT9<|And.intro RT10<|And.intro RT11<|And.intro RT12<|And.intro RT13<|And.intro RT14<|RT15
def RA:=And.intro RT<|And.intro (RN prog) (RP prog)
def RB:=And.intro RM RV
end Go.Proofs.YtjegifbmbianiaaGreatDoor
