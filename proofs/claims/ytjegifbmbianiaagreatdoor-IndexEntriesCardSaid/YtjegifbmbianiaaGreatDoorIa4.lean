/-
  Part 4 of what the proofs of this seat share.
-/
import Derived.Test.YtjegifbmbianiaaGreatDoorIa3
import Derived.Test.YtjegifbmbianiaaGreatDoorIa2
import Derived.Lib.Walk
import Derived.Lib.Bytealg
import Derived.Lib.ValidAsc
import GoSem.Op.String
import Derived.Lib.ConvBytes
import Derived.Laws.Strings
import Derived.Laws.Strings3
import Derived.Ground.NamesProg
import Derived.Shelf.Lay
import Derived.Shelf.Unicode.ValidAny
set_option linter.defProp false
set_option linter.unusedSimpArgs false
set_option linter.unusedVariables false
set_option maxRecDepth 1000000
open Go.Proofs.Tryz (prog)
namespace Go.Sh
open Go
theorem yield_rndN {P:Program} (hm:P.follows .mixedOrders=true) {l:Nat} {fn:FuncId} {ps:Array Tmp} {a b:Code} {fr:Fr} {D:Nat} {xs:List Value} {w:World} {k:K1} (hL:Lp w l fn ps a b fr D .ready none) (hn:xs.length=ps.size)
  (hok:(codeOk P fr.length a&&codeOk P fr.length b)=true) (h:codeS P a (fun fr' w1=>Lp w1 l fn ps a b fr D .ready none∧∀w2,Frm (fun y=>y=l) w1 w2→Lp w2 l fn ps a b fr D .busy none→
   codeS P b (fun _ w3=>Lp w3 l fn ps a b fr D .busy none∧∀w4,Frm (fun y=>y=l) w3 w4→Lp w4 l fn ps a b fr D .ready none→k (.bool true) w4)
    (fun _ w3=>Lp w3 l fn ps a b fr D .busy none∧∀w4,Frm (fun y=>y=l) w3 w4→Lp w4 l fn ps a b fr D .done (some .ret)→k (.bool false) w4)
    (fun j _ w3=>Lp w3 l fn ps a b fr D .busy none∧∀w4,Frm (fun y=>y=l) w3 w4→Lp w4 l fn ps a b fr D .done (some (.exit j))→k (.bool false) w4) fr' w2) (fun _ _=>False) nX ((ps.toList.zip xs).foldl (fun f p=>f.set p.1 p.2) fr) w):dynS P (.func (.yield l) #[] #[]) xs.toArray w k:=by
 simp only [Bool.and_eq_true] at hok
 have ef:∀(l:List (Tmp×Value)) (f:Fr),l.foldl (fun tmps p=>tmps.setIfInBounds p.1 p.2) f.toArray=(l.foldl (fun f p=>f.set p.1 p.2) f).toArray:=by
  intro l
  induction l with
  |nil=>intro f;rfl
  |cons x l ih=>intro f;simp only [List.foldl_cons];rw [←ih];simp
 have hy:((do let d ←Deferred.ofValue (.func (.yield l) #[] #[]) xs.toArray;invoke d.target d.args:Sem Next)).run P w= .ok (.round l fn ((ps.toList.zip xs).foldl (fun f p=>f.set p.1 p.2) fr).toArray a b) w:=by
  rw [←ef]
  have e2:(ps.zip xs.toArray).foldl (fun tmps (x:Tmp×Value)=>tmps.setIfInBounds x.1 x.2) fr.toArray=(ps.toList.zip xs).foldl (fun tmps p=>tmps.setIfInBounds p.1 p.2) fr.toArray:=by
   rw [←Array.foldl_toList];simp
  rw [←e2]
  simp [Deferred.ofValue,invoke,Instr.yield,Sem.run_bind,run_getLoop hL,Result.andThen,hn]
 unfold dynS
 rw [hy]
 show RoundIn Fence.wide 0 P l fn _ a b w (retK k)
 refine roundIn_of_wpIn (F:=Fence.wide) trivial ?_
 have len:∀(l:List (Tmp×Value)) (f:Fr),(l.foldl (fun f p=>f.set p.1 p.2) f).length=f.length:=by
  intro l
  induction l with
  |nil=>intro f;rfl
  |cons x l ih=>intro f;simp only [List.foldl_cons];rw [ih];simp
 refine codeS_sound (ro:=some l) (ds:= []) (nt:=fr.length) hm a hok.1 ?_ ?_ ?_ _ w (len _ _) h
 ·intro fr' w1 hl h
  refine ⟨_,run_beginRound h.1 rfl,?_⟩
  have h:=h.2 _ (Frm.putObj _) h.1.put
  refine codeS_sound (ro:=some l) (ds:= []) (nt:=fr.length) hm b hok.2 ?_ ?_ ?_ fr' _ hl h
  ·intro fr3 w3 _ h
   exact ⟨_,_,run_endRound none h.1,h.2 _ (Frm.putObj _) h.1.put⟩
  ·intro fr3 w3 _ h
   exact ⟨_,_,run_endRound (some .ret) h.1,h.2 _ (Frm.putObj _) h.1.put⟩
  ·intro j fr3 w3 _ h
   exact ⟨_,_,run_endRound (some (.exit j)) h.1,h.2 _ (Frm.putObj _) h.1.put⟩
 ·intro fr' w1 _ h;exact h.elim
 ·intro j fr' w1 _ h;exact h.elim
def jumpX (k r:World→Prop) (e:Nat→World→Prop) (j:Option Code) (w:World):Prop:=
 match j with
 |none=>k w
 |some .ret=>r w
 |some (.exit j)=>e j w
 |_=>False
def rgX (P:Program) (gv:Value) (ps:Array Tmp) (a b:Code) (k r:List Nat→World→Prop) (e:Nat→List Nat→World→Prop) (rs:List Nat) (fr:Fr) (w:World):Prop:=
 match gv with
 | .func (.func f) fi cs=>enters P f=true∧∀fn,
   callS P f (fi++ #[.func (.yield (w.heap.size+1)) #[] #[]]++cs) ((w.alloc (.deferred (some []))).alloc (.loop (recL fn ps a b fr w.heap.size .ready none))) fun _ w3=>∃st pe,st≠ .busy∧Lp w3 (w.heap.size+1) fn ps a b fr w.heap.size st pe∧∀w4,Frm (fun x=>x=w.heap.size+1) w3 w4→jumpX (k (w.heap.size::rs)) (r (w.heap.size::rs)) (fun j=>e j (w.heap.size::rs)) pe w4
 |_=>False
def codeX (P:Program):Dec→Code→KD→KD→(Nat→KD)→KD
 | .l _ _ _ _,.rangeFunc g ps a b,k,r,e=>fun rs fr w=>rgX P (evO fr g) ps a b (fun rs w=>k rs fr w) (fun rs w=>r rs fr w) (fun j rs w=>e j rs fr w) rs fr w
 | .s da db,.seq a b,k,r,e=>codeX P da a (codeX P db b k r e) r e
 | .s da db,.cond x a b,k,r,e=>fun rs fr w=>cndS (evO fr x) (codeX P da a k r e rs fr w) (codeX P db b k r e rs fr w)
 | .b d,.block id c,k,r,e=>codeX P d c k r (exM id k e)
 |_,c,k,r,e=>fun rs fr w=>codeS P c (k rs) (r rs) (fun j=>e j rs) fr w
def okX (P:Program) (nt:Nat):Dec→Code→Bool
 | .l _ _ _ _,.rangeFunc _ _ _ _=>true
 | .s da db,.seq a b=>okX P nt da a&&okX P nt db b
 | .s da db,.cond _ a b=>okX P nt da a&&okX P nt db b
 | .b d,.block _ c=>okX P nt d c
 |_,c=>codeOk P nt c
theorem rgX_sound {P:Program} {g:Operand} {ps:Array Tmp} {a b:Code} {Q:Exit→Act→World→Prop} {k r:KD} {e:Nat→KD} {rs:List Nat} {fr:Fr} {w:World}
  (hk:∀rs w,k rs fr w→Q .normal (actOf (rs.map mkD) fr) w) (hr:∀rs w,r rs fr w→Q .ret (actOf (rs.map mkD) fr) w) (he:∀j rs w,e j rs fr w→Q (.exit j) (actOf (rs.map mkD) fr) w) (h:rgX P (evO fr g) ps a b (fun rs w=>k rs fr w) (fun rs w=>r rs fr w) (fun j rs w=>e j rs fr w) rs fr w):(Code.rangeFunc g ps a b).wpIn (FW none) 0 P Q (actOf (rs.map mkD) fr) w:=by
 unfold rgX at h
 split at h
 ·rename_i f fi cs hg
  obtain ⟨hen,h⟩:=h
  refine wpIn_rangeFunc (fun fn _=> ?_)
  have hg':(actOf (rs.map mkD) fr).eval g= .func (.func f) fi cs:=by rw [eval_actOf,hg]
  refine ⟨w.heap.size+1,[mkD w.heap.size],((w.alloc (.deferred (some []))).alloc (.loop (recL fn ps a b fr w.heap.size .ready none))),{target:= .fn (.func f) cs,args:=fi++ #[.func (.yield (w.heap.size+1)) #[] #[]]},((w.alloc (.deferred (some []))).alloc (.loop (recL fn ps a b fr w.heap.size .ready none))),f,fi++ #[.func (.yield (w.heap.size+1)) #[] #[]]++cs,((w.alloc (.deferred (some []))).alloc (.loop (recL fn ps a b fr w.heap.size .ready none))),run_enterLoop_outer _ _ _ _ _,?_,fun _ _=>trivial,?_,fun h=>fwD h,?_⟩
  ·simp only [resolve,hg']
   simp [go_sem,Act.eval]
  ·simp only [invoke];exact run_callFunc hen _ _
  ·refine (callsIn_wide (n:=0)).2 (Calls.mono (h fn) ?_)
   intro en w3 hx
   cases en with
   |returned v=>
    obtain ⟨st,pe,hb,hl,hj⟩:=hx
    refine ⟨pe,_,run_endLoop hl hb,?_⟩
    have hj:=hj _ (Frm.putObj (Obj.loop {recL fn ps a b fr w.heap.size st pe with state:= .exhausted}))
    cases pe with
    |none=>exact hk (w.heap.size::rs) _ hj
    |some c=>
     cases c with
     |ret=>exact wpIn_ret (hr (w.heap.size::rs) _ hj)
     |exit j=>exact wpIn_exit (he j (w.heap.size::rs) _ hj)
     |_=>exact hj.elim
   |panicked c=>exact hx.elim
   |outgrown=>exact hx.elim
 ·exact h.elim
theorem codeX_sound {P:Program} {nt:Nat} (hm:P.follows .mixedOrders=true):∀(d:Dec) (c:Code) {Q:Exit→Act→World→Prop} {k r:KD} {e:Nat→KD},okX P nt d c=true→
  (∀rs fr w,fr.length=nt→k rs fr w→Q .normal (actOf (rs.map mkD) fr) w)→(∀rs fr w,fr.length=nt→r rs fr w→Q .ret (actOf (rs.map mkD) fr) w)→(∀j rs fr w,fr.length=nt→e j rs fr w→Q (.exit j) (actOf (rs.map mkD) fr) w)→
  ∀(rs:List Nat) (fr:Fr) (w:World),fr.length=nt→codeX P d c k r e rs fr w→c.wpIn (FW none) 0 P Q (actOf (rs.map mkD) fr) w:=by
 have dfl:∀(c:Code) {Q:Exit→Act→World→Prop} {k r:KD} {e:Nat→KD},codeOk P nt c=true→
  (∀rs fr w,fr.length=nt→k rs fr w→Q .normal (actOf (rs.map mkD) fr) w)→(∀rs fr w,fr.length=nt→r rs fr w→Q .ret (actOf (rs.map mkD) fr) w)→(∀j rs fr w,fr.length=nt→e j rs fr w→Q (.exit j) (actOf (rs.map mkD) fr) w)→
  ∀(rs:List Nat) (fr:Fr) (w:World),fr.length=nt→codeS P c (k rs) (r rs) (fun j=>e j rs) fr w→c.wpIn (FW none) 0 P Q (actOf (rs.map mkD) fr) w:=by
  intro c Q k r e ho hk hr he rs fr w hl h
  exact codeS_sound hm c ho (fun fr w=>hk rs fr w) (fun fr w=>hr rs fr w) (fun j fr w=>he j rs fr w) fr w hl h
 intro d
 induction d with
 |s da db iha ihb=>
  intro c Q k r e ho hk hr he rs fr w hl h
  cases c
  case seq a b=>
   simp only [okX,Bool.and_eq_true] at ho
   refine wpIn_seq (iha a ho.1 ?_ ?_ ?_ rs fr w hl h)
   ·intro rs fr w hl h;exact ihb b ho.2 hk hr he rs fr w hl h
   ·intro rs fr w hl h;exact hr rs fr w hl h
   ·intro j rs fr w hl h;exact he j rs fr w hl h
  case cond x a b=>
   simp only [okX,Bool.and_eq_true] at ho
   simp only [codeX,cndS] at h
   have hc:(actOf (rs.map mkD) fr).eval x=evO fr x:=by rw [eval_actOf]
   split at h
   ·rename_i hx;exact wpIn_cond_true (by rw [hc,hx]) (iha a ho.1 hk hr he rs fr w hl h)
   ·rename_i hx;exact wpIn_cond_false (by rw [hc,hx]) (ihb b ho.2 hk hr he rs fr w hl h)
   ·exact h.elim
  all_goals exact dfl _ ho hk hr he rs fr w hl h
 |b d ih=>
  intro c Q k r e ho hk hr he rs fr w hl h
  cases c
  case block id c=>
   refine wpIn_block (ih c ho ?_ ?_ ?_ rs fr w hl h)
   ·intro rs fr w hl h;exact hk rs fr w hl h
   ·intro rs fr w hl h;exact hr rs fr w hl h
   ·intro j rs fr w hl h
    unfold exM at h
    simp only [Exit.inBlock]
    cases hj:Nat.beq j id with
    |true=>rw [hj] at h;rw [if_pos (Nat.eq_of_beq_eq_true hj)];exact hk rs fr w hl h
    |false=>rw [hj] at h;rw [if_neg (Nat.ne_of_beq_eq_false hj)];exact he j rs fr w hl h
  all_goals exact dfl _ ho hk hr he rs fr w hl h
 |l lm keep wr d ih=>
  intro c Q k r e ho hk hr he rs fr w hl h
  cases c
  case rangeFunc=>exact rgX_sound (fun rs w=>hk rs fr w hl) (fun rs w=>hr rs fr w hl) (fun j rs w=>he j rs fr w hl) h
  all_goals exact dfl _ ho hk hr he rs fr w hl h
 |_=>
  intro c Q k r e ho hk hr he rs fr w hl h
  cases c
  all_goals exact dfl _ ho hk hr he rs fr w hl h
def txtX (P:Program) (fn:Func) (d:Dec) (args:List Value) (K:K1) (w:World):Prop:=
 match fn.body with
 |some c=>codeX P d c (fun rs=>endK P fn.results.toList (rsK K rs)) (fun rs=>endK P fn.results.toList (rsK K rs)) (fun _ _ _ _=>False) [] (args++List.replicate (fn.ntmps-args.length) undef) w
 |none=>False
def okXN (P:Program) (fn:Func) (d:Dec):Bool:=
 match fn.body with
 |some c=>okX P fn.ntmps d c
 |none=>false
theorem call_of_txtX {P:Program} (hm:P.follows .mixedOrders=true) {f:FuncId} {fn:Func} (hf:P.funcs[f]? =some fn) (d:Dec) {args:List Value} {w:World} {K:K1} (hok:okXN P fn d=true) (hl:args.length≤fn.ntmps) (h:txtX P fn d args K w):callS P f args.toArray w K:=by
 unfold okXN at hok
 unfold txtX at h
 cases hb:fn.body with
 |none=>rw [hb] at h;exact h.elim
 |some c=>
  rw [hb] at h hok
  refine (callsIn_wide (n:=0)).1 (callsIn_of_wp_marks (F:=FW none) hf hb trivial ?_)
  have e:({tmps:=args.toArray++Array.replicate (fn.ntmps-args.toArray.size) undef,defers:= []}:Act)=actOf ([].map mkD) (args++List.replicate (fn.ntmps-args.length) undef):=by
   simp [actOf]
  rw [e]
  refine codeX_sound hm d c hok ?_ ?_ ?_ [] _ w (by simp;omega) h
  ·intro rs fr w _ h;exact leaves_end (by simp) rs w h
  ·intro rs fr w _ h;exact leaves_end (by simp) rs w h
  ·intro j rs fr w _ h;exact h.elim
end Go.Sh
namespace Go.Ev
open Go Go.Sh Go.Proofs.YtjegifbmbianiaaGreatDoor
noncomputable def stB:LoopState→LoopState→Bool
 | .ready,.ready| .busy,.busy| .done,.done| .exhausted,.exhausted=>true
 |_,_=>false
theorem stB_eq {a b:LoopState} (h:stB a b=true):a=b:=by cases a<;>cases b<;>first|rfl|cases h
noncomputable def lpK (S:St) (id:Nat) (st st':LoopState) (pe':Option Code) (k:St→Bool):Bool:=
 Tr.gK S.m id (fun B=>match B with
  | .lp key fr D s none=>cnd (stB s st) (putB S id (some (.lp key fr D st' pe')) k)
  |_=>false) false
noncomputable def setFK (nt:Nat) (f:FT):List Nat→AV→(FT→Bool)→Bool
 | [],.nl,k=>k f
 |i::l,.cn a t,k=>cnd (Nat.blt i nt) (sP (pt i) f a fun f=>setFK nt f l t k)
 |_,_,_=>false
noncomputable def rndA (P:Program) (G:Nat) (D:DA) (ps:List Tmp) (a b:Code) (nt:Nat) (lv:List Nat) (args:AV) (S:St) (k:KA):Bool:=
 match args with
 | .cn (.p id _) (.cn fr xs)=>setFK nt .e lv fr fun f=>setFK nt f ps xs fun f=>
  codeA P G D nt a (fun f S=>lpK S id .ready .busy none fun S=>codeA P G D nt b (fun _ S=>lpK S id .busy .ready none fun S=>k (.b true) S) (fun _ S=>lpK S id .busy .done (some .ret) fun S=>k (.b false) S) (fun j _ S=>lpK S id .busy .done (some (.exit j)) fun S=>k (.b false) S) f S) (fun _ _=>false) (fun _ _ _=>false) f S
 |_=>false
section
variable {P:Program} {T:RT} {D:DA} {w0:World}
theorem lpK_ok {S:St} {φ:Ph} {w:World} {id b o N:Nat} {st st':LoopState} {pe':Option Code} {k:St→Bool} {r:Loop} (h:lpK S id st st' pe' k=true) (R:Rel T w0 S φ w) (hp:φ id=some (b,o,N)) (hr:T.g.lp id=some r):
  Lp w b r.fn r.params r.assign r.body r.tmps.toList r.defers st none∧∃S',k S'=true∧∀w',Frm (fun y=>y=b) w w'→Lp w' b r.fn r.params r.assign r.body r.tmps.toList r.defers st' pe'→Rel T w0 S' φ w':=by
 unfold lpK at h
 rw [Tr.gK_eq] at h
 cases hg:S.m.get id with
 |none=>rw [hg] at h;cases h
 |some B=>
  rw [hg] at h
  simp only at h
  split at h
  ·rename_i key fr Dd s
   obtain ⟨h1,h9⟩:=cnd_ok h
   clear h
   have e0:=stB_eq h1
   clear h1
   subst e0
   have h:=h9
   clear h9
   rw [putB_eq] at h
   obtain ⟨b',N',r',nt,lv,od,Nd,⟨g1,g2,g3,g4,g5⟩,p1,p2,p3⟩:=R.blk _ _ _ hg hp
   rw [hp] at p1;cases p1
   rw [hr] at g2;cases g2
   refine ⟨by unfold Lp recL;simpa using p2,_,h,fun w' e hL=>R.mod hg hp p3 e ⟨b,N,r,nt,lv,od,Nd,⟨g1,hr,g3,g4,g5⟩,hp,?_,p3⟩⟩
   unfold Lp recL at hL
   simpa using hL
  ·cases h
theorem setFK_ok {φ:Ph} {nt:Nat} {k:FT→Bool}:∀{l:List Nat} {x:AV} {f:FT} {f':Fr} {vs:List Value},setFK nt f l x k=true→FR φ f f'→f'.length=nt→L φ x vs→l.length=vs.length∧∃g,k g=true∧FR φ g ((l.zip vs).foldl (fun f p=>f.set p.1 p.2) f'):=by
 intro l
 induction l with
 |nil=>
  intro x f f' vs h F _ hx;cases x<;>first|(cases h;done)|skip
  cases hx;exact ⟨rfl,f,h,F⟩
 |cons i l ih=>
  intro x f f' vs h F hl hx
  cases x<;>first|(cases h;done)|skip
  obtain ⟨y,ys,rfl,hy,hl2⟩:=hx
  obtain ⟨h1,h9⟩:=cnd_ok h
  rw [Nat.blt_eq] at h1
  rw [sP_eq] at h9
  obtain ⟨a,g,h1,h2⟩:=ih (f':=f'.set i y) h9 (F.set oM hy) (by simpa using hl) hl2
  exact ⟨by simp [a],g,h1,h2⟩
theorem setFK_lv {φ:Ph} {nt:Nat} {k:FT→Bool} {f':Fr}:∀{l:List Nat} {x:AV} {f:FT},setFK nt f l x k=true→FR φ f f'→LV φ l x f'→∃g,k g=true∧FR φ g f':=by
 intro l
 induction l with
 |nil=>
  intro x f h F hx;cases x<;>first|(cases h;done)|skip
  exact ⟨f,h,F⟩
 |cons i l ih=>
  intro x f h F hx
  cases x<;>first|(cases h;done)|skip
  obtain ⟨_,h9⟩:=cnd_ok h
  rw [sP_eq] at h9
  exact ih h9 (F.fix hx.1) hx.2
theorem foldl_set_len:∀(l:List (Tmp×Value)) (f:Fr),(l.foldl (fun f p=>f.set p.1 p.2) f).length=f.length:=by
 intro l
 induction l with
 |nil=>intro f;rfl
 |cons x l ih=>intro f;simp only [List.foldl_cons];rw [ih];simp
theorem rndA_ok (hm:P.follows .mixedOrders=true) {key:Nat} {ps:Array Tmp} {a b:Code} {nt:Nat} {lv:List Nat} (ht:T.tab key=some (ps,a,b,nt,lv)) (hok:(codeOk P nt a&&codeOk P nt b)=true):GY P T (R0+key) (fun D args S k=>rndA P T.G D ps.toList a b nt lv args S k):=by
 refine ⟨key,rfl,fun D hD ph args S k w0 φ w vs K id fr Dd b0 o N h R ha hK hb hp=> ?_⟩
 obtain ⟨b',N',r,nt',lv',od,Nd,⟨g1,g2,g3,g4,g5⟩,p1,p2,p3⟩:=R.blk _ _ _ hb hp
 rw [hp] at p1;cases p1
 have g1:T.tab key=some (r.params,r.assign,r.body,nt',lv'):=g1
 rw [ht] at g1
 injection g1 with g1
 simp only [Prod.mk.injEq] at g1
 obtain ⟨e1,e2,e3,e4,e5⟩:=g1
 subst e4;subst e5
 unfold rndA at h
 simp only at h
 obtain ⟨f1,h,F1⟩:=setFK_lv h (FR.e φ r.tmps.toList) g4
 obtain ⟨hn,f2,h,F2⟩:=setFK_ok h F1 (by simpa using g3) ha
 have hlen:r.tmps.toList.length=nt:=by simpa using g3
 refine yield_rndN (fn:=r.fn) (ps:=ps) (a:=a) (b:=b) (fr:=r.tmps.toList) (D:=r.defers) hm ?_ (by simpa using hn.symm) (by rw [hlen];exact hok) ?_
 ·unfold Lp recL;rw [e1,e2,e3];simpa using p2
 ·refine codeA_ok (T:=T.wi ph) hD (φ:=φ) ?_ (fun fr S ψ fr' w h=>by cases h) (fun j fr S ψ fr' w h=>by cases h) _ _ _ _ _ h (Ph.le.refl _) R F2 (by rw [foldl_set_len];exact hlen)
  intro fr1 S1 ψ1 fr1' w1 h hle1 R1 G1 s1
  obtain ⟨l1,S2,h,n1⟩:=lpK_ok h R1 (hle1 _ _ hp) g2
  refine ⟨by rw [e1,e2,e3];exact l1,fun w2 f2' l2=> ?_⟩
  have R2:=n1 w2 f2' (by rw [←e1,←e2,←e3];exact l2)
  refine codeA_ok (T:=T.wi ph) hD (φ:=ψ1) ?_ ?_ ?_ _ _ _ _ _ h (Ph.le.refl _) R2 G1 s1
  ·intro fr3 S3 ψ3 fr3' w3 h hle3 R3 G3 s3
   obtain ⟨l3,S4,h,n3⟩:=lpK_ok h R3 (hle3 _ _ (hle1 _ _ hp)) g2
   refine ⟨by rw [e1,e2,e3];exact l3,fun w4 f4 l4=> ?_⟩
   exact hK _ _ _ _ _ h (hle1.trans hle3) (n3 w4 f4 (by rw [←e1,←e2,←e3];exact l4)) rfl
  ·intro fr3 S3 ψ3 fr3' w3 h hle3 R3 G3 s3
   obtain ⟨l3,S4,h,n3⟩:=lpK_ok h R3 (hle3 _ _ (hle1 _ _ hp)) g2
   refine ⟨by rw [e1,e2,e3];exact l3,fun w4 f4 l4=> ?_⟩
   exact hK _ _ _ _ _ h (hle1.trans hle3) (n3 w4 f4 (by rw [←e1,←e2,←e3];exact l4)) rfl
  ·intro je fr3 S3 ψ3 fr3' w3 h hle3 R3 G3 s3
   obtain ⟨l3,S4,h,n3⟩:=lpK_ok h R3 (hle3 _ _ (hle1 _ _ hp)) g2
   refine ⟨by rw [e1,e2,e3];exact l3,fun w4 f4 l4=> ?_⟩
   exact hK _ _ _ _ _ h (hle1.trans hle3) (n3 w4 f4 (by rw [←e1,←e2,←e3];exact l4)) rfl
abbrev KDA:=List Nat→KFA
noncomputable def slotsA (fr:FT):List Nat→AV
 | []=> .nl
 |i::l=> .cn (gP (pt i) fr) (slotsA fr l)
noncomputable def rgA (P:Program) (D:DA) (key:Nat) (lv:List Nat) (gv:AV) (fr:FT) (S:St) (k r:Nat→St→Bool) (e:Nat→Nat→St→Bool):Bool:=
 match gv with
 | .f (.func f) x y=>cnd (enters P f&&Nat.blt f R0) (newB S .df fun j1 S=>newB S (.lp key (slotsA fr lv) j1 .ready none) fun j2 S=>appK x (.cn (.y j2) y) fun args=>D f args S fun _ S=>
   Tr.gK S.m j2 (fun B=>match B with
    | .lp _ _ _ st pe=>cnd (!stB st .busy) (putB S j2 none fun S=>match pe with
     |none=>k j1 S
     |some .ret=>r j1 S
     |some (.exit j)=>e j j1 S
     |_=>false)
    |_=>false) false)
 |_=>false
noncomputable def codeRA (P:Program) (G:Nat) (D:DA) (nt:Nat) (lvs:Nat→List Nat):Dec→Code→KDA→KDA→(Nat→KDA)→KDA
 | .l lm _ _ _,.rangeFunc g _ _ _,k,r,e=>match lm with
  | [key]=>fun rs fr S=>rgA P D key (lvs key) (evA G fr g) fr S (fun j S=>k (j::rs) fr S) (fun j S=>r (j::rs) fr S) (fun i j S=>e i (j::rs) fr S)
  |_=>fun _ _ _=>false
 | .s da db,.seq a b,k,r,e=>codeRA P G D nt lvs da a (codeRA P G D nt lvs db b k r e) r e
 | .s da db,.cond x a b,k,r,e=>fun rs fr S=>cndA (evA G fr x) (codeRA P G D nt lvs da a k r e rs fr S) (codeRA P G D nt lvs db b k r e rs fr S)
 | .b d,.block id c,k,r,e=>codeRA P G D nt lvs d c k r fun j=>match Nat.beq j id with
  |true=>k
  |false=>e j
 |_,c,k,r,e=>fun rs fr S=>codeA P G D nt c (k rs) (r rs) (fun j=>e j rs) fr S
def okK (tab:Nat→Option (Array Tmp×Code×Code×Nat×List Nat)) (nt:Nat) (lvs:Nat→List Nat):Dec→Code→Prop
 | .l lm _ _ _,.rangeFunc _ ps a b=>match lm with
  | [key]=>tab key=some (ps,a,b,nt,lvs key)
  |_=>False
 | .s da db,.seq a b=>okK tab nt lvs da a∧okK tab nt lvs db b
 | .s da db,.cond _ a b=>okK tab nt lvs da a∧okK tab nt lvs db b
 | .b d,.block _ c=>okK tab nt lvs d c
 |_,_=>True
def TK (φ:Ph):List Nat→List Nat→Prop
 | [],l=>l= []
 |j::js,l=>∃r rs N,l=r::rs∧φ j=some (r,0,N)∧TK φ js rs
def KDR (T:RT) (w0:World) (φ0:Ph) (n:Nat) (k:KDA) (k':KD):Prop:=∀js fr S φ rs fr' w,k js fr S=true→φ0.le φ→Rel T w0 S φ w→FR φ fr fr'→fr'.length=n→TK φ js rs→k' rs fr' w
noncomputable def dropsA:List Nat→St→(St→Bool)→Bool
 | [],S,k=>k S
 |j::js,S,k=>Tr.gK S.m j (fun B=>match B with
  | .df=>putB S j none fun S=>dropsA js S k
  |_=>false) false
noncomputable def endRA (P:Program) (rs:List ResultVar) (k:KA):KDA:=fun js fr S=>resA P rs fr S fun l=>dropsA js S fun S=>k (oneVA l) S
noncomputable def txtRA (P:Program) (G:Nat) (D:DA) (fn:Func) (d:Dec) (lvs:Nat→List Nat) (args:AV) (k:KA) (S:St):Bool:=
 match fn.body with
 |some c=>argsT fn.ntmps args 0 .e fun fr=>codeRA P G D fn.ntmps lvs d c (endRA P fn.results.toList k) (endRA P fn.results.toList k) (fun _ _ _ _=>false) [] fr S
 |none=>false
theorem TK.mono {φ ψ:Ph} (h:φ.le ψ):∀{js rs:List Nat},TK φ js rs→TK ψ js rs:=by
 intro js
 induction js with
 |nil=>exact fun h=>h
 |cons j js ih=>rintro rs ⟨r,rs,N,rfl,h1,h2⟩;exact ⟨r,rs,N,rfl,h _ _ h1,ih h2⟩
theorem KDR.mono {T:RT} {w0:World} {φ ψ:Ph} {n:Nat} {k:KDA} {k':KD} (h:KDR T w0 φ n k k') (g:φ.le ψ):KDR T w0 ψ n k k':=fun js fr S χ rs fr' w a b=>h js fr S χ rs fr' w a (g.trans b)
theorem dropsA_ok {φ:Ph} {v:Value} {k:St→Bool} {K:K1}:∀{js rs:List Nat} {S:St} {w:World},dropsA js S k=true→TK φ js rs→Rel T w0 S φ w→(∀S w,k S=true→Rel T w0 S φ w→K v w)→rsK K rs v w:=by
 intro js
 induction js with
 |nil=>intro rs S w h ht R hK;cases ht;exact hK _ _ h R
 |cons j js ih=>
  rintro rs S w h ⟨r,rs,N,rfl,h1,h2⟩ R hK
  unfold dropsA at h
  rw [Tr.gK_eq] at h
  cases hg:S.m.get j with
  |none=>rw [hg] at h;cases h
  |some B=>
   rw [hg] at h
   simp only at h
   split at h
   ·rw [putB_eq] at h
    obtain ⟨b,N',p1,p2,p3⟩:=R.blk _ _ _ hg h1
    have p4:=p1
    rw [h1] at p4;cases p4
    exact ⟨p2,fun w' f=>ih h h2 (R.drop hg h1 p3 f) hK⟩
   ·cases h
theorem slotsA_ok {φ:Ph} {fr:FT} {fr':Fr} (F:FR φ fr fr'):∀l,LV φ l (slotsA fr l) fr':=by
 intro l
 induction l with
 |nil=>trivial
 |cons i l ih=>exact ⟨by rw [gP_eq];exact F i,ih⟩
theorem rgA_ok (hD:DSo P T D) {key:Nat} {lv:List Nat} {gv:AV} {g':Value} {fr:FT} {fr':Fr} {S:St} {φ:Ph} {w:World} {ps:Array Tmp} {a b:Code} {nt:Nat} {k r:Nat→St→Bool} {e:Nat→Nat→St→Bool} {k' r':List Nat→World→Prop} {e':Nat→List Nat→World→Prop} {rs:List Nat}
  (h:rgA P D key lv gv fr S k r e=true) (ht:T.tab key=some (ps,a,b,nt,lv)) (hn:fr'.length=nt) (R:Rel T w0 S φ w) (hg:V φ gv g') (F:FR φ fr fr')
  (hk:∀j S ψ rj w N,k j S=true→φ.le ψ→Rel T w0 S ψ w→ψ j=some (rj,0,N)→k' (rj::rs) w) (hr:∀j S ψ rj w N,r j S=true→φ.le ψ→Rel T w0 S ψ w→ψ j=some (rj,0,N)→r' (rj::rs) w) (he:∀i j S ψ rj w N,e i j S=true→φ.le ψ→Rel T w0 S ψ w→ψ j=some (rj,0,N)→e' i (rj::rs) w):rgX P g' ps a b k' r' e' rs fr' w:=by
 unfold rgA at h
 split at h
 ·rename_i f x y
  obtain ⟨fi,cs,rfl,hx,hy⟩:=hg
  obtain ⟨h1,h⟩:=cnd_ok h
  simp only [Bool.and_eq_true,Nat.blt_eq] at h1
  rw [newB_eq,newB_eq] at h
  refine ⟨h1.1,fun fn=> ?_⟩
  have hj1:φ S.nx=none:=R.none
  have R1:=R.new (b:=w.heap.size) (o:=0) (N:=0) (B:= .df) (Ext.alloc_self w (.deferred (some []))) (Nat.le_refl _) (by simp) ⟨_,_,Ph.put_self _ _ _,heap_alloc_eq w _,R.ext.size⟩
  have le1:=R.le (w.heap.size,0,0)
  have p1:=Ph.put_self φ S.nx (w.heap.size,0,0)
  generalize φ.put S.nx (w.heap.size,0,0)=φ1 at R1 le1 p1
  obtain ⟨S1,hS1⟩:∃S1:St,S1=⟨S.m.set S.nx (some .df),S.nx+1,S.dv⟩:=⟨_,rfl⟩
  rw [←hS1] at h R1
  have n1:S1.m.get S1.nx=none:=R1.top _ (Nat.le_refl _)
  obtain ⟨rc,hrc⟩:∃rc,rc=recL fn ps a b fr' w.heap.size .ready none:=⟨_,rfl⟩
  obtain ⟨T',hT'⟩:∃T':RT,T'=T.wi ⟨T.g.ph,fun i=>if i=S1.nx then some rc else T.g.lp i,T.g.fr⟩:=⟨_,rfl⟩
  have R2:Rel T' w0 S1 φ1 (w.alloc (.deferred (some []))):=by
   rw [hT']
   refine R1.weak rfl rfl (fun j h=>h) (fun id key fr D st pe hid=> ?_)
   simp only
   rw [if_neg (fun e=>by rw [e,n1] at hid;cases hid)]
  have sz1:(w.alloc (.deferred (some []))).heap.size=w.heap.size+1:=by simp
  have F1:=F.mono le1
  have R3:=R2.new (b:=w.heap.size+1) (o:=0) (N:=0) (B:= .lp key (slotsA fr lv) S.nx .ready none) (w':=(w.alloc (.deferred (some []))).alloc (.loop rc)) (Ext.alloc_self _ _) (by rw [sz1];exact Nat.le_refl _) (by simp) ⟨w.heap.size+1,0,rc,nt,lv,0,0,⟨by rw [hT',hrc];exact ht,by rw [hT'];simp,by rw [hrc];simpa using hn,by rw [hrc];exact (slotsA_ok F1 lv).mono (R2.le _),by rw [hrc];exact R2.le _ _ _ p1⟩,Ph.put_self _ _ _,by
    have:=heap_alloc_eq (w.alloc (.deferred (some []))) (.loop rc)
    rw [sz1] at this;rw [this,hrc],by have:=R.ext.size;omega⟩
  have le2:=R2.le (w.heap.size+1,0,0)
  have p2:=Ph.put_self φ1 S1.nx (w.heap.size+1,0,0)
  generalize φ1.put S1.nx (w.heap.size+1,0,0)=φ2 at R3 le2 p2
  have hx2:L φ2 x fi.toList:=L.mono le2 (L.mono le1 hx)
  have hy2:L φ2 y cs.toList:=L.mono le2 (L.mono le1 hy)
  have hz2:L φ2 (.cn (.y S1.nx) y) (.func (.yield (w.heap.size+1)) #[] #[]::cs.toList):=⟨_,_,rfl,⟨_,_,_,p2,rfl⟩,hy2⟩
  obtain ⟨ra,h,hra⟩:=appK_ok hz2 h hx2
  have:=hD.1 T'.g _ _ _ _ w0 φ2 ((w.alloc (.deferred (some []))).alloc (.loop rc)) _ (fun _ w3=>∃st pe,st≠ .busy∧Lp w3 (w.heap.size+1) fn ps a b fr' w.heap.size st pe∧∀w4,Frm (fun x=>x=w.heap.size+1) w3 w4→jumpX (k' (w.heap.size::rs)) (r' (w.heap.size::rs)) (fun j=>e' j (w.heap.size::rs)) pe w4) h1.2 h (by rw [hT'] at R3 ⊢;exact R3) hra ?_
  ·rw [hrc] at this
   rw [show fi++ #[.func (.yield (w.heap.size+1)) #[] #[]]++cs=(fi.toList++ .func (.yield (w.heap.size+1)) #[] #[]::cs.toList).toArray by simp]
   exact this
  ·intro v S3 φ3 w3 u h le3 R4 _
   have R4:Rel T' w0 S3 φ3 w3:=by rw [hT'] at R4 ⊢;exact R4
   simp only [Tr.gK_eq] at h
   cases hgt:S3.m.get S1.nx with
   |none=>rw [hgt] at h;cases h
   |some B=>
    rw [hgt] at h
    simp only at h
    split at h
    ·rename_i key' fr3 D3 st pe
     obtain ⟨hst,h9⟩:=cnd_ok h
     clear h
     have h:=h9
     clear h9
     rw [putB_eq] at h
     have p3:=le3 _ _ p2
     obtain ⟨b',N',r',nt',lv',od,Nd,⟨g1,g2,g3,g4,g5⟩,q1,q2,q3⟩:=R4.blk _ _ _ hgt p3
     rw [p3] at q1
     simp only [Option.some.injEq,Prod.mk.injEq] at q1
     have er:r'=rc:=by
      rw [hT'] at g2
      simp only [if_true,Option.some.injEq] at g2
      exact g2.symm
     rw [←q1.1] at q2 q3
     rw [er] at q2
     refine ⟨st,pe,(fun e9=>by rw [e9] at hst;cases hst),?_,fun w4 f4=> ?_⟩
     ·rw [hrc] at q2;exact q2
     ·have R5:=R4.drop hgt p3 q3 f4
      have R6:Rel T w0 ⟨S3.m.set S1.nx none,S3.nx,S3.dv⟩ φ3 w4:=by
       rw [hT'] at R5
       refine R5.weak rfl rfl (fun j h=>h) (fun id key fr D st pe hid=> ?_)
       have:id≠S1.nx:=fun e=>by rw [e,Tr.get_set,if_pos rfl] at hid;cases hid
       simp only
       rw [if_neg this]
      have pj:=le3 _ _ (le2 _ _ p1)
      have leA:=le1.trans (le2.trans le3)
      split at h
      ·exact hk _ _ _ _ _ _ h leA R6 pj
      ·exact hr _ _ _ _ _ _ h leA R6 pj
      ·exact he _ _ _ _ _ _ _ h leA R6 pj
      ·cases h
    ·cases h
 ·cases h
attribute [local irreducible] codeA in
theorem codeRA_ok (hD:DSo P T D) {lvs:Nat→List Nat} {nt:Nat}:∀(d:Dec) (c:Code) {φ:Ph} {k r:KDA} {k' r':KD} {e:Nat→KDA} {e':Nat→KD},okX P nt d c=true→okK T.tab nt lvs d c→KDR T w0 φ nt k k'→KDR T w0 φ nt r r'→(∀j,KDR T w0 φ nt (e j) (e' j))→
  KDR T w0 φ nt (codeRA P T.G D nt lvs d c k r e) (codeX P d c k' r' e'):=by
 have dfl:∀(c:Code) {φ:Ph} {k r:KDA} {k' r':KD} {e:Nat→KDA} {e':Nat→KD},KDR T w0 φ nt k k'→KDR T w0 φ nt r r'→(∀j,KDR T w0 φ nt (e j) (e' j))→
   KDR T w0 φ nt (fun rs fr S=>codeA P T.G D nt c (k rs) (r rs) (fun j=>e j rs) fr S) (fun rs fr w=>codeS P c (k' rs) (r' rs) (fun j=>e' j rs) fr w):=by
  intro c φ k r k' r' e e' hk hr he js fr S ψ rs fr' w h hle R F s tk
  refine codeA_ok hD (φ:=ψ) ?_ ?_ ?_ _ _ _ _ _ h (Ph.le.refl _) R F s
  ·intro fr S χ fr' w h l R F s;exact hk _ _ _ _ _ _ _ h (hle.trans l) R F s (tk.mono l)
  ·intro fr S χ fr' w h l R F s;exact hr _ _ _ _ _ _ _ h (hle.trans l) R F s (tk.mono l)
  ·intro j fr S χ fr' w h l R F s;exact he j _ _ _ _ _ _ _ h (hle.trans l) R F s (tk.mono l)
 intro d
 induction d with
 |s da db iha ihb=>
  intro c φ k r k' r' e e' ho hK hk hr he
  cases c
  case seq a b=>
   simp only [okX,Bool.and_eq_true] at ho
   exact iha a ho.1 hK.1 (ihb b ho.2 hK.2 hk hr he) hr he
  case cond x a b=>
   simp only [okX,Bool.and_eq_true] at ho
   intro js fr S ψ rs fr' w h hle R F s tk
   exact cndA_ok h (F.ev R x) (fun h=>iha a ho.1 hK.1 hk hr he _ _ _ _ _ _ _ h hle R F s tk) (fun h=>ihb b ho.2 hK.2 hk hr he _ _ _ _ _ _ _ h hle R F s tk)
  all_goals exact dfl _ hk hr he
 |b d ih=>
  intro c φ k r k' r' e e' ho hK hk hr he
  cases c
  case block id c=>
   refine ih c ho hK hk hr (fun j=> ?_)
   unfold exM
   cases Nat.beq j id with
   |true=>exact hk
   |false=>exact he j
  all_goals exact dfl _ hk hr he
 |l lm keep wr d ih=>
  intro c φ k r k' r' e e' ho hK hk hr he
  cases c
  case rangeFunc g ps a b=>
   cases lm with
   |nil=>exact hK.elim
   |cons key lm=>
    cases lm with
    |cons _ _=>exact hK.elim
    |nil=>
     intro js fr S ψ rs fr' w h hle R F s tk
     show rgX P (evO fr' g) ps a b (fun rs w=>k' rs fr' w) (fun rs w=>r' rs fr' w) (fun j rs w=>e' j rs fr' w) rs fr' w
     refine rgA_ok hD h hK s R (F.ev R g) F ?_ ?_ ?_
     ·intro j S χ rj w N h l R q;exact hk _ _ _ _ _ _ _ h (hle.trans l) R (F.mono l) s ⟨_,_,_,rfl,q,tk.mono l⟩
     ·intro j S χ rj w N h l R q;exact hr _ _ _ _ _ _ _ h (hle.trans l) R (F.mono l) s ⟨_,_,_,rfl,q,tk.mono l⟩
     ·intro i j S χ rj w N h l R q;exact he i _ _ _ _ _ _ _ h (hle.trans l) R (F.mono l) s ⟨_,_,_,rfl,q,tk.mono l⟩
  all_goals exact dfl _ hk hr he
 |_=>
  intro c φ k r k' r' e e' ho hK hk hr he
  cases c
  all_goals exact dfl _ hk hr he
theorem endRA_ok {n:Nat} {φ:Ph} {rs:List ResultVar} {k:KA} {K:K1} (hK:KR T w0 φ k K):KDR T w0 φ n (endRA P rs k) (fun js=>endK P rs (rsK K js)):=
 fun js fr S ψ js' fr' w h hle R F _ tk=>resA_ok R F h fun l vs h hl=>dropsA_ok h tk R fun S w h R=>hK _ _ _ _ _ h hle R (oneVA_ok hl)
theorem txtRA_ok (hm:P.follows .mixedOrders=true) {f:FuncId} {fn:Func} (hf:P.funcs[f]? =some fn) (d:Dec) (lvs:Nat→List Nat) (hok:okXN P fn d=true) (hK2:∀c,fn.body=some c→okK T.tab fn.ntmps lvs d c) (hR:f<R0):GS P T f (fun D args S k=>txtRA P T.G D fn d lvs args k S):=by
 refine ⟨hR,fun D hD ph args S k w0 φ w vs K h R ha hK=> ?_⟩
 unfold txtRA at h
 cases hb:fn.body with
 |none=>rw [hb] at h;cases h
 |some c=>
  rw [hb] at h
  unfold okXN at hok
  rw [hb] at hok
  obtain ⟨hl,f1,h,F⟩:=argsT_ok (pre:= []) h ha (Nat.zero_le _) (FR.e _ _)
  simp only [List.nil_append] at hl F
  refine call_of_txtX hm hf d (by unfold okXN;rw [hb];exact hok) hl ?_
  unfold txtX
  rw [hb]
  exact codeRA_ok (T:=T.wi ph) hD d c (nt:=fn.ntmps) hok (hK2 c hb) (endRA_ok hK) (endRA_ok hK) (fun j js fr S ψ rs fr' w h=>by cases h) _ _ _ _ _ _ _ h (Ph.le.refl _) R F (by simp;omega) rfl
end
end Go.Ev
namespace Go.Ev
open Go Go.Sh Go.Proofs Go.Proofs.YtjegifbmbianiaaGreatDoor
noncomputable def devK (S:St) (k:DvA→Bool):Bool:=
 match S.dv with
 |some v=>k v
 |none=>false
theorem devK_ok {S:St} {k:DvA→Bool} (h:devK S k=true):∃v,S.dv=some v∧k v=true:=by
 unfold devK at h
 split at h
 ·exact ⟨_,by assumption,h⟩
 ·cases h
section
variable {T:RT} {w0 w w':World} {S:St} {φ:Ph}
theorem Rel.step (R:Rel T w0 S φ w) {v v':DvA} (hv:S.dv=some v) {Y Y':Lay} {D D':DS} (a:DR w0 φ w v Y D) (hs:(∀id b o N,(S.m.get id).isSome=true→φ id=some (b,o,N)→¬Y.F b)∧∀b X,T.g.fr b=some X→¬Y.F b) (s:Stp w Y w' Y' D') (g:Go.Proofs.YtjegifbmbianiaaGreatDoor.Good D') (o:On D') (hid:v'.id=v.id) (hn:D'.n=v'.n) (hx:D'.exe≤v'.x) (hc:∀j,j<8*D'.n→(v'.t.get j).getD 0=D'.cur j):Rel T w0 ⟨S.m,S.nx,some v'⟩ φ w':=by
 have hfr:∀b,Y'.F b→w0.heap.size≤b:=fun b hb=>by
  rcases s.fr b hb with h|h
  ·exact a.fr b h
  ·exact Nat.le_trans R.ext.size h
 refine ⟨((Frm.of_ext R.ext).trans s.frm (F:=fun _=>False) (fun x hx hF=>by have:=a.fr x hF;omega)).to_ext (fun _ _ h=>h),R.dom,fun id b o N hp=>Nat.lt_of_lt_of_le (R.lt _ _ _ _ hp) s.frm.size,R.gl,?_,R.sep,R.ph,?_,R.top,R.it,fun k X hX=>⟨(s.frm.block k (lt_of_heap (R.fm k X hX).1) (hs.2 k X hX)).trans (R.fm k X hX).1,(R.fm k X hX).2⟩,R.df⟩
 ·intro id B x hB hx
  refine (R.blk id B x hB hx).keep (Ph.le.refl _) (fun b o N hp=>s.frm.block b (R.lt _ _ _ _ hp) (hs.1 id b o N (by rw [hB];rfl) hp)) (fun kk mid l cur eB b o N hp=> ?_)
  subst eB
  obtain ⟨kk',l',q⟩:=R.it _ _ _ _ _ hB
  exact s.frm.block b (R.lt _ _ _ _ hp) (hs.1 mid b o N (by rw [q];rfl) hp)
 ·intro v1 hv1
  cases hv1
  refine ⟨Y',D',⟨s.dv,g,o,hn,hx,hc,hfr,by rw [hid,s.d];exact a.d,fun k hk=>by rw [hid,s.tb];exact a.th k hk,by rw [s.y];exact a.dt,by rw [s.y];exact a.ids⟩,fun id b o N hi hp hF=> ?_,fun b X hX hF=> ?_⟩
  ·rcases s.fr b hF with h|h
   ·exact hs.1 id b o N hi hp h
   ·have:=R.lt _ _ _ _ hp;omega
  ·rcases s.fr b hF with h|h
   ·exact hs.2 b X hX h
   ·have:=lt_of_heap (R.fm b X hX).1;omega
end
noncomputable def gLoad:GA:=fun _ args S k=>
 match args with
 | .cn (.p id 0) (.cn (.i .u64 (.ofNat off)) .nl)=>devK S fun v=>cnd (Nat.beq id (v.id+1)&&(Nat.beq (off%8) 0&&Nat.blt off (v.n*64))) (Tr.gK v.t (off/8) (fun x=>fN x fun x=>k (.i .u64 (.ofNat x)) S) (k (.i .u64 (.ofNat 0)) S))
 |_=>false
noncomputable def gStore:GA:=fun _ args S k=>
 match args with
 | .cn (.p id 0) (.cn (.i .u64 (.ofNat off)) (.cn (.i .u64 (.ofNat x)) .nl))=>devK S fun v=>cnd (Nat.beq id (v.id+1)&&(Nat.beq (off%8) 0&&(Nat.blt off (v.n*64)&&(Nat.blt x 18446744073709551616&&Nat.blt v.x 1000000000)))) (fN (v.x+1) fun c=>fN (off/8) fun o=>Tr.sK o v.t o (some x) fun t=>k (.tu .nl) ⟨S.m,S.nx,some ⟨v.id,v.n,c,t⟩⟩)
 |_=>false
noncomputable def gFlush:GA:=fun _ args S k=>
 match args with
 | .cn (.p id 0) (.cn (.i .u64 (.ofNat off)) .nl)=>devK S fun v=>cnd (Nat.beq id (v.id+1)&&(Nat.blt off (v.n*64)&&Nat.blt v.x 1000000000)) (fN (v.x+1) fun c=>k (.tu .nl) ⟨S.m,S.nx,some ⟨v.id,v.n,c,v.t⟩⟩)
 |_=>false
noncomputable def gFence:GA:=fun _ args S k=>
 match args with
 | .cn (.p id 0) .nl=>devK S fun v=>cnd (Nat.beq id (v.id+1)&&Nat.blt v.x 1000000000) (fN (v.x+1) fun c=>k (.tu .nl) ⟨S.m,S.nx,some ⟨v.id,v.n,c,v.t⟩⟩)
 |_=>false
noncomputable def gTSize:GA:=fun _ args S k=>
 match args with
 | .cn (.p id 0) .nl=>devK S fun v=>cnd (Nat.beq id (v.id+1)) (fN (v.n*64) fun n=>k (.i .u64 (.ofNat n)) S)
 |_=>false
noncomputable def gErr:GA:=fun _ args S k=>
 match args with
 | .cn (.p id 0) .nl=>devK S fun v=>cnd (Nat.beq id (v.id+1)) (k (.i .i64 (.ofNat 0)) S)
 |_=>false
noncomputable def gLines:GA:=fun _ args S k=>
 match args with
 | .cn (.p id 0) .nl=>devK S fun v=>cnd (Nat.beq id v.id) (k (.i .i64 (.ofNat v.n)) S)
 |_=>false
noncomputable def gThread:GA:=fun _ args S k=>
 match args with
 | .cn (.p id 0) (.cn (.i .i64 (.ofNat i)) .nl)=>devK S fun v=>cnd (Nat.beq id v.id&&Nat.blt i 8) (fN (v.id+1+i) fun j=>k (.p j 0) S)
 |_=>false
noncomputable def gID:GA:=fun _ args S k=>
 match args with
 | .cn (.p id 0) .nl=>devK S fun v=>cnd (Nat.beq id (v.id+1)) (k (.i .i64 (.ofNat 0)) S)
 |_=>false
noncomputable def gNew:GA:=fun _ args S k=>
 match args with
 | .cn (.i .i64 (.ofNat n)) .nl=>match S.dv with
  |none=>cnd (Nat.blt 0 n&&Nat.ble n 4096) (fN (S.nx+9) fun nx=>k (.tu (.cn (.p S.nx 0) (.cn (.i .i64 (.ofNat 0)) .nl))) ⟨S.m,nx,some ⟨S.nx,n,0,.e⟩⟩)
  |some _=>false
 |_=>false
section
variable {T:RT}
theorem thr {φ:Ph} {w0 w:World} {S:St} {v:DvA} {Y:Lay} {D:DS} {id:Nat} {x:Value} (a:DR w0 φ w v Y D) (h1:Nat.beq id (v.id+1)=true) (hx:V φ (.p id 0) x):x= .pointer (some ⟨Y.tb 0,0,none⟩):=by
 obtain ⟨b,o,N,hp,rfl⟩:=hx
 have e:=Nat.eq_of_beq_eq_true h1
 have:=a.th 0 (by decide)
 rw [Nat.add_zero,←e,hp] at this
 cases this;rfl
theorem devp {φ:Ph} {w0 w:World} {v:DvA} {Y:Lay} {D:DS} {id:Nat} {x:Value} (a:DR w0 φ w v Y D) (h1:Nat.beq id v.id=true) (hx:V φ (.p id 0) x):x= .pointer (some ⟨Y.d,0,none⟩):=by
 obtain ⟨b,o,N,hp,rfl⟩:=hx
 have e:=Nat.eq_of_beq_eq_true h1
 have:=a.d
 rw [←e,hp] at this
 cases this;rfl
theorem gs_Load:GS prog T 433 gLoad:=by
 refine ⟨by decide,fun D hD ph args S k w0 φ w vs K h R ha hK=> ?_⟩
 unfold gLoad at h
 split at h
 ·rename_i id off
  obtain ⟨x,_,rfl,hx,y,_,rfl,hy,rfl⟩:=ha
  cases hy
  obtain ⟨v,hv,h⟩:=devK_ok h
  obtain ⟨h1,h⟩:=cnd_ok h
  simp only [Bool.and_eq_true,Nat.blt_eq] at h1
  obtain ⟨h1,h2,h3⟩:=h1
  have h2:=Nat.eq_of_beq_eq_true h2
  obtain ⟨Y,Ds,a,hs⟩:=R.dev v hv
  rw [thr (S:=S) a h1 hx]
  show callS prog _ #[_,.int .u64 (off:Int)] w K
  rw [c_Load a.dv a.gd 0 (by decide) a.on.off off h2 (by rw [a.n];exact h3) K]
  have hc:=a.cur (off/8) (by rw [a.n];omega)
  rw [Tr.gK_eq] at h
  cases hg:v.t.get (off/8) with
  |none=>rw [hg] at h hc;rw [←hc];exact hK _ _ _ _ _ h (Ph.le.refl _) R rfl
  |some x=>rw [hg] at h hc;simp only [fN_eq] at h;rw [←hc];exact hK _ _ _ _ _ h (Ph.le.refl _) R rfl
 ·cases h
theorem gs_Store:GS prog T 77 gStore:=by
 refine ⟨by decide,fun D hD ph args S k w0 φ w vs K h R ha hK=> ?_⟩
 unfold gStore at h
 split at h
 ·rename_i id off xv
  obtain ⟨x,_,rfl,hx,y,_,rfl,hy,z,_,rfl,hz,rfl⟩:=ha
  cases hy;cases hz
  obtain ⟨v,hv,h⟩:=devK_ok h
  obtain ⟨h1,h⟩:=cnd_ok h
  simp only [Bool.and_eq_true,Nat.blt_eq] at h1
  obtain ⟨h1,h2,h3,h4,h5⟩:=h1
  have h2:=Nat.eq_of_beq_eq_true h2
  obtain ⟨Y,Ds,a,hs⟩:=R.dev v hv
  have hx':=a.x
  have hn:=a.n
  rw [thr (S:=S) a h1 hx]
  show callS prog _ #[_,.int .u64 (off:Int),.int .u64 (xv:Int)] w K
  simp only [fN_eq] at h
  rw [Tr.sK_eq] at h
  have ho:vOff Ds off=true:=by unfold vOff;simp only [Bool.and_eq_true,decide_eq_true_eq];exact ⟨h2,by rw [a.n];exact h3⟩
  refine k_Store a.dv a.gd 0 (by decide) off xv oM K (fun w' Y' s=> ?_)
  have e1:=a.on.store off xv ho
  refine hK _ _ _ _ _ h (Ph.le.refl _) (R.step hv a hs s (a.gd.store 0 off xv h4) (a.on.storeOn off xv ho) rfl (by rw [e1];exact a.n) (by rw [e1];show Ds.exe+1≤_;simp only;omega) (fun j hj=> ?_)) ⟨#[],rfl,rfl⟩
  rw [a.on.storeCur off xv ho]
  rw [e1] at hj
  have:=Tr.get_set v.t (off/8) (some xv) j
  unfold Tr.set at this
  simp only
  rw [this]
  split
  ·rfl
  ·exact a.cur j hj
 ·cases h
theorem gs_Flush:GS prog T 432 gFlush:=by
 refine ⟨by decide,fun D hD ph args S k w0 φ w vs K h R ha hK=> ?_⟩
 unfold gFlush at h
 split at h
 ·rename_i id off
  obtain ⟨x,_,rfl,hx,y,_,rfl,hy,rfl⟩:=ha
  cases hy
  obtain ⟨v,hv,h⟩:=devK_ok h
  obtain ⟨h1,h⟩:=cnd_ok h
  simp only [Bool.and_eq_true,Nat.blt_eq] at h1
  obtain ⟨h1,h3,h5⟩:=h1
  obtain ⟨Y,Ds,a,hs⟩:=R.dev v hv
  have hx':=a.x
  have hn:=a.n
  rw [thr (S:=S) a h1 hx]
  show callS prog _ #[_,.int .u64 (off:Int)] w K
  simp only [fN_eq] at h
  have ho:fOff Ds off=true:=by unfold fOff;simp only [decide_eq_true_eq];rw [a.n];exact h3
  refine k_Flush a.dv a.gd 0 (by decide) off oM K (fun w' s=> ?_)
  have e1:=a.on.flush off ho
  refine hK _ _ _ _ _ h (Ph.le.refl _) (R.step hv a hs s (a.gd.flush 0 off) (a.on.flushOn off ho) rfl (by rw [e1];exact a.n) (by rw [e1];show Ds.exe+1≤_;simp only;omega) (fun j hj=> ?_)) ⟨#[],rfl,rfl⟩
  rw [a.on.flushCur off ho]
  rw [e1] at hj
  exact a.cur j hj
 ·cases h
theorem gs_Fence:GS prog T 431 gFence:=by
 refine ⟨by decide,fun D hD ph args S k w0 φ w vs K h R ha hK=> ?_⟩
 unfold gFence at h
 split at h
 ·rename_i id
  obtain ⟨x,_,rfl,hx,rfl⟩:=ha
  obtain ⟨v,hv,h⟩:=devK_ok h
  obtain ⟨h1,h⟩:=cnd_ok h
  simp only [Bool.and_eq_true,Nat.blt_eq] at h1
  obtain ⟨h1,h5⟩:=h1
  obtain ⟨Y,Ds,a,hs⟩:=R.dev v hv
  have hx':=a.x
  have hn:=a.n
  rw [thr (S:=S) a h1 hx]
  simp only [fN_eq] at h
  refine k_Fence a.dv a.gd 0 (by decide) oM K (fun w' Y' s=> ?_)
  have e1:=a.on.fence
  refine hK _ _ _ _ _ h (Ph.le.refl _) (R.step hv a hs s (a.gd.fence 0 (by decide)) a.on.fenceOn rfl (by rw [e1];exact a.n) (by rw [e1];show Ds.exe+1≤_;simp only;omega) (fun j hj=> ?_)) ⟨#[],rfl,rfl⟩
  rw [a.on.fenceCur]
  rw [e1] at hj
  exact a.cur j hj
 ·cases h
theorem gs_TSize:GS prog T 434 gTSize:=by
 refine ⟨by decide,fun D hD ph args S k w0 φ w vs K h R ha hK=> ?_⟩
 unfold gTSize at h
 split at h
 ·obtain ⟨x,_,rfl,hx,rfl⟩:=ha
  obtain ⟨v,hv,h⟩:=devK_ok h
  obtain ⟨h1,h⟩:=cnd_ok h
  obtain ⟨Y,Ds,a,hs⟩:=R.dev v hv
  rw [thr (S:=S) a h1 hx,c_TSize a.dv a.gd 0 (by decide) K,a.n]
  simp only [fN_eq] at h
  exact hK _ _ _ _ _ h (Ph.le.refl _) R rfl
 ·cases h
theorem gs_Err:GS prog T 127 gErr:=by
 refine ⟨by decide,fun D hD ph args S k w0 φ w vs K h R ha hK=> ?_⟩
 unfold gErr at h
 split at h
 ·obtain ⟨x,_,rfl,hx,rfl⟩:=ha
  obtain ⟨v,hv,h⟩:=devK_ok h
  obtain ⟨h1,h⟩:=cnd_ok h
  obtain ⟨Y,Ds,a,hs⟩:=R.dev v hv
  rw [thr (S:=S) a h1 hx,c_Err a.dv 0 (by decide) K,a.on.err]
  exact hK _ _ _ _ _ h (Ph.le.refl _) R rfl
 ·cases h
theorem gs_Lines:GS prog T 284 gLines:=by
 refine ⟨by decide,fun D hD ph args S k w0 φ w vs K h R ha hK=> ?_⟩
 unfold gLines at h
 split at h
 ·obtain ⟨x,_,rfl,hx,rfl⟩:=ha
  obtain ⟨v,hv,h⟩:=devK_ok h
  obtain ⟨h1,h⟩:=cnd_ok h
  obtain ⟨Y,Ds,a,hs⟩:=R.dev v hv
  rw [devp a h1 hx,c_Lines a.dv K,a.n]
  exact hK _ _ _ _ _ h (Ph.le.refl _) R rfl
 ·cases h
theorem gs_Thread:GS prog T 68 gThread:=by
 refine ⟨by decide,fun D hD ph args S k w0 φ w vs K h R ha hK=> ?_⟩
 unfold gThread at h
 split at h
 ·rename_i id i
  obtain ⟨x,_,rfl,hx,y,_,rfl,hy,rfl⟩:=ha
  cases hy
  obtain ⟨v,hv,h⟩:=devK_ok h
  obtain ⟨h1,h⟩:=cnd_ok h
  simp only [Bool.and_eq_true,Nat.blt_eq] at h1
  obtain ⟨Y,Ds,a,hs⟩:=R.dev v hv
  rw [devp a h1.1 hx]
  show callS prog _ #[_,.int .i64 (i:Int)] w K
  rw [c_Thread a.dv i h1.2 K,a.dt]
  simp only [fN_eq] at h
  exact hK _ _ _ _ _ h (Ph.le.refl _) R ⟨_,_,_,a.th i h1.2,rfl⟩
 ·cases h
theorem cc_ID {w:World} {Y:Lay} {D:DS} (h:Dv w Y D) (k:Nat) (hk:k<8) (K:K1):callS prog 126 #[.pointer (some ⟨Y.tb k,0,none⟩)] w K=K (.int .i64 (Y.ids k:Int)) w:=by
 have c:=h.c_tid k hk
 refine callS_det (by kernel_rfl) (f126_call _ _ _ ?_) K
 unfold f126_t
 (repeat' (first|(with_reducible first|refine brS_mk (fun _=> ?_) (fun _=> ?_)|refine And.intro ?_ ?_)|(simp (disch:=try exact dZ) only [↓RBp,↓RA,↓reduceIte,Nat.reduceAdd,Nat.reduceMul,Nat.reduceEqDiff,RB,RX,RA2,h.R,c])))
theorem gs_ID:GS prog T 126 gID:=by
 refine ⟨by decide,fun D hD ph args S k w0 φ w vs K h R ha hK=> ?_⟩
 unfold gID at h
 split at h
 ·obtain ⟨x,_,rfl,hx,rfl⟩:=ha
  obtain ⟨v,hv,h⟩:=devK_ok h
  obtain ⟨h1,h⟩:=cnd_ok h
  obtain ⟨Y,Ds,a,hs⟩:=R.dev v hv
  rw [thr (S:=S) a h1 hx,cc_ID a.dv 0 (by decide) K,a.ids]
  exact hK _ _ _ _ _ h (Ph.le.refl _) R rfl
 ·cases h
theorem gs_New:GS prog T 67 gNew:=by
 refine ⟨by decide,fun D hD ph args S k w0 φ w vs K h R ha hK=> ?_⟩
 unfold gNew at h
 split at h
 ·rename_i n
  obtain ⟨y,_,rfl,hy,rfl⟩:=ha
  cases hy
  split at h
  ·rename_i hdv
   obtain ⟨h1,h⟩:=cnd_ok h
   simp only [Bool.and_eq_true,Nat.blt_eq] at h1
   obtain ⟨h0,h4⟩:=h1
   have h4:=Nat.le_of_ble_eq_true h4
   simp only [fN_eq] at h
   show callS prog _ #[.int .i64 (n:Int)] w K
   refine k_New n h0 h4 K (fun w' Y e d hF hY=> ?_)
   have hnone:∀j,S.nx≤j→φ j=none:=fun j hj=>by
    cases e:φ j with
    |none=>rfl
    |some x=>have:=R.dom _ _ e;omega
   obtain ⟨ψ,hψ⟩:∃ψ:Ph,ψ=fun j=>if S.nx≤j∧j<S.nx+9 then (if j=S.nx then some (Y.d,0,0) else some (Y.tb (j-S.nx-1),0,0)) else φ j:=⟨_,rfl⟩
   have hle:φ.le ψ:=fun j x hj=>by
    have:=R.dom _ _ hj
    rw [hψ];simp only;rw [if_neg oM];exact hj
   have hin:∀j b o N,ψ j=some (b,o,N)→(j<S.nx∧φ j=some (b,o,N))∨(j<S.nx+9∧S.nx≤j∧w.heap.size≤b∧b<w'.heap.size):=fun j b o N hj=>by
    rw [hψ] at hj
    simp only at hj
    split at hj
    ·rename_i hjj
     split at hj
     ·cases hj;exact .inr ⟨hjj.2,hjj.1,hF _ ⟨.dev,rfl⟩,d.lt ⟨.dev,rfl⟩⟩
     ·cases hj
      have hk:j-S.nx-1<8:=oM
      have hb:Y.F (Y.tb (j-S.nx-1)):=⟨.th (j-S.nx-1),by simp [Lay.blk,hk]⟩
      exact .inr ⟨hjj.2,hjj.1,hF _ hb,d.lt hb⟩
    ·exact .inl ⟨R.dom _ _ hj,hj⟩
   have live:∀j,(S.m.get j).isSome=true→j<S.nx:=fun j hj=>Nat.lt_of_not_le fun hl=>by rw [R.top j hl] at hj;cases hj
   refine hK _ _ _ _ _ h hle ⟨R.ext.trans e,?_,?_,fun g hg=>by obtain ⟨N,q⟩:=R.gl g hg;exact ⟨N,hle _ _ q⟩,?_,?_,?_,?_,fun j hj=>R.top j (by have:S.nx+9≤j:=hj;omega),R.it,fun k X hX=>⟨(e.blk k (lt_of_heap (R.fm k X hX).1)).trans (R.fm k X hX).1,fun j oj Nj hj hp=> ?_⟩,fun j hj=>by obtain ⟨x,hx⟩:=Option.isSome_iff_exists.1 (R.df j hj);rw [hle _ _ hx];rfl⟩ ⟨_,rfl,.pointer (some ⟨Y.d,0,none⟩),[.int .i64 0],rfl,⟨Y.d,0,0,by rw [hψ];simp,rfl⟩,_,_,rfl,rfl,rfl⟩
   ·intro j x hj
    obtain ⟨b,o,N⟩:=x
    show j<S.nx+9
    rcases hin j b o N hj with h|h<;>omega
   ·intro j b o N hj
    rcases hin j b o N hj with h|h
    ·exact Nat.lt_of_lt_of_le (R.lt _ _ _ _ h.2) e.size
    ·exact h.2.2.2
   ·intro id B x hB hx
    obtain ⟨b,o,N⟩:=x
    have hl:=live id (by show (S.m.get id).isSome=true;rw [hB];rfl)
    rcases hin id b o N hx with h|h
    ·exact (R.blk id B _ hB h.2).keep hle (fun b o N hp=>e.blk b (R.lt _ _ _ _ hp)) (fun _ _ _ _ _ b o N hp=>e.blk b (R.lt _ _ _ _ hp))
    ·omega
   ·intro i j bi oi Ni bj oj Nj hij hi hj pi pj
    have li:=live i hi
    have lj:=live j hj
    rcases hin i _ _ _ pi with h|h
    ·rcases hin j _ _ _ pj with h'|h'
     ·exact R.sep i j _ _ _ _ _ _ hij hi hj h.2 h'.2
     ·omega
    ·omega
   ·intro id hp
    obtain ⟨a,c,d⟩:=R.ph id hp
    exact ⟨a,by rw [hψ];simp only;rw [if_neg oM];exact c,by show id<S.nx+9;omega⟩
   ·intro v hv
    cases hv
    refine ⟨Y,DS.zero n,⟨d,Good.zero n h0 h4,On.zero n,rfl,Nat.le_refl _,fun j hj=> ?_,fun b hb=>Nat.le_trans R.ext.size (hF b hb),by rw [hψ];simp,fun k hk=> ?_,hY.1,hY.2 0⟩,fun id b o N hi hp hF2=> ?_,fun b X hX hF2=>by have:=lt_of_heap (R.fm b X hX).1;have:=hF b hF2;omega⟩
    ·rw [Tr.get_e,zero_cur];rfl
    ·rw [hψ]
     simp only
     rw [if_pos oM,if_neg oM,show S.nx+1+k-S.nx-1=k by omega]
    ·have li:=live id hi
     rcases hin id _ _ _ hp with h|h
     ·have:=R.lt _ _ _ _ h.2
      have:=hF b hF2
      omega
     ·omega
   ·have hl:=live j hj
    rcases hin j _ _ _ hp with h|h
    ·exact (R.fm k X hX).2 j _ _ hj h.2
    ·omega
  ·cases h
 ·cases h
end
noncomputable def natsK:AV→(List Nat→Bool)→Bool
 | .cn (.i .u64 (.ofNat n)) t,k=>natsK t fun l=>k (n::l)
 | .nl,k=>k []
 |_,_=>false
noncomputable def insN (a:Nat):List Nat→List Nat
 | []=> [a]
 |b::l=>match Nat.ble a b with
  |true=>a::b::l
  |false=>b::insN a l
noncomputable def sortN:List Nat→List Nat
 | []=> []
 |a::l=>insN a (sortN l)
noncomputable def numsA:List Nat→(AV→Bool)→Bool
 | [],k=>k .nl
 |a::l,k=>fN a fun a=>numsA l fun t=>k (.cn (.i .u64 (.ofNat a)) t)
noncomputable def gSort:GA:=fun _ args S k=>
 match args with
 | .cn (.sl id off len _ _ sz) .nl=>cnd (Nat.beq sz 1&&(Nat.beq off 0&&(Nat.blt 0 len&&Nat.ble len 1000000))) (blkK S id fun ro e n d x=>cnd (!ro&&(Nat.beq e 41&&Nat.beq len n)) (cellsK d x len 0 fun l=>natsK l fun l=>numsA (sortN l) fun l=>setsK l x 0 fun x=>putB S id (some (.c false e n d x)) fun S=>k (.tu .nl) S))
 |_=>false
noncomputable def gGrow:GA:=fun _ args S k=>
 match args with
 | .cn .s0 (.cn (.i .i64 (.ofNat m)) .nl)=>cnd (Nat.blt 0 m&&Nat.blt m 1000000) (newB S (.c false 315 0 .u .e) fun j S=>k (.sl j 0 0 0 false 3) S)
 |_=>false
noncomputable def valN (n:Nat):Value:= .int .u64 (n:Int)
section
variable {T:RT}
theorem natsK_ok {φ:Ph} {k:List Nat→Bool}:∀{a:AV} {l:List Value},natsK a k=true→L φ a l→∃ns,k ns=true∧l=ns.map valN:=by
 have:∀(a:AV) {k:List Nat→Bool} {l:List Value},natsK a k=true→L φ a l→∃ns,k ns=true∧l=ns.map valN:=by
  intro a
  induction a with
  |nl=>intro k l h hl;cases hl;exact ⟨[],h,rfl⟩
  |cn x t ix ih=>
   clear ix
   rintro k l h ⟨y,ys,rfl,hy,hl⟩
   cases x<;>first|(cases h;done)|skip
   rename_i kk n
   cases kk<;>first|(cases h;done)|skip
   cases n<;>first|(cases h;done)|skip
   rename_i n
   obtain ⟨ns,h1,rfl⟩:=ih h hl
   cases hy
   exact ⟨n::ns,h1,rfl⟩
  |_=>intro k l h hl;exact hl.elim
 intro a l;exact this a
theorem insN_perm (a:Nat):∀l:List Nat,(insN a l).Perm (a::l):=by
 intro l
 induction l with
 |nil=>exact List.Perm.refl _
 |cons b l ih=>
  unfold insN
  split
  ·exact List.Perm.refl _
  ·exact (List.Perm.cons b ih).trans (List.Perm.swap a b l)
theorem sortN_perm:∀l:List Nat,(sortN l).Perm l:=by
 intro l
 induction l with
 |nil=>exact List.Perm.refl _
 |cons a l ih=>exact (insN_perm a _).trans (List.Perm.cons a ih)
theorem insN_sorted (a:Nat):∀l:List Nat,l.Pairwise (·≤·)→(insN a l).Pairwise (·≤·):=by
 intro l
 induction l with
 |nil=>intro _;simp [insN]
 |cons b l ih=>
  intro h
  have h':=h
  rw [List.pairwise_cons] at h
  unfold insN
  split
  ·rename_i e
   have:=Nat.le_of_ble_eq_true e
   rw [List.pairwise_cons]
   refine ⟨fun x hx=> ?_,h'⟩
   rcases List.mem_cons.1 hx with rfl|hx
   ·exact this
   ·exact Nat.le_trans this (h.1 x hx)
  ·rename_i e
   have hn:¬a≤b:=fun h=>by rw [Nat.ble_eq_true_of_le h] at e;cases e
   rw [List.pairwise_cons]
   refine ⟨fun x hx=> ?_,ih h.2⟩
   rcases List.mem_cons.1 ((insN_perm a l).mem_iff.1 hx) with rfl|hx
   ·omega
   ·exact h.1 x hx
theorem sortN_sorted:∀l:List Nat,(sortN l).Pairwise (·≤·):=by
 intro l
 induction l with
 |nil=>exact List.Pairwise.nil
 |cons a l ih=>exact insN_sorted a _ ih
theorem sortN_eq (l:List Nat):(Go.Sort.sort ltN l.toArray).toList=sortN l:=by
 have h1:=srtN_perm l
 have h2:(srtN l).Pairwise (·≤·):=by
  have h:=(Go.Sort.sort_sorts ltN ltN_swo l.toArray).2
  have hs:=sort_size l.toArray
  rw [List.pairwise_iff_getElem]
  intro i j hi hj hij
  have:=h i j (Nat.zero_le _) hij (by simpa [srtN,hs] using hj)
  simp only [ltN,decide_eq_false_iff_not,Nat.not_lt] at this
  unfold srtN at hi hj ⊢
  rw [getElem!_pos _ _ (by simpa using hi),getElem!_pos _ _ (by simpa using hj)] at this
  simpa using this
 exact List.Perm.eq_of_pairwise (fun a b _ _ h g=>Nat.le_antisymm h g) h2 (sortN_sorted l) (h1.trans (sortN_perm l).symm)
theorem numsA_ok {φ:Ph} {k:AV→Bool}:∀{l:List Nat},numsA l k=true→∃a,k a=true∧L φ a (l.map valN):=by
 have:∀(l:List Nat) {k:AV→Bool},numsA l k=true→∃a,k a=true∧L φ a (l.map valN):=by
  intro l
  induction l with
  |nil=>intro k h;exact ⟨.nl,h,rfl⟩
  |cons n l ih=>
   intro k h
   unfold numsA at h
   rw [fN_eq] at h
   obtain ⟨a,h1,h2⟩:=ih h
   exact ⟨_,h1,_,_,rfl,rfl,h2⟩
 intro l;exact this l
theorem gs_Sort:GS prog T 232 gSort:=by
 refine ⟨of_decide_eq_true (by kernel_rfl),fun D hD ph args S k w0 φ w vs K h R ha hK=> ?_⟩
 unfold gSort at h
 split at h
 ·rename_i id off len lo ex sz
  obtain ⟨v,_,rfl,hv,hn⟩:=ha
  cases hn
  obtain ⟨h1,h9⟩:=cnd_ok h
  clear h
  simp only [Bool.and_eq_true,Nat.blt_eq] at h1
  obtain ⟨e1,e2,hl0,hl1⟩:=h1
  have e1:=Nat.eq_of_beq_eq_true e1
  have e2:=Nat.eq_of_beq_eq_true e2
  have hl1:=Nat.le_of_ble_eq_true hl1
  subst e1;subst e2
  obtain ⟨ro,e,n,d,x,hb,h8⟩:=blkK_ok h9
  clear h9
  obtain ⟨h2,h7⟩:=cnd_ok h8
  clear h8
  simp only [Bool.and_eq_true,Bool.not_eq_true'] at h2
  obtain ⟨r1,q1,q2⟩:=h2
  have q1:=Nat.eq_of_beq_eq_true q1
  have q2:=Nat.eq_of_beq_eq_true q2
  subst r1;subst q1;subst q2
  obtain ⟨⟨g1,gz⟩,b,o,N,c,a,hp,rfl,gm,g2,g3,g4⟩:=hv
  rcases g4 with ⟨q,q'⟩|⟨rfl,g5,g6⟩
  ·omega
  have hB:=R.blk _ _ _ hb hp
  obtain ⟨xs,l1,l2,l3,l4⟩:=hB.cells hp len 0 oM
  obtain ⟨l,h6,hl⟩:=cellsK_ok h7 l2 l4
  clear h7
  obtain ⟨ns,h5,rfl⟩:=natsK_ok h6 hl
  obtain ⟨l',h4,hl'⟩:=numsA_ok (φ:=φ) h5
  obtain ⟨x',h3,s1,s2⟩:=setsK_ok (d:=d) h4 hl'
  rw [putB_eq] at h3
  obtain ⟨b',o',N',ar,p1,p2,p3,p4,p5,p6⟩:=hB
  rw [hp] at p1;cases p1
  have hns:ns.length=len:=by simpa using l2
  subst hns
  have hrow:=cells_row p2 _ _ _ l1
  have har:Ar w b (o+0) ns.toArray:=⟨ar,p2,by simp;omega,fun i hi=>by
   simp only [List.size_toArray] at hi
   have:=hrow i (valN ns[i]) (by simp [hi])
   rw [this]
   simp [valN,hi]⟩
  refine k_Sort (cap:=c) har (by simp;omega) _ (fun w' sw hz=> ?_)
  obtain ⟨a',t1,t2,t3⟩:=sw.oth ar _ p2
  obtain ⟨a2,u1,u2,u3⟩:=sw.ar
  rw [t1] at u1
  simp only [Option.some.injEq,Obj.cells.injEq] at u1
  obtain ⟨rfl,_⟩:=u1
  have hsz:(Go.Sort.sort ltN ns.toArray).size=ns.length:=by rw [hz];simp
  have hle:(sortN ns).length=ns.length:=(sortN_perm ns).length_eq
  refine hK _ _ _ _ _ h3 (Ph.le.refl _) (R.mod hb hp (p5 rfl) sw.frm ⟨b,o,N,a',hp,t1,p3,by omega,p5,fun i hi=> ?_⟩) ⟨#[],rfl,rfl⟩
  have hv:=u3 i oM
  refine ⟨_,hv,?_,rfl⟩
  have hs:(sortN ns)[i]? =some ((Go.Sort.sort ltN ns.toArray)[i]!):=by
   rw [←sortN_eq,Array.getElem?_toList,getElem!_pos _ i oM]
   exact Array.getElem?_eq_getElem oM
  have:=s1 i (valN ((Go.Sort.sort ltN ns.toArray)[i]!)) (by rw [List.getElem?_map,hs];rfl)
  rwa [Nat.zero_add] at this
 ·cases h
theorem gs_Grow:GS prog T 331 gGrow:=by
 refine ⟨of_decide_eq_true (by kernel_rfl),fun D hD ph args S k w0 φ w vs K h R ha hK=> ?_⟩
 unfold gGrow at h
 split at h
 ·rename_i m
  obtain ⟨v,_,rfl,hv,u,_,rfl,hu,hn⟩:=ha
  cases hn;cases hv;cases hu
  obtain ⟨h1,h⟩:=cnd_ok h
  simp only [Bool.and_eq_true,Nat.blt_eq] at h1
  rw [newB_eq] at h
  refine k_Grow m h1.1 oM _ (fun c w' he hs hc=> ?_)
  obtain ⟨_,hs⟩:=hs
  rcases hs with ⟨e,_⟩|⟨b,o,cap,a,e,hh,h2,h3,h4⟩
  ·cases e
  ·cases e
   have hle:=R.le (w.heap.size,0,c*3)
   refine hK _ _ _ _ _ h hle (R.new he (Nat.le_refl _) (lt_of_heap hh) ⟨_,_,_,a,Ph.put_self _ _ _,hh,Nat.zero_le _,by omega,fun _=>R.ext.size,fun i hi=>absurd hi (Nat.not_lt_zero _)⟩) ⟨⟨Nat.le_refl _,by omega⟩,_,_,_,c,_,Ph.put_self _ _ _,rfl,by omega,Nat.zero_le _,(fun e=>by cases e),.inr ⟨rfl,by omega,fun _=>by omega⟩⟩
 ·cases h
end
noncomputable def keepV (v:AV) (j:Nat):Bool:=
 match v with
 | .sl id _ _ _ _ _=>Nat.beq id j
 | .p id _=>Nat.beq id j
 |_=>false
noncomputable def gcN (keep:Nat→Bool) (n j:Nat) (S:St) (k:St→Bool):Bool:=
 @Nat.rec (fun _=>Nat→St→Bool) (fun _ S=>k S) (fun _ ih j S=>match keep j with
  |true=>ih (j+1) S
  |false=>Tr.gK S.m j (fun B=>cnd (nfz B) (putB S j none fun S=>ih (j+1) S)) (ih (j+1) S)) n j S
noncomputable def gcG (g:GA):GA:=fun D args S k=>g D args S fun v S'=>fV v fun v=>gcN (keepV v) (S'.nx-S.nx) S.nx S' fun S=>nst (k v S)
section
variable {P:Program} {T:RT} {w0 w:World} {φ:Ph}
theorem gcN_ok {keep:Nat→Bool} {k:St→Bool}:∀{n j:Nat} {S:St},gcN keep n j S k=true→Rel T w0 S φ w→∃S',k S'=true∧Rel T w0 S' φ w:=by
 intro n
 induction n with
 |zero=>intro j S h R;exact ⟨S,h,R⟩
 |succ n ih=>
  intro j S h R
  have h:(match keep j with
   |true=>gcN keep n (j+1) S k
   |false=>Tr.gK S.m j (fun B=>cnd (nfz B) (putB S j none fun S=>gcN keep n (j+1) S k)) (gcN keep n (j+1) S k))=true:=h
  split at h
  ·exact ih h R
  ·rw [Tr.gK_eq] at h
   cases hg:S.m.get j with
   |none=>rw [hg] at h;exact ih h R
   |some B=>
    rw [hg] at h
    obtain ⟨h1,h2⟩:=cnd_ok h
    rw [putB_eq] at h2
    exact ih h2 (R.del j (fun B' hB=>by rw [hg] at hB;cases hB;exact h1))
theorem gcG_ok {f:Nat} {g:GA} (h:GS P T f g):GS P T f (gcG g):=by
 refine ⟨h.1,fun D hD ph args S k w0 φ w vs K h1 R ha hK=>h.2 D hD ph args S _ w0 φ w vs K h1 R ha (fun v S' ψ w' u h2 hle R' hv=> ?_)⟩
 simp only [fV_eq] at h2
 obtain ⟨S2,h3,R2⟩:=gcN_ok h2 R'
 have h3:k v S2=true:=by revert h3;cases k v S2<;>exact id
 exact hK _ _ _ _ _ h3 hle R2 hv
theorem intG_ok (hm:P.follows .mixedOrders=true) (f:Nat) (hf:f<R0):GS P T f (fun D args S k=>intF P T.G D f args S k):=by
 refine ⟨hf,fun D hD ph args S k w0 φ w vs K h R ha hK=> ?_⟩
 unfold intF at h
 split at h
 ·rename_i fn hfn
  obtain ⟨h1,h⟩:=cnd_ok h
  simp only [Bool.and_eq_true] at h1
  exact txtA_ok hm hfn h1.1 hD h R ha hK
 ·cases h
end
abbrev RFL:=Array Tmp×Code×Code
noncomputable def rfAt:Dec→Code→Nat→Option RFL
 | .l lm _ _ _,.rangeFunc _ ps a b,key=>match lm with
  | [k]=>match Nat.beq k key with
   |true=>some (ps,a,b)
   |false=>none
  |_=>none
 | .s da db,.seq a b,key=>match rfAt da a key with
  |some r=>some r
  |none=>rfAt db b key
 | .s da db,.cond _ a b,key=>match rfAt da a key with
  |some r=>some r
  |none=>rfAt db b key
 | .b d,.block _ c,key=>rfAt d c key
 |_,_,_=>none
noncomputable def keysD:Dec→List Nat
 | .l lm _ _ _=>lm
 | .s a b=>keysD a++keysD b
 | .b d=>keysD d
 |_=> []
noncomputable def fullR (nt:Nat) (lvs:Nat→List Nat) (key:Nat):Option RFL→Option (Array Tmp×Code×Code×Nat×List Nat)
 |some r=>some (r.1,r.2.1,r.2.2,nt,lvs key)
 |none=>none
theorem rfAt_none {key:Nat}:∀(d:Dec) (c:Code),key∉keysD d→rfAt d c key=none:=by
 intro d
 induction d with
 |s da db iha ihb=>
  intro c h
  simp only [keysD,List.mem_append,not_or] at h
  cases c<;>first|rfl|simp only [rfAt,iha _ h.1,ihb _ h.2]
 |b d ih=>
  intro c h
  cases c<;>first|rfl|exact ih _ h
 |l lm keep wr d ih=>
  intro c h
  simp only [keysD] at h
  cases c<;>first|rfl|skip
  simp only [rfAt]
  split
  ·rename_i k
   have:Nat.beq k key=false:=by
    cases e:Nat.beq k key with
    |false=>rfl
    |true=>have:=Nat.eq_of_beq_eq_true e;subst this;simp at h
   rw [this]
  ·rfl
 |_=>intro c h;cases c<;>rfl
noncomputable def okMarks:Dec→Code→Bool
 | .l lm _ _ _,.rangeFunc _ _ _ _=>match lm with
  | [_]=>true
  |_=>false
 | .s da db,.seq a b=>okMarks da a&&okMarks db b
 | .s da db,.cond _ a b=>okMarks da a&&okMarks db b
 | .b d,.block _ c=>okMarks d c
 |_,_=>true
theorem okK_of {tab:Nat→Option (Array Tmp×Code×Code×Nat×List Nat)} {nt:Nat} {lvs:Nat→List Nat}:∀(d:Dec) (c:Code),okMarks d c=true→(∀key∈keysD d,tab key=fullR nt lvs key (rfAt d c key))→(keysD d).Nodup→okK tab nt lvs d c:=by
 have two:∀(da db:Dec) (a b:Code) (key:Nat),(keysD da++keysD db).Nodup→(key∈keysD da→(match rfAt da a key with
  |some r=>some r
  |none=>rfAt db b key)=rfAt da a key)∧(key∈keysD db→(match rfAt da a key with
  |some r=>some r
  |none=>rfAt db b key)=rfAt db b key):=by
  intro da db a b key hn
  rw [List.nodup_append] at hn
  refine ⟨fun h=> ?_,fun h=> ?_⟩
  ·have:=rfAt_none db b (fun h2=>hn.2.2 key h key h2 rfl)
   cases e:rfAt da a key with
   |none=>exact this
   |some r=>rfl
  ·have:=rfAt_none da a (fun h2=>hn.2.2 key h2 key h rfl)
   rw [this]
 intro d
 induction d with
 |s da db iha ihb=>
  intro c hm hk hn
  simp only [keysD] at hn
  have hn':=List.nodup_append.1 hn
  cases c
  case seq a b=>
   simp only [okMarks,Bool.and_eq_true] at hm
   refine ⟨iha a hm.1 (fun key h=> ?_) hn'.1,ihb b hm.2 (fun key h=> ?_) hn'.2.1⟩
   ·rw [hk key (List.mem_append_left _ h)]
    exact congrArg _ ((two da db a b key hn).1 h)
   ·rw [hk key (List.mem_append_right _ h)]
    exact congrArg _ ((two da db a b key hn).2 h)
  case cond x a b=>
   simp only [okMarks,Bool.and_eq_true] at hm
   refine ⟨iha a hm.1 (fun key h=> ?_) hn'.1,ihb b hm.2 (fun key h=> ?_) hn'.2.1⟩
   ·rw [hk key (List.mem_append_left _ h)]
    exact congrArg _ ((two da db a b key hn).1 h)
   ·rw [hk key (List.mem_append_right _ h)]
    exact congrArg _ ((two da db a b key hn).2 h)
  all_goals exact trivial
 |b d ih=>
  intro c hm hk hn
  cases c
  case block id c=>exact ih c hm hk hn
  all_goals exact trivial
 |l lm keep wr d ih=>
  intro c hm hk hn
  cases c
  case rangeFunc g ps a b=>
   simp only [okMarks] at hm
   split at hm
   ·rename_i k
    have:=hk k (by simp [keysD])
    show tab k=some (ps,a,b,nt,lvs k)
    rw [this]
    simp [rfAt,fullR]
   ·cases hm
  all_goals exact trivial
 |_=>intro c hm hk hn;cases c<;>exact trivial
noncomputable def tabP (P:Program) (decs:Nat→Dec) (lvs:Nat→List Nat) (key:Nat):Option (Array Tmp×Code×Code×Nat×List Nat):=
 match P.funcs[key/8]? with
 |some fn=>match fn.body with
  |some c=>fullR fn.ntmps lvs key (rfAt (decs (key/8)) c key)
  |none=>none
 |none=>none
noncomputable def okRF (P:Program) (decs:Nat→Dec) (f:Nat):Bool:=
 match P.funcs[f]? with
 |some fn=>match fn.body with
  |some c=>okXN P fn (decs f)&&(okMarks (decs f) c&&((keysD (decs f)).all (fun k=>Nat.beq (k/8) f)&&(decide (keysD (decs f)).Nodup&&Nat.blt f R0)))
  |none=>false
 |none=>false
noncomputable def rfG (P:Program) (G:Nat) (decs:Nat→Dec) (lvs:Nat→List Nat) (f:Nat):GA:=fun D args S k=>
 match P.funcs[f]? with
 |some fn=>txtRA P G D fn (decs f) lvs args k S
 |none=>false
noncomputable def rndG (P:Program) (G:Nat) (decs:Nat→Dec) (lvs:Nat→List Nat) (key:Nat):GA:=fun D args S k=>
 match tabP P decs lvs key with
 |some (ps,a,b,nt,lv)=>cnd (codeOk P nt a&&codeOk P nt b) (rndA P G D ps.toList a b nt lv args S k)
 |none=>false
section
variable {P:Program} {T:RT} {decs:Nat→Dec} {lvs:Nat→List Nat}
theorem rfG_ok (hm:P.follows .mixedOrders=true) (ht:T.tab=tabP P decs lvs) {f:Nat} (h:okRF P decs f=true):GS P T f (rfG P T.G decs lvs f):=by
 unfold okRF at h
 split at h
 ·rename_i fn hf
  split at h
  ·rename_i c hc
   simp only [Bool.and_eq_true,Nat.blt_eq,decide_eq_true_eq,List.all_eq_true] at h
   obtain ⟨h1,h2,h3,h4,h5⟩:=h
   have:=txtRA_ok (T:=T) hm hf (decs f) lvs h1 (fun c' hc'=>by
    rw [hc] at hc'
    cases hc'
    refine okK_of _ _ h2 (fun key hk=> ?_) h4
    have e:=Nat.eq_of_beq_eq_true (h3 key hk)
    rw [ht]
    unfold tabP
    rw [e,hf]
    simp only
    rw [hc]) h5
   have e:rfG P T.G decs lvs f=fun D args S k=>txtRA P T.G D fn (decs f) lvs args k S:=by
    unfold rfG
    rw [hf]
   rw [e]
   exact this
  ·cases h
 ·cases h
theorem rndG_ok (hm:P.follows .mixedOrders=true) (ht:T.tab=tabP P decs lvs) (key:Nat):GY P T (R0+key) (rndG P T.G decs lvs key):=by
 unfold rndG
 split
 ·rename_i ps a b nt lv hk
  cases hok:(codeOk P nt a&&codeOk P nt b) with
  |true=>exact rndA_ok hm (by rw [ht];exact hk) hok
  |false=>exact ⟨key,rfl,fun D hD ph args S k w0 φ w vs K id fr Dd b0 o N h=>by cases h⟩
 ·exact ⟨key,rfl,fun D hD ph args S k w0 φ w vs K id fr Dd b0 o N h=>by cases h⟩
end
abbrev J (n:Nat):AV:= .i .i64 (.ofNat n)
abbrev U (n:Nat):AV:= .i .u64 (.ofNat n)
noncomputable abbrev A (l:List AV):AV:=lstA l
abbrev E {α:Type}:Tr α:= .e
abbrev L1 {α:Type} (v:α):Tr α:= .n (some v) .e .e
abbrev M1 {α:Type} (l r:Tr α):Tr α:= .n none l r
abbrev N1 {α:Type} (v:α) (l r:Tr α):Tr α:= .n (some v) l r
noncomputable def eqP:List (Int×AV)→List (Int×AV)→Bool
 | [],[]=>true
 |x::l,y::m=>eqI x.1 y.1&&(eqA x.2 y.2&&eqP l m)
 |_,_=>false
noncomputable def eqO:Option AV→Option AV→Bool
 |none,none=>true
 |some x,some y=>eqA x y
 |_,_=>false
noncomputable def eqT:Tr AV→Tr AV→Bool
 | .e,.e=>true
 | .n v l r,.n v' l' r'=>eqO v v'&&(eqT l l'&&eqT r r')
 |_,_=>false
noncomputable def eqM:Option Nat→Option Nat→Bool
 |none,none=>true
 |some x,some y=>Nat.beq x y
 |_,_=>false
noncomputable def eqW:Tr Nat→Tr Nat→Bool
 | .e,.e=>true
 | .n v l r,.n v' l' r'=>eqM v v'&&(eqW l l'&&eqW r r')
 |_,_=>false
noncomputable def eqB:Blk→Blk→Bool
 | .c ro e n d x,.c ro' e' n' d' x'=>bEq ro ro'&&(Nat.beq e e'&&(Nat.beq n n'&&(eqA d d'&&eqT x x')))
 | .m kk l,.m kk' l'=>kEq kk kk'&&eqP l l'
 | .mf kk l,.mf kk' l'=>kEq kk kk'&&eqP l l'
 | .g n x,.g n' x'=>Nat.beq n n'&&eqT x x'
 |_,_=>false
noncomputable def subO:Option Blk→Option Blk→Bool
 |none,_=>true
 |some B,some B'=>eqB B B'
 |some _,none=>false
noncomputable def subT:Tr Blk→Tr Blk→Bool
 | .e,_=>true
 | .n v l r,.n v' l' r'=>subO v v'&&(subT l l'&&subT r r')
 |_,_=>false
noncomputable def eqD:Option DvA→Option DvA→Bool
 |none,none=>true
 |some x,some y=>Nat.beq x.id y.id&&(Nat.beq x.n y.n&&(Nat.beq x.x y.x&&eqW x.t y.t))
 |_,_=>false
noncomputable def subS (A S:St):Bool:=Nat.beq A.nx S.nx&&(eqD A.dv S.dv&&subT A.m S.m)
theorem eqP_eq:∀{a b:List (Int×AV)},eqP a b=true→a=b:=by
 intro a
 induction a with
 |nil=>intro b h;cases b<;>first|rfl|cases h
 |cons x l ih=>
  intro b h
  cases b with
  |nil=>cases h
  |cons y m=>
   simp only [eqP,Bool.and_eq_true,eqI_eq,decide_eq_true_eq] at h
   rw [ih h.2.2]
   have:x=y:=Prod.ext h.1 (eqA_eq h.2.1)
   rw [this]
theorem eqO_eq {a b:Option AV} (h:eqO a b=true):a=b:=by
 cases a<;>cases b<;>first|rfl|(cases h;done)|skip
 rw [eqA_eq (show eqA _ _=true from h)]
theorem eqM_eq {a b:Option Nat} (h:eqM a b=true):a=b:=by
 cases a<;>cases b<;>first|rfl|(cases h;done)|skip
 rw [Nat.eq_of_beq_eq_true (show Nat.beq _ _=true from h)]
theorem eqT_eq:∀{a b:Tr AV},eqT a b=true→a=b:=by
 intro a
 induction a with
 |e=>intro b h;cases b<;>first|rfl|cases h
 |n v l r il ir=>
  intro b h
  cases b with
  |e=>cases h
  |n v' l' r'=>
   simp only [eqT,Bool.and_eq_true] at h
   rw [eqO_eq h.1,il h.2.1,ir h.2.2]
theorem eqW_eq:∀{a b:Tr Nat},eqW a b=true→a=b:=by
 intro a
 induction a with
 |e=>intro b h;cases b<;>first|rfl|cases h
 |n v l r il ir=>
  intro b h
  cases b with
  |e=>cases h
  |n v' l' r'=>
   simp only [eqW,Bool.and_eq_true] at h
   rw [eqM_eq h.1,il h.2.1,ir h.2.2]
theorem eqB_eq {a b:Blk} (h:eqB a b=true):a=b∧∀kk mid l cur,a≠ .it kk mid l cur:=by
 cases a<;>cases b<;>first|(cases h;done)|skip
 ·simp only [eqB,Bool.and_eq_true] at h
  rw [bEq_eq h.1,Nat.eq_of_beq_eq_true h.2.1,Nat.eq_of_beq_eq_true h.2.2.1,eqA_eq h.2.2.2.1,eqT_eq h.2.2.2.2]
  exact ⟨rfl,fun _ _ _ _ e=>by cases e⟩
 ·simp only [eqB,Bool.and_eq_true] at h
  rw [kEq_eq h.1,eqP_eq h.2]
  exact ⟨rfl,fun _ _ _ _ e=>by cases e⟩
 ·simp only [eqB,Bool.and_eq_true] at h
  rw [kEq_eq h.1,eqP_eq h.2]
  exact ⟨rfl,fun _ _ _ _ e=>by cases e⟩
 ·simp only [eqB,Bool.and_eq_true] at h
  rw [Nat.eq_of_beq_eq_true h.1,eqT_eq h.2]
  exact ⟨rfl,fun _ _ _ _ e=>by cases e⟩
theorem subO_eq {a b:Option Blk} (h:subO a b=true) {B:Blk} (e:a=some B):b=some B∧∀kk mid l cur,B≠ .it kk mid l cur:=by
 subst e
 cases b with
 |none=>cases h
 |some B'=>obtain ⟨e,g⟩:=eqB_eq (show eqB B B'=true from h);exact ⟨by rw [e],g⟩
theorem subT_ok:∀{a b:Tr Blk},subT a b=true→∀i B,a.get i=some B→b.get i=some B∧∀kk mid l cur,B≠ .it kk mid l cur:=by
 intro a
 induction a with
 |e=>intro b h i B hi;rw [Tr.get_e] at hi;cases hi
 |n v l r il ir=>
  intro b h i B hi
  cases b with
  |e=>cases h
  |n v' l' r'=>
   simp only [subT,Bool.and_eq_true] at h
   cases i with
   |zero=>
    rw [Tr.get_tv] at hi ⊢
    exact subO_eq h.1 hi
   |succ j=>
    rcases Nat.mod_two_eq_zero_or_one j with hj|hj
    ·rw [Tr.get_l _ _ hj] at hi ⊢
     exact il h.2.1 _ _ hi
    ·rw [Tr.get_r _ _ hj] at hi ⊢
     exact ir h.2.2 _ _ hi
theorem eqD_eq {a b:Option DvA} (h:eqD a b=true):a=b:=by
 cases a<;>cases b<;>first|rfl|(cases h;done)|skip
 rename_i x y
 simp only [eqD,Bool.and_eq_true] at h
 have h1:=Nat.eq_of_beq_eq_true h.1
 have h2:=Nat.eq_of_beq_eq_true h.2.1
 have h3:=Nat.eq_of_beq_eq_true h.2.2.1
 have h4:=eqW_eq h.2.2.2
 obtain ⟨i,n,c,t⟩:=x
 obtain ⟨i',n',c',t'⟩:=y
 cases h1;cases h2;cases h3;cases h4
 rfl
theorem Rel.sub {T:RT} {w0 w:World} {φ:Ph} {A S:St} (h:Rel T w0 S φ w) (hs:subS A S=true):Rel T w0 A φ w:=by
 simp only [subS,Bool.and_eq_true] at hs
 have e1:=Nat.eq_of_beq_eq_true hs.1
 have e2:=eqD_eq hs.2.1
 have e3:=subT_ok hs.2.2
 have some':∀i,(A.m.get i).isSome=true→(S.m.get i).isSome=true:=fun i hi=>by
  obtain ⟨B,hB⟩:=Option.isSome_iff_exists.1 hi
  rw [(e3 i B hB).1];rfl
 have none':∀i,S.m.get i= .none→A.m.get i= .none:=fun i hi=>by
  cases hB:A.m.get i with
  |none=>rfl
  |some B=>rw [(e3 i B hB).1] at hi;cases hi
 refine ⟨h.ext,fun id x hx=>by rw [e1];exact h.dom id x hx,h.lt,h.gl,fun id B x hB hx=>h.blk id B x (e3 id B hB).1 hx,fun i j bi oi Ni bj oj Nj hij hi hj=>h.sep i j bi oi Ni bj oj Nj hij (some' i hi) (some' j hj),
  fun id hid=>⟨none' id (h.ph id hid).1,(h.ph id hid).2.1,by rw [e1];exact (h.ph id hid).2.2⟩,fun v hv=> ?_,fun j hj=>none' j (h.top j (by rw [←e1];exact hj)),fun id kk mid l cur hid=>absurd rfl ((e3 id _ hid).2 kk mid l cur),
  fun k X hX=>⟨(h.fm k X hX).1,fun j oj Nj hj=>(h.fm k X hX).2 j oj Nj (some' j hj)⟩,fun j hj=>h.df j (some' j hj)⟩
 obtain ⟨Y,D,a,c⟩:=h.dev v (by rw [←e2];exact hv)
 exact ⟨Y,D,a,fun id b o N hi=>c.1 id b o N (some' id hi),c.2⟩
noncomputable def kpB (r:Tr Blk) (B:Blk):Bool:= @Blk.casesOn (fun _=>Tr Blk→Bool) B (fun _ _ _ _ _ _=>true) (fun _ _ _=>true) (fun _ _ _=>true) (fun _ mid _ _ r=>Tr.gK r mid (fun _=>false) true) (fun _ _ _ _ _ _=>true) (fun _=>true) (fun _ _ _=>true) r
theorem kpB_it {r:Tr Blk} {kk:IntKind} {mid:Nat} {l:List (Int×AV)} {cur:Option (Int×AV)} (h:kpB r (.it kk mid l cur)=true):r.get mid=none:=by
 have h:Tr.gK r mid (fun _=>false) true=true:=h
 rw [Tr.gK_eq] at h
 cases e:r.get mid with
 |none=>rfl
 |some _=>rw [e] at h;cases h
noncomputable def pick (r:Tr Blk) (v vi vo:Option Blk):Option Blk:=
 match v with
 |none=>vo
 |some B=>match vi with
  |some _=>vo
  |none=>match kpB r B with
   |true=>some B
   |false=>vo
noncomputable def mrgT (r:Tr Blk):Tr Blk→Tr Blk→Tr Blk→Tr Blk
 | .e,_,So=>So
 | .n v a b,Si,So=> .n (pick r v Si.tv So.tv) (mrgT r a Si.tl So.tl) (mrgT r b Si.tr So.tr)
theorem mrgT_get (r:Tr Blk):∀(S Si So:Tr Blk) (i:Nat),(mrgT r S Si So).get i=pick r (S.get i) (Si.get i) (So.get i):=by
 intro S
 induction S with
 |e=>intro Si So i;rw [Tr.get_e];rfl
 |n v a b ia ib=>
  intro Si So i
  unfold mrgT
  cases i with
  |zero=>simp only [Tr.get_tv];rfl
  |succ j=>
   rcases Nat.mod_two_eq_zero_or_one j with h|h
   ·simp only [Tr.get_l _ _ h];exact ia _ _ _
   ·simp only [Tr.get_r _ _ h];exact ib _ _ _
noncomputable def spl {α β:Type} (t:Tr α) (k:Option α→Tr α→Tr α→β):β:= @Tr.rec α (fun _=>β) (k none .e .e) (fun v l r _ _=>k v l r) t
theorem spl_eq {α β:Type} (t:Tr α) (k:Option α→Tr α→Tr α→β):spl t k=k t.tv t.tl t.tr:=by cases t<;>rfl
noncomputable def pickK (r:Tr Blk) (v vi vo:Option Blk) (k:Option Blk→Bool):Bool:= @Option.rec Blk (fun _=>Bool) (k vo) (fun B=> @Option.rec Blk (fun _=>Bool) (@Bool.rec (fun _=>Bool) (k vo) (k (some B)) (kpB r B)) (fun _=>k vo) vi) v
theorem pickK_eq (r:Tr Blk) (v vi vo:Option Blk) (k:Option Blk→Bool):pickK r v vi vo k=k (pick r v vi vo):=by
 unfold pickK pick
 cases v with
 |none=>rfl
 |some B=>
  cases vi with
  |some _=>rfl
  |none=>
   show @Bool.rec (fun _=>Bool) (k vo) (k (some B)) (kpB r B)=k (match kpB r B with
    |true=>some B
    |false=>vo)
   generalize kpB r B=q
   cases q<;>rfl
noncomputable def mrgK (r:Tr Blk) (S Si So:Tr Blk) (k:Tr Blk→Bool):Bool:= @Tr.rec Blk (fun _=>Tr Blk→Tr Blk→(Tr Blk→Bool)→Bool) (fun _ So k=>k So)
 (fun v _ _ ia ib Si So k=>spl Si fun vi li ri=>spl So fun vo lo ro=>ia li lo fun a=>ib ri ro fun b=>pickK r v vi vo fun x=>k (.n x a b)) S Si So k
theorem mrgK_eq (r:Tr Blk):∀(S Si So:Tr Blk) (k:Tr Blk→Bool),mrgK r S Si So k=k (mrgT r S Si So):=by
 intro S
 induction S with
 |e=>intro Si So k;rfl
 |n v a b ia ib=>
  intro Si So k
  show (spl Si fun vi li ri=>spl So fun vo lo ro=>mrgK r a li lo fun a=>mrgK r b ri ro fun b=>pickK r v vi vo fun x=>k (.n x a b))=_
  simp only [spl_eq,ia,ib,pickK_eq]
  rfl
def Seg (P:Program) (T:RT) (f:Nat) (a:AV) (Si:St) (v:AV) (So:St):Prop:=f<R0∧∀ph w0 φ w vs K,Rel (T.wi ph) w0 Si φ w→L φ a vs→(∀φ' w' u,φ.le φ'→Rel (T.wi ph) w0 So φ' w'→V φ' v u→K u w')→callS P f vs.toArray w K
theorem seg_of_run {P:Program} {T:RT} {D:DA} (hD:DSo P T D) {f:Nat} {a:AV} {Si:St} {v:AV} {So:St} (hf:f<R0) (h:D f a Si (fun v' S'=>eqA v' v&&subS So S')=true):Seg P T f a Si v So:=by
 refine ⟨hf,fun ph w0 φ w vs K R ha hK=>hD.1 ph f a Si _ w0 φ w vs K hf h R ha (fun v' S' ψ w' u hk hle R' hv=> ?_)⟩
 simp only [Bool.and_eq_true] at hk
 have e:=eqA_eq hk.1
 subst e
 exact hK ψ w' u hle (R'.sub hk.2) hv
section
variable {T:RT} {w0 w w':World} {S Si So:St} {φ ψ:Ph}
open Classical in
noncomputable def frF (S Si:St) (φ:Ph) (w:World) (f:Nat→Option Obj) (b:Nat):Option Obj:=
 if ∃id o N,(S.m.get id).isSome=true∧Si.m.get id=none∧φ id=some (b,o,N) then w.heap[b]? else f b
theorem BR.wi {x:Gh} {id:Nat} {B:Blk} (h:BR T φ w0 w id B) (hl:x.lp=T.g.lp):BR (T.wi x) φ w0 w id B:=by
 cases B with
 |lp key fr D st pe=>obtain ⟨b,N,r,nt,lv,od,Nd,⟨g1,g2,g3⟩,h1⟩:=h;exact ⟨b,N,r,nt,lv,od,Nd,⟨g1,by show x.lp id=_;rw [hl];exact g2,g3⟩,h1⟩
 |_=>exact h
theorem Rel.hide (h:Rel T w0 S φ w) (hs:subS Si S=true):Rel (T.wi ⟨T.g.ph,T.g.lp,frF S Si φ w T.g.fr⟩) w0 Si φ w:=by
 have e3:∀i,(Si.m.get i).isSome=true→(S.m.get i).isSome=true:=fun i hi=>by
  simp only [subS,Bool.and_eq_true] at hs
  obtain ⟨B,hB⟩:=Option.isSome_iff_exists.1 hi
  rw [(subT_ok hs.2.2 i B hB).1];rfl
 have s:=h.sub hs
 have hd:S.dv=Si.dv:=by
  simp only [subS,Bool.and_eq_true] at hs
  exact (eqD_eq hs.2.1).symm
 refine ⟨s.ext,s.dom,s.lt,s.gl,fun id B x hB hx=>(s.blk id B x hB hx).wi rfl,s.sep,s.ph,fun v hv=> ?_,s.top,s.it,fun b X hX=> ?_,s.df⟩
 ·obtain ⟨Y,D,a,c⟩:=h.dev v (by rw [hd];exact hv)
  refine ⟨Y,D,a,fun id b o N hi=>c.1 id b o N (e3 id hi),fun b X hX hF=> ?_⟩
  have hX:frF S Si φ w T.g.fr b=some X:=hX
  unfold frF at hX
  split at hX
  ·rename_i g
   obtain ⟨id,o,N,g1,_,g2⟩:=g
   exact c.1 id b o N g1 g2 hF
  ·exact c.2 b X hX hF
 ·have hX:frF S Si φ w T.g.fr b=some X:=hX
  unfold frF at hX
  split at hX
  ·rename_i g
   obtain ⟨id,o,N,g1,g3,g2⟩:=g
   refine ⟨hX,fun j oj Nj hj hp=> ?_⟩
   exact h.sep id j _ _ _ _ _ _ (fun e=>by subst e;rw [g3] at hj;cases hj) g1 (e3 j hj) g2 hp rfl
  ·exact s.fm b X hX
theorem rel_show (R:Rel T w0 S φ w) (hle:φ.le ψ) (R':Rel (T.wi ⟨T.g.ph,T.g.lp,frF S Si φ w T.g.fr⟩) w0 So ψ w'):Rel T w0 ⟨mrgT Si.m S.m Si.m So.m,So.nx,So.dv⟩ ψ w':=by
 obtain ⟨M,hM⟩:∃M,M=mrgT Si.m S.m Si.m So.m:=⟨_,rfl⟩
 rw [←hM]
 have two:∀i B,M.get i=some B→So.m.get i=some B∨(S.m.get i=some B∧Si.m.get i=none∧kpB Si.m B=true):=fun i B hB=>by
  rw [hM,mrgT_get] at hB
  unfold pick at hB
  split at hB
  ·exact .inl hB
  ·rename_i B0 e0
   split at hB
   ·exact .inl hB
   ·rename_i e1
    split at hB
    ·rename_i e2
     injection hB with hB;subst hB
     exact .inr ⟨e0,e1,e2⟩
    ·exact .inl hB
 have at':∀i,(S.m.get i).isSome=true→∃x,φ i=some x∧ψ i=some x:=fun i hi=>by
  obtain ⟨x,hx⟩:=Option.isSome_iff_exists.1 (R.df i hi)
  exact ⟨x,hx,hle _ _ hx⟩
 have frm:∀i b o N,(S.m.get i).isSome=true→Si.m.get i=none→φ i=some (b,o,N)→∃X,frF S Si φ w T.g.fr b=some X∧w.heap[b]? =some X:=fun i b o N h1 h2 h3=>by
  have hl:=R.lt _ _ _ _ h3
  refine ⟨w.heap[b],?_,by simp [hl]⟩
  unfold frF
  rw [if_pos ⟨i,o,N,h1,h2,h3⟩]
  simp [hl]
 have same:∀i b o N,(S.m.get i).isSome=true→Si.m.get i=none→φ i=some (b,o,N)→w'.heap[b]? =w.heap[b]? :=fun i b o N h1 h2 h3=>by
  obtain ⟨X,g1,g2⟩:=frm i b o N h1 h2 h3
  rw [g2];exact (R'.fm b X g1).1
 have apart:∀i b o N,(S.m.get i).isSome=true→Si.m.get i=none→ψ i=some (b,o,N)→∀j oj Nj,(So.m.get j).isSome=true→ψ j≠some (b,oj,Nj):=fun i b o N h1 h2 h3 j oj Nj hj=>by
  obtain ⟨x,q1,q2⟩:=at' i h1
  rw [h3] at q2;injection q2 with q2;subst q2
  obtain ⟨X,g1,g2⟩:=frm i b o N h1 h2 q1
  exact (R'.fm b X g1).2 j oj Nj hj
 have some':∀{x:Option Blk} {B:Blk},x=some B→x.isSome=true:=fun h=>by rw [h];rfl
 refine ⟨R'.ext,R'.dom,R'.lt,R'.gl,fun id B x hB hx=> ?_,fun i j bi oi Ni bj oj Nj hij hi hj hpi hpj=> ?_,fun id hid=> ?_,fun v hv=> ?_,fun j hj=> ?_,fun id kk mid l cur hid=> ?_,fun b X hX=> ?_,fun id hid=> ?_⟩
 ·rcases two id B hB with h|⟨h1,h2,h3⟩
  ·exact (R'.blk id B x h hx).wi (x:=T.g) rfl
  ·obtain ⟨y,q1,q2⟩:=at' id (some' h1)
   refine (R.blk id B y h1 q1).keep hle (fun b o N hp=>same id b o N (some' h1) h2 hp) (fun kk mid l cur eB b o N hp=> ?_)
   subst eB
   obtain ⟨kk',l',q⟩:=R.it _ _ _ _ _ h1
   exact same mid b o N (some' q) (kpB_it h3) hp
 ·obtain ⟨Bi,hBi⟩:=Option.isSome_iff_exists.1 hi
  obtain ⟨Bj,hBj⟩:=Option.isSome_iff_exists.1 hj
  rcases two i Bi hBi with h|⟨h1,h2,h3⟩<;>rcases two j Bj hBj with g|⟨g1,g2,g3⟩
  ·exact R'.sep i j _ _ _ _ _ _ hij (some' h) (some' g) hpi hpj
  ·intro e;subst e;exact apart j _ _ _ (some' g1) g2 hpj i _ _ (some' h) hpi
  ·intro e;subst e;exact apart i _ _ _ (some' h1) h2 hpi j _ _ (some' g) hpj
  ·obtain ⟨x,q1,q2⟩:=at' i (some' h1)
   obtain ⟨y,p1,p2⟩:=at' j (some' g1)
   rw [hpi] at q2;injection q2 with q2;subst q2
   rw [hpj] at p2;injection p2 with p2;subst p2
   exact R.sep i j _ _ _ _ _ _ hij (some' h1) (some' g1) q1 p1
 ·obtain ⟨h1,h2,h3⟩:=R'.ph id hid
  refine ⟨?_,h2,h3⟩
  rw [hM,mrgT_get,(R.ph id hid).1]
  exact h1
 ·obtain ⟨Y,D,a,c⟩:=R'.dev v hv
  refine ⟨Y,D,a,fun id b o N hi hp hF=> ?_,fun b X hX=> ?_⟩
  ·obtain ⟨B,hB⟩:=Option.isSome_iff_exists.1 hi
   rcases two id B hB with h|⟨h1,h2,h3⟩
   ·exact c.1 id b o N (some' h) hp hF
   ·obtain ⟨x,q1,q2⟩:=at' id (some' h1)
    rw [hp] at q2;injection q2 with q2;subst q2
    obtain ⟨X,g1,_⟩:=frm id b o N (some' h1) h2 q1
    exact c.2 b X g1 hF
  ·have:frF S Si φ w T.g.fr b=some X:=by
    unfold frF
    rw [if_neg (fun ⟨id,o,N,q1,_,q2⟩=>(R.fm b X hX).2 id o N q1 q2)]
    exact hX
   exact c.2 b X this
 ·cases e:M.get j with
  |none=>rfl
  |some B=>
   rcases two j B e with h|⟨h1,h2,h3⟩
   ·rw [R'.top j hj] at h;cases h
   ·obtain ⟨x,q1,q2⟩:=at' j (some' h1)
    have:=R'.dom _ _ q2
    have hj:So.nx≤j:=hj
    omega
 ·rcases two id _ hid with h|⟨h1,h2,h3⟩
  ·obtain ⟨kk',l',q⟩:=R'.it _ _ _ _ _ h
   refine ⟨kk',l',?_⟩
   show M.get mid=_
   rw [hM,mrgT_get,←q]
   unfold pick
   split
   ·rfl
   ·rename_i B0 e0
    split
    ·rfl
    ·rename_i e1
     obtain ⟨⟨b,o,N⟩,q1,q2⟩:=at' mid (some' e0)
     exact absurd q2 (apart mid b o N (some' e0) e1 q2 mid o N (some' q))
  ·obtain ⟨kk',l',q⟩:=R.it _ _ _ _ _ h1
   refine ⟨kk',l',?_⟩
   show M.get mid=_
   rw [hM,mrgT_get,q,kpB_it h3]
   rfl
 ·have:frF S Si φ w T.g.fr b=some X:=by
   unfold frF
   rw [if_neg (fun ⟨id,o,N,q1,_,q2⟩=>(R.fm b X hX).2 id o N q1 q2)]
   exact hX
  refine ⟨(R'.fm b X this).1,fun id o N hi hp=> ?_⟩
  obtain ⟨B,hB⟩:=Option.isSome_iff_exists.1 hi
  rcases two id B hB with h|⟨h1,h2,h3⟩
  ·exact (R'.fm b X this).2 id o N (some' h) hp
  ·obtain ⟨x,q1,q2⟩:=at' id (some' h1)
   rw [hp] at q2;injection q2 with q2;subst q2
   exact (R.fm b X hX).2 id o N (some' h1) q1
 ·obtain ⟨B,hB⟩:=Option.isSome_iff_exists.1 hid
  rcases two id B hB with h|⟨h1,h2,h3⟩
  ·exact R'.df id (some' h)
  ·obtain ⟨x,q1,q2⟩:=at' id (some' h1)
   rw [q2];rfl
end
noncomputable def segG (a:AV) (Si:St) (v:AV) (So:St) (g:GA):GA:=fun D args S k=> @Bool.rec (fun _=>Bool) (g D args S k) (@St.rec (fun _=>Bool) (fun mi _ _=> @St.rec (fun _=>Bool) (fun mo nx dv=> @St.rec (fun _=>Bool) (fun m _ _=>mrgK mi m mi mo fun x=>k v ⟨x,nx,dv⟩) S) So) Si) (eqA args a&&subS Si S)
theorem segG_ok {P:Program} {T:RT} {f:Nat} {a:AV} {Si:St} {v:AV} {So:St} {g:GA} (hs:Seg P T f a Si v So) (hg:GS P T f g):GS P T f (segG a Si v So g):=by
 refine ⟨hs.1,fun D hD ph args S k w0 φ w vs K h R ha hK=> ?_⟩
 unfold segG at h
 cases hc:(eqA args a&&subS Si S) with
 |false=>rw [hc] at h;exact hg.2 D hD ph args S k w0 φ w vs K h R ha hK
 |true=>
  rw [hc] at h
  have h:mrgK Si.m S.m Si.m So.m (fun x=>k v ⟨x,So.nx,So.dv⟩)=true:=h
  rw [mrgK_eq] at h
  simp only [Bool.and_eq_true] at hc
  have e:=eqA_eq hc.1
  subst e
  exact hs.2 ⟨ph.ph,ph.lp,frF S Si φ w ph.fr⟩ w0 φ w vs K (R.hide hc.2) ha (fun φ' w' u hle R' hv=>hK _ _ _ _ _ h hle (rel_show R hle R') hv)
def decs:Nat→Dec
 |33=> .s (.o) (.s (.o) (.s (.o) (.s (.o) (.s (.o) (.s (.o) (.s (.o) (.s (.o) (.s (.o) (.s (.o) (.s (.o) (.s (.o) (.s (.o) (.s (.s (.o) (.b (.l [264] 0 0 .o))) (.o))))))))))))))
 |97=> .s (.o) (.s (.s (.o) (.b (.l [776] 0 0 .o))) (.o))
 |165=> .s (.o) (.s (.s (.o) (.b (.l [1320] 0 0 .o))) (.o))
 |175=> .s (.o) (.s (.o) (.s (.o) (.s (.o) (.s (.o) (.s (.o) (.s (.o) (.s (.o) (.s (.s (.o) (.b (.l [1400] 0 0 .o))) (.o)))))))))
 |226=> .s (.o) (.s (.s (.o) (.b (.l [1808] 0 0 .o))) (.o))
 |332=> .s (.o) (.s (.s (.o) (.b (.l [2656] 0 0 .o))) (.o))
 |492=> .s (.o) (.s (.s (.o) (.b (.l [3936] 0 0 .o))) (.o))
 |28=> .s (.o) (.s (.o) (.s (.s (.o) (.b (.l [224] 0 0 .o))) (.o)))
 |_=> .o
def lvs:Nat→List Nat
 |224=> [3,5,6,7,9,10,11,12,13,14,15,16,17,18,19,20,21,22,23,24]
 |264=> [10,24,211,212,213,214,215,216,217,218,219,220,221]
 |776=> [2,5,7,8,9,10,11]
 |1320=> [4,6,7,8,10,11,12,16,17,18,19,20,21,22,23,24,25,26,27,28,29,30,31,32,33,34,35,36,37,38,39,40,41,42,43,44,45,46,47,48]
 |1400=> [7,8,9,85,86,87,88,89,90,91,92,93,94,95,96,97,98,99,100,101,102,103,104,105,106]
 |1808=> [2,5,7,8,9,10,11]
 |2656=> [2,5,7,8,9,10,11]
 |3936=> [2,5,7,8,9,10,11]
 |_=> []
def rfs:List Nat:= [33,97,165,175,226,332,492,28]
def kys:List Nat:= [224,264,776,1320,1400,1808,2656,3936]
noncomputable def T0:RT:=⟨tabP prog decs lvs,5,⟨fun _=>false,fun _=>none,fun _=>none⟩⟩
theorem hmO:prog.follows .mixedOrders=true:=by kernel_rfl
noncomputable def gTxt (f:Nat):GA:=fun D args S k=>intF prog 5 D f args S k
theorem gs_Txt {f:Nat} (h:Nat.blt f R0=true):GS prog T0 f (gTxt f):=intG_ok hmO f (by rwa [Nat.blt_eq] at h)
noncomputable def nats:List (Nat×GA):= [(232,gSort),(331,gGrow),(67,gNew),(284,gLines),(68,gThread),(433,gLoad),(77,gStore),(432,gFlush),(431,gFence),(434,gTSize),(127,gErr),(126,gID),(245,gcG (gTxt 245)),(86,gcG (gTxt 86))]
noncomputable def tb:List (Nat×GA):=nats++(rfs.map (fun f=>(f,rfG prog 5 decs lvs f))++kys.map (fun k=>(R0+k,rndG prog 5 decs lvs k)))
abbrev OkT (l:List (Nat×GA)):Prop:=∀p∈l,GS prog T0 p.1 p.2∨GY prog T0 p.1 p.2
theorem OkT.cons {f:Nat} {g:GA} {l:List (Nat×GA)} (h:GS prog T0 f g) (hl:OkT l):OkT ((f,g)::l):=fun p hp=>by
 rcases List.mem_cons.1 hp with rfl|hp
 ·exact .inl h
 ·exact hl p hp
theorem nats_ok:OkT nats:= .cons gs_Sort<| .cons gs_Grow<| .cons gs_New<| .cons gs_Lines<| .cons gs_Thread<| .cons gs_Load<| .cons gs_Store<| .cons gs_Flush<| .cons gs_Fence<| .cons gs_TSize<| .cons gs_Err<| .cons gs_ID<| .cons (gcG_ok (gs_Txt rfl))<| .cons (gcG_ok (gs_Txt rfl))<|fun p hp=>by cases hp
theorem tb_ok:OkT tb:=fun p hp=>by
 rcases List.mem_append.1 hp with hp|hp
 ·exact nats_ok p hp
 ·rcases List.mem_append.1 hp with hp|hp
  ·obtain ⟨f,hf,rfl⟩:=List.mem_map.1 hp
   exact .inl (rfG_ok hmO rfl (List.all_eq_true.1 (show (rfs.all (okRF prog decs))=true by kernel_rfl) f hf))
  ·obtain ⟨k,hk,rfl⟩:=List.mem_map.1 hp
   exact .inr (rndG_ok hmO rfl k)
noncomputable def x1:Tr AV:=(N1 (J 3) (N1 (J 7) (L1 (J 31)) E) (N1 (J 15) (L1 (J 60)) E))
noncomputable def x4:Tr AV:=(N1 (.i .u32 (.ofNat 0)) (N1 (.i .u32 (.ofNat 274646895)) (N1 (.i .u32 (.ofNat 820201905)) (N1 (.i .u32 (.ofNat 1905808397)) (L1 (.i .u32 (.ofNat 4084100981))) E) (L1 (.i .u32 (.ofNat 2987750089)))) (N1 (.i .u32 (.ofNat 1361435347)) (L1 (.i .u32 (.ofNat 2460548119))) (L1 (.i .u32 (.ofNat 3553878443))))) (N1 (.i .u32 (.ofNat 549293790)) (N1 (.i .u32 (.ofNat 1098587580)) (L1 (.i .u32 (.ofNat 2197175160))) (L1 (.i .u32 (.ofNat 3280807620)))) (N1 (.i .u32 (.ofNat 1640403810)) (L1 (.i .u32 (.ofNat 2722870694))) (L1 (.i .u32 (.ofNat 3811616794))))))
noncomputable def S0:St:=⟨(Tr.e.set 1 (some (.g 5 x1))).set 4 (some (.g 16 x4)),5,none⟩
def φ0:Ph:=fun i=>if i<5 then some (i,0,0) else none
theorem φ0_some {i:Nat} {x:Nat×Nat×Nat} (h:φ0 i=some x):i<5∧x=(i,0,0):=by
 unfold φ0 at h
 split at h
 ·rename_i e;cases h;exact ⟨e,rfl⟩
 ·cases h
theorem cell_blk {w:World} {g i:Nat} {v:Value} (h:w.cell? ⟨g,i,none⟩=some v):∃a e z,w.heap[g]? =some (.cells a e z):=by
 unfold World.cell? at h
 split at h
 ·rename_i e;exact ⟨_,_,_,e⟩
 ·cases h
theorem V_i {φ:Ph} {a:AV} {k:IntKind} {n:Int} {v:Value} (hv:v= .int k n) (ha:a= .i k n):V φ a v:=by subst ha;exact hv
theorem rel0 {w:World} (hG:Glob w):Rel T0 w S0 φ0 w:=by
 obtain ⟨a1,e1,z1,h1⟩:=cell_blk (hG.pay 0 oM)
 obtain ⟨a4,e4,z4,h4⟩:=cell_blk (hG.nib 0 oM)
 have hsz:=lt_of_heap h4
 have gt:∀i B,S0.m.get i=some B→(i=4∧B= .g 16 x4)∨(i=1∧B= .g 5 x1):=fun i B h=>by
  simp only [S0,Tr.get_set,Tr.get_e] at h
  split at h
  ·rename_i e;cases h;exact .inl ⟨e,rfl⟩
  ·split at h
   ·rename_i e;cases h;exact .inr ⟨e,rfl⟩
   ·cases h
 refine ⟨Ext.refl _,fun id x hx=>(φ0_some hx).1,fun id b o N hx=> ?_,fun g hg=>⟨0,if_pos hg⟩,fun id B x hB hx=> ?_,fun i j bi oi Ni bj oj Nj hij _ _ hi hj=> ?_,(fun id hid=>by cases hid),(fun v hv=>by cases hv),fun j hj=> ?_,fun id kk mid l cur hid=> ?_,(fun b X hX=>by cases hX),fun id hid=> ?_⟩
 ·obtain ⟨h,e⟩:=φ0_some hx
  cases e
  omega
 ·rcases gt id B hB with ⟨rfl,rfl⟩|⟨rfl,rfl⟩
  ·refine ⟨_,_,_,a4,e4,z4,if_pos oM,h4,fun i hi=>⟨.int .u32 (nibN i),?_,?_,rfl⟩⟩
   ·have:=hG.nib i hi;rw [cell_of_blk h4] at this;rw [Nat.zero_add];exact this
   ·rcases i with _|_|_|_|_|_|_|_|_|_|_|_|_|_|_|_|i<;>first|omega|exact V_i rfl (by kernel_rfl)
  ·refine ⟨_,_,_,a1,e1,z1,if_pos oM,h1,fun i hi=>⟨.int .i64 (payN i),?_,?_,rfl⟩⟩
   ·have:=hG.pay i hi;rw [cell_of_blk h1] at this;rw [Nat.zero_add];exact this
   ·rcases i with _|_|_|_|_|i<;>first|omega|exact V_i rfl (by kernel_rfl)
 ·obtain ⟨_,e⟩:=φ0_some hi
  obtain ⟨_,e'⟩:=φ0_some hj
  cases e;cases e'
  exact hij
 ·cases hB:S0.m.get j with
  |none=>rfl
  |some B=>
   have hj:5≤j:=hj
   rcases gt j B hB with ⟨rfl,_⟩|⟨rfl,_⟩<;>omega
 ·rcases gt id _ hid with ⟨_,e⟩|⟨_,e⟩<;>cases e
 ·obtain ⟨B,hB⟩:=Option.isSome_iff_exists.1 hid
  rcases gt id B hB with ⟨rfl,_⟩|⟨rfl,_⟩<;>rfl
theorem true_of_run {l:List (Nat×GA)} (hl:OkT l) {f n:Nat} (hf:Nat.blt f R0=true) (h:disp prog 5 (lookT l) n f .nl S0 (fun v S=>eqA v (.b true))=true) {w:World} (hG:Glob w) (K:K1) (hK:∀w',Ext w w'→K (.bool true) w'):callS prog f #[] w K:=
 (disp_ok (T:=T0) hmO hl n).1 T0.g f .nl S0 _ w φ0 w [] K (by rwa [Nat.blt_eq] at hf) h (rel0 hG) rfl (fun v S φ w' u hv hle R hu=>by
  have e:=eqA_eq hv
  subst e
  cases hu
  exact hK w' R.ext)
end Go.Ev
namespace Go.Proofs.YtjegifbmbianiaaGreatDoor
open Go Go.RowKit
set_option maxHeartbeats 1000000 in
set_option maxRecDepth 100000 in
theorem c_cmp0 (a b:ByteArray) (w:World):
  Calls prog 108 #[.string a,.string b] w fun e w'=>e= .returned (.int .i64 (Lib.compareBytes a.data.toList b.data.toList))∧w'=w:=by
 go_enter Tryz.func108,Tryz.ntmps108
 go_wp2
 rw [run_callFunc_extern Tryz.func170 (by kernel_rfl) (by kernel_rfl) (by kernel_rfl) (e:=Extern.BytealgCompare.compare) (by kernel_rfl),Lib.run_compareString]
 simp only [Result.andThen]
 rw [Oper.upon_value]
 go_wp2
 go_ret
 exact ⟨rfl,rfl⟩
end Go.Proofs.YtjegifbmbianiaaGreatDoor
namespace Go.Ev
open Go Go.Sh Go.Proofs Go.Proofs.YtjegifbmbianiaaGreatDoor
noncomputable def gCmp:GA:=fun _ args S k=>
 match args with
 | .cn (.s a) (.cn (.s b) .nl)=>fI (Lib.compareBytes a.data.toList b.data.toList) fun n=>k (.i .i64 n) S
 |_=>false
theorem gs_Cmp {T:RT}:GS prog T 108 gCmp:=by
 refine ⟨by decide,fun D hD ph args S k w0 φ w vs K h R ha hK=> ?_⟩
 unfold gCmp at h
 split at h
 ·rename_i a b
  obtain ⟨x,_,rfl,hx,y,_,rfl,hy,rfl⟩:=ha
  cases hx;cases hy
  rw [fI_eq] at h
  refine (c_cmp0 a b w).mono ?_
  rintro e w' ⟨rfl,rfl⟩
  exact hK _ _ _ _ _ h (Ph.le.refl _) R rfl
 ·cases h
noncomputable def tb2:List (Nat×GA):=(108,gCmp)::tb
theorem tb2_ok:OkT tb2:= .cons gs_Cmp tb_ok
noncomputable def a0:AV:=(A [(J 3)])
noncomputable def v0:AV:=(.p 151 0)
noncomputable def i0:St:=⟨(M1 (L1 (.g 5 (N1 (J 3) (N1 (J 7) (L1 (J 31)) E) (N1 (J 15) (L1 (J 60)) E)))) (M1 (L1 (.g 16 (N1 (.i .u32 (.ofNat 0)) (N1 (.i .u32 (.ofNat 274646895)) (N1 (.i .u32 (.ofNat 820201905)) (N1 (.i .u32 (.ofNat 1905808397)) (L1 (.i .u32 (.ofNat 4084100981))) E) (L1 (.i .u32 (.ofNat 2987750089)))) (N1 (.i .u32 (.ofNat 1361435347)) (L1 (.i .u32 (.ofNat 2460548119))) (L1 (.i .u32 (.ofNat 3553878443))))) (N1 (.i .u32 (.ofNat 549293790)) (N1 (.i .u32 (.ofNat 1098587580)) (L1 (.i .u32 (.ofNat 2197175160))) (L1 (.i .u32 (.ofNat 3280807620)))) (N1 (.i .u32 (.ofNat 1640403810)) (L1 (.i .u32 (.ofNat 2722870694))) (L1 (.i .u32 (.ofNat 3811616794)))))))) E)),11,none⟩
noncomputable def o0:St:=⟨(M1 (N1 (.g 5 (N1 (J 3) (N1 (J 7) (L1 (J 31)) E) (N1 (J 15) (L1 (J 60)) E))) (M1 (M1 (M1 E (M1 E (L1 (.c false 378 3 .u (N1 (.ic 87 (.p 12 0)) (L1 (U 1664)) (L1 (J 26))))))) (M1 E (M1 (M1 (L1 (.c false 115 6 .u (N1 (.p 11 0) (N1 (.p 12 0) (L1 (.p 149 0)) (L1 (J 3))) (N1 (.p 148 0) (L1 (.p 150 0)) E)))) E) E))) (M1 (M1 E (M1 (M1 (L1 (.m .i64 [])) E) E)) E)) (M1 E (M1 (M1 E (M1 (M1 (L1 (.c false 243 3 .u (N1 (.p 148 0) (L1 (.p 12 0)) (L1 (.p 110 0))))) E) E)) E))) (M1 (N1 (.g 16 (N1 (.i .u32 (.ofNat 0)) (N1 (.i .u32 (.ofNat 274646895)) (N1 (.i .u32 (.ofNat 820201905)) (N1 (.i .u32 (.ofNat 1905808397)) (L1 (.i .u32 (.ofNat 4084100981))) E) (L1 (.i .u32 (.ofNat 2987750089)))) (N1 (.i .u32 (.ofNat 1361435347)) (L1 (.i .u32 (.ofNat 2460548119))) (L1 (.i .u32 (.ofNat 3553878443))))) (N1 (.i .u32 (.ofNat 549293790)) (N1 (.i .u32 (.ofNat 1098587580)) (L1 (.i .u32 (.ofNat 2197175160))) (L1 (.i .u32 (.ofNat 3280807620)))) (N1 (.i .u32 (.ofNat 1640403810)) (L1 (.i .u32 (.ofNat 2722870694))) (L1 (.i .u32 (.ofNat 3811616794))))))) (M1 (M1 E (M1 E (L1 (.c false 321 2 .u (N1 (.ic 87 (.p 12 0)) (L1 (.sl 136 0 3 3 false 4)) E))))) (M1 (M1 (M1 (L1 (.c false 325 12 .u (N1 (J 53) (N1 (.i .i64 (.negSucc 0)) (N1 (.b false) (L1 (.b false)) (L1 (.b false))) (N1 (.i .i64 (.negSucc 0)) (L1 (.i .i64 (.negSucc 0))) E)) (N1 (.i .i64 (.negSucc 0)) (N1 (J 85) (L1 (J 117)) E) (N1 (.i .i64 (.negSucc 0)) (L1 (.i .i64 (.negSucc 0))) E))))) E) E) E)) (M1 (M1 E (M1 (M1 (L1 (.c false 241 8 .u (N1 (.ic 87 (.p 12 0)) (N1 (J 53) (N1 (.p 112 0) (L1 (.b false)) E) (L1 (.m 147))) (N1 (J 96) (L1 (.m 146)) (L1 .m0))))) E) E)) E)) (M1 (M1 (M1 E (M1 (M1 (L1 (.m .u64 [])) E) E)) E) (M1 (M1 E (M1 (M1 (L1 (.c false 384 5 .u (N1 (.p 12 0) (N1 (.p 110 0) (L1 (.p 148 0)) E) (N1 (.p 111 0) (L1 .p0) E)))) E) E)) (M1 (M1 E (L1 (.c false 312 3 .u (N1 (.ic 87 (.p 12 0)) (L1 (U 0)) (L1 (U 1664)))))) E))))),152,some ⟨11,149,12,(N1 0 E (M1 (M1 (M1 E (M1 (M1 E (M1 (M1 E (N1 7160393175083778049 (L1 7160393175083778049) (L1 7160393175083778049))) E)) E)) E) E))⟩⟩
theorem r0:disp prog 5 (lookT tb2) 990 40 a0 i0 (fun v S=>eqA v v0&&subS o0 S)=true:=by kernel_rfl
theorem s0:Seg prog T0 40 a0 i0 v0 o0:=seg_of_run (disp_ok hmO tb2_ok 990) (of_decide_eq_true (by kernel_rfl)) r0
noncomputable def n0:GA:=segG a0 i0 v0 o0 (gTxt 40)
theorem m0:GS prog T0 40 n0:=segG_ok s0 (gs_Txt rfl)
noncomputable def t0:List (Nat×GA):=(40,n0)::tb2
theorem t0_ok:OkT t0:= .cons m0 tb2_ok
noncomputable def a1:AV:=(A [(.ic 112 (.p 149 0)),(.b false)])
noncomputable def v1:AV:=(.tu (A [(U 1125904201810353),(.sl 1131 0 1 1 true 1),(J 0)]))
noncomputable def i1:St:=⟨(M1 (N1 (.g 5 (N1 (J 3) (N1 (J 7) (L1 (J 31)) E) (N1 (J 15) (L1 (J 60)) E))) (M1 E (M1 (M1 E (M1 (M1 (L1 (.m .i64 [])) E) E)) E)) (M1 E (M1 (M1 E (M1 (M1 (L1 (.c false 243 3 .u (N1 (.p 148 0) (L1 (.p 12 0)) (L1 (.p 110 0))))) E) E)) E))) (M1 (N1 (.g 16 (N1 (.i .u32 (.ofNat 0)) (N1 (.i .u32 (.ofNat 274646895)) (N1 (.i .u32 (.ofNat 820201905)) (N1 (.i .u32 (.ofNat 1905808397)) (L1 (.i .u32 (.ofNat 4084100981))) E) (L1 (.i .u32 (.ofNat 2987750089)))) (N1 (.i .u32 (.ofNat 1361435347)) (L1 (.i .u32 (.ofNat 2460548119))) (L1 (.i .u32 (.ofNat 3553878443))))) (N1 (.i .u32 (.ofNat 549293790)) (N1 (.i .u32 (.ofNat 1098587580)) (L1 (.i .u32 (.ofNat 2197175160))) (L1 (.i .u32 (.ofNat 3280807620)))) (N1 (.i .u32 (.ofNat 1640403810)) (L1 (.i .u32 (.ofNat 2722870694))) (L1 (.i .u32 (.ofNat 3811616794))))))) (M1 (M1 E (M1 E (L1 (.c false 321 2 .u (N1 (.ic 87 (.p 12 0)) (L1 (.sl 136 0 3 3 false 4)) E))))) (M1 (M1 (M1 (L1 (.c false 325 12 .u (N1 (J 53) (N1 (.i .i64 (.negSucc 0)) (N1 (.b false) (L1 (.b false)) (L1 (.b false))) (N1 (.i .i64 (.negSucc 0)) (L1 (.i .i64 (.negSucc 0))) E)) (N1 (.i .i64 (.negSucc 0)) (N1 (J 85) (L1 (J 117)) E) (N1 (.i .i64 (.negSucc 0)) (L1 (.i .i64 (.negSucc 0))) E))))) E) E) E)) (M1 (M1 E (M1 (M1 (L1 (.c false 241 8 .u (N1 (.ic 87 (.p 12 0)) (N1 (J 53) (N1 (.p 112 0) (L1 (.b false)) E) (L1 (.m 147))) (N1 (J 96) (L1 (.m 146)) (L1 .m0))))) E) E)) E)) (M1 (M1 (M1 E (M1 (M1 (L1 (.m .u64 [])) E) E)) E) (M1 E (M1 (M1 E (L1 (.c false 312 3 .u (N1 (.ic 87 (.p 12 0)) (L1 (U 0)) (L1 (U 1664)))))) E))))),152,some ⟨11,149,12,(N1 0 E (M1 (M1 (M1 E (M1 (M1 E (M1 (M1 E (N1 7160393175083778049 (L1 7160393175083778049) (L1 7160393175083778049))) E)) E)) E) E))⟩⟩
noncomputable def o1:St:=⟨(M1 (N1 (.g 5 (N1 (J 3) (N1 (J 7) (L1 (J 31)) E) (N1 (J 15) (L1 (J 60)) E))) (M1 E (M1 (M1 E (M1 (M1 (L1 (.m .i64 [(.ofNat 53,(J 1))])) E) E)) (M1 (M1 E (M1 E (M1 (M1 (M1 (L1 (.c false 96 1 .u (L1 (U 1125904201810353)))) E) E) E))) E))) (M1 E (M1 (M1 E (M1 (M1 (L1 (.c false 243 3 .u (N1 (.p 148 0) (L1 (.p 12 0)) (L1 (.p 110 0))))) E) E)) E))) (M1 (N1 (.g 16 (N1 (.i .u32 (.ofNat 0)) (N1 (.i .u32 (.ofNat 274646895)) (N1 (.i .u32 (.ofNat 820201905)) (N1 (.i .u32 (.ofNat 1905808397)) (L1 (.i .u32 (.ofNat 4084100981))) E) (L1 (.i .u32 (.ofNat 2987750089)))) (N1 (.i .u32 (.ofNat 1361435347)) (L1 (.i .u32 (.ofNat 2460548119))) (L1 (.i .u32 (.ofNat 3553878443))))) (N1 (.i .u32 (.ofNat 549293790)) (N1 (.i .u32 (.ofNat 1098587580)) (L1 (.i .u32 (.ofNat 2197175160))) (L1 (.i .u32 (.ofNat 3280807620)))) (N1 (.i .u32 (.ofNat 1640403810)) (L1 (.i .u32 (.ofNat 2722870694))) (L1 (.i .u32 (.ofNat 3811616794))))))) (M1 (M1 E (M1 E (L1 (.c false 321 2 .u (N1 (.ic 87 (.p 12 0)) (L1 (.sl 136 0 3 3 false 4)) E))))) (M1 (M1 (M1 (L1 (.c false 325 12 .u (N1 (J 53) (N1 (J 0) (N1 (.b true) (L1 (.b false)) (L1 (.b false))) (N1 (.i .i64 (.negSucc 0)) (L1 (.i .i64 (.negSucc 0))) E)) (N1 (J 0) (N1 (J 85) (L1 (J 117)) E) (N1 (.i .i64 (.negSucc 0)) (L1 (.i .i64 (.negSucc 0))) E))))) E) E) E)) (M1 (M1 E (M1 (M1 (L1 (.c false 241 8 .u (N1 (.ic 87 (.p 12 0)) (N1 (J 53) (N1 (.p 112 0) (L1 (.b false)) E) (L1 (.m 147))) (N1 (J 96) (L1 (.m 146)) (L1 .m0))))) E) E)) E)) (M1 (M1 (M1 E (M1 (M1 (L1 (.m .u64 [(.ofNat 3464,(U 1125904201810353))])) E) E)) E) (M1 E (M1 (M1 E (L1 (.c false 312 3 .u (N1 (.ic 87 (.p 12 0)) (L1 (U 0)) (L1 (U 1664)))))) E))))),1132,some ⟨11,149,122,(N1 0 (M1 (M1 (M1 (M1 E (M1 E (M1 (M1 E (L1 0)) E))) E) (M1 (M1 E (M1 E (M1 (M1 E (L1 0)) E))) (M1 (M1 E (M1 (M1 E (L1 0)) E)) E))) (M1 (M1 (M1 E (M1 E (M1 (M1 E (L1 0)) E))) (M1 (M1 E (M1 (M1 E (L1 0)) E)) E)) (M1 E (M1 (M1 E (M1 (M1 E (L1 0)) E)) E)))) (M1 (M1 (M1 (M1 (M1 (M1 (M1 (M1 (L1 2825889704044396545) E) (M1 (L1 2825889704044396545) E)) (M1 (M1 (L1 2825889704044396545) E) (L1 2825889704044396545))) (M1 (M1 (M1 (L1 2825889704044396545) E) (M1 (L1 2825889704044396545) E)) (M1 (M1 (L1 2825889704044396545) E) (L1 2825889704044396545)))) (M1 (M1 (M1 (M1 (L1 2825889704044396545) E) (M1 (L1 2825889704044396545) E)) (M1 (M1 (L1 2825889704044396545) E) (L1 2825889704044396545))) (M1 (M1 (M1 (L1 2825889704044396545) E) (L1 2825889704044396545)) (M1 (M1 (L1 2825889704044396545) E) (L1 2825889704044396545))))) (M1 (M1 (M1 (M1 (M1 (L1 2825889704044396545) E) (M1 (L1 2825889704044396545) E)) (M1 (M1 (L1 2825889704044396545) E) (L1 2825889704044396545))) (M1 (M1 (M1 (L1 2825889704044396545) E) (N1 5708798863030157313 (L1 7160393175083778049) (L1 7160393175083778049))) (M1 (M1 (L1 2825889704044396545) E) (L1 2825889704044396545)))) (M1 (M1 (M1 (M1 (L1 2825889704044396545) E) (M1 (L1 2825889704044396545) E)) (M1 (M1 (L1 2825889704044396545) E) (L1 2825889704044396545))) (M1 (M1 (M1 (L1 2825889704044396545) E) (L1 2825889704044396545)) (M1 (M1 (L1 2825889704044396545) E) (L1 2825889704044396545)))))) (M1 (M1 (M1 (M1 (M1 (M1 (L1 2825889704044396545) E) (M1 (L1 2825889704044396545) E)) (M1 (M1 (L1 2825889704044396545) E) (L1 2825889704044396545))) (M1 (M1 (M1 (L1 2825889704044396545) E) (M1 (L1 2825889704044396545) E)) (M1 (M1 (L1 2825889704044396545) E) (L1 2825889704044396545)))) (M1 (M1 (M1 (M1 (L1 2825889704044396545) E) (M1 (L1 2825889704044396545) E)) (M1 (M1 (L1 2825889704044396545) E) (L1 2825889704044396545))) (M1 (M1 (M1 (L1 2825889704044396545) E) (L1 2825889704044396545)) (M1 (M1 (L1 2825889704044396545) E) (L1 2825889704044396545))))) (M1 (M1 (M1 (M1 (M1 (L1 2825889704044396545) E) (M1 (L1 2825889704044396545) E)) (M1 (M1 (L1 2825889704044396545) E) (L1 2825889704044396545))) (M1 (M1 (M1 (L1 2825889704044396545) E) (L1 0)) (M1 (M1 (L1 2825889704044396545) E) (L1 2825889704044396545)))) (M1 (M1 (M1 (M1 (L1 2825889704044396545) E) (M1 (L1 2825889704044396545) E)) (M1 (M1 (L1 2825889704044396545) E) (L1 2825889704044396545))) (M1 (M1 (M1 (L1 2825889704044396545) E) (L1 2825889704044396545)) (M1 (M1 (L1 2825889704044396545) E) (L1 2825889704044396545))))))) (M1 (M1 (M1 E (M1 E (M1 (M1 E (L1 0)) E))) (M1 (M1 E (M1 (M1 E (L1 0)) E)) E)) (M1 E (M1 (M1 E (M1 (M1 E (L1 0)) E)) E)))))⟩⟩
theorem r1:disp prog 5 (lookT t0) 990 91 a1 i1 (fun v S=>eqA v v1&&subS o1 S)=true:=by kernel_rfl
theorem s1:Seg prog T0 91 a1 i1 v1 o1:=seg_of_run (disp_ok hmO t0_ok 990) (of_decide_eq_true (by kernel_rfl)) r1
noncomputable def n1:GA:=segG a1 i1 v1 o1 (gTxt 91)
theorem m1:GS prog T0 91 n1:=segG_ok s1 (gs_Txt rfl)
noncomputable def t1:List (Nat×GA):=(91,n1)::t0
theorem t1_ok:OkT t1:= .cons m1 t0_ok
noncomputable def a2:AV:=(A [(.p 149 0),(.sl 1132 0 1 1 true 2),(.sl 1131 0 1 1 true 1),.s0])
noncomputable def v2:AV:=(J 0)
noncomputable def i2:St:=⟨(M1 (N1 (.g 5 (N1 (J 3) (N1 (J 7) (L1 (J 31)) E) (N1 (J 15) (L1 (J 60)) E))) (M1 E (M1 (M1 E (M1 (M1 (L1 (.m .i64 [(.ofNat 53,(J 1))])) E) E)) (M1 (M1 E (M1 E (M1 (M1 (M1 (L1 (.c false 96 1 .u (L1 (U 1125904201810353)))) E) E) E))) E))) (M1 E (M1 (M1 E (M1 (M1 (L1 (.c false 243 3 .u (N1 (.p 148 0) (L1 (.p 12 0)) (L1 (.p 110 0))))) E) E)) E))) (M1 (N1 (.g 16 (N1 (.i .u32 (.ofNat 0)) (N1 (.i .u32 (.ofNat 274646895)) (N1 (.i .u32 (.ofNat 820201905)) (N1 (.i .u32 (.ofNat 1905808397)) (L1 (.i .u32 (.ofNat 4084100981))) E) (L1 (.i .u32 (.ofNat 2987750089)))) (N1 (.i .u32 (.ofNat 1361435347)) (L1 (.i .u32 (.ofNat 2460548119))) (L1 (.i .u32 (.ofNat 3553878443))))) (N1 (.i .u32 (.ofNat 549293790)) (N1 (.i .u32 (.ofNat 1098587580)) (L1 (.i .u32 (.ofNat 2197175160))) (L1 (.i .u32 (.ofNat 3280807620)))) (N1 (.i .u32 (.ofNat 1640403810)) (L1 (.i .u32 (.ofNat 2722870694))) (L1 (.i .u32 (.ofNat 3811616794))))))) (M1 (M1 E (M1 E (L1 (.c false 321 2 .u (N1 (.ic 87 (.p 12 0)) (L1 (.sl 136 0 3 3 false 4)) E))))) (M1 (M1 (M1 (L1 (.c false 325 12 .u (N1 (J 53) (N1 (J 0) (N1 (.b true) (L1 (.b false)) (L1 (.b false))) (N1 (.i .i64 (.negSucc 0)) (L1 (.i .i64 (.negSucc 0))) E)) (N1 (J 0) (N1 (J 85) (L1 (J 117)) E) (N1 (.i .i64 (.negSucc 0)) (L1 (.i .i64 (.negSucc 0))) E))))) E) E) E)) (M1 (M1 E (M1 (M1 (L1 (.c false 241 8 .u (N1 (.ic 87 (.p 12 0)) (N1 (J 53) (N1 (.p 112 0) (L1 (.b false)) E) (L1 (.m 147))) (N1 (J 96) (L1 (.m 146)) (L1 .m0))))) E) E)) (M1 (M1 E (M1 E (M1 (M1 (M1 (L1 (.c false 255 2 .u (N1 (U 3328) (L1 (U 1125904201810353)) E))) E) E) E))) E))) (M1 (M1 (M1 E (M1 (M1 (L1 (.m .u64 [(.ofNat 3464,(U 1125904201810353))])) E) E)) E) (M1 E (M1 (M1 E (L1 (.c false 312 3 .u (N1 (.ic 87 (.p 12 0)) (L1 (U 0)) (L1 (U 1664)))))) E))))),1133,some ⟨11,149,122,(N1 0 (M1 (M1 (M1 (M1 E (M1 E (M1 (M1 E (L1 0)) E))) E) (M1 (M1 E (M1 E (M1 (M1 E (L1 0)) E))) (M1 (M1 E (M1 (M1 E (L1 0)) E)) E))) (M1 (M1 (M1 E (M1 E (M1 (M1 E (L1 0)) E))) (M1 (M1 E (M1 (M1 E (L1 0)) E)) E)) (M1 E (M1 (M1 E (M1 (M1 E (L1 0)) E)) E)))) (M1 (M1 (M1 (M1 (M1 (M1 (M1 (M1 (L1 2825889704044396545) E) (M1 (L1 2825889704044396545) E)) (M1 (M1 (L1 2825889704044396545) E) (L1 2825889704044396545))) (M1 (M1 (M1 (L1 2825889704044396545) E) (M1 (L1 2825889704044396545) E)) (M1 (M1 (L1 2825889704044396545) E) (L1 2825889704044396545)))) (M1 (M1 (M1 (M1 (L1 2825889704044396545) E) (M1 (L1 2825889704044396545) E)) (M1 (M1 (L1 2825889704044396545) E) (L1 2825889704044396545))) (M1 (M1 (M1 (L1 2825889704044396545) E) (L1 2825889704044396545)) (M1 (M1 (L1 2825889704044396545) E) (L1 2825889704044396545))))) (M1 (M1 (M1 (M1 (M1 (L1 2825889704044396545) E) (M1 (L1 2825889704044396545) E)) (M1 (M1 (L1 2825889704044396545) E) (L1 2825889704044396545))) (M1 (M1 (M1 (L1 2825889704044396545) E) (N1 5708798863030157313 (L1 7160393175083778049) (L1 7160393175083778049))) (M1 (M1 (L1 2825889704044396545) E) (L1 2825889704044396545)))) (M1 (M1 (M1 (M1 (L1 2825889704044396545) E) (M1 (L1 2825889704044396545) E)) (M1 (M1 (L1 2825889704044396545) E) (L1 2825889704044396545))) (M1 (M1 (M1 (L1 2825889704044396545) E) (L1 2825889704044396545)) (M1 (M1 (L1 2825889704044396545) E) (L1 2825889704044396545)))))) (M1 (M1 (M1 (M1 (M1 (M1 (L1 2825889704044396545) E) (M1 (L1 2825889704044396545) E)) (M1 (M1 (L1 2825889704044396545) E) (L1 2825889704044396545))) (M1 (M1 (M1 (L1 2825889704044396545) E) (M1 (L1 2825889704044396545) E)) (M1 (M1 (L1 2825889704044396545) E) (L1 2825889704044396545)))) (M1 (M1 (M1 (M1 (L1 2825889704044396545) E) (M1 (L1 2825889704044396545) E)) (M1 (M1 (L1 2825889704044396545) E) (L1 2825889704044396545))) (M1 (M1 (M1 (L1 2825889704044396545) E) (L1 2825889704044396545)) (M1 (M1 (L1 2825889704044396545) E) (L1 2825889704044396545))))) (M1 (M1 (M1 (M1 (M1 (L1 2825889704044396545) E) (M1 (L1 2825889704044396545) E)) (M1 (M1 (L1 2825889704044396545) E) (L1 2825889704044396545))) (M1 (M1 (M1 (L1 2825889704044396545) E) (L1 0)) (M1 (M1 (L1 2825889704044396545) E) (L1 2825889704044396545)))) (M1 (M1 (M1 (M1 (L1 2825889704044396545) E) (M1 (L1 2825889704044396545) E)) (M1 (M1 (L1 2825889704044396545) E) (L1 2825889704044396545))) (M1 (M1 (M1 (L1 2825889704044396545) E) (L1 2825889704044396545)) (M1 (M1 (L1 2825889704044396545) E) (L1 2825889704044396545))))))) (M1 (M1 (M1 E (M1 E (M1 (M1 E (L1 0)) E))) (M1 (M1 E (M1 (M1 E (L1 0)) E)) E)) (M1 E (M1 (M1 E (M1 (M1 E (L1 0)) E)) E)))))⟩⟩
noncomputable def o2:St:=⟨(M1 (N1 (.g 5 (N1 (J 3) (N1 (J 7) (L1 (J 31)) E) (N1 (J 15) (L1 (J 60)) E))) (M1 E (M1 (M1 E (M1 (M1 (L1 (.m .i64 [])) E) E)) (M1 (M1 E (M1 E (M1 (M1 (M1 (L1 (.c false 96 1 .u (L1 (U 1125904201810353)))) E) E) E))) E))) (M1 E (M1 (M1 E (M1 (M1 (L1 (.c false 243 3 .u (N1 (.p 148 0) (L1 (.p 12 0)) (L1 (.p 110 0))))) E) E)) E))) (M1 (N1 (.g 16 (N1 (.i .u32 (.ofNat 0)) (N1 (.i .u32 (.ofNat 274646895)) (N1 (.i .u32 (.ofNat 820201905)) (N1 (.i .u32 (.ofNat 1905808397)) (L1 (.i .u32 (.ofNat 4084100981))) E) (L1 (.i .u32 (.ofNat 2987750089)))) (N1 (.i .u32 (.ofNat 1361435347)) (L1 (.i .u32 (.ofNat 2460548119))) (L1 (.i .u32 (.ofNat 3553878443))))) (N1 (.i .u32 (.ofNat 549293790)) (N1 (.i .u32 (.ofNat 1098587580)) (L1 (.i .u32 (.ofNat 2197175160))) (L1 (.i .u32 (.ofNat 3280807620)))) (N1 (.i .u32 (.ofNat 1640403810)) (L1 (.i .u32 (.ofNat 2722870694))) (L1 (.i .u32 (.ofNat 3811616794))))))) (M1 (M1 E (M1 E (L1 (.c false 321 2 .u (N1 (.ic 87 (.p 12 0)) (L1 (.sl 136 0 3 3 false 4)) E))))) (M1 (M1 (M1 (L1 (.c false 325 12 .u (N1 (J 53) (N1 (J 0) (N1 (.b false) (L1 (.b false)) (L1 (.b false))) (N1 (.i .i64 (.negSucc 0)) (L1 (.i .i64 (.negSucc 0))) E)) (N1 (J 0) (N1 (J 85) (L1 (J 117)) E) (N1 (.i .i64 (.negSucc 0)) (L1 (.i .i64 (.negSucc 0))) E))))) E) E) E)) (M1 (M1 E (M1 (M1 (L1 (.c false 241 8 .u (N1 (.ic 87 (.p 12 0)) (N1 (J 53) (N1 (.p 112 0) (L1 (.b false)) E) (L1 (.m 147))) (N1 (J 96) (L1 (.m 146)) (L1 .m0))))) E) E)) (M1 (M1 E (M1 E (M1 (M1 (M1 (L1 (.c false 255 2 .u (N1 (U 3328) (L1 (U 1125904201810353)) E))) E) E) E))) E))) (M1 (M1 (M1 E (M1 (M1 (L1 (.m .u64 [])) E) E)) E) (M1 E (M1 (M1 E (L1 (.c false 312 3 .u (N1 (.ic 87 (.p 12 0)) (L1 (U 0)) (L1 (U 1664)))))) E))))),1461,some ⟨11,149,143,(N1 0 (M1 (M1 (M1 (M1 E (M1 E (M1 (M1 E (L1 0)) E))) E) (N1 11229287419650244609 (M1 E (M1 E (M1 (M1 E (L1 0)) E))) (M1 (M1 E (M1 (M1 E (L1 0)) E)) E))) (M1 (N1 1125904201810353 (M1 E (M1 E (M1 (M1 E (L1 0)) E))) (M1 (M1 E (M1 (M1 E (L1 1)) E)) E)) (N1 1 E (M1 (M1 E (M1 (M1 E (L1 0)) E)) E)))) (M1 (M1 (N1 3328 (M1 (M1 (M1 (M1 (M1 (L1 2825889704044396545) E) (M1 (L1 2825889704044396545) E)) (M1 (M1 (L1 2825889704044396545) E) (L1 2825889704044396545))) (M1 (M1 (M1 (L1 2825889704044396545) E) (N1 1125904201810353 (L1 2825889704044396545) E)) (M1 (M1 (L1 2825889704044396545) E) (L1 2825889704044396545)))) (M1 (M1 (M1 (M1 (L1 2825889704044396545) E) (M1 (L1 2825889704044396545) E)) (M1 (M1 (L1 2825889704044396545) E) (L1 2825889704044396545))) (M1 (M1 (M1 (L1 2825889704044396545) E) (L1 11229287419650244609)) (M1 (M1 (L1 2825889704044396545) E) (L1 2825889704044396545))))) (M1 (M1 (M1 (M1 (M1 (L1 2825889704044396545) E) (M1 (L1 2825889704044396545) E)) (M1 (M1 (L1 2825889704044396545) E) (L1 2825889704044396545))) (M1 (M1 (M1 (L1 2825889704044396545) E) (N1 5708798863030157313 (L1 7160393175083778049) (L1 7160393175083778049))) (M1 (M1 (L1 2825889704044396545) E) (L1 2825889704044396545)))) (M1 (M1 (M1 (M1 (L1 2825889704044396545) E) (M1 (L1 2825889704044396545) E)) (M1 (M1 (L1 2825889704044396545) E) (L1 2825889704044396545))) (M1 (M1 (M1 (L1 2825889704044396545) E) (L1 2825889704044396545)) (M1 (M1 (L1 2825889704044396545) E) (L1 2825889704044396545)))))) (N1 3400 (M1 (M1 (M1 (M1 (M1 (L1 2825889704044396545) E) (M1 (L1 2825889704044396545) E)) (M1 (M1 (L1 2825889704044396545) E) (L1 2825889704044396545))) (M1 (M1 (M1 (L1 2825889704044396545) E) (M1 (L1 2825889704044396545) E)) (M1 (M1 (L1 2825889704044396545) E) (L1 2825889704044396545)))) (M1 (M1 (M1 (M1 (L1 2825889704044396545) E) (M1 (L1 2825889704044396545) E)) (M1 (M1 (L1 2825889704044396545) E) (L1 2825889704044396545))) (M1 (M1 (M1 (L1 2825889704044396545) E) (L1 2825889704044396545)) (M1 (M1 (L1 2825889704044396545) E) (L1 2825889704044396545))))) (M1 (M1 (M1 (M1 (M1 (L1 2825889704044396545) E) (M1 (L1 2825889704044396545) E)) (M1 (M1 (L1 2825889704044396545) E) (L1 2825889704044396545))) (M1 (M1 (M1 (L1 2825889704044396545) E) (L1 0)) (M1 (M1 (L1 2825889704044396545) E) (L1 2825889704044396545)))) (M1 (M1 (M1 (M1 (L1 2825889704044396545) E) (M1 (L1 2825889704044396545) E)) (M1 (M1 (L1 2825889704044396545) E) (L1 2825889704044396545))) (M1 (M1 (M1 (L1 2825889704044396545) E) (L1 2825889704044396545)) (M1 (M1 (L1 2825889704044396545) E) (L1 2825889704044396545))))))) (M1 (N1 3456 (M1 E (M1 E (M1 (M1 E (L1 0)) E))) (M1 (M1 E (M1 (M1 E (L1 0)) E)) E)) (M1 E (M1 (M1 E (M1 (M1 E (L1 0)) E)) E)))))⟩⟩
theorem r2:disp prog 5 (lookT t1) 990 75 a2 i2 (fun v S=>eqA v v2&&subS o2 S)=true:=by kernel_rfl
theorem s2:Seg prog T0 75 a2 i2 v2 o2:=seg_of_run (disp_ok hmO t1_ok 990) (of_decide_eq_true (by kernel_rfl)) r2
noncomputable def n2:GA:=segG a2 i2 v2 o2 (gTxt 75)
theorem m2:GS prog T0 75 n2:=segG_ok s2 (gs_Txt rfl)
noncomputable def t2:List (Nat×GA):=(75,n2)::t1
theorem t2_ok:OkT t2:= .cons m2 t1_ok
noncomputable def a3:AV:=(A [(.p 1479 0),(.ic 112 (.p 149 0)),(U 576460752303423489),(U 0)])
noncomputable def v3:AV:=(J 0)
noncomputable def i3:St:=⟨(M1 (N1 (.g 5 (N1 (J 3) (N1 (J 7) (L1 (J 31)) E) (N1 (J 15) (L1 (J 60)) E))) (M1 (M1 E (M1 (M1 (M1 E (M1 E (M1 E (M1 (L1 (.c false 281 1 .u (L1 (U 1125904201810353)))) E)))) E) E)) (M1 (M1 E (M1 (M1 (L1 (.m .i64 [])) E) E)) E)) (M1 E (M1 (M1 E (M1 (M1 (L1 (.c false 243 3 .u (N1 (.p 148 0) (L1 (.p 12 0)) (L1 (.p 110 0))))) E) E)) E))) (M1 (N1 (.g 16 (N1 (.i .u32 (.ofNat 0)) (N1 (.i .u32 (.ofNat 274646895)) (N1 (.i .u32 (.ofNat 820201905)) (N1 (.i .u32 (.ofNat 1905808397)) (L1 (.i .u32 (.ofNat 4084100981))) E) (L1 (.i .u32 (.ofNat 2987750089)))) (N1 (.i .u32 (.ofNat 1361435347)) (L1 (.i .u32 (.ofNat 2460548119))) (L1 (.i .u32 (.ofNat 3553878443))))) (N1 (.i .u32 (.ofNat 549293790)) (N1 (.i .u32 (.ofNat 1098587580)) (L1 (.i .u32 (.ofNat 2197175160))) (L1 (.i .u32 (.ofNat 3280807620)))) (N1 (.i .u32 (.ofNat 1640403810)) (L1 (.i .u32 (.ofNat 2722870694))) (L1 (.i .u32 (.ofNat 3811616794))))))) (M1 (M1 E (M1 E (L1 (.c false 321 2 .u (N1 (.ic 87 (.p 12 0)) (L1 (.sl 136 0 3 3 false 4)) E))))) (M1 (M1 (M1 (L1 (.c false 325 12 .u (N1 (J 53) (N1 (J 0) (N1 (.b false) (L1 (.b false)) (L1 (.b false))) (N1 (.i .i64 (.negSucc 0)) (L1 (.i .i64 (.negSucc 0))) E)) (N1 (J 0) (N1 (J 85) (L1 (J 117)) E) (N1 (.i .i64 (.negSucc 0)) (L1 (.i .i64 (.negSucc 0))) E))))) E) E) E)) (M1 (M1 E (M1 (M1 (L1 (.c false 241 8 .u (N1 (.ic 87 (.p 12 0)) (N1 (J 53) (N1 (.p 112 0) (L1 (.b false)) E) (L1 (.m 147))) (N1 (J 96) (L1 (.m 146)) (L1 .m0))))) E) E)) E)) (M1 (M1 (M1 E (M1 (M1 (L1 (.m .u64 [])) E) E)) E) (M1 E (M1 (M1 E (L1 (.c false 312 3 .u (N1 (.ic 87 (.p 12 0)) (L1 (U 0)) (L1 (U 1664)))))) E))))),1508,some ⟨11,149,143,(N1 0 (M1 (M1 (M1 (M1 E (M1 E (M1 (M1 E (L1 0)) E))) E) (N1 11229287419650244609 (M1 E (M1 E (M1 (M1 E (L1 0)) E))) (M1 (M1 E (M1 (M1 E (L1 0)) E)) E))) (M1 (N1 1125904201810353 (M1 E (M1 E (M1 (M1 E (L1 0)) E))) (M1 (M1 E (M1 (M1 E (L1 1)) E)) E)) (N1 1 E (M1 (M1 E (M1 (M1 E (L1 0)) E)) E)))) (M1 (M1 (N1 3328 (M1 (M1 (M1 (M1 (M1 (L1 2825889704044396545) E) (M1 (L1 2825889704044396545) E)) (M1 (M1 (L1 2825889704044396545) E) (L1 2825889704044396545))) (M1 (M1 (M1 (L1 2825889704044396545) E) (N1 1125904201810353 (L1 2825889704044396545) E)) (M1 (M1 (L1 2825889704044396545) E) (L1 2825889704044396545)))) (M1 (M1 (M1 (M1 (L1 2825889704044396545) E) (M1 (L1 2825889704044396545) E)) (M1 (M1 (L1 2825889704044396545) E) (L1 2825889704044396545))) (M1 (M1 (M1 (L1 2825889704044396545) E) (L1 11229287419650244609)) (M1 (M1 (L1 2825889704044396545) E) (L1 2825889704044396545))))) (M1 (M1 (M1 (M1 (M1 (L1 2825889704044396545) E) (M1 (L1 2825889704044396545) E)) (M1 (M1 (L1 2825889704044396545) E) (L1 2825889704044396545))) (M1 (M1 (M1 (L1 2825889704044396545) E) (N1 5708798863030157313 (L1 7160393175083778049) (L1 7160393175083778049))) (M1 (M1 (L1 2825889704044396545) E) (L1 2825889704044396545)))) (M1 (M1 (M1 (M1 (L1 2825889704044396545) E) (M1 (L1 2825889704044396545) E)) (M1 (M1 (L1 2825889704044396545) E) (L1 2825889704044396545))) (M1 (M1 (M1 (L1 2825889704044396545) E) (L1 2825889704044396545)) (M1 (M1 (L1 2825889704044396545) E) (L1 2825889704044396545)))))) (N1 3400 (M1 (M1 (M1 (M1 (M1 (L1 2825889704044396545) E) (M1 (L1 2825889704044396545) E)) (M1 (M1 (L1 2825889704044396545) E) (L1 2825889704044396545))) (M1 (M1 (M1 (L1 2825889704044396545) E) (M1 (L1 2825889704044396545) E)) (M1 (M1 (L1 2825889704044396545) E) (L1 2825889704044396545)))) (M1 (M1 (M1 (M1 (L1 2825889704044396545) E) (M1 (L1 2825889704044396545) E)) (M1 (M1 (L1 2825889704044396545) E) (L1 2825889704044396545))) (M1 (M1 (M1 (L1 2825889704044396545) E) (L1 2825889704044396545)) (M1 (M1 (L1 2825889704044396545) E) (L1 2825889704044396545))))) (M1 (M1 (M1 (M1 (M1 (L1 2825889704044396545) E) (M1 (L1 2825889704044396545) E)) (M1 (M1 (L1 2825889704044396545) E) (L1 2825889704044396545))) (M1 (M1 (M1 (L1 2825889704044396545) E) (L1 0)) (M1 (M1 (L1 2825889704044396545) E) (L1 2825889704044396545)))) (M1 (M1 (M1 (M1 (L1 2825889704044396545) E) (M1 (L1 2825889704044396545) E)) (M1 (M1 (L1 2825889704044396545) E) (L1 2825889704044396545))) (M1 (M1 (M1 (L1 2825889704044396545) E) (L1 2825889704044396545)) (M1 (M1 (L1 2825889704044396545) E) (L1 2825889704044396545))))))) (M1 (N1 3456 (M1 E (M1 E (M1 (M1 E (L1 0)) E))) (M1 (M1 E (M1 (M1 E (L1 0)) E)) E)) (M1 E (M1 (M1 E (M1 (M1 E (L1 0)) E)) E)))))⟩⟩
noncomputable def o3:St:=⟨(M1 (N1 (.g 5 (N1 (J 3) (N1 (J 7) (L1 (J 31)) E) (N1 (J 15) (L1 (J 60)) E))) (M1 (M1 E (M1 (M1 (M1 E (M1 E (M1 E (M1 (L1 (.c false 281 1 .u (L1 (U 1125904201810353)))) E)))) E) E)) (M1 (M1 E (M1 (M1 (L1 (.m .i64 [])) E) E)) E)) (M1 E (M1 (M1 E (M1 (M1 (L1 (.c false 243 3 .u (N1 (.p 148 0) (L1 (.p 12 0)) (L1 (.p 110 0))))) E) E)) E))) (M1 (N1 (.g 16 (N1 (.i .u32 (.ofNat 0)) (N1 (.i .u32 (.ofNat 274646895)) (N1 (.i .u32 (.ofNat 820201905)) (N1 (.i .u32 (.ofNat 1905808397)) (L1 (.i .u32 (.ofNat 4084100981))) E) (L1 (.i .u32 (.ofNat 2987750089)))) (N1 (.i .u32 (.ofNat 1361435347)) (L1 (.i .u32 (.ofNat 2460548119))) (L1 (.i .u32 (.ofNat 3553878443))))) (N1 (.i .u32 (.ofNat 549293790)) (N1 (.i .u32 (.ofNat 1098587580)) (L1 (.i .u32 (.ofNat 2197175160))) (L1 (.i .u32 (.ofNat 3280807620)))) (N1 (.i .u32 (.ofNat 1640403810)) (L1 (.i .u32 (.ofNat 2722870694))) (L1 (.i .u32 (.ofNat 3811616794))))))) (M1 (M1 E (M1 E (L1 (.c false 321 2 .u (N1 (.ic 87 (.p 12 0)) (L1 (.sl 136 0 3 3 false 4)) E))))) (M1 (M1 (M1 (L1 (.c false 325 12 .u (N1 (J 53) (N1 (J 0) (N1 (.b false) (L1 (.b false)) (L1 (.b false))) (N1 (J 3) (L1 (.i .i64 (.negSucc 0))) E)) (N1 (J 0) (N1 (J 85) (L1 (J 117)) E) (N1 (J 0) (L1 (.i .i64 (.negSucc 0))) E))))) E) E) E)) (M1 (M1 E (M1 (M1 (L1 (.c false 241 8 .u (N1 (.ic 87 (.p 12 0)) (N1 (J 53) (N1 (.p 112 0) (L1 (.b false)) E) (L1 (.m 147))) (N1 (J 96) (L1 (.m 146)) (L1 .m0))))) E) E)) E)) (M1 (M1 (M1 E (M1 (M1 (L1 (.m .u64 [])) E) E)) E) (M1 E (M1 (M1 E (L1 (.c false 312 3 .u (N1 (.ic 87 (.p 12 0)) (L1 (U 0)) (L1 (U 1664)))))) E))))),2504,some ⟨11,149,230,(N1 0 (M1 (M1 (M1 (M1 (M1 (M1 E (M1 E (M1 (L1 0) E))) E) (M1 (M1 E (M1 E (M1 (L1 0) E))) (M1 (M1 E (N1 0 (L1 0) E)) E))) (M1 (M1 (M1 E (M1 E (M1 (L1 0) E))) E) (M1 E (M1 (M1 E (M1 (L1 0) E)) E)))) (N1 17445010209780137985 (M1 (M1 (M1 E (M1 E (M1 (L1 0) E))) E) (M1 E (M1 (M1 E (N1 0 (L1 0) E)) E))) (M1 (M1 (M1 E (M1 E (M1 (L1 0) E))) (M1 (M1 E (N1 0 (L1 0) E)) E)) (M1 E (M1 (M1 E (M1 (L1 0) E)) E))))) (M1 (N1 562954248389297 (M1 (M1 (M1 E (M1 E (M1 (L1 0) E))) E) (M1 E (M1 (M1 E (N1 562954248389297 (L1 1) E)) E))) (M1 (M1 (M1 E (M1 E (M1 (L1 0) E))) (M1 (M1 E (N1 1 (L1 1) E)) E)) (M1 E (M1 (M1 E (M1 (L1 0) E)) E)))) (N1 1 (M1 (M1 (M1 E (M1 E (M1 (L1 0) E))) E) (M1 E (M1 (M1 E (M1 (L1 576460752303423489) E)) E))) (M1 (M1 (M1 E (M1 E (M1 (L1 0) E))) (M1 (M1 E (N1 0 (L1 0) E)) E)) (M1 E (M1 (M1 E (M1 (L1 0) E)) E)))))) (M1 (M1 (N1 3464 (M1 (M1 (M1 (M1 (M1 (L1 2825889704044396545) E) (M1 (L1 2825889704044396545) E)) (M1 (M1 (L1 2825889704044396545) E) (N1 2825889704044396545 (L1 0) E))) (M1 (M1 (M1 (L1 2825889704044396545) E) (N1 1125904201810353 (L1 2825889704044396545) E)) (M1 (M1 (L1 2825889704044396545) E) (L1 2825889704044396545)))) (M1 (M1 (M1 (M1 (L1 2825889704044396545) (L1 2825889704044396545)) (M1 (L1 2825889704044396545) E)) (M1 (M1 (L1 2825889704044396545) (L1 2825889704044396545)) (N1 2825889704044396545 (L1 2825889704044396545) E))) (M1 (M1 (M1 (L1 2825889704044396545) (L1 2825889704044396545)) (N1 11229287419650244609 (L1 17445010209780137985) E)) (M1 (M1 (L1 2825889704044396545) (L1 2825889704044396545)) (N1 2825889704044396545 (L1 2825889704044396545) E))))) (M1 (M1 (M1 (M1 (M1 (L1 2825889704044396545) E) (M1 (L1 2825889704044396545) E)) (M1 (M1 (L1 2825889704044396545) E) (N1 2825889704044396545 (L1 0) E))) (M1 (M1 (M1 (L1 2825889704044396545) E) (N1 5708798863030157313 (L1 1301896511614091265) (L1 7160393175083778049))) (M1 (M1 (L1 2825889704044396545) E) (L1 2825889704044396545)))) (M1 (M1 (M1 (M1 (L1 2825889704044396545) E) (M1 (L1 2825889704044396545) E)) (M1 (M1 (L1 2825889704044396545) E) (L1 2825889704044396545))) (M1 (M1 (M1 (L1 2825889704044396545) E) (N1 2825889704044396545 (L1 0) E)) (M1 (M1 (L1 2825889704044396545) E) (L1 2825889704044396545)))))) (N1 5448 (M1 (M1 (M1 (M1 (M1 (L1 2825889704044396545) E) (M1 (L1 2825889704044396545) E)) (M1 (M1 (L1 2825889704044396545) E) (N1 2825889704044396545 (L1 0) E))) (M1 (M1 (M1 (L1 2825889704044396545) E) (M1 (L1 2825889704044396545) E)) (M1 (M1 (L1 2825889704044396545) E) (L1 2825889704044396545)))) (M1 (M1 (M1 (M1 (L1 2825889704044396545) E) (M1 (L1 2825889704044396545) E)) (M1 (M1 (L1 2825889704044396545) E) (L1 2825889704044396545))) (M1 (M1 (M1 (L1 2825889704044396545) E) (N1 2825889704044396545 (L1 0) E)) (M1 (M1 (L1 2825889704044396545) E) (L1 2825889704044396545))))) (M1 (M1 (M1 (M1 (M1 (L1 2825889704044396545) E) (M1 (L1 2825889704044396545) E)) (M1 (M1 (L1 2825889704044396545) E) (N1 2825889704044396545 (L1 0) E))) (M1 (M1 (M1 (L1 2825889704044396545) E) (N1 0 (L1 0) E)) (M1 (M1 (L1 2825889704044396545) E) (L1 2825889704044396545)))) (M1 (M1 (M1 (M1 (L1 2825889704044396545) E) (M1 (L1 2825889704044396545) E)) (M1 (M1 (L1 2825889704044396545) E) (L1 2825889704044396545))) (M1 (M1 (M1 (L1 2825889704044396545) E) (N1 2825889704044396545 (L1 0) E)) (M1 (M1 (L1 2825889704044396545) E) (L1 2825889704044396545))))))) (M1 (N1 5504 (M1 (M1 (M1 E (M1 E (M1 (L1 0) E))) E) (M1 E (M1 (M1 E (N1 0 (L1 0) E)) E))) (M1 (M1 (M1 E (M1 E (M1 (L1 0) E))) (M1 (M1 E (N1 0 (L1 0) E)) E)) (M1 E (M1 (M1 E (M1 (L1 0) E)) E)))) (M1 (M1 (M1 (M1 E (M1 E (M1 (L1 0) E))) E) (M1 E (M1 (M1 E (M1 (L1 0) E)) E))) (M1 (M1 (M1 E (M1 E (M1 (L1 0) E))) (M1 (M1 E (N1 0 (L1 0) E)) E)) (M1 E (M1 (M1 E (M1 (L1 0) E)) E)))))))⟩⟩
theorem r3:disp prog 5 (lookT t2) 990 96 a3 i3 (fun v S=>eqA v v3&&subS o3 S)=true:=by kernel_rfl
theorem s3:Seg prog T0 96 a3 i3 v3 o3:=seg_of_run (disp_ok hmO t2_ok 990) (of_decide_eq_true (by kernel_rfl)) r3
noncomputable def n3:GA:=segG a3 i3 v3 o3 (gTxt 96)
theorem m3:GS prog T0 96 n3:=segG_ok s3 (gs_Txt rfl)
noncomputable def t3:List (Nat×GA):=(96,n3)::t2
theorem t3_ok:OkT t3:= .cons m3 t2_ok
noncomputable def a4:AV:=(A [(.p 1479 0),(.ic 112 (.p 149 0)),(U 576460752303423490),(U 0)])
noncomputable def v4:AV:=(J 0)
noncomputable def i4:St:=⟨(M1 (N1 (.g 5 (N1 (J 3) (N1 (J 7) (L1 (J 31)) E) (N1 (J 15) (L1 (J 60)) E))) (M1 (M1 E (M1 (M1 (M1 E (M1 E (M1 E (M1 (L1 (.c false 281 1 .u (L1 (U 1125904201810353)))) E)))) E) E)) (M1 (M1 E (M1 (M1 (L1 (.m .i64 [])) E) E)) E)) (M1 E (M1 (M1 E (M1 (M1 (L1 (.c false 243 3 .u (N1 (.p 148 0) (L1 (.p 12 0)) (L1 (.p 110 0))))) E) E)) E))) (M1 (N1 (.g 16 (N1 (.i .u32 (.ofNat 0)) (N1 (.i .u32 (.ofNat 274646895)) (N1 (.i .u32 (.ofNat 820201905)) (N1 (.i .u32 (.ofNat 1905808397)) (L1 (.i .u32 (.ofNat 4084100981))) E) (L1 (.i .u32 (.ofNat 2987750089)))) (N1 (.i .u32 (.ofNat 1361435347)) (L1 (.i .u32 (.ofNat 2460548119))) (L1 (.i .u32 (.ofNat 3553878443))))) (N1 (.i .u32 (.ofNat 549293790)) (N1 (.i .u32 (.ofNat 1098587580)) (L1 (.i .u32 (.ofNat 2197175160))) (L1 (.i .u32 (.ofNat 3280807620)))) (N1 (.i .u32 (.ofNat 1640403810)) (L1 (.i .u32 (.ofNat 2722870694))) (L1 (.i .u32 (.ofNat 3811616794))))))) (M1 (M1 E (M1 E (L1 (.c false 321 2 .u (N1 (.ic 87 (.p 12 0)) (L1 (.sl 136 0 3 3 false 4)) E))))) (M1 (M1 (M1 (L1 (.c false 325 12 .u (N1 (J 53) (N1 (J 0) (N1 (.b false) (L1 (.b false)) (L1 (.b false))) (N1 (J 3) (L1 (.i .i64 (.negSucc 0))) E)) (N1 (J 0) (N1 (J 85) (L1 (J 117)) E) (N1 (J 0) (L1 (.i .i64 (.negSucc 0))) E))))) E) E) E)) (M1 (M1 E (M1 (M1 (L1 (.c false 241 8 .u (N1 (.ic 87 (.p 12 0)) (N1 (J 53) (N1 (.p 112 0) (L1 (.b false)) E) (L1 (.m 147))) (N1 (J 96) (L1 (.m 146)) (L1 .m0))))) E) E)) E)) (M1 (M1 (M1 E (M1 (M1 (L1 (.m .u64 [])) E) E)) E) (M1 E (M1 (M1 E (L1 (.c false 312 3 .u (N1 (.ic 87 (.p 12 0)) (L1 (U 0)) (L1 (U 1664)))))) E))))),2719,some ⟨11,149,230,(N1 0 (M1 (M1 (M1 (M1 (M1 (M1 E (M1 E (M1 (L1 0) E))) E) (M1 (M1 E (M1 E (M1 (L1 0) E))) (M1 (M1 E (N1 0 (L1 0) E)) E))) (M1 (M1 (M1 E (M1 E (M1 (L1 0) E))) E) (M1 E (M1 (M1 E (M1 (L1 0) E)) E)))) (N1 17445010209780137985 (M1 (M1 (M1 E (M1 E (M1 (L1 0) E))) E) (M1 E (M1 (M1 E (N1 0 (L1 0) E)) E))) (M1 (M1 (M1 E (M1 E (M1 (L1 0) E))) (M1 (M1 E (N1 0 (L1 0) E)) E)) (M1 E (M1 (M1 E (M1 (L1 0) E)) E))))) (M1 (N1 562954248389297 (M1 (M1 (M1 E (M1 E (M1 (L1 0) E))) E) (M1 E (M1 (M1 E (N1 562954248389297 (L1 1) E)) E))) (M1 (M1 (M1 E (M1 E (M1 (L1 0) E))) (M1 (M1 E (N1 1 (L1 1) E)) E)) (M1 E (M1 (M1 E (M1 (L1 0) E)) E)))) (N1 1 (M1 (M1 (M1 E (M1 E (M1 (L1 0) E))) E) (M1 E (M1 (M1 E (M1 (L1 576460752303423489) E)) E))) (M1 (M1 (M1 E (M1 E (M1 (L1 0) E))) (M1 (M1 E (N1 0 (L1 0) E)) E)) (M1 E (M1 (M1 E (M1 (L1 0) E)) E)))))) (M1 (M1 (N1 3464 (M1 (M1 (M1 (M1 (M1 (L1 2825889704044396545) E) (M1 (L1 2825889704044396545) E)) (M1 (M1 (L1 2825889704044396545) E) (N1 2825889704044396545 (L1 0) E))) (M1 (M1 (M1 (L1 2825889704044396545) E) (N1 1125904201810353 (L1 2825889704044396545) E)) (M1 (M1 (L1 2825889704044396545) E) (L1 2825889704044396545)))) (M1 (M1 (M1 (M1 (L1 2825889704044396545) (L1 2825889704044396545)) (M1 (L1 2825889704044396545) E)) (M1 (M1 (L1 2825889704044396545) (L1 2825889704044396545)) (N1 2825889704044396545 (L1 2825889704044396545) E))) (M1 (M1 (M1 (L1 2825889704044396545) (L1 2825889704044396545)) (N1 11229287419650244609 (L1 17445010209780137985) E)) (M1 (M1 (L1 2825889704044396545) (L1 2825889704044396545)) (N1 2825889704044396545 (L1 2825889704044396545) E))))) (M1 (M1 (M1 (M1 (M1 (L1 2825889704044396545) E) (M1 (L1 2825889704044396545) E)) (M1 (M1 (L1 2825889704044396545) E) (N1 2825889704044396545 (L1 0) E))) (M1 (M1 (M1 (L1 2825889704044396545) E) (N1 5708798863030157313 (L1 1301896511614091265) (L1 7160393175083778049))) (M1 (M1 (L1 2825889704044396545) E) (L1 2825889704044396545)))) (M1 (M1 (M1 (M1 (L1 2825889704044396545) E) (M1 (L1 2825889704044396545) E)) (M1 (M1 (L1 2825889704044396545) E) (L1 2825889704044396545))) (M1 (M1 (M1 (L1 2825889704044396545) E) (N1 2825889704044396545 (L1 0) E)) (M1 (M1 (L1 2825889704044396545) E) (L1 2825889704044396545)))))) (N1 5448 (M1 (M1 (M1 (M1 (M1 (L1 2825889704044396545) E) (M1 (L1 2825889704044396545) E)) (M1 (M1 (L1 2825889704044396545) E) (N1 2825889704044396545 (L1 0) E))) (M1 (M1 (M1 (L1 2825889704044396545) E) (M1 (L1 2825889704044396545) E)) (M1 (M1 (L1 2825889704044396545) E) (L1 2825889704044396545)))) (M1 (M1 (M1 (M1 (L1 2825889704044396545) E) (M1 (L1 2825889704044396545) E)) (M1 (M1 (L1 2825889704044396545) E) (L1 2825889704044396545))) (M1 (M1 (M1 (L1 2825889704044396545) E) (N1 2825889704044396545 (L1 0) E)) (M1 (M1 (L1 2825889704044396545) E) (L1 2825889704044396545))))) (M1 (M1 (M1 (M1 (M1 (L1 2825889704044396545) E) (M1 (L1 2825889704044396545) E)) (M1 (M1 (L1 2825889704044396545) E) (N1 2825889704044396545 (L1 0) E))) (M1 (M1 (M1 (L1 2825889704044396545) E) (N1 0 (L1 0) E)) (M1 (M1 (L1 2825889704044396545) E) (L1 2825889704044396545)))) (M1 (M1 (M1 (M1 (L1 2825889704044396545) E) (M1 (L1 2825889704044396545) E)) (M1 (M1 (L1 2825889704044396545) E) (L1 2825889704044396545))) (M1 (M1 (M1 (L1 2825889704044396545) E) (N1 2825889704044396545 (L1 0) E)) (M1 (M1 (L1 2825889704044396545) E) (L1 2825889704044396545))))))) (M1 (N1 5504 (M1 (M1 (M1 E (M1 E (M1 (L1 0) E))) E) (M1 E (M1 (M1 E (N1 0 (L1 0) E)) E))) (M1 (M1 (M1 E (M1 E (M1 (L1 0) E))) (M1 (M1 E (N1 0 (L1 0) E)) E)) (M1 E (M1 (M1 E (M1 (L1 0) E)) E)))) (M1 (M1 (M1 (M1 E (M1 E (M1 (L1 0) E))) E) (M1 E (M1 (M1 E (M1 (L1 0) E)) E))) (M1 (M1 (M1 E (M1 E (M1 (L1 0) E))) (M1 (M1 E (N1 0 (L1 0) E)) E)) (M1 E (M1 (M1 E (M1 (L1 0) E)) E)))))))⟩⟩
noncomputable def o4:St:=⟨(M1 (N1 (.g 5 (N1 (J 3) (N1 (J 7) (L1 (J 31)) E) (N1 (J 15) (L1 (J 60)) E))) (M1 (M1 E (M1 (M1 (M1 E (M1 E (M1 E (M1 (L1 (.c false 281 1 .u (L1 (U 1125904201810353)))) E)))) E) E)) (M1 (M1 E (M1 (M1 (L1 (.m .i64 [])) E) E)) E)) (M1 E (M1 (M1 E (M1 (M1 (L1 (.c false 243 3 .u (N1 (.p 148 0) (L1 (.p 12 0)) (L1 (.p 110 0))))) E) E)) E))) (M1 (N1 (.g 16 (N1 (.i .u32 (.ofNat 0)) (N1 (.i .u32 (.ofNat 274646895)) (N1 (.i .u32 (.ofNat 820201905)) (N1 (.i .u32 (.ofNat 1905808397)) (L1 (.i .u32 (.ofNat 4084100981))) E) (L1 (.i .u32 (.ofNat 2987750089)))) (N1 (.i .u32 (.ofNat 1361435347)) (L1 (.i .u32 (.ofNat 2460548119))) (L1 (.i .u32 (.ofNat 3553878443))))) (N1 (.i .u32 (.ofNat 549293790)) (N1 (.i .u32 (.ofNat 1098587580)) (L1 (.i .u32 (.ofNat 2197175160))) (L1 (.i .u32 (.ofNat 3280807620)))) (N1 (.i .u32 (.ofNat 1640403810)) (L1 (.i .u32 (.ofNat 2722870694))) (L1 (.i .u32 (.ofNat 3811616794))))))) (M1 (M1 E (M1 E (L1 (.c false 321 2 .u (N1 (.ic 87 (.p 12 0)) (L1 (.sl 136 0 3 3 false 4)) E))))) (M1 (M1 (M1 (L1 (.c false 325 12 .u (N1 (J 53) (N1 (J 0) (N1 (.b false) (L1 (.b false)) (L1 (.b false))) (N1 (J 3) (L1 (.i .i64 (.negSucc 0))) E)) (N1 (J 0) (N1 (J 85) (L1 (J 117)) E) (N1 (J 0) (L1 (.i .i64 (.negSucc 0))) E))))) E) E) E)) (M1 (M1 E (M1 (M1 (L1 (.c false 241 8 .u (N1 (.ic 87 (.p 12 0)) (N1 (J 53) (N1 (.p 112 0) (L1 (.b false)) E) (L1 (.m 147))) (N1 (J 96) (L1 (.m 146)) (L1 .m0))))) E) E)) E)) (M1 (M1 (M1 E (M1 (M1 (L1 (.m .u64 [])) E) E)) E) (M1 E (M1 (M1 E (L1 (.c false 312 3 .u (N1 (.ic 87 (.p 12 0)) (L1 (U 0)) (L1 (U 1664)))))) E))))),3271,some ⟨11,149,246,(N1 0 (M1 (M1 (M1 (M1 (M1 (M1 E (M1 E (M1 (L1 0) E))) E) (M1 (M1 E (M1 E (M1 (L1 0) E))) (M1 (M1 E (N1 0 (L1 0) E)) E))) (M1 (M1 (M1 E (M1 E (M1 (L1 0) E))) E) (M1 E (M1 (M1 E (M1 (L1 0) E)) E)))) (N1 576460752303423490 (M1 (M1 (M1 E (M1 E (M1 (L1 0) E))) E) (M1 E (M1 (M1 E (N1 0 (L1 0) E)) E))) (M1 (M1 (M1 E (M1 E (M1 (L1 0) E))) (M1 (M1 E (N1 0 (L1 0) E)) E)) (M1 E (M1 (M1 E (M1 (L1 0) E)) E))))) (M1 (N1 4503599627370754 (M1 (M1 (M1 E (M1 E (M1 (L1 0) E))) E) (M1 E (M1 (M1 E (N1 562954248389297 (L1 4503599627370754) E)) E))) (M1 (M1 (M1 E (M1 E (M1 (L1 0) E))) (M1 (M1 E (N1 1 (L1 1) E)) E)) (M1 E (M1 (M1 E (M1 (L1 0) E)) E)))) (N1 1 (M1 (M1 (M1 E (M1 E (M1 (L1 0) E))) E) (M1 E (M1 (M1 E (M1 (L1 576460752303423489) E)) E))) (M1 (M1 (M1 E (M1 E (M1 (L1 0) E))) (M1 (M1 E (N1 0 (L1 0) E)) E)) (M1 E (M1 (M1 E (M1 (L1 0) E)) E)))))) (M1 (M1 (N1 5512 (M1 (M1 (M1 (M1 (M1 (L1 2825889704044396545) E) (M1 (L1 2825889704044396545) E)) (M1 (M1 (L1 2825889704044396545) E) (N1 2825889704044396545 (L1 0) E))) (M1 (M1 (M1 (L1 2825889704044396545) E) (N1 1125904201810353 (L1 2825889704044396545) E)) (M1 (M1 (L1 2825889704044396545) E) (L1 2825889704044396545)))) (M1 (M1 (M1 (M1 (L1 2825889704044396545) (L1 2825889704044396545)) (M1 (L1 2825889704044396545) E)) (M1 (M1 (L1 2825889704044396545) (L1 2825889704044396545)) (N1 2825889704044396545 (L1 2825889704044396545) E))) (M1 (M1 (M1 (L1 2825889704044396545) (L1 2825889704044396545)) (N1 11229287419650244609 (L1 17445010209780137985) E)) (M1 (M1 (L1 2825889704044396545) (L1 2825889704044396545)) (N1 2825889704044396545 (L1 2825889704044396545) E))))) (M1 (M1 (M1 (M1 (M1 (L1 2825889704044396545) E) (M1 (L1 2825889704044396545) E)) (M1 (M1 (L1 2825889704044396545) E) (N1 2825889704044396545 (L1 0) E))) (M1 (M1 (M1 (L1 2825889704044396545) E) (N1 5708798863030157313 (L1 1301896511614091265) (L1 7160393175083778049))) (M1 (M1 (L1 2825889704044396545) E) (L1 2825889704044396545)))) (M1 (M1 (M1 (M1 (L1 2825889704044396545) E) (M1 (L1 2825889704044396545) E)) (M1 (M1 (L1 2825889704044396545) E) (L1 2825889704044396545))) (M1 (M1 (M1 (L1 2825889704044396545) E) (N1 2825889704044396545 (L1 0) E)) (M1 (M1 (L1 2825889704044396545) E) (L1 2825889704044396545)))))) (N1 5448 (M1 (M1 (M1 (M1 (M1 (L1 2825889704044396545) E) (M1 (L1 2825889704044396545) E)) (M1 (M1 (L1 2825889704044396545) E) (N1 2825889704044396545 (L1 0) E))) (M1 (M1 (M1 (L1 2825889704044396545) E) (M1 (L1 2825889704044396545) E)) (M1 (M1 (L1 2825889704044396545) E) (L1 2825889704044396545)))) (M1 (M1 (M1 (M1 (L1 2825889704044396545) E) (M1 (L1 2825889704044396545) E)) (M1 (M1 (L1 2825889704044396545) E) (L1 2825889704044396545))) (M1 (M1 (M1 (L1 2825889704044396545) E) (N1 2825889704044396545 (L1 0) E)) (M1 (M1 (L1 2825889704044396545) E) (L1 2825889704044396545))))) (M1 (M1 (M1 (M1 (M1 (L1 2825889704044396545) E) (M1 (L1 2825889704044396545) E)) (M1 (M1 (L1 2825889704044396545) E) (N1 2825889704044396545 (L1 0) E))) (M1 (M1 (M1 (L1 2825889704044396545) E) (N1 0 (L1 0) E)) (M1 (M1 (L1 2825889704044396545) E) (L1 2825889704044396545)))) (M1 (M1 (M1 (M1 (L1 2825889704044396545) E) (M1 (L1 2825889704044396545) E)) (M1 (M1 (L1 2825889704044396545) E) (L1 2825889704044396545))) (M1 (M1 (M1 (L1 2825889704044396545) E) (N1 2825889704044396545 (L1 0) E)) (M1 (M1 (L1 2825889704044396545) E) (L1 2825889704044396545))))))) (M1 (N1 5552 (M1 (M1 (M1 E (M1 E (M1 (L1 0) E))) E) (M1 E (M1 (M1 E (N1 0 (L1 0) E)) E))) (M1 (M1 (M1 E (M1 E (M1 (L1 0) E))) (M1 (M1 E (N1 0 (L1 0) E)) E)) (M1 E (M1 (M1 E (M1 (L1 0) E)) E)))) (M1 (M1 (M1 (M1 E (M1 E (M1 (L1 0) E))) E) (M1 E (M1 (M1 E (M1 (L1 576460752303423490) E)) E))) (M1 (M1 (M1 E (M1 E (M1 (L1 0) E))) (M1 (M1 E (N1 0 (L1 0) E)) E)) (M1 E (M1 (M1 E (M1 (L1 0) E)) E)))))))⟩⟩
theorem r4:disp prog 5 (lookT t3) 990 96 a4 i4 (fun v S=>eqA v v4&&subS o4 S)=true:=by kernel_rfl
theorem s4:Seg prog T0 96 a4 i4 v4 o4:=seg_of_run (disp_ok hmO t3_ok 990) (of_decide_eq_true (by kernel_rfl)) r4
noncomputable def n4:GA:=segG a4 i4 v4 o4 (n3)
theorem m4:GS prog T0 96 n4:=segG_ok s4 (m3)
noncomputable def t4:List (Nat×GA):=(96,n4)::t3
theorem t4_ok:OkT t4:= .cons m4 t3_ok
noncomputable def a5:AV:=(A [(.p 1479 0),(.ic 112 (.p 149 0)),(U 576460752303423489)])
noncomputable def v5:AV:=(.tu (A [(U 0),(J 5)]))
noncomputable def i5:St:=⟨(M1 (N1 (.g 5 (N1 (J 3) (N1 (J 7) (L1 (J 31)) E) (N1 (J 15) (L1 (J 60)) E))) (M1 (M1 E (M1 (M1 (M1 E (M1 E (M1 E (M1 (L1 (.c false 281 1 .u (L1 (U 1125904201810353)))) E)))) E) E)) (M1 (M1 E (M1 (M1 (L1 (.m .i64 [])) E) E)) E)) (M1 E (M1 (M1 E (M1 (M1 (L1 (.c false 243 3 .u (N1 (.p 148 0) (L1 (.p 12 0)) (L1 (.p 110 0))))) E) E)) E))) (M1 (N1 (.g 16 (N1 (.i .u32 (.ofNat 0)) (N1 (.i .u32 (.ofNat 274646895)) (N1 (.i .u32 (.ofNat 820201905)) (N1 (.i .u32 (.ofNat 1905808397)) (L1 (.i .u32 (.ofNat 4084100981))) E) (L1 (.i .u32 (.ofNat 2987750089)))) (N1 (.i .u32 (.ofNat 1361435347)) (L1 (.i .u32 (.ofNat 2460548119))) (L1 (.i .u32 (.ofNat 3553878443))))) (N1 (.i .u32 (.ofNat 549293790)) (N1 (.i .u32 (.ofNat 1098587580)) (L1 (.i .u32 (.ofNat 2197175160))) (L1 (.i .u32 (.ofNat 3280807620)))) (N1 (.i .u32 (.ofNat 1640403810)) (L1 (.i .u32 (.ofNat 2722870694))) (L1 (.i .u32 (.ofNat 3811616794))))))) (M1 (M1 E (M1 E (L1 (.c false 321 2 .u (N1 (.ic 87 (.p 12 0)) (L1 (.sl 136 0 3 3 false 4)) E))))) (M1 (M1 (M1 (L1 (.c false 325 12 .u (N1 (J 53) (N1 (J 0) (N1 (.b false) (L1 (.b false)) (L1 (.b false))) (N1 (.i .i64 (.negSucc 0)) (L1 (.i .i64 (.negSucc 0))) E)) (N1 (J 0) (N1 (J 85) (L1 (J 117)) E) (N1 (.i .i64 (.negSucc 0)) (L1 (.i .i64 (.negSucc 0))) E))))) E) E) E)) (M1 (M1 E (M1 (M1 (L1 (.c false 241 8 .u (N1 (.ic 87 (.p 12 0)) (N1 (J 53) (N1 (.p 112 0) (L1 (.b false)) E) (L1 (.m 147))) (N1 (J 96) (L1 (.m 146)) (L1 .m0))))) E) E)) E)) (M1 (M1 (M1 E (M1 (M1 (L1 (.m .u64 [])) E) E)) E) (M1 E (M1 (M1 E (L1 (.c false 312 3 .u (N1 (.ic 87 (.p 12 0)) (L1 (U 0)) (L1 (U 1664)))))) E))))),1489,some ⟨11,149,143,(N1 0 (M1 (M1 (M1 (M1 E (M1 E (M1 (M1 E (L1 0)) E))) E) (N1 11229287419650244609 (M1 E (M1 E (M1 (M1 E (L1 0)) E))) (M1 (M1 E (M1 (M1 E (L1 0)) E)) E))) (M1 (N1 1125904201810353 (M1 E (M1 E (M1 (M1 E (L1 0)) E))) (M1 (M1 E (M1 (M1 E (L1 1)) E)) E)) (N1 1 E (M1 (M1 E (M1 (M1 E (L1 0)) E)) E)))) (M1 (M1 (N1 3328 (M1 (M1 (M1 (M1 (M1 (L1 2825889704044396545) E) (M1 (L1 2825889704044396545) E)) (M1 (M1 (L1 2825889704044396545) E) (L1 2825889704044396545))) (M1 (M1 (M1 (L1 2825889704044396545) E) (N1 1125904201810353 (L1 2825889704044396545) E)) (M1 (M1 (L1 2825889704044396545) E) (L1 2825889704044396545)))) (M1 (M1 (M1 (M1 (L1 2825889704044396545) E) (M1 (L1 2825889704044396545) E)) (M1 (M1 (L1 2825889704044396545) E) (L1 2825889704044396545))) (M1 (M1 (M1 (L1 2825889704044396545) E) (L1 11229287419650244609)) (M1 (M1 (L1 2825889704044396545) E) (L1 2825889704044396545))))) (M1 (M1 (M1 (M1 (M1 (L1 2825889704044396545) E) (M1 (L1 2825889704044396545) E)) (M1 (M1 (L1 2825889704044396545) E) (L1 2825889704044396545))) (M1 (M1 (M1 (L1 2825889704044396545) E) (N1 5708798863030157313 (L1 7160393175083778049) (L1 7160393175083778049))) (M1 (M1 (L1 2825889704044396545) E) (L1 2825889704044396545)))) (M1 (M1 (M1 (M1 (L1 2825889704044396545) E) (M1 (L1 2825889704044396545) E)) (M1 (M1 (L1 2825889704044396545) E) (L1 2825889704044396545))) (M1 (M1 (M1 (L1 2825889704044396545) E) (L1 2825889704044396545)) (M1 (M1 (L1 2825889704044396545) E) (L1 2825889704044396545)))))) (N1 3400 (M1 (M1 (M1 (M1 (M1 (L1 2825889704044396545) E) (M1 (L1 2825889704044396545) E)) (M1 (M1 (L1 2825889704044396545) E) (L1 2825889704044396545))) (M1 (M1 (M1 (L1 2825889704044396545) E) (M1 (L1 2825889704044396545) E)) (M1 (M1 (L1 2825889704044396545) E) (L1 2825889704044396545)))) (M1 (M1 (M1 (M1 (L1 2825889704044396545) E) (M1 (L1 2825889704044396545) E)) (M1 (M1 (L1 2825889704044396545) E) (L1 2825889704044396545))) (M1 (M1 (M1 (L1 2825889704044396545) E) (L1 2825889704044396545)) (M1 (M1 (L1 2825889704044396545) E) (L1 2825889704044396545))))) (M1 (M1 (M1 (M1 (M1 (L1 2825889704044396545) E) (M1 (L1 2825889704044396545) E)) (M1 (M1 (L1 2825889704044396545) E) (L1 2825889704044396545))) (M1 (M1 (M1 (L1 2825889704044396545) E) (L1 0)) (M1 (M1 (L1 2825889704044396545) E) (L1 2825889704044396545)))) (M1 (M1 (M1 (M1 (L1 2825889704044396545) E) (M1 (L1 2825889704044396545) E)) (M1 (M1 (L1 2825889704044396545) E) (L1 2825889704044396545))) (M1 (M1 (M1 (L1 2825889704044396545) E) (L1 2825889704044396545)) (M1 (M1 (L1 2825889704044396545) E) (L1 2825889704044396545))))))) (M1 (N1 3456 (M1 E (M1 E (M1 (M1 E (L1 0)) E))) (M1 (M1 E (M1 (M1 E (L1 0)) E)) E)) (M1 E (M1 (M1 E (M1 (M1 E (L1 0)) E)) E)))))⟩⟩
noncomputable def o5:St:=⟨(M1 (N1 (.g 5 (N1 (J 3) (N1 (J 7) (L1 (J 31)) E) (N1 (J 15) (L1 (J 60)) E))) (M1 (M1 E (M1 (M1 (M1 E (M1 E (M1 E (M1 (L1 (.c false 281 1 .u (L1 (U 1125904201810353)))) E)))) E) E)) (M1 (M1 E (M1 (M1 (L1 (.m .i64 [])) E) E)) E)) (M1 E (M1 (M1 E (M1 (M1 (L1 (.c false 243 3 .u (N1 (.p 148 0) (L1 (.p 12 0)) (L1 (.p 110 0))))) E) E)) E))) (M1 (N1 (.g 16 (N1 (.i .u32 (.ofNat 0)) (N1 (.i .u32 (.ofNat 274646895)) (N1 (.i .u32 (.ofNat 820201905)) (N1 (.i .u32 (.ofNat 1905808397)) (L1 (.i .u32 (.ofNat 4084100981))) E) (L1 (.i .u32 (.ofNat 2987750089)))) (N1 (.i .u32 (.ofNat 1361435347)) (L1 (.i .u32 (.ofNat 2460548119))) (L1 (.i .u32 (.ofNat 3553878443))))) (N1 (.i .u32 (.ofNat 549293790)) (N1 (.i .u32 (.ofNat 1098587580)) (L1 (.i .u32 (.ofNat 2197175160))) (L1 (.i .u32 (.ofNat 3280807620)))) (N1 (.i .u32 (.ofNat 1640403810)) (L1 (.i .u32 (.ofNat 2722870694))) (L1 (.i .u32 (.ofNat 3811616794))))))) (M1 (M1 E (M1 E (L1 (.c false 321 2 .u (N1 (.ic 87 (.p 12 0)) (L1 (.sl 136 0 3 3 false 4)) E))))) (M1 (M1 (M1 (L1 (.c false 325 12 .u (N1 (J 53) (N1 (J 0) (N1 (.b false) (L1 (.b false)) (L1 (.b false))) (N1 (.i .i64 (.negSucc 0)) (L1 (.i .i64 (.negSucc 0))) E)) (N1 (J 0) (N1 (J 85) (L1 (J 117)) E) (N1 (.i .i64 (.negSucc 0)) (L1 (.i .i64 (.negSucc 0))) E))))) E) E) E)) (M1 (M1 E (M1 (M1 (L1 (.c false 241 8 .u (N1 (.ic 87 (.p 12 0)) (N1 (J 53) (N1 (.p 112 0) (L1 (.b false)) E) (L1 (.m 147))) (N1 (J 96) (L1 (.m 146)) (L1 .m0))))) E) E)) E)) (M1 (M1 (M1 E (M1 (M1 (L1 (.m .u64 [])) E) E)) E) (M1 E (M1 (M1 E (L1 (.c false 312 3 .u (N1 (.ic 87 (.p 12 0)) (L1 (U 0)) (L1 (U 1664)))))) E))))),1508,some ⟨11,149,143,(N1 0 (M1 (M1 (M1 (M1 E (M1 E (M1 (M1 E (L1 0)) E))) E) (N1 11229287419650244609 (M1 E (M1 E (M1 (M1 E (L1 0)) E))) (M1 (M1 E (M1 (M1 E (L1 0)) E)) E))) (M1 (N1 1125904201810353 (M1 E (M1 E (M1 (M1 E (L1 0)) E))) (M1 (M1 E (M1 (M1 E (L1 1)) E)) E)) (N1 1 E (M1 (M1 E (M1 (M1 E (L1 0)) E)) E)))) (M1 (M1 (N1 3328 (M1 (M1 (M1 (M1 (M1 (L1 2825889704044396545) E) (M1 (L1 2825889704044396545) E)) (M1 (M1 (L1 2825889704044396545) E) (L1 2825889704044396545))) (M1 (M1 (M1 (L1 2825889704044396545) E) (N1 1125904201810353 (L1 2825889704044396545) E)) (M1 (M1 (L1 2825889704044396545) E) (L1 2825889704044396545)))) (M1 (M1 (M1 (M1 (L1 2825889704044396545) E) (M1 (L1 2825889704044396545) E)) (M1 (M1 (L1 2825889704044396545) E) (L1 2825889704044396545))) (M1 (M1 (M1 (L1 2825889704044396545) E) (L1 11229287419650244609)) (M1 (M1 (L1 2825889704044396545) E) (L1 2825889704044396545))))) (M1 (M1 (M1 (M1 (M1 (L1 2825889704044396545) E) (M1 (L1 2825889704044396545) E)) (M1 (M1 (L1 2825889704044396545) E) (L1 2825889704044396545))) (M1 (M1 (M1 (L1 2825889704044396545) E) (N1 5708798863030157313 (L1 7160393175083778049) (L1 7160393175083778049))) (M1 (M1 (L1 2825889704044396545) E) (L1 2825889704044396545)))) (M1 (M1 (M1 (M1 (L1 2825889704044396545) E) (M1 (L1 2825889704044396545) E)) (M1 (M1 (L1 2825889704044396545) E) (L1 2825889704044396545))) (M1 (M1 (M1 (L1 2825889704044396545) E) (L1 2825889704044396545)) (M1 (M1 (L1 2825889704044396545) E) (L1 2825889704044396545)))))) (N1 3400 (M1 (M1 (M1 (M1 (M1 (L1 2825889704044396545) E) (M1 (L1 2825889704044396545) E)) (M1 (M1 (L1 2825889704044396545) E) (L1 2825889704044396545))) (M1 (M1 (M1 (L1 2825889704044396545) E) (M1 (L1 2825889704044396545) E)) (M1 (M1 (L1 2825889704044396545) E) (L1 2825889704044396545)))) (M1 (M1 (M1 (M1 (L1 2825889704044396545) E) (M1 (L1 2825889704044396545) E)) (M1 (M1 (L1 2825889704044396545) E) (L1 2825889704044396545))) (M1 (M1 (M1 (L1 2825889704044396545) E) (L1 2825889704044396545)) (M1 (M1 (L1 2825889704044396545) E) (L1 2825889704044396545))))) (M1 (M1 (M1 (M1 (M1 (L1 2825889704044396545) E) (M1 (L1 2825889704044396545) E)) (M1 (M1 (L1 2825889704044396545) E) (L1 2825889704044396545))) (M1 (M1 (M1 (L1 2825889704044396545) E) (L1 0)) (M1 (M1 (L1 2825889704044396545) E) (L1 2825889704044396545)))) (M1 (M1 (M1 (M1 (L1 2825889704044396545) E) (M1 (L1 2825889704044396545) E)) (M1 (M1 (L1 2825889704044396545) E) (L1 2825889704044396545))) (M1 (M1 (M1 (L1 2825889704044396545) E) (L1 2825889704044396545)) (M1 (M1 (L1 2825889704044396545) E) (L1 2825889704044396545))))))) (M1 (N1 3456 (M1 E (M1 E (M1 (M1 E (L1 0)) E))) (M1 (M1 E (M1 (M1 E (L1 0)) E)) E)) (M1 E (M1 (M1 E (M1 (M1 E (L1 0)) E)) E)))))⟩⟩
theorem r5:disp prog 5 (lookT t4) 990 95 a5 i5 (fun v S=>eqA v v5&&subS o5 S)=true:=by kernel_rfl
theorem s5:Seg prog T0 95 a5 i5 v5 o5:=seg_of_run (disp_ok hmO t4_ok 990) (of_decide_eq_true (by kernel_rfl)) r5
noncomputable def n5:GA:=segG a5 i5 v5 o5 (gTxt 95)
theorem m5:GS prog T0 95 n5:=segG_ok s5 (gs_Txt rfl)
noncomputable def t5:List (Nat×GA):=(95,n5)::t4
theorem t5_ok:OkT t5:= .cons m5 t4_ok
noncomputable def a6:AV:=(A [(.p 1479 0),(.ic 112 (.p 149 0)),(U 576460752303423490)])
noncomputable def v6:AV:=(.tu (A [(U 0),(J 5)]))
noncomputable def i6:St:=⟨(M1 (N1 (.g 5 (N1 (J 3) (N1 (J 7) (L1 (J 31)) E) (N1 (J 15) (L1 (J 60)) E))) (M1 (M1 E (M1 (M1 (M1 E (M1 E (M1 E (M1 (L1 (.c false 281 1 .u (L1 (U 1125904201810353)))) E)))) E) E)) (M1 (M1 E (M1 (M1 (L1 (.m .i64 [])) E) E)) E)) (M1 E (M1 (M1 E (M1 (M1 (L1 (.c false 243 3 .u (N1 (.p 148 0) (L1 (.p 12 0)) (L1 (.p 110 0))))) E) E)) E))) (M1 (N1 (.g 16 (N1 (.i .u32 (.ofNat 0)) (N1 (.i .u32 (.ofNat 274646895)) (N1 (.i .u32 (.ofNat 820201905)) (N1 (.i .u32 (.ofNat 1905808397)) (L1 (.i .u32 (.ofNat 4084100981))) E) (L1 (.i .u32 (.ofNat 2987750089)))) (N1 (.i .u32 (.ofNat 1361435347)) (L1 (.i .u32 (.ofNat 2460548119))) (L1 (.i .u32 (.ofNat 3553878443))))) (N1 (.i .u32 (.ofNat 549293790)) (N1 (.i .u32 (.ofNat 1098587580)) (L1 (.i .u32 (.ofNat 2197175160))) (L1 (.i .u32 (.ofNat 3280807620)))) (N1 (.i .u32 (.ofNat 1640403810)) (L1 (.i .u32 (.ofNat 2722870694))) (L1 (.i .u32 (.ofNat 3811616794))))))) (M1 (M1 E (M1 E (L1 (.c false 321 2 .u (N1 (.ic 87 (.p 12 0)) (L1 (.sl 136 0 3 3 false 4)) E))))) (M1 (M1 (M1 (L1 (.c false 325 12 .u (N1 (J 53) (N1 (J 0) (N1 (.b false) (L1 (.b false)) (L1 (.b false))) (N1 (J 3) (L1 (.i .i64 (.negSucc 0))) E)) (N1 (J 0) (N1 (J 85) (L1 (J 117)) E) (N1 (J 0) (L1 (.i .i64 (.negSucc 0))) E))))) E) E) E)) (M1 (M1 E (M1 (M1 (L1 (.c false 241 8 .u (N1 (.ic 87 (.p 12 0)) (N1 (J 53) (N1 (.p 112 0) (L1 (.b false)) E) (L1 (.m 147))) (N1 (J 96) (L1 (.m 146)) (L1 .m0))))) E) E)) E)) (M1 (M1 (M1 E (M1 (M1 (L1 (.m .u64 [])) E) E)) E) (M1 E (M1 (M1 E (L1 (.c false 312 3 .u (N1 (.ic 87 (.p 12 0)) (L1 (U 0)) (L1 (U 1664)))))) E))))),2512,some ⟨11,149,230,(N1 0 (M1 (M1 (M1 (M1 (M1 (M1 E (M1 E (M1 (L1 0) E))) E) (M1 (M1 E (M1 E (M1 (L1 0) E))) (M1 (M1 E (N1 0 (L1 0) E)) E))) (M1 (M1 (M1 E (M1 E (M1 (L1 0) E))) E) (M1 E (M1 (M1 E (M1 (L1 0) E)) E)))) (N1 17445010209780137985 (M1 (M1 (M1 E (M1 E (M1 (L1 0) E))) E) (M1 E (M1 (M1 E (N1 0 (L1 0) E)) E))) (M1 (M1 (M1 E (M1 E (M1 (L1 0) E))) (M1 (M1 E (N1 0 (L1 0) E)) E)) (M1 E (M1 (M1 E (M1 (L1 0) E)) E))))) (M1 (N1 562954248389297 (M1 (M1 (M1 E (M1 E (M1 (L1 0) E))) E) (M1 E (M1 (M1 E (N1 562954248389297 (L1 1) E)) E))) (M1 (M1 (M1 E (M1 E (M1 (L1 0) E))) (M1 (M1 E (N1 1 (L1 1) E)) E)) (M1 E (M1 (M1 E (M1 (L1 0) E)) E)))) (N1 1 (M1 (M1 (M1 E (M1 E (M1 (L1 0) E))) E) (M1 E (M1 (M1 E (M1 (L1 576460752303423489) E)) E))) (M1 (M1 (M1 E (M1 E (M1 (L1 0) E))) (M1 (M1 E (N1 0 (L1 0) E)) E)) (M1 E (M1 (M1 E (M1 (L1 0) E)) E)))))) (M1 (M1 (N1 3464 (M1 (M1 (M1 (M1 (M1 (L1 2825889704044396545) E) (M1 (L1 2825889704044396545) E)) (M1 (M1 (L1 2825889704044396545) E) (N1 2825889704044396545 (L1 0) E))) (M1 (M1 (M1 (L1 2825889704044396545) E) (N1 1125904201810353 (L1 2825889704044396545) E)) (M1 (M1 (L1 2825889704044396545) E) (L1 2825889704044396545)))) (M1 (M1 (M1 (M1 (L1 2825889704044396545) (L1 2825889704044396545)) (M1 (L1 2825889704044396545) E)) (M1 (M1 (L1 2825889704044396545) (L1 2825889704044396545)) (N1 2825889704044396545 (L1 2825889704044396545) E))) (M1 (M1 (M1 (L1 2825889704044396545) (L1 2825889704044396545)) (N1 11229287419650244609 (L1 17445010209780137985) E)) (M1 (M1 (L1 2825889704044396545) (L1 2825889704044396545)) (N1 2825889704044396545 (L1 2825889704044396545) E))))) (M1 (M1 (M1 (M1 (M1 (L1 2825889704044396545) E) (M1 (L1 2825889704044396545) E)) (M1 (M1 (L1 2825889704044396545) E) (N1 2825889704044396545 (L1 0) E))) (M1 (M1 (M1 (L1 2825889704044396545) E) (N1 5708798863030157313 (L1 1301896511614091265) (L1 7160393175083778049))) (M1 (M1 (L1 2825889704044396545) E) (L1 2825889704044396545)))) (M1 (M1 (M1 (M1 (L1 2825889704044396545) E) (M1 (L1 2825889704044396545) E)) (M1 (M1 (L1 2825889704044396545) E) (L1 2825889704044396545))) (M1 (M1 (M1 (L1 2825889704044396545) E) (N1 2825889704044396545 (L1 0) E)) (M1 (M1 (L1 2825889704044396545) E) (L1 2825889704044396545)))))) (N1 5448 (M1 (M1 (M1 (M1 (M1 (L1 2825889704044396545) E) (M1 (L1 2825889704044396545) E)) (M1 (M1 (L1 2825889704044396545) E) (N1 2825889704044396545 (L1 0) E))) (M1 (M1 (M1 (L1 2825889704044396545) E) (M1 (L1 2825889704044396545) E)) (M1 (M1 (L1 2825889704044396545) E) (L1 2825889704044396545)))) (M1 (M1 (M1 (M1 (L1 2825889704044396545) E) (M1 (L1 2825889704044396545) E)) (M1 (M1 (L1 2825889704044396545) E) (L1 2825889704044396545))) (M1 (M1 (M1 (L1 2825889704044396545) E) (N1 2825889704044396545 (L1 0) E)) (M1 (M1 (L1 2825889704044396545) E) (L1 2825889704044396545))))) (M1 (M1 (M1 (M1 (M1 (L1 2825889704044396545) E) (M1 (L1 2825889704044396545) E)) (M1 (M1 (L1 2825889704044396545) E) (N1 2825889704044396545 (L1 0) E))) (M1 (M1 (M1 (L1 2825889704044396545) E) (N1 0 (L1 0) E)) (M1 (M1 (L1 2825889704044396545) E) (L1 2825889704044396545)))) (M1 (M1 (M1 (M1 (L1 2825889704044396545) E) (M1 (L1 2825889704044396545) E)) (M1 (M1 (L1 2825889704044396545) E) (L1 2825889704044396545))) (M1 (M1 (M1 (L1 2825889704044396545) E) (N1 2825889704044396545 (L1 0) E)) (M1 (M1 (L1 2825889704044396545) E) (L1 2825889704044396545))))))) (M1 (N1 5504 (M1 (M1 (M1 E (M1 E (M1 (L1 0) E))) E) (M1 E (M1 (M1 E (N1 0 (L1 0) E)) E))) (M1 (M1 (M1 E (M1 E (M1 (L1 0) E))) (M1 (M1 E (N1 0 (L1 0) E)) E)) (M1 E (M1 (M1 E (M1 (L1 0) E)) E)))) (M1 (M1 (M1 (M1 E (M1 E (M1 (L1 0) E))) E) (M1 E (M1 (M1 E (M1 (L1 0) E)) E))) (M1 (M1 (M1 E (M1 E (M1 (L1 0) E))) (M1 (M1 E (N1 0 (L1 0) E)) E)) (M1 E (M1 (M1 E (M1 (L1 0) E)) E)))))))⟩⟩
noncomputable def o6:St:=⟨(M1 (N1 (.g 5 (N1 (J 3) (N1 (J 7) (L1 (J 31)) E) (N1 (J 15) (L1 (J 60)) E))) (M1 (M1 E (M1 (M1 (M1 E (M1 E (M1 E (M1 (L1 (.c false 281 1 .u (L1 (U 1125904201810353)))) E)))) E) E)) (M1 (M1 E (M1 (M1 (L1 (.m .i64 [])) E) E)) E)) (M1 E (M1 (M1 E (M1 (M1 (L1 (.c false 243 3 .u (N1 (.p 148 0) (L1 (.p 12 0)) (L1 (.p 110 0))))) E) E)) E))) (M1 (N1 (.g 16 (N1 (.i .u32 (.ofNat 0)) (N1 (.i .u32 (.ofNat 274646895)) (N1 (.i .u32 (.ofNat 820201905)) (N1 (.i .u32 (.ofNat 1905808397)) (L1 (.i .u32 (.ofNat 4084100981))) E) (L1 (.i .u32 (.ofNat 2987750089)))) (N1 (.i .u32 (.ofNat 1361435347)) (L1 (.i .u32 (.ofNat 2460548119))) (L1 (.i .u32 (.ofNat 3553878443))))) (N1 (.i .u32 (.ofNat 549293790)) (N1 (.i .u32 (.ofNat 1098587580)) (L1 (.i .u32 (.ofNat 2197175160))) (L1 (.i .u32 (.ofNat 3280807620)))) (N1 (.i .u32 (.ofNat 1640403810)) (L1 (.i .u32 (.ofNat 2722870694))) (L1 (.i .u32 (.ofNat 3811616794))))))) (M1 (M1 E (M1 E (L1 (.c false 321 2 .u (N1 (.ic 87 (.p 12 0)) (L1 (.sl 136 0 3 3 false 4)) E))))) (M1 (M1 (M1 (L1 (.c false 325 12 .u (N1 (J 53) (N1 (J 0) (N1 (.b false) (L1 (.b false)) (L1 (.b false))) (N1 (J 3) (L1 (.i .i64 (.negSucc 0))) E)) (N1 (J 0) (N1 (J 85) (L1 (J 117)) E) (N1 (J 0) (L1 (.i .i64 (.negSucc 0))) E))))) E) E) E)) (M1 (M1 E (M1 (M1 (L1 (.c false 241 8 .u (N1 (.ic 87 (.p 12 0)) (N1 (J 53) (N1 (.p 112 0) (L1 (.b false)) E) (L1 (.m 147))) (N1 (J 96) (L1 (.m 146)) (L1 .m0))))) E) E)) E)) (M1 (M1 (M1 E (M1 (M1 (L1 (.m .u64 [])) E) E)) E) (M1 E (M1 (M1 E (L1 (.c false 312 3 .u (N1 (.ic 87 (.p 12 0)) (L1 (U 0)) (L1 (U 1664)))))) E))))),2719,some ⟨11,149,230,(N1 0 (M1 (M1 (M1 (M1 (M1 (M1 E (M1 E (M1 (L1 0) E))) E) (M1 (M1 E (M1 E (M1 (L1 0) E))) (M1 (M1 E (N1 0 (L1 0) E)) E))) (M1 (M1 (M1 E (M1 E (M1 (L1 0) E))) E) (M1 E (M1 (M1 E (M1 (L1 0) E)) E)))) (N1 17445010209780137985 (M1 (M1 (M1 E (M1 E (M1 (L1 0) E))) E) (M1 E (M1 (M1 E (N1 0 (L1 0) E)) E))) (M1 (M1 (M1 E (M1 E (M1 (L1 0) E))) (M1 (M1 E (N1 0 (L1 0) E)) E)) (M1 E (M1 (M1 E (M1 (L1 0) E)) E))))) (M1 (N1 562954248389297 (M1 (M1 (M1 E (M1 E (M1 (L1 0) E))) E) (M1 E (M1 (M1 E (N1 562954248389297 (L1 1) E)) E))) (M1 (M1 (M1 E (M1 E (M1 (L1 0) E))) (M1 (M1 E (N1 1 (L1 1) E)) E)) (M1 E (M1 (M1 E (M1 (L1 0) E)) E)))) (N1 1 (M1 (M1 (M1 E (M1 E (M1 (L1 0) E))) E) (M1 E (M1 (M1 E (M1 (L1 576460752303423489) E)) E))) (M1 (M1 (M1 E (M1 E (M1 (L1 0) E))) (M1 (M1 E (N1 0 (L1 0) E)) E)) (M1 E (M1 (M1 E (M1 (L1 0) E)) E)))))) (M1 (M1 (N1 3464 (M1 (M1 (M1 (M1 (M1 (L1 2825889704044396545) E) (M1 (L1 2825889704044396545) E)) (M1 (M1 (L1 2825889704044396545) E) (N1 2825889704044396545 (L1 0) E))) (M1 (M1 (M1 (L1 2825889704044396545) E) (N1 1125904201810353 (L1 2825889704044396545) E)) (M1 (M1 (L1 2825889704044396545) E) (L1 2825889704044396545)))) (M1 (M1 (M1 (M1 (L1 2825889704044396545) (L1 2825889704044396545)) (M1 (L1 2825889704044396545) E)) (M1 (M1 (L1 2825889704044396545) (L1 2825889704044396545)) (N1 2825889704044396545 (L1 2825889704044396545) E))) (M1 (M1 (M1 (L1 2825889704044396545) (L1 2825889704044396545)) (N1 11229287419650244609 (L1 17445010209780137985) E)) (M1 (M1 (L1 2825889704044396545) (L1 2825889704044396545)) (N1 2825889704044396545 (L1 2825889704044396545) E))))) (M1 (M1 (M1 (M1 (M1 (L1 2825889704044396545) E) (M1 (L1 2825889704044396545) E)) (M1 (M1 (L1 2825889704044396545) E) (N1 2825889704044396545 (L1 0) E))) (M1 (M1 (M1 (L1 2825889704044396545) E) (N1 5708798863030157313 (L1 1301896511614091265) (L1 7160393175083778049))) (M1 (M1 (L1 2825889704044396545) E) (L1 2825889704044396545)))) (M1 (M1 (M1 (M1 (L1 2825889704044396545) E) (M1 (L1 2825889704044396545) E)) (M1 (M1 (L1 2825889704044396545) E) (L1 2825889704044396545))) (M1 (M1 (M1 (L1 2825889704044396545) E) (N1 2825889704044396545 (L1 0) E)) (M1 (M1 (L1 2825889704044396545) E) (L1 2825889704044396545)))))) (N1 5448 (M1 (M1 (M1 (M1 (M1 (L1 2825889704044396545) E) (M1 (L1 2825889704044396545) E)) (M1 (M1 (L1 2825889704044396545) E) (N1 2825889704044396545 (L1 0) E))) (M1 (M1 (M1 (L1 2825889704044396545) E) (M1 (L1 2825889704044396545) E)) (M1 (M1 (L1 2825889704044396545) E) (L1 2825889704044396545)))) (M1 (M1 (M1 (M1 (L1 2825889704044396545) E) (M1 (L1 2825889704044396545) E)) (M1 (M1 (L1 2825889704044396545) E) (L1 2825889704044396545))) (M1 (M1 (M1 (L1 2825889704044396545) E) (N1 2825889704044396545 (L1 0) E)) (M1 (M1 (L1 2825889704044396545) E) (L1 2825889704044396545))))) (M1 (M1 (M1 (M1 (M1 (L1 2825889704044396545) E) (M1 (L1 2825889704044396545) E)) (M1 (M1 (L1 2825889704044396545) E) (N1 2825889704044396545 (L1 0) E))) (M1 (M1 (M1 (L1 2825889704044396545) E) (N1 0 (L1 0) E)) (M1 (M1 (L1 2825889704044396545) E) (L1 2825889704044396545)))) (M1 (M1 (M1 (M1 (L1 2825889704044396545) E) (M1 (L1 2825889704044396545) E)) (M1 (M1 (L1 2825889704044396545) E) (L1 2825889704044396545))) (M1 (M1 (M1 (L1 2825889704044396545) E) (N1 2825889704044396545 (L1 0) E)) (M1 (M1 (L1 2825889704044396545) E) (L1 2825889704044396545))))))) (M1 (N1 5504 (M1 (M1 (M1 E (M1 E (M1 (L1 0) E))) E) (M1 E (M1 (M1 E (N1 0 (L1 0) E)) E))) (M1 (M1 (M1 E (M1 E (M1 (L1 0) E))) (M1 (M1 E (N1 0 (L1 0) E)) E)) (M1 E (M1 (M1 E (M1 (L1 0) E)) E)))) (M1 (M1 (M1 (M1 E (M1 E (M1 (L1 0) E))) E) (M1 E (M1 (M1 E (M1 (L1 0) E)) E))) (M1 (M1 (M1 E (M1 E (M1 (L1 0) E))) (M1 (M1 E (N1 0 (L1 0) E)) E)) (M1 E (M1 (M1 E (M1 (L1 0) E)) E)))))))⟩⟩
theorem r6:disp prog 5 (lookT t5) 990 95 a6 i6 (fun v S=>eqA v v6&&subS o6 S)=true:=by kernel_rfl
theorem s6:Seg prog T0 95 a6 i6 v6 o6:=seg_of_run (disp_ok hmO t5_ok 990) (of_decide_eq_true (by kernel_rfl)) r6
noncomputable def n6:GA:=segG a6 i6 v6 o6 (n5)
theorem m6:GS prog T0 95 n6:=segG_ok s6 (m5)
noncomputable def t6:List (Nat×GA):=(95,n6)::t5
theorem t6_ok:OkT t6:= .cons m6 t5_ok
noncomputable def a7:AV:=(A [(.p 1479 0),(.ic 112 (.p 149 0)),(U 576460778073227267)])
noncomputable def v7:AV:=(.tu (A [(U 0),(J 5)]))
noncomputable def i7:St:=⟨(M1 (N1 (.g 5 (N1 (J 3) (N1 (J 7) (L1 (J 31)) E) (N1 (J 15) (L1 (J 60)) E))) (M1 (M1 E (M1 (M1 (M1 E (M1 E (M1 E (M1 (L1 (.c false 281 1 .u (L1 (U 1125904201810353)))) E)))) E) E)) (M1 (M1 E (M1 (M1 (L1 (.m .i64 [])) E) E)) E)) (M1 E (M1 (M1 E (M1 (M1 (L1 (.c false 243 3 .u (N1 (.p 148 0) (L1 (.p 12 0)) (L1 (.p 110 0))))) E) E)) E))) (M1 (N1 (.g 16 (N1 (.i .u32 (.ofNat 0)) (N1 (.i .u32 (.ofNat 274646895)) (N1 (.i .u32 (.ofNat 820201905)) (N1 (.i .u32 (.ofNat 1905808397)) (L1 (.i .u32 (.ofNat 4084100981))) E) (L1 (.i .u32 (.ofNat 2987750089)))) (N1 (.i .u32 (.ofNat 1361435347)) (L1 (.i .u32 (.ofNat 2460548119))) (L1 (.i .u32 (.ofNat 3553878443))))) (N1 (.i .u32 (.ofNat 549293790)) (N1 (.i .u32 (.ofNat 1098587580)) (L1 (.i .u32 (.ofNat 2197175160))) (L1 (.i .u32 (.ofNat 3280807620)))) (N1 (.i .u32 (.ofNat 1640403810)) (L1 (.i .u32 (.ofNat 2722870694))) (L1 (.i .u32 (.ofNat 3811616794))))))) (M1 (M1 E (M1 E (L1 (.c false 321 2 .u (N1 (.ic 87 (.p 12 0)) (L1 (.sl 136 0 3 3 false 4)) E))))) (M1 (M1 (M1 (L1 (.c false 325 12 .u (N1 (J 53) (N1 (J 0) (N1 (.b false) (L1 (.b false)) (L1 (.b false))) (N1 (J 3) (L1 (.i .i64 (.negSucc 0))) E)) (N1 (J 0) (N1 (J 85) (L1 (J 117)) E) (N1 (J 0) (L1 (.i .i64 (.negSucc 0))) E))))) E) E) E)) (M1 (M1 E (M1 (M1 (L1 (.c false 241 8 .u (N1 (.ic 87 (.p 12 0)) (N1 (J 53) (N1 (.p 112 0) (L1 (.b false)) E) (L1 (.m 147))) (N1 (J 96) (L1 (.m 146)) (L1 .m0))))) E) E)) E)) (M1 (M1 (M1 E (M1 (M1 (L1 (.m .u64 [])) E) E)) E) (M1 E (M1 (M1 E (L1 (.c false 312 3 .u (N1 (.ic 87 (.p 12 0)) (L1 (U 0)) (L1 (U 1664)))))) E))))),3279,some ⟨11,149,246,(N1 0 (M1 (M1 (M1 (M1 (M1 (M1 E (M1 E (M1 (L1 0) E))) E) (M1 (M1 E (M1 E (M1 (L1 0) E))) (M1 (M1 E (N1 0 (L1 0) E)) E))) (M1 (M1 (M1 E (M1 E (M1 (L1 0) E))) E) (M1 E (M1 (M1 E (M1 (L1 0) E)) E)))) (N1 576460752303423490 (M1 (M1 (M1 E (M1 E (M1 (L1 0) E))) E) (M1 E (M1 (M1 E (N1 0 (L1 0) E)) E))) (M1 (M1 (M1 E (M1 E (M1 (L1 0) E))) (M1 (M1 E (N1 0 (L1 0) E)) E)) (M1 E (M1 (M1 E (M1 (L1 0) E)) E))))) (M1 (N1 4503599627370754 (M1 (M1 (M1 E (M1 E (M1 (L1 0) E))) E) (M1 E (M1 (M1 E (N1 562954248389297 (L1 4503599627370754) E)) E))) (M1 (M1 (M1 E (M1 E (M1 (L1 0) E))) (M1 (M1 E (N1 1 (L1 1) E)) E)) (M1 E (M1 (M1 E (M1 (L1 0) E)) E)))) (N1 1 (M1 (M1 (M1 E (M1 E (M1 (L1 0) E))) E) (M1 E (M1 (M1 E (M1 (L1 576460752303423489) E)) E))) (M1 (M1 (M1 E (M1 E (M1 (L1 0) E))) (M1 (M1 E (N1 0 (L1 0) E)) E)) (M1 E (M1 (M1 E (M1 (L1 0) E)) E)))))) (M1 (M1 (N1 5512 (M1 (M1 (M1 (M1 (M1 (L1 2825889704044396545) E) (M1 (L1 2825889704044396545) E)) (M1 (M1 (L1 2825889704044396545) E) (N1 2825889704044396545 (L1 0) E))) (M1 (M1 (M1 (L1 2825889704044396545) E) (N1 1125904201810353 (L1 2825889704044396545) E)) (M1 (M1 (L1 2825889704044396545) E) (L1 2825889704044396545)))) (M1 (M1 (M1 (M1 (L1 2825889704044396545) (L1 2825889704044396545)) (M1 (L1 2825889704044396545) E)) (M1 (M1 (L1 2825889704044396545) (L1 2825889704044396545)) (N1 2825889704044396545 (L1 2825889704044396545) E))) (M1 (M1 (M1 (L1 2825889704044396545) (L1 2825889704044396545)) (N1 11229287419650244609 (L1 17445010209780137985) E)) (M1 (M1 (L1 2825889704044396545) (L1 2825889704044396545)) (N1 2825889704044396545 (L1 2825889704044396545) E))))) (M1 (M1 (M1 (M1 (M1 (L1 2825889704044396545) E) (M1 (L1 2825889704044396545) E)) (M1 (M1 (L1 2825889704044396545) E) (N1 2825889704044396545 (L1 0) E))) (M1 (M1 (M1 (L1 2825889704044396545) E) (N1 5708798863030157313 (L1 1301896511614091265) (L1 7160393175083778049))) (M1 (M1 (L1 2825889704044396545) E) (L1 2825889704044396545)))) (M1 (M1 (M1 (M1 (L1 2825889704044396545) E) (M1 (L1 2825889704044396545) E)) (M1 (M1 (L1 2825889704044396545) E) (L1 2825889704044396545))) (M1 (M1 (M1 (L1 2825889704044396545) E) (N1 2825889704044396545 (L1 0) E)) (M1 (M1 (L1 2825889704044396545) E) (L1 2825889704044396545)))))) (N1 5448 (M1 (M1 (M1 (M1 (M1 (L1 2825889704044396545) E) (M1 (L1 2825889704044396545) E)) (M1 (M1 (L1 2825889704044396545) E) (N1 2825889704044396545 (L1 0) E))) (M1 (M1 (M1 (L1 2825889704044396545) E) (M1 (L1 2825889704044396545) E)) (M1 (M1 (L1 2825889704044396545) E) (L1 2825889704044396545)))) (M1 (M1 (M1 (M1 (L1 2825889704044396545) E) (M1 (L1 2825889704044396545) E)) (M1 (M1 (L1 2825889704044396545) E) (L1 2825889704044396545))) (M1 (M1 (M1 (L1 2825889704044396545) E) (N1 2825889704044396545 (L1 0) E)) (M1 (M1 (L1 2825889704044396545) E) (L1 2825889704044396545))))) (M1 (M1 (M1 (M1 (M1 (L1 2825889704044396545) E) (M1 (L1 2825889704044396545) E)) (M1 (M1 (L1 2825889704044396545) E) (N1 2825889704044396545 (L1 0) E))) (M1 (M1 (M1 (L1 2825889704044396545) E) (N1 0 (L1 0) E)) (M1 (M1 (L1 2825889704044396545) E) (L1 2825889704044396545)))) (M1 (M1 (M1 (M1 (L1 2825889704044396545) E) (M1 (L1 2825889704044396545) E)) (M1 (M1 (L1 2825889704044396545) E) (L1 2825889704044396545))) (M1 (M1 (M1 (L1 2825889704044396545) E) (N1 2825889704044396545 (L1 0) E)) (M1 (M1 (L1 2825889704044396545) E) (L1 2825889704044396545))))))) (M1 (N1 5552 (M1 (M1 (M1 E (M1 E (M1 (L1 0) E))) E) (M1 E (M1 (M1 E (N1 0 (L1 0) E)) E))) (M1 (M1 (M1 E (M1 E (M1 (L1 0) E))) (M1 (M1 E (N1 0 (L1 0) E)) E)) (M1 E (M1 (M1 E (M1 (L1 0) E)) E)))) (M1 (M1 (M1 (M1 E (M1 E (M1 (L1 0) E))) E) (M1 E (M1 (M1 E (M1 (L1 576460752303423490) E)) E))) (M1 (M1 (M1 E (M1 E (M1 (L1 0) E))) (M1 (M1 E (N1 0 (L1 0) E)) E)) (M1 E (M1 (M1 E (M1 (L1 0) E)) E)))))))⟩⟩
noncomputable def o7:St:=⟨(M1 (N1 (.g 5 (N1 (J 3) (N1 (J 7) (L1 (J 31)) E) (N1 (J 15) (L1 (J 60)) E))) (M1 (M1 E (M1 (M1 (M1 E (M1 E (M1 E (M1 (L1 (.c false 281 1 .u (L1 (U 1125904201810353)))) E)))) E) E)) (M1 (M1 E (M1 (M1 (L1 (.m .i64 [])) E) E)) E)) (M1 E (M1 (M1 E (M1 (M1 (L1 (.c false 243 3 .u (N1 (.p 148 0) (L1 (.p 12 0)) (L1 (.p 110 0))))) E) E)) E))) (M1 (N1 (.g 16 (N1 (.i .u32 (.ofNat 0)) (N1 (.i .u32 (.ofNat 274646895)) (N1 (.i .u32 (.ofNat 820201905)) (N1 (.i .u32 (.ofNat 1905808397)) (L1 (.i .u32 (.ofNat 4084100981))) E) (L1 (.i .u32 (.ofNat 2987750089)))) (N1 (.i .u32 (.ofNat 1361435347)) (L1 (.i .u32 (.ofNat 2460548119))) (L1 (.i .u32 (.ofNat 3553878443))))) (N1 (.i .u32 (.ofNat 549293790)) (N1 (.i .u32 (.ofNat 1098587580)) (L1 (.i .u32 (.ofNat 2197175160))) (L1 (.i .u32 (.ofNat 3280807620)))) (N1 (.i .u32 (.ofNat 1640403810)) (L1 (.i .u32 (.ofNat 2722870694))) (L1 (.i .u32 (.ofNat 3811616794))))))) (M1 (M1 E (M1 E (L1 (.c false 321 2 .u (N1 (.ic 87 (.p 12 0)) (L1 (.sl 136 0 3 3 false 4)) E))))) (M1 (M1 (M1 (L1 (.c false 325 12 .u (N1 (J 53) (N1 (J 0) (N1 (.b false) (L1 (.b false)) (L1 (.b false))) (N1 (J 3) (L1 (.i .i64 (.negSucc 0))) E)) (N1 (J 0) (N1 (J 85) (L1 (J 117)) E) (N1 (J 0) (L1 (.i .i64 (.negSucc 0))) E))))) E) E) E)) (M1 (M1 E (M1 (M1 (L1 (.c false 241 8 .u (N1 (.ic 87 (.p 12 0)) (N1 (J 53) (N1 (.p 112 0) (L1 (.b false)) E) (L1 (.m 147))) (N1 (J 96) (L1 (.m 146)) (L1 .m0))))) E) E)) E)) (M1 (M1 (M1 E (M1 (M1 (L1 (.m .u64 [])) E) E)) E) (M1 E (M1 (M1 E (L1 (.c false 312 3 .u (N1 (.ic 87 (.p 12 0)) (L1 (U 0)) (L1 (U 1664)))))) E))))),3518,some ⟨11,149,246,(N1 0 (M1 (M1 (M1 (M1 (M1 (M1 E (M1 E (M1 (L1 0) E))) E) (M1 (M1 E (M1 E (M1 (L1 0) E))) (M1 (M1 E (N1 0 (L1 0) E)) E))) (M1 (M1 (M1 E (M1 E (M1 (L1 0) E))) E) (M1 E (M1 (M1 E (M1 (L1 0) E)) E)))) (N1 576460752303423490 (M1 (M1 (M1 E (M1 E (M1 (L1 0) E))) E) (M1 E (M1 (M1 E (N1 0 (L1 0) E)) E))) (M1 (M1 (M1 E (M1 E (M1 (L1 0) E))) (M1 (M1 E (N1 0 (L1 0) E)) E)) (M1 E (M1 (M1 E (M1 (L1 0) E)) E))))) (M1 (N1 4503599627370754 (M1 (M1 (M1 E (M1 E (M1 (L1 0) E))) E) (M1 E (M1 (M1 E (N1 562954248389297 (L1 4503599627370754) E)) E))) (M1 (M1 (M1 E (M1 E (M1 (L1 0) E))) (M1 (M1 E (N1 1 (L1 1) E)) E)) (M1 E (M1 (M1 E (M1 (L1 0) E)) E)))) (N1 1 (M1 (M1 (M1 E (M1 E (M1 (L1 0) E))) E) (M1 E (M1 (M1 E (M1 (L1 576460752303423489) E)) E))) (M1 (M1 (M1 E (M1 E (M1 (L1 0) E))) (M1 (M1 E (N1 0 (L1 0) E)) E)) (M1 E (M1 (M1 E (M1 (L1 0) E)) E)))))) (M1 (M1 (N1 5512 (M1 (M1 (M1 (M1 (M1 (L1 2825889704044396545) E) (M1 (L1 2825889704044396545) E)) (M1 (M1 (L1 2825889704044396545) E) (N1 2825889704044396545 (L1 0) E))) (M1 (M1 (M1 (L1 2825889704044396545) E) (N1 1125904201810353 (L1 2825889704044396545) E)) (M1 (M1 (L1 2825889704044396545) E) (L1 2825889704044396545)))) (M1 (M1 (M1 (M1 (L1 2825889704044396545) (L1 2825889704044396545)) (M1 (L1 2825889704044396545) E)) (M1 (M1 (L1 2825889704044396545) (L1 2825889704044396545)) (N1 2825889704044396545 (L1 2825889704044396545) E))) (M1 (M1 (M1 (L1 2825889704044396545) (L1 2825889704044396545)) (N1 11229287419650244609 (L1 17445010209780137985) E)) (M1 (M1 (L1 2825889704044396545) (L1 2825889704044396545)) (N1 2825889704044396545 (L1 2825889704044396545) E))))) (M1 (M1 (M1 (M1 (M1 (L1 2825889704044396545) E) (M1 (L1 2825889704044396545) E)) (M1 (M1 (L1 2825889704044396545) E) (N1 2825889704044396545 (L1 0) E))) (M1 (M1 (M1 (L1 2825889704044396545) E) (N1 5708798863030157313 (L1 1301896511614091265) (L1 7160393175083778049))) (M1 (M1 (L1 2825889704044396545) E) (L1 2825889704044396545)))) (M1 (M1 (M1 (M1 (L1 2825889704044396545) E) (M1 (L1 2825889704044396545) E)) (M1 (M1 (L1 2825889704044396545) E) (L1 2825889704044396545))) (M1 (M1 (M1 (L1 2825889704044396545) E) (N1 2825889704044396545 (L1 0) E)) (M1 (M1 (L1 2825889704044396545) E) (L1 2825889704044396545)))))) (N1 5448 (M1 (M1 (M1 (M1 (M1 (L1 2825889704044396545) E) (M1 (L1 2825889704044396545) E)) (M1 (M1 (L1 2825889704044396545) E) (N1 2825889704044396545 (L1 0) E))) (M1 (M1 (M1 (L1 2825889704044396545) E) (M1 (L1 2825889704044396545) E)) (M1 (M1 (L1 2825889704044396545) E) (L1 2825889704044396545)))) (M1 (M1 (M1 (M1 (L1 2825889704044396545) E) (M1 (L1 2825889704044396545) E)) (M1 (M1 (L1 2825889704044396545) E) (L1 2825889704044396545))) (M1 (M1 (M1 (L1 2825889704044396545) E) (N1 2825889704044396545 (L1 0) E)) (M1 (M1 (L1 2825889704044396545) E) (L1 2825889704044396545))))) (M1 (M1 (M1 (M1 (M1 (L1 2825889704044396545) E) (M1 (L1 2825889704044396545) E)) (M1 (M1 (L1 2825889704044396545) E) (N1 2825889704044396545 (L1 0) E))) (M1 (M1 (M1 (L1 2825889704044396545) E) (N1 0 (L1 0) E)) (M1 (M1 (L1 2825889704044396545) E) (L1 2825889704044396545)))) (M1 (M1 (M1 (M1 (L1 2825889704044396545) E) (M1 (L1 2825889704044396545) E)) (M1 (M1 (L1 2825889704044396545) E) (L1 2825889704044396545))) (M1 (M1 (M1 (L1 2825889704044396545) E) (N1 2825889704044396545 (L1 0) E)) (M1 (M1 (L1 2825889704044396545) E) (L1 2825889704044396545))))))) (M1 (N1 5552 (M1 (M1 (M1 E (M1 E (M1 (L1 0) E))) E) (M1 E (M1 (M1 E (N1 0 (L1 0) E)) E))) (M1 (M1 (M1 E (M1 E (M1 (L1 0) E))) (M1 (M1 E (N1 0 (L1 0) E)) E)) (M1 E (M1 (M1 E (M1 (L1 0) E)) E)))) (M1 (M1 (M1 (M1 E (M1 E (M1 (L1 0) E))) E) (M1 E (M1 (M1 E (M1 (L1 576460752303423490) E)) E))) (M1 (M1 (M1 E (M1 E (M1 (L1 0) E))) (M1 (M1 E (N1 0 (L1 0) E)) E)) (M1 E (M1 (M1 E (M1 (L1 0) E)) E)))))))⟩⟩
theorem r7:disp prog 5 (lookT t6) 990 95 a7 i7 (fun v S=>eqA v v7&&subS o7 S)=true:=by kernel_rfl
theorem s7:Seg prog T0 95 a7 i7 v7 o7:=seg_of_run (disp_ok hmO t6_ok 990) (of_decide_eq_true (by kernel_rfl)) r7
noncomputable def n7:GA:=segG a7 i7 v7 o7 (n6)
theorem m7:GS prog T0 95 n7:=segG_ok s7 (m6)
noncomputable def t7:List (Nat×GA):=(95,n7)::t6
theorem t7_ok:OkT t7:= .cons m7 t6_ok
noncomputable def a8:AV:=(A [(.p 149 0),(.sl 3844 0 2 2 false 2),.s0,.s0])
noncomputable def v8:AV:=(J 0)
noncomputable def i8:St:=⟨(M1 (N1 (.g 5 (N1 (J 3) (N1 (J 7) (L1 (J 31)) E) (N1 (J 15) (L1 (J 60)) E))) (M1 E (M1 (M1 E (M1 (M1 (L1 (.m .i64 [])) E) E)) E)) (M1 E (M1 (M1 E (M1 (M1 (L1 (.c false 243 3 .u (N1 (.p 148 0) (L1 (.p 12 0)) (L1 (.p 110 0))))) E) E)) E))) (M1 (N1 (.g 16 (N1 (.i .u32 (.ofNat 0)) (N1 (.i .u32 (.ofNat 274646895)) (N1 (.i .u32 (.ofNat 820201905)) (N1 (.i .u32 (.ofNat 1905808397)) (L1 (.i .u32 (.ofNat 4084100981))) E) (L1 (.i .u32 (.ofNat 2987750089)))) (N1 (.i .u32 (.ofNat 1361435347)) (L1 (.i .u32 (.ofNat 2460548119))) (L1 (.i .u32 (.ofNat 3553878443))))) (N1 (.i .u32 (.ofNat 549293790)) (N1 (.i .u32 (.ofNat 1098587580)) (L1 (.i .u32 (.ofNat 2197175160))) (L1 (.i .u32 (.ofNat 3280807620)))) (N1 (.i .u32 (.ofNat 1640403810)) (L1 (.i .u32 (.ofNat 2722870694))) (L1 (.i .u32 (.ofNat 3811616794))))))) (M1 (M1 E (M1 E (L1 (.c false 321 2 .u (N1 (.ic 87 (.p 12 0)) (L1 (.sl 136 0 3 3 false 4)) E))))) (M1 (M1 (M1 (L1 (.c false 325 12 .u (N1 (J 53) (N1 (J 0) (N1 (.b false) (L1 (.b false)) (L1 (.b false))) (N1 (J 3) (L1 (.i .i64 (.negSucc 0))) E)) (N1 (J 0) (N1 (J 85) (L1 (J 117)) E) (N1 (J 0) (L1 (.i .i64 (.negSucc 0))) E))))) E) E) E)) (M1 (M1 (M1 (M1 (M1 (M1 E (M1 E (M1 E (L1 (.c false 255 4 .u (N1 (U 5512) (N1 (U 9007199254749443) (L1 (U 576460778073227267)) E) (L1 (U 5560)))))))) E) E) E) (M1 (M1 (L1 (.c false 241 8 .u (N1 (.ic 87 (.p 12 0)) (N1 (J 53) (N1 (.p 112 0) (L1 (.b false)) E) (L1 (.m 147))) (N1 (J 96) (L1 (.m 146)) (L1 .m0))))) E) E)) E)) (M1 (M1 (M1 E (M1 (M1 (L1 (.m .u64 [])) E) E)) E) (M1 E (M1 (M1 E (L1 (.c false 312 3 .u (N1 (.ic 87 (.p 12 0)) (L1 (U 0)) (L1 (U 1664)))))) E))))),3847,some ⟨11,149,246,(N1 0 (M1 (M1 (M1 (M1 (M1 (M1 E (M1 E (M1 (L1 0) E))) E) (M1 (M1 E (M1 E (M1 (L1 0) E))) (M1 (M1 E (N1 0 (L1 0) E)) E))) (M1 (M1 (M1 E (M1 E (M1 (L1 0) E))) E) (M1 E (M1 (M1 E (M1 (L1 0) E)) E)))) (N1 576460752303423490 (M1 (M1 (M1 E (M1 E (M1 (L1 0) E))) E) (M1 E (M1 (M1 E (N1 0 (L1 0) E)) E))) (M1 (M1 (M1 E (M1 E (M1 (L1 0) E))) (M1 (M1 E (N1 0 (L1 0) E)) E)) (M1 E (M1 (M1 E (M1 (L1 0) E)) E))))) (M1 (N1 4503599627370754 (M1 (M1 (M1 E (M1 E (M1 (L1 0) E))) E) (M1 E (M1 (M1 E (N1 562954248389297 (L1 4503599627370754) E)) E))) (M1 (M1 (M1 E (M1 E (M1 (L1 0) E))) (M1 (M1 E (N1 1 (L1 1) E)) E)) (M1 E (M1 (M1 E (M1 (L1 0) E)) E)))) (N1 1 (M1 (M1 (M1 E (M1 E (M1 (L1 0) E))) E) (M1 E (M1 (M1 E (M1 (L1 576460752303423489) E)) E))) (M1 (M1 (M1 E (M1 E (M1 (L1 0) E))) (M1 (M1 E (N1 0 (L1 0) E)) E)) (M1 E (M1 (M1 E (M1 (L1 0) E)) E)))))) (M1 (M1 (N1 5512 (M1 (M1 (M1 (M1 (M1 (L1 2825889704044396545) E) (M1 (L1 2825889704044396545) E)) (M1 (M1 (L1 2825889704044396545) E) (N1 2825889704044396545 (L1 0) E))) (M1 (M1 (M1 (L1 2825889704044396545) E) (N1 1125904201810353 (L1 2825889704044396545) E)) (M1 (M1 (L1 2825889704044396545) E) (L1 2825889704044396545)))) (M1 (M1 (M1 (M1 (L1 2825889704044396545) (L1 2825889704044396545)) (M1 (L1 2825889704044396545) E)) (M1 (M1 (L1 2825889704044396545) (L1 2825889704044396545)) (N1 2825889704044396545 (L1 2825889704044396545) E))) (M1 (M1 (M1 (L1 2825889704044396545) (L1 2825889704044396545)) (N1 11229287419650244609 (L1 17445010209780137985) E)) (M1 (M1 (L1 2825889704044396545) (L1 2825889704044396545)) (N1 2825889704044396545 (L1 2825889704044396545) E))))) (M1 (M1 (M1 (M1 (M1 (L1 2825889704044396545) E) (M1 (L1 2825889704044396545) E)) (M1 (M1 (L1 2825889704044396545) E) (N1 2825889704044396545 (L1 0) E))) (M1 (M1 (M1 (L1 2825889704044396545) E) (N1 5708798863030157313 (L1 1301896511614091265) (L1 7160393175083778049))) (M1 (M1 (L1 2825889704044396545) E) (L1 2825889704044396545)))) (M1 (M1 (M1 (M1 (L1 2825889704044396545) E) (M1 (L1 2825889704044396545) E)) (M1 (M1 (L1 2825889704044396545) E) (L1 2825889704044396545))) (M1 (M1 (M1 (L1 2825889704044396545) E) (N1 2825889704044396545 (L1 0) E)) (M1 (M1 (L1 2825889704044396545) E) (L1 2825889704044396545)))))) (N1 5448 (M1 (M1 (M1 (M1 (M1 (L1 2825889704044396545) E) (M1 (L1 2825889704044396545) E)) (M1 (M1 (L1 2825889704044396545) E) (N1 2825889704044396545 (L1 0) E))) (M1 (M1 (M1 (L1 2825889704044396545) E) (M1 (L1 2825889704044396545) E)) (M1 (M1 (L1 2825889704044396545) E) (L1 2825889704044396545)))) (M1 (M1 (M1 (M1 (L1 2825889704044396545) E) (M1 (L1 2825889704044396545) E)) (M1 (M1 (L1 2825889704044396545) E) (L1 2825889704044396545))) (M1 (M1 (M1 (L1 2825889704044396545) E) (N1 2825889704044396545 (L1 0) E)) (M1 (M1 (L1 2825889704044396545) E) (L1 2825889704044396545))))) (M1 (M1 (M1 (M1 (M1 (L1 2825889704044396545) E) (M1 (L1 2825889704044396545) E)) (M1 (M1 (L1 2825889704044396545) E) (N1 2825889704044396545 (L1 0) E))) (M1 (M1 (M1 (L1 2825889704044396545) E) (N1 0 (L1 0) E)) (M1 (M1 (L1 2825889704044396545) E) (L1 2825889704044396545)))) (M1 (M1 (M1 (M1 (L1 2825889704044396545) E) (M1 (L1 2825889704044396545) E)) (M1 (M1 (L1 2825889704044396545) E) (L1 2825889704044396545))) (M1 (M1 (M1 (L1 2825889704044396545) E) (N1 2825889704044396545 (L1 0) E)) (M1 (M1 (L1 2825889704044396545) E) (L1 2825889704044396545))))))) (M1 (N1 5552 (M1 (M1 (M1 E (M1 E (M1 (L1 0) E))) E) (M1 E (M1 (M1 E (N1 0 (L1 0) E)) E))) (M1 (M1 (M1 E (M1 E (M1 (L1 0) E))) (M1 (M1 E (N1 0 (L1 0) E)) E)) (M1 E (M1 (M1 E (M1 (L1 0) E)) E)))) (M1 (M1 (M1 (M1 E (M1 E (M1 (L1 0) E))) E) (M1 E (M1 (M1 E (M1 (L1 576460752303423490) E)) E))) (M1 (M1 (M1 E (M1 E (M1 (L1 0) E))) (M1 (M1 E (N1 0 (L1 0) E)) E)) (M1 E (M1 (M1 E (M1 (L1 0) E)) E)))))))⟩⟩
noncomputable def o8:St:=⟨(M1 (N1 (.g 5 (N1 (J 3) (N1 (J 7) (L1 (J 31)) E) (N1 (J 15) (L1 (J 60)) E))) (M1 E (M1 (M1 E (M1 (M1 (L1 (.m .i64 [])) E) E)) E)) (M1 E (M1 (M1 E (M1 (M1 (L1 (.c false 243 3 .u (N1 (.p 148 0) (L1 (.p 12 0)) (L1 (.p 110 0))))) E) E)) E))) (M1 (N1 (.g 16 (N1 (.i .u32 (.ofNat 0)) (N1 (.i .u32 (.ofNat 274646895)) (N1 (.i .u32 (.ofNat 820201905)) (N1 (.i .u32 (.ofNat 1905808397)) (L1 (.i .u32 (.ofNat 4084100981))) E) (L1 (.i .u32 (.ofNat 2987750089)))) (N1 (.i .u32 (.ofNat 1361435347)) (L1 (.i .u32 (.ofNat 2460548119))) (L1 (.i .u32 (.ofNat 3553878443))))) (N1 (.i .u32 (.ofNat 549293790)) (N1 (.i .u32 (.ofNat 1098587580)) (L1 (.i .u32 (.ofNat 2197175160))) (L1 (.i .u32 (.ofNat 3280807620)))) (N1 (.i .u32 (.ofNat 1640403810)) (L1 (.i .u32 (.ofNat 2722870694))) (L1 (.i .u32 (.ofNat 3811616794))))))) (M1 (M1 E (M1 E (L1 (.c false 321 2 .u (N1 (.ic 87 (.p 12 0)) (L1 (.sl 136 0 3 3 false 4)) E))))) (M1 (M1 (M1 (L1 (.c false 325 12 .u (N1 (J 53) (N1 (J 0) (N1 (.b false) (L1 (.b false)) (L1 (.b false))) (N1 (J 3) (L1 (.i .i64 (.negSucc 0))) E)) (N1 (J 0) (N1 (J 85) (L1 (J 117)) E) (N1 (J 0) (L1 (.i .i64 (.negSucc 0))) E))))) E) E) E)) (M1 (M1 (M1 (M1 (M1 (M1 E (M1 E (M1 E (L1 (.c false 255 4 .u (N1 (U 5512) (N1 (U 9007199254749443) (L1 (U 576460778073227267)) E) (L1 (U 5560)))))))) E) E) E) (M1 (M1 (L1 (.c false 241 8 .u (N1 (.ic 87 (.p 12 0)) (N1 (J 53) (N1 (.p 112 0) (L1 (.b false)) E) (L1 (.m 147))) (N1 (J 96) (L1 (.m 146)) (L1 .m0))))) E) E)) E)) (M1 (M1 (M1 E (M1 (M1 (L1 (.m .u64 [])) E) E)) E) (M1 E (M1 (M1 E (L1 (.c false 312 3 .u (N1 (.ic 87 (.p 12 0)) (L1 (U 0)) (L1 (U 1664)))))) E))))),4104,some ⟨11,149,262,(N1 0 (M1 (M1 (M1 (M1 (M1 (M1 E (M1 E (M1 (L1 0) E))) E) (M1 (M1 E (M1 E (M1 (L1 0) E))) (M1 (M1 E (N1 0 (L1 0) E)) E))) (M1 (M1 (M1 E (M1 E (M1 (L1 0) E))) E) (M1 E (M1 (M1 E (M1 (L1 576460778073227267) E)) E)))) (N1 576460778073227267 (M1 (M1 (M1 E (M1 E (M1 (L1 0) E))) E) (M1 E (M1 (M1 E (N1 0 (L1 0) E)) E))) (M1 (M1 (M1 E (M1 E (M1 (L1 0) E))) (M1 (M1 E (N1 0 (L1 0) E)) E)) (M1 E (M1 (M1 E (M1 (L1 0) E)) E))))) (M1 (N1 9007199254749443 (M1 (M1 (M1 E (M1 E (M1 (L1 0) E))) E) (M1 E (M1 (M1 E (N1 562954248389297 (L1 9007199254749443) E)) E))) (M1 (M1 (M1 E (M1 E (M1 (L1 0) E))) (M1 (M1 E (N1 1 (L1 1) E)) E)) (M1 E (M1 (M1 E (M1 (L1 0) E)) E)))) (N1 1 (M1 (M1 (M1 E (M1 E (M1 (L1 0) E))) E) (M1 E (M1 (M1 E (M1 (L1 576460752303423489) E)) E))) (M1 (M1 (M1 E (M1 E (M1 (L1 0) E))) (M1 (M1 E (N1 0 (L1 0) E)) E)) (M1 E (M1 (M1 E (M1 (L1 0) E)) E)))))) (M1 (M1 (N1 5512 (M1 (M1 (M1 (M1 (M1 (L1 2825889704044396545) E) (M1 (L1 2825889704044396545) E)) (M1 (M1 (L1 2825889704044396545) E) (N1 2825889704044396545 (L1 0) E))) (M1 (M1 (M1 (L1 2825889704044396545) E) (N1 1125904201810353 (L1 2825889704044396545) E)) (M1 (M1 (L1 2825889704044396545) E) (L1 2825889704044396545)))) (M1 (M1 (M1 (M1 (L1 2825889704044396545) (L1 2825889704044396545)) (M1 (L1 2825889704044396545) E)) (M1 (M1 (L1 2825889704044396545) (L1 2825889704044396545)) (N1 2825889704044396545 (L1 2825889704044396545) E))) (M1 (M1 (M1 (L1 2825889704044396545) (L1 2825889704044396545)) (N1 11229287419650244609 (L1 17445010209780137985) E)) (M1 (M1 (L1 2825889704044396545) (L1 2825889704044396545)) (N1 2825889704044396545 (L1 2825889704044396545) E))))) (M1 (M1 (M1 (M1 (M1 (L1 2825889704044396545) E) (M1 (L1 2825889704044396545) E)) (M1 (M1 (L1 2825889704044396545) E) (N1 2825889704044396545 (L1 0) E))) (M1 (M1 (M1 (L1 2825889704044396545) E) (N1 5708798863030157313 (L1 1301896511614091265) (L1 7160393175083778049))) (M1 (M1 (L1 2825889704044396545) E) (L1 2825889704044396545)))) (M1 (M1 (M1 (M1 (L1 2825889704044396545) E) (M1 (L1 2825889704044396545) E)) (M1 (M1 (L1 2825889704044396545) E) (L1 2825889704044396545))) (M1 (M1 (M1 (L1 2825889704044396545) E) (N1 2825889704044396545 (L1 0) E)) (M1 (M1 (L1 2825889704044396545) E) (L1 2825889704044396545)))))) (N1 5448 (M1 (M1 (M1 (M1 (M1 (L1 2825889704044396545) E) (M1 (L1 2825889704044396545) E)) (M1 (M1 (L1 2825889704044396545) E) (N1 2825889704044396545 (L1 0) E))) (M1 (M1 (M1 (L1 2825889704044396545) E) (M1 (L1 2825889704044396545) E)) (M1 (M1 (L1 2825889704044396545) E) (L1 2825889704044396545)))) (M1 (M1 (M1 (M1 (L1 2825889704044396545) E) (M1 (L1 2825889704044396545) E)) (M1 (M1 (L1 2825889704044396545) E) (L1 2825889704044396545))) (M1 (M1 (M1 (L1 2825889704044396545) E) (N1 2825889704044396545 (L1 0) E)) (M1 (M1 (L1 2825889704044396545) E) (L1 2825889704044396545))))) (M1 (M1 (M1 (M1 (M1 (L1 2825889704044396545) E) (M1 (L1 2825889704044396545) E)) (M1 (M1 (L1 2825889704044396545) E) (N1 2825889704044396545 (L1 0) E))) (M1 (M1 (M1 (L1 2825889704044396545) E) (N1 0 (L1 0) E)) (M1 (M1 (L1 2825889704044396545) E) (L1 2825889704044396545)))) (M1 (M1 (M1 (M1 (L1 2825889704044396545) E) (M1 (L1 2825889704044396545) E)) (M1 (M1 (L1 2825889704044396545) E) (L1 2825889704044396545))) (M1 (M1 (M1 (L1 2825889704044396545) E) (N1 2825889704044396545 (L1 0) E)) (M1 (M1 (L1 2825889704044396545) E) (L1 2825889704044396545))))))) (M1 (N1 5560 (M1 (M1 (M1 E (M1 E (M1 (L1 0) E))) E) (M1 E (M1 (M1 E (N1 0 (L1 0) E)) E))) (M1 (M1 (M1 E (M1 E (M1 (L1 0) E))) (M1 (M1 E (N1 0 (L1 0) E)) E)) (M1 E (M1 (M1 E (M1 (L1 0) E)) E)))) (M1 (M1 (M1 (M1 E (M1 E (M1 (L1 0) E))) E) (M1 E (M1 (M1 E (M1 (L1 576460752303423490) E)) E))) (M1 (M1 (M1 E (M1 E (M1 (L1 0) E))) (M1 (M1 E (N1 0 (L1 0) E)) E)) (M1 E (M1 (M1 E (M1 (L1 0) E)) E)))))))⟩⟩
theorem r8:disp prog 5 (lookT t7) 990 75 a8 i8 (fun v S=>eqA v v8&&subS o8 S)=true:=by kernel_rfl
theorem s8:Seg prog T0 75 a8 i8 v8 o8:=seg_of_run (disp_ok hmO t7_ok 990) (of_decide_eq_true (by kernel_rfl)) r8
noncomputable def n8:GA:=segG a8 i8 v8 o8 (n2)
theorem m8:GS prog T0 75 n8:=segG_ok s8 (m2)
noncomputable def t8:List (Nat×GA):=(75,n8)::t7
theorem t8_ok:OkT t8:= .cons m8 t7_ok
noncomputable def a9:AV:=(A [(.p 1479 0),(.ic 112 (.p 149 0)),(U 576460778073227267),(U 0)])
noncomputable def v9:AV:=(J 0)
noncomputable def i9:St:=⟨(M1 (N1 (.g 5 (N1 (J 3) (N1 (J 7) (L1 (J 31)) E) (N1 (J 15) (L1 (J 60)) E))) (M1 (M1 E (M1 (M1 (M1 E (M1 E (M1 E (M1 (L1 (.c false 281 1 .u (L1 (U 1125904201810353)))) E)))) E) E)) (M1 (M1 E (M1 (M1 (L1 (.m .i64 [])) E) E)) E)) (M1 E (M1 (M1 E (M1 (M1 (L1 (.c false 243 3 .u (N1 (.p 148 0) (L1 (.p 12 0)) (L1 (.p 110 0))))) E) E)) E))) (M1 (N1 (.g 16 (N1 (.i .u32 (.ofNat 0)) (N1 (.i .u32 (.ofNat 274646895)) (N1 (.i .u32 (.ofNat 820201905)) (N1 (.i .u32 (.ofNat 1905808397)) (L1 (.i .u32 (.ofNat 4084100981))) E) (L1 (.i .u32 (.ofNat 2987750089)))) (N1 (.i .u32 (.ofNat 1361435347)) (L1 (.i .u32 (.ofNat 2460548119))) (L1 (.i .u32 (.ofNat 3553878443))))) (N1 (.i .u32 (.ofNat 549293790)) (N1 (.i .u32 (.ofNat 1098587580)) (L1 (.i .u32 (.ofNat 2197175160))) (L1 (.i .u32 (.ofNat 3280807620)))) (N1 (.i .u32 (.ofNat 1640403810)) (L1 (.i .u32 (.ofNat 2722870694))) (L1 (.i .u32 (.ofNat 3811616794))))))) (M1 (M1 E (M1 E (L1 (.c false 321 2 .u (N1 (.ic 87 (.p 12 0)) (L1 (.sl 136 0 3 3 false 4)) E))))) (M1 (M1 (M1 (L1 (.c false 325 12 .u (N1 (J 53) (N1 (J 0) (N1 (.b false) (L1 (.b false)) (L1 (.b false))) (N1 (J 3) (L1 (.i .i64 (.negSucc 0))) E)) (N1 (J 0) (N1 (J 85) (L1 (J 117)) E) (N1 (J 0) (L1 (.i .i64 (.negSucc 0))) E))))) E) E) E)) (M1 (M1 E (M1 (M1 (L1 (.c false 241 8 .u (N1 (.ic 87 (.p 12 0)) (N1 (J 53) (N1 (.p 112 0) (L1 (.b false)) E) (L1 (.m 147))) (N1 (J 96) (L1 (.m 146)) (L1 .m0))))) E) E)) E)) (M1 (M1 (M1 E (M1 (M1 (L1 (.m .u64 [])) E) E)) E) (M1 E (M1 (M1 E (L1 (.c false 312 3 .u (N1 (.ic 87 (.p 12 0)) (L1 (U 0)) (L1 (U 1664)))))) E))))),3518,some ⟨11,149,246,(N1 0 (M1 (M1 (M1 (M1 (M1 (M1 E (M1 E (M1 (L1 0) E))) E) (M1 (M1 E (M1 E (M1 (L1 0) E))) (M1 (M1 E (N1 0 (L1 0) E)) E))) (M1 (M1 (M1 E (M1 E (M1 (L1 0) E))) E) (M1 E (M1 (M1 E (M1 (L1 0) E)) E)))) (N1 576460752303423490 (M1 (M1 (M1 E (M1 E (M1 (L1 0) E))) E) (M1 E (M1 (M1 E (N1 0 (L1 0) E)) E))) (M1 (M1 (M1 E (M1 E (M1 (L1 0) E))) (M1 (M1 E (N1 0 (L1 0) E)) E)) (M1 E (M1 (M1 E (M1 (L1 0) E)) E))))) (M1 (N1 4503599627370754 (M1 (M1 (M1 E (M1 E (M1 (L1 0) E))) E) (M1 E (M1 (M1 E (N1 562954248389297 (L1 4503599627370754) E)) E))) (M1 (M1 (M1 E (M1 E (M1 (L1 0) E))) (M1 (M1 E (N1 1 (L1 1) E)) E)) (M1 E (M1 (M1 E (M1 (L1 0) E)) E)))) (N1 1 (M1 (M1 (M1 E (M1 E (M1 (L1 0) E))) E) (M1 E (M1 (M1 E (M1 (L1 576460752303423489) E)) E))) (M1 (M1 (M1 E (M1 E (M1 (L1 0) E))) (M1 (M1 E (N1 0 (L1 0) E)) E)) (M1 E (M1 (M1 E (M1 (L1 0) E)) E)))))) (M1 (M1 (N1 5512 (M1 (M1 (M1 (M1 (M1 (L1 2825889704044396545) E) (M1 (L1 2825889704044396545) E)) (M1 (M1 (L1 2825889704044396545) E) (N1 2825889704044396545 (L1 0) E))) (M1 (M1 (M1 (L1 2825889704044396545) E) (N1 1125904201810353 (L1 2825889704044396545) E)) (M1 (M1 (L1 2825889704044396545) E) (L1 2825889704044396545)))) (M1 (M1 (M1 (M1 (L1 2825889704044396545) (L1 2825889704044396545)) (M1 (L1 2825889704044396545) E)) (M1 (M1 (L1 2825889704044396545) (L1 2825889704044396545)) (N1 2825889704044396545 (L1 2825889704044396545) E))) (M1 (M1 (M1 (L1 2825889704044396545) (L1 2825889704044396545)) (N1 11229287419650244609 (L1 17445010209780137985) E)) (M1 (M1 (L1 2825889704044396545) (L1 2825889704044396545)) (N1 2825889704044396545 (L1 2825889704044396545) E))))) (M1 (M1 (M1 (M1 (M1 (L1 2825889704044396545) E) (M1 (L1 2825889704044396545) E)) (M1 (M1 (L1 2825889704044396545) E) (N1 2825889704044396545 (L1 0) E))) (M1 (M1 (M1 (L1 2825889704044396545) E) (N1 5708798863030157313 (L1 1301896511614091265) (L1 7160393175083778049))) (M1 (M1 (L1 2825889704044396545) E) (L1 2825889704044396545)))) (M1 (M1 (M1 (M1 (L1 2825889704044396545) E) (M1 (L1 2825889704044396545) E)) (M1 (M1 (L1 2825889704044396545) E) (L1 2825889704044396545))) (M1 (M1 (M1 (L1 2825889704044396545) E) (N1 2825889704044396545 (L1 0) E)) (M1 (M1 (L1 2825889704044396545) E) (L1 2825889704044396545)))))) (N1 5448 (M1 (M1 (M1 (M1 (M1 (L1 2825889704044396545) E) (M1 (L1 2825889704044396545) E)) (M1 (M1 (L1 2825889704044396545) E) (N1 2825889704044396545 (L1 0) E))) (M1 (M1 (M1 (L1 2825889704044396545) E) (M1 (L1 2825889704044396545) E)) (M1 (M1 (L1 2825889704044396545) E) (L1 2825889704044396545)))) (M1 (M1 (M1 (M1 (L1 2825889704044396545) E) (M1 (L1 2825889704044396545) E)) (M1 (M1 (L1 2825889704044396545) E) (L1 2825889704044396545))) (M1 (M1 (M1 (L1 2825889704044396545) E) (N1 2825889704044396545 (L1 0) E)) (M1 (M1 (L1 2825889704044396545) E) (L1 2825889704044396545))))) (M1 (M1 (M1 (M1 (M1 (L1 2825889704044396545) E) (M1 (L1 2825889704044396545) E)) (M1 (M1 (L1 2825889704044396545) E) (N1 2825889704044396545 (L1 0) E))) (M1 (M1 (M1 (L1 2825889704044396545) E) (N1 0 (L1 0) E)) (M1 (M1 (L1 2825889704044396545) E) (L1 2825889704044396545)))) (M1 (M1 (M1 (M1 (L1 2825889704044396545) E) (M1 (L1 2825889704044396545) E)) (M1 (M1 (L1 2825889704044396545) E) (L1 2825889704044396545))) (M1 (M1 (M1 (L1 2825889704044396545) E) (N1 2825889704044396545 (L1 0) E)) (M1 (M1 (L1 2825889704044396545) E) (L1 2825889704044396545))))))) (M1 (N1 5552 (M1 (M1 (M1 E (M1 E (M1 (L1 0) E))) E) (M1 E (M1 (M1 E (N1 0 (L1 0) E)) E))) (M1 (M1 (M1 E (M1 E (M1 (L1 0) E))) (M1 (M1 E (N1 0 (L1 0) E)) E)) (M1 E (M1 (M1 E (M1 (L1 0) E)) E)))) (M1 (M1 (M1 (M1 E (M1 E (M1 (L1 0) E))) E) (M1 E (M1 (M1 E (M1 (L1 576460752303423490) E)) E))) (M1 (M1 (M1 E (M1 E (M1 (L1 0) E))) (M1 (M1 E (N1 0 (L1 0) E)) E)) (M1 E (M1 (M1 E (M1 (L1 0) E)) E)))))))⟩⟩
noncomputable def o9:St:=⟨(M1 (N1 (.g 5 (N1 (J 3) (N1 (J 7) (L1 (J 31)) E) (N1 (J 15) (L1 (J 60)) E))) (M1 (M1 E (M1 (M1 (M1 E (M1 E (M1 E (M1 (L1 (.c false 281 1 .u (L1 (U 1125904201810353)))) E)))) E) E)) (M1 (M1 E (M1 (M1 (L1 (.m .i64 [])) E) E)) E)) (M1 E (M1 (M1 E (M1 (M1 (L1 (.c false 243 3 .u (N1 (.p 148 0) (L1 (.p 12 0)) (L1 (.p 110 0))))) E) E)) E))) (M1 (N1 (.g 16 (N1 (.i .u32 (.ofNat 0)) (N1 (.i .u32 (.ofNat 274646895)) (N1 (.i .u32 (.ofNat 820201905)) (N1 (.i .u32 (.ofNat 1905808397)) (L1 (.i .u32 (.ofNat 4084100981))) E) (L1 (.i .u32 (.ofNat 2987750089)))) (N1 (.i .u32 (.ofNat 1361435347)) (L1 (.i .u32 (.ofNat 2460548119))) (L1 (.i .u32 (.ofNat 3553878443))))) (N1 (.i .u32 (.ofNat 549293790)) (N1 (.i .u32 (.ofNat 1098587580)) (L1 (.i .u32 (.ofNat 2197175160))) (L1 (.i .u32 (.ofNat 3280807620)))) (N1 (.i .u32 (.ofNat 1640403810)) (L1 (.i .u32 (.ofNat 2722870694))) (L1 (.i .u32 (.ofNat 3811616794))))))) (M1 (M1 E (M1 E (L1 (.c false 321 2 .u (N1 (.ic 87 (.p 12 0)) (L1 (.sl 136 0 3 3 false 4)) E))))) (M1 (M1 (M1 (L1 (.c false 325 12 .u (N1 (J 53) (N1 (J 0) (N1 (.b false) (L1 (.b false)) (L1 (.b false))) (N1 (J 3) (L1 (.i .i64 (.negSucc 0))) E)) (N1 (J 0) (N1 (J 85) (L1 (J 117)) E) (N1 (J 0) (L1 (.i .i64 (.negSucc 0))) E))))) E) E) E)) (M1 (M1 E (M1 (M1 (L1 (.c false 241 8 .u (N1 (.ic 87 (.p 12 0)) (N1 (J 53) (N1 (.p 112 0) (L1 (.b false)) E) (L1 (.m 147))) (N1 (J 96) (L1 (.m 146)) (L1 .m0))))) E) E)) E)) (M1 (M1 (M1 E (M1 (M1 (L1 (.m .u64 [])) E) E)) E) (M1 E (M1 (M1 E (L1 (.c false 312 3 .u (N1 (.ic 87 (.p 12 0)) (L1 (U 0)) (L1 (U 1664)))))) E))))),4104,some ⟨11,149,262,(N1 0 (M1 (M1 (M1 (M1 (M1 (M1 E (M1 E (M1 (L1 0) E))) E) (M1 (M1 E (M1 E (M1 (L1 0) E))) (M1 (M1 E (N1 0 (L1 0) E)) E))) (M1 (M1 (M1 E (M1 E (M1 (L1 0) E))) E) (M1 E (M1 (M1 E (M1 (L1 576460778073227267) E)) E)))) (N1 576460778073227267 (M1 (M1 (M1 E (M1 E (M1 (L1 0) E))) E) (M1 E (M1 (M1 E (N1 0 (L1 0) E)) E))) (M1 (M1 (M1 E (M1 E (M1 (L1 0) E))) (M1 (M1 E (N1 0 (L1 0) E)) E)) (M1 E (M1 (M1 E (M1 (L1 0) E)) E))))) (M1 (N1 9007199254749443 (M1 (M1 (M1 E (M1 E (M1 (L1 0) E))) E) (M1 E (M1 (M1 E (N1 562954248389297 (L1 9007199254749443) E)) E))) (M1 (M1 (M1 E (M1 E (M1 (L1 0) E))) (M1 (M1 E (N1 1 (L1 1) E)) E)) (M1 E (M1 (M1 E (M1 (L1 0) E)) E)))) (N1 1 (M1 (M1 (M1 E (M1 E (M1 (L1 0) E))) E) (M1 E (M1 (M1 E (M1 (L1 576460752303423489) E)) E))) (M1 (M1 (M1 E (M1 E (M1 (L1 0) E))) (M1 (M1 E (N1 0 (L1 0) E)) E)) (M1 E (M1 (M1 E (M1 (L1 0) E)) E)))))) (M1 (M1 (N1 5512 (M1 (M1 (M1 (M1 (M1 (L1 2825889704044396545) E) (M1 (L1 2825889704044396545) E)) (M1 (M1 (L1 2825889704044396545) E) (N1 2825889704044396545 (L1 0) E))) (M1 (M1 (M1 (L1 2825889704044396545) E) (N1 1125904201810353 (L1 2825889704044396545) E)) (M1 (M1 (L1 2825889704044396545) E) (L1 2825889704044396545)))) (M1 (M1 (M1 (M1 (L1 2825889704044396545) (L1 2825889704044396545)) (M1 (L1 2825889704044396545) E)) (M1 (M1 (L1 2825889704044396545) (L1 2825889704044396545)) (N1 2825889704044396545 (L1 2825889704044396545) E))) (M1 (M1 (M1 (L1 2825889704044396545) (L1 2825889704044396545)) (N1 11229287419650244609 (L1 17445010209780137985) E)) (M1 (M1 (L1 2825889704044396545) (L1 2825889704044396545)) (N1 2825889704044396545 (L1 2825889704044396545) E))))) (M1 (M1 (M1 (M1 (M1 (L1 2825889704044396545) E) (M1 (L1 2825889704044396545) E)) (M1 (M1 (L1 2825889704044396545) E) (N1 2825889704044396545 (L1 0) E))) (M1 (M1 (M1 (L1 2825889704044396545) E) (N1 5708798863030157313 (L1 1301896511614091265) (L1 7160393175083778049))) (M1 (M1 (L1 2825889704044396545) E) (L1 2825889704044396545)))) (M1 (M1 (M1 (M1 (L1 2825889704044396545) E) (M1 (L1 2825889704044396545) E)) (M1 (M1 (L1 2825889704044396545) E) (L1 2825889704044396545))) (M1 (M1 (M1 (L1 2825889704044396545) E) (N1 2825889704044396545 (L1 0) E)) (M1 (M1 (L1 2825889704044396545) E) (L1 2825889704044396545)))))) (N1 5448 (M1 (M1 (M1 (M1 (M1 (L1 2825889704044396545) E) (M1 (L1 2825889704044396545) E)) (M1 (M1 (L1 2825889704044396545) E) (N1 2825889704044396545 (L1 0) E))) (M1 (M1 (M1 (L1 2825889704044396545) E) (M1 (L1 2825889704044396545) E)) (M1 (M1 (L1 2825889704044396545) E) (L1 2825889704044396545)))) (M1 (M1 (M1 (M1 (L1 2825889704044396545) E) (M1 (L1 2825889704044396545) E)) (M1 (M1 (L1 2825889704044396545) E) (L1 2825889704044396545))) (M1 (M1 (M1 (L1 2825889704044396545) E) (N1 2825889704044396545 (L1 0) E)) (M1 (M1 (L1 2825889704044396545) E) (L1 2825889704044396545))))) (M1 (M1 (M1 (M1 (M1 (L1 2825889704044396545) E) (M1 (L1 2825889704044396545) E)) (M1 (M1 (L1 2825889704044396545) E) (N1 2825889704044396545 (L1 0) E))) (M1 (M1 (M1 (L1 2825889704044396545) E) (N1 0 (L1 0) E)) (M1 (M1 (L1 2825889704044396545) E) (L1 2825889704044396545)))) (M1 (M1 (M1 (M1 (L1 2825889704044396545) E) (M1 (L1 2825889704044396545) E)) (M1 (M1 (L1 2825889704044396545) E) (L1 2825889704044396545))) (M1 (M1 (M1 (L1 2825889704044396545) E) (N1 2825889704044396545 (L1 0) E)) (M1 (M1 (L1 2825889704044396545) E) (L1 2825889704044396545))))))) (M1 (N1 5560 (M1 (M1 (M1 E (M1 E (M1 (L1 0) E))) E) (M1 E (M1 (M1 E (N1 0 (L1 0) E)) E))) (M1 (M1 (M1 E (M1 E (M1 (L1 0) E))) (M1 (M1 E (N1 0 (L1 0) E)) E)) (M1 E (M1 (M1 E (M1 (L1 0) E)) E)))) (M1 (M1 (M1 (M1 E (M1 E (M1 (L1 0) E))) E) (M1 E (M1 (M1 E (M1 (L1 576460752303423490) E)) E))) (M1 (M1 (M1 E (M1 E (M1 (L1 0) E))) (M1 (M1 E (N1 0 (L1 0) E)) E)) (M1 E (M1 (M1 E (M1 (L1 0) E)) E)))))))⟩⟩
theorem r9:disp prog 5 (lookT t8) 990 96 a9 i9 (fun v S=>eqA v v9&&subS o9 S)=true:=by kernel_rfl
theorem s9:Seg prog T0 96 a9 i9 v9 o9:=seg_of_run (disp_ok hmO t8_ok 990) (of_decide_eq_true (by kernel_rfl)) r9
noncomputable def n9:GA:=segG a9 i9 v9 o9 (n4)
theorem m9:GS prog T0 96 n9:=segG_ok s9 (m4)
noncomputable def t9:List (Nat×GA):=(96,n9)::t8
theorem t9_ok:OkT t9:= .cons m9 t8_ok
noncomputable def a10:AV:=(A [(J 0),(.ag (A [(.i .u8 (.ofNat 1)),(.b false),(J 4),(.s ⟨#[]⟩),(.b false)])),(.ag (A [(.i .u8 (.ofNat 1)),(.b false),(J 9),(.s ⟨#[]⟩),(.b false)]))])
noncomputable def v10:AV:=(.tu (A [(U 576460752303423488),(U 576460756598390783),(J 0)]))
noncomputable def i10:St:=⟨(M1 (L1 (.g 5 (N1 (J 3) (N1 (J 7) (L1 (J 31)) E) (N1 (J 15) (L1 (J 60)) E)))) (M1 (L1 (.g 16 (N1 (.i .u32 (.ofNat 0)) (N1 (.i .u32 (.ofNat 274646895)) (N1 (.i .u32 (.ofNat 820201905)) (N1 (.i .u32 (.ofNat 1905808397)) (L1 (.i .u32 (.ofNat 4084100981))) E) (L1 (.i .u32 (.ofNat 2987750089)))) (N1 (.i .u32 (.ofNat 1361435347)) (L1 (.i .u32 (.ofNat 2460548119))) (L1 (.i .u32 (.ofNat 3553878443))))) (N1 (.i .u32 (.ofNat 549293790)) (N1 (.i .u32 (.ofNat 1098587580)) (L1 (.i .u32 (.ofNat 2197175160))) (L1 (.i .u32 (.ofNat 3280807620)))) (N1 (.i .u32 (.ofNat 1640403810)) (L1 (.i .u32 (.ofNat 2722870694))) (L1 (.i .u32 (.ofNat 3811616794)))))))) E)),4127,some ⟨11,149,262,(N1 0 (M1 (M1 (M1 (M1 (M1 (M1 E (M1 E (M1 (L1 0) E))) E) (M1 (M1 E (M1 E (M1 (L1 0) E))) (M1 (M1 E (N1 0 (L1 0) E)) E))) (M1 (M1 (M1 E (M1 E (M1 (L1 0) E))) E) (M1 E (M1 (M1 E (M1 (L1 576460778073227267) E)) E)))) (N1 576460778073227267 (M1 (M1 (M1 E (M1 E (M1 (L1 0) E))) E) (M1 E (M1 (M1 E (N1 0 (L1 0) E)) E))) (M1 (M1 (M1 E (M1 E (M1 (L1 0) E))) (M1 (M1 E (N1 0 (L1 0) E)) E)) (M1 E (M1 (M1 E (M1 (L1 0) E)) E))))) (M1 (N1 9007199254749443 (M1 (M1 (M1 E (M1 E (M1 (L1 0) E))) E) (M1 E (M1 (M1 E (N1 562954248389297 (L1 9007199254749443) E)) E))) (M1 (M1 (M1 E (M1 E (M1 (L1 0) E))) (M1 (M1 E (N1 1 (L1 1) E)) E)) (M1 E (M1 (M1 E (M1 (L1 0) E)) E)))) (N1 1 (M1 (M1 (M1 E (M1 E (M1 (L1 0) E))) E) (M1 E (M1 (M1 E (M1 (L1 576460752303423489) E)) E))) (M1 (M1 (M1 E (M1 E (M1 (L1 0) E))) (M1 (M1 E (N1 0 (L1 0) E)) E)) (M1 E (M1 (M1 E (M1 (L1 0) E)) E)))))) (M1 (M1 (N1 5512 (M1 (M1 (M1 (M1 (M1 (L1 2825889704044396545) E) (M1 (L1 2825889704044396545) E)) (M1 (M1 (L1 2825889704044396545) E) (N1 2825889704044396545 (L1 0) E))) (M1 (M1 (M1 (L1 2825889704044396545) E) (N1 1125904201810353 (L1 2825889704044396545) E)) (M1 (M1 (L1 2825889704044396545) E) (L1 2825889704044396545)))) (M1 (M1 (M1 (M1 (L1 2825889704044396545) (L1 2825889704044396545)) (M1 (L1 2825889704044396545) E)) (M1 (M1 (L1 2825889704044396545) (L1 2825889704044396545)) (N1 2825889704044396545 (L1 2825889704044396545) E))) (M1 (M1 (M1 (L1 2825889704044396545) (L1 2825889704044396545)) (N1 11229287419650244609 (L1 17445010209780137985) E)) (M1 (M1 (L1 2825889704044396545) (L1 2825889704044396545)) (N1 2825889704044396545 (L1 2825889704044396545) E))))) (M1 (M1 (M1 (M1 (M1 (L1 2825889704044396545) E) (M1 (L1 2825889704044396545) E)) (M1 (M1 (L1 2825889704044396545) E) (N1 2825889704044396545 (L1 0) E))) (M1 (M1 (M1 (L1 2825889704044396545) E) (N1 5708798863030157313 (L1 1301896511614091265) (L1 7160393175083778049))) (M1 (M1 (L1 2825889704044396545) E) (L1 2825889704044396545)))) (M1 (M1 (M1 (M1 (L1 2825889704044396545) E) (M1 (L1 2825889704044396545) E)) (M1 (M1 (L1 2825889704044396545) E) (L1 2825889704044396545))) (M1 (M1 (M1 (L1 2825889704044396545) E) (N1 2825889704044396545 (L1 0) E)) (M1 (M1 (L1 2825889704044396545) E) (L1 2825889704044396545)))))) (N1 5448 (M1 (M1 (M1 (M1 (M1 (L1 2825889704044396545) E) (M1 (L1 2825889704044396545) E)) (M1 (M1 (L1 2825889704044396545) E) (N1 2825889704044396545 (L1 0) E))) (M1 (M1 (M1 (L1 2825889704044396545) E) (M1 (L1 2825889704044396545) E)) (M1 (M1 (L1 2825889704044396545) E) (L1 2825889704044396545)))) (M1 (M1 (M1 (M1 (L1 2825889704044396545) E) (M1 (L1 2825889704044396545) E)) (M1 (M1 (L1 2825889704044396545) E) (L1 2825889704044396545))) (M1 (M1 (M1 (L1 2825889704044396545) E) (N1 2825889704044396545 (L1 0) E)) (M1 (M1 (L1 2825889704044396545) E) (L1 2825889704044396545))))) (M1 (M1 (M1 (M1 (M1 (L1 2825889704044396545) E) (M1 (L1 2825889704044396545) E)) (M1 (M1 (L1 2825889704044396545) E) (N1 2825889704044396545 (L1 0) E))) (M1 (M1 (M1 (L1 2825889704044396545) E) (N1 0 (L1 0) E)) (M1 (M1 (L1 2825889704044396545) E) (L1 2825889704044396545)))) (M1 (M1 (M1 (M1 (L1 2825889704044396545) E) (M1 (L1 2825889704044396545) E)) (M1 (M1 (L1 2825889704044396545) E) (L1 2825889704044396545))) (M1 (M1 (M1 (L1 2825889704044396545) E) (N1 2825889704044396545 (L1 0) E)) (M1 (M1 (L1 2825889704044396545) E) (L1 2825889704044396545))))))) (M1 (N1 5560 (M1 (M1 (M1 E (M1 E (M1 (L1 0) E))) E) (M1 E (M1 (M1 E (N1 0 (L1 0) E)) E))) (M1 (M1 (M1 E (M1 E (M1 (L1 0) E))) (M1 (M1 E (N1 0 (L1 0) E)) E)) (M1 E (M1 (M1 E (M1 (L1 0) E)) E)))) (M1 (M1 (M1 (M1 E (M1 E (M1 (L1 0) E))) E) (M1 E (M1 (M1 E (M1 (L1 576460752303423490) E)) E))) (M1 (M1 (M1 E (M1 E (M1 (L1 0) E))) (M1 (M1 E (N1 0 (L1 0) E)) E)) (M1 E (M1 (M1 E (M1 (L1 0) E)) E)))))))⟩⟩
noncomputable def o10:St:=⟨(M1 (L1 (.g 5 (N1 (J 3) (N1 (J 7) (L1 (J 31)) E) (N1 (J 15) (L1 (J 60)) E)))) (M1 (L1 (.g 16 (N1 (.i .u32 (.ofNat 0)) (N1 (.i .u32 (.ofNat 274646895)) (N1 (.i .u32 (.ofNat 820201905)) (N1 (.i .u32 (.ofNat 1905808397)) (L1 (.i .u32 (.ofNat 4084100981))) E) (L1 (.i .u32 (.ofNat 2987750089)))) (N1 (.i .u32 (.ofNat 1361435347)) (L1 (.i .u32 (.ofNat 2460548119))) (L1 (.i .u32 (.ofNat 3553878443))))) (N1 (.i .u32 (.ofNat 549293790)) (N1 (.i .u32 (.ofNat 1098587580)) (L1 (.i .u32 (.ofNat 2197175160))) (L1 (.i .u32 (.ofNat 3280807620)))) (N1 (.i .u32 (.ofNat 1640403810)) (L1 (.i .u32 (.ofNat 2722870694))) (L1 (.i .u32 (.ofNat 3811616794)))))))) E)),4146,some ⟨11,149,262,(N1 0 (M1 (M1 (M1 (M1 (M1 (M1 E (M1 E (M1 (L1 0) E))) E) (M1 (M1 E (M1 E (M1 (L1 0) E))) (M1 (M1 E (N1 0 (L1 0) E)) E))) (M1 (M1 (M1 E (M1 E (M1 (L1 0) E))) E) (M1 E (M1 (M1 E (M1 (L1 576460778073227267) E)) E)))) (N1 576460778073227267 (M1 (M1 (M1 E (M1 E (M1 (L1 0) E))) E) (M1 E (M1 (M1 E (N1 0 (L1 0) E)) E))) (M1 (M1 (M1 E (M1 E (M1 (L1 0) E))) (M1 (M1 E (N1 0 (L1 0) E)) E)) (M1 E (M1 (M1 E (M1 (L1 0) E)) E))))) (M1 (N1 9007199254749443 (M1 (M1 (M1 E (M1 E (M1 (L1 0) E))) E) (M1 E (M1 (M1 E (N1 562954248389297 (L1 9007199254749443) E)) E))) (M1 (M1 (M1 E (M1 E (M1 (L1 0) E))) (M1 (M1 E (N1 1 (L1 1) E)) E)) (M1 E (M1 (M1 E (M1 (L1 0) E)) E)))) (N1 1 (M1 (M1 (M1 E (M1 E (M1 (L1 0) E))) E) (M1 E (M1 (M1 E (M1 (L1 576460752303423489) E)) E))) (M1 (M1 (M1 E (M1 E (M1 (L1 0) E))) (M1 (M1 E (N1 0 (L1 0) E)) E)) (M1 E (M1 (M1 E (M1 (L1 0) E)) E)))))) (M1 (M1 (N1 5512 (M1 (M1 (M1 (M1 (M1 (L1 2825889704044396545) E) (M1 (L1 2825889704044396545) E)) (M1 (M1 (L1 2825889704044396545) E) (N1 2825889704044396545 (L1 0) E))) (M1 (M1 (M1 (L1 2825889704044396545) E) (N1 1125904201810353 (L1 2825889704044396545) E)) (M1 (M1 (L1 2825889704044396545) E) (L1 2825889704044396545)))) (M1 (M1 (M1 (M1 (L1 2825889704044396545) (L1 2825889704044396545)) (M1 (L1 2825889704044396545) E)) (M1 (M1 (L1 2825889704044396545) (L1 2825889704044396545)) (N1 2825889704044396545 (L1 2825889704044396545) E))) (M1 (M1 (M1 (L1 2825889704044396545) (L1 2825889704044396545)) (N1 11229287419650244609 (L1 17445010209780137985) E)) (M1 (M1 (L1 2825889704044396545) (L1 2825889704044396545)) (N1 2825889704044396545 (L1 2825889704044396545) E))))) (M1 (M1 (M1 (M1 (M1 (L1 2825889704044396545) E) (M1 (L1 2825889704044396545) E)) (M1 (M1 (L1 2825889704044396545) E) (N1 2825889704044396545 (L1 0) E))) (M1 (M1 (M1 (L1 2825889704044396545) E) (N1 5708798863030157313 (L1 1301896511614091265) (L1 7160393175083778049))) (M1 (M1 (L1 2825889704044396545) E) (L1 2825889704044396545)))) (M1 (M1 (M1 (M1 (L1 2825889704044396545) E) (M1 (L1 2825889704044396545) E)) (M1 (M1 (L1 2825889704044396545) E) (L1 2825889704044396545))) (M1 (M1 (M1 (L1 2825889704044396545) E) (N1 2825889704044396545 (L1 0) E)) (M1 (M1 (L1 2825889704044396545) E) (L1 2825889704044396545)))))) (N1 5448 (M1 (M1 (M1 (M1 (M1 (L1 2825889704044396545) E) (M1 (L1 2825889704044396545) E)) (M1 (M1 (L1 2825889704044396545) E) (N1 2825889704044396545 (L1 0) E))) (M1 (M1 (M1 (L1 2825889704044396545) E) (M1 (L1 2825889704044396545) E)) (M1 (M1 (L1 2825889704044396545) E) (L1 2825889704044396545)))) (M1 (M1 (M1 (M1 (L1 2825889704044396545) E) (M1 (L1 2825889704044396545) E)) (M1 (M1 (L1 2825889704044396545) E) (L1 2825889704044396545))) (M1 (M1 (M1 (L1 2825889704044396545) E) (N1 2825889704044396545 (L1 0) E)) (M1 (M1 (L1 2825889704044396545) E) (L1 2825889704044396545))))) (M1 (M1 (M1 (M1 (M1 (L1 2825889704044396545) E) (M1 (L1 2825889704044396545) E)) (M1 (M1 (L1 2825889704044396545) E) (N1 2825889704044396545 (L1 0) E))) (M1 (M1 (M1 (L1 2825889704044396545) E) (N1 0 (L1 0) E)) (M1 (M1 (L1 2825889704044396545) E) (L1 2825889704044396545)))) (M1 (M1 (M1 (M1 (L1 2825889704044396545) E) (M1 (L1 2825889704044396545) E)) (M1 (M1 (L1 2825889704044396545) E) (L1 2825889704044396545))) (M1 (M1 (M1 (L1 2825889704044396545) E) (N1 2825889704044396545 (L1 0) E)) (M1 (M1 (L1 2825889704044396545) E) (L1 2825889704044396545))))))) (M1 (N1 5560 (M1 (M1 (M1 E (M1 E (M1 (L1 0) E))) E) (M1 E (M1 (M1 E (N1 0 (L1 0) E)) E))) (M1 (M1 (M1 E (M1 E (M1 (L1 0) E))) (M1 (M1 E (N1 0 (L1 0) E)) E)) (M1 E (M1 (M1 E (M1 (L1 0) E)) E)))) (M1 (M1 (M1 (M1 E (M1 E (M1 (L1 0) E))) E) (M1 E (M1 (M1 E (M1 (L1 576460752303423490) E)) E))) (M1 (M1 (M1 E (M1 E (M1 (L1 0) E))) (M1 (M1 E (N1 0 (L1 0) E)) E)) (M1 E (M1 (M1 E (M1 (L1 0) E)) E)))))))⟩⟩
theorem r10:disp prog 5 (lookT t9) 990 22 a10 i10 (fun v S=>eqA v v10&&subS o10 S)=true:=by kernel_rfl
theorem s10:Seg prog T0 22 a10 i10 v10 o10:=seg_of_run (disp_ok hmO t9_ok 990) (of_decide_eq_true (by kernel_rfl)) r10
noncomputable def n10:GA:=segG a10 i10 v10 o10 (gTxt 22)
theorem m10:GS prog T0 22 n10:=segG_ok s10 (gs_Txt rfl)
noncomputable def t10:List (Nat×GA):=(22,n10)::t9
theorem t10_ok:OkT t10:= .cons m10 t9_ok
noncomputable def a11:AV:=(A [(.p 4146 0)])
noncomputable def v11:AV:=(.tu (A [(U 576460752303423489),(U 0),(.b true)]))
noncomputable def i11:St:=⟨(M1 (N1 (.g 5 (N1 (J 3) (N1 (J 7) (L1 (J 31)) E) (N1 (J 15) (L1 (J 60)) E))) (M1 (M1 E (M1 (M1 (M1 E (M1 E (M1 E (M1 (L1 (.c false 281 1 .u (L1 (U 1125904201810353)))) E)))) E) E)) (M1 (M1 E (M1 (M1 (L1 (.m .i64 [])) E) E)) E)) (M1 E (M1 (M1 E (M1 (M1 (L1 (.c false 243 3 .u (N1 (.p 148 0) (L1 (.p 12 0)) (L1 (.p 110 0))))) E) E)) E))) (M1 (N1 (.g 16 (N1 (.i .u32 (.ofNat 0)) (N1 (.i .u32 (.ofNat 274646895)) (N1 (.i .u32 (.ofNat 820201905)) (N1 (.i .u32 (.ofNat 1905808397)) (L1 (.i .u32 (.ofNat 4084100981))) E) (L1 (.i .u32 (.ofNat 2987750089)))) (N1 (.i .u32 (.ofNat 1361435347)) (L1 (.i .u32 (.ofNat 2460548119))) (L1 (.i .u32 (.ofNat 3553878443))))) (N1 (.i .u32 (.ofNat 549293790)) (N1 (.i .u32 (.ofNat 1098587580)) (L1 (.i .u32 (.ofNat 2197175160))) (L1 (.i .u32 (.ofNat 3280807620)))) (N1 (.i .u32 (.ofNat 1640403810)) (L1 (.i .u32 (.ofNat 2722870694))) (L1 (.i .u32 (.ofNat 3811616794))))))) (M1 (M1 E (M1 E (L1 (.c false 321 2 .u (N1 (.ic 87 (.p 12 0)) (L1 (.sl 136 0 3 3 false 4)) E))))) (M1 (M1 (M1 (L1 (.c false 325 12 .u (N1 (J 53) (N1 (J 0) (N1 (.b false) (L1 (.b false)) (L1 (.b false))) (N1 (J 3) (L1 (.i .i64 (.negSucc 0))) E)) (N1 (J 0) (N1 (J 85) (L1 (J 117)) E) (N1 (J 0) (L1 (.i .i64 (.negSucc 0))) E))))) E) E) E)) (M1 (M1 E (M1 (M1 (L1 (.c false 241 8 .u (N1 (.ic 87 (.p 12 0)) (N1 (J 53) (N1 (.p 112 0) (L1 (.b false)) E) (L1 (.m 147))) (N1 (J 96) (L1 (.m 146)) (L1 .m0))))) E) E)) E)) (M1 (M1 (M1 E (M1 (M1 (L1 (.m .u64 [])) E) (M1 (M1 (M1 (M1 (M1 (M1 (L1 (.c false 214 8 .u (N1 (.p 1479 0) (N1 (.ic 112 (.p 149 0)) (N1 (U 576460756598390783) (L1 .s0) E) (L1 (.b false))) (N1 (U 576460752303423488) (L1 (U 576460752303423488)) (L1 (J 0)))))) E) E) E) E) E) E))) E) (M1 E (M1 (M1 E (L1 (.c false 312 3 .u (N1 (.ic 87 (.p 12 0)) (L1 (U 0)) (L1 (U 1664)))))) E))))),4147,some ⟨11,149,262,(N1 0 (M1 (M1 (M1 (M1 (M1 (M1 E (M1 E (M1 (L1 0) E))) E) (M1 (M1 E (M1 E (M1 (L1 0) E))) (M1 (M1 E (N1 0 (L1 0) E)) E))) (M1 (M1 (M1 E (M1 E (M1 (L1 0) E))) E) (M1 E (M1 (M1 E (M1 (L1 576460778073227267) E)) E)))) (N1 576460778073227267 (M1 (M1 (M1 E (M1 E (M1 (L1 0) E))) E) (M1 E (M1 (M1 E (N1 0 (L1 0) E)) E))) (M1 (M1 (M1 E (M1 E (M1 (L1 0) E))) (M1 (M1 E (N1 0 (L1 0) E)) E)) (M1 E (M1 (M1 E (M1 (L1 0) E)) E))))) (M1 (N1 9007199254749443 (M1 (M1 (M1 E (M1 E (M1 (L1 0) E))) E) (M1 E (M1 (M1 E (N1 562954248389297 (L1 9007199254749443) E)) E))) (M1 (M1 (M1 E (M1 E (M1 (L1 0) E))) (M1 (M1 E (N1 1 (L1 1) E)) E)) (M1 E (M1 (M1 E (M1 (L1 0) E)) E)))) (N1 1 (M1 (M1 (M1 E (M1 E (M1 (L1 0) E))) E) (M1 E (M1 (M1 E (M1 (L1 576460752303423489) E)) E))) (M1 (M1 (M1 E (M1 E (M1 (L1 0) E))) (M1 (M1 E (N1 0 (L1 0) E)) E)) (M1 E (M1 (M1 E (M1 (L1 0) E)) E)))))) (M1 (M1 (N1 5512 (M1 (M1 (M1 (M1 (M1 (L1 2825889704044396545) E) (M1 (L1 2825889704044396545) E)) (M1 (M1 (L1 2825889704044396545) E) (N1 2825889704044396545 (L1 0) E))) (M1 (M1 (M1 (L1 2825889704044396545) E) (N1 1125904201810353 (L1 2825889704044396545) E)) (M1 (M1 (L1 2825889704044396545) E) (L1 2825889704044396545)))) (M1 (M1 (M1 (M1 (L1 2825889704044396545) (L1 2825889704044396545)) (M1 (L1 2825889704044396545) E)) (M1 (M1 (L1 2825889704044396545) (L1 2825889704044396545)) (N1 2825889704044396545 (L1 2825889704044396545) E))) (M1 (M1 (M1 (L1 2825889704044396545) (L1 2825889704044396545)) (N1 11229287419650244609 (L1 17445010209780137985) E)) (M1 (M1 (L1 2825889704044396545) (L1 2825889704044396545)) (N1 2825889704044396545 (L1 2825889704044396545) E))))) (M1 (M1 (M1 (M1 (M1 (L1 2825889704044396545) E) (M1 (L1 2825889704044396545) E)) (M1 (M1 (L1 2825889704044396545) E) (N1 2825889704044396545 (L1 0) E))) (M1 (M1 (M1 (L1 2825889704044396545) E) (N1 5708798863030157313 (L1 1301896511614091265) (L1 7160393175083778049))) (M1 (M1 (L1 2825889704044396545) E) (L1 2825889704044396545)))) (M1 (M1 (M1 (M1 (L1 2825889704044396545) E) (M1 (L1 2825889704044396545) E)) (M1 (M1 (L1 2825889704044396545) E) (L1 2825889704044396545))) (M1 (M1 (M1 (L1 2825889704044396545) E) (N1 2825889704044396545 (L1 0) E)) (M1 (M1 (L1 2825889704044396545) E) (L1 2825889704044396545)))))) (N1 5448 (M1 (M1 (M1 (M1 (M1 (L1 2825889704044396545) E) (M1 (L1 2825889704044396545) E)) (M1 (M1 (L1 2825889704044396545) E) (N1 2825889704044396545 (L1 0) E))) (M1 (M1 (M1 (L1 2825889704044396545) E) (M1 (L1 2825889704044396545) E)) (M1 (M1 (L1 2825889704044396545) E) (L1 2825889704044396545)))) (M1 (M1 (M1 (M1 (L1 2825889704044396545) E) (M1 (L1 2825889704044396545) E)) (M1 (M1 (L1 2825889704044396545) E) (L1 2825889704044396545))) (M1 (M1 (M1 (L1 2825889704044396545) E) (N1 2825889704044396545 (L1 0) E)) (M1 (M1 (L1 2825889704044396545) E) (L1 2825889704044396545))))) (M1 (M1 (M1 (M1 (M1 (L1 2825889704044396545) E) (M1 (L1 2825889704044396545) E)) (M1 (M1 (L1 2825889704044396545) E) (N1 2825889704044396545 (L1 0) E))) (M1 (M1 (M1 (L1 2825889704044396545) E) (N1 0 (L1 0) E)) (M1 (M1 (L1 2825889704044396545) E) (L1 2825889704044396545)))) (M1 (M1 (M1 (M1 (L1 2825889704044396545) E) (M1 (L1 2825889704044396545) E)) (M1 (M1 (L1 2825889704044396545) E) (L1 2825889704044396545))) (M1 (M1 (M1 (L1 2825889704044396545) E) (N1 2825889704044396545 (L1 0) E)) (M1 (M1 (L1 2825889704044396545) E) (L1 2825889704044396545))))))) (M1 (N1 5560 (M1 (M1 (M1 E (M1 E (M1 (L1 0) E))) E) (M1 E (M1 (M1 E (N1 0 (L1 0) E)) E))) (M1 (M1 (M1 E (M1 E (M1 (L1 0) E))) (M1 (M1 E (N1 0 (L1 0) E)) E)) (M1 E (M1 (M1 E (M1 (L1 0) E)) E)))) (M1 (M1 (M1 (M1 E (M1 E (M1 (L1 0) E))) E) (M1 E (M1 (M1 E (M1 (L1 576460752303423490) E)) E))) (M1 (M1 (M1 E (M1 E (M1 (L1 0) E))) (M1 (M1 E (N1 0 (L1 0) E)) E)) (M1 E (M1 (M1 E (M1 (L1 0) E)) E)))))))⟩⟩
noncomputable def o11:St:=⟨(M1 (N1 (.g 5 (N1 (J 3) (N1 (J 7) (L1 (J 31)) E) (N1 (J 15) (L1 (J 60)) E))) (M1 (M1 E (M1 (M1 (M1 E (M1 E (M1 E (M1 (L1 (.c false 281 1 .u (L1 (U 1125904201810353)))) E)))) E) E)) (M1 (M1 E (M1 (M1 (L1 (.m .i64 [])) E) E)) E)) (M1 E (M1 (M1 E (M1 (M1 (L1 (.c false 243 3 .u (N1 (.p 148 0) (L1 (.p 12 0)) (L1 (.p 110 0))))) E) E)) E))) (M1 (N1 (.g 16 (N1 (.i .u32 (.ofNat 0)) (N1 (.i .u32 (.ofNat 274646895)) (N1 (.i .u32 (.ofNat 820201905)) (N1 (.i .u32 (.ofNat 1905808397)) (L1 (.i .u32 (.ofNat 4084100981))) E) (L1 (.i .u32 (.ofNat 2987750089)))) (N1 (.i .u32 (.ofNat 1361435347)) (L1 (.i .u32 (.ofNat 2460548119))) (L1 (.i .u32 (.ofNat 3553878443))))) (N1 (.i .u32 (.ofNat 549293790)) (N1 (.i .u32 (.ofNat 1098587580)) (L1 (.i .u32 (.ofNat 2197175160))) (L1 (.i .u32 (.ofNat 3280807620)))) (N1 (.i .u32 (.ofNat 1640403810)) (L1 (.i .u32 (.ofNat 2722870694))) (L1 (.i .u32 (.ofNat 3811616794))))))) (M1 (M1 E (M1 E (L1 (.c false 321 2 .u (N1 (.ic 87 (.p 12 0)) (L1 (.sl 136 0 3 3 false 4)) E))))) (M1 (M1 (M1 (L1 (.c false 325 12 .u (N1 (J 53) (N1 (J 0) (N1 (.b false) (L1 (.b false)) (L1 (.b false))) (N1 (J 3) (L1 (.i .i64 (.negSucc 0))) E)) (N1 (J 0) (N1 (J 85) (L1 (J 117)) E) (N1 (J 0) (L1 (.i .i64 (.negSucc 0))) E))))) E) E) E)) (M1 (M1 E (M1 (M1 (L1 (.c false 241 8 .u (N1 (.ic 87 (.p 12 0)) (N1 (J 53) (N1 (.p 112 0) (L1 (.b false)) E) (L1 (.m 147))) (N1 (J 96) (L1 (.m 146)) (L1 .m0))))) E) E)) E)) (M1 (M1 (M1 E (M1 (M1 (L1 (.m .u64 [])) E) (M1 (M1 (M1 (M1 (M1 (M1 (L1 (.c false 214 8 .u (N1 (.p 1479 0) (N1 (.ic 112 (.p 149 0)) (N1 (U 576460756598390783) (L1 .s0) E) (L1 (.b false))) (N1 (U 576460752303423488) (L1 (U 576460752303423490)) (L1 (J 0)))))) E) E) E) E) E) E))) E) (M1 E (M1 (M1 E (L1 (.c false 312 3 .u (N1 (.ic 87 (.p 12 0)) (L1 (U 0)) (L1 (U 1664)))))) E))))),4417,some ⟨11,149,262,(N1 0 (M1 (M1 (M1 (M1 (M1 (M1 E (M1 E (M1 (L1 0) E))) E) (M1 (M1 E (M1 E (M1 (L1 0) E))) (M1 (M1 E (N1 0 (L1 0) E)) E))) (M1 (M1 (M1 E (M1 E (M1 (L1 0) E))) E) (M1 E (M1 (M1 E (M1 (L1 576460778073227267) E)) E)))) (N1 576460778073227267 (M1 (M1 (M1 E (M1 E (M1 (L1 0) E))) E) (M1 E (M1 (M1 E (N1 0 (L1 0) E)) E))) (M1 (M1 (M1 E (M1 E (M1 (L1 0) E))) (M1 (M1 E (N1 0 (L1 0) E)) E)) (M1 E (M1 (M1 E (M1 (L1 0) E)) E))))) (M1 (N1 9007199254749443 (M1 (M1 (M1 E (M1 E (M1 (L1 0) E))) E) (M1 E (M1 (M1 E (N1 562954248389297 (L1 9007199254749443) E)) E))) (M1 (M1 (M1 E (M1 E (M1 (L1 0) E))) (M1 (M1 E (N1 1 (L1 1) E)) E)) (M1 E (M1 (M1 E (M1 (L1 0) E)) E)))) (N1 1 (M1 (M1 (M1 E (M1 E (M1 (L1 0) E))) E) (M1 E (M1 (M1 E (M1 (L1 576460752303423489) E)) E))) (M1 (M1 (M1 E (M1 E (M1 (L1 0) E))) (M1 (M1 E (N1 0 (L1 0) E)) E)) (M1 E (M1 (M1 E (M1 (L1 0) E)) E)))))) (M1 (M1 (N1 5512 (M1 (M1 (M1 (M1 (M1 (L1 2825889704044396545) E) (M1 (L1 2825889704044396545) E)) (M1 (M1 (L1 2825889704044396545) E) (N1 2825889704044396545 (L1 0) E))) (M1 (M1 (M1 (L1 2825889704044396545) E) (N1 1125904201810353 (L1 2825889704044396545) E)) (M1 (M1 (L1 2825889704044396545) E) (L1 2825889704044396545)))) (M1 (M1 (M1 (M1 (L1 2825889704044396545) (L1 2825889704044396545)) (M1 (L1 2825889704044396545) E)) (M1 (M1 (L1 2825889704044396545) (L1 2825889704044396545)) (N1 2825889704044396545 (L1 2825889704044396545) E))) (M1 (M1 (M1 (L1 2825889704044396545) (L1 2825889704044396545)) (N1 11229287419650244609 (L1 17445010209780137985) E)) (M1 (M1 (L1 2825889704044396545) (L1 2825889704044396545)) (N1 2825889704044396545 (L1 2825889704044396545) E))))) (M1 (M1 (M1 (M1 (M1 (L1 2825889704044396545) E) (M1 (L1 2825889704044396545) E)) (M1 (M1 (L1 2825889704044396545) E) (N1 2825889704044396545 (L1 0) E))) (M1 (M1 (M1 (L1 2825889704044396545) E) (N1 5708798863030157313 (L1 1301896511614091265) (L1 7160393175083778049))) (M1 (M1 (L1 2825889704044396545) E) (L1 2825889704044396545)))) (M1 (M1 (M1 (M1 (L1 2825889704044396545) E) (M1 (L1 2825889704044396545) E)) (M1 (M1 (L1 2825889704044396545) E) (L1 2825889704044396545))) (M1 (M1 (M1 (L1 2825889704044396545) E) (N1 2825889704044396545 (L1 0) E)) (M1 (M1 (L1 2825889704044396545) E) (L1 2825889704044396545)))))) (N1 5448 (M1 (M1 (M1 (M1 (M1 (L1 2825889704044396545) E) (M1 (L1 2825889704044396545) E)) (M1 (M1 (L1 2825889704044396545) E) (N1 2825889704044396545 (L1 0) E))) (M1 (M1 (M1 (L1 2825889704044396545) E) (M1 (L1 2825889704044396545) E)) (M1 (M1 (L1 2825889704044396545) E) (L1 2825889704044396545)))) (M1 (M1 (M1 (M1 (L1 2825889704044396545) E) (M1 (L1 2825889704044396545) E)) (M1 (M1 (L1 2825889704044396545) E) (L1 2825889704044396545))) (M1 (M1 (M1 (L1 2825889704044396545) E) (N1 2825889704044396545 (L1 0) E)) (M1 (M1 (L1 2825889704044396545) E) (L1 2825889704044396545))))) (M1 (M1 (M1 (M1 (M1 (L1 2825889704044396545) E) (M1 (L1 2825889704044396545) E)) (M1 (M1 (L1 2825889704044396545) E) (N1 2825889704044396545 (L1 0) E))) (M1 (M1 (M1 (L1 2825889704044396545) E) (N1 0 (L1 0) E)) (M1 (M1 (L1 2825889704044396545) E) (L1 2825889704044396545)))) (M1 (M1 (M1 (M1 (L1 2825889704044396545) E) (M1 (L1 2825889704044396545) E)) (M1 (M1 (L1 2825889704044396545) E) (L1 2825889704044396545))) (M1 (M1 (M1 (L1 2825889704044396545) E) (N1 2825889704044396545 (L1 0) E)) (M1 (M1 (L1 2825889704044396545) E) (L1 2825889704044396545))))))) (M1 (N1 5560 (M1 (M1 (M1 E (M1 E (M1 (L1 0) E))) E) (M1 E (M1 (M1 E (N1 0 (L1 0) E)) E))) (M1 (M1 (M1 E (M1 E (M1 (L1 0) E))) (M1 (M1 E (N1 0 (L1 0) E)) E)) (M1 E (M1 (M1 E (M1 (L1 0) E)) E)))) (M1 (M1 (M1 (M1 E (M1 E (M1 (L1 0) E))) E) (M1 E (M1 (M1 E (M1 (L1 576460752303423490) E)) E))) (M1 (M1 (M1 E (M1 E (M1 (L1 0) E))) (M1 (M1 E (N1 0 (L1 0) E)) E)) (M1 E (M1 (M1 E (M1 (L1 0) E)) E)))))))⟩⟩
theorem r11:disp prog 5 (lookT t10) 990 60 a11 i11 (fun v S=>eqA v v11&&subS o11 S)=true:=by kernel_rfl
theorem s11:Seg prog T0 60 a11 i11 v11 o11:=seg_of_run (disp_ok hmO t10_ok 990) (of_decide_eq_true (by kernel_rfl)) r11
noncomputable def n11:GA:=segG a11 i11 v11 o11 (gTxt 60)
theorem m11:GS prog T0 60 n11:=segG_ok s11 (gs_Txt rfl)
noncomputable def t11:List (Nat×GA):=(60,n11)::t10
theorem t11_ok:OkT t11:= .cons m11 t10_ok
noncomputable def a12:AV:=(A [(.p 4146 0)])
noncomputable def v12:AV:=(.tu (A [(U 576460752303423490),(U 0),(.b true)]))
noncomputable def i12:St:=⟨(M1 (N1 (.g 5 (N1 (J 3) (N1 (J 7) (L1 (J 31)) E) (N1 (J 15) (L1 (J 60)) E))) (M1 (M1 E (M1 (M1 (M1 E (M1 E (M1 E (M1 (L1 (.c false 281 1 .u (L1 (U 1125904201810353)))) E)))) E) E)) (M1 (M1 E (M1 (M1 (L1 (.m .i64 [])) E) E)) E)) (M1 E (M1 (M1 E (M1 (M1 (L1 (.c false 243 3 .u (N1 (.p 148 0) (L1 (.p 12 0)) (L1 (.p 110 0))))) E) E)) E))) (M1 (N1 (.g 16 (N1 (.i .u32 (.ofNat 0)) (N1 (.i .u32 (.ofNat 274646895)) (N1 (.i .u32 (.ofNat 820201905)) (N1 (.i .u32 (.ofNat 1905808397)) (L1 (.i .u32 (.ofNat 4084100981))) E) (L1 (.i .u32 (.ofNat 2987750089)))) (N1 (.i .u32 (.ofNat 1361435347)) (L1 (.i .u32 (.ofNat 2460548119))) (L1 (.i .u32 (.ofNat 3553878443))))) (N1 (.i .u32 (.ofNat 549293790)) (N1 (.i .u32 (.ofNat 1098587580)) (L1 (.i .u32 (.ofNat 2197175160))) (L1 (.i .u32 (.ofNat 3280807620)))) (N1 (.i .u32 (.ofNat 1640403810)) (L1 (.i .u32 (.ofNat 2722870694))) (L1 (.i .u32 (.ofNat 3811616794))))))) (M1 (M1 E (M1 E (L1 (.c false 321 2 .u (N1 (.ic 87 (.p 12 0)) (L1 (.sl 136 0 3 3 false 4)) E))))) (M1 (M1 (M1 (L1 (.c false 325 12 .u (N1 (J 53) (N1 (J 0) (N1 (.b false) (L1 (.b false)) (L1 (.b false))) (N1 (J 3) (L1 (.i .i64 (.negSucc 0))) E)) (N1 (J 0) (N1 (J 85) (L1 (J 117)) E) (N1 (J 0) (L1 (.i .i64 (.negSucc 0))) E))))) E) E) E)) (M1 (M1 E (M1 (M1 (L1 (.c false 241 8 .u (N1 (.ic 87 (.p 12 0)) (N1 (J 53) (N1 (.p 112 0) (L1 (.b false)) E) (L1 (.m 147))) (N1 (J 96) (L1 (.m 146)) (L1 .m0))))) E) E)) E)) (M1 (M1 (M1 E (M1 (M1 (L1 (.m .u64 [])) E) (M1 (M1 (M1 (M1 (M1 (M1 (L1 (.c false 214 8 .u (N1 (.p 1479 0) (N1 (.ic 112 (.p 149 0)) (N1 (U 576460756598390783) (L1 .s0) E) (L1 (.b false))) (N1 (U 576460752303423488) (L1 (U 576460752303423490)) (L1 (J 0)))))) E) E) E) E) E) E))) E) (M1 E (M1 (M1 E (L1 (.c false 312 3 .u (N1 (.ic 87 (.p 12 0)) (L1 (U 0)) (L1 (U 1664)))))) E))))),4419,some ⟨11,149,262,(N1 0 (M1 (M1 (M1 (M1 (M1 (M1 E (M1 E (M1 (L1 0) E))) E) (M1 (M1 E (M1 E (M1 (L1 0) E))) (M1 (M1 E (N1 0 (L1 0) E)) E))) (M1 (M1 (M1 E (M1 E (M1 (L1 0) E))) E) (M1 E (M1 (M1 E (M1 (L1 576460778073227267) E)) E)))) (N1 576460778073227267 (M1 (M1 (M1 E (M1 E (M1 (L1 0) E))) E) (M1 E (M1 (M1 E (N1 0 (L1 0) E)) E))) (M1 (M1 (M1 E (M1 E (M1 (L1 0) E))) (M1 (M1 E (N1 0 (L1 0) E)) E)) (M1 E (M1 (M1 E (M1 (L1 0) E)) E))))) (M1 (N1 9007199254749443 (M1 (M1 (M1 E (M1 E (M1 (L1 0) E))) E) (M1 E (M1 (M1 E (N1 562954248389297 (L1 9007199254749443) E)) E))) (M1 (M1 (M1 E (M1 E (M1 (L1 0) E))) (M1 (M1 E (N1 1 (L1 1) E)) E)) (M1 E (M1 (M1 E (M1 (L1 0) E)) E)))) (N1 1 (M1 (M1 (M1 E (M1 E (M1 (L1 0) E))) E) (M1 E (M1 (M1 E (M1 (L1 576460752303423489) E)) E))) (M1 (M1 (M1 E (M1 E (M1 (L1 0) E))) (M1 (M1 E (N1 0 (L1 0) E)) E)) (M1 E (M1 (M1 E (M1 (L1 0) E)) E)))))) (M1 (M1 (N1 5512 (M1 (M1 (M1 (M1 (M1 (L1 2825889704044396545) E) (M1 (L1 2825889704044396545) E)) (M1 (M1 (L1 2825889704044396545) E) (N1 2825889704044396545 (L1 0) E))) (M1 (M1 (M1 (L1 2825889704044396545) E) (N1 1125904201810353 (L1 2825889704044396545) E)) (M1 (M1 (L1 2825889704044396545) E) (L1 2825889704044396545)))) (M1 (M1 (M1 (M1 (L1 2825889704044396545) (L1 2825889704044396545)) (M1 (L1 2825889704044396545) E)) (M1 (M1 (L1 2825889704044396545) (L1 2825889704044396545)) (N1 2825889704044396545 (L1 2825889704044396545) E))) (M1 (M1 (M1 (L1 2825889704044396545) (L1 2825889704044396545)) (N1 11229287419650244609 (L1 17445010209780137985) E)) (M1 (M1 (L1 2825889704044396545) (L1 2825889704044396545)) (N1 2825889704044396545 (L1 2825889704044396545) E))))) (M1 (M1 (M1 (M1 (M1 (L1 2825889704044396545) E) (M1 (L1 2825889704044396545) E)) (M1 (M1 (L1 2825889704044396545) E) (N1 2825889704044396545 (L1 0) E))) (M1 (M1 (M1 (L1 2825889704044396545) E) (N1 5708798863030157313 (L1 1301896511614091265) (L1 7160393175083778049))) (M1 (M1 (L1 2825889704044396545) E) (L1 2825889704044396545)))) (M1 (M1 (M1 (M1 (L1 2825889704044396545) E) (M1 (L1 2825889704044396545) E)) (M1 (M1 (L1 2825889704044396545) E) (L1 2825889704044396545))) (M1 (M1 (M1 (L1 2825889704044396545) E) (N1 2825889704044396545 (L1 0) E)) (M1 (M1 (L1 2825889704044396545) E) (L1 2825889704044396545)))))) (N1 5448 (M1 (M1 (M1 (M1 (M1 (L1 2825889704044396545) E) (M1 (L1 2825889704044396545) E)) (M1 (M1 (L1 2825889704044396545) E) (N1 2825889704044396545 (L1 0) E))) (M1 (M1 (M1 (L1 2825889704044396545) E) (M1 (L1 2825889704044396545) E)) (M1 (M1 (L1 2825889704044396545) E) (L1 2825889704044396545)))) (M1 (M1 (M1 (M1 (L1 2825889704044396545) E) (M1 (L1 2825889704044396545) E)) (M1 (M1 (L1 2825889704044396545) E) (L1 2825889704044396545))) (M1 (M1 (M1 (L1 2825889704044396545) E) (N1 2825889704044396545 (L1 0) E)) (M1 (M1 (L1 2825889704044396545) E) (L1 2825889704044396545))))) (M1 (M1 (M1 (M1 (M1 (L1 2825889704044396545) E) (M1 (L1 2825889704044396545) E)) (M1 (M1 (L1 2825889704044396545) E) (N1 2825889704044396545 (L1 0) E))) (M1 (M1 (M1 (L1 2825889704044396545) E) (N1 0 (L1 0) E)) (M1 (M1 (L1 2825889704044396545) E) (L1 2825889704044396545)))) (M1 (M1 (M1 (M1 (L1 2825889704044396545) E) (M1 (L1 2825889704044396545) E)) (M1 (M1 (L1 2825889704044396545) E) (L1 2825889704044396545))) (M1 (M1 (M1 (L1 2825889704044396545) E) (N1 2825889704044396545 (L1 0) E)) (M1 (M1 (L1 2825889704044396545) E) (L1 2825889704044396545))))))) (M1 (N1 5560 (M1 (M1 (M1 E (M1 E (M1 (L1 0) E))) E) (M1 E (M1 (M1 E (N1 0 (L1 0) E)) E))) (M1 (M1 (M1 E (M1 E (M1 (L1 0) E))) (M1 (M1 E (N1 0 (L1 0) E)) E)) (M1 E (M1 (M1 E (M1 (L1 0) E)) E)))) (M1 (M1 (M1 (M1 E (M1 E (M1 (L1 0) E))) E) (M1 E (M1 (M1 E (M1 (L1 576460752303423490) E)) E))) (M1 (M1 (M1 E (M1 E (M1 (L1 0) E))) (M1 (M1 E (N1 0 (L1 0) E)) E)) (M1 E (M1 (M1 E (M1 (L1 0) E)) E)))))))⟩⟩
noncomputable def o12:St:=⟨(M1 (N1 (.g 5 (N1 (J 3) (N1 (J 7) (L1 (J 31)) E) (N1 (J 15) (L1 (J 60)) E))) (M1 (M1 E (M1 (M1 (M1 E (M1 E (M1 E (M1 (L1 (.c false 281 1 .u (L1 (U 1125904201810353)))) E)))) E) E)) (M1 (M1 E (M1 (M1 (L1 (.m .i64 [])) E) E)) E)) (M1 E (M1 (M1 E (M1 (M1 (L1 (.c false 243 3 .u (N1 (.p 148 0) (L1 (.p 12 0)) (L1 (.p 110 0))))) E) E)) E))) (M1 (N1 (.g 16 (N1 (.i .u32 (.ofNat 0)) (N1 (.i .u32 (.ofNat 274646895)) (N1 (.i .u32 (.ofNat 820201905)) (N1 (.i .u32 (.ofNat 1905808397)) (L1 (.i .u32 (.ofNat 4084100981))) E) (L1 (.i .u32 (.ofNat 2987750089)))) (N1 (.i .u32 (.ofNat 1361435347)) (L1 (.i .u32 (.ofNat 2460548119))) (L1 (.i .u32 (.ofNat 3553878443))))) (N1 (.i .u32 (.ofNat 549293790)) (N1 (.i .u32 (.ofNat 1098587580)) (L1 (.i .u32 (.ofNat 2197175160))) (L1 (.i .u32 (.ofNat 3280807620)))) (N1 (.i .u32 (.ofNat 1640403810)) (L1 (.i .u32 (.ofNat 2722870694))) (L1 (.i .u32 (.ofNat 3811616794))))))) (M1 (M1 E (M1 E (L1 (.c false 321 2 .u (N1 (.ic 87 (.p 12 0)) (L1 (.sl 136 0 3 3 false 4)) E))))) (M1 (M1 (M1 (L1 (.c false 325 12 .u (N1 (J 53) (N1 (J 0) (N1 (.b false) (L1 (.b false)) (L1 (.b false))) (N1 (J 3) (L1 (.i .i64 (.negSucc 0))) E)) (N1 (J 0) (N1 (J 85) (L1 (J 117)) E) (N1 (J 0) (L1 (.i .i64 (.negSucc 0))) E))))) E) E) E)) (M1 (M1 E (M1 (M1 (L1 (.c false 241 8 .u (N1 (.ic 87 (.p 12 0)) (N1 (J 53) (N1 (.p 112 0) (L1 (.b false)) E) (L1 (.m 147))) (N1 (J 96) (L1 (.m 146)) (L1 .m0))))) E) E)) E)) (M1 (M1 (M1 E (M1 (M1 (L1 (.m .u64 [])) E) (M1 (M1 (M1 (M1 (M1 (M1 (L1 (.c false 214 8 .u (N1 (.p 1479 0) (N1 (.ic 112 (.p 149 0)) (N1 (U 576460756598390783) (L1 .s0) E) (L1 (.b false))) (N1 (U 576460752303423488) (L1 (U 576460752303423491)) (L1 (J 0)))))) E) E) E) E) E) E))) E) (M1 E (M1 (M1 E (L1 (.c false 312 3 .u (N1 (.ic 87 (.p 12 0)) (L1 (U 0)) (L1 (U 1664)))))) E))))),4689,some ⟨11,149,262,(N1 0 (M1 (M1 (M1 (M1 (M1 (M1 E (M1 E (M1 (L1 0) E))) E) (M1 (M1 E (M1 E (M1 (L1 0) E))) (M1 (M1 E (N1 0 (L1 0) E)) E))) (M1 (M1 (M1 E (M1 E (M1 (L1 0) E))) E) (M1 E (M1 (M1 E (M1 (L1 576460778073227267) E)) E)))) (N1 576460778073227267 (M1 (M1 (M1 E (M1 E (M1 (L1 0) E))) E) (M1 E (M1 (M1 E (N1 0 (L1 0) E)) E))) (M1 (M1 (M1 E (M1 E (M1 (L1 0) E))) (M1 (M1 E (N1 0 (L1 0) E)) E)) (M1 E (M1 (M1 E (M1 (L1 0) E)) E))))) (M1 (N1 9007199254749443 (M1 (M1 (M1 E (M1 E (M1 (L1 0) E))) E) (M1 E (M1 (M1 E (N1 562954248389297 (L1 9007199254749443) E)) E))) (M1 (M1 (M1 E (M1 E (M1 (L1 0) E))) (M1 (M1 E (N1 1 (L1 1) E)) E)) (M1 E (M1 (M1 E (M1 (L1 0) E)) E)))) (N1 1 (M1 (M1 (M1 E (M1 E (M1 (L1 0) E))) E) (M1 E (M1 (M1 E (M1 (L1 576460752303423489) E)) E))) (M1 (M1 (M1 E (M1 E (M1 (L1 0) E))) (M1 (M1 E (N1 0 (L1 0) E)) E)) (M1 E (M1 (M1 E (M1 (L1 0) E)) E)))))) (M1 (M1 (N1 5512 (M1 (M1 (M1 (M1 (M1 (L1 2825889704044396545) E) (M1 (L1 2825889704044396545) E)) (M1 (M1 (L1 2825889704044396545) E) (N1 2825889704044396545 (L1 0) E))) (M1 (M1 (M1 (L1 2825889704044396545) E) (N1 1125904201810353 (L1 2825889704044396545) E)) (M1 (M1 (L1 2825889704044396545) E) (L1 2825889704044396545)))) (M1 (M1 (M1 (M1 (L1 2825889704044396545) (L1 2825889704044396545)) (M1 (L1 2825889704044396545) E)) (M1 (M1 (L1 2825889704044396545) (L1 2825889704044396545)) (N1 2825889704044396545 (L1 2825889704044396545) E))) (M1 (M1 (M1 (L1 2825889704044396545) (L1 2825889704044396545)) (N1 11229287419650244609 (L1 17445010209780137985) E)) (M1 (M1 (L1 2825889704044396545) (L1 2825889704044396545)) (N1 2825889704044396545 (L1 2825889704044396545) E))))) (M1 (M1 (M1 (M1 (M1 (L1 2825889704044396545) E) (M1 (L1 2825889704044396545) E)) (M1 (M1 (L1 2825889704044396545) E) (N1 2825889704044396545 (L1 0) E))) (M1 (M1 (M1 (L1 2825889704044396545) E) (N1 5708798863030157313 (L1 1301896511614091265) (L1 7160393175083778049))) (M1 (M1 (L1 2825889704044396545) E) (L1 2825889704044396545)))) (M1 (M1 (M1 (M1 (L1 2825889704044396545) E) (M1 (L1 2825889704044396545) E)) (M1 (M1 (L1 2825889704044396545) E) (L1 2825889704044396545))) (M1 (M1 (M1 (L1 2825889704044396545) E) (N1 2825889704044396545 (L1 0) E)) (M1 (M1 (L1 2825889704044396545) E) (L1 2825889704044396545)))))) (N1 5448 (M1 (M1 (M1 (M1 (M1 (L1 2825889704044396545) E) (M1 (L1 2825889704044396545) E)) (M1 (M1 (L1 2825889704044396545) E) (N1 2825889704044396545 (L1 0) E))) (M1 (M1 (M1 (L1 2825889704044396545) E) (M1 (L1 2825889704044396545) E)) (M1 (M1 (L1 2825889704044396545) E) (L1 2825889704044396545)))) (M1 (M1 (M1 (M1 (L1 2825889704044396545) E) (M1 (L1 2825889704044396545) E)) (M1 (M1 (L1 2825889704044396545) E) (L1 2825889704044396545))) (M1 (M1 (M1 (L1 2825889704044396545) E) (N1 2825889704044396545 (L1 0) E)) (M1 (M1 (L1 2825889704044396545) E) (L1 2825889704044396545))))) (M1 (M1 (M1 (M1 (M1 (L1 2825889704044396545) E) (M1 (L1 2825889704044396545) E)) (M1 (M1 (L1 2825889704044396545) E) (N1 2825889704044396545 (L1 0) E))) (M1 (M1 (M1 (L1 2825889704044396545) E) (N1 0 (L1 0) E)) (M1 (M1 (L1 2825889704044396545) E) (L1 2825889704044396545)))) (M1 (M1 (M1 (M1 (L1 2825889704044396545) E) (M1 (L1 2825889704044396545) E)) (M1 (M1 (L1 2825889704044396545) E) (L1 2825889704044396545))) (M1 (M1 (M1 (L1 2825889704044396545) E) (N1 2825889704044396545 (L1 0) E)) (M1 (M1 (L1 2825889704044396545) E) (L1 2825889704044396545))))))) (M1 (N1 5560 (M1 (M1 (M1 E (M1 E (M1 (L1 0) E))) E) (M1 E (M1 (M1 E (N1 0 (L1 0) E)) E))) (M1 (M1 (M1 E (M1 E (M1 (L1 0) E))) (M1 (M1 E (N1 0 (L1 0) E)) E)) (M1 E (M1 (M1 E (M1 (L1 0) E)) E)))) (M1 (M1 (M1 (M1 E (M1 E (M1 (L1 0) E))) E) (M1 E (M1 (M1 E (M1 (L1 576460752303423490) E)) E))) (M1 (M1 (M1 E (M1 E (M1 (L1 0) E))) (M1 (M1 E (N1 0 (L1 0) E)) E)) (M1 E (M1 (M1 E (M1 (L1 0) E)) E)))))))⟩⟩
theorem r12:disp prog 5 (lookT t11) 990 60 a12 i12 (fun v S=>eqA v v12&&subS o12 S)=true:=by kernel_rfl
theorem s12:Seg prog T0 60 a12 i12 v12 o12:=seg_of_run (disp_ok hmO t11_ok 990) (of_decide_eq_true (by kernel_rfl)) r12
noncomputable def n12:GA:=segG a12 i12 v12 o12 (n11)
theorem m12:GS prog T0 60 n12:=segG_ok s12 (m11)
noncomputable def t12:List (Nat×GA):=(60,n12)::t11
theorem t12_ok:OkT t12:= .cons m12 t11_ok
noncomputable def a13:AV:=(A [(.p 4146 0)])
noncomputable def v13:AV:=(.tu (A [(U 0),(U 0),(.b false)]))
noncomputable def i13:St:=⟨(M1 (N1 (.g 5 (N1 (J 3) (N1 (J 7) (L1 (J 31)) E) (N1 (J 15) (L1 (J 60)) E))) (M1 (M1 E (M1 (M1 (M1 E (M1 E (M1 E (M1 (L1 (.c false 281 1 .u (L1 (U 1125904201810353)))) E)))) E) E)) (M1 (M1 E (M1 (M1 (L1 (.m .i64 [])) E) E)) E)) (M1 E (M1 (M1 E (M1 (M1 (L1 (.c false 243 3 .u (N1 (.p 148 0) (L1 (.p 12 0)) (L1 (.p 110 0))))) E) E)) E))) (M1 (N1 (.g 16 (N1 (.i .u32 (.ofNat 0)) (N1 (.i .u32 (.ofNat 274646895)) (N1 (.i .u32 (.ofNat 820201905)) (N1 (.i .u32 (.ofNat 1905808397)) (L1 (.i .u32 (.ofNat 4084100981))) E) (L1 (.i .u32 (.ofNat 2987750089)))) (N1 (.i .u32 (.ofNat 1361435347)) (L1 (.i .u32 (.ofNat 2460548119))) (L1 (.i .u32 (.ofNat 3553878443))))) (N1 (.i .u32 (.ofNat 549293790)) (N1 (.i .u32 (.ofNat 1098587580)) (L1 (.i .u32 (.ofNat 2197175160))) (L1 (.i .u32 (.ofNat 3280807620)))) (N1 (.i .u32 (.ofNat 1640403810)) (L1 (.i .u32 (.ofNat 2722870694))) (L1 (.i .u32 (.ofNat 3811616794))))))) (M1 (M1 E (M1 E (L1 (.c false 321 2 .u (N1 (.ic 87 (.p 12 0)) (L1 (.sl 136 0 3 3 false 4)) E))))) (M1 (M1 (M1 (L1 (.c false 325 12 .u (N1 (J 53) (N1 (J 0) (N1 (.b false) (L1 (.b false)) (L1 (.b false))) (N1 (J 3) (L1 (.i .i64 (.negSucc 0))) E)) (N1 (J 0) (N1 (J 85) (L1 (J 117)) E) (N1 (J 0) (L1 (.i .i64 (.negSucc 0))) E))))) E) E) E)) (M1 (M1 E (M1 (M1 (L1 (.c false 241 8 .u (N1 (.ic 87 (.p 12 0)) (N1 (J 53) (N1 (.p 112 0) (L1 (.b false)) E) (L1 (.m 147))) (N1 (J 96) (L1 (.m 146)) (L1 .m0))))) E) E)) E)) (M1 (M1 (M1 E (M1 (M1 (L1 (.m .u64 [])) E) (M1 (M1 (M1 (M1 (M1 (M1 (L1 (.c false 214 8 .u (N1 (.p 1479 0) (N1 (.ic 112 (.p 149 0)) (N1 (U 576460756598390783) (L1 .s0) E) (L1 (.b false))) (N1 (U 576460752303423488) (L1 (U 576460752303423491)) (L1 (J 0)))))) E) E) E) E) E) E))) E) (M1 E (M1 (M1 E (L1 (.c false 312 3 .u (N1 (.ic 87 (.p 12 0)) (L1 (U 0)) (L1 (U 1664)))))) E))))),4691,some ⟨11,149,262,(N1 0 (M1 (M1 (M1 (M1 (M1 (M1 E (M1 E (M1 (L1 0) E))) E) (M1 (M1 E (M1 E (M1 (L1 0) E))) (M1 (M1 E (N1 0 (L1 0) E)) E))) (M1 (M1 (M1 E (M1 E (M1 (L1 0) E))) E) (M1 E (M1 (M1 E (M1 (L1 576460778073227267) E)) E)))) (N1 576460778073227267 (M1 (M1 (M1 E (M1 E (M1 (L1 0) E))) E) (M1 E (M1 (M1 E (N1 0 (L1 0) E)) E))) (M1 (M1 (M1 E (M1 E (M1 (L1 0) E))) (M1 (M1 E (N1 0 (L1 0) E)) E)) (M1 E (M1 (M1 E (M1 (L1 0) E)) E))))) (M1 (N1 9007199254749443 (M1 (M1 (M1 E (M1 E (M1 (L1 0) E))) E) (M1 E (M1 (M1 E (N1 562954248389297 (L1 9007199254749443) E)) E))) (M1 (M1 (M1 E (M1 E (M1 (L1 0) E))) (M1 (M1 E (N1 1 (L1 1) E)) E)) (M1 E (M1 (M1 E (M1 (L1 0) E)) E)))) (N1 1 (M1 (M1 (M1 E (M1 E (M1 (L1 0) E))) E) (M1 E (M1 (M1 E (M1 (L1 576460752303423489) E)) E))) (M1 (M1 (M1 E (M1 E (M1 (L1 0) E))) (M1 (M1 E (N1 0 (L1 0) E)) E)) (M1 E (M1 (M1 E (M1 (L1 0) E)) E)))))) (M1 (M1 (N1 5512 (M1 (M1 (M1 (M1 (M1 (L1 2825889704044396545) E) (M1 (L1 2825889704044396545) E)) (M1 (M1 (L1 2825889704044396545) E) (N1 2825889704044396545 (L1 0) E))) (M1 (M1 (M1 (L1 2825889704044396545) E) (N1 1125904201810353 (L1 2825889704044396545) E)) (M1 (M1 (L1 2825889704044396545) E) (L1 2825889704044396545)))) (M1 (M1 (M1 (M1 (L1 2825889704044396545) (L1 2825889704044396545)) (M1 (L1 2825889704044396545) E)) (M1 (M1 (L1 2825889704044396545) (L1 2825889704044396545)) (N1 2825889704044396545 (L1 2825889704044396545) E))) (M1 (M1 (M1 (L1 2825889704044396545) (L1 2825889704044396545)) (N1 11229287419650244609 (L1 17445010209780137985) E)) (M1 (M1 (L1 2825889704044396545) (L1 2825889704044396545)) (N1 2825889704044396545 (L1 2825889704044396545) E))))) (M1 (M1 (M1 (M1 (M1 (L1 2825889704044396545) E) (M1 (L1 2825889704044396545) E)) (M1 (M1 (L1 2825889704044396545) E) (N1 2825889704044396545 (L1 0) E))) (M1 (M1 (M1 (L1 2825889704044396545) E) (N1 5708798863030157313 (L1 1301896511614091265) (L1 7160393175083778049))) (M1 (M1 (L1 2825889704044396545) E) (L1 2825889704044396545)))) (M1 (M1 (M1 (M1 (L1 2825889704044396545) E) (M1 (L1 2825889704044396545) E)) (M1 (M1 (L1 2825889704044396545) E) (L1 2825889704044396545))) (M1 (M1 (M1 (L1 2825889704044396545) E) (N1 2825889704044396545 (L1 0) E)) (M1 (M1 (L1 2825889704044396545) E) (L1 2825889704044396545)))))) (N1 5448 (M1 (M1 (M1 (M1 (M1 (L1 2825889704044396545) E) (M1 (L1 2825889704044396545) E)) (M1 (M1 (L1 2825889704044396545) E) (N1 2825889704044396545 (L1 0) E))) (M1 (M1 (M1 (L1 2825889704044396545) E) (M1 (L1 2825889704044396545) E)) (M1 (M1 (L1 2825889704044396545) E) (L1 2825889704044396545)))) (M1 (M1 (M1 (M1 (L1 2825889704044396545) E) (M1 (L1 2825889704044396545) E)) (M1 (M1 (L1 2825889704044396545) E) (L1 2825889704044396545))) (M1 (M1 (M1 (L1 2825889704044396545) E) (N1 2825889704044396545 (L1 0) E)) (M1 (M1 (L1 2825889704044396545) E) (L1 2825889704044396545))))) (M1 (M1 (M1 (M1 (M1 (L1 2825889704044396545) E) (M1 (L1 2825889704044396545) E)) (M1 (M1 (L1 2825889704044396545) E) (N1 2825889704044396545 (L1 0) E))) (M1 (M1 (M1 (L1 2825889704044396545) E) (N1 0 (L1 0) E)) (M1 (M1 (L1 2825889704044396545) E) (L1 2825889704044396545)))) (M1 (M1 (M1 (M1 (L1 2825889704044396545) E) (M1 (L1 2825889704044396545) E)) (M1 (M1 (L1 2825889704044396545) E) (L1 2825889704044396545))) (M1 (M1 (M1 (L1 2825889704044396545) E) (N1 2825889704044396545 (L1 0) E)) (M1 (M1 (L1 2825889704044396545) E) (L1 2825889704044396545))))))) (M1 (N1 5560 (M1 (M1 (M1 E (M1 E (M1 (L1 0) E))) E) (M1 E (M1 (M1 E (N1 0 (L1 0) E)) E))) (M1 (M1 (M1 E (M1 E (M1 (L1 0) E))) (M1 (M1 E (N1 0 (L1 0) E)) E)) (M1 E (M1 (M1 E (M1 (L1 0) E)) E)))) (M1 (M1 (M1 (M1 E (M1 E (M1 (L1 0) E))) E) (M1 E (M1 (M1 E (M1 (L1 576460752303423490) E)) E))) (M1 (M1 (M1 E (M1 E (M1 (L1 0) E))) (M1 (M1 E (N1 0 (L1 0) E)) E)) (M1 E (M1 (M1 E (M1 (L1 0) E)) E)))))))⟩⟩
noncomputable def o13:St:=⟨(M1 (N1 (.g 5 (N1 (J 3) (N1 (J 7) (L1 (J 31)) E) (N1 (J 15) (L1 (J 60)) E))) (M1 (M1 E (M1 (M1 (M1 E (M1 E (M1 E (M1 (L1 (.c false 281 1 .u (L1 (U 1125904201810353)))) E)))) E) E)) (M1 (M1 E (M1 (M1 (L1 (.m .i64 [])) E) E)) E)) (M1 E (M1 (M1 E (M1 (M1 (L1 (.c false 243 3 .u (N1 (.p 148 0) (L1 (.p 12 0)) (L1 (.p 110 0))))) E) E)) E))) (M1 (N1 (.g 16 (N1 (.i .u32 (.ofNat 0)) (N1 (.i .u32 (.ofNat 274646895)) (N1 (.i .u32 (.ofNat 820201905)) (N1 (.i .u32 (.ofNat 1905808397)) (L1 (.i .u32 (.ofNat 4084100981))) E) (L1 (.i .u32 (.ofNat 2987750089)))) (N1 (.i .u32 (.ofNat 1361435347)) (L1 (.i .u32 (.ofNat 2460548119))) (L1 (.i .u32 (.ofNat 3553878443))))) (N1 (.i .u32 (.ofNat 549293790)) (N1 (.i .u32 (.ofNat 1098587580)) (L1 (.i .u32 (.ofNat 2197175160))) (L1 (.i .u32 (.ofNat 3280807620)))) (N1 (.i .u32 (.ofNat 1640403810)) (L1 (.i .u32 (.ofNat 2722870694))) (L1 (.i .u32 (.ofNat 3811616794))))))) (M1 (M1 E (M1 E (L1 (.c false 321 2 .u (N1 (.ic 87 (.p 12 0)) (L1 (.sl 136 0 3 3 false 4)) E))))) (M1 (M1 (M1 (L1 (.c false 325 12 .u (N1 (J 53) (N1 (J 0) (N1 (.b false) (L1 (.b false)) (L1 (.b false))) (N1 (J 3) (L1 (.i .i64 (.negSucc 0))) E)) (N1 (J 0) (N1 (J 85) (L1 (J 117)) E) (N1 (J 0) (L1 (.i .i64 (.negSucc 0))) E))))) E) E) E)) (M1 (M1 E (M1 (M1 (L1 (.c false 241 8 .u (N1 (.ic 87 (.p 12 0)) (N1 (J 53) (N1 (.p 112 0) (L1 (.b false)) E) (L1 (.m 147))) (N1 (J 96) (L1 (.m 146)) (L1 .m0))))) E) E)) E)) (M1 (M1 (M1 E (M1 (M1 (L1 (.m .u64 [])) E) (M1 (M1 (M1 (M1 (M1 (M1 (L1 (.c false 214 8 .u (N1 (.p 1479 0) (N1 (.ic 112 (.p 149 0)) (N1 (U 576460756598390783) (L1 .s0) E) (L1 (.b true))) (N1 (U 576460752303423488) (L1 (U 576460752303423491)) (L1 (J 0)))))) E) E) E) E) E) E))) E) (M1 E (M1 (M1 E (L1 (.c false 312 3 .u (N1 (.ic 87 (.p 12 0)) (L1 (U 0)) (L1 (U 1664)))))) E))))),4961,some ⟨11,149,262,(N1 0 (M1 (M1 (M1 (M1 (M1 (M1 E (M1 E (M1 (L1 0) E))) E) (M1 (M1 E (M1 E (M1 (L1 0) E))) (M1 (M1 E (N1 0 (L1 0) E)) E))) (M1 (M1 (M1 E (M1 E (M1 (L1 0) E))) E) (M1 E (M1 (M1 E (M1 (L1 576460778073227267) E)) E)))) (N1 576460778073227267 (M1 (M1 (M1 E (M1 E (M1 (L1 0) E))) E) (M1 E (M1 (M1 E (N1 0 (L1 0) E)) E))) (M1 (M1 (M1 E (M1 E (M1 (L1 0) E))) (M1 (M1 E (N1 0 (L1 0) E)) E)) (M1 E (M1 (M1 E (M1 (L1 0) E)) E))))) (M1 (N1 9007199254749443 (M1 (M1 (M1 E (M1 E (M1 (L1 0) E))) E) (M1 E (M1 (M1 E (N1 562954248389297 (L1 9007199254749443) E)) E))) (M1 (M1 (M1 E (M1 E (M1 (L1 0) E))) (M1 (M1 E (N1 1 (L1 1) E)) E)) (M1 E (M1 (M1 E (M1 (L1 0) E)) E)))) (N1 1 (M1 (M1 (M1 E (M1 E (M1 (L1 0) E))) E) (M1 E (M1 (M1 E (M1 (L1 576460752303423489) E)) E))) (M1 (M1 (M1 E (M1 E (M1 (L1 0) E))) (M1 (M1 E (N1 0 (L1 0) E)) E)) (M1 E (M1 (M1 E (M1 (L1 0) E)) E)))))) (M1 (M1 (N1 5512 (M1 (M1 (M1 (M1 (M1 (L1 2825889704044396545) E) (M1 (L1 2825889704044396545) E)) (M1 (M1 (L1 2825889704044396545) E) (N1 2825889704044396545 (L1 0) E))) (M1 (M1 (M1 (L1 2825889704044396545) E) (N1 1125904201810353 (L1 2825889704044396545) E)) (M1 (M1 (L1 2825889704044396545) E) (L1 2825889704044396545)))) (M1 (M1 (M1 (M1 (L1 2825889704044396545) (L1 2825889704044396545)) (M1 (L1 2825889704044396545) E)) (M1 (M1 (L1 2825889704044396545) (L1 2825889704044396545)) (N1 2825889704044396545 (L1 2825889704044396545) E))) (M1 (M1 (M1 (L1 2825889704044396545) (L1 2825889704044396545)) (N1 11229287419650244609 (L1 17445010209780137985) E)) (M1 (M1 (L1 2825889704044396545) (L1 2825889704044396545)) (N1 2825889704044396545 (L1 2825889704044396545) E))))) (M1 (M1 (M1 (M1 (M1 (L1 2825889704044396545) E) (M1 (L1 2825889704044396545) E)) (M1 (M1 (L1 2825889704044396545) E) (N1 2825889704044396545 (L1 0) E))) (M1 (M1 (M1 (L1 2825889704044396545) E) (N1 5708798863030157313 (L1 1301896511614091265) (L1 7160393175083778049))) (M1 (M1 (L1 2825889704044396545) E) (L1 2825889704044396545)))) (M1 (M1 (M1 (M1 (L1 2825889704044396545) E) (M1 (L1 2825889704044396545) E)) (M1 (M1 (L1 2825889704044396545) E) (L1 2825889704044396545))) (M1 (M1 (M1 (L1 2825889704044396545) E) (N1 2825889704044396545 (L1 0) E)) (M1 (M1 (L1 2825889704044396545) E) (L1 2825889704044396545)))))) (N1 5448 (M1 (M1 (M1 (M1 (M1 (L1 2825889704044396545) E) (M1 (L1 2825889704044396545) E)) (M1 (M1 (L1 2825889704044396545) E) (N1 2825889704044396545 (L1 0) E))) (M1 (M1 (M1 (L1 2825889704044396545) E) (M1 (L1 2825889704044396545) E)) (M1 (M1 (L1 2825889704044396545) E) (L1 2825889704044396545)))) (M1 (M1 (M1 (M1 (L1 2825889704044396545) E) (M1 (L1 2825889704044396545) E)) (M1 (M1 (L1 2825889704044396545) E) (L1 2825889704044396545))) (M1 (M1 (M1 (L1 2825889704044396545) E) (N1 2825889704044396545 (L1 0) E)) (M1 (M1 (L1 2825889704044396545) E) (L1 2825889704044396545))))) (M1 (M1 (M1 (M1 (M1 (L1 2825889704044396545) E) (M1 (L1 2825889704044396545) E)) (M1 (M1 (L1 2825889704044396545) E) (N1 2825889704044396545 (L1 0) E))) (M1 (M1 (M1 (L1 2825889704044396545) E) (N1 0 (L1 0) E)) (M1 (M1 (L1 2825889704044396545) E) (L1 2825889704044396545)))) (M1 (M1 (M1 (M1 (L1 2825889704044396545) E) (M1 (L1 2825889704044396545) E)) (M1 (M1 (L1 2825889704044396545) E) (L1 2825889704044396545))) (M1 (M1 (M1 (L1 2825889704044396545) E) (N1 2825889704044396545 (L1 0) E)) (M1 (M1 (L1 2825889704044396545) E) (L1 2825889704044396545))))))) (M1 (N1 5560 (M1 (M1 (M1 E (M1 E (M1 (L1 0) E))) E) (M1 E (M1 (M1 E (N1 0 (L1 0) E)) E))) (M1 (M1 (M1 E (M1 E (M1 (L1 0) E))) (M1 (M1 E (N1 0 (L1 0) E)) E)) (M1 E (M1 (M1 E (M1 (L1 0) E)) E)))) (M1 (M1 (M1 (M1 E (M1 E (M1 (L1 0) E))) E) (M1 E (M1 (M1 E (M1 (L1 576460752303423490) E)) E))) (M1 (M1 (M1 E (M1 E (M1 (L1 0) E))) (M1 (M1 E (N1 0 (L1 0) E)) E)) (M1 E (M1 (M1 E (M1 (L1 0) E)) E)))))))⟩⟩
theorem r13:disp prog 5 (lookT t12) 990 60 a13 i13 (fun v S=>eqA v v13&&subS o13 S)=true:=by kernel_rfl
theorem s13:Seg prog T0 60 a13 i13 v13 o13:=seg_of_run (disp_ok hmO t12_ok 990) (of_decide_eq_true (by kernel_rfl)) r13
noncomputable def n13:GA:=segG a13 i13 v13 o13 (n12)
theorem m13:GS prog T0 60 n13:=segG_ok s13 (m12)
noncomputable def t13:List (Nat×GA):=(60,n13)::t12
theorem t13_ok:OkT t13:= .cons m13 t12_ok
noncomputable def a14:AV:=(A [(.sl 4690 0 2 2 false 1)])
noncomputable def v14:AV:=(.tu .nl)
noncomputable def i14:St:=⟨(M1 (L1 (.g 5 (N1 (J 3) (N1 (J 7) (L1 (J 31)) E) (N1 (J 15) (L1 (J 60)) E)))) (M1 (L1 (.g 16 (N1 (.i .u32 (.ofNat 0)) (N1 (.i .u32 (.ofNat 274646895)) (N1 (.i .u32 (.ofNat 820201905)) (N1 (.i .u32 (.ofNat 1905808397)) (L1 (.i .u32 (.ofNat 4084100981))) E) (L1 (.i .u32 (.ofNat 2987750089)))) (N1 (.i .u32 (.ofNat 1361435347)) (L1 (.i .u32 (.ofNat 2460548119))) (L1 (.i .u32 (.ofNat 3553878443))))) (N1 (.i .u32 (.ofNat 549293790)) (N1 (.i .u32 (.ofNat 1098587580)) (L1 (.i .u32 (.ofNat 2197175160))) (L1 (.i .u32 (.ofNat 3280807620)))) (N1 (.i .u32 (.ofNat 1640403810)) (L1 (.i .u32 (.ofNat 2722870694))) (L1 (.i .u32 (.ofNat 3811616794)))))))) (M1 (M1 (M1 E (M1 (M1 E (M1 (M1 (M1 E (M1 (M1 (L1 (.c false 40 2 .u (N1 (.i .u32 (.ofNat 1)) (L1 (.i .u32 (.ofNat 2))) E))) E) E)) E) E)) E)) E) E))),4961,some ⟨11,149,262,(N1 0 (M1 (M1 (M1 (M1 (M1 (M1 E (M1 E (M1 (L1 0) E))) E) (M1 (M1 E (M1 E (M1 (L1 0) E))) (M1 (M1 E (N1 0 (L1 0) E)) E))) (M1 (M1 (M1 E (M1 E (M1 (L1 0) E))) E) (M1 E (M1 (M1 E (M1 (L1 576460778073227267) E)) E)))) (N1 576460778073227267 (M1 (M1 (M1 E (M1 E (M1 (L1 0) E))) E) (M1 E (M1 (M1 E (N1 0 (L1 0) E)) E))) (M1 (M1 (M1 E (M1 E (M1 (L1 0) E))) (M1 (M1 E (N1 0 (L1 0) E)) E)) (M1 E (M1 (M1 E (M1 (L1 0) E)) E))))) (M1 (N1 9007199254749443 (M1 (M1 (M1 E (M1 E (M1 (L1 0) E))) E) (M1 E (M1 (M1 E (N1 562954248389297 (L1 9007199254749443) E)) E))) (M1 (M1 (M1 E (M1 E (M1 (L1 0) E))) (M1 (M1 E (N1 1 (L1 1) E)) E)) (M1 E (M1 (M1 E (M1 (L1 0) E)) E)))) (N1 1 (M1 (M1 (M1 E (M1 E (M1 (L1 0) E))) E) (M1 E (M1 (M1 E (M1 (L1 576460752303423489) E)) E))) (M1 (M1 (M1 E (M1 E (M1 (L1 0) E))) (M1 (M1 E (N1 0 (L1 0) E)) E)) (M1 E (M1 (M1 E (M1 (L1 0) E)) E)))))) (M1 (M1 (N1 5512 (M1 (M1 (M1 (M1 (M1 (L1 2825889704044396545) E) (M1 (L1 2825889704044396545) E)) (M1 (M1 (L1 2825889704044396545) E) (N1 2825889704044396545 (L1 0) E))) (M1 (M1 (M1 (L1 2825889704044396545) E) (N1 1125904201810353 (L1 2825889704044396545) E)) (M1 (M1 (L1 2825889704044396545) E) (L1 2825889704044396545)))) (M1 (M1 (M1 (M1 (L1 2825889704044396545) (L1 2825889704044396545)) (M1 (L1 2825889704044396545) E)) (M1 (M1 (L1 2825889704044396545) (L1 2825889704044396545)) (N1 2825889704044396545 (L1 2825889704044396545) E))) (M1 (M1 (M1 (L1 2825889704044396545) (L1 2825889704044396545)) (N1 11229287419650244609 (L1 17445010209780137985) E)) (M1 (M1 (L1 2825889704044396545) (L1 2825889704044396545)) (N1 2825889704044396545 (L1 2825889704044396545) E))))) (M1 (M1 (M1 (M1 (M1 (L1 2825889704044396545) E) (M1 (L1 2825889704044396545) E)) (M1 (M1 (L1 2825889704044396545) E) (N1 2825889704044396545 (L1 0) E))) (M1 (M1 (M1 (L1 2825889704044396545) E) (N1 5708798863030157313 (L1 1301896511614091265) (L1 7160393175083778049))) (M1 (M1 (L1 2825889704044396545) E) (L1 2825889704044396545)))) (M1 (M1 (M1 (M1 (L1 2825889704044396545) E) (M1 (L1 2825889704044396545) E)) (M1 (M1 (L1 2825889704044396545) E) (L1 2825889704044396545))) (M1 (M1 (M1 (L1 2825889704044396545) E) (N1 2825889704044396545 (L1 0) E)) (M1 (M1 (L1 2825889704044396545) E) (L1 2825889704044396545)))))) (N1 5448 (M1 (M1 (M1 (M1 (M1 (L1 2825889704044396545) E) (M1 (L1 2825889704044396545) E)) (M1 (M1 (L1 2825889704044396545) E) (N1 2825889704044396545 (L1 0) E))) (M1 (M1 (M1 (L1 2825889704044396545) E) (M1 (L1 2825889704044396545) E)) (M1 (M1 (L1 2825889704044396545) E) (L1 2825889704044396545)))) (M1 (M1 (M1 (M1 (L1 2825889704044396545) E) (M1 (L1 2825889704044396545) E)) (M1 (M1 (L1 2825889704044396545) E) (L1 2825889704044396545))) (M1 (M1 (M1 (L1 2825889704044396545) E) (N1 2825889704044396545 (L1 0) E)) (M1 (M1 (L1 2825889704044396545) E) (L1 2825889704044396545))))) (M1 (M1 (M1 (M1 (M1 (L1 2825889704044396545) E) (M1 (L1 2825889704044396545) E)) (M1 (M1 (L1 2825889704044396545) E) (N1 2825889704044396545 (L1 0) E))) (M1 (M1 (M1 (L1 2825889704044396545) E) (N1 0 (L1 0) E)) (M1 (M1 (L1 2825889704044396545) E) (L1 2825889704044396545)))) (M1 (M1 (M1 (M1 (L1 2825889704044396545) E) (M1 (L1 2825889704044396545) E)) (M1 (M1 (L1 2825889704044396545) E) (L1 2825889704044396545))) (M1 (M1 (M1 (L1 2825889704044396545) E) (N1 2825889704044396545 (L1 0) E)) (M1 (M1 (L1 2825889704044396545) E) (L1 2825889704044396545))))))) (M1 (N1 5560 (M1 (M1 (M1 E (M1 E (M1 (L1 0) E))) E) (M1 E (M1 (M1 E (N1 0 (L1 0) E)) E))) (M1 (M1 (M1 E (M1 E (M1 (L1 0) E))) (M1 (M1 E (N1 0 (L1 0) E)) E)) (M1 E (M1 (M1 E (M1 (L1 0) E)) E)))) (M1 (M1 (M1 (M1 E (M1 E (M1 (L1 0) E))) E) (M1 E (M1 (M1 E (M1 (L1 576460752303423490) E)) E))) (M1 (M1 (M1 E (M1 E (M1 (L1 0) E))) (M1 (M1 E (N1 0 (L1 0) E)) E)) (M1 E (M1 (M1 E (M1 (L1 0) E)) E)))))))⟩⟩
noncomputable def o14:St:=⟨(M1 (L1 (.g 5 (N1 (J 3) (N1 (J 7) (L1 (J 31)) E) (N1 (J 15) (L1 (J 60)) E)))) (M1 (L1 (.g 16 (N1 (.i .u32 (.ofNat 0)) (N1 (.i .u32 (.ofNat 274646895)) (N1 (.i .u32 (.ofNat 820201905)) (N1 (.i .u32 (.ofNat 1905808397)) (L1 (.i .u32 (.ofNat 4084100981))) E) (L1 (.i .u32 (.ofNat 2987750089)))) (N1 (.i .u32 (.ofNat 1361435347)) (L1 (.i .u32 (.ofNat 2460548119))) (L1 (.i .u32 (.ofNat 3553878443))))) (N1 (.i .u32 (.ofNat 549293790)) (N1 (.i .u32 (.ofNat 1098587580)) (L1 (.i .u32 (.ofNat 2197175160))) (L1 (.i .u32 (.ofNat 3280807620)))) (N1 (.i .u32 (.ofNat 1640403810)) (L1 (.i .u32 (.ofNat 2722870694))) (L1 (.i .u32 (.ofNat 3811616794)))))))) (M1 (M1 (M1 E (M1 (M1 E (M1 (M1 (M1 E (M1 (M1 (L1 (.c false 40 2 .u (N1 (.i .u32 (.ofNat 1)) (L1 (.i .u32 (.ofNat 2))) E))) E) E)) E) E)) E)) E) E))),4961,some ⟨11,149,262,(N1 0 (M1 (M1 (M1 (M1 (M1 (M1 E (M1 E (M1 (L1 0) E))) E) (M1 (M1 E (M1 E (M1 (L1 0) E))) (M1 (M1 E (N1 0 (L1 0) E)) E))) (M1 (M1 (M1 E (M1 E (M1 (L1 0) E))) E) (M1 E (M1 (M1 E (M1 (L1 576460778073227267) E)) E)))) (N1 576460778073227267 (M1 (M1 (M1 E (M1 E (M1 (L1 0) E))) E) (M1 E (M1 (M1 E (N1 0 (L1 0) E)) E))) (M1 (M1 (M1 E (M1 E (M1 (L1 0) E))) (M1 (M1 E (N1 0 (L1 0) E)) E)) (M1 E (M1 (M1 E (M1 (L1 0) E)) E))))) (M1 (N1 9007199254749443 (M1 (M1 (M1 E (M1 E (M1 (L1 0) E))) E) (M1 E (M1 (M1 E (N1 562954248389297 (L1 9007199254749443) E)) E))) (M1 (M1 (M1 E (M1 E (M1 (L1 0) E))) (M1 (M1 E (N1 1 (L1 1) E)) E)) (M1 E (M1 (M1 E (M1 (L1 0) E)) E)))) (N1 1 (M1 (M1 (M1 E (M1 E (M1 (L1 0) E))) E) (M1 E (M1 (M1 E (M1 (L1 576460752303423489) E)) E))) (M1 (M1 (M1 E (M1 E (M1 (L1 0) E))) (M1 (M1 E (N1 0 (L1 0) E)) E)) (M1 E (M1 (M1 E (M1 (L1 0) E)) E)))))) (M1 (M1 (N1 5512 (M1 (M1 (M1 (M1 (M1 (L1 2825889704044396545) E) (M1 (L1 2825889704044396545) E)) (M1 (M1 (L1 2825889704044396545) E) (N1 2825889704044396545 (L1 0) E))) (M1 (M1 (M1 (L1 2825889704044396545) E) (N1 1125904201810353 (L1 2825889704044396545) E)) (M1 (M1 (L1 2825889704044396545) E) (L1 2825889704044396545)))) (M1 (M1 (M1 (M1 (L1 2825889704044396545) (L1 2825889704044396545)) (M1 (L1 2825889704044396545) E)) (M1 (M1 (L1 2825889704044396545) (L1 2825889704044396545)) (N1 2825889704044396545 (L1 2825889704044396545) E))) (M1 (M1 (M1 (L1 2825889704044396545) (L1 2825889704044396545)) (N1 11229287419650244609 (L1 17445010209780137985) E)) (M1 (M1 (L1 2825889704044396545) (L1 2825889704044396545)) (N1 2825889704044396545 (L1 2825889704044396545) E))))) (M1 (M1 (M1 (M1 (M1 (L1 2825889704044396545) E) (M1 (L1 2825889704044396545) E)) (M1 (M1 (L1 2825889704044396545) E) (N1 2825889704044396545 (L1 0) E))) (M1 (M1 (M1 (L1 2825889704044396545) E) (N1 5708798863030157313 (L1 1301896511614091265) (L1 7160393175083778049))) (M1 (M1 (L1 2825889704044396545) E) (L1 2825889704044396545)))) (M1 (M1 (M1 (M1 (L1 2825889704044396545) E) (M1 (L1 2825889704044396545) E)) (M1 (M1 (L1 2825889704044396545) E) (L1 2825889704044396545))) (M1 (M1 (M1 (L1 2825889704044396545) E) (N1 2825889704044396545 (L1 0) E)) (M1 (M1 (L1 2825889704044396545) E) (L1 2825889704044396545)))))) (N1 5448 (M1 (M1 (M1 (M1 (M1 (L1 2825889704044396545) E) (M1 (L1 2825889704044396545) E)) (M1 (M1 (L1 2825889704044396545) E) (N1 2825889704044396545 (L1 0) E))) (M1 (M1 (M1 (L1 2825889704044396545) E) (M1 (L1 2825889704044396545) E)) (M1 (M1 (L1 2825889704044396545) E) (L1 2825889704044396545)))) (M1 (M1 (M1 (M1 (L1 2825889704044396545) E) (M1 (L1 2825889704044396545) E)) (M1 (M1 (L1 2825889704044396545) E) (L1 2825889704044396545))) (M1 (M1 (M1 (L1 2825889704044396545) E) (N1 2825889704044396545 (L1 0) E)) (M1 (M1 (L1 2825889704044396545) E) (L1 2825889704044396545))))) (M1 (M1 (M1 (M1 (M1 (L1 2825889704044396545) E) (M1 (L1 2825889704044396545) E)) (M1 (M1 (L1 2825889704044396545) E) (N1 2825889704044396545 (L1 0) E))) (M1 (M1 (M1 (L1 2825889704044396545) E) (N1 0 (L1 0) E)) (M1 (M1 (L1 2825889704044396545) E) (L1 2825889704044396545)))) (M1 (M1 (M1 (M1 (L1 2825889704044396545) E) (M1 (L1 2825889704044396545) E)) (M1 (M1 (L1 2825889704044396545) E) (L1 2825889704044396545))) (M1 (M1 (M1 (L1 2825889704044396545) E) (N1 2825889704044396545 (L1 0) E)) (M1 (M1 (L1 2825889704044396545) E) (L1 2825889704044396545))))))) (M1 (N1 5560 (M1 (M1 (M1 E (M1 E (M1 (L1 0) E))) E) (M1 E (M1 (M1 E (N1 0 (L1 0) E)) E))) (M1 (M1 (M1 E (M1 E (M1 (L1 0) E))) (M1 (M1 E (N1 0 (L1 0) E)) E)) (M1 E (M1 (M1 E (M1 (L1 0) E)) E)))) (M1 (M1 (M1 (M1 E (M1 E (M1 (L1 0) E))) E) (M1 E (M1 (M1 E (M1 (L1 576460752303423490) E)) E))) (M1 (M1 (M1 E (M1 E (M1 (L1 0) E))) (M1 (M1 E (N1 0 (L1 0) E)) E)) (M1 E (M1 (M1 E (M1 (L1 0) E)) E)))))))⟩⟩
theorem r14:disp prog 5 (lookT t13) 990 100 a14 i14 (fun v S=>eqA v v14&&subS o14 S)=true:=by kernel_rfl
theorem s14:Seg prog T0 100 a14 i14 v14 o14:=seg_of_run (disp_ok hmO t13_ok 990) (of_decide_eq_true (by kernel_rfl)) r14
noncomputable def n14:GA:=segG a14 i14 v14 o14 (gTxt 100)
theorem m14:GS prog T0 100 n14:=segG_ok s14 (gs_Txt rfl)
noncomputable def t14:List (Nat×GA):=(100,n14)::t13
theorem t14_ok:OkT t14:= .cons m14 t13_ok
theorem rz:disp prog 5 (lookT t14) 1000 16 .nl S0 (fun v S=>eqA v (.b true))=true:=by kernel_rfl
theorem k_awake {w:World} (hG:Glob w) (K:K1) (hK:∀w1,Ext w w1→K (.bool true) w1):callS prog 16 #[] w K:=true_of_run t14_ok rfl rz hG K hK
end Go.Ev
namespace Go.Utp
open Go Go.Lib
def vOK (low v:Nat):Bool:=decide (low≤v∧v≤1114111∧¬(55296≤v∧v<57344))
def ct (b:Nat):Bool:=decide (128≤b∧b<192)
def gb (l:List UInt8) (i:Nat):Nat:=(l.getD i 0).toNat
theorem gb_lt (l:List UInt8) (i:Nat):gb l i<256:=UInt8.toNat_lt _
theorem step_N (l:List UInt8) (hne:l≠ []):validD l=if (decodeN l.length (gb l 0) (gb l 1) (gb l 2) (gb l 3))=(65533,1) then false else validD (l.drop (decodeN l.length (gb l 0) (gb l 1) (gb l 2) (gb l 3)).2):=by
 rw [validD_step l hne,decodeL_N]
 simp only [Prod.ext_iff,gb]
theorem ub (l:List UInt8) (hne:l≠ []) (h:(128≤gb l 0∧gb l 0<192)∨248≤gb l 0):validD l=false:=by
 have:=gb_lt l 0
 rw [step_N l hne,decodeN_bad _ _ _ _ _ (by omega),if_pos rfl]
set_option maxHeartbeats 4000000 in
theorem d2 (n b0 b1 b2 b3:Nat) (h0:b0<256) (h1:b1<256) (h2:b2<256) (h3:b3<256) (h:192≤b0∧b0<224):
  (decodeN n b0 b1 b2 b3=(65533,1)∧¬(2≤n∧ct b1=true∧vOK 128 ((b0-192)*64+(b1-128))=true))∨((decodeN n b0 b1 b2 b3).2=2∧(2≤n∧ct b1=true∧vOK 128 ((b0-192)*64+(b1-128))=true)):=by
 unfold decodeN vOK ct
 simp only [decide_eq_true_eq]
 repeat' split
 all_goals first|(exfalso;omega)|(left;exact ⟨rfl,by omega⟩)|(right;exact ⟨rfl,by omega⟩)
theorem u2 (l:List UInt8) (hne:l≠ []) (h:192≤gb l 0∧gb l 0<224):
  validD l=(decide (2≤l.length)&&(ct (gb l 1)&&(vOK 128 ((gb l 0-192)*64+(gb l 1-128))&&validD (l.drop 2)))):=by
 rw [step_N l hne]
 rcases d2 l.length (gb l 0) (gb l 1) (gb l 2) (gb l 3) (gb_lt l 0) (gb_lt l 1) (gb_lt l 2) (gb_lt l 3) h with ⟨e,hn⟩|⟨e,e0,e1,e2⟩
 ·rw [if_pos e]
  symm;rw [Bool.eq_false_iff]
  intro hh
  simp only [Bool.and_eq_true,decide_eq_true_eq] at hh
  exact hn ⟨hh.1,hh.2.1,hh.2.2.1⟩
 ·rw [if_neg (fun h=>by rw [h] at e;cases e),e,decide_eq_true e0,e1,e2]
  simp
set_option maxHeartbeats 4000000 in
theorem d3 (n b0 b1 b2 b3:Nat) (h0:b0<256) (h1:b1<256) (h2:b2<256) (h3:b3<256) (h:224≤b0∧b0<240):
  (decodeN n b0 b1 b2 b3=(65533,1)∧¬(3≤n∧ct b1=true∧ct b2=true∧vOK 2048 (((b0-224)*64+(b1-128))*64+(b2-128))=true))∨((decodeN n b0 b1 b2 b3).2=3∧(3≤n∧ct b1=true∧ct b2=true∧vOK 2048 (((b0-224)*64+(b1-128))*64+(b2-128))=true)):=by
 unfold decodeN vOK ct
 simp only [decide_eq_true_eq]
 repeat' split
 all_goals first|(exfalso;omega)|(left;exact ⟨rfl,by omega⟩)|(right;exact ⟨rfl,by omega⟩)
theorem u3 (l:List UInt8) (hne:l≠ []) (h:224≤gb l 0∧gb l 0<240):
  validD l=(decide (3≤l.length)&&(ct (gb l 1)&&(ct (gb l 2)&&(vOK 2048 (((gb l 0-224)*64+(gb l 1-128))*64+(gb l 2-128))&&validD (l.drop 3))))):=by
 rw [step_N l hne]
 rcases d3 l.length (gb l 0) (gb l 1) (gb l 2) (gb l 3) (gb_lt l 0) (gb_lt l 1) (gb_lt l 2) (gb_lt l 3) h with ⟨e,hn⟩|⟨e,e0,e1,e2,e3⟩
 ·rw [if_pos e]
  symm;rw [Bool.eq_false_iff]
  intro hh
  simp only [Bool.and_eq_true,decide_eq_true_eq] at hh
  exact hn ⟨hh.1,hh.2.1,hh.2.2.1,hh.2.2.2.1⟩
 ·rw [if_neg (fun h=>by rw [h] at e;cases e),e,decide_eq_true e0,e1,e2,e3]
  simp
set_option maxHeartbeats 4000000 in
theorem d4 (n b0 b1 b2 b3:Nat) (h0:b0<256) (h1:b1<256) (h2:b2<256) (h3:b3<256) (h:240≤b0∧b0<248):
  (decodeN n b0 b1 b2 b3=(65533,1)∧¬(4≤n∧ct b1=true∧ct b2=true∧ct b3=true∧vOK 65536 ((((b0-240)*64+(b1-128))*64+(b2-128))*64+(b3-128))=true))∨((decodeN n b0 b1 b2 b3).2=4∧(4≤n∧ct b1=true∧ct b2=true∧ct b3=true∧vOK 65536 ((((b0-240)*64+(b1-128))*64+(b2-128))*64+(b3-128))=true)):=by
 unfold decodeN vOK ct
 simp only [decide_eq_true_eq]
 repeat' split
 all_goals first|(exfalso;omega)|(left;exact ⟨rfl,by omega⟩)|(right;exact ⟨rfl,by omega⟩)
theorem u4 (l:List UInt8) (hne:l≠ []) (h:240≤gb l 0∧gb l 0<248):
  validD l=(decide (4≤l.length)&&(ct (gb l 1)&&(ct (gb l 2)&&(ct (gb l 3)&&(vOK 65536 ((((gb l 0-240)*64+(gb l 1-128))*64+(gb l 2-128))*64+(gb l 3-128))&&validD (l.drop 4)))))):=by
 rw [step_N l hne]
 rcases d4 l.length (gb l 0) (gb l 1) (gb l 2) (gb l 3) (gb_lt l 0) (gb_lt l 1) (gb_lt l 2) (gb_lt l 3) h with ⟨e,hn⟩|⟨e,e0,e1,e2,e3,e4⟩
 ·rw [if_pos e]
  symm;rw [Bool.eq_false_iff]
  intro hh
  simp only [Bool.and_eq_true,decide_eq_true_eq] at hh
  exact hn ⟨hh.1,hh.2.1,hh.2.2.1,hh.2.2.2.1,hh.2.2.2.2.1⟩
 ·rw [if_neg (fun h=>by rw [h] at e;cases e),e,decide_eq_true e0,e1,e2,e3,e4]
  simp
open Go.Op in
structure Vl where
 t:Nat
 n:Bool
 i:Int
 s:ByteArray
 b:Bool
def fitN (v:Vl):Nat:=
 if ¬(1≤v.t∧v.t≤3) then 16
 else if ((v.n=true∨v.t≠1)∧v.i≠0)∨((v.n=true∨v.t≠2)∧v.s.data.toList≠ [])∨((v.n=true∨v.t≠3)∧v.b=true) then 16
 else if v.i< -2147483648∨2147483647<v.i∨validD v.s.data.toList=false then 16
 else if 200<v.s.size then 9 else 0
theorem fit0 {v:Vl} (h:fitN v=0):(1≤v.t∧v.t≤3)∧(v.i≠0→v.n=false∧v.t=1)∧(v.s.data.toList≠ []→v.n=false∧v.t=2)∧(v.b=true→v.n=false∧v.t=3)∧(-2147483648≤v.i∧v.i≤2147483647)∧validD v.s.data.toList=true∧v.s.size≤200:=by
 unfold fitN at h
 split at h
 ·cases h
 ·rename_i h1
  split at h
  ·cases h
  ·rename_i h2
   split at h
   ·cases h
   ·rename_i h3
    split at h
    ·cases h
    ·rename_i h4
     simp only [Bool.not_eq_true,not_or,not_and,Decidable.not_not,ne_eq,Bool.not_eq_false] at h1 h2 h3
     obtain ⟨a1,a2,a3⟩:=h2
     refine ⟨by omega,fun hi=> ?_,fun hs=> ?_,fun hb=> ?_,by omega,h3.2.2,by omega⟩
     ·have hn:v.n=false:=Bool.eq_false_iff.2 fun hn=>hi (a1 (.inl hn))
      exact ⟨hn,Decidable.byContradiction fun ht=>hi (a1 (.inr ht))⟩
     ·have hn:v.n=false:=Bool.eq_false_iff.2 fun hn=>hs (a2 (.inl hn))
      exact ⟨hn,Decidable.byContradiction fun ht=>hs (a2 (.inr ht))⟩
     ·have hn:v.n=false:=Bool.eq_false_iff.2 fun hn=>by have:=a3 (.inl hn);rw [hb] at this;cases this
      exact ⟨hn,Decidable.byContradiction fun ht=>by have:=a3 (.inr ht);rw [hb] at this;cases this⟩
def hashN:Nat→List UInt8→Nat
 |h,[]=>h
 |h,b::l=>hashN ((h^^^b.toNat)*1099511628211%18446744073709551616) l
theorem hashN_lt:∀(l:List UInt8) (h:Nat),h<18446744073709551616→hashN h l<18446744073709551616
 | [],h,hh=>hh
 |b::l,h,_=>hashN_lt l _ (Nat.mod_lt _ (by omega))
def hash0 (l:List UInt8):Nat:=hashN 14695981039346656037 l
def keyN (v:Vl):Nat:=if v.n=true then 0 else if v.t=1 then (v.i+2147483648).toNat else if v.t=2 then hash0 v.s.data.toList%4294967296 else if v.b=true then 2 else 1
theorem keyN_lt {v:Vl} (h:fitN v=0):keyN v<4294967296:=by
 have:=(fit0 h).2.2.2.2.1
 unfold keyN
 split
 ·omega
 ·split
  ·omega
  ·split
   ·exact Nat.mod_lt _ (by omega)
   ·split<;>omega
def packN (c k i:Nat):Nat:=c*1152921504606846976+k*4294967296+i
def entryN (c:Int) (v:Vl) (id:Nat):Nat×Nat:=if c<0∨15<c∨v.n=true then (0,1) else if fitN v≠0 then (0,16) else (packN c.toNat (keyN v/16) id,0)
def b2n (b:Bool):Int:=if b=true then 1 else 0
end Go.Utp
namespace Go.Sh
open Go Go.Lib Go.Utp
variable {P:Program}
def sxT (P:Program) (t:TypeId):Bool:=
 match P.underlying t with
 |some .string=>true
 |_=>false
theorem sxT_un {t:TypeId} (h:sxT P t=true):P.underlying t=some .string:=by
 unfold sxT at h
 split at h
 ·assumption
 ·cases h
theorem isOne_s (s:ByteArray):isOne (.string s)=true:=rfl
theorem gb_get {s:ByteArray} {i:Nat} (h:i<s.size):(s[i]'h).toNat=gb s.data.toList i:=by
 unfold gb
 rw [getD_get!']
 have:s.get! i=s[i]'h:=by
  unfold ByteArray.get!
  exact getElem!_pos s.data i h
 rw [this]
theorem sx_idx {t:TypeId} (ht:sxT P t=true) (s:ByteArray) (k:IntKind) (j:Int) (w:World) (kk:K1) (h0:0≤j) (h1:j<(s.size:Int)):ev P (Instr.index t (.string s) (.int k j)) w kk=kk (.int .u8 ((gb s.data.toList j.toNat:Nat):Int)) w:=by
 refine ev_of_run ?_ kk
 rw [run_index_string (h:=sxT_un ht),dif_pos ⟨h0,h1⟩,gb_get]
theorem sx_lo {t:TypeId} (ht:sxT P t=true) (s:ByteArray) (k:IntKind) (j:Int) (w:World) (kk:K1) (h0:0≤j) (h1:j≤(s.size:Int)):ev P (Instr.sliceAt t (.string s) (some (.int k j)) none none) w kk=kk (.string (s.extract j.toNat s.size)) w:=by
 refine ev_of_run ?_ kk
 rw [run_sliceAt_string (h:=sxT_un ht),run_slice_string_from_if (h:=sxT_un ht),if_pos ⟨h0,h1⟩]
theorem sx_len {t:TypeId} (ht:sxT P t=true) (ty:TypeId) (cs:Array Bool) (s:ByteArray) (w:World) (kk:K1):bltS P .len #[t] ty cs #[.string s] w kk=kk (.int .i64 (s.size:Int)) w:=by
 unfold bltS builtin
 rw [Sem.run_bind,run_len_string (h:=sxT_un ht)];rfl
theorem guard_str (op:BinOp) (t:TypeId) (x y:Operand) (a b:ByteArray) (w:World):(eqGuard op t x y (.string a) (.string b)).run P w= .ok () w:=by
 unfold eqGuard
 cases op<;>rfl
theorem sx_neq (t:TypeId) (x y:Operand) (a b:ByteArray) (w:World) (kk:K1):ev P (binM .neq t x y (.string a) (.string b)) w kk=kk (.bool (!(a.data.toList==b.data.toList))) w:=by
 refine ev_of_run ?_ kk
 unfold binM
 rw [Sem.run_bind,guard_str,Result.andThen_ok,binOp_string_neq,ByteArray.toList_eq,ByteArray.toList_eq];rfl
theorem sx_bytes {src dst e:TypeId} (hs:P.underlying src=some .string) (hd:P.underlying dst=some (.slice e)) (he:P.underlying e=some (.int .u8)) (s:ByteArray) (w:World) (kk:K1)
  (h:∀w' c,Ext w w'→w'.heap.size=w.heap.size+1→(∀j,j<s.size→w'.cell? ⟨w.heap.size,j,none⟩=some (.int .u8 ((gb s.data.toList j:Nat):Int)))→kk (.slice (some ⟨w.heap.size,0,none⟩) s.size c) w'):ev P (convert src dst (.string s)) w kk:=by
 rw [ev_of_run (Go.Lib.run_convert_string_bytes (P:=P) w src dst e s hs hd he) kk]
 refine h _ _ ?_ (bytesWorld_size w e s) (fun j hj=>bytesWorld_cell w e s j hj)
 exact ⟨rfl,rfl,rfl,by rw [bytesWorld_size];omega,fun j hj=>bytesWorld_at_old w e s j hj⟩
end Go.Sh
namespace Go.Utp
open Go
def Vl.ok (v:Vl):Prop:=v.t<256∧(-9223372036854775808≤v.i∧v.i≤9223372036854775807)∧v.s.size≤maxLen
def Vl.cs (v:Vl):List Value:= [.int .u8 (v.t:Int),.bool v.n,.int .i64 v.i,.string v.s,.bool v.b]
def vV (v:Vl):Value:= .agg #[.int .u8 (v.t:Int),.bool v.n,.int .i64 v.i,.string v.s,.bool v.b]
def rV (v:Vl):Value:= .agg #[.int .i64 (v.t:Int),.bool v.n,.int .i64 v.i,.string v.s,.bool v.b]
end Go.Utp
namespace Go.Proofs
open Go.RowKit Go.Shelf Go.Lib
namespace YtjegifbmbianiaaGreatDoor
shelf_lay Lays.n196 Nm 196 at Tryz as vLay
end YtjegifbmbianiaaGreatDoor
end Go.Proofs
namespace Go.Proofs.YtjegifbmbianiaaGreatDoor
open Go Go.Sh Go.Utp Go.RowKit
theorem k_ValidS (s:ByteArray) {w:World} (hs:s.size≤9223372036854775807) (hT:Lib.Utf8Tabs 2 3 w) (K:K1) (hK:∀w',Ext w w'→K (.bool (Lib.validD s.data.toList)) w'):callS prog 169 #[.string s] w K:=by
 have cV:=Any.utf8_ValidString vLay s w hs hT
 refine Calls.mono cV ?_
 rintro e w' ⟨rfl,hb⟩
 exact hK w' hb
end Go.Proofs.YtjegifbmbianiaaGreatDoor
namespace Go.Proofs.YtjegifbmbianiaaGreatDoor.R6
open Go Go.Sh
theorem build_47_0_1_2_3_4 (v0 v1 v2 v3 v4:Value) (h0:isOne v0=true) (h1:isOne v1=true) (h2:isOne v2=true) (h3:isOne v3=true) (h4:isOne v4=true) (w:World):(Instr.build 47 #[(0,v0),(1,v1),(2,v2),(3,v3),(4,v4)]).run prog w= .ok (.agg #[v0,v1,v2,v3,v4]) w:=
 Go.Sh.run_buildS (z:= .agg #[.int .i64 0,.bool false,.int .i64 0,.string ⟨#[]⟩,.bool false]) (by kernel_rfl) (show placesT prog 47=some [(0,1),(1,1),(2,1),(3,1),(4,1)] from by kernel_rfl) (by show Instr.fill _ _ [(0,v0),(1,v1),(2,v2),(3,v3),(4,v4)]=_;rw [fill_one (off:=0) rfl h0 (by simp [Value.cells])];rw [fill_one (off:=1) rfl h1 (by simp [Value.cells])];rw [fill_one (off:=2) rfl h2 (by simp [Value.cells])];rw [fill_one (off:=3) rfl h3 (by simp [Value.cells])];rw [fill_one (off:=4) rfl h4 (by simp [Value.cells])];rfl) w
theorem bs_22_4 (v0 v1 v2 v3:Value) (h0:isOne v0=true) (h1:isOne v1=true) (h2:isOne v2=true) (h3:isOne v3=true) (w:World):(Instr.buildSlice 22 4 #[(0,v0),(1,v1),(2,v2),(3,v3)]).run prog w= .ok (.slice (some ⟨w.heap.size,0,none⟩) 4 4) (w.alloc (.cells #[v0,v1,v2,v3] 3)):=
 Go.Sh.run_buildSliceS (z:=(.int .i64 0)) (show prog.underlying 22=some (.slice 3) from by kernel_rfl) (show szT prog 3=some 1 from by kernel_rfl) (by kernel_rfl) (by decide) (by decide) (by show Instr.fill _ #[.int .i64 0,.int .i64 0,.int .i64 0,.int .i64 0] [(0,v0),(1,v1),(2,v2),(3,v3)]=_;rw [fill_one (off:=0) rfl h0 (by simp)];rw [fill_one (off:=1) rfl h1 (by simp)];rw [fill_one (off:=2) rfl h2 (by simp)];rw [fill_one (off:=3) rfl h3 (by simp)];rfl) w
theorem build_207_1_2 (v1 v2:Value) (h1:isOne v1=true) (h2:isOne v2=true) (w:World):(Instr.build 207 #[(1,v1),(2,v2)]).run prog w= .ok (.agg #[.string ⟨#[]⟩,v1,v2,.int .i64 0,.int .u8 0,.bool false,.int .i64 0,.string ⟨#[]⟩,.bool false]) w:=
 Go.Sh.run_buildS (z:= .agg #[.string ⟨#[]⟩,.int .u8 0,.bool false,.int .i64 0,.int .u8 0,.bool false,.int .i64 0,.string ⟨#[]⟩,.bool false]) (by kernel_rfl) (show placesT prog 207=some [(0,1),(1,1),(2,1),(3,1),(4,5)] from by kernel_rfl) (by show Instr.fill _ _ [(1,v1),(2,v2)]=_;rw [fill_one (off:=1) rfl h1 (by simp [Value.cells])];rw [fill_one (off:=2) rfl h2 (by simp [Value.cells])];rfl) w
def RT0:=
 And.intro (@ldSN prog 39 5 (by kernel_rfl) (by kernel_rfl))<|
 And.intro (@ldRN prog 39 5 (by kernel_rfl) (by kernel_rfl))<|
 And.intro (@ldGN prog 39 5 (by kernel_rfl) (by kernel_rfl))<|
 And.intro (fun (n:Nat) (w:World) (k:K1) (h:n<18446744073709551616)=>ev_of_run ((@Go.Sh.run_convert prog 40 41 .u32 .u64 (by kernel_rfl) (by kernel_rfl) .u32 n w).trans (by rw [cast_wrap rfl h])) k)<|
 And.intro (fun (n:Nat) (w:World) (k:Value→Prop) (h:n<18446744073709551616)=>rd_of_run ((@Go.Sh.run_convert prog 40 41 .u32 .u64 (by kernel_rfl) (by kernel_rfl) .u32 n w).trans (by rw [cast_wrap rfl h])) k)<|
 And.intro (fun (n:Nat) (w:World) (k:Value) (h:n<18446744073709551616)=>ag_of_run ((@Go.Sh.run_convert prog 40 41 .u32 .u64 (by kernel_rfl) (by kernel_rfl) .u32 n w).trans (by rw [cast_wrap rfl h])) k)<|
 And.intro (fun (n:Nat) (w:World) (k:K1) (h:n<9223372036854775808)=>ev_of_run ((@Go.Sh.run_convert prog 5 3 .u8 .i64 (by kernel_rfl) (by kernel_rfl) .u8 n w).trans (by rw [wrap_i64 oM oM])) k)<|
 And.intro (fun (n:Nat) (w:World) (k:Value→Prop) (h:n<9223372036854775808)=>rd_of_run ((@Go.Sh.run_convert prog 5 3 .u8 .i64 (by kernel_rfl) (by kernel_rfl) .u8 n w).trans (by rw [wrap_i64 oM oM])) k)<|
 And.intro (fun (n:Nat) (w:World) (k:Value) (h:n<9223372036854775808)=>ag_of_run ((@Go.Sh.run_convert prog 5 3 .u8 .i64 (by kernel_rfl) (by kernel_rfl) .u8 n w).trans (by rw [wrap_i64 oM oM])) k)<|
 And.intro (@ev_fieldAt prog 59 2 10 (by kernel_rfl))<|
 And.intro (@rd_fieldAt prog 59 2 10 (by kernel_rfl))<|
 (@ag_fieldAt prog 59 2 10 (by kernel_rfl))
def RT1:=
 And.intro (@ev_fieldAt prog 59 0 0 (by kernel_rfl))<|
 And.intro (@rd_fieldAt prog 59 0 0 (by kernel_rfl))<|
 And.intro (@ag_fieldAt prog 59 0 0 (by kernel_rfl))<|
 And.intro (@ev_fieldAt prog 59 1 5 (by kernel_rfl))<|
 And.intro (@rd_fieldAt prog 59 1 5 (by kernel_rfl))<|
 And.intro (@ag_fieldAt prog 59 1 5 (by kernel_rfl))<|
 And.intro (@blt_len prog 61 (by kernel_rfl))<|
 And.intro (@ev_indexAt prog 61 6 (by kernel_rfl))<|
 And.intro (@rd_indexAt prog 61 6 (by kernel_rfl))<|
 (@ag_indexAt prog 61 6 (by kernel_rfl))
def RT2:=
 And.intro (@ldSN prog 60 6 (by kernel_rfl) (by kernel_rfl))<|
 And.intro (@ldRN prog 60 6 (by kernel_rfl) (by kernel_rfl))<|
 And.intro (@ldGN prog 60 6 (by kernel_rfl) (by kernel_rfl))<|
 And.intro (@ev_alloc prog 60 _ (show zeroT prog 60=some (.agg #[.int .u8 0,.bool false,.int .i64 0,.string ⟨#[]⟩,.bool false,.int .i64 0]) from by kernel_rfl))<|
 And.intro (@stSN prog 60 6 (by kernel_rfl))<|
 And.intro (@ev_fieldAt prog 60 0 0 (by kernel_rfl))<|
 And.intro (@rd_fieldAt prog 60 0 0 (by kernel_rfl))<|
 And.intro (@ag_fieldAt prog 60 0 0 (by kernel_rfl))<|
 And.intro (@ev_fieldAt prog 39 1 1 (by kernel_rfl))<|
 And.intro (@rd_fieldAt prog 39 1 1 (by kernel_rfl))<|
 And.intro (@ag_fieldAt prog 39 1 1 (by kernel_rfl))<|
 (@ldS1 prog 4 (by kernel_rfl))
def RT3:=
 And.intro (@ldR1 prog 4 (by kernel_rfl))<|
 And.intro (@ldG1 prog 4 (by kernel_rfl))<|
 And.intro (@ev_fieldAt prog 60 1 5 (by kernel_rfl))<|
 And.intro (@rd_fieldAt prog 60 1 5 (by kernel_rfl))<|
 And.intro (@ag_fieldAt prog 60 1 5 (by kernel_rfl))<|
 And.intro (@ldS1 prog 3 (by kernel_rfl))<|
 And.intro (@ldR1 prog 3 (by kernel_rfl))<|
 And.intro (@ldG1 prog 3 (by kernel_rfl))<|
 And.intro (fun (n:Nat) (w:World) (k:K1) (h:n<18446744073709551616)=>ev_of_run ((@Go.Sh.run_convert prog 5 41 .u8 .u64 (by kernel_rfl) (by kernel_rfl) .u8 n w).trans (by rw [cast_wrap rfl h])) k)<|
 And.intro (fun (n:Nat) (w:World) (k:Value→Prop) (h:n<18446744073709551616)=>rd_of_run ((@Go.Sh.run_convert prog 5 41 .u8 .u64 (by kernel_rfl) (by kernel_rfl) .u8 n w).trans (by rw [cast_wrap rfl h])) k)<|
 And.intro (fun (n:Nat) (w:World) (k:Value) (h:n<18446744073709551616)=>ag_of_run ((@Go.Sh.run_convert prog 5 41 .u8 .u64 (by kernel_rfl) (by kernel_rfl) .u8 n w).trans (by rw [cast_wrap rfl h])) k)<|
 (@ev_fieldAt prog 47 1 1 (by kernel_rfl))
def RT4:=
 And.intro (@rd_fieldAt prog 47 1 1 (by kernel_rfl))<|
 And.intro (@ag_fieldAt prog 47 1 1 (by kernel_rfl))<|
 And.intro (@ldSN prog 47 5 (by kernel_rfl) (by kernel_rfl))<|
 And.intro (@ldRN prog 47 5 (by kernel_rfl) (by kernel_rfl))<|
 And.intro (@ldGN prog 47 5 (by kernel_rfl) (by kernel_rfl))<|
 And.intro (@ldSN prog 47 5 (by kernel_rfl) (by kernel_rfl))<|
 And.intro (@ldRN prog 47 5 (by kernel_rfl) (by kernel_rfl))<|
 And.intro (@ldGN prog 47 5 (by kernel_rfl) (by kernel_rfl))<|
 And.intro (@ev_alloc prog 47 _ (show zeroT prog 47=some (.agg #[.int .i64 0,.bool false,.int .i64 0,.string ⟨#[]⟩,.bool false]) from by kernel_rfl))<|
 And.intro (@ev_fieldAt prog 39 0 0 (by kernel_rfl))<|
 And.intro (@rd_fieldAt prog 39 0 0 (by kernel_rfl))<|
 (@ag_fieldAt prog 39 0 0 (by kernel_rfl))
def RT5:=
 And.intro (@ldS1 prog 37 (by kernel_rfl))<|
 And.intro (@ldR1 prog 37 (by kernel_rfl))<|
 And.intro (@ldG1 prog 37 (by kernel_rfl))<|
 And.intro (fun (n:Nat) (w:World) (k:K1) (h:n<9223372036854775808)=>ev_of_run ((@Go.Sh.run_convert prog 37 3 .u8 .i64 (by kernel_rfl) (by kernel_rfl) .u8 n w).trans (by rw [wrap_i64 oM oM])) k)<|
 And.intro (fun (n:Nat) (w:World) (k:Value→Prop) (h:n<9223372036854775808)=>rd_of_run ((@Go.Sh.run_convert prog 37 3 .u8 .i64 (by kernel_rfl) (by kernel_rfl) .u8 n w).trans (by rw [wrap_i64 oM oM])) k)<|
 And.intro (fun (n:Nat) (w:World) (k:Value) (h:n<9223372036854775808)=>ag_of_run ((@Go.Sh.run_convert prog 37 3 .u8 .i64 (by kernel_rfl) (by kernel_rfl) .u8 n w).trans (by rw [wrap_i64 oM oM])) k)<|
 And.intro (@ev_fieldAt prog 39 2 2 (by kernel_rfl))<|
 And.intro (@rd_fieldAt prog 39 2 2 (by kernel_rfl))<|
 And.intro (@ag_fieldAt prog 39 2 2 (by kernel_rfl))<|
 And.intro (@ldS1 prog 2 (by kernel_rfl))<|
 And.intro (@ldR1 prog 2 (by kernel_rfl))<|
 (@ldG1 prog 2 (by kernel_rfl))
def RT6:=
 And.intro (@ev_fieldAt prog 39 3 3 (by kernel_rfl))<|
 And.intro (@rd_fieldAt prog 39 3 3 (by kernel_rfl))<|
 And.intro (@ag_fieldAt prog 39 3 3 (by kernel_rfl))<|
 And.intro (@ldS1 prog 9 (by kernel_rfl))<|
 And.intro (@ldR1 prog 9 (by kernel_rfl))<|
 And.intro (@ldG1 prog 9 (by kernel_rfl))<|
 And.intro (@ev_fieldAt prog 39 4 4 (by kernel_rfl))<|
 And.intro (@rd_fieldAt prog 39 4 4 (by kernel_rfl))<|
 And.intro (@ag_fieldAt prog 39 4 4 (by kernel_rfl))<|
 And.intro (fun (v0 v1 v2 v3 v4:Value) (w:World) (k:K1) (h0:isOne v0=true) (h1:isOne v1=true) (h2:isOne v2=true) (h3:isOne v3=true) (h4:isOne v4=true)=>ev_of_run (build_47_0_1_2_3_4 v0 v1 v2 v3 v4 h0 h1 h2 h3 h4 w) k)<|
 And.intro (fun (v0 v1 v2 v3 v4:Value) (w:World) (k:Value→Prop) (h0:isOne v0=true) (h1:isOne v1=true) (h2:isOne v2=true) (h3:isOne v3=true) (h4:isOne v4=true)=>rd_of_run (build_47_0_1_2_3_4 v0 v1 v2 v3 v4 h0 h1 h2 h3 h4 w) k)<|
 (@stSN prog 47 5 (by kernel_rfl))
def RT7:=
 And.intro (fun (n:Nat) (w:World) (k:K1) (h:n<9223372036854775808)=>ev_of_run ((@Go.Sh.run_convert prog 41 3 .u64 .i64 (by kernel_rfl) (by kernel_rfl) .u64 n w).trans (by rw [wrap_i64 oM oM])) k)<|
 And.intro (fun (n:Nat) (w:World) (k:Value→Prop) (h:n<9223372036854775808)=>rd_of_run ((@Go.Sh.run_convert prog 41 3 .u64 .i64 (by kernel_rfl) (by kernel_rfl) .u64 n w).trans (by rw [wrap_i64 oM oM])) k)<|
 And.intro (fun (n:Nat) (w:World) (k:Value) (h:n<9223372036854775808)=>ag_of_run ((@Go.Sh.run_convert prog 41 3 .u64 .i64 (by kernel_rfl) (by kernel_rfl) .u64 n w).trans (by rw [wrap_i64 oM oM])) k)<|
 And.intro (fun (n:Nat) (w:World) (k:K1)=>ev_of_run (show (convert 41 40 (.int .u64 (n:Int))).run prog w= .ok (.int .u32 ((n%4294967296:Nat):Int)) w from (@Go.Sh.run_convert prog 41 40 .u64 .u32 (by kernel_rfl) (by kernel_rfl) .u64 n w).trans (by rw [cast_wrap_mod rfl];rfl)) k)<|
 And.intro (fun (n:Nat) (w:World) (k:Value→Prop)=>rd_of_run (show (convert 41 40 (.int .u64 (n:Int))).run prog w= .ok (.int .u32 ((n%4294967296:Nat):Int)) w from (@Go.Sh.run_convert prog 41 40 .u64 .u32 (by kernel_rfl) (by kernel_rfl) .u64 n w).trans (by rw [cast_wrap_mod rfl];rfl)) k)<|
 And.intro (fun (n:Nat) (w:World) (k:Value)=>ag_of_run (show (convert 41 40 (.int .u64 (n:Int))).run prog w= .ok (.int .u32 ((n%4294967296:Nat):Int)) w from (@Go.Sh.run_convert prog 41 40 .u64 .u32 (by kernel_rfl) (by kernel_rfl) .u64 n w).trans (by rw [cast_wrap_mod rfl];rfl)) k)<|
 And.intro (@ev_fieldAt prog 47 0 0 (by kernel_rfl))<|
 And.intro (@rd_fieldAt prog 47 0 0 (by kernel_rfl))<|
 And.intro (@ag_fieldAt prog 47 0 0 (by kernel_rfl))<|
 And.intro (@ev_fieldAt prog 47 3 3 (by kernel_rfl))<|
 And.intro (@rd_fieldAt prog 47 3 3 (by kernel_rfl))<|
 (@ag_fieldAt prog 47 3 3 (by kernel_rfl))
def RT8:=
 And.intro (fun (v0 v1 v2 v3:Value) (w:World) (k:K1) (h0:isOne v0=true) (h1:isOne v1=true) (h2:isOne v2=true) (h3:isOne v3=true)=>ev_of_run (bs_22_4 v0 v1 v2 v3 h0 h1 h2 h3 w) k)<|
 And.intro (fun (n:Int) (w:World) (k:K1) (h0:0≤n) (h1:n<4294967296)=>ev_of_run (show (convert 2 40 (.int .i64 n)).run prog w= .ok (.int .u32 ((n.toNat:Nat):Int)) w from (@Go.Sh.run_convert prog 2 40 .i64 .u32 (by kernel_rfl) (by kernel_rfl) .i64 n w).trans (by rw [wrap_u32 h0 h1,Int.toNat_of_nonneg h0])) k)<|
 And.intro (fun (n:Int) (w:World) (k:Value→Prop) (h0:0≤n) (h1:n<4294967296)=>rd_of_run (show (convert 2 40 (.int .i64 n)).run prog w= .ok (.int .u32 ((n.toNat:Nat):Int)) w from (@Go.Sh.run_convert prog 2 40 .i64 .u32 (by kernel_rfl) (by kernel_rfl) .i64 n w).trans (by rw [wrap_u32 h0 h1,Int.toNat_of_nonneg h0])) k)<|
 And.intro (fun (n:Int) (w:World) (k:Value) (h0:0≤n) (h1:n<4294967296)=>ag_of_run (show (convert 2 40 (.int .i64 n)).run prog w= .ok (.int .u32 ((n.toNat:Nat):Int)) w from (@Go.Sh.run_convert prog 2 40 .i64 .u32 (by kernel_rfl) (by kernel_rfl) .i64 n w).trans (by rw [wrap_u32 h0 h1,Int.toNat_of_nonneg h0])) k)<|
 And.intro (fun (n:Int) (w:World) (k:K1) (h0:0≤n) (h1:n<4294967296)=>ev_of_run (show (convert 3 40 (.int .i64 n)).run prog w= .ok (.int .u32 ((n.toNat:Nat):Int)) w from (@Go.Sh.run_convert prog 3 40 .i64 .u32 (by kernel_rfl) (by kernel_rfl) .i64 n w).trans (by rw [wrap_u32 h0 h1,Int.toNat_of_nonneg h0])) k)<|
 And.intro (fun (n:Int) (w:World) (k:Value→Prop) (h0:0≤n) (h1:n<4294967296)=>rd_of_run (show (convert 3 40 (.int .i64 n)).run prog w= .ok (.int .u32 ((n.toNat:Nat):Int)) w from (@Go.Sh.run_convert prog 3 40 .i64 .u32 (by kernel_rfl) (by kernel_rfl) .i64 n w).trans (by rw [wrap_u32 h0 h1,Int.toNat_of_nonneg h0])) k)<|
 And.intro (fun (n:Int) (w:World) (k:Value) (h0:0≤n) (h1:n<4294967296)=>ag_of_run (show (convert 3 40 (.int .i64 n)).run prog w= .ok (.int .u32 ((n.toNat:Nat):Int)) w from (@Go.Sh.run_convert prog 3 40 .i64 .u32 (by kernel_rfl) (by kernel_rfl) .i64 n w).trans (by rw [wrap_u32 h0 h1,Int.toNat_of_nonneg h0])) k)<|
 And.intro (fun (n:Int) (w:World) (k:K1) (h0:0≤n) (h1:n<18446744073709551616)=>ev_of_run (show (convert 3 41 (.int .i64 n)).run prog w= .ok (.int .u64 ((n.toNat:Nat):Int)) w from (@Go.Sh.run_convert prog 3 41 .i64 .u64 (by kernel_rfl) (by kernel_rfl) .i64 n w).trans (by rw [wrap_u64 h0 h1,Int.toNat_of_nonneg h0])) k)<|
 And.intro (fun (n:Int) (w:World) (k:Value→Prop) (h0:0≤n) (h1:n<18446744073709551616)=>rd_of_run (show (convert 3 41 (.int .i64 n)).run prog w= .ok (.int .u64 ((n.toNat:Nat):Int)) w from (@Go.Sh.run_convert prog 3 41 .i64 .u64 (by kernel_rfl) (by kernel_rfl) .i64 n w).trans (by rw [wrap_u64 h0 h1,Int.toNat_of_nonneg h0])) k)<|
 And.intro (fun (n:Int) (w:World) (k:Value) (h0:0≤n) (h1:n<18446744073709551616)=>ag_of_run (show (convert 3 41 (.int .i64 n)).run prog w= .ok (.int .u64 ((n.toNat:Nat):Int)) w from (@Go.Sh.run_convert prog 3 41 .i64 .u64 (by kernel_rfl) (by kernel_rfl) .i64 n w).trans (by rw [wrap_u64 h0 h1,Int.toNat_of_nonneg h0])) k)<|
 And.intro (@ev_fieldAt prog 47 2 2 (by kernel_rfl))<|
 (@rd_fieldAt prog 47 2 2 (by kernel_rfl))
def RT9:=
 And.intro (@ag_fieldAt prog 47 2 2 (by kernel_rfl))<|
 And.intro (@ev_fieldAt prog 47 4 4 (by kernel_rfl))<|
 And.intro (@rd_fieldAt prog 47 4 4 (by kernel_rfl))<|
 And.intro (@ag_fieldAt prog 47 4 4 (by kernel_rfl))<|
 And.intro (fun (v1 v2:Value) (w:World) (k:K1) (h1:isOne v1=true) (h2:isOne v2=true)=>ev_of_run (build_207_1_2 v1 v2 h1 h2 w) k)<|
 And.intro (fun (v1 v2:Value) (w:World) (k:Value→Prop) (h1:isOne v1=true) (h2:isOne v2=true)=>rd_of_run (build_207_1_2 v1 v2 h1 h2 w) k)<|
 And.intro (@blt_len prog 22 (by kernel_rfl))<|
 And.intro (@ev_indexAt prog 22 1 (by kernel_rfl))<|
 And.intro (@rd_indexAt prog 22 1 (by kernel_rfl))<|
 And.intro (@ag_indexAt prog 22 1 (by kernel_rfl))<|
 And.intro (@blt_len prog 203 (by kernel_rfl))<|
 (@ev_indexAt prog 203 1 (by kernel_rfl))
def RT10:=
 And.intro (@rd_indexAt prog 203 1 (by kernel_rfl))<|
 And.intro (@ag_indexAt prog 203 1 (by kernel_rfl))<|
 And.intro (@ldS1 prog 5 (by kernel_rfl))<|
 And.intro (@ldR1 prog 5 (by kernel_rfl))<|
 And.intro (@ldG1 prog 5 (by kernel_rfl))<|
 And.intro (@ev_fieldAt prog 207 1 1 (by kernel_rfl))<|
 And.intro (@rd_fieldAt prog 207 1 1 (by kernel_rfl))<|
 And.intro (@ag_fieldAt prog 207 1 1 (by kernel_rfl))<|
 And.intro (@ev_fieldAt prog 207 2 2 (by kernel_rfl))<|
 And.intro (@rd_fieldAt prog 207 2 2 (by kernel_rfl))<|
 (@ag_fieldAt prog 207 2 2 (by kernel_rfl))
def RT:=And.intro RT0<|And.intro RT1<|And.intro RT2<|And.intro RT3<|And.intro RT4<|And.intro RT5<|And.intro RT6<|And.intro RT7<|And.intro RT8<|And.intro RT9 RT10
end Go.Proofs.YtjegifbmbianiaaGreatDoor.R6
