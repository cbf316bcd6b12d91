/-
  ReachShapes: for every kind and every two shapes the law returns true, and its arguments read as before. Condition: the two listed package variables hold at the call's start what the program's text lays (the card ties them to that text).
-/
import Derived.Test.YtjegifbmbianiaaGreatDoorRows
import Derived.Test.YtjegifbmbianiaaGreatDoorRa3
import Derived.ProofKit
import Derived.LaidMore
import Derived.OpenShut
import Derived.Stop.Joined
import Derived.Lib.SmallJoins
import Derived.Test.YtjegifbmbianiaaGreatDoorRa4
import Derived.ChangeSlices
import Derived.Deep.Strs
import Derived.Test.YtjegifbmbianiaaGreatDoorRaRowRsA
import Derived.Test.YtjegifbmbianiaaGreatDoorCards
import Derived.Test.YtjegifbmbianiaaGreatDoorTie
set_option linter.unusedVariables false
set_option maxRecDepth 100000
open Go.Proofs.Tryz (prog)
namespace Go.Proofs.YtjegifbmbianiaaGreatDoor
open Go Go.Sh Go.ChangeShapes Go.WideShapes Go.ChangeAt Go.RowKit Go.Joins
theorem Tryz.own:ownKnob prog.godebug=none:=by kernel_rfl
theorem Tryz.laidOut:laidOutB prog=true:=by kernel_rfl
abbrev laidL:List (String×DataW Unit):= [("bedrock/crc.nibbles",Rows.laid_bedrock_crc_nibbles),("bedrock/sizeclass.payload",Rows.laid_bedrock_sizeclass_payload)]
theorem gNib:prog.globalNamed "bedrock/crc.nibbles" =some 4:=by kernel_rfl
theorem gPay:prog.globalNamed "bedrock/sizeclass.payload" =some 1:=by kernel_rfl
theorem tNib:(prog.globals[4]?).map (·.type)=some 479:=by kernel_rfl
theorem tPay:(prog.globals[1]?).map (·.type)=some 350:=by kernel_rfl
theorem arr_ints {H:Type} {enc:TypeId×Value→H} {P:Program} {w:World} {base:Nat} {spare:Nat→Bool} {held:Bool} {fuel:Nat} {t e:TypeId} {n:Nat} {k:IntKind} {cs:List Value} {l:List Int} {ps:List MemPlace} (hu:P.underlying t=some (.array n e)) (he:P.underlying e=some (.int k)) (hc:P.cellsOf e=1)
  (h:DataW.trod enc P w base spare held fuel t cs=some (.agg (l.map fun z=> .lit (.int k z)),ps)) (i:Nat) (hi:i<n):∃z,l[i]? =some z∧cs[i]? =some (.int k z):=by
 obtain ⟨xs,m,rfl,hx,hlen,hn,hel⟩:=DataW.trod_array hu h
 have h1:=hel i hi
 have hxi:xs[i]? =some xs[i]:=List.getElem?_eq_getElem oM
 rw [hxi,hc,Nat.mul_one] at h1
 obtain ⟨z,e1,e2,_⟩:=DataW.trod_int he h1
 refine ⟨z,?_,?_⟩
 ·simp only [Prod.mk.injEq,DataW.agg.injEq] at hx
  have h2:(l.map fun z=>(DataW.lit (.int k z):DataW H))[i]? =(xs.map (·.1))[i]? :=by rw [hx.1]
  rw [List.getElem?_map,List.getElem?_map,hxi,e2] at h2
  cases hl:l[i]? with
  |none=>rw [hl] at h2;cases h2
  |some z'=>
   rw [hl] at h2
   simp only [Option.map_some,Option.some.injEq,DataW.lit.injEq,Lit.int.injEq,true_and] at h2
   rw [h2]
 ·have h3:((cs.drop i).take 1)[0]? =some (.int k z):=by rw [e1];rfl
  rw [List.getElem?_take,List.getElem?_drop] at h3
  simpa using h3
theorem glob_of_laid {W:World} (h:laidMetH prog laidL W):Glob W:=by
 rw [MakeChecks.laidMetH_plain _ _ _ (by kernel_rfl)] at h
 obtain ⟨ps,⟨g0,t0,cs0,f0,p0,q0,hg0,ht0,hv0,hd0,⟨g1,t1,cs1,f1,p1,q1,hg1,ht1,hv1,hd1,_,_⟩,_⟩,_,_⟩:=h
 obtain rfl:=Option.some.inj (gNib.symm.trans hg0)
 obtain rfl:=Option.some.inj (gPay.symm.trans hg1)
 obtain rfl:=Option.some.inj (tNib.symm.trans ht0)
 obtain rfl:=Option.some.inj (tPay.symm.trans ht1)
 refine ⟨fun i hi=> ?_,fun i hi=> ?_⟩
 ·obtain ⟨z,hz,hc⟩:=arr_ints (l:= [3,7,15,31,60]) (show prog.underlying 350=some (.array 5 3) by kernel_rfl) (show prog.underlying 3=some (.int .i64) by kernel_rfl) (by kernel_rfl) hd1 i hi
  rw [World.var?_cell hg1 hv1 i]
  have:payN i=z:=by unfold payN;rw [List.getD_eq_getElem?_getD,hz];rfl
  rw [this];simpa using hc
 ·obtain ⟨z,hz,hc⟩:=arr_ints (l:= [0,274646895,549293790,820201905,1098587580,1361435347,1640403810,1905808397,2197175160,2460548119,2722870694,2987750089,3280807620,3553878443,3811616794,4084100981]) (show prog.underlying 479=some (.array 16 40) by kernel_rfl) (show prog.underlying 40=some (.int .u32) by kernel_rfl) (by kernel_rfl) hd0 i hi
  rw [World.var?_cell hg0 hv0 i]
  have:((nibN i:Nat):Int)=z:=by
   have hq:∀q:Fin 16,([0,274646895,549293790,820201905,1098587580,1361435347,1640403810,1905808397,2197175160,2460548119,2722870694,2987750089,3280807620,3553878443,3811616794,4084100981]:List Int)[q.1]? =some ((nibN q.1:Nat):Int):=by decide
   exact Option.some.inj ((hq ⟨i,hi⟩).symm.trans hz)
  rw [this];simpa using hc
theorem door_met (os:Os) (args:Array Value):laidMetH prog laidL ((World.doorLaid prog 400 os).forCall (fun _ _=>0) ⟨#[],args,[]⟩).memory:=
 laidMetH_of_parts3 (fuel:=8) (laidMet_of_run' 8 (by kernel_rfl) (by kernel_rfl)) (by kernel_rfl) (by kernel_rfl)
section
variable {H:Type} {enc:TypeId×Value→H}
theorem trodAll_lt {P:Program} {W:World} {ts:List TypeId} {apart:Bool} {vs:List Value} {ds gs:List (DataW H)} {before:List MemPlace} {vars:List String} (hW:DataW.Whole enc P ts vars apart W vs ds gs before):∀x∈before,x.block<W.heap.size:=fun x hx=>by simpa using hW.lt x hx
theorem trodAll_ext {P:Program} (hl:laidOutB P=true) {W W':World} (hb:Ext W W'):∀{ts:List TypeId} {vs:List Value} {ds:List (DataW H)} {ps:List MemPlace},(∀t∈ts,P.readableRec t=true∧t<P.types.size)→DataW.TrodAll enc P W 0 (fun _=>true) true ts vs ds ps→(∀x∈ps,x.block<W.heap.size)→DataW.TrodAll enc P W' 0 (fun b=>decide (b<W.heap.size)) true ts vs ds ps:=by
 intro ts
 induction ts with
 |nil=>intro vs ds ps _ h _;cases vs<;>cases ds<;>first|exact h|exact h.elim
 |cons t ts ih=>
  intro vs ds ps hr h hlt
  cases vs with
  |nil=>exact h.elim
  |cons v vs=>
   cases ds with
   |nil=>exact h.elim
   |cons d ds=>
    obtain ⟨p,q,h0,h1,rfl⟩:=h
    refine ⟨p,q,Below.trod hl (hr t (by simp)).1 (hr t (by simp)).2 h0 hb (fun x hx=>hlt x (by simp [hx])),ih (fun u hu=>hr u (by simp [hu])) h1 (fun x hx=>hlt x (by simp [hx])),rfl⟩
theorem post_ext {f:Func} {s:ChangeSpec} {W W':World} {args:Array Value} {ds:List (DataW H)} {before:List MemPlace} (hv:s.vars= []) (hr:f.resultTypes= #[4]) (hrd:∀t∈f.params.toList,prog.readableRec t=true∧t<prog.types.size)
  (hW:DataW.Whole enc prog f.params.toList s.vars false W args.toList ds [] before) (hs:s.fn H (ds++ [])={results:= [.lit (.bool true)],args:=ds}) (hb:Ext W W'):s.post enc prog f false true false false W args (.bool true) W':=by
 have hW':=hW
 obtain ⟨p,q,hA,hV,rfl,hfz,hnd⟩:=hW
 rw [hv] at hV
 have hq:q= []:=hV
 subst hq
 have hlt:=trodAll_lt hW'
 refine ⟨ds,[],p++ [],[],p,[],hW',?_,?_,?_,Below.frame hb _,fun h=>by cases h⟩
 ·rw [hs,hr]
  exact trodAll_mk1 (shut_bool (show prog.underlying 4=some .bool by kernel_rfl) true)
 ·rw [hs];exact trodAll_ext Tryz.laidOut hb hrd hA (fun x hx=>hlt x (by simp [hx]))
 ·rw [hs,hv];rfl
end
section
variable {H:Type} {enc:TypeId×Value→H} {P:Program} {w:World} {base:Nat} {spare:Nat→Bool} {held:Bool}
theorem spot_none {a:Addr} {v:Value} (h:w.cell? a=some v):a=⟨a.block,a.off,none⟩∧a.block<w.heap.size:=by
 unfold World.cell? at h
 cases hb:w.heap[a.block]? with
 |none=>rw [hb] at h;cases h
 |some o=>
  refine ⟨?_,lt_of_heap hb⟩
  rw [hb] at h
  cases o with
  |cells c e f=>
   simp only at h
   split at h
   ·cases h
   ·rename_i hs
    obtain ⟨b,o,s⟩:=a
    cases s with
    |none=>rfl
    |some s=>exact absurd rfl hs
  |_=>cases h
theorem rds_ints {t e:TypeId} {k:IntKind} {fuel:Nat} {v:Value} {x:DataW H×List MemPlace} (ht:P.underlying t=some (.slice e)) (he:P.underlying e=some (.int k)) (hc:P.cellsOf e=1)
  (h:DataW.trod enc P w base spare held fuel t [v]=some x):∃L:List Int,RdS w.heap.size w v (L.map fun z=>Value.int k z)∧(∀z∈L,(Lit.int k z).wf=true)∧L.length≤maxLen:=by
 rcases Go.ChangeShapes.open_ints ht he hc h with ⟨e1,_⟩|⟨a,len,cap,zs,e1,hb,hl,hm,hz,_,hcell,hwf⟩
 ·simp only [List.cons.injEq,and_true] at e1
  subst e1
  exact ⟨[],RdS.nil _ _,fun z hz=>(by cases hz),Nat.zero_le _⟩
 ·simp only [List.cons.injEq,and_true] at e1
  subst e1
  have hle:len≤zs.length:=by rw [hz];split<;>omega
  refine ⟨zs.take len,⟨some a,cap,by rw [List.length_map,List.length_take,Nat.min_eq_left hle],?_⟩,fun z hz=>hwf z (List.mem_of_mem_take hz),by rw [List.length_take,Nat.min_eq_left hle];omega⟩
  by_cases h0:len=0
  ·left;subst h0;simp
  ·right
   have hc0:=hcell 0 oM
   have ea:a.add 0=a:=rfl
   rw [ea] at hc0
   obtain ⟨hs,hlt⟩:=spot_none hc0
   refine ⟨a.block,a.off,by rw [←hs],hlt,fun j u hj=> ?_⟩
   have hjl:j<len:=by
    have:=(List.getElem?_eq_some_iff.1 hj).1
    rw [List.length_map,List.length_take] at this;omega
   have hcj:=hcell j oM
   have e2:a.add j=⟨a.block,a.off+j,none⟩:=by
    unfold Addr.add
    split
    ·rename_i hj0;subst hj0;exact hs
    ·rfl
   rw [e2] at hcj
   rw [hcj]
   rw [List.getElem?_map,List.getElem?_take] at hj
   rw [if_pos hjl,List.getElem?_eq_getElem oM] at hj
   simp only [Option.map_some,Option.some.injEq] at hj
   rw [←hj,List.getD_eq_getElem?_getD,List.getElem?_eq_getElem oM];rfl
end
theorem open_shape {H:Type} {enc:TypeId×Value→H} {P:Program} {w:World} {base:Nat} {spare:Nat→Bool} {held:Bool} {r:Reach} {b0:Nat} {t tl ti tb:TypeId} {f0 f1 f2 f3 f4 f5:Field} {v:Value} {d:DataW H} {p:List MemPlace} (hs:P.underlying t=some (.struct #[f0,f1,f2,f3,f4,f5])) (hC:P.cellsOf t=6)
  (h0:f0.type=tl∧f0.offset=0) (h1:f1.type=tb∧f1.offset=1) (h2:f2.type=ti∧f2.offset=2) (h3:f3.type=tb∧f3.offset=3) (h4:f4.type=ti∧f4.offset=4) (h5:f5.type=ti∧f5.offset=5)
  (cl:P.cellsOf tl=1) (cb:P.cellsOf tb=1) (ci:P.cellsOf ti=1) (htl:P.underlying tl=some (.slice ti)) (hti:P.underlying ti=some (.int .i64)) (htb:P.underlying tb=some .bool)
  (hv:Value.okWide P w r b0 t v) (h:DataW.Trod enc P w base spare held t v d p):∃(x:Value) (s:Shp),v=shV x s∧RdS w.heap.size w x (i64L s.l)∧s.l.length≤maxLen:=by
 obtain ⟨cs,rfl,hsz⟩:=okWide_struct hs hv
 obtain ⟨fuel,hf⟩:=h
 obtain ⟨xs,n,_,_,_,hxs,hf⟩:=DataW.trod_struct hs hf
 obtain ⟨l⟩:=cs
 have hl:l.length=6:=hsz.trans hC
 match l,hl with
 | [s0,s1,s2,s3,s4,s5],_=>
  match xs,hxs with
  | [y0,y1,y2,y3,y4,y5],_=>
   have t0:=hf 0 f0 rfl;have t1:=hf 1 f1 rfl;have t2:=hf 2 f2 rfl;have t3:=hf 3 f3 rfl;have t4:=hf 4 f4 rfl;have t5:=hf 5 f5 rfl
   rw [h0.1,h0.2,cl] at t0;rw [h1.1,h1.2,cb] at t1;rw [h2.1,h2.2,ci] at t2;rw [h3.1,h3.2,cb] at t3;rw [h4.1,h4.2,ci] at t4;rw [h5.1,h5.2,ci] at t5
   obtain ⟨L,rL,_,lL⟩:=rds_ints htl hti ci (show DataW.trod enc P w base spare held n tl [s0]=some y0 from t0)
   obtain ⟨z1,e1,_⟩:=DataW.trod_bool htb (show DataW.trod enc P w base spare held n tb [s1]=some y1 from t1)
   obtain ⟨z2,e2,_,_⟩:=DataW.trod_int hti (show DataW.trod enc P w base spare held n ti [s2]=some y2 from t2)
   obtain ⟨z3,e3,_⟩:=DataW.trod_bool htb (show DataW.trod enc P w base spare held n tb [s3]=some y3 from t3)
   obtain ⟨z4,e4,_,_⟩:=DataW.trod_int hti (show DataW.trod enc P w base spare held n ti [s4]=some y4 from t4)
   obtain ⟨z5,e5,_,_⟩:=DataW.trod_int hti (show DataW.trod enc P w base spare held n ti [s5]=some y5 from t5)
   simp only [List.cons.injEq,and_true] at e1 e2 e3 e4 e5
   subst e1;subst e2;subst e3;subst e4;subst e5
   exact ⟨s0,⟨L,z1,z2,z3,z4,z5⟩,rfl,rL,lL⟩
theorem reachShapes_par:Tryz.f3.params= #[5,24,24]:=by kernel_rfl
theorem reachShapes_call {H:Type} {enc:TypeId×Value→H} (W:World) (base:Nat) (args:Array Value) (ds gs:List (DataW H)) (before:List MemPlace)
  (hval0:∀(j:Nat) t v,Tryz.f3.params[j]? =some t→args[j]? =some v→Value.okWide prog W .any base t v)
  (hW:DataW.Whole enc prog Tryz.f3.params.toList Rows.reachShapesSpec.vars false W args.toList ds gs before) (hL:laidMetH prog laidL W):
  Calls prog 3 args W fun e W'=>∃v,e= .returned v∧Rows.reachShapesSpec.post enc prog Tryz.f3 false true false false W args v W':=by
 have hval:=hval0
 have hW':=hW
 obtain ⟨p,q,hA0,hV,rfl,hfz,hnd⟩:=hW
 have hA:=hA0
 rw [reachShapes_par] at hA hval
 obtain ⟨v0,v1,v2,d0,d1,d2,p0,p1,p2,rfl,rfl,rfl,h0,h1,h2⟩:=trodAll_three hA
 obtain ⟨rfl,rfl⟩:=trodVars_none hV
 have hG:=glob_of_laid hL
 obtain ⟨kn,rfl,hd0,hp0,w0⟩:=open_int (show prog.underlying 5=some (.int .u8) by kernel_rfl) (hval 0 5 v0 rfl rfl) h0
 have bd0:=bounds_u8 w0
 obtain ⟨nk,rfl⟩:∃n:Nat,kn=(n:Int):=⟨kn.toNat,by omega⟩
 obtain ⟨x1,s1,rfl,r1,l1⟩:=open_shape Tryz.underlying24 (by kernel_rfl) ⟨rfl,rfl⟩ ⟨rfl,rfl⟩ ⟨rfl,rfl⟩ ⟨rfl,rfl⟩ ⟨rfl,rfl⟩ ⟨rfl,rfl⟩ (by kernel_rfl) (by kernel_rfl) (by kernel_rfl) (show prog.underlying 22=some (.slice 3) by kernel_rfl) (show prog.underlying 3=some (.int .i64) by kernel_rfl) (show prog.underlying 4=some .bool by kernel_rfl) (hval 1 24 v1 rfl rfl) h1
 obtain ⟨x2,s2,rfl,r2,l2⟩:=open_shape Tryz.underlying24 (by kernel_rfl) ⟨rfl,rfl⟩ ⟨rfl,rfl⟩ ⟨rfl,rfl⟩ ⟨rfl,rfl⟩ ⟨rfl,rfl⟩ ⟨rfl,rfl⟩ (by kernel_rfl) (by kernel_rfl) (by kernel_rfl) (show prog.underlying 22=some (.slice 3) by kernel_rfl) (show prog.underlying 3=some (.int .i64) by kernel_rfl) (show prog.underlying 4=some .bool by kernel_rfl) (hval 2 24 v2 rfl rfl) h2
 try simp only [List.append_nil] at hW'
 have hrun:=law_shapes hG (k:=nk) (s:=s1) (t:=s2) oM r1 r2 l1 l2 (fun v w'=>v= .bool true∧Ext W w') (fun w' he=>⟨rfl,he⟩)
 refine Calls.mono hrun (fun e W' hh=> ?_)
 cases e with
 |returned v=>
  obtain ⟨rfl,he⟩:=hh
  exact ⟨_,rfl,post_ext rfl (by kernel_rfl) (by rw [reachShapes_par];intro t ht;simp only [List.mem_cons,List.not_mem_nil,or_false] at ht;rcases ht with rfl|rfl|rfl<;>exact ⟨by kernel_rfl,of_decide_eq_true (by kernel_rfl)⟩) hW' rfl he⟩
 |_=>exact hh.elim
theorem reachShapes_lifted (os:Os) (started:os.Started) (H:Type) (enc:TypeId×Value→H):
  ReturnsInHanded {} Tryz.checked os 3 .any (fun w args=>(Rows.reachShapesSpec.pre enc prog Tryz.f3 [] false w args∧laidMetH prog laidL w)∧sizedMet enc prog Tryz.f3 (OpenSpec.ofChange Rows.reachShapesSpec) false w args)
   (Rows.reachShapesSpec.post enc prog Tryz.f3 false true false false):=
 returnsInHanded_of_change_and (C:=Tryz.checked) (X:=fun w _=>laidMetH prog laidL w) (fun _ _ _ hh h=>h.of_heap hh) Tryz.own started (by kernel_rfl) Tryz.func3
  (ChangeSpec.witness_shaped (enc:=enc) (C:=Tryz.checked) (os:=os) (X:=fun w _=>laidMetH prog laidL w) false (World.doorLaid prog 400 os) #[.int .u8 0,.agg #[.slice none 0 0,.bool false,.int .i64 0,.bool false,.int .i64 0,.int .i64 0],.agg #[.slice none 0 0,.bool false,.int .i64 0,.bool false,.int .i64 0,.int .i64 0]] 8 rfl (World.shaped_of_RefB (by kernel_rfl) (by kernel_rfl)) (by kernel_rfl) (by kernel_rfl) (by kernel_rfl) (door_met os _))
  (fun W base args ds gs before hval hW _ _ hL _=>reachShapes_call W base args ds gs before hval hW hL)
theorem reachShapes_c1:(Rows.reachShapesRow.inPlace==prog.inPlace 3)=true:=by kernel_rfl
theorem reachShapes_c2:(Rows.reachShapesRow.unfollowed==prog.unfollowed 3)=true:=by kernel_rfl
theorem reachShapes_c3:(Rows.reachShapesRow.recurses==prog.recurses 3)=true:=by kernel_rfl
theorem reachShapes_c4:(Rows.reachShapesRow.named==prog.varsNamed 3)=true:=by kernel_rfl
theorem reachShapes_closed:joinedFacts prog 3 Tryz.f3 Rows.reachShapesSpec Rows.reachShapesRow=true:=by
 unfold joinedFacts
 rw [reachShapes_c1,reachShapes_c2,reachShapes_c3,reachShapes_c4,rxStops,rxKnobs,Tryz.laidOut]
 kernel_rfl
theorem reachShapes_said:Rows.ReachShapesSaid:=
 OpenClaim.holds_of_wide 3 Tryz.f3 rfl rfl rfl rfl rfl rfl rfl ⟨rfl,rfl,rfl,rfl,rfl⟩ rfl rfl rfl rfl rfl (by kernel_rfl) Tryz.func3 reachShapes_closed
  (of_decide_eq_true (by kernel_rfl)) (by unfold Func.isWrapper;first|(rw [if_pos (by decide+kernel)];kernel_rfl)|(rw [if_neg (by decide+kernel)];exact ⟨rfl,rfl⟩))
  (fun os started H enc _=>reachShapes_lifted os started H enc)
theorem reachShapes_d2:false=Rows.reachShapesRow.goesBy prog:=goes_false noGoes _ rfl
theorem reachShapes_d3:Rows.reachShapesRow.wfByText (OpenSpec.ofChange Rows.reachShapesSpec)=true:=by kernel_rfl
theorem reachShapes_holds:Rows.ReachShapesCardSaid:=
 Claim7.holds_tied_plain_at .later [] [.data,.data] true (true, "b8c559b012efed3466b765f85f03c5343f17a1fdd58ad3dbc17c8907605dfc77") true
  reachShapes_said (fun _ h=>by cases h) reachShapes_d3 (fun _ h=>by cases h) reachShapes_row_tie rfl ⟨rfl,rfl⟩ (by kernel_rfl) rfl
  (fun f fn hf hfn=>by
   obtain rfl:f=3:=Option.some.inj ((show prog.funcNamed "bedrock/bedrocklaw27.ReachShapes" =some 3 by kernel_rfl).symm.trans hf)|>.symm
   obtain rfl:fn=Tryz.f3:=(Option.some.inj (Tryz.func3.symm.trans hfn)).symm
   exact ⟨rxLooks,fun j t ht=>by
    rw [reachShapes_par] at ht
    have hm:t∈ [5,24,24]:=by simpa using Array.mem_of_getElem? ht
    have hall:([5,24,24].all fun u=> !prog.wantsStandIn u)=true:=by kernel_rfl
    exact (show prog.wantsStandIn t=false by simpa using List.all_eq_true.1 hall t hm)⟩)
  reachShapes_d2
#print axioms reachShapes_holds
end Go.Proofs.YtjegifbmbianiaaGreatDoor
