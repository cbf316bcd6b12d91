/-
  ReachStandard: for every kind and every words the law returns true, and its arguments read as before. Condition: the two listed package variables hold at the call's start what the program's text lays (the card ties them to that text).
-/
import Derived.Test.YtjegifbmbianiaaGreatDoorRows
import Derived.Test.YtjegifbmbianiaaGreatDoorRb3
import Derived.ProofKit
import Derived.LaidMore
import Derived.OpenShut
import Derived.Stop.Joined
import Derived.Lib.SmallJoins
import Derived.Test.YtjegifbmbianiaaGreatDoorRb4
import Derived.ChangeSlices
import Derived.Deep.Strs
import Derived.Test.YtjegifbmbianiaaGreatDoorRbRowStA
import Derived.Test.YtjegifbmbianiaaGreatDoorCards
import Derived.Test.YtjegifbmbianiaaGreatDoorTie
set_option linter.unusedVariables false
set_option maxRecDepth 100000
open Go.Proofs.Tryz (prog)
namespace Go.Proofs.YtjegifbmbianiaaGreatDoor
open Go Go.Sh Go.ChangeShapes Go.WideShapes Go.ChangeAt Go.RowKit Go.Joins
theorem Tryz.own:ownKnob prog.godebug=none:=by kernel_rfl
theorem Tryz.laidOut:laidOutB prog=true:=by kernel_rfl
abbrev laidL:List (String×DataW Unit):= [("bedrock/crc.nibbles",Rows.laid_bedrock_crc_nibbles),("bedrock/sizeclass.payload",Rows.laid_bedrock_sizeclass_payload)]
theorem gNib:prog.globalNamed "bedrock/crc.nibbles" =some 4:=by kernel_rfl
theorem gPay:prog.globalNamed "bedrock/sizeclass.payload" =some 1:=by kernel_rfl
theorem tNib:(prog.globals[4]?).map (·.type)=some 479:=by kernel_rfl
theorem tPay:(prog.globals[1]?).map (·.type)=some 350:=by kernel_rfl
theorem arr_ints {H:Type} {enc:TypeId×Value→H} {P:Program} {w:World} {base:Nat} {spare:Nat→Bool} {held:Bool} {fuel:Nat} {t e:TypeId} {n:Nat} {k:IntKind} {cs:List Value} {l:List Int} {ps:List MemPlace} (hu:P.underlying t=some (.array n e)) (he:P.underlying e=some (.int k)) (hc:P.cellsOf e=1)
  (h:DataW.trod enc P w base spare held fuel t cs=some (.agg (l.map fun z=> .lit (.int k z)),ps)) (i:Nat) (hi:i<n):∃z,l[i]? =some z∧cs[i]? =some (.int k z):=by
 obtain ⟨xs,m,rfl,hx,hlen,hn,hel⟩:=DataW.trod_array hu h
 have h1:=hel i hi
 have hxi:xs[i]? =some xs[i]:=List.getElem?_eq_getElem oM
 rw [hxi,hc,Nat.mul_one] at h1
 obtain ⟨z,e1,e2,_⟩:=DataW.trod_int he h1
 refine ⟨z,?_,?_⟩
 ·simp only [Prod.mk.injEq,DataW.agg.injEq] at hx
  have h2:(l.map fun z=>(DataW.lit (.int k z):DataW H))[i]? =(xs.map (·.1))[i]? :=by rw [hx.1]
  rw [List.getElem?_map,List.getElem?_map,hxi,e2] at h2
  cases hl:l[i]? with
  |none=>rw [hl] at h2;cases h2
  |some z'=>
   rw [hl] at h2
   simp only [Option.map_some,Option.some.injEq,DataW.lit.injEq,Lit.int.injEq,true_and] at h2
   rw [h2]
 ·have h3:((cs.drop i).take 1)[0]? =some (.int k z):=by rw [e1];rfl
  rw [List.getElem?_take,List.getElem?_drop] at h3
  simpa using h3
theorem glob_of_laid {W:World} (h:laidMetH prog laidL W):Glob W:=by
 rw [MakeChecks.laidMetH_plain _ _ _ (by kernel_rfl)] at h
 obtain ⟨ps,⟨g0,t0,cs0,f0,p0,q0,hg0,ht0,hv0,hd0,⟨g1,t1,cs1,f1,p1,q1,hg1,ht1,hv1,hd1,_,_⟩,_⟩,_,_⟩:=h
 obtain rfl:=Option.some.inj (gNib.symm.trans hg0)
 obtain rfl:=Option.some.inj (gPay.symm.trans hg1)
 obtain rfl:=Option.some.inj (tNib.symm.trans ht0)
 obtain rfl:=Option.some.inj (tPay.symm.trans ht1)
 refine ⟨fun i hi=> ?_,fun i hi=> ?_⟩
 ·obtain ⟨z,hz,hc⟩:=arr_ints (l:= [3,7,15,31,60]) (show prog.underlying 350=some (.array 5 3) by kernel_rfl) (show prog.underlying 3=some (.int .i64) by kernel_rfl) (by kernel_rfl) hd1 i hi
  rw [World.var?_cell hg1 hv1 i]
  have:payN i=z:=by unfold payN;rw [List.getD_eq_getElem?_getD,hz];rfl
  rw [this];simpa using hc
 ·obtain ⟨z,hz,hc⟩:=arr_ints (l:= [0,274646895,549293790,820201905,1098587580,1361435347,1640403810,1905808397,2197175160,2460548119,2722870694,2987750089,3280807620,3553878443,3811616794,4084100981]) (show prog.underlying 479=some (.array 16 40) by kernel_rfl) (show prog.underlying 40=some (.int .u32) by kernel_rfl) (by kernel_rfl) hd0 i hi
  rw [World.var?_cell hg0 hv0 i]
  have:((nibN i:Nat):Int)=z:=by
   have hq:∀q:Fin 16,([0,274646895,549293790,820201905,1098587580,1361435347,1640403810,1905808397,2197175160,2460548119,2722870694,2987750089,3280807620,3553878443,3811616794,4084100981]:List Int)[q.1]? =some ((nibN q.1:Nat):Int):=by decide
   exact Option.some.inj ((hq ⟨i,hi⟩).symm.trans hz)
  rw [this];simpa using hc
theorem door_met (os:Os) (args:Array Value):laidMetH prog laidL ((World.doorLaid prog 400 os).forCall (fun _ _=>0) ⟨#[],args,[]⟩).memory:=
 laidMetH_of_parts3 (fuel:=8) (laidMet_of_run' 8 (by kernel_rfl) (by kernel_rfl)) (by kernel_rfl) (by kernel_rfl)
section
variable {H:Type} {enc:TypeId×Value→H}
theorem trodAll_lt {P:Program} {W:World} {ts:List TypeId} {apart:Bool} {vs:List Value} {ds gs:List (DataW H)} {before:List MemPlace} {vars:List String} (hW:DataW.Whole enc P ts vars apart W vs ds gs before):∀x∈before,x.block<W.heap.size:=fun x hx=>by simpa using hW.lt x hx
theorem trodAll_ext {P:Program} (hl:laidOutB P=true) {W W':World} (hb:Ext W W'):∀{ts:List TypeId} {vs:List Value} {ds:List (DataW H)} {ps:List MemPlace},(∀t∈ts,P.readableRec t=true∧t<P.types.size)→DataW.TrodAll enc P W 0 (fun _=>true) true ts vs ds ps→(∀x∈ps,x.block<W.heap.size)→DataW.TrodAll enc P W' 0 (fun b=>decide (b<W.heap.size)) true ts vs ds ps:=by
 intro ts
 induction ts with
 |nil=>intro vs ds ps _ h _;cases vs<;>cases ds<;>first|exact h|exact h.elim
 |cons t ts ih=>
  intro vs ds ps hr h hlt
  cases vs with
  |nil=>exact h.elim
  |cons v vs=>
   cases ds with
   |nil=>exact h.elim
   |cons d ds=>
    obtain ⟨p,q,h0,h1,rfl⟩:=h
    refine ⟨p,q,Below.trod hl (hr t (by simp)).1 (hr t (by simp)).2 h0 hb (fun x hx=>hlt x (by simp [hx])),ih (fun u hu=>hr u (by simp [hu])) h1 (fun x hx=>hlt x (by simp [hx])),rfl⟩
theorem post_ext {f:Func} {s:ChangeSpec} {W W':World} {args:Array Value} {ds:List (DataW H)} {before:List MemPlace} (hv:s.vars= []) (hr:f.resultTypes= #[4]) (hrd:∀t∈f.params.toList,prog.readableRec t=true∧t<prog.types.size)
  (hW:DataW.Whole enc prog f.params.toList s.vars false W args.toList ds [] before) (hs:s.fn H (ds++ [])={results:= [.lit (.bool true)],args:=ds}) (hb:Ext W W'):s.post enc prog f false true false false W args (.bool true) W':=by
 have hW':=hW
 obtain ⟨p,q,hA,hV,rfl,hfz,hnd⟩:=hW
 rw [hv] at hV
 have hq:q= []:=hV
 subst hq
 have hlt:=trodAll_lt hW'
 refine ⟨ds,[],p++ [],[],p,[],hW',?_,?_,?_,Below.frame hb _,fun h=>by cases h⟩
 ·rw [hs,hr]
  exact trodAll_mk1 (shut_bool (show prog.underlying 4=some .bool by kernel_rfl) true)
 ·rw [hs];exact trodAll_ext Tryz.laidOut hb hrd hA (fun x hx=>hlt x (by simp [hx]))
 ·rw [hs,hv];rfl
end
section
variable {H:Type} {enc:TypeId×Value→H} {P:Program} {w:World} {base:Nat} {spare:Nat→Bool} {held:Bool}
theorem spot_none {a:Addr} {v:Value} (h:w.cell? a=some v):a=⟨a.block,a.off,none⟩∧a.block<w.heap.size:=by
 unfold World.cell? at h
 cases hb:w.heap[a.block]? with
 |none=>rw [hb] at h;cases h
 |some o=>
  refine ⟨?_,lt_of_heap hb⟩
  rw [hb] at h
  cases o with
  |cells c e f=>
   simp only at h
   split at h
   ·cases h
   ·rename_i hs
    obtain ⟨b,o,s⟩:=a
    cases s with
    |none=>rfl
    |some s=>exact absurd rfl hs
  |_=>cases h
theorem rds_ints {t e:TypeId} {k:IntKind} {fuel:Nat} {v:Value} {x:DataW H×List MemPlace} (ht:P.underlying t=some (.slice e)) (he:P.underlying e=some (.int k)) (hc:P.cellsOf e=1)
  (h:DataW.trod enc P w base spare held fuel t [v]=some x):∃L:List Int,RdS w.heap.size w v (L.map fun z=>Value.int k z)∧(∀z∈L,(Lit.int k z).wf=true)∧L.length≤maxLen:=by
 rcases Go.ChangeShapes.open_ints ht he hc h with ⟨e1,_⟩|⟨a,len,cap,zs,e1,hb,hl,hm,hz,_,hcell,hwf⟩
 ·simp only [List.cons.injEq,and_true] at e1
  subst e1
  exact ⟨[],RdS.nil _ _,fun z hz=>(by cases hz),Nat.zero_le _⟩
 ·simp only [List.cons.injEq,and_true] at e1
  subst e1
  have hle:len≤zs.length:=by rw [hz];split<;>omega
  refine ⟨zs.take len,⟨some a,cap,by rw [List.length_map,List.length_take,Nat.min_eq_left hle],?_⟩,fun z hz=>hwf z (List.mem_of_mem_take hz),by rw [List.length_take,Nat.min_eq_left hle];omega⟩
  by_cases h0:len=0
  ·left;subst h0;simp
  ·right
   have hc0:=hcell 0 oM
   have ea:a.add 0=a:=rfl
   rw [ea] at hc0
   obtain ⟨hs,hlt⟩:=spot_none hc0
   refine ⟨a.block,a.off,by rw [←hs],hlt,fun j u hj=> ?_⟩
   have hjl:j<len:=by
    have:=(List.getElem?_eq_some_iff.1 hj).1
    rw [List.length_map,List.length_take] at this;omega
   have hcj:=hcell j oM
   have e2:a.add j=⟨a.block,a.off+j,none⟩:=by
    unfold Addr.add
    split
    ·rename_i hj0;subst hj0;exact hs
    ·rfl
   rw [e2] at hcj
   rw [hcj]
   rw [List.getElem?_map,List.getElem?_take] at hj
   rw [if_pos hjl,List.getElem?_eq_getElem oM] at hj
   simp only [Option.map_some,Option.some.injEq] at hj
   rw [←hj,List.getD_eq_getElem?_getD,List.getElem?_eq_getElem oM];rfl
end
theorem u64_lists {L:List Int} (h:∀z∈L,(Lit.int .u64 z).wf=true):L.map (fun z=>Value.int .u64 z)=u64L (L.map Int.toNat)∧∀k∈L.map Int.toNat,k<18446744073709551616:=by
 refine ⟨?_,fun k hk=> ?_⟩
 ·rw [u64L,List.map_map]
  refine List.map_congr_left (fun z hz=> ?_)
  have:=bounds_u64 (h z hz)
  show Value.int .u64 z=Value.int .u64 ((z.toNat:Nat):Int)
  rw [Int.toNat_of_nonneg oM]
 ·obtain ⟨z,hz,rfl⟩:=List.mem_map.1 hk
  have:=bounds_u64 (h z hz)
  omega
theorem reachStandard_par:Tryz.f4.params= #[5,34]:=by kernel_rfl
theorem reachStandard_call {H:Type} {enc:TypeId×Value→H} (W:World) (base:Nat) (args:Array Value) (ds gs:List (DataW H)) (before:List MemPlace)
  (hval0:∀(j:Nat) t v,Tryz.f4.params[j]? =some t→args[j]? =some v→Value.okWide prog W .any base t v)
  (hW:DataW.Whole enc prog Tryz.f4.params.toList Rows.reachStandardSpec.vars false W args.toList ds gs before) (hL:laidMetH prog laidL W):
  Calls prog 4 args W fun e W'=>∃v,e= .returned v∧Rows.reachStandardSpec.post enc prog Tryz.f4 false true false false W args v W':=by
 have hval:=hval0
 have hW':=hW
 obtain ⟨p,q,hA0,hV,rfl,hfz,hnd⟩:=hW
 have hA:=hA0
 rw [reachStandard_par] at hA hval
 obtain ⟨v0,v1,d0,d1,p0,p1,rfl,rfl,rfl,h0,h1⟩:=trodAll_two hA
 obtain ⟨rfl,rfl⟩:=trodVars_none hV
 have hG:=glob_of_laid hL
 obtain ⟨kn,rfl,hd0,hp0,w0⟩:=open_int (show prog.underlying 5=some (.int .u8) by kernel_rfl) (hval 0 5 v0 rfl rfl) h0
 have bd0:=bounds_u8 w0
 obtain ⟨nk,rfl⟩:∃n:Nat,kn=(n:Int):=⟨kn.toNat,by omega⟩
 obtain ⟨fu,hf⟩:=h1
 obtain ⟨sa,sn,sc,hsv⟩:=okWide_slice (show prog.underlying 34=some (.slice 41) by kernel_rfl) (hval 1 34 v1 rfl rfl)
 obtain ⟨L,rL,wL,lL⟩:=rds_ints (show prog.underlying 34=some (.slice 41) by kernel_rfl) (show prog.underlying 41=some (.int .u64) by kernel_rfl) (by kernel_rfl) (show DataW.trod enc prog W 0 (fun _=>true) true fu 34 [v1]=some (d1,p1) by rw [hsv] at hf ⊢;exact hf)
 obtain ⟨uL,bL⟩:=u64_lists wL
 rw [uL] at rL
 try simp only [List.append_nil] at hW'
 have hrun:=law_standard hG (k:=nk) oM rL bL (fun v w'=>v= .bool true∧Ext W w') (fun w' he=>⟨rfl,he⟩)
 refine Calls.mono hrun (fun e W' hh=> ?_)
 cases e with
 |returned v=>
  obtain ⟨rfl,he⟩:=hh
  exact ⟨_,rfl,post_ext rfl (by kernel_rfl) (by rw [reachStandard_par];intro t ht;simp only [List.mem_cons,List.not_mem_nil,or_false] at ht;rcases ht with rfl|rfl<;>exact ⟨by kernel_rfl,of_decide_eq_true (by kernel_rfl)⟩) hW' rfl he⟩
 |_=>exact hh.elim
theorem reachStandard_lifted (os:Os) (started:os.Started) (H:Type) (enc:TypeId×Value→H):
  ReturnsInHanded {} Tryz.checked os 4 .any (fun w args=>(Rows.reachStandardSpec.pre enc prog Tryz.f4 [] false w args∧laidMetH prog laidL w)∧sizedMet enc prog Tryz.f4 (OpenSpec.ofChange Rows.reachStandardSpec) false w args)
   (Rows.reachStandardSpec.post enc prog Tryz.f4 false true false false):=
 returnsInHanded_of_change_and (C:=Tryz.checked) (X:=fun w _=>laidMetH prog laidL w) (fun _ _ _ hh h=>h.of_heap hh) Tryz.own started (by kernel_rfl) Tryz.func4
  (ChangeSpec.witness_shaped (enc:=enc) (C:=Tryz.checked) (os:=os) (X:=fun w _=>laidMetH prog laidL w) false (World.doorLaid prog 400 os) #[.int .u8 0,.slice none 0 0] 8 rfl (World.shaped_of_RefB (by kernel_rfl) (by kernel_rfl)) (by kernel_rfl) (by kernel_rfl) (by kernel_rfl) (door_met os _))
  (fun W base args ds gs before hval hW _ _ hL _=>reachStandard_call W base args ds gs before hval hW hL)
theorem reachStandard_c1:(Rows.reachStandardRow.inPlace==prog.inPlace 4)=true:=by kernel_rfl
theorem reachStandard_c2:(Rows.reachStandardRow.unfollowed==prog.unfollowed 4)=true:=by kernel_rfl
theorem reachStandard_c3:(Rows.reachStandardRow.recurses==prog.recurses 4)=true:=by kernel_rfl
theorem reachStandard_c4:(Rows.reachStandardRow.named==prog.varsNamed 4)=true:=by kernel_rfl
theorem reachStandard_closed:joinedFacts prog 4 Tryz.f4 Rows.reachStandardSpec Rows.reachStandardRow=true:=by
 unfold joinedFacts
 rw [reachStandard_c1,reachStandard_c2,reachStandard_c3,reachStandard_c4,rxStops,rxKnobs,Tryz.laidOut]
 kernel_rfl
theorem reachStandard_said:Rows.ReachStandardSaid:=
 OpenClaim.holds_of_wide 4 Tryz.f4 rfl rfl rfl rfl rfl rfl rfl ⟨rfl,rfl,rfl,rfl,rfl⟩ rfl rfl rfl rfl rfl (by kernel_rfl) Tryz.func4 reachStandard_closed
  (of_decide_eq_true (by kernel_rfl)) (by unfold Func.isWrapper;first|(rw [if_pos (by decide+kernel)];kernel_rfl)|(rw [if_neg (by decide+kernel)];exact ⟨rfl,rfl⟩))
  (fun os started H enc _=>reachStandard_lifted os started H enc)
theorem reachStandard_d2:false=Rows.reachStandardRow.goesBy prog:=goes_false noGoes _ rfl
theorem reachStandard_d3:Rows.reachStandardRow.wfByText (OpenSpec.ofChange Rows.reachStandardSpec)=true:=by kernel_rfl
theorem reachStandard_holds:Rows.ReachStandardCardSaid:=
 Claim7.holds_tied_plain_at .later [] [.data,.data] true (true, "b8c559b012efed3466b765f85f03c5343f17a1fdd58ad3dbc17c8907605dfc77") true
  reachStandard_said (fun _ h=>by cases h) reachStandard_d3 (fun _ h=>by cases h) reachStandard_row_tie rfl ⟨rfl,rfl⟩ (by kernel_rfl) rfl
  (fun f fn hf hfn=>by
   obtain rfl:f=4:=Option.some.inj ((show prog.funcNamed "bedrock/bedrocklaw27.ReachStandard" =some 4 by kernel_rfl).symm.trans hf)|>.symm
   obtain rfl:fn=Tryz.f4:=(Option.some.inj (Tryz.func4.symm.trans hfn)).symm
   exact ⟨rxLooks,fun j t ht=>by
    rw [reachStandard_par] at ht
    have hm:t∈ [5,34]:=by simpa using Array.mem_of_getElem? ht
    have hall:([5,34].all fun u=> !prog.wantsStandIn u)=true:=by kernel_rfl
    exact (show prog.wantsStandIn t=false by simpa using List.all_eq_true.1 hall t hm)⟩)
  reachStandard_d2
#print axioms reachStandard_holds
end Go.Proofs.YtjegifbmbianiaaGreatDoor
