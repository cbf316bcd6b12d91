/-
  AllocBack: for every number of words, place and other thread the law returns true, and its arguments read as before. Condition: the two listed package variables hold at the call's start what the program's text lays (the card ties them to that text).
-/
import Derived.Test.YtmpehclnnjgmcaaGreatDoorRows
import Derived.Test.YtmpehclnnjgmcaaGreatDoorCb3
import Derived.ProofKit
import Derived.LaidMore
import Derived.OpenShut
import Derived.Stop.Joined
import Derived.Lib.SmallJoins
import Derived.Test.YtmpehclnnjgmcaaGreatDoorCb6
import Derived.Test.YtmpehclnnjgmcaaGreatDoorCards
import Derived.Test.YtmpehclnnjgmcaaGreatDoorTie
set_option linter.unusedVariables false
set_option maxRecDepth 100000
open Go.Proofs.Tryz (prog)
namespace Go.Proofs.YtmpehclnnjgmcaaGreatDoor
open Go Go.Sh Go.ChangeShapes Go.WideShapes Go.ChangeAt Go.RowKit Go.Joins
theorem Tryz.own:ownKnob prog.godebug=none:=by kernel_rfl
theorem Tryz.laidOut:laidOutB prog=true:=by kernel_rfl
abbrev laidL:List (String×DataW Unit):= [("bedrock/crc.nibbles",Rows.laid_bedrock_crc_nibbles),("bedrock/sizeclass.payload",Rows.laid_bedrock_sizeclass_payload)]
theorem gNib:prog.globalNamed "bedrock/crc.nibbles" =some 1:=by kernel_rfl
theorem gPay:prog.globalNamed "bedrock/sizeclass.payload" =some 0:=by kernel_rfl
theorem tNib:(prog.globals[1]?).map (·.type)=some 257:=by kernel_rfl
theorem tPay:(prog.globals[0]?).map (·.type)=some 182:=by kernel_rfl
theorem arr_ints {H:Type} {enc:TypeId×Value→H} {P:Program} {w:World} {base:Nat} {spare:Nat→Bool} {held:Bool} {fuel:Nat} {t e:TypeId} {n:Nat} {k:IntKind} {cs:List Value} {l:List Int} {ps:List MemPlace} (hu:P.underlying t=some (.array n e)) (he:P.underlying e=some (.int k)) (hc:P.cellsOf e=1)
  (h:DataW.trod enc P w base spare held fuel t cs=some (.agg (l.map fun z=> .lit (.int k z)),ps)) (i:Nat) (hi:i<n):∃z,l[i]? =some z∧cs[i]? =some (.int k z):=by
 obtain ⟨xs,m,rfl,hx,hlen,hn,hel⟩:=DataW.trod_array hu h
 have h1:=hel i hi
 have hxi:xs[i]? =some xs[i]:=List.getElem?_eq_getElem oM
 rw [hxi,hc,Nat.mul_one] at h1
 obtain ⟨z,e1,e2,_⟩:=DataW.trod_int he h1
 refine ⟨z,?_,?_⟩
 ·simp only [Prod.mk.injEq,DataW.agg.injEq] at hx
  have h2:(l.map fun z=>(DataW.lit (.int k z):DataW H))[i]? =(xs.map (·.1))[i]? :=by rw [hx.1]
  rw [List.getElem?_map,List.getElem?_map,hxi,e2] at h2
  cases hl:l[i]? with
  |none=>rw [hl] at h2;cases h2
  |some z'=>
   rw [hl] at h2
   simp only [Option.map_some,Option.some.injEq,DataW.lit.injEq,Lit.int.injEq,true_and] at h2
   rw [h2]
 ·have h3:((cs.drop i).take 1)[0]? =some (.int k z):=by rw [e1];rfl
  rw [List.getElem?_take,List.getElem?_drop] at h3
  simpa using h3
theorem glob_of_laid {W:World} (h:laidMetH prog laidL W):Glob W:=by
 rw [MakeChecks.laidMetH_plain _ _ _ (by kernel_rfl)] at h
 obtain ⟨ps,⟨g0,t0,cs0,f0,p0,q0,hg0,ht0,hv0,hd0,⟨g1,t1,cs1,f1,p1,q1,hg1,ht1,hv1,hd1,_,_⟩,_⟩,_,_⟩:=h
 obtain rfl:=Option.some.inj (gNib.symm.trans hg0)
 obtain rfl:=Option.some.inj (gPay.symm.trans hg1)
 obtain rfl:=Option.some.inj (tNib.symm.trans ht0)
 obtain rfl:=Option.some.inj (tPay.symm.trans ht1)
 refine ⟨fun i hi=> ?_,fun i hi=> ?_⟩
 ·obtain ⟨z,hz,hc⟩:=arr_ints (l:= [3,7,15,31,60]) (show prog.underlying 182=some (.array 5 3) by kernel_rfl) (show prog.underlying 3=some (.int .i64) by kernel_rfl) (by kernel_rfl) hd1 i hi
  rw [World.var?_cell hg1 hv1 i]
  have:payN i=z:=by unfold payN;rw [List.getD_eq_getElem?_getD,hz];rfl
  rw [this];simpa using hc
 ·obtain ⟨z,hz,hc⟩:=arr_ints (l:= [0,274646895,549293790,820201905,1098587580,1361435347,1640403810,1905808397,2197175160,2460548119,2722870694,2987750089,3280807620,3553878443,3811616794,4084100981]) (show prog.underlying 257=some (.array 16 126) by kernel_rfl) (show prog.underlying 126=some (.int .u32) by kernel_rfl) (by kernel_rfl) hd0 i hi
  rw [World.var?_cell hg0 hv0 i]
  have:((nibN i:Nat):Int)=z:=by
   have hq:∀q:Fin 16,([0,274646895,549293790,820201905,1098587580,1361435347,1640403810,1905808397,2197175160,2460548119,2722870694,2987750089,3280807620,3553878443,3811616794,4084100981]:List Int)[q.1]? =some ((nibN q.1:Nat):Int):=by decide
   exact Option.some.inj ((hq ⟨i,hi⟩).symm.trans hz)
  rw [this];simpa using hc
theorem door_met (os:Os) (args:Array Value):laidMetH prog laidL ((World.doorLaid prog 400 os).forCall (fun _ _=>0) ⟨#[],args,[]⟩).memory:=
 laidMetH_of_parts3 (fuel:=8) (laidMet_of_run' 8 (by kernel_rfl) (by kernel_rfl)) (by kernel_rfl) (by kernel_rfl)
section
variable {H:Type} {enc:TypeId×Value→H}
theorem trodAll_lt {P:Program} {W:World} {ts:List TypeId} {apart:Bool} {vs:List Value} {ds gs:List (DataW H)} {before:List MemPlace} {vars:List String} (hW:DataW.Whole enc P ts vars apart W vs ds gs before):∀x∈before,x.block<W.heap.size:=fun x hx=>by simpa using hW.lt x hx
theorem trodAll_ext {P:Program} (hl:laidOutB P=true) {W W':World} (hb:Ext W W'):∀{ts:List TypeId} {vs:List Value} {ds:List (DataW H)} {ps:List MemPlace},(∀t∈ts,P.readableRec t=true∧t<P.types.size)→DataW.TrodAll enc P W 0 (fun _=>true) true ts vs ds ps→(∀x∈ps,x.block<W.heap.size)→DataW.TrodAll enc P W' 0 (fun b=>decide (b<W.heap.size)) true ts vs ds ps:=by
 intro ts
 induction ts with
 |nil=>intro vs ds ps _ h _;cases vs<;>cases ds<;>first|exact h|exact h.elim
 |cons t ts ih=>
  intro vs ds ps hr h hlt
  cases vs with
  |nil=>exact h.elim
  |cons v vs=>
   cases ds with
   |nil=>exact h.elim
   |cons d ds=>
    obtain ⟨p,q,h0,h1,rfl⟩:=h
    refine ⟨p,q,Below.trod hl (hr t (by simp)).1 (hr t (by simp)).2 h0 hb (fun x hx=>hlt x (by simp [hx])),ih (fun u hu=>hr u (by simp [hu])) h1 (fun x hx=>hlt x (by simp [hx])),rfl⟩
theorem post_ext {f:Func} {s:ChangeSpec} {W W':World} {args:Array Value} {ds:List (DataW H)} {before:List MemPlace} (hv:s.vars= []) (hr:f.resultTypes= #[4]) (hrd:∀t∈f.params.toList,prog.readableRec t=true∧t<prog.types.size)
  (hW:DataW.Whole enc prog f.params.toList s.vars false W args.toList ds [] before) (hs:s.fn H (ds++ [])={results:= [.lit (.bool true)],args:=ds}) (hb:Ext W W'):s.post enc prog f false true false false W args (.bool true) W':=by
 have hW':=hW
 obtain ⟨p,q,hA,hV,rfl,hfz,hnd⟩:=hW
 rw [hv] at hV
 have hq:q= []:=hV
 subst hq
 have hlt:=trodAll_lt hW'
 refine ⟨ds,[],p++ [],[],p,[],hW',?_,?_,?_,Below.frame hb _,fun h=>by cases h⟩
 ·rw [hs,hr]
  exact trodAll_mk1 (shut_bool (show prog.underlying 4=some .bool by kernel_rfl) true)
 ·rw [hs];exact trodAll_ext Tryz.laidOut hb hrd hA (fun x hx=>hlt x (by simp [hx]))
 ·rw [hs,hv];rfl
end
theorem allocBack_par:Tryz.f3.params= #[5,5,5]:=by kernel_rfl
theorem allocBack_call {H:Type} {enc:TypeId×Value→H} (W:World) (base:Nat) (args:Array Value) (ds gs:List (DataW H)) (before:List MemPlace)
  (hval0:∀(j:Nat) t v,Tryz.f3.params[j]? =some t→args[j]? =some v→Value.okWide prog W .any base t v)
  (hW:DataW.Whole enc prog Tryz.f3.params.toList Rows.allocBackSpec.vars false W args.toList ds gs before) (hL:laidMetH prog laidL W):
  Calls prog 3 args W fun e W'=>∃v,e= .returned v∧Rows.allocBackSpec.post enc prog Tryz.f3 false true false false W args v W':=by
 have hval:=hval0
 have hW':=hW
 obtain ⟨p,q,hA0,hV,rfl,hfz,hnd⟩:=hW
 have hA:=hA0
 rw [allocBack_par] at hA hval
 obtain ⟨v0,v1,v2,d0,d1,d2,p0,p1,p2,rfl,rfl,rfl,h0,h1,h2⟩:=trodAll_three hA
 obtain ⟨rfl,rfl⟩:=trodVars_none hV
 have hG:=glob_of_laid hL
 obtain ⟨kc,rfl,hd0,hp0,w0⟩:=open_int (show prog.underlying 5=some (.int .u8) by kernel_rfl) (hval 0 5 v0 rfl rfl) h0
 have bd0:=bounds_u8 w0
 obtain ⟨nc,rfl⟩:∃n:Nat,kc=(n:Int):=⟨kc.toNat,by omega⟩
 obtain ⟨ka,rfl,hd1,hp1,w1⟩:=open_int (show prog.underlying 5=some (.int .u8) by kernel_rfl) (hval 1 5 v1 rfl rfl) h1
 have bd1:=bounds_u8 w1
 obtain ⟨na,rfl⟩:∃n:Nat,ka=(n:Int):=⟨ka.toNat,by omega⟩
 obtain ⟨kb,rfl,hd2,hp2,w2⟩:=open_int (show prog.underlying 5=some (.int .u8) by kernel_rfl) (hval 2 5 v2 rfl rfl) h2
 have bd2:=bounds_u8 w2
 obtain ⟨nb,rfl⟩:∃n:Nat,kb=(n:Int):=⟨kb.toNat,by omega⟩
 try simp only [List.append_nil] at hW'
 have hrun:=law_back hG (c:=nc) (a:=na) (b:=nb) oM oM oM (fun v w'=>v= .bool true∧Ext W w') (fun w' he=>⟨rfl,he⟩)
 refine Calls.mono hrun (fun e W' hh=> ?_)
 cases e with
 |returned v=>
  obtain ⟨rfl,he⟩:=hh
  exact ⟨_,rfl,post_ext rfl (by kernel_rfl) (by rw [allocBack_par];intro t ht;simp only [List.mem_cons,List.not_mem_nil,or_false] at ht;rcases ht with rfl|rfl|rfl<;>exact ⟨by kernel_rfl,of_decide_eq_true (by kernel_rfl)⟩) hW' rfl he⟩
 |_=>exact hh.elim
theorem allocBack_lifted (os:Os) (started:os.Started) (H:Type) (enc:TypeId×Value→H):
  ReturnsInHanded {} Tryz.checked os 3 .any (fun w args=>(Rows.allocBackSpec.pre enc prog Tryz.f3 [] false w args∧laidMetH prog laidL w)∧sizedMet enc prog Tryz.f3 (OpenSpec.ofChange Rows.allocBackSpec) false w args)
   (Rows.allocBackSpec.post enc prog Tryz.f3 false true false false):=
 returnsInHanded_of_change_and (C:=Tryz.checked) (X:=fun w _=>laidMetH prog laidL w) (fun _ _ _ hh h=>h.of_heap hh) Tryz.own started (by kernel_rfl) Tryz.func3
  (ChangeSpec.witness_shaped (enc:=enc) (C:=Tryz.checked) (os:=os) (X:=fun w _=>laidMetH prog laidL w) false (World.doorLaid prog 400 os) #[.int .u8 0,.int .u8 0,.int .u8 0] 8 rfl (World.shaped_of_RefB (by kernel_rfl) (by kernel_rfl)) (by kernel_rfl) (by kernel_rfl) (by kernel_rfl) (door_met os _))
  (fun W base args ds gs before hval hW _ _ hL _=>allocBack_call W base args ds gs before hval hW hL)
theorem allocBack_said:Rows.AllocBackSaid:=
 OpenClaim.holds_of_wide 3 Tryz.f3 rfl rfl rfl rfl rfl rfl rfl ⟨rfl,rfl,rfl,rfl,rfl⟩ rfl rfl rfl rfl rfl (by kernel_rfl) Tryz.func3 (by kernel_rfl)
  (of_decide_eq_true (by kernel_rfl)) (by unfold Func.isWrapper;first|(rw [if_pos (by decide+kernel)];kernel_rfl)|(rw [if_neg (by decide+kernel)];exact ⟨rfl,rfl⟩))
  (fun os started H enc _=>allocBack_lifted os started H enc)
theorem allocBack_holds:Rows.AllocBackCardSaid:=
 Claim7.holds_tied_plain_at .later [] [.data,.data] true (true, "819cb7b99e762ee3c5d46c44398008695f54e51fb987793a2b1b8745f578d1a3") false
  allocBack_said (fun _ h=>by cases h) (by kernel_rfl) (fun _ h=>by cases h) allocBack_row_tie rfl ⟨rfl,rfl⟩ (by kernel_rfl) rfl
  (fun f fn hf hfn=>by
   obtain rfl:f=3:=Option.some.inj ((show prog.funcNamed "bedrock/bedrocklaw23.AllocBack" =some 3 by kernel_rfl).symm.trans hf)|>.symm
   obtain rfl:fn=Tryz.f3:=(Option.some.inj (Tryz.func3.symm.trans hfn)).symm
   exact ⟨by kernel_rfl,fun j t ht=>by
    rw [allocBack_par] at ht
    have hm:t∈ [5,5,5]:=by simpa using Array.mem_of_getElem? ht
    have hall:([5,5,5].all fun u=> !prog.wantsStandIn u)=true:=by kernel_rfl
    exact (show prog.wantsStandIn t=false by simpa using List.all_eq_true.1 hall t hm)⟩)
  (by kernel_rfl)
#print axioms allocBack_holds
end Go.Proofs.YtmpehclnnjgmcaaGreatDoor
