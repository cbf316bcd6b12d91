/-
  ArenaApart: for every number of chunks and list of claims the law returns true, and its arguments read as before. Condition: the two listed package variables hold at the call's start what the program's text lays (the card ties them to that text).
-/
import Derived.Test.YtifpinhjpbgnoaaGreatDoorRows
import Derived.Test.YtifpinhjpbgnoaaGreatDoorBq4
import Derived.ProofKit
import Derived.LaidMore
import Derived.OpenShut
import Derived.Stop.Joined
import Derived.Lib.SmallJoins
import Derived.Test.YtifpinhjpbgnoaaGreatDoorBqRowAaA
import Derived.ChangeSlices
import Derived.Deep.Strs
import Derived.Test.YtifpinhjpbgnoaaGreatDoorCards
import Derived.Test.YtifpinhjpbgnoaaGreatDoorTie
namespace Go.Proofs.YtifpinhjpbgnoaaGreatDoor
open Go Go.Sh Go.ChangeShapes Go.WideShapes Go.ChangeAt Go.RowKit Go.Joins
set_option maxRecDepth 100000
set_option linter.unusedVariables false
theorem Tryz.own:ownKnob Tryz.prog.godebug=none:=by kernel_rfl
theorem Tryz.laidOut:laidOutB Tryz.prog=true:=by kernel_rfl
abbrev laidL:List (String×DataW Unit):= [("bedrock/crc.nibbles",Rows.laid_bedrock_crc_nibbles),("bedrock/sizeclass.payload",Rows.laid_bedrock_sizeclass_payload)]
theorem gNib:Tryz.prog.globalNamed "bedrock/crc.nibbles" =some 1:=by kernel_rfl
theorem gPay:Tryz.prog.globalNamed "bedrock/sizeclass.payload" =some 0:=by kernel_rfl
theorem tNib:(Tryz.prog.globals[1]?).map (·.type)=some 217:=by kernel_rfl
theorem tPay:(Tryz.prog.globals[0]?).map (·.type)=some 187:=by kernel_rfl
theorem arr_ints {H:Type} {enc:TypeId×Value→H} {P:Program} {w:World} {base:Nat} {spare:Nat→Bool} {held:Bool} {fuel:Nat} {t e:TypeId} {n:Nat} {k:IntKind} {cs:List Value} {l:List Int} {ps:List MemPlace} (hu:P.underlying t=some (.array n e)) (he:P.underlying e=some (.int k)) (hc:P.cellsOf e=1)
  (h:DataW.trod enc P w base spare held fuel t cs=some (.agg (l.map fun z=> .lit (.int k z)),ps)) (i:Nat) (hi:i<n):∃z,l[i]? =some z∧cs[i]? =some (.int k z):=by
 obtain ⟨xs,m,rfl,hx,hlen,hn,hel⟩:=DataW.trod_array hu h
 have h1:=hel i hi
 have hxi:xs[i]? =some xs[i]:=List.getElem?_eq_getElem (by omega)
 rw [hxi,hc,Nat.mul_one] at h1
 obtain ⟨z,e1,e2,_⟩:=DataW.trod_int he h1
 refine ⟨z,?_,?_⟩
 ·simp only [Prod.mk.injEq,DataW.agg.injEq] at hx
  have h2:(l.map fun z=>(DataW.lit (.int k z):DataW H))[i]? =(xs.map (·.1))[i]? :=by rw [hx.1]
  rw [List.getElem?_map,List.getElem?_map,hxi,e2] at h2
  cases hl:l[i]? with
  |none=>rw [hl] at h2;cases h2
  |some z'=>
   rw [hl] at h2
   simp only [Option.map_some,Option.some.injEq,DataW.lit.injEq,Lit.int.injEq,true_and] at h2
   rw [h2]
 ·have h3:((cs.drop i).take 1)[0]? =some (.int k z):=by rw [e1];rfl
  rw [List.getElem?_take,List.getElem?_drop] at h3
  simpa using h3
theorem glob_of_laid {W:World} (h:laidMetH Tryz.prog laidL W):Glob W:=by
 rw [MakeChecks.laidMetH_plain _ _ _ (by kernel_rfl)] at h
 obtain ⟨ps,⟨g0,t0,cs0,f0,p0,q0,hg0,ht0,hv0,hd0,⟨g1,t1,cs1,f1,p1,q1,hg1,ht1,hv1,hd1,_,_⟩,_⟩,_,_⟩:=h
 obtain rfl:=Option.some.inj (gNib.symm.trans hg0)
 obtain rfl:=Option.some.inj (gPay.symm.trans hg1)
 obtain rfl:=Option.some.inj (tNib.symm.trans ht0)
 obtain rfl:=Option.some.inj (tPay.symm.trans ht1)
 refine ⟨fun i hi=> ?_,fun i hi=> ?_⟩
 ·obtain ⟨z,hz,hc⟩:=arr_ints (l:= [3,7,15,31,60]) (show Tryz.prog.underlying 187=some (.array 5 3) by kernel_rfl) (show Tryz.prog.underlying 3=some (.int .i64) by kernel_rfl) (by kernel_rfl) hd1 i hi
  rw [World.var?_cell hg1 hv1 i]
  have:payN i=z:=by unfold payN;rw [List.getD_eq_getElem?_getD,hz];rfl
  rw [this];simpa using hc
 ·obtain ⟨z,hz,hc⟩:=arr_ints (l:= [0,274646895,549293790,820201905,1098587580,1361435347,1640403810,1905808397,2197175160,2460548119,2722870694,2987750089,3280807620,3553878443,3811616794,4084100981]) (show Tryz.prog.underlying 217=some (.array 16 32) by kernel_rfl) (show Tryz.prog.underlying 32=some (.int .u32) by kernel_rfl) (by kernel_rfl) hd0 i hi
  rw [World.var?_cell hg0 hv0 i]
  have:((nibN i:Nat):Int)=z:=by
   have hq:∀q:Fin 16,([0,274646895,549293790,820201905,1098587580,1361435347,1640403810,1905808397,2197175160,2460548119,2722870694,2987750089,3280807620,3553878443,3811616794,4084100981]:List Int)[q.1]? =some ((nibN q.1:Nat):Int):=by decide
   exact Option.some.inj ((hq ⟨i,hi⟩).symm.trans hz)
  rw [this];simpa using hc
theorem door_met (os:Os) (args:Array Value):laidMetH Tryz.prog laidL ((World.doorLaid Tryz.prog 400 os).forCall (fun _ _=>0) ⟨#[],args,[]⟩).memory:=
 laidMetH_of_parts3 (fuel:=8) (laidMet_of_run' 8 (by kernel_rfl) (by kernel_rfl)) (by kernel_rfl) (by kernel_rfl)
section
variable {H:Type} {enc:TypeId×Value→H}
theorem trodAll_lt {P:Program} {W:World} {ts:List TypeId} {apart:Bool} {vs:List Value} {ds gs:List (DataW H)} {before:List MemPlace} {vars:List String} (hW:DataW.Whole enc P ts vars apart W vs ds gs before):∀x∈before,x.block<W.heap.size:=fun x hx=>by simpa using hW.lt x hx
theorem trodAll_ext {P:Program} (hl:laidOutB P=true) {W W':World} (hb:Ext W W'):∀{ts:List TypeId} {vs:List Value} {ds:List (DataW H)} {ps:List MemPlace},(∀t∈ts,P.readableRec t=true∧t<P.types.size)→DataW.TrodAll enc P W 0 (fun _=>true) true ts vs ds ps→(∀x∈ps,x.block<W.heap.size)→DataW.TrodAll enc P W' 0 (fun b=>decide (b<W.heap.size)) true ts vs ds ps:=by
 intro ts
 induction ts with
 |nil=>intro vs ds ps _ h _;cases vs<;>cases ds<;>first|exact h|exact h.elim
 |cons t ts ih=>
  intro vs ds ps hr h hlt
  cases vs with
  |nil=>exact h.elim
  |cons v vs=>
   cases ds with
   |nil=>exact h.elim
   |cons d ds=>
    obtain ⟨p,q,h0,h1,rfl⟩:=h
    refine ⟨p,q,Below.trod hl (hr t (by simp)).1 (hr t (by simp)).2 h0 hb (fun x hx=>hlt x (by simp [hx])),ih (fun u hu=>hr u (by simp [hu])) h1 (fun x hx=>hlt x (by simp [hx])),rfl⟩
theorem post_ext {f:Func} {s:ChangeSpec} {W W':World} {args:Array Value} {ds:List (DataW H)} {before:List MemPlace} (hv:s.vars= []) (hr:f.resultTypes= #[4]) (hrd:∀t∈f.params.toList,Tryz.prog.readableRec t=true∧t<Tryz.prog.types.size)
  (hW:DataW.Whole enc Tryz.prog f.params.toList s.vars false W args.toList ds [] before) (hs:s.fn H (ds++ [])={results:= [.lit (.bool true)],args:=ds}) (hb:Ext W W'):s.post enc Tryz.prog f false true false false W args (.bool true) W':=by
 have hW':=hW
 obtain ⟨p,q,hA,hV,rfl,hfz,hnd⟩:=hW
 rw [hv] at hV
 have hq:q= []:=hV
 subst hq
 have hlt:=trodAll_lt hW'
 refine ⟨ds,[],p++ [],[],p,[],hW',?_,?_,?_,Below.frame hb _,fun h=>by cases h⟩
 ·rw [hs,hr]
  exact trodAll_mk1 (shut_bool (show Tryz.prog.underlying 4=some .bool by kernel_rfl) true)
 ·rw [hs];exact trodAll_ext Tryz.laidOut hb hrd hA (fun x hx=>hlt x (by simp [hx]))
 ·rw [hs,hv];rfl
end
end Go.Proofs.YtifpinhjpbgnoaaGreatDoor
namespace Go.Proofs.YtifpinhjpbgnoaaGreatDoor
open Go Go.Sh Go.ChangeShapes Go.WideShapes Go.ChangeAt Go.RowKit Go.Joins
set_option maxRecDepth 100000
set_option linter.unusedVariables false
section
variable {H:Type} {enc:TypeId×Value→H} {P:Program} {w:World} {base:Nat} {spare:Nat→Bool} {held:Bool}
theorem spot_none {a:Addr} {v:Value} (h:w.cell? a=some v):a=⟨a.block,a.off,none⟩∧a.block<w.heap.size:=by
 unfold World.cell? at h
 cases hb:w.heap[a.block]? with
 |none=>rw [hb] at h;cases h
 |some o=>
  refine ⟨?_,lt_of_heap hb⟩
  rw [hb] at h
  cases o with
  |cells c e f=>
   simp only at h
   split at h
   ·cases h
   ·rename_i hs
    obtain ⟨b,o,s⟩:=a
    cases s with
    |none=>rfl
    |some s=>exact absurd rfl hs
  |_=>cases h
theorem rds_ints {t e:TypeId} {k:IntKind} {fuel:Nat} {v:Value} {x:DataW H×List MemPlace} (ht:P.underlying t=some (.slice e)) (he:P.underlying e=some (.int k)) (hc:P.cellsOf e=1)
  (h:DataW.trod enc P w base spare held fuel t [v]=some x):∃L:List Int,RdS w.heap.size w v (L.map fun z=>Value.int k z)∧(∀z∈L,(Lit.int k z).wf=true)∧L.length≤maxLen:=by
 rcases Go.ChangeShapes.open_ints ht he hc h with ⟨e1,_⟩|⟨a,len,cap,zs,e1,hb,hl,hm,hz,_,hcell,hwf⟩
 ·simp only [List.cons.injEq,and_true] at e1
  subst e1
  exact ⟨[],RdS.nil _ _,fun z hz=>(by cases hz),Nat.zero_le _⟩
 ·simp only [List.cons.injEq,and_true] at e1
  subst e1
  have hle:len≤zs.length:=by rw [hz];split<;>omega
  refine ⟨zs.take len,⟨some a,cap,by rw [List.length_map,List.length_take,Nat.min_eq_left hle],?_⟩,fun z hz=>hwf z (List.mem_of_mem_take hz),by rw [List.length_take,Nat.min_eq_left hle];omega⟩
  by_cases h0:len=0
  ·left;subst h0;simp
  ·right
   have hc0:=hcell 0 (by omega)
   have ea:a.add 0=a:=rfl
   rw [ea] at hc0
   obtain ⟨hs,hlt⟩:=spot_none hc0
   refine ⟨a.block,a.off,by rw [←hs],hlt,fun j u hj=> ?_⟩
   have hjl:j<len:=by
    have:=(List.getElem?_eq_some_iff.1 hj).1
    rw [List.length_map,List.length_take] at this;omega
   have hcj:=hcell j (by omega)
   have e2:a.add j=⟨a.block,a.off+j,none⟩:=by
    unfold Addr.add
    split
    ·rename_i hj0;subst hj0;exact hs
    ·rfl
   rw [e2] at hcj
   rw [hcj]
   rw [List.getElem?_map,List.getElem?_take] at hj
   rw [if_pos hjl,List.getElem?_eq_getElem (by omega)] at hj
   simp only [Option.map_some,Option.some.injEq] at hj
   rw [←hj,List.getD_eq_getElem?_getD,List.getElem?_eq_getElem (by omega)];rfl
theorem u8_lists {L:List Int} (h:∀z∈L,(Lit.int .u8 z).wf=true):L.map (fun z=>Value.int .u8 z)=u8L (L.map Int.toNat)∧∀k∈L.map Int.toNat,k<256:=by
 refine ⟨?_,fun k hk=> ?_⟩
 ·rw [u8L,List.map_map]
  refine List.map_congr_left (fun z hz=> ?_)
  have:=bounds_u8 (h z hz)
  simp only [Function.comp]
  rw [Int.toNat_of_nonneg (by omega)]
 ·obtain ⟨z,hz,rfl⟩:=List.mem_map.1 hk
  have:=bounds_u8 (h z hz);omega
end
end Go.Proofs.YtifpinhjpbgnoaaGreatDoor
namespace Go.Proofs.YtifpinhjpbgnoaaGreatDoor
open Go Go.Sh Go.ChangeShapes Go.WideShapes Go.ChangeAt Go.RowKit Go.Joins
set_option maxRecDepth 100000
set_option linter.unusedVariables false
theorem arenaApart_par:Tryz.f6.params= #[5,58]:=by kernel_rfl
theorem arenaApart_call {H:Type} {enc:TypeId×Value→H} (W:World) (base:Nat) (args:Array Value) (ds gs:List (DataW H)) (before:List MemPlace)
  (hval0:∀(j:Nat) t v,Tryz.f6.params[j]? =some t→args[j]? =some v→Value.okWide Tryz.prog W .any base t v)
  (hW:DataW.Whole enc Tryz.prog Tryz.f6.params.toList Rows.arenaApartSpec.vars false W args.toList ds gs before) (hL:laidMetH Tryz.prog laidL W):
  Calls Tryz.prog 6 args W fun e W'=>∃v,e= .returned v∧Rows.arenaApartSpec.post enc Tryz.prog Tryz.f6 false true false false W args v W':=by
 have hval:=hval0
 have hW':=hW
 obtain ⟨p,q,hA0,hV,rfl,hfz,hnd⟩:=hW
 have hA:=hA0
 rw [arenaApart_par] at hA hval
 obtain ⟨v0,v1,d0,d1,p0,p1,rfl,rfl,rfl,h0,h1⟩:=trodAll_two hA
 obtain ⟨rfl,rfl⟩:=trodVars_none hV
 have hG:=glob_of_laid hL
 obtain ⟨kn,rfl,hd0,hp0,w0⟩:=open_int (show Tryz.prog.underlying 5=some (.int .u8) by kernel_rfl) (hval 0 5 v0 rfl rfl) h0
 have bd0:=bounds_u8 w0
 obtain ⟨nk,rfl⟩:∃n:Nat,kn=(n:Int):=⟨kn.toNat,by omega⟩
 obtain ⟨sa,sn,sc,hsv⟩:=okWide_slice (show Tryz.prog.underlying 58=some (.slice 5) by kernel_rfl) (hval 1 58 v1 rfl rfl)
 obtain ⟨us,hus,hu8,hln⟩:∃us:List Nat,RdS W.heap.size W v1 (u8L us)∧(∀x∈us,x<256)∧us.length≤maxLen:=by
  obtain ⟨fu,hf⟩:=h1
  rw [hsv] at hf
  rw [hsv]
  obtain ⟨L,rL,wL,lL⟩:=rds_ints (show Tryz.prog.underlying 58=some (.slice 5) by kernel_rfl) (show Tryz.prog.underlying 5=some (.int .u8) by kernel_rfl) (by kernel_rfl) hf
  obtain ⟨uk,bk⟩:=u8_lists wL
  rw [uk] at rL
  exact ⟨L.map Int.toNat,rL,bk,by rw [List.length_map];exact lL⟩
 try simp only [List.append_nil] at hW'
 have hrun:=law_apart hG (nn:=nk) (by omega) hus hu8 hln (fun v w'=>v= .bool true∧Ext W w') (fun w' he=>⟨rfl,he⟩)
 refine Calls.mono hrun (fun e W' hh=> ?_)
 cases e with
 |returned v=>
  obtain ⟨rfl,he⟩:=hh
  exact ⟨_,rfl,post_ext rfl (by kernel_rfl) (by rw [arenaApart_par];intro t ht;simp only [List.mem_cons,List.not_mem_nil,or_false] at ht;rcases ht with rfl|rfl<;>exact ⟨by kernel_rfl,of_decide_eq_true (by kernel_rfl)⟩) hW' rfl he⟩
 |_=>exact hh.elim
theorem arenaApart_lifted (os:Os) (started:os.Started) (H:Type) (enc:TypeId×Value→H):
  ReturnsInHanded {} Tryz.checked os 6 .any (fun w args=>(Rows.arenaApartSpec.pre enc Tryz.prog Tryz.f6 [] false w args∧laidMetH Tryz.prog laidL w)∧sizedMet enc Tryz.prog Tryz.f6 (OpenSpec.ofChange Rows.arenaApartSpec) false w args)
   (Rows.arenaApartSpec.post enc Tryz.prog Tryz.f6 false true false false):=
 returnsInHanded_of_change_and (C:=Tryz.checked) (X:=fun w _=>laidMetH Tryz.prog laidL w) (fun _ _ _ hh h=>h.of_heap hh) Tryz.own started (by kernel_rfl) Tryz.func6
  (ChangeSpec.witness_shaped (enc:=enc) (C:=Tryz.checked) (os:=os) (X:=fun w _=>laidMetH Tryz.prog laidL w) false (World.doorLaid Tryz.prog 400 os) #[.int .u8 0,.slice none 0 0] 8 rfl (World.shaped_of_RefB (by kernel_rfl) (by kernel_rfl)) (by kernel_rfl) (by kernel_rfl) (by kernel_rfl) (door_met os _))
  (fun W base args ds gs before hval hW _ _ hL _=>arenaApart_call W base args ds gs before hval hW hL)
theorem arenaApart_said:Rows.ArenaApartSaid:=
 OpenClaim.holds_of_wide 6 Tryz.f6 rfl rfl rfl rfl rfl rfl rfl ⟨rfl,rfl,rfl,rfl,rfl⟩ rfl rfl rfl rfl rfl (by kernel_rfl) Tryz.func6 (by kernel_rfl)
  (of_decide_eq_true (by kernel_rfl)) (by unfold Func.isWrapper;first|(rw [if_pos (by decide+kernel)];kernel_rfl)|(rw [if_neg (by decide+kernel)];exact ⟨rfl,rfl⟩))
  (fun os started H enc _=>arenaApart_lifted os started H enc)
theorem arenaApart_holds:Rows.ArenaApartCardSaid:=
 Claim7.holds_tied_plain_at .later [] [.data,.data] true (true, "b0bc05cfab4b2ea8c46645300665937a78e8c874cb8405a5269202337f9813dd") false
  arenaApart_said (fun _ h=>by cases h) (by kernel_rfl) (fun _ h=>by cases h) arenaApart_row_tie rfl ⟨rfl,rfl⟩ (by kernel_rfl) rfl
  (fun f fn hf hfn=>by
   obtain rfl:f=6:=Option.some.inj ((show Tryz.prog.funcNamed "bedrock/bedrocklaw22.ArenaApart" =some 6 by kernel_rfl).symm.trans hf)|>.symm
   obtain rfl:fn=Tryz.f6:=(Option.some.inj (Tryz.func6.symm.trans hfn)).symm
   exact ⟨by kernel_rfl,fun j t ht=>by
    rw [arenaApart_par] at ht
    have hm:t∈ [5,58]:=by simpa using Array.mem_of_getElem? ht
    have hall:([5,58].all fun u=> !Tryz.prog.wantsStandIn u)=true:=by kernel_rfl
    exact (show Tryz.prog.wantsStandIn t=false by simpa using List.all_eq_true.1 hall t hm)⟩)
  (by kernel_rfl)
#print axioms arenaApart_holds
end Go.Proofs.YtifpinhjpbgnoaaGreatDoor
