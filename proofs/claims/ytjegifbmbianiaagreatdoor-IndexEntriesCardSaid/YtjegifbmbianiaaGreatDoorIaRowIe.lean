/-
  IndexEntries: for every argument the law returns true, and its arguments read as before. Condition: the four listed package variables hold at the call's start what the program's text lays (the card ties them to that text).
-/
import Derived.Test.YtjegifbmbianiaaGreatDoorRows
import Derived.Test.YtjegifbmbianiaaGreatDoorIa3
import Derived.ProofKit
import Derived.LaidMore
import Derived.OpenShut
import Derived.Stop.Joined
import Derived.Lib.SmallJoins
import Derived.Test.YtjegifbmbianiaaGreatDoorIa4
import Derived.Test.YtjegifbmbianiaaGreatDoorIa5
import Derived.Lib.LaidU8T
import Derived.Lay
import Derived.Test.YtjegifbmbianiaaGreatDoorIaRowIeA
import Derived.Test.YtjegifbmbianiaaGreatDoorCards
import Derived.Test.YtjegifbmbianiaaGreatDoorTie
set_option linter.unusedVariables false
set_option maxRecDepth 100000
open Go.Proofs.Tryz (prog)
namespace Go.Proofs.YtjegifbmbianiaaGreatDoor
open Go Go.Sh Go.ChangeShapes Go.WideShapes Go.ChangeAt Go.RowKit Go.Joins
theorem Tryz.own:ownKnob prog.godebug=none:=by kernel_rfl
theorem Tryz.laidOut:laidOutB prog=true:=by kernel_rfl
theorem gNib:prog.globalNamed "bedrock/crc.nibbles" =some 4:=by kernel_rfl
theorem gPay:prog.globalNamed "bedrock/sizeclass.payload" =some 1:=by kernel_rfl
theorem tNib:(prog.globals[4]?).map (·.type)=some 479:=by kernel_rfl
theorem tPay:(prog.globals[1]?).map (·.type)=some 350:=by kernel_rfl
theorem arr_ints {H:Type} {enc:TypeId×Value→H} {P:Program} {w:World} {base:Nat} {spare:Nat→Bool} {held:Bool} {fuel:Nat} {t e:TypeId} {n:Nat} {k:IntKind} {cs:List Value} {l:List Int} {ps:List MemPlace} (hu:P.underlying t=some (.array n e)) (he:P.underlying e=some (.int k)) (hc:P.cellsOf e=1)
  (h:DataW.trod enc P w base spare held fuel t cs=some (.agg (l.map fun z=> .lit (.int k z)),ps)) (i:Nat) (hi:i<n):∃z,l[i]? =some z∧cs[i]? =some (.int k z):=by
 obtain ⟨xs,m,rfl,hx,hlen,hn,hel⟩:=DataW.trod_array hu h
 have h1:=hel i hi
 have hxi:xs[i]? =some xs[i]:=List.getElem?_eq_getElem oM
 rw [hxi,hc,Nat.mul_one] at h1
 obtain ⟨z,e1,e2,_⟩:=DataW.trod_int he h1
 refine ⟨z,?_,?_⟩
 ·simp only [Prod.mk.injEq,DataW.agg.injEq] at hx
  have h2:(l.map fun z=>(DataW.lit (.int k z):DataW H))[i]? =(xs.map (·.1))[i]? :=by rw [hx.1]
  rw [List.getElem?_map,List.getElem?_map,hxi,e2] at h2
  cases hl:l[i]? with
  |none=>rw [hl] at h2;cases h2
  |some z'=>
   rw [hl] at h2
   simp only [Option.map_some,Option.some.injEq,DataW.lit.injEq,Lit.int.injEq,true_and] at h2
   rw [h2]
 ·have h3:((cs.drop i).take 1)[0]? =some (.int k z):=by rw [e1];rfl
  rw [List.getElem?_take,List.getElem?_drop] at h3
  simpa using h3
section
variable {H:Type} {enc:TypeId×Value→H}
theorem trodAll_lt {P:Program} {W:World} {ts:List TypeId} {apart:Bool} {vs:List Value} {ds gs:List (DataW H)} {before:List MemPlace} {vars:List String} (hW:DataW.Whole enc P ts vars apart W vs ds gs before):∀x∈before,x.block<W.heap.size:=fun x hx=>by simpa using hW.lt x hx
theorem trodAll_ext {P:Program} (hl:laidOutB P=true) {W W':World} (hb:Ext W W'):∀{ts:List TypeId} {vs:List Value} {ds:List (DataW H)} {ps:List MemPlace},(∀t∈ts,P.readableRec t=true∧t<P.types.size)→DataW.TrodAll enc P W 0 (fun _=>true) true ts vs ds ps→(∀x∈ps,x.block<W.heap.size)→DataW.TrodAll enc P W' 0 (fun b=>decide (b<W.heap.size)) true ts vs ds ps:=by
 intro ts
 induction ts with
 |nil=>intro vs ds ps _ h _;cases vs<;>cases ds<;>first|exact h|exact h.elim
 |cons t ts ih=>
  intro vs ds ps hr h hlt
  cases vs with
  |nil=>exact h.elim
  |cons v vs=>
   cases ds with
   |nil=>exact h.elim
   |cons d ds=>
    obtain ⟨p,q,h0,h1,rfl⟩:=h
    refine ⟨p,q,Below.trod hl (hr t (by simp)).1 (hr t (by simp)).2 h0 hb (fun x hx=>hlt x (by simp [hx])),ih (fun u hu=>hr u (by simp [hu])) h1 (fun x hx=>hlt x (by simp [hx])),rfl⟩
theorem post_ext {f:Func} {s:ChangeSpec} {W W':World} {args:Array Value} {ds:List (DataW H)} {before:List MemPlace} (hv:s.vars= []) (hr:f.resultTypes= #[4]) (hrd:∀t∈f.params.toList,prog.readableRec t=true∧t<prog.types.size)
  (hW:DataW.Whole enc prog f.params.toList s.vars false W args.toList ds [] before) (hs:s.fn H (ds++ [])={results:= [.lit (.bool true)],args:=ds}) (hb:Ext W W'):s.post enc prog f false true false false W args (.bool true) W':=by
 have hW':=hW
 obtain ⟨p,q,hA,hV,rfl,hfz,hnd⟩:=hW
 rw [hv] at hV
 have hq:q= []:=hV
 subst hq
 have hlt:=trodAll_lt hW'
 refine ⟨ds,[],p++ [],[],p,[],hW',?_,?_,?_,Below.frame hb _,fun h=>by cases h⟩
 ·rw [hs,hr]
  exact trodAll_mk1 (shut_bool (show prog.underlying 4=some .bool by kernel_rfl) true)
 ·rw [hs];exact trodAll_ext Tryz.laidOut hb hrd hA (fun x hx=>hlt x (by simp [hx]))
 ·rw [hs,hv];rfl
end
end Go.Proofs.YtjegifbmbianiaaGreatDoor
namespace Go.Proofs.YtjegifbmbianiaaGreatDoor
open Go Go.Sh Go.ChangeShapes Go.WideShapes Go.ChangeAt Go.RowKit Go.Joins Go.Utp
theorem wf_u8 {n:Int} (h:(Lit.int .u8 n).wf=true):0≤n∧n<256:=by
 have:=bounds_u8 h
 omega
theorem wf_u32 {n:Int} (h:(Lit.int .u32 n).wf=true):0≤n∧n<4294967296:=by
 simp [Lit.wf,IntKind.min,IntKind.max,IntKind.signed,IntKind.bits] at h
 omega
theorem wf_i64 {n:Int} (h:(Lit.int .i64 n).wf=true): -9223372036854775808≤n∧n≤9223372036854775807:=by
 simp [Lit.wf,IntKind.min,IntKind.max,IntKind.signed,IntKind.bits] at h
 omega
theorem list5 {α:Type} {l:List α} (h:l.length=5):∃a b c d e,l= [a,b,c,d,e]:=by
 match l,h with
 | [a,b,c,d,e],_=>exact ⟨a,b,c,d,e,rfl⟩
abbrev laidL4:List (String×DataW Unit):= [("bedrock/crc.nibbles",Rows.laid_bedrock_crc_nibbles),("bedrock/sizeclass.payload",Rows.laid_bedrock_sizeclass_payload),("unicode/utf8.acceptRanges",Rows.laid_unicode_utf8_acceptRanges),("unicode/utf8.first",Rows.laid_unicode_utf8_first)]
theorem acc_eq:(Rows.laid_unicode_utf8_acceptRanges:DataW Unit)=Lib.acceptData:=by kernel_rfl
theorem first_eq:(Rows.laid_unicode_utf8_first:DataW Unit)=Lib.firstData:=by kernel_rfl
theorem glob4 {W:World} (h:laidMetH prog laidL4 W):Glob W∧Lib.Utf8Tabs 2 3 W:=by
 rw [MakeChecks.laidMetH_plain _ _ _ (by kernel_rfl)] at h
 obtain ⟨g0,t0,cs0,f0,p0,hg0,ht0,hv0,hd0⟩:=Go.Lib.laidMet.reads h (n:= "bedrock/crc.nibbles") (d:=Rows.laid_bedrock_crc_nibbles) (by simp)
 obtain ⟨g1,t1,cs1,f1,p1,hg1,ht1,hv1,hd1⟩:=Go.Lib.laidMet.reads h (n:= "bedrock/sizeclass.payload") (d:=Rows.laid_bedrock_sizeclass_payload) (by simp)
 have hA:=Go.Lib.laidMet.reads h (n:= "unicode/utf8.acceptRanges") (d:=Rows.laid_unicode_utf8_acceptRanges) (by simp)
 have hF:=Go.Lib.laidMet.reads h (n:= "unicode/utf8.first") (d:=Rows.laid_unicode_utf8_first) (by simp)
 rw [acc_eq] at hA
 rw [first_eq] at hF
 refine ⟨?_,utf8Tabs_of_readsT (U8Types.of196 vLay) ⟨by kernel_rfl,by kernel_rfl,by kernel_rfl,by kernel_rfl,by kernel_rfl,by kernel_rfl,by kernel_rfl⟩ hF hA⟩
 obtain rfl:=Option.some.inj (gNib.symm.trans hg0)
 obtain rfl:=Option.some.inj (gPay.symm.trans hg1)
 obtain rfl:=Option.some.inj (tNib.symm.trans ht0)
 obtain rfl:=Option.some.inj (tPay.symm.trans ht1)
 refine ⟨fun i hi=> ?_,fun i hi=> ?_⟩
 ·obtain ⟨z,hz,hc⟩:=arr_ints (l:= [3,7,15,31,60]) (show prog.underlying 350=some (.array 5 3) by kernel_rfl) (show prog.underlying 3=some (.int .i64) by kernel_rfl) (by kernel_rfl) hd1 i hi
  rw [World.var?_cell hg1 hv1 i]
  have:payN i=z:=by unfold payN;rw [List.getD_eq_getElem?_getD,hz];rfl
  rw [this];simpa using hc
 ·obtain ⟨z,hz,hc⟩:=arr_ints (l:= [0,274646895,549293790,820201905,1098587580,1361435347,1640403810,1905808397,2197175160,2460548119,2722870694,2987750089,3280807620,3553878443,3811616794,4084100981]) (show prog.underlying 479=some (.array 16 40) by kernel_rfl) (show prog.underlying 40=some (.int .u32) by kernel_rfl) (by kernel_rfl) hd0 i hi
  rw [World.var?_cell hg0 hv0 i]
  have:((nibN i:Nat):Int)=z:=by
   have hq:∀q:Fin 16,([0,274646895,549293790,820201905,1098587580,1361435347,1640403810,1905808397,2197175160,2460548119,2722870694,2987750089,3280807620,3553878443,3811616794,4084100981]:List Int)[q.1]? =some ((nibN q.1:Nat):Int):=by decide
   exact Option.some.inj ((hq ⟨i,hi⟩).symm.trans hz)
  rw [this];simpa using hc
theorem door4 (os:Os) (args:Array Value):laidMetH prog laidL4 ((World.laidAll prog os laidL4).forCall (fun _ _=>0) ⟨#[],args,[]⟩).memory:=by
 rw [MakeChecks.laidMetH_plain _ _ _ (by kernel_rfl)]
 exact laidMet_laidAll _ (by kernel_rfl) (by kernel_rfl)
section
variable {H:Type} {enc:TypeId×Value→H} {w:World} {base:Nat} {spare:Nat→Bool} {held:Bool} {r:Reach} {b0:Nat}
theorem val_trod {fuel:Nat} {x:DataW H×List MemPlace} {cs:List Value} (h:DataW.trod enc prog w base spare held fuel 39 cs=some x) (hl:cs.length=5):∃v:Vl,cs=v.cs∧v.ok:=by
 obtain ⟨xs,n,_,_,_,hxs,hf⟩:=DataW.trod_struct Tryz.underlying39 h
 obtain ⟨s0,s1,s2,s3,s4,rfl⟩:=list5 hl
 match xs,hxs with
 | [y0,y1,y2,y3,y4],_=>
  have t0:=hf 0 _ rfl;have t1:=hf 1 _ rfl;have t2:=hf 2 _ rfl;have t3:=hf 3 _ rfl;have t4:=hf 4 _ rfl
  obtain ⟨z0,e0,_,w0⟩:=DataW.trod_int (show prog.underlying 37=some (.int .u8) by kernel_rfl) (show DataW.trod enc prog w base spare held n 37 [s0]=some y0 from t0)
  obtain ⟨z1,e1,_⟩:=DataW.trod_bool (show prog.underlying 4=some .bool by kernel_rfl) (show DataW.trod enc prog w base spare held n 4 [s1]=some y1 from t1)
  obtain ⟨z2,e2,_,w2⟩:=DataW.trod_int (show prog.underlying 2=some (.int .i64) by kernel_rfl) (show DataW.trod enc prog w base spare held n 2 [s2]=some y2 from t2)
  obtain ⟨z3,e3,_,w3⟩:=DataW.trod_string (show prog.underlying 9=some .string by kernel_rfl) (show DataW.trod enc prog w base spare held n 9 [s3]=some y3 from t3)
  obtain ⟨z4,e4,_⟩:=DataW.trod_bool (show prog.underlying 4=some .bool by kernel_rfl) (show DataW.trod enc prog w base spare held n 4 [s4]=some y4 from t4)
  simp only [List.cons.injEq,and_true] at e0 e1 e2 e3 e4
  subst e0;subst e1;subst e2;subst e3;subst e4
  have b0:=wf_u8 w0
  obtain ⟨m,rfl⟩:∃m:Nat,z0=(m:Int):=⟨z0.toNat,by omega⟩
  exact ⟨⟨m,z1,z2,z3,z4⟩,rfl,(show m<256 by omega),wf_i64 w2,w3⟩
theorem open_val {v:Value} {d:DataW H} {p:List MemPlace} (hv:Value.okWide prog w r b0 39 v) (h:DataW.Trod enc prog w base spare held 39 v d p):∃x:Vl,v=vV x∧x.ok:=by
 obtain ⟨cs,rfl,hsz⟩:=okWide_struct Tryz.underlying39 hv
 obtain ⟨fuel,hf⟩:=h
 obtain ⟨x,e,ho⟩:=val_trod hf (hsz.trans (by kernel_rfl))
 exact ⟨x,congrArg Value.agg (Array.ext' e),ho⟩
end
theorem indexEntries_par:Tryz.f5.params= #[3,39,40]:=by kernel_rfl
theorem indexEntries_call {H:Type} {enc:TypeId×Value→H} (W:World) (base:Nat) (args:Array Value) (ds gs:List (DataW H)) (before:List MemPlace)
  (hval0:∀(j:Nat) t v,Tryz.f5.params[j]? =some t→args[j]? =some v→Value.okWide prog W .any base t v)
  (hW:DataW.Whole enc prog Tryz.f5.params.toList Rows.indexEntriesSpec.vars false W args.toList ds gs before) (hL:laidMetH prog laidL4 W):
  Calls prog 5 args W fun e W'=>∃v,e= .returned v∧Rows.indexEntriesSpec.post enc prog Tryz.f5 false true false false W args v W':=by
 have hval:=hval0
 have hW':=hW
 obtain ⟨p,q,hA0,hV,rfl,hfz,hnd⟩:=hW
 have hA:=hA0
 rw [indexEntries_par] at hA hval
 obtain ⟨v0,v1,v2,d0,d1,d2,p0,p1,p2,rfl,rfl,rfl,h0,h1,h2⟩:=trodAll_three hA
 obtain ⟨rfl,rfl⟩:=trodVars_none hV
 obtain ⟨hG,hT⟩:=glob4 hL
 obtain ⟨kn0,rfl,hd0,hp0,w0⟩:=open_int (show prog.underlying 3=some (.int .i64) by kernel_rfl) (hval 0 3 v0 rfl rfl) h0
 obtain ⟨x1,rfl,ok1⟩:=open_val (hval 1 39 v1 rfl rfl) h1
 obtain ⟨kn2,rfl,hd2,hp2,w2⟩:=open_int (show prog.underlying 40=some (.int .u32) by kernel_rfl) (hval 2 40 v2 rfl rfl) h2
 have bd2:=wf_u32 w2
 obtain ⟨nk2,rfl⟩:∃n:Nat,kn2=(n:Int):=⟨kn2.toNat,by omega⟩
 try simp only [List.append_nil] at hW'
 have hrun:=law_entries hG hT kn0 x1 nk2 oM ok1 (fun v w'=>v= .bool true∧Ext W w') (fun w' he=>⟨rfl,he⟩)
 refine Calls.mono hrun (fun e W' hh=> ?_)
 cases e with
 |returned v=>
  obtain ⟨rfl,he⟩:=hh
  exact ⟨_,rfl,post_ext rfl (by kernel_rfl) (by rw [indexEntries_par];intro t ht;simp only [List.mem_cons,List.not_mem_nil,or_false] at ht;rcases ht with rfl|rfl|rfl<;>exact ⟨by kernel_rfl,of_decide_eq_true (by kernel_rfl)⟩) hW' rfl he⟩
 |_=>exact hh.elim
theorem indexEntries_lifted (os:Os) (started:os.Started) (H:Type) (enc:TypeId×Value→H):
  ReturnsInHanded {} Tryz.checked os 5 .any (fun w args=>(Rows.indexEntriesSpec.pre enc prog Tryz.f5 [] false w args∧laidMetH prog laidL4 w)∧sizedMet enc prog Tryz.f5 (OpenSpec.ofChange Rows.indexEntriesSpec) false w args)
   (Rows.indexEntriesSpec.post enc prog Tryz.f5 false true false false):=
 returnsInHanded_of_change_and (C:=Tryz.checked) (X:=fun w _=>laidMetH prog laidL4 w) (fun _ _ _ hh h=>h.of_heap hh) Tryz.own started (by kernel_rfl) Tryz.func5
  (ChangeSpec.witness_shaped (enc:=enc) (C:=Tryz.checked) (os:=os) (X:=fun w _=>laidMetH prog laidL4 w) false (World.laidAll prog os laidL4) #[.int .i64 0,.agg #[.int .u8 0,.bool false,.int .i64 0,.string ⟨#[]⟩,.bool false],.int .u32 0] 8 (World.laidAll_os _ _ _) (World.shaped_of_ZipB (by kernel_rfl) (by kernel_rfl)) (by kernel_rfl) (by kernel_rfl) (by kernel_rfl) (door4 os _))
  (fun W base args ds gs before hval hW _ _ hL _=>indexEntries_call W base args ds gs before hval hW hL)
theorem indexEntries_c1:(Rows.indexEntriesRow.inPlace==prog.inPlace 5)=true:=by kernel_rfl
theorem indexEntries_c2:(Rows.indexEntriesRow.unfollowed==prog.unfollowed 5)=true:=by kernel_rfl
theorem indexEntries_c3:(Rows.indexEntriesRow.recurses==prog.recurses 5)=true:=by kernel_rfl
theorem indexEntries_c4:(Rows.indexEntriesRow.named==prog.varsNamed 5)=true:=by kernel_rfl
theorem indexEntries_closed:joinedFacts prog 5 Tryz.f5 Rows.indexEntriesSpec Rows.indexEntriesRow=true:=by
 unfold joinedFacts
 rw [indexEntries_c1,indexEntries_c2,indexEntries_c3,indexEntries_c4,rxStops,rxKnobs,Tryz.laidOut]
 kernel_rfl
theorem indexEntries_said:Rows.IndexEntriesSaid:=
 OpenClaim.holds_of_wide 5 Tryz.f5 rfl rfl rfl rfl rfl rfl rfl ⟨rfl,rfl,rfl,rfl,rfl⟩ rfl rfl rfl rfl rfl (by kernel_rfl) Tryz.func5 indexEntries_closed
  (of_decide_eq_true (by kernel_rfl)) (by unfold Func.isWrapper;first|(rw [if_pos (by decide+kernel)];kernel_rfl)|(rw [if_neg (by decide+kernel)];exact ⟨rfl,rfl⟩))
  (fun os started H enc _=>indexEntries_lifted os started H enc)
theorem indexEntries_d2:false=Rows.indexEntriesRow.goesBy prog:=goes_false noGoes _ rfl
theorem indexEntries_d3:Rows.indexEntriesRow.wfByText (OpenSpec.ofChange Rows.indexEntriesSpec)=true:=by kernel_rfl
theorem indexEntries_holds:Rows.IndexEntriesCardSaid:=
 Claim7.holds_tied_plain_at .later [] [.data,.data,.data,.pinned] true (true, "b8c559b012efed3466b765f85f03c5343f17a1fdd58ad3dbc17c8907605dfc77") true
  indexEntries_said (fun _ h=>by cases h) indexEntries_d3 (fun _ h=>by cases h) indexEntries_row_tie rfl ⟨rfl,rfl⟩ (by kernel_rfl) rfl
  (fun f fn hf hfn=>by
   obtain rfl:f=5:=Option.some.inj ((show prog.funcNamed "bedrock/bedrocklaw41.IndexEntries" =some 5 by kernel_rfl).symm.trans hf)|>.symm
   obtain rfl:fn=Tryz.f5:=(Option.some.inj (Tryz.func5.symm.trans hfn)).symm
   exact ⟨rxLooks,fun j t ht=>by
    rw [indexEntries_par] at ht
    have hm:t∈ [3,39,40]:=by simpa using Array.mem_of_getElem? ht
    have hall:([3,39,40].all fun u=> !prog.wantsStandIn u)=true:=by kernel_rfl
    exact (show prog.wantsStandIn t=false by simpa using List.all_eq_true.1 hall t hm)⟩)
  indexEntries_d2
#print axioms indexEntries_holds
end Go.Proofs.YtjegifbmbianiaaGreatDoor
