/-
  ArenaCuts: for every number of chunks, script and cut the law returns true, and its arguments read as before. Condition: the two listed package variables hold at the call's start what the program's text lays (the card ties them to that text).
-/
import Derived.Test.YtifpinhjpbgnoaaGreatDoorRows
import Derived.Test.YtifpinhjpbgnoaaGreatDoorBs4
import Derived.ProofKit
import Derived.LaidMore
import Derived.OpenShut
import Derived.Stop.Joined
import Derived.Lib.SmallJoins
import Derived.Test.YtifpinhjpbgnoaaGreatDoorBsRowAcA
import Derived.ChangeSlices
import Derived.Deep.Strs
import Derived.Test.YtifpinhjpbgnoaaGreatDoorCards
import Derived.Test.YtifpinhjpbgnoaaGreatDoorTie
set_option linter.unusedVariables false
set_option maxRecDepth 100000
open Go.Proofs.Tryz (prog)
namespace Go.Proofs.YtifpinhjpbgnoaaGreatDoor
open Go Go.Sh Go.ChangeShapes Go.WideShapes Go.ChangeAt Go.RowKit Go.Joins
theorem Tryz.own:ownKnob prog.godebug=none:=by kernel_rfl
theorem Tryz.laidOut:laidOutB prog=true:=by kernel_rfl
abbrev laidL:List (String×DataW Unit):= [("bedrock/crc.nibbles",Rows.laid_bedrock_crc_nibbles),("bedrock/sizeclass.payload",Rows.laid_bedrock_sizeclass_payload)]
theorem gNib:prog.globalNamed "bedrock/crc.nibbles" =some 1:=by kernel_rfl
theorem gPay:prog.globalNamed "bedrock/sizeclass.payload" =some 0:=by kernel_rfl
theorem tNib:(prog.globals[1]?).map (·.type)=some 217:=by kernel_rfl
theorem tPay:(prog.globals[0]?).map (·.type)=some 187:=by kernel_rfl
theorem arr_ints {H:Type} {enc:TypeId×Value→H} {P:Program} {w:World} {base:Nat} {spare:Nat→Bool} {held:Bool} {fuel:Nat} {t e:TypeId} {n:Nat} {k:IntKind} {cs:List Value} {l:List Int} {ps:List MemPlace} (hu:P.underlying t=some (.array n e)) (he:P.underlying e=some (.int k)) (hc:P.cellsOf e=1)
  (h:DataW.trod enc P w base spare held fuel t cs=some (.agg (l.map fun z=> .lit (.int k z)),ps)) (i:Nat) (hi:i<n):∃z,l[i]? =some z∧cs[i]? =some (.int k z):=by
 obtain ⟨xs,m,rfl,hx,hlen,hn,hel⟩:=DataW.trod_array hu h
 have h1:=hel i hi
 have hxi:xs[i]? =some xs[i]:=List.getElem?_eq_getElem (by omega)
 rw [hxi,hc,Nat.mul_one] at h1
 obtain ⟨z,e1,e2,_⟩:=DataW.trod_int he h1
 refine ⟨z,?_,?_⟩
 ·simp only [Prod.mk.injEq,DataW.agg.injEq] at hx
  have h2:(l.map fun z=>(DataW.lit (.int k z):DataW H))[i]? =(xs.map (·.1))[i]? :=by rw [hx.1]
  rw [List.getElem?_map,List.getElem?_map,hxi,e2] at h2
  cases hl:l[i]? with
  |none=>rw [hl] at h2;cases h2
  |some z'=>
   rw [hl] at h2
   simp only [Option.map_some,Option.some.injEq,DataW.lit.injEq,Lit.int.injEq,true_and] at h2
   rw [h2]
 ·have h3:((cs.drop i).take 1)[0]? =some (.int k z):=by rw [e1];rfl
  rw [List.getElem?_take,List.getElem?_drop] at h3
  simpa using h3
theorem glob_of_laid {W:World} (h:laidMetH prog laidL W):Glob W:=by
 rw [MakeChecks.laidMetH_plain _ _ _ (by kernel_rfl)] at h
 obtain ⟨ps,⟨g0,t0,cs0,f0,p0,q0,hg0,ht0,hv0,hd0,⟨g1,t1,cs1,f1,p1,q1,hg1,ht1,hv1,hd1,_,_⟩,_⟩,_,_⟩:=h
 obtain rfl:=Option.some.inj (gNib.symm.trans hg0)
 obtain rfl:=Option.some.inj (gPay.symm.trans hg1)
 obtain rfl:=Option.some.inj (tNib.symm.trans ht0)
 obtain rfl:=Option.some.inj (tPay.symm.trans ht1)
 refine ⟨fun i hi=> ?_,fun i hi=> ?_⟩
 ·obtain ⟨z,hz,hc⟩:=arr_ints (l:= [3,7,15,31,60]) (show prog.underlying 187=some (.array 5 3) by kernel_rfl) (show prog.underlying 3=some (.int .i64) by kernel_rfl) (by kernel_rfl) hd1 i hi
  rw [World.var?_cell hg1 hv1 i]
  have:payN i=z:=by unfold payN;rw [List.getD_eq_getElem?_getD,hz];rfl
  rw [this];simpa using hc
 ·obtain ⟨z,hz,hc⟩:=arr_ints (l:= [0,274646895,549293790,820201905,1098587580,1361435347,1640403810,1905808397,2197175160,2460548119,2722870694,2987750089,3280807620,3553878443,3811616794,4084100981]) (show prog.underlying 217=some (.array 16 32) by kernel_rfl) (show prog.underlying 32=some (.int .u32) by kernel_rfl) (by kernel_rfl) hd0 i hi
  rw [World.var?_cell hg0 hv0 i]
  have:((nibN i:Nat):Int)=z:=by
   have hq:∀q:Fin 16,([0,274646895,549293790,820201905,1098587580,1361435347,1640403810,1905808397,2197175160,2460548119,2722870694,2987750089,3280807620,3553878443,3811616794,4084100981]:List Int)[q.1]? =some ((nibN q.1:Nat):Int):=by decide
   exact Option.some.inj ((hq ⟨i,hi⟩).symm.trans hz)
  rw [this];simpa using hc
theorem door_met (os:Os) (args:Array Value):laidMetH prog laidL ((World.doorLaid prog 400 os).forCall (fun _ _=>0) ⟨#[],args,[]⟩).memory:=
 laidMetH_of_parts3 (fuel:=8) (laidMet_of_run' 8 (by kernel_rfl) (by kernel_rfl)) (by kernel_rfl) (by kernel_rfl)
section
variable {H:Type} {enc:TypeId×Value→H}
theorem trodAll_lt {P:Program} {W:World} {ts:List TypeId} {apart:Bool} {vs:List Value} {ds gs:List (DataW H)} {before:List MemPlace} {vars:List String} (hW:DataW.Whole enc P ts vars apart W vs ds gs before):∀x∈before,x.block<W.heap.size:=fun x hx=>by simpa using hW.lt x hx
theorem trodAll_ext {P:Program} (hl:laidOutB P=true) {W W':World} (hb:Ext W W'):∀{ts:List TypeId} {vs:List Value} {ds:List (DataW H)} {ps:List MemPlace},(∀t∈ts,P.readableRec t=true∧t<P.types.size)→DataW.TrodAll enc P W 0 (fun _=>true) true ts vs ds ps→(∀x∈ps,x.block<W.heap.size)→DataW.TrodAll enc P W' 0 (fun b=>decide (b<W.heap.size)) true ts vs ds ps:=by
 intro ts
 induction ts with
 |nil=>intro vs ds ps _ h _;cases vs<;>cases ds<;>first|exact h|exact h.elim
 |cons t ts ih=>
  intro vs ds ps hr h hlt
  cases vs with
  |nil=>exact h.elim
  |cons v vs=>
   cases ds with
   |nil=>exact h.elim
   |cons d ds=>
    obtain ⟨p,q,h0,h1,rfl⟩:=h
    refine ⟨p,q,Below.trod hl (hr t (by simp)).1 (hr t (by simp)).2 h0 hb (fun x hx=>hlt x (by simp [hx])),ih (fun u hu=>hr u (by simp [hu])) h1 (fun x hx=>hlt x (by simp [hx])),rfl⟩
theorem post_ext {f:Func} {s:ChangeSpec} {W W':World} {args:Array Value} {ds:List (DataW H)} {before:List MemPlace} (hv:s.vars= []) (hr:f.resultTypes= #[4]) (hrd:∀t∈f.params.toList,prog.readableRec t=true∧t<prog.types.size)
  (hW:DataW.Whole enc prog f.params.toList s.vars false W args.toList ds [] before) (hs:s.fn H (ds++ [])={results:= [.lit (.bool true)],args:=ds}) (hb:Ext W W'):s.post enc prog f false true false false W args (.bool true) W':=by
 have hW':=hW
 obtain ⟨p,q,hA,hV,rfl,hfz,hnd⟩:=hW
 rw [hv] at hV
 have hq:q= []:=hV
 subst hq
 have hlt:=trodAll_lt hW'
 refine ⟨ds,[],p++ [],[],p,[],hW',?_,?_,?_,Below.frame hb _,fun h=>by cases h⟩
 ·rw [hs,hr]
  exact trodAll_mk1 (shut_bool (show prog.underlying 4=some .bool by kernel_rfl) true)
 ·rw [hs];exact trodAll_ext Tryz.laidOut hb hrd hA (fun x hx=>hlt x (by simp [hx]))
 ·rw [hs,hv];rfl
end
section
variable {H:Type} {enc:TypeId×Value→H} {P:Program} {w:World} {base:Nat} {spare:Nat→Bool} {held:Bool}
theorem spot_none {a:Addr} {v:Value} (h:w.cell? a=some v):a=⟨a.block,a.off,none⟩∧a.block<w.heap.size:=by
 unfold World.cell? at h
 cases hb:w.heap[a.block]? with
 |none=>rw [hb] at h;cases h
 |some o=>
  refine ⟨?_,lt_of_heap hb⟩
  rw [hb] at h
  cases o with
  |cells c e f=>
   simp only at h
   split at h
   ·cases h
   ·rename_i hs
    obtain ⟨b,o,s⟩:=a
    cases s with
    |none=>rfl
    |some s=>exact absurd rfl hs
  |_=>cases h
theorem rds_ints {t e:TypeId} {k:IntKind} {fuel:Nat} {v:Value} {x:DataW H×List MemPlace} (ht:P.underlying t=some (.slice e)) (he:P.underlying e=some (.int k)) (hc:P.cellsOf e=1)
  (h:DataW.trod enc P w base spare held fuel t [v]=some x):∃L:List Int,RdS w.heap.size w v (L.map fun z=>Value.int k z)∧(∀z∈L,(Lit.int k z).wf=true)∧L.length≤maxLen:=by
 rcases Go.ChangeShapes.open_ints ht he hc h with ⟨e1,_⟩|⟨a,len,cap,zs,e1,hb,hl,hm,hz,_,hcell,hwf⟩
 ·simp only [List.cons.injEq,and_true] at e1
  subst e1
  exact ⟨[],RdS.nil _ _,fun z hz=>(by cases hz),Nat.zero_le _⟩
 ·simp only [List.cons.injEq,and_true] at e1
  subst e1
  have hle:len≤zs.length:=by rw [hz];split<;>omega
  refine ⟨zs.take len,⟨some a,cap,by rw [List.length_map,List.length_take,Nat.min_eq_left hle],?_⟩,fun z hz=>hwf z (List.mem_of_mem_take hz),by rw [List.length_take,Nat.min_eq_left hle];omega⟩
  by_cases h0:len=0
  ·left;subst h0;simp
  ·right
   have hc0:=hcell 0 (by omega)
   have ea:a.add 0=a:=rfl
   rw [ea] at hc0
   obtain ⟨hs,hlt⟩:=spot_none hc0
   refine ⟨a.block,a.off,by rw [←hs],hlt,fun j u hj=> ?_⟩
   have hjl:j<len:=by
    have:=(List.getElem?_eq_some_iff.1 hj).1
    rw [List.length_map,List.length_take] at this;omega
   have hcj:=hcell j (by omega)
   have e2:a.add j=⟨a.block,a.off+j,none⟩:=by
    unfold Addr.add
    split
    ·rename_i hj0;subst hj0;exact hs
    ·rfl
   rw [e2] at hcj
   rw [hcj]
   rw [List.getElem?_map,List.getElem?_take] at hj
   rw [if_pos hjl,List.getElem?_eq_getElem (by omega)] at hj
   simp only [Option.map_some,Option.some.injEq] at hj
   rw [←hj,List.getD_eq_getElem?_getD,List.getElem?_eq_getElem (by omega)];rfl
theorem u8_lists {L:List Int} (h:∀z∈L,(Lit.int .u8 z).wf=true):L.map (fun z=>Value.int .u8 z)=u8L (L.map Int.toNat)∧∀k∈L.map Int.toNat,k<256:=by
 refine ⟨?_,fun k hk=> ?_⟩
 ·rw [u8L,List.map_map]
  refine List.map_congr_left (fun z hz=> ?_)
  have:=bounds_u8 (h z hz)
  simp only [Function.comp]
  rw [Int.toNat_of_nonneg (by omega)]
 ·obtain ⟨z,hz,rfl⟩:=List.mem_map.1 hk
  have:=bounds_u8 (h z hz);omega
end
section
variable {H:Type} {enc:TypeId×Value→H} {P:Program} {w:World} {base:Nat} {spare:Nat→Bool} {held:Bool}
theorem add_none (b o i:Nat):(⟨b,o,none⟩:Addr).add i=⟨b,o+i,none⟩:=by
 unfold Addr.add
 split
 ·rename_i h;rw [h];rfl
 ·rfl
theorem open_structs {t e:TypeId} {c fuel:Nat} {v:Value} {x:DataW H×List MemPlace} (ht:P.underlying t=some (.slice e)) (hc:P.cellsOf e=c) (c0:0<c)
  (h:DataW.trod enc P w base spare held fuel t [v]=some x):∃a len cap,v= .slice a len cap∧len≤maxLen∧∀j,j<len→∃b o cs f y,a=some ⟨b,o,none⟩∧b<w.heap.size∧cs.length=c∧(∀i,i<c→w.cell? ⟨b,o+j*c+i,none⟩=cs[i]?)∧DataW.trod enc P w base spare held f e cs=some y:=by
 rcases DataW.trod_slice ht h with ⟨e1,_⟩|⟨a,len,cap,elems,rest,n,_,e1,_,hb,hl,hm,hlen,hel,_,_⟩
 ·simp only [List.cons.injEq,and_true] at e1
  subst e1
  exact ⟨none,0,0,rfl,Nat.zero_le _,fun j hj=>absurd hj (Nat.not_lt_zero _)⟩
 ·simp only [List.cons.injEq,and_true] at e1
  subst e1
  refine ⟨some a,len,cap,rfl,by omega,fun j hj=> ?_⟩
  have key:∀j,j<len→∃cs y,DataW.trod enc P w base spare held n e cs=some y∧cs.length=c∧∀i,i<c→w.cell? ((a.add (j*c)).add i)=cs[i]? :=by
   intro j hj
   have hj1:=hel j hj
   rw [List.getElem?_eq_getElem (by omega),hc] at hj1
   rw [Option.bind_eq_some_iff] at hj1
   obtain ⟨cs,hcs,htr⟩:=hj1
   obtain ⟨_,hcl,hcc⟩:=World.cells?_some hcs
   exact ⟨cs,_,htr,by omega,fun i hi=>hcc i (by omega)⟩
  have ha:a=⟨a.block,a.off,none⟩∧a.block<w.heap.size:=by
   obtain ⟨cs,y,_,hcl,hcc⟩:=key 0 (by omega)
   have c00:=hcc 0 c0
   have e00:(a.add (0*c)).add 0=a:=by rw [Nat.zero_mul];rfl
   rw [e00,List.getElem?_eq_getElem (by omega)] at c00
   exact spot_none c00
  obtain ⟨cs,y,htr,hcl,hcc⟩:=key j hj
  refine ⟨a.block,a.off,cs,n,y,by rw [←ha.1],ha.2,hcl,fun i hi=> ?_,htr⟩
  have:=hcc i hi
  rw [ha.1,add_none,add_none] at this
  exact this
theorem build_list {α:Type} {Q:Nat→α→Prop} {len:Nat} (each:∀j,j<len→∃x,Q j x):∀n,n≤len→∃al:List α,al.length=n∧∀j x,al[j]? =some x→Q j x
 |0,_=>⟨[],rfl,fun j x hx=>(by simp at hx)⟩
 |n+1,hn=>by
  obtain ⟨al,hal,hq⟩:=build_list each n (by omega)
  obtain ⟨x,hx⟩:=each n (by omega)
  refine ⟨al++ [x],by simp [hal],fun j y hy=> ?_⟩
  by_cases hj:j<al.length
  ·rw [List.getElem?_append_left hj] at hy;exact hq j y hy
  ·rw [List.getElem?_append_right (by omega)] at hy
   have hj2:j=n:=by
    have:=(List.getElem?_eq_some_iff.1 hy).1;simp at this;omega
   subst hj2
   rw [hal,Nat.sub_self] at hy
   simp only [List.getElem?_cons_zero,Option.some.injEq] at hy
   subst hy;exact hx
theorem act7_of_trod {e tu ti tb ts ei:TypeId} {fuel:Nat} {cs:List Value} {x:DataW H×List MemPlace} {f0 f1 f2 f3 f4 f5 f6:Field} (he:P.underlying e=some (.struct #[f0,f1,f2,f3,f4,f5,f6]))
  (h0:f0.type=tu∧f0.offset=0) (h1:f1.type=ti∧f1.offset=1) (h2:f2.type=ti∧f2.offset=2) (h3:f3.type=ti∧f3.offset=3) (h4:f4.type=tb∧f4.offset=4) (h5:f5.type=ts∧f5.offset=5) (h6:f6.type=ts∧f6.offset=6)
  (htu:P.underlying tu=some (.int .u8)) (hti:P.underlying ti=some (.int .i64)) (htb:P.underlying tb=some .bool) (hts:P.underlying ts=some (.slice ei)) (hei:P.underlying ei=some (.int .i64))
  (cu:P.cellsOf tu=1) (ci:P.cellsOf ti=1) (cb:P.cellsOf tb=1) (ct:P.cellsOf ts=1) (cei:P.cellsOf ei=1) (hl:cs.length=7)
  (h:DataW.trod enc P w base spare held fuel e cs=some x):∃(d:ActD) (tv dv:Value),actOk7 d∧(∀i,i<7→cs[i]? =some (acF d.kd d.th d.cl d.ch d.on tv dv i))∧RdS w.heap.size w tv (i64L d.L)∧RdS w.heap.size w dv (i64L d.M):=by
 obtain ⟨xs,n,_,_,_,hxs,hf⟩:=DataW.trod_struct he h
 match cs,hl with
 | [s0,s1,s2,s3,s4,s5,s6],_=>
  match xs,hxs with
  | [y0,y1,y2,y3,y4,y5,y6],_=>
   have t0:=hf 0 f0 rfl;have t1:=hf 1 f1 rfl;have t2:=hf 2 f2 rfl;have t3:=hf 3 f3 rfl;have t4:=hf 4 f4 rfl;have t5:=hf 5 f5 rfl;have t6:=hf 6 f6 rfl
   rw [h0.1,h0.2,cu] at t0;rw [h1.1,h1.2,ci] at t1;rw [h2.1,h2.2,ci] at t2;rw [h3.1,h3.2,ci] at t3;rw [h4.1,h4.2,cb] at t4;rw [h5.1,h5.2,ct] at t5;rw [h6.1,h6.2,ct] at t6
   obtain ⟨z0,e0,_,w0⟩:=DataW.trod_int htu (show DataW.trod enc P w base spare held n tu [s0]=some y0 from t0)
   obtain ⟨z1,e1,_,_⟩:=DataW.trod_int hti (show DataW.trod enc P w base spare held n ti [s1]=some y1 from t1)
   obtain ⟨z2,e2,_,_⟩:=DataW.trod_int hti (show DataW.trod enc P w base spare held n ti [s2]=some y2 from t2)
   obtain ⟨z3,e3,_,_⟩:=DataW.trod_int hti (show DataW.trod enc P w base spare held n ti [s3]=some y3 from t3)
   obtain ⟨z4,e4,_⟩:=DataW.trod_bool htb (show DataW.trod enc P w base spare held n tb [s4]=some y4 from t4)
   obtain ⟨L,rL,_,lL⟩:=rds_ints hts hei cei (show DataW.trod enc P w base spare held n ts [s5]=some y5 from t5)
   obtain ⟨M,rM,_,lM⟩:=rds_ints hts hei cei (show DataW.trod enc P w base spare held n ts [s6]=some y6 from t6)
   simp only [List.cons.injEq,and_true] at e0 e1 e2 e3 e4
   subst e0;subst e1;subst e2;subst e3;subst e4
   have b0:=bounds_u8 w0
   refine ⟨⟨z0.toNat,z1,z2,z3,z4,L,M⟩,s5,s6,⟨by show z0.toNat<256;omega,lL,lM⟩,fun i hi=> ?_,rL,rM⟩
   match i,hi with
   |0,_=>show some (Value.int .u8 z0)=some (Value.int .u8 (z0.toNat:Int));rw [Int.toNat_of_nonneg (by omega)]
   |1,_=>rfl
   |2,_=>rfl
   |3,_=>rfl
   |4,_=>rfl
   |5,_=>rfl
   |6,_=>rfl
theorem acts7_of_trod {t e:TypeId} {fuel:Nat} {v:Value} {x:DataW H×List MemPlace} (ht:P.underlying t=some (.slice e)) (hc:P.cellsOf e=7)
  (one:∀f cs y,cs.length=7→DataW.trod enc P w base spare held f e cs=some y→∃(d:ActD) (tv dv:Value),actOk7 d∧(∀i,i<7→cs[i]? =some (acF d.kd d.th d.cl d.ch d.on tv dv i))∧RdS w.heap.size w tv (i64L d.L)∧RdS w.heap.size w dv (i64L d.M))
  (h:DataW.trod enc P w base spare held fuel t [v]=some x):∃al,ActsR7 w.heap.size w v al∧(∀x∈al,actOk7 x)∧al.length≤maxLen:=by
 obtain ⟨a,len,cap,rfl,hlen,hel⟩:=open_structs ht hc (by omega) h
 obtain ⟨al,hal,hq⟩:=build_list (Q:=fun j (d:ActD)=>actOk7 d∧∃b o tv dv,a=some ⟨b,o,none⟩∧b<w.heap.size∧(∀i,i<7→w.cell? ⟨b,o+j*7+i,none⟩=some (acF d.kd d.th d.cl d.ch d.on tv dv i))∧RdS w.heap.size w tv (i64L d.L)∧RdS w.heap.size w dv (i64L d.M)) (len:=len) (fun j hj=>by
  obtain ⟨b,o,cs,f,y,ha,hb,hcl,hcc,htr⟩:=hel j hj
  obtain ⟨d,tv,dv,ok,hd,r1,r2⟩:=one f cs y hcl htr
  exact ⟨d,ok,b,o,tv,dv,ha,hb,fun i hi=>(hcc i hi).trans (hd i hi),r1,r2⟩) len (Nat.le_refl _)
 refine ⟨al,⟨a,cap,by rw [hal],fun j x hx=>(hq j x hx).2⟩,fun x hx=> ?_,by omega⟩
 obtain ⟨j,hj,rfl⟩:=List.mem_iff_getElem.1 hx
 exact (hq j _ (List.getElem?_eq_getElem hj)).1
end
section
variable {H:Type} {enc:TypeId×Value→H} {P:Program} {w:World} {base:Nat} {spare:Nat→Bool} {held:Bool}
theorem open_cut {r:Reach} {b0:Nat} {t te tu ts eu:TypeId} {f0 f1 f2:Field} {v:Value} {d:DataW H} {p:List MemPlace} (hs:P.underlying t=some (.struct #[f0,f1,f2])) (hC:P.cellsOf t=9) (h0:f0.type=te∧f0.offset=0) (h1:f1.type=tu∧f1.offset=7) (h2:f2.type=ts∧f2.offset=8)
  (ce:P.cellsOf te=7) (cu:P.cellsOf tu=1) (ct:P.cellsOf ts=1) (htu:P.underlying tu=some (.int .u8)) (hts:P.underlying ts=some (.slice eu)) (heu:P.underlying eu=some (.int .u8)) (ceu:P.cellsOf eu=1)
  (one:∀f cs y,cs.length=7→DataW.trod enc P w base spare held f te cs=some y→∃(d:ActD) (tv dv:Value),actOk7 d∧(∀i,i<7→cs[i]? =some (acF d.kd d.th d.cl d.ch d.on tv dv i))∧RdS w.heap.size w tv (i64L d.L)∧RdS w.heap.size w dv (i64L d.M))
  (hv:Value.okWide P w r b0 t v) (h:DataW.Trod enc P w base spare held t v d p):
  ∃(a:ActD) (tv dv xu:Value) (N:Nat) (us:List Nat),v=cuV a tv dv N xu∧N<256∧RdS w.heap.size w tv (i64L a.L)∧RdS w.heap.size w dv (i64L a.M)∧RdS w.heap.size w xu (u8L us)∧(∀x∈us,x<256)∧us.length≤maxLen:=by
 obtain ⟨cs,rfl,hsz⟩:=okWide_struct hs hv
 obtain ⟨fuel,hf⟩:=h
 obtain ⟨y0,y1,y2,n,_,_,t0,t1,t2⟩:=Go.Deep.trod_struct3 hs hf
 obtain ⟨l⟩:=cs
 have hl:l.length=9:=hsz.trans hC
 match l,hl with
 | [c0,c1,c2,c3,c4,c5,c6,c7,c8],_=>
  rw [h0.1,h0.2,ce] at t0
  rw [h1.1,h1.2,cu] at t1
  rw [h2.1,h2.2,ct] at t2
  have t0:DataW.trod enc P w base spare held n te [c0,c1,c2,c3,c4,c5,c6]=some y0:=t0
  have t1:DataW.trod enc P w base spare held n tu [c7]=some y1:=t1
  have t2:DataW.trod enc P w base spare held n ts [c8]=some y2:=t2
  obtain ⟨a,tv,dv,_,hd,r1,r2⟩:=one n _ _ rfl t0
  obtain ⟨z,e1,_,wz⟩:=DataW.trod_int htu t1
  obtain ⟨L,rL,wL,lL⟩:=rds_ints hts heu ceu t2
  obtain ⟨uk,bk⟩:=u8_lists wL
  rw [uk] at rL
  have bz:=bounds_u8 wz
  simp only [List.cons.injEq,and_true] at e1
  subst e1
  have d0:c0= .int .u8 (a.kd:Int):=Option.some.inj (hd 0 (by omega))
  have d1:c1= .int .i64 a.th:=Option.some.inj (hd 1 (by omega))
  have d2:c2= .int .i64 a.cl:=Option.some.inj (hd 2 (by omega))
  have d3:c3= .int .i64 a.ch:=Option.some.inj (hd 3 (by omega))
  have d4:c4= .bool a.on:=Option.some.inj (hd 4 (by omega))
  have d5:c5=tv:=Option.some.inj (hd 5 (by omega))
  have d6:c6=dv:=Option.some.inj (hd 6 (by omega))
  subst d0;subst d1;subst d2;subst d3;subst d4;subst d5;subst d6
  refine ⟨a,c5,c6,c8,z.toNat,L.map Int.toNat,?_,by omega,r1,r2,rL,bk,by rw [List.length_map];exact lL⟩
  show _=Value.agg #[.int .u8 (a.kd:Int),.int .i64 a.th,.int .i64 a.cl,.int .i64 a.ch,.bool a.on,c5,c6,.int .u8 (z.toNat:Int),c8]
  rw [Int.toNat_of_nonneg (by omega)]
end
theorem arenaCuts_par:Tryz.f7.params= #[5,48,86]:=by kernel_rfl
theorem arenaCuts_call {H:Type} {enc:TypeId×Value→H} (W:World) (base:Nat) (args:Array Value) (ds gs:List (DataW H)) (before:List MemPlace)
  (hval0:∀(j:Nat) t v,Tryz.f7.params[j]? =some t→args[j]? =some v→Value.okWide prog W .any base t v)
  (hW:DataW.Whole enc prog Tryz.f7.params.toList Rows.arenaCutsSpec.vars false W args.toList ds gs before) (hL:laidMetH prog laidL W):
  Calls prog 7 args W fun e W'=>∃v,e= .returned v∧Rows.arenaCutsSpec.post enc prog Tryz.f7 false true false false W args v W':=by
 have hval:=hval0
 have hW':=hW
 obtain ⟨p,q,hA0,hV,rfl,hfz,hnd⟩:=hW
 have hA:=hA0
 rw [arenaCuts_par] at hA hval
 obtain ⟨v0,v1,v2,d0,d1,d2,p0,p1,p2,rfl,rfl,rfl,h0,h1,h2⟩:=trodAll_three hA
 obtain ⟨rfl,rfl⟩:=trodVars_none hV
 have hG:=glob_of_laid hL
 obtain ⟨kn,rfl,hd0,hp0,w0⟩:=open_int (show prog.underlying 5=some (.int .u8) by kernel_rfl) (hval 0 5 v0 rfl rfl) h0
 have bd0:=bounds_u8 w0
 obtain ⟨nk,rfl⟩:∃n:Nat,kn=(n:Int):=⟨kn.toNat,by omega⟩
 obtain ⟨sa,sn,sc,hsv⟩:=okWide_slice (show prog.underlying 48=some (.slice 52) by kernel_rfl) (hval 1 48 v1 rfl rfl)
 obtain ⟨al,hal,hok,hln⟩:∃al,ActsR7 W.heap.size W v1 al∧(∀x∈al,actOk7 x)∧al.length≤maxLen:=by
  obtain ⟨fu,hf⟩:=h1
  rw [hsv] at hf
  rw [hsv]
  exact acts7_of_trod (show prog.underlying 48=some (.slice 52) by kernel_rfl) (by kernel_rfl) (fun f cs y hl h=>act7_of_trod Tryz.underlying52 ⟨rfl,rfl⟩ ⟨rfl,rfl⟩ ⟨rfl,rfl⟩ ⟨rfl,rfl⟩ ⟨rfl,rfl⟩ ⟨rfl,rfl⟩ ⟨rfl,rfl⟩ (show prog.underlying 5=some (.int .u8) by kernel_rfl) (show prog.underlying 3=some (.int .i64) by kernel_rfl) (show prog.underlying 4=some .bool by kernel_rfl) (show prog.underlying 50=some (.slice 3) by kernel_rfl) (show prog.underlying 3=some (.int .i64) by kernel_rfl) (by kernel_rfl) (by kernel_rfl) (by kernel_rfl) (by kernel_rfl) (by kernel_rfl) hl h) hf
 obtain ⟨ca,ctv,cdv,cxu,cN,us,rfl,hN,rL,rM,hus,hu8,hul⟩:=open_cut Tryz.underlying86 (by kernel_rfl) ⟨rfl,rfl⟩ ⟨rfl,rfl⟩ ⟨rfl,rfl⟩ (by kernel_rfl) (by kernel_rfl) (by kernel_rfl) (show prog.underlying 5=some (.int .u8) by kernel_rfl) (show prog.underlying 58=some (.slice 5) by kernel_rfl) (show prog.underlying 5=some (.int .u8) by kernel_rfl) (by kernel_rfl) (fun f cs y hl h=>act7_of_trod Tryz.underlying52 ⟨rfl,rfl⟩ ⟨rfl,rfl⟩ ⟨rfl,rfl⟩ ⟨rfl,rfl⟩ ⟨rfl,rfl⟩ ⟨rfl,rfl⟩ ⟨rfl,rfl⟩ (show prog.underlying 5=some (.int .u8) by kernel_rfl) (show prog.underlying 3=some (.int .i64) by kernel_rfl) (show prog.underlying 4=some .bool by kernel_rfl) (show prog.underlying 50=some (.slice 3) by kernel_rfl) (show prog.underlying 3=some (.int .i64) by kernel_rfl) (by kernel_rfl) (by kernel_rfl) (by kernel_rfl) (by kernel_rfl) (by kernel_rfl) hl h) (hval 2 86 v2 rfl rfl) h2
 try simp only [List.append_nil] at hW'
 have hrun:=law_cuts22 hG (nn:=nk) (by omega) hal hok hln (d:=ca) hN rL rM hus hu8 hul (fun v w'=>v= .bool true∧Ext W w') (fun w' he=>⟨rfl,he⟩)
 refine Calls.mono hrun (fun e W' hh=> ?_)
 cases e with
 |returned v=>
  obtain ⟨rfl,he⟩:=hh
  exact ⟨_,rfl,post_ext rfl (by kernel_rfl) (by rw [arenaCuts_par];intro t ht;simp only [List.mem_cons,List.not_mem_nil,or_false] at ht;rcases ht with rfl|rfl|rfl<;>exact ⟨by kernel_rfl,of_decide_eq_true (by kernel_rfl)⟩) hW' rfl he⟩
 |_=>exact hh.elim
theorem arenaCuts_lifted (os:Os) (started:os.Started) (H:Type) (enc:TypeId×Value→H):
  ReturnsInHanded {} Tryz.checked os 7 .any (fun w args=>(Rows.arenaCutsSpec.pre enc prog Tryz.f7 [] false w args∧laidMetH prog laidL w)∧sizedMet enc prog Tryz.f7 (OpenSpec.ofChange Rows.arenaCutsSpec) false w args)
   (Rows.arenaCutsSpec.post enc prog Tryz.f7 false true false false):=
 returnsInHanded_of_change_and (C:=Tryz.checked) (X:=fun w _=>laidMetH prog laidL w) (fun _ _ _ hh h=>h.of_heap hh) Tryz.own started (by kernel_rfl) Tryz.func7
  (ChangeSpec.witness_shaped (enc:=enc) (C:=Tryz.checked) (os:=os) (X:=fun w _=>laidMetH prog laidL w) false (World.doorLaid prog 400 os) #[.int .u8 0,.slice none 0 0,.agg #[.int .u8 0,.int .i64 0,.int .i64 0,.int .i64 0,.bool false,.slice none 0 0,.slice none 0 0,.int .u8 0,.slice none 0 0]] 8 rfl (World.shaped_of_RefB (by kernel_rfl) (by kernel_rfl)) (by kernel_rfl) (by kernel_rfl) (by kernel_rfl) (door_met os _))
  (fun W base args ds gs before hval hW _ _ hL _=>arenaCuts_call W base args ds gs before hval hW hL)
theorem arenaCuts_said:Rows.ArenaCutsSaid:=
 OpenClaim.holds_of_wide 7 Tryz.f7 rfl rfl rfl rfl rfl rfl rfl ⟨rfl,rfl,rfl,rfl,rfl⟩ rfl rfl rfl rfl rfl (by kernel_rfl) Tryz.func7 (by kernel_rfl)
  (of_decide_eq_true (by kernel_rfl)) (by unfold Func.isWrapper;first|(rw [if_pos (by decide+kernel)];kernel_rfl)|(rw [if_neg (by decide+kernel)];exact ⟨rfl,rfl⟩))
  (fun os started H enc _=>arenaCuts_lifted os started H enc)
theorem arenaCuts_holds:Rows.ArenaCutsCardSaid:=
 Claim7.holds_tied_plain_at .later [] [.data,.data] true (true, "b0bc05cfab4b2ea8c46645300665937a78e8c874cb8405a5269202337f9813dd") false
  arenaCuts_said (fun _ h=>by cases h) (by kernel_rfl) (fun _ h=>by cases h) arenaCuts_row_tie rfl ⟨rfl,rfl⟩ (by kernel_rfl) rfl
  (fun f fn hf hfn=>by
   obtain rfl:f=7:=Option.some.inj ((show prog.funcNamed "bedrock/bedrocklaw22.ArenaCuts" =some 7 by kernel_rfl).symm.trans hf)|>.symm
   obtain rfl:fn=Tryz.f7:=(Option.some.inj (Tryz.func7.symm.trans hfn)).symm
   exact ⟨by kernel_rfl,fun j t ht=>by
    rw [arenaCuts_par] at ht
    have hm:t∈ [5,48,86]:=by simpa using Array.mem_of_getElem? ht
    have hall:([5,48,86].all fun u=> !prog.wantsStandIn u)=true:=by kernel_rfl
    exact (show prog.wantsStandIn t=false by simpa using List.all_eq_true.1 hall t hm)⟩)
  (by kernel_rfl)
#print axioms arenaCuts_holds
end Go.Proofs.YtifpinhjpbgnoaaGreatDoor
