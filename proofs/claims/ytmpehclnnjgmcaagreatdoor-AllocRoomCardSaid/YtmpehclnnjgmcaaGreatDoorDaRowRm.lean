/-
  AllocRoom: for every number of chunks and every list of calls the law returns true, and its arguments read as before. Condition: the two listed package variables hold at the call's start what the program's text lays (the card ties them to that text).
-/
import Derived.Test.YtmpehclnnjgmcaaGreatDoorRows
import Derived.Test.YtmpehclnnjgmcaaGreatDoorDa3
import Derived.ProofKit
import Derived.LaidMore
import Derived.OpenShut
import Derived.Stop.Joined
import Derived.Lib.SmallJoins
import Derived.Test.YtmpehclnnjgmcaaGreatDoorDaRowRmA
import Derived.ChangeSlices
import Derived.Deep.Strs
import Derived.Test.YtmpehclnnjgmcaaGreatDoorDa6
import Derived.Test.YtmpehclnnjgmcaaGreatDoorCards
import Derived.Test.YtmpehclnnjgmcaaGreatDoorTie
set_option linter.unusedVariables false
set_option maxRecDepth 100000
set_option linter.defProp false
open Go.Proofs.Tryz (prog)
open Go renaming Value->ap,World->a3
open Go.World renaming var?_cell->a1
open Int renaming toNat_of_nonneg->an,lt_of_le_of_lt->a0
open List renaming getElem?_eq_getElem->aa,length_map->ab,getElem?_map->aq,length_take->ar,getD_eq_getElem?_getD->av,getElem?_take->aA
open Nat renaming min_eq_left->a2,zero_le->a4
open Option renaming map_some->aB
namespace Go.Proofs.YtmpehclnnjgmcaaGreatDoor
open Go Go.Sh Go.ChangeShapes Go.WideShapes Go.ChangeAt Go.RowKit Go.Joins
def Tryz.own:ownKnob prog.godebug=none:=by kernel_rfl
def Tryz.laidOut:laidOutB prog=true:=by kernel_rfl
abbrev bZ:List (String×DataW Unit):= [("bedrock/crc.nibbles",Rows.laid_bedrock_crc_nibbles),("bedrock/sizeclass.payload",Rows.laid_bedrock_sizeclass_payload)]
def EB:prog.globalNamed "bedrock/crc.nibbles" =some 1:=by kernel_rfl
def EC:prog.globalNamed "bedrock/sizeclass.payload" =some 0:=by kernel_rfl
def ED:(prog.globals[1]?).map (·.type)=some 257:=by kernel_rfl
def EE:(prog.globals[0]?).map (·.type)=some 182:=by kernel_rfl
def dh {H:Type} {enc:TypeId×ap->H} {P:Program} {w:a3} {base:Nat} {spare:Nat->Bool} {held:Bool} {fuel:Nat} {t e:TypeId} {n:Nat} {k:IntKind} {cs:List ap} {l:List Int} {ps:List MemPlace} (hu:P.underlying t=some (.array n e)) (he:P.underlying e=some (.int k)) (hc:P.cellsOf e=1)
  (h:DataW.trod enc P w base spare held fuel t cs=some (.agg (l.map λz=> .lit (.int k z)),ps)) (i:Nat) (hi:i<n):∃z,l[i]? =some z/\cs[i]? =some (.int k z):=by
 obtain ⟨xs,m,rfl,hx,c,hn,b⟩:=DataW.trod_array hu h;have h1:=b i hi;have a:xs[i]? =some xs[i]:=aa oM;rw [a,hc,Nat.mul_one] at h1;obtain ⟨z,e1,e2,_⟩:=DataW.trod_int he h1;refine ⟨z,?_,?_⟩
 ·simp only [Prod.mk.injEq,DataW.agg.injEq] at hx;have h2:(l.map λz=>(DataW.lit (.int k z):DataW H))[i]? =(xs.map (·.1))[i]? :=by rw [hx.1]
  rw [aq,aq,a,e2] at h2
  cases hl:l[i]? with
  |none=>rw [hl] at h2;cases h2
  |some z'=>
   rw [hl] at h2;simp only [aB,Option.some.injEq,DataW.lit.injEq,Lit.int.injEq,true_and] at h2;rw [h2]
 ·have h3:((cs.drop i).take 1)[0]? =some (.int k z):=by rw [e1];rfl
  rw [aA,List.getElem?_drop] at h3;simpa using h3
def cE {W:a3} (h:laidMetH prog bZ W):bt W:=by
 rw [MakeChecks.laidMetH_plain _ _ _ (by kernel_rfl)] at h;obtain ⟨ps,⟨g0,t0,g,f0,p0,q0,a,d,f,hd0,⟨g1,t1,j,f1,p1,q1,b,e,c,hd1,_,_⟩,_⟩,_,_⟩:=h;obtain rfl:=Option.some.inj (EB.symm.trans a);obtain rfl:=Option.some.inj (EC.symm.trans b);obtain rfl:=Option.some.inj (ED.symm.trans d);obtain rfl:=Option.some.inj (EE.symm.trans e);refine ⟨λi hi=> ?_,λi hi=> ?_⟩
 ·obtain ⟨z,hz,hc⟩:=dh (l:= [3,7,15,31,60]) (show prog.underlying 182=some (.array 5 3) by kernel_rfl) (show prog.underlying 3=some (.int .i64) by kernel_rfl) (by kernel_rfl) hd1 i hi;rw [a1 b c i];have:gJ i=z:=by unfold gJ;rw [av,hz];rfl
  rw [this];simpa using hc
 ·obtain ⟨z,hz,hc⟩:=dh (l:= [0,274646895,549293790,820201905,1098587580,1361435347,1640403810,1905808397,2197175160,2460548119,2722870694,2987750089,3280807620,3553878443,3811616794,4084100981]) (show prog.underlying 257=some (.array 16 126) by kernel_rfl) (show prog.underlying 126=some (.int .u32) by kernel_rfl) (by kernel_rfl) hd0 i hi;rw [a1 a f i];have:((nibN i:Nat):Int)=z:=by
   have hq:∀q:Fin 16,([0,274646895,549293790,820201905,1098587580,1361435347,1640403810,1905808397,2197175160,2460548119,2722870694,2987750089,3280807620,3553878443,3811616794,4084100981]:List Int)[q.1]? =some ((nibN q.1:Nat):Int):=by decide
   exact Option.some.inj ((hq ⟨i,hi⟩).symm.trans hz)
  rw [this];simpa using hc
def fS (os:Os) (args:Array ap):laidMetH prog bZ ((World.doorLaid prog 400 os).forCall (λ_ _=>0) ⟨#[],args,[]⟩).memory:=
 laidMetH_of_parts3 (fuel:=8) (laidMet_of_run' 8 (by kernel_rfl) (by kernel_rfl)) (by kernel_rfl) (by kernel_rfl)
section
variable {H:Type} {enc:TypeId×ap->H}
def dG {P:Program} {W:a3} {ts:List TypeId} {b:Bool} {vs:List ap} {ds gs:List (DataW H)} {a:List MemPlace} {c:List String} (hW:DataW.Whole enc P ts c b W vs ds gs a):∀x∈a,x.block<W.heap.size:=λx hx=>by simpa using hW.lt x hx
def di {P:Program} (hl:laidOutB P=true) {W W':a3} (hb:Ext W W'):∀{ts:List TypeId} {vs:List ap} {ds:List (DataW H)} {ps:List MemPlace},(∀t∈ts,P.readableRec t=true/\t<P.types.size)->DataW.TrodAll enc P W 0 (λ_=>true) true ts vs ds ps->(∀x∈ps,x.block<W.heap.size)->DataW.TrodAll enc P W' 0 (λb=>decide (b<W.heap.size)) true ts vs ds ps:=by
 intro ts
 induction ts with
 |nil=>intro vs ds ps _ h _;cases vs<;>cases ds<;>first|exact h|exact h.elim
 |cons t ts ih=>
  intro vs ds ps hr h a
  cases vs with
  |nil=>exact h.elim
  |cons v vs=>
   cases ds with
   |nil=>exact h.elim
   |cons d ds=>
    obtain ⟨p,q,h0,h1,rfl⟩:=h;refine ⟨p,q,Below.trod hl (hr t (by simp)).1 (hr t (by simp)).2 h0 hb (λx hx=>a x (by simp [hx])),ih (λu hu=>hr u (by simp [hu])) h1 (λx hx=>a x (by simp [hx])),rfl⟩
def fT {f:Func} {s:ChangeSpec} {W W':a3} {args:Array ap} {ds:List (DataW H)} {a:List MemPlace} (hv:s.vars= []) (hr:f.resultTypes= #[4]) (d:∀t∈f.params.toList,prog.readableRec t=true/\t<prog.types.size)
  (hW:DataW.Whole enc prog f.params.toList s.vars false W args.toList ds [] a) (hs:s.fn H (ds++ [])={results:= [.lit (.bool true)],args:=ds}) (hb:Ext W W'):s.post enc prog f false true false false W args (.bool true) W':=by
 have b:=hW;obtain ⟨p,q,hA,hV,rfl,g,e⟩:=hW;rw [hv] at hV;have hq:q= []:=hV;subst hq;have c:=dG b;refine ⟨ds,[],p++ [],[],p,[],b,?_,?_,?_,Below.frame hb _,λh=>by cases h⟩
 ·rw [hs,hr];exact trodAll_mk1 (shut_bool (show prog.underlying 4=some .bool by kernel_rfl) true)
 ·rw [hs];exact di Tryz.laidOut hb d hA (λx hx=>c x (by simp [hx]))
 ·rw [hs,hv];rfl
end
section
variable {H:Type} {enc:TypeId×ap->H} {P:Program} {w:a3} {base:Nat} {spare:Nat->Bool} {held:Bool}
def cd {a:Addr} {v:ap} (h:w.cell? a=some v):a=⟨a.block,a.off,none⟩/\a.block<w.heap.size:=by
 unfold World.cell? at h
 cases hb:w.heap[a.block]? with
 |none=>rw [hb] at h;cases h
 |some o=>
  refine ⟨?_,ay hb⟩;rw [hb] at h
  cases o with
  |cells c e f=>
   simp only at h;split at h
   ·cases h
   ·rename_i hs;obtain ⟨b,o,s⟩:=a
    cases s with
    |none=>rfl
    |some s=>exact absurd rfl hs
  |_=>cases h
def cT {t e:TypeId} {k:IntKind} {fuel:Nat} {v:ap} {x:DataW H×List MemPlace} (ht:P.underlying t=some (.slice e)) (he:P.underlying e=some (.int k)) (hc:P.cellsOf e=1)
  (h:DataW.trod enc P w base spare held fuel t [v]=some x):∃L:List Int,RdS w.heap.size w v (L.map λz=>Value.int k z)/\(∀z∈L,(Lit.int k z).wf=true)/\L.length<=maxLen:=by
 rcases Go.ChangeShapes.open_ints ht he hc h with ⟨e1,_⟩|⟨a,len,cap,zs,e1,hb,hl,hm,hz,_,b,m⟩
 ·simp only [List.cons.injEq,and_true] at e1;subst e1;exact ⟨[],RdS.nil _ _,λz hz=>(by cases hz),a4 _⟩
 ·simp only [List.cons.injEq,and_true] at e1;subst e1;have c:len<=zs.length:=by rw [hz];split<;>omega
  refine ⟨zs.take len,⟨some a,cap,by rw [ab,ar,a2 c],?_⟩,λz hz=>m z (List.mem_of_mem_take hz),by rw [ar,a2 c];omega⟩;by_cases h0:len=0
  ·left;subst h0;simp
  ·right;have f:=b 0 oM;have ea:a.add 0=a:=rfl;rw [ea] at f;obtain ⟨hs,g⟩:=cd f;refine ⟨a.block,a.off,by rw [<-hs],g,λj u hj=> ?_⟩;have i:j<len:=by
    have:=(List.getElem?_eq_some_iff.1 hj).1;rw [ab,ar] at this;omega
   have d:=b j oM;have e2:a.add j=⟨a.block,a.off+j,none⟩:=by
    unfold Addr.add;split
    ·rename_i l;subst l;exact hs
    ·rfl
   rw [e2] at d;rw [d];rw [aq,aA] at hj;rw [if_pos i,aa oM] at hj;simp only [aB,Option.some.injEq] at hj;rw [<-hj,av,aa oM];rfl
def cX {L:List Int} (h:∀z∈L,(Lit.int .u8 z).wf=true):L.map (λz=>Value.int .u8 z)=u8L (L.map Int.toNat)/\∀k∈L.map Int.toNat,k<256:=by
 refine ⟨?_,λk hk=> ?_⟩
 ·rw [u8L,List.map_map];refine List.map_congr_left (λz hz=> ?_);have:=bounds_u8 (h z hz);simp only [Function.comp];rw [an oM]
 ·obtain ⟨z,hz,rfl⟩:=List.mem_map.1 hk;have:=bounds_u8 (h z hz);omega
end
section
variable {H:Type} {enc:TypeId×ap->H} {P:Program} {w:a3} {base:Nat} {spare:Nat->Bool} {held:Bool}
def dq (b o i:Nat):(⟨b,o,none⟩:Addr).add i=⟨b,o+i,none⟩:=by
 unfold Addr.add;split
 ·rename_i h;rw [h];rfl
 ·rfl
def cG {t e:TypeId} {c fuel:Nat} {v:ap} {x:DataW H×List MemPlace} (ht:P.underlying t=some (.slice e)) (hc:P.cellsOf e=c) (c0:0<c)
  (h:DataW.trod enc P w base spare held fuel t [v]=some x):∃a len cap,v= .slice a len cap/\len<=maxLen/\∀j,j<len->∃b o cs f y,a=some ⟨b,o,none⟩/\b<w.heap.size/\cs.length=c/\(∀i,i<c->w.cell? ⟨b,o+j*c+i,none⟩=cs[i]?)/\DataW.trod enc P w base spare held f e cs=some y:=by
 rcases DataW.trod_slice ht h with ⟨e1,_⟩|⟨a,len,cap,s,z,n,_,e1,_,hb,hl,hm,u,p,_,_⟩
 ·simp only [List.cons.injEq,and_true] at e1;subst e1;exact ⟨none,0,0,rfl,a4 _,λj hj=>absurd hj (Nat.not_lt_zero _)⟩
 ·simp only [List.cons.injEq,and_true] at e1;subst e1;refine ⟨some a,len,cap,rfl,by omega,λj hj=> ?_⟩;have key:∀j,j<len->∃cs y,DataW.trod enc P w base spare held n e cs=some y/\cs.length=c/\∀i,i<c->w.cell? ((a.add (j*c)).add i)=cs[i]? :=by
   intro j hj;have l:=p j hj;rw [aa oM,hc] at l;rw [Option.bind_eq_some_iff] at l;obtain ⟨cs,q,k⟩:=l;obtain ⟨_,g,d⟩:=World.cells?_some q;exact ⟨cs,_,k,by omega,λi hi=>d i oM⟩
  have ha:a=⟨a.block,a.off,none⟩/\a.block<w.heap.size:=by
   obtain ⟨cs,y,_,g,d⟩:=key 0 oM;have m:=d 0 c0;have r:(a.add (0*c)).add 0=a:=by rw [Nat.zero_mul];rfl
   rw [r,aa oM] at m;exact cd m
  obtain ⟨cs,y,k,g,d⟩:=key j hj;refine ⟨a.block,a.off,cs,n,y,by rw [<-ha.1],ha.2,g,λi hi=> ?_,k⟩;have:=d i hi;rw [ha.1,dq,dq] at this;exact this
def bJ {α:Type} {Q:Nat->α->Prop} {len:Nat} (a:∀j,j<len->∃x,Q j x):∀n,n<=len->∃al:List α,al.length=n/\∀j x,al[j]? =some x->Q j x
 |0,_=>⟨[],rfl,λj x hx=>(by simp at hx)⟩
 |n+1,hn=>by
  obtain ⟨al,b,hq⟩:=bJ a n oM;obtain ⟨x,hx⟩:=a n oM;refine ⟨al++ [x],by simp [b],λj y hy=> ?_⟩;by_cases hj:j<al.length
  ·rw [List.getElem?_append_left hj] at hy;exact hq j y hy
  ·rw [List.getElem?_append_right oM] at hy;have c:j=n:=by
    have:=(List.getElem?_eq_some_iff.1 hy).1;simp at this;omega
   subst c;rw [b,Nat.sub_self] at hy;simp only [List.getElem?_cons_zero,Option.some.injEq] at hy;subst hy;exact hx
def cH {e tu ti ts eu:TypeId} {fuel:Nat} {cs:List ap} {x:DataW H×List MemPlace} {f0 f1 f2 f3 f4 f5:Field} (he:P.underlying e=some (.struct #[f0,f1,f2,f3,f4,f5]))
  (h0:f0.type=tu/\f0.offset=0) (h1:f1.type=ti/\f1.offset=1) (h2:f2.type=ti/\f2.offset=2) (h3:f3.type=tu/\f3.offset=3) (h4:f4.type=ts/\f4.offset=4) (h5:f5.type=ts/\f5.offset=5)
  (c:P.underlying tu=some (.int .u8)) (a:P.underlying ti=some (.int .i64)) (f:P.underlying ts=some (.slice eu)) (b:P.underlying eu=some (.int .u8))
  (cu:P.cellsOf tu=1) (ci:P.cellsOf ti=1) (ct:P.cellsOf ts=1) (g:P.cellsOf eu=1) (hl:cs.length=6)
  (h:DataW.trod enc P w base spare held fuel e cs=some x):∃(d:eU) (tv dv:ap),dO d/\(∀i,i<6->cs[i]? =some (apF d tv dv i))/\RdS w.heap.size w tv (u8L d.L)/\RdS w.heap.size w dv (u8L d.M):=by
 obtain ⟨xs,n,_,_,_,j,hf⟩:=DataW.trod_struct he h
 match cs,hl with
 | [s0,s1,s2,s3,s4,s5],_=>
  match xs,j with
  | [y0,y1,y2,y3,y4,y5],_=>
   have t0:=hf 0 f0 rfl;have t1:=hf 1 f1 rfl;have t2:=hf 2 f2 rfl;have t3:=hf 3 f3 rfl;have t4:=hf 4 f4 rfl;have t5:=hf 5 f5 rfl;rw [h0.1,h0.2,cu] at t0;rw [h1.1,h1.2,ci] at t1;rw [h2.1,h2.2,ci] at t2;rw [h3.1,h3.2,cu] at t3;rw [h4.1,h4.2,ct] at t4;rw [h5.1,h5.2,ct] at t5;obtain ⟨z0,e0,_,w0⟩:=DataW.trod_int c (show DataW.trod enc P w base spare held n tu [s0]=some y0 from t0);obtain ⟨z1,e1,_,w1⟩:=DataW.trod_int a (show DataW.trod enc P w base spare held n ti [s1]=some y1 from t1);obtain ⟨z2,e2,_,w2⟩:=DataW.trod_int a (show DataW.trod enc P w base spare held n ti [s2]=some y2 from t2);obtain ⟨z3,e3,_,w3⟩:=DataW.trod_int c (show DataW.trod enc P w base spare held n tu [s3]=some y3 from t3);obtain ⟨L,rL,wL,lL⟩:=cT f b g (show DataW.trod enc P w base spare held n ts [s4]=some y4 from t4);obtain ⟨M,rM,wM,lM⟩:=cT f b g (show DataW.trod enc P w base spare held n ts [s5]=some y5 from t5);obtain ⟨uL,bL⟩:=cX wL;obtain ⟨uM,bM⟩:=cX wM;rw [uL] at rL;rw [uM] at rM;simp only [List.cons.injEq,and_true] at e0 e1 e2 e3;subst e0;subst e1;subst e2;subst e3;have b0:=bounds_u8 w0;have b3:=bounds_u8 w3;have b1:=bounds_i64 w1;have b2:=bounds_i64 w2;refine ⟨⟨z0.toNat,z1,z2,z3.toNat,L.map Int.toNat,M.map Int.toNat⟩,s4,s5,⟨by show z0.toNat<256;omega,by show z3.toNat<256;omega,⟨b1.1,a0 b1.2 (by decide)⟩,⟨b2.1,a0 b2.2 (by decide)⟩,⟨bL,bM⟩,by show (L.map Int.toNat).length<=maxLen;rw [ab];exact lL,by show (M.map Int.toNat).length<=maxLen;rw [ab];exact lM⟩,λi hi=> ?_,rL,rM⟩
   match i,hi with
   |0,_=>show some (Value.int .u8 z0)=some (Value.int .u8 (z0.toNat:Int));rw [an oM]
   |1,_=>rfl
   |2,_=>rfl
   |3,_=>show some (Value.int .u8 z3)=some (Value.int .u8 (z3.toNat:Int));rw [an oM]
   |4,_=>rfl
   |5,_=>rfl
def bX {t e:TypeId} {fuel:Nat} {v:ap} {x:DataW H×List MemPlace} (ht:P.underlying t=some (.slice e)) (hc:P.cellsOf e=6)
  (one:∀f cs y,cs.length=6->DataW.trod enc P w base spare held f e cs=some y->∃(d:eU) (tv dv:ap),dO d/\(∀i,i<6->cs[i]? =some (apF d tv dv i))/\RdS w.heap.size w tv (u8L d.L)/\RdS w.heap.size w dv (u8L d.M))
  (h:DataW.trod enc P w base spare held fuel t [v]=some x):∃al,eE w.heap.size w v al/\(∀x∈al,dO x)/\al.length<=maxLen:=by
 obtain ⟨a,len,cap,rfl,n,c⟩:=cG ht hc oM h;obtain ⟨al,g,hq⟩:=bJ (Q:=λj (d:eU)=>dO d/\∃b o tv dv,a=some ⟨b,o,none⟩/\b<w.heap.size/\(∀i,i<6->w.cell? ⟨b,o+j*6+i,none⟩=some (apF d tv dv i))/\RdS w.heap.size w tv (u8L d.L)/\RdS w.heap.size w dv (u8L d.M)) (len:=len) (λj hj=>by
  obtain ⟨b,o,cs,f,y,ha,hb,k,l,m⟩:=c j hj;obtain ⟨d,tv,dv,ok,hd,r1,r2⟩:=one f cs y k m;exact ⟨d,ok,b,o,tv,dv,ha,hb,λi hi=>(l i hi).trans (hd i hi),r1,r2⟩) len (Nat.le_refl _)
 refine ⟨al,⟨a,cap,by rw [g],λj x hx=>(hq j x hx).2⟩,λx hx=> ?_,by omega⟩;obtain ⟨j,hj,rfl⟩:=List.mem_iff_getElem.1 hx;exact (hq j _ (aa hj)).1
end
def jt:Tryz.f4.params= #[5,49]:=by kernel_rfl
def xQ {H:Type} {enc:TypeId×ap->H} (W:a3) (base:Nat) (args:Array ap) (ds gs:List (DataW H)) (c:List MemPlace)
  (d:∀(j:Nat) t v,Tryz.f4.params[j]? =some t->args[j]? =some v->Value.okWide prog W .any base t v)
  (hW:DataW.Whole enc prog Tryz.f4.params.toList Rows.allocRoomSpec.vars false W args.toList ds gs c) (hL:laidMetH prog bZ W):
  Calls prog 4 args W λe W'=>∃v,e= .returned v/\Rows.allocRoomSpec.post enc prog Tryz.f4 false true false false W args v W':=by
 have b:=d;have i:=hW;obtain ⟨p,q,m,hV,rfl,w,r⟩:=hW;have hA:=m;rw [jt] at hA b;obtain ⟨v0,v1,d0,d1,p0,p1,rfl,rfl,rfl,h0,h1⟩:=trodAll_two hA;obtain ⟨rfl,rfl⟩:=trodVars_none hV;have hG:=cE hL;obtain ⟨kn,rfl,hd0,s,w0⟩:=open_int (show prog.underlying 5=some (.int .u8) by kernel_rfl) (b 0 5 v0 rfl rfl) h0;have z:=bounds_u8 w0;obtain ⟨nk,rfl⟩:∃n:Nat,kn=(n:Int):=⟨kn.toNat,by omega⟩;obtain ⟨sa,sn,sc,g⟩:=okWide_slice (show prog.underlying 49=some (.slice 53) by kernel_rfl) (b 1 49 v1 rfl rfl);obtain ⟨al,l,o,u⟩:∃al,eE W.heap.size W v1 al/\(∀x∈al,dO x)/\al.length<=maxLen:=by
  obtain ⟨fu,hf⟩:=h1;rw [g] at hf;rw [g];exact bX (show prog.underlying 49=some (.slice 53) by kernel_rfl) (by kernel_rfl) (λf cs y hl h=>cH Tryz.underlying53 ⟨rfl,rfl⟩ ⟨rfl,rfl⟩ ⟨rfl,rfl⟩ ⟨rfl,rfl⟩ ⟨rfl,rfl⟩ ⟨rfl,rfl⟩ (show prog.underlying 5=some (.int .u8) by kernel_rfl) (show prog.underlying 3=some (.int .i64) by kernel_rfl) (show prog.underlying 51=some (.slice 5) by kernel_rfl) (show prog.underlying 5=some (.int .u8) by kernel_rfl) (by kernel_rfl) (by kernel_rfl) (by kernel_rfl) (by kernel_rfl) hl h) hf
 try simp only [List.append_nil] at i
 have k:=acw hG (a:=nk) oM l o (λv w'=>v= .bool true/\Ext W w') (λw' he=>⟨rfl,he⟩);refine Calls.mono k (λe W' hh=> ?_)
 cases e with
 |returned v=>
  obtain ⟨rfl,he⟩:=hh;exact ⟨_,rfl,fT rfl (by kernel_rfl) (by rw [jt];intro t ht;simp only [List.mem_cons,List.not_mem_nil,or_false] at ht;rcases ht with rfl|rfl<;>exact ⟨by kernel_rfl,of_decide_eq_true (by kernel_rfl)⟩) i rfl he⟩
 |_=>exact hh.elim
theorem sY (os:Os) (started:os.Started) (H:Type) (enc:TypeId×ap->H):
  ReturnsInHanded {} Tryz.checked os 4 .any (λw args=>(Rows.allocRoomSpec.pre enc prog Tryz.f4 [] false w args/\laidMetH prog bZ w)/\sizedMet enc prog Tryz.f4 (OpenSpec.ofChange Rows.allocRoomSpec) false w args)
   (Rows.allocRoomSpec.post enc prog Tryz.f4 false true false false):=
 returnsInHanded_of_change_and (C:=Tryz.checked) (X:=λw _=>laidMetH prog bZ w) (λ_ _ _ hh h=>h.of_heap hh) Tryz.own started (by kernel_rfl) Tryz.func4
  (ChangeSpec.witness_shaped (enc:=enc) (C:=Tryz.checked) (os:=os) (X:=λw _=>laidMetH prog bZ w) false (World.doorLaid prog 400 os) #[.int .u8 0,.slice none 0 0] 8 rfl (World.shaped_of_RefB (by kernel_rfl) (by kernel_rfl)) (by kernel_rfl) (by kernel_rfl) (by kernel_rfl) (fS os _))
  (λW base args ds gs a b hW _ _ hL _=>xQ W base args ds gs a b hW hL)
theorem xS:Rows.AllocRoomSaid:=
 OpenClaim.holds_of_wide 4 Tryz.f4 rfl rfl rfl rfl rfl rfl rfl ⟨rfl,rfl,rfl,rfl,rfl⟩ rfl rfl rfl rfl rfl (by kernel_rfl) Tryz.func4 (by kernel_rfl)
  (of_decide_eq_true (by kernel_rfl)) (by unfold Func.isWrapper;first|(rw [if_pos (by decide+kernel)];kernel_rfl)|(rw [if_neg (by decide+kernel)];exact ⟨rfl,rfl⟩))
  (λos started H enc _=>sY os started H enc)
theorem allocRoom_holds:Rows.AllocRoomCardSaid:=
 Claim7.holds_tied_plain_at .later [] [.data,.data] true (true, "819cb7b99e762ee3c5d46c44398008695f54e51fb987793a2b1b8745f578d1a3") false
  xS (λ_ h=>by cases h) (by kernel_rfl) (λ_ h=>by cases h) allocRoom_row_tie rfl ⟨rfl,rfl⟩ (by kernel_rfl) rfl
  (λf fn hf b=>by
   obtain rfl:f=4:=Option.some.inj ((show prog.funcNamed "bedrock/bedrocklaw23.AllocRoom" =some 4 by kernel_rfl).symm.trans hf)|>.symm
   obtain rfl:fn=Tryz.f4:=(Option.some.inj (Tryz.func4.symm.trans b)).symm;exact ⟨by kernel_rfl,λj t ht=>by
    rw [jt] at ht;have hm:t∈ [5,49]:=by simpa using Array.mem_of_getElem? ht
    have a:([5,49].all λu=> !prog.wantsStandIn u)=true:=by kernel_rfl
    exact (show prog.wantsStandIn t=false by simpa using List.all_eq_true.1 a t hm)⟩)
  (by kernel_rfl)
#print axioms allocRoom_holds
end Go.Proofs.YtmpehclnnjgmcaaGreatDoor
