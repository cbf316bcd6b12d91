/-
  AllocSpaces: for every offset, value and number the law returns true, and its arguments read as before. Condition: the two listed package variables hold at the call's start what the program's text lays (the card ties them to that text).
-/
import Derived.Test.YtmpehclnnjgmcaaGreatDoorRows
import Derived.Test.YtmpehclnnjgmcaaGreatDoorDf3
import Derived.ProofKit
import Derived.LaidMore
import Derived.OpenShut
import Derived.Stop.Joined
import Derived.Lib.SmallJoins
import Derived.Test.YtmpehclnnjgmcaaGreatDoorDfRowSpA
import Derived.Test.YtmpehclnnjgmcaaGreatDoorCards
import Derived.Test.YtmpehclnnjgmcaaGreatDoorTie
set_option linter.unusedVariables false
set_option maxRecDepth 100000
set_option linter.defProp false
open Go.Proofs.Tryz (prog)
open Go renaming Value->an,World->ap
open Go.World renaming var?_cell->al
open List renaming getElem?_map->ab
namespace Go.Proofs.YtmpehclnnjgmcaaGreatDoor
open Go Go.Sh Go.ChangeShapes Go.WideShapes Go.ChangeAt Go.RowKit Go.Joins
def Tryz.own:ownKnob prog.godebug=none:=by kernel_rfl
def Tryz.laidOut:laidOutB prog=true:=by kernel_rfl
abbrev iB:List (String×DataW Unit):= [("bedrock/crc.nibbles",Rows.laid_bedrock_crc_nibbles),("bedrock/sizeclass.payload",Rows.laid_bedrock_sizeclass_payload)]
def abQ:prog.globalNamed "bedrock/crc.nibbles" =some 1:=by kernel_rfl
def abR:prog.globalNamed "bedrock/sizeclass.payload" =some 0:=by kernel_rfl
def abS:(prog.globals[1]?).map (·.type)=some 257:=by kernel_rfl
def abT:(prog.globals[0]?).map (·.type)=some 182:=by kernel_rfl
def jS {H:Type} {enc:TypeId×an->H} {P:Program} {w:ap} {c:Nat} {a:Nat->Bool} {d:Bool} {fuel:Nat} {t e:TypeId} {n:Nat} {k:IntKind} {cs:List an} {l:List Int} {ps:List MemPlace} (hu:P.underlying t=some (.array n e)) (he:P.underlying e=some (.int k)) (hc:P.cellsOf e=1)
  (h:DataW.trod enc P w c a d fuel t cs=some (.agg (l.map λz=> .lit (.int k z)),ps)) (i:Nat) (hi:i<n):∃z,l[i]? =some z/\cs[i]? =some (.int k z):=by
 obtain ⟨xs,m,rfl,hx,g,hn,f⟩:=DataW.trod_array hu h;have h1:=f i hi;have b:xs[i]? =some xs[i]:=List.getElem?_eq_getElem oM;rw [b,hc,Nat.mul_one] at h1;obtain ⟨z,e1,e2,_⟩:=DataW.trod_int he h1;refine ⟨z,?_,?_⟩
 ·simp only [Prod.mk.injEq,DataW.agg.injEq] at hx;have h2:(l.map λz=>(DataW.lit (.int k z):DataW H))[i]? =(xs.map (·.1))[i]? :=by rw [hx.1]
  rw [ab,ab,b,e2] at h2
  cases hl:l[i]? with
  |none=>rw [hl] at h2;cases h2
  |some z'=>
   rw [hl] at h2;simp only [Option.map_some,Option.some.injEq,DataW.lit.injEq,Lit.int.injEq,true_and] at h2;rw [h2]
 ·have h3:((cs.drop i).take 1)[0]? =some (.int k z):=by rw [e1];rfl
  rw [List.getElem?_take,List.getElem?_drop] at h3;simpa using h3
def jf {W:ap} (h:laidMetH prog iB W):bq W:=by
 rw [MakeChecks.laidMetH_plain _ _ _ (by kernel_rfl)] at h;obtain ⟨ps,⟨g0,t0,g,f0,p0,q0,a,f,c,hd0,⟨g1,t1,j,f1,p1,q1,b,d,e,hd1,_,_⟩,_⟩,_,_⟩:=h;obtain rfl:=Option.some.inj (abQ.symm.trans a);obtain rfl:=Option.some.inj (abR.symm.trans b);obtain rfl:=Option.some.inj (abS.symm.trans f);obtain rfl:=Option.some.inj (abT.symm.trans d);refine ⟨λi hi=> ?_,λi hi=> ?_⟩
 ·obtain ⟨z,hz,hc⟩:=jS (l:= [3,7,15,31,60]) (show prog.underlying 182=some (.array 5 3) by kernel_rfl) (show prog.underlying 3=some (.int .i64) by kernel_rfl) (by kernel_rfl) hd1 i hi;rw [al b e i];have:lE i=z:=by unfold lE;rw [List.getD_eq_getElem?_getD,hz];rfl
  rw [this];simpa using hc
 ·obtain ⟨z,hz,hc⟩:=jS (l:= [0,274646895,549293790,820201905,1098587580,1361435347,1640403810,1905808397,2197175160,2460548119,2722870694,2987750089,3280807620,3553878443,3811616794,4084100981]) (show prog.underlying 257=some (.array 16 126) by kernel_rfl) (show prog.underlying 126=some (.int .u32) by kernel_rfl) (by kernel_rfl) hd0 i hi;rw [al a c i];have:((nibN i:Nat):Int)=z:=by
   have hq:∀q:Fin 16,([0,274646895,549293790,820201905,1098587580,1361435347,1640403810,1905808397,2197175160,2460548119,2722870694,2987750089,3280807620,3553878443,3811616794,4084100981]:List Int)[q.1]? =some ((nibN q.1:Nat):Int):=by decide
   exact Option.some.inj ((hq ⟨i,hi⟩).symm.trans hz)
  rw [this];simpa using hc
def uh (os:Os) (args:Array an):laidMetH prog iB ((World.doorLaid prog 400 os).forCall (λ_ _=>0) ⟨#[],args,[]⟩).memory:=
 laidMetH_of_parts3 (fuel:=8) (laidMet_of_run' 8 (by kernel_rfl) (by kernel_rfl)) (by kernel_rfl) (by kernel_rfl)
section
variable {H:Type} {enc:TypeId×an->H}
def l8 {P:Program} {W:ap} {ts:List TypeId} {b:Bool} {vs:List an} {ds gs:List (DataW H)} {a:List MemPlace} {c:List String} (hW:DataW.Whole enc P ts c b W vs ds gs a):∀x∈a,x.block<W.heap.size:=λx hx=>by simpa using hW.lt x hx
def jT {P:Program} (hl:laidOutB P=true) {W W':ap} (hb:Ext W W'):∀{ts:List TypeId} {vs:List an} {ds:List (DataW H)} {ps:List MemPlace},(∀t∈ts,P.readableRec t=true/\t<P.types.size)->DataW.TrodAll enc P W 0 (λ_=>true) true ts vs ds ps->(∀x∈ps,x.block<W.heap.size)->DataW.TrodAll enc P W' 0 (λb=>decide (b<W.heap.size)) true ts vs ds ps:=by
 intro ts
 induction ts with
 |nil=>intro vs ds ps _ h _;cases vs<;>cases ds<;>first|exact h|exact h.elim
 |cons t ts ih=>
  intro vs ds ps hr h a
  cases vs with
  |nil=>exact h.elim
  |cons v vs=>
   cases ds with
   |nil=>exact h.elim
   |cons d ds=>
    obtain ⟨p,q,h0,h1,rfl⟩:=h;refine ⟨p,q,Below.trod hl (hr t (by simp)).1 (hr t (by simp)).2 h0 hb (λx hx=>a x (by simp [hx])),ih (λu hu=>hr u (by simp [hu])) h1 (λx hx=>a x (by simp [hx])),rfl⟩
def ui {f:Func} {s:ChangeSpec} {W W':ap} {args:Array an} {ds:List (DataW H)} {a:List MemPlace} (hv:s.vars= []) (hr:f.resultTypes= #[4]) (d:∀t∈f.params.toList,prog.readableRec t=true/\t<prog.types.size)
  (hW:DataW.Whole enc prog f.params.toList s.vars false W args.toList ds [] a) (hs:s.fn H (ds++ [])={results:= [.lit (.bool true)],args:=ds}) (hb:Ext W W'):s.post enc prog f false true false false W args (.bool true) W':=by
 have b:=hW;obtain ⟨p,q,hA,hV,rfl,e,g⟩:=hW;rw [hv] at hV;have hq:q= []:=hV;subst hq;have c:=l8 b;refine ⟨ds,[],p++ [],[],p,[],b,?_,?_,?_,Below.frame hb _,λh=>by cases h⟩
 ·rw [hs,hr];exact trodAll_mk1 (shut_bool (show prog.underlying 4=some .bool by kernel_rfl) true)
 ·rw [hs];exact jT Tryz.laidOut hb d hA (λx hx=>c x (by simp [hx]))
 ·rw [hs,hv];rfl
end
def fw:Tryz.f9.params= #[26,26,5]:=by kernel_rfl
def p6 {H:Type} {enc:TypeId×an->H} (W:ap) (f:Nat) (args:Array an) (ds gs:List (DataW H)) (b:List MemPlace)
  (c:∀(j:Nat) t v,Tryz.f9.params[j]? =some t->args[j]? =some v->Value.okWide prog W .any f t v)
  (hW:DataW.Whole enc prog Tryz.f9.params.toList Rows.allocSpacesSpec.vars false W args.toList ds gs b) (hL:laidMetH prog iB W):
  Calls prog 9 args W λe W'=>∃v,e= .returned v/\Rows.allocSpacesSpec.post enc prog Tryz.f9 false true false false W args v W':=by
 have a:=c;have d:=hW;obtain ⟨p,q,h,hV,rfl,w,r⟩:=hW;have hA:=h;rw [fw] at hA a;obtain ⟨v0,v1,v2,d0,d1,d2,p0,p1,p2,rfl,rfl,rfl,h0,h1,h2⟩:=trodAll_three hA;obtain ⟨rfl,rfl⟩:=trodVars_none hV;have hG:=jf hL;obtain ⟨kc,rfl,hd0,s,w0⟩:=open_int (show prog.underlying 26=some (.int .u64) by kernel_rfl) (a 0 26 v0 rfl rfl) h0;have k:=bounds_u64 w0;obtain ⟨nc,rfl⟩:∃n:Nat,kc=(n:Int):=⟨kc.toNat,by omega⟩;obtain ⟨ka,rfl,hd1,i,w1⟩:=open_int (show prog.underlying 26=some (.int .u64) by kernel_rfl) (a 1 26 v1 rfl rfl) h1;have u:=bounds_u64 w1;obtain ⟨na,rfl⟩:∃n:Nat,ka=(n:Int):=⟨ka.toNat,by omega⟩;obtain ⟨kb,rfl,hd2,m,w2⟩:=open_int (show prog.underlying 5=some (.int .u8) by kernel_rfl) (a 2 5 v2 rfl rfl) h2;have l:=bounds_u8 w2;obtain ⟨nb,rfl⟩:∃n:Nat,kb=(n:Int):=⟨kb.toNat,by omega⟩
 try simp only [List.append_nil] at d
 have g:=Ii hG (o:=nc) (v:=na) (nn:=nb) oM oM (λv w'=>v= .bool true/\Ext W w') (λw' he=>⟨rfl,he⟩);refine Calls.mono g (λe W' hh=> ?_)
 cases e with
 |returned v=>
  obtain ⟨rfl,he⟩:=hh;exact ⟨_,rfl,ui rfl (by kernel_rfl) (by rw [fw];intro t ht;simp only [List.mem_cons,List.not_mem_nil,or_false] at ht;rcases ht with rfl|rfl|rfl<;>exact ⟨by kernel_rfl,of_decide_eq_true (by kernel_rfl)⟩) d rfl he⟩
 |_=>exact hh.elim
theorem l9 (os:Os) (started:os.Started) (H:Type) (enc:TypeId×an->H):
  ReturnsInHanded {} Tryz.checked os 9 .any (λw args=>(Rows.allocSpacesSpec.pre enc prog Tryz.f9 [] false w args/\laidMetH prog iB w)/\sizedMet enc prog Tryz.f9 (OpenSpec.ofChange Rows.allocSpacesSpec) false w args)
   (Rows.allocSpacesSpec.post enc prog Tryz.f9 false true false false):=
 returnsInHanded_of_change_and (C:=Tryz.checked) (X:=λw _=>laidMetH prog iB w) (λ_ _ _ hh h=>h.of_heap hh) Tryz.own started (by kernel_rfl) Tryz.func9
  (ChangeSpec.witness_shaped (enc:=enc) (C:=Tryz.checked) (os:=os) (X:=λw _=>laidMetH prog iB w) false (World.doorLaid prog 400 os) #[.int .u64 0,.int .u64 0,.int .u8 0] 8 rfl (World.shaped_of_RefB (by kernel_rfl) (by kernel_rfl)) (by kernel_rfl) (by kernel_rfl) (by kernel_rfl) (uh os _))
  (λW b args ds gs a c hW _ _ hL _=>p6 W b args ds gs a c hW hL)
theorem p7:Rows.AllocSpacesSaid:=
 OpenClaim.holds_of_wide 9 Tryz.f9 rfl rfl rfl rfl rfl rfl rfl ⟨rfl,rfl,rfl,rfl,rfl⟩ rfl rfl rfl rfl rfl (by kernel_rfl) Tryz.func9 (by kernel_rfl)
  (of_decide_eq_true (by kernel_rfl)) (by unfold Func.isWrapper;first|(rw [if_pos (by decide+kernel)];kernel_rfl)|(rw [if_neg (by decide+kernel)];exact ⟨rfl,rfl⟩))
  (λos started H enc _=>l9 os started H enc)
theorem allocSpaces_holds:Rows.AllocSpacesCardSaid:=
 Claim7.holds_tied_plain_at .later [] [.data,.data] true (true, "819cb7b99e762ee3c5d46c44398008695f54e51fb987793a2b1b8745f578d1a3") false
  p7 (λ_ h=>by cases h) (by kernel_rfl) (λ_ h=>by cases h) allocSpaces_row_tie rfl ⟨rfl,rfl⟩ (by kernel_rfl) rfl
  (λf fn hf b=>by
   obtain rfl:f=9:=Option.some.inj ((show prog.funcNamed "bedrock/bedrocklaw23.AllocSpaces" =some 9 by kernel_rfl).symm.trans hf)|>.symm
   obtain rfl:fn=Tryz.f9:=(Option.some.inj (Tryz.func9.symm.trans b)).symm;exact ⟨by kernel_rfl,λj t ht=>by
    rw [fw] at ht;have hm:t∈ [26,26,5]:=by simpa using Array.mem_of_getElem? ht
    have a:([26,26,5].all λu=> !prog.wantsStandIn u)=true:=by kernel_rfl
    exact (show prog.wantsStandIn t=false by simpa using List.all_eq_true.1 a t hm)⟩)
  (by kernel_rfl)
#print axioms allocSpaces_holds
end Go.Proofs.YtmpehclnnjgmcaaGreatDoor
