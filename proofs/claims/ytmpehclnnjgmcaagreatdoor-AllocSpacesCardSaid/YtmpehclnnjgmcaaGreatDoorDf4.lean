/-
  Part 4 of what the proofs of this seat share.
-/
import Derived.Test.YtmpehclnnjgmcaaGreatDoorDf1
import Derived.Test.YtmpehclnnjgmcaaGreatDoorDf3
import Derived.Test.YtmpehclnnjgmcaaGreatDoorDf2
set_option linter.unusedSimpArgs false
set_option linter.unusedVariables false
set_option maxHeartbeats 20000000
set_option maxRecDepth 100000
set_option linter.defProp false
open Go.Proofs.Tryz (prog)
open Go.RowKit (intOf)
open And renaming intro->e7
open Array renaming getElem?_toList->d6
open Bool renaming false_and->c9,not_eq_true'->dj,and_eq_true->dm,true_and->e9
open Go renaming World->aA,Value->bb
open Go.Builtin renaming delete_->em
open Go.Instr renaming buildSlice->an
open Int renaming toNat_natCast->ch
open List renaming mem_singleton->ab,getElem?_eq_getElem->ap,getElem?_map->aB,mem_range->bl,length_append->bv,mem_of_getElem?->bx,getD_eq_getElem?_getD->cj,map_cons->cm,length_singleton->cn,mem_of_mem_take->cq,take_length->cB,length_cons->cF,map_map->c8,nodup_cons->da,mem_append->db,getElem?_set->dd,foldl_append->df,getElem_mem->dk,map_append->dp,eraseIdx_cons_succ->d5,mem_append_right->d7,mem_of_mem_drop->d9,mem_append_left->eb,getElem?_range->ef,getD_cons_zero->ei,getD_cons_succ->ek,getElem?_inj->eo,ext_getElem?->ep,length_take->eq,filter_cons->eu,cons_append->ew,length_set->eF,length_nil->eN,append_nil->eP,mem_cons->e8
open Nat renaming le_trans->ca,add_assoc->cd,zero_add->cA,not_lt_zero->cO,le_refl->dc,mod_lt->ds,mod_one->el,lt_of_le_of_lt->en,mod_eq_of_lt->eC,mul_comm->fc
open Option renaming getD_some->cx,map_some->cN,isSome_some->d8
namespace Go.Proofs.YtmpehclnnjgmcaaGreatDoor
open Go Go.Sh
noncomputable section
variable (K:K1) (x0 x1 x2 x3 x4 x5 x6 x7 x8 x9 x10 x11 x12 x13 x14 x15 x16 x17 x18 x19 x20 x21 x22 x23 x24 x25 x26 x27 x28 x29 x30 x31 x32 x33 x34 x35 x36 x37 x38 x39:bb) (w:aA)
def Zy:Prop:=
 cL 73 (pA #[x0]) w λa w=>
 gV a false x1 w λb w=>
 gd a false (λk=>bC .lss 3 8 0 b w k) w λc w=>
 au a (.bool true) c w λd w=>
 gV d false x1 w λe w=>
 gd d false (λk=>bC .geq 3 12 60 e w k) w λf w=>
 au d (.bool true) f w λg w=>
 ae g (
 K (.int .u64 ((0:Nat):Int)) w) (
 cL 20 (pA #[x0]) w λh w=>
 cV 3 26 x1 w λi w=>
 bM .mul 26 (cu .u64 8) (.tmp 18) (.int .u64 ((8:Nat):Int)) i w λj w=>
 bT .add 26 16 19 h j w λl w=>
 K l w)
def Tr:=cA2 Tryz.func31 .o Zy
noncomputable def Ts:=uD Tryz.f65 (.s .o (.s .o (.x 0 (.s .o (.b (.l [7] 1 130972 .o))) .o)))
abbrev Tt:=aU prog Tryz.f65.results.toList
def Cr:KF:=kO 0 (cP (pw Ts 3 7) (Tt K) (Tt K) nX)
def abf:Prop:=Cr K (fy 17 0 []) w
def Tu:Prop:=aE [7] 1 (λE=>cP (pw Ts 6 11) E (Tt K) (exB 0 (Cr K) nX)) (fy 17 129 [x0,x7]) w
def Cs (E1:VP1):Prop:=
 bC .lss 3 7 5 x7 w λa w=>
 ae a (
 iA 182 (.pointer (some ⟨0,0,none⟩)) x7 w λb w=>
 lD 3 b w λc w=>
 bT .leq 3 10 13 x0 c w λd w=>
 ae d (
 K (.tuple #[x7,(.int .i64 0)]) w) (
 bC .add 3 7 1 x7 w λe w=>
 E1 e w)) (
 abf K w)
def Ct (I:VP1) (μ:M1) (h0:I x7 w) (hr:∀x7 w,I x7 w->∀E1,Q1 I μ x7 w E1->Cs K x0 x7 w E1):Tu K x0 x7 w:=⟨I,μ,h0,λσ w hI E hE=>cast kR (hr (σ 7) w hI E hE)⟩
def Zz:Prop:=
 bC .lss 3 5 1 x0 w λa w=>
 ae a (
 K (.tuple #[(.int .i64 0),(.int .i64 1)]) w) (
 Tu K x0 (.int .i64 0) w)
def Tv:=cA1 Tryz.func65 Ts.2 Zz
def Tw:Prop:=
 cL 124 (pA #[x0,x1]) w λa w=>
 bM .eql 192 (.tmp 11) (.const (.pointer none)) a (.pointer none) w λb w=>
 ae b (
 K (.int .i64 5) w) (
 nS a w λc w=>
 fA 195 c 1 w λd w=>
 lD 3 d w λe w=>
 bC .lss 3 16 0 e w λf w=>
 ae f (
 K (.int .i64 8) w) (
 nS a w λg w=>
 fA 195 g 3 w λh w=>
 sD 4 h x2 w λw=>
 K (.int .i64 0) w))
def Cu:=cA3 Tryz.func70 .o Tw
def ZA:Prop:=
 bM .eql 31 (.tmp 3) (.const (.pointer none)) x0 (.pointer none) w λa w=>
 ae a (
 K (.int .i64 0) w) (
 nS x0 w λb w=>
 fA 147 b 1 w λc w=>
 lD 3 c w λd w=>
 K d w)
def Tx:=cA1 Tryz.func90 .o ZA
noncomputable def Ty:=uD Tryz.f91 (.s .o (.s .o (.s .o (.x 8 (.s .o (.b (.l [3,13] 6144 8380456 .o))) .o))))
abbrev Tz:=aU prog Tryz.f91.results.toList
def Cv:KF:=kO 8 (cP (pw Ty 4 15) (Tz K) (Tz K) nX)
def TA:Prop:=Cv K (fy 24 8 [x3]) w
def TB:Prop:=aE [3,13] 6144 (λE=>cP (pw Ty 7 23) E (Tz K) (exB 0 (Cv K) nX)) (fy 24 14344 [x3,x11,x12,x13]) w
def Cw:Prop:=
 K x3 w
def Oo:TA K x3 w=Cw K x3 w:=aI λσ=>kR
def sW (E1:VP2):Prop:=
 bT .lss 3 13 12 x13 x12 w λa w=>
 ae a (
 iA 210 x11 x13 w λb w=>
 lD 195 b w λc w=>
 ev prog (Instr.alloc 195 true (.tuple #[])) w λd w=>
 sD 195 d c w λw=>
 fA 195 d 0 w λe w=>
 lD 3 e w λf w=>
 ev prog (an 50 1 #[(0,f)]) w λg w=>
 aY prog .append #[50,50] 50 #[false,false] (pA #[x3,g]) w λh w=>
 bC .add 3 13 1 x13 w λi w=>
 E1 h i w) (
 TA K x3 w)
def Cy (I:VP2) (μ:M2) (h0:I x3 x13 w) (hr:∀x3 x13 w,I x3 x13 w->∀E1,Q2 I μ x3 x13 w E1->sW K x3 x11 x12 x13 w E1):TB K x3 x11 x12 x13 w:=⟨I,μ,h0,λσ w hI E hE=>cast kR (hr (σ 3) (σ 13) w hI E hE)⟩
def ZB:Prop:=
 bM .eql 107 (.tmp 6) (.const (.pointer none)) x0 (.pointer none) w λa w=>
 ae a (
 K (.slice none 0 0) w) (
 nS x0 w λb w=>
 fA 212 b 1 w λc w=>
 lD 210 c w λd w=>
 lN 210 d w λe w=>
 TB K (.slice none 0 0) d e (.int .i64 0) w)
def TC:=cA1 Tryz.func91 Ty.2 ZB
noncomputable def Kb:=uD Tryz.f92 (.s .o (.s .o (.s .o (.x 8 (.s .o (.b (.l [3,13] 6144 8380456 (.s .o (.s .o (.x 14344 .o .o)))))) .o))))
abbrev Kc:=aU prog Tryz.f92.results.toList
def sY:KF:=kO 8 (cP (pw Kb 4 15) (Kc K) (Kc K) nX)
def TD:Prop:=sY K (fy 24 8 [x3]) w
def TE:Prop:=aE [3,13] 6144 (λE=>cP (pw Kb 7 23) E (Kc K) (exB 0 (sY K) nX)) (fy 24 14344 [x3,x11,x12,x13]) w
def TF (E1:VP2):KF:=kO 14344 (cP (pw Kb 10 919) (sE2 E1 3 13) (Kc K) (exB 0 (sY K) nX))
def G9 (K:K1) (E1:VP2) (x3 x11 x12 x13:bb) (w:aA):Prop:=TF K E1 (fy 24 14344 [x3,x11,x12,x13]) w
def Cz:Prop:=
 K x3 w
def Oq:TD K x3 w=Cz K x3 w:=aI λσ=>kR
def mN (E1:VP2):Prop:=
 bT .lss 3 13 12 x13 x12 w λa w=>
 ae a (
 iA 210 x11 x13 w λb w=>
 lD 195 b w λc w=>
 ev prog (Instr.alloc 195 true (.tuple #[])) w λd w=>
 sD 195 d c w λw=>
 fA 195 d 1 w λe w=>
 lD 3 e w λf w=>
 bC .lss 3 18 0 f w λg w=>
 ae g (
 bC .add 3 20 1 x3 w λh w=>
 G9 K E1 h x11 x12 x13 w) (
 G9 K E1 x3 x11 x12 x13 w)) (
 TD K x3 w)
def CA (I:VP2) (μ:M2) (h0:I x3 x13 w) (hr:∀x3 x13 w,I x3 x13 w->∀E1,Q2 I μ x3 x13 w E1->mN K x3 x11 x12 x13 w E1):TE K x3 x11 x12 x13 w:=⟨I,μ,h0,λσ w hI E hE=>cast kR (hr (σ 3) (σ 13) w hI E hE)⟩
def jK (E1:VP2):Prop:=
 bC .add 3 13 1 x13 w λa w=>
 E1 x3 a w
def wM (E1:VP2):G9 K E1 x3 x11 x12 x13 w=jK x3 x13 w E1:=aI λσ=>kR
def ZC:Prop:=
 bM .eql 107 (.tmp 6) (.const (.pointer none)) x0 (.pointer none) w λa w=>
 ae a (
 K (.int .i64 0) w) (
 nS x0 w λb w=>
 fA 212 b 1 w λc w=>
 lD 210 c w λd w=>
 lN 210 d w λe w=>
 TE K (.int .i64 0) d e (.int .i64 0) w)
def TG:=cA1 Tryz.func92 Kb.2 ZC
noncomputable def Ha:=uD Tryz.f114 (.s .o (.s .o (.s .o (.x 1 (.s .o (.b (.l [24] 8388611 35184355315520 .o))) .o))))
abbrev Hb:=aU prog Tryz.f114.results.toList
def wO:KF:=kO 1 (cP (pw Ha 4 15) (Hb K) (Hb K) nX)
def Kd:Prop:=wO K (fy 47 1 [x0]) w
def Ke:Prop:=aE [24] 8388611 (λE=>cP (pw Ha 7 23) E (Hb K) (exB 0 (wO K) nX)) (fy 47 25165827 [x0,x1,x23,x24]) w
def wP:Prop:=
 bn prog x0 "Err" (pA #[]) w fun a w=>
 K a w
def Hc:Kd K x0 w=wP K x0 w:=aI λσ=>kR
def ph (E1:VP1):Prop:=
 bT .lss 3 24 23 x24 x23 w λa w=>
 ae a (
 bC .mul 3 29 32 x24 w λb w=>
 bT .add 3 28 30 x1 b w λc w=>
 cL 155 (pA #[c,(.int .u16 ((1:Nat):Int))]) w λd w=>
 eX d 0 w λe w=>
 eX d 1 w λf w=>
 bC .neq 28 35 0 f w λg w=>
 ae g (
 K f w) (
 cL 99 (pA #[e,x0]) w λh w=>
 bC .neq 28 41 0 h w λi w=>
 ae i (
 K h w) (
 bC .add 3 24 1 x24 w λj w=>
 E1 j w))) (
 Kd K x0 w)
def Am (I:VP1) (μ:M1) (h0:I x24 w) (hr:∀x24 w,I x24 w->∀E1,Q1 I μ x24 w E1->ph K x0 x1 x23 x24 w E1):Ke K x0 x1 x23 x24 w:=⟨I,μ,h0,λσ w hI E hE=>cast kR (hr (σ 24) w hI E hE)⟩
def TH:Prop:=
 cL 154 (pA #[x0,x1,x2]) w λa w=>
 ev prog (Op.unary .not a) w λb w=>
 ae b (
 K (.int .i64 1) w) (
 bn prog x0 "Err" (pA #[]) w fun c w=>
 bC .neq 28 19 0 c w λd w=>
 ae d (
 K c w) (
 bC .quo 3 22 32 x2 w λe w=>
 Ke K x0 x1 e (.int .i64 0) w))
def Ot:=cA3 Tryz.func114 Ha.2 TH
noncomputable def An:=uD Tryz.f115 (.s .o (.s .o (.s .o (.x 128 (.s .o (.b (.l [7,25] 25165830 35184338535040 (.s .o (.s .o (.x 58720390 .o .o)))))) .o))))
abbrev Ao:=aU prog Tryz.f115.results.toList
def pj:KF:=kO 128 (cP (pw An 4 15) (Ao K) (Ao K) nX)
def Kf:Prop:=pj K (fy 46 128 [x7]) w
def Kg:Prop:=aE [7,25] 25165830 (λE=>cP (pw An 7 23) E (Ao K) (exB 0 (pj K) nX)) (fy 46 58720390 [x1,x2,x7,x23,x24,x25]) w
def Ou (E1:VP2):KF:=kO 58720390 (cP (pw An 10 919) (sE2 E1 7 25) (Ao K) (exB 0 (pj K) nX))
def Ap (K:K1) (E1:VP2) (x1 x2 x7 x23 x24 x25:bb) (w:aA):Prop:=Ou K E1 (fy 46 58720390 [x1,x2,x7,x23,x24,x25]) w
def wQ:Prop:=
 K x7 w
def Hd:Kf K x7 w=wQ K x7 w:=aI λσ=>kR
def ik (E1:VP2):Prop:=
 bT .lss 3 25 24 x25 x24 w λa w=>
 ae a (
 iA 210 x23 x25 w λb w=>
 lD 195 b w λc w=>
 ev prog (Instr.alloc 195 true (.tuple #[])) w λd w=>
 sD 195 d c w λw=>
 fA 195 d 2 w λe w=>
 lD 3 e w λf w=>
 bT .eql 3 30 31 f x1 w λg w=>
 gd g true (λk=>fA 195 d 1 w k) w λh w=>
 gd g true (λk=>lD 3 h w k) w λi w=>
 gV g true x2 w λj w=>
 gd g true (λk=>bT .eql 3 35 36 i j w k) w λl w=>
 au g l (.bool false) w λm w=>
 ae m (
 fA 195 d 0 w λn w=>
 lD 3 n w λo w=>
 ev prog (an 50 1 #[(0,o)]) w λp w=>
 aY prog .append #[50,50] 50 #[false,false] (pA #[x7,p]) w λq w=>
 Ap K E1 x1 x2 q x23 x24 x25 w) (
 Ap K E1 x1 x2 x7 x23 x24 x25 w)) (
 Kf K x7 w)
def Aq (I:VP2) (μ:M2) (h0:I x7 x25 w) (hr:∀x7 x25 w,I x7 x25 w->∀E1,Q2 I μ x7 x25 w E1->ik K x1 x2 x7 x23 x24 x25 w E1):Kg K x1 x2 x7 x23 x24 x25 w:=⟨I,μ,h0,λσ w hI E hE=>cast kR (hr (σ 7) (σ 25) w hI E hE)⟩
def il (E1:VP2):Prop:=
 bC .add 3 25 1 x25 w λa w=>
 E1 x7 a w
def lY (E1:VP2):Ap K E1 x1 x2 x7 x23 x24 x25 w=il x7 x25 w E1:=aI λσ=>kR
def TI:Prop:=
 bM .eql 107 (.tmp 10) (.const (.pointer none)) x0 (.pointer none) w λa w=>
 gV a false x1 w λb w=>
 gd a false (λk=>bC .lss 3 13 0 b w k) w λc w=>
 au a (.bool true) c w λd w=>
 gV d false x2 w λe w=>
 gd d false (λk=>bC .lss 3 17 0 e w k) w λf w=>
 au d (.bool true) f w λg w=>
 ae g (
 K (.slice none 0 0) w) (
 nS x0 w λh w=>
 fA 212 h 1 w λi w=>
 lD 210 i w λj w=>
 lN 210 j w λl w=>
 Kg K x1 x2 (.slice none 0 0) j l (.int .i64 0) w)
def Ov:=cA3 Tryz.func115 An.2 TI
noncomputable def TJ:=uD Tryz.f116 (.s .o (.s .o (.s .o (.s .o (.s .o (.s .o (.x 3591 .o .o)))))))
abbrev TK:=aU prog Tryz.f116.results.toList
def Ow:KF:=kO 3591 (cP (pw TJ 7 127) (TK K) (TK K) nX)
def kG:Prop:=Ow K (fy 95 3591 [x0,x1,x2,x9,x10,x11]) w
def wR:Prop:=
 bC .neq 28 55 0 x10 w λa w=>
 ae a (
 K (.tuple #[(.int .i64 0),x10]) w) (
 nR x9 w.drew λb=>
 fR 195 b 0 w.drew λc=>
 lR 3 c w.drew λd=>
 fR 132 x11 2 w.drew λe=>
 lR 130 e w.drew λf=>
 rd prog (Instr.build 132 #[(0,x2),(1,x1),(2,f)]) w.drew λg=>
 cL 118 (pA #[d,g]) w.drew λh w=>
 xR h 0 w λi=>
 xR h 1 w λj=>
 bC .neq 28 71 0 j w λl w=>
 ae l (
 K (.tuple #[(.int .i64 0),j]) w) (
 nS x0 w λm w=>
 fA 212 m 0 w λn w=>
 lD 106 n w λo w=>
 cL 99 (pA #[i,o]) w λp w=>
 bC .neq 28 80 0 p w λq w=>
 ae q (
 K (.tuple #[(.int .i64 0),p]) w) (
 nS x9 w λs w=>
 fA 195 s 1 w λt w=>
 sD 3 t x2 w λw=>
 nS x9 w λv w=>
 fA 195 v 2 w λy w=>
 sD 3 y x1 w λw=>
 nS x9 w λz w=>
 fA 195 z 0 w λa0 w=>
 lD 3 a0 w λa1 w=>
 K (.tuple #[a1,(.int .i64 0)]) w)))
def He:kG K x0 x1 x2 x9 x10 x11 w=wR K x0 x1 x2 x9 x10 x11 w:=aI λσ=>kR
def TL:Prop:=
 bM .eql 107 (.tmp 14) (.const (.pointer none)) x0 (.pointer none) w λa w=>
 ae a (
 K (.tuple #[(.int .i64 0),(.int .i64 5)]) w) (
 bC .lss 3 16 0 x1 w λb w=>
 gV b false x1 w λc w=>
 gd b false (λk=>bC .geq 3 19 8 c w k) w λd w=>
 au b (.bool true) d w λe w=>
 gV e false x2 w λf w=>
 gC e false 135 (pA #[f]) w λg w=>
 gd e false (λk=>bC .eql 3 24 0 g w k) w λh w=>
 au e (.bool true) h w λi w=>
 ae i (
 K (.tuple #[(.int .i64 0),(.int .i64 1)]) w) (
 nS x0 w λj w=>
 fA 212 j 0 w λl w=>
 lD 106 l w λm w=>
 bn prog m "Err" (pA #[]) w fun n w=>
 bC .neq 28 32 0 n w λo w=>
 ae o (
 K (.tuple #[(.int .i64 0),n]) w) (
 cL 156 (pA #[x0]) w λp w=>
 eX p 0 w λq w=>
 eX p 1 w λs w=>
 bC .neq 28 40 0 s w λt w=>
 ae t (
 K (.tuple #[(.int .i64 0),s]) w) (
 nR x0 w.drew λv=>
 fR 212 v 0 w.drew λy=>
 lR 106 y w.drew λz=>
 nR q w.drew λa0=>
 fR 195 a0 0 w.drew λa1=>
 lR 3 a1 w.drew λa2=>
 (cL 129 (pA #[z,a2]) w.drew λa3 w=>
 xR a3 0 w λa4=>
 xR a3 1 w λa5=>
 ev prog (Instr.alloc 132 true (.tuple #[])) w λa6 w=>
 (br prog x0 w (λu=>u=v))/\
 (fG 212 v 0 w y)/\
 (lG 106 y w z)/\
 (br prog q w (λu=>u=a0))/\
 (fG 195 a0 0 w a1)/\
 (lG 3 a1 w a2)/\
 sD 132 a6 a4 w λw=>
 kG K x0 x1 x2 q a5 a6 w)/\
 (ev prog (Instr.alloc 132 true (.tuple #[])) w.drew λa7 w=>
 (br prog x0 w (λu=>u=v))/\
 (fG 212 v 0 w y)/\
 (lG 106 y w z)/\
 (br prog q w (λu=>u=a0))/\
 (fG 195 a0 0 w a1)/\
 (lG 3 a1 w a2)/\
 cL 129 (pA #[z,a2]) w λa8 w=>
 xR a8 0 w λa9=>
 xR a8 1 w λb0=>
 sD 132 a7 a9 w λw=>
 kG K x0 x1 x2 q b0 a7 w)))))
def Ox:=cA3 Tryz.func116 TJ.2 TL
noncomputable def Hf:=uD Tryz.f120 (.s .o (.s .o (.s .o (.s .o (.x 512 (.s .o (.b (.l [29] 268435971 2305843008676838592 .o))) .o)))))
abbrev Hg:=aU prog Tryz.f120.results.toList
def wT:KF:=kO 512 (cP (pw Hf 5 31) (Hg K) (Hg K) nX)
def Kh:Prop:=wT K (fy 62 512 [x9]) w
def Ki:Prop:=aE [29] 268435971 (λE=>cP (pw Hf 8 47) E (Hg K) (exB 0 (wT K) nX)) (fy 62 805306883 [x0,x1,x9,x28,x29]) w
def wU:Prop:=
 K (.tuple #[x9,(.int .i64 0)]) w
def Hh:Kh K x9 w=wU K x9 w:=aI λσ=>kR
def kH (E1:VP1):Prop:=
 bT .lss 3 29 28 x29 x28 w λa w=>
 ae a (
 bC .mul 3 33 32 x29 w λb w=>
 bT .add 3 32 34 x1 b w λc w=>
 cL 129 (pA #[x0,c]) w λd w=>
 eX d 0 w λe w=>
 eX d 1 w λf w=>
 ev prog (Instr.alloc 132 true (.tuple #[])) w λg w=>
 sD 132 g e w λw=>
 bC .neq 28 42 0 f w λh w=>
 ae h (
 K (.tuple #[(.pointer none),f]) w) (
 nR x9 w.drew λi=>
 fR 212 i 1 w.drew λj=>
 lR 210 j w.drew λl=>
 fR 132 g 0 w.drew λm=>
 lR 3 m w.drew λn=>
 fR 132 g 1 w.drew λo=>
 lR 3 o w.drew λp=>
 rd prog (Instr.build 195 #[(0,c),(1,n),(2,p)]) w.drew λq=>
 ev prog (an 210 1 #[(0,q)]) w.drew λs w=>
 (br prog x9 w (λu=>u=i))/\
 (fG 212 i 1 w j)/\
 (lG 210 j w l)/\
 aY prog .append #[210,210] 210 #[false,false] (pA #[l,s]) w λt w=>
 nR x9 w λv=>
 fR 212 v 1 w λy=>
 sD 210 y t w λw=>
 bC .add 3 29 1 x29 w λz w=>
 E1 z w)) (
 Kh K x9 w)
def As (I:VP1) (μ:M1) (h0:I x29 w) (hr:∀x29 w,I x29 w->∀E1,Q1 I μ x29 w E1->kH K x0 x1 x9 x28 x29 w E1):Ki K x0 x1 x9 x28 x29 w:=⟨I,μ,h0,λσ w hI E hE=>cast kR (hr (σ 29) w hI E hE)⟩
def TM:Prop:=
 cL 154 (pA #[x0,x1,x2]) w λa w=>
 ev prog (Op.unary .not a) w λb w=>
 ae b (
 K (.tuple #[(.pointer none),(.int .i64 1)]) w) (
 bn prog x0 "Err" (pA #[]) w fun c w=>
 bC .neq 28 21 0 c w λd w=>
 ae d (
 K (.tuple #[(.pointer none),c]) w) (
 ev prog (Instr.build 212 #[(0,x0)]) w λe w=>
 ev prog (Instr.box 212 e) w λf w=>
 bC .quo 3 27 32 x2 w λg w=>
 Ki K x0 x1 f g (.int .i64 0) w))
def Oy:=cA3 Tryz.func120 Hf.2 TM
noncomputable def Hi:=uD Tryz.f124 (.s .o (.s .o (.x 0 (.s .o (.b (.l [13] 4099 8589926448 .o))) .o)))
abbrev Hj:=aU prog Tryz.f124.results.toList
def wV:KF:=kO 0 (cP (pw Hi 3 7) (Hj K) (Hj K) nX)
def Kj:Prop:=wV K (fy 33 0 []) w
def Kk:Prop:=aE [13] 4099 (λE=>cP (pw Hi 6 11) E (Hj K) (exB 0 (wV K) nX)) (fy 33 12291 [x0,x1,x12,x13]) w
def wW:Prop:=
 K (.pointer none) w
def Hk:Kj K w=wW K w:=aI λσ=>kR
def ip (E1:VP1):Prop:=
 bT .lss 3 13 12 x13 x12 w λa w=>
 ae a (
 nS x0 w λb w=>
 fA 212 b 1 w λc w=>
 lD 210 c w λd w=>
 iA 210 d x13 w λe w=>
 fA 195 e 0 w λf w=>
 lD 3 f w λg w=>
 bT .eql 3 23 24 g x1 w λh w=>
 ae h (
 nS x0 w λi w=>
 fA 212 i 1 w λj w=>
 lD 210 j w λl w=>
 iA 210 l x13 w λm w=>
 K m w) (
 bC .add 3 13 1 x13 w λn w=>
 E1 n w)) (
 Kj K w)
def mO (I:VP1) (μ:M1) (h0:I x13 w) (hr:∀x13 w,I x13 w->∀E1,Q1 I μ x13 w E1->ip K x0 x1 x12 x13 w E1):Kk K x0 x1 x12 x13 w:=⟨I,μ,h0,λσ w hI E hE=>cast kR (hr (σ 13) w hI E hE)⟩
def Hl:Prop:=
 bM .eql 107 (.tmp 6) (.const (.pointer none)) x0 (.pointer none) w λa w=>
 ae a (
 K (.pointer none) w) (
 nS x0 w λb w=>
 fA 212 b 1 w λc w=>
 lD 210 c w λd w=>
 lN 210 d w λe w=>
 Kk K x0 x1 e (.int .i64 0) w)
def wX:=cA2 Tryz.func124 Hi.2 Hl
noncomputable def sZ:=uD Tryz.f127 (.s .o (.s .o (.x 8 (.s .o (.b (.l [3,8] 192 4194088 (.s .o (.s .o (.x 456 (.b (.s .o (.s .o (.b (.l [3,5,12] 448 2093096 .o))))) .o)))))) .o)))
abbrev s8:=aU prog Tryz.f127.results.toList
def kI:KF:=kO 8 (cP (pw sZ 3 7) (s8 K) (s8 K) nX)
def Kl:Prop:=kI K (fy 24 8 [x3]) w
def Km:Prop:=aE [3,8] 192 (λE=>cP (pw sZ 6 11) E (s8 K) (exB 0 (kI K) nX)) (fy 24 456 [x3,x6,x7,x8]) w
def pt (E1:VP2):KF:=kO 456 (cP (pw sZ 9 459) (sE2 E1 3 8) (s8 K) (exB 0 (kI K) nX))
def Kn (K:K1) (E1:VP2) (x3 x6 x7 x8:bb) (w:aA):Prop:=pt K E1 (fy 24 456 [x3,x6,x7,x8]) w
def Ko (K:K1) (E1:VP2) (x3 x5 x6 x7 x8 x12:bb) (w:aA):Prop:=aE [3,5,12] 448 (λE=>cP (pw sZ 14 3275) E (s8 K) (exB 2 (pt K E1) (exB 1 (pt K E1) (exB 0 (kI K) nX)))) (fy 24 4584 [x3,x5,x6,x7,x8,x12]) w
def wY:Prop:=
 ev prog (Op.unary .xor x3) w λa w=>
 K a w
def Hm:Kl K x3 w=wY K x3 w:=aI λσ=>kR
def py (E1:VP2):Prop:=
 bT .lss 3 8 7 x8 x7 w λa w=>
 ae a (
 iA 58 x6 x8 w λb w=>
 lD 26 b w λc w=>
 Ko K E1 x3 c x6 x7 x8 (.int .i64 0) w) (
 Kl K x3 w)
def Au (I:VP2) (μ:M2) (h0:I x3 x8 w) (hr:∀x3 x8 w,I x3 x8 w->∀E1,Q2 I μ x3 x8 w E1->py K x3 x6 x7 x8 w E1):Km K x3 x6 x7 x8 w:=⟨I,μ,h0,λσ w hI E hE=>cast kR (hr (σ 3) (σ 8) w hI E hE)⟩
def wZ (E1:VP2):Prop:=
 bC .add 3 8 1 x8 w λa w=>
 E1 x3 a w
def Hn (E1:VP2):Kn K E1 x3 x6 x7 x8 w=wZ x3 x8 w E1:=aI λσ=>kR
def xd (E1:VP2) (E2:VP3):Prop:=
 bC .lss 3 12 8 x12 w λa w=>
 ae a (
 cV 26 5 x5 w λb w=>
 cL 174 (pA #[x3,b]) w λc w=>
 bU .shr 26 18 .u64 8 x5 w λd w=>
 bC .add 3 12 1 x12 w λe w=>
 E2 c d e w) (
 Kn K E1 x3 x6 x7 x8 w)
def Av (E1:VP2) (I:VP3) (μ:M3) (h0:I x3 x5 x12 w) (hr:∀x3 x5 x12 w,I x3 x5 x12 w->∀E2,Q3 I μ x3 x5 x12 w E2->xd K x3 x5 x6 x7 x8 x12 w E1 E2):Ko K E1 x3 x5 x6 x7 x8 x12 w:=⟨I,μ,h0,λσ w hI E hE=>cast kR (hr (σ 3) (σ 5) (σ 12) w hI E hE)⟩
def TN:Prop:=
 lN 58 x0 w λa w=>
 Km K (.int .u32 ((4294967295:Nat):Int)) x0 a (.int .i64 0) w
def Oz:=cA1 Tryz.func127 sZ.2 TN
def TO:Prop:=
 cL 124 (pA #[x0,x1]) w λa w=>
 bM .neq 192 (.tmp 9) (.const (.pointer none)) a (.pointer none) w λb w=>
 ae b (
 nS a w λc w=>
 fA 195 c 2 w λd w=>
 lD 3 d w λe w=>
 K e w) (
 K (.int .i64 (-1)) w)
def OA:=cA2 Tryz.func152 .o TO
def TP:Prop:=
 bM .eql 106 (.tmp 8) (.const .nilIface) x0 .nilIface w λa w=>
 gV a false x1 w λb w=>
 gd a false (λk=>bC .lss 3 11 0 b w k) w λc w=>
 au a (.bool true) c w λd w=>
 gV d false x2 w λe w=>
 gd d false (λk=>bC .lss 3 15 32 e w k) w λf w=>
 au d (.bool true) f w λg w=>
 ae g (
 K (.bool false) w) (
 bn prog x0 "Size" (pA #[]) w fun h w=>
 bU .quo 26 19 .u64 64 h w λi w=>
 cV 3 26 x1 w λj w=>
 bT .gtr 26 22 23 j i w λl w=>
 gV l false x2 w λm w=>
 gd l false (λk=>cV 3 26 m w k) w λn w=>
 gV l false i w λo w=>
 gV l false x1 w λp w=>
 gd l false (λk=>cV 3 26 p w k) w λq w=>
 gd l false (λk=>bT .sub 26 28 30 o q w k) w λs w=>
 gd l false (λk=>bT .gtr 26 27 31 n s w k) w λt w=>
 au l (.bool true) t w λv w=>
 ae v (
 K (.bool false) w) (
 cV 3 26 x1 w λy w=>
 bC .quo 3 36 32 x2 w λz w=>
 cV 3 26 z w λa0 w=>
 bU .mul 26 38 .u64 32 a0 w λa1 w=>
 bT .add 26 35 39 y a1 w λa2 w=>
 bU .leq 26 40 .u64 4096 a2 w λa3 w=>
 K a3 w))
def OB:=cA3 Tryz.func154 .o TP
noncomputable def tc:=uD Tryz.f156 (.s .o (.x 1 (.s .o (.b (.l [15] 16385 17179836444 .o))) (.x 1 (.s .o (.b (.l [39] 274877906945 2305842459457880556 .o))) .o)))
abbrev pz:=aU prog Tryz.f156.results.toList
def xe:KF:=kO 1 (cP (pr (pr tc)) (pz K) (pz K) nX)
def Kp:Prop:=xe K (fy 69 1 [x0]) w
def Kq:Prop:=aE [15] 16385 (λE=>cP (pw tc 5 5) E (pz K) (exB 0 (xe K) nX)) (fy 69 49153 [x0,x14,x15]) w
def xf:KF:=kO 1 (cP (pw tc 3 7) (pz K) (pz K) nX)
def Kr:Prop:=xf K (fy 69 1 [x0]) w
def Kt:Prop:=aE [39] 274877906945 (λE=>cP (pw tc 6 11) E (pz K) (exB 2 (xf K) nX)) (fy 69 824633720833 [x0,x38,x39]) w
def xg:Prop:=
 nS x0 w λa w=>
 fA 212 a 1 w λb w=>
 lD 210 b w λc w=>
 lN 210 c w λd w=>
 Kt K x0 d (.int .i64 0) w
def Ho:Kp K x0 w=xg K x0 w:=aI λσ=>kR
def kJ (E1:VP1):Prop:=
 bT .lss 3 15 14 x15 x14 w λa w=>
 ae a (
 nS x0 w λb w=>
 fA 212 b 1 w λc w=>
 lD 210 c w λd w=>
 iA 210 d x15 w λe w=>
 fA 195 e 1 w λf w=>
 lD 3 f w λg w=>
 bC .lss 3 25 0 g w λh w=>
 ae h (
 nS x0 w λi w=>
 fA 212 i 1 w λj w=>
 lD 210 j w λl w=>
 iA 210 l x15 w λm w=>
 K (.tuple #[m,(.int .i64 0)]) w) (
 bC .add 3 15 1 x15 w λn w=>
 E1 n w)) (
 Kp K x0 w)
def Aw (I:VP1) (μ:M1) (h0:I x15 w) (hr:∀x15 w,I x15 w->∀E1,Q1 I μ x15 w E1->kJ K x0 x14 x15 w E1):Kq K x0 x14 x15 w:=⟨I,μ,h0,λσ w hI E hE=>cast kR (hr (σ 15) w hI E hE)⟩
def xh:Prop:=
 nS x0 w λa w=>
 fA 212 a 0 w λb w=>
 lD 106 b w λc w=>
 bn prog c "Err" (pA #[]) w fun d w=>
 bC .neq 28 66 0 d w λe w=>
 ae e (
 K (.tuple #[(.pointer none),d]) w) (
 K (.tuple #[(.pointer none),(.int .i64 4)]) w)
def Hp:Kr K x0 w=xh K x0 w:=aI λσ=>kR
def pB (E1:VP1):Prop:=
 bT .lss 3 39 38 x39 x38 w λa w=>
 ae a (
 nS x0 w λb w=>
 fA 212 b 1 w λc w=>
 lD 210 c w λd w=>
 iA 210 d x39 w λe w=>
 cL 183 (pA #[x0,e]) w λf w=>
 eX f 0 w λg w=>
 eX f 1 w λh w=>
 ae h (
 cL 184 (pA #[x0,e,g]) w λi w=>
 K (.tuple #[e,i]) w) (
 bC .add 3 39 1 x39 w λj w=>
 E1 j w)) (
 Kr K x0 w)
def Ax (I:VP1) (μ:M1) (h0:I x39 w) (hr:∀x39 w,I x39 w->∀E1,Q1 I μ x39 w E1->pB K x0 x38 x39 w E1):Kt K x0 x38 x39 w:=⟨I,μ,h0,λσ w hI E hE=>cast kR (hr (σ 39) w hI E hE)⟩
def TQ:Prop:=
 nS x0 w λa w=>
 fA 212 a 1 w λb w=>
 lD 210 b w λc w=>
 lN 210 c w λd w=>
 Kq K x0 d (.int .i64 0) w
def OC:=cA1 Tryz.func156 tc.2 TQ
noncomputable def TR:=uD Tryz.f183 (.s .o (.s .o (.x 194 .o .o)))
abbrev TS:=aU prog Tryz.f183.results.toList
def OD:KF:=kO 194 (cP (pw TR 3 7) (TS K) (TS K) nX)
def mP:Prop:=OD K (fy 55 194 [x1,x6,x7]) w
def xi:Prop:=
 bC .neq 28 34 0 x7 w λa w=>
 ae a (
 K (.tuple #[(.slice none 0 0),(.bool false)]) w) (
 lD 134 x6 w λb w=>
 cL 157 (pA #[b]) w λc w=>
 eX c 0 w λd w=>
 eX c 1 w λe w=>
 ev prog (Op.unary .not e) w λf w=>
 ae f (
 K (.tuple #[(.slice none 0 0),(.bool false)]) w) (
 nS x1 w λg w=>
 fA 195 g 0 w λh w=>
 lD 3 h w λi w=>
 cL 155 (pA #[i,d]) w λj w=>
 eX j 0 w λl w=>
 eX j 1 w λm w=>
 bC .eql 28 53 0 m w λn w=>
 K (.tuple #[l,n]) w))
def Hq:mP K x1 x6 x7 w=xi K x1 x6 x7 w:=aI λσ=>kR
def Ay:Prop:=
 nS x1 w λa w=>
 fA 195 a 1 w λb w=>
 lD 3 b w λc w=>
 bC .lss 3 14 0 c w λd w=>
 gV d false x1 w λe w=>
 gd d false (λk=>nS e w k) w λf w=>
 gd d false (λk=>fA 195 f 3 w k) w λg w=>
 gd d false (λk=>lD 4 g w k) w λh w=>
 au d (.bool true) h w λi w=>
 ae i (
 K (.tuple #[(.slice none 0 0),(.bool false)]) w) (
 nR x0 w.drew λj=>
 fR 212 j 0 w.drew λl=>
 lR 106 l w.drew λm=>
 nR x1 w.drew λn=>
 fR 195 n 0 w.drew λo=>
 lR 3 o w.drew λp=>
 (cL 75 (pA #[m,p]) w.drew λq w=>
 xR q 0 w λs=>
 xR q 1 w λt=>
 ev prog (Instr.alloc 134 true (.tuple #[])) w λv w=>
 (br prog x0 w (λu=>u=j))/\
 (fG 212 j 0 w l)/\
 (lG 106 l w m)/\
 (br prog x1 w (λu=>u=n))/\
 (fG 195 n 0 w o)/\
 (lG 3 o w p)/\
 sD 134 v s w λw=>
 mP K x1 v t w)/\
 (ev prog (Instr.alloc 134 true (.tuple #[])) w.drew λy w=>
 (br prog x0 w (λu=>u=j))/\
 (fG 212 j 0 w l)/\
 (lG 106 l w m)/\
 (br prog x1 w (λu=>u=n))/\
 (fG 195 n 0 w o)/\
 (lG 3 o w p)/\
 cL 75 (pA #[m,p]) w λz w=>
 xR z 0 w λa0=>
 xR z 1 w λa1=>
 sD 134 y a0 w λw=>
 mP K x1 y a1 w))
def pC:=cA2 Tryz.func183 TR.2 Ay
def TT:Prop:=
 nS x0 w λa w=>
 fA 212 a 0 w λb w=>
 lD 106 b w λc w=>
 cL 99 (pA #[x2,c]) w λd w=>
 bC .neq 28 14 0 d w λe w=>
 ae e (
 K d w) (
 nS x1 w λf w=>
 fA 195 f 1 w λg w=>
 sD 3 g (.int .i64 (-1)) w λw=>
 nS x1 w λh w=>
 fA 195 h 2 w λi w=>
 sD 3 i (.int .i64 (-1)) w λw=>
 K (.int .i64 0) w)
def OF:=cA3 Tryz.func184 .o TT
end
def plL (f:Nat->Int×Int×Bool) (l0:Nat):Nat->List bb
 |0=> []
 |n+1=>plL f l0 n++ [.int .i64 ((l0+32*n:Nat):Int),.int .i64 (f n).1,.int .i64 (f n).2.1,.bool (f n).2.2]
def Az (f:Nat->Int×Int×Bool) (l0:Nat):∀n,(plL f l0 n).length=n*4
 |0=>rfl
 |n+1=>by simp [plL,Az f l0 n];omega
def Ku (f:Nat->Int×Int×Bool) (l0:Nat):∀n k,k<n->(plL f l0 n)[k*4]? =some (.int .i64 ((l0+32*k:Nat):Int))/\(plL f l0 n)[k*4+1]? =some (.int .i64 (f k).1)/\(plL f l0 n)[k*4+2]? =some (.int .i64 (f k).2.1)/\(plL f l0 n)[k*4+3]? =some (.bool (f k).2.2)
 |0,k,h=>absurd h (cO _)
 |n+1,k,h=>by
  have hl:=Az f l0 n;unfold plL;by_cases e:k=n
  ·subst e;refine ⟨?_,?_,?_,?_⟩<;>rw [List.getElem?_append_right oM]<;>simp [hl]
  ·have:=Ku f l0 n k oM;refine ⟨?_,?_,?_,?_⟩<;>rw [List.getElem?_append_left oM]
   ·exact this.1
   ·exact this.2.1
   ·exact this.2.2.1
   ·exact this.2.2.2
def pD {f g:Nat->Int×Int×Bool} {l0:Nat}:∀{n},(∀k,k<n->f k=g k)->plL f l0 n=plL g l0 n
 |0,_=>rfl
 |n+1,h=>by unfold plL;rw [pD (λk hk=>h k oM),h n oM]
def upF {α:Type} (f:Nat->α) (k:Nat) (v:α) (j:Nat):α:=if j=k then v else f j
def bu {α:Type} (f:Nat->α) (k:Nat) (v:α):upF f k v k=v:=if_pos rfl
def bO {α:Type} (f:Nat->α) {k j:Nat} (v:α) (h:j≠k):upF f k v j=f j:=if_neg h
def qQ (f:Nat->Int×Int×Bool) (l0:Nat):∀n k,k<n->(∀c,(plL f l0 n).set (k*4+1) (.int .i64 c)=plL (upF f k (c,(f k).2)) l0 n)/\(∀c,(plL f l0 n).set (k*4+2) (.int .i64 c)=plL (upF f k ((f k).1,c,(f k).2.2)) l0 n)/\(∀c,(plL f l0 n).set (k*4+3) (.bool c)=plL (upF f k ((f k).1,(f k).2.1,c)) l0 n)
 |0,k,h=>absurd h (cO _)
 |n+1,k,h=>by
  have hl:=Az f l0 n;unfold plL;by_cases e:k=n
  ·subst e;have hc:∀v,plL (upF f k v) l0 k=plL f l0 k:=λv=>pD (λj hj=>bO f v oM)
   refine ⟨λc=> ?_,λc=> ?_,λc=> ?_⟩<;>rw [List.set_append_right _ _ oM,hc,bu,hl]
   ·rw [show k*4+1-k*4=1 by omega];rfl
   ·rw [show k*4+2-k*4=2 by omega];rfl
   ·rw [show k*4+3-k*4=3 by omega];rfl
  ·obtain ⟨h1,h2,h3⟩:=qQ f l0 n k oM;refine ⟨λc=> ?_,λc=> ?_,λc=> ?_⟩<;>rw [List.set_append_left _ _ oM,bO _ _ (λh=>e h.symm)]
   ·rw [h1]
   ·rw [h2]
   ·rw [h3]
def arF (T b o n cp:Nat) (i:Nat):bb:= [Value.iface 31 (.pointer (some ⟨T,0,none⟩)),.slice (some ⟨b,o,none⟩) n cp].getD i undef
structure ArS (w0 w:aA) (Y:Lay) (D:DS) (S b o cp l0 n:Nat) (f:Nat->Int×Int×Bool):Prop where
 L:Lv w0 w Y D
 gl:bq w0
 st:af w S 212 2 (arF (Y.tb 0) b o n cp)
 pl:SlO w 195 4 (.slice (some ⟨b,o,none⟩) n cp) n (plL f l0 n)
 nS:w0.heap.size<=S/\¬Y.F S/\S≠b
 nb:w0.heap.size<=b/\¬Y.F b
 n0:0<n
 lt:l0+32*n<=D.n
abbrev stV (S:Nat):bb:= .pointer (some ⟨S,0,none⟩)
section
variable {w0 w w':aA} {Y Y':Lay} {D D':DS} {S b o cp l0 n:Nat} {f f':Nat->Int×Int×Bool}
def ArS.ext (h:ArS w0 w Y D S b o cp l0 n f) (e:Ext w w'):ArS w0 w' Y D S b o cp l0 n f:=⟨h.L.ext e,h.gl,h.st.ext e,h.pl.ext e,h.nS,h.nb,h.n0,h.lt⟩
def ArS.step (h:ArS w0 w Y D S b o cp l0 n f) (s:Stp w Y w' Y' D') (gd:aH D') (hn:D'.n=D.n):ArS w0 w' Y' D' S b o cp l0 n f:=by
 have tb:Y'.tb 0=Y.tb 0:=by rw [s.tb]
 have hb:b<w.heap.size:=h.pl.lt rfl;refine ⟨h.L.step s gd,h.gl,?_,h.pl.frm s.frm (λx hx=>by injection hx with hx;subst hx;exact h.nb.2),⟨h.nS.1,λhf=> ?_,h.nS.2.2⟩,⟨h.nb.1,λhf=> ?_⟩,h.n0,by rw [hn];exact h.lt⟩
 ·rw [tb];exact h.st.frm s.frm h.nS.2.1
 ·rcases s.fr S hf with h1|h1
  ·exact h.nS.2.1 h1
  ·have:=h.st.lt;omega
 ·rcases s.fr b hf with h1|h1
  ·exact h.nb.2 h1
  ·omega
def ArS.c0 (h:ArS w0 w Y D S b o cp l0 n f):w.cell? ⟨S,0,none⟩=some (.iface 31 (.pointer (some ⟨Y.tb 0,0,none⟩))):=h.st.cell (i:=0) oM
def ArS.c1 (h:ArS w0 w Y D S b o cp l0 n f):w.cell? ⟨S,1,none⟩=some (.slice (some ⟨b,o,none⟩) n cp):=h.st.cell (i:=1) oM
def ArS.p (h:ArS w0 w Y D S b o cp l0 n f) {k:Nat} (hk:k<n):w.cell? ⟨b,o+k*4,none⟩=some (.int .i64 ((l0+32*k:Nat):Int))/\w.cell? ⟨b,o+k*4+1,none⟩=some (.int .i64 (f k).1)/\w.cell? ⟨b,o+k*4+2,none⟩=some (.int .i64 (f k).2.1)/\w.cell? ⟨b,o+k*4+3,none⟩=some (.bool (f k).2.2):=by
 have hg:=Ku f l0 n k hk;refine ⟨h.pl.cell rfl hg.1,?_,?_,?_⟩
 ·rw [cd];exact h.pl.cell rfl hg.2.1
 ·rw [cd];exact h.pl.cell rfl hg.2.2.1
 ·rw [cd];exact h.pl.cell rfl hg.2.2.2
def ArS.fz (h:ArS w0 w Y D S b o cp l0 n f):∀i,w.frozen? ⟨b,i,none⟩=false:=λi=>h.pl.frz rfl i
def ArS.ltb (h:ArS w0 w Y D S b o cp l0 n f):b<w.heap.size:=h.pl.lt rfl
def ArS.ltS (h:ArS w0 w Y D S b o cp l0 n f):S<w.heap.size:=h.st.lt
def ArS.er (h:ArS w0 w Y D S b o cp l0 n f):∀(w1:aA) (K:K1),Ext w w1->ad prog 28 #[.pointer (some ⟨Y.tb 0,0,none⟩)] w1 K=K (.int .i64 (D.err 0)) w1:=λw1 K e=>by rw [cM (h.L.dv.ext e) 0 oM K]
def ArS.le (h:ArS w0 w Y D S b o cp l0 n f):n<=128/\l0<=4096:=by have:=h.lt;have:=h.L.gd.n;omega
def CB (h:ArS w0 w Y D S b o cp l0 n f) {k:Nat} (hk:k<n) (K:K1) (hK:∀w',Ext w w'->K (.pointer (some ⟨b,o+k*4,none⟩)) w'):
  ad prog 124 #[stV S,.int .i64 ((l0+32*k:Nat):Int)] w K:=by
 have c:=h.le;have s1:=h.c1;refine wX _ _ _ _ ?_;unfold Hl;refine zS1 s1 ?_;apply mO (I:=λz w'=>∃i:Nat,z= .int .i64 (i:Int)/\i<=k/\Ext w w') (μ:=λz _=>n-(intOf z).toNat)
 ·exact ⟨0,rfl,by omega,xZ⟩
 ·intros;rename_i w1 hI E1 hE;obtain ⟨i,rfl,hi,e1⟩:=hI;have h1:=h.ext e1;have s1:=h1.c1;have a:=h1.p (show i<n by omega);have q0:=a.1;have q1:=a.2.1;have q2:=a.2.2.1;have q3:=a.2.2.2;by_cases hik:i<k
  ·have ne:¬((l0+32*i:Nat):Int)=((l0+32*k:Nat):Int):=oM;unfold ip;refine zS3 s1 q0 ne ?_;apply hE
   ·exact ⟨i+1,by simp,by omega,e1⟩
   ·simp [intOf];omega
  ·have:i=k:=oM;subst this;unfold ip;refine zS2 s1 q0 ?_;exact hK _ e1
def TU (h:ArS w0 w Y D S b o cp l0 n f) {x:Int} (hx:∀k,k<n->x≠((l0+32*k:Nat):Int)) (K:K1) (hK:∀w',Ext w w'->K (.pointer none) w'):
  ad prog 124 #[stV S,.int .i64 x] w K:=by
 have c:=h.le;have s1:=h.c1;refine wX _ _ _ _ ?_;unfold Hl;refine zS1 s1 ?_;apply mO (I:=λz w'=>∃i:Nat,z= .int .i64 (i:Int)/\i<=n/\Ext w w') (μ:=λz _=>n-(intOf z).toNat)
 ·exact ⟨0,rfl,by omega,xZ⟩
 ·intros;rename_i w1 hI E1 hE;obtain ⟨i,rfl,hi,e1⟩:=hI;have h1:=h.ext e1;have s1:=h1.c1;by_cases hin:i<n
  ·have a:=h1.p hin;have q0:=a.1;have q1:=a.2.1;have q2:=a.2.2.1;have q3:=a.2.2.2;have ne:¬((l0+32*i:Nat):Int)=x:=λe=>hx i hin e.symm
   unfold ip;refine zS3 s1 q0 ne ?_;apply hE
   ·exact ⟨i+1,by simp,by omega,e1⟩
   ·simp [intOf];omega
  ·have:i=n:=oM;subst this;unfold ip;refine zS2 @Hk @wW.eq_1 ?_;exact hK _ e1
def xj (h:ArS w0 w Y D S b o cp l0 n f) {k:Nat} (hk:k<n) (K:K1) (hK:∀w',Ext w w'->K (.int .i64 (f k).2.1) w'):
  ad prog 152 #[stV S,.int .i64 ((l0+32*k:Nat):Int)] w K:=by
 refine OA _ _ _ _ ?_;unfold TO;refine zS0 ?_;refine CB h hk _ (λw1 e1=> ?_);have a:=(h.ext e1).p hk;have q0:=a.1;have q1:=a.2.1;have q2:=a.2.2.1;have q3:=a.2.2.2;refine zS1 q2 ?_;exact hK _ e1
def frC (f:Nat->Int×Int×Bool):Nat->Nat
 |0=>0
 |n+1=>frC f n+if (f n).1<0 then 1 else 0
def TV (f:Nat->Int×Int×Bool):∀n,frC f n<=n
 |0=>dc _
 |n+1=>by have:=TV f n;unfold frC;split<;>omega
def AA (h:ArS w0 w Y D S b o cp l0 n f) (K:K1) (hK:∀w',Ext w w'->K (.int .i64 ((frC f n:Nat):Int)) w'):
  ad prog 92 #[stV S] w K:=by
 have c:=h.le;have s1:=h.c1;refine TG _ _ _ ?_;unfold ZC;refine zS1 s1 ?_;apply CA (I:=λx z w'=>∃i:Nat,z= .int .i64 (i:Int)/\i<=n/\x= .int .i64 ((frC f i:Nat):Int)/\Ext w w') (μ:=λ_ z _=>n-(intOf z).toNat)
 ·exact ⟨0,rfl,by omega,rfl,xZ⟩
 ·intros;rename_i w1 hI E1 hE;obtain ⟨i,rfl,hi,rfl,e1⟩:=hI;have h1:=h.ext e1;have hc:=TV f i;by_cases hin:i<n
  ·have a:=h1.p hin;have q0:=a.1;have q1:=a.2.1;have q2:=a.2.2.1;have q3:=a.2.2.2;have ltb:=h1.ltb;have hs:frC f (i+1)=frC f i+if (f i).1<0 then 1 else 0:=rfl
   generalize (f i).1=c1 at*;by_cases hc1:c1<0
   ·rw [if_pos hc1] at hs;unfold mN;refine zS8 q0 q1 q2 q3 hc1 @wM @jK.eq_1 @jK.eq_1 ?_;apply hE
    ·exact ⟨i+1,by simp,by omega,by rw [hs];simp,xZ⟩
    ·simp [intOf];omega
   ·rw [if_neg hc1] at hs;unfold mN;refine zS8 q0 q1 q2 q3 hc1 @wM @jK.eq_1 @jK.eq_1 ?_;apply hE
    ·exact ⟨i+1,by simp,by omega,by rw [hs];simp,xZ⟩
    ·simp [intOf];omega
  ·have:i=n:=oM;subst this;unfold mN;refine zS2 @Oq @Cz.eq_1 ?_;exact hK _ e1
def ZD:ElT prog 50 50 3 1 8 (.int .i64 0):=jz
def lnL (p:Nat->Bool) (l0:Nat):Nat->List Int
 |0=> []
 |n+1=>lnL p l0 n++if p n then [((l0+32*n:Nat):Int)] else []
def qR (p:Nat->Bool) (l0:Nat):∀n,(lnL p l0 n).length<=n
 |0=>dc _
 |n+1=>by have:=qR p l0 n;unfold lnL;split<;>simp<;>omega
def qS (h:ArS w0 w Y D S b o cp l0 n f) (K:K1) (hK:∀v w',Ext w w'->bw w.heap.size v->SlO w' 3 1 v (lnL (λ_=>true) l0 n).length (aX (lnL (λ_=>true) l0 n))->K v w'):
  ad prog 91 #[stV S] w K:=by
 have t:=h.le;have s1:=h.c1;refine TC _ _ _ ?_;unfold ZB;refine zS1 s1 ?_;apply Cy (I:=λx z w'=>∃i:Nat,z= .int .i64 (i:Int)/\i<=n/\SlO w' 3 1 x (lnL (λ_=>true) l0 i).length (aX (lnL (λ_=>true) l0 i))/\Frm Nob w w'/\bw w.heap.size x) (μ:=λ_ z _=>n-(intOf z).toNat)
 ·exact ⟨0,rfl,by omega,SlO.nil _ _ _,(by repeat (first|exact Frm.refl _ _|with_reducible refine Frm.set ?_ _ (λ_=>rfl)|with_reducible refine Frm.alloc ?_ _|with_reducible refine Frm.drew ?_)),λb hb=>by cases hb⟩
 ·intros;rename_i x3 z w1 hI E1 hE;obtain ⟨i,rfl,hi,hs,hf,c⟩:=hI;have e1:Ext w w1:=hf.to_ext (λ_ _ h=>h);have h1:=h.ext e1;have q:=qR (λ_=>true) l0 i;by_cases hin:i<n
  ·have a:=h1.p hin;have q0:=a.1;have q1:=a.2.1;have q2:=a.2.2.1;have q3:=a.2.2.2;have ltb:=h1.ltb;obtain ⟨pa,pc,rfl,r⟩:=hs.isS';have e:lnL (λ_=>true) l0 (i+1)=lnL (λ_=>true) l0 i++ [((l0+32*i:Nat):Int)]:=rfl;generalize lnL (λ_=>true) l0 i=l at*;unfold sW;refine zS4 q0 q1 q2 q3 ?_;refine bD ZD (w0:=w) (hs.ext xZ) (hf.ext xZ) c (m:=1) (news:= [.int .i64 ((l0+32*i:Nat):Int)]) rfl ?_ rfl oM oM oM (λv' w4 g d n4 k s=> ?_)
   ·intro j u hj;obtain ⟨rfl,rfl⟩:=mI hj;exact yS0
   refine zS0 ?_;apply hE
   ·refine ⟨i+1,by simp,by omega,?_,d,n4⟩;rw [e,bv];simpa [aX] using g
   ·simp [intOf];omega
  ·have:i=n:=oM;subst this;unfold sW;refine zS2 @Oo @Cw.eq_1 ?_;exact hK _ _ e1 c hs
def TW (h:ArS w0 w Y D S b o cp l0 n f) (t c:Int) (t0:0<=t) (c0:0<=c) (K:K1) (hK:∀v w',Ext w w'->bw w.heap.size v->SlO w' 3 1 v (lnL (λk=>decide ((f k).2.1=t)&&decide ((f k).1=c)) l0 n).length (aX (lnL (λk=>decide ((f k).2.1=t)&&decide ((f k).1=c)) l0 n))->K v w'):
  ad prog 115 #[stV S,.int .i64 t,.int .i64 c] w K:=by
 have B:=h.le;have s1:=h.c1;refine Ov _ _ _ _ _ ?_;unfold TI;refine zS1 s1 ?_;apply Aq (I:=λx z w'=>∃i:Nat,z= .int .i64 (i:Int)/\i<=n/\SlO w' 3 1 x (lnL (λk=>decide ((f k).2.1=t)&&decide ((f k).1=c)) l0 i).length (aX (lnL (λk=>decide ((f k).2.1=t)&&decide ((f k).1=c)) l0 i))/\Frm Nob w w'/\bw w.heap.size x) (μ:=λ_ z _=>n-(intOf z).toNat)
 ·exact ⟨0,rfl,by omega,SlO.nil _ _ _,(by repeat (first|exact Frm.refl _ _|with_reducible refine Frm.set ?_ _ (λ_=>rfl)|with_reducible refine Frm.alloc ?_ _|with_reducible refine Frm.drew ?_)),λb hb=>by cases hb⟩
 ·intros;rename_i x3 z w1 hI E1 hE;obtain ⟨i,rfl,hi,hs,hf,d⟩:=hI;have e1:Ext w w1:=hf.to_ext (λ_ _ h=>h);have h1:=h.ext e1;have s:=qR (λk=>decide ((f k).2.1=t)&&decide ((f k).1=c)) l0 i;by_cases hin:i<n
  ·have a:=h1.p hin;have q0:=a.1;have q1:=a.2.1;have q2:=a.2.2.1;have q3:=a.2.2.2;have ltb:=h1.ltb;obtain ⟨pa,pc,rfl,y⟩:=hs.isS';have e:lnL (λk=>decide ((f k).2.1=t)&&decide ((f k).1=c)) l0 (i+1)=lnL (λk=>decide ((f k).2.1=t)&&decide ((f k).1=c)) l0 i++if (decide ((f i).2.1=t)&&decide ((f i).1=c))=true then [((l0+32*i:Nat):Int)] else []:=rfl
   generalize lnL (λk=>decide ((f k).2.1=t)&&decide ((f k).1=c)) l0 i=l at*;generalize (f i).1=ci at*;generalize (f i).2.1=oi at*;by_cases ho:oi=t
   ·by_cases hc:ci=c
    ·subst ho;subst hc;unfold ik;refine zS4 q0 q1 q2 q3 ?_;refine bD ZD (w0:=w) (hs.ext xZ) (hf.ext xZ) d (m:=1) (news:= [.int .i64 ((l0+32*i:Nat):Int)]) rfl ?_ rfl oM oM oM (λv' w4 q g n4 r A=> ?_)
     ·intro j u hj;obtain ⟨rfl,rfl⟩:=mI hj;exact yS0
     refine zS2 @lY @il.eq_1 ?_;apply hE
     ·refine ⟨i+1,by simp,by omega,?_,g,n4⟩;rw [e];simp only [decide_true,Bool.and_true,if_true,bv];simpa [aX] using q
     ·simp [intOf];omega
    ·unfold ik;refine zS8 q0 q1 q2 q3 ho hc @lY @il.eq_1 ?_;apply hE
     ·refine ⟨i+1,by simp,by omega,?_,hf.ext xZ,d⟩;rw [e,decide_eq_false hc,Bool.and_false,if_neg (by decide),eP];exact hs.ext xZ
     ·simp [intOf];omega
   ·unfold ik;refine zS8 q0 q1 q2 q3 ho @lY @il.eq_1 @il.eq_1 ?_;apply hE
    ·refine ⟨i+1,by simp,by omega,?_,hf.ext xZ,d⟩;rw [e,decide_eq_false ho,c9,if_neg (by decide),eP];exact hs.ext xZ
    ·simp [intOf];omega
  ·have:i=n:=oM;subst this;unfold ik;refine zS2 @Hd @wQ.eq_1 ?_;exact hK _ _ e1 d hs
end
section
variable {D:DS} {l g:Nat} {c o:Int}
def XR (c0:0<=c) (c5:c<5) (o0:0<=o) (o8:o<8) (b:g≠0) (hg:g<65536) (h0:wd D l 0=sealN (hdX c o g)) (a:∀j,j≠0->j<8->wd D l j=0) (at_:∀i:Nat,(i:Int)<perS c->wd D l (offN c i)=sealN (dg g 0 176)):Snd D l c o:=by
 have hh:=acs c0 c5 o0 o8 b hg;refine ⟨by rw [h0];exact hh.1,by rw [h0];exact hh.2.1,by rw [h0];exact hh.2.2.1,λj h2 h8=>a j oM h8,λi hi=> ?_,λi hi=> ?_,λi hi=> ?_⟩
 ·rw [at_ i hi];exact i9 hg oM oM
 ·rw [at_ i hi,Ae hg oM oM,G4 hg oM oM,oZ hg oM oM];simp [bR,b]
 ·rw [a 1 oM oM,acu];by_cases h:(i:Int)<perS c
  ·rw [at_ i h,oZ hg oM oM];simp
  ·simp [h]
def kK (on:On D) (gd:aH D) (hl:l+32<=D.n) (hg:g<65536):On (D.run 0 (cD l g))/\aH (D.run 0 (cD l g))/\(D.run 0 (cD l g)).n=D.n/\(∀i∈cD l g,okI i)/\wd (D.run 0 (cD l g)) l 0=sealN (hdX (-1) (-1) g):=by
 have hs:=fj (hdX (-1) (-1) g) (pd oM oM oM oM hg);have hn:=gd.n;have h1:=On.stores on [(l*64,sealN (hdX (-1) (-1) g))] (λx hx=>by simp only [ab] at hx;subst hx;simp only;omega);have ok:∀i∈cD l g,okI i:=bt (λx hx=>by simp only [ab] at hx;subst hx;exact ⟨by simp only;omega,hs⟩);refine ⟨h1.1,aH.run 0 oM _ _ gd ok,fh 0 _ D,ok,?_⟩;have e:(D.run 0 (cD l g)).cur=aD [(l*64,sealN (hdX (-1) (-1) g))] D.cur:=h1.2;unfold wd;rw [e];refine cI (λy hy _=> ?_) (.inl ⟨(l*64,sealN (hdX (-1) (-1) g)),by simp,by simp only;omega⟩);simp only [ab] at hy;subst hy;rfl
def te (on:On D) (gd:aH D) (hl:l+32<=D.n) (c0:0<=c) (c5:c<5) (o0:0<=o) (o8:o<8) (m:g≠0) (hg:g<65536):On (D.run 0 (planI l c o g))/\aH (D.run 0 (planI l c o g))/\(D.run 0 (planI l c o g)).n=D.n/\(∀i∈planI l c o g,okI i)/\Snd (D.run 0 (planI l c o g)) l c o/\wd (D.run 0 (planI l c o g)) l 0=sealN (hdX c o g)/\∀i:Nat,(i:Int)<perS c->wd (D.run 0 (planI l c o g)) l (offN c i)=sealN (dg g 0 176):=by
 have hp:=aJ c0 c5;have hn:=gd.n;have hb:=fj (dg g 0 176) (mG hg oM oM);have hd:=fj (hdX c o g) (pd oM c5 oM o8 hg);have pw:∀x∈cT l c g,(x.1%8=0/\x.1<D.n*64)/\x.1<18446744073709551616/\x.2<18446744073709551616:=by
  intro x hx;rcases List.mem_append.1 hx with hx|hx
  ·obtain ⟨j,hj,rfl⟩:=List.mem_map.1 hx;have p:=bF c0 c5 (show 0<=(j:Int) by omega) (by rw [bl] at hj;omega);have hw:=aW c0 c5;simp only;omega
  ·obtain ⟨j,hj,rfl⟩:=List.mem_map.1 hx;rw [bl] at hj;simp only;omega
 have b:∀x∈ [(l*64,sealN (hdX c o g))],(x.1%8=0/\x.1<D.n*64)/\x.1<18446744073709551616/\x.2<18446744073709551616:=λx hx=>by
  simp only [ab] at hx;subst hx;simp only;omega
 have ok:∀i∈planI l c o g,okI i:=by
  intro i hi;rcases List.mem_append.1 hi with hi|hi
  ·exact bt (λx hx=>(pw x hx).2) i hi
  ·exact bt (λx hx=>(b x hx).2) i hi
 have h1:=On.stores on (cT l c g) (λx hx=>(pw x hx).1);have n1:(D.run 0 (az (cT l c g))).n=D.n:=fh 0 _ D;have h2:=On.stores h1.1 [(l*64,sealN (hdX c o g))] (λx hx=>by rw [n1];exact (b x hx).1);have er:D.run 0 (planI l c o g)=(D.run 0 (az (cT l c g))).run 0 (az [(l*64,sealN (hdX c o g))]):=by unfold planI;rw [cH]
 have q:=aH.run 0 oM _ _ gd ok;have n3:(D.run 0 (planI l c o g)).n=D.n:=fh 0 _ D;have ec:(D.run 0 (planI l c o g)).cur=aD [(l*64,sealN (hdX c o g))] (aD (cT l c g) D.cur):=by rw [er,h2.2,h1.2]
 have k:On (D.run 0 (planI l c o g)):=by rw [er];exact h2.1
 generalize D.run 0 (planI l c o g)=E at*;have w0:wd E l 0=sealN (hdX c o g):=by
  unfold wd;rw [ec];refine cI (λy hy _=> ?_) (.inl ⟨(l*64,sealN (hdX c o g)),by simp,by simp only;omega⟩);simp only [ab] at hy;subst hy;rfl
 have ho:∀(j:Nat) (f:Nat->Nat),j≠0->aD [(l*64,sealN (hdX c o g))] f (l*8+j)=f (l*8+j):=λj f hj=>bi _ _ _ (λy hy=>by simp only [ab] at hy;subst hy;simp only;omega)
 have hA:∀j,∀y∈cT l c g,y.1/8=l*8+j->(8<=j/\y.2=sealN (dg g 0 176))\/(j<8/\y.2=0):=by
  intro j y hy a;rcases List.mem_append.1 hy with hy|hy
  ·obtain ⟨i,hi,rfl⟩:=List.mem_map.1 hy;rw [bl] at hi;have p:=bF c0 c5 (show 0<=(i:Int) by omega) oM;left;simp only at a;exact ⟨by omega,rfl⟩
  ·obtain ⟨i,hi,rfl⟩:=List.mem_map.1 hy;rw [bl] at hi;right;simp only at a;exact ⟨by omega,rfl⟩
 have e:∀j,j≠0->j<8->wd E l j=0:=by
  intro j h0 h8;unfold wd;rw [ec,ho j _ h0];refine cI (λy hy a=> ?_) (.inl ⟨(l*64+(j-1+1)*8,0),d7 _ (List.mem_map.2 ⟨j-1,List.mem_range.2 oM,rfl⟩),by simp only;omega⟩);rcases hA j y hy a with h|h
  ·omega
  ·exact h.2
 have d:∀i:Nat,(i:Int)<perS c->wd E l (offN c i)=sealN (dg g 0 176):=by
  intro i hi;have bd:=aK c0 c5 hi;unfold wd;rw [ec,ho _ _ oM];refine cI (λy hy a=> ?_) (.inl ⟨_,eb _ (List.mem_map.2 ⟨i,List.mem_range.2 oM,rfl⟩),?_⟩)
  ·rcases hA _ y hy a with h|h
   ·exact h.2
   ·omega
  ·simp only;omega
 exact ⟨k,q,n3,ok,XR c0 c5 o0 o8 m hg w0 e d,w0,d⟩
end
def OG (n:Nat) (b a:Int):Bool:=decide (0<=b)&&(decide (32<=a)&&decide (b+a<=(n:Int)))
section
variable {w0 w w':aA} {Y Y':Lay} {D D':DS} {S b o cp l0 n:Nat} {f f':Nat->Int×Int×Bool}
def CC (h:Dv w Y D) (g:aH D) (c b:Int) (h1: -9223372036854775808<=c) (h2:c<9223372036854775808) (h3: -9223372036854775808<=b) (h4:b<9223372036854775808) (K:K1) (hK:∀w',Ext w w'->K (.bool (OG D.n c b)) w'):
  ad prog 154 #[thV Y,.int .i64 c,.int .i64 b] w K:=by
 have hn:=g.n;have d:∀(w1:aA) (K:K1),Ext w w1->ad prog 105 #[.pointer (some ⟨Y.tb 0,0,none⟩)] w1 K=K (.int .u64 ((D.n*64:Nat):Int)) w1:=λw1 K e=>km (h.ext e) g 0 oM K
 have hq:D.n*64/64=D.n:=oM;refine OB _ _ _ _ _ ?_;unfold thV TP;unfold OG at hK;by_cases a0:c<0
 ·rw [decide_eq_false (show ¬0<=c by omega),c9] at hK;refine eQ d hq a0 ?_;exact hK _ xZ
 ·rw [decide_eq_true (show 0<=c by omega),e9] at hK;by_cases a1:b<32
  ·rw [decide_eq_false (show ¬32<=b by omega),c9] at hK;refine rN d hq a0 a1 ?_;exact hK _ xZ
  ·rw [decide_eq_true (show 32<=b by omega),e9] at hK;obtain ⟨a,rfl⟩:∃a:Nat,c=(a:Int):=⟨c.toNat,by omega⟩;obtain ⟨q,rfl⟩:∃q:Nat,b=(q:Int):=⟨b.toNat,by omega⟩;by_cases a2:D.n<a
   ·rw [decide_eq_false (show ¬(a:Int)+(q:Int)<=(D.n:Int) by omega)] at hK;refine dY d hq a0 a1 a2 a2 ?_;exact hK _ xZ
   ·by_cases a3:D.n-a<q
    ·rw [decide_eq_false (show ¬(a:Int)+(q:Int)<=(D.n:Int) by omega)] at hK;refine dY d hq a0 a1 a2 a3 ?_;exact hK _ xZ
    ·rw [decide_eq_true (show (a:Int)+(q:Int)<=(D.n:Int) by omega)] at hK;have a4:a+q/32*32<=4096:=oM;refine fp d hq a0 a1 a2 a3 a4 a4 ?_;exact hK _ xZ
def jL (l g:Nat):(cD l g).length<=3:=by
 have:=aR [(l*64,sealN (hdX (-1) (-1) g))];simpa [cD] using this
def gM (D:DS) (l0:Nat):Nat->DS
 |0=>D
 |k+1=>(gM D l0 k).run 0 (cD (l0+32*k) 1)
def kL (on:On D) (gd:aH D) (hl:l0+32*n<=D.n):∀k,k<=n->On (gM D l0 k)/\aH (gM D l0 k)/\(gM D l0 k).n=D.n/\(gM D l0 k).exe<=D.exe+3*k
 |0,_=>⟨on,gd,rfl,by simp [gM]⟩
 |k+1,hk=>by
  obtain ⟨h1,h2,h3,h4⟩:=kL on gd hl k oM;have c:=kK h1 h2 (l:=l0+32*k) (g:=1) oM oM;refine ⟨c.1,c.2.1,c.2.2.1.trans h3,?_⟩;have:=ee 0 (cD (l0+32*k) 1) (gM D l0 k);have:=jL (l0+32*k) 1;unfold gM;omega
def OH (h:Lv w0 w Y D) (gl:bq w0) (on:On D) (gd:aH D) (hx:D.exe<1000000000) {q:Nat} (hq:32<=q) (hl:l0+q<=D.n) (K:K1) (hK:∀w' Y',Stp w Y w' Y' (gM D l0 (q/32))->K (.int .i64 0) w'):
  ad prog 114 #[thV Y,.int .i64 (l0:Int),.int .i64 (q:Int)] w K:=by
 have hn:=gd.n;have m:OG D.n (l0:Int) (q:Int)=true:=by simp [OG];omega
 have c:∀(w1:aA) (K:K1),Ext w w1->ad prog 28 #[.pointer (some ⟨Y.tb 0,0,none⟩)] w1 K=K (.int .i64 0) w1:=λw1 K e=>by rw [cM (h.dv.ext e) 0 oM K,on.err]
 obtain ⟨n,j⟩:∃n,q/32=n:=⟨_,rfl⟩;rw [j] at hK;refine Ot _ _ _ _ _ ?_;unfold TH;refine zS0 ?_;refine CC h.dv gd _ _ oM oM oM oM _ (λw1 e1=> ?_);rw [m];unfold thV;refine fC c j ?_;apply Am (I:=λz w'=>∃(i:Nat) (Y':Lay),z= .int .i64 (i:Int)/\i<=n/\Stp w Y w' Y' (gM D l0 i)) (μ:=λz _=>n-(intOf z).toNat)
 ·exact ⟨0,Y,rfl,by omega,Stp.ext h.dv e1⟩
 ·intros;rename_i w2 hI E1 hE;obtain ⟨i,Y2,rfl,hi,st⟩:=hI;obtain ⟨f,d,n2,x2⟩:=kL on gd (n:=n) (l0:=l0) oM i hi;have tb:Y2.tb 0=Y.tb 0:=by rw [st.tb]
  have o:bq w2:=gl.ext (h.step st d).ex;have c:∀(w1:aA) (K:K1),Ext w2 w1->ad prog 28 #[.pointer (some ⟨Y.tb 0,0,none⟩)] w1 K=K (.int .i64 0) w1:=λw1 K e=>by rw [<-tb,cM (st.dv.ext e) 0 oM K,f.err]
  by_cases hin:i<n
  ·have e1:(l0:Int)+(i:Int)*32=((l0+32*i:Nat):Int):=oM;have cg:=kK f d (l:=l0+32*i) (g:=1) oM oM;have r:=jL (l0+32*i) 1;have p:=ee 0 (cD (l0+32*i) 1) (gM D l0 i);have k:∀(v:bb) (w3:aA) (K1:K1),SlO w3 220 3 v (cD (l0+32*i) 1).length (inL (cD (l0+32*i) 1))->Ext w2 w3->bw w2.heap.size v->(∀w4 Y4,Stp w2 Y2 w4 Y4 (gM D l0 (i+1))->K1 (.int .i64 0) w4)->ad prog 99 #[v,.iface 31 (.pointer (some ⟨Y.tb 0,0,none⟩))] w3 K1:=by
    intro v w3 K1 hs e nv hk;rw [<-tb];refine sC (st.dv.ext e) d 0 oM _ v hs (λb hb hf=>by have h1:=st.dv.lt hf;have h2:=nv b hb;omega) cg.2.2.2.1 oM _ (λw4 Y4 a=> ?_);have he:((gM D l0 i).run 0 (cD (l0+32*i) 1)).err 0=0:=cg.1.err;rw [he];exact hk w4 Y4 (Stp.pre e (λb hb=>st.dv.lt hb) a)
   unfold ph;refine zS1 e1 ?_;refine J4 o (l0+32*i) 1 oM oM oM _ (λv w3 hs e3 nv=> ?_);refine zS0 ?_;refine k v _ _ (hs.ext xZ) (e3.trans xZ) nv (λw4 Y4 a=> ?_);refine zS0 ?_;apply hE
   ·exact ⟨i+1,Y4,by simp,by omega,st.trans a⟩
   ·simp [intOf];omega
  ·have:i=n:=oM;subst this;unfold ph;refine eQ c @Hc @wP.eq_1 ?_;exact hK _ Y2 st
end
def opF (D:DS) (l0:Nat) (k:Nat):Int×Int×Bool:=(hC (wd D (l0+32*k) 0),hO (wd D (l0+32*k) 0),false)
def adF:ElT prog 210 210 195 4 32 (.agg #[.int .i64 0,.int .i64 0,.int .i64 0,.bool false]):=F3
def OI {e:Nat->Option (Nat×Nat)} {cells:Array bb} {i off:Nat} {a b c d:bb} {f:List (Nat×bb)} (hp:e i=some (off,4)) (ho:off+4<=cells.size):Instr.fill e cells ((i,.agg #[a,b,c,d])::f)=Instr.fill e ((((cells.setIfInBounds off a).setIfInBounds (off+1) b).setIfInBounds (off+2) c).setIfInBounds (off+3) d) f:=by
 rw [Instr.fill,hp];simp only [jW,List.size_toArray,cF,eN];rw [if_neg (by simp;omega)]
 congr 1
def adG (a b c d:bb) (w:aA):(an 210 1 #[(0,.agg #[a,b,c,d])]).run prog w= .ok (.slice (some ⟨w.heap.size,0,none⟩) 1 1) (w.alloc (.cells #[a,b,c,d] 195)):=
 Go.Sh.run_buildSliceS (z:=(.agg #[.int .i64 0,.int .i64 0,.int .i64 0,.bool false])) (show prog.underlying 210=some (.slice 195) from by kernel_rfl) (show szT prog 195=some 4 from by kernel_rfl) (by kernel_rfl) (by decide) (by decide) (by show Instr.fill _ #[.int .i64 0,.int .i64 0,.int .i64 0,.bool false] [(0,.agg #[a,b,c,d])]=_;rw [OI (off:=0) rfl (by simp)];rfl) w
def acw (a b c d:bb) (w:aA) (k:K1):ev prog (an 210 1 #[(0,.agg #[a,b,c,d])]) w k=k (.slice (some ⟨w.heap.size,0,none⟩) 1 1) (w.alloc (.cells #[a,b,c,d] 195)):=aa (adG a b c d w) k
def stF (T:Nat) (v:bb) (i:Nat):bb:= [Value.iface 31 (.pointer (some ⟨T,0,none⟩)),v].getD i undef
section
variable {w0 w w':aA} {Y Y':Lay} {D D':DS} {S b o cp l0 n:Nat} {f f':Nat->Int×Int×Bool}
def Kv (h:Lv w0 w Y D) (gl:bq w0) (ho:D.off=false) (he:D.err 0=0) {q:Nat} (hq:32<=q) (hl:l0+q<=D.n) (B:q/32=n) (K:K1)
  (hb:(¬∀k,k<n->dQ (wd D (l0+32*k) 0)=true)->∀w',Ext w w'->K (.tuple #[.pointer none,.int .i64 11]) w')
  (hK:(∀k,k<n->dQ (wd D (l0+32*k) 0)=true)->∀S b o cp w',Ext w w'->w.heap.size<=S->w.heap.size<=b->ArS w0 w' Y D S b o cp l0 n (opF D l0)->K (.tuple #[stV S,.int .i64 0]) w'):
  ad prog 120 #[thV Y,.int .i64 (l0:Int),.int .i64 (q:Int)] w K:=by
 have hn:=h.gd.n;have E:OG D.n (l0:Int) (q:Int)=true:=by simp [OG];omega
 have y:∀(w1:aA) (K:K1),Ext w w1->ad prog 28 #[.pointer (some ⟨Y.tb 0,0,none⟩)] w1 K=K (.int .i64 0) w1:=λw1 K e=>by rw [cM (h.dv.ext e) 0 oM K,he]
 refine Oy _ _ _ _ _ ?_;unfold TM;refine zS0 ?_;refine CC h.dv h.gd _ _ oM oM oM oM _ (λw1 e1=> ?_);rw [E];unfold thV;refine fC y B ?_;have F:=af.new w1 [Value.iface 31 (.pointer (some ⟨Y.tb 0,0,none⟩)),.slice none 0 0] 212;apply As (I:=λz w'=>∃(i:Nat) (v:bb),z= .int .i64 (i:Int)/\i<=n/\Frm Nob w1 w'/\bw w1.heap.size v/\(∀b,v.ownBlock=some b->b≠w1.heap.size)/\af w' w1.heap.size 212 2 (stF (Y.tb 0) v)/\SlO w' 195 4 v i (plL (opF D l0) l0 i)/\∀k,k<i->dQ (wd D (l0+32*k) 0)=true) (μ:=λz _=>n-(intOf z).toNat)
 ·exact ⟨0,.slice none 0 0,rfl,by omega,(by repeat (first|exact Frm.refl _ _|with_reducible refine Frm.set ?_ _ (λ_=>rfl)|with_reducible refine Frm.alloc ?_ _|with_reducible refine Frm.drew ?_)),λb hb=>(by cases hb),λb hb=>(by cases hb),F,SlO.nil _ _ _,λk hk=>absurd hk (cO _)⟩
 ·intros;rename_i w2 hI E1 hE;obtain ⟨i,v,rfl,hi,f2,nv,vS,hS,hs,g⟩:=hI;have e2:Ext w1 w2:=f2.to_ext (λ_ _ h=>h);have h2:=h.ext (e1.trans e2);by_cases hin:i<n
  ·have c:(l0:Int)+(i:Int)*32=((l0+32*i:Nat):Int):=oM;have s:bq w2:=gl.ext h2.ex
   cases hok:dQ (wd D (l0+32*i) 0) with
   |false=>
    unfold kH;refine zS1 c ?_;refine G5 (h2.dv.ext xZ) h.gd (s.ext xZ) ho he (l0+32*i) oM hok _ (λw3 e3=> ?_);refine zS0 ?_;exact hb (λhh=>by rw [hh i hin] at hok;cases hok) _ (e1.trans (e2.trans xZ))
   |true=>
    obtain ⟨pa,pc,rfl,J⟩:=hs.isS';have x:plL (opF D l0) l0 (i+1)=plL (opF D l0) l0 i++ [.int .i64 ((l0+32*i:Nat):Int),.int .i64 (hC (wd D (l0+32*i) 0)),.int .i64 (hO (wd D (l0+32*i) 0)),.bool false]:=rfl;unfold kH;refine zS1 c ?_;refine sR (h2.dv.ext xZ) h.gd (s.ext xZ) ho he (l0+32*i) oM hok _ (λw3 e3=> ?_);have f:Ext w2 w3:=Ext.trans xZ e3;have d:=hS.ext f;have s1:w3.cell? ⟨w1.heap.size,1,none⟩=some (.slice pa i pc):=d.cell (i:=1) oM;have ltS:=d.lt;generalize hC (wd D (l0+32*i) 0)=cc at*;generalize hO (wd D (l0+32*i) 0)=oo at*;generalize gX (wd D (l0+32*i) 0)=gg at*
    (repeat' first|refine ak (λ_=> ?_) (λ_=> ?_)|refine am ?_ ?_|refine zS3 s1 c @acw ?_|exact yS3 s1 c @acw|fail)
    refine bD adF (w0:=w1) (hs.ext (f.trans xZ)) (f2.ext (f.trans xZ)) nv (m:=1) (news:= [.int .i64 ((l0+32*i:Nat):Int),.int .i64 cc,.int .i64 oo,.bool false]) rfl ?_ rfl oM oM oM (λv' w5 l H n5 t G=> ?_)
    ·intro q u hq;rw [cA,kf,aO _ _ _ _ _ (by simp only [RZ])];simpa using hq
    have a:af w5 w1.heap.size 212 2 (stF (Y.tb 0) (.slice pa i pc)):=(d.ext xZ).frm t (λhb=>vS _ hb rfl);have L:=a.lt;have C:=a.frz;have t1:w5.cell? ⟨w1.heap.size,1,none⟩=some (.slice pa i pc):=a.cell (i:=1) oM;have r:∀b,v'.ownBlock=some b->b≠w1.heap.size:=λb hb e=>by
     rcases G b hb with h5|h5
     ·exact vS b h5 e
     ·simp only [RZ] at h5;omega
    have iv:=jF l;refine zS3 C t1 iv ?_;apply hE
    ·refine ⟨i+1,v',by simp,by omega,H.set _ (λhb=>by simp only at hb;omega),n5,r,?_,?_,λk hk=> ?_⟩
     ·exact (a.set (i:=1) v' oM).congr (λj hj=>by
       rcases j with _|_|j
       ·rfl
       ·rfl
       ·omega)
     ·rw [x];exact l.of_heap (λb hb=>ff _ (r b hb))
     ·by_cases hk2:k<i
      ·exact g k hk2
      ·have:k=i:=oM;subst this;exact hok
    ·simp [intOf];omega
  ·have:i=n:=oM;subst this;have p:0<i:=oM;obtain ⟨b,ob,cap,rfl,_⟩:=hs.isS p;have N:=nv b rfl;have A:=e1.size;unfold kH;refine zS2 @Hh @wU.eq_1 ?_;have M:=h.ex.size;refine hK g _ _ _ _ _ (e1.trans e2) A oM ⟨h2,gl,hS,hs,⟨by omega,λhf=> ?_,λhh=>vS b rfl hh.symm⟩,⟨by omega,λhf=> ?_⟩,p,by omega⟩
   ·have:=h.dv.lt hf;omega
   ·have:=h.dv.lt hf;omega
end
end Go.Proofs.YtmpehclnnjgmcaaGreatDoor
namespace Go.Proofs.YtmpehclnnjgmcaaGreatDoor
def wB (W:Nat->Nat) (i:Nat):Nat:=W (i/8)/2^(8*(i%8))%256
end Go.Proofs.YtmpehclnnjgmcaaGreatDoor
namespace Go.Proofs.YtmpehclnnjgmcaaGreatDoor
open Go Go.Sh
def XS (x m:Nat) (hm:m<8):(x%2^(8*m))|||(x/2^(8*m)%256*2^(8*m))=x%2^(8*(m+1)):=by
 have h1:x%2^(8*m)<2^(8*m):=ds _ (Nat.pow_pos oM);have h2:(x%2^(8*m))|||(x/2^(8*m)%256*2^(8*m))=2^(8*m)*(x/2^(8*m)%256)+x%2^(8*m):=by
  rw [fc (x/2^(8*m)%256),Nat.or_comm,<-Nat.two_pow_add_eq_or_of_lt h1]
 rw [h2,show 8*(m+1)=8*m+8 by omega,Nat.pow_add,Nat.mod_mul,show 2^8=256 from rfl];omega
section
variable {w w':aA} {Y:Lay} {D D':DS}
def TX {b N cw hb ho hc:Nat} {F:Nat->Nat} (hC:af w b 26 N (λi=>u64 (F i))) (f:hb≠b) (ws:List (Nat×Nat)) (l:∀j x,ws[j]? =some x->w.cell? ⟨hb,ho+j*2,none⟩=some (.int .u64 (x.1:Int))/\w.cell? ⟨hb,ho+j*2+1,none⟩=some (.int .u64 (x.2:Int))) (m:∀x∈ws,x.1<8*N) (hN:N<100000) (hl:ws.length<1099511627776) (K:K1)
  (hK:∀w',af w' b 26 N (λi=>u64 (aD ws F i))->Frm (λx=>x=b) w w'->K (.tuple #[]) w'):
  ad prog 150 #[.slice (some ⟨b,0,none⟩) N cw,.slice (some ⟨hb,ho,none⟩) ws.length hc] w K:=by
 refine vx _ _ _ _ ?_;unfold Gm;refine zS0 ?_;apply my (I:=λx8 w'=>∃j:Nat,x8= .int .i64 (j:Int)/\j<=ws.length/\af w' b 26 N (λi=>u64 (aD (ws.take j) F i))/\Frm (λx=>x=b) w w') (μ:=λx8 _=>ws.length-(intOf x8).toNat)
 ·exact ⟨0,rfl,by omega,by simpa [aD] using hC,Frm.refl _ _⟩
 ·intros;rename_i w1 hI E1 hE;obtain ⟨j,rfl,hj,a,hf⟩:=hI;by_cases hjk:j<ws.length
  ·obtain ⟨x,hx⟩:∃x,ws[j]? =some x:=⟨_,ap hjk⟩;have c:=l j x hx;have n:=m x (bx hx);have d:=ay c.1;have c1:=(hf.cell _ _ d f).trans c.1;have c2:=(hf.cell _ _ d f).trans c.2;have hz:=a.frz;have hi:x.1/8<N:=oM;have c3:=a.cell hi;have k:=(a.set (u64 x.2) hi).alloc;have lb:=a.lt;have h:((x.1:Int)/8)=((x.1/8:Nat):Int):=oM;have g:∀i,u64 (aD (ws.take (j+1)) F i)=if i=x.1/8 then u64 x.2 else u64 (aD (ws.take j) F i):=λi=>by
    rw [cG hx,qf];simp only;by_cases e:i=x.1/8
    ·rw [if_pos e,if_pos e]
    ·rw [if_neg e,if_neg e]
   obtain ⟨xo,xv⟩:=x;simp only at c1 c2 n hi h k g c3;unfold kh;refine zS6 c1 c2 c3 hz h @ch ?_;apply hE
   ·refine ⟨j+1,by simp,by omega,?_,?_⟩
    ·exact (((a.set (u64 xv) hi).congr (λi _=>(g i).symm)).alloc _)
    ·exact (hf.set _ (λ_=>rfl)).alloc _
   ·simp [intOf];omega
  ·have:j=ws.length:=oM;subst this;rw [cB] at a;unfold kh;refine zS0 ?_;exact hK _ a hf
def XT (h:Dv w Y D) (g:aH D) (hx:D.exe<1000000000) (K:K1) (hK:∀(dl:List Nat) v w',Ext w w'->bw w.heap.size v->SlO w' 3 1 v dl.length (aX (dl.map λ(x:Nat)=>(x:Int)))->(∀x∈dl,x<D.n/\0<(D.hist x).length)->dl.length<=D.n->K v w'):
  ad prog 149 #[.pointer (some ⟨Y.d,0,none⟩)] w K:=by
 have hn:=g.n;refine Na _ _ _ ?_;unfold Ri;refine zS1 h.R ?_;apply zt (I:=λx z w'=>∃(j:Nat) (dl:List Nat),z= .int .i64 (j:Int)/\j<=D.n/\SlO w' 3 1 x dl.length (aX (dl.map λ(x:Nat)=>(x:Int)))/\Frm Nob w w'/\bw w.heap.size x/\(∀x∈dl,x<D.n/\0<(D.hist x).length)/\dl.length<=j) (μ:=λ_ z _=>D.n-(intOf z).toNat)
 ·exact ⟨0,[],rfl,by omega,SlO.nil _ _ _,Frm.refl _ _,λb hb=>(by cases hb),λx hx=>(by cases hx),by simp⟩
 ·intros;rename_i x z w1 hI E1 hE;obtain ⟨j,dl,rfl,hj,hs,hf,a,c,e⟩:=hI;have e1:Ext w w1:=hf.to_ext (λ_ _ h=>h);have h1:=h.ext e1;by_cases hjn:j<D.n
  ·have hS:=h1.hs j hjn;have o:=g.cnt j hjn;have c1:=h1.c_hist j hjn;have q:=h1.R;have s:=h1.li.lt;obtain ⟨va,vc,hv,p⟩:=hS.isS';rw [hv] at c1;obtain ⟨pa,pc,rfl,r⟩:=hs.isS';by_cases h0:0<(D.hist j).length
   ·unfold kg;refine zS4 h1.R c1 hv @ch ?_;refine bD jz (w0:=w) (hs.ext xZ) (hf.ext xZ) a (m:=1) (news:= [.int .i64 (j:Int)]) rfl ?_ rfl oM oM oM (λv' w4 l k n4 _ _=> ?_)
    ·intro i u hi;obtain ⟨rfl,rfl⟩:=mI hi;exact yS0
    refine zS2 @rZ @ol.eq_1 ?_;apply hE
    ·refine ⟨j+1,dl++ [j],by simp,by omega,?_,k,n4,λx hx=> ?_,by simp;omega⟩
     ·rw [bv,dp,aX,dp];exact l
     ·rcases List.mem_append.1 hx with hx|hx
      ·exact c x hx
      ·simp only [ab] at hx;subst hx;exact ⟨hjn,h0⟩
    ·simp [intOf];omega
   ·have f:(D.hist j).length=0:=oM;rw [f] at c1 hv;unfold kg;refine zS6 h1.R c1 hv @ch @rZ @ol.eq_1 ?_;apply hE
    ·exact ⟨j+1,dl,by simp,by omega,hs,hf,a,c,by omega⟩
    ·simp [intOf];omega
  ·have:j=D.n:=oM;subst this;unfold kg;refine zS2 @Gl @vw.eq_1 ?_;exact hK dl _ _ e1 a hs c e
def mQ (D:DS) (F:Nat->Nat):Prop:=∀j,j<8*D.n->F j=D.pers j\/∃x∈D.hist (j/8),x.1/8=j/\F j=x.2
def mQ.app {F:Nat->Nat} (h:mQ D F) (g:aH D) {n:Nat} (hn:n<D.n) (k:Nat):mQ D (aD ((D.hist n).take k) F):=by
 intro j hj;have key:∀(ws:List (Nat×Nat)),(∀x∈ws,x∈D.hist n)->∀F,mQ D F->mQ D (aD ws F):=by
  intro ws
  induction ws with
  |nil=>intro _ F hF;exact hF
  |cons x ws ih=>
   intro hm F hF;rw [bQ];refine ih (λy hy=>hm y (by simp [hy])) _ (λi hi=> ?_);have a:=hm x (by simp);have b:=g.hist n hn x.1 x.2 a;by_cases e:i=x.1/8
   ·rw [if_pos e];right;refine ⟨x,?_,e.symm,rfl⟩;rw [show i/8=n by omega];exact a
   ·rw [if_neg e];exact hF i hi
 exact key _ (λx hx=>cq hx) F h j hj
def mQ.lt {F:Nat->Nat} (h:mQ D F) (g:aH D) (j:Nat) (hj:j<8*D.n):F j<18446744073709551616:=by
 rcases h j hj with h1|⟨x,hx,_,h2⟩
 ·rw [h1];exact g.pers j hj
 ·rw [h2];exact (g.hist (j/8) oM x.1 x.2 hx).2.2
def OJ {b cw N:Nat} {F:Nat->Nat} (hC:af w b 26 N (λi=>u64 (F i))) (hF:∀i,i<N->F i<18446744073709551616) (h0:0<N) (hN:N<=40000) (K:K1)
  (hK:∀b' w',Ext w w'->w.heap.size<=b'->af w' b' 5 (8*N) (λi=> .int .u8 ((wB F i:Nat):Int))->K (.slice (some ⟨b',0,none⟩) (8*N) (8*N)) w'):
  ad prog 93 #[.slice (some ⟨b,0,none⟩) N cw] w K:=by
 refine Q7 _ _ _ ?_;unfold Zo;have f1:((N:Int)*8)=((8*N:Nat):Int):=oM;refine zS1 f1 ?_;have d:=gb w (.int .u8 ((0:Nat):Int)) (8*N) 5;have e0:Ext w (w.alloc (.cells (mv (.int .u8 ((0:Nat):Int)) (8*N)) 5)):=Ext.alloc_self _ _;have h:=hC.lt;apply B7 (I:=λz w'=>∃j:Nat,z= .int .i64 (j:Int)/\j<=8*N/\Ext w w'/\∃f:Nat->bb,af w' w.heap.size 5 (8*N) f/\∀i,i<j->f i= .int .u8 ((wB F i:Nat):Int)) (μ:=λz _=>8*N-(intOf z).toNat)
 ·exact ⟨0,rfl,by omega,xZ,_,by simpa using d,λi hi=>by omega⟩
 ·intros;rename_i w1 hI E1 hE;obtain ⟨j,rfl,hj,e1,f,hc,a⟩:=hI;by_cases hjn:j<8*N
  ·have hq:j/8<N:=oM;have f2:((j:Int)/8)=((j/8:Nat):Int):=oM;have f3:((j:Int)%8)=((j%8:Nat):Int):=oM;have f4:(((j%8:Nat):Int)*8)=((8*(j%8):Nat):Int):=oM;have c1:=e1.cell_some (hC.cell hq);have g:=hF _ hq;have hw:wB F j=F (j/8)/2^(8*(j%8))%256:=rfl;have l:F (j/8)/2^(8*(j%8))<18446744073709551616:=en (Nat.div_le_self _ _) g;have c:=λv=>hc.set v hjn
   have c2:=hc.cell hjn;have hz:=hc.frz;have k:=hc.lt;generalize F (j/8)=X at*;have h8:8*(j%8)<64:=oM;generalize 8*(j%8)=sh at*;generalize hy:X/2^sh=y at*;unfold rX;refine zS8 f2 f3 f4 c1 c2 hz hy @ch ?_;apply hE
   ·refine ⟨j+1,by simp,by omega,xZ,_,c _,λi hi=> ?_⟩;by_cases e:i=j
    ·subst e;simp only [if_true];rw [hw]
    ·rw [if_neg e];exact a i oM
   ·simp [intOf];omega
  ·have:j=8*N:=oM;subst this;unfold rX;refine zS2 @MS @B6.eq_1 ?_;exact hK _ _ e1 (dc _) (hc.congr (λi hi=>a i hi))
def lZ (F:Nat->Nat) {n i:Nat} (hi:i<n):((List.range n).map F).getD i 0=F i:=by
 rw [cj,aB,ef hi];rfl
def XU (h:Dv w Y D) (g:aH D) (hx:D.exe<1000000000) {m:Nat} {xu:bb} {us:List Nat} (t:RdS m w xu (u8L us)) (W:∀x∈us,x<256) (a9:us.length<=1000) (K:K1)
  (hK:∀F b w',Ext w w'->mQ D F->w.heap.size<=b->af w' b 5 (8*(8*D.n)) (λi=> .int .u8 ((wB F i:Nat):Int))->K (.slice (some ⟨b,0,none⟩) (8*(8*D.n)) (8*(8*D.n))) w'):
  ad prog 104 #[.pointer (some ⟨Y.d,0,none⟩),xu] w K:=by
 have hn:=g.n;have b2:=g.n0;obtain ⟨ua,uc,rfl,_⟩:=id t;rw [show (u8L us).length=us.length by simp] at t ⊢;have r:((List.range (8*D.n)).map D.pers).length=8*D.n:=by simp
 have G:=h.dev.lt;have V:=h.pe.lt;refine MW _ _ _ _ ?_;unfold Rb;refine zS1 h.R ?_;have L:=oX (w:=w) ((List.range (8*D.n)).map D.pers) Y.pb 0 Y.pc (λj u hj=>by
  rw [cA];rw [aB,aB] at hj;have A:j<8*D.n:=by
   by_cases e:j<8*D.n
   ·exact e
   ·rw [List.getElem?_eq_none (by simp;omega)] at hj;cases hj
  rw [ef A] at hj;simp only [cN,Option.some.injEq] at hj;subst hj;exact h.c_pers j A) V (by rw [r];omega) (by rw [r];omega)
 rw [r] at L;refine L _ (λb cb w1 e1 hC hb b4=> ?_);have M:af w1 b 26 (8*D.n) (λi=>u64 (D.pers i)):=hC.congr (λi hi=>by rw [lZ D.pers hi]);have B:∀(F:Nat->Nat) w2,Ext w w2->mQ D F->af w2 b 26 (8*D.n) (λi=>u64 (F i))->qJ K (.slice (some ⟨b,0,none⟩) (8*D.n) cb) w2:=by
  intro F w2 e2 hF T;rw [Gi];unfold vp;refine OJ T (λi hi=>hF.lt g i hi) oM oM _ (λb' w3 e3 c f=> ?_);exact hK F b' w3 (e2.trans e3) hF (ca e2.size c) f
 have J:mQ D D.pers:=λj hj=> .inl rfl
 by_cases h0:us.length=0
 ·refine zS1 h0 ?_;exact B D.pers w1 e1 J M
 ·refine zS0 ?_;refine XT (h.ext e1) g hx _ (λdl v w2 e2 O C G b0=> ?_);obtain ⟨pa,pc,rfl,b3⟩:=C.isS';refine zS0 ?_;apply zi (I:=λz w'=>∃(j:Nat) (F:Nat->Nat),z= .int .i64 (j:Int)/\j<=dl.length/\Ext w w'/\mQ D F/\af w' b 26 (8*D.n) (λi=>u64 (F i))/\SlO w' 3 1 (.slice pa dl.length pc) dl.length (aX (dl.map λ(x:Nat)=>(x:Int)))) (μ:=λz _=>dl.length-(intOf z).toNat)
  ·exact ⟨0,D.pers,rfl,by omega,e1.trans e2,J,M.ext e2,C⟩
  ·intros;rename_i w3 hI E1 hE;obtain ⟨j,F,rfl,hj,e3,hF,f,k⟩:=hI;by_cases hjl:j<dl.length
   ·have a:=G dl[j] (dk hjl);have S:=k.isS oM;obtain ⟨sb,so,sc,l,_⟩:=S;injection l with l _ _;subst l;have c1:=k.cell rfl (i:=j) (u:= .int .i64 ((dl[j]:Nat):Int)) (by simp [hjl]);generalize dl[j]=n at a c1;have q:j%us.length<us.length:=ds _ oM;have Z:=(t.ext e3).get (Ab q);obtain ⟨ub,uo,b6,s,c2⟩:=Z;injection s with s _ _;subst s;have U:=W us[j%us.length] (dk q);generalize us[j%us.length]=x at c2 U;have hS:=h.hs n a.1;have a3:=g.cnt n a.1;have h3:=h.ext e3;have p:=h3.hs n a.1;have X:=p.isS a.2;obtain ⟨c,ho,o,hv,a4⟩:=X;have c3:=h3.c_hist n a.1;rw [hv] at c3;have b1:c<w.heap.size:=hS.lt (by rw [hv];rfl);have b7:=h3.li.lt;have a6:=h3.dev.lt;have f1:((j:Int)%(us.length:Int))=((j%us.length:Nat):Int):=oM;have f2:(((D.hist n).length:Int)+1)=(((D.hist n).length+1:Nat):Int):=oM;have f3:((x:Int)%(((D.hist n).length+1:Nat):Int))=((x%((D.hist n).length+1):Nat):Int):=oM;have a8:x%((D.hist n).length+1)<=(D.hist n).length:=by have:=ds x (show 0<(D.hist n).length+1 by omega);omega
    generalize x%((D.hist n).length+1)=kk at*;have N:((D.hist n).take kk).length=kk:=by rw [eq];omega
    have r1:=λw k'=>aa (P:=prog) (ge cv c ho (D.hist n).length o .i64 kk w oM) k'
    have H:=TX (w:=w3) (cw:=cb) (hc:=o) f (by omega:c≠b) ((D.hist n).take kk) (λi y hy=>by
     have b5:=bx hy;have Q:(D.hist n)[i]? =some y:=by
      rw [List.getElem?_take] at hy;split at hy
      ·exact hy
      ·cases hy
     have hg:=iZ _ _ _ Q;have a1:=p.cell hv hg.1;have a2:=p.cell hv hg.2;rw [<-cd] at a2;exact ⟨a1,a2⟩) (λy hy=>by have:=g.hist n a.1 y.1 y.2 (cq hy);omega) oM oM
    rw [N] at H;have a5:=ay c1;have a7:=ay c2;unfold oh;refine lC c1 h3.R hv f1 c2 f2 f3 r1 @ch @ch @ch ?_;refine H _ (λw4 a0 E=> ?_);have e4:Ext w w4:=Ext.frm e3 E (λy hy=>by subst hy;omega);refine zS0 ?_;apply hE
    ·refine ⟨j+1,_,by simp,by omega,e4,hF.app g a.1 kk,a0,k.frm E (λy hy e=> ?_)⟩;have h5:=O y hy;have h6:=hC.lt;omega
    ·simp [intOf];omega
   ·have:j=dl.length:=oM;subst this;unfold oh;refine zS0 ?_;exact B F _ e3 hF f
def gBW (F:Nat->Nat) (j q:Nat):Nat:=if q<j/8 then F q else if q=j/8 then F q%2^(8*(j%8)) else 0
def XV (F:Nat->Nat) (j:Nat) (hF:F (j/8)<18446744073709551616) (q:Nat):gBW F (j+1) q=if q=j/8 then gBW F j (j/8)|||(wB F j*2^(8*(j%8))) else gBW F j q:=by
 have hb:=XS (F (j/8)) (j%8) oM;by_cases e:q=j/8
 ·subst e;rw [if_pos rfl];have h1:gBW F j (j/8)=F (j/8)%2^(8*(j%8)):=by unfold gBW;rw [if_neg oM,if_pos rfl]
  have h2:wB F j=F (j/8)/2^(8*(j%8))%256:=rfl;rw [h1,h2,hb];unfold gBW;by_cases h7:j%8=7
  ·rw [if_pos oM,h7];exact (eC hF).symm
  ·rw [if_neg oM,if_pos oM,show (j+1)%8=j%8+1 by omega]
 ·rw [if_neg e];unfold gBW;by_cases h1:q<j/8
  ·rw [if_pos h1,if_pos oM]
  ·rw [if_neg h1,if_neg e];by_cases h7:j%8=7
   ·rw [if_neg oM];by_cases h2:q=(j+1)/8
    ·rw [if_pos h2,show (j+1)%8=0 by omega];simp [el]
    ·rw [if_neg h2]
   ·rw [if_neg oM,if_neg oM]
def abg {b n:Nat} {F:Nat->Nat} (hC:af w b 5 (8*(8*n)) (λi=> .int .u8 ((wB F i:Nat):Int))) (hF:∀i,i<8*n->F i<18446744073709551616) (h0:0<n) (hn:n<=4096) (K:K1)
  (hK:∀w' Y,Ext w w'->Dv w' Y (DS.init n ((List.range (8*n)).map F))->(∀x,Y.F x->w.heap.size<=x)->(Y.dt=Y.tb/\∀i,Y.ids i=i)->K (.tuple #[.pointer (some ⟨Y.d,0,none⟩),.int .i64 0]) w'):
  ad prog 103 #[.slice (some ⟨b,0,none⟩) (8*(8*n)) (8*(8*n))] w K:=by
 have f1:(((8*(8*n):Nat):Int)%64)=0:=oM;have f2:(((8*(8*n):Nat):Int)/64)=(n:Int):=oM;have f3:(((8*(8*n):Nat):Int)/8)=((8*n:Nat):Int):=oM;refine MV _ _ _ ?_;unfold Ra;refine zS3 f1 f2 f3 ?_;have m:=gb w (.int .u64 ((0:Nat):Int)) (8*n) 26;have s:=hC.lt;have ea:Ext w (w.alloc (.cells (mv (.int .u64 ((0:Nat):Int)) (8*n)) 26)):=Ext.alloc_self _ _;apply zh (I:=λz w'=>∃j:Nat,z= .int .i64 (j:Int)/\j<=8*(8*n)/\Ext w w'/\af w' w.heap.size 26 (8*n) (λq=>u64 (gBW F j q))) (μ:=λz _=>8*(8*n)-(intOf z).toNat)
 ·refine ⟨0,rfl,by omega,xZ,?_⟩;have:af (w.alloc (.cells (mv (.int .u64 ((0:Nat):Int)) (8*n)) 26)) w.heap.size 26 (8*n) (λq=>u64 (gBW F 0 q)):=m.congr (λi hi=>by
   show (#[Value.int .u64 ((0:Nat):Int)])[i%1]! =_;have:gBW F 0 i=0:=by
    unfold gBW;rw [if_neg oM];by_cases e:i=0/8
    ·rw [if_pos e];simp [el]
    ·rw [if_neg e]
   rw [this,el];rfl)
  simpa using this
 ·intros;rename_i w1 hI E1 hE;obtain ⟨j,rfl,hj,e1,hc⟩:=hI;by_cases hjn:j<8*(8*n)
  ·have hq:j/8<8*n:=oM;have g2:((j:Int)/8)=((j/8:Nat):Int):=oM;have g3:((j:Int)%8)=((j%8:Nat):Int):=oM;have g4:(((j%8:Nat):Int)*8)=((8*(j%8):Nat):Int):=oM;have c1:=e1.cell_some (hC.cell hjn);have a:=hF _ hq;have p:=XV F j a;have c2:=hc.cell hq;have f:=λv=>hc.set v hq
   have hz:=hc.frz;have u:=hc.lt;have t:wB F j<256:=ds _ oM;have h8:8*(j%8)<=56:=oM;have k:2^(8*(j%8))<=2^56:=Nat.pow_le_pow_right oM h8;have c:wB F j*2^(8*(j%8))<18446744073709551616:=by
    have:wB F j*2^(8*(j%8))<=255*2^56:=Nat.mul_le_mul oM k;omega
   have o:wB F j*2^(8*(j%8))%18446744073709551616=wB F j*2^(8*(j%8)):=eC c;have l:gBW F j (j/8)<18446744073709551616:=by
    unfold gBW;rw [if_neg oM,if_pos rfl];exact en (Nat.mod_le _ _) a
   have y:=mF l c;have A:8*(j%8)<64:=oM;generalize hB:wB F j=B at*;generalize 8*(j%8)=sh at*;generalize gBW F j (j/8)=G at*;unfold og;refine zS8 g2 g3 g4 c1 c2 hz o @ch ?_;apply hE
   ·refine ⟨j+1,by simp,by omega,xZ,(f _).congr (λq hq=> ?_)⟩;rw [p q];by_cases e:q=j/8
    ·rw [if_pos e,if_pos e]
    ·rw [if_neg e,if_neg e]
   ·simp [intOf];omega
  ·have:j=8*(8*n):=oM;subst this;have r:af w1 w.heap.size 26 (8*n) (λi=>u64 (((List.range (8*n)).map F).getD i 0)):=hc.congr (λi hi=>by
    rw [lZ F hi];have:gBW F (8*(8*n)) i=F i:=by unfold gBW;rw [if_pos oM]
    rw [this])
   unfold og;refine zS2 @Gf @vn.eq_1 ?_;refine acp _ n w.heap.size h0 hn (by simp) r _ (λw2 Y e2 hd hf g=> ?_);refine hK w2 Y (e1.trans e2) hd (λx hx=> ?_) g;rcases hf x hx with h|h
   ·omega
   ·have:=e1.size;omega
def XW (h:Dv w Y D) (g:aH D) (hx:D.exe<1000000000) {m:Nat} {xu:bb} {us:List Nat} (j:RdS m w xu (u8L us)) (e:∀x∈us,x<256) (a:us.length<=1000) (K:K1)
  (hK:∀F w' Y',Ext w w'->mQ D F->Dv w' Y' (DS.init D.n ((List.range (8*D.n)).map F))->(∀x,Y'.F x->w.heap.size<=x)->(Y'.dt=Y'.tb/\∀i,Y'.ids i=i)->K (.pointer (some ⟨Y'.d,0,none⟩)) w'):
  ad prog 49 #[.pointer (some ⟨Y.d,0,none⟩),xu] w K:=by
 have hn:=g.n;have f:=g.n0;refine QO _ _ _ _ ?_;unfold Zc;refine zS0 ?_;refine XU h g hx j e a _ (λF b w1 e1 hF hb hC=> ?_);refine abg hC (λi hi=>hF.lt g i hi) f hn _ (λw2 Y2 e2 hd hf c=> ?_);refine zS0 ?_;exact hK F w2 Y2 (e1.trans e2) hF hd (λx hx=>ca e1.size (hf x hx)) c
end
structure Co where
 cur:Nat->Nat
 pers:Nat->Nat
 done:Nat->Nat
 hist:Nat->List (Nat×Nat)
 notes:Int->Option Nat
def DS.co (D:DS):Co:=⟨D.cur,D.pers,D.done,D.hist,D.notes 0⟩
def Co.st (C:Co) (off v:Nat):Co:={C with hist:=λj=>if j=off/64 then C.hist (off/64)++ [(off,v)] else C.hist j,cur:=λj=>if j=off/8 then v else C.cur j}
def Co.fl (C:Co) (off:Nat):Co:={C with notes:=λi=>if i=((off/64:Nat):Int) then some (C.done (off/64)+(C.hist (off/64)).length) else C.notes i}
def Co.due (C:Co) (l:Nat):Nat:=match C.notes (l:Int) with
 |some p=>p-C.done l
 |none=>0
def Co.fe (C:Co):Co:=⟨C.cur,λx=>aD ((C.hist (x/8)).take (C.due (x/8))) C.pers x,λl=>C.done l+C.due l,λl=>(C.hist l).drop (C.due l),λ_=>none⟩
def Co.ex (C:Co) (i:Ins):Co:=if i.op=1 then C.st i.off i.val else if i.op=2 then C.fl i.off else C.fe
def Co.run (C:Co) (p:List Ins):Co:=p.foldl Co.ex C
def CD (n:Nat) (i:Ins):Prop:=(i.op=1->i.off%8=0/\i.off<n*64)/\(i.op=2->i.off<n*64)
def Kw (D:DS) (e:Int):(D.fail 0 e).co=D.co/\(D.fail 0 e).off=D.off/\(D.fail 0 e).n=D.n:=by
 unfold DS.fail;split<;>exact ⟨rfl,rfl,rfl⟩
def Kx (D:DS) (i:Ins) (hv:CD D.n i):((D.exec 0 i).co=D.co.ex i/\(D.exec 0 i).off=D.off/\D.off=false)\/((D.exec 0 i).co=D.co/\(D.exec 0 i).off=true):=by
 have f:∀(b:Bool),b=true->(D.runs b=true/\(D.counted 0 b).co=D.co/\(D.counted 0 b).off=D.off/\D.off=false)\/(D.runs b=false/\(D.counted 0 b).co=D.co/\(D.counted 0 b).off=true):=by
  intro b hb;subst hb;unfold DS.runs DS.counted;by_cases ho:D.off=true
  ·right;have:=Kw D 3;rw [if_pos ho];exact ⟨by simp [ho],this.1,by rw [this.2.1];exact ho⟩
  ·have d:D.off=false:=by simpa using ho
   rw [if_neg ho,if_neg (by simp)];by_cases ha:D.armed=true
   ·rw [if_pos ha];by_cases hl:D.left=0
    ·right;rw [if_pos hl];have:=Kw ({D with off:=true}:DS) 3;exact ⟨by simp [ha,hl],this.1,this.2.1⟩
    ·left;rw [if_neg hl];exact ⟨by simp [d,ha,hl],rfl,rfl,d⟩
   ·left;rw [if_neg ha];have j:D.armed=false:=by simpa using ha
    exact ⟨by simp [d,j],rfl,rfl,d⟩
 unfold DS.exec Co.ex;by_cases h1:i.op=1
 ·rw [if_pos h1,if_pos h1];have hb:=hv.1 h1;have g:fD D i.off=true:=by unfold fD;rw [decide_eq_true hb.1,decide_eq_true hb.2];rfl
  unfold DS.store;rcases f (fD D i.off) g with ⟨r,a,b,c⟩|⟨r,a,b⟩
  ·left;rw [if_pos r];refine ⟨?_,b,c⟩;have e:((D.counted 0 (fD D i.off)).write i.off i.val).co=(D.counted 0 (fD D i.off)).co.st i.off i.val:=rfl;rw [e,a]
  ·right;rw [if_neg (by simp [r])];exact ⟨a,b⟩
 ·rw [if_neg h1,if_neg h1];by_cases h2:i.op=2
  ·rw [if_pos h2,if_pos h2];have hb:=hv.2 h2;have g:fg D i.off=true:=by unfold fg;rw [decide_eq_true hb]
   unfold DS.flush;rcases f (fg D i.off) g with ⟨r,a,b,c⟩|⟨r,a,b⟩
   ·left;rw [if_pos r];refine ⟨?_,b,c⟩;have hd:D.done=D.co.done:=rfl;have hh:D.hist=D.co.hist:=rfl;have e:((D.counted 0 (fg D i.off)).note 0 ((i.off/64:Nat):Int) (D.done (i.off/64)+(D.hist (i.off/64)).length)).co={(D.counted 0 (fg D i.off)).co with notes:=λk=>if k=((i.off/64:Nat):Int) then some (D.done (i.off/64)+(D.hist (i.off/64)).length) else (D.counted 0 (fg D i.off)).co.notes k}:=by
     unfold DS.note DS.co;simp
    rw [e,a];rfl
   ·right;rw [if_neg (by simp [r])];exact ⟨a,b⟩
  ·rw [if_neg h2,if_neg h2];unfold DS.fence;rcases f true rfl with ⟨r,a,b,c⟩|⟨r,a,b⟩
   ·left;rw [if_pos r];refine ⟨?_,b,c⟩;have h:D.due 0=D.co.due:=by funext l;rfl
    have e:(((D.counted 0 true).parts (D.due 0)).clr 0).co=⟨(D.counted 0 true).co.cur,λx=>aD (((D.counted 0 true).co.hist (x/8)).take (D.due 0 (x/8))) (D.counted 0 true).co.pers x,λl=>(D.counted 0 true).co.done l+D.due 0 l,λl=>((D.counted 0 true).co.hist l).drop (D.due 0 l),λ_=>none⟩:=by
     unfold DS.clr DS.parts DS.co;simp
    rw [e,a,h];rfl
   ·right;rw [if_neg (by simp [r])];exact ⟨a,b⟩
def XX (p:List Ins):∀(D:DS),D.off=true->(∀i∈p,CD D.n i)->(D.run 0 p).co=D.co/\(D.run 0 p).off=true:=by
 induction p with
 |nil=>intro D h _;exact ⟨rfl,h⟩
 |cons i p ih=>
  intro D h hv;rw [go];rcases Kx D i (hv i (by simp)) with ⟨_,_,c⟩|⟨a,b⟩
  ·rw [h] at c;cases c
  ·have:=ih (D.exec 0 i) b (λj hj=>by rw [GI];exact hv j (by simp [hj]));exact ⟨this.1.trans a,this.2⟩
def abh (p:List Ins):∀(D:DS),D.off=false->(∀i∈p,CD D.n i)->∃m,m<=p.length/\(D.run 0 p).co=D.co.run (p.take m)/\(m<p.length->(D.run 0 p).off=true):=by
 induction p with
 |nil=>intro D h _;exact ⟨0,by simp,rfl,λh=>by simp at h⟩
 |cons i p ih=>
  intro D h hv;rw [go];have c:∀j∈p,CD (D.exec 0 i).n j:=λj hj=>by rw [GI];exact hv j (by simp [hj])
  rcases Kx D i (hv i (by simp)) with ⟨a,b,_⟩|⟨a,b⟩
  ·obtain ⟨m,hm,h1,h2⟩:=ih (D.exec 0 i) (by rw [b];exact h) c;refine ⟨m+1,by simp;omega,?_,λhl=>h2 (by simp at hl;omega)⟩;rw [h1,a];rfl
  ·have:=XX p (D.exec 0 i) b c;exact ⟨0,by simp,this.1.trans a,λ_=>this.2⟩
def eh (C:Co) (p q:List Ins):C.run (p++q)=(C.run p).run q:=by simp [Co.run,df]
def eV (C:Co) (i:Ins) (p:List Ins):C.run (i::p)=(C.ex i).run p:=rfl
structure Cln (C:Co):Prop where
 hist:∀l,C.hist l= []
 notes:C.notes=λ_=>none
 pers:∀x,C.pers x=C.cur x
def J1 (C:Co):Prop:=∀x,C.cur x=aD (C.hist (x/8)) C.pers x
def Cln.j1 {C:Co} (h:Cln C):J1 C:=λx=>by rw [h.hist];exact (h.pers x).symm
def jb (a b:List (Nat×Nat)) (f:Nat->Nat):aD (a++b) f=aD b (aD a f):=by unfold aD;rw [df]
def J1.st {C:Co} (h:J1 C) (off v:Nat):J1 (C.st off v):=by
 intro x;unfold Co.st;simp only;by_cases e:x/8=off/64
 ·rw [if_pos e,jb];show _=if x=off/8 then v else aD (C.hist (off/64)) C.pers x
  by_cases e2:x=off/8
  ·rw [if_pos e2,if_pos e2]
  ·rw [if_neg e2,if_neg e2,h x,e]
 ·rw [if_neg e,if_neg oM];exact h x
def J1.fe {C:Co} (h:J1 C) (hd:∀l,(C.hist l).length<=C.due l):Cln C.fe/\C.fe.cur=C.cur:=by
 refine ⟨⟨λl=>List.drop_eq_nil_of_le (hd l),rfl,λx=> ?_⟩,rfl⟩;show aD ((C.hist (x/8)).take (C.due (x/8))) C.pers x=C.cur x;rw [List.take_of_length_le (hd _)];exact (h x).symm
def abi (ws:List (Nat×Nat)):∀(C:Co),J1 C->J1 (C.run (ws.map wrI))/\(C.run (ws.map wrI)).cur=aD ws C.cur/\(C.run (ws.map wrI)).notes=C.notes/\(C.run (ws.map wrI)).done=C.done/\∀l,(C.run (ws.map wrI)).hist l≠ []->C.hist l≠ []\/∃x∈ws,x.1/64=l:=by
 induction ws with
 |nil=>intro C h;exact ⟨h,rfl,rfl,rfl,λl hl=> .inl hl⟩
 |cons x ws ih=>
  intro C h;rw [cm,eV];have e:C.ex (wrI x)=C.st x.1 x.2:=rfl;rw [e];obtain ⟨a,b,c,d,f⟩:=ih (C.st x.1 x.2) (h.st _ _);refine ⟨a,by rw [b,bQ];rfl,c,d,λl hl=> ?_⟩;rcases f l hl with h1|⟨y,hy,h1⟩
  ·by_cases e2:l=x.1/64
   ·exact .inr ⟨x,by simp,e2.symm⟩
   ·left;unfold Co.st at h1;simp only [if_neg e2] at h1;exact h1
  ·exact .inr ⟨y,by simp [hy],h1⟩
def abj (ls:List Nat):∀(C:Co),J1 C->J1 (C.run (ls.map flI))/\(C.run (ls.map flI)).cur=C.cur/\(C.run (ls.map flI)).hist=C.hist/\(C.run (ls.map flI)).done=C.done/\(∀x∈ls,(C.run (ls.map flI)).notes ((x/64:Nat):Int)=some (C.done (x/64)+(C.hist (x/64)).length))/\∀l p,C.notes l=some p->(∃k:Nat,l=(k:Int)/\p=C.done k+(C.hist k).length)->(C.run (ls.map flI)).notes l=some p:=by
 induction ls with
 |nil=>intro C h;exact ⟨h,rfl,rfl,rfl,λx hx=>(by cases hx),λl p hp _=>hp⟩
 |cons x ls ih=>
  intro C h;rw [cm,eV];have e:C.ex (flI x)=C.fl x:=rfl;rw [e];obtain ⟨a,b,c,d,f,g⟩:=ih (C.fl x) h;have hn:(C.fl x).notes ((x/64:Nat):Int)=some (C.done (x/64)+(C.hist (x/64)).length):=by unfold Co.fl;simp
  refine ⟨a,b,c,d,λy hy=> ?_,λl p hp hk=> ?_⟩
  ·rcases List.mem_cons.1 hy with rfl|hy
   ·exact g _ _ hn ⟨y/64,rfl,rfl⟩
   ·exact f y hy
  ·refine g l p ?_ hk;unfold Co.fl;simp only;by_cases e2:l=((x/64:Nat):Int)
   ·rw [if_pos e2];obtain ⟨k,j,i⟩:=hk;have:k=x/64:=oM;subst this;rw [i]
   ·rw [if_neg e2];exact hp
def XY (d:Array Nat):∀n,n<=d.size->∀i,i<n->d[i]!∈kpN d n:=by
 intro n
 induction n with
 |zero=>intro _ i hi;omega
 |succ n ih=>
  intro hn i hi;simp only [kpN,db];by_cases e:i=n
  ·subst e;by_cases h:i=0\/d[i]!≠d[i-1]!
   ·right;rw [if_pos h];simp
   ·left;have h1:i≠0:=λe=>h (.inl e)
    have h2:d[i]! =d[i-1]! :=Classical.byContradiction (λe=>h (.inr e));rw [h2];exact ih oM (i-1) oM
  ·exact .inl (ih oM i oM)
def TY {l:List Nat} {x:Nat} (h:x∈l):x∈cmpN l:=by
 obtain ⟨i,hi,rfl⟩:=List.mem_iff_getElem.1 h;have:=XY l.toArray l.length (by simp) i hi;rw [getElem!_pos l.toArray i (by simpa using hi)] at this;unfold cmpN;simpa using this
def CE {ws:List (Nat×Nat)} {x:Nat×Nat} (h:x∈ws):dF x.1∈cmpN (srtN (ws.map λx=>dF x.1)):=
 TY ((oO _).mem_iff.2 (List.mem_map.2 ⟨x,h,rfl⟩))
def Hr {C:Co} (h:Cln C) (ws:List (Nat×Nat)):Cln (C.run (az ws))/\(C.run (az ws)).cur=aD ws C.cur:=by
 unfold az;rw [eh,eh];obtain ⟨a,b,c,d,f⟩:=abi ws C h.j1;obtain ⟨a2,b2,c2,d2,f2,_⟩:=abj (cmpN (srtN (ws.map λx=>dF x.1))) _ a;generalize (C.run (ws.map wrI))=C1 at*;generalize (C1.run ((cmpN (srtN (ws.map λx=>dF x.1))).map flI))=C2 at*;have e:C2.run [⟨3,0,0⟩]=C2.fe:=rfl;rw [e];have:=a2.fe (λl=>by
  by_cases h0:C2.hist l= []
  ·rw [h0];simp
  ·rw [c2] at h0;rcases f l h0 with h1|⟨x,hx,h1⟩
   ·exact absurd (h.hist l) h1
   ·have hn:=f2 _ (CE hx);have hl:dF x.1/64=l:=by unfold dF;omega
    rw [hl] at hn;unfold Co.due;rw [hn,c2,d2];simp)
 exact ⟨this.1,by rw [this.2,b2,b]⟩
def QA (C:Co) (a X:Nat):Prop:=C.pers a=X/\∀l,∀x∈C.hist l,x.1/8≠a
def QA.ex {C:Co} {a X:Nat} (h:QA C a X) (i:Ins) (hi:i.op=1->i.off/8≠a):QA (C.ex i) a X:=by
 unfold Co.ex;split
 ·rename_i h1;refine ⟨h.1,λl x hx=> ?_⟩;unfold Co.st at hx;simp only at hx;split at hx
  ·rcases List.mem_append.1 hx with hx|hx
   ·exact h.2 _ x hx
   ·simp only [ab] at hx;subst hx;exact hi h1
  ·exact h.2 l x hx
 ·split
  ·exact h
  ·refine ⟨?_,λl x hx=>h.2 l x (d9 hx)⟩;show aD _ C.pers a=X;rw [bi _ _ _ (λy hy=>h.2 _ y (cq hy))];exact h.1
def QA.run {a X:Nat} (p:List Ins):∀{C:Co},QA C a X->(∀i∈p,i.op=1->i.off/8≠a)->QA (C.run p) a X:=by
 induction p with
 |nil=>intro C h _;exact h
 |cons i p ih=>
  intro C h hi;rw [eV];exact ih (h.ex i (hi i (by simp))) (λj hj=>hi j (by simp [hj]))
def RQ (C:Co) (a X H:Nat) (G:Nat->Nat):Prop:=(∀j,j≠a->C.pers j=G j)/\(C.pers a=X\/C.pers a=H)/\∀l,∀x∈C.hist l,x.1/8=a/\x.2=H
def XZ {a H:Nat}:∀(ws:List (Nat×Nat)),(∀x∈ws,x.1/8=a/\x.2=H)->∀(f:Nat->Nat),aD ws f a=f a\/aD ws f a=H:=by
 intro ws
 induction ws with
 |nil=>intro _ f;exact .inl rfl
 |cons x ws ih=>
  intro h f;rw [bQ];have hx:=h x (by simp);rcases ih (λy hy=>h y (by simp [hy])) (λj=>if j=x.1/8 then x.2 else f j) with h1|h1
  ·rw [h1];rw [if_pos hx.1.symm];exact .inr hx.2
  ·exact .inr h1
def RQ.ex {C:Co} {a X H:Nat} {G:Nat->Nat} (h:RQ C a X H G) (i:Ins) (hi:i.op=1->i.off/8=a/\i.val=H):RQ (C.ex i) a X H G:=by
 unfold Co.ex;split
 ·rename_i h1;refine ⟨h.1,h.2.1,λl x hx=> ?_⟩;unfold Co.st at hx;simp only at hx;split at hx
  ·rcases List.mem_append.1 hx with hx|hx
   ·exact h.2.2 _ x hx
   ·simp only [ab] at hx;subst hx;exact hi h1
  ·exact h.2.2 l x hx
 ·split
  ·exact h
  ·refine ⟨λj hj=> ?_,?_,λl x hx=>h.2.2 l x (d9 hx)⟩
   ·show aD _ C.pers j=G j;rw [bi _ _ _ (λy hy e=>hj (by rw [<-e];exact (h.2.2 _ y (cq hy)).1))];exact h.1 j hj
   ·show aD _ C.pers a=X\/aD _ C.pers a=H;rcases XZ ((C.hist (a/8)).take (C.due (a/8))) (λx hx=>h.2.2 _ x (cq hx)) C.pers with h1|h1
    ·rw [h1];exact h.2.1
    ·exact .inr h1
def RQ.run {a X H:Nat} {G:Nat->Nat} (p:List Ins):∀{C:Co},RQ C a X H G->(∀i∈p,i.op=1->i.off/8=a/\i.val=H)->RQ (C.run p) a X H G:=by
 induction p with
 |nil=>intro C h _;exact h
 |cons i p ih=>
  intro C h hi;rw [eV];exact ih (h.ex i (hi i (by simp))) (λj hj=>hi j (by simp [hj]))
section
variable {D:DS} {l g n:Nat} {c o:Int}
def TZ (c0:0<=c) (c5:c<5) (f:Nat->Nat):(∀j,j≠0->j<8->aD (cT l c g) f (l*8+j)=0)/\∀i:Nat,(i:Int)<perS c->aD (cT l c g) f (l*8+offN c i)=sealN (dg g 0 176):=by
 have hp:=aJ c0 c5;have hA:∀j,∀y∈cT l c g,y.1/8=l*8+j->(8<=j/\y.2=sealN (dg g 0 176))\/(j<8/\y.2=0):=by
  intro j y hy a;rcases List.mem_append.1 hy with hy|hy
  ·obtain ⟨i,hi,rfl⟩:=List.mem_map.1 hy;rw [bl] at hi;have b:=bF c0 c5 (show 0<=(i:Int) by omega) oM;left;simp only at a;exact ⟨by omega,rfl⟩
  ·obtain ⟨i,hi,rfl⟩:=List.mem_map.1 hy;rw [bl] at hi;right;simp only at a;exact ⟨by omega,rfl⟩
 constructor
 ·intro j h0 h8;refine cI (λy hy a=> ?_) (.inl ⟨(l*64+(j-1+1)*8,0),d7 _ (List.mem_map.2 ⟨j-1,List.mem_range.2 oM,rfl⟩),by simp only;omega⟩);rcases hA j y hy a with h|h
  ·omega
  ·exact h.2
 ·intro i hi;have bd:=aK c0 c5 hi;refine cI (λy hy a=> ?_) (.inl ⟨_,eb _ (List.mem_map.2 ⟨i,List.mem_range.2 oM,rfl⟩),?_⟩)
  ·rcases hA _ y hy a with h|h
   ·exact h.2
   ·omega
  ·simp only;omega
def CF (n:Nat):Cln (DS.zero n).co:=⟨λ_=>rfl,rfl,λ_=>rfl⟩
end
section
variable {D D':DS} {l k g:Nat} {c o:Int}
def abk:∀{n:Nat},(∀i,i<n->okF D l c i=true)->alF D l c n=true:=by
 intro n
 induction n with
 |zero=>intro _;rfl
 |succ n ih=>intro h;simp only [alF,ih (λi hi=>h i oM),h n oM];rfl
def T0 {n:Nat} (h:alF D l c n=true) (i:Nat) (hi:i<n):okF D l c i=true:=by
 cases hh:okF D l c i with
 |true=>rfl
 |false=>rw [Ta hi hh] at h;cases h
def abl:∀(n i:Nat),i<n->bG (wd D l (offN c i))<=mxG D l c n:=by
 intro n
 induction n with
 |zero=>intro i hi;omega
 |succ n ih=>
  intro i hi;simp only [mxG];by_cases e:i=n
  ·subst e;split<;>omega
  ·have:=ih i oM;split<;>omega
def Hs:∀(n:Nat),mxG D l c n<65536:=by
 intro n
 induction n with
 |zero=>simp [mxG]
 |succ n ih=>
  simp only [mxG];have:=cU (wd D l (offN c n));split<;>omega
def OK {i:Nat} (h:okF D l c i=true):bS (wd D l (offN c i))=176/\bG (wd D l (offN c i))≠0:=by
 unfold okF at h;simp only [dm,decide_eq_true_eq,dj,decide_eq_false_iff_not] at h;exact ⟨h.2.2.1,h.2.2.2⟩
def Ht {n:Nat} (h:alF D l c n=true) (h0:0<n):mxG D l c n≠0:=by
 have h1:=(OK (T0 h 0 h0)).2;have h2:=abl (D:=D) (l:=l) (c:=c) n 0 h0;omega
def OE (D:DS):Prop:=D.off=true->D.err 0≠0
def AB (D:DS) (e:Int) (he:e≠0):(D.fail 0 e).err 0≠0:=by
 unfold DS.fail;split
 ·simpa using he
 ·assumption
def eW (h:OE D) (b:Bool):OE (D.counted 0 b):=by
 unfold DS.counted;intro ho;split
 ·exact AB _ _ oM
 ·rename_i h1;have h1:D.off=false:=by simpa using h1
  split
  ·exact AB _ _ oM
  ·split
   ·split
    ·exact AB _ _ oM
    ·rename_i h2 h3 h4;rw [if_neg (by simp [h1]),if_neg h2,if_pos h3,if_neg h4] at ho;rw [show ({D with left:=D.left-1,exe:=D.exe+1}:DS).off=D.off from rfl,h1] at ho;cases ho
   ·rename_i h2 h3;rw [if_neg (by simp [h1]),if_neg h2,if_neg h3] at ho;rw [show ({D with exe:=D.exe+1}:DS).off=D.off from rfl,h1] at ho;cases ho
def X0 (h:OE D) (i:Ins):OE (D.exec 0 i):=by
 unfold DS.exec;split
 ·unfold DS.store;split
  ·exact λho=>eW h _ ho
  ·exact eW h _
 ·split
  ·unfold DS.flush;split
   ·exact λho=>eW h _ ho
   ·exact eW h _
  ·unfold DS.fence;split
   ·exact λho=>eW h _ ho
   ·exact eW h _
def T3:∀(p:List Ins) (D:DS),OE D->OE (D.run 0 p)
 | [],D,h=>h
 |i::p,D,h=>by rw [go];exact T3 p _ (X0 h i)
def On.oe (h:On D):OE D:=λho=>by rw [h.off] at ho;cases ho
def mR (l:Nat) (c0:0<=c) (c5:c<5) (o:Int) (g:Nat):(planI l c o g).length<=200:=by
 have hp:=aJ c0 c5;have h4:=aR (cT l c g);have h5:=aR [(l*64,sealN (hdX c o g))];have h6:=Og l c g;have h7:(planI l c o g).length=(az (cT l c g)).length+(az [(l*64,sealN (hdX c o g))]).length:=by unfold planI;rw [bv]
 simp only [cn] at h5;omega
def gB {n:Nat} {ws:List (Nat×Nat)} (h:∀x∈ws,x.1%8=0/\x.1<n*64):∀i∈az ws,CD n i:=by
 intro i hi;unfold az at hi;simp only [db,List.mem_map,ab] at hi;rcases hi with (⟨x,hx,rfl⟩|⟨x,hx,rfl⟩)|rfl
 ·exact ⟨λ_=>h x hx,λh2=>by simp [wrI] at h2⟩
 ·obtain ⟨y,hy,rfl⟩:=i8 hx;have:=h y hy;refine ⟨λh1=>by simp [flI] at h1,λ_=> ?_⟩;show dF y.1<n*64;unfold dF;omega
 ·exact ⟨λh1=>by simp at h1,λh2=>by simp at h2⟩
def xk:∀(ws:List (Nat×Nat)) (C:Co),(C.run (ws.map wrI)).cur=aD ws C.cur
 | [],C=>rfl
 |x::ws,C=>by
  rw [cm,eV,xk ws];rfl
def xl:∀(ls:List Nat) (C:Co),(C.run (ls.map flI)).cur=C.cur
 | [],C=>rfl
 |x::ls,C=>by
  rw [cm,eV,xl ls];rfl
def gO (ws:List (Nat×Nat)) (C:Co):(C.run (az ws)).cur=aD ws C.cur:=by
 unfold az;rw [eh,eh];show ((C.run (ws.map wrI)).run _).cur=_;rw [xl,xk]
def AC {p:List Ins} (ho:D.off=false) (he:D.err 0=0) (hv:∀i∈p,CD D.n i) (h:(D.run 0 p).err 0=0):(D.run 0 p).co=D.co.run p/\(D.run 0 p).off=false:=by
 have oe:OE (D.run 0 p):=T3 p D (λh=>by rw [ho] at h;cases h);have a:(D.run 0 p).off=false:=by
  cases hh:(D.run 0 p).off with
  |false=>rfl
  |true=>exact absurd h (oe hh)
 obtain ⟨m,hm,hc,hi⟩:=abh p D ho hv;have:m=p.length:=by
  rcases Nat.lt_or_ge m p.length with h1|h1
  ·rw [hi h1] at a;cases a
  ·omega
 subst this;rw [cB] at hc;exact ⟨hc,a⟩
def T4 {n:Nat} (hl:l+32<=n) (g:Nat):∀i∈cD l g,CD n i:=gB (λx hx=>by simp only [ab] at hx;subst hx;simp only;omega)
def iq {n:Nat} (hl:l+32<=n) (c0:0<=c) (c5:c<5) (g:Nat):∀x∈cT l c g,x.1%8=0/\x.1<n*64/\l*64<=x.1/\x.1<l*64+2048:=by
 have hp:=aJ c0 c5;intro x hx;rcases List.mem_append.1 hx with hx|hx
 ·obtain ⟨j,hj,rfl⟩:=List.mem_map.1 hx;have a:=bF c0 c5 (show 0<=(j:Int) by omega) (by rw [bl] at hj;omega);have hw:=aW c0 c5;simp only;omega
 ·obtain ⟨j,hj,rfl⟩:=List.mem_map.1 hx;rw [bl] at hj;simp only;omega
def OL {n:Nat} (hl:l+32<=n) (c0:0<=c) (c5:c<5) (o:Int) (g:Nat):∀i∈planI l c o g,CD n i:=by
 intro i hi;unfold planI at hi;rcases List.mem_append.1 hi with hi|hi
 ·exact gB (λx hx=>⟨(iq hl c0 c5 g x hx).1,(iq hl c0 c5 g x hx).2.1⟩) i hi
 ·exact gB (λx hx=>by simp only [ab] at hx;subst hx;simp only;omega) i hi
def qT (ho:D.off=false) (he:D.err 0=0) (hl:l+32<=D.n) (h:(D.run 0 (cD l g)).err 0=0):(D.run 0 (cD l g)).cur=(λj=>if j=l*8 then sealN (hdX (-1) (-1) g) else D.cur j)/\(D.run 0 (cD l g)).off=false:=by
 obtain ⟨h1,h2⟩:=AC ho he (T4 hl g) h;refine ⟨?_,h2⟩;have e:(D.run 0 (cD l g)).cur=(D.co.run (cD l g)).cur:=by rw [<-h1];rfl
 rw [e];unfold cD;rw [gO];funext j;show (if j=l*64/8 then _ else D.cur j)=_;rw [show l*64/8=l*8 by omega]
def ir (c o:Int) (g:Nat) (W:Nat->Nat) (j:Nat):Nat:=if j=0 then sealN (hdX c o g) else if isB c j=true then sealN (dg g 0 176) else if j<8 then 0 else W j
def kM {j:Nat}:isB c j=true↔∃i,i<(perS c).toNat/\offN c i=j:=by
 unfold isB;rw [List.any_eq_true];constructor
 ·intro ⟨i,h1,h2⟩;exact ⟨i,List.mem_range.1 h1,by simpa using h2⟩
 ·intro ⟨i,h1,h2⟩;exact ⟨i,List.mem_range.2 h1,by simpa using h2⟩
def T5 (c0:0<=c) (c5:c<5) (f:Nat->Nat) (j:Nat):aD [(l*64,sealN (hdX c o g))] (aD (cT l c g) f) j=if l*8<=j/\j<l*8+256 then ir c o g (λi=>f (l*8+i)) (j-l*8) else f j:=by
 have hp:=aJ c0 c5;have hw:=TZ (l:=l) (g:=g) c0 c5 f;have h1:∀f:Nat->Nat,aD [(l*64,sealN (hdX c o g))] f j=if j=l*8 then sealN (hdX c o g) else f j:=λf=>by
  show (if j=l*64/8 then _ else f j)=_;rw [show l*64/8=l*8 by omega]
 rw [h1];by_cases hin:l*8<=j/\j<l*8+256
 ·rw [if_pos hin];obtain ⟨i,rfl⟩:∃i,j=l*8+i:=⟨j-l*8,by omega⟩;rw [show l*8+i-l*8=i by omega];unfold ir;by_cases h0:i=0
  ·subst h0;rw [if_pos oM,if_pos rfl]
  ·rw [if_neg oM,if_neg h0];by_cases hb:isB c i=true
   ·rw [if_pos hb];obtain ⟨q,h2,h3⟩:=kM.1 hb;rw [<-h3];exact hw.2 q oM
   ·rw [if_neg hb];by_cases h8:i<8
    ·rw [if_pos h8];exact hw.1 i h0 h8
    ·rw [if_neg h8];refine bi _ _ _ (λy hy=> ?_);rcases List.mem_append.1 hy with hy|hy
     ·obtain ⟨q,hq,rfl⟩:=List.mem_map.1 hy;rw [bl] at hq;have a:=aK c0 c5 (show (q:Int)<perS c by omega);intro e;apply hb;refine kM.2 ⟨q,hq,?_⟩;unfold offN at a ⊢;simp only at e;omega
     ·obtain ⟨q,hq,rfl⟩:=List.mem_map.1 hy;rw [bl] at hq;simp only;omega
 ·rw [if_neg hin,if_neg oM];refine bi _ _ _ (λy hy=> ?_);rcases List.mem_append.1 hy with hy|hy
  ·obtain ⟨q,hq,rfl⟩:=List.mem_map.1 hy;rw [bl] at hq;have a:=aK c0 c5 (show (q:Int)<perS c by omega);unfold offN at a;simp only;omega
  ·obtain ⟨q,hq,rfl⟩:=List.mem_map.1 hy;rw [bl] at hq;simp only;omega
def tf (ho:D.off=false) (he:D.err 0=0) (hl:l+32<=D.n) (c0:0<=c) (c5:c<5) (h:(D.run 0 (planI l c o g)).err 0=0):(D.run 0 (planI l c o g)).cur=(λj=>if l*8<=j/\j<l*8+256 then ir c o g (wd D l) (j-l*8) else D.cur j)/\(D.run 0 (planI l c o g)).off=false:=by
 obtain ⟨h1,h2⟩:=AC ho he (OL hl c0 c5 o g) h;refine ⟨?_,h2⟩;have e:(D.run 0 (planI l c o g)).cur=(D.co.run (planI l c o g)).cur:=by rw [<-h1];rfl
 rw [e];unfold planI;rw [eh,gO,gO];funext j;have e1:wd D l=λi=>D.cur (l*8+i):=by funext i;unfold wd;rfl
 rw [e1];exact T5 (l:=l) (o:=o) (g:=g) c0 c5 D.cur j
end
def SlO.updZ {w:aA} {t:TypeId} {z b o n cap:Nat} {L:List bb} (h:SlO w t z (.slice (some ⟨b,o,none⟩) n cap) n L) {i:Nat} (u:bb) (hi:i<n*z):SlO (w.setCell ⟨b,o+i,none⟩ u) t z (.slice (some ⟨b,o,none⟩) n cap) n (L.set i u):=by
 obtain ⟨hl,h|⟨b',o',l,a,hv,hh,c,d,p,hg⟩⟩:=h
 ·cases h.1
 ·injection hv with hv h2 h3;injection hv with hv;injection hv with h4 h5 _;subst h4;subst h5;subst h3;have hm:=Nat.mul_le_mul_right z c;have hC:af w b t a.size (λj=>(a[j]?).getD undef):=⟨a,hh,dc _,λj hj=>by simp only [Array.getElem?_eq_getElem hj,cx]⟩;have g:=hC.set (i:=o+i) u oM;obtain ⟨a',k,m,f⟩:=g;refine ⟨by rw [eF];exact hl,.inr ⟨b,o,cap,a',rfl,k,c,d,by omega,λj x hj=> ?_⟩⟩;have q:j<n*z:=by
   have:=(List.getElem?_eq_some_iff.1 hj).1;rw [eF] at this;omega
  rw [f (o+j) oM];simp only;rw [dd] at hj;by_cases e:i=j
  ·subst e;rw [if_pos rfl,if_pos oM] at hj;rw [if_pos rfl];exact hj
  ·rw [if_neg e] at hj;rw [if_neg oM,hg j x hj,cx]
def AgF (D:DS) (l0 n:Nat) (f:Nat->Int×Int×Bool):Prop:=∀k,k<n->dQ (wd D (l0+32*k) 0)=true/\(f k).1=hC (wd D (l0+32*k) 0)/\(f k).2.1=hO (wd D (l0+32*k) 0)
def emG (D:DS) (l0:Nat) (f:Nat->Int×Int×Bool) (k:Nat):Option Nat:=if (f k).1<0 then none else if (f k).2.2=true then none else if alF D (l0+32*k) (f k).1 (perS (f k).1).toNat=true then some (mxG D (l0+32*k) (f k).1 (perS (f k).1).toNat) else none
def pF {x:Nat} (h:dQ x=true):hC x<5/\(0<=hC x->gX x≠0)/\gX x≠0/\-1<=hC x:=by
 simp only [dQ,dm,dj,decide_eq_false_iff_not,Bool.or_eq_true,decide_eq_true_eq] at h;obtain ⟨⟨⟨h1,h2⟩,h3⟩,h4⟩:=h;have h5: -1<=hC x:=by unfold hC;omega
 refine ⟨?_,λ_=>h3,h3,h5⟩;rcases h4 with ⟨a,_⟩|h4
 ·omega
 ·simp only [jG,dm,decide_eq_true_eq] at h4;omega
structure dC (w:aA) (Y:Lay) (b:Nat) (w':aA) (Y':Lay):Prop where
 tb:Y'.tb=Y.tb
 d:Y'.d=Y.d
 frm:Frm (λx=>Y.F x\/x=b) w w'
 fr:∀x,Y'.F x->Y.F x\/w.heap.size<=x
 dt:Y'.dt=Y.dt/\Y'.ids=Y.ids
section
variable {w0 w w' w'':aA} {Y Y' Y'':Lay} {D D':DS} {S b o cp l0 n k:Nat} {f f':Nat->Int×Int×Bool}
def dC.of_ext (Y:Lay) (b:Nat) (e:Ext w w'):dC w Y b w' Y:=⟨rfl,rfl,Frm.of_ext e,λx hx=> .inl hx,rfl,rfl⟩
def dC.of_stp (b:Nat) (s:Stp w Y w' Y' D'):dC w Y b w' Y':=⟨s.tb,s.d,s.frm.mono (λx hx=> .inl hx),s.fr,by rw [s.y];exact ⟨rfl,rfl⟩⟩
def dC.trans (h:dC w Y b w' Y') (k:dC w' Y' b w'' Y''):dC w Y b w'' Y'' where
 tb:=k.tb.trans h.tb
 dt:=⟨k.dt.1.trans h.dt.1,k.dt.2.trans h.dt.2⟩
 d:=k.d.trans h.d
 frm:=h.frm.trans k.frm (λx hx hf=>by
  rcases hf with hf|hf
  ·rcases h.fr x hf with h1|h1
   ·exact .inl h1
   ·omega
  ·exact .inr hf)
 fr x hx:=by
  rcases k.fr x hx with h1|h1
  ·exact h.fr x h1
  ·exact .inr (ca h.frm.size h1)
def dC.set (h:dC w Y b w' Y') (i:Nat) (v:bb):dC w Y b (w'.setCell ⟨b,i,none⟩ v) Y':=⟨h.tb,h.d,h.frm.set _ (λ_=> .inr rfl),h.fr,h.dt⟩
def ArS.emG_ok (h:ArS w0 w Y D S b o cp l0 n f) (ag:AgF D l0 n f) (hk:k<n) {g:Nat} (he:emG D l0 f k=some g):0<=(f k).1/\(f k).1<5/\(f k).2.2=false/\g≠0/\g<65536:=by
 have ha:=ag k hk;have hc:=pF ha.1;rw [<-ha.2.1] at hc;unfold emG at he;by_cases h1:(f k).1<0
 ·rw [if_pos h1] at he;cases he
 ·rw [if_neg h1] at he;by_cases h2:(f k).2.2=true
  ·rw [if_pos h2] at he;cases he
  ·rw [if_neg h2] at he;have hp:=aJ (show 0<=(f k).1 by omega) hc.1;split at he
   ·rename_i h3;injection he with he;subst he;exact ⟨by omega,hc.1,by simpa using h2,Ht h3 oM,Hs _⟩
   ·cases he
def ArS.wr (h:ArS w0 w Y D S b o cp l0 n f) {i:Nat} {v:bb} (hi:i<n*4) (hL:(plL f l0 n).set i v=plL f' l0 n):ArS w0 (w.setCell ⟨b,o+i,none⟩ v) Y D S b o cp l0 n f':=by
 have hf:=Frm.one w b (o+i) v;have h1:=SlO.updZ h.pl v hi;rw [hL] at h1;exact ⟨⟨h.L.dv.frm hf (λx hx hg=>h.nb.2 (hg▸hx)),h.L.gd,Ext.frm h.L.ex hf (λx hx=>hx▸h.nb.1),h.L.nw⟩,h.gl,h.st.set_ne _ h.nS.2.2,h1,h.nS,h.nb,h.n0,h.lt⟩
def X1 {b t:Nat} {f:Nat->bb} (h:af w b t 5 f) (v0 v1 v2 v3 v4:bb):af (((((w.setCell ⟨b,0,none⟩ v0).setCell ⟨b,1,none⟩ v1).setCell ⟨b,2,none⟩ v2).setCell ⟨b,3,none⟩ v3).setCell ⟨b,4,none⟩ v4) b t 5 (λi=> [v0,v1,v2,v3,v4].getD i undef):=by
 have h3:=((((h.set v0 (i:=0) oM).set v1 (i:=1) oM).set v2 (i:=2) oM).set v3 (i:=3) oM).set v4 (i:=4) oM;refine h3.congr (λi hi=> ?_);rcases i with _|_|_|_|_|i
 ·rfl
 ·rfl
 ·rfl
 ·rfl
 ·rfl
 ·omega
def Ky {b t:Nat} {f:Nat->bb} (h:af w b t 3 f) (v0 v1 v2:bb):af (((w.setCell ⟨b,0,none⟩ v0).setCell ⟨b,1,none⟩ v1).setCell ⟨b,2,none⟩ v2) b t 3 (λi=> [v0,v1,v2].getD i undef):=by
 have h3:=((h.set v0 (i:=0) oM).set v1 (i:=1) oM).set v2 (i:=2) oM;refine h3.congr (λi hi=> ?_);rcases i with _|_|_|i
 ·rfl
 ·rfl
 ·rfl
 ·omega
def acx (h:ArS w0 w Y D S b o cp l0 n f) (hk:k<n) (ho:D.off=false) (he:D.err 0=0) (c0:0<=(f k).1) (c5:(f k).1<5) {N:Nat} {oo:Int} {gg:Nat} (hN:af w N 134 5 (chF (Y.tb 0) (l0+32*k) (f k).1 oo gg)) (hh:(f k).2.2=false) (K:K1)
  (h0:emG D l0 f k=none->∀w',Ext w w'->K (.tuple #[.slice none 0 0,.bool false]) w')
  (h1:∀g,emG D l0 f k=some g->g≠0->g<65536->∀v w',Ext w w'->bw w.heap.size v->SlO w' 220 3 v (cD (l0+32*k) g).length (inL (cD (l0+32*k) g))->K (.tuple #[v,.bool true]) w'):
  mP K (.pointer (some ⟨b,o+k*4,none⟩)) (.pointer (some ⟨N,0,none⟩)) (.int .i64 0) w:=by
 have u:=h.le;have s:=h.lt;have t:=h.L.gd.n;have ltb:=h.ltb;have ltS:=h.ltS;have hp:=aJ c0 c5;have a:Cx w Y D (l0+32*k) (f k).1:=⟨h.L.dv,h.L.gd,h.gl.ext h.L.ex,ho,by omega,c0,c5⟩;have d0:w.cell? ⟨N,0,none⟩=some (.iface 31 (.pointer (some ⟨Y.tb 0,0,none⟩))):=hN.cell (i:=0) oM;have d1:w.cell? ⟨N,1,none⟩=some (.int .i64 ((l0+32*k:Nat):Int)):=hN.cell (i:=1) oM;have d2:w.cell? ⟨N,2,none⟩=some (.int .i64 (f k).1):=hN.cell (i:=2) oM;have d3:w.cell? ⟨N,3,none⟩=some (.int .i64 oo):=hN.cell (i:=3) oM;have d4:w.cell? ⟨N,4,none⟩=some (.int .u16 (gg:Int)):=hN.cell (i:=4) oM;have d:emG D l0 f k=if alF D (l0+32*k) (f k).1 (perS (f k).1).toNat=true then some (mxG D (l0+32*k) (f k).1 (perS (f k).1).toNat) else none:=by
  unfold emG;rw [if_neg oM,if_neg (by simp [hh])]
 have j:alF D (l0+32*k) (f k).1 (perS (f k).1).toNat=true->mxG D (l0+32*k) (f k).1 (perS (f k).1).toNat≠0:=λh=>Ht h oM
 have m:=Hs (D:=D) (l:=l0+32*k) (c:=(f k).1) (perS (f k).1).toNat
 have r:=λ(K:K1) hk=>aa7 a oo gg K hk
 have q:∀w',Ext w w'->w'.cell? ⟨b,o+k*4,none⟩=some (.int .i64 ((l0+32*k:Nat):Int)):=λw' e=>((h.ext e).p hk).1
 generalize (f k).1=cc at*;generalize mxG D (l0+32*k) cc (perS cc).toNat=mx at*;generalize alF D (l0+32*k) cc (perS cc).toNat=al at*;generalize emG D l0 f k=eg at*;rw [Hq];unfold xi;refine zS6 d0 d1 d2 d3 d4 d4 ?_;refine r _ (λw1 e1=> ?_)
 cases al with
 |false=>
  refine zS0 ?_;exact h0 (by rw [d];rfl) _ e1
 |true=>
  have q0:=q w1 e1;rw [if_pos rfl];refine zS1 q0 ?_;refine J4 (a.gl.ext e1) (l0+32*k) mx oM (j rfl) m _ (λv w2 hs e2 nv=> ?_);refine zS0 ?_;exact h1 mx (by rw [d];rfl) (j rfl) m v _ (e1.trans e2) (λx hx=>ca e1.size (nv x hx)) hs
def Hu (h:ArS w0 w Y D S b o cp l0 n f) (ag:AgF D l0 n f) (hk:k<n) (ho:D.off=false) (he:D.err 0=0) (K:K1)
  (h0:emG D l0 f k=none->∀w',Ext w w'->K (.tuple #[.slice none 0 0,.bool false]) w')
  (h1:∀g,emG D l0 f k=some g->g≠0->g<65536->∀v w',Ext w w'->bw w.heap.size v->SlO w' 220 3 v (cD (l0+32*k) g).length (inL (cD (l0+32*k) g))->K (.tuple #[v,.bool true]) w'):
  ad prog 183 #[stV S,.pointer (some ⟨b,o+k*4,none⟩)] w K:=by
 have z:=h.le;have t:=h.lt;have y:=h.L.gd.n;have ltb:=h.ltb;have ltS:=h.ltS;have ha:=ag k hk;have m:=pF ha.1;rw [<-ha.2.1] at m;have c:=h.p hk;have q0:=c.1;have q1:=c.2.1;have q2:=c.2.2.1;have q3:=c.2.2.2;have s0:=h.c0;have hG:bq w:=h.gl.ext h.L.ex;by_cases c0:(f k).1<0
 ·have h0:=h0 (by unfold emG;rw [if_pos c0]);generalize (f k).1=cc at*;refine pC _ _ _ _ ?_;unfold Ay;refine zS2 q1 c0 ?_;exact h0 _ xZ
 ·cases hh:(f k).2.2 with
  |true=>
   have h0:=h0 (by unfold emG;rw [if_neg c0,if_pos hh]);rw [hh] at q3;generalize (f k).1=cc at*;refine pC _ _ _ _ ?_;unfold Ay;refine zS3 q1 q3 c0 ?_;exact h0 _ xZ
  |false=>
   rw [hh] at q3;have l:∀(w1:aA) (K:K1),Ext w w1->(∀w2,Ext w1 w2->K (.tuple #[chV Y (l0+32*k) (f k).1 (f k).2.1 (gX (wd D (l0+32*k) 0)),.int .i64 0]) w2)->ad prog 75 #[.iface 31 (.pointer (some ⟨Y.tb 0,0,none⟩)),.int .i64 ((l0+32*k:Nat):Int)] w1 K:=λw1 K e1 s=>by
    refine mH (h.L.dv.ext e1) h.L.gd (hG.ext e1) ho he (l0+32*k) oM ha.1 K (λw2 e2=> ?_);rw [if_neg (by rw [<-ha.2.1];exact c0),<-ha.2.1,<-ha.2.2];exact s w2 e2
   have j:∀(w2:aA) (N:Nat),Ext w w2->af w2 N 134 5 (chF (Y.tb 0) (l0+32*k) (f k).1 (f k).2.1 (gX (wd D (l0+32*k) 0)))->mP K (.pointer (some ⟨b,o+k*4,none⟩)) (.pointer (some ⟨N,0,none⟩)) (.int .i64 0) w2:=λw2 N e2 hN=>
    acx (h.ext e2) hk ho he oM m.1 hN hh K (λhn w' e=>h0 hn w' (e2.trans e)) (λg hg g0 g6 v w' e nv hs=>h1 g hg g0 g6 v w' (e2.trans e) (λx hx=>ca e2.size (nv x hx)) hs)
   generalize (f k).1=cc at*;generalize (f k).2.1=oo at*;generalize gX (wd D (l0+32*k) 0)=gg at*;refine pC _ _ _ _ ?_;unfold Ay
   (repeat' first|refine ak (λ_=> ?_) (λ_=> ?_)|refine am ?_ ?_|refine zS6 q0 q1 q3 c0 s0 s0 ?_|exact yS6 q0 q1 q3 c0 s0 s0|fail)
   ·refine l _ _ xZ (λw1 e1=> ?_);have e0:Ext w w1:=Ext.trans xZ e1;have s0:=(h.ext e0).c0;have d:=(h.ext e0).p hk;have q0:=d.1;have q1:=d.2.1;have q2:=d.2.2.1;have q3:=d.2.2.2;have r:=(h.ext e0).ltb;have u:=(h.ext e0).ltS
    (repeat' first|refine ak (λ_=> ?_) (λ_=> ?_)|refine am ?_ ?_|refine zS2 q0 s0 ?_|exact yS2 q0 s0|fail)
    exact j _ _ xZ (af.new w1 [Value.iface 31 (.pointer (some ⟨Y.tb 0,0,none⟩)),.int .i64 ((l0+32*k:Nat):Int),.int .i64 cc,.int .i64 oo,.int .u16 (gg:Int)] 134)
   ·refine l _ _ xZ (λw1 e1=> ?_);have a:=(af.new w [Value.nilIface,.int .i64 0,.int .i64 0,.int .i64 0,.int .u16 ((0:Nat):Int)] 134).ext (Ext.trans (Ext.drew (Ext.refl _)) e1);have r:=a.lt;have hD:=X1 a (Value.iface 31 (.pointer (some ⟨Y.tb 0,0,none⟩))) (.int .i64 ((l0+32*k:Nat):Int)) (.int .i64 cc) (.int .i64 oo) (.int .u16 (gg:Int));have z0:=a.cell (i:=0) (by simp);have z1:=a.cell (i:=1) (by simp);have z2:=a.cell (i:=2) (by simp);have z3:=a.cell (i:=3) (by simp);have z4:=a.cell (i:=4) (by simp);have q:=a.frz
    (repeat' first|refine ak (λ_=> ?_) (λ_=> ?_)|refine am ?_ ?_|refine zS6 z0 z1 z2 z3 z4 q ?_|exact yS6 z0 z1 z2 z3 z4 q|fail)
    exact j _ _ xZ hD
end
section
variable {w0 w w' w'':aA} {Y Y' Y'':Lay} {D D' D1:DS} {S b o cp l0 n k:Nat} {f f':Nat->Int×Int×Bool}
def ArS.wr1 (h:ArS w0 w Y D S b o cp l0 n f) (hk:k<n) (c:Int):ArS w0 (w.setCell ⟨b,o+k*4+1,none⟩ (.int .i64 c)) Y D S b o cp l0 n (upF f k (c,(f k).2)):=by
 have:=h.wr (i:=k*4+1) oM ((qQ f l0 n k hk).1 c)
 rwa [<-cd] at this
def ArS.wr2 (h:ArS w0 w Y D S b o cp l0 n f) (hk:k<n) (c:Int):ArS w0 (w.setCell ⟨b,o+k*4+2,none⟩ (.int .i64 c)) Y D S b o cp l0 n (upF f k ((f k).1,c,(f k).2.2)):=by
 have:=h.wr (i:=k*4+2) oM ((qQ f l0 n k hk).2.1 c)
 rwa [<-cd] at this
def ArS.wr3 (h:ArS w0 w Y D S b o cp l0 n f) (hk:k<n) (c:Bool):ArS w0 (w.setCell ⟨b,o+k*4+3,none⟩ (.bool c)) Y D S b o cp l0 n (upF f k ((f k).1,(f k).2.1,c)):=by
 have:=h.wr (i:=k*4+3) oM ((qQ f l0 n k hk).2.2 c)
 rwa [<-cd] at this
def Kz {α:Type} (f:Nat->α) (k:Nat) (u v:α):upF (upF f k u) k v=upF f k v:=by
 funext j;unfold upF;split<;>rfl
def ArS.wr12 (h:ArS w0 w Y D S b o cp l0 n f) (hk:k<n) (c t:Int):ArS w0 ((w.setCell ⟨b,o+k*4+1,none⟩ (.int .i64 c)).setCell ⟨b,o+k*4+2,none⟩ (.int .i64 t)) Y D S b o cp l0 n (upF f k (c,t,(f k).2.2)):=by
 have:=(h.wr1 hk c).wr2 hk t
 rwa [Kz,bu] at this
def dC.wr12 (h:dC w Y b w' Y') (i j:Nat) (u v:bb):dC w Y b ((w'.setCell ⟨b,i,none⟩ u).setCell ⟨b,j,none⟩ v) Y':=(h.set i u).set j v
def abm (h:ArS w0 w Y D S b o cp l0 n f) (hk:k<n) {p:List Ins} {v:bb} (hs:SlO w 220 3 v p.length (inL p)) (nv:∀x,v.ownBlock=some x->¬Y.F x) (hp:∀i∈p,okI i) (hx:D.exe+p.length<1099511627775) (d:D1=D.run 0 p) (K:K1)
  (he:D1.err 0≠0->∀w' Y',dC w Y b w' Y'->ArS w0 w' Y' D1 S b o cp l0 n f->K (.int .i64 (D1.err 0)) w')
  (j:D1.err 0=0->∀w' Y',dC w Y b w' Y'->ArS w0 w' Y' D1 S b o cp l0 n (upF f k (-1,-1,(f k).2.2))->K (.int .i64 0) w'):
  ad prog 184 #[stV S,.pointer (some ⟨b,o+k*4,none⟩),v] w K:=by
 have l:aH D1:=by rw [d];exact aH.run 0 oM _ _ h.L.gd hp
 have n1:D1.n=D.n:=by rw [d];exact fh 0 _ D
 have s0:=h.c0;have g:∀(K:K1),(∀w' Y',Stp w Y w' Y' D1->K (.int .i64 (D1.err 0)) w')->ad prog 99 #[v,.iface 31 (.pointer (some ⟨Y.tb 0,0,none⟩))] w K:=λK hK=>by
  subst d;exact sC h.L.dv h.L.gd 0 oM p v hs nv hp hx K hK
 have m:∀w' Y',Stp w Y w' Y' D1->ArS w0 w' Y' D1 S b o cp l0 n f:=λw' Y' st=>h.step st l n1
 generalize D1.err 0=e at*;refine OF _ _ _ _ _ ?_;unfold TT;refine zS1 s0 ?_;refine g _ (λw1 Y1 st=> ?_);have h1:=m w1 Y1 st;have a1:=dC.of_stp b st;by_cases e0:e=0
 ·subst e0;have a:=h1.p hk;have q0:=a.1;have q1:=a.2.1;have q2:=a.2.2.1;have q3:=a.2.2.2;have fz:=h1.fz;have h2:=h1.wr1 hk (-1);have q:=h2.fz;have c:=h2.p hk;have r0:=c.1;have r1:=c.2.1;have r2:=c.2.2.1;have r3:=c.2.2.2;refine zS6 fz q1 q2 q r2 r2 ?_;exact j rfl _ Y1 (a1.wr12 _ _ _ _) (h1.wr12 hk (-1) (-1))
 ·refine zS1 e0 ?_;exact he e0 _ Y1 a1 h1
def abn (h:ArS w0 w Y D S b o cp l0 n f) (ag:AgF D l0 n f) (ho:D.off=false) (he:D.err 0=0) (hx:D.exe<1000000000) (K:K1)
  (hA:∀k,k<n->(f k).1<0->(∀j,j<k->¬(f j).1<0)->∀w',Ext w w'->K (.tuple #[.pointer (some ⟨b,o+k*4,none⟩),.int .i64 0]) w')
  (hB:(∀j,j<n->¬(f j).1<0)->∀k g D1,k<n->emG D l0 f k=some g->(∀j,j<k->emG D l0 f j=none)->D1=D.run 0 (cD (l0+32*k) g)->∀w' Y',dC w Y b w' Y'->(D1.err 0≠0->ArS w0 w' Y' D1 S b o cp l0 n f)->(D1.err 0=0->ArS w0 w' Y' D1 S b o cp l0 n (upF f k (-1,-1,(f k).2.2)))->K (.tuple #[.pointer (some ⟨b,o+k*4,none⟩),.int .i64 (D1.err 0)]) w')
  (hN:(∀j,j<n->¬(f j).1<0)->(∀j,j<n->emG D l0 f j=none)->∀w',Ext w w'->K (.tuple #[.pointer none,.int .i64 4]) w'):
  ad prog 156 #[stV S] w K:=by
 have J:=h.le;have G:=h.lt;have H:=h.L.gd.n;have s1:=h.c1;refine OC _ _ _ ?_;unfold TQ;refine zS1 s1 ?_;apply Aw (I:=λz w'=>∃i:Nat,z= .int .i64 (i:Int)/\i<=n/\(∀j,j<i->¬(f j).1<0)/\Ext w w') (μ:=λz _=>n-(intOf z).toNat)
 ·exact ⟨0,rfl,by omega,λj hj=>absurd hj (cO _),xZ⟩
 ·intros;rename_i w1 hI E1 hE;obtain ⟨i,rfl,hi,l,e1⟩:=hI;have h1:=h.ext e1;have s1:=h1.c1;by_cases hin:i<n
  ·have c:=h1.p hin;have q0:=c.1;have q1:=c.2.1;have q2:=c.2.2.1;have q3:=c.2.2.2;have m:=hA i hin;have d:¬(f i).1<0->∀j,j<i+1->¬(f j).1<0:=λhc j hj=>by
    by_cases e:j=i
    ·rw [e];exact hc
    ·exact l j oM
   by_cases hc:(f i).1<0
   ·have m:=m hc l;generalize (f i).1=cc at q1 hc;unfold kJ;refine zS3 s1 q1 hc ?_;exact m _ e1
   ·have d:=d hc;generalize (f i).1=cc at q1 hc;unfold kJ;refine zS3 s1 q1 hc ?_;apply hE
    ·exact ⟨i+1,by simp,by omega,d,e1⟩
    ·simp [intOf];omega
  ·have:i=n:=oM;subst this;unfold kJ;refine zS3 @Ho @xg.eq_1 s1 ?_;apply Ax (I:=λz w'=>∃q:Nat,z= .int .i64 (q:Int)/\q<=i/\(∀j,j<q->emG D l0 f j=none)/\Ext w w') (μ:=λz _=>i-(intOf z).toNat)
   ·exact ⟨0,rfl,by omega,λj hj=>absurd hj (cO _),e1⟩
   ·intros;rename_i w2 hI E2 B;obtain ⟨q,rfl,hq,a,e2⟩:=hI;have h2:=h.ext e2;have s0:=h2.c0;have s1:=h2.c1;by_cases hqi:q<i
    ·have E:=λg hg=>h2.emG_ok ag hqi (g:=g) hg
     have hB:=hB l q;have A:emG D l0 f q=none->∀j,j<q+1->emG D l0 f j=none:=λhc j hj=>by
      by_cases e:j=q
      ·rw [e];exact hc
      ·exact a j oM
     unfold pB;refine zS1 s1 ?_;refine Hu h2 ag hqi ho he _ (λC w3 e3=> ?_) (λg hg g0 g6 v w3 e3 nv hs=> ?_)
     ·refine zS0 ?_;apply B
      ·exact ⟨q+1,by simp,by omega,A C,e2.trans e3⟩
      ·simp [intOf];omega
     ·have ok:∀i∈cD (l0+32*q) g,okI i:=by
       have y:=fj (hdX (-1) (-1) g) (pd oM oM oM oM g6);exact bt (λx hx=>by simp only [ab] at hx;subst hx;exact ⟨by simp only;omega,y⟩)
      have M:=jL (l0+32*q) g;obtain ⟨D1,t⟩:∃D1,D1=D.run 0 (cD (l0+32*q) g):=⟨_,rfl⟩;have hB:=hB g D1 hqi hg a t;have h3:=h2.ext e3;have nF:∀x,v.ownBlock=some x->¬Y.F x:=λx hx hf=>by have:=nv x hx;have:=h2.L.dv.lt hf;omega
      refine zS0 ?_;refine abm h3 hqi hs nF ok oM t _ (λu w4 Y4 a4 h4=> ?_) (λh0 w4 Y4 a4 h4=> ?_)
      ·have r:=(dC.of_ext Y b (e2.trans e3)).trans a4;have hB:=hB w4 Y4 r (λ_=>h4) (λh=>absurd h u);refine zS0 ?_;exact hB
      ·have r:=(dC.of_ext Y b (e2.trans e3)).trans a4;have hB:=hB w4 Y4 r (λh=>absurd h0 h) (λ_=>h4);rw [h0] at hB;refine zS0 ?_;exact hB
    ·have:q=i:=oM;subst this;have s:=h2.er;rw [he] at s;unfold pB;refine rN @Hp @xh.eq_1 s0 s ?_;exact hN l a _ e2
end
def T6 {l n g:Nat} {c o:Int} (hl:l+32<=n) (hn:n<=4096) (c0:0<=c) (c5:c<5) (o0:0<=o) (o8:o<8) (hg:g<65536):∀i∈planI l c o g,okI i:=by
 have hb:=fj (dg g 0 176) (mG hg oM oM);have hd:=fj (hdX c o g) (pd oM c5 oM o8 hg);intro i hi;unfold planI at hi;rcases List.mem_append.1 hi with hi|hi
 ·refine bt (λx hx=>⟨by have:=iq hl c0 c5 g x hx;omega,?_⟩) i hi;rcases List.mem_append.1 hx with hx|hx
  ·obtain ⟨j,hj,rfl⟩:=List.mem_map.1 hx;exact hb
  ·obtain ⟨j,hj,rfl⟩:=List.mem_map.1 hx;simp only;omega
 ·exact bt (λx hx=>by simp only [ab] at hx;subst hx;exact ⟨by simp only;omega,hd⟩) i hi
def KA (D:DS) (l0 n:Nat) (f:Nat->Int×Int×Bool) (c t:Int) (D2:DS) (f2:Nat->Int×Int×Bool) (r e:Int):Prop:=
 (∃k,k<n/\(f k).1<0/\(∀j,j<k->¬(f j).1<0)/\D2=D.run 0 (planI (l0+32*k) c t (gX (wd D (l0+32*k) 0)))/\((D2.err 0≠0/\f2=f/\r=0/\e=D2.err 0)\/(D2.err 0=0/\f2=upF f k (c,t,(f k).2.2)/\r=((l0+32*k:Nat):Int)/\e=0)))\/
 ((∀j,j<n->¬(f j).1<0)/\∃k g D1,k<n/\emG D l0 f k=some g/\(∀j,j<k->emG D l0 f j=none)/\D1=D.run 0 (cD (l0+32*k) g)/\((D1.err 0≠0/\D2=D1/\f2=f/\r=0/\e=D1.err 0)\/(D1.err 0=0/\D2=D1.run 0 (planI (l0+32*k) c t g)/\((D2.err 0≠0/\f2=upF f k (-1,-1,(f k).2.2)/\r=0/\e=D2.err 0)\/(D2.err 0=0/\f2=upF f k (c,t,(f k).2.2)/\r=((l0+32*k:Nat):Int)/\e=0)))))\/
 ((∀j,j<n->¬(f j).1<0)/\(∀j,j<n->emG D l0 f j=none)/\D2=D/\f2=f/\r=0/\e=4)
section
variable {w0 w w' w'':aA} {Y Y' Y'':Lay} {D D' D1 D2:DS} {S b o cp l0 n k g:Nat} {f f' f1:Nat->Int×Int×Bool} {c t:Int}
def ZE (h:ArS w0 w Y D S b o cp l0 n f) (hk:k<n) (c0:0<=c) (c5:c<5) (t0:0<=t) (t8:t<8) (g0:g≠0) (g6:g<65536) (hx:D.exe<2000000000) {N:Nat} {cc oo:Int} (hN:af w N 132 3 (λi=> [Value.int .i64 cc,.int .i64 oo,.int .u16 (g:Int)].getD i undef)) (r:D2=D.run 0 (planI (l0+32*k) c t g)) (K:K1)
  (he:D2.err 0≠0->∀w' Y',dC w Y b w' Y'->ArS w0 w' Y' D2 S b o cp l0 n f->K (.tuple #[.int .i64 0,.int .i64 (D2.err 0)]) w')
  (y:D2.err 0=0->∀w' Y',dC w Y b w' Y'->ArS w0 w' Y' D2 S b o cp l0 n (upF f k (c,t,(f k).2.2))->K (.tuple #[.int .i64 ((l0+32*k:Nat):Int),.int .i64 0]) w'):
  kG K (stV S) (.int .i64 t) (.int .i64 c) (.pointer (some ⟨b,o+k*4,none⟩)) (.int .i64 0) (.pointer (some ⟨N,0,none⟩)) w:=by
 have C:=h.L.gd.n;have F:=h.lt;have q:=T6 (l:=l0+32*k) (n:=D.n) oM C c0 c5 t0 t8 g6;have E:=mR (l0+32*k) c0 c5 t g;have A:aH D2:=by rw [r];exact aH.run 0 oM _ _ h.L.gd q
 have n2:D2.n=D.n:=by rw [r];exact fh 0 _ D
 have s0:=h.c0;have d:=h.p hk;have q0:=d.1;have q1:=d.2.1;have q2:=d.2.2.1;have q3:=d.2.2.2;have d2:w.cell? ⟨N,2,none⟩=some (.int .u16 (g:Int)):=hN.cell (i:=2) oM;have u:∀(v:bb) (w1:aA) (K:K1),Ext w w1->SlO w1 220 3 v (planI (l0+32*k) c t g).length (inL (planI (l0+32*k) c t g))->bw w.heap.size v->(∀w' Y',Stp w Y w' Y' D2->K (.int .i64 (D2.err 0)) w')->ad prog 99 #[v,.iface 31 (.pointer (some ⟨Y.tb 0,0,none⟩))] w1 K:=λv w1 K e1 hs nv hK=>by
  subst r;exact sC (h.L.dv.ext e1) h.L.gd 0 oM _ v hs (λx hx hf=>by have:=nv x hx;have:=h.L.dv.lt hf;omega) q oM K (λw' Y' st=>hK w' Y' (Stp.pre e1 (λx hx=>h.L.dv.lt hx) st))
 have B:∀w' Y',Stp w Y w' Y' D2->ArS w0 w' Y' D2 S b o cp l0 n f:=λw' Y' st=>h.step st A n2
 generalize D2.err 0=e at*;rw [He];unfold wR
 (repeat' first|refine ak (λ_=> ?_) (λ_=> ?_)|refine am ?_ ?_|refine zS2 q0 d2 ?_|exact yS2 q0 d2|fail)
 refine S0 ((h.gl.ext h.L.ex).ext xZ) (l0+32*k) c t g oM c0 c5 t0 t8 g0 g6 _ (λv w1 hs e1 nv=> ?_);have s:Ext w w1:=Ext.trans xZ e1;have s0:=(h.ext s).c0
 (repeat' first|refine ak (λ_=> ?_) (λ_=> ?_)|refine am ?_ ?_|refine zS1 s0 ?_|exact yS1 s0|fail)
 refine u v _ _ s hs (λx hx=>by have:=nv x hx;simpa only [RZ] using this) (λw2 Y2 st=> ?_);have h2:=B w2 Y2 st;have a2:=dC.of_stp b st;by_cases e0:e=0
 ·subst e0;have a:=h2.p hk;have q0:=a.1;have q1:=a.2.1;have q2:=a.2.2.1;have q3:=a.2.2.2;have fz:=h2.fz;have h3:=h2.wr1 hk c;have z:=h3.fz;have m:=h3.p hk;have r0:=m.1;have r1:=m.2.1;have r2:=m.2.2.1;have r3:=m.2.2.2;have h4:=h2.wr12 hk c t;have j:=h4.p hk;have u0:=j.1;have u1:=j.2.1;have u2:=j.2.2.1;have u3:=j.2.2.2;refine zS6 fz q1 q2 z r2 u0 ?_;exact y rfl _ Y2 (a2.wr12 _ _ _ _) h4
 ·refine zS1 e0 ?_;exact he e0 _ Y2 a2 h2
def X2 (h:ArS w0 w Y D S b o cp l0 n f) (ag:AgF D l0 n f) (ho:D.off=false) (he:D.err 0=0) (hx:D.exe<1000000000) (t0:0<=t) (t8:t<8) (c0:0<=c) (c5:c<5) (K:K1)
  (hK:∀D2 f2 r e,KA D l0 n f c t D2 f2 r e->∀w' Y',dC w Y b w' Y'->ArS w0 w' Y' D2 S b o cp l0 n f2->K (.tuple #[.int .i64 r,.int .i64 e]) w'):
  ad prog 116 #[stV S,.int .i64 t,.int .i64 c] w K:=by
 have hG:bq w:=h.gl.ext h.L.ex;have a4:=h.L.gd.n;have X:=h.lt;have hp:=bY c w;have a2:=aJ c0 c5;have s0:=h.c0;have O:=h.er;rw [he] at O;have hz:¬perS c=0:=oM;have W:=ag;generalize perS c=pc at*;refine Ox _ _ _ _ _ ?_;unfold TL;refine dY hp hG hz s0 O he ?_;refine abn h ag ho he hx _ (λk hk hf m w1 e1=> ?_) (λm k g D1 hk M q C w1 Y1 a1 P J=> ?_) (λm q w1 e1=> ?_)
 ·have hd:=pF (ag k hk).1;have R:=(ag k hk).1;have g6:gX (wd D (l0+32*k) 0)<65536:=by unfold gX;omega
  have hK:=λD2 f2 r e hr=>hK D2 f2 r e (.inl ⟨k,hk,hf,m,hr⟩)
  have h1:=h.ext e1;have s0:=h1.c0;have x:=h1.p hk;have q0:=x.1;have q1:=x.2.1;have q2:=x.2.2.1;have q3:=x.2.2.2;have z:=h1.ltb;have I:=h1.ltS;have A:∀(w2:aA) (N:Nat),Ext w w2->af w2 N 132 3 (λi=> [Value.int .i64 (hC (wd D (l0+32*k) 0)),.int .i64 (hO (wd D (l0+32*k) 0)),.int .u16 (gX (wd D (l0+32*k) 0):Int)].getD i undef)->kG K (stV S) (.int .i64 t) (.int .i64 c) (.pointer (some ⟨b,o+k*4,none⟩)) (.int .i64 0) (.pointer (some ⟨N,0,none⟩)) w2:=λw2 N e2 hN=>by
   refine ZE (h.ext e2) hk c0 c5 t0 t8 hd.2.2.1 g6 oM hN rfl K (λG w3 Y3 a3 h3=> ?_) (λh0 w3 Y3 a3 h3=> ?_)
   ·exact hK _ _ _ _ ⟨rfl,.inl ⟨G,rfl,rfl,rfl⟩⟩ w3 Y3 ((dC.of_ext Y b e2).trans a3) h3
   ·exact hK _ _ _ _ ⟨rfl,.inr ⟨h0,rfl,rfl,rfl⟩⟩ w3 Y3 ((dC.of_ext Y b e2).trans a3) h3
  have j:=λ(w2:aA) (e2:Ext w w2) (K1:K1) hk2=>sR (h.L.dv.ext e2) h.L.gd (hG.ext e2) ho he (l0+32*k) oM R K1 hk2
  unfold thV at j;generalize hC (wd D (l0+32*k) 0)=cc at*;generalize hO (wd D (l0+32*k) 0)=oo at*;generalize gX (wd D (l0+32*k) 0)=gg at*
  (repeat' first|refine ak (λ_=> ?_) (λ_=> ?_)|refine am ?_ ?_|refine zS2 s0 q0 ?_|exact yS2 s0 q0|fail)
  ·refine j _ xZ _ (λw2 e2=> ?_);have d:Ext w1 w2:=Ext.trans xZ e2;have s0:=(h1.ext d).c0;have u:=(h1.ext d).p hk;have q0:=u.1;have q1:=u.2.1;have q2:=u.2.2.1;have q3:=u.2.2.2;have z:=(h1.ext d).ltb;have I:=(h1.ext d).ltS
   (repeat' first|refine ak (λ_=> ?_) (λ_=> ?_)|refine am ?_ ?_|refine zS2 s0 q0 ?_|exact yS2 s0 q0|fail)
   exact A _ _ xZ (af.new w2 [Value.int .i64 cc,.int .i64 oo,.int .u16 (gg:Int)] 132)
  ·refine j _ xZ _ (λw2 e2=> ?_);have a:=(af.new w1 [Value.int .i64 0,.int .i64 0,.int .u16 ((0:Nat):Int)] 132).ext (Ext.trans (Ext.drew (Ext.refl _)) e2);have z:=a.lt;have hD:=Ky a (Value.int .i64 cc) (.int .i64 oo) (.int .u16 (gg:Int));have z0:=a.cell (i:=0) (by simp);have z1:=a.cell (i:=1) (by simp);have z2:=a.cell (i:=2) (by simp);have B:=a.frz;have a0:=e1.size
   (repeat' first|refine ak (λ_=> ?_) (λ_=> ?_)|refine am ?_ ?_|refine zS4 z0 z1 z2 B ?_|exact yS4 z0 z1 z2 B|fail)
   exact A _ _ xZ hD
 ·have F:=h.emG_ok ag hk M;have hK:=λD2 f2 r e hr=>hK D2 f2 r e (.inr (.inl ⟨m,k,g,D1,hk,M,q,C,hr⟩))
  by_cases h0:D1.err 0=0
  ·have h1:=J h0;have H:=qT (l:=l0+32*k) (g:=g) ho he oM (by rw [<-C];exact h0);rw [<-C] at H;have T:wd D1 (l0+32*k) 0=sealN (hdX (-1) (-1) g):=by unfold wd;rw [H.1];simp
   have E:=Af F.2.2.2.1 F.2.2.2.2;rw [<-T] at E;have Z:D1.exe<2000000000:=by rw [C];have:=ee 0 (cD (l0+32*k) g) D;have:=jL (l0+32*k) g;omega
   have n1:D1.n=D.n:=by rw [C];exact fh 0 _ D
   have s0:=h1.c0;have y:=h1.p hk;have q0:=y.1;have q1:=y.2.1;have q2:=y.2.2.1;have q3:=y.2.2.2;have z:=h1.ltb;have I:=h1.ltS;have U:bq w1:=h1.gl.ext h1.L.ex;have V:∀v,upF (upF f k (-1,-1,(f k).2.2)) k v=upF f k v:=λv=>Kz f k _ v
   have A:∀(w2:aA) (N:Nat),Ext w1 w2->af w2 N 132 3 (λi=> [Value.int .i64 (-1),.int .i64 (-1),.int .u16 (g:Int)].getD i undef)->kG K (stV S) (.int .i64 t) (.int .i64 c) (.pointer (some ⟨b,o+k*4,none⟩)) (.int .i64 0) (.pointer (some ⟨N,0,none⟩)) w2:=λw2 N e2 hN=>by
    refine ZE (h1.ext e2) hk c0 c5 t0 t8 F.2.2.2.1 F.2.2.2.2 oM hN rfl K (λG w3 Y3 a3 h3=> ?_) (λQ w3 Y3 a3 h3=> ?_)
    ·exact hK _ _ _ _ (.inr ⟨h0,rfl,.inl ⟨G,rfl,rfl,rfl⟩⟩) w3 Y3 (a1.trans ((dC.of_ext Y1 b e2).trans a3)) h3
    ·rw [V,bu] at h3;exact hK _ _ _ _ (.inr ⟨h0,rfl,.inr ⟨Q,rfl,rfl,rfl⟩⟩) w3 Y3 (a1.trans ((dC.of_ext Y1 b e2).trans a3)) h3
   have j:=λ(w2:aA) (e2:Ext w1 w2) (K1:K1) hk2=>sR (h1.L.dv.ext e2) h1.L.gd (U.ext e2) H.2 h0 (l0+32*k) oM E.1 K1 hk2
   rw [E.2.1,E.2.2.1,E.2.2.2] at j;unfold thV at j;rw [h0]
   (repeat' first|refine ak (λ_=> ?_) (λ_=> ?_)|refine am ?_ ?_|refine zS2 s0 q0 ?_|exact yS2 s0 q0|fail)
   ·refine j _ xZ _ (λw2 e2=> ?_);have d:Ext w1 w2:=Ext.trans xZ e2;have s0:=(h1.ext d).c0;have s:=(h1.ext d).p hk;have q0:=s.1;have q1:=s.2.1;have q2:=s.2.2.1;have q3:=s.2.2.2;have z:=(h1.ext d).ltb;have I:=(h1.ext d).ltS
    (repeat' first|refine ak (λ_=> ?_) (λ_=> ?_)|refine am ?_ ?_|refine zS2 s0 q0 ?_|exact yS2 s0 q0|fail)
    exact A _ _ xZ (af.new w2 [Value.int .i64 (-1),.int .i64 (-1),.int .u16 (g:Int)] 132)
   ·refine j _ xZ _ (λw2 e2=> ?_);have a:=(af.new w1 [Value.int .i64 0,.int .i64 0,.int .u16 ((0:Nat):Int)] 132).ext (Ext.trans (Ext.drew (Ext.refl _)) e2);have z:=a.lt;have hD:=Ky a (Value.int .i64 (-1)) (.int .i64 (-1)) (.int .u16 (g:Int));have z0:=a.cell (i:=0) (by simp);have z1:=a.cell (i:=1) (by simp);have z2:=a.cell (i:=2) (by simp);have B:=a.frz
    (repeat' first|refine ak (λ_=> ?_) (λ_=> ?_)|refine am ?_ ?_|refine zS4 z0 z1 z2 B ?_|exact yS4 z0 z1 z2 B|fail)
    exact A _ _ xZ hD
  ·have h1:=P h0;have hK:=hK D1 f 0 (D1.err 0) (.inl ⟨h0,rfl,rfl,rfl,rfl⟩) w1 Y1 a1 h1;generalize D1.err 0=e at*;refine zS1 h0 ?_;exact hK
 ·refine zS0 ?_;exact hK _ _ _ _ (.inr (.inr ⟨m,q,rfl,rfl,rfl,rfl⟩)) w1 Y (dC.of_ext Y b e1) (h.ext e1)
end
structure RgS (D:DS) (l0 n:Nat) (f:Nat->Int×Int×Bool):Prop where
 on:On D
 gd:aH D
 lt:l0+32*n<=D.n
 ag:AgF D l0 n f
 sn:∀k,k<n->0<=(f k).1->Snd D (l0+32*k) (f k).1 (f k).2.1
structure pH (D:DS) (l0 n:Nat) (f:Nat->Int×Int×Bool) (c t:Int) (D2:DS) (f2:Nat->Int×Int×Bool) (k g:Nat):Prop where
 kn:k<n
 fe:f2=upF f k (c,t,(f k).2.2)
 g0:g≠0
 g6:g<65536
 oth:∀j,j<n->j≠k->∀i,i<256->wd D2 (l0+32*j) i=wd D (l0+32*j) i
 own:∀i,i<256->wd D2 (l0+32*k) i=ir c t g (wd D (l0+32*k)) i
 how:((f k).1<0/\(∀j,j<k->¬(f j).1<0)/\g=gX (wd D (l0+32*k) 0))\/((∀j,j<n->¬(f j).1<0)/\emG D l0 f k=some g/\∀j,j<k->emG D l0 f j=none)
section
variable {D D2:DS} {l0 n k g:Nat} {f f2:Nat->Int×Int×Bool} {c t r e:Int}
def Snd.congr {l:Nat} {o:Int} (h:Snd D l c o) (c0:0<=c) (c5:c<5) (e:∀j,j<256->wd D2 l j=wd D l j):Snd D2 l c o:=by
 have b:=λ(i:Nat) (hi:(i:Int)<perS c)=>e _ (aK c0 c5 hi).2.2
 refine ⟨by rw [e 0 oM];exact h.hd,by rw [e 0 oM];exact h.hc,by rw [e 0 oM];exact h.ho,λj h2 h8=>by rw [e j oM];exact h.zer j h2 h8,λi hi=>by rw [b i hi];exact h.sl i hi,λi hi=>by rw [b i hi];exact h.gd i hi,λi hi=> ?_⟩;rw [e 1 oM,h.bit i hi];by_cases hp:(i:Int)<perS c
 ·rw [b i hp]
 ·rw [decide_eq_false hp,c9,c9]
def RgS.cls (h:RgS D l0 n f) (hk:k<n):(f k).1<5/\-1<=(f k).1:=by
 have ha:=h.ag k hk;have:=pF ha.1;rw [ha.2.1];exact ⟨this.1,this.2.2.2⟩
def RgS.upd (h:RgS D l0 n f) (on:On D2) (gd:aH D2) (hn:D2.n=D.n) (hk:k<n) (a:∀j,j<n->j≠k->∀i,i<256->wd D2 (l0+32*j) i=wd D (l0+32*j) i) (hd:dQ (wd D2 (l0+32*k) 0)=true/\hC (wd D2 (l0+32*k) 0)=c/\hO (wd D2 (l0+32*k) 0)=t) (sn:0<=c->Snd D2 (l0+32*k) c t) (b:Bool):RgS D2 l0 n (upF f k (c,t,b)):=by
 refine ⟨on,gd,by rw [hn];exact h.lt,λj hj=> ?_,λj hj h0=> ?_⟩
 ·by_cases ej:j=k
  ·subst ej;rw [bu];exact ⟨hd.1,hd.2.1.symm,hd.2.2.symm⟩
  ·rw [bO _ _ ej,a j hj ej 0 oM];exact h.ag j hj
 ·by_cases ej:j=k
  ·subst ej;rw [bu] at h0 ⊢;exact sn h0
  ·rw [bO _ _ ej] at h0 ⊢;exact (h.sn j hj h0).congr h0 (h.cls hj).1 (a j hj ej)
def Hv {l l':Nat} {W:Nat->Nat} (h:D2.cur=λj=>if l*8<=j/\j<l*8+256 then W (j-l*8) else D.cur j):(∀i,i<256->wd D2 l i=W i)/\((l'+32<=l\/l+32<=l')->∀i,i<256->wd D2 l' i=wd D l' i):=by
 refine ⟨λi hi=> ?_,λhl i hi=> ?_⟩
 ·unfold wd;rw [h];simp only;rw [if_pos oM,show l*8+i-l*8=i by omega]
 ·unfold wd;rw [h];simp only;rw [if_neg oM]
def T7 {l l' x:Nat} (h:D2.cur=λj=>if j=l*8 then x else D.cur j):(∀i,i<256->wd D2 l i=if i=0 then x else wd D l i)/\((l'+32<=l\/l+32<=l')->∀i,i<256->wd D2 l' i=wd D l' i):=by
 refine ⟨λi hi=> ?_,λhl i hi=> ?_⟩
 ·unfold wd;rw [h];simp only;by_cases h0:i=0
  ·rw [if_pos oM,if_pos h0]
  ·rw [if_neg oM,if_neg h0]
 ·unfold wd;rw [h];simp only;rw [if_neg oM]
def AD (h:RgS D l0 n f) (hk:k<n) {g:Nat} (he:emG D l0 f k=some g):0<=(f k).1/\(f k).1<5/\(f k).2.2=false/\g≠0/\g<65536:=by
 have hc:=h.cls hk;unfold emG at he;by_cases h1:(f k).1<0
 ·rw [if_pos h1] at he;cases he
 ·rw [if_neg h1] at he;by_cases h2:(f k).2.2=true
  ·rw [if_pos h2] at he;cases he
  ·rw [if_neg h2] at he;have hp:=aJ (show 0<=(f k).1 by omega) hc.1;split at he
   ·rename_i h3;injection he with he;subst he;exact ⟨by omega,hc.1,by simpa using h2,Ht h3 oM,Hs _⟩
   ·cases he
def acy (h:RgS D l0 n f) (c0:0<=c) (c5:c<5) (t0:0<=t) (t8:t<8) (hr:KA D l0 n f c t D2 f2 r e):
  (e=4/\r=0/\D2=D/\f2=f/\(∀j,j<n->¬(f j).1<0)/\(∀j,j<n->emG D l0 f j=none))\/
  (e=0/\∃k g,r=((l0+32*k:Nat):Int)/\pH D l0 n f c t D2 f2 k g/\RgS D2 l0 n f2/\D2.n=D.n/\D2.exe<=D.exe+210):=by
 have y:=h.lt;rcases hr with ⟨k,hk,hf,m,a,hr⟩|⟨m,k,g,D1,hk,v,u,p,hr⟩|⟨h1,h2,h3,h4,h5,h6⟩
 ·right;have ha:=h.ag k hk;have hd:=pF ha.1;have g6:gX (wd D (l0+32*k) 0)<65536:=by unfold gX;omega
  obtain ⟨g,hg⟩:∃g,g=gX (wd D (l0+32*k) 0):=⟨_,rfl⟩;rw [<-hg] at a hd g6;have pg:=te h.on h.gd (l:=l0+32*k) (c:=c) (o:=t) (g:=g) oM c0 c5 t0 t8 hd.2.2.1 g6;rw [<-a] at pg;have pc:=tf (l:=l0+32*k) (c:=c) (o:=t) (g:=g) h.on.off h.on.err oM c0 c5 (by rw [<-a];exact pg.1.err);rw [<-a] at pc;have hx:=ee 0 (planI (l0+32*k) c t g) D;rw [<-a] at hx;have hl:=mR (l0+32*k) c0 c5 t g;rcases hr with ⟨he,_⟩|⟨_,d,s,q⟩
  ·exact absurd pg.1.err he
  ·have w1:=λl'=>Hv (l':=l') pc.1
   have ok:pH D l0 n f c t D2 f2 k g:=⟨hk,d,hd.2.2.1,g6,λj hj w=>(w1 (l0+32*j)).2 oM,(w1 0).1,.inl ⟨hf,m,hg⟩⟩;refine ⟨q,k,g,s,ok,?_,pg.2.2.1,by omega⟩;rw [d];have hs:=pg.2.2.2.2.1;exact h.upd pg.1 pg.2.1 pg.2.2.1 hk ok.oth ⟨hs.hd,hs.hc,hs.ho⟩ (λ_=>hs) _
 ·right;have b:=AD h hk v;have cg:=kK h.on h.gd (l:=l0+32*k) (g:=g) oM b.2.2.2.2;rw [<-p] at cg;have cc:=qT (l:=l0+32*k) (g:=g) h.on.off h.on.err oM (by rw [<-p];exact cg.1.err);rw [<-p] at cc;have x:=ee 0 (cD (l0+32*k) g) D;rw [<-p] at x;have z:=jL (l0+32*k) g;rcases hr with ⟨he,_⟩|⟨_,a,hr⟩
  ·exact absurd cg.1.err he
  ·have pg:=te cg.1 cg.2.1 (l:=l0+32*k) (c:=c) (o:=t) (g:=g) (by rw [cg.2.2.1];omega) c0 c5 t0 t8 b.2.2.2.1 b.2.2.2.2;rw [<-a] at pg;have pc:=tf (l:=l0+32*k) (c:=c) (o:=t) (g:=g) cg.1.off cg.1.err (by rw [cg.2.2.1];omega) c0 c5 (by rw [<-a];exact pg.1.err);rw [<-a] at pc;have hx:=ee 0 (planI (l0+32*k) c t g) D1;rw [<-a] at hx;have hl:=mR (l0+32*k) c0 c5 t g;rcases hr with ⟨he,_⟩|⟨_,d,s,q⟩
   ·exact absurd pg.1.err he
   ·have w0:=λl'=>T7 (l':=l') cc.1
    have w1:=λl'=>Hv (l':=l') pc.1
    have ok:pH D l0 n f c t D2 f2 k g:=⟨hk,d,b.2.2.2.1,b.2.2.2.2,λj hj w i hi=>by rw [(w1 (l0+32*j)).2 oM i hi,(w0 (l0+32*j)).2 oM i hi],λi hi=>by
     rw [(w1 0).1 i hi];unfold ir;by_cases h0:i=0
     ·rw [if_pos h0,if_pos h0]
     ·rw [if_neg h0,if_neg h0,(w0 0).1 i hi,if_neg h0],.inr ⟨m,v,u⟩⟩
    refine ⟨q,k,g,s,ok,?_,pg.2.2.1.trans cg.2.2.1,by omega⟩;rw [d];have hs:=pg.2.2.2.2.1;exact h.upd pg.1 pg.2.1 (pg.2.2.1.trans cg.2.2.1) hk ok.oth ⟨hs.hd,hs.hc,hs.ho⟩ (λ_=>hs) _
 ·exact .inl ⟨h6,h5,h3,h4,h1,h2⟩
end
section
variable {D D2:DS} {l0 n k g:Nat} {f f2:Nat->Int×Int×Bool} {c t r e:Int} {ws:List (Nat×Nat)}
def Cov (C:Co):Prop:=∀l:Nat,C.hist l= []\/C.notes ((l:Nat):Int)=some (C.done l+(C.hist l).length)
def Cov.fe {C:Co} (h:Cov C) (j:J1 C):Cln C.fe:=by
 refine (j.fe (λl=> ?_)).1;rcases h l with h1|h1
 ·rw [h1];simp
 ·unfold Co.due;rw [h1];simp only;omega
def fb {p:List (Nat×Nat)} (on:On D) (hv:∀x∈p,x.1%8=0/\x.1<D.n*64) (hc:Cln D.co):Cln (D.run 0 (az p)).co:=by
 have o:=(On.stores on p hv).1;rw [(AC on.off on.err (gB hv) o.err).1];exact (Hr hc p).1
def KB (on:On D) (gd:aH D) {l:Nat} (hl:l+32<=D.n) (hc:Cln D.co):Cln (D.run 0 (cD l g)).co:=
 fb on (λx hx=>by simp only [ab] at hx;subst hx;simp only;omega) hc
def tg (on:On D) (gd:aH D) {l:Nat} (hl:l+32<=D.n) (c0:0<=c) (c5:c<5) {o:Int} (hc:Cln D.co):Cln (D.run 0 (planI l c o g)).co:=by
 have h1:=On.stores on (cT l c g) (λx hx=>by have:=iq hl c0 c5 g x hx;exact ⟨this.1,this.2.1⟩);have c1:=fb on (p:=cT l c g) (λx hx=>by have:=iq hl c0 c5 g x hx;exact ⟨this.1,this.2.1⟩) hc;unfold planI;rw [cH];have n1:(D.run 0 (az (cT l c g))).n=D.n:=fh 0 _ D;exact fb h1.1 (λx hx=>by simp only [ab] at hx;subst hx;rw [n1];simp only;omega) c1
def abo (h:RgS D l0 n f) (c0:0<=c) (c5:c<5) (hr:KA D l0 n f c t D2 f2 r e) (hc:Cln D.co):Cln D2.co:=by
 have o:=h.lt;rcases hr with ⟨k,hk,hf,b,a,hr⟩|⟨b,k,g,D1,hk,d,m,i,hr⟩|⟨_,_,h3,_⟩
 ·rw [a];exact tg h.on h.gd oM c0 c5 hc
 ·have j:=AD h hk d;have cg:=kK h.on h.gd (l:=l0+32*k) (g:=g) oM j.2.2.2.2;have c1:=KB (g:=g) h.on h.gd (l:=l0+32*k) oM hc;rw [<-i] at cg c1;rcases hr with ⟨_,a,_⟩|⟨_,a,_⟩
  ·rw [a];exact c1
  ·rw [a];exact tg cg.1 cg.2.1 (by rw [cg.2.2.1];omega) c0 c5 c1
 ·rw [h3];exact hc
def AE (on:On D) (gd:aH D) (hl:l0+32*n<=D.n) (hc:Cln D.co):∀m,m<=n->Cln (gM D l0 m).co
 |0,_=>hc
 |m+1,hm=>by
  obtain ⟨h1,h2,h3,h4⟩:=kL on gd hl m oM;exact KB h1 h2 oM (AE on gd hl hc m oM)
end
def enL:Nat->List (Nat×Nat)->List (Nat×Nat)
 |_,[]=> []
 |i,x::r=>(64+16*i,x.1)::(64+16*i+8,x.2)::enL (i+1) r
def cmI (c:Nat) (ws:List (Nat×Nat)):List Ins:=(az (enL 0 ws)++az [(0,c)])++(az ws++az [(0,0)])
section
variable {D:DS} {ws:List (Nat×Nat)} {c:Nat}
def ti:∀(ws:List (Nat×Nat)) (f h:Nat->Nat) (x:Nat),f x=h x->aD ws f x=aD ws h x
 | [],f,h,x,e=>e
 |y::ws,f,h,x,e=>by
  rw [bQ,bQ];refine ti ws _ _ x ?_;show (if x=y.1/8 then y.2 else f x)=if x=y.1/8 then y.2 else h x
  by_cases e2:x=y.1/8
  ·rw [if_pos e2,if_pos e2]
  ·rw [if_neg e2,if_neg e2];exact e
def AF:∀(i:Nat) (ws:List (Nat×Nat)),(enL i ws).length=2*ws.length
 |_,[]=>rfl
 |i,x::r=>by simp only [enL,cF,AF (i+1) r];omega
def mS:∀{i:Nat} {ws:List (Nat×Nat)} {y:Nat×Nat},y∈enL i ws->(64+16*i<=y.1/\y.1<64+16*(i+ws.length)/\y.1%8=0)/\∃x∈ws,y.2=x.1\/y.2=x.2
 |_,[],y,h=>by cases h
 |i,x::r,y,h=>by
  simp only [enL,e8] at h;simp only [cF];rcases h with rfl|rfl|h
  ·exact ⟨by simp only;omega,x,by simp,.inl rfl⟩
  ·exact ⟨by simp only;omega,x,by simp,.inr rfl⟩
  ·obtain ⟨h1,z,hz,h2⟩:=mS h;exact ⟨by omega,z,by simp [hz],h2⟩
structure tj (n:Nat) (ws:List (Nat×Nat)):Prop where
 ok:∀x∈ws,x.1%8=0/\x.1<n*64/\1664<=x.1/\x.2<18446744073709551616
 len:ws.length<=96
def T8 (h:tj D.n ws) (hn:D.n<=4096) (hc:c<18446744073709551616):∀i∈cmI c ws,okI i:=by
 intro i hi;unfold cmI at hi;have hl:=h.len;rcases List.mem_append.1 hi with hi|hi
 ·rcases List.mem_append.1 hi with hi|hi
  ·refine bt (λx hx=> ?_) i hi;obtain ⟨h1,z,hz,h2⟩:=mS hx;have:=h.ok z hz;refine ⟨by omega,?_⟩;rcases h2 with h2|h2<;>omega
  ·exact bt (λx hx=>by simp only [ab] at hx;subst hx;exact ⟨by simp only;omega,hc⟩) i hi
 ·rcases List.mem_append.1 hi with hi|hi
  ·exact bt (λx hx=>by have:=h.ok x hx;exact ⟨by omega,this.2.2.2⟩) i hi
  ·exact bt (λx hx=>by simp only [ab] at hx;subst hx;simp only;omega) i hi
def T9 (h:tj D.n ws):(cmI c ws).length<=1000:=by
 have h1:=aR (enL 0 ws);have h2:=aR [((0:Nat),c)];have h3:=aR ws;have h4:=aR [((0:Nat),(0:Nat))];rw [AF] at h1;have:=h.len;unfold cmI;simp only [bv,cn] at*;omega
def abp (h:tj D.n ws) (a:26<=D.n):∀x∈enL 0 ws,x.1%8=0/\x.1<D.n*64:=λx hx=>by
 obtain ⟨h1,_⟩:=mS hx;have:=h.len;exact ⟨h1.2.2,by omega⟩
def abq (on:On D) (gd:aH D) (d:26<=D.n) (h:tj D.n ws) (hc:c<18446744073709551616):
  On (D.run 0 (cmI c ws))/\aH (D.run 0 (cmI c ws))/\(D.run 0 (cmI c ws)).n=D.n/\(D.run 0 (cmI c ws)).exe<=D.exe+1000/\(∀j,208<=j->(D.run 0 (cmI c ws)).cur j=aD ws D.cur j)/\(D.run 0 (cmI c ws)).cur 0=0/\(Cln D.co->Cln (D.run 0 (cmI c ws)).co):=by
 have hl:=h.len;have g:=gd.n;have v1:=abp h d;have o1:=On.stores on (enL 0 ws) v1;have n1:(D.run 0 (az (enL 0 ws))).n=D.n:=fh 0 _ D;have v2:∀x∈ [((0:Nat),c)],x.1%8=0/\x.1<D.n*64:=λx hx=>by simp only [ab] at hx;subst hx;exact ⟨rfl,by show 0<D.n*64;omega⟩
 have o2:=On.stores o1.1 [(0,c)] (by rw [n1];exact v2);have n2:((D.run 0 (az (enL 0 ws))).run 0 (az [(0,c)])).n=D.n:=(fh 0 _ _).trans n1;have v3:∀x∈ws,x.1%8=0/\x.1<D.n*64:=λx hx=>⟨(h.ok x hx).1,(h.ok x hx).2.1⟩
 have o3:=On.stores o2.1 ws (by rw [n2];exact v3);have n3:(((D.run 0 (az (enL 0 ws))).run 0 (az [(0,c)])).run 0 (az ws)).n=D.n:=(fh 0 _ _).trans n2;have v4:∀x∈ [((0:Nat),(0:Nat))],x.1%8=0/\x.1<D.n*64:=λx hx=>by simp only [ab] at hx;subst hx;exact ⟨rfl,by show 0<D.n*64;omega⟩
 have o4:=On.stores o3.1 [(0,0)] (by rw [n3];exact v4);have e:D.run 0 (cmI c ws)=(((D.run 0 (az (enL 0 ws))).run 0 (az [(0,c)])).run 0 (az ws)).run 0 (az [(0,0)]):=by
  unfold cmI;rw [cH,cH,cH]
 have hx:=ee 0 (cmI c ws) D;have k:=T9 (c:=c) h;have b:=aH.run 0 oM (cmI c ws) D gd (T8 h g hc);refine ⟨by rw [e];exact o4.1,b,fh 0 _ _,by omega,λj hj=> ?_,?_,λi=> ?_⟩
 ·rw [e,o4.2,o3.2,o2.2,o1.2];have a:∀(f:Nat->Nat) (x:Nat),aD [((0:Nat),x)] f j=f j:=λf x=>bi _ _ _ (λy hy=>by simp only [ab] at hy;subst hy;simp only;omega)
  rw [a];refine ti ws _ _ j ?_;rw [a];exact bi _ _ _ (λy hy=>by obtain ⟨h1,_⟩:=mS hy;omega)
 ·rw [e,o4.2];rfl
 ·rw [e];exact fb o3.1 (by rw [n3];exact v4) (fb o2.1 (by rw [n2];exact v3) (fb o1.1 (by rw [n1];exact v2) (fb on v1 i)))
end
end Go.Proofs.YtmpehclnnjgmcaaGreatDoor
namespace Go.Sh
open Go
abbrev KVL:=List (Int×bb)
def bz (L:KVL) (i:Int):Option bb:=(L.find? λp=>decide (p.1=i)).map (·.2)
def setL (L:KVL) (i:Int) (v:bb):KVL:=if (bz L i).isSome then L.map (λp=>if p.1=i then (i,v) else p) else L++ [(i,v)]
def AG (L:KVL) (i:Int):KVL:=L.filter λp=> !decide (p.1=i)
def kvV (kk:IntKind) (p:Int×bb):bb×bb:=(.int kk p.1,p.2)
def bj (kk:IntKind) (w:aA) (r:Nat) (L:KVL):Prop:=∃es clock,w.heap[r]? =some (.map es clock)/\MapKept.Stamped es clock/\es.toList.map (λx=>(x.key,x.val))=L.map (kvV kk)
def kW (P:Program) (kk:IntKind) (t:TypeId) (z:bb):Prop:=∃kt et,P.underlying t=some (.map kt et)/\P.underlying kt=some (.int kk)/\dS P et=some z
section
variable {P:Program} {kk:IntKind} {w w':aA} {r:Nat} {L:KVL} {i:Int} {v u z:bb} {t:TypeId}
def mT (h:bz L i=some v):(i,v)∈L:=by
 unfold bz at h
 cases hf:L.find? (λp=>decide (p.1=i)) with
 |none=>rw [hf] at h;cases h
 |some p=>
  rw [hf] at h;have h1:=List.mem_of_find?_eq_some hf;have h2:=List.find?_some hf;simp only [decide_eq_true_eq] at h2;simp only [cN,Option.some.injEq] at h;obtain ⟨a,b⟩:=p;simp only at h2 h;subst h2;subst h;exact h1
def qU {L:KVL} {i:Int} {v:bb} (hn:(L.map (·.1)).Nodup) (h:(i,v)∈L):bz L i=some v:=by
 induction L with
 |nil=>cases h
 |cons p L ih=>
  unfold bz;rw [List.find?_cons];by_cases e:p.1=i
  ·rw [decide_eq_true e];rcases List.mem_cons.1 h with h|h
   ·rw [<-h];rfl
   ·exfalso;rw [cm,da] at hn;exact hn.1 (List.mem_map.2 ⟨_,h,e.symm⟩)
  ·rw [decide_eq_false e];rcases List.mem_cons.1 h with h|h
   ·rw [<-h] at e;exact absurd rfl e
   ·rw [cm,da] at hn;exact ih hn.2 h
def cR {L:KVL} {i:Int}:bz L i=none↔∀p∈L,p.1≠i:=by
 unfold bz;rw [Option.map_eq_none_iff,List.find?_eq_none];simp
def abr {L:KVL} (hn:(L.map (·.1)).Nodup) {j:Nat} (h:L[j]? =some (i,u)):L.set j (i,v)=L.map (λp=>if p.1=i then (i,v) else p):=by
 apply ep;intro q;rw [dd,aB];have hj:=(List.getElem?_eq_some_iff.1 h).1;by_cases e:j=q
 ·subst e;rw [if_pos rfl,if_pos hj,h];simp
 ·rw [if_neg e]
  cases hq:L[q]? with
  |none=>rfl
  |some p=>
   simp only [cN,Option.some.injEq];have:p.1≠i:=λe2=>by
    have h1:(L.map (·.1))[q]? =some i:=by rw [aB,hq,<-e2];rfl
    have h2:(L.map (·.1))[j]? =some i:=by rw [aB,h];rfl
    exact e ((eo (by rw [List.length_map];exact hj) hn).1 (h2.trans h1.symm))
   rw [if_neg this]
def CG:∀{L:KVL} {j:Nat},(L.map (·.1)).Nodup->L[j]? =some (i,u)->L.eraseIdx j=AG L i
 | [],j,_,h=>by simp at h
 |p::L,0,hn,h=>by
  simp only [List.getElem?_cons_zero,Option.some.injEq] at h;subst h;rw [cm,da] at hn;simp only [List.eraseIdx_cons_zero,AG,eu];rw [if_neg (by simp)];symm;rw [List.filter_eq_self];intro q hq;simp only [dj,decide_eq_false_iff_not];intro e;exact hn.1 (List.mem_map.2 ⟨q,hq,e⟩)
 |p::L,j+1,hn,h=>by
  simp only [List.getElem?_cons_succ] at h;rw [cm,da] at hn;have hp:p.1≠i:=λe=>hn.1 (by rw [e];exact List.mem_map.2 ⟨_,bx h,rfl⟩)
  simp only [d5];rw [CG hn.2 h];simp only [AG,eu];rw [if_pos (by simpa using hp)]
def bj.lt (h:bj kk w r L):r<w.heap.size:=by
 obtain ⟨es,c,h1,_⟩:=h;exact aF h1
def bj.of_heap (h:bj kk w r L) (e:w'.heap[r]? =w.heap[r]?):bj kk w' r L:=by
 obtain ⟨es,c,h1,h2⟩:=h;exact ⟨es,c,e.trans h1,h2⟩
def bj.ext (h:bj kk w r L) (e:Ext w w'):bj kk w' r L:=h.of_heap (e.blk r h.lt)
def bj.frm {F:Nat->Prop} (h:bj kk w r L) (e:Frm F w w') (hF:¬F r):bj kk w' r L:=h.of_heap (e.block r h.lt hF)
def bj.empty {clock:Nat} (h:w.heap[r]? =some (.map #[] clock)):bj kk w r []:=⟨#[],clock,h,MapKept.stamped_empty _,rfl⟩
def bj.keys (h:bj kk w r L):(L.map (·.1)).Nodup:=by
 obtain ⟨es,c,h1,h2,h3⟩:=h;have h4:es.toList.map (·.key)=(L.map (·.1)).map (Value.int kk):=by
  have:=congrArg (List.map Prod.fst) h3;simp only [c8] at this;rw [c8];exact this
 have h5:=h2.2.2;rw [h4] at h5;exact List.Pairwise.of_map (S:=λa b=>a≠b) (Value.int kk) (λa b h e=>h (by rw [e])) h5
def ZF {es:Array MapEntry} (h3:es.toList.map (λx=>(x.key,x.val))=L.map (kvV kk)) (j:Nat):(es.toList[j]?).map (λx=>(x.key,x.val))=(L[j]?).map (kvV kk):=by
 have:=congrArg (λl=>l[j]?) h3;simpa only [aB] using this
def qV {es:Array MapEntry} {c:Nat} (h2:MapKept.Stamped es c) (h3:es.toList.map (λx=>(x.key,x.val))=L.map (kvV kk)) (i:Int):
  (Instr.findNow (.int kk) (.int kk i) es.toList 0=some none/\bz L i=none)\/∃j e,Instr.findNow (.int kk) (.int kk i) es.toList 0=some (some (j,e.val))/\es.toList[j]? =some e/\e.key= .int kk i/\L[j]? =some (i,e.val)/\bz L i=some e.val:=by
 have g:∀x∈es.toList,MapKept.IsKey (.int kk) x.key:=λx hx=>by
  have:(x.key,x.val)∈L.map (kvV kk):=by rw [<-h3];exact List.mem_map.2 ⟨x,hx,rfl⟩
  obtain ⟨p,_,hp⟩:=List.mem_map.1 this;have:x.key= .int kk p.1:=(congrArg Prod.fst hp).symm;rw [this];simp [MapKept.IsKey]
 have hn:(L.map (·.1)).Nodup:=by
  have h4:es.toList.map (·.key)=(L.map (·.1)).map (Value.int kk):=by
   have:=congrArg (List.map Prod.fst) h3;simp only [c8] at this;rw [c8];exact this
  have h5:=h2.2.2;rw [h4] at h5;exact List.Pairwise.of_map (S:=λa b=>a≠b) (Value.int kk) (λa b h e=>h (by rw [e])) h5
 rcases MapKept.findNow_spec (d:= .int kk) (k:= .int kk i) (by simp [MapKept.IsKey]) es.toList 0 g with ⟨a,b⟩|⟨j,e,a,b,d⟩
 ·left;refine ⟨a,cR.2 (λp hp e=> ?_)⟩;have:kvV kk p∈es.toList.map (λx=>(x.key,x.val)):=by rw [h3];exact List.mem_map.2 ⟨p,hp,rfl⟩
  obtain ⟨x,hx,l⟩:=List.mem_map.1 this;have h6:x.key= .int kk p.1:=congrArg Prod.fst l;rw [e] at h6;exact b x hx h6
 ·right;rw [cA] at a;have h7:=ZF h3 j;rw [b] at h7
  cases hL:L[j]? with
  |none=>rw [hL] at h7;cases h7
  |some p=>
   rw [hL] at h7;simp only [cN,Option.some.injEq,kvV,Prod.mk.injEq] at h7;rw [d] at h7;have f:p.1=i:=by injection h7.1 with _ h;exact h.symm
   have hp:p=(i,e.val):=by obtain ⟨a,b⟩:=p;simp only at f h7;rw [f,h7.2]
   rw [hp] at hL;exact ⟨j,e,a,b,d,hL,qU hn (bx hL)⟩
def CH (ht:kW P kk t z) (h:bj kk w r L) (i:Int):(Instr.lookup t (.map (some r)) (.int kk i) true).run P w= .ok (.tuple #[(bz L i).getD z,.bool (bz L i).isSome]) w:=by
 obtain ⟨kt,et,hu,hk,hz⟩:=ht;obtain ⟨es,c,h1,h2,h3⟩:=h;rcases qV h2 h3 i with ⟨a,b⟩|⟨j,e,a,_,_,_,b⟩
 ·simp [Instr.lookup,run_underlying hu,MapKept.run_getObj_map h1,MapKept.run_checkKey hk (show MapKept.IsKey (.int kk) (.int kk i) by simp [MapKept.IsKey]),MapKept.run_findKey hk a,cQ hz,b]
 ·simp [Instr.lookup,run_underlying hu,MapKept.run_getObj_map h1,MapKept.run_checkKey hk (show MapKept.IsKey (.int kk) (.int kk i) by simp [MapKept.IsKey]),MapKept.run_findKey hk a,b]
def tm (ht:kW P kk t z) (h:bj kk w r L) (i:Int) (k:bb->Prop):rd P (Instr.lookup t (.map (some r)) (.int kk i) true) w k=k (.tuple #[(bz L i).getD z,.bool (bz L i).isSome]):=ah (CH ht h i) k
def mU (ht:kW P kk t z) (h:bj kk w r L) (i:Int):(Instr.lookup t (.map (some r)) (.int kk i) false).run P w= .ok ((bz L i).getD z) w:=by
 obtain ⟨kt,et,hu,hk,hz⟩:=ht;obtain ⟨es,c,h1,h2,h3⟩:=h;rcases qV h2 h3 i with ⟨a,b⟩|⟨j,e,a,_,_,_,b⟩
 ·simp [Instr.lookup,run_underlying hu,MapKept.run_getObj_map h1,MapKept.run_checkKey hk (show MapKept.IsKey (.int kk) (.int kk i) by simp [MapKept.IsKey]),MapKept.run_findKey hk a,cQ hz,b]
 ·simp [Instr.lookup,run_underlying hu,MapKept.run_getObj_map h1,MapKept.run_checkKey hk (show MapKept.IsKey (.int kk) (.int kk i) by simp [MapKept.IsKey]),MapKept.run_findKey hk a,b]
def di (ht:kW P kk t z) (h:bj kk w r L) (i:Int) (k:K1):ev P (Instr.lookup t (.map (some r)) (.int kk i) false) w k=k ((bz L i).getD z) w:=aa (mU ht h i) k
def CI (ht:kW P kk t z) (h:bj kk w r L) (i:Int) (k:bb->Prop):rd P (Instr.lookup t (.map (some r)) (.int kk i) false) w k=k ((bz L i).getD z):=ah (mU ht h i) k
def Hw (ht:kW P kk t z) (i:Int) (w:aA) (k:K1):ev P (Instr.lookup t (.map none) (.int kk i) false) w k=k z w:=by
 obtain ⟨kt,et,hu,hk,hz⟩:=ht;refine aa ?_ k;simp [Instr.lookup,run_underlying hu,MapKept.run_checkKey hk (show MapKept.IsKey (.int kk) (.int kk i) by simp [MapKept.IsKey]),MapKept.run_findKey hk (show Instr.findNow (.int kk) (.int kk i) [] 0=some none from rfl),cQ hz]
def jc {k:aA->Prop} (ht:kW P kk t z) (h:bj kk w r L) (i:Int) (v:bb) (hK:∀w',bj kk w' r (setL L i v)->Frm (λb=>b=r) w w'->k w'):ac P (Instr.mapUpdate t (.map (some r)) (.int kk i) v) w k:=by
 obtain ⟨kt,et,hu,hk,hz⟩:=ht;have f:=h.keys;obtain ⟨es,c,h1,h2,h3⟩:=h;have d:MapKept.IsKey (.int kk) (.int kk i):=by simp [MapKept.IsKey]
 unfold ac;rcases qV h2 h3 i with ⟨a,b⟩|⟨j,e,a,d1,d2,d3,b⟩
 ·have hr:(Instr.mapUpdate t (.map (some r)) (.int kk i) v).run P w= .ok () (fB w r (.map (es.push {key:= .int kk i,val:=v,born:=c}) (c+1))):=by
   simp [Instr.mapUpdate,run_underlying hu,MapKept.run_getObj_map h1,MapKept.run_checkKey hk d,MapKept.run_findKey hk a,MapKept.run_setObj_map _ h1,fB]
  rw [hr];refine hK _ ⟨_,_,gz h1,MapKept.stamped_push h2 (λx hx e=> ?_),?_⟩ gf
  ·have:(x.key,x.val)∈L.map (kvV kk):=by rw [<-h3];exact List.mem_map.2 ⟨x,hx,rfl⟩
   obtain ⟨p,hp,l⟩:=List.mem_map.1 this;have h6:Value.int kk p.1=x.key:=congrArg Prod.fst l;rw [e] at h6;injection h6 with _ h6;exact cR.1 b p hp h6
  ·unfold setL;rw [b,if_neg (by simp)];simp [h3,kvV]
 ·have hj:es[j]? =some e:=by simpa using d1
  have hr:(Instr.mapUpdate t (.map (some r)) (.int kk i) v).run P w= .ok () (fB w r (.map (es.modify j λe=>{e with key:= .int kk i,val:=v}) c)):=by
   simp [Instr.mapUpdate,run_underlying hu,MapKept.run_getObj_map h1,MapKept.run_checkKey hk d,MapKept.run_findKey hk a,hj,d2,MapKept.run_keyThatStays d,MapKept.run_setObj_map _ h1,fB]
  rw [hr];have m:=MapKept.stamped_modify (es:=es) (clock:=c) h2 j (λe=>{e with key:= .int kk i,val:=v}) (λ_ _=>rfl) (λe' _ g=>by rw [hj] at g;cases g;exact d2.symm);refine hK _ ⟨_,_,gz h1,m,?_⟩ gf;unfold setL;rw [b,if_pos (by simp),<-abr f d3];apply ep;intro q;have h7:=ZF h3 q;rw [aB,aB,d6,Array.getElem?_modify,dd];have n:j<L.length:=(List.getElem?_eq_some_iff.1 d3).1;by_cases e2:j=q
  ·subst e2;rw [if_pos rfl,if_pos rfl,if_pos n,hj];rfl
  ·rw [if_neg e2,if_neg e2,<-h7,d6]
def CJ {ts:Array TypeId} {ty:TypeId} {cs:Array Bool} {k:K1} (m:ts[0]? =some t) (ht:kW P kk t z) (h:bj kk w r L) (i:Int) (hK:∀w',bj kk w' r (AG L i)->Frm (λb=>b=r) w w'->k (.tuple #[]) w'):aY P .delete ts ty cs #[.map (some r),.int kk i] w k:=by
 obtain ⟨kt,et,hu,hk,hz⟩:=ht;have d:=h.keys;obtain ⟨es,c,h1,h2,h3⟩:=h;have f:MapKept.IsKey (.int kk) (.int kk i):=by simp [MapKept.IsKey]
 unfold aY;rcases qV h2 h3 i with ⟨a,b⟩|⟨j,e,a,d1,d2,d3,b⟩
 ·have hr:(builtin .delete ts ty cs #[.map (some r),.int kk i]).run P w= .ok (.value (.tuple #[])) (fB w r (.map es c)):=by
   simp [builtin,em,m,run_underlying hu,MapKept.run_getObj_map h1,MapKept.run_checkKey hk f,MapKept.run_findKey hk a,MapKept.run_setObj_map _ h1,fB]
  rw [hr];refine hK _ ⟨_,_,gz h1,h2,?_⟩ gf;unfold AG;rw [List.filter_eq_self.2 (λp hp=>by simpa using cR.1 b p hp)];exact h3
 ·have hr:(builtin .delete ts ty cs #[.map (some r),.int kk i]).run P w= .ok (.value (.tuple #[])) (fB w r (.map (es.eraseIdxIfInBounds j) c)):=by
   simp [builtin,em,m,run_underlying hu,MapKept.run_getObj_map h1,MapKept.run_checkKey hk f,MapKept.run_findKey hk a,MapKept.run_setObj_map _ h1,fB]
  rw [hr];refine hK _ ⟨_,_,gz h1,MapKept.stamped_erase h2 j,?_⟩ gf;rw [<-CG d d3,Array.toList_eraseIdxIfInBounds];have er:∀{α β:Type} (g:α->β) (l:List α) (j:Nat),(l.eraseIdx j).map g=(l.map g).eraseIdx j:=by
   intro α β g l
   induction l with
   |nil=>intro j;rfl
   |cons x l ih=>
    intro j
    cases j with
    |zero=>rfl
    |succ j=>simp only [d5,cm,ih]
  rw [er,er,h3]
def CK {ts:Array TypeId} {ty:TypeId} {cs:Array Bool} {k:K1} (a:ts[0]? =some t) (ht:kW P kk t z) (h:bj kk w r L) (hK:k (.int .i64 (L.length:Int)) w):aY P .len ts ty cs #[.map (some r)] w k:=by
 obtain ⟨kt,et,hu,hk,hz⟩:=ht;obtain ⟨es,c,h1,h2,h3⟩:=h;have hl:es.size=L.length:=by have:=congrArg List.length h3;simpa using this
 unfold aY;have hr:(builtin .len ts ty cs #[.map (some r)]).run P w= .ok (.value (.int .i64 (L.length:Int))) w:=by
  simp [builtin,Builtin.len_,a,run_underlying hu,MapKept.run_getObj_map h1,goInt,hl]
 rw [hr];exact hK
end
end Go.Sh
namespace Go.Proofs.YtmpehclnnjgmcaaGreatDoor
open Go Go.Sh
noncomputable section
variable (K:K1) (x0 x1 x2 x3 x4 x5 x6 x7 x8 x9 x10 x11 x12 x13 x14 x15 x16 x17 x18 x19 x20 x21 x22 x23 x24 x25 x26 x27 x28 x29 x30 x31 x32 x33 x34 x35 x36 x37 x38 x39 x40 x41 x42 x43 x44 x45 x46 x47 x48 x49 x50 x51 x52 x53 x54 x55 x56 x57 x58 x59 x60 x61 x62 x63 x64 x65 x66 x67 x68 x69 x70 x71 x72 x73 x74 x75 x76 x77 x78 x79 x80 x81 x82 x83 x84 x85 x86 x87 x88 x89 x90 x91 x92 x93 x94 x95 x96 x97 x98 x99 x100 x101 x102 x103 x104 x105 x106 x107 x108 x109 x110 x111 x112 x113 x114 x115 x116 x117 x118 x119 x120 x121 x122 x123 x124 x125 x126 x127 x128 x129 x130 x131 x132 x133 x134 x135 x136 x137 x138 x139 x140 x141 x142 x143 x144 x145:bb) (w:aA)
noncomputable def Ua:=uD Tryz.f15 (.s .o (.s .o (.s .o (.s .o (.s .o (.s .o (.s .o (.x 61441 .o (.x 61441 .o .o)))))))))
abbrev KC:=aU prog Tryz.f15.results.toList
def Ub:KF:=kO 61441 (cP (pw Ua 8 255) (KC K) (KC K) nX)
def AH:Prop:=Ub K (fy 102 61441 [x0,x12,x13,x14,x15]) w
def Uc:KF:=kO 61441 (cP (pw Ua 9 511) (KC K) (KC K) nX)
def tn:Prop:=Uc K (fy 102 61441 [x0,x12,x13,x14,x15]) w
def jM:Prop:=
 bC .eql 28 69 5 x13 w λa w=>
 ae a (
 tn K x0 x12 (.int .i64 4) x14 x15 w) (
 tn K x0 x12 x13 x14 x15 w)
def kN:AH K x0 x12 x13 x14 x15 w=jM K x0 x12 x13 x14 x15 w:=aI λσ=>kR
def tp:Prop:=
 bC .neq 28 71 0 x13 w λa w=>
 ae a (
 K (.tuple #[(.int .u64 ((0:Nat):Int)),x13]) w) (
 cL 69 (pA #[x0,x14,x12]) w λb w=>
 bC .neq 28 78 0 b w λc w=>
 ae c (
 K (.tuple #[(.int .u64 ((0:Nat):Int)),b]) w) (
 nR x0 w.drew λd=>
 fR 112 d 4 w.drew λe=>
 lR 108 e w.drew λf=>
 cL 20 (pA #[x14]) w.drew λg w=>
 (br prog x0 w (λu=>u=d))/\
 (fG 112 d 4 w e)/\
 (lG 108 e w f)/\
 ac prog (Instr.mapUpdate 108 f g x14) w λw=>
 nS x0 w λh w=>
 fA 112 h 5 w λi w=>
 lD 109 i w λj w=>
 ev prog (Instr.lookup 109 j x15 false) w λl w=>
 bC .add 3 93 1 l w λm w=>
 ac prog (Instr.mapUpdate 109 j x15 m) w λw=>
 nS x0 w λn w=>
 fA 112 n 3 w λo w=>
 lD 107 o w λp w=>
 cL 70 (pA #[p,x15,(.bool true)]) w λq w=>
 K (.tuple #[x14,(.int .i64 0)]) w))
def xm:tn K x0 x12 x13 x14 x15 w=tp K x0 x12 x13 x14 x15 w:=aI λσ=>kR
def KE:Prop:=
 bM .eql 33 (.tmp 17) (.const (.pointer none)) x0 (.pointer none) w λa w=>
 ae a (
 K (.tuple #[(.int .u64 ((0:Nat):Int)),(.int .i64 5)]) w) (
 cL 64 (pA #[x1,x2,x3]) w λb w=>
 bC .neq 28 23 0 b w λc w=>
 ae c (
 K (.tuple #[(.int .u64 ((0:Nat):Int)),b]) w) (
 nS x0 w λd w=>
 fA 112 d 0 w λe w=>
 lD 106 e w λf w=>
 bn prog f "Err" (pA #[]) w fun g w=>
 bC .neq 28 31 0 g w λh w=>
 ae h (
 K (.tuple #[(.int .u64 ((0:Nat):Int)),g]) w) (
 cL 65 (pA #[x2]) w λi w=>
 eX i 0 w λj w=>
 eX i 1 w λl w=>
 bC .neq 28 39 0 l w λm w=>
 ae m (
 K (.tuple #[(.int .u64 ((0:Nat):Int)),l]) w) (
 cL 66 (pA #[x0,x1,j,x3]) w λn w=>
 eX n 0 w λo w=>
 eX n 1 w λp w=>
 eX n 2 w λq w=>
 bC .eql 28 51 5 q w λs w=>
 ae s (
 cL 67 (pA #[x0,x1,j]) w λt w=>
 eX t 0 w λv w=>
 eX t 1 w λy w=>
 bC .eql 28 60 0 y w λz w=>
 ae z (
 cL 68 (pA #[x0,v,x3]) w λa0 w=>
 eX a0 0 w λa1 w=>
 eX a0 1 w λa2 w=>
 AH K x0 j a2 a1 v w) (
 AH K x0 j y o v w)) (
 AH K x0 j q o p w)))))
def tq:=cA4 Tryz.func15 Ua.2 KE
def CL:Prop:=
 bM .eql 40 (.tmp 15) (.const (.pointer none)) x0 (.pointer none) w λa w=>
 ae a (
 K (.int .i64 5) w) (
 nS x0 w λb w=>
 fA 123 b 2 w λc w=>
 lD 32 c w λd w=>
 cL 71 (pA #[d,x1]) w λe w=>
 eX e 0 w λf w=>
 eX e 1 w λg w=>
 bC .eql 28 26 1 g w λh w=>
 ae h (
 K g w) (
 nS x0 w λi w=>
 fA 123 i 1 w λj w=>
 lD 31 j w λl w=>
 cL 28 (pA #[l]) w λm w=>
 bC .neq 28 34 0 m w λn w=>
 ae n (
 K m w) (
 nS x0 w λo w=>
 fA 123 o 0 w λp w=>
 lD 33 p w λq w=>
 nS q w λs w=>
 fA 112 s 7 w λt w=>
 lD 4 t w λv w=>
 ae v (
 K (.int .i64 7) w) (
 nS x0 w λy w=>
 fA 123 y 0 w λz w=>
 lD 33 z w λa0 w=>
 cL 42 (pA #[a0,x2,x3]) w λa1 w=>
 eX a1 0 w λa2 w=>
 eX a1 1 w λa3 w=>
 bC .neq 28 54 0 a3 w λa4 w=>
 ae a4 (
 K a3 w) (
 nR x0 w.drew λa5=>
 fR 123 a5 2 w.drew λa6=>
 lR 32 a6 w.drew λa7=>
 cL 72 (pA #[x1]) w.drew λa8 w=>
 (br prog x0 w (λu=>u=a5))/\
 (fG 123 a5 2 w a6)/\
 (lG 32 a6 w a7)/\
 aY prog .append #[79,79] 79 #[false,false] (pA #[a8,a2]) w λa9 w=>
 (br prog x0 w (λu=>u=a5))/\
 (fG 123 a5 2 w a6)/\
 (lG 32 a6 w a7)/\
 cL 43 (pA #[a7,a9]) w λb0 w=>
 bC .neq 28 66 0 b0 w λb1 w=>
 ae b1 (
 K b0 w) (
 nS x0 w λb2 w=>
 fA 123 b2 0 w λb3 w=>
 lD 33 b3 w λb4 w=>
 cL 44 (pA #[b4,x2,x3]) w λb5 w=>
 K (.int .i64 0) w))))))
def mV:=cA4 Tryz.func17 .o CL
def xn:Prop:=
 bM .eql 33 (.tmp 15) (.const (.pointer none)) x0 (.pointer none) w λa w=>
 ae a (
 K (.int .i64 5) w) (
 cL 73 (pA #[x1]) w λb w=>
 ae b (
 K (.int .i64 1) w) (
 nS x0 w λc w=>
 fA 112 c 0 w λd w=>
 lD 106 d w λe w=>
 bn prog e "Err" (pA #[]) w fun f w=>
 bC .neq 28 24 0 f w λg w=>
 ae g (
 K f w) (
 cL 20 (pA #[x1]) w λh w=>
 cL 74 (pA #[x0,h]) w λi w=>
 eX i 0 w λj w=>
 eX i 1 w λl w=>
 ev prog (Op.unary .not l) w λm w=>
 gV m false x1 w λn w=>
 gd m false (λk=>bU .shr 27 37 .u64 56 n w k) w λo w=>
 gd m false (λk=>bU .neq 27 38 .u64 0 o w k) w λp w=>
 au m (.bool true) p w λq w=>
 ae q (
 K (.int .i64 2) w) (
 nS x0 w λs w=>
 fA 112 s 0 w λt w=>
 lD 106 t w λv w=>
 cL 75 (pA #[v,j]) w λy w=>
 eX y 0 w λz w=>
 eX y 1 w λa0 w=>
 ev prog (Instr.alloc 134 true (.tuple #[])) w λa1 w=>
 sD 134 a1 z w λw=>
 nS x0 w λa2 w=>
 fA 112 a2 0 w λa3 w=>
 lD 106 a3 w λa4 w=>
 bn prog a4 "Err" (pA #[]) w fun a5 w=>
 bC .neq 28 55 0 a5 w λa6 w=>
 ae a6 (
 K a5 w) (
 bC .neq 28 58 0 a0 w λa7 w=>
 ae a7 (
 K (.int .i64 2) w) (
 lD 134 a1 w λa8 w=>
 cL 76 (pA #[a8,x1]) w λa9 w=>
 eX a9 0 w λb0 w=>
 eX a9 1 w λb1 w=>
 bC .neq 28 66 0 b1 w λb2 w=>
 ae b2 (
 K b1 w) (
 bU .neq 5 69 .u8 0 x2 w λb3 w=>
 gV b3 true x2 w λb4 w=>
 gV b3 true x1 w λb5 w=>
 gC b3 true 60 (pA #[b5]) w λb6 w=>
 gd b3 true (λk=>bT .neq 5 72 74 b4 b6 w k) w λb7 w=>
 au b3 b7 (.bool false) w λb8 w=>
 ae b8 (
 K (.int .i64 13) w) (
 K (.int .i64 0) w))))))))
def jN:=cA3 Tryz.func21 .o xn
noncomputable def ZG:=uD Tryz.f29 (.s .o (.s .o (.s .o (.s .o (.x 3 .o .o)))))
abbrev ZH:=aU prog Tryz.f29.results.toList
def Ud:KF:=kO 3 (cP (pw ZG 5 31) (ZH K) (ZH K) nX)
def Hx:Prop:=Ud K (fy 51 3 [x0,x1]) w
def tr:Prop:=
 cL 84 (pA #[x0,x1]) w λa w=>
 eX a 0 w λb w=>
 eX a 1 w λc w=>
 eX a 2 w λd w=>
 nS x0 w λe w=>
 fA 112 e 0 w λf w=>
 lD 106 f w λg w=>
 bn prog g "Err" (pA #[]) w fun h w=>
 bC .neq 28 46 0 h w λi w=>
 ae i (
 K (.tuple #[(.int .i64 0),h]) w) (
 cL 85 (pA #[d]) w λj w=>
 K (.tuple #[j,(.int .i64 0)]) w)
def xp:Hx K x0 x1 w=tr K x0 x1 w:=aI λσ=>kR
def ZI:Prop:=
 bM .eql 33 (.tmp 12) (.const (.pointer none)) x0 (.pointer none) w λa w=>
 ae a (
 K (.tuple #[(.int .i64 0),(.int .i64 5)]) w) (
 cL 73 (pA #[x1]) w λb w=>
 ae b (
 K (.tuple #[(.int .i64 0),(.int .i64 1)]) w) (
 nS x0 w λc w=>
 fA 112 c 0 w λd w=>
 lD 106 d w λe w=>
 bn prog e "Err" (pA #[]) w fun f w=>
 bC .neq 28 21 0 f w λg w=>
 ae g (
 K (.tuple #[(.int .i64 0),f]) w) (
 cL 83 (pA #[x0,x1]) w λh w=>
 ev prog (Op.unary .not h) w λi w=>
 ae i (
 cL 21 (pA #[x0,x1,(.int .u8 ((0:Nat):Int))]) w λj w=>
 bC .neq 28 31 0 j w λl w=>
 ae l (
 K (.tuple #[(.int .i64 0),j]) w) (
 Hx K x0 x1 w)) (
 Hx K x0 x1 w))))
def Ue:=cA2 Tryz.func29 ZG.2 ZI
noncomputable def Uf:=uD Tryz.f33 (.s .o (.s .o (.s .o (.b (.l [15] 24577 1125899906809952 (.s .o (.s .o (.x 57345 .o .o))))))))
abbrev KG:=aU prog Tryz.f33.results.toList
def Ug:Prop:=aE [15] 24577 (λE=>cP (pw Uf 5 7) E (KG K) (exB 0 (KG K) nX)) (fy 50 57345 [x0,x13,x14,x15]) w
def Uh (E1:VP1):KF:=kO 57345 (cP (pw Uf 8 231) (sE1 E1 15) (KG K) (exB 0 (KG K) nX))
def Hy (K:K1) (E1:VP1) (x0 x13 x14 x15:bb) (w:aA):Prop:=Uh K E1 (fy 50 57345 [x0,x13,x14,x15]) w
def tu (E1:VP1):Prop:=
 bT .lss 3 15 14 x15 x14 w λa w=>
 ae a (
 iA 50 x13 x15 w λb w=>
 lD 3 b w λc w=>
 nS x0 w λd w=>
 fA 112 d 1 w λe w=>
 lD 3 e w λf w=>
 bT .sub 3 19 23 c f w λg w=>
 nS x0 w λh w=>
 fA 112 h 1 w λi w=>
 lD 3 i w λj w=>
 bT .geq 3 25 29 c j w λl w=>
 gV l true g w λm w=>
 gd l true (λk=>bC .rem 3 32 32 m w k) w λn w=>
 gd l true (λk=>bC .eql 3 33 0 n w k) w λo w=>
 au l o (.bool false) w λp w=>
 gV p true g w λq w=>
 gV p true x0 w λs w=>
 gd p true (λk=>nS s w k) w λt w=>
 gd p true (λk=>fA 112 t 2 w k) w λv w=>
 gd p true (λk=>lD 3 v w k) w λy w=>
 gd p true (λk=>bT .lss 3 37 41 q y w k) w λz w=>
 au p z (.bool false) w λa0 w=>
 ae a0 (
 nS x0 w λa1 w=>
 fA 112 a1 6 w λa2 w=>
 lD 110 a2 w λa3 w=>
 ac prog (Instr.mapUpdate 110 a3 c (.bool true)) w λw=>
 Hy K E1 x0 x13 x14 x15 w) (
 Hy K E1 x0 x13 x14 x15 w)) (
 K (.tuple #[]) w)
def CM (I:VP1) (μ:M1) (h0:I x15 w) (hr:∀x15 w,I x15 w->∀E1,Q1 I μ x15 w E1->tu K x0 x13 x14 x15 w E1):Ug K x0 x13 x14 x15 w:=⟨I,μ,h0,λσ w hI E hE=>cast kR (hr (σ 15) w hI E hE)⟩
def CN (E1:VP1):Prop:=
 bC .add 3 15 1 x15 w λa w=>
 E1 a w
def OM (E1:VP1):Hy K E1 x0 x13 x14 x15 w=CN x15 w E1:=aI λσ=>kR
def ZJ:Prop:=
 bM .eql 33 (.tmp 7) (.const (.pointer none)) x0 (.pointer none) w λa w=>
 ae a (
 K (.tuple #[]) w) (
 ev prog (Instr.makeMap 110 none) w λb w=>
 nS x0 w λc w=>
 fA 112 c 6 w λd w=>
 sD 110 d b w λw=>
 lN 50 x1 w λe w=>
 Ug K x0 x1 e (.int .i64 0) w)
def Ui:=cA2 Tryz.func33 Uf.2 ZJ
def Uj:Prop:=
 bM .neq 33 (.tmp 3) (.const (.pointer none)) x0 (.pointer none) w λa w=>
 gV a true x0 w λb w=>
 gd a true (λk=>nS b w k) w λc w=>
 gd a true (λk=>fA 112 c 7 w k) w λd w=>
 gd a true (λk=>lD 4 d w k) w λe w=>
 au a e (.bool false) w λf w=>
 K f w
def CO:=cA1 Tryz.func34 .o Uj
def KH:Prop:=
 bM .eql 33 (.tmp 3) (.const (.pointer none)) x0 (.pointer none) w λa w=>
 gV a false x0 w λb w=>
 gd a false (λk=>nS b w k) w λc w=>
 gd a false (λk=>fA 112 c 7 w k) w λd w=>
 gd a false (λk=>lD 4 d w k) w λe w=>
 au a (.bool true) e w λf w=>
 ae f (
 K (.bool false) w) (
 nS x0 w λg w=>
 fA 112 g 7 w λh w=>
 sD 4 h (.bool true) w λw=>
 K (.bool true) w)
def tw:=cA1 Tryz.func35 .o KH
def Uk:Prop:=
 bM .eql 40 (.tmp 11) (.const (.pointer none)) x0 (.pointer none) w λa w=>
 ae a (
 K (.tuple #[(.int .u64 ((0:Nat):Int)),(.int .i64 5)]) w) (
 nS x0 w λb w=>
 fA 123 b 1 w λc w=>
 lD 31 c w λd w=>
 cL 90 (pA #[d]) w λe w=>
 cL 64 (pA #[e,x1,x2]) w λf w=>
 bC .neq 28 21 0 f w λg w=>
 ae g (
 K (.tuple #[(.int .u64 ((0:Nat):Int)),f]) w) (
 nS x0 w λh w=>
 fA 123 h 1 w λi w=>
 lD 31 i w λj w=>
 cL 28 (pA #[j]) w λl w=>
 bC .neq 28 29 0 l w λm w=>
 ae m (
 K (.tuple #[(.int .u64 ((0:Nat):Int)),l]) w) (
 nS x0 w λn w=>
 fA 123 n 0 w λo w=>
 lD 33 o w λp w=>
 nS p w λq w=>
 fA 112 q 0 w λs w=>
 lD 106 s w λt w=>
 bn prog t "Err" (pA #[]) w fun v w=>
 bC .neq 28 40 0 v w λy w=>
 ae y (
 K (.tuple #[(.int .u64 ((0:Nat):Int)),v]) w) (
 nS x0 w λz w=>
 fA 123 z 0 w λa0 w=>
 lD 33 a0 w λa1 w=>
 nS a1 w λa2 w=>
 fA 112 a2 7 w λa3 w=>
 lD 4 a3 w λa4 w=>
 ae a4 (
 K (.tuple #[(.int .u64 ((0:Nat):Int)),(.int .i64 7)]) w) (
 nR x0 w.drew λa5=>
 fR 123 a5 0 w.drew λa6=>
 lR 33 a6 w.drew λa7=>
 nR x0 w.drew λa8=>
 fR 123 a8 1 w.drew λa9=>
 lR 31 a9 w.drew λb0=>
 cL 90 (pA #[b0]) w.drew λb1 w=>
 (br prog x0 w (λu=>u=a5))/\
 (fG 123 a5 0 w a6)/\
 (lG 33 a6 w a7)/\
 cL 15 (pA #[a7,b1,x1,x2]) w λb2 w=>
 xR b2 0 w λb3=>
 xR b2 1 w λb4=>
 K (.tuple #[b3,b4]) w)))))
def CP:=cA3 Tryz.func36 .o Uk
def ZK:Prop:=
 bM .eql 33 (.tmp 3) (.const (.pointer none)) x0 (.pointer none) w λa w=>
 ae a (
 K (.int .i64 0) w) (
 nS x0 w λb w=>
 fA 112 b 4 w λc w=>
 lD 108 c w λd w=>
 lN 108 d w λe w=>
 K e w)
def Ul:=cA1 Tryz.func37 .o ZK
def ZL:Prop:=
 bM .neq 33 (.tmp 2) (.const (.pointer none)) x0 (.pointer none) w λa w=>
 ae a (
 nS x0 w λb w=>
 fA 112 b 7 w λc w=>
 sD 4 c (.bool false) w λw=>
 K (.tuple #[]) w) (
 K (.tuple #[]) w)
def Um:=cA1 Tryz.func38 .o ZL
noncomputable def jO:=uD Tryz.f42 (.s .o (.s .o (.s .o (.s .o (.x 7 (.s .o (.b (.l [52] 3377699720527879 2301339409586324672 .o))) (.x 7 (.s .o (.b (.l [63] 6917529027641081863 18880242559441726091456 .o))) (.s .o (.s .o (.x 49157 (.s .o (.b (.l [78] 226673591177742970306565 20769187433837079059218328027267072 .o))) (.x 16385 (.s .o (.b (.l [116] 62307562302417931542365955950690305 2787593066739578156134722727593104180772864 .o))) (.s .o (.x 268435457 (.s .o (.b (.l [28,145] 33451117797795934712303577408972542258987009 3138550867693295780427497650357550136614632425525379858624 .o))) .o))))))))))))
abbrev gr:=aU prog Tryz.f42.results.toList
def CQ:KF:=kO 7 (cP (pw jO 5 31) (gr K) (gr K) nX)
def Hz:Prop:=CQ K (fy 200 7 [x0,x1,x2]) w
def HA:Prop:=aE [52] 3377699720527879 (λE=>cP (pw jO 8 47) E (gr K) (exB 0 (CQ K) nX)) (fy 200 7881299347898375 [x0,x1,x2,x50,x51,x52]) w
def CR:KF:=kO 7 (cP (pw jO 6 63) (gr K) (gr K) nX)
def HB:Prop:=CR K (fy 200 7 [x0,x1,x2]) w
def Un:Prop:=aE [63] 6917529027641081863 (λE=>cP (pw jO 9 95) E (gr K) (exB 2 (CR K) nX)) (fy 200 16140901064495857671 [x0,x1,x2,x61,x62,x63]) w
def CS:KF:=kO 49157 (cP (pw jO 9 511) (gr K) (gr K) nX)
def HC:Prop:=CS K (fy 200 49157 [x0,x2,x14,x15]) w
def HD:Prop:=aE [78] 226673591177742970306565 (λE=>cP (pw jO 12 767) E (gr K) (exB 4 (CS K) nX)) (fy 200 528905046081400263983109 [x0,x2,x14,x15,x76,x77,x78]) w
def CT:KF:=kO 16385 (cP (pw jO 10 1023) (gr K) (gr K) nX)
def AI:Prop:=CT K (fy 200 16385 [x0,x14]) w
def HE:Prop:=aE [116] 62307562302417931542365955950690305 (λE=>cP (pw jO 13 1535) E (gr K) (exB 6 (CT K) nX)) (fy 200 145384312038975173598853897218211841 [x0,x14,x15,x114,x115,x116]) w
def CU:KF:=kO 268435457 (cP (pw jO 12 4095) (gr K) (gr K) nX)
def AJ:Prop:=CU K (fy 200 268435457 [x0,x28]) w
def HF:Prop:=aE [28,145] 33451117797795934712303577408972542258987009 (λE=>cP (pw jO 15 6143) E (gr K) (exB 8 (CU K) nX)) (fy 200 78052608194857180995375013954269265539383297 [x0,x14,x28,x143,x144,x145]) w
def CV:Prop:=
 lN 25 x2 w λa w=>
 Un K x0 x1 x2 x2 a (.int .i64 0) w
def ON:Hz K x0 x1 x2 w=CV K x0 x1 x2 w:=aI λσ=>kR
def CX (E1:VP1):Prop:=
 bT .lss 3 52 51 x52 x51 w λa w=>
 ae a (
 iA 25 x50 x52 w λb w=>
 lD 27 b w λc w=>
 cL 83 (pA #[x0,c]) w λd w=>
 ev prog (Op.unary .not d) w λe w=>
 ae e (
 K (.tuple #[(.slice none 0 0),(.int .i64 8)]) w) (
 bC .add 3 52 1 x52 w λf w=>
 E1 f w)) (
 Hz K x0 x1 x2 w)
def CY (I:VP1) (μ:M1) (h0:I x52 w) (hr:∀x52 w,I x52 w->∀E1,Q1 I μ x52 w E1->CX K x0 x1 x2 x50 x51 x52 w E1):HA K x0 x1 x2 x50 x51 x52 w:=⟨I,μ,h0,λσ w hI E hE=>cast kR (hr (σ 52) w hI E hE)⟩
def CZ:Prop:=
 ev prog (Instr.makeMap 159 none) w λa w=>
 ev prog (Instr.alloc 159 true (.tuple #[])) w λb w=>
 sD 159 b a w λw=>
 ev prog (Instr.makeFunc (.func 95) #[] #[b]) w λc w=>
 lN 25 x1 w λd w=>
 HD K x0 x2 b c x1 d (.int .i64 0) w
def OO:HB K x0 x1 x2 w=CZ K x0 x1 x2 w:=aI λσ=>kR
def C0 (E1:VP1):Prop:=
 bT .lss 3 63 62 x63 x62 w λa w=>
 ae a (
 iA 25 x61 x63 w λb w=>
 lD 27 b w λc w=>
 cL 21 (pA #[x0,c,(.int .u8 ((0:Nat):Int))]) w λd w=>
 bC .neq 28 70 0 d w λe w=>
 ae e (
 K (.tuple #[(.slice none 0 0),d]) w) (
 bC .add 3 63 1 x63 w λf w=>
 E1 f w)) (
 HB K x0 x1 x2 w)
def C4 (I:VP1) (μ:M1) (h0:I x63 w) (hr:∀x63 w,I x63 w->∀E1,Q1 I μ x63 w E1->C0 K x0 x1 x2 x61 x62 x63 w E1):Un K x0 x1 x2 x61 x62 x63 w:=⟨I,μ,h0,λσ w hI E hE=>cast kR (hr (σ 63) w hI E hE)⟩
def C5:Prop:=
 lN 25 x2 w λa w=>
 HE K x0 x14 x15 x2 a (.int .i64 0) w
def OP:HC K x0 x2 x14 x15 w=C5 K x0 x2 x14 x15 w:=aI λσ=>kR
def tz (E1:VP1):Prop:=
 bT .lss 3 78 77 x78 x77 w λa w=>
 ae a (
 iA 25 x76 x78 w λb w=>
 lD 27 b w λc w=>
 cL 84 (pA #[x0,c]) w λd w=>
 eX d 0 w λe w=>
 eX d 1 w λf w=>
 eX d 2 w λg w=>
 md prog x15 (pA #[e]) w λh w=>
 nR h w.drew λi=>
 fR 162 i 0 w.drew λj=>
 lR 50 j w.drew λl=>
 nR h w.drew λm=>
 fR 162 m 1 w.drew λn=>
 lR 51 n w.drew λo=>
 ev prog (an 50 1 #[(0,f)]) w.drew λp w=>
 (br prog h w (λu=>u=i))/\
 (fG 162 i 0 w j)/\
 (lG 50 j w l)/\
 (br prog h w (λu=>u=m))/\
 (fG 162 m 1 w n)/\
 (lG 51 n w o)/\
 aY prog .append #[50,50] 50 #[false,false] (pA #[l,p]) w λq w=>
 (br prog h w (λu=>u=m))/\
 (fG 162 m 1 w n)/\
 (lG 51 n w o)/\
 cL 60 (pA #[c]) w λs w=>
 (br prog h w (λu=>u=m))/\
 (fG 162 m 1 w n)/\
 (lG 51 n w o)/\
 ev prog (an 51 1 #[(0,s)]) w λt w=>
 (br prog h w (λu=>u=m))/\
 (fG 162 m 1 w n)/\
 (lG 51 n w o)/\
 aY prog .append #[51,51] 51 #[false,false] (pA #[o,t]) w λv w=>
 nR h w λy=>
 fR 162 y 0 w λz=>
 sD 50 z q w λw=>
 nR h w λa0=>
 fR 162 a0 1 w λa1=>
 sD 51 a1 v w λw=>
 bC .add 3 78 1 x78 w λa2 w=>
 E1 a2 w) (
 HC K x0 x2 x14 x15 w)
def C6 (I:VP1) (μ:M1) (h0:I x78 w) (hr:∀x78 w,I x78 w->∀E1,Q1 I μ x78 w E1->tz K x0 x2 x14 x15 x76 x77 x78 w E1):HD K x0 x2 x14 x15 x76 x77 x78 w:=⟨I,μ,h0,λσ w hI E hE=>cast kR (hr (σ 78) w hI E hE)⟩
def C7:Prop:=
 lD 159 x14 w λa w=>
 cL 97 (pA #[a]) w λb w=>
 cL 96 (pA #[b]) w λc w=>
 lN 50 c w λd w=>
 HF K x0 x14 (.slice none 0 0) c d (.int .i64 0) w
def OQ:AI K x0 x14 w=C7 K x0 x14 w:=aI λσ=>kR
def tA (E1:VP1):Prop:=
 bT .lss 3 116 115 x116 x115 w λa w=>
 ae a (
 iA 25 x114 x116 w λb w=>
 lD 27 b w λc w=>
 cL 84 (pA #[x0,c]) w λd w=>
 eX d 0 w λe w=>
 eX d 1 w λf w=>
 eX d 2 w λg w=>
 md prog x15 (pA #[e]) w λh w=>
 nS h w λi w=>
 fA 162 i 2 w λj w=>
 lD 50 j w λl w=>
 ev prog (an 50 1 #[(0,f)]) w λm w=>
 aY prog .append #[50,50] 50 #[false,false] (pA #[l,m]) w λn w=>
 nS h w λo w=>
 fA 162 o 2 w λp w=>
 sD 50 p n w λw=>
 bC .add 3 116 1 x116 w λq w=>
 E1 q w) (
 AI K x0 x14 w)
def C8 (I:VP1) (μ:M1) (h0:I x116 w) (hr:∀x116 w,I x116 w->∀E1,Q1 I μ x116 w E1->tA K x0 x14 x15 x114 x115 x116 w E1):HE K x0 x14 x15 x114 x115 x116 w:=⟨I,μ,h0,λσ w hI E hE=>cast kR (hr (σ 116) w hI E hE)⟩
def C9:Prop:=
 nS x0 w λa w=>
 fA 112 a 0 w λb w=>
 lD 106 b w λc w=>
 bn prog c "Err" (pA #[]) w fun d w=>
 bC .neq 28 196 0 d w λe w=>
 ae e (
 K (.tuple #[(.slice none 0 0),d]) w) (
 K (.tuple #[x28,(.int .i64 0)]) w)
def OR:AJ K x0 x28 w=C9 K x0 x28 w:=aI λσ=>kR
def tB (E1:VP2):Prop:=
 bT .lss 3 145 144 x145 x144 w λa w=>
 ae a (
 iA 50 x143 x145 w λb w=>
 lD 3 b w λc w=>
 nS x0 w λd w=>
 fA 112 d 0 w λe w=>
 lD 106 e w λf w=>
 cL 75 (pA #[f,c]) w λg w=>
 eX g 0 w λh w=>
 eX g 1 w λi w=>
 ev prog (Instr.alloc 134 true (.tuple #[])) w λj w=>
 sD 134 j h w λw=>
 bC .neq 28 158 0 i w λl w=>
 ae l (
 K (.tuple #[(.slice none 0 0),i]) w) (
 lR 134 j w.drew λm=>
 lR 159 x14 w.drew λn=>
 rd prog (Instr.lookup 159 n c false) w.drew λo=>
 nR o w.drew λp=>
 fR 162 p 0 w.drew λq=>
 lR 50 q w.drew λs=>
 lR 159 x14 w.drew λt=>
 rd prog (Instr.lookup 159 t c false) w.drew λv=>
 nR v w.drew λy=>
 fR 162 y 1 w.drew λz=>
 lR 51 z w.drew λa0=>
 lR 159 x14 w.drew λa1=>
 rd prog (Instr.lookup 159 a1 c false) w.drew λa2=>
 nR a2 w.drew λa3=>
 fR 162 a3 2 w.drew λa4=>
 lR 50 a4 w.drew λa5=>
 cL 98 (pA #[m,s,a0,a5]) w.drew λa6 w=>
 xR a6 0 w λa7=>
 xR a6 1 w λa8=>
 bC .neq 28 184 0 a8 w λa9 w=>
 ae a9 (
 K (.tuple #[(.slice none 0 0),a8]) w) (
 aY prog .append #[79,79] 79 #[false,false] (pA #[x28,a7]) w λb0 w=>
 bC .add 3 145 1 x145 w λb1 w=>
 E1 b0 b1 w))) (
 AJ K x0 x28 w)
def Da (I:VP2) (μ:M2) (h0:I x28 x145 w) (hr:∀x28 x145 w,I x28 x145 w->∀E1,Q2 I μ x28 x145 w E1->tB K x0 x14 x28 x143 x144 x145 w E1):HF K x0 x14 x28 x143 x144 x145 w:=⟨I,μ,h0,λσ w hI E hE=>cast kR (hr (σ 28) (σ 145) w hI E hE)⟩
def ZM:Prop:=
 bM .eql 33 (.tmp 35) (.const (.pointer none)) x0 (.pointer none) w λa w=>
 ae a (
 K (.tuple #[(.slice none 0 0),(.int .i64 5)]) w) (
 ev prog (an 213 2 #[(0,x1),(1,x2)]) w λb w=>
 cL 94 (pA #[b]) w λc w=>
 ev prog (Op.unary .not c) w λd w=>
 ae d (
 K (.tuple #[(.slice none 0 0),(.int .i64 1)]) w) (
 nS x0 w λe w=>
 fA 112 e 0 w λf w=>
 lD 106 f w λg w=>
 bn prog g "Err" (pA #[]) w fun h w=>
 bC .neq 28 47 0 h w λi w=>
 ae i (
 K (.tuple #[(.slice none 0 0),h]) w) (
 lN 25 x1 w λj w=>
 HA K x0 x1 x2 x1 j (.int .i64 0) w)))
def Uo:=cA3 Tryz.func42 jO.2 ZM
def ZN:Prop:=
 cL 71 (pA #[x0,x1]) w λa w=>
 eX a 0 w λb w=>
 eX a 1 w λc w=>
 bC .neq 28 13 0 c w λd w=>
 ae d (
 K c w) (
 nS x0 w λe w=>
 fA 171 e 0 w λf w=>
 lD 106 f w λg w=>
 cL 99 (pA #[b,g]) w λh w=>
 K h w)
def Up:=cA2 Tryz.func43 .o ZN
noncomputable def Uq:=uD Tryz.f44 (.s .o (.s .o (.b (.l [12] 3073 8384640 (.s .o (.s .o (.x 7169 .o .o)))))))
abbrev KI:=aU prog Tryz.f44.results.toList
def Ur:Prop:=aE [12] 3073 (λE=>cP (pw Uq 4 3) E (KI K) (exB 0 (KI K) nX)) (fy 23 7169 [x0,x10,x11,x12]) w
def Us (E1:VP1):KF:=kO 7169 (cP (pw Uq 7 115) (sE1 E1 12) (KI K) (exB 0 (KI K) nX))
def HG (K:K1) (E1:VP1) (x0 x10 x11 x12:bb) (w:aA):Prop:=Us K E1 (fy 23 7169 [x0,x10,x11,x12]) w
def tC (E1:VP1):Prop:=
 bT .lss 3 12 11 x12 x11 w λa w=>
 ae a (
 iA 25 x10 x12 w λb w=>
 lD 27 b w λc w=>
 cL 83 (pA #[x0,c]) w λd w=>
 ae d (
 cL 100 (pA #[x0,c]) w λe w=>
 HG K E1 x0 x10 x11 x12 w) (
 HG K E1 x0 x10 x11 x12 w)) (
 K (.tuple #[]) w)
def Db (I:VP1) (μ:M1) (h0:I x12 w) (hr:∀x12 w,I x12 w->∀E1,Q1 I μ x12 w E1->tC K x0 x10 x11 x12 w E1):Ur K x0 x10 x11 x12 w:=⟨I,μ,h0,λσ w hI E hE=>cast kR (hr (σ 12) w hI E hE)⟩
def tD (E1:VP1):Prop:=
 bC .add 3 12 1 x12 w λa w=>
 E1 a w
def xq (E1:VP1):HG K E1 x0 x10 x11 x12 w=tD x12 w E1:=aI λσ=>kR
def ZO:Prop:=
 bM .eql 33 (.tmp 8) (.const (.pointer none)) x0 (.pointer none) w λa w=>
 ae a (
 K (.tuple #[]) w) (
 lN 25 x1 w λb w=>
 Ur K x0 x1 b (.int .i64 0) w)
def Ut (x0 x1 x2:bb) (K:K1) (w:aA) (h:ZO K x0 x1 w):ad prog 44 #[x0,x1,x2] w K:=
 be (args:= [x0,x1,x2]) mixed Tryz.func44 Uq.2 kR (cast kR h)
def ZP:Prop:=
 bM .neq 40 (.tmp 6) (.const (.pointer none)) x0 (.pointer none) w λa w=>
 ae a (
 nS x0 w λb w=>
 fA 123 b 1 w λc w=>
 lD 31 c w λd w=>
 cL 30 (pA #[d,x1,x2]) w λe w=>
 K (.tuple #[]) w) (
 K (.tuple #[]) w)
def Uu:=cA3 Tryz.func45 .o ZP
def ZQ:Prop:=
 bM .eql 40 (.tmp 5) (.const (.pointer none)) x0 (.pointer none) w λa w=>
 ae a (
 K (.int .u64 ((0:Nat):Int)) w) (
 nS x0 w λb w=>
 fA 123 b 1 w λc w=>
 lD 31 c w λd w=>
 cL 32 (pA #[d,x1]) w λe w=>
 K e w)
def Uv:=cA2 Tryz.func46 .o ZQ
def ZR:Prop:=
 bM .neq 40 (.tmp 4) (.const (.pointer none)) x0 (.pointer none) w λa w=>
 ae a (
 nS x0 w λb w=>
 fA 123 b 1 w λc w=>
 lD 31 c w λd w=>
 cL 101 (pA #[d,x1]) w λe w=>
 K (.tuple #[]) w) (
 K (.tuple #[]) w)
def Uw:=cA2 Tryz.func47 .o ZR
def ZS:Prop:=
 bM .neq 40 (.tmp 2) (.const (.pointer none)) x0 (.pointer none) w λa w=>
 ae a (
 nS x0 w λb w=>
 fA 123 b 1 w λc w=>
 lD 31 c w λd w=>
 cL 102 (pA #[d]) w λe w=>
 K (.tuple #[]) w) (
 K (.tuple #[]) w)
def Ux:=cA1 Tryz.func48 .o ZS
def ZT:Prop:=
 bM .eql 40 (.tmp 3) (.const (.pointer none)) x0 (.pointer none) w λa w=>
 ae a (
 K (.int .u64 ((0:Nat):Int)) w) (
 nS x0 w λb w=>
 fA 123 b 1 w λc w=>
 lD 31 c w λd w=>
 cL 105 (pA #[d]) w λe w=>
 K e w)
def Uy:=cA1 Tryz.func51 .o ZT
def Uz:Prop:=
 bM .eql 40 (.tmp 3) (.const (.pointer none)) x0 (.pointer none) w λa w=>
 ae a (
 K (.int .i64 5) w) (
 nS x0 w λb w=>
 fA 123 b 1 w λc w=>
 lD 31 c w λd w=>
 cL 28 (pA #[d]) w λe w=>
 K e w)
def Dc:=cA1 Tryz.func53 .o Uz
def Dd:Prop:=
 bM .eql 33 (.tmp 7) (.const (.pointer none)) x0 (.pointer none) w λa w=>
 gV a false x1 w λb w=>
 gd a false (λk=>bM .eql 31 (.tmp 10) (.const (.pointer none)) b (.pointer none) w k) w λc w=>
 au a (.bool true) c w λd w=>
 gV d false x2 w λe w=>
 gd d false (λk=>bM .eql 32 (.tmp 14) (.const (.pointer none)) e (.pointer none) w k) w λf w=>
 au d (.bool true) f w λg w=>
 ae g (
 K (.pointer none) w) (
 ev prog (Instr.build 123 #[(0,x0),(1,x1),(2,x2)]) w λh w=>
 ev prog (Instr.box 123 h) w λi w=>
 K i w)
def mW:=cA3 Tryz.func55 .o Dd
def ZU:Prop:=
 cL 112 (pA #[x0,x1,x2]) w λa w=>
 eX a 0 w λb w=>
 eX a 1 w λc w=>
 bC .neq 28 17 0 c w λd w=>
 ae d (
 K c w) (
 bn prog x0 "Err" (pA #[]) w fun e w=>
 bC .neq 28 22 0 e w λf w=>
 ae f (
 K e w) (
 cL 113 (pA #[b,(.int .u64 ((0:Nat):Int))]) w λg w=>
 cL 99 (pA #[g,x0]) w λh w=>
 K h w))
def UA:=cA3 Tryz.func62 .o ZU
def ZV:Prop:=
 cL 114 (pA #[x0,x1,x2]) w λa w=>
 K a w
def UB:=cA3 Tryz.func63 .o ZV
def KJ:Prop:=
 bC .lss 3 7 0 x0 w λa w=>
 gV a false x0 w λb w=>
 gd a false (λk=>bC .geq 3 10 8 b w k) w λc w=>
 au a (.bool true) c w λd w=>
 gV d false x1 w λe w=>
 gd d false (λk=>bC .lss 3 14 1 e w k) w λf w=>
 au d (.bool true) f w λg w=>
 gV g false x2 w λh w=>
 gd g false (λk=>bU .eql 5 18 .u8 0 h w k) w λi w=>
 au g (.bool true) i w λj w=>
 gV j false x2 w λl w=>
 gd j false (λk=>bU .gtr 5 22 .u8 127 l w k) w λm w=>
 au j (.bool true) m w λn w=>
 ae n (
 K (.int .i64 1) w) (
 bC .gtr 3 25 60 x1 w λo w=>
 ae o (
 K (.int .i64 9) w) (
 K (.int .i64 0) w))
def tE:=cA3 Tryz.func64 .o KJ
noncomputable def KK:=uD Tryz.f66 (.s .o (.x 0 (.s .o (.b (.l [23] 6291465 70368735819520 (.s .o (.s .o (.x 14680073 .o .o)))))) .o))
abbrev KL:=aU prog Tryz.f66.results.toList
def tF:KF:=kO 0 (cP (pr (pr KK)) (KL K) (KL K) nX)
def UC:Prop:=tF K (fy 46 0 []) w
def UD:Prop:=aE [23] 6291465 (λE=>cP (pw KK 5 5) E (KL K) (exB 0 (tF K) nX)) (fy 46 14680073 [x0,x3,x21,x22,x23]) w
def UE (E1:VP1):KF:=kO 14680073 (cP (pw KK 8 229) (sE1 E1 23) (KL K) (exB 0 (tF K) nX))
def HH (K:K1) (E1:VP1) (x0 x3 x21 x22 x23:bb) (w:aA):Prop:=UE K E1 (fy 46 14680073 [x0,x3,x21,x22,x23]) w
def De:Prop:=
 K (.tuple #[(.int .u64 ((0:Nat):Int)),(.int .i64 0),(.int .i64 5)]) w
def OS:UC K w=De K w:=aI λσ=>kR
def tG (E1:VP1):Prop:=
 bT .lss 3 23 22 x23 x22 w λa w=>
 ae a (
 iA 50 x21 x23 w λb w=>
 lD 3 b w λc w=>
 nS x0 w λd w=>
 fA 112 d 6 w λe w=>
 lD 110 e w λf w=>
 ev prog (Instr.lookup 110 f c false) w λg w=>
 ae g (
 HH K E1 x0 x3 x21 x22 x23 w) (
 cL 68 (pA #[x0,c,x3]) w λh w=>
 eX h 0 w λi w=>
 eX h 1 w λj w=>
 bC .neq 28 40 5 j w λl w=>
 ae l (
 K (.tuple #[i,c,j]) w) (
 HH K E1 x0 x3 x21 x22 x23 w))) (
 UC K w)
def Df (I:VP1) (μ:M1) (h0:I x23 w) (hr:∀x23 w,I x23 w->∀E1,Q1 I μ x23 w E1->tG K x0 x3 x21 x22 x23 w E1):UD K x0 x3 x21 x22 x23 w:=⟨I,μ,h0,λσ w hI E hE=>cast kR (hr (σ 23) w hI E hE)⟩
def mX (E1:VP1):Prop:=
 bC .add 3 23 1 x23 w λa w=>
 E1 a w
def xr (E1:VP1):HH K E1 x0 x3 x21 x22 x23 w=mX x23 w E1:=aI λσ=>kR
def ZW:Prop:=
 nS x0 w λa w=>
 fA 112 a 3 w λb w=>
 lD 107 b w λc w=>
 cL 115 (pA #[c,x1,x2]) w λd w=>
 lN 50 d w λe w=>
 UD K x0 x3 d e (.int .i64 0) w
def UF:=cA4 Tryz.func66 KK.2 ZW
noncomputable def UG:=uD Tryz.f67 (.s .o (.s .o (.s .o (.s .o (.s .o (.s .o (.s .o (.s .o (.s .o (.s .o (.x 33025 (.s .o (.b (.l [] 19807040628566084398386020609 5030988319655785437190040911872 .o))) .o)))))))))))
abbrev UH:=aU prog Tryz.f67.results.toList
def Dg:KF:=kO 33025 (cP (pw UG 11 2047) (UH K) (UH K) nX)
def UI:Prop:=Dg K (fy 107 33025 [x0,x8,x15]) w
def UJ:Prop:=aE [] 19807040628566084398386020609 (λE=>cP (pw UG 14 3071) E (UH K) (exB 0 (Dg K) nX)) (fy 107 19807040628566084398386020609 [x0,x8,x15,x94]) w
def Dh:Prop:=
 nS x0 w λa w=>
 fA 112 a 3 w λb w=>
 sD 107 b x15 w λw=>
 K (.tuple #[x8,(.int .i64 0)]) w
def OT:UI K x0 x8 x15 w=Dh K x0 x8 x15 w:=aI λσ=>kR
def Di (E1:VP0):Prop:=
 ev prog (Instr.next x94 false 0) w λa w=>
 eX a 0 w λb w=>
 ae b (
 ev prog (Instr.entry x94) w λc w=>
 eX c 0 w λd w=>
 cL 70 (pA #[x15,d,(.bool true)]) w λe w=>
 E1 w) (
 UI K x0 x8 x15 w)
def Dj (x0 x8 x15 x94:bb) (K:K1) (w:aA) (I:VP0) (μ:aA->Nat) (h0:I w)
  (hr:∀(w:aA),I w->∀E1:VP0,(∀(w':aA),I w'->μ w'<μ w->E1 w')->Di K x0 x8 x15 x94 w E1):UJ K x0 x8 x15 x94 w:=
 ⟨I,μ,h0,λσ w hI E hE=>cast kR (hr w hI E hE)⟩
def UK:Prop:=
 nS x0 w λa w=>
 fA 112 a 6 w λb w=>
 lD 110 b w λc w=>
 lN 110 c w λd w=>
 bC .eql 3 21 0 d w λe w=>
 ae e (
 nS x0 w λf w=>
 fA 112 f 3 w λg w=>
 lD 107 g w λh w=>
 cL 116 (pA #[h,x1,x2]) w λi w=>
 eX i 0 w λj w=>
 eX i 1 w λl w=>
 K (.tuple #[j,l]) w) (
 cL 117 (pA #[x0]) w λm w=>
 eX m 0 w λn w=>
 eX m 1 w λo w=>
 eX m 2 w λp w=>
 nS x0 w λq w=>
 fA 112 q 0 w λs w=>
 lD 106 s w λt w=>
 bn prog t "Err" (pA #[]) w fun v w=>
 bC .neq 28 43 0 v w λy w=>
 ae y (
 K (.tuple #[(.int .i64 0),v]) w) (
 bU .eql 130 46 .u16 0 o w λz w=>
 ae z (
 K (.tuple #[(.int .i64 0),(.int .i64 4)]) w) (
 ev prog (Instr.build 132 #[(0,x2),(1,x1),(2,o)]) w λa0 w=>
 cL 118 (pA #[n,a0]) w λa1 w=>
 eX a1 0 w λa2 w=>
 eX a1 1 w λa3 w=>
 bC .neq 28 57 0 a3 w λa4 w=>
 ae a4 (
 K (.tuple #[(.int .i64 0),a3]) w) (
 nR x0 w.drew λa5=>
 fR 112 a5 0 w.drew λa6=>
 lR 106 a6 w.drew λa7=>
 cL 119 (pA #[p,a2]) w.drew λa8 w=>
 (br prog x0 w (λu=>u=a5))/\
 (fG 112 a5 0 w a6)/\
 (lG 106 a6 w a7)/\
 cL 99 (pA #[a8,a7]) w λa9 w=>
 bC .neq 28 68 0 a9 w λb0 w=>
 ae b0 (
 K (.tuple #[(.int .i64 0),a9]) w) (
 nR x0 w.drew λb1=>
 fR 112 b1 0 w.drew λb2=>
 lR 106 b2 w.drew λb3=>
 nR x0 w.drew λb4=>
 fR 112 b4 1 w.drew λb5=>
 lR 3 b5 w.drew λb6=>
 nR x0 w.drew λb7=>
 fR 112 b7 2 w.drew λb8=>
 lR 3 b8 w.drew λb9=>
 cL 120 (pA #[b3,b6,b9]) w.drew λc0 w=>
 xR c0 0 w λc1=>
 xR c0 1 w λc2=>
 bC .neq 28 87 0 c2 w λc3 w=>
 ae c3 (
 K (.tuple #[(.int .i64 0),c2]) w) (
 nS x0 w λc4 w=>
 fA 112 c4 5 w λc5 w=>
 lD 109 c5 w λc6 w=>
 ev prog (Instr.range 109 c6) w λc7 w=>
 UJ K x0 n c1 c7 w))))))
def Dk:=cA3 Tryz.func67 UG.2 UK
noncomputable def KM:=uD Tryz.f68 (.s .o (.s .o (.s .o (.x 1 (.s .o (.b (.l [10] 261 147573952587528993984 (.s .o (.x 1285 .o .o))))) .o))))
abbrev KO:=aU prog Tryz.f68.results.toList
def tH:KF:=kO 1 (cP (pw KM 4 15) (KO K) (KO K) nX)
def UL:Prop:=tH K (fy 75 1 [x0]) w
def UM:Prop:=aE [10] 261 (λE=>cP (pw KM 7 23) E (KO K) (exB 0 (tH K) nX)) (fy 75 1285 [x0,x2,x8,x10]) w
def UN (E1:VP1):KF:=kO 1285 (cP (pw KM 9 407) (sE1 E1 10) (KO K) (exB 0 (tH K) nX))
def HI (K:K1) (E1:VP1) (x0 x2 x8 x10:bb) (w:aA):Prop:=UN K E1 (fy 75 1285 [x0,x2,x8,x10]) w
def Dl:Prop:=
 nS x0 w λa w=>
 fA 112 a 0 w λb w=>
 lD 106 b w λc w=>
 bn prog c "Err" (pA #[]) w fun d w=>
 bC .neq 28 72 0 d w λe w=>
 ae e (
 K (.tuple #[(.int .u64 ((0:Nat):Int)),d]) w) (
 K (.tuple #[(.int .u64 ((0:Nat):Int)),(.int .i64 5)]) w)
def OU:UL K x0 w=Dl K x0 w:=aI λσ=>kR
def tI (E1:VP1):Prop:=
 bC .geq 3 31 0 x10 w λa w=>
 ae a (
 lD 134 x8 w λb w=>
 cL 122 (pA #[b,x10,x2]) w λc w=>
 eX c 0 w λd w=>
 eX c 1 w λe w=>
 nS x0 w λf w=>
 fA 112 f 0 w λg w=>
 lD 106 g w λh w=>
 bn prog h "Err" (pA #[]) w fun i w=>
 bC .neq 28 49 0 i w λj w=>
 ae j (
 K (.tuple #[(.int .u64 ((0:Nat):Int)),i]) w) (
 bC .neq 28 52 0 e w λl w=>
 ae l (
 HI K E1 x0 x2 x8 x10 w) (
 nR x0 w.drew λm=>
 fR 112 m 4 w.drew λn=>
 lR 108 n w.drew λo=>
 cL 20 (pA #[d]) w.drew λp w=>
 (br prog x0 w (λu=>u=m))/\
 (fG 112 m 4 w n)/\
 (lG 108 n w o)/\
 rd prog (Instr.lookup 108 o p true) w λq=>
 xR q 0 w λs=>
 xR q 1 w λt=>
 ev prog (Op.unary .not t) w λv w=>
 ae v (
 K (.tuple #[d,(.int .i64 0)]) w) (
 HI K E1 x0 x2 x8 x10 w)))) (
 UL K x0 w)
def Dm (I:VP1) (μ:M1) (h0:I x10 w) (hr:∀x10 w,I x10 w->∀E1,Q1 I μ x10 w E1->tI K x0 x2 x8 x10 w E1):UM K x0 x2 x8 x10 w:=⟨I,μ,h0,λσ w hI E hE=>cast kR (hr (σ 10) w hI E hE)⟩
def tJ (E1:VP1):Prop:=
 lD 134 x8 w λa w=>
 bC .add 3 34 1 x10 w λb w=>
 cL 121 (pA #[a,b]) w λc w=>
 E1 c w
def xt (E1:VP1):HI K E1 x0 x2 x8 x10 w=tJ x8 x10 w E1:=aI λσ=>kR
def ZX:Prop:=
 nS x0 w λa w=>
 fA 112 a 0 w λb w=>
 lD 106 b w λc w=>
 cL 75 (pA #[c,x1]) w λd w=>
 eX d 0 w λe w=>
 eX d 1 w λf w=>
 ev prog (Instr.alloc 134 true (.tuple #[])) w λg w=>
 sD 134 g e w λw=>
 bC .neq 28 26 0 f w λh w=>
 ae h (
 K (.tuple #[(.int .u64 ((0:Nat):Int)),f]) w) (
 lD 134 g w λi w=>
 cL 121 (pA #[i,(.int .i64 0)]) w λj w=>
 UM K x0 x2 g j w)
def UO:=cA3 Tryz.func68 KM.2 ZX
noncomputable def UP:=uD Tryz.f69 (.s .o (.s .o (.x 129 (.s .o (.b (.l [7,11] 1027 4192640 .o))) .o)))
abbrev UQ:=aU prog Tryz.f69.results.toList
def Dn:KF:=kO 129 (cP (pw UP 3 7) (UQ K) (UQ K) nX)
def UR:Prop:=Dn K (fy 29 129 [x0,x7]) w
def US:Prop:=aE [7,11] 1027 (λE=>cP (pw UP 6 11) E (UQ K) (exB 0 (Dn K) nX)) (fy 29 3203 [x0,x1,x7,x10,x11]) w
def Do:Prop:=
 nR x0 w.drew λa=>
 fR 112 a 0 w.drew λb=>
 lR 106 b w.drew λc=>
 cL 123 (pA #[x7]) w.drew λd w=>
 (br prog x0 w (λu=>u=a))/\
 (fG 112 a 0 w b)/\
 (lG 106 b w c)/\
 cL 99 (pA #[d,c]) w λe w=>
 K e w
def OV:UR K x0 x7 w=Do K x0 x7 w:=aI λσ=>kR
def tK (E1:VP2):Prop:=
 bT .lss 3 11 10 x11 x10 w λa w=>
 ae a (
 cL 31 (pA #[x1,x11]) w λb w=>
 ev prog (Instr.build 98 #[(0,b)]) w λc w=>
 ev prog (an 79 1 #[(0,c)]) w λd w=>
 aY prog .append #[79,79] 79 #[false,false] (pA #[x7,d]) w λe w=>
 bC .add 3 11 1 x11 w λf w=>
 E1 e f w) (
 UR K x0 x7 w)
def Dp (I:VP2) (μ:M2) (h0:I x7 x11 w) (hr:∀x7 x11 w,I x7 x11 w->∀E1,Q2 I μ x7 x11 w E1->tK K x0 x1 x7 x10 x11 w E1):US K x0 x1 x7 x10 x11 w:=⟨I,μ,h0,λσ w hI E hE=>cast kR (hr (σ 7) (σ 11) w hI E hE)⟩
def ZY:Prop:=
 cL 85 (pA #[x2]) w λa w=>
 US K x0 x1 (.slice none 0 0) a (.int .i64 0) w
def UT:=cA3 Tryz.func69 UP.2 ZY
noncomputable def Dq:=uD Tryz.f71 (.s .o (.s .o (.x 3 (.s .o (.b (.l [29] 402653187 549218943152 .o))) (.s .o (.s .o (.s .o (.s .o (.s .o (.s .o (.s .o (.s .o (.s .o (.x 12545 (.s .o (.b (.l [12,13,78] 226673591177742970257665 41538374867976389573340313340211200 .o))) .o)))))))))))))
abbrev xw:=aU prog Tryz.f71.results.toList
def Dr:KF:=kO 3 (cP (pw Dq 3 7) (xw K) (xw K) nX)
def HJ:Prop:=Dr K (fy 133 3 [x0,x1]) w
def UU:Prop:=aE [29] 402653187 (λE=>cP (pw Dq 6 11) E (xw K) (exB 0 (Dr K) nX)) (fy 133 939524099 [x0,x1,x27,x28,x29]) w
def Ds:KF:=kO 12545 (cP (pw Dq 13 8191) (xw K) (xw K) nX)
def HK:Prop:=Ds K (fy 133 12545 [x0,x8,x12,x13]) w
def HM:Prop:=aE [12,13,78] 226673591177742970257665 (λE=>cP (pw Dq 16 12287) E (xw K) (exB 2 (Ds K) nX)) (fy 133 528905046081400263946497 [x0,x8,x12,x13,x76,x77,x78]) w
def iu:Prop:=
 cL 126 (pA #[x1]) w λa w=>
 lN 79 a w λb w=>
 bC .gtr 3 42 96 b w λc w=>
 ae c (
 K (.tuple #[(.slice none 0 0),(.int .i64 9)]) w) (
 nS x0 w λd w=>
 fA 171 d 0 w λe w=>
 lD 106 e w λf w=>
 bn prog f "Err" (pA #[]) w fun g w=>
 bC .neq 28 49 0 g w λh w=>
 ae h (
 K (.tuple #[(.slice none 0 0),g]) w) (
 nR x0 w.drew λi=>
 fR 171 i 0 w.drew λj=>
 lR 106 j w.drew λl=>
 nR x0 w.drew λm=>
 fR 171 m 1 w.drew λn=>
 lR 26 n w.drew λo=>
 nR l w.drew λp=>
 bn prog l "Load" (pA #[o]) w.drew fun q w=>
 nS x0 w λs w=>
 fA 171 s 0 w λt w=>
 lD 106 t w λv w=>
 bn prog v "Err" (pA #[]) w fun y w=>
 bC .neq 28 68 0 y w λz w=>
 ae z (
 K (.tuple #[(.slice none 0 0),y]) w) (
 bU .neq 26 71 .u64 0 q w λa0 w=>
 ae a0 (
 K (.tuple #[(.slice none 0 0),(.int .i64 8)]) w) (
 lN 79 a w λa1 w=>
 bC .eql 3 74 0 a1 w λa2 w=>
 ae a2 (
 K (.tuple #[(.slice none 0 0),(.int .i64 0)]) w) (
 lN 79 a w λa3 w=>
 HM K x0 a (.slice none 0 0) (.slice none 0 0) a a3 (.int .i64 0) w)))))
def iw:HJ K x0 x1 w=iu K x0 x1 w:=aI λσ=>kR
def mY (E1:VP1):Prop:=
 bT .lss 3 29 28 x29 x28 w λa w=>
 ae a (
 iA 79 x27 x29 w λb w=>
 lD 98 b w λc w=>
 ev prog (Instr.alloc 98 true (.tuple #[])) w λd w=>
 sD 98 d c w λw=>
 fA 98 d 0 w λe w=>
 lD 26 e w λf w=>
 cL 125 (pA #[x0,f]) w λg w=>
 ev prog (Op.unary .not g) w λh w=>
 ae h (
 K (.tuple #[(.slice none 0 0),(.int .i64 1)]) w) (
 bC .add 3 29 1 x29 w λi w=>
 E1 i w)) (
 HJ K x0 x1 w)
def qi (I:VP1) (μ:M1) (h0:I x29 w) (hr:∀x29 w,I x29 w->∀E1,Q1 I μ x29 w E1->mY K x0 x1 x27 x28 x29 w E1):UU K x0 x1 x27 x28 x29 w:=⟨I,μ,h0,λσ w hI E hE=>cast kR (hr (σ 29) w hI E hE)⟩
def Dt:Prop:=
 lN 79 x8 w λa w=>
 cV 3 26 a w λb w=>
 cL 127 (pA #[x13]) w λc w=>
 cV 126 26 c w λd w=>
 bU .shl 26 120 .u64 32 d w λe w=>
 bT .or 26 117 121 b e w λf w=>
 cL 123 (pA #[x12]) w λg w=>
 cL 113 (pA #[x0,f]) w λh w=>
 cL 119 (pA #[g,h]) w λi w=>
 cL 128 (pA #[x0,x8]) w λj w=>
 cL 119 (pA #[i,j]) w λl w=>
 K (.tuple #[l,(.int .i64 0)]) w
def OW:HK K x0 x8 x12 x13 w=Dt K x0 x8 x12 x13 w:=aI λσ=>kR
def tL (E1:VP3):Prop:=
 bT .lss 3 78 77 x78 x77 w λa w=>
 ae a (
 iA 79 x76 x78 w λb w=>
 lD 98 b w λc w=>
 ev prog (Instr.alloc 98 true (.tuple #[])) w λd w=>
 sD 98 d c w λw=>
 nS x0 w λe w=>
 fA 171 e 1 w λf w=>
 lD 26 f w λg w=>
 bU .add 26 86 .u64 64 g w λh w=>
 cV 3 26 x78 w λi w=>
 bU .mul 26 89 .u64 16 i w λj w=>
 bT .add 26 87 90 h j w λl w=>
 fA 98 d 0 w λm w=>
 lD 26 m w λn w=>
 ev prog (Instr.build 98 #[(0,l),(1,n)]) w λo w=>
 ev prog (an 79 1 #[(0,o)]) w λp w=>
 aY prog .append #[79,79] 79 #[false,false] (pA #[x12,p]) w λq w=>
 bU .add 26 100 .u64 8 l w λs w=>
 fA 98 d 1 w λt w=>
 lD 26 t w λv w=>
 ev prog (Instr.build 98 #[(0,s),(1,v)]) w λy w=>
 ev prog (an 79 1 #[(0,y)]) w λz w=>
 aY prog .append #[79,79] 79 #[false,false] (pA #[q,z]) w λa0 w=>
 fA 98 d 0 w λa1 w=>
 lD 26 a1 w λa2 w=>
 fA 98 d 1 w λa3 w=>
 lD 26 a3 w λa4 w=>
 ev prog (an 58 2 #[(0,a2),(1,a4)]) w λa5 w=>
 aY prog .append #[58,58] 58 #[false,false] (pA #[x13,a5]) w λa6 w=>
 bC .add 3 78 1 x78 w λa7 w=>
 E1 a0 a6 a7 w) (
 HK K x0 x8 x12 x13 w)
def Du (I:VP3) (μ:M3) (h0:I x12 x13 x78 w) (hr:∀x12 x13 x78 w,I x12 x13 x78 w->∀E1,Q3 I μ x12 x13 x78 w E1->tL K x0 x8 x12 x13 x76 x77 x78 w E1):HM K x0 x8 x12 x13 x76 x77 x78 w:=⟨I,μ,h0,λσ w hI E hE=>cast kR (hr (σ 12) (σ 13) (σ 78) w hI E hE)⟩
def UV:Prop:=
 bM .eql 32 (.tmp 18) (.const (.pointer none)) x0 (.pointer none) w λa w=>
 gV a false x0 w λb w=>
 gd a false (λk=>nS b w k) w λc w=>
 gd a false (λk=>fA 171 c 0 w k) w λd w=>
 gd a false (λk=>lD 106 d w k) w λe w=>
 gd a false (λk=>bM .eql 106 (.tmp 24) (.const .nilIface) e .nilIface w k) w λf w=>
 au a (.bool true) f w λg w=>
 ae g (
 K (.tuple #[(.slice none 0 0),(.int .i64 1)]) w) (
 lN 79 x1 w λh w=>
 UU K x0 x1 x1 h (.int .i64 0) w)
def Dw:=cA2 Tryz.func71 Dq.2 UV
def ZZ:Prop:=
 bM .eql 79 (.tmp 3) (.const (.slice none 0 0)) x0 (.slice none 0 0) w λa w=>
 ae a (
 K (.slice none 0 0) w) (
 ev prog (an 79 0 #[]) w λb w=>
 aY prog .append #[79,79] 79 #[false,false] (pA #[b,x0]) w λc w=>
 K c w)
def UW:=cA1 Tryz.func72 .o ZZ
def KP:Prop:=
 nS x0 w λa w=>
 fA 112 a 1 w λb w=>
 lD 3 b w λc w=>
 cV 3 26 c w λd w=>
 bU .mul 26 13 .u64 64 d w λe w=>
 nS x0 w λf w=>
 fA 112 f 2 w λg w=>
 lD 3 g w λh w=>
 bC .quo 3 18 32 h w λi w=>
 bT .lss 26 20 21 x1 e w λj w=>
 ae j (
 K (.tuple #[(.int .i64 0),(.bool false)]) w) (
 bT .sub 26 23 24 x1 e w λl w=>
 bU .quo 26 25 .u64 2048 l w λm w=>
 cV 3 26 i w λn w=>
 bT .geq 26 27 29 m n w λo w=>
 ae o (
 K (.tuple #[(.int .i64 0),(.bool false)]) w) (
 nS x0 w λp w=>
 fA 112 p 1 w λq w=>
 lD 3 q w λs w=>
 cV 26 3 m w λt w=>
 bC .mul 3 36 32 t w λv w=>
 bT .add 3 34 37 s v w λy w=>
 K (.tuple #[y,(.bool true)]) w))
def tM:=cA2 Tryz.func74 .o KP
def Z0:Prop:=
 ev prog (Instr.box 33 x0) w λa w=>
 ev prog (Instr.makeFunc (.func 134) #[] #[a]) w λb w=>
 K b w
def UX:=cA1 Tryz.func80 .o Z0
def Z1:Prop:=
 nR x0 w.drew λa=>
 fR 112 a 4 w.drew λb=>
 lR 108 b w.drew λc=>
 cL 20 (pA #[x1]) w.drew λd w=>
 (br prog x0 w (λu=>u=a))/\
 (fG 112 a 4 w b)/\
 (lG 108 b w c)/\
 rd prog (Instr.lookup 108 c d true) w λe=>
 xR e 0 w λf=>
 xR e 1 w λg=>
 gV g true f w λh w=>
 gV g true x1 w λi w=>
 gd g true (λk=>bT .eql 27 19 20 h i w k) w λj w=>
 au g j (.bool false) w λl w=>
 K l w
def UY:=cA2 Tryz.func83 .o Z1
def Z2:Prop:=
 cL 20 (pA #[x1]) w λa w=>
 cL 74 (pA #[x0,a]) w λb w=>
 eX b 0 w λc w=>
 eX b 1 w λd w=>
 ev prog (Op.unary .not d) w λe w=>
 ae e (
 K (.tuple #[(.int .i64 0),(.int .i64 0),(.int .i64 (-1))]) w) (
 nS x0 w λf w=>
 fA 112 f 0 w λg w=>
 lD 106 g w λh w=>
 cL 75 (pA #[h,c]) w λi w=>
 eX i 0 w λj w=>
 eX i 1 w λl w=>
 ev prog (Instr.alloc 134 true (.tuple #[])) w λm w=>
 sD 134 m j w λw=>
 bC .neq 28 29 0 l w λn w=>
 ae n (
 K (.tuple #[c,(.int .i64 0),(.int .i64 (-1))]) w) (
 cL 20 (pA #[x1]) w λo w=>
 cV 3 26 c w λp w=>
 bU .mul 26 35 .u64 64 p w λq w=>
 bT .sub 26 33 36 o q w λs w=>
 bU .quo 26 37 .u64 8 s w λt w=>
 lD 134 m w λv w=>
 cL 136 (pA #[v]) w λy w=>
 cV 26 3 t w λz w=>
 cL 138 (pA #[y,z]) w λa0 w=>
 eX a0 0 w λa1 w=>
 eX a0 1 w λa2 w=>
 ev prog (Op.unary .not a2) w λa3 w=>
 ae a3 (
 K (.tuple #[c,(.int .i64 0),(.int .i64 (-1))]) w) (
 lD 134 m w λa4 w=>
 cL 136 (pA #[a4]) w λa5 w=>
 K (.tuple #[c,a1,a5]) w)))
def UZ:=cA2 Tryz.func84 .o Z2
noncomputable def Dx:=uD Tryz.f94 (.s .o (.s .o (.x 0 (.s .o (.b (.l [11] 1544 4294965412 (.s .o (.s .o (.x 3592 (.b (.s .o (.s .o (.b (.l [17] 101896 2147352708 .o))))) .o)))))) .o)))
abbrev Dy:=aU prog Tryz.f94.results.toList
def mZ:KF:=kO 0 (cP (pw Dx 3 7) (Dy K) (Dy K) nX)
def U0:Prop:=mZ K (fy 32 0 []) w
def U1:Prop:=aE [11] 1544 (λE=>cP (pw Dx 6 11) E (Dy K) (exB 0 (mZ K) nX)) (fy 32 3592 [x3,x9,x10,x11]) w
def tN (E1:VP1):KF:=kO 3592 (cP (pw Dx 9 459) (sE1 E1 11) (Dy K) (exB 0 (mZ K) nX))
def HN (K:K1) (E1:VP1) (x3 x9 x10 x11:bb) (w:aA):Prop:=tN K E1 (fy 32 3592 [x3,x9,x10,x11]) w
def HO (K:K1) (E1:VP1) (x3 x9 x10 x11 x15 x16 x17:bb) (w:aA):Prop:=aE [17] 101896 (λE=>cP (pw Dx 14 3275) E (Dy K) (exB 2 (tN K E1) (exB 1 (tN K E1) (exB 0 (mZ K) nX)))) (fy 32 232968 [x3,x9,x10,x11,x15,x16,x17]) w
def Dz:Prop:=
 K (.bool true) w
def OX:U0 K w=Dz K w:=aI λσ=>kR
def DA (E1:VP1):Prop:=
 bT .lss 3 11 10 x11 x10 w λa w=>
 ae a (
 iA 213 x9 x11 w λb w=>
 lD 25 b w λc w=>
 lN 25 c w λd w=>
 HO K E1 x3 x9 x10 x11 c d (.int .i64 0) w) (
 U0 K w)
def DC (I:VP1) (μ:M1) (h0:I x11 w) (hr:∀x11 w,I x11 w->∀E1,Q1 I μ x11 w E1->DA K x3 x9 x10 x11 w E1):U1 K x3 x9 x10 x11 w:=⟨I,μ,h0,λσ w hI E hE=>cast kR (hr (σ 11) w hI E hE)⟩
def tO (E1:VP1):Prop:=
 bC .add 3 11 1 x11 w λa w=>
 E1 a w
def xx (E1:VP1):HN K E1 x3 x9 x10 x11 w=tO x11 w E1:=aI λσ=>kR
def DE (E1:VP1) (E2:VP1):Prop:=
 bT .lss 3 17 16 x17 x16 w λa w=>
 ae a (
 iA 25 x15 x17 w λb w=>
 lD 27 b w λc w=>
 cL 73 (pA #[c]) w λd w=>
 gV d false x3 w λe w=>
 gV d false c w λf w=>
 gd d false (λk=>ev prog (Instr.lookup 214 e f false) w k) w λg w=>
 au d (.bool true) g w λh w=>
 ae h (
 K (.bool false) w) (
 ac prog (Instr.mapUpdate 214 x3 c (.bool true)) w λw=>
 bC .add 3 17 1 x17 w λi w=>
 E2 i w)) (
 HN K E1 x3 x9 x10 x11 w)
def DG (E1:VP1) (I:VP1) (μ:M1) (h0:I x17 w) (hr:∀x17 w,I x17 w->∀E2,Q1 I μ x17 w E2->DE K x3 x9 x10 x11 x15 x16 x17 w E1 E2):HO K E1 x3 x9 x10 x11 x15 x16 x17 w:=⟨I,μ,h0,λσ w hI E hE=>cast kR (hr (σ 17) w hI E hE)⟩
def Z3:Prop:=
 ev prog (Instr.makeMap 214 none) w λa w=>
 lN 213 x0 w λb w=>
 U1 K a x0 b (.int .i64 0) w
def U2:=cA1 Tryz.func94 Dx.2 Z3
noncomputable def Z4:=uD Tryz.f95 (.s .o (.s .o (.x 16 .o .o)))
abbrev Z5:=aU prog Tryz.f95.results.toList
def U3:KF:=kO 16 (cP (pw Z4 3 7) (Z5 K) (Z5 K) nX)
def HP:Prop:=U3 K (fy 16 16 [x4]) w
def tP:Prop:=
 K x4 w
def xy:HP K x4 w=tP K x4 w:=aI λσ=>kR
def Z6:Prop:=
 lD 159 x1 w λa w=>
 ev prog (Instr.lookup 159 a x0 false) w λb w=>
 bM .eql 160 (.tmp 8) (.const (.pointer none)) b (.pointer none) w λc w=>
 ae c (
 ev prog (Instr.build 162 #[]) w λd w=>
 ev prog (Instr.box 162 d) w λe w=>
 lD 159 x1 w λf w=>
 ac prog (Instr.mapUpdate 159 f x0 e) w λw=>
 HP K e w) (
 HP K b w)
def U4:=cA2 Tryz.func95 Z4.2 Z6
def Z7:Prop:=
 cL 140 (pA #[x0]) w λa w=>
 cL 141 (pA #[a]) w λb w=>
 K a w
def U5:=cA1 Tryz.func96 .o Z7
def Z8:Prop:=
 ev prog (Instr.box 159 x0) w λa w=>
 ev prog (Instr.makeFunc (.func 142) #[] #[a]) w λb w=>
 K b w
def U6:=cA1 Tryz.func97 .o Z8
def U7:Prop:=
 nR x0 w.drew λa=>
 fR 112 a 4 w.drew λb=>
 lR 108 b w.drew λc=>
 cL 20 (pA #[x1]) w.drew λd w=>
 (br prog x0 w (λu=>u=a))/\
 (fG 112 a 4 w b)/\
 (lG 108 b w c)/\
 aY prog .delete #[108,26] 0 #[false,false] (pA #[c,d]) w λ_ w=>
 cL 20 (pA #[x1]) w λe w=>
 cL 74 (pA #[x0,e]) w λf w=>
 eX f 0 w λg w=>
 eX f 1 w λh w=>
 ev prog (Op.unary .not h) w λi w=>
 ae i (
 K (.tuple #[]) w) (
 nS x0 w λj w=>
 fA 112 j 5 w λl w=>
 lD 109 l w λm w=>
 ev prog (Instr.lookup 109 m g false) w λn w=>
 bC .sub 3 26 1 n w λo w=>
 ac prog (Instr.mapUpdate 109 m g o) w λw=>
 nS x0 w λp w=>
 fA 112 p 5 w λq w=>
 lD 109 q w λs w=>
 ev prog (Instr.lookup 109 s g false) w λt w=>
 bC .leq 3 33 0 t w λv w=>
 ae v (
 nS x0 w λy w=>
 fA 112 y 5 w λz w=>
 lD 109 z w λa0 w=>
 aY prog .delete #[109,3] 0 #[false,false] (pA #[a0,g]) w λ_ w=>
 nS x0 w λa1 w=>
 fA 112 a1 3 w λa2 w=>
 lD 107 a2 w λa3 w=>
 cL 70 (pA #[a3,g,(.bool false)]) w λa4 w=>
 K (.tuple #[]) w) (
 K (.tuple #[]) w))
def OY:=cA2 Tryz.func100 .o U7
def U8:Prop:=
 cL 112 (pA #[x0,x1,x2]) w λa w=>
 eX a 0 w λb w=>
 eX a 1 w λc w=>
 K (.tuple #[b,c]) w
def OZ:=cA3 Tryz.func107 .o U8
def U9:Prop:=
 bM .eql 32 (.tmp 9) (.const (.pointer none)) x0 (.pointer none) w λa w=>
 gV a false x0 w λb w=>
 gd a false (λk=>nS b w k) w λc w=>
 gd a false (λk=>fA 171 c 0 w k) w λd w=>
 gd a false (λk=>lD 106 d w k) w λe w=>
 gd a false (λk=>bM .eql 106 (.tmp 15) (.const .nilIface) e .nilIface w k) w λf w=>
 au a (.bool true) f w λg w=>
 ae g (
 K (.tuple #[(.int .i64 0),(.int .i64 1)]) w) (
 nS x0 w λh w=>
 fA 171 h 0 w λi w=>
 lD 106 i w λj w=>
 bn prog j "Err" (pA #[]) w fun l w=>
 bC .neq 28 23 0 l w λm w=>
 ae m (
 K (.tuple #[(.int .i64 0),l]) w) (
 cL 151 (pA #[x0]) w λn w=>
 eX n 0 w λo w=>
 eX n 1 w λp w=>
 nS x0 w λq w=>
 fA 171 q 0 w λs w=>
 lD 106 s w λt w=>
 bn prog t "Err" (pA #[]) w fun v w=>
 bC .neq 28 36 0 v w λy w=>
 ae y (
 K (.tuple #[(.int .i64 0),v]) w) (
 bU .eql 225 39 .u8 1 o w λz w=>
 ae z (
 K (.tuple #[(.int .i64 0),(.int .i64 0)]) w) (
 bU .eql 225 39 .u8 3 o w λa0 w=>
 ae a0 (
 K (.tuple #[(.int .i64 0),(.int .i64 10)]) w) (
 nR x0 w.drew λa1=>
 fR 171 a1 0 w.drew λa2=>
 lR 106 a2 w.drew λa3=>
 cL 128 (pA #[x0,p]) w.drew λa4 w=>
 (br prog x0 w (λu=>u=a1))/\
 (fG 171 a1 0 w a2)/\
 (lG 106 a2 w a3)/\
 cL 99 (pA #[a4,a3]) w λa5 w=>
 bC .neq 28 52 0 a5 w λa6 w=>
 ae a6 (
 K (.tuple #[(.int .i64 0),a5]) w) (
 lN 79 p w λa7 w=>
 K (.tuple #[a7,(.int .i64 0)]) w))))))
def O0:=cA1 Tryz.func108 .o U9
noncomputable def AK:=uD Tryz.f109 (.s .o (.s .o (.s .o (.x 263 (.s .o (.b (.l [28] 201326855 2251799545280704 (.s .o (.s .o (.x 469762311 .o .o)))))) .o))))
abbrev AL:=aU prog Tryz.f109.results.toList
def pI:KF:=kO 263 (cP (pw AK 4 15) (AL K) (AL K) nX)
def AM:Prop:=pI K (fy 59 263 [x0,x1,x2,x8]) w
def KQ:Prop:=aE [28] 201326855 (λE=>cP (pw AK 7 23) E (AL K) (exB 0 (pI K) nX)) (fy 59 469762311 [x0,x1,x2,x8,x26,x27,x28]) w
def O1 (E1:VP1):KF:=kO 469762311 (cP (pw AK 10 919) (sE1 E1 28) (AL K) (exB 0 (pI K) nX))
def AN (K:K1) (E1:VP1) (x0 x1 x2 x8 x26 x27 x28:bb) (w:aA):Prop:=O1 K E1 (fy 59 469762311 [x0,x1,x2,x8,x26,x27,x28]) w
def xz:Prop:=
 ev prog (Instr.makeMap 108 none) w λa w=>
 ev prog (Instr.makeMap 109 none) w λb w=>
 ev prog (Instr.build 112 #[(0,x0),(1,x1),(2,x2),(3,x8),(4,a),(5,b)]) w λc w=>
 ev prog (Instr.box 112 c) w λd w=>
 K (.tuple #[d,(.int .i64 0)]) w
def HQ:AM K x0 x1 x2 x8 w=xz K x0 x1 x2 x8 w:=aI λσ=>kR
def kP (E1:VP1):Prop:=
 bT .lss 3 28 27 x28 x27 w λa w=>
 ae a (
 iA 50 x26 x28 w λb w=>
 lD 3 b w λc w=>
 cL 152 (pA #[x8,c]) w λd w=>
 bC .lss 3 34 0 d w λe w=>
 ae e (
 AN K E1 x0 x1 x2 x8 x26 x27 x28 w) (
 cL 75 (pA #[x0,c]) w λf w=>
 eX f 0 w λg w=>
 eX f 1 w λh w=>
 ev prog (Instr.alloc 134 true (.tuple #[])) w λi w=>
 sD 134 i g w λw=>
 bC .neq 28 42 0 h w λj w=>
 ae j (
 K (.tuple #[(.pointer none),h]) w) (
 lD 134 i w λl w=>
 cL 153 (pA #[l]) w λm w=>
 bC .neq 28 47 0 m w λn w=>
 ae n (
 K (.tuple #[(.pointer none),m]) w) (
 AN K E1 x0 x1 x2 x8 x26 x27 x28 w)))) (
 AM K x0 x1 x2 x8 w)
def AO (I:VP1) (μ:M1) (h0:I x28 w) (hr:∀x28 w,I x28 w->∀E1,Q1 I μ x28 w E1->kP K x0 x1 x2 x8 x26 x27 x28 w E1):KQ K x0 x1 x2 x8 x26 x27 x28 w:=⟨I,μ,h0,λσ w hI E hE=>cast kR (hr (σ 28) w hI E hE)⟩
def pJ (E1:VP1):Prop:=
 bC .add 3 28 1 x28 w λa w=>
 E1 a w
def tQ (E1:VP1):AN K E1 x0 x1 x2 x8 x26 x27 x28 w=pJ x28 w E1:=aI λσ=>kR
def Va:Prop:=
 cL 120 (pA #[x0,x1,x2]) w λa w=>
 eX a 0 w λb w=>
 eX a 1 w λc w=>
 bC .neq 28 22 0 c w λd w=>
 ae d (
 K (.tuple #[(.pointer none),c]) w) (
 cL 91 (pA #[b]) w λe w=>
 lN 50 e w λf w=>
 KQ K x0 x1 x2 b e f (.int .i64 0) w)
def O2:=cA3 Tryz.func109 AK.2 Va
def Vb:Prop:=
 bM .eql 106 (.tmp 9) (.const .nilIface) x0 .nilIface w λa w=>
 gV a false x1 w λb w=>
 gd a false (λk=>bC .lss 3 12 0 b w k) w λc w=>
 au a (.bool true) c w λd w=>
 gV d false x2 w λe w=>
 gd d false (λk=>bC .lss 3 16 26 e w k) w λf w=>
 au d (.bool true) f w λg w=>
 ae g (
 K (.tuple #[(.pointer none),(.int .i64 1)]) w) (
 bn prog x0 "Size" (pA #[]) w fun h w=>
 bU .quo 26 20 .u64 64 h w λi w=>
 cV 3 26 x2 w λj w=>
 bT .gtr 26 23 24 j i w λl w=>
 gV l false x1 w λm w=>
 gd l false (λk=>cV 3 26 m w k) w λn w=>
 gV l false i w λo w=>
 gV l false x2 w λp w=>
 gd l false (λk=>cV 3 26 p w k) w λq w=>
 gd l false (λk=>bT .sub 26 29 31 o q w k) w λs w=>
 gd l false (λk=>bT .gtr 26 28 32 n s w k) w λt w=>
 au l (.bool true) t w λv w=>
 ae v (
 K (.tuple #[(.pointer none),(.int .i64 1)]) w) (
 cV 3 26 x1 w λy w=>
 bU .mul 26 37 .u64 64 y w λz w=>
 cV 3 26 x2 w λa0 w=>
 bU .mul 26 40 .u64 64 a0 w λa1 w=>
 ev prog (Instr.build 171 #[(0,x0),(1,z),(2,a1)]) w λa2 w=>
 ev prog (Instr.box 171 a2) w λa3 w=>
 K (.tuple #[a3,(.int .i64 0)]) w))
def O3:=cA3 Tryz.func112 .o Vb
def Vc:Prop:=
 nS x0 w λa w=>
 fA 171 a 1 w λb w=>
 lD 26 b w λc w=>
 ev prog (Instr.build 98 #[(0,c),(1,x1)]) w λd w=>
 ev prog (an 79 1 #[(0,d)]) w λe w=>
 cL 123 (pA #[e]) w λf w=>
 K f w
def O4:=cA2 Tryz.func113 .o Vc
noncomputable def AP:=uD Tryz.f117 (.s .o (.s .o (.x 33 (.s .o (.b (.l [25] 25165857 18446744073675998108 (.s .o (.s .o (.x 58720289 .o .o)))))) (.x 0 (.s .o (.b (.l [66] 55340232221128654849 41538374868278547241267675795814428 (.s .o (.s .o (.x 129127208515966861313 .o .o)))))) .o))))
abbrev AQ:=aU prog Tryz.f117.results.toList
def pL:KF:=kO 33 (cP (pw AP 3 7) (AQ K) (AQ K) nX)
def X3:Prop:=pL K (fy 115 33 [x0,x5]) w
def KT:Prop:=aE [25] 25165857 (λE=>cP (pw AP 6 11) E (AQ K) (exB 0 (pL K) nX)) (fy 115 58720289 [x0,x5,x23,x24,x25]) w
def O5 (E1:VP1):KF:=kO 58720289 (cP (pw AP 9 459) (sE1 E1 25) (AQ K) (exB 0 (pL K) nX))
def AR (K:K1) (E1:VP1) (x0 x5 x23 x24 x25:bb) (w:aA):Prop:=O5 K E1 (fy 115 58720289 [x0,x5,x23,x24,x25]) w
def xA (E1:VP1):Prop:=
 bT .lss 3 25 24 x25 x24 w λa w=>
 ae a (
 iA 50 x23 x25 w λb w=>
 lD 3 b w λc w=>
 nS x0 w λd w=>
 fA 112 d 6 w λe w=>
 lD 110 e w λf w=>
 ev prog (Instr.lookup 110 f c false) w λg w=>
 gV g false x0 w λh w=>
 gd g false (λk=>nS h w k) w λi w=>
 gd g false (λk=>fA 112 i 3 w k) w λj w=>
 gd g false (λk=>lD 107 j w k) w λl w=>
 gV g false c w λm w=>
 gC g false 152 (pA #[l,m]) w λn w=>
 gd g false (λk=>bC .geq 3 41 0 n w k) w λo w=>
 au g (.bool true) o w λp w=>
 ae p (
 AR K E1 x0 x5 x23 x24 x25 w) (
 nS x0 w λq w=>
 fA 112 q 0 w λs w=>
 lD 106 s w λt w=>
 cL 129 (pA #[t,c]) w λv w=>
 eX v 0 w λy w=>
 eX v 1 w λz w=>
 ev prog (Instr.alloc 132 true (.tuple #[])) w λa0 w=>
 sD 132 a0 y w λw=>
 bC .eql 28 53 0 z w λa1 w=>
 gd a1 true (λk=>fA 132 a0 0 w k) w λa2 w=>
 gd a1 true (λk=>lD 3 a2 w k) w λa3 w=>
 gd a1 true (λk=>bC .lss 3 57 0 a3 w k) w λa4 w=>
 au a1 a4 (.bool false) w λa5 w=>
 ae a5 (
 fR 132 a0 2 w.drew λa6=>
 lR 130 a6 w.drew λa7=>
 (fG 132 a0 2 w.drew a6)/\
 (lG 130 a6 w.drew a7)/\
 K (.tuple #[c,a7,(.slice none 0 0)]) w.drew) (
 AR K E1 x0 x5 x23 x24 x25 w))) (
 X3 K x0 x5 w)
def AS (I:VP1) (μ:M1) (h0:I x25 w) (hr:∀x25 w,I x25 w->∀E1,Q1 I μ x25 w E1->xA K x0 x5 x23 x24 x25 w E1):KT K x0 x5 x23 x24 x25 w:=⟨I,μ,h0,λσ w hI E hE=>cast kR (hr (σ 25) w hI E hE)⟩
def pM (E1:VP1):Prop:=
 bC .add 3 25 1 x25 w λa w=>
 E1 a w
def HR (E1:VP1):AR K E1 x0 x5 x23 x24 x25 w=pM x25 w E1:=aI λσ=>kR
def Vd:Prop:=
 nS x0 w λa w=>
 fA 112 a 3 w λb w=>
 lD 107 b w λc w=>
 cL 91 (pA #[c]) w λd w=>
 lN 50 d w λe w=>
 KT K x0 d d e (.int .i64 0) w
def O6:=cA1 Tryz.func117 AP.2 Vd
def Ve:Prop:=
 rU .rem 26 5 .u64 8 x1 w.drew λa=>
 rU .eql 26 6 .u64 0 a w.drew λb=>
 gW b true x1 λc=>
 gW b true x0 λd=>
 gN b true d w.drew λe=>
 gF b true 171 e 0 w.drew λf=>
 gL b true 106 f w.drew λg=>
 gd b true (fun k=>bn prog g "Size" (pA #[]) w.drew k) w.drew fun h w=>
 gdR b true (λk=>rT .lss 26 9 14 c h w k) λi=>
 bo b i (.bool false) λj=>
 gW j true x1 λl=>
 gW j true x0 λm=>
 gN j true m w λn=>
 gF j true 171 n 1 w λo=>
 gL j true 26 o w λp=>
 gdR j true (λk=>rT .lss 26 18 22 l p w k) λq=>
 gW j true q λs=>
 gW s false x1 λt=>
 gW s false x0 λv=>
 gN s false v w λy=>
 gF s false 171 y 1 w λz=>
 gL s false 26 z w λa0=>
 gdR s false (λk=>rT .sub 26 25 29 t a0 w k) λa1=>
 gW s false x0 λa2=>
 gN s false a2 w λa3=>
 gF s false 171 a3 2 w λa4=>
 gL s false 26 a4 w λa5=>
 gdR s false (λk=>rT .geq 26 30 34 a1 a5 w k) λa6=>
 gdR j true (λk=>bo s (.bool true) a6 k) λa7=>
 bo j a7 (.bool false) λa8=>
 K a8 w
def O7:=cA2 Tryz.func125 .o Ve
noncomputable def pN:=uD Tryz.f126 (.s .o (.s .o (.x 9 (.s .o (.b (.l [12] 3081 4190256 .o))) (.s .o (.x 64 (.s .o (.b (.l [6,24] 12582920 1099494851008 (.s .o (.s .o (.x 29360200 .o .o)))))) .o)))))
abbrev l4:=aU prog Tryz.f126.results.toList
def xB:KF:=kO 9 (cP (pw pN 3 7) (l4 K) (l4 K) nX)
def KU:Prop:=xB K (fy 41 9 [x0,x3]) w
def KV:Prop:=aE [12] 3081 (λE=>cP (pw pN 6 11) E (l4 K) (exB 0 (xB K) nX)) (fy 41 7177 [x0,x3,x10,x11,x12]) w
def pP:KF:=kO 64 (cP (pw pN 5 31) (l4 K) (l4 K) nX)
def KW:Prop:=pP K (fy 41 64 [x6]) w
def KX:Prop:=aE [6,24] 12582920 (λE=>cP (pw pN 8 47) E (l4 K) (exB 2 (pP K) nX)) (fy 41 29360200 [x3,x6,x22,x23,x24]) w
def O8 (E1:VP2):KF:=kO 29360200 (cP (pw pN 11 1839) (sE2 E1 6 24) (l4 K) (exB 2 (pP K) nX))
def AT (K:K1) (E1:VP2) (x3 x6 x22 x23 x24:bb) (w:aA):Prop:=O8 K E1 (fy 41 29360200 [x3,x6,x22,x23,x24]) w
def xC:Prop:=
 lN 79 x0 w λa w=>
 KX K x3 (.slice none 0 0) x0 a (.int .i64 0) w
def HS:KU K x0 x3 w=xC K x0 x3 w:=aI λσ=>kR
def pQ (E1:VP1):Prop:=
 bT .lss 3 12 11 x12 x11 w λa w=>
 ae a (
 iA 79 x10 x12 w λb w=>
 lD 98 b w λc w=>
 ev prog (Instr.alloc 98 true (.tuple #[])) w λd w=>
 sD 98 d c w λw=>
 fA 98 d 0 w λe w=>
 lD 26 e w λf w=>
 ac prog (Instr.mapUpdate 238 x3 f x12) w λw=>
 bC .add 3 12 1 x12 w λg w=>
 E1 g w) (
 KU K x0 x3 w)
def AU (I:VP1) (μ:M1) (h0:I x12 w) (hr:∀x12 w,I x12 w->∀E1,Q1 I μ x12 w E1->pQ K x0 x3 x10 x11 x12 w E1):KV K x0 x3 x10 x11 x12 w:=⟨I,μ,h0,λσ w hI E hE=>cast kR (hr (σ 12) w hI E hE)⟩
def xD:Prop:=
 K x6 w
def HT:KW K x6 w=xD K x6 w:=aI λσ=>kR
def pR (E1:VP2):Prop:=
 bT .lss 3 24 23 x24 x23 w λa w=>
 ae a (
 iA 79 x22 x24 w λb w=>
 lD 98 b w λc w=>
 ev prog (Instr.alloc 98 true (.tuple #[])) w λd w=>
 sD 98 d c w λw=>
 fA 98 d 0 w λe w=>
 lD 26 e w λf w=>
 ev prog (Instr.lookup 238 x3 f false) w λg w=>
 bT .eql 3 32 33 g x24 w λh w=>
 ae h (
 lD 98 d w λi w=>
 ev prog (an 79 1 #[(0,i)]) w λj w=>
 aY prog .append #[79,79] 79 #[false,false] (pA #[x6,j]) w λl w=>
 AT K E1 x3 l x22 x23 x24 w) (
 AT K E1 x3 x6 x22 x23 x24 w)) (
 KW K x6 w)
def AV (I:VP2) (μ:M2) (h0:I x6 x24 w) (hr:∀x6 x24 w,I x6 x24 w->∀E1,Q2 I μ x6 x24 w E1->pR K x3 x6 x22 x23 x24 w E1):KX K x3 x6 x22 x23 x24 w:=⟨I,μ,h0,λσ w hI E hE=>cast kR (hr (σ 6) (σ 24) w hI E hE)⟩
def xE (E1:VP2):Prop:=
 bC .add 3 24 1 x24 w λa w=>
 E1 x6 a w
def HU (E1:VP2):AT K E1 x3 x6 x22 x23 x24 w=xE x6 x24 w E1:=aI λσ=>kR
def Vf:Prop:=
 ev prog (Instr.makeMap 238 none) w λa w=>
 lN 79 x0 w λb w=>
 KV K x0 a x0 b (.int .i64 0) w
def O9:=cA1 Tryz.func126 pN.2 Vf
def Vg:Prop:=
 cL 123 (pA #[x1]) w λa w=>
 cL 113 (pA #[x0,(.int .u64 ((0:Nat):Int))]) w λb w=>
 cL 119 (pA #[a,b]) w λc w=>
 K c w
def Pa:=cA2 Tryz.func128 .o Vg
noncomputable def tR:=uD Tryz.f134 (.s .o (.s .o (.b (.l [18] 196611 576460752303162352 (.s .o (.s .o (.x 458755 (.b (.s .o (.s .o (.s .o (.s .o (.b (.l [36] 34360197155 288230307432235904 (.s .o (.s .o (.x 103079673891 .o .o)))))))))) .o)))))))
abbrev jP:=aU prog Tryz.f134.results.toList
def KY:Prop:=aE [18] 196611 (λE=>cP (pw tR 4 3) E (jP K) (exB 0 (jP K) nX)) (fy 59 458755 [x0,x1,x16,x17,x18]) w
def iy (E1:VP1):KF:=kO 458755 (cP (pw tR 7 115) (sE1 E1 18) (jP K) (exB 0 (jP K) nX))
def AW (K:K1) (E1:VP1) (x0 x1 x16 x17 x18:bb) (w:aA):Prop:=iy K E1 (fy 59 458755 [x0,x1,x16,x17,x18]) w
def AX (K:K1) (E1:VP1) (x0 x1 x5 x16 x17 x18 x35 x36:bb) (w:aA):Prop:=aE [36] 34360197155 (λE=>cP (pw tR 14 3891) E (jP K) (exB 2 (iy K E1) (exB 1 (iy K E1) (exB 0 (jP K) nX)))) (fy 59 103079673891 [x0,x1,x5,x16,x17,x18,x35,x36]) w
def Pb (E1:VP1) (E2:VP1):KF:=kO 103079673891 (cP (pw tR 17 118579) (sE1 E2 36) (jP K) (exB 2 (iy K E1) (exB 1 (iy K E1) (exB 0 (jP K) nX))))
def AY (K:K1) (E1:VP1) (E2:VP1) (x0 x1 x5 x16 x17 x18 x35 x36:bb) (w:aA):Prop:=Pb K E1 E2 (fy 59 103079673891 [x0,x1,x5,x16,x17,x18,x35,x36]) w
def pS (E1:VP1):Prop:=
 bT .lss 3 18 17 x18 x17 w λa w=>
 ae a (
 iA 50 x16 x18 w λb w=>
 lD 3 b w λc w=>
 lD 33 x1 w λd w=>
 nS d w λe w=>
 fA 112 e 0 w λf w=>
 lD 106 f w λg w=>
 cL 75 (pA #[g,c]) w λh w=>
 eX h 0 w λi w=>
 eX h 1 w λj w=>
 ev prog (Instr.alloc 134 true (.tuple #[])) w λl w=>
 sD 134 l i w λw=>
 bC .neq 28 31 0 j w λm w=>
 ae m (
 AW K E1 x0 x1 x16 x17 x18 w) (
 lD 134 l w λn w=>
 cL 136 (pA #[n]) w λo w=>
 cL 135 (pA #[o]) w λp w=>
 AX K E1 x0 x1 l x16 x17 x18 p (.int .i64 0) w)) (
 K (.tuple #[]) w)
def AZ (I:VP1) (μ:M1) (h0:I x18 w) (hr:∀x18 w,I x18 w->∀E1,Q1 I μ x18 w E1->pS K x0 x1 x16 x17 x18 w E1):KY K x0 x1 x16 x17 x18 w:=⟨I,μ,h0,λσ w hI E hE=>cast kR (hr (σ 18) w hI E hE)⟩
def pT (E1:VP1):Prop:=
 bC .add 3 18 1 x18 w λa w=>
 E1 a w
def tS (E1:VP1):AW K E1 x0 x1 x16 x17 x18 w=pT x18 w E1:=aI λσ=>kR
def pU (E1:VP1) (E2:VP1):Prop:=
 bT .lss 3 36 35 x36 x35 w λa w=>
 ae a (
 lD 134 x5 w λb w=>
 cL 137 (pA #[b,x36]) w λc w=>
 ev prog (Op.unary .not c) w λd w=>
 ae d (
 AY K E1 E2 x0 x1 x5 x16 x17 x18 x35 x36 w) (
 lD 134 x5 w λe w=>
 cL 122 (pA #[e,x36,(.int .u8 ((0:Nat):Int))]) w λf w=>
 eX f 0 w λg w=>
 eX f 1 w λh w=>
 bC .eql 28 49 0 h w λi w=>
 gV i true x0 w λj w=>
 gV i true g w λl w=>
 gd i true (λk=>md prog j (pA #[l]) w k) w λm w=>
 gd i true (λk=>ev prog (Op.unary .not m) w k) w λn w=>
 au i n (.bool false) w λo w=>
 ae o (
 K (.tuple #[]) w) (
 AY K E1 E2 x0 x1 x5 x16 x17 x18 x35 x36 w))) (
 AW K E1 x0 x1 x16 x17 x18 w)
def Ba (E1:VP1) (I:VP1) (μ:M1) (h0:I x36 w) (hr:∀x36 w,I x36 w->∀E2,Q1 I μ x36 w E2->pU K x0 x1 x5 x16 x17 x18 x35 x36 w E1 E2):AX K E1 x0 x1 x5 x16 x17 x18 x35 x36 w:=⟨I,μ,h0,λσ w hI E hE=>cast kR (hr (σ 36) w hI E hE)⟩
def pV (E1:VP1) (E2:VP1):Prop:=
 bC .add 3 36 1 x36 w λa w=>
 E2 a w
def tT (E1:VP1) (E2:VP1):AY K E1 E2 x0 x1 x5 x16 x17 x18 x35 x36 w=pV x36 w E1 E2:=aI λσ=>kR
def Vh:Prop:=
 lD 33 x1 w λa w=>
 bM .eql 33 (.tmp 10) (.const (.pointer none)) a (.pointer none) w λb w=>
 ae b (
 K (.tuple #[]) w) (
 lD 33 x1 w λc w=>
 nS c w λd w=>
 fA 112 d 3 w λe w=>
 lD 107 e w λf w=>
 cL 91 (pA #[f]) w λg w=>
 lN 50 g w λh w=>
 KY K x0 x1 g h (.int .i64 0) w)
def Pc:=cA2 Tryz.func134 tR.2 Vh
def Vi:Prop:=
 cL 178 (pA #[(.slice none 0 0),x0]) w λa w=>
 K a w
def Pd:=cA1 Tryz.func140 .o Vi
noncomputable def Vj:=uD Tryz.f142 (.s .o (.b (.l [] 33 16328 .o)))
abbrev Vk:=aU prog Tryz.f142.results.toList
def KZ:Prop:=aE [] 33 (λE=>cP (pw Vj 3 1) E (Vk K) (exB 0 (Vk K) nX)) (fy 14 33 [x0,x5]) w
def xF (E1:VP0):Prop:=
 ev prog (Instr.next x5 false 0) w λa w=>
 eX a 0 w λb w=>
 ae b (
 ev prog (Instr.entry x5) w λc w=>
 eX c 0 w λd w=>
 md prog x0 (pA #[d]) w λe w=>
 ev prog (Op.unary .not e) w λf w=>
 ae f (
 K (.tuple #[]) w) (
 E1 w)) (
 K (.tuple #[]) w)
def Bb (x0 x5:bb) (K:K1) (w:aA) (I:VP0) (μ:aA->Nat) (h0:I w)
  (hr:∀(w:aA),I w->∀E1:VP0,(∀(w':aA),I w'->μ w'<μ w->E1 w')->xF K x0 x5 w E1):KZ K x0 x5 w:=
 ⟨I,μ,h0,λσ w hI E hE=>cast kR (hr w hI E hE)⟩
def Vl:Prop:=
 lD 159 x1 w λa w=>
 ev prog (Instr.range 159 a) w λb w=>
 KZ K x0 b w
def Pe:=cA2 Tryz.func142 Vj.2 Vl
noncomputable def HV:=uD Tryz.f151 (.s .o (.s .o (.s .o (.s .o (.s .o (.s .o (.s .o (.x 225 (.s .o (.b (.l [47] 70368744177905 295147764441864470784 .o))) (.s .o (.s .o (.x 512 (.s .o (.b (.l [9,75] 18889465931478580854913 1267650562449297538539541499404 .o))) .o)))))))))))
abbrev HW:=aU prog Tryz.f151.results.toList
def Pf:KF:=kO 225 (cP (pw HV 8 255) (HW K) (HW K) nX)
def X4:Prop:=aE [47] 70368744177905 (λE=>cP (pw HV 11 383) E (HW K) (exB 0 (Pf K) nX)) (fy 101 211106232533233 [x0,x4,x5,x6,x7,x46,x47]) w
def Vm:Prop:=
 nS x0 w λa w=>
 fA 171 a 0 w λb w=>
 lD 106 b w λc w=>
 nR x0 w.drew λd=>
 fR 171 d 1 w.drew λe=>
 lR 26 e w.drew λf=>
 rd prog (Instr.makeFunc (.method "Load") #[c] #[]) w.drew fun g=>
 nR g w.drew λh=>
 bn prog c "Load" (pA #[f]) w.drew fun i w=>
 bU .eql 26 25 .u64 0 i w λj w=>
 ae j (
 K (.tuple #[(.int .u8 ((1:Nat):Int)),(.slice none 0 0)]) w) (
 bU .and 26 27 .u64 65535 i w λl w=>
 cV 26 3 l w λm w=>
 bC .eql 3 30 0 m w λn w=>
 gV n false m w λo w=>
 gd n false (λk=>bC .gtr 3 33 96 o w k) w λp w=>
 au n (.bool true) p w λq w=>
 gV q false i w λs w=>
 gd q false (λk=>bU .andNot 26 37 .u64 65535 s w k) w λt w=>
 gd q false (λk=>bU .shl 26 38 .u64 32 t w k) w λv w=>
 gd q false (λk=>bU .neq 26 39 .u64 0 v w k) w λy w=>
 au q (.bool true) y w λz w=>
 ae z (
 K (.tuple #[(.int .u8 ((3:Nat):Int)),(.slice none 0 0)]) w) (
 bM .mul 3 (ci 2) (.tmp 42) (.int .i64 2) m w λa0 w=>
 ev prog (Instr.makeSlice 58 a0 a0) w λa1 w=>
 lN 58 a1 w λa2 w=>
 X4 K x0 c i m a1 a2 (.int .i64 0) w))
def Pg:=cA1 Tryz.func151 HV.2 Vm
end
def lgF (T:Nat) (i:Nat):bb:= [Value.iface 31 (.pointer (some ⟨T,0,none⟩)),.int .u64 ((0:Nat):Int),.int .u64 ((1664:Nat):Int)].getD i undef
section
variable {w w':aA} {Y:Lay} {D:DS} {T B:Nat}
def DH (h:Dv w Y D) (g:aH D) (b:26<=D.n) (hT:Y.tb 0=T) (K:K1) (hK:∀B w',Ext w w'->w.heap.size<=B->af w' B 171 3 (lgF T)->K (.tuple #[.pointer (some ⟨B,0,none⟩),.int .i64 0]) w'):
  ad prog 112 #[.iface 31 (.pointer (some ⟨T,0,none⟩)),.int .i64 0,.int .i64 26] w K:=by
 subst hT;have hn:=g.n;have a:∀(w1:aA) (K:K1),Ext w w1->ad prog 105 #[.pointer (some ⟨Y.tb 0,0,none⟩)] w1 K=K (.int .u64 ((D.n*64:Nat):Int)) w1:=λw1 K e=>km (h.ext e) g 0 oM K
 have e1:D.n*64/64=D.n:=oM;refine O3 _ _ _ _ _ ?_;unfold Vb;refine fC a e1 ?_;refine hK _ _ xZ (dc _) ?_;exact af.new w [Value.iface 31 (.pointer (some ⟨Y.tb 0,0,none⟩)),.int .u64 ((0:Nat):Int),.int .u64 ((1664:Nat):Int)] 171
def X5 (h:Dv w Y D) (g:aH D) (a:26<=D.n) (hT:Y.tb 0=T) (K:K1) (hK:∀B w',Ext w w'->w.heap.size<=B->af w' B 171 3 (lgF T)->K (.tuple #[.pointer (some ⟨B,0,none⟩),.int .i64 0]) w'):
  ad prog 107 #[.iface 31 (.pointer (some ⟨T,0,none⟩)),.int .i64 0,.int .i64 26] w K:=by
 refine OZ _ _ _ _ _ ?_;unfold U8;refine DH h g a hT _ (λB w1 e1 hB hC=> ?_);refine zS0 ?_;exact hK B w1 e1 hB hC
def HX (hC:af w B 171 3 (lgF T)) (x:Nat) (hx:x<18446744073709551616) (K:K1) (hK:∀v' w',SlO w' 220 3 v' (az [(0,x)]).length (inL (az [(0,x)]))->Ext w w'->bw w.heap.size v'->K v' w'):
  ad prog 113 #[.pointer (some ⟨B,0,none⟩),.int .u64 (x:Int)] w K:=by
 have q1:w.cell? ⟨B,1,none⟩=some (.int .u64 ((0:Nat):Int)):=hC.cell (i:=1) oM;have ltB:=hC.lt;refine O4 _ _ _ _ ?_;unfold Vc;refine zS1 q1 ?_;refine gk [(0,x)] _ ?_ (by simp) (by simp) ?_ _ (λv' w' hs he hn=> ?_)
 ·exact SlO.lit' _ 98 2 1 (wrL [(0,x)]) rfl (by decide) (by simp only [RZ])
 ·intro y hy;simp only [ab] at hy;subst hy;simp only;omega
 ·exact hK v' w' hs (Ext.trans xZ he) (λb hb=>ca (by simp only [RZ];omega) (hn b hb))
def Vn (hC:af w B 171 3 (lgF T)) {v:bb} {ws:List (Nat×Nat)} (hS:SlO w 98 2 v ws.length (wrL ws)) (h0:0<ws.length) (hl:ws.length<=1000) (hw:∀x∈ws,x.1<18446744073709551616) (K:K1) (hK:∀v' w',SlO w' 220 3 v' (az ws++az [(0,0)]).length (inL (az ws++az [(0,0)]))->Ext w w'->bw w.heap.size v'->K v' w'):
  ad prog 128 #[.pointer (some ⟨B,0,none⟩),v] w K:=by
 have a:=dh ws;have g:=dh [((0:Nat),(0:Nat))];have h:=aR ws;have f:=aR [((0:Nat),(0:Nat))];simp only [cn] at f;refine Pa _ _ _ _ ?_;unfold Vg;refine gk ws v hS h0 oM hw _ (λv1 w1 c e1 n1=> ?_);refine zS0 ?_;refine HX (hC.ext e1) 0 oM _ (λv2 w2 e e2 n2=> ?_);refine zS0 ?_;refine zO _ _ v1 v2 (c.ext e2) e a g oM oM _ (λv3 w3 d e3 n3=> ?_);exact hK v3 w3 d (e1.trans (e2.trans e3)) (λb hb=>ca (e1.trans e2).size (n3 b hb))
def Ph (h:Dv w Y D) (g:aH D) (on:On D) (i:26<=D.n) (hx:D.exe<1000000000) (hT:Y.tb 0=T) (K:K1) (hK:∀w' Y',Stp w Y w' Y' (D.run 0 (az [(0,0)]))->K (.int .i64 0) w'):
  ad prog 62 #[.iface 31 (.pointer (some ⟨T,0,none⟩)),.int .i64 0,.int .i64 26] w K:=by
 have f:∀(w1:aA) (K:K1),Ext w w1->ad prog 28 #[.pointer (some ⟨T,0,none⟩)] w1 K=K (.int .i64 0) w1:=λw1 K e=>by rw [<-hT,cM (h.ext e) 0 oM K,on.err]
 have ho:=(On.stores on [(0,0)] (λx hx=>by simp only [ab] at hx;subst hx;exact ⟨rfl,by show 0<D.n*64;omega⟩)).1;have j:=aR [((0:Nat),(0:Nat))];simp only [cn] at j;refine UA _ _ _ _ _ ?_;unfold ZU;refine DH h g i hT _ (λB w1 e1 hB hC=> ?_);refine gG f ?_;refine HX hC 0 oM _ (λv2 w2 d e2 n2=> ?_);refine zS0 ?_;have c:=e1.trans e2;have a:=λK hK=>sC (h.ext c) g 0 oM (az [(0,0)]) v2 d (λb hb hf=>by have h1:=h.lt hf;have h2:=n2 b hb;have:=e1.size;omega) (bt (λx hx=>by simp only [ab] at hx;subst hx;simp only;omega)) oM K hK
 rw [ho.err,hT] at a;refine a _ (λw3 Y3 st=> ?_);exact hK w3 Y3 (Stp.pre c (λx hx=>h.lt hx) st)
end
def stW:Nat->Nat->Nat->Nat
 |r,_,0=>r
 |r,x,n+1=>stW (stepN r (x%256)) (x/2^8) n
def fdW (L:List Nat):Nat:=L.foldl (λr x=>stW r x 8) 4294967295
def crcW (L:List Nat):Nat:=4294967295^^^fdW L
def fo {l:List Nat} {k:Nat} (h:k<l.length):(bL l)[k]? =some (.int .u64 ((l[k]:Nat):Int)):=by simp [bL,u64,h]
def Vo:∀(n r x:Nat),r<4294967296->stW r x n<4294967296
 |0,r,x,h=>h
 |n+1,r,x,h=>Vo n _ _ (r9 r (x%256) h oM)
def Bc:∀(L:List Nat) (r:Nat),r<4294967296->L.foldl (λr x=>stW r x 8) r<4294967296
 | [],r,h=>h
 |x::L,r,h=>Bc L _ (Vo 8 r x h)
def X6 (L:List Nat):crcW L<4294967296:=Nat.xor_lt_two_pow (n:=32) (by decide) (Bc L _ (by decide))
section
variable {w w':aA} {Y:Lay} {D:DS} {T B:Nat}
def Vp (hG:bq w) (L:List Nat) (v:bb) {m:Nat} (hL:RdS m w v (bL L)) (hx:∀x∈L,x<18446744073709551616) (hl:L.length<1073741824) (K:K1) (hK:∀w',Ext w w'->K (.int .u32 ((crcW L:Nat):Int)) w'):
  ad prog 127 #[v] w K:=by
 have ll:(bL L).length=L.length:=by simp [bL]
 obtain ⟨a,cap,rfl,_⟩:=id hL;rw [ll] at hL ⊢;refine Oz _ _ _ ?_;unfold TN;refine zS0 ?_;apply Au (I:=λr z w'=>∃j:Nat,z= .int .i64 (j:Int)/\j<=L.length/\r= .int .u32 (((L.take j).foldl (λr x=>stW r x 8) 4294967295:Nat):Int)/\Ext w w') (μ:=λ_ z _=>L.length-(intOf z).toNat)
 ·exact ⟨0,rfl,by omega,rfl,Ext.refl _⟩
 ·intros;rename_i w1 hI E1 hE;obtain ⟨j,rfl,hj,rfl,e1⟩:=hI;by_cases hjl:j<L.length
  ·obtain ⟨sb,so,sc,c,hc⟩:=(hL.ext e1).get (fo hjl);injection c with c _ ev2;subst c;subst ev2;have g:=hx L[j] (dk hjl);have ht:(L.take (j+1)).foldl (λr x=>stW r x 8) 4294967295=stW ((L.take j).foldl (λr x=>stW r x 8) 4294967295) L[j] 8:=by
    rw [List.take_succ_eq_append_getElem hjl,df];rfl
   have hr:=Bc (L.take j) 4294967295 (by decide);generalize (L.take j).foldl (λr x=>stW r x 8) 4294967295=r at*;generalize L[j]=x at*;unfold py;refine zS1 hc ?_;apply Av (I:=λa b z w'=>∃i r' x':Nat,z= .int .i64 (i:Int)/\i<=8/\a= .int .u32 (r':Int)/\b= .int .u64 (x':Int)/\r'<4294967296/\x'<18446744073709551616/\stW r' x' (8-i)=stW r x 8/\Ext w w') (μ:=λ_ _ z _=>8-(intOf z).toNat)
   ·exact ⟨0,r,x,rfl,by omega,rfl,rfl,hr,g,rfl,e1⟩
   ·intros;rename_i w2 hI E2 h;obtain ⟨i,r',x',rfl,hi,rfl,rfl,d,n,e,e2⟩:=hI;have k:=hG.ext e2;unfold xd;by_cases hi8:i<8
    ·have f:stW (stepN r' (x'%256)) (x'/2^8) (8-(i+1))=stW r x 8:=by
      rw [<-e,show 8-i=(8-(i+1))+1 by omega];rfl
     have hs:=r9 r' (x'%256) d oM;have hq:x'/2^8<18446744073709551616:=oM;simp (disch:=try exact dZ) only [↓RBp,↓RA,↓reduceIte,Nat.reduceAdd,Nat.reduceMul,Nat.reduceEqDiff,RB,RX,RA2,St _ _ _ _ k d];apply h
     ·exact ⟨i+1,_,_,by simp,by omega,rfl,rfl,hs,hq,f,e2⟩
     ·simp [intOf];omega
    ·have:i=8:=oM;subst this;refine zS2 @Hn @wZ.eq_1 ?_;apply hE
     ·exact ⟨j+1,by simp,by omega,by rw [ht,<-e];rfl,e2⟩
     ·simp [intOf];omega
  ·have:j=L.length:=oM;subst this;have hr:(L.take L.length).foldl (λr x=>stW r x 8) 4294967295<4294967296:=Bc _ _ (by decide);have l:4294967295^^^(L.take L.length).foldl (λr x=>stW r x 8) 4294967295=crcW L:=by rw [cB];rfl
   generalize (L.take L.length).foldl (λr x=>stW r x 8) 4294967295=r at*;unfold py;refine zS3 @Hm @wY.eq_1 l ?_;exact hK _ e1
def Pi (h:Dv w Y D) (g:aH D) (b:26<=D.n) (hT:Y.tb 0=T) (hC:af w B 171 3 (lgF T)) (x:Nat) (hx:x<18446744073709551616) (K:K1) (hK:∀w',Ext w w'->K (.bool (decide (x%8=0)&&(decide (x<D.n*64)&&decide (1664<=x)))) w'):
  ad prog 125 #[.pointer (some ⟨B,0,none⟩),.int .u64 (x:Int)] w K:=by
 have hn:=g.n;have q0:w.cell? ⟨B,0,none⟩=some (.iface 31 (.pointer (some ⟨T,0,none⟩))):=hC.cell (i:=0) oM;have q1:w.cell? ⟨B,1,none⟩=some (.int .u64 ((0:Nat):Int)):=hC.cell (i:=1) oM;have q2:w.cell? ⟨B,2,none⟩=some (.int .u64 ((1664:Nat):Int)):=hC.cell (i:=2) oM;have a:∀(w1:aA) (K:K1),Ext w w1->ad prog 105 #[.pointer (some ⟨T,0,none⟩)] w1 K=K (.int .u64 ((D.n*64:Nat):Int)) w1:=λw1 K e=>by rw [<-hT];exact km (h.ext e) g 0 oM K
 refine O7 _ _ _ _ ?_;unfold Ve;by_cases h8:x%8=0
 ·by_cases h2:x<D.n*64
  ·by_cases h3:1664<=x
   ·refine fp q0 q1 q2 a h8 h2 h3 h3 ?_;rw [decide_eq_true h8,decide_eq_true h2,decide_eq_true h3] at hK;exact hK _ xZ
   ·refine fp q0 q1 q2 a h8 h2 h3 h3 ?_;rw [decide_eq_true h8,decide_eq_true h2,decide_eq_false h3] at hK;exact hK _ xZ
  ·refine dY q0 q1 q2 a h8 h2 ?_;rw [decide_eq_true h8,decide_eq_false h2] at hK;exact hK _ xZ
 ·refine dY q0 q1 q2 a h8 h8 ?_;rw [decide_eq_false h8] at hK;exact hK _ xZ
end
def Z9:kW prog .u64 238 (.int .i64 0):=⟨26,3,by kernel_rfl,by kernel_rfl,by kernel_rfl⟩
def lsM (ws:List (Nat×Nat)):Nat->KVL
 |0=> []
 |j+1=>lsM ws j++ [(((ws.getD j (0,0)).1:Int),.int .i64 (j:Int))]
def K0 (ws:List (Nat×Nat)):∀(j:Nat) (p:Int×bb),p∈lsM ws j->∃i,i<j/\p=(((ws.getD i (0,0)).1:Int),.int .i64 (i:Int))
 |0,p,h=>by cases h
 |j+1,p,h=>by
  simp only [lsM,db,ab] at h;rcases h with h|h
  ·obtain ⟨i,h1,h2⟩:=K0 ws j p h;exact ⟨i,by omega,h2⟩
  ·exact ⟨j,by omega,h⟩
def Vq (ws:List (Nat×Nat)):∀(j i:Nat),i<j->(((ws.getD i (0,0)).1:Int),Value.int .i64 (i:Int))∈lsM ws j
 |0,i,h=>by omega
 |j+1,i,h=>by
  simp only [lsM,db,ab];by_cases e:i=j
  ·exact .inr (by rw [e])
  ·exact .inl (Vq ws j i oM)
def abt {ws:List (Nat×Nat)} (h:(ws.map (·.1)).Nodup) {i j:Nat} (hi:i<ws.length) (hj:j<ws.length) (e:(ws.getD i (0,0)).1=(ws.getD j (0,0)).1):i=j:=by
 have a:i<(ws.map (·.1)).length:=by simpa using hi
 refine (eo a h).1 ?_;rw [aB,aB,ap hi,ap hj];simp only [cN];rw [cj,cj,ap hi,ap hj] at e;rw [show ws[i].1=ws[j].1 from e]
def X7 {ws:List (Nat×Nat)} (h:(ws.map (·.1)).Nodup) {j:Nat} (hj:j<ws.length):setL (lsM ws j) ((ws.getD j (0,0)).1:Int) (.int .i64 (j:Int))=lsM ws (j+1):=by
 have:bz (lsM ws j) ((ws.getD j (0,0)).1:Int)=none:=cR.2 (λp hp e=>by
  obtain ⟨i,hi,rfl⟩:=K0 ws j p hp;have:=abt h (show i<ws.length by omega) hj (by simp only at e;omega);omega)
 unfold setL;rw [this,if_neg (by simp)];rfl
section
variable {w w':aA}
def tU (ws:List (Nat×Nat)) (v:bb) (hS:SlO w 98 2 v ws.length (wrL ws)) (C:(ws.map (·.1)).Nodup) (hl:ws.length<1073741824) (hw:∀x∈ws,x.1<18446744073709551616) (K:K1)
  (hK:∀a cap w',SlO w' 98 2 (.slice a ws.length cap) ws.length (wrL ws)->Ext w w'->bw w.heap.size (.slice a ws.length cap)->K (.slice a ws.length cap) w'):ad prog 126 #[v] w K:=by
 obtain ⟨sa,E,rfl,H⟩:=hS.isS';refine O9 _ _ _ ?_;unfold Vf;refine zS0 ?_;have e0:Ext w (w.alloc (.map #[] 0)):=Ext.alloc_self _ _;have B:bj .u64 (w.alloc (.map #[] 0)) w.heap.size []:=bj.empty (aL _ _);have F:w.heap.size<(w.alloc (.map #[] 0)).heap.size:=by simp only [RZ];omega
 apply AU (I:=λz w'=>∃j:Nat,z= .int .i64 (j:Int)/\j<=ws.length/\bj .u64 w' w.heap.size (lsM ws j)/\Frm (λb=>b=w.heap.size) (w.alloc (.map #[] 0)) w') (μ:=λz _=>ws.length-(intOf z).toNat)
 ·exact ⟨0,rfl,by omega,B,Frm.refl _ _⟩
 ·intros;rename_i w2 hI E1 hE;obtain ⟨j,rfl,hj,hM,hf⟩:=hI;have n:Frm Nob w w2:=(Frm.of_ext e0).trans hf (λx hx e=>by omega);have d:=hS.frm n (λ_ _ h=>h);have J:=hM.lt;by_cases hjl:j<ws.length
  ·have g:=X7 C hjl;obtain ⟨x,hx⟩:∃x,ws[j]? =some x:=⟨_,ap hjl⟩;have t:=hw x (bx hx);rw [cj,hx] at g;obtain ⟨xo,xv⟩:=x;simp only [cx] at g;have hg:=iZ _ _ _ hx;obtain ⟨b,o,cap,c,_⟩:=d.isS oM;injection c with c _ ev2;subst c;subst ev2;have c1:=d.cell rfl hg.1;have c2:=d.cell rfl hg.2;rw [<-cd] at c2;have lt:=d.lt rfl;unfold pQ;refine zS2 c1 c2 ?_;refine jc Z9 (hM.ext xZ) _ _ (λw3 f k=> ?_);rw [g] at f;refine zS0 ?_;apply hE
   ·refine ⟨j+1,by simp,by omega,f,?_⟩;refine (hf.ext xZ).trans k (λx _ e=>e)
   ·simp [intOf];omega
  ·have:j=ws.length:=oM;subst this;unfold pQ;refine zS2 @HS @xC.eq_1 ?_;apply AV (I:=λy z w'=>∃j:Nat,z= .int .i64 (j:Int)/\j<=ws.length/\SlO w' 98 2 y j (wrL (ws.take j))/\Frm Nob w2 w'/\bw w2.heap.size y) (μ:=λ_ z _=>ws.length-(intOf z).toNat)
   ·exact ⟨0,rfl,by omega,SlO.nil _ _ _,Frm.refl _ _,λb hb=>by cases hb⟩
   ·intros;rename_i w3 hI E2 D;obtain ⟨j,rfl,hj,sp,k,np⟩:=hI;have p:=k.to_ext (λ_ _ h=>h);obtain ⟨pa,pc,rfl,G⟩:=sp.isS';have i:=d.ext p;have f:=hM.ext p;have L:=f.lt;by_cases hjl:j<ws.length
    ·obtain ⟨x,hx⟩:∃x,ws[j]? =some x:=⟨_,ap hjl⟩;have t:=hw x (bx hx);have l:bz (lsM ws ws.length) ((ws.getD j (0,0)).1:Int)=some (.int .i64 (j:Int)):=qU hM.keys (Vq ws _ j hjl);rw [cj,hx] at l;obtain ⟨xo,xv⟩:=x;simp only [cx] at l;have r:∀(w1:aA) (K:K1),Ext w3 w1->ev prog (Instr.lookup 238 (.map (some w.heap.size)) (.int .u64 (xo:Int)) false) w1 K=K (.int .i64 (j:Int)) w1:=λw1 K e=>by rw [di Z9 (f.ext e),l];rfl
     have hg:=iZ _ _ _ hx;obtain ⟨b,o,cap,c,_⟩:=i.isS oM;injection c with c _ ev2;subst c;subst ev2;have c1:=i.cell rfl hg.1;have c2:=i.cell rfl hg.2;rw [<-cd] at c2;have lt:=i.lt rfl;unfold pR;refine eQ c1 c2 r ?_;have et:ws.take (j+1)=ws.take j++ [(xo,xv)]:=cG hx;refine bD cv (w0:=w2) (sp.ext xZ) (k.ext xZ) np (m:=1) (news:=wrL [(xo,xv)]) (by simp [wrL]) ?_ rfl oM oM oM (λv' w4 s A n4 _ _=> ?_)
     ·intro q u hq;rw [cA,aO _ _ _ _ _ (by simp only [RZ])];simpa [wrL,u64] using hq
     refine zS2 @HU @xE.eq_1 ?_;apply D
     ·refine ⟨j+1,by simp,by omega,?_,A,n4⟩;rw [et,bJ];exact s
     ·simp [intOf];omega
    ·have:j=ws.length:=oM;subst this;rw [cB] at sp;unfold pR;refine zS2 @HT @xD.eq_1 ?_;exact hK _ _ w3 sp ((n.to_ext (λ_ _ h=>h)).trans p) (λb hb=>ca n.size (np b hb))
end
def flW:List (Nat×Nat)->List Nat
 | []=> []
 |x::r=>x.1::x.2::flW r
def cmC (ws:List (Nat×Nat)):Nat:=ws.length|||crcW (flW ws)*2^32%18446744073709551616
def rpI (ws:List (Nat×Nat)):List Ins:=if ws= [] then [] else cmI (cmC ws) ws
def K4:∀(a b:List (Nat×Nat)),flW (a++b)=flW a++flW b
 | [],b=>rfl
 |x::a,b=>by simp only [ew,flW,K4 a b]
def K5:∀(a:List (Nat×Nat)),(flW a).length=2*a.length
 | []=>rfl
 |x::a=>by simp only [flW,cF,K5 a];omega
def Vr:∀(a:List (Nat×Nat)),(∀x∈a,x.1<18446744073709551616/\x.2<18446744073709551616)->∀y∈flW a,y<18446744073709551616
 | [],_,y,hy=>by cases hy
 |x::a,h,y,hy=>by
  simp only [flW,e8] at hy;rcases hy with rfl|rfl|hy
  ·exact (h x (by simp)).1
  ·exact (h x (by simp)).2
  ·exact Vr a (λx hx=>h x (by simp [hx])) y hy
def DI:∀(i:Nat) (a:List (Nat×Nat)) (x:Nat×Nat),enL i (a++ [x])=enL i a++ [(64+16*(i+a.length),x.1),(64+16*(i+a.length)+8,x.2)]
 |i,[],x=>rfl
 |i,y::a,x=>by
  simp only [ew,enL,DI (i+1) a x,cF];rw [show i+1+a.length=i+(a.length+1) by omega]
def HY {ws:List (Nat×Nat)} (h:ws.length<=96):cmC ws<18446744073709551616:=Nat.or_lt_two_pow (n:=64) oM oM
section
variable {w w':aA} {Y:Lay} {D:DS} {T B:Nat}
def RdS.of_slR {w:aA} {v:bb} {L:List bb} {t:TypeId} (h:SlO w t 1 v L.length L):RdS w.heap.size w v L:=by
 obtain ⟨a,cap,hv,_⟩:=h.isS';subst hv;refine ⟨a,cap,rfl,?_⟩;rcases Nat.eq_zero_or_pos L.length with e|e
 ·exact .inl (List.eq_nil_of_length_eq_zero e)
 ·obtain ⟨b,o,c,ev,_⟩:=h.isS e;injection ev with e1 _ e3;subst e1;subst e3;exact .inr ⟨b,o,rfl,h.lt rfl,λj u hj=>h.cell rfl hj⟩
def acz (hC:af w B 171 3 (lgF T)) (hG:bq w) (ws:List (Nat×Nat)) {v u x:bb} (hS:SlO w 98 2 v ws.length (wrL ws)) (h0:0<ws.length) (hl:ws.length<=96) (hw:∀x∈ws,x.1<4194304/\x.2<18446744073709551616) (hu:SlO w 98 2 u (2*ws.length) (wrL (enL 0 ws))) (hx:SlO w 26 1 x (2*ws.length) (bL (flW ws))) (K:K1)
  (hK:∀v' w',Ext w w'->bw w.heap.size v'->SlO w' 220 3 v' (cmI (cmC ws) ws).length (inL (cmI (cmC ws) ws))->K (.tuple #[v',.int .i64 0]) w'):
  HK K (.pointer (some ⟨B,0,none⟩)) v u x w:=by
 have c:=AF 0 ws;have l:=K5 ws;have j:∀y∈flW ws,y<18446744073709551616:=Vr ws (λx hx=>⟨by have:=hw x hx;omega,(hw x hx).2⟩);have o:=X6 (flW ws);have i:=HY hl;have n:crcW (flW ws)*2^32<18446744073709551616:=oM;have h1:=dh (enL 0 ws);have h2:=dh [((0:Nat),cmC ws)];have h3:=aR (enL 0 ws);have h4:=aR [((0:Nat),cmC ws)];have h5:=aR ws;have h6:=aR [((0:Nat),(0:Nat))];have f:ws.length|||crcW (flW ws)*2^32%18446744073709551616=cmC ws:=rfl;have k:∀y∈enL 0 ws,y.1<18446744073709551616:=λy hy=>by
  obtain ⟨h1,_⟩:=mS hy;omega
 have h:∀y∈ws,y.1<18446744073709551616:=λy hy=>by have:=hw y hy;omega
 simp only [cn] at h4 h6;rw [c] at h3;rw [<-c] at hu;obtain ⟨va,vc,rfl,m⟩:=hS.isS';have hr:RdS w.heap.size w x (bL (flW ws)):=RdS.of_slR (by rw [show (bL (flW ws)).length=2*ws.length by simp [bL,l]];exact hx);rw [OW];unfold Dt;refine zS0 ?_;refine Vp hG _ x hr j oM _ (λw1 e1=> ?_);refine zS1 f ?_;refine gk (enL 0 ws) _ (hu.ext e1) oM oM k _ (λv2 w2 s2 e2 n2=> ?_);have e:=e1.trans e2;refine zS0 ?_;refine HX (hC.ext e) (cmC ws) i _ (λv3 w3 s3 e3 n3=> ?_);have g:=e.trans e3;refine zS0 ?_;refine zO _ _ v2 v3 (s2.ext e3) s3 h1 h2 oM oM _ (λv4 w4 s4 e4 n4=> ?_);have a:=g.trans e4;refine zS0 ?_;refine Vn (hC.ext a) (hS.ext a) h0 oM h _ (λv5 w5 s5 e5 n5=> ?_);have d:=a.trans e5;refine zS0 ?_;refine zO _ _ v4 v5 (s4.ext e5) s5 (by rw [bv];omega) (by rw [bv];have:=dh ws;omega) (by rw [bv];omega) (by rw [bv];omega) _ (λv6 w6 s6 e6 n6=> ?_);exact hK v6 w6 (d.trans e6) (λb hb=>ca d.size (n6 b hb)) s6
def acA (hC:af w B 171 3 (lgF T)) (hG:bq w) (ws:List (Nat×Nat)) {a:Option Addr} {cap:Nat} (hS:SlO w 98 2 (.slice a ws.length cap) ws.length (wrL ws)) (h0:0<ws.length) (hl:ws.length<=96) (hw:∀x∈ws,x.1<4194304/\x.2<18446744073709551616) (K:K1)
  (hK:∀v' w',Ext w w'->bw w.heap.size v'->SlO w' 220 3 v' (cmI (cmC ws) ws).length (inL (cmI (cmC ws) ws))->K (.tuple #[v',.int .i64 0]) w'):
  HM K (.pointer (some ⟨B,0,none⟩)) (.slice a ws.length cap) (.slice none 0 0) (.slice none 0 0) (.slice a ws.length cap) (.int .i64 (ws.length:Int)) (.int .i64 0) w:=by
 apply Du (I:=λx y z w'=>∃j:Nat,z= .int .i64 (j:Int)/\j<=ws.length/\SlO w' 98 2 x (2*j) (wrL (enL 0 (ws.take j)))/\SlO w' 26 1 y (2*j) (bL (flW (ws.take j)))/\Frm Nob w w'/\bw w.heap.size x/\bw w.heap.size y/\(∀b,x.ownBlock=some b->y.ownBlock≠some b)) (μ:=λ_ _ z _=>ws.length-(intOf z).toNat)
 ·exact ⟨0,rfl,by omega,SlO.nil _ _ _,SlO.nil _ _ _,Frm.refl _ _,λb hb=>(by cases hb),λb hb=>(by cases hb),λb hb=>(by cases hb)⟩
 ·intros;rename_i w2 hI E1 hE;obtain ⟨j,rfl,hj,sx,sy,hf,nx,ny,hd⟩:=hI;have e2:=hf.to_ext (λ_ _ h=>h);obtain ⟨xa,xc,rfl,P⟩:=sx.isS';obtain ⟨ya,yc,rfl,N⟩:=sy.isS';by_cases hjl:j<ws.length
  ·obtain ⟨x,hx⟩:∃x,ws[j]? =some x:=⟨_,ap hjl⟩;have v:=hw x (bx hx);have et:ws.take (j+1)=ws.take j++ [x]:=cG hx;have k:wrL (enL 0 (ws.take (j+1)))=(wrL (enL 0 (ws.take j))++wrL [(64+j*16,x.1)])++wrL [(64+j*16+8,x.2)]:=by
    rw [et,DI,eq,Nat.min_eq_left oM,cA,fc 16 j,<-bJ,<-bJ,List.append_assoc];rfl
   have t:bL (flW (ws.take (j+1)))=bL (flW (ws.take j))++bL [x.1,x.2]:=by
    rw [et,K4];simp only [bL,dp];rfl
   obtain ⟨xo,xv⟩:=x;simp only at v k t;have c:=hS.ext e2;have hg:=iZ _ _ _ hx;obtain ⟨b,o,cap,d,_⟩:=c.isS oM;injection d with d _ ev2;subst d;subst ev2;have c1:=c.cell rfl hg.1;have c2:=c.cell rfl hg.2;rw [<-cd] at c2;have lt:=c.lt rfl;have q1:w2.cell? ⟨B,1,none⟩=some (.int .u64 ((0:Nat):Int)):=(hC.ext e2).cell (i:=1) oM;have ltB:=ay q1;have f:∀b,(Value.slice xa (2*j) xc).ownBlock=some b->b<w2.heap.size:=λb hb=>sx.lt hb
   have H:∀b,(Value.slice ya (2*j) yc).ownBlock=some b->b<w2.heap.size:=λb hb=>sy.lt hb
   unfold tL;refine zS3 c1 c2 q1 ?_;refine bD cv (w0:=w) (sx.ext xZ) (hf.ext xZ) nx (m:=1) (news:=wrL [(64+j*16,xo)]) (by simp [wrL]) ?_ rfl oM oM oM (λv3 w3 s3 f3 n3 r3 b3=> ?_)
   ·intro q u hq;rw [cA,aO _ _ _ _ _ (by simp only [RZ])];simpa [wrL,u64] using hq
   obtain ⟨l,p,rfl,E⟩:=s3.isS';have c3:w3.cell? ⟨w2.heap.size,0,none⟩=some (.int .u64 (xo:Int)):=by
    rw [r3.cell _ _ (by simp only [RZ];omega) (λe=>by have:=f _ e;omega),fW _ _ _ _ (by simp only [RZ];omega),aO _ _ _ _ _ rfl];rfl
   have c4:w3.cell? ⟨w2.heap.size,1,none⟩=some (.int .u64 (xv:Int)):=by
    rw [r3.cell _ _ (by simp only [RZ];omega) (λe=>by have:=f _ e;omega),fW _ _ _ _ (by simp only [RZ];omega),aO _ _ _ _ _ rfl];rfl
   have O:w2.heap.size<w3.heap.size:=by have:=r3.size;simp only [RZ] at this;omega
   have r:SlO w3 26 1 (.slice ya (2*j) yc) (2*j) (bL (flW (ws.take j))):=(sy.ext xZ).frm r3 (λb hb e=>hd b e hb);have hd3:∀b,(Value.slice l (2*j+1) p).ownBlock=some b->(Value.slice ya (2*j) yc).ownBlock≠some b:=by
    intro b hb e;rcases b3 b hb with h1|h1
    ·exact hd b h1 e
    ·have:=sy.lt e;simp only [RZ] at h1;omega
   have g:∀b,(Value.slice l (2*j+1) p).ownBlock=some b->b≠w2.heap.size:=λb hb e=>by
    rcases b3 b hb with h1|h1
    ·have:=f b h1;omega
    ·simp only [RZ] at h1;omega
   refine zS2 c3 c4 ?_;refine bD cv (w0:=w) (s3.ext xZ) (f3.ext xZ) n3 (m:=1) (news:=wrL [(64+j*16+8,xv)]) (by simp [wrL]) ?_ rfl oM oM oM (λv4 w4 s4 f4 n4 r4 b4=> ?_)
   ·intro q u hq;rw [cA,aO _ _ _ _ _ (by simp only [RZ])];simpa [wrL,u64] using hq
   obtain ⟨A,C,rfl,F⟩:=s4.isS';have c5:w4.cell? ⟨w2.heap.size,0,none⟩=some (.int .u64 (xo:Int)):=by
    rw [r4.cell _ _ (by simp only [RZ];omega) (λe=>g _ e rfl),fW _ _ _ _ oM];exact c3
   have c6:w4.cell? ⟨w2.heap.size,1,none⟩=some (.int .u64 (xv:Int)):=by
    rw [r4.cell _ _ (by simp only [RZ];omega) (λe=>g _ e rfl),fW _ _ _ _ oM];exact c4
   have L:w3.heap.size<w4.heap.size:=by have:=r4.size;simp only [RZ] at this;omega
   have D:SlO w4 26 1 (.slice ya (2*j) yc) (2*j) (bL (flW (ws.take j))):=(r.ext xZ).frm r4 (λb hb e=>hd3 b e hb);have hd4:∀b,(Value.slice A (2*j+1+1) C).ownBlock=some b->(Value.slice ya (2*j) yc).ownBlock≠some b:=by
    intro b hb e;rcases b4 b hb with h1|h1
    ·exact hd3 b h1 e
    ·have:=r.lt e;simp only [RZ] at h1;omega
   refine zS2 c5 c6 ?_;refine bD cZ (w0:=w) (D.ext xZ) (f4.ext xZ) ny (m:=2) (news:=bL [xo,xv]) (by simp [bL]) ?_ rfl oM oM oM (λv5 w5 s5 f5 n5 r5 b5=> ?_)
   ·intro q u hq;rw [cA,aO _ _ _ _ _ (by simp only [RZ])];simpa [bL,u64] using hq
   obtain ⟨M,J,rfl,G⟩:=s5.isS';refine zS0 ?_;apply hE
   ·refine ⟨j+1,by simp,by omega,?_,?_,f5,n4,n5,?_⟩
    ·rw [k];exact (s4.ext xZ).frm r5 (λb hb e=>hd4 b hb e)
    ·rw [t];exact s5
    ·intro b hb e;rcases b5 b e with h1|h1
     ·exact hd4 b hb h1
     ·have:=s4.lt hb;simp only [RZ] at h1;omega
   ·simp [intOf];omega
  ·have:j=ws.length:=oM;subst this;rw [cB] at sx sy;unfold tL;refine zS0 ?_;exact acz (hC.ext e2) (hG.ext e2) ws (hS.ext e2) h0 hl hw sx sy K (λv' w' e n s=>hK v' w' (e2.trans e) (λb hb=>ca e2.size (n b hb)) s)
def acB (h:Dv w Y D) (g:aH D) (hG:bq w) (y:26<=D.n) (hT:Y.tb 0=T) (hC:af w B 171 3 (lgF T)) (r:D.err 0=0->D.off=false/\D.cur 0=0) (ws:List (Nat×Nat)) (v:bb) (hS:SlO w 98 2 v ws.length (wrL ws)) (o:(ws.map (·.1)).Nodup) (hl:ws.length<1073741824) (q:∀x∈ws,x.1%8=0/\x.1<D.n*64/\1664<=x.1/\x.2<18446744073709551616) (K:K1)
  (f:96<ws.length->∀w',Ext w w'->K (.tuple #[.slice none 0 0,.int .i64 9]) w')
  (j:ws.length<=96->D.err 0≠0->∀w',Ext w w'->K (.tuple #[.slice none 0 0,.int .i64 (D.err 0)]) w')
  (hK:ws.length<=96->D.err 0=0->∀v' w',Ext w w'->bw w.heap.size v'->SlO w' 220 3 v' (rpI ws).length (inL (rpI ws))->K (.tuple #[v',.int .i64 0]) w'):
  HJ K (.pointer (some ⟨B,0,none⟩)) v w:=by
 have hn:=g.n;have m:∀(w1:aA) (K:K1),Ext w w1->ad prog 28 #[.pointer (some ⟨T,0,none⟩)] w1 K=K (.int .i64 (D.err 0)) w1:=λw1 K e=>by rw [<-hT,cM (h.ext e) 0 oM K]
 have hld:D.err 0=0->∀(w1:aA) (K:K1),Ext w w1->ad prog 32 #[.pointer (some ⟨T,0,none⟩),.int .u64 ((0:Nat):Int)] w1 K=K (.int .u64 ((0:Nat):Int)) w1:=λhe w1 K e=>by
  rw [<-hT,jC (h.ext e) g 0 oM (r he).1 0 oM oM K,show 0/8=0 by omega,(r he).2]
 have q0:w.cell? ⟨B,0,none⟩=some (.iface 31 (.pointer (some ⟨T,0,none⟩))):=hC.cell (i:=0) oM;have q1:w.cell? ⟨B,1,none⟩=some (.int .u64 ((0:Nat):Int)):=hC.cell (i:=1) oM;have ltB:=hC.lt;have l:∀x∈ws,x.1<18446744073709551616:=λx hx=>by have:=q x hx;omega
 by_cases hlm:96<ws.length
 ·have f:=f hlm;refine zS2 @iw @iu.eq_1 ?_;refine tU ws _ hS o hl l _ (λta k w3 p e3 n3=> ?_);refine zS1 hlm ?_;exact f _ e3
 ·have d:ws.length<=96:=oM;by_cases he:D.err 0=0
  ·have hld:=hld he;have hK:=hK d he;rw [he] at m;by_cases h0:ws= []
   ·subst h0;refine zS2 @iw @iu.eq_1 ?_;refine tU [] _ hS o hl l _ (λta k w3 p e3 n3=> ?_);have q0:=e3.cell_some q0;have q1:=e3.cell_some q1;have a:=λ(w1:aA) (K:K1) (e:Ext w3 w1)=>m w1 K (e3.trans e)
    have c:=λ(w1:aA) (K:K1) (e:Ext w3 w1)=>hld w1 K (e3.trans e)
    simp (disch:=try exact dX) only [↓RBp,↓RA,↓reduceIte,Nat.reduceAdd,Nat.reduceMul,Nat.reduceEqDiff,RB,RX,RA2,q0,q1,a,c,eN];exact hK _ _ (e3.trans xZ) (λb hb=>by cases hb) (SlO.nil _ _ _)
   ·have hp:0<ws.length:=List.length_pos_iff.2 h0;have t:rpI ws=cmI (cmC ws) ws:=by unfold rpI;rw [if_neg h0]
    rw [t] at hK;refine zS2 @iw @iu.eq_1 ?_;refine tU ws _ hS o hl l _ (λta k w3 p e3 n3=> ?_);have u:=hC.ext e3;have q0:=e3.cell_some q0;have q1:=e3.cell_some q1;have a:=λ(w1:aA) (K:K1) (e:Ext w3 w1)=>m w1 K (e3.trans e)
    have c:=λ(w1:aA) (K:K1) (e:Ext w3 w1)=>hld w1 K (e3.trans e)
    refine dY hlm q0 q1 a c c ?_;have hw:∀x∈ws,x.1<4194304/\x.2<18446744073709551616:=λx hx=>by have:=q x hx;omega
    have ed:Ext w3 w3.drew:=Ext.drew (Ext.refl _);exact acA (u.ext ed) (hG.ext (e3.trans ed)) ws (p.ext ed) hp d hw _ (λv' w' e n s=>hK v' w' (e3.trans (ed.trans e)) (λb hb=>ca (e3.trans ed).size (n b hb)) s)
  ·have j:=j d he;generalize D.err 0=er at*;refine zS2 @iw @iu.eq_1 ?_;refine tU ws _ hS o hl l _ (λta k w3 p e3 n3=> ?_);have q0:=e3.cell_some q0;have q1:=e3.cell_some q1;have a:=λ(w1:aA) (K:K1) (e:Ext w3 w1)=>m w1 K (e3.trans e)
   refine dY hlm q0 q1 a he he ?_;exact j _ (e3.trans xZ)
def Bd (h:Dv w Y D) (g:aH D) (hG:bq w) (l:26<=D.n) (hT:Y.tb 0=T) (hC:af w B 171 3 (lgF T)) (q:D.err 0=0->D.off=false/\D.cur 0=0) (ws:List (Nat×Nat)) (v:bb) (hS:SlO w 98 2 v ws.length (wrL ws)) (r:(ws.map (·.1)).Nodup) (hl:ws.length<1073741824) (k:∀x∈ws,x.1%8=0/\x.1<D.n*64/\1664<=x.1/\x.2<18446744073709551616) (K:K1)
  (p:96<ws.length->∀w',Ext w w'->K (.tuple #[.slice none 0 0,.int .i64 9]) w')
  (m:ws.length<=96->D.err 0≠0->∀w',Ext w w'->K (.tuple #[.slice none 0 0,.int .i64 (D.err 0)]) w')
  (hK:ws.length<=96->D.err 0=0->∀v' w',Ext w w'->bw w.heap.size v'->SlO w' 220 3 v' (rpI ws).length (inL (rpI ws))->K (.tuple #[v',.int .i64 0]) w'):
  ad prog 71 #[.pointer (some ⟨B,0,none⟩),v] w K:=by
 have hn:=g.n;have q0:w.cell? ⟨B,0,none⟩=some (.iface 31 (.pointer (some ⟨T,0,none⟩))):=hC.cell (i:=0) oM;have ltB:=hC.lt;obtain ⟨sa,t,rfl,u⟩:=hS.isS';refine Dw _ _ _ _ ?_;unfold UV;refine zS1 q0 ?_;apply qi (I:=λz w'=>∃j:Nat,z= .int .i64 (j:Int)/\j<=ws.length/\Ext w w') (μ:=λz _=>ws.length-(intOf z).toNat)
 ·exact ⟨0,rfl,by omega,xZ⟩
 ·intros;rename_i w2 hI E1 hE;obtain ⟨j,rfl,hj,e2⟩:=hI;have c:=hS.ext e2;have q0:=e2.cell_some q0;have ltB:=ay q0;by_cases hjl:j<ws.length
  ·obtain ⟨x,hx⟩:∃x,ws[j]? =some x:=⟨_,ap hjl⟩;have d:=k x (bx hx);obtain ⟨xo,xv⟩:=x;simp only at d;have hg:=iZ _ _ _ hx;obtain ⟨b,o,cap,f,_⟩:=c.isS oM;injection f with f _ ev2;subst f;subst ev2;have c1:=c.cell rfl hg.1;have c2:=c.cell rfl hg.2;rw [<-cd] at c2;have lt:=c.lt rfl;unfold mY;refine zS2 c1 c2 ?_;refine Pi (h.ext (Ext.trans e2 xZ)) g l hT (hC.ext (Ext.trans e2 xZ)) xo oM _ (λw3 e3=> ?_);have s:Ext w w3:=e2.trans (Ext.trans xZ e3);rw [decide_eq_true d.1,decide_eq_true d.2.1,decide_eq_true d.2.2.1];refine zS2 @Bool.and_self @Bool.not_true ?_;apply hE
   ·exact ⟨j+1,by simp,by omega,s⟩
   ·simp [intOf];omega
  ·have:j=ws.length:=oM;subst this;unfold mY;refine zS0 ?_;exact acB (h.ext e2) g (hG.ext e2) l hT (hC.ext e2) q ws _ c r hl k K (λa w' e=>p a w' (e2.trans e)) (λa b w' e=>m a b w' (e2.trans e)) (λa b v' w' e n=>hK a b v' w' (e2.trans e) (λb hb=>ca e2.size (n b hb)))
end
def abu {n:Nat} {ws:List (Nat×Nat)} (h:tj n ws) (hn:n<=4096):∀i∈rpI ws,okI i:=by
 intro i hi;unfold rpI at hi;by_cases h0:ws= []
 ·rw [if_pos h0] at hi;cases hi
 ·rw [if_neg h0] at hi;exact T8 (D:=DS.zero n) h hn (HY h.len) i hi
def abv {n:Nat} {ws:List (Nat×Nat)} (h:tj n ws):(rpI ws).length<=1000:=by
 unfold rpI;by_cases h0:ws= []
 ·rw [if_pos h0];exact Nat.zero_le _
 ·rw [if_neg h0];exact T9 (D:=DS.zero n) h
section
variable {w w':aA} {Y:Lay} {D:DS} {T B:Nat}
def Vs (h:Dv w Y D) (g:aH D) (hG:bq w) (k:26<=D.n) (hT:Y.tb 0=T) (hC:af w B 171 3 (lgF T)) (he:D.err 0=0) (ho:D.off=false) (f:D.cur 0=0) (hx:D.exe<1000000000) (ws:List (Nat×Nat)) (v:bb) (hS:SlO w 98 2 v ws.length (wrL ws)) (j:(ws.map (·.1)).Nodup) (hl:ws.length<1073741824) (d:∀x∈ws,x.1%8=0/\x.1<D.n*64/\1664<=x.1/\x.2<18446744073709551616) (K:K1)
  (e:96<ws.length->∀w',Ext w w'->K (.int .i64 9) w')
  (hK:tj D.n ws->∀w' Y',Stp w Y w' Y' (D.run 0 (rpI ws))->K (.int .i64 ((D.run 0 (rpI ws)).err 0)) w'):
  ad prog 43 #[.pointer (some ⟨B,0,none⟩),v] w K:=by
 have q0:w.cell? ⟨B,0,none⟩=some (.iface 31 (.pointer (some ⟨T,0,none⟩))):=hC.cell (i:=0) oM;have ltB:=hC.lt;refine Up _ _ _ _ ?_;unfold ZN;refine Bd h g hG k hT hC (λ_=>⟨ho,f⟩) ws v hS j hl d _ (λc w1 e1=> ?_) (λ_ hn=>absurd he hn) (λc _ v1 w1 e1 n1 s1=> ?_)
 ·refine zS0 ?_;exact e c _ e1
 ·have q0:=e1.cell_some q0;have hW:tj D.n ws:=⟨d,c⟩;have l:=abv hW;have a:=λK hK=>sC (h.ext e1) g 0 oM (rpI ws) v1 s1 (λb hb hf=>by have h1:=h.lt hf;have h2:=n1 b hb;omega) (abu hW g.n) oM K hK
  rw [hT] at a;refine zS1 q0 ?_;refine a _ (λw3 Y3 st=> ?_);exact hK hW w3 Y3 (Stp.pre e1 (λx hx=>h.lt hx) st)
def X8 (h:Dv w Y D) (g:aH D) (b:26<=D.n) (hT:Y.tb 0=T) (hC:af w B 171 3 (lgF T)) (ho:D.off=false) (a:D.cur 0=0) (K:K1) (hK:∀w',Ext w w'->K (.tuple #[.int .u8 ((1:Nat):Int),.slice none 0 0]) w'):
  ad prog 151 #[.pointer (some ⟨B,0,none⟩)] w K:=by
 have hld:∀(w1:aA) (K:K1),Ext w w1->ad prog 32 #[.pointer (some ⟨T,0,none⟩),.int .u64 ((0:Nat):Int)] w1 K=K (.int .u64 ((0:Nat):Int)) w1:=λw1 K e=>by
  rw [<-hT,jC (h.ext e) g 0 oM ho 0 oM oM K,show 0/8=0 by omega,a]
 have q0:w.cell? ⟨B,0,none⟩=some (.iface 31 (.pointer (some ⟨T,0,none⟩))):=hC.cell (i:=0) oM;have q1:w.cell? ⟨B,1,none⟩=some (.int .u64 ((0:Nat):Int)):=hC.cell (i:=1) oM;have ltB:=hC.lt;refine Pg _ _ _ ?_;unfold Vm;refine dY q0 q1 hld @Cl @Cm @bW ?_;exact hK _ xZ
def HZ (h:Dv w Y D) (g:aH D) (d:26<=D.n) (hT:Y.tb 0=T) (hC:af w B 171 3 (lgF T)) (ho:D.off=false) (he:D.err 0=0) (c:D.cur 0=0) (K:K1) (hK:∀w',Ext w w'->K (.tuple #[.int .i64 0,.int .i64 0]) w'):
  ad prog 108 #[.pointer (some ⟨B,0,none⟩)] w K:=by
 have a:∀(w1:aA) (K:K1),Ext w w1->ad prog 28 #[.pointer (some ⟨T,0,none⟩)] w1 K=K (.int .i64 0) w1:=λw1 K e=>by rw [<-hT,cM (h.ext e) 0 oM K,he]
 have q0:w.cell? ⟨B,0,none⟩=some (.iface 31 (.pointer (some ⟨T,0,none⟩))):=hC.cell (i:=0) oM;have ltB:=hC.lt;refine O0 _ _ _ ?_;unfold U9;refine fC q0 a ?_;refine X8 h g d hT hC ho c _ (λw1 e1=> ?_);have q0:=e1.cell_some q0;have ltB:=ay q0;have b:=λ(w2:aA) (K:K1) (e:Ext w1 w2)=>a w2 K (e1.trans e)
 refine fC q0 b ?_;exact hK _ e1
end
section
variable {w0 w w':aA} {Y Y':Lay} {D D':DS} {S b o cp l0 n k:Nat} {f f':Nat->Int×Int×Bool}
def Vt (h:ArS w0 w Y D S b o cp l0 n f) {x:Int} (hx:∀k,k<n->x≠((l0+32*k:Nat):Int)) (on:Bool) (K:K1) (hK:∀w',Ext w w'->K (.int .i64 5) w'):
  ad prog 70 #[stV S,.int .i64 x,.bool on] w K:=by
 refine Cu _ _ _ _ _ ?_;unfold Tw;refine zS0 ?_;refine TU h hx _ (λw1 e1=> ?_);refine zS0 ?_;exact hK _ e1
def H0 (h:ArS w0 w Y D S b o cp l0 n f) (hk:k<n) (on:Bool) (K:K1)
  (h8:(f k).1<0->∀w',Ext w w'->K (.int .i64 8) w')
  (hK:¬(f k).1<0->∀w',dC w Y b w' Y->ArS w0 w' Y D S b o cp l0 n (upF f k ((f k).1,(f k).2.1,on))->K (.int .i64 0) w'):
  ad prog 70 #[stV S,.int .i64 ((l0+32*k:Nat):Int),.bool on] w K:=by
 refine Cu _ _ _ _ _ ?_;unfold Tw;refine zS0 ?_;refine CB h hk _ (λw1 e1=> ?_);have h1:=h.ext e1;have h3:=h1.wr3 hk on;have fz:=h1.fz;have a:=h1.p hk;have q0:=a.1;have q1:=a.2.1;have q2:=a.2.2.1;have q3:=a.2.2.2;by_cases c0:(f k).1<0
 ·have h8:=h8 c0;generalize (f k).1=cc at q1 c0;refine zS2 q1 c0 ?_;exact h8 _ e1
 ·have hK:=hK c0 _ ((dC.of_ext Y b e1).set _ _) h3;generalize (f k).1=cc at q1 c0;refine zS4 q1 q3 c0 fz ?_;exact hK
end
def mTr:kW prog .u64 108 (.int .u64 0):=⟨26,27,by kernel_rfl,by kernel_rfl,by kernel_rfl⟩
def mTh:kW prog .i64 109 (.int .i64 0):=⟨3,3,by kernel_rfl,by kernel_rfl,by kernel_rfl⟩
def mTa:kW prog .i64 110 (.bool false):=⟨3,4,by kernel_rfl,by kernel_rfl,by kernel_rfl⟩
abbrev Idx:=Nat->Int×Int×Bool
structure HL where
 S:Nat
 b:Nat
 o:Nat
 cp:Nat
 p:Nat
 rm:Nat
 hm:Nat
 av:Option Nat
 avl:List Int
 lk:Bool
 B:Nat
def hpF (T n:Nat) (H:HL) (i:Nat):bb:= [Value.iface 31 (.pointer (some ⟨T,0,none⟩)),.int .i64 ((26:Nat):Int),.int .i64 ((32*n:Nat):Int),stV H.S,.map (some H.rm),.map (some H.hm),.map H.av,.bool H.lk].getD i undef
def rsL (R:List Nat):KVL:=R.map λp=>((pO p:Int),.int .u64 (p:Int))
def avL (A:List Int):KVL:=A.map λx=>(x,.bool true)
def hk (p:Nat):Nat:=(pO p-1664)/2048
def cnR (R:List Nat) (k:Nat):Nat:=(R.filter λp=>decide (hk p=k)).length
def Rsv (D:DS) (f:Idx) (n p:Nat):Prop:=∃k i kd:Nat,k<n/\0<=(f k).1/\(i:Int)<perS (f k).1/\p=ptrN (pOff (26+32*k) (f k).1 i) (bG (wd D (26+32*k) (offN (f k).1 i))) kd/\bS (wd D (26+32*k) (offN (f k).1 i))=176/\kd≠0/\kd<=127
structure HpG (Q:Nat->Prop) (w0 w:aA) (Y:Lay) (D:DS) (H:HL) (n:Nat) (f:Idx) (R:List Nat):Prop where
 ar:ArS w0 w Y D H.S H.b H.o H.cp 26 n f
 rg:RgS D 26 n f
 hp:af w H.p 112 8 (hpF (Y.tb 0) n H)
 lg:af w H.B 171 3 (lgF (Y.tb 0))
 rs:bj .u64 w H.rm (rsL R)
 hd:∃L,bj .i64 w H.hm L/\∀k,k<n->bz L ((26+32*k:Nat):Int)=if cnR R k=0 then none else some (.int .i64 (cnR R k:Int))
 nd:(R.map pO).Nodup
 rv:∀p∈R,Q p
 ho:∀k,k<n->(f k).2.2=decide (cnR R k≠0)
 er:∀k,k<8->D.err k=0
 idl:D.cur 0=0
 avm:(H.av=none/\H.avl= [])\/∃r,H.av=some r/\bj .i64 w r (avL H.avl)/\r≠H.rm/\r≠H.hm/\r≠H.p
 sep:∀x,(x=H.p\/x=H.rm\/x=H.hm\/x=H.B\/H.av=some x)->w0.heap.size<=x/\¬Y.F x/\x≠H.b/\x≠H.S
 dif:H.p≠H.rm/\H.p≠H.hm/\H.rm≠H.hm/\H.B≠H.rm/\H.B≠H.hm/\H.B≠H.p
 dt:Y.dt=Y.tb/\∀i,Y.ids i=i
abbrev HpS (w0 w:aA) (Y:Lay) (D:DS) (H:HL) (n:Nat) (f:Idx) (R:List Nat):Prop:=HpG (Rsv D f n) w0 w Y D H n f R
abbrev hpV (H:HL):bb:= .pointer (some ⟨H.p,0,none⟩)
structure HSt (w:aA) (Y:Lay) (H:HL) (w':aA) (Y':Lay):Prop where
 tb:Y'.tb=Y.tb
 d:Y'.d=Y.d
 frm:Frm (λx=>Y.F x\/x=H.b\/x=H.p\/x=H.rm\/x=H.hm) w w'
 fr:∀x,Y'.F x->Y.F x\/w.heap.size<=x
section
variable {Q Q':Nat->Prop} {w0 w w' w'':aA} {Y Y' Y'':Lay} {D D':DS} {H:HL} {n:Nat} {f f':Idx} {R:List Nat}
def HSt.of_ext (Y:Lay) (H:HL) (e:Ext w w'):HSt w Y H w' Y:=⟨rfl,rfl,Frm.of_ext e,λx hx=> .inl hx⟩
def HSt.of_stp (H:HL) (s:Stp w Y w' Y' D'):HSt w Y H w' Y':=⟨s.tb,s.d,s.frm.mono (λx hx=> .inl hx),s.fr⟩
def HSt.of_ast (s:dC w Y H.b w' Y'):HSt w Y H w' Y':=⟨s.tb,s.d,s.frm.mono (λx hx=>hx.elim .inl (λe=> .inr (.inl e))),s.fr⟩
def HSt.trans (h:HSt w Y H w' Y') (k:HSt w' Y' H w'' Y''):HSt w Y H w'' Y'' where
 tb:=k.tb.trans h.tb
 d:=k.d.trans h.d
 frm:=h.frm.trans k.frm (λx hx hf=>by
  rcases hf with hf|hf
  ·rcases h.fr x hf with h1|h1
   ·exact .inl h1
   ·omega
  ·exact .inr hf)
 fr x hx:=by
  rcases k.fr x hx with h1|h1
  ·exact h.fr x h1
  ·exact .inr (ca h.frm.size h1)
def HSt.ext (h:HSt w Y H w' Y') (e:Ext w' w''):HSt w Y H w'' Y':=h.trans (HSt.of_ext Y' H e)
def HpG.ext (h:HpG Q w0 w Y D H n f R) (e:Ext w w'):HpG Q w0 w' Y D H n f R:=by
 obtain ⟨L,h1,h2⟩:=h.hd;exact ⟨h.ar.ext e,h.rg,h.hp.ext e,h.lg.ext e,h.rs.ext e,⟨L,h1.ext e,h2⟩,h.nd,h.rv,h.ho,h.er,h.idl,h.avm.imp id (λ⟨r,a,b,c⟩=>⟨r,a,b.ext e,c⟩),h.sep,h.dif,h.dt⟩
def HpG.gl (h:HpG Q w0 w Y D H n f R):bq w:=h.ar.gl.ext h.ar.L.ex
def HpG.n4 (h:HpG Q w0 w Y D H n f R):D.n<=4096/\26+32*n<=D.n:=⟨h.ar.L.gd.n,h.ar.lt⟩
def HpG.cell (h:HpG Q w0 w Y D H n f R):w.cell? ⟨H.p,0,none⟩=some (.iface 31 (.pointer (some ⟨Y.tb 0,0,none⟩)))/\w.cell? ⟨H.p,1,none⟩=some (.int .i64 ((26:Nat):Int))/\w.cell? ⟨H.p,2,none⟩=some (.int .i64 ((32*n:Nat):Int))/\w.cell? ⟨H.p,3,none⟩=some (stV H.S)/\w.cell? ⟨H.p,4,none⟩=some (.map (some H.rm))/\w.cell? ⟨H.p,5,none⟩=some (.map (some H.hm))/\w.cell? ⟨H.p,6,none⟩=some (.map H.av)/\w.cell? ⟨H.p,7,none⟩=some (.bool H.lk):=
 ⟨h.hp.cell (i:=0) oM,h.hp.cell (i:=1) oM,h.hp.cell (i:=2) oM,h.hp.cell (i:=3) oM,h.hp.cell (i:=4) oM,h.hp.cell (i:=5) oM,h.hp.cell (i:=6) oM,h.hp.cell (i:=7) oM⟩
def HpG.ltp (h:HpG Q w0 w Y D H n f R):H.p<w.heap.size:=h.hp.lt
def HpG.erE (h:HpG Q w0 w Y D H n f R):∀(w1:aA) (K:K1),Ext w w1->ad prog 28 #[.pointer (some ⟨Y.tb 0,0,none⟩)] w1 K=K (.int .i64 0) w1:=λw1 K e=>by rw [cM (h.ar.L.dv.ext e) 0 oM K,h.er 0 oM]
def HpG.step (h:HpG Q w0 w Y D H n f R) (s:Stp w Y w' Y' D') (hn:D'.n=D.n) (rg:RgS D' 26 n f) (rv:∀p∈R,Q' p) (er:∀k,k<8->D'.err k=0) (d:D'.cur 0=0):HpG Q' w0 w' Y' D' H n f R:=by
 obtain ⟨L,h1,h2⟩:=h.hd;have tb:Y'.tb 0=Y.tb 0:=by rw [s.tb]
 have sp:=h.sep;refine ⟨h.ar.step s rg.gd hn,rg,by rw [tb];exact h.hp.frm s.frm (sp _ (.inl rfl)).2.1,by rw [tb];exact h.lg.frm s.frm (sp _ (.inr (.inr (.inr (.inl rfl))))).2.1,h.rs.frm s.frm (sp _ (.inr (.inl rfl))).2.1,⟨L,h1.frm s.frm (sp _ (.inr (.inr (.inl rfl)))).2.1,h2⟩,h.nd,rv,h.ho,er,d,h.avm.imp id (λ⟨r,a,b,c⟩=>⟨r,a,b.frm s.frm (sp _ (.inr (.inr (.inr (.inr a))))).2.1,c⟩),λx hx=>⟨(sp x hx).1,λhf=> ?_,(sp x hx).2.2⟩,h.dif,by have:=h.dt;rw [s.y];exact this⟩;have lt:x<w.heap.size:=by
  rcases hx with rfl|rfl|rfl|rfl|ha
  ·exact h.hp.lt
  ·exact h.rs.lt
  ·exact h1.lt
  ·exact h.lg.lt
  ·rcases h.avm with ⟨a,_⟩|⟨r,a,b,_⟩
   ·rw [a] at ha;cases ha
   ·rw [a] at ha;injection ha with ha;subst ha;exact b.lt
 rcases s.fr x hf with h3|h3
 ·exact (sp x hx).2.1 h3
 ·omega
def Vu {p n x:Nat} (h1:w.cell? ⟨p,1,none⟩=some (.int .i64 ((26:Nat):Int))) (h2:w.cell? ⟨p,2,none⟩=some (.int .i64 ((32*n:Nat):Int))) (hn:n<=128) (hx:x<18446744073709551616) (K:K1):ad prog 74 #[.pointer (some ⟨p,0,none⟩),.int .u64 (x:Int)] w K=K (if 1664<=x/\(x-1664)/2048<n then .tuple #[.int .i64 ((26+32*((x-1664)/2048):Nat):Int),.bool true] else .tuple #[.int .i64 0,.bool false]) w:=by
 have e1:32*n/32=n:=oM;by_cases a:1664<=x
 ·by_cases b:(x-1664)/2048<n
  ·rw [if_pos ⟨a,b⟩];have e2:((26:Nat):Int)+(((x-1664)/2048:Nat):Int)*32=((26+32*((x-1664)/2048):Nat):Int):=oM;refine ao (by kernel_rfl) (tM _ _ _ _ ?_) K;unfold KP;exact yS4 h1 h2 e1 e2
  ·rw [if_neg (λh=>b h.2)];refine ao (by kernel_rfl) (tM _ _ _ _ ?_) K;unfold KP;exact yS3 h1 h2 e1
 ·rw [if_neg (λh=>a h.1)];refine ao (by kernel_rfl) (tM _ _ _ _ ?_) K;unfold KP;exact yS3 h1 h2 e1
def abw {R:List Nat} (hn:(R.map pO).Nodup) {p:Nat} (h:p∈R):bz (rsL R) (pO p:Int)=some (.int .u64 (p:Int)):=by
 refine qU ?_ (List.mem_map.2 ⟨p,h,rfl⟩);unfold rsL;rw [c8];have:R.map ((λx=>x.1) ∘ λp=>((pO p:Int),Value.int .u64 (p:Int)))=(R.map pO).map (λ(x:Nat)=>(x:Int)):=by rw [c8];rfl
 rw [this];exact List.Pairwise.map _ (λa b h e=>h oM) hn
def abx {R:List Nat} {p:Nat} (h:p∉R):bz (rsL R) (pO p:Int)=none\/∃q,q≠p/\q∈R/\pO q=pO p/\bz (rsL R) (pO p:Int)=some (.int .u64 (q:Int)):=by
 cases hg:bz (rsL R) (pO p:Int) with
 |none=>exact .inl rfl
 |some v=>
  have:=mT hg;obtain ⟨q,hq,e⟩:=List.mem_map.1 this;injection e with e1 e2;exact .inr ⟨q,λe=>h (e▸hq),hq,by omega,by rw [e2]⟩
theorem k_holds (h:HpG Q w0 w Y D H n f R) (hr:∀p∈R,p<18446744073709551616) (p:Nat) (hp:p<18446744073709551616) (K:K1) (hK:∀w',Ext w w'->K (.bool (decide (p∈R))) w'):
  ad prog 83 #[hpV H,.int .u64 (p:Int)] w K:=by
 have q4:=h.cell.2.2.2.2.1;have ltp:=h.ltp;have a:∀(w1:aA) (k:bb->Prop),Ext w w1->rd prog (Instr.lookup 108 (.map (some H.rm)) (.int .u64 ((pO p:Nat):Int)) true) w1 k=k (.tuple #[(bz (rsL R) (pO p:Int)).getD (.int .u64 0),.bool (bz (rsL R) (pO p:Int)).isSome]):=λw1 k e=>tm mTr (h.rs.ext e) (pO p:Int) k
 refine UY _ _ _ _ ?_;unfold Z1;by_cases hm:p∈R
 ·rw [abw h.nd hm] at a;rw [decide_eq_true hm] at hK
  (repeat' (first|(with_reducible first|refine y4 (λ_=> ?_) (λ_=> ?_)|refine e7 ?_ ?_)|(simp (disch:=try exact dX) only [↓RBp,↓RA,↓reduceIte,Nat.reduceAdd,Nat.reduceMul,Nat.reduceEqDiff,RB,RX,RA2,q4,a,eU,cx,d8])))
  exact hK _ xZ
 ·rw [decide_eq_false hm] at hK;rcases abx hm with h0|⟨q,hq,hqR,_,h0⟩
  ·rw [h0] at a
   (repeat' (first|(with_reducible first|refine y4 (λ_=> ?_) (λ_=> ?_)|refine e7 ?_ ?_)|(simp (disch:=try exact dX) only [↓RBp,↓RA,↓reduceIte,Nat.reduceAdd,Nat.reduceMul,Nat.reduceEqDiff,RB,RX,RA2,q4,a,eU,Option.getD_none,Option.isSome_none])))
   exact hK _ xZ
  ·rw [h0] at a;have:=hr q hqR;have b:¬(q:Int)=(p:Int):=oM
   (repeat' (first|(with_reducible first|refine y4 (λ_=> ?_) (λ_=> ?_)|refine e7 ?_ ?_)|(simp (disch:=try exact dX) only [↓RBp,↓RA,↓reduceIte,Nat.reduceAdd,Nat.reduceMul,Nat.reduceEqDiff,RB,RX,RA2,q4,a,eU,cx,d8,b])))
   exact hK _ xZ
def clsN (x:Int):Int:=if x<=3 then 0 else if x<=7 then 1 else if x<=15 then 2 else if x<=31 then 3 else 4
def qW (x:Int):0<=clsN x/\clsN x<5:=by unfold clsN;repeat' split<;>omega
def DJ (hG:bq w) (x:Int) (h1:1<=x) (c:x<=60) (K:K1) (hK:K (.tuple #[.int .i64 (clsN x),.int .i64 0]) w):
  ad prog 65 #[.int .i64 x] w K:=by
 refine Tv _ _ _ ?_;unfold Zz;refine zS0 ?_;apply Ct (I:=λz w'=>∃i:Nat,z= .int .i64 (i:Int)/\(i:Int)<=clsN x/\w'=w) (μ:=λz _=>5-(intOf z).toNat)
 ·exact ⟨0,rfl,by have:=qW x;omega,rfl⟩
 ·intros;rename_i w1 hI E1 hE;obtain ⟨i,rfl,hi,rfl⟩:=hI;have hb:=qW x;have a:=hG.pay i oM;unfold Cs;by_cases e:(i:Int)=clsN x
  ·have d:x<=lE i:=by
    unfold clsN at e;have:i=0\/i=1\/i=2\/i=3\/i=4:=oM;rcases this with rfl|rfl|rfl|rfl|rfl<;>simp only [lE,ei,ek]<;>(repeat' split at e)<;>omega
   rw [<-e] at hK;refine zS1 a ?_;exact hK
  ·have b:¬x<=lE i:=by
    unfold clsN at e hi;have:i=0\/i=1\/i=2\/i=3\/i=4:=oM;rcases this with rfl|rfl|rfl|rfl|rfl<;>simp only [lE,ei,ek]<;>(repeat' split at hi)<;>(repeat' split at e)<;>omega
   refine zS2 a b ?_;apply hE
   ·exact ⟨i+1,by simp,by omega,rfl⟩
   ·simp [intOf];omega
def gD (t x:Int) (k:Nat) (hk:k<256) (w:aA) (K:K1):ad prog 64 #[.int .i64 t,.int .i64 x,.int .u8 (k:Int)] w K=K (.int .i64 (if 0<=t/\t<8/\1<=x/\k≠0/\k<=127 then (if x<=60 then 0 else 9) else 1)) w:=by
 by_cases a:0<=t/\t<8/\1<=x/\k≠0/\k<=127
 ·rw [if_pos a];by_cases b:x<=60
  ·rw [if_pos b];refine ao (by kernel_rfl) (tE _ _ _ _ _ ?_) K;unfold KJ;exact yS0
  ·rw [if_neg b];refine ao (by kernel_rfl) (tE _ _ _ _ _ ?_) K;unfold KJ;exact yS0
 ·rw [if_neg a];refine ao (by kernel_rfl) (tE _ _ _ _ _ ?_) K;unfold KJ;by_cases a1:0<=t
  ·by_cases a2:t<8
   ·by_cases a3:1<=x
    ·by_cases a4:k=0
     ·subst a4;exact yS0
     ·have a5:¬k<=127:=λh=>a ⟨a1,a2,a3,a4,h⟩
      exact yS1 a4
    ·exact yS0
   ·exact yS0
  ·exact yS0
end
end Go.Proofs.YtmpehclnnjgmcaaGreatDoor
