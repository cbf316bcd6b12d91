/-
  Part 4 of what the proofs of this seat share.
-/
import Derived.Test.YtmpehclnnjgmcaaGreatDoorDe1
import Derived.Test.YtmpehclnnjgmcaaGreatDoorDe3
import Derived.Test.YtmpehclnnjgmcaaGreatDoorDe2
set_option linter.unusedSimpArgs false
set_option linter.unusedVariables false
set_option maxHeartbeats 20000000
set_option maxRecDepth 100000
set_option linter.defProp false
open Go.Proofs.Tryz (prog)
open Go.RowKit (intOf)
open And renaming intro->ep
open Array renaming getElem?_toList->dj
open Bool renaming false_and->cA,not_eq_true'->c8,and_eq_true->da,true_and->eu
open Go renaming World->ap,Value->aA
open Go.Builtin renaming delete_->d8
open Go.Instr renaming buildSlice->ab
open Int renaming toNat_natCast->bx
open List renaming mem_singleton->aa,getElem?_eq_getElem->an,getElem?_map->aq,mem_range->aB,length_append->bb,mem_of_getElem?->bk,getD_eq_getElem?_getD->bL,map_cons->ca,length_singleton->cd,mem_of_mem_take->ch,take_length->cn,length_cons->cq,map_map->cx,nodup_cons->cB,mem_append->cC,getElem?_set->cF,foldl_append->cN,getElem_mem->c9,map_append->db,eraseIdx_cons_succ->dd,mem_append_right->dk,mem_of_mem_drop->dn,mem_append_left->dp,getElem?_range->ds,getD_cons_zero->d5,getD_cons_succ->d6,getElem?_inj->eb,ext_getElem?->ee,length_take->ef,filter_cons->ei,cons_append->ek,length_set->em,length_nil->en,append_nil->eo,mem_cons->eq
open Nat renaming le_trans->bl,add_assoc->bq,zero_add->cm,not_lt_zero->cv,le_refl->cD,mod_lt->dc,mod_one->d7,lt_of_le_of_lt->d9,mod_eq_of_lt->el,mul_comm->ew
open Option renaming getD_some->cj,map_some->ct,isSome_some->dm
namespace Go.Proofs.YtmpehclnnjgmcaaGreatDoor
open Go Go.Sh
noncomputable section
variable (K:K1) (x0 x1 x2 x3 x4 x5 x6 x7 x8 x9 x10 x11 x12 x13 x14 x15 x16 x17 x18 x19 x20 x21 x22 x23 x24 x25 x26 x27 x28 x29 x30 x31 x32 x33 x34 x35 x36 x37 x38 x39:aA) (w:ap)
def adk:Prop:=
 cL 73 (pA #[x0]) w λa w=>
 gV a false x1 w λb w=>
 gd a false (λk=>bC .lss 3 8 0 b w k) w λc w=>
 aw a (.bool true) c w λd w=>
 gV d false x1 w λe w=>
 gd d false (λk=>bC .geq 3 12 60 e w k) w λf w=>
 aw d (.bool true) f w λg w=>
 af g (
 K (.int .u64 ((0:Nat):Int)) w) (
 cL 20 (pA #[x0]) w λh w=>
 cV 3 26 x1 w λi w=>
 bM .mul 26 (cu .u64 8) (.tmp 18) (.int .u64 ((8:Nat):Int)) i w λj w=>
 bT .add 26 16 19 h j w λl w=>
 K l w)
def Wt:=cA2 Tryz.func31 .o adk
noncomputable def Wu:=uD Tryz.f65 (.s .o (.s .o (.x 0 (.s .o (.b (.l [7] 1 130972 .o))) .o)))
abbrev Wv:=aU prog Tryz.f65.results.toList
def EB:KF:=kO 0 (cP (pw Wu 3 7) (Wv K) (Wv K) nX)
def afl:Prop:=EB K (fy 17 0 []) w
def Ww:Prop:=aG [7] 1 (λE=>cP (pw Wu 6 11) E (Wv K) (exB 0 (EB K) nX)) (fy 17 129 [x0,x7]) w
def EC (E1:VP1):Prop:=
 bC .lss 3 7 5 x7 w λa w=>
 af a (
 iA 182 (.pointer (some ⟨0,0,none⟩)) x7 w λb w=>
 lD 3 b w λc w=>
 bT .leq 3 10 13 x0 c w λd w=>
 af d (
 K (.tuple #[x7,(.int .i64 0)]) w) (
 bC .add 3 7 1 x7 w λe w=>
 E1 e w)) (
 afl K w)
def ED (I:VP1) (μ:M1) (h0:I x7 w) (hr:∀x7 w,I x7 w->∀E1,Q1 I μ x7 w E1->EC K x0 x7 w E1):Ww K x0 x7 w:=⟨I,μ,h0,λσ w hI E hE=>cast kR (hr (σ 7) w hI E hE)⟩
def adl:Prop:=
 bC .lss 3 5 1 x0 w λa w=>
 af a (
 K (.tuple #[(.int .i64 0),(.int .i64 1)]) w) (
 Ww K x0 (.int .i64 0) w)
def Wx:=cA1 Tryz.func65 Wu.2 adl
def adm:Prop:=
 cL 124 (pA #[x0,x1]) w λa w=>
 bM .eql 192 (.tmp 11) (.const (.pointer none)) a (.pointer none) w λb w=>
 af b (
 K (.int .i64 5) w) (
 nS a w λc w=>
 fA 195 c 1 w λd w=>
 lD 3 d w λe w=>
 bC .lss 3 16 0 e w λf w=>
 af f (
 K (.int .i64 8) w) (
 nS a w λg w=>
 fA 195 g 3 w λh w=>
 sD 4 h x2 w λw=>
 K (.int .i64 0) w))
def Wy:=cA3 Tryz.func70 .o adm
def adn:Prop:=
 cL 133 (pA #[x0]) w λa w=>
 gV a true x0 w λb w=>
 gC a true 20 (pA #[b]) w λc w=>
 gV a true x1 w λd w=>
 gd a true (λk=>bT .lss 26 9 10 c d w k) w λe w=>
 aw a e (.bool false) w λf w=>
 K f w
def Wz:=cA2 Tryz.func77 .o adn
def ado:Prop:=
 bM .eql 31 (.tmp 3) (.const (.pointer none)) x0 (.pointer none) w λa w=>
 af a (
 K (.int .i64 0) w) (
 nS x0 w λb w=>
 fA 147 b 1 w λc w=>
 lD 3 c w λd w=>
 K d w)
def WA:=cA1 Tryz.func90 .o ado
noncomputable def WB:=uD Tryz.f91 (.s .o (.s .o (.s .o (.x 8 (.s .o (.b (.l [3,13] 6144 8380456 .o))) .o))))
abbrev WC:=aU prog Tryz.f91.results.toList
def EE:KF:=kO 8 (cP (pw WB 4 15) (WC K) (WC K) nX)
def WD:Prop:=EE K (fy 24 8 [x3]) w
def WE:Prop:=aG [3,13] 6144 (λE=>cP (pw WB 7 23) E (WC K) (exB 0 (EE K) nX)) (fy 24 14344 [x3,x11,x12,x13]) w
def EF:Prop:=
 K x3 w
def Ri:WD K x3 w=EF K x3 w:=aI λσ=>kR
def uP (E1:VP2):Prop:=
 bT .lss 3 13 12 x13 x12 w λa w=>
 af a (
 iA 210 x11 x13 w λb w=>
 lD 195 b w λc w=>
 ev prog (Instr.alloc 195 true (.tuple #[])) w λd w=>
 sD 195 d c w λw=>
 fA 195 d 0 w λe w=>
 lD 3 e w λf w=>
 ev prog (ab 50 1 #[(0,f)]) w λg w=>
 aS prog .append #[50,50] 50 #[false,false] (pA #[x3,g]) w λh w=>
 bC .add 3 13 1 x13 w λi w=>
 E1 h i w) (
 WD K x3 w)
def EG (I:VP2) (μ:M2) (h0:I x3 x13 w) (hr:∀x3 x13 w,I x3 x13 w->∀E1,Q2 I μ x3 x13 w E1->uP K x3 x11 x12 x13 w E1):WE K x3 x11 x12 x13 w:=⟨I,μ,h0,λσ w hI E hE=>cast kR (hr (σ 3) (σ 13) w hI E hE)⟩
def adp:Prop:=
 bM .eql 107 (.tmp 6) (.const (.pointer none)) x0 (.pointer none) w λa w=>
 af a (
 K (.slice none 0 0) w) (
 nS x0 w λb w=>
 fA 212 b 1 w λc w=>
 lD 210 c w λd w=>
 lN 210 d w λe w=>
 WE K (.slice none 0 0) d e (.int .i64 0) w)
def WF:=cA1 Tryz.func91 WB.2 adp
noncomputable def Ni:=uD Tryz.f92 (.s .o (.s .o (.s .o (.x 8 (.s .o (.b (.l [3,13] 6144 8380456 (.s .o (.s .o (.x 14344 .o .o)))))) .o))))
abbrev Nj:=aU prog Tryz.f92.results.toList
def uQ:KF:=kO 8 (cP (pw Ni 4 15) (Nj K) (Nj K) nX)
def WG:Prop:=uQ K (fy 24 8 [x3]) w
def WH:Prop:=aG [3,13] 6144 (λE=>cP (pw Ni 7 23) E (Nj K) (exB 0 (uQ K) nX)) (fy 24 14344 [x3,x11,x12,x13]) w
def WI (E1:VP2):KF:=kO 14344 (cP (pw Ni 10 919) (sE2 E1 3 13) (Nj K) (exB 0 (uQ K) nX))
def JD (K:K1) (E1:VP2) (x3 x11 x12 x13:aA) (w:ap):Prop:=WI K E1 (fy 24 14344 [x3,x11,x12,x13]) w
def EH:Prop:=
 K x3 w
def Rj:WG K x3 w=EH K x3 w:=aI λσ=>kR
def oF (E1:VP2):Prop:=
 bT .lss 3 13 12 x13 x12 w λa w=>
 af a (
 iA 210 x11 x13 w λb w=>
 lD 195 b w λc w=>
 ev prog (Instr.alloc 195 true (.tuple #[])) w λd w=>
 sD 195 d c w λw=>
 fA 195 d 1 w λe w=>
 lD 3 e w λf w=>
 bC .lss 3 18 0 f w λg w=>
 af g (
 bC .add 3 20 1 x3 w λh w=>
 JD K E1 h x11 x12 x13 w) (
 JD K E1 x3 x11 x12 x13 w)) (
 WG K x3 w)
def EI (I:VP2) (μ:M2) (h0:I x3 x13 w) (hr:∀x3 x13 w,I x3 x13 w->∀E1,Q2 I μ x3 x13 w E1->oF K x3 x11 x12 x13 w E1):WH K x3 x11 x12 x13 w:=⟨I,μ,h0,λσ w hI E hE=>cast kR (hr (σ 3) (σ 13) w hI E hE)⟩
def kK (E1:VP2):Prop:=
 bC .add 3 13 1 x13 w λa w=>
 E1 x3 a w
def zo (E1:VP2):JD K E1 x3 x11 x12 x13 w=kK x3 x13 w E1:=aI λσ=>kR
def adq:Prop:=
 bM .eql 107 (.tmp 6) (.const (.pointer none)) x0 (.pointer none) w λa w=>
 af a (
 K (.int .i64 0) w) (
 nS x0 w λb w=>
 fA 212 b 1 w λc w=>
 lD 210 c w λd w=>
 lN 210 d w λe w=>
 WH K (.int .i64 0) d e (.int .i64 0) w)
def WJ:=cA1 Tryz.func92 Ni.2 adq
def WK:Prop:=
 bU .rem 26 3 .u64 4294967296 x0 w λa w=>
 bU .mul 26 4 .u64 8 a w λb w=>
 K b w
def Rk:=cA1 Tryz.func110 .o WK
noncomputable def JE:=uD Tryz.f114 (.s .o (.s .o (.s .o (.x 1 (.s .o (.b (.l [24] 8388611 35184355315520 .o))) .o))))
abbrev JF:=aU prog Tryz.f114.results.toList
def zp:KF:=kO 1 (cP (pw JE 4 15) (JF K) (JF K) nX)
def Nk:Prop:=zp K (fy 47 1 [x0]) w
def Nl:Prop:=aG [24] 8388611 (λE=>cP (pw JE 7 23) E (JF K) (exB 0 (zp K) nX)) (fy 47 25165827 [x0,x1,x23,x24]) w
def zq:Prop:=
 bA prog x0 "Err" (pA #[]) w fun a w=>
 K a w
def JG:Nk K x0 w=zq K x0 w:=aI λσ=>kR
def qL (E1:VP1):Prop:=
 bT .lss 3 24 23 x24 x23 w λa w=>
 af a (
 bC .mul 3 29 32 x24 w λb w=>
 bT .add 3 28 30 x1 b w λc w=>
 cL 155 (pA #[c,(.int .u16 ((1:Nat):Int))]) w λd w=>
 eX d 0 w λe w=>
 eX d 1 w λf w=>
 bC .neq 28 35 0 f w λg w=>
 af g (
 K f w) (
 cL 99 (pA #[e,x0]) w λh w=>
 bC .neq 28 41 0 h w λi w=>
 af i (
 K h w) (
 bC .add 3 24 1 x24 w λj w=>
 E1 j w))) (
 Nk K x0 w)
def Cv (I:VP1) (μ:M1) (h0:I x24 w) (hr:∀x24 w,I x24 w->∀E1,Q1 I μ x24 w E1->qL K x0 x1 x23 x24 w E1):Nl K x0 x1 x23 x24 w:=⟨I,μ,h0,λσ w hI E hE=>cast kR (hr (σ 24) w hI E hE)⟩
def WL:Prop:=
 cL 154 (pA #[x0,x1,x2]) w λa w=>
 ev prog (Op.unary .not a) w λb w=>
 af b (
 K (.int .i64 1) w) (
 bA prog x0 "Err" (pA #[]) w fun c w=>
 bC .neq 28 19 0 c w λd w=>
 af d (
 K c w) (
 bC .quo 3 22 32 x2 w λe w=>
 Nl K x0 x1 e (.int .i64 0) w))
def Rl:=cA3 Tryz.func114 JE.2 WL
noncomputable def Cw:=uD Tryz.f115 (.s .o (.s .o (.s .o (.x 128 (.s .o (.b (.l [7,25] 25165830 35184338535040 (.s .o (.s .o (.x 58720390 .o .o)))))) .o))))
abbrev Cy:=aU prog Tryz.f115.results.toList
def qM:KF:=kO 128 (cP (pw Cw 4 15) (Cy K) (Cy K) nX)
def Nm:Prop:=qM K (fy 46 128 [x7]) w
def Nn:Prop:=aG [7,25] 25165830 (λE=>cP (pw Cw 7 23) E (Cy K) (exB 0 (qM K) nX)) (fy 46 58720390 [x1,x2,x7,x23,x24,x25]) w
def Rm (E1:VP2):KF:=kO 58720390 (cP (pw Cw 10 919) (sE2 E1 7 25) (Cy K) (exB 0 (qM K) nX))
def Cz (K:K1) (E1:VP2) (x1 x2 x7 x23 x24 x25:aA) (w:ap):Prop:=Rm K E1 (fy 46 58720390 [x1,x2,x7,x23,x24,x25]) w
def zt:Prop:=
 K x7 w
def JH:Nm K x7 w=zt K x7 w:=aI λσ=>kR
def ja (E1:VP2):Prop:=
 bT .lss 3 25 24 x25 x24 w λa w=>
 af a (
 iA 210 x23 x25 w λb w=>
 lD 195 b w λc w=>
 ev prog (Instr.alloc 195 true (.tuple #[])) w λd w=>
 sD 195 d c w λw=>
 fA 195 d 2 w λe w=>
 lD 3 e w λf w=>
 bT .eql 3 30 31 f x1 w λg w=>
 gd g true (λk=>fA 195 d 1 w k) w λh w=>
 gd g true (λk=>lD 3 h w k) w λi w=>
 gV g true x2 w λj w=>
 gd g true (λk=>bT .eql 3 35 36 i j w k) w λl w=>
 aw g l (.bool false) w λm w=>
 af m (
 fA 195 d 0 w λn w=>
 lD 3 n w λo w=>
 ev prog (ab 50 1 #[(0,o)]) w λp w=>
 aS prog .append #[50,50] 50 #[false,false] (pA #[x7,p]) w λq w=>
 Cz K E1 x1 x2 q x23 x24 x25 w) (
 Cz K E1 x1 x2 x7 x23 x24 x25 w)) (
 Nm K x7 w)
def CA (I:VP2) (μ:M2) (h0:I x7 x25 w) (hr:∀x7 x25 w,I x7 x25 w->∀E1,Q2 I μ x7 x25 w E1->ja K x1 x2 x7 x23 x24 x25 w E1):Nn K x1 x2 x7 x23 x24 x25 w:=⟨I,μ,h0,λσ w hI E hE=>cast kR (hr (σ 7) (σ 25) w hI E hE)⟩
def jb (E1:VP2):Prop:=
 bC .add 3 25 1 x25 w λa w=>
 E1 x7 a w
def nu (E1:VP2):Cz K E1 x1 x2 x7 x23 x24 x25 w=jb x7 x25 w E1:=aI λσ=>kR
def WM:Prop:=
 bM .eql 107 (.tmp 10) (.const (.pointer none)) x0 (.pointer none) w λa w=>
 gV a false x1 w λb w=>
 gd a false (λk=>bC .lss 3 13 0 b w k) w λc w=>
 aw a (.bool true) c w λd w=>
 gV d false x2 w λe w=>
 gd d false (λk=>bC .lss 3 17 0 e w k) w λf w=>
 aw d (.bool true) f w λg w=>
 af g (
 K (.slice none 0 0) w) (
 nS x0 w λh w=>
 fA 212 h 1 w λi w=>
 lD 210 i w λj w=>
 lN 210 j w λl w=>
 Nn K x1 x2 (.slice none 0 0) j l (.int .i64 0) w)
def Ro:=cA3 Tryz.func115 Cw.2 WM
noncomputable def WN:=uD Tryz.f116 (.s .o (.s .o (.s .o (.s .o (.s .o (.s .o (.x 3591 .o .o)))))))
abbrev WO:=aU prog Tryz.f116.results.toList
def Rp:KF:=kO 3591 (cP (pw WN 7 127) (WO K) (WO K) nX)
def mn:Prop:=Rp K (fy 95 3591 [x0,x1,x2,x9,x10,x11]) w
def zu:Prop:=
 bC .neq 28 55 0 x10 w λa w=>
 af a (
 K (.tuple #[(.int .i64 0),x10]) w) (
 nR x9 w.drew λb=>
 fR 195 b 0 w.drew λc=>
 lR 3 c w.drew λd=>
 fR 132 x11 2 w.drew λe=>
 lR 130 e w.drew λf=>
 rd prog (Instr.build 132 #[(0,x2),(1,x1),(2,f)]) w.drew λg=>
 cL 118 (pA #[d,g]) w.drew λh w=>
 xR h 0 w λi=>
 xR h 1 w λj=>
 bC .neq 28 71 0 j w λl w=>
 af l (
 K (.tuple #[(.int .i64 0),j]) w) (
 nS x0 w λm w=>
 fA 212 m 0 w λn w=>
 lD 106 n w λo w=>
 cL 99 (pA #[i,o]) w λp w=>
 bC .neq 28 80 0 p w λq w=>
 af q (
 K (.tuple #[(.int .i64 0),p]) w) (
 nS x9 w λs w=>
 fA 195 s 1 w λt w=>
 sD 3 t x2 w λw=>
 nS x9 w λv w=>
 fA 195 v 2 w λy w=>
 sD 3 y x1 w λw=>
 nS x9 w λz w=>
 fA 195 z 0 w λa0 w=>
 lD 3 a0 w λa1 w=>
 K (.tuple #[a1,(.int .i64 0)]) w)))
def JI:mn K x0 x1 x2 x9 x10 x11 w=zu K x0 x1 x2 x9 x10 x11 w:=aI λσ=>kR
def WP:Prop:=
 bM .eql 107 (.tmp 14) (.const (.pointer none)) x0 (.pointer none) w λa w=>
 af a (
 K (.tuple #[(.int .i64 0),(.int .i64 5)]) w) (
 bC .lss 3 16 0 x1 w λb w=>
 gV b false x1 w λc w=>
 gd b false (λk=>bC .geq 3 19 8 c w k) w λd w=>
 aw b (.bool true) d w λe w=>
 gV e false x2 w λf w=>
 gC e false 135 (pA #[f]) w λg w=>
 gd e false (λk=>bC .eql 3 24 0 g w k) w λh w=>
 aw e (.bool true) h w λi w=>
 af i (
 K (.tuple #[(.int .i64 0),(.int .i64 1)]) w) (
 nS x0 w λj w=>
 fA 212 j 0 w λl w=>
 lD 106 l w λm w=>
 bA prog m "Err" (pA #[]) w fun n w=>
 bC .neq 28 32 0 n w λo w=>
 af o (
 K (.tuple #[(.int .i64 0),n]) w) (
 cL 156 (pA #[x0]) w λp w=>
 eX p 0 w λq w=>
 eX p 1 w λs w=>
 bC .neq 28 40 0 s w λt w=>
 af t (
 K (.tuple #[(.int .i64 0),s]) w) (
 nR x0 w.drew λv=>
 fR 212 v 0 w.drew λy=>
 lR 106 y w.drew λz=>
 nR q w.drew λa0=>
 fR 195 a0 0 w.drew λa1=>
 lR 3 a1 w.drew λa2=>
 (cL 129 (pA #[z,a2]) w.drew λa3 w=>
 xR a3 0 w λa4=>
 xR a3 1 w λa5=>
 ev prog (Instr.alloc 132 true (.tuple #[])) w λa6 w=>
 (bw prog x0 w (λu=>u=v))/\
 (fG 212 v 0 w y)/\
 (lG 106 y w z)/\
 (bw prog q w (λu=>u=a0))/\
 (fG 195 a0 0 w a1)/\
 (lG 3 a1 w a2)/\
 sD 132 a6 a4 w λw=>
 mn K x0 x1 x2 q a5 a6 w)/\
 (ev prog (Instr.alloc 132 true (.tuple #[])) w.drew λa7 w=>
 (bw prog x0 w (λu=>u=v))/\
 (fG 212 v 0 w y)/\
 (lG 106 y w z)/\
 (bw prog q w (λu=>u=a0))/\
 (fG 195 a0 0 w a1)/\
 (lG 3 a1 w a2)/\
 cL 129 (pA #[z,a2]) w λa8 w=>
 xR a8 0 w λa9=>
 xR a8 1 w λb0=>
 sD 132 a7 a9 w λw=>
 mn K x0 x1 x2 q b0 a7 w)))))
def Rq:=cA3 Tryz.func116 WN.2 WP
noncomputable def JJ:=uD Tryz.f120 (.s .o (.s .o (.s .o (.s .o (.x 512 (.s .o (.b (.l [29] 268435971 2305843008676838592 .o))) .o)))))
abbrev JK:=aU prog Tryz.f120.results.toList
def zy:KF:=kO 512 (cP (pw JJ 5 31) (JK K) (JK K) nX)
def No:Prop:=zy K (fy 62 512 [x9]) w
def Np:Prop:=aG [29] 268435971 (λE=>cP (pw JJ 8 47) E (JK K) (exB 0 (zy K) nX)) (fy 62 805306883 [x0,x1,x9,x28,x29]) w
def zC:Prop:=
 K (.tuple #[x9,(.int .i64 0)]) w
def JL:No K x9 w=zC K x9 w:=aI λσ=>kR
def mo (E1:VP1):Prop:=
 bT .lss 3 29 28 x29 x28 w λa w=>
 af a (
 bC .mul 3 33 32 x29 w λb w=>
 bT .add 3 32 34 x1 b w λc w=>
 cL 129 (pA #[x0,c]) w λd w=>
 eX d 0 w λe w=>
 eX d 1 w λf w=>
 ev prog (Instr.alloc 132 true (.tuple #[])) w λg w=>
 sD 132 g e w λw=>
 bC .neq 28 42 0 f w λh w=>
 af h (
 K (.tuple #[(.pointer none),f]) w) (
 nR x9 w.drew λi=>
 fR 212 i 1 w.drew λj=>
 lR 210 j w.drew λl=>
 fR 132 g 0 w.drew λm=>
 lR 3 m w.drew λn=>
 fR 132 g 1 w.drew λo=>
 lR 3 o w.drew λp=>
 rd prog (Instr.build 195 #[(0,c),(1,n),(2,p)]) w.drew λq=>
 ev prog (ab 210 1 #[(0,q)]) w.drew λs w=>
 (bw prog x9 w (λu=>u=i))/\
 (fG 212 i 1 w j)/\
 (lG 210 j w l)/\
 aS prog .append #[210,210] 210 #[false,false] (pA #[l,s]) w λt w=>
 nR x9 w λv=>
 fR 212 v 1 w λy=>
 sD 210 y t w λw=>
 bC .add 3 29 1 x29 w λz w=>
 E1 z w)) (
 No K x9 w)
def CB (I:VP1) (μ:M1) (h0:I x29 w) (hr:∀x29 w,I x29 w->∀E1,Q1 I μ x29 w E1->mo K x0 x1 x9 x28 x29 w E1):Np K x0 x1 x9 x28 x29 w:=⟨I,μ,h0,λσ w hI E hE=>cast kR (hr (σ 29) w hI E hE)⟩
def WQ:Prop:=
 cL 154 (pA #[x0,x1,x2]) w λa w=>
 ev prog (Op.unary .not a) w λb w=>
 af b (
 K (.tuple #[(.pointer none),(.int .i64 1)]) w) (
 bA prog x0 "Err" (pA #[]) w fun c w=>
 bC .neq 28 21 0 c w λd w=>
 af d (
 K (.tuple #[(.pointer none),c]) w) (
 ev prog (Instr.build 212 #[(0,x0)]) w λe w=>
 ev prog (Instr.box 212 e) w λf w=>
 bC .quo 3 27 32 x2 w λg w=>
 Np K x0 x1 f g (.int .i64 0) w))
def Rr:=cA3 Tryz.func120 JJ.2 WQ
noncomputable def JM:=uD Tryz.f124 (.s .o (.s .o (.x 0 (.s .o (.b (.l [13] 4099 8589926448 .o))) .o)))
abbrev JN:=aU prog Tryz.f124.results.toList
def zD:KF:=kO 0 (cP (pw JM 3 7) (JN K) (JN K) nX)
def abE:Prop:=zD K (fy 33 0 []) w
def Nq:Prop:=aG [13] 4099 (λE=>cP (pw JM 6 11) E (JN K) (exB 0 (zD K) nX)) (fy 33 12291 [x0,x1,x12,x13]) w
def qN (E1:VP1):Prop:=
 bT .lss 3 13 12 x13 x12 w λa w=>
 af a (
 nS x0 w λb w=>
 fA 212 b 1 w λc w=>
 lD 210 c w λd w=>
 iA 210 d x13 w λe w=>
 fA 195 e 0 w λf w=>
 lD 3 f w λg w=>
 bT .eql 3 23 24 g x1 w λh w=>
 af h (
 nS x0 w λi w=>
 fA 212 i 1 w λj w=>
 lD 210 j w λl w=>
 iA 210 l x13 w λm w=>
 K m w) (
 bC .add 3 13 1 x13 w λn w=>
 E1 n w)) (
 abE K w)
def CC (I:VP1) (μ:M1) (h0:I x13 w) (hr:∀x13 w,I x13 w->∀E1,Q1 I μ x13 w E1->qN K x0 x1 x12 x13 w E1):Nq K x0 x1 x12 x13 w:=⟨I,μ,h0,λσ w hI E hE=>cast kR (hr (σ 13) w hI E hE)⟩
def WR:Prop:=
 bM .eql 107 (.tmp 6) (.const (.pointer none)) x0 (.pointer none) w λa w=>
 af a (
 K (.pointer none) w) (
 nS x0 w λb w=>
 fA 212 b 1 w λc w=>
 lD 210 c w λd w=>
 lN 210 d w λe w=>
 Nq K x0 x1 e (.int .i64 0) w)
def Rs:=cA2 Tryz.func124 JM.2 WR
noncomputable def uR:=uD Tryz.f127 (.s .o (.s .o (.x 8 (.s .o (.b (.l [3,8] 192 4194088 (.s .o (.s .o (.x 456 (.b (.s .o (.s .o (.b (.l [3,5,12] 448 2093096 .o))))) .o)))))) .o)))
abbrev uS:=aU prog Tryz.f127.results.toList
def mq:KF:=kO 8 (cP (pw uR 3 7) (uS K) (uS K) nX)
def Nr:Prop:=mq K (fy 24 8 [x3]) w
def Ns:Prop:=aG [3,8] 192 (λE=>cP (pw uR 6 11) E (uS K) (exB 0 (mq K) nX)) (fy 24 456 [x3,x6,x7,x8]) w
def qO (E1:VP2):KF:=kO 456 (cP (pw uR 9 459) (sE2 E1 3 8) (uS K) (exB 0 (mq K) nX))
def Nt (K:K1) (E1:VP2) (x3 x6 x7 x8:aA) (w:ap):Prop:=qO K E1 (fy 24 456 [x3,x6,x7,x8]) w
def Nu (K:K1) (E1:VP2) (x3 x5 x6 x7 x8 x12:aA) (w:ap):Prop:=aG [3,5,12] 448 (λE=>cP (pw uR 14 3275) E (uS K) (exB 2 (qO K E1) (exB 1 (qO K E1) (exB 0 (mq K) nX)))) (fy 24 4584 [x3,x5,x6,x7,x8,x12]) w
def zE:Prop:=
 ev prog (Op.unary .xor x3) w λa w=>
 K a w
def JO:Nr K x3 w=zE K x3 w:=aI λσ=>kR
def qP (E1:VP2):Prop:=
 bT .lss 3 8 7 x8 x7 w λa w=>
 af a (
 iA 58 x6 x8 w λb w=>
 lD 26 b w λc w=>
 Nu K E1 x3 c x6 x7 x8 (.int .i64 0) w) (
 Nr K x3 w)
def CD (I:VP2) (μ:M2) (h0:I x3 x8 w) (hr:∀x3 x8 w,I x3 x8 w->∀E1,Q2 I μ x3 x8 w E1->qP K x3 x6 x7 x8 w E1):Ns K x3 x6 x7 x8 w:=⟨I,μ,h0,λσ w hI E hE=>cast kR (hr (σ 3) (σ 8) w hI E hE)⟩
def zF (E1:VP2):Prop:=
 bC .add 3 8 1 x8 w λa w=>
 E1 x3 a w
def JP (E1:VP2):Nt K E1 x3 x6 x7 x8 w=zF x3 x8 w E1:=aI λσ=>kR
def zG (E1:VP2) (E2:VP3):Prop:=
 bC .lss 3 12 8 x12 w λa w=>
 af a (
 cV 26 5 x5 w λb w=>
 cL 174 (pA #[x3,b]) w λc w=>
 bU .shr 26 18 .u64 8 x5 w λd w=>
 bC .add 3 12 1 x12 w λe w=>
 E2 c d e w) (
 Nt K E1 x3 x6 x7 x8 w)
def CE (E1:VP2) (I:VP3) (μ:M3) (h0:I x3 x5 x12 w) (hr:∀x3 x5 x12 w,I x3 x5 x12 w->∀E2,Q3 I μ x3 x5 x12 w E2->zG K x3 x5 x6 x7 x8 x12 w E1 E2):Nu K E1 x3 x5 x6 x7 x8 x12 w:=⟨I,μ,h0,λσ w hI E hE=>cast kR (hr (σ 3) (σ 5) (σ 12) w hI E hE)⟩
def WS:Prop:=
 lN 58 x0 w λa w=>
 Ns K (.int .u32 ((4294967295:Nat):Int)) x0 a (.int .i64 0) w
def Rt:=cA1 Tryz.func127 uR.2 WS
def WT:Prop:=
 bU .shr 27 3 .u64 56 x0 w λa w=>
 bU .eql 27 4 .u64 0 a w λb w=>
 gV b true x0 w λc w=>
 gC b true 20 (pA #[c]) w λd w=>
 gd b true (λk=>bU .neq 26 8 .u64 0 d w k) w λe w=>
 aw b e (.bool false) w λf w=>
 gV f true x0 w λg w=>
 gC f true 132 (pA #[g]) w λh w=>
 gd f true (λk=>bU .neq 130 13 .u16 0 h w k) w λi w=>
 aw f i (.bool false) w λj w=>
 gV j true x0 w λl w=>
 gC j true 60 (pA #[l]) w λm w=>
 gd j true (λk=>bU .neq 5 18 .u8 0 m w k) w λn w=>
 aw j n (.bool false) w λo w=>
 gV o true x0 w λp w=>
 gC o true 60 (pA #[p]) w λq w=>
 gd o true (λk=>bU .leq 5 23 .u8 127 q w k) w λs w=>
 aw o s (.bool false) w λt w=>
 K t w
def Ru:=cA1 Tryz.func133 .o WT
def WU:Prop:=
 cL 124 (pA #[x0,x1]) w λa w=>
 bM .neq 192 (.tmp 9) (.const (.pointer none)) a (.pointer none) w λb w=>
 af b (
 nS a w λc w=>
 fA 195 c 2 w λd w=>
 lD 3 d w λe w=>
 K e w) (
 K (.int .i64 (-1)) w)
def Rv:=cA2 Tryz.func152 .o WU
def WV:Prop:=
 bM .eql 106 (.tmp 8) (.const .nilIface) x0 .nilIface w λa w=>
 gV a false x1 w λb w=>
 gd a false (λk=>bC .lss 3 11 0 b w k) w λc w=>
 aw a (.bool true) c w λd w=>
 gV d false x2 w λe w=>
 gd d false (λk=>bC .lss 3 15 32 e w k) w λf w=>
 aw d (.bool true) f w λg w=>
 af g (
 K (.bool false) w) (
 bA prog x0 "Size" (pA #[]) w fun h w=>
 bU .quo 26 19 .u64 64 h w λi w=>
 cV 3 26 x1 w λj w=>
 bT .gtr 26 22 23 j i w λl w=>
 gV l false x2 w λm w=>
 gd l false (λk=>cV 3 26 m w k) w λn w=>
 gV l false i w λo w=>
 gV l false x1 w λp w=>
 gd l false (λk=>cV 3 26 p w k) w λq w=>
 gd l false (λk=>bT .sub 26 28 30 o q w k) w λs w=>
 gd l false (λk=>bT .gtr 26 27 31 n s w k) w λt w=>
 aw l (.bool true) t w λv w=>
 af v (
 K (.bool false) w) (
 cV 3 26 x1 w λy w=>
 bC .quo 3 36 32 x2 w λz w=>
 cV 3 26 z w λa0 w=>
 bU .mul 26 38 .u64 32 a0 w λa1 w=>
 bT .add 26 35 39 y a1 w λa2 w=>
 bU .leq 26 40 .u64 4096 a2 w λa3 w=>
 K a3 w))
def Rw:=cA3 Tryz.func154 .o WV
noncomputable def uT:=uD Tryz.f156 (.s .o (.x 1 (.s .o (.b (.l [15] 16385 17179836444 .o))) (.x 1 (.s .o (.b (.l [39] 274877906945 2305842459457880556 .o))) .o)))
abbrev qQ:=aU prog Tryz.f156.results.toList
def zH:KF:=kO 1 (cP (pr (pr uT)) (qQ K) (qQ K) nX)
def Nv:Prop:=zH K (fy 69 1 [x0]) w
def Nw:Prop:=aG [15] 16385 (λE=>cP (pw uT 5 5) E (qQ K) (exB 0 (zH K) nX)) (fy 69 49153 [x0,x14,x15]) w
def zI:KF:=kO 1 (cP (pw uT 3 7) (qQ K) (qQ K) nX)
def Nx:Prop:=zI K (fy 69 1 [x0]) w
def Ny:Prop:=aG [39] 274877906945 (λE=>cP (pw uT 6 11) E (qQ K) (exB 2 (zI K) nX)) (fy 69 824633720833 [x0,x38,x39]) w
def zJ:Prop:=
 nS x0 w λa w=>
 fA 212 a 1 w λb w=>
 lD 210 b w λc w=>
 lN 210 c w λd w=>
 Ny K x0 d (.int .i64 0) w
def JQ:Nv K x0 w=zJ K x0 w:=aI λσ=>kR
def ms (E1:VP1):Prop:=
 bT .lss 3 15 14 x15 x14 w λa w=>
 af a (
 nS x0 w λb w=>
 fA 212 b 1 w λc w=>
 lD 210 c w λd w=>
 iA 210 d x15 w λe w=>
 fA 195 e 1 w λf w=>
 lD 3 f w λg w=>
 bC .lss 3 25 0 g w λh w=>
 af h (
 nS x0 w λi w=>
 fA 212 i 1 w λj w=>
 lD 210 j w λl w=>
 iA 210 l x15 w λm w=>
 K (.tuple #[m,(.int .i64 0)]) w) (
 bC .add 3 15 1 x15 w λn w=>
 E1 n w)) (
 Nv K x0 w)
def CF (I:VP1) (μ:M1) (h0:I x15 w) (hr:∀x15 w,I x15 w->∀E1,Q1 I μ x15 w E1->ms K x0 x14 x15 w E1):Nw K x0 x14 x15 w:=⟨I,μ,h0,λσ w hI E hE=>cast kR (hr (σ 15) w hI E hE)⟩
def zK:Prop:=
 nS x0 w λa w=>
 fA 212 a 0 w λb w=>
 lD 106 b w λc w=>
 bA prog c "Err" (pA #[]) w fun d w=>
 bC .neq 28 66 0 d w λe w=>
 af e (
 K (.tuple #[(.pointer none),d]) w) (
 K (.tuple #[(.pointer none),(.int .i64 4)]) w)
def JR:Nx K x0 w=zK K x0 w:=aI λσ=>kR
def qR (E1:VP1):Prop:=
 bT .lss 3 39 38 x39 x38 w λa w=>
 af a (
 nS x0 w λb w=>
 fA 212 b 1 w λc w=>
 lD 210 c w λd w=>
 iA 210 d x39 w λe w=>
 cL 183 (pA #[x0,e]) w λf w=>
 eX f 0 w λg w=>
 eX f 1 w λh w=>
 af h (
 cL 184 (pA #[x0,e,g]) w λi w=>
 K (.tuple #[e,i]) w) (
 bC .add 3 39 1 x39 w λj w=>
 E1 j w)) (
 Nx K x0 w)
def CG (I:VP1) (μ:M1) (h0:I x39 w) (hr:∀x39 w,I x39 w->∀E1,Q1 I μ x39 w E1->qR K x0 x38 x39 w E1):Ny K x0 x38 x39 w:=⟨I,μ,h0,λσ w hI E hE=>cast kR (hr (σ 39) w hI E hE)⟩
def WW:Prop:=
 nS x0 w λa w=>
 fA 212 a 1 w λb w=>
 lD 210 b w λc w=>
 lN 210 c w λd w=>
 Nw K x0 d (.int .i64 0) w
def Rx:=cA1 Tryz.func156 uT.2 WW
noncomputable def WX:=uD Tryz.f183 (.s .o (.s .o (.x 194 .o .o)))
abbrev WY:=aU prog Tryz.f183.results.toList
def Ry:KF:=kO 194 (cP (pw WX 3 7) (WY K) (WY K) nX)
def oG:Prop:=Ry K (fy 55 194 [x1,x6,x7]) w
def zL:Prop:=
 bC .neq 28 34 0 x7 w λa w=>
 af a (
 K (.tuple #[(.slice none 0 0),(.bool false)]) w) (
 lD 134 x6 w λb w=>
 cL 157 (pA #[b]) w λc w=>
 eX c 0 w λd w=>
 eX c 1 w λe w=>
 ev prog (Op.unary .not e) w λf w=>
 af f (
 K (.tuple #[(.slice none 0 0),(.bool false)]) w) (
 nS x1 w λg w=>
 fA 195 g 0 w λh w=>
 lD 3 h w λi w=>
 cL 155 (pA #[i,d]) w λj w=>
 eX j 0 w λl w=>
 eX j 1 w λm w=>
 bC .eql 28 53 0 m w λn w=>
 K (.tuple #[l,n]) w))
def JS:oG K x1 x6 x7 w=zL K x1 x6 x7 w:=aI λσ=>kR
def CH:Prop:=
 nS x1 w λa w=>
 fA 195 a 1 w λb w=>
 lD 3 b w λc w=>
 bC .lss 3 14 0 c w λd w=>
 gV d false x1 w λe w=>
 gd d false (λk=>nS e w k) w λf w=>
 gd d false (λk=>fA 195 f 3 w k) w λg w=>
 gd d false (λk=>lD 4 g w k) w λh w=>
 aw d (.bool true) h w λi w=>
 af i (
 K (.tuple #[(.slice none 0 0),(.bool false)]) w) (
 nR x0 w.drew λj=>
 fR 212 j 0 w.drew λl=>
 lR 106 l w.drew λm=>
 nR x1 w.drew λn=>
 fR 195 n 0 w.drew λo=>
 lR 3 o w.drew λp=>
 (cL 75 (pA #[m,p]) w.drew λq w=>
 xR q 0 w λs=>
 xR q 1 w λt=>
 ev prog (Instr.alloc 134 true (.tuple #[])) w λv w=>
 (bw prog x0 w (λu=>u=j))/\
 (fG 212 j 0 w l)/\
 (lG 106 l w m)/\
 (bw prog x1 w (λu=>u=n))/\
 (fG 195 n 0 w o)/\
 (lG 3 o w p)/\
 sD 134 v s w λw=>
 oG K x1 v t w)/\
 (ev prog (Instr.alloc 134 true (.tuple #[])) w.drew λy w=>
 (bw prog x0 w (λu=>u=j))/\
 (fG 212 j 0 w l)/\
 (lG 106 l w m)/\
 (bw prog x1 w (λu=>u=n))/\
 (fG 195 n 0 w o)/\
 (lG 3 o w p)/\
 cL 75 (pA #[m,p]) w λz w=>
 xR z 0 w λa0=>
 xR z 1 w λa1=>
 sD 134 y a0 w λw=>
 oG K x1 y a1 w))
def qS:=cA2 Tryz.func183 WX.2 CH
def WZ:Prop:=
 nS x0 w λa w=>
 fA 212 a 0 w λb w=>
 lD 106 b w λc w=>
 cL 99 (pA #[x2,c]) w λd w=>
 bC .neq 28 14 0 d w λe w=>
 af e (
 K d w) (
 nS x1 w λf w=>
 fA 195 f 1 w λg w=>
 sD 3 g (.int .i64 (-1)) w λw=>
 nS x1 w λh w=>
 fA 195 h 2 w λi w=>
 sD 3 i (.int .i64 (-1)) w λw=>
 K (.int .i64 0) w)
def Rz:=cA3 Tryz.func184 .o WZ
end
def plL (f:Nat->Int×Int×Bool) (l0:Nat):Nat->List aA
 |0=> []
 |n+1=>plL f l0 n++ [.int .i64 ((l0+32*n:Nat):Int),.int .i64 (f n).1,.int .i64 (f n).2.1,.bool (f n).2.2]
def CI (f:Nat->Int×Int×Bool) (l0:Nat):∀n,(plL f l0 n).length=n*4
 |0=>rfl
 |n+1=>by simp [plL,CI f l0 n];omega
def Nz (f:Nat->Int×Int×Bool) (l0:Nat):∀n k,k<n->(plL f l0 n)[k*4]? =some (.int .i64 ((l0+32*k:Nat):Int))/\(plL f l0 n)[k*4+1]? =some (.int .i64 (f k).1)/\(plL f l0 n)[k*4+2]? =some (.int .i64 (f k).2.1)/\(plL f l0 n)[k*4+3]? =some (.bool (f k).2.2)
 |0,k,h=>absurd h (cv _)
 |n+1,k,h=>by
  have hl:=CI f l0 n;unfold plL;by_cases e:k=n
  ·subst e;refine ⟨?_,?_,?_,?_⟩<;>rw [List.getElem?_append_right oM]<;>simp [hl]
  ·have:=Nz f l0 n k oM;refine ⟨?_,?_,?_,?_⟩<;>rw [List.getElem?_append_left oM]
   ·exact this.1
   ·exact this.2.1
   ·exact this.2.2.1
   ·exact this.2.2.2
def zM {f g:Nat->Int×Int×Bool} {l0:Nat}:∀{n},(∀k,k<n->f k=g k)->plL f l0 n=plL g l0 n
 |0,_=>rfl
 |n+1,h=>by unfold plL;rw [zM (λk hk=>h k oM),h n oM]
def upF {α:Type} (f:Nat->α) (k:Nat) (v:α) (j:Nat):α:=if j=k then v else f j
def cz {α:Type} (f:Nat->α) (k:Nat) (v:α):upF f k v k=v:=if_pos rfl
def dr {α:Type} (f:Nat->α) {k j:Nat} (v:α) (h:j≠k):upF f k v j=f j:=if_neg h
def sR (f:Nat->Int×Int×Bool) (l0:Nat):∀n k,k<n->(∀c,(plL f l0 n).set (k*4+1) (.int .i64 c)=plL (upF f k (c,(f k).2)) l0 n)/\(∀c,(plL f l0 n).set (k*4+2) (.int .i64 c)=plL (upF f k ((f k).1,c,(f k).2.2)) l0 n)/\(∀c,(plL f l0 n).set (k*4+3) (.bool c)=plL (upF f k ((f k).1,(f k).2.1,c)) l0 n)
 |0,k,h=>absurd h (cv _)
 |n+1,k,h=>by
  have hl:=CI f l0 n;unfold plL;by_cases e:k=n
  ·subst e;have hc:∀v,plL (upF f k v) l0 k=plL f l0 k:=λv=>zM (λj hj=>dr f v oM)
   refine ⟨λc=> ?_,λc=> ?_,λc=> ?_⟩<;>rw [List.set_append_right _ _ oM,hc,cz,hl]
   ·rw [show k*4+1-k*4=1 by omega];rfl
   ·rw [show k*4+2-k*4=2 by omega];rfl
   ·rw [show k*4+3-k*4=3 by omega];rfl
  ·obtain ⟨h1,h2,h3⟩:=sR f l0 n k oM;refine ⟨λc=> ?_,λc=> ?_,λc=> ?_⟩<;>rw [List.set_append_left _ _ oM,dr _ _ (λh=>e h.symm)]
   ·rw [h1]
   ·rw [h2]
   ·rw [h3]
def arF (T b o n cp:Nat) (i:Nat):aA:= [Value.iface 31 (.pointer (some ⟨T,0,none⟩)),.slice (some ⟨b,o,none⟩) n cp].getD i undef
structure ArS (w0 w:ap) (Y:Lay) (D:DS) (S b o cp l0 n:Nat) (f:Nat->Int×Int×Bool):Prop where
 L:Lv w0 w Y D
 gl:bB w0
 st:ah w S 212 2 (arF (Y.tb 0) b o n cp)
 pl:SlO w 195 4 (.slice (some ⟨b,o,none⟩) n cp) n (plL f l0 n)
 nS:w0.heap.size<=S/\¬Y.F S/\S≠b
 nb:w0.heap.size<=b/\¬Y.F b
 n0:0<n
 lt:l0+32*n<=D.n
abbrev stV (S:Nat):aA:= .pointer (some ⟨S,0,none⟩)
section
variable {w0 w w':ap} {Y Y':Lay} {D D':DS} {S b o cp l0 n:Nat} {f f':Nat->Int×Int×Bool}
def ArS.ext (h:ArS w0 w Y D S b o cp l0 n f) (e:Ext w w'):ArS w0 w' Y D S b o cp l0 n f:=⟨h.L.ext e,h.gl,h.st.ext e,h.pl.ext e,h.nS,h.nb,h.n0,h.lt⟩
def ArS.step (h:ArS w0 w Y D S b o cp l0 n f) (s:Stp w Y w' Y' D') (gd:aL D') (hn:D'.n=D.n):ArS w0 w' Y' D' S b o cp l0 n f:=by
 have tb:Y'.tb 0=Y.tb 0:=by rw [s.tb]
 have hb:b<w.heap.size:=h.pl.lt rfl;refine ⟨h.L.step s gd,h.gl,?_,h.pl.frm s.frm (λx hx=>by injection hx with hx;subst hx;exact h.nb.2),⟨h.nS.1,λhf=> ?_,h.nS.2.2⟩,⟨h.nb.1,λhf=> ?_⟩,h.n0,by rw [hn];exact h.lt⟩
 ·rw [tb];exact h.st.frm s.frm h.nS.2.1
 ·rcases s.fr S hf with h1|h1
  ·exact h.nS.2.1 h1
  ·have:=h.st.lt;omega
 ·rcases s.fr b hf with h1|h1
  ·exact h.nb.2 h1
  ·omega
def ArS.c0 (h:ArS w0 w Y D S b o cp l0 n f):w.cell? ⟨S,0,none⟩=some (.iface 31 (.pointer (some ⟨Y.tb 0,0,none⟩))):=h.st.cell (i:=0) oM
def ArS.c1 (h:ArS w0 w Y D S b o cp l0 n f):w.cell? ⟨S,1,none⟩=some (.slice (some ⟨b,o,none⟩) n cp):=h.st.cell (i:=1) oM
def ArS.p (h:ArS w0 w Y D S b o cp l0 n f) {k:Nat} (hk:k<n):w.cell? ⟨b,o+k*4,none⟩=some (.int .i64 ((l0+32*k:Nat):Int))/\w.cell? ⟨b,o+k*4+1,none⟩=some (.int .i64 (f k).1)/\w.cell? ⟨b,o+k*4+2,none⟩=some (.int .i64 (f k).2.1)/\w.cell? ⟨b,o+k*4+3,none⟩=some (.bool (f k).2.2):=by
 have hg:=Nz f l0 n k hk;refine ⟨h.pl.cell rfl hg.1,?_,?_,?_⟩
 ·rw [bq];exact h.pl.cell rfl hg.2.1
 ·rw [bq];exact h.pl.cell rfl hg.2.2.1
 ·rw [bq];exact h.pl.cell rfl hg.2.2.2
def ArS.fz (h:ArS w0 w Y D S b o cp l0 n f):∀i,w.frozen? ⟨b,i,none⟩=false:=λi=>h.pl.frz rfl i
def ArS.ltb (h:ArS w0 w Y D S b o cp l0 n f):b<w.heap.size:=h.pl.lt rfl
def ArS.ltS (h:ArS w0 w Y D S b o cp l0 n f):S<w.heap.size:=h.st.lt
def ArS.er (h:ArS w0 w Y D S b o cp l0 n f):∀(w1:ap) (K:K1),Ext w w1->ae prog 28 #[.pointer (some ⟨Y.tb 0,0,none⟩)] w1 K=K (.int .i64 (D.err 0)) w1:=λw1 K e=>by rw [dA (h.L.dv.ext e) 0 oM K]
def ArS.le (h:ArS w0 w Y D S b o cp l0 n f):n<=128/\l0<=4096:=by have:=h.lt;have:=h.L.gd.n;omega
def EJ (h:ArS w0 w Y D S b o cp l0 n f) {k:Nat} (hk:k<n) (K:K1) (hK:∀w',Ext w w'->K (.pointer (some ⟨b,o+k*4,none⟩)) w'):
  ae prog 124 #[stV S,.int .i64 ((l0+32*k:Nat):Int)] w K:=by
 have c:=h.le;have s1:=h.c1;refine Rs _ _ _ _ ?_;unfold WR;refine zS1 s1 ?_;apply CC (I:=λz w'=>∃i:Nat,z= .int .i64 (i:Int)/\i<=k/\Ext w w') (μ:=λz _=>n-(intOf z).toNat)
 ·exact ⟨0,rfl,by omega,xZ⟩
 ·intros;rename_i w1 hI E1 hE;obtain ⟨i,rfl,hi,e1⟩:=hI;have h1:=h.ext e1;have s1:=h1.c1;have a:=h1.p (show i<n by omega);have q0:=a.1;have q1:=a.2.1;have q2:=a.2.2.1;have q3:=a.2.2.2;by_cases hik:i<k
  ·have ne:¬((l0+32*i:Nat):Int)=((l0+32*k:Nat):Int):=oM;unfold qN;refine zS3 s1 q0 ne ?_;apply hE
   ·exact ⟨i+1,by simp,by omega,e1⟩
   ·simp [intOf];omega
  ·have:i=k:=oM;subst this;unfold qN;refine zS2 s1 q0 ?_;exact hK _ e1
def RC (h:ArS w0 w Y D S b o cp l0 n f) {k:Nat} (hk:k<n) (K:K1) (hK:∀w',Ext w w'->K (.int .i64 (f k).2.1) w'):
  ae prog 152 #[stV S,.int .i64 ((l0+32*k:Nat):Int)] w K:=by
 refine Rv _ _ _ _ ?_;unfold WU;refine zS0 ?_;refine EJ h hk _ (λw1 e1=> ?_);have a:=(h.ext e1).p hk;have q0:=a.1;have q1:=a.2.1;have q2:=a.2.2.1;have q3:=a.2.2.2;refine zS1 q2 ?_;exact hK _ e1
def frC (f:Nat->Int×Int×Bool):Nat->Nat
 |0=>0
 |n+1=>frC f n+if (f n).1<0 then 1 else 0
def W1 (f:Nat->Int×Int×Bool):∀n,frC f n<=n
 |0=>cD _
 |n+1=>by have:=W1 f n;unfold frC;split<;>omega
def CJ (h:ArS w0 w Y D S b o cp l0 n f) (K:K1) (hK:∀w',Ext w w'->K (.int .i64 ((frC f n:Nat):Int)) w'):
  ae prog 92 #[stV S] w K:=by
 have c:=h.le;have s1:=h.c1;refine WJ _ _ _ ?_;unfold adq;refine zS1 s1 ?_;apply EI (I:=λx z w'=>∃i:Nat,z= .int .i64 (i:Int)/\i<=n/\x= .int .i64 ((frC f i:Nat):Int)/\Ext w w') (μ:=λ_ z _=>n-(intOf z).toNat)
 ·exact ⟨0,rfl,by omega,rfl,xZ⟩
 ·intros;rename_i w1 hI E1 hE;obtain ⟨i,rfl,hi,rfl,e1⟩:=hI;have h1:=h.ext e1;have hc:=W1 f i;by_cases hin:i<n
  ·have a:=h1.p hin;have q0:=a.1;have q1:=a.2.1;have q2:=a.2.2.1;have q3:=a.2.2.2;have ltb:=h1.ltb;have hs:frC f (i+1)=frC f i+if (f i).1<0 then 1 else 0:=rfl
   generalize (f i).1=c1 at*;by_cases hc1:c1<0
   ·rw [if_pos hc1] at hs;unfold oF;refine zS8 q0 q1 q2 q3 hc1 @zo @kK.eq_1 @kK.eq_1 ?_;apply hE
    ·exact ⟨i+1,by simp,by omega,by rw [hs];simp,xZ⟩
    ·simp [intOf];omega
   ·rw [if_neg hc1] at hs;unfold oF;refine zS8 q0 q1 q2 q3 hc1 @zo @kK.eq_1 @kK.eq_1 ?_;apply hE
    ·exact ⟨i+1,by simp,by omega,by rw [hs];simp,xZ⟩
    ·simp [intOf];omega
  ·have:i=n:=oM;subst this;unfold oF;refine zS2 @Rj @EH.eq_1 ?_;exact hK _ e1
def adr:ElT prog 50 50 3 1 8 (.int .i64 0):=kC
def lnL (p:Nat->Bool) (l0:Nat):Nat->List Int
 |0=> []
 |n+1=>lnL p l0 n++if p n then [((l0+32*n:Nat):Int)] else []
def sS (p:Nat->Bool) (l0:Nat):∀n,(lnL p l0 n).length<=n
 |0=>cD _
 |n+1=>by have:=sS p l0 n;unfold lnL;split<;>simp<;>omega
def CK (h:ArS w0 w Y D S b o cp l0 n f) (K:K1) (hK:∀v w',Ext w w'->bh w.heap.size v->SlO w' 3 1 v (lnL (λ_=>true) l0 n).length (be (lnL (λ_=>true) l0 n))->K v w'):
  ae prog 91 #[stV S] w K:=by
 have t:=h.le;have s1:=h.c1;refine WF _ _ _ ?_;unfold adp;refine zS1 s1 ?_;apply EG (I:=λx z w'=>∃i:Nat,z= .int .i64 (i:Int)/\i<=n/\SlO w' 3 1 x (lnL (λ_=>true) l0 i).length (be (lnL (λ_=>true) l0 i))/\Frm Nob w w'/\bh w.heap.size x) (μ:=λ_ z _=>n-(intOf z).toNat)
 ·exact ⟨0,rfl,by omega,SlO.nil _ _ _,(by repeat (first|exact Frm.refl _ _|with_reducible refine Frm.set ?_ _ (λ_=>rfl)|with_reducible refine Frm.alloc ?_ _|with_reducible refine Frm.drew ?_)),λb hb=>by cases hb⟩
 ·intros;rename_i x3 z w1 hI E1 hE;obtain ⟨i,rfl,hi,hs,hf,c⟩:=hI;have e1:Ext w w1:=hf.to_ext (λ_ _ h=>h);have h1:=h.ext e1;have q:=sS (λ_=>true) l0 i;by_cases hin:i<n
  ·have a:=h1.p hin;have q0:=a.1;have q1:=a.2.1;have q2:=a.2.2.1;have q3:=a.2.2.2;have ltb:=h1.ltb;obtain ⟨pa,pc,rfl,r⟩:=hs.isS';have e:lnL (λ_=>true) l0 (i+1)=lnL (λ_=>true) l0 i++ [((l0+32*i:Nat):Int)]:=rfl;generalize lnL (λ_=>true) l0 i=l at*;unfold uP;refine zS4 q0 q1 q2 q3 ?_;refine bD adr (w0:=w) (hs.ext xZ) (hf.ext xZ) c (m:=1) (news:= [.int .i64 ((l0+32*i:Nat):Int)]) rfl ?_ rfl oM oM oM (λv' w4 g d n4 k s=> ?_)
   ·intro j u hj;obtain ⟨rfl,rfl⟩:=jO hj;exact yS0
   refine zS0 ?_;apply hE
   ·refine ⟨i+1,by simp,by omega,?_,d,n4⟩;rw [e,bb];simpa [be] using g
   ·simp [intOf];omega
  ·have:i=n:=oM;subst this;unfold uP;refine zS2 @Ri @EF.eq_1 ?_;exact hK _ _ e1 c hs
def W2 (h:ArS w0 w Y D S b o cp l0 n f) (t c:Int) (t0:0<=t) (c0:0<=c) (K:K1) (hK:∀v w',Ext w w'->bh w.heap.size v->SlO w' 3 1 v (lnL (λk=>decide ((f k).2.1=t)&&decide ((f k).1=c)) l0 n).length (be (lnL (λk=>decide ((f k).2.1=t)&&decide ((f k).1=c)) l0 n))->K v w'):
  ae prog 115 #[stV S,.int .i64 t,.int .i64 c] w K:=by
 have B:=h.le;have s1:=h.c1;refine Ro _ _ _ _ _ ?_;unfold WM;refine zS1 s1 ?_;apply CA (I:=λx z w'=>∃i:Nat,z= .int .i64 (i:Int)/\i<=n/\SlO w' 3 1 x (lnL (λk=>decide ((f k).2.1=t)&&decide ((f k).1=c)) l0 i).length (be (lnL (λk=>decide ((f k).2.1=t)&&decide ((f k).1=c)) l0 i))/\Frm Nob w w'/\bh w.heap.size x) (μ:=λ_ z _=>n-(intOf z).toNat)
 ·exact ⟨0,rfl,by omega,SlO.nil _ _ _,(by repeat (first|exact Frm.refl _ _|with_reducible refine Frm.set ?_ _ (λ_=>rfl)|with_reducible refine Frm.alloc ?_ _|with_reducible refine Frm.drew ?_)),λb hb=>by cases hb⟩
 ·intros;rename_i x3 z w1 hI E1 hE;obtain ⟨i,rfl,hi,hs,hf,d⟩:=hI;have e1:Ext w w1:=hf.to_ext (λ_ _ h=>h);have h1:=h.ext e1;have s:=sS (λk=>decide ((f k).2.1=t)&&decide ((f k).1=c)) l0 i;by_cases hin:i<n
  ·have a:=h1.p hin;have q0:=a.1;have q1:=a.2.1;have q2:=a.2.2.1;have q3:=a.2.2.2;have ltb:=h1.ltb;obtain ⟨pa,pc,rfl,y⟩:=hs.isS';have e:lnL (λk=>decide ((f k).2.1=t)&&decide ((f k).1=c)) l0 (i+1)=lnL (λk=>decide ((f k).2.1=t)&&decide ((f k).1=c)) l0 i++if (decide ((f i).2.1=t)&&decide ((f i).1=c))=true then [((l0+32*i:Nat):Int)] else []:=rfl
   generalize lnL (λk=>decide ((f k).2.1=t)&&decide ((f k).1=c)) l0 i=l at*;generalize (f i).1=ci at*;generalize (f i).2.1=oi at*;by_cases ho:oi=t
   ·by_cases hc:ci=c
    ·subst ho;subst hc;unfold ja;refine zS4 q0 q1 q2 q3 ?_;refine bD adr (w0:=w) (hs.ext xZ) (hf.ext xZ) d (m:=1) (news:= [.int .i64 ((l0+32*i:Nat):Int)]) rfl ?_ rfl oM oM oM (λv' w4 q g n4 r A=> ?_)
     ·intro j u hj;obtain ⟨rfl,rfl⟩:=jO hj;exact yS0
     refine zS2 @nu @jb.eq_1 ?_;apply hE
     ·refine ⟨i+1,by simp,by omega,?_,g,n4⟩;rw [e];simp only [decide_true,Bool.and_true,if_true,bb];simpa [be] using q
     ·simp [intOf];omega
    ·unfold ja;refine zS8 q0 q1 q2 q3 ho hc @nu @jb.eq_1 ?_;apply hE
     ·refine ⟨i+1,by simp,by omega,?_,hf.ext xZ,d⟩;rw [e,decide_eq_false hc,Bool.and_false,if_neg (by decide),eo];exact hs.ext xZ
     ·simp [intOf];omega
   ·unfold ja;refine zS8 q0 q1 q2 q3 ho @nu @jb.eq_1 @jb.eq_1 ?_;apply hE
    ·refine ⟨i+1,by simp,by omega,?_,hf.ext xZ,d⟩;rw [e,decide_eq_false ho,cA,if_neg (by decide),eo];exact hs.ext xZ
    ·simp [intOf];omega
  ·have:i=n:=oM;subst this;unfold ja;refine zS2 @JH @zt.eq_1 ?_;exact hK _ _ e1 d hs
end
section
variable {D:DS} {l g:Nat} {c o:Int}
def abF (c0:0<=c) (c5:c<5) (o0:0<=o) (o8:o<8) (b:g≠0) (hg:g<65536) (h0:wd D l 0=sealN (hdX c o g)) (a:∀j,j≠0->j<8->wd D l j=0) (at_:∀i:Nat,(i:Int)<perS c->wd D l (offN c i)=sealN (dB g 0 176)):Snd D l c o:=by
 have hh:=adj c0 c5 o0 o8 b hg;refine ⟨by rw [h0];exact hh.1,by rw [h0];exact hh.2.1,by rw [h0];exact hh.2.2.1,λj h2 h8=>a j oM h8,λi hi=> ?_,λi hi=> ?_,λi hi=> ?_⟩
 ·rw [at_ i hi];exact jN hg oM oM
 ·rw [at_ i hi,uH hg oM oM,Jy hg oM oM,qJ hg oM oM];simp [cf,b]
 ·rw [a 1 oM oM,agE];by_cases h:(i:Int)<perS c
  ·rw [at_ i h,qJ hg oM oM];simp
  ·simp [h]
def mt (on:On D) (gd:aL D) (hl:l+32<=D.n) (hg:g<65536):On (D.run 0 (cU l g))/\aL (D.run 0 (cU l g))/\(D.run 0 (cU l g)).n=D.n/\(∀i∈cU l g,okI i)/\wd (D.run 0 (cU l g)) l 0=sealN (hdX (-1) (-1) g):=by
 have hs:=fN (hdX (-1) (-1) g) (qK oM oM oM oM hg);have hn:=gd.n;have h1:=On.stores on [(l*64,sealN (hdX (-1) (-1) g))] (λx hx=>by simp only [aa] at hx;subst hx;simp only;omega);have ok:∀i∈cU l g,okI i:=bE (λx hx=>by simp only [aa] at hx;subst hx;exact ⟨by simp only;omega,hs⟩);refine ⟨h1.1,aL.run 0 oM _ _ gd ok,eV 0 _ D,ok,?_⟩;have e:(D.run 0 (cU l g)).cur=aF [(l*64,sealN (hdX (-1) (-1) g))] D.cur:=h1.2;unfold wd;rw [e];refine cY (λy hy _=> ?_) (.inl ⟨(l*64,sealN (hdX (-1) (-1) g)),by simp,by simp only;omega⟩);simp only [aa] at hy;subst hy;rfl
def EK (on:On D) (gd:aL D) (hl:l+32<=D.n) (c0:0<=c) (c5:c<5) (o0:0<=o) (o8:o<8) (m:g≠0) (hg:g<65536):On (D.run 0 (planI l c o g))/\aL (D.run 0 (planI l c o g))/\(D.run 0 (planI l c o g)).n=D.n/\(∀i∈planI l c o g,okI i)/\Snd (D.run 0 (planI l c o g)) l c o/\wd (D.run 0 (planI l c o g)) l 0=sealN (hdX c o g)/\∀i:Nat,(i:Int)<perS c->wd (D.run 0 (planI l c o g)) l (offN c i)=sealN (dB g 0 176):=by
 have hp:=aM c0 c5;have hn:=gd.n;have hb:=fN (dB g 0 176) (ox hg oM oM);have hd:=fN (hdX c o g) (qK oM c5 oM o8 hg);have pw:∀x∈du l c g,(x.1%8=0/\x.1<D.n*64)/\x.1<18446744073709551616/\x.2<18446744073709551616:=by
  intro x hx;rcases List.mem_append.1 hx with hx|hx
  ·obtain ⟨j,hj,rfl⟩:=List.mem_map.1 hx;have p:=bv c0 c5 (show 0<=(j:Int) by omega) (by rw [aB] at hj;omega);have hw:=aN c0 c5;simp only;omega
  ·obtain ⟨j,hj,rfl⟩:=List.mem_map.1 hx;rw [aB] at hj;simp only;omega
 have b:∀x∈ [(l*64,sealN (hdX c o g))],(x.1%8=0/\x.1<D.n*64)/\x.1<18446744073709551616/\x.2<18446744073709551616:=λx hx=>by
  simp only [aa] at hx;subst hx;simp only;omega
 have ok:∀i∈planI l c o g,okI i:=by
  intro i hi;rcases List.mem_append.1 hi with hi|hi
  ·exact bE (λx hx=>(pw x hx).2) i hi
  ·exact bE (λx hx=>(b x hx).2) i hi
 have h1:=On.stores on (du l c g) (λx hx=>(pw x hx).1);have n1:(D.run 0 (ay (du l c g))).n=D.n:=eV 0 _ D;have h2:=On.stores h1.1 [(l*64,sealN (hdX c o g))] (λx hx=>by rw [n1];exact (b x hx).1);have er:D.run 0 (planI l c o g)=(D.run 0 (ay (du l c g))).run 0 (ay [(l*64,sealN (hdX c o g))]):=by unfold planI;rw [cX]
 have q:=aL.run 0 oM _ _ gd ok;have n3:(D.run 0 (planI l c o g)).n=D.n:=eV 0 _ D;have ec:(D.run 0 (planI l c o g)).cur=aF [(l*64,sealN (hdX c o g))] (aF (du l c g) D.cur):=by rw [er,h2.2,h1.2]
 have k:On (D.run 0 (planI l c o g)):=by rw [er];exact h2.1
 generalize D.run 0 (planI l c o g)=E at*;have w0:wd E l 0=sealN (hdX c o g):=by
  unfold wd;rw [ec];refine cY (λy hy _=> ?_) (.inl ⟨(l*64,sealN (hdX c o g)),by simp,by simp only;omega⟩);simp only [aa] at hy;subst hy;rfl
 have ho:∀(j:Nat) (f:Nat->Nat),j≠0->aF [(l*64,sealN (hdX c o g))] f (l*8+j)=f (l*8+j):=λj f hj=>bu _ _ _ (λy hy=>by simp only [aa] at hy;subst hy;simp only;omega)
 have hA:∀j,∀y∈du l c g,y.1/8=l*8+j->(8<=j/\y.2=sealN (dB g 0 176))\/(j<8/\y.2=0):=by
  intro j y hy a;rcases List.mem_append.1 hy with hy|hy
  ·obtain ⟨i,hi,rfl⟩:=List.mem_map.1 hy;rw [aB] at hi;have p:=bv c0 c5 (show 0<=(i:Int) by omega) oM;left;simp only at a;exact ⟨by omega,rfl⟩
  ·obtain ⟨i,hi,rfl⟩:=List.mem_map.1 hy;rw [aB] at hi;right;simp only at a;exact ⟨by omega,rfl⟩
 have e:∀j,j≠0->j<8->wd E l j=0:=by
  intro j h0 h8;unfold wd;rw [ec,ho j _ h0];refine cY (λy hy a=> ?_) (.inl ⟨(l*64+(j-1+1)*8,0),dk _ (List.mem_map.2 ⟨j-1,List.mem_range.2 oM,rfl⟩),by simp only;omega⟩);rcases hA j y hy a with h|h
  ·omega
  ·exact h.2
 have d:∀i:Nat,(i:Int)<perS c->wd E l (offN c i)=sealN (dB g 0 176):=by
  intro i hi;have bd:=aH c0 c5 hi;unfold wd;rw [ec,ho _ _ oM];refine cY (λy hy a=> ?_) (.inl ⟨_,dp _ (List.mem_map.2 ⟨i,List.mem_range.2 oM,rfl⟩),?_⟩)
  ·rcases hA _ y hy a with h|h
   ·exact h.2
   ·omega
  ·simp only;omega
 exact ⟨k,q,n3,ok,abF c0 c5 o0 o8 m hg w0 e d,w0,d⟩
end
def RD (n:Nat) (b a:Int):Bool:=decide (0<=b)&&(decide (32<=a)&&decide (b+a<=(n:Int)))
section
variable {w0 w w':ap} {Y Y':Lay} {D D':DS} {S b o cp l0 n:Nat} {f f':Nat->Int×Int×Bool}
def EL (h:Dv w Y D) (g:aL D) (c b:Int) (h1: -9223372036854775808<=c) (h2:c<9223372036854775808) (h3: -9223372036854775808<=b) (h4:b<9223372036854775808) (K:K1) (hK:∀w',Ext w w'->K (.bool (RD D.n c b)) w'):
  ae prog 154 #[thV Y,.int .i64 c,.int .i64 b] w K:=by
 have hn:=g.n;have d:∀(w1:ap) (K:K1),Ext w w1->ae prog 105 #[.pointer (some ⟨Y.tb 0,0,none⟩)] w1 K=K (.int .u64 ((D.n*64:Nat):Int)) w1:=λw1 K e=>lU (h.ext e) g 0 oM K
 have hq:D.n*64/64=D.n:=oM;refine Rw _ _ _ _ _ ?_;unfold thV WV;unfold RD at hK;by_cases a0:c<0
 ·rw [decide_eq_false (show ¬0<=c by omega),cA] at hK;refine fV d hq a0 ?_;exact hK _ xZ
 ·rw [decide_eq_true (show 0<=c by omega),eu] at hK;by_cases a1:b<32
  ·rw [decide_eq_false (show ¬32<=b by omega),cA] at hK;refine wQ d hq a0 a1 ?_;exact hK _ xZ
  ·rw [decide_eq_true (show 32<=b by omega),eu] at hK;obtain ⟨a,rfl⟩:∃a:Nat,c=(a:Int):=⟨c.toNat,by omega⟩;obtain ⟨q,rfl⟩:∃q:Nat,b=(q:Int):=⟨b.toNat,by omega⟩;by_cases a2:D.n<a
   ·rw [decide_eq_false (show ¬(a:Int)+(q:Int)<=(D.n:Int) by omega)] at hK;refine eI d hq a0 a1 a2 a2 ?_;exact hK _ xZ
   ·by_cases a3:D.n-a<q
    ·rw [decide_eq_false (show ¬(a:Int)+(q:Int)<=(D.n:Int) by omega)] at hK;refine eI d hq a0 a1 a2 a3 ?_;exact hK _ xZ
    ·rw [decide_eq_true (show (a:Int)+(q:Int)<=(D.n:Int) by omega)] at hK;have a4:a+q/32*32<=4096:=oM;refine fB d hq a0 a1 a2 a3 a4 a4 ?_;exact hK _ xZ
def kM (l g:Nat):(cU l g).length<=3:=by
 have:=aY [(l*64,sealN (hdX (-1) (-1) g))];simpa [cU] using this
def iG (D:DS) (l0:Nat):Nat->DS
 |0=>D
 |k+1=>(iG D l0 k).run 0 (cU (l0+32*k) 1)
def mu (on:On D) (gd:aL D) (hl:l0+32*n<=D.n):∀k,k<=n->On (iG D l0 k)/\aL (iG D l0 k)/\(iG D l0 k).n=D.n/\(iG D l0 k).exe<=D.exe+3*k
 |0,_=>⟨on,gd,rfl,by simp [iG]⟩
 |k+1,hk=>by
  obtain ⟨h1,h2,h3,h4⟩:=mu on gd hl k oM;have c:=mt h1 h2 (l:=l0+32*k) (g:=1) oM oM;refine ⟨c.1,c.2.1,c.2.2.1.trans h3,?_⟩;have:=fJ 0 (cU (l0+32*k) 1) (iG D l0 k);have:=kM (l0+32*k) 1;unfold iG;omega
def RE (h:Lv w0 w Y D) (gl:bB w0) (on:On D) (gd:aL D) (hx:D.exe<1000000000) {q:Nat} (hq:32<=q) (hl:l0+q<=D.n) (K:K1) (hK:∀w' Y',Stp w Y w' Y' (iG D l0 (q/32))->K (.int .i64 0) w'):
  ae prog 114 #[thV Y,.int .i64 (l0:Int),.int .i64 (q:Int)] w K:=by
 have hn:=gd.n;have m:RD D.n (l0:Int) (q:Int)=true:=by simp [RD];omega
 have c:∀(w1:ap) (K:K1),Ext w w1->ae prog 28 #[.pointer (some ⟨Y.tb 0,0,none⟩)] w1 K=K (.int .i64 0) w1:=λw1 K e=>by rw [dA (h.dv.ext e) 0 oM K,on.err]
 obtain ⟨n,j⟩:∃n,q/32=n:=⟨_,rfl⟩;rw [j] at hK;refine Rl _ _ _ _ _ ?_;unfold WL;refine zS0 ?_;refine EL h.dv gd _ _ oM oM oM oM _ (λw1 e1=> ?_);rw [m];unfold thV;refine ij c j ?_;apply Cv (I:=λz w'=>∃(i:Nat) (Y':Lay),z= .int .i64 (i:Int)/\i<=n/\Stp w Y w' Y' (iG D l0 i)) (μ:=λz _=>n-(intOf z).toNat)
 ·exact ⟨0,Y,rfl,by omega,Stp.ext h.dv e1⟩
 ·intros;rename_i w2 hI E1 hE;obtain ⟨i,Y2,rfl,hi,st⟩:=hI;obtain ⟨f,d,n2,x2⟩:=mu on gd (n:=n) (l0:=l0) oM i hi;have tb:Y2.tb 0=Y.tb 0:=by rw [st.tb]
  have o:bB w2:=gl.ext (h.step st d).ex;have c:∀(w1:ap) (K:K1),Ext w2 w1->ae prog 28 #[.pointer (some ⟨Y.tb 0,0,none⟩)] w1 K=K (.int .i64 0) w1:=λw1 K e=>by rw [<-tb,dA (st.dv.ext e) 0 oM K,f.err]
  by_cases hin:i<n
  ·have e1:(l0:Int)+(i:Int)*32=((l0+32*i:Nat):Int):=oM;have cg:=mt f d (l:=l0+32*i) (g:=1) oM oM;have r:=kM (l0+32*i) 1;have p:=fJ 0 (cU (l0+32*i) 1) (iG D l0 i);have k:∀(v:aA) (w3:ap) (K1:K1),SlO w3 220 3 v (cU (l0+32*i) 1).length (inL (cU (l0+32*i) 1))->Ext w2 w3->bh w2.heap.size v->(∀w4 Y4,Stp w2 Y2 w4 Y4 (iG D l0 (i+1))->K1 (.int .i64 0) w4)->ae prog 99 #[v,.iface 31 (.pointer (some ⟨Y.tb 0,0,none⟩))] w3 K1:=by
    intro v w3 K1 hs e nv hk;rw [<-tb];refine yK (st.dv.ext e) d 0 oM _ v hs (λb hb hf=>by have h1:=st.dv.lt hf;have h2:=nv b hb;omega) cg.2.2.2.1 oM _ (λw4 Y4 a=> ?_);have he:((iG D l0 i).run 0 (cU (l0+32*i) 1)).err 0=0:=cg.1.err;rw [he];exact hk w4 Y4 (Stp.pre e (λb hb=>st.dv.lt hb) a)
   unfold qL;refine zS1 e1 ?_;refine Na o (l0+32*i) 1 oM oM oM _ (λv w3 hs e3 nv=> ?_);refine zS0 ?_;refine k v _ _ (hs.ext xZ) (e3.trans xZ) nv (λw4 Y4 a=> ?_);refine zS0 ?_;apply hE
   ·exact ⟨i+1,Y4,by simp,by omega,st.trans a⟩
   ·simp [intOf];omega
  ·have:i=n:=oM;subst this;unfold qL;refine fV c @JG @zq.eq_1 ?_;exact hK _ Y2 st
end
def opF (D:DS) (l0:Nat) (k:Nat):Int×Int×Bool:=(hC (wd D (l0+32*k) 0),hO (wd D (l0+32*k) 0),false)
def aic:ElT prog 210 210 195 4 32 (.agg #[.int .i64 0,.int .i64 0,.int .i64 0,.bool false]):=Iv
def RF {e:Nat->Option (Nat×Nat)} {cells:Array aA} {i off:Nat} {a b c d:aA} {f:List (Nat×aA)} (hp:e i=some (off,4)) (ho:off+4<=cells.size):Instr.fill e cells ((i,.agg #[a,b,c,d])::f)=Instr.fill e ((((cells.setIfInBounds off a).setIfInBounds (off+1) b).setIfInBounds (off+2) c).setIfInBounds (off+3) d) f:=by
 rw [Instr.fill,hp];simp only [lr,List.size_toArray,cq,en];rw [if_neg (by simp;omega)]
 congr 1
def aid (a b c d:aA) (w:ap):(ab 210 1 #[(0,.agg #[a,b,c,d])]).run prog w= .ok (.slice (some ⟨w.heap.size,0,none⟩) 1 1) (w.alloc (.cells #[a,b,c,d] 195)):=
 Go.Sh.run_buildSliceS (z:=(.agg #[.int .i64 0,.int .i64 0,.int .i64 0,.bool false])) (show prog.underlying 210=some (.slice 195) from by kernel_rfl) (show szT prog 195=some 4 from by kernel_rfl) (by kernel_rfl) (by decide) (by decide) (by show Instr.fill _ #[.int .i64 0,.int .i64 0,.int .i64 0,.bool false] [(0,.agg #[a,b,c,d])]=_;rw [RF (off:=0) rfl (by simp)];rfl) w
def agG (a b c d:aA) (w:ap) (k:K1):ev prog (ab 210 1 #[(0,.agg #[a,b,c,d])]) w k=k (.slice (some ⟨w.heap.size,0,none⟩) 1 1) (w.alloc (.cells #[a,b,c,d] 195)):=ad (aid a b c d w) k
def stF (T:Nat) (v:aA) (i:Nat):aA:= [Value.iface 31 (.pointer (some ⟨T,0,none⟩)),v].getD i undef
section
variable {w0 w w':ap} {Y Y':Lay} {D D':DS} {S b o cp l0 n:Nat} {f f':Nat->Int×Int×Bool}
def abG (h:Lv w0 w Y D) (gl:bB w0) (ho:D.off=false) (he:D.err 0=0) {q:Nat} (hq:32<=q) (hl:l0+q<=D.n) (B:q/32=n) (K:K1)
  (hb:(¬∀k,k<n->eO (wd D (l0+32*k) 0)=true)->∀w',Ext w w'->K (.tuple #[.pointer none,.int .i64 11]) w')
  (hK:(∀k,k<n->eO (wd D (l0+32*k) 0)=true)->∀S b o cp w',Ext w w'->w.heap.size<=S->w.heap.size<=b->ArS w0 w' Y D S b o cp l0 n (opF D l0)->K (.tuple #[stV S,.int .i64 0]) w'):
  ae prog 120 #[thV Y,.int .i64 (l0:Int),.int .i64 (q:Int)] w K:=by
 have hn:=h.gd.n;have E:RD D.n (l0:Int) (q:Int)=true:=by simp [RD];omega
 have y:∀(w1:ap) (K:K1),Ext w w1->ae prog 28 #[.pointer (some ⟨Y.tb 0,0,none⟩)] w1 K=K (.int .i64 0) w1:=λw1 K e=>by rw [dA (h.dv.ext e) 0 oM K,he]
 refine Rr _ _ _ _ _ ?_;unfold WQ;refine zS0 ?_;refine EL h.dv h.gd _ _ oM oM oM oM _ (λw1 e1=> ?_);rw [E];unfold thV;refine ij y B ?_;have F:=ah.new w1 [Value.iface 31 (.pointer (some ⟨Y.tb 0,0,none⟩)),.slice none 0 0] 212;apply CB (I:=λz w'=>∃(i:Nat) (v:aA),z= .int .i64 (i:Int)/\i<=n/\Frm Nob w1 w'/\bh w1.heap.size v/\(∀b,v.ownBlock=some b->b≠w1.heap.size)/\ah w' w1.heap.size 212 2 (stF (Y.tb 0) v)/\SlO w' 195 4 v i (plL (opF D l0) l0 i)/\∀k,k<i->eO (wd D (l0+32*k) 0)=true) (μ:=λz _=>n-(intOf z).toNat)
 ·exact ⟨0,.slice none 0 0,rfl,by omega,(by repeat (first|exact Frm.refl _ _|with_reducible refine Frm.set ?_ _ (λ_=>rfl)|with_reducible refine Frm.alloc ?_ _|with_reducible refine Frm.drew ?_)),λb hb=>(by cases hb),λb hb=>(by cases hb),F,SlO.nil _ _ _,λk hk=>absurd hk (cv _)⟩
 ·intros;rename_i w2 hI E1 hE;obtain ⟨i,v,rfl,hi,f2,nv,vS,hS,hs,g⟩:=hI;have e2:Ext w1 w2:=f2.to_ext (λ_ _ h=>h);have h2:=h.ext (e1.trans e2);by_cases hin:i<n
  ·have c:(l0:Int)+(i:Int)*32=((l0+32*i:Nat):Int):=oM;have s:bB w2:=gl.ext h2.ex
   cases hok:eO (wd D (l0+32*i) 0) with
   |false=>
    unfold mo;refine zS1 c ?_;refine Jz (h2.dv.ext xZ) h.gd (s.ext xZ) ho he (l0+32*i) oM hok _ (λw3 e3=> ?_);refine zS0 ?_;exact hb (λhh=>by rw [hh i hin] at hok;cases hok) _ (e1.trans (e2.trans xZ))
   |true=>
    obtain ⟨pa,pc,rfl,J⟩:=hs.isS';have x:plL (opF D l0) l0 (i+1)=plL (opF D l0) l0 i++ [.int .i64 ((l0+32*i:Nat):Int),.int .i64 (hC (wd D (l0+32*i) 0)),.int .i64 (hO (wd D (l0+32*i) 0)),.bool false]:=rfl;unfold mo;refine zS1 c ?_;refine Cq (h2.dv.ext xZ) h.gd (s.ext xZ) ho he (l0+32*i) oM hok _ (λw3 e3=> ?_);have f:Ext w2 w3:=Ext.trans xZ e3;have d:=hS.ext f;have s1:w3.cell? ⟨w1.heap.size,1,none⟩=some (.slice pa i pc):=d.cell (i:=1) oM;have ltS:=d.lt;generalize hC (wd D (l0+32*i) 0)=cc at*;generalize hO (wd D (l0+32*i) 0)=oo at*;generalize gX (wd D (l0+32*i) 0)=gg at*
    (repeat' first|refine am (λ_=> ?_) (λ_=> ?_)|refine ao ?_ ?_|refine zS3 s1 c @agG ?_|exact yS3 s1 c @agG|fail)
    refine bD aic (w0:=w1) (hs.ext (f.trans xZ)) (f2.ext (f.trans xZ)) nv (m:=1) (news:= [.int .i64 ((l0+32*i:Nat):Int),.int .i64 cc,.int .i64 oo,.bool false]) rfl ?_ rfl oM oM oM (λv' w5 l H n5 t G=> ?_)
    ·intro q u hq;rw [cm,lO,aV _ _ _ _ _ (by simp only [RZ])];simpa using hq
    have a:ah w5 w1.heap.size 212 2 (stF (Y.tb 0) (.slice pa i pc)):=(d.ext xZ).frm t (λhb=>vS _ hb rfl);have L:=a.lt;have C:=a.frz;have t1:w5.cell? ⟨w1.heap.size,1,none⟩=some (.slice pa i pc):=a.cell (i:=1) oM;have r:∀b,v'.ownBlock=some b->b≠w1.heap.size:=λb hb e=>by
     rcases G b hb with h5|h5
     ·exact vS b h5 e
     ·simp only [RZ] at h5;omega
    have iv:=bg l;refine zS3 C t1 iv ?_;apply hE
    ·refine ⟨i+1,v',by simp,by omega,H.set _ (λhb=>by simp only at hb;omega),n5,r,?_,?_,λk hk=> ?_⟩
     ·exact (a.set (i:=1) v' oM).congr (λj hj=>by
       rcases j with _|_|j
       ·rfl
       ·rfl
       ·omega)
     ·rw [x];exact l.of_heap (λb hb=>fL _ (r b hb))
     ·by_cases hk2:k<i
      ·exact g k hk2
      ·have:k=i:=oM;subst this;exact hok
    ·simp [intOf];omega
  ·have:i=n:=oM;subst this;have p:0<i:=oM;obtain ⟨b,ob,cap,rfl,_⟩:=hs.isS p;have N:=nv b rfl;have A:=e1.size;unfold mo;refine zS2 @JL @zC.eq_1 ?_;have M:=h.ex.size;refine hK g _ _ _ _ _ (e1.trans e2) A oM ⟨h2,gl,hS,hs,⟨by omega,λhf=> ?_,λhh=>vS b rfl hh.symm⟩,⟨by omega,λhf=> ?_⟩,p,by omega⟩
   ·have:=h.dv.lt hf;omega
   ·have:=h.dv.lt hf;omega
end
end Go.Proofs.YtmpehclnnjgmcaaGreatDoor
namespace Go.Proofs.YtmpehclnnjgmcaaGreatDoor
def wB (W:Nat->Nat) (i:Nat):Nat:=W (i/8)/2^(8*(i%8))%256
end Go.Proofs.YtmpehclnnjgmcaaGreatDoor
namespace Go.Proofs.YtmpehclnnjgmcaaGreatDoor
open Go Go.Sh
def abH (x m:Nat) (hm:m<8):(x%2^(8*m))|||(x/2^(8*m)%256*2^(8*m))=x%2^(8*(m+1)):=by
 have h1:x%2^(8*m)<2^(8*m):=dc _ (Nat.pow_pos oM);have h2:(x%2^(8*m))|||(x/2^(8*m)%256*2^(8*m))=2^(8*m)*(x/2^(8*m)%256)+x%2^(8*m):=by
  rw [ew (x/2^(8*m)%256),Nat.or_comm,<-Nat.two_pow_add_eq_or_of_lt h1]
 rw [h2,show 8*(m+1)=8*m+8 by omega,Nat.pow_add,Nat.mod_mul,show 2^8=256 from rfl];omega
section
variable {w w':ap} {Y:Lay} {D D':DS}
def W3 {b N cw hb ho hc:Nat} {F:Nat->Nat} (hC:ah w b 26 N (λi=>u64 (F i))) (f:hb≠b) (ws:List (Nat×Nat)) (l:∀j x,ws[j]? =some x->w.cell? ⟨hb,ho+j*2,none⟩=some (.int .u64 (x.1:Int))/\w.cell? ⟨hb,ho+j*2+1,none⟩=some (.int .u64 (x.2:Int))) (m:∀x∈ws,x.1<8*N) (hN:N<100000) (hl:ws.length<1099511627776) (K:K1)
  (hK:∀w',ah w' b 26 N (λi=>u64 (aF ws F i))->Frm (λx=>x=b) w w'->K (.tuple #[]) w'):
  ae prog 150 #[.slice (some ⟨b,0,none⟩) N cw,.slice (some ⟨hb,ho,none⟩) ws.length hc] w K:=by
 refine yf _ _ _ _ ?_;unfold IN;refine zS0 ?_;apply og (I:=λx8 w'=>∃j:Nat,x8= .int .i64 (j:Int)/\j<=ws.length/\ah w' b 26 N (λi=>u64 (aF (ws.take j) F i))/\Frm (λx=>x=b) w w') (μ:=λx8 _=>ws.length-(intOf x8).toNat)
 ·exact ⟨0,rfl,by omega,by simpa [aF] using hC,Frm.refl _ _⟩
 ·intros;rename_i w1 hI E1 hE;obtain ⟨j,rfl,hj,a,hf⟩:=hI;by_cases hjk:j<ws.length
  ·obtain ⟨x,hx⟩:∃x,ws[j]? =some x:=⟨_,an hjk⟩;have c:=l j x hx;have n:=m x (bk hx);have d:=aD c.1;have c1:=(hf.cell _ _ d f).trans c.1;have c2:=(hf.cell _ _ d f).trans c.2;have hz:=a.frz;have hi:x.1/8<N:=oM;have c3:=a.cell hi;have k:=(a.set (u64 x.2) hi).alloc;have lb:=a.lt;have h:((x.1:Int)/8)=((x.1/8:Nat):Int):=oM;have g:∀i,u64 (aF (ws.take (j+1)) F i)=if i=x.1/8 then u64 x.2 else u64 (aF (ws.take j) F i):=λi=>by
    rw [cM hx,rI];simp only;by_cases e:i=x.1/8
    ·rw [if_pos e,if_pos e]
    ·rw [if_neg e,if_neg e]
   obtain ⟨xo,xv⟩:=x;simp only at c1 c2 n hi h k g c3;unfold lQ;refine zS6 c1 c2 c3 hz h @bx ?_;apply hE
   ·refine ⟨j+1,by simp,by omega,?_,?_⟩
    ·exact (((a.set (u64 xv) hi).congr (λi _=>(g i).symm)).alloc _)
    ·exact (hf.set _ (λ_=>rfl)).alloc _
   ·simp [intOf];omega
  ·have:j=ws.length:=oM;subst this;rw [cn] at a;unfold lQ;refine zS0 ?_;exact hK _ a hf
def abI (h:Dv w Y D) (g:aL D) (hx:D.exe<1000000000) (K:K1) (hK:∀(dl:List Nat) v w',Ext w w'->bh w.heap.size v->SlO w' 3 1 v dl.length (be (dl.map λ(x:Nat)=>(x:Int)))->(∀x∈dl,x<D.n/\0<(D.hist x).length)->dl.length<=D.n->K v w'):
  ae prog 149 #[.pointer (some ⟨Y.d,0,none⟩)] w K:=by
 have hn:=g.n;refine PX _ _ _ ?_;unfold UE;refine zS1 h.R ?_;apply BM (I:=λx z w'=>∃(j:Nat) (dl:List Nat),z= .int .i64 (j:Int)/\j<=D.n/\SlO w' 3 1 x dl.length (be (dl.map λ(x:Nat)=>(x:Int)))/\Frm Nob w w'/\bh w.heap.size x/\(∀x∈dl,x<D.n/\0<(D.hist x).length)/\dl.length<=j) (μ:=λ_ z _=>D.n-(intOf z).toNat)
 ·exact ⟨0,[],rfl,by omega,SlO.nil _ _ _,Frm.refl _ _,λb hb=>(by cases hb),λx hx=>(by cases hx),by simp⟩
 ·intros;rename_i x z w1 hI E1 hE;obtain ⟨j,dl,rfl,hj,hs,hf,a,c,e⟩:=hI;have e1:Ext w w1:=hf.to_ext (λ_ _ h=>h);have h1:=h.ext e1;by_cases hjn:j<D.n
  ·have hS:=h1.hs j hjn;have o:=g.cnt j hjn;have c1:=h1.c_hist j hjn;have q:=h1.R;have s:=h1.li.lt;obtain ⟨va,vc,hv,p⟩:=hS.isS';rw [hv] at c1;obtain ⟨pa,pc,rfl,r⟩:=hs.isS';by_cases h0:0<(D.hist j).length
   ·unfold lP;refine zS4 h1.R c1 hv @bx ?_;refine bD kC (w0:=w) (hs.ext xZ) (hf.ext xZ) a (m:=1) (news:= [.int .i64 (j:Int)]) rfl ?_ rfl oM oM oM (λv' w4 l k n4 _ _=> ?_)
    ·intro i u hi;obtain ⟨rfl,rfl⟩:=jO hi;exact yS0
    refine zS2 @ud @qi.eq_1 ?_;apply hE
    ·refine ⟨j+1,dl++ [j],by simp,by omega,?_,k,n4,λx hx=> ?_,by simp;omega⟩
     ·rw [bb,db,be,db];exact l
     ·rcases List.mem_append.1 hx with hx|hx
      ·exact c x hx
      ·simp only [aa] at hx;subst hx;exact ⟨hjn,h0⟩
    ·simp [intOf];omega
   ·have f:(D.hist j).length=0:=oM;rw [f] at c1 hv;unfold lP;refine zS6 h1.R c1 hv @bx @ud @qi.eq_1 ?_;apply hE
    ·exact ⟨j+1,dl,by simp,by omega,hs,hf,a,c,by omega⟩
    ·simp [intOf];omega
  ·have:j=D.n:=oM;subst this;unfold lP;refine zS2 @IM @ye.eq_1 ?_;exact hK dl _ _ e1 a hs c e
def mI (D:DS) (F:Nat->Nat):Prop:=∀j,j<8*D.n->F j=D.pers j\/∃x∈D.hist (j/8),x.1/8=j/\F j=x.2
def mI.app {F:Nat->Nat} (h:mI D F) (g:aL D) {n:Nat} (hn:n<D.n) (k:Nat):mI D (aF ((D.hist n).take k) F):=by
 intro j hj;have key:∀(ws:List (Nat×Nat)),(∀x∈ws,x∈D.hist n)->∀F,mI D F->mI D (aF ws F):=by
  intro ws
  induction ws with
  |nil=>intro _ F hF;exact hF
  |cons x ws ih=>
   intro hm F hF;rw [bR];refine ih (λy hy=>hm y (by simp [hy])) _ (λi hi=> ?_);have a:=hm x (by simp);have b:=g.hist n hn x.1 x.2 a;by_cases e:i=x.1/8
   ·rw [if_pos e];right;refine ⟨x,?_,e.symm,rfl⟩;rw [show i/8=n by omega];exact a
   ·rw [if_neg e];exact hF i hi
 exact key _ (λx hx=>ch hx) F h j hj
def mI.lt {F:Nat->Nat} (h:mI D F) (g:aL D) (j:Nat) (hj:j<8*D.n):F j<18446744073709551616:=by
 rcases h j hj with h1|⟨x,hx,_,h2⟩
 ·rw [h1];exact g.pers j hj
 ·rw [h2];exact (g.hist (j/8) oM x.1 x.2 hx).2.2
def RG {b cw N:Nat} {F:Nat->Nat} (hC:ah w b 26 N (λi=>u64 (F i))) (hF:∀i,i<N->F i<18446744073709551616) (h0:0<N) (hN:N<=40000) (K:K1)
  (hK:∀b' w',Ext w w'->w.heap.size<=b'->ah w' b' 5 (8*N) (λi=> .int .u8 ((wB F i:Nat):Int))->K (.slice (some ⟨b',0,none⟩) (8*N) (8*N)) w'):
  ae prog 93 #[.slice (some ⟨b,0,none⟩) N cw] w K:=by
 refine Ut _ _ _ ?_;unfold ac7;have f1:((N:Int)*8)=((8*N:Nat):Int):=oM;refine zS1 f1 ?_;have d:=gS w (.int .u8 ((0:Nat):Int)) (8*N) 5;have e0:Ext w (w.alloc (.cells (n9 (.int .u8 ((0:Nat):Int)) (8*N)) 5)):=Ext.alloc_self _ _;have h:=hC.lt;apply Ei (I:=λz w'=>∃j:Nat,z= .int .i64 (j:Int)/\j<=8*N/\Ext w w'/\∃f:Nat->aA,ah w' w.heap.size 5 (8*N) f/\∀i,i<j->f i= .int .u8 ((wB F i:Nat):Int)) (μ:=λz _=>8*N-(intOf z).toNat)
 ·exact ⟨0,rfl,by omega,xZ,_,by simpa using d,λi hi=>by omega⟩
 ·intros;rename_i w1 hI E1 hE;obtain ⟨j,rfl,hj,e1,f,hc,a⟩:=hI;by_cases hjn:j<8*N
  ·have hq:j/8<N:=oM;have f2:((j:Int)/8)=((j/8:Nat):Int):=oM;have f3:((j:Int)%8)=((j%8:Nat):Int):=oM;have f4:(((j%8:Nat):Int)*8)=((8*(j%8):Nat):Int):=oM;have c1:=e1.cell_some (hC.cell hq);have g:=hF _ hq;have hw:wB F j=F (j/8)/2^(8*(j%8))%256:=rfl;have l:F (j/8)/2^(8*(j%8))<18446744073709551616:=d9 (Nat.div_le_self _ _) g;have c:=λv=>hc.set v hjn
   have c2:=hc.cell hjn;have hz:=hc.frz;have k:=hc.lt;generalize F (j/8)=X at*;have h8:8*(j%8)<64:=oM;generalize 8*(j%8)=sh at*;generalize hy:X/2^sh=y at*;unfold t6;refine zS8 f2 f3 f4 c1 c2 hz hy @bx ?_;apply hE
   ·refine ⟨j+1,by simp,by omega,xZ,_,c _,λi hi=> ?_⟩;by_cases e:i=j
    ·subst e;simp only [if_true];rw [hw]
    ·rw [if_neg e];exact a i oM
   ·simp [intOf];omega
  ·have:j=8*N:=oM;subst this;unfold t6;refine zS2 @PK @Eh.eq_1 ?_;exact hK _ _ e1 (cD _) (hc.congr (λi hi=>a i hi))
def jP (F:Nat->Nat) {n i:Nat} (hi:i<n):((List.range n).map F).getD i 0=F i:=by
 rw [bL,aq,ds hi];rfl
def abJ (h:Dv w Y D) (g:aL D) (hx:D.exe<1000000000) {m:Nat} {xu:aA} {us:List Nat} (t:RdS m w xu (u8L us)) (W:∀x∈us,x<256) (a9:us.length<=1000) (K:K1)
  (hK:∀F b w',Ext w w'->mI D F->w.heap.size<=b->ah w' b 5 (8*(8*D.n)) (λi=> .int .u8 ((wB F i:Nat):Int))->K (.slice (some ⟨b,0,none⟩) (8*(8*D.n)) (8*(8*D.n))) w'):
  ae prog 104 #[.pointer (some ⟨Y.d,0,none⟩),xu] w K:=by
 have hn:=g.n;have b2:=g.n0;obtain ⟨ua,uc,rfl,_⟩:=id t;rw [show (u8L us).length=us.length by simp] at t ⊢;have r:((List.range (8*D.n)).map D.pers).length=8*D.n:=by simp
 have G:=h.dev.lt;have V:=h.pe.lt;refine PO _ _ _ _ ?_;unfold Ux;refine zS1 h.R ?_;have L:=qH (w:=w) ((List.range (8*D.n)).map D.pers) Y.pb 0 Y.pc (λj u hj=>by
  rw [cm];rw [aq,aq] at hj;have A:j<8*D.n:=by
   by_cases e:j<8*D.n
   ·exact e
   ·rw [List.getElem?_eq_none (by simp;omega)] at hj;cases hj
  rw [ds A] at hj;simp only [ct,Option.some.injEq] at hj;subst hj;exact h.c_pers j A) V (by rw [r];omega) (by rw [r];omega)
 rw [r] at L;refine L _ (λb cb w1 e1 hC hb b4=> ?_);have M:ah w1 b 26 (8*D.n) (λi=>u64 (D.pers i)):=hC.congr (λi hi=>by rw [jP D.pers hi]);have B:∀(F:Nat->Nat) w2,Ext w w2->mI D F->ah w2 b 26 (8*D.n) (λi=>u64 (F i))->sG K (.slice (some ⟨b,0,none⟩) (8*D.n) cb) w2:=by
  intro F w2 e2 hF T;rw [IJ];unfold xV;refine RG T (λi hi=>hF.lt g i hi) oM oM _ (λb' w3 e3 c f=> ?_);exact hK F b' w3 (e2.trans e3) hF (bl e2.size c) f
 have J:mI D D.pers:=λj hj=> .inl rfl
 by_cases h0:us.length=0
 ·refine zS1 h0 ?_;exact B D.pers w1 e1 J M
 ·refine zS0 ?_;refine abI (h.ext e1) g hx _ (λdl v w2 e2 O C G b0=> ?_);obtain ⟨pa,pc,rfl,b3⟩:=C.isS';refine zS0 ?_;apply BG (I:=λz w'=>∃(j:Nat) (F:Nat->Nat),z= .int .i64 (j:Int)/\j<=dl.length/\Ext w w'/\mI D F/\ah w' b 26 (8*D.n) (λi=>u64 (F i))/\SlO w' 3 1 (.slice pa dl.length pc) dl.length (be (dl.map λ(x:Nat)=>(x:Int)))) (μ:=λz _=>dl.length-(intOf z).toNat)
  ·exact ⟨0,D.pers,rfl,by omega,e1.trans e2,J,M.ext e2,C⟩
  ·intros;rename_i w3 hI E1 hE;obtain ⟨j,F,rfl,hj,e3,hF,f,k⟩:=hI;by_cases hjl:j<dl.length
   ·have a:=G dl[j] (c9 hjl);have S:=k.isS oM;obtain ⟨sb,so,sc,l,_⟩:=S;injection l with l _ _;subst l;have c1:=k.cell rfl (i:=j) (u:= .int .i64 ((dl[j]:Nat):Int)) (by simp [hjl]);generalize dl[j]=n at a c1;have q:j%us.length<us.length:=dc _ oM;have Z:=(t.ext e3).get (Cl q);obtain ⟨ub,uo,b6,s,c2⟩:=Z;injection s with s _ _;subst s;have U:=W us[j%us.length] (c9 q);generalize us[j%us.length]=x at c2 U;have hS:=h.hs n a.1;have a3:=g.cnt n a.1;have h3:=h.ext e3;have p:=h3.hs n a.1;have X:=p.isS a.2;obtain ⟨c,ho,o,hv,a4⟩:=X;have c3:=h3.c_hist n a.1;rw [hv] at c3;have b1:c<w.heap.size:=hS.lt (by rw [hv];rfl);have b7:=h3.li.lt;have a6:=h3.dev.lt;have f1:((j:Int)%(us.length:Int))=((j%us.length:Nat):Int):=oM;have f2:(((D.hist n).length:Int)+1)=(((D.hist n).length+1:Nat):Int):=oM;have f3:((x:Int)%(((D.hist n).length+1:Nat):Int))=((x%((D.hist n).length+1):Nat):Int):=oM;have a8:x%((D.hist n).length+1)<=(D.hist n).length:=by have:=dc x (show 0<(D.hist n).length+1 by omega);omega
    generalize x%((D.hist n).length+1)=kk at*;have N:((D.hist n).take kk).length=kk:=by rw [ef];omega
    have r1:=λw k'=>ad (P:=prog) (fU cR c ho (D.hist n).length o .i64 kk w oM) k'
    have H:=W3 (w:=w3) (cw:=cb) (hc:=o) f (by omega:c≠b) ((D.hist n).take kk) (λi y hy=>by
     have b5:=bk hy;have Q:(D.hist n)[i]? =some y:=by
      rw [List.getElem?_take] at hy;split at hy
      ·exact hy
      ·cases hy
     have hg:=jI _ _ _ Q;have a1:=p.cell hv hg.1;have a2:=p.cell hv hg.2;rw [<-bq] at a2;exact ⟨a1,a2⟩) (λy hy=>by have:=g.hist n a.1 y.1 y.2 (ch hy);omega) oM oM
    rw [N] at H;have a5:=aD c1;have a7:=aD c2;unfold qg;refine mG c1 h3.R hv f1 c2 f2 f3 r1 @bx @bx @bx ?_;refine H _ (λw4 a0 E=> ?_);have e4:Ext w w4:=Ext.frm e3 E (λy hy=>by subst hy;omega);refine zS0 ?_;apply hE
    ·refine ⟨j+1,_,by simp,by omega,e4,hF.app g a.1 kk,a0,k.frm E (λy hy e=> ?_)⟩;have h5:=O y hy;have h6:=hC.lt;omega
    ·simp [intOf];omega
   ·have:j=dl.length:=oM;subst this;unfold qg;refine zS0 ?_;exact B F _ e3 hF f
def gBW (F:Nat->Nat) (j q:Nat):Nat:=if q<j/8 then F q else if q=j/8 then F q%2^(8*(j%8)) else 0
def abK (F:Nat->Nat) (j:Nat) (hF:F (j/8)<18446744073709551616) (q:Nat):gBW F (j+1) q=if q=j/8 then gBW F j (j/8)|||(wB F j*2^(8*(j%8))) else gBW F j q:=by
 have hb:=abH (F (j/8)) (j%8) oM;by_cases e:q=j/8
 ·subst e;rw [if_pos rfl];have h1:gBW F j (j/8)=F (j/8)%2^(8*(j%8)):=by unfold gBW;rw [if_neg oM,if_pos rfl]
  have h2:wB F j=F (j/8)/2^(8*(j%8))%256:=rfl;rw [h1,h2,hb];unfold gBW;by_cases h7:j%8=7
  ·rw [if_pos oM,h7];exact (el hF).symm
  ·rw [if_neg oM,if_pos oM,show (j+1)%8=j%8+1 by omega]
 ·rw [if_neg e];unfold gBW;by_cases h1:q<j/8
  ·rw [if_pos h1,if_pos oM]
  ·rw [if_neg h1,if_neg e];by_cases h7:j%8=7
   ·rw [if_neg oM];by_cases h2:q=(j+1)/8
    ·rw [if_pos h2,show (j+1)%8=0 by omega];simp [d7]
    ·rw [if_neg h2]
   ·rw [if_neg oM,if_neg oM]
def afm {b n:Nat} {F:Nat->Nat} (hC:ah w b 5 (8*(8*n)) (λi=> .int .u8 ((wB F i:Nat):Int))) (hF:∀i,i<8*n->F i<18446744073709551616) (h0:0<n) (hn:n<=4096) (K:K1)
  (hK:∀w' Y,Ext w w'->Dv w' Y (DS.init n ((List.range (8*n)).map F))->(∀x,Y.F x->w.heap.size<=x)->(Y.dt=Y.tb/\∀i,Y.ids i=i)->K (.tuple #[.pointer (some ⟨Y.d,0,none⟩),.int .i64 0]) w'):
  ae prog 103 #[.slice (some ⟨b,0,none⟩) (8*(8*n)) (8*(8*n))] w K:=by
 have f1:(((8*(8*n):Nat):Int)%64)=0:=oM;have f2:(((8*(8*n):Nat):Int)/64)=(n:Int):=oM;have f3:(((8*(8*n):Nat):Int)/8)=((8*n:Nat):Int):=oM;refine PN _ _ _ ?_;unfold Uw;refine zS3 f1 f2 f3 ?_;have m:=gS w (.int .u64 ((0:Nat):Int)) (8*n) 26;have s:=hC.lt;have ea:Ext w (w.alloc (.cells (n9 (.int .u64 ((0:Nat):Int)) (8*n)) 26)):=Ext.alloc_self _ _;apply BF (I:=λz w'=>∃j:Nat,z= .int .i64 (j:Int)/\j<=8*(8*n)/\Ext w w'/\ah w' w.heap.size 26 (8*n) (λq=>u64 (gBW F j q))) (μ:=λz _=>8*(8*n)-(intOf z).toNat)
 ·refine ⟨0,rfl,by omega,xZ,?_⟩;have:ah (w.alloc (.cells (n9 (.int .u64 ((0:Nat):Int)) (8*n)) 26)) w.heap.size 26 (8*n) (λq=>u64 (gBW F 0 q)):=m.congr (λi hi=>by
   show (#[Value.int .u64 ((0:Nat):Int)])[i%1]! =_;have:gBW F 0 i=0:=by
    unfold gBW;rw [if_neg oM];by_cases e:i=0/8
    ·rw [if_pos e];simp [d7]
    ·rw [if_neg e]
   rw [this,d7];rfl)
  simpa using this
 ·intros;rename_i w1 hI E1 hE;obtain ⟨j,rfl,hj,e1,hc⟩:=hI;by_cases hjn:j<8*(8*n)
  ·have hq:j/8<8*n:=oM;have g2:((j:Int)/8)=((j/8:Nat):Int):=oM;have g3:((j:Int)%8)=((j%8:Nat):Int):=oM;have g4:(((j%8:Nat):Int)*8)=((8*(j%8):Nat):Int):=oM;have c1:=e1.cell_some (hC.cell hjn);have a:=hF _ hq;have p:=abK F j a;have c2:=hc.cell hq;have f:=λv=>hc.set v hq
   have hz:=hc.frz;have u:=hc.lt;have t:wB F j<256:=dc _ oM;have h8:8*(j%8)<=56:=oM;have k:2^(8*(j%8))<=2^56:=Nat.pow_le_pow_right oM h8;have c:wB F j*2^(8*(j%8))<18446744073709551616:=by
    have:wB F j*2^(8*(j%8))<=255*2^56:=Nat.mul_le_mul oM k;omega
   have o:wB F j*2^(8*(j%8))%18446744073709551616=wB F j*2^(8*(j%8)):=el c;have l:gBW F j (j/8)<18446744073709551616:=by
    unfold gBW;rw [if_neg oM,if_pos rfl];exact d9 (Nat.mod_le _ _) a
   have y:=oq l c;have A:8*(j%8)<64:=oM;generalize hB:wB F j=B at*;generalize 8*(j%8)=sh at*;generalize gBW F j (j/8)=G at*;unfold qf;refine zS8 g2 g3 g4 c1 c2 hz o @bx ?_;apply hE
   ·refine ⟨j+1,by simp,by omega,xZ,(f _).congr (λq hq=> ?_)⟩;rw [p q];by_cases e:q=j/8
    ·rw [if_pos e,if_pos e]
    ·rw [if_neg e,if_neg e]
   ·simp [intOf];omega
  ·have:j=8*(8*n):=oM;subst this;have r:ah w1 w.heap.size 26 (8*n) (λi=>u64 (((List.range (8*n)).map F).getD i 0)):=hc.congr (λi hi=>by
    rw [jP F hi];have:gBW F (8*(8*n)) i=F i:=by unfold gBW;rw [if_pos oM]
    rw [this])
   unfold qf;refine zS2 @IG @xT.eq_1 ?_;refine agB _ n w.heap.size h0 hn (by simp) r _ (λw2 Y e2 hd hf g=> ?_);refine hK w2 Y (e1.trans e2) hd (λx hx=> ?_) g;rcases hf x hx with h|h
   ·omega
   ·have:=e1.size;omega
def NA (h:Dv w Y D) (g:aL D) (hx:D.exe<1000000000) {m:Nat} {xu:aA} {us:List Nat} (j:RdS m w xu (u8L us)) (e:∀x∈us,x<256) (a:us.length<=1000) (K:K1)
  (hK:∀F w' Y',Ext w w'->mI D F->Dv w' Y' (DS.init D.n ((List.range (8*D.n)).map F))->(∀x,Y'.F x->w.heap.size<=x)->(Y'.dt=Y'.tb/\∀i,Y'.ids i=i)->K (.pointer (some ⟨Y'.d,0,none⟩)) w'):
  ae prog 49 #[.pointer (some ⟨Y.d,0,none⟩),xu] w K:=by
 have hn:=g.n;have f:=g.n0;refine Ue _ _ _ _ ?_;unfold acV;refine zS0 ?_;refine abJ h g hx j e a _ (λF b w1 e1 hF hb hC=> ?_);refine afm hC (λi hi=>hF.lt g i hi) f hn _ (λw2 Y2 e2 hd hf c=> ?_);refine zS0 ?_;exact hK F w2 Y2 (e1.trans e2) hF hd (λx hx=>bl e1.size (hf x hx)) c
end
structure Co where
 cur:Nat->Nat
 pers:Nat->Nat
 done:Nat->Nat
 hist:Nat->List (Nat×Nat)
 notes:Int->Option Nat
def DS.co (D:DS):Co:=⟨D.cur,D.pers,D.done,D.hist,D.notes 0⟩
def Co.st (C:Co) (off v:Nat):Co:={C with hist:=λj=>if j=off/64 then C.hist (off/64)++ [(off,v)] else C.hist j,cur:=λj=>if j=off/8 then v else C.cur j}
def Co.fl (C:Co) (off:Nat):Co:={C with notes:=λi=>if i=((off/64:Nat):Int) then some (C.done (off/64)+(C.hist (off/64)).length) else C.notes i}
def Co.due (C:Co) (l:Nat):Nat:=match C.notes (l:Int) with
 |some p=>p-C.done l
 |none=>0
def Co.fe (C:Co):Co:=⟨C.cur,λx=>aF ((C.hist (x/8)).take (C.due (x/8))) C.pers x,λl=>C.done l+C.due l,λl=>(C.hist l).drop (C.due l),λ_=>none⟩
def Co.ex (C:Co) (i:Ins):Co:=if i.op=1 then C.st i.off i.val else if i.op=2 then C.fl i.off else C.fe
def Co.run (C:Co) (p:List Ins):Co:=p.foldl Co.ex C
def EM (n:Nat) (i:Ins):Prop:=(i.op=1->i.off%8=0/\i.off<n*64)/\(i.op=2->i.off<n*64)
def NB (D:DS) (e:Int):(D.fail 0 e).co=D.co/\(D.fail 0 e).off=D.off/\(D.fail 0 e).n=D.n:=by
 unfold DS.fail;split<;>exact ⟨rfl,rfl,rfl⟩
def NC (D:DS) (i:Ins) (hv:EM D.n i):((D.exec 0 i).co=D.co.ex i/\(D.exec 0 i).off=D.off/\D.off=false)\/((D.exec 0 i).co=D.co/\(D.exec 0 i).off=true):=by
 have f:∀(b:Bool),b=true->(D.runs b=true/\(D.counted 0 b).co=D.co/\(D.counted 0 b).off=D.off/\D.off=false)\/(D.runs b=false/\(D.counted 0 b).co=D.co/\(D.counted 0 b).off=true):=by
  intro b hb;subst hb;unfold DS.runs DS.counted;by_cases ho:D.off=true
  ·right;have:=NB D 3;rw [if_pos ho];exact ⟨by simp [ho],this.1,by rw [this.2.1];exact ho⟩
  ·have d:D.off=false:=by simpa using ho
   rw [if_neg ho,if_neg (by simp)];by_cases ha:D.armed=true
   ·rw [if_pos ha];by_cases hl:D.left=0
    ·right;rw [if_pos hl];have:=NB ({D with off:=true}:DS) 3;exact ⟨by simp [ha,hl],this.1,this.2.1⟩
    ·left;rw [if_neg hl];exact ⟨by simp [d,ha,hl],rfl,rfl,d⟩
   ·left;rw [if_neg ha];have j:D.armed=false:=by simpa using ha
    exact ⟨by simp [d,j],rfl,rfl,d⟩
 unfold DS.exec Co.ex;by_cases h1:i.op=1
 ·rw [if_pos h1,if_pos h1];have hb:=hv.1 h1;have g:fa D i.off=true:=by unfold fa;rw [decide_eq_true hb.1,decide_eq_true hb.2];rfl
  unfold DS.store;rcases f (fa D i.off) g with ⟨r,a,b,c⟩|⟨r,a,b⟩
  ·left;rw [if_pos r];refine ⟨?_,b,c⟩;have e:((D.counted 0 (fa D i.off)).write i.off i.val).co=(D.counted 0 (fa D i.off)).co.st i.off i.val:=rfl;rw [e,a]
  ·right;rw [if_neg (by simp [r])];exact ⟨a,b⟩
 ·rw [if_neg h1,if_neg h1];by_cases h2:i.op=2
  ·rw [if_pos h2,if_pos h2];have hb:=hv.2 h2;have g:fM D i.off=true:=by unfold fM;rw [decide_eq_true hb]
   unfold DS.flush;rcases f (fM D i.off) g with ⟨r,a,b,c⟩|⟨r,a,b⟩
   ·left;rw [if_pos r];refine ⟨?_,b,c⟩;have hd:D.done=D.co.done:=rfl;have hh:D.hist=D.co.hist:=rfl;have e:((D.counted 0 (fM D i.off)).note 0 ((i.off/64:Nat):Int) (D.done (i.off/64)+(D.hist (i.off/64)).length)).co={(D.counted 0 (fM D i.off)).co with notes:=λk=>if k=((i.off/64:Nat):Int) then some (D.done (i.off/64)+(D.hist (i.off/64)).length) else (D.counted 0 (fM D i.off)).co.notes k}:=by
     unfold DS.note DS.co;simp
    rw [e,a];rfl
   ·right;rw [if_neg (by simp [r])];exact ⟨a,b⟩
  ·rw [if_neg h2,if_neg h2];unfold DS.fence;rcases f true rfl with ⟨r,a,b,c⟩|⟨r,a,b⟩
   ·left;rw [if_pos r];refine ⟨?_,b,c⟩;have h:D.due 0=D.co.due:=by funext l;rfl
    have e:(((D.counted 0 true).parts (D.due 0)).clr 0).co=⟨(D.counted 0 true).co.cur,λx=>aF (((D.counted 0 true).co.hist (x/8)).take (D.due 0 (x/8))) (D.counted 0 true).co.pers x,λl=>(D.counted 0 true).co.done l+D.due 0 l,λl=>((D.counted 0 true).co.hist l).drop (D.due 0 l),λ_=>none⟩:=by
     unfold DS.clr DS.parts DS.co;simp
    rw [e,a,h];rfl
   ·right;rw [if_neg (by simp [r])];exact ⟨a,b⟩
def abL (p:List Ins):∀(D:DS),D.off=true->(∀i∈p,EM D.n i)->(D.run 0 p).co=D.co/\(D.run 0 p).off=true:=by
 induction p with
 |nil=>intro D h _;exact ⟨rfl,h⟩
 |cons i p ih=>
  intro D h hv;rw [ib];rcases NC D i (hv i (by simp)) with ⟨_,_,c⟩|⟨a,b⟩
  ·rw [h] at c;cases c
  ·have:=ih (D.exec 0 i) b (λj hj=>by rw [Jc];exact hv j (by simp [hj]));exact ⟨this.1.trans a,this.2⟩
def afn (p:List Ins):∀(D:DS),D.off=false->(∀i∈p,EM D.n i)->∃m,m<=p.length/\(D.run 0 p).co=D.co.run (p.take m)/\(m<p.length->(D.run 0 p).off=true):=by
 induction p with
 |nil=>intro D h _;exact ⟨0,by simp,rfl,λh=>by simp at h⟩
 |cons i p ih=>
  intro D h hv;rw [ib];have c:∀j∈p,EM (D.exec 0 i).n j:=λj hj=>by rw [Jc];exact hv j (by simp [hj])
  rcases NC D i (hv i (by simp)) with ⟨a,b,_⟩|⟨a,b⟩
  ·obtain ⟨m,hm,h1,h2⟩:=ih (D.exec 0 i) (by rw [b];exact h) c;refine ⟨m+1,by simp;omega,?_,λhl=>h2 (by simp at hl;omega)⟩;rw [h1,a];rfl
  ·have:=abL p (D.exec 0 i) b c;exact ⟨0,by simp,this.1.trans a,λ_=>this.2⟩
def cZ (C:Co) (p q:List Ins):C.run (p++q)=(C.run p).run q:=by simp [Co.run,cN]
def dD (C:Co) (i:Ins) (p:List Ins):C.run (i::p)=(C.ex i).run p:=rfl
structure Cln (C:Co):Prop where
 hist:∀l,C.hist l= []
 notes:C.notes=λ_=>none
 pers:∀x,C.pers x=C.cur x
def J1 (C:Co):Prop:=∀x,C.cur x=aF (C.hist (x/8)) C.pers x
def Cln.j1 {C:Co} (h:Cln C):J1 C:=λx=>by rw [h.hist];exact (h.pers x).symm
def ic (a b:List (Nat×Nat)) (f:Nat->Nat):aF (a++b) f=aF b (aF a f):=by unfold aF;rw [cN]
def J1.st {C:Co} (h:J1 C) (off v:Nat):J1 (C.st off v):=by
 intro x;unfold Co.st;simp only;by_cases e:x/8=off/64
 ·rw [if_pos e,ic];show _=if x=off/8 then v else aF (C.hist (off/64)) C.pers x
  by_cases e2:x=off/8
  ·rw [if_pos e2,if_pos e2]
  ·rw [if_neg e2,if_neg e2,h x,e]
 ·rw [if_neg e,if_neg oM];exact h x
def J1.fe {C:Co} (h:J1 C) (hd:∀l,(C.hist l).length<=C.due l):Cln C.fe/\C.fe.cur=C.cur:=by
 refine ⟨⟨λl=>List.drop_eq_nil_of_le (hd l),rfl,λx=> ?_⟩,rfl⟩;show aF ((C.hist (x/8)).take (C.due (x/8))) C.pers x=C.cur x;rw [List.take_of_length_le (hd _)];exact (h x).symm
def afo (ws:List (Nat×Nat)):∀(C:Co),J1 C->J1 (C.run (ws.map wrI))/\(C.run (ws.map wrI)).cur=aF ws C.cur/\(C.run (ws.map wrI)).notes=C.notes/\(C.run (ws.map wrI)).done=C.done/\∀l,(C.run (ws.map wrI)).hist l≠ []->C.hist l≠ []\/∃x∈ws,x.1/64=l:=by
 induction ws with
 |nil=>intro C h;exact ⟨h,rfl,rfl,rfl,λl hl=> .inl hl⟩
 |cons x ws ih=>
  intro C h;rw [ca,dD];have e:C.ex (wrI x)=C.st x.1 x.2:=rfl;rw [e];obtain ⟨a,b,c,d,f⟩:=ih (C.st x.1 x.2) (h.st _ _);refine ⟨a,by rw [b,bR];rfl,c,d,λl hl=> ?_⟩;rcases f l hl with h1|⟨y,hy,h1⟩
  ·by_cases e2:l=x.1/64
   ·exact .inr ⟨x,by simp,e2.symm⟩
   ·left;unfold Co.st at h1;simp only [if_neg e2] at h1;exact h1
  ·exact .inr ⟨y,by simp [hy],h1⟩
def afp (ls:List Nat):∀(C:Co),J1 C->J1 (C.run (ls.map flI))/\(C.run (ls.map flI)).cur=C.cur/\(C.run (ls.map flI)).hist=C.hist/\(C.run (ls.map flI)).done=C.done/\(∀x∈ls,(C.run (ls.map flI)).notes ((x/64:Nat):Int)=some (C.done (x/64)+(C.hist (x/64)).length))/\∀l p,C.notes l=some p->(∃k:Nat,l=(k:Int)/\p=C.done k+(C.hist k).length)->(C.run (ls.map flI)).notes l=some p:=by
 induction ls with
 |nil=>intro C h;exact ⟨h,rfl,rfl,rfl,λx hx=>(by cases hx),λl p hp _=>hp⟩
 |cons x ls ih=>
  intro C h;rw [ca,dD];have e:C.ex (flI x)=C.fl x:=rfl;rw [e];obtain ⟨a,b,c,d,f,g⟩:=ih (C.fl x) h;have hn:(C.fl x).notes ((x/64:Nat):Int)=some (C.done (x/64)+(C.hist (x/64)).length):=by unfold Co.fl;simp
  refine ⟨a,b,c,d,λy hy=> ?_,λl p hp hk=> ?_⟩
  ·rcases List.mem_cons.1 hy with rfl|hy
   ·exact g _ _ hn ⟨y/64,rfl,rfl⟩
   ·exact f y hy
  ·refine g l p ?_ hk;unfold Co.fl;simp only;by_cases e2:l=((x/64:Nat):Int)
   ·rw [if_pos e2];obtain ⟨k,j,i⟩:=hk;have:k=x/64:=oM;subst this;rw [i]
   ·rw [if_neg e2];exact hp
def abM (d:Array Nat):∀n,n<=d.size->∀i,i<n->d[i]!∈kpN d n:=by
 intro n
 induction n with
 |zero=>intro _ i hi;omega
 |succ n ih=>
  intro hn i hi;simp only [kpN,cC];by_cases e:i=n
  ·subst e;by_cases h:i=0\/d[i]!≠d[i-1]!
   ·right;rw [if_pos h];simp
   ·left;have h1:i≠0:=λe=>h (.inl e)
    have h2:d[i]! =d[i-1]! :=Classical.byContradiction (λe=>h (.inr e));rw [h2];exact ih oM (i-1) oM
  ·exact .inl (ih oM i oM)
def W4 {l:List Nat} {x:Nat} (h:x∈l):x∈cmpN l:=by
 obtain ⟨i,hi,rfl⟩:=List.mem_iff_getElem.1 h;have:=abM l.toArray l.length (by simp) i hi;rw [getElem!_pos l.toArray i (by simpa using hi)] at this;unfold cmpN;simpa using this
def rN {ws:List (Nat×Nat)} {x:Nat×Nat} (h:x∈ws):dg x.1∈cmpN (srtN (ws.map λx=>dg x.1)):=
 W4 ((qz _).mem_iff.2 (List.mem_map.2 ⟨x,h,rfl⟩))
def JT {C:Co} (h:Cln C) (ws:List (Nat×Nat)):Cln (C.run (ay ws))/\(C.run (ay ws)).cur=aF ws C.cur:=by
 unfold ay;rw [cZ,cZ];obtain ⟨a,b,c,d,f⟩:=afo ws C h.j1;obtain ⟨a2,b2,c2,d2,f2,_⟩:=afp (cmpN (srtN (ws.map λx=>dg x.1))) _ a;generalize (C.run (ws.map wrI))=C1 at*;generalize (C1.run ((cmpN (srtN (ws.map λx=>dg x.1))).map flI))=C2 at*;have e:C2.run [⟨3,0,0⟩]=C2.fe:=rfl;rw [e];have:=a2.fe (λl=>by
  by_cases h0:C2.hist l= []
  ·rw [h0];simp
  ·rw [c2] at h0;rcases f l h0 with h1|⟨x,hx,h1⟩
   ·exact absurd (h.hist l) h1
   ·have hn:=f2 _ (rN hx);have hl:dg x.1/64=l:=by unfold dg;omega
    rw [hl] at hn;unfold Co.due;rw [hn,c2,d2];simp)
 exact ⟨this.1,by rw [this.2,b2,b]⟩
def QA (C:Co) (a X:Nat):Prop:=C.pers a=X/\∀l,∀x∈C.hist l,x.1/8≠a
def QA.ex {C:Co} {a X:Nat} (h:QA C a X) (i:Ins) (hi:i.op=1->i.off/8≠a):QA (C.ex i) a X:=by
 unfold Co.ex;split
 ·rename_i h1;refine ⟨h.1,λl x hx=> ?_⟩;unfold Co.st at hx;simp only at hx;split at hx
  ·rcases List.mem_append.1 hx with hx|hx
   ·exact h.2 _ x hx
   ·simp only [aa] at hx;subst hx;exact hi h1
  ·exact h.2 l x hx
 ·split
  ·exact h
  ·refine ⟨?_,λl x hx=>h.2 l x (dn hx)⟩;show aF _ C.pers a=X;rw [bu _ _ _ (λy hy=>h.2 _ y (ch hy))];exact h.1
def QA.run {a X:Nat} (p:List Ins):∀{C:Co},QA C a X->(∀i∈p,i.op=1->i.off/8≠a)->QA (C.run p) a X:=by
 induction p with
 |nil=>intro C h _;exact h
 |cons i p ih=>
  intro C h hi;rw [dD];exact ih (h.ex i (hi i (by simp))) (λj hj=>hi j (by simp [hj]))
def RQ (C:Co) (a X H:Nat) (G:Nat->Nat):Prop:=(∀j,j≠a->C.pers j=G j)/\(C.pers a=X\/C.pers a=H)/\∀l,∀x∈C.hist l,x.1/8=a/\x.2=H
def abN {a H:Nat}:∀(ws:List (Nat×Nat)),(∀x∈ws,x.1/8=a/\x.2=H)->∀(f:Nat->Nat),aF ws f a=f a\/aF ws f a=H:=by
 intro ws
 induction ws with
 |nil=>intro _ f;exact .inl rfl
 |cons x ws ih=>
  intro h f;rw [bR];have hx:=h x (by simp);rcases ih (λy hy=>h y (by simp [hy])) (λj=>if j=x.1/8 then x.2 else f j) with h1|h1
  ·rw [h1];rw [if_pos hx.1.symm];exact .inr hx.2
  ·exact .inr h1
def RQ.ex {C:Co} {a X H:Nat} {G:Nat->Nat} (h:RQ C a X H G) (i:Ins) (hi:i.op=1->i.off/8=a/\i.val=H):RQ (C.ex i) a X H G:=by
 unfold Co.ex;split
 ·rename_i h1;refine ⟨h.1,h.2.1,λl x hx=> ?_⟩;unfold Co.st at hx;simp only at hx;split at hx
  ·rcases List.mem_append.1 hx with hx|hx
   ·exact h.2.2 _ x hx
   ·simp only [aa] at hx;subst hx;exact hi h1
  ·exact h.2.2 l x hx
 ·split
  ·exact h
  ·refine ⟨λj hj=> ?_,?_,λl x hx=>h.2.2 l x (dn hx)⟩
   ·show aF _ C.pers j=G j;rw [bu _ _ _ (λy hy e=>hj (by rw [<-e];exact (h.2.2 _ y (ch hy)).1))];exact h.1 j hj
   ·show aF _ C.pers a=X\/aF _ C.pers a=H;rcases abN ((C.hist (a/8)).take (C.due (a/8))) (λx hx=>h.2.2 _ x (ch hx)) C.pers with h1|h1
    ·rw [h1];exact h.2.1
    ·exact .inr h1
def RQ.run {a X H:Nat} {G:Nat->Nat} (p:List Ins):∀{C:Co},RQ C a X H G->(∀i∈p,i.op=1->i.off/8=a/\i.val=H)->RQ (C.run p) a X H G:=by
 induction p with
 |nil=>intro C h _;exact h
 |cons i p ih=>
  intro C h hi;rw [dD];exact ih (h.ex i (hi i (by simp))) (λj hj=>hi j (by simp [hj]))
section
variable {D:DS} {l g n:Nat} {c o:Int}
def W5 (c0:0<=c) (c5:c<5) (f:Nat->Nat):(∀j,j≠0->j<8->aF (du l c g) f (l*8+j)=0)/\∀i:Nat,(i:Int)<perS c->aF (du l c g) f (l*8+offN c i)=sealN (dB g 0 176):=by
 have hp:=aM c0 c5;have hA:∀j,∀y∈du l c g,y.1/8=l*8+j->(8<=j/\y.2=sealN (dB g 0 176))\/(j<8/\y.2=0):=by
  intro j y hy a;rcases List.mem_append.1 hy with hy|hy
  ·obtain ⟨i,hi,rfl⟩:=List.mem_map.1 hy;rw [aB] at hi;have b:=bv c0 c5 (show 0<=(i:Int) by omega) oM;left;simp only at a;exact ⟨by omega,rfl⟩
  ·obtain ⟨i,hi,rfl⟩:=List.mem_map.1 hy;rw [aB] at hi;right;simp only at a;exact ⟨by omega,rfl⟩
 constructor
 ·intro j h0 h8;refine cY (λy hy a=> ?_) (.inl ⟨(l*64+(j-1+1)*8,0),dk _ (List.mem_map.2 ⟨j-1,List.mem_range.2 oM,rfl⟩),by simp only;omega⟩);rcases hA j y hy a with h|h
  ·omega
  ·exact h.2
 ·intro i hi;have bd:=aH c0 c5 hi;refine cY (λy hy a=> ?_) (.inl ⟨_,dp _ (List.mem_map.2 ⟨i,List.mem_range.2 oM,rfl⟩),?_⟩)
  ·rcases hA _ y hy a with h|h
   ·exact h.2
   ·omega
  ·simp only;omega
def EN (n:Nat):Cln (DS.zero n).co:=⟨λ_=>rfl,rfl,λ_=>rfl⟩
end
section
variable {D D':DS} {l k g:Nat} {c o:Int}
def afq:∀{n:Nat},(∀i,i<n->okF D l c i=true)->alF D l c n=true:=by
 intro n
 induction n with
 |zero=>intro _;rfl
 |succ n ih=>intro h;simp only [alF,ih (λi hi=>h i oM),h n oM];rfl
def JU {n:Nat} (h:alF D l c n=true) (i:Nat) (hi:i<n):okF D l c i=true:=by
 cases hh:okF D l c i with
 |true=>rfl
 |false=>rw [Wa hi hh] at h;cases h
def W6:∀(n i:Nat),i<n->bG (wd D l (offN c i))<=mxG D l c n:=by
 intro n
 induction n with
 |zero=>intro i hi;omega
 |succ n ih=>
  intro i hi;simp only [mxG];by_cases e:i=n
  ·subst e;split<;>omega
  ·have:=ih i oM;split<;>omega
def JV:∀(n:Nat),mxG D l c n<65536:=by
 intro n
 induction n with
 |zero=>simp [mxG]
 |succ n ih=>
  simp only [mxG];have:=dh (wd D l (offN c n));split<;>omega
def RH {i:Nat} (h:okF D l c i=true):bS (wd D l (offN c i))=176/\bG (wd D l (offN c i))≠0:=by
 unfold okF at h;simp only [da,decide_eq_true_eq,c8,decide_eq_false_iff_not] at h;exact ⟨h.2.2.1,h.2.2.2⟩
def JW {n:Nat} (h:alF D l c n=true) (h0:0<n):mxG D l c n≠0:=by
 have h1:=(RH (JU h 0 h0)).2;have h2:=W6 (D:=D) (l:=l) (c:=c) n 0 h0;omega
def OE (D:DS):Prop:=D.off=true->D.err 0≠0
def CL (D:DS) (e:Int) (he:e≠0):(D.fail 0 e).err 0≠0:=by
 unfold DS.fail;split
 ·simpa using he
 ·assumption
def fD (h:OE D) (b:Bool):OE (D.counted 0 b):=by
 unfold DS.counted;intro ho;split
 ·exact CL _ _ oM
 ·rename_i h1;have h1:D.off=false:=by simpa using h1
  split
  ·exact CL _ _ oM
  ·split
   ·split
    ·exact CL _ _ oM
    ·rename_i h2 h3 h4;rw [if_neg (by simp [h1]),if_neg h2,if_pos h3,if_neg h4] at ho;rw [show ({D with left:=D.left-1,exe:=D.exe+1}:DS).off=D.off from rfl,h1] at ho;cases ho
   ·rename_i h2 h3;rw [if_neg (by simp [h1]),if_neg h2,if_neg h3] at ho;rw [show ({D with exe:=D.exe+1}:DS).off=D.off from rfl,h1] at ho;cases ho
def abO (h:OE D) (i:Ins):OE (D.exec 0 i):=by
 unfold DS.exec;split
 ·unfold DS.store;split
  ·exact λho=>fD h _ ho
  ·exact fD h _
 ·split
  ·unfold DS.flush;split
   ·exact λho=>fD h _ ho
   ·exact fD h _
  ·unfold DS.fence;split
   ·exact λho=>fD h _ ho
   ·exact fD h _
def W7:∀(p:List Ins) (D:DS),OE D->OE (D.run 0 p)
 | [],D,h=>h
 |i::p,D,h=>by rw [ib];exact W7 p _ (abO h i)
def On.oe (h:On D):OE D:=λho=>by rw [h.off] at ho;cases ho
def uU (l:Nat) (c0:0<=c) (c5:c<5) (o:Int) (g:Nat):(planI l c o g).length<=200:=by
 have hp:=aM c0 c5;have h4:=aY (du l c g);have h5:=aY [(l*64,sealN (hdX c o g))];have h6:=Rb l c g;have h7:(planI l c o g).length=(ay (du l c g)).length+(ay [(l*64,sealN (hdX c o g))]).length:=by unfold planI;rw [bb]
 simp only [cd] at h5;omega
def fP {n:Nat} {ws:List (Nat×Nat)} (h:∀x∈ws,x.1%8=0/\x.1<n*64):∀i∈ay ws,EM n i:=by
 intro i hi;unfold ay at hi;simp only [cC,List.mem_map,aa] at hi;rcases hi with (⟨x,hx,rfl⟩|⟨x,hx,rfl⟩)|rfl
 ·exact ⟨λ_=>h x hx,λh2=>by simp [wrI] at h2⟩
 ·obtain ⟨y,hy,rfl⟩:=jM hx;have:=h y hy;refine ⟨λh1=>by simp [flI] at h1,λ_=> ?_⟩;show dg y.1<n*64;unfold dg;omega
 ·exact ⟨λh1=>by simp at h1,λh2=>by simp at h2⟩
def zN:∀(ws:List (Nat×Nat)) (C:Co),(C.run (ws.map wrI)).cur=aF ws C.cur
 | [],C=>rfl
 |x::ws,C=>by
  rw [ca,dD,zN ws];rfl
def zO:∀(ls:List Nat) (C:Co),(C.run (ls.map flI)).cur=C.cur
 | [],C=>rfl
 |x::ls,C=>by
  rw [ca,dD,zO ls];rfl
def iH (ws:List (Nat×Nat)) (C:Co):(C.run (ay ws)).cur=aF ws C.cur:=by
 unfold ay;rw [cZ,cZ];show ((C.run (ws.map wrI)).run _).cur=_;rw [zO,zN]
def sT {p:List Ins} (ho:D.off=false) (he:D.err 0=0) (hv:∀i∈p,EM D.n i) (h:(D.run 0 p).err 0=0):(D.run 0 p).co=D.co.run p/\(D.run 0 p).off=false:=by
 have oe:OE (D.run 0 p):=W7 p D (λh=>by rw [ho] at h;cases h);have a:(D.run 0 p).off=false:=by
  cases hh:(D.run 0 p).off with
  |false=>rfl
  |true=>exact absurd h (oe hh)
 obtain ⟨m,hm,hc,hi⟩:=afn p D ho hv;have:m=p.length:=by
  rcases Nat.lt_or_ge m p.length with h1|h1
  ·rw [hi h1] at a;cases a
  ·omega
 subst this;rw [cn] at hc;exact ⟨hc,a⟩
def W8 {n:Nat} (hl:l+32<=n) (g:Nat):∀i∈cU l g,EM n i:=fP (λx hx=>by simp only [aa] at hx;subst hx;simp only;omega)
def jc {n:Nat} (hl:l+32<=n) (c0:0<=c) (c5:c<5) (g:Nat):∀x∈du l c g,x.1%8=0/\x.1<n*64/\l*64<=x.1/\x.1<l*64+2048:=by
 have hp:=aM c0 c5;intro x hx;rcases List.mem_append.1 hx with hx|hx
 ·obtain ⟨j,hj,rfl⟩:=List.mem_map.1 hx;have a:=bv c0 c5 (show 0<=(j:Int) by omega) (by rw [aB] at hj;omega);have hw:=aN c0 c5;simp only;omega
 ·obtain ⟨j,hj,rfl⟩:=List.mem_map.1 hx;rw [aB] at hj;simp only;omega
def RJ {n:Nat} (hl:l+32<=n) (c0:0<=c) (c5:c<5) (o:Int) (g:Nat):∀i∈planI l c o g,EM n i:=by
 intro i hi;unfold planI at hi;rcases List.mem_append.1 hi with hi|hi
 ·exact fP (λx hx=>⟨(jc hl c0 c5 g x hx).1,(jc hl c0 c5 g x hx).2.1⟩) i hi
 ·exact fP (λx hx=>by simp only [aa] at hx;subst hx;simp only;omega) i hi
def sU (ho:D.off=false) (he:D.err 0=0) (hl:l+32<=D.n) (h:(D.run 0 (cU l g)).err 0=0):(D.run 0 (cU l g)).cur=(λj=>if j=l*8 then sealN (hdX (-1) (-1) g) else D.cur j)/\(D.run 0 (cU l g)).off=false:=by
 obtain ⟨h1,h2⟩:=sT ho he (W8 hl g) h;refine ⟨?_,h2⟩;have e:(D.run 0 (cU l g)).cur=(D.co.run (cU l g)).cur:=by rw [<-h1];rfl
 rw [e];unfold cU;rw [iH];funext j;show (if j=l*64/8 then _ else D.cur j)=_;rw [show l*64/8=l*8 by omega]
def jd (c o:Int) (g:Nat) (W:Nat->Nat) (j:Nat):Nat:=if j=0 then sealN (hdX c o g) else if isB c j=true then sealN (dB g 0 176) else if j<8 then 0 else W j
def mv {j:Nat}:isB c j=true↔∃i,i<(perS c).toNat/\offN c i=j:=by
 unfold isB;rw [List.any_eq_true];constructor
 ·intro ⟨i,h1,h2⟩;exact ⟨i,List.mem_range.1 h1,by simpa using h2⟩
 ·intro ⟨i,h1,h2⟩;exact ⟨i,List.mem_range.2 h1,by simpa using h2⟩
def W9 (c0:0<=c) (c5:c<5) (f:Nat->Nat) (j:Nat):aF [(l*64,sealN (hdX c o g))] (aF (du l c g) f) j=if l*8<=j/\j<l*8+256 then jd c o g (λi=>f (l*8+i)) (j-l*8) else f j:=by
 have hp:=aM c0 c5;have hw:=W5 (l:=l) (g:=g) c0 c5 f;have h1:∀f:Nat->Nat,aF [(l*64,sealN (hdX c o g))] f j=if j=l*8 then sealN (hdX c o g) else f j:=λf=>by
  show (if j=l*64/8 then _ else f j)=_;rw [show l*64/8=l*8 by omega]
 rw [h1];by_cases hin:l*8<=j/\j<l*8+256
 ·rw [if_pos hin];obtain ⟨i,rfl⟩:∃i,j=l*8+i:=⟨j-l*8,by omega⟩;rw [show l*8+i-l*8=i by omega];unfold jd;by_cases h0:i=0
  ·subst h0;rw [if_pos oM,if_pos rfl]
  ·rw [if_neg oM,if_neg h0];by_cases hb:isB c i=true
   ·rw [if_pos hb];obtain ⟨q,h2,h3⟩:=mv.1 hb;rw [<-h3];exact hw.2 q oM
   ·rw [if_neg hb];by_cases h8:i<8
    ·rw [if_pos h8];exact hw.1 i h0 h8
    ·rw [if_neg h8];refine bu _ _ _ (λy hy=> ?_);rcases List.mem_append.1 hy with hy|hy
     ·obtain ⟨q,hq,rfl⟩:=List.mem_map.1 hy;rw [aB] at hq;have a:=aH c0 c5 (show (q:Int)<perS c by omega);intro e;apply hb;refine mv.2 ⟨q,hq,?_⟩;unfold offN at a ⊢;simp only at e;omega
     ·obtain ⟨q,hq,rfl⟩:=List.mem_map.1 hy;rw [aB] at hq;simp only;omega
 ·rw [if_neg hin,if_neg oM];refine bu _ _ _ (λy hy=> ?_);rcases List.mem_append.1 hy with hy|hy
  ·obtain ⟨q,hq,rfl⟩:=List.mem_map.1 hy;rw [aB] at hq;have a:=aH c0 c5 (show (q:Int)<perS c by omega);unfold offN at a;simp only;omega
  ·obtain ⟨q,hq,rfl⟩:=List.mem_map.1 hy;rw [aB] at hq;simp only;omega
def EO (ho:D.off=false) (he:D.err 0=0) (hl:l+32<=D.n) (c0:0<=c) (c5:c<5) (h:(D.run 0 (planI l c o g)).err 0=0):(D.run 0 (planI l c o g)).cur=(λj=>if l*8<=j/\j<l*8+256 then jd c o g (wd D l) (j-l*8) else D.cur j)/\(D.run 0 (planI l c o g)).off=false:=by
 obtain ⟨h1,h2⟩:=sT ho he (RJ hl c0 c5 o g) h;refine ⟨?_,h2⟩;have e:(D.run 0 (planI l c o g)).cur=(D.co.run (planI l c o g)).cur:=by rw [<-h1];rfl
 rw [e];unfold planI;rw [cZ,iH,iH];funext j;have e1:wd D l=λi=>D.cur (l*8+i):=by funext i;unfold wd;rfl
 rw [e1];exact W9 (l:=l) (o:=o) (g:=g) c0 c5 D.cur j
end
def SlO.updZ {w:ap} {t:TypeId} {z b o n cap:Nat} {L:List aA} (h:SlO w t z (.slice (some ⟨b,o,none⟩) n cap) n L) {i:Nat} (u:aA) (hi:i<n*z):SlO (w.setCell ⟨b,o+i,none⟩ u) t z (.slice (some ⟨b,o,none⟩) n cap) n (L.set i u):=by
 obtain ⟨hl,h|⟨b',o',l,a,hv,hh,c,d,p,hg⟩⟩:=h
 ·cases h.1
 ·injection hv with hv h2 h3;injection hv with hv;injection hv with h4 h5 _;subst h4;subst h5;subst h3;have hm:=Nat.mul_le_mul_right z c;have hC:ah w b t a.size (λj=>(a[j]?).getD undef):=⟨a,hh,cD _,λj hj=>by simp only [Array.getElem?_eq_getElem hj,cj]⟩;have g:=hC.set (i:=o+i) u oM;obtain ⟨a',k,m,f⟩:=g;refine ⟨by rw [em];exact hl,.inr ⟨b,o,cap,a',rfl,k,c,d,by omega,λj x hj=> ?_⟩⟩;have q:j<n*z:=by
   have:=(List.getElem?_eq_some_iff.1 hj).1;rw [em] at this;omega
  rw [f (o+j) oM];simp only;rw [cF] at hj;by_cases e:i=j
  ·subst e;rw [if_pos rfl,if_pos oM] at hj;rw [if_pos rfl];exact hj
  ·rw [if_neg e] at hj;rw [if_neg oM,hg j x hj,cj]
def AgF (D:DS) (l0 n:Nat) (f:Nat->Int×Int×Bool):Prop:=∀k,k<n->eO (wd D (l0+32*k) 0)=true/\(f k).1=hC (wd D (l0+32*k) 0)/\(f k).2.1=hO (wd D (l0+32*k) 0)
def emG (D:DS) (l0:Nat) (f:Nat->Int×Int×Bool) (k:Nat):Option Nat:=if (f k).1<0 then none else if (f k).2.2=true then none else if alF D (l0+32*k) (f k).1 (perS (f k).1).toNat=true then some (mxG D (l0+32*k) (f k).1 (perS (f k).1).toNat) else none
def uV {x:Nat} (h:eO x=true):hC x<5/\(0<=hC x->gX x≠0)/\gX x≠0/\-1<=hC x:=by
 simp only [eO,da,c8,decide_eq_false_iff_not,Bool.or_eq_true,decide_eq_true_eq] at h;obtain ⟨⟨⟨h1,h2⟩,h3⟩,h4⟩:=h;have h5: -1<=hC x:=by unfold hC;omega
 refine ⟨?_,λ_=>h3,h3,h5⟩;rcases h4 with ⟨a,_⟩|h4
 ·omega
 ·simp only [kG,da,decide_eq_true_eq] at h4;omega
structure dR (w:ap) (Y:Lay) (b:Nat) (w':ap) (Y':Lay):Prop where
 tb:Y'.tb=Y.tb
 d:Y'.d=Y.d
 frm:Frm (λx=>Y.F x\/x=b) w w'
 fr:∀x,Y'.F x->Y.F x\/w.heap.size<=x
 dt:Y'.dt=Y.dt/\Y'.ids=Y.ids
section
variable {w0 w w' w'':ap} {Y Y' Y'':Lay} {D D':DS} {S b o cp l0 n k:Nat} {f f':Nat->Int×Int×Bool}
def dR.of_ext (Y:Lay) (b:Nat) (e:Ext w w'):dR w Y b w' Y:=⟨rfl,rfl,Frm.of_ext e,λx hx=> .inl hx,rfl,rfl⟩
def dR.of_stp (b:Nat) (s:Stp w Y w' Y' D'):dR w Y b w' Y':=⟨s.tb,s.d,s.frm.mono (λx hx=> .inl hx),s.fr,by rw [s.y];exact ⟨rfl,rfl⟩⟩
def dR.trans (h:dR w Y b w' Y') (k:dR w' Y' b w'' Y''):dR w Y b w'' Y'' where
 tb:=k.tb.trans h.tb
 dt:=⟨k.dt.1.trans h.dt.1,k.dt.2.trans h.dt.2⟩
 d:=k.d.trans h.d
 frm:=h.frm.trans k.frm (λx hx hf=>by
  rcases hf with hf|hf
  ·rcases h.fr x hf with h1|h1
   ·exact .inl h1
   ·omega
  ·exact .inr hf)
 fr x hx:=by
  rcases k.fr x hx with h1|h1
  ·exact h.fr x h1
  ·exact .inr (bl h.frm.size h1)
def dR.set (h:dR w Y b w' Y') (i:Nat) (v:aA):dR w Y b (w'.setCell ⟨b,i,none⟩ v) Y':=⟨h.tb,h.d,h.frm.set _ (λ_=> .inr rfl),h.fr,h.dt⟩
def ArS.emG_ok (h:ArS w0 w Y D S b o cp l0 n f) (ag:AgF D l0 n f) (hk:k<n) {g:Nat} (he:emG D l0 f k=some g):0<=(f k).1/\(f k).1<5/\(f k).2.2=false/\g≠0/\g<65536:=by
 have ha:=ag k hk;have hc:=uV ha.1;rw [<-ha.2.1] at hc;unfold emG at he;by_cases h1:(f k).1<0
 ·rw [if_pos h1] at he;cases he
 ·rw [if_neg h1] at he;by_cases h2:(f k).2.2=true
  ·rw [if_pos h2] at he;cases he
  ·rw [if_neg h2] at he;have hp:=aM (show 0<=(f k).1 by omega) hc.1;split at he
   ·rename_i h3;injection he with he;subst he;exact ⟨by omega,hc.1,by simpa using h2,JW h3 oM,JV _⟩
   ·cases he
def ArS.wr (h:ArS w0 w Y D S b o cp l0 n f) {i:Nat} {v:aA} (hi:i<n*4) (hL:(plL f l0 n).set i v=plL f' l0 n):ArS w0 (w.setCell ⟨b,o+i,none⟩ v) Y D S b o cp l0 n f':=by
 have hf:=Frm.one w b (o+i) v;have h1:=SlO.updZ h.pl v hi;rw [hL] at h1;exact ⟨⟨h.L.dv.frm hf (λx hx hg=>h.nb.2 (hg▸hx)),h.L.gd,Ext.frm h.L.ex hf (λx hx=>hx▸h.nb.1),h.L.nw⟩,h.gl,h.st.set_ne _ h.nS.2.2,h1,h.nS,h.nb,h.n0,h.lt⟩
def abP {b t:Nat} {f:Nat->aA} (h:ah w b t 5 f) (v0 v1 v2 v3 v4:aA):ah (((((w.setCell ⟨b,0,none⟩ v0).setCell ⟨b,1,none⟩ v1).setCell ⟨b,2,none⟩ v2).setCell ⟨b,3,none⟩ v3).setCell ⟨b,4,none⟩ v4) b t 5 (λi=> [v0,v1,v2,v3,v4].getD i undef):=by
 have h3:=((((h.set v0 (i:=0) oM).set v1 (i:=1) oM).set v2 (i:=2) oM).set v3 (i:=3) oM).set v4 (i:=4) oM;refine h3.congr (λi hi=> ?_);rcases i with _|_|_|_|_|i
 ·rfl
 ·rfl
 ·rfl
 ·rfl
 ·rfl
 ·omega
def ND {b t:Nat} {f:Nat->aA} (h:ah w b t 3 f) (v0 v1 v2:aA):ah (((w.setCell ⟨b,0,none⟩ v0).setCell ⟨b,1,none⟩ v1).setCell ⟨b,2,none⟩ v2) b t 3 (λi=> [v0,v1,v2].getD i undef):=by
 have h3:=((h.set v0 (i:=0) oM).set v1 (i:=1) oM).set v2 (i:=2) oM;refine h3.congr (λi hi=> ?_);rcases i with _|_|_|i
 ·rfl
 ·rfl
 ·rfl
 ·omega
def agH (h:ArS w0 w Y D S b o cp l0 n f) (hk:k<n) (ho:D.off=false) (he:D.err 0=0) (c0:0<=(f k).1) (c5:(f k).1<5) {N:Nat} {oo:Int} {gg:Nat} (hN:ah w N 134 5 (chF (Y.tb 0) (l0+32*k) (f k).1 oo gg)) (hh:(f k).2.2=false) (K:K1)
  (h0:emG D l0 f k=none->∀w',Ext w w'->K (.tuple #[.slice none 0 0,.bool false]) w')
  (h1:∀g,emG D l0 f k=some g->g≠0->g<65536->∀v w',Ext w w'->bh w.heap.size v->SlO w' 220 3 v (cU (l0+32*k) g).length (inL (cU (l0+32*k) g))->K (.tuple #[v,.bool true]) w'):
  oG K (.pointer (some ⟨b,o+k*4,none⟩)) (.pointer (some ⟨N,0,none⟩)) (.int .i64 0) w:=by
 have u:=h.le;have s:=h.lt;have t:=h.L.gd.n;have ltb:=h.ltb;have ltS:=h.ltS;have hp:=aM c0 c5;have a:Cx w Y D (l0+32*k) (f k).1:=⟨h.L.dv,h.L.gd,h.gl.ext h.L.ex,ho,by omega,c0,c5⟩;have d0:w.cell? ⟨N,0,none⟩=some (.iface 31 (.pointer (some ⟨Y.tb 0,0,none⟩))):=hN.cell (i:=0) oM;have d1:w.cell? ⟨N,1,none⟩=some (.int .i64 ((l0+32*k:Nat):Int)):=hN.cell (i:=1) oM;have d2:w.cell? ⟨N,2,none⟩=some (.int .i64 (f k).1):=hN.cell (i:=2) oM;have d3:w.cell? ⟨N,3,none⟩=some (.int .i64 oo):=hN.cell (i:=3) oM;have d4:w.cell? ⟨N,4,none⟩=some (.int .u16 (gg:Int)):=hN.cell (i:=4) oM;have d:emG D l0 f k=if alF D (l0+32*k) (f k).1 (perS (f k).1).toNat=true then some (mxG D (l0+32*k) (f k).1 (perS (f k).1).toNat) else none:=by
  unfold emG;rw [if_neg oM,if_neg (by simp [hh])]
 have j:alF D (l0+32*k) (f k).1 (perS (f k).1).toNat=true->mxG D (l0+32*k) (f k).1 (perS (f k).1).toNat≠0:=λh=>JW h oM
 have m:=JV (D:=D) (l:=l0+32*k) (c:=(f k).1) (perS (f k).1).toNat
 have r:=λ(K:K1) hk=>afd a oo gg K hk
 have q:∀w',Ext w w'->w'.cell? ⟨b,o+k*4,none⟩=some (.int .i64 ((l0+32*k:Nat):Int)):=λw' e=>((h.ext e).p hk).1
 generalize (f k).1=cc at*;generalize mxG D (l0+32*k) cc (perS cc).toNat=mx at*;generalize alF D (l0+32*k) cc (perS cc).toNat=al at*;generalize emG D l0 f k=eg at*;rw [JS];unfold zL;refine zS6 d0 d1 d2 d3 d4 d4 ?_;refine r _ (λw1 e1=> ?_)
 cases al with
 |false=>
  refine zS0 ?_;exact h0 (by rw [d];rfl) _ e1
 |true=>
  have q0:=q w1 e1;rw [if_pos rfl];refine zS1 q0 ?_;refine Na (a.gl.ext e1) (l0+32*k) mx oM (j rfl) m _ (λv w2 hs e2 nv=> ?_);refine zS0 ?_;exact h1 mx (by rw [d];rfl) (j rfl) m v _ (e1.trans e2) (λx hx=>bl e1.size (nv x hx)) hs
def JX (h:ArS w0 w Y D S b o cp l0 n f) (ag:AgF D l0 n f) (hk:k<n) (ho:D.off=false) (he:D.err 0=0) (K:K1)
  (h0:emG D l0 f k=none->∀w',Ext w w'->K (.tuple #[.slice none 0 0,.bool false]) w')
  (h1:∀g,emG D l0 f k=some g->g≠0->g<65536->∀v w',Ext w w'->bh w.heap.size v->SlO w' 220 3 v (cU (l0+32*k) g).length (inL (cU (l0+32*k) g))->K (.tuple #[v,.bool true]) w'):
  ae prog 183 #[stV S,.pointer (some ⟨b,o+k*4,none⟩)] w K:=by
 have z:=h.le;have t:=h.lt;have y:=h.L.gd.n;have ltb:=h.ltb;have ltS:=h.ltS;have ha:=ag k hk;have m:=uV ha.1;rw [<-ha.2.1] at m;have c:=h.p hk;have q0:=c.1;have q1:=c.2.1;have q2:=c.2.2.1;have q3:=c.2.2.2;have s0:=h.c0;have hG:bB w:=h.gl.ext h.L.ex;by_cases c0:(f k).1<0
 ·have h0:=h0 (by unfold emG;rw [if_pos c0]);generalize (f k).1=cc at*;refine qS _ _ _ _ ?_;unfold CH;refine zS2 q1 c0 ?_;exact h0 _ xZ
 ·cases hh:(f k).2.2 with
  |true=>
   have h0:=h0 (by unfold emG;rw [if_neg c0,if_pos hh]);rw [hh] at q3;generalize (f k).1=cc at*;refine qS _ _ _ _ ?_;unfold CH;refine zS3 q1 q3 c0 ?_;exact h0 _ xZ
  |false=>
   rw [hh] at q3;have l:∀(w1:ap) (K:K1),Ext w w1->(∀w2,Ext w1 w2->K (.tuple #[chV Y (l0+32*k) (f k).1 (f k).2.1 (gX (wd D (l0+32*k) 0)),.int .i64 0]) w2)->ae prog 75 #[.iface 31 (.pointer (some ⟨Y.tb 0,0,none⟩)),.int .i64 ((l0+32*k:Nat):Int)] w1 K:=λw1 K e1 s=>by
    refine oy (h.L.dv.ext e1) h.L.gd (hG.ext e1) ho he (l0+32*k) oM ha.1 K (λw2 e2=> ?_);rw [if_neg (by rw [<-ha.2.1];exact c0),<-ha.2.1,<-ha.2.2];exact s w2 e2
   have j:∀(w2:ap) (N:Nat),Ext w w2->ah w2 N 134 5 (chF (Y.tb 0) (l0+32*k) (f k).1 (f k).2.1 (gX (wd D (l0+32*k) 0)))->oG K (.pointer (some ⟨b,o+k*4,none⟩)) (.pointer (some ⟨N,0,none⟩)) (.int .i64 0) w2:=λw2 N e2 hN=>
    agH (h.ext e2) hk ho he oM m.1 hN hh K (λhn w' e=>h0 hn w' (e2.trans e)) (λg hg g0 g6 v w' e nv hs=>h1 g hg g0 g6 v w' (e2.trans e) (λx hx=>bl e2.size (nv x hx)) hs)
   generalize (f k).1=cc at*;generalize (f k).2.1=oo at*;generalize gX (wd D (l0+32*k) 0)=gg at*;refine qS _ _ _ _ ?_;unfold CH
   (repeat' first|refine am (λ_=> ?_) (λ_=> ?_)|refine ao ?_ ?_|refine zS6 q0 q1 q3 c0 s0 s0 ?_|exact yS6 q0 q1 q3 c0 s0 s0|fail)
   ·refine l _ _ xZ (λw1 e1=> ?_);have e0:Ext w w1:=Ext.trans xZ e1;have s0:=(h.ext e0).c0;have d:=(h.ext e0).p hk;have q0:=d.1;have q1:=d.2.1;have q2:=d.2.2.1;have q3:=d.2.2.2;have r:=(h.ext e0).ltb;have u:=(h.ext e0).ltS
    (repeat' first|refine am (λ_=> ?_) (λ_=> ?_)|refine ao ?_ ?_|refine zS2 q0 s0 ?_|exact yS2 q0 s0|fail)
    exact j _ _ xZ (ah.new w1 [Value.iface 31 (.pointer (some ⟨Y.tb 0,0,none⟩)),.int .i64 ((l0+32*k:Nat):Int),.int .i64 cc,.int .i64 oo,.int .u16 (gg:Int)] 134)
   ·refine l _ _ xZ (λw1 e1=> ?_);have a:=(ah.new w [Value.nilIface,.int .i64 0,.int .i64 0,.int .i64 0,.int .u16 ((0:Nat):Int)] 134).ext (Ext.trans (Ext.drew (Ext.refl _)) e1);have r:=a.lt;have hD:=abP a (Value.iface 31 (.pointer (some ⟨Y.tb 0,0,none⟩))) (.int .i64 ((l0+32*k:Nat):Int)) (.int .i64 cc) (.int .i64 oo) (.int .u16 (gg:Int));have z0:=a.cell (i:=0) (by simp);have z1:=a.cell (i:=1) (by simp);have z2:=a.cell (i:=2) (by simp);have z3:=a.cell (i:=3) (by simp);have z4:=a.cell (i:=4) (by simp);have q:=a.frz
    (repeat' first|refine am (λ_=> ?_) (λ_=> ?_)|refine ao ?_ ?_|refine zS6 z0 z1 z2 z3 z4 q ?_|exact yS6 z0 z1 z2 z3 z4 q|fail)
    exact j _ _ xZ hD
end
section
variable {w0 w w' w'':ap} {Y Y' Y'':Lay} {D D' D1:DS} {S b o cp l0 n k:Nat} {f f':Nat->Int×Int×Bool}
def ArS.wr1 (h:ArS w0 w Y D S b o cp l0 n f) (hk:k<n) (c:Int):ArS w0 (w.setCell ⟨b,o+k*4+1,none⟩ (.int .i64 c)) Y D S b o cp l0 n (upF f k (c,(f k).2)):=by
 have:=h.wr (i:=k*4+1) oM ((sR f l0 n k hk).1 c)
 rwa [<-bq] at this
def ArS.wr2 (h:ArS w0 w Y D S b o cp l0 n f) (hk:k<n) (c:Int):ArS w0 (w.setCell ⟨b,o+k*4+2,none⟩ (.int .i64 c)) Y D S b o cp l0 n (upF f k ((f k).1,c,(f k).2.2)):=by
 have:=h.wr (i:=k*4+2) oM ((sR f l0 n k hk).2.1 c)
 rwa [<-bq] at this
def ArS.wr3 (h:ArS w0 w Y D S b o cp l0 n f) (hk:k<n) (c:Bool):ArS w0 (w.setCell ⟨b,o+k*4+3,none⟩ (.bool c)) Y D S b o cp l0 n (upF f k ((f k).1,(f k).2.1,c)):=by
 have:=h.wr (i:=k*4+3) oM ((sR f l0 n k hk).2.2 c)
 rwa [<-bq] at this
def NE {α:Type} (f:Nat->α) (k:Nat) (u v:α):upF (upF f k u) k v=upF f k v:=by
 funext j;unfold upF;split<;>rfl
def ArS.wr12 (h:ArS w0 w Y D S b o cp l0 n f) (hk:k<n) (c t:Int):ArS w0 ((w.setCell ⟨b,o+k*4+1,none⟩ (.int .i64 c)).setCell ⟨b,o+k*4+2,none⟩ (.int .i64 t)) Y D S b o cp l0 n (upF f k (c,t,(f k).2.2)):=by
 have:=(h.wr1 hk c).wr2 hk t
 rwa [NE,cz] at this
def dR.wr12 (h:dR w Y b w' Y') (i j:Nat) (u v:aA):dR w Y b ((w'.setCell ⟨b,i,none⟩ u).setCell ⟨b,j,none⟩ v) Y':=(h.set i u).set j v
def afr (h:ArS w0 w Y D S b o cp l0 n f) (hk:k<n) {p:List Ins} {v:aA} (hs:SlO w 220 3 v p.length (inL p)) (nv:∀x,v.ownBlock=some x->¬Y.F x) (hp:∀i∈p,okI i) (hx:D.exe+p.length<1099511627775) (d:D1=D.run 0 p) (K:K1)
  (he:D1.err 0≠0->∀w' Y',dR w Y b w' Y'->ArS w0 w' Y' D1 S b o cp l0 n f->K (.int .i64 (D1.err 0)) w')
  (j:D1.err 0=0->∀w' Y',dR w Y b w' Y'->ArS w0 w' Y' D1 S b o cp l0 n (upF f k (-1,-1,(f k).2.2))->K (.int .i64 0) w'):
  ae prog 184 #[stV S,.pointer (some ⟨b,o+k*4,none⟩),v] w K:=by
 have l:aL D1:=by rw [d];exact aL.run 0 oM _ _ h.L.gd hp
 have n1:D1.n=D.n:=by rw [d];exact eV 0 _ D
 have s0:=h.c0;have g:∀(K:K1),(∀w' Y',Stp w Y w' Y' D1->K (.int .i64 (D1.err 0)) w')->ae prog 99 #[v,.iface 31 (.pointer (some ⟨Y.tb 0,0,none⟩))] w K:=λK hK=>by
  subst d;exact yK h.L.dv h.L.gd 0 oM p v hs nv hp hx K hK
 have m:∀w' Y',Stp w Y w' Y' D1->ArS w0 w' Y' D1 S b o cp l0 n f:=λw' Y' st=>h.step st l n1
 generalize D1.err 0=e at*;refine Rz _ _ _ _ _ ?_;unfold WZ;refine zS1 s0 ?_;refine g _ (λw1 Y1 st=> ?_);have h1:=m w1 Y1 st;have a1:=dR.of_stp b st;by_cases e0:e=0
 ·subst e0;have a:=h1.p hk;have q0:=a.1;have q1:=a.2.1;have q2:=a.2.2.1;have q3:=a.2.2.2;have fz:=h1.fz;have h2:=h1.wr1 hk (-1);have q:=h2.fz;have c:=h2.p hk;have r0:=c.1;have r1:=c.2.1;have r2:=c.2.2.1;have r3:=c.2.2.2;refine zS6 fz q1 q2 q r2 r2 ?_;exact j rfl _ Y1 (a1.wr12 _ _ _ _) (h1.wr12 hk (-1) (-1))
 ·refine zS1 e0 ?_;exact he e0 _ Y1 a1 h1
def afs (h:ArS w0 w Y D S b o cp l0 n f) (ag:AgF D l0 n f) (ho:D.off=false) (he:D.err 0=0) (hx:D.exe<1000000000) (K:K1)
  (hA:∀k,k<n->(f k).1<0->(∀j,j<k->¬(f j).1<0)->∀w',Ext w w'->K (.tuple #[.pointer (some ⟨b,o+k*4,none⟩),.int .i64 0]) w')
  (hB:(∀j,j<n->¬(f j).1<0)->∀k g D1,k<n->emG D l0 f k=some g->(∀j,j<k->emG D l0 f j=none)->D1=D.run 0 (cU (l0+32*k) g)->∀w' Y',dR w Y b w' Y'->(D1.err 0≠0->ArS w0 w' Y' D1 S b o cp l0 n f)->(D1.err 0=0->ArS w0 w' Y' D1 S b o cp l0 n (upF f k (-1,-1,(f k).2.2)))->K (.tuple #[.pointer (some ⟨b,o+k*4,none⟩),.int .i64 (D1.err 0)]) w')
  (hN:(∀j,j<n->¬(f j).1<0)->(∀j,j<n->emG D l0 f j=none)->∀w',Ext w w'->K (.tuple #[.pointer none,.int .i64 4]) w'):
  ae prog 156 #[stV S] w K:=by
 have J:=h.le;have G:=h.lt;have H:=h.L.gd.n;have s1:=h.c1;refine Rx _ _ _ ?_;unfold WW;refine zS1 s1 ?_;apply CF (I:=λz w'=>∃i:Nat,z= .int .i64 (i:Int)/\i<=n/\(∀j,j<i->¬(f j).1<0)/\Ext w w') (μ:=λz _=>n-(intOf z).toNat)
 ·exact ⟨0,rfl,by omega,λj hj=>absurd hj (cv _),xZ⟩
 ·intros;rename_i w1 hI E1 hE;obtain ⟨i,rfl,hi,l,e1⟩:=hI;have h1:=h.ext e1;have s1:=h1.c1;by_cases hin:i<n
  ·have c:=h1.p hin;have q0:=c.1;have q1:=c.2.1;have q2:=c.2.2.1;have q3:=c.2.2.2;have m:=hA i hin;have d:¬(f i).1<0->∀j,j<i+1->¬(f j).1<0:=λhc j hj=>by
    by_cases e:j=i
    ·rw [e];exact hc
    ·exact l j oM
   by_cases hc:(f i).1<0
   ·have m:=m hc l;generalize (f i).1=cc at q1 hc;unfold ms;refine zS3 s1 q1 hc ?_;exact m _ e1
   ·have d:=d hc;generalize (f i).1=cc at q1 hc;unfold ms;refine zS3 s1 q1 hc ?_;apply hE
    ·exact ⟨i+1,by simp,by omega,d,e1⟩
    ·simp [intOf];omega
  ·have:i=n:=oM;subst this;unfold ms;refine zS3 @JQ @zJ.eq_1 s1 ?_;apply CG (I:=λz w'=>∃q:Nat,z= .int .i64 (q:Int)/\q<=i/\(∀j,j<q->emG D l0 f j=none)/\Ext w w') (μ:=λz _=>i-(intOf z).toNat)
   ·exact ⟨0,rfl,by omega,λj hj=>absurd hj (cv _),e1⟩
   ·intros;rename_i w2 hI E2 B;obtain ⟨q,rfl,hq,a,e2⟩:=hI;have h2:=h.ext e2;have s0:=h2.c0;have s1:=h2.c1;by_cases hqi:q<i
    ·have E:=λg hg=>h2.emG_ok ag hqi (g:=g) hg
     have hB:=hB l q;have A:emG D l0 f q=none->∀j,j<q+1->emG D l0 f j=none:=λhc j hj=>by
      by_cases e:j=q
      ·rw [e];exact hc
      ·exact a j oM
     unfold qR;refine zS1 s1 ?_;refine JX h2 ag hqi ho he _ (λC w3 e3=> ?_) (λg hg g0 g6 v w3 e3 nv hs=> ?_)
     ·refine zS0 ?_;apply B
      ·exact ⟨q+1,by simp,by omega,A C,e2.trans e3⟩
      ·simp [intOf];omega
     ·have ok:∀i∈cU (l0+32*q) g,okI i:=by
       have y:=fN (hdX (-1) (-1) g) (qK oM oM oM oM g6);exact bE (λx hx=>by simp only [aa] at hx;subst hx;exact ⟨by simp only;omega,y⟩)
      have M:=kM (l0+32*q) g;obtain ⟨D1,t⟩:∃D1,D1=D.run 0 (cU (l0+32*q) g):=⟨_,rfl⟩;have hB:=hB g D1 hqi hg a t;have h3:=h2.ext e3;have nF:∀x,v.ownBlock=some x->¬Y.F x:=λx hx hf=>by have:=nv x hx;have:=h2.L.dv.lt hf;omega
      refine zS0 ?_;refine afr h3 hqi hs nF ok oM t _ (λu w4 Y4 a4 h4=> ?_) (λh0 w4 Y4 a4 h4=> ?_)
      ·have r:=(dR.of_ext Y b (e2.trans e3)).trans a4;have hB:=hB w4 Y4 r (λ_=>h4) (λh=>absurd h u);refine zS0 ?_;exact hB
      ·have r:=(dR.of_ext Y b (e2.trans e3)).trans a4;have hB:=hB w4 Y4 r (λh=>absurd h0 h) (λ_=>h4);rw [h0] at hB;refine zS0 ?_;exact hB
    ·have:q=i:=oM;subst this;have s:=h2.er;rw [he] at s;unfold qR;refine wQ @JR @zK.eq_1 s0 s ?_;exact hN l a _ e2
end
def Xa {l n g:Nat} {c o:Int} (hl:l+32<=n) (hn:n<=4096) (c0:0<=c) (c5:c<5) (o0:0<=o) (o8:o<8) (hg:g<65536):∀i∈planI l c o g,okI i:=by
 have hb:=fN (dB g 0 176) (ox hg oM oM);have hd:=fN (hdX c o g) (qK oM c5 oM o8 hg);intro i hi;unfold planI at hi;rcases List.mem_append.1 hi with hi|hi
 ·refine bE (λx hx=>⟨by have:=jc hl c0 c5 g x hx;omega,?_⟩) i hi;rcases List.mem_append.1 hx with hx|hx
  ·obtain ⟨j,hj,rfl⟩:=List.mem_map.1 hx;exact hb
  ·obtain ⟨j,hj,rfl⟩:=List.mem_map.1 hx;simp only;omega
 ·exact bE (λx hx=>by simp only [aa] at hx;subst hx;exact ⟨by simp only;omega,hd⟩) i hi
def NF (D:DS) (l0 n:Nat) (f:Nat->Int×Int×Bool) (c t:Int) (D2:DS) (f2:Nat->Int×Int×Bool) (r e:Int):Prop:=
 (∃k,k<n/\(f k).1<0/\(∀j,j<k->¬(f j).1<0)/\D2=D.run 0 (planI (l0+32*k) c t (gX (wd D (l0+32*k) 0)))/\((D2.err 0≠0/\f2=f/\r=0/\e=D2.err 0)\/(D2.err 0=0/\f2=upF f k (c,t,(f k).2.2)/\r=((l0+32*k:Nat):Int)/\e=0)))\/
 ((∀j,j<n->¬(f j).1<0)/\∃k g D1,k<n/\emG D l0 f k=some g/\(∀j,j<k->emG D l0 f j=none)/\D1=D.run 0 (cU (l0+32*k) g)/\((D1.err 0≠0/\D2=D1/\f2=f/\r=0/\e=D1.err 0)\/(D1.err 0=0/\D2=D1.run 0 (planI (l0+32*k) c t g)/\((D2.err 0≠0/\f2=upF f k (-1,-1,(f k).2.2)/\r=0/\e=D2.err 0)\/(D2.err 0=0/\f2=upF f k (c,t,(f k).2.2)/\r=((l0+32*k:Nat):Int)/\e=0)))))\/
 ((∀j,j<n->¬(f j).1<0)/\(∀j,j<n->emG D l0 f j=none)/\D2=D/\f2=f/\r=0/\e=4)
section
variable {w0 w w' w'':ap} {Y Y' Y'':Lay} {D D' D1 D2:DS} {S b o cp l0 n k g:Nat} {f f' f1:Nat->Int×Int×Bool} {c t:Int}
def ads (h:ArS w0 w Y D S b o cp l0 n f) (hk:k<n) (c0:0<=c) (c5:c<5) (t0:0<=t) (t8:t<8) (g0:g≠0) (g6:g<65536) (hx:D.exe<2000000000) {N:Nat} {cc oo:Int} (hN:ah w N 132 3 (λi=> [Value.int .i64 cc,.int .i64 oo,.int .u16 (g:Int)].getD i undef)) (r:D2=D.run 0 (planI (l0+32*k) c t g)) (K:K1)
  (he:D2.err 0≠0->∀w' Y',dR w Y b w' Y'->ArS w0 w' Y' D2 S b o cp l0 n f->K (.tuple #[.int .i64 0,.int .i64 (D2.err 0)]) w')
  (y:D2.err 0=0->∀w' Y',dR w Y b w' Y'->ArS w0 w' Y' D2 S b o cp l0 n (upF f k (c,t,(f k).2.2))->K (.tuple #[.int .i64 ((l0+32*k:Nat):Int),.int .i64 0]) w'):
  mn K (stV S) (.int .i64 t) (.int .i64 c) (.pointer (some ⟨b,o+k*4,none⟩)) (.int .i64 0) (.pointer (some ⟨N,0,none⟩)) w:=by
 have C:=h.L.gd.n;have F:=h.lt;have q:=Xa (l:=l0+32*k) (n:=D.n) oM C c0 c5 t0 t8 g6;have E:=uU (l0+32*k) c0 c5 t g;have A:aL D2:=by rw [r];exact aL.run 0 oM _ _ h.L.gd q
 have n2:D2.n=D.n:=by rw [r];exact eV 0 _ D
 have s0:=h.c0;have d:=h.p hk;have q0:=d.1;have q1:=d.2.1;have q2:=d.2.2.1;have q3:=d.2.2.2;have d2:w.cell? ⟨N,2,none⟩=some (.int .u16 (g:Int)):=hN.cell (i:=2) oM;have u:∀(v:aA) (w1:ap) (K:K1),Ext w w1->SlO w1 220 3 v (planI (l0+32*k) c t g).length (inL (planI (l0+32*k) c t g))->bh w.heap.size v->(∀w' Y',Stp w Y w' Y' D2->K (.int .i64 (D2.err 0)) w')->ae prog 99 #[v,.iface 31 (.pointer (some ⟨Y.tb 0,0,none⟩))] w1 K:=λv w1 K e1 hs nv hK=>by
  subst r;exact yK (h.L.dv.ext e1) h.L.gd 0 oM _ v hs (λx hx hf=>by have:=nv x hx;have:=h.L.dv.lt hf;omega) q oM K (λw' Y' st=>hK w' Y' (Stp.pre e1 (λx hx=>h.L.dv.lt hx) st))
 have B:∀w' Y',Stp w Y w' Y' D2->ArS w0 w' Y' D2 S b o cp l0 n f:=λw' Y' st=>h.step st A n2
 generalize D2.err 0=e at*;rw [JI];unfold zu
 (repeat' first|refine am (λ_=> ?_) (λ_=> ?_)|refine ao ?_ ?_|refine zS2 q0 d2 ?_|exact yS2 q0 d2|fail)
 refine afb ((h.gl.ext h.L.ex).ext xZ) (l0+32*k) c t g oM c0 c5 t0 t8 g0 g6 _ (λv w1 hs e1 nv=> ?_);have s:Ext w w1:=Ext.trans xZ e1;have s0:=(h.ext s).c0
 (repeat' first|refine am (λ_=> ?_) (λ_=> ?_)|refine ao ?_ ?_|refine zS1 s0 ?_|exact yS1 s0|fail)
 refine u v _ _ s hs (λx hx=>by have:=nv x hx;simpa only [RZ] using this) (λw2 Y2 st=> ?_);have h2:=B w2 Y2 st;have a2:=dR.of_stp b st;by_cases e0:e=0
 ·subst e0;have a:=h2.p hk;have q0:=a.1;have q1:=a.2.1;have q2:=a.2.2.1;have q3:=a.2.2.2;have fz:=h2.fz;have h3:=h2.wr1 hk c;have z:=h3.fz;have m:=h3.p hk;have r0:=m.1;have r1:=m.2.1;have r2:=m.2.2.1;have r3:=m.2.2.2;have h4:=h2.wr12 hk c t;have j:=h4.p hk;have u0:=j.1;have u1:=j.2.1;have u2:=j.2.2.1;have u3:=j.2.2.2;refine zS6 fz q1 q2 z r2 u0 ?_;exact y rfl _ Y2 (a2.wr12 _ _ _ _) h4
 ·refine zS1 e0 ?_;exact he e0 _ Y2 a2 h2
def abQ (h:ArS w0 w Y D S b o cp l0 n f) (ag:AgF D l0 n f) (ho:D.off=false) (he:D.err 0=0) (hx:D.exe<1000000000) (t0:0<=t) (t8:t<8) (c0:0<=c) (c5:c<5) (K:K1)
  (hK:∀D2 f2 r e,NF D l0 n f c t D2 f2 r e->∀w' Y',dR w Y b w' Y'->ArS w0 w' Y' D2 S b o cp l0 n f2->K (.tuple #[.int .i64 r,.int .i64 e]) w'):
  ae prog 116 #[stV S,.int .i64 t,.int .i64 c] w K:=by
 have hG:bB w:=h.gl.ext h.L.ex;have a4:=h.L.gd.n;have X:=h.lt;have hp:=cy c w;have a2:=aM c0 c5;have s0:=h.c0;have O:=h.er;rw [he] at O;have hz:¬perS c=0:=oM;have W:=ag;generalize perS c=pc at*;refine Rq _ _ _ _ _ ?_;unfold WP;refine eI hp hG hz s0 O he ?_;refine afs h ag ho he hx _ (λk hk hf m w1 e1=> ?_) (λm k g D1 hk M q C w1 Y1 a1 P J=> ?_) (λm q w1 e1=> ?_)
 ·have hd:=uV (ag k hk).1;have R:=(ag k hk).1;have g6:gX (wd D (l0+32*k) 0)<65536:=by unfold gX;omega
  have hK:=λD2 f2 r e hr=>hK D2 f2 r e (.inl ⟨k,hk,hf,m,hr⟩)
  have h1:=h.ext e1;have s0:=h1.c0;have x:=h1.p hk;have q0:=x.1;have q1:=x.2.1;have q2:=x.2.2.1;have q3:=x.2.2.2;have z:=h1.ltb;have I:=h1.ltS;have A:∀(w2:ap) (N:Nat),Ext w w2->ah w2 N 132 3 (λi=> [Value.int .i64 (hC (wd D (l0+32*k) 0)),.int .i64 (hO (wd D (l0+32*k) 0)),.int .u16 (gX (wd D (l0+32*k) 0):Int)].getD i undef)->mn K (stV S) (.int .i64 t) (.int .i64 c) (.pointer (some ⟨b,o+k*4,none⟩)) (.int .i64 0) (.pointer (some ⟨N,0,none⟩)) w2:=λw2 N e2 hN=>by
   refine ads (h.ext e2) hk c0 c5 t0 t8 hd.2.2.1 g6 oM hN rfl K (λG w3 Y3 a3 h3=> ?_) (λh0 w3 Y3 a3 h3=> ?_)
   ·exact hK _ _ _ _ ⟨rfl,.inl ⟨G,rfl,rfl,rfl⟩⟩ w3 Y3 ((dR.of_ext Y b e2).trans a3) h3
   ·exact hK _ _ _ _ ⟨rfl,.inr ⟨h0,rfl,rfl,rfl⟩⟩ w3 Y3 ((dR.of_ext Y b e2).trans a3) h3
  have j:=λ(w2:ap) (e2:Ext w w2) (K1:K1) hk2=>Cq (h.L.dv.ext e2) h.L.gd (hG.ext e2) ho he (l0+32*k) oM R K1 hk2
  unfold thV at j;generalize hC (wd D (l0+32*k) 0)=cc at*;generalize hO (wd D (l0+32*k) 0)=oo at*;generalize gX (wd D (l0+32*k) 0)=gg at*
  (repeat' first|refine am (λ_=> ?_) (λ_=> ?_)|refine ao ?_ ?_|refine zS2 s0 q0 ?_|exact yS2 s0 q0|fail)
  ·refine j _ xZ _ (λw2 e2=> ?_);have d:Ext w1 w2:=Ext.trans xZ e2;have s0:=(h1.ext d).c0;have u:=(h1.ext d).p hk;have q0:=u.1;have q1:=u.2.1;have q2:=u.2.2.1;have q3:=u.2.2.2;have z:=(h1.ext d).ltb;have I:=(h1.ext d).ltS
   (repeat' first|refine am (λ_=> ?_) (λ_=> ?_)|refine ao ?_ ?_|refine zS2 s0 q0 ?_|exact yS2 s0 q0|fail)
   exact A _ _ xZ (ah.new w2 [Value.int .i64 cc,.int .i64 oo,.int .u16 (gg:Int)] 132)
  ·refine j _ xZ _ (λw2 e2=> ?_);have a:=(ah.new w1 [Value.int .i64 0,.int .i64 0,.int .u16 ((0:Nat):Int)] 132).ext (Ext.trans (Ext.drew (Ext.refl _)) e2);have z:=a.lt;have hD:=ND a (Value.int .i64 cc) (.int .i64 oo) (.int .u16 (gg:Int));have z0:=a.cell (i:=0) (by simp);have z1:=a.cell (i:=1) (by simp);have z2:=a.cell (i:=2) (by simp);have B:=a.frz;have a0:=e1.size
   (repeat' first|refine am (λ_=> ?_) (λ_=> ?_)|refine ao ?_ ?_|refine zS4 z0 z1 z2 B ?_|exact yS4 z0 z1 z2 B|fail)
   exact A _ _ xZ hD
 ·have F:=h.emG_ok ag hk M;have hK:=λD2 f2 r e hr=>hK D2 f2 r e (.inr (.inl ⟨m,k,g,D1,hk,M,q,C,hr⟩))
  by_cases h0:D1.err 0=0
  ·have h1:=J h0;have H:=sU (l:=l0+32*k) (g:=g) ho he oM (by rw [<-C];exact h0);rw [<-C] at H;have T:wd D1 (l0+32*k) 0=sealN (hdX (-1) (-1) g):=by unfold wd;rw [H.1];simp
   have E:=Cp F.2.2.2.1 F.2.2.2.2;rw [<-T] at E;have Z:D1.exe<2000000000:=by rw [C];have:=fJ 0 (cU (l0+32*k) g) D;have:=kM (l0+32*k) g;omega
   have n1:D1.n=D.n:=by rw [C];exact eV 0 _ D
   have s0:=h1.c0;have y:=h1.p hk;have q0:=y.1;have q1:=y.2.1;have q2:=y.2.2.1;have q3:=y.2.2.2;have z:=h1.ltb;have I:=h1.ltS;have U:bB w1:=h1.gl.ext h1.L.ex;have V:∀v,upF (upF f k (-1,-1,(f k).2.2)) k v=upF f k v:=λv=>NE f k _ v
   have A:∀(w2:ap) (N:Nat),Ext w1 w2->ah w2 N 132 3 (λi=> [Value.int .i64 (-1),.int .i64 (-1),.int .u16 (g:Int)].getD i undef)->mn K (stV S) (.int .i64 t) (.int .i64 c) (.pointer (some ⟨b,o+k*4,none⟩)) (.int .i64 0) (.pointer (some ⟨N,0,none⟩)) w2:=λw2 N e2 hN=>by
    refine ads (h1.ext e2) hk c0 c5 t0 t8 F.2.2.2.1 F.2.2.2.2 oM hN rfl K (λG w3 Y3 a3 h3=> ?_) (λQ w3 Y3 a3 h3=> ?_)
    ·exact hK _ _ _ _ (.inr ⟨h0,rfl,.inl ⟨G,rfl,rfl,rfl⟩⟩) w3 Y3 (a1.trans ((dR.of_ext Y1 b e2).trans a3)) h3
    ·rw [V,cz] at h3;exact hK _ _ _ _ (.inr ⟨h0,rfl,.inr ⟨Q,rfl,rfl,rfl⟩⟩) w3 Y3 (a1.trans ((dR.of_ext Y1 b e2).trans a3)) h3
   have j:=λ(w2:ap) (e2:Ext w1 w2) (K1:K1) hk2=>Cq (h1.L.dv.ext e2) h1.L.gd (U.ext e2) H.2 h0 (l0+32*k) oM E.1 K1 hk2
   rw [E.2.1,E.2.2.1,E.2.2.2] at j;unfold thV at j;rw [h0]
   (repeat' first|refine am (λ_=> ?_) (λ_=> ?_)|refine ao ?_ ?_|refine zS2 s0 q0 ?_|exact yS2 s0 q0|fail)
   ·refine j _ xZ _ (λw2 e2=> ?_);have d:Ext w1 w2:=Ext.trans xZ e2;have s0:=(h1.ext d).c0;have s:=(h1.ext d).p hk;have q0:=s.1;have q1:=s.2.1;have q2:=s.2.2.1;have q3:=s.2.2.2;have z:=(h1.ext d).ltb;have I:=(h1.ext d).ltS
    (repeat' first|refine am (λ_=> ?_) (λ_=> ?_)|refine ao ?_ ?_|refine zS2 s0 q0 ?_|exact yS2 s0 q0|fail)
    exact A _ _ xZ (ah.new w2 [Value.int .i64 (-1),.int .i64 (-1),.int .u16 (g:Int)] 132)
   ·refine j _ xZ _ (λw2 e2=> ?_);have a:=(ah.new w1 [Value.int .i64 0,.int .i64 0,.int .u16 ((0:Nat):Int)] 132).ext (Ext.trans (Ext.drew (Ext.refl _)) e2);have z:=a.lt;have hD:=ND a (Value.int .i64 (-1)) (.int .i64 (-1)) (.int .u16 (g:Int));have z0:=a.cell (i:=0) (by simp);have z1:=a.cell (i:=1) (by simp);have z2:=a.cell (i:=2) (by simp);have B:=a.frz
    (repeat' first|refine am (λ_=> ?_) (λ_=> ?_)|refine ao ?_ ?_|refine zS4 z0 z1 z2 B ?_|exact yS4 z0 z1 z2 B|fail)
    exact A _ _ xZ hD
  ·have h1:=P h0;have hK:=hK D1 f 0 (D1.err 0) (.inl ⟨h0,rfl,rfl,rfl,rfl⟩) w1 Y1 a1 h1;generalize D1.err 0=e at*;refine zS1 h0 ?_;exact hK
 ·refine zS0 ?_;exact hK _ _ _ _ (.inr (.inr ⟨m,q,rfl,rfl,rfl,rfl⟩)) w1 Y (dR.of_ext Y b e1) (h.ext e1)
end
structure RgS (D:DS) (l0 n:Nat) (f:Nat->Int×Int×Bool):Prop where
 on:On D
 gd:aL D
 lt:l0+32*n<=D.n
 ag:AgF D l0 n f
 sn:∀k,k<n->0<=(f k).1->Snd D (l0+32*k) (f k).1 (f k).2.1
structure wY (D:DS) (l0 n:Nat) (f:Nat->Int×Int×Bool) (c t:Int) (D2:DS) (f2:Nat->Int×Int×Bool) (k g:Nat):Prop where
 kn:k<n
 fe:f2=upF f k (c,t,(f k).2.2)
 g0:g≠0
 g6:g<65536
 oth:∀j,j<n->j≠k->∀i,i<256->wd D2 (l0+32*j) i=wd D (l0+32*j) i
 own:∀i,i<256->wd D2 (l0+32*k) i=jd c t g (wd D (l0+32*k)) i
 how:((f k).1<0/\(∀j,j<k->¬(f j).1<0)/\g=gX (wd D (l0+32*k) 0))\/((∀j,j<n->¬(f j).1<0)/\emG D l0 f k=some g/\∀j,j<k->emG D l0 f j=none)
section
variable {D D2:DS} {l0 n k g:Nat} {f f2:Nat->Int×Int×Bool} {c t r e:Int}
def Snd.congr {l:Nat} {o:Int} (h:Snd D l c o) (c0:0<=c) (c5:c<5) (e:∀j,j<256->wd D2 l j=wd D l j):Snd D2 l c o:=by
 have b:=λ(i:Nat) (hi:(i:Int)<perS c)=>e _ (aH c0 c5 hi).2.2
 refine ⟨by rw [e 0 oM];exact h.hd,by rw [e 0 oM];exact h.hc,by rw [e 0 oM];exact h.ho,λj h2 h8=>by rw [e j oM];exact h.zer j h2 h8,λi hi=>by rw [b i hi];exact h.sl i hi,λi hi=>by rw [b i hi];exact h.gd i hi,λi hi=> ?_⟩;rw [e 1 oM,h.bit i hi];by_cases hp:(i:Int)<perS c
 ·rw [b i hp]
 ·rw [decide_eq_false hp,cA,cA]
def RgS.cls (h:RgS D l0 n f) (hk:k<n):(f k).1<5/\-1<=(f k).1:=by
 have ha:=h.ag k hk;have:=uV ha.1;rw [ha.2.1];exact ⟨this.1,this.2.2.2⟩
def RgS.upd (h:RgS D l0 n f) (on:On D2) (gd:aL D2) (hn:D2.n=D.n) (hk:k<n) (a:∀j,j<n->j≠k->∀i,i<256->wd D2 (l0+32*j) i=wd D (l0+32*j) i) (hd:eO (wd D2 (l0+32*k) 0)=true/\hC (wd D2 (l0+32*k) 0)=c/\hO (wd D2 (l0+32*k) 0)=t) (sn:0<=c->Snd D2 (l0+32*k) c t) (b:Bool):RgS D2 l0 n (upF f k (c,t,b)):=by
 refine ⟨on,gd,by rw [hn];exact h.lt,λj hj=> ?_,λj hj h0=> ?_⟩
 ·by_cases ej:j=k
  ·subst ej;rw [cz];exact ⟨hd.1,hd.2.1.symm,hd.2.2.symm⟩
  ·rw [dr _ _ ej,a j hj ej 0 oM];exact h.ag j hj
 ·by_cases ej:j=k
  ·subst ej;rw [cz] at h0 ⊢;exact sn h0
  ·rw [dr _ _ ej] at h0 ⊢;exact (h.sn j hj h0).congr h0 (h.cls hj).1 (a j hj ej)
def Xb {l l':Nat} {W:Nat->Nat} (h:D2.cur=λj=>if l*8<=j/\j<l*8+256 then W (j-l*8) else D.cur j):(∀i,i<256->wd D2 l i=W i)/\((l'+32<=l\/l+32<=l')->∀i,i<256->wd D2 l' i=wd D l' i):=by
 refine ⟨λi hi=> ?_,λhl i hi=> ?_⟩
 ·unfold wd;rw [h];simp only;rw [if_pos oM,show l*8+i-l*8=i by omega]
 ·unfold wd;rw [h];simp only;rw [if_neg oM]
def Xc {l l' x:Nat} (h:D2.cur=λj=>if j=l*8 then x else D.cur j):(∀i,i<256->wd D2 l i=if i=0 then x else wd D l i)/\((l'+32<=l\/l+32<=l')->∀i,i<256->wd D2 l' i=wd D l' i):=by
 refine ⟨λi hi=> ?_,λhl i hi=> ?_⟩
 ·unfold wd;rw [h];simp only;by_cases h0:i=0
  ·rw [if_pos oM,if_pos h0]
  ·rw [if_neg oM,if_neg h0]
 ·unfold wd;rw [h];simp only;rw [if_neg oM]
def CM (h:RgS D l0 n f) (hk:k<n) {g:Nat} (he:emG D l0 f k=some g):0<=(f k).1/\(f k).1<5/\(f k).2.2=false/\g≠0/\g<65536:=by
 have hc:=h.cls hk;unfold emG at he;by_cases h1:(f k).1<0
 ·rw [if_pos h1] at he;cases he
 ·rw [if_neg h1] at he;by_cases h2:(f k).2.2=true
  ·rw [if_pos h2] at he;cases he
  ·rw [if_neg h2] at he;have hp:=aM (show 0<=(f k).1 by omega) hc.1;split at he
   ·rename_i h3;injection he with he;subst he;exact ⟨by omega,hc.1,by simpa using h2,JW h3 oM,JV _⟩
   ·cases he
def agI (h:RgS D l0 n f) (c0:0<=c) (c5:c<5) (t0:0<=t) (t8:t<8) (hr:NF D l0 n f c t D2 f2 r e):
  (e=4/\r=0/\D2=D/\f2=f/\(∀j,j<n->¬(f j).1<0)/\(∀j,j<n->emG D l0 f j=none))\/
  (e=0/\∃k g,r=((l0+32*k:Nat):Int)/\wY D l0 n f c t D2 f2 k g/\RgS D2 l0 n f2/\D2.n=D.n/\D2.exe<=D.exe+210):=by
 have y:=h.lt;rcases hr with ⟨k,hk,hf,m,a,hr⟩|⟨m,k,g,D1,hk,v,u,p,hr⟩|⟨h1,h2,h3,h4,h5,h6⟩
 ·right;have ha:=h.ag k hk;have hd:=uV ha.1;have g6:gX (wd D (l0+32*k) 0)<65536:=by unfold gX;omega
  obtain ⟨g,hg⟩:∃g,g=gX (wd D (l0+32*k) 0):=⟨_,rfl⟩;rw [<-hg] at a hd g6;have pg:=EK h.on h.gd (l:=l0+32*k) (c:=c) (o:=t) (g:=g) oM c0 c5 t0 t8 hd.2.2.1 g6;rw [<-a] at pg;have pc:=EO (l:=l0+32*k) (c:=c) (o:=t) (g:=g) h.on.off h.on.err oM c0 c5 (by rw [<-a];exact pg.1.err);rw [<-a] at pc;have hx:=fJ 0 (planI (l0+32*k) c t g) D;rw [<-a] at hx;have hl:=uU (l0+32*k) c0 c5 t g;rcases hr with ⟨he,_⟩|⟨_,d,s,q⟩
  ·exact absurd pg.1.err he
  ·have w1:=λl'=>Xb (l':=l') pc.1
   have ok:wY D l0 n f c t D2 f2 k g:=⟨hk,d,hd.2.2.1,g6,λj hj w=>(w1 (l0+32*j)).2 oM,(w1 0).1,.inl ⟨hf,m,hg⟩⟩;refine ⟨q,k,g,s,ok,?_,pg.2.2.1,by omega⟩;rw [d];have hs:=pg.2.2.2.2.1;exact h.upd pg.1 pg.2.1 pg.2.2.1 hk ok.oth ⟨hs.hd,hs.hc,hs.ho⟩ (λ_=>hs) _
 ·right;have b:=CM h hk v;have cg:=mt h.on h.gd (l:=l0+32*k) (g:=g) oM b.2.2.2.2;rw [<-p] at cg;have cc:=sU (l:=l0+32*k) (g:=g) h.on.off h.on.err oM (by rw [<-p];exact cg.1.err);rw [<-p] at cc;have x:=fJ 0 (cU (l0+32*k) g) D;rw [<-p] at x;have z:=kM (l0+32*k) g;rcases hr with ⟨he,_⟩|⟨_,a,hr⟩
  ·exact absurd cg.1.err he
  ·have pg:=EK cg.1 cg.2.1 (l:=l0+32*k) (c:=c) (o:=t) (g:=g) (by rw [cg.2.2.1];omega) c0 c5 t0 t8 b.2.2.2.1 b.2.2.2.2;rw [<-a] at pg;have pc:=EO (l:=l0+32*k) (c:=c) (o:=t) (g:=g) cg.1.off cg.1.err (by rw [cg.2.2.1];omega) c0 c5 (by rw [<-a];exact pg.1.err);rw [<-a] at pc;have hx:=fJ 0 (planI (l0+32*k) c t g) D1;rw [<-a] at hx;have hl:=uU (l0+32*k) c0 c5 t g;rcases hr with ⟨he,_⟩|⟨_,d,s,q⟩
   ·exact absurd pg.1.err he
   ·have w0:=λl'=>Xc (l':=l') cc.1
    have w1:=λl'=>Xb (l':=l') pc.1
    have ok:wY D l0 n f c t D2 f2 k g:=⟨hk,d,b.2.2.2.1,b.2.2.2.2,λj hj w i hi=>by rw [(w1 (l0+32*j)).2 oM i hi,(w0 (l0+32*j)).2 oM i hi],λi hi=>by
     rw [(w1 0).1 i hi];unfold jd;by_cases h0:i=0
     ·rw [if_pos h0,if_pos h0]
     ·rw [if_neg h0,if_neg h0,(w0 0).1 i hi,if_neg h0],.inr ⟨m,v,u⟩⟩
    refine ⟨q,k,g,s,ok,?_,pg.2.2.1.trans cg.2.2.1,by omega⟩;rw [d];have hs:=pg.2.2.2.2.1;exact h.upd pg.1 pg.2.1 (pg.2.2.1.trans cg.2.2.1) hk ok.oth ⟨hs.hd,hs.hc,hs.ho⟩ (λ_=>hs) _
 ·exact .inl ⟨h6,h5,h3,h4,h1,h2⟩
end
section
variable {D D2:DS} {l0 n k g:Nat} {f f2:Nat->Int×Int×Bool} {c t r e:Int} {ws:List (Nat×Nat)}
def Cov (C:Co):Prop:=∀l:Nat,C.hist l= []\/C.notes ((l:Nat):Int)=some (C.done l+(C.hist l).length)
def Cov.fe {C:Co} (h:Cov C) (j:J1 C):Cln C.fe:=by
 refine (j.fe (λl=> ?_)).1;rcases h l with h1|h1
 ·rw [h1];simp
 ·unfold Co.due;rw [h1];simp only;omega
def fK {p:List (Nat×Nat)} (on:On D) (hv:∀x∈p,x.1%8=0/\x.1<D.n*64) (hc:Cln D.co):Cln (D.run 0 (ay p)).co:=by
 have o:=(On.stores on p hv).1;rw [(sT on.off on.err (fP hv) o.err).1];exact (JT hc p).1
def NG (on:On D) (gd:aL D) {l:Nat} (hl:l+32<=D.n) (hc:Cln D.co):Cln (D.run 0 (cU l g)).co:=
 fK on (λx hx=>by simp only [aa] at hx;subst hx;simp only;omega) hc
def EP (on:On D) (gd:aL D) {l:Nat} (hl:l+32<=D.n) (c0:0<=c) (c5:c<5) {o:Int} (hc:Cln D.co):Cln (D.run 0 (planI l c o g)).co:=by
 have h1:=On.stores on (du l c g) (λx hx=>by have:=jc hl c0 c5 g x hx;exact ⟨this.1,this.2.1⟩);have c1:=fK on (p:=du l c g) (λx hx=>by have:=jc hl c0 c5 g x hx;exact ⟨this.1,this.2.1⟩) hc;unfold planI;rw [cX];have n1:(D.run 0 (ay (du l c g))).n=D.n:=eV 0 _ D;exact fK h1.1 (λx hx=>by simp only [aa] at hx;subst hx;rw [n1];simp only;omega) c1
def aft (h:RgS D l0 n f) (c0:0<=c) (c5:c<5) (hr:NF D l0 n f c t D2 f2 r e) (hc:Cln D.co):Cln D2.co:=by
 have o:=h.lt;rcases hr with ⟨k,hk,hf,b,a,hr⟩|⟨b,k,g,D1,hk,d,m,i,hr⟩|⟨_,_,h3,_⟩
 ·rw [a];exact EP h.on h.gd oM c0 c5 hc
 ·have j:=CM h hk d;have cg:=mt h.on h.gd (l:=l0+32*k) (g:=g) oM j.2.2.2.2;have c1:=NG (g:=g) h.on h.gd (l:=l0+32*k) oM hc;rw [<-i] at cg c1;rcases hr with ⟨_,a,_⟩|⟨_,a,_⟩
  ·rw [a];exact c1
  ·rw [a];exact EP cg.1 cg.2.1 (by rw [cg.2.2.1];omega) c0 c5 c1
 ·rw [h3];exact hc
def CN (on:On D) (gd:aL D) (hl:l0+32*n<=D.n) (hc:Cln D.co):∀m,m<=n->Cln (iG D l0 m).co
 |0,_=>hc
 |m+1,hm=>by
  obtain ⟨h1,h2,h3,h4⟩:=mu on gd hl m oM;exact NG h1 h2 oM (CN on gd hl hc m oM)
end
def enL:Nat->List (Nat×Nat)->List (Nat×Nat)
 |_,[]=> []
 |i,x::r=>(64+16*i,x.1)::(64+16*i+8,x.2)::enL (i+1) r
def cmI (c:Nat) (ws:List (Nat×Nat)):List Ins:=(ay (enL 0 ws)++ay [(0,c)])++(ay ws++ay [(0,0)])
section
variable {D:DS} {ws:List (Nat×Nat)} {c:Nat}
def uW:∀(ws:List (Nat×Nat)) (f h:Nat->Nat) (x:Nat),f x=h x->aF ws f x=aF ws h x
 | [],f,h,x,e=>e
 |y::ws,f,h,x,e=>by
  rw [bR,bR];refine uW ws _ _ x ?_;show (if x=y.1/8 then y.2 else f x)=if x=y.1/8 then y.2 else h x
  by_cases e2:x=y.1/8
  ·rw [if_pos e2,if_pos e2]
  ·rw [if_neg e2,if_neg e2];exact e
def CO:∀(i:Nat) (ws:List (Nat×Nat)),(enL i ws).length=2*ws.length
 |_,[]=>rfl
 |i,x::r=>by simp only [enL,cq,CO (i+1) r];omega
def oI:∀{i:Nat} {ws:List (Nat×Nat)} {y:Nat×Nat},y∈enL i ws->(64+16*i<=y.1/\y.1<64+16*(i+ws.length)/\y.1%8=0)/\∃x∈ws,y.2=x.1\/y.2=x.2
 |_,[],y,h=>by cases h
 |i,x::r,y,h=>by
  simp only [enL,eq] at h;simp only [cq];rcases h with rfl|rfl|h
  ·exact ⟨by simp only;omega,x,by simp,.inl rfl⟩
  ·exact ⟨by simp only;omega,x,by simp,.inr rfl⟩
  ·obtain ⟨h1,z,hz,h2⟩:=oI h;exact ⟨by omega,z,by simp [hz],h2⟩
structure uX (n:Nat) (ws:List (Nat×Nat)):Prop where
 ok:∀x∈ws,x.1%8=0/\x.1<n*64/\1664<=x.1/\x.2<18446744073709551616
 len:ws.length<=96
def Xd (h:uX D.n ws) (hn:D.n<=4096) (hc:c<18446744073709551616):∀i∈cmI c ws,okI i:=by
 intro i hi;unfold cmI at hi;have hl:=h.len;rcases List.mem_append.1 hi with hi|hi
 ·rcases List.mem_append.1 hi with hi|hi
  ·refine bE (λx hx=> ?_) i hi;obtain ⟨h1,z,hz,h2⟩:=oI hx;have:=h.ok z hz;refine ⟨by omega,?_⟩;rcases h2 with h2|h2<;>omega
  ·exact bE (λx hx=>by simp only [aa] at hx;subst hx;exact ⟨by simp only;omega,hc⟩) i hi
 ·rcases List.mem_append.1 hi with hi|hi
  ·exact bE (λx hx=>by have:=h.ok x hx;exact ⟨by omega,this.2.2.2⟩) i hi
  ·exact bE (λx hx=>by simp only [aa] at hx;subst hx;simp only;omega) i hi
def Xe (h:uX D.n ws):(cmI c ws).length<=1000:=by
 have h1:=aY (enL 0 ws);have h2:=aY [((0:Nat),c)];have h3:=aY ws;have h4:=aY [((0:Nat),(0:Nat))];rw [CO] at h1;have:=h.len;unfold cmI;simp only [bb,cd] at*;omega
def afu (h:uX D.n ws) (a:26<=D.n):∀x∈enL 0 ws,x.1%8=0/\x.1<D.n*64:=λx hx=>by
 obtain ⟨h1,_⟩:=oI hx;have:=h.len;exact ⟨h1.2.2,by omega⟩
def afv (on:On D) (gd:aL D) (d:26<=D.n) (h:uX D.n ws) (hc:c<18446744073709551616):
  On (D.run 0 (cmI c ws))/\aL (D.run 0 (cmI c ws))/\(D.run 0 (cmI c ws)).n=D.n/\(D.run 0 (cmI c ws)).exe<=D.exe+1000/\(∀j,208<=j->(D.run 0 (cmI c ws)).cur j=aF ws D.cur j)/\(D.run 0 (cmI c ws)).cur 0=0/\(Cln D.co->Cln (D.run 0 (cmI c ws)).co):=by
 have hl:=h.len;have g:=gd.n;have v1:=afu h d;have o1:=On.stores on (enL 0 ws) v1;have n1:(D.run 0 (ay (enL 0 ws))).n=D.n:=eV 0 _ D;have v2:∀x∈ [((0:Nat),c)],x.1%8=0/\x.1<D.n*64:=λx hx=>by simp only [aa] at hx;subst hx;exact ⟨rfl,by show 0<D.n*64;omega⟩
 have o2:=On.stores o1.1 [(0,c)] (by rw [n1];exact v2);have n2:((D.run 0 (ay (enL 0 ws))).run 0 (ay [(0,c)])).n=D.n:=(eV 0 _ _).trans n1;have v3:∀x∈ws,x.1%8=0/\x.1<D.n*64:=λx hx=>⟨(h.ok x hx).1,(h.ok x hx).2.1⟩
 have o3:=On.stores o2.1 ws (by rw [n2];exact v3);have n3:(((D.run 0 (ay (enL 0 ws))).run 0 (ay [(0,c)])).run 0 (ay ws)).n=D.n:=(eV 0 _ _).trans n2;have v4:∀x∈ [((0:Nat),(0:Nat))],x.1%8=0/\x.1<D.n*64:=λx hx=>by simp only [aa] at hx;subst hx;exact ⟨rfl,by show 0<D.n*64;omega⟩
 have o4:=On.stores o3.1 [(0,0)] (by rw [n3];exact v4);have e:D.run 0 (cmI c ws)=(((D.run 0 (ay (enL 0 ws))).run 0 (ay [(0,c)])).run 0 (ay ws)).run 0 (ay [(0,0)]):=by
  unfold cmI;rw [cX,cX,cX]
 have hx:=fJ 0 (cmI c ws) D;have k:=Xe (c:=c) h;have b:=aL.run 0 oM (cmI c ws) D gd (Xd h g hc);refine ⟨by rw [e];exact o4.1,b,eV 0 _ _,by omega,λj hj=> ?_,?_,λi=> ?_⟩
 ·rw [e,o4.2,o3.2,o2.2,o1.2];have a:∀(f:Nat->Nat) (x:Nat),aF [((0:Nat),x)] f j=f j:=λf x=>bu _ _ _ (λy hy=>by simp only [aa] at hy;subst hy;simp only;omega)
  rw [a];refine uW ws _ _ j ?_;rw [a];exact bu _ _ _ (λy hy=>by obtain ⟨h1,_⟩:=oI hy;omega)
 ·rw [e,o4.2];rfl
 ·rw [e];exact fK o3.1 (by rw [n3];exact v4) (fK o2.1 (by rw [n2];exact v3) (fK o1.1 (by rw [n1];exact v2) (fK on v1 i)))
end
end Go.Proofs.YtmpehclnnjgmcaaGreatDoor
namespace Go.Sh
open Go
abbrev KVL:=List (Int×aA)
def bP (L:KVL) (i:Int):Option aA:=(L.find? λp=>decide (p.1=i)).map (·.2)
def setL (L:KVL) (i:Int) (v:aA):KVL:=if (bP L i).isSome then L.map (λp=>if p.1=i then (i,v) else p) else L++ [(i,v)]
def CP (L:KVL) (i:Int):KVL:=L.filter λp=> !decide (p.1=i)
def kvV (kk:IntKind) (p:Int×aA):aA×aA:=(.int kk p.1,p.2)
def bH (kk:IntKind) (w:ap) (r:Nat) (L:KVL):Prop:=∃es clock,w.heap[r]? =some (.map es clock)/\MapKept.Stamped es clock/\es.toList.map (λx=>(x.key,x.val))=L.map (kvV kk)
def nz (P:Program) (kk:IntKind) (t:TypeId) (z:aA):Prop:=∃kt et,P.underlying t=some (.map kt et)/\P.underlying kt=some (.int kk)/\eJ P et=some z
section
variable {P:Program} {kk:IntKind} {w w':ap} {r:Nat} {L:KVL} {i:Int} {v u z:aA} {t:TypeId}
def oJ (h:bP L i=some v):(i,v)∈L:=by
 unfold bP at h
 cases hf:L.find? (λp=>decide (p.1=i)) with
 |none=>rw [hf] at h;cases h
 |some p=>
  rw [hf] at h;have h1:=List.mem_of_find?_eq_some hf;have h2:=List.find?_some hf;simp only [decide_eq_true_eq] at h2;simp only [ct,Option.some.injEq] at h;obtain ⟨a,b⟩:=p;simp only at h2 h;subst h2;subst h;exact h1
def sV {L:KVL} {i:Int} {v:aA} (hn:(L.map (·.1)).Nodup) (h:(i,v)∈L):bP L i=some v:=by
 induction L with
 |nil=>cases h
 |cons p L ih=>
  unfold bP;rw [List.find?_cons];by_cases e:p.1=i
  ·rw [decide_eq_true e];rcases List.mem_cons.1 h with h|h
   ·rw [<-h];rfl
   ·exfalso;rw [ca,cB] at hn;exact hn.1 (List.mem_map.2 ⟨_,h,e.symm⟩)
  ·rw [decide_eq_false e];rcases List.mem_cons.1 h with h|h
   ·rw [<-h] at e;exact absurd rfl e
   ·rw [ca,cB] at hn;exact ih hn.2 h
def dM {L:KVL} {i:Int}:bP L i=none↔∀p∈L,p.1≠i:=by
 unfold bP;rw [Option.map_eq_none_iff,List.find?_eq_none];simp
def afw {L:KVL} (hn:(L.map (·.1)).Nodup) {j:Nat} (h:L[j]? =some (i,u)):L.set j (i,v)=L.map (λp=>if p.1=i then (i,v) else p):=by
 apply ee;intro q;rw [cF,aq];have hj:=(List.getElem?_eq_some_iff.1 h).1;by_cases e:j=q
 ·subst e;rw [if_pos rfl,if_pos hj,h];simp
 ·rw [if_neg e]
  cases hq:L[q]? with
  |none=>rfl
  |some p=>
   simp only [ct,Option.some.injEq];have:p.1≠i:=λe2=>by
    have h1:(L.map (·.1))[q]? =some i:=by rw [aq,hq,<-e2];rfl
    have h2:(L.map (·.1))[j]? =some i:=by rw [aq,h];rfl
    exact e ((eb (by rw [List.length_map];exact hj) hn).1 (h2.trans h1.symm))
   rw [if_neg this]
def EQ:∀{L:KVL} {j:Nat},(L.map (·.1)).Nodup->L[j]? =some (i,u)->L.eraseIdx j=CP L i
 | [],j,_,h=>by simp at h
 |p::L,0,hn,h=>by
  simp only [List.getElem?_cons_zero,Option.some.injEq] at h;subst h;rw [ca,cB] at hn;simp only [List.eraseIdx_cons_zero,CP,ei];rw [if_neg (by simp)];symm;rw [List.filter_eq_self];intro q hq;simp only [c8,decide_eq_false_iff_not];intro e;exact hn.1 (List.mem_map.2 ⟨q,hq,e⟩)
 |p::L,j+1,hn,h=>by
  simp only [List.getElem?_cons_succ] at h;rw [ca,cB] at hn;have hp:p.1≠i:=λe=>hn.1 (by rw [e];exact List.mem_map.2 ⟨_,bk h,rfl⟩)
  simp only [dd];rw [EQ hn.2 h];simp only [CP,ei];rw [if_pos (by simpa using hp)]
def bH.lt (h:bH kk w r L):r<w.heap.size:=by
 obtain ⟨es,c,h1,_⟩:=h;exact aJ h1
def bH.of_heap (h:bH kk w r L) (e:w'.heap[r]? =w.heap[r]?):bH kk w' r L:=by
 obtain ⟨es,c,h1,h2⟩:=h;exact ⟨es,c,e.trans h1,h2⟩
def bH.ext (h:bH kk w r L) (e:Ext w w'):bH kk w' r L:=h.of_heap (e.blk r h.lt)
def bH.frm {F:Nat->Prop} (h:bH kk w r L) (e:Frm F w w') (hF:¬F r):bH kk w' r L:=h.of_heap (e.block r h.lt hF)
def bH.empty {clock:Nat} (h:w.heap[r]? =some (.map #[] clock)):bH kk w r []:=⟨#[],clock,h,MapKept.stamped_empty _,rfl⟩
def bH.keys (h:bH kk w r L):(L.map (·.1)).Nodup:=by
 obtain ⟨es,c,h1,h2,h3⟩:=h;have h4:es.toList.map (·.key)=(L.map (·.1)).map (Value.int kk):=by
  have:=congrArg (List.map Prod.fst) h3;simp only [cx] at this;rw [cx];exact this
 have h5:=h2.2.2;rw [h4] at h5;exact List.Pairwise.of_map (S:=λa b=>a≠b) (Value.int kk) (λa b h e=>h (by rw [e])) h5
def adt {es:Array MapEntry} (h3:es.toList.map (λx=>(x.key,x.val))=L.map (kvV kk)) (j:Nat):(es.toList[j]?).map (λx=>(x.key,x.val))=(L[j]?).map (kvV kk):=by
 have:=congrArg (λl=>l[j]?) h3;simpa only [aq] using this
def sW {es:Array MapEntry} {c:Nat} (h2:MapKept.Stamped es c) (h3:es.toList.map (λx=>(x.key,x.val))=L.map (kvV kk)) (i:Int):
  (Instr.findNow (.int kk) (.int kk i) es.toList 0=some none/\bP L i=none)\/∃j e,Instr.findNow (.int kk) (.int kk i) es.toList 0=some (some (j,e.val))/\es.toList[j]? =some e/\e.key= .int kk i/\L[j]? =some (i,e.val)/\bP L i=some e.val:=by
 have g:∀x∈es.toList,MapKept.IsKey (.int kk) x.key:=λx hx=>by
  have:(x.key,x.val)∈L.map (kvV kk):=by rw [<-h3];exact List.mem_map.2 ⟨x,hx,rfl⟩
  obtain ⟨p,_,hp⟩:=List.mem_map.1 this;have:x.key= .int kk p.1:=(congrArg Prod.fst hp).symm;rw [this];simp [MapKept.IsKey]
 have hn:(L.map (·.1)).Nodup:=by
  have h4:es.toList.map (·.key)=(L.map (·.1)).map (Value.int kk):=by
   have:=congrArg (List.map Prod.fst) h3;simp only [cx] at this;rw [cx];exact this
  have h5:=h2.2.2;rw [h4] at h5;exact List.Pairwise.of_map (S:=λa b=>a≠b) (Value.int kk) (λa b h e=>h (by rw [e])) h5
 rcases MapKept.findNow_spec (d:= .int kk) (k:= .int kk i) (by simp [MapKept.IsKey]) es.toList 0 g with ⟨a,b⟩|⟨j,e,a,b,d⟩
 ·left;refine ⟨a,dM.2 (λp hp e=> ?_)⟩;have:kvV kk p∈es.toList.map (λx=>(x.key,x.val)):=by rw [h3];exact List.mem_map.2 ⟨p,hp,rfl⟩
  obtain ⟨x,hx,l⟩:=List.mem_map.1 this;have h6:x.key= .int kk p.1:=congrArg Prod.fst l;rw [e] at h6;exact b x hx h6
 ·right;rw [cm] at a;have h7:=adt h3 j;rw [b] at h7
  cases hL:L[j]? with
  |none=>rw [hL] at h7;cases h7
  |some p=>
   rw [hL] at h7;simp only [ct,Option.some.injEq,kvV,Prod.mk.injEq] at h7;rw [d] at h7;have f:p.1=i:=by injection h7.1 with _ h;exact h.symm
   have hp:p=(i,e.val):=by obtain ⟨a,b⟩:=p;simp only at f h7;rw [f,h7.2]
   rw [hp] at hL;exact ⟨j,e,a,b,d,hL,sV hn (bk hL)⟩
def ER (ht:nz P kk t z) (h:bH kk w r L) (i:Int):(Instr.lookup t (.map (some r)) (.int kk i) true).run P w= .ok (.tuple #[(bP L i).getD z,.bool (bP L i).isSome]) w:=by
 obtain ⟨kt,et,hu,hk,hz⟩:=ht;obtain ⟨es,c,h1,h2,h3⟩:=h;rcases sW h2 h3 i with ⟨a,b⟩|⟨j,e,a,_,_,_,b⟩
 ·simp [Instr.lookup,run_underlying hu,MapKept.run_getObj_map h1,MapKept.run_checkKey hk (show MapKept.IsKey (.int kk) (.int kk i) by simp [MapKept.IsKey]),MapKept.run_findKey hk a,di hz,b]
 ·simp [Instr.lookup,run_underlying hu,MapKept.run_getObj_map h1,MapKept.run_checkKey hk (show MapKept.IsKey (.int kk) (.int kk i) by simp [MapKept.IsKey]),MapKept.run_findKey hk a,b]
def uY (ht:nz P kk t z) (h:bH kk w r L) (i:Int) (k:aA->Prop):rd P (Instr.lookup t (.map (some r)) (.int kk i) true) w k=k (.tuple #[(bP L i).getD z,.bool (bP L i).isSome]):=ai (ER ht h i) k
def oK (ht:nz P kk t z) (h:bH kk w r L) (i:Int):(Instr.lookup t (.map (some r)) (.int kk i) false).run P w= .ok ((bP L i).getD z) w:=by
 obtain ⟨kt,et,hu,hk,hz⟩:=ht;obtain ⟨es,c,h1,h2,h3⟩:=h;rcases sW h2 h3 i with ⟨a,b⟩|⟨j,e,a,_,_,_,b⟩
 ·simp [Instr.lookup,run_underlying hu,MapKept.run_getObj_map h1,MapKept.run_checkKey hk (show MapKept.IsKey (.int kk) (.int kk i) by simp [MapKept.IsKey]),MapKept.run_findKey hk a,di hz,b]
 ·simp [Instr.lookup,run_underlying hu,MapKept.run_getObj_map h1,MapKept.run_checkKey hk (show MapKept.IsKey (.int kk) (.int kk i) by simp [MapKept.IsKey]),MapKept.run_findKey hk a,b]
def dE (ht:nz P kk t z) (h:bH kk w r L) (i:Int) (k:K1):ev P (Instr.lookup t (.map (some r)) (.int kk i) false) w k=k ((bP L i).getD z) w:=ad (oK ht h i) k
def ES (ht:nz P kk t z) (h:bH kk w r L) (i:Int) (k:aA->Prop):rd P (Instr.lookup t (.map (some r)) (.int kk i) false) w k=k ((bP L i).getD z):=ai (oK ht h i) k
def JY (ht:nz P kk t z) (i:Int) (w:ap) (k:K1):ev P (Instr.lookup t (.map none) (.int kk i) false) w k=k z w:=by
 obtain ⟨kt,et,hu,hk,hz⟩:=ht;refine ad ?_ k;simp [Instr.lookup,run_underlying hu,MapKept.run_checkKey hk (show MapKept.IsKey (.int kk) (.int kk i) by simp [MapKept.IsKey]),MapKept.run_findKey hk (show Instr.findNow (.int kk) (.int kk i) [] 0=some none from rfl),di hz]
def mw {k:ap->Prop} (ht:nz P kk t z) (h:bH kk w r L) (i:Int) (v:aA) (hK:∀w',bH kk w' r (setL L i v)->Frm (λb=>b=r) w w'->k w'):ac P (Instr.mapUpdate t (.map (some r)) (.int kk i) v) w k:=by
 obtain ⟨kt,et,hu,hk,hz⟩:=ht;have f:=h.keys;obtain ⟨es,c,h1,h2,h3⟩:=h;have d:MapKept.IsKey (.int kk) (.int kk i):=by simp [MapKept.IsKey]
 unfold ac;rcases sW h2 h3 i with ⟨a,b⟩|⟨j,e,a,d1,d2,d3,b⟩
 ·have hr:(Instr.mapUpdate t (.map (some r)) (.int kk i) v).run P w= .ok () (gb w r (.map (es.push {key:= .int kk i,val:=v,born:=c}) (c+1))):=by
   simp [Instr.mapUpdate,run_underlying hu,MapKept.run_getObj_map h1,MapKept.run_checkKey hk d,MapKept.run_findKey hk a,MapKept.run_setObj_map _ h1,gb]
  rw [hr];refine hK _ ⟨_,_,ir h1,MapKept.stamped_push h2 (λx hx e=> ?_),?_⟩ gU
  ·have:(x.key,x.val)∈L.map (kvV kk):=by rw [<-h3];exact List.mem_map.2 ⟨x,hx,rfl⟩
   obtain ⟨p,hp,l⟩:=List.mem_map.1 this;have h6:Value.int kk p.1=x.key:=congrArg Prod.fst l;rw [e] at h6;injection h6 with _ h6;exact dM.1 b p hp h6
  ·unfold setL;rw [b,if_neg (by simp)];simp [h3,kvV]
 ·have hj:es[j]? =some e:=by simpa using d1
  have hr:(Instr.mapUpdate t (.map (some r)) (.int kk i) v).run P w= .ok () (gb w r (.map (es.modify j λe=>{e with key:= .int kk i,val:=v}) c)):=by
   simp [Instr.mapUpdate,run_underlying hu,MapKept.run_getObj_map h1,MapKept.run_checkKey hk d,MapKept.run_findKey hk a,hj,d2,MapKept.run_keyThatStays d,MapKept.run_setObj_map _ h1,gb]
  rw [hr];have m:=MapKept.stamped_modify (es:=es) (clock:=c) h2 j (λe=>{e with key:= .int kk i,val:=v}) (λ_ _=>rfl) (λe' _ g=>by rw [hj] at g;cases g;exact d2.symm);refine hK _ ⟨_,_,ir h1,m,?_⟩ gU;unfold setL;rw [b,if_pos (by simp),<-afw f d3];apply ee;intro q;have h7:=adt h3 q;rw [aq,aq,dj,Array.getElem?_modify,cF];have n:j<L.length:=(List.getElem?_eq_some_iff.1 d3).1;by_cases e2:j=q
  ·subst e2;rw [if_pos rfl,if_pos rfl,if_pos n,hj];rfl
  ·rw [if_neg e2,if_neg e2,<-h7,dj]
def ET {ts:Array TypeId} {ty:TypeId} {cs:Array Bool} {k:K1} (m:ts[0]? =some t) (ht:nz P kk t z) (h:bH kk w r L) (i:Int) (hK:∀w',bH kk w' r (CP L i)->Frm (λb=>b=r) w w'->k (.tuple #[]) w'):aS P .delete ts ty cs #[.map (some r),.int kk i] w k:=by
 obtain ⟨kt,et,hu,hk,hz⟩:=ht;have d:=h.keys;obtain ⟨es,c,h1,h2,h3⟩:=h;have f:MapKept.IsKey (.int kk) (.int kk i):=by simp [MapKept.IsKey]
 unfold aS;rcases sW h2 h3 i with ⟨a,b⟩|⟨j,e,a,d1,d2,d3,b⟩
 ·have hr:(builtin .delete ts ty cs #[.map (some r),.int kk i]).run P w= .ok (.value (.tuple #[])) (gb w r (.map es c)):=by
   simp [builtin,d8,m,run_underlying hu,MapKept.run_getObj_map h1,MapKept.run_checkKey hk f,MapKept.run_findKey hk a,MapKept.run_setObj_map _ h1,gb]
  rw [hr];refine hK _ ⟨_,_,ir h1,h2,?_⟩ gU;unfold CP;rw [List.filter_eq_self.2 (λp hp=>by simpa using dM.1 b p hp)];exact h3
 ·have hr:(builtin .delete ts ty cs #[.map (some r),.int kk i]).run P w= .ok (.value (.tuple #[])) (gb w r (.map (es.eraseIdxIfInBounds j) c)):=by
   simp [builtin,d8,m,run_underlying hu,MapKept.run_getObj_map h1,MapKept.run_checkKey hk f,MapKept.run_findKey hk a,MapKept.run_setObj_map _ h1,gb]
  rw [hr];refine hK _ ⟨_,_,ir h1,MapKept.stamped_erase h2 j,?_⟩ gU;rw [<-EQ d d3,Array.toList_eraseIdxIfInBounds];have er:∀{α β:Type} (g:α->β) (l:List α) (j:Nat),(l.eraseIdx j).map g=(l.map g).eraseIdx j:=by
   intro α β g l
   induction l with
   |nil=>intro j;rfl
   |cons x l ih=>
    intro j
    cases j with
    |zero=>rfl
    |succ j=>simp only [dd,ca,ih]
  rw [er,er,h3]
end
end Go.Sh
namespace Go.Proofs.YtmpehclnnjgmcaaGreatDoor
open Go Go.Sh
noncomputable section
variable (K:K1) (x0 x1 x2 x3 x4 x5 x6 x7 x8 x9 x10 x11 x12 x13 x14 x15 x16 x17 x18 x19 x20 x21 x22 x23 x24 x25 x26 x27 x28 x29 x30 x31 x32 x33 x34 x35 x36 x37 x38 x39 x40 x41 x42 x43 x44 x45 x46 x47 x48 x49 x50 x51 x52 x53 x54 x55 x56 x57 x58 x59 x60 x61 x62 x63 x64 x65 x66 x67 x68 x69 x70 x71 x72 x73 x74 x75 x76 x77 x78 x79 x80 x81 x82 x83 x84 x85 x86 x87 x88 x89 x90 x91 x92 x93 x94 x95 x96 x97 x98 x99 x100 x101 x102 x103 x104 x105 x106 x107 x108 x109 x110 x111 x112 x113 x114 x115 x116 x117 x118 x119 x120 x121 x122 x123 x124 x125 x126 x127 x128 x129 x130 x131 x132 x133 x134 x135 x136 x137 x138 x139 x140 x141 x142 x143 x144 x145:aA) (w:ap)
noncomputable def Xf:=uD Tryz.f15 (.s .o (.s .o (.s .o (.s .o (.s .o (.s .o (.s .o (.x 61441 .o (.x 61441 .o .o)))))))))
abbrev NH:=aU prog Tryz.f15.results.toList
def Xg:KF:=kO 61441 (cP (pw Xf 8 255) (NH K) (NH K) nX)
def CQ:Prop:=Xg K (fy 102 61441 [x0,x12,x13,x14,x15]) w
def Xh:KF:=kO 61441 (cP (pw Xf 9 511) (NH K) (NH K) nX)
def uZ:Prop:=Xh K (fy 102 61441 [x0,x12,x13,x14,x15]) w
def oN:Prop:=
 bC .eql 28 69 5 x13 w λa w=>
 af a (
 uZ K x0 x12 (.int .i64 4) x14 x15 w) (
 uZ K x0 x12 x13 x14 x15 w)
def qT:CQ K x0 x12 x13 x14 x15 w=oN K x0 x12 x13 x14 x15 w:=aI λσ=>kR
def u5:Prop:=
 bC .neq 28 71 0 x13 w λa w=>
 af a (
 K (.tuple #[(.int .u64 ((0:Nat):Int)),x13]) w) (
 cL 69 (pA #[x0,x14,x12]) w λb w=>
 bC .neq 28 78 0 b w λc w=>
 af c (
 K (.tuple #[(.int .u64 ((0:Nat):Int)),b]) w) (
 nR x0 w.drew λd=>
 fR 112 d 4 w.drew λe=>
 lR 108 e w.drew λf=>
 cL 20 (pA #[x14]) w.drew λg w=>
 (bw prog x0 w (λu=>u=d))/\
 (fG 112 d 4 w e)/\
 (lG 108 e w f)/\
 ac prog (Instr.mapUpdate 108 f g x14) w λw=>
 nS x0 w λh w=>
 fA 112 h 5 w λi w=>
 lD 109 i w λj w=>
 ev prog (Instr.lookup 109 j x15 false) w λl w=>
 bC .add 3 93 1 l w λm w=>
 ac prog (Instr.mapUpdate 109 j x15 m) w λw=>
 nS x0 w λn w=>
 fA 112 n 3 w λo w=>
 lD 107 o w λp w=>
 cL 70 (pA #[p,x15,(.bool true)]) w λq w=>
 K (.tuple #[x14,(.int .i64 0)]) w))
def zP:uZ K x0 x12 x13 x14 x15 w=u5 K x0 x12 x13 x14 x15 w:=aI λσ=>kR
def NI:Prop:=
 bM .eql 33 (.tmp 17) (.const (.pointer none)) x0 (.pointer none) w λa w=>
 af a (
 K (.tuple #[(.int .u64 ((0:Nat):Int)),(.int .i64 5)]) w) (
 cL 64 (pA #[x1,x2,x3]) w λb w=>
 bC .neq 28 23 0 b w λc w=>
 af c (
 K (.tuple #[(.int .u64 ((0:Nat):Int)),b]) w) (
 nS x0 w λd w=>
 fA 112 d 0 w λe w=>
 lD 106 e w λf w=>
 bA prog f "Err" (pA #[]) w fun g w=>
 bC .neq 28 31 0 g w λh w=>
 af h (
 K (.tuple #[(.int .u64 ((0:Nat):Int)),g]) w) (
 cL 65 (pA #[x2]) w λi w=>
 eX i 0 w λj w=>
 eX i 1 w λl w=>
 bC .neq 28 39 0 l w λm w=>
 af m (
 K (.tuple #[(.int .u64 ((0:Nat):Int)),l]) w) (
 cL 66 (pA #[x0,x1,j,x3]) w λn w=>
 eX n 0 w λo w=>
 eX n 1 w λp w=>
 eX n 2 w λq w=>
 bC .eql 28 51 5 q w λs w=>
 af s (
 cL 67 (pA #[x0,x1,j]) w λt w=>
 eX t 0 w λv w=>
 eX t 1 w λy w=>
 bC .eql 28 60 0 y w λz w=>
 af z (
 cL 68 (pA #[x0,v,x3]) w λa0 w=>
 eX a0 0 w λa1 w=>
 eX a0 1 w λa2 w=>
 CQ K x0 j a2 a1 v w) (
 CQ K x0 j y o v w)) (
 CQ K x0 j q o p w)))))
def u7:=cA4 Tryz.func15 Xf.2 NI
def NJ:Prop:=
 bM .eql 40 (.tmp 15) (.const (.pointer none)) x0 (.pointer none) w λa w=>
 af a (
 K (.int .i64 5) w) (
 nS x0 w λb w=>
 fA 123 b 2 w λc w=>
 lD 32 c w λd w=>
 cL 71 (pA #[d,x1]) w λe w=>
 eX e 0 w λf w=>
 eX e 1 w λg w=>
 bC .eql 28 26 1 g w λh w=>
 af h (
 K g w) (
 nS x0 w λi w=>
 fA 123 i 1 w λj w=>
 lD 31 j w λl w=>
 cL 28 (pA #[l]) w λm w=>
 bC .neq 28 34 0 m w λn w=>
 af n (
 K m w) (
 nS x0 w λo w=>
 fA 123 o 0 w λp w=>
 lD 33 p w λq w=>
 nS q w λs w=>
 fA 112 s 7 w λt w=>
 lD 4 t w λv w=>
 af v (
 K (.int .i64 7) w) (
 nS x0 w λy w=>
 fA 123 y 0 w λz w=>
 lD 33 z w λa0 w=>
 cL 42 (pA #[a0,x2,x3]) w λa1 w=>
 eX a1 0 w λa2 w=>
 eX a1 1 w λa3 w=>
 bC .neq 28 54 0 a3 w λa4 w=>
 af a4 (
 K a3 w) (
 nR x0 w.drew λa5=>
 fR 123 a5 2 w.drew λa6=>
 lR 32 a6 w.drew λa7=>
 cL 72 (pA #[x1]) w.drew λa8 w=>
 (bw prog x0 w (λu=>u=a5))/\
 (fG 123 a5 2 w a6)/\
 (lG 32 a6 w a7)/\
 aS prog .append #[79,79] 79 #[false,false] (pA #[a8,a2]) w λa9 w=>
 (bw prog x0 w (λu=>u=a5))/\
 (fG 123 a5 2 w a6)/\
 (lG 32 a6 w a7)/\
 cL 43 (pA #[a7,a9]) w λb0 w=>
 bC .neq 28 66 0 b0 w λb1 w=>
 af b1 (
 K b0 w) (
 nS x0 w λb2 w=>
 fA 123 b2 0 w λb3 w=>
 lD 33 b3 w λb4 w=>
 cL 44 (pA #[b4,x2,x3]) w λb5 w=>
 K (.int .i64 0) w))))))
def u9:=cA4 Tryz.func17 .o NJ
def zQ:Prop:=
 bM .eql 33 (.tmp 15) (.const (.pointer none)) x0 (.pointer none) w λa w=>
 af a (
 K (.int .i64 5) w) (
 cL 73 (pA #[x1]) w λb w=>
 af b (
 K (.int .i64 1) w) (
 nS x0 w λc w=>
 fA 112 c 0 w λd w=>
 lD 106 d w λe w=>
 bA prog e "Err" (pA #[]) w fun f w=>
 bC .neq 28 24 0 f w λg w=>
 af g (
 K f w) (
 cL 20 (pA #[x1]) w λh w=>
 cL 74 (pA #[x0,h]) w λi w=>
 eX i 0 w λj w=>
 eX i 1 w λl w=>
 ev prog (Op.unary .not l) w λm w=>
 gV m false x1 w λn w=>
 gd m false (λk=>bU .shr 27 37 .u64 56 n w k) w λo w=>
 gd m false (λk=>bU .neq 27 38 .u64 0 o w k) w λp w=>
 aw m (.bool true) p w λq w=>
 af q (
 K (.int .i64 2) w) (
 nS x0 w λs w=>
 fA 112 s 0 w λt w=>
 lD 106 t w λv w=>
 cL 75 (pA #[v,j]) w λy w=>
 eX y 0 w λz w=>
 eX y 1 w λa0 w=>
 ev prog (Instr.alloc 134 true (.tuple #[])) w λa1 w=>
 sD 134 a1 z w λw=>
 nS x0 w λa2 w=>
 fA 112 a2 0 w λa3 w=>
 lD 106 a3 w λa4 w=>
 bA prog a4 "Err" (pA #[]) w fun a5 w=>
 bC .neq 28 55 0 a5 w λa6 w=>
 af a6 (
 K a5 w) (
 bC .neq 28 58 0 a0 w λa7 w=>
 af a7 (
 K (.int .i64 2) w) (
 lD 134 a1 w λa8 w=>
 cL 76 (pA #[a8,x1]) w λa9 w=>
 eX a9 0 w λb0 w=>
 eX a9 1 w λb1 w=>
 bC .neq 28 66 0 b1 w λb2 w=>
 af b2 (
 K b1 w) (
 bU .neq 5 69 .u8 0 x2 w λb3 w=>
 gV b3 true x2 w λb4 w=>
 gV b3 true x1 w λb5 w=>
 gC b3 true 60 (pA #[b5]) w λb6 w=>
 gd b3 true (λk=>bT .neq 5 72 74 b4 b6 w k) w λb7 w=>
 aw b3 b7 (.bool false) w λb8 w=>
 af b8 (
 K (.int .i64 13) w) (
 K (.int .i64 0) w))))))))
def kN:=cA3 Tryz.func21 .o zQ
noncomputable def adu:=uD Tryz.f29 (.s .o (.s .o (.s .o (.s .o (.x 3 .o .o)))))
abbrev adv:=aU prog Tryz.f29.results.toList
def Xi:KF:=kO 3 (cP (pw adu 5 31) (adv K) (adv K) nX)
def JZ:Prop:=Xi K (fy 51 3 [x0,x1]) w
def ve:Prop:=
 cL 84 (pA #[x0,x1]) w λa w=>
 eX a 0 w λb w=>
 eX a 1 w λc w=>
 eX a 2 w λd w=>
 nS x0 w λe w=>
 fA 112 e 0 w λf w=>
 lD 106 f w λg w=>
 bA prog g "Err" (pA #[]) w fun h w=>
 bC .neq 28 46 0 h w λi w=>
 af i (
 K (.tuple #[(.int .i64 0),h]) w) (
 cL 85 (pA #[d]) w λj w=>
 K (.tuple #[j,(.int .i64 0)]) w)
def zR:JZ K x0 x1 w=ve K x0 x1 w:=aI λσ=>kR
def adw:Prop:=
 bM .eql 33 (.tmp 12) (.const (.pointer none)) x0 (.pointer none) w λa w=>
 af a (
 K (.tuple #[(.int .i64 0),(.int .i64 5)]) w) (
 cL 73 (pA #[x1]) w λb w=>
 af b (
 K (.tuple #[(.int .i64 0),(.int .i64 1)]) w) (
 nS x0 w λc w=>
 fA 112 c 0 w λd w=>
 lD 106 d w λe w=>
 bA prog e "Err" (pA #[]) w fun f w=>
 bC .neq 28 21 0 f w λg w=>
 af g (
 K (.tuple #[(.int .i64 0),f]) w) (
 cL 83 (pA #[x0,x1]) w λh w=>
 ev prog (Op.unary .not h) w λi w=>
 af i (
 cL 21 (pA #[x0,x1,(.int .u8 ((0:Nat):Int))]) w λj w=>
 bC .neq 28 31 0 j w λl w=>
 af l (
 K (.tuple #[(.int .i64 0),j]) w) (
 JZ K x0 x1 w)) (
 JZ K x0 x1 w))))
def Xj:=cA2 Tryz.func29 adu.2 adw
def adx:Prop:=
 bM .eql 33 (.tmp 3) (.const (.pointer none)) x0 (.pointer none) w λa w=>
 gV a false x0 w λb w=>
 gd a false (λk=>nS b w k) w λc w=>
 gd a false (λk=>fA 112 c 7 w k) w λd w=>
 gd a false (λk=>lD 4 d w k) w λe w=>
 aw a (.bool true) e w λf w=>
 af f (
 K (.bool false) w) (
 nS x0 w λg w=>
 fA 112 g 7 w λh w=>
 sD 4 h (.bool true) w λw=>
 K (.bool true) w)
def Xk:=cA1 Tryz.func35 .o adx
def Xl:Prop:=
 bM .eql 40 (.tmp 11) (.const (.pointer none)) x0 (.pointer none) w λa w=>
 af a (
 K (.tuple #[(.int .u64 ((0:Nat):Int)),(.int .i64 5)]) w) (
 nS x0 w λb w=>
 fA 123 b 1 w λc w=>
 lD 31 c w λd w=>
 cL 90 (pA #[d]) w λe w=>
 cL 64 (pA #[e,x1,x2]) w λf w=>
 bC .neq 28 21 0 f w λg w=>
 af g (
 K (.tuple #[(.int .u64 ((0:Nat):Int)),f]) w) (
 nS x0 w λh w=>
 fA 123 h 1 w λi w=>
 lD 31 i w λj w=>
 cL 28 (pA #[j]) w λl w=>
 bC .neq 28 29 0 l w λm w=>
 af m (
 K (.tuple #[(.int .u64 ((0:Nat):Int)),l]) w) (
 nS x0 w λn w=>
 fA 123 n 0 w λo w=>
 lD 33 o w λp w=>
 nS p w λq w=>
 fA 112 q 0 w λs w=>
 lD 106 s w λt w=>
 bA prog t "Err" (pA #[]) w fun v w=>
 bC .neq 28 40 0 v w λy w=>
 af y (
 K (.tuple #[(.int .u64 ((0:Nat):Int)),v]) w) (
 nS x0 w λz w=>
 fA 123 z 0 w λa0 w=>
 lD 33 a0 w λa1 w=>
 nS a1 w λa2 w=>
 fA 112 a2 7 w λa3 w=>
 lD 4 a3 w λa4 w=>
 af a4 (
 K (.tuple #[(.int .u64 ((0:Nat):Int)),(.int .i64 7)]) w) (
 nR x0 w.drew λa5=>
 fR 123 a5 0 w.drew λa6=>
 lR 33 a6 w.drew λa7=>
 nR x0 w.drew λa8=>
 fR 123 a8 1 w.drew λa9=>
 lR 31 a9 w.drew λb0=>
 cL 90 (pA #[b0]) w.drew λb1 w=>
 (bw prog x0 w (λu=>u=a5))/\
 (fG 123 a5 0 w a6)/\
 (lG 33 a6 w a7)/\
 cL 15 (pA #[a7,b1,x1,x2]) w λb2 w=>
 xR b2 0 w λb3=>
 xR b2 1 w λb4=>
 K (.tuple #[b3,b4]) w)))))
def EU:=cA3 Tryz.func36 .o Xl
noncomputable def kP:=uD Tryz.f42 (.s .o (.s .o (.s .o (.s .o (.x 7 (.s .o (.b (.l [52] 3377699720527879 2301339409586324672 .o))) (.x 7 (.s .o (.b (.l [63] 6917529027641081863 18880242559441726091456 .o))) (.s .o (.s .o (.x 49157 (.s .o (.b (.l [78] 226673591177742970306565 20769187433837079059218328027267072 .o))) (.x 16385 (.s .o (.b (.l [116] 62307562302417931542365955950690305 2787593066739578156134722727593104180772864 .o))) (.s .o (.x 268435457 (.s .o (.b (.l [28,145] 33451117797795934712303577408972542258987009 3138550867693295780427497650357550136614632425525379858624 .o))) .o))))))))))))
abbrev ie:=aU prog Tryz.f42.results.toList
def EV:KF:=kO 7 (cP (pw kP 5 31) (ie K) (ie K) nX)
def J0:Prop:=EV K (fy 200 7 [x0,x1,x2]) w
def J2:Prop:=aG [52] 3377699720527879 (λE=>cP (pw kP 8 47) E (ie K) (exB 0 (EV K) nX)) (fy 200 7881299347898375 [x0,x1,x2,x50,x51,x52]) w
def EW:KF:=kO 7 (cP (pw kP 6 63) (ie K) (ie K) nX)
def J3:Prop:=EW K (fy 200 7 [x0,x1,x2]) w
def Xm:Prop:=aG [63] 6917529027641081863 (λE=>cP (pw kP 9 95) E (ie K) (exB 2 (EW K) nX)) (fy 200 16140901064495857671 [x0,x1,x2,x61,x62,x63]) w
def EX:KF:=kO 49157 (cP (pw kP 9 511) (ie K) (ie K) nX)
def J4:Prop:=EX K (fy 200 49157 [x0,x2,x14,x15]) w
def J5:Prop:=aG [78] 226673591177742970306565 (λE=>cP (pw kP 12 767) E (ie K) (exB 4 (EX K) nX)) (fy 200 528905046081400263983109 [x0,x2,x14,x15,x76,x77,x78]) w
def EY:KF:=kO 16385 (cP (pw kP 10 1023) (ie K) (ie K) nX)
def CR:Prop:=EY K (fy 200 16385 [x0,x14]) w
def J6:Prop:=aG [116] 62307562302417931542365955950690305 (λE=>cP (pw kP 13 1535) E (ie K) (exB 6 (EY K) nX)) (fy 200 145384312038975173598853897218211841 [x0,x14,x15,x114,x115,x116]) w
def EZ:KF:=kO 268435457 (cP (pw kP 12 4095) (ie K) (ie K) nX)
def CS:Prop:=EZ K (fy 200 268435457 [x0,x28]) w
def J7:Prop:=aG [28,145] 33451117797795934712303577408972542258987009 (λE=>cP (pw kP 15 6143) E (ie K) (exB 8 (EZ K) nX)) (fy 200 78052608194857180995375013954269265539383297 [x0,x14,x28,x143,x144,x145]) w
def E0:Prop:=
 lN 25 x2 w λa w=>
 Xm K x0 x1 x2 x2 a (.int .i64 0) w
def RK:J0 K x0 x1 x2 w=E0 K x0 x1 x2 w:=aI λσ=>kR
def E5 (E1:VP1):Prop:=
 bT .lss 3 52 51 x52 x51 w λa w=>
 af a (
 iA 25 x50 x52 w λb w=>
 lD 27 b w λc w=>
 cL 83 (pA #[x0,c]) w λd w=>
 ev prog (Op.unary .not d) w λe w=>
 af e (
 K (.tuple #[(.slice none 0 0),(.int .i64 8)]) w) (
 bC .add 3 52 1 x52 w λf w=>
 E1 f w)) (
 J0 K x0 x1 x2 w)
def E6 (I:VP1) (μ:M1) (h0:I x52 w) (hr:∀x52 w,I x52 w->∀E1,Q1 I μ x52 w E1->E5 K x0 x1 x2 x50 x51 x52 w E1):J2 K x0 x1 x2 x50 x51 x52 w:=⟨I,μ,h0,λσ w hI E hE=>cast kR (hr (σ 52) w hI E hE)⟩
def E7:Prop:=
 ev prog (Instr.makeMap 159 none) w λa w=>
 ev prog (Instr.alloc 159 true (.tuple #[])) w λb w=>
 sD 159 b a w λw=>
 ev prog (Instr.makeFunc (.func 95) #[] #[b]) w λc w=>
 lN 25 x1 w λd w=>
 J5 K x0 x2 b c x1 d (.int .i64 0) w
def RR:J3 K x0 x1 x2 w=E7 K x0 x1 x2 w:=aI λσ=>kR
def E8 (E1:VP1):Prop:=
 bT .lss 3 63 62 x63 x62 w λa w=>
 af a (
 iA 25 x61 x63 w λb w=>
 lD 27 b w λc w=>
 cL 21 (pA #[x0,c,(.int .u8 ((0:Nat):Int))]) w λd w=>
 bC .neq 28 70 0 d w λe w=>
 af e (
 K (.tuple #[(.slice none 0 0),d]) w) (
 bC .add 3 63 1 x63 w λf w=>
 E1 f w)) (
 J3 K x0 x1 x2 w)
def E9 (I:VP1) (μ:M1) (h0:I x63 w) (hr:∀x63 w,I x63 w->∀E1,Q1 I μ x63 w E1->E8 K x0 x1 x2 x61 x62 x63 w E1):Xm K x0 x1 x2 x61 x62 x63 w:=⟨I,μ,h0,λσ w hI E hE=>cast kR (hr (σ 63) w hI E hE)⟩
def Fa:Prop:=
 lN 25 x2 w λa w=>
 J6 K x0 x14 x15 x2 a (.int .i64 0) w
def RU:J4 K x0 x2 x14 x15 w=Fa K x0 x2 x14 x15 w:=aI λσ=>kR
def vf (E1:VP1):Prop:=
 bT .lss 3 78 77 x78 x77 w λa w=>
 af a (
 iA 25 x76 x78 w λb w=>
 lD 27 b w λc w=>
 cL 84 (pA #[x0,c]) w λd w=>
 eX d 0 w λe w=>
 eX d 1 w λf w=>
 eX d 2 w λg w=>
 nM prog x15 (pA #[e]) w λh w=>
 nR h w.drew λi=>
 fR 162 i 0 w.drew λj=>
 lR 50 j w.drew λl=>
 nR h w.drew λm=>
 fR 162 m 1 w.drew λn=>
 lR 51 n w.drew λo=>
 ev prog (ab 50 1 #[(0,f)]) w.drew λp w=>
 (bw prog h w (λu=>u=i))/\
 (fG 162 i 0 w j)/\
 (lG 50 j w l)/\
 (bw prog h w (λu=>u=m))/\
 (fG 162 m 1 w n)/\
 (lG 51 n w o)/\
 aS prog .append #[50,50] 50 #[false,false] (pA #[l,p]) w λq w=>
 (bw prog h w (λu=>u=m))/\
 (fG 162 m 1 w n)/\
 (lG 51 n w o)/\
 cL 60 (pA #[c]) w λs w=>
 (bw prog h w (λu=>u=m))/\
 (fG 162 m 1 w n)/\
 (lG 51 n w o)/\
 ev prog (ab 51 1 #[(0,s)]) w λt w=>
 (bw prog h w (λu=>u=m))/\
 (fG 162 m 1 w n)/\
 (lG 51 n w o)/\
 aS prog .append #[51,51] 51 #[false,false] (pA #[o,t]) w λv w=>
 nR h w λy=>
 fR 162 y 0 w λz=>
 sD 50 z q w λw=>
 nR h w λa0=>
 fR 162 a0 1 w λa1=>
 sD 51 a1 v w λw=>
 bC .add 3 78 1 x78 w λa2 w=>
 E1 a2 w) (
 J4 K x0 x2 x14 x15 w)
def Fb (I:VP1) (μ:M1) (h0:I x78 w) (hr:∀x78 w,I x78 w->∀E1,Q1 I μ x78 w E1->vf K x0 x2 x14 x15 x76 x77 x78 w E1):J5 K x0 x2 x14 x15 x76 x77 x78 w:=⟨I,μ,h0,λσ w hI E hE=>cast kR (hr (σ 78) w hI E hE)⟩
def Fc:Prop:=
 lD 159 x14 w λa w=>
 cL 97 (pA #[a]) w λb w=>
 cL 96 (pA #[b]) w λc w=>
 lN 50 c w λd w=>
 J7 K x0 x14 (.slice none 0 0) c d (.int .i64 0) w
def RY:CR K x0 x14 w=Fc K x0 x14 w:=aI λσ=>kR
def vg (E1:VP1):Prop:=
 bT .lss 3 116 115 x116 x115 w λa w=>
 af a (
 iA 25 x114 x116 w λb w=>
 lD 27 b w λc w=>
 cL 84 (pA #[x0,c]) w λd w=>
 eX d 0 w λe w=>
 eX d 1 w λf w=>
 eX d 2 w λg w=>
 nM prog x15 (pA #[e]) w λh w=>
 nS h w λi w=>
 fA 162 i 2 w λj w=>
 lD 50 j w λl w=>
 ev prog (ab 50 1 #[(0,f)]) w λm w=>
 aS prog .append #[50,50] 50 #[false,false] (pA #[l,m]) w λn w=>
 nS h w λo w=>
 fA 162 o 2 w λp w=>
 sD 50 p n w λw=>
 bC .add 3 116 1 x116 w λq w=>
 E1 q w) (
 CR K x0 x14 w)
def Fd (I:VP1) (μ:M1) (h0:I x116 w) (hr:∀x116 w,I x116 w->∀E1,Q1 I μ x116 w E1->vg K x0 x14 x15 x114 x115 x116 w E1):J6 K x0 x14 x15 x114 x115 x116 w:=⟨I,μ,h0,λσ w hI E hE=>cast kR (hr (σ 116) w hI E hE)⟩
def Fe:Prop:=
 nS x0 w λa w=>
 fA 112 a 0 w λb w=>
 lD 106 b w λc w=>
 bA prog c "Err" (pA #[]) w fun d w=>
 bC .neq 28 196 0 d w λe w=>
 af e (
 K (.tuple #[(.slice none 0 0),d]) w) (
 K (.tuple #[x28,(.int .i64 0)]) w)
def R0:CS K x0 x28 w=Fe K x0 x28 w:=aI λσ=>kR
def vh (E1:VP2):Prop:=
 bT .lss 3 145 144 x145 x144 w λa w=>
 af a (
 iA 50 x143 x145 w λb w=>
 lD 3 b w λc w=>
 nS x0 w λd w=>
 fA 112 d 0 w λe w=>
 lD 106 e w λf w=>
 cL 75 (pA #[f,c]) w λg w=>
 eX g 0 w λh w=>
 eX g 1 w λi w=>
 ev prog (Instr.alloc 134 true (.tuple #[])) w λj w=>
 sD 134 j h w λw=>
 bC .neq 28 158 0 i w λl w=>
 af l (
 K (.tuple #[(.slice none 0 0),i]) w) (
 lR 134 j w.drew λm=>
 lR 159 x14 w.drew λn=>
 rd prog (Instr.lookup 159 n c false) w.drew λo=>
 nR o w.drew λp=>
 fR 162 p 0 w.drew λq=>
 lR 50 q w.drew λs=>
 lR 159 x14 w.drew λt=>
 rd prog (Instr.lookup 159 t c false) w.drew λv=>
 nR v w.drew λy=>
 fR 162 y 1 w.drew λz=>
 lR 51 z w.drew λa0=>
 lR 159 x14 w.drew λa1=>
 rd prog (Instr.lookup 159 a1 c false) w.drew λa2=>
 nR a2 w.drew λa3=>
 fR 162 a3 2 w.drew λa4=>
 lR 50 a4 w.drew λa5=>
 cL 98 (pA #[m,s,a0,a5]) w.drew λa6 w=>
 xR a6 0 w λa7=>
 xR a6 1 w λa8=>
 bC .neq 28 184 0 a8 w λa9 w=>
 af a9 (
 K (.tuple #[(.slice none 0 0),a8]) w) (
 aS prog .append #[79,79] 79 #[false,false] (pA #[x28,a7]) w λb0 w=>
 bC .add 3 145 1 x145 w λb1 w=>
 E1 b0 b1 w))) (
 CS K x0 x28 w)
def Ff (I:VP2) (μ:M2) (h0:I x28 x145 w) (hr:∀x28 x145 w,I x28 x145 w->∀E1,Q2 I μ x28 x145 w E1->vh K x0 x14 x28 x143 x144 x145 w E1):J7 K x0 x14 x28 x143 x144 x145 w:=⟨I,μ,h0,λσ w hI E hE=>cast kR (hr (σ 28) (σ 145) w hI E hE)⟩
def ady:Prop:=
 bM .eql 33 (.tmp 35) (.const (.pointer none)) x0 (.pointer none) w λa w=>
 af a (
 K (.tuple #[(.slice none 0 0),(.int .i64 5)]) w) (
 ev prog (ab 213 2 #[(0,x1),(1,x2)]) w λb w=>
 cL 94 (pA #[b]) w λc w=>
 ev prog (Op.unary .not c) w λd w=>
 af d (
 K (.tuple #[(.slice none 0 0),(.int .i64 1)]) w) (
 nS x0 w λe w=>
 fA 112 e 0 w λf w=>
 lD 106 f w λg w=>
 bA prog g "Err" (pA #[]) w fun h w=>
 bC .neq 28 47 0 h w λi w=>
 af i (
 K (.tuple #[(.slice none 0 0),h]) w) (
 lN 25 x1 w λj w=>
 J2 K x0 x1 x2 x1 j (.int .i64 0) w)))
def Xn:=cA3 Tryz.func42 kP.2 ady
def adz:Prop:=
 cL 71 (pA #[x0,x1]) w λa w=>
 eX a 0 w λb w=>
 eX a 1 w λc w=>
 bC .neq 28 13 0 c w λd w=>
 af d (
 K c w) (
 nS x0 w λe w=>
 fA 171 e 0 w λf w=>
 lD 106 f w λg w=>
 cL 99 (pA #[b,g]) w λh w=>
 K h w)
def Xo:=cA2 Tryz.func43 .o adz
noncomputable def Xp:=uD Tryz.f44 (.s .o (.s .o (.b (.l [12] 3073 8384640 (.s .o (.s .o (.x 7169 .o .o)))))))
abbrev NK:=aU prog Tryz.f44.results.toList
def Xq:Prop:=aG [12] 3073 (λE=>cP (pw Xp 4 3) E (NK K) (exB 0 (NK K) nX)) (fy 23 7169 [x0,x10,x11,x12]) w
def Xr (E1:VP1):KF:=kO 7169 (cP (pw Xp 7 115) (sE1 E1 12) (NK K) (exB 0 (NK K) nX))
def J8 (K:K1) (E1:VP1) (x0 x10 x11 x12:aA) (w:ap):Prop:=Xr K E1 (fy 23 7169 [x0,x10,x11,x12]) w
def vj (E1:VP1):Prop:=
 bT .lss 3 12 11 x12 x11 w λa w=>
 af a (
 iA 25 x10 x12 w λb w=>
 lD 27 b w λc w=>
 cL 83 (pA #[x0,c]) w λd w=>
 af d (
 cL 100 (pA #[x0,c]) w λe w=>
 J8 K E1 x0 x10 x11 x12 w) (
 J8 K E1 x0 x10 x11 x12 w)) (
 K (.tuple #[]) w)
def Fg (I:VP1) (μ:M1) (h0:I x12 w) (hr:∀x12 w,I x12 w->∀E1,Q1 I μ x12 w E1->vj K x0 x10 x11 x12 w E1):Xq K x0 x10 x11 x12 w:=⟨I,μ,h0,λσ w hI E hE=>cast kR (hr (σ 12) w hI E hE)⟩
def vk (E1:VP1):Prop:=
 bC .add 3 12 1 x12 w λa w=>
 E1 a w
def zS (E1:VP1):J8 K E1 x0 x10 x11 x12 w=vk x12 w E1:=aI λσ=>kR
def adA:Prop:=
 bM .eql 33 (.tmp 8) (.const (.pointer none)) x0 (.pointer none) w λa w=>
 af a (
 K (.tuple #[]) w) (
 lN 25 x1 w λb w=>
 Xq K x0 x1 b (.int .i64 0) w)
def Xs (x0 x1 x2:aA) (K:K1) (w:ap) (h:adA K x0 x1 w):ae prog 44 #[x0,x1,x2] w K:=
 bo (args:= [x0,x1,x2]) mixed Tryz.func44 Xp.2 kR (cast kR h)
def adB:Prop:=
 bM .neq 40 (.tmp 6) (.const (.pointer none)) x0 (.pointer none) w λa w=>
 af a (
 nS x0 w λb w=>
 fA 123 b 1 w λc w=>
 lD 31 c w λd w=>
 cL 30 (pA #[d,x1,x2]) w λe w=>
 K (.tuple #[]) w) (
 K (.tuple #[]) w)
def Xt:=cA3 Tryz.func45 .o adB
def adC:Prop:=
 bM .eql 40 (.tmp 5) (.const (.pointer none)) x0 (.pointer none) w λa w=>
 af a (
 K (.int .u64 ((0:Nat):Int)) w) (
 nS x0 w λb w=>
 fA 123 b 1 w λc w=>
 lD 31 c w λd w=>
 cL 32 (pA #[d,x1]) w λe w=>
 K e w)
def Xu:=cA2 Tryz.func46 .o adC
def adD:Prop:=
 bM .neq 40 (.tmp 4) (.const (.pointer none)) x0 (.pointer none) w λa w=>
 af a (
 nS x0 w λb w=>
 fA 123 b 1 w λc w=>
 lD 31 c w λd w=>
 cL 101 (pA #[d,x1]) w λe w=>
 K (.tuple #[]) w) (
 K (.tuple #[]) w)
def Xv:=cA2 Tryz.func47 .o adD
def adE:Prop:=
 bM .neq 40 (.tmp 2) (.const (.pointer none)) x0 (.pointer none) w λa w=>
 af a (
 nS x0 w λb w=>
 fA 123 b 1 w λc w=>
 lD 31 c w λd w=>
 cL 102 (pA #[d]) w λe w=>
 K (.tuple #[]) w) (
 K (.tuple #[]) w)
def Xw:=cA1 Tryz.func48 .o adE
def adF:Prop:=
 bM .eql 40 (.tmp 3) (.const (.pointer none)) x0 (.pointer none) w λa w=>
 af a (
 K (.int .u64 ((0:Nat):Int)) w) (
 nS x0 w λb w=>
 fA 123 b 1 w λc w=>
 lD 31 c w λd w=>
 cL 105 (pA #[d]) w λe w=>
 K e w)
def Xx:=cA1 Tryz.func51 .o adF
def Xy:Prop:=
 bM .eql 40 (.tmp 3) (.const (.pointer none)) x0 (.pointer none) w λa w=>
 af a (
 K (.int .i64 5) w) (
 nS x0 w λb w=>
 fA 123 b 1 w λc w=>
 lD 31 c w λd w=>
 cL 28 (pA #[d]) w λe w=>
 K e w)
def Fh:=cA1 Tryz.func53 .o Xy
def Fi:Prop:=
 bM .eql 33 (.tmp 7) (.const (.pointer none)) x0 (.pointer none) w λa w=>
 gV a false x1 w λb w=>
 gd a false (λk=>bM .eql 31 (.tmp 10) (.const (.pointer none)) b (.pointer none) w k) w λc w=>
 aw a (.bool true) c w λd w=>
 gV d false x2 w λe w=>
 gd d false (λk=>bM .eql 32 (.tmp 14) (.const (.pointer none)) e (.pointer none) w k) w λf w=>
 aw d (.bool true) f w λg w=>
 af g (
 K (.pointer none) w) (
 ev prog (Instr.build 123 #[(0,x0),(1,x1),(2,x2)]) w λh w=>
 ev prog (Instr.box 123 h) w λi w=>
 K i w)
def oO:=cA3 Tryz.func55 .o Fi
def adG:Prop:=
 cL 112 (pA #[x0,x1,x2]) w λa w=>
 eX a 0 w λb w=>
 eX a 1 w λc w=>
 bC .neq 28 17 0 c w λd w=>
 af d (
 K c w) (
 bA prog x0 "Err" (pA #[]) w fun e w=>
 bC .neq 28 22 0 e w λf w=>
 af f (
 K e w) (
 cL 113 (pA #[b,(.int .u64 ((0:Nat):Int))]) w λg w=>
 cL 99 (pA #[g,x0]) w λh w=>
 K h w))
def Xz:=cA3 Tryz.func62 .o adG
def adH:Prop:=
 cL 114 (pA #[x0,x1,x2]) w λa w=>
 K a w
def XA:=cA3 Tryz.func63 .o adH
def NL:Prop:=
 bC .lss 3 7 0 x0 w λa w=>
 gV a false x0 w λb w=>
 gd a false (λk=>bC .geq 3 10 8 b w k) w λc w=>
 aw a (.bool true) c w λd w=>
 gV d false x1 w λe w=>
 gd d false (λk=>bC .lss 3 14 1 e w k) w λf w=>
 aw d (.bool true) f w λg w=>
 gV g false x2 w λh w=>
 gd g false (λk=>bU .eql 5 18 .u8 0 h w k) w λi w=>
 aw g (.bool true) i w λj w=>
 gV j false x2 w λl w=>
 gd j false (λk=>bU .gtr 5 22 .u8 127 l w k) w λm w=>
 aw j (.bool true) m w λn w=>
 af n (
 K (.int .i64 1) w) (
 bC .gtr 3 25 60 x1 w λo w=>
 af o (
 K (.int .i64 9) w) (
 K (.int .i64 0) w))
def vl:=cA3 Tryz.func64 .o NL
noncomputable def NM:=uD Tryz.f66 (.s .o (.x 0 (.s .o (.b (.l [23] 6291465 70368735819520 (.s .o (.s .o (.x 14680073 .o .o)))))) .o))
abbrev NN:=aU prog Tryz.f66.results.toList
def vm:KF:=kO 0 (cP (pr (pr NM)) (NN K) (NN K) nX)
def XB:Prop:=vm K (fy 46 0 []) w
def XC:Prop:=aG [23] 6291465 (λE=>cP (pw NM 5 5) E (NN K) (exB 0 (vm K) nX)) (fy 46 14680073 [x0,x3,x21,x22,x23]) w
def XD (E1:VP1):KF:=kO 14680073 (cP (pw NM 8 229) (sE1 E1 23) (NN K) (exB 0 (vm K) nX))
def J9 (K:K1) (E1:VP1) (x0 x3 x21 x22 x23:aA) (w:ap):Prop:=XD K E1 (fy 46 14680073 [x0,x3,x21,x22,x23]) w
def Fj:Prop:=
 K (.tuple #[(.int .u64 ((0:Nat):Int)),(.int .i64 0),(.int .i64 5)]) w
def R3:XB K w=Fj K w:=aI λσ=>kR
def vn (E1:VP1):Prop:=
 bT .lss 3 23 22 x23 x22 w λa w=>
 af a (
 iA 50 x21 x23 w λb w=>
 lD 3 b w λc w=>
 nS x0 w λd w=>
 fA 112 d 6 w λe w=>
 lD 110 e w λf w=>
 ev prog (Instr.lookup 110 f c false) w λg w=>
 af g (
 J9 K E1 x0 x3 x21 x22 x23 w) (
 cL 68 (pA #[x0,c,x3]) w λh w=>
 eX h 0 w λi w=>
 eX h 1 w λj w=>
 bC .neq 28 40 5 j w λl w=>
 af l (
 K (.tuple #[i,c,j]) w) (
 J9 K E1 x0 x3 x21 x22 x23 w))) (
 XB K w)
def Fk (I:VP1) (μ:M1) (h0:I x23 w) (hr:∀x23 w,I x23 w->∀E1,Q1 I μ x23 w E1->vn K x0 x3 x21 x22 x23 w E1):XC K x0 x3 x21 x22 x23 w:=⟨I,μ,h0,λσ w hI E hE=>cast kR (hr (σ 23) w hI E hE)⟩
def oP (E1:VP1):Prop:=
 bC .add 3 23 1 x23 w λa w=>
 E1 a w
def zT (E1:VP1):J9 K E1 x0 x3 x21 x22 x23 w=oP x23 w E1:=aI λσ=>kR
def adI:Prop:=
 nS x0 w λa w=>
 fA 112 a 3 w λb w=>
 lD 107 b w λc w=>
 cL 115 (pA #[c,x1,x2]) w λd w=>
 lN 50 d w λe w=>
 XC K x0 x3 d e (.int .i64 0) w
def XE:=cA4 Tryz.func66 NM.2 adI
noncomputable def XF:=uD Tryz.f67 (.s .o (.s .o (.s .o (.s .o (.s .o (.s .o (.s .o (.s .o (.s .o (.s .o (.x 33025 (.s .o (.b (.l [] 19807040628566084398386020609 5030988319655785437190040911872 .o))) .o)))))))))))
abbrev XG:=aU prog Tryz.f67.results.toList
def XH:KF:=kO 33025 (cP (pw XF 11 2047) (XG K) (XG K) nX)
def afx:Prop:=aG [] 19807040628566084398386020609 (λE=>cP (pw XF 14 3071) E (XG K) (exB 0 (XH K) nX)) (fy 107 19807040628566084398386020609 [x0,x8,x15,x94]) w
def adJ:Prop:=
 nS x0 w λa w=>
 fA 112 a 6 w λb w=>
 lD 110 b w λc w=>
 lN 110 c w λd w=>
 bC .eql 3 21 0 d w λe w=>
 af e (
 nS x0 w λf w=>
 fA 112 f 3 w λg w=>
 lD 107 g w λh w=>
 cL 116 (pA #[h,x1,x2]) w λi w=>
 eX i 0 w λj w=>
 eX i 1 w λl w=>
 K (.tuple #[j,l]) w) (
 cL 117 (pA #[x0]) w λm w=>
 eX m 0 w λn w=>
 eX m 1 w λo w=>
 eX m 2 w λp w=>
 nS x0 w λq w=>
 fA 112 q 0 w λs w=>
 lD 106 s w λt w=>
 bA prog t "Err" (pA #[]) w fun v w=>
 bC .neq 28 43 0 v w λy w=>
 af y (
 K (.tuple #[(.int .i64 0),v]) w) (
 bU .eql 130 46 .u16 0 o w λz w=>
 af z (
 K (.tuple #[(.int .i64 0),(.int .i64 4)]) w) (
 ev prog (Instr.build 132 #[(0,x2),(1,x1),(2,o)]) w λa0 w=>
 cL 118 (pA #[n,a0]) w λa1 w=>
 eX a1 0 w λa2 w=>
 eX a1 1 w λa3 w=>
 bC .neq 28 57 0 a3 w λa4 w=>
 af a4 (
 K (.tuple #[(.int .i64 0),a3]) w) (
 nR x0 w.drew λa5=>
 fR 112 a5 0 w.drew λa6=>
 lR 106 a6 w.drew λa7=>
 cL 119 (pA #[p,a2]) w.drew λa8 w=>
 (bw prog x0 w (λu=>u=a5))/\
 (fG 112 a5 0 w a6)/\
 (lG 106 a6 w a7)/\
 cL 99 (pA #[a8,a7]) w λa9 w=>
 bC .neq 28 68 0 a9 w λb0 w=>
 af b0 (
 K (.tuple #[(.int .i64 0),a9]) w) (
 nR x0 w.drew λb1=>
 fR 112 b1 0 w.drew λb2=>
 lR 106 b2 w.drew λb3=>
 nR x0 w.drew λb4=>
 fR 112 b4 1 w.drew λb5=>
 lR 3 b5 w.drew λb6=>
 nR x0 w.drew λb7=>
 fR 112 b7 2 w.drew λb8=>
 lR 3 b8 w.drew λb9=>
 cL 120 (pA #[b3,b6,b9]) w.drew λc0 w=>
 xR c0 0 w λc1=>
 xR c0 1 w λc2=>
 bC .neq 28 87 0 c2 w λc3 w=>
 af c3 (
 K (.tuple #[(.int .i64 0),c2]) w) (
 nS x0 w λc4 w=>
 fA 112 c4 5 w λc5 w=>
 lD 109 c5 w λc6 w=>
 ev prog (Instr.range 109 c6) w λc7 w=>
 afx K x0 n c1 c7 w))))))
def XI:=cA3 Tryz.func67 XF.2 adJ
noncomputable def NO:=uD Tryz.f68 (.s .o (.s .o (.s .o (.x 1 (.s .o (.b (.l [10] 261 147573952587528993984 (.s .o (.x 1285 .o .o))))) .o))))
abbrev NP:=aU prog Tryz.f68.results.toList
def vo:KF:=kO 1 (cP (pw NO 4 15) (NP K) (NP K) nX)
def XJ:Prop:=vo K (fy 75 1 [x0]) w
def XK:Prop:=aG [10] 261 (λE=>cP (pw NO 7 23) E (NP K) (exB 0 (vo K) nX)) (fy 75 1285 [x0,x2,x8,x10]) w
def XL (E1:VP1):KF:=kO 1285 (cP (pw NO 9 407) (sE1 E1 10) (NP K) (exB 0 (vo K) nX))
def Ka (K:K1) (E1:VP1) (x0 x2 x8 x10:aA) (w:ap):Prop:=XL K E1 (fy 75 1285 [x0,x2,x8,x10]) w
def Fl:Prop:=
 nS x0 w λa w=>
 fA 112 a 0 w λb w=>
 lD 106 b w λc w=>
 bA prog c "Err" (pA #[]) w fun d w=>
 bC .neq 28 72 0 d w λe w=>
 af e (
 K (.tuple #[(.int .u64 ((0:Nat):Int)),d]) w) (
 K (.tuple #[(.int .u64 ((0:Nat):Int)),(.int .i64 5)]) w)
def R4:XJ K x0 w=Fl K x0 w:=aI λσ=>kR
def vp (E1:VP1):Prop:=
 bC .geq 3 31 0 x10 w λa w=>
 af a (
 lD 134 x8 w λb w=>
 cL 122 (pA #[b,x10,x2]) w λc w=>
 eX c 0 w λd w=>
 eX c 1 w λe w=>
 nS x0 w λf w=>
 fA 112 f 0 w λg w=>
 lD 106 g w λh w=>
 bA prog h "Err" (pA #[]) w fun i w=>
 bC .neq 28 49 0 i w λj w=>
 af j (
 K (.tuple #[(.int .u64 ((0:Nat):Int)),i]) w) (
 bC .neq 28 52 0 e w λl w=>
 af l (
 Ka K E1 x0 x2 x8 x10 w) (
 nR x0 w.drew λm=>
 fR 112 m 4 w.drew λn=>
 lR 108 n w.drew λo=>
 cL 20 (pA #[d]) w.drew λp w=>
 (bw prog x0 w (λu=>u=m))/\
 (fG 112 m 4 w n)/\
 (lG 108 n w o)/\
 rd prog (Instr.lookup 108 o p true) w λq=>
 xR q 0 w λs=>
 xR q 1 w λt=>
 ev prog (Op.unary .not t) w λv w=>
 af v (
 K (.tuple #[d,(.int .i64 0)]) w) (
 Ka K E1 x0 x2 x8 x10 w)))) (
 XJ K x0 w)
def Fm (I:VP1) (μ:M1) (h0:I x10 w) (hr:∀x10 w,I x10 w->∀E1,Q1 I μ x10 w E1->vp K x0 x2 x8 x10 w E1):XK K x0 x2 x8 x10 w:=⟨I,μ,h0,λσ w hI E hE=>cast kR (hr (σ 10) w hI E hE)⟩
def vq (E1:VP1):Prop:=
 lD 134 x8 w λa w=>
 bC .add 3 34 1 x10 w λb w=>
 cL 121 (pA #[a,b]) w λc w=>
 E1 c w
def zU (E1:VP1):Ka K E1 x0 x2 x8 x10 w=vq x8 x10 w E1:=aI λσ=>kR
def adK:Prop:=
 nS x0 w λa w=>
 fA 112 a 0 w λb w=>
 lD 106 b w λc w=>
 cL 75 (pA #[c,x1]) w λd w=>
 eX d 0 w λe w=>
 eX d 1 w λf w=>
 ev prog (Instr.alloc 134 true (.tuple #[])) w λg w=>
 sD 134 g e w λw=>
 bC .neq 28 26 0 f w λh w=>
 af h (
 K (.tuple #[(.int .u64 ((0:Nat):Int)),f]) w) (
 lD 134 g w λi w=>
 cL 121 (pA #[i,(.int .i64 0)]) w λj w=>
 XK K x0 x2 g j w)
def XM:=cA3 Tryz.func68 NO.2 adK
noncomputable def XN:=uD Tryz.f69 (.s .o (.s .o (.x 129 (.s .o (.b (.l [7,11] 1027 4192640 .o))) .o)))
abbrev XO:=aU prog Tryz.f69.results.toList
def Fo:KF:=kO 129 (cP (pw XN 3 7) (XO K) (XO K) nX)
def XP:Prop:=Fo K (fy 29 129 [x0,x7]) w
def XQ:Prop:=aG [7,11] 1027 (λE=>cP (pw XN 6 11) E (XO K) (exB 0 (Fo K) nX)) (fy 29 3203 [x0,x1,x7,x10,x11]) w
def Fp:Prop:=
 nR x0 w.drew λa=>
 fR 112 a 0 w.drew λb=>
 lR 106 b w.drew λc=>
 cL 123 (pA #[x7]) w.drew λd w=>
 (bw prog x0 w (λu=>u=a))/\
 (fG 112 a 0 w b)/\
 (lG 106 b w c)/\
 cL 99 (pA #[d,c]) w λe w=>
 K e w
def R5:XP K x0 x7 w=Fp K x0 x7 w:=aI λσ=>kR
def vr (E1:VP2):Prop:=
 bT .lss 3 11 10 x11 x10 w λa w=>
 af a (
 cL 31 (pA #[x1,x11]) w λb w=>
 ev prog (Instr.build 98 #[(0,b)]) w λc w=>
 ev prog (ab 79 1 #[(0,c)]) w λd w=>
 aS prog .append #[79,79] 79 #[false,false] (pA #[x7,d]) w λe w=>
 bC .add 3 11 1 x11 w λf w=>
 E1 e f w) (
 XP K x0 x7 w)
def Fq (I:VP2) (μ:M2) (h0:I x7 x11 w) (hr:∀x7 x11 w,I x7 x11 w->∀E1,Q2 I μ x7 x11 w E1->vr K x0 x1 x7 x10 x11 w E1):XQ K x0 x1 x7 x10 x11 w:=⟨I,μ,h0,λσ w hI E hE=>cast kR (hr (σ 7) (σ 11) w hI E hE)⟩
def adL:Prop:=
 cL 85 (pA #[x2]) w λa w=>
 XQ K x0 x1 (.slice none 0 0) a (.int .i64 0) w
def XR:=cA3 Tryz.func69 XN.2 adL
noncomputable def Fs:=uD Tryz.f71 (.s .o (.s .o (.x 3 (.s .o (.b (.l [29] 402653187 549218943152 .o))) (.s .o (.s .o (.s .o (.s .o (.s .o (.s .o (.s .o (.s .o (.s .o (.x 12545 (.s .o (.b (.l [12,13,78] 226673591177742970257665 41538374867976389573340313340211200 .o))) .o)))))))))))))
abbrev zV:=aU prog Tryz.f71.results.toList
def Ft:KF:=kO 3 (cP (pw Fs 3 7) (zV K) (zV K) nX)
def Kb:Prop:=Ft K (fy 133 3 [x0,x1]) w
def XS:Prop:=aG [29] 402653187 (λE=>cP (pw Fs 6 11) E (zV K) (exB 0 (Ft K) nX)) (fy 133 939524099 [x0,x1,x27,x28,x29]) w
def Fu:KF:=kO 12545 (cP (pw Fs 13 8191) (zV K) (zV K) nX)
def Kc:Prop:=Fu K (fy 133 12545 [x0,x8,x12,x13]) w
def Kd:Prop:=aG [12,13,78] 226673591177742970257665 (λE=>cP (pw Fs 16 12287) E (zV K) (exB 2 (Fu K) nX)) (fy 133 528905046081400263946497 [x0,x8,x12,x13,x76,x77,x78]) w
def je:Prop:=
 cL 126 (pA #[x1]) w λa w=>
 lN 79 a w λb w=>
 bC .gtr 3 42 96 b w λc w=>
 af c (
 K (.tuple #[(.slice none 0 0),(.int .i64 9)]) w) (
 nS x0 w λd w=>
 fA 171 d 0 w λe w=>
 lD 106 e w λf w=>
 bA prog f "Err" (pA #[]) w fun g w=>
 bC .neq 28 49 0 g w λh w=>
 af h (
 K (.tuple #[(.slice none 0 0),g]) w) (
 nR x0 w.drew λi=>
 fR 171 i 0 w.drew λj=>
 lR 106 j w.drew λl=>
 nR x0 w.drew λm=>
 fR 171 m 1 w.drew λn=>
 lR 26 n w.drew λo=>
 nR l w.drew λp=>
 bA prog l "Load" (pA #[o]) w.drew fun q w=>
 nS x0 w λs w=>
 fA 171 s 0 w λt w=>
 lD 106 t w λv w=>
 bA prog v "Err" (pA #[]) w fun y w=>
 bC .neq 28 68 0 y w λz w=>
 af z (
 K (.tuple #[(.slice none 0 0),y]) w) (
 bU .neq 26 71 .u64 0 q w λa0 w=>
 af a0 (
 K (.tuple #[(.slice none 0 0),(.int .i64 8)]) w) (
 lN 79 a w λa1 w=>
 bC .eql 3 74 0 a1 w λa2 w=>
 af a2 (
 K (.tuple #[(.slice none 0 0),(.int .i64 0)]) w) (
 lN 79 a w λa3 w=>
 Kd K x0 a (.slice none 0 0) (.slice none 0 0) a a3 (.int .i64 0) w)))))
def jg:Kb K x0 x1 w=je K x0 x1 w:=aI λσ=>kR
def oQ (E1:VP1):Prop:=
 bT .lss 3 29 28 x29 x28 w λa w=>
 af a (
 iA 79 x27 x29 w λb w=>
 lD 98 b w λc w=>
 ev prog (Instr.alloc 98 true (.tuple #[])) w λd w=>
 sD 98 d c w λw=>
 fA 98 d 0 w λe w=>
 lD 26 e w λf w=>
 cL 125 (pA #[x0,f]) w λg w=>
 ev prog (Op.unary .not g) w λh w=>
 af h (
 K (.tuple #[(.slice none 0 0),(.int .i64 1)]) w) (
 bC .add 3 29 1 x29 w λi w=>
 E1 i w)) (
 Kb K x0 x1 w)
def rO (I:VP1) (μ:M1) (h0:I x29 w) (hr:∀x29 w,I x29 w->∀E1,Q1 I μ x29 w E1->oQ K x0 x1 x27 x28 x29 w E1):XS K x0 x1 x27 x28 x29 w:=⟨I,μ,h0,λσ w hI E hE=>cast kR (hr (σ 29) w hI E hE)⟩
def Fv:Prop:=
 lN 79 x8 w λa w=>
 cV 3 26 a w λb w=>
 cL 127 (pA #[x13]) w λc w=>
 cV 126 26 c w λd w=>
 bU .shl 26 120 .u64 32 d w λe w=>
 bT .or 26 117 121 b e w λf w=>
 cL 123 (pA #[x12]) w λg w=>
 cL 113 (pA #[x0,f]) w λh w=>
 cL 119 (pA #[g,h]) w λi w=>
 cL 128 (pA #[x0,x8]) w λj w=>
 cL 119 (pA #[i,j]) w λl w=>
 K (.tuple #[l,(.int .i64 0)]) w
def R6:Kc K x0 x8 x12 x13 w=Fv K x0 x8 x12 x13 w:=aI λσ=>kR
def vt (E1:VP3):Prop:=
 bT .lss 3 78 77 x78 x77 w λa w=>
 af a (
 iA 79 x76 x78 w λb w=>
 lD 98 b w λc w=>
 ev prog (Instr.alloc 98 true (.tuple #[])) w λd w=>
 sD 98 d c w λw=>
 nS x0 w λe w=>
 fA 171 e 1 w λf w=>
 lD 26 f w λg w=>
 bU .add 26 86 .u64 64 g w λh w=>
 cV 3 26 x78 w λi w=>
 bU .mul 26 89 .u64 16 i w λj w=>
 bT .add 26 87 90 h j w λl w=>
 fA 98 d 0 w λm w=>
 lD 26 m w λn w=>
 ev prog (Instr.build 98 #[(0,l),(1,n)]) w λo w=>
 ev prog (ab 79 1 #[(0,o)]) w λp w=>
 aS prog .append #[79,79] 79 #[false,false] (pA #[x12,p]) w λq w=>
 bU .add 26 100 .u64 8 l w λs w=>
 fA 98 d 1 w λt w=>
 lD 26 t w λv w=>
 ev prog (Instr.build 98 #[(0,s),(1,v)]) w λy w=>
 ev prog (ab 79 1 #[(0,y)]) w λz w=>
 aS prog .append #[79,79] 79 #[false,false] (pA #[q,z]) w λa0 w=>
 fA 98 d 0 w λa1 w=>
 lD 26 a1 w λa2 w=>
 fA 98 d 1 w λa3 w=>
 lD 26 a3 w λa4 w=>
 ev prog (ab 58 2 #[(0,a2),(1,a4)]) w λa5 w=>
 aS prog .append #[58,58] 58 #[false,false] (pA #[x13,a5]) w λa6 w=>
 bC .add 3 78 1 x78 w λa7 w=>
 E1 a0 a6 a7 w) (
 Kc K x0 x8 x12 x13 w)
def Fw (I:VP3) (μ:M3) (h0:I x12 x13 x78 w) (hr:∀x12 x13 x78 w,I x12 x13 x78 w->∀E1,Q3 I μ x12 x13 x78 w E1->vt K x0 x8 x12 x13 x76 x77 x78 w E1):Kd K x0 x8 x12 x13 x76 x77 x78 w:=⟨I,μ,h0,λσ w hI E hE=>cast kR (hr (σ 12) (σ 13) (σ 78) w hI E hE)⟩
def XT:Prop:=
 bM .eql 32 (.tmp 18) (.const (.pointer none)) x0 (.pointer none) w λa w=>
 gV a false x0 w λb w=>
 gd a false (λk=>nS b w k) w λc w=>
 gd a false (λk=>fA 171 c 0 w k) w λd w=>
 gd a false (λk=>lD 106 d w k) w λe w=>
 gd a false (λk=>bM .eql 106 (.tmp 24) (.const .nilIface) e .nilIface w k) w λf w=>
 aw a (.bool true) f w λg w=>
 af g (
 K (.tuple #[(.slice none 0 0),(.int .i64 1)]) w) (
 lN 79 x1 w λh w=>
 XS K x0 x1 x1 h (.int .i64 0) w)
def Fx:=cA2 Tryz.func71 Fs.2 XT
def adM:Prop:=
 bM .eql 79 (.tmp 3) (.const (.slice none 0 0)) x0 (.slice none 0 0) w λa w=>
 af a (
 K (.slice none 0 0) w) (
 ev prog (ab 79 0 #[]) w λb w=>
 aS prog .append #[79,79] 79 #[false,false] (pA #[b,x0]) w λc w=>
 K c w)
def XU:=cA1 Tryz.func72 .o adM
def NQ:Prop:=
 nS x0 w λa w=>
 fA 112 a 1 w λb w=>
 lD 3 b w λc w=>
 cV 3 26 c w λd w=>
 bU .mul 26 13 .u64 64 d w λe w=>
 nS x0 w λf w=>
 fA 112 f 2 w λg w=>
 lD 3 g w λh w=>
 bC .quo 3 18 32 h w λi w=>
 bT .lss 26 20 21 x1 e w λj w=>
 af j (
 K (.tuple #[(.int .i64 0),(.bool false)]) w) (
 bT .sub 26 23 24 x1 e w λl w=>
 bU .quo 26 25 .u64 2048 l w λm w=>
 cV 3 26 i w λn w=>
 bT .geq 26 27 29 m n w λo w=>
 af o (
 K (.tuple #[(.int .i64 0),(.bool false)]) w) (
 nS x0 w λp w=>
 fA 112 p 1 w λq w=>
 lD 3 q w λs w=>
 cV 26 3 m w λt w=>
 bC .mul 3 36 32 t w λv w=>
 bT .add 3 34 37 s v w λy w=>
 K (.tuple #[y,(.bool true)]) w))
def vv:=cA2 Tryz.func74 .o NQ
def adN:Prop:=
 ev prog (Instr.box 33 x0) w λa w=>
 ev prog (Instr.makeFunc (.func 134) #[] #[a]) w λb w=>
 K b w
def XV:=cA1 Tryz.func80 .o adN
def adO:Prop:=
 bM .eql 33 (.tmp 5) (.const (.pointer none)) x0 (.pointer none) w λa w=>
 af a (
 K (.int .i64 5) w) (
 cL 83 (pA #[x0,x1]) w λb w=>
 ev prog (Op.unary .not b) w λc w=>
 af c (
 K (.int .i64 8) w) (
 cL 100 (pA #[x0,x1]) w λd w=>
 K (.int .i64 0) w))
def XW:=cA2 Tryz.func82 .o adO
def adP:Prop:=
 nR x0 w.drew λa=>
 fR 112 a 4 w.drew λb=>
 lR 108 b w.drew λc=>
 cL 20 (pA #[x1]) w.drew λd w=>
 (bw prog x0 w (λu=>u=a))/\
 (fG 112 a 4 w b)/\
 (lG 108 b w c)/\
 rd prog (Instr.lookup 108 c d true) w λe=>
 xR e 0 w λf=>
 xR e 1 w λg=>
 gV g true f w λh w=>
 gV g true x1 w λi w=>
 gd g true (λk=>bT .eql 27 19 20 h i w k) w λj w=>
 aw g j (.bool false) w λl w=>
 K l w
def XX:=cA2 Tryz.func83 .o adP
def adQ:Prop:=
 cL 20 (pA #[x1]) w λa w=>
 cL 74 (pA #[x0,a]) w λb w=>
 eX b 0 w λc w=>
 eX b 1 w λd w=>
 ev prog (Op.unary .not d) w λe w=>
 af e (
 K (.tuple #[(.int .i64 0),(.int .i64 0),(.int .i64 (-1))]) w) (
 nS x0 w λf w=>
 fA 112 f 0 w λg w=>
 lD 106 g w λh w=>
 cL 75 (pA #[h,c]) w λi w=>
 eX i 0 w λj w=>
 eX i 1 w λl w=>
 ev prog (Instr.alloc 134 true (.tuple #[])) w λm w=>
 sD 134 m j w λw=>
 bC .neq 28 29 0 l w λn w=>
 af n (
 K (.tuple #[c,(.int .i64 0),(.int .i64 (-1))]) w) (
 cL 20 (pA #[x1]) w λo w=>
 cV 3 26 c w λp w=>
 bU .mul 26 35 .u64 64 p w λq w=>
 bT .sub 26 33 36 o q w λs w=>
 bU .quo 26 37 .u64 8 s w λt w=>
 lD 134 m w λv w=>
 cL 136 (pA #[v]) w λy w=>
 cV 26 3 t w λz w=>
 cL 138 (pA #[y,z]) w λa0 w=>
 eX a0 0 w λa1 w=>
 eX a0 1 w λa2 w=>
 ev prog (Op.unary .not a2) w λa3 w=>
 af a3 (
 K (.tuple #[c,(.int .i64 0),(.int .i64 (-1))]) w) (
 lD 134 m w λa4 w=>
 cL 136 (pA #[a4]) w λa5 w=>
 K (.tuple #[c,a1,a5]) w)))
def XY:=cA2 Tryz.func84 .o adQ
noncomputable def Fy:=uD Tryz.f94 (.s .o (.s .o (.x 0 (.s .o (.b (.l [11] 1544 4294965412 (.s .o (.s .o (.x 3592 (.b (.s .o (.s .o (.b (.l [17] 101896 2147352708 .o))))) .o)))))) .o)))
abbrev Fz:=aU prog Tryz.f94.results.toList
def oR:KF:=kO 0 (cP (pw Fy 3 7) (Fz K) (Fz K) nX)
def XZ:Prop:=oR K (fy 32 0 []) w
def X0:Prop:=aG [11] 1544 (λE=>cP (pw Fy 6 11) E (Fz K) (exB 0 (oR K) nX)) (fy 32 3592 [x3,x9,x10,x11]) w
def vw (E1:VP1):KF:=kO 3592 (cP (pw Fy 9 459) (sE1 E1 11) (Fz K) (exB 0 (oR K) nX))
def Ke (K:K1) (E1:VP1) (x3 x9 x10 x11:aA) (w:ap):Prop:=vw K E1 (fy 32 3592 [x3,x9,x10,x11]) w
def Kf (K:K1) (E1:VP1) (x3 x9 x10 x11 x15 x16 x17:aA) (w:ap):Prop:=aG [17] 101896 (λE=>cP (pw Fy 14 3275) E (Fz K) (exB 2 (vw K E1) (exB 1 (vw K E1) (exB 0 (oR K) nX)))) (fy 32 232968 [x3,x9,x10,x11,x15,x16,x17]) w
def FA:Prop:=
 K (.bool true) w
def R7:XZ K w=FA K w:=aI λσ=>kR
def FB (E1:VP1):Prop:=
 bT .lss 3 11 10 x11 x10 w λa w=>
 af a (
 iA 213 x9 x11 w λb w=>
 lD 25 b w λc w=>
 lN 25 c w λd w=>
 Kf K E1 x3 x9 x10 x11 c d (.int .i64 0) w) (
 XZ K w)
def FC (I:VP1) (μ:M1) (h0:I x11 w) (hr:∀x11 w,I x11 w->∀E1,Q1 I μ x11 w E1->FB K x3 x9 x10 x11 w E1):X0 K x3 x9 x10 x11 w:=⟨I,μ,h0,λσ w hI E hE=>cast kR (hr (σ 11) w hI E hE)⟩
def vx (E1:VP1):Prop:=
 bC .add 3 11 1 x11 w λa w=>
 E1 a w
def zX (E1:VP1):Ke K E1 x3 x9 x10 x11 w=vx x11 w E1:=aI λσ=>kR
def FD (E1:VP1) (E2:VP1):Prop:=
 bT .lss 3 17 16 x17 x16 w λa w=>
 af a (
 iA 25 x15 x17 w λb w=>
 lD 27 b w λc w=>
 cL 73 (pA #[c]) w λd w=>
 gV d false x3 w λe w=>
 gV d false c w λf w=>
 gd d false (λk=>ev prog (Instr.lookup 214 e f false) w k) w λg w=>
 aw d (.bool true) g w λh w=>
 af h (
 K (.bool false) w) (
 ac prog (Instr.mapUpdate 214 x3 c (.bool true)) w λw=>
 bC .add 3 17 1 x17 w λi w=>
 E2 i w)) (
 Ke K E1 x3 x9 x10 x11 w)
def FE (E1:VP1) (I:VP1) (μ:M1) (h0:I x17 w) (hr:∀x17 w,I x17 w->∀E2,Q1 I μ x17 w E2->FD K x3 x9 x10 x11 x15 x16 x17 w E1 E2):Kf K E1 x3 x9 x10 x11 x15 x16 x17 w:=⟨I,μ,h0,λσ w hI E hE=>cast kR (hr (σ 17) w hI E hE)⟩
def adR:Prop:=
 ev prog (Instr.makeMap 214 none) w λa w=>
 lN 213 x0 w λb w=>
 X0 K a x0 b (.int .i64 0) w
def X1:=cA1 Tryz.func94 Fy.2 adR
noncomputable def adS:=uD Tryz.f95 (.s .o (.s .o (.x 16 .o .o)))
abbrev adT:=aU prog Tryz.f95.results.toList
def X2:KF:=kO 16 (cP (pw adS 3 7) (adT K) (adT K) nX)
def Kg:Prop:=X2 K (fy 16 16 [x4]) w
def vy:Prop:=
 K x4 w
def zY:Kg K x4 w=vy K x4 w:=aI λσ=>kR
def adU:Prop:=
 lD 159 x1 w λa w=>
 ev prog (Instr.lookup 159 a x0 false) w λb w=>
 bM .eql 160 (.tmp 8) (.const (.pointer none)) b (.pointer none) w λc w=>
 af c (
 ev prog (Instr.build 162 #[]) w λd w=>
 ev prog (Instr.box 162 d) w λe w=>
 lD 159 x1 w λf w=>
 ac prog (Instr.mapUpdate 159 f x0 e) w λw=>
 Kg K e w) (
 Kg K b w)
def X3:=cA2 Tryz.func95 adS.2 adU
def adV:Prop:=
 cL 140 (pA #[x0]) w λa w=>
 cL 141 (pA #[a]) w λb w=>
 K a w
def X4:=cA1 Tryz.func96 .o adV
def adW:Prop:=
 ev prog (Instr.box 159 x0) w λa w=>
 ev prog (Instr.makeFunc (.func 142) #[] #[a]) w λb w=>
 K b w
def X5:=cA1 Tryz.func97 .o adW
def X6:Prop:=
 nR x0 w.drew λa=>
 fR 112 a 4 w.drew λb=>
 lR 108 b w.drew λc=>
 cL 20 (pA #[x1]) w.drew λd w=>
 (bw prog x0 w (λu=>u=a))/\
 (fG 112 a 4 w b)/\
 (lG 108 b w c)/\
 aS prog .delete #[108,26] 0 #[false,false] (pA #[c,d]) w λ_ w=>
 cL 20 (pA #[x1]) w λe w=>
 cL 74 (pA #[x0,e]) w λf w=>
 eX f 0 w λg w=>
 eX f 1 w λh w=>
 ev prog (Op.unary .not h) w λi w=>
 af i (
 K (.tuple #[]) w) (
 nS x0 w λj w=>
 fA 112 j 5 w λl w=>
 lD 109 l w λm w=>
 ev prog (Instr.lookup 109 m g false) w λn w=>
 bC .sub 3 26 1 n w λo w=>
 ac prog (Instr.mapUpdate 109 m g o) w λw=>
 nS x0 w λp w=>
 fA 112 p 5 w λq w=>
 lD 109 q w λs w=>
 ev prog (Instr.lookup 109 s g false) w λt w=>
 bC .leq 3 33 0 t w λv w=>
 af v (
 nS x0 w λy w=>
 fA 112 y 5 w λz w=>
 lD 109 z w λa0 w=>
 aS prog .delete #[109,3] 0 #[false,false] (pA #[a0,g]) w λ_ w=>
 nS x0 w λa1 w=>
 fA 112 a1 3 w λa2 w=>
 lD 107 a2 w λa3 w=>
 cL 70 (pA #[a3,g,(.bool false)]) w λa4 w=>
 K (.tuple #[]) w) (
 K (.tuple #[]) w))
def R8:=cA2 Tryz.func100 .o X6
def X7:Prop:=
 cL 112 (pA #[x0,x1,x2]) w λa w=>
 eX a 0 w λb w=>
 eX a 1 w λc w=>
 K (.tuple #[b,c]) w
def R9:=cA3 Tryz.func107 .o X7
def X8:Prop:=
 bM .eql 32 (.tmp 9) (.const (.pointer none)) x0 (.pointer none) w λa w=>
 gV a false x0 w λb w=>
 gd a false (λk=>nS b w k) w λc w=>
 gd a false (λk=>fA 171 c 0 w k) w λd w=>
 gd a false (λk=>lD 106 d w k) w λe w=>
 gd a false (λk=>bM .eql 106 (.tmp 15) (.const .nilIface) e .nilIface w k) w λf w=>
 aw a (.bool true) f w λg w=>
 af g (
 K (.tuple #[(.int .i64 0),(.int .i64 1)]) w) (
 nS x0 w λh w=>
 fA 171 h 0 w λi w=>
 lD 106 i w λj w=>
 bA prog j "Err" (pA #[]) w fun l w=>
 bC .neq 28 23 0 l w λm w=>
 af m (
 K (.tuple #[(.int .i64 0),l]) w) (
 cL 151 (pA #[x0]) w λn w=>
 eX n 0 w λo w=>
 eX n 1 w λp w=>
 nS x0 w λq w=>
 fA 171 q 0 w λs w=>
 lD 106 s w λt w=>
 bA prog t "Err" (pA #[]) w fun v w=>
 bC .neq 28 36 0 v w λy w=>
 af y (
 K (.tuple #[(.int .i64 0),v]) w) (
 bU .eql 225 39 .u8 1 o w λz w=>
 af z (
 K (.tuple #[(.int .i64 0),(.int .i64 0)]) w) (
 bU .eql 225 39 .u8 3 o w λa0 w=>
 af a0 (
 K (.tuple #[(.int .i64 0),(.int .i64 10)]) w) (
 nR x0 w.drew λa1=>
 fR 171 a1 0 w.drew λa2=>
 lR 106 a2 w.drew λa3=>
 cL 128 (pA #[x0,p]) w.drew λa4 w=>
 (bw prog x0 w (λu=>u=a1))/\
 (fG 171 a1 0 w a2)/\
 (lG 106 a2 w a3)/\
 cL 99 (pA #[a4,a3]) w λa5 w=>
 bC .neq 28 52 0 a5 w λa6 w=>
 af a6 (
 K (.tuple #[(.int .i64 0),a5]) w) (
 lN 79 p w λa7 w=>
 K (.tuple #[a7,(.int .i64 0)]) w))))))
def Sa:=cA1 Tryz.func108 .o X8
noncomputable def CT:=uD Tryz.f109 (.s .o (.s .o (.s .o (.x 263 (.s .o (.b (.l [28] 201326855 2251799545280704 (.s .o (.s .o (.x 469762311 .o .o)))))) .o))))
abbrev CU:=aU prog Tryz.f109.results.toList
def qU:KF:=kO 263 (cP (pw CT 4 15) (CU K) (CU K) nX)
def CV:Prop:=qU K (fy 59 263 [x0,x1,x2,x8]) w
def NR:Prop:=aG [28] 201326855 (λE=>cP (pw CT 7 23) E (CU K) (exB 0 (qU K) nX)) (fy 59 469762311 [x0,x1,x2,x8,x26,x27,x28]) w
def Sb (E1:VP1):KF:=kO 469762311 (cP (pw CT 10 919) (sE1 E1 28) (CU K) (exB 0 (qU K) nX))
def CX (K:K1) (E1:VP1) (x0 x1 x2 x8 x26 x27 x28:aA) (w:ap):Prop:=Sb K E1 (fy 59 469762311 [x0,x1,x2,x8,x26,x27,x28]) w
def zZ:Prop:=
 ev prog (Instr.makeMap 108 none) w λa w=>
 ev prog (Instr.makeMap 109 none) w λb w=>
 ev prog (Instr.build 112 #[(0,x0),(1,x1),(2,x2),(3,x8),(4,a),(5,b)]) w λc w=>
 ev prog (Instr.box 112 c) w λd w=>
 K (.tuple #[d,(.int .i64 0)]) w
def Kh:CV K x0 x1 x2 x8 w=zZ K x0 x1 x2 x8 w:=aI λσ=>kR
def my (E1:VP1):Prop:=
 bT .lss 3 28 27 x28 x27 w λa w=>
 af a (
 iA 50 x26 x28 w λb w=>
 lD 3 b w λc w=>
 cL 152 (pA #[x8,c]) w λd w=>
 bC .lss 3 34 0 d w λe w=>
 af e (
 CX K E1 x0 x1 x2 x8 x26 x27 x28 w) (
 cL 75 (pA #[x0,c]) w λf w=>
 eX f 0 w λg w=>
 eX f 1 w λh w=>
 ev prog (Instr.alloc 134 true (.tuple #[])) w λi w=>
 sD 134 i g w λw=>
 bC .neq 28 42 0 h w λj w=>
 af j (
 K (.tuple #[(.pointer none),h]) w) (
 lD 134 i w λl w=>
 cL 153 (pA #[l]) w λm w=>
 bC .neq 28 47 0 m w λn w=>
 af n (
 K (.tuple #[(.pointer none),m]) w) (
 CX K E1 x0 x1 x2 x8 x26 x27 x28 w)))) (
 CV K x0 x1 x2 x8 w)
def CY (I:VP1) (μ:M1) (h0:I x28 w) (hr:∀x28 w,I x28 w->∀E1,Q1 I μ x28 w E1->my K x0 x1 x2 x8 x26 x27 x28 w E1):NR K x0 x1 x2 x8 x26 x27 x28 w:=⟨I,μ,h0,λσ w hI E hE=>cast kR (hr (σ 28) w hI E hE)⟩
def qV (E1:VP1):Prop:=
 bC .add 3 28 1 x28 w λa w=>
 E1 a w
def vz (E1:VP1):CX K E1 x0 x1 x2 x8 x26 x27 x28 w=qV x28 w E1:=aI λσ=>kR
def X9:Prop:=
 cL 120 (pA #[x0,x1,x2]) w λa w=>
 eX a 0 w λb w=>
 eX a 1 w λc w=>
 bC .neq 28 22 0 c w λd w=>
 af d (
 K (.tuple #[(.pointer none),c]) w) (
 cL 91 (pA #[b]) w λe w=>
 lN 50 e w λf w=>
 NR K x0 x1 x2 b e f (.int .i64 0) w)
def Sc:=cA3 Tryz.func109 CT.2 X9
def Ya:Prop:=
 bM .eql 106 (.tmp 9) (.const .nilIface) x0 .nilIface w λa w=>
 gV a false x1 w λb w=>
 gd a false (λk=>bC .lss 3 12 0 b w k) w λc w=>
 aw a (.bool true) c w λd w=>
 gV d false x2 w λe w=>
 gd d false (λk=>bC .lss 3 16 26 e w k) w λf w=>
 aw d (.bool true) f w λg w=>
 af g (
 K (.tuple #[(.pointer none),(.int .i64 1)]) w) (
 bA prog x0 "Size" (pA #[]) w fun h w=>
 bU .quo 26 20 .u64 64 h w λi w=>
 cV 3 26 x2 w λj w=>
 bT .gtr 26 23 24 j i w λl w=>
 gV l false x1 w λm w=>
 gd l false (λk=>cV 3 26 m w k) w λn w=>
 gV l false i w λo w=>
 gV l false x2 w λp w=>
 gd l false (λk=>cV 3 26 p w k) w λq w=>
 gd l false (λk=>bT .sub 26 29 31 o q w k) w λs w=>
 gd l false (λk=>bT .gtr 26 28 32 n s w k) w λt w=>
 aw l (.bool true) t w λv w=>
 af v (
 K (.tuple #[(.pointer none),(.int .i64 1)]) w) (
 cV 3 26 x1 w λy w=>
 bU .mul 26 37 .u64 64 y w λz w=>
 cV 3 26 x2 w λa0 w=>
 bU .mul 26 40 .u64 64 a0 w λa1 w=>
 ev prog (Instr.build 171 #[(0,x0),(1,z),(2,a1)]) w λa2 w=>
 ev prog (Instr.box 171 a2) w λa3 w=>
 K (.tuple #[a3,(.int .i64 0)]) w))
def Sd:=cA3 Tryz.func112 .o Ya
def Yb:Prop:=
 nS x0 w λa w=>
 fA 171 a 1 w λb w=>
 lD 26 b w λc w=>
 ev prog (Instr.build 98 #[(0,c),(1,x1)]) w λd w=>
 ev prog (ab 79 1 #[(0,d)]) w λe w=>
 cL 123 (pA #[e]) w λf w=>
 K f w
def Se:=cA2 Tryz.func113 .o Yb
def Yc:Prop:=
 rU .rem 26 5 .u64 8 x1 w.drew λa=>
 rU .eql 26 6 .u64 0 a w.drew λb=>
 gW b true x1 λc=>
 gW b true x0 λd=>
 gN b true d w.drew λe=>
 gF b true 171 e 0 w.drew λf=>
 gL b true 106 f w.drew λg=>
 gd b true (fun k=>bA prog g "Size" (pA #[]) w.drew k) w.drew fun h w=>
 gdR b true (λk=>rT .lss 26 9 14 c h w k) λi=>
 bf b i (.bool false) λj=>
 gW j true x1 λl=>
 gW j true x0 λm=>
 gN j true m w λn=>
 gF j true 171 n 1 w λo=>
 gL j true 26 o w λp=>
 gdR j true (λk=>rT .lss 26 18 22 l p w k) λq=>
 gW j true q λs=>
 gW s false x1 λt=>
 gW s false x0 λv=>
 gN s false v w λy=>
 gF s false 171 y 1 w λz=>
 gL s false 26 z w λa0=>
 gdR s false (λk=>rT .sub 26 25 29 t a0 w k) λa1=>
 gW s false x0 λa2=>
 gN s false a2 w λa3=>
 gF s false 171 a3 2 w λa4=>
 gL s false 26 a4 w λa5=>
 gdR s false (λk=>rT .geq 26 30 34 a1 a5 w k) λa6=>
 gdR j true (λk=>bf s (.bool true) a6 k) λa7=>
 bf j a7 (.bool false) λa8=>
 K a8 w
def Sf:=cA2 Tryz.func125 .o Yc
noncomputable def qW:=uD Tryz.f126 (.s .o (.s .o (.x 9 (.s .o (.b (.l [12] 3081 4190256 .o))) (.s .o (.x 64 (.s .o (.b (.l [6,24] 12582920 1099494851008 (.s .o (.s .o (.x 29360200 .o .o)))))) .o)))))
abbrev nC:=aU prog Tryz.f126.results.toList
def Aa:KF:=kO 9 (cP (pw qW 3 7) (nC K) (nC K) nX)
def NS:Prop:=Aa K (fy 41 9 [x0,x3]) w
def NT:Prop:=aG [12] 3081 (λE=>cP (pw qW 6 11) E (nC K) (exB 0 (Aa K) nX)) (fy 41 7177 [x0,x3,x10,x11,x12]) w
def qX:KF:=kO 64 (cP (pw qW 5 31) (nC K) (nC K) nX)
def NU:Prop:=qX K (fy 41 64 [x6]) w
def NV:Prop:=aG [6,24] 12582920 (λE=>cP (pw qW 8 47) E (nC K) (exB 2 (qX K) nX)) (fy 41 29360200 [x3,x6,x22,x23,x24]) w
def Sg (E1:VP2):KF:=kO 29360200 (cP (pw qW 11 1839) (sE2 E1 6 24) (nC K) (exB 2 (qX K) nX))
def CZ (K:K1) (E1:VP2) (x3 x6 x22 x23 x24:aA) (w:ap):Prop:=Sg K E1 (fy 41 29360200 [x3,x6,x22,x23,x24]) w
def Ab:Prop:=
 lN 79 x0 w λa w=>
 NV K x3 (.slice none 0 0) x0 a (.int .i64 0) w
def Ki:NS K x0 x3 w=Ab K x0 x3 w:=aI λσ=>kR
def qY (E1:VP1):Prop:=
 bT .lss 3 12 11 x12 x11 w λa w=>
 af a (
 iA 79 x10 x12 w λb w=>
 lD 98 b w λc w=>
 ev prog (Instr.alloc 98 true (.tuple #[])) w λd w=>
 sD 98 d c w λw=>
 fA 98 d 0 w λe w=>
 lD 26 e w λf w=>
 ac prog (Instr.mapUpdate 238 x3 f x12) w λw=>
 bC .add 3 12 1 x12 w λg w=>
 E1 g w) (
 NS K x0 x3 w)
def C0 (I:VP1) (μ:M1) (h0:I x12 w) (hr:∀x12 w,I x12 w->∀E1,Q1 I μ x12 w E1->qY K x0 x3 x10 x11 x12 w E1):NT K x0 x3 x10 x11 x12 w:=⟨I,μ,h0,λσ w hI E hE=>cast kR (hr (σ 12) w hI E hE)⟩
def Ac:Prop:=
 K x6 w
def Kj:NU K x6 w=Ac K x6 w:=aI λσ=>kR
def qZ (E1:VP2):Prop:=
 bT .lss 3 24 23 x24 x23 w λa w=>
 af a (
 iA 79 x22 x24 w λb w=>
 lD 98 b w λc w=>
 ev prog (Instr.alloc 98 true (.tuple #[])) w λd w=>
 sD 98 d c w λw=>
 fA 98 d 0 w λe w=>
 lD 26 e w λf w=>
 ev prog (Instr.lookup 238 x3 f false) w λg w=>
 bT .eql 3 32 33 g x24 w λh w=>
 af h (
 lD 98 d w λi w=>
 ev prog (ab 79 1 #[(0,i)]) w λj w=>
 aS prog .append #[79,79] 79 #[false,false] (pA #[x6,j]) w λl w=>
 CZ K E1 x3 l x22 x23 x24 w) (
 CZ K E1 x3 x6 x22 x23 x24 w)) (
 NU K x6 w)
def C4 (I:VP2) (μ:M2) (h0:I x6 x24 w) (hr:∀x6 x24 w,I x6 x24 w->∀E1,Q2 I μ x6 x24 w E1->qZ K x3 x6 x22 x23 x24 w E1):NV K x3 x6 x22 x23 x24 w:=⟨I,μ,h0,λσ w hI E hE=>cast kR (hr (σ 6) (σ 24) w hI E hE)⟩
def Ad (E1:VP2):Prop:=
 bC .add 3 24 1 x24 w λa w=>
 E1 x6 a w
def Kk (E1:VP2):CZ K E1 x3 x6 x22 x23 x24 w=Ad x6 x24 w E1:=aI λσ=>kR
def Yd:Prop:=
 ev prog (Instr.makeMap 238 none) w λa w=>
 lN 79 x0 w λb w=>
 NT K x0 a x0 b (.int .i64 0) w
def Si:=cA1 Tryz.func126 qW.2 Yd
def Ye:Prop:=
 cL 123 (pA #[x1]) w λa w=>
 cL 113 (pA #[x0,(.int .u64 ((0:Nat):Int))]) w λb w=>
 cL 119 (pA #[a,b]) w λc w=>
 K c w
def Sj:=cA2 Tryz.func128 .o Ye
noncomputable def vA:=uD Tryz.f134 (.s .o (.s .o (.b (.l [18] 196611 576460752303162352 (.s .o (.s .o (.x 458755 (.b (.s .o (.s .o (.s .o (.s .o (.b (.l [36] 34360197155 288230307432235904 (.s .o (.s .o (.x 103079673891 .o .o)))))))))) .o)))))))
abbrev kQ:=aU prog Tryz.f134.results.toList
def NW:Prop:=aG [18] 196611 (λE=>cP (pw vA 4 3) E (kQ K) (exB 0 (kQ K) nX)) (fy 59 458755 [x0,x1,x16,x17,x18]) w
def jh (E1:VP1):KF:=kO 458755 (cP (pw vA 7 115) (sE1 E1 18) (kQ K) (exB 0 (kQ K) nX))
def C5 (K:K1) (E1:VP1) (x0 x1 x16 x17 x18:aA) (w:ap):Prop:=jh K E1 (fy 59 458755 [x0,x1,x16,x17,x18]) w
def C6 (K:K1) (E1:VP1) (x0 x1 x5 x16 x17 x18 x35 x36:aA) (w:ap):Prop:=aG [36] 34360197155 (λE=>cP (pw vA 14 3891) E (kQ K) (exB 2 (jh K E1) (exB 1 (jh K E1) (exB 0 (kQ K) nX)))) (fy 59 103079673891 [x0,x1,x5,x16,x17,x18,x35,x36]) w
def Sk (E1:VP1) (E2:VP1):KF:=kO 103079673891 (cP (pw vA 17 118579) (sE1 E2 36) (kQ K) (exB 2 (jh K E1) (exB 1 (jh K E1) (exB 0 (kQ K) nX))))
def C7 (K:K1) (E1:VP1) (E2:VP1) (x0 x1 x5 x16 x17 x18 x35 x36:aA) (w:ap):Prop:=Sk K E1 E2 (fy 59 103079673891 [x0,x1,x5,x16,x17,x18,x35,x36]) w
def q8 (E1:VP1):Prop:=
 bT .lss 3 18 17 x18 x17 w λa w=>
 af a (
 iA 50 x16 x18 w λb w=>
 lD 3 b w λc w=>
 lD 33 x1 w λd w=>
 nS d w λe w=>
 fA 112 e 0 w λf w=>
 lD 106 f w λg w=>
 cL 75 (pA #[g,c]) w λh w=>
 eX h 0 w λi w=>
 eX h 1 w λj w=>
 ev prog (Instr.alloc 134 true (.tuple #[])) w λl w=>
 sD 134 l i w λw=>
 bC .neq 28 31 0 j w λm w=>
 af m (
 C5 K E1 x0 x1 x16 x17 x18 w) (
 lD 134 l w λn w=>
 cL 136 (pA #[n]) w λo w=>
 cL 135 (pA #[o]) w λp w=>
 C6 K E1 x0 x1 l x16 x17 x18 p (.int .i64 0) w)) (
 K (.tuple #[]) w)
def C8 (I:VP1) (μ:M1) (h0:I x18 w) (hr:∀x18 w,I x18 w->∀E1,Q1 I μ x18 w E1->q8 K x0 x1 x16 x17 x18 w E1):NW K x0 x1 x16 x17 x18 w:=⟨I,μ,h0,λσ w hI E hE=>cast kR (hr (σ 18) w hI E hE)⟩
def q9 (E1:VP1):Prop:=
 bC .add 3 18 1 x18 w λa w=>
 E1 a w
def vB (E1:VP1):C5 K E1 x0 x1 x16 x17 x18 w=q9 x18 w E1:=aI λσ=>kR
def rc (E1:VP1) (E2:VP1):Prop:=
 bT .lss 3 36 35 x36 x35 w λa w=>
 af a (
 lD 134 x5 w λb w=>
 cL 137 (pA #[b,x36]) w λc w=>
 ev prog (Op.unary .not c) w λd w=>
 af d (
 C7 K E1 E2 x0 x1 x5 x16 x17 x18 x35 x36 w) (
 lD 134 x5 w λe w=>
 cL 122 (pA #[e,x36,(.int .u8 ((0:Nat):Int))]) w λf w=>
 eX f 0 w λg w=>
 eX f 1 w λh w=>
 bC .eql 28 49 0 h w λi w=>
 gV i true x0 w λj w=>
 gV i true g w λl w=>
 gd i true (λk=>nM prog j (pA #[l]) w k) w λm w=>
 gd i true (λk=>ev prog (Op.unary .not m) w k) w λn w=>
 aw i n (.bool false) w λo w=>
 af o (
 K (.tuple #[]) w) (
 C7 K E1 E2 x0 x1 x5 x16 x17 x18 x35 x36 w))) (
 C5 K E1 x0 x1 x16 x17 x18 w)
def C9 (E1:VP1) (I:VP1) (μ:M1) (h0:I x36 w) (hr:∀x36 w,I x36 w->∀E2,Q1 I μ x36 w E2->rc K x0 x1 x5 x16 x17 x18 x35 x36 w E1 E2):C6 K E1 x0 x1 x5 x16 x17 x18 x35 x36 w:=⟨I,μ,h0,λσ w hI E hE=>cast kR (hr (σ 36) w hI E hE)⟩
def re (E1:VP1) (E2:VP1):Prop:=
 bC .add 3 36 1 x36 w λa w=>
 E2 a w
def vC (E1:VP1) (E2:VP1):C7 K E1 E2 x0 x1 x5 x16 x17 x18 x35 x36 w=re x36 w E1 E2:=aI λσ=>kR
def Yf:Prop:=
 lD 33 x1 w λa w=>
 bM .eql 33 (.tmp 10) (.const (.pointer none)) a (.pointer none) w λb w=>
 af b (
 K (.tuple #[]) w) (
 lD 33 x1 w λc w=>
 nS c w λd w=>
 fA 112 d 3 w λe w=>
 lD 107 e w λf w=>
 cL 91 (pA #[f]) w λg w=>
 lN 50 g w λh w=>
 NW K x0 x1 g h (.int .i64 0) w)
def Sl:=cA2 Tryz.func134 vA.2 Yf
def Yg:Prop:=
 cL 178 (pA #[(.slice none 0 0),x0]) w λa w=>
 K a w
def Sm:=cA1 Tryz.func140 .o Yg
noncomputable def Yh:=uD Tryz.f142 (.s .o (.b (.l [] 33 16328 .o)))
abbrev Yi:=aU prog Tryz.f142.results.toList
def NX:Prop:=aG [] 33 (λE=>cP (pw Yh 3 1) E (Yi K) (exB 0 (Yi K) nX)) (fy 14 33 [x0,x5]) w
def Ae (E1:VP0):Prop:=
 ev prog (Instr.next x5 false 0) w λa w=>
 eX a 0 w λb w=>
 af b (
 ev prog (Instr.entry x5) w λc w=>
 eX c 0 w λd w=>
 nM prog x0 (pA #[d]) w λe w=>
 ev prog (Op.unary .not e) w λf w=>
 af f (
 K (.tuple #[]) w) (
 E1 w)) (
 K (.tuple #[]) w)
def Da (x0 x5:aA) (K:K1) (w:ap) (I:VP0) (μ:ap->Nat) (h0:I w)
  (hr:∀(w:ap),I w->∀E1:VP0,(∀(w':ap),I w'->μ w'<μ w->E1 w')->Ae K x0 x5 w E1):NX K x0 x5 w:=
 ⟨I,μ,h0,λσ w hI E hE=>cast kR (hr w hI E hE)⟩
def Yj:Prop:=
 lD 159 x1 w λa w=>
 ev prog (Instr.range 159 a) w λb w=>
 NX K x0 b w
def Sn:=cA2 Tryz.func142 Yh.2 Yj
noncomputable def Kl:=uD Tryz.f151 (.s .o (.s .o (.s .o (.s .o (.s .o (.s .o (.s .o (.x 225 (.s .o (.b (.l [47] 70368744177905 295147764441864470784 .o))) (.s .o (.s .o (.x 512 (.s .o (.b (.l [9,75] 18889465931478580854913 1267650562449297538539541499404 .o))) .o)))))))))))
abbrev Km:=aU prog Tryz.f151.results.toList
def So:KF:=kO 225 (cP (pw Kl 8 255) (Km K) (Km K) nX)
def abR:Prop:=aG [47] 70368744177905 (λE=>cP (pw Kl 11 383) E (Km K) (exB 0 (So K) nX)) (fy 101 211106232533233 [x0,x4,x5,x6,x7,x46,x47]) w
def Yk:Prop:=
 nS x0 w λa w=>
 fA 171 a 0 w λb w=>
 lD 106 b w λc w=>
 nR x0 w.drew λd=>
 fR 171 d 1 w.drew λe=>
 lR 26 e w.drew λf=>
 rd prog (Instr.makeFunc (.method "Load") #[c] #[]) w.drew fun g=>
 nR g w.drew λh=>
 bA prog c "Load" (pA #[f]) w.drew fun i w=>
 bU .eql 26 25 .u64 0 i w λj w=>
 af j (
 K (.tuple #[(.int .u8 ((1:Nat):Int)),(.slice none 0 0)]) w) (
 bU .and 26 27 .u64 65535 i w λl w=>
 cV 26 3 l w λm w=>
 bC .eql 3 30 0 m w λn w=>
 gV n false m w λo w=>
 gd n false (λk=>bC .gtr 3 33 96 o w k) w λp w=>
 aw n (.bool true) p w λq w=>
 gV q false i w λs w=>
 gd q false (λk=>bU .andNot 26 37 .u64 65535 s w k) w λt w=>
 gd q false (λk=>bU .shl 26 38 .u64 32 t w k) w λv w=>
 gd q false (λk=>bU .neq 26 39 .u64 0 v w k) w λy w=>
 aw q (.bool true) y w λz w=>
 af z (
 K (.tuple #[(.int .u8 ((3:Nat):Int)),(.slice none 0 0)]) w) (
 bM .mul 3 (ci 2) (.tmp 42) (.int .i64 2) m w λa0 w=>
 ev prog (Instr.makeSlice 58 a0 a0) w λa1 w=>
 lN 58 a1 w λa2 w=>
 abR K x0 c i m a1 a2 (.int .i64 0) w))
def Sq:=cA1 Tryz.func151 Kl.2 Yk
end
def lgF (T:Nat) (i:Nat):aA:= [Value.iface 31 (.pointer (some ⟨T,0,none⟩)),.int .u64 ((0:Nat):Int),.int .u64 ((1664:Nat):Int)].getD i undef
section
variable {w w':ap} {Y:Lay} {D:DS} {T B:Nat}
def FF (h:Dv w Y D) (g:aL D) (b:26<=D.n) (hT:Y.tb 0=T) (K:K1) (hK:∀B w',Ext w w'->w.heap.size<=B->ah w' B 171 3 (lgF T)->K (.tuple #[.pointer (some ⟨B,0,none⟩),.int .i64 0]) w'):
  ae prog 112 #[.iface 31 (.pointer (some ⟨T,0,none⟩)),.int .i64 0,.int .i64 26] w K:=by
 subst hT;have hn:=g.n;have a:∀(w1:ap) (K:K1),Ext w w1->ae prog 105 #[.pointer (some ⟨Y.tb 0,0,none⟩)] w1 K=K (.int .u64 ((D.n*64:Nat):Int)) w1:=λw1 K e=>lU (h.ext e) g 0 oM K
 have e1:D.n*64/64=D.n:=oM;refine Sd _ _ _ _ _ ?_;unfold Ya;refine ij a e1 ?_;refine hK _ _ xZ (cD _) ?_;exact ah.new w [Value.iface 31 (.pointer (some ⟨Y.tb 0,0,none⟩)),.int .u64 ((0:Nat):Int),.int .u64 ((1664:Nat):Int)] 171
def abS (h:Dv w Y D) (g:aL D) (a:26<=D.n) (hT:Y.tb 0=T) (K:K1) (hK:∀B w',Ext w w'->w.heap.size<=B->ah w' B 171 3 (lgF T)->K (.tuple #[.pointer (some ⟨B,0,none⟩),.int .i64 0]) w'):
  ae prog 107 #[.iface 31 (.pointer (some ⟨T,0,none⟩)),.int .i64 0,.int .i64 26] w K:=by
 refine R9 _ _ _ _ _ ?_;unfold X7;refine FF h g a hT _ (λB w1 e1 hB hC=> ?_);refine zS0 ?_;exact hK B w1 e1 hB hC
def Kn (hC:ah w B 171 3 (lgF T)) (x:Nat) (hx:x<18446744073709551616) (K:K1) (hK:∀v' w',SlO w' 220 3 v' (ay [(0,x)]).length (inL (ay [(0,x)]))->Ext w w'->bh w.heap.size v'->K v' w'):
  ae prog 113 #[.pointer (some ⟨B,0,none⟩),.int .u64 (x:Int)] w K:=by
 have q1:w.cell? ⟨B,1,none⟩=some (.int .u64 ((0:Nat):Int)):=hC.cell (i:=1) oM;have ltB:=hC.lt;refine Se _ _ _ _ ?_;unfold Yb;refine zS1 q1 ?_;refine hP [(0,x)] _ ?_ (by simp) (by simp) ?_ _ (λv' w' hs he hn=> ?_)
 ·exact SlO.lit' _ 98 2 1 (wrL [(0,x)]) rfl (by decide) (by simp only [RZ])
 ·intro y hy;simp only [aa] at hy;subst hy;simp only;omega
 ·exact hK v' w' hs (Ext.trans xZ he) (λb hb=>bl (by simp only [RZ];omega) (hn b hb))
def Yl (hC:ah w B 171 3 (lgF T)) {v:aA} {ws:List (Nat×Nat)} (hS:SlO w 98 2 v ws.length (wrL ws)) (h0:0<ws.length) (hl:ws.length<=1000) (hw:∀x∈ws,x.1<18446744073709551616) (K:K1) (hK:∀v' w',SlO w' 220 3 v' (ay ws++ay [(0,0)]).length (inL (ay ws++ay [(0,0)]))->Ext w w'->bh w.heap.size v'->K v' w'):
  ae prog 128 #[.pointer (some ⟨B,0,none⟩),v] w K:=by
 have a:=dC ws;have g:=dC [((0:Nat),(0:Nat))];have h:=aY ws;have f:=aY [((0:Nat),(0:Nat))];simp only [cd] at f;refine Sj _ _ _ _ ?_;unfold Ye;refine hP ws v hS h0 oM hw _ (λv1 w1 c e1 n1=> ?_);refine zS0 ?_;refine Kn (hC.ext e1) 0 oM _ (λv2 w2 e e2 n2=> ?_);refine zS0 ?_;refine B6 _ _ v1 v2 (c.ext e2) e a g oM oM _ (λv3 w3 d e3 n3=> ?_);exact hK v3 w3 d (e1.trans (e2.trans e3)) (λb hb=>bl (e1.trans e2).size (n3 b hb))
def Sr (h:Dv w Y D) (g:aL D) (on:On D) (i:26<=D.n) (hx:D.exe<1000000000) (hT:Y.tb 0=T) (K:K1) (hK:∀w' Y',Stp w Y w' Y' (D.run 0 (ay [(0,0)]))->K (.int .i64 0) w'):
  ae prog 62 #[.iface 31 (.pointer (some ⟨T,0,none⟩)),.int .i64 0,.int .i64 26] w K:=by
 have f:∀(w1:ap) (K:K1),Ext w w1->ae prog 28 #[.pointer (some ⟨T,0,none⟩)] w1 K=K (.int .i64 0) w1:=λw1 K e=>by rw [<-hT,dA (h.ext e) 0 oM K,on.err]
 have ho:=(On.stores on [(0,0)] (λx hx=>by simp only [aa] at hx;subst hx;exact ⟨rfl,by show 0<D.n*64;omega⟩)).1;have j:=aY [((0:Nat),(0:Nat))];simp only [cd] at j;refine Xz _ _ _ _ _ ?_;unfold adG;refine FF h g i hT _ (λB w1 e1 hB hC=> ?_);refine iB f ?_;refine Kn hC 0 oM _ (λv2 w2 d e2 n2=> ?_);refine zS0 ?_;have c:=e1.trans e2;have a:=λK hK=>yK (h.ext c) g 0 oM (ay [(0,0)]) v2 d (λb hb hf=>by have h1:=h.lt hf;have h2:=n2 b hb;have:=e1.size;omega) (bE (λx hx=>by simp only [aa] at hx;subst hx;simp only;omega)) oM K hK
 rw [ho.err,hT] at a;refine a _ (λw3 Y3 st=> ?_);exact hK w3 Y3 (Stp.pre c (λx hx=>h.lt hx) st)
end
def stW:Nat->Nat->Nat->Nat
 |r,_,0=>r
 |r,x,n+1=>stW (stepN r (x%256)) (x/2^8) n
def fdW (L:List Nat):Nat:=L.foldl (λr x=>stW r x 8) 4294967295
def crcW (L:List Nat):Nat:=4294967295^^^fdW L
def fQ {l:List Nat} {k:Nat} (h:k<l.length):(ba l)[k]? =some (.int .u64 ((l[k]:Nat):Int)):=by simp [ba,u64,h]
def Ym:∀(n r x:Nat),r<4294967296->stW r x n<4294967296
 |0,r,x,h=>h
 |n+1,r,x,h=>Ym n _ _ (uf r (x%256) h oM)
def Db:∀(L:List Nat) (r:Nat),r<4294967296->L.foldl (λr x=>stW r x 8) r<4294967296
 | [],r,h=>h
 |x::L,r,h=>Db L _ (Ym 8 r x h)
def abT (L:List Nat):crcW L<4294967296:=Nat.xor_lt_two_pow (n:=32) (by decide) (Db L _ (by decide))
section
variable {w w':ap} {Y:Lay} {D:DS} {T B:Nat}
def Yn (hG:bB w) (L:List Nat) (v:aA) {m:Nat} (hL:RdS m w v (ba L)) (hx:∀x∈L,x<18446744073709551616) (hl:L.length<1073741824) (K:K1) (hK:∀w',Ext w w'->K (.int .u32 ((crcW L:Nat):Int)) w'):
  ae prog 127 #[v] w K:=by
 have ll:(ba L).length=L.length:=by simp [ba]
 obtain ⟨a,cap,rfl,_⟩:=id hL;rw [ll] at hL ⊢;refine Rt _ _ _ ?_;unfold WS;refine zS0 ?_;apply CD (I:=λr z w'=>∃j:Nat,z= .int .i64 (j:Int)/\j<=L.length/\r= .int .u32 (((L.take j).foldl (λr x=>stW r x 8) 4294967295:Nat):Int)/\Ext w w') (μ:=λ_ z _=>L.length-(intOf z).toNat)
 ·exact ⟨0,rfl,by omega,rfl,Ext.refl _⟩
 ·intros;rename_i w1 hI E1 hE;obtain ⟨j,rfl,hj,rfl,e1⟩:=hI;by_cases hjl:j<L.length
  ·obtain ⟨sb,so,sc,c,hc⟩:=(hL.ext e1).get (fQ hjl);injection c with c _ ev2;subst c;subst ev2;have g:=hx L[j] (c9 hjl);have ht:(L.take (j+1)).foldl (λr x=>stW r x 8) 4294967295=stW ((L.take j).foldl (λr x=>stW r x 8) 4294967295) L[j] 8:=by
    rw [List.take_succ_eq_append_getElem hjl,cN];rfl
   have hr:=Db (L.take j) 4294967295 (by decide);generalize (L.take j).foldl (λr x=>stW r x 8) 4294967295=r at*;generalize L[j]=x at*;unfold qP;refine zS1 hc ?_;apply CE (I:=λa b z w'=>∃i r' x':Nat,z= .int .i64 (i:Int)/\i<=8/\a= .int .u32 (r':Int)/\b= .int .u64 (x':Int)/\r'<4294967296/\x'<18446744073709551616/\stW r' x' (8-i)=stW r x 8/\Ext w w') (μ:=λ_ _ z _=>8-(intOf z).toNat)
   ·exact ⟨0,r,x,rfl,by omega,rfl,rfl,hr,g,rfl,e1⟩
   ·intros;rename_i w2 hI E2 h;obtain ⟨i,r',x',rfl,hi,rfl,rfl,d,n,e,e2⟩:=hI;have k:=hG.ext e2;unfold zG;by_cases hi8:i<8
    ·have f:stW (stepN r' (x'%256)) (x'/2^8) (8-(i+1))=stW r x 8:=by
      rw [<-e,show 8-i=(8-(i+1))+1 by omega];rfl
     have hs:=uf r' (x'%256) d oM;have hq:x'/2^8<18446744073709551616:=oM;simp (disch:=try exact dZ) only [↓RBp,↓RA,↓reduceIte,Nat.reduceAdd,Nat.reduceMul,Nat.reduceEqDiff,RB,RX,RA2,Vy _ _ _ _ k d];apply h
     ·exact ⟨i+1,_,_,by simp,by omega,rfl,rfl,hs,hq,f,e2⟩
     ·simp [intOf];omega
    ·have:i=8:=oM;subst this;refine zS2 @JP @zF.eq_1 ?_;apply hE
     ·exact ⟨j+1,by simp,by omega,by rw [ht,<-e];rfl,e2⟩
     ·simp [intOf];omega
  ·have:j=L.length:=oM;subst this;have hr:(L.take L.length).foldl (λr x=>stW r x 8) 4294967295<4294967296:=Db _ _ (by decide);have l:4294967295^^^(L.take L.length).foldl (λr x=>stW r x 8) 4294967295=crcW L:=by rw [cn];rfl
   generalize (L.take L.length).foldl (λr x=>stW r x 8) 4294967295=r at*;unfold qP;refine zS3 @JO @zE.eq_1 l ?_;exact hK _ e1
def Ss (h:Dv w Y D) (g:aL D) (b:26<=D.n) (hT:Y.tb 0=T) (hC:ah w B 171 3 (lgF T)) (x:Nat) (hx:x<18446744073709551616) (K:K1) (hK:∀w',Ext w w'->K (.bool (decide (x%8=0)&&(decide (x<D.n*64)&&decide (1664<=x)))) w'):
  ae prog 125 #[.pointer (some ⟨B,0,none⟩),.int .u64 (x:Int)] w K:=by
 have hn:=g.n;have q0:w.cell? ⟨B,0,none⟩=some (.iface 31 (.pointer (some ⟨T,0,none⟩))):=hC.cell (i:=0) oM;have q1:w.cell? ⟨B,1,none⟩=some (.int .u64 ((0:Nat):Int)):=hC.cell (i:=1) oM;have q2:w.cell? ⟨B,2,none⟩=some (.int .u64 ((1664:Nat):Int)):=hC.cell (i:=2) oM;have a:∀(w1:ap) (K:K1),Ext w w1->ae prog 105 #[.pointer (some ⟨T,0,none⟩)] w1 K=K (.int .u64 ((D.n*64:Nat):Int)) w1:=λw1 K e=>by rw [<-hT];exact lU (h.ext e) g 0 oM K
 refine Sf _ _ _ _ ?_;unfold Yc;by_cases h8:x%8=0
 ·by_cases h2:x<D.n*64
  ·by_cases h3:1664<=x
   ·refine fB q0 q1 q2 a h8 h2 h3 h3 ?_;rw [decide_eq_true h8,decide_eq_true h2,decide_eq_true h3] at hK;exact hK _ xZ
   ·refine fB q0 q1 q2 a h8 h2 h3 h3 ?_;rw [decide_eq_true h8,decide_eq_true h2,decide_eq_false h3] at hK;exact hK _ xZ
  ·refine eI q0 q1 q2 a h8 h2 ?_;rw [decide_eq_true h8,decide_eq_false h2] at hK;exact hK _ xZ
 ·refine eI q0 q1 q2 a h8 h8 ?_;rw [decide_eq_false h8] at hK;exact hK _ xZ
end
def adX:nz prog .u64 238 (.int .i64 0):=⟨26,3,by kernel_rfl,by kernel_rfl,by kernel_rfl⟩
def lsM (ws:List (Nat×Nat)):Nat->KVL
 |0=> []
 |j+1=>lsM ws j++ [(((ws.getD j (0,0)).1:Int),.int .i64 (j:Int))]
def NY (ws:List (Nat×Nat)):∀(j:Nat) (p:Int×aA),p∈lsM ws j->∃i,i<j/\p=(((ws.getD i (0,0)).1:Int),.int .i64 (i:Int))
 |0,p,h=>by cases h
 |j+1,p,h=>by
  simp only [lsM,cC,aa] at h;rcases h with h|h
  ·obtain ⟨i,h1,h2⟩:=NY ws j p h;exact ⟨i,by omega,h2⟩
  ·exact ⟨j,by omega,h⟩
def Yo (ws:List (Nat×Nat)):∀(j i:Nat),i<j->(((ws.getD i (0,0)).1:Int),Value.int .i64 (i:Int))∈lsM ws j
 |0,i,h=>by omega
 |j+1,i,h=>by
  simp only [lsM,cC,aa];by_cases e:i=j
  ·exact .inr (by rw [e])
  ·exact .inl (Yo ws j i oM)
def afy {ws:List (Nat×Nat)} (h:(ws.map (·.1)).Nodup) {i j:Nat} (hi:i<ws.length) (hj:j<ws.length) (e:(ws.getD i (0,0)).1=(ws.getD j (0,0)).1):i=j:=by
 have a:i<(ws.map (·.1)).length:=by simpa using hi
 refine (eb a h).1 ?_;rw [aq,aq,an hi,an hj];simp only [ct];rw [bL,bL,an hi,an hj] at e;rw [show ws[i].1=ws[j].1 from e]
def abU {ws:List (Nat×Nat)} (h:(ws.map (·.1)).Nodup) {j:Nat} (hj:j<ws.length):setL (lsM ws j) ((ws.getD j (0,0)).1:Int) (.int .i64 (j:Int))=lsM ws (j+1):=by
 have:bP (lsM ws j) ((ws.getD j (0,0)).1:Int)=none:=dM.2 (λp hp e=>by
  obtain ⟨i,hi,rfl⟩:=NY ws j p hp;have:=afy h (show i<ws.length by omega) hj (by simp only at e;omega);omega)
 unfold setL;rw [this,if_neg (by simp)];rfl
section
variable {w w':ap}
def vD (ws:List (Nat×Nat)) (v:aA) (hS:SlO w 98 2 v ws.length (wrL ws)) (C:(ws.map (·.1)).Nodup) (hl:ws.length<1073741824) (hw:∀x∈ws,x.1<18446744073709551616) (K:K1)
  (hK:∀a cap w',SlO w' 98 2 (.slice a ws.length cap) ws.length (wrL ws)->Ext w w'->bh w.heap.size (.slice a ws.length cap)->K (.slice a ws.length cap) w'):ae prog 126 #[v] w K:=by
 obtain ⟨sa,E,rfl,H⟩:=hS.isS';refine Si _ _ _ ?_;unfold Yd;refine zS0 ?_;have e0:Ext w (w.alloc (.map #[] 0)):=Ext.alloc_self _ _;have B:bH .u64 (w.alloc (.map #[] 0)) w.heap.size []:=bH.empty (aP _ _);have F:w.heap.size<(w.alloc (.map #[] 0)).heap.size:=by simp only [RZ];omega
 apply C0 (I:=λz w'=>∃j:Nat,z= .int .i64 (j:Int)/\j<=ws.length/\bH .u64 w' w.heap.size (lsM ws j)/\Frm (λb=>b=w.heap.size) (w.alloc (.map #[] 0)) w') (μ:=λz _=>ws.length-(intOf z).toNat)
 ·exact ⟨0,rfl,by omega,B,Frm.refl _ _⟩
 ·intros;rename_i w2 hI E1 hE;obtain ⟨j,rfl,hj,hM,hf⟩:=hI;have n:Frm Nob w w2:=(Frm.of_ext e0).trans hf (λx hx e=>by omega);have d:=hS.frm n (λ_ _ h=>h);have J:=hM.lt;by_cases hjl:j<ws.length
  ·have g:=abU C hjl;obtain ⟨x,hx⟩:∃x,ws[j]? =some x:=⟨_,an hjl⟩;have t:=hw x (bk hx);rw [bL,hx] at g;obtain ⟨xo,xv⟩:=x;simp only [cj] at g;have hg:=jI _ _ _ hx;obtain ⟨b,o,cap,c,_⟩:=d.isS oM;injection c with c _ ev2;subst c;subst ev2;have c1:=d.cell rfl hg.1;have c2:=d.cell rfl hg.2;rw [<-bq] at c2;have lt:=d.lt rfl;unfold qY;refine zS2 c1 c2 ?_;refine mw adX (hM.ext xZ) _ _ (λw3 f k=> ?_);rw [g] at f;refine zS0 ?_;apply hE
   ·refine ⟨j+1,by simp,by omega,f,?_⟩;refine (hf.ext xZ).trans k (λx _ e=>e)
   ·simp [intOf];omega
  ·have:j=ws.length:=oM;subst this;unfold qY;refine zS2 @Ki @Ab.eq_1 ?_;apply C4 (I:=λy z w'=>∃j:Nat,z= .int .i64 (j:Int)/\j<=ws.length/\SlO w' 98 2 y j (wrL (ws.take j))/\Frm Nob w2 w'/\bh w2.heap.size y) (μ:=λ_ z _=>ws.length-(intOf z).toNat)
   ·exact ⟨0,rfl,by omega,SlO.nil _ _ _,Frm.refl _ _,λb hb=>by cases hb⟩
   ·intros;rename_i w3 hI E2 D;obtain ⟨j,rfl,hj,sp,k,np⟩:=hI;have p:=k.to_ext (λ_ _ h=>h);obtain ⟨pa,pc,rfl,G⟩:=sp.isS';have i:=d.ext p;have f:=hM.ext p;have L:=f.lt;by_cases hjl:j<ws.length
    ·obtain ⟨x,hx⟩:∃x,ws[j]? =some x:=⟨_,an hjl⟩;have t:=hw x (bk hx);have l:bP (lsM ws ws.length) ((ws.getD j (0,0)).1:Int)=some (.int .i64 (j:Int)):=sV hM.keys (Yo ws _ j hjl);rw [bL,hx] at l;obtain ⟨xo,xv⟩:=x;simp only [cj] at l;have r:∀(w1:ap) (K:K1),Ext w3 w1->ev prog (Instr.lookup 238 (.map (some w.heap.size)) (.int .u64 (xo:Int)) false) w1 K=K (.int .i64 (j:Int)) w1:=λw1 K e=>by rw [dE adX (f.ext e),l];rfl
     have hg:=jI _ _ _ hx;obtain ⟨b,o,cap,c,_⟩:=i.isS oM;injection c with c _ ev2;subst c;subst ev2;have c1:=i.cell rfl hg.1;have c2:=i.cell rfl hg.2;rw [<-bq] at c2;have lt:=i.lt rfl;unfold qZ;refine fV c1 c2 r ?_;have et:ws.take (j+1)=ws.take j++ [(xo,xv)]:=cM hx;refine bD cR (w0:=w2) (sp.ext xZ) (k.ext xZ) np (m:=1) (news:=wrL [(xo,xv)]) (by simp [wrL]) ?_ rfl oM oM oM (λv' w4 s A n4 _ _=> ?_)
     ·intro q u hq;rw [cm,aV _ _ _ _ _ (by simp only [RZ])];simpa [wrL,u64] using hq
     refine zS2 @Kk @Ad.eq_1 ?_;apply D
     ·refine ⟨j+1,by simp,by omega,?_,A,n4⟩;rw [et,bY];exact s
     ·simp [intOf];omega
    ·have:j=ws.length:=oM;subst this;rw [cn] at sp;unfold qZ;refine zS2 @Kj @Ac.eq_1 ?_;exact hK _ _ w3 sp ((n.to_ext (λ_ _ h=>h)).trans p) (λb hb=>bl n.size (np b hb))
end
def flW:List (Nat×Nat)->List Nat
 | []=> []
 |x::r=>x.1::x.2::flW r
def cmC (ws:List (Nat×Nat)):Nat:=ws.length|||crcW (flW ws)*2^32%18446744073709551616
def rpI (ws:List (Nat×Nat)):List Ins:=if ws= [] then [] else cmI (cmC ws) ws
def NZ:∀(a b:List (Nat×Nat)),flW (a++b)=flW a++flW b
 | [],b=>rfl
 |x::a,b=>by simp only [ek,flW,NZ a b]
def N1:∀(a:List (Nat×Nat)),(flW a).length=2*a.length
 | []=>rfl
 |x::a=>by simp only [flW,cq,N1 a];omega
def Yp:∀(a:List (Nat×Nat)),(∀x∈a,x.1<18446744073709551616/\x.2<18446744073709551616)->∀y∈flW a,y<18446744073709551616
 | [],_,y,hy=>by cases hy
 |x::a,h,y,hy=>by
  simp only [flW,eq] at hy;rcases hy with rfl|rfl|hy
  ·exact (h x (by simp)).1
  ·exact (h x (by simp)).2
  ·exact Yp a (λx hx=>h x (by simp [hx])) y hy
def FG:∀(i:Nat) (a:List (Nat×Nat)) (x:Nat×Nat),enL i (a++ [x])=enL i a++ [(64+16*(i+a.length),x.1),(64+16*(i+a.length)+8,x.2)]
 |i,[],x=>rfl
 |i,y::a,x=>by
  simp only [ek,enL,FG (i+1) a x,cq];rw [show i+1+a.length=i+(a.length+1) by omega]
def Ko {ws:List (Nat×Nat)} (h:ws.length<=96):cmC ws<18446744073709551616:=Nat.or_lt_two_pow (n:=64) oM oM
section
variable {w w':ap} {Y:Lay} {D:DS} {T B:Nat}
def RdS.of_slR {w:ap} {v:aA} {L:List aA} {t:TypeId} (h:SlO w t 1 v L.length L):RdS w.heap.size w v L:=by
 obtain ⟨a,cap,hv,_⟩:=h.isS';subst hv;refine ⟨a,cap,rfl,?_⟩;rcases Nat.eq_zero_or_pos L.length with e|e
 ·exact .inl (List.eq_nil_of_length_eq_zero e)
 ·obtain ⟨b,o,c,ev,_⟩:=h.isS e;injection ev with e1 _ e3;subst e1;subst e3;exact .inr ⟨b,o,rfl,h.lt rfl,λj u hj=>h.cell rfl hj⟩
def agJ (hC:ah w B 171 3 (lgF T)) (hG:bB w) (ws:List (Nat×Nat)) {v u x:aA} (hS:SlO w 98 2 v ws.length (wrL ws)) (h0:0<ws.length) (hl:ws.length<=96) (hw:∀x∈ws,x.1<4194304/\x.2<18446744073709551616) (hu:SlO w 98 2 u (2*ws.length) (wrL (enL 0 ws))) (hx:SlO w 26 1 x (2*ws.length) (ba (flW ws))) (K:K1)
  (hK:∀v' w',Ext w w'->bh w.heap.size v'->SlO w' 220 3 v' (cmI (cmC ws) ws).length (inL (cmI (cmC ws) ws))->K (.tuple #[v',.int .i64 0]) w'):
  Kc K (.pointer (some ⟨B,0,none⟩)) v u x w:=by
 have c:=CO 0 ws;have l:=N1 ws;have j:∀y∈flW ws,y<18446744073709551616:=Yp ws (λx hx=>⟨by have:=hw x hx;omega,(hw x hx).2⟩);have o:=abT (flW ws);have i:=Ko hl;have n:crcW (flW ws)*2^32<18446744073709551616:=oM;have h1:=dC (enL 0 ws);have h2:=dC [((0:Nat),cmC ws)];have h3:=aY (enL 0 ws);have h4:=aY [((0:Nat),cmC ws)];have h5:=aY ws;have h6:=aY [((0:Nat),(0:Nat))];have f:ws.length|||crcW (flW ws)*2^32%18446744073709551616=cmC ws:=rfl;have k:∀y∈enL 0 ws,y.1<18446744073709551616:=λy hy=>by
  obtain ⟨h1,_⟩:=oI hy;omega
 have h:∀y∈ws,y.1<18446744073709551616:=λy hy=>by have:=hw y hy;omega
 simp only [cd] at h4 h6;rw [c] at h3;rw [<-c] at hu;obtain ⟨va,vc,rfl,m⟩:=hS.isS';have hr:RdS w.heap.size w x (ba (flW ws)):=RdS.of_slR (by rw [show (ba (flW ws)).length=2*ws.length by simp [ba,l]];exact hx);rw [R6];unfold Fv;refine zS0 ?_;refine Yn hG _ x hr j oM _ (λw1 e1=> ?_);refine zS1 f ?_;refine hP (enL 0 ws) _ (hu.ext e1) oM oM k _ (λv2 w2 s2 e2 n2=> ?_);have e:=e1.trans e2;refine zS0 ?_;refine Kn (hC.ext e) (cmC ws) i _ (λv3 w3 s3 e3 n3=> ?_);have g:=e.trans e3;refine zS0 ?_;refine B6 _ _ v2 v3 (s2.ext e3) s3 h1 h2 oM oM _ (λv4 w4 s4 e4 n4=> ?_);have a:=g.trans e4;refine zS0 ?_;refine Yl (hC.ext a) (hS.ext a) h0 oM h _ (λv5 w5 s5 e5 n5=> ?_);have d:=a.trans e5;refine zS0 ?_;refine B6 _ _ v4 v5 (s4.ext e5) s5 (by rw [bb];omega) (by rw [bb];have:=dC ws;omega) (by rw [bb];omega) (by rw [bb];omega) _ (λv6 w6 s6 e6 n6=> ?_);exact hK v6 w6 (d.trans e6) (λb hb=>bl d.size (n6 b hb)) s6
def agK (hC:ah w B 171 3 (lgF T)) (hG:bB w) (ws:List (Nat×Nat)) {a:Option Addr} {cap:Nat} (hS:SlO w 98 2 (.slice a ws.length cap) ws.length (wrL ws)) (h0:0<ws.length) (hl:ws.length<=96) (hw:∀x∈ws,x.1<4194304/\x.2<18446744073709551616) (K:K1)
  (hK:∀v' w',Ext w w'->bh w.heap.size v'->SlO w' 220 3 v' (cmI (cmC ws) ws).length (inL (cmI (cmC ws) ws))->K (.tuple #[v',.int .i64 0]) w'):
  Kd K (.pointer (some ⟨B,0,none⟩)) (.slice a ws.length cap) (.slice none 0 0) (.slice none 0 0) (.slice a ws.length cap) (.int .i64 (ws.length:Int)) (.int .i64 0) w:=by
 apply Fw (I:=λx y z w'=>∃j:Nat,z= .int .i64 (j:Int)/\j<=ws.length/\SlO w' 98 2 x (2*j) (wrL (enL 0 (ws.take j)))/\SlO w' 26 1 y (2*j) (ba (flW (ws.take j)))/\Frm Nob w w'/\bh w.heap.size x/\bh w.heap.size y/\(∀b,x.ownBlock=some b->y.ownBlock≠some b)) (μ:=λ_ _ z _=>ws.length-(intOf z).toNat)
 ·exact ⟨0,rfl,by omega,SlO.nil _ _ _,SlO.nil _ _ _,Frm.refl _ _,λb hb=>(by cases hb),λb hb=>(by cases hb),λb hb=>(by cases hb)⟩
 ·intros;rename_i w2 hI E1 hE;obtain ⟨j,rfl,hj,sx,sy,hf,nx,ny,hd⟩:=hI;have e2:=hf.to_ext (λ_ _ h=>h);obtain ⟨xa,xc,rfl,P⟩:=sx.isS';obtain ⟨ya,yc,rfl,N⟩:=sy.isS';by_cases hjl:j<ws.length
  ·obtain ⟨x,hx⟩:∃x,ws[j]? =some x:=⟨_,an hjl⟩;have v:=hw x (bk hx);have et:ws.take (j+1)=ws.take j++ [x]:=cM hx;have k:wrL (enL 0 (ws.take (j+1)))=(wrL (enL 0 (ws.take j))++wrL [(64+j*16,x.1)])++wrL [(64+j*16+8,x.2)]:=by
    rw [et,FG,ef,Nat.min_eq_left oM,cm,ew 16 j,<-bY,<-bY,List.append_assoc];rfl
   have t:ba (flW (ws.take (j+1)))=ba (flW (ws.take j))++ba [x.1,x.2]:=by
    rw [et,NZ];simp only [ba,db];rfl
   obtain ⟨xo,xv⟩:=x;simp only at v k t;have c:=hS.ext e2;have hg:=jI _ _ _ hx;obtain ⟨b,o,cap,d,_⟩:=c.isS oM;injection d with d _ ev2;subst d;subst ev2;have c1:=c.cell rfl hg.1;have c2:=c.cell rfl hg.2;rw [<-bq] at c2;have lt:=c.lt rfl;have q1:w2.cell? ⟨B,1,none⟩=some (.int .u64 ((0:Nat):Int)):=(hC.ext e2).cell (i:=1) oM;have ltB:=aD q1;have f:∀b,(Value.slice xa (2*j) xc).ownBlock=some b->b<w2.heap.size:=λb hb=>sx.lt hb
   have H:∀b,(Value.slice ya (2*j) yc).ownBlock=some b->b<w2.heap.size:=λb hb=>sy.lt hb
   unfold vt;refine zS3 c1 c2 q1 ?_;refine bD cR (w0:=w) (sx.ext xZ) (hf.ext xZ) nx (m:=1) (news:=wrL [(64+j*16,xo)]) (by simp [wrL]) ?_ rfl oM oM oM (λv3 w3 s3 f3 n3 r3 b3=> ?_)
   ·intro q u hq;rw [cm,aV _ _ _ _ _ (by simp only [RZ])];simpa [wrL,u64] using hq
   obtain ⟨l,p,rfl,E⟩:=s3.isS';have c3:w3.cell? ⟨w2.heap.size,0,none⟩=some (.int .u64 (xo:Int)):=by
    rw [r3.cell _ _ (by simp only [RZ];omega) (λe=>by have:=f _ e;omega),gO _ _ _ _ (by simp only [RZ];omega),aV _ _ _ _ _ rfl];rfl
   have c4:w3.cell? ⟨w2.heap.size,1,none⟩=some (.int .u64 (xv:Int)):=by
    rw [r3.cell _ _ (by simp only [RZ];omega) (λe=>by have:=f _ e;omega),gO _ _ _ _ (by simp only [RZ];omega),aV _ _ _ _ _ rfl];rfl
   have O:w2.heap.size<w3.heap.size:=by have:=r3.size;simp only [RZ] at this;omega
   have r:SlO w3 26 1 (.slice ya (2*j) yc) (2*j) (ba (flW (ws.take j))):=(sy.ext xZ).frm r3 (λb hb e=>hd b e hb);have hd3:∀b,(Value.slice l (2*j+1) p).ownBlock=some b->(Value.slice ya (2*j) yc).ownBlock≠some b:=by
    intro b hb e;rcases b3 b hb with h1|h1
    ·exact hd b h1 e
    ·have:=sy.lt e;simp only [RZ] at h1;omega
   have g:∀b,(Value.slice l (2*j+1) p).ownBlock=some b->b≠w2.heap.size:=λb hb e=>by
    rcases b3 b hb with h1|h1
    ·have:=f b h1;omega
    ·simp only [RZ] at h1;omega
   refine zS2 c3 c4 ?_;refine bD cR (w0:=w) (s3.ext xZ) (f3.ext xZ) n3 (m:=1) (news:=wrL [(64+j*16+8,xv)]) (by simp [wrL]) ?_ rfl oM oM oM (λv4 w4 s4 f4 n4 r4 b4=> ?_)
   ·intro q u hq;rw [cm,aV _ _ _ _ _ (by simp only [RZ])];simpa [wrL,u64] using hq
   obtain ⟨A,C,rfl,F⟩:=s4.isS';have c5:w4.cell? ⟨w2.heap.size,0,none⟩=some (.int .u64 (xo:Int)):=by
    rw [r4.cell _ _ (by simp only [RZ];omega) (λe=>g _ e rfl),gO _ _ _ _ oM];exact c3
   have c6:w4.cell? ⟨w2.heap.size,1,none⟩=some (.int .u64 (xv:Int)):=by
    rw [r4.cell _ _ (by simp only [RZ];omega) (λe=>g _ e rfl),gO _ _ _ _ oM];exact c4
   have L:w3.heap.size<w4.heap.size:=by have:=r4.size;simp only [RZ] at this;omega
   have D:SlO w4 26 1 (.slice ya (2*j) yc) (2*j) (ba (flW (ws.take j))):=(r.ext xZ).frm r4 (λb hb e=>hd3 b e hb);have hd4:∀b,(Value.slice A (2*j+1+1) C).ownBlock=some b->(Value.slice ya (2*j) yc).ownBlock≠some b:=by
    intro b hb e;rcases b4 b hb with h1|h1
    ·exact hd3 b h1 e
    ·have:=r.lt e;simp only [RZ] at h1;omega
   refine zS2 c5 c6 ?_;refine bD df (w0:=w) (D.ext xZ) (f4.ext xZ) ny (m:=2) (news:=ba [xo,xv]) (by simp [ba]) ?_ rfl oM oM oM (λv5 w5 s5 f5 n5 r5 b5=> ?_)
   ·intro q u hq;rw [cm,aV _ _ _ _ _ (by simp only [RZ])];simpa [ba,u64] using hq
   obtain ⟨M,J,rfl,G⟩:=s5.isS';refine zS0 ?_;apply hE
   ·refine ⟨j+1,by simp,by omega,?_,?_,f5,n4,n5,?_⟩
    ·rw [k];exact (s4.ext xZ).frm r5 (λb hb e=>hd4 b hb e)
    ·rw [t];exact s5
    ·intro b hb e;rcases b5 b e with h1|h1
     ·exact hd4 b hb h1
     ·have:=s4.lt hb;simp only [RZ] at h1;omega
   ·simp [intOf];omega
  ·have:j=ws.length:=oM;subst this;rw [cn] at sx sy;unfold vt;refine zS0 ?_;exact agJ (hC.ext e2) (hG.ext e2) ws (hS.ext e2) h0 hl hw sx sy K (λv' w' e n s=>hK v' w' (e2.trans e) (λb hb=>bl e2.size (n b hb)) s)
def agL (h:Dv w Y D) (g:aL D) (hG:bB w) (y:26<=D.n) (hT:Y.tb 0=T) (hC:ah w B 171 3 (lgF T)) (r:D.err 0=0->D.off=false/\D.cur 0=0) (ws:List (Nat×Nat)) (v:aA) (hS:SlO w 98 2 v ws.length (wrL ws)) (o:(ws.map (·.1)).Nodup) (hl:ws.length<1073741824) (q:∀x∈ws,x.1%8=0/\x.1<D.n*64/\1664<=x.1/\x.2<18446744073709551616) (K:K1)
  (f:96<ws.length->∀w',Ext w w'->K (.tuple #[.slice none 0 0,.int .i64 9]) w')
  (j:ws.length<=96->D.err 0≠0->∀w',Ext w w'->K (.tuple #[.slice none 0 0,.int .i64 (D.err 0)]) w')
  (hK:ws.length<=96->D.err 0=0->∀v' w',Ext w w'->bh w.heap.size v'->SlO w' 220 3 v' (rpI ws).length (inL (rpI ws))->K (.tuple #[v',.int .i64 0]) w'):
  Kb K (.pointer (some ⟨B,0,none⟩)) v w:=by
 have hn:=g.n;have m:∀(w1:ap) (K:K1),Ext w w1->ae prog 28 #[.pointer (some ⟨T,0,none⟩)] w1 K=K (.int .i64 (D.err 0)) w1:=λw1 K e=>by rw [<-hT,dA (h.ext e) 0 oM K]
 have hld:D.err 0=0->∀(w1:ap) (K:K1),Ext w w1->ae prog 32 #[.pointer (some ⟨T,0,none⟩),.int .u64 ((0:Nat):Int)] w1 K=K (.int .u64 ((0:Nat):Int)) w1:=λhe w1 K e=>by
  rw [<-hT,gZ (h.ext e) g 0 oM (r he).1 0 oM oM K,show 0/8=0 by omega,(r he).2]
 have q0:w.cell? ⟨B,0,none⟩=some (.iface 31 (.pointer (some ⟨T,0,none⟩))):=hC.cell (i:=0) oM;have q1:w.cell? ⟨B,1,none⟩=some (.int .u64 ((0:Nat):Int)):=hC.cell (i:=1) oM;have ltB:=hC.lt;have l:∀x∈ws,x.1<18446744073709551616:=λx hx=>by have:=q x hx;omega
 by_cases hlm:96<ws.length
 ·have f:=f hlm;refine zS2 @jg @je.eq_1 ?_;refine vD ws _ hS o hl l _ (λta k w3 p e3 n3=> ?_);refine zS1 hlm ?_;exact f _ e3
 ·have d:ws.length<=96:=oM;by_cases he:D.err 0=0
  ·have hld:=hld he;have hK:=hK d he;rw [he] at m;by_cases h0:ws= []
   ·subst h0;refine zS2 @jg @je.eq_1 ?_;refine vD [] _ hS o hl l _ (λta k w3 p e3 n3=> ?_);have q0:=e3.cell_some q0;have q1:=e3.cell_some q1;have a:=λ(w1:ap) (K:K1) (e:Ext w3 w1)=>m w1 K (e3.trans e)
    have c:=λ(w1:ap) (K:K1) (e:Ext w3 w1)=>hld w1 K (e3.trans e)
    simp (disch:=try exact dX) only [↓RBp,↓RA,↓reduceIte,Nat.reduceAdd,Nat.reduceMul,Nat.reduceEqDiff,RB,RX,RA2,q0,q1,a,c,en];exact hK _ _ (e3.trans xZ) (λb hb=>by cases hb) (SlO.nil _ _ _)
   ·have hp:0<ws.length:=List.length_pos_iff.2 h0;have t:rpI ws=cmI (cmC ws) ws:=by unfold rpI;rw [if_neg h0]
    rw [t] at hK;refine zS2 @jg @je.eq_1 ?_;refine vD ws _ hS o hl l _ (λta k w3 p e3 n3=> ?_);have u:=hC.ext e3;have q0:=e3.cell_some q0;have q1:=e3.cell_some q1;have a:=λ(w1:ap) (K:K1) (e:Ext w3 w1)=>m w1 K (e3.trans e)
    have c:=λ(w1:ap) (K:K1) (e:Ext w3 w1)=>hld w1 K (e3.trans e)
    refine eI hlm q0 q1 a c c ?_;have hw:∀x∈ws,x.1<4194304/\x.2<18446744073709551616:=λx hx=>by have:=q x hx;omega
    have ed:Ext w3 w3.drew:=Ext.drew (Ext.refl _);exact agK (u.ext ed) (hG.ext (e3.trans ed)) ws (p.ext ed) hp d hw _ (λv' w' e n s=>hK v' w' (e3.trans (ed.trans e)) (λb hb=>bl (e3.trans ed).size (n b hb)) s)
  ·have j:=j d he;generalize D.err 0=er at*;refine zS2 @jg @je.eq_1 ?_;refine vD ws _ hS o hl l _ (λta k w3 p e3 n3=> ?_);have q0:=e3.cell_some q0;have q1:=e3.cell_some q1;have a:=λ(w1:ap) (K:K1) (e:Ext w3 w1)=>m w1 K (e3.trans e)
   refine eI hlm q0 q1 a he he ?_;exact j _ (e3.trans xZ)
def N2 (h:Dv w Y D) (g:aL D) (hG:bB w) (l:26<=D.n) (hT:Y.tb 0=T) (hC:ah w B 171 3 (lgF T)) (q:D.err 0=0->D.off=false/\D.cur 0=0) (ws:List (Nat×Nat)) (v:aA) (hS:SlO w 98 2 v ws.length (wrL ws)) (r:(ws.map (·.1)).Nodup) (hl:ws.length<1073741824) (k:∀x∈ws,x.1%8=0/\x.1<D.n*64/\1664<=x.1/\x.2<18446744073709551616) (K:K1)
  (p:96<ws.length->∀w',Ext w w'->K (.tuple #[.slice none 0 0,.int .i64 9]) w')
  (m:ws.length<=96->D.err 0≠0->∀w',Ext w w'->K (.tuple #[.slice none 0 0,.int .i64 (D.err 0)]) w')
  (hK:ws.length<=96->D.err 0=0->∀v' w',Ext w w'->bh w.heap.size v'->SlO w' 220 3 v' (rpI ws).length (inL (rpI ws))->K (.tuple #[v',.int .i64 0]) w'):
  ae prog 71 #[.pointer (some ⟨B,0,none⟩),v] w K:=by
 have hn:=g.n;have q0:w.cell? ⟨B,0,none⟩=some (.iface 31 (.pointer (some ⟨T,0,none⟩))):=hC.cell (i:=0) oM;have ltB:=hC.lt;obtain ⟨sa,t,rfl,u⟩:=hS.isS';refine Fx _ _ _ _ ?_;unfold XT;refine zS1 q0 ?_;apply rO (I:=λz w'=>∃j:Nat,z= .int .i64 (j:Int)/\j<=ws.length/\Ext w w') (μ:=λz _=>ws.length-(intOf z).toNat)
 ·exact ⟨0,rfl,by omega,xZ⟩
 ·intros;rename_i w2 hI E1 hE;obtain ⟨j,rfl,hj,e2⟩:=hI;have c:=hS.ext e2;have q0:=e2.cell_some q0;have ltB:=aD q0;by_cases hjl:j<ws.length
  ·obtain ⟨x,hx⟩:∃x,ws[j]? =some x:=⟨_,an hjl⟩;have d:=k x (bk hx);obtain ⟨xo,xv⟩:=x;simp only at d;have hg:=jI _ _ _ hx;obtain ⟨b,o,cap,f,_⟩:=c.isS oM;injection f with f _ ev2;subst f;subst ev2;have c1:=c.cell rfl hg.1;have c2:=c.cell rfl hg.2;rw [<-bq] at c2;have lt:=c.lt rfl;unfold oQ;refine zS2 c1 c2 ?_;refine Ss (h.ext (Ext.trans e2 xZ)) g l hT (hC.ext (Ext.trans e2 xZ)) xo oM _ (λw3 e3=> ?_);have s:Ext w w3:=e2.trans (Ext.trans xZ e3);rw [decide_eq_true d.1,decide_eq_true d.2.1,decide_eq_true d.2.2.1];refine zS2 @Bool.and_self @Bool.not_true ?_;apply hE
   ·exact ⟨j+1,by simp,by omega,s⟩
   ·simp [intOf];omega
  ·have:j=ws.length:=oM;subst this;unfold oQ;refine zS0 ?_;exact agL (h.ext e2) g (hG.ext e2) l hT (hC.ext e2) q ws _ c r hl k K (λa w' e=>p a w' (e2.trans e)) (λa b w' e=>m a b w' (e2.trans e)) (λa b v' w' e n=>hK a b v' w' (e2.trans e) (λb hb=>bl e2.size (n b hb)))
end
def afz {n:Nat} {ws:List (Nat×Nat)} (h:uX n ws) (hn:n<=4096):∀i∈rpI ws,okI i:=by
 intro i hi;unfold rpI at hi;by_cases h0:ws= []
 ·rw [if_pos h0] at hi;cases hi
 ·rw [if_neg h0] at hi;exact Xd (D:=DS.zero n) h hn (Ko h.len) i hi
def afA {n:Nat} {ws:List (Nat×Nat)} (h:uX n ws):(rpI ws).length<=1000:=by
 unfold rpI;by_cases h0:ws= []
 ·rw [if_pos h0];exact Nat.zero_le _
 ·rw [if_neg h0];exact Xe (D:=DS.zero n) h
section
variable {w w':ap} {Y:Lay} {D:DS} {T B:Nat}
def Yq (h:Dv w Y D) (g:aL D) (hG:bB w) (k:26<=D.n) (hT:Y.tb 0=T) (hC:ah w B 171 3 (lgF T)) (he:D.err 0=0) (ho:D.off=false) (f:D.cur 0=0) (hx:D.exe<1000000000) (ws:List (Nat×Nat)) (v:aA) (hS:SlO w 98 2 v ws.length (wrL ws)) (j:(ws.map (·.1)).Nodup) (hl:ws.length<1073741824) (d:∀x∈ws,x.1%8=0/\x.1<D.n*64/\1664<=x.1/\x.2<18446744073709551616) (K:K1)
  (e:96<ws.length->∀w',Ext w w'->K (.int .i64 9) w')
  (hK:uX D.n ws->∀w' Y',Stp w Y w' Y' (D.run 0 (rpI ws))->K (.int .i64 ((D.run 0 (rpI ws)).err 0)) w'):
  ae prog 43 #[.pointer (some ⟨B,0,none⟩),v] w K:=by
 have q0:w.cell? ⟨B,0,none⟩=some (.iface 31 (.pointer (some ⟨T,0,none⟩))):=hC.cell (i:=0) oM;have ltB:=hC.lt;refine Xo _ _ _ _ ?_;unfold adz;refine N2 h g hG k hT hC (λ_=>⟨ho,f⟩) ws v hS j hl d _ (λc w1 e1=> ?_) (λ_ hn=>absurd he hn) (λc _ v1 w1 e1 n1 s1=> ?_)
 ·refine zS0 ?_;exact e c _ e1
 ·have q0:=e1.cell_some q0;have hW:uX D.n ws:=⟨d,c⟩;have l:=afA hW;have a:=λK hK=>yK (h.ext e1) g 0 oM (rpI ws) v1 s1 (λb hb hf=>by have h1:=h.lt hf;have h2:=n1 b hb;omega) (afz hW g.n) oM K hK
  rw [hT] at a;refine zS1 q0 ?_;refine a _ (λw3 Y3 st=> ?_);exact hK hW w3 Y3 (Stp.pre e1 (λx hx=>h.lt hx) st)
def abV (h:Dv w Y D) (g:aL D) (b:26<=D.n) (hT:Y.tb 0=T) (hC:ah w B 171 3 (lgF T)) (ho:D.off=false) (a:D.cur 0=0) (K:K1) (hK:∀w',Ext w w'->K (.tuple #[.int .u8 ((1:Nat):Int),.slice none 0 0]) w'):
  ae prog 151 #[.pointer (some ⟨B,0,none⟩)] w K:=by
 have hld:∀(w1:ap) (K:K1),Ext w w1->ae prog 32 #[.pointer (some ⟨T,0,none⟩),.int .u64 ((0:Nat):Int)] w1 K=K (.int .u64 ((0:Nat):Int)) w1:=λw1 K e=>by
  rw [<-hT,gZ (h.ext e) g 0 oM ho 0 oM oM K,show 0/8=0 by omega,a]
 have q0:w.cell? ⟨B,0,none⟩=some (.iface 31 (.pointer (some ⟨T,0,none⟩))):=hC.cell (i:=0) oM;have q1:w.cell? ⟨B,1,none⟩=some (.int .u64 ((0:Nat):Int)):=hC.cell (i:=1) oM;have ltB:=hC.lt;refine Sq _ _ _ ?_;unfold Yk;refine eI q0 q1 hld @Ev @Ew @ck ?_;exact hK _ xZ
def Kp (h:Dv w Y D) (g:aL D) (d:26<=D.n) (hT:Y.tb 0=T) (hC:ah w B 171 3 (lgF T)) (ho:D.off=false) (he:D.err 0=0) (c:D.cur 0=0) (K:K1) (hK:∀w',Ext w w'->K (.tuple #[.int .i64 0,.int .i64 0]) w'):
  ae prog 108 #[.pointer (some ⟨B,0,none⟩)] w K:=by
 have a:∀(w1:ap) (K:K1),Ext w w1->ae prog 28 #[.pointer (some ⟨T,0,none⟩)] w1 K=K (.int .i64 0) w1:=λw1 K e=>by rw [<-hT,dA (h.ext e) 0 oM K,he]
 have q0:w.cell? ⟨B,0,none⟩=some (.iface 31 (.pointer (some ⟨T,0,none⟩))):=hC.cell (i:=0) oM;have ltB:=hC.lt;refine Sa _ _ _ ?_;unfold X8;refine ij q0 a ?_;refine abV h g d hT hC ho c _ (λw1 e1=> ?_);have q0:=e1.cell_some q0;have ltB:=aD q0;have b:=λ(w2:ap) (K:K1) (e:Ext w1 w2)=>a w2 K (e1.trans e)
 refine ij q0 b ?_;exact hK _ e1
end
section
variable {w0 w w':ap} {Y Y':Lay} {D D':DS} {S b o cp l0 n k:Nat} {f f':Nat->Int×Int×Bool}
def Yr (h:ArS w0 w Y D S b o cp l0 n f) (hk:k<n) (on:Bool) (K:K1)
  (h8:(f k).1<0->∀w',Ext w w'->K (.int .i64 8) w')
  (hK:¬(f k).1<0->∀w',dR w Y b w' Y->ArS w0 w' Y D S b o cp l0 n (upF f k ((f k).1,(f k).2.1,on))->K (.int .i64 0) w'):
  ae prog 70 #[stV S,.int .i64 ((l0+32*k:Nat):Int),.bool on] w K:=by
 refine Wy _ _ _ _ _ ?_;unfold adm;refine zS0 ?_;refine EJ h hk _ (λw1 e1=> ?_);have h1:=h.ext e1;have h3:=h1.wr3 hk on;have fz:=h1.fz;have a:=h1.p hk;have q0:=a.1;have q1:=a.2.1;have q2:=a.2.2.1;have q3:=a.2.2.2;by_cases c0:(f k).1<0
 ·have h8:=h8 c0;generalize (f k).1=cc at q1 c0;refine zS2 q1 c0 ?_;exact h8 _ e1
 ·have hK:=hK c0 _ ((dR.of_ext Y b e1).set _ _) h3;generalize (f k).1=cc at q1 c0;refine zS4 q1 q3 c0 fz ?_;exact hK
end
def mTr:nz prog .u64 108 (.int .u64 0):=⟨26,27,by kernel_rfl,by kernel_rfl,by kernel_rfl⟩
def mTh:nz prog .i64 109 (.int .i64 0):=⟨3,3,by kernel_rfl,by kernel_rfl,by kernel_rfl⟩
def mTa:nz prog .i64 110 (.bool false):=⟨3,4,by kernel_rfl,by kernel_rfl,by kernel_rfl⟩
abbrev Idx:=Nat->Int×Int×Bool
structure HL where
 S:Nat
 b:Nat
 o:Nat
 cp:Nat
 p:Nat
 rm:Nat
 hm:Nat
 av:Option Nat
 avl:List Int
 lk:Bool
 B:Nat
def hpF (T n:Nat) (H:HL) (i:Nat):aA:= [Value.iface 31 (.pointer (some ⟨T,0,none⟩)),.int .i64 ((26:Nat):Int),.int .i64 ((32*n:Nat):Int),stV H.S,.map (some H.rm),.map (some H.hm),.map H.av,.bool H.lk].getD i undef
def rsL (R:List Nat):KVL:=R.map λp=>((pO p:Int),.int .u64 (p:Int))
def avL (A:List Int):KVL:=A.map λx=>(x,.bool true)
def hk (p:Nat):Nat:=(pO p-1664)/2048
def cnR (R:List Nat) (k:Nat):Nat:=(R.filter λp=>decide (hk p=k)).length
def Rsv (D:DS) (f:Idx) (n p:Nat):Prop:=∃k i kd:Nat,k<n/\0<=(f k).1/\(i:Int)<perS (f k).1/\p=ptrN (pOff (26+32*k) (f k).1 i) (bG (wd D (26+32*k) (offN (f k).1 i))) kd/\bS (wd D (26+32*k) (offN (f k).1 i))=176/\kd≠0/\kd<=127
structure HpG (Q:Nat->Prop) (w0 w:ap) (Y:Lay) (D:DS) (H:HL) (n:Nat) (f:Idx) (R:List Nat):Prop where
 ar:ArS w0 w Y D H.S H.b H.o H.cp 26 n f
 rg:RgS D 26 n f
 hp:ah w H.p 112 8 (hpF (Y.tb 0) n H)
 lg:ah w H.B 171 3 (lgF (Y.tb 0))
 rs:bH .u64 w H.rm (rsL R)
 hd:∃L,bH .i64 w H.hm L/\∀k,k<n->bP L ((26+32*k:Nat):Int)=if cnR R k=0 then none else some (.int .i64 (cnR R k:Int))
 nd:(R.map pO).Nodup
 rv:∀p∈R,Q p
 ho:∀k,k<n->(f k).2.2=decide (cnR R k≠0)
 er:∀k,k<8->D.err k=0
 idl:D.cur 0=0
 avm:(H.av=none/\H.avl= [])\/∃r,H.av=some r/\bH .i64 w r (avL H.avl)/\r≠H.rm/\r≠H.hm/\r≠H.p
 sep:∀x,(x=H.p\/x=H.rm\/x=H.hm\/x=H.B\/H.av=some x)->w0.heap.size<=x/\¬Y.F x/\x≠H.b/\x≠H.S
 dif:H.p≠H.rm/\H.p≠H.hm/\H.rm≠H.hm/\H.B≠H.rm/\H.B≠H.hm/\H.B≠H.p
 dt:Y.dt=Y.tb/\∀i,Y.ids i=i
abbrev HpS (w0 w:ap) (Y:Lay) (D:DS) (H:HL) (n:Nat) (f:Idx) (R:List Nat):Prop:=HpG (Rsv D f n) w0 w Y D H n f R
abbrev hpV (H:HL):aA:= .pointer (some ⟨H.p,0,none⟩)
structure HSt (w:ap) (Y:Lay) (H:HL) (w':ap) (Y':Lay):Prop where
 tb:Y'.tb=Y.tb
 d:Y'.d=Y.d
 frm:Frm (λx=>Y.F x\/x=H.b\/x=H.p\/x=H.rm\/x=H.hm) w w'
 fr:∀x,Y'.F x->Y.F x\/w.heap.size<=x
section
variable {Q Q':Nat->Prop} {w0 w w' w'':ap} {Y Y' Y'':Lay} {D D':DS} {H:HL} {n:Nat} {f f':Idx} {R:List Nat}
def HSt.of_ext (Y:Lay) (H:HL) (e:Ext w w'):HSt w Y H w' Y:=⟨rfl,rfl,Frm.of_ext e,λx hx=> .inl hx⟩
def HSt.of_stp (H:HL) (s:Stp w Y w' Y' D'):HSt w Y H w' Y':=⟨s.tb,s.d,s.frm.mono (λx hx=> .inl hx),s.fr⟩
def HSt.of_ast (s:dR w Y H.b w' Y'):HSt w Y H w' Y':=⟨s.tb,s.d,s.frm.mono (λx hx=>hx.elim .inl (λe=> .inr (.inl e))),s.fr⟩
def HSt.trans (h:HSt w Y H w' Y') (k:HSt w' Y' H w'' Y''):HSt w Y H w'' Y'' where
 tb:=k.tb.trans h.tb
 d:=k.d.trans h.d
 frm:=h.frm.trans k.frm (λx hx hf=>by
  rcases hf with hf|hf
  ·rcases h.fr x hf with h1|h1
   ·exact .inl h1
   ·omega
  ·exact .inr hf)
 fr x hx:=by
  rcases k.fr x hx with h1|h1
  ·exact h.fr x h1
  ·exact .inr (bl h.frm.size h1)
def HSt.ext (h:HSt w Y H w' Y') (e:Ext w' w''):HSt w Y H w'' Y':=h.trans (HSt.of_ext Y' H e)
def HpG.ext (h:HpG Q w0 w Y D H n f R) (e:Ext w w'):HpG Q w0 w' Y D H n f R:=by
 obtain ⟨L,h1,h2⟩:=h.hd;exact ⟨h.ar.ext e,h.rg,h.hp.ext e,h.lg.ext e,h.rs.ext e,⟨L,h1.ext e,h2⟩,h.nd,h.rv,h.ho,h.er,h.idl,h.avm.imp id (λ⟨r,a,b,c⟩=>⟨r,a,b.ext e,c⟩),h.sep,h.dif,h.dt⟩
def HpG.gl (h:HpG Q w0 w Y D H n f R):bB w:=h.ar.gl.ext h.ar.L.ex
def HpG.n4 (h:HpG Q w0 w Y D H n f R):D.n<=4096/\26+32*n<=D.n:=⟨h.ar.L.gd.n,h.ar.lt⟩
def HpG.cell (h:HpG Q w0 w Y D H n f R):w.cell? ⟨H.p,0,none⟩=some (.iface 31 (.pointer (some ⟨Y.tb 0,0,none⟩)))/\w.cell? ⟨H.p,1,none⟩=some (.int .i64 ((26:Nat):Int))/\w.cell? ⟨H.p,2,none⟩=some (.int .i64 ((32*n:Nat):Int))/\w.cell? ⟨H.p,3,none⟩=some (stV H.S)/\w.cell? ⟨H.p,4,none⟩=some (.map (some H.rm))/\w.cell? ⟨H.p,5,none⟩=some (.map (some H.hm))/\w.cell? ⟨H.p,6,none⟩=some (.map H.av)/\w.cell? ⟨H.p,7,none⟩=some (.bool H.lk):=
 ⟨h.hp.cell (i:=0) oM,h.hp.cell (i:=1) oM,h.hp.cell (i:=2) oM,h.hp.cell (i:=3) oM,h.hp.cell (i:=4) oM,h.hp.cell (i:=5) oM,h.hp.cell (i:=6) oM,h.hp.cell (i:=7) oM⟩
def HpG.ltp (h:HpG Q w0 w Y D H n f R):H.p<w.heap.size:=h.hp.lt
def HpG.erE (h:HpG Q w0 w Y D H n f R):∀(w1:ap) (K:K1),Ext w w1->ae prog 28 #[.pointer (some ⟨Y.tb 0,0,none⟩)] w1 K=K (.int .i64 0) w1:=λw1 K e=>by rw [dA (h.ar.L.dv.ext e) 0 oM K,h.er 0 oM]
def HpG.step (h:HpG Q w0 w Y D H n f R) (s:Stp w Y w' Y' D') (hn:D'.n=D.n) (rg:RgS D' 26 n f) (rv:∀p∈R,Q' p) (er:∀k,k<8->D'.err k=0) (d:D'.cur 0=0):HpG Q' w0 w' Y' D' H n f R:=by
 obtain ⟨L,h1,h2⟩:=h.hd;have tb:Y'.tb 0=Y.tb 0:=by rw [s.tb]
 have sp:=h.sep;refine ⟨h.ar.step s rg.gd hn,rg,by rw [tb];exact h.hp.frm s.frm (sp _ (.inl rfl)).2.1,by rw [tb];exact h.lg.frm s.frm (sp _ (.inr (.inr (.inr (.inl rfl))))).2.1,h.rs.frm s.frm (sp _ (.inr (.inl rfl))).2.1,⟨L,h1.frm s.frm (sp _ (.inr (.inr (.inl rfl)))).2.1,h2⟩,h.nd,rv,h.ho,er,d,h.avm.imp id (λ⟨r,a,b,c⟩=>⟨r,a,b.frm s.frm (sp _ (.inr (.inr (.inr (.inr a))))).2.1,c⟩),λx hx=>⟨(sp x hx).1,λhf=> ?_,(sp x hx).2.2⟩,h.dif,by have:=h.dt;rw [s.y];exact this⟩;have lt:x<w.heap.size:=by
  rcases hx with rfl|rfl|rfl|rfl|ha
  ·exact h.hp.lt
  ·exact h.rs.lt
  ·exact h1.lt
  ·exact h.lg.lt
  ·rcases h.avm with ⟨a,_⟩|⟨r,a,b,_⟩
   ·rw [a] at ha;cases ha
   ·rw [a] at ha;injection ha with ha;subst ha;exact b.lt
 rcases s.fr x hf with h3|h3
 ·exact (sp x hx).2.1 h3
 ·omega
def Ys {p n x:Nat} (h1:w.cell? ⟨p,1,none⟩=some (.int .i64 ((26:Nat):Int))) (h2:w.cell? ⟨p,2,none⟩=some (.int .i64 ((32*n:Nat):Int))) (hn:n<=128) (hx:x<18446744073709551616) (K:K1):ae prog 74 #[.pointer (some ⟨p,0,none⟩),.int .u64 (x:Int)] w K=K (if 1664<=x/\(x-1664)/2048<n then .tuple #[.int .i64 ((26+32*((x-1664)/2048):Nat):Int),.bool true] else .tuple #[.int .i64 0,.bool false]) w:=by
 have e1:32*n/32=n:=oM;by_cases a:1664<=x
 ·by_cases b:(x-1664)/2048<n
  ·rw [if_pos ⟨a,b⟩];have e2:((26:Nat):Int)+(((x-1664)/2048:Nat):Int)*32=((26+32*((x-1664)/2048):Nat):Int):=oM;refine au (by kernel_rfl) (vv _ _ _ _ ?_) K;unfold NQ;exact yS4 h1 h2 e1 e2
  ·rw [if_neg (λh=>b h.2)];refine au (by kernel_rfl) (vv _ _ _ _ ?_) K;unfold NQ;exact yS3 h1 h2 e1
 ·rw [if_neg (λh=>a h.1)];refine au (by kernel_rfl) (vv _ _ _ _ ?_) K;unfold NQ;exact yS3 h1 h2 e1
def afB {R:List Nat} (hn:(R.map pO).Nodup) {p:Nat} (h:p∈R):bP (rsL R) (pO p:Int)=some (.int .u64 (p:Int)):=by
 refine sV ?_ (List.mem_map.2 ⟨p,h,rfl⟩);unfold rsL;rw [cx];have:R.map ((λx=>x.1) ∘ λp=>((pO p:Int),Value.int .u64 (p:Int)))=(R.map pO).map (λ(x:Nat)=>(x:Int)):=by rw [cx];rfl
 rw [this];exact List.Pairwise.map _ (λa b h e=>h oM) hn
def afC {R:List Nat} {p:Nat} (h:p∉R):bP (rsL R) (pO p:Int)=none\/∃q,q≠p/\q∈R/\pO q=pO p/\bP (rsL R) (pO p:Int)=some (.int .u64 (q:Int)):=by
 cases hg:bP (rsL R) (pO p:Int) with
 |none=>exact .inl rfl
 |some v=>
  have:=oJ hg;obtain ⟨q,hq,e⟩:=List.mem_map.1 this;injection e with e1 e2;exact .inr ⟨q,λe=>h (e▸hq),hq,by omega,by rw [e2]⟩
theorem k_holds (h:HpG Q w0 w Y D H n f R) (hr:∀p∈R,p<18446744073709551616) (p:Nat) (hp:p<18446744073709551616) (K:K1) (hK:∀w',Ext w w'->K (.bool (decide (p∈R))) w'):
  ae prog 83 #[hpV H,.int .u64 (p:Int)] w K:=by
 have q4:=h.cell.2.2.2.2.1;have ltp:=h.ltp;have a:∀(w1:ap) (k:aA->Prop),Ext w w1->rd prog (Instr.lookup 108 (.map (some H.rm)) (.int .u64 ((pO p:Nat):Int)) true) w1 k=k (.tuple #[(bP (rsL R) (pO p:Int)).getD (.int .u64 0),.bool (bP (rsL R) (pO p:Int)).isSome]):=λw1 k e=>uY mTr (h.rs.ext e) (pO p:Int) k
 refine XX _ _ _ _ ?_;unfold adP;by_cases hm:p∈R
 ·rw [afB h.nd hm] at a;rw [decide_eq_true hm] at hK
  (repeat' (first|(with_reducible first|refine Bw (λ_=> ?_) (λ_=> ?_)|refine ep ?_ ?_)|(simp (disch:=try exact dX) only [↓RBp,↓RA,↓reduceIte,Nat.reduceAdd,Nat.reduceMul,Nat.reduceEqDiff,RB,RX,RA2,q4,a,eW,cj,dm])))
  exact hK _ xZ
 ·rw [decide_eq_false hm] at hK;rcases afC hm with h0|⟨q,hq,hqR,_,h0⟩
  ·rw [h0] at a
   (repeat' (first|(with_reducible first|refine Bw (λ_=> ?_) (λ_=> ?_)|refine ep ?_ ?_)|(simp (disch:=try exact dX) only [↓RBp,↓RA,↓reduceIte,Nat.reduceAdd,Nat.reduceMul,Nat.reduceEqDiff,RB,RX,RA2,q4,a,eW,Option.getD_none,Option.isSome_none])))
   exact hK _ xZ
  ·rw [h0] at a;have:=hr q hqR;have b:¬(q:Int)=(p:Int):=oM
   (repeat' (first|(with_reducible first|refine Bw (λ_=> ?_) (λ_=> ?_)|refine ep ?_ ?_)|(simp (disch:=try exact dX) only [↓RBp,↓RA,↓reduceIte,Nat.reduceAdd,Nat.reduceMul,Nat.reduceEqDiff,RB,RX,RA2,q4,a,eW,cj,dm,b])))
   exact hK _ xZ
def clsN (x:Int):Int:=if x<=3 then 0 else if x<=7 then 1 else if x<=15 then 2 else if x<=31 then 3 else 4
def jQ (x:Int):0<=clsN x/\clsN x<5:=by unfold clsN;repeat' split<;>omega
def Yt (hG:bB w) (x:Int) (h1:1<=x) (c:x<=60) (K:K1) (hK:K (.tuple #[.int .i64 (clsN x),.int .i64 0]) w):
  ae prog 65 #[.int .i64 x] w K:=by
 refine Wx _ _ _ ?_;unfold adl;refine zS0 ?_;apply ED (I:=λz w'=>∃i:Nat,z= .int .i64 (i:Int)/\(i:Int)<=clsN x/\w'=w) (μ:=λz _=>5-(intOf z).toNat)
 ·exact ⟨0,rfl,by have:=jQ x;omega,rfl⟩
 ·intros;rename_i w1 hI E1 hE;obtain ⟨i,rfl,hi,rfl⟩:=hI;have hb:=jQ x;have a:=hG.pay i oM;unfold EC;by_cases e:(i:Int)=clsN x
  ·have d:x<=jG i:=by
    unfold clsN at e;have:i=0\/i=1\/i=2\/i=3\/i=4:=oM;rcases this with rfl|rfl|rfl|rfl|rfl<;>simp only [jG,d5,d6]<;>(repeat' split at e)<;>omega
   rw [<-e] at hK;refine zS1 a ?_;exact hK
  ·have b:¬x<=jG i:=by
    unfold clsN at e hi;have:i=0\/i=1\/i=2\/i=3\/i=4:=oM;rcases this with rfl|rfl|rfl|rfl|rfl<;>simp only [jG,d5,d6]<;>(repeat' split at hi)<;>(repeat' split at e)<;>omega
   refine zS2 a b ?_;apply hE
   ·exact ⟨i+1,by simp,by omega,rfl⟩
   ·simp [intOf];omega
def iy (t x:Int) (k:Nat) (hk:k<256) (w:ap) (K:K1):ae prog 64 #[.int .i64 t,.int .i64 x,.int .u8 (k:Int)] w K=K (.int .i64 (if 0<=t/\t<8/\1<=x/\k≠0/\k<=127 then (if x<=60 then 0 else 9) else 1)) w:=by
 by_cases a:0<=t/\t<8/\1<=x/\k≠0/\k<=127
 ·rw [if_pos a];by_cases b:x<=60
  ·rw [if_pos b];refine au (by kernel_rfl) (vl _ _ _ _ _ ?_) K;unfold NL;exact yS0
  ·rw [if_neg b];refine au (by kernel_rfl) (vl _ _ _ _ _ ?_) K;unfold NL;exact yS0
 ·rw [if_neg a];refine au (by kernel_rfl) (vl _ _ _ _ _ ?_) K;unfold NL;by_cases a1:0<=t
  ·by_cases a2:t<8
   ·by_cases a3:1<=x
    ·by_cases a4:k=0
     ·subst a4;exact yS0
     ·have a5:¬k<=127:=λh=>a ⟨a1,a2,a3,a4,h⟩
      exact yS1 a4
    ·exact yS0
   ·exact yS0
  ·exact yS0
end
end Go.Proofs.YtmpehclnnjgmcaaGreatDoor
