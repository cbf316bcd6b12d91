/-
  Part 4 of what the proofs of this seat share.
-/
import Derived.Test.YtmpehclnnjgmcaaGreatDoorCb3
import Derived.Test.YtmpehclnnjgmcaaGreatDoorCb1
import Derived.Test.YtmpehclnnjgmcaaGreatDoorCb2
set_option linter.unusedSimpArgs false
set_option linter.unusedVariables false
set_option maxHeartbeats 20000000
set_option maxRecDepth 100000
open Go.Proofs.Tryz (prog)
open Go.RowKit (intOf)
namespace Go.Proofs.YtmpehclnnjgmcaaGreatDoor
open Go Go.Sh
structure Snd (D:DS) (l:Nat) (c o:Int):Prop where
 hd:hdOk (wd D l 0)=true
 hc:hC (wd D l 0)=c
 ho:hO (wd D l 0)=o
 zer:∀j,2≤j→j<8→wd D l j=0
 sl:∀i:Nat,(i:Int)<perS c→isS (wd D l (offN c i))=true
 gd:∀i:Nat,(i:Int)<perS c→goodB (bG (wd D l (offN c i))) (bK (wd D l (offN c i))) (bS (wd D l (offN c i)))=true
 bit:∀i:Nat,i<64→bitB (wd D l 1) i=(decide ((i:Int)<perS c)&& !decide (bS (wd D l (offN c i))=176))
section
variable {D D':DS} {l:Nat} {c o:Int}
theorem good_g {g k s:Nat} (h:goodB g k s=true):g≠0:=by
 unfold goodB at h
 split at h
 ·simp at h;exact h.1
 ·split at h
  ·simp at h;exact h.1.1
  ·split at h
   ·simp at h;omega
   ·cases h
theorem good_fre (g:Nat):goodB (freG g) 0 (freS g)=true:=by
 unfold freG freS goodB
 by_cases h:g=65535
 ·simp [h]
 ·simp [h]
theorem tk_parts {i:Nat} (h:tkOk D l c i=true):isS (wd D l (offN c i))=true∧bitB (wd D l 1) i=false∧bS (wd D l (offN c i))=176∧goodB (bG (wd D l (offN c i))) (bK (wd D l (offN c i))) (bS (wd D l (offN c i)))=true:=by
 unfold tkOk at h
 simp only [Bool.and_eq_true,Bool.not_eq_true',decide_eq_true_eq] at h
 exact h
theorem dp_parts {i:Nat} (h:dpOk D l c i=true):isS (wd D l (offN c i))=true∧bitB (wd D l 1) i=true∧bS (wd D l (offN c i))=177:=by
 unfold dpOk at h
 simp only [Bool.and_eq_true,decide_eq_true_eq] at h
 exact h
theorem tkW_parts (i k:Nat) (hk:k<256):isS (tkW D l c i k).2=true∧bG (tkW D l c i k).2=bG (wd D l (offN c i))∧bK (tkW D l c i k).2=k∧bS (tkW D l c i k).2=177:=⟨isS_blk (bG_lt _) hk oM,bG_blk (bG_lt _) hk oM,bK_blk (bG_lt _) hk oM,bS_blk (bG_lt _) hk oM⟩
theorem dpW_parts (i:Nat):isS (dpW D l c i).2=true∧bG (dpW D l c i).2=freG (bG (wd D l (offN c i)))∧bK (dpW D l c i).2=0∧bS (dpW D l c i).2=freS (bG (wd D l (offN c i))):=⟨isS_blk (freG_lt (bG_lt _)) oM (freS_lt _),bG_blk (freG_lt (bG_lt _)) oM (freS_lt _),bK_blk (freG_lt (bG_lt _)) oM (freS_lt _),bS_blk (freG_lt (bG_lt _)) oM (freS_lt _)⟩
theorem Snd.act {L M:List Int} {ks:List Nat} {ws:List (Nat×Nat)} (h:Snd D l c o) (c0:0≤c) (c5:c<5) (ha:ActA c L ks M) (e:ActE D D' l c L ks M ws):Snd D' l c o:=by
 have bd:=fun (i:Nat) (hi:(i:Int)<perS c)=>offN_bd c0 c5 hi
 have r:∀j,j<8→j≠1→wd D' l j=wd D l j:=fun j hj h1=>e.rest j oM (fun i hi=>by have:=bd i hi;omega) h1
 have r0:=r 0 oM oM
 obtain ⟨n1,n2,n3⟩:=ha.nd
 have kk:∀{i k:Nat},kOf L ks i=some k→k≠0∧k≤127∧tkOk D l c i=true∧hasI L i=true∧hasI M i=false:=fun {i k} hk=>by
  obtain ⟨k1,k2,k3⟩:=kOf_mem (D:=D) (l:=l) (c:=c) hk
  obtain ⟨x,hx,rfl⟩:=hasI_mem k2
  exact ⟨(ha.kin k k3).1,(ha.kin k k3).2,e.tk x hx,k2,n3 _ k2⟩
 have mm:∀{i:Nat},hasI M i=true→dpOk D l c i=true:=fun {i} hm=>by obtain ⟨x,hx,rfl⟩:=hasI_mem hm;exact e.dp x hx
 refine ⟨by rw [r0];exact h.hd,by rw [r0];exact h.hc,by rw [r0];exact h.ho,fun j h2 h8=>by rw [r j h8 oM];exact h.zer j h2 h8,fun i hi=> ?_,fun i hi=> ?_,fun i h64=> ?_⟩
 ·rw [e.blk i hi];unfold actX
  cases hk:kOf L ks i with
  |some k=>exact (tkW_parts i k (by have:=kk hk;omega)).1
  |none=>
   simp only
   split
   ·exact (dpW_parts i).1
   ·exact h.sl i hi
 ·rw [e.blk i hi];unfold actX
  cases hk:kOf L ks i with
  |some k=>
   have h1:=kk hk
   obtain ⟨_,a,b,d⟩:=tkW_parts (D:=D) (l:=l) (c:=c) i k oM
   simp only [a,b,d]
   have hg:=good_g (tk_parts h1.2.2.1).2.2.2
   simp [goodB,hg,h1.1,h1.2.1]
  |none=>
   simp only
   split
   ·obtain ⟨_,a,b,d⟩:=dpW_parts (D:=D) (l:=l) (c:=c) i
    rw [a,b,d];exact good_fre _
   ·exact h.gd i hi
 ·rw [e.map,bit_dpL _ _ _ h64,bit_orL,h.bit i h64]
  by_cases hi:(i:Int)<perS c
  ·rw [e.blk i hi,decide_eq_true hi];unfold actX
   cases hk:kOf L ks i with
   |some k=>
    have h1:=kk hk
    simp only [h1.2.2.2.1,h1.2.2.2.2,(tkW_parts (D:=D) (l:=l) (c:=c) i k oM).2.2.2]
    simp
   |none=>
    have hL:=kOf_none ha.len hk
    simp only [hL]
    by_cases hm:hasI M i=true
    ·have h1:=dp_parts (mm hm)
     have h2:=h.bit i h64
     rw [h1.2.1,decide_eq_true hi,Bool.true_and] at h2
     simp only [hm,if_true,(dpW_parts (D:=D) (l:=l) (c:=c) i).2.2.2,←h2]
     simp
    ·have hm:hasI M i=false:=by simpa using hm
     simp [hm]
  ·have hL:hasI L i=false:=by
    cases hh:hasI L i with
    |false=>rfl
    |true=>obtain ⟨x,hx,rfl⟩:=hasI_mem hh;have:=ha.vL x hx;omega
   have hM:hasI M i=false:=by
    cases hh:hasI M i with
    |false=>rfl
    |true=>obtain ⟨x,hx,rfl⟩:=hasI_mem hh;have:=ha.vM x hx;omega
   simp [hL,hM,hi]
theorem bit_mskN:∀(n i:Nat),bitB (mskN D l c n) i=(decide (i<n)&& !decide (bS (wd D l (offN c i))=176)):=by
 intro n
 induction n with
 |zero=>intro i;simp [mskN,bitB]
 |succ n ih=>
  intro i
  simp only [mskN]
  by_cases hin:i=n
  ·subst hin
   split
   ·rename_i h;rw [ih];simp [h]
   ·rename_i h;rw [bit_or,ih,bit_pow];simp [h]
  ·have e1:decide (i<n+1)=decide (i<n):=by congr 1;simp only [eq_iff_iff];omega
   have e2:decide (n=i)=false:=by simp;omega
   split
   ·rw [ih,e1]
   ·rw [bit_or,ih,bit_pow,e1,e2,Bool.or_false]
theorem eq_of_bits {x y:Nat} (hx:x<18446744073709551616) (hy:y<18446744073709551616) (h:∀i,i<64→bitB x i=bitB y i):x=y:=by
 apply Nat.eq_of_testBit_eq
 intro i
 by_cases hi:i<64
 ·have:=h i hi;rwa [bit_tb,bit_tb] at this
 ·have p:2^64≤2^i:=Nat.pow_le_pow_right oM oM
  rw [Nat.testBit_lt_two_pow (Nat.lt_of_lt_of_le hx (by simpa using p)),Nat.testBit_lt_two_pow (Nat.lt_of_lt_of_le hy (by simpa using p))]
theorem gdN_all:∀(n:Nat),(∀i,i<n→isS (wd D l (offN c i))=true∧goodB (bG (wd D l (offN c i))) (bK (wd D l (offN c i))) (bS (wd D l (offN c i)))=true)→gdN D l c n=true:=by
 intro n
 induction n with
 |zero=>intro _;rfl
 |succ n ih=>
  intro h
  have h1:=h n oM
  simp only [gdN,ih (fun i hi=>h i oM),h1.1,h1.2];rfl
theorem zerN_all:∀(n:Nat),(∀i,i<n→wd D l (i+2)=0)→zerN D l n=true:=by
 intro n
 induction n with
 |zero=>intro _;rfl
 |succ n ih=>
  intro h
  simp only [zerN,ih (fun i hi=>h i oM),h n oM];rfl
theorem Snd.con (h:Snd D l c o) (hg:Good D) (hl:l+32≤D.n) (c0:0≤c) (c5:c<5):conB D l c o=true:=by
 have hp:=perS_in c0 c5
 obtain ⟨n,hn⟩:∃n:Nat,perS c=(n:Int):=⟨(perS c).toNat,by omega⟩
 have hw:wd D l 1<18446744073709551616:=by unfold wd;exact hg.cur _ oM
 have hm:=mskN_lt D l c n
 have h2:=pow_lt64 (show n<64 by omega)
 have e:wd D l 1=mskN D l c n:=eq_of_bits hw oM (fun i hi=>by
  rw [h.bit i hi,bit_mskN,hn]
  congr 2;simp)
 unfold conB
 rw [hn,Int.toNat_natCast,h.hd,decide_eq_true h.hc,decide_eq_true h.ho,zerN_all 6 (fun i hi=>h.zer _ oM oM),gdN_all n (fun i hi=>⟨h.sl i oM,h.gd i oM⟩),decide_eq_true e]
 rfl
end
def chF (T l:Nat) (c o:Int) (g:Nat) (i:Nat):Value:= [Value.iface 31 (.pointer (some ⟨T,0,none⟩)),.int .i64 (l:Int),.int .i64 c,.int .i64 o,.int .u16 (g:Int)].getD i undef
structure Loc (w0 w:World) (Y:Lay) (D:DS) (B l:Nat) (c o:Int) (g:Nat):Prop where
 L:Lv w0 w Y D
 bx:Cells w B 134 5 (chF (Y.tb 0) l c o g)
 nb:¬Y.F B
 on:On D
 lt:l+32≤D.n
 gl:Glob w0
 c0:0≤c
 c5:c<5
def Out (w0:World) (Y:Lay) (B:Nat) (v:Value):Prop:=∀b,v.ownBlock=some b→w0.heap.size≤b∧¬Y.F b∧b≠B
section
variable {w0 w w':World} {Y Y':Lay} {D D':DS} {B l:Nat} {c o:Int} {g:Nat}
theorem Loc.ext (h:Loc w0 w Y D B l c o g) (e:Ext w w'):Loc w0 w' Y D B l c o g:=⟨h.L.ext e,h.bx.ext e,h.nb,h.on,h.lt,h.gl,h.c0,h.c5⟩
theorem Loc.step (h:Loc w0 w Y D B l c o g) (s:Stp w Y w' Y' D') (gd:Good D') (on:On D') (hn:D'.n=D.n):Loc w0 w' Y' D' B l c o g:=by
 have tb:Y'.tb 0=Y.tb 0:=by rw [s.tb]
 refine ⟨h.L.step s gd,?_,fun hf=> ?_,on,by rw [hn];exact h.lt,h.gl,h.c0,h.c5⟩
 ·rw [tb];exact h.bx.frm s.frm h.nb
 ·rcases s.fr B hf with h1|h1
  ·exact h.nb h1
  ·have:=h.bx.lt;omega
theorem Loc.cx (h:Loc w0 w Y D B l c o g):Cx w Y D l c:=h.L.cx h.gl h.on.off h.lt h.c0 h.c5
theorem Loc.cells (h:Loc w0 w Y D B l c o g):w.cell? ⟨B,0,none⟩=some (.iface 31 (.pointer (some ⟨Y.tb 0,0,none⟩)))∧w.cell? ⟨B,1,none⟩=some (.int .i64 (l:Int))∧w.cell? ⟨B,2,none⟩=some (.int .i64 c)∧w.cell? ⟨B,3,none⟩=some (.int .i64 o)∧w.cell? ⟨B,4,none⟩=some (.int .u16 (g:Int)):=
 ⟨h.bx.cell (i:=0) oM,h.bx.cell (i:=1) oM,h.bx.cell (i:=2) oM,h.bx.cell (i:=3) oM,h.bx.cell (i:=4) oM⟩
theorem Loc.ltB (h:Loc w0 w Y D B l c o g):B<w.heap.size:=h.bx.lt
theorem Loc.frm {G:Nat→Prop} (h:Loc w0 w Y D B l c o g) (f:Frm G w w') (hG:∀b,G b→w0.heap.size≤b∧¬Y.F b∧b≠B):Loc w0 w' Y D B l c o g:=
 ⟨⟨h.L.dv.frm f (fun b hb hg=>(hG b hg).2.1 hb),h.L.gd,Ext.frm h.L.ex f (fun x hx=>(hG x hx).1),h.L.nw⟩,h.bx.frm f (fun hb=>(hG B hb).2.2 rfl),h.nb,h.on,h.lt,h.gl,h.c0,h.c5⟩
theorem Out.step {v:Value} {t:TypeId} {z n:Nat} {L:List Value} (h:Out w0 Y B v) (hs:SlO w t z v n L) (s:Stp w Y w' Y' D'):Out w0 Y' B v∧SlO w' t z v n L:=by
 refine ⟨fun b hb=>⟨(h b hb).1,fun hf=> ?_,(h b hb).2.2⟩,hs.frm s.frm (fun b hb=>(h b hb).2.1)⟩
 rcases s.fr b hf with h1|h1
 ·exact (h b hb).2.1 h1
 ·have:=hs.lt hb;omega
theorem Out.nil (w0:World) (Y:Lay) (B:Nat):Out w0 Y B (.slice none 0 0):=fun b hb=>by cases hb
theorem Out.new {v:Value} (h:Loc w0 w Y D B l c o g) (hv:NewV w.heap.size v):Out w0 Y B v:=fun b hb=>by
 have h1:=hv b hb
 have h2:=h.ltB
 have h3:=h.L.ex.size
 exact ⟨by omega,fun hf=>by have:=h.L.dv.lt hf;omega,by omega⟩
theorem chT_cons (D:DS) (l:Nat) (c:Int) (i:Int) (r:List Int) (k:Nat) (ks:List Nat) (acc:List (Nat×Nat)) (b:Nat):chT D l c (i::r) (k::ks) acc b=if tkOk D l c i.toNat=true then chT D l c r ks (acc++ [tkW D l c i.toNat k]) (b|||2^i.toNat) else none:=rfl
theorem chT_nil (D:DS) (l:Nat) (c:Int) (ks:List Nat) (acc:List (Nat×Nat)) (b:Nat):chT D l c [] ks acc b=some (acc,b):=rfl
theorem chDr_cons (D:DS) (l:Nat) (c:Int) (i:Int) (r:List Int) (acc:List (Nat×Nat)) (b:Nat):chDr D l c (i::r) acc b=if dpOk D l c i.toNat=true then chDr D l c r (acc++ [dpW D l c i.toNat]) (dpB D l c i.toNat b) else none:=rfl
theorem chDr_nil (D:DS) (l:Nat) (c:Int) (acc:List (Nat×Nat)) (b:Nat):chDr D l c [] acc b=some (acc,b):=rfl
theorem actN_eq {L M:List Int} {ks:List Nat} {w1 w2:List (Nat×Nat)} {b1 b2:Nat} (hne:¬(L.length=0∧M.length=0)) (h1:chT D l c L ks [] (wd D l 1)=some (w1,b1)) (h2:chDr D l c M w1 b1=some (w2,b2)):actN D l c L ks M=some (w2++ [(l*64+8,b2)]):=by
 unfold actN
 rw [if_neg hne,h1]
 simp only [h2]
theorem Loc.er (h:Loc w0 w Y D B l c o g):∀(w1:World) (K:K1),Ext w w1→callS prog 28 #[.pointer (some ⟨Y.tb 0,0,none⟩)] w1 K=K (.int .i64 0) w1:=fun w1 K e=>by rw [c_Err (h.L.dv.ext e) 0 oM K,h.on.err]
theorem pO_ptr (off g k:Nat) (h8:off%8=0) (ho:off<34359738368):pO (ptrN off g k)=off:=by unfold pO ptrN;omega
theorem pG_ptr (off g k:Nat) (ho:off<34359738368) (hg:g<65536):pG (ptrN off g k)=g:=by unfold pG ptrN;omega
theorem pK_ptr (off g k:Nat) (ho:off<34359738368) (hg:g<65536) (hk:k<256):pK (ptrN off g k)=k:=by unfold pK ptrN;omega
theorem ptr_bd (off g k:Nat) (ho:off<34359738368) (hg:g<65536) (hk:k≤127) (h0:off≠0) (h8:off%8=0):ptrN off g k≠0∧ptrN off g k<72057594037927936:=by unfold ptrN;omega
theorem pOff_bd {l:Nat} {c:Int} {i:Nat} (hl:l≤4096) (c0:0≤c) (c5:c<5) (hi:(i:Int)<perS c):pOff l c i%8=0∧pOff l c i<34359738368∧pOff l c i≠0:=by
 have:=offN_bd c0 c5 hi;unfold pOff;omega
theorem Snd.sndB {l:Nat} {c o:Int} (h:Snd D l c o) (c0:0≤c) (c5:c<5) (i:Nat) (hi:(i:Int)<perS c):sndB D l c i:=by
 have hp:=perS_in c0 c5
 refine ⟨h.sl i hi,h.gd i hi,?_⟩
 rw [h.bit i oM,decide_eq_true hi,Bool.true_and]
end
def f31_t (x0 x1:Value) (K:K1) (w:World):Prop:=
 cL 73 (pA #[x0]) w fun a w=>
 gV a false x1 w fun b w=>
 gd a false (fun k=>bC .lss 3 8 0 b w k) w fun c w=>
 pickS a (.bool true) c w fun d w=>
 gV d false x1 w fun e w=>
 gd d false (fun k=>bC .geq 3 12 60 e w k) w fun f w=>
 pickS d (.bool true) f w fun g w=>
 cndS g (
 K (.int .u64 ((0:Nat):Int)) w) (
 cL 20 (pA #[x0]) w fun h w=>
 cV 3 26 x1 w fun i w=>
 bM .mul 26 (cu .u64 8) (.tmp 18) (.int .u64 ((8:Nat):Int)) i w fun j w=>
 bT .add 26 16 19 h j w fun l w=>
 K l w)
theorem f31_call (x0 x1:Value) (K:K1) (w:World) (h:f31_t x0 x1 K w):callS prog 31 #[x0,x1] w K:=
 call_of_txt (args:= [x0,x1]) mixed Tryz.func31 .o kR (cast kR h)
noncomputable def f65_u:Code×Dec:=((Tryz.f65.body).getD .skip,(.s .o (.s .o (.x 0 (.s .o (.b (.l [7] 1 130972 .o))) .o))))
abbrev f65_e (K:K1):KF:=endK prog Tryz.f65.results.toList K
def f65_k1_o (K:K1):KF:=fun fr w=>∀σ,cP (pr (pr (pr f65_u))) (f65_e K) (f65_e K) nX (mixF 0 σ 0 fr) w
def f65_k1 (K:K1) (w:World):Prop:=f65_k1_o K (fz 17 0 []) w
def f65_l1 (K:K1) (x0 x7:Value) (w:World):Prop:=loopT [7] 1 (fun E=>cP (pl (pl (pr (pl (pr (pr f65_u)))))) E (f65_e K) (exB 0 (f65_k1_o K) nX)) (fz 17 0 [(0,x0),(7,x7)]) w
def f65_l1_t (x0 x7:Value) (K:K1) (E1:VP1) (w:World):Prop:=
 bC .lss 3 7 5 x7 w fun a w=>
 cndS a (
 iA 182 (.pointer (some ⟨0,0,none⟩)) x7 w fun b w=>
 lD 3 b w fun c w=>
 bT .leq 3 10 13 x0 c w fun d w=>
 cndS d (
 K (.tuple #[x7,(.int .i64 0)]) w) (
 bC .add 3 7 1 x7 w fun e w=>
 E1 e w)) (
 f65_k1 K w)
theorem f65_l1_rule (x0 x7:Value) (K:K1) (w:World) (I:VP1) (μ:Value→World→Nat) (h0:I x7 w)
  (hr:∀(x7:Value) (w:World),I x7 w→∀E1:VP1,(∀(y7:Value) (w':World),I y7 w'→μ y7 w'<μ x7 w→E1 y7 w')→f65_l1_t x0 x7 K E1 w):f65_l1 K x0 x7 w:=
 ⟨I,μ,h0,fun σ w hI E hE=>cast kR (hr (σ 7) w hI E hE)⟩
def f65_t (x0:Value) (K:K1) (w:World):Prop:=
 bC .lss 3 5 1 x0 w fun a w=>
 cndS a (
 K (.tuple #[(.int .i64 0),(.int .i64 1)]) w) (
 f65_l1 K x0 (.int .i64 0) w)
theorem f65_call (x0:Value) (K:K1) (w:World) (h:f65_t x0 K w):callS prog 65 #[x0] w K:=
 call_of_txt (args:= [x0]) mixed Tryz.func65 f65_u.2 kR (cast kR h)
def f70_t (x0 x1 x2:Value) (K:K1) (w:World):Prop:=
 cL 124 (pA #[x0,x1]) w fun a w=>
 bM .eql 192 (.tmp 11) (.const (.pointer none)) a (.pointer none) w fun b w=>
 cndS b (
 K (.int .i64 5) w) (
 nS a w fun c w=>
 fA 195 c 1 w fun d w=>
 lD 3 d w fun e w=>
 bC .lss 3 16 0 e w fun f w=>
 cndS f (
 K (.int .i64 8) w) (
 nS a w fun g w=>
 fA 195 g 3 w fun h w=>
 sD 4 h x2 w fun w=>
 K (.int .i64 0) w))
theorem f70_call (x0 x1 x2:Value) (K:K1) (w:World) (h:f70_t x0 x1 x2 K w):callS prog 70 #[x0,x1,x2] w K:=
 call_of_txt (args:= [x0,x1,x2]) mixed Tryz.func70 .o kR (cast kR h)
noncomputable def f91_u:Code×Dec:=((Tryz.f91.body).getD .skip,(.s .o (.s .o (.s .o (.x 8 (.s .o (.b (.l [3,13] 6144 8380456 .o))) .o)))))
abbrev f91_e (K:K1):KF:=endK prog Tryz.f91.results.toList K
def f91_k1_o (K:K1):KF:=fun fr w=>∀σ,cP (pr (pr (pr (pr f91_u)))) (f91_e K) (f91_e K) nX (mixF 8 σ 0 fr) w
def f91_k1 (K:K1) (x3:Value) (w:World):Prop:=f91_k1_o K (fz 24 0 [(3,x3)]) w
def f91_l1 (K:K1) (x3 x11 x12 x13:Value) (w:World):Prop:=loopT [3,13] 6144 (fun E=>cP (pl (pl (pr (pl (pr (pr (pr f91_u))))))) E (f91_e K) (exB 0 (f91_k1_o K) nX)) (fz 24 0 [(3,x3),(11,x11),(12,x12),(13,x13)]) w
def f91_k1_t (x3:Value) (K:K1) (w:World):Prop:=
 K x3 w
theorem f91_k1_eq (K:K1) (x3:Value) (w:World):f91_k1 K x3 w=f91_k1_t x3 K w:=cutE fun σ=>by kernel_rfl
def f91_l1_t (x3 x11 x12 x13:Value) (K:K1) (E1:VP2) (w:World):Prop:=
 bT .lss 3 13 12 x13 x12 w fun a w=>
 cndS a (
 iA 210 x11 x13 w fun b w=>
 lD 195 b w fun c w=>
 ev prog (Instr.alloc 195 true (.tuple #[])) w fun d w=>
 sD 195 d c w fun w=>
 fA 195 d 0 w fun e w=>
 lD 3 e w fun f w=>
 ev prog (Instr.buildSlice 50 1 #[(0,f)]) w fun g w=>
 bltS prog .append #[50,50] 50 #[false,false] (pA #[x3,g]) w fun h w=>
 bC .add 3 13 1 x13 w fun i w=>
 E1 h i w) (
 f91_k1 K x3 w)
theorem f91_l1_rule (x3 x11 x12 x13:Value) (K:K1) (w:World) (I:VP2) (μ:Value→Value→World→Nat) (h0:I x3 x13 w)
  (hr:∀(x3 x13:Value) (w:World),I x3 x13 w→∀E1:VP2,(∀(y3 y13:Value) (w':World),I y3 y13 w'→μ y3 y13 w'<μ x3 x13 w→E1 y3 y13 w')→f91_l1_t x3 x11 x12 x13 K E1 w):f91_l1 K x3 x11 x12 x13 w:=
 ⟨I,μ,h0,fun σ w hI E hE=>cast kR (hr (σ 3) (σ 13) w hI E hE)⟩
def f91_t (x0:Value) (K:K1) (w:World):Prop:=
 bM .eql 107 (.tmp 6) (.const (.pointer none)) x0 (.pointer none) w fun a w=>
 cndS a (
 K (.slice none 0 0) w) (
 nS x0 w fun b w=>
 fA 212 b 1 w fun c w=>
 lD 210 c w fun d w=>
 lN 210 d w fun e w=>
 f91_l1 K (.slice none 0 0) d e (.int .i64 0) w)
theorem f91_call (x0:Value) (K:K1) (w:World) (h:f91_t x0 K w):callS prog 91 #[x0] w K:=
 call_of_txt (args:= [x0]) mixed Tryz.func91 f91_u.2 kR (cast kR h)
noncomputable def f92_u:Code×Dec:=((Tryz.f92.body).getD .skip,(.s .o (.s .o (.s .o (.x 8 (.s .o (.b (.l [3,13] 6144 8380456 (.s .o (.s .o (.x 14344 .o .o)))))) .o)))))
abbrev f92_e (K:K1):KF:=endK prog Tryz.f92.results.toList K
def f92_k1_o (K:K1):KF:=fun fr w=>∀σ,cP (pr (pr (pr (pr f92_u)))) (f92_e K) (f92_e K) nX (mixF 8 σ 0 fr) w
def f92_k1 (K:K1) (x3:Value) (w:World):Prop:=f92_k1_o K (fz 24 0 [(3,x3)]) w
def f92_l1 (K:K1) (x3 x11 x12 x13:Value) (w:World):Prop:=loopT [3,13] 6144 (fun E=>cP (pl (pl (pr (pl (pr (pr (pr f92_u))))))) E (f92_e K) (exB 0 (f92_k1_o K) nX)) (fz 24 0 [(3,x3),(11,x11),(12,x12),(13,x13)]) w
def f92_k2_o (K:K1) (E1:VP2):KF:=fun fr w=>∀σ,cP (pr (pr (pr (pl (pl (pr (pl (pr (pr (pr f92_u)))))))))) (fun fr w=>E1 (sv fr 3) (sv fr 13) w) (f92_e K) (exB 0 (f92_k1_o K) nX) (mixF 14344 σ 0 fr) w
def f92_k2 (K:K1) (E1:VP2) (x3 x11 x12 x13:Value) (w:World):Prop:=f92_k2_o K E1 (fz 24 0 [(3,x3),(11,x11),(12,x12),(13,x13)]) w
def f92_k1_t (x3:Value) (K:K1) (w:World):Prop:=
 K x3 w
theorem f92_k1_eq (K:K1) (x3:Value) (w:World):f92_k1 K x3 w=f92_k1_t x3 K w:=cutE fun σ=>by kernel_rfl
def f92_l1_t (x3 x11 x12 x13:Value) (K:K1) (E1:VP2) (w:World):Prop:=
 bT .lss 3 13 12 x13 x12 w fun a w=>
 cndS a (
 iA 210 x11 x13 w fun b w=>
 lD 195 b w fun c w=>
 ev prog (Instr.alloc 195 true (.tuple #[])) w fun d w=>
 sD 195 d c w fun w=>
 fA 195 d 1 w fun e w=>
 lD 3 e w fun f w=>
 bC .lss 3 18 0 f w fun g w=>
 cndS g (
 bC .add 3 20 1 x3 w fun h w=>
 f92_k2 K E1 h x11 x12 x13 w) (
 f92_k2 K E1 x3 x11 x12 x13 w)) (
 f92_k1 K x3 w)
theorem f92_l1_rule (x3 x11 x12 x13:Value) (K:K1) (w:World) (I:VP2) (μ:Value→Value→World→Nat) (h0:I x3 x13 w)
  (hr:∀(x3 x13:Value) (w:World),I x3 x13 w→∀E1:VP2,(∀(y3 y13:Value) (w':World),I y3 y13 w'→μ y3 y13 w'<μ x3 x13 w→E1 y3 y13 w')→f92_l1_t x3 x11 x12 x13 K E1 w):f92_l1 K x3 x11 x12 x13 w:=
 ⟨I,μ,h0,fun σ w hI E hE=>cast kR (hr (σ 3) (σ 13) w hI E hE)⟩
def f92_k2_t (x3 x11 x12 x13:Value) (K:K1) (E1:VP2) (w:World):Prop:=
 bC .add 3 13 1 x13 w fun a w=>
 E1 x3 a w
theorem f92_k2_eq (K:K1) (E1:VP2) (x3 x11 x12 x13:Value) (w:World):f92_k2 K E1 x3 x11 x12 x13 w=f92_k2_t x3 x11 x12 x13 K E1 w:=cutE fun σ=>by kernel_rfl
def f92_t (x0:Value) (K:K1) (w:World):Prop:=
 bM .eql 107 (.tmp 6) (.const (.pointer none)) x0 (.pointer none) w fun a w=>
 cndS a (
 K (.int .i64 0) w) (
 nS x0 w fun b w=>
 fA 212 b 1 w fun c w=>
 lD 210 c w fun d w=>
 lN 210 d w fun e w=>
 f92_l1 K (.int .i64 0) d e (.int .i64 0) w)
theorem f92_call (x0:Value) (K:K1) (w:World) (h:f92_t x0 K w):callS prog 92 #[x0] w K:=
 call_of_txt (args:= [x0]) mixed Tryz.func92 f92_u.2 kR (cast kR h)
noncomputable def f114_u:Code×Dec:=((Tryz.f114.body).getD .skip,(.s .o (.s .o (.s .o (.x 1 (.s .o (.b (.l [24] 8388611 35184355315520 .o))) .o)))))
abbrev f114_e (K:K1):KF:=endK prog Tryz.f114.results.toList K
def f114_k1_o (K:K1):KF:=fun fr w=>∀σ,cP (pr (pr (pr (pr f114_u)))) (f114_e K) (f114_e K) nX (mixF 1 σ 0 fr) w
def f114_k1 (K:K1) (x0:Value) (w:World):Prop:=f114_k1_o K (fz 47 0 [(0,x0)]) w
def f114_l1 (K:K1) (x0 x1 x23 x24:Value) (w:World):Prop:=loopT [24] 8388611 (fun E=>cP (pl (pl (pr (pl (pr (pr (pr f114_u))))))) E (f114_e K) (exB 0 (f114_k1_o K) nX)) (fz 47 0 [(0,x0),(1,x1),(23,x23),(24,x24)]) w
def f114_k1_t (x0:Value) (K:K1) (w:World):Prop:=
 invS prog x0 "Err" (pA #[]) w fun a w=>
 K a w
theorem f114_k1_eq (K:K1) (x0:Value) (w:World):f114_k1 K x0 w=f114_k1_t x0 K w:=cutE fun σ=>by kernel_rfl
def f114_l1_t (x0 x1 x23 x24:Value) (K:K1) (E1:VP1) (w:World):Prop:=
 bT .lss 3 24 23 x24 x23 w fun a w=>
 cndS a (
 bC .mul 3 29 32 x24 w fun b w=>
 bT .add 3 28 30 x1 b w fun c w=>
 cL 155 (pA #[c,(.int .u16 ((1:Nat):Int))]) w fun d w=>
 eX d 0 w fun e w=>
 eX d 1 w fun f w=>
 bC .neq 28 35 0 f w fun g w=>
 cndS g (
 K f w) (
 cL 99 (pA #[e,x0]) w fun h w=>
 bC .neq 28 41 0 h w fun i w=>
 cndS i (
 K h w) (
 bC .add 3 24 1 x24 w fun j w=>
 E1 j w))) (
 f114_k1 K x0 w)
theorem f114_l1_rule (x0 x1 x23 x24:Value) (K:K1) (w:World) (I:VP1) (μ:Value→World→Nat) (h0:I x24 w)
  (hr:∀(x24:Value) (w:World),I x24 w→∀E1:VP1,(∀(y24:Value) (w':World),I y24 w'→μ y24 w'<μ x24 w→E1 y24 w')→f114_l1_t x0 x1 x23 x24 K E1 w):f114_l1 K x0 x1 x23 x24 w:=
 ⟨I,μ,h0,fun σ w hI E hE=>cast kR (hr (σ 24) w hI E hE)⟩
def f114_t (x0 x1 x2:Value) (K:K1) (w:World):Prop:=
 cL 154 (pA #[x0,x1,x2]) w fun a w=>
 ev prog (Op.unary .not a) w fun b w=>
 cndS b (
 K (.int .i64 1) w) (
 invS prog x0 "Err" (pA #[]) w fun c w=>
 bC .neq 28 19 0 c w fun d w=>
 cndS d (
 K c w) (
 bC .quo 3 22 32 x2 w fun e w=>
 f114_l1 K x0 x1 e (.int .i64 0) w))
theorem f114_call (x0 x1 x2:Value) (K:K1) (w:World) (h:f114_t x0 x1 x2 K w):callS prog 114 #[x0,x1,x2] w K:=
 call_of_txt (args:= [x0,x1,x2]) mixed Tryz.func114 f114_u.2 kR (cast kR h)
noncomputable def f115_u:Code×Dec:=((Tryz.f115.body).getD .skip,(.s .o (.s .o (.s .o (.x 128 (.s .o (.b (.l [7,25] 25165830 35184338535040 (.s .o (.s .o (.x 58720390 .o .o)))))) .o)))))
abbrev f115_e (K:K1):KF:=endK prog Tryz.f115.results.toList K
def f115_k1_o (K:K1):KF:=fun fr w=>∀σ,cP (pr (pr (pr (pr f115_u)))) (f115_e K) (f115_e K) nX (mixF 128 σ 0 fr) w
def f115_k1 (K:K1) (x7:Value) (w:World):Prop:=f115_k1_o K (fz 46 0 [(7,x7)]) w
def f115_l1 (K:K1) (x1 x2 x7 x23 x24 x25:Value) (w:World):Prop:=loopT [7,25] 25165830 (fun E=>cP (pl (pl (pr (pl (pr (pr (pr f115_u))))))) E (f115_e K) (exB 0 (f115_k1_o K) nX)) (fz 46 0 [(1,x1),(2,x2),(7,x7),(23,x23),(24,x24),(25,x25)]) w
def f115_k2_o (K:K1) (E1:VP2):KF:=fun fr w=>∀σ,cP (pr (pr (pr (pl (pl (pr (pl (pr (pr (pr f115_u)))))))))) (fun fr w=>E1 (sv fr 7) (sv fr 25) w) (f115_e K) (exB 0 (f115_k1_o K) nX) (mixF 58720390 σ 0 fr) w
def f115_k2 (K:K1) (E1:VP2) (x1 x2 x7 x23 x24 x25:Value) (w:World):Prop:=f115_k2_o K E1 (fz 46 0 [(1,x1),(2,x2),(7,x7),(23,x23),(24,x24),(25,x25)]) w
def f115_k1_t (x7:Value) (K:K1) (w:World):Prop:=
 K x7 w
theorem f115_k1_eq (K:K1) (x7:Value) (w:World):f115_k1 K x7 w=f115_k1_t x7 K w:=cutE fun σ=>by kernel_rfl
def f115_l1_t (x1 x2 x7 x23 x24 x25:Value) (K:K1) (E1:VP2) (w:World):Prop:=
 bT .lss 3 25 24 x25 x24 w fun a w=>
 cndS a (
 iA 210 x23 x25 w fun b w=>
 lD 195 b w fun c w=>
 ev prog (Instr.alloc 195 true (.tuple #[])) w fun d w=>
 sD 195 d c w fun w=>
 fA 195 d 2 w fun e w=>
 lD 3 e w fun f w=>
 bT .eql 3 30 31 f x1 w fun g w=>
 gd g true (fun k=>fA 195 d 1 w k) w fun h w=>
 gd g true (fun k=>lD 3 h w k) w fun i w=>
 gV g true x2 w fun j w=>
 gd g true (fun k=>bT .eql 3 35 36 i j w k) w fun l w=>
 pickS g l (.bool false) w fun m w=>
 cndS m (
 fA 195 d 0 w fun n w=>
 lD 3 n w fun o w=>
 ev prog (Instr.buildSlice 50 1 #[(0,o)]) w fun p w=>
 bltS prog .append #[50,50] 50 #[false,false] (pA #[x7,p]) w fun q w=>
 f115_k2 K E1 x1 x2 q x23 x24 x25 w) (
 f115_k2 K E1 x1 x2 x7 x23 x24 x25 w)) (
 f115_k1 K x7 w)
theorem f115_l1_rule (x1 x2 x7 x23 x24 x25:Value) (K:K1) (w:World) (I:VP2) (μ:Value→Value→World→Nat) (h0:I x7 x25 w)
  (hr:∀(x7 x25:Value) (w:World),I x7 x25 w→∀E1:VP2,(∀(y7 y25:Value) (w':World),I y7 y25 w'→μ y7 y25 w'<μ x7 x25 w→E1 y7 y25 w')→f115_l1_t x1 x2 x7 x23 x24 x25 K E1 w):f115_l1 K x1 x2 x7 x23 x24 x25 w:=
 ⟨I,μ,h0,fun σ w hI E hE=>cast kR (hr (σ 7) (σ 25) w hI E hE)⟩
def f115_k2_t (x1 x2 x7 x23 x24 x25:Value) (K:K1) (E1:VP2) (w:World):Prop:=
 bC .add 3 25 1 x25 w fun a w=>
 E1 x7 a w
theorem f115_k2_eq (K:K1) (E1:VP2) (x1 x2 x7 x23 x24 x25:Value) (w:World):f115_k2 K E1 x1 x2 x7 x23 x24 x25 w=f115_k2_t x1 x2 x7 x23 x24 x25 K E1 w:=cutE fun σ=>by kernel_rfl
def f115_t (x0 x1 x2:Value) (K:K1) (w:World):Prop:=
 bM .eql 107 (.tmp 10) (.const (.pointer none)) x0 (.pointer none) w fun a w=>
 gV a false x1 w fun b w=>
 gd a false (fun k=>bC .lss 3 13 0 b w k) w fun c w=>
 pickS a (.bool true) c w fun d w=>
 gV d false x2 w fun e w=>
 gd d false (fun k=>bC .lss 3 17 0 e w k) w fun f w=>
 pickS d (.bool true) f w fun g w=>
 cndS g (
 K (.slice none 0 0) w) (
 nS x0 w fun h w=>
 fA 212 h 1 w fun i w=>
 lD 210 i w fun j w=>
 lN 210 j w fun l w=>
 f115_l1 K x1 x2 (.slice none 0 0) j l (.int .i64 0) w)
theorem f115_call (x0 x1 x2:Value) (K:K1) (w:World) (h:f115_t x0 x1 x2 K w):callS prog 115 #[x0,x1,x2] w K:=
 call_of_txt (args:= [x0,x1,x2]) mixed Tryz.func115 f115_u.2 kR (cast kR h)
noncomputable def f116_u:Code×Dec:=((Tryz.f116.body).getD .skip,(.s .o (.s .o (.s .o (.s .o (.s .o (.s .o (.x 3591 .o .o))))))))
abbrev f116_e (K:K1):KF:=endK prog Tryz.f116.results.toList K
def f116_k1_o (K:K1):KF:=fun fr w=>∀σ,cP (pr (pr (pr (pr (pr (pr (pr f116_u))))))) (f116_e K) (f116_e K) nX (mixF 3591 σ 0 fr) w
def f116_k1 (K:K1) (x0 x1 x2 x9 x10 x11:Value) (w:World):Prop:=f116_k1_o K (fz 95 0 [(0,x0),(1,x1),(2,x2),(9,x9),(10,x10),(11,x11)]) w
def f116_k1_t (x0 x1 x2 x9 x10 x11:Value) (K:K1) (w:World):Prop:=
 bC .neq 28 55 0 x10 w fun a w=>
 cndS a (
 K (.tuple #[(.int .i64 0),x10]) w) (
 nR x9 w.drew fun b=>
 fR 195 b 0 w.drew fun c=>
 lR 3 c w.drew fun d=>
 fR 132 x11 2 w.drew fun e=>
 lR 130 e w.drew fun f=>
 rd prog (Instr.build 132 #[(0,x2),(1,x1),(2,f)]) w.drew fun g=>
 cL 118 (pA #[d,g]) w.drew fun h w=>
 xR h 0 w fun i=>
 xR h 1 w fun j=>
 bC .neq 28 71 0 j w fun l w=>
 cndS l (
 K (.tuple #[(.int .i64 0),j]) w) (
 nS x0 w fun m w=>
 fA 212 m 0 w fun n w=>
 lD 106 n w fun o w=>
 cL 99 (pA #[i,o]) w fun p w=>
 bC .neq 28 80 0 p w fun q w=>
 cndS q (
 K (.tuple #[(.int .i64 0),p]) w) (
 nS x9 w fun s w=>
 fA 195 s 1 w fun t w=>
 sD 3 t x2 w fun w=>
 nS x9 w fun v w=>
 fA 195 v 2 w fun y w=>
 sD 3 y x1 w fun w=>
 nS x9 w fun z w=>
 fA 195 z 0 w fun a0 w=>
 lD 3 a0 w fun a1 w=>
 K (.tuple #[a1,(.int .i64 0)]) w)))
theorem f116_k1_eq (K:K1) (x0 x1 x2 x9 x10 x11:Value) (w:World):f116_k1 K x0 x1 x2 x9 x10 x11 w=f116_k1_t x0 x1 x2 x9 x10 x11 K w:=cutE fun σ=>by kernel_rfl
def f116_t (x0 x1 x2:Value) (K:K1) (w:World):Prop:=
 bM .eql 107 (.tmp 14) (.const (.pointer none)) x0 (.pointer none) w fun a w=>
 cndS a (
 K (.tuple #[(.int .i64 0),(.int .i64 5)]) w) (
 bC .lss 3 16 0 x1 w fun b w=>
 gV b false x1 w fun c w=>
 gd b false (fun k=>bC .geq 3 19 8 c w k) w fun d w=>
 pickS b (.bool true) d w fun e w=>
 gV e false x2 w fun f w=>
 gC e false 135 (pA #[f]) w fun g w=>
 gd e false (fun k=>bC .eql 3 24 0 g w k) w fun h w=>
 pickS e (.bool true) h w fun i w=>
 cndS i (
 K (.tuple #[(.int .i64 0),(.int .i64 1)]) w) (
 nS x0 w fun j w=>
 fA 212 j 0 w fun l w=>
 lD 106 l w fun m w=>
 invS prog m "Err" (pA #[]) w fun n w=>
 bC .neq 28 32 0 n w fun o w=>
 cndS o (
 K (.tuple #[(.int .i64 0),n]) w) (
 cL 156 (pA #[x0]) w fun p w=>
 eX p 0 w fun q w=>
 eX p 1 w fun s w=>
 bC .neq 28 40 0 s w fun t w=>
 cndS t (
 K (.tuple #[(.int .i64 0),s]) w) (
 nR x0 w.drew fun v=>
 fR 212 v 0 w.drew fun y=>
 lR 106 y w.drew fun z=>
 nR q w.drew fun a0=>
 fR 195 a0 0 w.drew fun a1=>
 lR 3 a1 w.drew fun a2=>
 (cL 129 (pA #[z,a2]) w.drew fun a3 w=>
 xR a3 0 w fun a4=>
 xR a3 1 w fun a5=>
 ev prog (Instr.alloc 132 true (.tuple #[])) w fun a6 w=>
 (nilR prog x0 w (fun u=>u=v))∧
 (fG 212 v 0 w y)∧
 (lG 106 y w z)∧
 (nilR prog q w (fun u=>u=a0))∧
 (fG 195 a0 0 w a1)∧
 (lG 3 a1 w a2)∧
 sD 132 a6 a4 w fun w=>
 f116_k1 K x0 x1 x2 q a5 a6 w)∧
 (ev prog (Instr.alloc 132 true (.tuple #[])) w.drew fun a7 w=>
 (nilR prog x0 w (fun u=>u=v))∧
 (fG 212 v 0 w y)∧
 (lG 106 y w z)∧
 (nilR prog q w (fun u=>u=a0))∧
 (fG 195 a0 0 w a1)∧
 (lG 3 a1 w a2)∧
 cL 129 (pA #[z,a2]) w fun a8 w=>
 xR a8 0 w fun a9=>
 xR a8 1 w fun b0=>
 sD 132 a7 a9 w fun w=>
 f116_k1 K x0 x1 x2 q b0 a7 w)))))
theorem f116_call (x0 x1 x2:Value) (K:K1) (w:World) (h:f116_t x0 x1 x2 K w):callS prog 116 #[x0,x1,x2] w K:=
 call_of_txt (args:= [x0,x1,x2]) mixed Tryz.func116 f116_u.2 kR (cast kR h)
noncomputable def f120_u:Code×Dec:=((Tryz.f120.body).getD .skip,(.s .o (.s .o (.s .o (.s .o (.x 512 (.s .o (.b (.l [29] 268435971 2305843008676838592 .o))) .o))))))
abbrev f120_e (K:K1):KF:=endK prog Tryz.f120.results.toList K
def f120_k1_o (K:K1):KF:=fun fr w=>∀σ,cP (pr (pr (pr (pr (pr f120_u))))) (f120_e K) (f120_e K) nX (mixF 512 σ 0 fr) w
def f120_k1 (K:K1) (x9:Value) (w:World):Prop:=f120_k1_o K (fz 62 0 [(9,x9)]) w
def f120_l1 (K:K1) (x0 x1 x9 x28 x29:Value) (w:World):Prop:=loopT [29] 268435971 (fun E=>cP (pl (pl (pr (pl (pr (pr (pr (pr f120_u)))))))) E (f120_e K) (exB 0 (f120_k1_o K) nX)) (fz 62 0 [(0,x0),(1,x1),(9,x9),(28,x28),(29,x29)]) w
def f120_k1_t (x9:Value) (K:K1) (w:World):Prop:=
 K (.tuple #[x9,(.int .i64 0)]) w
theorem f120_k1_eq (K:K1) (x9:Value) (w:World):f120_k1 K x9 w=f120_k1_t x9 K w:=cutE fun σ=>by kernel_rfl
def f120_l1_t (x0 x1 x9 x28 x29:Value) (K:K1) (E1:VP1) (w:World):Prop:=
 bT .lss 3 29 28 x29 x28 w fun a w=>
 cndS a (
 bC .mul 3 33 32 x29 w fun b w=>
 bT .add 3 32 34 x1 b w fun c w=>
 cL 129 (pA #[x0,c]) w fun d w=>
 eX d 0 w fun e w=>
 eX d 1 w fun f w=>
 ev prog (Instr.alloc 132 true (.tuple #[])) w fun g w=>
 sD 132 g e w fun w=>
 bC .neq 28 42 0 f w fun h w=>
 cndS h (
 K (.tuple #[(.pointer none),f]) w) (
 nR x9 w.drew fun i=>
 fR 212 i 1 w.drew fun j=>
 lR 210 j w.drew fun l=>
 fR 132 g 0 w.drew fun m=>
 lR 3 m w.drew fun n=>
 fR 132 g 1 w.drew fun o=>
 lR 3 o w.drew fun p=>
 rd prog (Instr.build 195 #[(0,c),(1,n),(2,p)]) w.drew fun q=>
 ev prog (Instr.buildSlice 210 1 #[(0,q)]) w.drew fun s w=>
 (nilR prog x9 w (fun u=>u=i))∧
 (fG 212 i 1 w j)∧
 (lG 210 j w l)∧
 bltS prog .append #[210,210] 210 #[false,false] (pA #[l,s]) w fun t w=>
 nR x9 w fun v=>
 fR 212 v 1 w fun y=>
 sD 210 y t w fun w=>
 bC .add 3 29 1 x29 w fun z w=>
 E1 z w)) (
 f120_k1 K x9 w)
theorem f120_l1_rule (x0 x1 x9 x28 x29:Value) (K:K1) (w:World) (I:VP1) (μ:Value→World→Nat) (h0:I x29 w)
  (hr:∀(x29:Value) (w:World),I x29 w→∀E1:VP1,(∀(y29:Value) (w':World),I y29 w'→μ y29 w'<μ x29 w→E1 y29 w')→f120_l1_t x0 x1 x9 x28 x29 K E1 w):f120_l1 K x0 x1 x9 x28 x29 w:=
 ⟨I,μ,h0,fun σ w hI E hE=>cast kR (hr (σ 29) w hI E hE)⟩
def f120_t (x0 x1 x2:Value) (K:K1) (w:World):Prop:=
 cL 154 (pA #[x0,x1,x2]) w fun a w=>
 ev prog (Op.unary .not a) w fun b w=>
 cndS b (
 K (.tuple #[(.pointer none),(.int .i64 1)]) w) (
 invS prog x0 "Err" (pA #[]) w fun c w=>
 bC .neq 28 21 0 c w fun d w=>
 cndS d (
 K (.tuple #[(.pointer none),c]) w) (
 ev prog (Instr.build 212 #[(0,x0)]) w fun e w=>
 ev prog (Instr.box 212 e) w fun f w=>
 bC .quo 3 27 32 x2 w fun g w=>
 f120_l1 K x0 x1 f g (.int .i64 0) w))
theorem f120_call (x0 x1 x2:Value) (K:K1) (w:World) (h:f120_t x0 x1 x2 K w):callS prog 120 #[x0,x1,x2] w K:=
 call_of_txt (args:= [x0,x1,x2]) mixed Tryz.func120 f120_u.2 kR (cast kR h)
noncomputable def f124_u:Code×Dec:=((Tryz.f124.body).getD .skip,(.s .o (.s .o (.x 0 (.s .o (.b (.l [13] 4099 8589926448 .o))) .o))))
abbrev f124_e (K:K1):KF:=endK prog Tryz.f124.results.toList K
def f124_k1_o (K:K1):KF:=fun fr w=>∀σ,cP (pr (pr (pr f124_u))) (f124_e K) (f124_e K) nX (mixF 0 σ 0 fr) w
def f124_k1 (K:K1) (w:World):Prop:=f124_k1_o K (fz 33 0 []) w
def f124_l1 (K:K1) (x0 x1 x12 x13:Value) (w:World):Prop:=loopT [13] 4099 (fun E=>cP (pl (pl (pr (pl (pr (pr f124_u)))))) E (f124_e K) (exB 0 (f124_k1_o K) nX)) (fz 33 0 [(0,x0),(1,x1),(12,x12),(13,x13)]) w
def f124_l1_t (x0 x1 x12 x13:Value) (K:K1) (E1:VP1) (w:World):Prop:=
 bT .lss 3 13 12 x13 x12 w fun a w=>
 cndS a (
 nS x0 w fun b w=>
 fA 212 b 1 w fun c w=>
 lD 210 c w fun d w=>
 iA 210 d x13 w fun e w=>
 fA 195 e 0 w fun f w=>
 lD 3 f w fun g w=>
 bT .eql 3 23 24 g x1 w fun h w=>
 cndS h (
 nS x0 w fun i w=>
 fA 212 i 1 w fun j w=>
 lD 210 j w fun l w=>
 iA 210 l x13 w fun m w=>
 K m w) (
 bC .add 3 13 1 x13 w fun n w=>
 E1 n w)) (
 f124_k1 K w)
theorem f124_l1_rule (x0 x1 x12 x13:Value) (K:K1) (w:World) (I:VP1) (μ:Value→World→Nat) (h0:I x13 w)
  (hr:∀(x13:Value) (w:World),I x13 w→∀E1:VP1,(∀(y13:Value) (w':World),I y13 w'→μ y13 w'<μ x13 w→E1 y13 w')→f124_l1_t x0 x1 x12 x13 K E1 w):f124_l1 K x0 x1 x12 x13 w:=
 ⟨I,μ,h0,fun σ w hI E hE=>cast kR (hr (σ 13) w hI E hE)⟩
def f124_t (x0 x1:Value) (K:K1) (w:World):Prop:=
 bM .eql 107 (.tmp 6) (.const (.pointer none)) x0 (.pointer none) w fun a w=>
 cndS a (
 K (.pointer none) w) (
 nS x0 w fun b w=>
 fA 212 b 1 w fun c w=>
 lD 210 c w fun d w=>
 lN 210 d w fun e w=>
 f124_l1 K x0 x1 e (.int .i64 0) w)
theorem f124_call (x0 x1:Value) (K:K1) (w:World) (h:f124_t x0 x1 K w):callS prog 124 #[x0,x1] w K:=
 call_of_txt (args:= [x0,x1]) mixed Tryz.func124 f124_u.2 kR (cast kR h)
noncomputable def f127_u:Code×Dec:=((Tryz.f127.body).getD .skip,(.s .o (.s .o (.x 8 (.s .o (.b (.l [3,8] 192 4194088 (.s .o (.s .o (.x 456 (.b (.s .o (.s .o (.b (.l [3,5,12] 448 2093096 .o))))) .o)))))) .o))))
abbrev f127_e (K:K1):KF:=endK prog Tryz.f127.results.toList K
def f127_k1_o (K:K1):KF:=fun fr w=>∀σ,cP (pr (pr (pr f127_u))) (f127_e K) (f127_e K) nX (mixF 8 σ 0 fr) w
def f127_k1 (K:K1) (x3:Value) (w:World):Prop:=f127_k1_o K (fz 24 0 [(3,x3)]) w
def f127_l1 (K:K1) (x3 x6 x7 x8:Value) (w:World):Prop:=loopT [3,8] 192 (fun E=>cP (pl (pl (pr (pl (pr (pr f127_u)))))) E (f127_e K) (exB 0 (f127_k1_o K) nX)) (fz 24 0 [(3,x3),(6,x6),(7,x7),(8,x8)]) w
def f127_k2_o (K:K1) (E1:VP2):KF:=fun fr w=>∀σ,cP (pr (pr (pr (pl (pl (pr (pl (pr (pr f127_u))))))))) (fun fr w=>E1 (sv fr 3) (sv fr 8) w) (f127_e K) (exB 0 (f127_k1_o K) nX) (mixF 456 σ 0 fr) w
def f127_k2 (K:K1) (E1:VP2) (x3 x6 x7 x8:Value) (w:World):Prop:=f127_k2_o K E1 (fz 24 0 [(3,x3),(6,x6),(7,x7),(8,x8)]) w
def f127_l2 (K:K1) (E1:VP2) (x3 x5 x6 x7 x8 x12:Value) (w:World):Prop:=loopT [3,5,12] 448 (fun E=>cP (pl (pl (pr (pr (pl (pl (pr (pr (pl (pl (pr (pl (pr (pr f127_u)))))))))))))) E (f127_e K) (exB 2 (f127_k2_o K E1) (exB 1 (f127_k2_o K E1) (exB 0 (f127_k1_o K) nX)))) (fz 24 0 [(3,x3),(5,x5),(6,x6),(7,x7),(8,x8),(12,x12)]) w
def f127_k1_t (x3:Value) (K:K1) (w:World):Prop:=
 ev prog (Op.unary .xor x3) w fun a w=>
 K a w
theorem f127_k1_eq (K:K1) (x3:Value) (w:World):f127_k1 K x3 w=f127_k1_t x3 K w:=cutE fun σ=>by kernel_rfl
def f127_l1_t (x3 x6 x7 x8:Value) (K:K1) (E1:VP2) (w:World):Prop:=
 bT .lss 3 8 7 x8 x7 w fun a w=>
 cndS a (
 iA 58 x6 x8 w fun b w=>
 lD 26 b w fun c w=>
 f127_l2 K E1 x3 c x6 x7 x8 (.int .i64 0) w) (
 f127_k1 K x3 w)
theorem f127_l1_rule (x3 x6 x7 x8:Value) (K:K1) (w:World) (I:VP2) (μ:Value→Value→World→Nat) (h0:I x3 x8 w)
  (hr:∀(x3 x8:Value) (w:World),I x3 x8 w→∀E1:VP2,(∀(y3 y8:Value) (w':World),I y3 y8 w'→μ y3 y8 w'<μ x3 x8 w→E1 y3 y8 w')→f127_l1_t x3 x6 x7 x8 K E1 w):f127_l1 K x3 x6 x7 x8 w:=
 ⟨I,μ,h0,fun σ w hI E hE=>cast kR (hr (σ 3) (σ 8) w hI E hE)⟩
def f127_k2_t (x3 x6 x7 x8:Value) (K:K1) (E1:VP2) (w:World):Prop:=
 bC .add 3 8 1 x8 w fun a w=>
 E1 x3 a w
theorem f127_k2_eq (K:K1) (E1:VP2) (x3 x6 x7 x8:Value) (w:World):f127_k2 K E1 x3 x6 x7 x8 w=f127_k2_t x3 x6 x7 x8 K E1 w:=cutE fun σ=>by kernel_rfl
def f127_l2_t (x3 x5 x6 x7 x8 x12:Value) (K:K1) (E1:VP2) (E2:VP3) (w:World):Prop:=
 bC .lss 3 12 8 x12 w fun a w=>
 cndS a (
 cV 26 5 x5 w fun b w=>
 cL 174 (pA #[x3,b]) w fun c w=>
 bU .shr 26 18 .u64 8 x5 w fun d w=>
 bC .add 3 12 1 x12 w fun e w=>
 E2 c d e w) (
 f127_k2 K E1 x3 x6 x7 x8 w)
theorem f127_l2_rule (x3 x5 x6 x7 x8 x12:Value) (K:K1) (E1:VP2) (w:World) (I:VP3) (μ:Value→Value→Value→World→Nat) (h0:I x3 x5 x12 w)
  (hr:∀(x3 x5 x12:Value) (w:World),I x3 x5 x12 w→∀E2:VP3,(∀(y3 y5 y12:Value) (w':World),I y3 y5 y12 w'→μ y3 y5 y12 w'<μ x3 x5 x12 w→E2 y3 y5 y12 w')→f127_l2_t x3 x5 x6 x7 x8 x12 K E1 E2 w):f127_l2 K E1 x3 x5 x6 x7 x8 x12 w:=
 ⟨I,μ,h0,fun σ w hI E hE=>cast kR (hr (σ 3) (σ 5) (σ 12) w hI E hE)⟩
def f127_t (x0:Value) (K:K1) (w:World):Prop:=
 lN 58 x0 w fun a w=>
 f127_l1 K (.int .u32 ((4294967295:Nat):Int)) x0 a (.int .i64 0) w
theorem f127_call (x0:Value) (K:K1) (w:World) (h:f127_t x0 K w):callS prog 127 #[x0] w K:=
 call_of_txt (args:= [x0]) mixed Tryz.func127 f127_u.2 kR (cast kR h)
def f152_t (x0 x1:Value) (K:K1) (w:World):Prop:=
 cL 124 (pA #[x0,x1]) w fun a w=>
 bM .neq 192 (.tmp 9) (.const (.pointer none)) a (.pointer none) w fun b w=>
 cndS b (
 nS a w fun c w=>
 fA 195 c 2 w fun d w=>
 lD 3 d w fun e w=>
 K e w) (
 K (.int .i64 (-1)) w)
theorem f152_call (x0 x1:Value) (K:K1) (w:World) (h:f152_t x0 x1 K w):callS prog 152 #[x0,x1] w K:=
 call_of_txt (args:= [x0,x1]) mixed Tryz.func152 .o kR (cast kR h)
def f154_t (x0 x1 x2:Value) (K:K1) (w:World):Prop:=
 bM .eql 106 (.tmp 8) (.const .nilIface) x0 .nilIface w fun a w=>
 gV a false x1 w fun b w=>
 gd a false (fun k=>bC .lss 3 11 0 b w k) w fun c w=>
 pickS a (.bool true) c w fun d w=>
 gV d false x2 w fun e w=>
 gd d false (fun k=>bC .lss 3 15 32 e w k) w fun f w=>
 pickS d (.bool true) f w fun g w=>
 cndS g (
 K (.bool false) w) (
 invS prog x0 "Size" (pA #[]) w fun h w=>
 bU .quo 26 19 .u64 64 h w fun i w=>
 cV 3 26 x1 w fun j w=>
 bT .gtr 26 22 23 j i w fun l w=>
 gV l false x2 w fun m w=>
 gd l false (fun k=>cV 3 26 m w k) w fun n w=>
 gV l false i w fun o w=>
 gV l false x1 w fun p w=>
 gd l false (fun k=>cV 3 26 p w k) w fun q w=>
 gd l false (fun k=>bT .sub 26 28 30 o q w k) w fun s w=>
 gd l false (fun k=>bT .gtr 26 27 31 n s w k) w fun t w=>
 pickS l (.bool true) t w fun v w=>
 cndS v (
 K (.bool false) w) (
 cV 3 26 x1 w fun y w=>
 bC .quo 3 36 32 x2 w fun z w=>
 cV 3 26 z w fun a0 w=>
 bU .mul 26 38 .u64 32 a0 w fun a1 w=>
 bT .add 26 35 39 y a1 w fun a2 w=>
 bU .leq 26 40 .u64 4096 a2 w fun a3 w=>
 K a3 w))
theorem f154_call (x0 x1 x2:Value) (K:K1) (w:World) (h:f154_t x0 x1 x2 K w):callS prog 154 #[x0,x1,x2] w K:=
 call_of_txt (args:= [x0,x1,x2]) mixed Tryz.func154 .o kR (cast kR h)
noncomputable def f156_u:Code×Dec:=((Tryz.f156.body).getD .skip,(.s .o (.x 1 (.s .o (.b (.l [15] 16385 17179836444 .o))) (.x 1 (.s .o (.b (.l [39] 274877906945 2305842459457880556 .o))) .o))))
abbrev f156_e (K:K1):KF:=endK prog Tryz.f156.results.toList K
def f156_k1_o (K:K1):KF:=fun fr w=>∀σ,cP (pr (pr f156_u)) (f156_e K) (f156_e K) nX (mixF 1 σ 0 fr) w
def f156_k1 (K:K1) (x0:Value) (w:World):Prop:=f156_k1_o K (fz 69 0 [(0,x0)]) w
def f156_l1 (K:K1) (x0 x14 x15:Value) (w:World):Prop:=loopT [15] 16385 (fun E=>cP (pl (pl (pr (pl (pr f156_u))))) E (f156_e K) (exB 0 (f156_k1_o K) nX)) (fz 69 0 [(0,x0),(14,x14),(15,x15)]) w
def f156_k2_o (K:K1):KF:=fun fr w=>∀σ,cP (pr (pr (pr f156_u))) (f156_e K) (f156_e K) nX (mixF 1 σ 0 fr) w
def f156_k2 (K:K1) (x0:Value) (w:World):Prop:=f156_k2_o K (fz 69 0 [(0,x0)]) w
def f156_l2 (K:K1) (x0 x38 x39:Value) (w:World):Prop:=loopT [39] 274877906945 (fun E=>cP (pl (pl (pr (pl (pr (pr f156_u)))))) E (f156_e K) (exB 2 (f156_k2_o K) nX)) (fz 69 0 [(0,x0),(38,x38),(39,x39)]) w
def f156_k1_t (x0:Value) (K:K1) (w:World):Prop:=
 nS x0 w fun a w=>
 fA 212 a 1 w fun b w=>
 lD 210 b w fun c w=>
 lN 210 c w fun d w=>
 f156_l2 K x0 d (.int .i64 0) w
theorem f156_k1_eq (K:K1) (x0:Value) (w:World):f156_k1 K x0 w=f156_k1_t x0 K w:=cutE fun σ=>by kernel_rfl
def f156_l1_t (x0 x14 x15:Value) (K:K1) (E1:VP1) (w:World):Prop:=
 bT .lss 3 15 14 x15 x14 w fun a w=>
 cndS a (
 nS x0 w fun b w=>
 fA 212 b 1 w fun c w=>
 lD 210 c w fun d w=>
 iA 210 d x15 w fun e w=>
 fA 195 e 1 w fun f w=>
 lD 3 f w fun g w=>
 bC .lss 3 25 0 g w fun h w=>
 cndS h (
 nS x0 w fun i w=>
 fA 212 i 1 w fun j w=>
 lD 210 j w fun l w=>
 iA 210 l x15 w fun m w=>
 K (.tuple #[m,(.int .i64 0)]) w) (
 bC .add 3 15 1 x15 w fun n w=>
 E1 n w)) (
 f156_k1 K x0 w)
theorem f156_l1_rule (x0 x14 x15:Value) (K:K1) (w:World) (I:VP1) (μ:Value→World→Nat) (h0:I x15 w)
  (hr:∀(x15:Value) (w:World),I x15 w→∀E1:VP1,(∀(y15:Value) (w':World),I y15 w'→μ y15 w'<μ x15 w→E1 y15 w')→f156_l1_t x0 x14 x15 K E1 w):f156_l1 K x0 x14 x15 w:=
 ⟨I,μ,h0,fun σ w hI E hE=>cast kR (hr (σ 15) w hI E hE)⟩
def f156_k2_t (x0:Value) (K:K1) (w:World):Prop:=
 nS x0 w fun a w=>
 fA 212 a 0 w fun b w=>
 lD 106 b w fun c w=>
 invS prog c "Err" (pA #[]) w fun d w=>
 bC .neq 28 66 0 d w fun e w=>
 cndS e (
 K (.tuple #[(.pointer none),d]) w) (
 K (.tuple #[(.pointer none),(.int .i64 4)]) w)
theorem f156_k2_eq (K:K1) (x0:Value) (w:World):f156_k2 K x0 w=f156_k2_t x0 K w:=cutE fun σ=>by kernel_rfl
def f156_l2_t (x0 x38 x39:Value) (K:K1) (E1:VP1) (w:World):Prop:=
 bT .lss 3 39 38 x39 x38 w fun a w=>
 cndS a (
 nS x0 w fun b w=>
 fA 212 b 1 w fun c w=>
 lD 210 c w fun d w=>
 iA 210 d x39 w fun e w=>
 cL 183 (pA #[x0,e]) w fun f w=>
 eX f 0 w fun g w=>
 eX f 1 w fun h w=>
 cndS h (
 cL 184 (pA #[x0,e,g]) w fun i w=>
 K (.tuple #[e,i]) w) (
 bC .add 3 39 1 x39 w fun j w=>
 E1 j w)) (
 f156_k2 K x0 w)
theorem f156_l2_rule (x0 x38 x39:Value) (K:K1) (w:World) (I:VP1) (μ:Value→World→Nat) (h0:I x39 w)
  (hr:∀(x39:Value) (w:World),I x39 w→∀E1:VP1,(∀(y39:Value) (w':World),I y39 w'→μ y39 w'<μ x39 w→E1 y39 w')→f156_l2_t x0 x38 x39 K E1 w):f156_l2 K x0 x38 x39 w:=
 ⟨I,μ,h0,fun σ w hI E hE=>cast kR (hr (σ 39) w hI E hE)⟩
def f156_t (x0:Value) (K:K1) (w:World):Prop:=
 nS x0 w fun a w=>
 fA 212 a 1 w fun b w=>
 lD 210 b w fun c w=>
 lN 210 c w fun d w=>
 f156_l1 K x0 d (.int .i64 0) w
theorem f156_call (x0:Value) (K:K1) (w:World) (h:f156_t x0 K w):callS prog 156 #[x0] w K:=
 call_of_txt (args:= [x0]) mixed Tryz.func156 f156_u.2 kR (cast kR h)
noncomputable def f183_u:Code×Dec:=((Tryz.f183.body).getD .skip,(.s .o (.s .o (.x 194 .o .o))))
abbrev f183_e (K:K1):KF:=endK prog Tryz.f183.results.toList K
def f183_k1_o (K:K1):KF:=fun fr w=>∀σ,cP (pr (pr (pr f183_u))) (f183_e K) (f183_e K) nX (mixF 194 σ 0 fr) w
def f183_k1 (K:K1) (x1 x6 x7:Value) (w:World):Prop:=f183_k1_o K (fz 55 0 [(1,x1),(6,x6),(7,x7)]) w
def f183_k1_t (x1 x6 x7:Value) (K:K1) (w:World):Prop:=
 bC .neq 28 34 0 x7 w fun a w=>
 cndS a (
 K (.tuple #[(.slice none 0 0),(.bool false)]) w) (
 lD 134 x6 w fun b w=>
 cL 157 (pA #[b]) w fun c w=>
 eX c 0 w fun d w=>
 eX c 1 w fun e w=>
 ev prog (Op.unary .not e) w fun f w=>
 cndS f (
 K (.tuple #[(.slice none 0 0),(.bool false)]) w) (
 nS x1 w fun g w=>
 fA 195 g 0 w fun h w=>
 lD 3 h w fun i w=>
 cL 155 (pA #[i,d]) w fun j w=>
 eX j 0 w fun l w=>
 eX j 1 w fun m w=>
 bC .eql 28 53 0 m w fun n w=>
 K (.tuple #[l,n]) w))
theorem f183_k1_eq (K:K1) (x1 x6 x7:Value) (w:World):f183_k1 K x1 x6 x7 w=f183_k1_t x1 x6 x7 K w:=cutE fun σ=>by kernel_rfl
def f183_t (x0 x1:Value) (K:K1) (w:World):Prop:=
 nS x1 w fun a w=>
 fA 195 a 1 w fun b w=>
 lD 3 b w fun c w=>
 bC .lss 3 14 0 c w fun d w=>
 gV d false x1 w fun e w=>
 gd d false (fun k=>nS e w k) w fun f w=>
 gd d false (fun k=>fA 195 f 3 w k) w fun g w=>
 gd d false (fun k=>lD 4 g w k) w fun h w=>
 pickS d (.bool true) h w fun i w=>
 cndS i (
 K (.tuple #[(.slice none 0 0),(.bool false)]) w) (
 nR x0 w.drew fun j=>
 fR 212 j 0 w.drew fun l=>
 lR 106 l w.drew fun m=>
 nR x1 w.drew fun n=>
 fR 195 n 0 w.drew fun o=>
 lR 3 o w.drew fun p=>
 (cL 75 (pA #[m,p]) w.drew fun q w=>
 xR q 0 w fun s=>
 xR q 1 w fun t=>
 ev prog (Instr.alloc 134 true (.tuple #[])) w fun v w=>
 (nilR prog x0 w (fun u=>u=j))∧
 (fG 212 j 0 w l)∧
 (lG 106 l w m)∧
 (nilR prog x1 w (fun u=>u=n))∧
 (fG 195 n 0 w o)∧
 (lG 3 o w p)∧
 sD 134 v s w fun w=>
 f183_k1 K x1 v t w)∧
 (ev prog (Instr.alloc 134 true (.tuple #[])) w.drew fun y w=>
 (nilR prog x0 w (fun u=>u=j))∧
 (fG 212 j 0 w l)∧
 (lG 106 l w m)∧
 (nilR prog x1 w (fun u=>u=n))∧
 (fG 195 n 0 w o)∧
 (lG 3 o w p)∧
 cL 75 (pA #[m,p]) w fun z w=>
 xR z 0 w fun a0=>
 xR z 1 w fun a1=>
 sD 134 y a0 w fun w=>
 f183_k1 K x1 y a1 w))
theorem f183_call (x0 x1:Value) (K:K1) (w:World) (h:f183_t x0 x1 K w):callS prog 183 #[x0,x1] w K:=
 call_of_txt (args:= [x0,x1]) mixed Tryz.func183 f183_u.2 kR (cast kR h)
def f184_t (x0 x1 x2:Value) (K:K1) (w:World):Prop:=
 nS x0 w fun a w=>
 fA 212 a 0 w fun b w=>
 lD 106 b w fun c w=>
 cL 99 (pA #[x2,c]) w fun d w=>
 bC .neq 28 14 0 d w fun e w=>
 cndS e (
 K d w) (
 nS x1 w fun f w=>
 fA 195 f 1 w fun g w=>
 sD 3 g (.int .i64 (-1)) w fun w=>
 nS x1 w fun h w=>
 fA 195 h 2 w fun i w=>
 sD 3 i (.int .i64 (-1)) w fun w=>
 K (.int .i64 0) w)
theorem f184_call (x0 x1 x2:Value) (K:K1) (w:World) (h:f184_t x0 x1 x2 K w):callS prog 184 #[x0,x1,x2] w K:=
 call_of_txt (args:= [x0,x1,x2]) mixed Tryz.func184 .o kR (cast kR h)
def plL (f:Nat→Int×Int×Bool) (l0:Nat):Nat→List Value
 |0=> []
 |n+1=>plL f l0 n++ [.int .i64 ((l0+32*n:Nat):Int),.int .i64 (f n).1,.int .i64 (f n).2.1,.bool (f n).2.2]
theorem plL_len (f:Nat→Int×Int×Bool) (l0:Nat):∀n,(plL f l0 n).length=n*4
 |0=>rfl
 |n+1=>by simp [plL,plL_len f l0 n];omega
theorem plL_get (f:Nat→Int×Int×Bool) (l0:Nat):∀n k,k<n→(plL f l0 n)[k*4]? =some (.int .i64 ((l0+32*k:Nat):Int))∧(plL f l0 n)[k*4+1]? =some (.int .i64 (f k).1)∧(plL f l0 n)[k*4+2]? =some (.int .i64 (f k).2.1)∧(plL f l0 n)[k*4+3]? =some (.bool (f k).2.2)
 |0,k,h=>absurd h (Nat.not_lt_zero _)
 |n+1,k,h=>by
  have hl:=plL_len f l0 n
  unfold plL
  by_cases e:k=n
  ·subst e
   refine ⟨?_,?_,?_,?_⟩<;>rw [List.getElem?_append_right oM]<;>simp [hl]
  ·have:=plL_get f l0 n k oM
   refine ⟨?_,?_,?_,?_⟩<;>rw [List.getElem?_append_left oM]
   ·exact this.1
   ·exact this.2.1
   ·exact this.2.2.1
   ·exact this.2.2.2
theorem plL_congr {f g:Nat→Int×Int×Bool} {l0:Nat}:∀{n},(∀k,k<n→f k=g k)→plL f l0 n=plL g l0 n
 |0,_=>rfl
 |n+1,h=>by unfold plL;rw [plL_congr (fun k hk=>h k oM),h n oM]
def upF {α:Type} (f:Nat→α) (k:Nat) (v:α) (j:Nat):α:=if j=k then v else f j
theorem upF_eq {α:Type} (f:Nat→α) (k:Nat) (v:α):upF f k v k=v:=if_pos rfl
theorem upF_ne {α:Type} (f:Nat→α) {k j:Nat} (v:α) (h:j≠k):upF f k v j=f j:=if_neg h
theorem plL_set (f:Nat→Int×Int×Bool) (l0:Nat):∀n k,k<n→(∀c,(plL f l0 n).set (k*4+1) (.int .i64 c)=plL (upF f k (c,(f k).2)) l0 n)∧(∀c,(plL f l0 n).set (k*4+2) (.int .i64 c)=plL (upF f k ((f k).1,c,(f k).2.2)) l0 n)∧(∀c,(plL f l0 n).set (k*4+3) (.bool c)=plL (upF f k ((f k).1,(f k).2.1,c)) l0 n)
 |0,k,h=>absurd h (Nat.not_lt_zero _)
 |n+1,k,h=>by
  have hl:=plL_len f l0 n
  unfold plL
  by_cases e:k=n
  ·subst e
   have hc:∀v,plL (upF f k v) l0 k=plL f l0 k:=fun v=>plL_congr (fun j hj=>upF_ne f v oM)
   refine ⟨fun c=> ?_,fun c=> ?_,fun c=> ?_⟩<;>rw [List.set_append_right _ _ oM,hc,upF_eq,hl]
   ·rw [show k*4+1-k*4=1 by omega];rfl
   ·rw [show k*4+2-k*4=2 by omega];rfl
   ·rw [show k*4+3-k*4=3 by omega];rfl
  ·obtain ⟨h1,h2,h3⟩:=plL_set f l0 n k oM
   refine ⟨fun c=> ?_,fun c=> ?_,fun c=> ?_⟩<;>rw [List.set_append_left _ _ oM,upF_ne _ _ (fun h=>e h.symm)]
   ·rw [h1]
   ·rw [h2]
   ·rw [h3]
def arF (T b o n cp:Nat) (i:Nat):Value:= [Value.iface 31 (.pointer (some ⟨T,0,none⟩)),.slice (some ⟨b,o,none⟩) n cp].getD i undef
structure ArS (w0 w:World) (Y:Lay) (D:DS) (S b o cp l0 n:Nat) (f:Nat→Int×Int×Bool):Prop where
 L:Lv w0 w Y D
 gl:Glob w0
 st:Cells w S 212 2 (arF (Y.tb 0) b o n cp)
 pl:SlO w 195 4 (.slice (some ⟨b,o,none⟩) n cp) n (plL f l0 n)
 nS:w0.heap.size≤S∧¬Y.F S∧S≠b
 nb:w0.heap.size≤b∧¬Y.F b
 n0:0<n
 lt:l0+32*n≤D.n
abbrev stV (S:Nat):Value:= .pointer (some ⟨S,0,none⟩)
section
variable {w0 w w':World} {Y Y':Lay} {D D':DS} {S b o cp l0 n:Nat} {f f':Nat→Int×Int×Bool}
theorem ArS.ext (h:ArS w0 w Y D S b o cp l0 n f) (e:Ext w w'):ArS w0 w' Y D S b o cp l0 n f:=⟨h.L.ext e,h.gl,h.st.ext e,h.pl.ext e,h.nS,h.nb,h.n0,h.lt⟩
theorem ArS.step (h:ArS w0 w Y D S b o cp l0 n f) (s:Stp w Y w' Y' D') (gd:Good D') (hn:D'.n=D.n):ArS w0 w' Y' D' S b o cp l0 n f:=by
 have tb:Y'.tb 0=Y.tb 0:=by rw [s.tb]
 have hb:b<w.heap.size:=h.pl.lt rfl
 refine ⟨h.L.step s gd,h.gl,?_,h.pl.frm s.frm (fun x hx=>by injection hx with hx;subst hx;exact h.nb.2),⟨h.nS.1,fun hf=> ?_,h.nS.2.2⟩,⟨h.nb.1,fun hf=> ?_⟩,h.n0,by rw [hn];exact h.lt⟩
 ·rw [tb];exact h.st.frm s.frm h.nS.2.1
 ·rcases s.fr S hf with h1|h1
  ·exact h.nS.2.1 h1
  ·have:=h.st.lt;omega
 ·rcases s.fr b hf with h1|h1
  ·exact h.nb.2 h1
  ·omega
theorem ArS.c0 (h:ArS w0 w Y D S b o cp l0 n f):w.cell? ⟨S,0,none⟩=some (.iface 31 (.pointer (some ⟨Y.tb 0,0,none⟩))):=h.st.cell (i:=0) oM
theorem ArS.c1 (h:ArS w0 w Y D S b o cp l0 n f):w.cell? ⟨S,1,none⟩=some (.slice (some ⟨b,o,none⟩) n cp):=h.st.cell (i:=1) oM
theorem ArS.p (h:ArS w0 w Y D S b o cp l0 n f) {k:Nat} (hk:k<n):w.cell? ⟨b,o+k*4,none⟩=some (.int .i64 ((l0+32*k:Nat):Int))∧w.cell? ⟨b,o+k*4+1,none⟩=some (.int .i64 (f k).1)∧w.cell? ⟨b,o+k*4+2,none⟩=some (.int .i64 (f k).2.1)∧w.cell? ⟨b,o+k*4+3,none⟩=some (.bool (f k).2.2):=by
 have hg:=plL_get f l0 n k hk
 refine ⟨h.pl.cell rfl hg.1,?_,?_,?_⟩
 ·rw [Nat.add_assoc];exact h.pl.cell rfl hg.2.1
 ·rw [Nat.add_assoc];exact h.pl.cell rfl hg.2.2.1
 ·rw [Nat.add_assoc];exact h.pl.cell rfl hg.2.2.2
theorem ArS.fz (h:ArS w0 w Y D S b o cp l0 n f):∀i,w.frozen? ⟨b,i,none⟩=false:=fun i=>h.pl.frz rfl i
theorem ArS.ltb (h:ArS w0 w Y D S b o cp l0 n f):b<w.heap.size:=h.pl.lt rfl
theorem ArS.ltS (h:ArS w0 w Y D S b o cp l0 n f):S<w.heap.size:=h.st.lt
theorem ArS.er (h:ArS w0 w Y D S b o cp l0 n f):∀(w1:World) (K:K1),Ext w w1→callS prog 28 #[.pointer (some ⟨Y.tb 0,0,none⟩)] w1 K=K (.int .i64 (D.err 0)) w1:=fun w1 K e=>by rw [c_Err (h.L.dv.ext e) 0 oM K]
theorem ArS.le (h:ArS w0 w Y D S b o cp l0 n f):n≤128∧l0≤4096:=by have:=h.lt;have:=h.L.gd.n;omega
theorem k_findAt (h:ArS w0 w Y D S b o cp l0 n f) {k:Nat} (hk:k<n) (K:K1) (hK:∀w',Ext w w'→K (.pointer (some ⟨b,o+k*4,none⟩)) w'):
  callS prog 124 #[stV S,.int .i64 ((l0+32*k:Nat):Int)] w K:=by
 have hle:=h.le
 have s1:=h.c1
 refine f124_call _ _ _ _ ?_
 unfold f124_t
 simp (disch:=try exact dZ) only [↓RBp,↓RA,↓reduceIte,Nat.reduceAdd,Nat.reduceMul,Nat.reduceEqDiff,RB,RX,RA2,s1]
 apply f124_l1_rule (I:=fun z w'=>∃i:Nat,z= .int .i64 (i:Int)∧i≤k∧Ext w w') (μ:=fun z _=>n-(intOf z).toNat)
 ·exact ⟨0,rfl,by omega,xZ⟩
 ·intros;rename_i w1 hI E1 hE
  obtain ⟨i,rfl,hi,e1⟩:=hI
  have h1:=h.ext e1
  have s1:=h1.c1
  have ob27:=h1.p (show i<n by omega);have q0:=ob27.1;have q1:=ob27.2.1;have q2:=ob27.2.2.1;have q3:=ob27.2.2.2
  by_cases hik:i<k
  ·have ne:¬((l0+32*i:Nat):Int)=((l0+32*k:Nat):Int):=by omega
   unfold f124_l1_t
   simp (disch:=try exact dZ) only [↓RBp,↓RA,↓reduceIte,Nat.reduceAdd,Nat.reduceMul,Nat.reduceEqDiff,RB,RX,RA2,s1,q0,ne]
   apply hE
   ·exact ⟨i+1,by simp,by omega,e1⟩
   ·simp [intOf];omega
  ·have:i=k:=by omega
   subst this
   unfold f124_l1_t
   simp (disch:=try exact dZ) only [↓RBp,↓RA,↓reduceIte,Nat.reduceAdd,Nat.reduceMul,Nat.reduceEqDiff,RB,RX,RA2,s1,q0]
   exact hK _ e1
theorem k_OwnerAt (h:ArS w0 w Y D S b o cp l0 n f) {k:Nat} (hk:k<n) (K:K1) (hK:∀w',Ext w w'→K (.int .i64 (f k).2.1) w'):
  callS prog 152 #[stV S,.int .i64 ((l0+32*k:Nat):Int)] w K:=by
 refine f152_call _ _ _ _ ?_
 unfold f152_t
 simp (disch:=try exact dZ) only [↓RBp,↓RA,↓reduceIte,Nat.reduceAdd,Nat.reduceMul,Nat.reduceEqDiff,RB,RX,RA2]
 refine k_findAt h hk _ (fun w1 e1=> ?_)
 have ob29:=(h.ext e1).p hk;have q0:=ob29.1;have q1:=ob29.2.1;have q2:=ob29.2.2.1;have q3:=ob29.2.2.2
 simp (disch:=try exact dZ) only [↓RBp,↓RA,↓reduceIte,Nat.reduceAdd,Nat.reduceMul,Nat.reduceEqDiff,RB,RX,RA2,q2]
 exact hK _ e1
def frC (f:Nat→Int×Int×Bool):Nat→Nat
 |0=>0
 |n+1=>frC f n+if (f n).1<0 then 1 else 0
theorem frC_le (f:Nat→Int×Int×Bool):∀n,frC f n≤n
 |0=>Nat.le_refl _
 |n+1=>by have:=frC_le f n;unfold frC;split<;>omega
theorem k_FreeChunks (h:ArS w0 w Y D S b o cp l0 n f) (K:K1) (hK:∀w',Ext w w'→K (.int .i64 ((frC f n:Nat):Int)) w'):
  callS prog 92 #[stV S] w K:=by
 have hle:=h.le
 have s1:=h.c1
 refine f92_call _ _ _ ?_
 unfold f92_t
 simp (disch:=try exact dZ) only [↓RBp,↓RA,↓reduceIte,Nat.reduceAdd,Nat.reduceMul,Nat.reduceEqDiff,RB,RX,RA2,s1]
 apply f92_l1_rule (I:=fun x z w'=>∃i:Nat,z= .int .i64 (i:Int)∧i≤n∧x= .int .i64 ((frC f i:Nat):Int)∧Ext w w') (μ:=fun _ z _=>n-(intOf z).toNat)
 ·exact ⟨0,rfl,by omega,rfl,xZ⟩
 ·intros;rename_i w1 hI E1 hE
  obtain ⟨i,rfl,hi,rfl,e1⟩:=hI
  have h1:=h.ext e1
  have hc:=frC_le f i
  by_cases hin:i<n
  ·have ob30:=h1.p hin;have q0:=ob30.1;have q1:=ob30.2.1;have q2:=ob30.2.2.1;have q3:=ob30.2.2.2
   have ltb:=h1.ltb
   have hs:frC f (i+1)=frC f i+if (f i).1<0 then 1 else 0:=rfl
   generalize (f i).1=c1 at*
   by_cases hc1:c1<0
   ·rw [if_pos hc1] at hs
    unfold f92_l1_t
    simp (disch:=try exact dZ) only [↓RBp,↓RA,↓reduceIte,Nat.reduceAdd,Nat.reduceMul,Nat.reduceEqDiff,RB,RX,RA2,q0,q1,q2,q3,hc1,f92_k2_eq,f92_k2_t]
    apply hE
    ·exact ⟨i+1,by simp,by omega,by rw [hs];simp,xZ⟩
    ·simp [intOf];omega
   ·rw [if_neg hc1] at hs
    unfold f92_l1_t
    simp (disch:=try exact dZ) only [↓RBp,↓RA,↓reduceIte,Nat.reduceAdd,Nat.reduceMul,Nat.reduceEqDiff,RB,RX,RA2,q0,q1,q2,q3,hc1,f92_k2_eq,f92_k2_t]
    apply hE
    ·exact ⟨i+1,by simp,by omega,by rw [hs];simp,xZ⟩
    ·simp [intOf];omega
  ·have:i=n:=by omega
   subst this
   unfold f92_l1_t
   simp (disch:=try exact dZ) only [↓RBp,↓RA,↓reduceIte,Nat.reduceAdd,Nat.reduceMul,Nat.reduceEqDiff,RB,RX,RA2,f92_k1_eq,f92_k1_t]
   exact hK _ e1
theorem elInt:ElT prog 50 50 3 1 8 (.int .i64 0):=el_50_50
def lnL (p:Nat→Bool) (l0:Nat):Nat→List Int
 |0=> []
 |n+1=>lnL p l0 n++if p n then [((l0+32*n:Nat):Int)] else []
theorem lnL_len (p:Nat→Bool) (l0:Nat):∀n,(lnL p l0 n).length≤n
 |0=>Nat.le_refl _
 |n+1=>by have:=lnL_len p l0 n;unfold lnL;split<;>simp<;>omega
theorem k_Lines (h:ArS w0 w Y D S b o cp l0 n f) (K:K1) (hK:∀v w',Ext w w'→NewV w.heap.size v→SlO w' 3 1 v (lnL (fun _=>true) l0 n).length (i64L (lnL (fun _=>true) l0 n))→K v w'):
  callS prog 91 #[stV S] w K:=by
 have hle:=h.le
 have s1:=h.c1
 refine f91_call _ _ _ ?_
 unfold f91_t
 simp (disch:=try exact dZ) only [↓RBp,↓RA,↓reduceIte,Nat.reduceAdd,Nat.reduceMul,Nat.reduceEqDiff,RB,RX,RA2,s1]
 apply f91_l1_rule (I:=fun x z w'=>∃i:Nat,z= .int .i64 (i:Int)∧i≤n∧SlO w' 3 1 x (lnL (fun _=>true) l0 i).length (i64L (lnL (fun _=>true) l0 i))∧Frm Nob w w'∧NewV w.heap.size x) (μ:=fun _ z _=>n-(intOf z).toNat)
 ·exact ⟨0,rfl,by omega,SlO.nil _ _ _,(by repeat (first|exact Frm.refl _ _|with_reducible refine Frm.set ?_ _ (fun _=>rfl)|with_reducible refine Frm.alloc ?_ _|with_reducible refine Frm.drew ?_)),fun b hb=>by cases hb⟩
 ·intros;rename_i x3 z w1 hI E1 hE
  obtain ⟨i,rfl,hi,hs,hf,hnw⟩:=hI
  have e1:Ext w w1:=hf.to_ext (fun _ _ h=>h)
  have h1:=h.ext e1
  have hln:=lnL_len (fun _=>true) l0 i
  by_cases hin:i<n
  ·have ob31:=h1.p hin;have q0:=ob31.1;have q1:=ob31.2.1;have q2:=ob31.2.2.1;have q3:=ob31.2.2.2
   have ltb:=h1.ltb
   obtain ⟨pa,pc,rfl,hpc⟩:=hs.isS'
   have hss:lnL (fun _=>true) l0 (i+1)=lnL (fun _=>true) l0 i++ [((l0+32*i:Nat):Int)]:=rfl
   generalize lnL (fun _=>true) l0 i=l at*
   unfold f91_l1_t
   simp (disch:=try exact dZ) only [↓RBp,↓RA,↓reduceIte,Nat.reduceAdd,Nat.reduceMul,Nat.reduceEqDiff,RB,RX,RA2,q0,q1,q2,q3]
   refine app_new elInt (w0:=w) (hs.ext xZ) (hf.ext xZ) hnw (m:=1) (news:= [.int .i64 ((l0+32*i:Nat):Int)]) rfl ?_ rfl oM oM oM (fun v' w4 hsp hf4 n4 hfr4 hb4=> ?_)
   ·intro j u hj
    obtain ⟨rfl,rfl⟩:=one_get hj
    simp (disch:=try exact dZ) only [↓RBp,↓RA,↓reduceIte,Nat.reduceAdd,Nat.reduceMul,Nat.reduceEqDiff,RB,RX,RA2]
   simp (disch:=try exact dZ) only [↓RBp,↓RA,↓reduceIte,Nat.reduceAdd,Nat.reduceMul,Nat.reduceEqDiff,RB,RX,RA2]
   apply hE
   ·refine ⟨i+1,by simp,by omega,?_,hf4,n4⟩
    rw [hss,List.length_append]
    simpa [i64L] using hsp
   ·simp [intOf];omega
  ·have:i=n:=by omega
   subst this
   unfold f91_l1_t
   simp (disch:=try exact dZ) only [↓RBp,↓RA,↓reduceIte,Nat.reduceAdd,Nat.reduceMul,Nat.reduceEqDiff,RB,RX,RA2,f91_k1_eq,f91_k1_t]
   exact hK _ _ e1 hnw hs
theorem k_Chunks (h:ArS w0 w Y D S b o cp l0 n f) (t c:Int) (t0:0≤t) (c0:0≤c) (K:K1) (hK:∀v w',Ext w w'→NewV w.heap.size v→SlO w' 3 1 v (lnL (fun k=>decide ((f k).2.1=t)&&decide ((f k).1=c)) l0 n).length (i64L (lnL (fun k=>decide ((f k).2.1=t)&&decide ((f k).1=c)) l0 n))→K v w'):
  callS prog 115 #[stV S,.int .i64 t,.int .i64 c] w K:=by
 have hle:=h.le
 have s1:=h.c1
 refine f115_call _ _ _ _ _ ?_
 unfold f115_t
 simp (disch:=try exact dZ) only [↓RBp,↓RA,↓reduceIte,Nat.reduceAdd,Nat.reduceMul,Nat.reduceEqDiff,RB,RX,RA2,s1]
 apply f115_l1_rule (I:=fun x z w'=>∃i:Nat,z= .int .i64 (i:Int)∧i≤n∧SlO w' 3 1 x (lnL (fun k=>decide ((f k).2.1=t)&&decide ((f k).1=c)) l0 i).length (i64L (lnL (fun k=>decide ((f k).2.1=t)&&decide ((f k).1=c)) l0 i))∧Frm Nob w w'∧NewV w.heap.size x) (μ:=fun _ z _=>n-(intOf z).toNat)
 ·exact ⟨0,rfl,by omega,SlO.nil _ _ _,(by repeat (first|exact Frm.refl _ _|with_reducible refine Frm.set ?_ _ (fun _=>rfl)|with_reducible refine Frm.alloc ?_ _|with_reducible refine Frm.drew ?_)),fun b hb=>by cases hb⟩
 ·intros;rename_i x3 z w1 hI E1 hE
  obtain ⟨i,rfl,hi,hs,hf,hnw⟩:=hI
  have e1:Ext w w1:=hf.to_ext (fun _ _ h=>h)
  have h1:=h.ext e1
  have hln:=lnL_len (fun k=>decide ((f k).2.1=t)&&decide ((f k).1=c)) l0 i
  by_cases hin:i<n
  ·have ob32:=h1.p hin;have q0:=ob32.1;have q1:=ob32.2.1;have q2:=ob32.2.2.1;have q3:=ob32.2.2.2
   have ltb:=h1.ltb
   obtain ⟨pa,pc,rfl,hpc⟩:=hs.isS'
   have hss:lnL (fun k=>decide ((f k).2.1=t)&&decide ((f k).1=c)) l0 (i+1)=lnL (fun k=>decide ((f k).2.1=t)&&decide ((f k).1=c)) l0 i++if (decide ((f i).2.1=t)&&decide ((f i).1=c))=true then [((l0+32*i:Nat):Int)] else []:=rfl
   generalize lnL (fun k=>decide ((f k).2.1=t)&&decide ((f k).1=c)) l0 i=l at*
   generalize (f i).1=ci at*
   generalize (f i).2.1=oi at*
   by_cases ho:oi=t
   ·by_cases hc:ci=c
    ·subst ho;subst hc
     unfold f115_l1_t
     simp (disch:=try exact dZ) only [↓RBp,↓RA,↓reduceIte,Nat.reduceAdd,Nat.reduceMul,Nat.reduceEqDiff,RB,RX,RA2,q0,q1,q2,q3]
     refine app_new elInt (w0:=w) (hs.ext xZ) (hf.ext xZ) hnw (m:=1) (news:= [.int .i64 ((l0+32*i:Nat):Int)]) rfl ?_ rfl oM oM oM (fun v' w4 hsp hf4 n4 hfr4 hb4=> ?_)
     ·intro j u hj
      obtain ⟨rfl,rfl⟩:=one_get hj
      simp (disch:=try exact dZ) only [↓RBp,↓RA,↓reduceIte,Nat.reduceAdd,Nat.reduceMul,Nat.reduceEqDiff,RB,RX,RA2]
     simp (disch:=try exact dZ) only [↓RBp,↓RA,↓reduceIte,Nat.reduceAdd,Nat.reduceMul,Nat.reduceEqDiff,RB,RX,RA2,f115_k2_eq,f115_k2_t]
     apply hE
     ·refine ⟨i+1,by simp,by omega,?_,hf4,n4⟩
      rw [hss]
      simp only [decide_true,Bool.and_true,if_true,List.length_append]
      simpa [i64L] using hsp
     ·simp [intOf];omega
    ·unfold f115_l1_t
     simp (disch:=try exact dZ) only [↓RBp,↓RA,↓reduceIte,Nat.reduceAdd,Nat.reduceMul,Nat.reduceEqDiff,RB,RX,RA2,q0,q1,q2,q3,ho,hc,f115_k2_eq,f115_k2_t]
     apply hE
     ·refine ⟨i+1,by simp,by omega,?_,hf.ext xZ,hnw⟩
      rw [hss,decide_eq_false hc,Bool.and_false,if_neg (by decide),List.append_nil]
      exact hs.ext xZ
     ·simp [intOf];omega
   ·unfold f115_l1_t
    simp (disch:=try exact dZ) only [↓RBp,↓RA,↓reduceIte,Nat.reduceAdd,Nat.reduceMul,Nat.reduceEqDiff,RB,RX,RA2,q0,q1,q2,q3,ho,f115_k2_eq,f115_k2_t]
    apply hE
    ·refine ⟨i+1,by simp,by omega,?_,hf.ext xZ,hnw⟩
     rw [hss,decide_eq_false ho,Bool.false_and,if_neg (by decide),List.append_nil]
     exact hs.ext xZ
    ·simp [intOf];omega
  ·have:i=n:=by omega
   subst this
   unfold f115_l1_t
   simp (disch:=try exact dZ) only [↓RBp,↓RA,↓reduceIte,Nat.reduceAdd,Nat.reduceMul,Nat.reduceEqDiff,RB,RX,RA2,f115_k1_eq,f115_k1_t]
   exact hK _ _ e1 hnw hs
end
section
variable {D:DS} {l g:Nat} {c o:Int}
theorem fmt_snd (c0:0≤c) (c5:c<5) (o0:0≤o) (o8:o<8) (hg0:g≠0) (hg:g<65536) (h0:wd D l 0=sealN (hdX c o g)) (hlow:∀j,j≠0→j<8→wd D l j=0) (at_:∀i:Nat,(i:Int)<perS c→wd D l (offN c i)=sealN (blkX g 0 176)):Snd D l c o:=by
 have hh:=hd_ok c0 c5 o0 o8 hg0 hg
 refine ⟨by rw [h0];exact hh.1,by rw [h0];exact hh.2.1,by rw [h0];exact hh.2.2.1,fun j h2 h8=>hlow j oM h8,fun i hi=> ?_,fun i hi=> ?_,fun i hi=> ?_⟩
 ·rw [at_ i hi];exact isS_blk hg oM oM
 ·rw [at_ i hi,bG_blk hg oM oM,bK_blk hg oM oM,bS_blk hg oM oM];simp [goodB,hg0]
 ·rw [hlow 1 oM oM,bit0]
  by_cases h:(i:Int)<perS c
  ·rw [at_ i h,bS_blk hg oM oM];simp
  ·simp [h]
theorem clr_gen (on:On D) (gd:Good D) (hl:l+32≤D.n) (hg:g<65536):On (D.run 0 (clrI l g))∧Good (D.run 0 (clrI l g))∧(D.run 0 (clrI l g)).n=D.n∧(∀i∈clrI l g,okI i)∧wd (D.run 0 (clrI l g)) l 0=sealN (hdX (-1) (-1) g):=by
 have hs:=sealN_lt (hdX (-1) (-1) g) (hdX_lt oM oM oM oM hg)
 have hn:=gd.n
 have h1:=On.stores on [(l*64,sealN (hdX (-1) (-1) g))] (fun x hx=>by simp only [List.mem_singleton] at hx;subst hx;simp only;omega)
 have ok:∀i∈clrI l g,okI i:=okI_stores (fun x hx=>by simp only [List.mem_singleton] at hx;subst hx;exact ⟨by simp only;omega,hs⟩)
 refine ⟨h1.1,Good.run 0 oM _ _ gd ok,run_n 0 _ D,ok,?_⟩
 have e:(D.run 0 (clrI l g)).cur=applyH [(l*64,sealN (hdX (-1) (-1) g))] D.cur:=h1.2
 unfold wd
 rw [e]
 refine applyH_val (fun y hy _=> ?_) (.inl ⟨(l*64,sealN (hdX (-1) (-1) g)),by simp,by simp only;omega⟩)
 simp only [List.mem_singleton] at hy;subst hy;rfl
theorem plan_gen (on:On D) (gd:Good D) (hl:l+32≤D.n) (c0:0≤c) (c5:c<5) (o0:0≤o) (o8:o<8) (hg0:g≠0) (hg:g<65536):On (D.run 0 (planI l c o g))∧Good (D.run 0 (planI l c o g))∧(D.run 0 (planI l c o g)).n=D.n∧(∀i∈planI l c o g,okI i)∧Snd (D.run 0 (planI l c o g)) l c o∧wd (D.run 0 (planI l c o g)) l 0=sealN (hdX c o g)∧∀i:Nat,(i:Int)<perS c→wd (D.run 0 (planI l c o g)) l (offN c i)=sealN (blkX g 0 176):=by
 have hp:=perS_in c0 c5
 have hn:=gd.n
 have hb:=sealN_lt (blkX g 0 176) (blkX_lt hg oM oM)
 have hd:=sealN_lt (hdX c o g) (hdX_lt oM c5 oM o8 hg)
 have pw:∀x∈planW l c g,(x.1%8=0∧x.1<D.n*64)∧x.1<18446744073709551616∧x.2<18446744073709551616:=by
  intro x hx
  rcases List.mem_append.1 hx with hx|hx
  ·obtain ⟨j,hj,rfl⟩:=List.mem_map.1 hx
   have hb2:=offS_bd c0 c5 (show 0≤(j:Int) by omega) (by rw [List.mem_range] at hj;omega)
   have hw:=wordsS_in c0 c5
   simp only;omega
  ·obtain ⟨j,hj,rfl⟩:=List.mem_map.1 hx
   rw [List.mem_range] at hj
   simp only;omega
 have hw1:∀x∈ [(l*64,sealN (hdX c o g))],(x.1%8=0∧x.1<D.n*64)∧x.1<18446744073709551616∧x.2<18446744073709551616:=fun x hx=>by
  simp only [List.mem_singleton] at hx;subst hx;simp only;omega
 have ok:∀i∈planI l c o g,okI i:=by
  intro i hi
  rcases List.mem_append.1 hi with hi|hi
  ·exact okI_stores (fun x hx=>(pw x hx).2) i hi
  ·exact okI_stores (fun x hx=>(hw1 x hx).2) i hi
 have h1:=On.stores on (planW l c g) (fun x hx=>(pw x hx).1)
 have n1:(D.run 0 (storesI (planW l c g))).n=D.n:=run_n 0 _ D
 have h2:=On.stores h1.1 [(l*64,sealN (hdX c o g))] (fun x hx=>by rw [n1];exact (hw1 x hx).1)
 have er:D.run 0 (planI l c o g)=(D.run 0 (storesI (planW l c g))).run 0 (storesI [(l*64,sealN (hdX c o g))]):=by unfold planI;rw [run_append]
 have gd3:=Good.run 0 oM _ _ gd ok
 have n3:(D.run 0 (planI l c o g)).n=D.n:=run_n 0 _ D
 have ec:(D.run 0 (planI l c o g)).cur=applyH [(l*64,sealN (hdX c o g))] (applyH (planW l c g) D.cur):=by rw [er,h2.2,h1.2]
 have on3:On (D.run 0 (planI l c o g)):=by rw [er];exact h2.1
 generalize D.run 0 (planI l c o g)=E at*
 have w0:wd E l 0=sealN (hdX c o g):=by
  unfold wd
  rw [ec]
  refine applyH_val (fun y hy _=> ?_) (.inl ⟨(l*64,sealN (hdX c o g)),by simp,by simp only;omega⟩)
  simp only [List.mem_singleton] at hy;subst hy;rfl
 have ho:∀(j:Nat) (f:Nat→Nat),j≠0→applyH [(l*64,sealN (hdX c o g))] f (l*8+j)=f (l*8+j):=fun j f hj=>applyH_other _ _ _ (fun y hy=>by simp only [List.mem_singleton] at hy;subst hy;simp only;omega)
 have hA:∀j,∀y∈planW l c g,y.1/8=l*8+j→(8≤j∧y.2=sealN (blkX g 0 176))∨(j<8∧y.2=0):=by
  intro j y hy hyj
  rcases List.mem_append.1 hy with hy|hy
  ·obtain ⟨i,hi,rfl⟩:=List.mem_map.1 hy
   rw [List.mem_range] at hi
   have hb2:=offS_bd c0 c5 (show 0≤(i:Int) by omega) oM
   left
   simp only at hyj
   exact ⟨by omega,rfl⟩
  ·obtain ⟨i,hi,rfl⟩:=List.mem_map.1 hy
   rw [List.mem_range] at hi
   right
   simp only at hyj
   exact ⟨by omega,rfl⟩
 have wlow:∀j,j≠0→j<8→wd E l j=0:=by
  intro j h0 h8
  unfold wd
  rw [ec,ho j _ h0]
  refine applyH_val (fun y hy hyj=> ?_) (.inl ⟨(l*64+(j-1+1)*8,0),List.mem_append_right _ (List.mem_map.2 ⟨j-1,List.mem_range.2 oM,rfl⟩),by simp only;omega⟩)
  rcases hA j y hy hyj with h|h
  ·omega
  ·exact h.2
 have wat:∀i:Nat,(i:Int)<perS c→wd E l (offN c i)=sealN (blkX g 0 176):=by
  intro i hi
  have bd:=offN_bd c0 c5 hi
  unfold wd
  rw [ec,ho _ _ oM]
  refine applyH_val (fun y hy hyj=> ?_) (.inl ⟨_,List.mem_append_left _ (List.mem_map.2 ⟨i,List.mem_range.2 oM,rfl⟩),?_⟩)
  ·rcases hA _ y hy hyj with h|h
   ·exact h.2
   ·omega
  ·simp only;omega
 exact ⟨on3,gd3,n3,ok,fmt_snd c0 c5 o0 o8 hg0 hg w0 wlow wat,w0,wat⟩
end
def vldB (n:Nat) (line lines:Int):Bool:=decide (0≤line)&&(decide (32≤lines)&&decide (line+lines≤(n:Int)))
section
variable {w0 w w':World} {Y Y':Lay} {D D':DS} {S b o cp l0 n:Nat} {f f':Nat→Int×Int×Bool}
theorem k_avalid (h:Dv w Y D) (g:Good D) (line lines:Int) (h1: -9223372036854775808≤line) (h2:line<9223372036854775808) (h3: -9223372036854775808≤lines) (h4:lines<9223372036854775808) (K:K1) (hK:∀w',Ext w w'→K (.bool (vldB D.n line lines)) w'):
  callS prog 154 #[thV Y,.int .i64 line,.int .i64 lines] w K:=by
 have hn:=g.n
 have hsz:∀(w1:World) (K:K1),Ext w w1→callS prog 105 #[.pointer (some ⟨Y.tb 0,0,none⟩)] w1 K=K (.int .u64 ((D.n*64:Nat):Int)) w1:=fun w1 K e=>c_TSize (h.ext e) g 0 oM K
 have hq:D.n*64/64=D.n:=by omega
 refine f154_call _ _ _ _ _ ?_
 unfold thV f154_t
 unfold vldB at hK
 by_cases a0:line<0
 ·rw [decide_eq_false (show ¬0≤line by omega),Bool.false_and] at hK
  simp (disch:=try exact dX) only [↓RBp,↓RA,↓reduceIte,Nat.reduceAdd,Nat.reduceMul,Nat.reduceEqDiff,RB,RX,RA2,hsz,hq,a0]
  exact hK _ xZ
 ·rw [decide_eq_true (show 0≤line by omega),Bool.true_and] at hK
  by_cases a1:lines<32
  ·rw [decide_eq_false (show ¬32≤lines by omega),Bool.false_and] at hK
   simp (disch:=try exact dX) only [↓RBp,↓RA,↓reduceIte,Nat.reduceAdd,Nat.reduceMul,Nat.reduceEqDiff,RB,RX,RA2,hsz,hq,a0,a1]
   exact hK _ xZ
  ·rw [decide_eq_true (show 32≤lines by omega),Bool.true_and] at hK
   obtain ⟨a,rfl⟩:∃a:Nat,line=(a:Int):=⟨line.toNat,by omega⟩
   obtain ⟨q,rfl⟩:∃q:Nat,lines=(q:Int):=⟨lines.toNat,by omega⟩
   by_cases a2:D.n<a
   ·rw [decide_eq_false (show ¬(a:Int)+(q:Int)≤(D.n:Int) by omega)] at hK
    simp (disch:=try exact dX) only [↓RBp,↓RA,↓reduceIte,Nat.reduceAdd,Nat.reduceMul,Nat.reduceEqDiff,RB,RX,RA2,hsz,hq,a0,a1,a2]
    exact hK _ xZ
   ·by_cases a3:D.n-a<q
    ·rw [decide_eq_false (show ¬(a:Int)+(q:Int)≤(D.n:Int) by omega)] at hK
     simp (disch:=try exact dX) only [↓RBp,↓RA,↓reduceIte,Nat.reduceAdd,Nat.reduceMul,Nat.reduceEqDiff,RB,RX,RA2,hsz,hq,a0,a1,a2,a3]
     exact hK _ xZ
    ·rw [decide_eq_true (show (a:Int)+(q:Int)≤(D.n:Int) by omega)] at hK
     have a4:a+q/32*32≤4096:=by omega
     simp (disch:=try exact dX) only [↓RBp,↓RA,↓reduceIte,Nat.reduceAdd,Nat.reduceMul,Nat.reduceEqDiff,RB,RX,RA2,hsz,hq,a0,a1,a2,a3,a4]
     exact hK _ xZ
theorem clrI_len (l g:Nat):(clrI l g).length≤3:=by
 have:=storesI_le [(l*64,sealN (hdX (-1) (-1) g))]
 simpa [clrI] using this
def fmtD (D:DS) (l0:Nat):Nat→DS
 |0=>D
 |k+1=>(fmtD D l0 k).run 0 (clrI (l0+32*k) 1)
theorem fmtD_ok (on:On D) (gd:Good D) (hl:l0+32*n≤D.n):∀k,k≤n→On (fmtD D l0 k)∧Good (fmtD D l0 k)∧(fmtD D l0 k).n=D.n∧(fmtD D l0 k).exe≤D.exe+3*k
 |0,_=>⟨on,gd,rfl,by simp [fmtD]⟩
 |k+1,hk=>by
  obtain ⟨h1,h2,h3,h4⟩:=fmtD_ok on gd hl k oM
  have c:=clr_gen h1 h2 (l:=l0+32*k) (g:=1) oM oM
  refine ⟨c.1,c.2.1,c.2.2.1.trans h3,?_⟩
  have:=run_exe 0 (clrI (l0+32*k) 1) (fmtD D l0 k)
  have:=clrI_len (l0+32*k) 1
  unfold fmtD
  omega
theorem k_AFormat (h:Lv w0 w Y D) (gl:Glob w0) (on:On D) (gd:Good D) (hx:D.exe<1000000000) {q:Nat} (hq:32≤q) (hl:l0+q≤D.n) (K:K1) (hK:∀w' Y',Stp w Y w' Y' (fmtD D l0 (q/32))→K (.int .i64 0) w'):
  callS prog 114 #[thV Y,.int .i64 (l0:Int),.int .i64 (q:Int)] w K:=by
 have hn:=gd.n
 have hvl:vldB D.n (l0:Int) (q:Int)=true:=by simp [vldB];omega
 have her:∀(w1:World) (K:K1),Ext w w1→callS prog 28 #[.pointer (some ⟨Y.tb 0,0,none⟩)] w1 K=K (.int .i64 0) w1:=fun w1 K e=>by rw [c_Err (h.dv.ext e) 0 oM K,on.err]
 obtain ⟨n,hnq⟩:∃n,q/32=n:=⟨_,rfl⟩
 rw [hnq] at hK
 refine f114_call _ _ _ _ _ ?_
 unfold f114_t
 simp (disch:=try exact dZ) only [↓RBp,↓RA,↓reduceIte,Nat.reduceAdd,Nat.reduceMul,Nat.reduceEqDiff,RB,RX,RA2]
 refine k_avalid h.dv gd _ _ oM oM oM oM _ (fun w1 e1=> ?_)
 rw [hvl]
 unfold thV
 simp (disch:=try exact dX) only [↓RBp,↓RA,↓reduceIte,Nat.reduceAdd,Nat.reduceMul,Nat.reduceEqDiff,RB,RX,RA2,her,hnq]
 apply f114_l1_rule (I:=fun z w'=>∃(i:Nat) (Y':Lay),z= .int .i64 (i:Int)∧i≤n∧Stp w Y w' Y' (fmtD D l0 i)) (μ:=fun z _=>n-(intOf z).toNat)
 ·exact ⟨0,Y,rfl,by omega,Stp.ext h.dv e1⟩
 ·intros;rename_i w2 hI E1 hE
  obtain ⟨i,Y2,rfl,hi,st⟩:=hI
  obtain ⟨on2,gd2,n2,x2⟩:=fmtD_ok on gd (n:=n) (l0:=l0) oM i hi
  have tb:Y2.tb 0=Y.tb 0:=by rw [st.tb]
  have hG2:Glob w2:=gl.ext (h.step st gd2).ex
  have her:∀(w1:World) (K:K1),Ext w2 w1→callS prog 28 #[.pointer (some ⟨Y.tb 0,0,none⟩)] w1 K=K (.int .i64 0) w1:=fun w1 K e=>by rw [←tb,c_Err (st.dv.ext e) 0 oM K,on2.err]
  by_cases hin:i<n
  ·have e1:(l0:Int)+(i:Int)*32=((l0+32*i:Nat):Int):=by omega
   have cg:=clr_gen on2 gd2 (l:=l0+32*i) (g:=1) oM oM
   have hcl:=clrI_len (l0+32*i) 1
   have hxr:=run_exe 0 (clrI (l0+32*i) 1) (fmtD D l0 i)
   have hrun:∀(v:Value) (w3:World) (K1:K1),SlO w3 220 3 v (clrI (l0+32*i) 1).length (inL (clrI (l0+32*i) 1))→Ext w2 w3→NewV w2.heap.size v→(∀w4 Y4,Stp w2 Y2 w4 Y4 (fmtD D l0 (i+1))→K1 (.int .i64 0) w4)→callS prog 99 #[v,.iface 31 (.pointer (some ⟨Y.tb 0,0,none⟩))] w3 K1:=by
    intro v w3 K1 hs e nv hk
    rw [←tb]
    refine k_Run (st.dv.ext e) gd2 0 oM _ v hs (fun b hb hf=>by have h1:=st.dv.lt hf;have h2:=nv b hb;omega) cg.2.2.2.1 oM _ (fun w4 Y4 st4=> ?_)
    have he:((fmtD D l0 i).run 0 (clrI (l0+32*i) 1)).err 0=0:=cg.1.err
    rw [he]
    exact hk w4 Y4 (Stp.pre e (fun b hb=>st.dv.lt hb) st4)
   unfold f114_l1_t
   simp (disch:=try exact dZ) only [↓RBp,↓RA,↓reduceIte,Nat.reduceAdd,Nat.reduceMul,Nat.reduceEqDiff,RB,RX,RA2,e1]
   refine k_Clear hG2 (l0+32*i) 1 oM oM oM _ (fun v w3 hs e3 nv=> ?_)
   simp (disch:=try exact dZ) only [↓RBp,↓RA,↓reduceIte,Nat.reduceAdd,Nat.reduceMul,Nat.reduceEqDiff,RB,RX,RA2]
   refine hrun v _ _ (hs.ext xZ) (e3.trans xZ) nv (fun w4 Y4 st4=> ?_)
   simp (disch:=try exact dZ) only [↓RBp,↓RA,↓reduceIte,Nat.reduceAdd,Nat.reduceMul,Nat.reduceEqDiff,RB,RX,RA2]
   apply hE
   ·exact ⟨i+1,Y4,by simp,by omega,st.trans st4⟩
   ·simp [intOf];omega
  ·have:i=n:=by omega
   subst this
   unfold f114_l1_t
   simp (disch:=try exact dX) only [↓RBp,↓RA,↓reduceIte,Nat.reduceAdd,Nat.reduceMul,Nat.reduceEqDiff,RB,RX,RA2,her,f114_k1_eq,f114_k1_t]
   exact hK _ Y2 st
end
def opF (D:DS) (l0:Nat) (k:Nat):Int×Int×Bool:=(hC (wd D (l0+32*k) 0),hO (wd D (l0+32*k) 0),false)
theorem elPl:ElT prog 210 210 195 4 32 (.agg #[.int .i64 0,.int .i64 0,.int .i64 0,.bool false]):=el_210_210
theorem fill_agg4 {place:Nat→Option (Nat×Nat)} {cells:Array Value} {i off:Nat} {a b c d:Value} {rest:List (Nat×Value)} (hp:place i=some (off,4)) (ho:off+4≤cells.size):Instr.fill place cells ((i,.agg #[a,b,c,d])::rest)=Instr.fill place ((((cells.setIfInBounds off a).setIfInBounds (off+1) b).setIfInBounds (off+2) c).setIfInBounds (off+3) d) rest:=by
 rw [Instr.fill,hp]
 simp only [cells_agg,List.size_toArray,List.length_cons,List.length_nil]
 rw [if_neg (by simp;omega)]
 congr 1
theorem bsPl (a b c d:Value) (w:World):(Instr.buildSlice 210 1 #[(0,.agg #[a,b,c,d])]).run prog w= .ok (.slice (some ⟨w.heap.size,0,none⟩) 1 1) (w.alloc (.cells #[a,b,c,d] 195)):=
 Go.Sh.run_buildSliceS (z:=(.agg #[.int .i64 0,.int .i64 0,.int .i64 0,.bool false])) (show prog.underlying 210=some (.slice 195) from by kernel_rfl) (show szT prog 195=some 4 from by kernel_rfl) (by kernel_rfl) (by decide) (by decide) (by show Instr.fill _ #[.int .i64 0,.int .i64 0,.int .i64 0,.bool false] [(0,.agg #[a,b,c,d])]=_;rw [fill_agg4 (off:=0) rfl (by simp)];rfl) w
theorem evPl (a b c d:Value) (w:World) (k:K1):ev prog (Instr.buildSlice 210 1 #[(0,.agg #[a,b,c,d])]) w k=k (.slice (some ⟨w.heap.size,0,none⟩) 1 1) (w.alloc (.cells #[a,b,c,d] 195)):=ev_of_run (bsPl a b c d w) k
def stF (T:Nat) (v:Value) (i:Nat):Value:= [Value.iface 31 (.pointer (some ⟨T,0,none⟩)),v].getD i undef
section
variable {w0 w w':World} {Y Y':Lay} {D D':DS} {S b o cp l0 n:Nat} {f f':Nat→Int×Int×Bool}
theorem k_AOpen (h:Lv w0 w Y D) (gl:Glob w0) (ho:D.off=false) (he:D.err 0=0) {q:Nat} (hq:32≤q) (hl:l0+q≤D.n) (hqn:q/32=n) (K:K1)
  (hb:(¬∀k,k<n→hdOk (wd D (l0+32*k) 0)=true)→∀w',Ext w w'→K (.tuple #[.pointer none,.int .i64 11]) w')
  (hK:(∀k,k<n→hdOk (wd D (l0+32*k) 0)=true)→∀S b o cp w',Ext w w'→w.heap.size≤S→w.heap.size≤b→ArS w0 w' Y D S b o cp l0 n (opF D l0)→K (.tuple #[stV S,.int .i64 0]) w'):
  callS prog 120 #[thV Y,.int .i64 (l0:Int),.int .i64 (q:Int)] w K:=by
 have hn:=h.gd.n
 have hvl:vldB D.n (l0:Int) (q:Int)=true:=by simp [vldB];omega
 have her:∀(w1:World) (K:K1),Ext w w1→callS prog 28 #[.pointer (some ⟨Y.tb 0,0,none⟩)] w1 K=K (.int .i64 0) w1:=fun w1 K e=>by rw [c_Err (h.dv.ext e) 0 oM K,he]
 refine f120_call _ _ _ _ _ ?_
 unfold f120_t
 simp (disch:=try exact dZ) only [↓RBp,↓RA,↓reduceIte,Nat.reduceAdd,Nat.reduceMul,Nat.reduceEqDiff,RB,RX,RA2]
 refine k_avalid h.dv h.gd _ _ oM oM oM oM _ (fun w1 e1=> ?_)
 rw [hvl]
 unfold thV
 simp (disch:=try exact dX) only [↓RBp,↓RA,↓reduceIte,Nat.reduceAdd,Nat.reduceMul,Nat.reduceEqDiff,RB,RX,RA2,her,hqn]
 have hS0:=Cells.new w1 [Value.iface 31 (.pointer (some ⟨Y.tb 0,0,none⟩)),.slice none 0 0] 212
 apply f120_l1_rule (I:=fun z w'=>∃(i:Nat) (v:Value),z= .int .i64 (i:Int)∧i≤n∧Frm Nob w1 w'∧NewV w1.heap.size v∧(∀b,v.ownBlock=some b→b≠w1.heap.size)∧Cells w' w1.heap.size 212 2 (stF (Y.tb 0) v)∧SlO w' 195 4 v i (plL (opF D l0) l0 i)∧∀k,k<i→hdOk (wd D (l0+32*k) 0)=true) (μ:=fun z _=>n-(intOf z).toNat)
 ·exact ⟨0,.slice none 0 0,rfl,by omega,(by repeat (first|exact Frm.refl _ _|with_reducible refine Frm.set ?_ _ (fun _=>rfl)|with_reducible refine Frm.alloc ?_ _|with_reducible refine Frm.drew ?_)),fun b hb=>(by cases hb),fun b hb=>(by cases hb),hS0,SlO.nil _ _ _,fun k hk=>absurd hk (Nat.not_lt_zero _)⟩
 ·intros;rename_i w2 hI E1 hE
  obtain ⟨i,v,rfl,hi,f2,nv,vS,hS,hs,hall⟩:=hI
  have e2:Ext w1 w2:=f2.to_ext (fun _ _ h=>h)
  have h2:=h.ext (e1.trans e2)
  by_cases hin:i<n
  ·have e32:(l0:Int)+(i:Int)*32=((l0+32*i:Nat):Int):=by omega
   have hG2:Glob w2:=gl.ext h2.ex
   cases hok:hdOk (wd D (l0+32*i) 0) with
   |false=>
    unfold f120_l1_t
    simp (disch:=try exact dZ) only [↓RBp,↓RA,↓reduceIte,Nat.reduceAdd,Nat.reduceMul,Nat.reduceEqDiff,RB,RX,RA2,e32]
    refine k_LookForm (h2.dv.ext xZ) h.gd (hG2.ext xZ) ho he (l0+32*i) oM hok _ (fun w3 e3=> ?_)
    simp (disch:=try exact dZ) only [↓RBp,↓RA,↓reduceIte,Nat.reduceAdd,Nat.reduceMul,Nat.reduceEqDiff,RB,RX,RA2]
    exact hb (fun hh=>by rw [hh i hin] at hok;cases hok) _ (e1.trans (e2.trans xZ))
   |true=>
    obtain ⟨pa,pc,rfl,hpc⟩:=hs.isS'
    have hpl:plL (opF D l0) l0 (i+1)=plL (opF D l0) l0 i++ [.int .i64 ((l0+32*i:Nat):Int),.int .i64 (hC (wd D (l0+32*i) 0)),.int .i64 (hO (wd D (l0+32*i) 0)),.bool false]:=rfl
    unfold f120_l1_t
    simp (disch:=try exact dZ) only [↓RBp,↓RA,↓reduceIte,Nat.reduceAdd,Nat.reduceMul,Nat.reduceEqDiff,RB,RX,RA2,e32]
    refine k_Look (h2.dv.ext xZ) h.gd (hG2.ext xZ) ho he (l0+32*i) oM hok _ (fun w3 e3=> ?_)
    have e23:Ext w2 w3:=Ext.trans xZ e3
    have hS3:=hS.ext e23
    have s1:w3.cell? ⟨w1.heap.size,1,none⟩=some (.slice pa i pc):=hS3.cell (i:=1) oM
    have ltS:=hS3.lt
    generalize hC (wd D (l0+32*i) 0)=cc at*
    generalize hO (wd D (l0+32*i) 0)=oo at*
    generalize gX (wd D (l0+32*i) 0)=gg at*
    (repeat' (first|(with_reducible first|refine brS_mk (fun _=> ?_) (fun _=> ?_)|refine And.intro ?_ ?_)|(simp (disch:=try exact dZ) only [↓RBp,↓RA,↓reduceIte,Nat.reduceAdd,Nat.reduceMul,Nat.reduceEqDiff,RB,RX,RA2,s1,e32,evPl])))
    refine app_new elPl (w0:=w1) (hs.ext (e23.trans xZ)) (f2.ext (e23.trans xZ)) nv (m:=1) (news:= [.int .i64 ((l0+32*i:Nat):Int),.int .i64 cc,.int .i64 oo,.bool false]) rfl ?_ rfl oM oM oM (fun v' w5 hsp hf5 n5 hfr5 hb5=> ?_)
    ·intro q u hq
     rw [Nat.zero_add,cell_drew,cell_new _ _ _ _ _ (by simp only [RZ])]
     simpa using hq
    have hS5:Cells w5 w1.heap.size 212 2 (stF (Y.tb 0) (.slice pa i pc)):=(hS3.ext xZ).frm hfr5 (fun hb=>vS _ hb rfl)
    have lt5:=hS5.lt
    have fz5:=hS5.frz
    have t1:w5.cell? ⟨w1.heap.size,1,none⟩=some (.slice pa i pc):=hS5.cell (i:=1) oM
    have vS':∀b,v'.ownBlock=some b→b≠w1.heap.size:=fun b hb e=>by
     rcases hb5 b hb with h5|h5
     ·exact vS b h5 e
     ·simp only [RZ] at h5;omega
    have iv:=isOne_sl hsp
    simp (disch:=try exact dZ) only [↓RBp,↓RA,↓reduceIte,Nat.reduceAdd,Nat.reduceMul,Nat.reduceEqDiff,RB,RX,RA2,fz5,t1,iv]
    apply hE
    ·refine ⟨i+1,v',by simp,by omega,hf5.set _ (fun hb=>by simp only at hb;omega),n5,vS',?_,?_,fun k hk=> ?_⟩
     ·exact (hS5.set (i:=1) v' oM).congr (fun j hj=>by
       rcases j with _|_|j
       ·rfl
       ·rfl
       ·omega)
     ·rw [hpl]
      exact hsp.of_heap (fun b hb=>heap_set_ne _ (vS' b hb))
     ·by_cases hk2:k<i
      ·exact hall k hk2
      ·have:k=i:=by omega
       subst this;exact hok
    ·simp [intOf];omega
  ·have:i=n:=by omega
   subst this
   have hi0:0<i:=by omega
   obtain ⟨b,ob,cap,rfl,_⟩:=hs.isS hi0
   have hb1:=nv b rfl
   have hes:=e1.size
   unfold f120_l1_t
   simp (disch:=try exact dZ) only [↓RBp,↓RA,↓reduceIte,Nat.reduceAdd,Nat.reduceMul,Nat.reduceEqDiff,RB,RX,RA2,f120_k1_eq,f120_k1_t]
   have hw0:=h.ex.size
   refine hK hall _ _ _ _ _ (e1.trans e2) hes oM ⟨h2,gl,hS,hs,⟨by omega,fun hf=> ?_,fun hh=>vS b rfl hh.symm⟩,⟨by omega,fun hf=> ?_⟩,hi0,by omega⟩
   ·have:=h.dv.lt hf;omega
   ·have:=h.dv.lt hf;omega
end
end Go.Proofs.YtmpehclnnjgmcaaGreatDoor
namespace Go.Proofs.YtmpehclnnjgmcaaGreatDoor
def wB (W:Nat→Nat) (i:Nat):Nat:=W (i/8)/2^(8*(i%8))%256
end Go.Proofs.YtmpehclnnjgmcaaGreatDoor
namespace Go.Proofs.YtmpehclnnjgmcaaGreatDoor
open Go Go.Sh
section
variable {w w':World} {Y:Lay} {D D':DS}
def ImgW (D:DS) (F:Nat→Nat):Prop:=∀j,j<8*D.n→F j=D.pers j∨∃x∈D.hist (j/8),x.1/8=j∧F j=x.2
theorem ImgW.app {F:Nat→Nat} (h:ImgW D F) (g:Good D) {n:Nat} (hn:n<D.n) (k:Nat):ImgW D (applyH ((D.hist n).take k) F):=by
 intro j hj
 have key:∀(ws:List (Nat×Nat)),(∀x∈ws,x∈D.hist n)→∀F,ImgW D F→ImgW D (applyH ws F):=by
  intro ws
  induction ws with
  |nil=>intro _ F hF;exact hF
  |cons x ws ih=>
   intro hm F hF
   rw [applyH_cons]
   refine ih (fun y hy=>hm y (by simp [hy])) _ (fun i hi=> ?_)
   have hxm:=hm x (by simp)
   have hxg:=g.hist n hn x.1 x.2 hxm
   by_cases e:i=x.1/8
   ·rw [if_pos e]
    right
    refine ⟨x,?_,e.symm,rfl⟩
    rw [show i/8=n by omega];exact hxm
   ·rw [if_neg e];exact hF i hi
 exact key _ (fun x hx=>List.mem_of_mem_take hx) F h j hj
theorem ImgW.lt {F:Nat→Nat} (h:ImgW D F) (g:Good D) (j:Nat) (hj:j<8*D.n):F j<18446744073709551616:=by
 rcases h j hj with h1|⟨x,hx,_,h2⟩
 ·rw [h1];exact g.pers j hj
 ·rw [h2];exact (g.hist (j/8) oM x.1 x.2 hx).2.2
end
structure Co where
 cur:Nat→Nat
 pers:Nat→Nat
 done:Nat→Nat
 hist:Nat→List (Nat×Nat)
 notes:Int→Option Nat
def DS.co (D:DS):Co:=⟨D.cur,D.pers,D.done,D.hist,D.notes 0⟩
def Co.st (C:Co) (off v:Nat):Co:={C with hist:=fun j=>if j=off/64 then C.hist (off/64)++ [(off,v)] else C.hist j,cur:=fun j=>if j=off/8 then v else C.cur j}
def Co.fl (C:Co) (off:Nat):Co:={C with notes:=fun i=>if i=((off/64:Nat):Int) then some (C.done (off/64)+(C.hist (off/64)).length) else C.notes i}
def Co.due (C:Co) (l:Nat):Nat:=match C.notes (l:Int) with
 |some p=>p-C.done l
 |none=>0
def Co.fe (C:Co):Co:=⟨C.cur,fun x=>applyH ((C.hist (x/8)).take (C.due (x/8))) C.pers x,fun l=>C.done l+C.due l,fun l=>(C.hist l).drop (C.due l),fun _=>none⟩
def Co.ex (C:Co) (i:Ins):Co:=if i.op=1 then C.st i.off i.val else if i.op=2 then C.fl i.off else C.fe
def Co.run (C:Co) (p:List Ins):Co:=p.foldl Co.ex C
def vIns (n:Nat) (i:Ins):Prop:=(i.op=1→i.off%8=0∧i.off<n*64)∧(i.op=2→i.off<n*64)
theorem fail_co (D:DS) (e:Int):(D.fail 0 e).co=D.co∧(D.fail 0 e).off=D.off∧(D.fail 0 e).n=D.n:=by
 unfold DS.fail
 split<;>exact ⟨rfl,rfl,rfl⟩
theorem exec_co (D:DS) (i:Ins) (hv:vIns D.n i):((D.exec 0 i).co=D.co.ex i∧(D.exec 0 i).off=D.off∧D.off=false)∨((D.exec 0 i).co=D.co∧(D.exec 0 i).off=true):=by
 have stp:∀(b:Bool),b=true→(D.runs b=true∧(D.counted 0 b).co=D.co∧(D.counted 0 b).off=D.off∧D.off=false)∨(D.runs b=false∧(D.counted 0 b).co=D.co∧(D.counted 0 b).off=true):=by
  intro b hb
  subst hb
  unfold DS.runs DS.counted
  by_cases ho:D.off=true
  ·right
   have:=fail_co D 3
   rw [if_pos ho]
   exact ⟨by simp [ho],this.1,by rw [this.2.1];exact ho⟩
  ·have ho':D.off=false:=by simpa using ho
   rw [if_neg ho,if_neg (by simp)]
   by_cases ha:D.armed=true
   ·rw [if_pos ha]
    by_cases hl:D.left=0
    ·right
     rw [if_pos hl]
     have:=fail_co ({D with off:=true}:DS) 3
     exact ⟨by simp [ha,hl],this.1,this.2.1⟩
    ·left
     rw [if_neg hl]
     exact ⟨by simp [ho',ha,hl],rfl,rfl,ho'⟩
   ·left
    rw [if_neg ha]
    have ha':D.armed=false:=by simpa using ha
    exact ⟨by simp [ho',ha'],rfl,rfl,ho'⟩
 unfold DS.exec Co.ex
 by_cases h1:i.op=1
 ·rw [if_pos h1,if_pos h1]
  have hb:=hv.1 h1
  have hvb:vOff D i.off=true:=by unfold vOff;rw [decide_eq_true hb.1,decide_eq_true hb.2];rfl
  unfold DS.store
  rcases stp (vOff D i.off) hvb with ⟨r,a,b,c⟩|⟨r,a,b⟩
  ·left
   rw [if_pos r]
   refine ⟨?_,b,c⟩
   have e:((D.counted 0 (vOff D i.off)).write i.off i.val).co=(D.counted 0 (vOff D i.off)).co.st i.off i.val:=rfl
   rw [e,a]
  ·right
   rw [if_neg (by simp [r])]
   exact ⟨a,b⟩
 ·rw [if_neg h1,if_neg h1]
  by_cases h2:i.op=2
  ·rw [if_pos h2,if_pos h2]
   have hb:=hv.2 h2
   have hvb:fOff D i.off=true:=by unfold fOff;rw [decide_eq_true hb]
   unfold DS.flush
   rcases stp (fOff D i.off) hvb with ⟨r,a,b,c⟩|⟨r,a,b⟩
   ·left
    rw [if_pos r]
    refine ⟨?_,b,c⟩
    have hd:D.done=D.co.done:=rfl
    have hh:D.hist=D.co.hist:=rfl
    have e:((D.counted 0 (fOff D i.off)).note 0 ((i.off/64:Nat):Int) (D.done (i.off/64)+(D.hist (i.off/64)).length)).co={(D.counted 0 (fOff D i.off)).co with notes:=fun k=>if k=((i.off/64:Nat):Int) then some (D.done (i.off/64)+(D.hist (i.off/64)).length) else (D.counted 0 (fOff D i.off)).co.notes k}:=by
     unfold DS.note DS.co;simp
    rw [e,a];rfl
   ·right
    rw [if_neg (by simp [r])]
    exact ⟨a,b⟩
  ·rw [if_neg h2,if_neg h2]
   unfold DS.fence
   rcases stp true rfl with ⟨r,a,b,c⟩|⟨r,a,b⟩
   ·left
    rw [if_pos r]
    refine ⟨?_,b,c⟩
    have hdu:D.due 0=D.co.due:=by funext l;rfl
    have e:(((D.counted 0 true).parts (D.due 0)).clr 0).co=⟨(D.counted 0 true).co.cur,fun x=>applyH (((D.counted 0 true).co.hist (x/8)).take (D.due 0 (x/8))) (D.counted 0 true).co.pers x,fun l=>(D.counted 0 true).co.done l+D.due 0 l,fun l=>((D.counted 0 true).co.hist l).drop (D.due 0 l),fun _=>none⟩:=by
     unfold DS.clr DS.parts DS.co;simp
    rw [e,a,hdu];rfl
   ·right
    rw [if_neg (by simp [r])]
    exact ⟨a,b⟩
theorem run_off (p:List Ins):∀(D:DS),D.off=true→(∀i∈p,vIns D.n i)→(D.run 0 p).co=D.co∧(D.run 0 p).off=true:=by
 induction p with
 |nil=>intro D h _;exact ⟨rfl,h⟩
 |cons i p ih=>
  intro D h hv
  rw [run_cons]
  rcases exec_co D i (hv i (by simp)) with ⟨_,_,c⟩|⟨a,b⟩
  ·rw [h] at c;cases c
  ·have:=ih (D.exec 0 i) b (fun j hj=>by rw [exec_n];exact hv j (by simp [hj]))
   exact ⟨this.1.trans a,this.2⟩
theorem run_co (p:List Ins):∀(D:DS),D.off=false→(∀i∈p,vIns D.n i)→∃m,m≤p.length∧(D.run 0 p).co=D.co.run (p.take m)∧(m<p.length→(D.run 0 p).off=true):=by
 induction p with
 |nil=>intro D h _;exact ⟨0,by simp,rfl,fun h=>by simp at h⟩
 |cons i p ih=>
  intro D h hv
  rw [run_cons]
  have hv2:∀j∈p,vIns (D.exec 0 i).n j:=fun j hj=>by rw [exec_n];exact hv j (by simp [hj])
  rcases exec_co D i (hv i (by simp)) with ⟨a,b,_⟩|⟨a,b⟩
  ·obtain ⟨m,hm,h1,h2⟩:=ih (D.exec 0 i) (by rw [b];exact h) hv2
   refine ⟨m+1,by simp;omega,?_,fun hl=>h2 (by simp at hl;omega)⟩
   rw [h1,a];rfl
  ·have:=run_off p (D.exec 0 i) b hv2
   exact ⟨0,by simp,this.1.trans a,fun _=>this.2⟩
theorem corun_append (C:Co) (p q:List Ins):C.run (p++q)=(C.run p).run q:=by simp [Co.run,List.foldl_append]
theorem corun_cons (C:Co) (i:Ins) (p:List Ins):C.run (i::p)=(C.ex i).run p:=rfl
structure Cln (C:Co):Prop where
 hist:∀l,C.hist l= []
 notes:C.notes=fun _=>none
 pers:∀x,C.pers x=C.cur x
def J1 (C:Co):Prop:=∀x,C.cur x=applyH (C.hist (x/8)) C.pers x
theorem Cln.j1 {C:Co} (h:Cln C):J1 C:=fun x=>by rw [h.hist];exact (h.pers x).symm
theorem applyH_app (a b:List (Nat×Nat)) (f:Nat→Nat):applyH (a++b) f=applyH b (applyH a f):=by unfold applyH;rw [List.foldl_append]
theorem J1.st {C:Co} (h:J1 C) (off v:Nat):J1 (C.st off v):=by
 intro x
 unfold Co.st
 simp only
 by_cases e:x/8=off/64
 ·rw [if_pos e,applyH_app]
  show _=if x=off/8 then v else applyH (C.hist (off/64)) C.pers x
  by_cases e2:x=off/8
  ·rw [if_pos e2,if_pos e2]
  ·rw [if_neg e2,if_neg e2,h x,e]
 ·rw [if_neg e,if_neg oM]
  exact h x
theorem J1.fe {C:Co} (h:J1 C) (hd:∀l,(C.hist l).length≤C.due l):Cln C.fe∧C.fe.cur=C.cur:=by
 refine ⟨⟨fun l=>List.drop_eq_nil_of_le (hd l),rfl,fun x=> ?_⟩,rfl⟩
 show applyH ((C.hist (x/8)).take (C.due (x/8))) C.pers x=C.cur x
 rw [List.take_of_length_le (hd _)]
 exact (h x).symm
theorem run_wr (ws:List (Nat×Nat)):∀(C:Co),J1 C→J1 (C.run (ws.map wrI))∧(C.run (ws.map wrI)).cur=applyH ws C.cur∧(C.run (ws.map wrI)).notes=C.notes∧(C.run (ws.map wrI)).done=C.done∧∀l,(C.run (ws.map wrI)).hist l≠ []→C.hist l≠ []∨∃x∈ws,x.1/64=l:=by
 induction ws with
 |nil=>intro C h;exact ⟨h,rfl,rfl,rfl,fun l hl=> .inl hl⟩
 |cons x ws ih=>
  intro C h
  rw [List.map_cons,corun_cons]
  have e:C.ex (wrI x)=C.st x.1 x.2:=rfl
  rw [e]
  obtain ⟨a,b,c,d,f⟩:=ih (C.st x.1 x.2) (h.st _ _)
  refine ⟨a,by rw [b,applyH_cons];rfl,c,d,fun l hl=> ?_⟩
  rcases f l hl with h1|⟨y,hy,h1⟩
  ·by_cases e2:l=x.1/64
   ·exact .inr ⟨x,by simp,e2.symm⟩
   ·left
    unfold Co.st at h1
    simp only [if_neg e2] at h1
    exact h1
  ·exact .inr ⟨y,by simp [hy],h1⟩
theorem run_fl (ls:List Nat):∀(C:Co),J1 C→J1 (C.run (ls.map flI))∧(C.run (ls.map flI)).cur=C.cur∧(C.run (ls.map flI)).hist=C.hist∧(C.run (ls.map flI)).done=C.done∧(∀x∈ls,(C.run (ls.map flI)).notes ((x/64:Nat):Int)=some (C.done (x/64)+(C.hist (x/64)).length))∧∀l p,C.notes l=some p→(∃k:Nat,l=(k:Int)∧p=C.done k+(C.hist k).length)→(C.run (ls.map flI)).notes l=some p:=by
 induction ls with
 |nil=>intro C h;exact ⟨h,rfl,rfl,rfl,fun x hx=>(by cases hx),fun l p hp _=>hp⟩
 |cons x ls ih=>
  intro C h
  rw [List.map_cons,corun_cons]
  have e:C.ex (flI x)=C.fl x:=rfl
  rw [e]
  obtain ⟨a,b,c,d,f,g⟩:=ih (C.fl x) h
  have hn:(C.fl x).notes ((x/64:Nat):Int)=some (C.done (x/64)+(C.hist (x/64)).length):=by unfold Co.fl;simp
  refine ⟨a,b,c,d,fun y hy=> ?_,fun l p hp hk=> ?_⟩
  ·rcases List.mem_cons.1 hy with rfl|hy
   ·exact g _ _ hn ⟨y/64,rfl,rfl⟩
   ·exact f y hy
  ·refine g l p ?_ hk
   unfold Co.fl
   simp only
   by_cases e2:l=((x/64:Nat):Int)
   ·rw [if_pos e2]
    obtain ⟨k,hk1,hk2⟩:=hk
    have:k=x/64:=by omega
    subst this;rw [hk2]
   ·rw [if_neg e2];exact hp
theorem kpN_all (d:Array Nat):∀n,n≤d.size→∀i,i<n→d[i]!∈kpN d n:=by
 intro n
 induction n with
 |zero=>intro _ i hi;omega
 |succ n ih=>
  intro hn i hi
  simp only [kpN,List.mem_append]
  by_cases e:i=n
  ·subst e
   by_cases h:i=0∨d[i]!≠d[i-1]!
   ·right;rw [if_pos h];simp
   ·left
    have h1:i≠0:=fun e=>h (.inl e)
    have h2:d[i]! =d[i-1]! :=Classical.byContradiction (fun e=>h (.inr e))
    rw [h2]
    exact ih oM (i-1) oM
  ·exact .inl (ih oM i oM)
theorem cmpN_all {l:List Nat} {x:Nat} (h:x∈l):x∈cmpN l:=by
 obtain ⟨i,hi,rfl⟩:=List.mem_iff_getElem.1 h
 have:=kpN_all l.toArray l.length (by simp) i hi
 rw [getElem!_pos l.toArray i (by simpa using hi)] at this
 unfold cmpN
 simpa using this
theorem storesI_all {ws:List (Nat×Nat)} {x:Nat×Nat} (h:x∈ws):lineS x.1∈cmpN (srtN (ws.map fun x=>lineS x.1)):=
 cmpN_all ((srtN_perm _).mem_iff.2 (List.mem_map.2 ⟨x,h,rfl⟩))
theorem run_stores {C:Co} (h:Cln C) (ws:List (Nat×Nat)):Cln (C.run (storesI ws))∧(C.run (storesI ws)).cur=applyH ws C.cur:=by
 unfold storesI
 rw [corun_append,corun_append]
 obtain ⟨a,b,c,d,f⟩:=run_wr ws C h.j1
 obtain ⟨a2,b2,c2,d2,f2,_⟩:=run_fl (cmpN (srtN (ws.map fun x=>lineS x.1))) _ a
 generalize (C.run (ws.map wrI))=C1 at*
 generalize (C1.run ((cmpN (srtN (ws.map fun x=>lineS x.1))).map flI))=C2 at*
 have e:C2.run [⟨3,0,0⟩]=C2.fe:=rfl
 rw [e]
 have:=a2.fe (fun l=>by
  by_cases h0:C2.hist l= []
  ·rw [h0];simp
  ·rw [c2] at h0
   rcases f l h0 with h1|⟨x,hx,h1⟩
   ·exact absurd (h.hist l) h1
   ·have hn:=f2 _ (storesI_all hx)
    have hl:lineS x.1/64=l:=by unfold lineS;omega
    rw [hl] at hn
    unfold Co.due
    rw [hn,c2,d2];simp)
 exact ⟨this.1,by rw [this.2,b2,b]⟩
def QA (C:Co) (a X:Nat):Prop:=C.pers a=X∧∀l,∀x∈C.hist l,x.1/8≠a
theorem QA.ex {C:Co} {a X:Nat} (h:QA C a X) (i:Ins) (hi:i.op=1→i.off/8≠a):QA (C.ex i) a X:=by
 unfold Co.ex
 split
 ·rename_i h1
  refine ⟨h.1,fun l x hx=> ?_⟩
  unfold Co.st at hx
  simp only at hx
  split at hx
  ·rcases List.mem_append.1 hx with hx|hx
   ·exact h.2 _ x hx
   ·simp only [List.mem_singleton] at hx;subst hx;exact hi h1
  ·exact h.2 l x hx
 ·split
  ·exact h
  ·refine ⟨?_,fun l x hx=>h.2 l x (List.mem_of_mem_drop hx)⟩
   show applyH _ C.pers a=X
   rw [applyH_other _ _ _ (fun y hy=>h.2 _ y (List.mem_of_mem_take hy))];exact h.1
theorem QA.run {a X:Nat} (p:List Ins):∀{C:Co},QA C a X→(∀i∈p,i.op=1→i.off/8≠a)→QA (C.run p) a X:=by
 induction p with
 |nil=>intro C h _;exact h
 |cons i p ih=>
  intro C h hi
  rw [corun_cons]
  exact ih (h.ex i (hi i (by simp))) (fun j hj=>hi j (by simp [hj]))
def RQ (C:Co) (a X H:Nat) (G:Nat→Nat):Prop:=(∀j,j≠a→C.pers j=G j)∧(C.pers a=X∨C.pers a=H)∧∀l,∀x∈C.hist l,x.1/8=a∧x.2=H
theorem app_one {a H:Nat}:∀(ws:List (Nat×Nat)),(∀x∈ws,x.1/8=a∧x.2=H)→∀(f:Nat→Nat),applyH ws f a=f a∨applyH ws f a=H:=by
 intro ws
 induction ws with
 |nil=>intro _ f;exact .inl rfl
 |cons x ws ih=>
  intro h f
  rw [applyH_cons]
  have hx:=h x (by simp)
  rcases ih (fun y hy=>h y (by simp [hy])) (fun j=>if j=x.1/8 then x.2 else f j) with h1|h1
  ·rw [h1]
   rw [if_pos hx.1.symm]
   exact .inr hx.2
  ·exact .inr h1
theorem RQ.ex {C:Co} {a X H:Nat} {G:Nat→Nat} (h:RQ C a X H G) (i:Ins) (hi:i.op=1→i.off/8=a∧i.val=H):RQ (C.ex i) a X H G:=by
 unfold Co.ex
 split
 ·rename_i h1
  refine ⟨h.1,h.2.1,fun l x hx=> ?_⟩
  unfold Co.st at hx
  simp only at hx
  split at hx
  ·rcases List.mem_append.1 hx with hx|hx
   ·exact h.2.2 _ x hx
   ·simp only [List.mem_singleton] at hx;subst hx;exact hi h1
  ·exact h.2.2 l x hx
 ·split
  ·exact h
  ·refine ⟨fun j hj=> ?_,?_,fun l x hx=>h.2.2 l x (List.mem_of_mem_drop hx)⟩
   ·show applyH _ C.pers j=G j
    rw [applyH_other _ _ _ (fun y hy e=>hj (by rw [←e];exact (h.2.2 _ y (List.mem_of_mem_take hy)).1))];exact h.1 j hj
   ·show applyH _ C.pers a=X∨applyH _ C.pers a=H
    rcases app_one ((C.hist (a/8)).take (C.due (a/8))) (fun x hx=>h.2.2 _ x (List.mem_of_mem_take hx)) C.pers with h1|h1
    ·rw [h1];exact h.2.1
    ·exact .inr h1
theorem RQ.run {a X H:Nat} {G:Nat→Nat} (p:List Ins):∀{C:Co},RQ C a X H G→(∀i∈p,i.op=1→i.off/8=a∧i.val=H)→RQ (C.run p) a X H G:=by
 induction p with
 |nil=>intro C h _;exact h
 |cons i p ih=>
  intro C h hi
  rw [corun_cons]
  exact ih (h.ex i (hi i (by simp))) (fun j hj=>hi j (by simp [hj]))
section
variable {D:DS} {l g n:Nat} {c o:Int}
theorem planW_at (c0:0≤c) (c5:c<5) (f:Nat→Nat):(∀j,j≠0→j<8→applyH (planW l c g) f (l*8+j)=0)∧∀i:Nat,(i:Int)<perS c→applyH (planW l c g) f (l*8+offN c i)=sealN (blkX g 0 176):=by
 have hp:=perS_in c0 c5
 have hA:∀j,∀y∈planW l c g,y.1/8=l*8+j→(8≤j∧y.2=sealN (blkX g 0 176))∨(j<8∧y.2=0):=by
  intro j y hy hyj
  rcases List.mem_append.1 hy with hy|hy
  ·obtain ⟨i,hi,rfl⟩:=List.mem_map.1 hy
   rw [List.mem_range] at hi
   have hb2:=offS_bd c0 c5 (show 0≤(i:Int) by omega) oM
   left
   simp only at hyj
   exact ⟨by omega,rfl⟩
  ·obtain ⟨i,hi,rfl⟩:=List.mem_map.1 hy
   rw [List.mem_range] at hi
   right
   simp only at hyj
   exact ⟨by omega,rfl⟩
 constructor
 ·intro j h0 h8
  refine applyH_val (fun y hy hyj=> ?_) (.inl ⟨(l*64+(j-1+1)*8,0),List.mem_append_right _ (List.mem_map.2 ⟨j-1,List.mem_range.2 oM,rfl⟩),by simp only;omega⟩)
  rcases hA j y hy hyj with h|h
  ·omega
  ·exact h.2
 ·intro i hi
  have bd:=offN_bd c0 c5 hi
  refine applyH_val (fun y hy hyj=> ?_) (.inl ⟨_,List.mem_append_left _ (List.mem_map.2 ⟨i,List.mem_range.2 oM,rfl⟩),?_⟩)
  ·rcases hA _ y hy hyj with h|h
   ·exact h.2
   ·omega
  ·simp only;omega
end
section
variable {D D':DS} {l k g:Nat} {c o:Int}
theorem alF_of:∀{n:Nat},(∀i,i<n→okF D l c i=true)→alF D l c n=true:=by
 intro n
 induction n with
 |zero=>intro _;rfl
 |succ n ih=>intro h;simp only [alF,ih (fun i hi=>h i oM),h n oM];rfl
theorem alF_ok {n:Nat} (h:alF D l c n=true) (i:Nat) (hi:i<n):okF D l c i=true:=by
 cases hh:okF D l c i with
 |true=>rfl
 |false=>rw [alF_no hi hh] at h;cases h
theorem mxG_le:∀(n i:Nat),i<n→bG (wd D l (offN c i))≤mxG D l c n:=by
 intro n
 induction n with
 |zero=>intro i hi;omega
 |succ n ih=>
  intro i hi
  simp only [mxG]
  by_cases e:i=n
  ·subst e;split<;>omega
  ·have:=ih i oM
   split<;>omega
theorem mxG_lt:∀(n:Nat),mxG D l c n<65536:=by
 intro n
 induction n with
 |zero=>simp [mxG]
 |succ n ih=>
  simp only [mxG]
  have:=bG_lt (wd D l (offN c n))
  split<;>omega
theorem okF_parts {i:Nat} (h:okF D l c i=true):bS (wd D l (offN c i))=176∧bG (wd D l (offN c i))≠0:=by
 unfold okF at h
 simp only [Bool.and_eq_true,decide_eq_true_eq,Bool.not_eq_true',decide_eq_false_iff_not] at h
 exact ⟨h.2.2.1,h.2.2.2⟩
theorem mxG_ne {n:Nat} (h:alF D l c n=true) (h0:0<n):mxG D l c n≠0:=by
 have h1:=(okF_parts (alF_ok h 0 h0)).2
 have h2:=mxG_le (D:=D) (l:=l) (c:=c) n 0 h0
 omega
def OE (D:DS):Prop:=D.off=true→D.err 0≠0
theorem fail_ne (D:DS) (e:Int) (he:e≠0):(D.fail 0 e).err 0≠0:=by
 unfold DS.fail
 split
 ·simpa using he
 ·assumption
theorem counted_oe (h:OE D) (b:Bool):OE (D.counted 0 b):=by
 unfold DS.counted
 intro ho
 split
 ·exact fail_ne _ _ oM
 ·rename_i h1
  have h1:D.off=false:=by simpa using h1
  split
  ·exact fail_ne _ _ oM
  ·split
   ·split
    ·exact fail_ne _ _ oM
    ·rename_i h2 h3 h4
     rw [if_neg (by simp [h1]),if_neg h2,if_pos h3,if_neg h4] at ho
     rw [show ({D with left:=D.left-1,exe:=D.exe+1}:DS).off=D.off from rfl,h1] at ho;cases ho
   ·rename_i h2 h3
    rw [if_neg (by simp [h1]),if_neg h2,if_neg h3] at ho
    rw [show ({D with exe:=D.exe+1}:DS).off=D.off from rfl,h1] at ho;cases ho
theorem exec_oe (h:OE D) (i:Ins):OE (D.exec 0 i):=by
 unfold DS.exec
 split
 ·unfold DS.store
  split
  ·exact fun ho=>counted_oe h _ ho
  ·exact counted_oe h _
 ·split
  ·unfold DS.flush
   split
   ·exact fun ho=>counted_oe h _ ho
   ·exact counted_oe h _
  ·unfold DS.fence
   split
   ·exact fun ho=>counted_oe h _ ho
   ·exact counted_oe h _
theorem run_oe:∀(p:List Ins) (D:DS),OE D→OE (D.run 0 p)
 | [],D,h=>h
 |i::p,D,h=>by rw [run_cons];exact run_oe p _ (exec_oe h i)
theorem On.oe (h:On D):OE D:=fun ho=>by rw [h.off] at ho;cases ho
theorem plan_len (l:Nat) (c0:0≤c) (c5:c<5) (o:Int) (g:Nat):(planI l c o g).length≤200:=by
 have hp:=perS_in c0 c5
 have h4:=storesI_le (planW l c g)
 have h5:=storesI_le [(l*64,sealN (hdX c o g))]
 have h6:=planW_len l c g
 have h7:(planI l c o g).length=(storesI (planW l c g)).length+(storesI [(l*64,sealN (hdX c o g))]).length:=by unfold planI;rw [List.length_append]
 simp only [List.length_singleton] at h5
 omega
theorem vIns_stores {n:Nat} {ws:List (Nat×Nat)} (h:∀x∈ws,x.1%8=0∧x.1<n*64):∀i∈storesI ws,vIns n i:=by
 intro i hi
 unfold storesI at hi
 simp only [List.mem_append,List.mem_map,List.mem_singleton] at hi
 rcases hi with (⟨x,hx,rfl⟩|⟨x,hx,rfl⟩)|rfl
 ·exact ⟨fun _=>h x hx,fun h2=>by simp [wrI] at h2⟩
 ·obtain ⟨y,hy,rfl⟩:=storesI_line hx
  have:=h y hy
  refine ⟨fun h1=>by simp [flI] at h1,fun _=> ?_⟩
  show lineS y.1<n*64
  unfold lineS;omega
 ·exact ⟨fun h1=>by simp at h1,fun h2=>by simp at h2⟩
theorem co_run_wr:∀(ws:List (Nat×Nat)) (C:Co),(C.run (ws.map wrI)).cur=applyH ws C.cur
 | [],C=>rfl
 |x::ws,C=>by
  rw [List.map_cons,corun_cons,co_run_wr ws]
  rfl
theorem co_run_fl:∀(ls:List Nat) (C:Co),(C.run (ls.map flI)).cur=C.cur
 | [],C=>rfl
 |x::ls,C=>by
  rw [List.map_cons,corun_cons,co_run_fl ls]
  rfl
theorem co_run_stores (ws:List (Nat×Nat)) (C:Co):(C.run (storesI ws)).cur=applyH ws C.cur:=by
 unfold storesI
 rw [corun_append,corun_append]
 show ((C.run (ws.map wrI)).run _).cur=_
 rw [co_run_fl,co_run_wr]
theorem run_all {p:List Ins} (ho:D.off=false) (he:D.err 0=0) (hv:∀i∈p,vIns D.n i) (h:(D.run 0 p).err 0=0):(D.run 0 p).co=D.co.run p∧(D.run 0 p).off=false:=by
 have oe:OE (D.run 0 p):=run_oe p D (fun h=>by rw [ho] at h;cases h)
 have hoff:(D.run 0 p).off=false:=by
  cases hh:(D.run 0 p).off with
  |false=>rfl
  |true=>exact absurd h (oe hh)
 obtain ⟨m,hm,hc,hi⟩:=run_co p D ho hv
 have:m=p.length:=by
  rcases Nat.lt_or_ge m p.length with h1|h1
  ·rw [hi h1] at hoff;cases hoff
  ·omega
 subst this
 rw [List.take_length] at hc
 exact ⟨hc,hoff⟩
theorem vIns_clr {n:Nat} (hl:l+32≤n) (g:Nat):∀i∈clrI l g,vIns n i:=vIns_stores (fun x hx=>by simp only [List.mem_singleton] at hx;subst hx;simp only;omega)
theorem planW_in {n:Nat} (hl:l+32≤n) (c0:0≤c) (c5:c<5) (g:Nat):∀x∈planW l c g,x.1%8=0∧x.1<n*64∧l*64≤x.1∧x.1<l*64+2048:=by
 have hp:=perS_in c0 c5
 intro x hx
 rcases List.mem_append.1 hx with hx|hx
 ·obtain ⟨j,hj,rfl⟩:=List.mem_map.1 hx
  have hb2:=offS_bd c0 c5 (show 0≤(j:Int) by omega) (by rw [List.mem_range] at hj;omega)
  have hw:=wordsS_in c0 c5
  simp only;omega
 ·obtain ⟨j,hj,rfl⟩:=List.mem_map.1 hx
  rw [List.mem_range] at hj
  simp only;omega
theorem vIns_plan {n:Nat} (hl:l+32≤n) (c0:0≤c) (c5:c<5) (o:Int) (g:Nat):∀i∈planI l c o g,vIns n i:=by
 intro i hi
 unfold planI at hi
 rcases List.mem_append.1 hi with hi|hi
 ·exact vIns_stores (fun x hx=>⟨(planW_in hl c0 c5 g x hx).1,(planW_in hl c0 c5 g x hx).2.1⟩) i hi
 ·exact vIns_stores (fun x hx=>by simp only [List.mem_singleton] at hx;subst hx;simp only;omega) i hi
theorem clr_cur (ho:D.off=false) (he:D.err 0=0) (hl:l+32≤D.n) (h:(D.run 0 (clrI l g)).err 0=0):(D.run 0 (clrI l g)).cur=(fun j=>if j=l*8 then sealN (hdX (-1) (-1) g) else D.cur j)∧(D.run 0 (clrI l g)).off=false:=by
 obtain ⟨h1,h2⟩:=run_all ho he (vIns_clr hl g) h
 refine ⟨?_,h2⟩
 have e:(D.run 0 (clrI l g)).cur=(D.co.run (clrI l g)).cur:=by rw [←h1];rfl
 rw [e]
 unfold clrI
 rw [co_run_stores]
 funext j
 show (if j=l*64/8 then _ else D.cur j)=_
 rw [show l*64/8=l*8 by omega]
def planF (c o:Int) (g:Nat) (W:Nat→Nat) (j:Nat):Nat:=if j=0 then sealN (hdX c o g) else if isB c j=true then sealN (blkX g 0 176) else if j<8 then 0 else W j
theorem isB_mem {j:Nat}:isB c j=true↔∃i,i<(perS c).toNat∧offN c i=j:=by
 unfold isB
 rw [List.any_eq_true]
 constructor
 ·intro ⟨i,h1,h2⟩;exact ⟨i,List.mem_range.1 h1,by simpa using h2⟩
 ·intro ⟨i,h1,h2⟩;exact ⟨i,List.mem_range.2 h1,by simpa using h2⟩
theorem plan_app (c0:0≤c) (c5:c<5) (f:Nat→Nat) (j:Nat):applyH [(l*64,sealN (hdX c o g))] (applyH (planW l c g) f) j=if l*8≤j∧j<l*8+256 then planF c o g (fun i=>f (l*8+i)) (j-l*8) else f j:=by
 have hp:=perS_in c0 c5
 have hw:=planW_at (l:=l) (g:=g) c0 c5 f
 have h1:∀f:Nat→Nat,applyH [(l*64,sealN (hdX c o g))] f j=if j=l*8 then sealN (hdX c o g) else f j:=fun f=>by
  show (if j=l*64/8 then _ else f j)=_
  rw [show l*64/8=l*8 by omega]
 rw [h1]
 by_cases hin:l*8≤j∧j<l*8+256
 ·rw [if_pos hin]
  obtain ⟨i,rfl⟩:∃i,j=l*8+i:=⟨j-l*8,by omega⟩
  rw [show l*8+i-l*8=i by omega]
  unfold planF
  by_cases h0:i=0
  ·subst h0;rw [if_pos oM,if_pos rfl]
  ·rw [if_neg oM,if_neg h0]
   by_cases hb:isB c i=true
   ·rw [if_pos hb]
    obtain ⟨q,h2,h3⟩:=isB_mem.1 hb
    rw [←h3]
    exact hw.2 q oM
   ·rw [if_neg hb]
    by_cases h8:i<8
    ·rw [if_pos h8];exact hw.1 i h0 h8
    ·rw [if_neg h8]
     refine applyH_other _ _ _ (fun y hy=> ?_)
     rcases List.mem_append.1 hy with hy|hy
     ·obtain ⟨q,hq,rfl⟩:=List.mem_map.1 hy
      rw [List.mem_range] at hq
      have hb2:=offN_bd c0 c5 (show (q:Int)<perS c by omega)
      intro e
      apply hb
      refine isB_mem.2 ⟨q,hq,?_⟩
      unfold offN at hb2 ⊢
      simp only at e
      omega
     ·obtain ⟨q,hq,rfl⟩:=List.mem_map.1 hy
      rw [List.mem_range] at hq
      simp only;omega
 ·rw [if_neg hin,if_neg oM]
  refine applyH_other _ _ _ (fun y hy=> ?_)
  rcases List.mem_append.1 hy with hy|hy
  ·obtain ⟨q,hq,rfl⟩:=List.mem_map.1 hy
   rw [List.mem_range] at hq
   have hb2:=offN_bd c0 c5 (show (q:Int)<perS c by omega)
   unfold offN at hb2
   simp only;omega
  ·obtain ⟨q,hq,rfl⟩:=List.mem_map.1 hy
   rw [List.mem_range] at hq
   simp only;omega
theorem plan_cur (ho:D.off=false) (he:D.err 0=0) (hl:l+32≤D.n) (c0:0≤c) (c5:c<5) (h:(D.run 0 (planI l c o g)).err 0=0):(D.run 0 (planI l c o g)).cur=(fun j=>if l*8≤j∧j<l*8+256 then planF c o g (wd D l) (j-l*8) else D.cur j)∧(D.run 0 (planI l c o g)).off=false:=by
 obtain ⟨h1,h2⟩:=run_all ho he (vIns_plan hl c0 c5 o g) h
 refine ⟨?_,h2⟩
 have e:(D.run 0 (planI l c o g)).cur=(D.co.run (planI l c o g)).cur:=by rw [←h1];rfl
 rw [e]
 unfold planI
 rw [corun_append,co_run_stores,co_run_stores]
 funext j
 have e1:wd D l=fun i=>D.cur (l*8+i):=by funext i;unfold wd;rfl
 rw [e1]
 exact plan_app (l:=l) (o:=o) (g:=g) c0 c5 D.cur j
end
theorem SlO.updZ {w:World} {t:TypeId} {z b o n cap:Nat} {L:List Value} (h:SlO w t z (.slice (some ⟨b,o,none⟩) n cap) n L) {i:Nat} (u:Value) (hi:i<n*z):SlO (w.setCell ⟨b,o+i,none⟩ u) t z (.slice (some ⟨b,o,none⟩) n cap) n (L.set i u):=by
 obtain ⟨hl,h|⟨b',o',cap',a,hv,hh,hnc,hcm,hsz,hg⟩⟩:=h
 ·cases h.1
 ·injection hv with hv h2 h3
  injection hv with hv
  injection hv with h4 h5 _
  subst h4;subst h5;subst h3
  have hm:=Nat.mul_le_mul_right z hnc
  have hC:Cells w b t a.size (fun j=>(a[j]?).getD undef):=⟨a,hh,Nat.le_refl _,fun j hj=>by simp only [Array.getElem?_eq_getElem hj,Option.getD_some]⟩
  have hC2:=hC.set (i:=o+i) u oM
  obtain ⟨a',hh',hs',hg'⟩:=hC2
  refine ⟨by rw [List.length_set];exact hl,.inr ⟨b,o,cap,a',rfl,hh',hnc,hcm,by omega,fun j x hj=> ?_⟩⟩
  have hjn:j<n*z:=by
   have:=(List.getElem?_eq_some_iff.1 hj).1
   rw [List.length_set] at this;omega
  rw [hg' (o+j) oM]
  simp only
  rw [List.getElem?_set] at hj
  by_cases e:i=j
  ·subst e
   rw [if_pos rfl,if_pos oM] at hj
   rw [if_pos rfl];exact hj
  ·rw [if_neg e] at hj
   rw [if_neg oM,hg j x hj,Option.getD_some]
def AgF (D:DS) (l0 n:Nat) (f:Nat→Int×Int×Bool):Prop:=∀k,k<n→hdOk (wd D (l0+32*k) 0)=true∧(f k).1=hC (wd D (l0+32*k) 0)∧(f k).2.1=hO (wd D (l0+32*k) 0)
def emG (D:DS) (l0:Nat) (f:Nat→Int×Int×Bool) (k:Nat):Option Nat:=if (f k).1<0 then none else if (f k).2.2=true then none else if alF D (l0+32*k) (f k).1 (perS (f k).1).toNat=true then some (mxG D (l0+32*k) (f k).1 (perS (f k).1).toNat) else none
theorem hd_cls {x:Nat} (h:hdOk x=true):hC x<5∧(0≤hC x→gX x≠0)∧gX x≠0∧-1≤hC x:=by
 simp only [hdOk,Bool.and_eq_true,Bool.not_eq_true',decide_eq_false_iff_not,Bool.or_eq_true,decide_eq_true_eq] at h
 obtain ⟨⟨⟨h1,h2⟩,h3⟩,h4⟩:=h
 have h5: -1≤hC x:=by unfold hC;omega
 refine ⟨?_,fun _=>h3,h3,h5⟩
 rcases h4 with ⟨a,_⟩|h4
 ·omega
 ·simp only [fmtB,Bool.and_eq_true,decide_eq_true_eq] at h4
  omega
structure AStp (w:World) (Y:Lay) (b:Nat) (w':World) (Y':Lay):Prop where
 tb:Y'.tb=Y.tb
 d:Y'.d=Y.d
 frm:Frm (fun x=>Y.F x∨x=b) w w'
 fr:∀x,Y'.F x→Y.F x∨w.heap.size≤x
 dt:Y'.dt=Y.dt∧Y'.ids=Y.ids
section
variable {w0 w w' w'':World} {Y Y' Y'':Lay} {D D':DS} {S b o cp l0 n k:Nat} {f f':Nat→Int×Int×Bool}
theorem AStp.of_ext (Y:Lay) (b:Nat) (e:Ext w w'):AStp w Y b w' Y:=⟨rfl,rfl,Frm.of_ext e,fun x hx=> .inl hx,rfl,rfl⟩
theorem AStp.of_stp (b:Nat) (s:Stp w Y w' Y' D'):AStp w Y b w' Y':=⟨s.tb,s.d,s.frm.mono (fun x hx=> .inl hx),s.fr,by rw [s.y];exact ⟨rfl,rfl⟩⟩
theorem AStp.trans (h:AStp w Y b w' Y') (k:AStp w' Y' b w'' Y''):AStp w Y b w'' Y'' where
 tb:=k.tb.trans h.tb
 dt:=⟨k.dt.1.trans h.dt.1,k.dt.2.trans h.dt.2⟩
 d:=k.d.trans h.d
 frm:=h.frm.trans k.frm (fun x hx hf=>by
  rcases hf with hf|hf
  ·rcases h.fr x hf with h1|h1
   ·exact .inl h1
   ·omega
  ·exact .inr hf)
 fr x hx:=by
  rcases k.fr x hx with h1|h1
  ·exact h.fr x h1
  ·exact .inr (Nat.le_trans h.frm.size h1)
theorem AStp.set (h:AStp w Y b w' Y') (i:Nat) (v:Value):AStp w Y b (w'.setCell ⟨b,i,none⟩ v) Y':=⟨h.tb,h.d,h.frm.set _ (fun _=> .inr rfl),h.fr,h.dt⟩
theorem ArS.emG_ok (h:ArS w0 w Y D S b o cp l0 n f) (ag:AgF D l0 n f) (hk:k<n) {g:Nat} (he:emG D l0 f k=some g):0≤(f k).1∧(f k).1<5∧(f k).2.2=false∧g≠0∧g<65536:=by
 have ha:=ag k hk
 have hc:=hd_cls ha.1
 rw [←ha.2.1] at hc
 unfold emG at he
 by_cases h1:(f k).1<0
 ·rw [if_pos h1] at he;cases he
 ·rw [if_neg h1] at he
  by_cases h2:(f k).2.2=true
  ·rw [if_pos h2] at he;cases he
  ·rw [if_neg h2] at he
   have hp:=perS_in (show 0≤(f k).1 by omega) hc.1
   split at he
   ·rename_i h3
    injection he with he
    subst he
    exact ⟨by omega,hc.1,by simpa using h2,mxG_ne h3 oM,mxG_lt _⟩
   ·cases he
theorem ArS.wr (h:ArS w0 w Y D S b o cp l0 n f) {i:Nat} {v:Value} (hi:i<n*4) (hL:(plL f l0 n).set i v=plL f' l0 n):ArS w0 (w.setCell ⟨b,o+i,none⟩ v) Y D S b o cp l0 n f':=by
 have hf:=Frm.one w b (o+i) v
 have h1:=SlO.updZ h.pl v hi
 rw [hL] at h1
 exact ⟨⟨h.L.dv.frm hf (fun x hx hg=>h.nb.2 (hg▸hx)),h.L.gd,Ext.frm h.L.ex hf (fun x hx=>hx▸h.nb.1),h.L.nw⟩,h.gl,h.st.set_ne _ h.nS.2.2,h1,h.nS,h.nb,h.n0,h.lt⟩
theorem cells5C {b t:Nat} {f:Nat→Value} (h:Cells w b t 5 f) (v0 v1 v2 v3 v4:Value):Cells (((((w.setCell ⟨b,0,none⟩ v0).setCell ⟨b,1,none⟩ v1).setCell ⟨b,2,none⟩ v2).setCell ⟨b,3,none⟩ v3).setCell ⟨b,4,none⟩ v4) b t 5 (fun i=> [v0,v1,v2,v3,v4].getD i undef):=by
 have h3:=((((h.set v0 (i:=0) oM).set v1 (i:=1) oM).set v2 (i:=2) oM).set v3 (i:=3) oM).set v4 (i:=4) oM
 refine h3.congr (fun i hi=> ?_)
 rcases i with _|_|_|_|_|i
 ·rfl
 ·rfl
 ·rfl
 ·rfl
 ·rfl
 ·omega
theorem cells3C {b t:Nat} {f:Nat→Value} (h:Cells w b t 3 f) (v0 v1 v2:Value):Cells (((w.setCell ⟨b,0,none⟩ v0).setCell ⟨b,1,none⟩ v1).setCell ⟨b,2,none⟩ v2) b t 3 (fun i=> [v0,v1,v2].getD i undef):=by
 have h3:=((h.set v0 (i:=0) oM).set v1 (i:=1) oM).set v2 (i:=2) oM
 refine h3.congr (fun i hi=> ?_)
 rcases i with _|_|_|i
 ·rfl
 ·rfl
 ·rfl
 ·omega
theorem cl_k1 (h:ArS w0 w Y D S b o cp l0 n f) (hk:k<n) (ho:D.off=false) (he:D.err 0=0) (c0:0≤(f k).1) (c5:(f k).1<5) {N:Nat} {oo:Int} {gg:Nat} (hN:Cells w N 134 5 (chF (Y.tb 0) (l0+32*k) (f k).1 oo gg)) (hh:(f k).2.2=false) (K:K1)
  (h0:emG D l0 f k=none→∀w',Ext w w'→K (.tuple #[.slice none 0 0,.bool false]) w')
  (h1:∀g,emG D l0 f k=some g→g≠0→g<65536→∀v w',Ext w w'→NewV w.heap.size v→SlO w' 220 3 v (clrI (l0+32*k) g).length (inL (clrI (l0+32*k) g))→K (.tuple #[v,.bool true]) w'):
  f183_k1 K (.pointer (some ⟨b,o+k*4,none⟩)) (.pointer (some ⟨N,0,none⟩)) (.int .i64 0) w:=by
 have hle:=h.le
 have hlt:=h.lt
 have hnn:=h.L.gd.n
 have ltb:=h.ltb
 have ltS:=h.ltS
 have hp:=perS_in c0 c5
 have hcx:Cx w Y D (l0+32*k) (f k).1:=⟨h.L.dv,h.L.gd,h.gl.ext h.L.ex,ho,by omega,c0,c5⟩
 have d0:w.cell? ⟨N,0,none⟩=some (.iface 31 (.pointer (some ⟨Y.tb 0,0,none⟩))):=hN.cell (i:=0) oM
 have d1:w.cell? ⟨N,1,none⟩=some (.int .i64 ((l0+32*k:Nat):Int)):=hN.cell (i:=1) oM
 have d2:w.cell? ⟨N,2,none⟩=some (.int .i64 (f k).1):=hN.cell (i:=2) oM
 have d3:w.cell? ⟨N,3,none⟩=some (.int .i64 oo):=hN.cell (i:=3) oM
 have d4:w.cell? ⟨N,4,none⟩=some (.int .u16 (gg:Int)):=hN.cell (i:=4) oM
 have hem:emG D l0 f k=if alF D (l0+32*k) (f k).1 (perS (f k).1).toNat=true then some (mxG D (l0+32*k) (f k).1 (perS (f k).1).toNat) else none:=by
  unfold emG;rw [if_neg oM,if_neg (by simp [hh])]
 have hm0:alF D (l0+32*k) (f k).1 (perS (f k).1).toNat=true→mxG D (l0+32*k) (f k).1 (perS (f k).1).toNat≠0:=fun h=>mxG_ne h oM
 have hml:=mxG_lt (D:=D) (l:=l0+32*k) (c:=(f k).1) (perS (f k).1).toNat
 have hNx:=fun (K:K1) hk=>k_Next hcx oo gg K hk
 have hp1:∀w',Ext w w'→w'.cell? ⟨b,o+k*4,none⟩=some (.int .i64 ((l0+32*k:Nat):Int)):=fun w' e=>((h.ext e).p hk).1
 generalize (f k).1=cc at*
 generalize mxG D (l0+32*k) cc (perS cc).toNat=mx at*
 generalize alF D (l0+32*k) cc (perS cc).toNat=al at*
 generalize emG D l0 f k=eg at*
 rw [f183_k1_eq]
 unfold f183_k1_t
 simp (disch:=try exact dZ) only [↓RBp,↓RA,↓reduceIte,Nat.reduceAdd,Nat.reduceMul,Nat.reduceEqDiff,RB,RX,RA2,d0,d1,d2,d3,d4]
 refine hNx _ (fun w1 e1=> ?_)
 cases al with
 |false=>
  simp (disch:=try exact dZ) only [↓RBp,↓RA,↓reduceIte,Nat.reduceAdd,Nat.reduceMul,Nat.reduceEqDiff,RB,RX,RA2]
  exact h0 (by rw [hem];rfl) _ e1
 |true=>
  have q0:=hp1 w1 e1
  rw [if_pos rfl]
  simp (disch:=try exact dZ) only [↓RBp,↓RA,↓reduceIte,Nat.reduceAdd,Nat.reduceMul,Nat.reduceEqDiff,RB,RX,RA2,q0]
  refine k_Clear (hcx.gl.ext e1) (l0+32*k) mx oM (hm0 rfl) hml _ (fun v w2 hs e2 nv=> ?_)
  simp (disch:=try exact dZ) only [↓RBp,↓RA,↓reduceIte,Nat.reduceAdd,Nat.reduceMul,Nat.reduceEqDiff,RB,RX,RA2]
  exact h1 mx (by rw [hem];rfl) (hm0 rfl) hml v _ (e1.trans e2) (fun x hx=>Nat.le_trans e1.size (nv x hx)) hs
theorem k_clearing (h:ArS w0 w Y D S b o cp l0 n f) (ag:AgF D l0 n f) (hk:k<n) (ho:D.off=false) (he:D.err 0=0) (K:K1)
  (h0:emG D l0 f k=none→∀w',Ext w w'→K (.tuple #[.slice none 0 0,.bool false]) w')
  (h1:∀g,emG D l0 f k=some g→g≠0→g<65536→∀v w',Ext w w'→NewV w.heap.size v→SlO w' 220 3 v (clrI (l0+32*k) g).length (inL (clrI (l0+32*k) g))→K (.tuple #[v,.bool true]) w'):
  callS prog 183 #[stV S,.pointer (some ⟨b,o+k*4,none⟩)] w K:=by
 have hle:=h.le
 have hlt:=h.lt
 have hnn:=h.L.gd.n
 have ltb:=h.ltb
 have ltS:=h.ltS
 have ha:=ag k hk
 have hcl:=hd_cls ha.1
 rw [←ha.2.1] at hcl
 have ob33:=h.p hk;have q0:=ob33.1;have q1:=ob33.2.1;have q2:=ob33.2.2.1;have q3:=ob33.2.2.2
 have s0:=h.c0
 have hG:Glob w:=h.gl.ext h.L.ex
 by_cases c0:(f k).1<0
 ·have h0:=h0 (by unfold emG;rw [if_pos c0])
  generalize (f k).1=cc at*
  refine f183_call _ _ _ _ ?_
  unfold f183_t
  simp (disch:=try exact dZ) only [↓RBp,↓RA,↓reduceIte,Nat.reduceAdd,Nat.reduceMul,Nat.reduceEqDiff,RB,RX,RA2,q1,c0]
  exact h0 _ xZ
 ·cases hh:(f k).2.2 with
  |true=>
   have h0:=h0 (by unfold emG;rw [if_neg c0,if_pos hh])
   rw [hh] at q3
   generalize (f k).1=cc at*
   refine f183_call _ _ _ _ ?_
   unfold f183_t
   simp (disch:=try exact dZ) only [↓RBp,↓RA,↓reduceIte,Nat.reduceAdd,Nat.reduceMul,Nat.reduceEqDiff,RB,RX,RA2,q1,q3,c0]
   exact h0 _ xZ
  |false=>
   rw [hh] at q3
   have hop:∀(w1:World) (K:K1),Ext w w1→(∀w2,Ext w1 w2→K (.tuple #[chV Y (l0+32*k) (f k).1 (f k).2.1 (gX (wd D (l0+32*k) 0)),.int .i64 0]) w2)→callS prog 75 #[.iface 31 (.pointer (some ⟨Y.tb 0,0,none⟩)),.int .i64 ((l0+32*k:Nat):Int)] w1 K:=fun w1 K e1 hk2=>by
    refine k_OpenAt (h.L.dv.ext e1) h.L.gd (hG.ext e1) ho he (l0+32*k) oM ha.1 K (fun w2 e2=> ?_)
    rw [if_neg (by rw [←ha.2.1];exact c0),←ha.2.1,←ha.2.2]
    exact hk2 w2 e2
   have fin:∀(w2:World) (N:Nat),Ext w w2→Cells w2 N 134 5 (chF (Y.tb 0) (l0+32*k) (f k).1 (f k).2.1 (gX (wd D (l0+32*k) 0)))→f183_k1 K (.pointer (some ⟨b,o+k*4,none⟩)) (.pointer (some ⟨N,0,none⟩)) (.int .i64 0) w2:=fun w2 N e2 hN=>
    cl_k1 (h.ext e2) hk ho he oM hcl.1 hN hh K (fun hn w' e=>h0 hn w' (e2.trans e)) (fun g hg g0 g6 v w' e nv hs=>h1 g hg g0 g6 v w' (e2.trans e) (fun x hx=>Nat.le_trans e2.size (nv x hx)) hs)
   generalize (f k).1=cc at*
   generalize (f k).2.1=oo at*
   generalize gX (wd D (l0+32*k) 0)=gg at*
   refine f183_call _ _ _ _ ?_
   unfold f183_t
   (repeat' (first|(with_reducible first|refine brS_mk (fun _=> ?_) (fun _=> ?_)|refine And.intro ?_ ?_)|(simp (disch:=try exact dZ) only [↓RBp,↓RA,↓reduceIte,Nat.reduceAdd,Nat.reduceMul,Nat.reduceEqDiff,RB,RX,RA2,q0,q1,q3,c0,s0])))
   ·refine hop _ _ xZ (fun w1 e1=> ?_)
    have e0:Ext w w1:=Ext.trans xZ e1
    have s0:=(h.ext e0).c0
    have ob34:=(h.ext e0).p hk;have q0:=ob34.1;have q1:=ob34.2.1;have q2:=ob34.2.2.1;have q3:=ob34.2.2.2
    have lt1:=(h.ext e0).ltb
    have lt2:=(h.ext e0).ltS
    (repeat' (first|(with_reducible first|refine brS_mk (fun _=> ?_) (fun _=> ?_)|refine And.intro ?_ ?_)|(simp (disch:=try exact dZ) only [↓RBp,↓RA,↓reduceIte,Nat.reduceAdd,Nat.reduceMul,Nat.reduceEqDiff,RB,RX,RA2,q0,s0])))
    exact fin _ _ xZ (Cells.new w1 [Value.iface 31 (.pointer (some ⟨Y.tb 0,0,none⟩)),.int .i64 ((l0+32*k:Nat):Int),.int .i64 cc,.int .i64 oo,.int .u16 (gg:Int)] 134)
   ·refine hop _ _ xZ (fun w1 e1=> ?_)
    have hC0:=(Cells.new w [Value.nilIface,.int .i64 0,.int .i64 0,.int .i64 0,.int .u16 ((0:Nat):Int)] 134).ext (Ext.trans (Ext.drew (Ext.refl _)) e1)
    have lt1:=hC0.lt
    have hD:=cells5C hC0 (Value.iface 31 (.pointer (some ⟨Y.tb 0,0,none⟩))) (.int .i64 ((l0+32*k:Nat):Int)) (.int .i64 cc) (.int .i64 oo) (.int .u16 (gg:Int))
    have z0:=hC0.cell (i:=0) (by simp)
    have z1:=hC0.cell (i:=1) (by simp)
    have z2:=hC0.cell (i:=2) (by simp)
    have z3:=hC0.cell (i:=3) (by simp)
    have z4:=hC0.cell (i:=4) (by simp)
    have hfz:=hC0.frz
    (repeat' (first|(with_reducible first|refine brS_mk (fun _=> ?_) (fun _=> ?_)|refine And.intro ?_ ?_)|(simp (disch:=try exact dZ) only [↓RBp,↓RA,↓reduceIte,Nat.reduceAdd,Nat.reduceMul,Nat.reduceEqDiff,RB,RX,RA2,z0,z1,z2,z3,z4,hfz])))
    exact fin _ _ xZ hD
end
section
variable {w0 w w' w'':World} {Y Y' Y'':Lay} {D D' D1:DS} {S b o cp l0 n k:Nat} {f f':Nat→Int×Int×Bool}
theorem ArS.wr1 (h:ArS w0 w Y D S b o cp l0 n f) (hk:k<n) (c:Int):ArS w0 (w.setCell ⟨b,o+k*4+1,none⟩ (.int .i64 c)) Y D S b o cp l0 n (upF f k (c,(f k).2)):=by
 have:=h.wr (i:=k*4+1) oM ((plL_set f l0 n k hk).1 c)
 rwa [←Nat.add_assoc] at this
theorem ArS.wr2 (h:ArS w0 w Y D S b o cp l0 n f) (hk:k<n) (c:Int):ArS w0 (w.setCell ⟨b,o+k*4+2,none⟩ (.int .i64 c)) Y D S b o cp l0 n (upF f k ((f k).1,c,(f k).2.2)):=by
 have:=h.wr (i:=k*4+2) oM ((plL_set f l0 n k hk).2.1 c)
 rwa [←Nat.add_assoc] at this
theorem ArS.wr3 (h:ArS w0 w Y D S b o cp l0 n f) (hk:k<n) (c:Bool):ArS w0 (w.setCell ⟨b,o+k*4+3,none⟩ (.bool c)) Y D S b o cp l0 n (upF f k ((f k).1,(f k).2.1,c)):=by
 have:=h.wr (i:=k*4+3) oM ((plL_set f l0 n k hk).2.2 c)
 rwa [←Nat.add_assoc] at this
theorem upF_upF {α:Type} (f:Nat→α) (k:Nat) (u v:α):upF (upF f k u) k v=upF f k v:=by
 funext j;unfold upF;split<;>rfl
theorem ArS.wr12 (h:ArS w0 w Y D S b o cp l0 n f) (hk:k<n) (c t:Int):ArS w0 ((w.setCell ⟨b,o+k*4+1,none⟩ (.int .i64 c)).setCell ⟨b,o+k*4+2,none⟩ (.int .i64 t)) Y D S b o cp l0 n (upF f k (c,t,(f k).2.2)):=by
 have:=(h.wr1 hk c).wr2 hk t
 rwa [upF_upF,upF_eq] at this
theorem AStp.wr12 (h:AStp w Y b w' Y') (i j:Nat) (u v:Value):AStp w Y b ((w'.setCell ⟨b,i,none⟩ u).setCell ⟨b,j,none⟩ v) Y':=(h.set i u).set j v
theorem k_free (h:ArS w0 w Y D S b o cp l0 n f) (hk:k<n) {p:List Ins} {v:Value} (hs:SlO w 220 3 v p.length (inL p)) (nv:∀x,v.ownBlock=some x→¬Y.F x) (hp:∀i∈p,okI i) (hx:D.exe+p.length<1099511627775) (hD1:D1=D.run 0 p) (K:K1)
  (he:D1.err 0≠0→∀w' Y',AStp w Y b w' Y'→ArS w0 w' Y' D1 S b o cp l0 n f→K (.int .i64 (D1.err 0)) w')
  (hok:D1.err 0=0→∀w' Y',AStp w Y b w' Y'→ArS w0 w' Y' D1 S b o cp l0 n (upF f k (-1,-1,(f k).2.2))→K (.int .i64 0) w'):
  callS prog 184 #[stV S,.pointer (some ⟨b,o+k*4,none⟩),v] w K:=by
 have gd1:Good D1:=by rw [hD1];exact Good.run 0 oM _ _ h.L.gd hp
 have n1:D1.n=D.n:=by rw [hD1];exact run_n 0 _ D
 have s0:=h.c0
 have hrun:∀(K:K1),(∀w' Y',Stp w Y w' Y' D1→K (.int .i64 (D1.err 0)) w')→callS prog 99 #[v,.iface 31 (.pointer (some ⟨Y.tb 0,0,none⟩))] w K:=fun K hK=>by
  subst hD1;exact k_Run h.L.dv h.L.gd 0 oM p v hs nv hp hx K hK
 have hst:∀w' Y',Stp w Y w' Y' D1→ArS w0 w' Y' D1 S b o cp l0 n f:=fun w' Y' st=>h.step st gd1 n1
 generalize D1.err 0=e at*
 refine f184_call _ _ _ _ _ ?_
 unfold f184_t
 simp (disch:=try exact dZ) only [↓RBp,↓RA,↓reduceIte,Nat.reduceAdd,Nat.reduceMul,Nat.reduceEqDiff,RB,RX,RA2,s0]
 refine hrun _ (fun w1 Y1 st=> ?_)
 have h1:=hst w1 Y1 st
 have a1:=AStp.of_stp b st
 by_cases e0:e=0
 ·subst e0
  have ob35:=h1.p hk;have q0:=ob35.1;have q1:=ob35.2.1;have q2:=ob35.2.2.1;have q3:=ob35.2.2.2
  have fz:=h1.fz
  have h2:=h1.wr1 hk (-1)
  have fz2:=h2.fz
  have ob36:=h2.p hk;have r0:=ob36.1;have r1:=ob36.2.1;have r2:=ob36.2.2.1;have r3:=ob36.2.2.2
  simp (disch:=try exact dZ) only [↓RBp,↓RA,↓reduceIte,Nat.reduceAdd,Nat.reduceMul,Nat.reduceEqDiff,RB,RX,RA2,fz,q1,q2,fz2,r2]
  exact hok rfl _ Y1 (a1.wr12 _ _ _ _) (h1.wr12 hk (-1) (-1))
 ·simp (disch:=try exact dZ) only [↓RBp,↓RA,↓reduceIte,Nat.reduceAdd,Nat.reduceMul,Nat.reduceEqDiff,RB,RX,RA2,e0]
  exact he e0 _ Y1 a1 h1
theorem k_pick (h:ArS w0 w Y D S b o cp l0 n f) (ag:AgF D l0 n f) (ho:D.off=false) (he:D.err 0=0) (hx:D.exe<1000000000) (K:K1)
  (hA:∀k,k<n→(f k).1<0→(∀j,j<k→¬(f j).1<0)→∀w',Ext w w'→K (.tuple #[.pointer (some ⟨b,o+k*4,none⟩),.int .i64 0]) w')
  (hB:(∀j,j<n→¬(f j).1<0)→∀k g D1,k<n→emG D l0 f k=some g→(∀j,j<k→emG D l0 f j=none)→D1=D.run 0 (clrI (l0+32*k) g)→∀w' Y',AStp w Y b w' Y'→(D1.err 0≠0→ArS w0 w' Y' D1 S b o cp l0 n f)→(D1.err 0=0→ArS w0 w' Y' D1 S b o cp l0 n (upF f k (-1,-1,(f k).2.2)))→K (.tuple #[.pointer (some ⟨b,o+k*4,none⟩),.int .i64 (D1.err 0)]) w')
  (hN:(∀j,j<n→¬(f j).1<0)→(∀j,j<n→emG D l0 f j=none)→∀w',Ext w w'→K (.tuple #[.pointer none,.int .i64 4]) w'):
  callS prog 156 #[stV S] w K:=by
 have hle:=h.le
 have hlt:=h.lt
 have hnn:=h.L.gd.n
 have s1:=h.c1
 refine f156_call _ _ _ ?_
 unfold f156_t
 simp (disch:=try exact dZ) only [↓RBp,↓RA,↓reduceIte,Nat.reduceAdd,Nat.reduceMul,Nat.reduceEqDiff,RB,RX,RA2,s1]
 apply f156_l1_rule (I:=fun z w'=>∃i:Nat,z= .int .i64 (i:Int)∧i≤n∧(∀j,j<i→¬(f j).1<0)∧Ext w w') (μ:=fun z _=>n-(intOf z).toNat)
 ·exact ⟨0,rfl,by omega,fun j hj=>absurd hj (Nat.not_lt_zero _),xZ⟩
 ·intros;rename_i w1 hI E1 hE
  obtain ⟨i,rfl,hi,hall,e1⟩:=hI
  have h1:=h.ext e1
  have s1:=h1.c1
  by_cases hin:i<n
  ·have ob37:=h1.p hin;have q0:=ob37.1;have q1:=ob37.2.1;have q2:=ob37.2.2.1;have q3:=ob37.2.2.2
   have hAi:=hA i hin
   have hall2:¬(f i).1<0→∀j,j<i+1→¬(f j).1<0:=fun hc j hj=>by
    by_cases e:j=i
    ·rw [e];exact hc
    ·exact hall j oM
   by_cases hc:(f i).1<0
   ·have hAi:=hAi hc hall
    generalize (f i).1=cc at q1 hc
    unfold f156_l1_t
    simp (disch:=try exact dZ) only [↓RBp,↓RA,↓reduceIte,Nat.reduceAdd,Nat.reduceMul,Nat.reduceEqDiff,RB,RX,RA2,s1,q1,hc]
    exact hAi _ e1
   ·have hall2:=hall2 hc
    generalize (f i).1=cc at q1 hc
    unfold f156_l1_t
    simp (disch:=try exact dZ) only [↓RBp,↓RA,↓reduceIte,Nat.reduceAdd,Nat.reduceMul,Nat.reduceEqDiff,RB,RX,RA2,s1,q1,hc]
    apply hE
    ·exact ⟨i+1,by simp,by omega,hall2,e1⟩
    ·simp [intOf];omega
  ·have:i=n:=by omega
   subst this
   unfold f156_l1_t
   simp (disch:=try exact dZ) only [↓RBp,↓RA,↓reduceIte,Nat.reduceAdd,Nat.reduceMul,Nat.reduceEqDiff,RB,RX,RA2,f156_k1_eq,f156_k1_t,s1]
   apply f156_l2_rule (I:=fun z w'=>∃q:Nat,z= .int .i64 (q:Int)∧q≤i∧(∀j,j<q→emG D l0 f j=none)∧Ext w w') (μ:=fun z _=>i-(intOf z).toNat)
   ·exact ⟨0,rfl,by omega,fun j hj=>absurd hj (Nat.not_lt_zero _),e1⟩
   ·intros;rename_i w2 hI E2 hE2
    obtain ⟨q,rfl,hq,hnone,e2⟩:=hI
    have h2:=h.ext e2
    have s0:=h2.c0
    have s1:=h2.c1
    by_cases hqi:q<i
    ·have hem:=fun g hg=>h2.emG_ok ag hqi (g:=g) hg
     have hB:=hB hall q
     have hno:emG D l0 f q=none→∀j,j<q+1→emG D l0 f j=none:=fun hc j hj=>by
      by_cases e:j=q
      ·rw [e];exact hc
      ·exact hnone j oM
     unfold f156_l2_t
     simp (disch:=try exact dZ) only [↓RBp,↓RA,↓reduceIte,Nat.reduceAdd,Nat.reduceMul,Nat.reduceEqDiff,RB,RX,RA2,s1]
     refine k_clearing h2 ag hqi ho he _ (fun hn0 w3 e3=> ?_) (fun g hg g0 g6 v w3 e3 nv hs=> ?_)
     ·simp (disch:=try exact dZ) only [↓RBp,↓RA,↓reduceIte,Nat.reduceAdd,Nat.reduceMul,Nat.reduceEqDiff,RB,RX,RA2]
      apply hE2
      ·exact ⟨q+1,by simp,by omega,hno hn0,e2.trans e3⟩
      ·simp [intOf];omega
     ·have ok:∀i∈clrI (l0+32*q) g,okI i:=by
       have hs6:=sealN_lt (hdX (-1) (-1) g) (hdX_lt oM oM oM oM g6)
       exact okI_stores (fun x hx=>by simp only [List.mem_singleton] at hx;subst hx;exact ⟨by simp only;omega,hs6⟩)
      have hcl:=clrI_len (l0+32*q) g
      obtain ⟨D1,hD1⟩:∃D1,D1=D.run 0 (clrI (l0+32*q) g):=⟨_,rfl⟩
      have hB:=hB g D1 hqi hg hnone hD1
      have h3:=h2.ext e3
      have nF:∀x,v.ownBlock=some x→¬Y.F x:=fun x hx hf=>by have:=nv x hx;have:=h2.L.dv.lt hf;omega
      simp (disch:=try exact dZ) only [↓RBp,↓RA,↓reduceIte,Nat.reduceAdd,Nat.reduceMul,Nat.reduceEqDiff,RB,RX,RA2]
      refine k_free h3 hqi hs nF ok oM hD1 _ (fun hne w4 Y4 a4 h4=> ?_) (fun h0 w4 Y4 a4 h4=> ?_)
      ·have a04:=(AStp.of_ext Y b (e2.trans e3)).trans a4
       have hB:=hB w4 Y4 a04 (fun _=>h4) (fun h=>absurd h hne)
       simp (disch:=try exact dZ) only [↓RBp,↓RA,↓reduceIte,Nat.reduceAdd,Nat.reduceMul,Nat.reduceEqDiff,RB,RX,RA2]
       exact hB
      ·have a04:=(AStp.of_ext Y b (e2.trans e3)).trans a4
       have hB:=hB w4 Y4 a04 (fun h=>absurd h0 h) (fun _=>h4)
       rw [h0] at hB
       simp (disch:=try exact dZ) only [↓RBp,↓RA,↓reduceIte,Nat.reduceAdd,Nat.reduceMul,Nat.reduceEqDiff,RB,RX,RA2]
       exact hB
    ·have:q=i:=by omega
     subst this
     have her:=h2.er
     rw [he] at her
     unfold f156_l2_t
     simp (disch:=try exact dX) only [↓RBp,↓RA,↓reduceIte,Nat.reduceAdd,Nat.reduceMul,Nat.reduceEqDiff,RB,RX,RA2,f156_k2_eq,f156_k2_t,s0,her]
     exact hN hall hnone _ e2
end
theorem planI_ok {l n g:Nat} {c o:Int} (hl:l+32≤n) (hn:n≤4096) (c0:0≤c) (c5:c<5) (o0:0≤o) (o8:o<8) (hg:g<65536):∀i∈planI l c o g,okI i:=by
 have hb:=sealN_lt (blkX g 0 176) (blkX_lt hg oM oM)
 have hd:=sealN_lt (hdX c o g) (hdX_lt oM c5 oM o8 hg)
 intro i hi
 unfold planI at hi
 rcases List.mem_append.1 hi with hi|hi
 ·refine okI_stores (fun x hx=>⟨by have:=planW_in hl c0 c5 g x hx;omega,?_⟩) i hi
  rcases List.mem_append.1 hx with hx|hx
  ·obtain ⟨j,hj,rfl⟩:=List.mem_map.1 hx
   exact hb
  ·obtain ⟨j,hj,rfl⟩:=List.mem_map.1 hx
   simp only;omega
 ·exact okI_stores (fun x hx=>by simp only [List.mem_singleton] at hx;subst hx;exact ⟨by simp only;omega,hd⟩) i hi
def ClRes (D:DS) (l0 n:Nat) (f:Nat→Int×Int×Bool) (c t:Int) (D2:DS) (f2:Nat→Int×Int×Bool) (r e:Int):Prop:=
 (∃k,k<n∧(f k).1<0∧(∀j,j<k→¬(f j).1<0)∧D2=D.run 0 (planI (l0+32*k) c t (gX (wd D (l0+32*k) 0)))∧((D2.err 0≠0∧f2=f∧r=0∧e=D2.err 0)∨(D2.err 0=0∧f2=upF f k (c,t,(f k).2.2)∧r=((l0+32*k:Nat):Int)∧e=0)))∨
 ((∀j,j<n→¬(f j).1<0)∧∃k g D1,k<n∧emG D l0 f k=some g∧(∀j,j<k→emG D l0 f j=none)∧D1=D.run 0 (clrI (l0+32*k) g)∧((D1.err 0≠0∧D2=D1∧f2=f∧r=0∧e=D1.err 0)∨(D1.err 0=0∧D2=D1.run 0 (planI (l0+32*k) c t g)∧((D2.err 0≠0∧f2=upF f k (-1,-1,(f k).2.2)∧r=0∧e=D2.err 0)∨(D2.err 0=0∧f2=upF f k (c,t,(f k).2.2)∧r=((l0+32*k:Nat):Int)∧e=0)))))∨
 ((∀j,j<n→¬(f j).1<0)∧(∀j,j<n→emG D l0 f j=none)∧D2=D∧f2=f∧r=0∧e=4)
section
variable {w0 w w' w'':World} {Y Y' Y'':Lay} {D D' D1 D2:DS} {S b o cp l0 n k g:Nat} {f f' f1:Nat→Int×Int×Bool} {c t:Int}
theorem cm_k1 (h:ArS w0 w Y D S b o cp l0 n f) (hk:k<n) (c0:0≤c) (c5:c<5) (t0:0≤t) (t8:t<8) (g0:g≠0) (g6:g<65536) (hx:D.exe<2000000000) {N:Nat} {cc oo:Int} (hN:Cells w N 132 3 (fun i=> [Value.int .i64 cc,.int .i64 oo,.int .u16 (g:Int)].getD i undef)) (hD2:D2=D.run 0 (planI (l0+32*k) c t g)) (K:K1)
  (he:D2.err 0≠0→∀w' Y',AStp w Y b w' Y'→ArS w0 w' Y' D2 S b o cp l0 n f→K (.tuple #[.int .i64 0,.int .i64 (D2.err 0)]) w')
  (hok:D2.err 0=0→∀w' Y',AStp w Y b w' Y'→ArS w0 w' Y' D2 S b o cp l0 n (upF f k (c,t,(f k).2.2))→K (.tuple #[.int .i64 ((l0+32*k:Nat):Int),.int .i64 0]) w'):
  f116_k1 K (stV S) (.int .i64 t) (.int .i64 c) (.pointer (some ⟨b,o+k*4,none⟩)) (.int .i64 0) (.pointer (some ⟨N,0,none⟩)) w:=by
 have hnn:=h.L.gd.n
 have hlt:=h.lt
 have hok3:=planI_ok (l:=l0+32*k) (n:=D.n) oM hnn c0 c5 t0 t8 g6
 have hpl:=plan_len (l0+32*k) c0 c5 t g
 have gd2:Good D2:=by rw [hD2];exact Good.run 0 oM _ _ h.L.gd hok3
 have n2:D2.n=D.n:=by rw [hD2];exact run_n 0 _ D
 have s0:=h.c0
 have ob38:=h.p hk;have q0:=ob38.1;have q1:=ob38.2.1;have q2:=ob38.2.2.1;have q3:=ob38.2.2.2
 have d2:w.cell? ⟨N,2,none⟩=some (.int .u16 (g:Int)):=hN.cell (i:=2) oM
 have hrun:∀(v:Value) (w1:World) (K:K1),Ext w w1→SlO w1 220 3 v (planI (l0+32*k) c t g).length (inL (planI (l0+32*k) c t g))→NewV w.heap.size v→(∀w' Y',Stp w Y w' Y' D2→K (.int .i64 (D2.err 0)) w')→callS prog 99 #[v,.iface 31 (.pointer (some ⟨Y.tb 0,0,none⟩))] w1 K:=fun v w1 K e1 hs nv hK=>by
  subst hD2
  exact k_Run (h.L.dv.ext e1) h.L.gd 0 oM _ v hs (fun x hx hf=>by have:=nv x hx;have:=h.L.dv.lt hf;omega) hok3 oM K (fun w' Y' st=>hK w' Y' (Stp.pre e1 (fun x hx=>h.L.dv.lt hx) st))
 have hst:∀w' Y',Stp w Y w' Y' D2→ArS w0 w' Y' D2 S b o cp l0 n f:=fun w' Y' st=>h.step st gd2 n2
 generalize D2.err 0=e at*
 rw [f116_k1_eq]
 unfold f116_k1_t
 (repeat' (first|(with_reducible first|refine brS_mk (fun _=> ?_) (fun _=> ?_)|refine And.intro ?_ ?_)|(simp (disch:=try exact dZ) only [↓RBp,↓RA,↓reduceIte,Nat.reduceAdd,Nat.reduceMul,Nat.reduceEqDiff,RB,RX,RA2,q0,d2])))
 refine k_Plan ((h.gl.ext h.L.ex).ext xZ) (l0+32*k) c t g oM c0 c5 t0 t8 g0 g6 _ (fun v w1 hs e1 nv=> ?_)
 have e01:Ext w w1:=Ext.trans xZ e1
 have s0:=(h.ext e01).c0
 (repeat' (first|(with_reducible first|refine brS_mk (fun _=> ?_) (fun _=> ?_)|refine And.intro ?_ ?_)|(simp (disch:=try exact dZ) only [↓RBp,↓RA,↓reduceIte,Nat.reduceAdd,Nat.reduceMul,Nat.reduceEqDiff,RB,RX,RA2,s0])))
 refine hrun v _ _ e01 hs (fun x hx=>by have:=nv x hx;simpa only [RZ] using this) (fun w2 Y2 st=> ?_)
 have h2:=hst w2 Y2 st
 have a2:=AStp.of_stp b st
 by_cases e0:e=0
 ·subst e0
  have ob39:=h2.p hk;have q0:=ob39.1;have q1:=ob39.2.1;have q2:=ob39.2.2.1;have q3:=ob39.2.2.2
  have fz:=h2.fz
  have h3:=h2.wr1 hk c
  have fz3:=h3.fz
  have ob40:=h3.p hk;have r0:=ob40.1;have r1:=ob40.2.1;have r2:=ob40.2.2.1;have r3:=ob40.2.2.2
  have h4:=h2.wr12 hk c t
  have ob41:=h4.p hk;have u0:=ob41.1;have u1:=ob41.2.1;have u2:=ob41.2.2.1;have u3:=ob41.2.2.2
  simp (disch:=try exact dZ) only [↓RBp,↓RA,↓reduceIte,Nat.reduceAdd,Nat.reduceMul,Nat.reduceEqDiff,RB,RX,RA2,fz,q1,q2,fz3,r2,u0]
  exact hok rfl _ Y2 (a2.wr12 _ _ _ _) h4
 ·simp (disch:=try exact dZ) only [↓RBp,↓RA,↓reduceIte,Nat.reduceAdd,Nat.reduceMul,Nat.reduceEqDiff,RB,RX,RA2,e0]
  exact he e0 _ Y2 a2 h2
theorem k_Claim (h:ArS w0 w Y D S b o cp l0 n f) (ag:AgF D l0 n f) (ho:D.off=false) (he:D.err 0=0) (hx:D.exe<1000000000) (t0:0≤t) (t8:t<8) (c0:0≤c) (c5:c<5) (K:K1)
  (hK:∀D2 f2 r e,ClRes D l0 n f c t D2 f2 r e→∀w' Y',AStp w Y b w' Y'→ArS w0 w' Y' D2 S b o cp l0 n f2→K (.tuple #[.int .i64 r,.int .i64 e]) w'):
  callS prog 116 #[stV S,.int .i64 t,.int .i64 c] w K:=by
 have hG:Glob w:=h.gl.ext h.L.ex
 have hnn:=h.L.gd.n
 have hlt:=h.lt
 have hp:=c_PerChunk c w
 have hpp:=perS_in c0 c5
 have s0:=h.c0
 have her:=h.er
 rw [he] at her
 have hz:¬perS c=0:=by omega
 have agk:=ag
 generalize perS c=pc at*
 refine f116_call _ _ _ _ _ ?_
 unfold f116_t
 simp (disch:=try exact dX) only [↓RBp,↓RA,↓reduceIte,Nat.reduceAdd,Nat.reduceMul,Nat.reduceEqDiff,RB,RX,RA2,hp,hG,hz,s0,her,he]
 refine k_pick h ag ho he hx _ (fun k hk hf hall w1 e1=> ?_) (fun hall k g D1 hk hem hnone hD1 w1 Y1 a1 hbad hgood=> ?_) (fun hall hnone w1 e1=> ?_)
 ·have hd:=hd_cls (ag k hk).1
  have hok:=(ag k hk).1
  have g6:gX (wd D (l0+32*k) 0)<65536:=by unfold gX;omega
  have hK:=fun D2 f2 r e hr=>hK D2 f2 r e (.inl ⟨k,hk,hf,hall,hr⟩)
  have h1:=h.ext e1
  have s0:=h1.c0
  have ob42:=h1.p hk;have q0:=ob42.1;have q1:=ob42.2.1;have q2:=ob42.2.2.1;have q3:=ob42.2.2.2
  have lt1:=h1.ltb
  have lt2:=h1.ltS
  have fin:∀(w2:World) (N:Nat),Ext w w2→Cells w2 N 132 3 (fun i=> [Value.int .i64 (hC (wd D (l0+32*k) 0)),.int .i64 (hO (wd D (l0+32*k) 0)),.int .u16 (gX (wd D (l0+32*k) 0):Int)].getD i undef)→f116_k1 K (stV S) (.int .i64 t) (.int .i64 c) (.pointer (some ⟨b,o+k*4,none⟩)) (.int .i64 0) (.pointer (some ⟨N,0,none⟩)) w2:=fun w2 N e2 hN=>by
   refine cm_k1 (h.ext e2) hk c0 c5 t0 t8 hd.2.2.1 g6 oM hN rfl K (fun hne w3 Y3 a3 h3=> ?_) (fun h0 w3 Y3 a3 h3=> ?_)
   ·exact hK _ _ _ _ ⟨rfl,.inl ⟨hne,rfl,rfl,rfl⟩⟩ w3 Y3 ((AStp.of_ext Y b e2).trans a3) h3
   ·exact hK _ _ _ _ ⟨rfl,.inr ⟨h0,rfl,rfl,rfl⟩⟩ w3 Y3 ((AStp.of_ext Y b e2).trans a3) h3
  have hlk:=fun (w2:World) (e2:Ext w w2) (K1:K1) hk2=>k_Look (h.L.dv.ext e2) h.L.gd (hG.ext e2) ho he (l0+32*k) oM hok K1 hk2
  unfold thV at hlk
  generalize hC (wd D (l0+32*k) 0)=cc at*
  generalize hO (wd D (l0+32*k) 0)=oo at*
  generalize gX (wd D (l0+32*k) 0)=gg at*
  (repeat' (first|(with_reducible first|refine brS_mk (fun _=> ?_) (fun _=> ?_)|refine And.intro ?_ ?_)|(simp (disch:=try exact dZ) only [↓RBp,↓RA,↓reduceIte,Nat.reduceAdd,Nat.reduceMul,Nat.reduceEqDiff,RB,RX,RA2,s0,q0])))
  ·refine hlk _ xZ _ (fun w2 e2=> ?_)
   have e02:Ext w1 w2:=Ext.trans xZ e2
   have s0:=(h1.ext e02).c0
   have ob43:=(h1.ext e02).p hk;have q0:=ob43.1;have q1:=ob43.2.1;have q2:=ob43.2.2.1;have q3:=ob43.2.2.2
   have lt1:=(h1.ext e02).ltb
   have lt2:=(h1.ext e02).ltS
   (repeat' (first|(with_reducible first|refine brS_mk (fun _=> ?_) (fun _=> ?_)|refine And.intro ?_ ?_)|(simp (disch:=try exact dZ) only [↓RBp,↓RA,↓reduceIte,Nat.reduceAdd,Nat.reduceMul,Nat.reduceEqDiff,RB,RX,RA2,s0,q0])))
   exact fin _ _ xZ (Cells.new w2 [Value.int .i64 cc,.int .i64 oo,.int .u16 (gg:Int)] 132)
  ·refine hlk _ xZ _ (fun w2 e2=> ?_)
   have hC0:=(Cells.new w1 [Value.int .i64 0,.int .i64 0,.int .u16 ((0:Nat):Int)] 132).ext (Ext.trans (Ext.drew (Ext.refl _)) e2)
   have lt1:=hC0.lt
   have hD:=cells3C hC0 (Value.int .i64 cc) (.int .i64 oo) (.int .u16 (gg:Int))
   have z0:=hC0.cell (i:=0) (by simp)
   have z1:=hC0.cell (i:=1) (by simp)
   have z2:=hC0.cell (i:=2) (by simp)
   have hfz:=hC0.frz
   have hs1:=e1.size
   (repeat' (first|(with_reducible first|refine brS_mk (fun _=> ?_) (fun _=> ?_)|refine And.intro ?_ ?_)|(simp (disch:=try exact dZ) only [↓RBp,↓RA,↓reduceIte,Nat.reduceAdd,Nat.reduceMul,Nat.reduceEqDiff,RB,RX,RA2,z0,z1,z2,hfz])))
   exact fin _ _ xZ hD
 ·have hgk:=h.emG_ok ag hk hem
  have hK:=fun D2 f2 r e hr=>hK D2 f2 r e (.inr (.inl ⟨hall,k,g,D1,hk,hem,hnone,hD1,hr⟩))
  by_cases h0:D1.err 0=0
  ·have h1:=hgood h0
   have hcc:=clr_cur (l:=l0+32*k) (g:=g) ho he oM (by rw [←hD1];exact h0)
   rw [←hD1] at hcc
   have hw0:wd D1 (l0+32*k) 0=sealN (hdX (-1) (-1) g):=by unfold wd;rw [hcc.1];simp
   have hfr:=hd_free hgk.2.2.2.1 hgk.2.2.2.2
   rw [←hw0] at hfr
   have hxx:D1.exe<2000000000:=by rw [hD1];have:=run_exe 0 (clrI (l0+32*k) g) D;have:=clrI_len (l0+32*k) g;omega
   have n1:D1.n=D.n:=by rw [hD1];exact run_n 0 _ D
   have s0:=h1.c0
   have ob44:=h1.p hk;have q0:=ob44.1;have q1:=ob44.2.1;have q2:=ob44.2.2.1;have q3:=ob44.2.2.2
   have lt1:=h1.ltb
   have lt2:=h1.ltS
   have hG1:Glob w1:=h1.gl.ext h1.L.ex
   have hup:∀v,upF (upF f k (-1,-1,(f k).2.2)) k v=upF f k v:=fun v=>upF_upF f k _ v
   have fin:∀(w2:World) (N:Nat),Ext w1 w2→Cells w2 N 132 3 (fun i=> [Value.int .i64 (-1),.int .i64 (-1),.int .u16 (g:Int)].getD i undef)→f116_k1 K (stV S) (.int .i64 t) (.int .i64 c) (.pointer (some ⟨b,o+k*4,none⟩)) (.int .i64 0) (.pointer (some ⟨N,0,none⟩)) w2:=fun w2 N e2 hN=>by
    refine cm_k1 (h1.ext e2) hk c0 c5 t0 t8 hgk.2.2.2.1 hgk.2.2.2.2 oM hN rfl K (fun hne w3 Y3 a3 h3=> ?_) (fun h02 w3 Y3 a3 h3=> ?_)
    ·exact hK _ _ _ _ (.inr ⟨h0,rfl,.inl ⟨hne,rfl,rfl,rfl⟩⟩) w3 Y3 (a1.trans ((AStp.of_ext Y1 b e2).trans a3)) h3
    ·rw [hup,upF_eq] at h3
     exact hK _ _ _ _ (.inr ⟨h0,rfl,.inr ⟨h02,rfl,rfl,rfl⟩⟩) w3 Y3 (a1.trans ((AStp.of_ext Y1 b e2).trans a3)) h3
   have hlk:=fun (w2:World) (e2:Ext w1 w2) (K1:K1) hk2=>k_Look (h1.L.dv.ext e2) h1.L.gd (hG1.ext e2) hcc.2 h0 (l0+32*k) oM hfr.1 K1 hk2
   rw [hfr.2.1,hfr.2.2.1,hfr.2.2.2] at hlk
   unfold thV at hlk
   rw [h0]
   (repeat' (first|(with_reducible first|refine brS_mk (fun _=> ?_) (fun _=> ?_)|refine And.intro ?_ ?_)|(simp (disch:=try exact dZ) only [↓RBp,↓RA,↓reduceIte,Nat.reduceAdd,Nat.reduceMul,Nat.reduceEqDiff,RB,RX,RA2,s0,q0])))
   ·refine hlk _ xZ _ (fun w2 e2=> ?_)
    have e02:Ext w1 w2:=Ext.trans xZ e2
    have s0:=(h1.ext e02).c0
    have ob45:=(h1.ext e02).p hk;have q0:=ob45.1;have q1:=ob45.2.1;have q2:=ob45.2.2.1;have q3:=ob45.2.2.2
    have lt1:=(h1.ext e02).ltb
    have lt2:=(h1.ext e02).ltS
    (repeat' (first|(with_reducible first|refine brS_mk (fun _=> ?_) (fun _=> ?_)|refine And.intro ?_ ?_)|(simp (disch:=try exact dZ) only [↓RBp,↓RA,↓reduceIte,Nat.reduceAdd,Nat.reduceMul,Nat.reduceEqDiff,RB,RX,RA2,s0,q0])))
    exact fin _ _ xZ (Cells.new w2 [Value.int .i64 (-1),.int .i64 (-1),.int .u16 (g:Int)] 132)
   ·refine hlk _ xZ _ (fun w2 e2=> ?_)
    have hC0:=(Cells.new w1 [Value.int .i64 0,.int .i64 0,.int .u16 ((0:Nat):Int)] 132).ext (Ext.trans (Ext.drew (Ext.refl _)) e2)
    have lt1:=hC0.lt
    have hD:=cells3C hC0 (Value.int .i64 (-1)) (.int .i64 (-1)) (.int .u16 (g:Int))
    have z0:=hC0.cell (i:=0) (by simp)
    have z1:=hC0.cell (i:=1) (by simp)
    have z2:=hC0.cell (i:=2) (by simp)
    have hfz:=hC0.frz
    (repeat' (first|(with_reducible first|refine brS_mk (fun _=> ?_) (fun _=> ?_)|refine And.intro ?_ ?_)|(simp (disch:=try exact dZ) only [↓RBp,↓RA,↓reduceIte,Nat.reduceAdd,Nat.reduceMul,Nat.reduceEqDiff,RB,RX,RA2,z0,z1,z2,hfz])))
    exact fin _ _ xZ hD
  ·have h1:=hbad h0
   have hK:=hK D1 f 0 (D1.err 0) (.inl ⟨h0,rfl,rfl,rfl,rfl⟩) w1 Y1 a1 h1
   generalize D1.err 0=e at*
   simp (disch:=try exact dZ) only [↓RBp,↓RA,↓reduceIte,Nat.reduceAdd,Nat.reduceMul,Nat.reduceEqDiff,RB,RX,RA2,h0]
   exact hK
 ·simp (disch:=try exact dZ) only [↓RBp,↓RA,↓reduceIte,Nat.reduceAdd,Nat.reduceMul,Nat.reduceEqDiff,RB,RX,RA2]
  exact hK _ _ _ _ (.inr (.inr ⟨hall,hnone,rfl,rfl,rfl,rfl⟩)) w1 Y (AStp.of_ext Y b e1) (h.ext e1)
end
structure RgS (D:DS) (l0 n:Nat) (f:Nat→Int×Int×Bool):Prop where
 on:On D
 gd:Good D
 lt:l0+32*n≤D.n
 ag:AgF D l0 n f
 sn:∀k,k<n→0≤(f k).1→Snd D (l0+32*k) (f k).1 (f k).2.1
structure ClOk (D:DS) (l0 n:Nat) (f:Nat→Int×Int×Bool) (c t:Int) (D2:DS) (f2:Nat→Int×Int×Bool) (k g:Nat):Prop where
 kn:k<n
 fe:f2=upF f k (c,t,(f k).2.2)
 g0:g≠0
 g6:g<65536
 oth:∀j,j<n→j≠k→∀i,i<256→wd D2 (l0+32*j) i=wd D (l0+32*j) i
 own:∀i,i<256→wd D2 (l0+32*k) i=planF c t g (wd D (l0+32*k)) i
 how:((f k).1<0∧(∀j,j<k→¬(f j).1<0)∧g=gX (wd D (l0+32*k) 0))∨((∀j,j<n→¬(f j).1<0)∧emG D l0 f k=some g∧∀j,j<k→emG D l0 f j=none)
section
variable {D D2:DS} {l0 n k g:Nat} {f f2:Nat→Int×Int×Bool} {c t r e:Int}
theorem Snd.congr {l:Nat} {o:Int} (h:Snd D l c o) (c0:0≤c) (c5:c<5) (e:∀j,j<256→wd D2 l j=wd D l j):Snd D2 l c o:=by
 have b:=fun (i:Nat) (hi:(i:Int)<perS c)=>e _ (offN_bd c0 c5 hi).2.2
 refine ⟨by rw [e 0 oM];exact h.hd,by rw [e 0 oM];exact h.hc,by rw [e 0 oM];exact h.ho,fun j h2 h8=>by rw [e j oM];exact h.zer j h2 h8,fun i hi=>by rw [b i hi];exact h.sl i hi,fun i hi=>by rw [b i hi];exact h.gd i hi,fun i hi=> ?_⟩
 rw [e 1 oM,h.bit i hi]
 by_cases hp:(i:Int)<perS c
 ·rw [b i hp]
 ·rw [decide_eq_false hp,Bool.false_and,Bool.false_and]
theorem RgS.cls (h:RgS D l0 n f) (hk:k<n):(f k).1<5∧-1≤(f k).1:=by
 have ha:=h.ag k hk
 have:=hd_cls ha.1
 rw [ha.2.1];exact ⟨this.1,this.2.2.2⟩
theorem RgS.upd (h:RgS D l0 n f) (on:On D2) (gd:Good D2) (hn:D2.n=D.n) (hk:k<n) (oth:∀j,j<n→j≠k→∀i,i<256→wd D2 (l0+32*j) i=wd D (l0+32*j) i) (hd:hdOk (wd D2 (l0+32*k) 0)=true∧hC (wd D2 (l0+32*k) 0)=c∧hO (wd D2 (l0+32*k) 0)=t) (sn:0≤c→Snd D2 (l0+32*k) c t) (b:Bool):RgS D2 l0 n (upF f k (c,t,b)):=by
 refine ⟨on,gd,by rw [hn];exact h.lt,fun j hj=> ?_,fun j hj h0=> ?_⟩
 ·by_cases ej:j=k
  ·subst ej;rw [upF_eq];exact ⟨hd.1,hd.2.1.symm,hd.2.2.symm⟩
  ·rw [upF_ne _ _ ej,oth j hj ej 0 oM];exact h.ag j hj
 ·by_cases ej:j=k
  ·subst ej;rw [upF_eq] at h0 ⊢;exact sn h0
  ·rw [upF_ne _ _ ej] at h0 ⊢
   exact (h.sn j hj h0).congr h0 (h.cls hj).1 (oth j hj ej)
theorem wd_far {l l':Nat} {W:Nat→Nat} (h:D2.cur=fun j=>if l*8≤j∧j<l*8+256 then W (j-l*8) else D.cur j):(∀i,i<256→wd D2 l i=W i)∧((l'+32≤l∨l+32≤l')→∀i,i<256→wd D2 l' i=wd D l' i):=by
 refine ⟨fun i hi=> ?_,fun hl i hi=> ?_⟩
 ·unfold wd;rw [h];simp only
  rw [if_pos oM,show l*8+i-l*8=i by omega]
 ·unfold wd;rw [h];simp only
  rw [if_neg oM]
theorem wd_one {l l' x:Nat} (h:D2.cur=fun j=>if j=l*8 then x else D.cur j):(∀i,i<256→wd D2 l i=if i=0 then x else wd D l i)∧((l'+32≤l∨l+32≤l')→∀i,i<256→wd D2 l' i=wd D l' i):=by
 refine ⟨fun i hi=> ?_,fun hl i hi=> ?_⟩
 ·unfold wd;rw [h];simp only
  by_cases h0:i=0
  ·rw [if_pos oM,if_pos h0]
  ·rw [if_neg oM,if_neg h0]
 ·unfold wd;rw [h];simp only
  rw [if_neg oM]
theorem emG_ok' (h:RgS D l0 n f) (hk:k<n) {g:Nat} (he:emG D l0 f k=some g):0≤(f k).1∧(f k).1<5∧(f k).2.2=false∧g≠0∧g<65536:=by
 have hc:=h.cls hk
 unfold emG at he
 by_cases h1:(f k).1<0
 ·rw [if_pos h1] at he;cases he
 ·rw [if_neg h1] at he
  by_cases h2:(f k).2.2=true
  ·rw [if_pos h2] at he;cases he
  ·rw [if_neg h2] at he
   have hp:=perS_in (show 0≤(f k).1 by omega) hc.1
   split at he
   ·rename_i h3
    injection he with he
    subst he
    exact ⟨by omega,hc.1,by simpa using h2,mxG_ne h3 oM,mxG_lt _⟩
   ·cases he
theorem cl_ok (h:RgS D l0 n f) (c0:0≤c) (c5:c<5) (t0:0≤t) (t8:t<8) (hr:ClRes D l0 n f c t D2 f2 r e):
  (e=4∧r=0∧D2=D∧f2=f∧(∀j,j<n→¬(f j).1<0)∧(∀j,j<n→emG D l0 f j=none))∨
  (e=0∧∃k g,r=((l0+32*k:Nat):Int)∧ClOk D l0 n f c t D2 f2 k g∧RgS D2 l0 n f2∧D2.n=D.n∧D2.exe≤D.exe+210):=by
 have hlt:=h.lt
 rcases hr with ⟨k,hk,hf,hall,hD2,hr⟩|⟨hall,k,g,D1,hk,hem,hnone,hD1,hr⟩|⟨h1,h2,h3,h4,h5,h6⟩
 ·right
  have ha:=h.ag k hk
  have hd:=hd_cls ha.1
  have g6:gX (wd D (l0+32*k) 0)<65536:=by unfold gX;omega
  obtain ⟨g,hg⟩:∃g,g=gX (wd D (l0+32*k) 0):=⟨_,rfl⟩
  rw [←hg] at hD2 hd g6
  have pg:=plan_gen h.on h.gd (l:=l0+32*k) (c:=c) (o:=t) (g:=g) oM c0 c5 t0 t8 hd.2.2.1 g6
  rw [←hD2] at pg
  have pc:=plan_cur (l:=l0+32*k) (c:=c) (o:=t) (g:=g) h.on.off h.on.err oM c0 c5 (by rw [←hD2];exact pg.1.err)
  rw [←hD2] at pc
  have hx:=run_exe 0 (planI (l0+32*k) c t g) D
  rw [←hD2] at hx
  have hl:=plan_len (l0+32*k) c0 c5 t g
  rcases hr with ⟨he,_⟩|⟨_,hf2,hrr,hee⟩
  ·exact absurd pg.1.err he
  ·have w1:=fun l'=>wd_far (l':=l') pc.1
   have ok:ClOk D l0 n f c t D2 f2 k g:=⟨hk,hf2,hd.2.2.1,g6,fun j hj hjk=>(w1 (l0+32*j)).2 oM,(w1 0).1,.inl ⟨hf,hall,hg⟩⟩
   refine ⟨hee,k,g,hrr,ok,?_,pg.2.2.1,by omega⟩
   rw [hf2]
   have hs:=pg.2.2.2.2.1
   exact h.upd pg.1 pg.2.1 pg.2.2.1 hk ok.oth ⟨hs.hd,hs.hc,hs.ho⟩ (fun _=>hs) _
 ·right
  have hgk:=emG_ok' h hk hem
  have cg:=clr_gen h.on h.gd (l:=l0+32*k) (g:=g) oM hgk.2.2.2.2
  rw [←hD1] at cg
  have cc:=clr_cur (l:=l0+32*k) (g:=g) h.on.off h.on.err oM (by rw [←hD1];exact cg.1.err)
  rw [←hD1] at cc
  have hx1:=run_exe 0 (clrI (l0+32*k) g) D
  rw [←hD1] at hx1
  have hl1:=clrI_len (l0+32*k) g
  rcases hr with ⟨he,_⟩|⟨_,hD2,hr⟩
  ·exact absurd cg.1.err he
  ·have pg:=plan_gen cg.1 cg.2.1 (l:=l0+32*k) (c:=c) (o:=t) (g:=g) (by rw [cg.2.2.1];omega) c0 c5 t0 t8 hgk.2.2.2.1 hgk.2.2.2.2
   rw [←hD2] at pg
   have pc:=plan_cur (l:=l0+32*k) (c:=c) (o:=t) (g:=g) cg.1.off cg.1.err (by rw [cg.2.2.1];omega) c0 c5 (by rw [←hD2];exact pg.1.err)
   rw [←hD2] at pc
   have hx:=run_exe 0 (planI (l0+32*k) c t g) D1
   rw [←hD2] at hx
   have hl:=plan_len (l0+32*k) c0 c5 t g
   rcases hr with ⟨he,_⟩|⟨_,hf2,hrr,hee⟩
   ·exact absurd pg.1.err he
   ·have w0:=fun l'=>wd_one (l':=l') cc.1
    have w1:=fun l'=>wd_far (l':=l') pc.1
    have ok:ClOk D l0 n f c t D2 f2 k g:=⟨hk,hf2,hgk.2.2.2.1,hgk.2.2.2.2,fun j hj hjk i hi=>by rw [(w1 (l0+32*j)).2 oM i hi,(w0 (l0+32*j)).2 oM i hi],fun i hi=>by
     rw [(w1 0).1 i hi]
     unfold planF
     by_cases h0:i=0
     ·rw [if_pos h0,if_pos h0]
     ·rw [if_neg h0,if_neg h0,(w0 0).1 i hi,if_neg h0],.inr ⟨hall,hem,hnone⟩⟩
    refine ⟨hee,k,g,hrr,ok,?_,pg.2.2.1.trans cg.2.2.1,by omega⟩
    rw [hf2]
    have hs:=pg.2.2.2.2.1
    exact h.upd pg.1 pg.2.1 (pg.2.2.1.trans cg.2.2.1) hk ok.oth ⟨hs.hd,hs.hc,hs.ho⟩ (fun _=>hs) _
 ·exact .inl ⟨h6,h5,h3,h4,h1,h2⟩
end
section
variable {D D2:DS} {l0 n k g:Nat} {f f2:Nat→Int×Int×Bool} {c t r e:Int} {ws:List (Nat×Nat)}
def Cov (C:Co):Prop:=∀l:Nat,C.hist l= []∨C.notes ((l:Nat):Int)=some (C.done l+(C.hist l).length)
theorem Cov.fe {C:Co} (h:Cov C) (j:J1 C):Cln C.fe:=by
 refine (j.fe (fun l=> ?_)).1
 rcases h l with h1|h1
 ·rw [h1];simp
 ·unfold Co.due
  rw [h1]
  simp only
  omega
theorem run_cln {p:List (Nat×Nat)} (on:On D) (hv:∀x∈p,x.1%8=0∧x.1<D.n*64) (hc:Cln D.co):Cln (D.run 0 (storesI p)).co:=by
 have o:=(On.stores on p hv).1
 rw [(run_all on.off on.err (vIns_stores hv) o.err).1]
 exact (run_stores hc p).1
theorem clr_cln (on:On D) (gd:Good D) {l:Nat} (hl:l+32≤D.n) (hc:Cln D.co):Cln (D.run 0 (clrI l g)).co:=
 run_cln on (fun x hx=>by simp only [List.mem_singleton] at hx;subst hx;simp only;omega) hc
theorem plan_cln (on:On D) (gd:Good D) {l:Nat} (hl:l+32≤D.n) (c0:0≤c) (c5:c<5) {o:Int} (hc:Cln D.co):Cln (D.run 0 (planI l c o g)).co:=by
 have h1:=On.stores on (planW l c g) (fun x hx=>by have:=planW_in hl c0 c5 g x hx;exact ⟨this.1,this.2.1⟩)
 have c1:=run_cln on (p:=planW l c g) (fun x hx=>by have:=planW_in hl c0 c5 g x hx;exact ⟨this.1,this.2.1⟩) hc
 unfold planI
 rw [run_append]
 have n1:(D.run 0 (storesI (planW l c g))).n=D.n:=run_n 0 _ D
 exact run_cln h1.1 (fun x hx=>by simp only [List.mem_singleton] at hx;subst hx;rw [n1];simp only;omega) c1
theorem cl_cln (h:RgS D l0 n f) (c0:0≤c) (c5:c<5) (hr:ClRes D l0 n f c t D2 f2 r e) (hc:Cln D.co):Cln D2.co:=by
 have hlt:=h.lt
 rcases hr with ⟨k,hk,hf,hall,hD2,hr⟩|⟨hall,k,g,D1,hk,hem,hnone,hD1,hr⟩|⟨_,_,h3,_⟩
 ·rw [hD2];exact plan_cln h.on h.gd oM c0 c5 hc
 ·have hgk:=emG_ok' h hk hem
  have cg:=clr_gen h.on h.gd (l:=l0+32*k) (g:=g) oM hgk.2.2.2.2
  have c1:=clr_cln (g:=g) h.on h.gd (l:=l0+32*k) oM hc
  rw [←hD1] at cg c1
  rcases hr with ⟨_,hD2,_⟩|⟨_,hD2,_⟩
  ·rw [hD2];exact c1
  ·rw [hD2];exact plan_cln cg.1 cg.2.1 (by rw [cg.2.2.1];omega) c0 c5 c1
 ·rw [h3];exact hc
end
def enL:Nat→List (Nat×Nat)→List (Nat×Nat)
 |_,[]=> []
 |i,x::r=>(64+16*i,x.1)::(64+16*i+8,x.2)::enL (i+1) r
def cmI (c:Nat) (ws:List (Nat×Nat)):List Ins:=(storesI (enL 0 ws)++storesI [(0,c)])++(storesI ws++storesI [(0,0)])
section
variable {D:DS} {ws:List (Nat×Nat)} {c:Nat}
theorem applyH_at':∀(ws:List (Nat×Nat)) (f h:Nat→Nat) (x:Nat),f x=h x→applyH ws f x=applyH ws h x
 | [],f,h,x,e=>e
 |y::ws,f,h,x,e=>by
  rw [applyH_cons,applyH_cons]
  refine applyH_at' ws _ _ x ?_
  show (if x=y.1/8 then y.2 else f x)=if x=y.1/8 then y.2 else h x
  by_cases e2:x=y.1/8
  ·rw [if_pos e2,if_pos e2]
  ·rw [if_neg e2,if_neg e2];exact e
theorem enL_len:∀(i:Nat) (ws:List (Nat×Nat)),(enL i ws).length=2*ws.length
 |_,[]=>rfl
 |i,x::r=>by simp only [enL,List.length_cons,enL_len (i+1) r];omega
theorem enL_mem:∀{i:Nat} {ws:List (Nat×Nat)} {y:Nat×Nat},y∈enL i ws→(64+16*i≤y.1∧y.1<64+16*(i+ws.length)∧y.1%8=0)∧∃x∈ws,y.2=x.1∨y.2=x.2
 |_,[],y,h=>by cases h
 |i,x::r,y,h=>by
  simp only [enL,List.mem_cons] at h
  simp only [List.length_cons]
  rcases h with rfl|rfl|h
  ·exact ⟨by simp only;omega,x,by simp,.inl rfl⟩
  ·exact ⟨by simp only;omega,x,by simp,.inr rfl⟩
  ·obtain ⟨h1,z,hz,h2⟩:=enL_mem h
   exact ⟨by omega,z,by simp [hz],h2⟩
structure WsOk (n:Nat) (ws:List (Nat×Nat)):Prop where
 ok:∀x∈ws,x.1%8=0∧x.1<n*64∧1664≤x.1∧x.2<18446744073709551616
 len:ws.length≤96
theorem cm_okI (h:WsOk D.n ws) (hn:D.n≤4096) (hc:c<18446744073709551616):∀i∈cmI c ws,okI i:=by
 intro i hi
 unfold cmI at hi
 have hl:=h.len
 rcases List.mem_append.1 hi with hi|hi
 ·rcases List.mem_append.1 hi with hi|hi
  ·refine okI_stores (fun x hx=> ?_) i hi
   obtain ⟨h1,z,hz,h2⟩:=enL_mem hx
   have:=h.ok z hz
   refine ⟨by omega,?_⟩
   rcases h2 with h2|h2<;>omega
  ·exact okI_stores (fun x hx=>by simp only [List.mem_singleton] at hx;subst hx;exact ⟨by simp only;omega,hc⟩) i hi
 ·rcases List.mem_append.1 hi with hi|hi
  ·exact okI_stores (fun x hx=>by have:=h.ok x hx;exact ⟨by omega,this.2.2.2⟩) i hi
  ·exact okI_stores (fun x hx=>by simp only [List.mem_singleton] at hx;subst hx;simp only;omega) i hi
theorem cm_len (h:WsOk D.n ws):(cmI c ws).length≤1000:=by
 have h1:=storesI_le (enL 0 ws)
 have h2:=storesI_le [((0:Nat),c)]
 have h3:=storesI_le ws
 have h4:=storesI_le [((0:Nat),(0:Nat))]
 rw [enL_len] at h1
 have:=h.len
 unfold cmI
 simp only [List.length_append,List.length_singleton] at*
 omega
theorem enL_in (h:WsOk D.n ws) (h26:26≤D.n):∀x∈enL 0 ws,x.1%8=0∧x.1<D.n*64:=fun x hx=>by
 obtain ⟨h1,_⟩:=enL_mem hx
 have:=h.len
 exact ⟨h1.2.2,by omega⟩
theorem cm_gen (on:On D) (gd:Good D) (h26:26≤D.n) (h:WsOk D.n ws) (hc:c<18446744073709551616):
  On (D.run 0 (cmI c ws))∧Good (D.run 0 (cmI c ws))∧(D.run 0 (cmI c ws)).n=D.n∧(D.run 0 (cmI c ws)).exe≤D.exe+1000∧(∀j,208≤j→(D.run 0 (cmI c ws)).cur j=applyH ws D.cur j)∧(D.run 0 (cmI c ws)).cur 0=0∧(Cln D.co→Cln (D.run 0 (cmI c ws)).co):=by
 have hl:=h.len
 have hnn:=gd.n
 have v1:=enL_in h h26
 have o1:=On.stores on (enL 0 ws) v1
 have n1:(D.run 0 (storesI (enL 0 ws))).n=D.n:=run_n 0 _ D
 have v2:∀x∈ [((0:Nat),c)],x.1%8=0∧x.1<D.n*64:=fun x hx=>by simp only [List.mem_singleton] at hx;subst hx;exact ⟨rfl,by show 0<D.n*64;omega⟩
 have o2:=On.stores o1.1 [(0,c)] (by rw [n1];exact v2)
 have n2:((D.run 0 (storesI (enL 0 ws))).run 0 (storesI [(0,c)])).n=D.n:=(run_n 0 _ _).trans n1
 have v3:∀x∈ws,x.1%8=0∧x.1<D.n*64:=fun x hx=>⟨(h.ok x hx).1,(h.ok x hx).2.1⟩
 have o3:=On.stores o2.1 ws (by rw [n2];exact v3)
 have n3:(((D.run 0 (storesI (enL 0 ws))).run 0 (storesI [(0,c)])).run 0 (storesI ws)).n=D.n:=(run_n 0 _ _).trans n2
 have v4:∀x∈ [((0:Nat),(0:Nat))],x.1%8=0∧x.1<D.n*64:=fun x hx=>by simp only [List.mem_singleton] at hx;subst hx;exact ⟨rfl,by show 0<D.n*64;omega⟩
 have o4:=On.stores o3.1 [(0,0)] (by rw [n3];exact v4)
 have e:D.run 0 (cmI c ws)=(((D.run 0 (storesI (enL 0 ws))).run 0 (storesI [(0,c)])).run 0 (storesI ws)).run 0 (storesI [(0,0)]):=by
  unfold cmI;rw [run_append,run_append,run_append]
 have hx:=run_exe 0 (cmI c ws) D
 have hlen:=cm_len (c:=c) h
 have hgd:=Good.run 0 oM (cmI c ws) D gd (cm_okI h hnn hc)
 refine ⟨by rw [e];exact o4.1,hgd,run_n 0 _ _,by omega,fun j hj=> ?_,?_,fun hcl=> ?_⟩
 ·rw [e,o4.2,o3.2,o2.2,o1.2]
  have far:∀(f:Nat→Nat) (x:Nat),applyH [((0:Nat),x)] f j=f j:=fun f x=>applyH_other _ _ _ (fun y hy=>by simp only [List.mem_singleton] at hy;subst hy;simp only;omega)
  rw [far]
  refine applyH_at' ws _ _ j ?_
  rw [far]
  exact applyH_other _ _ _ (fun y hy=>by obtain ⟨h1,_⟩:=enL_mem hy;omega)
 ·rw [e,o4.2];rfl
 ·rw [e]
  exact run_cln o3.1 (by rw [n3];exact v4) (run_cln o2.1 (by rw [n2];exact v3) (run_cln o1.1 (by rw [n1];exact v2) (run_cln on v1 hcl)))
end
end Go.Proofs.YtmpehclnnjgmcaaGreatDoor
namespace Go.Sh
open Go
abbrev KVL:=List (Int×Value)
def getL (L:KVL) (i:Int):Option Value:=(L.find? fun p=>decide (p.1=i)).map (·.2)
def setL (L:KVL) (i:Int) (v:Value):KVL:=if (getL L i).isSome then L.map (fun p=>if p.1=i then (i,v) else p) else L++ [(i,v)]
def delL (L:KVL) (i:Int):KVL:=L.filter fun p=> !decide (p.1=i)
def kvV (kk:IntKind) (p:Int×Value):Value×Value:=(.int kk p.1,p.2)
def MapK (kk:IntKind) (w:World) (r:Nat) (L:KVL):Prop:=∃es clock,w.heap[r]? =some (.map es clock)∧MapKept.Stamped es clock∧es.toList.map (fun x=>(x.key,x.val))=L.map (kvV kk)
def MapT (P:Program) (kk:IntKind) (t:TypeId) (z:Value):Prop:=∃kt et,P.underlying t=some (.map kt et)∧P.underlying kt=some (.int kk)∧zeroT P et=some z
section
variable {P:Program} {kk:IntKind} {w w':World} {r:Nat} {L:KVL} {i:Int} {v u z:Value} {t:TypeId}
theorem getL_mem (h:getL L i=some v):(i,v)∈L:=by
 unfold getL at h
 cases hf:L.find? (fun p=>decide (p.1=i)) with
 |none=>rw [hf] at h;cases h
 |some p=>
  rw [hf] at h
  have h1:=List.mem_of_find?_eq_some hf
  have h2:=List.find?_some hf
  simp only [decide_eq_true_eq] at h2
  simp only [Option.map_some,Option.some.injEq] at h
  obtain ⟨a,b⟩:=p
  simp only at h2 h
  subst h2;subst h;exact h1
theorem getL_of {L:KVL} {i:Int} {v:Value} (hn:(L.map (·.1)).Nodup) (h:(i,v)∈L):getL L i=some v:=by
 induction L with
 |nil=>cases h
 |cons p L ih=>
  unfold getL
  rw [List.find?_cons]
  by_cases e:p.1=i
  ·rw [decide_eq_true e]
   rcases List.mem_cons.1 h with h|h
   ·rw [←h];rfl
   ·exfalso
    rw [List.map_cons,List.nodup_cons] at hn
    exact hn.1 (List.mem_map.2 ⟨_,h,e.symm⟩)
  ·rw [decide_eq_false e]
   rcases List.mem_cons.1 h with h|h
   ·rw [←h] at e;exact absurd rfl e
   ·rw [List.map_cons,List.nodup_cons] at hn
    exact ih hn.2 h
theorem getL_none {L:KVL} {i:Int}:getL L i=none↔∀p∈L,p.1≠i:=by
 unfold getL
 rw [Option.map_eq_none_iff,List.find?_eq_none]
 simp
theorem set_at {L:KVL} (hn:(L.map (·.1)).Nodup) {j:Nat} (h:L[j]? =some (i,u)):L.set j (i,v)=L.map (fun p=>if p.1=i then (i,v) else p):=by
 apply List.ext_getElem?
 intro q
 rw [List.getElem?_set,List.getElem?_map]
 have hj:=(List.getElem?_eq_some_iff.1 h).1
 by_cases e:j=q
 ·subst e
  rw [if_pos rfl,if_pos hj,h];simp
 ·rw [if_neg e]
  cases hq:L[q]? with
  |none=>rfl
  |some p=>
   simp only [Option.map_some,Option.some.injEq]
   have:p.1≠i:=fun e2=>by
    have h1:(L.map (·.1))[q]? =some i:=by rw [List.getElem?_map,hq,←e2];rfl
    have h2:(L.map (·.1))[j]? =some i:=by rw [List.getElem?_map,h];rfl
    exact e ((List.getElem?_inj (by rw [List.length_map];exact hj) hn).1 (h2.trans h1.symm))
   rw [if_neg this]
theorem erase_at:∀{L:KVL} {j:Nat},(L.map (·.1)).Nodup→L[j]? =some (i,u)→L.eraseIdx j=delL L i
 | [],j,_,h=>by simp at h
 |p::L,0,hn,h=>by
  simp only [List.getElem?_cons_zero,Option.some.injEq] at h
  subst h
  rw [List.map_cons,List.nodup_cons] at hn
  simp only [List.eraseIdx_cons_zero,delL,List.filter_cons]
  rw [if_neg (by simp)]
  symm
  rw [List.filter_eq_self]
  intro q hq
  simp only [Bool.not_eq_true',decide_eq_false_iff_not]
  intro e
  exact hn.1 (List.mem_map.2 ⟨q,hq,e⟩)
 |p::L,j+1,hn,h=>by
  simp only [List.getElem?_cons_succ] at h
  rw [List.map_cons,List.nodup_cons] at hn
  have hp:p.1≠i:=fun e=>hn.1 (by rw [e];exact List.mem_map.2 ⟨_,List.mem_of_getElem? h,rfl⟩)
  simp only [List.eraseIdx_cons_succ]
  rw [erase_at hn.2 h]
  simp only [delL,List.filter_cons]
  rw [if_pos (by simpa using hp)]
theorem MapK.lt (h:MapK kk w r L):r<w.heap.size:=by
 obtain ⟨es,c,h1,_⟩:=h
 exact lt_of_heap h1
theorem MapK.of_heap (h:MapK kk w r L) (e:w'.heap[r]? =w.heap[r]?):MapK kk w' r L:=by
 obtain ⟨es,c,h1,h2⟩:=h
 exact ⟨es,c,e.trans h1,h2⟩
theorem MapK.ext (h:MapK kk w r L) (e:Ext w w'):MapK kk w' r L:=h.of_heap (e.blk r h.lt)
theorem MapK.frm {F:Nat→Prop} (h:MapK kk w r L) (e:Frm F w w') (hF:¬F r):MapK kk w' r L:=h.of_heap (e.block r h.lt hF)
theorem MapK.empty {clock:Nat} (h:w.heap[r]? =some (.map #[] clock)):MapK kk w r []:=⟨#[],clock,h,MapKept.stamped_empty _,rfl⟩
theorem MapK.keys (h:MapK kk w r L):(L.map (·.1)).Nodup:=by
 obtain ⟨es,c,h1,h2,h3⟩:=h
 have h4:es.toList.map (·.key)=(L.map (·.1)).map (Value.int kk):=by
  have:=congrArg (List.map Prod.fst) h3
  simp only [List.map_map] at this
  rw [List.map_map];exact this
 have h5:=h2.2.2
 rw [h4] at h5
 exact List.Pairwise.of_map (S:=fun a b=>a≠b) (Value.int kk) (fun a b h e=>h (by rw [e])) h5
theorem mk_at {es:Array MapEntry} (h3:es.toList.map (fun x=>(x.key,x.val))=L.map (kvV kk)) (j:Nat):(es.toList[j]?).map (fun x=>(x.key,x.val))=(L[j]?).map (kvV kk):=by
 have:=congrArg (fun l=>l[j]?) h3
 simpa only [List.getElem?_map] using this
theorem mk_find {es:Array MapEntry} {c:Nat} (h2:MapKept.Stamped es c) (h3:es.toList.map (fun x=>(x.key,x.val))=L.map (kvV kk)) (i:Int):
  (Instr.findNow (.int kk) (.int kk i) es.toList 0=some none∧getL L i=none)∨∃j e,Instr.findNow (.int kk) (.int kk i) es.toList 0=some (some (j,e.val))∧es.toList[j]? =some e∧e.key= .int kk i∧L[j]? =some (i,e.val)∧getL L i=some e.val:=by
 have hks:∀x∈es.toList,MapKept.IsKey (.int kk) x.key:=fun x hx=>by
  have:(x.key,x.val)∈L.map (kvV kk):=by rw [←h3];exact List.mem_map.2 ⟨x,hx,rfl⟩
  obtain ⟨p,_,hp⟩:=List.mem_map.1 this
  have:x.key= .int kk p.1:=(congrArg Prod.fst hp).symm
  rw [this];simp [MapKept.IsKey]
 have hn:(L.map (·.1)).Nodup:=by
  have h4:es.toList.map (·.key)=(L.map (·.1)).map (Value.int kk):=by
   have:=congrArg (List.map Prod.fst) h3
   simp only [List.map_map] at this
   rw [List.map_map];exact this
  have h5:=h2.2.2
  rw [h4] at h5
  exact List.Pairwise.of_map (S:=fun a b=>a≠b) (Value.int kk) (fun a b h e=>h (by rw [e])) h5
 rcases MapKept.findNow_spec (d:= .int kk) (k:= .int kk i) (by simp [MapKept.IsKey]) es.toList 0 hks with ⟨a,b⟩|⟨j,e,a,b,d⟩
 ·left
  refine ⟨a,getL_none.2 (fun p hp e=> ?_)⟩
  have:kvV kk p∈es.toList.map (fun x=>(x.key,x.val)):=by rw [h3];exact List.mem_map.2 ⟨p,hp,rfl⟩
  obtain ⟨x,hx,hxp⟩:=List.mem_map.1 this
  have h6:x.key= .int kk p.1:=congrArg Prod.fst hxp
  rw [e] at h6
  exact b x hx h6
 ·right
  rw [Nat.zero_add] at a
  have h7:=mk_at h3 j
  rw [b] at h7
  cases hL:L[j]? with
  |none=>rw [hL] at h7;cases h7
  |some p=>
   rw [hL] at h7
   simp only [Option.map_some,Option.some.injEq,kvV,Prod.mk.injEq] at h7
   rw [d] at h7
   have hp1:p.1=i:=by injection h7.1 with _ h;exact h.symm
   have hp:p=(i,e.val):=by obtain ⟨a,b⟩:=p;simp only at hp1 h7;rw [hp1,h7.2]
   rw [hp] at hL
   exact ⟨j,e,a,b,d,hL,getL_of hn (List.mem_of_getElem? hL)⟩
theorem run_lookupK (ht:MapT P kk t z) (h:MapK kk w r L) (i:Int):(Instr.lookup t (.map (some r)) (.int kk i) true).run P w= .ok (.tuple #[(getL L i).getD z,.bool (getL L i).isSome]) w:=by
 obtain ⟨kt,et,hu,hk,hz⟩:=ht
 obtain ⟨es,c,h1,h2,h3⟩:=h
 rcases mk_find h2 h3 i with ⟨a,b⟩|⟨j,e,a,_,_,_,b⟩
 ·simp [Instr.lookup,run_underlying hu,MapKept.run_getObj_map h1,MapKept.run_checkKey hk (show MapKept.IsKey (.int kk) (.int kk i) by simp [MapKept.IsKey]),MapKept.run_findKey hk a,run_zeroValue hz,b]
 ·simp [Instr.lookup,run_underlying hu,MapKept.run_getObj_map h1,MapKept.run_checkKey hk (show MapKept.IsKey (.int kk) (.int kk i) by simp [MapKept.IsKey]),MapKept.run_findKey hk a,b]
theorem rd_lookupK (ht:MapT P kk t z) (h:MapK kk w r L) (i:Int) (k:Value→Prop):rd P (Instr.lookup t (.map (some r)) (.int kk i) true) w k=k (.tuple #[(getL L i).getD z,.bool (getL L i).isSome]):=rd_of_run (run_lookupK ht h i) k
theorem run_lookupK1 (ht:MapT P kk t z) (h:MapK kk w r L) (i:Int):(Instr.lookup t (.map (some r)) (.int kk i) false).run P w= .ok ((getL L i).getD z) w:=by
 obtain ⟨kt,et,hu,hk,hz⟩:=ht
 obtain ⟨es,c,h1,h2,h3⟩:=h
 rcases mk_find h2 h3 i with ⟨a,b⟩|⟨j,e,a,_,_,_,b⟩
 ·simp [Instr.lookup,run_underlying hu,MapKept.run_getObj_map h1,MapKept.run_checkKey hk (show MapKept.IsKey (.int kk) (.int kk i) by simp [MapKept.IsKey]),MapKept.run_findKey hk a,run_zeroValue hz,b]
 ·simp [Instr.lookup,run_underlying hu,MapKept.run_getObj_map h1,MapKept.run_checkKey hk (show MapKept.IsKey (.int kk) (.int kk i) by simp [MapKept.IsKey]),MapKept.run_findKey hk a,b]
theorem ev_lookupK1 (ht:MapT P kk t z) (h:MapK kk w r L) (i:Int) (k:K1):ev P (Instr.lookup t (.map (some r)) (.int kk i) false) w k=k ((getL L i).getD z) w:=ev_of_run (run_lookupK1 ht h i) k
theorem rd_lookupK1 (ht:MapT P kk t z) (h:MapK kk w r L) (i:Int) (k:Value→Prop):rd P (Instr.lookup t (.map (some r)) (.int kk i) false) w k=k ((getL L i).getD z):=rd_of_run (run_lookupK1 ht h i) k
theorem ev_lookupN (ht:MapT P kk t z) (i:Int) (w:World) (k:K1):ev P (Instr.lookup t (.map none) (.int kk i) false) w k=k z w:=by
 obtain ⟨kt,et,hu,hk,hz⟩:=ht
 refine ev_of_run ?_ k
 simp [Instr.lookup,run_underlying hu,MapKept.run_checkKey hk (show MapKept.IsKey (.int kk) (.int kk i) by simp [MapKept.IsKey]),MapKept.run_findKey hk (show Instr.findNow (.int kk) (.int kk i) [] 0=some none from rfl),run_zeroValue hz]
theorem ac_setK {k:World→Prop} (ht:MapT P kk t z) (h:MapK kk w r L) (i:Int) (v:Value) (hK:∀w',MapK kk w' r (setL L i v)→Frm (fun b=>b=r) w w'→k w'):ac P (Instr.mapUpdate t (.map (some r)) (.int kk i) v) w k:=by
 obtain ⟨kt,et,hu,hk,hz⟩:=ht
 have hkeys:=h.keys
 obtain ⟨es,c,h1,h2,h3⟩:=h
 have hik:MapKept.IsKey (.int kk) (.int kk i):=by simp [MapKept.IsKey]
 unfold ac
 rcases mk_find h2 h3 i with ⟨a,b⟩|⟨j,e,a,d1,d2,d3,b⟩
 ·have hr:(Instr.mapUpdate t (.map (some r)) (.int kk i) v).run P w= .ok () (putO w r (.map (es.push {key:= .int kk i,val:=v,born:=c}) (c+1))):=by
   simp [Instr.mapUpdate,run_underlying hu,MapKept.run_getObj_map h1,MapKept.run_checkKey hk hik,MapKept.run_findKey hk a,MapKept.run_setObj_map _ h1,putO]
  rw [hr]
  refine hK _ ⟨_,_,putO_eq h1,MapKept.stamped_push h2 (fun x hx e=> ?_),?_⟩ putO_frm
  ·have:(x.key,x.val)∈L.map (kvV kk):=by rw [←h3];exact List.mem_map.2 ⟨x,hx,rfl⟩
   obtain ⟨p,hp,hpx⟩:=List.mem_map.1 this
   have h6:Value.int kk p.1=x.key:=congrArg Prod.fst hpx
   rw [e] at h6
   injection h6 with _ h6
   exact getL_none.1 b p hp h6
  ·unfold setL
   rw [b,if_neg (by simp)]
   simp [h3,kvV]
 ·have hj:es[j]? =some e:=by simpa using d1
  have hr:(Instr.mapUpdate t (.map (some r)) (.int kk i) v).run P w= .ok () (putO w r (.map (es.modify j fun e=>{e with key:= .int kk i,val:=v}) c)):=by
   simp [Instr.mapUpdate,run_underlying hu,MapKept.run_getObj_map h1,MapKept.run_checkKey hk hik,MapKept.run_findKey hk a,hj,d2,MapKept.run_keyThatStays hik,MapKept.run_setObj_map _ h1,putO]
  rw [hr]
  have hst:=MapKept.stamped_modify (es:=es) (clock:=c) h2 j (fun e=>{e with key:= .int kk i,val:=v}) (fun _ _=>rfl) (fun e' _ he'=>by rw [hj] at he';cases he';exact d2.symm)
  refine hK _ ⟨_,_,putO_eq h1,hst,?_⟩ putO_frm
  unfold setL
  rw [b,if_pos (by simp),←set_at hkeys d3]
  apply List.ext_getElem?
  intro q
  have h7:=mk_at h3 q
  rw [List.getElem?_map,List.getElem?_map,Array.getElem?_toList,Array.getElem?_modify,List.getElem?_set]
  have hjl:j<L.length:=(List.getElem?_eq_some_iff.1 d3).1
  by_cases e2:j=q
  ·subst e2
   rw [if_pos rfl,if_pos rfl,if_pos hjl,hj];rfl
  ·rw [if_neg e2,if_neg e2,←h7,Array.getElem?_toList]
theorem blt_delK {ts:Array TypeId} {ty:TypeId} {cs:Array Bool} {k:K1} (hts:ts[0]? =some t) (ht:MapT P kk t z) (h:MapK kk w r L) (i:Int) (hK:∀w',MapK kk w' r (delL L i)→Frm (fun b=>b=r) w w'→k (.tuple #[]) w'):bltS P .delete ts ty cs #[.map (some r),.int kk i] w k:=by
 obtain ⟨kt,et,hu,hk,hz⟩:=ht
 have hkeys:=h.keys
 obtain ⟨es,c,h1,h2,h3⟩:=h
 have hik:MapKept.IsKey (.int kk) (.int kk i):=by simp [MapKept.IsKey]
 unfold bltS
 rcases mk_find h2 h3 i with ⟨a,b⟩|⟨j,e,a,d1,d2,d3,b⟩
 ·have hr:(builtin .delete ts ty cs #[.map (some r),.int kk i]).run P w= .ok (.value (.tuple #[])) (putO w r (.map es c)):=by
   simp [builtin,Builtin.delete_,hts,run_underlying hu,MapKept.run_getObj_map h1,MapKept.run_checkKey hk hik,MapKept.run_findKey hk a,MapKept.run_setObj_map _ h1,putO]
  rw [hr]
  refine hK _ ⟨_,_,putO_eq h1,h2,?_⟩ putO_frm
  unfold delL
  rw [List.filter_eq_self.2 (fun p hp=>by simpa using getL_none.1 b p hp)]
  exact h3
 ·have hr:(builtin .delete ts ty cs #[.map (some r),.int kk i]).run P w= .ok (.value (.tuple #[])) (putO w r (.map (es.eraseIdxIfInBounds j) c)):=by
   simp [builtin,Builtin.delete_,hts,run_underlying hu,MapKept.run_getObj_map h1,MapKept.run_checkKey hk hik,MapKept.run_findKey hk a,MapKept.run_setObj_map _ h1,putO]
  rw [hr]
  refine hK _ ⟨_,_,putO_eq h1,MapKept.stamped_erase h2 j,?_⟩ putO_frm
  rw [←erase_at hkeys d3,Array.toList_eraseIdxIfInBounds]
  have er:∀{α β:Type} (g:α→β) (l:List α) (j:Nat),(l.eraseIdx j).map g=(l.map g).eraseIdx j:=by
   intro α β g l
   induction l with
   |nil=>intro j;rfl
   |cons x l ih=>
    intro j
    cases j with
    |zero=>rfl
    |succ j=>simp only [List.eraseIdx_cons_succ,List.map_cons,ih]
  rw [er,er,h3]
end
end Go.Sh
namespace Go.Proofs.YtmpehclnnjgmcaaGreatDoor
open Go Go.Sh
noncomputable def f15_u:Code×Dec:=((Tryz.f15.body).getD .skip,(.s .o (.s .o (.s .o (.s .o (.s .o (.s .o (.s .o (.x 61441 .o (.x 61441 .o .o))))))))))
abbrev f15_e (K:K1):KF:=endK prog Tryz.f15.results.toList K
def f15_k1_o (K:K1):KF:=fun fr w=>∀σ,cP (pr (pr (pr (pr (pr (pr (pr (pr f15_u)))))))) (f15_e K) (f15_e K) nX (mixF 61441 σ 0 fr) w
def f15_k1 (K:K1) (x0 x12 x13 x14 x15:Value) (w:World):Prop:=f15_k1_o K (fz 102 0 [(0,x0),(12,x12),(13,x13),(14,x14),(15,x15)]) w
def f15_k2_o (K:K1):KF:=fun fr w=>∀σ,cP (pr (pr (pr (pr (pr (pr (pr (pr (pr f15_u))))))))) (f15_e K) (f15_e K) nX (mixF 61441 σ 0 fr) w
def f15_k2 (K:K1) (x0 x12 x13 x14 x15:Value) (w:World):Prop:=f15_k2_o K (fz 102 0 [(0,x0),(12,x12),(13,x13),(14,x14),(15,x15)]) w
def f15_k1_t (x0 x12 x13 x14 x15:Value) (K:K1) (w:World):Prop:=
 bC .eql 28 69 5 x13 w fun a w=>
 cndS a (
 f15_k2 K x0 x12 (.int .i64 4) x14 x15 w) (
 f15_k2 K x0 x12 x13 x14 x15 w)
theorem f15_k1_eq (K:K1) (x0 x12 x13 x14 x15:Value) (w:World):f15_k1 K x0 x12 x13 x14 x15 w=f15_k1_t x0 x12 x13 x14 x15 K w:=cutE fun σ=>by kernel_rfl
def f15_k2_t (x0 x12 x13 x14 x15:Value) (K:K1) (w:World):Prop:=
 bC .neq 28 71 0 x13 w fun a w=>
 cndS a (
 K (.tuple #[(.int .u64 ((0:Nat):Int)),x13]) w) (
 cL 69 (pA #[x0,x14,x12]) w fun b w=>
 bC .neq 28 78 0 b w fun c w=>
 cndS c (
 K (.tuple #[(.int .u64 ((0:Nat):Int)),b]) w) (
 nR x0 w.drew fun d=>
 fR 112 d 4 w.drew fun e=>
 lR 108 e w.drew fun f=>
 cL 20 (pA #[x14]) w.drew fun g w=>
 (nilR prog x0 w (fun u=>u=d))∧
 (fG 112 d 4 w e)∧
 (lG 108 e w f)∧
 ac prog (Instr.mapUpdate 108 f g x14) w fun w=>
 nS x0 w fun h w=>
 fA 112 h 5 w fun i w=>
 lD 109 i w fun j w=>
 ev prog (Instr.lookup 109 j x15 false) w fun l w=>
 bC .add 3 93 1 l w fun m w=>
 ac prog (Instr.mapUpdate 109 j x15 m) w fun w=>
 nS x0 w fun n w=>
 fA 112 n 3 w fun o w=>
 lD 107 o w fun p w=>
 cL 70 (pA #[p,x15,(.bool true)]) w fun q w=>
 K (.tuple #[x14,(.int .i64 0)]) w))
theorem f15_k2_eq (K:K1) (x0 x12 x13 x14 x15:Value) (w:World):f15_k2 K x0 x12 x13 x14 x15 w=f15_k2_t x0 x12 x13 x14 x15 K w:=cutE fun σ=>by kernel_rfl
def f15_t (x0 x1 x2 x3:Value) (K:K1) (w:World):Prop:=
 bM .eql 33 (.tmp 17) (.const (.pointer none)) x0 (.pointer none) w fun a w=>
 cndS a (
 K (.tuple #[(.int .u64 ((0:Nat):Int)),(.int .i64 5)]) w) (
 cL 64 (pA #[x1,x2,x3]) w fun b w=>
 bC .neq 28 23 0 b w fun c w=>
 cndS c (
 K (.tuple #[(.int .u64 ((0:Nat):Int)),b]) w) (
 nS x0 w fun d w=>
 fA 112 d 0 w fun e w=>
 lD 106 e w fun f w=>
 invS prog f "Err" (pA #[]) w fun g w=>
 bC .neq 28 31 0 g w fun h w=>
 cndS h (
 K (.tuple #[(.int .u64 ((0:Nat):Int)),g]) w) (
 cL 65 (pA #[x2]) w fun i w=>
 eX i 0 w fun j w=>
 eX i 1 w fun l w=>
 bC .neq 28 39 0 l w fun m w=>
 cndS m (
 K (.tuple #[(.int .u64 ((0:Nat):Int)),l]) w) (
 cL 66 (pA #[x0,x1,j,x3]) w fun n w=>
 eX n 0 w fun o w=>
 eX n 1 w fun p w=>
 eX n 2 w fun q w=>
 bC .eql 28 51 5 q w fun s w=>
 cndS s (
 cL 67 (pA #[x0,x1,j]) w fun t w=>
 eX t 0 w fun v w=>
 eX t 1 w fun y w=>
 bC .eql 28 60 0 y w fun z w=>
 cndS z (
 cL 68 (pA #[x0,v,x3]) w fun a0 w=>
 eX a0 0 w fun a1 w=>
 eX a0 1 w fun a2 w=>
 f15_k1 K x0 j a2 a1 v w) (
 f15_k1 K x0 j y o v w)) (
 f15_k1 K x0 j q o p w)))))
theorem f15_call (x0 x1 x2 x3:Value) (K:K1) (w:World) (h:f15_t x0 x1 x2 x3 K w):callS prog 15 #[x0,x1,x2,x3] w K:=
 call_of_txt (args:= [x0,x1,x2,x3]) mixed Tryz.func15 f15_u.2 kR (cast kR h)
def f17_t (x0 x1 x2 x3:Value) (K:K1) (w:World):Prop:=
 bM .eql 40 (.tmp 15) (.const (.pointer none)) x0 (.pointer none) w fun a w=>
 cndS a (
 K (.int .i64 5) w) (
 nS x0 w fun b w=>
 fA 123 b 2 w fun c w=>
 lD 32 c w fun d w=>
 cL 71 (pA #[d,x1]) w fun e w=>
 eX e 0 w fun f w=>
 eX e 1 w fun g w=>
 bC .eql 28 26 1 g w fun h w=>
 cndS h (
 K g w) (
 nS x0 w fun i w=>
 fA 123 i 1 w fun j w=>
 lD 31 j w fun l w=>
 cL 28 (pA #[l]) w fun m w=>
 bC .neq 28 34 0 m w fun n w=>
 cndS n (
 K m w) (
 nS x0 w fun o w=>
 fA 123 o 0 w fun p w=>
 lD 33 p w fun q w=>
 nS q w fun s w=>
 fA 112 s 7 w fun t w=>
 lD 4 t w fun v w=>
 cndS v (
 K (.int .i64 7) w) (
 nS x0 w fun y w=>
 fA 123 y 0 w fun z w=>
 lD 33 z w fun a0 w=>
 cL 42 (pA #[a0,x2,x3]) w fun a1 w=>
 eX a1 0 w fun a2 w=>
 eX a1 1 w fun a3 w=>
 bC .neq 28 54 0 a3 w fun a4 w=>
 cndS a4 (
 K a3 w) (
 nR x0 w.drew fun a5=>
 fR 123 a5 2 w.drew fun a6=>
 lR 32 a6 w.drew fun a7=>
 cL 72 (pA #[x1]) w.drew fun a8 w=>
 (nilR prog x0 w (fun u=>u=a5))∧
 (fG 123 a5 2 w a6)∧
 (lG 32 a6 w a7)∧
 bltS prog .append #[79,79] 79 #[false,false] (pA #[a8,a2]) w fun a9 w=>
 (nilR prog x0 w (fun u=>u=a5))∧
 (fG 123 a5 2 w a6)∧
 (lG 32 a6 w a7)∧
 cL 43 (pA #[a7,a9]) w fun b0 w=>
 bC .neq 28 66 0 b0 w fun b1 w=>
 cndS b1 (
 K b0 w) (
 nS x0 w fun b2 w=>
 fA 123 b2 0 w fun b3 w=>
 lD 33 b3 w fun b4 w=>
 cL 44 (pA #[b4,x2,x3]) w fun b5 w=>
 K (.int .i64 0) w))))))
theorem f17_call (x0 x1 x2 x3:Value) (K:K1) (w:World) (h:f17_t x0 x1 x2 x3 K w):callS prog 17 #[x0,x1,x2,x3] w K:=
 call_of_txt (args:= [x0,x1,x2,x3]) mixed Tryz.func17 .o kR (cast kR h)
def f21_t (x0 x1 x2:Value) (K:K1) (w:World):Prop:=
 bM .eql 33 (.tmp 15) (.const (.pointer none)) x0 (.pointer none) w fun a w=>
 cndS a (
 K (.int .i64 5) w) (
 cL 73 (pA #[x1]) w fun b w=>
 cndS b (
 K (.int .i64 1) w) (
 nS x0 w fun c w=>
 fA 112 c 0 w fun d w=>
 lD 106 d w fun e w=>
 invS prog e "Err" (pA #[]) w fun f w=>
 bC .neq 28 24 0 f w fun g w=>
 cndS g (
 K f w) (
 cL 20 (pA #[x1]) w fun h w=>
 cL 74 (pA #[x0,h]) w fun i w=>
 eX i 0 w fun j w=>
 eX i 1 w fun l w=>
 ev prog (Op.unary .not l) w fun m w=>
 gV m false x1 w fun n w=>
 gd m false (fun k=>bU .shr 27 37 .u64 56 n w k) w fun o w=>
 gd m false (fun k=>bU .neq 27 38 .u64 0 o w k) w fun p w=>
 pickS m (.bool true) p w fun q w=>
 cndS q (
 K (.int .i64 2) w) (
 nS x0 w fun s w=>
 fA 112 s 0 w fun t w=>
 lD 106 t w fun v w=>
 cL 75 (pA #[v,j]) w fun y w=>
 eX y 0 w fun z w=>
 eX y 1 w fun a0 w=>
 ev prog (Instr.alloc 134 true (.tuple #[])) w fun a1 w=>
 sD 134 a1 z w fun w=>
 nS x0 w fun a2 w=>
 fA 112 a2 0 w fun a3 w=>
 lD 106 a3 w fun a4 w=>
 invS prog a4 "Err" (pA #[]) w fun a5 w=>
 bC .neq 28 55 0 a5 w fun a6 w=>
 cndS a6 (
 K a5 w) (
 bC .neq 28 58 0 a0 w fun a7 w=>
 cndS a7 (
 K (.int .i64 2) w) (
 lD 134 a1 w fun a8 w=>
 cL 76 (pA #[a8,x1]) w fun a9 w=>
 eX a9 0 w fun b0 w=>
 eX a9 1 w fun b1 w=>
 bC .neq 28 66 0 b1 w fun b2 w=>
 cndS b2 (
 K b1 w) (
 bU .neq 5 69 .u8 0 x2 w fun b3 w=>
 gV b3 true x2 w fun b4 w=>
 gV b3 true x1 w fun b5 w=>
 gC b3 true 60 (pA #[b5]) w fun b6 w=>
 gd b3 true (fun k=>bT .neq 5 72 74 b4 b6 w k) w fun b7 w=>
 pickS b3 b7 (.bool false) w fun b8 w=>
 cndS b8 (
 K (.int .i64 13) w) (
 K (.int .i64 0) w))))))))
theorem f21_call (x0 x1 x2:Value) (K:K1) (w:World) (h:f21_t x0 x1 x2 K w):callS prog 21 #[x0,x1,x2] w K:=
 call_of_txt (args:= [x0,x1,x2]) mixed Tryz.func21 .o kR (cast kR h)
noncomputable def f29_u:Code×Dec:=((Tryz.f29.body).getD .skip,(.s .o (.s .o (.s .o (.s .o (.x 3 .o .o))))))
abbrev f29_e (K:K1):KF:=endK prog Tryz.f29.results.toList K
def f29_k1_o (K:K1):KF:=fun fr w=>∀σ,cP (pr (pr (pr (pr (pr f29_u))))) (f29_e K) (f29_e K) nX (mixF 3 σ 0 fr) w
def f29_k1 (K:K1) (x0 x1:Value) (w:World):Prop:=f29_k1_o K (fz 51 0 [(0,x0),(1,x1)]) w
def f29_k1_t (x0 x1:Value) (K:K1) (w:World):Prop:=
 cL 84 (pA #[x0,x1]) w fun a w=>
 eX a 0 w fun b w=>
 eX a 1 w fun c w=>
 eX a 2 w fun d w=>
 nS x0 w fun e w=>
 fA 112 e 0 w fun f w=>
 lD 106 f w fun g w=>
 invS prog g "Err" (pA #[]) w fun h w=>
 bC .neq 28 46 0 h w fun i w=>
 cndS i (
 K (.tuple #[(.int .i64 0),h]) w) (
 cL 85 (pA #[d]) w fun j w=>
 K (.tuple #[j,(.int .i64 0)]) w)
theorem f29_k1_eq (K:K1) (x0 x1:Value) (w:World):f29_k1 K x0 x1 w=f29_k1_t x0 x1 K w:=cutE fun σ=>by kernel_rfl
def f29_t (x0 x1:Value) (K:K1) (w:World):Prop:=
 bM .eql 33 (.tmp 12) (.const (.pointer none)) x0 (.pointer none) w fun a w=>
 cndS a (
 K (.tuple #[(.int .i64 0),(.int .i64 5)]) w) (
 cL 73 (pA #[x1]) w fun b w=>
 cndS b (
 K (.tuple #[(.int .i64 0),(.int .i64 1)]) w) (
 nS x0 w fun c w=>
 fA 112 c 0 w fun d w=>
 lD 106 d w fun e w=>
 invS prog e "Err" (pA #[]) w fun f w=>
 bC .neq 28 21 0 f w fun g w=>
 cndS g (
 K (.tuple #[(.int .i64 0),f]) w) (
 cL 83 (pA #[x0,x1]) w fun h w=>
 ev prog (Op.unary .not h) w fun i w=>
 cndS i (
 cL 21 (pA #[x0,x1,(.int .u8 ((0:Nat):Int))]) w fun j w=>
 bC .neq 28 31 0 j w fun l w=>
 cndS l (
 K (.tuple #[(.int .i64 0),j]) w) (
 f29_k1 K x0 x1 w)) (
 f29_k1 K x0 x1 w))))
theorem f29_call (x0 x1:Value) (K:K1) (w:World) (h:f29_t x0 x1 K w):callS prog 29 #[x0,x1] w K:=
 call_of_txt (args:= [x0,x1]) mixed Tryz.func29 f29_u.2 kR (cast kR h)
noncomputable def f42_u:Code×Dec:=((Tryz.f42.body).getD .skip,(.s .o (.s .o (.s .o (.s .o (.x 7 (.s .o (.b (.l [52] 3377699720527879 2301339409586324672 .o))) (.x 7 (.s .o (.b (.l [63] 6917529027641081863 18880242559441726091456 .o))) (.s .o (.s .o (.x 49157 (.s .o (.b (.l [78] 226673591177742970306565 20769187433837079059218328027267072 .o))) (.x 16385 (.s .o (.b (.l [116] 62307562302417931542365955950690305 2787593066739578156134722727593104180772864 .o))) (.s .o (.x 268435457 (.s .o (.b (.l [28,145] 33451117797795934712303577408972542258987009 3138550867693295780427497650357550136614632425525379858624 .o))) .o)))))))))))))
abbrev f42_e (K:K1):KF:=endK prog Tryz.f42.results.toList K
def f42_k1_o (K:K1):KF:=fun fr w=>∀σ,cP (pr (pr (pr (pr (pr f42_u))))) (f42_e K) (f42_e K) nX (mixF 7 σ 0 fr) w
def f42_k1 (K:K1) (x0 x1 x2:Value) (w:World):Prop:=f42_k1_o K (fz 200 0 [(0,x0),(1,x1),(2,x2)]) w
def f42_l1 (K:K1) (x0 x1 x2 x50 x51 x52:Value) (w:World):Prop:=loopT [52] 3377699720527879 (fun E=>cP (pl (pl (pr (pl (pr (pr (pr (pr f42_u)))))))) E (f42_e K) (exB 0 (f42_k1_o K) nX)) (fz 200 0 [(0,x0),(1,x1),(2,x2),(50,x50),(51,x51),(52,x52)]) w
def f42_k2_o (K:K1):KF:=fun fr w=>∀σ,cP (pr (pr (pr (pr (pr (pr f42_u)))))) (f42_e K) (f42_e K) nX (mixF 7 σ 0 fr) w
def f42_k2 (K:K1) (x0 x1 x2:Value) (w:World):Prop:=f42_k2_o K (fz 200 0 [(0,x0),(1,x1),(2,x2)]) w
def f42_l2 (K:K1) (x0 x1 x2 x61 x62 x63:Value) (w:World):Prop:=loopT [63] 6917529027641081863 (fun E=>cP (pl (pl (pr (pl (pr (pr (pr (pr (pr f42_u))))))))) E (f42_e K) (exB 2 (f42_k2_o K) nX)) (fz 200 0 [(0,x0),(1,x1),(2,x2),(61,x61),(62,x62),(63,x63)]) w
def f42_k3_o (K:K1):KF:=fun fr w=>∀σ,cP (pr (pr (pr (pr (pr (pr (pr (pr (pr f42_u))))))))) (f42_e K) (f42_e K) nX (mixF 49157 σ 0 fr) w
def f42_k3 (K:K1) (x0 x2 x14 x15:Value) (w:World):Prop:=f42_k3_o K (fz 200 0 [(0,x0),(2,x2),(14,x14),(15,x15)]) w
def f42_l3 (K:K1) (x0 x2 x14 x15 x76 x77 x78:Value) (w:World):Prop:=loopT [78] 226673591177742970306565 (fun E=>cP (pl (pl (pr (pl (pr (pr (pr (pr (pr (pr (pr (pr f42_u)))))))))))) E (f42_e K) (exB 4 (f42_k3_o K) nX)) (fz 200 0 [(0,x0),(2,x2),(14,x14),(15,x15),(76,x76),(77,x77),(78,x78)]) w
def f42_k4_o (K:K1):KF:=fun fr w=>∀σ,cP (pr (pr (pr (pr (pr (pr (pr (pr (pr (pr f42_u)))))))))) (f42_e K) (f42_e K) nX (mixF 16385 σ 0 fr) w
def f42_k4 (K:K1) (x0 x14:Value) (w:World):Prop:=f42_k4_o K (fz 200 0 [(0,x0),(14,x14)]) w
def f42_l4 (K:K1) (x0 x14 x15 x114 x115 x116:Value) (w:World):Prop:=loopT [116] 62307562302417931542365955950690305 (fun E=>cP (pl (pl (pr (pl (pr (pr (pr (pr (pr (pr (pr (pr (pr f42_u))))))))))))) E (f42_e K) (exB 6 (f42_k4_o K) nX)) (fz 200 0 [(0,x0),(14,x14),(15,x15),(114,x114),(115,x115),(116,x116)]) w
def f42_k5_o (K:K1):KF:=fun fr w=>∀σ,cP (pr (pr (pr (pr (pr (pr (pr (pr (pr (pr (pr (pr f42_u)))))))))))) (f42_e K) (f42_e K) nX (mixF 268435457 σ 0 fr) w
def f42_k5 (K:K1) (x0 x28:Value) (w:World):Prop:=f42_k5_o K (fz 200 0 [(0,x0),(28,x28)]) w
def f42_l5 (K:K1) (x0 x14 x28 x143 x144 x145:Value) (w:World):Prop:=loopT [28,145] 33451117797795934712303577408972542258987009 (fun E=>cP (pl (pl (pr (pl (pr (pr (pr (pr (pr (pr (pr (pr (pr (pr (pr f42_u))))))))))))))) E (f42_e K) (exB 8 (f42_k5_o K) nX)) (fz 200 0 [(0,x0),(14,x14),(28,x28),(143,x143),(144,x144),(145,x145)]) w
def f42_k1_t (x0 x1 x2:Value) (K:K1) (w:World):Prop:=
 lN 25 x2 w fun a w=>
 f42_l2 K x0 x1 x2 x2 a (.int .i64 0) w
theorem f42_k1_eq (K:K1) (x0 x1 x2:Value) (w:World):f42_k1 K x0 x1 x2 w=f42_k1_t x0 x1 x2 K w:=cutE fun σ=>by kernel_rfl
def f42_l1_t (x0 x1 x2 x50 x51 x52:Value) (K:K1) (E1:VP1) (w:World):Prop:=
 bT .lss 3 52 51 x52 x51 w fun a w=>
 cndS a (
 iA 25 x50 x52 w fun b w=>
 lD 27 b w fun c w=>
 cL 83 (pA #[x0,c]) w fun d w=>
 ev prog (Op.unary .not d) w fun e w=>
 cndS e (
 K (.tuple #[(.slice none 0 0),(.int .i64 8)]) w) (
 bC .add 3 52 1 x52 w fun f w=>
 E1 f w)) (
 f42_k1 K x0 x1 x2 w)
theorem f42_l1_rule (x0 x1 x2 x50 x51 x52:Value) (K:K1) (w:World) (I:VP1) (μ:Value→World→Nat) (h0:I x52 w)
  (hr:∀(x52:Value) (w:World),I x52 w→∀E1:VP1,(∀(y52:Value) (w':World),I y52 w'→μ y52 w'<μ x52 w→E1 y52 w')→f42_l1_t x0 x1 x2 x50 x51 x52 K E1 w):f42_l1 K x0 x1 x2 x50 x51 x52 w:=
 ⟨I,μ,h0,fun σ w hI E hE=>cast kR (hr (σ 52) w hI E hE)⟩
def f42_k2_t (x0 x1 x2:Value) (K:K1) (w:World):Prop:=
 ev prog (Instr.makeMap 159 none) w fun a w=>
 ev prog (Instr.alloc 159 true (.tuple #[])) w fun b w=>
 sD 159 b a w fun w=>
 ev prog (Instr.makeFunc (.func 95) #[] #[b]) w fun c w=>
 lN 25 x1 w fun d w=>
 f42_l3 K x0 x2 b c x1 d (.int .i64 0) w
theorem f42_k2_eq (K:K1) (x0 x1 x2:Value) (w:World):f42_k2 K x0 x1 x2 w=f42_k2_t x0 x1 x2 K w:=cutE fun σ=>by kernel_rfl
def f42_l2_t (x0 x1 x2 x61 x62 x63:Value) (K:K1) (E1:VP1) (w:World):Prop:=
 bT .lss 3 63 62 x63 x62 w fun a w=>
 cndS a (
 iA 25 x61 x63 w fun b w=>
 lD 27 b w fun c w=>
 cL 21 (pA #[x0,c,(.int .u8 ((0:Nat):Int))]) w fun d w=>
 bC .neq 28 70 0 d w fun e w=>
 cndS e (
 K (.tuple #[(.slice none 0 0),d]) w) (
 bC .add 3 63 1 x63 w fun f w=>
 E1 f w)) (
 f42_k2 K x0 x1 x2 w)
theorem f42_l2_rule (x0 x1 x2 x61 x62 x63:Value) (K:K1) (w:World) (I:VP1) (μ:Value→World→Nat) (h0:I x63 w)
  (hr:∀(x63:Value) (w:World),I x63 w→∀E1:VP1,(∀(y63:Value) (w':World),I y63 w'→μ y63 w'<μ x63 w→E1 y63 w')→f42_l2_t x0 x1 x2 x61 x62 x63 K E1 w):f42_l2 K x0 x1 x2 x61 x62 x63 w:=
 ⟨I,μ,h0,fun σ w hI E hE=>cast kR (hr (σ 63) w hI E hE)⟩
def f42_k3_t (x0 x2 x14 x15:Value) (K:K1) (w:World):Prop:=
 lN 25 x2 w fun a w=>
 f42_l4 K x0 x14 x15 x2 a (.int .i64 0) w
theorem f42_k3_eq (K:K1) (x0 x2 x14 x15:Value) (w:World):f42_k3 K x0 x2 x14 x15 w=f42_k3_t x0 x2 x14 x15 K w:=cutE fun σ=>by kernel_rfl
def f42_l3_t (x0 x2 x14 x15 x76 x77 x78:Value) (K:K1) (E1:VP1) (w:World):Prop:=
 bT .lss 3 78 77 x78 x77 w fun a w=>
 cndS a (
 iA 25 x76 x78 w fun b w=>
 lD 27 b w fun c w=>
 cL 84 (pA #[x0,c]) w fun d w=>
 eX d 0 w fun e w=>
 eX d 1 w fun f w=>
 eX d 2 w fun g w=>
 dynS prog x15 (pA #[e]) w fun h w=>
 nR h w.drew fun i=>
 fR 162 i 0 w.drew fun j=>
 lR 50 j w.drew fun l=>
 nR h w.drew fun m=>
 fR 162 m 1 w.drew fun n=>
 lR 51 n w.drew fun o=>
 ev prog (Instr.buildSlice 50 1 #[(0,f)]) w.drew fun p w=>
 (nilR prog h w (fun u=>u=i))∧
 (fG 162 i 0 w j)∧
 (lG 50 j w l)∧
 (nilR prog h w (fun u=>u=m))∧
 (fG 162 m 1 w n)∧
 (lG 51 n w o)∧
 bltS prog .append #[50,50] 50 #[false,false] (pA #[l,p]) w fun q w=>
 (nilR prog h w (fun u=>u=m))∧
 (fG 162 m 1 w n)∧
 (lG 51 n w o)∧
 cL 60 (pA #[c]) w fun s w=>
 (nilR prog h w (fun u=>u=m))∧
 (fG 162 m 1 w n)∧
 (lG 51 n w o)∧
 ev prog (Instr.buildSlice 51 1 #[(0,s)]) w fun t w=>
 (nilR prog h w (fun u=>u=m))∧
 (fG 162 m 1 w n)∧
 (lG 51 n w o)∧
 bltS prog .append #[51,51] 51 #[false,false] (pA #[o,t]) w fun v w=>
 nR h w fun y=>
 fR 162 y 0 w fun z=>
 sD 50 z q w fun w=>
 nR h w fun a0=>
 fR 162 a0 1 w fun a1=>
 sD 51 a1 v w fun w=>
 bC .add 3 78 1 x78 w fun a2 w=>
 E1 a2 w) (
 f42_k3 K x0 x2 x14 x15 w)
theorem f42_l3_rule (x0 x2 x14 x15 x76 x77 x78:Value) (K:K1) (w:World) (I:VP1) (μ:Value→World→Nat) (h0:I x78 w)
  (hr:∀(x78:Value) (w:World),I x78 w→∀E1:VP1,(∀(y78:Value) (w':World),I y78 w'→μ y78 w'<μ x78 w→E1 y78 w')→f42_l3_t x0 x2 x14 x15 x76 x77 x78 K E1 w):f42_l3 K x0 x2 x14 x15 x76 x77 x78 w:=
 ⟨I,μ,h0,fun σ w hI E hE=>cast kR (hr (σ 78) w hI E hE)⟩
def f42_k4_t (x0 x14:Value) (K:K1) (w:World):Prop:=
 lD 159 x14 w fun a w=>
 cL 97 (pA #[a]) w fun b w=>
 cL 96 (pA #[b]) w fun c w=>
 lN 50 c w fun d w=>
 f42_l5 K x0 x14 (.slice none 0 0) c d (.int .i64 0) w
theorem f42_k4_eq (K:K1) (x0 x14:Value) (w:World):f42_k4 K x0 x14 w=f42_k4_t x0 x14 K w:=cutE fun σ=>by kernel_rfl
def f42_l4_t (x0 x14 x15 x114 x115 x116:Value) (K:K1) (E1:VP1) (w:World):Prop:=
 bT .lss 3 116 115 x116 x115 w fun a w=>
 cndS a (
 iA 25 x114 x116 w fun b w=>
 lD 27 b w fun c w=>
 cL 84 (pA #[x0,c]) w fun d w=>
 eX d 0 w fun e w=>
 eX d 1 w fun f w=>
 eX d 2 w fun g w=>
 dynS prog x15 (pA #[e]) w fun h w=>
 nS h w fun i w=>
 fA 162 i 2 w fun j w=>
 lD 50 j w fun l w=>
 ev prog (Instr.buildSlice 50 1 #[(0,f)]) w fun m w=>
 bltS prog .append #[50,50] 50 #[false,false] (pA #[l,m]) w fun n w=>
 nS h w fun o w=>
 fA 162 o 2 w fun p w=>
 sD 50 p n w fun w=>
 bC .add 3 116 1 x116 w fun q w=>
 E1 q w) (
 f42_k4 K x0 x14 w)
theorem f42_l4_rule (x0 x14 x15 x114 x115 x116:Value) (K:K1) (w:World) (I:VP1) (μ:Value→World→Nat) (h0:I x116 w)
  (hr:∀(x116:Value) (w:World),I x116 w→∀E1:VP1,(∀(y116:Value) (w':World),I y116 w'→μ y116 w'<μ x116 w→E1 y116 w')→f42_l4_t x0 x14 x15 x114 x115 x116 K E1 w):f42_l4 K x0 x14 x15 x114 x115 x116 w:=
 ⟨I,μ,h0,fun σ w hI E hE=>cast kR (hr (σ 116) w hI E hE)⟩
def f42_k5_t (x0 x28:Value) (K:K1) (w:World):Prop:=
 nS x0 w fun a w=>
 fA 112 a 0 w fun b w=>
 lD 106 b w fun c w=>
 invS prog c "Err" (pA #[]) w fun d w=>
 bC .neq 28 196 0 d w fun e w=>
 cndS e (
 K (.tuple #[(.slice none 0 0),d]) w) (
 K (.tuple #[x28,(.int .i64 0)]) w)
theorem f42_k5_eq (K:K1) (x0 x28:Value) (w:World):f42_k5 K x0 x28 w=f42_k5_t x0 x28 K w:=cutE fun σ=>by kernel_rfl
def f42_l5_t (x0 x14 x28 x143 x144 x145:Value) (K:K1) (E1:VP2) (w:World):Prop:=
 bT .lss 3 145 144 x145 x144 w fun a w=>
 cndS a (
 iA 50 x143 x145 w fun b w=>
 lD 3 b w fun c w=>
 nS x0 w fun d w=>
 fA 112 d 0 w fun e w=>
 lD 106 e w fun f w=>
 cL 75 (pA #[f,c]) w fun g w=>
 eX g 0 w fun h w=>
 eX g 1 w fun i w=>
 ev prog (Instr.alloc 134 true (.tuple #[])) w fun j w=>
 sD 134 j h w fun w=>
 bC .neq 28 158 0 i w fun l w=>
 cndS l (
 K (.tuple #[(.slice none 0 0),i]) w) (
 lR 134 j w.drew fun m=>
 lR 159 x14 w.drew fun n=>
 rd prog (Instr.lookup 159 n c false) w.drew fun o=>
 nR o w.drew fun p=>
 fR 162 p 0 w.drew fun q=>
 lR 50 q w.drew fun s=>
 lR 159 x14 w.drew fun t=>
 rd prog (Instr.lookup 159 t c false) w.drew fun v=>
 nR v w.drew fun y=>
 fR 162 y 1 w.drew fun z=>
 lR 51 z w.drew fun a0=>
 lR 159 x14 w.drew fun a1=>
 rd prog (Instr.lookup 159 a1 c false) w.drew fun a2=>
 nR a2 w.drew fun a3=>
 fR 162 a3 2 w.drew fun a4=>
 lR 50 a4 w.drew fun a5=>
 cL 98 (pA #[m,s,a0,a5]) w.drew fun a6 w=>
 xR a6 0 w fun a7=>
 xR a6 1 w fun a8=>
 bC .neq 28 184 0 a8 w fun a9 w=>
 cndS a9 (
 K (.tuple #[(.slice none 0 0),a8]) w) (
 bltS prog .append #[79,79] 79 #[false,false] (pA #[x28,a7]) w fun b0 w=>
 bC .add 3 145 1 x145 w fun b1 w=>
 E1 b0 b1 w))) (
 f42_k5 K x0 x28 w)
theorem f42_l5_rule (x0 x14 x28 x143 x144 x145:Value) (K:K1) (w:World) (I:VP2) (μ:Value→Value→World→Nat) (h0:I x28 x145 w)
  (hr:∀(x28 x145:Value) (w:World),I x28 x145 w→∀E1:VP2,(∀(y28 y145:Value) (w':World),I y28 y145 w'→μ y28 y145 w'<μ x28 x145 w→E1 y28 y145 w')→f42_l5_t x0 x14 x28 x143 x144 x145 K E1 w):f42_l5 K x0 x14 x28 x143 x144 x145 w:=
 ⟨I,μ,h0,fun σ w hI E hE=>cast kR (hr (σ 28) (σ 145) w hI E hE)⟩
def f42_t (x0 x1 x2:Value) (K:K1) (w:World):Prop:=
 bM .eql 33 (.tmp 35) (.const (.pointer none)) x0 (.pointer none) w fun a w=>
 cndS a (
 K (.tuple #[(.slice none 0 0),(.int .i64 5)]) w) (
 ev prog (Instr.buildSlice 213 2 #[(0,x1),(1,x2)]) w fun b w=>
 cL 94 (pA #[b]) w fun c w=>
 ev prog (Op.unary .not c) w fun d w=>
 cndS d (
 K (.tuple #[(.slice none 0 0),(.int .i64 1)]) w) (
 nS x0 w fun e w=>
 fA 112 e 0 w fun f w=>
 lD 106 f w fun g w=>
 invS prog g "Err" (pA #[]) w fun h w=>
 bC .neq 28 47 0 h w fun i w=>
 cndS i (
 K (.tuple #[(.slice none 0 0),h]) w) (
 lN 25 x1 w fun j w=>
 f42_l1 K x0 x1 x2 x1 j (.int .i64 0) w)))
theorem f42_call (x0 x1 x2:Value) (K:K1) (w:World) (h:f42_t x0 x1 x2 K w):callS prog 42 #[x0,x1,x2] w K:=
 call_of_txt (args:= [x0,x1,x2]) mixed Tryz.func42 f42_u.2 kR (cast kR h)
def f43_t (x0 x1:Value) (K:K1) (w:World):Prop:=
 cL 71 (pA #[x0,x1]) w fun a w=>
 eX a 0 w fun b w=>
 eX a 1 w fun c w=>
 bC .neq 28 13 0 c w fun d w=>
 cndS d (
 K c w) (
 nS x0 w fun e w=>
 fA 171 e 0 w fun f w=>
 lD 106 f w fun g w=>
 cL 99 (pA #[b,g]) w fun h w=>
 K h w)
theorem f43_call (x0 x1:Value) (K:K1) (w:World) (h:f43_t x0 x1 K w):callS prog 43 #[x0,x1] w K:=
 call_of_txt (args:= [x0,x1]) mixed Tryz.func43 .o kR (cast kR h)
noncomputable def f44_u:Code×Dec:=((Tryz.f44.body).getD .skip,(.s .o (.s .o (.b (.l [12] 3073 8384640 (.s .o (.s .o (.x 7169 .o .o))))))))
abbrev f44_e (K:K1):KF:=endK prog Tryz.f44.results.toList K
def f44_l1 (K:K1) (x0 x10 x11 x12:Value) (w:World):Prop:=loopT [12] 3073 (fun E=>cP (pl (pl (pr (pr f44_u)))) E (f44_e K) (exB 0 (f44_e K) nX)) (fz 23 0 [(0,x0),(10,x10),(11,x11),(12,x12)]) w
def f44_k1_o (K:K1) (E1:VP1):KF:=fun fr w=>∀σ,cP (pr (pr (pr (pl (pl (pr (pr f44_u))))))) (fun fr w=>E1 (sv fr 12) w) (f44_e K) (exB 0 (f44_e K) nX) (mixF 7169 σ 0 fr) w
def f44_k1 (K:K1) (E1:VP1) (x0 x10 x11 x12:Value) (w:World):Prop:=f44_k1_o K E1 (fz 23 0 [(0,x0),(10,x10),(11,x11),(12,x12)]) w
def f44_l1_t (x0 x10 x11 x12:Value) (K:K1) (E1:VP1) (w:World):Prop:=
 bT .lss 3 12 11 x12 x11 w fun a w=>
 cndS a (
 iA 25 x10 x12 w fun b w=>
 lD 27 b w fun c w=>
 cL 83 (pA #[x0,c]) w fun d w=>
 cndS d (
 cL 100 (pA #[x0,c]) w fun e w=>
 f44_k1 K E1 x0 x10 x11 x12 w) (
 f44_k1 K E1 x0 x10 x11 x12 w)) (
 K (.tuple #[]) w)
theorem f44_l1_rule (x0 x10 x11 x12:Value) (K:K1) (w:World) (I:VP1) (μ:Value→World→Nat) (h0:I x12 w)
  (hr:∀(x12:Value) (w:World),I x12 w→∀E1:VP1,(∀(y12:Value) (w':World),I y12 w'→μ y12 w'<μ x12 w→E1 y12 w')→f44_l1_t x0 x10 x11 x12 K E1 w):f44_l1 K x0 x10 x11 x12 w:=
 ⟨I,μ,h0,fun σ w hI E hE=>cast kR (hr (σ 12) w hI E hE)⟩
def f44_k1_t (x0 x10 x11 x12:Value) (K:K1) (E1:VP1) (w:World):Prop:=
 bC .add 3 12 1 x12 w fun a w=>
 E1 a w
theorem f44_k1_eq (K:K1) (E1:VP1) (x0 x10 x11 x12:Value) (w:World):f44_k1 K E1 x0 x10 x11 x12 w=f44_k1_t x0 x10 x11 x12 K E1 w:=cutE fun σ=>by kernel_rfl
def f44_t (x0 x1:Value) (K:K1) (w:World):Prop:=
 bM .eql 33 (.tmp 8) (.const (.pointer none)) x0 (.pointer none) w fun a w=>
 cndS a (
 K (.tuple #[]) w) (
 lN 25 x1 w fun b w=>
 f44_l1 K x0 x1 b (.int .i64 0) w)
theorem f44_call (x0 x1 x2:Value) (K:K1) (w:World) (h:f44_t x0 x1 K w):callS prog 44 #[x0,x1,x2] w K:=
 call_of_txt (args:= [x0,x1,x2]) mixed Tryz.func44 f44_u.2 kR (cast kR h)
def f55_t (x0 x1 x2:Value) (K:K1) (w:World):Prop:=
 bM .eql 33 (.tmp 7) (.const (.pointer none)) x0 (.pointer none) w fun a w=>
 gV a false x1 w fun b w=>
 gd a false (fun k=>bM .eql 31 (.tmp 10) (.const (.pointer none)) b (.pointer none) w k) w fun c w=>
 pickS a (.bool true) c w fun d w=>
 gV d false x2 w fun e w=>
 gd d false (fun k=>bM .eql 32 (.tmp 14) (.const (.pointer none)) e (.pointer none) w k) w fun f w=>
 pickS d (.bool true) f w fun g w=>
 cndS g (
 K (.pointer none) w) (
 ev prog (Instr.build 123 #[(0,x0),(1,x1),(2,x2)]) w fun h w=>
 ev prog (Instr.box 123 h) w fun i w=>
 K i w)
theorem f55_call (x0 x1 x2:Value) (K:K1) (w:World) (h:f55_t x0 x1 x2 K w):callS prog 55 #[x0,x1,x2] w K:=
 call_of_txt (args:= [x0,x1,x2]) mixed Tryz.func55 .o kR (cast kR h)
def f62_t (x0 x1 x2:Value) (K:K1) (w:World):Prop:=
 cL 112 (pA #[x0,x1,x2]) w fun a w=>
 eX a 0 w fun b w=>
 eX a 1 w fun c w=>
 bC .neq 28 17 0 c w fun d w=>
 cndS d (
 K c w) (
 invS prog x0 "Err" (pA #[]) w fun e w=>
 bC .neq 28 22 0 e w fun f w=>
 cndS f (
 K e w) (
 cL 113 (pA #[b,(.int .u64 ((0:Nat):Int))]) w fun g w=>
 cL 99 (pA #[g,x0]) w fun h w=>
 K h w))
theorem f62_call (x0 x1 x2:Value) (K:K1) (w:World) (h:f62_t x0 x1 x2 K w):callS prog 62 #[x0,x1,x2] w K:=
 call_of_txt (args:= [x0,x1,x2]) mixed Tryz.func62 .o kR (cast kR h)
def f63_t (x0 x1 x2:Value) (K:K1) (w:World):Prop:=
 cL 114 (pA #[x0,x1,x2]) w fun a w=>
 K a w
theorem f63_call (x0 x1 x2:Value) (K:K1) (w:World) (h:f63_t x0 x1 x2 K w):callS prog 63 #[x0,x1,x2] w K:=
 call_of_txt (args:= [x0,x1,x2]) mixed Tryz.func63 .o kR (cast kR h)
def f64_t (x0 x1 x2:Value) (K:K1) (w:World):Prop:=
 bC .lss 3 7 0 x0 w fun a w=>
 gV a false x0 w fun b w=>
 gd a false (fun k=>bC .geq 3 10 8 b w k) w fun c w=>
 pickS a (.bool true) c w fun d w=>
 gV d false x1 w fun e w=>
 gd d false (fun k=>bC .lss 3 14 1 e w k) w fun f w=>
 pickS d (.bool true) f w fun g w=>
 gV g false x2 w fun h w=>
 gd g false (fun k=>bU .eql 5 18 .u8 0 h w k) w fun i w=>
 pickS g (.bool true) i w fun j w=>
 gV j false x2 w fun l w=>
 gd j false (fun k=>bU .gtr 5 22 .u8 127 l w k) w fun m w=>
 pickS j (.bool true) m w fun n w=>
 cndS n (
 K (.int .i64 1) w) (
 bC .gtr 3 25 60 x1 w fun o w=>
 cndS o (
 K (.int .i64 9) w) (
 K (.int .i64 0) w))
theorem f64_call (x0 x1 x2:Value) (K:K1) (w:World) (h:f64_t x0 x1 x2 K w):callS prog 64 #[x0,x1,x2] w K:=
 call_of_txt (args:= [x0,x1,x2]) mixed Tryz.func64 .o kR (cast kR h)
noncomputable def f66_u:Code×Dec:=((Tryz.f66.body).getD .skip,(.s .o (.x 0 (.s .o (.b (.l [23] 6291465 70368735819520 (.s .o (.s .o (.x 14680073 .o .o)))))) .o)))
abbrev f66_e (K:K1):KF:=endK prog Tryz.f66.results.toList K
def f66_k1_o (K:K1):KF:=fun fr w=>∀σ,cP (pr (pr f66_u)) (f66_e K) (f66_e K) nX (mixF 0 σ 0 fr) w
def f66_k1 (K:K1) (w:World):Prop:=f66_k1_o K (fz 46 0 []) w
def f66_l1 (K:K1) (x0 x3 x21 x22 x23:Value) (w:World):Prop:=loopT [23] 6291465 (fun E=>cP (pl (pl (pr (pl (pr f66_u))))) E (f66_e K) (exB 0 (f66_k1_o K) nX)) (fz 46 0 [(0,x0),(3,x3),(21,x21),(22,x22),(23,x23)]) w
def f66_k2_o (K:K1) (E1:VP1):KF:=fun fr w=>∀σ,cP (pr (pr (pr (pl (pl (pr (pl (pr f66_u)))))))) (fun fr w=>E1 (sv fr 23) w) (f66_e K) (exB 0 (f66_k1_o K) nX) (mixF 14680073 σ 0 fr) w
def f66_k2 (K:K1) (E1:VP1) (x0 x3 x21 x22 x23:Value) (w:World):Prop:=f66_k2_o K E1 (fz 46 0 [(0,x0),(3,x3),(21,x21),(22,x22),(23,x23)]) w
def f66_k1_t (K:K1) (w:World):Prop:=
 K (.tuple #[(.int .u64 ((0:Nat):Int)),(.int .i64 0),(.int .i64 5)]) w
theorem f66_k1_eq (K:K1) (w:World):f66_k1 K w=f66_k1_t K w:=cutE fun σ=>by kernel_rfl
def f66_l1_t (x0 x3 x21 x22 x23:Value) (K:K1) (E1:VP1) (w:World):Prop:=
 bT .lss 3 23 22 x23 x22 w fun a w=>
 cndS a (
 iA 50 x21 x23 w fun b w=>
 lD 3 b w fun c w=>
 nS x0 w fun d w=>
 fA 112 d 6 w fun e w=>
 lD 110 e w fun f w=>
 ev prog (Instr.lookup 110 f c false) w fun g w=>
 cndS g (
 f66_k2 K E1 x0 x3 x21 x22 x23 w) (
 cL 68 (pA #[x0,c,x3]) w fun h w=>
 eX h 0 w fun i w=>
 eX h 1 w fun j w=>
 bC .neq 28 40 5 j w fun l w=>
 cndS l (
 K (.tuple #[i,c,j]) w) (
 f66_k2 K E1 x0 x3 x21 x22 x23 w))) (
 f66_k1 K w)
theorem f66_l1_rule (x0 x3 x21 x22 x23:Value) (K:K1) (w:World) (I:VP1) (μ:Value→World→Nat) (h0:I x23 w)
  (hr:∀(x23:Value) (w:World),I x23 w→∀E1:VP1,(∀(y23:Value) (w':World),I y23 w'→μ y23 w'<μ x23 w→E1 y23 w')→f66_l1_t x0 x3 x21 x22 x23 K E1 w):f66_l1 K x0 x3 x21 x22 x23 w:=
 ⟨I,μ,h0,fun σ w hI E hE=>cast kR (hr (σ 23) w hI E hE)⟩
def f66_k2_t (x0 x3 x21 x22 x23:Value) (K:K1) (E1:VP1) (w:World):Prop:=
 bC .add 3 23 1 x23 w fun a w=>
 E1 a w
theorem f66_k2_eq (K:K1) (E1:VP1) (x0 x3 x21 x22 x23:Value) (w:World):f66_k2 K E1 x0 x3 x21 x22 x23 w=f66_k2_t x0 x3 x21 x22 x23 K E1 w:=cutE fun σ=>by kernel_rfl
def f66_t (x0 x1 x2 x3:Value) (K:K1) (w:World):Prop:=
 nS x0 w fun a w=>
 fA 112 a 3 w fun b w=>
 lD 107 b w fun c w=>
 cL 115 (pA #[c,x1,x2]) w fun d w=>
 lN 50 d w fun e w=>
 f66_l1 K x0 x3 d e (.int .i64 0) w
theorem f66_call (x0 x1 x2 x3:Value) (K:K1) (w:World) (h:f66_t x0 x1 x2 x3 K w):callS prog 66 #[x0,x1,x2,x3] w K:=
 call_of_txt (args:= [x0,x1,x2,x3]) mixed Tryz.func66 f66_u.2 kR (cast kR h)
noncomputable def f67_u:Code×Dec:=((Tryz.f67.body).getD .skip,(.s .o (.s .o (.s .o (.s .o (.s .o (.s .o (.s .o (.s .o (.s .o (.s .o (.x 33025 (.s .o (.b (.l [] 19807040628566084398386020609 5030988319655785437190040911872 .o))) .o))))))))))))
abbrev f67_e (K:K1):KF:=endK prog Tryz.f67.results.toList K
def f67_k1_o (K:K1):KF:=fun fr w=>∀σ,cP (pr (pr (pr (pr (pr (pr (pr (pr (pr (pr (pr f67_u))))))))))) (f67_e K) (f67_e K) nX (mixF 33025 σ 0 fr) w
def f67_l1 (K:K1) (x0 x8 x15 x94:Value) (w:World):Prop:=loopT [] 19807040628566084398386020609 (fun E=>cP (pl (pl (pr (pl (pr (pr (pr (pr (pr (pr (pr (pr (pr (pr f67_u)))))))))))))) E (f67_e K) (exB 0 (f67_k1_o K) nX)) (fz 107 0 [(0,x0),(8,x8),(15,x15),(94,x94)]) w
def f67_t (x0 x1 x2:Value) (K:K1) (w:World):Prop:=
 nS x0 w fun a w=>
 fA 112 a 6 w fun b w=>
 lD 110 b w fun c w=>
 lN 110 c w fun d w=>
 bC .eql 3 21 0 d w fun e w=>
 cndS e (
 nS x0 w fun f w=>
 fA 112 f 3 w fun g w=>
 lD 107 g w fun h w=>
 cL 116 (pA #[h,x1,x2]) w fun i w=>
 eX i 0 w fun j w=>
 eX i 1 w fun l w=>
 K (.tuple #[j,l]) w) (
 cL 117 (pA #[x0]) w fun m w=>
 eX m 0 w fun n w=>
 eX m 1 w fun o w=>
 eX m 2 w fun p w=>
 nS x0 w fun q w=>
 fA 112 q 0 w fun s w=>
 lD 106 s w fun t w=>
 invS prog t "Err" (pA #[]) w fun v w=>
 bC .neq 28 43 0 v w fun y w=>
 cndS y (
 K (.tuple #[(.int .i64 0),v]) w) (
 bU .eql 130 46 .u16 0 o w fun z w=>
 cndS z (
 K (.tuple #[(.int .i64 0),(.int .i64 4)]) w) (
 ev prog (Instr.build 132 #[(0,x2),(1,x1),(2,o)]) w fun a0 w=>
 cL 118 (pA #[n,a0]) w fun a1 w=>
 eX a1 0 w fun a2 w=>
 eX a1 1 w fun a3 w=>
 bC .neq 28 57 0 a3 w fun a4 w=>
 cndS a4 (
 K (.tuple #[(.int .i64 0),a3]) w) (
 nR x0 w.drew fun a5=>
 fR 112 a5 0 w.drew fun a6=>
 lR 106 a6 w.drew fun a7=>
 cL 119 (pA #[p,a2]) w.drew fun a8 w=>
 (nilR prog x0 w (fun u=>u=a5))∧
 (fG 112 a5 0 w a6)∧
 (lG 106 a6 w a7)∧
 cL 99 (pA #[a8,a7]) w fun a9 w=>
 bC .neq 28 68 0 a9 w fun b0 w=>
 cndS b0 (
 K (.tuple #[(.int .i64 0),a9]) w) (
 nR x0 w.drew fun b1=>
 fR 112 b1 0 w.drew fun b2=>
 lR 106 b2 w.drew fun b3=>
 nR x0 w.drew fun b4=>
 fR 112 b4 1 w.drew fun b5=>
 lR 3 b5 w.drew fun b6=>
 nR x0 w.drew fun b7=>
 fR 112 b7 2 w.drew fun b8=>
 lR 3 b8 w.drew fun b9=>
 cL 120 (pA #[b3,b6,b9]) w.drew fun c0 w=>
 xR c0 0 w fun c1=>
 xR c0 1 w fun c2=>
 bC .neq 28 87 0 c2 w fun c3 w=>
 cndS c3 (
 K (.tuple #[(.int .i64 0),c2]) w) (
 nS x0 w fun c4 w=>
 fA 112 c4 5 w fun c5 w=>
 lD 109 c5 w fun c6 w=>
 ev prog (Instr.range 109 c6) w fun c7 w=>
 f67_l1 K x0 n c1 c7 w))))))
theorem f67_call (x0 x1 x2:Value) (K:K1) (w:World) (h:f67_t x0 x1 x2 K w):callS prog 67 #[x0,x1,x2] w K:=
 call_of_txt (args:= [x0,x1,x2]) mixed Tryz.func67 f67_u.2 kR (cast kR h)
noncomputable def f68_u:Code×Dec:=((Tryz.f68.body).getD .skip,(.s .o (.s .o (.s .o (.x 1 (.s .o (.b (.l [10] 261 147573952587528993984 (.s .o (.x 1285 .o .o))))) .o)))))
abbrev f68_e (K:K1):KF:=endK prog Tryz.f68.results.toList K
def f68_k1_o (K:K1):KF:=fun fr w=>∀σ,cP (pr (pr (pr (pr f68_u)))) (f68_e K) (f68_e K) nX (mixF 1 σ 0 fr) w
def f68_k1 (K:K1) (x0:Value) (w:World):Prop:=f68_k1_o K (fz 75 0 [(0,x0)]) w
def f68_l1 (K:K1) (x0 x2 x8 x10:Value) (w:World):Prop:=loopT [10] 261 (fun E=>cP (pl (pl (pr (pl (pr (pr (pr f68_u))))))) E (f68_e K) (exB 0 (f68_k1_o K) nX)) (fz 75 0 [(0,x0),(2,x2),(8,x8),(10,x10)]) w
def f68_k2_o (K:K1) (E1:VP1):KF:=fun fr w=>∀σ,cP (pr (pr (pl (pl (pr (pl (pr (pr (pr f68_u))))))))) (fun fr w=>E1 (sv fr 10) w) (f68_e K) (exB 0 (f68_k1_o K) nX) (mixF 1285 σ 0 fr) w
def f68_k2 (K:K1) (E1:VP1) (x0 x2 x8 x10:Value) (w:World):Prop:=f68_k2_o K E1 (fz 75 0 [(0,x0),(2,x2),(8,x8),(10,x10)]) w
def f68_k1_t (x0:Value) (K:K1) (w:World):Prop:=
 nS x0 w fun a w=>
 fA 112 a 0 w fun b w=>
 lD 106 b w fun c w=>
 invS prog c "Err" (pA #[]) w fun d w=>
 bC .neq 28 72 0 d w fun e w=>
 cndS e (
 K (.tuple #[(.int .u64 ((0:Nat):Int)),d]) w) (
 K (.tuple #[(.int .u64 ((0:Nat):Int)),(.int .i64 5)]) w)
theorem f68_k1_eq (K:K1) (x0:Value) (w:World):f68_k1 K x0 w=f68_k1_t x0 K w:=cutE fun σ=>by kernel_rfl
def f68_l1_t (x0 x2 x8 x10:Value) (K:K1) (E1:VP1) (w:World):Prop:=
 bC .geq 3 31 0 x10 w fun a w=>
 cndS a (
 lD 134 x8 w fun b w=>
 cL 122 (pA #[b,x10,x2]) w fun c w=>
 eX c 0 w fun d w=>
 eX c 1 w fun e w=>
 nS x0 w fun f w=>
 fA 112 f 0 w fun g w=>
 lD 106 g w fun h w=>
 invS prog h "Err" (pA #[]) w fun i w=>
 bC .neq 28 49 0 i w fun j w=>
 cndS j (
 K (.tuple #[(.int .u64 ((0:Nat):Int)),i]) w) (
 bC .neq 28 52 0 e w fun l w=>
 cndS l (
 f68_k2 K E1 x0 x2 x8 x10 w) (
 nR x0 w.drew fun m=>
 fR 112 m 4 w.drew fun n=>
 lR 108 n w.drew fun o=>
 cL 20 (pA #[d]) w.drew fun p w=>
 (nilR prog x0 w (fun u=>u=m))∧
 (fG 112 m 4 w n)∧
 (lG 108 n w o)∧
 rd prog (Instr.lookup 108 o p true) w fun q=>
 xR q 0 w fun s=>
 xR q 1 w fun t=>
 ev prog (Op.unary .not t) w fun v w=>
 cndS v (
 K (.tuple #[d,(.int .i64 0)]) w) (
 f68_k2 K E1 x0 x2 x8 x10 w)))) (
 f68_k1 K x0 w)
theorem f68_l1_rule (x0 x2 x8 x10:Value) (K:K1) (w:World) (I:VP1) (μ:Value→World→Nat) (h0:I x10 w)
  (hr:∀(x10:Value) (w:World),I x10 w→∀E1:VP1,(∀(y10:Value) (w':World),I y10 w'→μ y10 w'<μ x10 w→E1 y10 w')→f68_l1_t x0 x2 x8 x10 K E1 w):f68_l1 K x0 x2 x8 x10 w:=
 ⟨I,μ,h0,fun σ w hI E hE=>cast kR (hr (σ 10) w hI E hE)⟩
def f68_k2_t (x0 x2 x8 x10:Value) (K:K1) (E1:VP1) (w:World):Prop:=
 lD 134 x8 w fun a w=>
 bC .add 3 34 1 x10 w fun b w=>
 cL 121 (pA #[a,b]) w fun c w=>
 E1 c w
theorem f68_k2_eq (K:K1) (E1:VP1) (x0 x2 x8 x10:Value) (w:World):f68_k2 K E1 x0 x2 x8 x10 w=f68_k2_t x0 x2 x8 x10 K E1 w:=cutE fun σ=>by kernel_rfl
def f68_t (x0 x1 x2:Value) (K:K1) (w:World):Prop:=
 nS x0 w fun a w=>
 fA 112 a 0 w fun b w=>
 lD 106 b w fun c w=>
 cL 75 (pA #[c,x1]) w fun d w=>
 eX d 0 w fun e w=>
 eX d 1 w fun f w=>
 ev prog (Instr.alloc 134 true (.tuple #[])) w fun g w=>
 sD 134 g e w fun w=>
 bC .neq 28 26 0 f w fun h w=>
 cndS h (
 K (.tuple #[(.int .u64 ((0:Nat):Int)),f]) w) (
 lD 134 g w fun i w=>
 cL 121 (pA #[i,(.int .i64 0)]) w fun j w=>
 f68_l1 K x0 x2 g j w)
theorem f68_call (x0 x1 x2:Value) (K:K1) (w:World) (h:f68_t x0 x1 x2 K w):callS prog 68 #[x0,x1,x2] w K:=
 call_of_txt (args:= [x0,x1,x2]) mixed Tryz.func68 f68_u.2 kR (cast kR h)
noncomputable def f69_u:Code×Dec:=((Tryz.f69.body).getD .skip,(.s .o (.s .o (.x 129 (.s .o (.b (.l [7,11] 1027 4192640 .o))) .o))))
abbrev f69_e (K:K1):KF:=endK prog Tryz.f69.results.toList K
def f69_k1_o (K:K1):KF:=fun fr w=>∀σ,cP (pr (pr (pr f69_u))) (f69_e K) (f69_e K) nX (mixF 129 σ 0 fr) w
def f69_k1 (K:K1) (x0 x7:Value) (w:World):Prop:=f69_k1_o K (fz 29 0 [(0,x0),(7,x7)]) w
def f69_l1 (K:K1) (x0 x1 x7 x10 x11:Value) (w:World):Prop:=loopT [7,11] 1027 (fun E=>cP (pl (pl (pr (pl (pr (pr f69_u)))))) E (f69_e K) (exB 0 (f69_k1_o K) nX)) (fz 29 0 [(0,x0),(1,x1),(7,x7),(10,x10),(11,x11)]) w
def f69_k1_t (x0 x7:Value) (K:K1) (w:World):Prop:=
 nR x0 w.drew fun a=>
 fR 112 a 0 w.drew fun b=>
 lR 106 b w.drew fun c=>
 cL 123 (pA #[x7]) w.drew fun d w=>
 (nilR prog x0 w (fun u=>u=a))∧
 (fG 112 a 0 w b)∧
 (lG 106 b w c)∧
 cL 99 (pA #[d,c]) w fun e w=>
 K e w
theorem f69_k1_eq (K:K1) (x0 x7:Value) (w:World):f69_k1 K x0 x7 w=f69_k1_t x0 x7 K w:=cutE fun σ=>by kernel_rfl
def f69_l1_t (x0 x1 x7 x10 x11:Value) (K:K1) (E1:VP2) (w:World):Prop:=
 bT .lss 3 11 10 x11 x10 w fun a w=>
 cndS a (
 cL 31 (pA #[x1,x11]) w fun b w=>
 ev prog (Instr.build 98 #[(0,b)]) w fun c w=>
 ev prog (Instr.buildSlice 79 1 #[(0,c)]) w fun d w=>
 bltS prog .append #[79,79] 79 #[false,false] (pA #[x7,d]) w fun e w=>
 bC .add 3 11 1 x11 w fun f w=>
 E1 e f w) (
 f69_k1 K x0 x7 w)
theorem f69_l1_rule (x0 x1 x7 x10 x11:Value) (K:K1) (w:World) (I:VP2) (μ:Value→Value→World→Nat) (h0:I x7 x11 w)
  (hr:∀(x7 x11:Value) (w:World),I x7 x11 w→∀E1:VP2,(∀(y7 y11:Value) (w':World),I y7 y11 w'→μ y7 y11 w'<μ x7 x11 w→E1 y7 y11 w')→f69_l1_t x0 x1 x7 x10 x11 K E1 w):f69_l1 K x0 x1 x7 x10 x11 w:=
 ⟨I,μ,h0,fun σ w hI E hE=>cast kR (hr (σ 7) (σ 11) w hI E hE)⟩
def f69_t (x0 x1 x2:Value) (K:K1) (w:World):Prop:=
 cL 85 (pA #[x2]) w fun a w=>
 f69_l1 K x0 x1 (.slice none 0 0) a (.int .i64 0) w
theorem f69_call (x0 x1 x2:Value) (K:K1) (w:World) (h:f69_t x0 x1 x2 K w):callS prog 69 #[x0,x1,x2] w K:=
 call_of_txt (args:= [x0,x1,x2]) mixed Tryz.func69 f69_u.2 kR (cast kR h)
noncomputable def f71_u:Code×Dec:=((Tryz.f71.body).getD .skip,(.s .o (.s .o (.x 3 (.s .o (.b (.l [29] 402653187 549218943152 .o))) (.s .o (.s .o (.s .o (.s .o (.s .o (.s .o (.s .o (.s .o (.s .o (.x 12545 (.s .o (.b (.l [12,13,78] 226673591177742970257665 41538374867976389573340313340211200 .o))) .o))))))))))))))
abbrev f71_e (K:K1):KF:=endK prog Tryz.f71.results.toList K
def f71_k1_o (K:K1):KF:=fun fr w=>∀σ,cP (pr (pr (pr f71_u))) (f71_e K) (f71_e K) nX (mixF 3 σ 0 fr) w
def f71_k1 (K:K1) (x0 x1:Value) (w:World):Prop:=f71_k1_o K (fz 133 0 [(0,x0),(1,x1)]) w
def f71_l1 (K:K1) (x0 x1 x27 x28 x29:Value) (w:World):Prop:=loopT [29] 402653187 (fun E=>cP (pl (pl (pr (pl (pr (pr f71_u)))))) E (f71_e K) (exB 0 (f71_k1_o K) nX)) (fz 133 0 [(0,x0),(1,x1),(27,x27),(28,x28),(29,x29)]) w
def f71_k2_o (K:K1):KF:=fun fr w=>∀σ,cP (pr (pr (pr (pr (pr (pr (pr (pr (pr (pr (pr (pr (pr f71_u))))))))))))) (f71_e K) (f71_e K) nX (mixF 12545 σ 0 fr) w
def f71_k2 (K:K1) (x0 x8 x12 x13:Value) (w:World):Prop:=f71_k2_o K (fz 133 0 [(0,x0),(8,x8),(12,x12),(13,x13)]) w
def f71_l2 (K:K1) (x0 x8 x12 x13 x76 x77 x78:Value) (w:World):Prop:=loopT [12,13,78] 226673591177742970257665 (fun E=>cP (pl (pl (pr (pl (pr (pr (pr (pr (pr (pr (pr (pr (pr (pr (pr (pr f71_u)))))))))))))))) E (f71_e K) (exB 2 (f71_k2_o K) nX)) (fz 133 0 [(0,x0),(8,x8),(12,x12),(13,x13),(76,x76),(77,x77),(78,x78)]) w
def f71_k1_t (x0 x1:Value) (K:K1) (w:World):Prop:=
 cL 126 (pA #[x1]) w fun a w=>
 lN 79 a w fun b w=>
 bC .gtr 3 42 96 b w fun c w=>
 cndS c (
 K (.tuple #[(.slice none 0 0),(.int .i64 9)]) w) (
 nS x0 w fun d w=>
 fA 171 d 0 w fun e w=>
 lD 106 e w fun f w=>
 invS prog f "Err" (pA #[]) w fun g w=>
 bC .neq 28 49 0 g w fun h w=>
 cndS h (
 K (.tuple #[(.slice none 0 0),g]) w) (
 nR x0 w.drew fun i=>
 fR 171 i 0 w.drew fun j=>
 lR 106 j w.drew fun l=>
 nR x0 w.drew fun m=>
 fR 171 m 1 w.drew fun n=>
 lR 26 n w.drew fun o=>
 nR l w.drew fun p=>
 invS prog l "Load" (pA #[o]) w.drew fun q w=>
 nS x0 w fun s w=>
 fA 171 s 0 w fun t w=>
 lD 106 t w fun v w=>
 invS prog v "Err" (pA #[]) w fun y w=>
 bC .neq 28 68 0 y w fun z w=>
 cndS z (
 K (.tuple #[(.slice none 0 0),y]) w) (
 bU .neq 26 71 .u64 0 q w fun a0 w=>
 cndS a0 (
 K (.tuple #[(.slice none 0 0),(.int .i64 8)]) w) (
 lN 79 a w fun a1 w=>
 bC .eql 3 74 0 a1 w fun a2 w=>
 cndS a2 (
 K (.tuple #[(.slice none 0 0),(.int .i64 0)]) w) (
 lN 79 a w fun a3 w=>
 f71_l2 K x0 a (.slice none 0 0) (.slice none 0 0) a a3 (.int .i64 0) w)))))
theorem f71_k1_eq (K:K1) (x0 x1:Value) (w:World):f71_k1 K x0 x1 w=f71_k1_t x0 x1 K w:=cutE fun σ=>by kernel_rfl
def f71_l1_t (x0 x1 x27 x28 x29:Value) (K:K1) (E1:VP1) (w:World):Prop:=
 bT .lss 3 29 28 x29 x28 w fun a w=>
 cndS a (
 iA 79 x27 x29 w fun b w=>
 lD 98 b w fun c w=>
 ev prog (Instr.alloc 98 true (.tuple #[])) w fun d w=>
 sD 98 d c w fun w=>
 fA 98 d 0 w fun e w=>
 lD 26 e w fun f w=>
 cL 125 (pA #[x0,f]) w fun g w=>
 ev prog (Op.unary .not g) w fun h w=>
 cndS h (
 K (.tuple #[(.slice none 0 0),(.int .i64 1)]) w) (
 bC .add 3 29 1 x29 w fun i w=>
 E1 i w)) (
 f71_k1 K x0 x1 w)
theorem f71_l1_rule (x0 x1 x27 x28 x29:Value) (K:K1) (w:World) (I:VP1) (μ:Value→World→Nat) (h0:I x29 w)
  (hr:∀(x29:Value) (w:World),I x29 w→∀E1:VP1,(∀(y29:Value) (w':World),I y29 w'→μ y29 w'<μ x29 w→E1 y29 w')→f71_l1_t x0 x1 x27 x28 x29 K E1 w):f71_l1 K x0 x1 x27 x28 x29 w:=
 ⟨I,μ,h0,fun σ w hI E hE=>cast kR (hr (σ 29) w hI E hE)⟩
def f71_k2_t (x0 x8 x12 x13:Value) (K:K1) (w:World):Prop:=
 lN 79 x8 w fun a w=>
 cV 3 26 a w fun b w=>
 cL 127 (pA #[x13]) w fun c w=>
 cV 126 26 c w fun d w=>
 bU .shl 26 120 .u64 32 d w fun e w=>
 bT .or 26 117 121 b e w fun f w=>
 cL 123 (pA #[x12]) w fun g w=>
 cL 113 (pA #[x0,f]) w fun h w=>
 cL 119 (pA #[g,h]) w fun i w=>
 cL 128 (pA #[x0,x8]) w fun j w=>
 cL 119 (pA #[i,j]) w fun l w=>
 K (.tuple #[l,(.int .i64 0)]) w
theorem f71_k2_eq (K:K1) (x0 x8 x12 x13:Value) (w:World):f71_k2 K x0 x8 x12 x13 w=f71_k2_t x0 x8 x12 x13 K w:=cutE fun σ=>by kernel_rfl
def f71_l2_t (x0 x8 x12 x13 x76 x77 x78:Value) (K:K1) (E1:VP3) (w:World):Prop:=
 bT .lss 3 78 77 x78 x77 w fun a w=>
 cndS a (
 iA 79 x76 x78 w fun b w=>
 lD 98 b w fun c w=>
 ev prog (Instr.alloc 98 true (.tuple #[])) w fun d w=>
 sD 98 d c w fun w=>
 nS x0 w fun e w=>
 fA 171 e 1 w fun f w=>
 lD 26 f w fun g w=>
 bU .add 26 86 .u64 64 g w fun h w=>
 cV 3 26 x78 w fun i w=>
 bU .mul 26 89 .u64 16 i w fun j w=>
 bT .add 26 87 90 h j w fun l w=>
 fA 98 d 0 w fun m w=>
 lD 26 m w fun n w=>
 ev prog (Instr.build 98 #[(0,l),(1,n)]) w fun o w=>
 ev prog (Instr.buildSlice 79 1 #[(0,o)]) w fun p w=>
 bltS prog .append #[79,79] 79 #[false,false] (pA #[x12,p]) w fun q w=>
 bU .add 26 100 .u64 8 l w fun s w=>
 fA 98 d 1 w fun t w=>
 lD 26 t w fun v w=>
 ev prog (Instr.build 98 #[(0,s),(1,v)]) w fun y w=>
 ev prog (Instr.buildSlice 79 1 #[(0,y)]) w fun z w=>
 bltS prog .append #[79,79] 79 #[false,false] (pA #[q,z]) w fun a0 w=>
 fA 98 d 0 w fun a1 w=>
 lD 26 a1 w fun a2 w=>
 fA 98 d 1 w fun a3 w=>
 lD 26 a3 w fun a4 w=>
 ev prog (Instr.buildSlice 58 2 #[(0,a2),(1,a4)]) w fun a5 w=>
 bltS prog .append #[58,58] 58 #[false,false] (pA #[x13,a5]) w fun a6 w=>
 bC .add 3 78 1 x78 w fun a7 w=>
 E1 a0 a6 a7 w) (
 f71_k2 K x0 x8 x12 x13 w)
theorem f71_l2_rule (x0 x8 x12 x13 x76 x77 x78:Value) (K:K1) (w:World) (I:VP3) (μ:Value→Value→Value→World→Nat) (h0:I x12 x13 x78 w)
  (hr:∀(x12 x13 x78:Value) (w:World),I x12 x13 x78 w→∀E1:VP3,(∀(y12 y13 y78:Value) (w':World),I y12 y13 y78 w'→μ y12 y13 y78 w'<μ x12 x13 x78 w→E1 y12 y13 y78 w')→f71_l2_t x0 x8 x12 x13 x76 x77 x78 K E1 w):f71_l2 K x0 x8 x12 x13 x76 x77 x78 w:=
 ⟨I,μ,h0,fun σ w hI E hE=>cast kR (hr (σ 12) (σ 13) (σ 78) w hI E hE)⟩
def f71_t (x0 x1:Value) (K:K1) (w:World):Prop:=
 bM .eql 32 (.tmp 18) (.const (.pointer none)) x0 (.pointer none) w fun a w=>
 gV a false x0 w fun b w=>
 gd a false (fun k=>nS b w k) w fun c w=>
 gd a false (fun k=>fA 171 c 0 w k) w fun d w=>
 gd a false (fun k=>lD 106 d w k) w fun e w=>
 gd a false (fun k=>bM .eql 106 (.tmp 24) (.const .nilIface) e .nilIface w k) w fun f w=>
 pickS a (.bool true) f w fun g w=>
 cndS g (
 K (.tuple #[(.slice none 0 0),(.int .i64 1)]) w) (
 lN 79 x1 w fun h w=>
 f71_l1 K x0 x1 x1 h (.int .i64 0) w)
theorem f71_call (x0 x1:Value) (K:K1) (w:World) (h:f71_t x0 x1 K w):callS prog 71 #[x0,x1] w K:=
 call_of_txt (args:= [x0,x1]) mixed Tryz.func71 f71_u.2 kR (cast kR h)
def f72_t (x0:Value) (K:K1) (w:World):Prop:=
 bM .eql 79 (.tmp 3) (.const (.slice none 0 0)) x0 (.slice none 0 0) w fun a w=>
 cndS a (
 K (.slice none 0 0) w) (
 ev prog (Instr.buildSlice 79 0 #[]) w fun b w=>
 bltS prog .append #[79,79] 79 #[false,false] (pA #[b,x0]) w fun c w=>
 K c w)
theorem f72_call (x0:Value) (K:K1) (w:World) (h:f72_t x0 K w):callS prog 72 #[x0] w K:=
 call_of_txt (args:= [x0]) mixed Tryz.func72 .o kR (cast kR h)
def f74_t (x0 x1:Value) (K:K1) (w:World):Prop:=
 nS x0 w fun a w=>
 fA 112 a 1 w fun b w=>
 lD 3 b w fun c w=>
 cV 3 26 c w fun d w=>
 bU .mul 26 13 .u64 64 d w fun e w=>
 nS x0 w fun f w=>
 fA 112 f 2 w fun g w=>
 lD 3 g w fun h w=>
 bC .quo 3 18 32 h w fun i w=>
 bT .lss 26 20 21 x1 e w fun j w=>
 cndS j (
 K (.tuple #[(.int .i64 0),(.bool false)]) w) (
 bT .sub 26 23 24 x1 e w fun l w=>
 bU .quo 26 25 .u64 2048 l w fun m w=>
 cV 3 26 i w fun n w=>
 bT .geq 26 27 29 m n w fun o w=>
 cndS o (
 K (.tuple #[(.int .i64 0),(.bool false)]) w) (
 nS x0 w fun p w=>
 fA 112 p 1 w fun q w=>
 lD 3 q w fun s w=>
 cV 26 3 m w fun t w=>
 bC .mul 3 36 32 t w fun v w=>
 bT .add 3 34 37 s v w fun y w=>
 K (.tuple #[y,(.bool true)]) w))
theorem f74_call (x0 x1:Value) (K:K1) (w:World) (h:f74_t x0 x1 K w):callS prog 74 #[x0,x1] w K:=
 call_of_txt (args:= [x0,x1]) mixed Tryz.func74 .o kR (cast kR h)
def f80_t (x0:Value) (K:K1) (w:World):Prop:=
 ev prog (Instr.box 33 x0) w fun a w=>
 ev prog (Instr.makeFunc (.func 134) #[] #[a]) w fun b w=>
 K b w
theorem f80_call (x0:Value) (K:K1) (w:World) (h:f80_t x0 K w):callS prog 80 #[x0] w K:=
 call_of_txt (args:= [x0]) mixed Tryz.func80 .o kR (cast kR h)
def f83_t (x0 x1:Value) (K:K1) (w:World):Prop:=
 nR x0 w.drew fun a=>
 fR 112 a 4 w.drew fun b=>
 lR 108 b w.drew fun c=>
 cL 20 (pA #[x1]) w.drew fun d w=>
 (nilR prog x0 w (fun u=>u=a))∧
 (fG 112 a 4 w b)∧
 (lG 108 b w c)∧
 rd prog (Instr.lookup 108 c d true) w fun e=>
 xR e 0 w fun f=>
 xR e 1 w fun g=>
 gV g true f w fun h w=>
 gV g true x1 w fun i w=>
 gd g true (fun k=>bT .eql 27 19 20 h i w k) w fun j w=>
 pickS g j (.bool false) w fun l w=>
 K l w
theorem f83_call (x0 x1:Value) (K:K1) (w:World) (h:f83_t x0 x1 K w):callS prog 83 #[x0,x1] w K:=
 call_of_txt (args:= [x0,x1]) mixed Tryz.func83 .o kR (cast kR h)
def f84_t (x0 x1:Value) (K:K1) (w:World):Prop:=
 cL 20 (pA #[x1]) w fun a w=>
 cL 74 (pA #[x0,a]) w fun b w=>
 eX b 0 w fun c w=>
 eX b 1 w fun d w=>
 ev prog (Op.unary .not d) w fun e w=>
 cndS e (
 K (.tuple #[(.int .i64 0),(.int .i64 0),(.int .i64 (-1))]) w) (
 nS x0 w fun f w=>
 fA 112 f 0 w fun g w=>
 lD 106 g w fun h w=>
 cL 75 (pA #[h,c]) w fun i w=>
 eX i 0 w fun j w=>
 eX i 1 w fun l w=>
 ev prog (Instr.alloc 134 true (.tuple #[])) w fun m w=>
 sD 134 m j w fun w=>
 bC .neq 28 29 0 l w fun n w=>
 cndS n (
 K (.tuple #[c,(.int .i64 0),(.int .i64 (-1))]) w) (
 cL 20 (pA #[x1]) w fun o w=>
 cV 3 26 c w fun p w=>
 bU .mul 26 35 .u64 64 p w fun q w=>
 bT .sub 26 33 36 o q w fun s w=>
 bU .quo 26 37 .u64 8 s w fun t w=>
 lD 134 m w fun v w=>
 cL 136 (pA #[v]) w fun y w=>
 cV 26 3 t w fun z w=>
 cL 138 (pA #[y,z]) w fun a0 w=>
 eX a0 0 w fun a1 w=>
 eX a0 1 w fun a2 w=>
 ev prog (Op.unary .not a2) w fun a3 w=>
 cndS a3 (
 K (.tuple #[c,(.int .i64 0),(.int .i64 (-1))]) w) (
 lD 134 m w fun a4 w=>
 cL 136 (pA #[a4]) w fun a5 w=>
 K (.tuple #[c,a1,a5]) w)))
theorem f84_call (x0 x1:Value) (K:K1) (w:World) (h:f84_t x0 x1 K w):callS prog 84 #[x0,x1] w K:=
 call_of_txt (args:= [x0,x1]) mixed Tryz.func84 .o kR (cast kR h)
noncomputable def f94_u:Code×Dec:=((Tryz.f94.body).getD .skip,(.s .o (.s .o (.x 0 (.s .o (.b (.l [11] 1544 4294965412 (.s .o (.s .o (.x 3592 (.b (.s .o (.s .o (.b (.l [17] 101896 2147352708 .o))))) .o)))))) .o))))
abbrev f94_e (K:K1):KF:=endK prog Tryz.f94.results.toList K
def f94_k1_o (K:K1):KF:=fun fr w=>∀σ,cP (pr (pr (pr f94_u))) (f94_e K) (f94_e K) nX (mixF 0 σ 0 fr) w
def f94_k1 (K:K1) (w:World):Prop:=f94_k1_o K (fz 32 0 []) w
def f94_l1 (K:K1) (x3 x9 x10 x11:Value) (w:World):Prop:=loopT [11] 1544 (fun E=>cP (pl (pl (pr (pl (pr (pr f94_u)))))) E (f94_e K) (exB 0 (f94_k1_o K) nX)) (fz 32 0 [(3,x3),(9,x9),(10,x10),(11,x11)]) w
def f94_k2_o (K:K1) (E1:VP1):KF:=fun fr w=>∀σ,cP (pr (pr (pr (pl (pl (pr (pl (pr (pr f94_u))))))))) (fun fr w=>E1 (sv fr 11) w) (f94_e K) (exB 0 (f94_k1_o K) nX) (mixF 3592 σ 0 fr) w
def f94_k2 (K:K1) (E1:VP1) (x3 x9 x10 x11:Value) (w:World):Prop:=f94_k2_o K E1 (fz 32 0 [(3,x3),(9,x9),(10,x10),(11,x11)]) w
def f94_l2 (K:K1) (E1:VP1) (x3 x9 x10 x11 x15 x16 x17:Value) (w:World):Prop:=loopT [17] 101896 (fun E=>cP (pl (pl (pr (pr (pl (pl (pr (pr (pl (pl (pr (pl (pr (pr f94_u)))))))))))))) E (f94_e K) (exB 2 (f94_k2_o K E1) (exB 1 (f94_k2_o K E1) (exB 0 (f94_k1_o K) nX)))) (fz 32 0 [(3,x3),(9,x9),(10,x10),(11,x11),(15,x15),(16,x16),(17,x17)]) w
def f94_k1_t (K:K1) (w:World):Prop:=
 K (.bool true) w
theorem f94_k1_eq (K:K1) (w:World):f94_k1 K w=f94_k1_t K w:=cutE fun σ=>by kernel_rfl
def f94_l1_t (x3 x9 x10 x11:Value) (K:K1) (E1:VP1) (w:World):Prop:=
 bT .lss 3 11 10 x11 x10 w fun a w=>
 cndS a (
 iA 213 x9 x11 w fun b w=>
 lD 25 b w fun c w=>
 lN 25 c w fun d w=>
 f94_l2 K E1 x3 x9 x10 x11 c d (.int .i64 0) w) (
 f94_k1 K w)
theorem f94_l1_rule (x3 x9 x10 x11:Value) (K:K1) (w:World) (I:VP1) (μ:Value→World→Nat) (h0:I x11 w)
  (hr:∀(x11:Value) (w:World),I x11 w→∀E1:VP1,(∀(y11:Value) (w':World),I y11 w'→μ y11 w'<μ x11 w→E1 y11 w')→f94_l1_t x3 x9 x10 x11 K E1 w):f94_l1 K x3 x9 x10 x11 w:=
 ⟨I,μ,h0,fun σ w hI E hE=>cast kR (hr (σ 11) w hI E hE)⟩
def f94_k2_t (x3 x9 x10 x11:Value) (K:K1) (E1:VP1) (w:World):Prop:=
 bC .add 3 11 1 x11 w fun a w=>
 E1 a w
theorem f94_k2_eq (K:K1) (E1:VP1) (x3 x9 x10 x11:Value) (w:World):f94_k2 K E1 x3 x9 x10 x11 w=f94_k2_t x3 x9 x10 x11 K E1 w:=cutE fun σ=>by kernel_rfl
def f94_l2_t (x3 x9 x10 x11 x15 x16 x17:Value) (K:K1) (E1:VP1) (E2:VP1) (w:World):Prop:=
 bT .lss 3 17 16 x17 x16 w fun a w=>
 cndS a (
 iA 25 x15 x17 w fun b w=>
 lD 27 b w fun c w=>
 cL 73 (pA #[c]) w fun d w=>
 gV d false x3 w fun e w=>
 gV d false c w fun f w=>
 gd d false (fun k=>ev prog (Instr.lookup 214 e f false) w k) w fun g w=>
 pickS d (.bool true) g w fun h w=>
 cndS h (
 K (.bool false) w) (
 ac prog (Instr.mapUpdate 214 x3 c (.bool true)) w fun w=>
 bC .add 3 17 1 x17 w fun i w=>
 E2 i w)) (
 f94_k2 K E1 x3 x9 x10 x11 w)
theorem f94_l2_rule (x3 x9 x10 x11 x15 x16 x17:Value) (K:K1) (E1:VP1) (w:World) (I:VP1) (μ:Value→World→Nat) (h0:I x17 w)
  (hr:∀(x17:Value) (w:World),I x17 w→∀E2:VP1,(∀(y17:Value) (w':World),I y17 w'→μ y17 w'<μ x17 w→E2 y17 w')→f94_l2_t x3 x9 x10 x11 x15 x16 x17 K E1 E2 w):f94_l2 K E1 x3 x9 x10 x11 x15 x16 x17 w:=
 ⟨I,μ,h0,fun σ w hI E hE=>cast kR (hr (σ 17) w hI E hE)⟩
def f94_t (x0:Value) (K:K1) (w:World):Prop:=
 ev prog (Instr.makeMap 214 none) w fun a w=>
 lN 213 x0 w fun b w=>
 f94_l1 K a x0 b (.int .i64 0) w
theorem f94_call (x0:Value) (K:K1) (w:World) (h:f94_t x0 K w):callS prog 94 #[x0] w K:=
 call_of_txt (args:= [x0]) mixed Tryz.func94 f94_u.2 kR (cast kR h)
noncomputable def f95_u:Code×Dec:=((Tryz.f95.body).getD .skip,(.s .o (.s .o (.x 16 .o .o))))
abbrev f95_e (K:K1):KF:=endK prog Tryz.f95.results.toList K
def f95_k1_o (K:K1):KF:=fun fr w=>∀σ,cP (pr (pr (pr f95_u))) (f95_e K) (f95_e K) nX (mixF 16 σ 0 fr) w
def f95_k1 (K:K1) (x4:Value) (w:World):Prop:=f95_k1_o K (fz 16 0 [(4,x4)]) w
def f95_k1_t (x4:Value) (K:K1) (w:World):Prop:=
 K x4 w
theorem f95_k1_eq (K:K1) (x4:Value) (w:World):f95_k1 K x4 w=f95_k1_t x4 K w:=cutE fun σ=>by kernel_rfl
def f95_t (x0 x1:Value) (K:K1) (w:World):Prop:=
 lD 159 x1 w fun a w=>
 ev prog (Instr.lookup 159 a x0 false) w fun b w=>
 bM .eql 160 (.tmp 8) (.const (.pointer none)) b (.pointer none) w fun c w=>
 cndS c (
 ev prog (Instr.build 162 #[]) w fun d w=>
 ev prog (Instr.box 162 d) w fun e w=>
 lD 159 x1 w fun f w=>
 ac prog (Instr.mapUpdate 159 f x0 e) w fun w=>
 f95_k1 K e w) (
 f95_k1 K b w)
theorem f95_call (x0 x1:Value) (K:K1) (w:World) (h:f95_t x0 x1 K w):callS prog 95 #[x0,x1] w K:=
 call_of_txt (args:= [x0,x1]) mixed Tryz.func95 f95_u.2 kR (cast kR h)
def f96_t (x0:Value) (K:K1) (w:World):Prop:=
 cL 140 (pA #[x0]) w fun a w=>
 cL 141 (pA #[a]) w fun b w=>
 K a w
theorem f96_call (x0:Value) (K:K1) (w:World) (h:f96_t x0 K w):callS prog 96 #[x0] w K:=
 call_of_txt (args:= [x0]) mixed Tryz.func96 .o kR (cast kR h)
def f97_t (x0:Value) (K:K1) (w:World):Prop:=
 ev prog (Instr.box 159 x0) w fun a w=>
 ev prog (Instr.makeFunc (.func 142) #[] #[a]) w fun b w=>
 K b w
theorem f97_call (x0:Value) (K:K1) (w:World) (h:f97_t x0 K w):callS prog 97 #[x0] w K:=
 call_of_txt (args:= [x0]) mixed Tryz.func97 .o kR (cast kR h)
def f100_t (x0 x1:Value) (K:K1) (w:World):Prop:=
 nR x0 w.drew fun a=>
 fR 112 a 4 w.drew fun b=>
 lR 108 b w.drew fun c=>
 cL 20 (pA #[x1]) w.drew fun d w=>
 (nilR prog x0 w (fun u=>u=a))∧
 (fG 112 a 4 w b)∧
 (lG 108 b w c)∧
 bltS prog .delete #[108,26] 0 #[false,false] (pA #[c,d]) w fun _ w=>
 cL 20 (pA #[x1]) w fun e w=>
 cL 74 (pA #[x0,e]) w fun f w=>
 eX f 0 w fun g w=>
 eX f 1 w fun h w=>
 ev prog (Op.unary .not h) w fun i w=>
 cndS i (
 K (.tuple #[]) w) (
 nS x0 w fun j w=>
 fA 112 j 5 w fun l w=>
 lD 109 l w fun m w=>
 ev prog (Instr.lookup 109 m g false) w fun n w=>
 bC .sub 3 26 1 n w fun o w=>
 ac prog (Instr.mapUpdate 109 m g o) w fun w=>
 nS x0 w fun p w=>
 fA 112 p 5 w fun q w=>
 lD 109 q w fun s w=>
 ev prog (Instr.lookup 109 s g false) w fun t w=>
 bC .leq 3 33 0 t w fun v w=>
 cndS v (
 nS x0 w fun y w=>
 fA 112 y 5 w fun z w=>
 lD 109 z w fun a0 w=>
 bltS prog .delete #[109,3] 0 #[false,false] (pA #[a0,g]) w fun _ w=>
 nS x0 w fun a1 w=>
 fA 112 a1 3 w fun a2 w=>
 lD 107 a2 w fun a3 w=>
 cL 70 (pA #[a3,g,(.bool false)]) w fun a4 w=>
 K (.tuple #[]) w) (
 K (.tuple #[]) w))
theorem f100_call (x0 x1:Value) (K:K1) (w:World) (h:f100_t x0 x1 K w):callS prog 100 #[x0,x1] w K:=
 call_of_txt (args:= [x0,x1]) mixed Tryz.func100 .o kR (cast kR h)
def f107_t (x0 x1 x2:Value) (K:K1) (w:World):Prop:=
 cL 112 (pA #[x0,x1,x2]) w fun a w=>
 eX a 0 w fun b w=>
 eX a 1 w fun c w=>
 K (.tuple #[b,c]) w
theorem f107_call (x0 x1 x2:Value) (K:K1) (w:World) (h:f107_t x0 x1 x2 K w):callS prog 107 #[x0,x1,x2] w K:=
 call_of_txt (args:= [x0,x1,x2]) mixed Tryz.func107 .o kR (cast kR h)
def f108_t (x0:Value) (K:K1) (w:World):Prop:=
 bM .eql 32 (.tmp 9) (.const (.pointer none)) x0 (.pointer none) w fun a w=>
 gV a false x0 w fun b w=>
 gd a false (fun k=>nS b w k) w fun c w=>
 gd a false (fun k=>fA 171 c 0 w k) w fun d w=>
 gd a false (fun k=>lD 106 d w k) w fun e w=>
 gd a false (fun k=>bM .eql 106 (.tmp 15) (.const .nilIface) e .nilIface w k) w fun f w=>
 pickS a (.bool true) f w fun g w=>
 cndS g (
 K (.tuple #[(.int .i64 0),(.int .i64 1)]) w) (
 nS x0 w fun h w=>
 fA 171 h 0 w fun i w=>
 lD 106 i w fun j w=>
 invS prog j "Err" (pA #[]) w fun l w=>
 bC .neq 28 23 0 l w fun m w=>
 cndS m (
 K (.tuple #[(.int .i64 0),l]) w) (
 cL 151 (pA #[x0]) w fun n w=>
 eX n 0 w fun o w=>
 eX n 1 w fun p w=>
 nS x0 w fun q w=>
 fA 171 q 0 w fun s w=>
 lD 106 s w fun t w=>
 invS prog t "Err" (pA #[]) w fun v w=>
 bC .neq 28 36 0 v w fun y w=>
 cndS y (
 K (.tuple #[(.int .i64 0),v]) w) (
 bU .eql 225 39 .u8 1 o w fun z w=>
 cndS z (
 K (.tuple #[(.int .i64 0),(.int .i64 0)]) w) (
 bU .eql 225 39 .u8 3 o w fun a0 w=>
 cndS a0 (
 K (.tuple #[(.int .i64 0),(.int .i64 10)]) w) (
 nR x0 w.drew fun a1=>
 fR 171 a1 0 w.drew fun a2=>
 lR 106 a2 w.drew fun a3=>
 cL 128 (pA #[x0,p]) w.drew fun a4 w=>
 (nilR prog x0 w (fun u=>u=a1))∧
 (fG 171 a1 0 w a2)∧
 (lG 106 a2 w a3)∧
 cL 99 (pA #[a4,a3]) w fun a5 w=>
 bC .neq 28 52 0 a5 w fun a6 w=>
 cndS a6 (
 K (.tuple #[(.int .i64 0),a5]) w) (
 lN 79 p w fun a7 w=>
 K (.tuple #[a7,(.int .i64 0)]) w))))))
theorem f108_call (x0:Value) (K:K1) (w:World) (h:f108_t x0 K w):callS prog 108 #[x0] w K:=
 call_of_txt (args:= [x0]) mixed Tryz.func108 .o kR (cast kR h)
noncomputable def f109_u:Code×Dec:=((Tryz.f109.body).getD .skip,(.s .o (.s .o (.s .o (.x 263 (.s .o (.b (.l [28] 201326855 2251799545280704 (.s .o (.s .o (.x 469762311 .o .o)))))) .o)))))
abbrev f109_e (K:K1):KF:=endK prog Tryz.f109.results.toList K
def f109_k1_o (K:K1):KF:=fun fr w=>∀σ,cP (pr (pr (pr (pr f109_u)))) (f109_e K) (f109_e K) nX (mixF 263 σ 0 fr) w
def f109_k1 (K:K1) (x0 x1 x2 x8:Value) (w:World):Prop:=f109_k1_o K (fz 59 0 [(0,x0),(1,x1),(2,x2),(8,x8)]) w
def f109_l1 (K:K1) (x0 x1 x2 x8 x26 x27 x28:Value) (w:World):Prop:=loopT [28] 201326855 (fun E=>cP (pl (pl (pr (pl (pr (pr (pr f109_u))))))) E (f109_e K) (exB 0 (f109_k1_o K) nX)) (fz 59 0 [(0,x0),(1,x1),(2,x2),(8,x8),(26,x26),(27,x27),(28,x28)]) w
def f109_k2_o (K:K1) (E1:VP1):KF:=fun fr w=>∀σ,cP (pr (pr (pr (pl (pl (pr (pl (pr (pr (pr f109_u)))))))))) (fun fr w=>E1 (sv fr 28) w) (f109_e K) (exB 0 (f109_k1_o K) nX) (mixF 469762311 σ 0 fr) w
def f109_k2 (K:K1) (E1:VP1) (x0 x1 x2 x8 x26 x27 x28:Value) (w:World):Prop:=f109_k2_o K E1 (fz 59 0 [(0,x0),(1,x1),(2,x2),(8,x8),(26,x26),(27,x27),(28,x28)]) w
def f109_k1_t (x0 x1 x2 x8:Value) (K:K1) (w:World):Prop:=
 ev prog (Instr.makeMap 108 none) w fun a w=>
 ev prog (Instr.makeMap 109 none) w fun b w=>
 ev prog (Instr.build 112 #[(0,x0),(1,x1),(2,x2),(3,x8),(4,a),(5,b)]) w fun c w=>
 ev prog (Instr.box 112 c) w fun d w=>
 K (.tuple #[d,(.int .i64 0)]) w
theorem f109_k1_eq (K:K1) (x0 x1 x2 x8:Value) (w:World):f109_k1 K x0 x1 x2 x8 w=f109_k1_t x0 x1 x2 x8 K w:=cutE fun σ=>by kernel_rfl
def f109_l1_t (x0 x1 x2 x8 x26 x27 x28:Value) (K:K1) (E1:VP1) (w:World):Prop:=
 bT .lss 3 28 27 x28 x27 w fun a w=>
 cndS a (
 iA 50 x26 x28 w fun b w=>
 lD 3 b w fun c w=>
 cL 152 (pA #[x8,c]) w fun d w=>
 bC .lss 3 34 0 d w fun e w=>
 cndS e (
 f109_k2 K E1 x0 x1 x2 x8 x26 x27 x28 w) (
 cL 75 (pA #[x0,c]) w fun f w=>
 eX f 0 w fun g w=>
 eX f 1 w fun h w=>
 ev prog (Instr.alloc 134 true (.tuple #[])) w fun i w=>
 sD 134 i g w fun w=>
 bC .neq 28 42 0 h w fun j w=>
 cndS j (
 K (.tuple #[(.pointer none),h]) w) (
 lD 134 i w fun l w=>
 cL 153 (pA #[l]) w fun m w=>
 bC .neq 28 47 0 m w fun n w=>
 cndS n (
 K (.tuple #[(.pointer none),m]) w) (
 f109_k2 K E1 x0 x1 x2 x8 x26 x27 x28 w)))) (
 f109_k1 K x0 x1 x2 x8 w)
theorem f109_l1_rule (x0 x1 x2 x8 x26 x27 x28:Value) (K:K1) (w:World) (I:VP1) (μ:Value→World→Nat) (h0:I x28 w)
  (hr:∀(x28:Value) (w:World),I x28 w→∀E1:VP1,(∀(y28:Value) (w':World),I y28 w'→μ y28 w'<μ x28 w→E1 y28 w')→f109_l1_t x0 x1 x2 x8 x26 x27 x28 K E1 w):f109_l1 K x0 x1 x2 x8 x26 x27 x28 w:=
 ⟨I,μ,h0,fun σ w hI E hE=>cast kR (hr (σ 28) w hI E hE)⟩
def f109_k2_t (x0 x1 x2 x8 x26 x27 x28:Value) (K:K1) (E1:VP1) (w:World):Prop:=
 bC .add 3 28 1 x28 w fun a w=>
 E1 a w
theorem f109_k2_eq (K:K1) (E1:VP1) (x0 x1 x2 x8 x26 x27 x28:Value) (w:World):f109_k2 K E1 x0 x1 x2 x8 x26 x27 x28 w=f109_k2_t x0 x1 x2 x8 x26 x27 x28 K E1 w:=cutE fun σ=>by kernel_rfl
def f109_t (x0 x1 x2:Value) (K:K1) (w:World):Prop:=
 cL 120 (pA #[x0,x1,x2]) w fun a w=>
 eX a 0 w fun b w=>
 eX a 1 w fun c w=>
 bC .neq 28 22 0 c w fun d w=>
 cndS d (
 K (.tuple #[(.pointer none),c]) w) (
 cL 91 (pA #[b]) w fun e w=>
 lN 50 e w fun f w=>
 f109_l1 K x0 x1 x2 b e f (.int .i64 0) w)
theorem f109_call (x0 x1 x2:Value) (K:K1) (w:World) (h:f109_t x0 x1 x2 K w):callS prog 109 #[x0,x1,x2] w K:=
 call_of_txt (args:= [x0,x1,x2]) mixed Tryz.func109 f109_u.2 kR (cast kR h)
def f112_t (x0 x1 x2:Value) (K:K1) (w:World):Prop:=
 bM .eql 106 (.tmp 9) (.const .nilIface) x0 .nilIface w fun a w=>
 gV a false x1 w fun b w=>
 gd a false (fun k=>bC .lss 3 12 0 b w k) w fun c w=>
 pickS a (.bool true) c w fun d w=>
 gV d false x2 w fun e w=>
 gd d false (fun k=>bC .lss 3 16 26 e w k) w fun f w=>
 pickS d (.bool true) f w fun g w=>
 cndS g (
 K (.tuple #[(.pointer none),(.int .i64 1)]) w) (
 invS prog x0 "Size" (pA #[]) w fun h w=>
 bU .quo 26 20 .u64 64 h w fun i w=>
 cV 3 26 x2 w fun j w=>
 bT .gtr 26 23 24 j i w fun l w=>
 gV l false x1 w fun m w=>
 gd l false (fun k=>cV 3 26 m w k) w fun n w=>
 gV l false i w fun o w=>
 gV l false x2 w fun p w=>
 gd l false (fun k=>cV 3 26 p w k) w fun q w=>
 gd l false (fun k=>bT .sub 26 29 31 o q w k) w fun s w=>
 gd l false (fun k=>bT .gtr 26 28 32 n s w k) w fun t w=>
 pickS l (.bool true) t w fun v w=>
 cndS v (
 K (.tuple #[(.pointer none),(.int .i64 1)]) w) (
 cV 3 26 x1 w fun y w=>
 bU .mul 26 37 .u64 64 y w fun z w=>
 cV 3 26 x2 w fun a0 w=>
 bU .mul 26 40 .u64 64 a0 w fun a1 w=>
 ev prog (Instr.build 171 #[(0,x0),(1,z),(2,a1)]) w fun a2 w=>
 ev prog (Instr.box 171 a2) w fun a3 w=>
 K (.tuple #[a3,(.int .i64 0)]) w))
theorem f112_call (x0 x1 x2:Value) (K:K1) (w:World) (h:f112_t x0 x1 x2 K w):callS prog 112 #[x0,x1,x2] w K:=
 call_of_txt (args:= [x0,x1,x2]) mixed Tryz.func112 .o kR (cast kR h)
def f113_t (x0 x1:Value) (K:K1) (w:World):Prop:=
 nS x0 w fun a w=>
 fA 171 a 1 w fun b w=>
 lD 26 b w fun c w=>
 ev prog (Instr.build 98 #[(0,c),(1,x1)]) w fun d w=>
 ev prog (Instr.buildSlice 79 1 #[(0,d)]) w fun e w=>
 cL 123 (pA #[e]) w fun f w=>
 K f w
theorem f113_call (x0 x1:Value) (K:K1) (w:World) (h:f113_t x0 x1 K w):callS prog 113 #[x0,x1] w K:=
 call_of_txt (args:= [x0,x1]) mixed Tryz.func113 .o kR (cast kR h)
def f125_t (x0 x1:Value) (K:K1) (w:World):Prop:=
 rU .rem 26 5 .u64 8 x1 w.drew fun a=>
 rU .eql 26 6 .u64 0 a w.drew fun b=>
 gW b true x1 fun c=>
 gW b true x0 fun d=>
 gN b true d w.drew fun e=>
 gF b true 171 e 0 w.drew fun f=>
 gL b true 106 f w.drew fun g=>
 gd b true (fun k=>invS prog g "Size" (pA #[]) w.drew k) w.drew fun h w=>
 gdR b true (fun k=>rT .lss 26 9 14 c h w k) fun i=>
 pickV b i (.bool false) fun j=>
 gW j true x1 fun l=>
 gW j true x0 fun m=>
 gN j true m w fun n=>
 gF j true 171 n 1 w fun o=>
 gL j true 26 o w fun p=>
 gdR j true (fun k=>rT .lss 26 18 22 l p w k) fun q=>
 gW j true q fun s=>
 gW s false x1 fun t=>
 gW s false x0 fun v=>
 gN s false v w fun y=>
 gF s false 171 y 1 w fun z=>
 gL s false 26 z w fun a0=>
 gdR s false (fun k=>rT .sub 26 25 29 t a0 w k) fun a1=>
 gW s false x0 fun a2=>
 gN s false a2 w fun a3=>
 gF s false 171 a3 2 w fun a4=>
 gL s false 26 a4 w fun a5=>
 gdR s false (fun k=>rT .geq 26 30 34 a1 a5 w k) fun a6=>
 gdR j true (fun k=>pickV s (.bool true) a6 k) fun a7=>
 pickV j a7 (.bool false) fun a8=>
 K a8 w
theorem f125_call (x0 x1:Value) (K:K1) (w:World) (h:f125_t x0 x1 K w):callS prog 125 #[x0,x1] w K:=
 call_of_txt (args:= [x0,x1]) mixed Tryz.func125 .o kR (cast kR h)
noncomputable def f126_u:Code×Dec:=((Tryz.f126.body).getD .skip,(.s .o (.s .o (.x 9 (.s .o (.b (.l [12] 3081 4190256 .o))) (.s .o (.x 64 (.s .o (.b (.l [6,24] 12582920 1099494851008 (.s .o (.s .o (.x 29360200 .o .o)))))) .o))))))
abbrev f126_e (K:K1):KF:=endK prog Tryz.f126.results.toList K
def f126_k1_o (K:K1):KF:=fun fr w=>∀σ,cP (pr (pr (pr f126_u))) (f126_e K) (f126_e K) nX (mixF 9 σ 0 fr) w
def f126_k1 (K:K1) (x0 x3:Value) (w:World):Prop:=f126_k1_o K (fz 41 0 [(0,x0),(3,x3)]) w
def f126_l1 (K:K1) (x0 x3 x10 x11 x12:Value) (w:World):Prop:=loopT [12] 3081 (fun E=>cP (pl (pl (pr (pl (pr (pr f126_u)))))) E (f126_e K) (exB 0 (f126_k1_o K) nX)) (fz 41 0 [(0,x0),(3,x3),(10,x10),(11,x11),(12,x12)]) w
def f126_k2_o (K:K1):KF:=fun fr w=>∀σ,cP (pr (pr (pr (pr (pr f126_u))))) (f126_e K) (f126_e K) nX (mixF 64 σ 0 fr) w
def f126_k2 (K:K1) (x6:Value) (w:World):Prop:=f126_k2_o K (fz 41 0 [(6,x6)]) w
def f126_l2 (K:K1) (x3 x6 x22 x23 x24:Value) (w:World):Prop:=loopT [6,24] 12582920 (fun E=>cP (pl (pl (pr (pl (pr (pr (pr (pr f126_u)))))))) E (f126_e K) (exB 2 (f126_k2_o K) nX)) (fz 41 0 [(3,x3),(6,x6),(22,x22),(23,x23),(24,x24)]) w
def f126_k3_o (K:K1) (E1:VP2):KF:=fun fr w=>∀σ,cP (pr (pr (pr (pl (pl (pr (pl (pr (pr (pr (pr f126_u))))))))))) (fun fr w=>E1 (sv fr 6) (sv fr 24) w) (f126_e K) (exB 2 (f126_k2_o K) nX) (mixF 29360200 σ 0 fr) w
def f126_k3 (K:K1) (E1:VP2) (x3 x6 x22 x23 x24:Value) (w:World):Prop:=f126_k3_o K E1 (fz 41 0 [(3,x3),(6,x6),(22,x22),(23,x23),(24,x24)]) w
def f126_k1_t (x0 x3:Value) (K:K1) (w:World):Prop:=
 lN 79 x0 w fun a w=>
 f126_l2 K x3 (.slice none 0 0) x0 a (.int .i64 0) w
theorem f126_k1_eq (K:K1) (x0 x3:Value) (w:World):f126_k1 K x0 x3 w=f126_k1_t x0 x3 K w:=cutE fun σ=>by kernel_rfl
def f126_l1_t (x0 x3 x10 x11 x12:Value) (K:K1) (E1:VP1) (w:World):Prop:=
 bT .lss 3 12 11 x12 x11 w fun a w=>
 cndS a (
 iA 79 x10 x12 w fun b w=>
 lD 98 b w fun c w=>
 ev prog (Instr.alloc 98 true (.tuple #[])) w fun d w=>
 sD 98 d c w fun w=>
 fA 98 d 0 w fun e w=>
 lD 26 e w fun f w=>
 ac prog (Instr.mapUpdate 238 x3 f x12) w fun w=>
 bC .add 3 12 1 x12 w fun g w=>
 E1 g w) (
 f126_k1 K x0 x3 w)
theorem f126_l1_rule (x0 x3 x10 x11 x12:Value) (K:K1) (w:World) (I:VP1) (μ:Value→World→Nat) (h0:I x12 w)
  (hr:∀(x12:Value) (w:World),I x12 w→∀E1:VP1,(∀(y12:Value) (w':World),I y12 w'→μ y12 w'<μ x12 w→E1 y12 w')→f126_l1_t x0 x3 x10 x11 x12 K E1 w):f126_l1 K x0 x3 x10 x11 x12 w:=
 ⟨I,μ,h0,fun σ w hI E hE=>cast kR (hr (σ 12) w hI E hE)⟩
def f126_k2_t (x6:Value) (K:K1) (w:World):Prop:=
 K x6 w
theorem f126_k2_eq (K:K1) (x6:Value) (w:World):f126_k2 K x6 w=f126_k2_t x6 K w:=cutE fun σ=>by kernel_rfl
def f126_l2_t (x3 x6 x22 x23 x24:Value) (K:K1) (E1:VP2) (w:World):Prop:=
 bT .lss 3 24 23 x24 x23 w fun a w=>
 cndS a (
 iA 79 x22 x24 w fun b w=>
 lD 98 b w fun c w=>
 ev prog (Instr.alloc 98 true (.tuple #[])) w fun d w=>
 sD 98 d c w fun w=>
 fA 98 d 0 w fun e w=>
 lD 26 e w fun f w=>
 ev prog (Instr.lookup 238 x3 f false) w fun g w=>
 bT .eql 3 32 33 g x24 w fun h w=>
 cndS h (
 lD 98 d w fun i w=>
 ev prog (Instr.buildSlice 79 1 #[(0,i)]) w fun j w=>
 bltS prog .append #[79,79] 79 #[false,false] (pA #[x6,j]) w fun l w=>
 f126_k3 K E1 x3 l x22 x23 x24 w) (
 f126_k3 K E1 x3 x6 x22 x23 x24 w)) (
 f126_k2 K x6 w)
theorem f126_l2_rule (x3 x6 x22 x23 x24:Value) (K:K1) (w:World) (I:VP2) (μ:Value→Value→World→Nat) (h0:I x6 x24 w)
  (hr:∀(x6 x24:Value) (w:World),I x6 x24 w→∀E1:VP2,(∀(y6 y24:Value) (w':World),I y6 y24 w'→μ y6 y24 w'<μ x6 x24 w→E1 y6 y24 w')→f126_l2_t x3 x6 x22 x23 x24 K E1 w):f126_l2 K x3 x6 x22 x23 x24 w:=
 ⟨I,μ,h0,fun σ w hI E hE=>cast kR (hr (σ 6) (σ 24) w hI E hE)⟩
def f126_k3_t (x3 x6 x22 x23 x24:Value) (K:K1) (E1:VP2) (w:World):Prop:=
 bC .add 3 24 1 x24 w fun a w=>
 E1 x6 a w
theorem f126_k3_eq (K:K1) (E1:VP2) (x3 x6 x22 x23 x24:Value) (w:World):f126_k3 K E1 x3 x6 x22 x23 x24 w=f126_k3_t x3 x6 x22 x23 x24 K E1 w:=cutE fun σ=>by kernel_rfl
def f126_t (x0:Value) (K:K1) (w:World):Prop:=
 ev prog (Instr.makeMap 238 none) w fun a w=>
 lN 79 x0 w fun b w=>
 f126_l1 K x0 a x0 b (.int .i64 0) w
theorem f126_call (x0:Value) (K:K1) (w:World) (h:f126_t x0 K w):callS prog 126 #[x0] w K:=
 call_of_txt (args:= [x0]) mixed Tryz.func126 f126_u.2 kR (cast kR h)
def f128_t (x0 x1:Value) (K:K1) (w:World):Prop:=
 cL 123 (pA #[x1]) w fun a w=>
 cL 113 (pA #[x0,(.int .u64 ((0:Nat):Int))]) w fun b w=>
 cL 119 (pA #[a,b]) w fun c w=>
 K c w
theorem f128_call (x0 x1:Value) (K:K1) (w:World) (h:f128_t x0 x1 K w):callS prog 128 #[x0,x1] w K:=
 call_of_txt (args:= [x0,x1]) mixed Tryz.func128 .o kR (cast kR h)
noncomputable def f134_u:Code×Dec:=((Tryz.f134.body).getD .skip,(.s .o (.s .o (.b (.l [18] 196611 576460752303162352 (.s .o (.s .o (.x 458755 (.b (.s .o (.s .o (.s .o (.s .o (.b (.l [36] 34360197155 288230307432235904 (.s .o (.s .o (.x 103079673891 .o .o)))))))))) .o))))))))
abbrev f134_e (K:K1):KF:=endK prog Tryz.f134.results.toList K
def f134_l1 (K:K1) (x0 x1 x16 x17 x18:Value) (w:World):Prop:=loopT [18] 196611 (fun E=>cP (pl (pl (pr (pr f134_u)))) E (f134_e K) (exB 0 (f134_e K) nX)) (fz 59 0 [(0,x0),(1,x1),(16,x16),(17,x17),(18,x18)]) w
def f134_k1_o (K:K1) (E1:VP1):KF:=fun fr w=>∀σ,cP (pr (pr (pr (pl (pl (pr (pr f134_u))))))) (fun fr w=>E1 (sv fr 18) w) (f134_e K) (exB 0 (f134_e K) nX) (mixF 458755 σ 0 fr) w
def f134_k1 (K:K1) (E1:VP1) (x0 x1 x16 x17 x18:Value) (w:World):Prop:=f134_k1_o K E1 (fz 59 0 [(0,x0),(1,x1),(16,x16),(17,x17),(18,x18)]) w
def f134_l2 (K:K1) (E1:VP1) (x0 x1 x5 x16 x17 x18 x35 x36:Value) (w:World):Prop:=loopT [36] 34360197155 (fun E=>cP (pl (pl (pr (pr (pr (pr (pl (pl (pr (pr (pl (pl (pr (pr f134_u)))))))))))))) E (f134_e K) (exB 2 (f134_k1_o K E1) (exB 1 (f134_k1_o K E1) (exB 0 (f134_e K) nX)))) (fz 59 0 [(0,x0),(1,x1),(5,x5),(16,x16),(17,x17),(18,x18),(35,x35),(36,x36)]) w
def f134_k2_o (K:K1) (E1:VP1) (E2:VP1):KF:=fun fr w=>∀σ,cP (pr (pr (pr (pl (pl (pr (pr (pr (pr (pl (pl (pr (pr (pl (pl (pr (pr f134_u))))))))))))))))) (fun fr w=>E2 (sv fr 36) w) (f134_e K) (exB 2 (f134_k1_o K E1) (exB 1 (f134_k1_o K E1) (exB 0 (f134_e K) nX))) (mixF 103079673891 σ 0 fr) w
def f134_k2 (K:K1) (E1:VP1) (E2:VP1) (x0 x1 x5 x16 x17 x18 x35 x36:Value) (w:World):Prop:=f134_k2_o K E1 E2 (fz 59 0 [(0,x0),(1,x1),(5,x5),(16,x16),(17,x17),(18,x18),(35,x35),(36,x36)]) w
def f134_l1_t (x0 x1 x16 x17 x18:Value) (K:K1) (E1:VP1) (w:World):Prop:=
 bT .lss 3 18 17 x18 x17 w fun a w=>
 cndS a (
 iA 50 x16 x18 w fun b w=>
 lD 3 b w fun c w=>
 lD 33 x1 w fun d w=>
 nS d w fun e w=>
 fA 112 e 0 w fun f w=>
 lD 106 f w fun g w=>
 cL 75 (pA #[g,c]) w fun h w=>
 eX h 0 w fun i w=>
 eX h 1 w fun j w=>
 ev prog (Instr.alloc 134 true (.tuple #[])) w fun l w=>
 sD 134 l i w fun w=>
 bC .neq 28 31 0 j w fun m w=>
 cndS m (
 f134_k1 K E1 x0 x1 x16 x17 x18 w) (
 lD 134 l w fun n w=>
 cL 136 (pA #[n]) w fun o w=>
 cL 135 (pA #[o]) w fun p w=>
 f134_l2 K E1 x0 x1 l x16 x17 x18 p (.int .i64 0) w)) (
 K (.tuple #[]) w)
theorem f134_l1_rule (x0 x1 x16 x17 x18:Value) (K:K1) (w:World) (I:VP1) (μ:Value→World→Nat) (h0:I x18 w)
  (hr:∀(x18:Value) (w:World),I x18 w→∀E1:VP1,(∀(y18:Value) (w':World),I y18 w'→μ y18 w'<μ x18 w→E1 y18 w')→f134_l1_t x0 x1 x16 x17 x18 K E1 w):f134_l1 K x0 x1 x16 x17 x18 w:=
 ⟨I,μ,h0,fun σ w hI E hE=>cast kR (hr (σ 18) w hI E hE)⟩
def f134_k1_t (x0 x1 x16 x17 x18:Value) (K:K1) (E1:VP1) (w:World):Prop:=
 bC .add 3 18 1 x18 w fun a w=>
 E1 a w
theorem f134_k1_eq (K:K1) (E1:VP1) (x0 x1 x16 x17 x18:Value) (w:World):f134_k1 K E1 x0 x1 x16 x17 x18 w=f134_k1_t x0 x1 x16 x17 x18 K E1 w:=cutE fun σ=>by kernel_rfl
def f134_l2_t (x0 x1 x5 x16 x17 x18 x35 x36:Value) (K:K1) (E1:VP1) (E2:VP1) (w:World):Prop:=
 bT .lss 3 36 35 x36 x35 w fun a w=>
 cndS a (
 lD 134 x5 w fun b w=>
 cL 137 (pA #[b,x36]) w fun c w=>
 ev prog (Op.unary .not c) w fun d w=>
 cndS d (
 f134_k2 K E1 E2 x0 x1 x5 x16 x17 x18 x35 x36 w) (
 lD 134 x5 w fun e w=>
 cL 122 (pA #[e,x36,(.int .u8 ((0:Nat):Int))]) w fun f w=>
 eX f 0 w fun g w=>
 eX f 1 w fun h w=>
 bC .eql 28 49 0 h w fun i w=>
 gV i true x0 w fun j w=>
 gV i true g w fun l w=>
 gd i true (fun k=>dynS prog j (pA #[l]) w k) w fun m w=>
 gd i true (fun k=>ev prog (Op.unary .not m) w k) w fun n w=>
 pickS i n (.bool false) w fun o w=>
 cndS o (
 K (.tuple #[]) w) (
 f134_k2 K E1 E2 x0 x1 x5 x16 x17 x18 x35 x36 w))) (
 f134_k1 K E1 x0 x1 x16 x17 x18 w)
theorem f134_l2_rule (x0 x1 x5 x16 x17 x18 x35 x36:Value) (K:K1) (E1:VP1) (w:World) (I:VP1) (μ:Value→World→Nat) (h0:I x36 w)
  (hr:∀(x36:Value) (w:World),I x36 w→∀E2:VP1,(∀(y36:Value) (w':World),I y36 w'→μ y36 w'<μ x36 w→E2 y36 w')→f134_l2_t x0 x1 x5 x16 x17 x18 x35 x36 K E1 E2 w):f134_l2 K E1 x0 x1 x5 x16 x17 x18 x35 x36 w:=
 ⟨I,μ,h0,fun σ w hI E hE=>cast kR (hr (σ 36) w hI E hE)⟩
def f134_k2_t (x0 x1 x5 x16 x17 x18 x35 x36:Value) (K:K1) (E1:VP1) (E2:VP1) (w:World):Prop:=
 bC .add 3 36 1 x36 w fun a w=>
 E2 a w
theorem f134_k2_eq (K:K1) (E1:VP1) (E2:VP1) (x0 x1 x5 x16 x17 x18 x35 x36:Value) (w:World):f134_k2 K E1 E2 x0 x1 x5 x16 x17 x18 x35 x36 w=f134_k2_t x0 x1 x5 x16 x17 x18 x35 x36 K E1 E2 w:=cutE fun σ=>by kernel_rfl
def f134_t (x0 x1:Value) (K:K1) (w:World):Prop:=
 lD 33 x1 w fun a w=>
 bM .eql 33 (.tmp 10) (.const (.pointer none)) a (.pointer none) w fun b w=>
 cndS b (
 K (.tuple #[]) w) (
 lD 33 x1 w fun c w=>
 nS c w fun d w=>
 fA 112 d 3 w fun e w=>
 lD 107 e w fun f w=>
 cL 91 (pA #[f]) w fun g w=>
 lN 50 g w fun h w=>
 f134_l1 K x0 x1 g h (.int .i64 0) w)
theorem f134_call (x0 x1:Value) (K:K1) (w:World) (h:f134_t x0 x1 K w):callS prog 134 #[x0,x1] w K:=
 call_of_txt (args:= [x0,x1]) mixed Tryz.func134 f134_u.2 kR (cast kR h)
def f140_t (x0:Value) (K:K1) (w:World):Prop:=
 cL 178 (pA #[(.slice none 0 0),x0]) w fun a w=>
 K a w
theorem f140_call (x0:Value) (K:K1) (w:World) (h:f140_t x0 K w):callS prog 140 #[x0] w K:=
 call_of_txt (args:= [x0]) mixed Tryz.func140 .o kR (cast kR h)
noncomputable def f142_u:Code×Dec:=((Tryz.f142.body).getD .skip,(.s .o (.b (.l [] 33 16328 .o))))
abbrev f142_e (K:K1):KF:=endK prog Tryz.f142.results.toList K
def f142_l1 (K:K1) (x0 x5:Value) (w:World):Prop:=loopT [] 33 (fun E=>cP (pl (pl (pr f142_u))) E (f142_e K) (exB 0 (f142_e K) nX)) (fz 14 0 [(0,x0),(5,x5)]) w
def f142_l1_t (x0 x5:Value) (K:K1) (E1:VP0) (w:World):Prop:=
 ev prog (Instr.next x5 false 0) w fun a w=>
 eX a 0 w fun b w=>
 cndS b (
 ev prog (Instr.entry x5) w fun c w=>
 eX c 0 w fun d w=>
 dynS prog x0 (pA #[d]) w fun e w=>
 ev prog (Op.unary .not e) w fun f w=>
 cndS f (
 K (.tuple #[]) w) (
 E1 w)) (
 K (.tuple #[]) w)
theorem f142_l1_rule (x0 x5:Value) (K:K1) (w:World) (I:VP0) (μ:World→Nat) (h0:I w)
  (hr:∀(w:World),I w→∀E1:VP0,(∀(w':World),I w'→μ w'<μ w→E1 w')→f142_l1_t x0 x5 K E1 w):f142_l1 K x0 x5 w:=
 ⟨I,μ,h0,fun σ w hI E hE=>cast kR (hr w hI E hE)⟩
def f142_t (x0 x1:Value) (K:K1) (w:World):Prop:=
 lD 159 x1 w fun a w=>
 ev prog (Instr.range 159 a) w fun b w=>
 f142_l1 K x0 b w
theorem f142_call (x0 x1:Value) (K:K1) (w:World) (h:f142_t x0 x1 K w):callS prog 142 #[x0,x1] w K:=
 call_of_txt (args:= [x0,x1]) mixed Tryz.func142 f142_u.2 kR (cast kR h)
noncomputable def f151_u:Code×Dec:=((Tryz.f151.body).getD .skip,(.s .o (.s .o (.s .o (.s .o (.s .o (.s .o (.s .o (.x 225 (.s .o (.b (.l [47] 70368744177905 295147764441864470784 .o))) (.s .o (.s .o (.x 512 (.s .o (.b (.l [9,75] 18889465931478580854913 1267650562449297538539541499404 .o))) .o))))))))))))
abbrev f151_e (K:K1):KF:=endK prog Tryz.f151.results.toList K
def f151_k1_o (K:K1):KF:=fun fr w=>∀σ,cP (pr (pr (pr (pr (pr (pr (pr (pr f151_u)))))))) (f151_e K) (f151_e K) nX (mixF 225 σ 0 fr) w
def f151_l1 (K:K1) (x0 x4 x5 x6 x7 x46 x47:Value) (w:World):Prop:=loopT [47] 70368744177905 (fun E=>cP (pl (pl (pr (pl (pr (pr (pr (pr (pr (pr (pr f151_u))))))))))) E (f151_e K) (exB 0 (f151_k1_o K) nX)) (fz 101 0 [(0,x0),(4,x4),(5,x5),(6,x6),(7,x7),(46,x46),(47,x47)]) w
def f151_t (x0:Value) (K:K1) (w:World):Prop:=
 nS x0 w fun a w=>
 fA 171 a 0 w fun b w=>
 lD 106 b w fun c w=>
 nR x0 w.drew fun d=>
 fR 171 d 1 w.drew fun e=>
 lR 26 e w.drew fun f=>
 rd prog (Instr.makeFunc (.method "Load") #[c] #[]) w.drew fun g=>
 nR g w.drew fun h=>
 invS prog c "Load" (pA #[f]) w.drew fun i w=>
 bU .eql 26 25 .u64 0 i w fun j w=>
 cndS j (
 K (.tuple #[(.int .u8 ((1:Nat):Int)),(.slice none 0 0)]) w) (
 bU .and 26 27 .u64 65535 i w fun l w=>
 cV 26 3 l w fun m w=>
 bC .eql 3 30 0 m w fun n w=>
 gV n false m w fun o w=>
 gd n false (fun k=>bC .gtr 3 33 96 o w k) w fun p w=>
 pickS n (.bool true) p w fun q w=>
 gV q false i w fun s w=>
 gd q false (fun k=>bU .andNot 26 37 .u64 65535 s w k) w fun t w=>
 gd q false (fun k=>bU .shl 26 38 .u64 32 t w k) w fun v w=>
 gd q false (fun k=>bU .neq 26 39 .u64 0 v w k) w fun y w=>
 pickS q (.bool true) y w fun z w=>
 cndS z (
 K (.tuple #[(.int .u8 ((3:Nat):Int)),(.slice none 0 0)]) w) (
 bM .mul 3 (ci 2) (.tmp 42) (.int .i64 2) m w fun a0 w=>
 ev prog (Instr.makeSlice 58 a0 a0) w fun a1 w=>
 lN 58 a1 w fun a2 w=>
 f151_l1 K x0 c i m a1 a2 (.int .i64 0) w))
theorem f151_call (x0:Value) (K:K1) (w:World) (h:f151_t x0 K w):callS prog 151 #[x0] w K:=
 call_of_txt (args:= [x0]) mixed Tryz.func151 f151_u.2 kR (cast kR h)
def lgF (T:Nat) (i:Nat):Value:= [Value.iface 31 (.pointer (some ⟨T,0,none⟩)),.int .u64 ((0:Nat):Int),.int .u64 ((1664:Nat):Int)].getD i undef
section
variable {w w':World} {Y:Lay} {D:DS} {T B:Nat}
theorem k_handle (h:Dv w Y D) (g:Good D) (h26:26≤D.n) (hT:Y.tb 0=T) (K:K1) (hK:∀B w',Ext w w'→w.heap.size≤B→Cells w' B 171 3 (lgF T)→K (.tuple #[.pointer (some ⟨B,0,none⟩),.int .i64 0]) w'):
  callS prog 112 #[.iface 31 (.pointer (some ⟨T,0,none⟩)),.int .i64 0,.int .i64 26] w K:=by
 subst hT
 have hn:=g.n
 have hsz:∀(w1:World) (K:K1),Ext w w1→callS prog 105 #[.pointer (some ⟨Y.tb 0,0,none⟩)] w1 K=K (.int .u64 ((D.n*64:Nat):Int)) w1:=fun w1 K e=>c_TSize (h.ext e) g 0 oM K
 have e1:D.n*64/64=D.n:=by omega
 refine f112_call _ _ _ _ _ ?_
 unfold f112_t
 simp (disch:=try exact dX) only [↓RBp,↓RA,↓reduceIte,Nat.reduceAdd,Nat.reduceMul,Nat.reduceEqDiff,RB,RX,RA2,hsz,e1]
 refine hK _ _ xZ (Nat.le_refl _) ?_
 exact Cells.new w [Value.iface 31 (.pointer (some ⟨Y.tb 0,0,none⟩)),.int .u64 ((0:Nat):Int),.int .u64 ((1664:Nat):Int)] 171
theorem k_ROpen (h:Dv w Y D) (g:Good D) (h26:26≤D.n) (hT:Y.tb 0=T) (K:K1) (hK:∀B w',Ext w w'→w.heap.size≤B→Cells w' B 171 3 (lgF T)→K (.tuple #[.pointer (some ⟨B,0,none⟩),.int .i64 0]) w'):
  callS prog 107 #[.iface 31 (.pointer (some ⟨T,0,none⟩)),.int .i64 0,.int .i64 26] w K:=by
 refine f107_call _ _ _ _ _ ?_
 unfold f107_t
 refine k_handle h g h26 hT _ (fun B w1 e1 hB hC=> ?_)
 simp (disch:=try exact dZ) only [↓RBp,↓RA,↓reduceIte,Nat.reduceAdd,Nat.reduceMul,Nat.reduceEqDiff,RB,RX,RA2]
 exact hK B w1 e1 hB hC
theorem k_mark (hC:Cells w B 171 3 (lgF T)) (x:Nat) (hx:x<18446744073709551616) (K:K1) (hK:∀v' w',SlO w' 220 3 v' (storesI [(0,x)]).length (inL (storesI [(0,x)]))→Ext w w'→NewV w.heap.size v'→K v' w'):
  callS prog 113 #[.pointer (some ⟨B,0,none⟩),.int .u64 (x:Int)] w K:=by
 have q1:w.cell? ⟨B,1,none⟩=some (.int .u64 ((0:Nat):Int)):=hC.cell (i:=1) oM
 have ltB:=hC.lt
 refine f113_call _ _ _ _ ?_
 unfold f113_t
 simp (disch:=try exact dZ) only [↓RBp,↓RA,↓reduceIte,Nat.reduceAdd,Nat.reduceMul,Nat.reduceEqDiff,RB,RX,RA2,q1]
 refine k_Stores [(0,x)] _ ?_ (by simp) (by simp) ?_ _ (fun v' w' hs he hn=> ?_)
 ·exact SlO.lit' _ 98 2 1 (wrL [(0,x)]) rfl (by decide) (by simp only [RZ])
 ·intro y hy;simp only [List.mem_singleton] at hy;subst hy;simp only;omega
 ·exact hK v' w' hs (Ext.trans xZ he) (fun b hb=>Nat.le_trans (by simp only [RZ];omega) (hn b hb))
theorem k_finish (hC:Cells w B 171 3 (lgF T)) {v:Value} {ws:List (Nat×Nat)} (hS:SlO w 98 2 v ws.length (wrL ws)) (h0:0<ws.length) (hl:ws.length≤1000) (hw:∀x∈ws,x.1<18446744073709551616) (K:K1) (hK:∀v' w',SlO w' 220 3 v' (storesI ws++storesI [(0,0)]).length (inL (storesI ws++storesI [(0,0)]))→Ext w w'→NewV w.heap.size v'→K v' w'):
  callS prog 128 #[.pointer (some ⟨B,0,none⟩),v] w K:=by
 have hp1:=storesI_pos ws
 have hp2:=storesI_pos [((0:Nat),(0:Nat))]
 have hl1:=storesI_le ws
 have hl2:=storesI_le [((0:Nat),(0:Nat))]
 simp only [List.length_singleton] at hl2
 refine f128_call _ _ _ _ ?_
 unfold f128_t
 refine k_Stores ws v hS h0 oM hw _ (fun v1 w1 hs1 e1 n1=> ?_)
 simp (disch:=try exact dZ) only [↓RBp,↓RA,↓reduceIte,Nat.reduceAdd,Nat.reduceMul,Nat.reduceEqDiff,RB,RX,RA2]
 refine k_mark (hC.ext e1) 0 oM _ (fun v2 w2 hs2 e2 n2=> ?_)
 simp (disch:=try exact dZ) only [↓RBp,↓RA,↓reduceIte,Nat.reduceAdd,Nat.reduceMul,Nat.reduceEqDiff,RB,RX,RA2]
 refine k_Then _ _ v1 v2 (hs1.ext e2) hs2 hp1 hp2 oM oM _ (fun v3 w3 hs3 e3 n3=> ?_)
 exact hK v3 w3 hs3 (e1.trans (e2.trans e3)) (fun b hb=>Nat.le_trans (e1.trans e2).size (n3 b hb))
theorem k_RFormat (h:Dv w Y D) (g:Good D) (on:On D) (h26:26≤D.n) (hx:D.exe<1000000000) (hT:Y.tb 0=T) (K:K1) (hK:∀w' Y',Stp w Y w' Y' (D.run 0 (storesI [(0,0)]))→K (.int .i64 0) w'):
  callS prog 62 #[.iface 31 (.pointer (some ⟨T,0,none⟩)),.int .i64 0,.int .i64 26] w K:=by
 have her:∀(w1:World) (K:K1),Ext w w1→callS prog 28 #[.pointer (some ⟨T,0,none⟩)] w1 K=K (.int .i64 0) w1:=fun w1 K e=>by rw [←hT,c_Err (h.ext e) 0 oM K,on.err]
 have ho:=(On.stores on [(0,0)] (fun x hx=>by simp only [List.mem_singleton] at hx;subst hx;exact ⟨rfl,by show 0<D.n*64;omega⟩)).1
 have hl2:=storesI_le [((0:Nat),(0:Nat))]
 simp only [List.length_singleton] at hl2
 refine f62_call _ _ _ _ _ ?_
 unfold f62_t
 refine k_handle h g h26 hT _ (fun B w1 e1 hB hC=> ?_)
 simp (disch:=try exact dX) only [↓RBp,↓RA,↓reduceIte,Nat.reduceAdd,Nat.reduceMul,Nat.reduceEqDiff,RB,RX,RA2,her]
 refine k_mark hC 0 oM _ (fun v2 w2 hs2 e2 n2=> ?_)
 simp (disch:=try exact dZ) only [↓RBp,↓RA,↓reduceIte,Nat.reduceAdd,Nat.reduceMul,Nat.reduceEqDiff,RB,RX,RA2]
 have e12:=e1.trans e2
 have hrun:=fun K hK=>k_Run (h.ext e12) g 0 oM (storesI [(0,0)]) v2 hs2 (fun b hb hf=>by have h1:=h.lt hf;have h2:=n2 b hb;have:=e1.size;omega) (okI_stores (fun x hx=>by simp only [List.mem_singleton] at hx;subst hx;simp only;omega)) oM K hK
 rw [ho.err,hT] at hrun
 refine hrun _ (fun w3 Y3 st=> ?_)
 exact hK w3 Y3 (Stp.pre e12 (fun x hx=>h.lt hx) st)
end
def stW:Nat→Nat→Nat→Nat
 |r,_,0=>r
 |r,x,n+1=>stW (stepN r (x%256)) (x/2^8) n
def fdW (L:List Nat):Nat:=L.foldl (fun r x=>stW r x 8) 4294967295
def crcW (L:List Nat):Nat:=4294967295^^^fdW L
theorem u64L_get {l:List Nat} {k:Nat} (h:k<l.length):(u64L l)[k]? =some (.int .u64 ((l[k]:Nat):Int)):=by simp [u64L,u64,h]
theorem stW_lt:∀(n r x:Nat),r<4294967296→stW r x n<4294967296
 |0,r,x,h=>h
 |n+1,r,x,h=>stW_lt n _ _ (stepN_lt r (x%256) h oM)
theorem fdW_lt:∀(L:List Nat) (r:Nat),r<4294967296→L.foldl (fun r x=>stW r x 8) r<4294967296
 | [],r,h=>h
 |x::L,r,h=>fdW_lt L _ (stW_lt 8 r x h)
theorem crcW_lt (L:List Nat):crcW L<4294967296:=Nat.xor_lt_two_pow (n:=32) (by decide) (fdW_lt L _ (by decide))
section
variable {w w':World} {Y:Lay} {D:DS} {T B:Nat}
theorem k_cWords (hG:Glob w) (L:List Nat) (v:Value) {m:Nat} (hL:RdS m w v (u64L L)) (hx:∀x∈L,x<18446744073709551616) (hl:L.length<1073741824) (K:K1) (hK:∀w',Ext w w'→K (.int .u32 ((crcW L:Nat):Int)) w'):
  callS prog 127 #[v] w K:=by
 have ll:(u64L L).length=L.length:=by simp [u64L]
 obtain ⟨a,cap,rfl,_⟩:=id hL
 rw [ll] at hL ⊢
 refine f127_call _ _ _ ?_
 unfold f127_t
 simp (disch:=try exact dZ) only [↓RBp,↓RA,↓reduceIte,Nat.reduceAdd,Nat.reduceMul,Nat.reduceEqDiff,RB,RX,RA2]
 apply f127_l1_rule (I:=fun r z w'=>∃j:Nat,z= .int .i64 (j:Int)∧j≤L.length∧r= .int .u32 (((L.take j).foldl (fun r x=>stW r x 8) 4294967295:Nat):Int)∧Ext w w') (μ:=fun _ z _=>L.length-(intOf z).toNat)
 ·exact ⟨0,rfl,by omega,rfl,Ext.refl _⟩
 ·intros;rename_i w1 hI E1 hE
  obtain ⟨j,rfl,hj,rfl,e1⟩:=hI
  by_cases hjl:j<L.length
  ·obtain ⟨sb,so,sc,ev1,hc⟩:=(hL.ext e1).get (u64L_get hjl)
   injection ev1 with ev1 _ ev2;subst ev1;subst ev2
   have hxj:=hx L[j] (List.getElem_mem hjl)
   have ht:(L.take (j+1)).foldl (fun r x=>stW r x 8) 4294967295=stW ((L.take j).foldl (fun r x=>stW r x 8) 4294967295) L[j] 8:=by
    rw [List.take_succ_eq_append_getElem hjl,List.foldl_append];rfl
   have hr:=fdW_lt (L.take j) 4294967295 (by decide)
   generalize (L.take j).foldl (fun r x=>stW r x 8) 4294967295=r at*
   generalize L[j]=x at*
   unfold f127_l1_t
   simp (disch:=try exact dZ) only [↓RBp,↓RA,↓reduceIte,Nat.reduceAdd,Nat.reduceMul,Nat.reduceEqDiff,RB,RX,RA2,hc]
   apply f127_l2_rule (I:=fun a b z w'=>∃i r' x':Nat,z= .int .i64 (i:Int)∧i≤8∧a= .int .u32 (r':Int)∧b= .int .u64 (x':Int)∧r'<4294967296∧x'<18446744073709551616∧stW r' x' (8-i)=stW r x 8∧Ext w w') (μ:=fun _ _ z _=>8-(intOf z).toNat)
   ·exact ⟨0,r,x,rfl,by omega,rfl,rfl,hr,hxj,rfl,e1⟩
   ·intros;rename_i w2 hI E2 hE2
    obtain ⟨i,r',x',rfl,hi,rfl,rfl,hr',hx',hst,e2⟩:=hI
    have hG2:=hG.ext e2
    unfold f127_l2_t
    by_cases hi8:i<8
    ·have hst':stW (stepN r' (x'%256)) (x'/2^8) (8-(i+1))=stW r x 8:=by
      rw [←hst,show 8-i=(8-(i+1))+1 by omega];rfl
     have hs:=stepN_lt r' (x'%256) hr' oM
     have hq:x'/2^8<18446744073709551616:=by omega
     simp (disch:=try exact dZ) only [↓RBp,↓RA,↓reduceIte,Nat.reduceAdd,Nat.reduceMul,Nat.reduceEqDiff,RB,RX,RA2,c_step _ _ _ _ hG2 hr']
     apply hE2
     ·exact ⟨i+1,_,_,by simp,by omega,rfl,rfl,hs,hq,hst',e2⟩
     ·simp [intOf];omega
    ·have:i=8:=by omega
     subst this
     simp (disch:=try exact dZ) only [↓RBp,↓RA,↓reduceIte,Nat.reduceAdd,Nat.reduceMul,Nat.reduceEqDiff,RB,RX,RA2,f127_k2_eq,f127_k2_t]
     apply hE
     ·exact ⟨j+1,by simp,by omega,by rw [ht,←hst];rfl,e2⟩
     ·simp [intOf];omega
  ·have:j=L.length:=by omega
   subst this
   have hr:(L.take L.length).foldl (fun r x=>stW r x 8) 4294967295<4294967296:=fdW_lt _ _ (by decide)
   have hcr:4294967295^^^(L.take L.length).foldl (fun r x=>stW r x 8) 4294967295=crcW L:=by rw [List.take_length];rfl
   generalize (L.take L.length).foldl (fun r x=>stW r x 8) 4294967295=r at*
   unfold f127_l1_t
   simp (disch:=try exact dZ) only [↓RBp,↓RA,↓reduceIte,Nat.reduceAdd,Nat.reduceMul,Nat.reduceEqDiff,RB,RX,RA2,f127_k1_eq,f127_k1_t,hcr]
   exact hK _ e1
theorem k_allowed (h:Dv w Y D) (g:Good D) (h26:26≤D.n) (hT:Y.tb 0=T) (hC:Cells w B 171 3 (lgF T)) (x:Nat) (hx:x<18446744073709551616) (K:K1) (hK:∀w',Ext w w'→K (.bool (decide (x%8=0)&&(decide (x<D.n*64)&&decide (1664≤x)))) w'):
  callS prog 125 #[.pointer (some ⟨B,0,none⟩),.int .u64 (x:Int)] w K:=by
 have hn:=g.n
 have q0:w.cell? ⟨B,0,none⟩=some (.iface 31 (.pointer (some ⟨T,0,none⟩))):=hC.cell (i:=0) oM
 have q1:w.cell? ⟨B,1,none⟩=some (.int .u64 ((0:Nat):Int)):=hC.cell (i:=1) oM
 have q2:w.cell? ⟨B,2,none⟩=some (.int .u64 ((1664:Nat):Int)):=hC.cell (i:=2) oM
 have hsz:∀(w1:World) (K:K1),Ext w w1→callS prog 105 #[.pointer (some ⟨T,0,none⟩)] w1 K=K (.int .u64 ((D.n*64:Nat):Int)) w1:=fun w1 K e=>by rw [←hT];exact c_TSize (h.ext e) g 0 oM K
 refine f125_call _ _ _ _ ?_
 unfold f125_t
 by_cases h8:x%8=0
 ·by_cases h2:x<D.n*64
  ·by_cases h3:1664≤x
   ·simp (disch:=try exact dX) only [↓RBp,↓RA,↓reduceIte,Nat.reduceAdd,Nat.reduceMul,Nat.reduceEqDiff,RB,RX,RA2,q0,q1,q2,hsz,h8,h2,h3]
    rw [decide_eq_true h8,decide_eq_true h2,decide_eq_true h3] at hK
    exact hK _ xZ
   ·simp (disch:=try exact dX) only [↓RBp,↓RA,↓reduceIte,Nat.reduceAdd,Nat.reduceMul,Nat.reduceEqDiff,RB,RX,RA2,q0,q1,q2,hsz,h8,h2,h3]
    rw [decide_eq_true h8,decide_eq_true h2,decide_eq_false h3] at hK
    exact hK _ xZ
  ·simp (disch:=try exact dX) only [↓RBp,↓RA,↓reduceIte,Nat.reduceAdd,Nat.reduceMul,Nat.reduceEqDiff,RB,RX,RA2,q0,q1,q2,hsz,h8,h2]
   rw [decide_eq_true h8,decide_eq_false h2] at hK
   exact hK _ xZ
 ·simp (disch:=try exact dX) only [↓RBp,↓RA,↓reduceIte,Nat.reduceAdd,Nat.reduceMul,Nat.reduceEqDiff,RB,RX,RA2,q0,q1,q2,hsz,h8]
  rw [decide_eq_false h8] at hK
  exact hK _ xZ
end
theorem mT238:MapT prog .u64 238 (.int .i64 0):=⟨26,3,by kernel_rfl,by kernel_rfl,by kernel_rfl⟩
def lsM (ws:List (Nat×Nat)):Nat→KVL
 |0=> []
 |j+1=>lsM ws j++ [(((ws.getD j (0,0)).1:Int),.int .i64 (j:Int))]
theorem lsM_mem (ws:List (Nat×Nat)):∀(j:Nat) (p:Int×Value),p∈lsM ws j→∃i,i<j∧p=(((ws.getD i (0,0)).1:Int),.int .i64 (i:Int))
 |0,p,h=>by cases h
 |j+1,p,h=>by
  simp only [lsM,List.mem_append,List.mem_singleton] at h
  rcases h with h|h
  ·obtain ⟨i,h1,h2⟩:=lsM_mem ws j p h;exact ⟨i,by omega,h2⟩
  ·exact ⟨j,by omega,h⟩
theorem lsM_of (ws:List (Nat×Nat)):∀(j i:Nat),i<j→(((ws.getD i (0,0)).1:Int),Value.int .i64 (i:Int))∈lsM ws j
 |0,i,h=>by omega
 |j+1,i,h=>by
  simp only [lsM,List.mem_append,List.mem_singleton]
  by_cases e:i=j
  ·exact .inr (by rw [e])
  ·exact .inl (lsM_of ws j i oM)
theorem nd_off {ws:List (Nat×Nat)} (h:(ws.map (·.1)).Nodup) {i j:Nat} (hi:i<ws.length) (hj:j<ws.length) (e:(ws.getD i (0,0)).1=(ws.getD j (0,0)).1):i=j:=by
 have hi':i<(ws.map (·.1)).length:=by simpa using hi
 refine (List.getElem?_inj hi' h).1 ?_
 rw [List.getElem?_map,List.getElem?_map,List.getElem?_eq_getElem hi,List.getElem?_eq_getElem hj]
 simp only [Option.map_some]
 rw [List.getD_eq_getElem?_getD,List.getD_eq_getElem?_getD,List.getElem?_eq_getElem hi,List.getElem?_eq_getElem hj] at e
 rw [show ws[i].1=ws[j].1 from e]
theorem lsM_set {ws:List (Nat×Nat)} (h:(ws.map (·.1)).Nodup) {j:Nat} (hj:j<ws.length):setL (lsM ws j) ((ws.getD j (0,0)).1:Int) (.int .i64 (j:Int))=lsM ws (j+1):=by
 have:getL (lsM ws j) ((ws.getD j (0,0)).1:Int)=none:=getL_none.2 (fun p hp e=>by
  obtain ⟨i,hi,rfl⟩:=lsM_mem ws j p hp
  have:=nd_off h (show i<ws.length by omega) hj (by simp only at e;omega)
  omega)
 unfold setL
 rw [this,if_neg (by simp)]
 rfl
section
variable {w w':World}
theorem k_last (ws:List (Nat×Nat)) (v:Value) (hS:SlO w 98 2 v ws.length (wrL ws)) (hnd:(ws.map (·.1)).Nodup) (hl:ws.length<1073741824) (hw:∀x∈ws,x.1<18446744073709551616) (K:K1)
  (hK:∀a cap w',SlO w' 98 2 (.slice a ws.length cap) ws.length (wrL ws)→Ext w w'→NewV w.heap.size (.slice a ws.length cap)→K (.slice a ws.length cap) w'):callS prog 126 #[v] w K:=by
 obtain ⟨sa,scap,rfl,hsc⟩:=hS.isS'
 refine f126_call _ _ _ ?_
 unfold f126_t
 simp (disch:=try exact dZ) only [↓RBp,↓RA,↓reduceIte,Nat.reduceAdd,Nat.reduceMul,Nat.reduceEqDiff,RB,RX,RA2]
 have e0:Ext w (w.alloc (.map #[] 0)):=Ext.alloc_self _ _
 have hM0:MapK .u64 (w.alloc (.map #[] 0)) w.heap.size []:=MapK.empty (heap_alloc_eq _ _)
 have lt0:w.heap.size<(w.alloc (.map #[] 0)).heap.size:=by simp only [RZ];omega
 apply f126_l1_rule (I:=fun z w'=>∃j:Nat,z= .int .i64 (j:Int)∧j≤ws.length∧MapK .u64 w' w.heap.size (lsM ws j)∧Frm (fun b=>b=w.heap.size) (w.alloc (.map #[] 0)) w') (μ:=fun z _=>ws.length-(intOf z).toNat)
 ·exact ⟨0,rfl,by omega,hM0,Frm.refl _ _⟩
 ·intros;rename_i w2 hI E1 hE
  obtain ⟨j,rfl,hj,hM,hf⟩:=hI
  have hf0:Frm Nob w w2:=(Frm.of_ext e0).trans hf (fun x hx e=>by omega)
  have hS2:=hS.frm hf0 (fun _ _ h=>h)
  have ltM:=hM.lt
  by_cases hjl:j<ws.length
  ·have hset:=lsM_set hnd hjl
   obtain ⟨x,hx⟩:∃x,ws[j]? =some x:=⟨_,List.getElem?_eq_getElem hjl⟩
   have hxw:=hw x (List.mem_of_getElem? hx)
   rw [List.getD_eq_getElem?_getD,hx] at hset
   obtain ⟨xo,xv⟩:=x
   simp only [Option.getD_some] at hset
   have hg:=wrL_get _ _ _ hx
   obtain ⟨b,o,cap,ev1,_⟩:=hS2.isS oM
   injection ev1 with ev1 _ ev2;subst ev1;subst ev2
   have c1:=hS2.cell rfl hg.1
   have c2:=hS2.cell rfl hg.2
   rw [←Nat.add_assoc] at c2
   have lt:=hS2.lt rfl
   unfold f126_l1_t
   simp (disch:=try exact dZ) only [↓RBp,↓RA,↓reduceIte,Nat.reduceAdd,Nat.reduceMul,Nat.reduceEqDiff,RB,RX,RA2,c1,c2]
   refine ac_setK mT238 (hM.ext xZ) _ _ (fun w3 hM3 hf3=> ?_)
   rw [hset] at hM3
   simp (disch:=try exact dZ) only [↓RBp,↓RA,↓reduceIte,Nat.reduceAdd,Nat.reduceMul,Nat.reduceEqDiff,RB,RX,RA2]
   apply hE
   ·refine ⟨j+1,by simp,by omega,hM3,?_⟩
    refine (hf.ext xZ).trans hf3 (fun x _ e=>e)
   ·simp [intOf];omega
  ·have:j=ws.length:=by omega
   subst this
   unfold f126_l1_t
   simp (disch:=try exact dZ) only [↓RBp,↓RA,↓reduceIte,Nat.reduceAdd,Nat.reduceMul,Nat.reduceEqDiff,RB,RX,RA2,f126_k1_eq,f126_k1_t]
   apply f126_l2_rule (I:=fun y z w'=>∃j:Nat,z= .int .i64 (j:Int)∧j≤ws.length∧SlO w' 98 2 y j (wrL (ws.take j))∧Frm Nob w2 w'∧NewV w2.heap.size y) (μ:=fun _ z _=>ws.length-(intOf z).toNat)
   ·exact ⟨0,rfl,by omega,SlO.nil _ _ _,Frm.refl _ _,fun b hb=>by cases hb⟩
   ·intros;rename_i w3 hI E2 hE2
    obtain ⟨j,rfl,hj,sp,hf3,np⟩:=hI
    have e23:=hf3.to_ext (fun _ _ h=>h)
    obtain ⟨pa,pc,rfl,hpc⟩:=sp.isS'
    have hS3:=hS2.ext e23
    have hM3:=hM.ext e23
    have lt3:=hM3.lt
    by_cases hjl:j<ws.length
    ·obtain ⟨x,hx⟩:∃x,ws[j]? =some x:=⟨_,List.getElem?_eq_getElem hjl⟩
     have hxw:=hw x (List.mem_of_getElem? hx)
     have hgl:getL (lsM ws ws.length) ((ws.getD j (0,0)).1:Int)=some (.int .i64 (j:Int)):=getL_of hM.keys (lsM_of ws _ j hjl)
     rw [List.getD_eq_getElem?_getD,hx] at hgl
     obtain ⟨xo,xv⟩:=x
     simp only [Option.getD_some] at hgl
     have hlk:∀(w1:World) (K:K1),Ext w3 w1→ev prog (Instr.lookup 238 (.map (some w.heap.size)) (.int .u64 (xo:Int)) false) w1 K=K (.int .i64 (j:Int)) w1:=fun w1 K e=>by rw [ev_lookupK1 mT238 (hM3.ext e),hgl];rfl
     have hg:=wrL_get _ _ _ hx
     obtain ⟨b,o,cap,ev1,_⟩:=hS3.isS oM
     injection ev1 with ev1 _ ev2;subst ev1;subst ev2
     have c1:=hS3.cell rfl hg.1
     have c2:=hS3.cell rfl hg.2
     rw [←Nat.add_assoc] at c2
     have lt:=hS3.lt rfl
     unfold f126_l2_t
     simp (disch:=try exact dX) only [↓RBp,↓RA,↓reduceIte,Nat.reduceAdd,Nat.reduceMul,Nat.reduceEqDiff,RB,RX,RA2,c1,c2,hlk]
     have et:ws.take (j+1)=ws.take j++ [(xo,xv)]:=take_snoc' hx
     refine app_new elWrite (w0:=w2) (sp.ext xZ) (hf3.ext xZ) np (m:=1) (news:=wrL [(xo,xv)]) (by simp [wrL]) ?_ rfl oM oM oM (fun v' w4 hsp hf4 n4 _ _=> ?_)
     ·intro q u hq
      rw [Nat.zero_add,cell_new _ _ _ _ _ (by simp only [RZ])]
      simpa [wrL,u64] using hq
     simp (disch:=try exact dZ) only [↓RBp,↓RA,↓reduceIte,Nat.reduceAdd,Nat.reduceMul,Nat.reduceEqDiff,RB,RX,RA2,f126_k3_eq,f126_k3_t]
     apply hE2
     ·refine ⟨j+1,by simp,by omega,?_,hf4,n4⟩
      rw [et,wrL_append];exact hsp
     ·simp [intOf];omega
    ·have:j=ws.length:=by omega
     subst this
     rw [List.take_length] at sp
     unfold f126_l2_t
     simp (disch:=try exact dZ) only [↓RBp,↓RA,↓reduceIte,Nat.reduceAdd,Nat.reduceMul,Nat.reduceEqDiff,RB,RX,RA2,f126_k2_eq,f126_k2_t]
     exact hK _ _ w3 sp ((hf0.to_ext (fun _ _ h=>h)).trans e23) (fun b hb=>Nat.le_trans hf0.size (np b hb))
end
def flW:List (Nat×Nat)→List Nat
 | []=> []
 |x::r=>x.1::x.2::flW r
def cmC (ws:List (Nat×Nat)):Nat:=ws.length|||crcW (flW ws)*2^32%18446744073709551616
def rpI (ws:List (Nat×Nat)):List Ins:=if ws= [] then [] else cmI (cmC ws) ws
theorem flW_app:∀(a b:List (Nat×Nat)),flW (a++b)=flW a++flW b
 | [],b=>rfl
 |x::a,b=>by simp only [List.cons_append,flW,flW_app a b]
theorem flW_len:∀(a:List (Nat×Nat)),(flW a).length=2*a.length
 | []=>rfl
 |x::a=>by simp only [flW,List.length_cons,flW_len a];omega
theorem flW_lt:∀(a:List (Nat×Nat)),(∀x∈a,x.1<18446744073709551616∧x.2<18446744073709551616)→∀y∈flW a,y<18446744073709551616
 | [],_,y,hy=>by cases hy
 |x::a,h,y,hy=>by
  simp only [flW,List.mem_cons] at hy
  rcases hy with rfl|rfl|hy
  ·exact (h x (by simp)).1
  ·exact (h x (by simp)).2
  ·exact flW_lt a (fun x hx=>h x (by simp [hx])) y hy
theorem enL_snoc:∀(i:Nat) (a:List (Nat×Nat)) (x:Nat×Nat),enL i (a++ [x])=enL i a++ [(64+16*(i+a.length),x.1),(64+16*(i+a.length)+8,x.2)]
 |i,[],x=>rfl
 |i,y::a,x=>by
  simp only [List.cons_append,enL,enL_snoc (i+1) a x,List.length_cons]
  rw [show i+1+a.length=i+(a.length+1) by omega]
theorem cmC_lt {ws:List (Nat×Nat)} (h:ws.length≤96):cmC ws<18446744073709551616:=Nat.or_lt_two_pow (n:=64) oM oM
section
variable {w w':World} {Y:Lay} {D:DS} {T B:Nat}
theorem RdS.of_slR {w:World} {v:Value} {L:List Value} {t:TypeId} (h:SlO w t 1 v L.length L):RdS w.heap.size w v L:=by
 obtain ⟨a,cap,hv,_⟩:=h.isS'
 subst hv
 refine ⟨a,cap,rfl,?_⟩
 rcases Nat.eq_zero_or_pos L.length with e|e
 ·exact .inl (List.eq_nil_of_length_eq_zero e)
 ·obtain ⟨b,o,c,ev,_⟩:=h.isS e
  injection ev with e1 _ e3
  subst e1;subst e3
  exact .inr ⟨b,o,rfl,h.lt rfl,fun j u hj=>h.cell rfl hj⟩
theorem rp_k2 (hC:Cells w B 171 3 (lgF T)) (hG:Glob w) (ws:List (Nat×Nat)) {v u x:Value} (hS:SlO w 98 2 v ws.length (wrL ws)) (h0:0<ws.length) (hl:ws.length≤96) (hw:∀x∈ws,x.1<4194304∧x.2<18446744073709551616) (hu:SlO w 98 2 u (2*ws.length) (wrL (enL 0 ws))) (hx:SlO w 26 1 x (2*ws.length) (u64L (flW ws))) (K:K1)
  (hK:∀v' w',Ext w w'→NewV w.heap.size v'→SlO w' 220 3 v' (cmI (cmC ws) ws).length (inL (cmI (cmC ws) ws))→K (.tuple #[v',.int .i64 0]) w'):
  f71_k2 K (.pointer (some ⟨B,0,none⟩)) v u x w:=by
 have hel:=enL_len 0 ws
 have hfl:=flW_len ws
 have hfw:∀y∈flW ws,y<18446744073709551616:=flW_lt ws (fun x hx=>⟨by have:=hw x hx;omega,(hw x hx).2⟩)
 have hcl:=crcW_lt (flW ws)
 have hcc:=cmC_lt hl
 have hc2:crcW (flW ws)*2^32<18446744073709551616:=by omega
 have h1:=storesI_pos (enL 0 ws)
 have h2:=storesI_pos [((0:Nat),cmC ws)]
 have h3:=storesI_le (enL 0 ws)
 have h4:=storesI_le [((0:Nat),cmC ws)]
 have h5:=storesI_le ws
 have h6:=storesI_le [((0:Nat),(0:Nat))]
 have hcm:ws.length|||crcW (flW ws)*2^32%18446744073709551616=cmC ws:=rfl
 have hew:∀y∈enL 0 ws,y.1<18446744073709551616:=fun y hy=>by
  obtain ⟨h1,_⟩:=enL_mem hy;omega
 have hww:∀y∈ws,y.1<18446744073709551616:=fun y hy=>by have:=hw y hy;omega
 simp only [List.length_singleton] at h4 h6
 rw [hel] at h3
 rw [←hel] at hu
 obtain ⟨va,vc,rfl,hvc⟩:=hS.isS'
 have hr:RdS w.heap.size w x (u64L (flW ws)):=RdS.of_slR (by rw [show (u64L (flW ws)).length=2*ws.length by simp [u64L,hfl]];exact hx)
 rw [f71_k2_eq]
 unfold f71_k2_t
 simp (disch:=try exact dZ) only [↓RBp,↓RA,↓reduceIte,Nat.reduceAdd,Nat.reduceMul,Nat.reduceEqDiff,RB,RX,RA2]
 refine k_cWords hG _ x hr hfw oM _ (fun w1 e1=> ?_)
 simp (disch:=try exact dZ) only [↓RBp,↓RA,↓reduceIte,Nat.reduceAdd,Nat.reduceMul,Nat.reduceEqDiff,RB,RX,RA2,hcm]
 refine k_Stores (enL 0 ws) _ (hu.ext e1) oM oM hew _ (fun v2 w2 s2 e2 n2=> ?_)
 have e02:=e1.trans e2
 simp (disch:=try exact dZ) only [↓RBp,↓RA,↓reduceIte,Nat.reduceAdd,Nat.reduceMul,Nat.reduceEqDiff,RB,RX,RA2]
 refine k_mark (hC.ext e02) (cmC ws) hcc _ (fun v3 w3 s3 e3 n3=> ?_)
 have e03:=e02.trans e3
 simp (disch:=try exact dZ) only [↓RBp,↓RA,↓reduceIte,Nat.reduceAdd,Nat.reduceMul,Nat.reduceEqDiff,RB,RX,RA2]
 refine k_Then _ _ v2 v3 (s2.ext e3) s3 h1 h2 oM oM _ (fun v4 w4 s4 e4 n4=> ?_)
 have e04:=e03.trans e4
 simp (disch:=try exact dZ) only [↓RBp,↓RA,↓reduceIte,Nat.reduceAdd,Nat.reduceMul,Nat.reduceEqDiff,RB,RX,RA2]
 refine k_finish (hC.ext e04) (hS.ext e04) h0 oM hww _ (fun v5 w5 s5 e5 n5=> ?_)
 have e05:=e04.trans e5
 simp (disch:=try exact dZ) only [↓RBp,↓RA,↓reduceIte,Nat.reduceAdd,Nat.reduceMul,Nat.reduceEqDiff,RB,RX,RA2]
 refine k_Then _ _ v4 v5 (s4.ext e5) s5 (by rw [List.length_append];omega) (by rw [List.length_append];have:=storesI_pos ws;omega) (by rw [List.length_append];omega) (by rw [List.length_append];omega) _ (fun v6 w6 s6 e6 n6=> ?_)
 exact hK v6 w6 (e05.trans e6) (fun b hb=>Nat.le_trans e05.size (n6 b hb)) s6
theorem rp_l2 (hC:Cells w B 171 3 (lgF T)) (hG:Glob w) (ws:List (Nat×Nat)) {a:Option Addr} {cap:Nat} (hS:SlO w 98 2 (.slice a ws.length cap) ws.length (wrL ws)) (h0:0<ws.length) (hl:ws.length≤96) (hw:∀x∈ws,x.1<4194304∧x.2<18446744073709551616) (K:K1)
  (hK:∀v' w',Ext w w'→NewV w.heap.size v'→SlO w' 220 3 v' (cmI (cmC ws) ws).length (inL (cmI (cmC ws) ws))→K (.tuple #[v',.int .i64 0]) w'):
  f71_l2 K (.pointer (some ⟨B,0,none⟩)) (.slice a ws.length cap) (.slice none 0 0) (.slice none 0 0) (.slice a ws.length cap) (.int .i64 (ws.length:Int)) (.int .i64 0) w:=by
 apply f71_l2_rule (I:=fun x y z w'=>∃j:Nat,z= .int .i64 (j:Int)∧j≤ws.length∧SlO w' 98 2 x (2*j) (wrL (enL 0 (ws.take j)))∧SlO w' 26 1 y (2*j) (u64L (flW (ws.take j)))∧Frm Nob w w'∧NewV w.heap.size x∧NewV w.heap.size y∧(∀b,x.ownBlock=some b→y.ownBlock≠some b)) (μ:=fun _ _ z _=>ws.length-(intOf z).toNat)
 ·exact ⟨0,rfl,by omega,SlO.nil _ _ _,SlO.nil _ _ _,Frm.refl _ _,fun b hb=>(by cases hb),fun b hb=>(by cases hb),fun b hb=>(by cases hb)⟩
 ·intros;rename_i w2 hI E1 hE
  obtain ⟨j,rfl,hj,sx,sy,hf,nx,ny,hd⟩:=hI
  have e2:=hf.to_ext (fun _ _ h=>h)
  obtain ⟨xa,xc,rfl,hxc⟩:=sx.isS'
  obtain ⟨ya,yc,rfl,hyc⟩:=sy.isS'
  by_cases hjl:j<ws.length
  ·obtain ⟨x,hx⟩:∃x,ws[j]? =some x:=⟨_,List.getElem?_eq_getElem hjl⟩
   have hxw:=hw x (List.mem_of_getElem? hx)
   have et:ws.take (j+1)=ws.take j++ [x]:=take_snoc' hx
   have hee:wrL (enL 0 (ws.take (j+1)))=(wrL (enL 0 (ws.take j))++wrL [(64+j*16,x.1)])++wrL [(64+j*16+8,x.2)]:=by
    rw [et,enL_snoc,List.length_take,Nat.min_eq_left oM,Nat.zero_add,Nat.mul_comm 16 j,←wrL_append,←wrL_append,List.append_assoc];rfl
   have hff:u64L (flW (ws.take (j+1)))=u64L (flW (ws.take j))++u64L [x.1,x.2]:=by
    rw [et,flW_app];simp only [u64L,List.map_append];rfl
   obtain ⟨xo,xv⟩:=x
   simp only at hxw hee hff
   have hS2:=hS.ext e2
   have hg:=wrL_get _ _ _ hx
   obtain ⟨b,o,cap,ev1,_⟩:=hS2.isS oM
   injection ev1 with ev1 _ ev2;subst ev1;subst ev2
   have c1:=hS2.cell rfl hg.1
   have c2:=hS2.cell rfl hg.2
   rw [←Nat.add_assoc] at c2
   have lt:=hS2.lt rfl
   have q1:w2.cell? ⟨B,1,none⟩=some (.int .u64 ((0:Nat):Int)):=(hC.ext e2).cell (i:=1) oM
   have ltB:=lt_of_cell q1
   have ltx:∀b,(Value.slice xa (2*j) xc).ownBlock=some b→b<w2.heap.size:=fun b hb=>sx.lt hb
   have lty:∀b,(Value.slice ya (2*j) yc).ownBlock=some b→b<w2.heap.size:=fun b hb=>sy.lt hb
   unfold f71_l2_t
   simp (disch:=try exact dZ) only [↓RBp,↓RA,↓reduceIte,Nat.reduceAdd,Nat.reduceMul,Nat.reduceEqDiff,RB,RX,RA2,c1,c2,q1]
   refine app_new elWrite (w0:=w) (sx.ext xZ) (hf.ext xZ) nx (m:=1) (news:=wrL [(64+j*16,xo)]) (by simp [wrL]) ?_ rfl oM oM oM (fun v3 w3 s3 f3 n3 r3 b3=> ?_)
   ·intro q u hq
    rw [Nat.zero_add,cell_new _ _ _ _ _ (by simp only [RZ])]
    simpa [wrL,u64] using hq
   obtain ⟨xa',xc',rfl,hxc'⟩:=s3.isS'
   have c3:w3.cell? ⟨w2.heap.size,0,none⟩=some (.int .u64 (xo:Int)):=by
    rw [r3.cell _ _ (by simp only [RZ];omega) (fun e=>by have:=ltx _ e;omega),cell_old _ _ _ _ (by simp only [RZ];omega),cell_new _ _ _ _ _ rfl];rfl
   have c4:w3.cell? ⟨w2.heap.size,1,none⟩=some (.int .u64 (xv:Int)):=by
    rw [r3.cell _ _ (by simp only [RZ];omega) (fun e=>by have:=ltx _ e;omega),cell_old _ _ _ _ (by simp only [RZ];omega),cell_new _ _ _ _ _ rfl];rfl
   have lt3:w2.heap.size<w3.heap.size:=by have:=r3.size;simp only [RZ] at this;omega
   have sy3:SlO w3 26 1 (.slice ya (2*j) yc) (2*j) (u64L (flW (ws.take j))):=(sy.ext xZ).frm r3 (fun b hb e=>hd b e hb)
   have hd3:∀b,(Value.slice xa' (2*j+1) xc').ownBlock=some b→(Value.slice ya (2*j) yc).ownBlock≠some b:=by
    intro b hb e
    rcases b3 b hb with h1|h1
    ·exact hd b h1 e
    ·have:=sy.lt e;simp only [RZ] at h1;omega
   have lx3:∀b,(Value.slice xa' (2*j+1) xc').ownBlock=some b→b≠w2.heap.size:=fun b hb e=>by
    rcases b3 b hb with h1|h1
    ·have:=ltx b h1;omega
    ·simp only [RZ] at h1;omega
   simp (disch:=try exact dZ) only [↓RBp,↓RA,↓reduceIte,Nat.reduceAdd,Nat.reduceMul,Nat.reduceEqDiff,RB,RX,RA2,c3,c4]
   refine app_new elWrite (w0:=w) (s3.ext xZ) (f3.ext xZ) n3 (m:=1) (news:=wrL [(64+j*16+8,xv)]) (by simp [wrL]) ?_ rfl oM oM oM (fun v4 w4 s4 f4 n4 r4 b4=> ?_)
   ·intro q u hq
    rw [Nat.zero_add,cell_new _ _ _ _ _ (by simp only [RZ])]
    simpa [wrL,u64] using hq
   obtain ⟨xa2,xc2,rfl,hxc2⟩:=s4.isS'
   have c5:w4.cell? ⟨w2.heap.size,0,none⟩=some (.int .u64 (xo:Int)):=by
    rw [r4.cell _ _ (by simp only [RZ];omega) (fun e=>lx3 _ e rfl),cell_old _ _ _ _ oM];exact c3
   have c6:w4.cell? ⟨w2.heap.size,1,none⟩=some (.int .u64 (xv:Int)):=by
    rw [r4.cell _ _ (by simp only [RZ];omega) (fun e=>lx3 _ e rfl),cell_old _ _ _ _ oM];exact c4
   have lt4:w3.heap.size<w4.heap.size:=by have:=r4.size;simp only [RZ] at this;omega
   have sy4:SlO w4 26 1 (.slice ya (2*j) yc) (2*j) (u64L (flW (ws.take j))):=(sy3.ext xZ).frm r4 (fun b hb e=>hd3 b e hb)
   have hd4:∀b,(Value.slice xa2 (2*j+1+1) xc2).ownBlock=some b→(Value.slice ya (2*j) yc).ownBlock≠some b:=by
    intro b hb e
    rcases b4 b hb with h1|h1
    ·exact hd3 b h1 e
    ·have:=sy3.lt e;simp only [RZ] at h1;omega
   simp (disch:=try exact dZ) only [↓RBp,↓RA,↓reduceIte,Nat.reduceAdd,Nat.reduceMul,Nat.reduceEqDiff,RB,RX,RA2,c5,c6]
   refine app_new el_58_58 (w0:=w) (sy4.ext xZ) (f4.ext xZ) ny (m:=2) (news:=u64L [xo,xv]) (by simp [u64L]) ?_ rfl oM oM oM (fun v5 w5 s5 f5 n5 r5 b5=> ?_)
   ·intro q u hq
    rw [Nat.zero_add,cell_new _ _ _ _ _ (by simp only [RZ])]
    simpa [u64L,u64] using hq
   obtain ⟨ya2,yc2,rfl,hyc2⟩:=s5.isS'
   simp (disch:=try exact dZ) only [↓RBp,↓RA,↓reduceIte,Nat.reduceAdd,Nat.reduceMul,Nat.reduceEqDiff,RB,RX,RA2]
   apply hE
   ·refine ⟨j+1,by simp,by omega,?_,?_,f5,n4,n5,?_⟩
    ·rw [hee]
     exact (s4.ext xZ).frm r5 (fun b hb e=>hd4 b hb e)
    ·rw [hff];exact s5
    ·intro b hb e
     rcases b5 b e with h1|h1
     ·exact hd4 b hb h1
     ·have:=s4.lt hb;simp only [RZ] at h1;omega
   ·simp [intOf];omega
  ·have:j=ws.length:=by omega
   subst this
   rw [List.take_length] at sx sy
   unfold f71_l2_t
   simp (disch:=try exact dZ) only [↓RBp,↓RA,↓reduceIte,Nat.reduceAdd,Nat.reduceMul,Nat.reduceEqDiff,RB,RX,RA2]
   exact rp_k2 (hC.ext e2) (hG.ext e2) ws (hS.ext e2) h0 hl hw sx sy K (fun v' w' e n s=>hK v' w' (e2.trans e) (fun b hb=>Nat.le_trans e2.size (n b hb)) s)
theorem rp_k1 (h:Dv w Y D) (g:Good D) (hG:Glob w) (h26:26≤D.n) (hT:Y.tb 0=T) (hC:Cells w B 171 3 (lgF T)) (hid:D.err 0=0→D.off=false∧D.cur 0=0) (ws:List (Nat×Nat)) (v:Value) (hS:SlO w 98 2 v ws.length (wrL ws)) (hnd:(ws.map (·.1)).Nodup) (hl:ws.length<1073741824) (hok:∀x∈ws,x.1%8=0∧x.1<D.n*64∧1664≤x.1∧x.2<18446744073709551616) (K:K1)
  (hlim:96<ws.length→∀w',Ext w w'→K (.tuple #[.slice none 0 0,.int .i64 9]) w')
  (herr:ws.length≤96→D.err 0≠0→∀w',Ext w w'→K (.tuple #[.slice none 0 0,.int .i64 (D.err 0)]) w')
  (hK:ws.length≤96→D.err 0=0→∀v' w',Ext w w'→NewV w.heap.size v'→SlO w' 220 3 v' (rpI ws).length (inL (rpI ws))→K (.tuple #[v',.int .i64 0]) w'):
  f71_k1 K (.pointer (some ⟨B,0,none⟩)) v w:=by
 have hn:=g.n
 have her:∀(w1:World) (K:K1),Ext w w1→callS prog 28 #[.pointer (some ⟨T,0,none⟩)] w1 K=K (.int .i64 (D.err 0)) w1:=fun w1 K e=>by rw [←hT,c_Err (h.ext e) 0 oM K]
 have hld:D.err 0=0→∀(w1:World) (K:K1),Ext w w1→callS prog 32 #[.pointer (some ⟨T,0,none⟩),.int .u64 ((0:Nat):Int)] w1 K=K (.int .u64 ((0:Nat):Int)) w1:=fun he w1 K e=>by
  rw [←hT,c_Load (h.ext e) g 0 oM (hid he).1 0 oM oM K,show 0/8=0 by omega,(hid he).2]
 have q0:w.cell? ⟨B,0,none⟩=some (.iface 31 (.pointer (some ⟨T,0,none⟩))):=hC.cell (i:=0) oM
 have q1:w.cell? ⟨B,1,none⟩=some (.int .u64 ((0:Nat):Int)):=hC.cell (i:=1) oM
 have ltB:=hC.lt
 have hx2:∀x∈ws,x.1<18446744073709551616:=fun x hx=>by have:=hok x hx;omega
 by_cases hlm:96<ws.length
 ·have hlim:=hlim hlm
  simp (disch:=try exact dZ) only [↓RBp,↓RA,↓reduceIte,Nat.reduceAdd,Nat.reduceMul,Nat.reduceEqDiff,RB,RX,RA2,f71_k1_eq,f71_k1_t]
  refine k_last ws _ hS hnd hl hx2 _ (fun ta tcap w3 hS3 e3 n3=> ?_)
  simp (disch:=try exact dZ) only [↓RBp,↓RA,↓reduceIte,Nat.reduceAdd,Nat.reduceMul,Nat.reduceEqDiff,RB,RX,RA2,hlm]
  exact hlim _ e3
 ·have hlm':ws.length≤96:=by omega
  by_cases he:D.err 0=0
  ·have hld:=hld he
   have hK:=hK hlm' he
   rw [he] at her
   by_cases h0:ws= []
   ·subst h0
    simp (disch:=try exact dZ) only [↓RBp,↓RA,↓reduceIte,Nat.reduceAdd,Nat.reduceMul,Nat.reduceEqDiff,RB,RX,RA2,f71_k1_eq,f71_k1_t]
    refine k_last [] _ hS hnd hl hx2 _ (fun ta tcap w3 hS3 e3 n3=> ?_)
    have q0:=e3.cell_some q0
    have q1:=e3.cell_some q1
    have her3:=fun (w1:World) (K:K1) (e:Ext w3 w1)=>her w1 K (e3.trans e)
    have hld3:=fun (w1:World) (K:K1) (e:Ext w3 w1)=>hld w1 K (e3.trans e)
    simp (disch:=try exact dX) only [↓RBp,↓RA,↓reduceIte,Nat.reduceAdd,Nat.reduceMul,Nat.reduceEqDiff,RB,RX,RA2,q0,q1,her3,hld3,List.length_nil]
    exact hK _ _ (e3.trans xZ) (fun b hb=>by cases hb) (SlO.nil _ _ _)
   ·have hp:0<ws.length:=List.length_pos_iff.2 h0
    have hrp:rpI ws=cmI (cmC ws) ws:=by unfold rpI;rw [if_neg h0]
    rw [hrp] at hK
    simp (disch:=try exact dZ) only [↓RBp,↓RA,↓reduceIte,Nat.reduceAdd,Nat.reduceMul,Nat.reduceEqDiff,RB,RX,RA2,f71_k1_eq,f71_k1_t]
    refine k_last ws _ hS hnd hl hx2 _ (fun ta tcap w3 hS3 e3 n3=> ?_)
    have hC3:=hC.ext e3
    have q0:=e3.cell_some q0
    have q1:=e3.cell_some q1
    have her3:=fun (w1:World) (K:K1) (e:Ext w3 w1)=>her w1 K (e3.trans e)
    have hld3:=fun (w1:World) (K:K1) (e:Ext w3 w1)=>hld w1 K (e3.trans e)
    simp (disch:=try exact dX) only [↓RBp,↓RA,↓reduceIte,Nat.reduceAdd,Nat.reduceMul,Nat.reduceEqDiff,RB,RX,RA2,hlm,q0,q1,her3,hld3]
    have hw:∀x∈ws,x.1<4194304∧x.2<18446744073709551616:=fun x hx=>by have:=hok x hx;omega
    have ed:Ext w3 w3.drew:=Ext.drew (Ext.refl _)
    exact rp_l2 (hC3.ext ed) (hG.ext (e3.trans ed)) ws (hS3.ext ed) hp hlm' hw _ (fun v' w' e n s=>hK v' w' (e3.trans (ed.trans e)) (fun b hb=>Nat.le_trans (e3.trans ed).size (n b hb)) s)
  ·have herr:=herr hlm' he
   generalize D.err 0=er at*
   simp (disch:=try exact dZ) only [↓RBp,↓RA,↓reduceIte,Nat.reduceAdd,Nat.reduceMul,Nat.reduceEqDiff,RB,RX,RA2,f71_k1_eq,f71_k1_t]
   refine k_last ws _ hS hnd hl hx2 _ (fun ta tcap w3 hS3 e3 n3=> ?_)
   have q0:=e3.cell_some q0
   have q1:=e3.cell_some q1
   have her3:=fun (w1:World) (K:K1) (e:Ext w3 w1)=>her w1 K (e3.trans e)
   simp (disch:=try exact dX) only [↓RBp,↓RA,↓reduceIte,Nat.reduceAdd,Nat.reduceMul,Nat.reduceEqDiff,RB,RX,RA2,hlm,q0,q1,her3,he]
   exact herr _ (e3.trans xZ)
theorem k_RPlan (h:Dv w Y D) (g:Good D) (hG:Glob w) (h26:26≤D.n) (hT:Y.tb 0=T) (hC:Cells w B 171 3 (lgF T)) (hid:D.err 0=0→D.off=false∧D.cur 0=0) (ws:List (Nat×Nat)) (v:Value) (hS:SlO w 98 2 v ws.length (wrL ws)) (hnd:(ws.map (·.1)).Nodup) (hl:ws.length<1073741824) (hok:∀x∈ws,x.1%8=0∧x.1<D.n*64∧1664≤x.1∧x.2<18446744073709551616) (K:K1)
  (hlim:96<ws.length→∀w',Ext w w'→K (.tuple #[.slice none 0 0,.int .i64 9]) w')
  (herr:ws.length≤96→D.err 0≠0→∀w',Ext w w'→K (.tuple #[.slice none 0 0,.int .i64 (D.err 0)]) w')
  (hK:ws.length≤96→D.err 0=0→∀v' w',Ext w w'→NewV w.heap.size v'→SlO w' 220 3 v' (rpI ws).length (inL (rpI ws))→K (.tuple #[v',.int .i64 0]) w'):
  callS prog 71 #[.pointer (some ⟨B,0,none⟩),v] w K:=by
 have hn:=g.n
 have q0:w.cell? ⟨B,0,none⟩=some (.iface 31 (.pointer (some ⟨T,0,none⟩))):=hC.cell (i:=0) oM
 have ltB:=hC.lt
 obtain ⟨sa,scap,rfl,hsc⟩:=hS.isS'
 refine f71_call _ _ _ _ ?_
 unfold f71_t
 simp (disch:=try exact dZ) only [↓RBp,↓RA,↓reduceIte,Nat.reduceAdd,Nat.reduceMul,Nat.reduceEqDiff,RB,RX,RA2,q0]
 apply f71_l1_rule (I:=fun z w'=>∃j:Nat,z= .int .i64 (j:Int)∧j≤ws.length∧Ext w w') (μ:=fun z _=>ws.length-(intOf z).toNat)
 ·exact ⟨0,rfl,by omega,xZ⟩
 ·intros;rename_i w2 hI E1 hE
  obtain ⟨j,rfl,hj,e2⟩:=hI
  have hS2:=hS.ext e2
  have q0:=e2.cell_some q0
  have ltB:=lt_of_cell q0
  by_cases hjl:j<ws.length
  ·obtain ⟨x,hx⟩:∃x,ws[j]? =some x:=⟨_,List.getElem?_eq_getElem hjl⟩
   have hxw:=hok x (List.mem_of_getElem? hx)
   obtain ⟨xo,xv⟩:=x
   simp only at hxw
   have hg:=wrL_get _ _ _ hx
   obtain ⟨b,o,cap,ev1,_⟩:=hS2.isS oM
   injection ev1 with ev1 _ ev2;subst ev1;subst ev2
   have c1:=hS2.cell rfl hg.1
   have c2:=hS2.cell rfl hg.2
   rw [←Nat.add_assoc] at c2
   have lt:=hS2.lt rfl
   unfold f71_l1_t
   simp (disch:=try exact dZ) only [↓RBp,↓RA,↓reduceIte,Nat.reduceAdd,Nat.reduceMul,Nat.reduceEqDiff,RB,RX,RA2,c1,c2]
   refine k_allowed (h.ext (Ext.trans e2 xZ)) g h26 hT (hC.ext (Ext.trans e2 xZ)) xo oM _ (fun w3 e3=> ?_)
   have e23:Ext w w3:=e2.trans (Ext.trans xZ e3)
   rw [decide_eq_true hxw.1,decide_eq_true hxw.2.1,decide_eq_true hxw.2.2.1]
   simp (disch:=try exact dZ) only [↓RBp,↓RA,↓reduceIte,Nat.reduceAdd,Nat.reduceMul,Nat.reduceEqDiff,RB,RX,RA2,Bool.and_self,Bool.not_true]
   apply hE
   ·exact ⟨j+1,by simp,by omega,e23⟩
   ·simp [intOf];omega
  ·have:j=ws.length:=by omega
   subst this
   unfold f71_l1_t
   simp (disch:=try exact dZ) only [↓RBp,↓RA,↓reduceIte,Nat.reduceAdd,Nat.reduceMul,Nat.reduceEqDiff,RB,RX,RA2]
   exact rp_k1 (h.ext e2) g (hG.ext e2) h26 hT (hC.ext e2) hid ws _ hS2 hnd hl hok K (fun a w' e=>hlim a w' (e2.trans e)) (fun a b w' e=>herr a b w' (e2.trans e)) (fun a b v' w' e n=>hK a b v' w' (e2.trans e) (fun b hb=>Nat.le_trans e2.size (n b hb)))
end
end Go.Proofs.YtmpehclnnjgmcaaGreatDoor
