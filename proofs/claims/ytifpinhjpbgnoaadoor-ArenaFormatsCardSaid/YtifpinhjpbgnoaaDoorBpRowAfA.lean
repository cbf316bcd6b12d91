/-
  Part of the proof in YtifpinhjpbgnoaaDoorBpRowAf.
-/
import Derived.Test.YtifpinhjpbgnoaaDoorBp4
import Derived.Test.YtifpinhjpbgnoaaDoorBp3
import Derived.Laws.BytesString
import Derived.Laws.Strings
import Derived.Test.YtifpinhjpbgnoaaDoorBp1
set_option linter.unusedSimpArgs false
set_option linter.unusedVariables false
set_option maxHeartbeats 4000000
set_option maxRecDepth 100000
open Go.Proofs.Tryd (prog)
open Go.RowKit (intOf)
namespace Go.Proofs.YtifpinhjpbgnoaaDoor
open Go Go.Sh
def sdN (s:Nat):Nat→Nat
 |0=>s
 |k+1=>(sdN s k*6364136223846793005+1442695040888963407)%18446744073709551616
def wsF (s:Nat):Nat→List (Nat×Nat)
 |0=> []
 |k+1=>wsF s k++ [(64*k,sdN s (k+1))]
abbrev foD (s k:Nat):DS:=(DS.zero 100).strs (wsF s k)
abbrev frH:Nat:=sealN (hdX (-1) (-1) 1)
def hW (l0:Nat) (W:Nat→Nat):Nat→Nat→Nat
 |0=>W
 |m+1=>fun j=>if j=(l0+32*m)*8 then frH else hW l0 W m j
section
variable {D:DS} {l0 n m s k l g:Nat}
theorem sdN_lt (hs:s<18446744073709551616):∀k,sdN s k<18446744073709551616
 |0=>hs
 |k+1=>by simp only [sdN];omega
theorem wsF_mem:∀{k:Nat} {x:Nat×Nat},x∈wsF s k→∃i,i<k∧x=(64*i,sdN s (i+1))
 |0,x,h=>by cases h
 |k+1,x,h=>by
  simp only [wsF] at h
  rcases List.mem_append.1 h with h|h
  ·obtain ⟨i,hi,e⟩:=wsF_mem h
   exact ⟨i,by omega,e⟩
  ·simp only [List.mem_singleton] at h
   exact ⟨k,by omega,h⟩
theorem wsF_len (s:Nat):∀k,(wsF s k).length=k
 |0=>rfl
 |k+1=>by simp [wsF,wsF_len s k]
theorem foD_succ (s k:Nat):foD s (k+1)=(foD s k).store 0 (64*k) (sdN s (k+1)):=by
 have e:(wsF s (k+1))[k]? =some (64*k,sdN s (k+1)):=by
  simp only [wsF]
  rw [List.getElem?_append_right (by rw [wsF_len];exact Nat.le_refl _),wsF_len,Nat.sub_self];rfl
 have h:=strs_take (D:=DS.zero 100) e
 have t1:(wsF s (k+1)).take (k+1)=wsF s (k+1):=List.take_of_length_le (by rw [wsF_len];exact Nat.le_refl _)
 have t2:(wsF s (k+1)).take k=wsF s k:=by
  simp only [wsF]
  rw [List.take_append_of_le_length (by rw [wsF_len];exact Nat.le_refl _),List.take_of_length_le (by rw [wsF_len];exact Nat.le_refl _)]
 rw [t1,t2] at h
 exact h
theorem foD_ok (hs:s<18446744073709551616) (hk:k≤100):On (foD s k)∧Good (foD s k)∧(foD s k).n=100∧(foD s k).exe≤k∧J1 (foD s k).co:=by
 have hv:∀x∈wsF s k,x.1%8=0∧x.1<(DS.zero 100).n*64:=fun x hx=>by
  obtain ⟨i,hi,rfl⟩:=wsF_mem hx
  have:(DS.zero 100).n=100:=rfl
  simp only;omega
 have h1:=strs_on (On.zero 100) hv
 refine ⟨h1.1,strs_good (Good.zero 100 (by omega) (by omega)) (fun x hx=> ?_),strs_n _ _,?_,?_⟩
 ·obtain ⟨i,hi,rfl⟩:=wsF_mem hx
  exact ⟨by simp only;omega,sdN_lt hs _⟩
 ·have:=strs_exe (DS.zero 100) (wsF s k)
  rw [wsF_len] at this
  have e:(DS.zero 100).exe=0:=rfl
  show ((DS.zero 100).strs (wsF s k)).exe≤k
  omega
 ·have hz:=On.zero 100
  have hvi:∀i∈(wsF s k).map wrI,vIns (DS.zero 100).n i:=fun i hi=>by
   obtain ⟨x,hx,rfl⟩:=List.mem_map.1 hi
   exact ⟨fun _=>hv x hx,fun h=>by simp [wrI] at h⟩
  have h2:=run_all hz.off hz.err hvi h1.1.err
  have h3:=(run_wr (wsF s k) (DS.zero 100).co (cln_zero 100).j1).1
  rw [←h2.1] at h3
  exact h3
theorem applyH_at:∀(ws:List (Nat×Nat)) (f h:Nat→Nat) (x:Nat),f x=h x→applyH ws f x=applyH ws h x
 | [],f,h,x,e=>e
 |y::ws,f,h,x,e=>by
  rw [applyH_cons,applyH_cons]
  refine applyH_at ws _ _ x ?_
  show (if x=y.1/8 then y.2 else f x)=if x=y.1/8 then y.2 else h x
  by_cases e2:x=y.1/8
  ·rw [if_pos e2,if_pos e2]
  ·rw [if_neg e2,if_neg e2];exact e
theorem J1.fen {C:Co} (h:J1 C):J1 C.fe:=by
 intro x
 show C.cur x=applyH ((C.hist (x/8)).drop (C.due (x/8))) (fun y=>applyH ((C.hist (y/8)).take (C.due (y/8))) C.pers y) x
 rw [applyH_at ((C.hist (x/8)).drop (C.due (x/8))) (fun y=>applyH ((C.hist (y/8)).take (C.due (y/8))) C.pers y) (applyH ((C.hist (x/8)).take (C.due (x/8))) C.pers) x rfl,←applyH_app,List.take_append_drop]
 exact h x
theorem clr_line {C:Co} (h:J1 C) (l g:Nat):J1 (C.run (clrI l g))∧(C.run (clrI l g)).hist l= []∧∀L,L≠l→C.hist L= []→(C.run (clrI l g)).hist L= []:=by
 unfold clrI storesI
 rw [corun_append,corun_append]
 obtain ⟨a,b,c,d,f⟩:=run_wr [(l*64,sealN (hdX (-1) (-1) g))] C h
 obtain ⟨a2,b2,c2,d2,f2,_⟩:=run_fl (cmpN (srtN ([(l*64,sealN (hdX (-1) (-1) g))].map fun x=>lineS x.1))) _ a
 have hmem:=storesI_all (ws:= [(l*64,sealN (hdX (-1) (-1) g))]) (x:=(l*64,sealN (hdX (-1) (-1) g))) (by simp)
 have hn:=f2 _ hmem
 have hl:lineS (l*64)/64=l:=by unfold lineS;omega
 simp only at hn
 rw [hl] at hn
 generalize (C.run ([(l*64,sealN (hdX (-1) (-1) g))].map wrI))=C1 at*
 generalize (C1.run ((cmpN (srtN ([(l*64,sealN (hdX (-1) (-1) g))].map fun x=>lineS x.1))).map flI))=C2 at*
 have e:C2.run [⟨3,0,0⟩]=C2.fe:=rfl
 rw [e]
 refine ⟨a2.fen,?_,fun L hL h0=> ?_⟩
 ·show (C2.hist l).drop (C2.due l)= []
  refine List.drop_eq_nil_of_le ?_
  unfold Co.due
  rw [hn,c2,d2]
  simp only;omega
 ·show (C2.hist L).drop (C2.due L)= []
  have:C2.hist L= []:=by
   rw [c2]
   by_cases h1:C1.hist L= []
   ·exact h1
   ·rcases f L h1 with h2|⟨x,hx,h2⟩
    ·exact absurd h0 h2
    ·simp only [List.mem_singleton] at hx;subst hx
     simp only at h2;omega
  rw [this];exact List.drop_nil
theorem fmt_all (on:On D) (gd:Good D) (hl:l0+32*n≤D.n) (j1:J1 D.co):∀m,m≤n→(fmtD D l0 m).cur=hW l0 D.cur m∧J1 (fmtD D l0 m).co∧(0<m→(fmtD D l0 m).hist l0= [])
 |0,_=>⟨rfl,j1,fun h=>absurd h (Nat.lt_irrefl _)⟩
 |m+1,hm=>by
  obtain ⟨h1,h2,h3⟩:=fmt_all on gd hl j1 m (by omega)
  obtain ⟨o1,g1,n1,_⟩:=fmtD_ok on gd hl m (by omega)
  obtain ⟨o2,_⟩:=fmtD_ok on gd hl (m+1) hm
  have he:((fmtD D l0 m).run 0 (clrI (l0+32*m) 1)).err 0=0:=o2.err
  have hc:=clr_cur o1.off o1.err (l:=l0+32*m) (g:=1) (by omega) he
  have ha:=run_all o1.off o1.err (vIns_clr (l:=l0+32*m) (by omega) 1) he
  have hcl:=clr_line h2 (l0+32*m) 1
  rw [←ha.1] at hcl
  refine ⟨?_,hcl.1,fun _=> ?_⟩
  ·show ((fmtD D l0 m).run 0 (clrI (l0+32*m) 1)).cur=_
   rw [hc.1,h1];rfl
  ·show ((fmtD D l0 m).run 0 (clrI (l0+32*m) 1)).co.hist l0= []
   by_cases e:m=0
   ·subst e;exact hcl.2.1
   ·exact hcl.2.2 l0 (by omega) (h3 (by omega))
theorem fmt_pers (on:On D) (gd:Good D) (hl:l0+32*n≤D.n) (j1:J1 D.co) (n0:0<n):(fmtD D l0 n).pers (l0*8)=hW l0 D.cur n (l0*8):=by
 obtain ⟨h1,h2,h3⟩:=fmt_all on gd hl j1 n (Nat.le_refl _)
 have h4:=h2 (l0*8)
 have e:(fmtD D l0 n).co.hist (l0*8/8)= []:=by rw [show l0*8/8=l0 by omega];exact h3 n0
 rw [e] at h4
 have h5:(fmtD D l0 n).cur (l0*8)=(fmtD D l0 n).pers (l0*8):=h4
 rw [←h5,h1]
def bF (W:Nat→Nat) (l j i:Nat):Nat:=if 64*l≤i∧i<64*l+j then frH/2^(8*(i-64*l))%256 else wB W i
theorem bF_zero (W:Nat→Nat) (l i:Nat):bF W l 0 i=wB W i:=by unfold bF;rw [if_neg (by omega)]
theorem bF_step (W:Nat→Nat) (l j i:Nat):bF W l (j+1) i=if i=64*l+j then frH/2^(8*j)%256 else bF W l j i:=by
 unfold bF
 by_cases e:i=64*l+j
 ·subst e
  rw [if_pos (by omega),if_pos rfl,show 64*l+j-64*l=j by omega]
 ·rw [if_neg e]
  by_cases h:64*l≤i∧i<64*l+j
  ·rw [if_pos h,if_pos (by omega)]
  ·rw [if_neg h,if_neg (by omega)]
theorem bF_end (W:Nat→Nat) (l0 m i:Nat):bF (hW l0 W m) (l0+32*m) 8 i=wB (hW l0 W (m+1)) i:=by
 unfold bF
 by_cases h:64*(l0+32*m)≤i∧i<64*(l0+32*m)+8
 ·rw [if_pos h]
  unfold wB
  simp only [hW]
  rw [if_pos (by omega),show i%8=i-64*(l0+32*m) by omega]
 ·rw [if_neg h]
  unfold wB
  simp only [hW]
  rw [if_neg (by omega)]
end
end Go.Proofs.YtifpinhjpbgnoaaDoor
namespace Go.Sh
open Go
theorem run_eq_str {P:Program} (t:TypeId) (x y:Operand) (a b:ByteArray) (w:World):(binM .eql t x y (.string a) (.string b)).run P w= .ok (.bool (a.toList==b.toList)) w:=by
 unfold binM
 rw [Sem.run_bind]
 have:(eqGuard .eql t x y (.string a) (.string b)).run P w= .ok () w:=rfl
 rw [this,Result.andThen_ok,binOp_string_eql];rfl
def bstr (l:List Nat):ByteArray:=(l.map fun (n:Nat)=>(n:Int)).foldl (fun r n=>r.push (UInt8.ofNat n.toNat)) ByteArray.empty
theorem run_b2s {P:Program} {src dst e:TypeId} (hs:P.underlying src=some (.slice e)) (he:P.underlying e=some (.int .u8)) (hd:P.underlying dst=some .string) {b o n cap:Nat} (l:List Nat) {w:World} (h:cellsFrom w b o n=some (l.map fun (x:Nat)=>Value.int .u8 (x:Int))):
  (convert src dst (.slice (some ⟨b,o,none⟩) n cap)).run P w= .ok (.string (bstr l)) w:=by
 rw [run_convert_bytes_string w src dst e _ n cap hs he hd]
 have h2:(l.map fun (x:Nat)=>Value.int .u8 (x:Int))=(l.map fun (n:Nat)=>(n:Int)).map (Value.int .u8):=by simp [List.map_map,Function.comp_def]
 rw [h2] at h
 have h3:=run_loadCellsFrom (P:=P) (w:=w) (b:=b) (o:=o) n 0 #[] _ h
 simp only [Array.empty_append] at h3
 exact run_bytesToString w _ n cap _ h3
theorem cellsFrom_of {w:World} {b:Nat}:∀{l:List Value} {o:Nat},(∀j u,l[j]? =some u→w.cell? ⟨b,o+j,none⟩=some u)→cellsFrom w b o l.length=some l:=by
 intro l
 induction l with
 |nil=>intro o _;rfl
 |cons x l ih=>
  intro o h
  simp only [List.length_cons]
  unfold cellsFrom
  have h0:=h 0 x rfl
  simp only [Nat.add_zero] at h0
  rw [h0]
  simp only
  rw [ih (o:=o+1) (fun j u hj=>by rw [show o+1+j=o+(j+1) by omega];exact h (j+1) u (by simpa using hj))]
end Go.Sh
namespace Go.Proofs.YtifpinhjpbgnoaaDoor
open Go Go.Sh
section
variable {w0 w w':World} {Y Y':Lay} {D D':DS} {S b o cp l0 n k:Nat} {f f':Nat→Int×Int×Bool}
end
noncomputable def f3_u:Code×Dec:=((Tryd.f3.body).getD .skip,(.s .o (.s .o (.s .o (.s .o (.s .o (.x 643 (.s .o (.b (.l [2,37] 643 1125762467890180 .o))) (.s .o (.s .o (.s .o (.s .o (.s .o (.x 2177 (.s .o (.b (.l [122] 2658455991569831745807614120560691329 178405956271333001992622254565958650926710784 (.s .o (.s .o (.x 7975367974709495237422842361682069633 (.b (.s .o (.s .o (.s .o (.s .o (.b (.l [132] 7975367974709495237422842361682167937 89197536276251757550727459096874537732669440 .o))))))) .o)))))) .o)))))))))))))
abbrev f3_e (K:K1):KF:=endK prog Tryd.f3.results.toList K
def f3_k1_o (K:K1):KF:=fun fr w=>∀σ,cP (pr (pr (pr (pr (pr (pr f3_u)))))) (f3_e K) (f3_e K) nX (mixF 643 σ 0 fr) w
def f3_k1 (K:K1) (x0 x1 x7 x9:Value) (w:World):Prop:=f3_k1_o K (fz 173 0 [(0,x0),(1,x1),(7,x7),(9,x9)]) w
def f3_l1 (K:K1) (x0 x1 x2 x7 x9 x37:Value) (w:World):Prop:=loopT [2,37] 643 (fun E=>cP (pl (pl (pr (pl (pr (pr (pr (pr (pr f3_u))))))))) E (f3_e K) (exB 0 (f3_k1_o K) nX)) (fz 173 0 [(0,x0),(1,x1),(2,x2),(7,x7),(9,x9),(37,x37)]) w
def f3_k2_o (K:K1):KF:=fun fr w=>∀σ,cP (pr (pr (pr (pr (pr (pr (pr (pr (pr (pr (pr (pr f3_u)))))))))))) (f3_e K) (f3_e K) nX (mixF 2177 σ 0 fr) w
def f3_k2 (K:K1) (x0 x7 x11:Value) (w:World):Prop:=f3_k2_o K (fz 173 0 [(0,x0),(7,x7),(11,x11)]) w
def f3_l2 (K:K1) (x0 x7 x11 x121 x122:Value) (w:World):Prop:=loopT [122] 2658455991569831745807614120560691329 (fun E=>cP (pl (pl (pr (pl (pr (pr (pr (pr (pr (pr (pr (pr (pr (pr (pr f3_u))))))))))))))) E (f3_e K) (exB 2 (f3_k2_o K) nX)) (fz 173 0 [(0,x0),(7,x7),(11,x11),(121,x121),(122,x122)]) w
def f3_k3_o (K:K1) (E1:VP1):KF:=fun fr w=>∀σ,cP (pr (pr (pr (pl (pl (pr (pl (pr (pr (pr (pr (pr (pr (pr (pr (pr (pr (pr f3_u)))))))))))))))))) (fun fr w=>E1 (sv fr 122) w) (f3_e K) (exB 2 (f3_k2_o K) nX) (mixF 7975367974709495237422842361682069633 σ 0 fr) w
def f3_k3 (K:K1) (E1:VP1) (x0 x7 x11 x121 x122:Value) (w:World):Prop:=f3_k3_o K E1 (fz 173 0 [(0,x0),(7,x7),(11,x11),(121,x121),(122,x122)]) w
def f3_l3 (K:K1) (E1:VP1) (x0 x7 x11 x15 x16 x121 x122 x132:Value) (w:World):Prop:=loopT [132] 7975367974709495237422842361682167937 (fun E=>cP (pl (pl (pr (pr (pr (pr (pl (pl (pr (pr (pl (pl (pr (pl (pr (pr (pr (pr (pr (pr (pr (pr (pr (pr (pr f3_u))))))))))))))))))))))))) E (f3_e K) (exB 4 (f3_k3_o K E1) (exB 3 (f3_k3_o K E1) (exB 2 (f3_k2_o K) nX)))) (fz 173 0 [(0,x0),(7,x7),(11,x11),(15,x15),(16,x16),(121,x121),(122,x122),(132,x132)]) w
def f3_k1_t (x0 x1 x7 x9:Value) (K:K1) (w:World):Prop:=
 callS prog 9 (pA #[x7]) w fun t51 w=>
 ev prog (Instr.makeInterface 28 x9) w fun t53 w=>
 callS prog 10 (pA #[t53,x0,x1]) w fun t56 w=>
 ev prog (Instr.makeInterface 28 x9) w fun t59 w=>
 callS prog 11 (pA #[t59,x0,x1]) w fun t62 w=>
 ev prog (Instr.extract t62 0) w fun t63 w=>
 ev prog (Instr.extract t62 1) w fun t64 w=>
 ev prog (binM .lss 3 (.tmp 65) (.const (.int .i64 0)) x0 (.int .i64 0)) w fun t66 w=>
 gd t66 false (fun k=>k x1 w) w fun t68 w=>
 gd t66 false (fun k=>ev prog (binM .lss 3 (.tmp 68) (.const (.int .i64 32)) t68 (.int .i64 32)) w k) w fun t69 w=>
 pickS t66 (.bool true) t69 w fun t70 w=>
 gd t70 false (fun k=>k x0 w) w fun t72 w=>
 gd t70 false (fun k=>ev prog (binM .gtr 3 (.tmp 72) (.const (.int .i64 100)) t72 (.int .i64 100)) w k) w fun t73 w=>
 pickS t70 (.bool true) t73 w fun t74 w=>
 gd t74 false (fun k=>k x1 w) w fun t76 w=>
 gd t74 false (fun k=>k x0 w) w fun t77 w=>
 gd t74 false (fun k=>ev prog (binM .sub 3 (.const (.int .i64 100)) (.tmp 77) (.int .i64 100) t77) w k) w fun t78 w=>
 gd t74 false (fun k=>ev prog (binM .gtr 3 (.tmp 76) (.tmp 78) t76 t78) w k) w fun t79 w=>
 pickS t74 (.bool true) t79 w fun t80 w=>
 cndS t80 (
 rd prog (binM .eql 25 (.tmp 81) (.const (.int .i64 1)) t56 (.int .i64 1)) w.drew fun t82=>
 gdR t82 true (fun k=>k t64) fun t84=>
 gdR t82 true (fun k=>rd prog (binM .eql 25 (.tmp 84) (.const (.int .i64 1)) t84 (.int .i64 1)) w.drew k) fun t85=>
 pickV t82 t85 (.bool false) fun t86=>
 gdR t86 true (fun k=>k t63) fun t88=>
 gdR t86 true (fun k=>rd prog (binM .eql 34 (.tmp 88) (.const (.pointer none)) t88 (.pointer none)) w.drew k) fun t89=>
 pickV t86 t89 (.bool false) fun t90=>
 gdR t90 true (fun k=>k x7) fun t92=>
 gdR t90 true (fun k=>k t51) fun t95=>
 gdR t90 true (fun k=>rd prog (convert 31 9 t95) w.drew k) fun t96=>
 gd t90 true (fun k=>callS prog 9 (pA #[t92]) w.drew k) w.drew fun t93 w=>
 (gq t90 true (ag prog (convert 31 9 t95) w t96))∧
 gdR t90 true (fun k=>rd prog (convert 31 9 t93) w k) fun t94=>
 gdR t90 true (fun k=>rd prog (binM .eql 9 (.tmp 94) (.tmp 96) t94 t96) w k) fun t97=>
 pickV t90 t97 (.bool false) fun t98=>
 K t98 w) (
 ev prog (binM .neq 25 (.tmp 99) (.const (.int .i64 0)) t56 (.int .i64 0)) w fun t100 w=>
 gd t100 false (fun k=>k t64 w) w fun t102 w=>
 gd t100 false (fun k=>ev prog (binM .neq 25 (.tmp 102) (.const (.int .i64 0)) t102 (.int .i64 0)) w k) w fun t103 w=>
 pickS t100 (.bool true) t103 w fun t104 w=>
 gd t104 false (fun k=>k t63 w) w fun t106 w=>
 gd t104 false (fun k=>callS prog 12 (pA #[t106]) w k) w fun t107 w=>
 gd t104 false (fun k=>k x1 w) w fun t108 w=>
 gd t104 false (fun k=>ev prog (binM .quo 3 (.tmp 108) (.const (.int .i64 32)) t108 (.int .i64 32)) w k) w fun t109 w=>
 gd t104 false (fun k=>ev prog (binM .neq 3 (.tmp 107) (.tmp 109) t107 t109) w k) w fun t110 w=>
 pickS t104 (.bool true) t110 w fun t111 w=>
 gd t111 false (fun k=>k t63 w) w fun t113 w=>
 gd t111 false (fun k=>callS prog 13 (pA #[t113]) w k) w fun t114 w=>
 gd t111 false (fun k=>bltS prog .len #[38] 3 #[false] #[t114] w k) w fun t115 w=>
 gd t111 false (fun k=>k x1 w) w fun t116 w=>
 gd t111 false (fun k=>ev prog (binM .quo 3 (.tmp 116) (.const (.int .i64 32)) t116 (.int .i64 32)) w k) w fun t117 w=>
 gd t111 false (fun k=>ev prog (binM .neq 3 (.tmp 115) (.tmp 117) t115 t117) w k) w fun t118 w=>
 pickS t111 (.bool true) t118 w fun t119 w=>
 cndS t119 (
 K (.bool false) w) (
 ev prog (binM .quo 3 (.tmp 120) (.const (.int .i64 32)) x1 (.int .i64 32)) w fun t121 w=>
 f3_l2 K x0 x7 t51 t121 (.int .i64 0) w))
theorem f3_k1_eq (K:K1) (x0 x1 x7 x9:Value) (w:World):f3_k1 K x0 x1 x7 x9 w=f3_k1_t x0 x1 x7 x9 K w:=cutE fun σ=>by kernel_rfl
def f3_l1_t (x0 x1 x2 x7 x9 x37:Value) (K:K1) (E1:VP2) (w:World):Prop:=
 ev prog (binM .lss 3 (.tmp 37) (.const (.int .i64 100)) x37 (.int .i64 100)) w fun t38 w=>
 cndS t38 (
 ev prog (binM .mul 22 (.tmp 40) (.const (.int .u64 ((6364136223846793005:Nat):Int))) x2 (.int .u64 ((6364136223846793005:Nat):Int))) w fun t41 w=>
 ev prog (binM .add 22 (.tmp 41) (.const (.int .u64 ((1442695040888963407:Nat):Int))) t41 (.int .u64 ((1442695040888963407:Nat):Int))) w fun t42 w=>
 ev prog (convert 3 22 x37) w fun t45 w=>
 ev prog (binM .mul 22 (.const (.int .u64 ((64:Nat):Int))) (.tmp 45) (.int .u64 ((64:Nat):Int)) t45) w fun t46 w=>
 callS prog 8 (pA #[x9,t46,t42]) w fun t48 w=>
 ev prog (binM .add 3 (.tmp 37) (.const (.int .i64 1)) x37 (.int .i64 1)) w fun t49 w=>
 E1 t42 t49 w) (
 f3_k1 K x0 x1 x7 x9 w)
theorem f3_l1_rule (x0 x1 x2 x7 x9 x37:Value) (K:K1) (w:World) (I:VP2) (μ:Value→Value→World→Nat) (h0:I x2 x37 w)
  (hr:∀(x2 x37:Value) (w:World),I x2 x37 w→∀E1:VP2,(∀(y2 y37:Value) (w':World),I y2 y37 w'→μ y2 y37 w'<μ x2 x37 w→E1 y2 y37 w')→f3_l1_t x0 x1 x2 x7 x9 x37 K E1 w):f3_l1 K x0 x1 x2 x7 x9 x37 w:=
 ⟨I,μ,h0,fun σ w hI E hE=>cast (by kernel_rfl) (hr (σ 2) (σ 37) w hI E hE)⟩
def f3_k2_t (x0 x7 x11:Value) (K:K1) (w:World):Prop:=
 rd prog (convert 31 9 x11) w.drew fun t151=>
 callS prog 9 (pA #[x7]) w.drew fun t148 w=>
 (ag prog (convert 31 9 x11) w t151)∧
 rd prog (convert 31 9 t148) w fun t149=>
 rd prog (binM .eql 9 (.tmp 149) (.tmp 151) t149 t151) w fun t152=>
 gdR t152 true (fun k=>k x7) fun t154=>
 gdR t152 true (fun k=>k x0) fun t156=>
 gdR t152 true (fun k=>rd prog (binM .mul 3 (.const (.int .i64 64)) (.tmp 156) (.int .i64 64) t156) w k) fun t157=>
 gdR t152 true (fun k=>k x0) fun t158=>
 gdR t152 true (fun k=>rd prog (binM .mul 3 (.const (.int .i64 64)) (.tmp 158) (.int .i64 64) t158) w k) fun t159=>
 gdR t152 true (fun k=>rd prog (binM .add 3 (.tmp 159) (.const (.int .i64 8)) t159 (.int .i64 8)) w k) fun t160=>
 gdR t152 true (fun k=>k x11) fun t163=>
 gdR t152 true (fun k=>k x0) fun t164=>
 gdR t152 true (fun k=>rd prog (binM .mul 3 (.const (.int .i64 64)) (.tmp 164) (.int .i64 64) t164) w k) fun t165=>
 gdR t152 true (fun k=>k x0) fun t166=>
 gdR t152 true (fun k=>rd prog (binM .mul 3 (.const (.int .i64 64)) (.tmp 166) (.int .i64 64) t166) w k) fun t167=>
 gdR t152 true (fun k=>rd prog (binM .add 3 (.tmp 167) (.const (.int .i64 8)) t167 (.int .i64 8)) w k) fun t168=>
 gdR t152 true (fun k=>rd prog (Instr.sliceAt 31 t163 (some t165) (some t168) none) w k) fun t169=>
 gdR t152 true (fun k=>rd prog (convert 31 9 t169) w k) fun t170=>
 gd t152 true (fun k=>callS prog 15 (pA #[t154]) w k) w fun t155 w=>
 (gq t152 true (ag prog (binM .mul 3 (.const (.int .i64 64)) (.tmp 156) (.int .i64 64) t156) w t157))∧
 (gq t152 true (ag prog (binM .mul 3 (.const (.int .i64 64)) (.tmp 158) (.int .i64 64) t158) w t159))∧
 (gq t152 true (ag prog (binM .add 3 (.tmp 159) (.const (.int .i64 8)) t159 (.int .i64 8)) w t160))∧
 (gq t152 true (ag prog (binM .mul 3 (.const (.int .i64 64)) (.tmp 164) (.int .i64 64) t164) w t165))∧
 (gq t152 true (ag prog (binM .mul 3 (.const (.int .i64 64)) (.tmp 166) (.int .i64 64) t166) w t167))∧
 (gq t152 true (ag prog (binM .add 3 (.tmp 167) (.const (.int .i64 8)) t167 (.int .i64 8)) w t168))∧
 (gq t152 true (ag prog (Instr.sliceAt 31 t163 (some t165) (some t168) none) w t169))∧
 (gq t152 true (ag prog (convert 31 9 t169) w t170))∧
 gdR t152 true (fun k=>rd prog (Instr.sliceAt 31 t155 (some t157) (some t160) none) w k) fun t161=>
 gdR t152 true (fun k=>rd prog (convert 31 9 t161) w k) fun t162=>
 gdR t152 true (fun k=>rd prog (binM .eql 9 (.tmp 162) (.tmp 170) t162 t170) w k) fun t171=>
 pickV t152 t171 (.bool false) fun t172=>
 K t172 w
theorem f3_k2_eq (K:K1) (x0 x7 x11:Value) (w:World):f3_k2 K x0 x7 x11 w=f3_k2_t x0 x7 x11 K w:=cutE fun σ=>by kernel_rfl
def f3_l2_t (x0 x7 x11 x121 x122:Value) (K:K1) (E1:VP1) (w:World):Prop:=
 ev prog (binM .lss 3 (.tmp 122) (.tmp 121) x122 x121) w fun t123 w=>
 cndS t123 (
 ev prog (binM .mul 3 (.const (.int .i64 32)) (.tmp 126) (.int .i64 32) x122) w fun t127 w=>
 ev prog (binM .add 3 (.tmp 125) (.tmp 127) x0 t127) w fun t128 w=>
 ev prog (binM .mul 3 (.const (.int .i64 64)) (.tmp 128) (.int .i64 64) t128) w fun t129 w=>
 ev prog (Instr.build 43 #[(0,(.int .i64 (-1))),(1,(.int .i64 (-1))),(2,(.int .u16 ((1:Nat):Int)))]) w fun t130 w=>
 callS prog 14 (pA #[t130]) w fun t131 w=>
 f3_l3 K E1 x0 x7 x11 t129 t131 x121 x122 (.int .i64 0) w) (
 f3_k2 K x0 x7 x11 w)
theorem f3_l2_rule (x0 x7 x11 x121 x122:Value) (K:K1) (w:World) (I:VP1) (μ:Value→World→Nat) (h0:I x122 w)
  (hr:∀(x122:Value) (w:World),I x122 w→∀E1:VP1,(∀(y122:Value) (w':World),I y122 w'→μ y122 w'<μ x122 w→E1 y122 w')→f3_l2_t x0 x7 x11 x121 x122 K E1 w):f3_l2 K x0 x7 x11 x121 x122 w:=
 ⟨I,μ,h0,fun σ w hI E hE=>cast (by kernel_rfl) (hr (σ 122) w hI E hE)⟩
def f3_k3_t (x0 x7 x11 x121 x122:Value) (K:K1) (E1:VP1) (w:World):Prop:=
 ev prog (binM .add 3 (.tmp 122) (.const (.int .i64 1)) x122 (.int .i64 1)) w fun t146 w=>
 E1 t146 w
theorem f3_k3_eq (K:K1) (E1:VP1) (x0 x7 x11 x121 x122:Value) (w:World):f3_k3 K E1 x0 x7 x11 x121 x122 w=f3_k3_t x0 x7 x11 x121 x122 K E1 w:=cutE fun σ=>by kernel_rfl
def f3_l3_t (x0 x7 x11 x15 x16 x121 x122 x132:Value) (K:K1) (E1:VP1) (E2:VP1) (w:World):Prop:=
 ev prog (binM .lss 3 (.tmp 132) (.const (.int .i64 8)) x132 (.int .i64 8)) w fun t133 w=>
 cndS t133 (
 ev prog (binM .add 3 (.tmp 136) (.tmp 137) x15 x132) w fun t138 w=>
 ev prog (binM .mul 3 (.const (.int .i64 8)) (.tmp 140) (.int .i64 8) x132) w fun t141 w=>
 ev prog (binM .shr 22 (.tmp 139) (.tmp 141) x16 t141) w fun t142 w=>
 ev prog (convert 22 5 t142) w fun t143 w=>
 ev prog (Instr.indexAt 31 x11 t138) w fun t144 w=>
 stS prog 5 t144 t143 w fun w=>
 ev prog (binM .add 3 (.tmp 132) (.const (.int .i64 1)) x132 (.int .i64 1)) w fun t145 w=>
 E2 t145 w) (
 f3_k3 K E1 x0 x7 x11 x121 x122 w)
theorem f3_l3_rule (x0 x7 x11 x15 x16 x121 x122 x132:Value) (K:K1) (E1:VP1) (w:World) (I:VP1) (μ:Value→World→Nat) (h0:I x132 w)
  (hr:∀(x132:Value) (w:World),I x132 w→∀E2:VP1,(∀(y132:Value) (w':World),I y132 w'→μ y132 w'<μ x132 w→E2 y132 w')→f3_l3_t x0 x7 x11 x15 x16 x121 x122 x132 K E1 E2 w):f3_l3 K E1 x0 x7 x11 x15 x16 x121 x122 x132 w:=
 ⟨I,μ,h0,fun σ w hI E hE=>cast (by kernel_rfl) (hr (σ 132) w hI E hE)⟩
def f3_t (x0 x1 x2:Value) (K:K1) (w:World):Prop:=
 callS prog 5 (pA #[]) w fun t18 w=>
 ev prog (Op.unary .not t18) w fun t19 w=>
 cndS t19 (
 K (.bool false) w) (
 callS prog 6 (pA #[(.int .i64 100)]) w fun t21 w=>
 ev prog (Instr.extract t21 0) w fun t22 w=>
 ev prog (Instr.extract t21 1) w fun t23 w=>
 ev prog (binM .neq 25 (.tmp 24) (.const (.int .i64 0)) t23 (.int .i64 0)) w fun t25 w=>
 gd t25 false (fun k=>k t22 w) w fun t27 w=>
 gd t25 false (fun k=>ev prog (binM .eql 24 (.tmp 27) (.const (.pointer none)) t27 (.pointer none)) w k) w fun t28 w=>
 pickS t25 (.bool true) t28 w fun t29 w=>
 gd t29 false (fun k=>k t22 w) w fun t31 w=>
 gd t29 false (fun k=>callS prog 7 (pA #[t31,(.int .i64 0)]) w k) w fun t32 w=>
 gd t29 false (fun k=>ev prog (binM .eql 28 (.tmp 32) (.const (.pointer none)) t32 (.pointer none)) w k) w fun t33 w=>
 pickS t29 (.bool true) t33 w fun t34 w=>
 cndS t34 (
 K (.bool false) w) (
 callS prog 7 (pA #[t22,(.int .i64 0)]) w fun t36 w=>
 f3_l1 K x0 x1 x2 t22 t36 (.int .i64 0) w))
theorem f3_call (x0 x1 x2:Value) (K:K1) (w:World) (h:f3_t x0 x1 x2 K w):callS prog 3 #[x0,x1,x2] w K:=
 call_of_txt (args:= [x0,x1,x2]) mixed Tryd.func3 f3_u.2 (by kernel_rfl) (cast (by kernel_rfl) h)
section
variable {w0 w w':World} {Y Y':Lay} {D D':DS} {S b o cp n m N T Q l0 q s:Nat} {v:Value} {W:Nat→Nat}
theorem mul_mod64 {P:Program} (t:TypeId) (x y:Operand) (a c:Nat) (w:World):(binM .mul t x y (.int .u64 (a:Int)) (.int .u64 (c:Int))).run P w= .ok (.int .u64 (((a*c)%18446744073709551616:Nat):Int)) w:=by
 rw [run_mul];rfl
theorem k_Cur (h:Dv w Y D) (g:Good D) (hN:8*(8*D.n)=N) (hQ:Y.d=Q) (K:K1) (hK:∀b' w',Ext w w'→w.heap.size≤b'→Cells w' b' 5 N (fun i=> .int .u8 ((wB D.cur i:Nat):Int))→K (.slice (some ⟨b',0,none⟩) N N) w'):
  callS prog 9 #[.pointer (some ⟨Q,0,none⟩)] w K:=by
 subst hN;subst hQ
 have hn:=g.n;have hn0:=g.n0
 refine f9_call _ _ _ ?_
 unfold f9_t
 simp (disch:=first|omega|simp only [RO]|(simp only [RZ]<;>omega)|fail) only [↓RBp,↓RA,↓reduceIte,Nat.reduceAdd,Nat.reduceMul,Nat.reduceEqDiff,RB,RX,RA2,h.R]
 exact k_bytesOf h.cu (fun i hi=>g.cur i hi) (by omega) (by omega) K hK
theorem k_Per (h:Dv w Y D) (g:Good D) (hN:8*(8*D.n)=N) (hQ:Y.d=Q) (K:K1) (hK:∀b' w',Ext w w'→w.heap.size≤b'→Cells w' b' 5 N (fun i=> .int .u8 ((wB D.pers i:Nat):Int))→K (.slice (some ⟨b',0,none⟩) N N) w'):
  callS prog 15 #[.pointer (some ⟨Q,0,none⟩)] w K:=by
 subst hN;subst hQ
 have hn:=g.n;have hn0:=g.n0
 refine f15_call _ _ _ ?_
 unfold f15_t
 simp (disch:=first|omega|simp only [RO]|(simp only [RZ]<;>omega)|fail) only [↓RBp,↓RA,↓reduceIte,Nat.reduceAdd,Nat.reduceMul,Nat.reduceEqDiff,RB,RX,RA2,h.R]
 exact k_bytesOf h.pe (fun i hi=>g.pers i hi) (by omega) (by omega) K hK
theorem b2s {F:Nat→Nat} (h:Cells w b 5 N (fun i=> .int .u8 ((F i:Nat):Int))) {o m cap:Nat} (hm:o+m≤N):(convert 31 9 (.slice (some ⟨b,o,none⟩) m cap)).run prog w= .ok (.string (bstr ((List.range m).map fun i=>F (o+i)))) w:=by
 have hl:(((List.range m).map fun i=>F (o+i)).map fun (x:Nat)=>Value.int .u8 (x:Int)).length=m:=by simp
 have hc:=cellsFrom_of (w:=w) (b:=b) (l:=((List.range m).map fun i=>F (o+i)).map fun (x:Nat)=>Value.int .u8 (x:Int)) (o:=o) (fun j u hj=>by
  have hjm:=(List.getElem?_eq_some_iff.1 hj).1
  rw [hl] at hjm
  rw [h.cell (by omega),←hj]
  simp [hjm])
 rw [hl] at hc
 exact run_b2s (e:=5) (by kernel_rfl) (by kernel_rfl) (by kernel_rfl) _ hc
theorem run_lh {P:Program} {t e:TypeId} {z bytes:Nat} {zv:Value} (E:ElT P t t e z bytes zv) (b o len cap:Nat) (k:IntKind) (l h:Nat) (w:World) (hlh:l≤h) (hc:h≤cap) (hne:cap≠l):(Instr.sliceAt t (.slice (some ⟨b,o,none⟩) len cap) (some (.int k (l:Int))) (some (.int k (h:Int))) none).run P w= .ok (.slice (some ⟨b,o+l*z,none⟩) (h-l) (cap-l)) w:=by
 have:=run_sl E b o len cap (some (.int k l)) (some (.int k h)) l h w (by simp [Instr.sliceBounds,run_bound _ _ _ _ _ hc,run_bound _ _ _ _ _ hlh])
 rw [if_neg hne] at this
 exact this
theorem hW_at:∀{m k:Nat},k<m→hW l0 W m ((l0+32*k)*8)=frH
 |0,k,h=>absurd h (Nat.not_lt_zero _)
 |m+1,k,h=>by
  simp only [hW]
  by_cases e:k=m
  ·subst e;rw [if_pos rfl]
  ·rw [if_neg (by omega)];exact hW_at (by omega)
theorem frC_all {f:Nat→Int×Int×Bool}:∀n,(∀k,k<n→(f k).1<0)→frC f n=n
 |0,_=>rfl
 |n+1,h=>by simp only [frC];rw [frC_all n (fun k hk=>h k (by omega)),if_pos (h n (by omega))]
theorem frH_lt:frH<18446744073709551616:=sealN_lt _ (hdX_lt (by omega) (by omega) (by omega) (by omega) (by omega))
theorem fo_bad (h:Dv w Y D) (g:Good D) (hn:D.n=100) (hT:Y.tb 0=T) (hQ:Y.d=Q) (line lines:Int) (h1: -9223372036854775808≤line) (h2:line<9223372036854775808) (h3: -9223372036854775808≤lines) (h4:lines<9223372036854775808) (hb:line<0∨lines<32∨100<line∨100-line<lines) (K:K1) (hK:∀w',Ext w w'→K (.bool true) w'):
  f3_k1 K (.int .i64 line) (.int .i64 lines) (.pointer (some ⟨Q,0,none⟩)) (.pointer (some ⟨T,0,none⟩)) w:=by
 obtain ⟨N,hN⟩:∃N,8*(8*D.n)=N:=⟨_,rfl⟩
 have hcu:=fun (w1:World) (K:K1) (e:Ext w w1) hK=>k_Cur (h.ext e) g hN hQ K hK
 have hv:vldB D.n line lines=false:=by
  unfold vldB
  rw [hn]
  by_cases a1:0≤line
  ·by_cases a2:32≤lines
   ·have:¬line+lines≤((100:Nat):Int):=by omega
    rw [decide_eq_false this];simp
   ·rw [decide_eq_false a2];simp
  ·rw [decide_eq_false a1];rfl
 have hfo:∀(w1:World) (K:K1),Ext w w1→(∀w',Ext w1 w'→K (.int .i64 1) w')→callS prog 10 #[.iface 28 (.pointer (some ⟨T,0,none⟩)),.int .i64 line,.int .i64 lines] w1 K:=fun w1 K e hK=>by
  subst hT;exact k_AFormatBad (h.ext e) g line lines h1 h2 h3 h4 hv K hK
 have hop:∀(w1:World) (K:K1),Ext w w1→(∀w',Ext w1 w'→K (.tuple #[.pointer none,.int .i64 1]) w')→callS prog 11 #[.iface 28 (.pointer (some ⟨T,0,none⟩)),.int .i64 line,.int .i64 lines] w1 K:=fun w1 K e hK=>by
  subst hT;exact k_AOpenBad (h.ext e) g line lines h1 h2 h3 h4 hv K hK
 rw [f3_k1_eq]
 unfold f3_k1_t
 refine hcu _ _ (Ext.refl _) (fun b1 w1 e1 hb1 hc1=> ?_)
 simp (disch:=first|omega|simp only [RO]|(simp only [RZ]<;>omega)|fail) only [↓RBp,↓RA,↓reduceIte,Nat.reduceAdd,Nat.reduceMul,Nat.reduceEqDiff,RB,RX,RA2]
 refine hfo _ _ (e1.trans (by repeat (first|(with_reducible first|refine Sh.eB ?_ _|assumption|exact Sh.eR _|refine Sh.eA ?_ _|refine Sh.eD ?_|refine Sh.eT ?_ (by assumption))|exact Sh.eR _))) (fun w2 e2=> ?_)
 have e12:Ext w1 w2:=Ext.trans (by repeat (first|(with_reducible first|refine Sh.eB ?_ _|assumption|exact Sh.eR _|refine Sh.eA ?_ _|refine Sh.eD ?_|refine Sh.eT ?_ (by assumption))|exact Sh.eR _)) e2
 simp (disch:=first|omega|simp only [RO]|(simp only [RZ]<;>omega)|fail) only [↓RBp,↓RA,↓reduceIte,Nat.reduceAdd,Nat.reduceMul,Nat.reduceEqDiff,RB,RX,RA2]
 refine hop _ _ ((e1.trans e12).trans (by repeat (first|(with_reducible first|refine Sh.eB ?_ _|assumption|exact Sh.eR _|refine Sh.eA ?_ _|refine Sh.eD ?_|refine Sh.eT ?_ (by assumption))|exact Sh.eR _))) (fun w3 e3=> ?_)
 have e13:Ext w1 w3:=e12.trans (Ext.trans (by repeat (first|(with_reducible first|refine Sh.eB ?_ _|assumption|exact Sh.eR _|refine Sh.eA ?_ _|refine Sh.eD ?_|refine Sh.eT ?_ (by assumption))|exact Sh.eR _)) e3)
 have hc3:=hc1.ext e13
 have dr:Ext w3 w3.drew:=Ext.drew (Ext.refl _)
 have rc:=fun (k:Value→Prop)=>rd_of_run (b2s (hc3.ext dr) (o:=0) (m:=N) (cap:=N) (by omega)) k
 have re:=fun (x y:Operand) (l:List Nat) (w:World) (k:Value→Prop)=>rd_of_run (run_eq_str (P:=prog) 9 x y (bstr l) (bstr l) w) k
 simp only [beq_self_eq_true] at re
 have cs:line<0∨(¬line<0∧lines<32)∨(¬line<0∧¬lines<32∧100<line)∨(¬line<0∧¬lines<32∧¬100<line∧100-line<lines):=by omega
 rcases cs with a1|⟨a1,a2⟩|⟨a1,a2,a3⟩|⟨a1,a2,a3,a4⟩
 all_goals
  simp (disch:=first|omega|simp only [RO]|(simp only [RZ]<;>omega)|fail) only [↓RBp,↓RA,↓reduceIte,Nat.reduceAdd,Nat.reduceMul,Nat.reduceEqDiff,RB,RX,RA2,rc]
  refine hcu _ _ ((e1.trans e13).trans dr) (fun b4 w4 e4 hb4 hc4=> ?_)
  have ra:=fun (z:Value)=>ag_of_run (b2s ((hc3.ext dr).ext e4) (o:=0) (m:=N) (cap:=N) (by omega)) z
  have rc4:=fun (k:Value→Prop)=>rd_of_run (b2s hc4 (o:=0) (m:=N) (cap:=N) (by omega)) k
  simp (disch:=first|omega|simp only [RO]|(simp only [RZ]<;>omega)|fail) only [↓RBp,↓RA,↓reduceIte,Nat.reduceAdd,Nat.reduceMul,Nat.reduceEqDiff,RB,RX,RA2,Option.isNone_none,ra,rc4,re,and_self,true_and]
  exact hK _ (((e1.trans e13).trans dr).trans e4)
theorem fo_l3 {b1:Nat} (hC:Cells w b1 5 N (fun i=> .int .u8 ((wB (hW l0 W m) i:Nat):Int))) (hN:N=6400) (hl:l0+32*m+32≤100) (K:K1) (E1:VP1) (x0 x7 x121:Value)
  (HE:∀w',Frm (fun x=>x=b1) w w'→Cells w' b1 5 N (fun i=> .int .u8 ((wB (hW l0 W (m+1)) i:Nat):Int))→E1 (.int .i64 ((m+1:Nat):Int)) w'):
  f3_l3 K E1 x0 x7 (.slice (some ⟨b1,0,none⟩) N N) (.int .i64 ((64*(l0+32*m):Nat):Int)) (.int .u64 (frH:Int)) x121 (.int .i64 (m:Int)) (.int .i64 0) w:=by
 have em:(m:Int)+1=((m+1:Nat):Int):=by omega
 have hH:=frH_lt
 apply f3_l3_rule (I:=fun z w'=>∃j:Nat,z= .int .i64 (j:Int)∧j≤8∧Frm (fun x=>x=b1) w w'∧Cells w' b1 5 N (fun i=> .int .u8 ((bF (hW l0 W m) (l0+32*m) j i:Nat):Int))) (μ:=fun z _=>8-(intOf z).toNat)
 ·exact ⟨0,rfl,by omega,Frm.refl _ _,hC.congr (fun i hi=>by rw [bF_zero])⟩
 ·intros;rename_i z w1 hI E2 hE
  obtain ⟨j,rfl,hj,hf,hc⟩:=hI
  by_cases hj8:j<8
  ·have ej:(j:Int)+1=((j+1:Nat):Int):=by omega
   have f4:(8:Int)*(j:Int)=((8*j:Nat):Int):=by omega
   have f5:((64*(l0+32*m):Nat):Int)+(j:Int)=((64*(l0+32*m)+j:Nat):Int):=by omega
   have hdl:frH/2^(8*j)<18446744073709551616:=Nat.lt_of_le_of_lt (Nat.div_le_self _ _) hH
   have hin:64*(l0+32*m)+j<N:=by omega
   have c2:=hc.cell hin
   have hz:=hc.frz
   have ltc:=hc.lt
   have hset:=hc.set (.int .u8 ((frH/2^(8*j)%256:Nat):Int)) hin
   have hset:Cells (w1.setCell ⟨b1,64*(l0+32*m)+j,none⟩ (.int .u8 ((frH/2^(8*j)%256:Nat):Int))) b1 5 N (fun i=> .int .u8 ((bF (hW l0 W m) (l0+32*m) (j+1) i:Nat):Int)):=hset.congr (fun i hi=>by
    rw [bF_step]
    by_cases e:i=64*(l0+32*m)+j
    ·rw [if_pos e,if_pos e]
    ·rw [if_neg e,if_neg e])
   have hfs:=hf.set (p:=⟨b1,64*(l0+32*m)+j,none⟩) (.int .u8 ((frH/2^(8*j)%256:Nat):Int)) (fun _=>rfl)
   generalize 64*(l0+32*m)+j=p at*
   generalize frH=H at*
   have h8:8*j<64:=by omega
   generalize 8*j=sh at*
   generalize hy:H/2^sh=y at*
   unfold f3_l3_t
   simp (disch:=first|omega|simp only [RO]|(simp only [RZ]<;>omega)|fail) only [↓RBp,↓RA,↓reduceIte,Nat.reduceAdd,Nat.reduceMul,Nat.reduceEqDiff,RB,RX,RA2,f4,f5,c2,hz,hy,ej]
   apply hE
   ·exact ⟨j+1,rfl,by omega,hfs,hset⟩
   ·simp [intOf];omega
  ·have:j=8:=by omega
   subst this
   unfold f3_l3_t
   simp (disch:=first|omega|simp only [RO]|(simp only [RZ]<;>omega)|fail) only [↓RBp,↓RA,↓reduceIte,Nat.reduceAdd,Nat.reduceMul,Nat.reduceEqDiff,RB,RX,RA2,f3_k3_eq,f3_k3_t,em]
   exact HE _ hf (hc.congr (fun i hi=>by rw [bF_end]))
theorem fo_k2 {b1:Nat} (dv:Dv w Y D) (gd:Good D) (hN:8*(8*D.n)=N) (hQ:Y.d=Q) (hC:Cells w b1 5 N (fun i=> .int .u8 ((wB D.cur i:Nat):Int))) (hl:64*l0+8<N) (hN6:N≤6400) (hp:D.pers (l0*8)=D.cur (l0*8)) (K:K1) (hK:∀w',Ext w w'→K (.bool true) w'):
  f3_k2 K (.int .i64 (l0:Int)) (.pointer (some ⟨Q,0,none⟩)) (.slice (some ⟨b1,0,none⟩) N N) w:=by
 have hcu:=fun (w1:World) (K:K1) (e:Ext w w1) hK=>k_Cur (dv.ext e) gd hN hQ K hK
 have hpe:=fun (w1:World) (K:K1) (e:Ext w w1) hK=>k_Per (dv.ext e) gd hN hQ K hK
 have re:=fun (x y:Operand) (l:List Nat) (w:World) (k:Value→Prop)=>rd_of_run (run_eq_str (P:=prog) 9 x y (bstr l) (bstr l) w) k
 simp only [beq_self_eq_true] at re
 have e1:(64:Int)*(l0:Int)=((64*l0:Nat):Int):=by omega
 have e2:((64*l0:Nat):Int)+8=((64*l0+8:Nat):Int):=by omega
 have el:=el_31_31
 have hsl:∀(b2:Nat) (w2:World),(Instr.sliceAt 31 (.slice (some ⟨b2,0,none⟩) N N) (some (.int .i64 ((64*l0:Nat):Int))) (some (.int .i64 ((64*l0+8:Nat):Int))) none).run prog w2= .ok (.slice (some ⟨b2,64*l0,none⟩) 8 (N-64*l0)) w2:=fun b2 w2=>by
  have:=run_lh el b2 0 N N .i64 (64*l0) (64*l0+8) w2 (by omega) (by omega) (by omega)
  rw [show 0+64*l0*1=64*l0 by omega,show 64*l0+8-64*l0=8 by omega] at this
  exact this
 have rsl:=fun (b2:Nat) (w2:World) (k:Value→Prop)=>rd_of_run (hsl b2 w2) k
 have asl:=fun (b2:Nat) (w2:World) (z:Value)=>ag_of_run (hsl b2 w2) z
 have dr:Ext w w.drew:=Ext.drew (Ext.refl _)
 have rc:=fun (k:Value→Prop)=>rd_of_run (b2s (hC.ext dr) (o:=0) (m:=N) (cap:=N) (by omega)) k
 have h8:(List.range 8).map (fun i=>wB D.pers (64*l0+i))=(List.range 8).map (fun i=>wB D.cur (64*l0+i)):=by
  refine List.map_congr_left (fun i hi=> ?_)
  rw [List.mem_range] at hi
  unfold wB
  rw [show (64*l0+i)/8=l0*8 by omega,hp]
 rw [f3_k2_eq]
 unfold f3_k2_t
 simp (disch:=first|omega|simp only [RO]|(simp only [RZ]<;>omega)|fail) only [↓RBp,↓RA,↓reduceIte,Nat.reduceAdd,Nat.reduceMul,Nat.reduceEqDiff,RB,RX,RA2,rc]
 refine hcu _ _ dr (fun b2 w2 e3 hb2 hc2=> ?_)
 have e02:=dr.trans e3
 have ra:=fun (z:Value)=>ag_of_run (b2s (hC.ext e02) (o:=0) (m:=N) (cap:=N) (by omega)) z
 have rc1:=fun (k:Value→Prop)=>rd_of_run (b2s (hC.ext e02) (o:=64*l0) (m:=8) (cap:=N-64*l0) (by omega)) k
 have rc2:=fun (k:Value→Prop)=>rd_of_run (b2s hc2 (o:=0) (m:=N) (cap:=N) (by omega)) k
 simp (disch:=first|omega|simp only [RO]|(simp only [RZ]<;>omega)|fail) only [↓RBp,↓RA,↓reduceIte,Nat.reduceAdd,Nat.reduceMul,Nat.reduceEqDiff,RB,RX,RA2,ra,rc2,re,and_self,true_and,e1,e2,rsl,rc1]
 refine hpe _ _ e02 (fun b3 w3 e4 hb3 hc3=> ?_)
 have e03:=e02.trans e4
 have ac:=fun (z:Value)=>ag_of_run (b2s (hC.ext e03) (o:=64*l0) (m:=8) (cap:=N-64*l0) (by omega)) z
 have rc3:=fun (k:Value→Prop)=>rd_of_run (b2s hc3 (o:=64*l0) (m:=8) (cap:=N-64*l0) (by omega)) k
 rw [h8] at rc3
 simp (disch:=first|omega|simp only [RO]|(simp only [RZ]<;>omega)|fail) only [↓RBp,↓RA,↓reduceIte,Nat.reduceAdd,Nat.reduceMul,Nat.reduceEqDiff,RB,RX,RA2,ac,rc3,re,and_self,true_and,e1,e2,rsl,asl]
 exact hK _ e03
theorem fo_l2 {b1:Nat} (dv:Dv w Y D) (gd:Good D) (hn:D.n=100) (hQ:Y.d=Q) (nb:¬Y.F b1) (hC:Cells w b1 5 6400 (fun i=> .int .u8 ((wB W i:Nat):Int))) (hl:l0+32*n≤100) (n0:0<n) (hcu:D.cur=hW l0 W n) (hp:D.pers (l0*8)=D.cur (l0*8)) (ow:w0.heap.size≤b1) (ew:Ext w0 w) (K:K1) (hK:∀w',Ext w0 w'→K (.bool true) w'):
  f3_l2 K (.int .i64 (l0:Int)) (.pointer (some ⟨Q,0,none⟩)) (.slice (some ⟨b1,0,none⟩) 6400 6400) (.int .i64 (n:Int)) (.int .i64 0) w:=by
 have hfi:∀(w:World) (K:K1),callS prog 14 #[.agg #[.int .i64 (-1),.int .i64 (-1),.int .u16 ((1:Nat):Int)]] w K=K (.int .u64 (frH:Int)) (w.alloc (rhO (-1) (-1) 1)):=fun w K=>c_rFirst (-1) (-1) 1 w K (by omega) (.inl ⟨rfl,rfl⟩)
 have fin:=fun (w':World) (hf:Frm (fun x=>x=b1) w w') hC'=>fo_k2 (l0:=l0) (N:=6400) (b1:=b1) (dv.frm hf (fun x hx hg=>nb (by rw [←hg];exact hx))) gd (by rw [hn]) hQ hC' (by omega) (by omega) hp K
 apply f3_l2_rule (I:=fun z w'=>∃m:Nat,z= .int .i64 (m:Int)∧m≤n∧Frm (fun x=>x=b1) w w'∧Cells w' b1 5 6400 (fun i=> .int .u8 ((wB (hW l0 W m) i:Nat):Int))) (μ:=fun z _=>n-(intOf z).toNat)
 ·exact ⟨0,rfl,by omega,Frm.refl _ _,hC⟩
 ·intros;rename_i z w1 hI E1 hE
  obtain ⟨m,rfl,hm,hf,hc⟩:=hI
  by_cases hmn:m<n
  ·have f1:(32:Int)*(m:Int)=((32*m:Nat):Int):=by omega
   have f2:(l0:Int)+((32*m:Nat):Int)=((l0+32*m:Nat):Int):=by omega
   have f3:(l0:Int)+32*(m:Int)=((l0+32*m:Nat):Int):=by omega
   have f4:(64:Int)*((l0+32*m:Nat):Int)=((64*(l0+32*m):Nat):Int):=by omega
   have step:∀w':World,Frm (fun x=>x=b1) w1 w'→Cells w' b1 5 6400 (fun i=> .int .u8 ((wB (hW l0 W (m+1)) i:Nat):Int))→E1 (.int .i64 ((m+1:Nat):Int)) w':=fun w' hf' hc'=>by
    apply hE
    ·exact ⟨m+1,rfl,by omega,hf.trans hf' (fun x hx e=>by rw [e]),hc'⟩
    ·simp [intOf];omega
   have go:=fun (w2:World) (e:Ext w1 w2) (x0 x7 x121:Value)=>fo_l3 (l0:=l0) (W:=W) (m:=m) (hc.ext e) rfl (by omega) K E1 x0 x7 x121 (fun w' hf' hc'=>step w' ((Frm.of_ext e).trans hf' (fun x hx e=>by rw [e])) hc')
   have hlt:=frH_lt
   generalize frH=H at*
   unfold f3_l2_t
   simp (disch:=first|omega|simp only [RO]|(simp only [RZ]<;>omega)|fail) only [↓RBp,↓RA,↓reduceIte,Nat.reduceAdd,Nat.reduceMul,Nat.reduceEqDiff,RB,RX,RA2,f1,f2,f3,f4,hfi]
   exact go _ (by repeat (first|(with_reducible first|refine Sh.eB ?_ _|assumption|exact Sh.eR _|refine Sh.eA ?_ _|refine Sh.eD ?_|refine Sh.eT ?_ (by assumption))|exact Sh.eR _)) _ _ _
  ·have:m=n:=by omega
   subst this
   unfold f3_l2_t
   simp (disch:=first|omega|simp only [RO]|(simp only [RZ]<;>omega)|fail) only [↓RBp,↓RA,↓reduceIte,Nat.reduceAdd,Nat.reduceMul,Nat.reduceEqDiff,RB,RX,RA2]
   exact fin w1 hf (by rw [hcu];exact hc) (fun w' e'=>hK _ ((Ext.frm ew hf (fun x hx=>by rw [hx];exact ow)).trans e'))
theorem fo_good (L:Lv w0 w Y D) (gl:Glob w0) (on:On D) (hn:D.n=100) (hx:D.exe≤1000) (j1:J1 D.co) (hT:Y.tb 0=T) (hQ:Y.d=Q) (hq:32≤q) (hl:l0+q≤100) (K:K1) (hK:∀w',Ext w0 w'→K (.bool true) w'):
  f3_k1 K (.int .i64 (l0:Int)) (.int .i64 (q:Int)) (.pointer (some ⟨Q,0,none⟩)) (.pointer (some ⟨T,0,none⟩)) w:=by
 have gd:=L.gd
 obtain ⟨n,hqn⟩:∃n,q/32=n:=⟨_,rfl⟩
 have n0:0<n:=by omega
 have hln:l0+32*n≤D.n:=by omega
 have eq32:(q:Int)/32=(n:Int):=by omega
 obtain ⟨o1,g1,n1,x1⟩:=fmtD_ok on gd hln n (Nat.le_refl _)
 obtain ⟨hcur,_,_⟩:=fmt_all on gd hln j1 n (Nat.le_refl _)
 have hpers:=fmt_pers on gd hln j1 n0
 rw [←hcur] at hpers
 have hw0:∀k,k<n→wd (fmtD D l0 n) (l0+32*k) 0=frH:=fun k hk=>by
  unfold wd;rw [hcur,Nat.add_zero];exact hW_at hk
 have hfr:=hd_free (g:=1) (by omega) (by omega)
 have hok:∀k,k<n→hdOk (wd (fmtD D l0 n) (l0+32*k) 0)=true:=fun k hk=>by rw [hw0 k hk];exact hfr.1
 have hfc:frC (opF (fmtD D l0 n) l0) n=n:=frC_all n (fun k hk=>by unfold opF;rw [hw0 k hk];show hC frH<0;rw [hfr.2.1];decide)
 have hfo:∀(w1:World) (K:K1),Ext w w1→(∀w' Y',Stp w1 Y w' Y' (fmtD D l0 n)→K (.int .i64 0) w')→callS prog 10 #[.iface 28 (.pointer (some ⟨T,0,none⟩)),.int .i64 (l0:Int),.int .i64 (q:Int)] w1 K:=fun w1 K e hK=>by
  subst hT
  exact k_AFormat (L.ext e) gl on gd (by omega) hq (by omega) K (by rw [hqn];exact hK)
 have hN:8*(8*D.n)=6400:=by rw [hn]
 have hcu:=fun (K:K1) hK=>k_Cur L.dv gd hN hQ K hK
 have hn1:(fmtD D l0 n).n=100:=by rw [n1,hn]
 rw [f3_k1_eq]
 unfold f3_k1_t
 refine hcu _ (fun b1 w1 e1 hb1 hc1=> ?_)
 simp (disch:=first|omega|simp only [RO]|(simp only [RZ]<;>omega)|fail) only [↓RBp,↓RA,↓reduceIte,Nat.reduceAdd,Nat.reduceMul,Nat.reduceEqDiff,RB,RX,RA2]
 refine hfo _ _ (e1.trans (by repeat (first|(with_reducible first|refine Sh.eB ?_ _|assumption|exact Sh.eR _|refine Sh.eA ?_ _|refine Sh.eD ?_|refine Sh.eT ?_ (by assumption))|exact Sh.eR _))) (fun w2 Y2 st=> ?_)
 have e12:=e1.trans (show Ext w1 w1 from Ext.refl _)
 have L2:Lv w0 w2 Y2 (fmtD D l0 n):=(L.ext (e1.trans (by repeat (first|(with_reducible first|refine Sh.eB ?_ _|assumption|exact Sh.eR _|refine Sh.eA ?_ _|refine Sh.eD ?_|refine Sh.eT ?_ (by assumption))|exact Sh.eR _)))).step st g1
 have hT2:Y2.tb 0=T:=by rw [st.tb];exact hT
 have hQ2:Y2.d=Q:=st.d.trans hQ
 have nb:¬Y.F b1:=fun hf=>by have:=L.dv.lt hf;omega
 have hc2:=(hc1.ext (by repeat (first|(with_reducible first|refine Sh.eB ?_ _|assumption|exact Sh.eR _|refine Sh.eA ?_ _|refine Sh.eD ?_|refine Sh.eT ?_ (by assumption))|exact Sh.eR _))).frm st.frm nb
 have nb2:¬Y2.F b1:=fun hf=>by
  rcases st.fr b1 hf with h|h
  ·exact nb h
  ·have:=hc1.lt;omega
 generalize fmtD D l0 n=DF at*
 have hop:∀(w3:World) (K:K1),Ext w2 w3→(∀S b o cp w',Ext w3 w'→ArS w0 w' Y2 DF S b o cp l0 n (opF DF l0)→K (.tuple #[stV S,.int .i64 0]) w')→callS prog 11 #[.iface 28 (.pointer (some ⟨T,0,none⟩)),.int .i64 (l0:Int),.int .i64 (q:Int)] w3 K:=fun w3 K e hK=>by
  subst hT2
  exact k_AOpen (L2.ext e) gl o1.off o1.err hq (by omega) hqn K (fun hb=>absurd hok hb) (fun _ S b o cp w' e' _ _ h=>hK S b o cp w' e' h)
 simp (disch:=first|omega|simp only [RO]|(simp only [RZ]<;>omega)|fail) only [↓RBp,↓RA,↓reduceIte,Nat.reduceAdd,Nat.reduceMul,Nat.reduceEqDiff,RB,RX,RA2]
 refine hop _ _ (by repeat (first|(with_reducible first|refine Sh.eB ?_ _|assumption|exact Sh.eR _|refine Sh.eA ?_ _|refine Sh.eD ?_|refine Sh.eT ?_ (by assumption))|exact Sh.eR _)) (fun S b o cp w3 e3 h3=> ?_)
 have e23:Ext w2 w3:=Ext.trans (by repeat (first|(with_reducible first|refine Sh.eB ?_ _|assumption|exact Sh.eR _|refine Sh.eA ?_ _|refine Sh.eD ?_|refine Sh.eT ?_ (by assumption))|exact Sh.eR _)) e3
 simp (disch:=first|omega|simp only [RO]|(simp only [RZ]<;>omega)|fail) only [↓RBp,↓RA,↓reduceIte,Nat.reduceAdd,Nat.reduceMul,Nat.reduceEqDiff,RB,RX,RA2,eq32]
 refine k_FreeChunks h3 _ (fun w4 e4=> ?_)
 rw [hfc]
 simp (disch:=first|omega|simp only [RO]|(simp only [RZ]<;>omega)|fail) only [↓RBp,↓RA,↓reduceIte,Nat.reduceAdd,Nat.reduceMul,Nat.reduceEqDiff,RB,RX,RA2,eq32]
 refine k_Lines (h3.ext e4) _ (fun lv w5 e5 nv hl5=> ?_)
 have hlen:(lnL (fun _=>true) l0 n).length=n:=by
  have h:∀n,(lnL (fun _=>true) l0 n).length=n:=fun n=>by
   induction n with
   |zero=>rfl
   |succ n ih=>simp [lnL,ih]
  exact h n
 rw [hlen] at hl5
 obtain ⟨lb,lo,lc,rfl,_⟩:=hl5.isS n0
 have e25:=e23.trans (e4.trans e5)
 have ow:w0.heap.size≤b1:=Nat.le_trans L.ex.size hb1
 simp (disch:=first|omega|simp only [RO]|(simp only [RZ]<;>omega)|fail) only [↓RBp,↓RA,↓reduceIte,Nat.reduceAdd,Nat.reduceMul,Nat.reduceEqDiff,RB,RX,RA2,eq32]
 exact fo_l2 (L2.dv.ext (e25.trans (by repeat (first|(with_reducible first|refine Sh.eB ?_ _|assumption|exact Sh.eR _|refine Sh.eA ?_ _|refine Sh.eD ?_|refine Sh.eT ?_ (by assumption))|exact Sh.eR _)))) g1 hn1 hQ2 nb2 (hc2.ext (e25.trans (by repeat (first|(with_reducible first|refine Sh.eB ?_ _|assumption|exact Sh.eR _|refine Sh.eA ?_ _|refine Sh.eD ?_|refine Sh.eT ?_ (by assumption))|exact Sh.eR _)))) (by omega) n0 hcur hpers ow (L2.ex.trans (e25.trans (by repeat (first|(with_reducible first|refine Sh.eB ?_ _|assumption|exact Sh.eR _|refine Sh.eA ?_ _|refine Sh.eD ?_|refine Sh.eT ?_ (by assumption))|exact Sh.eR _)))) K hK
theorem fo_l1 (L:Lv w0 w Y (foD s 0)) (gl:Glob w0) (hs:s<18446744073709551616) (hT:Y.tb 0=T) (hQ:Y.d=Q) (line lines:Int) (h1: -9223372036854775808≤line) (h2:line<9223372036854775808) (h3: -9223372036854775808≤lines) (h4:lines<9223372036854775808) (K:K1) (hK:∀w',Ext w0 w'→K (.bool true) w'):
  f3_l1 K (.int .i64 line) (.int .i64 lines) (.int .u64 (s:Int)) (.pointer (some ⟨Q,0,none⟩)) (.pointer (some ⟨T,0,none⟩)) (.int .i64 0) w:=by
 apply f3_l1_rule (I:=fun y z w'=>∃(k:Nat) (Y':Lay),y= .int .u64 (sdN s k:Int)∧z= .int .i64 (k:Int)∧k≤100∧Lv w0 w' Y' (foD s k)∧Y'.tb 0=T∧Y'.d=Q) (μ:=fun _ z _=>100-(intOf z).toNat)
 ·exact ⟨0,Y,rfl,rfl,by omega,L,hT,hQ⟩
 ·intros;rename_i y z w1 hI E1 hE
  obtain ⟨k,Y1,rfl,rfl,hk,L1,hT1,hQ1⟩:=hI
  obtain ⟨o1,g1,n1,x1,j1⟩:=foD_ok (s:=s) (k:=k) hs hk
  by_cases hk1:k<100
  ·obtain ⟨o2,g2,n2,x2,j2⟩:=foD_ok (s:=s) (k:=k+1) hs (by omega)
   have hsu:=foD_succ s k
   have hlt:=sdN_lt hs k
   have hlt2:=sdN_lt hs (k+1)
   have ek:(k:Int)+1=((k+1:Nat):Int):=by omega
   have hsd:(sdN s k*6364136223846793005%18446744073709551616+1442695040888963407)%18446744073709551616=sdN s (k+1):=by simp only [sdN];omega
   have hmu:=fun (x y:Operand) (a c:Nat) (w:World) (k:K1)=>ev_of_run (mul_mod64 (P:=prog) 22 x y a c w) k
   have had:∀(x y:Operand) (a c:Nat) (w:World) (k:K1),ev prog (binM .add 22 x y (.int .u64 (a:Int)) (.int .u64 (c:Int))) w k=k (.int .u64 (((a+c)%18446744073709551616:Nat):Int)) w:=fun x y a c w k=>ev_of_run (add_mod (k:= .u64) rfl _ x y a c w) k
   have hst:∀(w2:World) (K:K1),Ext w1 w2→(∀w' Y',Stp w2 Y1 w' Y' (foD s (k+1))→K (.tuple #[]) w')→callS prog 8 #[.pointer (some ⟨T,0,none⟩),.int .u64 ((64*k:Nat):Int),.int .u64 (sdN s (k+1):Int)] w2 K:=fun w2 K e hK=>by
    subst hT1
    exact k_Store (L1.dv.ext e) g1 0 (by omega) (64*k) (sdN s (k+1)) (by omega) K (by rw [←hsu];exact hK)
   have step:∀w2 w' Y',Ext w1 w2→Stp w2 Y1 w' Y' (foD s (k+1))→E1 (.int .u64 (sdN s (k+1):Int)) (.int .i64 ((k+1:Nat):Int)) w':=fun w2 w' Y' e st=>by
    apply hE
    ·exact ⟨k+1,Y',rfl,rfl,by omega,(L1.ext e).step st g2,by rw [st.tb];exact hT1,st.d.trans hQ1⟩
    ·simp [intOf];omega
   generalize foD s (k+1)=D2 at*
   generalize hx:sdN s (k+1)=x at*
   generalize sdN s k=y at*
   unfold f3_l1_t
   simp (disch:=first|omega|simp only [RO]|(simp only [RZ]<;>omega)|fail) only [↓RBp,↓RA,↓reduceIte,Nat.reduceAdd,Nat.reduceMul,Nat.reduceEqDiff,RB,RX,RA2,hmu,had,hsd]
   refine hst _ _ (by repeat (first|(with_reducible first|refine Sh.eB ?_ _|assumption|exact Sh.eR _|refine Sh.eA ?_ _|refine Sh.eD ?_|refine Sh.eT ?_ (by assumption))|exact Sh.eR _)) (fun w2 Y2 st=> ?_)
   simp (disch:=first|omega|simp only [RO]|(simp only [RZ]<;>omega)|fail) only [↓RBp,↓RA,↓reduceIte,Nat.reduceAdd,Nat.reduceMul,Nat.reduceEqDiff,RB,RX,RA2,ek,hmu,had,hsd]
   exact step _ _ _ (by repeat (first|(with_reducible first|refine Sh.eB ?_ _|assumption|exact Sh.eR _|refine Sh.eA ?_ _|refine Sh.eD ?_|refine Sh.eT ?_ (by assumption))|exact Sh.eR _)) st
  ·have:k=100:=by omega
   subst this
   have fin:f3_k1 K (.int .i64 line) (.int .i64 lines) (.pointer (some ⟨Q,0,none⟩)) (.pointer (some ⟨T,0,none⟩)) w1:=by
    by_cases hb:line<0∨lines<32∨100<line∨100-line<lines
    ·exact fo_bad L1.dv g1 n1 hT1 hQ1 line lines h1 h2 h3 h4 hb K (fun w' e=>hK _ (L1.ex.trans e))
    ·obtain ⟨l0,rfl⟩:∃l0:Nat,line=(l0:Int):=⟨line.toNat,by omega⟩
     obtain ⟨q,rfl⟩:∃q:Nat,lines=(q:Int):=⟨lines.toNat,by omega⟩
     exact fo_good L1 gl o1 n1 (by omega) j1 hT1 hQ1 (by omega) (by omega) K hK
   unfold f3_l1_t
   simp (disch:=first|omega|simp only [RO]|(simp only [RZ]<;>omega)|fail) only [↓RBp,↓RA,↓reduceIte,Nat.reduceAdd,Nat.reduceMul,Nat.reduceEqDiff,RB,RX,RA2]
   exact fin
theorem law_formats (hG:Glob w) (line lines:Int) (h1: -9223372036854775808≤line) (h2:line<9223372036854775808) (h3: -9223372036854775808≤lines) (h4:lines<9223372036854775808) (hs:s<18446744073709551616) (K:K1) (hK:∀w',Ext w w'→K (.bool true) w'):
  callS prog 3 #[.int .i64 line,.int .i64 lines,.int .u64 (s:Int)] w K:=by
 refine f3_call _ _ _ _ _ ?_
 unfold f3_t
 refine k_awake22 hG _ (fun w1 e1=> ?_)
 simp (disch:=first|omega|simp only [RO]|(simp only [RZ]<;>omega)|fail) only [↓RBp,↓RA,↓reduceIte,Nat.reduceAdd,Nat.reduceMul,Nat.reduceEqDiff,RB,RX,RA2]
 refine k_New 100 (by omega) (by omega) _ (fun w2 Y he hd hF hdt=> ?_)
 have hT:∀(w3:World) (K:K1),Ext w2 w3→callS prog 7 #[.pointer (some ⟨Y.d,0,none⟩),.int .i64 0] w3 K=K (.pointer (some ⟨Y.tb 0,0,none⟩)) w3:=fun w3 K e=>by rw [←hdt];exact c_Thread (hd.ext e) 0 (by omega) K
 have L:Lv w1 w2 Y (foD s 0):=⟨hd,Good.zero 100 (by omega) (by omega),he,hF⟩
 simp (disch:=first|omega|simp only [RO]|(simp only [RZ]<;>omega)|(with_reducible (repeat (first|assumption|exact Ext.refl _|refine Ext.alloc ?_ _|refine Ext.drew ?_|refine Ext.trans ?_ (by assumption))))|fail) only [↓RBp,↓RA,↓reduceIte,Nat.reduceAdd,Nat.reduceMul,Nat.reduceEqDiff,RB,RX,RA2,hT]
 exact fo_l1 (L.ext (by repeat (first|(with_reducible first|refine Sh.eB ?_ _|assumption|exact Sh.eR _|refine Sh.eA ?_ _|refine Sh.eD ?_|refine Sh.eT ?_ (by assumption))|exact Sh.eR _))) (hG.ext e1) hs rfl rfl line lines h1 h2 h3 h4 K (fun w' e'=>hK _ (e1.trans e'))
end
end Go.Proofs.YtifpinhjpbgnoaaDoor
