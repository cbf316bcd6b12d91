/-
  Part 4 of what the proofs of this seat share.
-/
import Derived.Test.YtifpinhjpbgnoaaDoorBp3
import Derived.Test.YtifpinhjpbgnoaaDoorBp1
set_option linter.unusedSimpArgs false
set_option linter.unusedVariables false
set_option maxHeartbeats 4000000
set_option maxRecDepth 100000
open Go.Proofs.Tryd (prog)
open Go.RowKit (intOf)
namespace Go.Proofs.YtifpinhjpbgnoaaDoor
open Go Go.Sh
section
variable {w w':World}
def clrI (l g:Nat):List Ins:=storesI [(l*64,sealN (hdX (-1) (-1) g))]
theorem storesI_pos (ws:List (Nat×Nat)):0<(storesI ws).length:=by simp [storesI];omega
theorem k_Clear (hG:Glob w) (l g:Nat) (hl:l≤4064) (hg:g≠0) (hg':g<65536) (K:K1) (hK:∀v' w',SlO w' 110 3 v' (clrI l g).length (inL (clrI l g))→Ext w w'→NewV w.heap.size v'→K (.tuple #[v',.int .i64 0]) w'):
  callS prog 30 #[.int .i64 (l:Int),.int .u16 (g:Int)] w K:=by
 refine f30_call _ _ _ _ ?_
 unfold f30_t
 have hw:∀(w1:World) (K:K1),Ext w w1→callS prog 48 #[.agg #[.int .i64 (-1),.int .i64 (-1),.int .u16 (g:Int)]] w1 K=K (.int .u64 ((sealN (hdX (-1) (-1) g):Nat):Int)) ((w1.alloc (hdO (-1) (-1) g)).alloc (sealO (hdX (-1) (-1) g))):=fun w1 K he=>c_hword (-1) (-1) g w1 K (hG.ext he) hg' (by omega) (by omega) (by omega) (by omega)
 (repeat' (first|(with_reducible first|refine brS_mk (fun _=> ?_) (fun _=> ?_)|refine And.intro ?_ ?_)|(simp (disch:=first|omega|simp only [RO]|(simp only [RZ]<;>omega)|(with_reducible (repeat (first|assumption|exact Ext.refl _|refine Ext.alloc ?_ _|refine Ext.drew ?_|refine Ext.trans ?_ (by assumption))))|fail) only [↓RBp,↓RA,↓reduceIte,Nat.reduceAdd,Nat.reduceMul,Nat.reduceEqDiff,RB,RX,RA2,c_possible,c_line,hw,Int.toNat_natCast])))
 refine k_Stores [(l*64,sealN (hdX (-1) (-1) g))] _ ?_ (by simp) (by simp) ?_ _ (fun v' w' hs he hn=> ?_)
 ·exact (SlO.lit' _ 104 2 1 (wrL [(l*64,sealN (hdX (-1) (-1) g))]) rfl (by decide) (by simp only [RZ])).ext (Ext.refl _).drew
 ·intro x hx;simp only [List.mem_singleton] at hx;subst hx;simp only;omega
 ·refine hK v' w' hs (Ext.trans (by repeat (first|(with_reducible first|refine eB ?_ _|assumption|exact eR _|refine eA ?_ _|refine eD ?_|refine eT ?_ (by assumption))|exact eR _)) he) (fun b hb=>Nat.le_trans ?_ (hn b hb))
  simp only [RZ];omega
def planW (l:Nat) (c:Int) (g:Nat):List (Nat×Nat):=(List.range (perS c).toNat).map (fun (i:Nat)=>(l*64+(offS c (i:Int)).toNat*8,sealN (blkX g 0 176)))++(List.range 7).map (fun k=>(l*64+(k+1)*8,0))
def planI (l:Nat) (c o:Int) (g:Nat):List Ins:=storesI (planW l c g)++storesI [(l*64,sealN (hdX c o g))]
theorem planW_len (l:Nat) (c:Int) (g:Nat):(planW l c g).length=(perS c).toNat+7:=by simp [planW]
theorem k_Plan (hG:Glob w) (l:Nat) (c o:Int) (g:Nat) (hl:l≤4064) (hc0:0≤c) (hc:c<5) (ho0:0≤o) (ho:o<8) (hg:g≠0) (hg':g<65536) (K:K1) (hK:∀v' w',SlO w' 110 3 v' (planI l c o g).length (inL (planI l c o g))→Ext w w'→NewV w.heap.size v'→K (.tuple #[v',.int .i64 0]) w'):
  callS prog 36 #[.int .i64 (l:Int),.agg #[.int .i64 c,.int .i64 o,.int .u16 (g:Int)]] w K:=by
 refine f36_call _ _ _ _ ?_
 unfold f36_t
 have hp:=perS_in hc0 hc
 have hwd:=wordsS_in hc0 hc
 have hf:∀(w1:World) (K:K1),Ext w w1→callS prog 54 #[.agg #[.int .i64 c,.int .i64 o,.int .u16 (g:Int)]] w1 K=K (.bool true) (w1.alloc (hdO c o g)):=fun w1 K he=>by
  rw [c_formatted c o g w1 K (hG.ext he)]
  have:fmtB c o=true:=by simp [fmtB];omega
  rw [this]
 have hb:∀(w1:World) (K:K1),Ext w w1→callS prog 55 #[.agg #[.int .u16 (g:Int),.int .u8 ((0:Nat):Int),.int .u8 ((176:Nat):Int)]] w1 K=K (.int .u64 ((sealN (blkX g 0 176):Nat):Int)) ((w1.alloc (blkO g 0 176)).alloc (sealO (blkX g 0 176))):=fun w1 K he=>c_bword g 0 176 w1 K (hG.ext he) hg' (by omega) (by omega)
 have hpc:∀(w1:World) (K:K1),Ext w w1→callS prog 34 #[.int .i64 c] w1 K=K (.int .i64 (perS c)) w1:=fun w1 K he=>c_PerChunk c w1 K (hG.ext he)
 have hw:∀(w1:World) (K:K1),Ext w w1→callS prog 48 #[.agg #[.int .i64 c,.int .i64 o,.int .u16 (g:Int)]] w1 K=K (.int .u64 ((sealN (hdX c o g):Nat):Int)) ((w1.alloc (hdO c o g)).alloc (sealO (hdX c o g))):=fun w1 K he=>c_hword c o g w1 K (hG.ext he) hg' (by omega) (by omega) (by omega) (by omega)
 have hof:∀(i:Nat) (w1:World) (K:K1),Ext w w1→i<(perS c).toNat→callS prog 56 #[.int .i64 c,.int .i64 (i:Int)] w1 K=K (.tuple #[.int .i64 (((offS c (i:Int)).toNat:Nat):Int),.int .i64 0]) w1:=fun i w1 K he hi=>by
  have hb:=offS_bd hc0 hc (show 0≤(i:Int) by omega) (by omega)
  rw [c_Offset c i w1 K (hG.ext he) hc0 hc (by omega) (by omega),show (((offS c (i:Int)).toNat:Nat):Int)=offS c i by omega]
 (repeat' (first|(with_reducible first|refine brS_mk (fun _=> ?_) (fun _=> ?_)|refine And.intro ?_ ?_)|(simp (disch:=first|omega|simp only [RO]|(simp only [RZ]<;>omega)|(with_reducible (repeat (first|assumption|exact Ext.refl _|refine Ext.alloc ?_ _|refine Ext.drew ?_|refine Ext.trans ?_ (by assumption))))|fail) only [↓RBp,↓RA,↓reduceIte,Nat.reduceAdd,Nat.reduceMul,Nat.reduceEqDiff,RB,RX,RA2,c_possible,c_line,hf,hb,hpc,Int.toNat_natCast])))
 have e1:Ext w (w.alloc (.cells #[.int .i64 c,.int .i64 o,.int .u16 (g:Int)] 79)):=Ext.alloc_self _ _
 have hcell:∀w',Ext (w.alloc (.cells #[.int .i64 c,.int .i64 o,.int .u16 (g:Int)] 79)) w'→w'.cell? ⟨w.heap.size,0,none⟩=some (.int .i64 c)∧w'.cell? ⟨w.heap.size,1,none⟩=some (.int .i64 o)∧w'.cell? ⟨w.heap.size,2,none⟩=some (.int .u16 (g:Int)):=by
  intro w' he
  have:∀i,w'.cell? ⟨w.heap.size,i,none⟩=_:=fun i=>he.cell _ i (by simp only [RZ];omega)
  refine ⟨?_,?_,?_⟩<;>(rw [this,cell_new _ _ _ _ _ rfl];rfl)
 generalize hw1:w.alloc (.cells #[.int .i64 c,.int .i64 o,.int .u16 (g:Int)] 79)=w1 at*
 have s1:w.heap.size<w1.heap.size:=by rw [←hw1];simp only [RZ];omega
 generalize hA:(List.range (perS c).toNat).map (fun (i:Nat)=>(l*64+(offS c (i:Int)).toNat*8,sealN (blkX g 0 176)))=A
 have hAl:A.length=(perS c).toNat:=by rw [←hA];simp
 generalize hB:(List.range 7).map (fun k=>(l*64+(k+1)*8,0))=B
 have hBl:B.length=7:=by rw [←hB];simp
 have hAB:planW l c g=A++B:=by unfold planW;rw [hA,hB]
 have hper:perS c=(((perS c).toNat:Nat):Int):=by omega
 generalize hn:(perS c).toNat=n at*
 rw [hper]
 apply f36_l1_rule (I:=fun x z w'=>∃i:Nat,z= .int .i64 (i:Int)∧i≤n∧SlO w' 104 2 x i (wrL (A.take i))∧Frm Nob w1 w'∧NewV w1.heap.size x) (μ:=fun _ z _=>n-(intOf z).toNat)
 ·exact ⟨0,rfl,by omega,SlO.nil _ _ _,Frm.of_ext (by repeat (first|(with_reducible first|refine eB ?_ _|assumption|exact eR _|refine eA ?_ _|refine eD ?_|refine eT ?_ (by assumption))|exact eR _)),fun b hb=>by cases hb⟩
 ·intros;rename_i w2 hI E1 hE
  obtain ⟨i,rfl,hi,sp,f2,n2⟩:=hI
  have e2:Ext w1 w2:=f2.to_ext (fun _ _ h=>h)
  have e02:Ext w w2:=e1.trans e2
  obtain ⟨q0,q1,q2⟩:=hcell w2 e2
  obtain ⟨pa,pc,rfl,hpc2⟩:=sp.isS'
  have lt2:w.heap.size<w2.heap.size:=Nat.lt_of_lt_of_le s1 e2.size
  unfold f36_l1_t
  by_cases hin:i<n
  ·have hb2:=offS_bd hc0 hc (show 0≤(i:Int) by omega) (by omega)
   generalize ho2:(offS c (i:Int)).toNat=oi at*
   have hA2:A[i]? =some (l*64+oi*8,sealN (blkX g 0 176)):=by rw [←hA];simp [hin,ho2]
   have hof2:∀(w1:World) (K:K1),Ext w w1→callS prog 56 #[.int .i64 c,.int .i64 (i:Int)] w1 K=K (.tuple #[.int .i64 (oi:Int),.int .i64 0]) w1:=fun w1 K he=>by rw [hof i w1 K he hin,ho2]
   simp (disch:=first|omega|simp only [RO]|(simp only [RZ]<;>omega)|(with_reducible (repeat (first|assumption|exact Ext.refl _|refine Ext.alloc ?_ _|refine Ext.drew ?_|refine Ext.trans ?_ (by assumption))))|fail) only [↓RBp,↓RA,↓reduceIte,Nat.reduceAdd,Nat.reduceMul,Nat.reduceEqDiff,RB,RX,RA2,q0,q1,q2,hof2,c_line,Int.toNat_natCast]
   refine app_new elWrite (w0:=w1) (sp.ext (by repeat (first|(with_reducible first|refine eB ?_ _|assumption|exact eR _|refine eA ?_ _|refine eD ?_|refine eT ?_ (by assumption))|exact eR _))) (f2.ext (by repeat (first|(with_reducible first|refine eB ?_ _|assumption|exact eR _|refine eA ?_ _|refine eD ?_|refine eT ?_ (by assumption))|exact eR _))) n2 (m:=1) (news:=wrL [(l*64+oi*8,sealN (blkX g 0 176))]) (by simp [wrL]) ?_ rfl (by omega) (by omega) (by omega) (fun v' w3 hsp hf3 n3 _ _=> ?_)
   ·intro j u hj
    rw [Nat.zero_add,cell_new _ _ _ _ _ (by simp only [RZ])]
    simpa [wrL,u64] using hj
   simp (disch:=first|omega|simp only [RO]|(simp only [RZ]<;>omega)|fail) only [↓RBp,↓RA,↓reduceIte,Nat.reduceAdd,Nat.reduceMul,Nat.reduceEqDiff,RB,RX,RA2]
   apply hE
   ·refine ⟨i+1,by simp,by omega,?_,hf3,n3⟩
    rw [take_snoc' hA2,wrL_append];exact hsp
   ·simp [intOf];omega
  ·have:i=n:=by omega
   subst this
   have hAt:A.take i=A:=by rw [←hAl,List.take_length]
   rw [hAt] at sp
   simp (disch:=first|omega|simp only [RO]|(simp only [RZ]<;>omega)|fail) only [↓RBp,↓RA,↓reduceIte,Nat.reduceAdd,Nat.reduceMul,Nat.reduceEqDiff,RB,RX,RA2,f36_k1_eq,f36_k1_t]
   apply f36_l2_rule (I:=fun x z w'=>∃k:Nat,z= .int .u64 ((k+1:Nat):Int)∧k≤7∧SlO w' 104 2 x (i+k) (wrL (A++B.take k))∧Frm Nob w1 w'∧NewV w1.heap.size x) (μ:=fun _ z _=>8-(intOf z).toNat)
   ·exact ⟨0,rfl,by omega,by simpa using sp,f2,n2⟩
   ·intros;rename_i w3 hI3 E3 hE3
    obtain ⟨k,rfl,hk,sp3,f3,n3⟩:=hI3
    have e3:Ext w1 w3:=f3.to_ext (fun _ _ h=>h)
    have e03:Ext w w3:=e1.trans e3
    obtain ⟨q0,q1,q2⟩:=hcell w3 e3
    obtain ⟨pa3,pc3,rfl,hpc3⟩:=sp3.isS'
    have lt3:w.heap.size<w3.heap.size:=Nat.lt_of_lt_of_le s1 e3.size
    unfold f36_l2_t
    by_cases hk7:k<7
    ·have hB2:B[k]? =some (l*64+(k+1)*8,0):=by rw [←hB];simp [hk7]
     simp (disch:=first|omega|simp only [RO]|(simp only [RZ]<;>omega)|(with_reducible (repeat (first|assumption|exact Ext.refl _|refine Ext.alloc ?_ _|refine Ext.drew ?_|refine Ext.trans ?_ (by assumption))))|fail) only [↓RBp,↓RA,↓reduceIte,Nat.reduceAdd,Nat.reduceMul,Nat.reduceEqDiff,RB,RX,RA2,c_line,Int.toNat_natCast]
     refine app_new elWrite (w0:=w1) (sp3.ext (by repeat (first|(with_reducible first|refine eB ?_ _|assumption|exact eR _|refine eA ?_ _|refine eD ?_|refine eT ?_ (by assumption))|exact eR _))) (f3.ext (by repeat (first|(with_reducible first|refine eB ?_ _|assumption|exact eR _|refine eA ?_ _|refine eD ?_|refine eT ?_ (by assumption))|exact eR _))) n3 (m:=1) (news:=wrL [(l*64+(k+1)*8,0)]) (by simp [wrL]) ?_ rfl (by omega) (by omega) (by omega) (fun v' w4 hsp hf4 n4 _ _=> ?_)
     ·intro j u hj
      rw [Nat.zero_add,cell_new _ _ _ _ _ (by simp only [RZ])]
      simpa [wrL,u64] using hj
     simp (disch:=first|omega|simp only [RO]|(simp only [RZ]<;>omega)|fail) only [↓RBp,↓RA,↓reduceIte,Nat.reduceAdd,Nat.reduceMul,Nat.reduceEqDiff,RB,RX,RA2]
     apply hE3
     ·refine ⟨k+1,by simp,by omega,?_,hf4,n4⟩
      rw [take_snoc' hB2,←List.append_assoc,wrL_append];exact hsp
     ·simp [intOf];omega
    ·have:k=7:=by omega
     subst this
     have hBt:B.take 7=B:=by rw [←hBl,List.take_length]
     rw [hBt,←hAB] at sp3
     have hpl:i+7=(planW l c g).length:=by rw [hAB];simp [hAl,hBl]
     rw [hpl] at sp3
     (repeat' (first|(with_reducible first|refine brS_mk (fun _=> ?_) (fun _=> ?_)|refine And.intro ?_ ?_)|(simp (disch:=first|omega|simp only [RO]|(simp only [RZ]<;>omega)|(with_reducible (repeat (first|assumption|exact Ext.refl _|refine Ext.alloc ?_ _|refine Ext.drew ?_|refine Ext.trans ?_ (by assumption))))|fail) only [↓RBp,↓RA,↓reduceIte,Nat.reduceAdd,Nat.reduceMul,Nat.reduceEqDiff,RB,RX,RA2,q0,q1,q2,hw,c_line,Int.toNat_natCast,f36_k2_eq,f36_k2_t])))
     refine k_Stores [(l*64,sealN (hdX c o g))] _ ?_ (by simp) (by simp) ?_ _ (fun v4 w4 s4 e4 n4=> ?_)
     ·exact (SlO.lit' _ 104 2 1 (wrL [(l*64,sealN (hdX c o g))]) rfl (by decide) (by simp only [RZ])).ext (Ext.refl _).drew
     ·intro x hx;simp only [List.mem_singleton] at hx;subst hx;simp only;omega
     have e34:Ext w3 w4:=Ext.trans (by repeat (first|(with_reducible first|refine eB ?_ _|assumption|exact eR _|refine eA ?_ _|refine eD ?_|refine eT ?_ (by assumption))|exact eR _)) e4
     try simp (disch:=first|omega|simp only [RO]|(simp only [RZ]<;>omega)|fail) only [↓RBp,↓RA,↓reduceIte,Nat.reduceAdd,Nat.reduceMul,Nat.reduceEqDiff,RB,RX,RA2]
     rw [hpl]
     refine k_Stores (planW l c g) _ (sp3.ext e34) (by omega) (by omega) ?_ _ (fun v5 w5 s5 e5 n5=> ?_)
     ·rw [hAB]
      intro x hx
      rcases List.mem_append.1 hx with hx|hx
      ·rw [←hA] at hx
       obtain ⟨j,hj,rfl⟩:=List.mem_map.1 hx
       have hb2:=offS_bd hc0 hc (show 0≤(j:Int) by omega) (by rw [List.mem_range] at hj;omega)
       simp only;omega
      ·rw [←hB] at hx
       obtain ⟨j,hj,rfl⟩:=List.mem_map.1 hx
       rw [List.mem_range] at hj
       simp only;omega
     try simp (disch:=first|omega|simp only [RO]|(simp only [RZ]<;>omega)|fail) only [↓RBp,↓RA,↓reduceIte,Nat.reduceAdd,Nat.reduceMul,Nat.reduceEqDiff,RB,RX,RA2]
     have l1:=storesI_le (planW l c g)
     have l2:=storesI_le [(l*64,sealN (hdX c o g))]
     simp only [List.length_singleton] at l2
     refine k_Then _ _ v5 v4 s5 (s4.ext e5) (storesI_pos _) (storesI_pos _) (by omega) (by omega) _ (fun v6 w6 s6 e6 n6=> ?_)
     have e06:Ext w w6:=((e03.trans e34).trans e5).trans e6
     refine hK v6 w6 s6 e06 (fun b hb=>Nat.le_trans ?_ (n6 b hb))
     exact ((e03.trans e34).trans e5).size
end
section
variable {w w':World} {Y:Lay} {D D':DS}
theorem allOne_map_u64 (l:List Nat):allOne (l.map u64)=true:=by
 induction l with
 |nil=>rfl
 |cons a l ih=>simp [allOne,isOne,ih]
theorem k_Clone64 (l:List Nat) (b o cap:Nat) (hx:∀j u,(l.map u64)[j]? =some u→w.cell? ⟨b,o+j,none⟩=some u) (hb:b<w.heap.size) (h0:0<l.length) (hl:l.length<1099511627776) (K:K1)
  (hK:∀b' c' w',Ext w w'→Cells w' b' 22 l.length (fun i=>u64 (l.getD i 0))→w.heap.size≤b'→l.length≤c'→K (.slice (some ⟨b',0,none⟩) l.length c') w'):callS prog 41 #[.slice (some ⟨b,o,none⟩) l.length cap] w K:=by
 refine f41_call _ _ _ ?_
 unfold f41_t
 simp (disch:=first|omega|simp only [RO]|(simp only [RZ]<;>omega)|fail) only [↓RBp,↓RA,↓reduceIte,Nat.reduceAdd,Nat.reduceMul,Nat.reduceEqDiff,RB,RX,RA2]
 refine blt_append el_56_56 (SlO.lit0 w 22 1) (news:=l.map u64) (by simp) ?_ (allOne_map_u64 l) h0 (by omega) (by omega) (fun v' w' hv hf hn ho=> ?_)
 ·intro j u hj
  rw [cell_old _ _ _ _ hb];exact hx j u hj
 ·have he:Ext w w':=Frm.to_ext (F:=fun b=>b=w.heap.size) (((Frm.of_ext (Ext.alloc_self w _)).trans hf (fun x _ e=>by injection e with e;exact e.symm))) (fun b hb=>by omega)
  have hv2:=hv.2
  rw [Nat.zero_add] at hv2
  rcases hv2 with ⟨_,e⟩|⟨b',o',c',a,rfl,hh,h1,h2,h3,h4⟩
  ·omega
  ·have ho':o'=0:=by rcases ho with h|h<;>simpa [sOff] using h
   subst ho'
   refine hK b' c' w' he ⟨a,hh,by omega,?_⟩ ?_ h1
   ·intro i hi
    have h6:=h4 i (u64 (l.getD i 0)) (by simp [List.getElem?_map,List.getElem?_eq_getElem hi,List.getD_eq_getElem?_getD])
    simpa using h6
   ·rcases hn b' rfl with h|h
    ·have h':w.heap.size=b':=by simpa [Value.ownBlock] using h
     omega
    ·rw [size_alloc] at h;omega
def DS.init (n:Nat) (l:List Nat):DS:={n:=n,cur:=fun i=>l.getD i 0,pers:=fun i=>l.getD i 0,done:=fun _=>0,hist:=fun _=> [],off:=false,armed:=false,left:=0,exe:=0,err:=fun _=>0,notes:=fun _ _=>none}
theorem Good.init (n:Nat) (l:List Nat) (h0:0<n) (hn:n≤4096) (hl:∀x∈l,x<18446744073709551616):Good (DS.init n l):=by
 have hg:∀i,l.getD i 0<18446744073709551616:=by
  intro i
  rw [List.getD_eq_getElem?_getD]
  cases h:l[i]? with
  |none=>simp
  |some x=>exact hl x (List.mem_of_getElem? h)
 exact ⟨h0,hn,fun i _=>hg i,fun i _=>hg i,fun l _ o v h=>by simp [DS.init] at h,fun l _=>Nat.le_refl _,⟨Int.le_refl _,by show (0:Int)<_;omega⟩,fun id _ k p h=>by simp [DS.init] at h⟩
def tagO:Option Obj→Nat
 |some (.cells _ t _)=>t
 |some (.map _ _)=>1000000
 |_=>2000000
def devC (b cb cc lb n:Nat):Array Value:= #[.slice (some ⟨b,0,none⟩) (8*n) (8*n),.slice (some ⟨cb,0,none⟩) (8*n) cc,.slice (some ⟨lb,0,none⟩) n n,.pointer none,.pointer none,.pointer none,.pointer none,.pointer none,.pointer none,.pointer none,.pointer none,.bool false,.bool false,.int .i64 0,.int .u64 ((0:Nat):Int)]
structure Prt (w0 w:World) (d b cb cc lb n:Nat) (tb nb:Nat→Nat) (i:Nat):Prop where
 dev:Cells w d 60 15 (fun j=>if 3≤j∧j<3+i then .pointer (some ⟨tb (j-3),0,none⟩) else (devC b cb cc lb n).getD j undef)
 th:∀j,j<i→Cells w (tb j) 63 4 (fun q=>if q=0 then .pointer (some ⟨d,0,none⟩) else if q=1 then .int .i64 (j:Int) else if q=2 then .int .i64 0 else .map (some (nb j)))
 nt:∀j,j<i→w.heap[nb j]? =some (.map #[] 0)
 lo:∀j,j<i→d<tb j∧d<nb j
 inj:∀j q,j<i→q<i→(tb j=tb q∨nb j=nb q)→j=q
 ext:Frm (fun x=>x=d) w0 w
theorem k_of1 (l:List Nat) (n b cb cc lb d:Nat) (w w1:World) (hd:d=w1.heap.size) (h0:0<n) (hn:n≤4096) (hl:l.length=8*n) (hb:Cells w b 22 (8*n) (fun i=>u64 (l.getD i 0))) (he:Ext w w1) (hcb:Cells w1 cb 22 (8*n) (fun i=>u64 (l.getD i 0))) (h1:w.heap.size≤cb) (hlb:Cells w1 lb 97 (2*n) (fun i=>(#[Value.int .u64 ((0:Nat):Int),.slice none 0 0])[i%2]!)) (h2:w.heap.size≤lb) (K:K1)
  (hK:∀w' Y,Ext w w'→Dv w' Y (DS.init n l)→(∀x,Y.F x→x=b∨w.heap.size≤x)→Y.dt=Y.tb→K (.pointer (some ⟨Y.d,0,none⟩)) w'):f24_k1 K (.pointer (some ⟨d,0,none⟩)) (w1.alloc (.cells (devC b cb cc lb n) 60)):=by
 rw [f24_k1_eq]
 unfold f24_k1_t
 apply f24_l1_rule (I:=fun x w'=>∃(i:Nat) (tb nb:Nat→Nat),x= .int .i64 (i:Int)∧i≤8∧Prt (w1.alloc (.cells (devC b cb cc lb n) 60)) w' d b cb cc lb n tb nb i) (μ:=fun x _=>8-(intOf x).toNat)
 ·refine ⟨0,fun _=>0,fun _=>0,rfl,by omega,⟨?_,fun j hj=>by omega,fun j hj=>by omega,fun j hj=>by omega,fun j q hj=>by omega,Frm.refl _ _⟩⟩
  subst hd
  refine (Cells.new w1 (devC b cb cc lb n).toList 60).congr (fun j hj=> ?_)
  rw [if_neg (by omega)];simp [List.getD_eq_getElem?_getD]
 ·intros;rename_i w2 hI E1 hE
  obtain ⟨i,tb,nb,rfl,hi,hp⟩:=hI
  unfold f24_l1_t
  by_cases hi8:i<8
  ·have c1:=hp.dev.cell (i:=3+i) (by omega)
   have z1:=hp.dev.frz
   have lt:=hp.dev.lt
   simp (disch:=first|omega|simp only [RO]|(simp only [RZ]<;>omega)|fail) only [↓RBp,↓RA,↓reduceIte,Nat.reduceAdd,Nat.reduceMul,Nat.reduceEqDiff,RB,RX,RA2,c1,z1]
   have tl:∀j,j<i→tb j<w2.heap.size:=fun j hj=>(hp.th j hj).lt
   have nl:∀j,j<i→nb j<w2.heap.size:=fun j hj=>lt_of_heap (hp.nt j hj)
   apply hE
   ·refine ⟨i+1,fun j=>if j=i then w2.heap.size+1 else tb j,fun j=>if j=i then w2.heap.size else nb j,by simp,by omega,⟨?_,?_,?_,?_,?_,?_⟩⟩
    ·refine (((hp.dev.set _ (i:=3+i) (by omega)).alloc _).alloc _).congr (fun j hj=> ?_)
     by_cases e:j=3+i
     ·subst e
      rw [if_pos rfl,if_pos (by omega),if_pos (by omega)]
     ·rw [if_neg e]
      by_cases e2:3≤j∧j<3+i
      ·rw [if_pos e2,if_pos (by omega),if_neg (by omega)]
      ·rw [if_neg e2,if_neg (by omega)]
    ·intro j hj
     by_cases e:j=i
     ·subst e
      simp only [if_true]
      have hnew:=Cells.new ((w2.setCell ⟨d,3+j,none⟩ (.pointer (some ⟨w2.heap.size+1,0,none⟩))).alloc (.map #[] 0)) [.pointer (some ⟨d,0,none⟩),.int .i64 (j:Int),.int .i64 0,.map (some w2.heap.size)] 63
      rw [size_alloc,size_set] at hnew
      refine hnew.congr (fun q hq=> ?_)
      have hq':q=0∨q=1∨q=2∨q=3:=by simp at hq;omega
      rcases hq' with rfl|rfl|rfl|rfl<;>simp
     ·have hj':j<i:=by omega
      simp only [e,if_false]
      exact (((hp.th j hj').set_ne _ (by show tb j≠d;have:=(hp.lo j hj').1;omega)).alloc _).alloc _
    ·intro j hj
     by_cases e:j=i
     ·subst e
      simp only [if_true]
      rw [heap_alloc_lt _ (by rw [size_alloc,size_set];omega)]
      have:=heap_alloc_eq (w2.setCell ⟨d,3+j,none⟩ (.pointer (some ⟨w2.heap.size+1,0,none⟩))) (.map #[] 0)
      rw [size_set] at this;exact this
     ·have hj':j<i:=by omega
      simp only [e,if_false]
      rw [heap_alloc_lt _ (by rw [size_alloc,size_set];have:=nl j hj';omega),heap_alloc_lt _ (by rw [size_set];exact nl j hj'),heap_set_ne _ (by show nb j≠d;have:=(hp.lo j hj').2;omega)]
      exact hp.nt j hj'
    ·intro j hj
     by_cases e:j=i
     ·simp only [e,if_true];omega
     ·simp only [e,if_false];exact hp.lo j (by omega)
    ·intro j q hj hq hh
     by_cases e:j=i
     ·by_cases e2:q=i
      ·omega
      ·have a1:=tl q (by omega)
       have a2:=nl q (by omega)
       simp only [e,e2,if_true,if_false] at hh;omega
     ·by_cases e2:q=i
      ·have a1:=tl j (by omega)
       have a2:=nl j (by omega)
       simp only [e,e2,if_true,if_false] at hh;omega
      ·simp only [e,e2,if_false] at hh;exact hp.inj j q (by omega) (by omega) hh
    ·exact ((hp.ext.set _ (fun _=>rfl)).alloc _).alloc _
   ·simp [intOf];omega
  ·have:i=8:=by omega
   subst this
   simp (disch:=first|omega|simp only [RO]|(simp only [RZ]<;>omega)|fail) only [↓RBp,↓RA,↓reduceIte,Nat.reduceAdd,Nat.reduceMul,Nat.reduceEqDiff,RB,RX,RA2,f24_k2_eq,f24_k2_t]
   have ha:=Frm.of_ext (F:=fun x=>x=d) (Ext.alloc_self w1 (.cells (devC b cb cc lb n) 60))
   have hf:=ha.trans hp.ext (fun _ _ h=>h)
   have hE2:Ext w w2:=Frm.to_ext (F:=fun x=>x=d) ((Frm.of_ext he).trans hf (fun _ _ h=>h)) (fun x hx=>by have:=he.size;omega)
   have c1:=hb.ext hE2
   have c2:=hcb.frm hf (by have:=hcb.lt;omega)
   have c3:=hlb.frm hf (by have:=hlb.lt;omega)
   have lb1:=hb.lt
   have wle:=he.size
   refine hK w2 {n:=n,d:=d,pb:=b,cb:=cb,pc:=8*n,cc:=cc,lb:=lb,tb:=tb,nb:=nb,dt:=tb,ids:=fun i=>i,hv:=fun _=> .slice none 0 0} hE2 ⟨rfl,?_,c1,c2,?_,?_,?_,?_,?_⟩ ?_ rfl
   ·refine hp.dev.congr (fun j hj=> ?_)
    by_cases e:3≤j∧j<11
    ·rw [if_pos (by omega)];unfold devF;rw [if_neg (by omega),if_neg (by omega),if_neg (by omega),if_pos (by omega)]
    ·rw [if_neg (by omega)]
     have hj':j=0∨j=1∨j=2∨j=11∨j=12∨j=13∨j=14:=by omega
     rcases hj' with rfl|rfl|rfl|rfl|rfl|rfl|rfl<;>rfl
   ·refine c3.congr (fun j hj=> ?_)
    have hj':j%2=0∨j%2=1:=by omega
    rcases hj' with e|e<;>simp [linF,DS.init,e]
   ·intro q hq;exact SlO.nil _ _ _
   ·intro j hj
    refine (hp.th j hj).congr (fun q hq=> ?_)
    simp only [thF,DS.init]
   ·intro j hj
    refine ⟨#[],0,?_⟩
    have:ntF (DS.init n l) j=fun _=>none:=by funext q;rfl
    rw [this];exact MapI.empty (hp.nt j hj)
   ·obtain ⟨a1,o1,_⟩:=hp.dev
    obtain ⟨a2,o2,_⟩:=c1
    obtain ⟨a3,o3,_⟩:=c2
    obtain ⟨a4,o4,_⟩:=c3
    have nbc:b≠cb:=by omega
    intro r r' x hr hr'
    have key:∀r,Lay.blk {n:=n,d:=d,pb:=b,cb:=cb,pc:=8*n,cc:=cc,lb:=lb,tb:=tb,nb:=nb,dt:=tb,ids:=fun i=>i,hv:=fun _=> .slice none 0 0} r=some x→
      (r= .dev∧tagO w2.heap[x]? =60)∨(r= .pe∧tagO w2.heap[x]? =22∧x=b)∨(r= .cu∧tagO w2.heap[x]? =22∧x=cb)∨(r= .li∧tagO w2.heap[x]? =97)∨(∃j,j<8∧r= .th j∧tagO w2.heap[x]? =63∧x=tb j)∨(∃j,j<8∧r= .nt j∧tagO w2.heap[x]? =1000000∧x=nb j):=by
     intro r hr
     cases r with
     |dev=>simp [Lay.blk] at hr;subst hr;exact .inl ⟨rfl,by rw [o1];rfl⟩
     |pe=>simp [Lay.blk] at hr;subst hr;exact .inr (.inl ⟨rfl,by rw [o2];rfl,rfl⟩)
     |cu=>simp [Lay.blk] at hr;subst hr;exact .inr (.inr (.inl ⟨rfl,by rw [o3];rfl,rfl⟩))
     |li=>simp [Lay.blk] at hr;subst hr;exact .inr (.inr (.inr (.inl ⟨rfl,by rw [o4];rfl⟩)))
     |th j=>
      simp [Lay.blk] at hr
      obtain ⟨a,o,_⟩:=hp.th j hr.1
      exact .inr (.inr (.inr (.inr (.inl ⟨j,hr.1,rfl,by rw [←hr.2,o];rfl,hr.2.symm⟩))))
     |nt j=>simp [Lay.blk] at hr;exact .inr (.inr (.inr (.inr (.inr ⟨j,hr.1,rfl,by rw [←hr.2,hp.nt j hr.1];rfl,hr.2.symm⟩))))
     |hs q=>simp [Lay.blk,Value.ownBlock] at hr
    rcases key r hr with ⟨rfl,e1⟩|⟨rfl,e1,f1⟩|⟨rfl,e1,f1⟩|⟨rfl,e1⟩|⟨j,hj,rfl,e1,f1⟩|⟨j,hj,rfl,e1,f1⟩<;>
    rcases key r' hr' with ⟨rfl,e2⟩|⟨rfl,e2,f2⟩|⟨rfl,e2,f2⟩|⟨rfl,e2⟩|⟨q,hq,rfl,e2,f2⟩|⟨q,hq,rfl,e2,f2⟩<;>
    first
     |rfl
     |(exfalso;clear hr hr' key hK hl;omega)
     |(rw [hp.inj j q hj hq (.inl (f1.symm.trans f2))])
     |(rw [hp.inj j q hj hq (.inr (f1.symm.trans f2))])
   ·rintro x ⟨r,hr⟩
    cases r with
    |dev=>simp [Lay.blk] at hr;omega
    |pe=>simp [Lay.blk] at hr;omega
    |cu=>simp [Lay.blk] at hr;omega
    |li=>simp [Lay.blk] at hr;omega
    |th j=>simp [Lay.blk] at hr;have:=(hp.lo j hr.1).1;omega
    |nt j=>simp [Lay.blk] at hr;have:=(hp.lo j hr.1).2;omega
    |hs q=>simp [Lay.blk,Value.ownBlock] at hr
theorem k_of (l:List Nat) (n b:Nat) (h0:0<n) (hn:n≤4096) (hl:l.length=8*n) (hc:Cells w b 22 (8*n) (fun i=>u64 (l.getD i 0))) (K:K1)
  (hK:∀w' Y,Ext w w'→Dv w' Y (DS.init n l)→(∀x,Y.F x→x=b∨w.heap.size≤x)→Y.dt=Y.tb→K (.pointer (some ⟨Y.d,0,none⟩)) w'):callS prog 24 #[.slice (some ⟨b,0,none⟩) (8*n) (8*n)] w K:=by
 have hx:∀(w:World) (hc:Cells w b 22 (8*n) (fun i=>u64 (l.getD i 0))) j u,(l.map u64)[j]? =some u→w.cell? ⟨b,0+j,none⟩=some u:=by
  intro w hc j u hj
  rw [Nat.zero_add]
  have hj':=(List.getElem?_eq_some_iff.1 hj).1
  rw [List.length_map] at hj'
  rw [hc.cell (by omega),←hj]
  simp [List.getElem?_map,List.getElem?_eq_getElem hj',List.getD_eq_getElem?_getD]
 refine f24_call _ _ _ ?_
 unfold f24_t
 have hd:=hc.drew
 have e8:((8*n:Nat):Int)/8=(n:Int):=by omega
 (repeat' (first|(with_reducible first|refine brS_mk (fun _=> ?_) (fun _=> ?_)|refine And.intro ?_ ?_)|(simp (disch:=first|omega|simp only [RO]|(simp only [RZ]<;>omega)|fail) only [↓RBp,↓RA,↓reduceIte,Nat.reduceAdd,Nat.reduceMul,Nat.reduceEqDiff,RB,RX,RA2,e8])))
 ·rw [←hl]
  refine k_Clone64 l b 0 _ (hx _ hd) hd.lt (by omega) (by omega) _ (fun b' c' w1 he hcb hb' hc'=> ?_)
  rw [hl] at hcb ⊢
  have hlt:=hcb.lt
  (repeat' (first|(with_reducible first|refine brS_mk (fun _=> ?_) (fun _=> ?_)|refine And.intro ?_ ?_)|(simp (disch:=first|omega|simp only [RO]|(simp only [RZ]<;>omega)|fail) only [↓RBp,↓RA,↓reduceIte,Nat.reduceAdd,Nat.reduceMul,Nat.reduceEqDiff,RB,RX,RA2,e8])))
  refine k_of1 l n b b' c' w1.heap.size _ w (w1.alloc (.cells (zrow (.agg #[.int .u64 ((0:Nat):Int),.slice none 0 0]) (n*2)) 97)) (by rw [size_alloc]) h0 hn hl hc (((Ext.refl w).drew.trans he).alloc _) (hcb.alloc _) hb' ?_ (by have:=he.size;exact this) K hK
  rw [Nat.mul_comm 2 n];exact zrow_cells w1 _ (n*2) _
 ·have hd2:=(hc.alloc (.cells (zrow (.agg #[.int .u64 ((0:Nat):Int),.slice none 0 0]) (n*2)) 97)).drew
  rw [←hl]
  refine k_Clone64 l b 0 _ (hx _ hd2) hd2.lt (by omega) (by omega) _ (fun b' c' w1 he hcb hb' hc'=> ?_)
  rw [hl] at hcb ⊢
  have hlt:=hcb.lt
  have hlc:=(zrow_cells w (.agg #[.int .u64 ((0:Nat):Int),.slice none 0 0]) (n*2) 97).drew.ext he
  (repeat' (first|(with_reducible first|refine brS_mk (fun _=> ?_) (fun _=> ?_)|refine And.intro ?_ ?_)|(simp (disch:=first|omega|simp only [RO]|(simp only [RZ]<;>omega)|fail) only [↓RBp,↓RA,↓reduceIte,Nat.reduceAdd,Nat.reduceMul,Nat.reduceEqDiff,RB,RX,RA2,e8])))
  refine k_of1 l n b b' c' w.heap.size _ w w1 rfl h0 hn hl hc ((Ext.alloc_self w _).drew.trans he) hcb (by have h9:=hb';rw [size_drew,size_alloc] at h9;omega) ?_ (Nat.le_refl _) K hK
  rw [Nat.mul_comm 2 n];exact hlc
end
section
variable {w w':World} {Y:Lay} {D D':DS}
def DS.zero (n:Nat):DS:=DS.init n (List.replicate (8*n) 0)
theorem Good.zero (n:Nat) (h0:0<n) (hn:n≤4096):Good (DS.zero n):=Good.init n _ h0 hn (fun x hx=>by rw [List.eq_of_mem_replicate hx];decide)
theorem zero_cur (n i:Nat):(DS.zero n).cur i=0:=by
 show (List.replicate (8*n) 0).getD i 0=0
 rw [List.getD_eq_getElem?_getD,List.getElem?_replicate]
 split<;>rfl
theorem k_New (n:Nat) (h0:0<n) (hn:n≤4096) (K:K1) (hK:∀w' Y,Ext w w'→Dv w' Y (DS.zero n)→(∀x,Y.F x→w.heap.size≤x)→Y.dt=Y.tb→K (.tuple #[.pointer (some ⟨Y.d,0,none⟩),.int .i64 0]) w'):callS prog 6 #[.int .i64 (n:Int)] w K:=by
 refine f6_call _ _ _ ?_
 unfold f6_t
 have e1:((n:Int)*8)=((8*n:Nat):Int):=by omega
 (repeat' (first|(with_reducible first|refine brS_mk (fun _=> ?_) (fun _=> ?_)|refine And.intro ?_ ?_)|(simp (disch:=first|omega|simp only [RO]|(simp only [RZ]<;>omega)|fail) only [↓RBp,↓RA,↓reduceIte,Nat.reduceAdd,Nat.reduceMul,Nat.reduceEqDiff,RB,RX,RA2,e1])))
 have hc:=zrow_cells w (.int .u64 ((0:Nat):Int)) (8*n) 22
 have e2:(fun i=>(Value.int .u64 ((0:Nat):Int)).cells[i%(Value.int .u64 ((0:Nat):Int)).cells.size]!)=fun i=>u64 ((List.replicate (8*n) 0).getD i 0):=by
  funext i
  have:=zero_cur n i
  show _=u64 ((DS.zero n).cur i)
  rw [this];simp [Value.cells,Nat.mod_one]
 rw [e2] at hc
 refine k_of (List.replicate (8*n) 0) n w.heap.size h0 hn (by simp) hc _ (fun w' Y he hd hF hdt=> ?_)
 refine hK w' Y ((Ext.alloc_self w _).trans he) hd (fun x hx=> ?_) hdt
 rcases hF x hx with h|h
 ·omega
 ·rw [size_alloc] at h;omega
def DS.arm (D:DS) (n:Int):DS:=if D.off=true then D else {D with armed:=decide (0≤n),left:=if n<0 then 0 else n}
end
abbrev chV (Y:Lay) (l:Nat) (c o:Int) (g:Nat):Value:= .agg #[.iface 28 (.pointer (some ⟨Y.tb 0,0,none⟩)),.int .i64 (l:Int),.int .i64 c,.int .i64 o,.int .u16 (g:Int)]
abbrev chO (Y:Lay) (l:Nat) (c o:Int) (g:Nat):Obj:= .cells #[.iface 28 (.pointer (some ⟨Y.tb 0,0,none⟩)),.int .i64 (l:Int),.int .i64 c,.int .i64 o,.int .u16 (g:Int)] 121
structure Cx (w:World) (Y:Lay) (D:DS) (l:Nat) (c:Int):Prop where
 dv:Dv w Y D
 gd:Good D
 gl:Glob w
 on:D.off=false
 hl:l+32≤D.n
 c0:0≤c
 c5:c<5
section
variable {w w':World} {Y:Lay} {D:DS} {l:Nat} {c o:Int} {g:Nat}
theorem Cx.ext (h:Cx w Y D l c) (e:Ext w w'):Cx w' Y D l c:=⟨h.dv.ext e,h.gd,h.gl.ext e,h.on,h.hl,h.c0,h.c5⟩
theorem Cx.n (h:Cx w Y D l c):D.n≤4096:=h.gd.n
@[irreducible] def wd (D:DS) (l i:Nat):Nat:=D.cur (l*8+i)
def bitB (x i:Nat):Bool:=decide (x/2^i%2=1)
def bG (x:Nat):Nat:=if isS x then gX x else 0
def bK (x:Nat):Nat:=if isS x then kX x else 0
def bS (x:Nat):Nat:=if isS x then sX x else 0
@[irreducible] def offN (c:Int) (i:Nat):Nat:=(offS c (i:Int)).toNat
theorem offN_bd {c:Int} {i:Nat} (h0:0≤c) (h5:c<5) (hi:(i:Int)<perS c):offS c (i:Int)=(offN c i:Int)∧8≤offN c i∧offN c i<256:=by
 have:=offS_bd h0 h5 (show 0≤(i:Int) by omega) hi
 have hw:=wordsS_in h0 h5
 unfold offN
 omega
theorem Cx.wd_lt (h:Cx w Y D l c) (i:Nat) (hi:i<256):wd D l i<18446744073709551616:=by unfold wd;exact h.gd.cur _ (by have:=h.hl;omega)
theorem Cx.load (h:Cx w Y D l c) (i:Nat) (hi:i<256) (K:K1):callS prog 116 #[.pointer (some ⟨Y.tb 0,0,none⟩),.int .u64 ((l*64+i*8:Nat):Int)] w K=K (.int .u64 (wd D l i:Int)) w:=by
 have hl:=h.hl
 have:=c_Load h.dv h.gd 0 (by omega) h.on (l*64+i*8) (by omega) (by omega) K
 rw [this,show (l*64+i*8)/8=l*8+i by omega];unfold wd;rfl
theorem Cx.loadE (h:Cx w Y D l c):∀(w1:World) (i:Nat) (K:K1),Ext w w1→i<256→callS prog 116 #[.pointer (some ⟨Y.tb 0,0,none⟩),.int .u64 ((l*64+i*8:Nat):Int)] w1 K=K (.int .u64 (wd D l i:Int)) w1:=fun w1 i K he hi=>(h.ext he).load i hi K
theorem c_Class (K:K1):callS prog 73 #[chV Y l c o g] w K=K (.int .i64 c) (w.alloc (chO Y l c o g)):=by
 refine callS_det (by kernel_rfl) (f73_call _ _ _ ?_) K
 unfold f73_t
 simp (disch:=first|omega|simp only [RO]|(simp only [RZ]<;>omega)|fail) only [↓RBp,↓RA,↓reduceIte,Nat.reduceAdd,Nat.reduceMul,Nat.reduceEqDiff,RB,RX,RA2]
structure Cg (w:World) (c:Int):Prop where
 gl:Glob w
 c0:0≤c
 c5:c<5
theorem Cg.ext (h:Cg w c) (e:Ext w w'):Cg w' c:=⟨h.gl.ext e,h.c0,h.c5⟩
theorem Cx.cg (h:Cx w Y D l c):Cg w c:=⟨h.gl,h.c0,h.c5⟩
theorem c_blocks (hG:Glob w) (Y:Lay) (l:Nat) (c o:Int) (g:Nat):∀(w1:World) (K:K1),Ext w w1→callS prog 67 #[chV Y l c o g] w1 K=K (.int .i64 (perS c)) ((w1.alloc (chO Y l c o g)).alloc (chO Y l c o g)):=by
 intro w1 K he
 refine callS_det (by kernel_rfl) (f67_call _ _ _ ?_) K
 unfold f67_t
 have hG:=hG.ext he
 simp (disch:=first|omega|simp only [RO]|(simp only [RZ]<;>omega)|fail) only [↓RBp,↓RA,↓reduceIte,Nat.reduceAdd,Nat.reduceMul,Nat.reduceEqDiff,RB,RX,RA2,c_Class,fun a b c K=>c_PerChunk c ((w1.alloc a).alloc b) K ((hG.alloc a).alloc b)]
theorem Cx.blocks (h:Cx w Y D l c) (o:Int) (g:Nat):∀(w1:World) (K:K1),Ext w w1→callS prog 67 #[chV Y l c o g] w1 K=K (.int .i64 (perS c)) ((w1.alloc (chO Y l c o g)).alloc (chO Y l c o g)):=c_blocks h.gl Y l c o g
theorem Cx.at_ (h:Cx w Y D l c) (o:Int) (g:Nat):∀(w1:World) (i:Nat) (K:K1),Ext w w1→(i:Int)<perS c→callS prog 76 #[chV Y l c o g,.int .i64 (i:Int)] w1 K=K (.int .u64 ((l*64+offN c i*8:Nat):Int)) (w1.alloc (chO Y l c o g)):=by
 intro w1 i K he hi
 refine callS_det (by kernel_rfl) (f76_call _ _ _ _ ?_) K
 unfold f76_t
 have hG:=h.gl.ext he
 have hb:=offN_bd h.c0 h.c5 hi
 have hl:=h.hl;have hn:=h.n
 have hof:∀(a:Obj) (K:K1),callS prog 56 #[.int .i64 c,.int .i64 (i:Int)] (w1.alloc a) K=K (.tuple #[.int .i64 (offN c i:Int),.int .i64 0]) (w1.alloc a):=fun a K=>by
  rw [c_Offset c i (w1.alloc a) K (hG.alloc a) h.c0 h.c5 (by omega) hi,hb.1]
 generalize offN c i=q at*
 simp (disch:=first|omega|simp only [RO]|(simp only [RZ]<;>omega)|fail) only [↓RBp,↓RA,↓reduceIte,Nat.reduceAdd,Nat.reduceMul,Nat.reduceEqDiff,RB,RX,RA2,hof,c_line,Int.toNat_natCast]
theorem Cx.bits (h:Cx w Y D l c) (o:Int) (g:Nat):∀(w1:World) (K:K1),Ext w w1→callS prog 74 #[chV Y l c o g] w1 K=K (.int .u64 (wd D l 1:Int)) ((w1.alloc (chO Y l c o g)).drew):=by
 intro w1 K he
 refine callS_det (by kernel_rfl) (f74_call _ _ _ ?_) K
 unfold f74_t
 have h1:=(h.ext he)
 have hl:=h.hl;have hn:=h.n
 have ld:∀(w2:World) (K:K1),Ext w1 w2→callS prog 116 #[.pointer (some ⟨Y.tb 0,0,none⟩),.int .u64 ((l*64+8:Nat):Int)] w2 K=K (.int .u64 (wd D l 1:Int)) w2:=fun w2 K he=>h1.loadE w2 1 K he (by omega)
 (repeat' (first|(with_reducible first|refine brS_mk (fun _=> ?_) (fun _=> ?_)|refine And.intro ?_ ?_)|(simp (disch:=first|omega|simp only [RO]|(simp only [RZ]<;>omega)|(with_reducible (repeat (first|assumption|exact Ext.refl _|refine Ext.alloc ?_ _|refine Ext.drew ?_|refine Ext.trans ?_ (by assumption))))|fail) only [↓RBp,↓RA,↓reduceIte,Nat.reduceAdd,Nat.reduceMul,Nat.reduceEqDiff,RB,RX,RA2,c_line,Int.toNat_natCast,ld])))
theorem k_sealed' (x:Nat) (w:World) (K:K1) (hG:Glob w) (hx:x<18446744073709551616) (h:∀w',Ext w w'→K (.tuple #[.agg #[.int .u16 (bG x:Int),.int .u8 (bK x:Int),.int .u8 (bS x:Int)],.bool (isS x)]) w'):callS prog 75 #[.int .u64 x] w K:=by
 refine k_sealed x w K hG hx (fun w' he=> ?_)
 have:=h w' he
 unfold bG bK bS at this
 cases hs:isS x with
 |true=>simp only [hs,if_true] at this ⊢;exact this
 |false=>simp only [hs,if_false] at this ⊢;exact this
theorem cells3 {b t:Nat} {f:Nat→Value} (h:Cells w b t 3 f) (v0 v1 v2:Value):(((w.setCell ⟨b,0,none⟩ v0).setCell ⟨b,1,none⟩ v1).setCell ⟨b,2,none⟩ v2).cell? ⟨b,0,none⟩=some v0∧(((w.setCell ⟨b,0,none⟩ v0).setCell ⟨b,1,none⟩ v1).setCell ⟨b,2,none⟩ v2).cell? ⟨b,1,none⟩=some v1∧(((w.setCell ⟨b,0,none⟩ v0).setCell ⟨b,1,none⟩ v1).setCell ⟨b,2,none⟩ v2).cell? ⟨b,2,none⟩=some v2∧Cells (((w.setCell ⟨b,0,none⟩ v0).setCell ⟨b,1,none⟩ v1).setCell ⟨b,2,none⟩ v2) b t 3 (fun i=>if i=0 then v0 else if i=1 then v1 else v2):=by
 have h3:=((h.set v0 (i:=0) (by omega)).set v1 (i:=1) (by omega)).set v2 (i:=2) (by omega)
 exact ⟨h3.cell (i:=0) (by omega),h3.cell (i:=1) (by omega),h3.cell (i:=2) (by omega),h3.congr (fun i hi=>by
  have:i=0∨i=1∨i=2:=by omega
  rcases this with rfl|rfl|rfl<;>simp)⟩
theorem k_read (h:Cx w Y D l c) (o:Int) (g:Nat) (i:Nat) (hi:(i:Int)<perS c) (K:K1) (hK:∀w',Ext w w'→K (.tuple #[.agg #[.int .u16 (bG (wd D l (offN c i)):Int),.int .u8 (bK (wd D l (offN c i)):Int),.int .u8 (bS (wd D l (offN c i)):Int)],.bool (isS (wd D l (offN c i))),.bool (bitB (wd D l 1) i)]) w'):
  callS prog 68 #[chV Y l c o g,.int .i64 (i:Int)] w K:=by
 refine f68_call _ _ _ _ ?_
 unfold f68_t
 have hb:=h.bits o g
 have ha:=h.at_ o g
 have hl:=h.loadE
 have bd:=offN_bd h.c0 h.c5 hi
 have hp:=perS_in h.c0 h.c5
 have hw:=h.wd_lt (offN c i) bd.2.2
 have hw1:=h.wd_lt 1 (by omega)
 generalize hx:wd D l (offN c i)=x at*
 generalize hy:wd D l 1=y at*
 have an:∀z:Nat,z&&&1=z%2:=fun z=>Nat.and_one_is_mod z
 have hdv:y/2^i<18446744073709551616:=Nat.lt_of_le_of_lt (Nat.div_le_self _ _) hw1
 (repeat' (first|(with_reducible first|refine brS_mk (fun _=> ?_) (fun _=> ?_)|refine And.intro ?_ ?_)|(simp (disch:=first|omega|simp only [RO]|(simp only [RZ]<;>omega)|(with_reducible (repeat (first|assumption|exact Ext.refl _|refine Ext.alloc ?_ _|refine Ext.drew ?_|refine Ext.trans ?_ (by assumption))))|fail) only [↓RBp,↓RA,↓reduceIte,Nat.reduceAdd,Nat.reduceMul,Nat.reduceEqDiff,RB,RX,RA2,hb,ha,hl,hx])))
 refine k_sealed' x _ _ (h.gl.ext (by repeat (first|(with_reducible first|refine eB ?_ _|assumption|exact eR _|refine eA ?_ _|refine eD ?_|refine eT ?_ (by assumption))|exact eR _))) hw (fun w1 he1=> ?_)
 have hC:Cells w1 (w.heap.size+1) 118 3 (fun i=> [Value.int .u16 ((0:Nat):Int),.int .u8 ((0:Nat):Int),.int .u8 ((0:Nat):Int)].getD i undef):=by
  have:=(Cells.new (w.alloc (chO Y l c o g)) [Value.int .u16 ((0:Nat):Int),.int .u8 ((0:Nat):Int),.int .u8 ((0:Nat):Int)] 118)
  rw [size_alloc] at this
  exact this.ext (Ext.trans (by repeat (first|(with_reducible first|refine eB ?_ _|assumption|exact eR _|refine eA ?_ _|refine eD ?_|refine eT ?_ (by assumption))|exact eR _)) he1)
 have e1:Ext w w1:=Ext.trans (by repeat (first|(with_reducible first|refine eB ?_ _|assumption|exact eR _|refine eA ?_ _|refine eD ?_|refine eT ?_ (by assumption))|exact eR _)) he1
 have c0:=hC.cell (i:=0) (by omega)
 have c1:=hC.cell (i:=1) (by omega)
 have c2:=hC.cell (i:=2) (by omega)
 obtain ⟨d0,d1,d2,hD⟩:=cells3 hC (.int .u16 (bG x:Int)) (.int .u8 (bK x:Int)) (.int .u8 (bS x:Int))
 obtain ⟨f0,f1,f2,hF⟩:=cells3 hD (.int .u16 (bG x:Int)) (.int .u8 (bK x:Int)) (.int .u8 (bS x:Int))
 have hbit:decide (y/2^i&&&1=1)=bitB y i:=by unfold bitB;simp only [an]
 simp (disch:=first|omega|simp only [RO]|(simp only [RZ]<;>omega)|fail) only [↓RBp,↓RA,↓reduceIte,Nat.reduceAdd,Nat.reduceMul,Nat.reduceEqDiff,RB,RX,RA2,c0,c1,c2,hC.frz,d0,d1,d2,hD.frz,f0,f1,f2,hbit]
 exact hK _ (by repeat (first|(with_reducible first|refine eB ?_ _|assumption|exact eR _|refine eA ?_ _|refine eD ?_|refine eT ?_ (by assumption))|exact eR _))
end
section
variable {w w':World} {Y:Lay} {D:DS} {l:Nat} {c o:Int} {g:Nat}
theorem chCells {w1:World} (he:Ext (w.alloc (chO Y l c o g)) w1):w1.cell? ⟨w.heap.size,0,none⟩=some (.iface 28 (.pointer (some ⟨Y.tb 0,0,none⟩)))∧w1.cell? ⟨w.heap.size,1,none⟩=some (.int .i64 (l:Int))∧w1.cell? ⟨w.heap.size,2,none⟩=some (.int .i64 c)∧w1.cell? ⟨w.heap.size,3,none⟩=some (.int .i64 o)∧w1.cell? ⟨w.heap.size,4,none⟩=some (.int .u16 (g:Int)):=by
 have:∀i,w1.cell? ⟨w.heap.size,i,none⟩=_:=fun i=>he.cell _ i (by simp only [RZ];omega)
 refine ⟨?_,?_,?_,?_,?_⟩<;>(rw [this,cell_new _ _ _ _ _ rfl];rfl)
@[irreducible] def okF (D:DS) (l:Nat) (c:Int) (i:Nat):Bool:=isS (wd D l (offN c i))&&(!bitB (wd D l 1) i&&(decide (bS (wd D l (offN c i))=176)&& !decide (bG (wd D l (offN c i))=0)))
def mxG (D:DS) (l:Nat) (c:Int):Nat→Nat
 |0=>0
 |n+1=>if mxG D l c n<bG (wd D l (offN c n)) then bG (wd D l (offN c n)) else mxG D l c n
def alF (D:DS) (l:Nat) (c:Int):Nat→Bool
 |0=>true
 |n+1=>alF D l c n&&okF D l c n
theorem alF_no {D:DS} {l:Nat} {c:Int}:∀{n i:Nat},i<n→okF D l c i=false→alF D l c n=false:=by
 intro n
 induction n with
 |zero=>intro i h;omega
 |succ n ih=>
  intro i h he
  simp only [alF]
  by_cases e:i=n
  ·subst e;simp [he]
  ·rw [ih (i:=i) (by omega) he];rfl
theorem k_Next (h:Cx w Y D l c) (o:Int) (g:Nat) (K:K1) (hK:∀w',Ext w w'→K (.tuple #[.int .u16 ((if alF D l c (perS c).toNat=true then mxG D l c (perS c).toNat else 0:Nat):Int),.bool (alF D l c (perS c).toNat)]) w'):callS prog 59 #[chV Y l c o g] w K:=by
 have hp:=perS_in h.c0 h.c5
 obtain ⟨n,hn⟩:∃n:Nat,perS c=(n:Int):=⟨(perS c).toNat,by omega⟩
 rw [hn,Int.toNat_natCast] at hK
 have hb:=h.blocks o g
 rw [hn] at hb
 refine f59_call _ _ _ ?_
 unfold f59_t
 simp (disch:=first|omega|simp only [RO]|(simp only [RZ]<;>omega)|(with_reducible (repeat (first|assumption|exact Ext.refl _|refine Ext.alloc ?_ _|refine Ext.drew ?_|refine Ext.trans ?_ (by assumption))))|fail) only [↓RBp,↓RA,↓reduceIte,Nat.reduceAdd,Nat.reduceMul,Nat.reduceEqDiff,RB,RX,RA2,hb]
 apply f59_l1_rule (I:=fun x z w'=>∃i:Nat,z= .int .i64 (i:Int)∧i≤n∧x= .int .u16 ((mxG D l c i:Nat):Int)∧alF D l c i=true∧Ext (w.alloc (chO Y l c o g)) w') (μ:=fun _ z _=>n-(intOf z).toNat)
 ·exact ⟨0,rfl,by omega,rfl,rfl,(by repeat (first|(with_reducible first|refine eB ?_ _|assumption|exact eR _|refine eA ?_ _|refine eD ?_|refine eT ?_ (by assumption))|exact eR _))⟩
 ·intros;rename_i w1 hI E1 hE
  obtain ⟨i,rfl,hi,rfl,hal,he1⟩:=hI
  obtain ⟨c0,c1,c2,c3,c4⟩:=chCells he1
  have e1:Ext w w1:=Ext.trans (by repeat (first|(with_reducible first|refine eB ?_ _|assumption|exact eR _|refine eA ?_ _|refine eD ?_|refine eT ?_ (by assumption))|exact eR _)) he1
  unfold f59_l1_t
  by_cases hin:i<n
  ·simp (disch:=first|omega|simp only [RO]|(simp only [RZ]<;>omega)|fail) only [↓RBp,↓RA,↓reduceIte,Nat.reduceAdd,Nat.reduceMul,Nat.reduceEqDiff,RB,RX,RA2,c0,c1,c2,c3,c4]
   refine k_read (h.ext e1) o g i (by omega) _ (fun w2 he2=> ?_)
   have e2:=he1.trans he2
   have e02:=e1.trans he2
   have bad:okF D l c i=false→∀w',Ext w w'→K (.tuple #[.int .u16 ((0:Nat):Int),.bool false]) w':=by
    intro hf w' he
    have:=hK w' he
    rw [alF_no hin hf] at this
    exact this
   by_cases b1:isS (wd D l (offN c i))=true
   ·by_cases b2:bitB (wd D l 1) i=true
    ·simp (disch:=first|omega|simp only [RO]|(simp only [RZ]<;>omega)|fail) only [↓RBp,↓RA,↓reduceIte,Nat.reduceAdd,Nat.reduceMul,Nat.reduceEqDiff,RB,RX,RA2,b1,b2]
     exact bad (by simp [okF,b2]) _ (by repeat (first|(with_reducible first|refine eB ?_ _|assumption|exact eR _|refine eA ?_ _|refine eD ?_|refine eT ?_ (by assumption))|exact eR _))
    ·have b2:bitB (wd D l 1) i=false:=by simpa using b2
     by_cases b3:bS (wd D l (offN c i))=176
     ·by_cases b4:bG (wd D l (offN c i))=0
      ·simp (disch:=first|omega|simp only [RO]|(simp only [RZ]<;>omega)|fail) only [↓RBp,↓RA,↓reduceIte,Nat.reduceAdd,Nat.reduceMul,Nat.reduceEqDiff,RB,RX,RA2,b1,b2,b3,b4]
       exact bad (by simp [okF,b4]) _ (by repeat (first|(with_reducible first|refine eB ?_ _|assumption|exact eR _|refine eA ?_ _|refine eD ?_|refine eT ?_ (by assumption))|exact eR _))
      ·simp (disch:=first|omega|simp only [RO]|(simp only [RZ]<;>omega)|fail) only [↓RBp,↓RA,↓reduceIte,Nat.reduceAdd,Nat.reduceMul,Nat.reduceEqDiff,RB,RX,RA2,b1,b2,b3]
       apply hE
       ·refine ⟨i+1,by simp,by omega,?_,?_,(by repeat (first|(with_reducible first|refine eB ?_ _|assumption|exact eR _|refine eA ?_ _|refine eD ?_|refine eT ?_ (by assumption))|exact eR _))⟩
        ·simp only [mxG]
         split<;>split<;>first|rfl|omega
        ·simp [alF,hal,okF,b1,b2,b3,b4]
       ·simp [intOf];omega
     ·simp (disch:=first|omega|simp only [RO]|(simp only [RZ]<;>omega)|fail) only [↓RBp,↓RA,↓reduceIte,Nat.reduceAdd,Nat.reduceMul,Nat.reduceEqDiff,RB,RX,RA2,b1,b2,b3]
      exact bad (by simp [okF,b3]) _ (by repeat (first|(with_reducible first|refine eB ?_ _|assumption|exact eR _|refine eA ?_ _|refine eD ?_|refine eT ?_ (by assumption))|exact eR _))
   ·have b1:isS (wd D l (offN c i))=false:=by simpa using b1
    simp (disch:=first|omega|simp only [RO]|(simp only [RZ]<;>omega)|fail) only [↓RBp,↓RA,↓reduceIte,Nat.reduceAdd,Nat.reduceMul,Nat.reduceEqDiff,RB,RX,RA2,b1]
    exact bad (by simp [okF,b1]) _ (by repeat (first|(with_reducible first|refine eB ?_ _|assumption|exact eR _|refine eA ?_ _|refine eD ?_|refine eT ?_ (by assumption))|exact eR _))
  ·have:i=n:=by omega
   subst this
   rw [hal,if_pos rfl] at hK
   simp (disch:=first|omega|simp only [RO]|(simp only [RZ]<;>omega)|fail) only [↓RBp,↓RA,↓reduceIte,Nat.reduceAdd,Nat.reduceMul,Nat.reduceEqDiff,RB,RX,RA2,f59_k1_eq,f59_k1_t]
   exact hK _ e1
end
def RdS (m:Nat) (w:World) (v:Value) (L:List Value):Prop:=∃a cap,v= .slice a L.length cap∧(L= []∨∃b o,a=some ⟨b,o,none⟩∧b<m∧∀j u,L[j]? =some u→w.cell? ⟨b,o+j,none⟩=some u)
section
variable {w w':World} {m:Nat} {v:Value} {L:List Value}
theorem RdS.ext (h:RdS m w v L) (e:Ext w w'):RdS m w' v L:=by
 obtain ⟨a,cap,hv,h⟩:=h
 refine ⟨a,cap,hv,?_⟩
 rcases h with h|⟨b,o,ha,hb,hc⟩
 ·exact .inl h
 ·exact .inr ⟨b,o,ha,hb,fun j u hj=>e.cell_some (hc j u hj)⟩
theorem RdS.frm {F:Nat→Prop} (h:RdS m w v L) (e:Frm F w w') (hF:∀b,b<m→¬F b):RdS m w' v L:=by
 obtain ⟨a,cap,hv,h⟩:=h
 refine ⟨a,cap,hv,?_⟩
 rcases h with h|⟨b,o,ha,hb,hc⟩
 ·exact .inl h
 ·refine .inr ⟨b,o,ha,hb,fun j u hj=> ?_⟩
  have h1:=hc j u hj
  rw [e.cell b _ (lt_of_cell h1) (hF b hb)];exact h1
theorem RdS.nil (w:World) (m:Nat):RdS m w (.slice none 0 0) []:=⟨none,0,rfl,.inl rfl⟩
end
abbrev i64L (l:List Int):List Value:=l.map fun i=>Value.int .i64 i
def onc (per:Int):List Int→Nat→Option Nat
 | [],m=>some m
 |i::l,m=>if (0≤i∧i<per)∧bitB m i.toNat=false then onc per l (m|||2^i.toNat) else none
section
variable {w w':World} {Y:Lay} {D:DS} {l:Nat} {c o:Int} {g:Nat}
end
@[irreducible] def tkOk (D:DS) (l:Nat) (c:Int) (i:Nat):Bool:=isS (wd D l (offN c i))&&(!bitB (wd D l 1) i&&(decide (bS (wd D l (offN c i))=176)&&goodB (bG (wd D l (offN c i))) (bK (wd D l (offN c i))) (bS (wd D l (offN c i)))))
@[irreducible] def dpOk (D:DS) (l:Nat) (c:Int) (i:Nat):Bool:=isS (wd D l (offN c i))&&(bitB (wd D l 1) i&&decide (bS (wd D l (offN c i))=177))
def tkW (D:DS) (l:Nat) (c:Int) (i k:Nat):Nat×Nat:=(l*64+offN c i*8,sealN (blkX (bG (wd D l (offN c i))) k 177))
def dpW (D:DS) (l:Nat) (c:Int) (i:Nat):Nat×Nat:=(l*64+offN c i*8,sealN (blkX (freG (bG (wd D l (offN c i)))) 0 (freS (bG (wd D l (offN c i))))))
def dpB (D:DS) (l:Nat) (c:Int) (i b:Nat):Nat:=if freS (bG (wd D l (offN c i)))=176 then b&&&(18446744073709551615^^^2^i) else b
theorem bG_lt (x:Nat):bG x<65536:=by unfold bG gX;split<;>omega
theorem freG_lt {g:Nat} (h:g<65536):freG g<65536:=by unfold freG;split<;>omega
theorem freS_lt (g:Nat):freS g<256:=by unfold freS;split<;>omega
section
variable {w w':World} {Y:Lay} {D:DS} {l:Nat} {c o:Int} {g:Nat}
end
structure On (D:DS):Prop where
 off:D.off=false
 arm:D.armed=false
 err:D.err 0=0
section
variable {D:DS}
theorem On.runs (h:On D):D.runs true=true:=by simp [DS.runs,h.off,h.arm]
theorem On.counted (h:On D):D.counted 0 true={D with exe:=D.exe+1}:=by
 rw [DS.counted_run h.runs,if_neg (by simp [h.arm])]
theorem On.store (h:On D) (off v:Nat) (hv:vOff D off=true):D.store 0 off v=({D with exe:=D.exe+1}:DS).write off v:=by
 unfold DS.store;rw [hv,if_pos h.runs,h.counted]
theorem On.storeOn (h:On D) (off v:Nat) (hv:vOff D off=true):On (D.store 0 off v):=by
 rw [h.store off v hv];exact ⟨h.off,h.arm,h.err⟩
theorem On.storeCur (h:On D) (off v:Nat) (hv:vOff D off=true):(D.store 0 off v).cur=fun j=>if j=off/8 then v else D.cur j:=by
 rw [h.store off v hv];rfl
theorem On.flush (h:On D) (off:Nat) (hv:fOff D off=true):D.flush 0 off=({D with exe:=D.exe+1}:DS).note 0 ((off/64:Nat):Int) (D.done (off/64)+(D.hist (off/64)).length):=by
 unfold DS.flush;rw [hv,if_pos h.runs,h.counted]
theorem On.flushOn (h:On D) (off:Nat) (hv:fOff D off=true):On (D.flush 0 off):=by
 rw [h.flush off hv];exact ⟨h.off,h.arm,h.err⟩
theorem On.flushCur (h:On D) (off:Nat) (hv:fOff D off=true):(D.flush 0 off).cur=D.cur:=by
 rw [h.flush off hv];rfl
theorem On.fence (h:On D):D.fence 0=(({D with exe:=D.exe+1}:DS).parts (D.due 0)).clr 0:=by
 unfold DS.fence;rw [if_pos h.runs,h.counted]
theorem On.fenceOn (h:On D):On (D.fence 0):=by
 rw [h.fence];exact ⟨h.off,h.arm,h.err⟩
theorem On.fenceCur (h:On D):(D.fence 0).cur=D.cur:=by
 rw [h.fence];rfl
theorem On.zero (n:Nat):On (DS.zero n):=⟨rfl,rfl,rfl⟩
theorem run_cons (D:DS) (i:Ins) (p:List Ins):D.run 0 (i::p)=(D.exec 0 i).run 0 p:=rfl
theorem On.runW:∀(ws:List (Nat×Nat)) (D:DS),On D→(∀x∈ws,x.1%8=0∧x.1<D.n*64)→On (D.run 0 (ws.map wrI))∧(D.run 0 (ws.map wrI)).cur=applyH ws D.cur:=by
 intro ws
 induction ws with
 |nil=>intro D h _;exact ⟨h,rfl⟩
 |cons x ws ih=>
  intro D h hv
  rw [List.map_cons,run_cons]
  have e:D.exec 0 (wrI x)=D.store 0 x.1 x.2:=rfl
  have hx:vOff D x.1=true:=by simp [vOff,hv x (by simp)]
  rw [e]
  have hn:=store_n D 0 x.1 x.2
  have:=ih (D.store 0 x.1 x.2) (h.storeOn _ _ hx) (fun y hy=>by rw [hn];exact hv y (by simp [hy]))
  refine ⟨this.1,?_⟩
  rw [this.2,h.storeCur _ _ hx];rfl
theorem On.runF:∀(ls:List Nat) (D:DS),On D→(∀x∈ls,x<D.n*64)→On (D.run 0 (ls.map flI))∧(D.run 0 (ls.map flI)).cur=D.cur:=by
 intro ls
 induction ls with
 |nil=>intro D h _;exact ⟨h,rfl⟩
 |cons x ls ih=>
  intro D h hv
  rw [List.map_cons,run_cons]
  have e:D.exec 0 (flI x)=D.flush 0 x:=rfl
  have hx:fOff D x=true:=by simp [fOff,hv x (by simp)]
  rw [e]
  have hn:=flush_n D 0 x
  have:=ih (D.flush 0 x) (h.flushOn _ hx) (fun y hy=>by rw [hn];exact hv y (by simp [hy]))
  exact ⟨this.1,this.2.trans (h.flushCur _ hx)⟩
theorem kpN_mem (d:Array Nat):∀n,n≤d.size→∀x∈kpN d n,x∈d.toList:=by
 intro n
 induction n with
 |zero=>intro _ x hx;simp [kpN] at hx
 |succ n ih=>
  intro hn x hx
  simp only [kpN,List.mem_append] at hx
  rcases hx with hx|hx
  ·exact ih (by omega) x hx
  ·split at hx
   ·simp only [List.mem_singleton] at hx
    subst hx
    rw [getElem!_pos d n (by omega)]
    simp
   ·cases hx
theorem cmpN_mem {l:List Nat} {x:Nat} (h:x∈cmpN l):x∈l:=by
 have:=kpN_mem l.toArray l.length (by simp) x h
 simpa using this
theorem storesI_line {ws:List (Nat×Nat)} {x:Nat} (h:x∈cmpN (srtN (ws.map fun x=>lineS x.1))):∃y∈ws,x=lineS y.1:=by
 have h1:=cmpN_mem h
 have h2:=(srtN_perm _).mem_iff.1 h1
 obtain ⟨y,hy,rfl⟩:=List.mem_map.1 h2
 exact ⟨y,hy,rfl⟩
theorem On.stores (h:On D) (ws:List (Nat×Nat)) (hv:∀x∈ws,x.1%8=0∧x.1<D.n*64):On (D.run 0 (storesI ws))∧(D.run 0 (storesI ws)).cur=applyH ws D.cur:=by
 unfold storesI
 rw [run_append,run_append]
 have h1:=On.runW ws D h hv
 have n1:=run_n 0 (ws.map wrI) D
 have h2:=On.runF (cmpN (srtN (ws.map fun x=>lineS x.1))) (D.run 0 (ws.map wrI)) h1.1 (fun x hx=>by
  obtain ⟨y,hy,rfl⟩:=storesI_line hx
  have:=hv y hy
  rw [n1];unfold lineS;omega)
 refine ⟨h2.1.fenceOn,?_⟩
 show (DS.fence _ 0).cur=_
 rw [h2.1.fenceCur,h2.2,h1.2]
theorem okI_stores {ws:List (Nat×Nat)} (h:∀x∈ws,x.1<18446744073709551616∧x.2<18446744073709551616):∀i∈storesI ws,okI i:=by
 intro i hi
 simp only [storesI,List.mem_append,List.mem_map,List.mem_singleton] at hi
 rcases hi with (⟨x,hx,rfl⟩|⟨x,hx,rfl⟩)|rfl
 ·have:=h x hx;exact ⟨by simp [wrI],by simp [wrI],this.1,this.2⟩
 ·obtain ⟨y,hy,rfl⟩:=storesI_line hx
  have:=h y hy
  exact ⟨by simp [flI],by simp [flI],by simp only [flI,lineS];omega,by simp [flI]⟩
 ·exact ⟨by simp,by simp,by simp,by simp⟩
end
theorem seal_lo (x:Nat) (h:x<4294967296):sealN x%4294967296=x:=by unfold sealN;omega
theorem isS_seal {x:Nat} (h:x<4294967296):isS (sealN x)=true:=by unfold isS;rw [seal_lo x h];simp
theorem gX_seal (x:Nat):gX (sealN x)=gX x:=by unfold gX sealN;omega
theorem kX_seal (x:Nat):kX (sealN x)=kX x:=by unfold kX sealN;omega
theorem sX_seal (x:Nat):sX (sealN x)=sX x:=by unfold sX sealN;omega
theorem hC_seal (x:Nat):hC (sealN x)=hC x:=by unfold hC sealN;omega
theorem hO_seal (x:Nat):hO (sealN x)=hO x:=by unfold hO sealN;omega
section
variable {g k s:Nat}
theorem blkX_lt (hg:g<65536) (hk:k<256) (hs:s<256):blkX g k s<4294967296:=by unfold blkX;omega
theorem isS_blk (hg:g<65536) (hk:k<256) (hs:s<256):isS (sealN (blkX g k s))=true:=isS_seal (blkX_lt hg hk hs)
theorem bG_blk (hg:g<65536) (hk:k<256) (hs:s<256):bG (sealN (blkX g k s))=g:=by unfold bG;rw [isS_blk hg hk hs,if_pos rfl,gX_seal];unfold gX blkX;omega
theorem bK_blk (hg:g<65536) (hk:k<256) (hs:s<256):bK (sealN (blkX g k s))=k:=by unfold bK;rw [isS_blk hg hk hs,if_pos rfl,kX_seal];unfold kX blkX;omega
theorem bS_blk (hg:g<65536) (hk:k<256) (hs:s<256):bS (sealN (blkX g k s))=s:=by unfold bS;rw [isS_blk hg hk hs,if_pos rfl,sX_seal];unfold sX blkX;omega
end
section
variable {c o:Int} {g:Nat}
theorem hdX_lt (hc: -1≤c) (hc':c<5) (ho: -1≤o) (ho':o<8) (hg:g<65536):hdX c o g<4294967296:=by unfold hdX;split<;>omega
theorem hd_ok (hc:0≤c) (hc':c<5) (ho:0≤o) (ho':o<8) (hg:g≠0) (hg':g<65536):hdOk (sealN (hdX c o g))=true∧hC (sealN (hdX c o g))=c∧hO (sealN (hdX c o g))=o∧gX (sealN (hdX c o g))=g:=by
 have h1:hC (sealN (hdX c o g))=c:=by rw [hC_seal];unfold hC hdX;rw [if_pos hc];omega
 have h2:hO (sealN (hdX c o g))=o:=by rw [hO_seal];unfold hO hdX;rw [if_pos hc];omega
 have h3:gX (sealN (hdX c o g))=g:=by rw [gX_seal];unfold gX hdX;rw [if_pos hc];omega
 have h4:sX (sealN (hdX c o g))=197:=by rw [sX_seal];unfold sX hdX;rw [if_pos hc];omega
 refine ⟨?_,h1,h2,h3⟩
 unfold hdOk
 rw [h1,h2,h3,h4,isS_seal (hdX_lt (by omega) hc' (by omega) ho' hg')]
 simp [hg,fmtB,hc,hc',ho,ho']
theorem hd_free (hg:g≠0) (hg':g<65536):hdOk (sealN (hdX (-1) (-1) g))=true∧hC (sealN (hdX (-1) (-1) g))= -1∧hO (sealN (hdX (-1) (-1) g))= -1∧gX (sealN (hdX (-1) (-1) g))=g:=by
 have e:hdX (-1) (-1) g=g+3305111552:=by unfold hdX;rw [if_neg (by omega)]
 have h1:hC (sealN (hdX (-1) (-1) g))= -1:=by rw [hC_seal,e];unfold hC;omega
 have h2:hO (sealN (hdX (-1) (-1) g))= -1:=by rw [hO_seal,e];unfold hO;omega
 have h3:gX (sealN (hdX (-1) (-1) g))=g:=by rw [gX_seal,e];unfold gX;omega
 have h4:sX (sealN (hdX (-1) (-1) g))=197:=by rw [sX_seal,e];unfold sX;omega
 refine ⟨?_,h1,h2,h3⟩
 unfold hdOk
 rw [h1,h2,h3,h4,isS_seal (hdX_lt (by omega) (by omega) (by omega) (by omega) hg')]
 simp [hg]
end
theorem rd_mf {P:Program} (f:Fn) (a c:Array Value) (w:World) (k:Value→Prop):rd P (Instr.makeFunc f a c) w k=k (.func f a c):=rd_of_run rfl k
theorem ag_mf {P:Program} (f:Fn) (a c:Array Value) (w:World) (u:Value):ag P (Instr.makeFunc f a c) w u=(Value.func f a c=u):=ag_of_run rfl u
theorem nilR_Load (b i:Nat) (w:World) (k:Value→Prop):nilR prog (.func (.method "Load") #[.iface 28 (.pointer (some ⟨b,i,none⟩))] #[]) w k=k (.func (.method "Load") #[.iface 28 (.pointer (some ⟨b,i,none⟩))] #[]):=by
 have h:(execOp (fun _=>(.func (.method "Load") #[.iface 28 (.pointer (some ⟨b,i,none⟩))] #[])) nilOp).run prog w= .ok (.value (.func (.method "Load") #[.iface 28 (.pointer (some ⟨b,i,none⟩))] #[])) w:=by kernel_rfl
 unfold nilR;rw [h];simp
abbrev thV (Y:Lay):Value:= .iface 28 (.pointer (some ⟨Y.tb 0,0,none⟩))
section
variable {w w':World} {Y:Lay} {D:DS}
theorem cells5 {b t:Nat} {f:Nat→Value} (h:Cells w b t 5 f) (v0 v1 v2 v3 v4:Value):(((((w.setCell ⟨b,0,none⟩ v0).setCell ⟨b,1,none⟩ v1).setCell ⟨b,2,none⟩ v2).setCell ⟨b,3,none⟩ v3).setCell ⟨b,4,none⟩ v4).cell? ⟨b,0,none⟩=some v0∧(((((w.setCell ⟨b,0,none⟩ v0).setCell ⟨b,1,none⟩ v1).setCell ⟨b,2,none⟩ v2).setCell ⟨b,3,none⟩ v3).setCell ⟨b,4,none⟩ v4).cell? ⟨b,1,none⟩=some v1∧(((((w.setCell ⟨b,0,none⟩ v0).setCell ⟨b,1,none⟩ v1).setCell ⟨b,2,none⟩ v2).setCell ⟨b,3,none⟩ v3).setCell ⟨b,4,none⟩ v4).cell? ⟨b,2,none⟩=some v2∧(((((w.setCell ⟨b,0,none⟩ v0).setCell ⟨b,1,none⟩ v1).setCell ⟨b,2,none⟩ v2).setCell ⟨b,3,none⟩ v3).setCell ⟨b,4,none⟩ v4).cell? ⟨b,3,none⟩=some v3∧(((((w.setCell ⟨b,0,none⟩ v0).setCell ⟨b,1,none⟩ v1).setCell ⟨b,2,none⟩ v2).setCell ⟨b,3,none⟩ v3).setCell ⟨b,4,none⟩ v4).cell? ⟨b,4,none⟩=some v4:=by
 have h3:=((((h.set v0 (i:=0) (by omega)).set v1 (i:=1) (by omega)).set v2 (i:=2) (by omega)).set v3 (i:=3) (by omega)).set v4 (i:=4) (by omega)
 exact ⟨h3.cell (i:=0) (by omega),h3.cell (i:=1) (by omega),h3.cell (i:=2) (by omega),h3.cell (i:=3) (by omega),h3.cell (i:=4) (by omega)⟩
theorem k_Look (h:Dv w Y D) (g:Good D) (hG:Glob w) (ho:D.off=false) (he:D.err 0=0) (l:Nat) (hl:l+32≤D.n) (hok:hdOk (wd D l 0)=true) (K:K1)
  (hK:∀w',Ext w w'→K (.tuple #[.agg #[.int .i64 (hC (wd D l 0)),.int .i64 (hO (wd D l 0)),.int .u16 (gX (wd D l 0):Int)],.int .i64 0]) w'):
  callS prog 32 #[thV Y,.int .i64 (l:Int)] w K:=by
 have hn:=g.n
 have hsz:∀(w1:World) (K:K1),Ext w w1→callS prog 117 #[.pointer (some ⟨Y.tb 0,0,none⟩)] w1 K=K (.int .u64 ((D.n*64:Nat):Int)) w1:=fun w1 K e=>c_TSize (h.ext e) g 0 (by omega) K
 have her:∀(w1:World) (K:K1),Ext w w1→callS prog 114 #[.pointer (some ⟨Y.tb 0,0,none⟩)] w1 K=K (.int .i64 0) w1:=fun w1 K e=>by rw [c_Err (h.ext e) 0 (by omega) K,he]
 have hld:∀(w1:World) (K:K1),Ext w w1→callS prog 116 #[.pointer (some ⟨Y.tb 0,0,none⟩),.int .u64 ((l*64:Nat):Int)] w1 K=K (.int .u64 (wd D l 0:Int)) w1:=fun w1 K e=>by
  rw [c_Load (h.ext e) g 0 (by omega) ho (l*64) (by omega) (by omega) K,show l*64/8=l*8+0 by omega];unfold wd;rfl
 have hx:wd D l 0<18446744073709551616:=by unfold wd;exact g.cur _ (by omega)
 have hq:D.n*64/64=D.n:=by omega
 generalize wd D l 0=x at*
 refine f32_call _ _ _ _ ?_
 unfold thV f32_t
 (repeat' (first|(with_reducible first|refine brS_mk (fun _=> ?_) (fun _=> ?_)|refine And.intro ?_ ?_)|(simp (disch:=first|omega|simp only [RO]|(simp only [RZ]<;>omega)|(with_reducible (repeat (first|assumption|exact Ext.refl _|refine Ext.alloc ?_ _|refine Ext.drew ?_|refine Ext.trans ?_ (by assumption))))|fail) only [↓RBp,↓RA,↓reduceIte,Nat.reduceAdd,Nat.reduceMul,Nat.reduceEqDiff,RB,RX,RA2,hsz,her,hld,hq,c_line,Int.toNat_natCast,rd_mf,ag_mf,nilR_Load])))
 refine k_header x _ _ (hG.ext (by repeat (first|(with_reducible first|refine eB ?_ _|assumption|exact eR _|refine eA ?_ _|refine eD ?_|refine eT ?_ (by assumption))|exact eR _))) hx (fun w1 he1=> ?_)
 have e1:Ext w w1:=Ext.trans (by repeat (first|(with_reducible first|refine eB ?_ _|assumption|exact eR _|refine eA ?_ _|refine eD ?_|refine eT ?_ (by assumption))|exact eR _)) he1
 have hC0:Cells w1 w.heap.size 79 3 (fun i=> [Value.int .i64 0,.int .i64 0,.int .u16 ((0:Nat):Int)].getD i undef):=by
  have:=(Cells.new w [Value.int .i64 0,.int .i64 0,.int .u16 ((0:Nat):Int)] 79)
  exact this.ext (Ext.trans (by repeat (first|(with_reducible first|refine eB ?_ _|assumption|exact eR _|refine eA ?_ _|refine eD ?_|refine eT ?_ (by assumption))|exact eR _)) he1)
 have c0:=hC0.cell (i:=0) (by omega)
 have c1:=hC0.cell (i:=1) (by omega)
 have c2:=hC0.cell (i:=2) (by omega)
 have lt1:=hC0.lt
 rw [hok]
 unfold hdV
 have ob1:=cells3 hC0 (.int .i64 (hC x)) (.int .i64 (hO x)) (.int .u16 (gX x:Int));have d0:=ob1.1;have d1:=ob1.2.1;have d2:=ob1.2.2.1;have hD:=ob1.2.2.2
 simp (disch:=first|omega|simp only [RO]|(simp only [RZ]<;>omega)|fail) only [↓RBp,↓RA,↓reduceIte,Nat.reduceAdd,Nat.reduceMul,Nat.reduceEqDiff,RB,RX,RA2,c0,c1,c2,hC0.frz,d0,d1,d2]
 exact hK _ (by repeat (first|(with_reducible first|refine eB ?_ _|assumption|exact eR _|refine eA ?_ _|refine eD ?_|refine eT ?_ (by assumption))|exact eR _))
theorem k_LookForm (h:Dv w Y D) (g:Good D) (hG:Glob w) (ho:D.off=false) (he:D.err 0=0) (l:Nat) (hl:l+32≤D.n) (hok:hdOk (wd D l 0)=false) (K:K1)
  (hK:∀w',Ext w w'→K (.tuple #[.agg #[.int .i64 0,.int .i64 0,.int .u16 ((0:Nat):Int)],.int .i64 11]) w'):
  callS prog 32 #[thV Y,.int .i64 (l:Int)] w K:=by
 have hn:=g.n
 have hsz:∀(w1:World) (K:K1),Ext w w1→callS prog 117 #[.pointer (some ⟨Y.tb 0,0,none⟩)] w1 K=K (.int .u64 ((D.n*64:Nat):Int)) w1:=fun w1 K e=>c_TSize (h.ext e) g 0 (by omega) K
 have her:∀(w1:World) (K:K1),Ext w w1→callS prog 114 #[.pointer (some ⟨Y.tb 0,0,none⟩)] w1 K=K (.int .i64 0) w1:=fun w1 K e=>by rw [c_Err (h.ext e) 0 (by omega) K,he]
 have hld:∀(w1:World) (K:K1),Ext w w1→callS prog 116 #[.pointer (some ⟨Y.tb 0,0,none⟩),.int .u64 ((l*64:Nat):Int)] w1 K=K (.int .u64 (wd D l 0:Int)) w1:=fun w1 K e=>by
  rw [c_Load (h.ext e) g 0 (by omega) ho (l*64) (by omega) (by omega) K,show l*64/8=l*8+0 by omega];unfold wd;rfl
 have hx:wd D l 0<18446744073709551616:=by unfold wd;exact g.cur _ (by omega)
 have hq:D.n*64/64=D.n:=by omega
 generalize wd D l 0=x at*
 refine f32_call _ _ _ _ ?_
 unfold thV f32_t
 (repeat' (first|(with_reducible first|refine brS_mk (fun _=> ?_) (fun _=> ?_)|refine And.intro ?_ ?_)|(simp (disch:=first|omega|simp only [RO]|(simp only [RZ]<;>omega)|(with_reducible (repeat (first|assumption|exact Ext.refl _|refine Ext.alloc ?_ _|refine Ext.drew ?_|refine Ext.trans ?_ (by assumption))))|fail) only [↓RBp,↓RA,↓reduceIte,Nat.reduceAdd,Nat.reduceMul,Nat.reduceEqDiff,RB,RX,RA2,hsz,her,hld,hq,c_line,Int.toNat_natCast,rd_mf,ag_mf,nilR_Load])))
 refine k_header x _ _ (hG.ext (by repeat (first|(with_reducible first|refine eB ?_ _|assumption|exact eR _|refine eA ?_ _|refine eD ?_|refine eT ?_ (by assumption))|exact eR _))) hx (fun w1 he1=> ?_)
 have e1:Ext w w1:=Ext.trans (by repeat (first|(with_reducible first|refine eB ?_ _|assumption|exact eR _|refine eA ?_ _|refine eD ?_|refine eT ?_ (by assumption))|exact eR _)) he1
 have hC0:Cells w1 w.heap.size 79 3 (fun i=> [Value.int .i64 0,.int .i64 0,.int .u16 ((0:Nat):Int)].getD i undef):=by
  have:=(Cells.new w [Value.int .i64 0,.int .i64 0,.int .u16 ((0:Nat):Int)] 79)
  exact this.ext (Ext.trans (by repeat (first|(with_reducible first|refine eB ?_ _|assumption|exact eR _|refine eA ?_ _|refine eD ?_|refine eT ?_ (by assumption))|exact eR _)) he1)
 have c0:=hC0.cell (i:=0) (by omega)
 have c1:=hC0.cell (i:=1) (by omega)
 have c2:=hC0.cell (i:=2) (by omega)
 have lt1:=hC0.lt
 rw [hok]
 unfold hdV
 have ob2:=cells3 hC0 (.int .i64 0) (.int .i64 0) (.int .u16 ((0:Nat):Int));have d0:=ob2.1;have d1:=ob2.2.1;have d2:=ob2.2.2.1;have hD:=ob2.2.2.2
 simp (disch:=first|omega|simp only [RO]|(simp only [RZ]<;>omega)|fail) only [↓RBp,↓RA,↓reduceIte,Nat.reduceAdd,Nat.reduceMul,Nat.reduceEqDiff,RB,RX,RA2,c0,c1,c2,hC0.frz,d0,d1,d2]
 exact hK _ (by repeat (first|(with_reducible first|refine eB ?_ _|assumption|exact eR _|refine eA ?_ _|refine eD ?_|refine eT ?_ (by assumption))|exact eR _))
abbrev chZ:Value:= .agg #[.nilIface,.int .i64 0,.int .i64 0,.int .i64 0,.int .u16 ((0:Nat):Int)]
theorem k_OpenAt (h:Dv w Y D) (g:Good D) (hG:Glob w) (ho:D.off=false) (he:D.err 0=0) (l:Nat) (hl:l+32≤D.n) (hok:hdOk (wd D l 0)=true) (K:K1)
  (hK:∀w',Ext w w'→K (if hC (wd D l 0)<0 then .tuple #[chZ,.int .i64 8] else .tuple #[chV Y l (hC (wd D l 0)) (hO (wd D l 0)) (gX (wd D l 0)),.int .i64 0]) w'):
  callS prog 58 #[thV Y,.int .i64 (l:Int)] w K:=by
 refine f58_call _ _ _ _ ?_
 unfold thV f58_t
 simp (disch:=first|omega|simp only [RO]|(simp only [RZ]<;>omega)|fail) only [↓RBp,↓RA,↓reduceIte,Nat.reduceAdd,Nat.reduceMul,Nat.reduceEqDiff,RB,RX,RA2]
 refine k_Look (h.ext (by repeat (first|(with_reducible first|refine eB ?_ _|assumption|exact eR _|refine eA ?_ _|refine eD ?_|refine eT ?_ (by assumption))|exact eR _))) g (hG.ext (by repeat (first|(with_reducible first|refine eB ?_ _|assumption|exact eR _|refine eA ?_ _|refine eD ?_|refine eT ?_ (by assumption))|exact eR _))) ho he l hl hok _ (fun w1 he1=> ?_)
 have e1:Ext w w1:=Ext.trans (by repeat (first|(with_reducible first|refine eB ?_ _|assumption|exact eR _|refine eA ?_ _|refine eD ?_|refine eT ?_ (by assumption))|exact eR _)) he1
 have hC0:Cells w1 w.heap.size 121 5 (fun i=> [Value.nilIface,.int .i64 0,.int .i64 0,.int .i64 0,.int .u16 ((0:Nat):Int)].getD i undef):=by
  have:=(Cells.new w [Value.nilIface,.int .i64 0,.int .i64 0,.int .i64 0,.int .u16 ((0:Nat):Int)] 121)
  exact this.ext (Ext.trans (by repeat (first|(with_reducible first|refine eB ?_ _|assumption|exact eR _|refine eA ?_ _|refine eD ?_|refine eT ?_ (by assumption))|exact eR _)) he1)
 have c0:=hC0.cell (i:=0) (by omega)
 have c1:=hC0.cell (i:=1) (by omega)
 have c2:=hC0.cell (i:=2) (by omega)
 have c3:=hC0.cell (i:=3) (by omega)
 have c4:=hC0.cell (i:=4) (by omega)
 have lt1:=hC0.lt
 by_cases hc:hC (wd D l 0)<0
 ·rw [if_pos hc] at hK
  have ob4:=cells5 hC0 .nilIface (.int .i64 0) (.int .i64 0) (.int .i64 0) (.int .u16 ((0:Nat):Int));have d0:=ob4.1;have d1:=ob4.2.1;have d2:=ob4.2.2.1;have d3:=ob4.2.2.2.1;have d4:=ob4.2.2.2.2
  simp (disch:=first|omega|simp only [RO]|(simp only [RZ]<;>omega)|fail) only [↓RBp,↓RA,↓reduceIte,Nat.reduceAdd,Nat.reduceMul,Nat.reduceEqDiff,RB,RX,RA2,c0,c1,c2,c3,c4,hC0.frz,d0,d1,d2,d3,d4]
  exact hK _ (by repeat (first|(with_reducible first|refine eB ?_ _|assumption|exact eR _|refine eA ?_ _|refine eD ?_|refine eT ?_ (by assumption))|exact eR _))
 ·rw [if_neg hc] at hK
  have ob5:=cells5 hC0 (.iface 28 (.pointer (some ⟨Y.tb 0,0,none⟩))) (.int .i64 (l:Int)) (.int .i64 (hC (wd D l 0))) (.int .i64 (hO (wd D l 0))) (.int .u16 (gX (wd D l 0):Int));have d0:=ob5.1;have d1:=ob5.2.1;have d2:=ob5.2.2.1;have d3:=ob5.2.2.2.1;have d4:=ob5.2.2.2.2
  simp (disch:=first|omega|simp only [RO]|(simp only [RZ]<;>omega)|fail) only [↓RBp,↓RA,↓reduceIte,Nat.reduceAdd,Nat.reduceMul,Nat.reduceEqDiff,RB,RX,RA2,c0,c1,c2,c3,c4,hC0.frz,d0,d1,d2,d3,d4]
  exact hK _ (by repeat (first|(with_reducible first|refine eB ?_ _|assumption|exact eR _|refine eA ?_ _|refine eD ?_|refine eT ?_ (by assumption))|exact eR _))
end
theorem onc_valid {per:Int}:∀{L:List Int} {m m':Nat},onc per L m=some m'→∀i∈L,0≤i∧i<per:=by
 intro L
 induction L with
 |nil=>intro m m' _ i hi;cases hi
 |cons x L ih=>
  intro m m' h i hi
  simp only [onc] at h
  split at h
  ·rename_i hx
   rcases List.mem_cons.1 hi with rfl|hi
   ·exact hx.1
   ·exact ih h i hi
  ·cases h
structure ActA (c:Int) (L:List Int) (ks:List Nat) (M:List Int):Prop where
 len:ks.length=L.length
 kin:∀k∈ks,k≠0∧k≤127
 onc:((onc (perS c) L 0).bind (onc (perS c) M)).isSome=true
theorem ActA.vL {c:Int} {L M:List Int} {ks:List Nat} (h:ActA c L ks M):∀i∈L,0≤i∧i<perS c:=by
 have:=h.onc
 cases h1:Go.Proofs.YtifpinhjpbgnoaaDoor.onc (perS c) L 0 with
 |none=>rw [h1] at this;cases this
 |some m=>exact onc_valid h1
theorem ActA.vM {c:Int} {L M:List Int} {ks:List Nat} (h:ActA c L ks M):∀i∈M,0≤i∧i<perS c:=by
 have:=h.onc
 cases h1:Go.Proofs.YtifpinhjpbgnoaaDoor.onc (perS c) L 0 with
 |none=>rw [h1] at this;cases this
 |some m=>
  rw [h1,Option.bind_some] at this
  cases h2:Go.Proofs.YtifpinhjpbgnoaaDoor.onc (perS c) M m with
  |none=>rw [h2] at this;cases this
  |some m'=>exact onc_valid h2
section
variable {w w':World} {Y:Lay} {D:DS} {l:Nat} {c o:Int} {g:Nat}
end
structure Lv (w0 w:World) (Y:Lay) (D:DS):Prop where
 dv:Dv w Y D
 gd:Good D
 ex:Ext w0 w
 nw:∀x,Y.F x→w0.heap.size≤x
section
variable {w0 w w':World} {Y Y':Lay} {D D':DS} {a b c g:Nat}
theorem Lv.ext (h:Lv w0 w Y D) (e:Ext w w'):Lv w0 w' Y D:=⟨h.dv.ext e,h.gd,h.ex.trans e,h.nw⟩
theorem Ext.frm {F:Nat→Prop} (h:Ext w0 w) (f:Frm F w w') (hF:∀x,F x→w0.heap.size≤x):Ext w0 w':=
 (Frm.trans (F:=Nob) (G:=F) (Frm.of_ext h) f (fun x hx hf=>by have:=hF x hf;omega)).to_ext (fun _ _ h=>h)
theorem Lv.step (h:Lv w0 w Y D) (s:Stp w Y w' Y' D') (g:Good D'):Lv w0 w' Y' D':=by
 refine ⟨s.dv,g,Ext.frm h.ex s.frm h.nw,fun x hx=> ?_⟩
 rcases s.fr x hx with h1|h1
 ·exact h.nw x h1
 ·exact Nat.le_trans h.ex.size h1
theorem Lv.frm {G:Nat→Prop} (h:Lv w0 w Y D) (f:Frm G w w') (hG:∀b,G b→b<w0.heap.size):Dv w' Y D:=
 h.dv.frm f (fun b hb hg=>by have:=h.nw b hb;have:=hG b hg;omega)
end
theorem applyH_val {ws:List (Nat×Nat)}:∀{f:Nat→Nat} {x v:Nat},(∀y∈ws,y.1/8=x→y.2=v)→((∃y∈ws,y.1/8=x)∨f x=v)→applyH ws f x=v:=by
 induction ws with
 |nil=>
  intro f x v _ h
  rcases h with ⟨y,hy,_⟩|h
  ·cases hy
  ·exact h
 |cons z ws ih=>
  intro f x v h1 h2
  rw [applyH_cons]
  refine ih (fun y hy=>h1 y (by simp [hy])) ?_
  by_cases hx:x=z.1/8
  ·right
   simp only [hx,if_true]
   exact h1 z (by simp) hx.symm
  ·rcases h2 with ⟨y,hy,hyx⟩|h2
   ·rcases List.mem_cons.1 hy with rfl|hy
    ·exact absurd hyx.symm hx
    ·exact .inl ⟨y,hy,hyx⟩
   ·right;simp only [hx,if_false];exact h2
def isB (c:Int) (j:Nat):Bool:=(List.range (perS c).toNat).any fun i=>offN c i==j
section
variable {l g:Nat} {c o:Int}
end
section
variable {w w':World} {Y:Lay} {D:DS}
end
def DS.strs (D:DS) (ws:List (Nat×Nat)):DS:=D.run 0 (ws.map wrI)
theorem strs_take {D:DS} {ws:List (Nat×Nat)} {j:Nat} {x:Nat×Nat} (h:ws[j]? =some x):D.strs (ws.take (j+1))=(D.strs (ws.take j)).store 0 x.1 x.2:=by
 unfold DS.strs
 rw [take_snoc' h,List.map_append,run_append];rfl
theorem strs_good {D:DS} (g:Good D) {ws:List (Nat×Nat)} (h:∀x∈ws,x.1<18446744073709551616∧x.2<18446744073709551616):Good (D.strs ws):=by
 refine Good.run 0 (by omega) _ _ g (fun i hi=> ?_)
 obtain ⟨x,hx,rfl⟩:=List.mem_map.1 hi
 have:=h x hx
 exact ⟨by simp [wrI],by simp [wrI],this.1,this.2⟩
theorem strs_n (D:DS) (ws:List (Nat×Nat)):(D.strs ws).n=D.n:=run_n 0 _ D
theorem strs_exe (D:DS) (ws:List (Nat×Nat)):(D.strs ws).exe≤D.exe+ws.length:=by
 have:=run_exe 0 (ws.map wrI) D
 rw [List.length_map] at this;exact this
theorem strs_on {D:DS} (h:On D) {ws:List (Nat×Nat)} (hv:∀x∈ws,x.1%8=0∧x.1<D.n*64):On (D.strs ws)∧(D.strs ws).cur=applyH ws D.cur:=On.runW ws D h hv
section
variable {w w':World} {Y:Lay} {D:DS}
theorem bit0 (i:Nat):bitB 0 i=false:=by simp [bitB]
end
section
variable {w w':World} {Y Y':Lay} {D D':DS}
theorem one_get {x u:Value} {j:Nat} (h: [x][j]? =some u):j=0∧u=x:=by
 rcases j with _|j
 ·simp at h;exact ⟨rfl,h.symm⟩
 ·simp at h
end
section
variable {w w':World} {Y Y':Lay} {D D':DS}
variable {c o:Int} {g:Nat}
end
section
variable {w w':World} {Y:Lay} {D:DS} {l:Nat} {c o:Int} {g:Nat}
end
section
variable {w w':World} {Y:Lay} {D:DS} {l:Nat} {c o:Int} {g:Nat}
end
section
variable {w w':World} {Y:Lay} {D:DS} {l:Nat} {c o:Int} {g:Nat}
end
section
variable {w w':World} {Y:Lay} {D:DS} {l:Nat} {c o:Int} {g:Nat}
end
theorem bit_tb (x i:Nat):bitB x i=x.testBit i:=by unfold bitB;rw [Nat.testBit_eq_decide_div_mod_eq]
theorem bit_or (x y i:Nat):bitB (x|||y) i=(bitB x i||bitB y i):=by simp only [bit_tb,Nat.testBit_or]
theorem bit_pow (m i:Nat):bitB (2^m) i=decide (m=i):=by rw [bit_tb,Nat.testBit_two_pow]
theorem bit_clr (x m i:Nat) (hi:i<64):bitB (x&&&(18446744073709551615^^^2^m)) i=(bitB x i&& !decide (m=i)):=by
 have h:(18446744073709551615:Nat).testBit i=true:=by
  have:(18446744073709551615:Nat)=2^64-1:=by decide
  rw [this,Nat.testBit_two_pow_sub_one];simp [hi]
 simp only [bit_tb,Nat.testBit_and,Nat.testBit_xor,h,Nat.testBit_two_pow]
 cases x.testBit i<;>cases decide (m=i)<;>rfl
def hasI (L:List Int) (i:Nat):Bool:=L.any fun x=>decide (x.toNat=i)
theorem hasI_cons (x:Int) (L:List Int) (i:Nat):hasI (x::L) i=(decide (x.toNat=i)||hasI L i):=rfl
theorem hasI_mem {L:List Int} {i:Nat} (h:hasI L i=true):∃x∈L,x.toNat=i:=by
 unfold hasI at h;rw [List.any_eq_true] at h;obtain ⟨x,hx,he⟩:=h;exact ⟨x,hx,by simpa using he⟩
theorem onc_spec {per:Int}:∀{L:List Int} {m m':Nat},onc per L m=some m'→(∀x∈L,bitB m x.toNat=false)∧(L.map Int.toNat).Nodup∧∀i,bitB m' i=(bitB m i||hasI L i):=by
 intro L
 induction L with
 |nil=>intro m m' h;injection h with h;subst h;exact ⟨fun x hx=>(by cases hx),by simp,fun i=>by simp [hasI]⟩
 |cons x L ih=>
  intro m m' h
  simp only [onc] at h
  split at h
  ·rename_i hx
   obtain ⟨h1,h2,h3⟩:=ih h
   refine ⟨fun y hy=> ?_,?_,fun i=> ?_⟩
   ·rcases List.mem_cons.1 hy with rfl|hy
    ·exact hx.2
    ·have:=h1 y hy;rw [bit_or] at this;simp at this;exact this.1
   ·rw [List.map_cons,List.nodup_cons]
    refine ⟨fun hm=> ?_,h2⟩
    obtain ⟨y,hy,he⟩:=List.mem_map.1 hm
    have:=h1 y hy
    rw [bit_or,he,bit_pow] at this;simp at this
   ·rw [h3,bit_or,bit_pow,hasI_cons,Bool.or_assoc]
  ·cases h
theorem ActA.nd {c:Int} {L M:List Int} {ks:List Nat} (h:ActA c L ks M):(L.map Int.toNat).Nodup∧(M.map Int.toNat).Nodup∧∀i,hasI L i=true→hasI M i=false:=by
 have h0:=h.onc
 cases h1:Go.Proofs.YtifpinhjpbgnoaaDoor.onc (perS c) L 0 with
 |none=>rw [h1] at h0;cases h0
 |some m=>
  rw [h1,Option.bind_some] at h0
  cases h2:Go.Proofs.YtifpinhjpbgnoaaDoor.onc (perS c) M m with
  |none=>rw [h2] at h0;cases h0
  |some m'=>
   obtain ⟨a1,a2,a3⟩:=onc_spec h1
   obtain ⟨b1,b2,b3⟩:=onc_spec h2
   refine ⟨a2,b2,fun i hi=> ?_⟩
   cases hM:hasI M i with
   |false=>rfl
   |true=>
    obtain ⟨x,hx,rfl⟩:=hasI_mem hM
    have:=b1 x hx
    rw [a3,hi] at this;simp at this
def zipW (D:DS) (l:Nat) (c:Int):List Int→List Nat→List (Nat×Nat)
 |x::L,k::ks=>tkW D l c x.toNat k::zipW D l c L ks
 |_,_=> []
def orL (L:List Int) (b:Nat):Nat:=L.foldl (fun b x=>b|||2^x.toNat) b
def dpL (D:DS) (l:Nat) (c:Int) (L:List Int) (b:Nat):Nat:=L.foldl (fun b x=>dpB D l c x.toNat b) b
theorem orL_cons (x:Int) (L:List Int) (b:Nat):orL (x::L) b=orL L (b|||2^x.toNat):=List.foldl_cons ..
theorem dpL_cons (D:DS) (l:Nat) (c:Int) (x:Int) (L:List Int) (b:Nat):dpL D l c (x::L) b=dpL D l c L (dpB D l c x.toNat b):=List.foldl_cons ..
def kOf:List Int→List Nat→Nat→Option Nat
 |x::L,k::ks,i=>if x.toNat=i then some k else kOf L ks i
 |_,_,_=>none
section
variable {D:DS} {l:Nat} {c o:Int}
theorem bit_orL:∀(L:List Int) (b i:Nat),bitB (orL L b) i=(bitB b i||hasI L i):=by
 intro L
 induction L with
 |nil=>intro b i;simp [orL,hasI]
 |cons x L ih=>intro b i;rw [orL_cons,ih,bit_or,bit_pow,hasI_cons,Bool.or_assoc]
theorem bit_dpL:∀(M:List Int) (b i:Nat),i<64→bitB (dpL D l c M b) i=(bitB b i&& !(hasI M i&&decide (freS (bG (wd D l (offN c i)))=176))):=by
 intro M
 induction M with
 |nil=>intro b i _;simp [dpL,hasI]
 |cons x M ih=>
  intro b i hi
  rw [dpL_cons,ih _ _ hi,hasI_cons]
  unfold dpB
  by_cases hx:x.toNat=i
  ·rw [hx]
   by_cases hf:freS (bG (wd D l (offN c i)))=176
   ·rw [if_pos hf,bit_clr _ _ _ hi];simp [hf]
   ·rw [if_neg hf];simp [hf]
  ·rw [decide_eq_false hx,Bool.false_or]
   split
   ·rw [bit_clr _ _ _ hi,decide_eq_false hx];simp
   ·rfl
theorem kOf_mem:∀{L:List Int} {ks:List Nat} {i k:Nat},kOf L ks i=some k→tkW D l c i k∈zipW D l c L ks∧hasI L i=true∧k∈ks:=by
 intro L
 induction L with
 |nil=>intro ks i k h;simp [kOf] at h
 |cons x L ih=>
  intro ks i k h
  cases ks with
  |nil=>simp [kOf] at h
  |cons k' ks=>
   simp only [kOf] at h
   split at h
   ·rename_i hx;injection h with h;subst h;subst hx
    exact ⟨by simp [zipW],by simp [hasI_cons],by simp⟩
   ·obtain ⟨h1,h2,h3⟩:=ih h
    exact ⟨by simp [zipW,h1],by simp [hasI_cons,h2],by simp [h3]⟩
theorem kOf_none:∀{L:List Int} {ks:List Nat} {i:Nat},ks.length=L.length→kOf L ks i=none→hasI L i=false:=by
 intro L
 induction L with
 |nil=>intro ks i _ _;rfl
 |cons x L ih=>
  intro ks i hk h
  cases ks with
  |nil=>simp at hk
  |cons k' ks=>
   simp only [kOf] at h
   split at h
   ·cases h
   ·rename_i hx;rw [hasI_cons,decide_eq_false hx,Bool.false_or];exact ih (by simpa using hk) h
def actX (D:DS) (l:Nat) (c:Int) (L:List Int) (ks:List Nat) (M:List Int) (i:Nat):Nat:=
 match kOf L ks i with
 |some k=>(tkW D l c i k).2
 |none=>if hasI M i=true then (dpW D l c i).2 else wd D l (offN c i)
end
structure ActE (D D':DS) (l:Nat) (c:Int) (L:List Int) (ks:List Nat) (M:List Int) (ws:List (Nat×Nat)):Prop where
 ok:∀x∈ws,x.1%8=0∧x.1<D.n*64∧x.2<18446744073709551616
 on:On D'
 rest:∀j,j<256→(∀i:Nat,(i:Int)<perS c→j≠offN c i)→j≠1→wd D' l j=wd D l j
 blk:∀i:Nat,(i:Int)<perS c→wd D' l (offN c i)=actX D l c L ks M i
 map:wd D' l 1=dpL D l c M (orL L (wd D l 1))
 far:∀j,(j<l*8∨l*8+256≤j)→D'.cur j=D.cur j
 len:ws.length≤L.length+M.length+1
 tk:∀x∈L,tkOk D l c x.toNat=true
 dp:∀x∈M,dpOk D l c x.toNat=true
structure Snd (D:DS) (l:Nat) (c o:Int):Prop where
 hd:hdOk (wd D l 0)=true
 hc:hC (wd D l 0)=c
 ho:hO (wd D l 0)=o
 zer:∀j,2≤j→j<8→wd D l j=0
 sl:∀i:Nat,(i:Int)<perS c→isS (wd D l (offN c i))=true
 gd:∀i:Nat,(i:Int)<perS c→goodB (bG (wd D l (offN c i))) (bK (wd D l (offN c i))) (bS (wd D l (offN c i)))=true
 bit:∀i:Nat,i<64→bitB (wd D l 1) i=(decide ((i:Int)<perS c)&& !decide (bS (wd D l (offN c i))=176))
section
variable {D D':DS} {l:Nat} {c o:Int}
theorem good_g {g k s:Nat} (h:goodB g k s=true):g≠0:=by
 unfold goodB at h
 split at h
 ·simp at h;exact h.1
 ·split at h
  ·simp at h;exact h.1.1
  ·split at h
   ·simp at h;omega
   ·cases h
theorem good_fre (g:Nat):goodB (freG g) 0 (freS g)=true:=by
 unfold freG freS goodB
 by_cases h:g=65535
 ·simp [h]
 ·simp [h]
theorem tk_parts {i:Nat} (h:tkOk D l c i=true):isS (wd D l (offN c i))=true∧bitB (wd D l 1) i=false∧bS (wd D l (offN c i))=176∧goodB (bG (wd D l (offN c i))) (bK (wd D l (offN c i))) (bS (wd D l (offN c i)))=true:=by
 unfold tkOk at h
 simp only [Bool.and_eq_true,Bool.not_eq_true',decide_eq_true_eq] at h
 exact h
theorem dp_parts {i:Nat} (h:dpOk D l c i=true):isS (wd D l (offN c i))=true∧bitB (wd D l 1) i=true∧bS (wd D l (offN c i))=177:=by
 unfold dpOk at h
 simp only [Bool.and_eq_true,decide_eq_true_eq] at h
 exact h
theorem tkW_parts (i k:Nat) (hk:k<256):isS (tkW D l c i k).2=true∧bG (tkW D l c i k).2=bG (wd D l (offN c i))∧bK (tkW D l c i k).2=k∧bS (tkW D l c i k).2=177:=⟨isS_blk (bG_lt _) hk (by omega),bG_blk (bG_lt _) hk (by omega),bK_blk (bG_lt _) hk (by omega),bS_blk (bG_lt _) hk (by omega)⟩
theorem dpW_parts (i:Nat):isS (dpW D l c i).2=true∧bG (dpW D l c i).2=freG (bG (wd D l (offN c i)))∧bK (dpW D l c i).2=0∧bS (dpW D l c i).2=freS (bG (wd D l (offN c i))):=⟨isS_blk (freG_lt (bG_lt _)) (by omega) (freS_lt _),bG_blk (freG_lt (bG_lt _)) (by omega) (freS_lt _),bK_blk (freG_lt (bG_lt _)) (by omega) (freS_lt _),bS_blk (freG_lt (bG_lt _)) (by omega) (freS_lt _)⟩
theorem Snd.act {L M:List Int} {ks:List Nat} {ws:List (Nat×Nat)} (h:Snd D l c o) (c0:0≤c) (c5:c<5) (ha:ActA c L ks M) (e:ActE D D' l c L ks M ws):Snd D' l c o:=by
 have bd:=fun (i:Nat) (hi:(i:Int)<perS c)=>offN_bd c0 c5 hi
 have r:∀j,j<8→j≠1→wd D' l j=wd D l j:=fun j hj h1=>e.rest j (by omega) (fun i hi=>by have:=bd i hi;omega) h1
 have r0:=r 0 (by omega) (by omega)
 obtain ⟨n1,n2,n3⟩:=ha.nd
 have kk:∀{i k:Nat},kOf L ks i=some k→k≠0∧k≤127∧tkOk D l c i=true∧hasI L i=true∧hasI M i=false:=fun {i k} hk=>by
  obtain ⟨k1,k2,k3⟩:=kOf_mem (D:=D) (l:=l) (c:=c) hk
  obtain ⟨x,hx,rfl⟩:=hasI_mem k2
  exact ⟨(ha.kin k k3).1,(ha.kin k k3).2,e.tk x hx,k2,n3 _ k2⟩
 have mm:∀{i:Nat},hasI M i=true→dpOk D l c i=true:=fun {i} hm=>by obtain ⟨x,hx,rfl⟩:=hasI_mem hm;exact e.dp x hx
 refine ⟨by rw [r0];exact h.hd,by rw [r0];exact h.hc,by rw [r0];exact h.ho,fun j h2 h8=>by rw [r j h8 (by omega)];exact h.zer j h2 h8,fun i hi=> ?_,fun i hi=> ?_,fun i h64=> ?_⟩
 ·rw [e.blk i hi];unfold actX
  cases hk:kOf L ks i with
  |some k=>exact (tkW_parts i k (by have:=kk hk;omega)).1
  |none=>
   simp only
   split
   ·exact (dpW_parts i).1
   ·exact h.sl i hi
 ·rw [e.blk i hi];unfold actX
  cases hk:kOf L ks i with
  |some k=>
   have h1:=kk hk
   obtain ⟨_,a,b,d⟩:=tkW_parts (D:=D) (l:=l) (c:=c) i k (by omega)
   simp only [a,b,d]
   have hg:=good_g (tk_parts h1.2.2.1).2.2.2
   simp [goodB,hg,h1.1,h1.2.1]
  |none=>
   simp only
   split
   ·obtain ⟨_,a,b,d⟩:=dpW_parts (D:=D) (l:=l) (c:=c) i
    rw [a,b,d];exact good_fre _
   ·exact h.gd i hi
 ·rw [e.map,bit_dpL _ _ _ h64,bit_orL,h.bit i h64]
  by_cases hi:(i:Int)<perS c
  ·rw [e.blk i hi,decide_eq_true hi];unfold actX
   cases hk:kOf L ks i with
   |some k=>
    have h1:=kk hk
    simp only [h1.2.2.2.1,h1.2.2.2.2,(tkW_parts (D:=D) (l:=l) (c:=c) i k (by omega)).2.2.2]
    simp
   |none=>
    have hL:=kOf_none ha.len hk
    simp only [hL]
    by_cases hm:hasI M i=true
    ·have h1:=dp_parts (mm hm)
     have h2:=h.bit i h64
     rw [h1.2.1,decide_eq_true hi,Bool.true_and] at h2
     simp only [hm,if_true,(dpW_parts (D:=D) (l:=l) (c:=c) i).2.2.2,←h2]
     simp
    ·have hm:hasI M i=false:=by simpa using hm
     simp [hm]
  ·have hL:hasI L i=false:=by
    cases hh:hasI L i with
    |false=>rfl
    |true=>obtain ⟨x,hx,rfl⟩:=hasI_mem hh;have:=ha.vL x hx;omega
   have hM:hasI M i=false:=by
    cases hh:hasI M i with
    |false=>rfl
    |true=>obtain ⟨x,hx,rfl⟩:=hasI_mem hh;have:=ha.vM x hx;omega
   simp [hL,hM,hi]
end
def chF (T l:Nat) (c o:Int) (g:Nat) (i:Nat):Value:= [Value.iface 28 (.pointer (some ⟨T,0,none⟩)),.int .i64 (l:Int),.int .i64 c,.int .i64 o,.int .u16 (g:Int)].getD i undef
structure Loc (w0 w:World) (Y:Lay) (D:DS) (B l:Nat) (c o:Int) (g:Nat):Prop where
 L:Lv w0 w Y D
 bx:Cells w B 121 5 (chF (Y.tb 0) l c o g)
 nb:¬Y.F B
 on:On D
 lt:l+32≤D.n
 gl:Glob w0
 c0:0≤c
 c5:c<5
def Out (w0:World) (Y:Lay) (B:Nat) (v:Value):Prop:=∀b,v.ownBlock=some b→w0.heap.size≤b∧¬Y.F b∧b≠B
section
variable {w0 w w':World} {Y Y':Lay} {D D':DS} {B l:Nat} {c o:Int} {g:Nat}
theorem Loc.ext (h:Loc w0 w Y D B l c o g) (e:Ext w w'):Loc w0 w' Y D B l c o g:=⟨h.L.ext e,h.bx.ext e,h.nb,h.on,h.lt,h.gl,h.c0,h.c5⟩
theorem Loc.step (h:Loc w0 w Y D B l c o g) (s:Stp w Y w' Y' D') (gd:Good D') (on:On D') (hn:D'.n=D.n):Loc w0 w' Y' D' B l c o g:=by
 have tb:Y'.tb 0=Y.tb 0:=by rw [s.tb]
 refine ⟨h.L.step s gd,?_,fun hf=> ?_,on,by rw [hn];exact h.lt,h.gl,h.c0,h.c5⟩
 ·rw [tb];exact h.bx.frm s.frm h.nb
 ·rcases s.fr B hf with h1|h1
  ·exact h.nb h1
  ·have:=h.bx.lt;omega
theorem Loc.cells (h:Loc w0 w Y D B l c o g):w.cell? ⟨B,0,none⟩=some (.iface 28 (.pointer (some ⟨Y.tb 0,0,none⟩)))∧w.cell? ⟨B,1,none⟩=some (.int .i64 (l:Int))∧w.cell? ⟨B,2,none⟩=some (.int .i64 c)∧w.cell? ⟨B,3,none⟩=some (.int .i64 o)∧w.cell? ⟨B,4,none⟩=some (.int .u16 (g:Int)):=
 ⟨h.bx.cell (i:=0) (by omega),h.bx.cell (i:=1) (by omega),h.bx.cell (i:=2) (by omega),h.bx.cell (i:=3) (by omega),h.bx.cell (i:=4) (by omega)⟩
theorem Loc.ltB (h:Loc w0 w Y D B l c o g):B<w.heap.size:=h.bx.lt
theorem Loc.frm {G:Nat→Prop} (h:Loc w0 w Y D B l c o g) (f:Frm G w w') (hG:∀b,G b→w0.heap.size≤b∧¬Y.F b∧b≠B):Loc w0 w' Y D B l c o g:=
 ⟨⟨h.L.dv.frm f (fun b hb hg=>(hG b hg).2.1 hb),h.L.gd,Ext.frm h.L.ex f (fun x hx=>(hG x hx).1),h.L.nw⟩,h.bx.frm f (fun hb=>(hG B hb).2.2 rfl),h.nb,h.on,h.lt,h.gl,h.c0,h.c5⟩
theorem Out.step {v:Value} {t:TypeId} {z n:Nat} {L:List Value} (h:Out w0 Y B v) (hs:SlO w t z v n L) (s:Stp w Y w' Y' D'):Out w0 Y' B v∧SlO w' t z v n L:=by
 refine ⟨fun b hb=>⟨(h b hb).1,fun hf=> ?_,(h b hb).2.2⟩,hs.frm s.frm (fun b hb=>(h b hb).2.1)⟩
 rcases s.fr b hf with h1|h1
 ·exact (h b hb).2.1 h1
 ·have:=hs.lt hb;omega
theorem Out.nil (w0:World) (Y:Lay) (B:Nat):Out w0 Y B (.slice none 0 0):=fun b hb=>by cases hb
theorem Out.new {v:Value} (h:Loc w0 w Y D B l c o g) (hv:NewV w.heap.size v):Out w0 Y B v:=fun b hb=>by
 have h1:=hv b hb
 have h2:=h.ltB
 have h3:=h.L.ex.size
 exact ⟨by omega,fun hf=>by have:=h.L.dv.lt hf;omega,by omega⟩
theorem Loc.er (h:Loc w0 w Y D B l c o g):∀(w1:World) (K:K1),Ext w w1→callS prog 114 #[.pointer (some ⟨Y.tb 0,0,none⟩)] w1 K=K (.int .i64 0) w1:=fun w1 K e=>by rw [c_Err (h.L.dv.ext e) 0 (by omega) K,h.on.err]
end
def f9_t (x0:Value) (K:K1) (w:World):Prop:=
 ev prog (binM .eql 24 (.tmp 3) (.const (.pointer none)) x0 (.pointer none)) w fun t4 w=>
 cndS t4 (
 K (.slice none 0 0) w) (
 nilS prog x0 w fun t6 w=>
 ev prog (Instr.fieldAt 60 t6 1) w fun t7 w=>
 ldS prog 56 t7 w fun t8 w=>
 callS prog 28 (pA #[t8]) w fun t9 w=>
 K t9 w)
theorem f9_call (x0:Value) (K:K1) (w:World) (h:f9_t x0 K w):callS prog 9 #[x0] w K:=
 call_of_txt (args:= [x0]) mixed Tryd.func9 .o (by kernel_rfl) (cast (by kernel_rfl) h)
noncomputable def f10_u:Code×Dec:=((Tryd.f10.body).getD .skip,(.s .o (.s .o (.s .o (.x 1 (.s .o (.b (.l [24] 8388611 35184355315520 .o))) .o)))))
abbrev f10_e (K:K1):KF:=endK prog Tryd.f10.results.toList K
def f10_k1_o (K:K1):KF:=fun fr w=>∀σ,cP (pr (pr (pr (pr f10_u)))) (f10_e K) (f10_e K) nX (mixF 1 σ 0 fr) w
def f10_k1 (K:K1) (x0:Value) (w:World):Prop:=f10_k1_o K (fz 47 0 [(0,x0)]) w
def f10_l1 (K:K1) (x0 x1 x23 x24:Value) (w:World):Prop:=loopT [24] 8388611 (fun E=>cP (pl (pl (pr (pl (pr (pr (pr f10_u))))))) E (f10_e K) (exB 0 (f10_k1_o K) nX)) (fz 47 0 [(0,x0),(1,x1),(23,x23),(24,x24)]) w
def f10_k1_t (x0:Value) (K:K1) (w:World):Prop:=
 invS prog x0 "Err" (pA #[]) w fun t46 w=>
 K t46 w
theorem f10_k1_eq (K:K1) (x0:Value) (w:World):f10_k1 K x0 w=f10_k1_t x0 K w:=cutE fun σ=>by kernel_rfl
def f10_l1_t (x0 x1 x23 x24:Value) (K:K1) (E1:VP1) (w:World):Prop:=
 ev prog (binM .lss 3 (.tmp 24) (.tmp 23) x24 x23) w fun t25 w=>
 cndS t25 (
 ev prog (binM .mul 3 (.tmp 29) (.const (.int .i64 32)) x24 (.int .i64 32)) w fun t30 w=>
 ev prog (binM .add 3 (.tmp 28) (.tmp 30) x1 t30) w fun t31 w=>
 callS prog 30 (pA #[t31,(.int .u16 ((1:Nat):Int))]) w fun t32 w=>
 ev prog (Instr.extract t32 0) w fun t33 w=>
 ev prog (Instr.extract t32 1) w fun t34 w=>
 ev prog (binM .neq 25 (.tmp 35) (.const (.int .i64 0)) t34 (.int .i64 0)) w fun t36 w=>
 cndS t36 (
 K t34 w) (
 callS prog 31 (pA #[t33,x0]) w fun t40 w=>
 ev prog (binM .neq 25 (.tmp 41) (.const (.int .i64 0)) t40 (.int .i64 0)) w fun t42 w=>
 cndS t42 (
 K t40 w) (
 ev prog (binM .add 3 (.tmp 24) (.const (.int .i64 1)) x24 (.int .i64 1)) w fun t44 w=>
 E1 t44 w))) (
 f10_k1 K x0 w)
theorem f10_l1_rule (x0 x1 x23 x24:Value) (K:K1) (w:World) (I:VP1) (μ:Value→World→Nat) (h0:I x24 w)
  (hr:∀(x24:Value) (w:World),I x24 w→∀E1:VP1,(∀(y24:Value) (w':World),I y24 w'→μ y24 w'<μ x24 w→E1 y24 w')→f10_l1_t x0 x1 x23 x24 K E1 w):f10_l1 K x0 x1 x23 x24 w:=
 ⟨I,μ,h0,fun σ w hI E hE=>cast (by kernel_rfl) (hr (σ 24) w hI E hE)⟩
def f10_t (x0 x1 x2:Value) (K:K1) (w:World):Prop:=
 callS prog 29 (pA #[x0,x1,x2]) w fun t15 w=>
 ev prog (Op.unary .not t15) w fun t16 w=>
 cndS t16 (
 K (.int .i64 1) w) (
 invS prog x0 "Err" (pA #[]) w fun t18 w=>
 ev prog (binM .neq 25 (.tmp 19) (.const (.int .i64 0)) t18 (.int .i64 0)) w fun t20 w=>
 cndS t20 (
 K t18 w) (
 ev prog (binM .quo 3 (.tmp 22) (.const (.int .i64 32)) x2 (.int .i64 32)) w fun t23 w=>
 f10_l1 K x0 x1 t23 (.int .i64 0) w))
theorem f10_call (x0 x1 x2:Value) (K:K1) (w:World) (h:f10_t x0 x1 x2 K w):callS prog 10 #[x0,x1,x2] w K:=
 call_of_txt (args:= [x0,x1,x2]) mixed Tryd.func10 f10_u.2 (by kernel_rfl) (cast (by kernel_rfl) h)
noncomputable def f11_u:Code×Dec:=((Tryd.f11.body).getD .skip,(.s .o (.s .o (.s .o (.s .o (.x 512 (.s .o (.b (.l [29] 268435971 2305843008676838592 .o))) .o))))))
abbrev f11_e (K:K1):KF:=endK prog Tryd.f11.results.toList K
def f11_k1_o (K:K1):KF:=fun fr w=>∀σ,cP (pr (pr (pr (pr (pr f11_u))))) (f11_e K) (f11_e K) nX (mixF 512 σ 0 fr) w
def f11_k1 (K:K1) (x9:Value) (w:World):Prop:=f11_k1_o K (fz 62 0 [(9,x9)]) w
def f11_l1 (K:K1) (x0 x1 x9 x28 x29:Value) (w:World):Prop:=loopT [29] 268435971 (fun E=>cP (pl (pl (pr (pl (pr (pr (pr (pr f11_u)))))))) E (f11_e K) (exB 0 (f11_k1_o K) nX)) (fz 62 0 [(0,x0),(1,x1),(9,x9),(28,x28),(29,x29)]) w
def f11_k1_t (x9:Value) (K:K1) (w:World):Prop:=
 K (.tuple #[x9,(.int .i64 0)]) w
theorem f11_k1_eq (K:K1) (x9:Value) (w:World):f11_k1 K x9 w=f11_k1_t x9 K w:=cutE fun σ=>by kernel_rfl
def f11_l1_t (x0 x1 x9 x28 x29:Value) (K:K1) (E1:VP1) (w:World):Prop:=
 ev prog (binM .lss 3 (.tmp 29) (.tmp 28) x29 x28) w fun t30 w=>
 cndS t30 (
 ev prog (binM .mul 3 (.tmp 33) (.const (.int .i64 32)) x29 (.int .i64 32)) w fun t34 w=>
 ev prog (binM .add 3 (.tmp 32) (.tmp 34) x1 t34) w fun t35 w=>
 callS prog 32 (pA #[x0,t35]) w fun t39 w=>
 ev prog (Instr.extract t39 0) w fun t40 w=>
 ev prog (Instr.extract t39 1) w fun t41 w=>
 ev prog (Instr.alloc 79 true (.tuple #[])) w fun t12 w=>
 stS prog 79 t12 t40 w fun w=>
 ev prog (binM .neq 25 (.tmp 42) (.const (.int .i64 0)) t41 (.int .i64 0)) w fun t43 w=>
 cndS t43 (
 K (.tuple #[(.pointer none),t41]) w) (
 nilR prog x9 w.drew fun t47=>
 rd prog (Instr.fieldAt 78 t47 1) w.drew fun t48=>
 ldR prog 76 t48 w.drew fun t49=>
 rd prog (Instr.fieldAt 79 t12 0) w.drew fun t51=>
 ldR prog 3 t51 w.drew fun t52=>
 rd prog (Instr.fieldAt 79 t12 1) w.drew fun t53=>
 ldR prog 3 t53 w.drew fun t54=>
 rd prog (Instr.build 83 #[(0,t35),(1,t52),(2,t54)]) w.drew fun t55=>
 ev prog (Instr.buildSlice 76 1 #[(0,t55)]) w.drew fun t56 w=>
 (nilR prog x9 w (fun u=>u=t47))∧
 (ag prog (Instr.fieldAt 78 t47 1) w t48)∧
 (ldG prog 76 t48 w t49)∧
 bltS prog .append #[76,76] 76 #[false,false] (pA #[t49,t56]) w fun t57 w=>
 nilR prog x9 w fun t58=>
 rd prog (Instr.fieldAt 78 t58 1) w fun t59=>
 stS prog 76 t59 t57 w fun w=>
 ev prog (binM .add 3 (.tmp 29) (.const (.int .i64 1)) x29 (.int .i64 1)) w fun t60 w=>
 E1 t60 w)) (
 f11_k1 K x9 w)
theorem f11_l1_rule (x0 x1 x9 x28 x29:Value) (K:K1) (w:World) (I:VP1) (μ:Value→World→Nat) (h0:I x29 w)
  (hr:∀(x29:Value) (w:World),I x29 w→∀E1:VP1,(∀(y29:Value) (w':World),I y29 w'→μ y29 w'<μ x29 w→E1 y29 w')→f11_l1_t x0 x1 x9 x28 x29 K E1 w):f11_l1 K x0 x1 x9 x28 x29 w:=
 ⟨I,μ,h0,fun σ w hI E hE=>cast (by kernel_rfl) (hr (σ 29) w hI E hE)⟩
def f11_t (x0 x1 x2:Value) (K:K1) (w:World):Prop:=
 callS prog 29 (pA #[x0,x1,x2]) w fun t17 w=>
 ev prog (Op.unary .not t17) w fun t18 w=>
 cndS t18 (
 K (.tuple #[(.pointer none),(.int .i64 1)]) w) (
 invS prog x0 "Err" (pA #[]) w fun t20 w=>
 ev prog (binM .neq 25 (.tmp 21) (.const (.int .i64 0)) t20 (.int .i64 0)) w fun t22 w=>
 cndS t22 (
 K (.tuple #[(.pointer none),t20]) w) (
 ev prog (Instr.build 78 #[(0,x0)]) w fun t25 w=>
 ev prog (Instr.box 78 t25) w fun t26 w=>
 ev prog (binM .quo 3 (.tmp 27) (.const (.int .i64 32)) x2 (.int .i64 32)) w fun t28 w=>
 f11_l1 K x0 x1 t26 t28 (.int .i64 0) w))
theorem f11_call (x0 x1 x2:Value) (K:K1) (w:World) (h:f11_t x0 x1 x2 K w):callS prog 11 #[x0,x1,x2] w K:=
 call_of_txt (args:= [x0,x1,x2]) mixed Tryd.func11 f11_u.2 (by kernel_rfl) (cast (by kernel_rfl) h)
noncomputable def f12_u:Code×Dec:=((Tryd.f12.body).getD .skip,(.s .o (.s .o (.s .o (.x 8 (.s .o (.b (.l [3,13] 6144 8380456 (.s .o (.s .o (.x 14344 .o .o)))))) .o)))))
abbrev f12_e (K:K1):KF:=endK prog Tryd.f12.results.toList K
def f12_k1_o (K:K1):KF:=fun fr w=>∀σ,cP (pr (pr (pr (pr f12_u)))) (f12_e K) (f12_e K) nX (mixF 8 σ 0 fr) w
def f12_k1 (K:K1) (x3:Value) (w:World):Prop:=f12_k1_o K (fz 24 0 [(3,x3)]) w
def f12_l1 (K:K1) (x3 x11 x12 x13:Value) (w:World):Prop:=loopT [3,13] 6144 (fun E=>cP (pl (pl (pr (pl (pr (pr (pr f12_u))))))) E (f12_e K) (exB 0 (f12_k1_o K) nX)) (fz 24 0 [(3,x3),(11,x11),(12,x12),(13,x13)]) w
def f12_k2_o (K:K1) (E1:VP2):KF:=fun fr w=>∀σ,cP (pr (pr (pr (pl (pl (pr (pl (pr (pr (pr f12_u)))))))))) (fun fr w=>E1 (sv fr 3) (sv fr 13) w) (f12_e K) (exB 0 (f12_k1_o K) nX) (mixF 14344 σ 0 fr) w
def f12_k2 (K:K1) (E1:VP2) (x3 x11 x12 x13:Value) (w:World):Prop:=f12_k2_o K E1 (fz 24 0 [(3,x3),(11,x11),(12,x12),(13,x13)]) w
def f12_k1_t (x3:Value) (K:K1) (w:World):Prop:=
 K x3 w
theorem f12_k1_eq (K:K1) (x3:Value) (w:World):f12_k1 K x3 w=f12_k1_t x3 K w:=cutE fun σ=>by kernel_rfl
def f12_l1_t (x3 x11 x12 x13:Value) (K:K1) (E1:VP2) (w:World):Prop:=
 ev prog (binM .lss 3 (.tmp 13) (.tmp 12) x13 x12) w fun t14 w=>
 cndS t14 (
 ev prog (Instr.indexAt 76 x11 x13) w fun t15 w=>
 ldS prog 83 t15 w fun t16 w=>
 ev prog (Instr.alloc 83 true (.tuple #[])) w fun t5 w=>
 stS prog 83 t5 t16 w fun w=>
 ev prog (Instr.fieldAt 83 t5 1) w fun t17 w=>
 ldS prog 3 t17 w fun t18 w=>
 ev prog (binM .lss 3 (.tmp 18) (.const (.int .i64 0)) t18 (.int .i64 0)) w fun t19 w=>
 cndS t19 (
 ev prog (binM .add 3 (.tmp 20) (.const (.int .i64 1)) x3 (.int .i64 1)) w fun t21 w=>
 f12_k2 K E1 t21 x11 x12 x13 w) (
 f12_k2 K E1 x3 x11 x12 x13 w)) (
 f12_k1 K x3 w)
theorem f12_l1_rule (x3 x11 x12 x13:Value) (K:K1) (w:World) (I:VP2) (μ:Value→Value→World→Nat) (h0:I x3 x13 w)
  (hr:∀(x3 x13:Value) (w:World),I x3 x13 w→∀E1:VP2,(∀(y3 y13:Value) (w':World),I y3 y13 w'→μ y3 y13 w'<μ x3 x13 w→E1 y3 y13 w')→f12_l1_t x3 x11 x12 x13 K E1 w):f12_l1 K x3 x11 x12 x13 w:=
 ⟨I,μ,h0,fun σ w hI E hE=>cast (by kernel_rfl) (hr (σ 3) (σ 13) w hI E hE)⟩
def f12_k2_t (x3 x11 x12 x13:Value) (K:K1) (E1:VP2) (w:World):Prop:=
 ev prog (binM .add 3 (.tmp 13) (.const (.int .i64 1)) x13 (.int .i64 1)) w fun t22 w=>
 E1 x3 t22 w
theorem f12_k2_eq (K:K1) (E1:VP2) (x3 x11 x12 x13:Value) (w:World):f12_k2 K E1 x3 x11 x12 x13 w=f12_k2_t x3 x11 x12 x13 K E1 w:=cutE fun σ=>by kernel_rfl
def f12_t (x0:Value) (K:K1) (w:World):Prop:=
 ev prog (binM .eql 34 (.tmp 6) (.const (.pointer none)) x0 (.pointer none)) w fun t7 w=>
 cndS t7 (
 K (.int .i64 0) w) (
 nilS prog x0 w fun t9 w=>
 ev prog (Instr.fieldAt 78 t9 1) w fun t10 w=>
 ldS prog 76 t10 w fun t11 w=>
 bltS prog .len #[76] 3 #[false] #[t11] w fun t12 w=>
 f12_l1 K (.int .i64 0) t11 t12 (.int .i64 0) w)
theorem f12_call (x0:Value) (K:K1) (w:World) (h:f12_t x0 K w):callS prog 12 #[x0] w K:=
 call_of_txt (args:= [x0]) mixed Tryd.func12 f12_u.2 (by kernel_rfl) (cast (by kernel_rfl) h)
noncomputable def f13_u:Code×Dec:=((Tryd.f13.body).getD .skip,(.s .o (.s .o (.s .o (.x 8 (.s .o (.b (.l [3,13] 6144 8380456 .o))) .o)))))
abbrev f13_e (K:K1):KF:=endK prog Tryd.f13.results.toList K
def f13_k1_o (K:K1):KF:=fun fr w=>∀σ,cP (pr (pr (pr (pr f13_u)))) (f13_e K) (f13_e K) nX (mixF 8 σ 0 fr) w
def f13_k1 (K:K1) (x3:Value) (w:World):Prop:=f13_k1_o K (fz 24 0 [(3,x3)]) w
def f13_l1 (K:K1) (x3 x11 x12 x13:Value) (w:World):Prop:=loopT [3,13] 6144 (fun E=>cP (pl (pl (pr (pl (pr (pr (pr f13_u))))))) E (f13_e K) (exB 0 (f13_k1_o K) nX)) (fz 24 0 [(3,x3),(11,x11),(12,x12),(13,x13)]) w
def f13_k1_t (x3:Value) (K:K1) (w:World):Prop:=
 K x3 w
theorem f13_k1_eq (K:K1) (x3:Value) (w:World):f13_k1 K x3 w=f13_k1_t x3 K w:=cutE fun σ=>by kernel_rfl
def f13_l1_t (x3 x11 x12 x13:Value) (K:K1) (E1:VP2) (w:World):Prop:=
 ev prog (binM .lss 3 (.tmp 13) (.tmp 12) x13 x12) w fun t14 w=>
 cndS t14 (
 ev prog (Instr.indexAt 76 x11 x13) w fun t15 w=>
 ldS prog 83 t15 w fun t16 w=>
 ev prog (Instr.alloc 83 true (.tuple #[])) w fun t5 w=>
 stS prog 83 t5 t16 w fun w=>
 ev prog (Instr.fieldAt 83 t5 0) w fun t18 w=>
 ldS prog 3 t18 w fun t19 w=>
 ev prog (Instr.buildSlice 38 1 #[(0,t19)]) w fun t20 w=>
 bltS prog .append #[38,38] 38 #[false,false] (pA #[x3,t20]) w fun t21 w=>
 ev prog (binM .add 3 (.tmp 13) (.const (.int .i64 1)) x13 (.int .i64 1)) w fun t22 w=>
 E1 t21 t22 w) (
 f13_k1 K x3 w)
theorem f13_l1_rule (x3 x11 x12 x13:Value) (K:K1) (w:World) (I:VP2) (μ:Value→Value→World→Nat) (h0:I x3 x13 w)
  (hr:∀(x3 x13:Value) (w:World),I x3 x13 w→∀E1:VP2,(∀(y3 y13:Value) (w':World),I y3 y13 w'→μ y3 y13 w'<μ x3 x13 w→E1 y3 y13 w')→f13_l1_t x3 x11 x12 x13 K E1 w):f13_l1 K x3 x11 x12 x13 w:=
 ⟨I,μ,h0,fun σ w hI E hE=>cast (by kernel_rfl) (hr (σ 3) (σ 13) w hI E hE)⟩
def f13_t (x0:Value) (K:K1) (w:World):Prop:=
 ev prog (binM .eql 34 (.tmp 6) (.const (.pointer none)) x0 (.pointer none)) w fun t7 w=>
 cndS t7 (
 K (.slice none 0 0) w) (
 nilS prog x0 w fun t9 w=>
 ev prog (Instr.fieldAt 78 t9 1) w fun t10 w=>
 ldS prog 76 t10 w fun t11 w=>
 bltS prog .len #[76] 3 #[false] #[t11] w fun t12 w=>
 f13_l1 K (.slice none 0 0) t11 t12 (.int .i64 0) w)
theorem f13_call (x0:Value) (K:K1) (w:World) (h:f13_t x0 K w):callS prog 13 #[x0] w K:=
 call_of_txt (args:= [x0]) mixed Tryd.func13 f13_u.2 (by kernel_rfl) (cast (by kernel_rfl) h)
def f15_t (x0:Value) (K:K1) (w:World):Prop:=
 ev prog (binM .eql 24 (.tmp 3) (.const (.pointer none)) x0 (.pointer none)) w fun t4 w=>
 cndS t4 (
 K (.slice none 0 0) w) (
 nilS prog x0 w fun t6 w=>
 ev prog (Instr.fieldAt 60 t6 0) w fun t7 w=>
 ldS prog 56 t7 w fun t8 w=>
 callS prog 28 (pA #[t8]) w fun t9 w=>
 K t9 w)
theorem f15_call (x0:Value) (K:K1) (w:World) (h:f15_t x0 K w):callS prog 15 #[x0] w K:=
 call_of_txt (args:= [x0]) mixed Tryd.func15 .o (by kernel_rfl) (cast (by kernel_rfl) h)
noncomputable def f17_u:Code×Dec:=((Tryd.f17.body).getD .skip,(.s .o (.s .o (.s .o (.s .o (.s .o (.s .o (.x 3591 .o .o))))))))
abbrev f17_e (K:K1):KF:=endK prog Tryd.f17.results.toList K
def f17_k1_o (K:K1):KF:=fun fr w=>∀σ,cP (pr (pr (pr (pr (pr (pr (pr f17_u))))))) (f17_e K) (f17_e K) nX (mixF 3591 σ 0 fr) w
def f17_k1 (K:K1) (x0 x1 x2 x9 x10 x11:Value) (w:World):Prop:=f17_k1_o K (fz 95 0 [(0,x0),(1,x1),(2,x2),(9,x9),(10,x10),(11,x11)]) w
def f17_k1_t (x0 x1 x2 x9 x10 x11:Value) (K:K1) (w:World):Prop:=
 ev prog (binM .neq 25 (.tmp 55) (.const (.int .i64 0)) x10 (.int .i64 0)) w fun t56 w=>
 cndS t56 (
 K (.tuple #[(.int .i64 0),x10]) w) (
 nilR prog x9 w.drew fun t60=>
 rd prog (Instr.fieldAt 83 t60 0) w.drew fun t61=>
 ldR prog 3 t61 w.drew fun t62=>
 rd prog (Instr.fieldAt 79 x11 2) w.drew fun t65=>
 ldR prog 41 t65 w.drew fun t66=>
 rd prog (Instr.build 79 #[(0,x2),(1,x1),(2,t66)]) w.drew fun t67=>
 callS prog 36 (pA #[t62,t67]) w.drew fun t68 w=>
 rd prog (Instr.extract t68 0) w fun t69=>
 rd prog (Instr.extract t68 1) w fun t70=>
 ev prog (binM .neq 25 (.tmp 71) (.const (.int .i64 0)) t70 (.int .i64 0)) w fun t72 w=>
 cndS t72 (
 K (.tuple #[(.int .i64 0),t70]) w) (
 nilS prog x0 w fun t76 w=>
 ev prog (Instr.fieldAt 78 t76 0) w fun t77 w=>
 ldS prog 68 t77 w fun t78 w=>
 callS prog 31 (pA #[t69,t78]) w fun t79 w=>
 ev prog (binM .neq 25 (.tmp 80) (.const (.int .i64 0)) t79 (.int .i64 0)) w fun t81 w=>
 cndS t81 (
 K (.tuple #[(.int .i64 0),t79]) w) (
 nilS prog x9 w fun t87 w=>
 ev prog (Instr.fieldAt 83 t87 1) w fun t88 w=>
 stS prog 3 t88 x2 w fun w=>
 nilS prog x9 w fun t89 w=>
 ev prog (Instr.fieldAt 83 t89 2) w fun t90 w=>
 stS prog 3 t90 x1 w fun w=>
 nilS prog x9 w fun t92 w=>
 ev prog (Instr.fieldAt 83 t92 0) w fun t93 w=>
 ldS prog 3 t93 w fun t94 w=>
 K (.tuple #[t94,(.int .i64 0)]) w)))
theorem f17_k1_eq (K:K1) (x0 x1 x2 x9 x10 x11:Value) (w:World):f17_k1 K x0 x1 x2 x9 x10 x11 w=f17_k1_t x0 x1 x2 x9 x10 x11 K w:=cutE fun σ=>by kernel_rfl
def f17_t (x0 x1 x2:Value) (K:K1) (w:World):Prop:=
 ev prog (binM .eql 34 (.tmp 14) (.const (.pointer none)) x0 (.pointer none)) w fun t15 w=>
 cndS t15 (
 K (.tuple #[(.int .i64 0),(.int .i64 5)]) w) (
 ev prog (binM .lss 3 (.tmp 16) (.const (.int .i64 0)) x1 (.int .i64 0)) w fun t17 w=>
 gd t17 false (fun k=>k x1 w) w fun t19 w=>
 gd t17 false (fun k=>ev prog (binM .geq 3 (.tmp 19) (.const (.int .i64 8)) t19 (.int .i64 8)) w k) w fun t20 w=>
 pickS t17 (.bool true) t20 w fun t21 w=>
 gd t21 false (fun k=>k x2 w) w fun t23 w=>
 gd t21 false (fun k=>callS prog 34 (pA #[t23]) w k) w fun t24 w=>
 gd t21 false (fun k=>ev prog (binM .eql 3 (.tmp 24) (.const (.int .i64 0)) t24 (.int .i64 0)) w k) w fun t25 w=>
 pickS t21 (.bool true) t25 w fun t26 w=>
 cndS t26 (
 K (.tuple #[(.int .i64 0),(.int .i64 1)]) w) (
 nilS prog x0 w fun t28 w=>
 ev prog (Instr.fieldAt 78 t28 0) w fun t29 w=>
 ldS prog 68 t29 w fun t30 w=>
 invS prog t30 "Err" (pA #[]) w fun t31 w=>
 ev prog (binM .neq 25 (.tmp 32) (.const (.int .i64 0)) t31 (.int .i64 0)) w fun t33 w=>
 cndS t33 (
 K (.tuple #[(.int .i64 0),t31]) w) (
 callS prog 35 (pA #[x0]) w fun t37 w=>
 ev prog (Instr.extract t37 0) w fun t38 w=>
 ev prog (Instr.extract t37 1) w fun t39 w=>
 ev prog (binM .neq 25 (.tmp 40) (.const (.int .i64 0)) t39 (.int .i64 0)) w fun t41 w=>
 cndS t41 (
 K (.tuple #[(.int .i64 0),t39]) w) (
 nilR prog x0 w.drew fun t45=>
 rd prog (Instr.fieldAt 78 t45 0) w.drew fun t46=>
 ldR prog 68 t46 w.drew fun t47=>
 nilR prog t38 w.drew fun t49=>
 rd prog (Instr.fieldAt 83 t49 0) w.drew fun t50=>
 ldR prog 3 t50 w.drew fun t51=>
 (callS prog 32 (pA #[t47,t51]) w.drew fun t52 w=>
 rd prog (Instr.extract t52 0) w fun t53=>
 rd prog (Instr.extract t52 1) w fun t54=>
 ev prog (Instr.alloc 79 true (.tuple #[])) w fun t11 w=>
 (nilR prog x0 w (fun u=>u=t45))∧
 (ag prog (Instr.fieldAt 78 t45 0) w t46)∧
 (ldG prog 68 t46 w t47)∧
 (nilR prog t38 w (fun u=>u=t49))∧
 (ag prog (Instr.fieldAt 83 t49 0) w t50)∧
 (ldG prog 3 t50 w t51)∧
 stS prog 79 t11 t53 w fun w=>
 f17_k1 K x0 x1 x2 t38 t54 t11 w)∧
 (ev prog (Instr.alloc 79 true (.tuple #[])) w.drew fun t11_1 w=>
 (nilR prog x0 w (fun u=>u=t45))∧
 (ag prog (Instr.fieldAt 78 t45 0) w t46)∧
 (ldG prog 68 t46 w t47)∧
 (nilR prog t38 w (fun u=>u=t49))∧
 (ag prog (Instr.fieldAt 83 t49 0) w t50)∧
 (ldG prog 3 t50 w t51)∧
 callS prog 32 (pA #[t47,t51]) w fun t52_1 w=>
 rd prog (Instr.extract t52_1 0) w fun t53_1=>
 rd prog (Instr.extract t52_1 1) w fun t54_1=>
 stS prog 79 t11_1 t53_1 w fun w=>
 f17_k1 K x0 x1 x2 t38 t54_1 t11_1 w)))))
theorem f17_call (x0 x1 x2:Value) (K:K1) (w:World) (h:f17_t x0 x1 x2 K w):callS prog 17 #[x0,x1,x2] w K:=
 call_of_txt (args:= [x0,x1,x2]) mixed Tryd.func17 f17_u.2 (by kernel_rfl) (cast (by kernel_rfl) h)
def f21_t (x0 x1:Value) (K:K1) (w:World):Prop:=
 callS prog 37 (pA #[x0,x1]) w fun t8 w=>
 ev prog (binM .neq 87 (.tmp 9) (.const (.pointer none)) t8 (.pointer none)) w fun t10 w=>
 cndS t10 (
 nilS prog t8 w fun t12 w=>
 ev prog (Instr.fieldAt 83 t12 2) w fun t13 w=>
 ldS prog 3 t13 w fun t14 w=>
 K t14 w) (
 K (.int .i64 (-1)) w)
theorem f21_call (x0 x1:Value) (K:K1) (w:World) (h:f21_t x0 x1 K w):callS prog 21 #[x0,x1] w K:=
 call_of_txt (args:= [x0,x1]) mixed Tryd.func21 .o (by kernel_rfl) (cast (by kernel_rfl) h)
def f29_t (x0 x1 x2:Value) (K:K1) (w:World):Prop:=
 ev prog (binM .eql 68 (.tmp 8) (.const .nilIface) x0 .nilIface) w fun t9 w=>
 gd t9 false (fun k=>k x1 w) w fun t11 w=>
 gd t9 false (fun k=>ev prog (binM .lss 3 (.tmp 11) (.const (.int .i64 0)) t11 (.int .i64 0)) w k) w fun t12 w=>
 pickS t9 (.bool true) t12 w fun t13 w=>
 gd t13 false (fun k=>k x2 w) w fun t15 w=>
 gd t13 false (fun k=>ev prog (binM .lss 3 (.tmp 15) (.const (.int .i64 32)) t15 (.int .i64 32)) w k) w fun t16 w=>
 pickS t13 (.bool true) t16 w fun t17 w=>
 cndS t17 (
 K (.bool false) w) (
 invS prog x0 "Size" (pA #[]) w fun t19 w=>
 ev prog (binM .quo 22 (.tmp 19) (.const (.int .u64 ((64:Nat):Int))) t19 (.int .u64 ((64:Nat):Int))) w fun t20 w=>
 ev prog (convert 3 22 x1) w fun t22 w=>
 ev prog (binM .gtr 22 (.tmp 22) (.tmp 23) t22 t20) w fun t24 w=>
 gd t24 false (fun k=>k x2 w) w fun t26 w=>
 gd t24 false (fun k=>ev prog (convert 3 22 t26) w k) w fun t27 w=>
 gd t24 false (fun k=>k t20 w) w fun t28 w=>
 gd t24 false (fun k=>k x1 w) w fun t29 w=>
 gd t24 false (fun k=>ev prog (convert 3 22 t29) w k) w fun t30 w=>
 gd t24 false (fun k=>ev prog (binM .sub 22 (.tmp 28) (.tmp 30) t28 t30) w k) w fun t31 w=>
 gd t24 false (fun k=>ev prog (binM .gtr 22 (.tmp 27) (.tmp 31) t27 t31) w k) w fun t32 w=>
 pickS t24 (.bool true) t32 w fun t33 w=>
 cndS t33 (
 K (.bool false) w) (
 ev prog (convert 3 22 x1) w fun t35 w=>
 ev prog (binM .quo 3 (.tmp 36) (.const (.int .i64 32)) x2 (.int .i64 32)) w fun t37 w=>
 ev prog (convert 3 22 t37) w fun t38 w=>
 ev prog (binM .mul 22 (.tmp 38) (.const (.int .u64 ((32:Nat):Int))) t38 (.int .u64 ((32:Nat):Int))) w fun t39 w=>
 ev prog (binM .add 22 (.tmp 35) (.tmp 39) t35 t39) w fun t40 w=>
 ev prog (binM .leq 22 (.tmp 40) (.const (.int .u64 ((4096:Nat):Int))) t40 (.int .u64 ((4096:Nat):Int))) w fun t41 w=>
 K t41 w))
theorem f29_call (x0 x1 x2:Value) (K:K1) (w:World) (h:f29_t x0 x1 x2 K w):callS prog 29 #[x0,x1,x2] w K:=
 call_of_txt (args:= [x0,x1,x2]) mixed Tryd.func29 .o (by kernel_rfl) (cast (by kernel_rfl) h)
noncomputable def f35_u:Code×Dec:=((Tryd.f35.body).getD .skip,(.s .o (.x 1 (.s .o (.b (.l [15] 16385 17179836444 .o))) (.x 1 (.s .o (.b (.l [39] 274877906945 2305842459457880556 .o))) .o))))
abbrev f35_e (K:K1):KF:=endK prog Tryd.f35.results.toList K
def f35_k1_o (K:K1):KF:=fun fr w=>∀σ,cP (pr (pr f35_u)) (f35_e K) (f35_e K) nX (mixF 1 σ 0 fr) w
def f35_k1 (K:K1) (x0:Value) (w:World):Prop:=f35_k1_o K (fz 69 0 [(0,x0)]) w
def f35_l1 (K:K1) (x0 x14 x15:Value) (w:World):Prop:=loopT [15] 16385 (fun E=>cP (pl (pl (pr (pl (pr f35_u))))) E (f35_e K) (exB 0 (f35_k1_o K) nX)) (fz 69 0 [(0,x0),(14,x14),(15,x15)]) w
def f35_k2_o (K:K1):KF:=fun fr w=>∀σ,cP (pr (pr (pr f35_u))) (f35_e K) (f35_e K) nX (mixF 1 σ 0 fr) w
def f35_k2 (K:K1) (x0:Value) (w:World):Prop:=f35_k2_o K (fz 69 0 [(0,x0)]) w
def f35_l2 (K:K1) (x0 x38 x39:Value) (w:World):Prop:=loopT [39] 274877906945 (fun E=>cP (pl (pl (pr (pl (pr (pr f35_u)))))) E (f35_e K) (exB 2 (f35_k2_o K) nX)) (fz 69 0 [(0,x0),(38,x38),(39,x39)]) w
def f35_k1_t (x0:Value) (K:K1) (w:World):Prop:=
 nilS prog x0 w fun t35 w=>
 ev prog (Instr.fieldAt 78 t35 1) w fun t36 w=>
 ldS prog 76 t36 w fun t37 w=>
 bltS prog .len #[76] 3 #[false] #[t37] w fun t38 w=>
 f35_l2 K x0 t38 (.int .i64 0) w
theorem f35_k1_eq (K:K1) (x0:Value) (w:World):f35_k1 K x0 w=f35_k1_t x0 K w:=cutE fun σ=>by kernel_rfl
def f35_l1_t (x0 x14 x15:Value) (K:K1) (E1:VP1) (w:World):Prop:=
 ev prog (binM .lss 3 (.tmp 15) (.tmp 14) x15 x14) w fun t16 w=>
 cndS t16 (
 nilS prog x0 w fun t19 w=>
 ev prog (Instr.fieldAt 78 t19 1) w fun t20 w=>
 ldS prog 76 t20 w fun t21 w=>
 ev prog (Instr.indexAt 76 t21 x15) w fun t23 w=>
 ev prog (Instr.fieldAt 83 t23 1) w fun t24 w=>
 ldS prog 3 t24 w fun t25 w=>
 ev prog (binM .lss 3 (.tmp 25) (.const (.int .i64 0)) t25 (.int .i64 0)) w fun t26 w=>
 cndS t26 (
 nilS prog x0 w fun t28 w=>
 ev prog (Instr.fieldAt 78 t28 1) w fun t29 w=>
 ldS prog 76 t29 w fun t30 w=>
 ev prog (Instr.indexAt 76 t30 x15) w fun t32 w=>
 K (.tuple #[t32,(.int .i64 0)]) w) (
 ev prog (binM .add 3 (.tmp 15) (.const (.int .i64 1)) x15 (.int .i64 1)) w fun t33 w=>
 E1 t33 w)) (
 f35_k1 K x0 w)
theorem f35_l1_rule (x0 x14 x15:Value) (K:K1) (w:World) (I:VP1) (μ:Value→World→Nat) (h0:I x15 w)
  (hr:∀(x15:Value) (w:World),I x15 w→∀E1:VP1,(∀(y15:Value) (w':World),I y15 w'→μ y15 w'<μ x15 w→E1 y15 w')→f35_l1_t x0 x14 x15 K E1 w):f35_l1 K x0 x14 x15 w:=
 ⟨I,μ,h0,fun σ w hI E hE=>cast (by kernel_rfl) (hr (σ 15) w hI E hE)⟩
def f35_k2_t (x0:Value) (K:K1) (w:World):Prop:=
 nilS prog x0 w fun t62 w=>
 ev prog (Instr.fieldAt 78 t62 0) w fun t63 w=>
 ldS prog 68 t63 w fun t64 w=>
 invS prog t64 "Err" (pA #[]) w fun t65 w=>
 ev prog (binM .neq 25 (.tmp 66) (.const (.int .i64 0)) t65 (.int .i64 0)) w fun t67 w=>
 cndS t67 (
 K (.tuple #[(.pointer none),t65]) w) (
 K (.tuple #[(.pointer none),(.int .i64 4)]) w)
theorem f35_k2_eq (K:K1) (x0:Value) (w:World):f35_k2 K x0 w=f35_k2_t x0 K w:=cutE fun σ=>by kernel_rfl
def f35_l2_t (x0 x38 x39:Value) (K:K1) (E1:VP1) (w:World):Prop:=
 ev prog (binM .lss 3 (.tmp 39) (.tmp 38) x39 x38) w fun t40 w=>
 cndS t40 (
 nilS prog x0 w fun t43 w=>
 ev prog (Instr.fieldAt 78 t43 1) w fun t44 w=>
 ldS prog 76 t44 w fun t45 w=>
 ev prog (Instr.indexAt 76 t45 x39) w fun t47 w=>
 callS prog 38 (pA #[x0,t47]) w fun t51 w=>
 ev prog (Instr.extract t51 0) w fun t52 w=>
 ev prog (Instr.extract t51 1) w fun t53 w=>
 cndS t53 (
 callS prog 39 (pA #[x0,t47,t52]) w fun t59 w=>
 K (.tuple #[t47,t59]) w) (
 ev prog (binM .add 3 (.tmp 39) (.const (.int .i64 1)) x39 (.int .i64 1)) w fun t60 w=>
 E1 t60 w)) (
 f35_k2 K x0 w)
theorem f35_l2_rule (x0 x38 x39:Value) (K:K1) (w:World) (I:VP1) (μ:Value→World→Nat) (h0:I x39 w)
  (hr:∀(x39:Value) (w:World),I x39 w→∀E1:VP1,(∀(y39:Value) (w':World),I y39 w'→μ y39 w'<μ x39 w→E1 y39 w')→f35_l2_t x0 x38 x39 K E1 w):f35_l2 K x0 x38 x39 w:=
 ⟨I,μ,h0,fun σ w hI E hE=>cast (by kernel_rfl) (hr (σ 39) w hI E hE)⟩
def f35_t (x0:Value) (K:K1) (w:World):Prop:=
 nilS prog x0 w fun t11 w=>
 ev prog (Instr.fieldAt 78 t11 1) w fun t12 w=>
 ldS prog 76 t12 w fun t13 w=>
 bltS prog .len #[76] 3 #[false] #[t13] w fun t14 w=>
 f35_l1 K x0 t14 (.int .i64 0) w
theorem f35_call (x0:Value) (K:K1) (w:World) (h:f35_t x0 K w):callS prog 35 #[x0] w K:=
 call_of_txt (args:= [x0]) mixed Tryd.func35 f35_u.2 (by kernel_rfl) (cast (by kernel_rfl) h)
noncomputable def f37_u:Code×Dec:=((Tryd.f37.body).getD .skip,(.s .o (.s .o (.x 0 (.s .o (.b (.l [13] 4099 8589926448 .o))) .o))))
abbrev f37_e (K:K1):KF:=endK prog Tryd.f37.results.toList K
def f37_k1_o (K:K1):KF:=fun fr w=>∀σ,cP (pr (pr (pr f37_u))) (f37_e K) (f37_e K) nX (mixF 0 σ 0 fr) w
def f37_k1 (K:K1) (w:World):Prop:=f37_k1_o K (fz 33 0 []) w
def f37_l1 (K:K1) (x0 x1 x12 x13:Value) (w:World):Prop:=loopT [13] 4099 (fun E=>cP (pl (pl (pr (pl (pr (pr f37_u)))))) E (f37_e K) (exB 0 (f37_k1_o K) nX)) (fz 33 0 [(0,x0),(1,x1),(12,x12),(13,x13)]) w
def f37_l1_t (x0 x1 x12 x13:Value) (K:K1) (E1:VP1) (w:World):Prop:=
 ev prog (binM .lss 3 (.tmp 13) (.tmp 12) x13 x12) w fun t14 w=>
 cndS t14 (
 nilS prog x0 w fun t17 w=>
 ev prog (Instr.fieldAt 78 t17 1) w fun t18 w=>
 ldS prog 76 t18 w fun t19 w=>
 ev prog (Instr.indexAt 76 t19 x13) w fun t21 w=>
 ev prog (Instr.fieldAt 83 t21 0) w fun t22 w=>
 ldS prog 3 t22 w fun t23 w=>
 ev prog (binM .eql 3 (.tmp 23) (.tmp 24) t23 x1) w fun t25 w=>
 cndS t25 (
 nilS prog x0 w fun t27 w=>
 ev prog (Instr.fieldAt 78 t27 1) w fun t28 w=>
 ldS prog 76 t28 w fun t29 w=>
 ev prog (Instr.indexAt 76 t29 x13) w fun t31 w=>
 K t31 w) (
 ev prog (binM .add 3 (.tmp 13) (.const (.int .i64 1)) x13 (.int .i64 1)) w fun t32 w=>
 E1 t32 w)) (
 f37_k1 K w)
theorem f37_l1_rule (x0 x1 x12 x13:Value) (K:K1) (w:World) (I:VP1) (μ:Value→World→Nat) (h0:I x13 w)
  (hr:∀(x13:Value) (w:World),I x13 w→∀E1:VP1,(∀(y13:Value) (w':World),I y13 w'→μ y13 w'<μ x13 w→E1 y13 w')→f37_l1_t x0 x1 x12 x13 K E1 w):f37_l1 K x0 x1 x12 x13 w:=
 ⟨I,μ,h0,fun σ w hI E hE=>cast (by kernel_rfl) (hr (σ 13) w hI E hE)⟩
def f37_t (x0 x1:Value) (K:K1) (w:World):Prop:=
 ev prog (binM .eql 34 (.tmp 6) (.const (.pointer none)) x0 (.pointer none)) w fun t7 w=>
 cndS t7 (
 K (.pointer none) w) (
 nilS prog x0 w fun t9 w=>
 ev prog (Instr.fieldAt 78 t9 1) w fun t10 w=>
 ldS prog 76 t10 w fun t11 w=>
 bltS prog .len #[76] 3 #[false] #[t11] w fun t12 w=>
 f37_l1 K x0 x1 t12 (.int .i64 0) w)
theorem f37_call (x0 x1:Value) (K:K1) (w:World) (h:f37_t x0 x1 K w):callS prog 37 #[x0,x1] w K:=
 call_of_txt (args:= [x0,x1]) mixed Tryd.func37 f37_u.2 (by kernel_rfl) (cast (by kernel_rfl) h)
noncomputable def f38_u:Code×Dec:=((Tryd.f38.body).getD .skip,(.s .o (.s .o (.x 194 .o .o))))
abbrev f38_e (K:K1):KF:=endK prog Tryd.f38.results.toList K
def f38_k1_o (K:K1):KF:=fun fr w=>∀σ,cP (pr (pr (pr f38_u))) (f38_e K) (f38_e K) nX (mixF 194 σ 0 fr) w
def f38_k1 (K:K1) (x1 x6 x7:Value) (w:World):Prop:=f38_k1_o K (fz 55 0 [(1,x1),(6,x6),(7,x7)]) w
def f38_k1_t (x1 x6 x7:Value) (K:K1) (w:World):Prop:=
 ev prog (binM .neq 25 (.tmp 34) (.const (.int .i64 0)) x7 (.int .i64 0)) w fun t35 w=>
 cndS t35 (
 K (.tuple #[(.slice none 0 0),(.bool false)]) w) (
 ldS prog 121 x6 w fun t37 w=>
 callS prog 59 (pA #[t37]) w fun t38 w=>
 ev prog (Instr.extract t38 0) w fun t39 w=>
 ev prog (Instr.extract t38 1) w fun t40 w=>
 ev prog (Op.unary .not t40) w fun t42 w=>
 cndS t42 (
 K (.tuple #[(.slice none 0 0),(.bool false)]) w) (
 nilS prog x1 w fun t45 w=>
 ev prog (Instr.fieldAt 83 t45 0) w fun t46 w=>
 ldS prog 3 t46 w fun t47 w=>
 callS prog 30 (pA #[t47,t39]) w fun t49 w=>
 ev prog (Instr.extract t49 0) w fun t50 w=>
 ev prog (Instr.extract t49 1) w fun t51 w=>
 ev prog (binM .eql 25 (.tmp 53) (.const (.int .i64 0)) t51 (.int .i64 0)) w fun t54 w=>
 K (.tuple #[t50,t54]) w))
theorem f38_k1_eq (K:K1) (x1 x6 x7:Value) (w:World):f38_k1 K x1 x6 x7 w=f38_k1_t x1 x6 x7 K w:=cutE fun σ=>by kernel_rfl
def f38_t (x0 x1:Value) (K:K1) (w:World):Prop:=
 nilS prog x1 w fun t12 w=>
 ev prog (Instr.fieldAt 83 t12 1) w fun t13 w=>
 ldS prog 3 t13 w fun t14 w=>
 ev prog (binM .lss 3 (.tmp 14) (.const (.int .i64 0)) t14 (.int .i64 0)) w fun t15 w=>
 gd t15 false (fun k=>k x1 w) w fun t17 w=>
 gd t15 false (fun k=>nilS prog t17 w k) w fun t18 w=>
 gd t15 false (fun k=>ev prog (Instr.fieldAt 83 t18 3) w k) w fun t19 w=>
 gd t15 false (fun k=>ldS prog 4 t19 w k) w fun t20 w=>
 pickS t15 (.bool true) t20 w fun t21 w=>
 cndS t21 (
 K (.tuple #[(.slice none 0 0),(.bool false)]) w) (
 nilR prog x0 w.drew fun t24=>
 rd prog (Instr.fieldAt 78 t24 0) w.drew fun t25=>
 ldR prog 68 t25 w.drew fun t26=>
 nilR prog x1 w.drew fun t28=>
 rd prog (Instr.fieldAt 83 t28 0) w.drew fun t29=>
 ldR prog 3 t29 w.drew fun t30=>
 (callS prog 58 (pA #[t26,t30]) w.drew fun t31 w=>
 rd prog (Instr.extract t31 0) w fun t32=>
 rd prog (Instr.extract t31 1) w fun t33=>
 ev prog (Instr.alloc 121 true (.tuple #[])) w fun t6 w=>
 (nilR prog x0 w (fun u=>u=t24))∧
 (ag prog (Instr.fieldAt 78 t24 0) w t25)∧
 (ldG prog 68 t25 w t26)∧
 (nilR prog x1 w (fun u=>u=t28))∧
 (ag prog (Instr.fieldAt 83 t28 0) w t29)∧
 (ldG prog 3 t29 w t30)∧
 stS prog 121 t6 t32 w fun w=>
 f38_k1 K x1 t6 t33 w)∧
 (ev prog (Instr.alloc 121 true (.tuple #[])) w.drew fun t6_1 w=>
 (nilR prog x0 w (fun u=>u=t24))∧
 (ag prog (Instr.fieldAt 78 t24 0) w t25)∧
 (ldG prog 68 t25 w t26)∧
 (nilR prog x1 w (fun u=>u=t28))∧
 (ag prog (Instr.fieldAt 83 t28 0) w t29)∧
 (ldG prog 3 t29 w t30)∧
 callS prog 58 (pA #[t26,t30]) w fun t31_1 w=>
 rd prog (Instr.extract t31_1 0) w fun t32_1=>
 rd prog (Instr.extract t31_1 1) w fun t33_1=>
 stS prog 121 t6_1 t32_1 w fun w=>
 f38_k1 K x1 t6_1 t33_1 w))
theorem f38_call (x0 x1:Value) (K:K1) (w:World) (h:f38_t x0 x1 K w):callS prog 38 #[x0,x1] w K:=
 call_of_txt (args:= [x0,x1]) mixed Tryd.func38 f38_u.2 (by kernel_rfl) (cast (by kernel_rfl) h)
def f39_t (x0 x1 x2:Value) (K:K1) (w:World):Prop:=
 nilS prog x0 w fun t10 w=>
 ev prog (Instr.fieldAt 78 t10 0) w fun t11 w=>
 ldS prog 68 t11 w fun t12 w=>
 callS prog 31 (pA #[x2,t12]) w fun t13 w=>
 ev prog (binM .neq 25 (.tmp 14) (.const (.int .i64 0)) t13 (.int .i64 0)) w fun t15 w=>
 cndS t15 (
 K t13 w) (
 nilS prog x1 w fun t19 w=>
 ev prog (Instr.fieldAt 83 t19 1) w fun t20 w=>
 stS prog 3 t20 (.int .i64 (-1)) w fun w=>
 nilS prog x1 w fun t21 w=>
 ev prog (Instr.fieldAt 83 t21 2) w fun t22 w=>
 stS prog 3 t22 (.int .i64 (-1)) w fun w=>
 K (.int .i64 0) w)
theorem f39_call (x0 x1 x2:Value) (K:K1) (w:World) (h:f39_t x0 x1 x2 K w):callS prog 39 #[x0,x1,x2] w K:=
 call_of_txt (args:= [x0,x1,x2]) mixed Tryd.func39 .o (by kernel_rfl) (cast (by kernel_rfl) h)
def plL (f:Nat→Int×Int×Bool) (l0:Nat):Nat→List Value
 |0=> []
 |n+1=>plL f l0 n++ [.int .i64 ((l0+32*n:Nat):Int),.int .i64 (f n).1,.int .i64 (f n).2.1,.bool (f n).2.2]
theorem plL_len (f:Nat→Int×Int×Bool) (l0:Nat):∀n,(plL f l0 n).length=n*4
 |0=>rfl
 |n+1=>by simp [plL,plL_len f l0 n];omega
theorem plL_get (f:Nat→Int×Int×Bool) (l0:Nat):∀n k,k<n→(plL f l0 n)[k*4]? =some (.int .i64 ((l0+32*k:Nat):Int))∧(plL f l0 n)[k*4+1]? =some (.int .i64 (f k).1)∧(plL f l0 n)[k*4+2]? =some (.int .i64 (f k).2.1)∧(plL f l0 n)[k*4+3]? =some (.bool (f k).2.2)
 |0,k,h=>absurd h (Nat.not_lt_zero _)
 |n+1,k,h=>by
  have hl:=plL_len f l0 n
  unfold plL
  by_cases e:k=n
  ·subst e
   refine ⟨?_,?_,?_,?_⟩<;>rw [List.getElem?_append_right (by omega)]<;>simp [hl]
  ·have:=plL_get f l0 n k (by omega)
   refine ⟨?_,?_,?_,?_⟩<;>rw [List.getElem?_append_left (by omega)]
   ·exact this.1
   ·exact this.2.1
   ·exact this.2.2.1
   ·exact this.2.2.2
theorem plL_congr {f g:Nat→Int×Int×Bool} {l0:Nat}:∀{n},(∀k,k<n→f k=g k)→plL f l0 n=plL g l0 n
 |0,_=>rfl
 |n+1,h=>by unfold plL;rw [plL_congr (fun k hk=>h k (by omega)),h n (by omega)]
def upF {α:Type} (f:Nat→α) (k:Nat) (v:α) (j:Nat):α:=if j=k then v else f j
theorem upF_eq {α:Type} (f:Nat→α) (k:Nat) (v:α):upF f k v k=v:=if_pos rfl
theorem upF_ne {α:Type} (f:Nat→α) {k j:Nat} (v:α) (h:j≠k):upF f k v j=f j:=if_neg h
theorem plL_set (f:Nat→Int×Int×Bool) (l0:Nat):∀n k,k<n→(∀c,(plL f l0 n).set (k*4+1) (.int .i64 c)=plL (upF f k (c,(f k).2)) l0 n)∧(∀c,(plL f l0 n).set (k*4+2) (.int .i64 c)=plL (upF f k ((f k).1,c,(f k).2.2)) l0 n)∧(∀c,(plL f l0 n).set (k*4+3) (.bool c)=plL (upF f k ((f k).1,(f k).2.1,c)) l0 n)
 |0,k,h=>absurd h (Nat.not_lt_zero _)
 |n+1,k,h=>by
  have hl:=plL_len f l0 n
  unfold plL
  by_cases e:k=n
  ·subst e
   have hc:∀v,plL (upF f k v) l0 k=plL f l0 k:=fun v=>plL_congr (fun j hj=>upF_ne f v (by omega))
   refine ⟨fun c=> ?_,fun c=> ?_,fun c=> ?_⟩<;>rw [List.set_append_right _ _ (by omega),hc,upF_eq,hl]
   ·rw [show k*4+1-k*4=1 by omega];rfl
   ·rw [show k*4+2-k*4=2 by omega];rfl
   ·rw [show k*4+3-k*4=3 by omega];rfl
  ·obtain ⟨h1,h2,h3⟩:=plL_set f l0 n k (by omega)
   refine ⟨fun c=> ?_,fun c=> ?_,fun c=> ?_⟩<;>rw [List.set_append_left _ _ (by omega),upF_ne _ _ (fun h=>e h.symm)]
   ·rw [h1]
   ·rw [h2]
   ·rw [h3]
def arF (T b o n cp:Nat) (i:Nat):Value:= [Value.iface 28 (.pointer (some ⟨T,0,none⟩)),.slice (some ⟨b,o,none⟩) n cp].getD i undef
structure ArS (w0 w:World) (Y:Lay) (D:DS) (S b o cp l0 n:Nat) (f:Nat→Int×Int×Bool):Prop where
 L:Lv w0 w Y D
 gl:Glob w0
 st:Cells w S 78 2 (arF (Y.tb 0) b o n cp)
 pl:SlO w 83 4 (.slice (some ⟨b,o,none⟩) n cp) n (plL f l0 n)
 nS:w0.heap.size≤S∧¬Y.F S∧S≠b
 nb:w0.heap.size≤b∧¬Y.F b
 n0:0<n
 lt:l0+32*n≤D.n
abbrev stV (S:Nat):Value:= .pointer (some ⟨S,0,none⟩)
section
variable {w0 w w':World} {Y Y':Lay} {D D':DS} {S b o cp l0 n:Nat} {f f':Nat→Int×Int×Bool}
theorem ArS.ext (h:ArS w0 w Y D S b o cp l0 n f) (e:Ext w w'):ArS w0 w' Y D S b o cp l0 n f:=⟨h.L.ext e,h.gl,h.st.ext e,h.pl.ext e,h.nS,h.nb,h.n0,h.lt⟩
theorem ArS.step (h:ArS w0 w Y D S b o cp l0 n f) (s:Stp w Y w' Y' D') (gd:Good D') (hn:D'.n=D.n):ArS w0 w' Y' D' S b o cp l0 n f:=by
 have tb:Y'.tb 0=Y.tb 0:=by rw [s.tb]
 have hb:b<w.heap.size:=h.pl.lt rfl
 refine ⟨h.L.step s gd,h.gl,?_,h.pl.frm s.frm (fun x hx=>by injection hx with hx;subst hx;exact h.nb.2),⟨h.nS.1,fun hf=> ?_,h.nS.2.2⟩,⟨h.nb.1,fun hf=> ?_⟩,h.n0,by rw [hn];exact h.lt⟩
 ·rw [tb];exact h.st.frm s.frm h.nS.2.1
 ·rcases s.fr S hf with h1|h1
  ·exact h.nS.2.1 h1
  ·have:=h.st.lt;omega
 ·rcases s.fr b hf with h1|h1
  ·exact h.nb.2 h1
  ·omega
theorem ArS.c0 (h:ArS w0 w Y D S b o cp l0 n f):w.cell? ⟨S,0,none⟩=some (.iface 28 (.pointer (some ⟨Y.tb 0,0,none⟩))):=h.st.cell (i:=0) (by omega)
theorem ArS.c1 (h:ArS w0 w Y D S b o cp l0 n f):w.cell? ⟨S,1,none⟩=some (.slice (some ⟨b,o,none⟩) n cp):=h.st.cell (i:=1) (by omega)
theorem ArS.p (h:ArS w0 w Y D S b o cp l0 n f) {k:Nat} (hk:k<n):w.cell? ⟨b,o+k*4,none⟩=some (.int .i64 ((l0+32*k:Nat):Int))∧w.cell? ⟨b,o+k*4+1,none⟩=some (.int .i64 (f k).1)∧w.cell? ⟨b,o+k*4+2,none⟩=some (.int .i64 (f k).2.1)∧w.cell? ⟨b,o+k*4+3,none⟩=some (.bool (f k).2.2):=by
 have hg:=plL_get f l0 n k hk
 refine ⟨h.pl.cell rfl hg.1,?_,?_,?_⟩
 ·rw [Nat.add_assoc];exact h.pl.cell rfl hg.2.1
 ·rw [Nat.add_assoc];exact h.pl.cell rfl hg.2.2.1
 ·rw [Nat.add_assoc];exact h.pl.cell rfl hg.2.2.2
theorem ArS.fz (h:ArS w0 w Y D S b o cp l0 n f):∀i,w.frozen? ⟨b,i,none⟩=false:=fun i=>h.pl.frz rfl i
theorem ArS.ltb (h:ArS w0 w Y D S b o cp l0 n f):b<w.heap.size:=h.pl.lt rfl
theorem ArS.ltS (h:ArS w0 w Y D S b o cp l0 n f):S<w.heap.size:=h.st.lt
theorem ArS.er (h:ArS w0 w Y D S b o cp l0 n f):∀(w1:World) (K:K1),Ext w w1→callS prog 114 #[.pointer (some ⟨Y.tb 0,0,none⟩)] w1 K=K (.int .i64 (D.err 0)) w1:=fun w1 K e=>by rw [c_Err (h.L.dv.ext e) 0 (by omega) K]
theorem ArS.le (h:ArS w0 w Y D S b o cp l0 n f):n≤128∧l0≤4096:=by have:=h.lt;have:=h.L.gd.n;omega
theorem k_findAt (h:ArS w0 w Y D S b o cp l0 n f) {k:Nat} (hk:k<n) (K:K1) (hK:∀w',Ext w w'→K (.pointer (some ⟨b,o+k*4,none⟩)) w'):
  callS prog 37 #[stV S,.int .i64 ((l0+32*k:Nat):Int)] w K:=by
 have hle:=h.le
 have s1:=h.c1
 refine f37_call _ _ _ _ ?_
 unfold f37_t
 simp (disch:=first|omega|simp only [RO]|(simp only [RZ]<;>omega)|fail) only [↓RBp,↓RA,↓reduceIte,Nat.reduceAdd,Nat.reduceMul,Nat.reduceEqDiff,RB,RX,RA2,s1]
 apply f37_l1_rule (I:=fun z w'=>∃i:Nat,z= .int .i64 (i:Int)∧i≤k∧Ext w w') (μ:=fun z _=>n-(intOf z).toNat)
 ·exact ⟨0,rfl,by omega,(by repeat (first|(with_reducible first|refine eB ?_ _|assumption|exact eR _|refine eA ?_ _|refine eD ?_|refine eT ?_ (by assumption))|exact eR _))⟩
 ·intros;rename_i w1 hI E1 hE
  obtain ⟨i,rfl,hi,e1⟩:=hI
  have h1:=h.ext e1
  have s1:=h1.c1
  have ob6:=h1.p (show i<n by omega);have q0:=ob6.1;have q1:=ob6.2.1;have q2:=ob6.2.2.1;have q3:=ob6.2.2.2
  by_cases hik:i<k
  ·have ne:¬((l0+32*i:Nat):Int)=((l0+32*k:Nat):Int):=by omega
   unfold f37_l1_t
   simp (disch:=first|omega|simp only [RO]|(simp only [RZ]<;>omega)|fail) only [↓RBp,↓RA,↓reduceIte,Nat.reduceAdd,Nat.reduceMul,Nat.reduceEqDiff,RB,RX,RA2,s1,q0,ne]
   apply hE
   ·exact ⟨i+1,by simp,by omega,e1⟩
   ·simp [intOf];omega
  ·have:i=k:=by omega
   subst this
   unfold f37_l1_t
   simp (disch:=first|omega|simp only [RO]|(simp only [RZ]<;>omega)|fail) only [↓RBp,↓RA,↓reduceIte,Nat.reduceAdd,Nat.reduceMul,Nat.reduceEqDiff,RB,RX,RA2,s1,q0]
   exact hK _ e1
theorem k_OwnerAt (h:ArS w0 w Y D S b o cp l0 n f) {k:Nat} (hk:k<n) (K:K1) (hK:∀w',Ext w w'→K (.int .i64 (f k).2.1) w'):
  callS prog 21 #[stV S,.int .i64 ((l0+32*k:Nat):Int)] w K:=by
 refine f21_call _ _ _ _ ?_
 unfold f21_t
 simp (disch:=first|omega|simp only [RO]|(simp only [RZ]<;>omega)|fail) only [↓RBp,↓RA,↓reduceIte,Nat.reduceAdd,Nat.reduceMul,Nat.reduceEqDiff,RB,RX,RA2]
 refine k_findAt h hk _ (fun w1 e1=> ?_)
 have ob8:=(h.ext e1).p hk;have q0:=ob8.1;have q1:=ob8.2.1;have q2:=ob8.2.2.1;have q3:=ob8.2.2.2
 simp (disch:=first|omega|simp only [RO]|(simp only [RZ]<;>omega)|fail) only [↓RBp,↓RA,↓reduceIte,Nat.reduceAdd,Nat.reduceMul,Nat.reduceEqDiff,RB,RX,RA2,q2]
 exact hK _ e1
def frC (f:Nat→Int×Int×Bool):Nat→Nat
 |0=>0
 |n+1=>frC f n+if (f n).1<0 then 1 else 0
theorem frC_le (f:Nat→Int×Int×Bool):∀n,frC f n≤n
 |0=>Nat.le_refl _
 |n+1=>by have:=frC_le f n;unfold frC;split<;>omega
theorem k_FreeChunks (h:ArS w0 w Y D S b o cp l0 n f) (K:K1) (hK:∀w',Ext w w'→K (.int .i64 ((frC f n:Nat):Int)) w'):
  callS prog 12 #[stV S] w K:=by
 have hle:=h.le
 have s1:=h.c1
 refine f12_call _ _ _ ?_
 unfold f12_t
 simp (disch:=first|omega|simp only [RO]|(simp only [RZ]<;>omega)|fail) only [↓RBp,↓RA,↓reduceIte,Nat.reduceAdd,Nat.reduceMul,Nat.reduceEqDiff,RB,RX,RA2,s1]
 apply f12_l1_rule (I:=fun x z w'=>∃i:Nat,z= .int .i64 (i:Int)∧i≤n∧x= .int .i64 ((frC f i:Nat):Int)∧Ext w w') (μ:=fun _ z _=>n-(intOf z).toNat)
 ·exact ⟨0,rfl,by omega,rfl,(by repeat (first|(with_reducible first|refine eB ?_ _|assumption|exact eR _|refine eA ?_ _|refine eD ?_|refine eT ?_ (by assumption))|exact eR _))⟩
 ·intros;rename_i w1 hI E1 hE
  obtain ⟨i,rfl,hi,rfl,e1⟩:=hI
  have h1:=h.ext e1
  have hc:=frC_le f i
  by_cases hin:i<n
  ·have ob9:=h1.p hin;have q0:=ob9.1;have q1:=ob9.2.1;have q2:=ob9.2.2.1;have q3:=ob9.2.2.2
   have ltb:=h1.ltb
   have hs:frC f (i+1)=frC f i+if (f i).1<0 then 1 else 0:=rfl
   generalize (f i).1=c1 at*
   by_cases hc1:c1<0
   ·rw [if_pos hc1] at hs
    unfold f12_l1_t
    simp (disch:=first|omega|simp only [RO]|(simp only [RZ]<;>omega)|fail) only [↓RBp,↓RA,↓reduceIte,Nat.reduceAdd,Nat.reduceMul,Nat.reduceEqDiff,RB,RX,RA2,q0,q1,q2,q3,hc1,f12_k2_eq,f12_k2_t]
    apply hE
    ·exact ⟨i+1,by simp,by omega,by rw [hs];simp,(by repeat (first|(with_reducible first|refine eB ?_ _|assumption|exact eR _|refine eA ?_ _|refine eD ?_|refine eT ?_ (by assumption))|exact eR _))⟩
    ·simp [intOf];omega
   ·rw [if_neg hc1] at hs
    unfold f12_l1_t
    simp (disch:=first|omega|simp only [RO]|(simp only [RZ]<;>omega)|fail) only [↓RBp,↓RA,↓reduceIte,Nat.reduceAdd,Nat.reduceMul,Nat.reduceEqDiff,RB,RX,RA2,q0,q1,q2,q3,hc1,f12_k2_eq,f12_k2_t]
    apply hE
    ·exact ⟨i+1,by simp,by omega,by rw [hs];simp,(by repeat (first|(with_reducible first|refine eB ?_ _|assumption|exact eR _|refine eA ?_ _|refine eD ?_|refine eT ?_ (by assumption))|exact eR _))⟩
    ·simp [intOf];omega
  ·have:i=n:=by omega
   subst this
   unfold f12_l1_t
   simp (disch:=first|omega|simp only [RO]|(simp only [RZ]<;>omega)|fail) only [↓RBp,↓RA,↓reduceIte,Nat.reduceAdd,Nat.reduceMul,Nat.reduceEqDiff,RB,RX,RA2,f12_k1_eq,f12_k1_t]
   exact hK _ e1
theorem elInt:ElT prog 38 38 3 1 8 (.int .i64 0):=el_38_38
def lnL (p:Nat→Bool) (l0:Nat):Nat→List Int
 |0=> []
 |n+1=>lnL p l0 n++if p n then [((l0+32*n:Nat):Int)] else []
theorem lnL_len (p:Nat→Bool) (l0:Nat):∀n,(lnL p l0 n).length≤n
 |0=>Nat.le_refl _
 |n+1=>by have:=lnL_len p l0 n;unfold lnL;split<;>simp<;>omega
theorem k_Lines (h:ArS w0 w Y D S b o cp l0 n f) (K:K1) (hK:∀v w',Ext w w'→NewV w.heap.size v→SlO w' 3 1 v (lnL (fun _=>true) l0 n).length (i64L (lnL (fun _=>true) l0 n))→K v w'):
  callS prog 13 #[stV S] w K:=by
 have hle:=h.le
 have s1:=h.c1
 refine f13_call _ _ _ ?_
 unfold f13_t
 simp (disch:=first|omega|simp only [RO]|(simp only [RZ]<;>omega)|fail) only [↓RBp,↓RA,↓reduceIte,Nat.reduceAdd,Nat.reduceMul,Nat.reduceEqDiff,RB,RX,RA2,s1]
 apply f13_l1_rule (I:=fun x z w'=>∃i:Nat,z= .int .i64 (i:Int)∧i≤n∧SlO w' 3 1 x (lnL (fun _=>true) l0 i).length (i64L (lnL (fun _=>true) l0 i))∧Frm Nob w w'∧NewV w.heap.size x) (μ:=fun _ z _=>n-(intOf z).toNat)
 ·exact ⟨0,rfl,by omega,SlO.nil _ _ _,(by repeat (first|exact Frm.refl _ _|with_reducible refine Frm.set ?_ _ (fun _=>rfl)|with_reducible refine Frm.alloc ?_ _|with_reducible refine Frm.drew ?_)),fun b hb=>by cases hb⟩
 ·intros;rename_i x3 z w1 hI E1 hE
  obtain ⟨i,rfl,hi,hs,hf,hnw⟩:=hI
  have e1:Ext w w1:=hf.to_ext (fun _ _ h=>h)
  have h1:=h.ext e1
  have hln:=lnL_len (fun _=>true) l0 i
  by_cases hin:i<n
  ·have ob10:=h1.p hin;have q0:=ob10.1;have q1:=ob10.2.1;have q2:=ob10.2.2.1;have q3:=ob10.2.2.2
   have ltb:=h1.ltb
   obtain ⟨pa,pc,rfl,hpc⟩:=hs.isS'
   have hss:lnL (fun _=>true) l0 (i+1)=lnL (fun _=>true) l0 i++ [((l0+32*i:Nat):Int)]:=rfl
   generalize lnL (fun _=>true) l0 i=l at*
   unfold f13_l1_t
   simp (disch:=first|omega|simp only [RO]|(simp only [RZ]<;>omega)|fail) only [↓RBp,↓RA,↓reduceIte,Nat.reduceAdd,Nat.reduceMul,Nat.reduceEqDiff,RB,RX,RA2,q0,q1,q2,q3]
   refine app_new elInt (w0:=w) (hs.ext (by repeat (first|(with_reducible first|refine eB ?_ _|assumption|exact eR _|refine eA ?_ _|refine eD ?_|refine eT ?_ (by assumption))|exact eR _))) (hf.ext (by repeat (first|(with_reducible first|refine eB ?_ _|assumption|exact eR _|refine eA ?_ _|refine eD ?_|refine eT ?_ (by assumption))|exact eR _))) hnw (m:=1) (news:= [.int .i64 ((l0+32*i:Nat):Int)]) rfl ?_ rfl (by omega) (by omega) (by omega) (fun v' w4 hsp hf4 n4 hfr4 hb4=> ?_)
   ·intro j u hj
    obtain ⟨rfl,rfl⟩:=one_get hj
    simp (disch:=first|omega|simp only [RO]|(simp only [RZ]<;>omega)|fail) only [↓RBp,↓RA,↓reduceIte,Nat.reduceAdd,Nat.reduceMul,Nat.reduceEqDiff,RB,RX,RA2]
   simp (disch:=first|omega|simp only [RO]|(simp only [RZ]<;>omega)|fail) only [↓RBp,↓RA,↓reduceIte,Nat.reduceAdd,Nat.reduceMul,Nat.reduceEqDiff,RB,RX,RA2]
   apply hE
   ·refine ⟨i+1,by simp,by omega,?_,hf4,n4⟩
    rw [hss,List.length_append]
    simpa [i64L] using hsp
   ·simp [intOf];omega
  ·have:i=n:=by omega
   subst this
   unfold f13_l1_t
   simp (disch:=first|omega|simp only [RO]|(simp only [RZ]<;>omega)|fail) only [↓RBp,↓RA,↓reduceIte,Nat.reduceAdd,Nat.reduceMul,Nat.reduceEqDiff,RB,RX,RA2,f13_k1_eq,f13_k1_t]
   exact hK _ _ e1 hnw hs
end
section
variable {D:DS} {l g:Nat} {c o:Int}
theorem fmt_snd (c0:0≤c) (c5:c<5) (o0:0≤o) (o8:o<8) (hg0:g≠0) (hg:g<65536) (h0:wd D l 0=sealN (hdX c o g)) (hlow:∀j,j≠0→j<8→wd D l j=0) (at_:∀i:Nat,(i:Int)<perS c→wd D l (offN c i)=sealN (blkX g 0 176)):Snd D l c o:=by
 have hh:=hd_ok c0 c5 o0 o8 hg0 hg
 refine ⟨by rw [h0];exact hh.1,by rw [h0];exact hh.2.1,by rw [h0];exact hh.2.2.1,fun j h2 h8=>hlow j (by omega) h8,fun i hi=> ?_,fun i hi=> ?_,fun i hi=> ?_⟩
 ·rw [at_ i hi];exact isS_blk hg (by omega) (by omega)
 ·rw [at_ i hi,bG_blk hg (by omega) (by omega),bK_blk hg (by omega) (by omega),bS_blk hg (by omega) (by omega)];simp [goodB,hg0]
 ·rw [hlow 1 (by omega) (by omega),bit0]
  by_cases h:(i:Int)<perS c
  ·rw [at_ i h,bS_blk hg (by omega) (by omega)];simp
  ·simp [h]
theorem clr_gen (on:On D) (gd:Good D) (hl:l+32≤D.n) (hg:g<65536):On (D.run 0 (clrI l g))∧Good (D.run 0 (clrI l g))∧(D.run 0 (clrI l g)).n=D.n∧(∀i∈clrI l g,okI i)∧wd (D.run 0 (clrI l g)) l 0=sealN (hdX (-1) (-1) g):=by
 have hs:=sealN_lt (hdX (-1) (-1) g) (hdX_lt (by omega) (by omega) (by omega) (by omega) hg)
 have hn:=gd.n
 have h1:=On.stores on [(l*64,sealN (hdX (-1) (-1) g))] (fun x hx=>by simp only [List.mem_singleton] at hx;subst hx;simp only;omega)
 have ok:∀i∈clrI l g,okI i:=okI_stores (fun x hx=>by simp only [List.mem_singleton] at hx;subst hx;exact ⟨by simp only;omega,hs⟩)
 refine ⟨h1.1,Good.run 0 (by omega) _ _ gd ok,run_n 0 _ D,ok,?_⟩
 have e:(D.run 0 (clrI l g)).cur=applyH [(l*64,sealN (hdX (-1) (-1) g))] D.cur:=h1.2
 unfold wd
 rw [e]
 refine applyH_val (fun y hy _=> ?_) (.inl ⟨(l*64,sealN (hdX (-1) (-1) g)),by simp,by simp only;omega⟩)
 simp only [List.mem_singleton] at hy;subst hy;rfl
theorem plan_gen (on:On D) (gd:Good D) (hl:l+32≤D.n) (c0:0≤c) (c5:c<5) (o0:0≤o) (o8:o<8) (hg0:g≠0) (hg:g<65536):On (D.run 0 (planI l c o g))∧Good (D.run 0 (planI l c o g))∧(D.run 0 (planI l c o g)).n=D.n∧(∀i∈planI l c o g,okI i)∧Snd (D.run 0 (planI l c o g)) l c o∧wd (D.run 0 (planI l c o g)) l 0=sealN (hdX c o g)∧∀i:Nat,(i:Int)<perS c→wd (D.run 0 (planI l c o g)) l (offN c i)=sealN (blkX g 0 176):=by
 have hp:=perS_in c0 c5
 have hn:=gd.n
 have hb:=sealN_lt (blkX g 0 176) (blkX_lt hg (by omega) (by omega))
 have hd:=sealN_lt (hdX c o g) (hdX_lt (by omega) c5 (by omega) o8 hg)
 have pw:∀x∈planW l c g,(x.1%8=0∧x.1<D.n*64)∧x.1<18446744073709551616∧x.2<18446744073709551616:=by
  intro x hx
  rcases List.mem_append.1 hx with hx|hx
  ·obtain ⟨j,hj,rfl⟩:=List.mem_map.1 hx
   have hb2:=offS_bd c0 c5 (show 0≤(j:Int) by omega) (by rw [List.mem_range] at hj;omega)
   have hw:=wordsS_in c0 c5
   simp only;omega
  ·obtain ⟨j,hj,rfl⟩:=List.mem_map.1 hx
   rw [List.mem_range] at hj
   simp only;omega
 have hw1:∀x∈ [(l*64,sealN (hdX c o g))],(x.1%8=0∧x.1<D.n*64)∧x.1<18446744073709551616∧x.2<18446744073709551616:=fun x hx=>by
  simp only [List.mem_singleton] at hx;subst hx;simp only;omega
 have ok:∀i∈planI l c o g,okI i:=by
  intro i hi
  rcases List.mem_append.1 hi with hi|hi
  ·exact okI_stores (fun x hx=>(pw x hx).2) i hi
  ·exact okI_stores (fun x hx=>(hw1 x hx).2) i hi
 have h1:=On.stores on (planW l c g) (fun x hx=>(pw x hx).1)
 have n1:(D.run 0 (storesI (planW l c g))).n=D.n:=run_n 0 _ D
 have h2:=On.stores h1.1 [(l*64,sealN (hdX c o g))] (fun x hx=>by rw [n1];exact (hw1 x hx).1)
 have er:D.run 0 (planI l c o g)=(D.run 0 (storesI (planW l c g))).run 0 (storesI [(l*64,sealN (hdX c o g))]):=by unfold planI;rw [run_append]
 have gd3:=Good.run 0 (by omega) _ _ gd ok
 have n3:(D.run 0 (planI l c o g)).n=D.n:=run_n 0 _ D
 have ec:(D.run 0 (planI l c o g)).cur=applyH [(l*64,sealN (hdX c o g))] (applyH (planW l c g) D.cur):=by rw [er,h2.2,h1.2]
 have on3:On (D.run 0 (planI l c o g)):=by rw [er];exact h2.1
 generalize D.run 0 (planI l c o g)=E at*
 have w0:wd E l 0=sealN (hdX c o g):=by
  unfold wd
  rw [ec]
  refine applyH_val (fun y hy _=> ?_) (.inl ⟨(l*64,sealN (hdX c o g)),by simp,by simp only;omega⟩)
  simp only [List.mem_singleton] at hy;subst hy;rfl
 have ho:∀(j:Nat) (f:Nat→Nat),j≠0→applyH [(l*64,sealN (hdX c o g))] f (l*8+j)=f (l*8+j):=fun j f hj=>applyH_other _ _ _ (fun y hy=>by simp only [List.mem_singleton] at hy;subst hy;simp only;omega)
 have hA:∀j,∀y∈planW l c g,y.1/8=l*8+j→(8≤j∧y.2=sealN (blkX g 0 176))∨(j<8∧y.2=0):=by
  intro j y hy hyj
  rcases List.mem_append.1 hy with hy|hy
  ·obtain ⟨i,hi,rfl⟩:=List.mem_map.1 hy
   rw [List.mem_range] at hi
   have hb2:=offS_bd c0 c5 (show 0≤(i:Int) by omega) (by omega)
   left
   simp only at hyj
   exact ⟨by omega,rfl⟩
  ·obtain ⟨i,hi,rfl⟩:=List.mem_map.1 hy
   rw [List.mem_range] at hi
   right
   simp only at hyj
   exact ⟨by omega,rfl⟩
 have wlow:∀j,j≠0→j<8→wd E l j=0:=by
  intro j h0 h8
  unfold wd
  rw [ec,ho j _ h0]
  refine applyH_val (fun y hy hyj=> ?_) (.inl ⟨(l*64+(j-1+1)*8,0),List.mem_append_right _ (List.mem_map.2 ⟨j-1,List.mem_range.2 (by omega),rfl⟩),by simp only;omega⟩)
  rcases hA j y hy hyj with h|h
  ·omega
  ·exact h.2
 have wat:∀i:Nat,(i:Int)<perS c→wd E l (offN c i)=sealN (blkX g 0 176):=by
  intro i hi
  have bd:=offN_bd c0 c5 hi
  unfold wd
  rw [ec,ho _ _ (by omega)]
  refine applyH_val (fun y hy hyj=> ?_) (.inl ⟨_,List.mem_append_left _ (List.mem_map.2 ⟨i,List.mem_range.2 (by omega),rfl⟩),?_⟩)
  ·rcases hA _ y hy hyj with h|h
   ·exact h.2
   ·omega
  ·simp only;omega
 exact ⟨on3,gd3,n3,ok,fmt_snd c0 c5 o0 o8 hg0 hg w0 wlow wat,w0,wat⟩
end
def vldB (n:Nat) (line lines:Int):Bool:=decide (0≤line)&&(decide (32≤lines)&&decide (line+lines≤(n:Int)))
section
variable {w0 w w':World} {Y Y':Lay} {D D':DS} {S b o cp l0 n:Nat} {f f':Nat→Int×Int×Bool}
theorem k_avalid (h:Dv w Y D) (g:Good D) (line lines:Int) (h1: -9223372036854775808≤line) (h2:line<9223372036854775808) (h3: -9223372036854775808≤lines) (h4:lines<9223372036854775808) (K:K1) (hK:∀w',Ext w w'→K (.bool (vldB D.n line lines)) w'):
  callS prog 29 #[thV Y,.int .i64 line,.int .i64 lines] w K:=by
 have hn:=g.n
 have hsz:∀(w1:World) (K:K1),Ext w w1→callS prog 117 #[.pointer (some ⟨Y.tb 0,0,none⟩)] w1 K=K (.int .u64 ((D.n*64:Nat):Int)) w1:=fun w1 K e=>c_TSize (h.ext e) g 0 (by omega) K
 have hq:D.n*64/64=D.n:=by omega
 refine f29_call _ _ _ _ _ ?_
 unfold thV f29_t
 unfold vldB at hK
 by_cases a0:line<0
 ·rw [decide_eq_false (show ¬0≤line by omega),Bool.false_and] at hK
  simp (disch:=first|omega|simp only [RO]|(simp only [RZ]<;>omega)|(with_reducible (repeat (first|assumption|exact Ext.refl _|refine Ext.alloc ?_ _|refine Ext.drew ?_|refine Ext.trans ?_ (by assumption))))|fail) only [↓RBp,↓RA,↓reduceIte,Nat.reduceAdd,Nat.reduceMul,Nat.reduceEqDiff,RB,RX,RA2,hsz,hq,a0]
  exact hK _ (by repeat (first|(with_reducible first|refine eB ?_ _|assumption|exact eR _|refine eA ?_ _|refine eD ?_|refine eT ?_ (by assumption))|exact eR _))
 ·rw [decide_eq_true (show 0≤line by omega),Bool.true_and] at hK
  by_cases a1:lines<32
  ·rw [decide_eq_false (show ¬32≤lines by omega),Bool.false_and] at hK
   simp (disch:=first|omega|simp only [RO]|(simp only [RZ]<;>omega)|(with_reducible (repeat (first|assumption|exact Ext.refl _|refine Ext.alloc ?_ _|refine Ext.drew ?_|refine Ext.trans ?_ (by assumption))))|fail) only [↓RBp,↓RA,↓reduceIte,Nat.reduceAdd,Nat.reduceMul,Nat.reduceEqDiff,RB,RX,RA2,hsz,hq,a0,a1]
   exact hK _ (by repeat (first|(with_reducible first|refine eB ?_ _|assumption|exact eR _|refine eA ?_ _|refine eD ?_|refine eT ?_ (by assumption))|exact eR _))
  ·rw [decide_eq_true (show 32≤lines by omega),Bool.true_and] at hK
   obtain ⟨a,rfl⟩:∃a:Nat,line=(a:Int):=⟨line.toNat,by omega⟩
   obtain ⟨q,rfl⟩:∃q:Nat,lines=(q:Int):=⟨lines.toNat,by omega⟩
   by_cases a2:D.n<a
   ·rw [decide_eq_false (show ¬(a:Int)+(q:Int)≤(D.n:Int) by omega)] at hK
    simp (disch:=first|omega|simp only [RO]|(simp only [RZ]<;>omega)|(with_reducible (repeat (first|assumption|exact Ext.refl _|refine Ext.alloc ?_ _|refine Ext.drew ?_|refine Ext.trans ?_ (by assumption))))|fail) only [↓RBp,↓RA,↓reduceIte,Nat.reduceAdd,Nat.reduceMul,Nat.reduceEqDiff,RB,RX,RA2,hsz,hq,a0,a1,a2]
    exact hK _ (by repeat (first|(with_reducible first|refine eB ?_ _|assumption|exact eR _|refine eA ?_ _|refine eD ?_|refine eT ?_ (by assumption))|exact eR _))
   ·by_cases a3:D.n-a<q
    ·rw [decide_eq_false (show ¬(a:Int)+(q:Int)≤(D.n:Int) by omega)] at hK
     simp (disch:=first|omega|simp only [RO]|(simp only [RZ]<;>omega)|(with_reducible (repeat (first|assumption|exact Ext.refl _|refine Ext.alloc ?_ _|refine Ext.drew ?_|refine Ext.trans ?_ (by assumption))))|fail) only [↓RBp,↓RA,↓reduceIte,Nat.reduceAdd,Nat.reduceMul,Nat.reduceEqDiff,RB,RX,RA2,hsz,hq,a0,a1,a2,a3]
     exact hK _ (by repeat (first|(with_reducible first|refine eB ?_ _|assumption|exact eR _|refine eA ?_ _|refine eD ?_|refine eT ?_ (by assumption))|exact eR _))
    ·rw [decide_eq_true (show (a:Int)+(q:Int)≤(D.n:Int) by omega)] at hK
     have a4:a+q/32*32≤4096:=by omega
     simp (disch:=first|omega|simp only [RO]|(simp only [RZ]<;>omega)|(with_reducible (repeat (first|assumption|exact Ext.refl _|refine Ext.alloc ?_ _|refine Ext.drew ?_|refine Ext.trans ?_ (by assumption))))|fail) only [↓RBp,↓RA,↓reduceIte,Nat.reduceAdd,Nat.reduceMul,Nat.reduceEqDiff,RB,RX,RA2,hsz,hq,a0,a1,a2,a3,a4]
     exact hK _ (by repeat (first|(with_reducible first|refine eB ?_ _|assumption|exact eR _|refine eA ?_ _|refine eD ?_|refine eT ?_ (by assumption))|exact eR _))
theorem clrI_len (l g:Nat):(clrI l g).length≤3:=by
 have:=storesI_le [(l*64,sealN (hdX (-1) (-1) g))]
 simpa [clrI] using this
def fmtD (D:DS) (l0:Nat):Nat→DS
 |0=>D
 |k+1=>(fmtD D l0 k).run 0 (clrI (l0+32*k) 1)
theorem fmtD_ok (on:On D) (gd:Good D) (hl:l0+32*n≤D.n):∀k,k≤n→On (fmtD D l0 k)∧Good (fmtD D l0 k)∧(fmtD D l0 k).n=D.n∧(fmtD D l0 k).exe≤D.exe+3*k
 |0,_=>⟨on,gd,rfl,by simp [fmtD]⟩
 |k+1,hk=>by
  obtain ⟨h1,h2,h3,h4⟩:=fmtD_ok on gd hl k (by omega)
  have c:=clr_gen h1 h2 (l:=l0+32*k) (g:=1) (by omega) (by omega)
  refine ⟨c.1,c.2.1,c.2.2.1.trans h3,?_⟩
  have:=run_exe 0 (clrI (l0+32*k) 1) (fmtD D l0 k)
  have:=clrI_len (l0+32*k) 1
  unfold fmtD
  omega
theorem k_AFormat (h:Lv w0 w Y D) (gl:Glob w0) (on:On D) (gd:Good D) (hx:D.exe<1000000000) {q:Nat} (hq:32≤q) (hl:l0+q≤D.n) (K:K1) (hK:∀w' Y',Stp w Y w' Y' (fmtD D l0 (q/32))→K (.int .i64 0) w'):
  callS prog 10 #[thV Y,.int .i64 (l0:Int),.int .i64 (q:Int)] w K:=by
 have hn:=gd.n
 have hvl:vldB D.n (l0:Int) (q:Int)=true:=by simp [vldB];omega
 have her:∀(w1:World) (K:K1),Ext w w1→callS prog 114 #[.pointer (some ⟨Y.tb 0,0,none⟩)] w1 K=K (.int .i64 0) w1:=fun w1 K e=>by rw [c_Err (h.dv.ext e) 0 (by omega) K,on.err]
 obtain ⟨n,hnq⟩:∃n,q/32=n:=⟨_,rfl⟩
 rw [hnq] at hK
 refine f10_call _ _ _ _ _ ?_
 unfold f10_t
 simp (disch:=first|omega|simp only [RO]|(simp only [RZ]<;>omega)|fail) only [↓RBp,↓RA,↓reduceIte,Nat.reduceAdd,Nat.reduceMul,Nat.reduceEqDiff,RB,RX,RA2]
 refine k_avalid h.dv gd _ _ (by omega) (by omega) (by omega) (by omega) _ (fun w1 e1=> ?_)
 rw [hvl]
 unfold thV
 simp (disch:=first|omega|simp only [RO]|(simp only [RZ]<;>omega)|(with_reducible (repeat (first|assumption|exact Ext.refl _|refine Ext.alloc ?_ _|refine Ext.drew ?_|refine Ext.trans ?_ (by assumption))))|fail) only [↓RBp,↓RA,↓reduceIte,Nat.reduceAdd,Nat.reduceMul,Nat.reduceEqDiff,RB,RX,RA2,her,hnq]
 apply f10_l1_rule (I:=fun z w'=>∃(i:Nat) (Y':Lay),z= .int .i64 (i:Int)∧i≤n∧Stp w Y w' Y' (fmtD D l0 i)) (μ:=fun z _=>n-(intOf z).toNat)
 ·exact ⟨0,Y,rfl,by omega,Stp.ext h.dv e1⟩
 ·intros;rename_i w2 hI E1 hE
  obtain ⟨i,Y2,rfl,hi,st⟩:=hI
  obtain ⟨on2,gd2,n2,x2⟩:=fmtD_ok on gd (n:=n) (l0:=l0) (by omega) i hi
  have tb:Y2.tb 0=Y.tb 0:=by rw [st.tb]
  have hG2:Glob w2:=gl.ext (h.step st gd2).ex
  have her:∀(w1:World) (K:K1),Ext w2 w1→callS prog 114 #[.pointer (some ⟨Y.tb 0,0,none⟩)] w1 K=K (.int .i64 0) w1:=fun w1 K e=>by rw [←tb,c_Err (st.dv.ext e) 0 (by omega) K,on2.err]
  by_cases hin:i<n
  ·have e1:(l0:Int)+(i:Int)*32=((l0+32*i:Nat):Int):=by omega
   have cg:=clr_gen on2 gd2 (l:=l0+32*i) (g:=1) (by omega) (by omega)
   have hcl:=clrI_len (l0+32*i) 1
   have hxr:=run_exe 0 (clrI (l0+32*i) 1) (fmtD D l0 i)
   have hrun:∀(v:Value) (w3:World) (K1:K1),SlO w3 110 3 v (clrI (l0+32*i) 1).length (inL (clrI (l0+32*i) 1))→Ext w2 w3→NewV w2.heap.size v→(∀w4 Y4,Stp w2 Y2 w4 Y4 (fmtD D l0 (i+1))→K1 (.int .i64 0) w4)→callS prog 31 #[v,.iface 28 (.pointer (some ⟨Y.tb 0,0,none⟩))] w3 K1:=by
    intro v w3 K1 hs e nv hk
    rw [←tb]
    refine k_Run (st.dv.ext e) gd2 0 (by omega) _ v hs (fun b hb hf=>by have h1:=st.dv.lt hf;have h2:=nv b hb;omega) cg.2.2.2.1 (by omega) _ (fun w4 Y4 st4=> ?_)
    have he:((fmtD D l0 i).run 0 (clrI (l0+32*i) 1)).err 0=0:=cg.1.err
    rw [he]
    exact hk w4 Y4 (Stp.pre e (fun b hb=>st.dv.lt hb) st4)
   unfold f10_l1_t
   simp (disch:=first|omega|simp only [RO]|(simp only [RZ]<;>omega)|fail) only [↓RBp,↓RA,↓reduceIte,Nat.reduceAdd,Nat.reduceMul,Nat.reduceEqDiff,RB,RX,RA2,e1]
   refine k_Clear hG2 (l0+32*i) 1 (by omega) (by omega) (by omega) _ (fun v w3 hs e3 nv=> ?_)
   simp (disch:=first|omega|simp only [RO]|(simp only [RZ]<;>omega)|fail) only [↓RBp,↓RA,↓reduceIte,Nat.reduceAdd,Nat.reduceMul,Nat.reduceEqDiff,RB,RX,RA2]
   refine hrun v _ _ (hs.ext (by repeat (first|(with_reducible first|refine eB ?_ _|assumption|exact eR _|refine eA ?_ _|refine eD ?_|refine eT ?_ (by assumption))|exact eR _))) (e3.trans (by repeat (first|(with_reducible first|refine eB ?_ _|assumption|exact eR _|refine eA ?_ _|refine eD ?_|refine eT ?_ (by assumption))|exact eR _))) nv (fun w4 Y4 st4=> ?_)
   simp (disch:=first|omega|simp only [RO]|(simp only [RZ]<;>omega)|fail) only [↓RBp,↓RA,↓reduceIte,Nat.reduceAdd,Nat.reduceMul,Nat.reduceEqDiff,RB,RX,RA2]
   apply hE
   ·exact ⟨i+1,Y4,by simp,by omega,st.trans st4⟩
   ·simp [intOf];omega
  ·have:i=n:=by omega
   subst this
   unfold f10_l1_t
   simp (disch:=first|omega|simp only [RO]|(simp only [RZ]<;>omega)|(with_reducible (repeat (first|assumption|exact Ext.refl _|refine Ext.alloc ?_ _|refine Ext.drew ?_|refine Ext.trans ?_ (by assumption))))|fail) only [↓RBp,↓RA,↓reduceIte,Nat.reduceAdd,Nat.reduceMul,Nat.reduceEqDiff,RB,RX,RA2,her,f10_k1_eq,f10_k1_t]
   exact hK _ Y2 st
end
def opF (D:DS) (l0:Nat) (k:Nat):Int×Int×Bool:=(hC (wd D (l0+32*k) 0),hO (wd D (l0+32*k) 0),false)
theorem elPl:ElT prog 76 76 83 4 32 (.agg #[.int .i64 0,.int .i64 0,.int .i64 0,.bool false]):=el_76_76
theorem fill_agg4 {place:Nat→Option (Nat×Nat)} {cells:Array Value} {i off:Nat} {a b c d:Value} {rest:List (Nat×Value)} (hp:place i=some (off,4)) (ho:off+4≤cells.size):Instr.fill place cells ((i,.agg #[a,b,c,d])::rest)=Instr.fill place ((((cells.setIfInBounds off a).setIfInBounds (off+1) b).setIfInBounds (off+2) c).setIfInBounds (off+3) d) rest:=by
 rw [Instr.fill,hp]
 simp only [cells_agg,List.size_toArray,List.length_cons,List.length_nil]
 rw [if_neg (by simp;omega)]
 congr 1
theorem bsPl (a b c d:Value) (w:World):(Instr.buildSlice 76 1 #[(0,.agg #[a,b,c,d])]).run prog w= .ok (.slice (some ⟨w.heap.size,0,none⟩) 1 1) (w.alloc (.cells #[a,b,c,d] 83)):=
 Go.Sh.run_buildSliceS (z:=(.agg #[.int .i64 0,.int .i64 0,.int .i64 0,.bool false])) (show prog.underlying 76=some (.slice 83) from by kernel_rfl) (show szT prog 83=some 4 from by kernel_rfl) (by kernel_rfl) (by decide) (by decide) (by show Instr.fill _ #[.int .i64 0,.int .i64 0,.int .i64 0,.bool false] [(0,.agg #[a,b,c,d])]=_;rw [fill_agg4 (off:=0) rfl (by simp)];rfl) w
theorem evPl (a b c d:Value) (w:World) (k:K1):ev prog (Instr.buildSlice 76 1 #[(0,.agg #[a,b,c,d])]) w k=k (.slice (some ⟨w.heap.size,0,none⟩) 1 1) (w.alloc (.cells #[a,b,c,d] 83)):=ev_of_run (bsPl a b c d w) k
def stF (T:Nat) (v:Value) (i:Nat):Value:= [Value.iface 28 (.pointer (some ⟨T,0,none⟩)),v].getD i undef
section
variable {w0 w w':World} {Y Y':Lay} {D D':DS} {S b o cp l0 n:Nat} {f f':Nat→Int×Int×Bool}
theorem k_AOpenBad (h:Dv w Y D) (g:Good D) (line lines:Int) (h1: -9223372036854775808≤line) (h2:line<9223372036854775808) (h3: -9223372036854775808≤lines) (h4:lines<9223372036854775808) (hv:vldB D.n line lines=false) (K:K1) (hK:∀w',Ext w w'→K (.tuple #[.pointer none,.int .i64 1]) w'):
  callS prog 11 #[thV Y,.int .i64 line,.int .i64 lines] w K:=by
 refine f11_call _ _ _ _ _ ?_
 unfold f11_t
 simp (disch:=first|omega|simp only [RO]|(simp only [RZ]<;>omega)|fail) only [↓RBp,↓RA,↓reduceIte,Nat.reduceAdd,Nat.reduceMul,Nat.reduceEqDiff,RB,RX,RA2]
 refine k_avalid h g _ _ h1 h2 h3 h4 _ (fun w1 e1=> ?_)
 rw [hv]
 simp (disch:=first|omega|simp only [RO]|(simp only [RZ]<;>omega)|fail) only [↓RBp,↓RA,↓reduceIte,Nat.reduceAdd,Nat.reduceMul,Nat.reduceEqDiff,RB,RX,RA2]
 exact hK _ e1
theorem k_AFormatBad (h:Dv w Y D) (g:Good D) (line lines:Int) (h1: -9223372036854775808≤line) (h2:line<9223372036854775808) (h3: -9223372036854775808≤lines) (h4:lines<9223372036854775808) (hv:vldB D.n line lines=false) (K:K1) (hK:∀w',Ext w w'→K (.int .i64 1) w'):
  callS prog 10 #[thV Y,.int .i64 line,.int .i64 lines] w K:=by
 refine f10_call _ _ _ _ _ ?_
 unfold f10_t
 simp (disch:=first|omega|simp only [RO]|(simp only [RZ]<;>omega)|fail) only [↓RBp,↓RA,↓reduceIte,Nat.reduceAdd,Nat.reduceMul,Nat.reduceEqDiff,RB,RX,RA2]
 refine k_avalid h g _ _ h1 h2 h3 h4 _ (fun w1 e1=> ?_)
 rw [hv]
 simp (disch:=first|omega|simp only [RO]|(simp only [RZ]<;>omega)|fail) only [↓RBp,↓RA,↓reduceIte,Nat.reduceAdd,Nat.reduceMul,Nat.reduceEqDiff,RB,RX,RA2]
 exact hK _ e1
theorem k_AOpen (h:Lv w0 w Y D) (gl:Glob w0) (ho:D.off=false) (he:D.err 0=0) {q:Nat} (hq:32≤q) (hl:l0+q≤D.n) (hqn:q/32=n) (K:K1)
  (hb:(¬∀k,k<n→hdOk (wd D (l0+32*k) 0)=true)→∀w',Ext w w'→K (.tuple #[.pointer none,.int .i64 11]) w')
  (hK:(∀k,k<n→hdOk (wd D (l0+32*k) 0)=true)→∀S b o cp w',Ext w w'→w.heap.size≤S→w.heap.size≤b→ArS w0 w' Y D S b o cp l0 n (opF D l0)→K (.tuple #[stV S,.int .i64 0]) w'):
  callS prog 11 #[thV Y,.int .i64 (l0:Int),.int .i64 (q:Int)] w K:=by
 have hn:=h.gd.n
 have hvl:vldB D.n (l0:Int) (q:Int)=true:=by simp [vldB];omega
 have her:∀(w1:World) (K:K1),Ext w w1→callS prog 114 #[.pointer (some ⟨Y.tb 0,0,none⟩)] w1 K=K (.int .i64 0) w1:=fun w1 K e=>by rw [c_Err (h.dv.ext e) 0 (by omega) K,he]
 refine f11_call _ _ _ _ _ ?_
 unfold f11_t
 simp (disch:=first|omega|simp only [RO]|(simp only [RZ]<;>omega)|fail) only [↓RBp,↓RA,↓reduceIte,Nat.reduceAdd,Nat.reduceMul,Nat.reduceEqDiff,RB,RX,RA2]
 refine k_avalid h.dv h.gd _ _ (by omega) (by omega) (by omega) (by omega) _ (fun w1 e1=> ?_)
 rw [hvl]
 unfold thV
 simp (disch:=first|omega|simp only [RO]|(simp only [RZ]<;>omega)|(with_reducible (repeat (first|assumption|exact Ext.refl _|refine Ext.alloc ?_ _|refine Ext.drew ?_|refine Ext.trans ?_ (by assumption))))|fail) only [↓RBp,↓RA,↓reduceIte,Nat.reduceAdd,Nat.reduceMul,Nat.reduceEqDiff,RB,RX,RA2,her,hqn]
 have hS0:=Cells.new w1 [Value.iface 28 (.pointer (some ⟨Y.tb 0,0,none⟩)),.slice none 0 0] 78
 apply f11_l1_rule (I:=fun z w'=>∃(i:Nat) (v:Value),z= .int .i64 (i:Int)∧i≤n∧Frm Nob w1 w'∧NewV w1.heap.size v∧(∀b,v.ownBlock=some b→b≠w1.heap.size)∧Cells w' w1.heap.size 78 2 (stF (Y.tb 0) v)∧SlO w' 83 4 v i (plL (opF D l0) l0 i)∧∀k,k<i→hdOk (wd D (l0+32*k) 0)=true) (μ:=fun z _=>n-(intOf z).toNat)
 ·exact ⟨0,.slice none 0 0,rfl,by omega,(by repeat (first|exact Frm.refl _ _|with_reducible refine Frm.set ?_ _ (fun _=>rfl)|with_reducible refine Frm.alloc ?_ _|with_reducible refine Frm.drew ?_)),fun b hb=>(by cases hb),fun b hb=>(by cases hb),hS0,SlO.nil _ _ _,fun k hk=>absurd hk (Nat.not_lt_zero _)⟩
 ·intros;rename_i w2 hI E1 hE
  obtain ⟨i,v,rfl,hi,f2,nv,vS,hS,hs,hall⟩:=hI
  have e2:Ext w1 w2:=f2.to_ext (fun _ _ h=>h)
  have h2:=h.ext (e1.trans e2)
  by_cases hin:i<n
  ·have e32:(l0:Int)+(i:Int)*32=((l0+32*i:Nat):Int):=by omega
   have hG2:Glob w2:=gl.ext h2.ex
   cases hok:hdOk (wd D (l0+32*i) 0) with
   |false=>
    unfold f11_l1_t
    simp (disch:=first|omega|simp only [RO]|(simp only [RZ]<;>omega)|fail) only [↓RBp,↓RA,↓reduceIte,Nat.reduceAdd,Nat.reduceMul,Nat.reduceEqDiff,RB,RX,RA2,e32]
    refine k_LookForm (h2.dv.ext (by repeat (first|(with_reducible first|refine eB ?_ _|assumption|exact eR _|refine eA ?_ _|refine eD ?_|refine eT ?_ (by assumption))|exact eR _))) h.gd (hG2.ext (by repeat (first|(with_reducible first|refine eB ?_ _|assumption|exact eR _|refine eA ?_ _|refine eD ?_|refine eT ?_ (by assumption))|exact eR _))) ho he (l0+32*i) (by omega) hok _ (fun w3 e3=> ?_)
    simp (disch:=first|omega|simp only [RO]|(simp only [RZ]<;>omega)|fail) only [↓RBp,↓RA,↓reduceIte,Nat.reduceAdd,Nat.reduceMul,Nat.reduceEqDiff,RB,RX,RA2]
    exact hb (fun hh=>by rw [hh i hin] at hok;cases hok) _ (e1.trans (e2.trans (by repeat (first|(with_reducible first|refine eB ?_ _|assumption|exact eR _|refine eA ?_ _|refine eD ?_|refine eT ?_ (by assumption))|exact eR _))))
   |true=>
    obtain ⟨pa,pc,rfl,hpc⟩:=hs.isS'
    have hpl:plL (opF D l0) l0 (i+1)=plL (opF D l0) l0 i++ [.int .i64 ((l0+32*i:Nat):Int),.int .i64 (hC (wd D (l0+32*i) 0)),.int .i64 (hO (wd D (l0+32*i) 0)),.bool false]:=rfl
    unfold f11_l1_t
    simp (disch:=first|omega|simp only [RO]|(simp only [RZ]<;>omega)|fail) only [↓RBp,↓RA,↓reduceIte,Nat.reduceAdd,Nat.reduceMul,Nat.reduceEqDiff,RB,RX,RA2,e32]
    refine k_Look (h2.dv.ext (by repeat (first|(with_reducible first|refine eB ?_ _|assumption|exact eR _|refine eA ?_ _|refine eD ?_|refine eT ?_ (by assumption))|exact eR _))) h.gd (hG2.ext (by repeat (first|(with_reducible first|refine eB ?_ _|assumption|exact eR _|refine eA ?_ _|refine eD ?_|refine eT ?_ (by assumption))|exact eR _))) ho he (l0+32*i) (by omega) hok _ (fun w3 e3=> ?_)
    have e23:Ext w2 w3:=Ext.trans (by repeat (first|(with_reducible first|refine eB ?_ _|assumption|exact eR _|refine eA ?_ _|refine eD ?_|refine eT ?_ (by assumption))|exact eR _)) e3
    have hS3:=hS.ext e23
    have s1:w3.cell? ⟨w1.heap.size,1,none⟩=some (.slice pa i pc):=hS3.cell (i:=1) (by omega)
    have ltS:=hS3.lt
    generalize hC (wd D (l0+32*i) 0)=cc at*
    generalize hO (wd D (l0+32*i) 0)=oo at*
    generalize gX (wd D (l0+32*i) 0)=gg at*
    (repeat' (first|(with_reducible first|refine brS_mk (fun _=> ?_) (fun _=> ?_)|refine And.intro ?_ ?_)|(simp (disch:=first|omega|simp only [RO]|(simp only [RZ]<;>omega)|fail) only [↓RBp,↓RA,↓reduceIte,Nat.reduceAdd,Nat.reduceMul,Nat.reduceEqDiff,RB,RX,RA2,s1,e32,evPl])))
    refine app_new elPl (w0:=w1) (hs.ext (e23.trans (by repeat (first|(with_reducible first|refine eB ?_ _|assumption|exact eR _|refine eA ?_ _|refine eD ?_|refine eT ?_ (by assumption))|exact eR _)))) (f2.ext (e23.trans (by repeat (first|(with_reducible first|refine eB ?_ _|assumption|exact eR _|refine eA ?_ _|refine eD ?_|refine eT ?_ (by assumption))|exact eR _)))) nv (m:=1) (news:= [.int .i64 ((l0+32*i:Nat):Int),.int .i64 cc,.int .i64 oo,.bool false]) rfl ?_ rfl (by omega) (by omega) (by omega) (fun v' w5 hsp hf5 n5 hfr5 hb5=> ?_)
    ·intro q u hq
     rw [Nat.zero_add,cell_drew,cell_new _ _ _ _ _ (by simp only [RZ])]
     simpa using hq
    have hS5:Cells w5 w1.heap.size 78 2 (stF (Y.tb 0) (.slice pa i pc)):=(hS3.ext (by repeat (first|(with_reducible first|refine eB ?_ _|assumption|exact eR _|refine eA ?_ _|refine eD ?_|refine eT ?_ (by assumption))|exact eR _))).frm hfr5 (fun hb=>vS _ hb rfl)
    have lt5:=hS5.lt
    have fz5:=hS5.frz
    have t1:w5.cell? ⟨w1.heap.size,1,none⟩=some (.slice pa i pc):=hS5.cell (i:=1) (by omega)
    have vS':∀b,v'.ownBlock=some b→b≠w1.heap.size:=fun b hb e=>by
     rcases hb5 b hb with h5|h5
     ·exact vS b h5 e
     ·simp only [RZ] at h5;omega
    have iv:=isOne_sl hsp
    simp (disch:=first|omega|simp only [RO]|(simp only [RZ]<;>omega)|fail) only [↓RBp,↓RA,↓reduceIte,Nat.reduceAdd,Nat.reduceMul,Nat.reduceEqDiff,RB,RX,RA2,fz5,t1,iv]
    apply hE
    ·refine ⟨i+1,v',by simp,by omega,hf5.set _ (fun hb=>by simp only at hb;omega),n5,vS',?_,?_,fun k hk=> ?_⟩
     ·exact (hS5.set (i:=1) v' (by omega)).congr (fun j hj=>by
       rcases j with _|_|j
       ·rfl
       ·rfl
       ·omega)
     ·rw [hpl]
      exact hsp.of_heap (fun b hb=>heap_set_ne _ (vS' b hb))
     ·by_cases hk2:k<i
      ·exact hall k hk2
      ·have:k=i:=by omega
       subst this;exact hok
    ·simp [intOf];omega
  ·have:i=n:=by omega
   subst this
   have hi0:0<i:=by omega
   obtain ⟨b,ob,cap,rfl,_⟩:=hs.isS hi0
   have hb1:=nv b rfl
   have hes:=e1.size
   unfold f11_l1_t
   simp (disch:=first|omega|simp only [RO]|(simp only [RZ]<;>omega)|fail) only [↓RBp,↓RA,↓reduceIte,Nat.reduceAdd,Nat.reduceMul,Nat.reduceEqDiff,RB,RX,RA2,f11_k1_eq,f11_k1_t]
   have hw0:=h.ex.size
   refine hK hall _ _ _ _ _ (e1.trans e2) hes (by omega) ⟨h2,gl,hS,hs,⟨by omega,fun hf=> ?_,fun hh=>vS b rfl hh.symm⟩,⟨by omega,fun hf=> ?_⟩,hi0,by omega⟩
   ·have:=h.dv.lt hf;omega
   ·have:=h.dv.lt hf;omega
end
end Go.Proofs.YtifpinhjpbgnoaaDoor
namespace Go.Proofs.YtifpinhjpbgnoaaDoor
def wB (W:Nat→Nat) (i:Nat):Nat:=W (i/8)/2^(8*(i%8))%256
end Go.Proofs.YtifpinhjpbgnoaaDoor
namespace Go.Proofs.YtifpinhjpbgnoaaDoor
open Go Go.Sh
section
variable {w w':World} {Y:Lay} {D D':DS}
def ImgW (D:DS) (F:Nat→Nat):Prop:=∀j,j<8*D.n→F j=D.pers j∨∃x∈D.hist (j/8),x.1/8=j∧F j=x.2
theorem ImgW.lt {F:Nat→Nat} (h:ImgW D F) (g:Good D) (j:Nat) (hj:j<8*D.n):F j<18446744073709551616:=by
 rcases h j hj with h1|⟨x,hx,_,h2⟩
 ·rw [h1];exact g.pers j hj
 ·rw [h2];exact (g.hist (j/8) (by omega) x.1 x.2 hx).2.2
theorem k_bytesOf {b cw N:Nat} {F:Nat→Nat} (hC:Cells w b 22 N (fun i=>u64 (F i))) (hF:∀i,i<N→F i<18446744073709551616) (h0:0<N) (hN:N≤40000) (K:K1)
  (hK:∀b' w',Ext w w'→w.heap.size≤b'→Cells w' b' 5 (8*N) (fun i=> .int .u8 ((wB F i:Nat):Int))→K (.slice (some ⟨b',0,none⟩) (8*N) (8*N)) w'):
  callS prog 28 #[.slice (some ⟨b,0,none⟩) N cw] w K:=by
 refine f28_call _ _ _ ?_
 unfold f28_t
 have f1:((N:Int)*8)=((8*N:Nat):Int):=by omega
 simp (disch:=first|omega|simp only [RO]|(simp only [RZ]<;>omega)|fail) only [↓RBp,↓RA,↓reduceIte,Nat.reduceAdd,Nat.reduceMul,Nat.reduceEqDiff,RB,RX,RA2,f1]
 have hz0:=zrow_cells w (.int .u8 ((0:Nat):Int)) (8*N) 5
 have e0:Ext w (w.alloc (.cells (zrow (.int .u8 ((0:Nat):Int)) (8*N)) 5)):=Ext.alloc_self _ _
 have hbl:=hC.lt
 apply f28_l1_rule (I:=fun z w'=>∃j:Nat,z= .int .i64 (j:Int)∧j≤8*N∧Ext w w'∧∃f:Nat→Value,Cells w' w.heap.size 5 (8*N) f∧∀i,i<j→f i= .int .u8 ((wB F i:Nat):Int)) (μ:=fun z _=>8*N-(intOf z).toNat)
 ·exact ⟨0,rfl,by omega,(by repeat (first|(with_reducible first|refine eB ?_ _|assumption|exact eR _|refine eA ?_ _|refine eD ?_|refine eT ?_ (by assumption))|exact eR _)),_,by simpa using hz0,fun i hi=>by omega⟩
 ·intros;rename_i w1 hI E1 hE
  obtain ⟨j,rfl,hj,e1,f,hc,hfi⟩:=hI
  by_cases hjn:j<8*N
  ·have hq:j/8<N:=by omega
   have f2:((j:Int)/8)=((j/8:Nat):Int):=by omega
   have f3:((j:Int)%8)=((j%8:Nat):Int):=by omega
   have f4:(((j%8:Nat):Int)*8)=((8*(j%8):Nat):Int):=by omega
   have c1:=e1.cell_some (hC.cell hq)
   have hFl:=hF _ hq
   have hw:wB F j=F (j/8)/2^(8*(j%8))%256:=rfl
   have hdl:F (j/8)/2^(8*(j%8))<18446744073709551616:=Nat.lt_of_le_of_lt (Nat.div_le_self _ _) hFl
   have hset:=fun v=>hc.set v hjn
   have c2:=hc.cell hjn
   have hz:=hc.frz
   have ltc:=hc.lt
   generalize F (j/8)=X at*
   have h8:8*(j%8)<64:=by omega
   generalize 8*(j%8)=sh at*
   generalize hy:X/2^sh=y at*
   unfold f28_l1_t
   simp (disch:=first|omega|simp only [RO]|(simp only [RZ]<;>omega)|fail) only [↓RBp,↓RA,↓reduceIte,Nat.reduceAdd,Nat.reduceMul,Nat.reduceEqDiff,RB,RX,RA2,f2,f3,f4,c1,c2,hz,hy,Int.toNat_natCast]
   apply hE
   ·refine ⟨j+1,by simp,by omega,(by repeat (first|(with_reducible first|refine eB ?_ _|assumption|exact eR _|refine eA ?_ _|refine eD ?_|refine eT ?_ (by assumption))|exact eR _)),_,hset _,fun i hi=> ?_⟩
    by_cases e:i=j
    ·subst e;simp only [if_true];rw [hw]
    ·rw [if_neg e];exact hfi i (by omega)
   ·simp [intOf];omega
  ·have:j=8*N:=by omega
   subst this
   unfold f28_l1_t
   simp (disch:=first|omega|simp only [RO]|(simp only [RZ]<;>omega)|fail) only [↓RBp,↓RA,↓reduceIte,Nat.reduceAdd,Nat.reduceMul,Nat.reduceEqDiff,RB,RX,RA2,f28_k1_eq,f28_k1_t]
   exact hK _ _ e1 (Nat.le_refl _) (hc.congr (fun i hi=>hfi i hi))
end
structure Co where
 cur:Nat→Nat
 pers:Nat→Nat
 done:Nat→Nat
 hist:Nat→List (Nat×Nat)
 notes:Int→Option Nat
def DS.co (D:DS):Co:=⟨D.cur,D.pers,D.done,D.hist,D.notes 0⟩
def Co.st (C:Co) (off v:Nat):Co:={C with hist:=fun j=>if j=off/64 then C.hist (off/64)++ [(off,v)] else C.hist j,cur:=fun j=>if j=off/8 then v else C.cur j}
def Co.fl (C:Co) (off:Nat):Co:={C with notes:=fun i=>if i=((off/64:Nat):Int) then some (C.done (off/64)+(C.hist (off/64)).length) else C.notes i}
def Co.due (C:Co) (l:Nat):Nat:=match C.notes (l:Int) with
 |some p=>p-C.done l
 |none=>0
def Co.fe (C:Co):Co:=⟨C.cur,fun x=>applyH ((C.hist (x/8)).take (C.due (x/8))) C.pers x,fun l=>C.done l+C.due l,fun l=>(C.hist l).drop (C.due l),fun _=>none⟩
def Co.ex (C:Co) (i:Ins):Co:=if i.op=1 then C.st i.off i.val else if i.op=2 then C.fl i.off else C.fe
def Co.run (C:Co) (p:List Ins):Co:=p.foldl Co.ex C
def vIns (n:Nat) (i:Ins):Prop:=(i.op=1→i.off%8=0∧i.off<n*64)∧(i.op=2→i.off<n*64)
theorem fail_co (D:DS) (e:Int):(D.fail 0 e).co=D.co∧(D.fail 0 e).off=D.off∧(D.fail 0 e).n=D.n:=by
 unfold DS.fail
 split<;>exact ⟨rfl,rfl,rfl⟩
theorem exec_co (D:DS) (i:Ins) (hv:vIns D.n i):((D.exec 0 i).co=D.co.ex i∧(D.exec 0 i).off=D.off∧D.off=false)∨((D.exec 0 i).co=D.co∧(D.exec 0 i).off=true):=by
 have stp:∀(b:Bool),b=true→(D.runs b=true∧(D.counted 0 b).co=D.co∧(D.counted 0 b).off=D.off∧D.off=false)∨(D.runs b=false∧(D.counted 0 b).co=D.co∧(D.counted 0 b).off=true):=by
  intro b hb
  subst hb
  unfold DS.runs DS.counted
  by_cases ho:D.off=true
  ·right
   have:=fail_co D 3
   rw [if_pos ho]
   exact ⟨by simp [ho],this.1,by rw [this.2.1];exact ho⟩
  ·have ho':D.off=false:=by simpa using ho
   rw [if_neg ho,if_neg (by simp)]
   by_cases ha:D.armed=true
   ·rw [if_pos ha]
    by_cases hl:D.left=0
    ·right
     rw [if_pos hl]
     have:=fail_co ({D with off:=true}:DS) 3
     exact ⟨by simp [ha,hl],this.1,this.2.1⟩
    ·left
     rw [if_neg hl]
     exact ⟨by simp [ho',ha,hl],rfl,rfl,ho'⟩
   ·left
    rw [if_neg ha]
    have ha':D.armed=false:=by simpa using ha
    exact ⟨by simp [ho',ha'],rfl,rfl,ho'⟩
 unfold DS.exec Co.ex
 by_cases h1:i.op=1
 ·rw [if_pos h1,if_pos h1]
  have hb:=hv.1 h1
  have hvb:vOff D i.off=true:=by unfold vOff;rw [decide_eq_true hb.1,decide_eq_true hb.2];rfl
  unfold DS.store
  rcases stp (vOff D i.off) hvb with ⟨r,a,b,c⟩|⟨r,a,b⟩
  ·left
   rw [if_pos r]
   refine ⟨?_,b,c⟩
   have e:((D.counted 0 (vOff D i.off)).write i.off i.val).co=(D.counted 0 (vOff D i.off)).co.st i.off i.val:=rfl
   rw [e,a]
  ·right
   rw [if_neg (by simp [r])]
   exact ⟨a,b⟩
 ·rw [if_neg h1,if_neg h1]
  by_cases h2:i.op=2
  ·rw [if_pos h2,if_pos h2]
   have hb:=hv.2 h2
   have hvb:fOff D i.off=true:=by unfold fOff;rw [decide_eq_true hb]
   unfold DS.flush
   rcases stp (fOff D i.off) hvb with ⟨r,a,b,c⟩|⟨r,a,b⟩
   ·left
    rw [if_pos r]
    refine ⟨?_,b,c⟩
    have hd:D.done=D.co.done:=rfl
    have hh:D.hist=D.co.hist:=rfl
    have e:((D.counted 0 (fOff D i.off)).note 0 ((i.off/64:Nat):Int) (D.done (i.off/64)+(D.hist (i.off/64)).length)).co={(D.counted 0 (fOff D i.off)).co with notes:=fun k=>if k=((i.off/64:Nat):Int) then some (D.done (i.off/64)+(D.hist (i.off/64)).length) else (D.counted 0 (fOff D i.off)).co.notes k}:=by
     unfold DS.note DS.co;simp
    rw [e,a];rfl
   ·right
    rw [if_neg (by simp [r])]
    exact ⟨a,b⟩
  ·rw [if_neg h2,if_neg h2]
   unfold DS.fence
   rcases stp true rfl with ⟨r,a,b,c⟩|⟨r,a,b⟩
   ·left
    rw [if_pos r]
    refine ⟨?_,b,c⟩
    have hdu:D.due 0=D.co.due:=by funext l;rfl
    have e:(((D.counted 0 true).parts (D.due 0)).clr 0).co=⟨(D.counted 0 true).co.cur,fun x=>applyH (((D.counted 0 true).co.hist (x/8)).take (D.due 0 (x/8))) (D.counted 0 true).co.pers x,fun l=>(D.counted 0 true).co.done l+D.due 0 l,fun l=>((D.counted 0 true).co.hist l).drop (D.due 0 l),fun _=>none⟩:=by
     unfold DS.clr DS.parts DS.co;simp
    rw [e,a,hdu];rfl
   ·right
    rw [if_neg (by simp [r])]
    exact ⟨a,b⟩
theorem run_off (p:List Ins):∀(D:DS),D.off=true→(∀i∈p,vIns D.n i)→(D.run 0 p).co=D.co∧(D.run 0 p).off=true:=by
 induction p with
 |nil=>intro D h _;exact ⟨rfl,h⟩
 |cons i p ih=>
  intro D h hv
  rw [run_cons]
  rcases exec_co D i (hv i (by simp)) with ⟨_,_,c⟩|⟨a,b⟩
  ·rw [h] at c;cases c
  ·have:=ih (D.exec 0 i) b (fun j hj=>by rw [exec_n];exact hv j (by simp [hj]))
   exact ⟨this.1.trans a,this.2⟩
theorem run_co (p:List Ins):∀(D:DS),D.off=false→(∀i∈p,vIns D.n i)→∃m,m≤p.length∧(D.run 0 p).co=D.co.run (p.take m)∧(m<p.length→(D.run 0 p).off=true):=by
 induction p with
 |nil=>intro D h _;exact ⟨0,by simp,rfl,fun h=>by simp at h⟩
 |cons i p ih=>
  intro D h hv
  rw [run_cons]
  have hv2:∀j∈p,vIns (D.exec 0 i).n j:=fun j hj=>by rw [exec_n];exact hv j (by simp [hj])
  rcases exec_co D i (hv i (by simp)) with ⟨a,b,_⟩|⟨a,b⟩
  ·obtain ⟨m,hm,h1,h2⟩:=ih (D.exec 0 i) (by rw [b];exact h) hv2
   refine ⟨m+1,by simp;omega,?_,fun hl=>h2 (by simp at hl;omega)⟩
   rw [h1,a];rfl
  ·have:=run_off p (D.exec 0 i) b hv2
   exact ⟨0,by simp,this.1.trans a,fun _=>this.2⟩
theorem corun_append (C:Co) (p q:List Ins):C.run (p++q)=(C.run p).run q:=by simp [Co.run,List.foldl_append]
theorem corun_cons (C:Co) (i:Ins) (p:List Ins):C.run (i::p)=(C.ex i).run p:=rfl
structure Cln (C:Co):Prop where
 hist:∀l,C.hist l= []
 notes:C.notes=fun _=>none
 pers:∀x,C.pers x=C.cur x
def J1 (C:Co):Prop:=∀x,C.cur x=applyH (C.hist (x/8)) C.pers x
theorem Cln.j1 {C:Co} (h:Cln C):J1 C:=fun x=>by rw [h.hist];exact (h.pers x).symm
theorem applyH_app (a b:List (Nat×Nat)) (f:Nat→Nat):applyH (a++b) f=applyH b (applyH a f):=by unfold applyH;rw [List.foldl_append]
theorem J1.st {C:Co} (h:J1 C) (off v:Nat):J1 (C.st off v):=by
 intro x
 unfold Co.st
 simp only
 by_cases e:x/8=off/64
 ·rw [if_pos e,applyH_app]
  show _=if x=off/8 then v else applyH (C.hist (off/64)) C.pers x
  by_cases e2:x=off/8
  ·rw [if_pos e2,if_pos e2]
  ·rw [if_neg e2,if_neg e2,h x,e]
 ·rw [if_neg e,if_neg (by omega)]
  exact h x
theorem J1.fe {C:Co} (h:J1 C) (hd:∀l,(C.hist l).length≤C.due l):Cln C.fe∧C.fe.cur=C.cur:=by
 refine ⟨⟨fun l=>List.drop_eq_nil_of_le (hd l),rfl,fun x=> ?_⟩,rfl⟩
 show applyH ((C.hist (x/8)).take (C.due (x/8))) C.pers x=C.cur x
 rw [List.take_of_length_le (hd _)]
 exact (h x).symm
theorem run_wr (ws:List (Nat×Nat)):∀(C:Co),J1 C→J1 (C.run (ws.map wrI))∧(C.run (ws.map wrI)).cur=applyH ws C.cur∧(C.run (ws.map wrI)).notes=C.notes∧(C.run (ws.map wrI)).done=C.done∧∀l,(C.run (ws.map wrI)).hist l≠ []→C.hist l≠ []∨∃x∈ws,x.1/64=l:=by
 induction ws with
 |nil=>intro C h;exact ⟨h,rfl,rfl,rfl,fun l hl=> .inl hl⟩
 |cons x ws ih=>
  intro C h
  rw [List.map_cons,corun_cons]
  have e:C.ex (wrI x)=C.st x.1 x.2:=rfl
  rw [e]
  obtain ⟨a,b,c,d,f⟩:=ih (C.st x.1 x.2) (h.st _ _)
  refine ⟨a,by rw [b,applyH_cons];rfl,c,d,fun l hl=> ?_⟩
  rcases f l hl with h1|⟨y,hy,h1⟩
  ·by_cases e2:l=x.1/64
   ·exact .inr ⟨x,by simp,e2.symm⟩
   ·left
    unfold Co.st at h1
    simp only [if_neg e2] at h1
    exact h1
  ·exact .inr ⟨y,by simp [hy],h1⟩
theorem run_fl (ls:List Nat):∀(C:Co),J1 C→J1 (C.run (ls.map flI))∧(C.run (ls.map flI)).cur=C.cur∧(C.run (ls.map flI)).hist=C.hist∧(C.run (ls.map flI)).done=C.done∧(∀x∈ls,(C.run (ls.map flI)).notes ((x/64:Nat):Int)=some (C.done (x/64)+(C.hist (x/64)).length))∧∀l p,C.notes l=some p→(∃k:Nat,l=(k:Int)∧p=C.done k+(C.hist k).length)→(C.run (ls.map flI)).notes l=some p:=by
 induction ls with
 |nil=>intro C h;exact ⟨h,rfl,rfl,rfl,fun x hx=>(by cases hx),fun l p hp _=>hp⟩
 |cons x ls ih=>
  intro C h
  rw [List.map_cons,corun_cons]
  have e:C.ex (flI x)=C.fl x:=rfl
  rw [e]
  obtain ⟨a,b,c,d,f,g⟩:=ih (C.fl x) h
  have hn:(C.fl x).notes ((x/64:Nat):Int)=some (C.done (x/64)+(C.hist (x/64)).length):=by unfold Co.fl;simp
  refine ⟨a,b,c,d,fun y hy=> ?_,fun l p hp hk=> ?_⟩
  ·rcases List.mem_cons.1 hy with rfl|hy
   ·exact g _ _ hn ⟨y/64,rfl,rfl⟩
   ·exact f y hy
  ·refine g l p ?_ hk
   unfold Co.fl
   simp only
   by_cases e2:l=((x/64:Nat):Int)
   ·rw [if_pos e2]
    obtain ⟨k,hk1,hk2⟩:=hk
    have:k=x/64:=by omega
    subst this;rw [hk2]
   ·rw [if_neg e2];exact hp
theorem kpN_all (d:Array Nat):∀n,n≤d.size→∀i,i<n→d[i]!∈kpN d n:=by
 intro n
 induction n with
 |zero=>intro _ i hi;omega
 |succ n ih=>
  intro hn i hi
  simp only [kpN,List.mem_append]
  by_cases e:i=n
  ·subst e
   by_cases h:i=0∨d[i]!≠d[i-1]!
   ·right;rw [if_pos h];simp
   ·left
    have h1:i≠0:=fun e=>h (.inl e)
    have h2:d[i]! =d[i-1]! :=Classical.byContradiction (fun e=>h (.inr e))
    rw [h2]
    exact ih (by omega) (i-1) (by omega)
  ·exact .inl (ih (by omega) i (by omega))
theorem cmpN_all {l:List Nat} {x:Nat} (h:x∈l):x∈cmpN l:=by
 obtain ⟨i,hi,rfl⟩:=List.mem_iff_getElem.1 h
 have:=kpN_all l.toArray l.length (by simp) i hi
 rw [getElem!_pos l.toArray i (by simpa using hi)] at this
 unfold cmpN
 simpa using this
theorem storesI_all {ws:List (Nat×Nat)} {x:Nat×Nat} (h:x∈ws):lineS x.1∈cmpN (srtN (ws.map fun x=>lineS x.1)):=
 cmpN_all ((srtN_perm _).mem_iff.2 (List.mem_map.2 ⟨x,h,rfl⟩))
def QA (C:Co) (a X:Nat):Prop:=C.pers a=X∧∀l,∀x∈C.hist l,x.1/8≠a
theorem QA.ex {C:Co} {a X:Nat} (h:QA C a X) (i:Ins) (hi:i.op=1→i.off/8≠a):QA (C.ex i) a X:=by
 unfold Co.ex
 split
 ·rename_i h1
  refine ⟨h.1,fun l x hx=> ?_⟩
  unfold Co.st at hx
  simp only at hx
  split at hx
  ·rcases List.mem_append.1 hx with hx|hx
   ·exact h.2 _ x hx
   ·simp only [List.mem_singleton] at hx;subst hx;exact hi h1
  ·exact h.2 l x hx
 ·split
  ·exact h
  ·refine ⟨?_,fun l x hx=>h.2 l x (List.mem_of_mem_drop hx)⟩
   show applyH _ C.pers a=X
   rw [applyH_other _ _ _ (fun y hy=>h.2 _ y (List.mem_of_mem_take hy))];exact h.1
theorem QA.run {a X:Nat} (p:List Ins):∀{C:Co},QA C a X→(∀i∈p,i.op=1→i.off/8≠a)→QA (C.run p) a X:=by
 induction p with
 |nil=>intro C h _;exact h
 |cons i p ih=>
  intro C h hi
  rw [corun_cons]
  exact ih (h.ex i (hi i (by simp))) (fun j hj=>hi j (by simp [hj]))
def RQ (C:Co) (a X H:Nat) (G:Nat→Nat):Prop:=(∀j,j≠a→C.pers j=G j)∧(C.pers a=X∨C.pers a=H)∧∀l,∀x∈C.hist l,x.1/8=a∧x.2=H
theorem app_one {a H:Nat}:∀(ws:List (Nat×Nat)),(∀x∈ws,x.1/8=a∧x.2=H)→∀(f:Nat→Nat),applyH ws f a=f a∨applyH ws f a=H:=by
 intro ws
 induction ws with
 |nil=>intro _ f;exact .inl rfl
 |cons x ws ih=>
  intro h f
  rw [applyH_cons]
  have hx:=h x (by simp)
  rcases ih (fun y hy=>h y (by simp [hy])) (fun j=>if j=x.1/8 then x.2 else f j) with h1|h1
  ·rw [h1]
   rw [if_pos hx.1.symm]
   exact .inr hx.2
  ·exact .inr h1
theorem RQ.ex {C:Co} {a X H:Nat} {G:Nat→Nat} (h:RQ C a X H G) (i:Ins) (hi:i.op=1→i.off/8=a∧i.val=H):RQ (C.ex i) a X H G:=by
 unfold Co.ex
 split
 ·rename_i h1
  refine ⟨h.1,h.2.1,fun l x hx=> ?_⟩
  unfold Co.st at hx
  simp only at hx
  split at hx
  ·rcases List.mem_append.1 hx with hx|hx
   ·exact h.2.2 _ x hx
   ·simp only [List.mem_singleton] at hx;subst hx;exact hi h1
  ·exact h.2.2 l x hx
 ·split
  ·exact h
  ·refine ⟨fun j hj=> ?_,?_,fun l x hx=>h.2.2 l x (List.mem_of_mem_drop hx)⟩
   ·show applyH _ C.pers j=G j
    rw [applyH_other _ _ _ (fun y hy e=>hj (by rw [←e];exact (h.2.2 _ y (List.mem_of_mem_take hy)).1))];exact h.1 j hj
   ·show applyH _ C.pers a=X∨applyH _ C.pers a=H
    rcases app_one ((C.hist (a/8)).take (C.due (a/8))) (fun x hx=>h.2.2 _ x (List.mem_of_mem_take hx)) C.pers with h1|h1
    ·rw [h1];exact h.2.1
    ·exact .inr h1
theorem RQ.run {a X H:Nat} {G:Nat→Nat} (p:List Ins):∀{C:Co},RQ C a X H G→(∀i∈p,i.op=1→i.off/8=a∧i.val=H)→RQ (C.run p) a X H G:=by
 induction p with
 |nil=>intro C h _;exact h
 |cons i p ih=>
  intro C h hi
  rw [corun_cons]
  exact ih (h.ex i (hi i (by simp))) (fun j hj=>hi j (by simp [hj]))
section
variable {D:DS} {l g n:Nat} {c o:Int}
theorem planW_at (c0:0≤c) (c5:c<5) (f:Nat→Nat):(∀j,j≠0→j<8→applyH (planW l c g) f (l*8+j)=0)∧∀i:Nat,(i:Int)<perS c→applyH (planW l c g) f (l*8+offN c i)=sealN (blkX g 0 176):=by
 have hp:=perS_in c0 c5
 have hA:∀j,∀y∈planW l c g,y.1/8=l*8+j→(8≤j∧y.2=sealN (blkX g 0 176))∨(j<8∧y.2=0):=by
  intro j y hy hyj
  rcases List.mem_append.1 hy with hy|hy
  ·obtain ⟨i,hi,rfl⟩:=List.mem_map.1 hy
   rw [List.mem_range] at hi
   have hb2:=offS_bd c0 c5 (show 0≤(i:Int) by omega) (by omega)
   left
   simp only at hyj
   exact ⟨by omega,rfl⟩
  ·obtain ⟨i,hi,rfl⟩:=List.mem_map.1 hy
   rw [List.mem_range] at hi
   right
   simp only at hyj
   exact ⟨by omega,rfl⟩
 constructor
 ·intro j h0 h8
  refine applyH_val (fun y hy hyj=> ?_) (.inl ⟨(l*64+(j-1+1)*8,0),List.mem_append_right _ (List.mem_map.2 ⟨j-1,List.mem_range.2 (by omega),rfl⟩),by simp only;omega⟩)
  rcases hA j y hy hyj with h|h
  ·omega
  ·exact h.2
 ·intro i hi
  have bd:=offN_bd c0 c5 hi
  refine applyH_val (fun y hy hyj=> ?_) (.inl ⟨_,List.mem_append_left _ (List.mem_map.2 ⟨i,List.mem_range.2 (by omega),rfl⟩),?_⟩)
  ·rcases hA _ y hy hyj with h|h
   ·exact h.2
   ·omega
  ·simp only;omega
theorem cln_zero (n:Nat):Cln (DS.zero n).co:=⟨fun _=>rfl,rfl,fun _=>rfl⟩
end
section
variable {D D':DS} {l k g:Nat} {c o:Int}
theorem alF_of:∀{n:Nat},(∀i,i<n→okF D l c i=true)→alF D l c n=true:=by
 intro n
 induction n with
 |zero=>intro _;rfl
 |succ n ih=>intro h;simp only [alF,ih (fun i hi=>h i (by omega)),h n (by omega)];rfl
theorem alF_ok {n:Nat} (h:alF D l c n=true) (i:Nat) (hi:i<n):okF D l c i=true:=by
 cases hh:okF D l c i with
 |true=>rfl
 |false=>rw [alF_no hi hh] at h;cases h
theorem mxG_le:∀(n i:Nat),i<n→bG (wd D l (offN c i))≤mxG D l c n:=by
 intro n
 induction n with
 |zero=>intro i hi;omega
 |succ n ih=>
  intro i hi
  simp only [mxG]
  by_cases e:i=n
  ·subst e;split<;>omega
  ·have:=ih i (by omega)
   split<;>omega
theorem mxG_lt:∀(n:Nat),mxG D l c n<65536:=by
 intro n
 induction n with
 |zero=>simp [mxG]
 |succ n ih=>
  simp only [mxG]
  have:=bG_lt (wd D l (offN c n))
  split<;>omega
theorem okF_parts {i:Nat} (h:okF D l c i=true):bS (wd D l (offN c i))=176∧bG (wd D l (offN c i))≠0:=by
 unfold okF at h
 simp only [Bool.and_eq_true,decide_eq_true_eq,Bool.not_eq_true',decide_eq_false_iff_not] at h
 exact ⟨h.2.2.1,h.2.2.2⟩
theorem mxG_ne {n:Nat} (h:alF D l c n=true) (h0:0<n):mxG D l c n≠0:=by
 have h1:=(okF_parts (alF_ok h 0 h0)).2
 have h2:=mxG_le (D:=D) (l:=l) (c:=c) n 0 h0
 omega
theorem okF_congr {D':DS} (h:∀j,j<256→wd D' l j=wd D l j) (c0:0≤c) (c5:c<5) {i:Nat} (hi:(i:Int)<perS c):okF D' l c i=okF D l c i:=by
 unfold okF
 rw [h _ (offN_bd c0 c5 hi).2.2,h 1 (by omega)]
theorem alF_congr {D':DS} (h:∀j,j<256→wd D' l j=wd D l j) (c0:0≤c) (c5:c<5):∀n:Nat,(n:Int)≤perS c→alF D' l c n=alF D l c n∧mxG D' l c n=mxG D l c n
 |0,_=>⟨rfl,rfl⟩
 |n+1,hn=>by
  obtain ⟨h1,h2⟩:=alF_congr h c0 c5 n (by omega)
  refine ⟨?_,?_⟩
  ·simp only [alF];rw [h1,okF_congr h c0 c5 (by omega)]
  ·simp only [mxG];rw [h2,h _ (offN_bd c0 c5 (by omega)).2.2]
def OE (D:DS):Prop:=D.off=true→D.err 0≠0
theorem fail_ne (D:DS) (e:Int) (he:e≠0):(D.fail 0 e).err 0≠0:=by
 unfold DS.fail
 split
 ·simpa using he
 ·assumption
theorem counted_oe (h:OE D) (b:Bool):OE (D.counted 0 b):=by
 unfold DS.counted
 intro ho
 split
 ·exact fail_ne _ _ (by omega)
 ·rename_i h1
  have h1:D.off=false:=by simpa using h1
  split
  ·exact fail_ne _ _ (by omega)
  ·split
   ·split
    ·exact fail_ne _ _ (by omega)
    ·rename_i h2 h3 h4
     rw [if_neg (by simp [h1]),if_neg h2,if_pos h3,if_neg h4] at ho
     rw [show ({D with left:=D.left-1,exe:=D.exe+1}:DS).off=D.off from rfl,h1] at ho;cases ho
   ·rename_i h2 h3
    rw [if_neg (by simp [h1]),if_neg h2,if_neg h3] at ho
    rw [show ({D with exe:=D.exe+1}:DS).off=D.off from rfl,h1] at ho;cases ho
theorem exec_oe (h:OE D) (i:Ins):OE (D.exec 0 i):=by
 unfold DS.exec
 split
 ·unfold DS.store
  split
  ·exact fun ho=>counted_oe h _ ho
  ·exact counted_oe h _
 ·split
  ·unfold DS.flush
   split
   ·exact fun ho=>counted_oe h _ ho
   ·exact counted_oe h _
  ·unfold DS.fence
   split
   ·exact fun ho=>counted_oe h _ ho
   ·exact counted_oe h _
theorem run_oe:∀(p:List Ins) (D:DS),OE D→OE (D.run 0 p)
 | [],D,h=>h
 |i::p,D,h=>by rw [run_cons];exact run_oe p _ (exec_oe h i)
theorem On.oe (h:On D):OE D:=fun ho=>by rw [h.off] at ho;cases ho
theorem plan_len (l:Nat) (c0:0≤c) (c5:c<5) (o:Int) (g:Nat):(planI l c o g).length≤200:=by
 have hp:=perS_in c0 c5
 have h4:=storesI_le (planW l c g)
 have h5:=storesI_le [(l*64,sealN (hdX c o g))]
 have h6:=planW_len l c g
 have h7:(planI l c o g).length=(storesI (planW l c g)).length+(storesI [(l*64,sealN (hdX c o g))]).length:=by unfold planI;rw [List.length_append]
 simp only [List.length_singleton] at h5
 omega
theorem vIns_stores {n:Nat} {ws:List (Nat×Nat)} (h:∀x∈ws,x.1%8=0∧x.1<n*64):∀i∈storesI ws,vIns n i:=by
 intro i hi
 unfold storesI at hi
 simp only [List.mem_append,List.mem_map,List.mem_singleton] at hi
 rcases hi with (⟨x,hx,rfl⟩|⟨x,hx,rfl⟩)|rfl
 ·exact ⟨fun _=>h x hx,fun h2=>by simp [wrI] at h2⟩
 ·obtain ⟨y,hy,rfl⟩:=storesI_line hx
  have:=h y hy
  refine ⟨fun h1=>by simp [flI] at h1,fun _=> ?_⟩
  show lineS y.1<n*64
  unfold lineS;omega
 ·exact ⟨fun h1=>by simp at h1,fun h2=>by simp at h2⟩
theorem co_run_wr:∀(ws:List (Nat×Nat)) (C:Co),(C.run (ws.map wrI)).cur=applyH ws C.cur
 | [],C=>rfl
 |x::ws,C=>by
  rw [List.map_cons,corun_cons,co_run_wr ws]
  rfl
theorem co_run_fl:∀(ls:List Nat) (C:Co),(C.run (ls.map flI)).cur=C.cur
 | [],C=>rfl
 |x::ls,C=>by
  rw [List.map_cons,corun_cons,co_run_fl ls]
  rfl
theorem co_run_stores (ws:List (Nat×Nat)) (C:Co):(C.run (storesI ws)).cur=applyH ws C.cur:=by
 unfold storesI
 rw [corun_append,corun_append]
 show ((C.run (ws.map wrI)).run _).cur=_
 rw [co_run_fl,co_run_wr]
theorem run_all {p:List Ins} (ho:D.off=false) (he:D.err 0=0) (hv:∀i∈p,vIns D.n i) (h:(D.run 0 p).err 0=0):(D.run 0 p).co=D.co.run p∧(D.run 0 p).off=false:=by
 have oe:OE (D.run 0 p):=run_oe p D (fun h=>by rw [ho] at h;cases h)
 have hoff:(D.run 0 p).off=false:=by
  cases hh:(D.run 0 p).off with
  |false=>rfl
  |true=>exact absurd h (oe hh)
 obtain ⟨m,hm,hc,hi⟩:=run_co p D ho hv
 have:m=p.length:=by
  rcases Nat.lt_or_ge m p.length with h1|h1
  ·rw [hi h1] at hoff;cases hoff
  ·omega
 subst this
 rw [List.take_length] at hc
 exact ⟨hc,hoff⟩
theorem vIns_clr {n:Nat} (hl:l+32≤n) (g:Nat):∀i∈clrI l g,vIns n i:=vIns_stores (fun x hx=>by simp only [List.mem_singleton] at hx;subst hx;simp only;omega)
theorem planW_in {n:Nat} (hl:l+32≤n) (c0:0≤c) (c5:c<5) (g:Nat):∀x∈planW l c g,x.1%8=0∧x.1<n*64∧l*64≤x.1∧x.1<l*64+2048:=by
 have hp:=perS_in c0 c5
 intro x hx
 rcases List.mem_append.1 hx with hx|hx
 ·obtain ⟨j,hj,rfl⟩:=List.mem_map.1 hx
  have hb2:=offS_bd c0 c5 (show 0≤(j:Int) by omega) (by rw [List.mem_range] at hj;omega)
  have hw:=wordsS_in c0 c5
  simp only;omega
 ·obtain ⟨j,hj,rfl⟩:=List.mem_map.1 hx
  rw [List.mem_range] at hj
  simp only;omega
theorem vIns_plan {n:Nat} (hl:l+32≤n) (c0:0≤c) (c5:c<5) (o:Int) (g:Nat):∀i∈planI l c o g,vIns n i:=by
 intro i hi
 unfold planI at hi
 rcases List.mem_append.1 hi with hi|hi
 ·exact vIns_stores (fun x hx=>⟨(planW_in hl c0 c5 g x hx).1,(planW_in hl c0 c5 g x hx).2.1⟩) i hi
 ·exact vIns_stores (fun x hx=>by simp only [List.mem_singleton] at hx;subst hx;simp only;omega) i hi
theorem clr_cur (ho:D.off=false) (he:D.err 0=0) (hl:l+32≤D.n) (h:(D.run 0 (clrI l g)).err 0=0):(D.run 0 (clrI l g)).cur=(fun j=>if j=l*8 then sealN (hdX (-1) (-1) g) else D.cur j)∧(D.run 0 (clrI l g)).off=false:=by
 obtain ⟨h1,h2⟩:=run_all ho he (vIns_clr hl g) h
 refine ⟨?_,h2⟩
 have e:(D.run 0 (clrI l g)).cur=(D.co.run (clrI l g)).cur:=by rw [←h1];rfl
 rw [e]
 unfold clrI
 rw [co_run_stores]
 funext j
 show (if j=l*64/8 then _ else D.cur j)=_
 rw [show l*64/8=l*8 by omega]
def planF (c o:Int) (g:Nat) (W:Nat→Nat) (j:Nat):Nat:=if j=0 then sealN (hdX c o g) else if isB c j=true then sealN (blkX g 0 176) else if j<8 then 0 else W j
theorem isB_mem {j:Nat}:isB c j=true↔∃i,i<(perS c).toNat∧offN c i=j:=by
 unfold isB
 rw [List.any_eq_true]
 constructor
 ·intro ⟨i,h1,h2⟩;exact ⟨i,List.mem_range.1 h1,by simpa using h2⟩
 ·intro ⟨i,h1,h2⟩;exact ⟨i,List.mem_range.2 h1,by simpa using h2⟩
theorem plan_app (c0:0≤c) (c5:c<5) (f:Nat→Nat) (j:Nat):applyH [(l*64,sealN (hdX c o g))] (applyH (planW l c g) f) j=if l*8≤j∧j<l*8+256 then planF c o g (fun i=>f (l*8+i)) (j-l*8) else f j:=by
 have hp:=perS_in c0 c5
 have hw:=planW_at (l:=l) (g:=g) c0 c5 f
 have h1:∀f:Nat→Nat,applyH [(l*64,sealN (hdX c o g))] f j=if j=l*8 then sealN (hdX c o g) else f j:=fun f=>by
  show (if j=l*64/8 then _ else f j)=_
  rw [show l*64/8=l*8 by omega]
 rw [h1]
 by_cases hin:l*8≤j∧j<l*8+256
 ·rw [if_pos hin]
  obtain ⟨i,rfl⟩:∃i,j=l*8+i:=⟨j-l*8,by omega⟩
  rw [show l*8+i-l*8=i by omega]
  unfold planF
  by_cases h0:i=0
  ·subst h0;rw [if_pos (by omega),if_pos rfl]
  ·rw [if_neg (by omega),if_neg h0]
   by_cases hb:isB c i=true
   ·rw [if_pos hb]
    obtain ⟨q,h2,h3⟩:=isB_mem.1 hb
    rw [←h3]
    exact hw.2 q (by omega)
   ·rw [if_neg hb]
    by_cases h8:i<8
    ·rw [if_pos h8];exact hw.1 i h0 h8
    ·rw [if_neg h8]
     refine applyH_other _ _ _ (fun y hy=> ?_)
     rcases List.mem_append.1 hy with hy|hy
     ·obtain ⟨q,hq,rfl⟩:=List.mem_map.1 hy
      rw [List.mem_range] at hq
      have hb2:=offN_bd c0 c5 (show (q:Int)<perS c by omega)
      intro e
      apply hb
      refine isB_mem.2 ⟨q,hq,?_⟩
      unfold offN at hb2 ⊢
      simp only at e
      omega
     ·obtain ⟨q,hq,rfl⟩:=List.mem_map.1 hy
      rw [List.mem_range] at hq
      simp only;omega
 ·rw [if_neg hin,if_neg (by omega)]
  refine applyH_other _ _ _ (fun y hy=> ?_)
  rcases List.mem_append.1 hy with hy|hy
  ·obtain ⟨q,hq,rfl⟩:=List.mem_map.1 hy
   rw [List.mem_range] at hq
   have hb2:=offN_bd c0 c5 (show (q:Int)<perS c by omega)
   unfold offN at hb2
   simp only;omega
  ·obtain ⟨q,hq,rfl⟩:=List.mem_map.1 hy
   rw [List.mem_range] at hq
   simp only;omega
theorem plan_cur (ho:D.off=false) (he:D.err 0=0) (hl:l+32≤D.n) (c0:0≤c) (c5:c<5) (h:(D.run 0 (planI l c o g)).err 0=0):(D.run 0 (planI l c o g)).cur=(fun j=>if l*8≤j∧j<l*8+256 then planF c o g (wd D l) (j-l*8) else D.cur j)∧(D.run 0 (planI l c o g)).off=false:=by
 obtain ⟨h1,h2⟩:=run_all ho he (vIns_plan hl c0 c5 o g) h
 refine ⟨?_,h2⟩
 have e:(D.run 0 (planI l c o g)).cur=(D.co.run (planI l c o g)).cur:=by rw [←h1];rfl
 rw [e]
 unfold planI
 rw [corun_append,co_run_stores,co_run_stores]
 funext j
 have e1:wd D l=fun i=>D.cur (l*8+i):=by funext i;unfold wd;rfl
 rw [e1]
 exact plan_app (l:=l) (o:=o) (g:=g) c0 c5 D.cur j
end
theorem SlO.updZ {w:World} {t:TypeId} {z b o n cap:Nat} {L:List Value} (h:SlO w t z (.slice (some ⟨b,o,none⟩) n cap) n L) {i:Nat} (u:Value) (hi:i<n*z):SlO (w.setCell ⟨b,o+i,none⟩ u) t z (.slice (some ⟨b,o,none⟩) n cap) n (L.set i u):=by
 obtain ⟨hl,h|⟨b',o',cap',a,hv,hh,hnc,hcm,hsz,hg⟩⟩:=h
 ·cases h.1
 ·injection hv with hv h2 h3
  injection hv with hv
  injection hv with h4 h5 _
  subst h4;subst h5;subst h3
  have hm:=Nat.mul_le_mul_right z hnc
  have hC:Cells w b t a.size (fun j=>(a[j]?).getD undef):=⟨a,hh,Nat.le_refl _,fun j hj=>by simp only [Array.getElem?_eq_getElem hj,Option.getD_some]⟩
  have hC2:=hC.set (i:=o+i) u (by omega)
  obtain ⟨a',hh',hs',hg'⟩:=hC2
  refine ⟨by rw [List.length_set];exact hl,.inr ⟨b,o,cap,a',rfl,hh',hnc,hcm,by omega,fun j x hj=> ?_⟩⟩
  have hjn:j<n*z:=by
   have:=(List.getElem?_eq_some_iff.1 hj).1
   rw [List.length_set] at this;omega
  rw [hg' (o+j) (by omega)]
  simp only
  rw [List.getElem?_set] at hj
  by_cases e:i=j
  ·subst e
   rw [if_pos rfl,if_pos (by omega)] at hj
   rw [if_pos rfl];exact hj
  ·rw [if_neg e] at hj
   rw [if_neg (by omega),hg j x hj,Option.getD_some]
def AgF (D:DS) (l0 n:Nat) (f:Nat→Int×Int×Bool):Prop:=∀k,k<n→hdOk (wd D (l0+32*k) 0)=true∧(f k).1=hC (wd D (l0+32*k) 0)∧(f k).2.1=hO (wd D (l0+32*k) 0)
def emG (D:DS) (l0:Nat) (f:Nat→Int×Int×Bool) (k:Nat):Option Nat:=if (f k).1<0 then none else if (f k).2.2=true then none else if alF D (l0+32*k) (f k).1 (perS (f k).1).toNat=true then some (mxG D (l0+32*k) (f k).1 (perS (f k).1).toNat) else none
theorem hd_cls {x:Nat} (h:hdOk x=true):hC x<5∧(0≤hC x→gX x≠0)∧gX x≠0∧-1≤hC x:=by
 simp only [hdOk,Bool.and_eq_true,Bool.not_eq_true',decide_eq_false_iff_not,Bool.or_eq_true,decide_eq_true_eq] at h
 obtain ⟨⟨⟨h1,h2⟩,h3⟩,h4⟩:=h
 have h5: -1≤hC x:=by unfold hC;omega
 refine ⟨?_,fun _=>h3,h3,h5⟩
 rcases h4 with ⟨a,_⟩|h4
 ·omega
 ·simp only [fmtB,Bool.and_eq_true,decide_eq_true_eq] at h4
  omega
structure AStp (w:World) (Y:Lay) (b:Nat) (w':World) (Y':Lay):Prop where
 tb:Y'.tb=Y.tb
 d:Y'.d=Y.d
 frm:Frm (fun x=>Y.F x∨x=b) w w'
 fr:∀x,Y'.F x→Y.F x∨w.heap.size≤x
section
variable {w0 w w' w'':World} {Y Y' Y'':Lay} {D D':DS} {S b o cp l0 n k:Nat} {f f':Nat→Int×Int×Bool}
theorem AStp.of_ext (Y:Lay) (b:Nat) (e:Ext w w'):AStp w Y b w' Y:=⟨rfl,rfl,Frm.of_ext e,fun x hx=> .inl hx⟩
theorem AStp.of_stp (b:Nat) (s:Stp w Y w' Y' D'):AStp w Y b w' Y':=⟨s.tb,s.d,s.frm.mono (fun x hx=> .inl hx),s.fr⟩
theorem AStp.trans (h:AStp w Y b w' Y') (k:AStp w' Y' b w'' Y''):AStp w Y b w'' Y'' where
 tb:=k.tb.trans h.tb
 d:=k.d.trans h.d
 frm:=h.frm.trans k.frm (fun x hx hf=>by
  rcases hf with hf|hf
  ·rcases h.fr x hf with h1|h1
   ·exact .inl h1
   ·omega
  ·exact .inr hf)
 fr x hx:=by
  rcases k.fr x hx with h1|h1
  ·exact h.fr x h1
  ·exact .inr (Nat.le_trans h.frm.size h1)
theorem AStp.set (h:AStp w Y b w' Y') (i:Nat) (v:Value):AStp w Y b (w'.setCell ⟨b,i,none⟩ v) Y':=⟨h.tb,h.d,h.frm.set _ (fun _=> .inr rfl),h.fr⟩
theorem ArS.emG_ok (h:ArS w0 w Y D S b o cp l0 n f) (ag:AgF D l0 n f) (hk:k<n) {g:Nat} (he:emG D l0 f k=some g):0≤(f k).1∧(f k).1<5∧(f k).2.2=false∧g≠0∧g<65536:=by
 have ha:=ag k hk
 have hc:=hd_cls ha.1
 rw [←ha.2.1] at hc
 unfold emG at he
 by_cases h1:(f k).1<0
 ·rw [if_pos h1] at he;cases he
 ·rw [if_neg h1] at he
  by_cases h2:(f k).2.2=true
  ·rw [if_pos h2] at he;cases he
  ·rw [if_neg h2] at he
   have hp:=perS_in (show 0≤(f k).1 by omega) hc.1
   split at he
   ·rename_i h3
    injection he with he
    subst he
    exact ⟨by omega,hc.1,by simpa using h2,mxG_ne h3 (by omega),mxG_lt _⟩
   ·cases he
theorem ArS.wr (h:ArS w0 w Y D S b o cp l0 n f) {i:Nat} {v:Value} (hi:i<n*4) (hL:(plL f l0 n).set i v=plL f' l0 n):ArS w0 (w.setCell ⟨b,o+i,none⟩ v) Y D S b o cp l0 n f':=by
 have hf:=Frm.one w b (o+i) v
 have h1:=SlO.updZ h.pl v hi
 rw [hL] at h1
 exact ⟨⟨h.L.dv.frm hf (fun x hx hg=>h.nb.2 (hg▸hx)),h.L.gd,Ext.frm h.L.ex hf (fun x hx=>hx▸h.nb.1),h.L.nw⟩,h.gl,h.st.set_ne _ h.nS.2.2,h1,h.nS,h.nb,h.n0,h.lt⟩
theorem cells5C {b t:Nat} {f:Nat→Value} (h:Cells w b t 5 f) (v0 v1 v2 v3 v4:Value):Cells (((((w.setCell ⟨b,0,none⟩ v0).setCell ⟨b,1,none⟩ v1).setCell ⟨b,2,none⟩ v2).setCell ⟨b,3,none⟩ v3).setCell ⟨b,4,none⟩ v4) b t 5 (fun i=> [v0,v1,v2,v3,v4].getD i undef):=by
 have h3:=((((h.set v0 (i:=0) (by omega)).set v1 (i:=1) (by omega)).set v2 (i:=2) (by omega)).set v3 (i:=3) (by omega)).set v4 (i:=4) (by omega)
 refine h3.congr (fun i hi=> ?_)
 rcases i with _|_|_|_|_|i
 ·rfl
 ·rfl
 ·rfl
 ·rfl
 ·rfl
 ·omega
theorem cells3C {b t:Nat} {f:Nat→Value} (h:Cells w b t 3 f) (v0 v1 v2:Value):Cells (((w.setCell ⟨b,0,none⟩ v0).setCell ⟨b,1,none⟩ v1).setCell ⟨b,2,none⟩ v2) b t 3 (fun i=> [v0,v1,v2].getD i undef):=by
 have h3:=((h.set v0 (i:=0) (by omega)).set v1 (i:=1) (by omega)).set v2 (i:=2) (by omega)
 refine h3.congr (fun i hi=> ?_)
 rcases i with _|_|_|i
 ·rfl
 ·rfl
 ·rfl
 ·omega
theorem cl_k1 (h:ArS w0 w Y D S b o cp l0 n f) (hk:k<n) (ho:D.off=false) (he:D.err 0=0) (c0:0≤(f k).1) (c5:(f k).1<5) {N:Nat} {oo:Int} {gg:Nat} (hN:Cells w N 121 5 (chF (Y.tb 0) (l0+32*k) (f k).1 oo gg)) (hh:(f k).2.2=false) (K:K1)
  (h0:emG D l0 f k=none→∀w',Ext w w'→K (.tuple #[.slice none 0 0,.bool false]) w')
  (h1:∀g,emG D l0 f k=some g→g≠0→g<65536→∀v w',Ext w w'→NewV w.heap.size v→SlO w' 110 3 v (clrI (l0+32*k) g).length (inL (clrI (l0+32*k) g))→K (.tuple #[v,.bool true]) w'):
  f38_k1 K (.pointer (some ⟨b,o+k*4,none⟩)) (.pointer (some ⟨N,0,none⟩)) (.int .i64 0) w:=by
 have hle:=h.le
 have hlt:=h.lt
 have hnn:=h.L.gd.n
 have ltb:=h.ltb
 have ltS:=h.ltS
 have hp:=perS_in c0 c5
 have hcx:Cx w Y D (l0+32*k) (f k).1:=⟨h.L.dv,h.L.gd,h.gl.ext h.L.ex,ho,by omega,c0,c5⟩
 have d0:w.cell? ⟨N,0,none⟩=some (.iface 28 (.pointer (some ⟨Y.tb 0,0,none⟩))):=hN.cell (i:=0) (by omega)
 have d1:w.cell? ⟨N,1,none⟩=some (.int .i64 ((l0+32*k:Nat):Int)):=hN.cell (i:=1) (by omega)
 have d2:w.cell? ⟨N,2,none⟩=some (.int .i64 (f k).1):=hN.cell (i:=2) (by omega)
 have d3:w.cell? ⟨N,3,none⟩=some (.int .i64 oo):=hN.cell (i:=3) (by omega)
 have d4:w.cell? ⟨N,4,none⟩=some (.int .u16 (gg:Int)):=hN.cell (i:=4) (by omega)
 have hem:emG D l0 f k=if alF D (l0+32*k) (f k).1 (perS (f k).1).toNat=true then some (mxG D (l0+32*k) (f k).1 (perS (f k).1).toNat) else none:=by
  unfold emG;rw [if_neg (by omega),if_neg (by simp [hh])]
 have hm0:alF D (l0+32*k) (f k).1 (perS (f k).1).toNat=true→mxG D (l0+32*k) (f k).1 (perS (f k).1).toNat≠0:=fun h=>mxG_ne h (by omega)
 have hml:=mxG_lt (D:=D) (l:=l0+32*k) (c:=(f k).1) (perS (f k).1).toNat
 have hNx:=fun (K:K1) hk=>k_Next hcx oo gg K hk
 have hp1:∀w',Ext w w'→w'.cell? ⟨b,o+k*4,none⟩=some (.int .i64 ((l0+32*k:Nat):Int)):=fun w' e=>((h.ext e).p hk).1
 generalize (f k).1=cc at*
 generalize mxG D (l0+32*k) cc (perS cc).toNat=mx at*
 generalize alF D (l0+32*k) cc (perS cc).toNat=al at*
 generalize emG D l0 f k=eg at*
 rw [f38_k1_eq]
 unfold f38_k1_t
 simp (disch:=first|omega|simp only [RO]|(simp only [RZ]<;>omega)|fail) only [↓RBp,↓RA,↓reduceIte,Nat.reduceAdd,Nat.reduceMul,Nat.reduceEqDiff,RB,RX,RA2,d0,d1,d2,d3,d4]
 refine hNx _ (fun w1 e1=> ?_)
 cases al with
 |false=>
  simp (disch:=first|omega|simp only [RO]|(simp only [RZ]<;>omega)|fail) only [↓RBp,↓RA,↓reduceIte,Nat.reduceAdd,Nat.reduceMul,Nat.reduceEqDiff,RB,RX,RA2]
  exact h0 (by rw [hem];rfl) _ e1
 |true=>
  have q0:=hp1 w1 e1
  rw [if_pos rfl]
  simp (disch:=first|omega|simp only [RO]|(simp only [RZ]<;>omega)|fail) only [↓RBp,↓RA,↓reduceIte,Nat.reduceAdd,Nat.reduceMul,Nat.reduceEqDiff,RB,RX,RA2,q0]
  refine k_Clear (hcx.gl.ext e1) (l0+32*k) mx (by omega) (hm0 rfl) hml _ (fun v w2 hs e2 nv=> ?_)
  simp (disch:=first|omega|simp only [RO]|(simp only [RZ]<;>omega)|fail) only [↓RBp,↓RA,↓reduceIte,Nat.reduceAdd,Nat.reduceMul,Nat.reduceEqDiff,RB,RX,RA2]
  exact h1 mx (by rw [hem];rfl) (hm0 rfl) hml v _ (e1.trans e2) (fun x hx=>Nat.le_trans e1.size (nv x hx)) hs
theorem k_clearing (h:ArS w0 w Y D S b o cp l0 n f) (ag:AgF D l0 n f) (hk:k<n) (ho:D.off=false) (he:D.err 0=0) (K:K1)
  (h0:emG D l0 f k=none→∀w',Ext w w'→K (.tuple #[.slice none 0 0,.bool false]) w')
  (h1:∀g,emG D l0 f k=some g→g≠0→g<65536→∀v w',Ext w w'→NewV w.heap.size v→SlO w' 110 3 v (clrI (l0+32*k) g).length (inL (clrI (l0+32*k) g))→K (.tuple #[v,.bool true]) w'):
  callS prog 38 #[stV S,.pointer (some ⟨b,o+k*4,none⟩)] w K:=by
 have hle:=h.le
 have hlt:=h.lt
 have hnn:=h.L.gd.n
 have ltb:=h.ltb
 have ltS:=h.ltS
 have ha:=ag k hk
 have hcl:=hd_cls ha.1
 rw [←ha.2.1] at hcl
 have ob12:=h.p hk;have q0:=ob12.1;have q1:=ob12.2.1;have q2:=ob12.2.2.1;have q3:=ob12.2.2.2
 have s0:=h.c0
 have hG:Glob w:=h.gl.ext h.L.ex
 by_cases c0:(f k).1<0
 ·have h0:=h0 (by unfold emG;rw [if_pos c0])
  generalize (f k).1=cc at*
  refine f38_call _ _ _ _ ?_
  unfold f38_t
  simp (disch:=first|omega|simp only [RO]|(simp only [RZ]<;>omega)|fail) only [↓RBp,↓RA,↓reduceIte,Nat.reduceAdd,Nat.reduceMul,Nat.reduceEqDiff,RB,RX,RA2,q1,c0]
  exact h0 _ (by repeat (first|(with_reducible first|refine eB ?_ _|assumption|exact eR _|refine eA ?_ _|refine eD ?_|refine eT ?_ (by assumption))|exact eR _))
 ·cases hh:(f k).2.2 with
  |true=>
   have h0:=h0 (by unfold emG;rw [if_neg c0,if_pos hh])
   rw [hh] at q3
   generalize (f k).1=cc at*
   refine f38_call _ _ _ _ ?_
   unfold f38_t
   simp (disch:=first|omega|simp only [RO]|(simp only [RZ]<;>omega)|fail) only [↓RBp,↓RA,↓reduceIte,Nat.reduceAdd,Nat.reduceMul,Nat.reduceEqDiff,RB,RX,RA2,q1,q3,c0]
   exact h0 _ (by repeat (first|(with_reducible first|refine eB ?_ _|assumption|exact eR _|refine eA ?_ _|refine eD ?_|refine eT ?_ (by assumption))|exact eR _))
  |false=>
   rw [hh] at q3
   have hop:∀(w1:World) (K:K1),Ext w w1→(∀w2,Ext w1 w2→K (.tuple #[chV Y (l0+32*k) (f k).1 (f k).2.1 (gX (wd D (l0+32*k) 0)),.int .i64 0]) w2)→callS prog 58 #[.iface 28 (.pointer (some ⟨Y.tb 0,0,none⟩)),.int .i64 ((l0+32*k:Nat):Int)] w1 K:=fun w1 K e1 hk2=>by
    refine k_OpenAt (h.L.dv.ext e1) h.L.gd (hG.ext e1) ho he (l0+32*k) (by omega) ha.1 K (fun w2 e2=> ?_)
    rw [if_neg (by rw [←ha.2.1];exact c0),←ha.2.1,←ha.2.2]
    exact hk2 w2 e2
   have fin:∀(w2:World) (N:Nat),Ext w w2→Cells w2 N 121 5 (chF (Y.tb 0) (l0+32*k) (f k).1 (f k).2.1 (gX (wd D (l0+32*k) 0)))→f38_k1 K (.pointer (some ⟨b,o+k*4,none⟩)) (.pointer (some ⟨N,0,none⟩)) (.int .i64 0) w2:=fun w2 N e2 hN=>
    cl_k1 (h.ext e2) hk ho he (by omega) hcl.1 hN hh K (fun hn w' e=>h0 hn w' (e2.trans e)) (fun g hg g0 g6 v w' e nv hs=>h1 g hg g0 g6 v w' (e2.trans e) (fun x hx=>Nat.le_trans e2.size (nv x hx)) hs)
   generalize (f k).1=cc at*
   generalize (f k).2.1=oo at*
   generalize gX (wd D (l0+32*k) 0)=gg at*
   refine f38_call _ _ _ _ ?_
   unfold f38_t
   (repeat' (first|(with_reducible first|refine brS_mk (fun _=> ?_) (fun _=> ?_)|refine And.intro ?_ ?_)|(simp (disch:=first|omega|simp only [RO]|(simp only [RZ]<;>omega)|fail) only [↓RBp,↓RA,↓reduceIte,Nat.reduceAdd,Nat.reduceMul,Nat.reduceEqDiff,RB,RX,RA2,q0,q1,q3,c0,s0])))
   ·refine hop _ _ (by repeat (first|(with_reducible first|refine eB ?_ _|assumption|exact eR _|refine eA ?_ _|refine eD ?_|refine eT ?_ (by assumption))|exact eR _)) (fun w1 e1=> ?_)
    have e0:Ext w w1:=Ext.trans (by repeat (first|(with_reducible first|refine eB ?_ _|assumption|exact eR _|refine eA ?_ _|refine eD ?_|refine eT ?_ (by assumption))|exact eR _)) e1
    have s0:=(h.ext e0).c0
    have ob13:=(h.ext e0).p hk;have q0:=ob13.1;have q1:=ob13.2.1;have q2:=ob13.2.2.1;have q3:=ob13.2.2.2
    have lt1:=(h.ext e0).ltb
    have lt2:=(h.ext e0).ltS
    (repeat' (first|(with_reducible first|refine brS_mk (fun _=> ?_) (fun _=> ?_)|refine And.intro ?_ ?_)|(simp (disch:=first|omega|simp only [RO]|(simp only [RZ]<;>omega)|fail) only [↓RBp,↓RA,↓reduceIte,Nat.reduceAdd,Nat.reduceMul,Nat.reduceEqDiff,RB,RX,RA2,q0,s0])))
    exact fin _ _ (by repeat (first|(with_reducible first|refine eB ?_ _|assumption|exact eR _|refine eA ?_ _|refine eD ?_|refine eT ?_ (by assumption))|exact eR _)) (Cells.new w1 [Value.iface 28 (.pointer (some ⟨Y.tb 0,0,none⟩)),.int .i64 ((l0+32*k:Nat):Int),.int .i64 cc,.int .i64 oo,.int .u16 (gg:Int)] 121)
   ·refine hop _ _ (by repeat (first|(with_reducible first|refine eB ?_ _|assumption|exact eR _|refine eA ?_ _|refine eD ?_|refine eT ?_ (by assumption))|exact eR _)) (fun w1 e1=> ?_)
    have hC0:=(Cells.new w [Value.nilIface,.int .i64 0,.int .i64 0,.int .i64 0,.int .u16 ((0:Nat):Int)] 121).ext (Ext.trans (Ext.drew (Ext.refl _)) e1)
    have lt1:=hC0.lt
    have hD:=cells5C hC0 (Value.iface 28 (.pointer (some ⟨Y.tb 0,0,none⟩))) (.int .i64 ((l0+32*k:Nat):Int)) (.int .i64 cc) (.int .i64 oo) (.int .u16 (gg:Int))
    have z0:=hC0.cell (i:=0) (by simp)
    have z1:=hC0.cell (i:=1) (by simp)
    have z2:=hC0.cell (i:=2) (by simp)
    have z3:=hC0.cell (i:=3) (by simp)
    have z4:=hC0.cell (i:=4) (by simp)
    have hfz:=hC0.frz
    (repeat' (first|(with_reducible first|refine brS_mk (fun _=> ?_) (fun _=> ?_)|refine And.intro ?_ ?_)|(simp (disch:=first|omega|simp only [RO]|(simp only [RZ]<;>omega)|fail) only [↓RBp,↓RA,↓reduceIte,Nat.reduceAdd,Nat.reduceMul,Nat.reduceEqDiff,RB,RX,RA2,z0,z1,z2,z3,z4,hfz])))
    exact fin _ _ (by repeat (first|(with_reducible first|refine eB ?_ _|assumption|exact eR _|refine eA ?_ _|refine eD ?_|refine eT ?_ (by assumption))|exact eR _)) hD
end
section
variable {w0 w w' w'':World} {Y Y' Y'':Lay} {D D' D1:DS} {S b o cp l0 n k:Nat} {f f':Nat→Int×Int×Bool}
theorem ArS.wr1 (h:ArS w0 w Y D S b o cp l0 n f) (hk:k<n) (c:Int):ArS w0 (w.setCell ⟨b,o+k*4+1,none⟩ (.int .i64 c)) Y D S b o cp l0 n (upF f k (c,(f k).2)):=by
 have:=h.wr (i:=k*4+1) (by omega) ((plL_set f l0 n k hk).1 c)
 rwa [←Nat.add_assoc] at this
theorem ArS.wr2 (h:ArS w0 w Y D S b o cp l0 n f) (hk:k<n) (c:Int):ArS w0 (w.setCell ⟨b,o+k*4+2,none⟩ (.int .i64 c)) Y D S b o cp l0 n (upF f k ((f k).1,c,(f k).2.2)):=by
 have:=h.wr (i:=k*4+2) (by omega) ((plL_set f l0 n k hk).2.1 c)
 rwa [←Nat.add_assoc] at this
theorem upF_upF {α:Type} (f:Nat→α) (k:Nat) (u v:α):upF (upF f k u) k v=upF f k v:=by
 funext j;unfold upF;split<;>rfl
theorem ArS.wr12 (h:ArS w0 w Y D S b o cp l0 n f) (hk:k<n) (c t:Int):ArS w0 ((w.setCell ⟨b,o+k*4+1,none⟩ (.int .i64 c)).setCell ⟨b,o+k*4+2,none⟩ (.int .i64 t)) Y D S b o cp l0 n (upF f k (c,t,(f k).2.2)):=by
 have:=(h.wr1 hk c).wr2 hk t
 rwa [upF_upF,upF_eq] at this
theorem AStp.wr12 (h:AStp w Y b w' Y') (i j:Nat) (u v:Value):AStp w Y b ((w'.setCell ⟨b,i,none⟩ u).setCell ⟨b,j,none⟩ v) Y':=(h.set i u).set j v
theorem k_free (h:ArS w0 w Y D S b o cp l0 n f) (hk:k<n) {p:List Ins} {v:Value} (hs:SlO w 110 3 v p.length (inL p)) (nv:∀x,v.ownBlock=some x→¬Y.F x) (hp:∀i∈p,okI i) (hx:D.exe+p.length<1099511627775) (hD1:D1=D.run 0 p) (K:K1)
  (he:D1.err 0≠0→∀w' Y',AStp w Y b w' Y'→ArS w0 w' Y' D1 S b o cp l0 n f→K (.int .i64 (D1.err 0)) w')
  (hok:D1.err 0=0→∀w' Y',AStp w Y b w' Y'→ArS w0 w' Y' D1 S b o cp l0 n (upF f k (-1,-1,(f k).2.2))→K (.int .i64 0) w'):
  callS prog 39 #[stV S,.pointer (some ⟨b,o+k*4,none⟩),v] w K:=by
 have gd1:Good D1:=by rw [hD1];exact Good.run 0 (by omega) _ _ h.L.gd hp
 have n1:D1.n=D.n:=by rw [hD1];exact run_n 0 _ D
 have s0:=h.c0
 have hrun:∀(K:K1),(∀w' Y',Stp w Y w' Y' D1→K (.int .i64 (D1.err 0)) w')→callS prog 31 #[v,.iface 28 (.pointer (some ⟨Y.tb 0,0,none⟩))] w K:=fun K hK=>by
  subst hD1;exact k_Run h.L.dv h.L.gd 0 (by omega) p v hs nv hp hx K hK
 have hst:∀w' Y',Stp w Y w' Y' D1→ArS w0 w' Y' D1 S b o cp l0 n f:=fun w' Y' st=>h.step st gd1 n1
 generalize D1.err 0=e at*
 refine f39_call _ _ _ _ _ ?_
 unfold f39_t
 simp (disch:=first|omega|simp only [RO]|(simp only [RZ]<;>omega)|fail) only [↓RBp,↓RA,↓reduceIte,Nat.reduceAdd,Nat.reduceMul,Nat.reduceEqDiff,RB,RX,RA2,s0]
 refine hrun _ (fun w1 Y1 st=> ?_)
 have h1:=hst w1 Y1 st
 have a1:=AStp.of_stp b st
 by_cases e0:e=0
 ·subst e0
  have ob14:=h1.p hk;have q0:=ob14.1;have q1:=ob14.2.1;have q2:=ob14.2.2.1;have q3:=ob14.2.2.2
  have fz:=h1.fz
  have h2:=h1.wr1 hk (-1)
  have fz2:=h2.fz
  have ob15:=h2.p hk;have r0:=ob15.1;have r1:=ob15.2.1;have r2:=ob15.2.2.1;have r3:=ob15.2.2.2
  simp (disch:=first|omega|simp only [RO]|(simp only [RZ]<;>omega)|fail) only [↓RBp,↓RA,↓reduceIte,Nat.reduceAdd,Nat.reduceMul,Nat.reduceEqDiff,RB,RX,RA2,fz,q1,q2,fz2,r2]
  exact hok rfl _ Y1 (a1.wr12 _ _ _ _) (h1.wr12 hk (-1) (-1))
 ·simp (disch:=first|omega|simp only [RO]|(simp only [RZ]<;>omega)|fail) only [↓RBp,↓RA,↓reduceIte,Nat.reduceAdd,Nat.reduceMul,Nat.reduceEqDiff,RB,RX,RA2,e0]
  exact he e0 _ Y1 a1 h1
theorem k_pick (h:ArS w0 w Y D S b o cp l0 n f) (ag:AgF D l0 n f) (ho:D.off=false) (he:D.err 0=0) (hx:D.exe<1000000000) (K:K1)
  (hA:∀k,k<n→(f k).1<0→(∀j,j<k→¬(f j).1<0)→∀w',Ext w w'→K (.tuple #[.pointer (some ⟨b,o+k*4,none⟩),.int .i64 0]) w')
  (hB:(∀j,j<n→¬(f j).1<0)→∀k g D1,k<n→emG D l0 f k=some g→(∀j,j<k→emG D l0 f j=none)→D1=D.run 0 (clrI (l0+32*k) g)→∀w' Y',AStp w Y b w' Y'→(D1.err 0≠0→ArS w0 w' Y' D1 S b o cp l0 n f)→(D1.err 0=0→ArS w0 w' Y' D1 S b o cp l0 n (upF f k (-1,-1,(f k).2.2)))→K (.tuple #[.pointer (some ⟨b,o+k*4,none⟩),.int .i64 (D1.err 0)]) w')
  (hN:(∀j,j<n→¬(f j).1<0)→(∀j,j<n→emG D l0 f j=none)→∀w',Ext w w'→K (.tuple #[.pointer none,.int .i64 4]) w'):
  callS prog 35 #[stV S] w K:=by
 have hle:=h.le
 have hlt:=h.lt
 have hnn:=h.L.gd.n
 have s1:=h.c1
 refine f35_call _ _ _ ?_
 unfold f35_t
 simp (disch:=first|omega|simp only [RO]|(simp only [RZ]<;>omega)|fail) only [↓RBp,↓RA,↓reduceIte,Nat.reduceAdd,Nat.reduceMul,Nat.reduceEqDiff,RB,RX,RA2,s1]
 apply f35_l1_rule (I:=fun z w'=>∃i:Nat,z= .int .i64 (i:Int)∧i≤n∧(∀j,j<i→¬(f j).1<0)∧Ext w w') (μ:=fun z _=>n-(intOf z).toNat)
 ·exact ⟨0,rfl,by omega,fun j hj=>absurd hj (Nat.not_lt_zero _),(by repeat (first|(with_reducible first|refine eB ?_ _|assumption|exact eR _|refine eA ?_ _|refine eD ?_|refine eT ?_ (by assumption))|exact eR _))⟩
 ·intros;rename_i w1 hI E1 hE
  obtain ⟨i,rfl,hi,hall,e1⟩:=hI
  have h1:=h.ext e1
  have s1:=h1.c1
  by_cases hin:i<n
  ·have ob16:=h1.p hin;have q0:=ob16.1;have q1:=ob16.2.1;have q2:=ob16.2.2.1;have q3:=ob16.2.2.2
   have hAi:=hA i hin
   have hall2:¬(f i).1<0→∀j,j<i+1→¬(f j).1<0:=fun hc j hj=>by
    by_cases e:j=i
    ·rw [e];exact hc
    ·exact hall j (by omega)
   by_cases hc:(f i).1<0
   ·have hAi:=hAi hc hall
    generalize (f i).1=cc at q1 hc
    unfold f35_l1_t
    simp (disch:=first|omega|simp only [RO]|(simp only [RZ]<;>omega)|fail) only [↓RBp,↓RA,↓reduceIte,Nat.reduceAdd,Nat.reduceMul,Nat.reduceEqDiff,RB,RX,RA2,s1,q1,hc]
    exact hAi _ e1
   ·have hall2:=hall2 hc
    generalize (f i).1=cc at q1 hc
    unfold f35_l1_t
    simp (disch:=first|omega|simp only [RO]|(simp only [RZ]<;>omega)|fail) only [↓RBp,↓RA,↓reduceIte,Nat.reduceAdd,Nat.reduceMul,Nat.reduceEqDiff,RB,RX,RA2,s1,q1,hc]
    apply hE
    ·exact ⟨i+1,by simp,by omega,hall2,e1⟩
    ·simp [intOf];omega
  ·have:i=n:=by omega
   subst this
   unfold f35_l1_t
   simp (disch:=first|omega|simp only [RO]|(simp only [RZ]<;>omega)|fail) only [↓RBp,↓RA,↓reduceIte,Nat.reduceAdd,Nat.reduceMul,Nat.reduceEqDiff,RB,RX,RA2,f35_k1_eq,f35_k1_t,s1]
   apply f35_l2_rule (I:=fun z w'=>∃q:Nat,z= .int .i64 (q:Int)∧q≤i∧(∀j,j<q→emG D l0 f j=none)∧Ext w w') (μ:=fun z _=>i-(intOf z).toNat)
   ·exact ⟨0,rfl,by omega,fun j hj=>absurd hj (Nat.not_lt_zero _),e1⟩
   ·intros;rename_i w2 hI E2 hE2
    obtain ⟨q,rfl,hq,hnone,e2⟩:=hI
    have h2:=h.ext e2
    have s0:=h2.c0
    have s1:=h2.c1
    by_cases hqi:q<i
    ·have hem:=fun g hg=>h2.emG_ok ag hqi (g:=g) hg
     have hB:=hB hall q
     have hno:emG D l0 f q=none→∀j,j<q+1→emG D l0 f j=none:=fun hc j hj=>by
      by_cases e:j=q
      ·rw [e];exact hc
      ·exact hnone j (by omega)
     unfold f35_l2_t
     simp (disch:=first|omega|simp only [RO]|(simp only [RZ]<;>omega)|fail) only [↓RBp,↓RA,↓reduceIte,Nat.reduceAdd,Nat.reduceMul,Nat.reduceEqDiff,RB,RX,RA2,s1]
     refine k_clearing h2 ag hqi ho he _ (fun hn0 w3 e3=> ?_) (fun g hg g0 g6 v w3 e3 nv hs=> ?_)
     ·simp (disch:=first|omega|simp only [RO]|(simp only [RZ]<;>omega)|fail) only [↓RBp,↓RA,↓reduceIte,Nat.reduceAdd,Nat.reduceMul,Nat.reduceEqDiff,RB,RX,RA2]
      apply hE2
      ·exact ⟨q+1,by simp,by omega,hno hn0,e2.trans e3⟩
      ·simp [intOf];omega
     ·have ok:∀i∈clrI (l0+32*q) g,okI i:=by
       have hs6:=sealN_lt (hdX (-1) (-1) g) (hdX_lt (by omega) (by omega) (by omega) (by omega) g6)
       exact okI_stores (fun x hx=>by simp only [List.mem_singleton] at hx;subst hx;exact ⟨by simp only;omega,hs6⟩)
      have hcl:=clrI_len (l0+32*q) g
      obtain ⟨D1,hD1⟩:∃D1,D1=D.run 0 (clrI (l0+32*q) g):=⟨_,rfl⟩
      have hB:=hB g D1 hqi hg hnone hD1
      have h3:=h2.ext e3
      have nF:∀x,v.ownBlock=some x→¬Y.F x:=fun x hx hf=>by have:=nv x hx;have:=h2.L.dv.lt hf;omega
      simp (disch:=first|omega|simp only [RO]|(simp only [RZ]<;>omega)|fail) only [↓RBp,↓RA,↓reduceIte,Nat.reduceAdd,Nat.reduceMul,Nat.reduceEqDiff,RB,RX,RA2]
      refine k_free h3 hqi hs nF ok (by omega) hD1 _ (fun hne w4 Y4 a4 h4=> ?_) (fun h0 w4 Y4 a4 h4=> ?_)
      ·have a04:=(AStp.of_ext Y b (e2.trans e3)).trans a4
       have hB:=hB w4 Y4 a04 (fun _=>h4) (fun h=>absurd h hne)
       simp (disch:=first|omega|simp only [RO]|(simp only [RZ]<;>omega)|fail) only [↓RBp,↓RA,↓reduceIte,Nat.reduceAdd,Nat.reduceMul,Nat.reduceEqDiff,RB,RX,RA2]
       exact hB
      ·have a04:=(AStp.of_ext Y b (e2.trans e3)).trans a4
       have hB:=hB w4 Y4 a04 (fun h=>absurd h0 h) (fun _=>h4)
       rw [h0] at hB
       simp (disch:=first|omega|simp only [RO]|(simp only [RZ]<;>omega)|fail) only [↓RBp,↓RA,↓reduceIte,Nat.reduceAdd,Nat.reduceMul,Nat.reduceEqDiff,RB,RX,RA2]
       exact hB
    ·have:q=i:=by omega
     subst this
     have her:=h2.er
     rw [he] at her
     unfold f35_l2_t
     simp (disch:=first|omega|simp only [RO]|(simp only [RZ]<;>omega)|(with_reducible (repeat (first|assumption|exact Ext.refl _|refine Ext.alloc ?_ _|refine Ext.drew ?_|refine Ext.trans ?_ (by assumption))))|fail) only [↓RBp,↓RA,↓reduceIte,Nat.reduceAdd,Nat.reduceMul,Nat.reduceEqDiff,RB,RX,RA2,f35_k2_eq,f35_k2_t,s0,her]
     exact hN hall hnone _ e2
end
theorem planI_ok {l n g:Nat} {c o:Int} (hl:l+32≤n) (hn:n≤4096) (c0:0≤c) (c5:c<5) (o0:0≤o) (o8:o<8) (hg:g<65536):∀i∈planI l c o g,okI i:=by
 have hb:=sealN_lt (blkX g 0 176) (blkX_lt hg (by omega) (by omega))
 have hd:=sealN_lt (hdX c o g) (hdX_lt (by omega) c5 (by omega) o8 hg)
 intro i hi
 unfold planI at hi
 rcases List.mem_append.1 hi with hi|hi
 ·refine okI_stores (fun x hx=>⟨by have:=planW_in hl c0 c5 g x hx;omega,?_⟩) i hi
  rcases List.mem_append.1 hx with hx|hx
  ·obtain ⟨j,hj,rfl⟩:=List.mem_map.1 hx
   exact hb
  ·obtain ⟨j,hj,rfl⟩:=List.mem_map.1 hx
   simp only;omega
 ·exact okI_stores (fun x hx=>by simp only [List.mem_singleton] at hx;subst hx;exact ⟨by simp only;omega,hd⟩) i hi
def ClRes (D:DS) (l0 n:Nat) (f:Nat→Int×Int×Bool) (c t:Int) (D2:DS) (f2:Nat→Int×Int×Bool) (r e:Int):Prop:=
 (∃k,k<n∧(f k).1<0∧(∀j,j<k→¬(f j).1<0)∧D2=D.run 0 (planI (l0+32*k) c t (gX (wd D (l0+32*k) 0)))∧((D2.err 0≠0∧f2=f∧r=0∧e=D2.err 0)∨(D2.err 0=0∧f2=upF f k (c,t,(f k).2.2)∧r=((l0+32*k:Nat):Int)∧e=0)))∨
 ((∀j,j<n→¬(f j).1<0)∧∃k g D1,k<n∧emG D l0 f k=some g∧(∀j,j<k→emG D l0 f j=none)∧D1=D.run 0 (clrI (l0+32*k) g)∧((D1.err 0≠0∧D2=D1∧f2=f∧r=0∧e=D1.err 0)∨(D1.err 0=0∧D2=D1.run 0 (planI (l0+32*k) c t g)∧((D2.err 0≠0∧f2=upF f k (-1,-1,(f k).2.2)∧r=0∧e=D2.err 0)∨(D2.err 0=0∧f2=upF f k (c,t,(f k).2.2)∧r=((l0+32*k:Nat):Int)∧e=0)))))∨
 ((∀j,j<n→¬(f j).1<0)∧(∀j,j<n→emG D l0 f j=none)∧D2=D∧f2=f∧r=0∧e=4)
section
variable {w0 w w' w'':World} {Y Y' Y'':Lay} {D D' D1 D2:DS} {S b o cp l0 n k g:Nat} {f f' f1:Nat→Int×Int×Bool} {c t:Int}
theorem cm_k1 (h:ArS w0 w Y D S b o cp l0 n f) (hk:k<n) (c0:0≤c) (c5:c<5) (t0:0≤t) (t8:t<8) (g0:g≠0) (g6:g<65536) (hx:D.exe<2000000000) {N:Nat} {cc oo:Int} (hN:Cells w N 79 3 (fun i=> [Value.int .i64 cc,.int .i64 oo,.int .u16 (g:Int)].getD i undef)) (hD2:D2=D.run 0 (planI (l0+32*k) c t g)) (K:K1)
  (he:D2.err 0≠0→∀w' Y',AStp w Y b w' Y'→ArS w0 w' Y' D2 S b o cp l0 n f→K (.tuple #[.int .i64 0,.int .i64 (D2.err 0)]) w')
  (hok:D2.err 0=0→∀w' Y',AStp w Y b w' Y'→ArS w0 w' Y' D2 S b o cp l0 n (upF f k (c,t,(f k).2.2))→K (.tuple #[.int .i64 ((l0+32*k:Nat):Int),.int .i64 0]) w'):
  f17_k1 K (stV S) (.int .i64 t) (.int .i64 c) (.pointer (some ⟨b,o+k*4,none⟩)) (.int .i64 0) (.pointer (some ⟨N,0,none⟩)) w:=by
 have hnn:=h.L.gd.n
 have hlt:=h.lt
 have hok3:=planI_ok (l:=l0+32*k) (n:=D.n) (by omega) hnn c0 c5 t0 t8 g6
 have hpl:=plan_len (l0+32*k) c0 c5 t g
 have gd2:Good D2:=by rw [hD2];exact Good.run 0 (by omega) _ _ h.L.gd hok3
 have n2:D2.n=D.n:=by rw [hD2];exact run_n 0 _ D
 have s0:=h.c0
 have ob17:=h.p hk;have q0:=ob17.1;have q1:=ob17.2.1;have q2:=ob17.2.2.1;have q3:=ob17.2.2.2
 have d2:w.cell? ⟨N,2,none⟩=some (.int .u16 (g:Int)):=hN.cell (i:=2) (by omega)
 have hrun:∀(v:Value) (w1:World) (K:K1),Ext w w1→SlO w1 110 3 v (planI (l0+32*k) c t g).length (inL (planI (l0+32*k) c t g))→NewV w.heap.size v→(∀w' Y',Stp w Y w' Y' D2→K (.int .i64 (D2.err 0)) w')→callS prog 31 #[v,.iface 28 (.pointer (some ⟨Y.tb 0,0,none⟩))] w1 K:=fun v w1 K e1 hs nv hK=>by
  subst hD2
  exact k_Run (h.L.dv.ext e1) h.L.gd 0 (by omega) _ v hs (fun x hx hf=>by have:=nv x hx;have:=h.L.dv.lt hf;omega) hok3 (by omega) K (fun w' Y' st=>hK w' Y' (Stp.pre e1 (fun x hx=>h.L.dv.lt hx) st))
 have hst:∀w' Y',Stp w Y w' Y' D2→ArS w0 w' Y' D2 S b o cp l0 n f:=fun w' Y' st=>h.step st gd2 n2
 generalize D2.err 0=e at*
 rw [f17_k1_eq]
 unfold f17_k1_t
 (repeat' (first|(with_reducible first|refine brS_mk (fun _=> ?_) (fun _=> ?_)|refine And.intro ?_ ?_)|(simp (disch:=first|omega|simp only [RO]|(simp only [RZ]<;>omega)|fail) only [↓RBp,↓RA,↓reduceIte,Nat.reduceAdd,Nat.reduceMul,Nat.reduceEqDiff,RB,RX,RA2,q0,d2])))
 refine k_Plan ((h.gl.ext h.L.ex).ext (by repeat (first|(with_reducible first|refine eB ?_ _|assumption|exact eR _|refine eA ?_ _|refine eD ?_|refine eT ?_ (by assumption))|exact eR _))) (l0+32*k) c t g (by omega) c0 c5 t0 t8 g0 g6 _ (fun v w1 hs e1 nv=> ?_)
 have e01:Ext w w1:=Ext.trans (by repeat (first|(with_reducible first|refine eB ?_ _|assumption|exact eR _|refine eA ?_ _|refine eD ?_|refine eT ?_ (by assumption))|exact eR _)) e1
 have s0:=(h.ext e01).c0
 (repeat' (first|(with_reducible first|refine brS_mk (fun _=> ?_) (fun _=> ?_)|refine And.intro ?_ ?_)|(simp (disch:=first|omega|simp only [RO]|(simp only [RZ]<;>omega)|fail) only [↓RBp,↓RA,↓reduceIte,Nat.reduceAdd,Nat.reduceMul,Nat.reduceEqDiff,RB,RX,RA2,s0])))
 refine hrun v _ _ e01 hs (fun x hx=>by have:=nv x hx;simpa only [RZ] using this) (fun w2 Y2 st=> ?_)
 have h2:=hst w2 Y2 st
 have a2:=AStp.of_stp b st
 by_cases e0:e=0
 ·subst e0
  have ob18:=h2.p hk;have q0:=ob18.1;have q1:=ob18.2.1;have q2:=ob18.2.2.1;have q3:=ob18.2.2.2
  have fz:=h2.fz
  have h3:=h2.wr1 hk c
  have fz3:=h3.fz
  have ob19:=h3.p hk;have r0:=ob19.1;have r1:=ob19.2.1;have r2:=ob19.2.2.1;have r3:=ob19.2.2.2
  have h4:=h2.wr12 hk c t
  have ob20:=h4.p hk;have u0:=ob20.1;have u1:=ob20.2.1;have u2:=ob20.2.2.1;have u3:=ob20.2.2.2
  simp (disch:=first|omega|simp only [RO]|(simp only [RZ]<;>omega)|fail) only [↓RBp,↓RA,↓reduceIte,Nat.reduceAdd,Nat.reduceMul,Nat.reduceEqDiff,RB,RX,RA2,fz,q1,q2,fz3,r2,u0]
  exact hok rfl _ Y2 (a2.wr12 _ _ _ _) h4
 ·simp (disch:=first|omega|simp only [RO]|(simp only [RZ]<;>omega)|fail) only [↓RBp,↓RA,↓reduceIte,Nat.reduceAdd,Nat.reduceMul,Nat.reduceEqDiff,RB,RX,RA2,e0]
  exact he e0 _ Y2 a2 h2
theorem k_Claim (h:ArS w0 w Y D S b o cp l0 n f) (ag:AgF D l0 n f) (ho:D.off=false) (he:D.err 0=0) (hx:D.exe<1000000000) (t0:0≤t) (t8:t<8) (c0:0≤c) (c5:c<5) (K:K1)
  (hK:∀D2 f2 r e,ClRes D l0 n f c t D2 f2 r e→∀w' Y',AStp w Y b w' Y'→ArS w0 w' Y' D2 S b o cp l0 n f2→K (.tuple #[.int .i64 r,.int .i64 e]) w'):
  callS prog 17 #[stV S,.int .i64 t,.int .i64 c] w K:=by
 have hG:Glob w:=h.gl.ext h.L.ex
 have hnn:=h.L.gd.n
 have hlt:=h.lt
 have hp:=c_PerChunk c w
 have hpp:=perS_in c0 c5
 have s0:=h.c0
 have her:=h.er
 rw [he] at her
 have hz:¬perS c=0:=by omega
 have agk:=ag
 generalize perS c=pc at*
 refine f17_call _ _ _ _ _ ?_
 unfold f17_t
 simp (disch:=first|omega|simp only [RO]|(simp only [RZ]<;>omega)|(with_reducible (repeat (first|assumption|exact Ext.refl _|refine Ext.alloc ?_ _|refine Ext.drew ?_|refine Ext.trans ?_ (by assumption))))|fail) only [↓RBp,↓RA,↓reduceIte,Nat.reduceAdd,Nat.reduceMul,Nat.reduceEqDiff,RB,RX,RA2,hp,hG,hz,s0,her,he]
 refine k_pick h ag ho he hx _ (fun k hk hf hall w1 e1=> ?_) (fun hall k g D1 hk hem hnone hD1 w1 Y1 a1 hbad hgood=> ?_) (fun hall hnone w1 e1=> ?_)
 ·have hd:=hd_cls (ag k hk).1
  have hok:=(ag k hk).1
  have g6:gX (wd D (l0+32*k) 0)<65536:=by unfold gX;omega
  have hK:=fun D2 f2 r e hr=>hK D2 f2 r e (.inl ⟨k,hk,hf,hall,hr⟩)
  have h1:=h.ext e1
  have s0:=h1.c0
  have ob21:=h1.p hk;have q0:=ob21.1;have q1:=ob21.2.1;have q2:=ob21.2.2.1;have q3:=ob21.2.2.2
  have lt1:=h1.ltb
  have lt2:=h1.ltS
  have fin:∀(w2:World) (N:Nat),Ext w w2→Cells w2 N 79 3 (fun i=> [Value.int .i64 (hC (wd D (l0+32*k) 0)),.int .i64 (hO (wd D (l0+32*k) 0)),.int .u16 (gX (wd D (l0+32*k) 0):Int)].getD i undef)→f17_k1 K (stV S) (.int .i64 t) (.int .i64 c) (.pointer (some ⟨b,o+k*4,none⟩)) (.int .i64 0) (.pointer (some ⟨N,0,none⟩)) w2:=fun w2 N e2 hN=>by
   refine cm_k1 (h.ext e2) hk c0 c5 t0 t8 hd.2.2.1 g6 (by omega) hN rfl K (fun hne w3 Y3 a3 h3=> ?_) (fun h0 w3 Y3 a3 h3=> ?_)
   ·exact hK _ _ _ _ ⟨rfl,.inl ⟨hne,rfl,rfl,rfl⟩⟩ w3 Y3 ((AStp.of_ext Y b e2).trans a3) h3
   ·exact hK _ _ _ _ ⟨rfl,.inr ⟨h0,rfl,rfl,rfl⟩⟩ w3 Y3 ((AStp.of_ext Y b e2).trans a3) h3
  have hlk:=fun (w2:World) (e2:Ext w w2) (K1:K1) hk2=>k_Look (h.L.dv.ext e2) h.L.gd (hG.ext e2) ho he (l0+32*k) (by omega) hok K1 hk2
  unfold thV at hlk
  generalize hC (wd D (l0+32*k) 0)=cc at*
  generalize hO (wd D (l0+32*k) 0)=oo at*
  generalize gX (wd D (l0+32*k) 0)=gg at*
  (repeat' (first|(with_reducible first|refine brS_mk (fun _=> ?_) (fun _=> ?_)|refine And.intro ?_ ?_)|(simp (disch:=first|omega|simp only [RO]|(simp only [RZ]<;>omega)|fail) only [↓RBp,↓RA,↓reduceIte,Nat.reduceAdd,Nat.reduceMul,Nat.reduceEqDiff,RB,RX,RA2,s0,q0])))
  ·refine hlk _ (by repeat (first|(with_reducible first|refine eB ?_ _|assumption|exact eR _|refine eA ?_ _|refine eD ?_|refine eT ?_ (by assumption))|exact eR _)) _ (fun w2 e2=> ?_)
   have e02:Ext w1 w2:=Ext.trans (by repeat (first|(with_reducible first|refine eB ?_ _|assumption|exact eR _|refine eA ?_ _|refine eD ?_|refine eT ?_ (by assumption))|exact eR _)) e2
   have s0:=(h1.ext e02).c0
   have ob22:=(h1.ext e02).p hk;have q0:=ob22.1;have q1:=ob22.2.1;have q2:=ob22.2.2.1;have q3:=ob22.2.2.2
   have lt1:=(h1.ext e02).ltb
   have lt2:=(h1.ext e02).ltS
   (repeat' (first|(with_reducible first|refine brS_mk (fun _=> ?_) (fun _=> ?_)|refine And.intro ?_ ?_)|(simp (disch:=first|omega|simp only [RO]|(simp only [RZ]<;>omega)|fail) only [↓RBp,↓RA,↓reduceIte,Nat.reduceAdd,Nat.reduceMul,Nat.reduceEqDiff,RB,RX,RA2,s0,q0])))
   exact fin _ _ (by repeat (first|(with_reducible first|refine eB ?_ _|assumption|exact eR _|refine eA ?_ _|refine eD ?_|refine eT ?_ (by assumption))|exact eR _)) (Cells.new w2 [Value.int .i64 cc,.int .i64 oo,.int .u16 (gg:Int)] 79)
  ·refine hlk _ (by repeat (first|(with_reducible first|refine eB ?_ _|assumption|exact eR _|refine eA ?_ _|refine eD ?_|refine eT ?_ (by assumption))|exact eR _)) _ (fun w2 e2=> ?_)
   have hC0:=(Cells.new w1 [Value.int .i64 0,.int .i64 0,.int .u16 ((0:Nat):Int)] 79).ext (Ext.trans (Ext.drew (Ext.refl _)) e2)
   have lt1:=hC0.lt
   have hD:=cells3C hC0 (Value.int .i64 cc) (.int .i64 oo) (.int .u16 (gg:Int))
   have z0:=hC0.cell (i:=0) (by simp)
   have z1:=hC0.cell (i:=1) (by simp)
   have z2:=hC0.cell (i:=2) (by simp)
   have hfz:=hC0.frz
   have hs1:=e1.size
   (repeat' (first|(with_reducible first|refine brS_mk (fun _=> ?_) (fun _=> ?_)|refine And.intro ?_ ?_)|(simp (disch:=first|omega|simp only [RO]|(simp only [RZ]<;>omega)|fail) only [↓RBp,↓RA,↓reduceIte,Nat.reduceAdd,Nat.reduceMul,Nat.reduceEqDiff,RB,RX,RA2,z0,z1,z2,hfz])))
   exact fin _ _ (by repeat (first|(with_reducible first|refine eB ?_ _|assumption|exact eR _|refine eA ?_ _|refine eD ?_|refine eT ?_ (by assumption))|exact eR _)) hD
 ·have hgk:=h.emG_ok ag hk hem
  have hK:=fun D2 f2 r e hr=>hK D2 f2 r e (.inr (.inl ⟨hall,k,g,D1,hk,hem,hnone,hD1,hr⟩))
  by_cases h0:D1.err 0=0
  ·have h1:=hgood h0
   have hcc:=clr_cur (l:=l0+32*k) (g:=g) ho he (by omega) (by rw [←hD1];exact h0)
   rw [←hD1] at hcc
   have hw0:wd D1 (l0+32*k) 0=sealN (hdX (-1) (-1) g):=by unfold wd;rw [hcc.1];simp
   have hfr:=hd_free hgk.2.2.2.1 hgk.2.2.2.2
   rw [←hw0] at hfr
   have hxx:D1.exe<2000000000:=by rw [hD1];have:=run_exe 0 (clrI (l0+32*k) g) D;have:=clrI_len (l0+32*k) g;omega
   have n1:D1.n=D.n:=by rw [hD1];exact run_n 0 _ D
   have s0:=h1.c0
   have ob23:=h1.p hk;have q0:=ob23.1;have q1:=ob23.2.1;have q2:=ob23.2.2.1;have q3:=ob23.2.2.2
   have lt1:=h1.ltb
   have lt2:=h1.ltS
   have hG1:Glob w1:=h1.gl.ext h1.L.ex
   have hup:∀v,upF (upF f k (-1,-1,(f k).2.2)) k v=upF f k v:=fun v=>upF_upF f k _ v
   have fin:∀(w2:World) (N:Nat),Ext w1 w2→Cells w2 N 79 3 (fun i=> [Value.int .i64 (-1),.int .i64 (-1),.int .u16 (g:Int)].getD i undef)→f17_k1 K (stV S) (.int .i64 t) (.int .i64 c) (.pointer (some ⟨b,o+k*4,none⟩)) (.int .i64 0) (.pointer (some ⟨N,0,none⟩)) w2:=fun w2 N e2 hN=>by
    refine cm_k1 (h1.ext e2) hk c0 c5 t0 t8 hgk.2.2.2.1 hgk.2.2.2.2 (by omega) hN rfl K (fun hne w3 Y3 a3 h3=> ?_) (fun h02 w3 Y3 a3 h3=> ?_)
    ·exact hK _ _ _ _ (.inr ⟨h0,rfl,.inl ⟨hne,rfl,rfl,rfl⟩⟩) w3 Y3 (a1.trans ((AStp.of_ext Y1 b e2).trans a3)) h3
    ·rw [hup,upF_eq] at h3
     exact hK _ _ _ _ (.inr ⟨h0,rfl,.inr ⟨h02,rfl,rfl,rfl⟩⟩) w3 Y3 (a1.trans ((AStp.of_ext Y1 b e2).trans a3)) h3
   have hlk:=fun (w2:World) (e2:Ext w1 w2) (K1:K1) hk2=>k_Look (h1.L.dv.ext e2) h1.L.gd (hG1.ext e2) hcc.2 h0 (l0+32*k) (by omega) hfr.1 K1 hk2
   rw [hfr.2.1,hfr.2.2.1,hfr.2.2.2] at hlk
   unfold thV at hlk
   rw [h0]
   (repeat' (first|(with_reducible first|refine brS_mk (fun _=> ?_) (fun _=> ?_)|refine And.intro ?_ ?_)|(simp (disch:=first|omega|simp only [RO]|(simp only [RZ]<;>omega)|fail) only [↓RBp,↓RA,↓reduceIte,Nat.reduceAdd,Nat.reduceMul,Nat.reduceEqDiff,RB,RX,RA2,s0,q0])))
   ·refine hlk _ (by repeat (first|(with_reducible first|refine eB ?_ _|assumption|exact eR _|refine eA ?_ _|refine eD ?_|refine eT ?_ (by assumption))|exact eR _)) _ (fun w2 e2=> ?_)
    have e02:Ext w1 w2:=Ext.trans (by repeat (first|(with_reducible first|refine eB ?_ _|assumption|exact eR _|refine eA ?_ _|refine eD ?_|refine eT ?_ (by assumption))|exact eR _)) e2
    have s0:=(h1.ext e02).c0
    have ob24:=(h1.ext e02).p hk;have q0:=ob24.1;have q1:=ob24.2.1;have q2:=ob24.2.2.1;have q3:=ob24.2.2.2
    have lt1:=(h1.ext e02).ltb
    have lt2:=(h1.ext e02).ltS
    (repeat' (first|(with_reducible first|refine brS_mk (fun _=> ?_) (fun _=> ?_)|refine And.intro ?_ ?_)|(simp (disch:=first|omega|simp only [RO]|(simp only [RZ]<;>omega)|fail) only [↓RBp,↓RA,↓reduceIte,Nat.reduceAdd,Nat.reduceMul,Nat.reduceEqDiff,RB,RX,RA2,s0,q0])))
    exact fin _ _ (by repeat (first|(with_reducible first|refine eB ?_ _|assumption|exact eR _|refine eA ?_ _|refine eD ?_|refine eT ?_ (by assumption))|exact eR _)) (Cells.new w2 [Value.int .i64 (-1),.int .i64 (-1),.int .u16 (g:Int)] 79)
   ·refine hlk _ (by repeat (first|(with_reducible first|refine eB ?_ _|assumption|exact eR _|refine eA ?_ _|refine eD ?_|refine eT ?_ (by assumption))|exact eR _)) _ (fun w2 e2=> ?_)
    have hC0:=(Cells.new w1 [Value.int .i64 0,.int .i64 0,.int .u16 ((0:Nat):Int)] 79).ext (Ext.trans (Ext.drew (Ext.refl _)) e2)
    have lt1:=hC0.lt
    have hD:=cells3C hC0 (Value.int .i64 (-1)) (.int .i64 (-1)) (.int .u16 (g:Int))
    have z0:=hC0.cell (i:=0) (by simp)
    have z1:=hC0.cell (i:=1) (by simp)
    have z2:=hC0.cell (i:=2) (by simp)
    have hfz:=hC0.frz
    (repeat' (first|(with_reducible first|refine brS_mk (fun _=> ?_) (fun _=> ?_)|refine And.intro ?_ ?_)|(simp (disch:=first|omega|simp only [RO]|(simp only [RZ]<;>omega)|fail) only [↓RBp,↓RA,↓reduceIte,Nat.reduceAdd,Nat.reduceMul,Nat.reduceEqDiff,RB,RX,RA2,z0,z1,z2,hfz])))
    exact fin _ _ (by repeat (first|(with_reducible first|refine eB ?_ _|assumption|exact eR _|refine eA ?_ _|refine eD ?_|refine eT ?_ (by assumption))|exact eR _)) hD
  ·have h1:=hbad h0
   have hK:=hK D1 f 0 (D1.err 0) (.inl ⟨h0,rfl,rfl,rfl,rfl⟩) w1 Y1 a1 h1
   generalize D1.err 0=e at*
   simp (disch:=first|omega|simp only [RO]|(simp only [RZ]<;>omega)|fail) only [↓RBp,↓RA,↓reduceIte,Nat.reduceAdd,Nat.reduceMul,Nat.reduceEqDiff,RB,RX,RA2,h0]
   exact hK
 ·simp (disch:=first|omega|simp only [RO]|(simp only [RZ]<;>omega)|fail) only [↓RBp,↓RA,↓reduceIte,Nat.reduceAdd,Nat.reduceMul,Nat.reduceEqDiff,RB,RX,RA2]
  exact hK _ _ _ _ (.inr (.inr ⟨hall,hnone,rfl,rfl,rfl,rfl⟩)) w1 Y (AStp.of_ext Y b e1) (h.ext e1)
end
structure RgS (D:DS) (l0 n:Nat) (f:Nat→Int×Int×Bool):Prop where
 on:On D
 gd:Good D
 lt:l0+32*n≤D.n
 ag:AgF D l0 n f
 sn:∀k,k<n→0≤(f k).1→Snd D (l0+32*k) (f k).1 (f k).2.1
structure ClOk (D:DS) (l0 n:Nat) (f:Nat→Int×Int×Bool) (c t:Int) (D2:DS) (f2:Nat→Int×Int×Bool) (k g:Nat):Prop where
 kn:k<n
 fe:f2=upF f k (c,t,(f k).2.2)
 g0:g≠0
 g6:g<65536
 oth:∀j,j<n→j≠k→∀i,i<256→wd D2 (l0+32*j) i=wd D (l0+32*j) i
 own:∀i,i<256→wd D2 (l0+32*k) i=planF c t g (wd D (l0+32*k)) i
 how:((f k).1<0∧(∀j,j<k→¬(f j).1<0)∧g=gX (wd D (l0+32*k) 0))∨((∀j,j<n→¬(f j).1<0)∧emG D l0 f k=some g∧∀j,j<k→emG D l0 f j=none)
section
variable {D D2:DS} {l0 n k g:Nat} {f f2:Nat→Int×Int×Bool} {c t r e:Int}
theorem Snd.congr {l:Nat} {o:Int} (h:Snd D l c o) (c0:0≤c) (c5:c<5) (e:∀j,j<256→wd D2 l j=wd D l j):Snd D2 l c o:=by
 have b:=fun (i:Nat) (hi:(i:Int)<perS c)=>e _ (offN_bd c0 c5 hi).2.2
 refine ⟨by rw [e 0 (by omega)];exact h.hd,by rw [e 0 (by omega)];exact h.hc,by rw [e 0 (by omega)];exact h.ho,fun j h2 h8=>by rw [e j (by omega)];exact h.zer j h2 h8,fun i hi=>by rw [b i hi];exact h.sl i hi,fun i hi=>by rw [b i hi];exact h.gd i hi,fun i hi=> ?_⟩
 rw [e 1 (by omega),h.bit i hi]
 by_cases hp:(i:Int)<perS c
 ·rw [b i hp]
 ·rw [decide_eq_false hp,Bool.false_and,Bool.false_and]
theorem RgS.cls (h:RgS D l0 n f) (hk:k<n):(f k).1<5∧-1≤(f k).1:=by
 have ha:=h.ag k hk
 have:=hd_cls ha.1
 rw [ha.2.1];exact ⟨this.1,this.2.2.2⟩
theorem RgS.upd (h:RgS D l0 n f) (on:On D2) (gd:Good D2) (hn:D2.n=D.n) (hk:k<n) (oth:∀j,j<n→j≠k→∀i,i<256→wd D2 (l0+32*j) i=wd D (l0+32*j) i) (hd:hdOk (wd D2 (l0+32*k) 0)=true∧hC (wd D2 (l0+32*k) 0)=c∧hO (wd D2 (l0+32*k) 0)=t) (sn:0≤c→Snd D2 (l0+32*k) c t) (b:Bool):RgS D2 l0 n (upF f k (c,t,b)):=by
 refine ⟨on,gd,by rw [hn];exact h.lt,fun j hj=> ?_,fun j hj h0=> ?_⟩
 ·by_cases ej:j=k
  ·subst ej;rw [upF_eq];exact ⟨hd.1,hd.2.1.symm,hd.2.2.symm⟩
  ·rw [upF_ne _ _ ej,oth j hj ej 0 (by omega)];exact h.ag j hj
 ·by_cases ej:j=k
  ·subst ej;rw [upF_eq] at h0 ⊢;exact sn h0
  ·rw [upF_ne _ _ ej] at h0 ⊢
   exact (h.sn j hj h0).congr h0 (h.cls hj).1 (oth j hj ej)
theorem wd_far {l l':Nat} {W:Nat→Nat} (h:D2.cur=fun j=>if l*8≤j∧j<l*8+256 then W (j-l*8) else D.cur j):(∀i,i<256→wd D2 l i=W i)∧((l'+32≤l∨l+32≤l')→∀i,i<256→wd D2 l' i=wd D l' i):=by
 refine ⟨fun i hi=> ?_,fun hl i hi=> ?_⟩
 ·unfold wd;rw [h];simp only
  rw [if_pos (by omega),show l*8+i-l*8=i by omega]
 ·unfold wd;rw [h];simp only
  rw [if_neg (by omega)]
theorem wd_one {l l' x:Nat} (h:D2.cur=fun j=>if j=l*8 then x else D.cur j):(∀i,i<256→wd D2 l i=if i=0 then x else wd D l i)∧((l'+32≤l∨l+32≤l')→∀i,i<256→wd D2 l' i=wd D l' i):=by
 refine ⟨fun i hi=> ?_,fun hl i hi=> ?_⟩
 ·unfold wd;rw [h];simp only
  by_cases h0:i=0
  ·rw [if_pos (by omega),if_pos h0]
  ·rw [if_neg (by omega),if_neg h0]
 ·unfold wd;rw [h];simp only
  rw [if_neg (by omega)]
theorem emG_ok' (h:RgS D l0 n f) (hk:k<n) {g:Nat} (he:emG D l0 f k=some g):0≤(f k).1∧(f k).1<5∧(f k).2.2=false∧g≠0∧g<65536:=by
 have hc:=h.cls hk
 unfold emG at he
 by_cases h1:(f k).1<0
 ·rw [if_pos h1] at he;cases he
 ·rw [if_neg h1] at he
  by_cases h2:(f k).2.2=true
  ·rw [if_pos h2] at he;cases he
  ·rw [if_neg h2] at he
   have hp:=perS_in (show 0≤(f k).1 by omega) hc.1
   split at he
   ·rename_i h3
    injection he with he
    subst he
    exact ⟨by omega,hc.1,by simpa using h2,mxG_ne h3 (by omega),mxG_lt _⟩
   ·cases he
theorem cl_ok (h:RgS D l0 n f) (c0:0≤c) (c5:c<5) (t0:0≤t) (t8:t<8) (hr:ClRes D l0 n f c t D2 f2 r e):
  (e=4∧r=0∧D2=D∧f2=f∧(∀j,j<n→¬(f j).1<0)∧(∀j,j<n→emG D l0 f j=none))∨
  (e=0∧∃k g,r=((l0+32*k:Nat):Int)∧ClOk D l0 n f c t D2 f2 k g∧RgS D2 l0 n f2∧D2.n=D.n∧D2.exe≤D.exe+210):=by
 have hlt:=h.lt
 rcases hr with ⟨k,hk,hf,hall,hD2,hr⟩|⟨hall,k,g,D1,hk,hem,hnone,hD1,hr⟩|⟨h1,h2,h3,h4,h5,h6⟩
 ·right
  have ha:=h.ag k hk
  have hd:=hd_cls ha.1
  have g6:gX (wd D (l0+32*k) 0)<65536:=by unfold gX;omega
  obtain ⟨g,hg⟩:∃g,g=gX (wd D (l0+32*k) 0):=⟨_,rfl⟩
  rw [←hg] at hD2 hd g6
  have pg:=plan_gen h.on h.gd (l:=l0+32*k) (c:=c) (o:=t) (g:=g) (by omega) c0 c5 t0 t8 hd.2.2.1 g6
  rw [←hD2] at pg
  have pc:=plan_cur (l:=l0+32*k) (c:=c) (o:=t) (g:=g) h.on.off h.on.err (by omega) c0 c5 (by rw [←hD2];exact pg.1.err)
  rw [←hD2] at pc
  have hx:=run_exe 0 (planI (l0+32*k) c t g) D
  rw [←hD2] at hx
  have hl:=plan_len (l0+32*k) c0 c5 t g
  rcases hr with ⟨he,_⟩|⟨_,hf2,hrr,hee⟩
  ·exact absurd pg.1.err he
  ·have w1:=fun l'=>wd_far (l':=l') pc.1
   have ok:ClOk D l0 n f c t D2 f2 k g:=⟨hk,hf2,hd.2.2.1,g6,fun j hj hjk=>(w1 (l0+32*j)).2 (by omega),(w1 0).1,.inl ⟨hf,hall,hg⟩⟩
   refine ⟨hee,k,g,hrr,ok,?_,pg.2.2.1,by omega⟩
   rw [hf2]
   have hs:=pg.2.2.2.2.1
   exact h.upd pg.1 pg.2.1 pg.2.2.1 hk ok.oth ⟨hs.hd,hs.hc,hs.ho⟩ (fun _=>hs) _
 ·right
  have hgk:=emG_ok' h hk hem
  have cg:=clr_gen h.on h.gd (l:=l0+32*k) (g:=g) (by omega) hgk.2.2.2.2
  rw [←hD1] at cg
  have cc:=clr_cur (l:=l0+32*k) (g:=g) h.on.off h.on.err (by omega) (by rw [←hD1];exact cg.1.err)
  rw [←hD1] at cc
  have hx1:=run_exe 0 (clrI (l0+32*k) g) D
  rw [←hD1] at hx1
  have hl1:=clrI_len (l0+32*k) g
  rcases hr with ⟨he,_⟩|⟨_,hD2,hr⟩
  ·exact absurd cg.1.err he
  ·have pg:=plan_gen cg.1 cg.2.1 (l:=l0+32*k) (c:=c) (o:=t) (g:=g) (by rw [cg.2.2.1];omega) c0 c5 t0 t8 hgk.2.2.2.1 hgk.2.2.2.2
   rw [←hD2] at pg
   have pc:=plan_cur (l:=l0+32*k) (c:=c) (o:=t) (g:=g) cg.1.off cg.1.err (by rw [cg.2.2.1];omega) c0 c5 (by rw [←hD2];exact pg.1.err)
   rw [←hD2] at pc
   have hx:=run_exe 0 (planI (l0+32*k) c t g) D1
   rw [←hD2] at hx
   have hl:=plan_len (l0+32*k) c0 c5 t g
   rcases hr with ⟨he,_⟩|⟨_,hf2,hrr,hee⟩
   ·exact absurd pg.1.err he
   ·have w0:=fun l'=>wd_one (l':=l') cc.1
    have w1:=fun l'=>wd_far (l':=l') pc.1
    have ok:ClOk D l0 n f c t D2 f2 k g:=⟨hk,hf2,hgk.2.2.2.1,hgk.2.2.2.2,fun j hj hjk i hi=>by rw [(w1 (l0+32*j)).2 (by omega) i hi,(w0 (l0+32*j)).2 (by omega) i hi],fun i hi=>by
     rw [(w1 0).1 i hi]
     unfold planF
     by_cases h0:i=0
     ·rw [if_pos h0,if_pos h0]
     ·rw [if_neg h0,if_neg h0,(w0 0).1 i hi,if_neg h0],.inr ⟨hall,hem,hnone⟩⟩
    refine ⟨hee,k,g,hrr,ok,?_,pg.2.2.1.trans cg.2.2.1,by omega⟩
    rw [hf2]
    have hs:=pg.2.2.2.2.1
    exact h.upd pg.1 pg.2.1 (pg.2.2.1.trans cg.2.2.1) hk ok.oth ⟨hs.hd,hs.hc,hs.ho⟩ (fun _=>hs) _
 ·exact .inl ⟨h6,h5,h3,h4,h1,h2⟩
end
def f5_t (K:K1) (w:World):Prop:=
 callS prog 16 (pA #[(.int .i64 2)]) w fun t13 w=>
 ev prog (Instr.extract t13 0) w fun t14 w=>
 ev prog (Instr.extract t13 1) w fun t15 w=>
 ev prog (Instr.extract t13 2) w fun t16 w=>
 ev prog (binM .eql 34 (.tmp 17) (.const (.pointer none)) t16 (.pointer none)) w fun t18 w=>
 cndS t18 (
 K (.bool false) w) (
 callS prog 17 (pA #[t16,(.int .i64 3),(.int .i64 0)]) w fun t21 w=>
 ev prog (Instr.extract t21 0) w fun t22 w=>
 ev prog (Instr.extract t21 1) w fun t23 w=>
 callS prog 17 (pA #[t16,(.int .i64 5),(.int .i64 0)]) w fun t26 w=>
 ev prog (Instr.extract t26 0) w fun t27 w=>
 ev prog (Instr.extract t26 1) w fun t28 w=>
 callS prog 21 (pA #[t16,(.int .i64 3)]) w fun t30 w=>
 callS prog 12 (pA #[t16]) w fun t32 w=>
 callS prog 17 (pA #[t16,(.int .i64 3),(.int .i64 1)]) w fun t35 w=>
 ev prog (Instr.extract t35 0) w fun t36 w=>
 ev prog (Instr.extract t35 1) w fun t37 w=>
 ev prog (binM .eql 25 (.tmp 38) (.const (.int .i64 0)) t23 (.int .i64 0)) w fun t39 w=>
 gd t39 true (fun k=>k t28 w) w fun t41 w=>
 gd t39 true (fun k=>ev prog (binM .eql 25 (.tmp 41) (.const (.int .i64 0)) t41 (.int .i64 0)) w k) w fun t42 w=>
 pickS t39 t42 (.bool false) w fun t43 w=>
 gd t43 true (fun k=>k t37 w) w fun t45 w=>
 gd t43 true (fun k=>ev prog (binM .eql 25 (.tmp 45) (.const (.int .i64 0)) t45 (.int .i64 0)) w k) w fun t46 w=>
 pickS t43 t46 (.bool false) w fun t47 w=>
 gd t47 true (fun k=>k t22 w) w fun t49 w=>
 gd t47 true (fun k=>ev prog (binM .eql 3 (.tmp 49) (.const (.int .i64 3)) t49 (.int .i64 3)) w k) w fun t50 w=>
 pickS t47 t50 (.bool false) w fun t51 w=>
 gd t51 true (fun k=>k t27 w) w fun t53 w=>
 gd t51 true (fun k=>ev prog (binM .eql 3 (.tmp 53) (.const (.int .i64 35)) t53 (.int .i64 35)) w k) w fun t54 w=>
 pickS t51 t54 (.bool false) w fun t55 w=>
 gd t55 true (fun k=>k t30 w) w fun t57 w=>
 gd t55 true (fun k=>ev prog (binM .eql 3 (.tmp 57) (.const (.int .i64 3)) t57 (.int .i64 3)) w k) w fun t58 w=>
 pickS t55 t58 (.bool false) w fun t59 w=>
 gd t59 true (fun k=>k t32 w) w fun t61 w=>
 gd t59 true (fun k=>ev prog (binM .eql 3 (.tmp 61) (.const (.int .i64 0)) t61 (.int .i64 0)) w k) w fun t62 w=>
 pickS t59 t62 (.bool false) w fun t63 w=>
 gd t63 true (fun k=>k t36 w) w fun t65 w=>
 gd t63 true (fun k=>ev prog (binM .eql 3 (.tmp 65) (.const (.int .i64 3)) t65 (.int .i64 3)) w k) w fun t66 w=>
 pickS t63 t66 (.bool false) w fun t67 w=>
 K t67 w)
theorem f5_call (K:K1) (w:World) (h:f5_t K w):callS prog 5 #[] w K:=
 call_of_txt (args:= []) mixed Tryd.func5 .o (by kernel_rfl) (cast (by kernel_rfl) h)
def f16_t (x0:Value) (K:K1) (w:World):Prop:=
 ev prog (binM .mul 3 (.const (.int .i64 32)) (.tmp 10) (.int .i64 32) x0) w fun t11 w=>
 ev prog (binM .add 3 (.tmp 11) (.const (.int .i64 5)) t11 (.int .i64 5)) w fun t12 w=>
 callS prog 6 (pA #[t12]) w fun t13 w=>
 ev prog (Instr.extract t13 0) w fun t14 w=>
 ev prog (Instr.extract t13 1) w fun t15 w=>
 ev prog (binM .neq 25 (.tmp 16) (.const (.int .i64 0)) t15 (.int .i64 0)) w fun t17 w=>
 gd t17 false (fun k=>k t14 w) w fun t19 w=>
 gd t17 false (fun k=>ev prog (binM .eql 24 (.tmp 19) (.const (.pointer none)) t19 (.pointer none)) w k) w fun t20 w=>
 pickS t17 (.bool true) t20 w fun t21 w=>
 gd t21 false (fun k=>k t14 w) w fun t23 w=>
 gd t21 false (fun k=>callS prog 7 (pA #[t23,(.int .i64 0)]) w k) w fun t24 w=>
 gd t21 false (fun k=>ev prog (binM .eql 28 (.tmp 24) (.const (.pointer none)) t24 (.pointer none)) w k) w fun t25 w=>
 pickS t21 (.bool true) t25 w fun t26 w=>
 cndS t26 (
 K (.tuple #[(.pointer none),(.pointer none),(.pointer none)]) w) (
 callS prog 7 (pA #[t14,(.int .i64 0)]) w fun t28 w=>
 ev prog (Instr.makeInterface 28 t28) w fun t30 w=>
 ev prog (binM .mul 3 (.const (.int .i64 32)) (.tmp 31) (.int .i64 32) x0) w fun t32 w=>
 ev prog (binM .add 3 (.tmp 32) (.const (.int .i64 1)) t32 (.int .i64 1)) w fun t33 w=>
 callS prog 10 (pA #[t30,(.int .i64 3),t33]) w fun t34 w=>
 ev prog (binM .neq 25 (.tmp 34) (.const (.int .i64 0)) t34 (.int .i64 0)) w fun t35 w=>
 cndS t35 (
 K (.tuple #[(.pointer none),(.pointer none),(.pointer none)]) w) (
 ev prog (Instr.makeInterface 28 t28) w fun t38 w=>
 ev prog (binM .mul 3 (.const (.int .i64 32)) (.tmp 39) (.int .i64 32) x0) w fun t40 w=>
 ev prog (binM .add 3 (.tmp 40) (.const (.int .i64 1)) t40 (.int .i64 1)) w fun t41 w=>
 callS prog 11 (pA #[t38,(.int .i64 3),t41]) w fun t42 w=>
 ev prog (Instr.extract t42 0) w fun t43 w=>
 ev prog (Instr.extract t42 1) w fun t44 w=>
 ev prog (binM .neq 25 (.tmp 45) (.const (.int .i64 0)) t44 (.int .i64 0)) w fun t46 w=>
 cndS t46 (
 K (.tuple #[(.pointer none),(.pointer none),(.pointer none)]) w) (
 K (.tuple #[t14,t28,t43]) w)))
theorem f16_call (x0:Value) (K:K1) (w:World) (h:f16_t x0 K w):callS prog 16 #[x0] w K:=
 call_of_txt (args:= [x0]) mixed Tryd.func16 .o (by kernel_rfl) (cast (by kernel_rfl) h)
def bgD (n:Nat):DS:=fmtD (DS.zero (32*n+5)) 3 n
def bgF (_:Nat):Int×Int×Bool:=(-1,-1,false)
section
variable {w0 w w':World} {Y:Lay} {D D2:DS} {S b o cp l0 n k g:Nat} {f f2:Nat→Int×Int×Bool} {c t:Int}
theorem ArS.fcongr (h:ArS w0 w Y D S b o cp l0 n f) (e:∀k,k<n→f k=f2 k):ArS w0 w Y D S b o cp l0 n f2:=⟨h.L,h.gl,h.st,by have:=h.pl;rwa [plL_congr e] at this,h.nS,h.nb,h.n0,h.lt⟩
theorem fmt_wd (on:On D) (gd:Good D) (hl:l0+32*n≤D.n):∀m,m≤n→∀k,k<n→∀i,i<256→wd (fmtD D l0 m) (l0+32*k) i=if i=0∧k<m then sealN (hdX (-1) (-1) 1) else wd D (l0+32*k) i
 |0,_,k,hk,i,hi=>by rw [if_neg (by omega)];rfl
 |m+1,hm,k,hk,i,hi=>by
  obtain ⟨h1,h2,h3,h4⟩:=fmtD_ok on gd hl m (by omega)
  have ih:=fmt_wd on gd hl m (by omega) k hk i hi
  have cg:=clr_gen h1 h2 (l:=l0+32*m) (g:=1) (by omega) (by omega)
  have cc:=clr_cur (l:=l0+32*m) (g:=1) h1.off h1.err (by omega) cg.1.err
  have w1:=fun l'=>wd_one (l':=l') cc.1
  show wd ((fmtD D l0 m).run 0 (clrI (l0+32*m) 1)) (l0+32*k) i=_
  by_cases e:k=m
  ·subst e
   rw [(w1 0).1 i hi,ih]
   by_cases h0:i=0
   ·rw [if_pos h0,if_pos (by omega)]
   ·rw [if_neg h0,if_neg (by omega),if_neg (by omega)]
  ·rw [(w1 (l0+32*k)).2 (by omega) i hi,ih]
   by_cases h0:i=0∧k<m
   ·rw [if_pos h0,if_pos (by omega)]
   ·rw [if_neg h0,if_neg (by omega)]
theorem wd_zero (n l i:Nat):wd (DS.zero n) l i=0:=by
 unfold wd
 show (List.replicate (8*n) 0).getD _ 0=0
 rw [List.getD_eq_getElem?_getD,List.getElem?_replicate]
 split<;>rfl
theorem bg_ok (h0:0<n) (h5:n≤5):RgS (bgD n) 3 n bgF∧(bgD n).n=32*n+5∧(bgD n).exe≤15∧∀k,k<n→∀i,i<256→wd (bgD n) (3+32*k) i=if i=0 then sealN (hdX (-1) (-1) 1) else 0:=by
 have zn:(DS.zero (32*n+5)).n=32*n+5:=rfl
 have hlt:3+32*n≤(DS.zero (32*n+5)).n:=by rw [zn];omega
 obtain ⟨h1,h2,h3,h4⟩:=fmtD_ok (On.zero (32*n+5)) (Good.zero (32*n+5) (by omega) (by omega)) hlt n (Nat.le_refl _)
 have hw:∀k,k<n→∀i,i<256→wd (bgD n) (3+32*k) i=if i=0 then sealN (hdX (-1) (-1) 1) else 0:=fun k hk i hi=>by
  have:=fmt_wd (On.zero (32*n+5)) (Good.zero (32*n+5) (by omega) (by omega)) hlt n (Nat.le_refl _) k hk i hi
  unfold bgD
  rw [this,wd_zero]
  by_cases e:i=0
  ·rw [if_pos ⟨e,hk⟩,if_pos e]
  ·rw [if_neg (by omega),if_neg e]
 have hfr:=hd_free (g:=1) (by omega) (by omega)
 have hx:(DS.zero (32*n+5)).exe=0:=rfl
 refine ⟨⟨h1,h2,by unfold bgD;rw [h3];exact hlt,fun k hk=> ?_,fun k hk hh=> ?_⟩,by unfold bgD;rw [h3,zn],by unfold bgD;omega,hw⟩
 ·rw [hw k hk 0 (by omega),if_pos rfl]
  exact ⟨hfr.1,hfr.2.1.symm,hfr.2.2.1.symm⟩
 ·exact absurd (show (0:Int)≤-1 from hh) (by decide)
theorem k_begin22 (hG:Glob w) (h0:0<n) (h5:n≤5) (K:K1) (hK:∀w' Y S b o cp,ArS w w' Y (bgD n) S b o cp 3 n bgF→K (.tuple #[.pointer (some ⟨Y.d,0,none⟩),.pointer (some ⟨Y.tb 0,0,none⟩),stV S]) w'):
  callS prog 16 #[.int .i64 (n:Int)] w K:=by
 have e0:(32:Int)*(n:Int)+5=((32*n+5:Nat):Int):=by omega
 have e1:(32:Int)*(n:Int)+1=((32*n+1:Nat):Int):=by omega
 have zn:(DS.zero (32*n+5)).n=32*n+5:=rfl
 have zx:(DS.zero (32*n+5)).exe=0:=rfl
 have hz:=On.zero (32*n+5)
 have hgz:=Good.zero (32*n+5) (by omega) (by omega)
 obtain ⟨hb,hbn,hbx,hbw⟩:=bg_ok h0 h5
 have hq:(32*n+1)/32=n:=by omega
 refine f16_call _ _ _ ?_
 unfold f16_t
 simp (disch:=first|omega|simp only [RO]|(simp only [RZ]<;>omega)|fail) only [↓RBp,↓RA,↓reduceIte,Nat.reduceAdd,Nat.reduceMul,Nat.reduceEqDiff,RB,RX,RA2,e0,e1]
 refine k_New (32*n+5) (by omega) (by omega) _ (fun w1 Y he hd hF hdt=> ?_)
 have hT:∀(w2:World) (K:K1),Ext w1 w2→callS prog 7 #[.pointer (some ⟨Y.d,0,none⟩),.int .i64 0] w2 K=K (.pointer (some ⟨Y.tb 0,0,none⟩)) w2:=fun w2 K e=>by rw [←hdt];exact c_Thread (hd.ext e) 0 (by omega) K
 simp (disch:=first|omega|simp only [RO]|(simp only [RZ]<;>omega)|(with_reducible (repeat (first|assumption|exact Ext.refl _|refine Ext.alloc ?_ _|refine Ext.drew ?_|refine Ext.trans ?_ (by assumption))))|fail) only [↓RBp,↓RA,↓reduceIte,Nat.reduceAdd,Nat.reduceMul,Nat.reduceEqDiff,RB,RX,RA2,hT,e0,e1]
 have L1:Lv w w1 Y (DS.zero (32*n+5)):=⟨hd,hgz,he.trans (by repeat (first|(with_reducible first|refine eB ?_ _|assumption|exact eR _|refine eA ?_ _|refine eD ?_|refine eT ?_ (by assumption))|exact eR _)),hF⟩
 refine k_AFormat (l0:=3) (q:=32*n+1) L1 hG hz hgz (by omega) (by omega) (by omega) _ (fun w2 Y2 st=> ?_)
 rw [hq] at st
 have L2:Lv w w2 Y2 (bgD n):=L1.step st hb.gd
 have tb:=st.tb
 have dd:=st.d
 rw [←tb,←dd]
 simp (disch:=first|omega|simp only [RO]|(simp only [RZ]<;>omega)|(with_reducible (repeat (first|assumption|exact Ext.refl _|refine Ext.alloc ?_ _|refine Ext.drew ?_|refine Ext.trans ?_ (by assumption))))|fail) only [↓RBp,↓RA,↓reduceIte,Nat.reduceAdd,Nat.reduceMul,Nat.reduceEqDiff,RB,RX,RA2,e1]
 refine k_AOpen (l0:=3) (q:=32*n+1) (n:=n) L2 hG hb.on.off hb.on.err (by omega) (by omega) hq _ (fun hn=>absurd (fun k hk=>(hb.ag k hk).1) hn) (fun _ S b o cp w3 e3 _ _ h3=> ?_)
 simp (disch:=first|omega|simp only [RO]|(simp only [RZ]<;>omega)|fail) only [↓RBp,↓RA,↓reduceIte,Nat.reduceAdd,Nat.reduceMul,Nat.reduceEqDiff,RB,RX,RA2]
 refine hK _ Y2 S b o cp (h3.fcongr (fun k hk=> ?_))
 have:=hb.ag k hk
 unfold opF
 rw [←this.2.1,←this.2.2];rfl
theorem ClOk.al (h:ClOk D l0 n f c t D2 f2 k g) (c0:0≤c) (c5:c<5):alF D2 (l0+32*k) c (perS c).toNat=true:=by
 refine alF_of (fun i hi=> ?_)
 have hp:=perS_in c0 c5
 have hi':(i:Int)<perS c:=by omega
 have bd:=offN_bd c0 c5 hi'
 have h1:=h.own (offN c i) bd.2.2
 have h2:=h.own 1 (by omega)
 have e1:planF c t g (wd D (l0+32*k)) (offN c i)=sealN (blkX g 0 176):=by
  unfold planF;rw [if_neg (by omega),if_pos (isB_mem.2 ⟨i,hi,rfl⟩)]
 have e2:planF c t g (wd D (l0+32*k)) 1=0:=by
  unfold planF
  rw [if_neg (by omega),if_neg,if_pos (by omega)]
  intro hb
  obtain ⟨q,hq,he⟩:=isB_mem.1 hb
  have:=offN_bd c0 c5 (show (q:Int)<perS c by omega)
  omega
 unfold okF
 rw [h1,h2,e1,e2,isS_blk h.g6 (by omega) (by omega),bit0,bS_blk h.g6 (by omega) (by omega),bG_blk h.g6 (by omega) (by omega)]
 have:=h.g0
 simp [this]
theorem k_awake22 (hG:Glob w) (K:K1) (hK:∀w',Ext w w'→K (.bool true) w'):
  callS prog 5 #[] w K:=by
 obtain ⟨hb,hbn,hbx,hbw⟩:=bg_ok (n:=2) (by omega) (by omega)
 refine f5_call _ _ ?_
 unfold f5_t
 simp (disch:=first|omega|simp only [RO]|(simp only [RZ]<;>omega)|fail) only [↓RBp,↓RA,↓reduceIte,Nat.reduceAdd,Nat.reduceMul,Nat.reduceEqDiff,RB,RX,RA2]
 refine k_begin22 (n:=2) hG (by omega) (by omega) _ (fun w1 Y1 S b o cp h1=> ?_)
 have ow:∀D2 f2 r e c t,ClRes (bgD 2) 3 2 bgF c t D2 f2 r e→True:=fun _ _ _ _ _ _ _=>trivial
 simp (disch:=first|omega|simp only [RO]|(simp only [RZ]<;>omega)|fail) only [↓RBp,↓RA,↓reduceIte,Nat.reduceAdd,Nat.reduceMul,Nat.reduceEqDiff,RB,RX,RA2]
 refine k_Claim h1 hb.ag hb.on.off hb.on.err (by omega) (by omega) (by omega) (by omega) (by omega) _ (fun D2 f2 r2 e2 hr2 w2 Y2 a2 h2=> ?_)
 rcases cl_ok hb (by omega) (by omega) (by omega) (by omega) hr2 with ⟨_,_,_,_,hn,_⟩|⟨rfl,k2,g2,rfl,ok2,rg2,n2,x2⟩
 ·exact absurd (show (bgF 0).1<0 by decide) (hn 0 (by omega))
 have k20:k2=0:=by
  rcases ok2.how with ⟨_,h,_⟩|⟨h,_⟩
  ·rcases Nat.eq_zero_or_pos k2 with h3|h3
   ·exact h3
   ·exact absurd (show (bgF 0).1<0 by decide) (h 0 h3)
  ·exact absurd (show (bgF 0).1<0 by decide) (h 0 (by omega))
 subst k20
 have f20:f2 0=(0,3,false):=by rw [ok2.fe,upF_eq];rfl
 have f21:f2 1=(-1,-1,false):=by rw [ok2.fe,upF_ne _ _ (by omega)];rfl
 simp (disch:=first|omega|simp only [RO]|(simp only [RZ]<;>omega)|fail) only [↓RBp,↓RA,↓reduceIte,Nat.reduceAdd,Nat.reduceMul,Nat.reduceEqDiff,RB,RX,RA2]
 refine k_Claim h2 rg2.ag rg2.on.off rg2.on.err (by omega) (by omega) (by omega) (by omega) (by omega) _ (fun D3 f3 r3 e3 hr3 w3 Y3 a3 h3=> ?_)
 rcases cl_ok rg2 (by omega) (by omega) (by omega) (by omega) hr3 with ⟨_,_,_,_,hn,_⟩|⟨rfl,k3,g3,rfl,ok3,rg3,n3,x3⟩
 ·exact absurd (show (f2 1).1<0 by rw [f21];decide) (hn 1 (by omega))
 have k31:k3=1:=by
  have:=ok3.kn
  rcases ok3.how with ⟨h,_,_⟩|⟨h,_⟩
  ·by_cases h0:k3=0
   ·subst h0;rw [f20] at h;exact absurd h (by decide)
   ·omega
  ·exact absurd (show (f2 1).1<0 by rw [f21];decide) (h 1 (by omega))
 subst k31
 have f30:f3 0=(0,3,false):=by rw [ok3.fe,upF_ne _ _ (by omega)];exact f20
 have f31:f3 1=(0,5,false):=by rw [ok3.fe,upF_eq,f21]
 have fr3:frC f3 2=0:=by simp [frC,f30,f31]
 simp (disch:=first|omega|simp only [RO]|(simp only [RZ]<;>omega)|fail) only [↓RBp,↓RA,↓reduceIte,Nat.reduceAdd,Nat.reduceMul,Nat.reduceEqDiff,RB,RX,RA2]
 refine k_OwnerAt (k:=0) h3 (by omega) _ (fun w4 e4=> ?_)
 have h4:=h3.ext e4
 rw [f30]
 simp (disch:=first|omega|simp only [RO]|(simp only [RZ]<;>omega)|fail) only [↓RBp,↓RA,↓reduceIte,Nat.reduceAdd,Nat.reduceMul,Nat.reduceEqDiff,RB,RX,RA2]
 refine k_FreeChunks h4 _ (fun w5 e5=> ?_)
 have h5:=h4.ext e5
 rw [fr3]
 simp (disch:=first|omega|simp only [RO]|(simp only [RZ]<;>omega)|fail) only [↓RBp,↓RA,↓reduceIte,Nat.reduceAdd,Nat.reduceMul,Nat.reduceEqDiff,RB,RX,RA2]
 refine k_Claim h5 rg3.ag rg3.on.off rg3.on.err (by omega) (by omega) (by omega) (by omega) (by omega) _ (fun D6 f6 r6 e6 hr6 w6 Y6 a6 h6=> ?_)
 have al:=ok2.al (by omega) (by omega)
 have hp:=perS_in (c:=0) (by omega) (by omega)
 have al3:=(alF_congr (D:=D2) (D':=D3) (l:=3+32*0) (c:=0) (ok3.oth 0 (by omega) (by omega)) (by omega) (by omega) (perS 0).toNat (by omega)).1
 rw [al] at al3
 have em:emG D3 3 f3 0≠none:=by
  unfold emG
  rw [f30,if_neg (by decide),if_neg (by decide),if_pos al3]
  intro h;cases h
 rcases cl_ok rg3 (by omega) (by omega) (by omega) (by omega) hr6 with ⟨_,_,_,_,_,hn⟩|⟨rfl,k6,g6,rfl,ok6,rg6,n6,x6⟩
 ·exact absurd (hn 0 (by omega)) em
 have k60:k6=0:=by
  have:=ok6.kn
  rcases ok6.how with ⟨h,_,_⟩|⟨_,_,h⟩
  ·exfalso
   by_cases h0:k6=0
   ·subst h0;rw [f30] at h;exact absurd h (by decide)
   ·have:k6=1:=by omega
    subst this;rw [f31] at h;exact absurd h (by decide)
  ·rcases Nat.eq_zero_or_pos k6 with h3|h3
   ·exact h3
   ·exact absurd (h 0 h3) em
 subst k60
 simp (disch:=first|omega|simp only [RO]|(simp only [RZ]<;>omega)|fail) only [↓RBp,↓RA,↓reduceIte,Nat.reduceAdd,Nat.reduceMul,Nat.reduceEqDiff,RB,RX,RA2]
 exact hK _ h6.L.ex
end
end Go.Proofs.YtifpinhjpbgnoaaDoor
