/-
  Part 6 of what the proofs of this seat share.
-/
import Derived.Test.YtmpehclnnjgmcaaGreatDoorDf5
import Derived.Test.YtmpehclnnjgmcaaGreatDoorDf2
import Derived.Test.YtmpehclnnjgmcaaGreatDoorDf1
set_option linter.unusedSimpArgs false
set_option linter.unusedVariables false
set_option maxHeartbeats 20000000
set_option maxRecDepth 100000
set_option linter.defProp false
open Go.Proofs.Tryz (prog)
open Go renaming World->ap,Value->aA
open List renaming mem_singleton->an,append_nil->aB,perm_ext_iff_of_nodup->a0,mem_filter->a9,filter_sublist->bb,length_map->bl,getElem?_cons_succ->bv,length_singleton->b0,length_filter_le->b7,mem_cons_of_mem->b8,length_range->b9,nodup_range->ca,mem_append->cb,mem_range->cd
open Nat renaming le_trans->a7,le_refl->a8
namespace Go.Proofs.YtmpehclnnjgmcaaGreatDoor
open Go Go.Sh
def hlD (n:Nat):DS:=(DS.zero (26+32*n)).run 0 (az [(0,0)])
def hbD (n:Nat):DS:=gM (hlD n) 26 n
def wlF (Y:Lay) (H:HL) (n:Nat) (lv hd dd:aA) (i:Nat):aA:= [Value.pointer (some ⟨Y.d,0,none⟩),.pointer (some ⟨Y.tb 0,0,none⟩),.pointer (some ⟨H.B,0,none⟩),hpV H,.int .i64 (n:Int),lv,hd,dd].getD i undef
section
variable {w0 w w':ap} {Y Y':Lay} {D:DS} {n k B:Nat} {f:Idx}
def Lf (n7:n<=120):On (hlD n)/\aH (hlD n)/\(hlD n).n=26+32*n/\(hlD n).exe<=3/\(∀j,(hlD n).err j=0)/\∀j,(hlD n).cur j=0:=by
 have zn:(DS.zero (26+32*n)).n=26+32*n:=rfl;have h1:=On.stores (On.zero (26+32*n)) [(0,0)] (λx hx=>by
  simp only [an] at hx;subst hx;exact ⟨rfl,show 0<(26+32*n)*64 by omega⟩)
 have zc:∀j,(DS.zero (26+32*n)).cur j=0:=λj=>by
  show (List.replicate (8*(26+32*n)) 0).getD j 0=0;rw [List.getD_eq_getElem?_getD,List.getElem?_replicate];split<;>rfl
 refine ⟨h1.1,aH.run 0 oM _ _ (aH.zero _ oM oM) (bt (λx hx=>by simp only [an] at hx;subst hx;simp only;omega)),fh 0 _ _,?_,λj=> ?_,λj=> ?_⟩
 ·have a:=ee 0 (az [(0,0)]) (DS.zero (26+32*n));have b:=aR [((0:Nat),(0:Nat))];have c:(DS.zero (26+32*n)).exe=0:=rfl;unfold hlD;simp only [b0] at b;omega
 ·by_cases e:j=0
  ·subst e;exact h1.1.err
  ·unfold hlD;rw [fd e];rfl
 ·unfold hlD;rw [h1.2];simp only [aD,List.foldl_cons,List.foldl_nil];split
  ·rfl
  ·exact zc j
def Yq (on:On D) (gd:aH D) (hl:26+32*n<=D.n):∀m,m<=n->(∀j,(gM D 26 m).err j=D.err j)/\(gM D 26 m).cur 0=D.cur 0:=by
 intro m
 induction m with
 |zero=>intro _;exact ⟨λ_=>rfl,rfl⟩
 |succ m ih=>
  intro hm;have i:=ih oM;obtain ⟨h1,h2,h3,h4⟩:=kL on gd hl m oM;have cg:=kK h1 h2 (l:=26+32*m) (g:=1) oM oM;have cc:=qT (l:=26+32*m) (g:=1) h1.off h1.err oM cg.1.err;refine ⟨λj=> ?_,?_⟩
  ·show ((gM D 26 m).run 0 (cD (26+32*m) 1)).err j=_;by_cases e:j=0
   ·subst e;rw [cg.1.err,on.err]
   ·rw [fd e];exact i.1 j
  ·show ((gM D 26 m).run 0 (cD (26+32*m) 1)).cur 0=_;rw [cc.1];simp only;rw [if_neg oM];exact i.2
def xK (n7:n<=120):RgS (hbD n) 26 n (opF (hbD n) 26)/\(hbD n).n=26+32*n/\(hbD n).exe<=3+3*n/\(∀j,(hbD n).err j=0)/\(hbD n).cur 0=0/\∀k,k<n->∀i,i<256->wd (hbD n) (26+32*k) i=if i=0 then sealN (hdX (-1) (-1) 1) else 0:=by
 obtain ⟨a1,a2,a3,a4,a5,a6⟩:=Lf n7;have a:26+32*n<=(hlD n).n:=oM;obtain ⟨h1,h2,h3,h4⟩:=kL a1 a2 a n (a8 _);have fr:=Yq a1 a2 a n (a8 _);have hw:∀k,k<n->∀i,i<256->wd (hbD n) (26+32*k) i=if i=0 then sealN (hdX (-1) (-1) 1) else 0:=λk hk i hi=>by
  have:=V4 a1 a2 a n (a8 _) k hk i hi;unfold hbD;rw [this];by_cases e:i=0
  ·rw [if_pos ⟨e,hk⟩,if_pos e]
  ·rw [if_neg oM,if_neg e];unfold wd;exact a6 _
 have b:=Af (g:=1) oM oM;refine ⟨⟨h1,h2,by unfold hbD;rw [h3];exact a,λk hk=> ?_,λk hk hh=> ?_⟩,by unfold hbD;rw [h3,a3],by unfold hbD;omega,λj=>by unfold hbD;rw [fr.1,a5],by unfold hbD;rw [fr.2,a6],hw⟩
 ·refine ⟨?_,rfl,rfl⟩;rw [hw k hk 0 oM,if_pos rfl];exact b.1
 ·have hh:0<=hC (wd (hbD n) (26+32*k) 0):=hh;rw [hw k hk 0 oM,if_pos rfl,b.2.1] at hh;exact absurd hh (by decide)
def acP {k:Nat} (n7:n<=120) (hk:k<n):opF (hbD n) 26 k=(-1,-1,false):=by
 have hw:=(xK n7).2.2.2.2.2 k hk 0 oM;rw [if_pos rfl] at hw;have a:=Af (g:=1) oM oM;unfold opF;rw [hw,a.2.1,a.2.2.1]
def Yr (h:Lv w0 w Y D) (gl:bq w0) (n0:0<n) (rg:RgS D 26 n (opF D 26)) (er:∀k,k<8->D.err k=0) (l:D.cur 0=0) (dt:Y.dt=Y.tb/\∀i,Y.ids i=i) (K:K1)
  (hK:∀Wb H w',Ext w w'->w.heap.size<=Wb->af w' Wb 38 8 (wlF Y H n (.slice none 0 0) (.slice none 0 0) (.slice none 0 0))->H.av=none->H.avl= []->H.lk=false->HpS w0 w' Y D H n (opF D 26) []->(¬Y.F Wb/\Wb≠H.b/\Wb≠H.p/\Wb≠H.rm/\Wb≠H.hm)->(∀x,(x=H.S\/x=H.b\/x=H.p\/x=H.rm\/x=H.hm\/x=H.B\/H.av=some x)->w.heap.size<=x)->K (.pointer (some ⟨Wb,0,none⟩)) w'):
  ad prog 57 #[.pointer (some ⟨Y.d,0,none⟩),.int .i64 (n:Int)] w K:=by
 have u:=h.gd.n;have v:=rg.lt;have e0:(32:Int)*(n:Int)=((32*n:Nat):Int):=oM;have hT:∀(w1:ap) (K:K1),Ext w w1->ad prog 50 #[.pointer (some ⟨Y.d,0,none⟩),.int .i64 0] w1 K=K (.pointer (some ⟨Y.tb 0,0,none⟩)) w1:=λw1 K e=>by rw [<-dt.1];exact jD (h.dv.ext e) 0 oM K
 have t:=λ(w1:ap) (e:Ext w w1) (K:K1) hK=>X5 (h.dv.ext e) h.gd oM rfl K hK
 have m:=λ(w1:ap) (e:Ext w w1) (B:Nat) hC (K:K1) hK=>HZ (B:=B) (h.dv.ext e) h.gd oM rfl hC rg.on.off rg.on.err l K hK
 refine VX _ _ _ _ ?_;unfold aai;refine gG hT ?_;refine t _ xZ _ (λB w1 e1 hB lg=> ?_);have g:Ext w w1:=Ext.trans xZ e1;have q:w.heap.size<=B:=by simpa only [RZ] using hB
 refine zS0 ?_;refine m _ (g.trans xZ) B (lg.ext xZ) _ (λw2 e2=> ?_);have f:Ext w w2:=g.trans (Ext.trans xZ e2);have r:=lg.ext (Ext.trans xZ e2);have nB:w0.heap.size<=B/\¬Y.F B:=⟨by have:=h.ex.size;omega,λhf=>by have:=h.dv.lt hf;omega⟩;refine zS1 e0 ?_;refine Yp (h.ext (f.trans xZ)) gl n0 rg (r.ext xZ) nB er l dt _ (λH w3 e3 o h1 h2 h3 hp a=> ?_);have j:Ext w w3:=f.trans (Ext.trans xZ e3);subst o;have sz:=j.size;have c:=f.size;have hN:=af.new w3 [Value.pointer (some ⟨Y.d,0,none⟩),.pointer (some ⟨Y.tb 0,0,none⟩),.pointer (some ⟨H.B,0,none⟩),hpV H,.int .i64 (n:Int),.slice none 0 0,.slice none 0 0,.slice none 0 0] 38;have e4:Ext w3 (w3.alloc (.cells #[Value.pointer (some ⟨Y.d,0,none⟩),.pointer (some ⟨Y.tb 0,0,none⟩),.pointer (some ⟨H.B,0,none⟩),hpV H,.int .i64 (n:Int),.slice none 0 0,.slice none 0 0,.slice none 0 0] 38)):=Ext.alloc_self _ _;have s:=hK w3.heap.size H _ (j.trans e4) sz hN h1 h2 h3 (hp.ext e4) (hp.new (a8 _)) (λx hx=>by
  rcases hx with hx|hx|hx|hx|hx|rfl|hx
  ·exact a7 (by simpa only [RZ] using c) (a x (.inl hx))
  ·exact a7 (by simpa only [RZ] using c) (a x (.inr (.inl hx)))
  ·exact a7 (by simpa only [RZ] using c) (a x (.inr (.inr (.inl hx))))
  ·exact a7 (by simpa only [RZ] using c) (a x (.inr (.inr (.inr (.inl hx)))))
  ·exact a7 (by simpa only [RZ] using c) (a x (.inr (.inr (.inr (.inr hx)))))
  ·exact q
  ·rw [h1] at hx;cases hx)
 simp (disch:=try exact dZ) only [↓RBp,↓RA,↓reduceIte,Nat.reduceAdd,Nat.reduceMul,Nat.reduceEqDiff,RB,RX,RA2,List.getElem?_toArray,bv,List.getElem?_cons_zero,Option.isSome_some,Bool.and_self,List.setIfInBounds_toArray,List.set_cons_succ,List.set_cons_zero];exact s
def V5 (hG:bq w) (n0:0<n) (n7:n<=120) (K:K1)
  (hK:∀Wb H Y w',Ext w w'->w.heap.size<=Wb->af w' Wb 38 8 (wlF Y H n (.slice none 0 0) (.slice none 0 0) (.slice none 0 0))->H.av=none->H.avl= []->H.lk=false->HpS w w' Y (hbD n) H n (opF (hbD n) 26) []->(¬Y.F Wb/\Wb≠H.b/\Wb≠H.p/\Wb≠H.rm/\Wb≠H.hm)->K (.pointer (some ⟨Wb,0,none⟩)) w'):
  ad prog 14 #[.int .i64 (n:Int)] w K:=by
 obtain ⟨a1,a2,a3,a4,a5,a6⟩:=Lf n7;obtain ⟨b1,b2,b3,b4,b5,b6⟩:=xK n7;have zn:(DS.zero (26+32*n)).n=26+32*n:=rfl;have zx:(DS.zero (26+32*n)).exe=0:=rfl;have e0:(32:Int)*(n:Int)=((32*n:Nat):Int):=oM;have e1:(26:Int)+((32*n:Nat):Int)=((26+32*n:Nat):Int):=oM;have hz:=On.zero (26+32*n);have j:=aH.zero (26+32*n) oM oM;have l:32*n/32=n:=oM;refine VV _ _ _ ?_;unfold aag;refine zS2 e0 e1 ?_;refine acq (26+32*n) oM oM _ (λw1 Y he hd hF g=> ?_);have L1:Lv w w1 Y (DS.zero (26+32*n)):=⟨hd,j,he.trans xZ,hF⟩;have hT:∀(w2:ap) (K:K1),Ext w1 w2->ad prog 50 #[.pointer (some ⟨Y.d,0,none⟩),.int .i64 0] w2 K=K (.pointer (some ⟨Y.tb 0,0,none⟩)) w2:=λw2 K e=>by rw [<-g.1];exact jD (hd.ext e) 0 oM K
 have r:=λ(w2:ap) (e:Ext w1 w2) (K:K1) hK=>Ph (L1.ext e).dv j hz (by rw [zn];omega) (by rw [zx];omega) rfl K hK
 have a:∀w2 w3 Y2,Ext w1 w2->Stp w2 Y w3 Y2 (hlD n)->∀(w4:ap) (K:K1),Ext w3 w4->(∀w5 Y5,Stp w4 Y2 w5 Y5 (hbD n)->K (.int .i64 0) w5)->ad prog 63 #[.iface 31 (.pointer (some ⟨Y.tb 0,0,none⟩)),.int .i64 ((26:Nat):Int),.int .i64 ((32*n:Nat):Int)] w4 K:=λw2 w3 Y2 e2 st w4 K e4 m=>by
  have L3:=((L1.ext e2).step st a2).ext e4;rw [<-show Y2.tb=Y.tb from st.tb];refine UB _ _ _ _ _ ?_;unfold ZV;refine OH (l0:=26) (q:=32*n) L3 hG a1 a2 oM oM oM _ (λw5 Y5 s5=> ?_);rw [l] at s5;exact m w5 Y5 s5
 have f:∀w2 w3 Y2 w4 w5 Y5,Ext w1 w2->Stp w2 Y w3 Y2 (hlD n)->Ext w3 w4->Stp w4 Y2 w5 Y5 (hbD n)->∀(w6:ap),Ext w5 w6->ad prog 57 #[.pointer (some ⟨Y.d,0,none⟩),.int .i64 (n:Int)] w6 K:=λw2 w3 Y2 w4 w5 Y5 e2 st e4 s5 w6 e6=>by
  have L3:=((L1.ext e2).step st a2).ext e4;have L5:=(L3.step s5 b1.gd).ext e6;have hd2:Y5.d=Y.d:=s5.d.trans st.d;rw [<-hd2];have o:Y5.dt=Y5.tb/\∀i,Y5.ids i=i:=by
   rw [s5.y,st.y];exact g
  exact Yr L5 hG n0 b1 (λk _=>b4 k) b5 o K (λWb H w' e7 hW c h1 h2 h3 hp ne _=>hK Wb H Y5 w' (L5.ex.trans e7) (a7 L5.ex.size hW) c h1 h2 h3 hp ne)
 refine eQ hT e0 e1 ?_;refine r _ xZ _ (λw3 Y2 st=> ?_);have h:Stp w1 Y w3 Y2 (hlD n):=st;have a:=a w1 w3 Y2 (Ext.refl _) h;have f:=f w1 w3 Y2;refine eQ hT e0 e1 ?_;refine a _ _ xZ (λw5 Y5 s5=> ?_);refine zS0 ?_;exact f _ w5 Y5 (Ext.refl _) h xZ s5 _ xZ
end
section
variable {D D2 D3:DS} {f f2 f3:Idx} {R:List Nat} {n k i p q kd:Nat} {A:List Int} {t c:Int}
def V6 (rg:RgS D 26 n f) (nn:D.n<=4096) (hk:k<n) (h0:0<=(f k).1) (hi:(i:Int)<perS (f k).1) (hf:∀j,(f3 j).1=(f j).1):Liv (zeD D (26+32*k) (f k).1 i) f3 n q↔Liv D f n q:=by
 have c:=rg.lt;have z:=m9 rg.on (l:=26+32*k) oM nn h0 (rg.cls hk).1 hi;have e:∀j i',j<n->0<=(f j).1->((i':Nat):Int)<perS (f j).1->wd (zeD D (26+32*k) (f k).1 i) (26+32*j) (offN (f j).1 i')=wd D (26+32*j) (offN (f j).1 i'):=λj i' hj b a=>by
  by_cases e:j=k
  ·subst e;exact z.2.1 i' a
  ·exact z.2.2 _ oM _ (aK b (rg.cls hj).1 a).2.2
 constructor
 ·rintro ⟨j,i',a1,a2,a3,a4,a5⟩;rw [hf] at a2 a3 a4 a5;rw [e j i' a1 a2 a3] at a4 a5;exact ⟨j,i',a1,a2,a3,a4,a5⟩
 ·rintro ⟨j,i',a1,a2,a3,a4,a5⟩;rw [<-e j i' a1 a2 a3] at a4 a5;refine ⟨j,i',a1,?_,?_,?_,?_⟩<;>rw [hf]<;>assumption
def D9 {g:Nat} {F:Nat->Nat} (c0:0<=c) (c5:c<5) (hi:(i:Int)<perS c) (g6:g<65536):ir c t g F (offN c i)=sealN (dg g 0 176)/\bS (sealN (dg g 0 176))=176:=by
 have hp:=aJ c0 c5;have bd:=aK c0 c5 hi;refine ⟨?_,oZ g6 oM oM⟩;unfold ir;rw [if_neg oM,if_pos (kM.2 ⟨i,by omega,rfl⟩)]
def Bn (rg:RgS D 26 n f) (nn:D.n<=4096) (V:uB D f R n A t c kd D2 f2 D3 f3 p k i):Liv D3 f3 n q↔Liv D f n q:=by
 have l:=rg.lt;have n2:D2.n<=4096:=by
  have:=V.n3;rw [V.d3] at this;have h:=fh 0 (az (zW (pOff (26+32*k) c i) (wordsS c).toNat)) D2;have h':(zeD D2 (26+32*k) c i).n=D2.n:=h;omega
 have hz:Liv D3 f3 n q↔Liv D2 f2 n q:=by
  rw [V.d3,<-V.fc];refine V6 V.rg2 n2 V.kn (by rw [V.fc];exact V.c0) (by rw [V.fc];exact V.iN) (λj=> ?_);rw [V.f3];by_cases e:j=k
  ·subst e;rw [bu,V.fc]
  ·rw [bO _ _ e]
 rw [hz];rcases V.how with ⟨e1,e2,_⟩|⟨⟨g,ok⟩,_⟩
 ·rw [e1,e2]
 ·have old:∀j,j≠k->f2 j=f j:=λj hj=>by rw [ok.fe,bO _ _ hj]
  have wo:∀j i',j<n->j≠k->0<=(f j).1->((i':Nat):Int)<perS (f j).1->wd D2 (26+32*j) (offN (f j).1 i')=wd D (26+32*j) (offN (f j).1 i'):=λj i' hj a h0 b=>ok.oth j hj a _ (aK h0 (rg.cls hj).1 b).2.2
  constructor
  ·rintro ⟨j,i',a1,a2,a3,a4,a5⟩;by_cases e:j=k
   ·subst e;rw [V.fc] at a3 a5;rw [ok.own _ (aK V.c0 V.c5 a3).2.2] at a5;have:=D9 (t:=t) (F:=wd D (26+32*j)) V.c0 V.c5 a3 ok.g6;rw [this.1,this.2] at a5
    cases a5
   ·rw [old j e] at a2 a3 a4 a5;rw [wo j i' a1 e a2 a3] at a4 a5;exact ⟨j,i',a1,a2,a3,a4,a5⟩
  ·rintro ⟨j,i',a1,a2,a3,a4,a5⟩;by_cases e:j=k
   ·subst e;rcases ok.how with ⟨h,_⟩|⟨_,h,_⟩
    ·omega
    ·unfold emG at h;rw [if_neg oM] at h;split at h
     ·cases h
     ·split at h
      ·rename_i _ d;have ho:=T0 d i' oM;unfold okF at ho;simp only [Bool.and_eq_true,decide_eq_true_eq] at ho;have:=ho.2.2.1;omega
      ·cases h
   ·rw [<-wo j i' a1 e a2 a3] at a4 a5;refine ⟨j,i',a1,?_,?_,?_,?_⟩<;>rw [old j e]<;>assumption
def Rsv.not_liv (h:Rsv D f n p) (hn:26+32*n<=4096) (rg:RgS D 26 n f):¬Liv D f n p:=λhl=>by
 have a:=(h.at_ hn rg).2.1;have b:=(hl.at_ hn rg).2.1.2.2.2.2;omega
def nu {l:Nat} (c0:0<=c) (c5:c<5) (hl:l<=4096):∀m:Nat,(m:Int)<=perS c->(livI D l c m).Nodup/\∀p∈livI D l c m,∃i:Nat,i<m/\pO p=pOff l c i:=by
 intro m
 induction m with
 |zero=>intro _;exact ⟨by simp [livI],λp hp=>by cases hp⟩
 |succ m ih=>
  intro hm;obtain ⟨a,b⟩:=ih oM;have g:=dx (l:=l) (i:=m) hl c0 c5 oM;have d:=Aj (pOff l c m) (bG (wd D l (offN c m))) (bK (wd D l (offN c m))) g.1 g.2.1;rw [livI];by_cases hk:mkB D l c (m:Int) 177=true
  ·rw [if_pos hk];refine ⟨List.nodup_append.2 ⟨a,by simp,λx hx y hy e=> ?_⟩,λp hp=> ?_⟩
   ·simp only [an] at hy;obtain ⟨i,hi,f⟩:=b x hx;rw [e,hy,d] at f;have:=tX (k:=0) c0 c5 f;omega
   ·rcases List.mem_append.1 hp with hp|hp
    ·obtain ⟨i,hi,h⟩:=b p hp;exact ⟨i,by omega,h⟩
    ·simp only [an] at hp;exact ⟨m,by omega,by rw [hp,d]⟩
  ·rw [if_neg hk,aB];exact ⟨a,λp hp=>by obtain ⟨i,hi,h⟩:=b p hp;exact ⟨i,by omega,h⟩⟩
def Ys (rg:RgS D 26 n f) (nn:D.n<=4096):∀m,m<=n->(livN D f m).Nodup:=by
 intro m
 induction m with
 |zero=>intro _;simp [livN]
 |succ m ih=>
  intro hm;have g:=rg.lt;rw [livN];split
  ·rw [aB];exact ih oM
  ·rename_i h0;have c5:=(rg.cls (show m<n by omega)).1;have hp:=aJ (show 0<=(f m).1 by omega) c5;have a:=nu (D:=D) (l:=26+32*m) (c:=(f m).1) oM c5 oM (perS (f m).1).toNat oM;refine List.nodup_append.2 ⟨ih oM,a.1,λx hx y hy e=> ?_⟩;obtain ⟨j,hj,d,hx⟩:=tZ.1 hx;have cj:=(rg.cls (show j<n by omega)).1;have h:=aJ d cj;have b:=nu (D:=D) (l:=26+32*j) (c:=(f j).1) d cj oM (perS (f j).1).toNat oM;obtain ⟨i1,h1,e1⟩:=b.2 x hx;obtain ⟨i2,h2,e2⟩:=a.2 y hy;have p1:=je (k:=j) (n:=n) d cj (i:=i1) oM;have p2:=je (k:=m) (n:=n) (show 0<=(f m).1 by omega) c5 (i:=i2) oM;rw [<-e1] at p1;rw [<-e2,<-e] at p2;omega
def qk (rg:RgS D 26 n f) (nn:D.n<=4096) {L:List Nat} (hn:L.Nodup) (h:∀q,Liv D f n q↔q∈L):(livN D f n).length=L.length:=
 ((a0 (Ys rg nn n (a8 _)) hn).2 (λq=>(kQ rg).trans (h q))).length_eq
end
structure LW (w0 w:ap) (Wb:Nat) (lv hd dd:aA) (Y:Lay) (D:DS) (H:HL) (n:Nat) (f:Idx) (R:List Nat):Prop where
 hp:HpS w0 w Y D H n f R
 bx:af w Wb 38 8 (wlF Y H n lv hd dd)
 n0:w0.heap.size<=Wb
 ne:¬Y.F Wb/\Wb≠H.b/\Wb≠H.p/\Wb≠H.rm/\Wb≠H.hm
section
variable {w0 w w':ap} {Y Y':Lay} {D D2 D3:DS} {H:HL} {n k i p q kd Wb:Nat} {f f2 f3:Idx} {R R2:List Nat} {A:List Int} {lv hd dd:aA} {c t:Int}
def bk (b:af w Wb 38 8 (wlF Y H n lv hd dd)):w.cell? ⟨Wb,0,none⟩=some (.pointer (some ⟨Y.d,0,none⟩))/\w.cell? ⟨Wb,1,none⟩=some (.pointer (some ⟨Y.tb 0,0,none⟩))/\w.cell? ⟨Wb,2,none⟩=some (.pointer (some ⟨H.B,0,none⟩))/\w.cell? ⟨Wb,3,none⟩=some (hpV H)/\w.cell? ⟨Wb,4,none⟩=some (.int .i64 (n:Int))/\w.cell? ⟨Wb,5,none⟩=some lv/\w.cell? ⟨Wb,6,none⟩=some hd/\w.cell? ⟨Wb,7,none⟩=some dd:=
 ⟨b.cell oM,b.cell oM,b.cell oM,b.cell oM,b.cell oM,b.cell oM,b.cell oM,b.cell oM⟩
def LW.st (h:LW w0 w Wb lv hd dd Y D H n f R) (s:HSt w Y H w' Y') (hp:HpS w0 w' Y' D2 H n f2 R2):LW w0 w' Wb lv hd dd Y' D2 H n f2 R2:=by
 have hl:=h.bx.lt;have hb:=h.bx.frm s.frm (λhf=>hf.elim h.ne.1 (λhf=>hf.elim h.ne.2.1 (λhf=>hf.elim h.ne.2.2.1 (λhf=>hf.elim h.ne.2.2.2.1 h.ne.2.2.2.2))));refine ⟨hp,hb.congr (λi _=> ?_),h.n0,λhf=> ?_,h.ne.2⟩
 ·unfold wlF;rw [s.d,s.tb]
 ·rcases s.fr _ hf with a|a
  ·exact h.ne.1 a
  ·omega
def LW.ext (h:LW w0 w Wb lv hd dd Y D H n f R) (e:Ext w w'):LW w0 w' Wb lv hd dd Y D H n f R:=h.st (HSt.of_ext Y H e) (h.hp.ext e)
def LW.space (h:LW w0 w Wb lv hd dd Y D H n f R) (hk:k<8) (K:K1)
  (hK:∀B w',Ext w w'->w.heap.size<=B->Spc w' Y H B k->K (.pointer (some ⟨B,0,none⟩)) w'):
  ad prog 16 #[.pointer (some ⟨Wb,0,none⟩),.int .i64 (k:Int)] w K:=
 Yl h.hp (bk h.bx).1 (bk h.bx).2.2.1 (bk h.bx).2.2.2.1 hk K hK
def HpG.ex {Q:Nat->Prop} (h:HpG Q w0 w Y D H n f R):Ext w0 w:=h.ar.L.ex
def t7 (hG:bq w) (n0:0<n) (n7:n<=120) (K:K1)
  (hK:∀Wb H Y w',H.av=none->H.avl= []->H.lk=false->LW w w' Wb (.slice none 0 0) (.slice none 0 0) (.slice none 0 0) Y (hbD n) H n (opF (hbD n) 26) []->K (.pointer (some ⟨Wb,0,none⟩)) w'):
  ad prog 14 #[.int .i64 (n:Int)] w K:=
 V5 hG n0 n7 K (λWb H Y w' _ hW c h1 h2 h3 hp ne=>hK Wb H Y w' h1 h2 h3 ⟨hp,c,hW,ne⟩)
def Yt {w:ap} {u:aA} {e:TypeId}:RdS (w.alloc (.cells #[u] e)).heap.size (w.alloc (.cells #[u] e)) (.slice (some ⟨w.heap.size,0,none⟩) 1 1) [u]:=by
 have hC:=af.new w [u] e;refine ⟨_,_,rfl,.inr ⟨w.heap.size,0,rfl,by rw [size_alloc];omega,λj x hj=> ?_⟩⟩;obtain ⟨rfl,rfl⟩:=mI hj;exact hC.cell (i:=0) (by simp)
def Yu {Q:Nat->Prop} (h:HpG Q w0 w Y D H n f R) (u:aA) (e:TypeId):RdH (w.alloc (.cells #[u] e)) Y H (.slice (some ⟨w.heap.size,0,none⟩) 1 1) [u]:=
 ⟨Yt,λ_ b hb=>by injection hb with hb;subst hb;exact h.new (a8 _)⟩
def Lg {j:Nat} (n7:n<=120) (hj:j<n):(opF (hbD n) 26 j).1= -1:=by rw [acP n7 hj]
def V7 (n7:n<=120):¬Liv (hbD n) (opF (hbD n) 26) n q:=by
 rintro ⟨k,i,hk,h0,_⟩;rw [Lg n7 hk] at h0;omega
def uB.sp (V:uB D f R n A t c kd D2 f2 D3 f3 p k i) (nn:D.n<=4096) (hr:Rsv D3 f3 n p) (k7:kd<=127) (b:RgS D3 26 n f3):pO p=pOff (26+32*k) c i/\hk p=k/\pK p=kd/\(f3 k).1=c/\p≠0/\p<72057594037927936/\pG p=bG (wd D2 (26+32*k) (offN c i)):=by
 have e:=V.rg2.lt;have d:=b.lt;have n3:=V.n3;have kn:=V.kn;have a:=hr.at_ oM b;have bd:=dx (l:=26+32*k) (i:=i) oM V.c0 V.c5 V.iN;have hp:=jQ (k:=k) (i:=i) (g:=bG (wd D2 (26+32*k) (offN c i))) (kd:=kd) V.c0 V.c5 oM V.iN;rw [<-V.p] at hp;refine ⟨hp.1,hp.2,?_,by rw [V.f3,bu],a.2.2.2.2.2.2,a.2.2.2.2.2.1,?_⟩
 ·rw [V.p];exact G8 _ _ _ bd.2.1 (cU _) oM
 ·rw [V.p];exact Ak _ _ _ bd.2.1 (cU _)
def xL (hG:bq w) (K:K1) (hK:∀w',Ext w w'->K (.bool true) w'):
  ad prog 13 #[] w K:=by
 obtain ⟨b1,b2,b3,b4,b5,b6⟩:=xK (n:=2) oM;refine VU _ _ ?_;unfold aaf;refine t7 (n:=2) hG oM oM _ (λWb H Y w1 r y g L=> ?_);have f:=(bk L.bx).2.2.2.1;have fz:(26:Int)=26:=rfl;refine zS1 f ?_;refine pW (L.hp.ext xZ) r (t:=0) (x:=4) oM oM oM oM 64 oM oM oM (by simp) _ (λ_ hn _=>absurd (hn 0 oM) (by rw [Lg oM oM];decide)) (λD2 f2 D3 f3 p k i V w2 Y2 s2 a=> ?_);have L2:=L.st s2 a;have hR:=a.rv p (by simp);have nn:(hbD 2).n<=4096:=oM;have n3:=V.n3;have z:=a.rg.lt;have n4:26+32*2<=4096:=oM;have sp:=V.sp nn hR oM a.rg;have kn:=V.kn;have c1:clsN 4=1:=rfl;have s:wordsS 1=7:=rfl;have d:=(bk L2.bx).2.2.2.1;have hr:∀q∈([]:List Nat)++ [p],q<18446744073709551616:=λq hq=>by simp only [List.nil_append,an] at hq;subst hq;omega
 have pk:=sp.2.2.1;refine zS1 d ?_;refine DO (k:=k) (i:=i) a hr kn (by rw [sp.2.2.2.1];exact V.c0) (by rw [sp.2.2.2.1];exact V.iN) oM sp.2.2.2.2.1 (by rw [sp.2.2.2.1];exact sp.1) (.inl (by simp)) _ (λw3 e3=> ?_);rw [sp.2.2.2.1,c1,s];have L3:=L2.ext e3;have o:=(bk L3.bx).2.2.2.1;refine zS3 o @ja pk ?_;refine ng L3.hp (p:=p) oM 0 oM _ (λhl=>absurd hl (hR.not_liv n4 a.rg)) (λ_ e _ he w4 e4=> ?_);have L4:=L3.ext e4;obtain rfl:=he hR;have u:=λ(K:K1) hK=>L4.space (k:=0) oM K hK
 refine zS0 ?_;refine u _ (λB w5 e5 hB sB=> ?_);have L5:=L4.ext e5;have L6:=L5.ext (Ext.alloc_self w5 (.cells #[.int .u64 (p:Int)] 27));have rd:=Yu L5.hp (.int .u64 (p:Int)) 27;have l:=sB.st (HSt.of_ext Y2 H (Ext.alloc_self w5 (.cells #[.int .u64 (p:Int)] 27)));have x3:=V.x3;have rv:=λq=>Bn (q:=q) L.hp.rg nn V
 refine zS0 ?_;refine xJ (keep:= [p]) (free:= []) L6.hp g oM l (by simp) (by simp) rd (RdH.nil _ _ _) (by simp) (by simp) oM _ (λh=> ?_) (λh=> ?_) (λD7 f7 w7 Y7 hd pr s7 b=> ?_)
 ·exact absurd ⟨by simp,by simp only [aB,an];exact λh=>sp.2.2.2.2.1 h.symm⟩ h
 ·simp at h
 have L7:=L6.st s7 b;have v:=(bk L7.bx).2.2.2.1;have c:∀q,Liv D7 f7 2 q↔q∈ [p]:=λq=>by
  rw [pr.fs.liv,pr.E.liv pr.P,rv q];exact ⟨λh=>h.elim id (λh=>absurd h.1 (V7 oM)),.inl⟩
 have hS:=λ(w:ap) (e:Ext w7 w) (K:K1) hK=>Le (L7.ext e).hp K hK
 have ll:=qk b.rg (by have:=pr.n2;omega) (L:= [p]) (by simp) c;rw [ll] at hS;refine zS1 v ?_;refine ng L7.hp (p:=p) oM 0 oM _ (λ_ w8 e8=> ?_) (λhl=>absurd ((c p).2 (by simp)) hl);rw [if_pos (Or.inl rfl)];have m:=(bk (L7.ext e8).bx).2.2.2.1;refine zS1 m ?_;refine hS w8 e8 _ (λw9 e9=> ?_);have j:=hK w9 (L7.hp.ex.trans (e8.trans e9));simp (disch:=try exact dZ) only [↓RBp,↓RA,↓reduceIte,Nat.reduceAdd,Nat.reduceMul,Nat.reduceEqDiff,RB,RX,RA2,b0];exact j
end
def Ea (w0:ap) (Y:Lay) (H:HL) (Wb b:Nat):Prop:=w0.heap.size<=b/\¬Y.F b/\b≠Wb/\∀x,(x=H.S\/x=H.b\/x=H.p\/x=H.rm\/x=H.hm\/x=H.B\/H.av=some x)->b≠x
def pZ (w0:ap) (Y:Lay) (H:HL) (Wb:Nat) (v:aA):Prop:=∀b,v.ownBlock=some b->Ea w0 Y H Wb b
def pZ.nil (w0:ap) (Y:Lay) (H:HL) (Wb:Nat):pZ w0 Y H Wb (.slice none 0 0):=λb hb=>by cases hb
section
variable {Q:Nat->Prop} {w0 w w':ap} {Y Y':Lay} {D D2 D3:DS} {H:HL} {n k i p q kd Wb b m:Nat} {f f2 f3:Idx} {R R2:List Nat} {lv hd dd v:aA} {c t:Int} {T:TypeId} {L:List aA}
def Ea.st (h:Ea w0 Y H Wb b) (hb:b<w.heap.size) (s:HSt w Y H w' Y'):Ea w0 Y' H Wb b:=
 ⟨h.1,λhf=>(s.fr _ hf).elim h.2.1 (λh=>by omega),h.2.2⟩
def Ea.frm (h:Ea w0 Y H Wb b):¬(Y.F b\/b=H.b\/b=H.p\/b=H.rm\/b=H.hm):=by
 obtain ⟨_,a,_,d⟩:=h;rintro (e|e|e|e|e)
 ·exact a e
 ·exact d _ (.inr (.inl rfl)) e
 ·exact d _ (.inr (.inr (.inl rfl))) e
 ·exact d _ (.inr (.inr (.inr (.inl rfl)))) e
 ·exact d _ (.inr (.inr (.inr (.inr (.inl rfl))))) e
def pZ.st (h:pZ w0 Y H Wb v) (hs:SlO w T k v m L) (s:HSt w Y H w' Y'):pZ w0 Y' H Wb v/\SlO w' T k v m L:=
 ⟨λb hb=>(h b hb).st (hs.lt hb) s,hs.frm s.frm (λb hb=>(h b hb).frm)⟩
def LW.own (h:LW w0 w Wb lv hd dd Y D H n f R) (hb:w.heap.size<=b):Ea w0 Y H Wb b:=by
 have l:=h.hp.lts;have sz:=h.hp.ex.size;have hw:=h.bx.lt;have hS:=h.hp.ar.st.lt;have hB:=h.hp.lg.lt;refine ⟨by omega,(h.hp.new hb).1,by omega,λx hx e=> ?_⟩;rcases hx with a|a|a|a|a|a|a
 ·omega
 ·omega
 ·omega
 ·omega
 ·omega
 ·omega
 ·rcases h.hp.avm with ⟨g,_⟩|⟨r,g,g2,_⟩
  ·rw [g] at a;cases a
  ·rw [g] at a;injection a with a;have:=g2.lt;omega
def LW.new (h:LW w0 w Wb lv hd dd Y D H n f R) (hv:bw w.heap.size v):pZ w0 Y H Wb v:=λb hb=>h.own (hv b hb)
def LW.frm {G:Nat->Prop} (h:LW w0 w Wb lv hd dd Y D H n f R) (g:Frm G w w') (hG:∀x,G x->Ea w0 Y H Wb x):LW w0 w' Wb lv hd dd Y D H n f R:=by
 have ne:∀x,(x=H.S\/x=H.b\/x=H.p\/x=H.rm\/x=H.hm\/x=H.B\/H.av=some x)->¬G x:=λx hx hg=>(hG x hg).2.2.2 x hx rfl
 obtain ⟨M,m1,m2⟩:=h.hp.hd;have p:=h.hp;refine ⟨⟨p.ar.frmH g (λx hx=> ?_),p.rg,p.hp.frm g (ne _ (.inr (.inr (.inl rfl)))),p.lg.frm g (ne _ (.inr (.inr (.inr (.inr (.inr (.inl rfl))))))),p.rs.frm g (ne _ (.inr (.inr (.inr (.inl rfl))))),⟨M,m1.frm g (ne _ (.inr (.inr (.inr (.inr (.inl rfl)))))),m2⟩,p.nd,p.rv,p.ho,p.er,p.idl,p.avm.imp id (λ⟨r,a,b,c⟩=>⟨r,a,b.frm g (ne _ (.inr (.inr (.inr (.inr (.inr (.inr a))))))),c⟩),p.sep,p.dif,p.dt⟩,h.bx.frm g (λhf=>(hG _ hf).2.2.1 rfl),h.n0,h.ne⟩;have a:=hG x hx;exact ⟨a.1,a.2.1,a.2.2.2 _ (.inr (.inl rfl)),a.2.2.2 _ (.inl rfl)⟩
def elP:ElT prog 25 25 27 1 8 (.int .u64 0):=Qz
def V8 (L:List Nat) (x:Nat):bL (L++ [x])=bL L++ [.int .u64 (x:Int)]:=by unfold bL;rw [List.map_append];rfl
def ud (L:List Nat):(bL L).length=L.length:=by unfold bL;rw [bl]
def LW.app {P:List Nat} {cs:Array Bool} {ty:TypeId} {xb xo cap:Nat} (h:LW w0 w Wb lv hd dd Y D H n f R) (o:pZ w0 Y H Wb v) (hs:SlO w 27 1 v P.length (bL P)) (hl:P.length<1000000) (hx:w.cell? ⟨xb,xo,none⟩=some (.int .u64 (p:Int))) {K:K1}
  (hK:∀v' w',LW w0 w' Wb lv hd dd Y D H n f R->pZ w0 Y H Wb v'->SlO w' 27 1 v' (P++ [p]).length (bL (P++ [p]))->Frm (λb=>v.ownBlock=some b) w w'->K v' w'):
  aY prog .append #[25,25] ty cs #[v,.slice (some ⟨xb,xo,none⟩) 1 cap] w K:=by
 refine ck elP hs (m:=1) (news:= [.int .u64 (p:Int)]) rfl (λj u hj=> ?_) rfl oM oM oM (λv' w' s2 f2 n2 _=> ?_)
 ·obtain ⟨rfl,rfl⟩:=mI hj;exact hx
 ·rw [<-V8] at s2;refine hK v' w' (h.frm f2 (λx hx=>o x hx)) (λb hb=> ?_) (by rw [List.length_append];exact s2) f2;rcases n2 b hb with e|e
  ·exact o b e
  ·exact h.own e
end
structure acQ (D:DS) (f:Idx) (R:List Nat) (n:Nat) (t c:Int) (D3:DS) (f3:Idx) (k i:Nat):Prop where
 fs:FS f f3
 fc:(f k).1=c
 ft:(f k).2.1=t
 us:bV D R (26+32*k) c i=false
 we:∀j,j<n->0<=(f j).1->∀i':Nat,(i':Int)<perS (f j).1->wd D3 (26+32*j) (offN (f j).1 i')=wd D (26+32*j) (offN (f j).1 i')
 hd:∀j,j<n->wd D3 (26+32*j) 0=wd D (26+32*j) 0
structure acR (D:DS) (f:Idx) (R:List Nat) (n:Nat) (A:List Int) (t c:Int) (D3:DS) (f3:Idx) (k g:Nat):Prop where
 g0:g≠0
 g6:g<65536
 how:((f k).1<0/\g=gX (wd D (26+32*k) 0))\/emG D 26 f k=some g
 oth:∀j,j≠k->f3 j=f j
 fk:(f3 k).1=c/\(f3 k).2.1=t
 we:∀j,j<n->j≠k->∀i,i<256->wd D3 (26+32*j) i=wd D (26+32*j) i
 own:∀i:Nat,(i:Int)<perS c->wd D3 (26+32*k) (offN c i)=sealN (dg g 0 176)
 hd:wd D3 (26+32*k) 0=sealN (hdX c t g)
 cn:cnR R k=0
 full:∀k,k<n->(f k).2.1=t->(f k).1=c->((26+32*k:Nat):Int)∉A->∀i:Nat,(i:Int)<perS c->bV D R (26+32*k) c i=true
section
variable {D D2 D3:DS} {f f2 f3:Idx} {R U:List Nat} {n k i p q kd:Nat} {A:List Int} {t c:Int}
def uB.cases (rg:RgS D 26 n f) (nn:D.n<=4096) (V:uB D f R n A t c kd D2 f2 D3 f3 p k i):acQ D f R n t c D3 f3 k i\/∃g,acR D f R n A t c D3 f3 k g:=by
 have a:=rg.lt;have n2:D2.n=D.n:=by
  have:=V.n3;rw [V.d3] at this;have h:=fh 0 (az (zW (pOff (26+32*k) c i) (wordsS c).toNat)) D2;have h':(zeD D2 (26+32*k) c i).n=D2.n:=h;omega
 have kn:=V.kn;have z:=m9 V.rg2.on (l:=26+32*k) oM oM V.c0 V.c5 V.iN;rw [<-V.d3] at z;rcases V.how with ⟨e1,e2,_⟩|⟨⟨g,ok⟩,cn,fl⟩
 ·left;subst e1;subst e2;refine ⟨λj=> ?_,V.fc,V.ft,V.us,λj hj h0 i' hi=> ?_,λj hj=> ?_⟩
  ·rw [V.f3];by_cases e:j=k
   ·subst e;rw [bu];exact ⟨V.fc.symm,V.ft.symm⟩
   ·rw [bO _ _ e];exact ⟨rfl,rfl⟩
  ·by_cases e:j=k
   ·subst e;rw [V.fc] at hi ⊢;exact z.2.1 i' hi
   ·exact z.2.2 _ oM _ (aK h0 (rg.cls hj).1 hi).2.2
  ·by_cases e:j=k
   ·subst e;exact z.1 0 oM
   ·exact z.2.2 _ oM _ oM
 ·right;refine ⟨g,ok.g0,ok.g6,?_,λj hj=> ?_,?_,λj hj ne x hx=> ?_,λi' hi=> ?_,?_,cn,fl⟩
  ·rcases ok.how with ⟨h,_,e⟩|⟨_,h,_⟩
   ·exact .inl ⟨h,e⟩
   ·exact .inr h
  ·rw [V.f3,bO _ _ hj,ok.fe,bO _ _ hj]
  ·rw [V.f3,bu];exact ⟨rfl,rfl⟩
  ·rw [z.2.2 _ oM _ hx,ok.oth j hj ne x hx]
  ·rw [z.2.1 i' hi,ok.own _ (aK V.c0 V.c5 hi).2.2];exact (D9 V.c0 V.c5 hi ok.g6).1
  ·rw [z.1 0 oM,ok.own 0 oM];unfold ir;rw [if_pos rfl]
def Yv (rg:RgS D 26 n f) (hk:k<n) (h0:0<=(f k).1) (hi:(i:Int)<perS (f k).1):bV D R (26+32*k) (f k).1 i=(!decide (bS (wd D (26+32*k) (offN (f k).1 i))=176)||rsB R (pOff (26+32*k) (f k).1 i)):=by
 have hp:=aJ h0 (rg.cls hk).1;unfold bV;rw [(rg.sn k hk h0).bit i oM,decide_eq_true hi,Bool.true_and]
def aaj {L:List Nat} {m:Nat} (hn:L.Nodup) (h:∀x∈L,x<m):L.length<=m:=by
 have hp:L.Perm ((List.range m).filter λx=>decide (x∈L)):=(a0 hn (List.Nodup.sublist bb ca)).2 (λx=>by
  rw [a9,cd];simp only [decide_eq_true_eq];exact ⟨λhx=>⟨h x hx,hx⟩,λhx=>hx.2⟩)
 have:=b7 (λx=>decide (x∈L)) (List.range m);rw [b9] at this;rw [hp.length_eq];exact this
def acS {L:List Nat} {m:Nat} (hn:L.Nodup) (h:∀x,x<m->x∈L):m<=L.length:=by
 have hp:((L.filter λx=>decide (x<m))).Perm (List.range m):=(a0 (List.Nodup.sublist bb hn) ca).2 (λx=>by
  rw [a9,cd];simp only [decide_eq_true_eq];exact ⟨λhx=>hx.2,λhx=>⟨h x hx,hx⟩⟩)
 have:=b7 (λx=>decide (x<m)) L;have e:=hp.length_eq;rw [b9] at e;omega
structure UsL (D:DS) (f:Idx) (n:Nat) (R U:List Nat):Prop where
 nd:U.Nodup
 mem:∀q,q∈U↔Liv D f n q\/q∈R
def Bo (f:Idx) (U:List Nat) (k:Nat):List Nat:=(U.filter λp=>decide (hk p=k)).map (ixP f)
def ue:(Bo f U k).length=cnR U k:=by unfold Bo cnR;rw [bl]
def Eb {x:Nat}:x∈Bo f U k↔∃p∈U,hk p=k/\ixP f p=x:=by
 unfold Bo;rw [List.mem_map];exact ⟨λ⟨p,hp,e⟩=>by rw [a9] at hp;exact ⟨p,hp.1,by simpa using hp.2,e⟩,λ⟨p,hp,e1,e⟩=>⟨p,List.mem_filter.2 ⟨hp,by simpa using e1⟩,e⟩⟩
def UsL.at_ (h:UsL D f n R U) (rg:RgS D 26 n f) (nn:D.n<=4096) (rv:∀p∈R,Rsv D f n p) (hp:p∈U):At f n p (hk p) (ixP f p):=by
 have b:=rg.lt;rcases (h.mem p).1 hp with a|a
 ·exact (a.at_ oM rg).1
 ·exact ((rv p a).at_ oM rg).1
def UsL.pos_nd (h:UsL D f n R U) (rg:RgS D 26 n f) (nn:D.n<=4096) (rv:∀p∈R,Rsv D f n p) (nd:(R.map pO).Nodup):(Bo f U k).Nodup:=by
 have c:=rg.lt;refine dy _ (λa ha b hb e=> ?_) (List.Nodup.sublist bb h.nd);rw [a9] at ha hb;have ea:hk a=k:=by simpa using ha.2
 have eb:hk b=k:=by simpa using hb.2
 rcases (h.mem a).1 ha.1 with x|x<;>rcases (h.mem b).1 hb.1 with y|y
 ·exact x.uniq y oM rg (ea.trans eb.symm) e
 ·have u:=(x.at_ oM rg).2.1.2.2.2.2;have v:=((rv b y).at_ oM rg).2.1;rw [eb,<-e] at v;rw [ea] at u;omega
 ·have u:=(y.at_ oM rg).2.1.2.2.2.2;have v:=((rv a x).at_ oM rg).2.1;rw [ea,e] at v;rw [eb] at u;omega
 ·exact Bj nd x y (At.uniq ((rv a x).at_ oM rg).1 ((rv b y).at_ oM rg).1 (ea.trans eb.symm) e)
def UsL.used (h:UsL D f n R U) (rg:RgS D 26 n f) (nn:D.n<=4096) (rv:∀p∈R,Rsv D f n p) (b:k<n) (h0:0<=(f k).1) (hi:(i:Int)<perS (f k).1) (h8:bS (wd D (26+32*k) (offN (f k).1 i))≠178):i∈Bo f U k↔bV D R (26+32*k) (f k).1 i=true:=by
 have c:=rg.lt;have c5:=(rg.cls b).1;have bd:=dx (l:=26+32*k) (i:=i) oM h0 c5 hi;rw [Yv rg b h0 hi,Eb];constructor
 ·rintro ⟨p,hp,e1,e2⟩;rcases (h.mem p).1 hp with a|a
  ·have s:=(a.at_ oM rg).2.1.2.2.2.2;rw [e1,e2] at s;rw [s];rfl
  ·have s:=((rv p a).at_ oM rg).1.2.2.2.2;rw [e1,e2] at s;have:rsB R (pOff (26+32*k) (f k).1 i)=true:=List.any_eq_true.2 ⟨p,a,by simpa using s⟩;rw [this,Bool.or_true]
 ·intro hu;rcases Bool.or_eq_true_iff.1 hu with a|a
  ·have s6:¬bS (wd D (26+32*k) (offN (f k).1 i))=176:=by simpa using a
   have gd:=(rg.sn k b h0).gd i hi;have s7:bS (wd D (26+32*k) (offN (f k).1 i))=177:=by
    unfold bR at gd;rw [if_neg s6] at gd;split at gd
    ·assumption
    ·first
     |cases gd
     |(rw [if_neg h8] at gd;cases gd)
     |(exact absurd ‹_› h8)
   have lv:=(rg.sn k b h0).live h0 c5 hi s7;have hq:=jQ (k:=k) (i:=i) (g:=bG (wd D (26+32*k) (offN (f k).1 i))) (kd:=bK (wd D (26+32*k) (offN (f k).1 i))) h0 c5 oM hi;have ix:At f n _ k i:=⟨b,h0,c5,hi,hq.1⟩;exact ⟨_,(h.mem _).2 (.inl ⟨k,i,b,h0,hi,rfl,s7⟩),ix.ix.1,ix.ix.2⟩
  ·obtain ⟨q,hq,e⟩:=List.any_eq_true.1 a;have ix:At f n q k i:=⟨b,h0,c5,hi,by simpa using e⟩;exact ⟨q,(h.mem q).2 (.inr hq),ix.ix.1,ix.ix.2⟩
def UsL.cn (h:UsL D f n R U) (rg:RgS D 26 n f) (nn:D.n<=4096) (rv:∀p∈R,Rsv D f n p) (nd:(R.map pO).Nodup) (a:k<n) (h0:0<=(f k).1) (h8:∀i:Nat,(i:Int)<perS (f k).1->bS (wd D (26+32*k) (offN (f k).1 i))≠178):
  cnR U k<=(perS (f k).1).toNat/\((∀i:Nat,(i:Int)<perS (f k).1->bV D R (26+32*k) (f k).1 i=true)->cnR U k=(perS (f k).1).toNat)/\∀i:Nat,(i:Int)<perS (f k).1->bV D R (26+32*k) (f k).1 i=false->cnR U k<(perS (f k).1).toNat:=by
 have hp:=aJ h0 (rg.cls a).1;have pn:=h.pos_nd (k:=k) rg nn rv nd;have lt:∀x∈Bo f U k,x<(perS (f k).1).toNat:=λx hx=>by
  obtain ⟨p,hp,e1,e2⟩:=Eb.1 hx;have:=(h.at_ rg nn rv hp).2.2.2.1;rw [e1,e2] at this;omega
 have le:=aaj pn lt;rw [ue] at le;refine ⟨le,λha=> ?_,λi hi hu=> ?_⟩
 ·have:=acS (m:=(perS (f k).1).toNat) pn (λx hx=>(h.used (i:=x) rg nn rv a h0 oM (h8 x oM)).2 (ha x oM));rw [ue] at this;omega
 ·have ni:i∉Bo f U k:=λhx=>by
   rw [(h.used rg nn rv a h0 hi (h8 i hi)).1 hx] at hu;cases hu
  have:=aaj (L:=i::Bo f U k) (m:=(perS (f k).1).toNat) (List.nodup_cons.2 ⟨ni,pn⟩) (λx hx=>by
   rcases List.mem_cons.1 hx with e|e
   ·omega
   ·exact lt x e)
  rw [List.length_cons,ue] at this;omega
def UsL.take (h:UsL D f n R U) (rg:RgS D 26 n f) (nn:D.n<=4096) (V:uB D f R n A t c kd D2 f2 D3 f3 p k i) (b:RgS D3 26 n f3) (n3:D3.n<=4096) (d:Rsv D3 f3 n p) (hp:p∉R):UsL D3 f3 n (R++ [p]) (U++ [p]):=by
 have g:=b.lt;have lv:∀q,Liv D3 f3 n q↔Liv D f n q:=λq=>Bn rg nn V
 have np:p∉U:=λhu=>by
  rcases (h.mem p).1 hu with a|a
  ·exact d.not_liv oM b ((lv p).2 a)
  ·exact hp a
 refine ⟨List.nodup_append.2 ⟨h.nd,by simp,λx hx y hy e=> ?_⟩,λq=> ?_⟩
 ·simp only [an] at hy;subst hy;subst e;exact np hx
 ·rw [cb,cb,h.mem,lv];exact ⟨λa=>a.elim (λa=>a.elim .inl (λa=> .inr (.inl a))) (λa=> .inr (.inr a)),λa=>a.elim (λa=> .inl (.inl a)) (λa=>a.elim (λa=> .inl (.inr a)) .inr)⟩
end
def GnS (D:DS) (f:Idx) (n:Nat):Prop:=∀k,k<n->0<=(f k).1->∀i:Nat,(i:Int)<perS (f k).1->gX (wd D (26+32*k) 0)<=bG (wd D (26+32*k) (offN (f k).1 i))
def DdP (D:DS) (f:Idx) (n p:Nat):Prop:=hk p<n/\p<18446744073709551616/\(pG p<gX (wd D (26+32*hk p) 0)\/(0<=(f (hk p)).1/\∃i:Nat,(i:Int)<perS (f (hk p)).1/\pO p=pOff (26+32*hk p) (f (hk p)).1 i/\(pG p<bG (wd D (26+32*hk p) (offN (f (hk p)).1 i))\/bS (wd D (26+32*hk p) (offN (f (hk p)).1 i))=178)))
section
variable {D D2 D3:DS} {f f2 f3:Idx} {R U keep free:List Nat} {n k i p q kd:Nat} {A:List Int} {t c:Int}
def GnS.fs (h:GnS D f n) (e:FS f f2):GnS D f2 n:=λk hk h0 i hi=>by
 rw [(e k).1] at h0 hi ⊢;exact h k hk h0 i hi
def DdP.fs (h:DdP D f n p) (e:FS f f2):DdP D f2 n p:=by
 obtain ⟨a,b,c⟩:=h;refine ⟨a,b,?_⟩;rw [(e (hk p)).1];exact c
def GnS.same (h:GnS D f n) (hw:∀j,j<n->0<=(f j).1->∀i':Nat,(i':Int)<perS (f j).1->wd D3 (26+32*j) (offN (f j).1 i')=wd D (26+32*j) (offN (f j).1 i')) (hd:∀j,j<n->wd D3 (26+32*j) 0=wd D (26+32*j) 0):GnS D3 f n:=λk hk h0 i hi=>by
 rw [hw k hk h0 i hi,hd k hk];exact h k hk h0 i hi
def DdP.same (h:DdP D f n p) (hw:∀j,j<n->0<=(f j).1->∀i':Nat,(i':Int)<perS (f j).1->wd D3 (26+32*j) (offN (f j).1 i')=wd D (26+32*j) (offN (f j).1 i')) (hd:∀j,j<n->wd D3 (26+32*j) 0=wd D (26+32*j) 0):DdP D3 f n p:=by
 obtain ⟨a,b,c⟩:=h;refine ⟨a,b,c.imp (λh=>by rw [hd _ a];exact h) (λ⟨h0,i,hi,e,h⟩=>⟨h0,i,hi,e,by rw [hw _ a h0 i hi];exact h⟩)⟩
def DdP.no (h:DdP D f n p) (rg:RgS D 26 n f) (nn:D.n<=4096) (g:GnS D f n):¬Liv D f n p/\¬Rsv D f n p:=by
 have c:=rg.lt;have key:∀i:Nat,0<=(f (hk p)).1->(i:Int)<perS (f (hk p)).1->pO p=pOff (26+32*hk p) (f (hk p)).1 i->pG p=bG (wd D (26+32*hk p) (offN (f (hk p)).1 i))->bS (wd D (26+32*hk p) (offN (f (hk p)).1 i))≠178->False:=λi h0 hi eo eg es=>by
  rcases h.2.2 with h1|⟨_,j,hj,ej,h1⟩
  ·have:=g _ h.1 h0 i hi;omega
  ·have:i=j:=tX (k:=0) h0 (rg.cls h.1).1 (eo.symm.trans ej);subst this;rcases h1 with h1|h1
   ·omega
   ·exact es h1
 constructor
 ·intro l;have a:=l.at_ oM rg;have s:=a.2.1.sp oM rg;have b:=a.2.1.2.2.2.2;exact key _ a.1.2.1 a.1.2.2.2.1 a.1.2.2.2.2 s.2.2.2.2.1 oM
 ·intro r;have a:=r.at_ oM rg;have bd:=dx (l:=26+32*hk p) (i:=ixP f p) (by have:=a.1.1;omega) a.1.2.1 a.1.2.2.1 a.1.2.2.2.1;have eg:=congrArg pG a.2.2.1;rw [a.1.2.2.2.2,Ak _ _ _ bd.2.1 (cU _)] at eg;exact key _ a.1.2.1 a.1.2.2.2.1 a.1.2.2.2.2 eg oM
end
abbrev Asc (L:List Nat):Prop:=L.Pairwise λa b=>pO a<pO b
def Bp:∀{L M:List Nat},Asc L->Asc M->(∀x,x∈L↔x∈M)->L=M
 | [],[],_,_,_=>rfl
 | [],b::M,_,_,h=>absurd ((h b).2 (by simp)) (by simp)
 |a::L,[],_,_,h=>absurd ((h a).1 (by simp)) (by simp)
 |a::L,b::M,hl,hm,h=>by
  have l:=List.pairwise_cons.1 hl;have m:=List.pairwise_cons.1 hm;have e:a=b:=by
   rcases List.mem_cons.1 ((h a).1 (by simp)) with e|ha
   ·exact e
   ·rcases List.mem_cons.1 ((h b).2 (by simp)) with e|hb
    ·exact e.symm
    ·have:=m.1 a ha;have:=l.1 b hb;omega
  subst e;rw [Bp l.2 m.2 (λx=>⟨λhx=> ?_,λhx=> ?_⟩)]
  ·rcases List.mem_cons.1 ((h x).1 (b8 _ hx)) with e|hx'
   ·subst e;have:=l.1 x hx;omega
   ·exact hx'
  ·rcases List.mem_cons.1 ((h x).2 (b8 _ hx)) with e|hx'
   ·subst e;have:=m.1 x hx;omega
   ·exact hx'
def Ps {c:Int} (c0:0<=c) (c5:c<5) {i j:Nat} (h:i<j):offN c i+1+(wordsS c).toNat<=offN c j:=by
 obtain ⟨z,n,hz,hn,d,z3,b,a⟩:=mJ c0 c5;rw [a,a,hz,Int.toNat_natCast];have:=Nat.mul_le_mul_right (z+1) (show i+1<=j by omega);rw [Nat.add_mul,Nat.one_mul] at this;omega
section
variable {D D2 D3:DS} {f f2 f3:Idx} {R U keep free:List Nat} {n k i j l p q kd:Nat} {A:List Int} {t c:Int}
def V9 (c0:0<=c) (c5:c<5) (hl:l<=4096):∀m:Nat,(m:Int)<=perS c->Asc (livI D l c m):=by
 intro m
 induction m with
 |zero=>intro _;exact List.Pairwise.nil
 |succ m ih=>
  intro hm;have b:=(nu (D:=D) c0 c5 hl m oM).2;have a:=dx (l:=l) (i:=m) hl c0 c5 oM;have d:=Aj (pOff l c m) (bG (wd D l (offN c m))) (bK (wd D l (offN c m))) a.1 a.2.1;rw [livI];split
  ·refine List.pairwise_append.2 ⟨ih oM,by simp,λx hx y hy=> ?_⟩;simp only [an] at hy;obtain ⟨i,hi,e⟩:=b x hx;rw [hy,d,e];have:=Ps c0 c5 hi;unfold pOff;omega
  ·rw [aB];exact ih oM
def nz (rg:RgS D 26 n f) (nn:D.n<=4096):∀m,m<=n->Asc (livN D f m):=by
 intro m
 induction m with
 |zero=>intro _;exact List.Pairwise.nil
 |succ m ih=>
  intro hm;have e:=rg.lt;rw [livN];split
  ·rw [aB];exact ih oM
  ·rename_i h0;have c5:=(rg.cls (show m<n by omega)).1;have hp:=aJ (show 0<=(f m).1 by omega) c5;have a:=nu (D:=D) (l:=26+32*m) (c:=(f m).1) oM c5 oM (perS (f m).1).toNat oM;refine List.pairwise_append.2 ⟨ih oM,V9 oM c5 oM _ oM,λx hx y hy=> ?_⟩;obtain ⟨j,hj,d,hx⟩:=tZ.1 hx;have cj:=(rg.cls (show j<n by omega)).1;have g:=aJ d cj;have b:=nu (D:=D) (l:=26+32*j) (c:=(f j).1) d cj oM (perS (f j).1).toNat oM;obtain ⟨i1,h1,e1⟩:=b.2 x hx;obtain ⟨i2,h2,e2⟩:=a.2 y hy;have p1:=aK d cj (i:=i1) oM;have p2:=aK (show 0<=(f m).1 by omega) c5 (i:=i2) oM;have q1:=bF d cj (i:=i1) oM oM;rw [e1,e2];unfold pOff;omega
end
def bkL:List (Nat×Int)->List aA
 | []=> []
 |(p,c)::l=> .int .u64 (p:Int):: .int .i64 c::bkL l
def Yw:∀(l:List (Nat×Int)) (i:Nat) (x:Nat×Int),l[i]? =some x->(bkL l)[i*2]? =some (.int .u64 (x.1:Int))/\(bkL l)[i*2+1]? =some (.int .i64 x.2):=by
 intro l
 induction l with
 |nil=>intro i x h;simp at h
 |cons y l ih=>
  intro i x h;obtain ⟨o,v⟩:=y
  cases i with
  |zero=>simp at h;subst h;exact ⟨rfl,rfl⟩
  |succ i=>
   have:=ih i x (by simpa using h);simp only [bkL,show (i+1)*2=i*2+1+1 by omega,bv];exact this
abbrev BlS (w:ap) (v:aA) (L:List (Nat×Int)):Prop:=SlO w 63 2 v L.length (bkL L)
section
variable {w w':ap} {v:aA} {L M:List (Nat×Int)} {b:Nat}
def Wa (s:BlS w v L) {j:Nat} (h:j<L.length):∃b o cap,v= .slice (some ⟨b,o,none⟩) L.length cap/\b<w.heap.size/\(∀(j:Nat) (h:j<L.length),w.cell? ⟨b,o+j*2,none⟩=some (.int .u64 ((L[j]).1:Int))/\w.cell? ⟨b,o+j*2+1,none⟩=some (.int .i64 (L[j]).2))/\L.length<=cap:=by
 obtain ⟨b,o,cap,rfl,hc⟩:=s.isS oM;refine ⟨b,o,cap,rfl,s.lt rfl,λj h=> ?_,hc⟩;have hg:=Yw L j L[j] (List.getElem?_eq_getElem h);refine ⟨s.cell rfl hg.1,?_⟩;have:=s.cell rfl hg.2;rw [<-Nat.add_assoc] at this;exact this
end
def blM (f:Idx) (L:List Nat):List (Nat×Int):=L.map λp=>(p,(f (hk p)).1)
def qY (f:Idx) (L:List Nat):(blM f L).length=L.length:=by unfold blM;rw [bl]
def Yx {f:Idx} {L:List Nat} {j:Nat} (h:j<(blM f L).length):(blM f L)[j]=(L[j]'(by rw [<-qY f];exact h),(f (hk (L[j]'(by rw [<-qY f];exact h)))).1):=by
 exact List.getElem_map _
section
variable {w0 w w':ap} {Y Y':Lay} {D D2 D3:DS} {H:HL} {n k i p q kd Wb b m:Nat} {f f2 f3:Idx} {R R2 U keep free:List Nat} {lv hd dd lv' hd' dd' v:aA} {A:List Int} {c t:Int} {LL RL DD:List (Nat×Int)}
def LW.wne (h:LW w0 w Wb lv hd dd Y D H n f R):∀x,(x=H.S\/x=H.b\/x=H.p\/x=H.rm\/x=H.hm\/x=H.B\/H.av=some x)->Wb≠x:=by
 intro x hx;rcases hx with rfl|rfl|rfl|rfl|rfl|rfl|hx
 ·exact h.bx.ne h.hp.ar.st (by decide)
 ·exact h.ne.2.1
 ·exact h.ne.2.2.1
 ·exact h.ne.2.2.2.1
 ·exact h.ne.2.2.2.2
 ·exact h.bx.ne h.hp.lg (by decide)
 ·rintro rfl;rcases h.hp.avm with ⟨a,_⟩|⟨r,a,⟨es,cl,e,_⟩,_⟩
  ·rw [a] at hx;cases hx
  ·rw [a] at hx;injection hx with hx;subst hx;obtain ⟨c,e2,_⟩:=h.bx;rw [e] at e2;cases e2
def LW.put (h:LW w0 w Wb lv hd dd Y D H n f R) (g:Frm (λx=>x=Wb) w w') (b:af w' Wb 38 8 (wlF Y H n lv' hd' dd')):LW w0 w' Wb lv' hd' dd' Y D H n f R:=by
 have ne:∀x,(x=H.S\/x=H.b\/x=H.p\/x=H.rm\/x=H.hm\/x=H.B\/H.av=some x)->¬x=Wb:=λx hx hg=>h.wne x hx hg.symm
 obtain ⟨M,m1,m2⟩:=h.hp.hd;have p:=h.hp;refine ⟨⟨p.ar.frmH g (λx hx=> ?_),p.rg,p.hp.frm g (ne _ (.inr (.inr (.inl rfl)))),p.lg.frm g (ne _ (.inr (.inr (.inr (.inr (.inr (.inl rfl))))))),p.rs.frm g (ne _ (.inr (.inr (.inr (.inl rfl))))),⟨M,m1.frm g (ne _ (.inr (.inr (.inr (.inr (.inl rfl)))))),m2⟩,p.nd,p.rv,p.ho,p.er,p.idl,p.avm.imp id (λ⟨r,a,b,c⟩=>⟨r,a,b.frm g (ne _ (.inr (.inr (.inr (.inr (.inr (.inr a))))))),c⟩),p.sep,p.dif,p.dt⟩,b,h.n0,h.ne⟩;subst hx;exact ⟨h.n0,h.ne.1,h.wne _ (.inr (.inl rfl)),h.wne _ (.inl rfl)⟩
structure PlM (w0 w:ap) (Wb:Nat) (lv hd dd:aA) (Y:Lay) (D:DS) (H:HL) (n:Nat) (f:Idx) (R:List Nat) (LL RL DD:List (Nat×Int)):Prop where
 L:LW w0 w Wb lv hd dd Y D H n f R
 oL:pZ w0 Y H Wb lv
 oH:pZ w0 Y H Wb hd
 oD:pZ w0 Y H Wb dd
 sL:BlS w lv LL
 sH:BlS w hd RL
 sD:BlS w dd DD
 hl:∀b,hd.ownBlock=some b->lv.ownBlock≠some b
 hdd:∀b,hd.ownBlock=some b->dd.ownBlock≠some b
 dl:∀b,dd.ownBlock=some b->lv.ownBlock≠some b
structure PlS (w0 w:ap) (Wb:Nat) (lv hd dd:aA) (Y:Lay) (D:DS) (H:HL) (n:Nat) (f:Idx) (R:List Nat) (DD:List (Nat×Int)):Prop where
 m:PlM w0 w Wb lv hd dd Y D H n f R (blM f (livN D f n)) (blM f R) DD
 gn:GnS D f n
 dp:∀x∈DD,DdP D f n x.1
def PlM.ext (h:PlM w0 w Wb lv hd dd Y D H n f R LL RL DD) (e:Ext w w'):PlM w0 w' Wb lv hd dd Y D H n f R LL RL DD:=
 ⟨h.L.ext e,h.oL,h.oH,h.oD,h.sL.ext e,h.sH.ext e,h.sD.ext e,h.hl,h.hdd,h.dl⟩
def PlM.st (h:PlM w0 w Wb lv hd dd Y D H n f R LL RL DD) (s:HSt w Y H w' Y') (hp:HpS w0 w' Y' D2 H n f2 R2):PlM w0 w' Wb lv hd dd Y' D2 H n f2 R2 LL RL DD:=
 ⟨h.L.st s hp,(h.oL.st h.sL s).1,(h.oH.st h.sH s).1,(h.oD.st h.sD s).1,(h.oL.st h.sL s).2,(h.oH.st h.sH s).2,(h.oD.st h.sD s).2,h.hl,h.hdd,h.dl⟩
def PlS.ext (h:PlS w0 w Wb lv hd dd Y D H n f R DD) (e:Ext w w'):PlS w0 w' Wb lv hd dd Y D H n f R DD:=⟨h.m.ext e,h.gn,h.dp⟩
def PlM.nn (h:PlM w0 w Wb lv hd dd Y D H n f R LL RL DD):D.n<=4096/\26+32*n<=D.n:=h.L.hp.n4
def LW.at_ (h:LW w0 w Wb lv hd dd Y D H n f R) (hp:p∈R\/Liv D f n p):At f n p (hk p) (ixP f p)/\p≠0/\p<72057594037927936:=by
 have nn:=h.hp.n4;rcases hp with hp|hp
 ·have a:=(h.hp.rv p hp).at_ oM h.hp.rg;exact ⟨a.1,a.2.2.2.2.2.2,a.2.2.2.2.2.1⟩
 ·have a:=hp.at_ oM h.hp.rg;exact ⟨a.1,a.2.2.2,a.2.2.1⟩
end
section
variable {w w':ap} {v:aA} {L M:List (Nat×Int)} {b:Nat}
end
section
variable {w0 w w':ap} {Y Y':Lay} {D D2 D3:DS} {H:HL} {n k i p q kd Wb b m b1 b2:Nat} {f f2 f3:Idx} {R R2 U keep free:List Nat} {lv hd dd lv' hd' dd' v:aA} {A:List Int} {c t:Int} {LL RL DD:List (Nat×Int)}
def PlS.cell (h:PlS w0 w Wb lv hd dd Y D H n f R DD) {L:List Nat} (s:BlS w v (blM f L)) {j:Nat} (e:j<L.length):∃b o cap,v= .slice (some ⟨b,o,none⟩) L.length cap/\b<w.heap.size/\w.cell? ⟨b,o+j*2,none⟩=some (.int .u64 ((L[j]:Nat):Int))/\w.cell? ⟨b,o+j*2+1,none⟩=some (.int .i64 (f (hk L[j])).1):=by
 have e':j<(blM f L).length:=by rw [qY];exact e
 obtain ⟨b,o,cap,hv,hb,hc,c⟩:=Wa s e';rw [qY] at hv;have a:=hc j e';rw [Yx e'] at a;exact ⟨b,o,cap,hv,hb,a.1,a.2⟩
end
section
variable {w0 w w':ap} {Y Y':Lay} {D D2 D3:DS} {H:HL} {n k i p q kd Wb b m b1 b2:Nat} {f f2 f3:Idx} {R R2 U keep free:List Nat} {lv hd dd lv' hd' dd' v:aA} {A:List Int} {c t x:Int} {LL RL DD:List (Nat×Int)}
def Rsv.okp (h:Rsv D f n p) (nn:D.n<=4096) (rg:RgS D 26 n f):pO p≠0/\pG p≠0/\1664<=pO p/\pO p+8*(wordsS (f (hk p)).1).toNat<=D.n*64/\pO p%8=0:=by
 have i:=rg.lt;have a:=h.at_ oM rg;obtain ⟨⟨a1,a2,a3,a4,a5⟩,b,c,d⟩:=a;have hb:=aK a2 a3 a4;have j:=bF a2 a3 (show 0<=(ixP f p:Int) by omega) a4;have hg:=Tj ((rg.sn _ a1 a2).gd _ a4);have ho:pO p=(26+32*hk p)*64+offN (f (hk p)).1 (ixP f p)*8+8:=a5;have e:=cU (wd D (26+32*hk p) (offN (f (hk p)).1 (ixP f p)));have hw:=t6 (f (hk p)).1;generalize bG (wd D (26+32*hk p) (offN (f (hk p)).1 (ixP f p)))=g at*;have gp:pG p=g:=(congrArg pG c).trans (Ak _ _ _ oM e);generalize wordsS (f (hk p)).1=ww at*;generalize offN (f (hk p)).1 (ixP f p)=oo at*;generalize hk p=kk at*;omega
end
def RdS.at_ {w:ap} {m j:Nat} {v:aA} {L:List Nat} (h:RdS m w v (bL L)) (hj:j<L.length):∃b o cap,v= .slice (some ⟨b,o,none⟩) L.length cap/\b<m/\w.cell? ⟨b,o+j,none⟩=some (.int .u64 ((L[j]:Nat):Int)):=by
 obtain ⟨a,cap,rfl,hc⟩:=h;rcases hc with hc|⟨b,o,rfl,hb,hc⟩
 ·have:=congrArg List.length hc;rw [ud,List.length_nil] at this;omega
 ·rw [ud];exact ⟨b,o,cap,rfl,hb,hc j _ (fo hj)⟩
def RdS.form {w:ap} {m:Nat} {v:aA} {L:List Nat} (h:RdS m w v (bL L)):∃a cap,v= .slice a L.length cap:=by
 obtain ⟨a,cap,rfl,_⟩:=h;rw [ud];exact ⟨a,cap,rfl⟩
section
variable {w0 w w1 w' wS:ap} {n k i p q m b3 b6 b11:Nat} {f:Idx} {R L A keep free:List Nat} {lv hd dd lv0 hd0 dd0 v x1 x2:aA} {LL RL DD:List (Nat×Int)}
def hpA (lv hd dd:aA) (i:Nat):aA:= [lv,hd,dd].getD i undef
structure PuI (wS w:ap) (b3 b6 b11:Nat) (lv0 hd0 dd0 lv hd dd:aA) (LL RL DD:List (Nat×Int)):Prop where
 e:Frm (λb=>dd0.ownBlock=some b) wS w
 nb:wS.heap.size<=b11
 bx:af w b11 36 3 (hpA lv hd dd)
 c3:af w b3 36 3 (hpA lv0 hd0 dd0)
 c6:∃g,af w b6 36 3 g
 ne:b3≠b11/\b6≠b11/\wS.heap.size<=b3/\wS.heap.size<=b6
 sL:BlS w lv LL
 sH:BlS w hd RL
 sD:BlS w dd DD
 oL:∀b,lv.ownBlock=some b->(lv0.ownBlock=some b\/wS.heap.size<=b)/\b≠b11/\b≠b3/\b≠b6
 oH:∀b,hd.ownBlock=some b->(hd0.ownBlock=some b\/wS.heap.size<=b)/\b≠b11/\b≠b3/\b≠b6
 oD:∀b,dd.ownBlock=some b->(dd0.ownBlock=some b\/wS.heap.size<=b)/\b≠b11/\b≠b3/\b≠b6
 hl:∀b,hd.ownBlock=some b->lv.ownBlock≠some b
 hdd:∀b,hd.ownBlock=some b->dd.ownBlock≠some b
 dl:∀b,dd.ownBlock=some b->lv.ownBlock≠some b
 dk:∀M0,BlS wS dd0 M0->BlS w dd0 M0/\(dd0.ownBlock=dd.ownBlock->ut 2 dd0<=ut 2 dd)
def PuI.ext (h:PuI wS w b3 b6 b11 lv0 hd0 dd0 lv hd dd LL RL DD) (e:Ext w w'):PuI wS w' b3 b6 b11 lv0 hd0 dd0 lv hd dd LL RL DD:=
 ⟨h.e.ext e,h.nb,h.bx.ext e,h.c3.ext e,h.c6.imp (λg c=>c.ext e),h.ne,h.sL.ext e,h.sH.ext e,h.sD.ext e,h.oL,h.oH,h.oD,h.hl,h.hdd,h.dl,λM0 s0=>⟨(h.dk M0 s0).1.ext e,(h.dk M0 s0).2⟩⟩
def PuI.setL (h:PuI wS w b3 b6 b11 lv0 hd0 dd0 lv hd dd LL RL DD) (e:Ext w w') {v:aA} {M:List (Nat×Int)} (s:BlS w' v M) (hn:bw w.heap.size v):PuI wS (w'.setCell ⟨b11,0,none⟩ v) b3 b6 b11 lv0 hd0 dd0 v hd dd M RL DD:=by
 have h':=h.ext e;have g:Frm (λx=>x=b11) w' (w'.setCell ⟨b11,0,none⟩ v):=(Frm.refl _ _).set (p:=⟨b11,0,none⟩) _ (λ_=>rfl);have lb:=h.bx.lt;have l3:=h.c3.lt;obtain ⟨g6,c6⟩:=h.c6;have l6:=c6.lt;have nw:∀b,v.ownBlock=some b->(wS.heap.size<=b)/\b≠b11/\b≠b3/\b≠b6:=λb hb=>by have:=hn b hb;have:=h.e.size;omega
 exact ⟨h'.e.trans g (λx hx e=>by subst e;have:=h.nb;omega),h.nb,(h'.bx.set (i:=0) v oM).congr (λi hi=>by
   obtain rfl|rfl|rfl:i=0\/i=1\/i=2:=oM
   all_goals rfl),h'.c3.frm g h.ne.1,⟨g6,(c6.ext e).frm g h.ne.2.1⟩,h.ne,s.frm g (λb hb e=>(nw b hb).2.1 e),h'.sH.frm g (λb hb e=>(h.oH b hb).2.1 e),h'.sD.frm g (λb hb e=>(h.oD b hb).2.1 e),λb hb=>⟨.inr (nw b hb).1,(nw b hb).2⟩,h.oH,h.oD,λb hb e=>by have:=hn b e;have:=h.sH.lt hb;omega,h.hdd,λb hb e=>by have:=hn b e;have:=h.sD.lt hb;omega,λM0 s0=>⟨((h.dk M0 s0).1.ext e).frm g (λb hb e=>by have:=s0.lt hb;have:=h.nb;omega),(h.dk M0 s0).2⟩⟩
end
section
variable {w0 w w1 w':ap} {Y Y':Lay} {D D2 D3:DS} {H:HL} {n k i p q kd Wb b m:Nat} {f f2 f3:Idx} {R R2 U keep free:List Nat} {lv hd dd lv' hd' dd' v:aA} {A:List Int} {c t x:Int} {LL RL DD LL' RL' DD':List (Nat×Int)}
def PlM.own {u u':aA} (h:PlM w0 w Wb lv hd dd Y D H n f R LL RL DD) (ou:pZ w0 Y H Wb u) (hu:∀b,u'.ownBlock=some b->u.ownBlock=some b\/w.heap.size<=b):pZ w0 Y H Wb u':=λb hb=>(hu b hb).elim (ou b) (λe=>h.L.own e)
def PlM.drop (h:PlM w0 w Wb lv hd dd Y D H n f R LL RL DD) (g:Frm (λb=>dd.ownBlock=some b) w w') (s:BlS w' dd DD):PlM w0 w' Wb lv hd dd Y D H n f R LL RL DD:=
 ⟨h.L.frm g (λx hx=>h.oD x hx),h.oL,h.oH,h.oD,h.sL.frm g (λb hb e=>h.dl b e hb),h.sH.frm g (λb hb e=>h.hdd b hb e),s,h.hl,h.hdd,h.dl⟩
end
structure Ie where new::
 kd:Nat
 th:Int
 wd:Int
 mk:Nat
 L:List Nat
 M:List Nat
def apF (x:Ie) (tv dv:aA) (i:Nat):aA:= [Value.int .u8 (x.kd:Int),.int .i64 x.th,.int .i64 x.wd,.int .u8 (x.mk:Int),tv,dv].getD i undef
def Wc (m:Nat) (w:ap) (v:aA) (al:List Ie):Prop:=∃a cap,v= .slice a al.length cap/\∀j x,al[j]? =some x->∃b o tv dv,a=some ⟨b,o,none⟩/\b<m/\(∀i,i<6->w.cell? ⟨b,o+j*6+i,none⟩=some (apF x tv dv i))/\RdS m w tv (u8L x.L)/\RdS m w dv (u8L x.M)
def Wc.ext {m:Nat} {w w':ap} {v:aA} {al:List Ie} (h:Wc m w v al) (e:Ext w w'):Wc m w' v al:=by
 obtain ⟨a,cap,hv,h⟩:=h;refine ⟨a,cap,hv,λj x hx=> ?_⟩;obtain ⟨b,o,tv,dv,ha,hb,c,r1,r2⟩:=h j x hx;exact ⟨b,o,tv,dv,ha,hb,λi hi=>e.cell_some (c i hi),r1.ext e,r2.ext e⟩
section
variable {w0 w w1 w':ap} {Y Y':Lay} {D D2 D3:DS} {H:HL} {n k i p q kd Wb b m:Nat} {f f2 f3:Idx} {R M L:List Nat} {lv hd dd v va vb tv:aA} {RL LL DD:List (Nat×Int)}
structure TwL (w0 w:ap) (va vb:aA) (L:List Nat):Prop where
 e:Ext w0 w
 a:SlO w 27 1 va L.length (bL L)
 b:SlO w 26 1 vb L.length (bL L)
 na:bw w0.heap.size va
 nb:bw w0.heap.size vb
 dj:∀x,va.ownBlock=some x->vb.ownBlock≠some x
def TwL.nil (w:ap):TwL w w (.slice none 0 0) (.slice none 0 0) []:=⟨Ext.refl _,SlO.nil _ _ _,SlO.nil _ _ _,λb h=>(nomatch h),λb h=>(nomatch h),λb h=>(nomatch h)⟩
def TwL.ext (h:TwL w0 w va vb L) (e:Ext w w'):TwL w0 w' va vb L:=⟨h.e.trans e,h.a.ext e,h.b.ext e,h.na,h.nb,h.dj⟩
end
section
variable {w0 w w':ap} {Y Y':Lay} {D:DS} {H:HL} {n k B:Nat} {f:Idx} {R:List Nat}
def acT (h:Dv w Y D) (k:Nat) (hk:k<8) (K:K1):ad prog 90 #[.pointer (some ⟨Y.tb k,0,none⟩)] w K=K (.int .i64 (Y.ids k:Int)) w:=by
 have c:=h.c_tid k hk;refine ao (by kernel_rfl) (Tx _ _ _ ?_) K;unfold ZA
 (repeat' first|refine ak (λ_=> ?_) (λ_=> ?_)|refine am ?_ ?_|refine zS2 h.R c ?_|exact yS2 h.R c|fail)
end
structure PlD (D:DS) (R:List Nat) (DD:List (Nat×Int)) (D':DS) (R':List Nat) (DD':List (Nat×Int)):Prop where
 ex:D'.exe<=D.exe+1000
 rl:R'.length<=R.length+1
 dl:DD'.length<=DD.length+100
 cl:Cln D.co->Cln D'.co
section
variable {w0 w w1 w':ap} {Y Y':Lay} {D D2 D3:DS} {H:HL} {n k i p q kd Wb b m ab:Nat} {f f2 f3:Idx} {R M L:List Nat} {lv hd dd v va vb tv dv z:aA} {RL LL DD:List (Nat×Int)} {x:Ie}
def PlD.refl:PlD D R DD D R DD:=⟨by omega,by omega,by omega,id⟩
end
section
variable {w0 w w1 w':ap} {Y Y':Lay} {D D2 D3:DS} {H:HL} {n k i p q kd Wb b m ab:Nat} {f f2 f3:Idx} {R M L:List Nat} {lv hd dd v va vb tv dv z:aA} {RL LL DD:List (Nat×Int)} {x:Ie}
end
section
variable {w0 w w1 w':ap} {Y Y':Lay} {D D2 D3:DS} {H:HL} {n k i p q kd Wb b m ab:Nat} {f f2 f3:Idx} {R M L:List Nat} {lv hd dd v va vb tv dv z:aA} {RL LL DD:List (Nat×Int)} {x:Ie}
end
section
variable {w0 w w1 w':ap} {Y Y':Lay} {D D2 D3:DS} {H:HL} {n k i p q kd Wb b m ab:Nat} {f f2 f3:Idx} {R M L:List Nat} {lv hd dd v va vb tv dv z:aA} {RL LL DD:List (Nat×Int)} {x:Ie}
def PlA (w0 w:ap) (Wb:Nat) (H:HL) (n j:Nat):Prop:=∃(Y:Lay) (D:DS) (f:Idx) (R:List Nat) (DD:List (Nat×Int)) (lv hd dd:aA),PlS w0 w Wb lv hd dd Y D H n f R DD/\D.exe<=100+1000*j/\R.length<=j/\DD.length<=100*j
def PlA.ext {j:Nat} (h:PlA w0 w Wb H n j) (e:Ext w w'):PlA w0 w' Wb H n j:=by
 obtain ⟨Y,D,f,R,DD,lv,hd,dd,a,b⟩:=h;exact ⟨Y,D,f,R,DD,lv,hd,dd,a.ext e,b⟩
end
end Go.Proofs.YtmpehclnnjgmcaaGreatDoor
