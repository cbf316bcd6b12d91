/-
  Part A of the proof in YtmpehclnnjgmcaaGreatDoorDfRowSp.
-/
import Derived.Test.YtmpehclnnjgmcaaGreatDoorDf6
import Derived.Test.YtmpehclnnjgmcaaGreatDoorDf4
import Derived.Test.YtmpehclnnjgmcaaGreatDoorDf2
import Derived.Test.YtmpehclnnjgmcaaGreatDoorDf1
set_option linter.unusedSimpArgs false
set_option linter.unusedVariables false
set_option maxHeartbeats 20000000
set_option maxRecDepth 100000
set_option linter.defProp false
open Go.Proofs.Tryz (prog)
open Go renaming World->an,Value->ap
open List renaming getD_eq_getElem?_getD->av,length_cons->aA
open Nat renaming le_refl->aB
namespace Go.Proofs.YtmpehclnnjgmcaaGreatDoor
open Go Go.Sh
section
variable {w0 w w':an} {Y Y':Lay} {D D':DS} {H:HL} {n k i j p v Wb:Nat} {f:Idx} {R:List Nat} {lv hd dd:ap} {DD:List (Nat×Int)} {c:Int}
structure HdE (D D':DS) (f:Idx) (n:Nat):Prop where
 on:On D'
 gd:aH D'
 nn:D'.n=D.n
 w:∀k,k<n->(∀x,x<8->wd D' (26+32*k) x=wd D (26+32*k) x)/\∀i:Nat,(i:Int)<perS (f k).1->0<=(f k).1->wd D' (26+32*k) (offN (f k).1 i)=wd D (26+32*k) (offN (f k).1 i)
def HdE.rg (e:HdE D D' f n) (h:RgS D 26 n f):RgS D' 26 n f:=
 ⟨e.on,e.gd,by rw [e.nn];exact h.lt,λj hj=>by rw [(e.w j hj).1 0 oM];exact h.ag j hj,λj hj h0=>(h.sn j hj h0).congrH h0 (h.cls hj).1 (e.w j hj).1 (λi' a=>(e.w j hj).2 i' a h0)⟩
def HdE.rsv (e:HdE D D' f n) (h:Rsv D f n p):Rsv D' f n p:=by
 obtain ⟨k,i,kd,a1,a2,a3,a4,a5,a6⟩:=h;have ew:=(e.w k a1).2 i a3 a2;exact ⟨k,i,kd,a1,a2,a3,by rw [ew];exact a4,by rw [ew];exact a5,a6⟩
def HdE.liv (e:HdE D D' f n):Liv D' f n p↔Liv D f n p:=by
 constructor
 ·rintro ⟨k,i,a1,a2,a3,a4⟩;have ew:=(e.w k a1).2 i a3 a2;rw [ew] at a4;exact ⟨k,i,a1,a2,a3,a4⟩
 ·rintro ⟨k,i,a1,a2,a3,a4⟩;have ew:=(e.w k a1).2 i a3 a2;rw [<-ew] at a4;exact ⟨k,i,a1,a2,a3,a4⟩
def HdE.livN (e:HdE D D' f n) (rg:RgS D 26 n f) (nn:D.n<=4096):livN D' f n=livN D f n:=
 Bp (nz (e.rg rg) (by rw [e.nn];exact nn) n (aB _)) (nz rg nn n (aB _)) (λx=>by rw [kQ (e.rg rg),kQ rg];exact e.liv)
end
section
variable {w0 w w1 w':an} {Y Y' Y1:Lay} {D D' DF:DS} {H:HL} {n k i j p v Wb:Nat} {f g:Idx} {R:List Nat} {lv hd dd:ap} {DD:List (Nat×Int)} {c:Int}
def Wd (n7:n<=120):Cln (hbD n).co:=by
 obtain ⟨a1,a2,a3,a4,a5,a6⟩:=Lf n7;exact AE a1 a2 (show 26+32*n<=(hlD n).n by omega) (fb (On.zero _) (λx hx=>by simp only [List.mem_singleton] at hx;subst hx;exact ⟨rfl,show 0<(26+32*n)*64 by omega⟩) (CF _)) n (aB _)
def nA (h:HpS w0 w Y D H n f R) (w1:an) (e:Ext w w1) (K:K1):ad prog 34 #[hpV H] w1 K=K (.bool H.lk) w1:=by
 have q7:=(h.ext e).cell.2.2.2.2.2.2.2;have lt:=(h.ext e).ltp;refine ao (by kernel_rfl) (CO _ _ _ ?_) K;unfold Uj
 (repeat' first|refine ak (λ_=> ?_) (λ_=> ?_)|refine am ?_ ?_|refine zS1 q7 ?_|exact yS1 q7|fail)
end
section
variable {D:DS} {id off v:Nat}
def Bq (ho:D.off=false) (ha:D.armed=false):D.runs true=true:=by simp [DS.runs,ho,ha]
def Ec (ho:D.off=false) (ha:D.armed=false) (h8:off%8=0) (hn:off<D.n*64):D.store id off v=({D with exe:=D.exe+1}:DS).write off v:=by
 have hv:fD D off=true:=by simp [fD,h8,hn]
 have hr:=Bq ho ha;unfold DS.store;rw [hv,if_pos hr,DS.counted_run hr,if_neg (by simp [ha])]
def We (ho:D.off=false) (ha:D.armed=false) (hn:off<D.n*64):D.flush id off=({D with exe:=D.exe+1}:DS).note id ((off/64:Nat):Int) (D.done (off/64)+(D.hist (off/64)).length):=by
 have hv:fg D off=true:=by simp [fg,hn]
 have hr:=Bq ho ha;unfold DS.flush;rw [hv,if_pos hr,DS.counted_run hr,if_neg (by simp [ha])]
def Wf (ho:D.off=false) (ha:D.armed=false):D.fence id=(({D with exe:=D.exe+1}:DS).parts (D.due id)).clr id:=by
 have hr:=Bq ho ha;unfold DS.fence;rw [if_pos hr,DS.counted_run hr,if_neg (by simp [ha])]
def spD (D:DS) (id off v:Nat):DS:=(D.store id off v).flush id off
def acU (ho:D.off=false) (ha:D.armed=false) (h8:off%8=0) (hn:off<D.n*64) (hh:∀l,D.hist l= []):
  (spD D id off v).off=false/\(spD D id off v).armed=false/\(spD D id off v).n=D.n/\(spD D id off v).exe=D.exe+2/\(spD D id off v).err=D.err/\(spD D id off v).cur (off/8)=v/\
  ((spD D id off v).fence id).off=false/\((spD D id off v).fence id).armed=false/\((spD D id off v).fence id).n=D.n/\((spD D id off v).fence id).exe=D.exe+3/\((spD D id off v).fence id).err=D.err/\((spD D id off v).fence id).cur (off/8)=v/\
  ∀F,mQ ((spD D id off v).fence id) F->F (off/8)=v:=by
 have e1:=Ec (id:=id) (v:=v) ho ha h8 hn;have e2:spD D id off v=_:=We (D:=D.store id off v) (id:=id) (off:=off) (by rw [e1];exact ho) (by rw [e1];exact ha) (by rw [e1];exact hn);have o2:(spD D id off v).off=false:=by rw [e2,e1];exact ho
 have a2:(spD D id off v).armed=false:=by rw [e2,e1];exact ha
 have e3:=Wf (id:=id) o2 a2;have n2:(spD D id off v).n=D.n:=by rw [e2,e1];rfl
 have hl:off/8/8=off/64:=oM;have due:(spD D id off v).due id (off/64)=1:=by
  rw [e2,e1];simp [DS.due,DS.note,DS.write,hh]
 have hist:(spD D id off v).hist (off/64)= [(off,v)]:=by
  rw [e2,e1];simp [DS.note,DS.write,hh]
 have cur:(spD D id off v).cur (off/8)=v:=by
  rw [e2,e1];simp [DS.note,DS.write]
 refine ⟨o2,a2,n2,by rw [e2,e1];rfl,by rw [e2,e1];rfl,cur,by rw [e3];exact o2,by rw [e3];exact a2,by rw [e3];exact n2,by rw [e3,e2,e1];rfl,by rw [e3,e2,e1];rfl,by rw [e3];exact cur,λF hF=> ?_⟩;have hj:off/8<8*((spD D id off v).fence id).n:=by
  rw [e3];show off/8<8*(spD D id off v).n;rw [n2];omega
 rcases hF _ hj with h|⟨x,hx,_⟩
 ·rw [h,e3];show aD (((spD D id off v).hist (off/8/8)).take ((spD D id off v).due id (off/8/8))) (spD D id off v).pers (off/8)=v;rw [hl,due,hist];simp [aD]
 ·rw [e3] at hx;have:x∈((spD D id off v).hist (off/8/8)).drop ((spD D id off v).due id (off/8/8)):=hx;rw [hl,due,hist] at this;simp at this
end
def If (fr:Fr):List (Nat×ap)->Nat->ap
 | [],t=>fr.getD t undef
 |(d,v)::r,t=>match Nat.beq d t with
  |true=>v
  |false=>If fr r t
def uf (fr:Fr):List (Nat×ap)->Fr
 | []=>fr
 |(d,v)::r=>(uf fr r).set d v
def Pt (ov:List (Nat×ap)) (d:Option Tmp) (v:ap):List (Nat×ap):=match d with
 |some d=>(d,v)::ov
 |none=>ov
def Ed (fr:Fr):∀ov,(uf fr ov).length=fr.length
 | []=>rfl
 |(d,v)::r=>by simp only [uf,List.length_set];exact Ed fr r
def Li (fr:Fr) (t:Nat):∀ov:List (Nat×ap),(∀x∈ov,x.1<fr.length)->(uf fr ov).getD t undef=If fr ov t
 | [],_=>rfl
 |(d,v)::r,h=>by
  have hd:=h (d,v) (by simp);have ih:=Li fr t r (λx hx=>h x (by simp [hx]));simp only [uf,If]
  cases e:Nat.beq d t with
  |true=>
   have:d=t:=Nat.eq_of_beq_eq_true e;subst this;simp only;rw [av,List.getElem?_set_self (by rw [Ed];exact hd)];rfl
  |false=>
   have:d≠t:=λh=>by subst h;rw [Nat.beq_refl] at e;cases e
   simp only;rw [<-ih,av,av,List.getElem?_set_ne this]
def Lj (fr:Fr) (ov:List (Nat×ap)) (d:Option Tmp) (v:ap):put (uf fr ov) d v=uf fr (Pt ov d v):=by cases d<;>rfl
def evG (g:Nat->ap):Operand->ap
 | .tmp t=>g t
 | .const v=>v
 | .global g=> .pointer (some ⟨g,0,none⟩)
 | .func f=> .func (.func f) #[] #[]
def Wg (fr:Fr):evO fr=evG (λt=>fr.getD t undef):=by funext x;cases x<;>rfl
def abK (ops:List Oper) (j:Nat) (g:Nat->ap):ap:=match (ops[j]?).bind (·.dst) with
 |some d=>g d
 |none=>undef
def aak (o:Oper) (g:Nat->ap):ap:=match o.dst with
 |some d=>g d
 |none=>undef
section
variable (P:Program) (ops:List Oper)
def Wh (o:Oper) (g:Nat->ap) (w:an) (k:K1):Prop:=match o.guard with
 |none=>opS P o.op o.type (evG g) w k
 |some (j,want)=>gd (abK ops j g) want (λk=>opS P o.op o.type (evG g) w k) w k
def Wi (o:Oper) (g:Nat->ap) (w:an) (k:ap->Prop):Prop:=match o.guard with
 |none=>rdS P o.op o.type (evG g) w k
 |some (j,want)=>gdR (abK ops j g) want (λk=>rdS P o.op o.type (evG g) w k) k
def nC:List Oper->(Nat->ap)->an->Prop->Prop
 | [],_,_,X=>X
 |o::rest,g,w,X=>
  (match o.guard with
   |none=>agS P o.op o.type (evG g) w (aak o g)
   |some (j,want)=>gq (abK ops j g) want (agS P o.op o.type (evG g) w (aak o g)))/\nC rest g w X
def abL (o:Oper) (fr:Fr) (w:an) (k:K1):qm P ops o fr w k=Wh P ops o (λt=>fr.getD t undef) w k:=by
 unfold qm Wh;rw [Wg]
 cases o.guard<;>rfl
def abM (o:Oper) (fr:Fr) (w:an) (k:ap->Prop):Bz P ops o fr w k=Wi P ops o (λt=>fr.getD t undef) w k:=by
 unfold Bz Wi;rw [Wg]
 cases o.guard<;>rfl
def xM (fr:Fr) (w:an) (X:Prop):∀l,eZ P ops l fr w X=nC P ops l (λt=>fr.getD t undef) w X
 | []=>rfl
 |o::l=>by
  unfold eZ nC;rw [xM fr w X l,Wg]
  cases o.guard<;>rfl
def Wj (bef:List Nat) (k:KF) (fr:Fr):Nat->Nat->List (Nat×ap)->an->Prop
 |0,_,ov,w=>k (uf fr ov) w
 |n+1,done,ov,w=>
  match gu done ops 0 with
  |some (i,o)=>Wi P ops o (If fr ov) w (λv=>Wj bef k fr n (sb done i) (Pt ov o.dst v) w)
  |none=>match gw done ops 0 with
   | []=>k (uf fr ov) w
   |x::l=>xP (λio=>Wh P ops io.2 (If fr ov) w (λv w'=>nC P ops (xO done (bef.getD io.1 0) ops 0) (If fr (Pt ov io.2.dst v)) w' (Wj bef k fr n (sb done io.1) (Pt ov io.2.dst v) w'))) x l
def ug {α:Type} {f g:α->Prop}:∀(l:List α) (x:α),(∀y∈x::l,f y=g y)->xP f x l=xP g x l
 | [],x,h=>h x (by simp)
 |y::l,x,h=>by
  simp only [xP];rw [h x (by simp),ug l y (λz hz=>h z (by simp only [List.mem_cons] at hz ⊢;exact .inr hz))]
def Br {bef:List Nat} {k:KF} {fr:Fr} (hd:∀o∈ops,∀d,o.dst=some d->d<fr.length):∀(n done:Nat) (ov:List (Nat×ap)) (w:an),(∀x∈ov,x.1<fr.length)->jl P ops bef k n done (uf fr ov) w=Wj P ops bef k fr n done ov w
 |0,_,_,_,_=>rfl
 |n+1,done,ov,w,h=>by
  have eg:∀ov:List (Nat×ap),(∀x∈ov,x.1<fr.length)->(λt=>(uf fr ov).getD t undef)=If fr ov:=λov h=>by funext t;exact Li fr t ov h
  have hp:∀o∈ops,∀v,∀x∈Pt ov o.dst v,x.1<fr.length:=λo ho v x hx=>by
   unfold Pt at hx;split at hx
   ·rename_i d a;rcases List.mem_cons.1 hx with rfl|hx
    ·exact hd o ho d a
    ·exact h x hx
   ·exact h x hx
  unfold jl Wj
  cases hf:gu done ops 0 with
  |some y=>
   obtain ⟨i,o⟩:=y;obtain ⟨j,_,hj,_⟩:=fT ops 0 i o hf;have ho:=List.mem_of_getElem? hj;simp only;rw [abM,eg ov h]
   congr 1
   funext v;rw [Lj];exact Br hd n _ _ w (hp o ho v)
  |none=>
   simp only
   cases hn:gw done ops 0 with
   |nil=>rfl
   |cons x l=>
    simp only;refine ug l x (λy hy=> ?_);have ho:=uL ops 0 y.1 y.2 (by rw [hn];exact hy);rw [abL,eg ov h]
    congr 1
    funext v w';rw [Lj,xM,eg _ (hp y.2 ho v),Br hd n _ _ w' (hp y.2 ho v)]
end
def aal (P:Program) (c:Code) (k r:KF) (e:Nat->KF) (fr:Fr) (w:an):Prop:=match c with
 | .seq (.region _ ops true) rest=>Wj P ops.toList (By ops.toList []) (λfr w=>dW P rest k r e fr w) fr ops.toList.length 0 [] w.drew
 |c=>dW P c k r e fr w
def acV (c:Code) (n:Nat):Bool:=match c with
 | .seq (.region _ ops true) _=>ops.toList.all λo=>match o.dst with
  |some d=>Nat.blt d n
  |none=>true
 |_=>true
def Yy {u:Code×Dec} {k r:KF} {e:Nat->KF} {fr:Fr} {w:an} (hd:u.2= .o) (n:Nat) (hl:fr.length=n) (hb:acV u.1 n=true):cP u k r e fr w=aal prog u.1 k r e fr w:=by
 obtain ⟨c,d⟩:=u;simp only at hd hb ⊢;subst hd;subst hl;show dW prog c k r e fr w=_;unfold aal;split
 ·rename_i id ops a;have:=Br prog ops.toList (bef:=By ops.toList []) (k:=λfr w=>dW prog a k r e fr w) (fr:=fr) (λo ho d b=>by
   have h:=List.all_eq_true.1 hb o ho;rw [b] at h;simp only at h
   rwa [Nat.blt_eq] at h) ops.toList.length 0 [] w.drew (λx hx=>by cases hx)
  exact this
 ·rfl
def Ig:∀(n m:Nat) (l:List ap),(fy n m l).length=n
 |0,_,_=>rfl
 |n+1,m,[]=>by simp only [fy,aA,Ig n]
 |n+1,m,x::l=>by
  simp only [fy];split<;>simp only [aA,Ig n]
def Ee (keep:Nat) (σ:Nat->ap):∀(l:Fr) (i:Nat),(rp keep σ i l).length=l.length
 | [],_=>rfl
 |x::l,i=>by simp only [rp,aA,Ee keep σ l]
noncomputable section
variable (K:K1) (x0 x1 x2 x3 x4 x5 x6 x7 x8 x9 x10 x11 x12 x13 x14 x15 x16 x17 x18 x19 x20 x21 x22 x23 x24 x25 x26 x27 x28 x29 x30 x31 x32 x33 x34 x35 x36 x37 x38 x39 x40 x41 x42 x43 x44 x45 x46 x47 x48 x49 x50 x51 x52 x53 x54 x55 x56 x57 x58 x59 x60 x61 x62 x63 x64 x65 x66 x67 x68 x69 x70 x71 x72 x73 x74 x75 x76 x77 x78 x79 x80 x81 x82 x83 x84 x85 x86 x87 x88 x89 x90 x91 x92 x93 x94 x95:ap) (w:an)
noncomputable def Pu:=uD Tryz.f9 (.s .o (.s .o (.s .o (.s .o (.s .o (.s .o (.s .o (.s .o (.s .o (.x 903 .o (.s .o (.x 1927 .o (.x 384 (.x 39614081257132168796771975552 .o .o) (.s .o (.s .o (.s .o (.s .o (.s .o (.x 94592 .o .o)))))))))))))))))))
abbrev Bs:=aU prog Tryz.f9.results.toList
def Yz:KF:=kO 903 (cP (pw Pu 10 1023) (Bs K) (Bs K) nX)
def Lk:Prop:=Yz K (fy 186 903 [x0,x1,x2,x7,x8,x9]) w
def YA:KF:=kO 1927 (cP (pw Pu 12 4095) (Bs K) (Bs K) nX)
def Wk:Prop:=YA K (fy 186 1927 [x0,x1,x2,x7,x8,x9,x10]) w
def Ll:KF:=kO 384 (cP (pw Pu 13 8191) (Bs K) (Bs K) nX)
def Wl:Prop:=Ll K (fy 186 384 [x7,x8]) w
def YB:KF:=kO 39614081257132168796771975552 (cP (pw Pu 14 12287) (Ll K) (Bs K) nX)
def aam:Prop:=YB K (fy 186 39614081257132168796771975552 [x7,x8,x95]) w
def YC:KF:=kO 94592 (cP (pw Pu 19 524287) (Bs K) (Bs K) nX)
def Wm:Prop:=YC K (fy 186 94592 [x7,x8,x12,x13,x14,x16]) w
def Lm:Prop:=
 nS x7 w λa w=>
 fA 38 a 0 w λb w=>
 lD 30 b w λc w=>
 cL 49 (pA #[c,(.slice none 0 0)]) w λd w=>
 bM .eql 30 (.tmp 48) (.const (.pointer none)) d (.pointer none) w λe w=>
 gV e false d w λf w=>
 gC e false 50 (pA #[f,(.int .i64 0)]) w λg w=>
 gd e false (λk=>bM .eql 31 (.tmp 52) (.const (.pointer none)) g (.pointer none) w k) w λh w=>
 au e (.bool true) h w λi w=>
 ae i (
 K (.bool false) w) (
 Wk K x0 x1 x2 x7 x8 x9 d w)
def Wn:Lk K x0 x1 x2 x7 x8 x9 w=Lm K x0 x1 x2 x7 x8 x9 w:=aI λσ=>kR
def Ln:Prop:=
 rU .rem 5 55 .u8 2 x2 w.drew λa=>
 rU .eql 5 56 .u8 1 a w.drew λb=>
 gW b true x10 λc=>
 gW b true x0 λd=>
 gW b true x1 λe=>
 gC b true 50 (pA #[c,(.int .i64 0)]) w.drew λf w=>
 gC b true 32 (pA #[f,d]) w λg w=>
 gdR b true (λk=>rT .neq 26 62 63 g e w k) λh=>
 bo b h (.bool false) λi=>
 gW i false x9 λj=>
 gW i false x1 λl=>
 gdR i false (λk=>rT .neq 26 67 68 j l w k) λm=>
 bo i (.bool true) m λn=>
 gW n false x7 λo=>
 gN n false o w λp=>
 gF n false 38 p 1 w λq=>
 gL n false 31 q w λs=>
 gW n false x0 λt=>
 gW n false x1 λv=>
 gC n false 32 (pA #[s,t]) w λy w=>
 gdR n false (λk=>rT .neq 26 77 78 y v w k) λz=>
 bo n (.bool true) z λa0=>
 gW a0 false x8 λa1=>
 gW a0 false x7 λa2=>
 gN a0 false a2 w λa3=>
 gF a0 false 38 a3 0 w λa4=>
 gL a0 false 30 a4 w λa5=>
 gC a0 false 51 (pA #[a1]) w λa6 w=>
 (gq a0 false (br prog a2 w (λu=>u=a3)))/\
 (gq a0 false (fG 38 a3 0 w a4))/\
 (gq a0 false (lG 30 a4 w a5))/\
 gC a0 false 52 (pA #[a5]) w λa7 w=>
 gdR a0 false (λk=>rT .neq 26 83 88 a6 a7 w k) λa8=>
 bo a0 (.bool true) a8 λa9=>
 gW a9 false x8 λb0=>
 gC a9 false 53 (pA #[b0]) w λb1 w=>
 gdR a9 false (λk=>rC .neq 28 93 0 b1 w k) λb2=>
 bo a9 (.bool true) b2 λb3=>
 aam K x7 x8 b3 w
def Wo:Wk K x0 x1 x2 x7 x8 x9 x10 w=Ln K x0 x1 x2 x7 x8 x9 x10 w:=aI λσ=>kR
def Lo:Prop:=
 nS x7 w λa w=>
 fA 38 a 0 w λb w=>
 lD 30 b w λc w=>
 cL 54 (pA #[c,(.int .i64 0)]) w λd w=>
 cL 48 (pA #[x8]) w λe w=>
 cL 36 (pA #[x8,(.int .i64 3),(.int .u8 ((64:Nat):Int))]) w λf w=>
 eX f 0 w λg w=>
 eX f 1 w λh w=>
 cL 15 (pA #[(.pointer none),(.int .i64 0),(.int .i64 3),(.int .u8 ((64:Nat):Int))]) w λi w=>
 eX i 0 w λj w=>
 eX i 1 w λl w=>
 Wm K x7 x8 h (.pointer none) (.pointer none) l w
def Wp:Wl K x7 x8 w=Lo K x7 x8 w:=aI λσ=>kR
def Bt:Prop:=
 ae x95 (
 K (.bool false) w) (
 Wl K x7 x8 w)
def Ef:aam K x7 x8 x95 w=Bt K x7 x8 x95 w:=aI λσ=>kR
def Lq:Prop:=
 cL 53 (pA #[x8]) w.drew λa w=>
 rC .eql 28 114 3 a w λb=>
 gW b true x12 λc=>
 gdR b true (λk=>rC .eql 28 117 3 c w k) λd=>
 bo b d (.bool false) λe=>
 gW e true x8 λf=>
 gC e true 17 (pA #[f,(.slice none 0 0),(.slice none 0 0),(.slice none 0 0)]) w λg w=>
 gdR e true (λk=>rC .eql 28 122 3 g w k) λh=>
 bo e h (.bool false) λi=>
 gW i true x13 λj=>
 gC i true 53 (pA #[j]) w λl w=>
 gdR i true (λk=>rC .eql 28 127 5 l w k) λm=>
 bo i m (.bool false) λn=>
 gW n true x13 λo=>
 gC n true 17 (pA #[o,(.slice none 0 0),(.slice none 0 0),(.slice none 0 0)]) w λp w=>
 gdR n true (λk=>rC .eql 28 132 5 p w k) λq=>
 bo n q (.bool false) λs=>
 gW s true x16 λt=>
 gdR s true (λk=>rC .eql 28 136 5 t w k) λv=>
 bo s v (.bool false) λy=>
 gW y true x7 λz=>
 gN y true z w λa0=>
 gF y true 38 a0 1 w λa1=>
 gL y true 31 a1 w λa2=>
 gW y true x7 λa3=>
 gN y true a3 w λa4=>
 gF y true 38 a4 2 w λa5=>
 gL y true 32 a5 w λa6=>
 gC y true 55 (pA #[(.pointer none),a2,a6]) w λa7 w=>
 gdR y true (λk=>rM .eql 40 (.tmp 148) (.const (.pointer none)) a7 (.pointer none) w k) λa8=>
 bo y a8 (.bool false) λa9=>
 gW a9 true x7 λb0=>
 gN a9 true b0 w λb1=>
 gF a9 true 38 b1 3 w λb2=>
 gL a9 true 33 b2 w λb3=>
 gW a9 true x7 λb4=>
 gN a9 true b4 w λb5=>
 gF a9 true 38 b5 2 w λb6=>
 gL a9 true 32 b6 w λb7=>
 gC a9 true 55 (pA #[b3,(.pointer none),b7]) w λb8 w=>
 gdR a9 true (λk=>rM .eql 40 (.tmp 160) (.const (.pointer none)) b8 (.pointer none) w k) λb9=>
 bo a9 b9 (.bool false) λc0=>
 gW c0 true x7 λc1=>
 gN c0 true c1 w λc2=>
 gF c0 true 38 c2 3 w λc3=>
 gL c0 true 33 c3 w λc4=>
 gW c0 true x7 λc5=>
 gN c0 true c5 w λc6=>
 gF c0 true 38 c6 1 w λc7=>
 gL c0 true 31 c7 w λc8=>
 gC c0 true 55 (pA #[c4,c8,(.pointer none)]) w λc9 w=>
 gdR c0 true (λk=>rM .eql 40 (.tmp 172) (.const (.pointer none)) c9 (.pointer none) w k) λd0=>
 bo c0 d0 (.bool false) λd1=>
 gW d1 true x14 λd2=>
 gdR d1 true (λk=>rd prog (Instr.build 73 #[]) w k) λd3=>
 gC d1 true 39 (pA #[d2]) w λd4 w=>
 (gq d1 true (ag prog (Instr.build 73 #[]) w d3))/\
 gdR d1 true (λk=>rT .eql 73 177 178 d4 d3 w k) λd5=>
 bo d1 d5 (.bool false) λd6=>
 gW d6 true x14 λd7=>
 gC d6 true 35 (pA #[d7]) w λd8 w=>
 gdR d6 true (λk=>rd prog (Op.unary .not d8) w k) λd9=>
 bo d6 d9 (.bool false) λe0=>
 K e0 w
def Wq:Wm K x7 x8 x12 x13 x14 x16 w=Lq K x7 x8 x12 x13 x14 x16 w:=aI λσ=>Eq.trans (Yy kR 186 (by rw [Ee,Ig]) kR) kR
def acW:Prop:=
 cL 13 (pA #[]) w λa w=>
 ev prog (Op.unary .not a) w λb w=>
 ae b (
 K (.bool false) w) (
 cL 14 (pA #[(.int .i64 1)]) w λc w=>
 bM .eql 23 (.tmp 20) (.const (.pointer none)) c (.pointer none) w λd w=>
 ae d (
 K (.bool false) w) (
 cL 16 (pA #[c,(.int .i64 4)]) w λe w=>
 bU .rem 26 24 .u64 200 x0 w λf w=>
 bM .mul 26 (cu .u64 8) (.tmp 25) (.int .u64 ((8:Nat):Int)) f w λg w=>
 bM .add 26 (cu .u64 1664) (.tmp 26) (.int .u64 ((1664:Nat):Int)) g w λh w=>
 cL 45 (pA #[e,h,x1]) w λi w=>
 cL 46 (pA #[e,h]) w λj w=>
 cL 47 (pA #[e,h]) w λl w=>
 bU .rem 5 38 .u8 2 x2 w λm w=>
 bU .eql 5 39 .u8 1 m w λn w=>
 ae n (
 cL 48 (pA #[e]) w λo w=>
 Lk K h x1 x2 c e j w) (
 Lk K h x1 x2 c e j w)))
def YD:=cA3 Tryz.func9 Pu.2 acW
end
section
variable {w0 w w':an} {Y Y':Lay} {D D':DS} {H:HL} {n k i B Wb off v T:Nat}
def Pv (h:Dv w Y D) (g:aH D) (ho:D.off=true) (off:Nat) (K:K1) (hK:∀w',Stp w Y w' Y (D.fail 0 3)->K (.int .u64 ((0:Nat):Int)) w'):
  ad prog 32 #[.pointer (some ⟨Y.tb 0,0,none⟩),.int .u64 (off:Int)] w K:=by
 have cw:=λ(K:K1)=>zB h g 0 oM off K
 have cd:=h.c_tdev 0 oM;refine B3 _ _ _ _ ?_;unfold QN;refine zS2 cd cw ?_;refine ack h 0 oM (fD D off) _ (λw1 s1=> ?_);have e1:D.on 0 (fD D off)=D.fail 0 3:=by unfold DS.on;rw [if_pos ho]
 rw [e1] at s1;have a:=hK w1 s1;rw [ho];refine zS2 @Bool.not_true @Bool.false_and ?_;exact a
def Ih (h:Dv w Y D) (g:aH D) (hT:Y.tb 0=T) (hC:af w B 171 3 (lgF T)) (hB:¬Y.F B) (ho:D.off=true) (he:D.err 0=0) (K:K1)
  (hK:∀w',Stp w Y w' Y (D.fail 0 3)->K (.tuple #[.slice none 0 0,.int .i64 3]) w'):
  ad prog 71 #[.pointer (some ⟨B,0,none⟩),.slice none 0 0] w K:=by
 have q0:w.cell? ⟨B,0,none⟩=some (.iface 31 (.pointer (some ⟨T,0,none⟩))):=hC.cell (i:=0) oM;have q1:w.cell? ⟨B,1,none⟩=some (.int .u64 ((0:Nat):Int)):=hC.cell (i:=1) oM;have ltB:=hC.lt;refine Dw _ _ _ _ ?_;unfold UV;refine zS1 q0 ?_;apply qi (I:=λz w'=>z= .int .i64 0/\Ext w w') (μ:=λz _=>0)
 ·exact ⟨rfl,xZ⟩
 ·intros;rename_i w2 hI E1 hE;obtain ⟨rfl,e2⟩:=hI;have q0:=e2.cell_some q0;have q1:=e2.cell_some q1;have ltB:=ay q0;have f:∀(w1:an) (K:K1),Ext w w1->ad prog 28 #[.pointer (some ⟨T,0,none⟩)] w1 K=K (.int .i64 0) w1:=λw1 K e=>by rw [<-hT,cM (h.ext e) 0 oM K,he]
  have hld:∀(w1:an),Ext w w1->∀(K:K1),(∀w',Stp w1 Y w' Y (D.fail 0 3)->K (.int .u64 ((0:Nat):Int)) w')->ad prog 32 #[.pointer (some ⟨T,0,none⟩),.int .u64 ((0:Nat):Int)] w1 K:=λw1 e K hK=>by rw [<-hT];exact Pv (h.ext e) g ho 0 K hK
  unfold mY;refine zS0 ?_;rw [iw];unfold iu;refine tU [] _ (SlO.nil _ _ _) (by simp) (by simp) (by simp) _ (λta j w3 k e3 n3=> ?_);have q0:=e3.cell_some q0;have q1:=e3.cell_some q1;have ltB:=ay q0;have a:=e2.trans e3;have b:=λ(w1:an) (K:K1) (e:Ext w3 w1)=>f w1 K (a.trans e)
  simp (disch:=try exact dX) only [↓RBp,↓RA,↓reduceIte,Nat.reduceAdd,Nat.reduceMul,Nat.reduceEqDiff,RB,RX,RA2,q0,q1,b,List.length_nil];refine hld _ (a.trans xZ) _ (λw4 s4=> ?_);have c4:w4.cell? ⟨B,0,none⟩=some (.iface 31 (.pointer (some ⟨T,0,none⟩))):=((hC.ext (a.trans (Ext.drew (Ext.refl _)))).frm s4.frm hB).cell (i:=0) oM;have c:∀(w1:an) (K:K1),Ext w4 w1->ad prog 28 #[.pointer (some ⟨T,0,none⟩)] w1 K=K (.int .i64 3) w1:=λw1 K e=>by
   rw [<-hT,cM (s4.dv.ext e) 0 oM K,show (D.fail 0 3).err 0=3 by simp [DS.fail,he]]
  have d:=hK w4 ((Stp.ext h (a.trans (Ext.drew (Ext.refl _)))).trans s4);refine fC c4 c ?_;exact d
structure SpS (w0 w:an) (Wb B:Nat) (H:HL) (Y:Lay) (D:DS):Prop where
 L:Lv w0 w Y D
 bx:af w Wb 38 8 (wlF Y H 1 (.slice none 0 0) (.slice none 0 0) (.slice none 0 0))
 sp:af w B 123 3 (drF H (Y.tb 4))
 lg:af w H.B 171 3 (lgF (Y.tb 0))
 ne:¬Y.F Wb/\¬Y.F B/\¬Y.F H.B
 dt:Y.dt=Y.tb/\∀i,Y.ids i=i
def SpS.st (h:SpS w0 w Wb B H Y D) (s:Stp w Y w' Y' D') (g:aH D'):SpS w0 w' Wb B H Y' D':=by
 have e1:=s.tb;have e2:=s.d;have l1:=h.bx.lt;have l2:=h.sp.lt;have l3:=h.lg.lt;refine ⟨h.L.step s g,(h.bx.frm s.frm h.ne.1).congr (λi _=>by unfold wlF;rw [e1,e2]),by rw [e1];exact h.sp.frm s.frm h.ne.2.1,by rw [e1];exact h.lg.frm s.frm h.ne.2.2,⟨λhf=> ?_,λhf=> ?_,λhf=> ?_⟩,by rw [s.y];exact h.dt⟩
 ·rcases s.fr _ hf with a|a
  ·exact h.ne.1 a
  ·omega
 ·rcases s.fr _ hf with a|a
  ·exact h.ne.2.1 a
  ·omega
 ·rcases s.fr _ hf with a|a
  ·exact h.ne.2.2 a
  ·omega
def SpS.ext (h:SpS w0 w Wb B H Y D) (e:Ext w w'):SpS w0 w' Wb B H Y D:=h.st (Stp.ext h.L.dv e) h.L.gd
def SpS.q1 (h:SpS w0 w Wb B H Y D):w.cell? ⟨B,1,none⟩=some (.pointer (some ⟨Y.tb 4,0,none⟩)):=h.sp.cell (i:=1) oM
def Wr (h:SpS w0 w Wb B H Y D) (hv:v<18446744073709551616) (hx:D.exe<1000) (K:K1) (hK:∀w' Y',SpS w0 w' Wb B H Y' (D.store 4 off v)->K (.tuple #[]) w'):
  ad prog 45 #[.pointer (some ⟨B,0,none⟩),.int .u64 (off:Int),.int .u64 (v:Int)] w K:=by
 have q1:=h.q1;refine Uu _ _ _ _ _ ?_;unfold ZP;refine zS1 q1 ?_;refine Jh h.L.dv h.L.gd 4 oM off v oM _ (λw1 Y1 s1=> ?_);have a:=hK w1 Y1 (h.st s1 (h.L.gd.store 4 off v hv));exact a
def Ws (h:SpS w0 w Wb B H Y D) (hx:D.exe<1000) (K:K1) (hK:∀w' Y',SpS w0 w' Wb B H Y' (D.flush 4 off)->K (.tuple #[]) w'):
  ad prog 47 #[.pointer (some ⟨B,0,none⟩),.int .u64 (off:Int)] w K:=by
 have q1:=h.q1;refine Uw _ _ _ _ ?_;unfold ZR;refine zS1 q1 ?_;refine Ji h.L.dv h.L.gd 4 oM off oM _ (λw1 s1=> ?_);have a:=hK w1 Y (h.st s1 (h.L.gd.flush 4 off));exact a
def Eg (h:SpS w0 w Wb B H Y D) (hx:D.exe<1000) (K:K1) (hK:∀w' Y',SpS w0 w' Wb B H Y' (D.fence 4)->K (.tuple #[]) w'):
  ad prog 48 #[.pointer (some ⟨B,0,none⟩)] w K:=by
 have q1:=h.q1;refine Ux _ _ _ ?_;unfold ZS;refine zS1 q1 ?_;refine Jk h.L.dv h.L.gd 4 oM oM _ (λw1 Y1 s1=> ?_);have a:=hK w1 Y1 (h.st s1 (h.L.gd.fence 4 oM));exact a
def YE (h:SpS w0 w Wb B H Y D) (ho:D.off=false) (h8:off%8=0) (hn:off<D.n*64) (K:K1):
  ad prog 46 #[.pointer (some ⟨B,0,none⟩),.int .u64 (off:Int)] w K=K (.int .u64 (D.cur (off/8):Int)) w:=by
 have q1:=h.q1;have hl:=λ(K:K1)=>jC h.L.dv h.L.gd 4 oM ho off h8 hn K
 refine ao (by kernel_rfl) (Uv _ _ _ _ ?_) K;unfold ZQ
 (repeat' first|refine ak (λ_=> ?_) (λ_=> ?_)|refine am ?_ ?_|refine zS2 q1 hl ?_|exact yS2 q1 hl|fail)
def Wt (h:SpS w0 w Wb B H Y D) (K:K1):ad prog 53 #[.pointer (some ⟨B,0,none⟩)] w K=K (.int .i64 (D.err 4)) w:=by
 have q1:=h.q1;have hl:=λ(K:K1)=>cM h.L.dv 4 oM K
 refine ao (by kernel_rfl) (Dc _ _ _ ?_) K;unfold Uz
 (repeat' first|refine ak (λ_=> ?_) (λ_=> ?_)|refine am ?_ ?_|refine zS2 q1 hl ?_|exact yS2 q1 hl|fail)
def YF (h:SpS w0 w Wb B H Y D) (K:K1):ad prog 51 #[.pointer (some ⟨B,0,none⟩)] w K=K (.int .u64 ((D.n*64:Nat):Int)) w:=by
 have q1:=h.q1;have hl:=λ(K:K1)=>km h.L.dv h.L.gd 4 oM K
 refine ao (by kernel_rfl) (Uy _ _ _ ?_) K;unfold ZT
 (repeat' first|refine ak (λ_=> ?_) (λ_=> ?_)|refine am ?_ ?_|refine zS2 q1 hl ?_|exact yS2 q1 hl|fail)
def acX (w:an) (K:K1):ad prog 53 #[.pointer none] w K=K (.int .i64 5) w:=by
 refine ao (by kernel_rfl) (Dc _ _ _ ?_) K;unfold Uz
 (repeat' first|refine ak (λ_=> ?_) (λ_=> ?_)|refine am ?_ ?_|refine zS0 ?_|exact yS0|fail)
def Pw (a b c:ap) (w:an) (K:K1):ad prog 17 #[.pointer none,a,b,c] w K=K (.int .i64 5) w:=by
 refine ao (by kernel_rfl) (mV _ _ _ _ _ _ ?_) K;unfold CL
 (repeat' first|refine ak (λ_=> ?_) (λ_=> ?_)|refine am ?_ ?_|refine zS0 ?_|exact yS0|fail)
def Px (a b c:ap) (w:an) (K:K1):ad prog 15 #[.pointer none,a,b,c] w K=K (.tuple #[.int .u64 ((0:Nat):Int),.int .i64 5]) w:=by
 refine ao (by kernel_rfl) (tq _ _ _ _ _ _ ?_) K;unfold KE
 (repeat' first|refine ak (λ_=> ?_) (λ_=> ?_)|refine am ?_ ?_|refine zS0 ?_|exact yS0|fail)
def abN (w:an) (K:K1):ad prog 35 #[.pointer none] w K=K (.bool false) w:=by
 refine ao (by kernel_rfl) (tw _ _ _ ?_) K;unfold KH
 (repeat' first|refine ak (λ_=> ?_) (λ_=> ?_)|refine am ?_ ?_|refine zS0 ?_|exact yS0|fail)
def abO (a b:Option Addr) (w:an) (K:K1):ad prog 55 #[.pointer none,.pointer a,.pointer b] w K=K (.pointer none) w:=by
 refine ao (by kernel_rfl) (mW _ _ _ _ _ ?_) K;unfold Dd
 (repeat' first|refine ak (λ_=> ?_) (λ_=> ?_)|refine am ?_ ?_|refine zS0 ?_|exact yS0|fail)
def abP (a:Addr) (b:Option Addr) (w:an) (K:K1):ad prog 55 #[.pointer (some a),.pointer none,.pointer b] w K=K (.pointer none) w:=by
 refine ao (by kernel_rfl) (mW _ _ _ _ _ ?_) K;unfold Dd
 (repeat' first|refine ak (λ_=> ?_) (λ_=> ?_)|refine am ?_ ?_|refine zS0 ?_|exact yS0|fail)
def Wu (a b:Addr) (w:an) (K:K1):ad prog 55 #[.pointer (some a),.pointer (some b),.pointer none] w K=K (.pointer none) w:=by
 refine ao (by kernel_rfl) (mW _ _ _ _ _ ?_) K;unfold Dd
 (repeat' first|refine ak (λ_=> ?_) (λ_=> ?_)|refine am ?_ ?_|refine zS0 ?_|exact yS0|fail)
def YG (w:an) (K:K1) (hK:∀w',Ext w w'->K (.agg #[.int .i64 0,.int .i64 0,.int .i64 0,.int .i64 0]) w'):ad prog 39 #[.pointer none] w K:=by
 refine DT _ _ _ ?_;unfold VH;refine zS0 ?_;exact hK _ xZ
def Eh (h:SpS w0 w Wb B H Y D) (he:D.err 4=3) (K:K1):ad prog 36 #[.pointer (some ⟨B,0,none⟩),.int .i64 3,.int .u8 ((64:Nat):Int)] w K=K (.tuple #[.int .u64 ((0:Nat):Int),.int .i64 3]) w:=by
 have q1:=h.q1;have b:=λ(K:K1)=>acT h.L.dv 4 oM K
 rw [h.dt.2] at b;have c:=λ(K:K1)=>cM h.L.dv 4 oM K
 rw [he] at c;have a:=λ(K:K1)=>gD ((4:Nat):Int) 3 64 oM w K
 rw [if_pos oM,if_pos oM] at a;refine ao (by kernel_rfl) (CP _ _ _ _ _ ?_) K;unfold Uk
 (repeat' first|refine ak (λ_=> ?_) (λ_=> ?_)|refine am ?_ ?_|refine zS4 q1 b c a ?_|exact yS4 q1 b c a|fail)
def Py (h:SpS w0 w Wb B H Y D) (ho:D.off=true) (a:D.err 0=0) (he:D.err 4=3) (K:K1) (hK:∀w',SpS w0 w' Wb B H Y (D.fail 0 3)->K (.int .i64 3) w'):
  ad prog 17 #[.pointer (some ⟨B,0,none⟩),.slice none 0 0,.slice none 0 0,.slice none 0 0] w K:=by
 have q2:w.cell? ⟨B,2,none⟩=some (.pointer (some ⟨H.B,0,none⟩)):=h.sp.cell (i:=2) oM;refine mV _ _ _ _ _ _ ?_;unfold CL;refine zS1 q2 ?_;refine Ih h.L.dv h.L.gd rfl h.lg h.ne.2.2 ho a _ (λw1 s1=> ?_);have h1:=h.st s1 (h.L.gd.fail 0 3);have q1:=h1.q1;have b:=λ(K:K1)=>cM h1.L.dv 4 oM K
 rw [show (D.fail 0 3).err 4=3 by simp [DS.fail,a,he]] at b;have c:=hK w1 h1;refine zS2 q1 b ?_;exact c
def SpS.b (h:SpS w0 w Wb B H Y D):w.cell? ⟨Wb,0,none⟩=some (.pointer (some ⟨Y.d,0,none⟩))/\w.cell? ⟨Wb,1,none⟩=some (.pointer (some ⟨Y.tb 0,0,none⟩))/\w.cell? ⟨Wb,2,none⟩=some (.pointer (some ⟨H.B,0,none⟩))/\w.cell? ⟨Wb,3,none⟩=some (hpV H):=by
 have:=bk h.bx;exact ⟨this.1,this.2.1,this.2.2.1,this.2.2.2.1⟩
def acY (x y:Operand) (w:an) (k:ap->Prop):rd prog (aC .eql 73 x y (.agg #[.int .i64 0,.int .i64 0,.int .i64 0,.int .i64 0]) (.agg #[.int .i64 0,.int .i64 0,.int .i64 0,.int .i64 0])) w k=k (.bool true):=by
 have h:=GK (P:=prog) (t:=73) (n:=4) (by kernel_rfl) x y [.int .i64 0,.int .i64 0,.int .i64 0,.int .i64 0] [.int .i64 0,.int .i64 0,.int .i64 0,.int .i64 0] rfl (by simp [kin]) w;have e:eqL [Value.int .i64 0,.int .i64 0,.int .i64 0,.int .i64 0] [.int .i64 0,.int .i64 0,.int .i64 0,.int .i64 0]=true:=by simp [eqL]
 rw [e] at h;exact ah h k
def acZ (h:SpS w0 w Wb B H Y D) (ho:D.off=true) (a:D.err 0=0) (he:D.err 4=3) (K:K1) (hK:∀w',Ext w0 w'->K (.bool true) w'):
  Wm K (.pointer (some ⟨Wb,0,none⟩)) (.pointer (some ⟨B,0,none⟩)) (.int .i64 3) (.pointer none) (.pointer none) (.int .i64 5) w:=by
 have er:=λ(w1:an) (K:K1) (e:Ext w w1)=>Wt (h.ext e) K
 rw [he] at er;have pu:=λ(w1:an) (e:Ext w w1) (K:K1) hK=>Py (h.ext e) ho a he K hK
 have e3:decide ((3:Int)=3)=true:=rfl;have e5:decide ((5:Int)=5)=true:=rfl;rw [Wq];unfold Lq;refine fC er e3 ?_;refine pu _ xZ _ (λw2 h2=> ?_);have b4:=h2.b;have b1:=b4.2.1;have b2:=b4.2.2.1;have b3:=b4.2.2.2;clear b4;refine jk e3 e5 @acX @Pw b1 b2 b3 @abO @abP @Wu @Wu ?_;refine YG _ _ (λw3 e3=> ?_);have c:=hK w3 (h2.L.ex.trans e3);have ab:=λ(w:an) (v:ap)=>aV (nL w) v
 refine eQ ab @acY @abN ?_;exact ⟨trivial,c⟩
def ac0 (h:SpS w0 w Wb B H Y D) (ho:D.off=false) (hx:D.exe<900) (c:D.err 0=0) (he:D.err 4=0) (K:K1) (hK:∀w',Ext w0 w'->K (.bool true) w'):
  Wl K (.pointer (some ⟨Wb,0,none⟩)) (.pointer (some ⟨B,0,none⟩)) w:=by
 have b0:=h.b.1;have ea:D.arm 0={D with armed:=true,left:=0}:=by simp [DS.arm,ho]
 rw [Wp];unfold Lo;refine zS1 b0 ?_;refine acr h.L.dv 0 _ (λw1 s1=> ?_);rw [ea] at s1;have g1:aH ({D with armed:=true,left:=0}:DS):=by have:=h.L.gd;exact {this with left:=⟨by show (0:Int)<=0;decide,by show (0:Int)<9223372036854775808;decide⟩}
 have h1:=h.st s1 g1;refine Eg h1 (by show D.exe<1000;omega) _ (λw2 Y2 h2=> ?_);have e4:({D with armed:=true,left:=0}:DS).fence 4=({D with off:=true,armed:=true,left:=0}:DS).fail 4 3:=by
  simp [DS.fence,DS.runs,DS.counted,ho]
 rw [e4] at h2;have eo:(({D with off:=true,armed:=true,left:=0}:DS).fail 4 3).off=true:=by simp [DS.fail,he]
 have e0:(({D with off:=true,armed:=true,left:=0}:DS).fail 4 3).err 0=0:=by simp [DS.fail,he,c]
 have a:(({D with off:=true,armed:=true,left:=0}:DS).fail 4 3).err 4=3:=by simp [DS.fail,he]
 have al:=λ(K:K1)=>Eh h2 a K
 have d:=acZ h2 eo e0 a K hK;refine zS2 al @Px ?_;exact d
def ac1 {Y2:Lay} {D2:DS} {nn:Nat} (h:SpS w0 w Wb B H Y D) (ho:D.off=false) (hx:D.exe<900) (f:D.err 0=0) (he:D.err 4=0) (d2:Dv w Y2 D2) (g2:aH D2) (o2:D2.off=false) (c:Y2.dt=Y2.tb) (n2:D2.n=D.n) (h8:off%8=0) (hl:off<D.n*64) (hc:D.cur (off/8)=v) (hi:nn%2=1->D2.cur (off/8)=v) (hn:nn<256) (K:K1) (hK:∀w',Ext w0 w'->K (.bool true) w'):
  Wk K (.int .u64 (off:Int)) (.int .u64 (v:Int)) (.int .u8 (nn:Int)) (.pointer (some ⟨Wb,0,none⟩)) (.pointer (some ⟨B,0,none⟩)) (.int .u64 (v:Int)) (.pointer (some ⟨Y2.d,0,none⟩)) w:=by
 obtain ⟨b0,b1,_,_⟩:=h.b;have lW:=ay b0;have em:(nn:Int)%2=((nn%2:Nat):Int):=oM;have sz:=λ(w1:an) (K:K1) (e:Ext w w1)=>YF (h.ext e) K
 have sd:=λ(w1:an) (K:K1) (e:Ext w w1)=>kl (h.L.dv.ext e) h.L.gd K
 have er:=λ(w1:an) (K:K1) (e:Ext w w1)=>Wt (h.ext e) K
 rw [he] at er;have ld:=λ(w1:an) (K:K1) (e:Ext w w1)=>jC (h.L.dv.ext e) h.L.gd 0 oM ho off h8 hl K
 rw [hc] at ld;have th:=λ(w1:an) (K:K1) (e:Ext w w1)=>jD (d2.ext e) 0 oM K
 rw [c,show (((0:Nat):Int))=0 from rfl] at th;have k3:=λ(w1:an) (e:Ext w w1)=>ac0 (h.ext e) ho hx f he K hK
 rw [Wo];unfold Ln;by_cases e1:nn%2=1
 ·have a:=λ(w1:an) (K:K1) (e:Ext w w1)=>jC (d2.ext e) g2 0 oM o2 off h8 (by rw [n2];exact hl) K
  rw [hi e1] at a;rw [e1] at em;refine jk em sz sd er ld a th b0 b1 b1 b1 ?_;refine ⟨trivial,trivial,trivial,?_⟩;rw [Ef];unfold Bt;refine F5 ?_;exact k3 _ xZ
 ·rw [show nn%2=0 by omega] at em;refine fp em sz sd er ld th b0 b1 ?_;refine ⟨trivial,trivial,trivial,?_⟩;rw [Ef];unfold Bt;refine F5 ?_;exact k3 _ xZ
def aan {nn:Nat} (h:SpS w0 w Wb B H Y D) (ho:D.off=false) (hx:D.exe<900) (c:D.err 0=0) (he:D.err 4=0) (h8:off%8=0) (hl:off<D.n*64) (hc:D.cur (off/8)=v) (hi:nn%2=1->∀F,mQ D F->F (off/8)=v) (hn:nn<256) (K:K1) (hK:∀w',Ext w0 w'->K (.bool true) w'):
  Lk K (.int .u64 (off:Int)) (.int .u64 (v:Int)) (.int .u8 (nn:Int)) (.pointer (some ⟨Wb,0,none⟩)) (.pointer (some ⟨B,0,none⟩)) (.int .u64 (v:Int)) w:=by
 obtain ⟨b0,_,_,_⟩:=h.b;have gn:=h.L.gd.n;rw [Wn];unfold Lm;refine zS1 b0 ?_;refine XW h.L.dv h.L.gd oM (m:=0) (us:= []) ⟨none,0,rfl,.inl rfl⟩ (by simp) (by simp) _ (λF w2 Y2 e2 im d2 f a=> ?_);have th:=λ(w3:an) (K:K1) (e:Ext w2 w3)=>jD (d2.ext e) 0 oM K
 rw [a.1,show (((0:Nat):Int))=0 from rfl] at th;have g2:aH (DS.init D.n ((List.range (8*D.n)).map F)):=aH.init _ _ oM oM (λy hy=>by
  obtain ⟨j,hj,rfl⟩:=List.mem_map.1 hy;exact im.lt h.L.gd j (by simpa using hj))
 have d:=λ(w3:an) (e3:Ext w2 w3)=>ac1 (nn:=nn) (h.ext (e2.trans e3)) ho hx c he (d2.ext e3) g2 rfl a.1 rfl h8 hl hc (λe1=>by
  show ((List.range (8*D.n)).map F).getD (off/8) 0=v;rw [lZ F oM];exact hi e1 F im) hn K hK
 refine gG th ?_;exact d _ xZ
def Ii {o v nn:Nat} (hG:bq w) (hv:v<18446744073709551616) (hn:nn<256) (K:K1) (hK:∀w',Ext w w'->K (.bool true) w'):
  ad prog 9 #[.int .u64 (o:Int),.int .u64 (v:Int),.int .u8 (nn:Int)] w K:=by
 have em:(nn:Int)%2=((nn%2:Nat):Int):=oM;refine YD _ _ _ _ _ ?_;unfold acW;refine xL hG _ (λw1 h1=> ?_);have j:=hG.ext h1;have hb:=xK (n:=1) oM;refine zS0 ?_;refine t7 (n:=1) j oM oM _ (λWb H Y w2 p m r L=> ?_);have g:=λ(w3:an) (e:Ext w2 w3) (K:K1) hK=>(L.ext e).space (k:=4) oM K hK
 refine zS0 ?_;refine g _ xZ _ (λB w3 i hB sB=> ?_);have L3:=L.ext i;have S3:SpS w1 w3 Wb B H Y (hbD 1):=⟨L3.hp.ar.L,L3.bx,sB.bx,L3.hp.lg,⟨L3.ne.1,sB.ne.1,(L3.hp.sep H.B (by simp)).2.1⟩,L3.hp.dt⟩;obtain ⟨off,ho⟩:∃off:Nat,1664+8*(o%200)=off:=⟨_,rfl⟩;have h8:off%8=0:=oM;have cl:=Wd (n:=1) oM;refine (λ(b:∀D:DS,SpS w1 w3 Wb B H Y D->D.off=false->D.armed=false->(∀l,D.hist l= [])->D.n=58->D.exe<=100->D.err 0=0->D.err 4=0->_)=>b (hbD 1) S3 hb.1.on.off hb.1.on.arm (λl=>cl.hist l) (by have:=hb.2.1;omega) (by have:=hb.2.2.1;omega) (hb.2.2.2.1 0) (hb.2.2.2.1 4)) (λD S3 d1 d2 d3 nb x0 z0 z4=> ?_);clear cl hb L L3;obtain ⟨o1,o2,o3,o4,o5,o6,o7,o8,o9,q,a,d,f⟩:=acU (D:=D) (id:=4) (off:=off) (v:=v) d1 d2 h8 oM d3;have st:=Ec (D:=D) (id:=4) (off:=off) (v:=v) d1 d2 h8 oM;have c4:(D.store 4 off v).cur (off/8)=v:=by rw [st];simp [DS.write]
 have n4:(D.store 4 off v).n=58:=by rw [st];exact nb
 have f4:(D.store 4 off v).off=false:=by rw [st];exact d1
 have x4:(D.store 4 off v).exe=D.exe+1:=by rw [st];rfl
 refine zS0 ?_;rw [ho];refine Wr (off:=off) S3 hv oM _ (λw4 Y4 h4=> ?_);have ld:=λ(K:K1)=>YE h4 f4 h8 oM K
 rw [c4] at ld;refine zS1 ld ?_;refine Ws (off:=off) h4 oM _ (λw5 Y5 h5=> ?_);have h5:SpS w1 w5 Wb B H Y5 (spD D 4 off v):=h5;by_cases c:nn%2=1
 ·rw [c] at em;refine zS1 em ?_;refine Eg h5 oM _ (λw6 Y6 h6=> ?_);exact aan (nn:=nn) h6 o7 oM (by rw [a];exact z0) (by rw [a];exact z4) h8 oM d (λ_=>f) hn K (λw' e=>hK w' (h1.trans e))
 ·rw [show nn%2=0 by omega] at em;refine zS1 em ?_;exact aan (nn:=nn) h5 o1 oM (by rw [o5];exact z0) (by rw [o5];exact z4) h8 oM o6 (λh=>absurd h c) hn K (λw' e=>hK w' (h1.trans e))
end
end Go.Proofs.YtmpehclnnjgmcaaGreatDoor
