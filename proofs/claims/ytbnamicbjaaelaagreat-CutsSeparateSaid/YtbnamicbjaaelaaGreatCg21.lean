/- Texts of the proof. -/
import Derived.Test.YtbnamicbjaaelaaGreatCg12
import Derived.Test.YtbnamicbjaaelaaGreatCg15
import Derived.Test.YtbnamicbjaaelaaGreatCg18
import Derived.Test.YtbnamicbjaaelaaGreatCg20
set_option linter.all false
set_option maxHeartbeats 2000000
set_option maxRecDepth 100000
namespace Go.Proofs.YtbnamicbjaaelaaGreat
open Go.Proofs.Tryz
open Go.RowKit
def dF (F:Nat->Int->Int) (e:Int) (n:Nat):Int:=(List.range n).foldl (λe i=>F i e) e
theorem eo (F:Nat->Int->Int) (e:Int) (n:Nat):dF F e (n+1)=F n (dF F e n):=by
 unfold dF;rw [List.range_succ,List.foldl_append];rfl
theorem iH {F:Nat->Int->Int} (hF: ∀i e,e≠0->F i e=e) {e:Int} (h:e≠0): ∀n,dF F e n=e
 |0=>rfl
 |n+1=>by rw [eo,iH hF h n,hF n e h]
theorem iA {F:Nat->Int->Int} (hF: ∀i e,e≠0->F i e=e) {e:Int} {i n:Nat} (hi:i<=n) (h:dF F e i≠0):dF F e i=dF F e n:=by
 induction n with
 |zero=>rw [Nat.le_zero.1 hi]
 |succ n ih=>
  by_cases q:i=n+1
  .rw [q]
  .rw [eo,<-ih ae,hF n _ h]
theorem gQ {F:Nat->Int->Int} (hF: ∀i e,e≠0->F i e=e) {e:Int} {n:Nat} (h:dF F e n=0):e=0/\ ∀i,i<n->dF F e i=0/\F i 0=0:=by
 have key: ∀i,i<=n->dF F e i=0:=λi hi=>by
  apply Classical.byContradiction;intro hne;rw [<-iA hF hi hne]at h;exact hne h
 refine ⟨by have:=key 0 aZ;simpa [dF]using this,λi hi=>⟨key i ae,?_⟩⟩;have h1:=key (i+1) hi;rw [eo,key i ae]at h1;exact h1
def cK {α:Type} (l:List α) (F:α->Nat->Int->Int) (i:Nat) (e:Int):Int:=match l[i]? with|some x=>F x i e|none=>e
theorem i7 {α:Type} {l:List α} {F:α->Nat->Int->Int} {i:Nat} (h:i<l.length) (e:Int):cK l F i e=F l[i] i e:=by unfold cK;rw [List.getElem?_eq_getElem h]
theorem dI {α:Type} {l:List α} {F:α->Nat->Int->Int} (hF: ∀x i e,e≠0->F x i e=e) (i:Nat) (e:Int) (h:e≠0):cK l F i e=e:=by
 unfold cK;split
 .exact hF _ _ _ h
 .rfl
def p_ (c:ay) (x:dK) (prev:List ByteArray) (e:Int):Int:=nd (gm (gJ e x.name prev) c x.cV 0 1048576) (bN 0 1048576 [x.jF]) 3
theorem kT {e:Int} (h:e≠0) (nm:ByteArray) (prev:List ByteArray):gJ e nm prev=e:=by unfold gJ;simp only [fq h]
theorem sF {e:Int} (h:e≠0) (c:ay) (i:Int):qy e c i=e:=fq h _ _
theorem uR {e:Int} (h:e≠0) (c:ay) (l:List Int) (a b:Int):gm e c l a b=e:=by unfold gm;simp only [fq h]
theorem ui {e:Int} (h:e≠0) (c:ay) (l:List Int):n9 e c l=e:=by unfold n9;simp only [fq h]
theorem Jj {e:Int} (h:e≠0) (x:aP):lp e x=e:=by unfold lp;simp only [fq h]
def uj (c:ay):dK->Nat->Int->Int:=λx i e=>p_ c x ((c.aF.take i).map dK.name) e
def oh (c:ay):bn->Nat->Int->Int:=λx i e=>rY c x ((c.lines.take i).map bn.name) e
def om (c:ay):aP->Nat->Int->Int:=λx i e=>od c x ((c.aA.take i).map aP.name) e
def ku (c:ay):bW->Nat->Int->Int:=λx i e=>nB c x ((c.stores.take i).map bW.name) e
def vI (c:ay):fp->Nat->Int->Int:=λx i e=>Bu c x ((c.bh.take i).map fp.name) e
def yZ (c:ay):cJ->Nat->Int->Int:=λx i e=>pI c x ((c.outs.take i).map cJ.name) e
theorem sG (c:ay) (x:dK) (i:Nat) (e:Int) (h:e≠0):uj c x i e=e:=by unfold uj p_;simp only [kT h,uR h,fq h]
theorem uk (c:ay) (x:bn) (i:Nat) (e:Int) (h:e≠0):oh c x i e=e:=by unfold oh rY;simp only [kT h,sF h,ui h,fq h]
theorem pK (c:ay) (x:aP) (i:Nat) (e:Int) (h:e≠0):om c x i e=e:=by unfold om od;simp only [kT h,sF h,ui h,Jj h,fq h]
theorem nI (c:ay) (x:bW) (i:Nat) (e:Int) (h:e≠0):ku c x i e=e:=by unfold ku nB;simp only [kT h,sF h,fq h]
theorem sH (c:ay) (x:fp) (i:Nat) (e:Int) (h:e≠0):vI c x i e=e:=by unfold vI Bu;simp only [kT h,sF h,uR h,fq h]
theorem sI (c:ay) (x:cJ) (i:Nat) (e:Int) (h:e≠0):yZ c x i e=e:=by unfold yZ pI;simp only [kT h,fq h]
def oZ (c:ay) (e:Int):Int:=dF (cK c.aF (uj c)) e c.aF.length
def mv (c:ay) (e:Int):Int:=dF (cK c.lines (oh c)) e c.lines.length
def o0 (c:ay) (e:Int):Int:=dF (cK c.aA (om c)) e c.aA.length
def l9 (c:ay) (e:Int):Int:=dF (cK c.stores (ku c)) e c.stores.length
def uS (c:ay) (e:Int):Int:=dF (cK c.bh (vI c)) e c.bh.length
def uT (c:ay) (e:Int):Int:=dF (cK c.outs (yZ c)) e c.outs.length
def j5 (c:ay) (h:Int):List (Nat×Nat):=(dz c h c.lines.length).map λi=>((lq c i).1.toNat,(lq c i).2.toNat)
def fW (l:List Nat) (out:List Int):Nat->List Nat
 |0=> []
 |n+1=>if hasB out ((l.getD n 0:Nat):Int)=true then fW l out n++ [n]else fW l out n
theorem um (l:List Nat) (out:List Int): ∀n,∀k∈fW l out n,k<n
 |0,k,h=>by simp [fW]at h
 |n+1,k,h=>by
  unfold fW at h;split at h
  .rcases List.mem_append.1 h with h|h
   .have:=um l out n k h;omega
   .rw [List.mem_singleton]at h;omega
  .have:=um l out n k h;omega
theorem qa (l:List Nat) (out:List Int): ∀n,(fW l out n).length<=n
 |0=>bY
 |n+1=>by
  have:=qa l out n;unfold fW;split
  .rw [List.length_append];simp;exact this
  .omega
noncomputable def ky (c:ay) (h:Int) (x:cJ):Bool:=LR c.aF.length (j5 c h) (aR (fW (dz c h c.lines.length) x.lines (dz c h c.lines.length).length))
noncomputable def mR (c:ay) (h:Nat) (e:Int):Int:=dF (cK c.outs λx _ e=>nd e (!ky c h x) 13) e c.outs.length
theorem pL (c:ay) (h:Nat) (e:Int) (he:e≠0):mR c h e=e:=iH (λi e h=>dI (λ_ _ _ h=>fq h _ _) i e h) he _
noncomputable def xC (c:ay) (e:Int):Int:=dF (mR c) e c.hours.toNat
noncomputable def cE (c:ay):Int:=xC c (uT c (uS c (l9 c (o0 c (mv c (oZ c (iN c 0)))))))
theorem xD {e:Int} {c:ay} {l:List Int} (h:n9 e c l=0):e=0:=by
 unfold n9 at h;exact (bJ aq (bJ aq h).1).1
theorem iI {e:Int} {c:ay} {l:List Int} {a b:Int} (h:gm e c l a b=0):e=0/\(l.length:Int)=c.hours/\bN a b l=true:=by
 unfold gm at h;have h1:=bJ aq h;have h2:=bJ aq h1.1;exact ⟨h2.1,by simpa using h2.2,h1.2⟩
theorem cN {lo hi x:Int}:bN lo hi [x]=true↔lo<=x/\x<=hi:=by unfold bN;simp
theorem uU {c:ay} {e:Int}: ∀n,jN c e n=0->e=0
 |0,h=>by simpa [jN]using h
 |n+1,h=>by rw [fL]at h;exact uU n (bJ aq h).1
theorem DG {c:ay} {e:Int} (h:iN c e=0):1<=c.hours/\c.hours<=24:=by
 unfold iN at h;have h1:=uU _ h;have h2:=(bJ aq h1).1;have h3:=(iI h2).1;exact cN.1 (bJ aq h3).2
theorem FZ {c:ay} {x:bn} {i:Nat} {e:Int} (h:oh c x i e=0):(0<=x.dL/\x.dL<c.aF.length)/\(0<=x.ld/\x.ld<c.aF.length):=by
 unfold oh rY at h;have h1:=xD h;have h2:=(bJ aq h1).1;have h3:=(bJ aq h2).1;have h4:=(bJ aq h3).1;have h5:=(bJ aq h4).1;have h6:=(bJ aq h5).1;have h7:=(bJ aq h6).1;unfold qy at h7;have h8:=bJ aq h7;have h9:=bJ aq h8.1;have a:=cN.1 h8.2;have b:=cN.1 h9.2;exact ⟨ae,ae⟩
theorem uV {c:ay} {e:Int} (h:mv c e=0):e=0/\ ∀i (hi:i<c.lines.length),(0<=c.lines[i].dL/\c.lines[i].dL<c.aF.length)/\(0<=c.lines[i].ld/\c.lines[i].ld<c.aF.length):=by
 unfold mv at h;have h1:=gQ (λi e h=>dI (uk c) i e h) h;refine ⟨h1.1,λi hi=> ?_⟩;have h2:=(h1.2 i hi).2;rw [i7 hi]at h2;exact FZ h2
theorem xE {c:ay} (hl: ∀i (hi:i<c.lines.length),(0<=c.lines[i].dL/\c.lines[i].dL<c.aF.length)/\(0<=c.lines[i].ld/\c.lines[i].ld<c.aF.length)) (h:Int):
 (∀p∈j5 c h,p.1<c.aF.length/\p.2<c.aF.length)/\gC (iG c (dz c h c.lines.length))=fz (j5 c h):=by
 constructor
 .intro p hp
  obtain ⟨i,hi,rfl⟩:=List.mem_map.1 hp;have rP:=jO c h _ i hi;rw [pJ rP];have:=hl i rP;simp only;omega
 .unfold gC iG fz j5
  rw [List.map_map,List.map_map];apply List.map_congr_left;intro i hi;have rP:=jO c h _ i hi;have:=hl i rP;simp only [Function.comp,pJ rP];rw [Int.toNat_of_nonneg ae,Int.toNat_of_nonneg ae]
theorem xG (c:ay) (h:Int):(j5 c h).length=(dz c h c.lines.length).length:=by simp [j5]
theorem DI {lo hi:Int} {l:List Int}:bN lo hi l=true↔ ∀x∈l,lo<=x/\x<=hi:=by
 unfold bN;simp [List.all_eq_true]
theorem l_ {lo hi:Int} {l:List Int} (h:bN lo hi l=true) (i:Nat) (hi':i<l.length):lo<=gw l i/\gw l i<=hi:=by
 rw [fo hi'];exact DI.1 h _ (List.getElem_mem hi')
theorem xH {c:ay} {e:Int}: ∀n,jN c e n=0->e=0/\ ∀j,j<n->((dV c ((j:Int)+2)).length:Int)<=ln ((j:Int)+2)
 |0,h=>⟨by simpa [jN]using h,λj hj=>absurd hj (Nat.not_lt_zero _)⟩
 |n+1,h=>by
  rw [fL]at h;have h1:=bJ aq h;have h2:=xH n h1.1;refine ⟨h2.1,λj hj=> ?_⟩;by_cases q:j=n
  .subst q;simpa using h1.2
  .exact h2.2 j ae
structure Hc (c:ay):Prop where
 hours:1<=c.hours/\c.hours<=24
 LZ:(c.aX.length:Int)=c.hours
 res:bN 0 1048576 c.aX=true
 aF:1<=c.aF.length/\c.aF.length<=32
 lines:c.lines.length<=64
 aA:c.aA.length<=16
 stores:c.stores.length<=8
 bh:c.bh.length<=8
 outs:c.outs.length<=64
theorem Jk {c:ay} {e:Int} (h:iN c e=0):Hc c:=by
 unfold iN at h;have h1:=xH _ h;have h2:=bJ aq h1.1;have h3:=iI h2.1;have h4:=cN.1 (bJ aq h3.1).2;have h5:=cN.1 h2.2;have m0:=h1.2 0 aq;have m1:=h1.2 1 aq;have m2:=h1.2 2 aq;have m3:=h1.2 3 aq;have m4:=h1.2 4 aq
 simp [dV,ln]at m0 m1 m2 m3 m4;exact ⟨h4,h3.2.1,h3.2.2,ae,ae,ae,ae,ae,ae⟩
theorem Jl {c:ay} {x:dK} {i:Nat} {e:Int} (h:uj c x i e=0):(x.cV.length:Int)=c.hours/\bN 0 1048576 x.cV=true/\0<=x.jF/\x.jF<=1048576:=by
 unfold uj p_ at h;have h1:=bJ aq h;have h2:=iI h1.1;exact ⟨h2.2.1,h2.2.2,cN.1 h1.2⟩
theorem uq {e:Int} {c:ay} {i:Int} (h:qy e c i=0):e=0/\0<=i/\i<c.aF.length:=by
 unfold qy at h;have h1:=bJ aq h;have h2:=cN.1 h1.2;exact ⟨h1.1,ae,ae⟩
theorem F0 {e:Int} {x:aP} (h:lp e x=0):e=0/\(x.aY.length:Int)<=8/\x.aY.all iZ=true:=by
 unfold lp at h;have h1:=bJ aq (bJ aq (bJ aq h).1).1;have h2:=bJ aq h1.1;exact ⟨h2.1,by simpa using h2.2,h1.2⟩
structure L0 (c:ay) (x:aP):Prop where
 fE:0<=x.fE/\x.fE<c.aF.length
 min:0<=x.min/\x.min<=x.max
 max:x.max<=1048576
 aY:(x.aY.length:Int)<=8
 Kh:x.aY.all iZ=true
 fF:0<=x.fF/\x.fF<=1048576
 fG:0<=x.fG/\x.fG<=1048576
 dA:0<=x.dA/\x.dA<=1048576
 cQ:x.min<=x.cQ/\x.cQ<=x.max
 dB:x.min<=x.dB/\x.dB<=x.max
 eK:0<=x.eK/\x.eK<=24
 dC:0<=x.dC/\x.dC<=24
 startTime:0<=x.startTime/\x.startTime<=24
 dX:0<=x.dX/\x.dX<=1048576
 dD:0<=x.dD/\x.dD<=1048576
 dE:0<=x.dE/\x.dE<=24
 aX:0<=x.aX/\x.aX<=1048576
 bR:0<=x.bR/\x.bR<=1048576
 state:0<=x.state/\x.state<=2
 Vl:(x.state !=1||decide (0<x.startTime))=true
 hours:1<=x.hours/\x.hours<=48
 started:(x.state !=1||decide (x.hours<=x.startTime))=true
theorem F6 {c:ay} {x:aP} {i:Nat} {e:Int} (h:om c x i e=0):L0 c x:=by
 unfold om od at h;have a1:=bJ aq h;have a2:=bJ aq a1.1;have a3:=bJ aq a2.1;have a4:=bJ aq a3.1;have a5:=bJ aq a4.1;have a6:=xD a5.1;have b1:=bJ aq a6;have b2:=bJ aq b1.1;have b3:=bJ aq b2.1;have b4:=bJ aq b3.1;have b5:=bJ aq b4.1;have b6:=bJ aq b5.1;have b7:=bJ aq b6.1;have b8:=bJ aq b7.1;have b9:=bJ aq b8.1;have b10:=bJ aq b9.1;have b11:=bJ aq b10.1;have b12:=bJ aq b11.1;have b13:=bJ aq b12.1;have d0:=F0 b13.1;have d1:=bJ aq d0.1;have d2:=bJ aq d1.1;have d3:=uq d2.1;have m1:=cN.1 d2.2;have m2:=cN.1 d1.2
 exact ⟨d3.2,ae,m2.2,d0.2.1,d0.2.2,cN.1 b13.2,cN.1 b12.2,cN.1 b11.2,cN.1 b10.2,cN.1 b9.2,cN.1 b8.2,cN.1 b7.2,cN.1 b6.2,cN.1 b5.2,cN.1 b4.2,cN.1 b3.2,cN.1 b2.2,cN.1 b1.2,cN.1 a5.2,a4.2,cN.1 a3.2,a2.2⟩
structure Hd (c:ay) (x:bW):Prop where
 fE:0<=x.fE/\x.fE<c.aF.length
 capacity:0<=x.capacity/\x.capacity<=1048576
 initial:0<=x.initial/\x.initial<=x.capacity
 final:0<=x.final/\x.final<=x.capacity
 gN:0<=x.gN/\x.gN<=1048576
 discharge:0<=x.discharge/\x.discharge<=1048576
 eff:((fI x.en x.ed&&decide (0<x.en))&&decide (x.en<=x.ed))=true
theorem DJ {c:ay} {x:bW} {i:Nat} {e:Int} (h:ku c x i e=0):Hd c x:=by
 unfold ku nB at h;have a1:=bJ aq h;have a2:=bJ aq a1.1;have a3:=bJ aq a2.1;have a4:=bJ aq a3.1;have a5:=bJ aq a4.1;have a6:=bJ aq a5.1;have a7:=uq a6.1;exact ⟨a7.2,cN.1 a6.2,cN.1 a5.2,cN.1 a4.2,cN.1 a3.2,cN.1 a2.2,a1.2⟩
structure PY (c:ay) (x:fp):Prop where
 fE:0<=x.fE/\x.fE<c.aF.length
 imp:(x.imp.length:Int)=c.hours/\bN 0 1048576 x.imp=true
 exp:(x.exp.length:Int)=c.hours/\bN 0 1048576 x.exp=true
 bE:(x.bE.length:Int)=c.hours/\bN (-1048576) 1048576 x.bE=true
theorem Jm {c:ay} {x:fp} {i:Nat} {e:Int} (h:vI c x i e=0):PY c x:=by
 unfold vI Bu at h;have a1:=iI h;have a2:=iI a1.1;have a3:=iI a2.1;have a4:=uq a3.1;exact ⟨a4.2,a3.2,a2.2,a1.2⟩
theorem lu {α:Type} {l:List α} {F:α->Nat->Int->Int} (hF: ∀x i e,e≠0->F x i e=e) {e:Int} (h:dF (cK l F) e l.length=0):e=0/\ ∀i (hi:i<l.length),F l[i] i 0=0:=by
 have h1:=gQ (λi e h=>dI hF i e h) h;refine ⟨h1.1,λi hi=> ?_⟩;have h2:=(h1.2 i hi).2;rw [i7 hi]at h2;exact h2
structure iB (c:ay):Prop where
 frame:Hc c
 fE: ∀x∈c.aF,(x.cV.length:Int)=c.hours/\bN 0 1048576 x.cV=true/\0<=x.jF/\x.jF<=1048576
 line: ∀i (hi:i<c.lines.length),(0<=c.lines[i].dL/\c.lines[i].dL<c.aF.length)/\(0<=c.lines[i].ld/\c.lines[i].ld<c.aF.length)
 unit: ∀x∈c.aA,L0 c x
 store: ∀x∈c.stores,Hd c x
 tie: ∀x∈c.bh,PY c x
theorem He {c:ay} (h7:uT c (uS c (l9 c (o0 c (mv c (oZ c (iN c 0))))))=0):iB c:=by
 have h6:=lu (sI c) h7;have h5:=lu (sH c) h6.1;have h4:=lu (nI c) h5.1;have h3:=lu (pK c) h4.1;have h2:=uV (c:=c) h3.1;have h1:=lu (sG c) h2.1;refine ⟨Jk h1.1,?_,h2.2,?_,?_,?_⟩
 .intro x hx
  obtain ⟨i,hi,rfl⟩:=List.getElem_of_mem hx;exact Jl (h1.2 i hi)
 .intro x hx
  obtain ⟨i,hi,rfl⟩:=List.getElem_of_mem hx;exact F6 (h3.2 i hi)
 .intro x hx
  obtain ⟨i,hi,rfl⟩:=List.getElem_of_mem hx;exact DJ (h4.2 i hi)
 .intro x hx
  obtain ⟨i,hi,rfl⟩:=List.getElem_of_mem hx;exact Jm (h5.2 i hi)
theorem pM {c:ay} (h:cE c=0):iB c:=by
 unfold cE at h;unfold xC at h;exact He (gQ (pL c) h).1
def desc (l:List Int):List Int:=l.mergeSort (λa b=>decide (b<=a))
theorem ur (l:List Int):(desc l).Perm l:=List.mergeSort_perm l _
theorem uW (l:List Int):(desc l).length=l.length:=(ur l).length_eq
def Jn (s:Int):List Int->Int->Nat
 | [],_=>0
 |d::l,want=>if want<=s then 0 else Jn (s+d) l want+1
def xI (c:ay) (u:Nat):Int:=(c.aA[u]?.map aP.max).getD 0
def Ab (c:ay) (u:Nat):List Int:=(c.aA[u]?.map aP.away).getD []
def dG (c:ay) (h:Int) (u:Nat):Int:=if hasB (Ab c u) h=true then 0 else xI c u
theorem xJ {c:ay} {i:Nat} (h:i<c.aA.length):xI c i=c.aA[i].max:=by unfold xI;rw [List.getElem?_eq_getElem h];rfl
theorem DK {c:ay} {i:Nat} (h:i<c.aA.length):Ab c i=c.aA[i].away:=by unfold Ab;rw [List.getElem?_eq_getElem h];rfl
theorem mb {c:ay} (hc:iB c) (h:Int) (u:Nat):0<=dG c h u/\dG c h u<=1048576:=by
 unfold dG;split
 .omega
 .by_cases hu:u<c.aA.length
  .rw [xJ hu]
   have:=hc.unit _ (List.getElem_mem hu);have h1:=this.min;have h2:=this.max
   omega
  .unfold xI;rw [List.getElem?_eq_none ae];simp
def i9 (c:ay) (h:Int) (us:List Int) (n:Nat):Int:=(((List.range n).filter λ(u:Nat)=> !hasB us (u:Int)).map (dG c h)).sum
def mf (c:ay) (h:Int) (us:List Int) (n:Nat):List Int:=((List.range n).filter λ(u:Nat)=>hasB us (u:Int)).map (dG c h)
theorem nJ (c:ay) (h:Int) (us:List Int) (n:Nat):i9 c h us (n+1)=if hasB us (n:Int)=true then i9 c h us n else i9 c h us n+dG c h n:=by
 unfold i9;rw [List.range_succ,List.filter_append];cases q:hasB us (n:Int)<;>simp [q]
theorem F8 (c:ay) (h:Int) (us:List Int) (n:Nat):mf c h us (n+1)=if hasB us (n:Int)=true then mf c h us n++ [dG c h n]else mf c h us n:=by
 unfold mf;rw [List.range_succ,List.filter_append];cases q:hasB us (n:Int)<;>simp [q]
theorem o5 {c:ay} (hc:iB c) (h:Int) (us:List Int) (n:Nat):0<=i9 c h us n/\i9 c h us n<=n*1048576:=by
 induction n with
 |zero=>simp [i9]
 |succ n ih=>
  rw [nJ];have:=mb hc h n;split<;>omega
def gK (c:ay) (h n:Nat):Int:=((c.aF.take n).map λb=>if b.jF=0 then gw b.cV h else 0).sum
def jm (c:ay) (n:Nat):Int:=((c.stores.take n).map bW.discharge).sum
def kE (c:ay) (h n:Nat):Int:=((c.bh.take n).map λt=>gw t.imp h).sum
def jx (c:ay) (h:Nat):Int:=gw c.aX h+gK c h c.aF.length-jm c c.stores.length-kE c h c.bh.length
theorem xL (l:List Int) (x:Int):(l++ [x]).sum=l.sum+x:=by rw [List.sum_append];simp
theorem qC (c:ay) (h:Nat) {n:Nat} (hn:n<c.aF.length):gK c h (n+1)=gK c h n+(if c.aF[n].jF=0 then gw c.aF[n].cV h else 0):=by
 unfold gK;rw [List.take_succ_eq_append_getElem hn,List.map_append,List.map_cons,List.map_nil,xL]
theorem qD (c:ay) {n:Nat} (hn:n<c.stores.length):jm c (n+1)=jm c n+c.stores[n].discharge:=by
 unfold jm;rw [List.take_succ_eq_append_getElem hn,List.map_append,List.map_cons,List.map_nil,xL]
theorem qE (c:ay) (h:Nat) {n:Nat} (hn:n<c.bh.length):kE c h (n+1)=kE c h n+gw c.bh[n].imp h:=by
 unfold kE;rw [List.take_succ_eq_append_getElem hn,List.map_append,List.map_cons,List.map_nil,xL]
theorem o6 {c:ay} (hc:iB c) (h:Nat) (hh:(h:Int)<c.hours): ∀n,n<=c.aF.length->0<=gK c h n/\gK c h n<=n*1048576
 |0,_=>by simp [gK]
 |n+1,hn=>by
  have ih:=o6 hc h hh n ae;rw [qC c h ae];have hb:=hc.fE _ (List.getElem_mem (show n<c.aF.length by omega));have:=l_ hb.2.1 h ae;split<;>omega
theorem o7 {c:ay} (hc:iB c): ∀n,n<=c.stores.length->0<=jm c n/\jm c n<=n*1048576
 |0,_=>by simp [jm]
 |n+1,hn=>by
  have ih:=o7 hc n ae;rw [qD c ae];have hb:=(hc.store _ (List.getElem_mem (show n<c.stores.length by omega))).discharge;omega
theorem o8 {c:ay} (hc:iB c) (h:Nat) (hh:(h:Int)<c.hours): ∀n,n<=c.bh.length->0<=kE c h n/\kE c h n<=n*1048576
 |0,_=>by simp [kE]
 |n+1,hn=>by
  have ih:=o8 hc h hh n ae;rw [qE c h ae];have hb:=(hc.tie _ (List.getElem_mem (show n<c.bh.length by omega))).imp;have:=l_ hb.2 h ae;omega
structure nK (n:Nat) (us:List Nat):Prop where
 L1:us.Pairwise (· < ·)
 lt: ∀u∈us,u<n
theorem Hf: ∀{a b:List Nat},a.Pairwise (· < ·)->b.Pairwise (· < ·)->(∀x,x∈a↔x∈b)->a=b
 | [],[],_,_,_=>rfl
 | [],y::b,_,_,h=>absurd ((h y).2 aG) aG
 |x::a,[],_,_,h=>absurd ((h x).1 aG) aG
 |x::a,y::b,ha,hb,h=>by
  rw [List.pairwise_cons]at ha hb
  have mG:x=y:=by
   have h1:=(h x).1 aG;have h2:=(h y).2 aG;rcases List.mem_cons.1 h1 with e|e
   .exact e
   .rcases List.mem_cons.1 h2 with e'|e'
    .exact e'.symm
    .have:=hb.1 x e;have:=ha.1 y e';omega
  subst mG;congr 1
  refine Hf ha.2 hb.2 λz=> ?_;constructor
  .intro hz
   rcases List.mem_cons.1 ((h z).1 (by simp [hz]))with e|e
   .subst e;have:=ha.1 z hz;omega
   .exact e
  .intro hz
   rcases List.mem_cons.1 ((h z).2 (by simp [hz]))with e|e
   .subst e;have:=hb.1 z hz;omega
   .exact e
theorem nL (us:List Nat) (u:Nat):hasB (aR us) (u:Int)=true↔u∈us:=by
 unfold hasB aR;rw [List.any_eq_true];constructor
 .rintro ⟨x,hx,e⟩
  obtain ⟨j,hj,rfl⟩:=List.mem_map.1 hx;have e':((j:Nat):Int)=(u:Int):=by simpa using e
  have:j=u:=ae;exact this▸hj
 .intro h
  exact ⟨(u:Int),List.mem_map.2 ⟨u,h,rfl⟩,aG⟩
theorem Jo {c:ay} {h:Int} {n:Nat} {us:List Nat} (hu:nK n us):mf c h (aR us) n=us.map (dG c h):=by
 unfold mf;congr 1
 refine Hf ((List.pairwise_lt_range).filter _) hu.L1 λx=> ?_;rw [List.mem_filter,nL,List.mem_range];exact ⟨λh=>h.2,λh=>⟨hu.lt x h,h⟩⟩
def qF (c:ay) (h:Nat) (us:List Nat):Nat:=Jn (i9 c h (aR us) c.aA.length) (desc (us.map (dG c h))) (jx c h)
theorem Jp (w0 V:World) (c:ay) (h:Int) (hV:Ext w0 V) (hc:bm w0 c) (hn:c.lines.length<=1000000):
 Calls prog 128 #[.agg (C8 c),i64 h] V λe w'=> ∃a cap,e= .returned (.slice a (dz c h c.lines.length).length cap)/\aS w' a cap (aR (dz c h c.lines.length))/\Ext V w'/\Fr V.heap.size a:=by
 try unfold C8
 have hr:=hc.lines;have hle:=hr.le;have dS:=hr.cap
 rw [List.length_map]at hle;have HR:=ah hr;have HV:=ah hV;have HN:=ah hn;have PU:=ah hc.line
 clear hc hr hV hn;go_enter func128,ntmps128
 go_upto_region 1 with fail
 obtain ⟨W,hW,x0,Z0,A0⟩:=aV V 32 c.cells;rw [show V.alloc (.cells (C8 c) 32)=W from hW.symm];clear hW;have HX:=ah x0;obtain ⟨B,hB⟩: ∃B,B=V.heap.size:=⟨_,rfl⟩;rw [<-hB]at A0⊢;obtain ⟨-,-,-,k3,-⟩:=ay.at A0;have qB:=ah hB;clear A0 x0 Z0 hB;go_wp2_with fail
 clear k3;go_loopw [5,11] (λv ii wr=> ∃i:Nat,i<=c.lines.length/\aL wr W.heap.size 3 1 v (gp (dz c h i))/\Ext W wr/\ii= .int .i64 i) (λ_ ii _=>c.lines.length-(intOf ii).toNat)
 case atStart=>exact ⟨0,aZ,aL.nil _ _ _ _,ar,rfl⟩
 case round=>
  obtain ⟨i,hi,hown,hE,rfl⟩:=hrel;have HO:=ah hown;clear hown;by_cases hlt:i<c.lines.length
  .obtain ⟨b,o,ha,c0,c1,c2,c3,c4,c5,c6,c7,c8,c9,c10,c11⟩:=((HR.o.ext HV.o).ext (HX.o.trans hE)).lines i hlt
   have PW:=(PU.o c.lines[i] (List.getElem_mem hlt)).2.1;have HST:=ah (uN c h i);rw [zY hlt]at HST;obtain ⟨x,kJ⟩: ∃x,x=c.lines[i]:=⟨_,rfl⟩;rw [<-kJ]at c0 c1 c2 c3 c4 c5 c6 c7 c8 c9 c10 c11 PW HST;have HLEN:=ah (i5 c h i);generalize dz c h i=l at*;have iM:(0:Int)<=(i:Int):=ae;have iK:(i:Int)<(c.lines.length:Int):=ae;have HE:=ah hE;have L3:=ah ((PW.ext HV.o).ext (HX.o.trans hE));clear hE PW kJ;rw [ha];go_upto_region 5 with fail
   obtain ⟨W1,hW1,x1,Z1,A1⟩:=aV wr 66 x.cells;rw [show wr.alloc (.cells #[.string x.name,i64 x.dL,i64 x.ld,i64 x.rn,i64 x.rd,i64 x.uH,i64 x.yt,i64 x.vw,i64 x.Bn,i64 x.dO,i64 x.kK,.slice x.aa x.away.length x.ac] 66)=W1 from hW1.symm];clear hW1 c0 c1 c2 c3 c4 c5 c6 c7 c8 c9 c10 c11;obtain ⟨E,mO⟩: ∃E,E=wr.heap.size:=⟨_,rfl⟩;rw [<-mO]at A1⊢;obtain ⟨-,-,-,-,-,-,-,-,-,-,-,c11⟩:=bn.at A1;have jg:=ah (lV W1 _ _ _ h (L3.o.ext x1));have jB:=ah (HE.o.trans x1);have vY:=jB.o.size;have eC:=ah x1;clear A1 Z1 x1 mO L3 HE;rcases Bool.eq_false_or_eq_true (hasB x.away h)with hq|hq
   .rw [hq]at jg HST
    clear hq;go_wp2_with fail
    refine jg.o.mono ?_;rintro e w1 ⟨rfl,eL⟩;rw [eL];clear eL
    have Cp:=ah (HO.o.ext eC.o);go_wp2
    exact ⟨⟨i+1,ae,by rw [HST.o];simpa using Cp.o,jB.o,bf⟩,a_⟩
   .rw [hq]at jg HST
    clear hq
    have HOW:Hid (wr.ownsRow W.heap.size 3 1 u5 l.length (gp l).flatten):=by
     have h5:=HO.o.own;rw [eh]at h5;exact h5
    have aa9:=ah (bZ HOW.o eC.o);go_wp2_with fail
    refine jg.o.mono ?_;rintro e w1 ⟨rfl,eL⟩;rw [eL];clear eL
    go_wp2_with (at_builtin;refine bC _ rfl (.tmp 21) (.tmp 23) 22 rfl W.heap.size 3 (.int .i64 0) 1 8 underlying22 Tryz.info_int rfl aq u5 l.length (gp l).flatten rfl ?c1 (some ⟨W1.heap.size,0,none⟩) 1 1 [i64 (i:Int)] rfl rfl ?c2 ?c3 ?c4 ?c5 aq ?c6 ?_;rotate_right;intro v1 w5 ho he hb hz hv)
    case c1=>exact bZ aa9.o (ar.alloc _)
    case c2=>exact λ_=>⟨_,rfl,dH W1 3 [i64 (i:Int)]⟩
    case c3=>intro u hu;rw [List.mem_singleton]at hu;subst hu;rfl
    case c4=>intro e;cases e
    case c5=>have:=HN.o;have:=HLEN.o;omega
    case c6=>have:=vY;simp;omega
    have x5:Ext W w5:=he.o W (jB.o.alloc _) bY;have jl:=(HO.o.ext eC.o).snoc (w':=w5) (v':=v1) (r:= [i64 (i:Int)]) rfl (by rw [eh];exact ho.o);rw [<-nD]at jl;exact ⟨⟨i+1,ae,by rw [HST.o];simpa using jl,x5,bf⟩,a_⟩
  .obtain rfl:i=c.lines.length:=ae
   obtain ⟨a,cap,rfl,hS,lJ⟩:=HO.o.recs aq;rw [eh];rw [nE]at hS;have HI:=ah (aS.nC hS (lY (jO c h _) ae));have vZ:=ah lJ;clear hS lJ HO;go_wp2
   go_ret;exact ⟨a,cap,rfl,HI.o,HX.o.trans hE,vZ.o.mono HX.o.size⟩
def mg (c:ay) (h:Int):Bool:=decide (0<=h)&&decide (h<c.hours)
def xM (n:Int) (l:List Int) (j:Nat):Bool:=decide (0<=gw l j)&&decide (gw l j<n)&&(j==0||decide (gw l (j-1)<gw l j))
def DL (n:Int) (l:List Int):Bool:=(List.range l.length).all (xM n l)
def pW (n:Int) (l:List Int):Bool:=DL n l&&decide (0<l.length)
theorem Jq {n:Int} {l:List Int} (h: ∀j,j<l.length->xM n l j=true):DL n l=true:=by
 unfold DL;rw [List.all_eq_true];intro j hj;exact h j (List.mem_range.1 hj)
theorem F9 {n:Int} {l:List Int} {j:Nat} (hj:j<l.length) (h:xM n l j=false):DL n l=false:=by
 cases q:DL n l with
 |false=>rfl
 |true=>
  unfold DL at q;rw [List.all_eq_true]at q;have:=q j (List.mem_range.2 hj);rw [h]at this;exact this.symm
theorem L4 {n:Nat} {l:List Int} (h:DL n l=true): ∃us:List Nat,l=aR us/\nK n us:=by
 unfold DL at h;rw [List.all_eq_true]at h
 have hk: ∀j (hj:j<l.length),0<=l[j]/\l[j]<n/\ ∀k (hk:k<j),l[k]<l[j]:=by
  intro j;induction j with
  |zero=>
   intro hj;have:=h 0 (List.mem_range.2 hj);unfold xM at this;rw [fo hj]at this;simp at this;exact ⟨ae,ae,λk hk=>absurd hk (Nat.not_lt_zero _)⟩
  |succ j ih=>
   intro hj;have h1:=h (j+1) (List.mem_range.2 hj);unfold xM at h1;rw [fo hj,Nat.add_sub_cancel,fo (show j<l.length by omega)]at h1;simp at h1;have h2:=ih ae;refine ⟨ae,ae,λk hk=> ?_⟩;by_cases q:k=j
   .subst q;omega
   .have:=h2.2.2 k ae;omega
 refine ⟨l.map Int.toNat,?_,?_,?_⟩
 .unfold aR
  rw [List.map_map];apply List.ext_getElem
  .simp
  .intro i h1 h2
   have:=(hk i h1).1;simp;omega
 .rw [List.pairwise_iff_getElem]
  intro i j hi hj hij;have hj':j<l.length:=by simpa using hj
  have h1:=hk j hj';have h2:=h1.2.2 i hij;have h3:=(hk i ae).1;simp;omega
 .intro u hu
  obtain ⟨z,hz,rfl⟩:=List.mem_map.1 hu;obtain ⟨i,hi,rfl⟩:=List.getElem_of_mem hz;have:=hk i hi;omega
theorem Ac (V:World) (c:ay) (hour:Int):
 Calls prog 30 #[.agg (C8 c),i64 hour] V λe w'=>e= .returned (.bool (mg c hour))/\Ext V w':=by
 try unfold C8
 have hb:mg c hour=(decide (0<=hour)&&decide (hour<c.hours)):=rfl;obtain ⟨hb',Tw⟩: ∃b,b=mg c hour:=⟨_,rfl⟩;rw [<-Tw]at hb⊢;have HB:=ah hb;clear hb Tw;go_enter func30,ntmps30
 go_upto_region 1 with fail
 obtain ⟨W,hW,x0,Z0,A0⟩:=aV V 32 c.cells;rw [show V.alloc (.cells (C8 c) 32)=W from hW.symm];obtain ⟨B,hB⟩: ∃B,B=V.heap.size:=⟨_,rfl⟩;rw [<-hB]at A0⊢;obtain ⟨k0,-⟩:=ay.at A0;have HX:=ah x0;clear hW x0 Z0 A0 hB;rcases Bool.eq_false_or_eq_true (decide (0<=hour))with t|t
 .have HQ:Hid (decide (hour<c.hours)=hb'):=by show _=_;rw [HB.o,t,Bool.true_and]
  go_wp2
  go_ret;exact ⟨by rw [<-HQ.o];rfl,HX.o⟩
 .have HQ:Hid (false=hb'):=by show _=_;rw [HB.o,t,Bool.false_and]
  go_wp2
  go_ret;exact ⟨by rw [<-HQ.o];rfl,HX.o⟩
theorem DM (V:World) (c:ay) (a:Option Addr) (cap:Nat) (l:List Int) (h:aS V a cap l):
 Calls prog 31 #[.agg (C8 c),.slice a l.length cap] V λe w'=>e= .returned (.bool (pW c.aA.length l))/\Ext V w':=by
 try unfold C8
 have hle:=h.le;have dS:=h.cap
 have HL:=ah h;have HFL:Hid (∀j,j<l.length->xM c.aA.length l j=false->pW c.aA.length l=false):=λj hj h=>by unfold pW;rw [F9 hj h];rfl
 have Vm:Hid ((∀j,j<l.length->xM c.aA.length l j=true)->decide (0<l.length)=pW c.aA.length l):=λh=>by
  unfold pW;rw [Jq h,Bool.true_and]
 obtain ⟨sb,Tx⟩: ∃sb,sb=pW c.aA.length l:=⟨_,rfl⟩;rw [<-Tx]at HFL Vm⊢;clear h Tx;go_enter func31,ntmps31
 go_upto_region 1 with fail
 obtain ⟨W,hW,x0,Z0,A0⟩:=aV V 32 c.cells;rw [show V.alloc (.cells (C8 c) 32)=W from hW.symm];obtain ⟨B,hB⟩: ∃B,B=V.heap.size:=⟨_,rfl⟩;rw [<-hB]at A0⊢;obtain ⟨-,-,-,-,k4,-⟩:=ay.at A0;have HX:=ah x0;have OA:=ah k4
 clear hW x0 Z0 A0 hB k4;go_wp2
 go_loopw [9] (λii wr=> ∃i:Nat,i<=l.length/\wr=W/\(∀j,j<i->xM c.aA.length l j=true)/\ii= .int .i64 i) (λii _=>l.length-(intOf ii).toNat)
 case atStart=>exact ⟨0,aZ,rfl,λj hj=>absurd hj (Nat.not_lt_zero _),rfl⟩
 case round=>
  obtain ⟨i,hi,hw,hA,rfl⟩:=hrel;subst hw;by_cases hlt:i<l.length
  .obtain ⟨b,o,rfl,c0⟩:=(HL.o.ext HX.o).cell i hlt
   rw [<-fo hlt]at c0
   have HST:Hid (∀ok,xM c.aA.length l i=ok->ok=true-> ∀j,j<i+1->xM c.aA.length l j=true):=λok h1 h2 j hj=>by
    by_cases q:j=i
    .subst q;rw [h1,h2]
    .exact hA j ae
   have qG:Hid (xM c.aA.length l i=(decide (0<=gw l i)&&decide (gw l i<c.aA.length)&&(i==0||decide (gw l (i-1)<gw l i)))):=rfl;have RS:=ah (HFL.o i hlt);have iM:(0:Int)<=(i:Int):=ae;have iK:(i:Int)<(l.length:Int):=ae;have k4:=OA.o;cases i with
   |zero=>
    obtain ⟨x,hx⟩: ∃x,x=gw l 0:=⟨_,rfl⟩;rw [<-hx]at c0 qG;have c0:wr.cell? ⟨b,o,none⟩=some (i64 x):=by simpa using c0
    clear hA hx;by_cases h1:x<0
    .have HQ:Hid (sb=false):=RS.o (by rw [qG.o];simp;intro h;omega)
     go_wp2
     go_ret;exact ⟨by rw [HQ.o];rfl,HX.o⟩
    .by_cases h2:(c.aA.length:Int)<=x
     .have HQ:Hid (sb=false):=RS.o (by rw [qG.o];simp;intro h;omega)
      go_wp2
      go_ret;exact ⟨by rw [HQ.o];rfl,HX.o⟩
     .have HQ:=ah (HST.o true (by rw [qG.o];simp;omega) rfl)
      go_wp2
      exact ⟨⟨0+1,ae,by first|trivial|rfl,HQ.o,bf⟩,a_⟩
   |succ p=>
    obtain ⟨b',o',ha',d0⟩:=(HL.o.ext HX.o).cell p ae;cases ha'
    rw [<-fo (show p<l.length by omega)]at d0;obtain ⟨x,hx⟩: ∃x,x=gw l (p+1):=⟨_,rfl⟩;obtain ⟨y,hy⟩: ∃y,y=gw l p:=⟨_,rfl⟩;rw [Nat.add_sub_cancel,<-hx,<-hy]at qG;rw [<-hx]at c0;rw [<-hy]at d0;have eL:IntKind.i64.wrap (((p+1:Nat):Int)-1)=(p:Int):=dW;have hw2:IntKind.i64.wrap (p:Int)=(p:Int):=dW;have Tj:(0:Int)<=(p:Int):=ae;have Tk:(p:Int)<(l.length:Int):=ae;have Tl:(0:Int)<=(p:Int)+1:=ae;have Tm:(p:Int)+1<(l.length:Int):=ae;have YL:(0:Int)<((p+1:Nat):Int):=ae;have bk3:(0:Int)<(p:Int)+1:=ae;clear hA hx hy;by_cases h1:x<0
    .have HQ:Hid (sb=false):=RS.o (by rw [qG.o];simp;intro h;omega)
     go_wp2
     go_ret;exact ⟨by rw [HQ.o];rfl,HX.o⟩
    .by_cases h2:(c.aA.length:Int)<=x
     .have HQ:Hid (sb=false):=RS.o (by rw [qG.o];simp;intro h;omega)
      go_wp2
      go_ret;exact ⟨by rw [HQ.o];rfl,HX.o⟩
     .by_cases h3:x<=y
      .have HQ:Hid (sb=false):=RS.o (by rw [qG.o];simp;intro h;omega)
       go_wp2
       go_ret;exact ⟨by rw [HQ.o];rfl,HX.o⟩
      .have HQ:=ah (HST.o true (by rw [qG.o];simp;omega) rfl)
       go_wp2
       exact ⟨⟨p+1+1,ae,by first|trivial|rfl,HQ.o,bf⟩,a_⟩
  .obtain rfl:i=l.length:=ae
   have HQ:=ah (Vm.o hA);clear hA;go_wp2
   go_ret;exact ⟨by rw [<-HQ.o];rfl,HX.o⟩
def iC (w:World) (B:Nat) (f:Nat->Int) (n:Nat):Prop:=aT w B 3 ((List.range n).map λb=>i64 (f b))
theorem iC.cell {w:World} {B:Nat} {f:Nat->Int} {n:Nat} (h:iC w B f n) (k:Nat) (hk:k<n):w.cell? ⟨B,k,none⟩=some (i64 (f k))/\w.frozen? ⟨B,k,none⟩=false:=
 ⟨by rw [aT.cell h k];simp [hk],aT.frozen h k⟩
theorem iC.ext {w w':World} {B:Nat} {f:Nat->Int} {n:Nat} (h:iC w B f n) (e:Ext w w'):iC w' B f n:=aT.ext h e
theorem iC.lt {w:World} {B:Nat} {f:Nat->Int} {n:Nat} (h:iC w B f n):B<w.heap.size:=aT.lt h
theorem iC.congr {w:World} {B:Nat} {f g:Nat->Int} {n:Nat} (h:iC w B f n) (e: ∀b,b<n->f b=g b):iC w B g n:=by
 unfold iC at*
 have:((List.range n).map λb=>i64 (g b))=(List.range n).map λb=>i64 (f b):=by
  apply List.map_congr_left;intro b hb;rw [e b (List.mem_range.1 hb)]
 rw [this];exact h
theorem iC.set {w:World} {B:Nat} {f:Nat->Int} {n:Nat} (h:iC w B f n) (k:Nat) (v:Int):iC (w.setCell ⟨B,k,none⟩ (i64 v)) B (λb=>if b=k then v else f b) n:=by
 unfold iC at*;have h5:=aT.set h k (i64 v)
 have:((List.range n).map λb=>i64 (f b)).set k (i64 v)=(List.range n).map λb=>i64 (if b=k then v else f b):=by
  apply List.ext_getElem
  .simp
  .intro i h1 h2
   rw [List.getElem_set];simp only [List.getElem_map,List.getElem_range];by_cases hik:k=i
   .subst hik;simp
   .rw [if_neg hik,if_neg (λe=>hik e.symm)]
 rw [this]at h5;exact h5
theorem iC.zero {w:World} {B:Nat} {n:Nat} (f:Nat->Int) (h:aT w B 3 (List.replicate n (.int .i64 0))):iC w B (λb=>if b<0 then f b else 0) n:=by
 unfold iC
 have:((List.range n).map λb=>i64 (if b<0 then f b else 0))=List.replicate n (.int .i64 0):=by
  apply List.ext_getElem
  .simp
  .intro i h1 h2;simp
 rw [this];exact h
theorem iC.next {w:World} {B n k:Nat} {f:Nat->Int} (h:iC w B (λb=>if b<k then f b else 0) n):iC (w.setCell ⟨B,k,none⟩ (i64 (f k))) B (λb=>if b<k+1 then f b else 0) n:=
 (h.set k (f k)).congr λb _=>by
   show(if b=k then f k else if b<k then f b else 0)=(if b<k+1 then f b else 0);by_cases e:b=k
   .subst e;simp
   .rw [if_neg e]
    by_cases e2:b<k
    .rw [if_pos e2,if_pos ae]
    .rw [if_neg e2,if_neg ae]
theorem iC.keep {w:World} {B n k:Nat} {f:Nat->Int} (h:iC w B (λb=>if b<k then f b else 0) n) (e:f k=0):iC w B (λb=>if b<k+1 then f b else 0) n:=
 h.congr λb _=>by
  show(if b<k then f b else 0)=(if b<k+1 then f b else 0);by_cases q:b=k
  .subst q;simp [e]
  .by_cases e2:b<k
   .rw [if_pos e2,if_pos ae]
   .rw [if_neg e2,if_neg ae]
theorem iC.full {w:World} {B n:Nat} {f:Nat->Int} (h:iC w B (λb=>if b<n then f b else 0) n):iC w B f n:=h.congr λb hb=>by simp [hb]
theorem qc (w0 V:World) (c:ay) (h:Int) (hV:Ext w0 V) (hc:bm w0 c) (hn:c.aA.length<=1000000):
 Calls prog 42 #[.agg (C8 c),i64 h] V λe w'=> ∃b,e= .returned (.slice (some ⟨b,0,none⟩) c.aA.length c.aA.length)/\iC w' b (dG c h) c.aA.length/\Ext V w'/\V.heap.size<=b:=by
 try unfold C8
 have hr:=hc.aA;have hle:=hr.le;have dS:=hr.cap
 rw [List.length_map]at hle;have HR:=ah hr;have HV:=ah hV;have Ow:=ah hc.unit
 clear hc hr hV;go_enter func42,ntmps42
 go_upto_region 1 with fail
 obtain ⟨W,hW,x0,Z0,A0⟩:=aV V 32 c.cells;rw [show V.alloc (.cells (C8 c) 32)=W from hW.symm];obtain ⟨B,hB⟩: ∃B,B=V.heap.size:=⟨_,rfl⟩;rw [<-hB]at A0⊢;have HX:=ah x0;have HA:=ah A0
 clear hW x0 Z0 A0;obtain ⟨-,-,-,-,k4,-⟩:=ay.at HA.o;have qB:=ah hB;clear hB;go_wp2_with (at_make;refine bS _ rfl _ _ 22 rfl 3 (.int .i64 0) 8 underlying22 Tryz.info_int rfl _ _ c.aA.length rfl rfl rfl rfl ae ae ?_;intro w1 eL hx1 hz1;have k4':=aC hx1 k4)
 obtain ⟨L,hL⟩: ∃L,L=W.heap.size:=⟨_,rfl⟩;rw [<-hL]at eL⊢;have z_:Hid (W.heap.size<=L):=by show _<=_;omega
 have wm:=ah (iC.zero (dG c h) eL.o);have eC:=ah hx1
 clear eL hx1 hz1 hL k4 k4';go_loopw [15] (λii wr=> ∃k:Nat,k<=c.aA.length/\iC wr L (λb=>if b<k then dG c h b else 0) c.aA.length/\Ext W wr/\ii= .int .i64 k) (λii _=>c.aA.length-(intOf ii).toNat)
 case atStart=>exact ⟨0,aZ,wm.o,eC.o,rfl⟩
 case round=>
  obtain ⟨i,hi,hT,hE,rfl⟩:=hrel;clear wm eC;by_cases hlt:i<c.aA.length
  .obtain ⟨b,o,ha,fM⟩:=((HR.o.ext HV.o).ext (HX.o.trans hE)).adds i (by simpa using hlt)
   rw [List.getElem_map]at fM;have RT:=(Ow.o c.aA[i] (List.getElem_mem hlt)).2.1
   have BM:Hid (dG c h i=if hasB c.aA[i].away h=true then 0 else c.aA[i].max):=by
    show _=_;unfold dG;rw [xJ hlt,DK hlt]
   obtain ⟨x,kJ⟩: ∃x,x=c.aA[i]:=⟨_,rfl⟩;rw [<-kJ]at fM RT BM;have iM:(0:Int)<=(i:Int):=ae;have iK:(i:Int)<(c.aA.length:Int):=ae;have L3:=ah ((RT.ext HV.o).ext (HX.o.trans hE));have LO:=ah hT;have HE:=ah hE
   have HAD:Hid (∀j v,[.string x.name,i64 x.fE,i64 x.min,i64 x.max,.slice x.sa x.aY.length x.sc,i64 x.fF,i64 x.fG,i64 x.dA,i64 x.cQ,i64 x.dB,i64 x.eK,i64 x.dC,i64 x.startTime,i64 x.dX,i64 x.dD,i64 x.dE,i64 x.aX,i64 x.bR,.slice x.aa x.away.length x.ac,i64 x.state,i64 x.hours,i64 x.output][j]?=some v->wr.cell? (Addr.add ⟨b,o+i*22,none⟩ j)=some v):=fM;clear fM hT hE RT kJ;rw [ha];clear ha;go_upto_region 5 with(first|(refine br rfl 55 _ rfl ⟨b,o+i*22,none⟩ rfl [.string x.name,i64 x.fE,i64 x.min,i64 x.max,.slice x.sa x.aY.length x.sc,i64 x.fF,i64 x.fG,i64 x.dA,i64 x.cQ,i64 x.dB,i64 x.eK,i64 x.dC,i64 x.startTime,i64 x.dX,i64 x.dD,i64 x.dE,i64 x.aX,i64 x.bR,.slice x.aa x.away.length x.ac,i64 x.state,i64 x.hours,i64 x.output] _ HAD.o underlying55 rfl ax ?_)|(refine bP rfl 55 _ _ rfl _ [.string x.name,i64 x.fE,i64 x.min,i64 x.max,.slice x.sa x.aY.length x.sc,i64 x.fF,i64 x.fG,i64 x.dA,i64 x.cQ,i64 x.dB,i64 x.eK,i64 x.dC,i64 x.startTime,i64 x.dX,i64 x.dD,i64 x.dE,i64 x.aX,i64 x.bR,.slice x.aa x.away.length x.ac,i64 x.state,i64 x.hours,i64 x.output] rfl rfl ax rfl rfl ?_))
   obtain ⟨W1,hW1,x1,Z1,A1⟩:=aV wr 55 x.cells;rw [show wr.alloc (.cells #[.string x.name,i64 x.fE,i64 x.min,i64 x.max,.slice x.sa x.aY.length x.sc,i64 x.fF,i64 x.fG,i64 x.dA,i64 x.cQ,i64 x.dB,i64 x.eK,i64 x.dC,i64 x.startTime,i64 x.dX,i64 x.dD,i64 x.dE,i64 x.aX,i64 x.bR,.slice x.aa x.away.length x.ac,i64 x.state,i64 x.hours,i64 x.output] 55)=W1 from hW1.symm];obtain ⟨E,mO⟩: ∃E,E=wr.heap.size:=⟨_,rfl⟩;rw [<-mO]at A1⊢;obtain ⟨-,-,-,u3,-,-,-,-,-,-,-,-,-,-,-,-,-,-,u18,-,-,-⟩:=aP.at A1;have jg:=ah (lV W1 _ _ _ h (L3.o.ext x1));have HT:=ah (LO.o.ext x1);have jB:=ah (HE.o.trans x1)
   obtain ⟨l0,f0⟩:=HT.o.cell i hlt;clear hW1 A1 Z1 x1 mO L3 HE HAD LO;rcases Bool.eq_false_or_eq_true (hasB x.away h)with hq|hq
   .rw [hq]at jg
    have lX:=ah (HT.o.keep (by rw [BM.o,if_pos hq]));clear hq l0 f0;go_wp2_with fail
    refine jg.o.mono ?_;rintro e w1 ⟨rfl,eL⟩;rw [eL];clear eL
    go_wp2
    exact ⟨⟨i+1,ae,lX.o,jB.o,bf⟩,a_⟩
   .rw [hq]at jg
    have Nt:dG c h i=x.max:=by rw [BM.o,if_neg (by rw [hq];simp)]
    have Ki:=HT.o.next;rw [Nt]at Ki;have lX:=ah Ki;have yP:=ah (jB.o.setCell (p:=⟨L,i,none⟩) z_.o (i64 x.max));clear hq Nt Ki;go_wp2_with fail
    refine jg.o.mono ?_;rintro e w1 ⟨rfl,eL⟩;rw [eL];clear eL
    go_wp2
    exact ⟨⟨i+1,ae,lX.o,yP.o,bf⟩,a_⟩
  .obtain rfl:i=c.aA.length:=ae
   have lX:=ah hT.full;have yP:=ah hE
   clear hT hE;go_wp2
   go_ret;exact ⟨L,rfl,lX.o,HX.o.trans yP.o,qj HX.o.size z_.o⟩
theorem BN (w0 V:World) (c:ay) (u:Nat) (h:Int) (hV:Ext w0 V) (hc:bm w0 c) (hu:u<c.aA.length):
 Calls prog 134 #[.agg (C8 c),.int .i64 (u:Int),i64 h] V λe w'=>e= .returned (i64 (dG c h u))/\Ext V w':=by
 try unfold C8
 have hle:=hc.aA.le;have dS:=hc.aA.cap
 rw [List.length_map]at hle;obtain ⟨b,o,ha,-,-,-,c3,-,-,-,-,-,-,-,-,-,-,-,-,-,-,c18,-⟩:=(hc.aA.ext hV).aA u hu;have RT:=((hc.unit c.aA[u] (List.getElem_mem hu)).2.1).ext hV
 have BM:Hid (dG c h u=if hasB c.aA[u].away h=true then 0 else c.aA[u].max):=by
  show _=_;unfold dG;rw [xJ hu,DK hu]
 obtain ⟨x,kJ⟩: ∃x,x=c.aA[u]:=⟨_,rfl⟩;rw [<-kJ]at c3 c18 RT BM;have Ow:=ah RT;have uL:=ah ha
 have iM:(0:Int)<=(u:Int):=ae;have iK:(u:Int)<(c.aA.length:Int):=ae;clear RT kJ hc hV ha;go_enter func134,ntmps134
 go_upto_region 1 with fail
 obtain ⟨W,hW,x0,Z0,A0⟩:=aV V 32 c.cells;rw [show V.alloc (.cells (C8 c) 32)=W from hW.symm];obtain ⟨B,hB⟩: ∃B,B=V.heap.size:=⟨_,rfl⟩;rw [<-hB]at A0⊢;have HX:=ah x0;have HA:=ah A0
 clear hW x0 Z0 A0;obtain ⟨-,-,-,-,k4,-⟩:=ay.at HA.o;rw [uL.o]at k4;have c3:=aC HX.o c3;have c18:=aC HX.o c18;have vH:=ah (Ln W x.aa x.ac x.away h (Ow.o.ext HX.o));clear hB;rcases Bool.eq_false_or_eq_true (hasB x.away h)with hq|hq
 .have HQ:Hid (dG c h u=0):=by show _=_;rw [BM.o,if_pos hq]
  rw [hq]at vH;clear hq;go_wp2_with fail
  refine vH.o.mono ?_;rintro e w1 ⟨rfl,eL⟩;rw [eL];clear eL
  go_wp2
  go_ret;exact ⟨by rw [HQ.o];rfl,HX.o⟩
 .have HQ:Hid (dG c h u=x.max):=by show _=_;rw [BM.o,if_neg (by rw [hq];simp)]
  rw [hq]at vH;clear hq;go_wp2_with fail
  refine vH.o.mono ?_;rintro e w1 ⟨rfl,eL⟩;rw [eL];clear eL
  go_wp2
  go_ret;exact ⟨by rw [HQ.o];rfl,HX.o⟩
theorem Hg (w0 V:World) (c:ay) (h:Nat) (hV:Ext w0 V) (hc:bm w0 c) (gA:iB c) (hh:(h:Int)<c.hours):
 Calls prog 43 #[.agg (C8 c),.int .i64 (h:Int)] V λe w'=>e= .returned (i64 (jx c h))/\Ext V w':=by
 try unfold C8
 have sy:=hc.aF.le;have Dw:=hc.aF.cap
 have RU:=hc.stores.le;have Vn:=hc.stores.cap
 have RV:=hc.bh.le;have Vo:=hc.bh.cap
 rw [List.length_map]at sy RU RV;have hf:=gA.frame;have Kf:=hf.LZ;have hb2:=hf.aF.2;have hb5:=hf.stores;have hb6:=hf.bh
 have Vp:=hc.aX.le;have PZ:=hc.aX.cap
 obtain ⟨rb,ro,Vq,r0⟩:=(hc.aX.ext hV).cell h ae;rw [<-fo (show h<c.aX.length by omega)]at r0;have OB:=ah (l_ hf.res h ae);have jC:=ah (o6 gA h hh);have Vr:=ah (o7 gA);have S_:=ah (o8 gA h hh)
 have qG:=ah gA;have eT:=ah hc;have HV:=ah hV;have HRA:=ah Vq;have Vs:=ah hh
 obtain ⟨rv,E_⟩: ∃rv,rv=gw c.aX h:=⟨_,rfl⟩;have RX:Hid (jx c h=rv+gK c h c.aF.length-jm c c.stores.length-kE c h c.bh.length):=by show _=_;rw [E_];rfl
 rw [<-E_]at r0 OB;have RY:(0:Int)<=(h:Int):=ae;have RZ:(h:Int)<(c.aX.length:Int):=ae;clear gA hc hV Vq hf Kf E_ hh;go_enter func43,ntmps43
 go_upto_region 1 with fail
 obtain ⟨W,hW,x0,Z0,A0⟩:=aV V 32 c.cells;rw [show V.alloc (.cells (C8 c) 32)=W from hW.symm];obtain ⟨B,hB⟩: ∃B,B=V.heap.size:=⟨_,rfl⟩;rw [<-hB]at A0⊢;have HX:=ah x0;have HA:=ah A0
 clear hW x0 Z0 A0;obtain ⟨-,k1,k2,-,-,k5,k6,-⟩:=ay.at HA.o;rw [HRA.o]at k1;have r0:=aC HX.o r0;clear hB;go_wp2_with fail
 clear k1 k2 k5 k6 r0 RY RZ;go_loopw [5,20] (λsv ii wr=> ∃(k:Nat) (s:Int),k<=c.aF.length/\s=rv+gK c h k/\sv= .int .i64 s/\Ext W wr/\ii= .int .i64 k) (λ_ ii _=>c.aF.length-(intOf ii).toNat)
 case atStart=>exact ⟨0,rv,aZ,by simp [gK],rfl,ar,rfl⟩
 case round=>
  obtain ⟨k,s,hk,hs,rfl,hE,rfl⟩:=hrel;obtain ⟨-,k1,k2,-,-,k5,k6,-⟩:=ay.at (HA.o.ext hE);by_cases hlt:k<c.aF.length
  .obtain ⟨b,o,ha,c0,c1,c2⟩:=((eT.o.aF.ext HV.o).ext (HX.o.trans hE)).aF k hlt
   have y9:=qG.o.fE c.aF[k] (List.getElem_mem hlt);have xN:=((eT.o.fE c.aF[k] (List.getElem_mem hlt)).2.1.ext HV.o).ext (HX.o.trans hE);have hsc:=qC c h hlt;have hrg:=jC.o k ae;obtain ⟨x,kJ⟩: ∃x,x=c.aF[k]:=⟨_,rfl⟩;rw [<-kJ]at c0 c1 c2 y9 xN hsc;have BO:h<x.cV.length:=bA Vs.o;have hdr:=l_ y9.2.1 h BO;have R3:=xN.le;have L5:=xN.cap
   obtain ⟨db,do',L6,d0⟩:=xN.cell h BO;rw [<-fo BO]at d0;obtain ⟨d,hd⟩: ∃d,d=gw x.cV h:=⟨_,rfl⟩;rw [<-hd]at d0 hsc hdr;have AG:=OB.o;have hw:IntKind.i64.wrap (s+d)=s+d:=dW;have DN:=ah hsc;have HS:=ah hs;have R4:=ah L6
   clear L6;have HE:=ah hE;have iM:(0:Int)<=(k:Int):=ae;have iK:(k:Int)<(c.aF.length:Int):=ae;have RY:(0:Int)<=(h:Int):=ae;have RZ:(h:Int)<(x.cV.length:Int):=ae;clear hs hE y9 xN hsc kJ hd hrg hdr AG BO;rw [ha];clear ha;go_upto_region 5 with fail
   obtain ⟨W1,hW1,x1,Z1,A1⟩:=aV wr 62 x.cells;rw [show wr.alloc (.cells #[.string x.name,.slice x.da x.cV.length x.dc,i64 x.jF] 62)=W1 from hW1.symm];clear c0 c1 c2;obtain ⟨-,c1,c2⟩:=dK.at A1;rw [R4.o]at c1;have d0:=aC x1 d0;have jB:=ah (HE.o.trans x1);clear hW1 Z1 A1 x1 k1 k2 k5 k6;by_cases hz:x.jF=0
   .have tz:(x.jF==0)=true:=by rw [hz];rfl
    have HQ:Hid (s+d=rv+gK c h (k+1)):=by show _=_;rw [DN.o,if_pos hz,HS.o];omega
    clear hz;go_wp2
    exact ⟨⟨k+1,s+d,ae,HQ.o,bf,jB.o,bf⟩,a_⟩
   .have tz:(x.jF==0)=false:=by rw [beq_eq_false_iff_ne];exact hz
    have HQ:Hid (s=rv+gK c h (k+1)):=by show _=_;rw [DN.o,if_neg hz,HS.o];omega
    clear hz;go_wp2
    exact ⟨⟨k+1,s,ae,HQ.o,bf,jB.o,bf⟩,a_⟩
  .obtain rfl:k=c.aF.length:=ae
   have HS:=ah hs;have HE:=ah hE
   clear hs hE;obtain ⟨wo,BP⟩: ∃wo:World,wo=wr:=⟨_,rfl⟩;subst BP;go_wp2_with fail
   clear k1 k2 k5 k6;go_loopw [5,38] (λsv ii wr=> ∃(k:Nat) (s:Int),k<=c.stores.length/\s=rv+gK c h c.aF.length-jm c k/\sv= .int .i64 s/\Ext W wr/\ii= .int .i64 k) (λ_ ii _=>c.stores.length-(intOf ii).toNat)
   case atStart=>exact ⟨0,s,aZ,by rw [HS.o];simp [jm],rfl,HE.o,rfl⟩
   case round=>
    clear HS HE;obtain ⟨k,s2,hk,hs,rfl,hE,rfl⟩:=hrel;obtain ⟨-,k1,k2,-,-,k5,k6,-⟩:=ay.at (HA.o.ext hE);by_cases hlt:k<c.stores.length
    .obtain ⟨b,o,ha,c0,c1,c2,c3,c4,c5,c6,c7,c8⟩:=((eT.o.stores.ext HV.o).ext (HX.o.trans hE)).stores k hlt
     have y9:=(qG.o.store c.stores[k] (List.getElem_mem hlt)).discharge;have hsc:=qD c hlt;have hrg:=Vr.o k ae;obtain ⟨x,kJ⟩: ∃x,x=c.stores[k]:=⟨_,rfl⟩;rw [<-kJ]at c0 c1 c2 c3 c4 c5 c6 c7 c8 y9 hsc;have AG:=OB.o;have GS:=jC.o c.aF.length bY;have hw:IntKind.i64.wrap (s2-x.discharge)=s2-x.discharge:=dW;have HQ:Hid (s2-x.discharge=rv+gK c h c.aF.length-jm c (k+1)):=by show _=_;rw [hsc,hs];omega
     have HE:=ah hE;have iM:(0:Int)<=(k:Int):=ae;have iK:(k:Int)<(c.stores.length:Int):=ae;clear hs hE y9 hsc kJ hrg AG GS;rw [ha];clear ha;go_upto_region 11 with fail
     obtain ⟨W1,hW1,x1,Z1,A1⟩:=aV wr 70 x.cells;rw [show wr.alloc (.cells #[.string x.name,i64 x.fE,i64 x.capacity,i64 x.initial,i64 x.final,i64 x.gN,i64 x.discharge,i64 x.en,i64 x.ed] 70)=W1 from hW1.symm];clear c0 c1 c2 c3 c4 c5 c6 c7 c8;obtain ⟨-,-,-,-,-,-,c6,-,-⟩:=bW.at A1;have jB:=ah (HE.o.trans x1);clear hW1 Z1 A1 x1 k1 k2 k5 k6;go_wp2
     exact ⟨⟨k+1,s2-x.discharge,ae,HQ.o,bf,jB.o,bf⟩,a_⟩
    .obtain rfl:k=c.stores.length:=ae
     have HS:=ah hs;have HE:=ah hE
     clear hs hE;obtain ⟨Vt,BP⟩: ∃Vt:World,Vt=wr:=⟨_,rfl⟩;subst BP;go_wp2_with fail
     clear k1 k2 k5 k6;go_loopw [5,50] (λsv ii wr=> ∃(k:Nat) (s:Int),k<=c.bh.length/\s=rv+gK c h c.aF.length-jm c c.stores.length-kE c h k/\sv= .int .i64 s/\Ext W wr/\ii= .int .i64 k) (λ_ ii _=>c.bh.length-(intOf ii).toNat)
     case atStart=>exact ⟨0,s2,aZ,by rw [HS.o];simp [kE],rfl,HE.o,rfl⟩
     case round=>
      clear HS HE;obtain ⟨k,s3,hk,hs,rfl,hE,rfl⟩:=hrel;obtain ⟨-,k1,k2,-,-,k5,k6,-⟩:=ay.at (HA.o.ext hE);by_cases hlt:k<c.bh.length
      .obtain ⟨b,o,ha,c0,c1,c2,c3,c4⟩:=((eT.o.bh.ext HV.o).ext (HX.o.trans hE)).bh k hlt
       have y9:=(qG.o.tie c.bh[k] (List.getElem_mem hlt)).imp;have xN:=((eT.o.tie c.bh[k] (List.getElem_mem hlt)).2.1.ext HV.o).ext (HX.o.trans hE);have hsc:=qE c h hlt;have hrg:=S_.o k ae;obtain ⟨x,kJ⟩: ∃x,x=c.bh[k]:=⟨_,rfl⟩;rw [<-kJ]at c0 c1 c2 c3 c4 y9 xN hsc;have BO:h<x.imp.length:=bA Vs.o;have hdr:=l_ y9.2 h BO;have R3:=xN.le;have L5:=xN.cap
       obtain ⟨db,do',L6,d0⟩:=xN.cell h BO;rw [<-fo BO]at d0;obtain ⟨d,hd⟩: ∃d,d=gw x.imp h:=⟨_,rfl⟩;rw [<-hd]at d0 hsc hdr;have R4:=ah L6;clear L6;have AG:=OB.o;have GS:=jC.o c.aF.length bY;have yx:=Vr.o c.stores.length bY;have hw:IntKind.i64.wrap (s3-d)=s3-d:=dW;have HQ:Hid (s3-d=rv+gK c h c.aF.length-jm c c.stores.length-kE c h (k+1)):=by show _=_;rw [hsc,hs];omega
       have HE:=ah hE;have iM:(0:Int)<=(k:Int):=ae;have iK:(k:Int)<(c.bh.length:Int):=ae;have RY:(0:Int)<=(h:Int):=ae;have RZ:(h:Int)<(x.imp.length:Int):=ae;clear hs hE y9 xN hsc kJ hd hrg hdr AG BO GS yx;rw [ha];clear ha;go_upto_region 16 with fail
       obtain ⟨W1,hW1,x1,Z1,A1⟩:=aV wr 72 x.cells;rw [show wr.alloc (.cells #[.string x.name,i64 x.fE,.slice x.ia x.imp.length x.ic,.slice x.ea x.exp.length x.ec,.slice x.pa x.bE.length x.pc] 72)=W1 from hW1.symm];clear c0 c1 c2 c3 c4;obtain ⟨-,-,c2,-,-⟩:=fp.at A1;rw [R4.o]at c2;have d0:=aC x1 d0;have jB:=ah (HE.o.trans x1);clear hW1 Z1 A1 x1 k1 k2 k5 k6;go_wp2
       exact ⟨⟨k+1,s3-d,ae,HQ.o,bf,jB.o,bf⟩,a_⟩
      .obtain rfl:k=c.bh.length:=ae
       have HS:=ah hs;have HE:=ah hE
       clear hs hE;go_wp2
       go_ret;exact ⟨by rw [RX.o,<-HS.o];rfl,HX.o.trans HE.o⟩
theorem L8 (w0 V:World) (c:ay) (h:Nat) (hV:Ext w0 V) (hc:bm w0 c) (gA:iB c) (hh:(h:Int)<c.hours):
 Calls prog 79 #[.agg (C8 c),.int .i64 (h:Int)] V λe w'=>e= .returned (i64 (jx c h))/\Ext V w':=by
 try unfold C8
 have sy:=hc.aF.le;have Dw:=hc.aF.cap
 have RU:=hc.stores.le;have Vn:=hc.stores.cap
 have RV:=hc.bh.le;have Vo:=hc.bh.cap
 rw [List.length_map]at sy RU RV;have hf:=gA.frame;have Kf:=hf.LZ;have hb2:=hf.aF.2;have hb5:=hf.stores;have hb6:=hf.bh
 have Vp:=hc.aX.le;have PZ:=hc.aX.cap
 obtain ⟨rb,ro,Vq,r0⟩:=(hc.aX.ext hV).cell h ae;rw [<-fo (show h<c.aX.length by omega)]at r0;have OB:=ah (l_ hf.res h ae);have jC:=ah (o6 gA h hh);have Vr:=ah (o7 gA);have S_:=ah (o8 gA h hh)
 have qG:=ah gA;have eT:=ah hc;have HV:=ah hV;have HRA:=ah Vq;have Vs:=ah hh
 obtain ⟨rv,E_⟩: ∃rv,rv=gw c.aX h:=⟨_,rfl⟩;have RX:Hid (jx c h=rv+gK c h c.aF.length-jm c c.stores.length-kE c h c.bh.length):=by show _=_;rw [E_];rfl
 rw [<-E_]at r0 OB;have RY:(0:Int)<=(h:Int):=ae;have RZ:(h:Int)<(c.aX.length:Int):=ae;clear gA hc hV Vq hf Kf E_ hh;go_enter func79,ntmps79
 go_upto_region 1 with fail
 obtain ⟨W,hW,x0,Z0,A0⟩:=aV V 32 c.cells;rw [show V.alloc (.cells (C8 c) 32)=W from hW.symm];obtain ⟨B,hB⟩: ∃B,B=V.heap.size:=⟨_,rfl⟩;rw [<-hB]at A0⊢;have HX:=ah x0;have HA:=ah A0
 clear hW x0 Z0 A0;obtain ⟨-,k1,k2,-,-,k5,k6,-⟩:=ay.at HA.o;rw [HRA.o]at k1;have r0:=aC HX.o r0;clear hB;go_wp2_with fail
 clear k1 k2 k5 k6 r0 RY RZ;go_loopw [5,6] (λsv ii wr=> ∃(k:Nat) (s:Int),k<=c.aF.length/\s=rv+gK c h k/\sv= .int .i64 s/\Ext W wr/\ii= .int .i64 k) (λ_ ii _=>c.aF.length-(intOf ii).toNat)
 case atStart=>exact ⟨0,rv,aZ,by simp [gK],rfl,ar,rfl⟩
 case round=>
  obtain ⟨k,s,hk,hs,rfl,hE,rfl⟩:=hrel;obtain ⟨-,k1,k2,-,-,k5,k6,-⟩:=ay.at (HA.o.ext hE);by_cases hlt:k<c.aF.length
  .obtain ⟨b,o,ha,c0,c1,c2⟩:=((eT.o.aF.ext HV.o).ext (HX.o.trans hE)).aF k hlt
   have y9:=qG.o.fE c.aF[k] (List.getElem_mem hlt);have xN:=((eT.o.fE c.aF[k] (List.getElem_mem hlt)).2.1.ext HV.o).ext (HX.o.trans hE);have hsc:=qC c h hlt;have hrg:=jC.o k ae;obtain ⟨x,kJ⟩: ∃x,x=c.aF[k]:=⟨_,rfl⟩;rw [<-kJ]at c0 c1 c2 y9 xN hsc;have BO:h<x.cV.length:=bA Vs.o;have hdr:=l_ y9.2.1 h BO;have R3:=xN.le;have L5:=xN.cap
   obtain ⟨db,do',L6,d0⟩:=xN.cell h BO;rw [<-fo BO]at d0;obtain ⟨d,hd⟩: ∃d,d=gw x.cV h:=⟨_,rfl⟩;rw [<-hd]at d0 hsc hdr;have AG:=OB.o;have hw:IntKind.i64.wrap (s+d)=s+d:=dW;have DN:=ah hsc;have HS:=ah hs;have R4:=ah L6
   clear L6;have HE:=ah hE;have iM:(0:Int)<=(k:Int):=ae;have iK:(k:Int)<(c.aF.length:Int):=ae;have RY:(0:Int)<=(h:Int):=ae;have RZ:(h:Int)<(x.cV.length:Int):=ae;clear hs hE y9 xN hsc kJ hd hrg hdr AG BO;rw [ha]at k2;rw [R4.o]at c1;have jB:=HE;clear ha k1 k5 k6 c0;by_cases hz:x.jF=0
   .have tz:(x.jF==0)=true:=by rw [hz];rfl
    have HQ:Hid (s+d=rv+gK c h (k+1)):=by show _=_;rw [DN.o,if_pos hz,HS.o];omega
    clear hz;go_wp2
    exact ⟨⟨k+1,s+d,ae,HQ.o,bf,jB.o,bf⟩,a_⟩
   .have tz:(x.jF==0)=false:=by rw [beq_eq_false_iff_ne];exact hz
    have HQ:Hid (s=rv+gK c h (k+1)):=by show _=_;rw [DN.o,if_neg hz,HS.o];omega
    clear hz;go_wp2
    exact ⟨⟨k+1,s,ae,HQ.o,bf,jB.o,bf⟩,a_⟩
  .obtain rfl:k=c.aF.length:=ae
   have HS:=ah hs;have HE:=ah hE
   clear hs hE;obtain ⟨wo,BP⟩: ∃wo:World,wo=wr:=⟨_,rfl⟩;subst BP;go_wp2_with fail
   clear k1 k2 k5 k6;go_loopw [5,7] (λsv ii wr=> ∃(k:Nat) (s:Int),k<=c.stores.length/\s=rv+gK c h c.aF.length-jm c k/\sv= .int .i64 s/\Ext W wr/\ii= .int .i64 k) (λ_ ii _=>c.stores.length-(intOf ii).toNat)
   case atStart=>exact ⟨0,s,aZ,by rw [HS.o];simp [jm],rfl,HE.o,rfl⟩
   case round=>
    clear HS HE;obtain ⟨k,s2,hk,hs,rfl,hE,rfl⟩:=hrel;obtain ⟨-,k1,k2,-,-,k5,k6,-⟩:=ay.at (HA.o.ext hE);by_cases hlt:k<c.stores.length
    .obtain ⟨b,o,ha,c0,c1,c2,c3,c4,c5,c6,c7,c8⟩:=((eT.o.stores.ext HV.o).ext (HX.o.trans hE)).stores k hlt
     have y9:=(qG.o.store c.stores[k] (List.getElem_mem hlt)).discharge;have hsc:=qD c hlt;have hrg:=Vr.o k ae;obtain ⟨x,kJ⟩: ∃x,x=c.stores[k]:=⟨_,rfl⟩;rw [<-kJ]at c0 c1 c2 c3 c4 c5 c6 c7 c8 y9 hsc;have AG:=OB.o;have GS:=jC.o c.aF.length bY;have hw:IntKind.i64.wrap (s2-x.discharge)=s2-x.discharge:=dW;have HQ:Hid (s2-x.discharge=rv+gK c h c.aF.length-jm c (k+1)):=by show _=_;rw [hsc,hs];omega
     have HE:=ah hE;have iM:(0:Int)<=(k:Int):=ae;have iK:(k:Int)<(c.stores.length:Int):=ae;clear hs hE y9 hsc kJ hrg AG GS;rw [ha]at k5;have jB:=HE;clear ha k1 k2 k6 c0 c1 c2 c3 c4 c5 c7 c8;go_wp2
     exact ⟨⟨k+1,s2-x.discharge,ae,HQ.o,bf,jB.o,bf⟩,a_⟩
    .obtain rfl:k=c.stores.length:=ae
     have HS:=ah hs;have HE:=ah hE
     clear hs hE;obtain ⟨Vt,BP⟩: ∃Vt:World,Vt=wr:=⟨_,rfl⟩;subst BP;go_wp2_with fail
     clear k1 k2 k5 k6;go_loopw [5,8] (λsv ii wr=> ∃(k:Nat) (s:Int),k<=c.bh.length/\s=rv+gK c h c.aF.length-jm c c.stores.length-kE c h k/\sv= .int .i64 s/\Ext W wr/\ii= .int .i64 k) (λ_ ii _=>c.bh.length-(intOf ii).toNat)
     case atStart=>exact ⟨0,s2,aZ,by rw [HS.o];simp [kE],rfl,HE.o,rfl⟩
     case round=>
      clear HS HE;obtain ⟨k,s3,hk,hs,rfl,hE,rfl⟩:=hrel;obtain ⟨-,k1,k2,-,-,k5,k6,-⟩:=ay.at (HA.o.ext hE);by_cases hlt:k<c.bh.length
      .obtain ⟨b,o,ha,c0,c1,c2,c3,c4⟩:=((eT.o.bh.ext HV.o).ext (HX.o.trans hE)).bh k hlt
       have y9:=(qG.o.tie c.bh[k] (List.getElem_mem hlt)).imp;have xN:=((eT.o.tie c.bh[k] (List.getElem_mem hlt)).2.1.ext HV.o).ext (HX.o.trans hE);have hsc:=qE c h hlt;have hrg:=S_.o k ae;obtain ⟨x,kJ⟩: ∃x,x=c.bh[k]:=⟨_,rfl⟩;rw [<-kJ]at c0 c1 c2 c3 c4 y9 xN hsc;have BO:h<x.imp.length:=bA Vs.o;have hdr:=l_ y9.2 h BO;have R3:=xN.le;have L5:=xN.cap
       obtain ⟨db,do',L6,d0⟩:=xN.cell h BO;rw [<-fo BO]at d0;obtain ⟨d,hd⟩: ∃d,d=gw x.imp h:=⟨_,rfl⟩;rw [<-hd]at d0 hsc hdr;have R4:=ah L6;clear L6;have AG:=OB.o;have GS:=jC.o c.aF.length bY;have yx:=Vr.o c.stores.length bY;have hw:IntKind.i64.wrap (s3-d)=s3-d:=dW;have HQ:Hid (s3-d=rv+gK c h c.aF.length-jm c c.stores.length-kE c h (k+1)):=by show _=_;rw [hsc,hs];omega
       have HE:=ah hE;have iM:(0:Int)<=(k:Int):=ae;have iK:(k:Int)<(c.bh.length:Int):=ae;have RY:(0:Int)<=(h:Int):=ae;have RZ:(h:Int)<(x.imp.length:Int):=ae;clear hs hE y9 xN hsc kJ hd hrg hdr AG BO GS yx;rw [ha]at k6;rw [R4.o]at c2;have jB:=HE;clear ha k1 k2 k5 c0 c1 c3 c4;go_wp2
       exact ⟨⟨k+1,s3-d,ae,HQ.o,bf,jB.o,bf⟩,a_⟩
      .obtain rfl:k=c.bh.length:=ae
       have HS:=ah hs;have HE:=ah hE
       clear hs hE;go_wp2
       go_ret;exact ⟨by rw [RX.o,<-HS.o];rfl,HX.o.trans HE.o⟩
theorem Ad (c:ay) (h:Int) (l:List Nat) (n:Nat):i9 c h (aR l) n=nt (dG c h) n l:=by
 induction n with
 |zero=>rfl
 |succ n ih=>
  rw [nJ,iV,ih];by_cases q:n∈l
  .rw [if_pos ((nL l n).2 q),if_pos q]
  .rw [if_neg (λe=>q ((nL l n).1 e)),if_neg q]
theorem Jr {c:ay} (hc:iB c) (h:Int) (l:List Nat) (n:Nat):0<=nt (dG c h) n l/\nt (dG c h) n l<=n*1048576:=by
 rw [<-Ad];exact o5 hc h (aR l) n
