/- Texts of the proof. -/
import Derived.Test.YtkpngkdgphojlaaGreatCd6
import Derived.Test.YtkpngkdgphojlaaGreatCd9
import Derived.Test.YtkpngkdgphojlaaGreatCd12
import Derived.Test.YtkpngkdgphojlaaGreatCd14
set_option linter.all false
set_option maxHeartbeats 1000000
set_option maxRecDepth 100000
namespace Go.Proofs.YtkpngkdgphojlaaGreat
open Go.Proofs.Tryz
open Go.RowKit
def cK (F:Nat→Int→Int) (e:Int) (n:Nat):Int:=(List.range n).foldl (fun e i=>F i e) e
theorem dC (F:Nat→Int→Int) (e:Int) (n:Nat):cK F e (n+1)=F n (cK F e n):=by
 unfold cK;rw [List.range_succ,List.foldl_append];rfl
theorem gJ {F:Nat→Int→Int} (hF: ∀i e,e≠0→F i e=e) {e:Int} (h:e≠0): ∀n,cK F e n=e
 |0=>rfl
 |n+1=>by rw [dC,gJ hF h n,hF n e h]
theorem gu {F:Nat→Int→Int} (hF: ∀i e,e≠0→F i e=e) {e:Int} {i n:Nat} (hi:i≤n) (h:cK F e i≠0):cK F e i=cK F e n:=by
 induction n with
 |zero=>rw [Nat.le_zero.1 hi]
 |succ n ih=>
  by_cases q:i=n+1
  ·rw [q]
  ·rw [dC,←ih (by omega),hF n _ h]
theorem fF {F:Nat→Int→Int} (hF: ∀i e,e≠0→F i e=e) {e:Int} {n:Nat} (h:cK F e n=0):e=0∧ ∀i,i<n→cK F e i=0∧F i 0=0:=by
 have key: ∀i,i≤n→cK F e i=0:=fun i hi=>by
  apply Classical.byContradiction;intro hne;rw [←gu hF hi hne]at h;exact hne h
 refine ⟨by have:=key 0 (Nat.zero_le _);simpa [cK]using this,fun i hi=>⟨key i (by omega),?_⟩⟩;have h1:=key (i+1) hi;rw [dC,key i (by omega)]at h1;exact h1
def bM {α:Type} (l:List α) (F:α→Nat→Int→Int) (i:Nat) (e:Int):Int:=match l[i]? with|some x=>F x i e|none=>e
theorem ie {α:Type} {l:List α} {F:α→Nat→Int→Int} {i:Nat} (h:i<l.length) (e:Int):bM l F i e=F l[i] i e:=by unfold bM;rw [List.getElem?_eq_getElem h]
theorem cP {α:Type} {l:List α} {F:α→Nat→Int→Int} (hF: ∀x i e,e≠0→F x i e=e) (i:Nat) (e:Int) (h:e≠0):bM l F i e=e:=by
 unfold bM;split
 ·exact hF _ _ _ h
 ·rfl
def sB (c:ai) (x:cA) (prev:List ByteArray) (e:Int):Int:=nd (fl (gP e x.name prev) c x.bP 0 1048576) (bk 0 1048576 [x.gC]) 3
theorem j2 {e:Int} (h:e≠0) (nm:ByteArray) (prev:List ByteArray):gP e nm prev=e:=by unfold gP;simp only [ee h]
theorem pT {e:Int} (h:e≠0) (c:ai) (i:Int):oT e c i=e:=ee h _ _
theorem sD {e:Int} (h:e≠0) (c:ai) (l:List Int) (a b:Int):fl e c l a b=e:=by unfold fl;simp only [ee h]
theorem ri {e:Int} (h:e≠0) (c:ai) (l:List Int):mJ e c l=e:=by unfold mJ;simp only [ee h]
theorem FI {e:Int} (h:e≠0) (x:aF):lj e x=e:=by unfold lj;simp only [ee h]
def rj (c:ai):cA→Nat→Int→Int:=fun x i e=>sB c x ((c.ak.take i).map cA.name) e
def mM (c:ai):aP→Nat→Int→Int:=fun x i e=>pI c x ((c.lines.take i).map aP.name) e
def mN (c:ai):aF→Nat→Int→Int:=fun x i e=>pM c x ((c.au.take i).map aF.name) e
def jH (c:ai):bj→Nat→Int→Int:=fun x i e=>lV c x ((c.stores.take i).map bj.name) e
def tE (c:ai):dS→Nat→Int→Int:=fun x i e=>yF c x ((c.aL.take i).map dS.name) e
def wM (c:ai):bB→Nat→Int→Int:=fun x i e=>nS c x ((c.outs.take i).map bB.name) e
theorem pU (c:ai) (x:cA) (i:Nat) (e:Int) (h:e≠0):rj c x i e=e:=by unfold rj sB;simp only [j2 h,sD h,ee h]
theorem rk (c:ai) (x:aP) (i:Nat) (e:Int) (h:e≠0):mM c x i e=e:=by unfold mM pI;simp only [j2 h,pT h,ri h,ee h]
theorem nV (c:ai) (x:aF) (i:Nat) (e:Int) (h:e≠0):mN c x i e=e:=by unfold mN pM;simp only [j2 h,pT h,ri h,FI h,ee h]
theorem l9 (c:ai) (x:bj) (i:Nat) (e:Int) (h:e≠0):jH c x i e=e:=by unfold jH lV;simp only [j2 h,pT h,ee h]
theorem pV (c:ai) (x:dS) (i:Nat) (e:Int) (h:e≠0):tE c x i e=e:=by unfold tE yF;simp only [j2 h,pT h,sD h,ee h]
theorem pW (c:ai) (x:bB) (i:Nat) (e:Int) (h:e≠0):wM c x i e=e:=by unfold wM nS;simp only [j2 h,ee h]
def oX (c:ai) (e:Int):Int:=cK (bM c.ak (rj c)) e c.ak.length
def l_ (c:ai) (e:Int):Int:=cK (bM c.lines (mM c)) e c.lines.length
def oY (c:ai) (e:Int):Int:=cK (bM c.au (mN c)) e c.au.length
def mf (c:ai) (e:Int):Int:=cK (bM c.stores (jH c)) e c.stores.length
def uJ (c:ai) (e:Int):Int:=cK (bM c.aL (tE c)) e c.aL.length
def uK (c:ai) (e:Int):Int:=cK (bM c.outs (wM c)) e c.outs.length
def jm (c:ai) (h:Int):List (Nat×Nat):=(cC c h c.lines.length).map fun i=>((j9 c i).1.toNat,(j9 c i).2.toNat)
def eU (l:List Nat) (out:List Int):Nat→List Nat
 |0=> []
 |n+1=>if hasB out ((l.getD n 0:Nat):Int)=true then eU l out n++ [n]else eU l out n
theorem rq (l:List Nat) (out:List Int): ∀n,∀k∈eU l out n,k<n
 |0,k,h=>by simp [eU]at h
 |n+1,k,h=>by
  unfold eU at h;split at h
  ·rcases List.mem_append.1 h with h|h
   ·have:=rq l out n k h;omega
   ·rw [List.mem_singleton]at h;omega
  ·have:=rq l out n k h;omega
theorem oH (l:List Nat) (out:List Int): ∀n,(eU l out n).length≤n
 |0=>Nat.le_refl _
 |n+1=>by
  have:=oH l out n;unfold eU;split
  ·rw [List.length_append];simp;exact this
  ·omega
noncomputable def jI (c:ai) (h:Int) (x:bB):Bool:=H6 c.ak.length (jm c h) (bU (eU (cC c h c.lines.length) x.lines (cC c h c.lines.length).length))
noncomputable def lp (c:ai) (h:Nat) (e:Int):Int:=cK (bM c.outs fun x _ e=>nd e (!jI c h x) 13) e c.outs.length
theorem nW (c:ai) (h:Nat) (e:Int) (he:e≠0):lp c h e=e:=gJ (fun i e h=>cP (fun _ _ _ h=>ee h _ _) i e h) he _
noncomputable def uL (c:ai) (e:Int):Int:=cK (lp c) e c.hours.toNat
noncomputable def cV (c:ai):Int:=uL c (uK c (uJ c (mf c (oY c (l_ c (oX c (iT c 0)))))))
theorem uM {e:Int} {c:ai} {l:List Int} (h:mJ e c l=0):e=0:=by
 unfold mJ at h;exact (aZ (by decide) (aZ (by decide) h).1).1
theorem gK {e:Int} {c:ai} {l:List Int} {a b:Int} (h:fl e c l a b=0):e=0∧(l.length:Int)=c.hours∧bk a b l=true:=by
 unfold fl at h;have h1:=aZ (by decide) h;have h2:=aZ (by decide) h1.1;exact ⟨h2.1,by simpa using h2.2,h1.2⟩
theorem bQ {lo hi x:Int}:bk lo hi [x]=true↔lo≤x∧x≤hi:=by unfold bk;simp
theorem sF {c:ai} {e:Int}: ∀n,jF c e n=0→e=0
 |0,h=>by simpa [jF]using h
 |n+1,h=>by rw [eZ]at h;exact sF n (aZ (by decide) h).1
theorem AP {c:ai} {e:Int} (h:iT c e=0):1≤c.hours∧c.hours≤24:=by
 unfold iT at h;have h1:=sF _ h;have h2:=(aZ (by decide) h1).1;have h3:=(gK h2).1;exact bQ.1 (aZ (by decide) h3).2
theorem C7 {c:ai} {x:aP} {i:Nat} {e:Int} (h:mM c x i e=0):(0≤x.cU∧x.cU<c.ak.length)∧(0≤x.j5∧x.j5<c.ak.length):=by
 unfold mM pI at h;have h1:=uM h;have h2:=(aZ (by decide) h1).1;have h3:=(aZ (by decide) h2).1;have h4:=(aZ (by decide) h3).1;have h5:=(aZ (by decide) h4).1;have h6:=(aZ (by decide) h5).1;have h7:=(aZ (by decide) h6).1;unfold oT at h7;have h8:=aZ (by decide) h7;have h9:=aZ (by decide) h8.1;have a:=bQ.1 h8.2;have b:=bQ.1 h9.2;exact ⟨by omega,by omega⟩
theorem sG {c:ai} {e:Int} (h:l_ c e=0):e=0∧ ∀i (hi:i<c.lines.length),(0≤c.lines[i].cU∧c.lines[i].cU<c.ak.length)∧(0≤c.lines[i].j5∧c.lines[i].j5<c.ak.length):=by
 unfold l_ at h;have h1:=fF (fun i e h=>cP (rk c) i e h) h;refine ⟨h1.1,fun i hi=> ?_⟩;have h2:=(h1.2 i hi).2;rw [ie hi]at h2;exact C7 h2
theorem uN {c:ai} (hl: ∀i (hi:i<c.lines.length),(0≤c.lines[i].cU∧c.lines[i].cU<c.ak.length)∧(0≤c.lines[i].j5∧c.lines[i].j5<c.ak.length)) (h:Int):
 (∀p∈jm c h,p.1<c.ak.length∧p.2<c.ak.length)∧fw (gG c (cC c h c.lines.length))=er (jm c h):=by
 constructor
 ·intro p hp
  obtain ⟨i,hi,rfl⟩:=List.mem_map.1 hp;have iG:=jd c h _ i hi;rw [nT iG];have:=hl i iG;simp only;omega
 ·unfold fw gG er jm
  rw [List.map_map,List.map_map];apply List.map_congr_left;intro i hi;have iG:=jd c h _ i hi;have:=hl i iG;simp only [Function.comp,nT iG];rw [Int.toNat_of_nonneg (by omega),Int.toNat_of_nonneg (by omega)]
theorem uO (c:ai) (h:Int):(jm c h).length=(cC c h c.lines.length).length:=by simp [jm]
theorem AQ {lo hi:Int} {l:List Int}:bk lo hi l=true↔ ∀x∈l,lo≤x∧x≤hi:=by
 unfold bk;simp [List.all_eq_true]
theorem pX {lo hi:Int} {l:List Int} (h:bk lo hi l=true) (i:Nat) (hi':i<l.length):lo≤aR l i∧aR l i≤hi:=by
 rw [df hi'];exact AQ.1 h _ (List.getElem_mem hi')
theorem uP {c:ai} {e:Int}: ∀n,jF c e n=0→e=0∧ ∀j,j<n→((dx c ((j:Int)+2)).length:Int)≤lU ((j:Int)+2)
 |0,h=>⟨by simpa [jF]using h,fun j hj=>absurd hj (Nat.not_lt_zero _)⟩
 |n+1,h=>by
  rw [eZ]at h;have h1:=aZ (by decide) h;have h2:=uP n h1.1;refine ⟨h2.1,fun j hj=> ?_⟩;by_cases q:j=n
  ·subst q;simpa using h1.2
  ·exact h2.2 j (by omega)
structure Eh (c:ai):Prop where
 hours:1≤c.hours∧c.hours≤24
 VZ:(c.aV.length:Int)=c.hours
 res:bk 0 1048576 c.aV=true
 ak:1≤c.ak.length∧c.ak.length≤32
 lines:c.lines.length≤64
 au:c.au.length≤16
 stores:c.stores.length≤8
 aL:c.aL.length≤8
 outs:c.outs.length≤64
theorem FJ {c:ai} {e:Int} (h:iT c e=0):Eh c:=by
 unfold iT at h;have h1:=uP _ h;have h2:=aZ (by decide) h1.1;have h3:=gK h2.1;have h4:=bQ.1 (aZ (by decide) h3.1).2;have h5:=bQ.1 h2.2;have m0:=h1.2 0 (by decide);have m1:=h1.2 1 (by decide);have m2:=h1.2 2 (by decide);have m3:=h1.2 3 (by decide);have m4:=h1.2 4 (by decide)
 simp [dx,lU]at m0 m1 m2 m3 m4;exact ⟨h4,h3.2.1,h3.2.2,by omega,by omega,by omega,by omega,by omega,by omega⟩
theorem FK {c:ai} {x:cA} {i:Nat} {e:Int} (h:rj c x i e=0):(x.bP.length:Int)=c.hours∧bk 0 1048576 x.bP=true∧0≤x.gC∧x.gC≤1048576:=by
 unfold rj sB at h;have h1:=aZ (by decide) h;have h2:=gK h1.1;exact ⟨h2.2.1,h2.2.2,bQ.1 h1.2⟩
theorem rv {e:Int} {c:ai} {i:Int} (h:oT e c i=0):e=0∧0≤i∧i<c.ak.length:=by
 unfold oT at h;have h1:=aZ (by decide) h;have h2:=bQ.1 h1.2;exact ⟨h1.1,by omega,by omega⟩
theorem C9 {e:Int} {x:aF} (h:lj e x=0):e=0∧(x.aM.length:Int)≤8∧x.aM.all iR=true:=by
 unfold lj at h;have h1:=aZ (by decide) (aZ (by decide) (aZ (by decide) h).1).1;have h2:=aZ (by decide) h1.1;exact ⟨h2.1,by simpa using h2.2,h1.2⟩
structure Ib (c:ai) (x:aF):Prop where
 bus:0≤x.bus∧x.bus<c.ak.length
 min:0≤x.min∧x.min≤x.max
 max:x.max≤1048576
 aM:(x.aM.length:Int)≤8
 GU:x.aM.all iR=true
 eu:0≤x.eu∧x.eu≤1048576
 ez:0≤x.ez∧x.ez≤1048576
 cD:0≤x.cD∧x.cD≤1048576
 bW:x.min≤x.bW∧x.bW≤x.max
 cE:x.min≤x.cE∧x.cE≤x.max
 eE:0≤x.eE∧x.eE≤24
 cF:0≤x.cF∧x.cF≤24
 startTime:0≤x.startTime∧x.startTime≤24
 dr:0≤x.dr∧x.dr≤1048576
 cG:0≤x.cG∧x.cG≤1048576
 cJ:0≤x.cJ∧x.cJ≤24
 aV:0≤x.aV∧x.aV≤1048576
 bg:0≤x.bg∧x.bg≤1048576
 state:0≤x.state∧x.state≤2
 QN:(x.state !=1||decide (0<x.startTime))=true
 hours:1≤x.hours∧x.hours≤48
 started:(x.state !=1||decide (x.hours≤x.startTime))=true
theorem C_ {c:ai} {x:aF} {i:Nat} {e:Int} (h:mN c x i e=0):Ib c x:=by
 unfold mN pM at h;have a1:=aZ (by decide) h;have a2:=aZ (by decide) a1.1;have a3:=aZ (by decide) a2.1;have a4:=aZ (by decide) a3.1;have a5:=aZ (by decide) a4.1;have a6:=uM a5.1;have b1:=aZ (by decide) a6;have b2:=aZ (by decide) b1.1;have b3:=aZ (by decide) b2.1;have b4:=aZ (by decide) b3.1;have b5:=aZ (by decide) b4.1;have b6:=aZ (by decide) b5.1;have b7:=aZ (by decide) b6.1;have b8:=aZ (by decide) b7.1;have b9:=aZ (by decide) b8.1;have ZG:=aZ (by decide) b9.1;have V0:=aZ (by decide) ZG.1;have ZH:=aZ (by decide) V0.1;have ZI:=aZ (by decide) ZH.1;have d0:=C9 ZI.1;have d1:=aZ (by decide) d0.1;have d2:=aZ (by decide) d1.1;have d3:=rv d2.1;have m1:=bQ.1 d2.2;have m2:=bQ.1 d1.2
 exact ⟨d3.2,by omega,m2.2,d0.2.1,d0.2.2,bQ.1 ZI.2,bQ.1 ZH.2,bQ.1 V0.2,bQ.1 ZG.2,bQ.1 b9.2,bQ.1 b8.2,bQ.1 b7.2,bQ.1 b6.2,bQ.1 b5.2,bQ.1 b4.2,bQ.1 b3.2,bQ.1 b2.2,bQ.1 b1.2,bQ.1 a5.2,a4.2,bQ.1 a3.2,a2.2⟩
structure Ei (c:ai) (x:bj):Prop where
 bus:0≤x.bus∧x.bus<c.ak.length
 capacity:0≤x.capacity∧x.capacity≤1048576
 initial:0≤x.initial∧x.initial≤x.capacity
 final:0≤x.final∧x.final≤x.capacity
 dg:0≤x.dg∧x.dg≤1048576
 discharge:0≤x.discharge∧x.discharge≤1048576
 V9:((eG x.en x.ed&&decide (0<x.en))&&decide (x.en≤x.ed))=true
theorem AR {c:ai} {x:bj} {i:Nat} {e:Int} (h:jH c x i e=0):Ei c x:=by
 unfold jH lV at h;have a1:=aZ (by decide) h;have a2:=aZ (by decide) a1.1;have a3:=aZ (by decide) a2.1;have a4:=aZ (by decide) a3.1;have a5:=aZ (by decide) a4.1;have a6:=aZ (by decide) a5.1;have a7:=rv a6.1;exact ⟨a7.2,bQ.1 a6.2,bQ.1 a5.2,bQ.1 a4.2,bQ.1 a3.2,bQ.1 a2.2,a1.2⟩
structure Mq (c:ai) (x:dS):Prop where
 bus:0≤x.bus∧x.bus<c.ak.length
 imp:(x.imp.length:Int)=c.hours∧bk 0 1048576 x.imp=true
 exp:(x.exp.length:Int)=c.hours∧bk 0 1048576 x.exp=true
 aX:(x.aX.length:Int)=c.hours∧bk (-1048576) 1048576 x.aX=true
theorem FL {c:ai} {x:dS} {i:Nat} {e:Int} (h:tE c x i e=0):Mq c x:=by
 unfold tE yF at h;have a1:=gK h;have a2:=gK a1.1;have a3:=gK a2.1;have a4:=rv a3.1;exact ⟨a4.2,a3.2,a2.2,a1.2⟩
theorem ke {α:Type} {l:List α} {F:α→Nat→Int→Int} (hF: ∀x i e,e≠0→F x i e=e) {e:Int} (h:cK (bM l F) e l.length=0):e=0∧ ∀i (hi:i<l.length),F l[i] i 0=0:=by
 have h1:=fF (fun i e h=>cP hF i e h) h;refine ⟨h1.1,fun i hi=> ?_⟩;have h2:=(h1.2 i hi).2;rw [ie hi]at h2;exact h2
structure fh (c:ai):Prop where
 frame:Eh c
 bus: ∀x∈c.ak,(x.bP.length:Int)=c.hours∧bk 0 1048576 x.bP=true∧0≤x.gC∧x.gC≤1048576
 line: ∀i (hi:i<c.lines.length),(0≤c.lines[i].cU∧c.lines[i].cU<c.ak.length)∧(0≤c.lines[i].j5∧c.lines[i].j5<c.ak.length)
 unit: ∀x∈c.au,Ib c x
 store: ∀x∈c.stores,Ei c x
 tie: ∀x∈c.aL,Mq c x
theorem Ej {c:ai} (h7:uK c (uJ c (mf c (oY c (l_ c (oX c (iT c 0))))))=0):fh c:=by
 have h6:=ke (pW c) h7;have h5:=ke (pV c) h6.1;have h4:=ke (l9 c) h5.1;have h3:=ke (nV c) h4.1;have h2:=sG (c:=c) h3.1;have h1:=ke (pU c) h2.1;refine ⟨FJ h1.1,?_,h2.2,?_,?_,?_⟩
 ·intro x hx
  obtain ⟨i,hi,rfl⟩:=List.getElem_of_mem hx;exact FK (h1.2 i hi)
 ·intro x hx
  obtain ⟨i,hi,rfl⟩:=List.getElem_of_mem hx;exact C_ (h3.2 i hi)
 ·intro x hx
  obtain ⟨i,hi,rfl⟩:=List.getElem_of_mem hx;exact AR (h4.2 i hi)
 ·intro x hx
  obtain ⟨i,hi,rfl⟩:=List.getElem_of_mem hx;exact FL (h5.2 i hi)
theorem xI {c:ai} (h:cV c=0):fh c:=by
 unfold cV at h;unfold uL at h;exact Ej (fF (nW c) h).1
def desc (l:List Int):List Int:=l.mergeSort (fun a b=>decide (b≤a))
theorem xJ (l:List Int):(desc l).Perm l:=List.mergeSort_perm l _
theorem AW (l:List Int):(desc l).Pairwise (fun a b=>b≤a):=by
 have h:=List.pairwise_mergeSort (le:=fun a b:Int=>decide (b≤a)) (fun a b c h1 h2=>by simp at*;omega) (fun a b=>by simp;omega) l;exact h.imp (fun h=>by simpa using h)
theorem sH (l:List Int):(desc l).length=l.length:=(xJ l).length_eq
theorem Ic {d:Int} {D R:List Int} (hs:(d::D).Pairwise (fun a b=>b≤a)) (hp:R.Perm (d::D)) {x:Int} (hx:x∈R) (hm: ∀y∈R,y≤x):x=d:=by
 have h1:x∈d::D:=hp.mem_iff.1 hx;have h2:d∈R:=hp.mem_iff.2 (by simp);have h3:=hm d h2;rcases List.mem_cons.1 h1 with h|h
 ·exact h
 ·have:=(List.pairwise_cons.1 hs).1 x h
  omega
theorem FM {d:Int} {D R R':List Int} (hp:R.Perm (d::D)) (hq:R.Perm (d::R')):R'.Perm D:=(hq.symm.trans hp).cons_inv
theorem Ie (cap:Nat→Int): ∀(l:List Nat) (t:Nat→Bool) (b:Nat),l.Nodup→b∈l→t b=false→
 ((l.filter fun u=> !t u).map cap).Perm (cap b::(l.filter fun u=> !(t u||u==b)).map cap):=by
 intro l t b hn hb ht;induction l with
 |nil=>simp at hb
 |cons u l ih=>
  rw [List.nodup_cons]at hn;by_cases ow:u=b
  ·subst ow
   have h1:l.filter (fun v=> !(t v||v==u))=l.filter fun v=> !t v:=by
    apply List.filter_congr;intro v hv;have:(v==u)=false:=by simp;rintro rfl;exact hn.1 hv
    rw [this,Bool.or_false]
   rw [List.filter_cons_of_pos (by rw [ht];rfl),List.filter_cons_of_neg (by simp),h1,List.map_cons]
  ·have hb':b∈l:=by rcases List.mem_cons.1 hb with h|h;exact absurd h.symm ow;exact h
   have hq:(u==b)=false:=by simpa using ow
   cases Ui:t u with
   |true=>
    rw [List.filter_cons_of_neg (by rw [Ui];simp),List.filter_cons_of_neg (by rw [Ui];simp)];exact ih hn.2 hb'
   |false=>
    rw [List.filter_cons_of_pos (by rw [Ui];rfl),List.filter_cons_of_pos (by rw [Ui,hq];rfl),List.map_cons,List.map_cons];exact ((ih hn.2 hb').cons (cap u)).trans (List.Perm.swap _ _ _)
def pY (c:ai) (u:Nat):Int:=(c.au[u]?.map aF.max).getD 0
def Ek (c:ai) (u:Nat):List Int:=(c.au[u]?.map aF.away).getD []
def iD (c:ai) (h:Int) (u:Nat):Int:=if hasB (Ek c u) h=true then 0 else pY c u
theorem uQ {c:ai} {i:Nat} (h:i<c.au.length):pY c i=c.au[i].max:=by unfold pY;rw [List.getElem?_eq_getElem h];rfl
theorem AY {c:ai} {i:Nat} (h:i<c.au.length):Ek c i=c.au[i].away:=by unfold Ek;rw [List.getElem?_eq_getElem h];rfl
def QO (c:ai) (h:Int) (us:List Int) (n:Nat):Int:=(((List.range n).filter fun(u:Nat)=> !hasB us (u:Int)).map (iD c h)).sum
theorem Ig (l:List Int) (x:Int):(l++ [x]).sum=l.sum+x:=by rw [List.sum_append];simp
structure El (n:Nat) (us:List Nat):Prop where
 FN:us.Pairwise (· < ·)
 lt: ∀u∈us,u<n
def Da (c:ai) (h:Nat) (us:List Nat) (k:Nat):Int:=QO c h (bU us) c.au.length+((desc (us.map (iD c h))).take k).sum
def kP (c:ai) (h:Nat) (us:List Nat) (j:Nat) (t:Nat→Bool):Prop:=((us.filter fun u=> !t u).map (iD c h)).Perm ((desc (us.map (iD c h))).drop j)
theorem kP.zero (c:ai) (h:Nat) (us:List Nat):kP c h us 0 (fun _=>false):=by
 unfold kP;have:(us.filter fun u=> !(fun _=>false) u)=us:=List.filter_eq_self.2 (fun _ _=>rfl);rw [this,List.drop_zero];exact (xJ _).symm
theorem kP.some {c:ai} {h:Nat} {us:List Nat} {j:Nat} {t:Nat→Bool} (r:kP c h us j t) (hj:j<us.length): ∃x∈us,t x=false:=by
 unfold kP at r;have hl:=r.length_eq;rw [List.length_drop,sH,List.length_map,List.length_map]at hl;have:0<(us.filter fun u=> !t u).length:=by omega
 obtain ⟨x,hx⟩:=List.exists_mem_of_length_pos this;rw [List.mem_filter]at hx;exact ⟨x,hx.1,by simpa using hx.2⟩
theorem kP.step {c:ai} {h:Nat} {us:List Nat} {j:Nat} {t:Nat→Bool} (r:kP c h us j t) (hn:us.Nodup) (hj:j<us.length) {x:Nat} (hx:x∈us) (ht:t x=false) (hm: ∀y∈us,t y=false→iD c h y≤iD c h x):
 kP c h us (j+1) (fun u=>t u||u==x)∧Da c h us (j+1)=Da c h us j+iD c h x:=by
 unfold kP at*;have hlen:j<(desc (us.map (iD c h))).length:=by rw [sH,List.length_map];exact hj
 have hd:=List.drop_eq_getElem_cons hlen;have ZJ:((desc (us.map (iD c h))).drop j).Pairwise (fun a b=>b≤a):=(AW _).sublist (List.drop_sublist _ _);rw [hd]at ZJ;rw [hd]at r;have V_:iD c h x∈(us.filter fun u=> !t u).map (iD c h):=List.mem_map.2 ⟨x,List.mem_filter.2 ⟨hx,by rw [ht];rfl⟩,rfl⟩
 have Wa: ∀y∈(us.filter fun u=> !t u).map (iD c h),y≤iD c h x:=by
  intro y hy;obtain ⟨u,hu,rfl⟩:=List.mem_map.1 hy;rw [List.mem_filter]at hu;exact hm u hu.1 (by simpa using hu.2)
 have he:=Ic ZJ r V_ Wa;refine ⟨?_,?_⟩
 ·have h1:=Ie (iD c h) us t x hn hx ht
  rw [←he]at r;exact FM r h1
 ·unfold Da
  rw [List.take_succ_eq_append_getElem hlen,Ig,he];omega
theorem FO (w0 V:World) (c:ai) (h:Int) (hV:Ext w0 V) (hc:aS w0 c) (hn:c.lines.length≤1000000):
 Calls prog 148 #[.agg (C8 c),i64 h] V fun e w'=> ∃a cap,e= .returned (.slice a (cC c h c.lines.length).length cap)∧aD w' a cap (bU (cC c h c.lines.length))∧Ext V w'∧Fr V.heap.size a:=by
 try unfold C8
 have hr:=hc.lines;have hle:=hr.le;have dy:=hr.cap
 rw [List.length_map]at hle;have HR:=ae hr;have HV:=ae hV;have HN:=ae hn;have Mm:=ae hc.line
 clear hc hr hV hn;go_enter func148,ntmps148
 go_upto_region 1 with fail
 obtain ⟨W,hW,x0,Z0,A0⟩:=aH V 32 c.cells;rw [show V.alloc (.cells (C8 c) 32)=W from hW.symm];clear hW;have HX:=ae x0;obtain ⟨B,hB⟩: ∃B,B=V.heap.size:=⟨_,rfl⟩;rw [←hB]at A0⊢;obtain ⟨-,-,-,k3,-⟩:=ai.at A0;have wC:=ae hB;clear A0 x0 Z0 hB;go_wp2_with fail
 clear k3;go_loopw [5,11] (fun v ii wr=> ∃i:Nat,i≤c.lines.length∧aN wr W.heap.size 3 1 v (fo (cC c h i))∧Ext W wr∧ii= .int .i64 i) (fun _ ii _=>c.lines.length-(intOf ii).toNat)
 case atStart=>exact ⟨0,Nat.zero_le _,aN.nil _ _ _ _,Ext.refl _,rfl⟩
 case round=>
  obtain ⟨i,hi,hown,hE,rfl⟩:=hrel;have HO:=ae hown;clear hown;by_cases hlt:i<c.lines.length
  ·obtain ⟨b,o,ha,c0,c1,c2,c3,c4,c5,c6,c7,c8,c9,c10,c11⟩:=((HR.o.ext HV.o).ext (HX.o.trans hE)).lines i hlt
   have PG:=(Mm.o c.lines[i] (List.getElem_mem hlt)).2.1;have HST:=ae (su c h i);rw [xF hlt]at HST;obtain ⟨x,jc⟩: ∃x,x=c.lines[i]:=⟨_,rfl⟩;rw [←jc]at c0 c1 c2 c3 c4 c5 c6 c7 c8 c9 c10 c11 PG HST;have HLEN:=ae (h_ c h i);generalize cC c h i=l at*;have f_:(0:Int)≤(i:Int):=by omega
   have fU:(i:Int)<(c.lines.length:Int):=by omega
   have HE:=ae hE;have QP:=ae ((PG.ext HV.o).ext (HX.o.trans hE));clear hE PG jc;rw [ha];go_upto_region 5 with fail
   obtain ⟨W1,hW1,x1,Z1,A1⟩:=aH wr 78 x.cells;rw [show wr.alloc (.cells #[.string x.name,i64 x.cU,i64 x.j5,i64 x.rn,i64 x.rd,i64 x.se,i64 x.vW,i64 x.tj,i64 x.yA,i64 x.cY,i64 x.jS,.slice x.aa x.away.length x.ac] 78)=W1 from hW1.symm];clear hW1 c0 c1 c2 c3 c4 c5 c6 c7 c8 c9 c10 c11;obtain ⟨E,lh⟩: ∃E,E=wr.heap.size:=⟨_,rfl⟩;rw [←lh]at A1⊢;obtain ⟨-,-,-,-,-,-,-,-,-,-,-,c11⟩:=aP.at A1;have ln:=ae (nc W1 _ _ _ h (QP.o.ext x1));have kX:=ae (HE.o.trans x1);have vX:=kX.o.size;have fJ:=ae x1;clear A1 Z1 x1 lh QP HE;rcases Bool.eq_false_or_eq_true (hasB x.away h)with hq|hq
   ·rw [hq]at ln HST
    clear hq;go_wp2_with fail
    refine ln.o.mono ?_;rintro e w1 ⟨rfl,fK⟩;rw [fK];clear fK
    have zV:=ae (HO.o.ext fJ.o);go_wp2_with fail
    exact ⟨⟨i+1,by omega,by rw [HST.o];simpa using zV.o,kX.o,by go_num⟩,by simp only [intOf];omega⟩
   ·rw [hq]at ln HST
    clear hq
    have HOW:Hid (wr.ownsRow W.heap.size 3 1 u5 l.length (fo l).flatten):=by
     have h5:=HO.o.own;rw [dB]at h5;exact h5
    have Wb:=ae (bq HOW.o fJ.o);go_wp2_with fail
    refine ln.o.mono ?_;rintro e w1 ⟨rfl,fK⟩;rw [fK];clear fK
    go_wp2_with (at_builtin;refine aW _ rfl (.tmp 21) (.tmp 23) 22 rfl W.heap.size 3 (.int .i64 0) 1 8 underlying22 Tryz.info_int rfl (by decide) u5 l.length (fo l).flatten rfl ?c1 (some ⟨W1.heap.size,0,none⟩) 1 1 [i64 (i:Int)] rfl rfl ?c2 ?c3 ?c4 ?c5 (by decide) ?c6 ?_;rotate_right;intro v1 w5 ho he hb hz hv)
    case c1=>exact bq Wb.o ((Ext.refl _).alloc _)
    case c2=>exact fun _=>⟨_,rfl,cu W1 3 [i64 (i:Int)]⟩
    case c3=>intro u hu;rw [List.mem_singleton]at hu;subst hu;rfl
    case c4=>intro e;cases e
    case c5=>have:=HN.o;have:=HLEN.o;omega
    case c6=>have:=vX;simp;omega
    have x5:Ext W w5:=he.o W (kX.o.alloc _) (Nat.le_refl _);have i5:=(HO.o.ext fJ.o).snoc (w':=w5) (v':=v1) (r:= [i64 (i:Int)]) rfl (by rw [dB];exact ho.o);rw [←lX]at i5;exact ⟨⟨i+1,by omega,by rw [HST.o];simpa using i5,x5,by go_num⟩,by simp only [intOf];omega⟩
  ·obtain rfl:i=c.lines.length:=by omega
   obtain ⟨a,cap,rfl,hS,jU⟩:=HO.o.recs (by decide);rw [dB];rw [lY]at hS;have HI:=ae (aD.nk hS (np (jd c h _) (by omega)));have tQ:=ae jU;clear hS jU HO;go_wp2_with fail
   go_ret;exact ⟨a,cap,rfl,HI.o,HX.o.trans hE,tQ.o.mono HX.o.size⟩
def b_ (w:World) (B:Nat) (f:Nat→Int) (n:Nat):Prop:=aJ w B 3 ((List.range n).map fun b=>i64 (f b))
theorem b_.cell {w:World} {B:Nat} {f:Nat→Int} {n:Nat} (h:b_ w B f n) (k:Nat) (hk:k<n):w.cell? ⟨B,k,none⟩=some (i64 (f k))∧w.frozen? ⟨B,k,none⟩=false:=
 ⟨by rw [aJ.cell h k];simp [hk],aJ.frozen h k⟩
theorem b_.ext {w w':World} {B:Nat} {f:Nat→Int} {n:Nat} (h:b_ w B f n) (e:Ext w w'):b_ w' B f n:=aJ.ext h e
theorem b_.lt {w:World} {B:Nat} {f:Nat→Int} {n:Nat} (h:b_ w B f n):B<w.heap.size:=aJ.lt h
theorem b_.congr {w:World} {B:Nat} {f g:Nat→Int} {n:Nat} (h:b_ w B f n) (e: ∀b,b<n→f b=g b):b_ w B g n:=by
 unfold b_ at*
 have:((List.range n).map fun b=>i64 (g b))=(List.range n).map fun b=>i64 (f b):=by
  apply List.map_congr_left;intro b hb;rw [e b (List.mem_range.1 hb)]
 rw [this];exact h
theorem b_.set {w:World} {B:Nat} {f:Nat→Int} {n:Nat} (h:b_ w B f n) (k:Nat) (v:Int):b_ (w.setCell ⟨B,k,none⟩ (i64 v)) B (fun b=>if b=k then v else f b) n:=by
 unfold b_ at*;have h5:=aJ.set h k (i64 v)
 have:((List.range n).map fun b=>i64 (f b)).set k (i64 v)=(List.range n).map fun b=>i64 (if b=k then v else f b):=by
  apply List.ext_getElem
  ·simp
  ·intro i h1 h2
   rw [List.getElem_set];simp only [List.getElem_map,List.getElem_range];by_cases hik:k=i
   ·subst hik;simp
   ·rw [if_neg hik,if_neg (fun e=>hik e.symm)]
 rw [this]at h5;exact h5
theorem b_.zero {w:World} {B:Nat} {n:Nat} (f:Nat→Int) (h:aJ w B 3 (List.replicate n (.int .i64 0))):b_ w B (fun b=>if b<0 then f b else 0) n:=by
 unfold b_
 have:((List.range n).map fun b=>i64 (if b<0 then f b else 0))=List.replicate n (.int .i64 0):=by
  apply List.ext_getElem
  ·simp
  ·intro i h1 h2;simp
 rw [this];exact h
theorem b_.next {w:World} {B n k:Nat} {f:Nat→Int} (h:b_ w B (fun b=>if b<k then f b else 0) n):b_ (w.setCell ⟨B,k,none⟩ (i64 (f k))) B (fun b=>if b<k+1 then f b else 0) n:=
 (h.set k (f k)).congr fun b _=>by
   show(if b=k then f k else if b<k then f b else 0)=(if b<k+1 then f b else 0);by_cases e:b=k
   ·subst e;simp
   ·rw [if_neg e]
    by_cases e2:b<k
    ·rw [if_pos e2,if_pos (by omega)]
    ·rw [if_neg e2,if_neg (by omega)]
theorem b_.keep {w:World} {B n k:Nat} {f:Nat→Int} (h:b_ w B (fun b=>if b<k then f b else 0) n) (e:f k=0):b_ w B (fun b=>if b<k+1 then f b else 0) n:=
 h.congr fun b _=>by
  show(if b<k then f b else 0)=(if b<k+1 then f b else 0);by_cases q:b=k
  ·subst q;simp [e]
  ·by_cases e2:b<k
   ·rw [if_pos e2,if_pos (by omega)]
   ·rw [if_neg e2,if_neg (by omega)]
theorem b_.full {w:World} {B n:Nat} {f:Nat→Int} (h:b_ w B (fun b=>if b<n then f b else 0) n):b_ w B f n:=h.congr fun b hb=>by simp [hb]
structure KV where
 a:Option Addr
 c:Nat
 l:List Int
def KV.cells (k:KV):List Value:= [.slice k.a k.l.length k.c]
structure iI (w:World) (a:Option Addr) (c:Nat) (ks:List KV):Prop where
 recs:bS w 1 a c (ks.map KV.cells)
 row: ∀k∈ks,aD w k.a k.c k.l
theorem iI.ext {w w':World} {a:Option Addr} {c:Nat} {ks:List KV} (h:iI w a c ks) (e:Ext w w'):iI w' a c ks:=⟨h.recs.ext e,fun k hk=>(h.row k hk).ext e⟩
theorem iI.le {w:World} {a:Option Addr} {c:Nat} {ks:List KV} (h:iI w a c ks):ks.length≤c:=by have:=h.recs.le;rwa [List.length_map]at this
theorem iI.at {w:World} {a:Option Addr} {c:Nat} {ks:List KV} (h:iI w a c ks) (i:Nat) (hi:i<ks.length): ∃b o x,x=ks[i]∧a=some ⟨b,o,none⟩∧w.cell? ⟨b,o+i,none⟩=some (.slice x.a x.l.length x.c):=by
 obtain ⟨b,o,ha,hc⟩:=h.recs.cell i (by simpa using hi);have h0:=hc 0 (by rw [List.getElem_map];exact Nat.one_pos);simp only [List.getElem_map,KV.cells,Nat.mul_one,Nat.add_zero,List.getElem_cons_zero]at h0;exact ⟨b,o,_,rfl,ha,h0⟩
def pZ (c:ai) (ks:List KV):Bool:=decide (ks.length=c.au.length)&&ks.all fun k=>decide ((k.l.length:Int)=c.hours)
def mg (c:ai) (ks:List KV):Bool:=decide (ks.length=0)||pZ c ks
noncomputable def mh (c:ai) (ks:List KV):Int:=if cV c≠0 then cV c else if mg c ks=true then 0 else 4
noncomputable def ox (c:ai) (ks:List KV) (h:Int):Int:=if mh c ks≠0 then mh c ks else if h<0∨c.hours≤h then 12 else 0
theorem p7 {c:ai} {ks:List KV}:pZ c ks=true↔ks.length=c.au.length∧ ∀i (h:i<ks.length),(ks[i].l.length:Int)=c.hours:=by
 unfold pZ;rw [Bool.and_eq_true,List.all_eq_true,decide_eq_true_eq];refine and_congr Iff.rfl ⟨fun h i hi=>by simpa using h _ (List.getElem_mem hi),fun h k hk=> ?_⟩;obtain ⟨i,hi,rfl⟩:=List.getElem_of_mem hk;simpa using h i hi
theorem Em {c:ai} {ks:List KV} (i:Nat) (hi:i<ks.length) (h:(ks[i].l.length:Int)≠c.hours):pZ c ks=false:=by
 cases hq:pZ c ks with
 |false=>rfl
 |true=>exact absurd ((p7.1 hq).2 i hi) h
theorem AZ {c:ai} {ks:List KV} (h:ks.length≠c.au.length):pZ c ks=false:=by unfold pZ;rw [decide_eq_false h];rfl
theorem xL {c:ai} {ks:List KV} (h:ks.length=0):mg c ks=true:=by unfold mg;rw [decide_eq_true h];rfl
theorem uR {c:ai} {ks:List KV} (h:ks.length≠0):mg c ks=pZ c ks:=by unfold mg;rw [decide_eq_false h];rfl
theorem xM {c:ai} {ks:List KV} (h:mh c ks=0):cV c=0∧mg c ks=true:=by
 unfold mh at h;by_cases q:cV c=0
 ·refine ⟨q,?_⟩
  rw [if_neg (fun e=>e q)]at h;by_cases t:mg c ks=true
  ·exact t
  ·rw [if_neg t]at h;omega
 ·rw [if_pos q]at h;exact absurd h q
theorem nX {c:ai} {ks:List KV} {h:Int} (e:ox c ks h=0):mh c ks=0∧0≤h∧h<c.hours:=by
 unfold ox at e;by_cases q:mh c ks=0
 ·refine ⟨q,?_⟩
  rw [if_neg (fun e=>e q)]at e;by_cases t:h<0∨c.hours≤h
  ·rw [if_pos t]at e;omega
  ·omega
 ·rw [if_pos q]at e;exact absurd e q
theorem A7 {c:ai} {ks:List KV} (h:mg c ks=true) (hn:ks.length≠0) {u:Nat} (hu:u<c.au.length): ∃hk:u<ks.length,(ks[u].l.length:Int)=c.hours:=by
 rw [uR hn]at h;have h2:=p7.1 h;exact ⟨by omega,h2.2 u (by omega)⟩
def a_ (bus v:Nat→Int):Nat→Nat→Int
 |0,_=>0
 |k+1,b=>a_ bus v k b+if bus k=(b:Int)then v k else 0
theorem iE (bus v:Nat→Int) (k b:Nat):a_ bus v (k+1) b=a_ bus v k b+if bus k=(b:Int)then v k else 0:=rfl
theorem bV {bus v:Nat→Int} (hv: ∀j,-1048576≤v j∧v j≤1048576): ∀k b,-(k*1048576)≤a_ bus v k b∧a_ bus v k b≤k*1048576
 |0,b=>by simp [a_]
 |k+1,b=>by
  have h:=bV (bus:=bus) hv k b;have h2:=hv k;rw [iE];split<;>constructor<;>omega
theorem b_.acc {w:World} {B n k:Nat} {f0 bus v:Nat→Int} (b:Nat) (hb:bus k=(b:Int)) (x:Int) (h:b_ w B (fun b=>f0 b+a_ bus v k b) n) (hx:x=f0 b+a_ bus v k b+v k):
 b_ (w.setCell ⟨B,b,none⟩ (i64 x)) B (fun b=>f0 b+a_ bus v (k+1) b) n:=
 (h.set b x).congr fun j _=>by
   show(if j=b then x else f0 j+a_ bus v k j)=_;rw [iE];by_cases e:j=b
   ·subst e;rw [if_pos rfl,hx,if_pos hb];omega
   ·rw [if_neg e,if_neg (by omega)];omega
theorem b_.Ih {w:World} {B n k:Nat} {f0 bus v:Nat→Int} (h:b_ w B (fun b=>f0 b+a_ bus v k b) n) (hv:v k=0):
 b_ w B (fun b=>f0 b+a_ bus v (k+1) b) n:=
 h.congr fun j _=>by
  show f0 j+a_ bus v k j=_;rw [iE,hv];split<;>omega
theorem b_.start {w:World} {B n:Nat} {f0:Nat→Int} (bus v:Nat→Int) (h:b_ w B f0 n):b_ w B (fun b=>f0 b+a_ bus v 0 b) n:=h.congr fun b _=>by simp [a_]
def rz (ks:List KV) (u:Nat):List Int:=(ks[u]?.map KV.l).getD []
theorem En {ks:List KV} {u:Nat} (h:u<ks.length):rz ks u=ks[u].l:=by unfold rz;rw [List.getElem?_eq_getElem h];rfl
def oy (c:ai) (ks:List KV) (h u:Nat):Bool:= !hasB (Ek c u) (h:Int)&&(decide (ks.length=0)||(aR (rz ks u) h==2))
def sI (c:ai) (u:Nat):Int:=(c.au[u]?.map aF.min).getD 0
theorem uS {c:ai} {i:Nat} (h:i<c.au.length):sI c i=c.au[i].min:=by unfold sI;rw [List.getElem?_eq_getElem h];rfl
def ig (c:ai) (u:Nat):Int:=(c.au[u]?.map aF.bus).getD 0
theorem Eo {c:ai} {i:Nat} (h:i<c.au.length):ig c i=c.au[i].bus:=by unfold ig;rw [List.getElem?_eq_getElem h];rfl
def jy (c:ai) (ks:List KV) (h u:Nat):Int:=if oy c ks h u=true then(if ks.length=0 then 0 else sI c u)else 0
def fW (c:ai) (ks:List KV) (h u:Nat):Int:=if oy c ks h u=true then pY c u else 0
def jz (c:ai) (u:Nat):Int:=(c.stores[u]?.map bj.bus).getD 0
theorem Ep {c:ai} {i:Nat} (h:i<c.stores.length):jz c i=c.stores[i].bus:=by unfold jz;rw [List.getElem?_eq_getElem h];rfl
def oZ (c:ai) (u:Nat):Int:= -(c.stores[u]?.map bj.dg).getD 0
theorem yR {c:ai} {i:Nat} (h:i<c.stores.length):oZ c i= -c.stores[i].dg:=by unfold oZ;rw [List.getElem?_eq_getElem h];rfl
def kf (c:ai) (u:Nat):Int:=(c.stores[u]?.map bj.discharge).getD 0
theorem uT {c:ai} {i:Nat} (h:i<c.stores.length):kf c i=c.stores[i].discharge:=by unfold kf;rw [List.getElem?_eq_getElem h];rfl
def jW (c:ai) (u:Nat):Int:=(c.aL[u]?.map dS.bus).getD 0
theorem Er {c:ai} {i:Nat} (h:i<c.aL.length):jW c i=c.aL[i].bus:=by unfold jW;rw [List.getElem?_eq_getElem h];rfl
def o0 (c:ai) (h u:Nat):Int:= -aR ((c.aL[u]?.map dS.exp).getD []) h
theorem yS {c:ai} (h:Nat) {i:Nat} (hi:i<c.aL.length):o0 c h i= -aR c.aL[i].exp h:=by unfold o0;rw [List.getElem?_eq_getElem hi];rfl
def kg (c:ai) (h u:Nat):Int:=aR ((c.aL[u]?.map dS.imp).getD []) h
theorem uU {c:ai} (h:Nat) {i:Nat} (hi:i<c.aL.length):kg c h i=aR c.aL[i].imp h:=by unfold kg;rw [List.getElem?_eq_getElem hi];rfl
def NA (c:ai) (h b:Nat):Int:=aR ((c.ak[b]?.map cA.bP).getD []) h
theorem uV {c:ai} (h:Nat) {i:Nat} (hi:i<c.ak.length):NA c h i=aR c.ak[i].bP h:=by unfold NA;rw [List.getElem?_eq_getElem hi];rfl
def Db (c:ai) (b:Nat):Int:=(c.ak[b]?.map cA.gC).getD 0
theorem xN {c:ai} {i:Nat} (hi:i<c.ak.length):Db c i=c.ak[i].gC:=by unfold Db;rw [List.getElem?_eq_getElem hi];rfl
def jJ (c:ai) (h b:Nat):Int:= -NA c h b
def dD (c:ai) (h b:Nat):Int:=if 0<Db c b then 0 else-NA c h b
theorem fh.sI {c:ai} (hc:fh c) (u:Nat):0≤sI c u∧sI c u≤1048576:=by
 by_cases h:u<c.au.length
 ·rw [uS h];have:=hc.unit _ (List.getElem_mem h);have h1:=this.min;have h2:=this.max;omega
 ·unfold Proofs.YtkpngkdgphojlaaGreat.sI;rw [List.getElem?_eq_none (by omega)];decide
theorem fh.pY {c:ai} (hc:fh c) (u:Nat):0≤pY c u∧pY c u≤1048576:=by
 by_cases h:u<c.au.length
 ·rw [uQ h];have:=hc.unit _ (List.getElem_mem h);have h1:=this.min;have h2:=this.max;omega
 ·unfold Proofs.YtkpngkdgphojlaaGreat.pY;rw [List.getElem?_eq_none (by omega)];decide
theorem mi {c:ai} (hc:fh c) (ks:List KV) (h u:Nat): -1048576≤jy c ks h u∧jy c ks h u≤1048576:=by
 unfold jy;have:=hc.sI u;split
 ·split<;>omega
 ·omega
theorem kz {c:ai} (hc:fh c) (ks:List KV) (h u:Nat): -1048576≤fW c ks h u∧fW c ks h u≤1048576:=by
 unfold fW;have:=hc.pY u;split<;>omega
theorem o5 {c:ai} (hc:fh c) (u:Nat): -1048576≤oZ c u∧oZ c u≤1048576:=by
 by_cases h:u<c.stores.length
 ·rw [yR h];have:=(hc.store _ (List.getElem_mem h)).dg;omega
 ·unfold oZ;rw [List.getElem?_eq_none (by omega)];decide
theorem nw {c:ai} (hc:fh c) (u:Nat): -1048576≤kf c u∧kf c u≤1048576:=by
 by_cases h:u<c.stores.length
 ·rw [uT h];have:=(hc.store _ (List.getElem_mem h)).discharge;omega
 ·unfold kf;rw [List.getElem?_eq_none (by omega)];decide
theorem KY {l:List Int} {i:Nat} (h:l.length≤i):aR l i=0:=by unfold aR;rw [List.getElem?_eq_none h];rfl
theorem yT {l:List Int} (h:bk 0 1048576 l=true) (i:Nat):0≤aR l i∧aR l i≤1048576:=by
 by_cases q:i<l.length
 ·exact pX h i q
 ·rw [KY (by omega)];decide
theorem uW {c:ai} (hc:fh c) (h u:Nat): -1048576≤o0 c h u∧o0 c h u≤1048576:=by
 by_cases q:u<c.aL.length
 ·rw [yS h q];have:=yT (hc.tie _ (List.getElem_mem q)).exp.2 h;omega
 ·unfold o0;rw [List.getElem?_eq_none (by omega)];simp [aR]
theorem sJ {c:ai} (hc:fh c) (h u:Nat): -1048576≤kg c h u∧kg c h u≤1048576:=by
 by_cases q:u<c.aL.length
 ·rw [uU h q];have:=yT (hc.tie _ (List.getElem_mem q)).imp.2 h;omega
 ·unfold kg;rw [List.getElem?_eq_none (by omega)];simp [aR]
theorem xO {c:ai} (hc:fh c) (h u:Nat):0≤NA c h u∧NA c h u≤1048576:=by
 by_cases q:u<c.ak.length
 ·rw [uV h q];exact yT (hc.bus _ (List.getElem_mem q)).2.1 h
 ·unfold NA;rw [List.getElem?_eq_none (by omega)];simp [aR]
theorem Dc {c:ai} (hc:fh c) (h u:Nat): -1048576≤jJ c h u∧jJ c h u≤1048576:=by
 unfold jJ;have:=xO hc h u;omega
theorem A8 {c:ai} (hc:fh c) (h u:Nat): -1048576≤dD c h u∧dD c h u≤1048576:=by
 unfold dD;have:=xO hc h u;split<;>omega
def fD (c:ai) (ks:List KV) (h:Nat):Nat→Int:=fun _=>0
def rC (c:ai) (ks:List KV) (h b:Nat):Int:=fD c ks h b+a_ (ig c) (jy c ks h) c.au.length b
def tF (c:ai) (ks:List KV) (h b:Nat):Int:=rC c ks h b+a_ (jz c) (oZ c) c.stores.length b
def kh (c:ai) (ks:List KV) (h b:Nat):Int:=tF c ks h b+a_ (jW c) (o0 c h) c.aL.length b
def Dd (c:ai) (ks:List KV) (h b:Nat):Int:=kh c ks h b+a_ (fun k=>(k:Int)) (jJ c h) c.ak.length b
def lq (c:ai) (ks:List KV) (h b:Nat):Int:=fD c ks h b+a_ (ig c) (fW c ks h) c.au.length b
def mO (c:ai) (ks:List KV) (h b:Nat):Int:=lq c ks h b+a_ (jz c) (kf c) c.stores.length b
def dK (c:ai) (ks:List KV) (h b:Nat):Int:=mO c ks h b+a_ (jW c) (kg c h) c.aL.length b
def uX (c:ai) (ks:List KV) (h b:Nat):Int:=dK c ks h b+a_ (fun k=>(k:Int)) (dD c h) c.ak.length b
def lr (x:Int):Prop:= -100000000≤x∧x≤100000000
theorem QQ {c:ai} (hc:fh c) (ks:List KV) (h b k:Nat) (hk:k≤c.au.length):lr (fD c ks h b+a_ (ig c) (jy c ks h) k b)∧lr (fD c ks h b+a_ (ig c) (fW c ks h) k b):=by
 have h1:=bV (bus:=ig c) (mi hc ks h) k b;have h2:=bV (bus:=ig c) (kz hc ks h) k b;have:=hc.frame.au;unfold lr fD;omega
theorem QR {c:ai} (hc:fh c) (ks:List KV) (h b k:Nat) (hk:k≤c.stores.length):lr (rC c ks h b+a_ (jz c) (oZ c) k b)∧lr (lq c ks h b+a_ (jz c) (kf c) k b):=by
 have h1:=bV (bus:=ig c) (mi hc ks h) c.au.length b;have h2:=bV (bus:=ig c) (kz hc ks h) c.au.length b;have h3:=bV (bus:=jz c) (o5 hc) k b;have h4:=bV (bus:=jz c) (nw hc) k b;have:=hc.frame.au;have:=hc.frame.stores
 unfold lr rC lq fD;omega
theorem QS {c:ai} (hc:fh c) (ks:List KV) (h b k:Nat) (hk:k≤c.aL.length):lr (tF c ks h b+a_ (jW c) (o0 c h) k b)∧lr (mO c ks h b+a_ (jW c) (kg c h) k b):=by
 have h1:=bV (bus:=ig c) (mi hc ks h) c.au.length b;have h2:=bV (bus:=ig c) (kz hc ks h) c.au.length b;have h3:=bV (bus:=jz c) (o5 hc) c.stores.length b;have h4:=bV (bus:=jz c) (nw hc) c.stores.length b;have h5:=bV (bus:=jW c) (uW hc h) k b;have h6:=bV (bus:=jW c) (sJ hc h) k b;have:=hc.frame.au;have:=hc.frame.stores;have:=hc.frame.aL
 unfold lr tF mO rC lq fD;omega
theorem KZ {c:ai} (hc:fh c) (ks:List KV) (h b k:Nat) (hk:k≤c.ak.length):lr (kh c ks h b+a_ (fun k=>(k:Int)) (jJ c h) k b)∧lr (dK c ks h b+a_ (fun k=>(k:Int)) (dD c h) k b)∧ -90000000≤dK c ks h b+a_ (fun k=>(k:Int)) (dD c h) k b∧dK c ks h b+a_ (fun k=>(k:Int)) (dD c h) k b≤90000000:=by
 have h1:=bV (bus:=ig c) (mi hc ks h) c.au.length b;have h2:=bV (bus:=ig c) (kz hc ks h) c.au.length b;have h3:=bV (bus:=jz c) (o5 hc) c.stores.length b;have h4:=bV (bus:=jz c) (nw hc) c.stores.length b;have h5:=bV (bus:=jW c) (uW hc h) c.aL.length b;have h6:=bV (bus:=jW c) (sJ hc h) c.aL.length b;have h7:=bV (bus:=fun k=>(k:Int)) (Dc hc h) k b;have h8:=bV (bus:=fun k=>(k:Int)) (A8 hc h) k b;have:=hc.frame.au;have:=hc.frame.stores;have:=hc.frame.aL;have:=hc.frame.ak
 unfold lr kh dK tF mO rC lq fD;omega
end Go.Proofs.YtkpngkdgphojlaaGreat
