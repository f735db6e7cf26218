/- Texts of the proof. -/
import Derived.Test.YtkpngkdgphojlaaGreatCf10
import Derived.Test.YtkpngkdgphojlaaGreatCf15
import Derived.Test.YtkpngkdgphojlaaGreatCf16
import Derived.Test.YtkpngkdgphojlaaGreatCf19
set_option linter.all false
set_option maxHeartbeats 1000000
set_option maxRecDepth 100000
namespace Go.Proofs.YtkpngkdgphojlaaGreat
open Go.Proofs.Tryz
open Go.RowKit
def cZ (F:Nat→Int→Int) (e:Int) (n:Nat):Int:=(List.range n).foldl (fun e i=>F i e) e
theorem ee (F:Nat→Int→Int) (e:Int) (n:Nat):cZ F e (n+1)=F n (cZ F e n):=by
 unfold cZ;rw [List.range_succ,List.foldl_append];rfl
theorem iC {F:Nat→Int→Int} (hF: ∀i e,e≠0→F i e=e) {e:Int} (h:e≠0): ∀n,cZ F e n=e
 |0=>rfl
 |n+1=>by rw [ee,iC hF h n,hF n e h]
theorem ir {F:Nat→Int→Int} (hF: ∀i e,e≠0→F i e=e) {e:Int} {i n:Nat} (hi:i≤n) (h:cZ F e i≠0):cZ F e i=cZ F e n:=by
 induction n with
 |zero=>rw [Nat.le_zero.1 hi]
 |succ n ih=>
  by_cases q:i=n+1
  ·rw [q]
  ·rw [ee,←ih (by omega),hF n _ h]
theorem iu {F:Nat→Int→Int} (hF: ∀i e,e≠0→F i e=e) {e:Int} {n:Nat} (h:cZ F e n=0):e=0∧ ∀i,i<n→cZ F e i=0∧F i 0=0:=by
 have key: ∀i,i≤n→cZ F e i=0:=fun i hi=>by
  apply Classical.byContradiction;intro hne;rw [←ir hF hi hne]at h;exact hne h
 refine ⟨by have:=key 0 (Nat.zero_le _);simpa [cZ]using this,fun i hi=>⟨key i (by omega),?_⟩⟩;have h1:=key (i+1) hi;rw [ee,key i (by omega)]at h1;exact h1
def cg {α:Type} (l:List α) (F:α→Nat→Int→Int) (i:Nat) (e:Int):Int:=match l[i]? with|some x=>F x i e|none=>e
theorem iT {α:Type} {l:List α} {F:α→Nat→Int→Int} {i:Nat} (h:i<l.length) (e:Int):cg l F i e=F l[i] i e:=by unfold cg;rw [List.getElem?_eq_getElem h]
theorem dh {α:Type} {l:List α} {F:α→Nat→Int→Int} (hF: ∀x i e,e≠0→F x i e=e) (i:Nat) (e:Int) (h:e≠0):cg l F i e=e:=by
 unfold cg;split
 ·exact hF _ _ _ h
 ·rfl
def tO (c:ai) (x:cN) (prev:List ByteArray) (e:Int):Int:=nd (fZ (iF e x.name prev) c x.cf 0 1048576) (bP 0 1048576 [x.lF]) 3
theorem kN {e:Int} (h:e≠0) (nm:ByteArray) (prev:List ByteArray):iF e nm prev=e:=by unfold iF;simp only [eM h]
theorem qY {e:Int} (h:e≠0) (c:ai) (i:Int):pV e c i=e:=eM h _ _
theorem tP {e:Int} (h:e≠0) (c:ai) (l:List Int) (a b:Int):fZ e c l a b=e:=by unfold fZ;simp only [eM h]
theorem sP {e:Int} (h:e≠0) (c:ai) (l:List Int):nO e c l=e:=by unfold nO;simp only [eM h]
theorem GC {e:Int} (h:e≠0) (x:aK):mF e x=e:=by unfold mF;simp only [eM h]
def sR (c:ai):cN→Nat→Int→Int:=fun x i e=>tO c x ((c.aj.take i).map cN.name) e
def nT (c:ai):aS→Nat→Int→Int:=fun x i e=>qT c x ((c.lines.take i).map aS.name) e
def nU (c:ai):aK→Nat→Int→Int:=fun x i e=>qU c x ((c.aq.take i).map aK.name) e
def kB (c:ai):bG→Nat→Int→Int:=fun x i e=>ng c x ((c.stores.take i).map bG.name) e
def uo (c:ai):dX→Nat→Int→Int:=fun x i e=>zx c x ((c.aB.take i).map dX.name) e
def xk (c:ai):aY→Nat→Int→Int:=fun x i e=>oZ c x ((c.outs.take i).map aY.name) e
theorem qZ (c:ai) (x:cN) (i:Nat) (e:Int) (h:e≠0):sR c x i e=e:=by unfold sR tO;simp only [kN h,tP h,eM h]
theorem sU (c:ai) (x:aS) (i:Nat) (e:Int) (h:e≠0):nT c x i e=e:=by unfold nT qT;simp only [kN h,qY h,sP h,eM h]
theorem o7 (c:ai) (x:aK) (i:Nat) (e:Int) (h:e≠0):nU c x i e=e:=by unfold nU qU;simp only [kN h,qY h,sP h,GC h,eM h]
theorem ni (c:ai) (x:bG) (i:Nat) (e:Int) (h:e≠0):kB c x i e=e:=by unfold kB ng;simp only [kN h,qY h,eM h]
theorem q9 (c:ai) (x:dX) (i:Nat) (e:Int) (h:e≠0):uo c x i e=e:=by unfold uo zx;simp only [kN h,qY h,tP h,eM h]
theorem rf (c:ai) (x:aY) (i:Nat) (e:Int) (h:e≠0):xk c x i e=e:=by unfold xk oZ;simp only [kN h,eM h]
def qc (c:ai) (e:Int):Int:=cZ (cg c.aj (sR c)) e c.aj.length
def nj (c:ai) (e:Int):Int:=cZ (cg c.lines (nT c)) e c.lines.length
def qd (c:ai) (e:Int):Int:=cZ (cg c.aq (nU c)) e c.aq.length
def nk (c:ai) (e:Int):Int:=cZ (cg c.stores (kB c)) e c.stores.length
def vx (c:ai) (e:Int):Int:=cZ (cg c.aB (uo c)) e c.aB.length
def vA (c:ai) (e:Int):Int:=cZ (cg c.outs (xk c)) e c.outs.length
def jW (c:ai) (h:Int):List (Nat×Nat):=(cX c h c.lines.length).map fun i=>((kW c i).1.toNat,(kW c i).2.toNat)
def fH (l:List Nat) (out:List Int):Nat→List Nat
 |0=> []
 |n+1=>if hasB out ((l.getD n 0:Nat):Int)=true then fH l out n++ [n]else fH l out n
theorem sV (l:List Nat) (out:List Int): ∀n,∀k∈fH l out n,k<n
 |0,k,h=>by simp [fH]at h
 |n+1,k,h=>by
  unfold fH at h;split at h
  ·rcases List.mem_append.1 h with h|h
   ·have:=sV l out n k h;omega
   ·rw [List.mem_singleton]at h;omega
  ·have:=sV l out n k h;omega
theorem pL (l:List Nat) (out:List Int): ∀n,(fH l out n).length≤n
 |0=>Nat.le_refl _
 |n+1=>by
  have:=pL l out n;unfold fH;split
  ·rw [List.length_append];simp;exact this
  ·omega
noncomputable def kC (c:ai) (h:Int) (x:aY):Bool:=Ja c.aj.length (jW c h) (dE (fH (cX c h c.lines.length) x.lines (cX c h c.lines.length).length))
noncomputable def mI (c:ai) (h:Nat) (e:Int):Int:=cZ (cg c.outs fun x _ e=>nd e (!kC c h x) 13) e c.outs.length
theorem sZ (c:ai) (h:Nat) (e:Int) (he:e≠0):mI c h e=e:=iC (fun i e h=>dh (fun _ _ _ h=>eM h _ _) i e h) he _
noncomputable def zB (c:ai) (e:Int):Int:=cZ (mI c) e c.hours.toNat
noncomputable def dW (c:ai):Int:=zB c (vA c (vx c (nk c (qd c (nj c (qc c (jq c 0)))))))
theorem vB {e:Int} {c:ai} {l:List Int} (h:nO e c l=0):e=0:=by
 unfold nO at h;exact (bt (by decide) (bt (by decide) h).1).1
theorem iD {e:Int} {c:ai} {l:List Int} {a b:Int} (h:fZ e c l a b=0):e=0∧(l.length:Int)=c.hours∧bP a b l=true:=by
 unfold fZ at h;have h1:=bt (by decide) h;have h2:=bt (by decide) h1.1;exact ⟨h2.1,by simpa using h2.2,h1.2⟩
theorem cD {lo hi x:Int}:bP lo hi [x]=true↔lo≤x∧x≤hi:=by unfold bP;simp
theorem tQ {c:ai} {e:Int}: ∀n,kz c e n=0→e=0
 |0,h=>by simpa [kz]using h
 |n+1,h=>by rw [fM]at h;exact tQ n (bt (by decide) h).1
theorem Bt {c:ai} {e:Int} (h:jq c e=0):1≤c.hours∧c.hours≤24:=by
 unfold jq at h;have h1:=tQ _ h;have h2:=(bt (by decide) h1).1;have h3:=(iD h2).1;exact cD.1 (bt (by decide) h3).2
theorem Dy {c:ai} {x:aS} {i:Nat} {e:Int} (h:nT c x i e=0):(0≤x.cR∧x.cR<c.aj.length)∧(0≤x.kq∧x.kq<c.aj.length):=by
 unfold nT qT at h;have h1:=vB h;have h2:=(bt (by decide) h1).1;have h3:=(bt (by decide) h2).1;have h4:=(bt (by decide) h3).1;have h5:=(bt (by decide) h4).1;have h6:=(bt (by decide) h5).1;have h7:=(bt (by decide) h6).1;unfold pV at h7;have h8:=bt (by decide) h7;have h9:=bt (by decide) h8.1;have a:=cD.1 h8.2;have b:=cD.1 h9.2;exact ⟨by omega,by omega⟩
theorem tR {c:ai} {e:Int} (h:nj c e=0):e=0∧ ∀i (hi:i<c.lines.length),(0≤c.lines[i].cR∧c.lines[i].cR<c.aj.length)∧(0≤c.lines[i].kq∧c.lines[i].kq<c.aj.length):=by
 unfold nj at h;have h1:=iu (fun i e h=>dh (sU c) i e h) h;refine ⟨h1.1,fun i hi=> ?_⟩;have h2:=(h1.2 i hi).2;rw [iT hi]at h2;exact Dy h2
theorem vC {c:ai} (hl: ∀i (hi:i<c.lines.length),(0≤c.lines[i].cR∧c.lines[i].cR<c.aj.length)∧(0≤c.lines[i].kq∧c.lines[i].kq<c.aj.length)) (h:Int):
 (∀p∈jW c h,p.1<c.aj.length∧p.2<c.aj.length)∧gp (iB c (cX c h c.lines.length))=eR (jW c h):=by
 constructor
 ·intro p hp
  obtain ⟨i,hi,rfl⟩:=List.mem_map.1 hp;have jE:=jL c h _ i hi;rw [o0 jE];have:=hl i jE;simp only;omega
 ·unfold gp iB eR jW
  rw [List.map_map,List.map_map];apply List.map_congr_left;intro i hi;have jE:=jL c h _ i hi;have:=hl i jE;simp only [Function.comp,o0 jE];rw [Int.toNat_of_nonneg (by omega),Int.toNat_of_nonneg (by omega)]
theorem vD (c:ai) (h:Int):(jW c h).length=(cX c h c.lines.length).length:=by simp [jW]
theorem Jb {lo hi:Int} {l:List Int}:bP lo hi l=true↔ ∀x∈l,lo≤x∧x≤hi:=by
 unfold bP;simp [List.all_eq_true]
theorem vE {c:ai} {e:Int}: ∀n,kz c e n=0→e=0∧ ∀j,j<n→((dU c ((j:Int)+2)).length:Int)≤mY ((j:Int)+2)
 |0,h=>⟨by simpa [kz]using h,fun j hj=>absurd hj (Nat.not_lt_zero _)⟩
 |n+1,h=>by
  rw [fM]at h;have h1:=bt (by decide) h;have h2:=vE n h1.1;refine ⟨h2.1,fun j hj=> ?_⟩;by_cases q:j=n
  ·subst q;simpa using h1.2
  ·exact h2.2 j (by omega)
structure EZ (c:ai):Prop where
 hours:1≤c.hours∧c.hours≤24
 XO:(c.aA.length:Int)=c.hours
 res:bP 0 1048576 c.aA=true
 aj:1≤c.aj.length∧c.aj.length≤32
 lines:c.lines.length≤64
 aq:c.aq.length≤16
 stores:c.stores.length≤8
 aB:c.aB.length≤8
 outs:c.outs.length≤64
theorem GD {c:ai} {e:Int} (h:jq c e=0):EZ c:=by
 unfold jq at h;have h1:=vE _ h;have h2:=bt (by decide) h1.1;have h3:=iD h2.1;have h4:=cD.1 (bt (by decide) h3.1).2;have h5:=cD.1 h2.2;have m0:=h1.2 0 (by decide);have m1:=h1.2 1 (by decide);have m2:=h1.2 2 (by decide);have m3:=h1.2 3 (by decide);have m4:=h1.2 4 (by decide)
 simp [dU,mY]at m0 m1 m2 m3 m4;exact ⟨h4,h3.2.1,h3.2.2,by omega,by omega,by omega,by omega,by omega,by omega⟩
theorem GF {c:ai} {x:cN} {i:Nat} {e:Int} (h:sR c x i e=0):(x.cf.length:Int)=c.hours∧bP 0 1048576 x.cf=true∧0≤x.lF∧x.lF≤1048576:=by
 unfold sR tO at h;have h1:=bt (by decide) h;have h2:=iD h1.1;exact ⟨h2.2.1,h2.2.2,cD.1 h1.2⟩
theorem td {e:Int} {c:ai} {i:Int} (h:pV e c i=0):e=0∧0≤i∧i<c.aj.length:=by
 unfold pV at h;have h1:=bt (by decide) h;have h2:=cD.1 h1.2;exact ⟨h1.1,by omega,by omega⟩
theorem Dz {e:Int} {x:aK} (h:mF e x=0):e=0∧(x.aU.length:Int)≤8∧x.aU.all jn=true:=by
 unfold mF at h;have h1:=bt (by decide) (bt (by decide) (bt (by decide) h).1).1;have h2:=bt (by decide) h1.1;exact ⟨h2.1,by simpa using h2.2,h1.2⟩
structure Jc (c:ai) (x:aK):Prop where
 cS:0≤x.cS∧x.cS<c.aj.length
 min:0≤x.min∧x.min≤x.max
 max:x.max≤1048576
 aU:(x.aU.length:Int)≤8
 H5:x.aU.all jn=true
 fu:0≤x.fu∧x.fu≤1048576
 fw:0≤x.fw∧x.fw≤1048576
 dv:0≤x.dv∧x.dv≤1048576
 cL:x.min≤x.cL∧x.cL≤x.max
 dx:x.min≤x.dx∧x.dx≤x.max
 fz:0≤x.fz∧x.fz≤24
 dy:0≤x.dy∧x.dy≤24
 startTime:0≤x.startTime∧x.startTime≤24
 dS:0≤x.dS∧x.dS≤1048576
 dz:0≤x.dz∧x.dz≤1048576
 dA:0≤x.dA∧x.dA≤24
 aA:0≤x.aA∧x.aA≤1048576
 bK:0≤x.bK∧x.bK≤1048576
 state:0≤x.state∧x.state≤2
 SB:(x.state !=1||decide (0<x.startTime))=true
 hours:1≤x.hours∧x.hours≤48
 started:(x.state !=1||decide (x.hours≤x.startTime))=true
theorem DA {c:ai} {x:aK} {i:Nat} {e:Int} (h:nU c x i e=0):Jc c x:=by
 unfold nU qU at h;have a1:=bt (by decide) h;have a2:=bt (by decide) a1.1;have a3:=bt (by decide) a2.1;have a4:=bt (by decide) a3.1;have a5:=bt (by decide) a4.1;have a6:=vB a5.1;have b1:=bt (by decide) a6;have b2:=bt (by decide) b1.1;have b3:=bt (by decide) b2.1;have b4:=bt (by decide) b3.1;have b5:=bt (by decide) b4.1;have b6:=bt (by decide) b5.1;have b7:=bt (by decide) b6.1;have b8:=bt (by decide) b7.1;have b9:=bt (by decide) b8.1;have b10:=bt (by decide) b9.1;have b11:=bt (by decide) b10.1;have b12:=bt (by decide) b11.1;have XP:=bt (by decide) b12.1;have d0:=Dz XP.1;have d1:=bt (by decide) d0.1;have d2:=bt (by decide) d1.1;have d3:=td d2.1;have m1:=cD.1 d2.2;have m2:=cD.1 d1.2
 exact ⟨d3.2,by omega,m2.2,d0.2.1,d0.2.2,cD.1 XP.2,cD.1 b12.2,cD.1 b11.2,cD.1 b10.2,cD.1 b9.2,cD.1 b8.2,cD.1 b7.2,cD.1 b6.2,cD.1 b5.2,cD.1 b4.2,cD.1 b3.2,cD.1 b2.2,cD.1 b1.2,cD.1 a5.2,a4.2,cD.1 a3.2,a2.2⟩
structure E4 (c:ai) (x:bG):Prop where
 cS:0≤x.cS∧x.cS<c.aj.length
 capacity:0≤x.capacity∧x.capacity≤1048576
 initial:0≤x.initial∧x.initial≤x.capacity
 final:0≤x.final∧x.final≤x.capacity
 fS:0≤x.fS∧x.fS≤1048576
 discharge:0≤x.discharge∧x.discharge≤1048576
 XQ:((eU x.en x.ed&&decide (0<x.en))&&decide (x.en≤x.ed))=true
theorem Bu {c:ai} {x:bG} {i:Nat} {e:Int} (h:kB c x i e=0):E4 c x:=by
 unfold kB ng at h;have a1:=bt (by decide) h;have a2:=bt (by decide) a1.1;have a3:=bt (by decide) a2.1;have a4:=bt (by decide) a3.1;have a5:=bt (by decide) a4.1;have a6:=bt (by decide) a5.1;have a7:=td a6.1;exact ⟨a7.2,cD.1 a6.2,cD.1 a5.2,cD.1 a4.2,cD.1 a3.2,cD.1 a2.2,a1.2⟩
structure Nb (c:ai) (x:dX):Prop where
 cS:0≤x.cS∧x.cS<c.aj.length
 imp:(x.imp.length:Int)=c.hours∧bP 0 1048576 x.imp=true
 exp:(x.exp.length:Int)=c.hours∧bP 0 1048576 x.exp=true
 aV:(x.aV.length:Int)=c.hours∧bP (-1048576) 1048576 x.aV=true
theorem GG {c:ai} {x:dX} {i:Nat} {e:Int} (h:uo c x i e=0):Nb c x:=by
 unfold uo zx at h;have a1:=iD h;have a2:=iD a1.1;have a3:=iD a2.1;have a4:=td a3.1;exact ⟨a4.2,a3.2,a2.2,a1.2⟩
theorem lh {α:Type} {l:List α} {F:α→Nat→Int→Int} (hF: ∀x i e,e≠0→F x i e=e) {e:Int} (h:cZ (cg l F) e l.length=0):e=0∧ ∀i (hi:i<l.length),F l[i] i 0=0:=by
 have h1:=iu (fun i e h=>dh hF i e h) h;refine ⟨h1.1,fun i hi=> ?_⟩;have h2:=(h1.2 i hi).2;rw [iT hi]at h2;exact h2
structure OD (c:ai):Prop where
 frame:EZ c
 cS: ∀x∈c.aj,(x.cf.length:Int)=c.hours∧bP 0 1048576 x.cf=true∧0≤x.lF∧x.lF≤1048576
 line: ∀i (hi:i<c.lines.length),(0≤c.lines[i].cR∧c.lines[i].cR<c.aj.length)∧(0≤c.lines[i].kq∧c.lines[i].kq<c.aj.length)
 unit: ∀x∈c.aq,Jc c x
 store: ∀x∈c.stores,E4 c x
 tie: ∀x∈c.aB,Nb c x
theorem LA {c:ai} (h7:vA c (vx c (nk c (qd c (nj c (qc c (jq c 0))))))=0):OD c:=by
 have h6:=lh (rf c) h7;have h5:=lh (q9 c) h6.1;have h4:=lh (ni c) h5.1;have h3:=lh (o7 c) h4.1;have h2:=tR (c:=c) h3.1;have h1:=lh (qZ c) h2.1;refine ⟨GD h1.1,?_,h2.2,?_,?_,?_⟩
 ·intro x hx
  obtain ⟨i,hi,rfl⟩:=List.getElem_of_mem hx;exact GF (h1.2 i hi)
 ·intro x hx
  obtain ⟨i,hi,rfl⟩:=List.getElem_of_mem hx;exact DA (h3.2 i hi)
 ·intro x hx
  obtain ⟨i,hi,rfl⟩:=List.getElem_of_mem hx;exact Bu (h4.2 i hi)
 ·intro x hx
  obtain ⟨i,hi,rfl⟩:=List.getElem_of_mem hx;exact GG (h5.2 i hi)
theorem GH (w0 V:World) (c:ai) (h:Int) (hV:Ext w0 V) (hc:a_ w0 c) (hn:c.lines.length≤1000000):
 Calls prog 148 #[.agg (C8 c),i64 h] V fun e w'=> ∃a cap,e= .returned (.slice a (cX c h c.lines.length).length cap)∧aI w' a cap (dE (cX c h c.lines.length))∧Ext V w'∧Fr V.heap.size a:=by
 try unfold C8
 have hr:=hc.lines;have hle:=hr.le;have dQ:=hr.cap
 rw [List.length_map]at hle;have HR:=ae hr;have HV:=ae hV;have HN:=ae hn;have Hz:=ae hc.line
 clear hc hr hV hn;go_enter func148,ntmps148
 go_upto_region 1 with fail
 obtain ⟨W,hW,x0,Z0,A0⟩:=aX V 32 c.cells;rw [show V.alloc (.cells (C8 c) 32)=W from hW.symm];clear hW;have HX:=ae x0;obtain ⟨B,hB⟩: ∃B,B=V.heap.size:=⟨_,rfl⟩;rw [←hB]at A0⊢;obtain ⟨-,-,-,k3,-⟩:=ai.at A0;have EN:=ae hB;clear A0 x0 Z0 hB;go_wp2_with fail
 clear k3;go_loopw [5,11] (fun v ii wr=> ∃i:Nat,i≤c.lines.length∧aJ wr W.heap.size 3 1 v (gh (cX c h i))∧Ext W wr∧ii= .int .i64 i) (fun _ ii _=>c.lines.length-(intOf ii).toNat)
 case atStart=>exact ⟨0,Nat.zero_le _,aJ.nil _ _ _ _,Ext.refl _,rfl⟩
 case round=>
  obtain ⟨i,hi,hown,hE,rfl⟩:=hrel;have HO:=ae hown;clear hown;by_cases hlt:i<c.lines.length
  ·obtain ⟨b,o,ha,c0,c1,c2,c3,c4,c5,c6,c7,c8,c9,c10,c11⟩:=((HR.o.ext HV.o).ext (HX.o.trans hE)).lines i hlt
   have Qa:=(Hz.o c.lines[i] (List.getElem_mem hlt)).2.1;have HST:=ae (tJ c h i);rw [yh hlt]at HST;obtain ⟨x,uj⟩: ∃x,x=c.lines[i]:=⟨_,rfl⟩;rw [←uj]at c0 c1 c2 c3 c4 c5 c6 c7 c8 c9 c10 c11 Qa HST;have HLEN:=ae (iQ c h i);generalize cX c h i=l at*;have jS:(0:Int)≤(i:Int):=by omega
   have jI:(i:Int)<(c.lines.length:Int):=by omega
   have HE:=ae hE;have SC:=ae ((Qa.ext HV.o).ext (HX.o.trans hE));clear hE Qa uj;rw [ha];go_upto_region 5 with fail
   obtain ⟨W1,hW1,x1,Z1,A1⟩:=aX wr 78 x.cells;rw [show wr.alloc (.cells #[.string x.name,i64 x.cR,i64 x.kq,i64 x.rn,i64 x.rd,i64 x.qD,i64 x.uf,i64 x.sk,i64 x.wI,i64 x.cY,i64 x.jH,.slice x.aa x.away.length x.ac] 78)=W1 from hW1.symm];clear hW1 c0 c1 c2 c3 c4 c5 c6 c7 c8 c9 c10 c11;obtain ⟨E,nP⟩: ∃E,E=wr.heap.size:=⟨_,rfl⟩;rw [←nP]at A1⊢;obtain ⟨-,-,-,-,-,-,-,-,-,-,-,c11⟩:=aS.at A1;have mE:=ae (tI W1 _ _ _ h (SC.o.ext x1));have mr:=ae (HE.o.trans x1);have wJ:=mr.o.size;have eE:=ae x1;clear A1 Z1 x1 nP SC HE;rcases Bool.eq_false_or_eq_true (hasB x.away h)with hq|hq
   ·rw [hq]at mE HST
    clear hq;go_wp2_with fail
    refine mE.o.mono ?_;rintro e w1 ⟨rfl,gH⟩;rw [gH];clear gH
    have o6:=ae (HO.o.ext eE.o);go_wp2_with fail
    exact ⟨⟨i+1,by omega,by rw [HST.o];simpa using o6.o,mr.o,by go_num⟩,by simp only [intOf];omega⟩
   ·rw [hq]at mE HST
    clear hq
    have HOW:Hid (wr.ownsRow W.heap.size 3 1 u5 l.length (gh l).flatten):=by
     have h5:=HO.o.own;rw [d_]at h5;exact h5
    have XR:=ae (bW HOW.o eE.o);go_wp2_with fail
    refine mE.o.mono ?_;rintro e w1 ⟨rfl,gH⟩;rw [gH];clear gH
    go_wp2_with (at_builtin;refine bn _ rfl (.tmp 21) (.tmp 23) 22 rfl W.heap.size 3 (.int .i64 0) 1 8 underlying22 Tryz.info_int rfl (by decide) u5 l.length (gh l).flatten rfl ?c1 (some ⟨W1.heap.size,0,none⟩) 1 1 [i64 (i:Int)] rfl rfl ?c2 ?c3 ?c4 ?c5 (by decide) ?c6 ?_;rotate_right;intro v1 w5 ho he hb hz hv)
    case c1=>exact bW XR.o ((Ext.refl _).alloc _)
    case c2=>exact fun _=>⟨_,rfl,dD W1 3 [i64 (i:Int)]⟩
    case c3=>intro u hu;rw [List.mem_singleton]at hu;subst hu;rfl
    case c4=>intro e;cases e
    case c5=>have:=HN.o;have:=HLEN.o;omega
    case c6=>have:=wJ;simp;omega
    have x5:Ext W w5:=he.o W (mr.o.alloc _) (Nat.le_refl _);have kF:=(HO.o.ext eE.o).snoc (w':=w5) (v':=v1) (r:= [i64 (i:Int)]) rfl (by rw [d_];exact ho.o);rw [←mZ]at kF;exact ⟨⟨i+1,by omega,by rw [HST.o];simpa using kF,x5,by go_num⟩,by simp only [intOf];omega⟩
  ·obtain rfl:i=c.lines.length:=by omega
   obtain ⟨a,cap,rfl,hS,jm⟩:=HO.o.recs (by decide);rw [d_];rw [m_]at hS;have HI:=ae (aI.ov hS (ow (jL c h _) (by omega)));have qH:=ae jm;clear hS jm HO;go_wp2_with fail
   go_ret;exact ⟨a,cap,rfl,HI.o,HX.o.trans hE,qH.o.mono HX.o.size⟩
def lp (c:ai) (i:Nat):Nat×Nat:=((kW c i).1.toNat,(kW c i).2.toNat)
def kept (c:ai) (l:List Nat) (gone:List Int) (k:Nat):List (Nat×Nat):=((l.take k).filter fun(i:Nat)=> !hasB gone (i:Int)).map (lp c)
theorem o8 (c:ai) (l:List Nat) (gone:List Int) {k:Nat} (h:k<l.length):kept c l gone (k+1)=if hasB gone (l[k]:Int)=true then kept c l gone k else kept c l gone k++ [lp c l[k]]:=by
 unfold kept;rw [List.take_succ_eq_append_getElem h,List.filter_append];cases q:hasB gone (l[k]:Int)<;>simp [q]
theorem Jd (v:Int):hasB [] v=false:=rfl
theorem Bv (a b:List Int) (v:Int):hasB (a++b) v=(hasB a v||hasB b v):=by unfold hasB;rw [List.any_append]
theorem oB (l:List Nat) (out:List Int) (m:Nat): ∀N,hasB (dE (fH l out N)) (m:Int)=(decide (m<N)&&hasB out ((l.getD m 0:Nat):Int))
 |0=>by simp [fH,dE,hasB]
 |N+1=>by
  unfold fH;by_cases q:hasB out ((l.getD N 0:Nat):Int)=true
  ·rw [if_pos q]
   have h1:dE (fH l out N++ [N])=dE (fH l out N)++ [(N:Int)]:=by simp [dE]
   rw [h1,Bv,oB l out m N];by_cases hm:m=N
   ·subst hm
    rw [q];simp [hasB]
   ·have h2:hasB [(N:Int)] (m:Int)=false:=by simp [hasB];omega
    have h3:decide (m<N+1)=decide (m<N):=by rw [Bool.eq_iff_iff];simp;omega
    rw [h2,h3,Bool.or_false]
  ·rw [if_neg q,oB l out m N]
   by_cases hm:m=N
   ·subst hm
    have q':hasB out ((l.getD m 0:Nat):Int)=false:=by simpa using q
    rw [q'];simp
   ·have h3:decide (m<N+1)=decide (m<N):=by rw [Bool.eq_iff_iff];simp;omega
    rw [h3]
theorem yv (c:ai) (l:List Nat) (out:List Int): ∀m,m≤l.length→ki (l.map (lp c)) (dE (fH l out l.length)) m=kept c l out m
 |0,_=>rfl
 |m+1,h=>by
  unfold ki;rw [yv c l out m (by omega),oB,o8 c l out (show m<l.length by omega)];have h1:l.getD m 0=l[m]:=by rw [List.getD_eq_getElem?_getD,List.getElem?_eq_getElem (by omega)];rfl
  have h2:(l.map (lp c)).getD m (0,0)=lp c l[m]:=by
   rw [List.getD_eq_getElem?_getD,List.getElem?_eq_getElem (by rw [List.length_map];omega)];simp
  have h3:decide (m<l.length)=true:=by simp;omega
  rw [h1,h2,h3,Bool.true_and]
theorem Je (c:ai) (l:List Nat):kept c l [] l.length=l.map (lp c):=by
 unfold kept;rw [List.take_length,List.filter_eq_self.2 (fun i _=>by rw [Jd];rfl)]
theorem zC (c:ai) (h:Int) (x:aY):
 (((comps c.aj.length (kept c (cX c h c.lines.length) x.lines (cX c h c.lines.length).length):Nat):Int)==((comps c.aj.length (kept c (cX c h c.lines.length) [] (cX c h c.lines.length).length):Nat):Int))= !kC c h x:=by
 unfold kC Ja jW;obtain ⟨l,hl⟩: ∃l,l=cX c h c.lines.length:=⟨_,rfl⟩;rw [←hl];have he:(l.map fun i=>((kW c i).1.toNat,(kW c i).2.toNat))=l.map (lp c):=rfl;rw [he,List.length_map,yv c l x.lines l.length (Nat.le_refl _),Je]
 have hle:comps c.aj.length (l.map (lp c))≤comps c.aj.length (kept c l x.lines l.length):=by
  apply Dw;intro p hp;unfold kept at hp;obtain ⟨i,hi,rfl⟩:=List.mem_map.1 hp;exact List.mem_map_of_mem (List.mem_of_mem_take (List.mem_filter.1 hi).1)
 rw [Bool.eq_iff_iff];simp only [beq_iff_eq,Bool.not_eq_true',decide_eq_false_iff_not];omega
structure gi (c:ai) (n:Nat) (l:List Nat) (gone:List Int) (k:Nat) (f:Nat→Nat):Prop where
 tells:lg n (kept c l gone k) f
 lt: ∀b,b<n→f b<n
theorem gi.zero (c:ai) (n:Nat) (l:List Nat) (gone:List Int):gi c n l gone 0 (fun b=>b):=⟨lg.nil n,fun _ h=>h⟩
theorem OE (n:Nat):cls (fun b=>b) n=n:=by
 induction n with
 |zero=>rfl
 |succ n ih=>
  rw [qV,ih,if_pos];rw [gJ];intro k hk;omega
theorem gi.same {c:ai} {n:Nat} {l:List Nat} {gone:List Int} {k:Nat} {f:Nat→Nat} (h:gi c n l gone k f) (hk:k<l.length) (hx:(lp c l[k]).1<n) (hy:(lp c l[k]).2<n) (e:f (lp c l[k]).1=f (lp c l[k]).2):gi c n l gone (k+1) f:=by
 refine ⟨?_,h.lt⟩;rw [o8 c l gone hk];split
 ·exact h.tells
 ·exact h.tells.skip hx hy e
theorem gi.gone {c:ai} {n:Nat} {l:List Nat} {gone:List Int} {k:Nat} {f:Nat→Nat} (h:gi c n l gone k f) (hk:k<l.length) (e:hasB gone (l[k]:Int)=true):gi c n l gone (k+1) f:=by
 refine ⟨?_,h.lt⟩;rw [o8 c l gone hk,if_pos e];exact h.tells
theorem gi.join {c:ai} {n:Nat} {l:List Nat} {gone:List Int} {k:Nat} {f:Nat→Nat} (h:gi c n l gone k f) (hk:k<l.length) (hx:(lp c l[k]).1<n) (hy:(lp c l[k]).2<n) (e:f (lp c l[k]).1≠f (lp c l[k]).2) (g:hasB gone (l[k]:Int)=false):
 gi c n l gone (k+1) (merge f (f (lp c l[k]).1) (f (lp c l[k]).2))∧cls (merge f (f (lp c l[k]).1) (f (lp c l[k]).2)) n+1=cls f n:=by
 refine ⟨⟨?_,?_⟩,lg.Dv hx hy e⟩
 ·rw [o8 c l gone hk,if_neg (by rw [g];simp)]
  exact h.tells.join hx hy e
 ·intro b hb
  unfold merge;split
  ·exact h.lt _ hx
  ·exact h.lt b hb
end Go.Proofs.YtkpngkdgphojlaaGreat
