/- Texts of the proof. -/
import Derived.Test.YtfokdakioeoniaaGreatCj28
import Derived.Test.YtfokdakioeoniaaGreatCj30
set_option linter.all false
set_option maxHeartbeats 4000000
set_option maxRecDepth 100000
namespace Go.Proofs.YtfokdakioeoniaaGreat
open Go.Proofs.Tryz
open Go.RowKit
def dX (F:Nat->Int->Int) (e:Int) (n:Nat):Int:=(List.range n).foldl (λe i=>F i e) e
theorem fF (F:Nat->Int->Int) (e:Int) (n:Nat):dX F e (n+1)=F n (dX F e n):=by
 unfold dX;rw [List.range_succ,List.foldl_append];rfl
theorem jM {F:Nat->Int->Int} (hF: ∀i e,e≠0->F i e=e) {e:Int} (h:e≠0): ∀n,dX F e n=e
 |0=>rfl
 |n+1=>by rw [fF,jM hF h n,hF n e h]
theorem jC {F:Nat->Int->Int} (hF: ∀i e,e≠0->F i e=e) {e:Int} {i n:Nat} (hi:i<=n) (h:dX F e i≠0):dX F e i=dX F e n:=by
 induction n with
 |zero=>rw [Nat.le_zero.1 hi]
 |succ n ih=>
  by_cases q:i=n+1
  .rw [q]
  .rw [fF,<-ih ae,hF n _ h]
theorem ir {F:Nat->Int->Int} (hF: ∀i e,e≠0->F i e=e) {e:Int} {n:Nat} (h:dX F e n=0):e=0/\ ∀i,i<n->dX F e i=0/\F i 0=0:=by
 have key: ∀i,i<=n->dX F e i=0:=λi hi=>by
  apply Classical.byContradiction;intro hne;rw [<-jC hF hi hne]at h;exact hne h
 refine ⟨by have:=key 0 bm;simpa [dX]using this,λi hi=>⟨key i ae,?_⟩⟩;have h1:=key (i+1) hi;rw [fF,key i ae]at h1;exact h1
def cN {α:Type} (l:List α) (F:α->Nat->Int->Int) (i:Nat) (e:Int):Int:=match l[i]? with|some x=>F x i e|none=>e
theorem kK {α:Type} {l:List α} {F:α->Nat->Int->Int} {i:Nat} (h:i<l.length) (e:Int):cN l F i e=F l[i] i e:=by unfold cN;rw [List.getElem?_eq_getElem h]
theorem dS {α:Type} {l:List α} {F:α->Nat->Int->Int} (hF: ∀x i e,e≠0->F x i e=e) (i:Nat) (e:Int) (h:e≠0):cN l F i e=e:=by
 unfold cN;split
 .exact hF _ _ _ h
 .rfl
def Cw (c:aq) (x:iQ) (prev:List ByteArray) (e:Int):Int:=nd (jq (nA e x.name prev) c x.eE 0 1048576) (cJ 0 1048576 [x.er]) 3
theorem na {e:Int} (h:e≠0) (nm:ByteArray) (prev:List ByteArray):nA e nm prev=e:=by unfold nA;simp only [fZ h]
theorem vg {e:Int} (h:e≠0) (c:aq) (i:Int):vT e c i=e:=fZ h _ _
theorem xG {e:Int} (h:e≠0) (c:aq) (l:List Int) (a b:Int):jq e c l a b=e:=by unfold jq;simp only [fZ h]
theorem vZ {e:Int} (h:e≠0) (c:aq) (l:List Int):tG e c l=e:=by unfold tG;simp only [fZ h]
theorem Mj {e:Int} (h:e≠0) (x:cw):rk e x=e:=by unfold rk;simp only [fZ h]
def v_ (c:aq):iQ->Nat->Int->Int:=λx i e=>Cw c x ((c.ar.take i).map iQ.name) e
def qu (c:aq):cX->Nat->Int->Int:=λx i e=>zY c x ((c.lines.take i).map cX.name) e
def qw (c:aq):cw->Nat->Int->Int:=λx i e=>z_ c x ((c.ay.take i).map cw.name) e
def mH (c:aq):cI->Nat->Int->Int:=λx i e=>ui c x ((c.stores.take i).map cI.name) e
def yy (c:aq):gY->Nat->Int->Int:=λx i e=>IW c x ((c.bF.take i).map gY.name) e
def yz (c:aq):ee->Nat->Int->Int:=λx i e=>pS c x ((c.outs.take i).map ee.name) e
theorem vh (c:aq) (x:iQ) (i:Nat) (e:Int) (h:e≠0):v_ c x i e=e:=by unfold v_ Cw;simp only [na h,xG h,fZ h]
theorem wh (c:aq) (x:cX) (i:Nat) (e:Int) (h:e≠0):qu c x i e=e:=by unfold qu zY;simp only [na h,vg h,vZ h,fZ h]
theorem sA (c:aq) (x:cw) (i:Nat) (e:Int) (h:e≠0):qw c x i e=e:=by unfold qw z_;simp only [na h,vg h,vZ h,Mj h,fZ h]
theorem pX (c:aq) (x:cI) (i:Nat) (e:Int) (h:e≠0):mH c x i e=e:=by unfold mH ui;simp only [na h,vg h,fZ h]
theorem vk (c:aq) (x:gY) (i:Nat) (e:Int) (h:e≠0):yy c x i e=e:=by unfold yy IW;simp only [na h,vg h,xG h,fZ h]
theorem rC (c:aq) (x:ee) (i:Nat) (e:Int) (h:e≠0):yz c x i e=e:=by unfold yz pS;simp only [na h,fZ h]
def wj (c:aq) (e:Int):Int:=dX (cN c.ar (v_ c)) e c.ar.length
def rF (c:aq) (e:Int):Int:=dX (cN c.lines (qu c)) e c.lines.length
def wk (c:aq) (e:Int):Int:=dX (cN c.ay (qw c)) e c.ay.length
def sB (c:aq) (e:Int):Int:=dX (cN c.stores (mH c)) e c.stores.length
def Cx (c:aq) (e:Int):Int:=dX (cN c.bF (yy c)) e c.bF.length
def Cy (c:aq) (e:Int):Int:=dX (cN c.outs (yz c)) e c.outs.length
def lV (c:aq) (h:Int):List (Nat×Nat):=(cK c h c.lines.length).map λi=>((nD c i).1.toNat,(nD c i).2.toNat)
def gT (l:List Nat) (out:List Int):Nat->List Nat
 |0=> []
 |n+1=>if hasB out ((l.getD n 0:Nat):Int)=true then gT l out n++ [n]else gT l out n
theorem wm (l:List Nat) (out:List Int): ∀n,∀k∈gT l out n,k<n
 |0,k,h=>by simp [gT]at h
 |n+1,k,h=>by
  unfold gT at h;split at h
  .rcases List.mem_append.1 h with h|h
   .have:=wm l out n k h;omega
   .rw [List.mem_singleton]at h;omega
  .have:=wm l out n k h;omega
theorem tN (l:List Nat) (out:List Int): ∀n,(gT l out n).length<=n
 |0=>cG
 |n+1=>by
  have:=tN l out n;unfold gT;split
  .rw [List.length_append];simp;exact this
  .omega
noncomputable def mI (c:aq) (h:Int) (x:ee):Bool:=O3 c.ar.length (lV c h) (cU (gT (cK c h c.lines.length) x.lines (cK c h c.lines.length).length))
noncomputable def o9 (c:aq) (h:Nat) (e:Int):Int:=dX (cN c.outs λx _ e=>nd e (!mI c h x) 13) e c.outs.length
theorem o_ (c:aq) (h:Nat) (e:Int) (he:e≠0):o9 c h e=e:=jM (λi e h=>dS (λ_ _ _ h=>fZ h _ _) i e h) he _
noncomputable def wu (c:aq) (e:Int):Int:=dX (o9 c) e c.hours.toNat
noncomputable def cC (c:aq):Int:=wu c (Cy c (Cx c (sB c (wk c (rF c (wj c (mE c 0)))))))
theorem Ae {e:Int} {c:aq} {l:List Int} (h:tG e c l=0):e=0:=by
 unfold tG at h;exact (bN ai (bN ai h).1).1
theorem jN {e:Int} {c:aq} {l:List Int} {a b:Int} (h:jq e c l a b=0):e=0/\(l.length:Int)=c.hours/\cJ a b l=true:=by
 unfold jq at h;have h1:=bN ai h;have h2:=bN ai h1.1;exact ⟨h2.1,by simpa using h2.2,h1.2⟩
theorem cQ {lo hi x:Int}:cJ lo hi [x]=true↔lo<=x/\x<=hi:=by unfold cJ;simp
theorem xH {c:aq} {e:Int}: ∀n,nC c e n=0->e=0
 |0,h=>by simpa [nC]using h
 |n+1,h=>by rw [iM]at h;exact xH n (bN ai h).1
theorem Gd {c:aq} {e:Int} (h:mE c e=0):1<=c.hours/\c.hours<=24:=by
 unfold mE at h;have h1:=xH _ h;have h2:=(bN ai h1).1;have h3:=(jN h2).1;exact cQ.1 (bN ai h3).2
theorem I9 {c:aq} {x:cX} {i:Nat} {e:Int} (h:qu c x i e=0):(0<=x.fQ/\x.fQ<c.ar.length)/\(0<=x.qZ/\x.qZ<c.ar.length):=by
 unfold qu zY at h;have h1:=Ae h;have h2:=(bN ai h1).1;have h3:=(bN ai h2).1;have h4:=(bN ai h3).1;have h5:=(bN ai h4).1;have h6:=(bN ai h5).1;have h7:=(bN ai h6).1;unfold vT at h7;have h8:=bN ai h7;have h9:=bN ai h8.1;have a:=cQ.1 h8.2;have b:=cQ.1 h9.2;exact ⟨ae,ae⟩
theorem xI {c:aq} {e:Int} (h:rF c e=0):e=0/\ ∀i (hi:i<c.lines.length),(0<=c.lines[i].fQ/\c.lines[i].fQ<c.ar.length)/\(0<=c.lines[i].qZ/\c.lines[i].qZ<c.ar.length):=by
 unfold rF at h;have h1:=ir (λi e h=>dS (wh c) i e h) h;refine ⟨h1.1,λi hi=> ?_⟩;have h2:=(h1.2 i hi).2;rw [kK hi]at h2;exact I9 h2
theorem Ag {c:aq} (hl: ∀i (hi:i<c.lines.length),(0<=c.lines[i].fQ/\c.lines[i].fQ<c.ar.length)/\(0<=c.lines[i].qZ/\c.lines[i].qZ<c.ar.length)) (h:Int):
 (∀p∈lV c h,p.1<c.ar.length/\p.2<c.ar.length)/\iF (jL c (cK c h c.lines.length))=gb (lV c h):=by
 constructor
 .intro p hp
  obtain ⟨i,hi,rfl⟩:=List.mem_map.1 hp;have gu:=lu c h _ i hi;rw [sw gu];have:=hl i gu;simp only;omega
 .unfold iF jL gb lV
  rw [List.map_map,List.map_map];apply List.map_congr_left;intro i hi;have gu:=lu c h _ i hi;have:=hl i gu;simp only [Function.comp,sw gu];rw [Int.toNat_of_nonneg ae,Int.toNat_of_nonneg ae]
theorem Ah (c:aq) (h:Int):(lV c h).length=(cK c h c.lines.length).length:=by simp [lV]
theorem vn {lo hi:Int} {l:List Int}:cJ lo hi l=true↔ ∀x∈l,lo<=x/\x<=hi:=by
 unfold cJ;simp [List.all_eq_true]
theorem yT {lo hi:Int} {l:List Int} (h:cJ lo hi l=true) (i:Nat) (hi':i<l.length):lo<=kE l i/\kE l i<=hi:=by
 rw [gh hi'];exact vn.1 h _ (List.getElem_mem hi')
theorem Ai {c:aq} {e:Int}: ∀n,nC c e n=0->e=0/\ ∀j,j<n->((fo c ((j:Int)+2)).length:Int)<=uh ((j:Int)+2)
 |0,h=>⟨by simpa [nC]using h,λj hj=>absurd hj (Nat.not_lt_zero _)⟩
 |n+1,h=>by
  rw [iM]at h;have h1:=bN ai h;have h2:=Ai n h1.1;refine ⟨h2.1,λj hj=> ?_⟩;by_cases q:j=n
  .subst q;simpa using h1.2
  .exact h2.2 j ae
structure Kp (c:aq):Prop where
 hours:1<=c.hours/\c.hours<=24
 acn:(c.bC.length:Int)=c.hours
 res:cJ 0 1048576 c.bC=true
 ar:1<=c.ar.length/\c.ar.length<=32
 lines:c.lines.length<=64
 ay:c.ay.length<=16
 stores:c.stores.length<=8
 bF:c.bF.length<=8
 outs:c.outs.length<=64
theorem Mk {c:aq} {e:Int} (h:mE c e=0):Kp c:=by
 unfold mE at h;have h1:=Ai _ h;have h2:=bN ai h1.1;have h3:=jN h2.1;have h4:=cQ.1 (bN ai h3.1).2;have h5:=cQ.1 h2.2;have m0:=h1.2 0 ai;have m1:=h1.2 1 ai;have m2:=h1.2 2 ai;have m3:=h1.2 3 ai;have m4:=h1.2 4 ai
 simp [fo,uh]at m0 m1 m2 m3 m4;exact ⟨h4,h3.2.1,h3.2.2,ae,ae,ae,ae,ae,ae⟩
theorem Ml {c:aq} {x:iQ} {i:Nat} {e:Int} (h:v_ c x i e=0):(x.eE.length:Int)=c.hours/\cJ 0 1048576 x.eE=true/\0<=x.er/\x.er<=1048576:=by
 unfold v_ Cw at h;have h1:=bN ai h;have h2:=jN h1.1;exact ⟨h2.2.1,h2.2.2,cQ.1 h1.2⟩
theorem wC {e:Int} {c:aq} {i:Int} (h:vT e c i=0):e=0/\0<=i/\i<c.ar.length:=by
 unfold vT at h;have h1:=bN ai h;have h2:=cQ.1 h1.2;exact ⟨h1.1,ae,ae⟩
theorem I_ {e:Int} {x:cw} (h:rk e x=0):e=0/\(x.bR.length:Int)<=8/\x.bR.all mg=true:=by
 unfold rk at h;have h1:=bN ai (bN ai (bN ai h).1).1;have h2:=bN ai h1.1;exact ⟨h2.1,by simpa using h2.2,h1.2⟩
structure O8 (c:aq) (x:cw):Prop where
 fc:0<=x.fc/\x.fc<c.ar.length
 min:0<=x.min/\x.min<=x.max
 max:x.max<=1048576
 bR:(x.bR.length:Int)<=8
 seg:x.bR.all mg=true
 mA:0<=x.mA/\x.mA<=1048576
 mB:0<=x.mB/\x.mB<=1048576
 iW:0<=x.iW/\x.iW<=1048576
 gV:x.min<=x.gV/\x.gV<=x.max
 iX:x.min<=x.iX/\x.iX<=x.max
 mC:0<=x.mC/\x.mC<=24
 iY:0<=x.iY/\x.iY<=24
 startTime:0<=x.startTime/\x.startTime<=24
 j_:0<=x.j_/\x.j_<=1048576
 iZ:0<=x.iZ/\x.iZ<=1048576
 ja:0<=x.ja/\x.ja<=24
 bC:0<=x.bC/\x.bC<=1048576
 ez:0<=x.ez/\x.ez<=1048576
 state:0<=x.state/\x.state<=2
 Ye:(x.state !=1||decide (0<x.startTime))=true
 hours:1<=x.hours/\x.hours<=48
 started:(x.state !=1||decide (x.hours<=x.startTime))=true
theorem I' {c:aq} {x:cw} {i:Nat} {e:Int} (h:qw c x i e=0):O8 c x:=by
 unfold qw z_ at h;have a1:=bN ai h;have a2:=bN ai a1.1;have a3:=bN ai a2.1;have a4:=bN ai a3.1;have a5:=bN ai a4.1;have a6:=Ae a5.1;have b1:=bN ai a6;have b2:=bN ai b1.1;have b3:=bN ai b2.1;have b4:=bN ai b3.1;have b5:=bN ai b4.1;have b6:=bN ai b5.1;have b7:=bN ai b6.1;have b8:=bN ai b7.1;have b9:=bN ai b8.1;have b10:=bN ai b9.1;have b11:=bN ai b10.1;have b12:=bN ai b11.1;have b13:=bN ai b12.1;have d0:=I_ b13.1;have d1:=bN ai d0.1;have d2:=bN ai d1.1;have d3:=wC d2.1;have m1:=cQ.1 d2.2;have m2:=cQ.1 d1.2
 exact ⟨d3.2,ae,m2.2,d0.2.1,d0.2.2,cQ.1 b13.2,cQ.1 b12.2,cQ.1 b11.2,cQ.1 b10.2,cQ.1 b9.2,cQ.1 b8.2,cQ.1 b7.2,cQ.1 b6.2,cQ.1 b5.2,cQ.1 b4.2,cQ.1 b3.2,cQ.1 b2.2,cQ.1 b1.2,cQ.1 a5.2,a4.2,cQ.1 a3.2,a2.2⟩
structure Kq (c:aq) (x:cI):Prop where
 fc:0<=x.fc/\x.fc<c.ar.length
 capacity:0<=x.capacity/\x.capacity<=1048576
 initial:0<=x.initial/\x.initial<=x.capacity
 final:0<=x.final/\x.final<=x.capacity
 cB:0<=x.cB/\x.cB<=1048576
 discharge:0<=x.discharge/\x.discharge<=1048576
 eff:((jX x.en x.ed&&decide (0<x.en))&&decide (x.en<=x.ed))=true
theorem Ge {c:aq} {x:cI} {i:Nat} {e:Int} (h:mH c x i e=0):Kq c x:=by
 unfold mH ui at h;have a1:=bN ai h;have a2:=bN ai a1.1;have a3:=bN ai a2.1;have a4:=bN ai a3.1;have a5:=bN ai a4.1;have a6:=bN ai a5.1;have a7:=wC a6.1;exact ⟨a7.2,cQ.1 a6.2,cQ.1 a5.2,cQ.1 a4.2,cQ.1 a3.2,cQ.1 a2.2,a1.2⟩
structure Th (c:aq) (x:gY):Prop where
 fc:0<=x.fc/\x.fc<c.ar.length
 imp:(x.imp.length:Int)=c.hours/\cJ 0 1048576 x.imp=true
 exp:(x.exp.length:Int)=c.hours/\cJ 0 1048576 x.exp=true
 gm:(x.gm.length:Int)=c.hours/\cJ (-1048576) 1048576 x.gm=true
theorem Mm {c:aq} {x:gY} {i:Nat} {e:Int} (h:yy c x i e=0):Th c x:=by
 unfold yy IW at h;have a1:=jN h;have a2:=jN a1.1;have a3:=jN a2.1;have a4:=wC a3.1;exact ⟨a4.2,a3.2,a2.2,a1.2⟩
theorem lB {α:Type} {l:List α} {F:α->Nat->Int->Int} (hF: ∀x i e,e≠0->F x i e=e) {e:Int} (h:dX (cN l F) e l.length=0):e=0/\ ∀i (hi:i<l.length),F l[i] i 0=0:=by
 have h1:=ir (λi e h=>dS hF i e h) h;refine ⟨h1.1,λi hi=> ?_⟩;have h2:=(h1.2 i hi).2;rw [kK hi]at h2;exact h2
structure Ja (c:aq):Prop where
 frame:Kp c
 fc: ∀x∈c.ar,(x.eE.length:Int)=c.hours/\cJ 0 1048576 x.eE=true/\0<=x.er/\x.er<=1048576
 line: ∀i (hi:i<c.lines.length),(0<=c.lines[i].fQ/\c.lines[i].fQ<c.ar.length)/\(0<=c.lines[i].qZ/\c.lines[i].qZ<c.ar.length)
 unit: ∀x∈c.ay,O8 c x
 store: ∀x∈c.stores,Kq c x
 tie: ∀x∈c.bF,Th c x
theorem Kr {c:aq} (h7:Cy c (Cx c (sB c (wk c (rF c (wj c (mE c 0))))))=0):Ja c:=by
 have h6:=lB (rC c) h7;have h5:=lB (vk c) h6.1;have h4:=lB (pX c) h5.1;have h3:=lB (sA c) h4.1;have h2:=xI (c:=c) h3.1;have h1:=lB (vh c) h2.1;refine ⟨Mk h1.1,?_,h2.2,?_,?_,?_⟩
 .intro x hx
  obtain ⟨i,hi,rfl⟩:=List.getElem_of_mem hx;exact Ml (h1.2 i hi)
 .intro x hx
  obtain ⟨i,hi,rfl⟩:=List.getElem_of_mem hx;exact I' (h3.2 i hi)
 .intro x hx
  obtain ⟨i,hi,rfl⟩:=List.getElem_of_mem hx;exact Ge (h4.2 i hi)
 .intro x hx
  obtain ⟨i,hi,rfl⟩:=List.getElem_of_mem hx;exact Mm (h5.2 i hi)
theorem Mn {c:aq} (h:cC c=0):Ja c:=by
 unfold cC at h;unfold wu at h;exact Kr (ir (o_ c) h).1
structure Ba (w0:World) (c:aq) (B R K:Nat) (e:Int) (w:World):Prop where
 fe:FE w K e
 x:Ext w0 w
 b:aY w B 30 c.cells
 r:aY w R 95 [i64 0,i64 0,i64 0]
 ne:B≠K/\R≠K/\w0.heap.size<=K
theorem Ba.next {w0 w w':World} {c:aq} {B R K:Nat} {e e':Int} (h:Ba w0 c B R K e w) (hf:FE w' K e') (hx:aH K w w'):Ba w0 c B R K e' w':=⟨hf,hx.ext h.x h.ne.2.2,h.b.but hx h.ne.1,h.r.but hx h.ne.2.1,h.ne⟩
theorem Ba.ext {w0 w w':World} {c:aq} {B R K:Nat} {e:Int} (h:Ba w0 c B R K e w) (x:Ext w w'):Ba w0 c B R K e w':=⟨h.fe.ext x,h.x.trans x,h.b.ext x,h.r.ext x,h.ne⟩
theorem sI (w0:World) (c:aq) (hc:bK w0 c) (hl:kU c):
 Calls prog 52 #[.agg (C8 c)] w0 λe w'=> ∃k i f,e= .returned (.tuple #[.agg #[i64 k,i64 i,i64 f],i64 (cC c)])/\Ext w0 w':=by
 try unfold C8
 have iL:=af hc;have tr:=af hl
 obtain ⟨ce,hce⟩: ∃ce,ce=cC c:=⟨_,rfl⟩;rw [<-hce];have Yf:=af hce;clear hce;clear hc hl;go_enter func52,ntmps52
 go_upto_region 1 with fail
 obtain ⟨W0,hW,x0,Z0,A0,A1⟩:=dV w0 30 c.cells 95 [i64 0,i64 0,i64 0];rw [show(w0.alloc (.cells (C8 c) 30)).alloc (.cells #[i64 0,i64 0,i64 0] 95)=W0 from hW.symm];clear hW;go_upto_region 2 with fail
 obtain ⟨W1,hW,x1,Z1,A2⟩:=bS W0 163 [i64 0,i64 0,i64 0,i64 0];rw [show W0.alloc (.cells #[i64 0,i64 0,i64 0,i64 0] 163)=W1 from hW.symm];clear hW;have z0:=Z0.o;obtain ⟨B,hB⟩: ∃B,B=w0.heap.size:=⟨_,rfl⟩;obtain ⟨R,hR⟩: ∃R,R=w0.heap.size+1:=⟨_,rfl⟩;obtain ⟨K,hK⟩: ∃K,K=W0.heap.size:=⟨_,rfl⟩;rw [<-hR]at A1⊢;rw [<-hB]at A0⊢;rw [<-hK]at A2⊢;have vp:Hid (w0.heap.size<=R):=by show _<=_;omega
 have HF:Hid (Ba w0 c B R K 0 W1):=⟨⟨0,0,0,A2⟩,x0.trans x1,A0.ext x1,A1.ext x1,ae,ae,ae⟩;obtain ⟨ef,HQ0⟩: ∃e',Hid (e'=mE c 0):=⟨_,rfl⟩;clear A0 A1 A2 x0 x1 Z0 Z1 z0 hB hR hK;have k:=aq.at HF.o.b;go_wp2_with fail
 refine (Mb w0 W1 K c 0 HF.o.ne.2.2 HF.o.x iL.o tr.o HF.o.fe).mono ?_;rintro e W2 ⟨rfl,hf,hx⟩;rw [<-HQ0.o]at hf;replace HF:=af (HF.o.next hf hx);clear hf hx k;obtain ⟨e1,vD⟩: ∃e',Hid (e'=dX (cN c.ar (v_ c)) ef c.ar.length):=⟨_,rfl⟩
 go_upto_block 0 with fail
 go_cut [] (λwx=>Ba w0 c B R K e1 wx)
 case first=>
  as_aux_lemma=>
   go_wp2
   go_loopw [5] (λii wx=> ∃i:Nat,i<=c.ar.length/\Ba w0 c B R K (dX (cN c.ar (v_ c)) ef i) wx/\ii= .int .i64 i) (λii _=>c.ar.length-(intOf ii).toNat)
   case atStart=>exact ⟨0,bm,HF.o,rfl⟩
   case round=>
    obtain ⟨i,hi,hF,rfl⟩:=hrel;have hne:=λq=>jC (F:=cN c.ar (v_ c)) (λi e h=>dS (vh c) i e h) (e:=ef) (n:=c.ar.length) hi q;have k3:=hF.fe.cell;have hlen:=tr.o.ar;have k:=aq.at hF.b;by_cases hlt:i<c.ar.length
    .have HS:=af (fF (cN c.ar (v_ c)) ef i)
     rw [kK hlt]at HS;generalize dX (cN c.ar (v_ c)) ef i=e0 at*;have HF:=af hF;have yx:=af hne
     clear hF hne;by_cases h0:e0=0
     .have t1:(e0==0)=true:=by simpa using h0
      clear h0;obtain ⟨bb,bo,ha,b0,b1,b2⟩:=(iL.o.ar.ext HF.o.x).ar i hlt;have Wv:=iL.o.fc c.ar[i] (List.getElem_mem hlt);have l_:Hid (∃h:i<(c.ar.map iQ.name).length,(c.ar.map iQ.name)[i]=c.ar[i].name/\(c.ar.map iQ.name).take i=(c.ar.take i).map iQ.name):=⟨by simpa using hlt,aX,by rw [List.map_take]⟩;have uX:Hid ((c.ar.map iQ.name).length<=1000000):=by(show _<=_;rw [List.length_map];exact hlen)
      obtain ⟨prev,OG⟩: ∃prev,prev=(c.ar.take i).map iQ.name:=⟨_,rfl⟩;have HS:Hid (dX (cN c.ar (v_ c)) ef (i+1)=Cw c c.ar[i] ((c.ar.take i).map iQ.name) e0):=HS.o;rw [<-OG]at HS l_;obtain ⟨x,Dl⟩: ∃x,x=c.ar[i]:=⟨_,rfl⟩;rw [<-Dl]at b0 b1 b2 Wv HS l_;have FZ:=af ha;have iR:=af Wv;have HXX:=af Dl
      have mn:(0:Int)<=(i:Int):=ae;have mq:(i:Int)<(c.ar.length:Int):=ae;clear ha Wv OG Dl;have HC:=af (kJ w0 wr K c e0 1 i prev _ x.name (tH c) ai l_.o uX.o HF.o.ne.2.2 HF.o.x iL.o iR.o.1 HF.o.fe);go_wp2_with fail
      refine HC.o.mono ?_;rintro e w2 ⟨rfl,hf,hx⟩;have HG:=af (HF.o.next hf hx);clear b0 b1 b2 hf hx k k3 HC;obtain ⟨bb',bo',ha,b0,b1,b2⟩:=(iL.o.ar.ext HG.o.x).ar i hlt;rw [FZ.o]at ha;cases ha
      rw [<-show x=c.ar[i]from HXX.o]at b0 b1 b2;clear b0
      have Rh:bb≠K:=by
       obtain ⟨b3,o3,h3,q0,-⟩:=iL.o.ar.ar i hlt;rw [FZ.o]at h3;cases h3
       have:=eH q0;simp only at this;have:=HG.o.ne.2.2;omega
      have HH:=af (λU (hU:Ext w0 U) (hF:FE U K (nA e0 x.name prev))=>ug w0 U K c (nA e0 x.name prev) x.da x.dc x.eE 0 1048576 1 i 1 HG.o.ne.2.2 hU iR.o.2.1 hF);have KC:=λY (e:aH K w2 Y)=>And.intro (aq.at (HG.o.b.but e HG.o.ne.1)) (g_ b1 e Rh);go_wp2_with fail
      refine wG (λw=>aH K w2 w) ((Ext.refl w2).drew.but K) λs=> ?_;refine wV 0 s ?_;refine wV 1 s ?_;refine wV 2 s ?_;refine wV 3 s ?_;refine wV 4 s ?_;refine wV 5 s ?_ (hy:=by intro w e;have ha:=FZ.o;go_simp;try rfl);refine wV 6 s ?_;refine wV 7 s ?_;refine wV 8 s ?_;refine wR 9 λK' hK=> ?_;rw [if_pos bQ];go_simp;refine (HH.o w2.drew (HG.o.x.trans (Ext.refl w2).drew) (HG.o.fe.ext (Ext.refl w2).drew)).mono ?_;rintro e W5 ⟨rfl,Ta,gl⟩;refine hK.o _ _ (s.trans gl) λs=> ?_;refine wD ?_;clear KC b1 b2 HH hK K' s;have Ww:=af ((HG.o.ext (Ext.refl w2).drew).next Ta gl);clear Ta gl;obtain ⟨-,-,k2,-,-,-,-,-⟩:=aq.at Ww.o.b;obtain ⟨bb',bo',ha,-,-,b2⟩:=(iL.o.ar.ext Ww.o.x).ar i hlt;rw [FZ.o]at ha;cases ha
      rw [<-show x=c.ar[i]from HXX.o]at b2;rw [FZ.o]at k2;go_wp2_with fail
      refine (FT W5 x.er 0 1048576 iR.o.2.2).mono ?_;rintro e w1 ⟨rfl,rfl⟩;go_wp2_with fail
      refine (d_ _ K _ _ _ _ _ _ (Ww.o.fe.alloc _)).mono ?_;rintro e W6 ⟨rfl,hf,hx⟩;have HG6:=af ((Ww.o.ext (ah.alloc _)).next hf hx);clear hf hx k2 b2;go_wp2
      exact ⟨⟨i+1,ae,by rw [HS.o];exact HG6.o,bq⟩,bz⟩
     .have t1:(e0==0)=false:=by simpa using h0
      have HE:=af (yx.o h0);clear h0;go_wp2
      go_meet
      rw [vD.o,<-HE.o];exact HF.o
    .obtain rfl:i=c.ar.length:=ae
     rw [<-vD.o]at hF;have HF:=af hF;clear hne hF;go_wp2
     go_meet
     exact HF.o
 case rest=>
  replace HF:=af hcut;clear hcut;generalize wc=V1 at*;obtain ⟨e2,CZ⟩: ∃e',Hid (e'=dX (cN c.lines (qu c)) e1 c.lines.length):=⟨_,rfl⟩
  go_upto_block 2 with fail
  go_cut [] (λwx=>Ba w0 c B R K e2 wx)
  case first=>
   as_aux_lemma=>
    go_wp2
    go_loopw [6] (λii wx=> ∃i:Nat,i<=c.lines.length/\Ba w0 c B R K (dX (cN c.lines (qu c)) e1 i) wx/\ii= .int .i64 i) (λii _=>c.lines.length-(intOf ii).toNat)
    case atStart=>exact ⟨0,bm,HF.o,rfl⟩
    case round=>
     obtain ⟨i,hi,hF,rfl⟩:=hrel;have hne:=λq=>jC (F:=cN c.lines (qu c)) (λi e h=>dS (wh c) i e h) (e:=e1) (n:=c.lines.length) hi q;have k3:=hF.fe.cell;have hlen:=tr.o.lines;have k:=aq.at hF.b;by_cases hlt:i<c.lines.length
     .have HS:=af (fF (cN c.lines (qu c)) e1 i)
      rw [kK hlt]at HS;generalize dX (cN c.lines (qu c)) e1 i=e0 at*;have HF:=af hF;have yx:=af hne
      clear hF hne;by_cases h0:e0=0
      .have t1:(e0==0)=true:=by simpa using h0
       clear h0;have HC:=af (OL w0 wr K c e0 i hlt HF.o.ne.2.2 HF.o.x iL.o hlen HF.o.fe);go_wp2_with fail
       refine HC.o.mono ?_;rintro e w2 ⟨rfl,hf,hx⟩;have HG:=af (HF.o.next hf hx);clear hf hx k k3;go_wp2
       exact ⟨⟨i+1,ae,by rw [HS.o];exact HG.o,bq⟩,bz⟩
      .have t1:(e0==0)=false:=by simpa using h0
       have HE:=af (yx.o h0);clear h0;go_wp2
       go_meet
       rw [CZ.o,<-HE.o];exact HF.o
     .obtain rfl:i=c.lines.length:=ae
      rw [<-CZ.o]at hF;have HF:=af hF;clear hne hF;go_wp2
      go_meet
      exact HF.o
  case rest=>
   replace HF:=af hcut;clear hcut;generalize wc=V2 at*;obtain ⟨e3,Qm⟩: ∃e',Hid (e'=dX (cN c.ay (qw c)) e2 c.ay.length):=⟨_,rfl⟩
   go_upto_block 4 with fail
   go_cut [] (λwx=>Ba w0 c B R K e3 wx)
   case first=>
    as_aux_lemma=>
     go_wp2
     go_loopw [7] (λii wx=> ∃i:Nat,i<=c.ay.length/\Ba w0 c B R K (dX (cN c.ay (qw c)) e2 i) wx/\ii= .int .i64 i) (λii _=>c.ay.length-(intOf ii).toNat)
     case atStart=>exact ⟨0,bm,HF.o,rfl⟩
     case round=>
      obtain ⟨i,hi,hF,rfl⟩:=hrel;have hne:=λq=>jC (F:=cN c.ay (qw c)) (λi e h=>dS (sA c) i e h) (e:=e2) (n:=c.ay.length) hi q;have k3:=hF.fe.cell;have hlen:=tr.o.ay;have k:=aq.at hF.b;by_cases hlt:i<c.ay.length
      .have HS:=af (fF (cN c.ay (qw c)) e2 i)
       rw [kK hlt]at HS;generalize dX (cN c.ay (qw c)) e2 i=e0 at*;have HF:=af hF;have yx:=af hne
       clear hF hne;by_cases h0:e0=0
       .have t1:(e0==0)=true:=by simpa using h0
        clear h0;have HC:=af (OU w0 wr K c e0 i hlt HF.o.ne.2.2 HF.o.x iL.o hlen HF.o.fe);go_wp2_with fail
        refine HC.o.mono ?_;rintro e w2 ⟨rfl,hf,hx⟩;have HG:=af (HF.o.next hf hx);clear hf hx k k3;go_wp2
        exact ⟨⟨i+1,ae,by rw [HS.o];exact HG.o,bq⟩,bz⟩
       .have t1:(e0==0)=false:=by simpa using h0
        have HE:=af (yx.o h0);clear h0;go_wp2
        go_meet
        rw [Qm.o,<-HE.o];exact HF.o
      .obtain rfl:i=c.ay.length:=ae
       rw [<-Qm.o]at hF;have HF:=af hF;clear hne hF;go_wp2
       go_meet
       exact HF.o
   case rest=>
    replace HF:=af hcut;clear hcut;generalize wc=V3 at*;obtain ⟨e4,Tk⟩: ∃e',Hid (e'=dX (cN c.stores (mH c)) e3 c.stores.length):=⟨_,rfl⟩
    go_upto_block 6 with fail
    go_cut [] (λwx=>Ba w0 c B R K e4 wx)
    case first=>
     as_aux_lemma=>
      go_wp2
      go_loopw [8] (λii wx=> ∃i:Nat,i<=c.stores.length/\Ba w0 c B R K (dX (cN c.stores (mH c)) e3 i) wx/\ii= .int .i64 i) (λii _=>c.stores.length-(intOf ii).toNat)
      case atStart=>exact ⟨0,bm,HF.o,rfl⟩
      case round=>
       obtain ⟨i,hi,hF,rfl⟩:=hrel;have hne:=λq=>jC (F:=cN c.stores (mH c)) (λi e h=>dS (pX c) i e h) (e:=e3) (n:=c.stores.length) hi q;have k3:=hF.fe.cell;have hlen:=tr.o.stores;have k:=aq.at hF.b;by_cases hlt:i<c.stores.length
       .have HS:=af (fF (cN c.stores (mH c)) e3 i)
        rw [kK hlt]at HS;generalize dX (cN c.stores (mH c)) e3 i=e0 at*;have HF:=af hF;have yx:=af hne
        clear hF hne;by_cases h0:e0=0
        .have t1:(e0==0)=true:=by simpa using h0
         clear h0;have HC:=af (L8 w0 wr K c e0 i hlt HF.o.ne.2.2 HF.o.x iL.o hlen HF.o.fe);go_wp2_with fail
         refine HC.o.mono ?_;rintro e w2 ⟨rfl,hf,hx⟩;have HG:=af (HF.o.next hf hx);clear hf hx k k3;go_wp2
         exact ⟨⟨i+1,ae,by rw [HS.o];exact HG.o,bq⟩,bz⟩
        .have t1:(e0==0)=false:=by simpa using h0
         have HE:=af (yx.o h0);clear h0;go_wp2
         go_meet
         rw [Tk.o,<-HE.o];exact HF.o
       .obtain rfl:i=c.stores.length:=ae
        rw [<-Tk.o]at hF;have HF:=af hF;clear hne hF;go_wp2
        go_meet
        exact HF.o
    case rest=>
     replace HF:=af hcut;clear hcut;generalize wc=V4 at*;obtain ⟨e5,U7⟩: ∃e',Hid (e'=dX (cN c.bF (yy c)) e4 c.bF.length):=⟨_,rfl⟩
     go_upto_block 8 with fail
     go_cut [] (λwx=>Ba w0 c B R K e5 wx)
     case first=>
      as_aux_lemma=>
       go_wp2
       go_loopw [9] (λii wx=> ∃i:Nat,i<=c.bF.length/\Ba w0 c B R K (dX (cN c.bF (yy c)) e4 i) wx/\ii= .int .i64 i) (λii _=>c.bF.length-(intOf ii).toNat)
       case atStart=>exact ⟨0,bm,HF.o,rfl⟩
       case round=>
        obtain ⟨i,hi,hF,rfl⟩:=hrel;have hne:=λq=>jC (F:=cN c.bF (yy c)) (λi e h=>dS (vk c) i e h) (e:=e4) (n:=c.bF.length) hi q;have k3:=hF.fe.cell;have hlen:=tr.o.bF;have k:=aq.at hF.b;by_cases hlt:i<c.bF.length
        .have HS:=af (fF (cN c.bF (yy c)) e4 i)
         rw [kK hlt]at HS;generalize dX (cN c.bF (yy c)) e4 i=e0 at*;have HF:=af hF;have yx:=af hne
         clear hF hne;by_cases h0:e0=0
         .have t1:(e0==0)=true:=by simpa using h0
          clear h0;have HC:=af (Ri w0 wr K c e0 i hlt HF.o.ne.2.2 HF.o.x iL.o hlen HF.o.fe);go_wp2_with fail
          refine HC.o.mono ?_;rintro e w2 ⟨rfl,hf,hx⟩;have HG:=af (HF.o.next hf hx);clear hf hx k k3;go_wp2
          exact ⟨⟨i+1,ae,by rw [HS.o];exact HG.o,bq⟩,bz⟩
         .have t1:(e0==0)=false:=by simpa using h0
          have HE:=af (yx.o h0);clear h0;go_wp2
          go_meet
          rw [U7.o,<-HE.o];exact HF.o
        .obtain rfl:i=c.bF.length:=ae
         rw [<-U7.o]at hF;have HF:=af hF;clear hne hF;go_wp2
         go_meet
         exact HF.o
     case rest=>
      replace HF:=af hcut;clear hcut;generalize wc=V5 at*;obtain ⟨e6,HQ6⟩: ∃e',Hid (e'=dX (cN c.outs (yz c)) e5 c.outs.length):=⟨_,rfl⟩
      go_upto_block 10 with fail
      go_cut [] (λwx=>Ba w0 c B R K e6 wx)
      case first=>
       as_aux_lemma=>
        go_wp2
        go_loopw [10] (λii wx=> ∃i:Nat,i<=c.outs.length/\Ba w0 c B R K (dX (cN c.outs (yz c)) e5 i) wx/\ii= .int .i64 i) (λii _=>c.outs.length-(intOf ii).toNat)
        case atStart=>exact ⟨0,bm,HF.o,rfl⟩
        case round=>
         obtain ⟨i,hi,hF,rfl⟩:=hrel;have hne:=λq=>jC (F:=cN c.outs (yz c)) (λi e h=>dS (rC c) i e h) (e:=e5) (n:=c.outs.length) hi q;have k3:=hF.fe.cell;have hlen:=tr.o.outs;have k:=aq.at hF.b;by_cases hlt:i<c.outs.length
         .have HS:=af (fF (cN c.outs (yz c)) e5 i)
          rw [kK hlt]at HS;generalize dX (cN c.outs (yz c)) e5 i=e0 at*;have HF:=af hF;have yx:=af hne
          clear hF hne;by_cases h0:e0=0
          .have t1:(e0==0)=true:=by simpa using h0
           clear h0;have HC:=af (I3 w0 wr K c e0 i hlt HF.o.ne.2.2 HF.o.x iL.o hlen tr.o.moves HF.o.fe);go_wp2_with fail
           refine HC.o.mono ?_;rintro e w2 ⟨rfl,hf,hx⟩;have HG:=af (HF.o.next hf hx);clear hf hx k k3;go_wp2
           exact ⟨⟨i+1,ae,by rw [HS.o];exact HG.o,bq⟩,bz⟩
          .have t1:(e0==0)=false:=by simpa using h0
           have HE:=af (yx.o h0);clear h0;go_wp2
           go_meet
           rw [HQ6.o,<-HE.o];exact HF.o
         .obtain rfl:i=c.outs.length:=ae
          rw [<-HQ6.o]at hF;have HF:=af hF;clear hne hF;go_wp2
          go_meet
          exact HF.o
      case rest=>
       replace HF:=af hcut;clear hcut;generalize wc=V6 at*;obtain ⟨e7,U8⟩: ∃e',Hid (e'=dX (o9 c) e6 c.hours.toNat):=⟨_,rfl⟩
       have zP:e6=0->(1<=c.hours/\c.hours<=24)/\ ∀i (hi:i<c.lines.length),(0<=c.lines[i].fQ/\c.lines[i].fQ<c.ar.length)/\(0<=c.lines[i].qZ/\c.lines[i].qZ<c.ar.length):=λh=>by
        rw [HQ6.o]at h;have h5:=(ir (λi e h=>dS (rC c) i e h) h).1;rw [U7.o]at h5;have h4:=(ir (λi e h=>dS (vk c) i e h) h5).1;rw [Tk.o]at h4;have h3:=(ir (λi e h=>dS (pX c) i e h) h4).1;rw [Qm.o]at h3;have h2:=(ir (λi e h=>dS (sA c) i e h) h3).1;rw [CZ.o]at h2;have h1:=xI (c:=c) h2;have h0:=h1.1;rw [vD.o]at h0;have hf:=(ir (λi e h=>dS (vh c) i e h) h0).1;rw [HQ0.o]at hf;exact ⟨Gd hf,h1.2⟩
       have Yg:=af zP;clear zP
       go_upto_block 12 with fail
       go_cut [] (λwx=>Ba w0 c B R K e7 wx)
       case first=>
        as_aux_lemma=>
         go_wp2
         go_loopw [11] (λii wx=> ∃h:Nat,h<=c.hours.toNat/\Ba w0 c B R K (dX (o9 c) e6 h) wx/\ii= .int .i64 h) (λii _=>c.hours.toNat-(intOf ii).toNat)
         case atStart=>exact ⟨0,bm,HF.o,rfl⟩
         case round=>
             obtain ⟨h,hh,hF,rfl⟩:=hrel;have hne:=λq=>jC (F:=o9 c) (o_ c) (e:=e6) (n:=c.hours.toNat) hh q;have acq:=af (show h=c.hours.toNat->dX (o9 c) e6 h=e7 from λq=>by rw [q,U8.o]);have hz:=λq=>(ir (F:=o9 c) (o_ c) (e:=e6) (n:=h) q).1;have k3:=hF.fe.cell;have HS:=af (fF (o9 c) e6 h);generalize dX (o9 c) e6 h=e0 at*;have qm:=af hF;have yx:=af hne
             clear hF hne;by_cases h0:e0=0
             .have t1:(e0==0)=true:=by simpa using h0
              obtain ⟨⟨g1,g2⟩,Qn⟩:=Yg.o (hz h0);have Tl:=af Qn;have Ks:=af h0;clear hz Qn h0;by_cases hlt:h<c.hours.toNat
              .have th:decide ((h:Int)<c.hours)=true:=by simp;omega
               have k:=aq.at qm.o.b;have HP:=af (Md w0 wr c (h:Int) qm.o.x iL.o tr.o.lines);go_wp2_with fail
               refine HP.o.mono ?_;rintro e w2 ⟨pa,pc,Wx,acr,rfl,A_,hat,x2,hfp,Wv⟩;rw [(Ag Tl.o (h:Int)).2]at A_;have Yh:=(Ag Tl.o (h:Int)).1;have Vd:=Ah c (h:Int);have hEl:(lV c (h:Int)).length<=1000000:=by rw [Vd];exact Nat.le_trans (jf _ _ _) tr.o.lines
               have gu:=jf c (h:Int) c.lines.length;have Qi:=tr.o.lines;have HFH:Hid (o9 c h e0=dX (cN c.outs λx _ e=>nd e (!mI c h x) 13) e0 c.outs.length):=rfl;have HSP:Hid (∀x,mI c h x=O3 c.ar.length (lV c h) (cU (gT (cK c h c.lines.length) x.lines (cK c h c.lines.length).length))):=λ_=>rfl;obtain ⟨Fo,hFo⟩: ∃Fo,Fo=(λ(x:ee) (_:Nat) (e:Int)=>nd e (!mI c h x) 13):=⟨_,rfl⟩;have HFo:Hid (∀x i e,Fo x i e=nd e (!mI c h x) 13):=λx i e=>by rw [hFo]
               rw [<-hFo]at HFH;clear hFo;have Yi:=HSP.o;generalize lV c (h:Int)=E at*;have Gg:=lu c (h:Int) c.lines.length;generalize cK c (h:Int) c.lines.length=l at*;have acv:=af Vd;clear Vd
               have tq:=af A_;have Wy:=af hat;have HED:=af Yh;have Rz:=af Yi
               have Qg:=af (qm.o.ext x2);have Rg:=qm.o.fe.lt;have Wz:Hid (∀p,pa=some p->p.block≠K):=λp hp=>dB (hfp p hp);have HAK:Hid (∀p,Wx=some p->p.block≠K):=λp hp=>dB (Wv p hp);have nE:=hat.le;have OZ:=hat.cap
               rw [cp]at nE;clear Yi A_ hat Yh x2 hfp Wv k k3 HP qm Tl Gg Rg;go_wp2
               go_loopw [14] (λii wx=> ∃i:Nat,i<=c.outs.length/\Ba w0 c B R K (dX (cN c.outs Fo) e0 i) wx/\di wx 2 pa pc (gb E)/\bV wx Wx acr (cU l)/\ii= .int .i64 i) (λii _=>c.outs.length-(intOf ii).toNat)
               case atStart=>exact ⟨0,bm,Qg.o,tq.o,Wy.o,rfl⟩
               case round=>
                obtain ⟨i,hi,hF,A_,hat,rfl⟩:=hrel;clear Qg tq Wy;have hlen:=tr.o.outs;by_cases hlt:i<c.outs.length
                .have HSo:=af (fF (cN c.outs Fo) e0 i)
                 rw [kK hlt,HFo.o]at HSo;obtain ⟨ob,oo,hoa,-,o1,-,-⟩:=(iL.o.outs.ext hF.x).outs i hlt;have Nn:=(iL.o.o c.outs[i] (List.getElem_mem hlt)).2.1
                 have ahP:ob≠K:=by
                  obtain ⟨b3,o3,h3,q0,-⟩:=iL.o.outs.outs i hlt;rw [hoa]at h3;cases h3
                  have:=eH q0;simp only at this;have:=hF.ne.2.2;omega
                 generalize dX (cN c.outs Fo) e0 i=e1 at*;have Yj:=af (Rz.o c.outs[i]);obtain ⟨x,Dl⟩: ∃x,x=c.outs[i]:=⟨_,rfl⟩;rw [<-Dl]at o1 Nn HSo Yj;obtain ⟨-,-,k2,-,-,-,-,k7⟩:=aq.at hF.b;have HF:=af hF;have tq:=af A_;have Wy:=af hat
                 have Nv:=af Nn;have HOA:=af hoa
                 have mn:(0:Int)<=(i:Int):=ae;have mq:(i:Int)<(c.outs.length:Int):=ae;have O1:=af o1;clear hF A_ hat Nn hoa Dl o1;obtain ⟨wo,Ve⟩: ∃wo:World,wo=wr:=⟨_,rfl⟩;subst Ve;go_wp2
                 go_loopw [15,16] (λv kk wy=> ∃k:Nat,k<=l.length/\cj wy wo.heap.size 3 1 v (iz (gT l x.lines k))/\Ext wo wy/\kk= .int .i64 k) (λ_ kk _=>l.length-(intOf kk).toNat)
                 case atStart=>exact ⟨0,bm,cj.nil _ _ _ _,ah,rfl⟩
                 case round=>
                  obtain ⟨k,hk,hown,hE,rfl⟩:=hrel;have HO:=af hown;clear hown k2 k7;by_cases hlk:k<l.length
                  .obtain ⟨ab,ao,hab,i0⟩:=(Wy.o.ext hE).cell k (by rw [cp];exact hlk)
                   have e0':(cU l)[k]'(by rw [cp];exact hlk)=((l[k]:Nat):Int):=by simp [cU]
                   rw [e0']at i0
                   have HST:Hid (gT l x.lines (k+1)=if hasB x.lines ((l[k]:Nat):Int)=true then gT l x.lines k++ [k]else gT l x.lines k):=by
                        show _=_;have:l.getD k 0=l[k]:=by rw [List.getD_eq_getElem?_getD,List.getElem?_eq_getElem hlk];rfl
                        rw [<-this];rfl
                   have Ya:=af (tN l x.lines k);generalize gT l x.lines k=gs at*;obtain ⟨lk,Yk⟩: ∃lk,lk=l[k]:=⟨_,rfl⟩;rw [<-Yk]at i0 HST;have HHS:=af (λU (hU:Ext wr U)=>yM U x.la x.lc x.lines (lk:Int) (((Nv.o.ext HF.o.x).ext hE).ext hU));obtain ⟨-,-,-,-,-,-,-,k7⟩:=aq.at (HF.o.b.ext hE);have o1:=aB hE O1.o;have Wn:(0:Int)<=(k:Int):=ae;have Wo:(k:Int)<(l.length:Int):=ae;have HE:=af hE;have Rs:=hE.size
                   have tM:=af hab;clear hE Yk e0' hab;rw [tM.o];have KC:=λY (e:Ext wr Y)=>And.intro (aB e k7) (And.intro (aB e o1) (aB e i0));obtain ⟨hb,Xx⟩: ∃hb,Hid (hasB x.lines (lk:Int)=hb):=⟨_,rfl⟩;rw [Xx.o]at HHS HST
                   have HOW:Hid (wr.ownsRow wo.heap.size 3 1 u15 gs.length (iz gs).flatten):=by
                        have h5:=HO.o.own;rw [eV]at h5;exact h5
                   clear k7 o1 i0;go_wp2_with fail
                   refine wG (λw=>Ext wr w) (Ext.refl wr).drew λs=> ?_;refine wV 0 s ?_;refine wV 1 s ?_;refine wV 2 s ?_;refine wV 3 s ?_ (hy:=by intro w e;have hoa:=HOA.o;go_simp;try rfl);refine wV 4 s ?_;refine wV 5 s ?_;refine wV 6 s ?_;refine wV 7 s ?_;refine wV 8 s ?_;refine wV 9 s ?_;refine wR 10 λK' hK=> ?_;rw [if_pos bQ];go_simp;refine (HHS.o wr.drew (Ext.refl wr).drew).mono ?_;rintro e w9 ⟨rfl,Yl⟩;rw [Yl];refine hK.o _ _ s λs=> ?_;refine wD ?_;clear hK K' s Yl KC;cases hb with
                   |true=>
                    go_wp2_with (at_builtin;refine fC _ rfl (.tmp 194) (.tmp 196) 22 rfl wo.heap.size 3 (.int .i64 0) 1 8 underlying22 Tryz.info_int rfl ai u15 gs.length (iz gs).flatten rfl ?c1 (some ⟨wr.heap.size,0,none⟩) 1 1 [i64 (k:Int)] rfl rfl ?c2 ?c3 ?c4 ?c5 ai ?c6 ?_;rotate_right;intro v1 w5 ho he hb hz hv)
                    first|(case c1=>exact fg HOW.o (ah.drew.alloc _))|skip
                    case c3=>rfl
                    case c5=>have:=Ya.o;omega
                    case c6=>exact Nat.le_trans Rs (Nat.le_succ _)
                    have x5:Ext wo w5:=he.o wo (HE.o.drew.alloc _) cG;have yO:=HO.o.snoc (w':=w5) (v':=v1) (r:= [i64 (k:Int)]) rfl (by rw [eV];exact ho.o);rw [<-pT]at yO;exact ⟨⟨k+1,ae,by rw [HST.o];simpa using yO,x5,bq⟩,bz⟩
                   |false=>
                    go_wp2
                    exact ⟨⟨k+1,ae,by rw [HST.o];simpa using HO.o.ext (Ext.refl wr).drew,HE.o.drew,bq⟩,bz⟩
                  .obtain rfl:k=l.length:=ae
                   obtain ⟨ga,gc,rfl,hS,-⟩:=HO.o.recs ai;rw [eV,<-cp (gT l x.lines l.length)];rw [pU]at hS;have hgI:=bV.Aa hS (rp (wm l x.lines l.length) ae);have hSC:=BC wr c.ar.length pa pc E ga gc (cU (gT l x.lines l.length)) tr.o.ar hEl (tq.o.ext hE) HED.o hgI;rw [acv.o]at hSC;have H5:=af hSC;obtain ⟨-,-,k2,-,-,-,-,-⟩:=aq.at (HF.o.b.ext hE);have HF3:=af (HF.o.ext hE);have acy:=af (tq.o.ext hE);have acz:=af (Wy.o.ext hE)
                   clear hS hgI hSC hE HO HF tq Wy;go_wp2_with fail
                   refine H5.o.mono ?_;rintro e w6 ⟨rfl,x6⟩;rw [<-Yj.o];have yS:=af x6;clear x6 k2;go_wp2_with fail
                   refine (d_ _ K _ _ _ _ _ _ (HF3.o.fe.ext yS.o)).mono ?_;rintro e w7 ⟨rfl,hf,hx⟩;rw [<-HSo.o]at hf;have Ym:=af (And.intro ((HF3.o.ext yS.o).next hf hx) (And.intro (di.but (acy.o.ext yS.o) hx Wz.o) ((acz.o.ext yS.o).gw hx HAK.o)));clear hf hx;go_wp2
                   exact ⟨⟨i+1,ae,Ym.o.1,Ym.o.2.1,Ym.o.2.2,bq⟩,bz⟩
                .obtain rfl:i=c.outs.length:=ae
                 obtain ⟨-,-,-,-,-,-,-,k7⟩:=aq.at hF.b;have Ym:=af hF;clear hF A_ hat;go_wp2
                 exact ⟨⟨h+1,ae,by rw [HS.o,HFH.o];exact Ym.o,bq⟩,bz⟩
              .have hq:=acq.o ae
               have HE:=af hq;have th:decide ((h:Int)<c.hours)=false:=by simp;omega
               have k:=aq.at qm.o.b;clear hq;go_wp2
               go_meet
               rw [<-HE.o];exact qm.o
             .have t1:(e0==0)=false:=by simpa using h0
              have HE:=af (yx.o h0);clear h0 hz;have k:=aq.at qm.o.b;rcases Bool.eq_false_or_eq_true (decide ((h:Int)<c.hours))with th|th
              .go_wp2
               go_meet
               rw [U8.o,<-HE.o];exact qm.o
              .go_wp2
               go_meet
               rw [U8.o,<-HE.o];exact qm.o
       case rest=>
        have HF:=af hcut;generalize wc=V7 at*;have hF:=hcut.fe;have hR:=hcut.r;have hRK:=hcut.ne.2.1
        clear hcut
        have hce:e7=ce:=by
         rw [Yf.o];unfold cC wu Cy Cx sB wk rF wj
         rw [<-HQ0.o,<-vD.o,<-CZ.o,<-Qm.o,<-Tk.o,<-U7.o,<-HQ6.o,<-U8.o]
        rw [hce]at hF;obtain ⟨fk,fi,ff,hFA⟩:=hF;obtain ⟨c0,c1,c2,c3,-⟩:=Kk hFA;have r0:V7.cell? ⟨R,0,none⟩=some (i64 0):=(hR.cell 0).trans rfl;have r1:V7.cell? ⟨R,1,none⟩=some (i64 0):=(hR.cell 1).trans rfl;have r2:V7.cell? ⟨R,2,none⟩=some (i64 0):=(hR.cell 2).trans rfl;have q0:V7.frozen? ⟨R,0,none⟩=false:=hR.frozen 0;have q1:V7.frozen? ⟨R,1,none⟩=false:=hR.frozen 1;have q2:V7.frozen? ⟨R,2,none⟩=false:=hR.frozen 2;have DX: ∀o,(⟨R,o,none⟩:Addr).block≠K:=λo=>hRK;have Pa:=af (((hR.set 0 (i64 fk)).set 1 (i64 fi)).set 2 (i64 ff));have HKF:Hid (S8 (((V7.setCell ⟨R,0,none⟩ (i64 fk)).setCell ⟨R,1,none⟩ (i64 fi)).setCell ⟨R,2,none⟩ (i64 ff)) K ⟨fk,fi,ff,ce⟩):=((hFA.other _ _ (DX 0)).other _ _ (DX 1)).other _ _ (DX 2);obtain ⟨d0,d1,d2,d3,-⟩:=Kk HKF.o;obtain ⟨s0,s1,s2⟩:(((V7.setCell ⟨R,0,none⟩ (i64 fk)).setCell ⟨R,1,none⟩ (i64 fi)).setCell ⟨R,2,none⟩ (i64 ff)).drew.cell? ⟨R,0,none⟩=some (i64 fk)/\(((V7.setCell ⟨R,0,none⟩ (i64 fk)).setCell ⟨R,1,none⟩ (i64 fi)).setCell ⟨R,2,none⟩ (i64 ff)).drew.cell? ⟨R,1,none⟩=some (i64 fi)/\(((V7.setCell ⟨R,0,none⟩ (i64 fk)).setCell ⟨R,1,none⟩ (i64 fi)).setCell ⟨R,2,none⟩ (i64 ff)).drew.cell? ⟨R,2,none⟩=some (i64 ff):=⟨(Pa.o.cell 0).trans rfl,(Pa.o.cell 1).trans rfl,(Pa.o.cell 2).trans rfl⟩;have zZ:Hid (Ext w0 (((V7.setCell ⟨R,0,none⟩ (i64 fk)).setCell ⟨R,1,none⟩ (i64 fi)).setCell ⟨R,2,none⟩ (i64 ff)).drew):=(((HF.o.x.setCell (p:=⟨R,0,none⟩) vp.o _).setCell (p:=⟨R,1,none⟩) vp.o _).setCell (p:=⟨R,2,none⟩) vp.o _).drew;clear hR hFA hce DX;go_wp2_with fail
        refine eo (λw'=>w'.cell? ⟨K,0,none⟩=some (i64 fk)/\w'.cell? ⟨K,1,none⟩=some (i64 fi)/\w'.cell? ⟨K,2,none⟩=some (i64 ff)/\w'.cell? ⟨K,3,none⟩=some (i64 ce)) (λw'=>True) (λi=>false) aw (⟨c0,c1,c2,c3⟩) (trivial) (λdA aL=> ?_);refine eG 0 dA aL ?_;refine eG 1 dA aL ?_;refine eG 2 dA aL ?_;refine eG 3 dA aL ?_ (v:= .agg #[i64 fk,i64 fi,i64 ff]);refine eG 4 dA aL ?_;refine eG 5 dA aL ?_;refine eG 6 dA aL ?_;refine eG 7 dA aL ?_ (v:=i64 ce);refine Nj 8 rfl (λKc hK=> ?_);go_simp;refine hK.o _ _ (⟨d0,d1,d2,d3⟩) (trivial) (λdA aL=> ?_);clear hK Kc;try simp only [sS]
        refine eG 9 dA aL ?_ (v:=i64 ce);refine eh aw ?_ _;clear dA aL;go_wp2
        exact bodyPost_ret (v:= .tuple #[.agg #[i64 fk,i64 fi,i64 ff],i64 ce]) (by simp [results,results52,go_sem,s0,s1,s2]) rfl ⟨fk,fi,ff,rfl,zZ.o⟩
