/- Texts of the proof. -/
import Derived.Test.YtkpngkdgphojlaaGreatCd35
set_option linter.all false
namespace Go.Proofs.YtkpngkdgphojlaaGreat
open Go.Proofs.Tryz
open Go.RowKit
theorem oL (k:UInt8) (i:Nat) (hi:i<16):(aI k i).toList= [k,FP.data[i]!]:=by
 rw [ByteArray.toList_eq,nz k i hi]
theorem LN: ∀i,i<16→okB (FP.data[i]!).toNat=true:=by decide
theorem Jq: ∀i,i<16→ ∀j,j<16→FP.data[i]! =FP.data[j]!→i=j:=by decide
theorem sV (s:ByteArray) (i:Nat):dz s i=((s.data[i]?).map UInt8.toNat).getD 0:=by
 unfold dz;split
 ·rename_i h
  rw [Array.getElem?_eq_getElem (show i<s.data.size from h)];rfl
 ·rename_i h
  rw [Array.getElem?_eq_none (show s.data.size≤i from Nat.le_of_not_lt h)];rfl
theorem vC (s:ByteArray) (a b:UInt8) (hs:s.data= #[a,b]) (ha:ja a.toNat=true) (hb:okB b.toNat=true):dh s=true:=by
 have hz:s.size=2:=by show s.data.size=2;rw [hs];rfl
 have e0:dz s 0=a.toNat:=by rw [sV,hs];rfl
 have e1:dz s 1=b.toNat:=by rw [sV,hs];rfl
 refine oV (by omega) (by omega) ?_ (by rw [e0];exact ha) ?_
 ·rw [ByteArray.toList_eq,hs]
  apply Bool.eq_false_iff.2;intro e;have h:=congrArg List.length (eq_of_beq e);simp at h
 ·intro j hj
  rcases (show j=0∨j=1 by omega)with rfl|rfl
  ·rw [e0];exact Hc ha
  ·rw [e1];exact hb
theorem Gj (k:UInt8) (hk:ja k.toNat=true) (i:Nat) (hi:i<16):dh (aI k i)=true:=vC _ k _ (nz k i hi) hk (LN i hi)
theorem DO (k:UInt8) (i j:Nat) (hi:i<16) (hj:j<16) (h:i≠j):CL (aI k i) (aI k j)=true:=by
 unfold CL;rw [oL k i hi,oL k j hj,Bool.not_eq_true'];apply Bool.eq_false_iff.2;intro e;have e2:=eq_of_beq e;simp only [List.cons.injEq,and_true,true_and]at e2;exact h (Jq i hi j hj e2)
theorem xe (k:UInt8) (hk:ja k.toNat=true) (l:List ByteArray) (hl: ∀j (hj:j<l.length),l[j]=aI k j) (hn:l.length≤16) (j:Nat) (hj:j<l.length):gP 0 l[j] (l.take j)=0:=by
 unfold gP;have h1:dh l[j]=true:=by rw [hl j hj];exact Gj k hk j (by omega)
 have h2:((l.take j).all fun p=>CL p l[j])=true:=by
  rw [List.all_eq_true];intro p hp;obtain ⟨i,hi,rfl⟩:=List.getElem_of_mem hp;rw [List.length_take]at hi;rw [List.getElem_take,hl i (by omega),hl j hj];exact DO k i j (by omega) (by omega) (by omega)
 rw [h1,h2,bI,bI]
theorem rU {F:Nat→Int→Int}: ∀n,(∀i,i<n→F i 0=0)→cK F 0 n=0
 |0,_=>rfl
 |n+1,h=>by rw [dC,rU n (fun i hi=>h i (by omega)),h n (by omega)]
theorem ji {α:Type} {l:List α} {F:α→Nat→Int→Int} (h: ∀i (hi:i<l.length),F l[i] i 0=0):cK (bM l F) 0 l.length=0:=
 rU _ fun i hi=>by rw [ie hi];exact h i hi
theorem cg {lo hi x:Int} (h:lo≤x∧x≤hi):bk lo hi [x]=true:=bQ.2 h
theorem EZ {lo hi:Int} {l:List Int} (h: ∀z∈l,lo≤z∧z≤hi):bk lo hi l=true:=AQ.2 h
theorem ko {c:ai} {l:List Int} {a b:Int} (h1:(l.length:Int)=c.hours) (h2: ∀z∈l,a≤z∧z≤b):fl 0 c l a b=0:=by
 unfold fl;rw [EZ h2,show decide ((l.length:Int)=c.hours)=true by simpa using h1,bI,bI]
theorem qB {c:ai} {i:Int} (h:0≤i∧i<c.ak.length):oT 0 c i=0:=by
 unfold oT;rw [cg (by omega),bI]
theorem DR {l:List Int} (h:l.length≤1):g_ l=true:=by
 rw [j6];intro j h1 h2;omega
theorem Ca {c:ai} {l:List Int} (hc:1≤c.hours∧c.hours≤24) (h1:l.length≤1) (h2: ∀z∈l,0≤z∧z<c.hours):mJ 0 c l=0:=by
 unfold mJ;have h3:IntKind.i64.wrap (c.hours-1)=c.hours-1:=by rw [IntKind.wrap_i64];omega
 rw [h3,DR h1,EZ (fun z hz=>by have:=h2 z hz;omega),bI,bI]
theorem Jr {x:aF} (h1:x.aM.length≤8) (h2: ∀g∈x.aM,1≤g.width∧g.width≤15∧ -2≤g.aX∧g.aX≤40) (h3:oq x.aM x.aM.length=true) (h4:x.max=x.min+bR x.aM) (h5:0≤bR x.aM∧bR x.aM≤1000):lj 0 x=0:=by
 unfold lj;have a1:decide ((x.aM.length:Int)≤8)=true:=by rw [decide_eq_true_eq];omega
 have a2:x.aM.all iR=true:=by
  rw [List.all_eq_true];intro g hg;have:=h2 g hg;unfold iR;rw [cg (by omega),cg (by omega)];rfl
 have a3:decide (bR x.aM=IntKind.i64.wrap (x.max-x.min))=true:=by
  rw [decide_eq_true_eq,IntKind.wrap_i64];omega
 rw [a1,a2,h3,a3,bI,bI,bI,bI]
theorem Js {hh nb:Nat} {c:ai} (h:fI hh nb c):iT c 0=0:=by
 unfold iT;have h0:=h.hours;have h1:=h.hr;have h2:=h.OZ;have h3:=h.lines;have h4:=h.au;have h5:=h.stores;have h6:=h.aL;have h7:=h.outs
 rw [cg (by omega),cg (by omega),bI,bI,ko (by have:=h.res.1;omega) (fun z hz=>by have:=h.res.2 z hz;omega)]
 have hm: ∀n,n≤5→jF c 0 n=0:=by
  intro n;induction n with
  |zero=>intro _;rfl
  |succ n ih=>
   intro hn;rw [eZ,ih (by omega)]
   have:decide (((dx c ((n:Int)+2)).length:Int)≤lU ((n:Int)+2))=true:=by
    rw [decide_eq_true_eq];rcases (show n=0∨n=1∨n=2∨n=3∨n=4 by omega)with rfl|rfl|rfl|rfl|rfl<;>simp [dx,lU]<;>omega
   rw [this,bI]
 exact hm 5 (Nat.le_refl _)
theorem vD {α:Type} (f:α→ByteArray) (l:List α) (k:UInt8) (hk:ja k.toNat=true) (hl: ∀j (hj:j<l.length),f l[j]=aI k j) (hn:l.length≤16) (j:Nat) (hj:j<l.length):gP 0 (f l[j]) ((l.take j).map f)=0:=by
 have h:=xe k hk (l.map f) (fun i hi=>by rw [List.getElem_map];exact hl i (by simpa using hi)) (by simpa using hn) j (by simpa using hj);rw [List.getElem_map,←List.map_take]at h;exact h
theorem Jt {hh nb:Nat} {c:ai} (h:fI hh nb c):oX c 0=0:=by
 have h0:=h.hours;have h1:=h.hr;have h2:=h.OZ
 refine ji fun j hj=> ?_;have hb:=h.bus j hj;show sB c c.ak[j] ((c.ak.take j).map cA.name) 0=0;unfold sB;rw [vD cA.name c.ak 98 (by decide) (fun i hi=>(h.bus i hi).name) (by omega) j hj,ko (by rw [hb.len];omega) (fun z hz=>by have:=hb.bP z hz;omega),cg (by have:=hb.gC;omega),bI]
theorem Ju {hh nb:Nat} {c:ai} (h:fI hh nb c):l_ c 0=0:=by
 have h0:=h.hours;have h1:=h.hr;have h2:=h.OZ;have h3:=h.lines
 refine ji fun j hj=> ?_;obtain ⟨fr,tb,hf,ht,hn,hb⟩:=h.line j hj;show pI c c.lines[j] ((c.lines.take j).map aP.name) 0=0;unfold pI;have a1:=hb.r;have a2:=hb.s0;have a3:=hb.s1;have a4:=hb.cY;have a5:=hb.jS
 have b1:(c.lines[j].cU !=c.lines[j].j5)=true:=by rw [hb.cU,hb.j5,bne_iff_ne];omega
 have b2:(eG c.lines[j].rn c.lines[j].rd&&decide (0<c.lines[j].rn))=true:=by unfold eG;simp only [Bool.and_eq_true,decide_eq_true_eq];omega
 have b3:(eG c.lines[j].se c.lines[j].vW&&decide (c.lines[j].se≤0))=true:=by unfold eG;simp only [Bool.and_eq_true,decide_eq_true_eq];omega
 have b4:(eG c.lines[j].tj c.lines[j].yA&&decide (0≤c.lines[j].tj))=true:=by unfold eG;simp only [Bool.and_eq_true,decide_eq_true_eq];omega
 rw [vD aP.name c.lines 108 (by decide) (fun i hi=>by obtain ⟨_,_,_,_,_,q⟩:=h.line i hi;exact q.name) (by omega) j hj,b1,b2,b3,b4,cg (by omega),cg (by omega),qB (by rw [hb.cU];omega),qB (by rw [hb.j5];omega),bI,bI,bI,bI,bI,bI];exact Ca (by omega) hb.NB.1 (fun z hz=>by have:=hb.away z hz;omega)
theorem Jv {hh nb:Nat} {c:ai} (h:fI hh nb c):oY c 0=0:=by
 have h0:=h.hours;have h1:=h.hr;have h2:=h.OZ;have h3:=h.au
 refine ji fun j hj=> ?_;obtain ⟨bu,Rf,u⟩:=h.unit j hj;show pM c c.au[j] ((c.au.take j).map aF.name) 0=0;have Ct:=vD aF.name c.au 117 (by decide) (fun i hi=>by obtain ⟨_,_,q⟩:=h.unit i hi;exact q.name) (by omega) j hj;generalize c.au[j]=x at u Ct⊢;have hs:=mC x.aM u.GU;have a1:=u.min;have a2:=u.K4;have a3:=u.max;have a4:=u.eu;have a5:=u.ez;have a6:=u.cD;have a7:=u.bW;have a8:=u.cE
 have b1:=u.eE;have b2:=u.cF;have b3:=u.startTime;have b4:=u.dr;have b5:=u.cG;have b6:=u.cJ;have b7:=u.aV;have b8:=u.bg
 have d1:=u.state;have d2:=u.hours;have d3:=u.output
 have c1:((x.state !=1)||decide (0<x.startTime))=true:=by
  by_cases q:x.state=1
  ·simp only [Bool.or_eq_true,decide_eq_true_eq];right;omega
  ·simp only [Bool.or_eq_true,bne_iff_ne];left;exact q
 have c2:((x.state !=1)||decide (x.hours≤x.startTime))=true:=by
  by_cases q:x.state=1
  ·simp only [Bool.or_eq_true,decide_eq_true_eq];right;have:=d2.2.2 q;omega
  ·simp only [Bool.or_eq_true,bne_iff_ne];left;exact q
 have c3:(if(x.state==2)=true then bk x.min x.max [x.output]else(x.output==0))=true:=by
  by_cases q:x.state=2
  ·rw [if_pos (by rw [q];rfl)];exact cg (d3.1 q)
  ·rw [if_neg (by simpa using q)];simpa using d3.2 q
 unfold pM;rw [Ct,c1,c2,c3,qB (by rw [u.bus];omega)];have e0:bk 0 1048576 [x.min]=true:=cg (by omega);have e1:bk x.min 1048576 [x.max]=true:=cg (by omega);have e2:bk 0 1048576 [x.eu]=true:=cg (by omega);have e3:bk 0 1048576 [x.ez]=true:=cg (by omega);have e4:bk 0 1048576 [x.cD]=true:=cg (by omega);have e5:bk x.min x.max [x.bW]=true:=cg (by omega);have e6:bk x.min x.max [x.cE]=true:=cg (by omega);have e7:bk 0 24 [x.eE]=true:=cg (by omega);have e8:bk 0 24 [x.cF]=true:=cg (by omega);have e9:bk 0 24 [x.startTime]=true:=cg (by omega);have f0:bk 0 1048576 [x.dr]=true:=cg (by omega);have f1:bk 0 1048576 [x.cG]=true:=cg (by omega);have f2:bk 0 24 [x.cJ]=true:=cg (by omega);have f3:bk 0 1048576 [x.aV]=true:=cg (by omega);have f4:bk 0 1048576 [x.bg]=true:=cg (by omega);have f5:bk 0 2 [x.state]=true:=cg (by omega);have f6:bk 1 48 [x.hours]=true:=cg (by omega);rw [e0,e1,e2,e3,e4,e5,e6,e7,e8,e9,f0,f1,f2,f3,f4,f5,f6];simp only [bI];rw [Jr (by omega) u.GU u.FN u.max (by omega)];exact Ca (by omega) u.NB.1 (fun z hz=>by have:=u.away z hz;omega)
theorem Gk {hh nb:Nat} {c:ai} (h:fI hh nb c):mf c 0=0:=by
 have h2:=h.OZ;have h3:=h.stores
 refine ji fun j hj=> ?_;have hm:=h.store _ (List.getElem_mem hj);obtain rfl:j=0:=by omega
 show lV c c.stores[0] [] 0=0;generalize c.stores[0]=x at hm⊢;have a1:=hm.bus;have a2:=hm.capacity;have a3:=hm.initial;have a4:=hm.final;have a5:=hm.dg;have a6:=hm.discharge;have a7:=hm.V9
 unfold lV;have b1:((eG x.en x.ed&&decide (0<x.en))&&decide (x.en≤x.ed))=true:=by unfold eG;simp only [Bool.and_eq_true,decide_eq_true_eq];omega
 have b2:gP 0 x.name []=0:=by
  unfold gP;rw [vC x.name 115 48 (by rw [hm.name]) (by decide) (by decide),List.all_nil,bI,bI]
 have b3:bk 0 1048576 [x.capacity]=true:=cg (by omega);have b4:bk 0 x.capacity [x.initial]=true:=cg (by omega);have b5:bk 0 x.capacity [x.final]=true:=cg (by omega);have b6:bk 0 1048576 [x.dg]=true:=cg (by omega);have b7:bk 0 1048576 [x.discharge]=true:=cg (by omega);rw [b1,b2,b3,b4,b5,b6,b7,qB (by omega)];simp only [bI]
theorem LO {hh nb:Nat} {c:ai} (h:fI hh nb c):uJ c 0=0:=by
 have h0:=h.hours;have h2:=h.OZ;have h3:=h.aL
 refine ji fun j hj=> ?_;have hm:=h.tie _ (List.getElem_mem hj);obtain rfl:j=0:=by omega
 show yF c c.aL[0] [] 0=0;generalize c.aL[0]=x at hm⊢;unfold yF
 have b2:gP 0 x.name []=0:=by
  unfold gP;rw [vC x.name 116 48 (by rw [hm.name]) (by decide) (by decide),List.all_nil,bI,bI]
 rw [b2,qB (by have:=hm.bus;omega),ko (by have:=hm.imp.1;omega) (fun z hz=>by have:=hm.imp.2 z hz;omega),ko (by have:=hm.exp.1;omega) (fun z hz=>by have:=hm.exp.2 z hz;omega),ko (by have:=hm.aX.1;omega) (fun z hz=>by have:=hm.aX.2 z hz;omega)]
theorem fI.accept {hh nb:Nat} {c:ai} (h:fI hh nb c) (ho:c.outs= []):cV c=0:=by
 unfold cV;rw [Js h,Jt h,Ju h,Jv h,Gk h,LO h];have h1:uK c 0=0:=ji fun j hj=>absurd hj (by rw [ho];simp);rw [h1];exact rU _ fun i _=>ji fun j hj=>absurd hj (by rw [ho];simp)
end Go.Proofs.YtkpngkdgphojlaaGreat
