/- Texts of the proof. -/
import Derived.Test.YtkpngkdgphojlaaGreatCf20
import Derived.Test.YtkpngkdgphojlaaGreatCf27
set_option linter.all false
namespace Go.Proofs.YtkpngkdgphojlaaGreat
open Go.Proofs.Tryz
open Go.RowKit
theorem pN (k:UInt8) (i:Nat) (hi:i<16):(aR k i).toList= [k,Gl.data[i]!]:=by
 rw [ByteArray.toList_eq,oy k i hi]
theorem LO: ∀i,i<16→okB (Gl.data[i]!).toNat=true:=by decide
theorem Jt: ∀i,i<16→ ∀j,j<16→Gl.data[i]! =Gl.data[j]!→i=j:=by decide
theorem tS (s:ByteArray) (i:Nat):dV s i=((s.data[i]?).map UInt8.toNat).getD 0:=by
 unfold dV;split
 ·rename_i h
  rw [Array.getElem?_eq_getElem (show i<s.data.size from h)];rfl
 ·rename_i h
  rw [Array.getElem?_eq_none (show s.data.size≤i from Nat.le_of_not_lt h)];rfl
theorem vJ (s:ByteArray) (a b:UInt8) (hs:s.data= #[a,b]) (ha:jJ a.toNat=true) (hb:okB b.toNat=true):dK s=true:=by
 have hz:s.size=2:=by show s.data.size=2;rw [hs];rfl
 have e0:dV s 0=a.toNat:=by rw [tS,hs];rfl
 have e1:dV s 1=b.toNat:=by rw [tS,hs];rfl
 refine pX (by omega) (by omega) ?_ (by rw [e0];exact ha) ?_
 ·rw [ByteArray.toList_eq,hs]
  apply Bool.eq_false_iff.2;intro e;have h:=congrArg List.length (eq_of_beq e);simp at h
 ·intro j hj
  rcases (show j=0∨j=1 by omega)with rfl|rfl
  ·rw [e0];exact Ik ha
  ·rw [e1];exact hb
theorem GR (k:UInt8) (hk:jJ k.toNat=true) (i:Nat) (hi:i<16):dK (aR k i)=true:=vJ _ k _ (oy k i hi) hk (LO i hi)
theorem DM (k:UInt8) (i j:Nat) (hi:i<16) (hj:j<16) (h:i≠j):Da (aR k i) (aR k j)=true:=by
 unfold Da;rw [pN k i hi,pN k j hj,Bool.not_eq_true'];apply Bool.eq_false_iff.2;intro e;have e2:=eq_of_beq e;simp only [List.cons.injEq,and_true,true_and]at e2;exact h (Jt i hi j hj e2)
theorem xn (k:UInt8) (hk:jJ k.toNat=true) (l:List ByteArray) (hl: ∀j (hj:j<l.length),l[j]=aR k j) (hn:l.length≤16) (j:Nat) (hj:j<l.length):iF 0 l[j] (l.take j)=0:=by
 unfold iF;have h1:dK l[j]=true:=by rw [hl j hj];exact GR k hk j (by omega)
 have h2:((l.take j).all fun p=>Da p l[j])=true:=by
  rw [List.all_eq_true];intro p hp;obtain ⟨i,hi,rfl⟩:=List.getElem_of_mem hp;rw [List.length_take]at hi;rw [List.getElem_take,hl i (by omega),hl j hj];exact DM k i j (by omega) (by omega) (by omega)
 rw [h1,h2,bY,bY]
theorem tu {F:Nat→Int→Int}: ∀n,(∀i,i<n→F i 0=0)→cZ F 0 n=0
 |0,_=>rfl
 |n+1,h=>by rw [ee,tu n (fun i hi=>h i (by omega)),h n (by omega)]
theorem jN {α:Type} {l:List α} {F:α→Nat→Int→Int} (h: ∀i (hi:i<l.length),F l[i] i 0=0):cZ (cg l F) 0 l.length=0:=
 tu _ fun i hi=>by rw [iT hi];exact h i hi
theorem cQ {lo hi x:Int} (h:lo≤x∧x≤hi):bP lo hi [x]=true:=cD.2 h
theorem Fi {lo hi:Int} {l:List Int} (h: ∀z∈l,lo≤z∧z≤hi):bP lo hi l=true:=Jb.2 h
theorem lq {c:ai} {l:List Int} {a b:Int} (h1:(l.length:Int)=c.hours) (h2: ∀z∈l,a≤z∧z≤b):fZ 0 c l a b=0:=by
 unfold fZ;rw [Fi h2,show decide ((l.length:Int)=c.hours)=true by simpa using h1,bY,bY]
theorem rk {c:ai} {i:Int} (h:0≤i∧i<c.aj.length):pV 0 c i=0:=by
 unfold pV;rw [cQ (by omega),bY]
theorem DN {l:List Int} (h:l.length≤1):iP l=true:=by
 rw [kT];intro j h1 h2;omega
theorem BN {c:ai} {l:List Int} (hc:1≤c.hours∧c.hours≤24) (h1:l.length≤1) (h2: ∀z∈l,0≤z∧z<c.hours):nO 0 c l=0:=by
 unfold nO;have h3:IntKind.i64.wrap (c.hours-1)=c.hours-1:=by rw [IntKind.wrap_i64];omega
 rw [h3,DN h1,Fi (fun z hz=>by have:=h2 z hz;omega),bY,bY]
theorem Ju {x:aK} (h1:x.aU.length≤8) (h2: ∀g∈x.aU,1≤g.width∧g.width≤15∧ -2≤g.aV∧g.aV≤40) (h3:pC x.aU x.aU.length=true) (h4:x.max=x.min+cE x.aU) (h5:0≤cE x.aU∧cE x.aU≤1000):mF 0 x=0:=by
 unfold mF;have a1:decide ((x.aU.length:Int)≤8)=true:=by rw [decide_eq_true_eq];omega
 have a2:x.aU.all jn=true:=by
  rw [List.all_eq_true];intro g hg;have:=h2 g hg;unfold jn;rw [cQ (by omega),cQ (by omega)];rfl
 have a3:decide (cE x.aU=IntKind.i64.wrap (x.max-x.min))=true:=by
  rw [decide_eq_true_eq,IntKind.wrap_i64];omega
 rw [a1,a2,h3,a3,bY,bY,bY,bY]
theorem Jv {hh nb:Nat} {c:ai} (h:fT hh nb c):jq c 0=0:=by
 unfold jq;have h0:=h.hours;have h1:=h.hr;have h2:=h.Nk;have h3:=h.lines;have h4:=h.aq;have h5:=h.stores;have h6:=h.aB;have h7:=h.outs
 rw [cQ (by omega),cQ (by omega),bY,bY,lq (by have:=h.res.1;omega) (fun z hz=>by have:=h.res.2 z hz;omega)]
 have hm: ∀n,n≤5→kz c 0 n=0:=by
  intro n;induction n with
  |zero=>intro _;rfl
  |succ n ih=>
   intro hn;rw [fM,ih (by omega)]
   have:decide (((dU c ((n:Int)+2)).length:Int)≤mY ((n:Int)+2))=true:=by
    rw [decide_eq_true_eq];rcases (show n=0∨n=1∨n=2∨n=3∨n=4 by omega)with rfl|rfl|rfl|rfl|rfl<;>simp [dU,mY]<;>omega
   rw [this,bY]
 exact hm 5 (Nat.le_refl _)
theorem vK {α:Type} (f:α→ByteArray) (l:List α) (k:UInt8) (hk:jJ k.toNat=true) (hl: ∀j (hj:j<l.length),f l[j]=aR k j) (hn:l.length≤16) (j:Nat) (hj:j<l.length):iF 0 (f l[j]) ((l.take j).map f)=0:=by
 have h:=xn k hk (l.map f) (fun i hi=>by rw [List.getElem_map];exact hl i (by simpa using hi)) (by simpa using hn) j (by simpa using hj);rw [List.getElem_map,←List.map_take]at h;exact h
theorem Jw {hh nb:Nat} {c:ai} (h:fT hh nb c):qc c 0=0:=by
 have h0:=h.hours;have h1:=h.hr;have h2:=h.Nk
 refine jN fun j hj=> ?_;have hb:=h.cS j hj;show tO c c.aj[j] ((c.aj.take j).map cN.name) 0=0;unfold tO;rw [vK cN.name c.aj 98 (by decide) (fun i hi=>(h.cS i hi).name) (by omega) j hj,lq (by rw [hb.len];omega) (fun z hz=>by have:=hb.cf z hz;omega),cQ (by have:=hb.lF;omega),bY]
theorem Jx {hh nb:Nat} {c:ai} (h:fT hh nb c):nj c 0=0:=by
 have h0:=h.hours;have h1:=h.hr;have h2:=h.Nk;have h3:=h.lines
 refine jN fun j hj=> ?_;obtain ⟨fr,tb,hf,ht,hn,hb⟩:=h.line j hj;show qT c c.lines[j] ((c.lines.take j).map aS.name) 0=0;unfold qT;have a1:=hb.r;have a2:=hb.s0;have a3:=hb.s1;have a4:=hb.cY;have a5:=hb.jH
 have b1:(c.lines[j].cR !=c.lines[j].kq)=true:=by rw [hb.cR,hb.kq,bne_iff_ne];omega
 have b2:(eU c.lines[j].rn c.lines[j].rd&&decide (0<c.lines[j].rn))=true:=by unfold eU;simp only [Bool.and_eq_true,decide_eq_true_eq];omega
 have b3:(eU c.lines[j].qD c.lines[j].uf&&decide (c.lines[j].qD≤0))=true:=by unfold eU;simp only [Bool.and_eq_true,decide_eq_true_eq];omega
 have b4:(eU c.lines[j].sk c.lines[j].wI&&decide (0≤c.lines[j].sk))=true:=by unfold eU;simp only [Bool.and_eq_true,decide_eq_true_eq];omega
 rw [vK aS.name c.lines 108 (by decide) (fun i hi=>by obtain ⟨_,_,_,_,_,q⟩:=h.line i hi;exact q.name) (by omega) j hj,b1,b2,b3,b4,cQ (by omega),cQ (by omega),rk (by rw [hb.cR];omega),rk (by rw [hb.kq];omega),bY,bY,bY,bY,bY,bY];exact BN (by omega) hb.Ll.1 (fun z hz=>by have:=hb.away z hz;omega)
theorem Jy {hh nb:Nat} {c:ai} (h:fT hh nb c):qd c 0=0:=by
 have h0:=h.hours;have h1:=h.hr;have h2:=h.Nk;have h3:=h.aq
 refine jN fun j hj=> ?_;obtain ⟨bu,RJ,u⟩:=h.unit j hj;show qU c c.aq[j] ((c.aq.take j).map aK.name) 0=0;have CH:=vK aK.name c.aq 117 (by decide) (fun i hi=>by obtain ⟨_,_,q⟩:=h.unit i hi;exact q.name) (by omega) j hj;generalize c.aq[j]=x at u CH⊢;have hs:=nB x.aU u.H5;have a1:=u.min;have a2:=u.Ln;have a3:=u.max;have a4:=u.fu;have a5:=u.fw;have a6:=u.dv;have a7:=u.cL;have a8:=u.dx
 have b1:=u.fz;have b2:=u.dy;have b3:=u.startTime;have b4:=u.dS;have b5:=u.dz;have b6:=u.dA;have b7:=u.aA;have b8:=u.bK
 have d1:=u.state;have d2:=u.hours;have d3:=u.output
 have c1:((x.state !=1)||decide (0<x.startTime))=true:=by
  by_cases q:x.state=1
  ·simp only [Bool.or_eq_true,decide_eq_true_eq];right;omega
  ·simp only [Bool.or_eq_true,bne_iff_ne];left;exact q
 have c2:((x.state !=1)||decide (x.hours≤x.startTime))=true:=by
  by_cases q:x.state=1
  ·simp only [Bool.or_eq_true,decide_eq_true_eq];right;have:=d2.2.2 q;omega
  ·simp only [Bool.or_eq_true,bne_iff_ne];left;exact q
 have c3:(if(x.state==2)=true then bP x.min x.max [x.output]else(x.output==0))=true:=by
  by_cases q:x.state=2
  ·rw [if_pos (by rw [q];rfl)];exact cQ (d3.1 q)
  ·rw [if_neg (by simpa using q)];simpa using d3.2 q
 unfold qU;rw [CH,c1,c2,c3,rk (by rw [u.cS];omega)];have e0:bP 0 1048576 [x.min]=true:=cQ (by omega);have e1:bP x.min 1048576 [x.max]=true:=cQ (by omega);have e2:bP 0 1048576 [x.fu]=true:=cQ (by omega);have e3:bP 0 1048576 [x.fw]=true:=cQ (by omega);have e4:bP 0 1048576 [x.dv]=true:=cQ (by omega);have e5:bP x.min x.max [x.cL]=true:=cQ (by omega);have e6:bP x.min x.max [x.dx]=true:=cQ (by omega);have e7:bP 0 24 [x.fz]=true:=cQ (by omega);have e8:bP 0 24 [x.dy]=true:=cQ (by omega);have e9:bP 0 24 [x.startTime]=true:=cQ (by omega);have f0:bP 0 1048576 [x.dS]=true:=cQ (by omega);have f1:bP 0 1048576 [x.dz]=true:=cQ (by omega);have f2:bP 0 24 [x.dA]=true:=cQ (by omega);have f3:bP 0 1048576 [x.aA]=true:=cQ (by omega);have f4:bP 0 1048576 [x.bK]=true:=cQ (by omega);have f5:bP 0 2 [x.state]=true:=cQ (by omega);have f6:bP 1 48 [x.hours]=true:=cQ (by omega);rw [e0,e1,e2,e3,e4,e5,e6,e7,e8,e9,f0,f1,f2,f3,f4,f5,f6];simp only [bY];rw [Ju (by omega) u.H5 u.M6 u.max (by omega)];exact BN (by omega) u.Ll.1 (fun z hz=>by have:=u.away z hz;omega)
theorem GS {hh nb:Nat} {c:ai} (h:fT hh nb c):nk c 0=0:=by
 have h2:=h.Nk;have h3:=h.stores
 refine jN fun j hj=> ?_;have hm:=h.store _ (List.getElem_mem hj);obtain rfl:j=0:=by omega
 show ng c c.stores[0] [] 0=0;generalize c.stores[0]=x at hm⊢;have a1:=hm.cS;have a2:=hm.capacity;have a3:=hm.initial;have a4:=hm.final;have a5:=hm.fS;have a6:=hm.discharge;have a7:=hm.XQ
 unfold ng;have b1:((eU x.en x.ed&&decide (0<x.en))&&decide (x.en≤x.ed))=true:=by unfold eU;simp only [Bool.and_eq_true,decide_eq_true_eq];omega
 have b2:iF 0 x.name []=0:=by
  unfold iF;rw [vJ x.name 115 48 (by rw [hm.name]) (by decide) (by decide),List.all_nil,bY,bY]
 have b3:bP 0 1048576 [x.capacity]=true:=cQ (by omega);have b4:bP 0 x.capacity [x.initial]=true:=cQ (by omega);have b5:bP 0 x.capacity [x.final]=true:=cQ (by omega);have b6:bP 0 1048576 [x.fS]=true:=cQ (by omega);have b7:bP 0 1048576 [x.discharge]=true:=cQ (by omega);rw [b1,b2,b3,b4,b5,b6,b7,rk (by omega)];simp only [bY]
theorem LP {hh nb:Nat} {c:ai} (h:fT hh nb c):vx c 0=0:=by
 have h0:=h.hours;have h2:=h.Nk;have h3:=h.aB
 refine jN fun j hj=> ?_;have hm:=h.tie _ (List.getElem_mem hj);obtain rfl:j=0:=by omega
 show zx c c.aB[0] [] 0=0;generalize c.aB[0]=x at hm⊢;unfold zx
 have b2:iF 0 x.name []=0:=by
  unfold iF;rw [vJ x.name 116 48 (by rw [hm.name]) (by decide) (by decide),List.all_nil,bY,bY]
 rw [b2,rk (by have:=hm.cS;omega),lq (by have:=hm.imp.1;omega) (fun z hz=>by have:=hm.imp.2 z hz;omega),lq (by have:=hm.exp.1;omega) (fun z hz=>by have:=hm.exp.2 z hz;omega),lq (by have:=hm.aV.1;omega) (fun z hz=>by have:=hm.aV.2 z hz;omega)]
theorem fT.accept {hh nb:Nat} {c:ai} (h:fT hh nb c) (ho:c.outs= []):dW c=0:=by
 unfold dW;rw [Jv h,Jw h,Jx h,Jy h,GS h,LP h];have h1:vA c 0=0:=jN fun j hj=>absurd hj (by rw [ho];simp);rw [h1];exact tu _ fun i _=>jN fun j hj=>absurd hj (by rw [ho];simp)
end Go.Proofs.YtkpngkdgphojlaaGreat
