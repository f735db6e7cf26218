/- Texts of the proof. -/
import Derived.Test.YtkpngkdgphojlaaGreatCc21
set_option linter.all false
namespace Go.Proofs.YtkpngkdgphojlaaGreat
open Go.RowKit
structure js (x:cN) (i:Nat) (hours:Nat):Prop where
 name:x.name=aL 98 i
 len:x.bU.length=hours
 bU: ∀z∈x.bU,0≤z∧z<14
 gF:x.gF=0∨(100≤x.gF∧x.gF<300)
structure lF (x:bp) (nb:Nat):Prop where
 name:x.name={data:= #[115,48]}
 cX:0≤x.cX∧x.cX<nb
 capacity:0≤x.capacity∧x.capacity<20
 initial:0≤x.initial∧x.initial≤x.capacity
 final:0≤x.final∧x.final≤x.capacity
 dI:0≤x.dI∧x.dI<8
 discharge:0≤x.discharge∧x.discharge<8
 Ue:1≤x.en∧x.en≤4∧x.ed=4
structure CQ (x:dW) (nb hours:Nat):Prop where
 name:x.name={data:= #[116,48]}
 cX:0≤x.cX∧x.cX<nb
 imp:x.imp.length=hours∧ ∀z∈x.imp,0≤z∧z<12
 exp:x.exp.length=hours∧ ∀z∈x.exp,0≤z∧z<12
 aX:x.aX.length=hours∧ ∀z∈x.aX,0≤z∧z<40
def fC (l:List aS) (nb hh:Nat):Prop:= ∀j (hj:j<l.length),∃fr tb,fr<nb∧tb<nb∧fr≠tb∧oy l[j] j fr tb hh
def iU (l:List aF) (nb hh:Nat):Prop:= ∀j (hj:j<l.length),∃bu,bu<nb∧qz l[j] j bu hh
def oA (l:List bI) (nl nu:Nat):Prop:= ∀j (hj:j<l.length),vV l[j] j nl nu
structure fD (hh nb:Nat) (c:aq):Prop where
 hours:c.hours=(hh:Int)
 hr:1≤hh∧hh≤3
 res:c.az.length=hh∧ ∀z∈c.az,0≤z∧z<5
 Nb:c.au.length=nb∧1≤nb∧nb≤4
 cX: ∀j (hj:j<c.au.length),js c.au[j] j hh
 lines:c.lines.length≤7
 line:fC c.lines nb hh
 aj:1≤c.aj.length∧c.aj.length≤3
 unit:iU c.aj nb hh
 stores:c.stores.length≤1
 store: ∀s∈c.stores,lF s nb
 aN:c.aN.length≤1
 tie: ∀t∈c.aN,CQ t nb hh
 outs:c.outs.length≤3
 out:oA c.outs c.lines.length c.aj.length
theorem fD.lens {hh nb:Nat} {c:aq} (h:fD hh nb c):nN c:=by
 have h1:=h.Nb;have h2:=h.lines;have h3:=h.aj;have h4:=h.stores;have h5:=h.aN;have h6:=h.outs
 refine ⟨by omega,by omega,by omega,by omega,by omega,by omega,fun o ho=> ?_⟩;obtain ⟨j,hj,rfl⟩:=List.getElem_of_mem ho;have:=(h.out j hj).moves.len;omega
theorem lG: ∀(l:List cL),(∀g∈l,1≤g.width∧g.width≤15∧ -2≤g.aX∧g.aX≤40)→0≤bS l∧bS l≤15*l.length
 | [],_=>by simp [bS]
 |g::l,h=>by
  have h1:=lG l (fun g hg=>h g (List.mem_cons_of_mem _ hg));have h2:=h g (by simp);have h3:bS (g::l)=g.width+bS l:=by simp [bS]
  rw [h3,List.length_cons];omega
theorem n9 (k:UInt8) (i:Nat) (hi:i<16):(aL k i).toList= [k,DY.data[i]!]:=by
 rw [ByteArray.toList_eq,mQ k i hi]
theorem JW: ∀i,i<16→okB (DY.data[i]!).toNat=true:=by decide
theorem G9: ∀i,i<16→ ∀j,j<16→DY.data[i]! =DY.data[j]!→i=j:=by decide
theorem mR (s:ByteArray) (i:Nat):dr s i=((s.data[i]?).map UInt8.toNat).getD 0:=by
 unfold dr;split
 ·rename_i h
  rw [Array.getElem?_eq_getElem (show i<s.data.size from h)];rfl
 ·rename_i h
  rw [Array.getElem?_eq_none (show s.data.size≤i from Nat.le_of_not_lt h)];rfl
theorem tX (s:ByteArray) (a b:UInt8) (hs:s.data= #[a,b]) (ha:iu a.toNat=true) (hb:okB b.toNat=true):cZ s=true:=by
 have hz:s.size=2:=by show s.data.size=2;rw [hs];rfl
 have e0:dr s 0=a.toNat:=by rw [mR,hs];rfl
 have e1:dr s 1=b.toNat:=by rw [mR,hs];rfl
 refine lj (by omega) (by omega) ?_ (by rw [e0];exact ha) ?_
 ·rw [ByteArray.toList_eq,hs]
  apply Bool.eq_false_iff.2;intro e;have h:=congrArg List.length (eq_of_beq e);simp at h
 ·intro j hj
  rcases (show j=0∨j=1 by omega)with rfl|rfl
  ·rw [e0];exact yr ha
  ·rw [e1];exact hb
theorem Ed (k:UInt8) (hk:iu k.toNat=true) (i:Nat) (hi:i<16):cZ (aL k i)=true:=tX _ k _ (mQ k i hi) hk (JW i hi)
theorem BC (k:UInt8) (i j:Nat) (hi:i<16) (hj:j<16) (h:i≠j):xN (aL k i) (aL k j)=true:=by
 unfold xN;rw [n9 k i hi,n9 k j hj,Bool.not_eq_true'];apply Bool.eq_false_iff.2;intro e;have e2:=eq_of_beq e;simp only [List.cons.injEq,and_true,true_and]at e2;exact h (G9 i hi j hj e2)
theorem uV (k:UInt8) (hk:iu k.toNat=true) (l:List ByteArray) (hl: ∀j (hj:j<l.length),l[j]=aL k j) (hn:l.length≤16) (j:Nat) (hj:j<l.length):eG 0 l[j] (l.take j)=0:=by
 unfold eG;have h1:cZ l[j]=true:=by rw [hl j hj];exact Ed k hk j (by omega)
 have h2:((l.take j).all fun p=>xN p l[j])=true:=by
  rw [List.all_eq_true];intro p hp;obtain ⟨i,hi,rfl⟩:=List.getElem_of_mem hp;rw [List.length_take]at hi;rw [List.getElem_take,hl i (by omega),hl j hj];exact BC k i j (by omega) (by omega) (by omega)
 rw [h1,h2,bk,bk]
theorem nC {F:Nat→Int→Int}: ∀n,(∀i,i<n→F i 0=0)→cM F 0 n=0
 |0,_=>rfl
 |n+1,h=>by rw [dE,nC n (fun i hi=>h i (by omega)),h n (by omega)]
theorem dU {α:Type} {l:List α} {F:α→Nat→Int→Int} (h: ∀i (hi:i<l.length),F l[i] i 0=0):cM (bW l F) 0 l.length=0:=
 nC _ fun i hi=>by rw [gJ hi];exact h i hi
theorem bR {lo hi x:Int} (h:lo≤x∧x≤hi):aY lo hi [x]=true:=b_.2 h
theorem CR {lo hi:Int} {l:List Int} (h: ∀z∈l,lo≤z∧z≤hi):aY lo hi l=true:=yR.2 h
theorem gT {c:aq} {l:List Int} {a b:Int} (h1:(l.length:Int)=c.hours) (h2: ∀z∈l,a≤z∧z≤b):eo 0 c l a b=0:=by
 unfold eo;rw [CR h2,show decide ((l.length:Int)=c.hours)=true by simpa using h1,bk,bk]
theorem nD {c:aq} {i:Int} (h:0≤i∧i<c.au.length):kD 0 c i=0:=by
 unfold kD;rw [bR (by omega),bk]
theorem BD {l:List Int} (h:l.length≤1):gG l=true:=by
 rw [jB];intro j h1 h2;omega
theorem tY {c:aq} {l:List Int} (hc:1≤c.hours∧c.hours≤24) (h1:l.length≤1) (h2: ∀z∈l,0≤z∧z<c.hours):j2 0 c l=0:=by
 unfold j2;have h3:IntKind.i64.wrap (c.hours-1)=c.hours-1:=by rw [IntKind.wrap_i64];omega
 rw [h3,BD h1,CR (fun z hz=>by have:=h2 z hz;omega),bk,bk]
theorem G_ {x:aF} (h1:x.aI.length≤8) (h2: ∀g∈x.aI,1≤g.width∧g.width≤15∧ -2≤g.aX∧g.aX≤40) (h3:mD x.aI x.aI.length=true) (h4:x.max=x.min+bS x.aI) (h5:0≤bS x.aI∧bS x.aI≤1000):jI 0 x=0:=by
 unfold jI;have a1:decide ((x.aI.length:Int)≤8)=true:=by rw [decide_eq_true_eq];omega
 have a2:x.aI.all gH=true:=by
  rw [List.all_eq_true];intro g hg;have:=h2 g hg;unfold gH;rw [bR (by omega),bR (by omega)];rfl
 have a3:decide (bS x.aI=IntKind.i64.wrap (x.max-x.min))=true:=by
  rw [decide_eq_true_eq,IntKind.wrap_i64];omega
 rw [a1,a2,h3,a3,bk,bk,bk,bk]
theorem G' {hh nb:Nat} {c:aq} (h:fD hh nb c):gz c 0=0:=by
 unfold gz;have h0:=h.hours;have h1:=h.hr;have h2:=h.Nb;have h3:=h.lines;have h4:=h.aj;have h5:=h.stores;have h6:=h.aN;have h7:=h.outs
 rw [bR (by omega),bR (by omega),bk,bk,gT (by have:=h.res.1;omega) (fun z hz=>by have:=h.res.2 z hz;omega)]
 have hm: ∀n,n≤5→iI c 0 n=0:=by
  intro n;induction n with
  |zero=>intro _;rfl
  |succ n ih=>
   intro hn;rw [ep,ih (by omega)]
   have:decide (((df c ((n:Int)+2)).length:Int)≤jE ((n:Int)+2))=true:=by
    rw [decide_eq_true_eq];rcases (show n=0∨n=1∨n=2∨n=3∨n=4 by omega)with rfl|rfl|rfl|rfl|rfl<;>simp [df,jE]<;>omega
   rw [this,bk]
 exact hm 5 (Nat.le_refl _)
theorem tZ {α:Type} (f:α→ByteArray) (l:List α) (k:UInt8) (hk:iu k.toNat=true) (hl: ∀j (hj:j<l.length),f l[j]=aL k j) (hn:l.length≤16) (j:Nat) (hj:j<l.length):eG 0 (f l[j]) ((l.take j).map f)=0:=by
 have h:=uV k hk (l.map f) (fun i hi=>by rw [List.getElem_map];exact hl i (by simpa using hi)) (by simpa using hn) j (by simpa using hj);rw [List.getElem_map,←List.map_take]at h;exact h
theorem Ha {hh nb:Nat} {c:aq} (h:fD hh nb c):mI c 0=0:=by
 have h0:=h.hours;have h1:=h.hr;have h2:=h.Nb
 refine dU fun j hj=> ?_;have hb:=h.cX j hj;show nZ c c.au[j] ((c.au.take j).map cN.name) 0=0;unfold nZ;rw [tZ cN.name c.au 98 (by decide) (fun i hi=>(h.cX i hi).name) (by omega) j hj,gT (by rw [hb.len];omega) (fun z hz=>by have:=hb.bU z hz;omega),bR (by have:=hb.gF;omega),bk]
theorem Hb {hh nb:Nat} {c:aq} (h:fD hh nb c):ko c 0=0:=by
 have h0:=h.hours;have h1:=h.hr;have h2:=h.Nb;have h3:=h.lines
 refine dU fun j hj=> ?_;obtain ⟨fr,tb,hf,ht,hn,hb⟩:=h.line j hj;show oW c c.lines[j] ((c.lines.take j).map aS.name) 0=0;unfold oW;have a1:=hb.r;have a2:=hb.s0;have a3:=hb.s1;have a4:=hb.cf;have a5:=hb.gw
 have b1:(c.lines[j].cd !=c.lines[j].ie)=true:=by rw [hb.cd,hb.ie,bne_iff_ne];omega
 have b2:(bq c.lines[j].rn c.lines[j].rd&&decide (0<c.lines[j].rn))=true:=by unfold bq;simp only [Bool.and_eq_true,decide_eq_true_eq];omega
 have b3:(bq c.lines[j].iH c.lines[j].kq&&decide (c.lines[j].iH≤0))=true:=by unfold bq;simp only [Bool.and_eq_true,decide_eq_true_eq];omega
 have b4:(bq c.lines[j].iO c.lines[j].lg&&decide (0≤c.lines[j].iO))=true:=by unfold bq;simp only [Bool.and_eq_true,decide_eq_true_eq];omega
 rw [tZ aS.name c.lines 108 (by decide) (fun i hi=>by obtain ⟨_,_,_,_,_,q⟩:=h.line i hi;exact q.name) (by omega) j hj,b1,b2,b3,b4,bR (by omega),bR (by omega),nD (by rw [hb.cd];omega),nD (by rw [hb.ie];omega),bk,bk,bk,bk,bk,bk];exact tY (by omega) hb.MV.1 (fun z hz=>by have:=hb.away z hz;omega)
theorem Hc {hh nb:Nat} {c:aq} (h:fD hh nb c):mJ c 0=0:=by
 have h0:=h.hours;have h1:=h.hr;have h2:=h.Nb;have h3:=h.aj
 refine dU fun j hj=> ?_;obtain ⟨bu,Qx,u⟩:=h.unit j hj;show lQ c c.aj[j] ((c.aj.take j).map aF.name) 0=0;have vx:=tZ aF.name c.aj 117 (by decide) (fun i hi=>by obtain ⟨_,_,q⟩:=h.unit i hi;exact q.name) (by omega) j hj;generalize c.aj[j]=x at u vx⊢;have hs:=lG x.aI u.EP;have a1:=u.min;have a2:=u.JQ;have a3:=u.max;have a4:=u.cg;have a5:=u.cj;have a6:=u.a_;have a7:=u.aW;have a8:=u.bf
 have b1:=u.bQ;have b2:=u.bg;have b3:=u.startTime;have b4:=u.bA;have b5:=u.bh;have b6:=u.bj;have b7:=u.az;have b8:=u.aJ
 have d1:=u.state;have d2:=u.hours;have d3:=u.output
 have c1:((x.state !=1)||decide (0<x.startTime))=true:=by
  by_cases q:x.state=1
  ·simp only [Bool.or_eq_true,decide_eq_true_eq];right;omega
  ·simp only [Bool.or_eq_true,bne_iff_ne];left;exact q
 have c2:((x.state !=1)||decide (x.hours≤x.startTime))=true:=by
  by_cases q:x.state=1
  ·simp only [Bool.or_eq_true,decide_eq_true_eq];right;have:=d2.2.2 q;omega
  ·simp only [Bool.or_eq_true,bne_iff_ne];left;exact q
 have c3:(if(x.state==2)=true then aY x.min x.max [x.output]else(x.output==0))=true:=by
  by_cases q:x.state=2
  ·rw [if_pos (by rw [q];rfl)];exact bR (d3.1 q)
  ·rw [if_neg (by simpa using q)];simpa using d3.2 q
 unfold lQ;rw [vx,c1,c2,c3,nD (by rw [u.cX];omega)];have e0:aY 0 1048576 [x.min]=true:=bR (by omega);have e1:aY x.min 1048576 [x.max]=true:=bR (by omega);have e2:aY 0 1048576 [x.cg]=true:=bR (by omega);have e3:aY 0 1048576 [x.cj]=true:=bR (by omega);have e4:aY 0 1048576 [x.a_]=true:=bR (by omega);have e5:aY x.min x.max [x.aW]=true:=bR (by omega);have e6:aY x.min x.max [x.bf]=true:=bR (by omega);have e7:aY 0 24 [x.bQ]=true:=bR (by omega);have e8:aY 0 24 [x.bg]=true:=bR (by omega);have e9:aY 0 24 [x.startTime]=true:=bR (by omega);have f0:aY 0 1048576 [x.bA]=true:=bR (by omega);have f1:aY 0 1048576 [x.bh]=true:=bR (by omega);have f2:aY 0 24 [x.bj]=true:=bR (by omega);have f3:aY 0 1048576 [x.az]=true:=bR (by omega);have f4:aY 0 1048576 [x.aJ]=true:=bR (by omega);have f5:aY 0 2 [x.state]=true:=bR (by omega);have f6:aY 1 48 [x.hours]=true:=bR (by omega);rw [e0,e1,e2,e3,e4,e5,e6,e7,e8,e9,f0,f1,f2,f3,f4,f5,f6];simp only [bk];rw [G_ (by omega) u.EP u.wU u.max (by omega)];exact tY (by omega) u.MV.1 (fun z hz=>by have:=u.away z hz;omega)
theorem Ee {hh nb:Nat} {c:aq} (h:fD hh nb c):j8 c 0=0:=by
 have h2:=h.Nb;have h3:=h.stores
 refine dU fun j hj=> ?_;have hm:=h.store _ (List.getElem_mem hj);obtain rfl:j=0:=by omega
 show ll c c.stores[0] [] 0=0;generalize c.stores[0]=x at hm⊢;have a1:=hm.cX;have a2:=hm.capacity;have a3:=hm.initial;have a4:=hm.final;have a5:=hm.dI;have a6:=hm.discharge;have a7:=hm.Ue
 unfold ll;have b1:((bq x.en x.ed&&decide (0<x.en))&&decide (x.en≤x.ed))=true:=by unfold bq;simp only [Bool.and_eq_true,decide_eq_true_eq];omega
 have b2:eG 0 x.name []=0:=by
  unfold eG;rw [tX x.name 115 48 (by rw [hm.name]) (by decide) (by decide),List.all_nil,bk,bk]
 have b3:aY 0 1048576 [x.capacity]=true:=bR (by omega);have b4:aY 0 x.capacity [x.initial]=true:=bR (by omega);have b5:aY 0 x.capacity [x.final]=true:=bR (by omega);have b6:aY 0 1048576 [x.dI]=true:=bR (by omega);have b7:aY 0 1048576 [x.discharge]=true:=bR (by omega);rw [b1,b2,b3,b4,b5,b6,b7,nD (by omega)];simp only [bk]
theorem JX {hh nb:Nat} {c:aq} (h:fD hh nb c):qZ c 0=0:=by
 have h0:=h.hours;have h2:=h.Nb;have h3:=h.aN
 refine dU fun j hj=> ?_;have hm:=h.tie _ (List.getElem_mem hj);obtain rfl:j=0:=by omega
 show wE c c.aN[0] [] 0=0;generalize c.aN[0]=x at hm⊢;unfold wE
 have b2:eG 0 x.name []=0:=by
  unfold eG;rw [tX x.name 116 48 (by rw [hm.name]) (by decide) (by decide),List.all_nil,bk,bk]
 rw [b2,nD (by have:=hm.cX;omega),gT (by have:=hm.imp.1;omega) (fun z hz=>by have:=hm.imp.2 z hz;omega),gT (by have:=hm.exp.1;omega) (fun z hz=>by have:=hm.exp.2 z hz;omega),gT (by have:=hm.aX.1;omega) (fun z hz=>by have:=hm.aX.2 z hz;omega)]
theorem fD.accept {hh nb:Nat} {c:aq} (h:fD hh nb c) (ho:c.outs= []):bT c=0:=by
 unfold bT;rw [G' h,Ha h,Hb h,Hc h,Ee h,JX h];have h1:q9 c 0=0:=dU fun j hj=>absurd hj (by rw [ho];simp);rw [h1];exact nC _ fun i _=>dU fun j hj=>absurd hj (by rw [ho];simp)
def dx (n:UInt8) (mx:Int) (sa:Option Addr) (sc:Nat):aF:=⟨{data:= #[n]},0,0,mx,sa,sc,[⟨mx,2⟩],7,20,20,20,20,1,1,0,0,0,1,0,0,none,0,[],2,1,15⟩
structure jR (d:Int) (c:aq):Prop where
 hours:c.hours=1
 az:c.az= [0]
 au: ∃da dc,c.au= [⟨{data:= #[97]},da,dc,[d],0⟩]
 lines:c.lines= []
 aj: ∃s0 c0 s1 c1 s2 c2,c.aj= [dx 103 30 s0 c0,dx 104 30 s1 c1,dx 105 20 s2 c2]
 stores:c.stores= []
 aN:c.aN= []
 outs:c.outs= []
theorem jR.lens {d:Int} {c:aq} (h:jR d c):nN c:=by
 obtain ⟨da,dc,hb⟩:=h.au;obtain ⟨s0,c0,s1,c1,s2,c2,hu⟩:=h.aj;refine ⟨by rw [hb];show 1≤1000000;decide,by rw [h.lines];decide,by rw [hu];show 3≤1000000;decide,by rw [h.stores];decide,by rw [h.aN];decide,by rw [h.outs];decide,fun o ho=>by rw [h.outs]at ho;cases ho⟩
theorem zv (a:UInt8) (ha:iu a.toNat=true):cZ {data:= #[a]}=true:=by
 have e0:dr {data:= #[a]} 0=a.toNat:=by rw [mR];rfl
 refine lj (by show 1≤(#[a]:Array UInt8).size;exact Nat.le_refl _) (by show(#[a]:Array UInt8).size≤16;show 1≤16;decide) ?_ (by rw [e0];exact ha) ?_
 ·rw [ByteArray.toList_eq]
  apply Bool.eq_false_iff.2;intro e;have h:=congrArg List.length (eq_of_beq e);simp at h
 ·intro j hj
  obtain rfl:j=0:=by
   have:(({data:= #[a]}:ByteArray)).size=1:=rfl;omega
  rw [e0];exact yr ha
theorem qB {c:aq} (n:UInt8) (hn:iu n.toNat=true) (mx:Int) (hm:20≤mx∧mx≤100) (sa:Option Addr) (sc:Nat) (prev:List ByteArray) (hp:prev.all (fun p=>xN p {data:= #[n]})=true) (hb:0<c.au.length) (hc:c.hours=1):lQ c (dx n mx sa sc) prev 0=0:=by
 have vx:eG 0 {data:= #[n]} prev=0:=by unfold eG;rw [zv n hn,hp,bk,bk]
 unfold lQ dx;dsimp only
 rw [vx,nD (by omega)];have e1:aY 0 1048576 [mx]=true:=bR (by omega);have e2:aY 0 mx [20]=true:=bR (by omega);have e3:aY 0 mx [15]=true:=bR (by omega);rw [e1,e2,e3,show aY 0 1048576 [(0:Int)]=true from rfl,show aY 0 1048576 [(7:Int)]=true from rfl,show aY 0 1048576 [(20:Int)]=true from rfl,show aY 0 24 [(1:Int)]=true from rfl,show aY 0 24 [(0:Int)]=true from rfl,show aY 0 2 [(2:Int)]=true from rfl,show aY 1 48 [(1:Int)]=true from rfl];simp only [bk,show(((2:Int) !=1)||decide ((0:Int)<0))=true from rfl,show(((2:Int) !=1)||decide ((1:Int)≤0))=true from rfl,show((2:Int)==2)=true from rfl,if_true];have yx:bS [(⟨mx,2⟩:cL)]=mx:=by simp [bS]
 have hs:jI 0 (⟨{data:= #[n]},0,0,mx,sa,sc,[⟨mx,2⟩],7,20,20,20,20,1,1,0,0,0,1,0,0,none,0,[],2,1,15⟩:aF)=0:=by
  unfold jI;dsimp only
  have a1:decide ((([(⟨mx,2⟩:cL)].length:Nat):Int)≤8)=true:=rfl
  have a2: [(⟨mx,2⟩:cL)].all gH=true:=by
   rw [List.all_cons,List.all_nil,Bool.and_true];unfold gH;dsimp only
   rw [bR (by omega),bR (by omega)];rfl
  have a3:decide (bS [(⟨mx,2⟩:cL)]=IntKind.i64.wrap (mx-0))=true:=by
   rw [decide_eq_true_eq,yx,IntKind.wrap_i64];omega
  rw [a1,a2,show mD [(⟨mx,2⟩:cL)] [(⟨mx,2⟩:cL)].length=true from rfl,a3,bk,bk,bk,bk]
 rw [hs];exact tY (by omega) (by show 0≤1;omega) (fun z hz=>by cases hz)
theorem jR.accept {d:Int} {c:aq} (h:jR d c) (hd:0≤d∧d≤1000):bT c=0:=by
 obtain ⟨da,dc,hb⟩:=h.au;obtain ⟨s0,c0,s1,c1,s2,c2,hu⟩:=h.aj;have hh:=h.hours;have hbl:c.au.length=1:=by rw [hb];rfl
 have f0:gz c 0=0:=by
  unfold gz;rw [bR (by omega),bR (by omega),bk,bk,gT (by rw [h.az];simp [hh]) (fun z hz=>by rw [h.az]at hz;simp at hz;omega)]
  have hm: ∀n,n≤5→iI c 0 n=0:=by
   intro n;induction n with
   |zero=>intro _;rfl
   |succ n ih=>
    intro hn;rw [ep,ih (by omega)]
    have:decide (((df c ((n:Int)+2)).length:Int)≤jE ((n:Int)+2))=true:=by
     rw [decide_eq_true_eq];rcases (show n=0∨n=1∨n=2∨n=3∨n=4 by omega)with rfl|rfl|rfl|rfl|rfl<;>simp [df,jE,h.lines,h.stores,h.aN,h.outs,hu]
    rw [this,bk]
  exact hm 5 (Nat.le_refl _)
 have f1:mI c 0=0:=by
  refine dU fun j hj=> ?_;obtain rfl:j=0:=by omega
  show nZ c c.au[0] [] 0=0;have e0:c.au[0]=⟨{data:= #[97]},da,dc,[d],0⟩:=by simp [hb]
  rw [e0];unfold nZ;dsimp only
  have vx:eG 0 {data:= #[97]} []=0:=by unfold eG;rw [zv 97 (by decide),List.all_nil,bk,bk]
  rw [vx,gT (by rw [hh];rfl) (fun z hz=>by rw [List.mem_singleton]at hz;omega),bR (by omega),bk]
 have f2:ko c 0=0:=dU fun j hj=>absurd hj (by rw [h.lines];simp)
 have f3:mJ c 0=0:=by
  refine dU fun j hj=> ?_;have hj3:j<3:=by rw [hu]at hj;exact hj
  have g0:=qB (c:=c) 103 (by decide) 30 (by omega) s0 c0 [] (by rfl) (by omega) hh;have g1:=qB (c:=c) 104 (by decide) 30 (by omega) s1 c1 [{data:= #[103]}] (by unfold xN;rw [List.all_cons,List.all_nil,ByteArray.toList_eq,ByteArray.toList_eq];rfl) (by omega) hh;have g2:=qB (c:=c) 105 (by decide) 20 (by omega) s2 c2 [{data:= #[103]},{data:= #[104]}] (by unfold xN;simp only [List.all_cons,List.all_nil,ByteArray.toList_eq];rfl) (by omega) hh;show lQ c c.aj[j] ((c.aj.take j).map aF.name) 0=0;rcases (show j=0∨j=1∨j=2 by omega)with rfl|rfl|rfl
  ·have e1:c.aj[0]=dx 103 30 s0 c0:=by simp [hu]
   rw [e1];exact g0
  ·have e1:c.aj[1]=dx 104 30 s1 c1:=by simp [hu]
   rw [e1,show(c.aj.take 1).map aF.name= [{data:= #[103]}] by rw [hu];rfl];exact g1
  ·have e1:c.aj[2]=dx 105 20 s2 c2:=by simp [hu]
   rw [e1,show(c.aj.take 2).map aF.name= [{data:= #[103]},{data:= #[104]}] by rw [hu];rfl];exact g2
 have f4:j8 c 0=0:=dU fun j hj=>absurd hj (by rw [h.stores];simp);have f5:qZ c 0=0:=dU fun j hj=>absurd hj (by rw [h.aN];simp);have f6:q9 c 0=0:=dU fun j hj=>absurd hj (by rw [h.outs];simp);unfold bT;rw [f0,f1,f2,f3,f4,f5,f6];exact nC _ fun i _=>dU fun j hj=>absurd hj (by rw [h.outs];simp)
theorem Hd (x:Int):desc [x,x]= [x,x]:=by
 have h:=fJ [x,x];exact List.perm_replicate.1 (show(desc [x,x]).Perm (List.replicate 2 x)from h)
theorem jR.tF {d:Int} {c:aq} (h:jR d c) (hd:50≤d∧d≤51):fw c 0 [0,1]=if d=50 then 1 else 2:=by
 obtain ⟨da,dc,hb⟩:=h.au;obtain ⟨s0,c0,s1,c1,s2,c2,hu⟩:=h.aj;have a0:bC c 0 0=30:=by unfold bC vM tG;rw [hu];rfl
 have a1:bC c 0 1=30:=by unfold bC vM tG;rw [hu];rfl
 have a2:bC c 0 2=20:=by unfold bC vM tG;rw [hu];rfl
 have hs:gu c 0 (aC [0,1]) c.aj.length=20:=by
  rw [show c.aj.length=3 by rw [hu];rfl];unfold gu;rw [show((List.range 3).filter fun(u:Nat)=> !hasB (aC [0,1]) (u:Int))= [2] by rfl];simp [a2]
 have hn:kK c 0=d:=by
  unfold kK fl gY jr;rw [h.az,hb,h.stores,h.aN];simp [eF]
 unfold fw;rw [show((0:Nat):Int)=0 from rfl,hs,hn,show([0,1]:List Nat).map (bC c 0)= [30,30] by simp [a0,a1],Hd];unfold Go.Proofs.YtkpngkdgphojlaaGreat.tF;rw [if_neg (by omega)];unfold Go.Proofs.YtkpngkdgphojlaaGreat.tF;by_cases q:d=50
 ·rw [if_pos (by omega),if_pos q]
 ·rw [if_neg (by omega),if_neg q]
  unfold Go.Proofs.YtkpngkdgphojlaaGreat.tF;rfl
theorem jR.kP {d:Int} {c:aq} (h:jR d c) (hd:50≤d∧d≤51):Go.Proofs.YtkpngkdgphojlaaGreat.kP c 0 [0,1]=(if d=50 then 1 else 2,0):=by
 obtain ⟨s0,c0,s1,c1,s2,c2,hu⟩:=h.aj;unfold Go.Proofs.YtkpngkdgphojlaaGreat.kP;rw [if_neg (by rw [h.accept (by omega)];simp),if_neg (by unfold eN;rw [h.hours];decide),if_neg (by rw [show c.aj.length=3 by rw [hu];rfl];decide)];have e:=h.tF hd;rw [show((0:Int)).toNat=0 from rfl,show([0,1]:List Int).map Int.toNat= [0,1]from rfl,e];split<;>rfl
theorem jR.fz {d:Int} {c:aq} (h:jR d c) (hd:50≤d∧d≤51) (x:cq) (hx:x.kind=0∧x.hour=0∧x.aj= [0,1]∧x.least=2∧x.unit=0∧x.length=0):Go.Proofs.YtkpngkdgphojlaaGreat.fz c x=if d=50 then 72 else 0:=by
 obtain ⟨s0,c0,s1,c1,s2,c2,hu⟩:=h.aj;obtain ⟨x1,x2,x3,x4,x5,x6⟩:=hx
 have hf:cQ c x=true:=by
  unfold cQ;rw [if_pos x1,x2,x3,x4,x5,x6];unfold eN gR;rw [h.hours,show c.aj.length=3 by rw [hu];rfl];decide
 have e:=h.tF hd
 have hv:fW c x=decide (d=51):=by
  unfold fW;rw [if_pos x1,x2,x3,x4,show((0:Int)).toNat=0 from rfl,show([0,1]:List Int).map Int.toNat= [0,1]from rfl,e,decide_eq_decide];split<;>simp<;>omega
 unfold Go.Proofs.YtkpngkdgphojlaaGreat.fz;rw [if_neg (by rw [h.accept (by omega)];simp),hf,hv,Bool.true_and];by_cases q:d=50
 ·rw [if_pos q,if_neg (by rw [decide_eq_true_eq];omega)]
 ·rw [if_neg q,if_pos (by rw [decide_eq_true_eq];omega)]
theorem oB (x:Nat):val [x]=x:=by simp [val]
theorem uW (n:Nat):val (List.replicate n 0)=0:=by
 induction n with
 |zero=>rfl
 |succ n ih=>simp [List.replicate_succ,val,ih]
theorem gm {l:List Nat} (h:Small l) (i:Nat):limb l i<4294967296:=by
 unfold limb;by_cases hi:i<l.length
 ·rw [List.getElem?_eq_getElem hi];exact h _ (List.getElem_mem hi)
 ·rw [List.getElem?_eq_none (by omega)];simp
theorem qC {l:List Nat} {k:Nat} (h:k<l.length):l.take (k+1)=l.take k++ [limb l k]:=by
 rw [List.take_succ_eq_append_getElem h];simp [limb,h]
theorem fL {l:List Nat} {k:Nat} (h:k<l.length):val (l.take (k+1))=val (l.take k)+4294967296^k*limb l k:=by
 rw [qC h,kX,oB,List.length_take,Nat.min_eq_left (by omega)]
theorem uX {l:List Nat} {k:Nat} (h:k<l.length):val (l.drop k)=limb l k+4294967296*val (l.drop (k+1)):=by
 rw [List.drop_eq_getElem_cons h];simp [val,limb,h]
theorem Nc {n k:Nat}:k<len n↔4294967296^k≤n:=by
 have:= @eH n k;omega
theorem zx {n:Nat}:len n=0↔n=0:=by
 have:= @eH n 0;simp at this;omega
theorem lH {n:Nat}:0<len n↔0<n:=by
 have:= @zx n;omega
theorem oC {n:Nat}:len n≤2↔n<18446744073709551616:=by have:= @eH n 2;simpa using this
theorem JY {l:List Nat} (h:Small l) (h1:0<l.length) (h2:limb l (l.length-1)≠0):len (val l)=l.length:=by
 have h3:=oh h;have h4:=fL (l:=l) (k:=l.length-1) (by omega);rw [show l.length-1+1=l.length from by omega,List.take_length]at h4
 have h5:4294967296^(l.length-1)≤val l:=by
  rw [h4];have:4294967296^(l.length-1)*1≤4294967296^(l.length-1)*limb l (l.length-1):=Nat.mul_le_mul_left _ (by omega);omega
 have:=Nc.2 h5;omega
theorem val_inj: ∀{l m:List Nat},Small l→Small m→l.length=m.length→val l=val m→l=m
 | [],[],_,_,_,_=>rfl
 |x::xs,y::ys,hl,hm,h,hv=>by
  have a:=hl x (List.mem_cons_self ..);have b:=hm y (List.mem_cons_self ..);simp only [val]at hv;simp only [List.length_cons]at h;have e:val xs=val ys:=by omega
  have e':x=y:=by omega
  rw [val_inj hl.tail hm.tail (by omega) e,e']
theorem zy {l:List Nat} (h:Small l) (h1:0<l.length) (h2:l.length=len (val l)):limb l (l.length-1)≠0:=by
 intro h3;have h4:=fL (l:=l) (k:=l.length-1) (by omega);rw [show l.length-1+1=l.length from by omega,List.take_length,h3]at h4;have h5:=ki (h.take (l.length-1));rw [List.length_take,Nat.min_eq_left (by omega)]at h5;have h6:len (val l)≤l.length-1:=eH.2 (by omega);omega
theorem iL (l:List Nat) (k:Nat) (h:k<l.length):val l=val (l.take k)+4294967296^k*(limb l k+4294967296*val (l.drop (k+1))):=by
 rw [←uX h];exact nR l k (by omega)
theorem vW {l m:List Nat} (hl:Small l) {k:Nat} (h1:k<l.length) (h2:k<m.length) (hd:val (l.drop (k+1))=val (m.drop (k+1))) (hlt:limb l k<limb m k):val l<val m:=by
 rw [iL l k h1,iL m k h2,hd];have h3:=ki (hl.take k);rw [List.length_take,Nat.min_eq_left (by omega)]at h3;generalize val (m.drop (k+1))=d at*
 have h4:4294967296^k*(limb l k+4294967296*d)+4294967296^k≤4294967296^k*(limb m k+4294967296*d):=by
  rw [←Nat.mul_succ];exact Nat.mul_le_mul_left _ (by omega)
 omega
theorem JZ {l:List Nat} {k:Nat} (h:k<l.length) (x:Nat):val (l.set k x)+4294967296^k*limb l k=val l+4294967296^k*x:=by
 have h1:=iL l k h;have h2:=iL (l.set k x) k (by simpa using h);rw [List.take_set_of_le (by omega),List.drop_set_of_lt (by omega)]at h2;have h3:limb (l.set k x) k=x:=by simp [limb,h]
 rw [h3]at h2;rw [Nat.mul_add]at h1 h2;omega
theorem iz {l:List Nat} {i:Nat} (h:l.length≤i):limb l i=0:=by unfold limb;rw [List.getElem?_eq_none h];rfl
theorem pJ {L M r:List Nat} {i q x y z q':Nat} (h1:i<L.length) (hr:r.length=i) (hv:val r+val (M.take i)=val (L.take i)+4294967296^i*q) (hM:i<M.length∨M.length≤i)
 (hx:limb L i=x) (hy:limb M i=y) (hz:z+y+q=x+4294967296*q'):
 val (r++ [z])+val (M.take (i+1))=val (L.take (i+1))+4294967296^(i+1)*q':=by
 rw [kX,oB,hr,fL h1,hx]
 have e:val (M.take (i+1))=val (M.take i)+4294967296^i*y:=by
  rcases hM with h|h
  ·rw [←hy];exact fL h
  ·rw [List.take_of_length_le (by omega),List.take_of_length_le (by omega),←hy,iz h];simp
 rw [e,Nat.pow_succ,Nat.mul_assoc];generalize 4294967296^i=p at*
 have e2:p*z+p*y+p*q=p*x+p*(4294967296*q'):=by
  rw [←Nat.mul_add,←Nat.mul_add,←Nat.mul_add,hz]
 omega
open Go.Sort
theorem Tryz.info_u32:(Tryz.prog.info? 185).map (fun i=>(i.zero,i.size,i.bytes))=some (some (.int .u32 0),1,4):=by kernel_rfl
def He (n:Nat) (w:World) (e:Ending) (w':World):Prop:= ∃a c,e= .returned (.tuple #[.slice a (len n) c,.bool true])∧Raw w' a (len n) c n∧Fr w.heap.size a∧Ext w w'
def qD (q r:Nat) (w:World) (e:Ending) (w':World):Prop:= ∃a c a' c',e= .returned (.tuple #[.slice a (len q) c,.slice a' (len r) c',.bool true])∧Raw w' a (len q) c q∧Fr w.heap.size a∧Raw w' a' (len r) c' r∧Fr w.heap.size a'∧Ext w w'
theorem zA {X:List Nat} (hs:Small X) {t:Nat} (h:t≤X.length):val (X.take t)<4294967296^t:=by
 have:=ki (hs.take t);rwa [List.length_take,Nat.min_eq_left h]at this
def lz (x:Nat):Nat:=32-Lib.bitLen x
structure Nd (X Y:Nat) (s:Int) (x y u1 u2 v1 v2:Nat):Prop where
 sg:s=1∨s= -1
 ex:(x:Int)=s*(u1*X-v1*Y)
 ey:(y:Int)=s*(v2*Y-u2*X)
 YR:(u1:Int)*v2-u2*v1=s
 le:y≤x
 uv:u2≤v2
 sum:u1+u2≤v1+v2
 pos:1≤v2
theorem Nd.start {X Y:Nat} (h:Y≤X):Nd X Y 1 X Y 1 0 0 1:=
 ⟨Or.inl rfl,by simp,by simp,by simp,h,by omega,by omega,by omega⟩
theorem Nd.step {X Y:Nat} {s:Int} {x y u1 u2 v1 v2:Nat} (h:Nd X Y s x y u1 u2 v1 v2) (h0:0<y):Nd X Y (-s) y (x % y) u2 (u1+x/y*u2) v2 (v1+x/y*v2):=by
 have hm:(x:Int)=(x/y:Nat)*y+(x % y:Nat):=by rw [←Int.natCast_mul,←Int.natCast_add,Nat.div_add_mod']
 have hq:1≤x/y:=(Nat.le_div_iff_mul_le h0).2 (by have:=h.le;omega);have hr:=Nat.mod_lt x h0;obtain ⟨hs,ex,ey,YR,-,uv,sum,pos⟩:=h;generalize x/y=q at*;generalize x % y=r at*;have h1:u2*(q-1)≤v2*(q-1):=Nat.mul_le_mul_right _ uv;obtain ⟨k,rfl⟩: ∃k,q=k+1:=⟨q-1,by omega⟩;simp only [Nat.add_sub_cancel]at h1;rw [Nat.mul_comm u2,Nat.mul_comm v2]at h1;refine ⟨by omega,?_,?_,?_,by omega,?_,?_,?_⟩
 ·rw [ey];grind
 ·have e:(r:Int)=x-((k+1:Nat):Int)*y:=by omega
  rw [e,ex,ey];push_cast;grind
 ·push_cast;grind
 ·rw [Nat.add_mul,Nat.add_mul,Nat.one_mul,Nat.one_mul];omega
 ·rw [Nat.add_mul,Nat.add_mul,Nat.one_mul,Nat.one_mul];omega
 ·rw [Nat.add_mul,Nat.one_mul];omega
structure t_ (a b:Nat) (even:Bool) (u0 v0 u1 v1 A B:Nat):Prop where
 fst:if even then A+v0*b=u0*a else A+u0*a=v0*b
 snd:if even then B+u1*a=v1*b else B+v1*b=u1*a
 le:B≤A
 ea:a=v1*A+v0*B
 eb:b=u1*A+u0*B
 pos:1≤v1
theorem sH {x y E a1:Int} (hx:0≤x) (sU:x≤y) (ha:0≤a1) (hE:a1≤E):0≤x*a1∧x*a1≤y*E:=
 ⟨Int.mul_nonneg hx ha,Int.mul_le_mul sU hE ha (by omega)⟩
theorem Nd.out {X Y a b E a1 b1:Nat} {s:Int} {x y u1 u2 v1 v2:Nat} (h:Nd X Y s x y u1 u2 v1 v2) (ha:a=X*E+a1) (hb:b=Y*E+b1) (ha1:a1<E) (hb1:b1<E)
 (c1:v2≤y) (c2:v1+v2≤x-y): ∃A B,t_ a b (decide (s=1)) u1 v1 u2 v2 A B:=by
 obtain ⟨hs,ex,ey,YR,le,uv,sum,pos⟩:=h;have ha':(a:Int)=X*E+a1:=by exact_mod_cast ha
 have hb':(b:Int)=Y*E+b1:=by exact_mod_cast hb
 have p1:=sH (x:=(u2:Int)) (y:=v2) (E:=E) (a1:=a1) (by omega) (by omega) (by omega) (by omega);have p2:=sH (x:=(v2:Int)) (y:=v2) (E:=E) (a1:=b1) (by omega) (by omega) (by omega) (by omega);have p3:=sH (x:=((u1+u2:Nat):Int)) (y:=((v1+v2:Nat):Int)) (E:=E) (a1:=a1) (by omega) (by omega) (by omega) (by omega);have p4:=sH (x:=((v1+v2:Nat):Int)) (y:=((v1+v2:Nat):Int)) (E:=E) (a1:=b1) (by omega) (by omega) (by omega) (by omega);have q1:(v2:Int)*E≤y*E:=Int.mul_le_mul_of_nonneg_right (by omega) (by omega);have q2:((v1+v2:Nat):Int)*E≤(x-y)*E:=Int.mul_le_mul_of_nonneg_right (by omega) (by omega);have eB:s*(v2*b-u2*a)=y*E+s*(v2*b1-u2*a1):=by rw [ha',hb',ey];grind
 have eD:s*(u1*a-v1*b)-s*(v2*b-u2*a)=(x-y)*E+s*(((u1+u2:Nat):Int)*a1-((v1+v2:Nat):Int)*b1):=by rw [ha',hb',ex,ey];push_cast;grind
 have hB:0≤s*(v2*b-u2*a):=by
  rw [eB];rcases hs with rfl|rfl<;>omega
 have hD:0≤s*(u1*a-v1*b)-s*(v2*b-u2*a):=by
  rw [eD];rcases hs with rfl|rfl<;>omega
 obtain ⟨B,YS⟩:=Int.eq_ofNat_of_zero_le hB;obtain ⟨A,YT⟩:=Int.eq_ofNat_of_zero_le (show 0≤s*(u1*a-v1*b) by omega);refine ⟨A,B,?_,?_,by omega,?_,?_,pos⟩
 ·rcases hs with rfl|rfl
  ·rw [if_pos (by decide)]
   apply Int.ofNat.inj;show((A+v1*b:Nat):Int)=((u1*a:Nat):Int)
   push_cast;grind
  ·rw [if_neg (by decide)]
   apply Int.ofNat.inj;show((A+u1*a:Nat):Int)=((v1*b:Nat):Int)
   push_cast;grind
 ·rcases hs with rfl|rfl
  ·rw [if_pos (by decide)]
   apply Int.ofNat.inj;show((B+u2*a:Nat):Int)=((v2*b:Nat):Int)
   push_cast;grind
  ·rw [if_neg (by decide)]
   apply Int.ofNat.inj;show((B+v2*b:Nat):Int)=((u2*a:Nat):Int)
   push_cast;grind
 ·apply Int.ofNat.inj
  show((a:Nat):Int)=((v2*A+v1*B:Nat):Int)
  push_cast
  rw [←YT,←YS];rcases hs with rfl|rfl<;>grind
 ·apply Int.ofNat.inj
  show((b:Nat):Int)=((u2*A+u1*B:Nat):Int)
  push_cast
  rw [←YT,←YS];rcases hs with rfl|rfl<;>grind
theorem t_.gcd {a b:Nat} {even:Bool} {u0 v0 u1 v1 A B:Nat} (h:t_ a b even u0 v0 u1 v1 A B):Nat.gcd A B=Nat.gcd a b:=by
 obtain ⟨h1,h2,-,ea,eb,-⟩:=h;apply Nat.dvd_antisymm
 ·have d1:=Nat.gcd_dvd_left A B
  have d2:=Nat.gcd_dvd_right A B;apply Nat.dvd_gcd
  ·rw [ea];exact Nat.dvd_add (Nat.dvd_mul_left_of_dvd d1 _) (Nat.dvd_mul_left_of_dvd d2 _)
  ·rw [eb];exact Nat.dvd_add (Nat.dvd_mul_left_of_dvd d1 _) (Nat.dvd_mul_left_of_dvd d2 _)
 ·have d1:=Nat.gcd_dvd_left a b
  have d2:=Nat.gcd_dvd_right a b;cases even
  ·simp only [Bool.false_eq_true,if_false]at h1 h2
   apply Nat.dvd_gcd
   ·exact (Nat.dvd_add_left (Nat.dvd_mul_left_of_dvd d1 u0)).1 (by rw [h1];exact Nat.dvd_mul_left_of_dvd d2 _)
   ·exact (Nat.dvd_add_left (Nat.dvd_mul_left_of_dvd d2 v1)).1 (by rw [h2];exact Nat.dvd_mul_left_of_dvd d1 _)
  ·simp only [if_true]at h1 h2
   apply Nat.dvd_gcd
   ·exact (Nat.dvd_add_left (Nat.dvd_mul_left_of_dvd d2 v0)).1 (by rw [h1];exact Nat.dvd_mul_left_of_dvd d1 _)
   ·exact (Nat.dvd_add_left (Nat.dvd_mul_left_of_dvd d1 u1)).1 (by rw [h2];exact Nat.dvd_mul_left_of_dvd d2 _)
theorem t_.less {a b:Nat} {even:Bool} {u0 v0 u1 v1 A B:Nat} (h:t_ a b even u0 v0 u1 v1 A B) (h0:v0≠0) (hb:0<b):A+B<a+b:=by
 have:=h.ea;have h1:A≤v1*A:=Nat.le_mul_of_pos_left _ h.pos;have h2:B≤v0*B:=Nat.le_mul_of_pos_left _ (by omega);omega
def sg (ev:Bool):Int:=if ev then-1 else 1
theorem pK (s:Bool) (n:Nat):decide (dw s n<0)=(s&&decide (0<n)):=by
 unfold dw;cases s
 ·simp
 ·simp
theorem iM (n:Nat):dw false n=n:=rfl
theorem jS (n:Nat):dw true n= -(n:Int):=rfl
theorem zB (s:Bool):dw s 0=0:=by cases s<;>rfl
theorem xm (s:Bool) (n:Nat):dw (!s) n= -dw s n:=by cases s<;>simp [dw]
theorem bX.qE {w w1 w2:World} {s:Bool} {a:Option Addr} {c n:Nat} {e:Ending} (h:Raw w1 a (len n) c n) (hf:Fr w.heap.size a) (hx:Ext w w1)
 (he:e= .returned (.agg #[.bool (s&&decide (0<len n)),.slice a (len n) c])∧Ext w1 w2):bX (dw s n) w e w2:=by
 obtain ⟨rfl,hx2⟩:=he;refine ⟨a,c,?_,?_,hf,hx.trans hx2⟩
 ·rw [cP,pK];simp only [lH]
 ·rw [cP];exact h.ext hx2
theorem J0 (s:Bool) (n m:Nat):dw s (n+m)=dw s n+dw s m:=by
 cases s<;>simp [dw];omega
theorem Hf (s:Bool) (n m:Nat) (h:m≤n):dw s (n-m)=dw s n+dw (!s) m:=by
 cases s<;>simp [dw]<;>omega
theorem Hg (s:Bool) (n m:Nat) (h:n≤m):dw (!s) (m-n)=dw s n+dw (!s) m:=by
 cases s<;>simp [dw]<;>omega
def kh (x y:Int) (w:World) (e:Ending) (w':World):Prop:= ∃a c a' c',e= .returned (.tuple #[.agg #[.bool (decide (x<0)),.slice a (len x.natAbs) c],.agg #[.bool (decide (y<0)),.slice a' (len y.natAbs) c'],.bool true])∧
 Raw w' a (len x.natAbs) c x.natAbs∧Fr w.heap.size a∧Raw w' a' (len y.natAbs) c' y.natAbs∧Fr w.heap.size a'∧Ext w w'
theorem kh.of {w W w2 w3:World} {s:Bool} {a a':Option Addr} {c c' n m:Nat} {x y:Int} (hx:x=dw s n) (hy:y=m) (h:Raw w2 a (len n) c n) (hf:Fr W.heap.size a) (h':Raw w2 a' (len m) c' m) (hf':Fr W.heap.size a') (hW:Ext w W) (h2:Ext W w2)
 (t:Touch w.heap.size W.heap.size w2 w3):kh x y w (.returned (.tuple #[.agg #[.bool (s&&decide (0<len n)),.slice a (len n) c],.agg #[.bool false,.slice a' (len m) c'],.bool true])) w3:=by
 subst hx;subst hy
 refine ⟨a,c,a',c',?_,?_,hf.mono hW.size,?_,hf'.mono hW.size,hW.cI h2 t⟩
 ·rw [cP,pK];simp only [lH,Int.natAbs_natCast]
  have:decide ((m:Int)<0)=false:=by simp
  rw [this]
 ·rw [cP];exact h.cI t hf.out
 ·rw [Int.natAbs_natCast];exact h'.cI t hf'.out
theorem qF {s t:Bool} {n m:Nat} (hm:0<m) (h:s=false∨n % m=0):dw s n/dw t m=dw (s !=t) (n/m)∧dw s n % dw t m=(n % m:Nat):=by
 have VI:(m:Int)≠0:=by omega
 cases s
 ·cases t
  ·simp [dw]
  ·simp [dw,Int.ediv_neg,Int.emod_neg]
 ·have h0:n % m=0:=by simpa using h
  obtain ⟨q,rfl⟩: ∃q,n=m*q:=⟨n/m,by have:=Nat.div_add_mod n m;omega⟩;cases t
  ·simp only [dw];constructor
   ·simp [Nat.mul_div_cancel_left _ hm]
    rw [←Int.mul_neg,Int.mul_ediv_cancel_left _ VI]
   ·simp
  ·simp only [dw];constructor
   ·simp [Nat.mul_div_cancel_left _ hm]
    rw [←Int.mul_neg,Int.mul_ediv_cancel_left _ VI];omega
   ·simp
theorem uY {t:Bool} {n m:Nat} (hm:0<m) (h:0<n % m):dw true n/dw t m=dw (true !=t) (n/m+1)∧dw true n % dw t m=(m-n % m:Nat):=by
 have h1:=Nat.div_add_mod n m;have h2:=Nat.mod_lt n hm;have VI:(0:Int)<(m:Int):=by omega
 have e:(-(n:Int))=(m:Int)*(-((n/m:Nat):Int)-1)+((m-n % m:Nat):Int):=by
  rw [Int.ofNat_sub (Nat.le_of_lt h2),Int.mul_sub,Int.mul_neg];have:(n:Int)=(m:Int)*((n/m:Nat):Int)+((n % m:Nat):Int):=by exact_mod_cast h1.symm
  rw [Int.mul_one];omega
 have q1:(-(n:Int))/(m:Int)= -((n/m:Nat):Int)-1:=by
  rw [e,Int.mul_add_ediv_left _ _ (by omega),Int.ediv_eq_zero_of_lt (by omega) (by omega)];omega
 have r1:(-(n:Int)) % (m:Int)=((m-n % m:Nat):Int):=by
  rw [e,Int.mul_add_emod_self_left,Int.emod_eq_of_lt (by omega) (by omega)]
 cases t
 ·simp only [dw];simp
  refine ⟨?_,?_⟩
  ·rw [q1];simp;omega
  ·rw [r1]
 ·simp only [dw];simp
  refine ⟨?_,?_⟩
  ·rw [q1];simp;omega
  ·rw [r1]
theorem uZ (x:Int) (y:Nat) (h:0<y):decide ((mkRat x y).num<0)=decide (x<0):=by
 rw [Rat.num_mkRat,if_neg (by omega)];have hg:(0:Int)<(Nat.gcd y x.natAbs:Nat):=by have:=Nat.gcd_pos_of_pos_left x.natAbs h;omega
 have:x/(Nat.gcd y x.natAbs:Nat)<0↔x<0:=by
  constructor
  ·intro h1
   apply Int.not_le.1;intro h2
   have:=Int.ediv_nonneg h2 (Int.le_of_lt hg);omega
  ·intro h1;exact Int.ediv_neg_of_neg_of_pos h1 hg
 simp only [this]
theorem Ext.zC {a w:World} (h:Ext a w) {b:Nat} (hb:a.heap.size≤b) (v0 v1:Value):Ext a ((w.setCell ⟨b,0,none⟩ v0).setCell ⟨b,1,none⟩ v1):=(h.setCell hb _).setCell hb _
theorem Ext.pL {w w3 w4:World} {hi:Nat} (h:Ext w w3) (t:Touch w.heap.size hi w3 w4):Ext w w4:=
 ⟨⟨t.os.trans h.below.os,t.tape.trans h.below.tape,t.output.trans h.below.output,by rw [t.size];exact h.below.size,fun k hk=>(t.block k (Or.inl hk)).trans (h.below.block k hk)⟩,Nat.le_trans h.drawn t.drawn⟩
theorem ud {z:Int} (h1: -9223372036854775808≤z) (h2:z≤9223372036854775807):len z.natAbs≤2:=oC.2 (by omega)
theorem eC.Rh {q:Rat} {w w':World} {e:Ending} (h:eC q w e w'): ∃r:fj,e= .returned (.agg #[.bool r.s,.slice r.a r.k r.c,.slice r.b r.j r.d])∧iF w' r q w.heap.size∧Ext w w':=by
 obtain ⟨a,c,a',c',he,hr,hf,pY,hf',hx⟩:=h;exact ⟨⟨decide (q.num<0),a,len q.num.natAbs,c,a',len q.den,c'⟩,he,⟨rfl,rfl,rfl,hr,pY,hf,hf'⟩,hx⟩
def kS:List Value:= [.bool false,.slice none 0 0,.slice none 0 0]
def fh:Nat→List Value
 |0=> []
 |n+1=>kS++fh n
theorem u_ (n:Nat):(fh n).length=n*3:=by
 induction n with
 |zero=>rfl
 |succ n ih=>unfold fh;rw [List.length_append,ih];simp [kS];omega
theorem BF (n i:Nat) (h:i<n*3):(fh n)[i]?=kS[i % 3]?:=by
 induction n generalizing i with
 |zero=>omega
 |succ n ih=>
  unfold fh;by_cases hi:i<3
  ·rw [List.getElem?_append_left (by simpa [kS]using hi),Nat.mod_eq_of_lt hi]
  ·rw [List.getElem?_append_right (by simp [kS];omega)]
   have:kS.length=3:=rfl;rw [this,ih (i-3) (by omega)];congr 1;omega
theorem rU (n:Nat):madeCells kS.toArray (n*3)=(fh n).toArray:=by
 apply Array.ext_getElem?;intro i;unfold madeCells;by_cases h:i<n*3
 ·rw [Array.getElem?_map,Array.getElem?_range,List.getElem?_toArray,BF n i h]
  simp only [h,if_true,Option.map_some];have h3:i % 3<3:=Nat.mod_lt _ (by decide);have hz:kS.toArray.size=3:=rfl;rw [hz];generalize i % 3=k at h3⊢;match k,h3 with
  |0,_=>rfl
  |1,_=>rfl
  |2,_=>rfl
 ·rw [Array.getElem?_eq_none (by simp;omega),List.getElem?_toArray,List.getElem?_eq_none (by rw [u_];omega)]
theorem Tryz.info_rat:(Tryz.prog.info? 119).map (fun i=>(i.zero,i.size,i.bytes))=some (some (.agg kS.toArray),3,56):=by kernel_rfl
def dF (l:List fj):List Value:=l.flatMap fj.cells
theorem lU (l:List fj):(dF l).length=l.length*3:=by
 induction l with
 |nil=>rfl
 |cons r l ih=>simp only [dF,List.flatMap_cons,List.length_append,fj.cells,List.length_cons,List.length_nil]at*;omega
theorem xn (l:List fj) (i k:Nat) (h:i<l.length) (hk:k<3):(dF l)[i*3+k]?=(l[i].cells)[k]?:=by
 induction l generalizing i with
 |nil=>simp at h
 |cons r l ih=>
  have e:dF (r::l)=r.cells++dF l:=by simp [dF]
  rw [e];have hc:r.cells.length=3:=rfl;cases i with
  |zero=>rw [List.getElem?_append_left (by omega)];simp
  |succ i=>
   rw [List.getElem?_append_right (by omega),hc,show(i+1)*3+k-3=i*3+k from by omega,ih i (by simpa using h)];simp
end Go.Proofs.YtkpngkdgphojlaaGreat
