/- Texts of the proof. -/
import Derived.Test.YtbnamicbjaaelaaGreatCg39
set_option linter.all false
namespace Go.Proofs.YtbnamicbjaaelaaGreat
open Go.Proofs.Tryz
open Go.RowKit
theorem qf (k:UInt8) (i:Nat) (hi:i<16):(aW k i).toList= [k,Js.data[i]!]:=by
 rw [ByteArray.toList_eq,o9 k i hi]
theorem O_: ∀i,i<16->okB (Js.data[i]!).toNat=true:=aq
theorem ML: ∀i,i<16-> ∀j,j<16->Js.data[i]! =Js.data[j]!->i=j:=aq
theorem pw (s:ByteArray) (i:Nat):d_ s i=((s.data[i]?).map UInt8.toNat).getD 0:=by
 unfold d_;split
 .rename_i h
  rw [Array.getElem?_eq_getElem (show i<s.data.size from h)];rfl
 .rename_i h
  rw [Array.getElem?_eq_none (show s.data.size<=i from Nat.le_of_not_lt h)];rfl
theorem ym (s:ByteArray) (a b:UInt8) (hs:s.data= #[a,b]) (ha:jw a.toNat=true) (hb:okB b.toNat=true):dU s=true:=by
 have hz:s.size=2:=by show s.data.size=2;rw [hs];rfl
 have e0:d_ s 0=a.toNat:=by rw [pw,hs];rfl
 have e1:d_ s 1=b.toNat:=by rw [pw,hs];rfl
 refine nA ae ae ?_ (by rw [e0];exact ha) ?_
 .rw [ByteArray.toList_eq,hs]
  apply Bool.eq_false_iff.2;intro e;have h:=congrArg List.length (eq_of_beq e);simp at h
 .intro j hj
  rcases (show j=0\/j=1 by omega)with rfl|rfl
  .rw [e0];exact Dm ha
  .rw [e1];exact hb
theorem JO (k:UInt8) (hk:jw k.toNat=true) (i:Nat) (hi:i<16):dU (aW k i)=true:=ym _ k _ (o9 k i hi) hk (O_ i hi)
theorem Gz (k:UInt8) (i j:Nat) (hi:i<16) (hj:j<16) (h:i≠j):Ck (aW k i) (aW k j)=true:=by
 unfold Ck;rw [qf k i hi,qf k j hj,Bool.not_eq_true'];apply Bool.eq_false_iff.2;intro e;have e2:=eq_of_beq e;simp only [List.cons.injEq,and_true,true_and]at e2;exact h (ML i hi j hj e2)
theorem zl (k:UInt8) (hk:jw k.toNat=true) (l:List ByteArray) (hl: ∀j (hj:j<l.length),l[j]=aW k j) (hn:l.length<=16) (j:Nat) (hj:j<l.length):gJ 0 l[j] (l.take j)=0:=by
 unfold gJ;have h1:dU l[j]=true:=by rw [hl j hj];exact JO k hk j ae
 have h2:((l.take j).all λp=>Ck p l[j])=true:=by
  rw [List.all_eq_true];intro p hp;obtain ⟨i,hi,rfl⟩:=List.getElem_of_mem hp;rw [List.length_take]at hi;rw [List.getElem_take,hl i ae,hl j hj];exact Gz k i j ae ae ae
 rw [h1,h2,bI,bI]
theorem pQ {F:Nat->Int->Int}: ∀n,(∀i,i<n->F i 0=0)->dF F 0 n=0
 |0,_=>rfl
 |n+1,h=>by rw [eo,pQ n (λi hi=>h i ae),h n ae]
theorem fl {α:Type} {l:List α} {F:α->Nat->Int->Int} (h: ∀i (hi:i<l.length),F l[i] i 0=0):dF (cK l F) 0 l.length=0:=
 pQ _ λi hi=>by rw [i7 hi];exact h i hi
theorem cF {lo hi x:Int} (h:lo<=x/\x<=hi):bN lo hi [x]=true:=cN.2 h
theorem H8 {lo hi:Int} {l:List Int} (h: ∀z∈l,lo<=z/\z<=hi):bN lo hi l=true:=DI.2 h
theorem ji {c:ay} {l:List Int} {a b:Int} (h1:(l.length:Int)=c.hours) (h2: ∀z∈l,a<=z/\z<=b):gm 0 c l a b=0:=by
 unfold gm;rw [H8 h2,show decide ((l.length:Int)=c.hours)=true by simpa using h1,bI,bI]
theorem pR {c:ay} {i:Int} (h:0<=i/\i<c.aF.length):qy 0 c i=0:=by
 unfold qy;rw [cF ae,bI]
theorem GA {l:List Int} (h:l.length<=1):iY l=true:=by
 rw [lg];intro j h1 h2;omega
theorem yo {c:ay} {l:List Int} (hc:1<=c.hours/\c.hours<=24) (h1:l.length<=1) (h2: ∀z∈l,0<=z/\z<c.hours):n9 0 c l=0:=by
 unfold n9;have h3:IntKind.i64.wrap (c.hours-1)=c.hours-1:=dW;rw [h3,GA h1,H8 (λz hz=>bA (h2 z hz)),bI,bI]
theorem MM {x:aP} (h1:x.aY.length<=8) (h2: ∀g∈x.aY,1<=g.width/\g.width<=15/\ -2<=g.bE/\g.bE<=40) (h3:oW x.aY x.aY.length=true) (h4:x.max=x.min+cG x.aY) (h5:0<=cG x.aY/\cG x.aY<=1000):lp 0 x=0:=by
 unfold lp;have a1:decide ((x.aY.length:Int)<=8)=true:=by rw [decide_eq_true_eq];omega
 have a2:x.aY.all iZ=true:=by
  rw [List.all_eq_true];intro g hg;have:=h2 g hg;unfold iZ;rw [cF ae,cF ae];rfl
 have a3:decide (cG x.aY=IntKind.i64.wrap (x.max-x.min))=true:=by
  rw [decide_eq_true_eq,IntKind.wrap_i64];omega
 rw [a1,a2,h3,a3,bI,bI,bI,bI]
theorem MN {hh nb:Nat} {c:ay} (h:gU hh nb c):iN c 0=0:=by
 unfold iN;have h0:=h.hours;have h1:=h.hr;have h2:=h.SJ;have h3:=h.lines;have h4:=h.aA;have h5:=h.stores;have h6:=h.bh;have h7:=h.outs
 rw [cF ae,cF ae,bI,bI,ji (bA h.res.1) (λz hz=>bA (h.res.2 z hz))]
 have hm: ∀n,n<=5->jN c 0 n=0:=by
  intro n;induction n with
  |zero=>intro _;rfl
  |succ n ih=>
   intro hn;rw [fL,ih ae]
   have:decide (((dV c ((n:Int)+2)).length:Int)<=ln ((n:Int)+2))=true:=by
    rw [decide_eq_true_eq];rcases (show n=0\/n=1\/n=2\/n=3\/n=4 by omega)with rfl|rfl|rfl|rfl|rfl<;>simp [dV,ln]<;>omega
   rw [this,bI]
 exact hm 5 bY
theorem yq {α:Type} (f:α->ByteArray) (l:List α) (k:UInt8) (hk:jw k.toNat=true) (hl: ∀j (hj:j<l.length),f l[j]=aW k j) (hn:l.length<=16) (j:Nat) (hj:j<l.length):gJ 0 (f l[j]) ((l.take j).map f)=0:=by
 have h:=zl k hk (l.map f) (λi hi=>by rw [List.getElem_map];exact hl i (by simpa using hi)) (by simpa using hn) j (by simpa using hj);rw [List.getElem_map,<-List.map_take]at h;exact h
theorem MO {hh nb:Nat} {c:ay} (h:gU hh nb c):oZ c 0=0:=by
 have h0:=h.hours;have h1:=h.hr;have h2:=h.SJ
 refine fl λj hj=> ?_;have hb:=h.fE j hj;show p_ c c.aF[j] ((c.aF.take j).map dK.name) 0=0;unfold p_;rw [yq dK.name c.aF 98 aq (λi hi=>(h.fE i hi).name) ae j hj,ji (by rw [hb.len];omega) (λz hz=>bA (hb.cV z hz)),cF (bA hb.jF),bI]
theorem MP {hh nb:Nat} {c:ay} (h:gU hh nb c):mv c 0=0:=by
 have h0:=h.hours;have h1:=h.hr;have h2:=h.SJ;have h3:=h.lines
 refine fl λj hj=> ?_;obtain ⟨fr,tb,hf,ht,hn,hb⟩:=h.line j hj;show rY c c.lines[j] ((c.lines.take j).map bn.name) 0=0;unfold rY;have a1:=hb.r;have a2:=hb.s0;have a3:=hb.s1;have a4:=hb.dO;have a5:=hb.kK
 have b1:(c.lines[j].dL !=c.lines[j].ld)=true:=by rw [hb.dL,hb.ld,bne_iff_ne];omega
 have b2:(fI c.lines[j].rn c.lines[j].rd&&decide (0<c.lines[j].rn))=true:=by unfold fI;simp only [Bool.and_eq_true,decide_eq_true_eq];omega
 have b3:(fI c.lines[j].uH c.lines[j].yt&&decide (c.lines[j].uH<=0))=true:=by unfold fI;simp only [Bool.and_eq_true,decide_eq_true_eq];omega
 have b4:(fI c.lines[j].vw c.lines[j].Bn&&decide (0<=c.lines[j].vw))=true:=by unfold fI;simp only [Bool.and_eq_true,decide_eq_true_eq];omega
 rw [yq bn.name c.lines 108 aq (λi hi=>by obtain ⟨_,_,_,_,_,q⟩:=h.line i hi;exact q.name) ae j hj,b1,b2,b3,b4,cF ae,cF ae,pR (by rw [hb.dL];omega),pR (by rw [hb.ld];omega),bI,bI,bI,bI,bI,bI];exact yo ae hb.R5.1 (λz hz=>bA (hb.away z hz))
theorem MQ {hh nb:Nat} {c:ay} (h:gU hh nb c):o0 c 0=0:=by
 have h0:=h.hours;have h1:=h.hr;have h2:=h.SJ;have h3:=h.aA
 refine fl λj hj=> ?_;obtain ⟨bu,VG,u⟩:=h.unit j hj;show od c c.aA[j] ((c.aA.take j).map aP.name) 0=0;have zA:=yq aP.name c.aA 117 aq (λi hi=>by obtain ⟨_,_,q⟩:=h.unit i hi;exact q.name) ae j hj;generalize c.aA[j]=x at u zA⊢;have hs:=nU x.aY u.Kh;have a1:=u.min;have a2:=u.OE;have a3:=u.max;have a4:=u.fF;have a5:=u.fG;have a6:=u.dA;have a7:=u.cQ;have a8:=u.dB
 have b1:=u.eK;have b2:=u.dC;have b3:=u.startTime;have b4:=u.dX;have b5:=u.dD;have b6:=u.dE;have b7:=u.aX;have b8:=u.bR
 have d1:=u.state;have d2:=u.hours;have d3:=u.output
 have c1:((x.state !=1)||decide (0<x.startTime))=true:=by
  by_cases q:x.state=1
  .simp only [Bool.or_eq_true,decide_eq_true_eq];right;omega
  .simp only [Bool.or_eq_true,bne_iff_ne];left;exact q
 have c2:((x.state !=1)||decide (x.hours<=x.startTime))=true:=by
  by_cases q:x.state=1
  .simp only [Bool.or_eq_true,decide_eq_true_eq];right;have:=d2.2.2 q;omega
  .simp only [Bool.or_eq_true,bne_iff_ne];left;exact q
 have c3:(if(x.state==2)=true then bN x.min x.max [x.output]else(x.output==0))=true:=by
  by_cases q:x.state=2
  .rw [if_pos (by rw [q];rfl)];exact cF (d3.1 q)
  .rw [if_neg (by simpa using q)];simpa using d3.2 q
 unfold od;rw [zA,c1,c2,c3,pR (by rw [u.fE];omega)];have e0:bN 0 1048576 [x.min]=true:=cF ae;have e1:bN x.min 1048576 [x.max]=true:=cF ae;have e2:bN 0 1048576 [x.fF]=true:=cF ae;have e3:bN 0 1048576 [x.fG]=true:=cF ae;have e4:bN 0 1048576 [x.dA]=true:=cF ae;have e5:bN x.min x.max [x.cQ]=true:=cF ae;have e6:bN x.min x.max [x.dB]=true:=cF ae;have e7:bN 0 24 [x.eK]=true:=cF ae;have e8:bN 0 24 [x.dC]=true:=cF ae;have e9:bN 0 24 [x.startTime]=true:=cF ae;have f0:bN 0 1048576 [x.dX]=true:=cF ae;have f1:bN 0 1048576 [x.dD]=true:=cF ae;have f2:bN 0 24 [x.dE]=true:=cF ae;have f3:bN 0 1048576 [x.aX]=true:=cF ae;have f4:bN 0 1048576 [x.bR]=true:=cF ae;have f5:bN 0 2 [x.state]=true:=cF ae;have f6:bN 1 48 [x.hours]=true:=cF ae;rw [e0,e1,e2,e3,e4,e5,e6,e7,e8,e9,f0,f1,f2,f3,f4,f5,f6];simp only [bI];rw [MM ae u.Kh u.L1 u.max ae];exact yo ae u.R5.1 (λz hz=>bA (u.away z hz))
theorem JP {hh nb:Nat} {c:ay} (h:gU hh nb c):l9 c 0=0:=by
 have h2:=h.SJ;have h3:=h.stores
 refine fl λj hj=> ?_;have hm:=h.store _ (List.getElem_mem hj);obtain rfl:j=0:=ae;show nB c c.stores[0] [] 0=0;generalize c.stores[0]=x at hm⊢;have a1:=hm.fE;have a2:=hm.capacity;have a3:=hm.initial;have a4:=hm.final;have a5:=hm.gN;have a6:=hm.discharge;have a7:=hm.eff
 unfold nB;have b1:((fI x.en x.ed&&decide (0<x.en))&&decide (x.en<=x.ed))=true:=by unfold fI;simp only [Bool.and_eq_true,decide_eq_true_eq];omega
 have b2:gJ 0 x.name []=0:=by
  unfold gJ;rw [ym x.name 115 48 (by rw [hm.name]) aq aq,List.all_nil,bI,bI]
 have b3:bN 0 1048576 [x.capacity]=true:=cF ae;have b4:bN 0 x.capacity [x.initial]=true:=cF ae;have b5:bN 0 x.capacity [x.final]=true:=cF ae;have b6:bN 0 1048576 [x.gN]=true:=cF ae;have b7:bN 0 1048576 [x.discharge]=true:=cF ae;rw [b1,b2,b3,b4,b5,b6,b7,pR ae];simp only [bI]
theorem Pa {hh nb:Nat} {c:ay} (h:gU hh nb c):uS c 0=0:=by
 have h0:=h.hours;have h2:=h.SJ;have h3:=h.bh
 refine fl λj hj=> ?_;have hm:=h.tie _ (List.getElem_mem hj);obtain rfl:j=0:=ae;show Bu c c.bh[0] [] 0=0;generalize c.bh[0]=x at hm⊢;unfold Bu
 have b2:gJ 0 x.name []=0:=by
  unfold gJ;rw [ym x.name 116 48 (by rw [hm.name]) aq aq,List.all_nil,bI,bI]
 rw [b2,pR (bA hm.fE),ji (bA hm.imp.1) (λz hz=>bA (hm.imp.2 z hz)),ji (bA hm.exp.1) (λz hz=>bA (hm.exp.2 z hz)),ji (bA hm.bE.1) (λz hz=>bA (hm.bE.2 z hz))]
theorem gU.accept {hh nb:Nat} {c:ay} (h:gU hh nb c) (ho:c.outs= []):cE c=0:=by
 unfold cE;rw [MN h,MO h,MP h,MQ h,JP h,Pa h];have h1:uT c 0=0:=fl λj hj=>absurd hj (by rw [ho];simp);rw [h1];exact pQ _ λi _=>fl λj hj=>absurd hj (by rw [ho];simp)
