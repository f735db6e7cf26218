/- Texts of the proof. -/
import Derived.Test.YtkpngkdgphojlaaGreatCf21
import Derived.Test.YtkpngkdgphojlaaGreatCf22
import Derived.Test.YtkpngkdgphojlaaGreatCf23
set_option linter.all false
set_option maxHeartbeats 1000000
set_option maxRecDepth 100000
namespace Go.Proofs.YtkpngkdgphojlaaGreat
open Go.Proofs.Tryz
open Go.RowKit
theorem St.cJ (s:St) (ok:Bool) (f e:Int):(s.need ok f e).err=nd s.err ok e:=by
 unfold St.need nd;split<;>rfl
theorem St.rh (s:St) (k i:Int):(s.at k i).err=s.err:=by
 unfold St.at;split
 ·rename_i h;exact h.symm
 ·rfl
theorem vG (a b n:Int):bP a b [n]=(decide (a≤n)&&decide (n≤b)):=by
 unfold bP;simp
theorem tj (a b n:Int) (l:List Int):bP a b (n::l)=(bP a b [n]&&bP a b l):=by
 unfold bP;simp [List.all_cons]
theorem E9 (n i:Int):bP 0 (n-1) [i]=(decide (0≤i)&&decide (i<n)):=by
 rw [vG];have:decide (i≤n-1)=decide (i<n):=by rw [Bool.eq_iff_iff];simp;omega
 rw [this]
theorem St.bS (s:St) (f n a b:Int):(s.within f n a b).err=nd s.err (bP a b [n]) 3:=by
 unfold St.within;rw [St.cJ,vG]
theorem St.E_ (s:St) (l:List Int) (f a b:Int):(s.each l f a b).err=nd s.err (bP a b l) 3:=by
 unfold St.each;induction l generalizing s with
 |nil=>exact (bY _ _).symm
 |cons x l ih=>rw [List.foldl_cons,ih,St.bS,nL _ _ _ _ (by decide),←tj]
theorem St.mK (s:St) (c:ai) (f:Int) (l:List Int) (a b:Int):(s.mW c f l a b).err=fZ s.err c l a b:=by
 unfold St.mW fZ;rw [St.E_,St.cJ]
theorem St.vH (s:St) (c:ai) (f i:Int):(s.cS c f i).err=pV s.err c i:=by
 unfold St.cS pV;rw [St.cJ,E9]
theorem St.Fa (s:St) (c:ai) (f:Int) (l:List Int):(s.away c f l).err=nO s.err c l:=by
 unfold St.away nO;rw [St.cJ,St.E_]
theorem St.LH (s:St) (nm:ByteArray) (prev:List ByteArray):(s.mz nm prev).err=nd s.err (prev.all fun p=>Da p nm) 10:=by
 unfold St.mz;induction prev generalizing s with
 |nil=>exact (bY _ _).symm
 |cons x l ih=>rw [List.foldl_cons,ih,St.cJ,nL _ _ _ _ (by decide),List.all_cons]
theorem St.np (s:St) (nm:ByteArray) (prev:List ByteArray):(s.name nm prev).err=iF s.err nm prev:=by
 unfold St.name iF;rw [St.LH,St.cJ]
theorem St.Jj (s:St) (n f:Int) (l:List Int):(s.zo n f l).err=nd s.err (bP 0 (n-1) l) 12:=by
 unfold St.zo;induction l generalizing s with
 |nil=>exact (bY _ _).symm
 |cons x l ih=>rw [List.foldl_cons,ih,St.cJ,nL _ _ _ _ (by decide),tj,E9]
theorem St.OP (s:St) (l:List bL):(s.Lj l).err=nd s.err (l.all wU) 3:=by
 unfold St.Lj;induction l generalizing s with
 |nil=>exact (bY _ _).symm
 |cons x l ih=>
  rw [List.foldl_cons,ih,St.bS,St.bS,nL _ _ _ _ (by decide),nL _ _ _ _ (by decide),List.all_cons];have e:wU x=(bP 0 1048576 [x.up]&&bP 0 1048576 [x.down]):=tj 0 1048576 x.up [x.down];rw [e,Bool.and_assoc]
theorem St.Jk (s:St) (l:List dH):(s.nQ l).err=nd s.err (l.all jn) 3:=by
 unfold St.nQ;induction l generalizing s with
 |nil=>exact (bY _ _).symm
 |cons x l ih=>
  rw [List.foldl_cons,ih,St.bS,St.bS,nL _ _ _ _ (by decide),nL _ _ _ _ (by decide),List.all_cons];have e:jn x=(bP 1 1048576 [x.width]&&bP (-1048576) 1048576 [x.aV]):=rfl;rw [e,Bool.and_assoc]
theorem St.Jl (s:St) (l:List dH) (n:Nat):(s.kf l n).err=nd s.err (pC l n) 11:=by
 unfold St.kf pC;induction n with
 |zero=>exact (bY _ _).symm
 |succ n ih=>
  rw [List.range_succ,List.foldl_append,List.foldl_cons,List.foldl_nil,List.all_append,←nL _ _ _ _ (by decide),←ih];by_cases q:n=0
  ·rw [if_pos q];simp [q,bY]
  ·have:(n==0)=false:=by simpa using q
   rw [if_neg q,St.cJ];simp [this]
theorem Bz (e:Int) {code:Int} (h:code≠0):nd e false code≠0:=by
 unfold nd;split
 ·exact h
 ·rename_i hq;intro h0;exact hq ⟨h0,rfl⟩
theorem St.BA (s:St) (x:aK):(s.segments x).err=mF s.err x:=by
 unfold St.segments mF;split
 ·rename_i h
  rw [St.cJ]at h⊢;rw [eM h,eM h,eM h]
 ·rw [St.cJ,St.Jl,St.Jk,St.cJ]
theorem St.BC (c:ai) (x:cN) (prev:List ByteArray) (i:Int) (s:St):(St.qJ c x prev i s).err=tO c x prev s.err:=by
 unfold St.qJ tO;rw [St.bS,St.mK,St.np,St.rh]
theorem St.BD (c:ai) (x:aS) (prev:List ByteArray) (i:Int) (s:St):(St.qK c x prev i s).err=qT c x prev s.err:=by
 have hb:(x.kq !=x.cR)=(x.cR !=x.kq):=by rw [Bool.eq_iff_iff];simp;omega
 unfold St.qK qT;rw [St.Fa,St.bS,St.bS,St.cJ,St.cJ,St.cJ,St.cJ,St.vH,St.vH,St.np,St.rh,hb]
theorem St.zH (c:ai) (x:bG) (prev:List ByteArray) (i:Int) (s:St):(St.oY c x prev i s).err=ng c x prev s.err:=by
 unfold St.oY ng;rw [St.cJ,St.bS,St.bS,St.bS,St.bS,St.bS,St.vH,St.np,St.rh]
theorem St.DF (c:ai) (x:dX) (prev:List ByteArray) (i:Int) (s:St):(St.uD c x prev i s).err=zx c x prev s.err:=by
 unfold St.uD zx;rw [St.mK,St.mK,St.mK,St.vH,St.np,St.rh]
theorem St.BF (c:ai) (x:aK) (prev:List ByteArray) (i:Int) (s:St):(St.mJ c x prev i s).err=qU c x prev s.err:=by
 unfold St.mJ qU;rw [St.bS,St.cJ,St.bS,St.cJ,St.cJ,St.Fa,St.bS,St.bS,St.bS,St.bS,St.bS,St.bS,St.bS,St.bS,St.bS,St.bS,St.bS,St.bS,St.bS,St.BA,St.bS,St.bS,St.vH,St.np,St.rh]
 have h1:((x.state==0)||(x.state==1)||(x.state==2))=bP 0 2 [x.state]:=by
  rw [vG,Bool.eq_iff_iff];simp;omega
 have h3:bP (if x.state=2 then x.min else 0) (if x.state=2 then x.max else 0) [x.output]=(if(x.state==2)=true then bP x.min x.max [x.output]else(x.output==0)):=by
  by_cases q:x.state=2
  ·rw [if_pos q,if_pos q,if_pos (by simpa using q)]
  ·rw [if_neg q,if_neg q,if_neg (by simpa using q),vG,Bool.eq_iff_iff];simp;omega
 rw [h1,h3];generalize nd (nd (nd (mF _ x) _ 3) _ 3) _ 3=z;by_cases hs:bP 0 24 [x.startTime]=true
 ·have h2:((x.state !=1)||(x.startTime !=0))=((x.state !=1)||decide (0<x.startTime)):=by
   rw [vG]at hs;simp at hs
   congr 1;rw [Bool.eq_iff_iff];simp;omega
  rw [h2]
 ·have hs':bP 0 24 [x.startTime]=false:=by simpa using hs
  rw [hs'];generalize nd (nd (nd (nd z _ 3) _ 3) _ 3) _ 3=y;have hy:=Bz y (code:=3) (by decide);generalize nd y false 3=y1 at*;simp only [eM hy,sP hy]
theorem nt {α:Type} (l:List α) (F:α→Nat→Int→Int) (step:St→Nat→St) (h: ∀s i,(step s i).err=cg l F i s.err) (s:St) (n:Nat):
 ((List.range n).foldl step s).err=cZ (cg l F) s.err n:=by
 induction n with
 |zero=>rfl
 |succ n ih=>
  rw [List.range_succ,List.foldl_append,List.foldl_cons,List.foldl_nil,ee,←ih];exact h _ n
theorem St.BG (s:St) (c:ai):(s.aj c).err=qc c s.err:=by
 unfold St.aj St.uC St.upTo qc;refine nt c.aj (sR c) _ ?_ s c.aj.length;intro s i;unfold cg;cases c.aj[i]? with
 |none=>rfl
 |some x=>exact St.BC c x _ i s
theorem St.BH (s:St) (c:ai):(s.lines c).err=nj c s.err:=by
 unfold St.lines St.uE St.upTo nj;refine nt c.lines (nT c) _ ?_ s c.lines.length;intro s i;unfold cg;cases c.lines[i]? with
 |none=>rfl
 |some x=>exact St.BD c x _ i s
theorem St.BI (s:St) (c:ai):(s.aq c).err=qd c s.err:=by
 unfold St.aq St.uK St.upTo qd;refine nt c.aq (nU c) _ ?_ s c.aq.length;intro s i;unfold cg;cases c.aq[i]? with
 |none=>rfl
 |some x=>exact St.BF c x _ i s
theorem St.yx (s:St) (c:ai):(s.stores c).err=nk c s.err:=by
 unfold St.stores St.qL St.upTo nk;refine nt c.stores (kB c) _ ?_ s c.stores.length;intro s i;unfold cg;cases c.stores[i]? with
 |none=>rfl
 |some x=>exact St.zH c x _ i s
theorem St.Fb (s:St) (c:ai):(s.aB c).err=vx c s.err:=by
 unfold St.aB St.zf St.upTo vx;refine nt c.aB (uo c) _ ?_ s c.aB.length;intro s i;unfold cg;cases c.aB[i]? with
 |none=>rfl
 |some x=>exact St.DF c x _ i s
theorem St.Jm (s:St) (c:ai) (x:aY):(s.moves c x).err=nd (nd (nd (nd (nd s.err (x.bI||decide (x.moves.length=0)) 16) (decide ((x.moves.length:Int)≤16)) 8) (bP 0 ((c.aq.length:Int)-1) (x.moves.map bL.unit)) 12) (iP (x.moves.map bL.unit)) 11) (x.moves.all wU) 3:=by
 rw [Bool.or_comm];unfold St.moves;split
 ·rename_i h
  rw [St.cJ,St.cJ]at h⊢;rw [eM h,eM h,eM h]
 ·rw [St.OP,St.cJ,St.Jj,St.cJ,St.cJ]
theorem St.DG (c:ai) (x:aY) (prev:List ByteArray) (i:Int) (s:St):(St.lO c x prev i s).err=oZ c x prev s.err:=by
 have h1:(decide (x.lines.length=1)||decide (x.lines.length=2))=bP 1 2 [(x.lines.length:Int)]:=by
  rw [vG,Bool.eq_iff_iff];simp;omega
 unfold St.lO oZ;split
 ·rename_i h
  rw [St.cJ,St.np,St.rh,h1]at h⊢;simp only [eM h]
 ·rw [St.Jm,St.cJ,St.Jj,St.cJ,St.np,St.rh,h1]
theorem St.Fc (s:St) (c:ai):(s.outs c).err=vA c s.err:=by
 unfold St.outs St.jb vA;refine nt c.outs (xk c) _ ?_ s c.outs.length;intro s i;unfold cg;cases c.outs[i]? with
 |none=>rfl
 |some x=>exact St.DG c x _ i s
theorem St.Jn (s:St) (c:ai):(s.whole c).err=jq c s.err:=by
 unfold St.whole jq;rw [St.cJ,St.cJ,St.cJ,St.cJ,St.cJ,St.cJ,St.mK,St.bS,St.rh,←vG];rw [fM,fM,fM,fM,fM];simp [kz,dU,mY]
theorem St.OQ (c:ai) (h:Nat) (s:St):(St.LC c h s c.outs.length).err=mI c h s.err:=by
 unfold St.LC mI;refine nt c.outs (fun x _ e=>nd e (!kC c h x) 13) _ ?_ s c.outs.length;intro s i;unfold cg;cases c.outs[i]? with
 |none=>rfl
 |some x=>show(St.zD c h x i s).err=_;unfold St.zD;rw [St.cJ,St.rh]
theorem St.vI (s:St) (c:ai):(s.o9 c).err=zB c s.err:=by
 unfold St.o9 zB;generalize c.hours.toNat=n;induction n with
 |zero=>rfl
 |succ n ih=>rw [St.vF,St.OQ,ih,ee]
noncomputable def ck (c:ai):Nat→St
 |0=>⟨0,0,0,0⟩
 |1=>St.whole ⟨0,0,0,0⟩ c
 |2=>(St.whole ⟨0,0,0,0⟩ c).aj c
 |3=>((St.whole ⟨0,0,0,0⟩ c).aj c).lines c
 |4=>(((St.whole ⟨0,0,0,0⟩ c).aj c).lines c).aq c
 |5=>((((St.whole ⟨0,0,0,0⟩ c).aj c).lines c).aq c).stores c
 |6=>(((((St.whole ⟨0,0,0,0⟩ c).aj c).lines c).aq c).stores c).aB c
 |7=>((((((St.whole ⟨0,0,0,0⟩ c).aj c).lines c).aq c).stores c).aB c).outs c
 |_=>(((((((St.whole ⟨0,0,0,0⟩ c).aj c).lines c).aq c).stores c).aB c).outs c).o9 c
theorem BJ (c:ai):(ck c 7).err=vA c (vx c (nk c (qd c (nj c (qc c (jq c 0)))))):=by
 show(St.outs _ c).err=_;rw [St.Fc,St.Fb,St.yx,St.BI,St.BH,St.BG,St.Jn]
theorem Jo (c:ai):(ck c 8).err=dW c:=by
 show(St.o9 _ c).err=_;unfold dW;rw [St.vI,←BJ];rfl
theorem LI (c:ai) (i:Nat) (h:(ck c i).err≠0):(ck c (i+1)).err=(ck c i).err:=by
 have hb:=fun e (he:e≠0)=>iC (F:=cg c.aj (sR c)) (fun i e h=>dh (qZ c) i e h) he c.aj.length;have hl:=fun e (he:e≠0)=>iC (F:=cg c.lines (nT c)) (fun i e h=>dh (sU c) i e h) he c.lines.length;have hu:=fun e (he:e≠0)=>iC (F:=cg c.aq (nU c)) (fun i e h=>dh (o7 c) i e h) he c.aq.length;have hs:=fun e (he:e≠0)=>iC (F:=cg c.stores (kB c)) (fun i e h=>dh (ni c) i e h) he c.stores.length;have ht:=fun e (he:e≠0)=>iC (F:=cg c.aB (uo c)) (fun i e h=>dh (q9 c) i e h) he c.aB.length;have ho:=fun e (he:e≠0)=>iC (F:=cg c.outs (xk c)) (fun i e h=>dh (rf c) i e h) he c.outs.length;have hh:=fun e (he:e≠0)=>iC (F:=mI c) (sZ c) he c.hours.toNat;match i,h with
 |0,h=>exact absurd rfl h
 |1,h=>exact (St.BG _ c).trans (hb _ h)
 |2,h=>exact (St.BH _ c).trans (hl _ h)
 |3,h=>exact (St.BI _ c).trans (hu _ h)
 |4,h=>exact (St.yx _ c).trans (hs _ h)
 |5,h=>exact (St.Fb _ c).trans (ht _ h)
 |6,h=>exact (St.Fc _ c).trans (ho _ h)
 |7,h=>exact (St.vI _ c).trans (hh _ h)
 |n+8,h=>rfl
theorem Fe (c:ai): ∀n i,i+n=8→(ck c i).err≠0→dW c=(ck c i).err
 |0,i,e,h=>by obtain rfl:i=8:=by omega
              rw [Jo]
 |n+1,i,e,h=>by
  have h1:=LI c i h;rw [Fe c n (i+1) (by omega) (by rw [h1];exact h),h1]
def Qw:Nat→FuncId
 |0=>78
 |1=>79
 |2=>80
 |3=>81
 |4=>82
 |5=>83
 |6=>84
 |_=>85
theorem DI (i:Nat) (hi:i<8): ∀args w,(callFunc (Qw i) args).run prog w= .ok (.enter (Qw i) args) w:=by
 match i,hi with
 |0,_=>exact enters_of func78 (by kernel_rfl) rfl
 |1,_=>exact enters_of func79 (by kernel_rfl) rfl
 |2,_=>exact enters_of func80 (by kernel_rfl) rfl
 |3,_=>exact enters_of func81 (by kernel_rfl) rfl
 |4,_=>exact enters_of func82 (by kernel_rfl) rfl
 |5,_=>exact enters_of func83 (by kernel_rfl) rfl
 |6,_=>exact enters_of func84 (by kernel_rfl) rfl
 |7,_=>exact enters_of func85 (by kernel_rfl) rfl
theorem GM (w0:World) (K:Nat) (c:ai) (hK:w0.heap.size≤K) (hc:a_ w0 c) (hl:oA c) (i:Nat) (hi:i<8) (h0:(ck c i).err=0) (U:World) (hU:Ext w0 U) (h:iN U K c (ck c i)):
 Calls prog (Qw i) #[.pointer (some ⟨K,0,none⟩)] U fun e' w'=>mq U K c (ck c (i+1)) e' w':=by
 match i,hi,h0,h with
 |0,_,_,h=>exact Le w0 U K c _ hK hU hc h
 |1,_,_,h=>exact Lc w0 U K c _ hK hU hc hl.aj h
 |2,_,_,h=>exact Ld w0 U K c _ hK hU hc hl.lines h
 |3,_,_,h=>exact LG w0 U K c _ hK hU hc hl.aq h
 |4,_,_,h=>exact IB w0 U K c _ hK hU hc hl.stores h
 |5,_,_,h=>exact N5 w0 U K c _ hK hU hc hl.aB h
 |6,_,_,h=>exact GL w0 U K c _ hK hU hc hl.outs h
 |7,_,h0,h=>
  rw [BJ]at h0;have ok:=LA h0;exact GJ w0 U K c _ hK hU hc hl ok.frame.hours ok.line h
def X3 (K:Nat):List Value:=(List.range 8).map fun i=> .func (.func (Qw i)) #[.pointer (some ⟨K,0,none⟩)] #[]
theorem Jp (w0:World) (c:ai) (hc:a_ w0 c) (hl:oA c):
 Calls prog 37 #[.agg (C8 c)] w0 fun e w'=> ∃k i f,e= .returned (.tuple #[.agg #[i64 k,i64 i,i64 f],i64 (dW c)])∧Ext w0 w':=by
 try unfold C8
 have f_:=ae hc;have lD:=ae hl
 have SL:=ae (Jo c);obtain ⟨ce,hce⟩: ∃ce,ce=dW c:=⟨_,rfl⟩;have SM:Hid (∀i,i≤8→(ck c i).err≠0→ce=(ck c i).err):=fun i hi h=>by rw [hce];exact Fe c (8-i) i (by omega) h
 rw [←hce]at SL⊢;clear hc hl hce;go_enter func37,ntmps37
 go_upto_region 2 with fail
 obtain ⟨W,hW,x0,Z0,A0,A1,A2⟩:=gl w0 32 c.cells 52 [i64 0,i64 0,i64 0] 143 (y_ c ⟨0,0,0,0⟩);rw [show((w0.alloc (.cells (C8 c) 32)).alloc (.cells #[i64 0,i64 0,i64 0] 52)).alloc (.cells #[i64 c.hours,.slice c.ra c.aA.length c.rc,.slice c.ba c.aj.length c.bc,.slice c.la c.lines.length c.lc,.slice c.ua c.aq.length c.uc,.slice c.sa c.stores.length c.sc,.slice c.ta c.aB.length c.tc,.slice c.oa c.outs.length c.oc,i64 0,i64 0,i64 0,i64 0] 143)=W from hW.symm];obtain ⟨K,hK⟩: ∃K,K=w0.heap.size+1+1:=⟨_,rfl⟩;obtain ⟨R,hR⟩: ∃R,R=w0.heap.size+1:=⟨_,rfl⟩;rw [←hK,←hR];have BK:aQ W R 52 [i64 0,i64 0,i64 0]:=by rw [hR];exact A1
 have hA2:iN W K c (ck c 0):=by rw [hK];exact A2
 have Ff:R≠K:=by omega
 have df:Hid (w0.heap.size≤K):=by show _≤_;omega
 have KQ:Hid (w0.heap.size≤R):=by show _≤_;omega
 have pZ:=ae x0;have mi:=ae BK;have sq:=ae hA2
 clear hW x0 Z0 A0 A1 A2 hK hR BK hA2;go_wp2_with fail
 obtain ⟨W1,hW1,x1,Z1,B1⟩:=aX W 1 (X3 K);rw [show W.alloc (.cells #[.func (.func 78) #[.pointer (some ⟨K,0,none⟩)] #[],.func (.func 79) #[.pointer (some ⟨K,0,none⟩)] #[],.func (.func 80) #[.pointer (some ⟨K,0,none⟩)] #[],.func (.func 81) #[.pointer (some ⟨K,0,none⟩)] #[],.func (.func 82) #[.pointer (some ⟨K,0,none⟩)] #[],.func (.func 83) #[.pointer (some ⟨K,0,none⟩)] #[],.func (.func 84) #[.pointer (some ⟨K,0,none⟩)] #[],.func (.func 85) #[.pointer (some ⟨K,0,none⟩)] #[]] 1)=W1 from hW1.symm];obtain ⟨G,hG⟩: ∃G,G=W.heap.size:=⟨_,rfl⟩;rw [←hG]at B1⊢;have Wk:G≠K:=by have:=sq.o.lt;omega
 have HG:=ae B1;have Lt:=ae (mi.o.ext x1);have Qt:=ae (sq.o.ext x1);have eE:=ae (pZ.o.trans x1)
 clear hW1 x1 Z1 B1 hG pZ mi sq;go_loopw [28] (fun ii wr=> ∃i:Nat,i≤8∧(ck c i).err=0∧iN wr K c (ck c i)∧ar K W1 wr∧aQ wr G 1 (X3 K)∧aQ wr R 52 [i64 0,i64 0,i64 0]∧ii= .int .i64 i) (fun ii _=>8-(intOf ii).toNat)
 case atStart=>exact ⟨0,Nat.zero_le _,rfl,Qt.o,ar.refl _ _,HG.o,Lt.o,rfl⟩
 case round=>
  obtain ⟨i,hi,SN,hk,hx,hg,hr,rfl⟩:=hrel;clear HG Lt Qt;by_cases hlt:i<8
  ·have hE:=hx.ext eE.o df.o
   have HC:=ae (GM w0 K c df.o f_.o lD.o i hlt SN wr hE hk)
   have g0:wr.cell? ⟨G,i,none⟩=some (.func (.func (Qw i)) #[.pointer (some ⟨K,0,none⟩)] #[]):=by
    rw [hg.cell i];unfold X3;simp [hlt]
   have hen:=DI i hlt;have HST:=ae (SM.o (i+1) (by omega));have ez:=ae hx;have KR:=ae hg;have xg:=ae hr;have Qc:=ae hE
   generalize Qw i=F at*;obtain ⟨s1,hs1⟩: ∃s1,s1=ck c (i+1):=⟨_,rfl⟩;rw [←hs1]at HC HST;have zi:=ae hs1;clear hs1;have jS:(0:Int)≤(i:Int):=by omega
   have jI:(i:Int)<8:=by omega
   clear hk hx hg hr hE SN;go_wp2_with fail
   refine HC.o.mono ?_;rintro e W2 ⟨rfl,hK2,hx2⟩;clear g0 hen;have ve:=ae hK2;have kX:=ae (ez.o.trans hx2);have LJ:=ae (KR.o.but hx2 Wk);have tK:=ae (xg.o.but hx2 Ff)
   have Qd:=ae (hx2.ext Qc.o df.o);obtain ⟨c8,c9,c10,c11,-⟩:=oh ve.o;clear hK2 hx2 ez KR xg Qc HC;by_cases h0:s1.err=0
   ·have t1:(s1.err !=0)=false:=by simpa using h0
    have HEE:=ae h0;clear h0 c8 c9 c10;go_wp2_with fail
    exact ⟨⟨i+1,by omega,by rw [←zi.o];exact HEE.o,by rw [←zi.o];exact ve.o,kX.o,LJ.o,tK.o,by go_num⟩,by simp only [intOf];omega⟩
   ·have t1:(s1.err !=0)=true:=by simpa using h0
    have hce:=HST.o h0;have OS:=ae hce;obtain ⟨fk,fi,ff,fe⟩:=s1;simp only at c8 c9 c10 c11 t1 hce;clear h0 hce;have r0:=tK.o.cl 0 (i64 0) rfl;have r1:=tK.o.cl 1 (i64 0) rfl;have r2:=tK.o.cl 2 (i64 0) rfl;have q0:W2.frozen? ⟨R,0,none⟩=false:=tK.o.frozen 0;have q1:W2.frozen? ⟨R,1,none⟩=false:=tK.o.frozen 1;have q2:W2.frozen? ⟨R,2,none⟩=false:=tK.o.frozen 2;have tk: ∀o,(⟨R,o,none⟩:Addr).block≠K:=fun o=>Ff;have Jq:=ae (((tK.o.set 0 (i64 fk)).set 1 (i64 fi)).set 2 (i64 ff));have X4:Hid (iN (((W2.setCell ⟨R,0,none⟩ (i64 fk)).setCell ⟨R,1,none⟩ (i64 fi)).setCell ⟨R,2,none⟩ (i64 ff)) K c ⟨fk,fi,ff,fe⟩):=((ve.o.other _ _ (tk 0)).other _ _ (tk 1)).other _ _ (tk 2);obtain ⟨d8,d9,d10,d11,-⟩:=oh X4.o;simp only at d8 d9 d10 d11;obtain ⟨s0,X7,s2⟩:(((W2.setCell ⟨R,0,none⟩ (i64 fk)).setCell ⟨R,1,none⟩ (i64 fi)).setCell ⟨R,2,none⟩ (i64 ff)).drew.cell? ⟨R,0,none⟩=some (i64 fk)∧(((W2.setCell ⟨R,0,none⟩ (i64 fk)).setCell ⟨R,1,none⟩ (i64 fi)).setCell ⟨R,2,none⟩ (i64 ff)).drew.cell? ⟨R,1,none⟩=some (i64 fi)∧(((W2.setCell ⟨R,0,none⟩ (i64 fk)).setCell ⟨R,1,none⟩ (i64 fi)).setCell ⟨R,2,none⟩ (i64 ff)).drew.cell? ⟨R,2,none⟩=some (i64 ff):=⟨(Jq.o.cell 0).trans rfl,(Jq.o.cell 1).trans rfl,(Jq.o.cell 2).trans rfl⟩;have vu:Hid (Ext w0 (((W2.setCell ⟨R,0,none⟩ (i64 fk)).setCell ⟨R,1,none⟩ (i64 fi)).setCell ⟨R,2,none⟩ (i64 ff)).drew):=(((Qd.o.setCell (p:=⟨R,0,none⟩) KQ.o _).setCell (p:=⟨R,1,none⟩) KQ.o _).setCell (p:=⟨R,2,none⟩) KQ.o _).drew;clear tk;go_wp2_with fail
    refine aL (fun w'=>w'.cell? ⟨K,8,none⟩=some (i64 fk)∧w'.cell? ⟨K,9,none⟩=some (i64 fi)∧w'.cell? ⟨K,10,none⟩=some (i64 ff)∧w'.cell? ⟨K,11,none⟩=some (i64 fe)) (fun w'=>True) (fun i=>false) (by kernel_rfl) (⟨c8,c9,c10,c11⟩) (trivial) (fun ay ah=> ?_);refine aF 0 ay ah ?_;refine aF 1 ay ah ?_;refine aF 2 ay ah ?_;refine aF 3 ay ah ?_ (v:= .agg #[i64 fk,i64 fi,i64 ff]);refine aF 4 ay ah ?_;refine aF 5 ay ah ?_;refine aF 6 ay ah ?_;refine aF 7 ay ah ?_ (v:=i64 fe);refine fp 8 rfl (fun Kc hK=> ?_);go_simp;refine hK.o _ _ (⟨d8,d9,d10,d11⟩) (trivial) (fun ay ah=> ?_);clear hK Kc;try simp only [sS]
    refine aF 9 ay ah ?_ (v:=i64 fe);refine aD (by kernel_rfl) ?_ _;clear ay ah;go_wp2_with fail
    exact bodyPost_ret (v:= .tuple #[.agg #[i64 fk,i64 fi,i64 ff],i64 fe]) (by simp [results,results37,go_sem,s0,X7,s2]) rfl ⟨fk,fi,ff,by rw [OS.o],vu.o⟩
  ·obtain rfl:i=8:=by omega
   rw [SL.o]at SN;have hE:=hx.ext eE.o df.o;have OS:=ae SN;have r0:wr.cell? ⟨R,0,none⟩=some (i64 0):=(hr.cell 0).trans rfl;have r1:wr.cell? ⟨R,1,none⟩=some (i64 0):=(hr.cell 1).trans rfl;have r2:wr.cell? ⟨R,2,none⟩=some (i64 0):=(hr.cell 2).trans rfl;have q0:wr.frozen? ⟨R,0,none⟩=false:=hr.frozen 0;have q1:wr.frozen? ⟨R,1,none⟩=false:=hr.frozen 1;have q2:wr.frozen? ⟨R,2,none⟩=false:=hr.frozen 2;have Jq:=ae (((hr.set 0 (i64 0)).set 1 (i64 0)).set 2 (i64 0));obtain ⟨s0,X7,s2⟩:(((wr.setCell ⟨R,0,none⟩ (i64 0)).setCell ⟨R,1,none⟩ (i64 0)).setCell ⟨R,2,none⟩ (i64 0)).cell? ⟨R,0,none⟩=some (i64 0)∧(((wr.setCell ⟨R,0,none⟩ (i64 0)).setCell ⟨R,1,none⟩ (i64 0)).setCell ⟨R,2,none⟩ (i64 0)).cell? ⟨R,1,none⟩=some (i64 0)∧(((wr.setCell ⟨R,0,none⟩ (i64 0)).setCell ⟨R,1,none⟩ (i64 0)).setCell ⟨R,2,none⟩ (i64 0)).cell? ⟨R,2,none⟩=some (i64 0):=⟨(Jq.o.cell 0).trans rfl,(Jq.o.cell 1).trans rfl,(Jq.o.cell 2).trans rfl⟩;have vu:Hid (Ext w0 (((wr.setCell ⟨R,0,none⟩ (i64 0)).setCell ⟨R,1,none⟩ (i64 0)).setCell ⟨R,2,none⟩ (i64 0))):=((hE.setCell (p:=⟨R,0,none⟩) KQ.o _).setCell (p:=⟨R,1,none⟩) KQ.o _).setCell (p:=⟨R,2,none⟩) KQ.o _;clear hk hx hg hr hE SN;go_wp2_with fail
   exact bodyPost_ret (v:= .tuple #[.agg #[i64 0,i64 0,i64 0],i64 0]) (by simp [results,results37,go_sem,s0,X7,s2]) rfl ⟨0,0,0,by rw [OS.o],vu.o⟩
end Go.Proofs.YtkpngkdgphojlaaGreat
