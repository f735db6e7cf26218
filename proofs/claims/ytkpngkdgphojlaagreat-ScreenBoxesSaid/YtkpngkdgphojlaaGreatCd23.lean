/- Texts of the proof. -/
import Derived.Test.YtkpngkdgphojlaaGreatCd20
import Derived.Test.YtkpngkdgphojlaaGreatCd21
import Derived.Test.YtkpngkdgphojlaaGreatCd22
set_option linter.all false
set_option maxHeartbeats 1000000
set_option maxRecDepth 100000
namespace Go.Proofs.YtkpngkdgphojlaaGreat
open Go.Proofs.Tryz
open Go.RowKit
theorem St.bX (s:St) (ok:Bool) (f e:Int):(s.need ok f e).err=nd s.err ok e:=by
 unfold St.need nd;split<;>rfl
theorem St.qf (s:St) (k i:Int):(s.at k i).err=s.err:=by
 unfold St.at;split
 ·rename_i h;exact h.symm
 ·rfl
theorem uZ (a b n:Int):bk a b [n]=(decide (a≤n)&&decide (n≤b)):=by
 unfold bk;simp
theorem rG (a b n:Int) (l:List Int):bk a b (n::l)=(bk a b [n]&&bk a b l):=by
 unfold bk;simp [List.all_cons]
theorem EC (n i:Int):bk 0 (n-1) [i]=(decide (0≤i)&&decide (i<n)):=by
 rw [uZ];have:decide (i≤n-1)=decide (i<n):=by rw [Bool.eq_iff_iff];simp;omega
 rw [this]
theorem St.br (s:St) (f n a b:Int):(s.within f n a b).err=nd s.err (bk a b [n]) 3:=by
 unfold St.within;rw [St.bX,uZ]
theorem St.ED (s:St) (l:List Int) (f a b:Int):(s.each l f a b).err=nd s.err (bk a b l) 3:=by
 unfold St.each;induction l generalizing s with
 |nil=>exact (bI _ _).symm
 |cons x l ih=>rw [List.foldl_cons,ih,St.br,mI _ _ _ _ (by decide),←rG]
theorem St.lx (s:St) (c:ai) (f:Int) (l:List Int) (a b:Int):(s.lS c f l a b).err=fl s.err c l a b:=by
 unfold St.lS fl;rw [St.ED,St.bX]
theorem St.u_ (s:St) (c:ai) (f i:Int):(s.bus c f i).err=oT s.err c i:=by
 unfold St.bus oT;rw [St.bX,EC]
theorem St.EE (s:St) (c:ai) (f:Int) (l:List Int):(s.away c f l).err=mJ s.err c l:=by
 unfold St.away mJ;rw [St.bX,St.ED]
theorem St.Lg (s:St) (nm:ByteArray) (prev:List ByteArray):(s.kZ nm prev).err=nd s.err (prev.all fun p=>CL p nm) 10:=by
 unfold St.kZ;induction prev generalizing s with
 |nil=>exact (bI _ _).symm
 |cons x l ih=>rw [List.foldl_cons,ih,St.bX,mI _ _ _ _ (by decide),List.all_cons]
theorem St.mj (s:St) (nm:ByteArray) (prev:List ByteArray):(s.name nm prev).err=gP s.err nm prev:=by
 unfold St.name gP;rw [St.Lg,St.bX]
theorem St.IE (s:St) (n f:Int) (l:List Int):(s.yQ n f l).err=nd s.err (bk 0 (n-1) l) 12:=by
 unfold St.yQ;induction l generalizing s with
 |nil=>exact (bI _ _).symm
 |cons x l ih=>rw [List.foldl_cons,ih,St.bX,mI _ _ _ _ (by decide),rG,EC]
theorem St.N5 (s:St) (l:List bE):(s.KW l).err=nd s.err (l.all wu) 3:=by
 unfold St.KW;induction l generalizing s with
 |nil=>exact (bI _ _).symm
 |cons x l ih=>
  rw [List.foldl_cons,ih,St.br,St.br,mI _ _ _ _ (by decide),mI _ _ _ _ (by decide),List.all_cons];have e:wu x=(bk 0 1048576 [x.up]&&bk 0 1048576 [x.down]):=rG 0 1048576 x.up [x.down];rw [e,Bool.and_assoc]
theorem St.IG (s:St) (l:List dp):(s.mK l).err=nd s.err (l.all iR) 3:=by
 unfold St.mK;induction l generalizing s with
 |nil=>exact (bI _ _).symm
 |cons x l ih=>
  rw [List.foldl_cons,ih,St.br,St.br,mI _ _ _ _ (by decide),mI _ _ _ _ (by decide),List.all_cons];have e:iR x=(bk 1 1048576 [x.width]&&bk (-1048576) 1048576 [x.aX]):=rfl;rw [e,Bool.and_assoc]
theorem St.IH (s:St) (l:List dp) (n:Nat):(s.ju l n).err=nd s.err (oq l n) 11:=by
 unfold St.ju oq;induction n with
 |zero=>exact (bI _ _).symm
 |succ n ih=>
  rw [List.range_succ,List.foldl_append,List.foldl_cons,List.foldl_nil,List.all_append,←mI _ _ _ _ (by decide),←ih];by_cases q:n=0
  ·rw [if_pos q];simp [q,bI]
  ·have:(n==0)=false:=by simpa using q
   rw [if_neg q,St.bX];simp [this]
theorem Bl (e:Int) {code:Int} (h:code≠0):nd e false code≠0:=by
 unfold nd;split
 ·exact h
 ·rename_i hq;intro h0;exact hq ⟨h0,rfl⟩
theorem St.Bn (s:St) (x:aF):(s.segments x).err=lj s.err x:=by
 unfold St.segments lj;split
 ·rename_i h
  rw [St.bX]at h⊢;rw [ee h,ee h,ee h]
 ·rw [St.bX,St.IH,St.IG,St.bX]
theorem St.Bo (c:ai) (x:cA) (prev:List ByteArray) (i:Int) (s:St):(St.pJ c x prev i s).err=sB c x prev s.err:=by
 unfold St.pJ sB;rw [St.br,St.lx,St.mj,St.qf]
theorem St.Bp (c:ai) (x:aP) (prev:List ByteArray) (i:Int) (s:St):(St.pK c x prev i s).err=pI c x prev s.err:=by
 have hb:(x.j5 !=x.cU)=(x.cU !=x.j5):=by rw [Bool.eq_iff_iff];simp;omega
 unfold St.pK pI;rw [St.EE,St.br,St.br,St.bX,St.bX,St.bX,St.bX,St.u_,St.u_,St.mj,St.qf,hb]
theorem St.za (c:ai) (x:bj) (prev:List ByteArray) (i:Int) (s:St):(St.nO c x prev i s).err=lV c x prev s.err:=by
 unfold St.nO lV;rw [St.bX,St.br,St.br,St.br,St.br,St.br,St.u_,St.mj,St.qf]
theorem St.Dr (c:ai) (x:dS) (prev:List ByteArray) (i:Int) (s:St):(St.tS c x prev i s).err=yF c x prev s.err:=by
 unfold St.tS yF;rw [St.lx,St.lx,St.lx,St.u_,St.mj,St.qf]
theorem St.Bq (c:ai) (x:aF) (prev:List ByteArray) (i:Int) (s:St):(St.lv c x prev i s).err=pM c x prev s.err:=by
 unfold St.lv pM;rw [St.br,St.bX,St.br,St.bX,St.bX,St.EE,St.br,St.br,St.br,St.br,St.br,St.br,St.br,St.br,St.br,St.br,St.br,St.br,St.br,St.Bn,St.br,St.br,St.u_,St.mj,St.qf]
 have h1:((x.state==0)||(x.state==1)||(x.state==2))=bk 0 2 [x.state]:=by
  rw [uZ,Bool.eq_iff_iff];simp;omega
 have h3:bk (if x.state=2 then x.min else 0) (if x.state=2 then x.max else 0) [x.output]=(if(x.state==2)=true then bk x.min x.max [x.output]else(x.output==0)):=by
  by_cases q:x.state=2
  ·rw [if_pos q,if_pos q,if_pos (by simpa using q)]
  ·rw [if_neg q,if_neg q,if_neg (by simpa using q),uZ,Bool.eq_iff_iff];simp;omega
 rw [h1,h3];generalize nd (nd (nd (lj _ x) _ 3) _ 3) _ 3=z;by_cases hs:bk 0 24 [x.startTime]=true
 ·have h2:((x.state !=1)||(x.startTime !=0))=((x.state !=1)||decide (0<x.startTime)):=by
   rw [uZ]at hs;simp at hs
   congr 1;rw [Bool.eq_iff_iff];simp;omega
  rw [h2]
 ·have hs':bk 0 24 [x.startTime]=false:=by simpa using hs
  rw [hs'];generalize nd (nd (nd (nd z _ 3) _ 3) _ 3) _ 3=y;have hy:=Bl y (code:=3) (by decide);generalize nd y false 3=y1 at*;simp only [ee hy,ri hy]
theorem ml {α:Type} (l:List α) (F:α→Nat→Int→Int) (step:St→Nat→St) (h: ∀s i,(step s i).err=bM l F i s.err) (s:St) (n:Nat):
 ((List.range n).foldl step s).err=cK (bM l F) s.err n:=by
 induction n with
 |zero=>rfl
 |succ n ih=>
  rw [List.range_succ,List.foldl_append,List.foldl_cons,List.foldl_nil,dC,←ih];exact h _ n
theorem St.Br (s:St) (c:ai):(s.ak c).err=oX c s.err:=by
 unfold St.ak St.tR St.upTo oX;refine ml c.ak (rj c) _ ?_ s c.ak.length;intro s i;unfold bM;cases c.ak[i]? with
 |none=>rfl
 |some x=>exact St.Bo c x _ i s
theorem St.Bt (s:St) (c:ai):(s.lines c).err=l_ c s.err:=by
 unfold St.lines St.tT St.upTo l_;refine ml c.lines (mM c) _ ?_ s c.lines.length;intro s i;unfold bM;cases c.lines[i]? with
 |none=>rfl
 |some x=>exact St.Bp c x _ i s
theorem St.Bu (s:St) (c:ai):(s.au c).err=oY c s.err:=by
 unfold St.au St.tX St.upTo oY;refine ml c.au (mN c) _ ?_ s c.au.length;intro s i;unfold bM;cases c.au[i]? with
 |none=>rfl
 |some x=>exact St.Bq c x _ i s
theorem St.xY (s:St) (c:ai):(s.stores c).err=mf c s.err:=by
 unfold St.stores St.pL St.upTo mf;refine ml c.stores (jH c) _ ?_ s c.stores.length;intro s i;unfold bM;cases c.stores[i]? with
 |none=>rfl
 |some x=>exact St.za c x _ i s
theorem St.EF (s:St) (c:ai):(s.aL c).err=uJ c s.err:=by
 unfold St.aL St.yG St.upTo uJ;refine ml c.aL (tE c) _ ?_ s c.aL.length;intro s i;unfold bM;cases c.aL[i]? with
 |none=>rfl
 |some x=>exact St.Dr c x _ i s
theorem St.II (s:St) (c:ai) (x:bB):(s.moves c x).err=nd (nd (nd (nd (nd s.err (x.bC||decide (x.moves.length=0)) 16) (decide ((x.moves.length:Int)≤16)) 8) (bk 0 ((c.au.length:Int)-1) (x.moves.map bE.unit)) 12) (g_ (x.moves.map bE.unit)) 11) (x.moves.all wu) 3:=by
 rw [Bool.or_comm];unfold St.moves;split
 ·rename_i h
  rw [St.bX,St.bX]at h⊢;rw [ee h,ee h,ee h]
 ·rw [St.N5,St.bX,St.IE,St.bX,St.bX]
theorem St.Ds (c:ai) (x:bB) (prev:List ByteArray) (i:Int) (s:St):(St.ky c x prev i s).err=nS c x prev s.err:=by
 have h1:(decide (x.lines.length=1)||decide (x.lines.length=2))=bk 1 2 [(x.lines.length:Int)]:=by
  rw [uZ,Bool.eq_iff_iff];simp;omega
 unfold St.ky nS;split
 ·rename_i h
  rw [St.bX,St.mj,St.qf,h1]at h⊢;simp only [ee h]
 ·rw [St.II,St.bX,St.IE,St.bX,St.mj,St.qf,h1]
theorem St.EG (s:St) (c:ai):(s.outs c).err=uK c s.err:=by
 unfold St.outs St.iA uK;refine ml c.outs (wM c) _ ?_ s c.outs.length;intro s i;unfold bM;cases c.outs[i]? with
 |none=>rfl
 |some x=>exact St.Ds c x _ i s
theorem St.IJ (s:St) (c:ai):(s.whole c).err=iT c s.err:=by
 unfold St.whole iT;rw [St.bX,St.bX,St.bX,St.bX,St.bX,St.bX,St.lx,St.br,St.qf,←uZ];rw [eZ,eZ,eZ,eZ,eZ];simp [jF,dx,lU]
theorem St.N6 (c:ai) (h:Nat) (s:St):(St.bK c h s c.outs.length).err=lp c h s.err:=by
 unfold St.bK lp;refine ml c.outs (fun x _ e=>nd e (!jI c h x) 13) _ ?_ s c.outs.length;intro s i;unfold bM;cases c.outs[i]? with
 |none=>rfl
 |some x=>show(St.y8 c h x i s).err=_;unfold St.y8;rw [St.bX,St.qf]
theorem St.vd (s:St) (c:ai):(s.nZ c).err=uL c s.err:=by
 unfold St.nZ uL;generalize c.hours.toNat=n;induction n with
 |zero=>rfl
 |succ n ih=>rw [St.uY,St.N6,ih,dC]
noncomputable def ck (c:ai):Nat→St
 |0=>⟨0,0,0,0⟩
 |1=>St.whole ⟨0,0,0,0⟩ c
 |2=>(St.whole ⟨0,0,0,0⟩ c).ak c
 |3=>((St.whole ⟨0,0,0,0⟩ c).ak c).lines c
 |4=>(((St.whole ⟨0,0,0,0⟩ c).ak c).lines c).au c
 |5=>((((St.whole ⟨0,0,0,0⟩ c).ak c).lines c).au c).stores c
 |6=>(((((St.whole ⟨0,0,0,0⟩ c).ak c).lines c).au c).stores c).aL c
 |7=>((((((St.whole ⟨0,0,0,0⟩ c).ak c).lines c).au c).stores c).aL c).outs c
 |_=>(((((((St.whole ⟨0,0,0,0⟩ c).ak c).lines c).au c).stores c).aL c).outs c).nZ c
theorem Bv (c:ai):(ck c 7).err=uK c (uJ c (mf c (oY c (l_ c (oX c (iT c 0)))))):=by
 show(St.outs _ c).err=_;rw [St.EG,St.EF,St.xY,St.Bu,St.Bt,St.Br,St.IJ]
theorem IK (c:ai):(ck c 8).err=cV c:=by
 show(St.nZ _ c).err=_;unfold cV;rw [St.vd,←Bv];rfl
theorem Lh (c:ai) (i:Nat) (h:(ck c i).err≠0):(ck c (i+1)).err=(ck c i).err:=by
 have hb:=fun e (he:e≠0)=>gJ (F:=bM c.ak (rj c)) (fun i e h=>cP (pU c) i e h) he c.ak.length;have hl:=fun e (he:e≠0)=>gJ (F:=bM c.lines (mM c)) (fun i e h=>cP (rk c) i e h) he c.lines.length;have hu:=fun e (he:e≠0)=>gJ (F:=bM c.au (mN c)) (fun i e h=>cP (nV c) i e h) he c.au.length;have hs:=fun e (he:e≠0)=>gJ (F:=bM c.stores (jH c)) (fun i e h=>cP (l9 c) i e h) he c.stores.length;have ht:=fun e (he:e≠0)=>gJ (F:=bM c.aL (tE c)) (fun i e h=>cP (pV c) i e h) he c.aL.length;have ho:=fun e (he:e≠0)=>gJ (F:=bM c.outs (wM c)) (fun i e h=>cP (pW c) i e h) he c.outs.length;have hh:=fun e (he:e≠0)=>gJ (F:=lp c) (nW c) he c.hours.toNat;match i,h with
 |0,h=>exact absurd rfl h
 |1,h=>exact (St.Br _ c).trans (hb _ h)
 |2,h=>exact (St.Bt _ c).trans (hl _ h)
 |3,h=>exact (St.Bu _ c).trans (hu _ h)
 |4,h=>exact (St.xY _ c).trans (hs _ h)
 |5,h=>exact (St.EF _ c).trans (ht _ h)
 |6,h=>exact (St.EG _ c).trans (ho _ h)
 |7,h=>exact (St.vd _ c).trans (hh _ h)
 |n+8,h=>rfl
theorem EH (c:ai): ∀n i,i+n=8→(ck c i).err≠0→cV c=(ck c i).err
 |0,i,e,h=>by obtain rfl:i=8:=by omega
              rw [IK]
 |n+1,i,e,h=>by
  have h1:=Lh c i h;rw [EH c n (i+1) (by omega) (by rw [h1];exact h),h1]
def PV:Nat→FuncId
 |0=>78
 |1=>79
 |2=>80
 |3=>81
 |4=>82
 |5=>83
 |6=>84
 |_=>85
theorem Dt (i:Nat) (hi:i<8): ∀args w,(callFunc (PV i) args).run prog w= .ok (.enter (PV i) args) w:=by
 match i,hi with
 |0,_=>exact enters_of func78 (by kernel_rfl) rfl
 |1,_=>exact enters_of func79 (by kernel_rfl) rfl
 |2,_=>exact enters_of func80 (by kernel_rfl) rfl
 |3,_=>exact enters_of func81 (by kernel_rfl) rfl
 |4,_=>exact enters_of func82 (by kernel_rfl) rfl
 |5,_=>exact enters_of func83 (by kernel_rfl) rfl
 |6,_=>exact enters_of func84 (by kernel_rfl) rfl
 |7,_=>exact enters_of func85 (by kernel_rfl) rfl
theorem F6 (w0:World) (K:Nat) (c:ai) (hK:w0.heap.size≤K) (hc:aS w0 c) (hl:oW c) (i:Nat) (hi:i<8) (h0:(ck c i).err=0) (U:World) (hU:Ext w0 U) (h:gY U K c (ck c i)):
 Calls prog (PV i) #[.pointer (some ⟨K,0,none⟩)] U fun e' w'=>kW U K c (ck c (i+1)) e' w':=by
 match i,hi,h0,h with
 |0,_,_,h=>exact KQ w0 U K c _ hK hU hc h
 |1,_,_,h=>exact KO w0 U K c _ hK hU hc hl.ak h
 |2,_,_,h=>exact KP w0 U K c _ hK hU hc hl.lines h
 |3,_,_,h=>exact Lf w0 U K c _ hK hU hc hl.au h
 |4,_,_,h=>exact Hq w0 U K c _ hK hU hc hl.stores h
 |5,_,_,h=>exact Nl w0 U K c _ hK hU hc hl.aL h
 |6,_,_,h=>exact F5 w0 U K c _ hK hU hc hl.outs h
 |7,_,h0,h=>
  rw [Bv]at h0;have ok:=Ej h0;exact F0 w0 U K c _ hK hU hc hl ok.frame.hours ok.line h
def Xx (K:Nat):List Value:=(List.range 8).map fun i=> .func (.func (PV i)) #[.pointer (some ⟨K,0,none⟩)] #[]
theorem IL (w0:World) (c:ai) (hc:aS w0 c) (hl:oW c):
 Calls prog 37 #[.agg (C8 c)] w0 fun e w'=> ∃k i f,e= .returned (.tuple #[.agg #[i64 k,i64 i,i64 f],i64 (cV c)])∧Ext w0 w':=by
 try unfold C8
 have et:=ae hc;have qL:=ae hl
 have Sb:=ae (IK c);obtain ⟨ce,hce⟩: ∃ce,ce=cV c:=⟨_,rfl⟩;have Sc:Hid (∀i,i≤8→(ck c i).err≠0→ce=(ck c i).err):=fun i hi h=>by rw [hce];exact EH c (8-i) i (by omega) h
 rw [←hce]at Sb⊢;clear hc hl hce;go_enter func37,ntmps37
 go_upto_region 2 with fail
 obtain ⟨W,hW,x0,Z0,A0,A1,A2⟩:=eT w0 32 c.cells 52 [i64 0,i64 0,i64 0] 143 (yB c ⟨0,0,0,0⟩);rw [show((w0.alloc (.cells (C8 c) 32)).alloc (.cells #[i64 0,i64 0,i64 0] 52)).alloc (.cells #[i64 c.hours,.slice c.ra c.aV.length c.rc,.slice c.ba c.ak.length c.bc,.slice c.la c.lines.length c.lc,.slice c.ua c.au.length c.uc,.slice c.sa c.stores.length c.sc,.slice c.ta c.aL.length c.tc,.slice c.oa c.outs.length c.oc,i64 0,i64 0,i64 0,i64 0] 143)=W from hW.symm];obtain ⟨K,hK⟩: ∃K,K=w0.heap.size+1+1:=⟨_,rfl⟩;obtain ⟨R,hR⟩: ∃R,R=w0.heap.size+1:=⟨_,rfl⟩;rw [←hK,←hR];have hA1:aJ W R 52 [i64 0,i64 0,i64 0]:=by rw [hR];exact A1
 have hA2:gY W K c (ck c 0):=by rw [hK];exact A2
 have EI:R≠K:=by omega
 have cX:Hid (w0.heap.size≤K):=by show _≤_;omega
 have Kq:Hid (w0.heap.size≤R):=by show _≤_;omega
 have pG:=ae x0;have mY:=ae hA1;have tB:=ae hA2
 clear hW x0 Z0 A0 A1 A2 hK hR hA1 hA2;go_wp2_with fail
 obtain ⟨W1,hW1,x1,Z1,B1⟩:=aH W 1 (Xx K);rw [show W.alloc (.cells #[.func (.func 78) #[.pointer (some ⟨K,0,none⟩)] #[],.func (.func 79) #[.pointer (some ⟨K,0,none⟩)] #[],.func (.func 80) #[.pointer (some ⟨K,0,none⟩)] #[],.func (.func 81) #[.pointer (some ⟨K,0,none⟩)] #[],.func (.func 82) #[.pointer (some ⟨K,0,none⟩)] #[],.func (.func 83) #[.pointer (some ⟨K,0,none⟩)] #[],.func (.func 84) #[.pointer (some ⟨K,0,none⟩)] #[],.func (.func 85) #[.pointer (some ⟨K,0,none⟩)] #[]] 1)=W1 from hW1.symm];obtain ⟨G,hG⟩: ∃G,G=W.heap.size:=⟨_,rfl⟩;rw [←hG]at B1⊢;have VD:G≠K:=by have:=tB.o.lt;omega
 have HG:=ae B1;have PS:=ae (mY.o.ext x1);have PU:=ae (tB.o.ext x1);have fJ:=ae (pG.o.trans x1)
 clear hW1 x1 Z1 B1 hG pG mY tB;go_loopw [28] (fun ii wr=> ∃i:Nat,i≤8∧(ck c i).err=0∧gY wr K c (ck c i)∧ar K W1 wr∧aJ wr G 1 (Xx K)∧aJ wr R 52 [i64 0,i64 0,i64 0]∧ii= .int .i64 i) (fun ii _=>8-(intOf ii).toNat)
 case atStart=>exact ⟨0,Nat.zero_le _,rfl,PU.o,ar.refl _ _,HG.o,PS.o,rfl⟩
 case round=>
  obtain ⟨i,hi,Sd,hk,hx,hg,hr,rfl⟩:=hrel;clear HG PS PU;by_cases hlt:i<8
  ·have hE:=hx.ext fJ.o cX.o
   have HC:=ae (F6 w0 K c cX.o et.o qL.o i hlt Sd wr hE hk)
   have g0:wr.cell? ⟨G,i,none⟩=some (.func (.func (PV i)) #[.pointer (some ⟨K,0,none⟩)] #[]):=by
    rw [hg.cell i];unfold Xx;simp [hlt]
   have hen:=Dt i hlt;have HST:=ae (Sc.o (i+1) (by omega));have fg:=ae hx;have PW:=ae hg;have tU:=ae hr;have Ub:=ae hE
   generalize PV i=F at*;obtain ⟨s1,hs1⟩: ∃s1,s1=ck c (i+1):=⟨_,rfl⟩;rw [←hs1]at HC HST;have GL:=ae hs1;clear hs1;have f_:(0:Int)≤(i:Int):=by omega
   have fU:(i:Int)<8:=by omega
   clear hk hx hg hr hE Sd;go_wp2_with fail
   refine HC.o.mono ?_;rintro e W2 ⟨rfl,hK2,hx2⟩;clear g0 hen;have uA:=ae hK2;have mS:=ae (fg.o.trans hx2);have IM:=ae (PW.o.but hx2 VD);have sq:=ae (tU.o.but hx2 EI)
   have PA:=ae (hx2.ext Ub.o cX.o);obtain ⟨c8,c9,c10,c11,-⟩:=m_ uA.o;clear hK2 hx2 fg PW tU Ub HC;by_cases h0:s1.err=0
   ·have t1:(s1.err !=0)=false:=by simpa using h0
    have HEE:=ae h0;clear h0 c8 c9 c10;go_wp2_with fail
    exact ⟨⟨i+1,by omega,by rw [←GL.o];exact HEE.o,by rw [←GL.o];exact uA.o,mS.o,IM.o,sq.o,by go_num⟩,by simp only [intOf];omega⟩
   ·have t1:(s1.err !=0)=true:=by simpa using h0
    have hce:=HST.o h0;have Cy:=ae hce;obtain ⟨fk,fi,ff,fe⟩:=s1;simp only at c8 c9 c10 c11 t1 hce;clear h0 hce;have r0:=sq.o.cl 0 (i64 0) rfl;have r1:=sq.o.cl 1 (i64 0) rfl;have r2:=sq.o.cl 2 (i64 0) rfl;have q0:W2.frozen? ⟨R,0,none⟩=false:=sq.o.frozen 0;have q1:W2.frozen? ⟨R,1,none⟩=false:=sq.o.frozen 1;have q2:W2.frozen? ⟨R,2,none⟩=false:=sq.o.frozen 2;have zb: ∀o,(⟨R,o,none⟩:Addr).block≠K:=fun o=>EI;have IP:=ae (((sq.o.set 0 (i64 fk)).set 1 (i64 fi)).set 2 (i64 ff));have Xy:Hid (gY (((W2.setCell ⟨R,0,none⟩ (i64 fk)).setCell ⟨R,1,none⟩ (i64 fi)).setCell ⟨R,2,none⟩ (i64 ff)) K c ⟨fk,fi,ff,fe⟩):=((uA.o.other _ _ (zb 0)).other _ _ (zb 1)).other _ _ (zb 2);obtain ⟨d8,d9,d10,d11,-⟩:=m_ Xy.o;simp only at d8 d9 d10 d11;obtain ⟨s0,Xz,s2⟩:(((W2.setCell ⟨R,0,none⟩ (i64 fk)).setCell ⟨R,1,none⟩ (i64 fi)).setCell ⟨R,2,none⟩ (i64 ff)).drew.cell? ⟨R,0,none⟩=some (i64 fk)∧(((W2.setCell ⟨R,0,none⟩ (i64 fk)).setCell ⟨R,1,none⟩ (i64 fi)).setCell ⟨R,2,none⟩ (i64 ff)).drew.cell? ⟨R,1,none⟩=some (i64 fi)∧(((W2.setCell ⟨R,0,none⟩ (i64 fk)).setCell ⟨R,1,none⟩ (i64 fi)).setCell ⟨R,2,none⟩ (i64 ff)).drew.cell? ⟨R,2,none⟩=some (i64 ff):=⟨(IP.o.cell 0).trans rfl,(IP.o.cell 1).trans rfl,(IP.o.cell 2).trans rfl⟩;have Au:Hid (Ext w0 (((W2.setCell ⟨R,0,none⟩ (i64 fk)).setCell ⟨R,1,none⟩ (i64 fi)).setCell ⟨R,2,none⟩ (i64 ff)).drew):=(((PA.o.setCell (p:=⟨R,0,none⟩) Kq.o _).setCell (p:=⟨R,1,none⟩) Kq.o _).setCell (p:=⟨R,2,none⟩) Kq.o _).drew;clear zb;go_wp2_with fail
    refine aB (fun w'=>w'.cell? ⟨K,8,none⟩=some (i64 fk)∧w'.cell? ⟨K,9,none⟩=some (i64 fi)∧w'.cell? ⟨K,10,none⟩=some (i64 ff)∧w'.cell? ⟨K,11,none⟩=some (i64 fe)) (fun w'=>True) (fun i=>false) (by kernel_rfl) (⟨c8,c9,c10,c11⟩) (trivial) (fun aq ah=> ?_);refine ay 0 aq ah ?_;refine ay 1 aq ah ?_;refine ay 2 aq ah ?_;refine ay 3 aq ah ?_ (v:= .agg #[i64 fk,i64 fi,i64 ff]);refine ay 4 aq ah ?_;refine ay 5 aq ah ?_;refine ay 6 aq ah ?_;refine ay 7 aq ah ?_ (v:=i64 fe);refine dX 8 rfl (fun Kc hK=> ?_);go_simp;refine hK.o _ _ (⟨d8,d9,d10,d11⟩) (trivial) (fun aq ah=> ?_);clear hK Kc;try simp only [sS]
    refine ay 9 aq ah ?_ (v:=i64 fe);refine ax (by kernel_rfl) ?_ _;clear aq ah;go_wp2_with fail
    exact bodyPost_ret (v:= .tuple #[.agg #[i64 fk,i64 fi,i64 ff],i64 fe]) (by simp [results,results37,go_sem,s0,Xz,s2]) rfl ⟨fk,fi,ff,by rw [Cy.o],Au.o⟩
  ·obtain rfl:i=8:=by omega
   rw [Sb.o]at Sd;have hE:=hx.ext fJ.o cX.o;have Cy:=ae Sd;have r0:wr.cell? ⟨R,0,none⟩=some (i64 0):=(hr.cell 0).trans rfl;have r1:wr.cell? ⟨R,1,none⟩=some (i64 0):=(hr.cell 1).trans rfl;have r2:wr.cell? ⟨R,2,none⟩=some (i64 0):=(hr.cell 2).trans rfl;have q0:wr.frozen? ⟨R,0,none⟩=false:=hr.frozen 0;have q1:wr.frozen? ⟨R,1,none⟩=false:=hr.frozen 1;have q2:wr.frozen? ⟨R,2,none⟩=false:=hr.frozen 2;have IP:=ae (((hr.set 0 (i64 0)).set 1 (i64 0)).set 2 (i64 0));obtain ⟨s0,Xz,s2⟩:(((wr.setCell ⟨R,0,none⟩ (i64 0)).setCell ⟨R,1,none⟩ (i64 0)).setCell ⟨R,2,none⟩ (i64 0)).cell? ⟨R,0,none⟩=some (i64 0)∧(((wr.setCell ⟨R,0,none⟩ (i64 0)).setCell ⟨R,1,none⟩ (i64 0)).setCell ⟨R,2,none⟩ (i64 0)).cell? ⟨R,1,none⟩=some (i64 0)∧(((wr.setCell ⟨R,0,none⟩ (i64 0)).setCell ⟨R,1,none⟩ (i64 0)).setCell ⟨R,2,none⟩ (i64 0)).cell? ⟨R,2,none⟩=some (i64 0):=⟨(IP.o.cell 0).trans rfl,(IP.o.cell 1).trans rfl,(IP.o.cell 2).trans rfl⟩;have Au:Hid (Ext w0 (((wr.setCell ⟨R,0,none⟩ (i64 0)).setCell ⟨R,1,none⟩ (i64 0)).setCell ⟨R,2,none⟩ (i64 0))):=((hE.setCell (p:=⟨R,0,none⟩) Kq.o _).setCell (p:=⟨R,1,none⟩) Kq.o _).setCell (p:=⟨R,2,none⟩) Kq.o _;clear hk hx hg hr hE Sd;go_wp2_with fail
   exact bodyPost_ret (v:= .tuple #[.agg #[i64 0,i64 0,i64 0],i64 0]) (by simp [results,results37,go_sem,s0,Xz,s2]) rfl ⟨0,0,0,by rw [Cy.o],Au.o⟩
end Go.Proofs.YtkpngkdgphojlaaGreat
