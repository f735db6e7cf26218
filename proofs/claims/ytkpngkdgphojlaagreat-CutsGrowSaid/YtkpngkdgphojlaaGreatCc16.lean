/- Texts of the proof. -/
import Derived.Test.YtkpngkdgphojlaaGreatCc14
import Derived.Test.YtkpngkdgphojlaaGreatCc15
set_option linter.all false
namespace Go.Proofs.YtkpngkdgphojlaaGreat
open Go.RowKit
theorem St.cz (s:St) (ok:Bool) (f e:Int):(s.need ok f e).err=nd s.err ok e:=by
 unfold St.need nd;split<;>rfl
theorem St.pw (s:St) (k i:Int):(s.at k i).err=s.err:=by
 unfold St.at;split
 ·rename_i h;exact h.symm
 ·rfl
theorem tQ (a b n:Int):aY a b [n]=(decide (a≤n)&&decide (n≤b)):=by
 unfold aY;simp
theorem qw (a b n:Int) (l:List Int):aY a b (n::l)=(aY a b [n]&&aY a b l):=by
 unfold aY;simp [List.all_cons]
theorem CC (n i:Int):aY 0 (n-1) [i]=(decide (0≤i)&&decide (i<n)):=by
 rw [tQ];have:decide (i≤n-1)=decide (i<n):=by rw [Bool.eq_iff_iff];simp;omega
 rw [this]
theorem St.bE (s:St) (f n a b:Int):(s.within f n a b).err=nd s.err (aY a b [n]) 3:=by
 unfold St.within;rw [St.cz,tQ]
theorem St.CD (s:St) (l:List Int) (f a b:Int):(s.each l f a b).err=nd s.err (aY a b l) 3:=by
 unfold St.each;induction l generalizing s with
 |nil=>exact (bk _ _).symm
 |cons x l ih=>rw [List.foldl_cons,ih,St.bE,lM _ _ _ _ (by decide),←qw]
theorem St.kN (s:St) (c:aq) (f:Int) (l:List Int) (a b:Int):(s.dN c f l a b).err=eo s.err c l a b:=by
 unfold St.dN eo;rw [St.CD,St.cz]
theorem St.tR (s:St) (c:aq) (f i:Int):(s.cX c f i).err=kD s.err c i:=by
 unfold St.cX kD;rw [St.cz,CC]
theorem St.CE (s:St) (c:aq) (f:Int) (l:List Int):(s.away c f l).err=j2 s.err c l:=by
 unfold St.away j2;rw [St.cz,St.CD]
theorem St.JH (s:St) (nm:ByteArray) (prev:List ByteArray):(s.kF nm prev).err=nd s.err (prev.all fun p=>xN p nm) 10:=by
 unfold St.kF;induction prev generalizing s with
 |nil=>exact (bk _ _).symm
 |cons x l ih=>rw [List.foldl_cons,ih,St.cz,lM _ _ _ _ (by decide),List.all_cons]
theorem St.lB (s:St) (nm:ByteArray) (prev:List ByteArray):(s.name nm prev).err=eG s.err nm prev:=by
 unfold St.name eG;rw [St.JH,St.cz]
theorem St.GM (s:St) (n f:Int) (l:List Int):(s.wT n f l).err=nd s.err (aY 0 (n-1) l) 12:=by
 unfold St.wT;induction l generalizing s with
 |nil=>exact (bk _ _).symm
 |cons x l ih=>rw [List.foldl_cons,ih,St.cz,lM _ _ _ _ (by decide),qw,CC]
theorem St.MM (s:St) (l:List bH):(s.Jm l).err=nd s.err (l.all uD) 3:=by
 unfold St.Jm;induction l generalizing s with
 |nil=>exact (bk _ _).symm
 |cons x l ih=>
  rw [List.foldl_cons,ih,St.bE,St.bE,lM _ _ _ _ (by decide),lM _ _ _ _ (by decide),List.all_cons];have e:uD x=(aY 0 1048576 [x.up]&&aY 0 1048576 [x.down]):=qw 0 1048576 x.up [x.down];rw [e,Bool.and_assoc]
theorem St.GN (s:St) (l:List cL):(s.lO l).err=nd s.err (l.all gH) 3:=by
 unfold St.lO;induction l generalizing s with
 |nil=>exact (bk _ _).symm
 |cons x l ih=>
  rw [List.foldl_cons,ih,St.bE,St.bE,lM _ _ _ _ (by decide),lM _ _ _ _ (by decide),List.all_cons];have e:gH x=(aY 1 1048576 [x.width]&&aY (-1048576) 1048576 [x.aX]):=rfl;rw [e,Bool.and_assoc]
theorem St.GP (s:St) (l:List cL) (n:Nat):(s.gX l n).err=nd s.err (mD l n) 11:=by
 unfold St.gX mD;induction n with
 |zero=>exact (bk _ _).symm
 |succ n ih=>
  rw [List.range_succ,List.foldl_append,List.foldl_cons,List.foldl_nil,List.all_append,←lM _ _ _ _ (by decide),←ih];by_cases q:n=0
  ·rw [if_pos q];simp [q,bk]
  ·have:(n==0)=false:=by simpa using q
   rw [if_neg q,St.cz];simp [this]
theorem y_ (e:Int) {code:Int} (h:code≠0):nd e false code≠0:=by
 unfold nd;split
 ·exact h
 ·rename_i hq;intro h0;exact hq ⟨h0,rfl⟩
theorem St.za (s:St) (x:aF):(s.segments x).err=jI s.err x:=by
 unfold St.segments jI;split
 ·rename_i h
  rw [St.cz]at h⊢;rw [dX h,dX h,dX h]
 ·rw [St.cz,St.GP,St.GN,St.cz]
theorem St.zb (c:aq) (x:cN) (prev:List ByteArray) (i:Int) (s:St):(St.my c x prev i s).err=nZ c x prev s.err:=by
 unfold St.my nZ;rw [St.bE,St.kN,St.lB,St.pw]
theorem St.ze (c:aq) (x:aS) (prev:List ByteArray) (i:Int) (s:St):(St.mA c x prev i s).err=oW c x prev s.err:=by
 have hb:(x.ie !=x.cd)=(x.cd !=x.ie):=by rw [Bool.eq_iff_iff];simp;omega
 unfold St.mA oW;rw [St.CE,St.bE,St.bE,St.cz,St.cz,St.cz,St.cz,St.tR,St.tR,St.lB,St.pw,hb]
theorem St.xe (c:aq) (x:bp) (prev:List ByteArray) (i:Int) (s:St):(St.kH c x prev i s).err=ll c x prev s.err:=by
 unfold St.kH ll;rw [St.cz,St.bE,St.bE,St.bE,St.bE,St.bE,St.tR,St.lB,St.pw]
theorem St.Bo (c:aq) (x:dW) (prev:List ByteArray) (i:Int) (s:St):(St.oY c x prev i s).err=wE c x prev s.err:=by
 unfold St.oY wE;rw [St.kN,St.kN,St.kN,St.tR,St.lB,St.pw]
theorem St.zg (c:aq) (x:aF) (prev:List ByteArray) (i:Int) (s:St):(St.kM c x prev i s).err=lQ c x prev s.err:=by
 unfold St.kM lQ;rw [St.bE,St.cz,St.bE,St.cz,St.cz,St.CE,St.bE,St.bE,St.bE,St.bE,St.bE,St.bE,St.bE,St.bE,St.bE,St.bE,St.bE,St.bE,St.bE,St.za,St.bE,St.bE,St.tR,St.lB,St.pw]
 have h1:((x.state==0)||(x.state==1)||(x.state==2))=aY 0 2 [x.state]:=by
  rw [tQ,Bool.eq_iff_iff];simp;omega
 have h3:aY (if x.state=2 then x.min else 0) (if x.state=2 then x.max else 0) [x.output]=(if(x.state==2)=true then aY x.min x.max [x.output]else(x.output==0)):=by
  by_cases q:x.state=2
  ·rw [if_pos q,if_pos q,if_pos (by simpa using q)]
  ·rw [if_neg q,if_neg q,if_neg (by simpa using q),tQ,Bool.eq_iff_iff];simp;omega
 rw [h1,h3];generalize nd (nd (nd (jI _ x) _ 3) _ 3) _ 3=z;by_cases hs:aY 0 24 [x.startTime]=true
 ·have h2:((x.state !=1)||(x.startTime !=0))=((x.state !=1)||decide (0<x.startTime)):=by
   rw [tQ]at hs;simp at hs
   congr 1;rw [Bool.eq_iff_iff];simp;omega
  rw [h2]
 ·have hs':aY 0 24 [x.startTime]=false:=by simpa using hs
  rw [hs'];generalize nd (nd (nd (nd z _ 3) _ 3) _ 3) _ 3=y;have hy:=y_ y (code:=3) (by decide);generalize nd y false 3=y1 at*;simp only [dX hy,qj hy]
theorem lC {α:Type} (l:List α) (F:α→Nat→Int→Int) (step:St→Nat→St) (h: ∀s i,(step s i).err=bW l F i s.err) (s:St) (n:Nat):
 ((List.range n).foldl step s).err=cM (bW l F) s.err n:=by
 induction n with
 |zero=>rfl
 |succ n ih=>
  rw [List.range_succ,List.foldl_append,List.foldl_cons,List.foldl_nil,dE,←ih];exact h _ n
theorem St.zh (s:St) (c:aq):(s.au c).err=mI c s.err:=by
 unfold St.au St.ln mI;refine lC c.au (ql c) _ ?_ s c.au.length;intro s i;unfold bW;cases c.au[i]? with
 |none=>rfl
 |some x=>exact St.zb c x _ i s
theorem St.zi (s:St) (c:aq):(s.lines c).err=ko c s.err:=by
 unfold St.lines St.lp ko;refine lC c.lines (lS c) _ ?_ s c.lines.length;intro s i;unfold bW;cases c.lines[i]? with
 |none=>rfl
 |some x=>exact St.ze c x _ i s
theorem St.zj (s:St) (c:aq):(s.aj c).err=mJ c s.err:=by
 unfold St.aj St.lA mJ;refine lC c.aj (lT c) _ ?_ s c.aj.length;intro s i;unfold bW;cases c.aj[i]? with
 |none=>rfl
 |some x=>exact St.zg c x _ i s
theorem St.vS (s:St) (c:aq):(s.stores c).err=j8 c s.err:=by
 unfold St.stores St.jH j8;refine lC c.stores (jh c) _ ?_ s c.stores.length;intro s i;unfold bW;cases c.stores[i]? with
 |none=>rfl
 |some x=>exact St.xe c x _ i s
theorem St.CF (s:St) (c:aq):(s.aN c).err=qZ c s.err:=by
 unfold St.aN St.oq qZ;refine lC c.aN (rQ c) _ ?_ s c.aN.length;intro s i;unfold bW;cases c.aN[i]? with
 |none=>rfl
 |some x=>exact St.Bo c x _ i s
theorem St.GQ (s:St) (c:aq) (x:bI):(s.moves c x).err=nd (nd (nd (nd (nd s.err (x.bJ||decide (x.moves.length=0)) 16) (decide ((x.moves.length:Int)≤16)) 8) (aY 0 ((c.aj.length:Int)-1) (x.moves.map bH.unit)) 12) (gG (x.moves.map bH.unit)) 11) (x.moves.all uD) 3:=by
 rw [Bool.or_comm];unfold St.moves;split
 ·rename_i h
  rw [St.cz,St.cz]at h⊢;rw [dX h,dX h,dX h]
 ·rw [St.MM,St.cz,St.GM,St.cz,St.cz]
theorem St.Bp (c:aq) (x:bI) (prev:List ByteArray) (i:Int) (s:St):(St.j7 c x prev i s).err=nk c x prev s.err:=by
 have h1:(decide (x.lines.length=1)||decide (x.lines.length=2))=aY 1 2 [(x.lines.length:Int)]:=by
  rw [tQ,Bool.eq_iff_iff];simp;omega
 unfold St.j7 nk;split
 ·rename_i h
  rw [St.cz,St.lB,St.pw,h1]at h⊢;simp only [dX h]
 ·rw [St.GQ,St.cz,St.GM,St.cz,St.lB,St.pw,h1]
theorem St.CG (s:St) (c:aq):(s.outs c).err=q9 c s.err:=by
 unfold St.outs St.gP q9;refine lC c.outs (uK c) _ ?_ s c.outs.length;intro s i;unfold bW;cases c.outs[i]? with
 |none=>rfl
 |some x=>exact St.Bp c x _ i s
theorem St.GR (s:St) (c:aq):(s.whole c).err=gz c s.err:=by
 unfold St.whole gz;rw [St.cz,St.cz,St.cz,St.cz,St.cz,St.cz,St.kN,St.bE,St.pw,←tQ];rw [ep,ep,ep,ep,ep];simp [iI,df,jE]
theorem St.MN (c:aq) (h:Nat) (s:St):(St.JA c h s c.outs.length).err=kI c h s.err:=by
 unfold St.JA kI;refine lC c.outs (fun x _ e=>nd e (!ji c h x) 13) _ ?_ s c.outs.length;intro s i;unfold bW;cases c.outs[i]? with
 |none=>rfl
 |some x=>show(St.wZ c h x i s).err=_;unfold St.wZ;rw [St.cz,St.pw]
theorem St.tS (s:St) (c:aq):(s.nA c).err=tA c s.err:=by
 unfold St.nA tA;generalize c.hours.toNat=n;induction n with
 |zero=>rfl
 |succ n ih=>rw [St.tP,St.MN,ih,dE]
noncomputable def ck (c:aq):Nat→St
 |0=>⟨0,0,0,0⟩
 |1=>St.whole ⟨0,0,0,0⟩ c
 |2=>(St.whole ⟨0,0,0,0⟩ c).au c
 |3=>((St.whole ⟨0,0,0,0⟩ c).au c).lines c
 |4=>(((St.whole ⟨0,0,0,0⟩ c).au c).lines c).aj c
 |5=>((((St.whole ⟨0,0,0,0⟩ c).au c).lines c).aj c).stores c
 |6=>(((((St.whole ⟨0,0,0,0⟩ c).au c).lines c).aj c).stores c).aN c
 |7=>((((((St.whole ⟨0,0,0,0⟩ c).au c).lines c).aj c).stores c).aN c).outs c
 |_=>(((((((St.whole ⟨0,0,0,0⟩ c).au c).lines c).aj c).stores c).aN c).outs c).nA c
theorem zk (c:aq):(ck c 7).err=q9 c (qZ c (j8 c (mJ c (ko c (mI c (gz c 0)))))):=by
 show(St.outs _ c).err=_;rw [St.CG,St.CF,St.vS,St.zj,St.zi,St.zh,St.GR]
theorem GS (c:aq):(ck c 8).err=bT c:=by
 show(St.nA _ c).err=_;unfold bT;rw [St.tS,←zk];rfl
theorem JI (c:aq) (i:Nat) (h:(ck c i).err≠0):(ck c (i+1)).err=(ck c i).err:=by
 have hb:=fun e (he:e≠0)=>gj (F:=bW c.au (ql c)) (fun i e h=>cO (o_ c) i e h) he c.au.length;have hl:=fun e (he:e≠0)=>gj (F:=bW c.lines (lS c)) (fun i e h=>cO (qm c) i e h) he c.lines.length;have hu:=fun e (he:e≠0)=>gj (F:=bW c.aj (lT c)) (fun i e h=>cO (nt c) i e h) he c.aj.length;have hs:=fun e (he:e≠0)=>gj (F:=bW c.stores (jh c)) (fun i e h=>cO (ly c) i e h) he c.stores.length;have ht:=fun e (he:e≠0)=>gj (F:=bW c.aN (rQ c)) (fun i e h=>cO (pd c) i e h) he c.aN.length;have ho:=fun e (he:e≠0)=>gj (F:=bW c.outs (uK c)) (fun i e h=>cO (pg c) i e h) he c.outs.length;have hh:=fun e (he:e≠0)=>gj (F:=kI c) (nw c) he c.hours.toNat;match i,h with
 |0,h=>exact absurd rfl h
 |1,h=>exact (St.zh _ c).trans (hb _ h)
 |2,h=>exact (St.zi _ c).trans (hl _ h)
 |3,h=>exact (St.zj _ c).trans (hu _ h)
 |4,h=>exact (St.vS _ c).trans (hs _ h)
 |5,h=>exact (St.CF _ c).trans (ht _ h)
 |6,h=>exact (St.CG _ c).trans (ho _ h)
 |7,h=>exact (St.tS _ c).trans (hh _ h)
 |n+8,h=>rfl
theorem CH (c:aq): ∀n i,i+n=8→(ck c i).err≠0→bT c=(ck c i).err
 |0,i,e,h=>by obtain rfl:i=8:=by omega
              rw [GS]
 |n+1,i,e,h=>by
  have h1:=JI c i h;rw [CH c n (i+1) (by omega) (by rw [h1];exact h),h1]
def Oo:Nat→FuncId
 |0=>78
 |1=>79
 |2=>80
 |3=>81
 |4=>82
 |5=>83
 |6=>84
 |_=>85
theorem Bq (i:Nat) (hi:i<8): ∀args w,(callFunc (Oo i) args).run Tryz.prog w= .ok (.enter (Oo i) args) w:=by
 match i,hi with
 |0,_=>exact enters_of Tryz.func78 (by kernel_rfl) rfl
 |1,_=>exact enters_of Tryz.func79 (by kernel_rfl) rfl
 |2,_=>exact enters_of Tryz.func80 (by kernel_rfl) rfl
 |3,_=>exact enters_of Tryz.func81 (by kernel_rfl) rfl
 |4,_=>exact enters_of Tryz.func82 (by kernel_rfl) rfl
 |5,_=>exact enters_of Tryz.func83 (by kernel_rfl) rfl
 |6,_=>exact enters_of Tryz.func84 (by kernel_rfl) rfl
 |7,_=>exact enters_of Tryz.func85 (by kernel_rfl) rfl
theorem DV (w0:World) (K:Nat) (c:aq) (hK:w0.heap.size≤K) (hc:aT w0 c) (hl:nN c) (i:Nat) (hi:i<8) (h0:(ck c i).err=0) (U:World) (hU:Ext w0 U) (h:cY U K c (ck c i)):
 Calls Tryz.prog (Oo i) #[.pointer (some ⟨K,0,none⟩)] U fun e' w'=>km U K c (ck c (i+1)) e' w':=by
 match i,hi,h0,h with
 |0,_,_,h=>exact Jd w0 U K c _ hK hU hc h
 |1,_,_,h=>exact I' w0 U K c _ hK hU hc hl.au h
 |2,_,_,h=>exact Jb w0 U K c _ hK hU hc hl.lines h
 |3,_,_,h=>exact JC w0 U K c _ hK hU hc hl.aj h
 |4,_,_,h=>exact FP w0 U K c _ hK hU hc hl.stores h
 |5,_,_,h=>exact LC w0 U K c _ hK hU hc hl.aN h
 |6,_,_,h=>exact DT w0 U K c _ hK hU hc hl.outs h
 |7,_,h0,h=>
  rw [zk]at h0;have ok:=Cu h0;exact DR w0 U K c _ hK hU hc hl ok.frame.hours ok.line h
def UN (K:Nat):List Value:=(List.range 8).map fun i=> .func (.func (Oo i)) #[.pointer (some ⟨K,0,none⟩)] #[]
set_option maxHeartbeats 1000000 in
set_option maxRecDepth 100000 in
theorem zl (w0:World) (c:aq) (hc:aT w0 c) (hl:nN c):
 Calls Tryz.prog 37 #[.agg (C8 c)] w0 fun e w'=> ∃k i f,e= .returned (.tuple #[.agg #[i64 k,i64 i,i64 f],i64 (bT c)])∧Ext w0 w':=by
 try unfold C8
 have dB:=ae hc;have kW:=ae hl
 have P9:=ae (GS c);obtain ⟨ce,hce⟩: ∃ce,ce=bT c:=⟨_,rfl⟩;have P_:Hid (∀i,i≤8→(ck c i).err≠0→ce=(ck c i).err):=fun i hi h=>by rw [hce];exact CH c (8-i) i (by omega) h
 rw [←hce]at P9⊢;clear hc hl hce;go_enter Tryz.func37,Tryz.ntmps37
 go_upto_region 2 with fail
 obtain ⟨W,hW,x0,Z0,A0,A1,A2⟩:=ik w0 32 c.cells 52 [i64 0,i64 0,i64 0] 143 (wu c ⟨0,0,0,0⟩);rw [show((w0.alloc (.cells (C8 c) 32)).alloc (.cells #[i64 0,i64 0,i64 0] 52)).alloc (.cells #[i64 c.hours,.slice c.ra c.az.length c.rc,.slice c.ba c.au.length c.bc,.slice c.la c.lines.length c.lc,.slice c.ua c.aj.length c.uc,.slice c.sa c.stores.length c.sc,.slice c.ta c.aN.length c.tc,.slice c.oa c.outs.length c.oc,i64 0,i64 0,i64 0,i64 0] 143)=W from hW.symm];obtain ⟨K,hK⟩: ∃K,K=w0.heap.size+1+1:=⟨_,rfl⟩;obtain ⟨R,hR⟩: ∃R,R=w0.heap.size+1:=⟨_,rfl⟩;rw [←hK,←hR];have Qa:aG W R 52 [i64 0,i64 0,i64 0]:=by rw [hR];exact A1
 have S3:cY W K c (ck c 0):=by rw [hK];exact A2
 have CI:R≠K:=by omega
 have bB:Hid (w0.heap.size≤K):=by show _≤_;omega
 have IK:Hid (w0.heap.size≤R):=by show _≤_;omega
 have lW:=ae x0;have bt:=ae Qa;have nY:=ae S3
 clear hW x0 Z0 A0 A1 A2 hK hR Qa S3;go_wp2_with fail
 obtain ⟨W1,hW1,x1,Z1,B1⟩:=aB W 1 (UN K);rw [show W.alloc (.cells #[.func (.func 78) #[.pointer (some ⟨K,0,none⟩)] #[],.func (.func 79) #[.pointer (some ⟨K,0,none⟩)] #[],.func (.func 80) #[.pointer (some ⟨K,0,none⟩)] #[],.func (.func 81) #[.pointer (some ⟨K,0,none⟩)] #[],.func (.func 82) #[.pointer (some ⟨K,0,none⟩)] #[],.func (.func 83) #[.pointer (some ⟨K,0,none⟩)] #[],.func (.func 84) #[.pointer (some ⟨K,0,none⟩)] #[],.func (.func 85) #[.pointer (some ⟨K,0,none⟩)] #[]] 1)=W1 from hW1.symm];obtain ⟨G,hG⟩: ∃G,G=W.heap.size:=⟨_,rfl⟩;rw [←hG]at B1⊢;have FQ:G≠K:=by have:=nY.out.lt;omega
 have HG:=ae B1;have Oq:=ae (bt.out.ext x1);have vP:=ae (nY.out.ext x1);have eK:=ae (lW.out.trans x1)
 clear hW1 x1 Z1 B1 hG lW bt nY;go_loopw [28] (fun ii wr=> ∃i:Nat,i≤8∧(ck c i).err=0∧cY wr K c (ck c i)∧ak K W1 wr∧aG wr G 1 (UN K)∧aG wr R 52 [i64 0,i64 0,i64 0]∧ii= .int .i64 i) (fun ii _=>8-(intOf ii).toNat)
 case atStart=>exact ⟨0,Nat.zero_le _,rfl,vP.out,ak.refl _ _,HG.out,Oq.out,rfl⟩
 case round=>
  obtain ⟨i,hi,Qb,hk,hx,hg,hr,rfl⟩:=hrel;clear HG Oq vP;by_cases hlt:i<8
  ·have hE:=hx.ext eK.out bB.out
   have HC:=ae (DV w0 K c bB.out dB.out kW.out i hlt Qb wr hE hk)
   have g0:wr.cell? ⟨G,i,none⟩=some (.func (.func (Oo i)) #[.pointer (some ⟨K,0,none⟩)] #[]):=by
    rw [hg.cell i];unfold UN;simp [hlt]
   have hen:=Bq i hlt;have HST:=ae (P_.out (i+1) (by omega));have dC:=ae hx;have S4:=ae hg;have o0:=ae hr;have sy:=ae hE
   generalize Oo i=F at*;obtain ⟨s1,hs1⟩: ∃s1,s1=ck c (i+1):=⟨_,rfl⟩;rw [←hs1]at HC HST;have oX:=ae hs1;clear hs1;have fM:(0:Int)≤(i:Int):=by omega
   have fH:(i:Int)<8:=by omega
   clear hk hx hg hr hE Qb;go_wp2_with fail
   refine HC.out.mono ?_;rintro e W2 ⟨rfl,hK2,hx2⟩;clear g0 hen;have pS:=ae hK2;have jY:=ae (dC.out.trans hx2);have Cz:=ae (S4.out.but hx2 FQ);have qR:=ae (o0.out.but hx2 CI)
   have yA:=ae (hx2.ext sy.out bB.out);obtain ⟨c8,c9,c10,c11,-⟩:=mq pS.out;clear hK2 hx2 dC S4 o0 sy HC;by_cases h0:s1.err=0
   ·have t1:(s1.err !=0)=false:=by simpa using h0
    have HEE:=ae h0;clear h0 c8 c9 c10;go_wp2_with fail
    exact ⟨⟨i+1,by omega,by rw [←oX.out];exact HEE.out,by rw [←oX.out];exact pS.out,jY.out,Cz.out,qR.out,by go_num⟩,by simp only [intOf];omega⟩
   ·have t1:(s1.err !=0)=true:=by simpa using h0
    have hce:=HST.out h0;have Br:=ae hce;obtain ⟨fk,fi,ff,fe⟩:=s1;simp only at c8 c9 c10 c11 t1 hce;clear h0 hce;have r0:=qR.out.cl 0 (i64 0) rfl;have r1:=qR.out.cl 1 (i64 0) rfl;have r2:=qR.out.cl 2 (i64 0) rfl;have q0:W2.frozen? ⟨R,0,none⟩=false:=qR.out.frozen 0;have q1:W2.frozen? ⟨R,1,none⟩=false:=qR.out.frozen 1;have q2:W2.frozen? ⟨R,2,none⟩=false:=qR.out.frozen 2;have qx: ∀o,(⟨R,o,none⟩:Addr).block≠K:=fun o=>CI;have GU:=ae (((qR.out.set 0 (i64 fk)).set 1 (i64 fi)).set 2 (i64 ff));have UO:Hid (cY (((W2.setCell ⟨R,0,none⟩ (i64 fk)).setCell ⟨R,1,none⟩ (i64 fi)).setCell ⟨R,2,none⟩ (i64 ff)) K c ⟨fk,fi,ff,fe⟩):=((pS.out.other _ _ (qx 0)).other _ _ (qx 1)).other _ _ (qx 2);obtain ⟨d8,d9,d10,d11,-⟩:=mq UO.out;simp only at d8 d9 d10 d11;obtain ⟨s0,UQ,s2⟩:(((W2.setCell ⟨R,0,none⟩ (i64 fk)).setCell ⟨R,1,none⟩ (i64 fi)).setCell ⟨R,2,none⟩ (i64 ff)).drew.cell? ⟨R,0,none⟩=some (i64 fk)∧(((W2.setCell ⟨R,0,none⟩ (i64 fk)).setCell ⟨R,1,none⟩ (i64 fi)).setCell ⟨R,2,none⟩ (i64 ff)).drew.cell? ⟨R,1,none⟩=some (i64 fi)∧(((W2.setCell ⟨R,0,none⟩ (i64 fk)).setCell ⟨R,1,none⟩ (i64 fi)).setCell ⟨R,2,none⟩ (i64 ff)).drew.cell? ⟨R,2,none⟩=some (i64 ff):=⟨(GU.out.cell 0).trans rfl,(GU.out.cell 1).trans rfl,(GU.out.cell 2).trans rfl⟩;have Qc:Hid (Ext w0 (((W2.setCell ⟨R,0,none⟩ (i64 fk)).setCell ⟨R,1,none⟩ (i64 fi)).setCell ⟨R,2,none⟩ (i64 ff)).drew):=(((yA.out.setCell (p:=⟨R,0,none⟩) IK.out _).setCell (p:=⟨R,1,none⟩) IK.out _).setCell (p:=⟨R,2,none⟩) IK.out _).drew;clear qx;go_wp2_with fail
    refine ay (fun w'=>w'.cell? ⟨K,8,none⟩=some (i64 fk)∧w'.cell? ⟨K,9,none⟩=some (i64 fi)∧w'.cell? ⟨K,10,none⟩=some (i64 ff)∧w'.cell? ⟨K,11,none⟩=some (i64 fe)) (fun w'=>True) (fun i=>false) (by kernel_rfl) (⟨c8,c9,c10,c11⟩) (trivial) (fun ar ah=> ?_);refine av 0 (.pointer (some ⟨K,0,none⟩)) rfl ar ah ?_;simp only [sS];refine av 1 (.pointer (some ⟨K,0,none⟩)) rfl ar ah ?_;simp only [sS];refine av 2 (.pointer (some ⟨K,8,none⟩)) rfl ar ah ?_;simp only [sS];refine av 3 (.agg #[i64 fk,i64 fi,i64 ff]) rfl ar ah ?_;simp only [sS];refine av 4 (.pointer (some ⟨K,0,none⟩)) rfl ar ah ?_;simp only [sS];refine av 5 (.pointer (some ⟨K,0,none⟩)) rfl ar ah ?_;simp only [sS];refine av 6 (.pointer (some ⟨K,11,none⟩)) rfl ar ah ?_;simp only [sS];refine av 7 (i64 fe) rfl ar ah ?_;simp only [sS];refine cG 8 rfl (fun Kc hK=> ?_);go_simp;refine hK.out _ _ (⟨d8,d9,d10,d11⟩) (trivial) (fun ar ah=> ?_);clear hK Kc;try simp only [sS]
    refine av 9 (i64 fe) rfl ar ah ?_;simp only [sS];refine ax (by kernel_rfl) ?_ _;clear ar ah;go_wp2_with fail
    exact bodyPost_ret (v:= .tuple #[.agg #[i64 fk,i64 fi,i64 ff],i64 fe]) (by simp [results,Tryz.results37,go_sem,s0,UQ,s2]) rfl ⟨fk,fi,ff,by rw [Br.out],Qc.out⟩
  ·obtain rfl:i=8:=by omega
   rw [P9.out]at Qb;have hE:=hx.ext eK.out bB.out;have Br:=ae Qb;have r0:wr.cell? ⟨R,0,none⟩=some (i64 0):=(hr.cell 0).trans rfl;have r1:wr.cell? ⟨R,1,none⟩=some (i64 0):=(hr.cell 1).trans rfl;have r2:wr.cell? ⟨R,2,none⟩=some (i64 0):=(hr.cell 2).trans rfl;have q0:wr.frozen? ⟨R,0,none⟩=false:=hr.frozen 0;have q1:wr.frozen? ⟨R,1,none⟩=false:=hr.frozen 1;have q2:wr.frozen? ⟨R,2,none⟩=false:=hr.frozen 2;have GU:=ae (((hr.set 0 (i64 0)).set 1 (i64 0)).set 2 (i64 0));obtain ⟨s0,UQ,s2⟩:(((wr.setCell ⟨R,0,none⟩ (i64 0)).setCell ⟨R,1,none⟩ (i64 0)).setCell ⟨R,2,none⟩ (i64 0)).cell? ⟨R,0,none⟩=some (i64 0)∧(((wr.setCell ⟨R,0,none⟩ (i64 0)).setCell ⟨R,1,none⟩ (i64 0)).setCell ⟨R,2,none⟩ (i64 0)).cell? ⟨R,1,none⟩=some (i64 0)∧(((wr.setCell ⟨R,0,none⟩ (i64 0)).setCell ⟨R,1,none⟩ (i64 0)).setCell ⟨R,2,none⟩ (i64 0)).cell? ⟨R,2,none⟩=some (i64 0):=⟨(GU.out.cell 0).trans rfl,(GU.out.cell 1).trans rfl,(GU.out.cell 2).trans rfl⟩;have Qc:Hid (Ext w0 (((wr.setCell ⟨R,0,none⟩ (i64 0)).setCell ⟨R,1,none⟩ (i64 0)).setCell ⟨R,2,none⟩ (i64 0))):=((hE.setCell (p:=⟨R,0,none⟩) IK.out _).setCell (p:=⟨R,1,none⟩) IK.out _).setCell (p:=⟨R,2,none⟩) IK.out _;clear hk hx hg hr hE Qb;go_wp2_with fail
   exact bodyPost_ret (v:= .tuple #[.agg #[i64 0,i64 0,i64 0],i64 0]) (by simp [results,Tryz.results37,go_sem,s0,UQ,s2]) rfl ⟨0,0,0,by rw [Br.out],Qc.out⟩
end Go.Proofs.YtkpngkdgphojlaaGreat
