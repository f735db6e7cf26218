/- Texts of the proof. -/
import Derived.Test.YtbnamicbjaaelaaGreatCg30
import Derived.Test.YtbnamicbjaaelaaGreatCg31
import Derived.Test.YtbnamicbjaaelaaGreatCg32
import Derived.Test.YtbnamicbjaaelaaGreatCg33
set_option linter.all false
set_option maxHeartbeats 2000000
set_option maxRecDepth 100000
namespace Go.Proofs.YtbnamicbjaaelaaGreat
open Go.Proofs.Tryz
open Go.RowKit
theorem St.cS (s:St) (ok:Bool) (f e:Int):(s.need ok f e).err=nd s.err ok e:=by
 unfold St.need nd;split<;>rfl
theorem St.tx (s:St) (k i:Int):(s.at k i).err=s.err:=by
 unfold St.at;split
 .rename_i h;exact h.symm
 .rfl
theorem yb (a b n:Int):bN a b [n]=(decide (a<=n)&&decide (n<=b)):=by
 unfold bN;simp
theorem uw (a b n:Int) (l:List Int):bN a b (n::l)=(bN a b [n]&&bN a b l):=by
 unfold bN;simp [List.all_cons]
theorem Hu (n i:Int):bN 0 (n-1) [i]=(decide (0<=i)&&decide (i<n)):=by
 rw [yb];have:decide (i<=n-1)=decide (i<n):=by rw [Bool.eq_iff_iff];simp;omega
 rw [this]
theorem St.bX (s:St) (f n a b:Int):(s.within f n a b).err=nd s.err (bN a b [n]) 3:=by
 unfold St.within;rw [St.cS,yb]
theorem St.Hv (s:St) (l:List Int) (f a b:Int):(s.each l f a b).err=nd s.err (bN a b l) 3:=by
 unfold St.each;induction l generalizing s with
 |nil=>exact (bI _ _).symm
 |cons x l ih=>rw [List.foldl_cons,ih,St.bX,nZ _ _ _ _ aq,<-uw]
theorem St.mX (s:St) (c:ay) (f:Int) (l:List Int) (a b:Int):(s.nw c f l a b).err=gm s.err c l a b:=by
 unfold St.nw gm;rw [St.Hv,St.cS]
theorem St.yc (s:St) (c:ay) (f i:Int):(s.fE c f i).err=qy s.err c i:=by
 unfold St.fE qy;rw [St.cS,Hu]
theorem St.Hw (s:St) (c:ay) (f:Int) (l:List Int):(s.away c f l).err=n9 s.err c l:=by
 unfold St.away n9;rw [St.cS,St.Hv]
theorem St.O2 (s:St) (nm:ByteArray) (prev:List ByteArray):(s.mK nm prev).err=nd s.err (prev.all λp=>Ck p nm) 10:=by
 unfold St.mK;induction prev generalizing s with
 |nil=>exact (bI _ _).symm
 |cons x l ih=>rw [List.foldl_cons,ih,St.cS,nZ _ _ _ _ aq,List.all_cons]
theorem St.nO (s:St) (nm:ByteArray) (prev:List ByteArray):(s.name nm prev).err=gJ s.err nm prev:=by
 unfold St.name gJ;rw [St.O2,St.cS]
theorem St.My (s:St) (n f:Int) (l:List Int):(s.BJ n f l).err=nd s.err (bN 0 (n-1) l) 12:=by
 unfold St.BJ;induction l generalizing s with
 |nil=>exact (bI _ _).symm
 |cons x l ih=>rw [List.foldl_cons,ih,St.cS,nZ _ _ _ _ aq,uw,Hu]
theorem St.SC (s:St) (l:List cj):(s.Oy l).err=nd s.err (l.all yQ) 3:=by
 unfold St.Oy;induction l generalizing s with
 |nil=>exact (bI _ _).symm
 |cons x l ih=>
  rw [List.foldl_cons,ih,St.bX,St.bX,nZ _ _ _ _ aq,nZ _ _ _ _ aq,List.all_cons];have e:yQ x=(bN 0 1048576 [x.up]&&bN 0 1048576 [x.down]):=uw 0 1048576 x.up [x.down];rw [e,Bool.and_assoc]
theorem St.Mz (s:St) (l:List dy):(s.n_ l).err=nd s.err (l.all iZ) 3:=by
 unfold St.n_;induction l generalizing s with
 |nil=>exact (bI _ _).symm
 |cons x l ih=>
  rw [List.foldl_cons,ih,St.bX,St.bX,nZ _ _ _ _ aq,nZ _ _ _ _ aq,List.all_cons];have e:iZ x=(bN 1 1048576 [x.width]&&bN (-1048576) 1048576 [x.bE]):=rfl;rw [e,Bool.and_assoc]
theorem St.MA (s:St) (l:List dy) (n:Nat):(s.kj l n).err=nd s.err (oW l n) 11:=by
 unfold St.kj oW;induction n with
 |zero=>exact (bI _ _).symm
 |succ n ih=>
  rw [List.range_succ,List.foldl_append,List.foldl_cons,List.foldl_nil,List.all_append,<-nZ _ _ _ _ aq,<-ih];by_cases q:n=0
  .rw [if_pos q];simp [q,bI]
  .have:(n==0)=false:=by simpa using q
   rw [if_neg q,St.cS];simp [this]
theorem Ea (e:Int) {code:Int} (h:code≠0):nd e false code≠0:=by
 unfold nd;split
 .exact h
 .rename_i hq;intro h0;exact hq ⟨h0,rfl⟩
theorem St.Eb (s:St) (x:aP):(s.segments x).err=lp s.err x:=by
 unfold St.segments lp;split
 .rename_i h
  rw [St.cS]at h⊢;rw [fq h,fq h,fq h]
 .rw [St.cS,St.MA,St.Mz,St.cS]
theorem St.Ec (c:ay) (x:dK) (prev:List ByteArray) (i:Int) (s:St):(St.r_ c x prev i s).err=p_ c x prev s.err:=by
 unfold St.r_ p_;rw [St.bX,St.mX,St.nO,St.tx]
theorem St.Ed (c:ay) (x:bn) (prev:List ByteArray) (i:Int) (s:St):(St.sk c x prev i s).err=rY c x prev s.err:=by
 have hb:(x.ld !=x.dL)=(x.dL !=x.ld):=by rw [Bool.eq_iff_iff];simp;omega
 unfold St.sk rY;rw [St.Hw,St.bX,St.bX,St.cS,St.cS,St.cS,St.cS,St.yc,St.yc,St.nO,St.tx,hb]
theorem St.Ca (c:ay) (x:bW) (prev:List ByteArray) (i:Int) (s:St):(St.pH c x prev i s).err=nB c x prev s.err:=by
 unfold St.pH nB;rw [St.cS,St.bX,St.bX,St.bX,St.bX,St.bX,St.yc,St.nO,St.tx]
theorem St.Gl (c:ay) (x:fp) (prev:List ByteArray) (i:Int) (s:St):(St.wj c x prev i s).err=Bu c x prev s.err:=by
 unfold St.wj Bu;rw [St.mX,St.mX,St.mX,St.yc,St.nO,St.tx]
theorem St.Ee (c:ay) (x:aP) (prev:List ByteArray) (i:Int) (s:St):(St.mW c x prev i s).err=od c x prev s.err:=by
 unfold St.mW od;rw [St.bX,St.cS,St.bX,St.cS,St.cS,St.Hw,St.bX,St.bX,St.bX,St.bX,St.bX,St.bX,St.bX,St.bX,St.bX,St.bX,St.bX,St.bX,St.bX,St.Eb,St.bX,St.bX,St.yc,St.nO,St.tx]
 have h1:((x.state==0)||(x.state==1)||(x.state==2))=bN 0 2 [x.state]:=by
  rw [yb,Bool.eq_iff_iff];simp;omega
 have h3:bN (if x.state=2 then x.min else 0) (if x.state=2 then x.max else 0) [x.output]=(if(x.state==2)=true then bN x.min x.max [x.output]else(x.output==0)):=by
  by_cases q:x.state=2
  .rw [if_pos q,if_pos q,if_pos (by simpa using q)]
  .rw [if_neg q,if_neg q,if_neg (by simpa using q),yb,Bool.eq_iff_iff];simp;omega
 rw [h1,h3];generalize nd (nd (nd (lp _ x) _ 3) _ 3) _ 3=z;by_cases hs:bN 0 24 [x.startTime]=true
 .have h2:((x.state !=1)||(x.startTime !=0))=((x.state !=1)||decide (0<x.startTime)):=by
   rw [yb]at hs;simp at hs
   congr 1;rw [Bool.eq_iff_iff];simp;omega
  rw [h2]
 .have hs':bN 0 24 [x.startTime]=false:=by simpa using hs
  rw [hs'];generalize nd (nd (nd (nd z _ 3) _ 3) _ 3) _ 3=y;have hy:=Ea y (code:=3) aq;generalize nd y false 3=y1 at*;simp only [fq hy,ui hy]
theorem nS {α:Type} (l:List α) (F:α->Nat->Int->Int) (step:St->Nat->St) (h: ∀s i,(step s i).err=cK l F i s.err) (s:St) (n:Nat):
 ((List.range n).foldl step s).err=dF (cK l F) s.err n:=by
 induction n with
 |zero=>rfl
 |succ n ih=>
  rw [List.range_succ,List.foldl_append,List.foldl_cons,List.foldl_nil,eo,<-ih];exact h _ n
theorem St.Ef (s:St) (c:ay):(s.aF c).err=oZ c s.err:=by
 unfold St.aF St.wh St.upTo oZ;refine nS c.aF (uj c) _ ?_ s c.aF.length;intro s i;unfold cK;cases c.aF[i]? with
 |none=>rfl
 |some x=>exact St.Ec c x _ i s
theorem St.Eg (s:St) (c:ay):(s.lines c).err=mv c s.err:=by
 unfold St.lines St.wk St.upTo mv;refine nS c.lines (oh c) _ ?_ s c.lines.length;intro s i;unfold cK;cases c.lines[i]? with
 |none=>rfl
 |some x=>exact St.Ed c x _ i s
theorem St.Eh (s:St) (c:ay):(s.aA c).err=o0 c s.err:=by
 unfold St.aA St.wA St.upTo o0;refine nS c.aA (om c) _ ?_ s c.aA.length;intro s i;unfold cK;cases c.aA[i]? with
 |none=>rfl
 |some x=>exact St.Ee c x _ i s
theorem St.Al (s:St) (c:ay):(s.stores c).err=l9 c s.err:=by
 unfold St.stores St.sq St.upTo l9;refine nS c.stores (ku c) _ ?_ s c.stores.length;intro s i;unfold cK;cases c.stores[i]? with
 |none=>rfl
 |some x=>exact St.Ca c x _ i s
theorem St.Hx (s:St) (c:ay):(s.bh c).err=uS c s.err:=by
 unfold St.bh St.Bv St.upTo uS;refine nS c.bh (vI c) _ ?_ s c.bh.length;intro s i;unfold cK;cases c.bh[i]? with
 |none=>rfl
 |some x=>exact St.Gl c x _ i s
theorem St.MB (s:St) (c:ay) (x:cJ):(s.moves c x).err=nd (nd (nd (nd (nd s.err (x.cd||decide (x.moves.length=0)) 16) (decide ((x.moves.length:Int)<=16)) 8) (bN 0 ((c.aA.length:Int)-1) (x.moves.map cj.unit)) 12) (iY (x.moves.map cj.unit)) 11) (x.moves.all yQ) 3:=by
 rw [Bool.or_comm];unfold St.moves;split
 .rename_i h
  rw [St.cS,St.cS]at h⊢;rw [fq h,fq h,fq h]
 .rw [St.SC,St.cS,St.My,St.cS,St.cS]
theorem St.Gm (c:ay) (x:cJ) (prev:List ByteArray) (i:Int) (s:St):(St.lZ c x prev i s).err=pI c x prev s.err:=by
 have h1:(decide (x.lines.length=1)||decide (x.lines.length=2))=bN 1 2 [(x.lines.length:Int)]:=by
  rw [yb,Bool.eq_iff_iff];simp;omega
 unfold St.lZ pI;split
 .rename_i h
  rw [St.cS,St.nO,St.tx,h1]at h⊢;simp only [fq h]
 .rw [St.MB,St.cS,St.My,St.cS,St.nO,St.tx,h1]
theorem St.Hy (s:St) (c:ay):(s.outs c).err=uT c s.err:=by
 unfold St.outs St.jh uT;refine nS c.outs (yZ c) _ ?_ s c.outs.length;intro s i;unfold cK;cases c.outs[i]? with
 |none=>rfl
 |some x=>exact St.Gm c x _ i s
theorem St.MC (s:St) (c:ay):(s.whole c).err=iN c s.err:=by
 unfold St.whole iN;rw [St.cS,St.cS,St.cS,St.cS,St.cS,St.cS,St.mX,St.bX,St.tx,<-yb];rw [fL,fL,fL,fL,fL];simp [jN,dV,ln]
theorem St.SD (c:ay) (h:Nat) (s:St):(St.OY c h s c.outs.length).err=mR c h s.err:=by
 unfold St.OY mR;refine nS c.outs (λx _ e=>nd e (!ky c h x) 13) _ ?_ s c.outs.length;intro s i;unfold cK;cases c.outs[i]? with
 |none=>rfl
 |some x=>show(St.B9 c h x i s).err=_;unfold St.B9;rw [St.cS,St.tx]
theorem St.ye (s:St) (c:ay):(s.pP c).err=xC c s.err:=by
 unfold St.pP xC;generalize c.hours.toNat=n;induction n with
 |zero=>rfl
 |succ n ih=>rw [St.x_,St.SD,ih,eo]
noncomputable def ck (c:ay):Nat->St
 |0=>⟨0,0,0,0⟩
 |1=>St.whole ⟨0,0,0,0⟩ c
 |2=>(St.whole ⟨0,0,0,0⟩ c).aF c
 |3=>((St.whole ⟨0,0,0,0⟩ c).aF c).lines c
 |4=>(((St.whole ⟨0,0,0,0⟩ c).aF c).lines c).aA c
 |5=>((((St.whole ⟨0,0,0,0⟩ c).aF c).lines c).aA c).stores c
 |6=>(((((St.whole ⟨0,0,0,0⟩ c).aF c).lines c).aA c).stores c).bh c
 |7=>((((((St.whole ⟨0,0,0,0⟩ c).aF c).lines c).aA c).stores c).bh c).outs c
 |_=>(((((((St.whole ⟨0,0,0,0⟩ c).aF c).lines c).aA c).stores c).bh c).outs c).pP c
theorem Ei (c:ay):(ck c 7).err=uT c (uS c (l9 c (o0 c (mv c (oZ c (iN c 0)))))):=by
 show(St.outs _ c).err=_;rw [St.Hy,St.Hx,St.Al,St.Eh,St.Eg,St.Ef,St.MC]
theorem MD (c:ay):(ck c 8).err=cE c:=by
 show(St.pP _ c).err=_;unfold cE;rw [St.ye,<-Ei];rfl
theorem O3 (c:ay) (i:Nat) (h:(ck c i).err≠0):(ck c (i+1)).err=(ck c i).err:=by
 have hb:=λe (he:e≠0)=>iH (F:=cK c.aF (uj c)) (λi e h=>dI (sG c) i e h) he c.aF.length;have hl:=λe (he:e≠0)=>iH (F:=cK c.lines (oh c)) (λi e h=>dI (uk c) i e h) he c.lines.length;have hu:=λe (he:e≠0)=>iH (F:=cK c.aA (om c)) (λi e h=>dI (pK c) i e h) he c.aA.length;have hs:=λe (he:e≠0)=>iH (F:=cK c.stores (ku c)) (λi e h=>dI (nI c) i e h) he c.stores.length;have ht:=λe (he:e≠0)=>iH (F:=cK c.bh (vI c)) (λi e h=>dI (sH c) i e h) he c.bh.length;have ho:=λe (he:e≠0)=>iH (F:=cK c.outs (yZ c)) (λi e h=>dI (sI c) i e h) he c.outs.length;have hh:=λe (he:e≠0)=>iH (F:=mR c) (pL c) he c.hours.toNat;match i,h with
 |0,h=>exact absurd rfl h
 |1,h=>exact (St.Ef _ c).trans (hb _ h)
 |2,h=>exact (St.Eg _ c).trans (hl _ h)
 |3,h=>exact (St.Eh _ c).trans (hu _ h)
 |4,h=>exact (St.Al _ c).trans (hs _ h)
 |5,h=>exact (St.Hx _ c).trans (ht _ h)
 |6,h=>exact (St.Hy _ c).trans (ho _ h)
 |7,h=>exact (St.ye _ c).trans (hh _ h)
 |n+8,h=>rfl
theorem Hz (c:ay): ∀n i,i+n=8->(ck c i).err≠0->cE c=(ck c i).err
 |0,i,e,h=>by obtain rfl:i=8:=ae
              rw [MD]
 |n+1,i,e,h=>by
  have h1:=O3 c i h;rw [Hz c n (i+1) ae (by rw [h1];exact h),h1]
def TL:Nat->FuncId
 |0=>67
 |1=>68
 |2=>69
 |3=>70
 |4=>71
 |5=>72
 |6=>73
 |_=>74
theorem Gn (i:Nat) (hi:i<8): ∀args w,(callFunc (TL i) args).run prog w= .ok (.enter (TL i) args) w:=by
 match i,hi with
 |0,_=>exact enters_of func67 ax rfl
 |1,_=>exact enters_of func68 ax rfl
 |2,_=>exact enters_of func69 ax rfl
 |3,_=>exact enters_of func70 ax rfl
 |4,_=>exact enters_of func71 ax rfl
 |5,_=>exact enters_of func72 ax rfl
 |6,_=>exact enters_of func73 ax rfl
 |7,_=>exact enters_of func74 ax rfl
theorem JG (w0:World) (K:Nat) (c:ay) (hK:w0.heap.size<=K) (hc:bm w0 c) (hl:oX c) (i:Nat) (hi:i<8) (h0:(ck c i).err=0) (U:World) (hU:Ext w0 U) (h:iW U K c (ck c i)):
 Calls prog (TL i) #[.pointer (some ⟨K,0,none⟩)] U λe' w'=>mI U K c (ck c (i+1)) e' w':=by
 match i,hi,h0,h with
 |0,_,_,h=>exact Oq w0 U K c _ hK hU hc h
 |1,_,_,h=>exact Om w0 U K c _ hK hU hc hl.aF h
 |2,_,_,h=>exact Oo w0 U K c _ hK hU hc hl.lines h
 |3,_,_,h=>exact O0 w0 U K c _ hK hU hc hl.aA h
 |4,_,_,h=>exact LD w0 U K c _ hK hU hc hl.stores h
 |5,_,_,h=>exact Rz w0 U K c _ hK hU hc hl.bh h
 |6,_,_,h=>exact JF w0 U K c _ hK hU hc hl.outs h
 |7,_,h0,h=>
  rw [Ei]at h0;have ok:=He h0;exact JD w0 U K c _ hK hU hc hl ok.frame.hours ok.line h
def ckV (K:Nat):List Value:=(List.range 8).map λi=> .func (.func (TL i)) #[.pointer (some ⟨K,0,none⟩)] #[]
theorem yf (w0:World) (c:ay) (hc:bm w0 c) (hl:oX c):
 Calls prog 29 #[.agg (C8 c)] w0 λe w'=> ∃k i f,e= .returned (.tuple #[.agg #[i64 k,i64 i,i64 f],i64 (cE c)])/\Ext w0 w':=by
 try unfold C8
 have eT:=ah hc;have oB:=ah hl
 have Xn:=ah (MD c);obtain ⟨ce,hce⟩: ∃ce,ce=cE c:=⟨_,rfl⟩;have Xo:Hid (∀i,i<=8->(ck c i).err≠0->ce=(ck c i).err):=λi hi h=>by rw [hce];exact Hz c (8-i) i ae h
 rw [<-hce]at Xn⊢;clear hc hl hce;go_enter func29,ntmps29
 go_upto_region 2 with fail
 obtain ⟨W,hW,x0,Z0,A0,A1,A2⟩:=fC w0 32 c.cells 78 [i64 0,i64 0,i64 0] 129 (Bo c ⟨0,0,0,0⟩);rw [show((w0.alloc (.cells (C8 c) 32)).alloc (.cells #[i64 0,i64 0,i64 0] 78)).alloc (.cells #[i64 c.hours,.slice c.ra c.aX.length c.rc,.slice c.ba c.aF.length c.bc,.slice c.la c.lines.length c.lc,.slice c.ua c.aA.length c.uc,.slice c.sa c.stores.length c.sc,.slice c.ta c.bh.length c.tc,.slice c.oa c.outs.length c.oc,i64 0,i64 0,i64 0,i64 0] 129)=W from hW.symm];obtain ⟨K,hK⟩: ∃K,K=w0.heap.size+1+1:=⟨_,rfl⟩;obtain ⟨R,hR⟩: ∃R,R=w0.heap.size+1:=⟨_,rfl⟩;rw [<-hK,<-hR];have PD:aT W R 78 [i64 0,i64 0,i64 0]:=by rw [hR];exact A1
 have Zw:iW W K c (ck c 0):=by rw [hK];exact A2
 have Ho:R≠K:=ae;have dN:Hid (w0.heap.size<=K):=by show _<=_;omega
 have D7:Hid (w0.heap.size<=R):=by show _<=_;omega
 have tK:=ah x0;have mP:=ah PD;have vG:=ah Zw
 clear hW x0 Z0 A0 A1 A2 hK hR PD Zw;go_wp2_with fail
 obtain ⟨W1,hW1,x1,Z1,B1⟩:=aV W 1 (ckV K);rw [show W.alloc (.cells #[.func (.func 67) #[.pointer (some ⟨K,0,none⟩)] #[],.func (.func 68) #[.pointer (some ⟨K,0,none⟩)] #[],.func (.func 69) #[.pointer (some ⟨K,0,none⟩)] #[],.func (.func 70) #[.pointer (some ⟨K,0,none⟩)] #[],.func (.func 71) #[.pointer (some ⟨K,0,none⟩)] #[],.func (.func 72) #[.pointer (some ⟨K,0,none⟩)] #[],.func (.func 73) #[.pointer (some ⟨K,0,none⟩)] #[],.func (.func 74) #[.pointer (some ⟨K,0,none⟩)] #[]] 1)=W1 from hW1.symm];obtain ⟨G,hG⟩: ∃G,G=W.heap.size:=⟨_,rfl⟩;rw [<-hG]at B1⊢;have hGK:G≠K:=bA vG.o.lt;have HG:=ah B1;have Kn:=ah (mP.o.ext x1);have JE:=ah (vG.o.ext x1);have eC:=ah (tK.o.trans x1)
 clear hW1 x1 Z1 B1 hG tK mP vG;go_loopw [28] (λii wr=> ∃i:Nat,i<=8/\(ck c i).err=0/\iW wr K c (ck c i)/\aB K W1 wr/\aT wr G 1 (ckV K)/\aT wr R 78 [i64 0,i64 0,i64 0]/\ii= .int .i64 i) (λii _=>8-(intOf ii).toNat)
 case atStart=>exact ⟨0,aZ,rfl,JE.o,aB.refl _ _,HG.o,Kn.o,rfl⟩
 case round=>
  obtain ⟨i,hi,Xp,hk,hx,hg,hr,rfl⟩:=hrel;clear HG Kn JE;by_cases hlt:i<8
  .have hE:=hx.ext eC.o dN.o
   have HC:=ah (JG w0 K c dN.o eT.o oB.o i hlt Xp wr hE hk)
   have g0:wr.cell? ⟨G,i,none⟩=some (.func (.func (TL i)) #[.pointer (some ⟨K,0,none⟩)] #[]):=by
    rw [hg.cell i];unfold ckV;simp [hlt]
   have hen:=Gn i hlt;have HST:=ah (Xo.o (i+1) ae);have eR:=ah hx;have HG2:=ah hg;have nk:=ah hr;have yP:=ah hE
   generalize TL i=F at*;obtain ⟨s1,hs1⟩: ∃s1,s1=ck c (i+1):=⟨_,rfl⟩;rw [<-hs1]at HC HST;have FO:=ah hs1;clear hs1;have iM:(0:Int)<=(i:Int):=ae;have iK:(i:Int)<8:=ae;clear hk hx hg hr hE Xp;go_wp2_with fail
   refine HC.o.mono ?_;rintro e W2 ⟨rfl,hK2,hx2⟩;clear g0 hen;have xn:=ah hK2;have kR:=ah (eR.o.trans hx2);have TM:=ah (HG2.o.but hx2 hGK);have sw:=ah (nk.o.but hx2 Ho)
   have FP:=ah (hx2.ext yP.o dN.o);obtain ⟨c8,c9,c10,c11,-⟩:=oN xn.o;clear hK2 hx2 eR HG2 nk yP HC;by_cases h0:s1.err=0
   .have t1:(s1.err !=0)=false:=by simpa using h0
    have HEE:=ah h0;clear h0 c8 c9 c10;go_wp2
    exact ⟨⟨i+1,ae,by rw [<-FO.o];exact HEE.o,by rw [<-FO.o];exact xn.o,kR.o,TM.o,sw.o,bf⟩,a_⟩
   .have t1:(s1.err !=0)=true:=by simpa using h0
    have hce:=HST.o h0;have Mp:=ah hce;obtain ⟨fk,fi,ff,fe⟩:=s1;simp only at c8 c9 c10 c11 t1 hce;clear h0 hce;have r0:=sw.o.cl 0 (i64 0) rfl;have r1:=sw.o.cl 1 (i64 0) rfl;have r2:=sw.o.cl 2 (i64 0) rfl;have q0:W2.frozen? ⟨R,0,none⟩=false:=sw.o.frozen 0;have q1:W2.frozen? ⟨R,1,none⟩=false:=sw.o.frozen 1;have q2:W2.frozen? ⟨R,2,none⟩=false:=sw.o.frozen 2;have B4: ∀o,(⟨R,o,none⟩:Addr).block≠K:=λo=>Ho;have Mq:=ah (((sw.o.set 0 (i64 fk)).set 1 (i64 fi)).set 2 (i64 ff));have HKF:Hid (iW (((W2.setCell ⟨R,0,none⟩ (i64 fk)).setCell ⟨R,1,none⟩ (i64 fi)).setCell ⟨R,2,none⟩ (i64 ff)) K c ⟨fk,fi,ff,fe⟩):=((xn.o.other _ _ (B4 0)).other _ _ (B4 1)).other _ _ (B4 2);obtain ⟨d8,d9,d10,d11,-⟩:=oN HKF.o;simp only at d8 d9 d10 d11;obtain ⟨s0,s1',s2⟩:(((W2.setCell ⟨R,0,none⟩ (i64 fk)).setCell ⟨R,1,none⟩ (i64 fi)).setCell ⟨R,2,none⟩ (i64 ff)).drew.cell? ⟨R,0,none⟩=some (i64 fk)/\(((W2.setCell ⟨R,0,none⟩ (i64 fk)).setCell ⟨R,1,none⟩ (i64 fi)).setCell ⟨R,2,none⟩ (i64 ff)).drew.cell? ⟨R,1,none⟩=some (i64 fi)/\(((W2.setCell ⟨R,0,none⟩ (i64 fk)).setCell ⟨R,1,none⟩ (i64 fi)).setCell ⟨R,2,none⟩ (i64 ff)).drew.cell? ⟨R,2,none⟩=some (i64 ff):=⟨(Mq.o.cell 0).trans rfl,(Mq.o.cell 1).trans rfl,(Mq.o.cell 2).trans rfl⟩;have rZ:Hid (Ext w0 (((W2.setCell ⟨R,0,none⟩ (i64 fk)).setCell ⟨R,1,none⟩ (i64 fi)).setCell ⟨R,2,none⟩ (i64 ff)).drew):=(((FP.o.setCell (p:=⟨R,0,none⟩) D7.o _).setCell (p:=⟨R,1,none⟩) D7.o _).setCell (p:=⟨R,2,none⟩) D7.o _).drew;clear B4;go_wp2_with fail
    refine aO (λw'=>w'.cell? ⟨K,8,none⟩=some (i64 fk)/\w'.cell? ⟨K,9,none⟩=some (i64 fi)/\w'.cell? ⟨K,10,none⟩=some (i64 ff)/\w'.cell? ⟨K,11,none⟩=some (i64 fe)) (λw'=>True) (λi=>false) ax (⟨c8,c9,c10,c11⟩) (trivial) (λaD ai=> ?_);refine aJ 0 aD ai ?_;refine aJ 1 aD ai ?_;refine aJ 2 aD ai ?_;refine aJ 3 aD ai ?_ (v:= .agg #[i64 fk,i64 fi,i64 ff]);refine aJ 4 aD ai ?_;refine aJ 5 aD ai ?_;refine aJ 6 aD ai ?_;refine aJ 7 aD ai ?_ (v:=i64 fe);refine eI 8 rfl (λKc hK=> ?_);go_simp;refine hK.o _ _ (⟨d8,d9,d10,d11⟩) (trivial) (λaD ai=> ?_);clear hK Kc;try simp only [sS]
    refine aJ 9 aD ai ?_ (v:=i64 fe);refine aI ax ?_ _;clear aD ai;go_wp2
    exact bodyPost_ret (v:= .tuple #[.agg #[i64 fk,i64 fi,i64 ff],i64 fe]) (by simp [results,results29,go_sem,s0,s1',s2]) rfl ⟨fk,fi,ff,by rw [Mp.o],rZ.o⟩
  .obtain rfl:i=8:=ae
   rw [Xn.o]at Xp;have hE:=hx.ext eC.o dN.o;have Mp:=ah Xp;have r0:wr.cell? ⟨R,0,none⟩=some (i64 0):=(hr.cell 0).trans rfl;have r1:wr.cell? ⟨R,1,none⟩=some (i64 0):=(hr.cell 1).trans rfl;have r2:wr.cell? ⟨R,2,none⟩=some (i64 0):=(hr.cell 2).trans rfl;have q0:wr.frozen? ⟨R,0,none⟩=false:=hr.frozen 0;have q1:wr.frozen? ⟨R,1,none⟩=false:=hr.frozen 1;have q2:wr.frozen? ⟨R,2,none⟩=false:=hr.frozen 2;have Mq:=ah (((hr.set 0 (i64 0)).set 1 (i64 0)).set 2 (i64 0));obtain ⟨s0,s1',s2⟩:(((wr.setCell ⟨R,0,none⟩ (i64 0)).setCell ⟨R,1,none⟩ (i64 0)).setCell ⟨R,2,none⟩ (i64 0)).cell? ⟨R,0,none⟩=some (i64 0)/\(((wr.setCell ⟨R,0,none⟩ (i64 0)).setCell ⟨R,1,none⟩ (i64 0)).setCell ⟨R,2,none⟩ (i64 0)).cell? ⟨R,1,none⟩=some (i64 0)/\(((wr.setCell ⟨R,0,none⟩ (i64 0)).setCell ⟨R,1,none⟩ (i64 0)).setCell ⟨R,2,none⟩ (i64 0)).cell? ⟨R,2,none⟩=some (i64 0):=⟨(Mq.o.cell 0).trans rfl,(Mq.o.cell 1).trans rfl,(Mq.o.cell 2).trans rfl⟩;have rZ:Hid (Ext w0 (((wr.setCell ⟨R,0,none⟩ (i64 0)).setCell ⟨R,1,none⟩ (i64 0)).setCell ⟨R,2,none⟩ (i64 0))):=((hE.setCell (p:=⟨R,0,none⟩) D7.o _).setCell (p:=⟨R,1,none⟩) D7.o _).setCell (p:=⟨R,2,none⟩) D7.o _;clear hk hx hg hr hE Xp;go_wp2
   exact bodyPost_ret (v:= .tuple #[.agg #[i64 0,i64 0,i64 0],i64 0]) (by simp [results,results29,go_sem,s0,s1',s2]) rfl ⟨0,0,0,by rw [Mp.o],rZ.o⟩
theorem SE (on:List kF) (h:Nat) (hh: ∀x∈on,h<x.rs.length): ∃rs:List cH,rs.length=on.length/\ ∀u (hu:u<on.length) (hr:u<rs.length),∃hk:h<on[u].rs.length,rs[u]=on[u].rs[h]:=by
 induction on with
 |nil=>exact ⟨[],rfl,λu hu=>absurd hu (Nat.not_lt_zero _)⟩
 |cons x on ih=>
  obtain ⟨rs,h1,h2⟩:=ih λy hy=>hh y (List.mem_cons_of_mem _ hy);have hx:=hh x aG;refine ⟨x.rs[h]::rs,by simp [h1],λu hu hr=> ?_⟩;match u,hu,hr with
  |0,_,_=>exact ⟨hx,rfl⟩
  |u+1,hu,hr=>exact h2 u (by simpa using hu) (by simpa using hr)
theorem Ej (V:World) (c:ay) (a:Option Addr) (oc:Nat) (on:List kF) (f:Nat->Nat->Rat) (hc:bm V c) (hl:oX c) (hO:ow V a oc on f) (hn:c.aA.length<=4):
 Calls prog 17 #[.agg (C8 c),.slice a on.length oc] V (iP V c on f):=by
 try unfold C8
 have eT:=ah hc;have oB:=ah hl;have HO:=ah hO;have qG:Hid (cE c=0->iB c):=pM
 have DN:=ah (@xV c on f);have I5:=ah (@xW c on f);have NA:=ah (@xY c on f);have Qg:=ah (@Hq c on f)
 have W_:=ah (λU (hU:Ext V U)=>yf U c (hc.ext hU) hl);have hle:=hO.recs.le;have dS:=hO.recs.cap
 rw [List.length_map]at hle;generalize hce:cE c=ce at*;clear hc hl hO;go_enter func17,ntmps17
 go_upto_region 1 with fail
 generalize hW:World.alloc V _=W;obtain ⟨B,hB,x0,A0⟩:=bV hW;rw [<-hB];have K: ∀Y,Ext W Y->_:=λY e=>ay.at (A0.ext e);have HX:=ah x0;have HB:=ah hB
 have s:=Ext.refl W;clear hW hB x0 A0;go_wp2_with fail
 refine (W_.o W HX.o).mono ?_;rintro e w1 ⟨ek,ei,ef,rfl,x1⟩;replace s:=s.trans x1;go_upto_region 2 with fail
 generalize hW2:World.alloc w1 _=W2;obtain ⟨B2,hB2,x2,-⟩:=bV hW2;replace s:=s.trans x2;clear hW2 hB2 x1 x2 W_;by_cases hz:ce=0
 rotate_left
 .have tz:(ce !=0)=true:=by simpa using hz
  have HQ:=ah (iP.err (DN.o hz) hz (HX.o.trans s));clear hz;go_wp2
  exact bodyPost_ret ax rfl HQ.o
 have HZ:=ah hz;have tz:(ce !=0)=false:=by simpa using hz
 have gA:=ah (qG.o hz);clear hz qG DN;by_cases hlen:on.length=c.aA.length
 rotate_left
 .have t2:((on.length:Int) !=(c.aA.length:Int))=true:=by simp;omega
  have HQ:=ah (iP.err (I5.o HZ.o λe=>hlen e.1) aq (HX.o.trans s));go_wp2
  exact bodyPost_ret ax rfl HQ.o
 have t2:((on.length:Int) !=(c.aA.length:Int))=false:=by simp;omega
 have Dv:=ah hlen;clear hlen;go_wp2
 go_loopw [37] (λii wr=> ∃i:Nat,i<=on.length/\ii= .int .i64 i/\(∀u (hu:u<on.length),u<i->(on[u].rs.length:Int)=c.hours)/\Ext W wr) (λii _=>on.length-(intOf ii).toNat)
 case atStart=>exact ⟨0,aZ,rfl,λu hu h=>absurd h (Nat.not_lt_zero _),s⟩
 case round=>
  clear s;obtain ⟨i,hi,rfl,hR,s⟩:=hrel;have HR:=ah hR;clear hR;by_cases hlt:i<on.length
  .have b1:(i:Int)<(on.length:Int):=ae
   have b0:(0:Int)<=(i:Int):=ae;obtain ⟨g,o,x,rfl,hx,hrow,c1⟩:=(HO.o.ext HX.o).at i hlt;have rZ:=ah hx;have Ge:=hrow.le;clear hx hrow;by_cases h4:(x.rs.length:Int)=c.hours
   .have t4:((x.rs.length:Int) !=c.hours)=false:=by simpa using h4
    have nk:Hid (∀u (hu:u<on.length),u<i+1->(on[u].rs.length:Int)=c.hours):=λu hu h=>by
     rcases Nat.lt_or_ge u i with q|q
     .exact HR.o u hu q
     .obtain rfl:u=i:=ae
      rw [<-rZ.o];exact h4
    clear h4;go_wp2
    exact ⟨⟨i+1,hlt,bf,nk.o,s⟩,a_⟩
   .have t4:((x.rs.length:Int) !=c.hours)=true:=by simpa using h4
    have HQ:=ah (iP.err (I5.o HZ.o λe=>h4 (e.2 x (by rw [rZ.o];exact List.getElem_mem hlt))) aq (HX.o.trans s));clear h4;go_wp2
    exact bodyPost_ret ax rfl HQ.o
  .obtain rfl:i=on.length:=ae
   have OX:Hid (pN c on):=⟨Dv.o,λx hx=>by obtain ⟨u,hu,rfl⟩:=List.mem_iff_getElem.1 hx;exact HR.o u hu hu⟩;obtain ⟨H,hH⟩: ∃H:Nat,c.hours=(H:Int):=⟨c.hours.toNat,bA gA.o.frame.hours⟩;have HH:=ah (And.intro hH (show H<=24 by have:=gA.o.frame.hours;omega));have HH1:Hid (1<=H):=by have:=gA.o.frame.hours;show _<=_;omega
   have hHB:=HH.o.2;rw [hH]at K;have Mu:Hid (∀u h,u<on.length->h<H-> ¬(0<=f u h/\f u h<=1)->pg c on f=3):=λu h hu hh q=>NA.o HZ.o OX.o λe=>q (e u (by rw [<-Dv.o];exact hu) h (by rw [hH];omega));have Jh:Hid (∀x∈on,x.rs.length=H):=λx hx=>bA (OX.o.2 x hx);clear HR I5 NA hH;go_wp2_with fail
   refine (uG _ 1 aq aq).mono ?_;rintro e w3 ⟨r1,rfl,Ti,-,x3⟩;go_upto_region 13 with(refine bP rfl 92 _ _ rfl [.bool false,.slice none 0 0,.slice none 0 0] [.bool r1.s,.slice r1.a r1.k r1.c,.slice r1.b r1.j r1.d] rfl rfl ax rfl rfl ?_)
   generalize hW3:World.alloc w3 _=W3;obtain ⟨B3,Xq,x4,A3⟩:=bV hW3;rw [<-Xq];replace s:=s.trans (x3.trans x4);have G: ∀Y,Ext W3 Y->_:=λY e=>(A3.ext e).cs;simp only [Cs,Nat.zero_add]at G;have GX:Hid (jZ W3 r1 1 1):=Ti.ext x4;have Ht:=ah s;have s:=Ext.refl W3;have K: ∀Y,Ext W3 Y->_:=λY e=>K Y (Ht.o.trans e);clear hW3 Xq A3 Ti x3 x4;go_wp2
   go_loopw [50] (λii wr=> ∃i:Nat,i<=on.length/\ii= .int .i64 i/\(∀u,u<i-> ∀h,h<H->0<=f u h/\f u h<=1)/\Ext W3 wr) (λii _=>on.length-(intOf ii).toNat)
   case atStart=>exact ⟨0,aZ,rfl,λu h=>absurd h (Nat.not_lt_zero _),s⟩
   case round=>
    clear s;obtain ⟨i,hi,rfl,hR,s⟩:=hrel;have HR:=ah hR;clear hR;by_cases hlt:i<on.length
    .have b1:(i:Int)<(on.length:Int):=ae
     have b0:(0:Int)<=(i:Int):=ae;obtain ⟨g,o,x,rfl,hx,hrow,c1⟩:=(HO.o.ext (HX.o.trans Ht.o)).at i hlt;have Ge:=hrow.le;have tQ:=Jh.o x (by rw [hx];exact List.getElem_mem hlt);obtain ⟨g3,o3,Ko,-⟩:=hrow.cell 0 (bA HH1.o);rw [Ko,tQ]at c1;have acn:=ah hrow;have WJ:=ah tQ;have BD:=ah Ko
     rw [tQ]at Ge;clear hx hrow Ko tQ;go_wp2
     go_loopw [56] (λii wr=> ∃h:Nat,h<=H/\ii= .int .i64 h/\(∀k,k<h->0<=f i k/\f i k<=1)/\Ext W3 wr) (λii _=>H-(intOf ii).toNat)
     case atStart=>exact ⟨0,aZ,rfl,λu h=>absurd h (Nat.not_lt_zero _),s⟩
     case round=>
      clear s;obtain ⟨h,hh,rfl,hT,s⟩:=hrel;have HT:=ah hT;clear hT;by_cases JB:h<H
      .have b2:(h:Int)<(H:Int):=ae
       have b3:(0:Int)<=(h:Int):=ae;have hx0:h<x.rs.length:=bA WJ.o;obtain ⟨g4,o4,ha4,hc3,Nz⟩:=acn.o.cell h hx0;rw [BD.o]at ha4;cases ha4
       have c3: ∀Y,Ext W3 Y->_:=λY e=>hc3.ext e;simp only [Cs,cH.cells,Nat.add_zero]at c3;generalize x.rs[h]'hx0=r at*;have TI:=ah (λU (hU:Ext W3 U)=>La U r _ 4 (Nz.ext hU));have Sp:=ah (λU (hU:Ext W3 U)=>oM U r r1 _ 1 4 1 (Nz.ext hU) (GX.o.ext hU) aq);have q1:= @sign_neg (f i h);have q2:= @vQ (f i h) 1
       generalize (f i h).num.sign=z1 at*;generalize jJ (f i h) 1=z2 at*;have nX:=ah q1;have pY:=ah q2
       have Sq:=ah (Mu.o i h hlt JB);clear q1 q2 hc3 Nz;go_upto_region 19 with(refine bP rfl 92 _ _ rfl [.bool false,.slice none 0 0,.slice none 0 0] [.bool r.s,.slice r.a r.k r.c,.slice r.b r.j r.d] rfl rfl ax rfl rfl ?_)
       generalize K3:World.alloc wr _=W6;obtain ⟨B6,hB6,x6,A6⟩:=bV K3;rw [<-hB6];have G6: ∀Y,Ext W6 Y->_:=λY e=>(A6.ext e).cs;simp only [Cs,Nat.zero_add]at G6;replace s:=s.trans x6;have s6:=Ext.refl W6;clear K3 hB6 A6 x6;go_wp2_with fail
       refine (TI.o _ s).mono ?_;rintro e w7 ⟨rfl,x7⟩;replace s:=s.trans x7;replace s6:=s6.trans x7;clear x7;by_cases hs:z1<0
       .have HQ:=ah (iP.err (Sq.o λe=>Rat.not_le.2 (nX.o.1 hs) e.1) aq (HX.o.trans (Ht.o.trans s)))
        go_wp2
        exact bodyPost_ret ax rfl HQ.o
       have zT:Hid (0<=f i h):=Rat.not_lt.1 λe=>hs (nX.o.2 e);go_wp2_with fail
       refine (Sp.o _ s).mono ?_;rintro e w8 ⟨rfl,x7⟩;replace s:=s.trans x7;by_cases hc2:0<z2
       .have HQ:=ah (iP.err (Sq.o λe=>Rat.not_le.2 (pY.o.1 hc2) e.2) aq (HX.o.trans (Ht.o.trans s)))
        go_wp2
        exact bodyPost_ret ax rfl HQ.o
       .have lX:Hid (∀k,k<h+1->0<=f i k/\f i k<=1):=λk hk=>by
         rcases Nat.lt_or_ge k h with q|q
         .exact HT.o k q
         .obtain rfl:k=h:=ae
          exact ⟨zT.o,Rat.not_lt.1 λe=>hc2 (pY.o.2 e)⟩
        go_wp2
        exact ⟨⟨h+1,JB,bf,lX.o,s⟩,a_⟩
      .obtain rfl:h=H:=ae
       have nk:Hid (∀u,u<i+1-> ∀k,k<h->0<=f u k/\f u k<=1):=λu hu k hk=>by
        rcases Nat.lt_or_ge u i with q|q
        .exact HR.o u q k hk
        .obtain rfl:u=i:=ae
         exact HT.o k hk
       go_wp2
       exact ⟨⟨i+1,hlt,bf,nk.o,s⟩,a_⟩
    .have L_:Hid (tj c f):=λu hu k hk=>HR.o u (bA Dv.o) k (bA HH.o.1)
     have HS0:=ah (Qg.o HZ.o OX.o L_.o);clear HR Qg Mu;go_wp2
     go_loopw [15,73] (λv ii wr=> ∃(h:Nat) (ga:Option Addr) (gc:Nat) (cs:List kN),h<=H/\ii= .int .i64 h/\v= .slice ga cs.length gc/\CL W3.heap.size ga gc cs wr/\cs.map (λx=>(x.h,x.l))=nN c f h/\Ext W3 wr) (λ_ ii _=>H-(intOf ii).toNat)
     case atStart=>exact ⟨0,none,0,[],aZ,rfl,rfl,CL.nil _ _,rfl,s⟩
     case round=>
      clear s hi hlt;obtain ⟨h,ga,gc,cs,hh,rfl,rfl,hC,hM,s⟩:=hrel;have HC:=ah hC;have HM:=ah hM
      clear hC hM;by_cases JB:h<H
      .have b2:(h:Int)<(H:Int):=ae
       have b3:(0:Int)<=(h:Int):=ae;have aco:c.aA.length<=1000000:=ae;have hon:on.length<=4:=bA Dv.o;have HCA:=ah (λU (hU:Ext W3 U)=>by have q:=qc V U c h (HX.o.trans (Ht.o.trans hU)) eT.o aco;unfold C8 at q;rw [HH.o.1]at q;exact q);have qO:=ah (λU (hU:Ext W3 U)=>by have q:=Hg V U c h (HX.o.trans (Ht.o.trans hU)) eT.o gA.o (bA HH.o.1);unfold C8 at q;rw [HH.o.1]at q;exact q);have HSW:=ah s;have HBD:Hid (pd c f h=vW c.aA.length (λu=>f u h) (dG c h) (jx c h)):=rfl;generalize jx c h=need at*;go_wp2_with fail
       refine wG (λw=>Ext W3 w) s.drew λs=> ?_;have Hr:=ah ((Ext.refl wr).drew);generalize wr.drew=Y at*;refine wV 0 s ?_;refine wV 1 s ?_;refine wV 3 s ?_;refine wV 4 s ?_;refine wV 6 s ?_;refine wR 2 λK' hK=> ?_;rw [if_pos eN];go_simp;refine (HCA.o Y s).mono ?_;rintro e w6 ⟨cb,rfl,hT,x3,-⟩;refine hK.o _ _ (s.trans x3) λs=> ?_;have HT:=ah hT;have Hr:=ah (Hr.o.trans x3);clear hT
       clear hK K' x3;refine wR 5 λK' hK=> ?_;rw [if_pos eN];go_simp;refine (qO.o _ s).mono ?_;rintro e W7 ⟨rfl,x3⟩;refine hK.o _ _ (s.trans x3) λs=> ?_;have HT:=ah (HT.o.ext x3);have Hr:=ah (Hr.o.trans x3)
       clear hK K' x3;refine wV 7 s ?_;have TN:=ah s;refine wR 8 λK' hK=> ?_;rw [if_pos eN];go_simp;generalize hWF:World.alloc W7 _=WF;obtain ⟨F,hF,xF,AF⟩:=bV hWF;rw [<-hF];refine hK.o _ _ (s.trans xF) λs=> ?_;have HF:=ah hF;have HAF:=ah AF
       have H0:Hid (aL WF (F+1) 92 3 (.slice none 0 0) []/\Ext W7 WF):=⟨aL.nil _ _ _ _,xF⟩;clear hK K' hWF hF xF AF;refine wV 9 s ?_;refine wD ?_;obtain ⟨rs,Kf,yx⟩:=SE on h λy hy=>by rw [Jh.o y hy];exact JB
       have Cr:=ah yx;have HRC:=ah Kf
       obtain ⟨T,Xr⟩: ∃T:Nat->Int,T=λi=>nt (dG c h) i []:=⟨_,rfl⟩;have Qh:Hid (T 0=0):=by show _=_;rw [Xr];rfl
       have se:Hid (∀i,T (i+1)=T i+dG c h i):=λi=>by rw [Xr];show nt _ (i+1) []=_;rw [iV];simp
       have Vm:Hid (∀i,0<=T i/\T i<=i*1048576):=λi=>by rw [Xr];exact Jr gA.o h [] i
       have Qe:=ah (mb gA.o (h:Int));have yy:=ah Xr;clear yx Kf Xr HCA qO;go_wp2
       go_loopw [18,87] (λv ii wr=> ∃(i:Nat) (oa:Option Addr) (k:Nat),i<=on.length/\ii= .int .i64 i/\v=i64 (T i)/\aT wr F 101 [.slice oa i k,.slice (some ⟨cb,0,none⟩) c.aA.length c.aA.length,i64 need,.bool r1.s,.slice r1.a r1.k r1.c,.slice r1.b r1.j r1.d,.bool false,.slice none 0 0,.slice none 0 0,.slice none 0 0]/\aL wr (F+1) 92 3 (.slice oa i k) ((rs.take i).map cH.cells)/\Ext W7 wr) (λ_ ii _=>on.length-(intOf ii).toNat)
       case atStart=>exact ⟨0,none,0,aZ,rfl,by rw [Qh.o],HAF.o,H0.o.1,H0.o.2⟩
       case round=>
        clear s H0 Qh HAF;obtain ⟨i,oa,k,hi,rfl,rfl,hA,hOw,s⟩:=hrel;have HA:=ah hA;have HOw:=ah hOw
        have q0:=hA.cs.1;clear hA hOw;by_cases hlt:i<on.length
        .have b4:(i:Int)<(on.length:Int):=ae
         have b5:(0:Int)<=(i:Int):=ae;obtain ⟨g,o,x,rfl,hx,hrow,c1⟩:=(HO.o.ext (HX.o.trans (Ht.o.trans TN.o))).at i hlt;have Ge:=hrow.le;have tQ:=Jh.o x (by rw [hx];exact List.getElem_mem hlt);have hx0:h<x.rs.length:=ae;obtain ⟨g3,o3,Ko,hc3,-⟩:=hrow.cell h hx0;rw [Ko]at c1;have b6:(h:Int)<(x.rs.length:Int):=ae;have c3: ∀Y,Ext W7 Y->_:=λY e=>hc3.ext e;simp only [Cs,cH.cells,Nat.add_zero]at c3;have hir:i<rs.length:=by rw [HRC.o];exact hlt
         have Sq:Hid (rs.take (i+1)=rs.take i++ [x.rs[h]'hx0]):=by
          show _=_;obtain ⟨hk,hq⟩:=Cr.o i hlt hir;rw [List.take_succ_eq_append_getElem hir,hq];subst hx;rfl
         generalize x.rs[h]'hx0=r at*;have Xs:Hid (((rs.take i).map cH.cells).length=i):=by show _=_;rw [List.length_map,List.length_take];omega
         have hts:=se.o i;have htr:=Vm.o i;have Qc:=Qe.o i
         have C1: ∀Y,Ext W7 Y->Y.cell? ⟨cb,i,none⟩=some (i64 (dG c h i)):=λY e=>(iC.cell (HT.o.ext e) i (bA Dv.o)).1;clear hx hrow Ko hc3 tQ hx0;go_wp2_with fail
         refine zG 13 (λw=>w.cell? ⟨F,0,none⟩=some (.slice oa i k)/\Ext W7 w) ⟨aC (Ext.refl wr).drew q0,s.drew⟩ λe=> ?_;have HYA:=ah (HA.o.ext (Ext.refl wr).drew);have HYO:=ah (HOw.o.ext (Ext.refl wr).drew)
         have HFZ:Hid (F<wr.drew.heap.size):=HYA.o.lt;generalize wr.drew=Y2 at*;refine zV 0 e ?_;refine zV 1 e ?_;refine zV 2 e ?_;refine zV 3 e ?_;refine zV 4 e ?_;refine zV 5 e ?_;refine zV 6 e ?_;refine zV 7 e ?_;refine zV 8 e ?_;refine zR 9 λK' hK=> ?_;rw [if_pos eN];refine dM 46 _ rfl 92 (.agg kh.toArray) 3 56 underlying46 Tryz.info_rat aq aq [.bool r.s,.slice r.a r.k r.c,.slice r.b r.j r.d] rfl rfl ?_;intro W8 hB8 x8;refine hK.o _ _ ⟨aC x8 e.1,e.2.trans x8⟩ λe=> ?_;have h8:=x8.size;have Mb:=ah (HYA.o.ext x8);have Wv:=ah (HYO.o.ext x8)
         clear hK K' x8;refine zR 10 λK' hK=> ?_;rw [if_pos eN];refine xQ _ _ 46 92 (.agg kh.toArray) 3 56 rfl underlying46 Tryz.info_rat rfl aq aq (ga:=oa) (gc:=k) (rows:=(rs.take i).map cH.cells) (by rw [Xs.o];rfl) (by rw [Xs.o];exact Wv.o) rfl hB8 rfl (by intro u hu;simp only [List.mem_cons,List.not_mem_nil,or_false]at hu;rcases hu with e|e|e<;>(rw [e];rfl)) (by rw [Xs.o];omega) (bA HFZ.o) ?_;intro g2 k2 W9 b9 hO9 hK9 x9;have hb9:F<b9:=bA hK9.o.1;rw [Xs.o]at hO9;rw [Xs.o];have HA9:=ah (Mb.o.but x9 ae);refine hK.o _ _ ⟨bU e.1 x9 (show F≠b9 by omega),x9.ext e.2 (bA HF.o)⟩ λe=> ?_;have f9:=HA9.o.frozen 0;have Xt:aL W9 (F+1) 92 3 (.slice g2 (i+1) k2) ((rs.take (i+1)).map cH.cells):=by rw [Sq.o,List.map_append];exact hO9
         have HO9:=ah Xt;clear hK K' x9 hO9 hK9 hb9 hB8 Xt;refine zU 11 e ?_;refine zU 12 e ?_;have e0:=e.1;refine zL 13 λK' hK=> ?_;rw [if_pos eN];go_simp;refine hK.o _ _ ?_;have my:=HA9.o.set 0 (.slice g2 (i+1) k2);have xF:=(aB.refl F W9).ez (o:=0) (v:= .slice g2 (i+1) k2);have acr:=ah (HO9.o.but xF (Nat.lt_succ_self F));have s:=xF.ext e.2 (bA HF.o);generalize W9.setCell ⟨F,0,none⟩ (.slice g2 (i+1) k2)=tD at*;have q1:=my.cs.2.1;have BQ:=ah my;have wq:IntKind.i64.wrap (T i+dG c h i)=T (i+1):=by rw [IntKind.wrap_i64,hts];omega
         have b7:(i:Int)<(c.aA.length:Int):=bA Dv.o;clear hK K' my xF f9 e e0 q0 hts htr Qc;go_wp2
         exact ⟨⟨i+1,g2,k2,hlt,bf,rfl,BQ.o,acr.o,s⟩,a_⟩
        .obtain rfl:i=on.length:=ae
         have hfs:FS F c.aA.length (λu=>f u h) (dG c h) need ⟨oa,k,cb,r1,⟨false,none,0,0,none,0,0⟩,none,0,[]⟩ wr:=by
          have h1:=HA.o;have h2:=HOw.o;have h3:=HRC.o
          rw [<-h3,List.take_length]at h2;rw [Dv.o]at h1 h3;rw [h3]at h2;refine FS.init h1 h2 h3 s HF.o (λu hu=> ?_) HT.o (GX.o.ext TN.o);obtain ⟨hk,hq⟩:=Cr.o u (by rw [Dv.o];omega) hu;rw [hq];obtain ⟨-,-,-,-,q⟩:=((HO.o.ext (HX.o.trans (Ht.o.trans TN.o))).row u (by rw [Dv.o];omega)).cell h hk;exact q
         have TG:=ah hfs;clear hfs;go_wp2_with fail
         refine (uG _ 0 aq aq).mono ?_;rintro e V1 ⟨r0,rfl,Wy,mA,x1⟩;have htr:=Vm.o on.length;have HSE:=ah (DY F c.aA.length (λu=>f u h) (dG c h) need hn (λu _=>Qe.o u) c.aA.length 0 V1 _ r0 none 0 [] 0 (T on.length) ae (TG.o.ext x1) ⟨⟨Wy,nM mA TG.o.blk.lt⟩,aS.nil _,(λp e=>nomatch e),λ_=>⟨rfl,rfl⟩⟩ bY ae ae);replace s:=s.trans x1;clear Wy mA x1 htr;go_wp2_with fail
         refine HSE.o.mono ?_;rintro e V2 ⟨rfl,x2,fg,hG,hgb,-⟩;have s:=x2.ext s (bA HF.o)
         have Xu:Hid (fg.bD=pd c f h):=by
          show _=_;rw [hgb,HBD.o,yy.o,Dv.o];exact Lj hn (λu hu=>(L_.o u hu h (bA HH.o.1)).1) λu _=>(Qe.o u).1
         have c9:=hG.blk.cs;simp only [Cs,sJ.cells,Nat.zero_add]at c9;have HG:=ah hG;clear HSE x2 hG hgb;have ND:Hid (Ext W7 V2):=s;by_cases hbl:fg.bD= []
         .have t6:fg.ba.isNone=true:=by rw [(HG.o.nil hbl).1];rfl
          have DO:Hid (cs.map (λx=>(x.h,x.l))=nN c f (h+1)):=by show _=_;rw [nN,<-Xu.o,if_pos hbl,List.append_nil];exact HM.o
          clear hbl;go_wp2
          exact ⟨⟨h+1,ga,gc,cs,JB,bf,rfl,HC.o.ext (Hr.o.trans s),DO.o,TN.o.trans s⟩,a_⟩
         .obtain ⟨gb,go,hgo⟩:=(HG.o.bD hbl).addr hbl
          have t6:fg.ba.isNone=false:=by rw [hgo];rfl
          have Ke:=ah (HG.o.bD hbl);have hlp:=List.length_pos_iff.2 hbl;have DO:Hid ((cs++ [(⟨h,fg.bD,fg.ba,fg.bc⟩:kN)]).map (λx=>(x.h,x.l))=nN c f (h+1)):=by show _=_;rw [nN,<-Xu.o,if_neg hbl,List.map_append,HM.o];rfl
          have Xd:Hid ((cs++ [(⟨h,fg.bD,fg.ba,fg.bc⟩:kN)]).length=cs.length+1):=by show _=_;simp
          have JC:Hid (cs.length<=1000):=by
             have h1:=congrArg List.length HM.o;rw [List.length_map]at h1;have:=D6 c f h;show _<=_;omega
          have Xe:Hid (∀p,fg.ba=some p->p.block<V2.heap.size/\ ∀q,ga=some q->p.block≠q.block):=λp hp=>by
             obtain ⟨b',o',e,hc⟩:=Ke.o.ints.cell 0 (by rw [aN];exact hlp);have h1:=Ke.o.off p hp;rw [hp]at e;cases e
             refine ⟨cY hc,λq hq=> ?_⟩;have h2:=(HC.o.own.own.lt q.block (by rw [hq];rfl)).2;have h3:=Hr.o.size;have h4:=HF.o
             show b'≠q.block;have:F<b':=h1;omega
          have HWS:Hid (W3.heap.size<=V2.heap.size):=(TN.o.trans s).size;have P_:=ah Ke.o.ints;clear hbl hgo hlp
          go_wp2_with (first
             |(refine ij rfl 48 _ rfl 24 (.agg #[i64 0,i64 0,.slice none 0 0,i64 0,i64 0,i64 0]) 6 64 underlying48 Tryz.info_cutA aq aq [i64 0,.int .i64 (h:Int),.slice fg.ba fg.bD.length fg.bc,i64 1,i64 0,i64 0] rfl rfl ?_
               intro OH Xf x1;have zq:=ah (HC.o.ext (Hr.o.trans (ND.o.trans x1)));have BC:=ah Xf;have eC:=ah x1;clear Xf x1)
             |(at_builtin
               refine jQ _ _ 48 24 (.agg #[i64 0,i64 0,.slice none 0 0,i64 0,i64 0,i64 0]) 6 64 rfl rfl underlying48 Tryz.info_cutA rfl aq aq (ga:=ga) (gc:=gc) (rows:=cs.map kN.cells) (by rw [List.length_map];rfl) (by rw [List.length_map];exact zq.o.own) rfl BC.o rfl (by intro u hu;simp only [List.mem_cons,List.not_mem_nil,or_false]at hu;rcases hu with e|e|e|e|e|e<;>(rw [e];rfl)) (by rw [List.length_map];have:=JC.o;omega) (qj HWS.o eC.o.size) ?_;intro g2 k2 VT Kb xR hK2 x2;rw [List.length_map]at xR;rw [List.length_map];have qM:=ah (zq.o.put (x:=⟨h,fg.bD,fg.ba,fg.bc⟩) (P_.o.ext eC.o) (λp hp=>⟨Nat.lt_of_lt_of_le (Xe.o p hp).1 eC.o.size,(Xe.o p hp).2⟩) xR hK2.o.2.1 hK2.o.2.2 x2);have kR:=ah (x2.ext ((TN.o.trans ND.o).trans eC.o) hK2.o.1);clear xR hK2 x2))
          exact ⟨⟨h+1,g2,k2,cs++ [⟨h,fg.bD,fg.ba,fg.bc⟩],JB,bf,by rw [Xd.o],qM.o,DO.o,kR.o⟩,a_⟩
      .obtain rfl:h=H:=ae
       have DO:Hid (cs.map (λx=>(x.h,x.l))=nN c f c.hours.toNat):=by show _=_;rw [HH.o.1];exact HM.o
       go_wp2
       exact bodyPost_ret (by simp [results,results17,go_sem]) rfl ⟨HX.o.trans (Ht.o.trans s),.inr ⟨HS0.o,_,ga,gc,cs,rfl,HC.o,DO.o⟩⟩
