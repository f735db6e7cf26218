/- Texts of the proof. -/
import Derived.Test.YtfokdakioeoniaaGreatCj31
set_option linter.all false
namespace Go.Proofs.YtfokdakioeoniaaGreat
open Go.Proofs.Tryz
open Go.RowKit
theorem St.dh (s:St) (ok:Bool) (f e:Int):(s.need ok f e).err=nd s.err ok e:=by
 unfold St.need nd;split<;>rfl
theorem St.vt (s:St) (k i:Int):(s.at k i).err=s.err:=by
 unfold St.at;split
 .rename_i h;exact h.symm
 .rfl
theorem Ay (a b n:Int):cJ a b [n]=(decide (a<=n)&&decide (n<=b)):=by
 unfold cJ;simp
theorem wK (a b n:Int) (l:List Int):cJ a b (n::l)=(cJ a b [n]&&cJ a b l):=by
 unfold cJ;simp [List.all_cons]
theorem Ky (n i:Int):cJ 0 (n-1) [i]=(decide (0<=i)&&decide (i<n)):=by
 rw [Ay];have:decide (i<=n-1)=decide (i<n):=by rw [Bool.eq_iff_iff];simp;omega
 rw [this]
theorem St.cq (s:St) (f n a b:Int):(s.within f n a b).err=nd s.err (cJ a b [n]) 3:=by
 unfold St.within;rw [St.dh,Ay]
theorem St.Kz (s:St) (l:List Int) (f a b:Int):(s.each l f a b).err=nd s.err (cJ a b l) 3:=by
 unfold St.each;induction l generalizing s with
 |nil=>exact (jK _ _).symm
 |cons x l ih=>rw [List.foldl_cons,ih,St.cq,qj _ _ _ _ ai,<-wK]
theorem St.pw (s:St) (c:aq) (f:Int) (l:List Int) (a b:Int):(s.pQ c f l a b).err=jq s.err c l a b:=by
 unfold St.pQ jq;rw [St.Kz,St.dh]
theorem St.Az (s:St) (c:aq) (f i:Int):(s.fc c f i).err=vT s.err c i:=by
 unfold St.fc vT;rw [St.dh,Ky]
theorem St.KF (s:St) (c:aq) (f:Int) (l:List Int):(s.away c f l).err=tG s.err c l:=by
 unfold St.away tG;rw [St.dh,St.Kz]
theorem St.RO (s:St) (nm:ByteArray) (prev:List ByteArray):(s.oX nm prev).err=nd s.err (prev.all λp=>Nt p nm) 10:=by
 unfold St.oX;induction prev generalizing s with
 |nil=>exact (jK _ _).symm
 |cons x l ih=>rw [List.foldl_cons,ih,St.dh,qj _ _ _ _ ai,List.all_cons]
theorem St.p9 (s:St) (nm:ByteArray) (prev:List ByteArray):(s.name nm prev).err=nA s.err nm prev:=by
 unfold St.name nA;rw [St.RO,St.dh]
theorem St.Pn (s:St) (n f:Int) (l:List Int):(s.DM n f l).err=nd s.err (cJ 0 (n-1) l) 12:=by
 unfold St.DM;induction l generalizing s with
 |nil=>exact (jK _ _).symm
 |cons x l ih=>rw [List.foldl_cons,ih,St.dh,qj _ _ _ _ ai,wK,Ky]
theorem St.Vv (s:St) (l:List cH):(s.Ru l).err=nd s.err (l.all Ab) 3:=by
 unfold St.Ru;induction l generalizing s with
 |nil=>exact (jK _ _).symm
 |cons x l ih=>
  rw [List.foldl_cons,ih,St.cq,St.cq,qj _ _ _ _ ai,qj _ _ _ _ ai,List.all_cons];have e:Ab x=(cJ 0 1048576 [x.up]&&cJ 0 1048576 [x.down]):=wK 0 1048576 x.up [x.down];rw [e,Bool.and_assoc]
theorem St.Po (s:St) (l:List iI):(s.qo l).err=nd s.err (l.all mg) 3:=by
 unfold St.qo;induction l generalizing s with
 |nil=>exact (jK _ _).symm
 |cons x l ih=>
  rw [List.foldl_cons,ih,St.cq,St.cq,qj _ _ _ _ ai,qj _ _ _ _ ai,List.all_cons];have e:mg x=(cJ 1 1048576 [x.width]&&cJ (-1048576) 1048576 [x.gm]):=rfl;rw [e,Bool.and_assoc]
theorem St.Pp (s:St) (l:List iI) (n:Nat):(s.mb l n).err=nd s.err (yw l n) 11:=by
 unfold St.mb yw;induction n with
 |zero=>exact (jK _ _).symm
 |succ n ih=>
  rw [List.range_succ,List.foldl_append,List.foldl_cons,List.foldl_nil,List.all_append,<-qj _ _ _ _ ai,<-ih];by_cases q:n=0
  .rw [if_pos q];simp [q,jK]
  .have:(n==0)=false:=by simpa using q
   rw [if_neg q,St.dh];simp [this]
theorem Gu (e:Int) {code:Int} (h:code≠0):nd e false code≠0:=by
 unfold nd;split
 .exact h
 .rename_i hq;intro h0;exact hq ⟨h0,rfl⟩
theorem St.Gv (s:St) (x:cw):(s.segments x).err=rk s.err x:=by
 unfold St.segments rk;split
 .rename_i h
  rw [St.dh]at h⊢;rw [fZ h,fZ h,fZ h]
 .rw [St.dh,St.Pp,St.Po,St.dh]
theorem St.Gw (c:aq) (x:iQ) (prev:List ByteArray) (i:Int) (s:St):(St.uY c x prev i s).err=Cw c x prev s.err:=by
 unfold St.uY Cw;rw [St.cq,St.pw,St.p9,St.vt]
theorem St.Gx (c:aq) (x:cX) (prev:List ByteArray) (i:Int) (s:St):(St.uZ c x prev i s).err=zY c x prev s.err:=by
 have hb:(x.qZ !=x.fQ)=(x.fQ !=x.qZ):=by rw [Bool.eq_iff_iff];simp;omega
 unfold St.uZ zY;rw [St.KF,St.cq,St.cq,St.dh,St.dh,St.dh,St.dh,St.Az,St.Az,St.p9,St.vt,hb]
theorem St.Eg (c:aq) (x:cI) (prev:List ByteArray) (i:Int) (s:St):(St.sj c x prev i s).err=ui c x prev s.err:=by
 unfold St.sj ui;rw [St.dh,St.cq,St.cq,St.cq,St.cq,St.cq,St.Az,St.p9,St.vt]
theorem St.Jp (c:aq) (x:gY) (prev:List ByteArray) (i:Int) (s:St):(St.yQ c x prev i s).err=IW c x prev s.err:=by
 unfold St.yQ IW;rw [St.pw,St.pw,St.pw,St.Az,St.p9,St.vt]
theorem St.Gy (c:aq) (x:cw) (prev:List ByteArray) (i:Int) (s:St):(St.pk c x prev i s).err=z_ c x prev s.err:=by
 unfold St.pk z_;rw [St.cq,St.dh,St.cq,St.dh,St.dh,St.KF,St.cq,St.cq,St.cq,St.cq,St.cq,St.cq,St.cq,St.cq,St.cq,St.cq,St.cq,St.cq,St.cq,St.Gv,St.cq,St.cq,St.Az,St.p9,St.vt]
 have h1:((x.state==0)||(x.state==1)||(x.state==2))=cJ 0 2 [x.state]:=by
  rw [Ay,Bool.eq_iff_iff];simp;omega
 have h3:cJ (if x.state=2 then x.min else 0) (if x.state=2 then x.max else 0) [x.output]=(if(x.state==2)=true then cJ x.min x.max [x.output]else(x.output==0)):=by
  by_cases q:x.state=2
  .rw [if_pos q,if_pos q,if_pos (by simpa using q)]
  .rw [if_neg q,if_neg q,if_neg (by simpa using q),Ay,Bool.eq_iff_iff];simp;omega
 rw [h1,h3];generalize nd (nd (nd (rk _ x) _ 3) _ 3) _ 3=z;by_cases hs:cJ 0 24 [x.startTime]=true
 .have h2:((x.state !=1)||(x.startTime !=0))=((x.state !=1)||decide (0<x.startTime)):=by
   rw [Ay]at hs;simp at hs
   congr 1;rw [Bool.eq_iff_iff];simp;omega
  rw [h2]
 .have hs':cJ 0 24 [x.startTime]=false:=by simpa using hs
  rw [hs'];generalize nd (nd (nd (nd z _ 3) _ 3) _ 3) _ 3=y;have hy:=Gu y (code:=3) ai;generalize nd y false 3=y1 at*;simp only [fZ hy,vZ hy]
theorem p_ {α:Type} (l:List α) (F:α->Nat->Int->Int) (step:St->Nat->St) (h: ∀s i,(step s i).err=cN l F i s.err) (s:St) (n:Nat):
 ((List.range n).foldl step s).err=dX (cN l F) s.err n:=by
 induction n with
 |zero=>rfl
 |succ n ih=>
  rw [List.range_succ,List.foldl_append,List.foldl_cons,List.foldl_nil,fF,<-ih];exact h _ n
theorem St.Gz (s:St) (c:aq):(s.ar c).err=wj c s.err:=by
 unfold St.ar St.yP St.upTo wj;refine p_ c.ar (v_ c) _ ?_ s c.ar.length;intro s i;unfold cN;cases c.ar[i]? with
 |none=>rfl
 |some x=>exact St.Gw c x _ i s
theorem St.GA (s:St) (c:aq):(s.lines c).err=rF c s.err:=by
 unfold St.lines St.yR St.upTo rF;refine p_ c.lines (qu c) _ ?_ s c.lines.length;intro s i;unfold cN;cases c.lines[i]? with
 |none=>rfl
 |some x=>exact St.Gx c x _ i s
theorem St.GC (s:St) (c:aq):(s.ay c).err=wk c s.err:=by
 unfold St.ay St.yY St.upTo wk;refine p_ c.ay (qw c) _ ?_ s c.ay.length;intro s i;unfold cN;cases c.ay[i]? with
 |none=>rfl
 |some x=>exact St.Gy c x _ i s
theorem St.CJ (s:St) (c:aq):(s.stores c).err=sB c s.err:=by
 unfold St.stores St.u9 St.upTo sB;refine p_ c.stores (mH c) _ ?_ s c.stores.length;intro s i;unfold cN;cases c.stores[i]? with
 |none=>rfl
 |some x=>exact St.Eg c x _ i s
theorem St.KJ (s:St) (c:aq):(s.bF c).err=Cx c s.err:=by
 unfold St.bF St.DB St.upTo Cx;refine p_ c.bF (yy c) _ ?_ s c.bF.length;intro s i;unfold cN;cases c.bF[i]? with
 |none=>rfl
 |some x=>exact St.Jp c x _ i s
theorem St.Pq (s:St) (c:aq) (x:ee):(s.moves c x).err=nd (nd (nd (nd (nd s.err (x.bY||decide (x.moves.length=0)) 16) (decide ((x.moves.length:Int)<=16)) 8) (cJ 0 ((c.ay.length:Int)-1) (x.moves.map cH.unit)) 12) (lr (x.moves.map cH.unit)) 11) (x.moves.all Ab) 3:=by
 rw [Bool.or_comm];unfold St.moves;split
 .rename_i h
  rw [St.dh,St.dh]at h⊢;rw [fZ h,fZ h,fZ h]
 .rw [St.Vv,St.dh,St.Pn,St.dh,St.dh]
theorem St.Jq (c:aq) (x:ee) (prev:List ByteArray) (i:Int) (s:St):(St.ov c x prev i s).err=pS c x prev s.err:=by
 have h1:(decide (x.lines.length=1)||decide (x.lines.length=2))=cJ 1 2 [(x.lines.length:Int)]:=by
  rw [Ay,Bool.eq_iff_iff];simp;omega
 unfold St.ov pS;split
 .rename_i h
  rw [St.dh,St.p9,St.vt,h1]at h⊢;simp only [fZ h]
 .rw [St.Pq,St.dh,St.Pn,St.dh,St.p9,St.vt,h1]
theorem St.KL (s:St) (c:aq):(s.outs c).err=Cy c s.err:=by
 unfold St.outs St.kh Cy;refine p_ c.outs (yz c) _ ?_ s c.outs.length;intro s i;unfold cN;cases c.outs[i]? with
 |none=>rfl
 |some x=>exact St.Jq c x _ i s
theorem St.Pr (s:St) (c:aq):(s.whole c).err=mE c s.err:=by
 unfold St.whole mE;rw [St.dh,St.dh,St.dh,St.dh,St.dh,St.dh,St.pw,St.cq,St.vt,<-Ay];rw [iM,iM,iM,iM,iM];simp [nC,fo,uh]
