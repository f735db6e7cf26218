/- Texts of the proof. -/
import Derived.Test.YtfokdakioeoniaaGreatCj7
set_option linter.all false
set_option maxHeartbeats 2000000
set_option maxRecDepth 100000
namespace Go.Proofs.YtfokdakioeoniaaGreat
open Go.Proofs.Tryz
open Go.RowKit
theorem lN (x:Int) (y:Nat) (h:0<y):decide ((mkRat x y).num<0)=decide (x<0):=by
 rw [Rat.num_mkRat,if_neg ae];have hg:(0:Int)<(Nat.gcd y x.natAbs:Nat):=dB (Nat.gcd_pos_of_pos_left x.natAbs h)
 have:x/(Nat.gcd y x.natAbs:Nat)<0↔x<0:=by
  constructor
  .intro h1
   apply Int.not_le.1;intro h2
   have:=Int.ediv_nonneg h2 (Int.le_of_lt hg);omega
  .intro h1;exact Int.ediv_neg_of_neg_of_pos h1 hg
 simp only [this]
theorem bD.Fk {w W w2 w3:World} {a a':Option Addr} {c c':Nat} {q:Rat} {n m:Nat} {s:Bool} (hn:q.num.natAbs=n) (hm:q.den=m) (hs:decide (q.num<0)=s)
 (h:Raw w2 a (len n) c n) (hf:Fr W.heap.size a) (h':Raw w2 a' (len m) c' m) (hf':Fr W.heap.size a') (hW:Ext w W) (h2:Ext W w2)
 (t:Touch w.heap.size W.heap.size w2 w3):bD q w (.returned (.agg #[.bool s,.slice a (len n) c,.slice a' (len m) c'])) w3:=by
 subst hn;subst hm;subst hs
 exact ⟨a,c,a',c',rfl,h.bH t hf.o,hf.mono hW.size,h'.bH t hf'.o,hf'.mono hW.size,hW.bH h2 t⟩
theorem N1 (x:Int) (h1: -9223372036854775808<x) (h2:x<0):IntKind.u64.wrap (-IntKind.u64.wrap x)=((x.natAbs:Nat):Int):=by
 rw [IntKind.wrap_u64,IntKind.wrap_u64];omega
theorem N2 (x:Int) (h1:x<9223372036854775808) (h2: ¬x<0):IntKind.u64.wrap x=((x.natAbs:Nat):Int):=by
 rw [IntKind.wrap_u64];omega
theorem vJ (w:World) (x:Int) (y:Nat) (hx1: -9223372036854775808<x) (hx2:x<0) (Lz:0<y) (hy:y<9223372036854775808):
 Calls prog 103 #[.int .i64 x,.int .i64 (y:Nat)] w (bD (mkRat x y) w):=by
 have ew:=N1 x hx1 hx2;go_enter func103,ntmps103
 go_wp2
 obtain ⟨W,hW,x0,Z0,A0⟩:=bS w 63 [.bool false,.slice none 0 0,.slice none 0 0];rw [<-hW];clear hW;obtain ⟨z0,aD,aF,bn,aM,aN,bG⟩:=bb1 aA A0 ah;go_loopw [6,7] (λgg rr wr=> ∃(p r:Nat),0<p/\p<9223372036854775808/\r<9223372036854775808/\Hid (Nat.gcd p r=Nat.gcd y x.natAbs)/\Quiet W wr/\gg= .int .u64 p/\rr= .int .u64 r) (λ_ rr _=>(intOf rr).toNat)
 case atStart=>exact ⟨y,x.natAbs,ae,ae,ae,rfl,Quiet.refl _,rfl,rfl⟩
 case round=>
  obtain ⟨p,r,hp0,hp,hr,hg,hq,rfl,rfl⟩:=hrel;by_cases Qf:r=0
  .subst Qf
   have Xj:p=Nat.gcd y x.natAbs:=by have:=hg.o;rwa [Nat.gcd_zero_right]at this
   have q1:=iC x y Lz;have q2:=nh x y Lz;have q3:=lN x y Lz;rw [<-Xj]at q1 q2;have l1:x.natAbs/p<=x.natAbs:=Nat.div_le_self _ _;have l2:y/p<=y:=Nat.div_le_self _ _
   have e1:IntKind.u64.wrap (((x.natAbs:Nat):Int)/(p:Int))=((x.natAbs/p:Nat):Int):=by
    rw [IntKind.wrap_u64,<-Int.natCast_ediv];generalize x.natAbs/p=z at*;omega
   have e2:IntKind.u64.wrap ((y:Int)/(p:Int))=((y/p:Nat):Int):=by
    rw [IntKind.wrap_u64,<-Int.natCast_ediv];generalize y/p=z at*;omega
   have ZQ:((x.natAbs:Nat):Int)/(p:Int)=((x.natAbs/p:Nat):Int):=(Int.natCast_ediv _ _).symm;have e2':(y:Int)/(p:Int)=((y/p:Nat):Int):=(Int.natCast_ediv _ _).symm
   have abo:IntKind.u64.wrap ((x.natAbs/p:Nat):Int)=((x.natAbs/p:Nat):Int):=by
    rw [IntKind.wrap_u64];generalize x.natAbs/p=z at*;omega
   have abp:IntKind.u64.wrap ((y/p:Nat):Int)=((y/p:Nat):Int):=by
    rw [IntKind.wrap_u64];generalize y/p=z at*;omega
   have b1:x.natAbs/p<18446744073709551616:=ae;have b2:y/p<18446744073709551616:=ae;clear Xj hg l1 l2;generalize x.natAbs/p=u at*;generalize y/p=v at*;generalize hQ:mkRat x y=Q at*;have Q1:=af q1;have Q2:=af q2;have Q3:=af q3;have HQ:=af hQ
   clear q1 q2 q3 hQ;have hpi:((p:Int)==0)=false:=by rw [beq_eq_false_iff_ne];omega
   have h1p:(1:Int)<=(p:Int):=ae;have abq:((p:Nat):Int)≠0:=ae;obtain ⟨z0,aD,aF,bn,aM,aN,bG⟩:=bb1 aA A0 hq.ext;have gC:True:=trivial;go_wp2
   go_region_with (first
    |(go_at_call 191;have _t:=gC;refine (dD _ _ (by assumption)).mono ?_;rintro e w1 ⟨a1,c1,rfl,hr1,jw,hx3⟩;clear gC _t;obtain ⟨z0,aD,aF,bn,aM,aN,bG⟩:=bb1 aA A0 ((hq.ext.drew).trans hx3))
    |(go_at_call 191;refine (dD _ _ (by assumption)).mono ?_;rintro e w2 ⟨a2,c2,rfl,hr2,hf2,gW⟩;obtain ⟨z0,aD,aF,bn,aM,aN,bG⟩:=bb1 aA A0 (((hq.ext.drew).trans hx3).trans gW)))
   all_goals go_wp2
   all_goals exact bodyPost_ret (by simp [results,results103,go_sem,aD,aF,bn,hx2]) rfl (bD.Fk (s:=decide (x<0)) Q1.o Q2.o Q3.o (hr1.ext gW) (jw.mono hq.ext.size) hr2 (hf2.mono (Nat.le_trans hq.ext.size hx3.size)) x0 ((hq.ext.drew.trans hx3).trans gW) (Touch.three _ cG (by rw [Z0.o];omega) _ _ _))
  .have hrb:(((r:Nat):Int) !=0)=true:=by rw [bne_iff_ne];omega
   have e3:(p:Int).tmod (r:Int)=((p % r:Nat):Int):=by rw [Int.tmod_eq_emod_of_nonneg ae,Int.natCast_emod]
   have hri:((r:Int)==0)=false:=by rw [beq_eq_false_iff_ne];omega
   have h1r:(1:Int)<=(r:Int):=ae;have hlt:=Nat.mod_lt p (Nat.pos_of_ne_zero Qf);have SH:Nat.gcd r (p % r)=Nat.gcd p r:=by rw [Nat.gcd_comm r,<-Nat.gcd_rec,Nat.gcd_comm]
   have HG:=af SH;clear SH
   go_wp2
   go_quiet (fail)
   go_wp2
   go_roundw
   case rel=>exact ⟨r,p % r,ae,ae,ae,HG.o.trans hg.o,hq.drewN _,rfl,rfl⟩
   case measure=>simp [intOf];omega
theorem vK (w:World) (x:Int) (y:Nat) (hx1:x<9223372036854775808) (hx2: ¬x<0) (Lz:0<y) (hy:y<9223372036854775808):
 Calls prog 103 #[.int .i64 x,.int .i64 (y:Nat)] w (bD (mkRat x y) w):=by
 have ew:=N2 x hx1 hx2;go_enter func103,ntmps103
 go_wp2
 obtain ⟨W,hW,x0,Z0,A0⟩:=bS w 63 [.bool false,.slice none 0 0,.slice none 0 0];rw [<-hW];clear hW;obtain ⟨z0,aD,aF,bn,aM,aN,bG⟩:=bb1 aA A0 ah;go_loopw [6,7] (λgg rr wr=> ∃(p r:Nat),0<p/\p<9223372036854775808/\r<9223372036854775808/\Hid (Nat.gcd p r=Nat.gcd y x.natAbs)/\Quiet W wr/\gg= .int .u64 p/\rr= .int .u64 r) (λ_ rr _=>(intOf rr).toNat)
 case atStart=>exact ⟨y,x.natAbs,ae,ae,ae,rfl,Quiet.refl _,rfl,rfl⟩
 case round=>
  obtain ⟨p,r,hp0,hp,hr,hg,hq,rfl,rfl⟩:=hrel;by_cases Qf:r=0
  .subst Qf
   have Xj:p=Nat.gcd y x.natAbs:=by have:=hg.o;rwa [Nat.gcd_zero_right]at this
   have q1:=iC x y Lz;have q2:=nh x y Lz;have q3:=lN x y Lz;rw [<-Xj]at q1 q2;have l1:x.natAbs/p<=x.natAbs:=Nat.div_le_self _ _;have l2:y/p<=y:=Nat.div_le_self _ _
   have e1:IntKind.u64.wrap (((x.natAbs:Nat):Int)/(p:Int))=((x.natAbs/p:Nat):Int):=by
    rw [IntKind.wrap_u64,<-Int.natCast_ediv];generalize x.natAbs/p=z at*;omega
   have e2:IntKind.u64.wrap ((y:Int)/(p:Int))=((y/p:Nat):Int):=by
    rw [IntKind.wrap_u64,<-Int.natCast_ediv];generalize y/p=z at*;omega
   have ZQ:((x.natAbs:Nat):Int)/(p:Int)=((x.natAbs/p:Nat):Int):=(Int.natCast_ediv _ _).symm;have e2':(y:Int)/(p:Int)=((y/p:Nat):Int):=(Int.natCast_ediv _ _).symm
   have abo:IntKind.u64.wrap ((x.natAbs/p:Nat):Int)=((x.natAbs/p:Nat):Int):=by
    rw [IntKind.wrap_u64];generalize x.natAbs/p=z at*;omega
   have abp:IntKind.u64.wrap ((y/p:Nat):Int)=((y/p:Nat):Int):=by
    rw [IntKind.wrap_u64];generalize y/p=z at*;omega
   have b1:x.natAbs/p<18446744073709551616:=ae;have b2:y/p<18446744073709551616:=ae;clear Xj hg l1 l2;generalize x.natAbs/p=u at*;generalize y/p=v at*;generalize hQ:mkRat x y=Q at*;have Q1:=af q1;have Q2:=af q2;have Q3:=af q3;have HQ:=af hQ
   clear q1 q2 q3 hQ;have hpi:((p:Int)==0)=false:=by rw [beq_eq_false_iff_ne];omega
   have h1p:(1:Int)<=(p:Int):=ae;have abq:((p:Nat):Int)≠0:=ae;obtain ⟨z0,aD,aF,bn,aM,aN,bG⟩:=bb1 aA A0 hq.ext;have gC:True:=trivial;go_wp2
   go_region_with (first
    |(go_at_call 191;have _t:=gC;refine (dD _ _ (by assumption)).mono ?_;rintro e w1 ⟨a1,c1,rfl,hr1,jw,hx3⟩;clear gC _t;obtain ⟨z0,aD,aF,bn,aM,aN,bG⟩:=bb1 aA A0 ((hq.ext.drew).trans hx3))
    |(go_at_call 191;refine (dD _ _ (by assumption)).mono ?_;rintro e w2 ⟨a2,c2,rfl,hr2,hf2,gW⟩;obtain ⟨z0,aD,aF,bn,aM,aN,bG⟩:=bb1 aA A0 (((hq.ext.drew).trans hx3).trans gW)))
   all_goals go_wp2
   all_goals exact bodyPost_ret (by simp [results,results103,go_sem,aD,aF,bn]) rfl (bD.Fk (s:=decide (x<0)) Q1.o Q2.o Q3.o (hr1.ext gW) (jw.mono hq.ext.size) hr2 (hf2.mono (Nat.le_trans hq.ext.size hx3.size)) x0 ((hq.ext.drew.trans hx3).trans gW) (Touch.three _ cG (by rw [Z0.o];omega) _ _ _))
  .have hrb:(((r:Nat):Int) !=0)=true:=by rw [bne_iff_ne];omega
   have e3:(p:Int).tmod (r:Int)=((p % r:Nat):Int):=by rw [Int.tmod_eq_emod_of_nonneg ae,Int.natCast_emod]
   have hri:((r:Int)==0)=false:=by rw [beq_eq_false_iff_ne];omega
   have h1r:(1:Int)<=(r:Int):=ae;have hlt:=Nat.mod_lt p (Nat.pos_of_ne_zero Qf);have SH:Nat.gcd r (p % r)=Nat.gcd p r:=by rw [Nat.gcd_comm r,<-Nat.gcd_rec,Nat.gcd_comm]
   have HG:=af SH;clear SH
   go_wp2
   go_quiet (fail)
   go_wp2
   go_roundw
   case rel=>exact ⟨r,p % r,ae,ae,ae,HG.o.trans hg.o,hq.drewN _,rfl,rfl⟩
   case measure=>simp [intOf];omega
theorem pH (w:World) (x:Int) (y:Nat) (h1: -9223372036854775808<x) (h2:x<9223372036854775808) (Lz:0<y) (hy:y<9223372036854775808):
 Calls prog 103 #[.int .i64 x,.int .i64 (y:Nat)] w (bD (mkRat x y) w):=by
 by_cases h:x<0
 .exact vJ w x y h1 h Lz hy
 .exact vK w x y h2 h Lz hy
theorem LB (w:World) (s:Bool) (a:Option Addr) (k c n:Nat) (h:Raw w a k c n):
 Calls prog 193 #[.agg #[.bool s,.slice a k c]] w λe w'=> ∃a1 c1,e= .returned (.agg #[.bool (decide (bf s n<0)),.slice a1 (len n) c1])/\Raw w' a1 (len n) c1 n/\Fr w.heap.size a1/\Ext w w':=
 (NZ w s a k c n h).mono λ_ _ ⟨a1,c1,he,hr,hf,hx⟩=>⟨a1,c1,by rw [he,bL],by rw [bL]at hr;exact hr,hf,hx⟩
theorem bD.of2 {w w3:World} {a a':Option Addr} {c c':Nat} {q:Rat} {n m:Nat} {s:Bool} (hn:q.num.natAbs=n) (hm:q.den=m) (hs:decide (q.num<0)=s)
 (h:Raw w3 a (len n) c n) (hf:Fr w.heap.size a) (h':Raw w3 a' (len m) c' m) (hf':Fr w.heap.size a') (hE:Ext w w3):bD q w (.returned (.agg #[.bool s,.slice a (len n) c,.slice a' (len m) c'])) w3:=by
 subst hn;subst hm;subst hs
 exact ⟨a,c,a',c',rfl,h,hf,h',hf',hE⟩
theorem Ext.tT {a w:World} (h:Ext a w) {b:Nat} (hb:a.heap.size<=b) (v0 v1 v2:Value):Ext a (((w.setCell ⟨b,0,none⟩ v0).setCell ⟨b,1,none⟩ v1).setCell ⟨b,2,none⟩ v2):=((h.setCell hb _).setCell hb _).setCell hb _
theorem Ext.lY {a w:World} (h:Ext a w) {b:Nat} (hb:a.heap.size<=b) (v0 v1:Value):Ext a ((w.setCell ⟨b,0,none⟩ v0).setCell ⟨b,1,none⟩ v1):=(h.setCell hb _).setCell hb _
theorem lg (w:World) (s:Bool) (a b:Option Addr) (k c j d n m:Nat) (h:Raw w a k c n) (g:Raw w b j d m) (hm:0<m) (b1:len n<400000000) (b2:len m<400000000):
 Calls prog 106 #[.agg #[.bool s,.slice a k c],.slice b j d] w (bD (mkRat (bf s n) m) w):=by
 go_enter func106,ntmps106
 go_wp2_with fail
 obtain ⟨W,hW,x0,Z0,A0,A1⟩:=dV w 61 [.bool s,.slice a k c] 63 [.bool false,.slice none 0 0,.slice none 0 0];rw [<-hW];clear hW;obtain ⟨z0,z1,⟨aD,aF,aM,aN⟩,aJ,aK,bM,aR,aS,bT⟩:=bb2 aC aA A0 A1 ah;refine (LB _ _ _ _ _ _ (h.ext x0)).mono ?_;rintro e w1 ⟨a1,c1,rfl,hr1,jw,hx1⟩;obtain ⟨z0,z1,⟨aD,aF,aM,aN⟩,aJ,aK,bM,aR,aS,bT⟩:=bb2 aC aA A0 A1 hx1;go_wp2_with fail
 refine (qL _ _ _ _ _ ((g.ext x0).ext hx1)).mono ?_;rintro e w2 ⟨a2,c2,rfl,hr2,hf2,hx2⟩;obtain ⟨z0,z1,⟨aD,aF,aM,aN⟩,aJ,aK,bM,aR,aS,bT⟩:=bb2 aC aA A0 A1 (hx1.trans hx2);have y2:Ext W w2:=hx1.trans hx2;have F2:Fr W.heap.size a2:=hf2.mono hx1.size;by_cases h0:n=0
 .subst h0
  have eq0:mkRat (bf s 0) m=0:=by rw [qO,Rat.zero_mkRat]
  have EQ0:=af eq0;clear eq0
  have es:decide (bf s 0<0)=false:=by rw [qO];rfl
  go_wp2
  refine bodyPost_ret (v:= .agg #[.bool false,.slice none 0 0,.slice (some ⟨w2.heap.size,0,none⟩) 1 1]) (by simp [results,results106,go_sem, *]) rfl ?_;rw [EQ0.o];refine ⟨none,0,some ⟨w2.heap.size,0,none⟩,1,by rw [show(0:Rat).den=1 from rfl,ze];rfl,Raw.nil _,Fr.none _,?_,Fr.some (x0.trans y2).size,?_⟩
  .rw [show(0:Rat).den=1 from rfl,ze]
   have:=yJ (((((w2.setCell ⟨w.heap.size,0,none⟩ (.bool false)).setCell ⟨w.heap.size,1,none⟩ (.slice a1 (len 0) c1)).setCell ⟨w.heap.size+1,0,none⟩ (.bool false)).setCell ⟨w.heap.size+1,1,none⟩ (.slice none 0 0)).setCell ⟨w.heap.size+1,2,none⟩ (.slice (some ⟨w2.heap.size,0,none⟩) 1 1));simpa using this
  .refine Ext.alloc (Ext.setCell (Ext.setCell (Ext.setCell (Ext.setCell (Ext.setCell (x0.trans y2) ?_ _) ?_ _) ?_ _) ?_ _) ?_ _) _<;>simp
 .have rY:(((len n:Nat):Int)==0)=false:=by rw [beq_eq_false_iff_ne];have:=iy.2 (Nat.pos_of_ne_zero h0);omega
  go_wp2_with fail
  obtain ⟨w3,hw3⟩: ∃w3,w3=((w2.setCell ⟨w.heap.size,0,none⟩ (.bool (decide (bf s n<0)))).setCell ⟨w.heap.size,1,none⟩ (.slice a1 (len n) c1)):=⟨_,rfl⟩;rw [<-hw3];have T3:Touch w.heap.size W.heap.size w2 w3:=by rw [hw3];exact Touch.two _ cG (by rw [Z0.o];omega) _ _
  have B0:aY w3 w.heap.size 61 [.bool (decide (bf s n<0)),.slice a1 (len n) c1]:=by rw [hw3];exact ((A0.ext y2).set 0 _).set 1 _
  have B1:aY w3 (w.heap.size+1) 63 [.bool false,.slice none 0 0,.slice none 0 0]:=by rw [hw3];exact ((A1.ext y2).other _ _ aX).other _ _ aX
  have E3:Ext w w3:=x0.bH y2 T3;have S3:W.heap.size<=w3.heap.size:=by rw [T3.size];exact y2.size
  clear hw3 A0 A1 aD aF aJ aK bM aM aN aR aS bT z0 z1;have r1:=(hr1.ext hx2).bH T3 jw.o;have r2:=hr2.bH T3 F2.o;obtain ⟨G,hG⟩: ∃G,G=Nat.gcd n m:=⟨_,rfl⟩;have Xk:0<G:=by rw [hG];exact Nat.gcd_pos_of_pos_right _ hm
  have q1:(mkRat (bf s n) m).num.natAbs=n/G:=by rw [iC _ _ hm,bL,hG,Nat.gcd_comm]
  have q2:(mkRat (bf s n) m).den=m/G:=by rw [nh _ _ hm,bL,hG,Nat.gcd_comm]
  have q3:=lN (bf s n) m hm;generalize hQ:mkRat (bf s n) m=Q at*;have Q1:=af q1;have Q2:=af q2;have Q3:=af q3;have HQ:=af hQ
  clear q1 q2 q3 hQ;refine (QN _ _ _ _ _ _ _ _ _ r1 r2 b1 b2).mono ?_;rw [<-hG];have HG:=af hG;clear hG
  rintro e w4 ⟨a4,c4,rfl,hr4,J4,gW⟩;have F4:Fr W.heap.size a4:=J4.mono S3;have lG:=iy.2 Xk;have i0:=aC B0 gW;have l0:=aA B1 gW;have i4:=(B0.ext gW).lt;have l6:=(B1.ext gW).lt;by_cases hG1:G=1
  .subst hG1
   have e1:Q.num.natAbs=n:=by rw [Q1.o,Nat.div_one]
   have e2:Q.den=m:=by rw [Q2.o,Nat.div_one]
   have R1:=af e1;have R2:=af e2;clear e1 e2
   obtain ⟨l,hl,hv,hL⟩:=hr4;rw [ze]at hl;obtain ⟨pb,ob,rfl⟩:=hL.at ae;have hc:=hL.cellAt 0 ae
   have e0:limb l 0=1:=by
    match l,hl with
    | [x],_=>simpa [limb,val]using hv
   rw [e0,Nat.add_zero]at hc;rw [ze];clear hl hv e0;go_wp2
   exact bodyPost_ret (by simp [results,results106,go_sem, *]) rfl (bD.of2 R1.o R2.o Q3.o ((r1.ext gW).bH (Touch.three (lo:=w.heap.size) (hi:=W.heap.size) _ ae (by rw [Z0.o];omega) _ _ _) jw.o) (jw.mono x0.size) ((r2.ext gW).bH (Touch.three (lo:=w.heap.size) (hi:=W.heap.size) _ ae (by rw [Z0.o];omega) _ _ _) F2.o) (F2.mono x0.size) (Ext.tT (E3.trans gW) aX _ _ _))
  .have go: ∀(abt:True),True:=λ_=>trivial
   by_cases BS:len G=1
   .have abu:(((len G:Nat):Int) !=1)=false:=by rw [BS];rfl
    obtain ⟨l,hl,hv,hL⟩:=id hr4;obtain ⟨pb,ob,rfl⟩:=hL.at ae;have hc:=hL.cellAt 0 ae
    have e0:limb l 0=G:=by
     rw [BS]at hl;match l,hl with
     | [x],_=>simpa [limb,val]using hv
    rw [e0,Nat.add_zero]at hc;have hg1:(((G:Nat):Int) !=1)=true:=by rw [bne_iff_ne];omega
    have h0l:(0:Int)<(len G:Int):=ae;have HL1:=af BS;clear hl hv e0 BS
    go_wp2_with fail
    refine (ke _ _ _ _ _ _ _ _ _ (r1.ext gW) hr4 Xk ae).mono ?_;rintro e w5 ⟨a5,c5,a6,c6,rfl,BZ,Qh,C_,SD,gl⟩;have F5:Fr W.heap.size a5:=Qh.mono (Nat.le_trans S3 gW.size);have C0:=(B0.ext gW).ext gl;have C1:=(B1.ext gW).ext gl;have i0:=aC C0 ah;have i4:=C0.lt;go_wp2_with fail
    obtain ⟨w6,Bh⟩: ∃w6,w6=w5.setCell ⟨w.heap.size,1,none⟩ (.slice a5 (len (n/G)) c5):=⟨_,rfl⟩;rw [<-Bh];have T6:Touch w.heap.size W.heap.size w5 w6:=by rw [Bh];exact Touch.one _ cG (by rw [Z0.o];omega) _ _
    have D0:aY w6 w.heap.size 61 [.bool (decide (bf s n<0)),.slice a5 (len (n/G)) c5]:=by rw [Bh];exact C0.set 1 _
    have D1:aY w6 (w.heap.size+1) 63 [.bool false,.slice none 0 0,.slice none 0 0]:=by rw [Bh];exact C1.other _ _ aX
    have E6:Ext w w6:=by rw [Bh];exact ((E3.trans gW).trans gl).setCell cG _
    have S6:W.heap.size<=w6.heap.size:=by rw [T6.size];exact Nat.le_trans S3 (gW.trans gl).size
    clear Bh;refine (ke _ _ _ _ _ _ _ _ _ (((r2.ext gW).ext gl).bH T6 F2.o) ((hr4.ext gl).bH T6 F4.o) Xk ae).mono ?_;rintro e w7 ⟨a7,c7,a8,c8,rfl,Ud,ZR,J6,Wj,tU⟩;have F7:Fr W.heap.size a7:=ZR.mono S6;have i0:=aC D0 tU;have l0:=aA D1 tU;have i4:=(D0.ext tU).lt;have l6:=(D1.ext tU).lt;go_wp2
    exact bodyPost_ret (by simp [results,results106,go_sem, *]) rfl (bD.of2 Q1.o Q2.o Q3.o (((BZ.bH T6 F5.o).ext tU).bH (Touch.three (lo:=w.heap.size) (hi:=W.heap.size) _ ae (by rw [Z0.o];omega) _ _ _) F5.o) (F5.mono x0.size) (Ud.bH (Touch.three (lo:=w.heap.size) (hi:=W.heap.size) _ ae (by rw [Z0.o];omega) _ _ _) F7.o) (F7.mono x0.size) (Ext.tT (E6.trans tU) aX _ _ _))
   .have abu:(((len G:Nat):Int) !=1)=true:=by rw [bne_iff_ne];omega
    go_wp2_with fail
    refine (ke _ _ _ _ _ _ _ _ _ (r1.ext gW) hr4 Xk ae).mono ?_;rintro e w5 ⟨a5,c5,a6,c6,rfl,BZ,Qh,C_,SD,gl⟩;have F5:Fr W.heap.size a5:=Qh.mono (Nat.le_trans S3 gW.size);have C0:=(B0.ext gW).ext gl;have C1:=(B1.ext gW).ext gl;have i0:=aC C0 ah;have i4:=C0.lt;go_wp2_with fail
    obtain ⟨w6,Bh⟩: ∃w6,w6=w5.setCell ⟨w.heap.size,1,none⟩ (.slice a5 (len (n/G)) c5):=⟨_,rfl⟩;rw [<-Bh];have T6:Touch w.heap.size W.heap.size w5 w6:=by rw [Bh];exact Touch.one _ cG (by rw [Z0.o];omega) _ _
    have D0:aY w6 w.heap.size 61 [.bool (decide (bf s n<0)),.slice a5 (len (n/G)) c5]:=by rw [Bh];exact C0.set 1 _
    have D1:aY w6 (w.heap.size+1) 63 [.bool false,.slice none 0 0,.slice none 0 0]:=by rw [Bh];exact C1.other _ _ aX
    have E6:Ext w w6:=by rw [Bh];exact ((E3.trans gW).trans gl).setCell cG _
    have S6:W.heap.size<=w6.heap.size:=by rw [T6.size];exact Nat.le_trans S3 (gW.trans gl).size
    clear Bh;refine (ke _ _ _ _ _ _ _ _ _ (((r2.ext gW).ext gl).bH T6 F2.o) ((hr4.ext gl).bH T6 F4.o) Xk ae).mono ?_;rintro e w7 ⟨a7,c7,a8,c8,rfl,Ud,ZR,J6,Wj,tU⟩;have F7:Fr W.heap.size a7:=ZR.mono S6;have i0:=aC D0 tU;have l0:=aA D1 tU;have i4:=(D0.ext tU).lt;have l6:=(D1.ext tU).lt;go_wp2
    exact bodyPost_ret (by simp [results,results106,go_sem, *]) rfl (bD.of2 Q1.o Q2.o Q3.o (((BZ.bH T6 F5.o).ext tU).bH (Touch.three (lo:=w.heap.size) (hi:=W.heap.size) _ ae (by rw [Z0.o];omega) _ _ _) F5.o) (F5.mono x0.size) (Ud.bH (Touch.three (lo:=w.heap.size) (hi:=W.heap.size) _ ae (by rw [Z0.o];omega) _ _ _) F7.o) (F7.mono x0.size) (Ext.tT (E6.trans tU) aX _ _ _))
theorem zo (w:World) (s:Bool) (a b:Option Addr) (k c j d n m:Nat) (h:Raw w a k c n) (g:Raw w b j d m) (hn:n<2147483648) (hm:m<2147483648):
 Calls prog 101 #[.agg #[.bool s,.slice a k c,.slice b j d]] w (bD (mkRat (bf s n) m) w):=by
 have HN:=af hn;have HM:=af hm;clear hn hm
 go_enter func101,ntmps101
 go_wp2_with fail
 obtain ⟨W,hW,x0,Z0,A0,A1⟩:=dV w 63 [.bool s,.slice a k c,.slice b j d] 63 [.bool false,.slice none 0 0,.slice none 0 0];rw [<-hW];clear hW;obtain ⟨z0,z1,⟨aD,aF,bn,aM,aN,bG⟩,aJ,aK,bM,aR,aS,bT⟩:=bb2 aA aA A0 A1 ah;refine (jd _ _ _ _ _ _ _ _ _ _ (h.ext x0) (g.ext x0) HN.o HM.o).mono ?_;rintro e w1 ⟨x,y,rfl,hx1,hx2,hy1,hy2,qH,hx⟩;have Ue:=af qH;clear qH
 obtain ⟨z0,z1,⟨aD,aF,bn,aM,aN,bG⟩,aJ,aK,bM,aR,aS,bT⟩:=bb2 aA aA A0 A1 hx;go_wp2_with fail
 refine (pH _ _ _ ae ae hy1 ae).mono ?_;intro e wz hN;rw [Ue.o]at hN;obtain ⟨az,cz,J7,J8,rfl,AZ,qG,tV,xY,w_⟩:=id hN;obtain ⟨z0,z1,⟨aD,aF,bn,aM,aN,bG⟩,aJ,aK,bM,aR,aS,bT⟩:=bb2 aA aA A0 A1 (hx.trans w_);go_wp2
 exact bodyPost_ret (by simp [results,results101,go_sem, *]) rfl (bD.bH (hN.base hx) x0 (Touch.three _ ae (by rw [Z0.o];omega) _ _ _))
theorem zq (w:World) (s:Bool) (a b:Option Addr) (k c j d n m:Nat) (h:Raw w a k c n) (g:Raw w b j d m) (b1:len n<100000000) (b2:len m<100000000):
 Calls prog 101 #[.agg #[.bool s,.slice a k c,.slice b j d]] w (bD (mkRat (bf s n) m) w):=by
 by_cases hsm:n<2147483648/\m<2147483648
 .exact zo w _ _ _ _ _ _ _ _ _ h g hsm.1 hsm.2
 .have HS:=af hsm;clear hsm
  go_enter func101,ntmps101
  go_wp2_with fail
  obtain ⟨W,hW,x0,Z0,A0,A1⟩:=dV w 63 [.bool s,.slice a k c,.slice b j d] 63 [.bool false,.slice none 0 0,.slice none 0 0];rw [<-hW];clear hW;obtain ⟨z0,z1,⟨aD,aF,bn,aM,aN,bG⟩,aJ,aK,bM,aR,aS,bT⟩:=bb2 aA aA A0 A1 ah;refine (jJ _ _ _ _ _ _ _ _ _ _ (h.ext x0) (g.ext x0) HS.o).mono ?_;rintro e w1 ⟨rfl,hx⟩;obtain ⟨z0,z1,⟨aD,aF,bn,aM,aN,bG⟩,aJ,aK,bM,aR,aS,bT⟩:=bb2 aA aA A0 A1 hx;go_wp2_with fail
  refine (gU _ _ _ _ _ _ _ _ _ _ ((h.ext x0).ext hx) ((g.ext x0).ext hx)).mono ?_;rintro e w2 ⟨s1,a1,k1,c1,n1,e1,j1,d1,m1,rfl,h1,g1,qN,hv,l1,l2,hx2⟩;have HV:=af hv;clear hv
  obtain ⟨z0,z1,⟨aD,aF,bn,aM,aN,bG⟩,aJ,aK,bM,aR,aS,bT⟩:=bb2 aA aA A0 A1 (hx.trans hx2);go_wp2_with fail
  refine (lg _ _ _ _ _ _ _ _ _ _ h1 g1 qN ae ae).mono ?_;intro e wz hN;rw [HV.o]at hN;obtain ⟨az,cz,J7,J8,rfl,AZ,qG,tV,xY,w_⟩:=id hN;obtain ⟨z0,z1,⟨aD,aF,bn,aM,aN,bG⟩,aJ,aK,bM,aR,aS,bT⟩:=bb2 aA aA A0 A1 ((hx.trans hx2).trans w_);go_wp2
  exact bodyPost_ret (by simp [results,results101,go_sem, *]) rfl (bD.bH (hN.base (hx.trans hx2)) x0 (Touch.three _ ae (by rw [Z0.o];omega) _ _ _))
theorem ko (w:World) (v:Int) (h1: -9223372036854775808<=v) (h2:v<=9223372036854775807):
 Calls prog 48 #[.int .i64 v] w (bD (v:Rat) w):=by
 go_enter func48,ntmps48
 go_wp2_with fail
 obtain ⟨W,hW,x0,Z0,A0⟩:=bS w 63 [.bool false,.slice none 0 0,.slice none 0 0];rw [<-hW];clear hW;obtain ⟨z0,aD,aF,bn,aM,aN,bG⟩:=bb1 aA A0 ah;refine (Fh _ _ h1 h2).mono ?_;rintro e w1 ⟨a1,c1,rfl,hr1,jw,hx1⟩;obtain ⟨z0,aD,aF,bn,aM,aN,bG⟩:=bb1 aA A0 hx1;go_wp2
 refine bodyPost_ret (v:= .agg #[.bool (decide (v<0)),.slice a1 (len v.natAbs) c1,.slice (some ⟨w1.heap.size,0,none⟩) 1 1]) (by simp [results,results48,go_sem, *]) rfl ?_;have R:=yJ (((w1.setCell ⟨w.heap.size,0,none⟩ (.bool (decide (v<0)))).setCell ⟨w.heap.size,1,none⟩ (.slice a1 (len v.natAbs) c1)).setCell ⟨w.heap.size,2,none⟩ (.slice (some ⟨w1.heap.size,0,none⟩) 1 1));have E:=Ext.tT (x0.trans hx1) (Nat.le_refl w.heap.size) (.bool (decide (v<0))) (.slice a1 (len v.natAbs) c1) (.slice (some ⟨w1.heap.size,0,none⟩) 1 1);refine ⟨a1,c1,some ⟨w1.heap.size,0,none⟩,1,?_,?_,jw.mono x0.size,?_,Fr.some (x0.trans hx1).size,E.alloc _⟩
 .rw [Rat.num_intCast,Rat.den_intCast,ze]
 .rw [Rat.num_intCast]
  exact (hr1.bH (Touch.three (lo:=w.heap.size) (hi:=W.heap.size) _ cG (by rw [Z0.o];omega) _ _ _) jw.o).ext (ah.alloc _)
 .rw [Rat.den_intCast,ze];simpa using R
theorem zt (x:Int) (y:Nat) (h:0<y):(mkRat x y).num.sign=x.sign:=by
 have hg:(0:Int)<(Nat.gcd y x.natAbs:Nat):=dB (Nat.gcd_pos_of_pos_left x.natAbs h);have hd:((Nat.gcd y x.natAbs:Nat):Int)∣x:=Int.ofNat_dvd_left.2 (Nat.gcd_dvd_right _ _);rw [Rat.num_mkRat,if_neg ae];obtain ⟨z,hz⟩:=hd;generalize ((Nat.gcd y x.natAbs:Nat):Int)=G at*;subst hz;rw [Int.mul_ediv_cancel_left _ ae,Int.sign_mul,Int.sign_eq_one_of_pos hg,Int.one_mul]
theorem fP (w:World) (s:Bool) (a b:Option Addr) (k c j d n m:Nat) (h:Raw w a k c n) (g:Raw w b j d m):
 Calls prog 100 #[.agg #[.bool s,.slice a k c,.slice b j d]] w λe w'=>e= .returned (.int .i64 (mkRat (bf s n) m).num.sign)/\Ext w w':=by
 go_enter func100,ntmps100
 go_wp2_with fail
 obtain ⟨W,hW,x0,Z0,A0⟩:=bS w 63 [.bool s,.slice a k c,.slice b j d];rw [<-hW];clear hW;obtain ⟨z0,aD,aF,bn,aM,aN,bG⟩:=bb1 aA A0 ah;refine (gU _ _ _ _ _ _ _ _ _ _ (h.ext x0) (g.ext x0)).mono ?_;rintro e w1 ⟨s1,a1,k1,c1,n1,e1,j1,d1,m1,rfl,h1,g1,qN,hv,l1,l2,hx1⟩;have HV:=af hv;clear hv
 go_wp2_with fail
 refine (kF _ _ _ _ _ _ (h1.ext (ah.alloc _))).mono ?_;rintro e w2 ⟨rfl,hx2⟩;go_wp2
 go_ret;exact ⟨cL (by rw [<-HV.o,zt _ _ qN]),((x0.trans hx1).alloc _).trans hx2⟩
theorem Raw.Iu {w1 w:World} {a:Option Addr} {k c n:Nat} (h:Raw w1 a k c n) (h2:Raw w a k c n) (p:Addr) (v:Value) (hp:w1.heap.size<=p.block):Raw (w.setCell p v) a k c n:=by
 obtain ⟨l,e1,e2,hl⟩:=h2;obtain ⟨l',ZQ,_,hl'⟩:=h;refine ⟨l,e1,e2,hl.le,hl.cap,hl.short,hl.Ni,hl.small,λi hi=> ?_⟩;obtain ⟨b,o,ha,hc⟩:=hl.cell i hi;obtain ⟨b',o',ha',hc'⟩:=hl'.cell i ae;refine ⟨b,o,ha,?_⟩;rw [ha]at ha';cases ha'
 have:=eH hc';rw [World.cell?_setCell_other _ _ _ _ (by intro e;rw [e]at hp;simp only at this hp;omega)];exact hc
theorem dJ (z:Int):bf (decide (z<0)) z.natAbs=z:=by
 unfold bf;by_cases h:z<0<;>simp [h]<;>omega
theorem oP {x1 x2:Int} (h1: -2147483648<x1) (h2:x1<2147483648) (h3: -2147483648<x2) (h4:x2<2147483648): -4611686018427387904<=x1*x2/\x1*x2<=4611686018427387904:=by
 have e:(x1*x2).natAbs<=2147483648*2147483648:=by rw [Int.natAbs_mul];exact Nat.mul_le_mul ae ae
 omega
theorem tB {y1 y2:Nat} (h1:0<y1) (h2:y1<2147483648) (h3:0<y2) (h4:y2<2147483648):0<y1*y2/\y1*y2<=4611686018427387904:=by
 have e:y1*y2<=2147483648*2147483648:=Nat.mul_le_mul ae ae;exact ⟨Nat.mul_pos h1 h3,ae⟩
theorem gX (n m:Nat):len (n*m)<=len n+len m:=by
 rw [cg,Nat.pow_add];exact Nat.mul_lt_mul'' (js n) (js m)
theorem QR (n m:Nat):len (n+m)<=max (len n) (len m)+1:=by
 rw [cg,Nat.pow_succ];have h1:n<4294967296^(max (len n) (len m)):=cg.1 (Nat.le_max_left _ _);have h2:m<4294967296^(max (len n) (len m)):=cg.1 (Nat.le_max_right _ _);omega
theorem De (w:World) (s:Bool) (a b:Option Addr) (k c j d n m:Nat) (h:Raw w a k c n) (g:Raw w b j d m) (b1:len n<100000000) (b2:len m<100000000):
 Calls prog 63 #[.agg #[.bool s,.slice a k c,.slice b j d]] w (bD (-(mkRat (bf s n) m)) w):=by
 generalize hq:mkRat (bf s n) m=q;go_enter func63,ntmps63
 go_wp2_with fail
 obtain ⟨W,hW,x0,Z0,A0,A1⟩:=dV w 63 [.bool s,.slice a k c,.slice b j d] 63 [.bool false,.slice none 0 0,.slice none 0 0];rw [<-hW];clear hW;obtain ⟨z0,z1,⟨aD,aF,bn,aM,aN,bG⟩,aJ,aK,bM,aR,aS,bT⟩:=bb2 aA aA A0 A1 ah;refine (zq _ _ _ _ _ _ _ _ _ _ (h.ext x0) (g.ext x0) b1 b2).mono ?_;rw [hq];rintro e w1 ⟨a1,c1,a2,c2,rfl,hr1,jw,hr2,hf2,hx1⟩;obtain ⟨z0,z1,⟨aD,aF,bn,aM,aN,bG⟩,aJ,aK,bM,aR,aS,bT⟩:=bb2 aA aA A0 A1 hx1;have P1:=aY.alloc w1 63 [.bool (decide (q.num<0)),.slice a1 (len q.num.natAbs) c1,.slice a2 (len q.den) c2];go_wp2_with fail
 refine (QO _ _ _ _ _ _ (hr1.ext (ah.alloc _))).mono ?_;rw [dJ];rintro e w2 ⟨a3,c3,rfl,hr3,hf3,hx2⟩;obtain ⟨pz,p0,p1,p2,p3,p4,p5⟩:=bb1 aA P1 hx2;obtain ⟨z0,z1,⟨aD,aF,bn,aM,aN,bG⟩,aJ,aK,bM,aR,aS,bT⟩:=bb2 aA aA A0 A1 ((hx1.alloc _).trans hx2);go_wp2
 have E:Ext w w2:=x0.trans ((hx1.alloc _).trans hx2);refine bodyPost_ret (v:= .agg #[.bool (decide ((-q).num<0)),.slice a3 (len (-q).num.natAbs) c3,.slice a2 (len (-q).den) c2]) (by simp [results,results63,go_sem, *]) rfl ?_;refine ⟨a3,c3,a2,c2,rfl,?_,hf3.mono (by have:=(x0.trans hx1).size;simp;omega),?_,hf2.mono x0.size,?_⟩
 .refine Raw.setCell (Raw.setCell (Raw.setCell (Raw.setCell (Raw.setCell hr3 _ _ ?_) _ _ ?_) _ _ ?_) _ _ ?_) _ _ ?_<;>(refine hf3.ne ?_;simp;try omega)
 .have d1:=(hr2.ext (ah.alloc _)).ext hx2
  have d2:=hr2.Iu d1 ⟨w1.heap.size,0,none⟩ (.bool (decide (0<q.num))) cG;have d3:=hr2.Iu d2 ⟨w1.heap.size,1,none⟩ (.slice a3 (len q.num.natAbs) c3) cG;exact d3.bH (Touch.three (lo:=w.heap.size) (hi:=W.heap.size) _ ae (by rw [Z0.o];omega) _ _ _) hf2.o
 .exact Ext.tT (Ext.lY E (dB ((x0.trans hx1).size)) _ _) ae _ _ _
theorem Bi (w:World) (s:Bool) (a b:Option Addr) (k c j d n m:Nat) (h:Raw w a k c n) (g:Raw w b j d m) (s':Bool) (a' b':Option Addr) (k' c' j' d' n' m':Nat) (h':Raw w a' k' c' n') (g':Raw w b' j' d' m') (hn:n<2147483648) (hm:m<2147483648) (yE:n'<2147483648) (NK:m'<2147483648):
 Calls prog 45 #[.agg #[.bool s,.slice a k c,.slice b j d],.agg #[.bool s',.slice a' k' c',.slice b' j' d']] w (bD (mkRat (bf s n) m*mkRat (bf s' n') m') w):=by
 have HN:=af hn;have HM:=af hm;have Uf:=af yE;have ZT:=af NK;clear hn hm yE NK
 go_enter func45,ntmps45
 go_wp2_with fail
 obtain ⟨W,hW,x0,Z0,A0,A1,A2⟩:=et w 63 [.bool s,.slice a k c,.slice b j d] 63 [.bool s',.slice a' k' c',.slice b' j' d'] 63 [.bool false,.slice none 0 0,.slice none 0 0];rw [<-hW];clear hW;obtain ⟨z0,z1,z2,⟨aD,aF,bn,aM,aN,bG⟩,⟨aJ,aK,bM,aR,aS,bT⟩,aZ,a_,bW,bA,bB,cf⟩:=bb3 aA aA aA A0 A1 A2 ah;refine (jd _ _ _ _ _ _ _ _ _ _ (h.ext x0) (g.ext x0) HN.o HM.o).mono ?_;rintro e w1 ⟨x,y,rfl,hx1,hx2,hy1,hy2,qH,hx⟩;have Ue:=af qH;clear qH
 obtain ⟨z0,z1,z2,⟨aD,aF,bn,aM,aN,bG⟩,⟨aJ,aK,bM,aR,aS,bT⟩,aZ,a_,bW,bA,bB,cf⟩:=bb3 aA aA aA A0 A1 A2 hx;go_wp2_with fail
 refine (jd _ _ _ _ _ _ _ _ _ _ ((h'.ext x0).ext hx) ((g'.ext x0).ext hx) Uf.o ZT.o).mono ?_;rintro e w2 ⟨x',y',rfl,abx,aby,abz,abA,Bc,xR⟩;have N3:=af Bc;clear Bc
 obtain ⟨z0,z1,z2,⟨aD,aF,bn,aM,aN,bG⟩,⟨aJ,aK,bM,aR,aS,bT⟩,aZ,a_,bW,bA,bB,cf⟩:=bb3 aA aA aA A0 A1 A2 (hx.trans xR);obtain ⟨m1,m2⟩:=oP hx1 hx2 abx aby;obtain ⟨m3,m4⟩:=tB hy1 hy2 abz abA;have m3':0<(y:Int)*(y':Int):=by rw [<-Int.natCast_mul];omega
 have m4':(y:Int)*(y':Int)<=4611686018427387904:=by rw [<-Int.natCast_mul];omega
 go_wp2_with fail
 rw [<-Int.natCast_mul];refine (pH _ _ _ ae ae m3 ae).mono ?_;intro e wz hN;rw [<-Rat.mkRat_mul_mkRat,Ue.o,N3.o]at hN;obtain ⟨az,cz,J7,J8,rfl,AZ,qG,tV,xY,w_⟩:=id hN;obtain ⟨z0,z1,z2,⟨aD,aF,bn,aM,aN,bG⟩,⟨aJ,aK,bM,aR,aS,bT⟩,aZ,a_,bW,bA,bB,cf⟩:=bb3 aA aA aA A0 A1 A2 ((hx.trans xR).trans w_);go_wp2
 exact bodyPost_ret (by simp [results,results45,go_sem, *]) rfl (bD.bH (hN.base (hx.trans xR)) x0 (Touch.three _ ae (by rw [Z0.o];omega) _ _ _))
theorem Bj (w:World) (s:Bool) (a b:Option Addr) (k c j d n m:Nat) (h:Raw w a k c n) (g:Raw w b j d m) (s':Bool) (a' b':Option Addr) (k' c' j' d' n' m':Nat) (h':Raw w a' k' c' n') (g':Raw w b' j' d' m') (b1:len n<100000000) (b2:len m<100000000) (rZ:len n'<100000000) (rW:len m'<100000000) (hl: ¬((n<2147483648/\m<2147483648)/\(n'<2147483648/\m'<2147483648))):
 Calls prog 45 #[.agg #[.bool s,.slice a k c,.slice b j d],.agg #[.bool s',.slice a' k' c',.slice b' j' d']] w (bD (mkRat (bf s n) m*mkRat (bf s' n') m') w):=by
 by_cases ha:n<2147483648/\m<2147483648
 .have hb: ¬(n'<2147483648/\m'<2147483648):=λh=>hl ⟨ha,h⟩
  have HA:=af ha;have HB:=af hb;clear ha hb hl
  go_enter func45,ntmps45
  go_wp2_with fail
  obtain ⟨W,hW,x0,Z0,A0,A1,A2⟩:=et w 63 [.bool s,.slice a k c,.slice b j d] 63 [.bool s',.slice a' k' c',.slice b' j' d'] 63 [.bool false,.slice none 0 0,.slice none 0 0];rw [<-hW];clear hW;obtain ⟨z0,z1,z2,⟨aD,aF,bn,aM,aN,bG⟩,⟨aJ,aK,bM,aR,aS,bT⟩,aZ,a_,bW,bA,bB,cf⟩:=bb3 aA aA aA A0 A1 A2 ah;refine (jd _ _ _ _ _ _ _ _ _ _ (h.ext x0) (g.ext x0) HA.o.1 HA.o.2).mono ?_;rintro e w1 ⟨x,y,rfl,_,_,_,_,_,hx⟩;obtain ⟨z0,z1,z2,⟨aD,aF,bn,aM,aN,bG⟩,⟨aJ,aK,bM,aR,aS,bT⟩,aZ,a_,bW,bA,bB,cf⟩:=bb3 aA aA aA A0 A1 A2 hx;go_wp2_with fail
  refine (jJ _ _ _ _ _ _ _ _ _ _ ((h'.ext x0).ext hx) ((g'.ext x0).ext hx) HB.o).mono ?_;rintro e w2 ⟨rfl,xR⟩;have y2:Ext W w2:=hx.trans xR;obtain ⟨z0,z1,z2,⟨aD,aF,bn,aM,aN,bG⟩,⟨aJ,aK,bM,aR,aS,bT⟩,aZ,a_,bW,bA,bB,cf⟩:=bb3 aA aA aA A0 A1 A2 y2;go_wp2_with fail
  refine (gU _ _ _ _ _ _ _ _ _ _ ((h.ext x0).ext y2) ((g.ext x0).ext y2)).mono ?_;rintro e w3 ⟨s1,a1,k1,c1,n1,e1,j1,d1,m1,rfl,h1,g1,qN,hv,l1,l2,hx3⟩;have HV:=af hv;clear hv
  have y3:Ext W w3:=y2.trans hx3;obtain ⟨z0,z1,z2,⟨aD,aF,bn,aM,aN,bG⟩,⟨aJ,aK,bM,aR,aS,bT⟩,aZ,a_,bW,bA,bB,cf⟩:=bb3 aA aA aA A0 A1 A2 y3;have P3:=aY.alloc w3 61 [.bool s1,.slice a1 k1 c1];have N4:=y3.alloc (.cells #[.bool s1,.slice a1 k1 c1] 61);go_wp2_with fail
  refine (gU _ _ _ _ _ _ _ _ _ _ ((h'.ext x0).ext N4) ((g'.ext x0).ext N4)).mono ?_;rintro e w4 ⟨s2,a2,k2,c2,n2,e2,j2,d2,m2,rfl,h2,g2,J0,hv2,l3,l4,gW⟩;have J1:=af hv2;clear hv2
  have y4:Ext W w4:=N4.trans gW;obtain ⟨z0,z1,z2,⟨aD,aF,bn,aM,aN,bG⟩,⟨aJ,aK,bM,aR,aS,bT⟩,aZ,a_,bW,bA,bB,cf⟩:=bb3 aA aA aA A0 A1 A2 y4;obtain ⟨pz,p0,p1,p2,p3⟩:=bb1 aC P3 gW;have Q4:=aY.alloc w4 61 [.bool s2,.slice a2 k2 c2];have Xl:=y4.alloc (.cells #[.bool s2,.slice a2 k2 c2] 61);have v4:=((Ext.refl w3).alloc (.cells #[.bool s1,.slice a1 k1 c1] 61)).trans (gW.alloc (.cells #[.bool s2,.slice a2 k2 c2] 61));have u4:=(Ext.refl w4).alloc (.cells #[.bool s2,.slice a2 k2 c2] 61);go_wp2_with fail
  refine (pG _ _ _ _ _ _ _ _ _ _ _ (h1.ext v4) (h2.ext u4) ae ae).mono ?_;rintro e w5 ⟨a5,c5,rfl,BZ,Qh,gl⟩;have y5:Ext W w5:=Xl.trans gl;obtain ⟨z0,z1,z2,⟨aD,aF,bn,aM,aN,bG⟩,⟨aJ,aK,bM,aR,aS,bT⟩,aZ,a_,bW,bA,bB,cf⟩:=bb3 aA aA aA A0 A1 A2 y5;go_wp2_with fail
  refine (pD _ _ _ _ _ _ _ _ _ ((g1.ext v4).ext gl) ((g2.ext u4).ext gl) ae ae).mono ?_;rintro e w6 ⟨a6,c6,rfl,C_,SD,kZ⟩;have y6:Ext W w6:=y5.trans kZ;obtain ⟨z0,z1,z2,⟨aD,aF,bn,aM,aN,bG⟩,⟨aJ,aK,bM,aR,aS,bT⟩,aZ,a_,bW,bA,bB,cf⟩:=bb3 aA aA aA A0 A1 A2 y6;have Xm:len (bf s1 n1*bf s2 n2).natAbs<=len n1+len n2:=by rw [Int.natAbs_mul,bL,bL];exact gX _ _
  have ZU:=gX m1 m2;go_wp2_with fail
  refine (lg _ _ _ _ _ _ _ _ _ _ (BZ.ext kZ) C_ (Nat.mul_pos qN J0) ae ae).mono ?_;intro e wz hN;rw [dJ,<-Rat.mkRat_mul_mkRat,HV.o,J1.o]at hN;obtain ⟨az,cz,J7,J8,rfl,AZ,qG,tV,xY,w_⟩:=id hN;obtain ⟨z0,z1,z2,⟨aD,aF,bn,aM,aN,bG⟩,⟨aJ,aK,bM,aR,aS,bT⟩,aZ,a_,bW,bA,bB,cf⟩:=bb3 aA aA aA A0 A1 A2 (y6.trans w_);go_wp2
  exact bodyPost_ret (by simp [results,results45,go_sem, *]) rfl (bD.bH (hN.base y6) x0 (Touch.three _ ae (by rw [Z0.o];omega) _ _ _))
 .by_cases hb:n'<2147483648/\m'<2147483648
  .have HA:=af ha;have HB:=af hb;clear ha hb hl
   go_enter func45,ntmps45
   go_wp2_with fail
   obtain ⟨W,hW,x0,Z0,A0,A1,A2⟩:=et w 63 [.bool s,.slice a k c,.slice b j d] 63 [.bool s',.slice a' k' c',.slice b' j' d'] 63 [.bool false,.slice none 0 0,.slice none 0 0];rw [<-hW];clear hW;obtain ⟨z0,z1,z2,⟨aD,aF,bn,aM,aN,bG⟩,⟨aJ,aK,bM,aR,aS,bT⟩,aZ,a_,bW,bA,bB,cf⟩:=bb3 aA aA aA A0 A1 A2 ah;refine (jJ _ _ _ _ _ _ _ _ _ _ (h.ext x0) (g.ext x0) HA.o).mono ?_;rintro e w1 ⟨rfl,hx⟩;obtain ⟨z0,z1,z2,⟨aD,aF,bn,aM,aN,bG⟩,⟨aJ,aK,bM,aR,aS,bT⟩,aZ,a_,bW,bA,bB,cf⟩:=bb3 aA aA aA A0 A1 A2 hx;go_wp2_with fail
   refine (jd _ _ _ _ _ _ _ _ _ _ ((h'.ext x0).ext hx) ((g'.ext x0).ext hx) HB.o.1 HB.o.2).mono ?_;rintro e w2 ⟨x',y',rfl,_,_,_,_,_,xR⟩;have y2:Ext W w2:=hx.trans xR;obtain ⟨z0,z1,z2,⟨aD,aF,bn,aM,aN,bG⟩,⟨aJ,aK,bM,aR,aS,bT⟩,aZ,a_,bW,bA,bB,cf⟩:=bb3 aA aA aA A0 A1 A2 y2;go_wp2_with fail
   refine (gU _ _ _ _ _ _ _ _ _ _ ((h.ext x0).ext y2) ((g.ext x0).ext y2)).mono ?_;rintro e w3 ⟨s1,a1,k1,c1,n1,e1,j1,d1,m1,rfl,h1,g1,qN,hv,l1,l2,hx3⟩;have HV:=af hv;clear hv
   have y3:Ext W w3:=y2.trans hx3;obtain ⟨z0,z1,z2,⟨aD,aF,bn,aM,aN,bG⟩,⟨aJ,aK,bM,aR,aS,bT⟩,aZ,a_,bW,bA,bB,cf⟩:=bb3 aA aA aA A0 A1 A2 y3;have P3:=aY.alloc w3 61 [.bool s1,.slice a1 k1 c1];have N4:=y3.alloc (.cells #[.bool s1,.slice a1 k1 c1] 61);go_wp2_with fail
   refine (gU _ _ _ _ _ _ _ _ _ _ ((h'.ext x0).ext N4) ((g'.ext x0).ext N4)).mono ?_;rintro e w4 ⟨s2,a2,k2,c2,n2,e2,j2,d2,m2,rfl,h2,g2,J0,hv2,l3,l4,gW⟩;have J1:=af hv2;clear hv2
   have y4:Ext W w4:=N4.trans gW;obtain ⟨z0,z1,z2,⟨aD,aF,bn,aM,aN,bG⟩,⟨aJ,aK,bM,aR,aS,bT⟩,aZ,a_,bW,bA,bB,cf⟩:=bb3 aA aA aA A0 A1 A2 y4;obtain ⟨pz,p0,p1,p2,p3⟩:=bb1 aC P3 gW;have Q4:=aY.alloc w4 61 [.bool s2,.slice a2 k2 c2];have Xl:=y4.alloc (.cells #[.bool s2,.slice a2 k2 c2] 61);have v4:=((Ext.refl w3).alloc (.cells #[.bool s1,.slice a1 k1 c1] 61)).trans (gW.alloc (.cells #[.bool s2,.slice a2 k2 c2] 61));have u4:=(Ext.refl w4).alloc (.cells #[.bool s2,.slice a2 k2 c2] 61);go_wp2_with fail
   refine (pG _ _ _ _ _ _ _ _ _ _ _ (h1.ext v4) (h2.ext u4) ae ae).mono ?_;rintro e w5 ⟨a5,c5,rfl,BZ,Qh,gl⟩;have y5:Ext W w5:=Xl.trans gl;obtain ⟨z0,z1,z2,⟨aD,aF,bn,aM,aN,bG⟩,⟨aJ,aK,bM,aR,aS,bT⟩,aZ,a_,bW,bA,bB,cf⟩:=bb3 aA aA aA A0 A1 A2 y5;go_wp2_with fail
   refine (pD _ _ _ _ _ _ _ _ _ ((g1.ext v4).ext gl) ((g2.ext u4).ext gl) ae ae).mono ?_;rintro e w6 ⟨a6,c6,rfl,C_,SD,kZ⟩;have y6:Ext W w6:=y5.trans kZ;obtain ⟨z0,z1,z2,⟨aD,aF,bn,aM,aN,bG⟩,⟨aJ,aK,bM,aR,aS,bT⟩,aZ,a_,bW,bA,bB,cf⟩:=bb3 aA aA aA A0 A1 A2 y6;have Xm:len (bf s1 n1*bf s2 n2).natAbs<=len n1+len n2:=by rw [Int.natAbs_mul,bL,bL];exact gX _ _
   have ZU:=gX m1 m2;go_wp2_with fail
   refine (lg _ _ _ _ _ _ _ _ _ _ (BZ.ext kZ) C_ (Nat.mul_pos qN J0) ae ae).mono ?_;intro e wz hN;rw [dJ,<-Rat.mkRat_mul_mkRat,HV.o,J1.o]at hN;obtain ⟨az,cz,J7,J8,rfl,AZ,qG,tV,xY,w_⟩:=id hN;obtain ⟨z0,z1,z2,⟨aD,aF,bn,aM,aN,bG⟩,⟨aJ,aK,bM,aR,aS,bT⟩,aZ,a_,bW,bA,bB,cf⟩:=bb3 aA aA aA A0 A1 A2 (y6.trans w_);go_wp2
   exact bodyPost_ret (by simp [results,results45,go_sem, *]) rfl (bD.bH (hN.base y6) x0 (Touch.three _ ae (by rw [Z0.o];omega) _ _ _))
  .have HA:=af ha;have HB:=af hb;clear ha hb hl
   go_enter func45,ntmps45
   go_wp2_with fail
   obtain ⟨W,hW,x0,Z0,A0,A1,A2⟩:=et w 63 [.bool s,.slice a k c,.slice b j d] 63 [.bool s',.slice a' k' c',.slice b' j' d'] 63 [.bool false,.slice none 0 0,.slice none 0 0];rw [<-hW];clear hW;obtain ⟨z0,z1,z2,⟨aD,aF,bn,aM,aN,bG⟩,⟨aJ,aK,bM,aR,aS,bT⟩,aZ,a_,bW,bA,bB,cf⟩:=bb3 aA aA aA A0 A1 A2 ah;refine (jJ _ _ _ _ _ _ _ _ _ _ (h.ext x0) (g.ext x0) HA.o).mono ?_;rintro e w1 ⟨rfl,hx⟩;obtain ⟨z0,z1,z2,⟨aD,aF,bn,aM,aN,bG⟩,⟨aJ,aK,bM,aR,aS,bT⟩,aZ,a_,bW,bA,bB,cf⟩:=bb3 aA aA aA A0 A1 A2 hx;go_wp2_with fail
   refine (jJ _ _ _ _ _ _ _ _ _ _ ((h'.ext x0).ext hx) ((g'.ext x0).ext hx) HB.o).mono ?_;rintro e w2 ⟨rfl,xR⟩;have y2:Ext W w2:=hx.trans xR;obtain ⟨z0,z1,z2,⟨aD,aF,bn,aM,aN,bG⟩,⟨aJ,aK,bM,aR,aS,bT⟩,aZ,a_,bW,bA,bB,cf⟩:=bb3 aA aA aA A0 A1 A2 y2;go_wp2_with fail
   refine (gU _ _ _ _ _ _ _ _ _ _ ((h.ext x0).ext y2) ((g.ext x0).ext y2)).mono ?_;rintro e w3 ⟨s1,a1,k1,c1,n1,e1,j1,d1,m1,rfl,h1,g1,qN,hv,l1,l2,hx3⟩;have HV:=af hv;clear hv
   have y3:Ext W w3:=y2.trans hx3;obtain ⟨z0,z1,z2,⟨aD,aF,bn,aM,aN,bG⟩,⟨aJ,aK,bM,aR,aS,bT⟩,aZ,a_,bW,bA,bB,cf⟩:=bb3 aA aA aA A0 A1 A2 y3;have P3:=aY.alloc w3 61 [.bool s1,.slice a1 k1 c1];have N4:=y3.alloc (.cells #[.bool s1,.slice a1 k1 c1] 61);go_wp2_with fail
   refine (gU _ _ _ _ _ _ _ _ _ _ ((h'.ext x0).ext N4) ((g'.ext x0).ext N4)).mono ?_;rintro e w4 ⟨s2,a2,k2,c2,n2,e2,j2,d2,m2,rfl,h2,g2,J0,hv2,l3,l4,gW⟩;have J1:=af hv2;clear hv2
   have y4:Ext W w4:=N4.trans gW;obtain ⟨z0,z1,z2,⟨aD,aF,bn,aM,aN,bG⟩,⟨aJ,aK,bM,aR,aS,bT⟩,aZ,a_,bW,bA,bB,cf⟩:=bb3 aA aA aA A0 A1 A2 y4;obtain ⟨pz,p0,p1,p2,p3⟩:=bb1 aC P3 gW;have Q4:=aY.alloc w4 61 [.bool s2,.slice a2 k2 c2];have Xl:=y4.alloc (.cells #[.bool s2,.slice a2 k2 c2] 61);have v4:=((Ext.refl w3).alloc (.cells #[.bool s1,.slice a1 k1 c1] 61)).trans (gW.alloc (.cells #[.bool s2,.slice a2 k2 c2] 61));have u4:=(Ext.refl w4).alloc (.cells #[.bool s2,.slice a2 k2 c2] 61);go_wp2_with fail
   refine (pG _ _ _ _ _ _ _ _ _ _ _ (h1.ext v4) (h2.ext u4) ae ae).mono ?_;rintro e w5 ⟨a5,c5,rfl,BZ,Qh,gl⟩;have y5:Ext W w5:=Xl.trans gl;obtain ⟨z0,z1,z2,⟨aD,aF,bn,aM,aN,bG⟩,⟨aJ,aK,bM,aR,aS,bT⟩,aZ,a_,bW,bA,bB,cf⟩:=bb3 aA aA aA A0 A1 A2 y5;go_wp2_with fail
   refine (pD _ _ _ _ _ _ _ _ _ ((g1.ext v4).ext gl) ((g2.ext u4).ext gl) ae ae).mono ?_;rintro e w6 ⟨a6,c6,rfl,C_,SD,kZ⟩;have y6:Ext W w6:=y5.trans kZ;obtain ⟨z0,z1,z2,⟨aD,aF,bn,aM,aN,bG⟩,⟨aJ,aK,bM,aR,aS,bT⟩,aZ,a_,bW,bA,bB,cf⟩:=bb3 aA aA aA A0 A1 A2 y6;have Xm:len (bf s1 n1*bf s2 n2).natAbs<=len n1+len n2:=by rw [Int.natAbs_mul,bL,bL];exact gX _ _
   have ZU:=gX m1 m2;go_wp2_with fail
   refine (lg _ _ _ _ _ _ _ _ _ _ (BZ.ext kZ) C_ (Nat.mul_pos qN J0) ae ae).mono ?_;intro e wz hN;rw [dJ,<-Rat.mkRat_mul_mkRat,HV.o,J1.o]at hN;obtain ⟨az,cz,J7,J8,rfl,AZ,qG,tV,xY,w_⟩:=id hN;obtain ⟨z0,z1,z2,⟨aD,aF,bn,aM,aN,bG⟩,⟨aJ,aK,bM,aR,aS,bT⟩,aZ,a_,bW,bA,bB,cf⟩:=bb3 aA aA aA A0 A1 A2 (y6.trans w_);go_wp2
   exact bodyPost_ret (by simp [results,results45,go_sem, *]) rfl (bD.bH (hN.base y6) x0 (Touch.three _ ae (by rw [Z0.o];omega) _ _ _))
theorem J9 (w:World) (s:Bool) (a b:Option Addr) (k c j d n m:Nat) (h:Raw w a k c n) (g:Raw w b j d m) (s':Bool) (a' b':Option Addr) (k' c' j' d' n' m':Nat) (h':Raw w a' k' c' n') (g':Raw w b' j' d' m') (b1:len n<100000000) (b2:len m<100000000) (rZ:len n'<100000000) (rW:len m'<100000000):
 Calls prog 45 #[.agg #[.bool s,.slice a k c,.slice b j d],.agg #[.bool s',.slice a' k' c',.slice b' j' d']] w (bD (mkRat (bf s n) m*mkRat (bf s' n') m') w):=by
 by_cases hl:(n<2147483648/\m<2147483648)/\(n'<2147483648/\m'<2147483648)
 .exact Bi w _ _ _ _ _ _ _ _ _ h g _ _ _ _ _ _ _ _ _ h' g' hl.1.1 hl.1.2 hl.2.1 hl.2.2
 .exact Bj w _ _ _ _ _ _ _ _ _ h g _ _ _ _ _ _ _ _ _ h' g' b1 b2 rZ rW hl
