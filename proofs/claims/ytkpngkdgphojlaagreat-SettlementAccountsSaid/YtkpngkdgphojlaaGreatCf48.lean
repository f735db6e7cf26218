/- Texts of the proof. -/
import Derived.Test.YtkpngkdgphojlaaGreatCf47
set_option linter.all false
set_option maxHeartbeats 4000000
set_option maxRecDepth 100000
namespace Go.Proofs.YtkpngkdgphojlaaGreat
open Go.Proofs.Tryz
open Go.RowKit
def lI (p q:Rat):Int:=jd (p.num*q.den) (q.num*p.den)
theorem Ml {p q:Rat}:lI p q<0↔p<q:=by
 rw [Rat.lt_iff];unfold lI jd;split
 ·simp [*]
 ·split<;>simp [*]
theorem Mm {p q:Rat}:0<lI p q↔q<p:=by
 rw [Rat.lt_iff];unfold lI jd;split
 ·simp;omega
 ·split
  ·simp;omega
  ·simp;omega
theorem Ac {p q:Rat}:lI p q=0↔p=q:=by
 rw [Rat.eq_iff_mul_eq_mul];unfold lI jd;split
 ·simp;omega
 ·split
  ·simp [*]
  ·simp [*]
theorem Eo (a b c:Int) (h:0<c):jd (a*c) (b*c)=jd a b:=by
 unfold jd;by_cases h1:a<b
 ·rw [if_pos h1,if_pos (Int.mul_lt_mul_of_pos_right h1 h)]
 ·have h2: ¬a*c<b*c:=fun hh=>h1 (Int.lt_of_mul_lt_mul_right hh (Int.le_of_lt h))
  rw [if_neg h1,if_neg h2];by_cases h3:a=b
  ·rw [if_pos h3,if_pos (by rw [h3])]
  ·rw [if_neg h3,if_neg (fun hh=>h3 (Int.eq_of_mul_eq_mul_right (by omega) hh))]
theorem nH (x:Int) (y:Nat) (h:0<y): ∃g:Nat,0<g∧x=(mkRat x y).num*g∧y=(mkRat x y).den*g:=by
 obtain ⟨g,h1,h2,h3⟩:=Rat.mkRat_num_den (n:=x) (d:=y) (by omega) (n':=(mkRat x y).num) (d':=(mkRat x y).den) (z':=(mkRat x y).den_nz) (c:=(mkRat x y).reduced) rfl;exact ⟨g,by omega,h2,h3⟩
theorem wb (x x':Int) (y y':Nat) (h:0<y) (h':0<y'):lI (mkRat x y) (mkRat x' y')=jd (x*y') (x'*y):=by
 obtain ⟨g,g0,e1,e2⟩:=nH x y h;obtain ⟨g',g0',VM,Zt⟩:=nH x' y' h';generalize mkRat x y=p at*;generalize mkRat x' y'=q at*;subst e1 e2 VM Zt;unfold lI;rw [←Eo _ _ ((g:Int)*(g':Int)) (Int.mul_pos (by omega) (by omega))];congr 1
 ·rw [Int.natCast_mul];simp only [Int.mul_assoc,Int.mul_left_comm,Int.mul_comm]
 ·rw [Int.natCast_mul];simp only [Int.mul_assoc,Int.mul_left_comm,Int.mul_comm]
theorem rT (x:Int) (d:Nat) (h:0<d):(x*(d:Int)).sign=x.sign:=by
 have hd:(0:Int)<(d:Int):=by omega
 rw [Int.sign_mul,Int.sign_eq_one_of_pos hd,Int.mul_one]
theorem yI {p q:Rat} (h:p.num.sign≠q.num.sign):jd p.num.sign q.num.sign=lI p q:=by
 have hp:=rT p.num q.den (Nat.pos_of_ne_zero q.den_nz);have hq:=rT q.num p.den (Nat.pos_of_ne_zero p.den_nz);unfold lI;by_cases h1:p.num.sign<q.num.sign
 ·rw [rM h1,rM (uS (by rw [hp,hq];exact h1))]
 ·rw [rO (by omega),rO (uS (by rw [hp,hq];omega))]
theorem je (w:World) (x:Int):Calls prog 169 #[.int .i64 x] w fun e w'=>e= .returned (.bool false)∧w=w':=by
 go_enter func169,ntmps169
 go_wp2
 go_ret;exact ⟨by simp,rfl⟩
theorem Ad (w:World) (x y:Int):Calls prog 116 #[.int .i64 x,.int .i64 y] w fun e w'=>e= .returned (.int .i64 (jd x y))∧w=w':=by
 by_cases h1:x<y
 ·have e1:=rM h1
  have E1:=ae e1;clear e1
  go_enter func116,ntmps116
  go_wp2_with fail
  refine (je _ _).mono ?_;rintro e w' ⟨rfl,rfl⟩;go_wp2_with fail
  refine (je _ _).mono ?_;rintro e w' ⟨rfl,rfl⟩;go_wp2
  go_ret;exact ⟨cd E1.o.symm,rfl⟩
 ·by_cases h2:y<x
  ·have e1:=rO h2
   have E1:=ae e1;clear e1
   go_enter func116,ntmps116
   go_wp2_with fail
   refine (je _ _).mono ?_;rintro e w' ⟨rfl,rfl⟩;go_wp2_with fail
   refine (je _ _).mono ?_;rintro e w' ⟨rfl,rfl⟩;go_wp2
   go_ret;exact ⟨cd E1.o.symm,rfl⟩
  ·obtain rfl:x=y:=by omega
   have e1:jd x x=0:=by unfold jd;simp
   have E1:=ae e1;clear e1
   go_enter func116,ntmps116
   go_wp2_with fail
   refine (je _ _).mono ?_;rintro e w' ⟨rfl,rfl⟩;go_wp2_with fail
   refine (je _ _).mono ?_;rintro e w' ⟨rfl,rfl⟩;go_wp2
   go_ret;exact ⟨cd E1.o.symm,rfl⟩
theorem gX (w:World) (x:Int):Calls prog 186 #[.int .i64 x] w fun e w'=>e= .returned (.bool false)∧w=w':=by
 go_enter func186,ntmps186
 go_wp2
 go_ret;exact ⟨by simp,rfl⟩
theorem He (w:World) (x y:Int):Calls prog 158 #[.int .i64 x,.int .i64 y] w fun e w'=>e= .returned (.int .i64 (jd x y))∧w=w':=by
 by_cases h1:x<y
 ·have e1:=rM h1
  have E1:=ae e1;clear e1
  go_enter func158,ntmps158
  go_wp2_with fail
  refine (gX _ _).mono ?_;rintro e w' ⟨rfl,rfl⟩;go_wp2_with fail
  refine (gX _ _).mono ?_;rintro e w' ⟨rfl,rfl⟩;go_wp2
  go_ret;exact ⟨cd E1.o.symm,rfl⟩
 ·by_cases h2:y<x
  ·have e1:=rO h2
   have E1:=ae e1;clear e1
   go_enter func158,ntmps158
   go_wp2_with fail
   refine (gX _ _).mono ?_;rintro e w' ⟨rfl,rfl⟩;go_wp2_with fail
   refine (gX _ _).mono ?_;rintro e w' ⟨rfl,rfl⟩;go_wp2
   go_ret;exact ⟨cd E1.o.symm,rfl⟩
  ·obtain rfl:x=y:=by omega
   have e1:jd x x=0:=by unfold jd;simp
   have E1:=ae e1;clear e1
   go_enter func158,ntmps158
   go_wp2_with fail
   refine (gX _ _).mono ?_;rintro e w' ⟨rfl,rfl⟩;go_wp2_with fail
   refine (gX _ _).mono ?_;rintro e w' ⟨rfl,rfl⟩;go_wp2
   go_ret;exact ⟨cd E1.o.symm,rfl⟩
theorem rU (w:World) (s:Bool) (a b:Option Addr) (k c j d n m:Nat) (h:Raw w a k c n) (g:Raw w b j d m) (s':Bool) (a' b':Option Addr) (k' c' j' d' n' m':Nat) (h':Raw w a' k' c' n') (g':Raw w b' j' d' m') (ha:(n<2147483648∧m<2147483648)∧n'<2147483648∧m'<2147483648):
 Calls prog 107 #[.agg #[.bool s,.slice a k c,.slice b j d],.agg #[.bool s',.slice a' k' c',.slice b' j' d']] w fun e w'=>e= .returned (.int .i64 (lI (mkRat (aZ s n) m) (mkRat (aZ s' n') m')))∧Ext w w':=by
 by_cases hs:(mkRat (aZ s n) m).num.sign=(mkRat (aZ s' n') m').num.sign
 ·have hs':((mkRat (aZ s n) m).num.sign !=(mkRat (aZ s' n') m').num.sign)=false:=by rw [hs];simp
  have HS:=ae hs;clear hs
  have HA:=ae ha.1;have HB:=ae ha.2;clear ha
  go_enter func107,ntmps107
  go_wp2
  obtain ⟨W,hW,x0,Z0,A0,A1⟩:=er w 119 [.bool s,.slice a k c,.slice b j d] 119 [.bool s',.slice a' k' c',.slice b' j' d'];rw [←hW];clear hW;obtain ⟨aC,bf,fP,bU,bV,iV⟩:=aN A0 (Ext.refl _);have z0:=(A0.ext (Ext.refl _)).lt;obtain ⟨aM,bD,kM,cj,cq,pE⟩:=aN A1 (Ext.refl _);have z1:=(A1.ext (Ext.refl _)).lt;have fD:True:=trivial
  go_region_held3 (fun w'=>w'.cell? ⟨w.heap.size,0,none⟩=some (.bool s)∧w'.cell? ⟨w.heap.size,1,none⟩=some (.slice a k c)∧w'.cell? ⟨w.heap.size,2,none⟩=some (.slice b j d)∧w'.cell? ⟨w.heap.size+1,0,none⟩=some (.bool s')∧w'.cell? ⟨w.heap.size+1,1,none⟩=some (.slice a' k' c')∧w'.cell? ⟨w.heap.size+1,2,none⟩=some (.slice b' j' d')) (first|exact ⟨aC,bf,fP,aM,bD,kM⟩|(simp [go_sem,aC,bf,fP,aM,bD,kM])) (first
   |(go_at_call 156;have _t:=fD;refine (fE _ _ _ _ _ _ _ _ _ _ ((h.ext x0).ext (by exact (Ext.refl _).drew)) ((g.ext x0).ext (by exact (Ext.refl _).drew))).mono ?_;rintro e w1 ⟨rfl,hx1⟩;clear fD _t;obtain ⟨aC,bf,fP,bU,bV,iV⟩:=aN A0 ((((Ext.refl _).drew)).trans hx1);have z0:=(A0.ext ((((Ext.refl _).drew)).trans hx1)).lt;obtain ⟨aM,bD,kM,cj,cq,pE⟩:=aN A1 ((((Ext.refl _).drew)).trans hx1);have z1:=(A1.ext ((((Ext.refl _).drew)).trans hx1)).lt)
   |(go_at_call 156;refine (fE _ _ _ _ _ _ _ _ _ _ (((h'.ext x0).ext (by exact (Ext.refl _).drew)).ext hx1) (((g'.ext x0).ext (by exact (Ext.refl _).drew)).ext hx1)).mono ?_;rintro e w2 ⟨rfl,hx2⟩;obtain ⟨aC,bf,fP,bU,bV,iV⟩:=aN A0 (((((Ext.refl _).drew)).trans hx1).trans hx2);have z0:=(A0.ext (((((Ext.refl _).drew)).trans hx1).trans hx2)).lt;obtain ⟨aM,bD,kM,cj,cq,pE⟩:=aN A1 (((((Ext.refl _).drew)).trans hx1).trans hx2);have z1:=(A1.ext (((((Ext.refl _).drew)).trans hx1).trans hx2)).lt))
  have y2:Ext W w2:=((Ext.refl W).drew.trans hx1).trans hx2;go_wp2_with fail
  refine (kP _ _ _ _ _ _ _ _ _ _ ((h.ext x0).ext y2) ((g.ext x0).ext y2) HA.o.1 HA.o.2).mono ?_;rintro e w3 ⟨x,y,rfl,i1,i2,i3,i4,pF,hx3⟩;have TV:=ae pF;clear pF
  have y3:Ext W w3:=y2.trans hx3;obtain ⟨aC,bf,fP,bU,bV,iV⟩:=aN A0 y3;have z0:=(A0.ext y3).lt;obtain ⟨aM,bD,kM,cj,cq,pE⟩:=aN A1 y3;have z1:=(A1.ext y3).lt;go_wp2_with fail
  refine (kP _ _ _ _ _ _ _ _ _ _ ((h'.ext x0).ext y3) ((g'.ext x0).ext y3) HB.o.1 HB.o.2).mono ?_;rintro e w4 ⟨x',y',rfl,ZE,ZF,VO,i4',Ef,fl⟩;have Ps:=ae Ef;clear Ef
  have y4:Ext W w4:=y3.trans fl;obtain ⟨aC,bf,fP,bU,bV,iV⟩:=aN A0 y4;have z0:=(A0.ext y4).lt;obtain ⟨aM,bD,kM,cj,cq,pE⟩:=aN A1 y4;have z1:=(A1.ext y4).lt;obtain ⟨m1,m2⟩:=px i1 i2 (by omega: -2147483648<(y':Int)) (by omega);obtain ⟨m3,m4⟩:=px ZE ZF (by omega: -2147483648<(y:Int)) (by omega);go_wp2_with fail
  refine (He _ _ _).mono ?_;rintro e w5 ⟨rfl,rfl⟩;go_wp2
  go_ret;exact ⟨cd (by rw [←TV.o,←Ps.o,wb _ _ _ _ i3 VO]),x0.trans y4⟩
 ·have hs':((mkRat (aZ s n) m).num.sign !=(mkRat (aZ s' n') m').num.sign)=true:=by rw [bne_iff_ne];exact hs
  have e1:=yI hs;have E1:=ae e1;clear e1 hs
  go_enter func107,ntmps107
  go_wp2
  obtain ⟨W,hW,x0,Z0,A0,A1⟩:=er w 119 [.bool s,.slice a k c,.slice b j d] 119 [.bool s',.slice a' k' c',.slice b' j' d'];rw [←hW];clear hW;obtain ⟨aC,bf,fP,bU,bV,iV⟩:=aN A0 (Ext.refl _);have z0:=(A0.ext (Ext.refl _)).lt;obtain ⟨aM,bD,kM,cj,cq,pE⟩:=aN A1 (Ext.refl _);have z1:=(A1.ext (Ext.refl _)).lt;have fD:True:=trivial
  go_region_held3 (fun w'=>w'.cell? ⟨w.heap.size,0,none⟩=some (.bool s)∧w'.cell? ⟨w.heap.size,1,none⟩=some (.slice a k c)∧w'.cell? ⟨w.heap.size,2,none⟩=some (.slice b j d)∧w'.cell? ⟨w.heap.size+1,0,none⟩=some (.bool s')∧w'.cell? ⟨w.heap.size+1,1,none⟩=some (.slice a' k' c')∧w'.cell? ⟨w.heap.size+1,2,none⟩=some (.slice b' j' d')) (first|exact ⟨aC,bf,fP,aM,bD,kM⟩|(simp [go_sem,aC,bf,fP,aM,bD,kM])) (first
   |(go_at_call 156;have _t:=fD;refine (fE _ _ _ _ _ _ _ _ _ _ ((h.ext x0).ext (by exact (Ext.refl _).drew)) ((g.ext x0).ext (by exact (Ext.refl _).drew))).mono ?_;rintro e w1 ⟨rfl,hx1⟩;clear fD _t;obtain ⟨aC,bf,fP,bU,bV,iV⟩:=aN A0 ((((Ext.refl _).drew)).trans hx1);have z0:=(A0.ext ((((Ext.refl _).drew)).trans hx1)).lt;obtain ⟨aM,bD,kM,cj,cq,pE⟩:=aN A1 ((((Ext.refl _).drew)).trans hx1);have z1:=(A1.ext ((((Ext.refl _).drew)).trans hx1)).lt)
   |(go_at_call 156;refine (fE _ _ _ _ _ _ _ _ _ _ (((h'.ext x0).ext (by exact (Ext.refl _).drew)).ext hx1) (((g'.ext x0).ext (by exact (Ext.refl _).drew)).ext hx1)).mono ?_;rintro e w2 ⟨rfl,hx2⟩;obtain ⟨aC,bf,fP,bU,bV,iV⟩:=aN A0 (((((Ext.refl _).drew)).trans hx1).trans hx2);have z0:=(A0.ext (((((Ext.refl _).drew)).trans hx1).trans hx2)).lt;obtain ⟨aM,bD,kM,cj,cq,pE⟩:=aN A1 (((((Ext.refl _).drew)).trans hx1).trans hx2);have z1:=(A1.ext (((((Ext.refl _).drew)).trans hx1).trans hx2)).lt))
  have y2:Ext W w2:=((Ext.refl W).drew.trans hx1).trans hx2;go_wp2_with fail
  refine (Ad _ _ _).mono ?_;rintro e w3 ⟨rfl,rfl⟩;go_wp2
  go_ret;exact ⟨cd E1.o,x0.trans y2⟩
theorem j8 (s:Bool) (a b:Option Addr) (k c j d n m:Nat): ∃p:Bool,(p=true↔n<2147483648∧m<2147483648)∧ ∀w,Raw w a k c n→Raw w b j d m→Calls prog 157 #[.agg #[.bool s,.slice a k c,.slice b j d]] w fun e w'=> ∃x y:Int,e= .returned (.tuple #[.int .i64 x,.int .i64 y,.bool p])∧Ext w w':=by
 by_cases hs:n<2147483648∧m<2147483648
 ·refine ⟨true,by simp [hs],fun w h g=>(kP w s a b k c j d n m h g hs.1 hs.2).mono ?_⟩
  rintro e w' ⟨x,y,rfl,-,-,-,-,-,hx⟩;exact ⟨x,y,rfl,hx⟩
 ·refine ⟨false,by simp [hs],fun w h g=>(rP w s a b k c j d n m h g hs).mono ?_⟩
  rintro e w' ⟨rfl,hx⟩;exact ⟨0,0,rfl,hx⟩
theorem lY (w:World) (s:Bool) (a b:Option Addr) (k c j d n m:Nat) (h:Raw w a k c n) (g:Raw w b j d m) (s':Bool) (a' b':Option Addr) (k' c' j' d' n' m':Nat) (h':Raw w a' k' c' n') (g':Raw w b' j' d' m') (b1:len n<100000000) (b2:len m<100000000) (QP:len n'<100000000) (KG:len m'<100000000):
 Calls prog 107 #[.agg #[.bool s,.slice a k c,.slice b j d],.agg #[.bool s',.slice a' k' c',.slice b' j' d']] w fun e w'=>e= .returned (.int .i64 (lI (mkRat (aZ s n) m) (mkRat (aZ s' n') m')))∧Ext w w':=by
 by_cases hs:(mkRat (aZ s n) m).num.sign=(mkRat (aZ s' n') m').num.sign
 ·have hs':((mkRat (aZ s n) m).num.sign !=(mkRat (aZ s' n') m').num.sign)=false:=by rw [hs];simp
  have HS:=ae hs;clear hs
  by_cases ha:(n<2147483648∧m<2147483648)∧n'<2147483648∧m'<2147483648
  ·exact rU w _ _ _ _ _ _ _ _ _ h g _ _ _ _ _ _ _ _ _ h' g' ha
  ·obtain ⟨p,hp,TW⟩:=j8 s a b k c j d n m
   obtain ⟨p',TX,TY⟩:=j8 s' a' b' k' c' j' d' n' m'
   have hc:(p=true∧p'=false)∨(p=false∧p'=true)∨(p=false∧p'=false):=by
    cases p with
    |false=>cases p'<;>simp
    |true=>
     cases p' with
     |false=>simp
     |true=>exact absurd ⟨hp.1 rfl,TX.1 rfl⟩ ha
   have HA:=ae TW;have HB:=ae TY
   clear ha hp TX TW TY;rcases hc with⟨rfl,rfl⟩|⟨rfl,rfl⟩|⟨rfl,rfl⟩
   all_goals
    go_enter func107,ntmps107
    go_wp2
    obtain ⟨W,hW,x0,Z0,A0,A1⟩:=er w 119 [.bool s,.slice a k c,.slice b j d] 119 [.bool s',.slice a' k' c',.slice b' j' d'];rw [←hW];clear hW;obtain ⟨aC,bf,fP,bU,bV,iV⟩:=aN A0 (Ext.refl _);have z0:=(A0.ext (Ext.refl _)).lt;obtain ⟨aM,bD,kM,cj,cq,pE⟩:=aN A1 (Ext.refl _);have z1:=(A1.ext (Ext.refl _)).lt;have fD:True:=trivial
    go_region_held3 (fun w'=>w'.cell? ⟨w.heap.size,0,none⟩=some (.bool s)∧w'.cell? ⟨w.heap.size,1,none⟩=some (.slice a k c)∧w'.cell? ⟨w.heap.size,2,none⟩=some (.slice b j d)∧w'.cell? ⟨w.heap.size+1,0,none⟩=some (.bool s')∧w'.cell? ⟨w.heap.size+1,1,none⟩=some (.slice a' k' c')∧w'.cell? ⟨w.heap.size+1,2,none⟩=some (.slice b' j' d')) (first|exact ⟨aC,bf,fP,aM,bD,kM⟩|(simp [go_sem,aC,bf,fP,aM,bD,kM])) (first
     |(go_at_call 156;have _t:=fD;refine (fE _ _ _ _ _ _ _ _ _ _ ((h.ext x0).ext (by exact (Ext.refl _).drew)) ((g.ext x0).ext (by exact (Ext.refl _).drew))).mono ?_;rintro e w1 ⟨rfl,hx1⟩;clear fD _t;obtain ⟨aC,bf,fP,bU,bV,iV⟩:=aN A0 ((((Ext.refl _).drew)).trans hx1);have z0:=(A0.ext ((((Ext.refl _).drew)).trans hx1)).lt;obtain ⟨aM,bD,kM,cj,cq,pE⟩:=aN A1 ((((Ext.refl _).drew)).trans hx1);have z1:=(A1.ext ((((Ext.refl _).drew)).trans hx1)).lt)
     |(go_at_call 156;refine (fE _ _ _ _ _ _ _ _ _ _ (((h'.ext x0).ext (by exact (Ext.refl _).drew)).ext hx1) (((g'.ext x0).ext (by exact (Ext.refl _).drew)).ext hx1)).mono ?_;rintro e w2 ⟨rfl,hx2⟩;obtain ⟨aC,bf,fP,bU,bV,iV⟩:=aN A0 (((((Ext.refl _).drew)).trans hx1).trans hx2);have z0:=(A0.ext (((((Ext.refl _).drew)).trans hx1).trans hx2)).lt;obtain ⟨aM,bD,kM,cj,cq,pE⟩:=aN A1 (((((Ext.refl _).drew)).trans hx1).trans hx2);have z1:=(A1.ext (((((Ext.refl _).drew)).trans hx1).trans hx2)).lt))
    have y2:Ext W w2:=((Ext.refl W).drew.trans hx1).trans hx2;go_wp2_with fail
    refine (HA.o _ ((h.ext x0).ext y2) ((g.ext x0).ext y2)).mono ?_;rintro e w3 ⟨x,y,rfl,hx3⟩;have y3:Ext W w3:=y2.trans hx3;obtain ⟨aC,bf,fP,bU,bV,iV⟩:=aN A0 y3;have z0:=(A0.ext y3).lt;obtain ⟨aM,bD,kM,cj,cq,pE⟩:=aN A1 y3;have z1:=(A1.ext y3).lt;go_wp2_with fail
    refine (HB.o _ ((h'.ext x0).ext y3) ((g'.ext x0).ext y3)).mono ?_;rintro e w4 ⟨x',y',rfl,fl⟩;have y4:Ext W w4:=y3.trans fl;obtain ⟨aC,bf,fP,bU,bV,iV⟩:=aN A0 y4;have z0:=(A0.ext y4).lt;obtain ⟨aM,bD,kM,cj,cq,pE⟩:=aN A1 y4;have z1:=(A1.ext y4).lt;go_wp2_with fail
    refine (kO _ _ _ _ _ _ _ _ _ _ ((h.ext x0).ext y4) ((g.ext x0).ext y4)).mono ?_;rintro e w5 ⟨s1,a1,k1,c1,n1,e1,j1,d1,m1,rfl,h1,g1,xt,hv,l1,l2,dY⟩;have HV:=ae hv;clear hv
    have y5:Ext W w5:=y4.trans dY;obtain ⟨aC,bf,fP,bU,bV,iV⟩:=aN A0 y5;have z0:=(A0.ext y5).lt;obtain ⟨aM,bD,kM,cj,cq,pE⟩:=aN A1 y5;have z1:=(A1.ext y5).lt;have P5:=aQ.alloc w5 117 [.bool s1,.slice a1 k1 c1];have Pt:=y5.alloc (.cells #[.bool s1,.slice a1 k1 c1] 117);go_wp2_with fail
    refine (kO _ _ _ _ _ _ _ _ _ _ ((h'.ext x0).ext Pt) ((g'.ext x0).ext Pt)).mono ?_;rintro e w6 ⟨s2,a2,k2,c2,n2,e2,j2,d2,m2,rfl,h2,g2,nc,hv2,l3,l4,jB⟩;have KS:=ae hv2;clear hv2
    have y6:Ext W w6:=Pt.trans jB;obtain ⟨p0,p1,p2,p3⟩:=ax P5 jB;have pz:=(P5.ext jB).lt;go_wp2
    obtain ⟨V,hV⟩: ∃V,V=w6.alloc (.cells #[.bool s2,.slice a2 k2 c2] 117):=⟨_,rfl⟩;rw [←hV];have yV:Ext w6 V:=by rw [hV];exact (Ext.refl _).alloc _
    have PV:aQ V w5.heap.size 117 [.bool s1,.slice a1 k1 c1]:=(P5.ext jB).ext yV;have QV:aQ V w6.heap.size 117 [.bool s2,.slice a2 k2 c2]:=by rw [hV];exact aQ.alloc _ _ _
    clear hV;have H1:=((h1.ext ((Ext.refl w5).alloc _)).ext jB).ext yV;have G1:=((g1.ext ((Ext.refl w5).alloc _)).ext jB).ext yV;have H2:=h2.ext yV;have G2:=g2.ext yV;obtain ⟨p0,p1,p2,p3⟩:=ax PV (Ext.refl _);obtain ⟨q0,q1,q2,q3⟩:=ax QV (Ext.refl _);have Kj:True:=trivial
    go_region_held3 (fun w'=>w'.cell? ⟨w5.heap.size,0,none⟩=some (.bool s1)∧w'.cell? ⟨w5.heap.size,1,none⟩=some (.slice a1 k1 c1)∧w'.cell? ⟨w6.heap.size,0,none⟩=some (.bool s2)∧w'.cell? ⟨w6.heap.size,1,none⟩=some (.slice a2 k2 c2)) (first|exact ⟨p0,p1,q0,q1⟩|(simp [go_sem,p0,p1,q0,q1])) (first
     |(go_at_call 161;have _t:=Kj;refine (uR _ _ _ _ _ _ _ _ _ _ _ (H1.ext (by exact (Ext.refl _).drew)) (G2.ext (by exact (Ext.refl _).drew)) (by omega) (by omega)).mono ?_;rintro e w7 ⟨a7,c7,rfl,Pr,VN,nZ⟩;clear Kj _t;obtain ⟨p0,p1,p2,p3⟩:=ax PV ((Ext.refl V).drew.trans nZ);obtain ⟨q0,q1,q2,q3⟩:=ax QV ((Ext.refl V).drew.trans nZ))
     |(go_at_call 161;refine (uR _ _ _ _ _ _ _ _ _ _ _ ((H2.ext (by exact (Ext.refl _).drew)).ext nZ) ((G1.ext (by exact (Ext.refl _).drew)).ext nZ) (by omega) (by omega)).mono ?_;rintro e w8 ⟨a8,c8,rfl,Kh,QM,g_⟩;obtain ⟨p0,p1,p2,p3⟩:=ax PV (((Ext.refl V).drew.trans nZ).trans g_);obtain ⟨q0,q1,q2,q3⟩:=ax QV (((Ext.refl V).drew.trans nZ).trans g_))
     |(go_at_call 160;refine (Cp _ _ _ _ _ _ _ _ _ _ _ (Pr.ext g_) Kh).mono ?_;rintro e w9 ⟨rfl,jC⟩;obtain ⟨p0,p1,p2,p3⟩:=ax PV ((((Ext.refl V).drew.trans nZ).trans g_).trans jC);obtain ⟨q0,q1,q2,q3⟩:=ax QV ((((Ext.refl V).drew.trans nZ).trans g_).trans jC)))
    go_wp2
    go_ret;refine ⟨cd ?_,(((((x0.trans y6).trans yV).drew).trans nZ).trans g_).trans jC⟩;rw [fQ,fQ,←HV.o,←KS.o,wb _ _ _ _ xt nc];rfl
 ·have hs':((mkRat (aZ s n) m).num.sign !=(mkRat (aZ s' n') m').num.sign)=true:=by rw [bne_iff_ne];exact hs
  have e1:=yI hs;have E1:=ae e1;clear e1 hs
  go_enter func107,ntmps107
  go_wp2
  obtain ⟨W,hW,x0,Z0,A0,A1⟩:=er w 119 [.bool s,.slice a k c,.slice b j d] 119 [.bool s',.slice a' k' c',.slice b' j' d'];rw [←hW];clear hW;obtain ⟨aC,bf,fP,bU,bV,iV⟩:=aN A0 (Ext.refl _);have z0:=(A0.ext (Ext.refl _)).lt;obtain ⟨aM,bD,kM,cj,cq,pE⟩:=aN A1 (Ext.refl _);have z1:=(A1.ext (Ext.refl _)).lt;have fD:True:=trivial
  go_region_held3 (fun w'=>w'.cell? ⟨w.heap.size,0,none⟩=some (.bool s)∧w'.cell? ⟨w.heap.size,1,none⟩=some (.slice a k c)∧w'.cell? ⟨w.heap.size,2,none⟩=some (.slice b j d)∧w'.cell? ⟨w.heap.size+1,0,none⟩=some (.bool s')∧w'.cell? ⟨w.heap.size+1,1,none⟩=some (.slice a' k' c')∧w'.cell? ⟨w.heap.size+1,2,none⟩=some (.slice b' j' d')) (first|exact ⟨aC,bf,fP,aM,bD,kM⟩|(simp [go_sem,aC,bf,fP,aM,bD,kM])) (first
   |(go_at_call 156;have _t:=fD;refine (fE _ _ _ _ _ _ _ _ _ _ ((h.ext x0).ext (by exact (Ext.refl _).drew)) ((g.ext x0).ext (by exact (Ext.refl _).drew))).mono ?_;rintro e w1 ⟨rfl,hx1⟩;clear fD _t;obtain ⟨aC,bf,fP,bU,bV,iV⟩:=aN A0 ((((Ext.refl _).drew)).trans hx1);have z0:=(A0.ext ((((Ext.refl _).drew)).trans hx1)).lt;obtain ⟨aM,bD,kM,cj,cq,pE⟩:=aN A1 ((((Ext.refl _).drew)).trans hx1);have z1:=(A1.ext ((((Ext.refl _).drew)).trans hx1)).lt)
   |(go_at_call 156;refine (fE _ _ _ _ _ _ _ _ _ _ (((h'.ext x0).ext (by exact (Ext.refl _).drew)).ext hx1) (((g'.ext x0).ext (by exact (Ext.refl _).drew)).ext hx1)).mono ?_;rintro e w2 ⟨rfl,hx2⟩;obtain ⟨aC,bf,fP,bU,bV,iV⟩:=aN A0 (((((Ext.refl _).drew)).trans hx1).trans hx2);have z0:=(A0.ext (((((Ext.refl _).drew)).trans hx1).trans hx2)).lt;obtain ⟨aM,bD,kM,cj,cq,pE⟩:=aN A1 (((((Ext.refl _).drew)).trans hx1).trans hx2);have z1:=(A1.ext (((((Ext.refl _).drew)).trans hx1).trans hx2)).lt))
  have y2:Ext W w2:=((Ext.refl W).drew.trans hx1).trans hx2;go_wp2_with fail
  refine (Ad _ _ _).mono ?_;rintro e w3 ⟨rfl,rfl⟩;go_wp2
  go_ret;exact ⟨cd E1.o,x0.trans y2⟩
theorem fX {p:Rat}:p.num.sign=0↔p=0:=by rw [Int.sign_eq_zero_iff_zero,Rat.num_eq_zero]
theorem tE (x x':Int) (y y':Nat) (h:0<y) (h':0<y'):mkRat (x*y'+x'*y) (y*y')=mkRat x y+mkRat x' y':=(Rat.mkRat_add_mkRat x x' (by omega) (by omega)).symm
theorem wh (x x':Int) (y:Nat) (h:0<y):mkRat (x+x') y=mkRat x y+mkRat x' y:=by
 rw [←tE _ _ _ _ h h,←Int.add_mul,Rat.mkRat_mul_right (by omega)]
theorem qi (x y:Int):len (x+y).natAbs≤max (len x.natAbs) (len y.natAbs)+1:=
 Nat.le_trans (cM (Int.natAbs_add_le x y)) (Mj _ _)
theorem xF (w:World) (s:Bool) (a b:Option Addr) (k c j d n m:Nat) (h:Raw w a k c n) (g:Raw w b j d m) (s':Bool) (a' b':Option Addr) (k' c' j' d' n' m':Nat) (h':Raw w a' k' c' n') (g':Raw w b' j' d' m') (ZG: ∀V,Raw V a' k' c' n'→Raw V b' j' d' m'→Calls prog 162 #[.agg #[.bool s',.slice a' k' c',.slice b' j' d']] V (br (mkRat (aZ s' n') m') V)) (h0:mkRat (aZ s n) m=0):
 Calls prog 164 #[.agg #[.bool s,.slice a k c,.slice b j d],.agg #[.bool s',.slice a' k' c',.slice b' j' d']] w (br (mkRat (aZ s n) m+mkRat (aZ s' n') m') w):=by
 have hs:(mkRat (aZ s n) m).num.sign=0:=fX.2 h0;have H0:=ae h0;clear h0
 go_enter func164,ntmps164
 go_wp2_with fail
 obtain ⟨W,hW,x0,Z0,A0,A1,A2⟩:=gl w 119 [.bool s,.slice a k c,.slice b j d] 119 [.bool s',.slice a' k' c',.slice b' j' d'] 119 [.bool false,.slice none 0 0,.slice none 0 0];rw [←hW];clear hW;have aC:=aN A0 (Ext.refl _);have z0:=(A0.ext (Ext.refl _)).lt;have aM:=aN A1 (Ext.refl _);have z1:=(A1.ext (Ext.refl _)).lt;have bj:=aN A2 (Ext.refl _);have z2:=(A2.ext (Ext.refl _)).lt;refine (fE _ _ _ _ _ _ _ _ _ _ (h.ext x0) (g.ext x0)).mono ?_;rintro e w1 ⟨rfl,hx1⟩;have aC:=aN A0 hx1;have z0:=(A0.ext hx1).lt;have aM:=aN A1 hx1;have z1:=(A1.ext hx1).lt;have bj:=aN A2 hx1;have z2:=(A2.ext hx1).lt;rw [hs];clear hs;go_wp2_with fail
 refine (ZG _ ((h'.ext x0).ext hx1) ((g'.ext x0).ext hx1)).mono ?_;intro e wz hN;rw [←Rat.zero_add (mkRat (aZ s' n') m'),←H0.o]at hN;obtain ⟨az,cz,QN,QO,rfl,Mi,rF,Em,En,kr⟩:=id hN;have aC:=aN A0 (hx1.trans kr);have z0:=(A0.ext (hx1.trans kr)).lt;have aM:=aN A1 (hx1.trans kr);have z1:=(A1.ext (hx1.trans kr)).lt;have bj:=aN A2 (hx1.trans kr);have z2:=(A2.ext (hx1.trans kr)).lt;go_wp2
 exact bodyPost_ret (by simp [results,results164,go_sem, *]) rfl (br.bh (hN.base hx1) x0 (Touch.three _ (by omega) (by rw [Z0.o];omega) _ _ _))
theorem xG (w:World) (s:Bool) (a b:Option Addr) (k c j d n m:Nat) (h:Raw w a k c n) (g:Raw w b j d m) (s':Bool) (a' b':Option Addr) (k' c' j' d' n' m':Nat) (h':Raw w a' k' c' n') (g':Raw w b' j' d' m') (ZG: ∀V,Raw V a k c n→Raw V b j d m→Calls prog 162 #[.agg #[.bool s,.slice a k c,.slice b j d]] V (br (mkRat (aZ s n) m) V)) (Fv: ¬mkRat (aZ s n) m=0) (h0:mkRat (aZ s' n') m'=0):
 Calls prog 164 #[.agg #[.bool s,.slice a k c,.slice b j d],.agg #[.bool s',.slice a' k' c',.slice b' j' d']] w (br (mkRat (aZ s n) m+mkRat (aZ s' n') m') w):=by
 have hs:(mkRat (aZ s' n') m').num.sign=0:=fX.2 h0;have hs1:((mkRat (aZ s n) m).num.sign==0)=false:=by rw [beq_eq_false_iff_ne];exact fun h=>Fv (fX.1 h)
 have H0:=ae h0;clear h0 Fv
 go_enter func164,ntmps164
 go_wp2_with fail
 obtain ⟨W,hW,x0,Z0,A0,A1,A2⟩:=gl w 119 [.bool s,.slice a k c,.slice b j d] 119 [.bool s',.slice a' k' c',.slice b' j' d'] 119 [.bool false,.slice none 0 0,.slice none 0 0];rw [←hW];clear hW;have aC:=aN A0 (Ext.refl _);have z0:=(A0.ext (Ext.refl _)).lt;have aM:=aN A1 (Ext.refl _);have z1:=(A1.ext (Ext.refl _)).lt;have bj:=aN A2 (Ext.refl _);have z2:=(A2.ext (Ext.refl _)).lt;refine (fE _ _ _ _ _ _ _ _ _ _ (h.ext x0) (g.ext x0)).mono ?_;rintro e w1 ⟨rfl,hx1⟩;have aC:=aN A0 hx1;have z0:=(A0.ext hx1).lt;have aM:=aN A1 hx1;have z1:=(A1.ext hx1).lt;have bj:=aN A2 hx1;have z2:=(A2.ext hx1).lt;go_wp2_with fail
 refine (fE _ _ _ _ _ _ _ _ _ _ ((h'.ext x0).ext hx1) ((g'.ext x0).ext hx1)).mono ?_;rintro e w2 ⟨rfl,hx2⟩;have y2:Ext W w2:=hx1.trans hx2;have aC:=aN A0 y2;have z0:=(A0.ext y2).lt;have aM:=aN A1 y2;have z1:=(A1.ext y2).lt;have bj:=aN A2 y2;have z2:=(A2.ext y2).lt;rw [hs];clear hs;go_wp2_with fail
 refine (ZG _ ((h.ext x0).ext y2) ((g.ext x0).ext y2)).mono ?_;intro e wz hN;rw [←Rat.add_zero (mkRat (aZ s n) m),←H0.o]at hN;obtain ⟨az,cz,QN,QO,rfl,Mi,rF,Em,En,kr⟩:=id hN;have aC:=aN A0 (y2.trans kr);have z0:=(A0.ext (y2.trans kr)).lt;have aM:=aN A1 (y2.trans kr);have z1:=(A1.ext (y2.trans kr)).lt;have bj:=aN A2 (y2.trans kr);have z2:=(A2.ext (y2.trans kr)).lt;go_wp2
 exact bodyPost_ret (by simp [results,results164,go_sem, *]) rfl (br.bh (hN.base y2) x0 (Touch.three _ (by omega) (by rw [Z0.o];omega) _ _ _))
theorem Ep (w:World) (s:Bool) (a b:Option Addr) (k c j d n m:Nat) (h:Raw w a k c n) (g:Raw w b j d m) (s':Bool) (a' b':Option Addr) (k' c' j' d' n' m':Nat) (h':Raw w a' k' c' n') (g':Raw w b' j' d' m') (Fv: ¬mkRat (aZ s n) m=0) (Kk: ¬mkRat (aZ s' n') m'=0) (ha:n<2147483648∧m<2147483648) (hb:n'<2147483648∧m'<2147483648):
 Calls prog 164 #[.agg #[.bool s,.slice a k c,.slice b j d],.agg #[.bool s',.slice a' k' c',.slice b' j' d']] w (br (mkRat (aZ s n) m+mkRat (aZ s' n') m') w):=by
 have hs1:((mkRat (aZ s n) m).num.sign==0)=false:=by rw [beq_eq_false_iff_ne];exact fun h=>Fv (fX.1 h)
 have hs2:((mkRat (aZ s' n') m').num.sign==0)=false:=by rw [beq_eq_false_iff_ne];exact fun h=>Kk (fX.1 h)
 clear Fv Kk;have HA:=ae ha;have HB:=ae hb;clear ha hb
 go_enter func164,ntmps164
 go_wp2_with fail
 obtain ⟨W,hW,x0,Z0,A0,A1,A2⟩:=gl w 119 [.bool s,.slice a k c,.slice b j d] 119 [.bool s',.slice a' k' c',.slice b' j' d'] 119 [.bool false,.slice none 0 0,.slice none 0 0];rw [←hW];clear hW;have aC:=aN A0 (Ext.refl _);have z0:=(A0.ext (Ext.refl _)).lt;have aM:=aN A1 (Ext.refl _);have z1:=(A1.ext (Ext.refl _)).lt;have bj:=aN A2 (Ext.refl _);have z2:=(A2.ext (Ext.refl _)).lt;refine (fE _ _ _ _ _ _ _ _ _ _ (h.ext x0) (g.ext x0)).mono ?_;rintro e w1 ⟨rfl,hx1⟩;have aC:=aN A0 hx1;have z0:=(A0.ext hx1).lt;have aM:=aN A1 hx1;have z1:=(A1.ext hx1).lt;have bj:=aN A2 hx1;have z2:=(A2.ext hx1).lt;go_wp2_with fail
 refine (fE _ _ _ _ _ _ _ _ _ _ ((h'.ext x0).ext hx1) ((g'.ext x0).ext hx1)).mono ?_;rintro e w2 ⟨rfl,hx2⟩;have y2:Ext W w2:=hx1.trans hx2;have aC:=aN A0 y2;have z0:=(A0.ext y2).lt;have aM:=aN A1 y2;have z1:=(A1.ext y2).lt;have bj:=aN A2 y2;have z2:=(A2.ext y2).lt;go_wp2_with fail
 refine (kP _ _ _ _ _ _ _ _ _ _ ((h.ext x0).ext y2) ((g.ext x0).ext y2) HA.o.1 HA.o.2).mono ?_;rintro e w3 ⟨x,y,rfl,i1,i2,i3,i4,pF,hx3⟩;have TV:=ae pF;clear pF
 have y3:Ext W w3:=y2.trans hx3;have aC:=aN A0 y3;have z0:=(A0.ext y3).lt;have aM:=aN A1 y3;have z1:=(A1.ext y3).lt;have bj:=aN A2 y3;have z2:=(A2.ext y3).lt;go_wp2_with fail
 refine (kP _ _ _ _ _ _ _ _ _ _ ((h'.ext x0).ext y3) ((g'.ext x0).ext y3) HB.o.1 HB.o.2).mono ?_;rintro e w4 ⟨x',y',rfl,ZE,ZF,VO,i4',Ef,fl⟩;have Ps:=ae Ef;clear Ef
 have y4:Ext W w4:=y3.trans fl;have aC:=aN A0 y4;have z0:=(A0.ext y4).lt;have aM:=aN A1 y4;have z1:=(A1.ext y4).lt;have bj:=aN A2 y4;have z2:=(A2.ext y4).lt;obtain ⟨m1,m2⟩:=px i1 i2 (by omega: -2147483648<(y':Int)) (by omega);obtain ⟨m3,m4⟩:=px ZE ZF (by omega: -2147483648<(y:Int)) (by omega);obtain ⟨m5,m6⟩:=xD i3 i4 VO i4';have m5':0<(y:Int)*(y':Int):=by rw [←Int.natCast_mul];omega
 have m6':(y:Int)*(y':Int)≤4611686018427387904:=by rw [←Int.natCast_mul];omega
 have o1:x*(y':Int)+x'*(y:Int)<9223372036854775808:=by
  by_cases hh:x<0
  ·have:=Int.mul_nonpos_of_nonpos_of_nonneg (Int.le_of_lt hh) (by omega:(0:Int)≤(y':Int));omega
  ·have:x*(y':Int)≤2147483647*2147483647:=Int.mul_le_mul (by omega) (by omega) (by omega) (by omega)
   omega
 have o2: -9223372036854775808<x*(y':Int)+x'*(y:Int):=by
  by_cases hh:x<0
  ·have:(-x)*(y':Int)≤2147483647*2147483647:=Int.mul_le_mul (by omega) (by omega) (by omega) (by omega)
   rw [Int.neg_mul]at this;omega
  ·have:=Int.mul_nonneg (by omega:(0:Int)≤x) (by omega:(0:Int)≤(y':Int));omega
 go_wp2_with fail
 rw [←Int.natCast_mul];refine (rQ _ _ _ (by omega) (by omega) m5 (by omega)).mono ?_;intro e wz hN;rw [tE _ _ _ _ i3 VO,TV.o,Ps.o]at hN;obtain ⟨az,cz,QN,QO,rfl,Mi,rF,Em,En,kr⟩:=id hN;have aC:=aN A0 (y4.trans kr);have z0:=(A0.ext (y4.trans kr)).lt;have aM:=aN A1 (y4.trans kr);have z1:=(A1.ext (y4.trans kr)).lt;have bj:=aN A2 (y4.trans kr);have z2:=(A2.ext (y4.trans kr)).lt;go_wp2
 exact bodyPost_ret (by simp [results,results164,go_sem, *]) rfl (br.bh (hN.base y4) x0 (Touch.three _ (by omega) (by rw [Z0.o];omega) _ _ _))
theorem Ct (w:World) (s:Bool) (a b:Option Addr) (k c j d n m:Nat) (h:Raw w a k c n) (g:Raw w b j d m) (s':Bool) (a' b':Option Addr) (k' c' j' d' n' m':Nat) (h':Raw w a' k' c' n') (g':Raw w b' j' d' m') (b1:len n<100000000) (b2:len m<100000000) (QP:len n'<100000000) (KG:len m'<100000000) (Fv: ¬mkRat (aZ s n) m=0) (Kk: ¬mkRat (aZ s' n') m'=0) (hA: ¬((n<2147483648∧m<2147483648)∧n'<2147483648∧m'<2147483648)):
 Calls prog 164 #[.agg #[.bool s,.slice a k c,.slice b j d],.agg #[.bool s',.slice a' k' c',.slice b' j' d']] w (br (mkRat (aZ s n) m+mkRat (aZ s' n') m') w):=by
 have hs1:((mkRat (aZ s n) m).num.sign==0)=false:=by rw [beq_eq_false_iff_ne];exact fun h=>Fv (fX.1 h)
 have hs2:((mkRat (aZ s' n') m').num.sign==0)=false:=by rw [beq_eq_false_iff_ne];exact fun h=>Kk (fX.1 h)
 clear Fv Kk;obtain ⟨p,hp,TW⟩:=j8 s a b k c j d n m;obtain ⟨p',TX,TY⟩:=j8 s' a' b' k' c' j' d' n' m'
 have hc:(p=true∧p'=false)∨(p=false∧p'=true)∨(p=false∧p'=false):=by
  cases p with
  |false=>cases p'<;>simp
  |true=>
   cases p' with
   |false=>simp
   |true=>exact absurd ⟨hp.1 rfl,TX.1 rfl⟩ hA
 have HA:=ae TW;have HB:=ae TY
 clear hA hp TX TW TY;rcases hc with⟨rfl,rfl⟩|⟨rfl,rfl⟩|⟨rfl,rfl⟩
 all_goals
  go_enter func164,ntmps164
  go_wp2_with fail
  obtain ⟨W,hW,x0,Z0,A0,A1,A2⟩:=gl w 119 [.bool s,.slice a k c,.slice b j d] 119 [.bool s',.slice a' k' c',.slice b' j' d'] 119 [.bool false,.slice none 0 0,.slice none 0 0];rw [←hW];clear hW;have aC:=aN A0 (Ext.refl _);have z0:=(A0.ext (Ext.refl _)).lt;have aM:=aN A1 (Ext.refl _);have z1:=(A1.ext (Ext.refl _)).lt;have bj:=aN A2 (Ext.refl _);have z2:=(A2.ext (Ext.refl _)).lt;refine (fE _ _ _ _ _ _ _ _ _ _ (h.ext x0) (g.ext x0)).mono ?_;rintro e w1 ⟨rfl,hx1⟩;have aC:=aN A0 hx1;have z0:=(A0.ext hx1).lt;have aM:=aN A1 hx1;have z1:=(A1.ext hx1).lt;have bj:=aN A2 hx1;have z2:=(A2.ext hx1).lt;go_wp2_with fail
  refine (fE _ _ _ _ _ _ _ _ _ _ ((h'.ext x0).ext hx1) ((g'.ext x0).ext hx1)).mono ?_;rintro e w2 ⟨rfl,hx2⟩;have y2:Ext W w2:=hx1.trans hx2;have aC:=aN A0 y2;have z0:=(A0.ext y2).lt;have aM:=aN A1 y2;have z1:=(A1.ext y2).lt;have bj:=aN A2 y2;have z2:=(A2.ext y2).lt;go_wp2_with fail
  refine (HA.o _ ((h.ext x0).ext y2) ((g.ext x0).ext y2)).mono ?_;rintro e w3 ⟨x,y,rfl,hx3⟩;have y3:Ext W w3:=y2.trans hx3;have aC:=aN A0 y3;have z0:=(A0.ext y3).lt;have aM:=aN A1 y3;have z1:=(A1.ext y3).lt;have bj:=aN A2 y3;have z2:=(A2.ext y3).lt;go_wp2_with fail
  refine (HB.o _ ((h'.ext x0).ext y3) ((g'.ext x0).ext y3)).mono ?_;rintro e w4 ⟨x',y',rfl,fl⟩;have y4:Ext W w4:=y3.trans fl;have aC:=aN A0 y4;have z0:=(A0.ext y4).lt;have aM:=aN A1 y4;have z1:=(A1.ext y4).lt;have bj:=aN A2 y4;have z2:=(A2.ext y4).lt;go_wp2_with fail
  refine (kO _ _ _ _ _ _ _ _ _ _ ((h.ext x0).ext y4) ((g.ext x0).ext y4)).mono ?_;rintro e w5 ⟨s1,a1,k1,c1,n1,e1,j1,d1,m1,rfl,h1,g1,xt,hv,l1,l2,dY⟩;have HV:=ae hv;clear hv
  have y5:Ext W w5:=y4.trans dY;have aC:=aN A0 y5;have z0:=(A0.ext y5).lt;have aM:=aN A1 y5;have z1:=(A1.ext y5).lt;have bj:=aN A2 y5;have z2:=(A2.ext y5).lt;have P5:=aQ.alloc w5 117 [.bool s1,.slice a1 k1 c1];have Pt:=y5.alloc (.cells #[.bool s1,.slice a1 k1 c1] 117);go_wp2_with fail
  refine (kO _ _ _ _ _ _ _ _ _ _ ((h'.ext x0).ext Pt) ((g'.ext x0).ext Pt)).mono ?_;rintro e w6 ⟨s2,a2,k2,c2,n2,e2,j2,d2,m2,rfl,h2,g2,nc,hv2,l3,l4,jB⟩;have KS:=ae hv2;clear hv2
  have y6:Ext W w6:=Pt.trans jB;have aC:=aN A0 y6;have z0:=(A0.ext y6).lt;have aM:=aN A1 y6;have z1:=(A1.ext y6).lt;have bj:=aN A2 y6;have z2:=(A2.ext y6).lt;obtain ⟨p0,p1,p2,p3⟩:=ax P5 jB;have pz:=(P5.ext jB).lt;have yV:Ext w6 (w6.alloc (.cells #[.bool s2,.slice a2 k2 c2] 117)):=(Ext.refl _).alloc _;have PV:=(P5.ext jB).ext yV;have QV:=aQ.alloc w6 117 [.bool s2,.slice a2 k2 c2];have H1:=((h1.ext ((Ext.refl w5).alloc _)).ext jB).ext yV;have G1:=((g1.ext ((Ext.refl w5).alloc _)).ext jB).ext yV;have H2:=h2.ext yV;have G2:=g2.ext yV;have yW:=y6.trans yV;go_wp2_with fail
  refine (dJ _ _ _ _ _ _ _ _ _ G1 G2).mono ?_;rintro e w7 ⟨rfl,Pu⟩;have y7:Ext W w7:=yW.trans Pu.ext;have aC:=aN A0 y7;have z0:=(A0.ext y7).lt;have aM:=aN A1 y7;have z1:=(A1.ext y7).lt;have bj:=aN A2 y7;have z2:=(A2.ext y7).lt;have P7:=PV.ext Pu.ext;have Q7:=QV.ext Pu.ext;obtain ⟨p0,p1,p2,p3⟩:=ax P7 (Ext.refl _);obtain ⟨q0,q1,q2,q3⟩:=ax Q7 (Ext.refl _);have pz:=P7.lt;have qz:=Q7.lt;have H1:=H1.ext Pu.ext;have H2:=H2.ext Pu.ext;have G1:=G1.ext Pu.ext;have G2:=G2.ext Pu.ext;by_cases heq:m1=m2
  ·subst heq
   have hcm:fc m1 m1=0:=by unfold fc;simp
   rw [hcm];clear hcm
   go_wp2_with fail
   refine (FK _ _ _ _ _ _ _ _ _ _ _ H1 H2 (by omega) (by omega)).mono ?_;rintro e w8 ⟨a8,c8,rfl,Kh,QM,g_⟩;have y8:Ext W w8:=y7.trans g_;have aC:=aN A0 y8;have z0:=(A0.ext y8).lt;have aM:=aN A1 y8;have z1:=(A1.ext y8).lt;have bj:=aN A2 y8;have z2:=(A2.ext y8).lt;have bl:=qi (aZ s1 n1) (aZ s2 n2);rw [bF,bF]at bl;go_wp2_with fail
   refine (qh _ _ _ _ _ _ _ _ _ _ Kh (G1.ext g_) xt (by omega) (by omega)).mono ?_;intro e wz hN;rw [fQ,wh _ _ _ xt,HV.o,KS.o]at hN;obtain ⟨az,cz,QN,QO,rfl,Mi,rF,Em,En,kr⟩:=id hN;have aC:=aN A0 (y8.trans kr);have z0:=(A0.ext (y8.trans kr)).lt;have aM:=aN A1 (y8.trans kr);have z1:=(A1.ext (y8.trans kr)).lt;have bj:=aN A2 (y8.trans kr);have z2:=(A2.ext (y8.trans kr)).lt;go_wp2
   exact bodyPost_ret (by simp [results,results164,go_sem, *]) rfl (br.bh (hN.base y8) x0 (Touch.three _ (by omega) (by rw [Z0.o];omega) _ _ _))
  ·have hcm:(fc m1 m2==0)=false:=by rw [beq_eq_false_iff_ne];rcases CT m1 m2 with h|h|h<;>omega
   go_wp2
   have bl1:len (aZ s1 n1*aZ false m2).natAbs<1000000000:=by rw [Int.natAbs_mul,bF,bF];have:=lX n1 m2;omega
   have bl2:len (aZ s2 n2*aZ false m1).natAbs<1000000000:=by rw [Int.natAbs_mul,bF,bF];have:=lX n2 m1;omega
   have bl3:=qi (aZ s1 n1*aZ false m2) (aZ s2 n2*aZ false m1);rw [Int.natAbs_mul,Int.natAbs_mul,bF,bF,bF,bF]at bl3;have bl4:=lX n1 m2;have bl5:=lX n2 m1;have bl6:=lX m1 m2;have Kj:True:=trivial;have sW:w.heap.size+3≤w7.heap.size:=by have:=y7.size;rw [Z0.o]at this;exact this
   go_cut [15] (fun s15 wx=> ∃(bb:Nat) (az:Option Addr) (cz:Nat),s15= .pointer (some ⟨bb,0,none⟩)∧w.heap.size+3≤bb∧Hid (aQ wx bb 117 [.bool (decide (aZ s1 n1*aZ false m2+aZ s2 n2*aZ false m1<0)),.slice az (len (aZ s1 n1*aZ false m2+aZ s2 n2*aZ false m1).natAbs) cz])∧Raw wx az (len (aZ s1 n1*aZ false m2+aZ s2 n2*aZ false m1).natAbs) cz (aZ s1 n1*aZ false m2+aZ s2 n2*aZ false m1).natAbs∧Ext w7 wx)
   case first=>
    go_region_held3 (fun w'=>w'.cell? ⟨w5.heap.size,0,none⟩=some (.bool s1)∧w'.cell? ⟨w5.heap.size,1,none⟩=some (.slice a1 k1 c1)∧w'.cell? ⟨w6.heap.size,0,none⟩=some (.bool s2)∧w'.cell? ⟨w6.heap.size,1,none⟩=some (.slice a2 k2 c2)) (first|exact ⟨p0,p1,q0,q1⟩|(simp [go_sem,p0,p1,q0,q1,pz,qz];done)|(simp [go_sem,p0,p1,q0,q1,pz,qz];omega)) (first
     |(go_at_call 161;have _t:=Kj;refine (uR _ _ _ _ _ _ _ _ _ _ _ (H1.ext (by repeat(first|exact Ext.refl _|exact v10|exact v9|exact v8|refine Ext.trans ?_ dI|refine Ext.trans ?_ jC|refine Ext.trans ?_ g_|refine Ext.drew ?_|refine Ext.alloc ?_ _|refine Ext.setCell ?_ (by simp;omega) _))) (G2.ext (by repeat(first|exact Ext.refl _|exact v10|exact v9|exact v8|refine Ext.trans ?_ dI|refine Ext.trans ?_ jC|refine Ext.trans ?_ g_|refine Ext.drew ?_|refine Ext.alloc ?_ _|refine Ext.setCell ?_ (by simp;omega) _))) (by omega) (by omega)).mono ?_;rintro e w8 ⟨a8,c8,rfl,Kh,QM,g_⟩;clear Kj _t;have v8:Ext w7 w8:=(by repeat(first|exact Ext.refl _|exact v10|exact v9|exact v8|refine Ext.trans ?_ dI|refine Ext.trans ?_ jC|refine Ext.trans ?_ g_|refine Ext.drew ?_|refine Ext.alloc ?_ _|refine Ext.setCell ?_ (by simp;omega) _));have z8:=v8.size;obtain ⟨p0,p1,p2,p3⟩:=ax P7 v8;obtain ⟨q0,q1,q2,q3⟩:=ax Q7 v8;have pz:=(P7.ext v8).lt;have qz:=(Q7.ext v8).lt;(first|(have RB:aQ w8 w7.heap.size 117 [.bool false,.slice none 0 0]:=(aQ.alloc w7.drew 117 [.bool false,.slice none 0 0]).ext g_;obtain ⟨r0,r1,r2,r3⟩:=ax RB (Ext.refl _);have rz:=RB.lt)|skip))
     |(go_at_call 161;refine (uR _ _ _ _ _ _ _ _ _ _ _ (H2.ext (by repeat(first|exact Ext.refl _|exact v10|exact v9|exact v8|refine Ext.trans ?_ dI|refine Ext.trans ?_ jC|refine Ext.trans ?_ g_|refine Ext.drew ?_|refine Ext.alloc ?_ _|refine Ext.setCell ?_ (by simp;omega) _))) (G1.ext (by repeat(first|exact Ext.refl _|exact v10|exact v9|exact v8|refine Ext.trans ?_ dI|refine Ext.trans ?_ jC|refine Ext.trans ?_ g_|refine Ext.drew ?_|refine Ext.alloc ?_ _|refine Ext.setCell ?_ (by simp;omega) _))) (by omega) (by omega)).mono ?_;rintro e w9 ⟨a9,c9,rfl,OV,VP,jC⟩;have v9:Ext w7 w9:=(by repeat(first|exact Ext.refl _|exact v10|exact v9|exact v8|refine Ext.trans ?_ dI|refine Ext.trans ?_ jC|refine Ext.trans ?_ g_|refine Ext.drew ?_|refine Ext.alloc ?_ _|refine Ext.setCell ?_ (by simp;omega) _));have z9:=v9.size;obtain ⟨p0,p1,p2,p3⟩:=ax P7 v9;obtain ⟨q0,q1,q2,q3⟩:=ax Q7 v9;have pz:=(P7.ext v9).lt;have qz:=(Q7.ext v9).lt;(first|(have RB:=RB.ext jC;obtain ⟨r0,r1,r2,r3⟩:=ax RB (Ext.refl _);have rz:=RB.lt)|(have RB:=(aQ.alloc w8 117 [.bool false,.slice none 0 0]).ext jC;obtain ⟨r0,r1,r2,r3⟩:=ax RB (Ext.refl _);have rz:=RB.lt)|skip))
     |(go_at_call 192;refine (FK _ _ _ _ _ _ _ _ _ _ _ (Kh.ext (by repeat(first|exact Ext.refl _|exact v10|exact v9|exact v8|refine Ext.trans ?_ dI|refine Ext.trans ?_ jC|refine Ext.trans ?_ g_|refine Ext.drew ?_|refine Ext.alloc ?_ _|refine Ext.setCell ?_ (by simp;omega) _))) (OV.ext (by repeat(first|exact Ext.refl _|exact v10|exact v9|exact v8|refine Ext.trans ?_ dI|refine Ext.trans ?_ jC|refine Ext.trans ?_ g_|refine Ext.drew ?_|refine Ext.alloc ?_ _|refine Ext.setCell ?_ (by simp;omega) _))) bl1 bl2).mono ?_;rintro e qO ⟨FI,c10,rfl,Pv,TZ,dI⟩;have v10:Ext w7 qO:=(by repeat(first|exact Ext.refl _|exact v10|exact v9|exact v8|refine Ext.trans ?_ dI|refine Ext.trans ?_ jC|refine Ext.trans ?_ g_|refine Ext.drew ?_|refine Ext.alloc ?_ _|refine Ext.setCell ?_ (by simp;omega) _));have KW:=v10.size;obtain ⟨p0,p1,p2,p3⟩:=ax P7 v10;obtain ⟨q0,q1,q2,q3⟩:=ax Q7 v10;have pz:=(P7.ext v10).lt;have qz:=(Q7.ext v10).lt;(first|(have RB:=RB.ext dI;obtain ⟨r0,r1,r2,r3⟩:=ax RB (Ext.refl _);have rz:=RB.lt)|(have RB:=(aQ.alloc w9 117 [.bool false,.slice none 0 0]).ext dI;obtain ⟨r0,r1,r2,r3⟩:=ax RB (Ext.refl _);have rz:=RB.lt)|skip)))
    all_goals go_wp2_with fail
    all_goals go_meet
    all_goals simp only [fQ]at Pv⊢
    all_goals first
     |exact ⟨_,FI,c10,rfl,by omega,aQ.alloc _ _ _,Pv.ext ((Ext.refl _).alloc _),(by repeat(first|exact Ext.refl _|exact v10|exact v9|exact v8|refine Ext.trans ?_ dI|refine Ext.trans ?_ jC|refine Ext.trans ?_ g_|refine Ext.drew ?_|refine Ext.alloc ?_ _|refine Ext.setCell ?_ (by simp;omega) _))⟩
     |exact ⟨_,FI,c10,rfl,by omega,(RB.set 0 _).set 1 _,Raw.setCell (Raw.setCell Pv _ _ (TZ.ne (by first|(simp;done)|(simp;omega)|omega))) _ _ (TZ.ne (by first|(simp;done)|(simp;omega)|omega)),Ext.rS v10 (by omega) _ _⟩
   case rest=>
    obtain ⟨bb,az,cz,rfl,hb3,hA,hR,g_⟩:=hcut;have y8:Ext W wc:=y7.trans g_;have aC:=aN A0 y8;have z0:=(A0.ext y8).lt;have aM:=aN A1 y8;have z1:=(A1.ext y8).lt;have bj:=aN A2 y8;have z2:=(A2.ext y8).lt;have A8:=hA.o;obtain ⟨r0,r1,r2,r3⟩:=ax A8 (Ext.refl _);have nb1: ¬(w.heap.size+1+1=bb):=by omega
    have nb2: ¬(bb=w.heap.size+1+1):=by omega
    have nb3: ¬(w.heap.size+2=bb):=by omega
    have nb4: ¬(bb=w.heap.size+2):=by omega
    have G1:=G1.ext g_;have G2:=G2.ext g_;go_wp2
    go_region_held3 (fun w'=>w'.cell? ⟨bb,0,none⟩=some (.bool (decide (aZ s1 n1*aZ false m2+aZ s2 n2*aZ false m1<0)))∧w'.cell? ⟨bb,1,none⟩=some (.slice az (len (aZ s1 n1*aZ false m2+aZ s2 n2*aZ false m1).natAbs) cz)) (first|exact ⟨r0,r1⟩|(simp [go_sem,r0,r1];done)) (first
     |(go_at_call 188;refine (uP _ _ _ _ _ _ _ _ _ (G1.ext (by exact (Ext.refl _).drew)) (G2.ext (by exact (Ext.refl _).drew)) (by omega) (by omega)).mono ?_;rintro e YP ⟨Zm,c11,rfl,ZH,afj,nX⟩;obtain ⟨r0,r1,r2,r3⟩:=ax A8 ((Ext.refl wc).drew.trans nX);have aC:=aN A0 ((y8.drew).trans nX);have z0:=(A0.ext ((y8.drew).trans nX)).lt;have aM:=aN A1 ((y8.drew).trans nX);have z1:=(A1.ext ((y8.drew).trans nX)).lt;have bj:=aN A2 ((y8.drew).trans nX);have z2:=(A2.ext ((y8.drew).trans nX)).lt)
     |(go_at_call 190;refine (qh _ _ _ _ _ _ _ _ _ _ ((hR.ext (by exact (Ext.refl _).drew)).ext nX) ZH (Nat.mul_pos xt nc) (by omega) (by omega)).mono ?_;intro e wz hN;rw [fQ,fj,fj,tE _ _ _ _ xt nc,HV.o,KS.o]at hN;obtain ⟨au,cu,au',cu',rfl,Mi,rF,Em,En,kr⟩:=id hN;obtain ⟨r0,r1,r2,r3⟩:=ax A8 (((Ext.refl wc).drew.trans nX).trans kr);have aC:=aN A0 (((y8.drew).trans nX).trans kr);have z0:=(A0.ext (((y8.drew).trans nX).trans kr)).lt;have aM:=aN A1 (((y8.drew).trans nX).trans kr);have z1:=(A1.ext (((y8.drew).trans nX).trans kr)).lt;have bj:=aN A2 (((y8.drew).trans nX).trans kr);have z2:=(A2.ext (((y8.drew).trans nX).trans kr)).lt))
    go_wp2
    exact bodyPost_ret (by simp [results,results164,go_sem, *]) rfl (br.bh (hN.base ((y8.drew).trans nX)) x0 (Touch.three _ (by omega) (by rw [Z0.o];omega) _ _ _))
theorem FM (w:World) (s:Bool) (a b:Option Addr) (k c j d n m:Nat) (h:Raw w a k c n) (g:Raw w b j d m) (s':Bool) (a' b':Option Addr) (k' c' j' d' n' m':Nat) (h':Raw w a' k' c' n') (g':Raw w b' j' d' m') (b1:len n<100000000) (b2:len m<100000000) (QP:len n'<100000000) (KG:len m'<100000000):
 Calls prog 164 #[.agg #[.bool s,.slice a k c,.slice b j d],.agg #[.bool s',.slice a' k' c',.slice b' j' d']] w (br (mkRat (aZ s n) m+mkRat (aZ s' n') m') w):=by
 by_cases h0:mkRat (aZ s n) m=0
 ·exact xF w _ _ _ _ _ _ _ _ _ h g _ _ _ _ _ _ _ _ _ h' g' (fun V p q=>vZ V _ _ _ _ _ _ _ _ _ p q QP KG) h0
 by_cases Pq:mkRat (aZ s' n') m'=0
 ·exact xG w _ _ _ _ _ _ _ _ _ h g _ _ _ _ _ _ _ _ _ h' g' (fun V p q=>vZ V _ _ _ _ _ _ _ _ _ p q b1 b2) h0 Pq
 by_cases ha:(n<2147483648∧m<2147483648)∧n'<2147483648∧m'<2147483648
 ·exact Ep w _ _ _ _ _ _ _ _ _ h g _ _ _ _ _ _ _ _ _ h' g' h0 Pq ha.1 ha.2
 ·exact Ct w _ _ _ _ _ _ _ _ _ h g _ _ _ _ _ _ _ _ _ h' g' b1 b2 QP KG h0 Pq ha
theorem xH (s:Bool) (n m:Nat):mkRat (aZ (!s) n) m= -mkRat (aZ s n) m:=by rw [rL,Rat.neg_mkRat]
end Go.Proofs.YtkpngkdgphojlaaGreat
