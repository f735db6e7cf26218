/- Texts of the proof. -/
import Derived.Test.YtfokdakioeoniaaGreatCj8
set_option linter.all false
set_option maxHeartbeats 4000000
set_option maxRecDepth 100000
namespace Go.Proofs.YtfokdakioeoniaaGreat
open Go.Proofs.Tryz
open Go.RowKit
def fY (p q:Rat):Int:=eK (p.num*q.den) (q.num*p.den)
theorem J_ {p q:Rat}:fY p q<0↔p<q:=by
 rw [Rat.lt_iff];unfold fY eK;split
 .simp [*]
 .split<;>simp [*]
theorem uL {p q:Rat}:0<fY p q↔q<p:=by
 rw [Rat.lt_iff];unfold fY eK;split
 .simp;omega
 .split
  .simp;omega
  .simp;omega
theorem r_ {p q:Rat}:fY p q=0↔p=q:=by
 rw [Rat.eq_iff_mul_eq_mul];unfold fY eK;split
 .simp;omega
 .split
  .simp [*]
  .simp [*]
theorem Iw (p q:Rat):fY p q= -1\/fY p q=0\/fY p q=1:=by
 unfold fY eK;split
 .simp
 .split<;>simp
theorem Ix (a b c:Int) (h:0<c):eK (a*c) (b*c)=eK a b:=by
 unfold eK;by_cases h1:a<b
 .rw [if_pos h1,if_pos (Int.mul_lt_mul_of_pos_right h1 h)]
 .have h2: ¬a*c<b*c:=λhh=>h1 (Int.lt_of_mul_lt_mul_right hh (Int.le_of_lt h))
  rw [if_neg h1,if_neg h2];by_cases h3:a=b
  .rw [if_pos h3,if_pos (by rw [h3])]
  .rw [if_neg h3,if_neg (λhh=>h3 (Int.eq_of_mul_eq_mul_right ae hh))]
theorem pI (x:Int) (y:Nat) (h:0<y): ∃g:Nat,0<g/\x=(mkRat x y).num*g/\y=(mkRat x y).den*g:=by
 obtain ⟨g,h1,h2,h3⟩:=Rat.mkRat_num_den (n:=x) (d:=y) ae (n':=(mkRat x y).num) (d':=(mkRat x y).den) (z':=(mkRat x y).den_nz) (c:=(mkRat x y).reduced) rfl;exact ⟨g,ae,h2,h3⟩
theorem zu (x x':Int) (y y':Nat) (h:0<y) (h':0<y'):fY (mkRat x y) (mkRat x' y')=eK (x*y') (x'*y):=by
 obtain ⟨g,g0,e1,e2⟩:=pI x y h;obtain ⟨g',g0',ZQ,e2'⟩:=pI x' y' h';generalize mkRat x y=p at*;generalize mkRat x' y'=q at*;subst e1 e2 ZQ e2';unfold fY;rw [<-Ix _ _ ((g:Int)*(g':Int)) (Int.mul_pos ae ae)];congr 1
 .rw [Int.natCast_mul];simp only [Int.mul_assoc,Int.mul_left_comm,Int.mul_comm]
 .rw [Int.natCast_mul];simp only [Int.mul_assoc,Int.mul_left_comm,Int.mul_comm]
theorem mS (x:Int) (d:Nat) (h:0<d):(x*(d:Int)).sign=x.sign:=by
 have hd:(0:Int)<(d:Int):=ae;rw [Int.sign_mul,Int.sign_eq_one_of_pos hd,Int.mul_one]
theorem B9 {p q:Rat} (h:p.num.sign≠q.num.sign):eK p.num.sign q.num.sign=fY p q:=by
 have hp:=mS p.num q.den (Nat.pos_of_ne_zero q.den_nz);have hq:=mS q.num p.den (Nat.pos_of_ne_zero p.den_nz);unfold fY;by_cases h1:p.num.sign<q.num.sign
 .rw [uJ h1,uJ (yI (by rw [hp,hq];exact h1))]
 .rw [uK ae,uK (yI (by rw [hp,hq];omega))]
theorem kp (w:World) (x:Int):Calls prog 146 #[.int .i64 x] w λe w'=>e= .returned (.bool false)/\w=w':=by
 go_enter func146,ntmps146
 go_wp2
 go_ret;exact ⟨aX,rfl⟩
theorem uM (w:World) (x y:Int):Calls prog 70 #[.int .i64 x,.int .i64 y] w λe w'=>e= .returned (.int .i64 (eK x y))/\w=w':=by
 by_cases h1:x<y
 .have e1:=uJ h1
  have E1:=af e1;clear e1
  go_enter func70,ntmps70
  go_wp2_with fail
  refine (kp _ _).mono ?_;rintro e w' ⟨rfl,rfl⟩;go_wp2_with fail
  refine (kp _ _).mono ?_;rintro e w' ⟨rfl,rfl⟩;go_wp2
  go_ret;exact ⟨cL E1.o.symm,rfl⟩
 .by_cases h2:y<x
  .have e1:=uK h2
   have E1:=af e1;clear e1
   go_enter func70,ntmps70
   go_wp2_with fail
   refine (kp _ _).mono ?_;rintro e w' ⟨rfl,rfl⟩;go_wp2_with fail
   refine (kp _ _).mono ?_;rintro e w' ⟨rfl,rfl⟩;go_wp2
   go_ret;exact ⟨cL E1.o.symm,rfl⟩
  .obtain rfl:x=y:=ae
   have e1:eK x x=0:=by unfold eK;simp
   have E1:=af e1;clear e1
   go_enter func70,ntmps70
   go_wp2_with fail
   refine (kp _ _).mono ?_;rintro e w' ⟨rfl,rfl⟩;go_wp2_with fail
   refine (kp _ _).mono ?_;rintro e w' ⟨rfl,rfl⟩;go_wp2
   go_ret;exact ⟨cL E1.o.symm,rfl⟩
theorem je (w:World) (x:Int):Calls prog 226 #[.int .i64 x] w λe w'=>e= .returned (.bool false)/\w=w':=by
 go_enter func226,ntmps226
 go_wp2
 go_ret;exact ⟨aX,rfl⟩
theorem LC (w:World) (x y:Int):Calls prog 139 #[.int .i64 x,.int .i64 y] w λe w'=>e= .returned (.int .i64 (eK x y))/\w=w':=by
 by_cases h1:x<y
 .have e1:=uJ h1
  have E1:=af e1;clear e1
  go_enter func139,ntmps139
  go_wp2_with fail
  refine (je _ _).mono ?_;rintro e w' ⟨rfl,rfl⟩;go_wp2_with fail
  refine (je _ _).mono ?_;rintro e w' ⟨rfl,rfl⟩;go_wp2
  go_ret;exact ⟨cL E1.o.symm,rfl⟩
 .by_cases h2:y<x
  .have e1:=uK h2
   have E1:=af e1;clear e1
   go_enter func139,ntmps139
   go_wp2_with fail
   refine (je _ _).mono ?_;rintro e w' ⟨rfl,rfl⟩;go_wp2_with fail
   refine (je _ _).mono ?_;rintro e w' ⟨rfl,rfl⟩;go_wp2
   go_ret;exact ⟨cL E1.o.symm,rfl⟩
  .obtain rfl:x=y:=ae
   have e1:eK x x=0:=by unfold eK;simp
   have E1:=af e1;clear e1
   go_enter func139,ntmps139
   go_wp2_with fail
   refine (je _ _).mono ?_;rintro e w' ⟨rfl,rfl⟩;go_wp2_with fail
   refine (je _ _).mono ?_;rintro e w' ⟨rfl,rfl⟩;go_wp2
   go_ret;exact ⟨cL E1.o.symm,rfl⟩
theorem uN (w:World) (s:Bool) (a b:Option Addr) (k c j d n m:Nat) (h:Raw w a k c n) (g:Raw w b j d m) (s':Bool) (a' b':Option Addr) (k' c' j' d' n' m':Nat) (h':Raw w a' k' c' n') (g':Raw w b' j' d' m') (ha:(n<2147483648/\m<2147483648)/\n'<2147483648/\m'<2147483648):
 Calls prog 62 #[.agg #[.bool s,.slice a k c,.slice b j d],.agg #[.bool s',.slice a' k' c',.slice b' j' d']] w λe w'=>e= .returned (.int .i64 (fY (mkRat (bf s n) m) (mkRat (bf s' n') m')))/\Ext w w':=by
 by_cases hs:(mkRat (bf s n) m).num.sign=(mkRat (bf s' n') m').num.sign
 .have hs':((mkRat (bf s n) m).num.sign !=(mkRat (bf s' n') m').num.sign)=false:=by rw [hs];simp
  have HS:=af hs;clear hs
  have HA:=af ha.1;have HB:=af ha.2;clear ha
  go_enter func62,ntmps62
  go_wp2
  obtain ⟨W,hW,x0,Z0,A0,A1⟩:=dV w 63 [.bool s,.slice a k c,.slice b j d] 63 [.bool s',.slice a' k' c',.slice b' j' d'];rw [<-hW];clear hW;obtain ⟨z0,z1,⟨aD,aF,bn,aM,aN,bG⟩,aJ,aK,bM,aR,aS,bT⟩:=bb2 aA aA A0 A1 ah;have gC:True:=trivial
  go_region_held3 (λw'=>w'.cell? ⟨w.heap.size,0,none⟩=some (.bool s)/\w'.cell? ⟨w.heap.size,1,none⟩=some (.slice a k c)/\w'.cell? ⟨w.heap.size,2,none⟩=some (.slice b j d)/\w'.cell? ⟨w.heap.size+1,0,none⟩=some (.bool s')/\w'.cell? ⟨w.heap.size+1,1,none⟩=some (.slice a' k' c')/\w'.cell? ⟨w.heap.size+1,2,none⟩=some (.slice b' j' d')) (first|exact ⟨aD,aF,bn,aJ,aK,bM⟩|(simp [go_sem,aD,aF,bn,aJ,aK,bM])) (first
   |(go_at_call 100;have _t:=gC;refine (fP _ _ _ _ _ _ _ _ _ _ ((h.ext x0).ext (by exact ah.drew)) ((g.ext x0).ext (by exact ah.drew))).mono ?_;rintro e w1 ⟨rfl,hx1⟩;clear gC _t;obtain ⟨z0,z1,⟨aD,aF,bn,aM,aN,bG⟩,aJ,aK,bM,aR,aS,bT⟩:=bb2 aA aA A0 A1 (((ah.drew)).trans hx1))
   |(go_at_call 100;refine (fP _ _ _ _ _ _ _ _ _ _ (((h'.ext x0).ext (by exact ah.drew)).ext hx1) (((g'.ext x0).ext (by exact ah.drew)).ext hx1)).mono ?_;rintro e w2 ⟨rfl,hx2⟩;obtain ⟨z0,z1,⟨aD,aF,bn,aM,aN,bG⟩,aJ,aK,bM,aR,aS,bT⟩:=bb2 aA aA A0 A1 ((((ah.drew)).trans hx1).trans hx2)))
  have y2:Ext W w2:=((Ext.refl W).drew.trans hx1).trans hx2;go_wp2_with fail
  refine (jd _ _ _ _ _ _ _ _ _ _ ((h.ext x0).ext y2) ((g.ext x0).ext y2) HA.o.1 HA.o.2).mono ?_;rintro e w3 ⟨x,y,rfl,i1,i2,i3,i4,qH,hx3⟩;have Ue:=af qH;clear qH
  have y3:Ext W w3:=y2.trans hx3;obtain ⟨z0,z1,⟨aD,aF,bn,aM,aN,bG⟩,aJ,aK,bM,aR,aS,bT⟩:=bb2 aA aA A0 A1 y3;go_wp2_with fail
  refine (jd _ _ _ _ _ _ _ _ _ _ ((h'.ext x0).ext y3) ((g'.ext x0).ext y3) HB.o.1 HB.o.2).mono ?_;rintro e w4 ⟨x',y',rfl,i1',i2',ZV,i4',Bc,gW⟩;have N3:=af Bc;clear Bc
  have y4:Ext W w4:=y3.trans gW;obtain ⟨z0,z1,⟨aD,aF,bn,aM,aN,bG⟩,aJ,aK,bM,aR,aS,bT⟩:=bb2 aA aA A0 A1 y4;obtain ⟨m1,m2⟩:=oP i1 i2 (by omega: -2147483648<(y':Int)) ae;obtain ⟨m3,m4⟩:=oP i1' i2' (by omega: -2147483648<(y:Int)) ae;go_wp2_with fail
  refine (LC _ _ _).mono ?_;rintro e w5 ⟨rfl,rfl⟩;go_wp2
  go_ret;exact ⟨cL (by rw [<-Ue.o,<-N3.o,zu _ _ _ _ i3 ZV]),x0.trans y4⟩
 .have hs':((mkRat (bf s n) m).num.sign !=(mkRat (bf s' n') m').num.sign)=true:=by rw [bne_iff_ne];exact hs
  have e1:=B9 hs;have E1:=af e1;clear e1 hs
  go_enter func62,ntmps62
  go_wp2
  obtain ⟨W,hW,x0,Z0,A0,A1⟩:=dV w 63 [.bool s,.slice a k c,.slice b j d] 63 [.bool s',.slice a' k' c',.slice b' j' d'];rw [<-hW];clear hW;obtain ⟨z0,z1,⟨aD,aF,bn,aM,aN,bG⟩,aJ,aK,bM,aR,aS,bT⟩:=bb2 aA aA A0 A1 ah;have gC:True:=trivial
  go_region_held3 (λw'=>w'.cell? ⟨w.heap.size,0,none⟩=some (.bool s)/\w'.cell? ⟨w.heap.size,1,none⟩=some (.slice a k c)/\w'.cell? ⟨w.heap.size,2,none⟩=some (.slice b j d)/\w'.cell? ⟨w.heap.size+1,0,none⟩=some (.bool s')/\w'.cell? ⟨w.heap.size+1,1,none⟩=some (.slice a' k' c')/\w'.cell? ⟨w.heap.size+1,2,none⟩=some (.slice b' j' d')) (first|exact ⟨aD,aF,bn,aJ,aK,bM⟩|(simp [go_sem,aD,aF,bn,aJ,aK,bM])) (first
   |(go_at_call 100;have _t:=gC;refine (fP _ _ _ _ _ _ _ _ _ _ ((h.ext x0).ext (by exact ah.drew)) ((g.ext x0).ext (by exact ah.drew))).mono ?_;rintro e w1 ⟨rfl,hx1⟩;clear gC _t;obtain ⟨z0,z1,⟨aD,aF,bn,aM,aN,bG⟩,aJ,aK,bM,aR,aS,bT⟩:=bb2 aA aA A0 A1 (((ah.drew)).trans hx1))
   |(go_at_call 100;refine (fP _ _ _ _ _ _ _ _ _ _ (((h'.ext x0).ext (by exact ah.drew)).ext hx1) (((g'.ext x0).ext (by exact ah.drew)).ext hx1)).mono ?_;rintro e w2 ⟨rfl,hx2⟩;obtain ⟨z0,z1,⟨aD,aF,bn,aM,aN,bG⟩,aJ,aK,bM,aR,aS,bT⟩:=bb2 aA aA A0 A1 ((((ah.drew)).trans hx1).trans hx2)))
  have y2:Ext W w2:=((Ext.refl W).drew.trans hx1).trans hx2;go_wp2_with fail
  refine (uM _ _ _).mono ?_;rintro e w3 ⟨rfl,rfl⟩;go_wp2
  go_ret;exact ⟨cL E1.o,x0.trans y2⟩
theorem lO (s:Bool) (a b:Option Addr) (k c j d n m:Nat): ∃p:Bool,(p=true↔n<2147483648/\m<2147483648)/\ ∀w,Raw w a k c n->Raw w b j d m->Calls prog 102 #[.agg #[.bool s,.slice a k c,.slice b j d]] w λe w'=> ∃x y:Int,e= .returned (.tuple #[.int .i64 x,.int .i64 y,.bool p])/\Ext w w':=by
 by_cases hs:n<2147483648/\m<2147483648
 .refine ⟨true,by simp [hs],λw h g=>(jd w s a b k c j d n m h g hs.1 hs.2).mono ?_⟩
  rintro e w' ⟨x,y,rfl,-,-,-,-,-,hx⟩;exact ⟨x,y,rfl,hx⟩
 .refine ⟨false,by simp [hs],λw h g=>(jJ w s a b k c j d n m h g hs).mono ?_⟩
  rintro e w' ⟨rfl,hx⟩;exact ⟨0,0,rfl,hx⟩
theorem kq (w:World) (s:Bool) (a b:Option Addr) (k c j d n m:Nat) (h:Raw w a k c n) (g:Raw w b j d m) (s':Bool) (a' b':Option Addr) (k' c' j' d' n' m':Nat) (h':Raw w a' k' c' n') (g':Raw w b' j' d' m') (b1:len n<100000000) (b2:len m<100000000) (rZ:len n'<100000000) (rW:len m'<100000000):
 Calls prog 62 #[.agg #[.bool s,.slice a k c,.slice b j d],.agg #[.bool s',.slice a' k' c',.slice b' j' d']] w λe w'=>e= .returned (.int .i64 (fY (mkRat (bf s n) m) (mkRat (bf s' n') m')))/\Ext w w':=by
 by_cases hs:(mkRat (bf s n) m).num.sign=(mkRat (bf s' n') m').num.sign
 .have hs':((mkRat (bf s n) m).num.sign !=(mkRat (bf s' n') m').num.sign)=false:=by rw [hs];simp
  have HS:=af hs;clear hs
  by_cases ha:(n<2147483648/\m<2147483648)/\n'<2147483648/\m'<2147483648
  .exact uN w _ _ _ _ _ _ _ _ _ h g _ _ _ _ _ _ _ _ _ h' g' ha
  .obtain ⟨p,hp,Xn⟩:=lO s a b k c j d n m
   obtain ⟨p',Xo,Xp⟩:=lO s' a' b' k' c' j' d' n' m'
   have hc:(p=true/\p'=false)\/(p=false/\p'=true)\/(p=false/\p'=false):=by
    cases p with
    |false=>cases p'<;>simp
    |true=>
     cases p' with
     |false=>simp
     |true=>exact absurd ⟨hp.1 rfl,Xo.1 rfl⟩ ha
   have HA:=af Xn;have HB:=af Xp
   clear ha hp Xo Xn Xp;rcases hc with⟨rfl,rfl⟩|⟨rfl,rfl⟩|⟨rfl,rfl⟩
   all_goals
    go_enter func62,ntmps62
    go_wp2
    obtain ⟨W,hW,x0,Z0,A0,A1⟩:=dV w 63 [.bool s,.slice a k c,.slice b j d] 63 [.bool s',.slice a' k' c',.slice b' j' d'];rw [<-hW];clear hW;obtain ⟨z0,z1,⟨aD,aF,bn,aM,aN,bG⟩,aJ,aK,bM,aR,aS,bT⟩:=bb2 aA aA A0 A1 ah;have gC:True:=trivial
    go_region_held3 (λw'=>w'.cell? ⟨w.heap.size,0,none⟩=some (.bool s)/\w'.cell? ⟨w.heap.size,1,none⟩=some (.slice a k c)/\w'.cell? ⟨w.heap.size,2,none⟩=some (.slice b j d)/\w'.cell? ⟨w.heap.size+1,0,none⟩=some (.bool s')/\w'.cell? ⟨w.heap.size+1,1,none⟩=some (.slice a' k' c')/\w'.cell? ⟨w.heap.size+1,2,none⟩=some (.slice b' j' d')) (first|exact ⟨aD,aF,bn,aJ,aK,bM⟩|(simp [go_sem,aD,aF,bn,aJ,aK,bM])) (first
     |(go_at_call 100;have _t:=gC;refine (fP _ _ _ _ _ _ _ _ _ _ ((h.ext x0).ext (by exact ah.drew)) ((g.ext x0).ext (by exact ah.drew))).mono ?_;rintro e w1 ⟨rfl,hx1⟩;clear gC _t;obtain ⟨z0,z1,⟨aD,aF,bn,aM,aN,bG⟩,aJ,aK,bM,aR,aS,bT⟩:=bb2 aA aA A0 A1 (((ah.drew)).trans hx1))
     |(go_at_call 100;refine (fP _ _ _ _ _ _ _ _ _ _ (((h'.ext x0).ext (by exact ah.drew)).ext hx1) (((g'.ext x0).ext (by exact ah.drew)).ext hx1)).mono ?_;rintro e w2 ⟨rfl,hx2⟩;obtain ⟨z0,z1,⟨aD,aF,bn,aM,aN,bG⟩,aJ,aK,bM,aR,aS,bT⟩:=bb2 aA aA A0 A1 ((((ah.drew)).trans hx1).trans hx2)))
    have y2:Ext W w2:=((Ext.refl W).drew.trans hx1).trans hx2;go_wp2_with fail
    refine (HA.o _ ((h.ext x0).ext y2) ((g.ext x0).ext y2)).mono ?_;rintro e w3 ⟨x,y,rfl,hx3⟩;have y3:Ext W w3:=y2.trans hx3;obtain ⟨z0,z1,⟨aD,aF,bn,aM,aN,bG⟩,aJ,aK,bM,aR,aS,bT⟩:=bb2 aA aA A0 A1 y3;go_wp2_with fail
    refine (HB.o _ ((h'.ext x0).ext y3) ((g'.ext x0).ext y3)).mono ?_;rintro e w4 ⟨x',y',rfl,gW⟩;have y4:Ext W w4:=y3.trans gW;obtain ⟨z0,z1,⟨aD,aF,bn,aM,aN,bG⟩,aJ,aK,bM,aR,aS,bT⟩:=bb2 aA aA A0 A1 y4;go_wp2_with fail
    refine (gU _ _ _ _ _ _ _ _ _ _ ((h.ext x0).ext y4) ((g.ext x0).ext y4)).mono ?_;rintro e w5 ⟨s1,a1,k1,c1,n1,e1,j1,d1,m1,rfl,h1,g1,qN,hv,l1,l2,gl⟩;have HV:=af hv;clear hv
    have y5:Ext W w5:=y4.trans gl;obtain ⟨z0,z1,⟨aD,aF,bn,aM,aN,bG⟩,aJ,aK,bM,aR,aS,bT⟩:=bb2 aA aA A0 A1 y5;have P5:=aY.alloc w5 61 [.bool s1,.slice a1 k1 c1];have Ug:=y5.alloc (.cells #[.bool s1,.slice a1 k1 c1] 61);go_wp2_with fail
    refine (gU _ _ _ _ _ _ _ _ _ _ ((h'.ext x0).ext Ug) ((g'.ext x0).ext Ug)).mono ?_;rintro e w6 ⟨s2,a2,k2,c2,n2,e2,j2,d2,m2,rfl,h2,g2,J0,hv2,l3,l4,kZ⟩;have J1:=af hv2;clear hv2
    have y6:Ext W w6:=Ug.trans kZ;obtain ⟨pz,p0,p1,p2,p3⟩:=bb1 aC P5 kZ;go_wp2
    obtain ⟨V,hV⟩: ∃V,V=w6.alloc (.cells #[.bool s2,.slice a2 k2 c2] 61):=⟨_,rfl⟩;rw [<-hV];have yV:Ext w6 V:=by rw [hV];exact ah.alloc _
    have PV:aY V w5.heap.size 61 [.bool s1,.slice a1 k1 c1]:=(P5.ext kZ).ext yV;have QV:aY V w6.heap.size 61 [.bool s2,.slice a2 k2 c2]:=by rw [hV];exact aY.alloc _ _ _
    clear hV;have H1:=((h1.ext ((Ext.refl w5).alloc _)).ext kZ).ext yV;have G1:=((g1.ext ((Ext.refl w5).alloc _)).ext kZ).ext yV;have H2:=h2.ext yV;have G2:=g2.ext yV;obtain ⟨p0,p1,p2,p3⟩:=aC PV ah;obtain ⟨q0,q1,q2,q3⟩:=aC QV ah;have N5:True:=trivial
    go_region_held3 (λw'=>w'.cell? ⟨w5.heap.size,0,none⟩=some (.bool s1)/\w'.cell? ⟨w5.heap.size,1,none⟩=some (.slice a1 k1 c1)/\w'.cell? ⟨w6.heap.size,0,none⟩=some (.bool s2)/\w'.cell? ⟨w6.heap.size,1,none⟩=some (.slice a2 k2 c2)) (first|exact ⟨p0,p1,q0,q1⟩|(simp [go_sem,p0,p1,q0,q1])) (first
     |(go_at_call 108;have _t:=N5;refine (pG _ _ _ _ _ _ _ _ _ _ _ (H1.ext (by exact ah.drew)) (G2.ext (by exact ah.drew)) ae ae).mono ?_;rintro e w7 ⟨a7,c7,rfl,Ud,ZR,tU⟩;clear N5 _t;obtain ⟨p0,p1,p2,p3⟩:=aC PV ((Ext.refl V).drew.trans tU);obtain ⟨q0,q1,q2,q3⟩:=aC QV ((Ext.refl V).drew.trans tU))
     |(go_at_call 108;refine (pG _ _ _ _ _ _ _ _ _ _ _ ((H2.ext (by exact ah.drew)).ext tU) ((G1.ext (by exact ah.drew)).ext tU) ae ae).mono ?_;rintro e w8 ⟨a8,c8,rfl,J6,Wj,lh⟩;obtain ⟨p0,p1,p2,p3⟩:=aC PV (((Ext.refl V).drew.trans tU).trans lh);obtain ⟨q0,q1,q2,q3⟩:=aC QV (((Ext.refl V).drew.trans tU).trans lh))
     |(go_at_call 140;refine (Fj _ _ _ _ _ _ _ _ _ _ _ (Ud.ext lh) J6).mono ?_;rintro e w9 ⟨rfl,tC⟩;obtain ⟨p0,p1,p2,p3⟩:=aC PV ((((Ext.refl V).drew.trans tU).trans lh).trans tC);obtain ⟨q0,q1,q2,q3⟩:=aC QV ((((Ext.refl V).drew.trans tU).trans lh).trans tC)))
    go_wp2
    go_ret;refine ⟨cL ?_,(((((x0.trans y6).trans yV).drew).trans tU).trans lh).trans tC⟩;rw [dJ,dJ,<-HV.o,<-J1.o,zu _ _ _ _ qN J0];rfl
 .have hs':((mkRat (bf s n) m).num.sign !=(mkRat (bf s' n') m').num.sign)=true:=by rw [bne_iff_ne];exact hs
  have e1:=B9 hs;have E1:=af e1;clear e1 hs
  go_enter func62,ntmps62
  go_wp2
  obtain ⟨W,hW,x0,Z0,A0,A1⟩:=dV w 63 [.bool s,.slice a k c,.slice b j d] 63 [.bool s',.slice a' k' c',.slice b' j' d'];rw [<-hW];clear hW;obtain ⟨z0,z1,⟨aD,aF,bn,aM,aN,bG⟩,aJ,aK,bM,aR,aS,bT⟩:=bb2 aA aA A0 A1 ah;have gC:True:=trivial
  go_region_held3 (λw'=>w'.cell? ⟨w.heap.size,0,none⟩=some (.bool s)/\w'.cell? ⟨w.heap.size,1,none⟩=some (.slice a k c)/\w'.cell? ⟨w.heap.size,2,none⟩=some (.slice b j d)/\w'.cell? ⟨w.heap.size+1,0,none⟩=some (.bool s')/\w'.cell? ⟨w.heap.size+1,1,none⟩=some (.slice a' k' c')/\w'.cell? ⟨w.heap.size+1,2,none⟩=some (.slice b' j' d')) (first|exact ⟨aD,aF,bn,aJ,aK,bM⟩|(simp [go_sem,aD,aF,bn,aJ,aK,bM])) (first
   |(go_at_call 100;have _t:=gC;refine (fP _ _ _ _ _ _ _ _ _ _ ((h.ext x0).ext (by exact ah.drew)) ((g.ext x0).ext (by exact ah.drew))).mono ?_;rintro e w1 ⟨rfl,hx1⟩;clear gC _t;obtain ⟨z0,z1,⟨aD,aF,bn,aM,aN,bG⟩,aJ,aK,bM,aR,aS,bT⟩:=bb2 aA aA A0 A1 (((ah.drew)).trans hx1))
   |(go_at_call 100;refine (fP _ _ _ _ _ _ _ _ _ _ (((h'.ext x0).ext (by exact ah.drew)).ext hx1) (((g'.ext x0).ext (by exact ah.drew)).ext hx1)).mono ?_;rintro e w2 ⟨rfl,hx2⟩;obtain ⟨z0,z1,⟨aD,aF,bn,aM,aN,bG⟩,aJ,aK,bM,aR,aS,bT⟩:=bb2 aA aA A0 A1 ((((ah.drew)).trans hx1).trans hx2)))
  have y2:Ext W w2:=((Ext.refl W).drew.trans hx1).trans hx2;go_wp2_with fail
  refine (uM _ _ _).mono ?_;rintro e w3 ⟨rfl,rfl⟩;go_wp2
  go_ret;exact ⟨cL E1.o,x0.trans y2⟩
theorem eP {p:Rat}:p.num.sign=0↔p=0:=by rw [Int.sign_eq_zero_iff_zero,Rat.num_eq_zero]
theorem vL (x x':Int) (y y':Nat) (h:0<y) (h':0<y'):mkRat (x*y'+x'*y) (y*y')=mkRat x y+mkRat x' y':=(Rat.mkRat_add_mkRat x x' ae ae).symm
theorem zv (x x':Int) (y:Nat) (h:0<y):mkRat (x+x') y=mkRat x y+mkRat x' y:=by
 rw [<-vL _ _ _ _ h h,<-Int.add_mul,Rat.mkRat_mul_right ae]
theorem pJ (x y:Int):len (x+y).natAbs<=max (len x.natAbs) (len y.natAbs)+1:=
 Nat.le_trans (dt (Int.natAbs_add_le x y)) (QR _ _)
theorem Bk (w:World) (s:Bool) (a b:Option Addr) (k c j d n m:Nat) (h:Raw w a k c n) (g:Raw w b j d m) (s':Bool) (a' b':Option Addr) (k' c' j' d' n' m':Nat) (h':Raw w a' k' c' n') (g':Raw w b' j' d' m') (hNm: ∀V,Raw V a' k' c' n'->Raw V b' j' d' m'->Calls prog 101 #[.agg #[.bool s',.slice a' k' c',.slice b' j' d']] V (bD (mkRat (bf s' n') m') V)) (h0:mkRat (bf s n) m=0):
 Calls prog 44 #[.agg #[.bool s,.slice a k c,.slice b j d],.agg #[.bool s',.slice a' k' c',.slice b' j' d']] w (bD (mkRat (bf s n) m+mkRat (bf s' n') m') w):=by
 have hs:(mkRat (bf s n) m).num.sign=0:=eP.2 h0;have H0:=af h0;clear h0
 go_enter func44,ntmps44
 go_wp2_with fail
 obtain ⟨W,hW,x0,Z0,A0,A1,A2⟩:=et w 63 [.bool s,.slice a k c,.slice b j d] 63 [.bool s',.slice a' k' c',.slice b' j' d'] 63 [.bool false,.slice none 0 0,.slice none 0 0];rw [<-hW];clear hW;obtain ⟨z0,z1,z2,⟨aD,aF,bn,aM,aN,bG⟩,⟨aJ,aK,bM,aR,aS,bT⟩,aZ,a_,bW,bA,bB,cf⟩:=bb3 aA aA aA A0 A1 A2 ah;refine (fP _ _ _ _ _ _ _ _ _ _ (h.ext x0) (g.ext x0)).mono ?_;rintro e w1 ⟨rfl,hx1⟩;obtain ⟨z0,z1,z2,⟨aD,aF,bn,aM,aN,bG⟩,⟨aJ,aK,bM,aR,aS,bT⟩,aZ,a_,bW,bA,bB,cf⟩:=bb3 aA aA aA A0 A1 A2 hx1;rw [hs];clear hs;go_wp2_with fail
 refine (hNm _ ((h'.ext x0).ext hx1) ((g'.ext x0).ext hx1)).mono ?_;intro e wz hN;rw [<-Rat.zero_add (mkRat (bf s' n') m'),<-H0.o]at hN;obtain ⟨az,cz,J7,J8,rfl,AZ,qG,tV,xY,w_⟩:=id hN;obtain ⟨z0,z1,z2,⟨aD,aF,bn,aM,aN,bG⟩,⟨aJ,aK,bM,aR,aS,bT⟩,aZ,a_,bW,bA,bB,cf⟩:=bb3 aA aA aA A0 A1 A2 (hx1.trans w_);go_wp2
 exact bodyPost_ret (by simp [results,results44,go_sem, *]) rfl (bD.bH (hN.base hx1) x0 (Touch.three _ ae (by rw [Z0.o];omega) _ _ _))
theorem Bl (w:World) (s:Bool) (a b:Option Addr) (k c j d n m:Nat) (h:Raw w a k c n) (g:Raw w b j d m) (s':Bool) (a' b':Option Addr) (k' c' j' d' n' m':Nat) (h':Raw w a' k' c' n') (g':Raw w b' j' d' m') (hNm: ∀V,Raw V a k c n->Raw V b j d m->Calls prog 101 #[.agg #[.bool s,.slice a k c,.slice b j d]] V (bD (mkRat (bf s n) m) V)) (rY: ¬mkRat (bf s n) m=0) (h0:mkRat (bf s' n') m'=0):
 Calls prog 44 #[.agg #[.bool s,.slice a k c,.slice b j d],.agg #[.bool s',.slice a' k' c',.slice b' j' d']] w (bD (mkRat (bf s n) m+mkRat (bf s' n') m') w):=by
 have hs:(mkRat (bf s' n') m').num.sign=0:=eP.2 h0;have hs1:((mkRat (bf s n) m).num.sign==0)=false:=by rw [beq_eq_false_iff_ne];exact λh=>rY (eP.1 h)
 have H0:=af h0;clear h0 rY
 go_enter func44,ntmps44
 go_wp2_with fail
 obtain ⟨W,hW,x0,Z0,A0,A1,A2⟩:=et w 63 [.bool s,.slice a k c,.slice b j d] 63 [.bool s',.slice a' k' c',.slice b' j' d'] 63 [.bool false,.slice none 0 0,.slice none 0 0];rw [<-hW];clear hW;obtain ⟨z0,z1,z2,⟨aD,aF,bn,aM,aN,bG⟩,⟨aJ,aK,bM,aR,aS,bT⟩,aZ,a_,bW,bA,bB,cf⟩:=bb3 aA aA aA A0 A1 A2 ah;refine (fP _ _ _ _ _ _ _ _ _ _ (h.ext x0) (g.ext x0)).mono ?_;rintro e w1 ⟨rfl,hx1⟩;obtain ⟨z0,z1,z2,⟨aD,aF,bn,aM,aN,bG⟩,⟨aJ,aK,bM,aR,aS,bT⟩,aZ,a_,bW,bA,bB,cf⟩:=bb3 aA aA aA A0 A1 A2 hx1;go_wp2_with fail
 refine (fP _ _ _ _ _ _ _ _ _ _ ((h'.ext x0).ext hx1) ((g'.ext x0).ext hx1)).mono ?_;rintro e w2 ⟨rfl,hx2⟩;have y2:Ext W w2:=hx1.trans hx2;obtain ⟨z0,z1,z2,⟨aD,aF,bn,aM,aN,bG⟩,⟨aJ,aK,bM,aR,aS,bT⟩,aZ,a_,bW,bA,bB,cf⟩:=bb3 aA aA aA A0 A1 A2 y2;rw [hs];clear hs;go_wp2_with fail
 refine (hNm _ ((h.ext x0).ext y2) ((g.ext x0).ext y2)).mono ?_;intro e wz hN;rw [<-Rat.add_zero (mkRat (bf s n) m),<-H0.o]at hN;obtain ⟨az,cz,J7,J8,rfl,AZ,qG,tV,xY,w_⟩:=id hN;obtain ⟨z0,z1,z2,⟨aD,aF,bn,aM,aN,bG⟩,⟨aJ,aK,bM,aR,aS,bT⟩,aZ,a_,bW,bA,bB,cf⟩:=bb3 aA aA aA A0 A1 A2 (y2.trans w_);go_wp2
 exact bodyPost_ret (by simp [results,results44,go_sem, *]) rfl (bD.bH (hN.base y2) x0 (Touch.three _ ae (by rw [Z0.o];omega) _ _ _))
theorem Iy (w:World) (s:Bool) (a b:Option Addr) (k c j d n m:Nat) (h:Raw w a k c n) (g:Raw w b j d m) (s':Bool) (a' b':Option Addr) (k' c' j' d' n' m':Nat) (h':Raw w a' k' c' n') (g':Raw w b' j' d' m') (rY: ¬mkRat (bf s n) m=0) (N6: ¬mkRat (bf s' n') m'=0) (ha:n<2147483648/\m<2147483648) (hb:n'<2147483648/\m'<2147483648):
 Calls prog 44 #[.agg #[.bool s,.slice a k c,.slice b j d],.agg #[.bool s',.slice a' k' c',.slice b' j' d']] w (bD (mkRat (bf s n) m+mkRat (bf s' n') m') w):=by
 have hs1:((mkRat (bf s n) m).num.sign==0)=false:=by rw [beq_eq_false_iff_ne];exact λh=>rY (eP.1 h)
 have hs2:((mkRat (bf s' n') m').num.sign==0)=false:=by rw [beq_eq_false_iff_ne];exact λh=>N6 (eP.1 h)
 clear rY N6;have HA:=af ha;have HB:=af hb;clear ha hb
 go_enter func44,ntmps44
 go_wp2_with fail
 obtain ⟨W,hW,x0,Z0,A0,A1,A2⟩:=et w 63 [.bool s,.slice a k c,.slice b j d] 63 [.bool s',.slice a' k' c',.slice b' j' d'] 63 [.bool false,.slice none 0 0,.slice none 0 0];rw [<-hW];clear hW;obtain ⟨z0,z1,z2,⟨aD,aF,bn,aM,aN,bG⟩,⟨aJ,aK,bM,aR,aS,bT⟩,aZ,a_,bW,bA,bB,cf⟩:=bb3 aA aA aA A0 A1 A2 ah;refine (fP _ _ _ _ _ _ _ _ _ _ (h.ext x0) (g.ext x0)).mono ?_;rintro e w1 ⟨rfl,hx1⟩;obtain ⟨z0,z1,z2,⟨aD,aF,bn,aM,aN,bG⟩,⟨aJ,aK,bM,aR,aS,bT⟩,aZ,a_,bW,bA,bB,cf⟩:=bb3 aA aA aA A0 A1 A2 hx1;go_wp2_with fail
 refine (fP _ _ _ _ _ _ _ _ _ _ ((h'.ext x0).ext hx1) ((g'.ext x0).ext hx1)).mono ?_;rintro e w2 ⟨rfl,hx2⟩;have y2:Ext W w2:=hx1.trans hx2;obtain ⟨z0,z1,z2,⟨aD,aF,bn,aM,aN,bG⟩,⟨aJ,aK,bM,aR,aS,bT⟩,aZ,a_,bW,bA,bB,cf⟩:=bb3 aA aA aA A0 A1 A2 y2;go_wp2_with fail
 refine (jd _ _ _ _ _ _ _ _ _ _ ((h.ext x0).ext y2) ((g.ext x0).ext y2) HA.o.1 HA.o.2).mono ?_;rintro e w3 ⟨x,y,rfl,i1,i2,i3,i4,qH,hx3⟩;have Ue:=af qH;clear qH
 have y3:Ext W w3:=y2.trans hx3;obtain ⟨z0,z1,z2,⟨aD,aF,bn,aM,aN,bG⟩,⟨aJ,aK,bM,aR,aS,bT⟩,aZ,a_,bW,bA,bB,cf⟩:=bb3 aA aA aA A0 A1 A2 y3;go_wp2_with fail
 refine (jd _ _ _ _ _ _ _ _ _ _ ((h'.ext x0).ext y3) ((g'.ext x0).ext y3) HB.o.1 HB.o.2).mono ?_;rintro e w4 ⟨x',y',rfl,i1',i2',ZV,i4',Bc,gW⟩;have N3:=af Bc;clear Bc
 have y4:Ext W w4:=y3.trans gW;obtain ⟨z0,z1,z2,⟨aD,aF,bn,aM,aN,bG⟩,⟨aJ,aK,bM,aR,aS,bT⟩,aZ,a_,bW,bA,bB,cf⟩:=bb3 aA aA aA A0 A1 A2 y4;obtain ⟨m1,m2⟩:=oP i1 i2 (by omega: -2147483648<(y':Int)) ae;obtain ⟨m3,m4⟩:=oP i1' i2' (by omega: -2147483648<(y:Int)) ae;obtain ⟨m5,m6⟩:=tB i3 i4 ZV i4';have m5':0<(y:Int)*(y':Int):=by rw [<-Int.natCast_mul];omega
 have m6':(y:Int)*(y':Int)<=4611686018427387904:=by rw [<-Int.natCast_mul];omega
 have o1:x*(y':Int)+x'*(y:Int)<9223372036854775808:=by
  by_cases hh:x<0
  .have:=Int.mul_nonpos_of_nonpos_of_nonneg (Int.le_of_lt hh) (by omega:(0:Int)<=(y':Int));omega
  .have:x*(y':Int)<=2147483647*2147483647:=Int.mul_le_mul ae ae ae ae
   omega
 have o2: -9223372036854775808<x*(y':Int)+x'*(y:Int):=by
  by_cases hh:x<0
  .have:(-x)*(y':Int)<=2147483647*2147483647:=Int.mul_le_mul ae ae ae ae
   rw [Int.neg_mul]at this;omega
  .have:=Int.mul_nonneg (by omega:(0:Int)<=x) (by omega:(0:Int)<=(y':Int));omega
 go_wp2_with fail
 rw [<-Int.natCast_mul];refine (pH _ _ _ ae ae m5 ae).mono ?_;intro e wz hN;rw [vL _ _ _ _ i3 ZV,Ue.o,N3.o]at hN;obtain ⟨az,cz,J7,J8,rfl,AZ,qG,tV,xY,w_⟩:=id hN;obtain ⟨z0,z1,z2,⟨aD,aF,bn,aM,aN,bG⟩,⟨aJ,aK,bM,aR,aS,bT⟩,aZ,a_,bW,bA,bB,cf⟩:=bb3 aA aA aA A0 A1 A2 (y4.trans w_);go_wp2
 exact bodyPost_ret (by simp [results,results44,go_sem, *]) rfl (bD.bH (hN.base y4) x0 (Touch.three _ ae (by rw [Z0.o];omega) _ _ _))
theorem Fl (w:World) (s:Bool) (a b:Option Addr) (k c j d n m:Nat) (h:Raw w a k c n) (g:Raw w b j d m) (s':Bool) (a' b':Option Addr) (k' c' j' d' n' m':Nat) (h':Raw w a' k' c' n') (g':Raw w b' j' d' m') (b1:len n<100000000) (b2:len m<100000000) (rZ:len n'<100000000) (rW:len m'<100000000) (rY: ¬mkRat (bf s n) m=0) (N6: ¬mkRat (bf s' n') m'=0) (hA: ¬((n<2147483648/\m<2147483648)/\n'<2147483648/\m'<2147483648)):
 Calls prog 44 #[.agg #[.bool s,.slice a k c,.slice b j d],.agg #[.bool s',.slice a' k' c',.slice b' j' d']] w (bD (mkRat (bf s n) m+mkRat (bf s' n') m') w):=by
 have hs1:((mkRat (bf s n) m).num.sign==0)=false:=by rw [beq_eq_false_iff_ne];exact λh=>rY (eP.1 h)
 have hs2:((mkRat (bf s' n') m').num.sign==0)=false:=by rw [beq_eq_false_iff_ne];exact λh=>N6 (eP.1 h)
 clear rY N6;obtain ⟨p,hp,Xn⟩:=lO s a b k c j d n m;obtain ⟨p',Xo,Xp⟩:=lO s' a' b' k' c' j' d' n' m'
 have hc:(p=true/\p'=false)\/(p=false/\p'=true)\/(p=false/\p'=false):=by
  cases p with
  |false=>cases p'<;>simp
  |true=>
   cases p' with
   |false=>simp
   |true=>exact absurd ⟨hp.1 rfl,Xo.1 rfl⟩ hA
 have HA:=af Xn;have HB:=af Xp
 clear hA hp Xo Xn Xp;rcases hc with⟨rfl,rfl⟩|⟨rfl,rfl⟩|⟨rfl,rfl⟩
 all_goals
  go_enter func44,ntmps44
  go_wp2_with fail
  obtain ⟨W,hW,x0,Z0,A0,A1,A2⟩:=et w 63 [.bool s,.slice a k c,.slice b j d] 63 [.bool s',.slice a' k' c',.slice b' j' d'] 63 [.bool false,.slice none 0 0,.slice none 0 0];rw [<-hW];clear hW;obtain ⟨z0,z1,z2,⟨aD,aF,bn,aM,aN,bG⟩,⟨aJ,aK,bM,aR,aS,bT⟩,aZ,a_,bW,bA,bB,cf⟩:=bb3 aA aA aA A0 A1 A2 ah;refine (fP _ _ _ _ _ _ _ _ _ _ (h.ext x0) (g.ext x0)).mono ?_;rintro e w1 ⟨rfl,hx1⟩;obtain ⟨z0,z1,z2,⟨aD,aF,bn,aM,aN,bG⟩,⟨aJ,aK,bM,aR,aS,bT⟩,aZ,a_,bW,bA,bB,cf⟩:=bb3 aA aA aA A0 A1 A2 hx1;go_wp2_with fail
  refine (fP _ _ _ _ _ _ _ _ _ _ ((h'.ext x0).ext hx1) ((g'.ext x0).ext hx1)).mono ?_;rintro e w2 ⟨rfl,hx2⟩;have y2:Ext W w2:=hx1.trans hx2;obtain ⟨z0,z1,z2,⟨aD,aF,bn,aM,aN,bG⟩,⟨aJ,aK,bM,aR,aS,bT⟩,aZ,a_,bW,bA,bB,cf⟩:=bb3 aA aA aA A0 A1 A2 y2;go_wp2_with fail
  refine (HA.o _ ((h.ext x0).ext y2) ((g.ext x0).ext y2)).mono ?_;rintro e w3 ⟨x,y,rfl,hx3⟩;have y3:Ext W w3:=y2.trans hx3;obtain ⟨z0,z1,z2,⟨aD,aF,bn,aM,aN,bG⟩,⟨aJ,aK,bM,aR,aS,bT⟩,aZ,a_,bW,bA,bB,cf⟩:=bb3 aA aA aA A0 A1 A2 y3;go_wp2_with fail
  refine (HB.o _ ((h'.ext x0).ext y3) ((g'.ext x0).ext y3)).mono ?_;rintro e w4 ⟨x',y',rfl,gW⟩;have y4:Ext W w4:=y3.trans gW;obtain ⟨z0,z1,z2,⟨aD,aF,bn,aM,aN,bG⟩,⟨aJ,aK,bM,aR,aS,bT⟩,aZ,a_,bW,bA,bB,cf⟩:=bb3 aA aA aA A0 A1 A2 y4;go_wp2_with fail
  refine (gU _ _ _ _ _ _ _ _ _ _ ((h.ext x0).ext y4) ((g.ext x0).ext y4)).mono ?_;rintro e w5 ⟨s1,a1,k1,c1,n1,e1,j1,d1,m1,rfl,h1,g1,qN,hv,l1,l2,gl⟩;have HV:=af hv;clear hv
  have y5:Ext W w5:=y4.trans gl;obtain ⟨z0,z1,z2,⟨aD,aF,bn,aM,aN,bG⟩,⟨aJ,aK,bM,aR,aS,bT⟩,aZ,a_,bW,bA,bB,cf⟩:=bb3 aA aA aA A0 A1 A2 y5;have P5:=aY.alloc w5 61 [.bool s1,.slice a1 k1 c1];have Ug:=y5.alloc (.cells #[.bool s1,.slice a1 k1 c1] 61);go_wp2_with fail
  refine (gU _ _ _ _ _ _ _ _ _ _ ((h'.ext x0).ext Ug) ((g'.ext x0).ext Ug)).mono ?_;rintro e w6 ⟨s2,a2,k2,c2,n2,e2,j2,d2,m2,rfl,h2,g2,J0,hv2,l3,l4,kZ⟩;have J1:=af hv2;clear hv2
  have y6:Ext W w6:=Ug.trans kZ;obtain ⟨z0,z1,z2,⟨aD,aF,bn,aM,aN,bG⟩,⟨aJ,aK,bM,aR,aS,bT⟩,aZ,a_,bW,bA,bB,cf⟩:=bb3 aA aA aA A0 A1 A2 y6;obtain ⟨pz,p0,p1,p2,p3⟩:=bb1 aC P5 kZ;have yV:Ext w6 (w6.alloc (.cells #[.bool s2,.slice a2 k2 c2] 61)):=ah.alloc _;have PV:=(P5.ext kZ).ext yV;have QV:=aY.alloc w6 61 [.bool s2,.slice a2 k2 c2];have H1:=((h1.ext ((Ext.refl w5).alloc _)).ext kZ).ext yV;have G1:=((g1.ext ((Ext.refl w5).alloc _)).ext kZ).ext yV;have H2:=h2.ext yV;have G2:=g2.ext yV;have yW:=y6.trans yV;go_wp2_with fail
  refine (ep _ _ _ _ _ _ _ _ _ G1 G2).mono ?_;rintro e w7 ⟨rfl,Uh⟩;have y7:Ext W w7:=yW.trans Uh.ext;obtain ⟨z0,z1,z2,⟨aD,aF,bn,aM,aN,bG⟩,⟨aJ,aK,bM,aR,aS,bT⟩,aZ,a_,bW,bA,bB,cf⟩:=bb3 aA aA aA A0 A1 A2 y7;have P7:=PV.ext Uh.ext;have Q7:=QV.ext Uh.ext;obtain ⟨p0,p1,p2,p3⟩:=aC P7 ah;obtain ⟨q0,q1,q2,q3⟩:=aC Q7 ah;have pz:=P7.lt;have qz:=Q7.lt;have H1:=H1.ext Uh.ext;have H2:=H2.ext Uh.ext;have G1:=G1.ext Uh.ext;have G2:=G2.ext Uh.ext;by_cases heq:m1=m2
  .subst heq
   have hcm:gp m1 m1=0:=by unfold gp;simp
   rw [hcm];clear hcm
   go_wp2_with fail
   refine (J3 _ _ _ _ _ _ _ _ _ _ _ H1 H2 ae ae).mono ?_;rintro e w8 ⟨a8,c8,rfl,J6,Wj,lh⟩;have y8:Ext W w8:=y7.trans lh;obtain ⟨z0,z1,z2,⟨aD,aF,bn,aM,aN,bG⟩,⟨aJ,aK,bM,aR,aS,bT⟩,aZ,a_,bW,bA,bB,cf⟩:=bb3 aA aA aA A0 A1 A2 y8;have bl:=pJ (bf s1 n1) (bf s2 n2);rw [bL,bL]at bl;go_wp2_with fail
   refine (lg _ _ _ _ _ _ _ _ _ _ J6 (G1.ext lh) qN ae ae).mono ?_;intro e wz hN;rw [dJ,zv _ _ _ qN,HV.o,J1.o]at hN;obtain ⟨az,cz,J7,J8,rfl,AZ,qG,tV,xY,w_⟩:=id hN;obtain ⟨z0,z1,z2,⟨aD,aF,bn,aM,aN,bG⟩,⟨aJ,aK,bM,aR,aS,bT⟩,aZ,a_,bW,bA,bB,cf⟩:=bb3 aA aA aA A0 A1 A2 (y8.trans w_);go_wp2
   exact bodyPost_ret (by simp [results,results44,go_sem, *]) rfl (bD.bH (hN.base y8) x0 (Touch.three _ ae (by rw [Z0.o];omega) _ _ _))
  .have hcm:(gp m1 m2==0)=false:=by rw [beq_eq_false_iff_ne];rcases Ia m1 m2 with h|h|h<;>omega
   go_wp2
   have Xm:len (bf s1 n1*bf false m2).natAbs<1000000000:=by rw [Int.natAbs_mul,bL,bL];have:=gX n1 m2;omega
   have ZU:len (bf s2 n2*bf false m1).natAbs<1000000000:=by rw [Int.natAbs_mul,bL,bL];have:=gX n2 m1;omega
   have bl3:=pJ (bf s1 n1*bf false m2) (bf s2 n2*bf false m1);rw [Int.natAbs_mul,Int.natAbs_mul,bL,bL,bL,bL]at bl3;have bl4:=gX n1 m2;have bl5:=gX n2 m1;have bl6:=gX m1 m2;have N5:True:=trivial;have sW:w.heap.size+3<=w7.heap.size:=by have:=y7.size;rw [Z0.o]at this;exact this
   go_cut [15] (λs15 wx=> ∃(bb:Nat) (az:Option Addr) (cz:Nat),s15= .pointer (some ⟨bb,0,none⟩)/\w.heap.size+3<=bb/\Hid (aY wx bb 61 [.bool (decide (bf s1 n1*bf false m2+bf s2 n2*bf false m1<0)),.slice az (len (bf s1 n1*bf false m2+bf s2 n2*bf false m1).natAbs) cz])/\Raw wx az (len (bf s1 n1*bf false m2+bf s2 n2*bf false m1).natAbs) cz (bf s1 n1*bf false m2+bf s2 n2*bf false m1).natAbs/\Ext w7 wx)
   case first=>
    go_region_held3 (λw'=>w'.cell? ⟨w5.heap.size,0,none⟩=some (.bool s1)/\w'.cell? ⟨w5.heap.size,1,none⟩=some (.slice a1 k1 c1)/\w'.cell? ⟨w6.heap.size,0,none⟩=some (.bool s2)/\w'.cell? ⟨w6.heap.size,1,none⟩=some (.slice a2 k2 c2)) (first|exact ⟨p0,p1,q0,q1⟩|(simp [go_sem,p0,p1,q0,q1,pz,qz];done)|(simp [go_sem,p0,p1,q0,q1,pz,qz];omega)) (first
     |(go_at_call 108;have _t:=N5;refine (pG _ _ _ _ _ _ _ _ _ _ _ (H1.ext (by repeat(first|exact ah|exact v10|exact v9|exact v8|refine Ext.trans ?_ ji|refine Ext.trans ?_ tC|refine Ext.trans ?_ lh|refine Ext.drew ?_|refine Ext.alloc ?_ _|refine Ext.setCell ?_ (by simp;omega) _))) (G2.ext (by repeat(first|exact ah|exact v10|exact v9|exact v8|refine Ext.trans ?_ ji|refine Ext.trans ?_ tC|refine Ext.trans ?_ lh|refine Ext.drew ?_|refine Ext.alloc ?_ _|refine Ext.setCell ?_ (by simp;omega) _))) ae ae).mono ?_;rintro e w8 ⟨a8,c8,rfl,J6,Wj,lh⟩;clear N5 _t;have v8:Ext w7 w8:=(by repeat(first|exact ah|exact v10|exact v9|exact v8|refine Ext.trans ?_ ji|refine Ext.trans ?_ tC|refine Ext.trans ?_ lh|refine Ext.drew ?_|refine Ext.alloc ?_ _|refine Ext.setCell ?_ (by simp;omega) _));have z8:=v8.size;obtain ⟨p0,p1,p2,p3⟩:=aC P7 v8;obtain ⟨q0,q1,q2,q3⟩:=aC Q7 v8;have pz:=(P7.ext v8).lt;have qz:=(Q7.ext v8).lt;(first|(have RB:aY w8 w7.heap.size 61 [.bool false,.slice none 0 0]:=(aY.alloc w7.drew 61 [.bool false,.slice none 0 0]).ext lh;obtain ⟨r0,r1,r2,r3⟩:=aC RB ah;have rz:=RB.lt)|skip))
     |(go_at_call 108;refine (pG _ _ _ _ _ _ _ _ _ _ _ (H2.ext (by repeat(first|exact ah|exact v10|exact v9|exact v8|refine Ext.trans ?_ ji|refine Ext.trans ?_ tC|refine Ext.trans ?_ lh|refine Ext.drew ?_|refine Ext.alloc ?_ _|refine Ext.setCell ?_ (by simp;omega) _))) (G1.ext (by repeat(first|exact ah|exact v10|exact v9|exact v8|refine Ext.trans ?_ ji|refine Ext.trans ?_ tC|refine Ext.trans ?_ lh|refine Ext.drew ?_|refine Ext.alloc ?_ _|refine Ext.setCell ?_ (by simp;omega) _))) ae ae).mono ?_;rintro e w9 ⟨a9,c9,rfl,Nl,ZW,tC⟩;have v9:Ext w7 w9:=(by repeat(first|exact ah|exact v10|exact v9|exact v8|refine Ext.trans ?_ ji|refine Ext.trans ?_ tC|refine Ext.trans ?_ lh|refine Ext.drew ?_|refine Ext.alloc ?_ _|refine Ext.setCell ?_ (by simp;omega) _));have z9:=v9.size;obtain ⟨p0,p1,p2,p3⟩:=aC P7 v9;obtain ⟨q0,q1,q2,q3⟩:=aC Q7 v9;have pz:=(P7.ext v9).lt;have qz:=(Q7.ext v9).lt;(first|(have RB:=RB.ext tC;obtain ⟨r0,r1,r2,r3⟩:=aC RB ah;have rz:=RB.lt)|(have RB:=(aY.alloc w8 61 [.bool false,.slice none 0 0]).ext tC;obtain ⟨r0,r1,r2,r3⟩:=aC RB ah;have rz:=RB.lt)|skip))
     |(go_at_call 107;refine (J3 _ _ _ _ _ _ _ _ _ _ _ (J6.ext (by repeat(first|exact ah|exact v10|exact v9|exact v8|refine Ext.trans ?_ ji|refine Ext.trans ?_ tC|refine Ext.trans ?_ lh|refine Ext.drew ?_|refine Ext.alloc ?_ _|refine Ext.setCell ?_ (by simp;omega) _))) (Nl.ext (by repeat(first|exact ah|exact v10|exact v9|exact v8|refine Ext.trans ?_ ji|refine Ext.trans ?_ tC|refine Ext.trans ?_ lh|refine Ext.drew ?_|refine Ext.alloc ?_ _|refine Ext.setCell ?_ (by simp;omega) _))) Xm ZU).mono ?_;rintro e xZ ⟨Fc,c10,rfl,LD,Xq,ji⟩;have v10:Ext w7 xZ:=(by repeat(first|exact ah|exact v10|exact v9|exact v8|refine Ext.trans ?_ ji|refine Ext.trans ?_ tC|refine Ext.trans ?_ lh|refine Ext.drew ?_|refine Ext.alloc ?_ _|refine Ext.setCell ?_ (by simp;omega) _));have Qj:=v10.size;obtain ⟨p0,p1,p2,p3⟩:=aC P7 v10;obtain ⟨q0,q1,q2,q3⟩:=aC Q7 v10;have pz:=(P7.ext v10).lt;have qz:=(Q7.ext v10).lt;(first|(have RB:=RB.ext ji;obtain ⟨r0,r1,r2,r3⟩:=aC RB ah;have rz:=RB.lt)|(have RB:=(aY.alloc w9 61 [.bool false,.slice none 0 0]).ext ji;obtain ⟨r0,r1,r2,r3⟩:=aC RB ah;have rz:=RB.lt)|skip)))
    all_goals go_wp2_with fail
    all_goals go_meet
    all_goals simp only [dJ]at LD⊢
    all_goals first
     |exact ⟨_,Fc,c10,rfl,ae,aY.alloc _ _ _,LD.ext (ah.alloc _),(by repeat(first|exact ah|exact v10|exact v9|exact v8|refine Ext.trans ?_ ji|refine Ext.trans ?_ tC|refine Ext.trans ?_ lh|refine Ext.drew ?_|refine Ext.alloc ?_ _|refine Ext.setCell ?_ (by simp;omega) _))⟩
     |exact ⟨_,Fc,c10,rfl,ae,(RB.set 0 _).set 1 _,Raw.setCell (Raw.setCell LD _ _ (Xq.ne (by first|(simp;done)|(simp;omega)|omega))) _ _ (Xq.ne (by first|(simp;done)|(simp;omega)|omega)),Ext.lY v10 ae _ _⟩
   case rest=>
    obtain ⟨bb,az,cz,rfl,hb3,hA,hR,lh⟩:=hcut;have y8:Ext W wc:=y7.trans lh;obtain ⟨z0,z1,z2,⟨aD,aF,bn,aM,aN,bG⟩,⟨aJ,aK,bM,aR,aS,bT⟩,aZ,a_,bW,bA,bB,cf⟩:=bb3 aA aA aA A0 A1 A2 y8;have A8:=hA.o;obtain ⟨r0,r1,r2,r3⟩:=aC A8 ah;have nb1: ¬(w.heap.size+1+1=bb):=ae;have nb2: ¬(bb=w.heap.size+1+1):=ae;have nb3: ¬(w.heap.size+2=bb):=ae;have nb4: ¬(bb=w.heap.size+2):=ae;have G1:=G1.ext lh;have G2:=G2.ext lh;go_wp2
    go_region_held3 (λw'=>w'.cell? ⟨bb,0,none⟩=some (.bool (decide (bf s1 n1*bf false m2+bf s2 n2*bf false m1<0)))/\w'.cell? ⟨bb,1,none⟩=some (.slice az (len (bf s1 n1*bf false m2+bf s2 n2*bf false m1).natAbs) cz)) (first|exact ⟨r0,r1⟩|(simp [go_sem,r0,r1];done)) (first
     |(go_at_call 109;refine (pD _ _ _ _ _ _ _ _ _ (G1.ext (by exact ah.drew)) (G2.ext (by exact ah.drew)) ae ae).mono ?_;rintro e N7 ⟨ZO,c11,rfl,abE,ag_,tW⟩;obtain ⟨r0,r1,r2,r3⟩:=aC A8 ((Ext.refl wc).drew.trans tW);obtain ⟨z0,z1,z2,⟨aD,aF,bn,aM,aN,bG⟩,⟨aJ,aK,bM,aR,aS,bT⟩,aZ,a_,bW,bA,bB,cf⟩:=bb3 aA aA aA A0 A1 A2 ((y8.drew).trans tW))
     |(go_at_call 106;refine (lg _ _ _ _ _ _ _ _ _ _ ((hR.ext (by exact ah.drew)).ext tW) abE (Nat.mul_pos qN J0) ae ae).mono ?_;intro e wz hN;rw [dJ,dy,dy,vL _ _ _ _ qN J0,HV.o,J1.o]at hN;obtain ⟨au,cu,au',cu',rfl,AZ,qG,tV,xY,w_⟩:=id hN;obtain ⟨r0,r1,r2,r3⟩:=aC A8 (((Ext.refl wc).drew.trans tW).trans w_);obtain ⟨z0,z1,z2,⟨aD,aF,bn,aM,aN,bG⟩,⟨aJ,aK,bM,aR,aS,bT⟩,aZ,a_,bW,bA,bB,cf⟩:=bb3 aA aA aA A0 A1 A2 (((y8.drew).trans tW).trans w_)))
    go_wp2
    exact bodyPost_ret (by simp [results,results44,go_sem, *]) rfl (bD.bH (hN.base ((y8.drew).trans tW)) x0 (Touch.three _ ae (by rw [Z0.o];omega) _ _ _))
theorem Df (w:World) (s:Bool) (a b:Option Addr) (k c j d n m:Nat) (h:Raw w a k c n) (g:Raw w b j d m) (s':Bool) (a' b':Option Addr) (k' c' j' d' n' m':Nat) (h':Raw w a' k' c' n') (g':Raw w b' j' d' m') (b1:len n<100000000) (b2:len m<100000000) (rZ:len n'<100000000) (rW:len m'<100000000):
 Calls prog 44 #[.agg #[.bool s,.slice a k c,.slice b j d],.agg #[.bool s',.slice a' k' c',.slice b' j' d']] w (bD (mkRat (bf s n) m+mkRat (bf s' n') m') w):=by
 by_cases h0:mkRat (bf s n) m=0
 .exact Bk w _ _ _ _ _ _ _ _ _ h g _ _ _ _ _ _ _ _ _ h' g' (λV p q=>zq V _ _ _ _ _ _ _ _ _ p q rZ rW) h0
 by_cases Ub:mkRat (bf s' n') m'=0
 .exact Bl w _ _ _ _ _ _ _ _ _ h g _ _ _ _ _ _ _ _ _ h' g' (λV p q=>zq V _ _ _ _ _ _ _ _ _ p q b1 b2) h0 Ub
 by_cases ha:(n<2147483648/\m<2147483648)/\n'<2147483648/\m'<2147483648
 .exact Iy w _ _ _ _ _ _ _ _ _ h g _ _ _ _ _ _ _ _ _ h' g' h0 Ub ha.1 ha.2
 .exact Fl w _ _ _ _ _ _ _ _ _ h g _ _ _ _ _ _ _ _ _ h' g' b1 b2 rZ rW h0 Ub ha
theorem Bn (s:Bool) (n m:Nat):mkRat (bf (!s) n) m= -mkRat (bf s n) m:=by rw [uI,Rat.neg_mkRat]
