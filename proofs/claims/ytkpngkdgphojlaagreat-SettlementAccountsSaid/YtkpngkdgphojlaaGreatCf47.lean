/- Texts of the proof. -/
import Derived.Test.YtkpngkdgphojlaaGreatCf46
set_option linter.all false
set_option maxHeartbeats 2000000
set_option maxRecDepth 100000
namespace Go.Proofs.YtkpngkdgphojlaaGreat
open Go.Proofs.Tryz
open Go.RowKit
def jd (x y:Int):Int:=if x<y then-1 else if x=y then 0 else 1
theorem rM {x y:Int} (h:x<y):jd x y= -1:=by unfold jd;rw [if_pos h]
theorem rO {x y:Int} (h:y<x):jd x y=1:=by unfold jd;rw [if_neg (by omega),if_neg (by omega)]
theorem Co (n m:Nat):jd (n:Int) (m:Int)=fc n m:=by
 unfold jd fc;simp only [Int.ofNat_lt]
 by_cases h:n<m
 ·simp [h]
 ·by_cases h':n=m
  ·simp [h']
  ·have: ¬(n:Int)=m:=by omega
   simp [h,h',this]
theorem Ke (x y:Int):jd (-x) (-y)=jd y x:=by
 unfold jd;by_cases h:y<x
 ·rw [if_pos (by omega),if_pos h]
 ·rw [if_neg (by omega),if_neg h]
  by_cases h':x=y
  ·rw [if_pos (by omega),if_pos (by omega)]
  ·rw [if_neg (by omega),if_neg (by omega)]
theorem uS {x y:Int} (h:x.sign<y.sign):x<y:=by
 rcases Int.lt_trichotomy x 0 with h1|h1|h1
 ·rcases Int.lt_trichotomy y 0 with h2|h2|h2
  ·rw [Int.sign_eq_neg_one_of_neg h1,Int.sign_eq_neg_one_of_neg h2]at h;omega
  ·omega
  ·omega
 ·subst h1
  rcases Int.lt_trichotomy y 0 with h2|h2|h2
  ·rw [Int.sign_eq_neg_one_of_neg h2]at h;simp at h
  ·subst h2;simp at h
  ·exact h2
 ·rcases Int.lt_trichotomy y 0 with h2|h2|h2
  ·rw [Int.sign_eq_one_of_pos h1,Int.sign_eq_neg_one_of_neg h2]at h;omega
  ·subst h2;rw [Int.sign_eq_one_of_pos h1]at h;simp at h
  ·rw [Int.sign_eq_one_of_pos h1,Int.sign_eq_one_of_pos h2]at h;omega
theorem Cp (w:World) (s t:Bool) (a b:Option Addr) (k c k' c' n m:Nat) (h:Raw w a k c n) (h':Raw w b k' c' m):
 Calls prog 160 #[.agg #[.bool s,.slice a k c],.agg #[.bool t,.slice b k' c']] w fun e w'=>e= .returned (.int .i64 (jd (aZ s n) (aZ t m)))∧Ext w w':=by
 by_cases c1:(aZ s n).sign<(aZ t m).sign
 ·have e1:=rM (uS c1)
  have E1:=ae e1;clear e1
  go_enter func160,ntmps160
  go_wp2
  obtain ⟨W,hW,x0,Z0,A0,A1⟩:=er w 117 [.bool s,.slice a k c] 117 [.bool t,.slice b k' c'];rw [←hW];clear hW;obtain ⟨aC,bf,bU,bV⟩:=ax A0 (Ext.refl _);have z0:=(A0.ext (Ext.refl _)).lt;obtain ⟨aM,bD,cj,cq⟩:=ax A1 (Ext.refl _);have z1:=(A1.ext (Ext.refl _)).lt;have fD:True:=trivial
  go_region_held3 (fun w'=>w'.cell? ⟨w.heap.size,0,none⟩=some (.bool s)∧w'.cell? ⟨w.heap.size,1,none⟩=some (.slice a k c)∧w'.cell? ⟨w.heap.size+1,0,none⟩=some (.bool t)∧w'.cell? ⟨w.heap.size+1,1,none⟩=some (.slice b k' c')) (first|exact ⟨aC,bf,aM,bD⟩|(simp [go_sem,aC,bf,aM,bD])) (first
   |(go_at_call 185;have _t:=fD;refine (jt _ _ _ _ _ _ ((h.ext x0).ext (by exact (Ext.refl _).drew))).mono ?_;rintro e w1 ⟨rfl,hx1⟩;clear fD _t;obtain ⟨aC,bf,bU,bV⟩:=ax A0 (((Ext.refl _).drew).trans hx1);have z0:=(A0.ext (((Ext.refl _).drew).trans hx1)).lt;obtain ⟨aM,bD,cj,cq⟩:=ax A1 (((Ext.refl _).drew).trans hx1);have z1:=(A1.ext (((Ext.refl _).drew).trans hx1)).lt)
   |(go_at_call 185;refine (jt _ _ _ _ _ _ (((h'.ext x0).ext (by exact (Ext.refl _).drew)).ext hx1)).mono ?_;rintro e w2 ⟨rfl,hx2⟩;obtain ⟨aC,bf,bU,bV⟩:=ax A0 ((((Ext.refl _).drew).trans hx1).trans hx2);have z0:=(A0.ext ((((Ext.refl _).drew).trans hx1).trans hx2)).lt;obtain ⟨aM,bD,cj,cq⟩:=ax A1 ((((Ext.refl _).drew).trans hx1).trans hx2);have z1:=(A1.ext ((((Ext.refl _).drew).trans hx1).trans hx2)).lt))
  generalize (aZ s n).sign=p at*;generalize (aZ t m).sign=q at*;go_wp2
  go_ret;exact ⟨cd E1.o.symm,(x0.drew.trans hx1).trans hx2⟩
 by_cases c2:(aZ t m).sign<(aZ s n).sign
 ·have e1:=rO (uS c2)
  have E1:=ae e1;clear e1
  go_enter func160,ntmps160
  go_wp2
  obtain ⟨W,hW,x0,Z0,A0,A1⟩:=er w 117 [.bool s,.slice a k c] 117 [.bool t,.slice b k' c'];rw [←hW];clear hW;obtain ⟨aC,bf,bU,bV⟩:=ax A0 (Ext.refl _);have z0:=(A0.ext (Ext.refl _)).lt;obtain ⟨aM,bD,cj,cq⟩:=ax A1 (Ext.refl _);have z1:=(A1.ext (Ext.refl _)).lt;have fD:True:=trivial
  go_region_held3 (fun w'=>w'.cell? ⟨w.heap.size,0,none⟩=some (.bool s)∧w'.cell? ⟨w.heap.size,1,none⟩=some (.slice a k c)∧w'.cell? ⟨w.heap.size+1,0,none⟩=some (.bool t)∧w'.cell? ⟨w.heap.size+1,1,none⟩=some (.slice b k' c')) (first|exact ⟨aC,bf,aM,bD⟩|(simp [go_sem,aC,bf,aM,bD])) (first
   |(go_at_call 185;have _t:=fD;refine (jt _ _ _ _ _ _ ((h.ext x0).ext (by exact (Ext.refl _).drew))).mono ?_;rintro e w1 ⟨rfl,hx1⟩;clear fD _t;obtain ⟨aC,bf,bU,bV⟩:=ax A0 (((Ext.refl _).drew).trans hx1);have z0:=(A0.ext (((Ext.refl _).drew).trans hx1)).lt;obtain ⟨aM,bD,cj,cq⟩:=ax A1 (((Ext.refl _).drew).trans hx1);have z1:=(A1.ext (((Ext.refl _).drew).trans hx1)).lt)
   |(go_at_call 185;refine (jt _ _ _ _ _ _ (((h'.ext x0).ext (by exact (Ext.refl _).drew)).ext hx1)).mono ?_;rintro e w2 ⟨rfl,hx2⟩;obtain ⟨aC,bf,bU,bV⟩:=ax A0 ((((Ext.refl _).drew).trans hx1).trans hx2);have z0:=(A0.ext ((((Ext.refl _).drew).trans hx1).trans hx2)).lt;obtain ⟨aM,bD,cj,cq⟩:=ax A1 ((((Ext.refl _).drew).trans hx1).trans hx2);have z1:=(A1.ext ((((Ext.refl _).drew).trans hx1).trans hx2)).lt))
  generalize (aZ s n).sign=p at*;generalize (aZ t m).sign=q at*;go_wp2
  go_ret;exact ⟨cd E1.o.symm,(x0.drew.trans hx1).trans hx2⟩
 have c3:(aZ s n).sign=(aZ t m).sign:=by omega
 by_cases c4:(aZ s n).sign<0
 ·have e1:jd (aZ s n) (aZ t m)=fc m n:=by
   have n1:aZ s n<0:=by apply Int.not_le.1;intro h;have:=Int.sign_nonneg_iff.2 h;omega
   have n2:aZ t m<0:=by apply Int.not_le.1;intro h;have:=Int.sign_nonneg_iff.2 h;omega
   cases s
   ·rw [fj]at n1;omega
   ·cases t
    ·rw [fj]at n2;omega
    ·rw [gu,gu,Ke,Co]
  have E1:=ae e1;clear e1 c3
  go_enter func160,ntmps160
  go_wp2
  obtain ⟨W,hW,x0,Z0,A0,A1⟩:=er w 117 [.bool s,.slice a k c] 117 [.bool t,.slice b k' c'];rw [←hW];clear hW;obtain ⟨aC,bf,bU,bV⟩:=ax A0 (Ext.refl _);have z0:=(A0.ext (Ext.refl _)).lt;obtain ⟨aM,bD,cj,cq⟩:=ax A1 (Ext.refl _);have z1:=(A1.ext (Ext.refl _)).lt;have fD:True:=trivial
  go_region_held3 (fun w'=>w'.cell? ⟨w.heap.size,0,none⟩=some (.bool s)∧w'.cell? ⟨w.heap.size,1,none⟩=some (.slice a k c)∧w'.cell? ⟨w.heap.size+1,0,none⟩=some (.bool t)∧w'.cell? ⟨w.heap.size+1,1,none⟩=some (.slice b k' c')) (first|exact ⟨aC,bf,aM,bD⟩|(simp [go_sem,aC,bf,aM,bD])) (first
   |(go_at_call 185;have _t:=fD;refine (jt _ _ _ _ _ _ ((h.ext x0).ext (by exact (Ext.refl _).drew))).mono ?_;rintro e w1 ⟨rfl,hx1⟩;clear fD _t;obtain ⟨aC,bf,bU,bV⟩:=ax A0 (((Ext.refl _).drew).trans hx1);have z0:=(A0.ext (((Ext.refl _).drew).trans hx1)).lt;obtain ⟨aM,bD,cj,cq⟩:=ax A1 (((Ext.refl _).drew).trans hx1);have z1:=(A1.ext (((Ext.refl _).drew).trans hx1)).lt)
   |(go_at_call 185;refine (jt _ _ _ _ _ _ (((h'.ext x0).ext (by exact (Ext.refl _).drew)).ext hx1)).mono ?_;rintro e w2 ⟨rfl,hx2⟩;obtain ⟨aC,bf,bU,bV⟩:=ax A0 ((((Ext.refl _).drew).trans hx1).trans hx2);have z0:=(A0.ext ((((Ext.refl _).drew).trans hx1).trans hx2)).lt;obtain ⟨aM,bD,cj,cq⟩:=ax A1 ((((Ext.refl _).drew).trans hx1).trans hx2);have z1:=(A1.ext ((((Ext.refl _).drew).trans hx1).trans hx2)).lt))
  generalize (aZ s n).sign=p at*;generalize (aZ t m).sign=q at*;go_wp2_with fail
  refine (dJ _ _ _ _ _ _ _ _ _ ((((h'.ext x0).ext (by exact (Ext.refl _).drew)).ext hx1).ext hx2) ((((h.ext x0).ext (by exact (Ext.refl _).drew)).ext hx1).ext hx2)).mono ?_;rintro e w3 ⟨rfl,hq⟩;go_wp2
  go_ret;exact ⟨cd E1.o.symm,((x0.drew.trans hx1).trans hx2).trans hq.ext⟩
 ·have e1:jd (aZ s n) (aZ t m)=fc n m:=by
   have n1:0≤aZ s n:=by apply Int.not_lt.1;intro h;have:=Int.sign_eq_neg_one_of_neg h;omega
   have n2:0≤aZ t m:=by apply Int.not_lt.1;intro h;have:=Int.sign_eq_neg_one_of_neg h;omega
   have m1:aZ s n=n:=by cases s
                        ·rfl
                        ·rw [gu]at*;omega
   have m2:aZ t m=m:=by cases t
                        ·rfl
                        ·rw [gu]at*;omega
   rw [m1,m2,Co]
  have E1:=ae e1;clear e1 c3
  go_enter func160,ntmps160
  go_wp2
  obtain ⟨W,hW,x0,Z0,A0,A1⟩:=er w 117 [.bool s,.slice a k c] 117 [.bool t,.slice b k' c'];rw [←hW];clear hW;obtain ⟨aC,bf,bU,bV⟩:=ax A0 (Ext.refl _);have z0:=(A0.ext (Ext.refl _)).lt;obtain ⟨aM,bD,cj,cq⟩:=ax A1 (Ext.refl _);have z1:=(A1.ext (Ext.refl _)).lt;have fD:True:=trivial
  go_region_held3 (fun w'=>w'.cell? ⟨w.heap.size,0,none⟩=some (.bool s)∧w'.cell? ⟨w.heap.size,1,none⟩=some (.slice a k c)∧w'.cell? ⟨w.heap.size+1,0,none⟩=some (.bool t)∧w'.cell? ⟨w.heap.size+1,1,none⟩=some (.slice b k' c')) (first|exact ⟨aC,bf,aM,bD⟩|(simp [go_sem,aC,bf,aM,bD])) (first
   |(go_at_call 185;have _t:=fD;refine (jt _ _ _ _ _ _ ((h.ext x0).ext (by exact (Ext.refl _).drew))).mono ?_;rintro e w1 ⟨rfl,hx1⟩;clear fD _t;obtain ⟨aC,bf,bU,bV⟩:=ax A0 (((Ext.refl _).drew).trans hx1);have z0:=(A0.ext (((Ext.refl _).drew).trans hx1)).lt;obtain ⟨aM,bD,cj,cq⟩:=ax A1 (((Ext.refl _).drew).trans hx1);have z1:=(A1.ext (((Ext.refl _).drew).trans hx1)).lt)
   |(go_at_call 185;refine (jt _ _ _ _ _ _ (((h'.ext x0).ext (by exact (Ext.refl _).drew)).ext hx1)).mono ?_;rintro e w2 ⟨rfl,hx2⟩;obtain ⟨aC,bf,bU,bV⟩:=ax A0 ((((Ext.refl _).drew).trans hx1).trans hx2);have z0:=(A0.ext ((((Ext.refl _).drew).trans hx1).trans hx2)).lt;obtain ⟨aM,bD,cj,cq⟩:=ax A1 ((((Ext.refl _).drew).trans hx1).trans hx2);have z1:=(A1.ext ((((Ext.refl _).drew).trans hx1).trans hx2)).lt))
  generalize (aZ s n).sign=p at*;generalize (aZ t m).sign=q at*;go_wp2_with fail
  refine (dJ _ _ _ _ _ _ _ _ _ ((((h.ext x0).ext (by exact (Ext.refl _).drew)).ext hx1).ext hx2) ((((h'.ext x0).ext (by exact (Ext.refl _).drew)).ext hx1).ext hx2)).mono ?_;rintro e w3 ⟨rfl,hq⟩;go_wp2
  go_ret;exact ⟨cd E1.o.symm,((x0.drew.trans hx1).trans hx2).trans hq.ext⟩
theorem yH (w:World) (s:Bool) (a:Option Addr) (k c n:Nat) (h:Raw w a k c n) (h1: -9223372036854775808≤aZ s n) (h2:aZ s n≤9223372036854775807):
 Calls prog 110 #[.agg #[.bool s,.slice a k c]] w fun e w'=>e= .returned (.tuple #[.int .i64 (aZ s n),.bool true])∧Ext w w':=by
 cases s
 ·rw [fj]at*
  have d1: ¬(9223372036854775808:Int)≤(n:Int):=by omega
  go_enter func110,ntmps110
  go_wp2_with fail
  refine (cH _ _ _ _ _ (h.ext ((Ext.refl _).alloc _)) (by omega)).mono ?_;rintro e w1 ⟨rfl,rfl⟩;go_wp2
  go_ret2
  exact ⟨rfl,(Ext.refl _).alloc _⟩
 ·rw [gu]at*
  have e1:wrap64 (IntKind.u64.wrap (-(n:Int)))= -(n:Int):=by
   rw [IntKind.wrap_u64];unfold wrap64;omega
  have E1:=ae e1;clear e1
  have d1:(n:Int)≤9223372036854775808:=by omega
  go_enter func110,ntmps110
  go_wp2_with fail
  refine (cH _ _ _ _ _ (h.ext ((Ext.refl _).alloc _)) (by omega)).mono ?_;rintro e w1 ⟨rfl,rfl⟩;go_wp2
  go_ret2
  refine ⟨?_,(Ext.refl _).alloc _⟩;simp [go_sem,E1.o]
def iY (x y:Int) (w:World) (e:Ending) (w':World):Prop:= ∃a c a' c',e= .returned (.tuple #[.agg #[.bool (decide (x<0)),.slice a (len x.natAbs) c],.agg #[.bool (decide (y<0)),.slice a' (len y.natAbs) c'],.bool true])∧
 Raw w' a (len x.natAbs) c x.natAbs∧Fr w.heap.size a∧Raw w' a' (len y.natAbs) c' y.natAbs∧Fr w.heap.size a'∧Ext w w'
theorem iY.of {w W w2 w3:World} {s:Bool} {a a':Option Addr} {c c' n m:Nat} {x y:Int} (hx:x=aZ s n) (hy:y=m) (h:Raw w2 a (len n) c n) (hf:Fr W.heap.size a) (h':Raw w2 a' (len m) c' m) (hf':Fr W.heap.size a') (hW:Ext w W) (h2:Ext W w2)
 (t:Touch w.heap.size W.heap.size w2 w3):iY x y w (.returned (.tuple #[.agg #[.bool (s&&decide (0<len n)),.slice a (len n) c],.agg #[.bool false,.slice a' (len m) c'],.bool true])) w3:=by
 subst hx;subst hy
 refine ⟨a,c,a',c',?_,?_,hf.mono hW.size,?_,hf'.mono hW.size,hW.bh h2 t⟩
 ·rw [bF,rK];simp only [gj,Int.natAbs_natCast]
  have:decide ((m:Int)<0)=false:=by simp
  rw [this]
 ·rw [bF];exact h.bh t hf.o
 ·rw [Int.natAbs_natCast];exact h'.bh t hf'.o
theorem pw {s t:Bool} {n m:Nat} (hm:0<m) (h:s=false∨n % m=0):aZ s n/aZ t m=aZ (s !=t) (n/m)∧aZ s n % aZ t m=(n % m:Nat):=by
 have Zs:(m:Int)≠0:=by omega
 cases s
 ·cases t
  ·simp [aZ]
  ·simp [aZ,Int.ediv_neg,Int.emod_neg]
 ·have h0:n % m=0:=by simpa using h
  obtain ⟨q,rfl⟩: ∃q,n=m*q:=⟨n/m,by have:=Nat.div_add_mod n m;omega⟩;cases t
  ·simp only [aZ];constructor
   ·simp [Nat.mul_div_cancel_left _ hm]
    rw [←Int.mul_neg,Int.mul_ediv_cancel_left _ Zs]
   ·simp
  ·simp only [aZ];constructor
   ·simp [Nat.mul_div_cancel_left _ hm]
    rw [←Int.mul_neg,Int.mul_ediv_cancel_left _ Zs];omega
   ·simp
theorem pP {t:Bool} {n m:Nat} (hm:0<m) (h:0<n % m):aZ true n/aZ t m=aZ (true !=t) (n/m+1)∧aZ true n % aZ t m=(m-n % m:Nat):=by
 have h1:=Nat.div_add_mod n m;have h2:=Nat.mod_lt n hm;have Zs:(0:Int)<(m:Int):=by omega
 have e:(-(n:Int))=(m:Int)*(-((n/m:Nat):Int)-1)+((m-n % m:Nat):Int):=by
  rw [Int.ofNat_sub (Nat.le_of_lt h2),Int.mul_sub,Int.mul_neg];have:(n:Int)=(m:Int)*((n/m:Nat):Int)+((n % m:Nat):Int):=by exact_mod_cast h1.symm
  rw [Int.mul_one];omega
 have q1:(-(n:Int))/(m:Int)= -((n/m:Nat):Int)-1:=by
  rw [e,Int.mul_add_ediv_left _ _ (by omega),Int.ediv_eq_zero_of_lt (by omega) (by omega)];omega
 have r1:(-(n:Int)) % (m:Int)=((m-n % m:Nat):Int):=by
  rw [e,Int.mul_add_emod_self_left,Int.emod_eq_of_lt (by omega) (by omega)]
 cases t
 ·simp only [aZ];simp
  refine ⟨?_,?_⟩
  ·rw [q1];simp;omega
  ·rw [r1]
 ·simp only [aZ];simp
  refine ⟨?_,?_⟩
  ·rw [q1];simp;omega
  ·rw [r1]
theorem vX (w:World) (s t:Bool) (a b:Option Addr) (k c k' c' n m:Nat) (h:Raw w a k c n) (h':Raw w b k' c' m) (hm:0<m) (b1:len n<1000000000-1):
 Calls prog 195 #[.agg #[.bool s,.slice a k c],.agg #[.bool t,.slice b k' c']] w (iY (aZ s n/aZ t m) (aZ s n % aZ t m) w):=by
 by_cases hc:s=false∨n % m=0
 ·obtain ⟨e1,e2⟩:=pw (t:=t) hm hc
  have E1:=ae e1;have E2:=ae e2;clear e1 e2
  have hg:(s&&decide (0<len (n % m)))=false:=by
   rcases hc with rfl|h0
   ·rfl
   ·rw [h0,kQ];simp
  go_enter func195,ntmps195
  go_wp2_with fail
  obtain ⟨W,hW,x0,Z0,A0,A1,A2,A3⟩:=uW w 117 [.bool s,.slice a k c] 117 [.bool t,.slice b k' c'] 117 [.bool false,.slice none 0 0] 117 [.bool false,.slice none 0 0];rw [←hW];clear hW;have aC:=ax A0 (Ext.refl _);have z0:=(A0.ext (Ext.refl _)).lt;have aM:=ax A1 (Ext.refl _);have z1:=(A1.ext (Ext.refl _)).lt;obtain ⟨bj,bQ,ct,cA⟩:=ax A2 (Ext.refl _);have z2:=(A2.ext (Ext.refl _)).lt;obtain ⟨eP,eQ,fU,fV⟩:=ax A3 (Ext.refl _);have z3:=(A3.ext (Ext.refl _)).lt;refine (jc _ _ _ _ _ _ _ _ _ (h.ext x0) (h'.ext x0) hm (by omega)).mono ?_;rintro e w1 ⟨a1,c1,a2,c2,rfl,hr1,iX,hr2,hf2,hx1⟩;have aC:=ax A0 hx1;have z0:=(A0.ext hx1).lt;have aM:=ax A1 hx1;have z1:=(A1.ext hx1).lt;obtain ⟨bj,bQ,ct,cA⟩:=ax A2 hx1;have z2:=(A2.ext hx1).lt;obtain ⟨eP,eQ,fU,fV⟩:=ax A3 hx1;have z3:=(A3.ext hx1).lt;have wM:=hr1.le;have hl2:=hr2.le;cases s
  ·go_wp2_with fail
   refine (eo _ _ _ _ _ (by omega)).mono ?_;rintro e w2 ⟨rfl,hx2⟩;have aC:=ax A0 (hx1.trans hx2);have z0:=(A0.ext (hx1.trans hx2)).lt;have aM:=ax A1 (hx1.trans hx2);have z1:=(A1.ext (hx1.trans hx2)).lt;obtain ⟨bj,bQ,ct,cA⟩:=ax A2 (hx1.trans hx2);have z2:=(A2.ext (hx1.trans hx2)).lt;obtain ⟨eP,eQ,fU,fV⟩:=ax A3 (hx1.trans hx2);have z3:=(A3.ext (hx1.trans hx2)).lt;go_wp2_with fail
   refine (eo _ _ _ _ _ (by omega)).mono ?_;rintro e w3 ⟨rfl,hx3⟩;have aC:=ax A0 ((hx1.trans hx2).trans hx3);have z0:=(A0.ext ((hx1.trans hx2).trans hx3)).lt;have aM:=ax A1 ((hx1.trans hx2).trans hx3);have z1:=(A1.ext ((hx1.trans hx2).trans hx3)).lt;obtain ⟨bj,bQ,ct,cA⟩:=ax A2 ((hx1.trans hx2).trans hx3);have z2:=(A2.ext ((hx1.trans hx2).trans hx3)).lt;obtain ⟨eP,eQ,fU,fV⟩:=ax A3 ((hx1.trans hx2).trans hx3);have z3:=(A3.ext ((hx1.trans hx2).trans hx3)).lt;have fin:=fun w4 t4=>iY.of (w:=w) (w3:=w4) (x:=aZ false n/aZ t m) (y:=aZ false n % aZ t m) E1.o E2.o ((hr1.ext hx2).ext hx3) iX ((hr2.ext hx2).ext hx3) hf2 x0 ((hx1.trans hx2).trans hx3) t4;go_wp2
   exact bodyPost_ret (by simp [results,results195,go_sem,bj,bQ,eP,eQ]) rfl (fin _ ((Touch.two _ (by omega) (by rw [Z0.o];omega) _ _).trans (Touch.two _ (by omega) (by rw [Z0.o];omega) _ _)))
  ·have h0:n % m=0:=by simpa using hc
   have Pq:len (n % m)=0:=by rw [h0];rfl
   have H0:=ae h0;clear h0 hg hc
   have hd0:decide (0<len (n % m))=false:=by rw [Pq];rfl
   have H0':=ae Pq;clear Pq
   go_wp2_with fail
   refine (eo _ _ _ _ _ (by omega)).mono ?_;rintro e w2 ⟨rfl,hx2⟩;have aC:=ax A0 (hx1.trans hx2);have z0:=(A0.ext (hx1.trans hx2)).lt;have aM:=ax A1 (hx1.trans hx2);have z1:=(A1.ext (hx1.trans hx2)).lt;obtain ⟨bj,bQ,ct,cA⟩:=ax A2 (hx1.trans hx2);have z2:=(A2.ext (hx1.trans hx2)).lt;obtain ⟨eP,eQ,fU,fV⟩:=ax A3 (hx1.trans hx2);have z3:=(A3.ext (hx1.trans hx2)).lt;go_wp2_with fail
   refine (eo _ _ _ _ _ (by omega)).mono ?_;rintro e w3 ⟨rfl,hx3⟩;have aC:=ax A0 ((hx1.trans hx2).trans hx3);have z0:=(A0.ext ((hx1.trans hx2).trans hx3)).lt;have aM:=ax A1 ((hx1.trans hx2).trans hx3);have z1:=(A1.ext ((hx1.trans hx2).trans hx3)).lt;obtain ⟨bj,bQ,ct,cA⟩:=ax A2 ((hx1.trans hx2).trans hx3);have z2:=(A2.ext ((hx1.trans hx2).trans hx3)).lt;obtain ⟨eP,eQ,fU,fV⟩:=ax A3 ((hx1.trans hx2).trans hx3);have z3:=(A3.ext ((hx1.trans hx2).trans hx3)).lt;have fin:=fun w4 t4=>iY.of (w:=w) (w3:=w4) (x:=aZ true n/aZ t m) (y:=aZ true n % aZ t m) E1.o E2.o ((hr1.ext hx2).ext hx3) iX ((hr2.ext hx2).ext hx3) hf2 x0 ((hx1.trans hx2).trans hx3) t4;go_wp2
   exact bodyPost_ret (by simp [results,results195,go_sem,bj,bQ,eP,eQ]) rfl (fin _ ((Touch.two _ (by omega) (by rw [Z0.o];omega) _ _).trans (Touch.two _ (by omega) (by rw [Z0.o];omega) _ _)))
 ·obtain ⟨rfl,KV⟩:s=true∧0<n % m:=by
   cases s
   ·exact absurd (Or.inl rfl) hc
   ·exact ⟨rfl,Nat.pos_of_ne_zero fun h=>hc (Or.inr h)⟩
  clear hc;obtain ⟨e1,e2⟩:=pP (t:=t) hm KV;have E1:=ae e1;have E2:=ae e2;clear e1 e2
  have QB:=gj.2 KV;have CQ:=Nat.mod_lt n hm;go_enter func195,ntmps195
  go_wp2_with fail
  obtain ⟨W,hW,x0,Z0,A0,A1,A2,A3⟩:=uW w 117 [.bool true,.slice a k c] 117 [.bool t,.slice b k' c'] 117 [.bool false,.slice none 0 0] 117 [.bool false,.slice none 0 0];rw [←hW];clear hW;have aC:=ax A0 (Ext.refl _);have z0:=(A0.ext (Ext.refl _)).lt;have aM:=ax A1 (Ext.refl _);have z1:=(A1.ext (Ext.refl _)).lt;obtain ⟨bj,bQ,ct,cA⟩:=ax A2 (Ext.refl _);have z2:=(A2.ext (Ext.refl _)).lt;obtain ⟨eP,eQ,fU,fV⟩:=ax A3 (Ext.refl _);have z3:=(A3.ext (Ext.refl _)).lt;refine (jc _ _ _ _ _ _ _ _ _ (h.ext x0) (h'.ext x0) hm (by omega)).mono ?_;rintro e w1 ⟨a1,c1,a2,c2,rfl,hr1,iX,hr2,hf2,hx1⟩;have aC:=ax A0 hx1;have z0:=(A0.ext hx1).lt;have aM:=ax A1 hx1;have z1:=(A1.ext hx1).lt;obtain ⟨bj,bQ,ct,cA⟩:=ax A2 hx1;have z2:=(A2.ext hx1).lt;obtain ⟨eP,eQ,fU,fV⟩:=ax A3 hx1;have z3:=(A3.ext hx1).lt;have hd0:decide (0<len (n % m))=true:=by simp [QB]
  have zF: ∀W:World,Raw (W.alloc (Obj.cells #[.int .u32 1] 185)) (some ⟨W.heap.size,0,none⟩) 1 1 1:=fun W=>
   ⟨[1],rfl,rfl,(aQ.alloc W 185 (cV [1])).limbs (Small.one (by decide)) (by simp)⟩
  have IE:len (n/m)≤len n:=cM (Nat.div_le_self _ _);go_wp2_with fail
  refine (FB _ _ _ _ _ _ _ _ _ (hr1.ext ((Ext.refl _).alloc _)) (zF _) (by omega) (by rw [EG (by decide) (by decide)];decide)).mono ?_;rintro e w2 ⟨a3,c3,rfl,hr3,hf3,hx2⟩;have aC:=ax A0 ((hx1.alloc _).trans hx2);have z0:=(A0.ext ((hx1.alloc _).trans hx2)).lt;have aM:=ax A1 ((hx1.alloc _).trans hx2);have z1:=(A1.ext ((hx1.alloc _).trans hx2)).lt;obtain ⟨bj,bQ,ct,cA⟩:=ax A2 ((hx1.alloc _).trans hx2);have z2:=(A2.ext ((hx1.alloc _).trans hx2)).lt;obtain ⟨eP,eQ,fU,fV⟩:=ax A3 ((hx1.alloc _).trans hx2);have z3:=(A3.ext ((hx1.alloc _).trans hx2)).lt;go_wp2_with fail
  refine (uO _ _ _ _ _ _ _ _ _ (((h'.ext x0).ext (hx1.alloc _)).ext hx2) ((hr2.ext ((Ext.refl _).alloc _)).ext hx2) (Nat.le_of_lt CQ)).mono ?_;rintro e w3 ⟨a4,c4,rfl,hr4,FL,hx3⟩;have aC:=ax A0 (((hx1.alloc _).trans hx2).trans hx3);have z0:=(A0.ext (((hx1.alloc _).trans hx2).trans hx3)).lt;have aM:=ax A1 (((hx1.alloc _).trans hx2).trans hx3);have z1:=(A1.ext (((hx1.alloc _).trans hx2).trans hx3)).lt;obtain ⟨bj,bQ,ct,cA⟩:=ax A2 (((hx1.alloc _).trans hx2).trans hx3);have z2:=(A2.ext (((hx1.alloc _).trans hx2).trans hx3)).lt;obtain ⟨eP,eQ,fU,fV⟩:=ax A3 (((hx1.alloc _).trans hx2).trans hx3);have z3:=(A3.ext (((hx1.alloc _).trans hx2).trans hx3)).lt;have MR:=hr3.le;have hl4:=hr4.le;go_wp2_with fail
  refine (eo _ _ _ _ _ (by omega)).mono ?_;rintro e w4 ⟨rfl,fl⟩;have aC:=ax A0 ((((hx1.alloc _).trans hx2).trans hx3).trans fl);have z0:=(A0.ext ((((hx1.alloc _).trans hx2).trans hx3).trans fl)).lt;have aM:=ax A1 ((((hx1.alloc _).trans hx2).trans hx3).trans fl);have z1:=(A1.ext ((((hx1.alloc _).trans hx2).trans hx3).trans fl)).lt;obtain ⟨bj,bQ,ct,cA⟩:=ax A2 ((((hx1.alloc _).trans hx2).trans hx3).trans fl);have z2:=(A2.ext ((((hx1.alloc _).trans hx2).trans hx3).trans fl)).lt;obtain ⟨eP,eQ,fU,fV⟩:=ax A3 ((((hx1.alloc _).trans hx2).trans hx3).trans fl);have z3:=(A3.ext ((((hx1.alloc _).trans hx2).trans hx3).trans fl)).lt;go_wp2_with fail
  refine (eo _ _ _ _ _ (by omega)).mono ?_;rintro e w5 ⟨rfl,dY⟩;have aC:=ax A0 (((((hx1.alloc _).trans hx2).trans hx3).trans fl).trans dY);have z0:=(A0.ext (((((hx1.alloc _).trans hx2).trans hx3).trans fl).trans dY)).lt;have aM:=ax A1 (((((hx1.alloc _).trans hx2).trans hx3).trans fl).trans dY);have z1:=(A1.ext (((((hx1.alloc _).trans hx2).trans hx3).trans fl).trans dY)).lt;obtain ⟨bj,bQ,ct,cA⟩:=ax A2 (((((hx1.alloc _).trans hx2).trans hx3).trans fl).trans dY);have z2:=(A2.ext (((((hx1.alloc _).trans hx2).trans hx3).trans fl).trans dY)).lt;obtain ⟨eP,eQ,fU,fV⟩:=ax A3 (((((hx1.alloc _).trans hx2).trans hx3).trans fl).trans dY);have z3:=(A3.ext (((((hx1.alloc _).trans hx2).trans hx3).trans fl).trans dY)).lt;have VL:W.heap.size≤w1.heap.size:=hx1.size;have sz2:W.heap.size≤w2.heap.size:=((hx1.alloc _).trans hx2).size;have fin:=fun w6 t6=>iY.of (w:=w) (w3:=w6) (x:=aZ true n/aZ t m) (y:=aZ true n % aZ t m) E1.o E2.o (((hr3.ext hx3).ext fl).ext dY) (hf3.mono (by simp;omega)) ((hr4.ext fl).ext dY) (FL.mono sz2) x0 (((((hx1.alloc _).trans hx2).trans hx3).trans fl).trans dY) t6;go_wp2
  exact bodyPost_ret (by simp [results,results195,go_sem,bj,bQ,eP,eQ]) rfl (fin _ ((Touch.two _ (by omega) (by rw [Z0.o];omega) _ _).trans (Touch.two _ (by omega) (by rw [Z0.o];omega) _ _)))
def Mg (s:Bool) (n m:Nat) (w:World) (e:Ending) (w':World):Prop:= ∃s1 a1 k1 c1 n1 b1 j1 d1 m1,e= .returned (.tuple #[.agg #[.bool s1,.slice a1 k1 c1],.slice b1 j1 d1])∧
 Raw w' a1 k1 c1 n1∧Raw w' b1 j1 d1 m1∧0<m1∧mkRat (aZ s1 n1) m1=mkRat (aZ s n) m∧len n1≤len n∧len m1≤len m+1∧Ext w w'
theorem uT (w:World):Raw (w.alloc (Obj.cells #[.int .u32 1] 185)) (some ⟨w.heap.size,0,none⟩) 1 1 1:=
 ⟨[1],rfl,rfl,(aQ.alloc w 185 (cV [1])).limbs (Small.one (by decide)) (by simp)⟩
theorem kO (w:World) (s:Bool) (a b:Option Addr) (k c j d n m:Nat) (h:Raw w a k c n) (g:Raw w b j d m):
 Calls prog 159 #[.agg #[.bool s,.slice a k c,.slice b j d]] w (Mg s n m w):=by
 by_cases hm:m=0
 ·subst hm
  have hc:fc 0 0=0:=rfl;go_enter func159,ntmps159
  go_wp2_with fail
  obtain ⟨W,hW,x0,Z0,A0,A1⟩:=er w 119 [.bool s,.slice a k c,.slice b j d] 117 [.bool false,.slice none 0 0];rw [←hW];clear hW;have aC:=aN A0 (Ext.refl _);have z0:=(A0.ext (Ext.refl _)).lt;obtain ⟨aM,bD,cj,cq⟩:=ax A1 (Ext.refl _);have z1:=(A1.ext (Ext.refl _)).lt;refine (dJ _ _ _ _ _ _ _ _ _ (g.ext x0) (Raw.nil _)).mono ?_;rintro e w1 ⟨rfl,ib⟩;rw [hc];have aC:=aN A0 ib.ext;have z0:=(A0.ext ib.ext).lt;obtain ⟨aM,bD,cj,cq⟩:=ax A1 ib.ext;have z1:=(A1.ext ib.ext).lt;go_wp2
  refine bodyPost_ret (v:= .tuple #[.agg #[.bool false,.slice none 0 0],.slice (some ⟨w1.heap.size,0,none⟩) 1 1]) (by simp [results,results159,go_sem,aM,bD,z1]) rfl ?_;refine ⟨false,none,0,0,0,some ⟨w1.heap.size,0,none⟩,1,1,1,rfl,Raw.nil _,?_,by omega,by simp [aZ],by rw [kQ];omega,by rw [n4];omega,?_⟩
  ·have:=uT ((w1.setCell ⟨w.heap.size+1,0,none⟩ (.bool false)).setCell ⟨w.heap.size+1,1,none⟩ (.slice none 0 0));simpa using this
  ·refine Ext.alloc (Ext.setCell (Ext.setCell (x0.trans ib.ext) ?_ _) ?_ _) _<;>simp
 ·have hc:fc m 0=1:=by unfold fc;rw [if_neg (by omega),if_neg hm]
  have HC:=ae hc;clear hc
  go_enter func159,ntmps159
  go_wp2_with fail
  obtain ⟨W,hW,x0,Z0,A0,A1⟩:=er w 119 [.bool s,.slice a k c,.slice b j d] 117 [.bool false,.slice none 0 0];rw [←hW];clear hW;have aC:=aN A0 (Ext.refl _);have z0:=(A0.ext (Ext.refl _)).lt;obtain ⟨aM,bD,cj,cq⟩:=ax A1 (Ext.refl _);have z1:=(A1.ext (Ext.refl _)).lt;refine (dJ _ _ _ _ _ _ _ _ _ (g.ext x0) (Raw.nil _)).mono ?_;rintro e w1 ⟨rfl,ib⟩;rw [HC.o];have aC:=aN A0 ib.ext;have z0:=(A0.ext ib.ext).lt;obtain ⟨aM,bD,cj,cq⟩:=ax A1 ib.ext;have z1:=(A1.ext ib.ext).lt;go_wp2
  go_region
  go_wp2
  refine bodyPost_ret (v:= .tuple #[.agg #[.bool s,.slice a k c],.slice b j d]) (by simp [results,results159,go_sem,aM,bD]) rfl ?_;have hx:Ext w ((w1.setCell ⟨w.heap.size+1,0,none⟩ (.bool s)).setCell ⟨w.heap.size+1,1,none⟩ (.slice a k c)).drew:=(((x0.trans ib.ext).setCell (by simp) _).setCell (by simp) _).drew;exact ⟨s,a,k,c,n,b,j,d,m,rfl,h.ext hx,g.ext hx,by omega,rfl,Nat.le_refl _,by omega,hx⟩
theorem rP (w:World) (s:Bool) (a b:Option Addr) (k c j d n m:Nat) (h:Raw w a k c n) (g:Raw w b j d m) (Aa: ¬(n<2147483648∧m<2147483648)):
 Calls prog 157 #[.agg #[.bool s,.slice a k c,.slice b j d]] w fun e w'=>e= .returned (.tuple #[.int .i64 0,.int .i64 0,.bool false])∧Ext w w':=by
 by_cases hn:n<18446744073709551616
 ·by_cases hm:m<18446744073709551616
  ·by_cases hn1:n<2147483648
   ·have xt:(2147483648:Int)≤(m:Int):=by omega
    have dn:decide ((2147483648:Int)≤(n:Int))=false:=decide_eq_false (by omega);have HN:=ae hn;have Lh:=ae hn1;clear hn1 hn
    clear Aa;go_enter func157,ntmps157
    go_wp2_with fail
    refine (cH _ _ _ _ _ (h.ext ((Ext.refl _).alloc _)) HN.o).mono ?_;rintro e w1 ⟨rfl,rfl⟩;go_wp2_with fail
    refine (cH _ _ _ _ _ (g.ext ((Ext.refl _).alloc _)) hm).mono ?_;rintro e w1 ⟨rfl,rfl⟩;go_wp2
    go_ret3
    exact ⟨rfl,(Ext.refl _).alloc _⟩
   ·have EH:(2147483648:Int)≤(n:Int):=by omega
    clear Aa;go_enter func157,ntmps157
    go_wp2_with fail
    refine (cH _ _ _ _ _ (h.ext ((Ext.refl _).alloc _)) hn).mono ?_;rintro e w1 ⟨rfl,rfl⟩;go_wp2_with fail
    refine (cH _ _ _ _ _ (g.ext ((Ext.refl _).alloc _)) hm).mono ?_;rintro e w1 ⟨rfl,rfl⟩;go_wp2
    go_ret3
    exact ⟨rfl,(Ext.refl _).alloc _⟩
  ·clear Aa
   go_enter func157,ntmps157
   go_wp2_with fail
   refine (cH _ _ _ _ _ (h.ext ((Ext.refl _).alloc _)) hn).mono ?_;rintro e w1 ⟨rfl,rfl⟩;go_wp2_with fail
   refine (jY _ _ _ _ _ (g.ext ((Ext.refl _).alloc _)) (by omega)).mono ?_;rintro e w1 ⟨rfl,rfl⟩;go_wp2
   go_ret3
   exact ⟨rfl,(Ext.refl _).alloc _⟩
 ·clear Aa
  by_cases hm:m<18446744073709551616
  ·go_enter func157,ntmps157
   go_wp2_with fail
   refine (jY _ _ _ _ _ (h.ext ((Ext.refl _).alloc _)) (by omega)).mono ?_;rintro e w1 ⟨rfl,rfl⟩;go_wp2_with fail
   refine (cH _ _ _ _ _ (g.ext ((Ext.refl _).alloc _)) hm).mono ?_;rintro e w1 ⟨rfl,rfl⟩;go_wp2
   go_ret3
   exact ⟨rfl,(Ext.refl _).alloc _⟩
  ·go_enter func157,ntmps157
   go_wp2_with fail
   refine (jY _ _ _ _ _ (h.ext ((Ext.refl _).alloc _)) (by omega)).mono ?_;rintro e w1 ⟨rfl,rfl⟩;go_wp2_with fail
   refine (jY _ _ _ _ _ (g.ext ((Ext.refl _).alloc _)) (by omega)).mono ?_;rintro e w1 ⟨rfl,rfl⟩;go_wp2
   go_ret3
   exact ⟨rfl,(Ext.refl _).alloc _⟩
def Mh (s:Bool) (n m:Nat) (w:World) (e:Ending) (w':World):Prop:= ∃(x:Int) (y:Nat),e= .returned (.tuple #[.int .i64 x,.int .i64 (y:Nat),.bool true])∧
 -2147483648<x∧x<2147483648∧0<y∧y<2147483648∧mkRat x y=mkRat (aZ s n) m∧Ext w w'
theorem kP (w:World) (s:Bool) (a b:Option Addr) (k c j d n m:Nat) (h:Raw w a k c n) (g:Raw w b j d m) (hn:n<2147483648) (hm:m<2147483648):
 Calls prog 157 #[.agg #[.bool s,.slice a k c,.slice b j d]] w (Mh s n m w):=by
 have dn:decide ((2147483648:Int)≤(n:Int))=false:=decide_eq_false (by omega);have dm:decide ((2147483648:Int)≤(m:Int))=false:=decide_eq_false (by omega);have hn3:n<3000000000:=by omega
 have Vu:m<3000000000:=by omega
 have HN:=ae hn;have HM:=ae hm;clear hn hm
 by_cases h0:m=0
 ·subst h0
  go_enter func157,ntmps157
  go_wp2_with fail
  refine (cH _ _ _ _ _ (h.ext ((Ext.refl _).alloc _)) (by have:=HN.o;omega)).mono ?_;rintro e w1 ⟨rfl,rfl⟩;go_wp2_with fail
  refine (cH _ _ _ _ _ (g.ext ((Ext.refl _).alloc _)) (by have:=HM.o;omega)).mono ?_;rintro e w1 ⟨rfl,rfl⟩;go_wp2
  go_ret3
  exact ⟨0,1,rfl,by omega,by omega,by omega,by omega,by simp,(Ext.refl _).alloc _⟩
 ·have NG:((m:Int)==0)=false:=by rw [beq_eq_false_iff_ne];omega
  cases s
  ·go_enter func157,ntmps157
   go_wp2_with fail
   refine (cH _ _ _ _ _ (h.ext ((Ext.refl _).alloc _)) (by have:=HN.o;omega)).mono ?_;rintro e w1 ⟨rfl,rfl⟩;go_wp2_with fail
   refine (cH _ _ _ _ _ (g.ext ((Ext.refl _).alloc _)) (by have:=HM.o;omega)).mono ?_;rintro e w1 ⟨rfl,rfl⟩;go_wp2
   go_ret3
   have hn:=HN.o;have hm:=HM.o
   exact ⟨n,m,rfl,by omega,by omega,by omega,by omega,rfl,(Ext.refl _).alloc _⟩
  ·go_enter func157,ntmps157
   go_wp2_with fail
   refine (cH _ _ _ _ _ (h.ext ((Ext.refl _).alloc _)) (by have:=HN.o;omega)).mono ?_;rintro e w1 ⟨rfl,rfl⟩;go_wp2_with fail
   refine (cH _ _ _ _ _ (g.ext ((Ext.refl _).alloc _)) (by have:=HM.o;omega)).mono ?_;rintro e w1 ⟨rfl,rfl⟩;go_wp2
   go_ret3
   have hn:=HN.o;have hm:=HM.o
   exact ⟨-(n:Int),m,rfl,by omega,by omega,by omega,by omega,rfl,(Ext.refl _).alloc _⟩
theorem jZ (x:Int) (y:Nat) (h:0<y):decide ((mkRat x y).num<0)=decide (x<0):=by
 rw [Rat.num_mkRat,if_neg (by omega)];have hg:(0:Int)<(Nat.gcd y x.natAbs:Nat):=by have:=Nat.gcd_pos_of_pos_left x.natAbs h;omega
 have:x/(Nat.gcd y x.natAbs:Nat)<0↔x<0:=by
  constructor
  ·intro h1
   apply Int.not_le.1;intro h2
   have:=Int.ediv_nonneg h2 (Int.le_of_lt hg);omega
  ·intro h1;exact Int.ediv_neg_of_neg_of_pos h1 hg
 simp only [this]
theorem br.Cq {w W w2 w3:World} {a a':Option Addr} {c c':Nat} {q:Rat} {n m:Nat} {s:Bool} (hn:q.num.natAbs=n) (hm:q.den=m) (hs:decide (q.num<0)=s)
 (h:Raw w2 a (len n) c n) (hf:Fr W.heap.size a) (h':Raw w2 a' (len m) c' m) (hf':Fr W.heap.size a') (hW:Ext w W) (h2:Ext W w2)
 (t:Touch w.heap.size W.heap.size w2 w3):br q w (.returned (.agg #[.bool s,.slice a (len n) c,.slice a' (len m) c'])) w3:=by
 subst hn;subst hm;subst hs
 exact ⟨a,c,a',c',rfl,h.bh t hf.o,hf.mono hW.size,h'.bh t hf'.o,hf'.mono hW.size,hW.bh h2 t⟩
theorem Kf (x:Int) (h1: -9223372036854775808<x) (h2:x<0):IntKind.u64.wrap (-IntKind.u64.wrap x)=((x.natAbs:Nat):Int):=by
 rw [IntKind.wrap_u64,IntKind.wrap_u64];omega
theorem Kg (x:Int) (h1:x<9223372036854775808) (h2: ¬x<0):IntKind.u64.wrap x=((x.natAbs:Nat):Int):=by
 rw [IntKind.wrap_u64];omega
theorem tC (w:World) (x:Int) (y:Nat) (hx1: -9223372036854775808<x) (hx2:x<0) (Hb:0<y) (hy:y<9223372036854775808):
 Calls prog 189 #[.int .i64 x,.int .i64 (y:Nat)] w (br (mkRat x y) w):=by
 have ew:=Kf x hx1 hx2;go_enter func189,ntmps189
 go_wp2
 obtain ⟨W,hW,x0,Z0,A0⟩:=aX w 119 [.bool false,.slice none 0 0,.slice none 0 0];rw [←hW];clear hW;obtain ⟨aC,bf,fP,bU,bV,iV⟩:=aN A0 (Ext.refl _);have z0:=(A0.ext (Ext.refl _)).lt;go_loopw [6,7] (fun gg rr wr=> ∃(p r:Nat),0<p∧p<9223372036854775808∧r<9223372036854775808∧Hid (Nat.gcd p r=Nat.gcd y x.natAbs)∧Quiet W wr∧gg= .int .u64 p∧rr= .int .u64 r) (fun _ rr _=>(intOf rr).toNat)
 case atStart=>exact ⟨y,x.natAbs,by omega,by omega,by omega,rfl,Quiet.refl _,rfl,rfl⟩
 case round=>
  obtain ⟨p,r,U7,hp,hr,hg,hq,rfl,rfl⟩:=hrel;by_cases KV:r=0
  ·subst KV
   have TU:p=Nat.gcd y x.natAbs:=by have:=hg.o;rwa [Nat.gcd_zero_right]at this
   have q1:=gm x y Hb;have q2:=kS x y Hb;have q3:=jZ x y Hb;rw [←TU]at q1 q2;have l1:x.natAbs/p≤x.natAbs:=Nat.div_le_self _ _;have l2:y/p≤y:=Nat.div_le_self _ _
   have e1:IntKind.u64.wrap (((x.natAbs:Nat):Int)/(p:Int))=((x.natAbs/p:Nat):Int):=by
    rw [IntKind.wrap_u64,←Int.natCast_ediv];generalize x.natAbs/p=z at*;omega
   have e2:IntKind.u64.wrap ((y:Int)/(p:Int))=((y/p:Nat):Int):=by
    rw [IntKind.wrap_u64,←Int.natCast_ediv];generalize y/p=z at*;omega
   have VM:((x.natAbs:Nat):Int)/(p:Int)=((x.natAbs/p:Nat):Int):=(Int.natCast_ediv _ _).symm;have Zt:(y:Int)/(p:Int)=((y/p:Nat):Int):=(Int.natCast_ediv _ _).symm
   have Zw:IntKind.u64.wrap ((x.natAbs/p:Nat):Int)=((x.natAbs/p:Nat):Int):=by
    rw [IntKind.wrap_u64];generalize x.natAbs/p=z at*;omega
   have Zx:IntKind.u64.wrap ((y/p:Nat):Int)=((y/p:Nat):Int):=by
    rw [IntKind.wrap_u64];generalize y/p=z at*;omega
   have b1:x.natAbs/p<18446744073709551616:=by omega
   have b2:y/p<18446744073709551616:=by omega
   clear TU hg l1 l2;generalize x.natAbs/p=u at*;generalize y/p=v at*;generalize hQ:mkRat x y=Q at*;have Q1:=ae q1;have Q2:=ae q2;have Q3:=ae q3;have HQ:=ae hQ
   clear q1 q2 q3 hQ;have hpi:((p:Int)==0)=false:=by rw [beq_eq_false_iff_ne];omega
   have h1p:(1:Int)≤(p:Int):=by omega
   have Zy:((p:Nat):Int)≠0:=by omega
   obtain ⟨aC,bf,fP,bU,bV,iV⟩:=aN A0 hq.ext;have z0:=(A0.ext hq.ext).lt;have fD:True:=trivial;go_wp2
   go_region_with (first
    |(go_at_call 184;have _t:=fD;refine (cU _ _ (by assumption)).mono ?_;rintro e w1 ⟨a1,c1,rfl,hr1,iX,hx3⟩;clear fD _t;obtain ⟨aC,bf,fP,bU,bV,iV⟩:=aN A0 ((hq.ext.drew).trans hx3);have z0:=(A0.ext ((hq.ext.drew).trans hx3)).lt)
    |(go_at_call 184;refine (cU _ _ (by assumption)).mono ?_;rintro e w2 ⟨a2,c2,rfl,hr2,hf2,fl⟩;obtain ⟨aC,bf,fP,bU,bV,iV⟩:=aN A0 (((hq.ext.drew).trans hx3).trans fl);have z0:=(A0.ext (((hq.ext.drew).trans hx3).trans fl)).lt))
   all_goals go_wp2
   all_goals exact bodyPost_ret (by simp [results,results189,go_sem,aC,bf,fP,hx2]) rfl (br.Cq (s:=decide (x<0)) Q1.o Q2.o Q3.o (hr1.ext fl) (iX.mono hq.ext.size) hr2 (hf2.mono (Nat.le_trans hq.ext.size hx3.size)) x0 ((hq.ext.drew.trans hx3).trans fl) (Touch.three _ (Nat.le_refl _) (by rw [Z0.o];omega) _ _ _))
  ·have Zk:(((r:Nat):Int) !=0)=true:=by rw [bne_iff_ne];omega
   have e3:(p:Int).tmod (r:Int)=((p % r:Nat):Int):=by rw [Int.tmod_eq_emod_of_nonneg (by omega),Int.natCast_emod]
   have Tu:((r:Int)==0)=false:=by rw [beq_eq_false_iff_ne];omega
   have h1r:(1:Int)≤(r:Int):=by omega
   have hlt:=Nat.mod_lt p (Nat.pos_of_ne_zero KV);have NF:Nat.gcd r (p % r)=Nat.gcd p r:=by rw [Nat.gcd_comm r,←Nat.gcd_rec,Nat.gcd_comm]
   have HG:=ae NF;clear NF
   go_wp2
   go_quiet (fail)
   go_wp2
   go_roundw
   case rel=>exact ⟨r,p % r,by omega,by omega,by omega,HG.o.trans hg.o,hq.drewN _,rfl,rfl⟩
   case measure=>simp [intOf];omega
theorem tD (w:World) (x:Int) (y:Nat) (hx1:x<9223372036854775808) (hx2: ¬x<0) (Hb:0<y) (hy:y<9223372036854775808):
 Calls prog 189 #[.int .i64 x,.int .i64 (y:Nat)] w (br (mkRat x y) w):=by
 have ew:=Kg x hx1 hx2;go_enter func189,ntmps189
 go_wp2
 obtain ⟨W,hW,x0,Z0,A0⟩:=aX w 119 [.bool false,.slice none 0 0,.slice none 0 0];rw [←hW];clear hW;obtain ⟨aC,bf,fP,bU,bV,iV⟩:=aN A0 (Ext.refl _);have z0:=(A0.ext (Ext.refl _)).lt;go_loopw [6,7] (fun gg rr wr=> ∃(p r:Nat),0<p∧p<9223372036854775808∧r<9223372036854775808∧Hid (Nat.gcd p r=Nat.gcd y x.natAbs)∧Quiet W wr∧gg= .int .u64 p∧rr= .int .u64 r) (fun _ rr _=>(intOf rr).toNat)
 case atStart=>exact ⟨y,x.natAbs,by omega,by omega,by omega,rfl,Quiet.refl _,rfl,rfl⟩
 case round=>
  obtain ⟨p,r,U7,hp,hr,hg,hq,rfl,rfl⟩:=hrel;by_cases KV:r=0
  ·subst KV
   have TU:p=Nat.gcd y x.natAbs:=by have:=hg.o;rwa [Nat.gcd_zero_right]at this
   have q1:=gm x y Hb;have q2:=kS x y Hb;have q3:=jZ x y Hb;rw [←TU]at q1 q2;have l1:x.natAbs/p≤x.natAbs:=Nat.div_le_self _ _;have l2:y/p≤y:=Nat.div_le_self _ _
   have e1:IntKind.u64.wrap (((x.natAbs:Nat):Int)/(p:Int))=((x.natAbs/p:Nat):Int):=by
    rw [IntKind.wrap_u64,←Int.natCast_ediv];generalize x.natAbs/p=z at*;omega
   have e2:IntKind.u64.wrap ((y:Int)/(p:Int))=((y/p:Nat):Int):=by
    rw [IntKind.wrap_u64,←Int.natCast_ediv];generalize y/p=z at*;omega
   have VM:((x.natAbs:Nat):Int)/(p:Int)=((x.natAbs/p:Nat):Int):=(Int.natCast_ediv _ _).symm;have Zt:(y:Int)/(p:Int)=((y/p:Nat):Int):=(Int.natCast_ediv _ _).symm
   have Zw:IntKind.u64.wrap ((x.natAbs/p:Nat):Int)=((x.natAbs/p:Nat):Int):=by
    rw [IntKind.wrap_u64];generalize x.natAbs/p=z at*;omega
   have Zx:IntKind.u64.wrap ((y/p:Nat):Int)=((y/p:Nat):Int):=by
    rw [IntKind.wrap_u64];generalize y/p=z at*;omega
   have b1:x.natAbs/p<18446744073709551616:=by omega
   have b2:y/p<18446744073709551616:=by omega
   clear TU hg l1 l2;generalize x.natAbs/p=u at*;generalize y/p=v at*;generalize hQ:mkRat x y=Q at*;have Q1:=ae q1;have Q2:=ae q2;have Q3:=ae q3;have HQ:=ae hQ
   clear q1 q2 q3 hQ;have hpi:((p:Int)==0)=false:=by rw [beq_eq_false_iff_ne];omega
   have h1p:(1:Int)≤(p:Int):=by omega
   have Zy:((p:Nat):Int)≠0:=by omega
   obtain ⟨aC,bf,fP,bU,bV,iV⟩:=aN A0 hq.ext;have z0:=(A0.ext hq.ext).lt;have fD:True:=trivial;go_wp2
   go_region_with (first
    |(go_at_call 184;have _t:=fD;refine (cU _ _ (by assumption)).mono ?_;rintro e w1 ⟨a1,c1,rfl,hr1,iX,hx3⟩;clear fD _t;obtain ⟨aC,bf,fP,bU,bV,iV⟩:=aN A0 ((hq.ext.drew).trans hx3);have z0:=(A0.ext ((hq.ext.drew).trans hx3)).lt)
    |(go_at_call 184;refine (cU _ _ (by assumption)).mono ?_;rintro e w2 ⟨a2,c2,rfl,hr2,hf2,fl⟩;obtain ⟨aC,bf,fP,bU,bV,iV⟩:=aN A0 (((hq.ext.drew).trans hx3).trans fl);have z0:=(A0.ext (((hq.ext.drew).trans hx3).trans fl)).lt))
   all_goals go_wp2
   all_goals exact bodyPost_ret (by simp [results,results189,go_sem,aC,bf,fP]) rfl (br.Cq (s:=decide (x<0)) Q1.o Q2.o Q3.o (hr1.ext fl) (iX.mono hq.ext.size) hr2 (hf2.mono (Nat.le_trans hq.ext.size hx3.size)) x0 ((hq.ext.drew.trans hx3).trans fl) (Touch.three _ (Nat.le_refl _) (by rw [Z0.o];omega) _ _ _))
  ·have Zk:(((r:Nat):Int) !=0)=true:=by rw [bne_iff_ne];omega
   have e3:(p:Int).tmod (r:Int)=((p % r:Nat):Int):=by rw [Int.tmod_eq_emod_of_nonneg (by omega),Int.natCast_emod]
   have Tu:((r:Int)==0)=false:=by rw [beq_eq_false_iff_ne];omega
   have h1r:(1:Int)≤(r:Int):=by omega
   have hlt:=Nat.mod_lt p (Nat.pos_of_ne_zero KV);have NF:Nat.gcd r (p % r)=Nat.gcd p r:=by rw [Nat.gcd_comm r,←Nat.gcd_rec,Nat.gcd_comm]
   have HG:=ae NF;clear NF
   go_wp2
   go_quiet (fail)
   go_wp2
   go_roundw
   case rel=>exact ⟨r,p % r,by omega,by omega,by omega,HG.o.trans hg.o,hq.drewN _,rfl,rfl⟩
   case measure=>simp [intOf];omega
theorem rQ (w:World) (x:Int) (y:Nat) (h1: -9223372036854775808<x) (h2:x<9223372036854775808) (Hb:0<y) (hy:y<9223372036854775808):
 Calls prog 189 #[.int .i64 x,.int .i64 (y:Nat)] w (br (mkRat x y) w):=by
 by_cases h:x<0
 ·exact tC w x y h1 h Hb hy
 ·exact tD w x y h2 h Hb hy
theorem Hc (w:World) (s:Bool) (a:Option Addr) (k c n:Nat) (h:Raw w a k c n):
 Calls prog 214 #[.agg #[.bool s,.slice a k c]] w fun e w'=> ∃a1 c1,e= .returned (.agg #[.bool (decide (aZ s n<0)),.slice a1 (len n) c1])∧Raw w' a1 (len n) c1 n∧Fr w.heap.size a1∧Ext w w':=
 (Kd w s a k c n h).mono fun _ _ ⟨a1,c1,he,hr,hf,hx⟩=>⟨a1,c1,by rw [he,bF],by rw [bF]at hr;exact hr,hf,hx⟩
theorem br.Zz {w w3:World} {a a':Option Addr} {c c':Nat} {q:Rat} {n m:Nat} {s:Bool} (hn:q.num.natAbs=n) (hm:q.den=m) (hs:decide (q.num<0)=s)
 (h:Raw w3 a (len n) c n) (hf:Fr w.heap.size a) (h':Raw w3 a' (len m) c' m) (hf':Fr w.heap.size a') (hE:Ext w w3):br q w (.returned (.agg #[.bool s,.slice a (len n) c,.slice a' (len m) c'])) w3:=by
 subst hn;subst hm;subst hs
 exact ⟨a,c,a',c',rfl,h,hf,h',hf',hE⟩
theorem Ext.Cr {a w:World} (h:Ext a w) {b:Nat} (hb:a.heap.size≤b) (v0 v1 v2:Value):Ext a (((w.setCell ⟨b,0,none⟩ v0).setCell ⟨b,1,none⟩ v1).setCell ⟨b,2,none⟩ v2):=((h.setCell hb _).setCell hb _).setCell hb _
theorem Ext.rS {a w:World} (h:Ext a w) {b:Nat} (hb:a.heap.size≤b) (v0 v1:Value):Ext a ((w.setCell ⟨b,0,none⟩ v0).setCell ⟨b,1,none⟩ v1):=(h.setCell hb _).setCell hb _
theorem qh (w:World) (s:Bool) (a b:Option Addr) (k c j d n m:Nat) (h:Raw w a k c n) (g:Raw w b j d m) (hm:0<m) (b1:len n<400000000) (b2:len m<400000000):
 Calls prog 190 #[.agg #[.bool s,.slice a k c],.slice b j d] w (br (mkRat (aZ s n) m) w):=by
 go_enter func190,ntmps190
 go_wp2_with fail
 obtain ⟨W,hW,x0,Z0,A0,A1⟩:=er w 117 [.bool s,.slice a k c] 119 [.bool false,.slice none 0 0,.slice none 0 0];rw [←hW];clear hW;have aC:=ax A0 (Ext.refl _);have z0:=(A0.ext (Ext.refl _)).lt;have aM:=aN A1 (Ext.refl _);have z1:=(A1.ext (Ext.refl _)).lt;refine (Hc _ _ _ _ _ _ (h.ext x0)).mono ?_;rintro e w1 ⟨a1,c1,rfl,hr1,iX,hx1⟩;have aC:=ax A0 hx1;have z0:=(A0.ext hx1).lt;have aM:=aN A1 hx1;have z1:=(A1.ext hx1).lt;go_wp2_with fail
 refine (oH _ _ _ _ _ ((g.ext x0).ext hx1)).mono ?_;rintro e w2 ⟨a2,c2,rfl,hr2,hf2,hx2⟩;have aC:=ax A0 (hx1.trans hx2);have z0:=(A0.ext (hx1.trans hx2)).lt;have aM:=aN A1 (hx1.trans hx2);have z1:=(A1.ext (hx1.trans hx2)).lt;have y2:Ext W w2:=hx1.trans hx2;have F2:Fr W.heap.size a2:=hf2.mono hx1.size;by_cases h0:n=0
 ·subst h0
  have eq0:mkRat (aZ s 0) m=0:=by rw [oK,Rat.zero_mkRat]
  have EQ0:=ae eq0;clear eq0
  have es:decide (aZ s 0<0)=false:=by rw [oK];rfl
  go_wp2
  refine bodyPost_ret (v:= .agg #[.bool false,.slice none 0 0,.slice (some ⟨w2.heap.size,0,none⟩) 1 1]) (by simp [results,results190,go_sem, *]) rfl ?_;rw [EQ0.o];refine ⟨none,0,some ⟨w2.heap.size,0,none⟩,1,by rw [show(0:Rat).den=1 from rfl,n4];rfl,Raw.nil _,Fr.none _,?_,Fr.some (x0.trans y2).size,?_⟩
  ·rw [show(0:Rat).den=1 from rfl,n4]
   have:=uT (((((w2.setCell ⟨w.heap.size,0,none⟩ (.bool false)).setCell ⟨w.heap.size,1,none⟩ (.slice a1 (len 0) c1)).setCell ⟨w.heap.size+1,0,none⟩ (.bool false)).setCell ⟨w.heap.size+1,1,none⟩ (.slice none 0 0)).setCell ⟨w.heap.size+1,2,none⟩ (.slice (some ⟨w2.heap.size,0,none⟩) 1 1));simpa using this
  ·refine Ext.alloc (Ext.setCell (Ext.setCell (Ext.setCell (Ext.setCell (Ext.setCell (x0.trans y2) ?_ _) ?_ _) ?_ _) ?_ _) ?_ _) _<;>simp
 ·have Fv:(((len n:Nat):Int)==0)=false:=by rw [beq_eq_false_iff_ne];have:=gj.2 (Nat.pos_of_ne_zero h0);omega
  go_wp2_with fail
  obtain ⟨w3,hw3⟩: ∃w3,w3=((w2.setCell ⟨w.heap.size,0,none⟩ (.bool (decide (aZ s n<0)))).setCell ⟨w.heap.size,1,none⟩ (.slice a1 (len n) c1)):=⟨_,rfl⟩;rw [←hw3];have T3:Touch w.heap.size W.heap.size w2 w3:=by rw [hw3];exact Touch.two _ (Nat.le_refl _) (by rw [Z0.o];omega) _ _
  have B0:aQ w3 w.heap.size 117 [.bool (decide (aZ s n<0)),.slice a1 (len n) c1]:=by rw [hw3];exact ((A0.ext y2).set 0 _).set 1 _
  have B1:aQ w3 (w.heap.size+1) 119 [.bool false,.slice none 0 0,.slice none 0 0]:=by rw [hw3];exact ((A1.ext y2).other _ _ (by simp)).other _ _ (by simp)
  have E3:Ext w w3:=x0.bh y2 T3;have S3:W.heap.size≤w3.heap.size:=by rw [T3.size];exact y2.size
  clear hw3 A0 A1 aC aM z0 z1;have r1:=(hr1.ext hx2).bh T3 iX.o;have r2:=hr2.bh T3 F2.o;obtain ⟨G,hG⟩: ∃G,G=Nat.gcd n m:=⟨_,rfl⟩;have GW:0<G:=by rw [hG];exact Nat.gcd_pos_of_pos_right _ hm
  have q1:(mkRat (aZ s n) m).num.natAbs=n/G:=by rw [gm _ _ hm,bF,hG,Nat.gcd_comm]
  have q2:(mkRat (aZ s n) m).den=m/G:=by rw [kS _ _ hm,bF,hG,Nat.gcd_comm]
  have q3:=jZ (aZ s n) m hm;generalize hQ:mkRat (aZ s n) m=Q at*;have Q1:=ae q1;have Q2:=ae q2;have Q3:=ae q3;have HQ:=ae hQ
  clear q1 q2 q3 hQ;refine (Md _ _ _ _ _ _ _ _ _ r1 r2 b1 b2).mono ?_;rw [←hG];have HG:=ae hG;clear hG
  rintro e w4 ⟨a4,c4,rfl,hr4,FL,fl⟩;have F4:Fr W.heap.size a4:=FL.mono S3;have lG:=gj.2 GW;have i0:=ax B0 fl;have l0:=aN B1 fl;have i4:=(B0.ext fl).lt;have l6:=(B1.ext fl).lt;by_cases hG1:G=1
  ·subst hG1
   have e1:Q.num.natAbs=n:=by rw [Q1.o,Nat.div_one]
   have e2:Q.den=m:=by rw [Q2.o,Nat.div_one]
   have R1:=ae e1;have R2:=ae e2;clear e1 e2
   obtain ⟨l,hl,hv,hL⟩:=hr4;rw [n4]at hl;obtain ⟨pb,ob,rfl⟩:=hL.at (by omega);have hc:=hL.cellAt 0 (by omega)
   have e0:limb l 0=1:=by
    match l,hl with
    | [x],_=>simpa [limb,val]using hv
   rw [e0,Nat.add_zero]at hc;rw [n4];clear hl hv e0;go_wp2
   exact bodyPost_ret (by simp [results,results190,go_sem, *]) rfl (br.Zz R1.o R2.o Q3.o ((r1.ext fl).bh (Touch.three (lo:=w.heap.size) (hi:=W.heap.size) _ (by omega) (by rw [Z0.o];omega) _ _ _) iX.o) (iX.mono x0.size) ((r2.ext fl).bh (Touch.three (lo:=w.heap.size) (hi:=W.heap.size) _ (by omega) (by rw [Z0.o];omega) _ _ _) F2.o) (F2.mono x0.size) (Ext.Cr (E3.trans fl) (by simp) _ _ _))
  ·have go: ∀(ZA:True),True:=fun _=>trivial
   by_cases wM:len G=1
   ·have ZC:(((len G:Nat):Int) !=1)=false:=by rw [wM];rfl
    obtain ⟨l,hl,hv,hL⟩:=id hr4;obtain ⟨pb,ob,rfl⟩:=hL.at (by omega);have hc:=hL.cellAt 0 (by omega)
    have e0:limb l 0=G:=by
     rw [wM]at hl;match l,hl with
     | [x],_=>simpa [limb,val]using hv
    rw [e0,Nat.add_zero]at hc;have hg1:(((G:Nat):Int) !=1)=true:=by rw [bne_iff_ne];omega
    have h0l:(0:Int)<(len G:Int):=by omega
    have HL1:=ae wM;clear hl hv e0 wM
    go_wp2_with fail
    refine (jc _ _ _ _ _ _ _ _ _ (r1.ext fl) hr4 GW (by omega)).mono ?_;rintro e w5 ⟨a5,c5,a6,c6,rfl,JY,vQ,NB,TQ,dY⟩;have F5:Fr W.heap.size a5:=vQ.mono (Nat.le_trans S3 fl.size);have C0:=(B0.ext fl).ext dY;have C1:=(B1.ext fl).ext dY;have i0:=ax C0 (Ext.refl _);have i4:=C0.lt;go_wp2_with fail
    obtain ⟨w6,Hd⟩: ∃w6,w6=w5.setCell ⟨w.heap.size,1,none⟩ (.slice a5 (len (n/G)) c5):=⟨_,rfl⟩;rw [←Hd];have T6:Touch w.heap.size W.heap.size w5 w6:=by rw [Hd];exact Touch.one _ (Nat.le_refl _) (by rw [Z0.o];omega) _ _
    have D0:aQ w6 w.heap.size 117 [.bool (decide (aZ s n<0)),.slice a5 (len (n/G)) c5]:=by rw [Hd];exact C0.set 1 _
    have D1:aQ w6 (w.heap.size+1) 119 [.bool false,.slice none 0 0,.slice none 0 0]:=by rw [Hd];exact C1.other _ _ (by simp)
    have E6:Ext w w6:=by rw [Hd];exact ((E3.trans fl).trans dY).setCell (Nat.le_refl _) _
    have S6:W.heap.size≤w6.heap.size:=by rw [T6.size];exact Nat.le_trans S3 (fl.trans dY).size
    clear Hd;refine (jc _ _ _ _ _ _ _ _ _ (((r2.ext fl).ext dY).bh T6 F2.o) ((hr4.ext dY).bh T6 F4.o) GW (by omega)).mono ?_;rintro e w7 ⟨a7,c7,a8,c8,rfl,Pr,VN,Kh,QM,nZ⟩;have F7:Fr W.heap.size a7:=VN.mono S6;have i0:=ax D0 nZ;have l0:=aN D1 nZ;have i4:=(D0.ext nZ).lt;have l6:=(D1.ext nZ).lt;go_wp2
    exact bodyPost_ret (by simp [results,results190,go_sem, *]) rfl (br.Zz Q1.o Q2.o Q3.o (((JY.bh T6 F5.o).ext nZ).bh (Touch.three (lo:=w.heap.size) (hi:=W.heap.size) _ (by omega) (by rw [Z0.o];omega) _ _ _) F5.o) (F5.mono x0.size) (Pr.bh (Touch.three (lo:=w.heap.size) (hi:=W.heap.size) _ (by omega) (by rw [Z0.o];omega) _ _ _) F7.o) (F7.mono x0.size) (Ext.Cr (E6.trans nZ) (by simp) _ _ _))
   ·have ZC:(((len G:Nat):Int) !=1)=true:=by rw [bne_iff_ne];omega
    go_wp2_with fail
    refine (jc _ _ _ _ _ _ _ _ _ (r1.ext fl) hr4 GW (by omega)).mono ?_;rintro e w5 ⟨a5,c5,a6,c6,rfl,JY,vQ,NB,TQ,dY⟩;have F5:Fr W.heap.size a5:=vQ.mono (Nat.le_trans S3 fl.size);have C0:=(B0.ext fl).ext dY;have C1:=(B1.ext fl).ext dY;have i0:=ax C0 (Ext.refl _);have i4:=C0.lt;go_wp2_with fail
    obtain ⟨w6,Hd⟩: ∃w6,w6=w5.setCell ⟨w.heap.size,1,none⟩ (.slice a5 (len (n/G)) c5):=⟨_,rfl⟩;rw [←Hd];have T6:Touch w.heap.size W.heap.size w5 w6:=by rw [Hd];exact Touch.one _ (Nat.le_refl _) (by rw [Z0.o];omega) _ _
    have D0:aQ w6 w.heap.size 117 [.bool (decide (aZ s n<0)),.slice a5 (len (n/G)) c5]:=by rw [Hd];exact C0.set 1 _
    have D1:aQ w6 (w.heap.size+1) 119 [.bool false,.slice none 0 0,.slice none 0 0]:=by rw [Hd];exact C1.other _ _ (by simp)
    have E6:Ext w w6:=by rw [Hd];exact ((E3.trans fl).trans dY).setCell (Nat.le_refl _) _
    have S6:W.heap.size≤w6.heap.size:=by rw [T6.size];exact Nat.le_trans S3 (fl.trans dY).size
    clear Hd;refine (jc _ _ _ _ _ _ _ _ _ (((r2.ext fl).ext dY).bh T6 F2.o) ((hr4.ext dY).bh T6 F4.o) GW (by omega)).mono ?_;rintro e w7 ⟨a7,c7,a8,c8,rfl,Pr,VN,Kh,QM,nZ⟩;have F7:Fr W.heap.size a7:=VN.mono S6;have i0:=ax D0 nZ;have l0:=aN D1 nZ;have i4:=(D0.ext nZ).lt;have l6:=(D1.ext nZ).lt;go_wp2
    exact bodyPost_ret (by simp [results,results190,go_sem, *]) rfl (br.Zz Q1.o Q2.o Q3.o (((JY.bh T6 F5.o).ext nZ).bh (Touch.three (lo:=w.heap.size) (hi:=W.heap.size) _ (by omega) (by rw [Z0.o];omega) _ _ _) F5.o) (F5.mono x0.size) (Pr.bh (Touch.three (lo:=w.heap.size) (hi:=W.heap.size) _ (by omega) (by rw [Z0.o];omega) _ _ _) F7.o) (F7.mono x0.size) (Ext.Cr (E6.trans nZ) (by simp) _ _ _))
theorem vY (w:World) (s:Bool) (a b:Option Addr) (k c j d n m:Nat) (h:Raw w a k c n) (g:Raw w b j d m) (hn:n<2147483648) (hm:m<2147483648):
 Calls prog 162 #[.agg #[.bool s,.slice a k c,.slice b j d]] w (br (mkRat (aZ s n) m) w):=by
 have HN:=ae hn;have HM:=ae hm;clear hn hm
 go_enter func162,ntmps162
 go_wp2_with fail
 obtain ⟨W,hW,x0,Z0,A0,A1⟩:=er w 119 [.bool s,.slice a k c,.slice b j d] 119 [.bool false,.slice none 0 0,.slice none 0 0];rw [←hW];clear hW;have aC:=aN A0 (Ext.refl _);have z0:=(A0.ext (Ext.refl _)).lt;have aM:=aN A1 (Ext.refl _);have z1:=(A1.ext (Ext.refl _)).lt;refine (kP _ _ _ _ _ _ _ _ _ _ (h.ext x0) (g.ext x0) HN.o HM.o).mono ?_;rintro e w1 ⟨x,y,rfl,hx1,hx2,hy1,hy2,pF,hx⟩;have TV:=ae pF;clear pF
 have aC:=aN A0 hx;have z0:=(A0.ext hx).lt;have aM:=aN A1 hx;have z1:=(A1.ext hx).lt;go_wp2_with fail
 refine (rQ _ _ _ (by omega) (by omega) hy1 (by omega)).mono ?_;intro e wz hN;rw [TV.o]at hN;obtain ⟨az,cz,QN,QO,rfl,Mi,rF,Em,En,kr⟩:=id hN;have aC:=aN A0 (hx.trans kr);have z0:=(A0.ext (hx.trans kr)).lt;have aM:=aN A1 (hx.trans kr);have z1:=(A1.ext (hx.trans kr)).lt;go_wp2
 exact bodyPost_ret (by simp [results,results162,go_sem, *]) rfl (br.bh (hN.base hx) x0 (Touch.three _ (by omega) (by rw [Z0.o];omega) _ _ _))
theorem vZ (w:World) (s:Bool) (a b:Option Addr) (k c j d n m:Nat) (h:Raw w a k c n) (g:Raw w b j d m) (b1:len n<100000000) (b2:len m<100000000):
 Calls prog 162 #[.agg #[.bool s,.slice a k c,.slice b j d]] w (br (mkRat (aZ s n) m) w):=by
 by_cases hsm:n<2147483648∧m<2147483648
 ·exact vY w _ _ _ _ _ _ _ _ _ h g hsm.1 hsm.2
 ·have HS:=ae hsm;clear hsm
  go_enter func162,ntmps162
  go_wp2_with fail
  obtain ⟨W,hW,x0,Z0,A0,A1⟩:=er w 119 [.bool s,.slice a k c,.slice b j d] 119 [.bool false,.slice none 0 0,.slice none 0 0];rw [←hW];clear hW;have aC:=aN A0 (Ext.refl _);have z0:=(A0.ext (Ext.refl _)).lt;have aM:=aN A1 (Ext.refl _);have z1:=(A1.ext (Ext.refl _)).lt;refine (rP _ _ _ _ _ _ _ _ _ _ (h.ext x0) (g.ext x0) HS.o).mono ?_;rintro e w1 ⟨rfl,hx⟩;have aC:=aN A0 hx;have z0:=(A0.ext hx).lt;have aM:=aN A1 hx;have z1:=(A1.ext hx).lt;go_wp2_with fail
  refine (kO _ _ _ _ _ _ _ _ _ _ ((h.ext x0).ext hx) ((g.ext x0).ext hx)).mono ?_;rintro e w2 ⟨s1,a1,k1,c1,n1,e1,j1,d1,m1,rfl,h1,g1,xt,hv,l1,l2,hx2⟩;have HV:=ae hv;clear hv
  have aC:=aN A0 (hx.trans hx2);have z0:=(A0.ext (hx.trans hx2)).lt;have aM:=aN A1 (hx.trans hx2);have z1:=(A1.ext (hx.trans hx2)).lt;go_wp2_with fail
  refine (qh _ _ _ _ _ _ _ _ _ _ h1 g1 xt (by omega) (by omega)).mono ?_;intro e wz hN;rw [HV.o]at hN;obtain ⟨az,cz,QN,QO,rfl,Mi,rF,Em,En,kr⟩:=id hN;have aC:=aN A0 ((hx.trans hx2).trans kr);have z0:=(A0.ext ((hx.trans hx2).trans kr)).lt;have aM:=aN A1 ((hx.trans hx2).trans kr);have z1:=(A1.ext ((hx.trans hx2).trans kr)).lt;go_wp2
  exact bodyPost_ret (by simp [results,results162,go_sem, *]) rfl (br.bh (hN.base (hx.trans hx2)) x0 (Touch.three _ (by omega) (by rw [Z0.o];omega) _ _ _))
theorem lW (w:World) (v:Int) (h1: -9223372036854775808≤v) (h2:v≤9223372036854775807):
 Calls prog 106 #[.int .i64 v] w (br (v:Rat) w):=by
 go_enter func106,ntmps106
 go_wp2_with fail
 obtain ⟨W,hW,x0,Z0,A0⟩:=aX w 119 [.bool false,.slice none 0 0,.slice none 0 0];rw [←hW];clear hW;have aC:=aN A0 (Ext.refl _);have z0:=(A0.ext (Ext.refl _)).lt;refine (Cn _ _ h1 h2).mono ?_;rintro e w1 ⟨a1,c1,rfl,hr1,iX,hx1⟩;have aC:=aN A0 hx1;have z0:=(A0.ext hx1).lt;go_wp2
 refine bodyPost_ret (v:= .agg #[.bool (decide (v<0)),.slice a1 (len v.natAbs) c1,.slice (some ⟨w1.heap.size,0,none⟩) 1 1]) (by simp [results,results106,go_sem, *]) rfl ?_;have R:=uT (((w1.setCell ⟨w.heap.size,0,none⟩ (.bool (decide (v<0)))).setCell ⟨w.heap.size,1,none⟩ (.slice a1 (len v.natAbs) c1)).setCell ⟨w.heap.size,2,none⟩ (.slice (some ⟨w1.heap.size,0,none⟩) 1 1));have E:=Ext.Cr (x0.trans hx1) (Nat.le_refl w.heap.size) (.bool (decide (v<0))) (.slice a1 (len v.natAbs) c1) (.slice (some ⟨w1.heap.size,0,none⟩) 1 1);refine ⟨a1,c1,some ⟨w1.heap.size,0,none⟩,1,?_,?_,iX.mono x0.size,?_,Fr.some (x0.trans hx1).size,E.alloc _⟩
 ·rw [Rat.num_intCast,Rat.den_intCast,n4]
 ·rw [Rat.num_intCast]
  exact (hr1.bh (Touch.three (lo:=w.heap.size) (hi:=W.heap.size) _ (Nat.le_refl _) (by rw [Z0.o];omega) _ _ _) iX.o).ext ((Ext.refl _).alloc _)
 ·rw [Rat.den_intCast,n4];simpa using R
theorem v_ (x:Int) (y:Nat) (h:0<y):(mkRat x y).num.sign=x.sign:=by
 have hg:(0:Int)<(Nat.gcd y x.natAbs:Nat):=by have:=Nat.gcd_pos_of_pos_left x.natAbs h;omega
 have hd:((Nat.gcd y x.natAbs:Nat):Int)∣x:=Int.ofNat_dvd_left.2 (Nat.gcd_dvd_right _ _);rw [Rat.num_mkRat,if_neg (by omega)];obtain ⟨z,hz⟩:=hd;generalize ((Nat.gcd y x.natAbs:Nat):Int)=G at*;subst hz;rw [Int.mul_ediv_cancel_left _ (by omega),Int.sign_mul,Int.sign_eq_one_of_pos hg,Int.one_mul]
theorem fE (w:World) (s:Bool) (a b:Option Addr) (k c j d n m:Nat) (h:Raw w a k c n) (g:Raw w b j d m):
 Calls prog 156 #[.agg #[.bool s,.slice a k c,.slice b j d]] w fun e w'=>e= .returned (.int .i64 (mkRat (aZ s n) m).num.sign)∧Ext w w':=by
 go_enter func156,ntmps156
 go_wp2_with fail
 obtain ⟨W,hW,x0,Z0,A0⟩:=aX w 119 [.bool s,.slice a k c,.slice b j d];rw [←hW];clear hW;have aC:=aN A0 (Ext.refl _);have z0:=(A0.ext (Ext.refl _)).lt;refine (kO _ _ _ _ _ _ _ _ _ _ (h.ext x0) (g.ext x0)).mono ?_;rintro e w1 ⟨s1,a1,k1,c1,n1,e1,j1,d1,m1,rfl,h1,g1,xt,hv,l1,l2,hx1⟩;have HV:=ae hv;clear hv
 go_wp2_with fail
 refine (jt _ _ _ _ _ _ (h1.ext ((Ext.refl _).alloc _))).mono ?_;rintro e w2 ⟨rfl,hx2⟩;go_wp2
 go_ret;exact ⟨cd (by rw [←HV.o,v_ _ _ xt]),((x0.trans hx1).alloc _).trans hx2⟩
theorem Raw.Ki {w1 w:World} {a:Option Addr} {k c n:Nat} (h:Raw w1 a k c n) (h2:Raw w a k c n) (p:Addr) (v:Value) (hp:w1.heap.size≤p.block):Raw (w.setCell p v) a k c n:=by
 obtain ⟨l,e1,e2,hl⟩:=h2;obtain ⟨l',VM,_,hl'⟩:=h;refine ⟨l,e1,e2,hl.le,hl.cap,hl.short,hl.Ia,hl.small,fun i hi=> ?_⟩;obtain ⟨b,o,ha,hc⟩:=hl.cell i hi;obtain ⟨b',o',ha',hc'⟩:=hl'.cell i (by omega);refine ⟨b,o,ha,?_⟩;rw [ha]at ha';cases ha'
 have:=cG hc';rw [World.cell?_setCell_other _ _ _ _ (by intro e;rw [e]at hp;simp only at this hp;omega)];exact hc
theorem fQ (z:Int):aZ (decide (z<0)) z.natAbs=z:=by
 unfold aZ;by_cases h:z<0<;>simp [h]<;>omega
theorem px {x1 x2:Int} (h1: -2147483648<x1) (h2:x1<2147483648) (h3: -2147483648<x2) (h4:x2<2147483648): -4611686018427387904≤x1*x2∧x1*x2≤4611686018427387904:=by
 have e:(x1*x2).natAbs≤2147483648*2147483648:=by rw [Int.natAbs_mul];exact Nat.mul_le_mul (by omega) (by omega)
 omega
theorem xD {y1 y2:Nat} (h1:0<y1) (h2:y1<2147483648) (h3:0<y2) (h4:y2<2147483648):0<y1*y2∧y1*y2≤4611686018427387904:=by
 have e:y1*y2≤2147483648*2147483648:=Nat.mul_le_mul (by omega) (by omega);exact ⟨Nat.mul_pos h1 h3,by omega⟩
theorem lX (n m:Nat):len (n*m)≤len n+len m:=by
 rw [dZ,Nat.pow_add];exact Nat.mul_lt_mul'' (ie n) (ie m)
theorem Mj (n m:Nat):len (n+m)≤max (len n) (len m)+1:=by
 rw [dZ,Nat.pow_succ];have h1:n<4294967296^(max (len n) (len m)):=dZ.1 (Nat.le_max_left _ _);have h2:m<4294967296^(max (len n) (len m)):=dZ.1 (Nat.le_max_right _ _);omega
theorem Mk (w:World) (s:Bool) (a b:Option Addr) (k c j d n m:Nat) (h:Raw w a k c n) (g:Raw w b j d m) (b1:len n<100000000) (b2:len m<100000000):
 Calls prog 108 #[.agg #[.bool s,.slice a k c,.slice b j d]] w (br (-(mkRat (aZ s n) m)) w):=by
 generalize hq:mkRat (aZ s n) m=q;go_enter func108,ntmps108
 go_wp2_with fail
 obtain ⟨W,hW,x0,Z0,A0,A1⟩:=er w 119 [.bool s,.slice a k c,.slice b j d] 119 [.bool false,.slice none 0 0,.slice none 0 0];rw [←hW];clear hW;have aC:=aN A0 (Ext.refl _);have z0:=(A0.ext (Ext.refl _)).lt;have aM:=aN A1 (Ext.refl _);have z1:=(A1.ext (Ext.refl _)).lt;refine (vZ _ _ _ _ _ _ _ _ _ _ (h.ext x0) (g.ext x0) b1 b2).mono ?_;rw [hq];rintro e w1 ⟨a1,c1,a2,c2,rfl,hr1,iX,hr2,hf2,hx1⟩;have aC:=aN A0 hx1;have z0:=(A0.ext hx1).lt;have aM:=aN A1 hx1;have z1:=(A1.ext hx1).lt;have P1:=aQ.alloc w1 119 [.bool (decide (q.num<0)),.slice a1 (len q.num.natAbs) c1,.slice a2 (len q.den) c2];go_wp2_with fail
 refine (Mf _ _ _ _ _ _ (hr1.ext ((Ext.refl _).alloc _))).mono ?_;rw [fQ];rintro e w2 ⟨a3,c3,rfl,hr3,hf3,hx2⟩;have p0:=aN P1 hx2;have pz:=(P1.ext hx2).lt;have aC:=aN A0 ((hx1.alloc _).trans hx2);have z0:=(A0.ext ((hx1.alloc _).trans hx2)).lt;have aM:=aN A1 ((hx1.alloc _).trans hx2);have z1:=(A1.ext ((hx1.alloc _).trans hx2)).lt;go_wp2
 have E:Ext w w2:=x0.trans ((hx1.alloc _).trans hx2);refine bodyPost_ret (v:= .agg #[.bool (decide ((-q).num<0)),.slice a3 (len (-q).num.natAbs) c3,.slice a2 (len (-q).den) c2]) (by simp [results,results108,go_sem, *]) rfl ?_;refine ⟨a3,c3,a2,c2,rfl,?_,hf3.mono (by have:=(x0.trans hx1).size;simp;omega),?_,hf2.mono x0.size,?_⟩
 ·refine Raw.setCell (Raw.setCell (Raw.setCell (Raw.setCell (Raw.setCell hr3 _ _ ?_) _ _ ?_) _ _ ?_) _ _ ?_) _ _ ?_<;>(refine hf3.ne ?_;simp;try omega)
 ·have d1:=(hr2.ext ((Ext.refl _).alloc _)).ext hx2
  have d2:=hr2.Ki d1 ⟨w1.heap.size,0,none⟩ (.bool (decide (0<q.num))) (Nat.le_refl _);have d3:=hr2.Ki d2 ⟨w1.heap.size,1,none⟩ (.slice a3 (len q.num.natAbs) c3) (Nat.le_refl _);exact d3.bh (Touch.three (lo:=w.heap.size) (hi:=W.heap.size) _ (by omega) (by rw [Z0.o];omega) _ _ _) hf2.o
 ·exact Ext.Cr (Ext.rS E (by have:=(x0.trans hx1).size;omega) _ _) (by omega) _ _ _
end Go.Proofs.YtkpngkdgphojlaaGreat
