/- Texts of the proof. -/
import Derived.Test.YtbnamicbjaaelaaGreatCg5
set_option linter.all false
set_option maxHeartbeats 4000000
set_option maxRecDepth 100000
namespace Go.Proofs.YtbnamicbjaaelaaGreat
open Go.Proofs.Tryz
open Go.RowKit
def jE (x y:Int):Int:=if x<y then-1 else if x=y then 0 else 1
theorem rq {x y:Int} (h:x<y):jE x y= -1:=by unfold jE;rw [if_pos h]
theorem ry {x y:Int} (h:y<x):jE x y=1:=by unfold jE;rw [if_neg ae,if_neg ae]
theorem CJ (n m:Nat):jE (n:Int) (m:Int)=fV n m:=by
 unfold jE fV;simp only [Int.ofNat_lt]
 by_cases h:n<m
 .simp [h]
 .by_cases h':n=m
  .simp [h']
  .have: ¬(n:Int)=m:=ae
   simp [h,h',this]
theorem KN (x y:Int):jE (-x) (-y)=jE y x:=by
 unfold jE;by_cases h:y<x
 .rw [if_pos ae,if_pos h]
 .rw [if_neg ae,if_neg h]
  by_cases h':x=y
  .rw [if_pos ae,if_pos ae]
  .rw [if_neg ae,if_neg ae]
theorem vO {x y:Int} (h:x.sign<y.sign):x<y:=by
 rcases Int.lt_trichotomy x 0 with h1|h1|h1
 .rcases Int.lt_trichotomy y 0 with h2|h2|h2
  .rw [Int.sign_eq_neg_one_of_neg h1,Int.sign_eq_neg_one_of_neg h2]at h;omega
  .omega
  .omega
 .subst h1
  rcases Int.lt_trichotomy y 0 with h2|h2|h2
  .rw [Int.sign_eq_neg_one_of_neg h2]at h;simp at h
  .subst h2;simp at h
  .exact h2
 .rcases Int.lt_trichotomy y 0 with h2|h2|h2
  .rw [Int.sign_eq_one_of_pos h1,Int.sign_eq_neg_one_of_neg h2]at h;omega
  .subst h2;rw [Int.sign_eq_one_of_pos h1]at h;simp at h
  .rw [Int.sign_eq_one_of_pos h1,Int.sign_eq_one_of_pos h2]at h;omega
theorem CK (w:World) (s t:Bool) (a b:Option Addr) (k c k' c' n m:Nat) (h:Raw w a k c n) (h':Raw w b k' c' m):
 Calls prog 89 #[.agg #[.bool s,.slice a k c],.agg #[.bool t,.slice b k' c']] w λe w'=>e= .returned (.int .i64 (jE (bp s n) (bp t m)))/\Ext w w':=by
 by_cases c1:(bp s n).sign<(bp t m).sign
 .have e1:=rq (vO c1)
  have E1:=ah e1;clear e1
  go_enter func89,ntmps89
  go_wp2
  obtain ⟨W,hW,x0,Z0,A0,A1⟩:=dZ w 90 [.bool s,.slice a k c] 90 [.bool t,.slice b k' c'];rw [<-hW];clear hW;obtain ⟨aM,bg,bL,bM⟩:=aH A0 ar;have z0:=(A0.ext ar).lt;obtain ⟨aU,bq,cA,cC⟩:=aH A1 ar;have z1:=(A1.ext ar).lt;have fT:True:=trivial
  go_region_held3 (λw'=>w'.cell? ⟨w.heap.size,0,none⟩=some (.bool s)/\w'.cell? ⟨w.heap.size,1,none⟩=some (.slice a k c)/\w'.cell? ⟨w.heap.size+1,0,none⟩=some (.bool t)/\w'.cell? ⟨w.heap.size+1,1,none⟩=some (.slice b k' c')) (first|exact ⟨aM,bg,aU,bq⟩|(simp [go_sem,aM,bg,aU,bq])) (first
   |(go_at_call 85;have _t:=fT;refine (jv _ _ _ _ _ _ ((h.ext x0).ext (by exact ar.drew))).mono ?_;rintro e w1 ⟨rfl,hx1⟩;clear fT _t;obtain ⟨aM,bg,bL,bM⟩:=aH A0 ((ar.drew).trans hx1);have z0:=(A0.ext ((ar.drew).trans hx1)).lt;obtain ⟨aU,bq,cA,cC⟩:=aH A1 ((ar.drew).trans hx1);have z1:=(A1.ext ((ar.drew).trans hx1)).lt)
   |(go_at_call 85;refine (jv _ _ _ _ _ _ (((h'.ext x0).ext (by exact ar.drew)).ext hx1)).mono ?_;rintro e w2 ⟨rfl,hx2⟩;obtain ⟨aM,bg,bL,bM⟩:=aH A0 (((ar.drew).trans hx1).trans hx2);have z0:=(A0.ext (((ar.drew).trans hx1).trans hx2)).lt;obtain ⟨aU,bq,cA,cC⟩:=aH A1 (((ar.drew).trans hx1).trans hx2);have z1:=(A1.ext (((ar.drew).trans hx1).trans hx2)).lt))
  generalize (bp s n).sign=p at*;generalize (bp t m).sign=q at*;go_wp2
  go_ret;exact ⟨cL E1.o.symm,(x0.drew.trans hx1).trans hx2⟩
 by_cases c2:(bp t m).sign<(bp s n).sign
 .have e1:=ry (vO c2)
  have E1:=ah e1;clear e1
  go_enter func89,ntmps89
  go_wp2
  obtain ⟨W,hW,x0,Z0,A0,A1⟩:=dZ w 90 [.bool s,.slice a k c] 90 [.bool t,.slice b k' c'];rw [<-hW];clear hW;obtain ⟨aM,bg,bL,bM⟩:=aH A0 ar;have z0:=(A0.ext ar).lt;obtain ⟨aU,bq,cA,cC⟩:=aH A1 ar;have z1:=(A1.ext ar).lt;have fT:True:=trivial
  go_region_held3 (λw'=>w'.cell? ⟨w.heap.size,0,none⟩=some (.bool s)/\w'.cell? ⟨w.heap.size,1,none⟩=some (.slice a k c)/\w'.cell? ⟨w.heap.size+1,0,none⟩=some (.bool t)/\w'.cell? ⟨w.heap.size+1,1,none⟩=some (.slice b k' c')) (first|exact ⟨aM,bg,aU,bq⟩|(simp [go_sem,aM,bg,aU,bq])) (first
   |(go_at_call 85;have _t:=fT;refine (jv _ _ _ _ _ _ ((h.ext x0).ext (by exact ar.drew))).mono ?_;rintro e w1 ⟨rfl,hx1⟩;clear fT _t;obtain ⟨aM,bg,bL,bM⟩:=aH A0 ((ar.drew).trans hx1);have z0:=(A0.ext ((ar.drew).trans hx1)).lt;obtain ⟨aU,bq,cA,cC⟩:=aH A1 ((ar.drew).trans hx1);have z1:=(A1.ext ((ar.drew).trans hx1)).lt)
   |(go_at_call 85;refine (jv _ _ _ _ _ _ (((h'.ext x0).ext (by exact ar.drew)).ext hx1)).mono ?_;rintro e w2 ⟨rfl,hx2⟩;obtain ⟨aM,bg,bL,bM⟩:=aH A0 (((ar.drew).trans hx1).trans hx2);have z0:=(A0.ext (((ar.drew).trans hx1).trans hx2)).lt;obtain ⟨aU,bq,cA,cC⟩:=aH A1 (((ar.drew).trans hx1).trans hx2);have z1:=(A1.ext (((ar.drew).trans hx1).trans hx2)).lt))
  generalize (bp s n).sign=p at*;generalize (bp t m).sign=q at*;go_wp2
  go_ret;exact ⟨cL E1.o.symm,(x0.drew.trans hx1).trans hx2⟩
 have c3:(bp s n).sign=(bp t m).sign:=ae;by_cases c4:(bp s n).sign<0
 .have e1:jE (bp s n) (bp t m)=fV m n:=by
   have n1:bp s n<0:=by apply Int.not_le.1;intro h;have:=Int.sign_nonneg_iff.2 h;omega
   have n2:bp t m<0:=by apply Int.not_le.1;intro h;have:=Int.sign_nonneg_iff.2 h;omega
   cases s
   .rw [ep]at n1;omega
   .cases t
    .rw [ep]at n2;omega
    .rw [gW,gW,KN,CJ]
  have E1:=ah e1;clear e1 c3
  go_enter func89,ntmps89
  go_wp2
  obtain ⟨W,hW,x0,Z0,A0,A1⟩:=dZ w 90 [.bool s,.slice a k c] 90 [.bool t,.slice b k' c'];rw [<-hW];clear hW;obtain ⟨aM,bg,bL,bM⟩:=aH A0 ar;have z0:=(A0.ext ar).lt;obtain ⟨aU,bq,cA,cC⟩:=aH A1 ar;have z1:=(A1.ext ar).lt;have fT:True:=trivial
  go_region_held3 (λw'=>w'.cell? ⟨w.heap.size,0,none⟩=some (.bool s)/\w'.cell? ⟨w.heap.size,1,none⟩=some (.slice a k c)/\w'.cell? ⟨w.heap.size+1,0,none⟩=some (.bool t)/\w'.cell? ⟨w.heap.size+1,1,none⟩=some (.slice b k' c')) (first|exact ⟨aM,bg,aU,bq⟩|(simp [go_sem,aM,bg,aU,bq])) (first
   |(go_at_call 85;have _t:=fT;refine (jv _ _ _ _ _ _ ((h.ext x0).ext (by exact ar.drew))).mono ?_;rintro e w1 ⟨rfl,hx1⟩;clear fT _t;obtain ⟨aM,bg,bL,bM⟩:=aH A0 ((ar.drew).trans hx1);have z0:=(A0.ext ((ar.drew).trans hx1)).lt;obtain ⟨aU,bq,cA,cC⟩:=aH A1 ((ar.drew).trans hx1);have z1:=(A1.ext ((ar.drew).trans hx1)).lt)
   |(go_at_call 85;refine (jv _ _ _ _ _ _ (((h'.ext x0).ext (by exact ar.drew)).ext hx1)).mono ?_;rintro e w2 ⟨rfl,hx2⟩;obtain ⟨aM,bg,bL,bM⟩:=aH A0 (((ar.drew).trans hx1).trans hx2);have z0:=(A0.ext (((ar.drew).trans hx1).trans hx2)).lt;obtain ⟨aU,bq,cA,cC⟩:=aH A1 (((ar.drew).trans hx1).trans hx2);have z1:=(A1.ext (((ar.drew).trans hx1).trans hx2)).lt))
  generalize (bp s n).sign=p at*;generalize (bp t m).sign=q at*;go_wp2_with fail
  refine (eu _ _ _ _ _ _ _ _ _ ((((h'.ext x0).ext (by exact ar.drew)).ext hx1).ext hx2) ((((h.ext x0).ext (by exact ar.drew)).ext hx1).ext hx2)).mono ?_;rintro e w3 ⟨rfl,hq⟩;go_wp2
  go_ret;exact ⟨cL E1.o.symm,((x0.drew.trans hx1).trans hx2).trans hq.ext⟩
 .have e1:jE (bp s n) (bp t m)=fV n m:=by
   have n1:0<=bp s n:=by apply Int.not_lt.1;intro h;have:=Int.sign_eq_neg_one_of_neg h;omega
   have n2:0<=bp t m:=by apply Int.not_lt.1;intro h;have:=Int.sign_eq_neg_one_of_neg h;omega
   have m1:bp s n=n:=by cases s
                        .rfl
                        .rw [gW]at*;omega
   have m2:bp t m=m:=by cases t
                        .rfl
                        .rw [gW]at*;omega
   rw [m1,m2,CJ]
  have E1:=ah e1;clear e1 c3
  go_enter func89,ntmps89
  go_wp2
  obtain ⟨W,hW,x0,Z0,A0,A1⟩:=dZ w 90 [.bool s,.slice a k c] 90 [.bool t,.slice b k' c'];rw [<-hW];clear hW;obtain ⟨aM,bg,bL,bM⟩:=aH A0 ar;have z0:=(A0.ext ar).lt;obtain ⟨aU,bq,cA,cC⟩:=aH A1 ar;have z1:=(A1.ext ar).lt;have fT:True:=trivial
  go_region_held3 (λw'=>w'.cell? ⟨w.heap.size,0,none⟩=some (.bool s)/\w'.cell? ⟨w.heap.size,1,none⟩=some (.slice a k c)/\w'.cell? ⟨w.heap.size+1,0,none⟩=some (.bool t)/\w'.cell? ⟨w.heap.size+1,1,none⟩=some (.slice b k' c')) (first|exact ⟨aM,bg,aU,bq⟩|(simp [go_sem,aM,bg,aU,bq])) (first
   |(go_at_call 85;have _t:=fT;refine (jv _ _ _ _ _ _ ((h.ext x0).ext (by exact ar.drew))).mono ?_;rintro e w1 ⟨rfl,hx1⟩;clear fT _t;obtain ⟨aM,bg,bL,bM⟩:=aH A0 ((ar.drew).trans hx1);have z0:=(A0.ext ((ar.drew).trans hx1)).lt;obtain ⟨aU,bq,cA,cC⟩:=aH A1 ((ar.drew).trans hx1);have z1:=(A1.ext ((ar.drew).trans hx1)).lt)
   |(go_at_call 85;refine (jv _ _ _ _ _ _ (((h'.ext x0).ext (by exact ar.drew)).ext hx1)).mono ?_;rintro e w2 ⟨rfl,hx2⟩;obtain ⟨aM,bg,bL,bM⟩:=aH A0 (((ar.drew).trans hx1).trans hx2);have z0:=(A0.ext (((ar.drew).trans hx1).trans hx2)).lt;obtain ⟨aU,bq,cA,cC⟩:=aH A1 (((ar.drew).trans hx1).trans hx2);have z1:=(A1.ext (((ar.drew).trans hx1).trans hx2)).lt))
  generalize (bp s n).sign=p at*;generalize (bp t m).sign=q at*;go_wp2_with fail
  refine (eu _ _ _ _ _ _ _ _ _ ((((h.ext x0).ext (by exact ar.drew)).ext hx1).ext hx2) ((((h'.ext x0).ext (by exact ar.drew)).ext hx1).ext hx2)).mono ?_;rintro e w3 ⟨rfl,hq⟩;go_wp2
  go_ret;exact ⟨cL E1.o.symm,((x0.drew.trans hx1).trans hx2).trans hq.ext⟩
def lT (x y:Int) (w:World) (e:Ending) (w':World):Prop:= ∃a c a' c',e= .returned (.tuple #[.agg #[.bool (decide (x<0)),.slice a (len x.natAbs) c],.agg #[.bool (decide (y<0)),.slice a' (len y.natAbs) c'],.bool true])/\
 Raw w' a (len x.natAbs) c x.natAbs/\Fr w.heap.size a/\Raw w' a' (len y.natAbs) c' y.natAbs/\Fr w.heap.size a'/\Ext w w'
theorem lT.of {w W w2 w3:World} {s:Bool} {a a':Option Addr} {c c' n m:Nat} {x y:Int} (hx:x=bp s n) (hy:y=m) (h:Raw w2 a (len n) c n) (hf:Fr W.heap.size a) (h':Raw w2 a' (len m) c' m) (hf':Fr W.heap.size a') (hW:Ext w W) (h2:Ext W w2)
 (t:Touch w.heap.size W.heap.size w2 w3):lT x y w (.returned (.tuple #[.agg #[.bool (s&&decide (0<len n)),.slice a (len n) c],.agg #[.bool false,.slice a' (len m) c'],.bool true])) w3:=by
 subst hx;subst hy
 refine ⟨a,c,a',c',?_,?_,hf.mono hW.size,?_,hf'.mono hW.size,hW.bt h2 t⟩
 .rw [bF,rk];simp only [gM,Int.natAbs_natCast]
  have:decide ((m:Int)<0)=false:=aG;rw [this]
 .rw [bF];exact h.bt t hf.o
 .rw [Int.natAbs_natCast];exact h'.bt t hf'.o
theorem tL {s t:Bool} {n m:Nat} (hm:0<m) (h:s=false\/n % m=0):bp s n/bp t m=bp (s !=t) (n/m)/\bp s n % bp t m=(n % m:Nat):=by
 have hmz:(m:Int)≠0:=ae;cases s
 .cases t
  .simp [bp]
  .simp [bp,Int.ediv_neg,Int.emod_neg]
 .have h0:n % m=0:=by simpa using h
  obtain ⟨q,rfl⟩: ∃q,n=m*q:=⟨n/m,bA (Nat.div_add_mod n m)⟩;cases t
  .simp only [bp];constructor
   .simp [Nat.mul_div_cancel_left _ hm]
    rw [<-Int.mul_neg,Int.mul_ediv_cancel_left _ hmz]
   .simp
  .simp only [bp];constructor
   .simp [Nat.mul_div_cancel_left _ hm]
    rw [<-Int.mul_neg,Int.mul_ediv_cancel_left _ hmz];omega
   .simp
theorem yF {t:Bool} {n m:Nat} (hm:0<m) (h:0<n % m):bp true n/bp t m=bp (true !=t) (n/m+1)/\bp true n % bp t m=(m-n % m:Nat):=by
 have h1:=Nat.div_add_mod n m;have h2:=Nat.mod_lt n hm;have hmz:(0:Int)<(m:Int):=ae
 have e:(-(n:Int))=(m:Int)*(-((n/m:Nat):Int)-1)+((m-n % m:Nat):Int):=by
  rw [Int.ofNat_sub (Nat.le_of_lt h2),Int.mul_sub,Int.mul_neg];have:(n:Int)=(m:Int)*((n/m:Nat):Int)+((n % m:Nat):Int):=by exact_mod_cast h1.symm
  rw [Int.mul_one];omega
 have q1:(-(n:Int))/(m:Int)= -((n/m:Nat):Int)-1:=by
  rw [e,Int.mul_add_ediv_left _ _ ae,Int.ediv_eq_zero_of_lt ae ae];omega
 have r1:(-(n:Int)) % (m:Int)=((m-n % m:Nat):Int):=by
  rw [e,Int.mul_add_emod_self_left,Int.emod_eq_of_lt ae ae]
 cases t
 .simp only [bp];simp
  refine ⟨?_,?_⟩
  .rw [q1];simp;omega
  .rw [r1]
 .simp only [bp];simp
  refine ⟨?_,?_⟩
  .rw [q1];simp;omega
  .rw [r1]
def NU (s:Bool) (n m:Nat) (w:World) (e:Ending) (w':World):Prop:= ∃s1 a1 k1 c1 n1 b1 j1 d1 m1,e= .returned (.tuple #[.agg #[.bool s1,.slice a1 k1 c1],.slice b1 j1 d1])/\
 Raw w' a1 k1 c1 n1/\Raw w' b1 j1 d1 m1/\0<m1/\mkRat (bp s1 n1) m1=mkRat (bp s n) m/\len n1<=len n/\len m1<=len m+1/\Ext w w'
theorem AQ (w:World):Raw (w.alloc (Obj.cells #[.int .u32 1] 142)) (some ⟨w.heap.size,0,none⟩) 1 1 1:=
 ⟨[1],rfl,rfl,(aT.alloc w 142 (dr [1])).limbs (Small.one aq) aG⟩
theorem kP (w:World) (s:Bool) (a b:Option Addr) (k c j d n m:Nat) (h:Raw w a k c n) (g:Raw w b j d m):
 Calls prog 84 #[.agg #[.bool s,.slice a k c,.slice b j d]] w (NU s n m w):=by
 by_cases hm:m=0
 .subst hm
  have hc:fV 0 0=0:=rfl;go_enter func84,ntmps84
  go_wp2_with fail
  obtain ⟨W,hW,x0,Z0,A0,A1⟩:=dZ w 92 [.bool s,.slice a k c,.slice b j d] 90 [.bool false,.slice none 0 0];rw [<-hW];clear hW;have aM:=aK A0 ar;have z0:=(A0.ext ar).lt;obtain ⟨aU,bq,cA,cC⟩:=aH A1 ar;have z1:=(A1.ext ar).lt;refine (eu _ _ _ _ _ _ _ _ _ (g.ext x0) (Raw.nil _)).mono ?_;rintro e w1 ⟨rfl,js⟩;rw [hc];have aM:=aK A0 js.ext;have z0:=(A0.ext js.ext).lt;obtain ⟨aU,bq,cA,cC⟩:=aH A1 js.ext;have z1:=(A1.ext js.ext).lt;go_wp2
  refine bodyPost_ret (v:= .tuple #[.agg #[.bool false,.slice none 0 0],.slice (some ⟨w1.heap.size,0,none⟩) 1 1]) (by simp [results,results84,go_sem,aU,bq,z1]) rfl ?_;refine ⟨false,none,0,0,0,some ⟨w1.heap.size,0,none⟩,1,1,1,rfl,Raw.nil _,?_,ae,by simp [bp],by rw [oC];omega,by rw [oD];omega,?_⟩
  .have:=AQ ((w1.setCell ⟨w.heap.size+1,0,none⟩ (.bool false)).setCell ⟨w.heap.size+1,1,none⟩ (.slice none 0 0));simpa using this
  .refine Ext.alloc (Ext.setCell (Ext.setCell (x0.trans js.ext) ?_ _) ?_ _) _<;>simp
 .have hc:fV m 0=1:=by unfold fV;rw [if_neg ae,if_neg hm]
  have HC:=ah hc;clear hc
  go_enter func84,ntmps84
  go_wp2_with fail
  obtain ⟨W,hW,x0,Z0,A0,A1⟩:=dZ w 92 [.bool s,.slice a k c,.slice b j d] 90 [.bool false,.slice none 0 0];rw [<-hW];clear hW;have aM:=aK A0 ar;have z0:=(A0.ext ar).lt;obtain ⟨aU,bq,cA,cC⟩:=aH A1 ar;have z1:=(A1.ext ar).lt;refine (eu _ _ _ _ _ _ _ _ _ (g.ext x0) (Raw.nil _)).mono ?_;rintro e w1 ⟨rfl,js⟩;rw [HC.o];have aM:=aK A0 js.ext;have z0:=(A0.ext js.ext).lt;obtain ⟨aU,bq,cA,cC⟩:=aH A1 js.ext;have z1:=(A1.ext js.ext).lt;go_wp2
  go_region
  go_wp2
  refine bodyPost_ret (v:= .tuple #[.agg #[.bool s,.slice a k c],.slice b j d]) (by simp [results,results84,go_sem,aU,bq]) rfl ?_;have hx:Ext w ((w1.setCell ⟨w.heap.size+1,0,none⟩ (.bool s)).setCell ⟨w.heap.size+1,1,none⟩ (.slice a k c)).drew:=(((x0.trans js.ext).setCell aG _).setCell aG _).drew;exact ⟨s,a,k,c,n,b,j,d,m,rfl,h.ext hx,g.ext hx,ae,rfl,bY,ae,hx⟩
theorem rC (w:World) (s:Bool) (a b:Option Addr) (k c j d n m:Nat) (h:Raw w a k c n) (g:Raw w b j d m) (AJ: ¬(n<2147483648/\m<2147483648)):
 Calls prog 87 #[.agg #[.bool s,.slice a k c,.slice b j d]] w λe w'=>e= .returned (.tuple #[.int .i64 0,.int .i64 0,.bool false])/\Ext w w':=by
 by_cases hn:n<18446744073709551616
 .by_cases hm:m<18446744073709551616
  .by_cases hn1:n<2147483648
   .have Cg:(2147483648:Int)<=(m:Int):=ae
    have dn:decide ((2147483648:Int)<=(n:Int))=false:=decide_eq_false ae;have HN:=ah hn;have GX:=ah hn1;clear hn1 hn
    clear AJ;go_enter func87,ntmps87
    go_wp2_with fail
    refine (dh _ _ _ _ _ (h.ext (ar.alloc _)) HN.o).mono ?_;rintro e w1 ⟨rfl,rfl⟩;go_wp2_with fail
    refine (dh _ _ _ _ _ (g.ext (ar.alloc _)) hm).mono ?_;rintro e w1 ⟨rfl,rfl⟩;go_wp2
    go_ret3
    exact ⟨rfl,ar.alloc _⟩
   .have Ig:(2147483648:Int)<=(n:Int):=ae
    clear AJ;go_enter func87,ntmps87
    go_wp2_with fail
    refine (dh _ _ _ _ _ (h.ext (ar.alloc _)) hn).mono ?_;rintro e w1 ⟨rfl,rfl⟩;go_wp2_with fail
    refine (dh _ _ _ _ _ (g.ext (ar.alloc _)) hm).mono ?_;rintro e w1 ⟨rfl,rfl⟩;go_wp2
    go_ret3
    exact ⟨rfl,ar.alloc _⟩
  .clear AJ
   go_enter func87,ntmps87
   go_wp2_with fail
   refine (dh _ _ _ _ _ (h.ext (ar.alloc _)) hn).mono ?_;rintro e w1 ⟨rfl,rfl⟩;go_wp2_with fail
   refine (jU _ _ _ _ _ (g.ext (ar.alloc _)) ae).mono ?_;rintro e w1 ⟨rfl,rfl⟩;go_wp2
   go_ret3
   exact ⟨rfl,ar.alloc _⟩
 .clear AJ
  by_cases hm:m<18446744073709551616
  .go_enter func87,ntmps87
   go_wp2_with fail
   refine (jU _ _ _ _ _ (h.ext (ar.alloc _)) ae).mono ?_;rintro e w1 ⟨rfl,rfl⟩;go_wp2_with fail
   refine (dh _ _ _ _ _ (g.ext (ar.alloc _)) hm).mono ?_;rintro e w1 ⟨rfl,rfl⟩;go_wp2
   go_ret3
   exact ⟨rfl,ar.alloc _⟩
  .go_enter func87,ntmps87
   go_wp2_with fail
   refine (jU _ _ _ _ _ (h.ext (ar.alloc _)) ae).mono ?_;rintro e w1 ⟨rfl,rfl⟩;go_wp2_with fail
   refine (jU _ _ _ _ _ (g.ext (ar.alloc _)) ae).mono ?_;rintro e w1 ⟨rfl,rfl⟩;go_wp2
   go_ret3
   exact ⟨rfl,ar.alloc _⟩
def NV (s:Bool) (n m:Nat) (w:World) (e:Ending) (w':World):Prop:= ∃(x:Int) (y:Nat),e= .returned (.tuple #[.int .i64 x,.int .i64 (y:Nat),.bool true])/\
 -2147483648<x/\x<2147483648/\0<y/\y<2147483648/\mkRat x y=mkRat (bp s n) m/\Ext w w'
theorem kQ (w:World) (s:Bool) (a b:Option Addr) (k c j d n m:Nat) (h:Raw w a k c n) (g:Raw w b j d m) (hn:n<2147483648) (hm:m<2147483648):
 Calls prog 87 #[.agg #[.bool s,.slice a k c,.slice b j d]] w (NV s n m w):=by
 have dn:decide ((2147483648:Int)<=(n:Int))=false:=decide_eq_false ae;have dm:decide ((2147483648:Int)<=(m:Int))=false:=decide_eq_false ae;have hn3:n<3000000000:=ae;have hm3:m<3000000000:=ae;have HN:=ah hn;have HM:=ah hm;clear hn hm
 by_cases h0:m=0
 .subst h0
  go_enter func87,ntmps87
  go_wp2_with fail
  refine (dh _ _ _ _ _ (h.ext (ar.alloc _)) (bA HN.o)).mono ?_;rintro e w1 ⟨rfl,rfl⟩;go_wp2_with fail
  refine (dh _ _ _ _ _ (g.ext (ar.alloc _)) (bA HM.o)).mono ?_;rintro e w1 ⟨rfl,rfl⟩;go_wp2
  go_ret3
  exact ⟨0,1,rfl,ae,ae,ae,ae,aG,ar.alloc _⟩
 .have Uo:((m:Int)==0)=false:=by rw [beq_eq_false_iff_ne];omega
  cases s
  .go_enter func87,ntmps87
   go_wp2_with fail
   refine (dh _ _ _ _ _ (h.ext (ar.alloc _)) (bA HN.o)).mono ?_;rintro e w1 ⟨rfl,rfl⟩;go_wp2_with fail
   refine (dh _ _ _ _ _ (g.ext (ar.alloc _)) (bA HM.o)).mono ?_;rintro e w1 ⟨rfl,rfl⟩;go_wp2
   go_ret3
   have hn:=HN.o;have hm:=HM.o
   exact ⟨n,m,rfl,ae,ae,ae,ae,rfl,ar.alloc _⟩
  .go_enter func87,ntmps87
   go_wp2_with fail
   refine (dh _ _ _ _ _ (h.ext (ar.alloc _)) (bA HN.o)).mono ?_;rintro e w1 ⟨rfl,rfl⟩;go_wp2_with fail
   refine (dh _ _ _ _ _ (g.ext (ar.alloc _)) (bA HM.o)).mono ?_;rintro e w1 ⟨rfl,rfl⟩;go_wp2
   go_ret3
   have hn:=HN.o;have hm:=HM.o
   exact ⟨-(n:Int),m,rfl,ae,ae,ae,ae,rfl,ar.alloc _⟩
theorem jV (x:Int) (y:Nat) (h:0<y):decide ((mkRat x y).num<0)=decide (x<0):=by
 rw [Rat.num_mkRat,if_neg ae];have hg:(0:Int)<(Nat.gcd y x.natAbs:Nat):=bA (Nat.gcd_pos_of_pos_left x.natAbs h)
 have:x/(Nat.gcd y x.natAbs:Nat)<0↔x<0:=by
  constructor
  .intro h1
   apply Int.not_le.1;intro h2
   have:=Int.ediv_nonneg h2 (Int.le_of_lt hg);omega
  .intro h1;exact Int.ediv_neg_of_neg_of_pos h1 hg
 simp only [this]
theorem bG.CM {w W w2 w3:World} {a a':Option Addr} {c c':Nat} {q:Rat} {n m:Nat} {s:Bool} (hn:q.num.natAbs=n) (hm:q.den=m) (hs:decide (q.num<0)=s)
 (h:Raw w2 a (len n) c n) (hf:Fr W.heap.size a) (h':Raw w2 a' (len m) c' m) (hf':Fr W.heap.size a') (hW:Ext w W) (h2:Ext W w2)
 (t:Touch w.heap.size W.heap.size w2 w3):bG q w (.returned (.agg #[.bool s,.slice a (len n) c,.slice a' (len m) c'])) w3:=by
 subst hn;subst hm;subst hs
 exact ⟨a,c,a',c',rfl,h.bt t hf.o,hf.mono hW.size,h'.bt t hf'.o,hf'.mono hW.size,hW.bt h2 t⟩
theorem KO (x:Int) (h1: -9223372036854775808<x) (h2:x<0):IntKind.u64.wrap (-IntKind.u64.wrap x)=((x.natAbs:Nat):Int):=by
 rw [IntKind.wrap_u64,IntKind.wrap_u64];omega
theorem KP (x:Int) (h1:x<9223372036854775808) (h2: ¬x<0):IntKind.u64.wrap x=((x.natAbs:Nat):Int):=by
 rw [IntKind.wrap_u64];omega
theorem tM (w:World) (x:Int) (y:Nat) (hx1: -9223372036854775808<x) (hx2:x<0) (Ix:0<y) (hy:y<9223372036854775808):
 Calls prog 151 #[.int .i64 x,.int .i64 (y:Nat)] w (bG (mkRat x y) w):=by
 have ew:=KO x hx1 hx2;go_enter func151,ntmps151
 go_wp2
 obtain ⟨W,hW,x0,Z0,A0⟩:=aV w 92 [.bool false,.slice none 0 0,.slice none 0 0];rw [<-hW];clear hW;obtain ⟨aM,bg,dv,bL,bM,eZ⟩:=aK A0 ar;have z0:=(A0.ext ar).lt;go_loopw [6,7] (λgg rr wr=> ∃(p r:Nat),0<p/\p<9223372036854775808/\r<9223372036854775808/\Hid (Nat.gcd p r=Nat.gcd y x.natAbs)/\Quiet W wr/\gg= .int .u64 p/\rr= .int .u64 r) (λ_ rr _=>(intOf rr).toNat)
 case atStart=>exact ⟨y,x.natAbs,ae,ae,ae,rfl,Quiet.refl _,rfl,rfl⟩
 case round=>
  obtain ⟨p,r,Yv,hp,hr,hg,hq,rfl,rfl⟩:=hrel;by_cases AG:r=0
  .subst AG
   have Up:p=Nat.gcd y x.natAbs:=by have:=hg.o;rwa [Nat.gcd_zero_right]at this
   have q1:=gu x y Ix;have q2:=kV x y Ix;have q3:=jV x y Ix;rw [<-Up]at q1 q2;have l1:x.natAbs/p<=x.natAbs:=Nat.div_le_self _ _;have l2:y/p<=y:=Nat.div_le_self _ _
   have e1:IntKind.u64.wrap (((x.natAbs:Nat):Int)/(p:Int))=((x.natAbs/p:Nat):Int):=by
    rw [IntKind.wrap_u64,<-Int.natCast_ediv];generalize x.natAbs/p=z at*;omega
   have e2:IntKind.u64.wrap ((y:Int)/(p:Int))=((y/p:Nat):Int):=by
    rw [IntKind.wrap_u64,<-Int.natCast_ediv];generalize y/p=z at*;omega
   have Yw:((x.natAbs:Nat):Int)/(p:Int)=((x.natAbs/p:Nat):Int):=(Int.natCast_ediv _ _).symm;have e2':(y:Int)/(p:Int)=((y/p:Nat):Int):=(Int.natCast_ediv _ _).symm
   have aan:IntKind.u64.wrap ((x.natAbs/p:Nat):Int)=((x.natAbs/p:Nat):Int):=by
    rw [IntKind.wrap_u64];generalize x.natAbs/p=z at*;omega
   have aao:IntKind.u64.wrap ((y/p:Nat):Int)=((y/p:Nat):Int):=by
    rw [IntKind.wrap_u64];generalize y/p=z at*;omega
   have b1:x.natAbs/p<18446744073709551616:=ae;have b2:y/p<18446744073709551616:=ae;clear Up hg l1 l2;generalize x.natAbs/p=u at*;generalize y/p=v at*;generalize hQ:mkRat x y=Q at*;have Q1:=ah q1;have Q2:=ah q2;have Q3:=ah q3;have HQ:=ah hQ
   clear q1 q2 q3 hQ;have hpi:((p:Int)==0)=false:=by rw [beq_eq_false_iff_ne];omega
   have h1p:(1:Int)<=(p:Int):=ae;have aap:((p:Nat):Int)≠0:=ae;obtain ⟨aM,bg,dv,bL,bM,eZ⟩:=aK A0 hq.ext;have z0:=(A0.ext hq.ext).lt;have fT:True:=trivial;go_wp2
   go_region_with (first
    |(go_at_call 144;have _t:=fT;refine (di _ _ (by assumption)).mono ?_;rintro e w1 ⟨a1,c1,rfl,hr1,jI,hx3⟩;clear fT _t;obtain ⟨aM,bg,dv,bL,bM,eZ⟩:=aK A0 ((hq.ext.drew).trans hx3);have z0:=(A0.ext ((hq.ext.drew).trans hx3)).lt)
    |(go_at_call 144;refine (di _ _ (by assumption)).mono ?_;rintro e w2 ⟨a2,c2,rfl,hr2,hf2,gG⟩;obtain ⟨aM,bg,dv,bL,bM,eZ⟩:=aK A0 (((hq.ext.drew).trans hx3).trans gG);have z0:=(A0.ext (((hq.ext.drew).trans hx3).trans gG)).lt))
   all_goals go_wp2
   all_goals exact bodyPost_ret (by simp [results,results151,go_sem,aM,bg,dv,hx2]) rfl (bG.CM (s:=decide (x<0)) Q1.o Q2.o Q3.o (hr1.ext gG) (jI.mono hq.ext.size) hr2 (hf2.mono (Nat.le_trans hq.ext.size hx3.size)) x0 ((hq.ext.drew.trans hx3).trans gG) (Touch.three _ bY (by rw [Z0.o];omega) _ _ _))
  .have GS:(((r:Nat):Int) !=0)=true:=by rw [bne_iff_ne];omega
   have e3:(p:Int).tmod (r:Int)=((p % r:Nat):Int):=by rw [Int.tmod_eq_emod_of_nonneg ae,Int.natCast_emod]
   have Uq:((r:Int)==0)=false:=by rw [beq_eq_false_iff_ne];omega
   have h1r:(1:Int)<=(r:Int):=ae;have hlt:=Nat.mod_lt p (Nat.pos_of_ne_zero AG);have PC:Nat.gcd r (p % r)=Nat.gcd p r:=by rw [Nat.gcd_comm r,<-Nat.gcd_rec,Nat.gcd_comm]
   have HG:=ah PC;clear PC
   go_wp2
   go_quiet (fail)
   go_wp2
   go_roundw
   case rel=>exact ⟨r,p % r,ae,ae,ae,HG.o.trans hg.o,hq.drewN _,rfl,rfl⟩
   case measure=>simp [intOf];omega
theorem tN (w:World) (x:Int) (y:Nat) (hx1:x<9223372036854775808) (hx2: ¬x<0) (Ix:0<y) (hy:y<9223372036854775808):
 Calls prog 151 #[.int .i64 x,.int .i64 (y:Nat)] w (bG (mkRat x y) w):=by
 have ew:=KP x hx1 hx2;go_enter func151,ntmps151
 go_wp2
 obtain ⟨W,hW,x0,Z0,A0⟩:=aV w 92 [.bool false,.slice none 0 0,.slice none 0 0];rw [<-hW];clear hW;obtain ⟨aM,bg,dv,bL,bM,eZ⟩:=aK A0 ar;have z0:=(A0.ext ar).lt;go_loopw [6,7] (λgg rr wr=> ∃(p r:Nat),0<p/\p<9223372036854775808/\r<9223372036854775808/\Hid (Nat.gcd p r=Nat.gcd y x.natAbs)/\Quiet W wr/\gg= .int .u64 p/\rr= .int .u64 r) (λ_ rr _=>(intOf rr).toNat)
 case atStart=>exact ⟨y,x.natAbs,ae,ae,ae,rfl,Quiet.refl _,rfl,rfl⟩
 case round=>
  obtain ⟨p,r,Yv,hp,hr,hg,hq,rfl,rfl⟩:=hrel;by_cases AG:r=0
  .subst AG
   have Up:p=Nat.gcd y x.natAbs:=by have:=hg.o;rwa [Nat.gcd_zero_right]at this
   have q1:=gu x y Ix;have q2:=kV x y Ix;have q3:=jV x y Ix;rw [<-Up]at q1 q2;have l1:x.natAbs/p<=x.natAbs:=Nat.div_le_self _ _;have l2:y/p<=y:=Nat.div_le_self _ _
   have e1:IntKind.u64.wrap (((x.natAbs:Nat):Int)/(p:Int))=((x.natAbs/p:Nat):Int):=by
    rw [IntKind.wrap_u64,<-Int.natCast_ediv];generalize x.natAbs/p=z at*;omega
   have e2:IntKind.u64.wrap ((y:Int)/(p:Int))=((y/p:Nat):Int):=by
    rw [IntKind.wrap_u64,<-Int.natCast_ediv];generalize y/p=z at*;omega
   have Yw:((x.natAbs:Nat):Int)/(p:Int)=((x.natAbs/p:Nat):Int):=(Int.natCast_ediv _ _).symm;have e2':(y:Int)/(p:Int)=((y/p:Nat):Int):=(Int.natCast_ediv _ _).symm
   have aan:IntKind.u64.wrap ((x.natAbs/p:Nat):Int)=((x.natAbs/p:Nat):Int):=by
    rw [IntKind.wrap_u64];generalize x.natAbs/p=z at*;omega
   have aao:IntKind.u64.wrap ((y/p:Nat):Int)=((y/p:Nat):Int):=by
    rw [IntKind.wrap_u64];generalize y/p=z at*;omega
   have b1:x.natAbs/p<18446744073709551616:=ae;have b2:y/p<18446744073709551616:=ae;clear Up hg l1 l2;generalize x.natAbs/p=u at*;generalize y/p=v at*;generalize hQ:mkRat x y=Q at*;have Q1:=ah q1;have Q2:=ah q2;have Q3:=ah q3;have HQ:=ah hQ
   clear q1 q2 q3 hQ;have hpi:((p:Int)==0)=false:=by rw [beq_eq_false_iff_ne];omega
   have h1p:(1:Int)<=(p:Int):=ae;have aap:((p:Nat):Int)≠0:=ae;obtain ⟨aM,bg,dv,bL,bM,eZ⟩:=aK A0 hq.ext;have z0:=(A0.ext hq.ext).lt;have fT:True:=trivial;go_wp2
   go_region_with (first
    |(go_at_call 144;have _t:=fT;refine (di _ _ (by assumption)).mono ?_;rintro e w1 ⟨a1,c1,rfl,hr1,jI,hx3⟩;clear fT _t;obtain ⟨aM,bg,dv,bL,bM,eZ⟩:=aK A0 ((hq.ext.drew).trans hx3);have z0:=(A0.ext ((hq.ext.drew).trans hx3)).lt)
    |(go_at_call 144;refine (di _ _ (by assumption)).mono ?_;rintro e w2 ⟨a2,c2,rfl,hr2,hf2,gG⟩;obtain ⟨aM,bg,dv,bL,bM,eZ⟩:=aK A0 (((hq.ext.drew).trans hx3).trans gG);have z0:=(A0.ext (((hq.ext.drew).trans hx3).trans gG)).lt))
   all_goals go_wp2
   all_goals exact bodyPost_ret (by simp [results,results151,go_sem,aM,bg,dv]) rfl (bG.CM (s:=decide (x<0)) Q1.o Q2.o Q3.o (hr1.ext gG) (jI.mono hq.ext.size) hr2 (hf2.mono (Nat.le_trans hq.ext.size hx3.size)) x0 ((hq.ext.drew.trans hx3).trans gG) (Touch.three _ bY (by rw [Z0.o];omega) _ _ _))
  .have GS:(((r:Nat):Int) !=0)=true:=by rw [bne_iff_ne];omega
   have e3:(p:Int).tmod (r:Int)=((p % r:Nat):Int):=by rw [Int.tmod_eq_emod_of_nonneg ae,Int.natCast_emod]
   have Uq:((r:Int)==0)=false:=by rw [beq_eq_false_iff_ne];omega
   have h1r:(1:Int)<=(r:Int):=ae;have hlt:=Nat.mod_lt p (Nat.pos_of_ne_zero AG);have PC:Nat.gcd r (p % r)=Nat.gcd p r:=by rw [Nat.gcd_comm r,<-Nat.gcd_rec,Nat.gcd_comm]
   have HG:=ah PC;clear PC
   go_wp2
   go_quiet (fail)
   go_wp2
   go_roundw
   case rel=>exact ⟨r,p % r,ae,ae,ae,HG.o.trans hg.o,hq.drewN _,rfl,rfl⟩
   case measure=>simp [intOf];omega
theorem rE (w:World) (x:Int) (y:Nat) (h1: -9223372036854775808<x) (h2:x<9223372036854775808) (Ix:0<y) (hy:y<9223372036854775808):
 Calls prog 151 #[.int .i64 x,.int .i64 (y:Nat)] w (bG (mkRat x y) w):=by
 by_cases h:x<0
 .exact tM w x y h1 h Ix hy
 .exact tN w x y h2 h Ix hy
theorem Iy (w:World) (s:Bool) (a:Option Addr) (k c n:Nat) (h:Raw w a k c n):
 Calls prog 169 #[.agg #[.bool s,.slice a k c]] w λe w'=> ∃a1 c1,e= .returned (.agg #[.bool (decide (bp s n<0)),.slice a1 (len n) c1])/\Raw w' a1 (len n) c1 n/\Fr w.heap.size a1/\Ext w w':=
 (KM w s a k c n h).mono λ_ _ ⟨a1,c1,he,hr,hf,hx⟩=>⟨a1,c1,by rw [he,bF],by rw [bF]at hr;exact hr,hf,hx⟩
theorem bG.of2 {w w3:World} {a a':Option Addr} {c c':Nat} {q:Rat} {n m:Nat} {s:Bool} (hn:q.num.natAbs=n) (hm:q.den=m) (hs:decide (q.num<0)=s)
 (h:Raw w3 a (len n) c n) (hf:Fr w.heap.size a) (h':Raw w3 a' (len m) c' m) (hf':Fr w.heap.size a') (hE:Ext w w3):bG q w (.returned (.agg #[.bool s,.slice a (len n) c,.slice a' (len m) c'])) w3:=by
 subst hn;subst hm;subst hs
 exact ⟨a,c,a',c',rfl,h,hf,h',hf',hE⟩
theorem Ext.AR {a w:World} (h:Ext a w) {b:Nat} (hb:a.heap.size<=b) (v0 v1 v2:Value):Ext a (((w.setCell ⟨b,0,none⟩ v0).setCell ⟨b,1,none⟩ v1).setCell ⟨b,2,none⟩ v2):=((h.setCell hb _).setCell hb _).setCell hb _
theorem Ext.AV {a w:World} (h:Ext a w) {b:Nat} (hb:a.heap.size<=b) (v0 v1:Value):Ext a ((w.setCell ⟨b,0,none⟩ v0).setCell ⟨b,1,none⟩ v1):=(h.setCell hb _).setCell hb _
theorem qm (w:World) (s:Bool) (a b:Option Addr) (k c j d n m:Nat) (h:Raw w a k c n) (g:Raw w b j d m) (hm:0<m) (b1:len n<400000000) (b2:len m<400000000):
 Calls prog 152 #[.agg #[.bool s,.slice a k c],.slice b j d] w (bG (mkRat (bp s n) m) w):=by
 go_enter func152,ntmps152
 go_wp2_with fail
 obtain ⟨W,hW,x0,Z0,A0,A1⟩:=dZ w 90 [.bool s,.slice a k c] 92 [.bool false,.slice none 0 0,.slice none 0 0];rw [<-hW];clear hW;have aM:=aH A0 ar;have z0:=(A0.ext ar).lt;have aU:=aK A1 ar;have z1:=(A1.ext ar).lt;refine (Iy _ _ _ _ _ _ (h.ext x0)).mono ?_;rintro e w1 ⟨a1,c1,rfl,hr1,jI,hx1⟩;have aM:=aH A0 hx1;have z0:=(A0.ext hx1).lt;have aU:=aK A1 hx1;have z1:=(A1.ext hx1).lt;go_wp2_with fail
 refine (qX _ _ _ _ _ ((g.ext x0).ext hx1)).mono ?_;rintro e w2 ⟨a2,c2,rfl,hr2,hf2,hx2⟩;have aM:=aH A0 (hx1.trans hx2);have z0:=(A0.ext (hx1.trans hx2)).lt;have aU:=aK A1 (hx1.trans hx2);have z1:=(A1.ext (hx1.trans hx2)).lt;have y2:Ext W w2:=hx1.trans hx2;have F2:Fr W.heap.size a2:=hf2.mono hx1.size;by_cases h0:n=0
 .subst h0
  have eq0:mkRat (bp s 0) m=0:=by rw [oI,Rat.zero_mkRat]
  have EQ0:=ah eq0;clear eq0
  have es:decide (bp s 0<0)=false:=by rw [oI];rfl
  go_wp2
  refine bodyPost_ret (v:= .agg #[.bool false,.slice none 0 0,.slice (some ⟨w2.heap.size,0,none⟩) 1 1]) (by simp [results,results152,go_sem, *]) rfl ?_;rw [EQ0.o];refine ⟨none,0,some ⟨w2.heap.size,0,none⟩,1,by rw [show(0:Rat).den=1 from rfl,oD];rfl,Raw.nil _,Fr.none _,?_,Fr.some (x0.trans y2).size,?_⟩
  .rw [show(0:Rat).den=1 from rfl,oD]
   have:=AQ (((((w2.setCell ⟨w.heap.size,0,none⟩ (.bool false)).setCell ⟨w.heap.size,1,none⟩ (.slice a1 (len 0) c1)).setCell ⟨w.heap.size+1,0,none⟩ (.bool false)).setCell ⟨w.heap.size+1,1,none⟩ (.slice none 0 0)).setCell ⟨w.heap.size+1,2,none⟩ (.slice (some ⟨w2.heap.size,0,none⟩) 1 1));simpa using this
  .refine Ext.alloc (Ext.setCell (Ext.setCell (Ext.setCell (Ext.setCell (Ext.setCell (x0.trans y2) ?_ _) ?_ _) ?_ _) ?_ _) ?_ _) _<;>simp
 .have KQ:(((len n:Nat):Int)==0)=false:=by rw [beq_eq_false_iff_ne];have:=gM.2 (Nat.pos_of_ne_zero h0);omega
  go_wp2_with fail
  obtain ⟨w3,hw3⟩: ∃w3,w3=((w2.setCell ⟨w.heap.size,0,none⟩ (.bool (decide (bp s n<0)))).setCell ⟨w.heap.size,1,none⟩ (.slice a1 (len n) c1)):=⟨_,rfl⟩;rw [<-hw3];have T3:Touch w.heap.size W.heap.size w2 w3:=by rw [hw3];exact Touch.two _ bY (by rw [Z0.o];omega) _ _
  have B0:aT w3 w.heap.size 90 [.bool (decide (bp s n<0)),.slice a1 (len n) c1]:=by rw [hw3];exact ((A0.ext y2).set 0 _).set 1 _
  have B1:aT w3 (w.heap.size+1) 92 [.bool false,.slice none 0 0,.slice none 0 0]:=by rw [hw3];exact ((A1.ext y2).other _ _ aG).other _ _ aG
  have E3:Ext w w3:=x0.bt y2 T3;have S3:W.heap.size<=w3.heap.size:=by rw [T3.size];exact y2.size
  clear hw3 A0 A1 aM aU z0 z1;have r1:=(hr1.ext hx2).bt T3 jI.o;have r2:=hr2.bt T3 F2.o;obtain ⟨G,hG⟩: ∃G,G=Nat.gcd n m:=⟨_,rfl⟩;have Iz:0<G:=by rw [hG];exact Nat.gcd_pos_of_pos_right _ hm
  have q1:(mkRat (bp s n) m).num.natAbs=n/G:=by rw [gu _ _ hm,bF,hG,Nat.gcd_comm]
  have q2:(mkRat (bp s n) m).den=m/G:=by rw [kV _ _ hm,bF,hG,Nat.gcd_comm]
  have q3:=jV (bp s n) m hm;generalize hQ:mkRat (bp s n) m=Q at*;have Q1:=ah q1;have Q2:=ah q2;have Q3:=ah q3;have HQ:=ah hQ
  clear q1 q2 q3 hQ;refine (NT _ _ _ _ _ _ _ _ _ r1 r2 b1 b2).mono ?_;rw [<-hG];have HG:=ah hG;clear hG
  rintro e w4 ⟨a4,c4,rfl,hr4,PE,gG⟩;have F4:Fr W.heap.size a4:=PE.mono S3;have lG:=gM.2 Iz;have i0:=aH B0 gG;have l0:=aK B1 gG;have i4:=(B0.ext gG).lt;have l6:=(B1.ext gG).lt;by_cases NW:G=1
  .subst NW
   have e1:Q.num.natAbs=n:=by rw [Q1.o,Nat.div_one]
   have e2:Q.den=m:=by rw [Q2.o,Nat.div_one]
   have R1:=ah e1;have R2:=ah e2;clear e1 e2
   obtain ⟨l,hl,hv,hL⟩:=hr4;rw [oD]at hl;obtain ⟨pb,ob,rfl⟩:=hL.at ae;have hc:=hL.cellAt 0 ae
   have e0:limb l 0=1:=by
    match l,hl with
    | [x],_=>simpa [limb,val]using hv
   rw [e0,Nat.add_zero]at hc;rw [oD];clear hl hv e0;go_wp2
   exact bodyPost_ret (by simp [results,results152,go_sem, *]) rfl (bG.of2 R1.o R2.o Q3.o ((r1.ext gG).bt (Touch.three (lo:=w.heap.size) (hi:=W.heap.size) _ ae (by rw [Z0.o];omega) _ _ _) jI.o) (jI.mono x0.size) ((r2.ext gG).bt (Touch.three (lo:=w.heap.size) (hi:=W.heap.size) _ ae (by rw [Z0.o];omega) _ _ _) F2.o) (F2.mono x0.size) (Ext.AR (E3.trans gG) aG _ _ _))
  .have go: ∀(aar:True),True:=λ_=>trivial
   by_cases zn:len G=1
   .have aas:(((len G:Nat):Int) !=1)=false:=by rw [zn];rfl
    obtain ⟨l,hl,hv,hL⟩:=id hr4;obtain ⟨pb,ob,rfl⟩:=hL.at ae;have hc:=hL.cellAt 0 ae
    have e0:limb l 0=G:=by
     rw [zn]at hl;match l,hl with
     | [x],_=>simpa [limb,val]using hv
    rw [e0,Nat.add_zero]at hc;have hg1:(((G:Nat):Int) !=1)=true:=by rw [bne_iff_ne];omega
    have h0l:(0:Int)<(len G:Int):=ae;have HL1:=ah zn;clear hl hv e0 zn
    go_wp2_with fail
    refine (kY _ _ _ _ _ _ _ _ _ (r1.ext gG) hr4 Iz ae).mono ?_;rintro e w5 ⟨a5,c5,a6,c6,rfl,QU,QO,Tb,Uj,eP⟩;have F5:Fr W.heap.size a5:=QO.mono (Nat.le_trans S3 gG.size);have C0:=(B0.ext gG).ext eP;have C1:=(B1.ext gG).ext eP;have i0:=aH C0 ar;have i4:=C0.lt;go_wp2_with fail
    obtain ⟨w6,IA⟩: ∃w6,w6=w5.setCell ⟨w.heap.size,1,none⟩ (.slice a5 (len (n/G)) c5):=⟨_,rfl⟩;rw [<-IA];have T6:Touch w.heap.size W.heap.size w5 w6:=by rw [IA];exact Touch.one _ bY (by rw [Z0.o];omega) _ _
    have D0:aT w6 w.heap.size 90 [.bool (decide (bp s n<0)),.slice a5 (len (n/G)) c5]:=by rw [IA];exact C0.set 1 _
    have D1:aT w6 (w.heap.size+1) 92 [.bool false,.slice none 0 0,.slice none 0 0]:=by rw [IA];exact C1.other _ _ aG
    have E6:Ext w w6:=by rw [IA];exact ((E3.trans gG).trans eP).setCell bY _
    have S6:W.heap.size<=w6.heap.size:=by rw [T6.size];exact Nat.le_trans S3 (gG.trans eP).size
    clear IA;refine (kY _ _ _ _ _ _ _ _ _ (((r2.ext gG).ext eP).bt T6 F2.o) ((hr4.ext eP).bt T6 F4.o) Iz ae).mono ?_;rintro e w7 ⟨a7,c7,a8,c8,rfl,Ur,Yx,KR,Td,oz⟩;have F7:Fr W.heap.size a7:=Yx.mono S6;have i0:=aH D0 oz;have l0:=aK D1 oz;have i4:=(D0.ext oz).lt;have l6:=(D1.ext oz).lt;go_wp2
    exact bodyPost_ret (by simp [results,results152,go_sem, *]) rfl (bG.of2 Q1.o Q2.o Q3.o (((QU.bt T6 F5.o).ext oz).bt (Touch.three (lo:=w.heap.size) (hi:=W.heap.size) _ ae (by rw [Z0.o];omega) _ _ _) F5.o) (F5.mono x0.size) (Ur.bt (Touch.three (lo:=w.heap.size) (hi:=W.heap.size) _ ae (by rw [Z0.o];omega) _ _ _) F7.o) (F7.mono x0.size) (Ext.AR (E6.trans oz) aG _ _ _))
   .have aas:(((len G:Nat):Int) !=1)=true:=by rw [bne_iff_ne];omega
    go_wp2_with fail
    refine (kY _ _ _ _ _ _ _ _ _ (r1.ext gG) hr4 Iz ae).mono ?_;rintro e w5 ⟨a5,c5,a6,c6,rfl,QU,QO,Tb,Uj,eP⟩;have F5:Fr W.heap.size a5:=QO.mono (Nat.le_trans S3 gG.size);have C0:=(B0.ext gG).ext eP;have C1:=(B1.ext gG).ext eP;have i0:=aH C0 ar;have i4:=C0.lt;go_wp2_with fail
    obtain ⟨w6,IA⟩: ∃w6,w6=w5.setCell ⟨w.heap.size,1,none⟩ (.slice a5 (len (n/G)) c5):=⟨_,rfl⟩;rw [<-IA];have T6:Touch w.heap.size W.heap.size w5 w6:=by rw [IA];exact Touch.one _ bY (by rw [Z0.o];omega) _ _
    have D0:aT w6 w.heap.size 90 [.bool (decide (bp s n<0)),.slice a5 (len (n/G)) c5]:=by rw [IA];exact C0.set 1 _
    have D1:aT w6 (w.heap.size+1) 92 [.bool false,.slice none 0 0,.slice none 0 0]:=by rw [IA];exact C1.other _ _ aG
    have E6:Ext w w6:=by rw [IA];exact ((E3.trans gG).trans eP).setCell bY _
    have S6:W.heap.size<=w6.heap.size:=by rw [T6.size];exact Nat.le_trans S3 (gG.trans eP).size
    clear IA;refine (kY _ _ _ _ _ _ _ _ _ (((r2.ext gG).ext eP).bt T6 F2.o) ((hr4.ext eP).bt T6 F4.o) Iz ae).mono ?_;rintro e w7 ⟨a7,c7,a8,c8,rfl,Ur,Yx,KR,Td,oz⟩;have F7:Fr W.heap.size a7:=Yx.mono S6;have i0:=aH D0 oz;have l0:=aK D1 oz;have i4:=(D0.ext oz).lt;have l6:=(D1.ext oz).lt;go_wp2
    exact bodyPost_ret (by simp [results,results152,go_sem, *]) rfl (bG.of2 Q1.o Q2.o Q3.o (((QU.bt T6 F5.o).ext oz).bt (Touch.three (lo:=w.heap.size) (hi:=W.heap.size) _ ae (by rw [Z0.o];omega) _ _ _) F5.o) (F5.mono x0.size) (Ur.bt (Touch.three (lo:=w.heap.size) (hi:=W.heap.size) _ ae (by rw [Z0.o];omega) _ _ _) F7.o) (F7.mono x0.size) (Ext.AR (E6.trans oz) aG _ _ _))
theorem wM (w:World) (s:Bool) (a b:Option Addr) (k c j d n m:Nat) (h:Raw w a k c n) (g:Raw w b j d m) (hn:n<2147483648) (hm:m<2147483648):
 Calls prog 150 #[.agg #[.bool s,.slice a k c,.slice b j d]] w (bG (mkRat (bp s n) m) w):=by
 have HN:=ah hn;have HM:=ah hm;clear hn hm
 go_enter func150,ntmps150
 go_wp2_with fail
 obtain ⟨W,hW,x0,Z0,A0,A1⟩:=dZ w 92 [.bool s,.slice a k c,.slice b j d] 92 [.bool false,.slice none 0 0,.slice none 0 0];rw [<-hW];clear hW;have aM:=aK A0 ar;have z0:=(A0.ext ar).lt;have aU:=aK A1 ar;have z1:=(A1.ext ar).lt;refine (kQ _ _ _ _ _ _ _ _ _ _ (h.ext x0) (g.ext x0) HN.o HM.o).mono ?_;rintro e w1 ⟨x,y,rfl,hx1,hx2,hy1,hy2,mG,hx⟩;have Us:=ah mG;clear mG
 have aM:=aK A0 hx;have z0:=(A0.ext hx).lt;have aU:=aK A1 hx;have z1:=(A1.ext hx).lt;go_wp2_with fail
 refine (rE _ _ _ ae ae hy1 ae).mono ?_;intro e wz hN;rw [Us.o]at hN;obtain ⟨az,cz,Ut,Uu,rfl,Te,qL,IB,IC,lM⟩:=id hN;have aM:=aK A0 (hx.trans lM);have z0:=(A0.ext (hx.trans lM)).lt;have aU:=aK A1 (hx.trans lM);have z1:=(A1.ext (hx.trans lM)).lt;go_wp2
 exact bodyPost_ret (by simp [results,results150,go_sem, *]) rfl (bG.bt (hN.base hx) x0 (Touch.three _ ae (by rw [Z0.o];omega) _ _ _))
theorem CN (w:World) (s:Bool) (a b:Option Addr) (k c j d n m:Nat) (h:Raw w a k c n) (g:Raw w b j d m) (b1:len n<100000000) (b2:len m<100000000):
 Calls prog 150 #[.agg #[.bool s,.slice a k c,.slice b j d]] w (bG (mkRat (bp s n) m) w):=by
 by_cases hsm:n<2147483648/\m<2147483648
 .exact wM w _ _ _ _ _ _ _ _ _ h g hsm.1 hsm.2
 .have HS:=ah hsm;clear hsm
  go_enter func150,ntmps150
  go_wp2_with fail
  obtain ⟨W,hW,x0,Z0,A0,A1⟩:=dZ w 92 [.bool s,.slice a k c,.slice b j d] 92 [.bool false,.slice none 0 0,.slice none 0 0];rw [<-hW];clear hW;have aM:=aK A0 ar;have z0:=(A0.ext ar).lt;have aU:=aK A1 ar;have z1:=(A1.ext ar).lt;refine (rC _ _ _ _ _ _ _ _ _ _ (h.ext x0) (g.ext x0) HS.o).mono ?_;rintro e w1 ⟨rfl,hx⟩;have aM:=aK A0 hx;have z0:=(A0.ext hx).lt;have aU:=aK A1 hx;have z1:=(A1.ext hx).lt;go_wp2_with fail
  refine (kP _ _ _ _ _ _ _ _ _ _ ((h.ext x0).ext hx) ((g.ext x0).ext hx)).mono ?_;rintro e w2 ⟨s1,a1,k1,c1,n1,e1,j1,d1,m1,rfl,h1,g1,Cg,hv,l1,l2,hx2⟩;have HV:=ah hv;clear hv
  have aM:=aK A0 (hx.trans hx2);have z0:=(A0.ext (hx.trans hx2)).lt;have aU:=aK A1 (hx.trans hx2);have z1:=(A1.ext (hx.trans hx2)).lt;go_wp2_with fail
  refine (qm _ _ _ _ _ _ _ _ _ _ h1 g1 Cg ae ae).mono ?_;intro e wz hN;rw [HV.o]at hN;obtain ⟨az,cz,Ut,Uu,rfl,Te,qL,IB,IC,lM⟩:=id hN;have aM:=aK A0 ((hx.trans hx2).trans lM);have z0:=(A0.ext ((hx.trans hx2).trans lM)).lt;have aU:=aK A1 ((hx.trans hx2).trans lM);have z1:=(A1.ext ((hx.trans hx2).trans lM)).lt;go_wp2
  exact bodyPost_ret (by simp [results,results150,go_sem, *]) rfl (bG.bt (hN.base (hx.trans hx2)) x0 (Touch.three _ ae (by rw [Z0.o];omega) _ _ _))
theorem CO (w:World) (v:Int) (h1: -9223372036854775808<=v) (h2:v<=9223372036854775807):
 Calls prog 39 #[.int .i64 v] w (bG (v:Rat) w):=by
 go_enter func39,ntmps39
 go_wp2_with fail
 obtain ⟨W,hW,x0,Z0,A0⟩:=aV w 92 [.bool false,.slice none 0 0,.slice none 0 0];rw [<-hW];clear hW;have aM:=aK A0 ar;have z0:=(A0.ext ar).lt;refine (CI _ _ h1 h2).mono ?_;rintro e w1 ⟨a1,c1,rfl,hr1,jI,hx1⟩;have aM:=aK A0 hx1;have z0:=(A0.ext hx1).lt;go_wp2
 refine bodyPost_ret (v:= .agg #[.bool (decide (v<0)),.slice a1 (len v.natAbs) c1,.slice (some ⟨w1.heap.size,0,none⟩) 1 1]) (by simp [results,results39,go_sem, *]) rfl ?_;have R:=AQ (((w1.setCell ⟨w.heap.size,0,none⟩ (.bool (decide (v<0)))).setCell ⟨w.heap.size,1,none⟩ (.slice a1 (len v.natAbs) c1)).setCell ⟨w.heap.size,2,none⟩ (.slice (some ⟨w1.heap.size,0,none⟩) 1 1));have E:=Ext.AR (x0.trans hx1) (Nat.le_refl w.heap.size) (.bool (decide (v<0))) (.slice a1 (len v.natAbs) c1) (.slice (some ⟨w1.heap.size,0,none⟩) 1 1);refine ⟨a1,c1,some ⟨w1.heap.size,0,none⟩,1,?_,?_,jI.mono x0.size,?_,Fr.some (x0.trans hx1).size,E.alloc _⟩
 .rw [Rat.num_intCast,Rat.den_intCast,oD]
 .rw [Rat.num_intCast]
  exact (hr1.bt (Touch.three (lo:=w.heap.size) (hi:=W.heap.size) _ bY (by rw [Z0.o];omega) _ _ _) jI.o).ext (ar.alloc _)
 .rw [Rat.den_intCast,oD];simpa using R
theorem wO (x:Int) (y:Nat) (h:0<y):(mkRat x y).num.sign=x.sign:=by
 have hg:(0:Int)<(Nat.gcd y x.natAbs:Nat):=bA (Nat.gcd_pos_of_pos_left x.natAbs h);have hd:((Nat.gcd y x.natAbs:Nat):Int)∣x:=Int.ofNat_dvd_left.2 (Nat.gcd_dvd_right _ _);rw [Rat.num_mkRat,if_neg ae];obtain ⟨z,hz⟩:=hd;generalize ((Nat.gcd y x.natAbs:Nat):Int)=G at*;subst hz;rw [Int.mul_ediv_cancel_left _ ae,Int.sign_mul,Int.sign_eq_one_of_pos hg,Int.one_mul]
theorem fw (w:World) (s:Bool) (a b:Option Addr) (k c j d n m:Nat) (h:Raw w a k c n) (g:Raw w b j d m):
 Calls prog 40 #[.agg #[.bool s,.slice a k c,.slice b j d]] w λe w'=>e= .returned (.int .i64 (mkRat (bp s n) m).num.sign)/\Ext w w':=by
 go_enter func40,ntmps40
 go_wp2_with fail
 obtain ⟨W,hW,x0,Z0,A0⟩:=aV w 92 [.bool s,.slice a k c,.slice b j d];rw [<-hW];clear hW;have aM:=aK A0 ar;have z0:=(A0.ext ar).lt;refine (kP _ _ _ _ _ _ _ _ _ _ (h.ext x0) (g.ext x0)).mono ?_;rintro e w1 ⟨s1,a1,k1,c1,n1,e1,j1,d1,m1,rfl,h1,g1,Cg,hv,l1,l2,hx1⟩;have HV:=ah hv;clear hv
 go_wp2_with fail
 refine (jv _ _ _ _ _ _ (h1.ext (ar.alloc _))).mono ?_;rintro e w2 ⟨rfl,hx2⟩;go_wp2
 go_ret;exact ⟨cL (by rw [<-HV.o,wO _ _ Cg]),((x0.trans hx1).alloc _).trans hx2⟩
theorem Raw.QW {w1 w:World} {a:Option Addr} {k c n:Nat} (h:Raw w1 a k c n) (h2:Raw w a k c n) (p:Addr) (v:Value) (hp:w1.heap.size<=p.block):Raw (w.setCell p v) a k c n:=by
 obtain ⟨l,e1,e2,hl⟩:=h2;obtain ⟨l',Yw,_,hl'⟩:=h;refine ⟨l,e1,e2,hl.le,hl.cap,hl.short,hl.Kq,hl.small,λi hi=> ?_⟩;obtain ⟨b,o,ha,hc⟩:=hl.cell i hi;obtain ⟨b',o',ha',hc'⟩:=hl'.cell i ae;refine ⟨b,o,ha,?_⟩;rw [ha]at ha';cases ha'
 have:=cY hc';rw [World.cell?_setCell_other _ _ _ _ (by intro e;rw [e]at hp;simp only at this hp;omega)];exact hc
theorem ni (z:Int):bp (decide (z<0)) z.natAbs=z:=by
 unfold bp;by_cases h:z<0<;>simp [h]<;>omega
theorem pE {x1 x2:Int} (h1: -2147483648<x1) (h2:x1<2147483648) (h3: -2147483648<x2) (h4:x2<2147483648): -4611686018427387904<=x1*x2/\x1*x2<=4611686018427387904:=by
 have e:(x1*x2).natAbs<=2147483648*2147483648:=by rw [Int.natAbs_mul];exact Nat.mul_le_mul ae ae
 omega
theorem yG {y1 y2:Nat} (h1:0<y1) (h2:y1<2147483648) (h3:0<y2) (h4:y2<2147483648):0<y1*y2/\y1*y2<=4611686018427387904:=by
 have e:y1*y2<=2147483648*2147483648:=Nat.mul_le_mul ae ae;exact ⟨Nat.mul_pos h1 h3,ae⟩
theorem kI (n m:Nat):len (n*m)<=len n+len m:=by
 rw [cI,Nat.pow_add];exact Nat.mul_lt_mul'' (iq n) (iq m)
theorem NX (n m:Nat):len (n+m)<=max (len n) (len m)+1:=by
 rw [cI,Nat.pow_succ];have h1:n<4294967296^(max (len n) (len m)):=cI.1 (Nat.le_max_left _ _);have h2:m<4294967296^(max (len n) (len m)):=cI.1 (Nat.le_max_right _ _);omega
def jJ (p q:Rat):Int:=jE (p.num*q.den) (q.num*p.den)
theorem vP {p q:Rat}:jJ p q<0↔p<q:=by
 rw [Rat.lt_iff];unfold jJ jE;split
 .simp [*]
 .split<;>simp [*]
theorem vQ {p q:Rat}:0<jJ p q↔q<p:=by
 rw [Rat.lt_iff];unfold jJ jE;split
 .simp;omega
 .split
  .simp;omega
  .simp;omega
theorem AW {p q:Rat}:jJ p q=0↔p=q:=by
 rw [Rat.eq_iff_mul_eq_mul];unfold jJ jE;split
 .simp;omega
 .split
  .simp [*]
  .simp [*]
theorem Fe (p q:Rat):jJ p q= -1\/jJ p q=0\/jJ p q=1:=by
 unfold jJ jE;split
 .simp
 .split<;>simp
theorem Ff (a b c:Int) (h:0<c):jE (a*c) (b*c)=jE a b:=by
 unfold jE;by_cases h1:a<b
 .rw [if_pos h1,if_pos (Int.mul_lt_mul_of_pos_right h1 h)]
 .have h2: ¬a*c<b*c:=λhh=>h1 (Int.lt_of_mul_lt_mul_right hh (Int.le_of_lt h))
  rw [if_neg h1,if_neg h2];by_cases h3:a=b
  .rw [if_pos h3,if_pos (by rw [h3])]
  .rw [if_neg h3,if_neg (λhh=>h3 (Int.eq_of_mul_eq_mul_right ae hh))]
theorem rF (x:Int) (y:Nat) (h:0<y): ∃g:Nat,0<g/\x=(mkRat x y).num*g/\y=(mkRat x y).den*g:=by
 obtain ⟨g,h1,h2,h3⟩:=Rat.mkRat_num_den (n:=x) (d:=y) ae (n':=(mkRat x y).num) (d':=(mkRat x y).den) (z':=(mkRat x y).den_nz) (c:=(mkRat x y).reduced) rfl;exact ⟨g,ae,h2,h3⟩
theorem wQ (x x':Int) (y y':Nat) (h:0<y) (h':0<y'):jJ (mkRat x y) (mkRat x' y')=jE (x*y') (x'*y):=by
 obtain ⟨g,g0,e1,e2⟩:=rF x y h;obtain ⟨g',g0',Yw,e2'⟩:=rF x' y' h';generalize mkRat x y=p at*;generalize mkRat x' y'=q at*;subst e1 e2 Yw e2';unfold jJ;rw [<-Ff _ _ ((g:Int)*(g':Int)) (Int.mul_pos ae ae)];congr 1
 .rw [Int.natCast_mul];simp only [Int.mul_assoc,Int.mul_left_comm,Int.mul_comm]
 .rw [Int.natCast_mul];simp only [Int.mul_assoc,Int.mul_left_comm,Int.mul_comm]
theorem rG (x:Int) (d:Nat) (h:0<d):(x*(d:Int)).sign=x.sign:=by
 have hd:(0:Int)<(d:Int):=ae;rw [Int.sign_mul,Int.sign_eq_one_of_pos hd,Int.mul_one]
theorem zt {p q:Rat} (h:p.num.sign≠q.num.sign):jE p.num.sign q.num.sign=jJ p q:=by
 have hp:=rG p.num q.den (Nat.pos_of_ne_zero q.den_nz);have hq:=rG q.num p.den (Nat.pos_of_ne_zero p.den_nz);unfold jJ;by_cases h1:p.num.sign<q.num.sign
 .rw [rq h1,rq (vO (by rw [hp,hq];exact h1))]
 .rw [ry ae,ry (vO (by rw [hp,hq];omega))]
theorem jk (w:World) (x:Int):Calls prog 146 #[.int .i64 x] w λe w'=>e= .returned (.bool false)/\w=w':=by
 go_enter func146,ntmps146
 go_wp2
 go_ret;exact ⟨aG,rfl⟩
theorem GY (w:World) (x y:Int):Calls prog 86 #[.int .i64 x,.int .i64 y] w λe w'=>e= .returned (.int .i64 (jE x y))/\w=w':=by
 by_cases h1:x<y
 .have e1:=rq h1
  have E1:=ah e1;clear e1
  go_enter func86,ntmps86
  go_wp2_with fail
  refine (jk _ _).mono ?_;rintro e w' ⟨rfl,rfl⟩;go_wp2_with fail
  refine (jk _ _).mono ?_;rintro e w' ⟨rfl,rfl⟩;go_wp2
  go_ret;exact ⟨cL E1.o.symm,rfl⟩
 .by_cases h2:y<x
  .have e1:=ry h2
   have E1:=ah e1;clear e1
   go_enter func86,ntmps86
   go_wp2_with fail
   refine (jk _ _).mono ?_;rintro e w' ⟨rfl,rfl⟩;go_wp2_with fail
   refine (jk _ _).mono ?_;rintro e w' ⟨rfl,rfl⟩;go_wp2
   go_ret;exact ⟨cL E1.o.symm,rfl⟩
  .obtain rfl:x=y:=ae
   have e1:jE x x=0:=by unfold jE;simp
   have E1:=ah e1;clear e1
   go_enter func86,ntmps86
   go_wp2_with fail
   refine (jk _ _).mono ?_;rintro e w' ⟨rfl,rfl⟩;go_wp2_with fail
   refine (jk _ _).mono ?_;rintro e w' ⟨rfl,rfl⟩;go_wp2
   go_ret;exact ⟨cL E1.o.symm,rfl⟩
theorem ie (w:World) (x:Int):Calls prog 148 #[.int .i64 x] w λe w'=>e= .returned (.bool false)/\w=w':=by
 go_enter func148,ntmps148
 go_wp2
 go_ret;exact ⟨aG,rfl⟩
theorem ID (w:World) (x y:Int):Calls prog 88 #[.int .i64 x,.int .i64 y] w λe w'=>e= .returned (.int .i64 (jE x y))/\w=w':=by
 by_cases h1:x<y
 .have e1:=rq h1
  have E1:=ah e1;clear e1
  go_enter func88,ntmps88
  go_wp2_with fail
  refine (ie _ _).mono ?_;rintro e w' ⟨rfl,rfl⟩;go_wp2_with fail
  refine (ie _ _).mono ?_;rintro e w' ⟨rfl,rfl⟩;go_wp2
  go_ret;exact ⟨cL E1.o.symm,rfl⟩
 .by_cases h2:y<x
  .have e1:=ry h2
   have E1:=ah e1;clear e1
   go_enter func88,ntmps88
   go_wp2_with fail
   refine (ie _ _).mono ?_;rintro e w' ⟨rfl,rfl⟩;go_wp2_with fail
   refine (ie _ _).mono ?_;rintro e w' ⟨rfl,rfl⟩;go_wp2
   go_ret;exact ⟨cL E1.o.symm,rfl⟩
  .obtain rfl:x=y:=ae
   have e1:jE x x=0:=by unfold jE;simp
   have E1:=ah e1;clear e1
   go_enter func88,ntmps88
   go_wp2_with fail
   refine (ie _ _).mono ?_;rintro e w' ⟨rfl,rfl⟩;go_wp2_with fail
   refine (ie _ _).mono ?_;rintro e w' ⟨rfl,rfl⟩;go_wp2
   go_ret;exact ⟨cL E1.o.symm,rfl⟩
theorem rH (w:World) (s:Bool) (a b:Option Addr) (k c j d n m:Nat) (h:Raw w a k c n) (g:Raw w b j d m) (s':Bool) (a' b':Option Addr) (k' c' j' d' n' m':Nat) (h':Raw w a' k' c' n') (g':Raw w b' j' d' m') (ha:(n<2147483648/\m<2147483648)/\n'<2147483648/\m'<2147483648):
 Calls prog 41 #[.agg #[.bool s,.slice a k c,.slice b j d],.agg #[.bool s',.slice a' k' c',.slice b' j' d']] w λe w'=>e= .returned (.int .i64 (jJ (mkRat (bp s n) m) (mkRat (bp s' n') m')))/\Ext w w':=by
 by_cases hs:(mkRat (bp s n) m).num.sign=(mkRat (bp s' n') m').num.sign
 .have hs':((mkRat (bp s n) m).num.sign !=(mkRat (bp s' n') m').num.sign)=false:=by rw [hs];simp
  have HS:=ah hs;clear hs
  have HA:=ah ha.1;have HB:=ah ha.2;clear ha
  go_enter func41,ntmps41
  go_wp2
  obtain ⟨W,hW,x0,Z0,A0,A1⟩:=dZ w 92 [.bool s,.slice a k c,.slice b j d] 92 [.bool s',.slice a' k' c',.slice b' j' d'];rw [<-hW];clear hW;obtain ⟨aM,bg,dv,bL,bM,eZ⟩:=aK A0 ar;have z0:=(A0.ext ar).lt;obtain ⟨aU,bq,et,cA,cC,gX⟩:=aK A1 ar;have z1:=(A1.ext ar).lt;have fT:True:=trivial
  go_region_held3 (λw'=>w'.cell? ⟨w.heap.size,0,none⟩=some (.bool s)/\w'.cell? ⟨w.heap.size,1,none⟩=some (.slice a k c)/\w'.cell? ⟨w.heap.size,2,none⟩=some (.slice b j d)/\w'.cell? ⟨w.heap.size+1,0,none⟩=some (.bool s')/\w'.cell? ⟨w.heap.size+1,1,none⟩=some (.slice a' k' c')/\w'.cell? ⟨w.heap.size+1,2,none⟩=some (.slice b' j' d')) (first|exact ⟨aM,bg,dv,aU,bq,et⟩|(simp [go_sem,aM,bg,dv,aU,bq,et])) (first
   |(go_at_call 40;have _t:=fT;refine (fw _ _ _ _ _ _ _ _ _ _ ((h.ext x0).ext (by exact ar.drew)) ((g.ext x0).ext (by exact ar.drew))).mono ?_;rintro e w1 ⟨rfl,hx1⟩;clear fT _t;obtain ⟨aM,bg,dv,bL,bM,eZ⟩:=aK A0 (((ar.drew)).trans hx1);have z0:=(A0.ext (((ar.drew)).trans hx1)).lt;obtain ⟨aU,bq,et,cA,cC,gX⟩:=aK A1 (((ar.drew)).trans hx1);have z1:=(A1.ext (((ar.drew)).trans hx1)).lt)
   |(go_at_call 40;refine (fw _ _ _ _ _ _ _ _ _ _ (((h'.ext x0).ext (by exact ar.drew)).ext hx1) (((g'.ext x0).ext (by exact ar.drew)).ext hx1)).mono ?_;rintro e w2 ⟨rfl,hx2⟩;obtain ⟨aM,bg,dv,bL,bM,eZ⟩:=aK A0 ((((ar.drew)).trans hx1).trans hx2);have z0:=(A0.ext ((((ar.drew)).trans hx1).trans hx2)).lt;obtain ⟨aU,bq,et,cA,cC,gX⟩:=aK A1 ((((ar.drew)).trans hx1).trans hx2);have z1:=(A1.ext ((((ar.drew)).trans hx1).trans hx2)).lt))
  have y2:Ext W w2:=((Ext.refl W).drew.trans hx1).trans hx2;go_wp2_with fail
  refine (kQ _ _ _ _ _ _ _ _ _ _ ((h.ext x0).ext y2) ((g.ext x0).ext y2) HA.o.1 HA.o.2).mono ?_;rintro e w3 ⟨x,y,rfl,i1,i2,i3,i4,mG,hx3⟩;have Us:=ah mG;clear mG
  have y3:Ext W w3:=y2.trans hx3;obtain ⟨aM,bg,dv,bL,bM,eZ⟩:=aK A0 y3;have z0:=(A0.ext y3).lt;obtain ⟨aU,bq,et,cA,cC,gX⟩:=aK A1 y3;have z1:=(A1.ext y3).lt;go_wp2_with fail
  refine (kQ _ _ _ _ _ _ _ _ _ _ ((h'.ext x0).ext y3) ((g'.ext x0).ext y3) HB.o.1 HB.o.2).mono ?_;rintro e w4 ⟨x',y',rfl,i1',i2',Yy,i4',ES,gG⟩;have QX:=ah ES;clear ES
  have y4:Ext W w4:=y3.trans gG;obtain ⟨aM,bg,dv,bL,bM,eZ⟩:=aK A0 y4;have z0:=(A0.ext y4).lt;obtain ⟨aU,bq,et,cA,cC,gX⟩:=aK A1 y4;have z1:=(A1.ext y4).lt;obtain ⟨m1,m2⟩:=pE i1 i2 (by omega: -2147483648<(y':Int)) ae;obtain ⟨m3,m4⟩:=pE i1' i2' (by omega: -2147483648<(y:Int)) ae;go_wp2_with fail
  refine (ID _ _ _).mono ?_;rintro e w5 ⟨rfl,rfl⟩;go_wp2
  go_ret;exact ⟨cL (by rw [<-Us.o,<-QX.o,wQ _ _ _ _ i3 Yy]),x0.trans y4⟩
 .have hs':((mkRat (bp s n) m).num.sign !=(mkRat (bp s' n') m').num.sign)=true:=by rw [bne_iff_ne];exact hs
  have e1:=zt hs;have E1:=ah e1;clear e1 hs
  go_enter func41,ntmps41
  go_wp2
  obtain ⟨W,hW,x0,Z0,A0,A1⟩:=dZ w 92 [.bool s,.slice a k c,.slice b j d] 92 [.bool s',.slice a' k' c',.slice b' j' d'];rw [<-hW];clear hW;obtain ⟨aM,bg,dv,bL,bM,eZ⟩:=aK A0 ar;have z0:=(A0.ext ar).lt;obtain ⟨aU,bq,et,cA,cC,gX⟩:=aK A1 ar;have z1:=(A1.ext ar).lt;have fT:True:=trivial
  go_region_held3 (λw'=>w'.cell? ⟨w.heap.size,0,none⟩=some (.bool s)/\w'.cell? ⟨w.heap.size,1,none⟩=some (.slice a k c)/\w'.cell? ⟨w.heap.size,2,none⟩=some (.slice b j d)/\w'.cell? ⟨w.heap.size+1,0,none⟩=some (.bool s')/\w'.cell? ⟨w.heap.size+1,1,none⟩=some (.slice a' k' c')/\w'.cell? ⟨w.heap.size+1,2,none⟩=some (.slice b' j' d')) (first|exact ⟨aM,bg,dv,aU,bq,et⟩|(simp [go_sem,aM,bg,dv,aU,bq,et])) (first
   |(go_at_call 40;have _t:=fT;refine (fw _ _ _ _ _ _ _ _ _ _ ((h.ext x0).ext (by exact ar.drew)) ((g.ext x0).ext (by exact ar.drew))).mono ?_;rintro e w1 ⟨rfl,hx1⟩;clear fT _t;obtain ⟨aM,bg,dv,bL,bM,eZ⟩:=aK A0 (((ar.drew)).trans hx1);have z0:=(A0.ext (((ar.drew)).trans hx1)).lt;obtain ⟨aU,bq,et,cA,cC,gX⟩:=aK A1 (((ar.drew)).trans hx1);have z1:=(A1.ext (((ar.drew)).trans hx1)).lt)
   |(go_at_call 40;refine (fw _ _ _ _ _ _ _ _ _ _ (((h'.ext x0).ext (by exact ar.drew)).ext hx1) (((g'.ext x0).ext (by exact ar.drew)).ext hx1)).mono ?_;rintro e w2 ⟨rfl,hx2⟩;obtain ⟨aM,bg,dv,bL,bM,eZ⟩:=aK A0 ((((ar.drew)).trans hx1).trans hx2);have z0:=(A0.ext ((((ar.drew)).trans hx1).trans hx2)).lt;obtain ⟨aU,bq,et,cA,cC,gX⟩:=aK A1 ((((ar.drew)).trans hx1).trans hx2);have z1:=(A1.ext ((((ar.drew)).trans hx1).trans hx2)).lt))
  have y2:Ext W w2:=((Ext.refl W).drew.trans hx1).trans hx2;go_wp2_with fail
  refine (GY _ _ _).mono ?_;rintro e w3 ⟨rfl,rfl⟩;go_wp2
  go_ret;exact ⟨cL E1.o,x0.trans y2⟩
theorem jW (s:Bool) (a b:Option Addr) (k c j d n m:Nat): ∃p:Bool,(p=true↔n<2147483648/\m<2147483648)/\ ∀w,Raw w a k c n->Raw w b j d m->Calls prog 87 #[.agg #[.bool s,.slice a k c,.slice b j d]] w λe w'=> ∃x y:Int,e= .returned (.tuple #[.int .i64 x,.int .i64 y,.bool p])/\Ext w w':=by
 by_cases hs:n<2147483648/\m<2147483648
 .refine ⟨true,by simp [hs],λw h g=>(kQ w s a b k c j d n m h g hs.1 hs.2).mono ?_⟩
  rintro e w' ⟨x,y,rfl,-,-,-,-,-,hx⟩;exact ⟨x,y,rfl,hx⟩
 .refine ⟨false,by simp [hs],λw h g=>(rC w s a b k c j d n m h g hs).mono ?_⟩
  rintro e w' ⟨rfl,hx⟩;exact ⟨0,0,rfl,hx⟩
theorem CP (w:World) (s:Bool) (a b:Option Addr) (k c j d n m:Nat) (h:Raw w a k c n) (g:Raw w b j d m) (s':Bool) (a' b':Option Addr) (k' c' j' d' n' m':Nat) (h':Raw w a' k' c' n') (g':Raw w b' j' d' m') (b1:len n<100000000) (b2:len m<100000000) (EE:len n'<100000000) (ED:len m'<100000000):
 Calls prog 41 #[.agg #[.bool s,.slice a k c,.slice b j d],.agg #[.bool s',.slice a' k' c',.slice b' j' d']] w λe w'=>e= .returned (.int .i64 (jJ (mkRat (bp s n) m) (mkRat (bp s' n') m')))/\Ext w w':=by
 by_cases hs:(mkRat (bp s n) m).num.sign=(mkRat (bp s' n') m').num.sign
 .have hs':((mkRat (bp s n) m).num.sign !=(mkRat (bp s' n') m').num.sign)=false:=by rw [hs];simp
  have HS:=ah hs;clear hs
  by_cases ha:(n<2147483648/\m<2147483648)/\n'<2147483648/\m'<2147483648
  .exact rH w _ _ _ _ _ _ _ _ _ h g _ _ _ _ _ _ _ _ _ h' g' ha
  .obtain ⟨p,hp,Uv⟩:=jW s a b k c j d n m
   obtain ⟨p',Uw,Ux⟩:=jW s' a' b' k' c' j' d' n' m'
   have hc:(p=true/\p'=false)\/(p=false/\p'=true)\/(p=false/\p'=false):=by
    cases p with
    |false=>cases p'<;>simp
    |true=>
     cases p' with
     |false=>simp
     |true=>exact absurd ⟨hp.1 rfl,Uw.1 rfl⟩ ha
   have HA:=ah Uv;have HB:=ah Ux
   clear ha hp Uw Uv Ux;rcases hc with⟨rfl,rfl⟩|⟨rfl,rfl⟩|⟨rfl,rfl⟩
   all_goals
    go_enter func41,ntmps41
    go_wp2
    obtain ⟨W,hW,x0,Z0,A0,A1⟩:=dZ w 92 [.bool s,.slice a k c,.slice b j d] 92 [.bool s',.slice a' k' c',.slice b' j' d'];rw [<-hW];clear hW;obtain ⟨aM,bg,dv,bL,bM,eZ⟩:=aK A0 ar;have z0:=(A0.ext ar).lt;obtain ⟨aU,bq,et,cA,cC,gX⟩:=aK A1 ar;have z1:=(A1.ext ar).lt;have fT:True:=trivial
    go_region_held3 (λw'=>w'.cell? ⟨w.heap.size,0,none⟩=some (.bool s)/\w'.cell? ⟨w.heap.size,1,none⟩=some (.slice a k c)/\w'.cell? ⟨w.heap.size,2,none⟩=some (.slice b j d)/\w'.cell? ⟨w.heap.size+1,0,none⟩=some (.bool s')/\w'.cell? ⟨w.heap.size+1,1,none⟩=some (.slice a' k' c')/\w'.cell? ⟨w.heap.size+1,2,none⟩=some (.slice b' j' d')) (first|exact ⟨aM,bg,dv,aU,bq,et⟩|(simp [go_sem,aM,bg,dv,aU,bq,et])) (first
     |(go_at_call 40;have _t:=fT;refine (fw _ _ _ _ _ _ _ _ _ _ ((h.ext x0).ext (by exact ar.drew)) ((g.ext x0).ext (by exact ar.drew))).mono ?_;rintro e w1 ⟨rfl,hx1⟩;clear fT _t;obtain ⟨aM,bg,dv,bL,bM,eZ⟩:=aK A0 (((ar.drew)).trans hx1);have z0:=(A0.ext (((ar.drew)).trans hx1)).lt;obtain ⟨aU,bq,et,cA,cC,gX⟩:=aK A1 (((ar.drew)).trans hx1);have z1:=(A1.ext (((ar.drew)).trans hx1)).lt)
     |(go_at_call 40;refine (fw _ _ _ _ _ _ _ _ _ _ (((h'.ext x0).ext (by exact ar.drew)).ext hx1) (((g'.ext x0).ext (by exact ar.drew)).ext hx1)).mono ?_;rintro e w2 ⟨rfl,hx2⟩;obtain ⟨aM,bg,dv,bL,bM,eZ⟩:=aK A0 ((((ar.drew)).trans hx1).trans hx2);have z0:=(A0.ext ((((ar.drew)).trans hx1).trans hx2)).lt;obtain ⟨aU,bq,et,cA,cC,gX⟩:=aK A1 ((((ar.drew)).trans hx1).trans hx2);have z1:=(A1.ext ((((ar.drew)).trans hx1).trans hx2)).lt))
    have y2:Ext W w2:=((Ext.refl W).drew.trans hx1).trans hx2;go_wp2_with fail
    refine (HA.o _ ((h.ext x0).ext y2) ((g.ext x0).ext y2)).mono ?_;rintro e w3 ⟨x,y,rfl,hx3⟩;have y3:Ext W w3:=y2.trans hx3;obtain ⟨aM,bg,dv,bL,bM,eZ⟩:=aK A0 y3;have z0:=(A0.ext y3).lt;obtain ⟨aU,bq,et,cA,cC,gX⟩:=aK A1 y3;have z1:=(A1.ext y3).lt;go_wp2_with fail
    refine (HB.o _ ((h'.ext x0).ext y3) ((g'.ext x0).ext y3)).mono ?_;rintro e w4 ⟨x',y',rfl,gG⟩;have y4:Ext W w4:=y3.trans gG;obtain ⟨aM,bg,dv,bL,bM,eZ⟩:=aK A0 y4;have z0:=(A0.ext y4).lt;obtain ⟨aU,bq,et,cA,cC,gX⟩:=aK A1 y4;have z1:=(A1.ext y4).lt;go_wp2_with fail
    refine (kP _ _ _ _ _ _ _ _ _ _ ((h.ext x0).ext y4) ((g.ext x0).ext y4)).mono ?_;rintro e w5 ⟨s1,a1,k1,c1,n1,e1,j1,d1,m1,rfl,h1,g1,Cg,hv,l1,l2,eP⟩;have HV:=ah hv;clear hv
    have y5:Ext W w5:=y4.trans eP;obtain ⟨aM,bg,dv,bL,bM,eZ⟩:=aK A0 y5;have z0:=(A0.ext y5).lt;obtain ⟨aU,bq,et,cA,cC,gX⟩:=aK A1 y5;have z1:=(A1.ext y5).lt;have P5:=aT.alloc w5 90 [.bool s1,.slice a1 k1 c1];have QY:=y5.alloc (.cells #[.bool s1,.slice a1 k1 c1] 90);go_wp2_with fail
    refine (kP _ _ _ _ _ _ _ _ _ _ ((h'.ext x0).ext QY) ((g'.ext x0).ext QY)).mono ?_;rintro e w6 ⟨s2,a2,k2,c2,n2,e2,j2,d2,m2,rfl,h2,g2,ri,hv2,l3,l4,jA⟩;have Io:=ah hv2;clear hv2
    have y6:Ext W w6:=QY.trans jA;obtain ⟨p0,p1,p2,p3⟩:=aH P5 jA;have pz:=(P5.ext jA).lt;go_wp2
    obtain ⟨V,hV⟩: ∃V,V=w6.alloc (.cells #[.bool s2,.slice a2 k2 c2] 90):=⟨_,rfl⟩;rw [<-hV];have yV:Ext w6 V:=by rw [hV];exact ar.alloc _
    have PV:aT V w5.heap.size 90 [.bool s1,.slice a1 k1 c1]:=(P5.ext jA).ext yV;have QV:aT V w6.heap.size 90 [.bool s2,.slice a2 k2 c2]:=by rw [hV];exact aT.alloc _ _ _
    clear hV;have H1:=((h1.ext ((Ext.refl w5).alloc _)).ext jA).ext yV;have G1:=((g1.ext ((Ext.refl w5).alloc _)).ext jA).ext yV;have H2:=h2.ext yV;have G2:=g2.ext yV;obtain ⟨p0,p1,p2,p3⟩:=aH PV ar;obtain ⟨q0,q1,q2,q3⟩:=aH QV ar;have KS:True:=trivial
    go_region_held3 (λw'=>w'.cell? ⟨w5.heap.size,0,none⟩=some (.bool s1)/\w'.cell? ⟨w5.heap.size,1,none⟩=some (.slice a1 k1 c1)/\w'.cell? ⟨w6.heap.size,0,none⟩=some (.bool s2)/\w'.cell? ⟨w6.heap.size,1,none⟩=some (.slice a2 k2 c2)) (first|exact ⟨p0,p1,q0,q1⟩|(simp [go_sem,p0,p1,q0,q1])) (first
     |(go_at_call 90;have _t:=KS;refine (vN _ _ _ _ _ _ _ _ _ _ _ (H1.ext (by exact ar.drew)) (G2.ext (by exact ar.drew)) ae ae).mono ?_;rintro e w7 ⟨a7,c7,rfl,Ur,Yx,oz⟩;clear KS _t;obtain ⟨p0,p1,p2,p3⟩:=aH PV ((Ext.refl V).drew.trans oz);obtain ⟨q0,q1,q2,q3⟩:=aH QV ((Ext.refl V).drew.trans oz))
     |(go_at_call 90;refine (vN _ _ _ _ _ _ _ _ _ _ _ ((H2.ext (by exact ar.drew)).ext oz) ((G1.ext (by exact ar.drew)).ext oz) ae ae).mono ?_;rintro e w8 ⟨a8,c8,rfl,KR,Td,iu⟩;obtain ⟨p0,p1,p2,p3⟩:=aH PV (((Ext.refl V).drew.trans oz).trans iu);obtain ⟨q0,q1,q2,q3⟩:=aH QV (((Ext.refl V).drew.trans oz).trans iu))
     |(go_at_call 89;refine (CK _ _ _ _ _ _ _ _ _ _ _ (Ur.ext iu) KR).mono ?_;rintro e w9 ⟨rfl,oA⟩;obtain ⟨p0,p1,p2,p3⟩:=aH PV ((((Ext.refl V).drew.trans oz).trans iu).trans oA);obtain ⟨q0,q1,q2,q3⟩:=aH QV ((((Ext.refl V).drew.trans oz).trans iu).trans oA)))
    go_wp2
    go_ret;refine ⟨cL ?_,(((((x0.trans y6).trans yV).drew).trans oz).trans iu).trans oA⟩;rw [ni,ni,<-HV.o,<-Io.o,wQ _ _ _ _ Cg ri];rfl
 .have hs':((mkRat (bp s n) m).num.sign !=(mkRat (bp s' n') m').num.sign)=true:=by rw [bne_iff_ne];exact hs
  have e1:=zt hs;have E1:=ah e1;clear e1 hs
  go_enter func41,ntmps41
  go_wp2
  obtain ⟨W,hW,x0,Z0,A0,A1⟩:=dZ w 92 [.bool s,.slice a k c,.slice b j d] 92 [.bool s',.slice a' k' c',.slice b' j' d'];rw [<-hW];clear hW;obtain ⟨aM,bg,dv,bL,bM,eZ⟩:=aK A0 ar;have z0:=(A0.ext ar).lt;obtain ⟨aU,bq,et,cA,cC,gX⟩:=aK A1 ar;have z1:=(A1.ext ar).lt;have fT:True:=trivial
  go_region_held3 (λw'=>w'.cell? ⟨w.heap.size,0,none⟩=some (.bool s)/\w'.cell? ⟨w.heap.size,1,none⟩=some (.slice a k c)/\w'.cell? ⟨w.heap.size,2,none⟩=some (.slice b j d)/\w'.cell? ⟨w.heap.size+1,0,none⟩=some (.bool s')/\w'.cell? ⟨w.heap.size+1,1,none⟩=some (.slice a' k' c')/\w'.cell? ⟨w.heap.size+1,2,none⟩=some (.slice b' j' d')) (first|exact ⟨aM,bg,dv,aU,bq,et⟩|(simp [go_sem,aM,bg,dv,aU,bq,et])) (first
   |(go_at_call 40;have _t:=fT;refine (fw _ _ _ _ _ _ _ _ _ _ ((h.ext x0).ext (by exact ar.drew)) ((g.ext x0).ext (by exact ar.drew))).mono ?_;rintro e w1 ⟨rfl,hx1⟩;clear fT _t;obtain ⟨aM,bg,dv,bL,bM,eZ⟩:=aK A0 (((ar.drew)).trans hx1);have z0:=(A0.ext (((ar.drew)).trans hx1)).lt;obtain ⟨aU,bq,et,cA,cC,gX⟩:=aK A1 (((ar.drew)).trans hx1);have z1:=(A1.ext (((ar.drew)).trans hx1)).lt)
   |(go_at_call 40;refine (fw _ _ _ _ _ _ _ _ _ _ (((h'.ext x0).ext (by exact ar.drew)).ext hx1) (((g'.ext x0).ext (by exact ar.drew)).ext hx1)).mono ?_;rintro e w2 ⟨rfl,hx2⟩;obtain ⟨aM,bg,dv,bL,bM,eZ⟩:=aK A0 ((((ar.drew)).trans hx1).trans hx2);have z0:=(A0.ext ((((ar.drew)).trans hx1).trans hx2)).lt;obtain ⟨aU,bq,et,cA,cC,gX⟩:=aK A1 ((((ar.drew)).trans hx1).trans hx2);have z1:=(A1.ext ((((ar.drew)).trans hx1).trans hx2)).lt))
  have y2:Ext W w2:=((Ext.refl W).drew.trans hx1).trans hx2;go_wp2_with fail
  refine (GY _ _ _).mono ?_;rintro e w3 ⟨rfl,rfl⟩;go_wp2
  go_ret;exact ⟨cL E1.o,x0.trans y2⟩
theorem gi {p:Rat}:p.num.sign=0↔p=0:=by rw [Int.sign_eq_zero_iff_zero,Rat.num_eq_zero]
theorem tO (x x':Int) (y y':Nat) (h:0<y) (h':0<y'):mkRat (x*y'+x'*y) (y*y')=mkRat x y+mkRat x' y':=(Rat.mkRat_add_mkRat x x' ae ae).symm
theorem wS (x x':Int) (y:Nat) (h:0<y):mkRat (x+x') y=mkRat x y+mkRat x' y:=by
 rw [<-tO _ _ _ _ h h,<-Int.add_mul,Rat.mkRat_mul_right ae]
theorem nj (x y:Int):len (x+y).natAbs<=max (len x.natAbs) (len y.natAbs)+1:=
 Nat.le_trans (df (Int.natAbs_add_le x y)) (NX _ _)
theorem yH (w:World) (s:Bool) (a b:Option Addr) (k c j d n m:Nat) (h:Raw w a k c n) (g:Raw w b j d m) (s':Bool) (a' b':Option Addr) (k' c' j' d' n' m':Nat) (h':Raw w a' k' c' n') (g':Raw w b' j' d' m') (hNm: ∀V,Raw V a' k' c' n'->Raw V b' j' d' m'->Calls prog 150 #[.agg #[.bool s',.slice a' k' c',.slice b' j' d']] V (bG (mkRat (bp s' n') m') V)) (h0:mkRat (bp s n) m=0):
 Calls prog 93 #[.agg #[.bool s,.slice a k c,.slice b j d],.agg #[.bool s',.slice a' k' c',.slice b' j' d']] w (bG (mkRat (bp s n) m+mkRat (bp s' n') m') w):=by
 have hs:(mkRat (bp s n) m).num.sign=0:=gi.2 h0;have H0:=ah h0;clear h0
 go_enter func93,ntmps93
 go_wp2_with fail
 obtain ⟨W,hW,x0,Z0,A0,A1,A2⟩:=fC w 92 [.bool s,.slice a k c,.slice b j d] 92 [.bool s',.slice a' k' c',.slice b' j' d'] 92 [.bool false,.slice none 0 0,.slice none 0 0];rw [<-hW];clear hW;have aM:=aK A0 ar;have z0:=(A0.ext ar).lt;have aU:=aK A1 ar;have z1:=(A1.ext ar).lt;have bK:=aK A2 ar;have z2:=(A2.ext ar).lt;refine (fw _ _ _ _ _ _ _ _ _ _ (h.ext x0) (g.ext x0)).mono ?_;rintro e w1 ⟨rfl,hx1⟩;have aM:=aK A0 hx1;have z0:=(A0.ext hx1).lt;have aU:=aK A1 hx1;have z1:=(A1.ext hx1).lt;have bK:=aK A2 hx1;have z2:=(A2.ext hx1).lt;rw [hs];clear hs;go_wp2_with fail
 refine (hNm _ ((h'.ext x0).ext hx1) ((g'.ext x0).ext hx1)).mono ?_;intro e wz hN;rw [<-Rat.zero_add (mkRat (bp s' n') m'),<-H0.o]at hN;obtain ⟨az,cz,Ut,Uu,rfl,Te,qL,IB,IC,lM⟩:=id hN;have aM:=aK A0 (hx1.trans lM);have z0:=(A0.ext (hx1.trans lM)).lt;have aU:=aK A1 (hx1.trans lM);have z1:=(A1.ext (hx1.trans lM)).lt;have bK:=aK A2 (hx1.trans lM);have z2:=(A2.ext (hx1.trans lM)).lt;go_wp2
 exact bodyPost_ret (by simp [results,results93,go_sem, *]) rfl (bG.bt (hN.base hx1) x0 (Touch.three _ ae (by rw [Z0.o];omega) _ _ _))
theorem yI (w:World) (s:Bool) (a b:Option Addr) (k c j d n m:Nat) (h:Raw w a k c n) (g:Raw w b j d m) (s':Bool) (a' b':Option Addr) (k' c' j' d' n' m':Nat) (h':Raw w a' k' c' n') (g':Raw w b' j' d' m') (hNm: ∀V,Raw V a k c n->Raw V b j d m->Calls prog 150 #[.agg #[.bool s,.slice a k c,.slice b j d]] V (bG (mkRat (bp s n) m) V)) (KQ: ¬mkRat (bp s n) m=0) (h0:mkRat (bp s' n') m'=0):
 Calls prog 93 #[.agg #[.bool s,.slice a k c,.slice b j d],.agg #[.bool s',.slice a' k' c',.slice b' j' d']] w (bG (mkRat (bp s n) m+mkRat (bp s' n') m') w):=by
 have hs:(mkRat (bp s' n') m').num.sign=0:=gi.2 h0;have hs1:((mkRat (bp s n) m).num.sign==0)=false:=by rw [beq_eq_false_iff_ne];exact λh=>KQ (gi.1 h)
 have H0:=ah h0;clear h0 KQ
 go_enter func93,ntmps93
 go_wp2_with fail
 obtain ⟨W,hW,x0,Z0,A0,A1,A2⟩:=fC w 92 [.bool s,.slice a k c,.slice b j d] 92 [.bool s',.slice a' k' c',.slice b' j' d'] 92 [.bool false,.slice none 0 0,.slice none 0 0];rw [<-hW];clear hW;have aM:=aK A0 ar;have z0:=(A0.ext ar).lt;have aU:=aK A1 ar;have z1:=(A1.ext ar).lt;have bK:=aK A2 ar;have z2:=(A2.ext ar).lt;refine (fw _ _ _ _ _ _ _ _ _ _ (h.ext x0) (g.ext x0)).mono ?_;rintro e w1 ⟨rfl,hx1⟩;have aM:=aK A0 hx1;have z0:=(A0.ext hx1).lt;have aU:=aK A1 hx1;have z1:=(A1.ext hx1).lt;have bK:=aK A2 hx1;have z2:=(A2.ext hx1).lt;go_wp2_with fail
 refine (fw _ _ _ _ _ _ _ _ _ _ ((h'.ext x0).ext hx1) ((g'.ext x0).ext hx1)).mono ?_;rintro e w2 ⟨rfl,hx2⟩;have y2:Ext W w2:=hx1.trans hx2;have aM:=aK A0 y2;have z0:=(A0.ext y2).lt;have aU:=aK A1 y2;have z1:=(A1.ext y2).lt;have bK:=aK A2 y2;have z2:=(A2.ext y2).lt;rw [hs];clear hs;go_wp2_with fail
 refine (hNm _ ((h.ext x0).ext y2) ((g.ext x0).ext y2)).mono ?_;intro e wz hN;rw [<-Rat.add_zero (mkRat (bp s n) m),<-H0.o]at hN;obtain ⟨az,cz,Ut,Uu,rfl,Te,qL,IB,IC,lM⟩:=id hN;have aM:=aK A0 (y2.trans lM);have z0:=(A0.ext (y2.trans lM)).lt;have aU:=aK A1 (y2.trans lM);have z1:=(A1.ext (y2.trans lM)).lt;have bK:=aK A2 (y2.trans lM);have z2:=(A2.ext (y2.trans lM)).lt;go_wp2
 exact bodyPost_ret (by simp [results,results93,go_sem, *]) rfl (bG.bt (hN.base y2) x0 (Touch.three _ ae (by rw [Z0.o];omega) _ _ _))
theorem Fg (w:World) (s:Bool) (a b:Option Addr) (k c j d n m:Nat) (h:Raw w a k c n) (g:Raw w b j d m) (s':Bool) (a' b':Option Addr) (k' c' j' d' n' m':Nat) (h':Raw w a' k' c' n') (g':Raw w b' j' d' m') (KQ: ¬mkRat (bp s n) m=0) (KT: ¬mkRat (bp s' n') m'=0) (ha:n<2147483648/\m<2147483648) (hb:n'<2147483648/\m'<2147483648):
 Calls prog 93 #[.agg #[.bool s,.slice a k c,.slice b j d],.agg #[.bool s',.slice a' k' c',.slice b' j' d']] w (bG (mkRat (bp s n) m+mkRat (bp s' n') m') w):=by
 have hs1:((mkRat (bp s n) m).num.sign==0)=false:=by rw [beq_eq_false_iff_ne];exact λh=>KQ (gi.1 h)
 have hs2:((mkRat (bp s' n') m').num.sign==0)=false:=by rw [beq_eq_false_iff_ne];exact λh=>KT (gi.1 h)
 clear KQ KT;have HA:=ah ha;have HB:=ah hb;clear ha hb
 go_enter func93,ntmps93
 go_wp2_with fail
 obtain ⟨W,hW,x0,Z0,A0,A1,A2⟩:=fC w 92 [.bool s,.slice a k c,.slice b j d] 92 [.bool s',.slice a' k' c',.slice b' j' d'] 92 [.bool false,.slice none 0 0,.slice none 0 0];rw [<-hW];clear hW;have aM:=aK A0 ar;have z0:=(A0.ext ar).lt;have aU:=aK A1 ar;have z1:=(A1.ext ar).lt;have bK:=aK A2 ar;have z2:=(A2.ext ar).lt;refine (fw _ _ _ _ _ _ _ _ _ _ (h.ext x0) (g.ext x0)).mono ?_;rintro e w1 ⟨rfl,hx1⟩;have aM:=aK A0 hx1;have z0:=(A0.ext hx1).lt;have aU:=aK A1 hx1;have z1:=(A1.ext hx1).lt;have bK:=aK A2 hx1;have z2:=(A2.ext hx1).lt;go_wp2_with fail
 refine (fw _ _ _ _ _ _ _ _ _ _ ((h'.ext x0).ext hx1) ((g'.ext x0).ext hx1)).mono ?_;rintro e w2 ⟨rfl,hx2⟩;have y2:Ext W w2:=hx1.trans hx2;have aM:=aK A0 y2;have z0:=(A0.ext y2).lt;have aU:=aK A1 y2;have z1:=(A1.ext y2).lt;have bK:=aK A2 y2;have z2:=(A2.ext y2).lt;go_wp2_with fail
 refine (kQ _ _ _ _ _ _ _ _ _ _ ((h.ext x0).ext y2) ((g.ext x0).ext y2) HA.o.1 HA.o.2).mono ?_;rintro e w3 ⟨x,y,rfl,i1,i2,i3,i4,mG,hx3⟩;have Us:=ah mG;clear mG
 have y3:Ext W w3:=y2.trans hx3;have aM:=aK A0 y3;have z0:=(A0.ext y3).lt;have aU:=aK A1 y3;have z1:=(A1.ext y3).lt;have bK:=aK A2 y3;have z2:=(A2.ext y3).lt;go_wp2_with fail
 refine (kQ _ _ _ _ _ _ _ _ _ _ ((h'.ext x0).ext y3) ((g'.ext x0).ext y3) HB.o.1 HB.o.2).mono ?_;rintro e w4 ⟨x',y',rfl,i1',i2',Yy,i4',ES,gG⟩;have QX:=ah ES;clear ES
 have y4:Ext W w4:=y3.trans gG;have aM:=aK A0 y4;have z0:=(A0.ext y4).lt;have aU:=aK A1 y4;have z1:=(A1.ext y4).lt;have bK:=aK A2 y4;have z2:=(A2.ext y4).lt;obtain ⟨m1,m2⟩:=pE i1 i2 (by omega: -2147483648<(y':Int)) ae;obtain ⟨m3,m4⟩:=pE i1' i2' (by omega: -2147483648<(y:Int)) ae;obtain ⟨m5,m6⟩:=yG i3 i4 Yy i4';have m5':0<(y:Int)*(y':Int):=by rw [<-Int.natCast_mul];omega
 have m6':(y:Int)*(y':Int)<=4611686018427387904:=by rw [<-Int.natCast_mul];omega
 have o1:x*(y':Int)+x'*(y:Int)<9223372036854775808:=by
  by_cases hh:x<0
  .have:=Int.mul_nonpos_of_nonpos_of_nonneg (Int.le_of_lt hh) (by omega:(0:Int)<=(y':Int));omega
  .have:x*(y':Int)<=2147483647*2147483647:=Int.mul_le_mul ae ae ae ae
   omega
 have o2: -9223372036854775808<x*(y':Int)+x'*(y:Int):=by
  by_cases hh:x<0
  .have:(-x)*(y':Int)<=2147483647*2147483647:=Int.mul_le_mul ae ae ae ae
   rw [Int.neg_mul]at this;omega
  .have:=Int.mul_nonneg (by omega:(0:Int)<=x) (by omega:(0:Int)<=(y':Int));omega
 go_wp2_with fail
 rw [<-Int.natCast_mul];refine (rE _ _ _ ae ae m5 ae).mono ?_;intro e wz hN;rw [tO _ _ _ _ i3 Yy,Us.o,QX.o]at hN;obtain ⟨az,cz,Ut,Uu,rfl,Te,qL,IB,IC,lM⟩:=id hN;have aM:=aK A0 (y4.trans lM);have z0:=(A0.ext (y4.trans lM)).lt;have aU:=aK A1 (y4.trans lM);have z1:=(A1.ext (y4.trans lM)).lt;have bK:=aK A2 (y4.trans lM);have z2:=(A2.ext (y4.trans lM)).lt;go_wp2
 exact bodyPost_ret (by simp [results,results93,go_sem, *]) rfl (bG.bt (hN.base y4) x0 (Touch.three _ ae (by rw [Z0.o];omega) _ _ _))
theorem CQ (w:World) (s:Bool) (a b:Option Addr) (k c j d n m:Nat) (h:Raw w a k c n) (g:Raw w b j d m) (s':Bool) (a' b':Option Addr) (k' c' j' d' n' m':Nat) (h':Raw w a' k' c' n') (g':Raw w b' j' d' m') (b1:len n<100000000) (b2:len m<100000000) (EE:len n'<100000000) (ED:len m'<100000000) (KQ: ¬mkRat (bp s n) m=0) (KT: ¬mkRat (bp s' n') m'=0) (hA: ¬((n<2147483648/\m<2147483648)/\n'<2147483648/\m'<2147483648)):
 Calls prog 93 #[.agg #[.bool s,.slice a k c,.slice b j d],.agg #[.bool s',.slice a' k' c',.slice b' j' d']] w (bG (mkRat (bp s n) m+mkRat (bp s' n') m') w):=by
 have hs1:((mkRat (bp s n) m).num.sign==0)=false:=by rw [beq_eq_false_iff_ne];exact λh=>KQ (gi.1 h)
 have hs2:((mkRat (bp s' n') m').num.sign==0)=false:=by rw [beq_eq_false_iff_ne];exact λh=>KT (gi.1 h)
 clear KQ KT;obtain ⟨p,hp,Uv⟩:=jW s a b k c j d n m;obtain ⟨p',Uw,Ux⟩:=jW s' a' b' k' c' j' d' n' m'
 have hc:(p=true/\p'=false)\/(p=false/\p'=true)\/(p=false/\p'=false):=by
  cases p with
  |false=>cases p'<;>simp
  |true=>
   cases p' with
   |false=>simp
   |true=>exact absurd ⟨hp.1 rfl,Uw.1 rfl⟩ hA
 have HA:=ah Uv;have HB:=ah Ux
 clear hA hp Uw Uv Ux;rcases hc with⟨rfl,rfl⟩|⟨rfl,rfl⟩|⟨rfl,rfl⟩
 all_goals
  go_enter func93,ntmps93
  go_wp2_with fail
  obtain ⟨W,hW,x0,Z0,A0,A1,A2⟩:=fC w 92 [.bool s,.slice a k c,.slice b j d] 92 [.bool s',.slice a' k' c',.slice b' j' d'] 92 [.bool false,.slice none 0 0,.slice none 0 0];rw [<-hW];clear hW;have aM:=aK A0 ar;have z0:=(A0.ext ar).lt;have aU:=aK A1 ar;have z1:=(A1.ext ar).lt;have bK:=aK A2 ar;have z2:=(A2.ext ar).lt;refine (fw _ _ _ _ _ _ _ _ _ _ (h.ext x0) (g.ext x0)).mono ?_;rintro e w1 ⟨rfl,hx1⟩;have aM:=aK A0 hx1;have z0:=(A0.ext hx1).lt;have aU:=aK A1 hx1;have z1:=(A1.ext hx1).lt;have bK:=aK A2 hx1;have z2:=(A2.ext hx1).lt;go_wp2_with fail
  refine (fw _ _ _ _ _ _ _ _ _ _ ((h'.ext x0).ext hx1) ((g'.ext x0).ext hx1)).mono ?_;rintro e w2 ⟨rfl,hx2⟩;have y2:Ext W w2:=hx1.trans hx2;have aM:=aK A0 y2;have z0:=(A0.ext y2).lt;have aU:=aK A1 y2;have z1:=(A1.ext y2).lt;have bK:=aK A2 y2;have z2:=(A2.ext y2).lt;go_wp2_with fail
  refine (HA.o _ ((h.ext x0).ext y2) ((g.ext x0).ext y2)).mono ?_;rintro e w3 ⟨x,y,rfl,hx3⟩;have y3:Ext W w3:=y2.trans hx3;have aM:=aK A0 y3;have z0:=(A0.ext y3).lt;have aU:=aK A1 y3;have z1:=(A1.ext y3).lt;have bK:=aK A2 y3;have z2:=(A2.ext y3).lt;go_wp2_with fail
  refine (HB.o _ ((h'.ext x0).ext y3) ((g'.ext x0).ext y3)).mono ?_;rintro e w4 ⟨x',y',rfl,gG⟩;have y4:Ext W w4:=y3.trans gG;have aM:=aK A0 y4;have z0:=(A0.ext y4).lt;have aU:=aK A1 y4;have z1:=(A1.ext y4).lt;have bK:=aK A2 y4;have z2:=(A2.ext y4).lt;go_wp2_with fail
  refine (kP _ _ _ _ _ _ _ _ _ _ ((h.ext x0).ext y4) ((g.ext x0).ext y4)).mono ?_;rintro e w5 ⟨s1,a1,k1,c1,n1,e1,j1,d1,m1,rfl,h1,g1,Cg,hv,l1,l2,eP⟩;have HV:=ah hv;clear hv
  have y5:Ext W w5:=y4.trans eP;have aM:=aK A0 y5;have z0:=(A0.ext y5).lt;have aU:=aK A1 y5;have z1:=(A1.ext y5).lt;have bK:=aK A2 y5;have z2:=(A2.ext y5).lt;have P5:=aT.alloc w5 90 [.bool s1,.slice a1 k1 c1];have QY:=y5.alloc (.cells #[.bool s1,.slice a1 k1 c1] 90);go_wp2_with fail
  refine (kP _ _ _ _ _ _ _ _ _ _ ((h'.ext x0).ext QY) ((g'.ext x0).ext QY)).mono ?_;rintro e w6 ⟨s2,a2,k2,c2,n2,e2,j2,d2,m2,rfl,h2,g2,ri,hv2,l3,l4,jA⟩;have Io:=ah hv2;clear hv2
  have y6:Ext W w6:=QY.trans jA;have aM:=aK A0 y6;have z0:=(A0.ext y6).lt;have aU:=aK A1 y6;have z1:=(A1.ext y6).lt;have bK:=aK A2 y6;have z2:=(A2.ext y6).lt;obtain ⟨p0,p1,p2,p3⟩:=aH P5 jA;have pz:=(P5.ext jA).lt;have yV:Ext w6 (w6.alloc (.cells #[.bool s2,.slice a2 k2 c2] 90)):=ar.alloc _;have PV:=(P5.ext jA).ext yV;have QV:=aT.alloc w6 90 [.bool s2,.slice a2 k2 c2];have H1:=((h1.ext ((Ext.refl w5).alloc _)).ext jA).ext yV;have G1:=((g1.ext ((Ext.refl w5).alloc _)).ext jA).ext yV;have H2:=h2.ext yV;have G2:=g2.ext yV;have yW:=y6.trans yV;go_wp2_with fail
  refine (eu _ _ _ _ _ _ _ _ _ G1 G2).mono ?_;rintro e w7 ⟨rfl,QZ⟩;have y7:Ext W w7:=yW.trans QZ.ext;have aM:=aK A0 y7;have z0:=(A0.ext y7).lt;have aU:=aK A1 y7;have z1:=(A1.ext y7).lt;have bK:=aK A2 y7;have z2:=(A2.ext y7).lt;have P7:=PV.ext QZ.ext;have Q7:=QV.ext QZ.ext;obtain ⟨p0,p1,p2,p3⟩:=aH P7 ar;obtain ⟨q0,q1,q2,q3⟩:=aH Q7 ar;have pz:=P7.lt;have qz:=Q7.lt;have H1:=H1.ext QZ.ext;have H2:=H2.ext QZ.ext;have G1:=G1.ext QZ.ext;have G2:=G2.ext QZ.ext;by_cases heq:m1=m2
  .subst heq
   have hcm:fV m1 m1=0:=by unfold fV;simp
   rw [hcm];clear hcm
   go_wp2_with fail
   refine (GW _ _ _ _ _ _ _ _ _ _ _ H1 H2 ae ae).mono ?_;rintro e w8 ⟨a8,c8,rfl,KR,Td,iu⟩;have y8:Ext W w8:=y7.trans iu;have aM:=aK A0 y8;have z0:=(A0.ext y8).lt;have aU:=aK A1 y8;have z1:=(A1.ext y8).lt;have bK:=aK A2 y8;have z2:=(A2.ext y8).lt;have bl:=nj (bp s1 n1) (bp s2 n2);rw [bF,bF]at bl;go_wp2_with fail
   refine (qm _ _ _ _ _ _ _ _ _ _ KR (G1.ext iu) Cg ae ae).mono ?_;intro e wz hN;rw [ni,wS _ _ _ Cg,HV.o,Io.o]at hN;obtain ⟨az,cz,Ut,Uu,rfl,Te,qL,IB,IC,lM⟩:=id hN;have aM:=aK A0 (y8.trans lM);have z0:=(A0.ext (y8.trans lM)).lt;have aU:=aK A1 (y8.trans lM);have z1:=(A1.ext (y8.trans lM)).lt;have bK:=aK A2 (y8.trans lM);have z2:=(A2.ext (y8.trans lM)).lt;go_wp2
   exact bodyPost_ret (by simp [results,results93,go_sem, *]) rfl (bG.bt (hN.base y8) x0 (Touch.three _ ae (by rw [Z0.o];omega) _ _ _))
  .have hcm:(fV m1 m2==0)=false:=by rw [beq_eq_false_iff_ne];rcases EK m1 m2 with h|h|h<;>omega
   go_wp2
   have bl1:len (bp s1 n1*bp false m2).natAbs<1000000000:=by rw [Int.natAbs_mul,bF,bF];have:=kI n1 m2;omega
   have bl2:len (bp s2 n2*bp false m1).natAbs<1000000000:=by rw [Int.natAbs_mul,bF,bF];have:=kI n2 m1;omega
   have bl3:=nj (bp s1 n1*bp false m2) (bp s2 n2*bp false m1);rw [Int.natAbs_mul,Int.natAbs_mul,bF,bF,bF,bF]at bl3;have bl4:=kI n1 m2;have bl5:=kI n2 m1;have bl6:=kI m1 m2;have KS:True:=trivial;have sW:w.heap.size+3<=w7.heap.size:=by have:=y7.size;rw [Z0.o]at this;exact this
   go_cut [15] (λs15 wx=> ∃(bb:Nat) (az:Option Addr) (cz:Nat),s15= .pointer (some ⟨bb,0,none⟩)/\w.heap.size+3<=bb/\Hid (aT wx bb 90 [.bool (decide (bp s1 n1*bp false m2+bp s2 n2*bp false m1<0)),.slice az (len (bp s1 n1*bp false m2+bp s2 n2*bp false m1).natAbs) cz])/\Raw wx az (len (bp s1 n1*bp false m2+bp s2 n2*bp false m1).natAbs) cz (bp s1 n1*bp false m2+bp s2 n2*bp false m1).natAbs/\Ext w7 wx)
   case first=>
    go_region_held3 (λw'=>w'.cell? ⟨w5.heap.size,0,none⟩=some (.bool s1)/\w'.cell? ⟨w5.heap.size,1,none⟩=some (.slice a1 k1 c1)/\w'.cell? ⟨w6.heap.size,0,none⟩=some (.bool s2)/\w'.cell? ⟨w6.heap.size,1,none⟩=some (.slice a2 k2 c2)) (first|exact ⟨p0,p1,q0,q1⟩|(simp [go_sem,p0,p1,q0,q1,pz,qz];done)|(simp [go_sem,p0,p1,q0,q1,pz,qz];omega)) (first
     |(go_at_call 90;have _t:=KS;refine (vN _ _ _ _ _ _ _ _ _ _ _ (H1.ext (by repeat(first|exact ar|exact v10|exact v9|exact v8|refine Ext.trans ?_ eW|refine Ext.trans ?_ oA|refine Ext.trans ?_ iu|refine Ext.drew ?_|refine Ext.alloc ?_ _|refine Ext.setCell ?_ (by simp;omega) _))) (G2.ext (by repeat(first|exact ar|exact v10|exact v9|exact v8|refine Ext.trans ?_ eW|refine Ext.trans ?_ oA|refine Ext.trans ?_ iu|refine Ext.drew ?_|refine Ext.alloc ?_ _|refine Ext.setCell ?_ (by simp;omega) _))) ae ae).mono ?_;rintro e w8 ⟨a8,c8,rfl,KR,Td,iu⟩;clear KS _t;have v8:Ext w7 w8:=(by repeat(first|exact ar|exact v10|exact v9|exact v8|refine Ext.trans ?_ eW|refine Ext.trans ?_ oA|refine Ext.trans ?_ iu|refine Ext.drew ?_|refine Ext.alloc ?_ _|refine Ext.setCell ?_ (by simp;omega) _));have z8:=v8.size;obtain ⟨p0,p1,p2,p3⟩:=aH P7 v8;obtain ⟨q0,q1,q2,q3⟩:=aH Q7 v8;have pz:=(P7.ext v8).lt;have qz:=(Q7.ext v8).lt;(first|(have RB:aT w8 w7.heap.size 90 [.bool false,.slice none 0 0]:=(aT.alloc w7.drew 90 [.bool false,.slice none 0 0]).ext iu;obtain ⟨r0,r1,r2,r3⟩:=aH RB ar;have rz:=RB.lt)|skip))
     |(go_at_call 90;refine (vN _ _ _ _ _ _ _ _ _ _ _ (H2.ext (by repeat(first|exact ar|exact v10|exact v9|exact v8|refine Ext.trans ?_ eW|refine Ext.trans ?_ oA|refine Ext.trans ?_ iu|refine Ext.drew ?_|refine Ext.alloc ?_ _|refine Ext.setCell ?_ (by simp;omega) _))) (G1.ext (by repeat(first|exact ar|exact v10|exact v9|exact v8|refine Ext.trans ?_ eW|refine Ext.trans ?_ oA|refine Ext.trans ?_ iu|refine Ext.drew ?_|refine Ext.alloc ?_ _|refine Ext.setCell ?_ (by simp;omega) _))) ae ae).mono ?_;rintro e w9 ⟨a9,c9,rfl,Uy,Yz,oA⟩;have v9:Ext w7 w9:=(by repeat(first|exact ar|exact v10|exact v9|exact v8|refine Ext.trans ?_ eW|refine Ext.trans ?_ oA|refine Ext.trans ?_ iu|refine Ext.drew ?_|refine Ext.alloc ?_ _|refine Ext.setCell ?_ (by simp;omega) _));have z9:=v9.size;obtain ⟨p0,p1,p2,p3⟩:=aH P7 v9;obtain ⟨q0,q1,q2,q3⟩:=aH Q7 v9;have pz:=(P7.ext v9).lt;have qz:=(Q7.ext v9).lt;(first|(have RB:=RB.ext oA;obtain ⟨r0,r1,r2,r3⟩:=aH RB ar;have rz:=RB.lt)|(have RB:=(aT.alloc w8 90 [.bool false,.slice none 0 0]).ext oA;obtain ⟨r0,r1,r2,r3⟩:=aH RB ar;have rz:=RB.lt)|skip))
     |(go_at_call 153;refine (GW _ _ _ _ _ _ _ _ _ _ _ (KR.ext (by repeat(first|exact ar|exact v10|exact v9|exact v8|refine Ext.trans ?_ eW|refine Ext.trans ?_ oA|refine Ext.trans ?_ iu|refine Ext.drew ?_|refine Ext.alloc ?_ _|refine Ext.setCell ?_ (by simp;omega) _))) (Uy.ext (by repeat(first|exact ar|exact v10|exact v9|exact v8|refine Ext.trans ?_ eW|refine Ext.trans ?_ oA|refine Ext.trans ?_ iu|refine Ext.drew ?_|refine Ext.alloc ?_ _|refine Ext.setCell ?_ (by simp;omega) _))) bl1 bl2).mono ?_;rintro e Ci ⟨Fc,c10,rfl,Q5,Uz,eW⟩;have v10:Ext w7 Ci:=(by repeat(first|exact ar|exact v10|exact v9|exact v8|refine Ext.trans ?_ eW|refine Ext.trans ?_ oA|refine Ext.trans ?_ iu|refine Ext.drew ?_|refine Ext.alloc ?_ _|refine Ext.setCell ?_ (by simp;omega) _));have PF:=v10.size;obtain ⟨p0,p1,p2,p3⟩:=aH P7 v10;obtain ⟨q0,q1,q2,q3⟩:=aH Q7 v10;have pz:=(P7.ext v10).lt;have qz:=(Q7.ext v10).lt;(first|(have RB:=RB.ext eW;obtain ⟨r0,r1,r2,r3⟩:=aH RB ar;have rz:=RB.lt)|(have RB:=(aT.alloc w9 90 [.bool false,.slice none 0 0]).ext eW;obtain ⟨r0,r1,r2,r3⟩:=aH RB ar;have rz:=RB.lt)|skip)))
    all_goals go_wp2_with fail
    all_goals go_meet
    all_goals simp only [ni]at Q5⊢
    all_goals first
     |exact ⟨_,Fc,c10,rfl,ae,aT.alloc _ _ _,Q5.ext (ar.alloc _),(by repeat(first|exact ar|exact v10|exact v9|exact v8|refine Ext.trans ?_ eW|refine Ext.trans ?_ oA|refine Ext.trans ?_ iu|refine Ext.drew ?_|refine Ext.alloc ?_ _|refine Ext.setCell ?_ (by simp;omega) _))⟩
     |exact ⟨_,Fc,c10,rfl,ae,(RB.set 0 _).set 1 _,Raw.setCell (Raw.setCell Q5 _ _ (Uz.ne (by first|(simp;done)|(simp;omega)|omega))) _ _ (Uz.ne (by first|(simp;done)|(simp;omega)|omega)),Ext.AV v10 ae _ _⟩
   case rest=>
    obtain ⟨bb,az,cz,rfl,hb3,hA,hR,iu⟩:=hcut;have y8:Ext W wc:=y7.trans iu;have aM:=aK A0 y8;have z0:=(A0.ext y8).lt;have aU:=aK A1 y8;have z1:=(A1.ext y8).lt;have bK:=aK A2 y8;have z2:=(A2.ext y8).lt;have A8:=hA.o;obtain ⟨r0,r1,r2,r3⟩:=aH A8 ar;have nb1: ¬(w.heap.size+1+1=bb):=ae;have nb2: ¬(bb=w.heap.size+1+1):=ae;have nb3: ¬(w.heap.size+2=bb):=ae;have nb4: ¬(bb=w.heap.size+2):=ae;have G1:=G1.ext iu;have G2:=G2.ext iu;go_wp2
    go_region_held3 (λw'=>w'.cell? ⟨bb,0,none⟩=some (.bool (decide (bp s1 n1*bp false m2+bp s2 n2*bp false m1<0)))/\w'.cell? ⟨bb,1,none⟩=some (.slice az (len (bp s1 n1*bp false m2+bp s2 n2*bp false m1).natAbs) cz)) (first|exact ⟨r0,r1⟩|(simp [go_sem,r0,r1];done)) (first
     |(go_at_call 149;refine (vL _ _ _ _ _ _ _ _ _ (G1.ext (by exact ar.drew)) (G2.ext (by exact ar.drew)) ae ae).mono ?_;rintro e w11 ⟨a11,c11,rfl,aaw,ag8,pT⟩;obtain ⟨r0,r1,r2,r3⟩:=aH A8 ((Ext.refl wc).drew.trans pT);have aM:=aK A0 ((y8.drew).trans pT);have z0:=(A0.ext ((y8.drew).trans pT)).lt;have aU:=aK A1 ((y8.drew).trans pT);have z1:=(A1.ext ((y8.drew).trans pT)).lt;have bK:=aK A2 ((y8.drew).trans pT);have z2:=(A2.ext ((y8.drew).trans pT)).lt)
     |(go_at_call 152;refine (qm _ _ _ _ _ _ _ _ _ _ ((hR.ext (by exact ar.drew)).ext pT) aaw (Nat.mul_pos Cg ri) ae ae).mono ?_;intro e wz hN;rw [ni,ep,ep,tO _ _ _ _ Cg ri,HV.o,Io.o]at hN;obtain ⟨au,cu,au',cu',rfl,Te,qL,IB,IC,lM⟩:=id hN;obtain ⟨r0,r1,r2,r3⟩:=aH A8 (((Ext.refl wc).drew.trans pT).trans lM);have aM:=aK A0 (((y8.drew).trans pT).trans lM);have z0:=(A0.ext (((y8.drew).trans pT).trans lM)).lt;have aU:=aK A1 (((y8.drew).trans pT).trans lM);have z1:=(A1.ext (((y8.drew).trans pT).trans lM)).lt;have bK:=aK A2 (((y8.drew).trans pT).trans lM);have z2:=(A2.ext (((y8.drew).trans pT).trans lM)).lt))
    go_wp2
    exact bodyPost_ret (by simp [results,results93,go_sem, *]) rfl (bG.bt (hN.base ((y8.drew).trans pT)) x0 (Touch.three _ ae (by rw [Z0.o];omega) _ _ _))
theorem NY (w:World) (s:Bool) (a b:Option Addr) (k c j d n m:Nat) (h:Raw w a k c n) (g:Raw w b j d m) (s':Bool) (a' b':Option Addr) (k' c' j' d' n' m':Nat) (h':Raw w a' k' c' n') (g':Raw w b' j' d' m') (b1:len n<100000000) (b2:len m<100000000) (EE:len n'<100000000) (ED:len m'<100000000):
 Calls prog 93 #[.agg #[.bool s,.slice a k c,.slice b j d],.agg #[.bool s',.slice a' k' c',.slice b' j' d']] w (bG (mkRat (bp s n) m+mkRat (bp s' n') m') w):=by
 by_cases h0:mkRat (bp s n) m=0
 .exact yH w _ _ _ _ _ _ _ _ _ h g _ _ _ _ _ _ _ _ _ h' g' (λV p q=>CN V _ _ _ _ _ _ _ _ _ p q EE ED) h0
 by_cases Q6:mkRat (bp s' n') m'=0
 .exact yI w _ _ _ _ _ _ _ _ _ h g _ _ _ _ _ _ _ _ _ h' g' (λV p q=>CN V _ _ _ _ _ _ _ _ _ p q b1 b2) h0 Q6
 by_cases ha:(n<2147483648/\m<2147483648)/\n'<2147483648/\m'<2147483648
 .exact Fg w _ _ _ _ _ _ _ _ _ h g _ _ _ _ _ _ _ _ _ h' g' h0 Q6 ha.1 ha.2
 .exact CQ w _ _ _ _ _ _ _ _ _ h g _ _ _ _ _ _ _ _ _ h' g' b1 b2 EE ED h0 Q6 ha
theorem Ext.rI {w w3 w4:World} {hi:Nat} (h:Ext w w3) (t:Touch w.heap.size hi w3 w4):Ext w w4:=
 ⟨⟨t.os.trans h.below.os,t.tape.trans h.below.tape,t.output.trans h.below.output,by rw [t.size];exact h.below.size,λk hk=>(t.block k (Or.inl hk)).trans (h.below.block k hk)⟩,Nat.le_trans h.drawn t.drawn⟩
theorem NZ (q:Rat):uB (-q)=uB q:=by unfold uB;rw [Rat.neg_num,Rat.neg_den,Int.natAbs_neg]
theorem AY (p q:Rat):uB (p+q)<=uB p+uB q+1:=by
 rw [Rat.add_def'];refine Nat.le_trans (kO _ _) ?_;have h1:=nj (p.num*q.den) (q.num*p.den);rw [Int.natAbs_mul,Int.natAbs_mul,Int.natAbs_natCast,Int.natAbs_natCast]at h1;have h2:=kI p.num.natAbs q.den;have h3:=kI q.num.natAbs p.den;have h4:=kI p.den q.den;have a1:=m_ p;have a2:=na p;have a3:=m_ q;have a4:=na q
 omega
theorem N0 (p q:Rat):uB (p-q)<=uB p+uB q+1:=by
 rw [Rat.sub_eq_add_neg];have:=AY p (-q);rw [NZ]at this;exact this
theorem A_ (z:Int):uB (z:Rat)=max (len z.natAbs) 1:=by
 unfold uB;rw [Rat.num_intCast,Rat.den_intCast,oD]
theorem kZ {z:Int} (h1: -9223372036854775808<=z) (h2:z<=9223372036854775807):len z.natAbs<=2:=fS.2 ae
theorem bG.PG {q:Rat} {w w':World} {e:Ending} (h:bG q w e w'): ∃r:cH,e= .returned (.agg #[.bool r.s,.slice r.a r.k r.c,.slice r.b r.j r.d])/\jH w' r q (Go.Proofs.YtbnamicbjaaelaaGreat.uB q)/\Fr w.heap.size r.a/\Fr w.heap.size r.b/\Ext w w':=by
 obtain ⟨a,c,a',c',he,hr,hf,pS,hf',hx⟩:=h;refine ⟨⟨decide (q.num<0),a,len q.num.natAbs,c,a',len q.den,c'⟩,he,⟨_,_,hr,pS,?_,m_ q,na q⟩,hf,hf',hx⟩;rw [ni,Rat.mkRat_self]
theorem fQ.PG {w:World} {r:cH} {q:Rat} {B:Nat} (h:fQ w r q B):jH w r q (Go.Proofs.YtbnamicbjaaelaaGreat.uB q):=
 ⟨_,_,h.num,h.den,by rw [h.s,ni,Rat.mkRat_self],m_ q,na q⟩
theorem bG.UA {q:Rat} {w w':World} {e:Ending} (h:bG q w e w'): ∃r:cH,e= .returned (.agg #[.bool r.s,.slice r.a r.k r.c,.slice r.b r.j r.d])/\fQ w' r q w.heap.size/\Ext w w':=by
 obtain ⟨a,c,a',c',he,hr,hf,pS,hf',hx⟩:=h;exact ⟨⟨decide (q.num<0),a,len q.num.natAbs,c,a',len q.den,c'⟩,he,⟨rfl,rfl,rfl,hr,pS,hf,hf'⟩,hx⟩
theorem fQ.Ba {w w':World} {r:cH} {q:Rat} (h:fQ w' r q w.heap.size) (hx:Ext w w'):bG q w (.returned (.agg #[.bool r.s,.slice r.a r.k r.c,.slice r.b r.j r.d])) w':=by
 refine ⟨r.a,r.c,r.b,r.d,by rw [h.s,h.k,h.j],?_,h.fa,?_,h.fb,hx⟩
 .have:=h.num;rwa [h.k]at this
 .have:=h.den;rwa [h.j]at this
def kh:List Value:= [.bool false,.slice none 0 0,.slice none 0 0]
def gz:Nat->List Value
 |0=> []
 |n+1=>kh++gz n
theorem yJ (n:Nat):(gz n).length=n*3:=by
 induction n with
 |zero=>rfl
 |succ n ih=>unfold gz;rw [List.length_append,ih];simp [kh];omega
theorem Fh (n i:Nat) (h:i<n*3):(gz n)[i]?=kh[i % 3]?:=by
 induction n generalizing i with
 |zero=>omega
 |succ n ih=>
  unfold gz;by_cases hi:i<3
  .rw [List.getElem?_append_left (by simpa [kh]using hi),Nat.mod_eq_of_lt hi]
  .rw [List.getElem?_append_right (by simp [kh];omega)]
   have:kh.length=3:=rfl;rw [this,ih (i-3) ae];congr 1;omega
theorem vo (n:Nat):madeCells kh.toArray (n*3)=(gz n).toArray:=by
 apply Array.ext_getElem?;intro i;unfold madeCells;by_cases h:i<n*3
 .rw [Array.getElem?_map,Array.getElem?_range,List.getElem?_toArray,Fh n i h]
  simp only [h,if_true,Option.map_some];have h3:i % 3<3:=Nat.mod_lt _ aq;have hz:kh.toArray.size=3:=rfl;rw [hz];generalize i % 3=k at h3⊢;match k,h3 with
  |0,_=>rfl
  |1,_=>rfl
  |2,_=>rfl
 .rw [Array.getElem?_eq_none (by simp;omega),List.getElem?_toArray,List.getElem?_eq_none (by rw [yJ];omega)]
theorem Tryz.info_rat:(Tryz.prog.info? 92).map (λi=>(i.zero,i.size,i.bytes))=some (some (.agg kh.toArray),3,56):=ax
def gY (l:List cH):List Value:=l.flatMap cH.cells
theorem vp (l:List cH):(gY l).length=l.length*3:=by
 induction l with
 |nil=>rfl
 |cons r l ih=>simp only [gY,List.flatMap_cons,List.length_append,cH.cells,List.length_cons,List.length_nil]at*;omega
