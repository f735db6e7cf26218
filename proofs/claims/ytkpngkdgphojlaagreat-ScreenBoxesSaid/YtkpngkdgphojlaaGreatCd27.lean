/- Texts of the proof. -/
import Derived.Test.YtkpngkdgphojlaaGreatCd26
set_option linter.all false
set_option maxHeartbeats 4000000
set_option maxRecDepth 100000
namespace Go.Proofs.YtkpngkdgphojlaaGreat
open Go.Proofs.Tryz
open Go.RowKit
def jM (x y:Int):Int:=if x<y then-1 else if x=y then 0 else 1
theorem t_ {x y:Int} (h:x<y):jM x y= -1:=by unfold jM;rw [if_pos h]
theorem ub {x y:Int} (h:y<x):jM x y=1:=by unfold jM;rw [if_neg (by omega),if_neg (by omega)]
theorem EK {x y:Int} (h:x.sign<y.sign):x<y:=by
 rcases Int.lt_trichotomy x 0 with h1|h1|h1
 ·rcases Int.lt_trichotomy y 0 with h2|h2|h2
  ·rw [Int.sign_eq_neg_one_of_neg h1,Int.sign_eq_neg_one_of_neg h2]at h;omega
  ·omega
  ·omega
 ·subst h1
  rcases Int.lt_trichotomy y 0 with h2|h2|h2
  ·rw [Int.sign_eq_neg_one_of_neg h2]at h;simp at h
  ·subst h2;simp at h
  ·exact h2
 ·rcases Int.lt_trichotomy y 0 with h2|h2|h2
  ·rw [Int.sign_eq_one_of_pos h1,Int.sign_eq_neg_one_of_neg h2]at h;omega
  ·subst h2;rw [Int.sign_eq_one_of_pos h1]at h;simp at h
  ·rw [Int.sign_eq_one_of_pos h1,Int.sign_eq_one_of_pos h2]at h;omega
def kE (x y:Int) (w:World) (e:Ending) (w':World):Prop:= ∃a c a' c',e= .returned (.tuple #[.agg #[.bool (decide (x<0)),.slice a (len x.natAbs) c],.agg #[.bool (decide (y<0)),.slice a' (len y.natAbs) c'],.bool true])∧
 Raw w' a (len x.natAbs) c x.natAbs∧Fr w.heap.size a∧Raw w' a' (len y.natAbs) c' y.natAbs∧Fr w.heap.size a'∧Ext w w'
theorem kE.of {w W w2 w3:World} {s:Bool} {a a':Option Addr} {c c' n m:Nat} {x y:Int} (hx:x=bA s n) (hy:y=m) (h:Raw w2 a (len n) c n) (hf:Fr W.heap.size a) (h':Raw w2 a' (len m) c' m) (hf':Fr W.heap.size a') (hW:Ext w W) (h2:Ext W w2)
 (t:Touch w.heap.size W.heap.size w2 w3):kE x y w (.returned (.tuple #[.agg #[.bool (s&&decide (0<len n)),.slice a (len n) c],.agg #[.bool false,.slice a' (len m) c'],.bool true])) w3:=by
 subst hx;subst hy
 refine ⟨a,c,a',c',?_,?_,hf.mono hW.size,?_,hf'.mono hW.size,hW.bF h2 t⟩
 ·rw [cd,qi];simp only [mm,Int.natAbs_natCast]
  have:decide ((m:Int)<0)=false:=by simp
  rw [this]
 ·rw [cd];exact h.bF t hf.o
 ·rw [Int.natAbs_natCast];exact h'.bF t hf'.o
theorem rK {s t:Bool} {n m:Nat} (hm:0<m) (h:s=false∨n % m=0):bA s n/bA t m=bA (s !=t) (n/m)∧bA s n % bA t m=(n % m:Nat):=by
 have Oe:(m:Int)≠0:=by omega
 cases s
 ·cases t
  ·simp [bA]
  ·simp [bA,Int.ediv_neg,Int.emod_neg]
 ·have h0:n % m=0:=by simpa using h
  obtain ⟨q,rfl⟩: ∃q,n=m*q:=⟨n/m,by have:=Nat.div_add_mod n m;omega⟩;cases t
  ·simp only [bA];constructor
   ·simp [Nat.mul_div_cancel_left _ hm]
    rw [←Int.mul_neg,Int.mul_ediv_cancel_left _ Oe]
   ·simp
  ·simp only [bA];constructor
   ·simp [Nat.mul_div_cancel_left _ hm]
    rw [←Int.mul_neg,Int.mul_ediv_cancel_left _ Oe];omega
   ·simp
theorem wT {t:Bool} {n m:Nat} (hm:0<m) (h:0<n % m):bA true n/bA t m=bA (true !=t) (n/m+1)∧bA true n % bA t m=(m-n % m:Nat):=by
 have h1:=Nat.div_add_mod n m;have h2:=Nat.mod_lt n hm;have Oe:(0:Int)<(m:Int):=by omega
 have e:(-(n:Int))=(m:Int)*(-((n/m:Nat):Int)-1)+((m-n % m:Nat):Int):=by
  rw [Int.ofNat_sub (Nat.le_of_lt h2),Int.mul_sub,Int.mul_neg];have:(n:Int)=(m:Int)*((n/m:Nat):Int)+((n % m:Nat):Int):=by exact_mod_cast h1.symm
  rw [Int.mul_one];omega
 have q1:(-(n:Int))/(m:Int)= -((n/m:Nat):Int)-1:=by
  rw [e,Int.mul_add_ediv_left _ _ (by omega),Int.ediv_eq_zero_of_lt (by omega) (by omega)];omega
 have r1:(-(n:Int)) % (m:Int)=((m-n % m:Nat):Int):=by
  rw [e,Int.mul_add_emod_self_left,Int.emod_eq_of_lt (by omega) (by omega)]
 cases t
 ·simp only [bA];simp
  refine ⟨?_,?_⟩
  ·rw [q1];simp;omega
  ·rw [r1]
 ·simp only [bA];simp
  refine ⟨?_,?_⟩
  ·rw [q1];simp;omega
  ·rw [r1]
def Lp (s:Bool) (n m:Nat) (w:World) (e:Ending) (w':World):Prop:= ∃s1 a1 k1 c1 n1 b1 j1 d1 m1,e= .returned (.tuple #[.agg #[.bool s1,.slice a1 k1 c1],.slice b1 j1 d1])∧
 Raw w' a1 k1 c1 n1∧Raw w' b1 j1 d1 m1∧0<m1∧mkRat (bA s1 n1) m1=mkRat (bA s n) m∧len n1≤len n∧len m1≤len m+1∧Ext w w'
theorem EL (w:World):Raw (w.alloc (Obj.cells #[.int .u32 1] 185)) (some ⟨w.heap.size,0,none⟩) 1 1 1:=
 ⟨[1],rfl,rfl,(aJ.alloc w 185 (fN [1])).limbs (Small.one (by decide)) (by simp)⟩
theorem F8 (w:World) (s:Bool) (a b:Option Addr) (k c j d n m:Nat) (h:Raw w a k c n) (g:Raw w b j d m):
 Calls prog 159 #[.agg #[.bool s,.slice a k c,.slice b j d]] w (Lp s n m w):=by
 by_cases hm:m=0
 ·subst hm
  have hc:kt 0 0=0:=rfl;go_enter func159,ntmps159
  go_wp2_with fail
  obtain ⟨W,hW,x0,Z0,A0,A1⟩:=fu w 119 [.bool s,.slice a k c,.slice b j d] 117 [.bool false,.slice none 0 0];rw [←hW];clear hW;have aK:=aC A0 (Ext.refl _);have z0:=(A0.ext (Ext.refl _)).lt;obtain ⟨aT,bH,cM,cN⟩:=aG A1 (Ext.refl _);have z1:=(A1.ext (Ext.refl _)).lt;refine (jA _ _ _ _ _ _ _ _ _ (g.ext x0) (Raw.nil _)).mono ?_;rintro e w1 ⟨rfl,mZ⟩;rw [hc];have aK:=aC A0 mZ.ext;have z0:=(A0.ext mZ.ext).lt;obtain ⟨aT,bH,cM,cN⟩:=aG A1 mZ.ext;have z1:=(A1.ext mZ.ext).lt;go_wp2
  refine bodyPost_ret (v:= .tuple #[.agg #[.bool false,.slice none 0 0],.slice (some ⟨w1.heap.size,0,none⟩) 1 1]) (by simp [results,results159,go_sem,aT,bH,z1]) rfl ?_;refine ⟨false,none,0,0,0,some ⟨w1.heap.size,0,none⟩,1,1,1,rfl,Raw.nil _,?_,by omega,by simp [bA],by rw [uh];omega,by rw [qP];omega,?_⟩
  ·have:=EL ((w1.setCell ⟨w.heap.size+1,0,none⟩ (.bool false)).setCell ⟨w.heap.size+1,1,none⟩ (.slice none 0 0));simpa using this
  ·refine Ext.alloc (Ext.setCell (Ext.setCell (x0.trans mZ.ext) ?_ _) ?_ _) _<;>simp
 ·have hc:kt m 0=1:=by unfold kt;rw [if_neg (by omega),if_neg hm]
  have HC:=ae hc;clear hc
  go_enter func159,ntmps159
  go_wp2_with fail
  obtain ⟨W,hW,x0,Z0,A0,A1⟩:=fu w 119 [.bool s,.slice a k c,.slice b j d] 117 [.bool false,.slice none 0 0];rw [←hW];clear hW;have aK:=aC A0 (Ext.refl _);have z0:=(A0.ext (Ext.refl _)).lt;obtain ⟨aT,bH,cM,cN⟩:=aG A1 (Ext.refl _);have z1:=(A1.ext (Ext.refl _)).lt;refine (jA _ _ _ _ _ _ _ _ _ (g.ext x0) (Raw.nil _)).mono ?_;rintro e w1 ⟨rfl,mZ⟩;rw [HC.o];have aK:=aC A0 mZ.ext;have z0:=(A0.ext mZ.ext).lt;obtain ⟨aT,bH,cM,cN⟩:=aG A1 mZ.ext;have z1:=(A1.ext mZ.ext).lt;go_wp2
  go_region
  go_wp2
  refine bodyPost_ret (v:= .tuple #[.agg #[.bool s,.slice a k c],.slice b j d]) (by simp [results,results159,go_sem,aT,bH]) rfl ?_;have hx:Ext w ((w1.setCell ⟨w.heap.size+1,0,none⟩ (.bool s)).setCell ⟨w.heap.size+1,1,none⟩ (.slice a k c)).drew:=(((x0.trans mZ.ext).setCell (by simp) _).setCell (by simp) _).drew;exact ⟨s,a,k,c,n,b,j,d,m,rfl,h.ext hx,g.ext hx,by omega,rfl,Nat.le_refl _,by omega,hx⟩
def Lq (s:Bool) (n m:Nat) (w:World) (e:Ending) (w':World):Prop:= ∃(x:Int) (y:Nat),e= .returned (.tuple #[.int .i64 x,.int .i64 (y:Nat),.bool true])∧
 -2147483648<x∧x<2147483648∧0<y∧y<2147483648∧mkRat x y=mkRat (bA s n) m∧Ext w w'
theorem jg (w:World) (s:Bool) (a b:Option Addr) (k c j d n m:Nat) (h:Raw w a k c n) (g:Raw w b j d m) (hn:n<2147483648) (hm:m<2147483648):
 Calls prog 157 #[.agg #[.bool s,.slice a k c,.slice b j d]] w (Lq s n m w):=by
 have dn:decide ((2147483648:Int)≤(n:Int))=false:=decide_eq_false (by omega);have dm:decide ((2147483648:Int)≤(m:Int))=false:=decide_eq_false (by omega);have hn3:n<3000000000:=by omega
 have hm3:m<3000000000:=by omega
 have HN:=ae hn;have HM:=ae hm;clear hn hm
 by_cases h0:m=0
 ·subst h0
  go_enter func157,ntmps157
  go_wp2_with fail
  refine (fz _ _ _ _ _ (h.ext ((Ext.refl _).alloc _)) (by have:=HN.o;omega)).mono ?_;rintro e w1 ⟨rfl,rfl⟩;go_wp2_with fail
  refine (fz _ _ _ _ _ (g.ext ((Ext.refl _).alloc _)) (by have:=HM.o;omega)).mono ?_;rintro e w1 ⟨rfl,rfl⟩;go_wp2
  go_ret3
  exact ⟨0,1,rfl,by omega,by omega,by omega,by omega,by simp,(Ext.refl _).alloc _⟩
 ·have Sq:((m:Int)==0)=false:=by rw [beq_eq_false_iff_ne];omega
  cases s
  ·go_enter func157,ntmps157
   go_wp2_with fail
   refine (fz _ _ _ _ _ (h.ext ((Ext.refl _).alloc _)) (by have:=HN.o;omega)).mono ?_;rintro e w1 ⟨rfl,rfl⟩;go_wp2_with fail
   refine (fz _ _ _ _ _ (g.ext ((Ext.refl _).alloc _)) (by have:=HM.o;omega)).mono ?_;rintro e w1 ⟨rfl,rfl⟩;go_wp2
   go_ret3
   have hn:=HN.o;have hm:=HM.o
   exact ⟨n,m,rfl,by omega,by omega,by omega,by omega,rfl,(Ext.refl _).alloc _⟩
  ·go_enter func157,ntmps157
   go_wp2_with fail
   refine (fz _ _ _ _ _ (h.ext ((Ext.refl _).alloc _)) (by have:=HN.o;omega)).mono ?_;rintro e w1 ⟨rfl,rfl⟩;go_wp2_with fail
   refine (fz _ _ _ _ _ (g.ext ((Ext.refl _).alloc _)) (by have:=HM.o;omega)).mono ?_;rintro e w1 ⟨rfl,rfl⟩;go_wp2
   go_ret3
   have hn:=HN.o;have hm:=HM.o
   exact ⟨-(n:Int),m,rfl,by omega,by omega,by omega,by omega,rfl,(Ext.refl _).alloc _⟩
theorem kQ (x:Int) (y:Nat) (h:0<y):decide ((mkRat x y).num<0)=decide (x<0):=by
 rw [Rat.num_mkRat,if_neg (by omega)];have hg:(0:Int)<(Nat.gcd y x.natAbs:Nat):=by have:=Nat.gcd_pos_of_pos_left x.natAbs h;omega
 have:x/(Nat.gcd y x.natAbs:Nat)<0↔x<0:=by
  constructor
  ·intro h1
   apply Int.not_le.1;intro h2
   have:=Int.ediv_nonneg h2 (Int.le_of_lt hg);omega
  ·intro h1;exact Int.ediv_neg_of_neg_of_pos h1 hg
 simp only [this]
theorem bn.BF {w W w2 w3:World} {a a':Option Addr} {c c':Nat} {q:Rat} {n m:Nat} {s:Bool} (hn:q.num.natAbs=n) (hm:q.den=m) (hs:decide (q.num<0)=s)
 (h:Raw w2 a (len n) c n) (hf:Fr W.heap.size a) (h':Raw w2 a' (len m) c' m) (hf':Fr W.heap.size a') (hW:Ext w W) (h2:Ext W w2)
 (t:Touch w.heap.size W.heap.size w2 w3):bn q w (.returned (.agg #[.bool s,.slice a (len n) c,.slice a' (len m) c'])) w3:=by
 subst hn;subst hm;subst hs
 exact ⟨a,c,a',c',rfl,h.bF t hf.o,hf.mono hW.size,h'.bF t hf'.o,hf'.mono hW.size,hW.bF h2 t⟩
theorem I5 (x:Int) (h1: -9223372036854775808<x) (h2:x<0):IntKind.u64.wrap (-IntKind.u64.wrap x)=((x.natAbs:Nat):Int):=by
 rw [IntKind.wrap_u64,IntKind.wrap_u64];omega
theorem I6 (x:Int) (h1:x<9223372036854775808) (h2: ¬x<0):IntKind.u64.wrap x=((x.natAbs:Nat):Int):=by
 rw [IntKind.wrap_u64];omega
theorem rL (w:World) (x:Int) (y:Nat) (hx1: -9223372036854775808<x) (hx2:x<0) (Kr:0<y) (hy:y<9223372036854775808):
 Calls prog 189 #[.int .i64 x,.int .i64 (y:Nat)] w (bn (mkRat x y) w):=by
 have ew:=I5 x hx1 hx2;go_enter func189,ntmps189
 go_wp2
 obtain ⟨W,hW,x0,Z0,A0⟩:=aH w 119 [.bool false,.slice none 0 0,.slice none 0 0];rw [←hW];clear hW;obtain ⟨aK,bf,dE,bN,bO,fG⟩:=aC A0 (Ext.refl _);have z0:=(A0.ext (Ext.refl _)).lt;go_loopw [6,7] (fun gg rr wr=> ∃(p r:Nat),0<p∧p<9223372036854775808∧r<9223372036854775808∧Hid (Nat.gcd p r=Nat.gcd y x.natAbs)∧Quiet W wr∧gg= .int .u64 p∧rr= .int .u64 r) (fun _ rr _=>(intOf rr).toNat)
 case atStart=>exact ⟨y,x.natAbs,by omega,by omega,by omega,rfl,Quiet.refl _,rfl,rfl⟩
 case round=>
  obtain ⟨p,r,Uq,hp,hr,hg,hq,rfl,rfl⟩:=hrel;by_cases Sr:r=0
  ·subst Sr
   have Ss:p=Nat.gcd y x.natAbs:=by have:=hg.o;rwa [Nat.gcd_zero_right]at this
   have q1:=gA x y Kr;have q2:=lM x y Kr;have q3:=kQ x y Kr;rw [←Ss]at q1 q2;have l1:x.natAbs/p≤x.natAbs:=Nat.div_le_self _ _;have l2:y/p≤y:=Nat.div_le_self _ _
   have e1:IntKind.u64.wrap (((x.natAbs:Nat):Int)/(p:Int))=((x.natAbs/p:Nat):Int):=by
    rw [IntKind.wrap_u64,←Int.natCast_ediv];generalize x.natAbs/p=z at*;omega
   have e2:IntKind.u64.wrap ((y:Int)/(p:Int))=((y/p:Nat):Int):=by
    rw [IntKind.wrap_u64,←Int.natCast_ediv];generalize y/p=z at*;omega
   have UT:((x.natAbs:Nat):Int)/(p:Int)=((x.natAbs/p:Nat):Int):=(Int.natCast_ediv _ _).symm;have XP:(y:Int)/(p:Int)=((y/p:Nat):Int):=(Int.natCast_ediv _ _).symm
   have XQ:IntKind.u64.wrap ((x.natAbs/p:Nat):Int)=((x.natAbs/p:Nat):Int):=by
    rw [IntKind.wrap_u64];generalize x.natAbs/p=z at*;omega
   have XR:IntKind.u64.wrap ((y/p:Nat):Int)=((y/p:Nat):Int):=by
    rw [IntKind.wrap_u64];generalize y/p=z at*;omega
   have b1:x.natAbs/p<18446744073709551616:=by omega
   have b2:y/p<18446744073709551616:=by omega
   clear Ss hg l1 l2;generalize x.natAbs/p=u at*;generalize y/p=v at*;generalize hQ:mkRat x y=Q at*;have Q1:=ae q1;have Q2:=ae q2;have Q3:=ae q3;have HQ:=ae hQ
   clear q1 q2 q3 hQ;have hpi:((p:Int)==0)=false:=by rw [beq_eq_false_iff_ne];omega
   have h1p:(1:Int)≤(p:Int):=by omega
   have XS:((p:Nat):Int)≠0:=by omega
   obtain ⟨aK,bf,dE,bN,bO,fG⟩:=aC A0 hq.ext;have z0:=(A0.ext hq.ext).lt;have lB:True:=trivial;go_wp2
   go_region_with (first
    |(go_at_call 184;have _t:=lB;refine (fC _ _ (by assumption)).mono ?_;rintro e w1 ⟨a1,c1,rfl,hr1,pA,hx3⟩;clear lB _t;obtain ⟨aK,bf,dE,bN,bO,fG⟩:=aC A0 ((hq.ext.drew).trans hx3);have z0:=(A0.ext ((hq.ext.drew).trans hx3)).lt)
    |(go_at_call 184;refine (fC _ _ (by assumption)).mono ?_;rintro e w2 ⟨a2,c2,rfl,hr2,hf2,j8⟩;obtain ⟨aK,bf,dE,bN,bO,fG⟩:=aC A0 (((hq.ext.drew).trans hx3).trans j8);have z0:=(A0.ext (((hq.ext.drew).trans hx3).trans j8)).lt))
   all_goals go_wp2
   all_goals exact bodyPost_ret (by simp [results,results189,go_sem,aK,bf,dE,hx2]) rfl (bn.BF (s:=decide (x<0)) Q1.o Q2.o Q3.o (hr1.ext j8) (pA.mono hq.ext.size) hr2 (hf2.mono (Nat.le_trans hq.ext.size hx3.size)) x0 ((hq.ext.drew.trans hx3).trans j8) (Touch.three _ (Nat.le_refl _) (by rw [Z0.o];omega) _ _ _))
  ·have hrb:(((r:Nat):Int) !=0)=true:=by rw [bne_iff_ne];omega
   have e3:(p:Int).tmod (r:Int)=((p % r:Nat):Int):=by rw [Int.tmod_eq_emod_of_nonneg (by omega),Int.natCast_emod]
   have Su:((r:Int)==0)=false:=by rw [beq_eq_false_iff_ne];omega
   have h1r:(1:Int)≤(r:Int):=by omega
   have hlt:=Nat.mod_lt p (Nat.pos_of_ne_zero Sr);have Sv:Nat.gcd r (p % r)=Nat.gcd p r:=by rw [Nat.gcd_comm r,←Nat.gcd_rec,Nat.gcd_comm]
   have HG:=ae Sv;clear Sv
   go_wp2
   go_quiet (fail)
   go_wp2
   go_roundw
   case rel=>exact ⟨r,p % r,by omega,by omega,by omega,HG.o.trans hg.o,hq.drewN _,rfl,rfl⟩
   case measure=>simp [intOf];omega
theorem rM (w:World) (x:Int) (y:Nat) (hx1:x<9223372036854775808) (hx2: ¬x<0) (Kr:0<y) (hy:y<9223372036854775808):
 Calls prog 189 #[.int .i64 x,.int .i64 (y:Nat)] w (bn (mkRat x y) w):=by
 have ew:=I6 x hx1 hx2;go_enter func189,ntmps189
 go_wp2
 obtain ⟨W,hW,x0,Z0,A0⟩:=aH w 119 [.bool false,.slice none 0 0,.slice none 0 0];rw [←hW];clear hW;obtain ⟨aK,bf,dE,bN,bO,fG⟩:=aC A0 (Ext.refl _);have z0:=(A0.ext (Ext.refl _)).lt;go_loopw [6,7] (fun gg rr wr=> ∃(p r:Nat),0<p∧p<9223372036854775808∧r<9223372036854775808∧Hid (Nat.gcd p r=Nat.gcd y x.natAbs)∧Quiet W wr∧gg= .int .u64 p∧rr= .int .u64 r) (fun _ rr _=>(intOf rr).toNat)
 case atStart=>exact ⟨y,x.natAbs,by omega,by omega,by omega,rfl,Quiet.refl _,rfl,rfl⟩
 case round=>
  obtain ⟨p,r,Uq,hp,hr,hg,hq,rfl,rfl⟩:=hrel;by_cases Sr:r=0
  ·subst Sr
   have Ss:p=Nat.gcd y x.natAbs:=by have:=hg.o;rwa [Nat.gcd_zero_right]at this
   have q1:=gA x y Kr;have q2:=lM x y Kr;have q3:=kQ x y Kr;rw [←Ss]at q1 q2;have l1:x.natAbs/p≤x.natAbs:=Nat.div_le_self _ _;have l2:y/p≤y:=Nat.div_le_self _ _
   have e1:IntKind.u64.wrap (((x.natAbs:Nat):Int)/(p:Int))=((x.natAbs/p:Nat):Int):=by
    rw [IntKind.wrap_u64,←Int.natCast_ediv];generalize x.natAbs/p=z at*;omega
   have e2:IntKind.u64.wrap ((y:Int)/(p:Int))=((y/p:Nat):Int):=by
    rw [IntKind.wrap_u64,←Int.natCast_ediv];generalize y/p=z at*;omega
   have UT:((x.natAbs:Nat):Int)/(p:Int)=((x.natAbs/p:Nat):Int):=(Int.natCast_ediv _ _).symm;have XP:(y:Int)/(p:Int)=((y/p:Nat):Int):=(Int.natCast_ediv _ _).symm
   have XQ:IntKind.u64.wrap ((x.natAbs/p:Nat):Int)=((x.natAbs/p:Nat):Int):=by
    rw [IntKind.wrap_u64];generalize x.natAbs/p=z at*;omega
   have XR:IntKind.u64.wrap ((y/p:Nat):Int)=((y/p:Nat):Int):=by
    rw [IntKind.wrap_u64];generalize y/p=z at*;omega
   have b1:x.natAbs/p<18446744073709551616:=by omega
   have b2:y/p<18446744073709551616:=by omega
   clear Ss hg l1 l2;generalize x.natAbs/p=u at*;generalize y/p=v at*;generalize hQ:mkRat x y=Q at*;have Q1:=ae q1;have Q2:=ae q2;have Q3:=ae q3;have HQ:=ae hQ
   clear q1 q2 q3 hQ;have hpi:((p:Int)==0)=false:=by rw [beq_eq_false_iff_ne];omega
   have h1p:(1:Int)≤(p:Int):=by omega
   have XS:((p:Nat):Int)≠0:=by omega
   obtain ⟨aK,bf,dE,bN,bO,fG⟩:=aC A0 hq.ext;have z0:=(A0.ext hq.ext).lt;have lB:True:=trivial;go_wp2
   go_region_with (first
    |(go_at_call 184;have _t:=lB;refine (fC _ _ (by assumption)).mono ?_;rintro e w1 ⟨a1,c1,rfl,hr1,pA,hx3⟩;clear lB _t;obtain ⟨aK,bf,dE,bN,bO,fG⟩:=aC A0 ((hq.ext.drew).trans hx3);have z0:=(A0.ext ((hq.ext.drew).trans hx3)).lt)
    |(go_at_call 184;refine (fC _ _ (by assumption)).mono ?_;rintro e w2 ⟨a2,c2,rfl,hr2,hf2,j8⟩;obtain ⟨aK,bf,dE,bN,bO,fG⟩:=aC A0 (((hq.ext.drew).trans hx3).trans j8);have z0:=(A0.ext (((hq.ext.drew).trans hx3).trans j8)).lt))
   all_goals go_wp2
   all_goals exact bodyPost_ret (by simp [results,results189,go_sem,aK,bf,dE]) rfl (bn.BF (s:=decide (x<0)) Q1.o Q2.o Q3.o (hr1.ext j8) (pA.mono hq.ext.size) hr2 (hf2.mono (Nat.le_trans hq.ext.size hx3.size)) x0 ((hq.ext.drew.trans hx3).trans j8) (Touch.three _ (Nat.le_refl _) (by rw [Z0.o];omega) _ _ _))
  ·have hrb:(((r:Nat):Int) !=0)=true:=by rw [bne_iff_ne];omega
   have e3:(p:Int).tmod (r:Int)=((p % r:Nat):Int):=by rw [Int.tmod_eq_emod_of_nonneg (by omega),Int.natCast_emod]
   have Su:((r:Int)==0)=false:=by rw [beq_eq_false_iff_ne];omega
   have h1r:(1:Int)≤(r:Int):=by omega
   have hlt:=Nat.mod_lt p (Nat.pos_of_ne_zero Sr);have Sv:Nat.gcd r (p % r)=Nat.gcd p r:=by rw [Nat.gcd_comm r,←Nat.gcd_rec,Nat.gcd_comm]
   have HG:=ae Sv;clear Sv
   go_wp2
   go_quiet (fail)
   go_wp2
   go_roundw
   case rel=>exact ⟨r,p % r,by omega,by omega,by omega,HG.o.trans hg.o,hq.drewN _,rfl,rfl⟩
   case measure=>simp [intOf];omega
theorem mv (w:World) (x:Int) (y:Nat) (h1: -9223372036854775808<x) (h2:x<9223372036854775808) (Kr:0<y) (hy:y<9223372036854775808):
 Calls prog 189 #[.int .i64 x,.int .i64 (y:Nat)] w (bn (mkRat x y) w):=by
 by_cases h:x<0
 ·exact rL w x y h1 h Kr hy
 ·exact rM w x y h2 h Kr hy
theorem Ext.F9 {a w:World} (h:Ext a w) {b:Nat} (hb:a.heap.size≤b) (v0 v1 v2:Value):Ext a (((w.setCell ⟨b,0,none⟩ v0).setCell ⟨b,1,none⟩ v1).setCell ⟨b,2,none⟩ v2):=((h.setCell hb _).setCell hb _).setCell hb _
theorem Ext.BG {a w:World} (h:Ext a w) {b:Nat} (hb:a.heap.size≤b) (v0 v1:Value):Ext a ((w.setCell ⟨b,0,none⟩ v0).setCell ⟨b,1,none⟩ v1):=(h.setCell hb _).setCell hb _
theorem nE (w:World) (s:Bool) (a b:Option Addr) (k c j d n m:Nat) (h:Raw w a k c n) (g:Raw w b j d m) (hn:n<2147483648) (hm:m<2147483648):
 Calls prog 162 #[.agg #[.bool s,.slice a k c,.slice b j d]] w (bn (mkRat (bA s n) m) w):=by
 have HN:=ae hn;have HM:=ae hm;clear hn hm
 go_enter func162,ntmps162
 go_wp2_with fail
 obtain ⟨W,hW,x0,Z0,A0,A1⟩:=fu w 119 [.bool s,.slice a k c,.slice b j d] 119 [.bool false,.slice none 0 0,.slice none 0 0];rw [←hW];clear hW;have aK:=aC A0 (Ext.refl _);have z0:=(A0.ext (Ext.refl _)).lt;have aT:=aC A1 (Ext.refl _);have z1:=(A1.ext (Ext.refl _)).lt;refine (jg _ _ _ _ _ _ _ _ _ _ (h.ext x0) (g.ext x0) HN.o HM.o).mono ?_;rintro e w1 ⟨x,y,rfl,hx1,hx2,XT,hy2,nN,hx⟩;have Og:=ae nN;clear nN
 have aK:=aC A0 hx;have z0:=(A0.ext hx).lt;have aT:=aC A1 hx;have z1:=(A1.ext hx).lt;go_wp2_with fail
 refine (mv _ _ _ (by omega) (by omega) XT (by omega)).mono ?_;intro e wz hN;rw [Og.o]at hN;obtain ⟨az,cz,UU,UX,rfl,UY,BH,Lr,Ls,oJ⟩:=id hN;have aK:=aC A0 (hx.trans oJ);have z0:=(A0.ext (hx.trans oJ)).lt;have aT:=aC A1 (hx.trans oJ);have z1:=(A1.ext (hx.trans oJ)).lt;go_wp2
 exact bodyPost_ret (by simp [results,results162,go_sem, *]) rfl (bn.bF (hN.base hx) x0 (Touch.three _ (by omega) (by rw [Z0.o];omega) _ _ _))
theorem sU (w:World) (v:Int) (h1: -9223372036854775808≤v) (h2:v≤9223372036854775807):
 Calls prog 106 #[.int .i64 v] w (bn (v:Rat) w):=by
 go_enter func106,ntmps106
 go_wp2_with fail
 obtain ⟨W,hW,x0,Z0,A0⟩:=aH w 119 [.bool false,.slice none 0 0,.slice none 0 0];rw [←hW];clear hW;have aK:=aC A0 (Ext.refl _);have z0:=(A0.ext (Ext.refl _)).lt;refine (BD _ _ h1 h2).mono ?_;rintro e w1 ⟨a1,c1,rfl,hr1,pA,hx1⟩;have aK:=aC A0 hx1;have z0:=(A0.ext hx1).lt;go_wp2
 refine bodyPost_ret (v:= .agg #[.bool (decide (v<0)),.slice a1 (len v.natAbs) c1,.slice (some ⟨w1.heap.size,0,none⟩) 1 1]) (by simp [results,results106,go_sem, *]) rfl ?_;have R:=EL (((w1.setCell ⟨w.heap.size,0,none⟩ (.bool (decide (v<0)))).setCell ⟨w.heap.size,1,none⟩ (.slice a1 (len v.natAbs) c1)).setCell ⟨w.heap.size,2,none⟩ (.slice (some ⟨w1.heap.size,0,none⟩) 1 1));have E:=Ext.F9 (x0.trans hx1) (Nat.le_refl w.heap.size) (.bool (decide (v<0))) (.slice a1 (len v.natAbs) c1) (.slice (some ⟨w1.heap.size,0,none⟩) 1 1);refine ⟨a1,c1,some ⟨w1.heap.size,0,none⟩,1,?_,?_,pA.mono x0.size,?_,Fr.some (x0.trans hx1).size,E.alloc _⟩
 ·rw [Rat.num_intCast,Rat.den_intCast,qP]
 ·rw [Rat.num_intCast]
  exact (hr1.bF (Touch.three (lo:=w.heap.size) (hi:=W.heap.size) _ (Nat.le_refl _) (by rw [Z0.o];omega) _ _ _) pA.o).ext ((Ext.refl _).alloc _)
 ·rw [Rat.den_intCast,qP];simpa using R
theorem vo (x:Int) (y:Nat) (h:0<y):(mkRat x y).num.sign=x.sign:=by
 have hg:(0:Int)<(Nat.gcd y x.natAbs:Nat):=by have:=Nat.gcd_pos_of_pos_left x.natAbs h;omega
 have hd:((Nat.gcd y x.natAbs:Nat):Int)∣x:=Int.ofNat_dvd_left.2 (Nat.gcd_dvd_right _ _);rw [Rat.num_mkRat,if_neg (by omega)];obtain ⟨z,hz⟩:=hd;generalize ((Nat.gcd y x.natAbs:Nat):Int)=G at*;subst hz;rw [Int.mul_ediv_cancel_left _ (by omega),Int.sign_mul,Int.sign_eq_one_of_pos hg,Int.one_mul]
theorem iW (w:World) (s:Bool) (a b:Option Addr) (k c j d n m:Nat) (h:Raw w a k c n) (g:Raw w b j d m):
 Calls prog 156 #[.agg #[.bool s,.slice a k c,.slice b j d]] w fun e w'=>e= .returned (.int .i64 (mkRat (bA s n) m).num.sign)∧Ext w w':=by
 go_enter func156,ntmps156
 go_wp2_with fail
 obtain ⟨W,hW,x0,Z0,A0⟩:=aH w 119 [.bool s,.slice a k c,.slice b j d];rw [←hW];clear hW;have aK:=aC A0 (Ext.refl _);have z0:=(A0.ext (Ext.refl _)).lt;refine (F8 _ _ _ _ _ _ _ _ _ _ (h.ext x0) (g.ext x0)).mono ?_;rintro e w1 ⟨s1,a1,k1,c1,n1,e1,j1,d1,m1,rfl,h1,g1,Cz,hv,l1,l2,hx1⟩;have HV:=ae hv;clear hv
 go_wp2_with fail
 refine (I4 _ _ _ _ _ _ (h1.ext ((Ext.refl _).alloc _))).mono ?_;rintro e w2 ⟨rfl,hx2⟩;go_wp2
 go_ret;exact ⟨cS (by rw [←HV.o,vo _ _ Cz]),((x0.trans hx1).alloc _).trans hx2⟩
theorem Raw.Oh {w1 w:World} {a:Option Addr} {k c n:Nat} (h:Raw w1 a k c n) (h2:Raw w a k c n) (p:Addr) (v:Value) (hp:w1.heap.size≤p.block):Raw (w.setCell p v) a k c n:=by
 obtain ⟨l,e1,e2,hl⟩:=h2;obtain ⟨l',UT,_,hl'⟩:=h;refine ⟨l,e1,e2,hl.le,hl.cap,hl.short,hl.GJ,hl.small,fun i hi=> ?_⟩;obtain ⟨b,o,ha,hc⟩:=hl.cell i hi;obtain ⟨b',o',ha',hc'⟩:=hl'.cell i (by omega);refine ⟨b,o,ha,?_⟩;rw [ha]at ha';cases ha'
 have:=bm hc';rw [World.cell?_setCell_other _ _ _ _ (by intro e;rw [e]at hp;simp only at this hp;omega)];exact hc
theorem jY (z:Int):bA (decide (z<0)) z.natAbs=z:=by
 unfold bA;by_cases h:z<0<;>simp [h]<;>omega
theorem lC {x1 x2:Int} (h1: -2147483648<x1) (h2:x1<2147483648) (h3: -2147483648<x2) (h4:x2<2147483648): -4611686018427387904≤x1*x2∧x1*x2≤4611686018427387904:=by
 have e:(x1*x2).natAbs≤2147483648*2147483648:=by rw [Int.natAbs_mul];exact Nat.mul_le_mul (by omega) (by omega)
 omega
theorem oK {y1 y2:Nat} (h1:0<y1) (h2:y1<2147483648) (h3:0<y2) (h4:y2<2147483648):0<y1*y2∧y1*y2≤4611686018427387904:=by
 have e:y1*y2≤2147483648*2147483648:=Nat.mul_le_mul (by omega) (by omega);exact ⟨Nat.mul_pos h1 h3,by omega⟩
theorem ud (n m:Nat):len (n*m)≤len n+len m:=by
 rw [cj,Nat.pow_add];exact Nat.mul_lt_mul'' (i9 n) (i9 m)
theorem Lt (n m:Nat):len (n+m)≤max (len n) (len m)+1:=by
 rw [cj,Nat.pow_succ];have h1:n<4294967296^(max (len n) (len m)):=cj.1 (Nat.le_max_left _ _);have h2:m<4294967296^(max (len n) (len m)):=cj.1 (Nat.le_max_right _ _);omega
theorem wU (w:World) (s:Bool) (a b:Option Addr) (k c j d n m:Nat) (h:Raw w a k c n) (g:Raw w b j d m) (s':Bool) (a' b':Option Addr) (k' c' j' d' n' m':Nat) (h':Raw w a' k' c' n') (g':Raw w b' j' d' m') (hn:n<2147483648) (hm:m<2147483648) (L_:n'<2147483648) (Oi:m'<2147483648):
 Calls prog 177 #[.agg #[.bool s,.slice a k c,.slice b j d],.agg #[.bool s',.slice a' k' c',.slice b' j' d']] w (bn (mkRat (bA s n) m*mkRat (bA s' n') m') w):=by
 have HN:=ae hn;have HM:=ae hm;have XU:=ae L_;have HM':=ae Oi;clear hn hm L_ Oi
 go_enter func177,ntmps177
 go_wp2_with fail
 obtain ⟨W,hW,x0,Z0,A0,A1,A2⟩:=eT w 119 [.bool s,.slice a k c,.slice b j d] 119 [.bool s',.slice a' k' c',.slice b' j' d'] 119 [.bool false,.slice none 0 0,.slice none 0 0];rw [←hW];clear hW;have aK:=aC A0 (Ext.refl _);have z0:=(A0.ext (Ext.refl _)).lt;have aT:=aC A1 (Ext.refl _);have z1:=(A1.ext (Ext.refl _)).lt;have bD:=aC A2 (Ext.refl _);have z2:=(A2.ext (Ext.refl _)).lt;refine (jg _ _ _ _ _ _ _ _ _ _ (h.ext x0) (g.ext x0) HN.o HM.o).mono ?_;rintro e w1 ⟨x,y,rfl,hx1,hx2,XT,hy2,nN,hx⟩;have Og:=ae nN;clear nN
 have aK:=aC A0 hx;have z0:=(A0.ext hx).lt;have aT:=aC A1 hx;have z1:=(A1.ext hx).lt;have bD:=aC A2 hx;have z2:=(A2.ext hx).lt;go_wp2_with fail
 refine (jg _ _ _ _ _ _ _ _ _ _ ((h'.ext x0).ext hx) ((g'.ext x0).ext hx) XU.o HM'.o).mono ?_;rintro e w2 ⟨x',y',rfl,XW,XX,XY,XZ,BI,jP⟩;have I7:=ae BI;clear BI
 have aK:=aC A0 (hx.trans jP);have z0:=(A0.ext (hx.trans jP)).lt;have aT:=aC A1 (hx.trans jP);have z1:=(A1.ext (hx.trans jP)).lt;have bD:=aC A2 (hx.trans jP);have z2:=(A2.ext (hx.trans jP)).lt;obtain ⟨m1,m2⟩:=lC hx1 hx2 XW XX;obtain ⟨m3,m4⟩:=oK XT hy2 XY XZ;have m3':0<(y:Int)*(y':Int):=by rw [←Int.natCast_mul];omega
 have m4':(y:Int)*(y':Int)≤4611686018427387904:=by rw [←Int.natCast_mul];omega
 go_wp2_with fail
 rw [←Int.natCast_mul];refine (mv _ _ _ (by omega) (by omega) m3 (by omega)).mono ?_;intro e wz hN;rw [←Rat.mkRat_mul_mkRat,Og.o,I7.o]at hN;obtain ⟨az,cz,UU,UX,rfl,UY,BH,Lr,Ls,oJ⟩:=id hN;have aK:=aC A0 ((hx.trans jP).trans oJ);have z0:=(A0.ext ((hx.trans jP).trans oJ)).lt;have aT:=aC A1 ((hx.trans jP).trans oJ);have z1:=(A1.ext ((hx.trans jP).trans oJ)).lt;have bD:=aC A2 ((hx.trans jP).trans oJ);have z2:=(A2.ext ((hx.trans jP).trans oJ)).lt;go_wp2
 exact bodyPost_ret (by simp [results,results177,go_sem, *]) rfl (bn.bF (hN.base (hx.trans jP)) x0 (Touch.three _ (by omega) (by rw [Z0.o];omega) _ _ _))
def i6 (p q:Rat):Int:=jM (p.num*q.den) (q.num*p.den)
theorem ue {p q:Rat}:i6 p q<0↔p<q:=by
 rw [Rat.lt_iff];unfold i6 jM;split
 ·simp [*]
 ·split<;>simp [*]
theorem zj {p q:Rat}:0<i6 p q↔q<p:=by
 rw [Rat.lt_iff];unfold i6 jM;split
 ·simp;omega
 ·split
  ·simp;omega
  ·simp;omega
theorem n9 {p q:Rat}:i6 p q=0↔p=q:=by
 rw [Rat.eq_iff_mul_eq_mul];unfold i6 jM;split
 ·simp;omega
 ·split
  ·simp [*]
  ·simp [*]
theorem my (p q:Rat):i6 p q= -1∨i6 p q=0∨i6 p q=1:=by
 unfold i6 jM;split
 ·simp
 ·split<;>simp
theorem Dz (a b c:Int) (h:0<c):jM (a*c) (b*c)=jM a b:=by
 unfold jM;by_cases h1:a<b
 ·rw [if_pos h1,if_pos (Int.mul_lt_mul_of_pos_right h1 h)]
 ·have h2: ¬a*c<b*c:=fun hh=>h1 (Int.lt_of_mul_lt_mul_right hh (Int.le_of_lt h))
  rw [if_neg h1,if_neg h2];by_cases h3:a=b
  ·rw [if_pos h3,if_pos (by rw [h3])]
  ·rw [if_neg h3,if_neg (fun hh=>h3 (Int.eq_of_mul_eq_mul_right (by omega) hh))]
theorem qj (x:Int) (y:Nat) (h:0<y): ∃g:Nat,0<g∧x=(mkRat x y).num*g∧y=(mkRat x y).den*g:=by
 obtain ⟨g,h1,h2,h3⟩:=Rat.mkRat_num_den (n:=x) (d:=y) (by omega) (n':=(mkRat x y).num) (d':=(mkRat x y).den) (z':=(mkRat x y).den_nz) (c:=(mkRat x y).reduced) rfl;exact ⟨g,by omega,h2,h3⟩
theorem DA (x x':Int) (y y':Nat) (h:0<y) (h':0<y'):i6 (mkRat x y) (mkRat x' y')=jM (x*y') (x'*y):=by
 obtain ⟨g,g0,e1,e2⟩:=qj x y h;obtain ⟨g',g0',UT,XP⟩:=qj x' y' h';generalize mkRat x y=p at*;generalize mkRat x' y'=q at*;subst e1 e2 UT XP;unfold i6;rw [←Dz _ _ ((g:Int)*(g':Int)) (Int.mul_pos (by omega) (by omega))];congr 1
 ·rw [Int.natCast_mul];simp only [Int.mul_assoc,Int.mul_left_comm,Int.mul_comm]
 ·rw [Int.natCast_mul];simp only [Int.mul_assoc,Int.mul_left_comm,Int.mul_comm]
theorem ql (x:Int) (d:Nat) (h:0<d):(x*(d:Int)).sign=x.sign:=by
 have hd:(0:Int)<(d:Int):=by omega
 rw [Int.sign_mul,Int.sign_eq_one_of_pos hd,Int.mul_one]
theorem F_ {p q:Rat} (h:p.num.sign≠q.num.sign):jM p.num.sign q.num.sign=i6 p q:=by
 have hp:=ql p.num q.den (Nat.pos_of_ne_zero q.den_nz);have hq:=ql q.num p.den (Nat.pos_of_ne_zero p.den_nz);unfold i6;by_cases h1:p.num.sign<q.num.sign
 ·rw [t_ h1,t_ (EK (by rw [hp,hq];exact h1))]
 ·rw [ub (by omega),ub (EK (by rw [hp,hq];omega))]
theorem iF (w:World) (x:Int):Calls prog 169 #[.int .i64 x] w fun e w'=>e= .returned (.bool false)∧w=w':=by
 go_enter func169,ntmps169
 go_wp2
 go_ret;exact ⟨by simp,rfl⟩
theorem EM (w:World) (x y:Int):Calls prog 116 #[.int .i64 x,.int .i64 y] w fun e w'=>e= .returned (.int .i64 (jM x y))∧w=w':=by
 by_cases h1:x<y
 ·have e1:=t_ h1
  have E1:=ae e1;clear e1
  go_enter func116,ntmps116
  go_wp2_with fail
  refine (iF _ _).mono ?_;rintro e w' ⟨rfl,rfl⟩;go_wp2_with fail
  refine (iF _ _).mono ?_;rintro e w' ⟨rfl,rfl⟩;go_wp2
  go_ret;exact ⟨cS E1.o.symm,rfl⟩
 ·by_cases h2:y<x
  ·have e1:=ub h2
   have E1:=ae e1;clear e1
   go_enter func116,ntmps116
   go_wp2_with fail
   refine (iF _ _).mono ?_;rintro e w' ⟨rfl,rfl⟩;go_wp2_with fail
   refine (iF _ _).mono ?_;rintro e w' ⟨rfl,rfl⟩;go_wp2
   go_ret;exact ⟨cS E1.o.symm,rfl⟩
  ·obtain rfl:x=y:=by omega
   have e1:jM x x=0:=by unfold jM;simp
   have E1:=ae e1;clear e1
   go_enter func116,ntmps116
   go_wp2_with fail
   refine (iF _ _).mono ?_;rintro e w' ⟨rfl,rfl⟩;go_wp2_with fail
   refine (iF _ _).mono ?_;rintro e w' ⟨rfl,rfl⟩;go_wp2
   go_ret;exact ⟨cS E1.o.symm,rfl⟩
theorem fT (w:World) (x:Int):Calls prog 186 #[.int .i64 x] w fun e w'=>e= .returned (.bool false)∧w=w':=by
 go_enter func186,ntmps186
 go_wp2
 go_ret;exact ⟨by simp,rfl⟩
theorem Ga (w:World) (x y:Int):Calls prog 158 #[.int .i64 x,.int .i64 y] w fun e w'=>e= .returned (.int .i64 (jM x y))∧w=w':=by
 by_cases h1:x<y
 ·have e1:=t_ h1
  have E1:=ae e1;clear e1
  go_enter func158,ntmps158
  go_wp2_with fail
  refine (fT _ _).mono ?_;rintro e w' ⟨rfl,rfl⟩;go_wp2_with fail
  refine (fT _ _).mono ?_;rintro e w' ⟨rfl,rfl⟩;go_wp2
  go_ret;exact ⟨cS E1.o.symm,rfl⟩
 ·by_cases h2:y<x
  ·have e1:=ub h2
   have E1:=ae e1;clear e1
   go_enter func158,ntmps158
   go_wp2_with fail
   refine (fT _ _).mono ?_;rintro e w' ⟨rfl,rfl⟩;go_wp2_with fail
   refine (fT _ _).mono ?_;rintro e w' ⟨rfl,rfl⟩;go_wp2
   go_ret;exact ⟨cS E1.o.symm,rfl⟩
  ·obtain rfl:x=y:=by omega
   have e1:jM x x=0:=by unfold jM;simp
   have E1:=ae e1;clear e1
   go_enter func158,ntmps158
   go_wp2_with fail
   refine (fT _ _).mono ?_;rintro e w' ⟨rfl,rfl⟩;go_wp2_with fail
   refine (fT _ _).mono ?_;rintro e w' ⟨rfl,rfl⟩;go_wp2
   go_ret;exact ⟨cS E1.o.symm,rfl⟩
theorem qm (w:World) (s:Bool) (a b:Option Addr) (k c j d n m:Nat) (h:Raw w a k c n) (g:Raw w b j d m) (s':Bool) (a' b':Option Addr) (k' c' j' d' n' m':Nat) (h':Raw w a' k' c' n') (g':Raw w b' j' d' m') (ha:(n<2147483648∧m<2147483648)∧n'<2147483648∧m'<2147483648):
 Calls prog 107 #[.agg #[.bool s,.slice a k c,.slice b j d],.agg #[.bool s',.slice a' k' c',.slice b' j' d']] w fun e w'=>e= .returned (.int .i64 (i6 (mkRat (bA s n) m) (mkRat (bA s' n') m')))∧Ext w w':=by
 by_cases hs:(mkRat (bA s n) m).num.sign=(mkRat (bA s' n') m').num.sign
 ·have hs':((mkRat (bA s n) m).num.sign !=(mkRat (bA s' n') m').num.sign)=false:=by rw [hs];simp
  have HS:=ae hs;clear hs
  have HA:=ae ha.1;have HB:=ae ha.2;clear ha
  go_enter func107,ntmps107
  go_wp2
  obtain ⟨W,hW,x0,Z0,A0,A1⟩:=fu w 119 [.bool s,.slice a k c,.slice b j d] 119 [.bool s',.slice a' k' c',.slice b' j' d'];rw [←hW];clear hW;obtain ⟨aK,bf,dE,bN,bO,fG⟩:=aC A0 (Ext.refl _);have z0:=(A0.ext (Ext.refl _)).lt;obtain ⟨aT,bH,eV,cM,cN,iX⟩:=aC A1 (Ext.refl _);have z1:=(A1.ext (Ext.refl _)).lt;have lB:True:=trivial
  go_region_held3 (fun w'=>w'.cell? ⟨w.heap.size,0,none⟩=some (.bool s)∧w'.cell? ⟨w.heap.size,1,none⟩=some (.slice a k c)∧w'.cell? ⟨w.heap.size,2,none⟩=some (.slice b j d)∧w'.cell? ⟨w.heap.size+1,0,none⟩=some (.bool s')∧w'.cell? ⟨w.heap.size+1,1,none⟩=some (.slice a' k' c')∧w'.cell? ⟨w.heap.size+1,2,none⟩=some (.slice b' j' d')) (first|exact ⟨aK,bf,dE,aT,bH,eV⟩|(simp [go_sem,aK,bf,dE,aT,bH,eV])) (first
   |(go_at_call 156;have _t:=lB;refine (iW _ _ _ _ _ _ _ _ _ _ ((h.ext x0).ext (by exact (Ext.refl _).drew)) ((g.ext x0).ext (by exact (Ext.refl _).drew))).mono ?_;rintro e w1 ⟨rfl,hx1⟩;clear lB _t;obtain ⟨aK,bf,dE,bN,bO,fG⟩:=aC A0 ((((Ext.refl _).drew)).trans hx1);have z0:=(A0.ext ((((Ext.refl _).drew)).trans hx1)).lt;obtain ⟨aT,bH,eV,cM,cN,iX⟩:=aC A1 ((((Ext.refl _).drew)).trans hx1);have z1:=(A1.ext ((((Ext.refl _).drew)).trans hx1)).lt)
   |(go_at_call 156;refine (iW _ _ _ _ _ _ _ _ _ _ (((h'.ext x0).ext (by exact (Ext.refl _).drew)).ext hx1) (((g'.ext x0).ext (by exact (Ext.refl _).drew)).ext hx1)).mono ?_;rintro e w2 ⟨rfl,hx2⟩;obtain ⟨aK,bf,dE,bN,bO,fG⟩:=aC A0 (((((Ext.refl _).drew)).trans hx1).trans hx2);have z0:=(A0.ext (((((Ext.refl _).drew)).trans hx1).trans hx2)).lt;obtain ⟨aT,bH,eV,cM,cN,iX⟩:=aC A1 (((((Ext.refl _).drew)).trans hx1).trans hx2);have z1:=(A1.ext (((((Ext.refl _).drew)).trans hx1).trans hx2)).lt))
  have y2:Ext W w2:=((Ext.refl W).drew.trans hx1).trans hx2;go_wp2_with fail
  refine (jg _ _ _ _ _ _ _ _ _ _ ((h.ext x0).ext y2) ((g.ext x0).ext y2) HA.o.1 HA.o.2).mono ?_;rintro e w3 ⟨x,y,rfl,i1,i2,i3,i4,nN,hx3⟩;have Og:=ae nN;clear nN
  have y3:Ext W w3:=y2.trans hx3;obtain ⟨aK,bf,dE,bN,bO,fG⟩:=aC A0 y3;have z0:=(A0.ext y3).lt;obtain ⟨aT,bH,eV,cM,cN,iX⟩:=aC A1 y3;have z1:=(A1.ext y3).lt;go_wp2_with fail
  refine (jg _ _ _ _ _ _ _ _ _ _ ((h'.ext x0).ext y3) ((g'.ext x0).ext y3) HB.o.1 HB.o.2).mono ?_;rintro e w4 ⟨x',y',rfl,X2,X3,UZ,i4',BI,j8⟩;have I7:=ae BI;clear BI
  have y4:Ext W w4:=y3.trans j8;obtain ⟨aK,bf,dE,bN,bO,fG⟩:=aC A0 y4;have z0:=(A0.ext y4).lt;obtain ⟨aT,bH,eV,cM,cN,iX⟩:=aC A1 y4;have z1:=(A1.ext y4).lt;obtain ⟨m1,m2⟩:=lC i1 i2 (by omega: -2147483648<(y':Int)) (by omega);obtain ⟨m3,m4⟩:=lC X2 X3 (by omega: -2147483648<(y:Int)) (by omega);go_wp2_with fail
  refine (Ga _ _ _).mono ?_;rintro e w5 ⟨rfl,rfl⟩;go_wp2
  go_ret;exact ⟨cS (by rw [←Og.o,←I7.o,DA _ _ _ _ i3 UZ]),x0.trans y4⟩
 ·have hs':((mkRat (bA s n) m).num.sign !=(mkRat (bA s' n') m').num.sign)=true:=by rw [bne_iff_ne];exact hs
  have e1:=F_ hs;have E1:=ae e1;clear e1 hs
  go_enter func107,ntmps107
  go_wp2
  obtain ⟨W,hW,x0,Z0,A0,A1⟩:=fu w 119 [.bool s,.slice a k c,.slice b j d] 119 [.bool s',.slice a' k' c',.slice b' j' d'];rw [←hW];clear hW;obtain ⟨aK,bf,dE,bN,bO,fG⟩:=aC A0 (Ext.refl _);have z0:=(A0.ext (Ext.refl _)).lt;obtain ⟨aT,bH,eV,cM,cN,iX⟩:=aC A1 (Ext.refl _);have z1:=(A1.ext (Ext.refl _)).lt;have lB:True:=trivial
  go_region_held3 (fun w'=>w'.cell? ⟨w.heap.size,0,none⟩=some (.bool s)∧w'.cell? ⟨w.heap.size,1,none⟩=some (.slice a k c)∧w'.cell? ⟨w.heap.size,2,none⟩=some (.slice b j d)∧w'.cell? ⟨w.heap.size+1,0,none⟩=some (.bool s')∧w'.cell? ⟨w.heap.size+1,1,none⟩=some (.slice a' k' c')∧w'.cell? ⟨w.heap.size+1,2,none⟩=some (.slice b' j' d')) (first|exact ⟨aK,bf,dE,aT,bH,eV⟩|(simp [go_sem,aK,bf,dE,aT,bH,eV])) (first
   |(go_at_call 156;have _t:=lB;refine (iW _ _ _ _ _ _ _ _ _ _ ((h.ext x0).ext (by exact (Ext.refl _).drew)) ((g.ext x0).ext (by exact (Ext.refl _).drew))).mono ?_;rintro e w1 ⟨rfl,hx1⟩;clear lB _t;obtain ⟨aK,bf,dE,bN,bO,fG⟩:=aC A0 ((((Ext.refl _).drew)).trans hx1);have z0:=(A0.ext ((((Ext.refl _).drew)).trans hx1)).lt;obtain ⟨aT,bH,eV,cM,cN,iX⟩:=aC A1 ((((Ext.refl _).drew)).trans hx1);have z1:=(A1.ext ((((Ext.refl _).drew)).trans hx1)).lt)
   |(go_at_call 156;refine (iW _ _ _ _ _ _ _ _ _ _ (((h'.ext x0).ext (by exact (Ext.refl _).drew)).ext hx1) (((g'.ext x0).ext (by exact (Ext.refl _).drew)).ext hx1)).mono ?_;rintro e w2 ⟨rfl,hx2⟩;obtain ⟨aK,bf,dE,bN,bO,fG⟩:=aC A0 (((((Ext.refl _).drew)).trans hx1).trans hx2);have z0:=(A0.ext (((((Ext.refl _).drew)).trans hx1).trans hx2)).lt;obtain ⟨aT,bH,eV,cM,cN,iX⟩:=aC A1 (((((Ext.refl _).drew)).trans hx1).trans hx2);have z1:=(A1.ext (((((Ext.refl _).drew)).trans hx1).trans hx2)).lt))
  have y2:Ext W w2:=((Ext.refl W).drew.trans hx1).trans hx2;go_wp2_with fail
  refine (EM _ _ _).mono ?_;rintro e w3 ⟨rfl,rfl⟩;go_wp2
  go_ret;exact ⟨cS E1.o,x0.trans y2⟩
theorem ir {p:Rat}:p.num.sign=0↔p=0:=by rw [Int.sign_eq_zero_iff_zero,Rat.num_eq_zero]
theorem Gb (x x':Int) (y y':Nat) (h:0<y) (h':0<y'):mkRat (x*y'+x'*y) (y*y')=mkRat x y+mkRat x' y':=(Rat.mkRat_add_mkRat x x' (by omega) (by omega)).symm
theorem mkRat_add_same (x x':Int) (y:Nat) (h:0<y):mkRat (x+x') y=mkRat x y+mkRat x' y:=by
 rw [←Gb _ _ _ _ h h,←Int.add_mul,Rat.mkRat_mul_right (by omega)]
theorem vp (x y:Int):len (x+y).natAbs≤max (len x.natAbs) (len y.natAbs)+1:=
 Nat.le_trans (dJ (Int.natAbs_add_le x y)) (Lt _ _)
theorem wW (w:World) (s:Bool) (a b:Option Addr) (k c j d n m:Nat) (h:Raw w a k c n) (g:Raw w b j d m) (s':Bool) (a' b':Option Addr) (k' c' j' d' n' m':Nat) (h':Raw w a' k' c' n') (g':Raw w b' j' d' m') (X6: ∀V,Raw V a' k' c' n'→Raw V b' j' d' m'→Calls prog 162 #[.agg #[.bool s',.slice a' k' c',.slice b' j' d']] V (bn (mkRat (bA s' n') m') V)) (h0:mkRat (bA s n) m=0):
 Calls prog 164 #[.agg #[.bool s,.slice a k c,.slice b j d],.agg #[.bool s',.slice a' k' c',.slice b' j' d']] w (bn (mkRat (bA s n) m+mkRat (bA s' n') m') w):=by
 have hs:(mkRat (bA s n) m).num.sign=0:=ir.2 h0;have H0:=ae h0;clear h0
 go_enter func164,ntmps164
 go_wp2_with fail
 obtain ⟨W,hW,x0,Z0,A0,A1,A2⟩:=eT w 119 [.bool s,.slice a k c,.slice b j d] 119 [.bool s',.slice a' k' c',.slice b' j' d'] 119 [.bool false,.slice none 0 0,.slice none 0 0];rw [←hW];clear hW;have aK:=aC A0 (Ext.refl _);have z0:=(A0.ext (Ext.refl _)).lt;have aT:=aC A1 (Ext.refl _);have z1:=(A1.ext (Ext.refl _)).lt;have bD:=aC A2 (Ext.refl _);have z2:=(A2.ext (Ext.refl _)).lt;refine (iW _ _ _ _ _ _ _ _ _ _ (h.ext x0) (g.ext x0)).mono ?_;rintro e w1 ⟨rfl,hx1⟩;have aK:=aC A0 hx1;have z0:=(A0.ext hx1).lt;have aT:=aC A1 hx1;have z1:=(A1.ext hx1).lt;have bD:=aC A2 hx1;have z2:=(A2.ext hx1).lt;rw [hs];clear hs;go_wp2_with fail
 refine (X6 _ ((h'.ext x0).ext hx1) ((g'.ext x0).ext hx1)).mono ?_;intro e wz hN;rw [←Rat.zero_add (mkRat (bA s' n') m'),←H0.o]at hN;obtain ⟨az,cz,UU,UX,rfl,UY,BH,Lr,Ls,oJ⟩:=id hN;have aK:=aC A0 (hx1.trans oJ);have z0:=(A0.ext (hx1.trans oJ)).lt;have aT:=aC A1 (hx1.trans oJ);have z1:=(A1.ext (hx1.trans oJ)).lt;have bD:=aC A2 (hx1.trans oJ);have z2:=(A2.ext (hx1.trans oJ)).lt;go_wp2
 exact bodyPost_ret (by simp [results,results164,go_sem, *]) rfl (bn.bF (hN.base hx1) x0 (Touch.three _ (by omega) (by rw [Z0.o];omega) _ _ _))
theorem wX (w:World) (s:Bool) (a b:Option Addr) (k c j d n m:Nat) (h:Raw w a k c n) (g:Raw w b j d m) (s':Bool) (a' b':Option Addr) (k' c' j' d' n' m':Nat) (h':Raw w a' k' c' n') (g':Raw w b' j' d' m') (X6: ∀V,Raw V a k c n→Raw V b j d m→Calls prog 162 #[.agg #[.bool s,.slice a k c,.slice b j d]] V (bn (mkRat (bA s n) m) V)) (Oj: ¬mkRat (bA s n) m=0) (h0:mkRat (bA s' n') m'=0):
 Calls prog 164 #[.agg #[.bool s,.slice a k c,.slice b j d],.agg #[.bool s',.slice a' k' c',.slice b' j' d']] w (bn (mkRat (bA s n) m+mkRat (bA s' n') m') w):=by
 have hs:(mkRat (bA s' n') m').num.sign=0:=ir.2 h0;have hs1:((mkRat (bA s n) m).num.sign==0)=false:=by rw [beq_eq_false_iff_ne];exact fun h=>Oj (ir.1 h)
 have H0:=ae h0;clear h0 Oj
 go_enter func164,ntmps164
 go_wp2_with fail
 obtain ⟨W,hW,x0,Z0,A0,A1,A2⟩:=eT w 119 [.bool s,.slice a k c,.slice b j d] 119 [.bool s',.slice a' k' c',.slice b' j' d'] 119 [.bool false,.slice none 0 0,.slice none 0 0];rw [←hW];clear hW;have aK:=aC A0 (Ext.refl _);have z0:=(A0.ext (Ext.refl _)).lt;have aT:=aC A1 (Ext.refl _);have z1:=(A1.ext (Ext.refl _)).lt;have bD:=aC A2 (Ext.refl _);have z2:=(A2.ext (Ext.refl _)).lt;refine (iW _ _ _ _ _ _ _ _ _ _ (h.ext x0) (g.ext x0)).mono ?_;rintro e w1 ⟨rfl,hx1⟩;have aK:=aC A0 hx1;have z0:=(A0.ext hx1).lt;have aT:=aC A1 hx1;have z1:=(A1.ext hx1).lt;have bD:=aC A2 hx1;have z2:=(A2.ext hx1).lt;go_wp2_with fail
 refine (iW _ _ _ _ _ _ _ _ _ _ ((h'.ext x0).ext hx1) ((g'.ext x0).ext hx1)).mono ?_;rintro e w2 ⟨rfl,hx2⟩;have y2:Ext W w2:=hx1.trans hx2;have aK:=aC A0 y2;have z0:=(A0.ext y2).lt;have aT:=aC A1 y2;have z1:=(A1.ext y2).lt;have bD:=aC A2 y2;have z2:=(A2.ext y2).lt;rw [hs];clear hs;go_wp2_with fail
 refine (X6 _ ((h.ext x0).ext y2) ((g.ext x0).ext y2)).mono ?_;intro e wz hN;rw [←Rat.add_zero (mkRat (bA s n) m),←H0.o]at hN;obtain ⟨az,cz,UU,UX,rfl,UY,BH,Lr,Ls,oJ⟩:=id hN;have aK:=aC A0 (y2.trans oJ);have z0:=(A0.ext (y2.trans oJ)).lt;have aT:=aC A1 (y2.trans oJ);have z1:=(A1.ext (y2.trans oJ)).lt;have bD:=aC A2 (y2.trans oJ);have z2:=(A2.ext (y2.trans oJ)).lt;go_wp2
 exact bodyPost_ret (by simp [results,results164,go_sem, *]) rfl (bn.bF (hN.base y2) x0 (Touch.three _ (by omega) (by rw [Z0.o];omega) _ _ _))
theorem DB (w:World) (s:Bool) (a b:Option Addr) (k c j d n m:Nat) (h:Raw w a k c n) (g:Raw w b j d m) (s':Bool) (a' b':Option Addr) (k' c' j' d' n' m':Nat) (h':Raw w a' k' c' n') (g':Raw w b' j' d' m') (Oj: ¬mkRat (bA s n) m=0) (Sw: ¬mkRat (bA s' n') m'=0) (ha:n<2147483648∧m<2147483648) (hb:n'<2147483648∧m'<2147483648):
 Calls prog 164 #[.agg #[.bool s,.slice a k c,.slice b j d],.agg #[.bool s',.slice a' k' c',.slice b' j' d']] w (bn (mkRat (bA s n) m+mkRat (bA s' n') m') w):=by
 have hs1:((mkRat (bA s n) m).num.sign==0)=false:=by rw [beq_eq_false_iff_ne];exact fun h=>Oj (ir.1 h)
 have hs2:((mkRat (bA s' n') m').num.sign==0)=false:=by rw [beq_eq_false_iff_ne];exact fun h=>Sw (ir.1 h)
 clear Oj Sw;have HA:=ae ha;have HB:=ae hb;clear ha hb
 go_enter func164,ntmps164
 go_wp2_with fail
 obtain ⟨W,hW,x0,Z0,A0,A1,A2⟩:=eT w 119 [.bool s,.slice a k c,.slice b j d] 119 [.bool s',.slice a' k' c',.slice b' j' d'] 119 [.bool false,.slice none 0 0,.slice none 0 0];rw [←hW];clear hW;have aK:=aC A0 (Ext.refl _);have z0:=(A0.ext (Ext.refl _)).lt;have aT:=aC A1 (Ext.refl _);have z1:=(A1.ext (Ext.refl _)).lt;have bD:=aC A2 (Ext.refl _);have z2:=(A2.ext (Ext.refl _)).lt;refine (iW _ _ _ _ _ _ _ _ _ _ (h.ext x0) (g.ext x0)).mono ?_;rintro e w1 ⟨rfl,hx1⟩;have aK:=aC A0 hx1;have z0:=(A0.ext hx1).lt;have aT:=aC A1 hx1;have z1:=(A1.ext hx1).lt;have bD:=aC A2 hx1;have z2:=(A2.ext hx1).lt;go_wp2_with fail
 refine (iW _ _ _ _ _ _ _ _ _ _ ((h'.ext x0).ext hx1) ((g'.ext x0).ext hx1)).mono ?_;rintro e w2 ⟨rfl,hx2⟩;have y2:Ext W w2:=hx1.trans hx2;have aK:=aC A0 y2;have z0:=(A0.ext y2).lt;have aT:=aC A1 y2;have z1:=(A1.ext y2).lt;have bD:=aC A2 y2;have z2:=(A2.ext y2).lt;go_wp2_with fail
 refine (jg _ _ _ _ _ _ _ _ _ _ ((h.ext x0).ext y2) ((g.ext x0).ext y2) HA.o.1 HA.o.2).mono ?_;rintro e w3 ⟨x,y,rfl,i1,i2,i3,i4,nN,hx3⟩;have Og:=ae nN;clear nN
 have y3:Ext W w3:=y2.trans hx3;have aK:=aC A0 y3;have z0:=(A0.ext y3).lt;have aT:=aC A1 y3;have z1:=(A1.ext y3).lt;have bD:=aC A2 y3;have z2:=(A2.ext y3).lt;go_wp2_with fail
 refine (jg _ _ _ _ _ _ _ _ _ _ ((h'.ext x0).ext y3) ((g'.ext x0).ext y3) HB.o.1 HB.o.2).mono ?_;rintro e w4 ⟨x',y',rfl,X2,X3,UZ,i4',BI,j8⟩;have I7:=ae BI;clear BI
 have y4:Ext W w4:=y3.trans j8;have aK:=aC A0 y4;have z0:=(A0.ext y4).lt;have aT:=aC A1 y4;have z1:=(A1.ext y4).lt;have bD:=aC A2 y4;have z2:=(A2.ext y4).lt;obtain ⟨m1,m2⟩:=lC i1 i2 (by omega: -2147483648<(y':Int)) (by omega);obtain ⟨m3,m4⟩:=lC X2 X3 (by omega: -2147483648<(y:Int)) (by omega);obtain ⟨m5,m6⟩:=oK i3 i4 UZ i4';have m5':0<(y:Int)*(y':Int):=by rw [←Int.natCast_mul];omega
 have m6':(y:Int)*(y':Int)≤4611686018427387904:=by rw [←Int.natCast_mul];omega
 have o1:x*(y':Int)+x'*(y:Int)<9223372036854775808:=by
  by_cases hh:x<0
  ·have:=Int.mul_nonpos_of_nonpos_of_nonneg (Int.le_of_lt hh) (by omega:(0:Int)≤(y':Int));omega
  ·have:x*(y':Int)≤2147483647*2147483647:=Int.mul_le_mul (by omega) (by omega) (by omega) (by omega)
   omega
 have o2: -9223372036854775808<x*(y':Int)+x'*(y:Int):=by
  by_cases hh:x<0
  ·have:(-x)*(y':Int)≤2147483647*2147483647:=Int.mul_le_mul (by omega) (by omega) (by omega) (by omega)
   rw [Int.neg_mul]at this;omega
  ·have:=Int.mul_nonneg (by omega:(0:Int)≤x) (by omega:(0:Int)≤(y':Int));omega
 go_wp2_with fail
 rw [←Int.natCast_mul];refine (mv _ _ _ (by omega) (by omega) m5 (by omega)).mono ?_;intro e wz hN;rw [Gb _ _ _ _ i3 UZ,Og.o,I7.o]at hN;obtain ⟨az,cz,UU,UX,rfl,UY,BH,Lr,Ls,oJ⟩:=id hN;have aK:=aC A0 (y4.trans oJ);have z0:=(A0.ext (y4.trans oJ)).lt;have aT:=aC A1 (y4.trans oJ);have z1:=(A1.ext (y4.trans oJ)).lt;have bD:=aC A2 (y4.trans oJ);have z2:=(A2.ext (y4.trans oJ)).lt;go_wp2
 exact bodyPost_ret (by simp [results,results164,go_sem, *]) rfl (bn.bF (hN.base y4) x0 (Touch.three _ (by omega) (by rw [Z0.o];omega) _ _ _))
theorem wY (w:World) (s:Bool) (a b:Option Addr) (k c j d n m:Nat) (h:Raw w a k c n) (g:Raw w b j d m) (s':Bool) (a' b':Option Addr) (k' c' j' d' n' m':Nat) (h':Raw w a' k' c' n') (g':Raw w b' j' d' m') (ha:n<2147483648∧m<2147483648) (hb:n'<2147483648∧m'<2147483648):
 Calls prog 164 #[.agg #[.bool s,.slice a k c,.slice b j d],.agg #[.bool s',.slice a' k' c',.slice b' j' d']] w (bn (mkRat (bA s n) m+mkRat (bA s' n') m') w):=by
 by_cases h0:mkRat (bA s n) m=0
 ·exact wW w _ _ _ _ _ _ _ _ _ h g _ _ _ _ _ _ _ _ _ h' g' (fun V p q=>nE V _ _ _ _ _ _ _ _ _ p q hb.1 hb.2) h0
 by_cases Sx:mkRat (bA s' n') m'=0
 ·exact wX w _ _ _ _ _ _ _ _ _ h g _ _ _ _ _ _ _ _ _ h' g' (fun V p q=>nE V _ _ _ _ _ _ _ _ _ p q ha.1 ha.2) h0 Sx
 exact DB w _ _ _ _ _ _ _ _ _ h g _ _ _ _ _ _ _ _ _ h' g' h0 Sx ha hb
theorem Ext.qo {w w3 w4:World} {hi:Nat} (h:Ext w w3) (t:Touch w.heap.size hi w3 w4):Ext w w4:=
 ⟨⟨t.os.trans h.below.os,t.tape.trans h.below.tape,t.output.trans h.below.output,by rw [t.size];exact h.below.size,fun k hk=>(t.block k (Or.inl hk)).trans (h.below.block k hk)⟩,Nat.le_trans h.drawn t.drawn⟩
theorem zk (q:Rat):oB (-q)=oB q:=by unfold oB;rw [Rat.neg_num,Rat.neg_den,Int.natAbs_neg]
theorem EN (p q:Rat):oB (p+q)≤oB p+oB q+1:=by
 rw [Rat.add_def'];refine Nat.le_trans (kV _ _) ?_;have h1:=vp (p.num*q.den) (q.num*p.den);rw [Int.natAbs_mul,Int.natAbs_mul,Int.natAbs_natCast,Int.natAbs_natCast]at h1;have h2:=ud p.num.natAbs q.den;have h3:=ud q.num.natAbs p.den;have h4:=ud p.den q.den;have a1:=lN p;have a2:=lO p;have a3:=lN q;have a4:=lO q
 omega
theorem Lu (p q:Rat):oB (p-q)≤oB p+oB q+1:=by
 rw [Rat.sub_eq_add_neg];have:=EN p (-q);rw [zk]at this;exact this
theorem Lv (z:Int):oB (z:Rat)=max (len z.natAbs) 1:=by
 unfold oB;rw [Rat.num_intCast,Rat.den_intCast,qP]
theorem nG {z:Int} (h1: -9223372036854775808≤z) (h2:z≤9223372036854775807):len z.natAbs≤2:=mr.2 (by omega)
theorem bn.I8 {q:Rat} {w w':World} {e:Ending} (h:bn q w e w'): ∃r:ct,e= .returned (.agg #[.bool r.s,.slice r.a r.k r.c,.slice r.b r.j r.d])∧gW w' r q (Go.Proofs.YtkpngkdgphojlaaGreat.oB q)∧Fr w.heap.size r.a∧Fr w.heap.size r.b∧Ext w w':=by
 obtain ⟨a,c,a',c',he,hr,hf,ku,hf',hx⟩:=h;refine ⟨⟨decide (q.num<0),a,len q.num.natAbs,c,a',len q.den,c'⟩,he,⟨_,_,hr,ku,?_,lN q,lO q⟩,hf,hf',hx⟩;rw [jY,Rat.mkRat_self]
theorem cT.I8 {w:World} {r:ct} {q:Rat} {B:Nat} (h:cT w r q B):gW w r q (Go.Proofs.YtkpngkdgphojlaaGreat.oB q):=
 ⟨_,_,h.num,h.den,by rw [h.s,jY,Rat.mkRat_self],lN q,lO q⟩
theorem bn.qp {q:Rat} {w w':World} {e:Ending} (h:bn q w e w'): ∃r:ct,e= .returned (.agg #[.bool r.s,.slice r.a r.k r.c,.slice r.b r.j r.d])∧cT w' r q w.heap.size∧Ext w w':=by
 obtain ⟨a,c,a',c',he,hr,hf,ku,hf',hx⟩:=h;exact ⟨⟨decide (q.num<0),a,len q.num.natAbs,c,a',len q.den,c'⟩,he,⟨rfl,rfl,rfl,hr,ku,hf,hf'⟩,hx⟩
theorem cT.zm {w w':World} {r:ct} {q:Rat} (h:cT w' r q w.heap.size) (hx:Ext w w'):bn q w (.returned (.agg #[.bool r.s,.slice r.a r.k r.c,.slice r.b r.j r.d])) w':=by
 refine ⟨r.a,r.c,r.b,r.d,by rw [h.s,h.k,h.j],?_,h.fa,?_,h.fb,hx⟩
 ·have:=h.num;rwa [h.k]at this
 ·have:=h.den;rwa [h.j]at this
def o8 (l:List Rat):Rat:=l.foldl (· + ·) 0
theorem Gc {l:List Rat} {i:Nat} (h:i<l.length):o8 (l.take (i+1))=o8 (l.take i)+l[i]:=by
 unfold o8;rw [List.take_succ_eq_append_getElem h,List.foldl_append];rfl
def kF:List Value:= [.bool false,.slice none 0 0,.slice none 0 0]
def dL (l:List ct):List Value:=l.flatMap ct.cells
theorem mP (l:List ct):(dL l).length=l.length*3:=by
 induction l with
 |nil=>rfl
 |cons r l ih=>simp only [dL,List.flatMap_cons,List.length_append,ct.cells,List.length_cons,List.length_nil]at*;omega
theorem zn (l:List ct) (i k:Nat) (h:i<l.length) (hk:k<3):(dL l)[i*3+k]?=(l[i].cells)[k]?:=by
 induction l generalizing i with
 |nil=>simp at h
 |cons r l ih=>
  have e:dL (r::l)=r.cells++dL l:=by simp [dL]
  rw [e];have hc:r.cells.length=3:=rfl;cases i with
  |zero=>rw [List.getElem?_append_left (by omega)];simp
  |succ i=>
   rw [List.getElem?_append_right (by omega),hc,show(i+1)*3+k-3=i*3+k from by omega,ih i (by simpa using h)];simp
end Go.Proofs.YtkpngkdgphojlaaGreat
