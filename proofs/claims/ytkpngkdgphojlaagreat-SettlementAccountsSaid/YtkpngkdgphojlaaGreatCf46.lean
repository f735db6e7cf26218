/- Texts of the proof. -/
import Derived.Test.YtkpngkdgphojlaaGreatCf45
set_option linter.all false
set_option maxHeartbeats 1000000
namespace Go.Proofs.YtkpngkdgphojlaaGreat
open Go.Proofs.Tryz
open Go.RowKit
theorem rK (s:Bool) (n:Nat):decide (aZ s n<0)=(s&&decide (0<n)):=by
 unfold aZ;cases s
 ·simp
 ·simp
theorem fj (n:Nat):aZ false n=n:=rfl
theorem gu (n:Nat):aZ true n= -(n:Int):=rfl
theorem oK (s:Bool):aZ s 0=0:=by cases s<;>rfl
theorem rL (s:Bool) (n:Nat):aZ (!s) n= -aZ s n:=by cases s<;>simp [aZ]
theorem eo (w:World) (s:Bool) (a:Option Addr) (k c:Nat) (_hk:k≤1099511627776):
 Calls prog 183 #[.bool s,.slice a k c] w fun e w'=>e= .returned (.agg #[.bool (s&&decide (0<k)),.slice a k c])∧Ext w w':=by
 cases s
 ·go_enter func183,ntmps183
  go_wp2
  exact bodyPost_ret (v:= .agg #[.bool false,.slice a k c]) (by simp [results,results183,go_sem]) rfl ⟨rfl,(Ext.refl _).alloc _⟩
 ·by_cases h0:0<k
  ·have d0:decide (0<k)=true:=by simp [h0]
   go_enter func183,ntmps183
   go_wp2
   exact bodyPost_ret (v:= .agg #[.bool true,.slice a k c]) (by simp [results,results183,go_sem]) rfl ⟨by simp [h0],(Ext.refl _).alloc _⟩
  ·have d0:decide (0<k)=false:=by simp [h0]
   go_enter func183,ntmps183
   go_wp2
   exact bodyPost_ret (v:= .agg #[.bool false,.slice a k c]) (by simp [results,results183,go_sem]) rfl ⟨by simp [h0],(Ext.refl _).alloc _⟩
theorem bm.gw {w w1 w2:World} {s:Bool} {a:Option Addr} {c n:Nat} {e:Ending} (h:Raw w1 a (len n) c n) (hf:Fr w.heap.size a) (hx:Ext w w1)
 (he:e= .returned (.agg #[.bool (s&&decide (0<len n)),.slice a (len n) c])∧Ext w1 w2):bm (aZ s n) w e w2:=by
 obtain ⟨rfl,hx2⟩:=he;refine ⟨a,c,?_,?_,hf,hx.trans hx2⟩
 ·rw [bF,rK];simp only [gj]
 ·rw [bF];exact h.ext hx2
theorem Me (s t:Bool) (n m:Nat):aZ (s !=t) (n*m)=aZ s n*aZ t m:=by
 cases s<;>cases t<;>simp [aZ,Int.neg_mul,Int.mul_neg]
theorem FJ (s:Bool) (n m:Nat):aZ s (n+m)=aZ s n+aZ s m:=by
 cases s<;>simp [aZ];omega
theorem Ck (s:Bool) (n m:Nat) (h:m≤n):aZ s (n-m)=aZ s n+aZ (!s) m:=by
 cases s<;>simp [aZ]<;>omega
theorem Cm (s:Bool) (n m:Nat) (h:n≤m):aZ (!s) (m-n)=aZ s n+aZ (!s) m:=by
 cases s<;>simp [aZ]<;>omega
theorem Kb (n:Nat) (h0:0<n) (h:n≤9223372036854775808):IntKind.u64.wrap (-IntKind.u64.wrap (-(n:Int)))=(n:Int):=by
 rw [IntKind.wrap_u64,IntKind.wrap_u64];omega
theorem Cn (w:World) (v:Int) (h1: -9223372036854775808≤v) (h2:v≤9223372036854775807):
 Calls prog 155 #[.int .i64 v] w (bm v w):=by
 by_cases h0:v<0
 ·obtain ⟨n,rfl⟩: ∃n:Nat,v= -(n:Int):=⟨v.natAbs,by omega⟩
  have e1:=Kb n (by omega) (by omega);go_enter func155,ntmps155
  go_wp2_with fail
  obtain ⟨W,hW,x0,Z0,A0⟩:=aX w 117 [.bool false,.slice none 0 0];rw [←hW];clear hW;obtain ⟨aC,bf,bU,bV⟩:=ax A0 (Ext.refl _);have z0:=(A0.ext (Ext.refl _)).lt;refine (cU _ _ (by omega)).mono ?_;rintro e w1 ⟨a1,c1,rfl,hr1,iX,hx1⟩;obtain ⟨aC,bf,bU,bV⟩:=ax A0 hx1;have z0:=(A0.ext hx1).lt;go_wp2_with fail
  refine (eo _ _ _ _ _ (by have:=hr1.le;omega)).mono ?_;rintro e w2 ⟨rfl,hx2⟩;obtain ⟨aC,bf,bU,bV⟩:=ax A0 (hx1.trans hx2);have z0:=(A0.ext (hx1.trans hx2)).lt;have fin:=bm.gw (s:=true) hr1 iX hx1 ⟨rfl,hx2⟩;go_wp2
  exact bodyPost_ret (by simp [results,results155,go_sem,aC,bf]) rfl (bm.bh fin x0 (Touch.two _ (Nat.le_refl _) (by rw [Z0.o];omega) _ _))
 ·obtain ⟨n,rfl⟩: ∃n:Nat,v=(n:Int):=⟨v.natAbs,by omega⟩
  have e1:IntKind.u64.wrap (n:Int)=(n:Int):=by rw [IntKind.wrap_u64];omega
  go_enter func155,ntmps155
  go_wp2_with fail
  obtain ⟨W,hW,x0,Z0,A0⟩:=aX w 117 [.bool false,.slice none 0 0];rw [←hW];clear hW;obtain ⟨aC,bf,bU,bV⟩:=ax A0 (Ext.refl _);have z0:=(A0.ext (Ext.refl _)).lt;refine (cU _ _ (by omega)).mono ?_;rintro e w1 ⟨a1,c1,rfl,hr1,iX,hx1⟩;obtain ⟨aC,bf,bU,bV⟩:=ax A0 hx1;have z0:=(A0.ext hx1).lt;go_wp2_with fail
  refine (eo _ _ _ _ _ (by have:=hr1.le;omega)).mono ?_;rintro e w2 ⟨rfl,hx2⟩;obtain ⟨aC,bf,bU,bV⟩:=ax A0 (hx1.trans hx2);have z0:=(A0.ext (hx1.trans hx2)).lt;have fin:=bm.gw (s:=false) hr1 iX hx1 ⟨rfl,hx2⟩;go_wp2
  exact bodyPost_ret (by simp [results,results155,go_sem,aC,bf]) rfl (bm.bh fin x0 (Touch.two _ (Nat.le_refl _) (by rw [Z0.o];omega) _ _))
theorem Kd (w:World) (s:Bool) (a:Option Addr) (k c n:Nat) (h:Raw w a k c n):
 Calls prog 214 #[.agg #[.bool s,.slice a k c]] w (bm (aZ s n) w):=by
 go_enter func214,ntmps214
 go_wp2
 obtain ⟨W,hW,x0,Z0,A0,A1⟩:=er w 117 [.bool s,.slice a k c] 117 [.bool false,.slice none 0 0];rw [←hW];clear hW;obtain ⟨aC,bf,bU,bV⟩:=ax A0 (Ext.refl _);have z0:=(A0.ext (Ext.refl _)).lt;obtain ⟨aM,bD,cj,cq⟩:=ax A1 (Ext.refl _);have z1:=(A1.ext (Ext.refl _)).lt
 go_region_held3 (fun w'=>w'.cell? ⟨w.heap.size,0,none⟩=some (.bool s)∧w'.cell? ⟨w.heap.size,1,none⟩=some (.slice a k c)) (first|exact ⟨aC,bf⟩|(simp [go_sem,aC,bf])) (first
  |(go_at_call 191;refine (oH _ _ _ _ _ ((h.ext x0).ext (by exact (Ext.refl _).drew))).mono ?_;rintro e w1 ⟨a1,c1,rfl,hr1,iX,hx1⟩;obtain ⟨aC,bf,bU,bV⟩:=ax A0 (((Ext.refl _).drew).trans hx1);have z0:=(A0.ext (((Ext.refl _).drew).trans hx1)).lt;obtain ⟨aM,bD,cj,cq⟩:=ax A1 (((Ext.refl _).drew).trans hx1);have z1:=(A1.ext (((Ext.refl _).drew).trans hx1)).lt)
  |(go_at_call 183;refine (eo _ _ _ _ _ (by have:=hr1.le;omega)).mono ?_;rintro e w2 ⟨rfl,hx2⟩;obtain ⟨aC,bf,bU,bV⟩:=ax A0 ((((Ext.refl _).drew).trans hx1).trans hx2);have z0:=(A0.ext ((((Ext.refl _).drew).trans hx1).trans hx2)).lt;obtain ⟨aM,bD,cj,cq⟩:=ax A1 ((((Ext.refl _).drew).trans hx1).trans hx2);have z1:=(A1.ext ((((Ext.refl _).drew).trans hx1).trans hx2)).lt))
 have fin:=bm.gw (s:=s) hr1 iX hx1 ⟨rfl,hx2⟩;go_wp2
 exact bodyPost_ret (by simp [results,results214,go_sem,aM,bD]) rfl (bm.bh fin x0.drew (Touch.two _ (by omega) (by rw [World.drew,Z0.o];omega) _ _))
theorem Mf (w:World) (s:Bool) (a:Option Addr) (k c n:Nat) (h:Raw w a k c n):
 Calls prog 163 #[.agg #[.bool s,.slice a k c]] w (bm (-aZ s n) w):=by
 rw [←rL];go_enter func163,ntmps163
 go_wp2
 obtain ⟨W,hW,x0,Z0,A0,A1⟩:=er w 117 [.bool s,.slice a k c] 117 [.bool false,.slice none 0 0];rw [←hW];clear hW;obtain ⟨aC,bf,bU,bV⟩:=ax A0 (Ext.refl _);have z0:=(A0.ext (Ext.refl _)).lt;obtain ⟨aM,bD,cj,cq⟩:=ax A1 (Ext.refl _);have z1:=(A1.ext (Ext.refl _)).lt
 go_region_held3 (fun w'=>w'.cell? ⟨w.heap.size,0,none⟩=some (.bool s)∧w'.cell? ⟨w.heap.size,1,none⟩=some (.slice a k c)) (first|exact ⟨aC,bf⟩|(simp [go_sem,aC,bf])) (first
  |(go_at_call 191;refine (oH _ _ _ _ _ ((h.ext x0).ext (by exact (Ext.refl _).drew))).mono ?_;rintro e w1 ⟨a1,c1,rfl,hr1,iX,hx1⟩;obtain ⟨aC,bf,bU,bV⟩:=ax A0 (((Ext.refl _).drew).trans hx1);have z0:=(A0.ext (((Ext.refl _).drew).trans hx1)).lt;obtain ⟨aM,bD,cj,cq⟩:=ax A1 (((Ext.refl _).drew).trans hx1);have z1:=(A1.ext (((Ext.refl _).drew).trans hx1)).lt)
  |(go_at_call 183;refine (eo _ _ _ _ _ (by have:=hr1.le;omega)).mono ?_;rintro e w2 ⟨rfl,hx2⟩;obtain ⟨aC,bf,bU,bV⟩:=ax A0 ((((Ext.refl _).drew).trans hx1).trans hx2);have z0:=(A0.ext ((((Ext.refl _).drew).trans hx1).trans hx2)).lt;obtain ⟨aM,bD,cj,cq⟩:=ax A1 ((((Ext.refl _).drew).trans hx1).trans hx2);have z1:=(A1.ext ((((Ext.refl _).drew).trans hx1).trans hx2)).lt))
 have fin:=bm.gw (s:= !s) hr1 iX hx1 ⟨rfl,hx2⟩;go_wp2
 exact bodyPost_ret (by simp [results,results163,go_sem,aM,bD]) rfl (bm.bh fin x0.drew (Touch.two _ (by omega) (by rw [World.drew,Z0.o];omega) _ _))
theorem uR (w:World) (s t:Bool) (a b:Option Addr) (k c k' c' n m:Nat) (h:Raw w a k c n) (h':Raw w b k' c' m) (b1:len n<1000000000) (b2:len m<1000000000):
 Calls prog 161 #[.agg #[.bool s,.slice a k c],.agg #[.bool t,.slice b k' c']] w (bm (aZ s n*aZ t m) w):=by
 rw [←Me];go_enter func161,ntmps161
 go_wp2
 obtain ⟨W,hW,x0,Z0,A0,A1,A2⟩:=gl w 117 [.bool s,.slice a k c] 117 [.bool t,.slice b k' c'] 117 [.bool false,.slice none 0 0];rw [←hW];clear hW;obtain ⟨aC,bf,bU,bV⟩:=ax A0 (Ext.refl _);have z0:=(A0.ext (Ext.refl _)).lt;obtain ⟨aM,bD,cj,cq⟩:=ax A1 (Ext.refl _);have z1:=(A1.ext (Ext.refl _)).lt;obtain ⟨bj,bQ,ct,cA⟩:=ax A2 (Ext.refl _);have z2:=(A2.ext (Ext.refl _)).lt
 go_region_held3 (fun w'=>w'.cell? ⟨w.heap.size,0,none⟩=some (.bool s)∧w'.cell? ⟨w.heap.size,1,none⟩=some (.slice a k c)∧w'.cell? ⟨w.heap.size+1,0,none⟩=some (.bool t)∧w'.cell? ⟨w.heap.size+1,1,none⟩=some (.slice b k' c')) (first|exact ⟨aC,bf,aM,bD⟩|(simp [go_sem,aC,bf,aM,bD])) (first
  |(go_at_call 188;refine (uP _ _ _ _ _ _ _ _ _ ((h.ext x0).ext (by exact (Ext.refl _).drew)) ((h'.ext x0).ext (by exact (Ext.refl _).drew)) b1 b2).mono ?_;rintro e w1 ⟨a1,c1,rfl,hr1,iX,hx1⟩;obtain ⟨aC,bf,bU,bV⟩:=ax A0 (((Ext.refl _).drew).trans hx1);have z0:=(A0.ext (((Ext.refl _).drew).trans hx1)).lt;obtain ⟨aM,bD,cj,cq⟩:=ax A1 (((Ext.refl _).drew).trans hx1);have z1:=(A1.ext (((Ext.refl _).drew).trans hx1)).lt;obtain ⟨bj,bQ,ct,cA⟩:=ax A2 (((Ext.refl _).drew).trans hx1);have z2:=(A2.ext (((Ext.refl _).drew).trans hx1)).lt)
  |(go_at_call 183;refine (eo _ _ _ _ _ (by have:=hr1.le;omega)).mono ?_;rintro e w2 ⟨rfl,hx2⟩;obtain ⟨aC,bf,bU,bV⟩:=ax A0 ((((Ext.refl _).drew).trans hx1).trans hx2);have z0:=(A0.ext ((((Ext.refl _).drew).trans hx1).trans hx2)).lt;obtain ⟨aM,bD,cj,cq⟩:=ax A1 ((((Ext.refl _).drew).trans hx1).trans hx2);have z1:=(A1.ext ((((Ext.refl _).drew).trans hx1).trans hx2)).lt;obtain ⟨bj,bQ,ct,cA⟩:=ax A2 ((((Ext.refl _).drew).trans hx1).trans hx2);have z2:=(A2.ext ((((Ext.refl _).drew).trans hx1).trans hx2)).lt))
 have fin:=bm.gw (s:=s !=t) hr1 iX hx1 ⟨rfl,hx2⟩;go_wp2
 exact bodyPost_ret (by simp [results,results161,go_sem,bj,bQ];cases s<;>cases t<;>rfl) rfl (bm.bh fin x0.drew (Touch.two _ (by omega) (by rw [World.drew,Z0.o];omega) _ _))
theorem Ab (w:World) (s:Bool) (a b:Option Addr) (k c k' c' n m:Nat) (h:Raw w a k c n) (h':Raw w b k' c' m) (b1:len n<1000000000) (b2:len m<1000000000):
 Calls prog 192 #[.agg #[.bool s,.slice a k c],.agg #[.bool s,.slice b k' c']] w (bm (aZ s n+aZ s m) w):=by
 rw [←FJ];go_enter func192,ntmps192
 go_wp2
 obtain ⟨W,hW,x0,Z0,A0,A1,A2⟩:=gl w 117 [.bool s,.slice a k c] 117 [.bool s,.slice b k' c'] 117 [.bool false,.slice none 0 0];rw [←hW];clear hW;obtain ⟨aC,bf,bU,bV⟩:=ax A0 (Ext.refl _);have z0:=(A0.ext (Ext.refl _)).lt;obtain ⟨aM,bD,cj,cq⟩:=ax A1 (Ext.refl _);have z1:=(A1.ext (Ext.refl _)).lt;obtain ⟨bj,bQ,ct,cA⟩:=ax A2 (Ext.refl _);have z2:=(A2.ext (Ext.refl _)).lt
 go_region_held3 (fun w'=>w'.cell? ⟨w.heap.size,0,none⟩=some (.bool s)∧w'.cell? ⟨w.heap.size,1,none⟩=some (.slice a k c)∧w'.cell? ⟨w.heap.size+1,0,none⟩=some (.bool s)∧w'.cell? ⟨w.heap.size+1,1,none⟩=some (.slice b k' c')) (first|exact ⟨aC,bf,aM,bD⟩|(simp [go_sem,aC,bf,aM,bD])) (first
  |(go_at_call 217;refine (FB _ _ _ _ _ _ _ _ _ ((h.ext x0).ext (by exact (Ext.refl _).drew)) ((h'.ext x0).ext (by exact (Ext.refl _).drew)) b1 b2).mono ?_;rintro e w1 ⟨a1,c1,rfl,hr1,iX,hx1⟩;obtain ⟨aC,bf,bU,bV⟩:=ax A0 (((Ext.refl _).drew).trans hx1);have z0:=(A0.ext (((Ext.refl _).drew).trans hx1)).lt;obtain ⟨aM,bD,cj,cq⟩:=ax A1 (((Ext.refl _).drew).trans hx1);have z1:=(A1.ext (((Ext.refl _).drew).trans hx1)).lt;obtain ⟨bj,bQ,ct,cA⟩:=ax A2 (((Ext.refl _).drew).trans hx1);have z2:=(A2.ext (((Ext.refl _).drew).trans hx1)).lt)
  |(go_at_call 183;refine (eo _ _ _ _ _ (by have:=hr1.le;omega)).mono ?_;rintro e w2 ⟨rfl,hx2⟩;obtain ⟨aC,bf,bU,bV⟩:=ax A0 ((((Ext.refl _).drew).trans hx1).trans hx2);have z0:=(A0.ext ((((Ext.refl _).drew).trans hx1).trans hx2)).lt;obtain ⟨aM,bD,cj,cq⟩:=ax A1 ((((Ext.refl _).drew).trans hx1).trans hx2);have z1:=(A1.ext ((((Ext.refl _).drew).trans hx1).trans hx2)).lt;obtain ⟨bj,bQ,ct,cA⟩:=ax A2 ((((Ext.refl _).drew).trans hx1).trans hx2);have z2:=(A2.ext ((((Ext.refl _).drew).trans hx1).trans hx2)).lt))
 have fin:=bm.gw (s:=s) hr1 iX hx1 ⟨rfl,hx2⟩;go_wp2
 exact bodyPost_ret (by simp [results,results192,go_sem,bj,bQ]) rfl (bm.bh fin x0.drew (Touch.two _ (by omega) (by rw [World.drew,Z0.o];omega) _ _))
theorem xC (w:World) (s:Bool) (a b:Option Addr) (k c k' c' n m:Nat) (h:Raw w a k c n) (h':Raw w b k' c' m):
 Calls prog 192 #[.agg #[.bool s,.slice a k c],.agg #[.bool (!s),.slice b k' c']] w (bm (aZ s n+aZ (!s) m) w):=by
 have hne:(s== !s)=false:=by cases s<;>rfl
 by_cases hle:m≤n
 ·rw [←Ck s n m hle]
  go_enter func192,ntmps192
  go_wp2_with fail
  obtain ⟨W,hW,x0,Z0,A0,A1,A2⟩:=gl w 117 [.bool s,.slice a k c] 117 [.bool (!s),.slice b k' c'] 117 [.bool false,.slice none 0 0];rw [←hW];clear hW;have aC:=ax A0 (Ext.refl _);have z0:=(A0.ext (Ext.refl _)).lt;have aM:=ax A1 (Ext.refl _);have z1:=(A1.ext (Ext.refl _)).lt;obtain ⟨bj,bQ,ct,cA⟩:=ax A2 (Ext.refl _);have z2:=(A2.ext (Ext.refl _)).lt;refine (uO _ _ _ _ _ _ _ _ _ (h.ext x0) (h'.ext x0) hle).mono ?_;rintro e w1 ⟨a1,c1,rfl,hr1,iX,hx1⟩;have aC:=ax A0 hx1;have z0:=(A0.ext hx1).lt;have aM:=ax A1 hx1;have z1:=(A1.ext hx1).lt;obtain ⟨bj,bQ,ct,cA⟩:=ax A2 hx1;have z2:=(A2.ext hx1).lt;go_wp2_with fail
  refine (eo _ _ _ _ _ (by have:=hr1.le;omega)).mono ?_;rintro e w2 ⟨rfl,hx2⟩;have aC:=ax A0 (hx1.trans hx2);have z0:=(A0.ext (hx1.trans hx2)).lt;have aM:=ax A1 (hx1.trans hx2);have z1:=(A1.ext (hx1.trans hx2)).lt;obtain ⟨bj,bQ,ct,cA⟩:=ax A2 (hx1.trans hx2);have z2:=(A2.ext (hx1.trans hx2)).lt;have fin:=bm.gw (s:=s) hr1 iX hx1 ⟨rfl,hx2⟩;go_wp2
  exact bodyPost_ret (by simp [results,results192,go_sem,bj,bQ]) rfl (bm.bh fin x0 (Touch.two _ (by omega) (by rw [Z0.o];omega) _ _))
 ·rw [←Cm s n m (by omega)]
  go_enter func192,ntmps192
  go_wp2_with fail
  obtain ⟨W,hW,x0,Z0,A0,A1,A2⟩:=gl w 117 [.bool s,.slice a k c] 117 [.bool (!s),.slice b k' c'] 117 [.bool false,.slice none 0 0];rw [←hW];clear hW;have aC:=ax A0 (Ext.refl _);have z0:=(A0.ext (Ext.refl _)).lt;have aM:=ax A1 (Ext.refl _);have z1:=(A1.ext (Ext.refl _)).lt;obtain ⟨bj,bQ,ct,cA⟩:=ax A2 (Ext.refl _);have z2:=(A2.ext (Ext.refl _)).lt;refine (Ee _ _ _ _ _ _ _ _ _ (h.ext x0) (h'.ext x0) (by omega)).mono ?_;rintro e w1 ⟨rfl,ib⟩;have aC:=ax A0 ib.ext;have z0:=(A0.ext ib.ext).lt;have aM:=ax A1 ib.ext;have z1:=(A1.ext ib.ext).lt;obtain ⟨bj,bQ,ct,cA⟩:=ax A2 ib.ext;have z2:=(A2.ext ib.ext).lt;go_wp2_with fail
  refine (uO _ _ _ _ _ _ _ _ _ ((h'.ext x0).ext ib.ext) ((h.ext x0).ext ib.ext) (by omega)).mono ?_;rintro e w2 ⟨a1,c1,rfl,hr1,iX,hx1⟩;have aC:=ax A0 (ib.ext.trans hx1);have z0:=(A0.ext (ib.ext.trans hx1)).lt;have aM:=ax A1 (ib.ext.trans hx1);have z1:=(A1.ext (ib.ext.trans hx1)).lt;obtain ⟨bj,bQ,ct,cA⟩:=ax A2 (ib.ext.trans hx1);have z2:=(A2.ext (ib.ext.trans hx1)).lt;go_wp2_with fail
  refine (eo _ _ _ _ _ (by have:=hr1.le;omega)).mono ?_;rintro e w3 ⟨rfl,hx2⟩;have aC:=ax A0 ((ib.ext.trans hx1).trans hx2);have z0:=(A0.ext ((ib.ext.trans hx1).trans hx2)).lt;have aM:=ax A1 ((ib.ext.trans hx1).trans hx2);have z1:=(A1.ext ((ib.ext.trans hx1).trans hx2)).lt;obtain ⟨bj,bQ,ct,cA⟩:=ax A2 ((ib.ext.trans hx1).trans hx2);have z2:=(A2.ext ((ib.ext.trans hx1).trans hx2)).lt;have fin:=bm.gw (s:= !s) hr1 (iX.mono ib.ext.size) (ib.ext.trans hx1) ⟨rfl,hx2⟩;go_wp2
  exact bodyPost_ret (by simp [results,results192,go_sem,bj,bQ]) rfl (bm.bh fin x0 (Touch.two _ (by omega) (by rw [Z0.o];omega) _ _))
theorem FK (w:World) (s t:Bool) (a b:Option Addr) (k c k' c' n m:Nat) (h:Raw w a k c n) (h':Raw w b k' c' m) (b1:len n<1000000000) (b2:len m<1000000000):
 Calls prog 192 #[.agg #[.bool s,.slice a k c],.agg #[.bool t,.slice b k' c']] w (bm (aZ s n+aZ t m) w):=by
 by_cases e:t=s
 ·subst e;exact Ab w t a b k c k' c' n m h h' b1 b2
 ·obtain rfl:t= !s:=by cases s<;>cases t<;>simp_all
  exact xC w s a b k c k' c' n m h h'
theorem jt (w:World) (s:Bool) (a:Option Addr) (k c n:Nat) (h:Raw w a k c n):
 Calls prog 185 #[.agg #[.bool s,.slice a k c]] w fun e w'=>e= .returned (.int .i64 (aZ s n).sign)∧Ext w w':=by
 have hb:=aX w 117 [.bool s,.slice a k c];by_cases h0:n=0
 ·subst h0
  have hc:fc 0 0=0:=rfl;go_enter func185,ntmps185
  go_wp2_with fail
  refine (dJ _ _ _ _ _ _ _ _ _ (h.ext ((Ext.refl _).alloc _)) (Raw.nil _)).mono ?_;rintro e w1 ⟨rfl,hq⟩;rw [hc];go_wp2
  go_ret;exact ⟨by rw [oK];rfl,(((Ext.refl _).alloc _).trans hq.ext)⟩
 ·have hc:fc n 0=1:=by unfold fc;rw [if_neg (by omega),if_neg h0]
  have HC:=ae hc;clear hc
  cases s
  ·have e1:(aZ false n).sign=1:=by rw [fj,Int.sign_eq_one_of_pos (by omega)]
   have E1:=ae e1;clear e1
   go_enter func185,ntmps185
   go_wp2_with fail
   refine (dJ _ _ _ _ _ _ _ _ _ (h.ext ((Ext.refl _).alloc _)) (Raw.nil _)).mono ?_;rintro e w1 ⟨rfl,hq⟩;rw [HC.o];have k0:=ax (aQ.alloc w 117 [.bool false,.slice a k c]) hq.ext;go_wp2
   go_ret;exact ⟨cd E1.o.symm,(((Ext.refl _).alloc _).trans hq.ext)⟩
  ·have e1:(aZ true n).sign= -1:=by rw [gu,Int.sign_eq_neg_one_of_neg (by omega)]
   have E1:=ae e1;clear e1
   go_enter func185,ntmps185
   go_wp2_with fail
   refine (dJ _ _ _ _ _ _ _ _ _ (h.ext ((Ext.refl _).alloc _)) (Raw.nil _)).mono ?_;rintro e w1 ⟨rfl,hq⟩;rw [HC.o];have k0:=ax (aQ.alloc w 117 [.bool true,.slice a k c]) hq.ext;go_wp2
   go_ret;exact ⟨cd E1.o.symm,(((Ext.refl _).alloc _).trans hq.ext)⟩
end Go.Proofs.YtkpngkdgphojlaaGreat
