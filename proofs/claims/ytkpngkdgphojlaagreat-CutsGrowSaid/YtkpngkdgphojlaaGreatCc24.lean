/- Texts of the proof. -/
import Derived.Test.YtkpngkdgphojlaaGreatCc23
set_option linter.all false
namespace Go.Proofs.YtkpngkdgphojlaaGreat
open Go.RowKit
theorem jv (z:Int):dw (decide (z<0)) z.natAbs=z:=by
 unfold dw;by_cases h:z<0<;>simp [h]<;>omega
set_option maxHeartbeats 400000 in
theorem iA (w:World) (s:Bool) (a:Option Addr) (k c n:Nat) (h:Raw w a k c n):
 Calls Tryz.prog 175 #[.bool s,.slice a k c] w (bX (dw s n) w):=by
 have hl:=h.eH;have hle:=h.le;cases s with
 |false=>
  go_enter Tryz.func175,Tryz.ntmps175
  go_wp2_with fail
  obtain ⟨W,hW,x0,Z0,A0⟩:=aB w 117 [.bool false,.slice none 0 0];rw [←hW];clear hW;obtain ⟨bY,bZ,cD,cE⟩:=aO A0 (Ext.refl _);have z0:=(A0.ext (Ext.refl _)).lt;refine (dV _ _ _ _ _ (h.ext x0)).mono ?_;rintro e w1 ⟨a1,c1,rfl,hr1,xW,hx1⟩;obtain ⟨bY,bZ,cD,cE⟩:=aO A0 hx1;have z0:=(A0.ext hx1).lt;have fin:=bX.qE (s:=false) hr1 xW hx1 ⟨rfl,Ext.refl _⟩;rw [Bool.false_and]at fin;go_wp2_with fail
  exact bodyPost_ret (by simp [results,Tryz.results175,go_sem,bY,bZ]) rfl (bX.cI fin x0 (Touch.two _ (Nat.le_refl _) (by rw [Z0.out];omega) _ _))
 |true=>
  by_cases h0:0<len n
  ·have d0:decide ((0:Int)<((len n:Nat):Int))=true:=by simp;exact h0
   go_enter Tryz.func175,Tryz.ntmps175
   go_wp2_with fail
   obtain ⟨W,hW,x0,Z0,A0⟩:=aB w 117 [.bool false,.slice none 0 0];rw [←hW];clear hW;obtain ⟨bY,bZ,cD,cE⟩:=aO A0 (Ext.refl _);have z0:=(A0.ext (Ext.refl _)).lt;refine (dV _ _ _ _ _ (h.ext x0)).mono ?_;rintro e w1 ⟨a1,c1,rfl,hr1,xW,hx1⟩;obtain ⟨bY,bZ,cD,cE⟩:=aO A0 hx1;have z0:=(A0.ext hx1).lt;have fin:=bX.qE (s:=true) hr1 xW hx1 ⟨rfl,Ext.refl _⟩;rw [decide_eq_true h0,Bool.true_and]at fin;go_wp2_with fail
   exact bodyPost_ret (by simp [results,Tryz.results175,go_sem,bY,bZ]) rfl (bX.cI fin x0 (Touch.two _ (Nat.le_refl _) (by rw [Z0.out];omega) _ _))
  ·have d0:decide ((0:Int)<((len n:Nat):Int))=false:=by simp;omega
   go_enter Tryz.func175,Tryz.ntmps175
   go_wp2_with fail
   obtain ⟨W,hW,x0,Z0,A0⟩:=aB w 117 [.bool false,.slice none 0 0];rw [←hW];clear hW;obtain ⟨bY,bZ,cD,cE⟩:=aO A0 (Ext.refl _);have z0:=(A0.ext (Ext.refl _)).lt;refine (dV _ _ _ _ _ (h.ext x0)).mono ?_;rintro e w1 ⟨a1,c1,rfl,hr1,xW,hx1⟩;obtain ⟨bY,bZ,cD,cE⟩:=aO A0 hx1;have z0:=(A0.ext hx1).lt;have fin:=bX.qE (s:=true) hr1 xW hx1 ⟨rfl,Ext.refl _⟩;rw [decide_eq_false h0,Bool.and_false]at fin;go_wp2_with fail
   exact bodyPost_ret (by simp [results,Tryz.results175,go_sem,bY,bZ]) rfl (bX.cI fin x0 (Touch.two _ (Nat.le_refl _) (by rw [Z0.out];omega) _ _))
set_option maxHeartbeats 400000 in
theorem pN (w:World) (s:Bool) (a:Option Addr) (k c n:Nat) (h:Raw w a k c n):
 Calls Tryz.prog 170 #[.agg #[.bool s,.slice a k c]] w (bX (dw s n) w):=by
 go_enter Tryz.func170,Tryz.ntmps170
 go_wp2_with fail
 obtain ⟨W,hW,x0,Z0,A0,A1⟩:=fP w 117 [.bool s,.slice a k c] 117 [.bool false,.slice none 0 0];rw [←hW];clear hW;obtain ⟨bY,bZ,cD,cE⟩:=aO A0 (Ext.refl _);have z0:=(A0.ext (Ext.refl _)).lt;obtain ⟨cS,cT,dy,dz⟩:=aO A1 (Ext.refl _);have z1:=(A1.ext (Ext.refl _)).lt;refine (iA _ s _ _ _ _ (h.ext x0)).mono ?_;rintro e w1 fin;obtain ⟨a1,c1,rfl,hr1,xW,hx1⟩:=id fin;obtain ⟨bY,bZ,cD,cE⟩:=aO A0 hx1;have z0:=(A0.ext hx1).lt;obtain ⟨cS,cT,dy,dz⟩:=aO A1 hx1;have z1:=(A1.ext hx1).lt;go_wp2_with fail
 exact bodyPost_ret (by simp [results,Tryz.results170,go_sem,cS,cT]) rfl (bX.cI fin x0 (Touch.two _ (by omega) (by rw [Z0.out];omega) _ _))
set_option maxHeartbeats 400000 in
theorem BJ (w:World) (s:Bool) (a:Option Addr) (k c n:Nat) (h:Raw w a k c n):
 Calls Tryz.prog 174 #[.agg #[.bool s,.slice a k c]] w (bX (-dw s n) w):=by
 rw [←xm];go_enter Tryz.func174,Tryz.ntmps174
 go_wp2_with fail
 obtain ⟨W,hW,x0,Z0,A0,A1⟩:=fP w 117 [.bool s,.slice a k c] 117 [.bool false,.slice none 0 0];rw [←hW];clear hW;obtain ⟨bY,bZ,cD,cE⟩:=aO A0 (Ext.refl _);have z0:=(A0.ext (Ext.refl _)).lt;obtain ⟨cS,cT,dy,dz⟩:=aO A1 (Ext.refl _);have z1:=(A1.ext (Ext.refl _)).lt;refine (iA _ (!s) _ _ _ _ (h.ext x0)).mono ?_;rintro e w1 fin;obtain ⟨a1,c1,rfl,hr1,xW,hx1⟩:=id fin;obtain ⟨bY,bZ,cD,cE⟩:=aO A0 hx1;have z0:=(A0.ext hx1).lt;obtain ⟨cS,cT,dy,dz⟩:=aO A1 hx1;have z1:=(A1.ext hx1).lt;go_wp2_with fail
 exact bodyPost_ret (by simp [results,Tryz.results174,go_sem,cS,cT]) rfl (bX.cI fin x0 (Touch.two _ (by omega) (by rw [Z0.out];omega) _ _))
set_option maxHeartbeats 400000 in
theorem Nn (w:World) (s:Bool) (a:Option Addr) (k c n:Nat) (h:Raw w a k c n):
 Calls Tryz.prog 209 #[.agg #[.bool s,.slice a k c]] w (bX ((n:Int)) w):=by
 rw [←iM];go_enter Tryz.func209,Tryz.ntmps209
 go_wp2_with fail
 obtain ⟨W,hW,x0,Z0,A0,A1⟩:=fP w 117 [.bool s,.slice a k c] 117 [.bool false,.slice none 0 0];rw [←hW];clear hW;obtain ⟨bY,bZ,cD,cE⟩:=aO A0 (Ext.refl _);have z0:=(A0.ext (Ext.refl _)).lt;obtain ⟨cS,cT,dy,dz⟩:=aO A1 (Ext.refl _);have z1:=(A1.ext (Ext.refl _)).lt;refine (iA _ false _ _ _ _ (h.ext x0)).mono ?_;rintro e w1 fin;obtain ⟨a1,c1,rfl,hr1,xW,hx1⟩:=id fin;obtain ⟨bY,bZ,cD,cE⟩:=aO A0 hx1;have z0:=(A0.ext hx1).lt;obtain ⟨cS,cT,dy,dz⟩:=aO A1 hx1;have z1:=(A1.ext hx1).lt;go_wp2_with fail
 exact bodyPost_ret (by simp [results,Tryz.results209,go_sem,cS,cT]) rfl (bX.cI fin x0 (Touch.two _ (by omega) (by rw [Z0.out];omega) _ _))
set_option maxHeartbeats 400000 in
theorem oG (w:World) (v:Int) (h1: -9223372036854775808≤v) (h2:v≤9223372036854775807):
 Calls Tryz.prog 118 #[.int .i64 v] w (bX v w):=by
 by_cases h0:v<0
 ·obtain ⟨n,rfl⟩: ∃n:Nat,v= -(n:Int):=⟨v.natAbs,by omega⟩
  go_enter Tryz.func118,Tryz.ntmps118
  go_wp2_with fail
  obtain ⟨W,hW,x0,Z0,A0⟩:=aB w 117 [.bool false,.slice none 0 0];rw [←hW];clear hW;obtain ⟨bY,bZ,cD,cE⟩:=aO A0 (Ext.refl _);have z0:=(A0.ext (Ext.refl _)).lt;rw [show-(-(n:Int)+1)+1=(n:Int)from by omega];refine (iV _ n (by omega)).mono ?_;rintro e w1 ⟨a1,c1,rfl,hr1,xW,hx1⟩;obtain ⟨bY,bZ,cD,cE⟩:=aO A0 hx1;have z0:=(A0.ext hx1).lt;go_wp2_with fail
  refine (iA _ true _ _ _ _ hr1).mono ?_;rintro e w2 xr;have fin:=xr.base hx1;obtain ⟨a2,c2,rfl,hr2,hf2,hx2⟩:=id fin;obtain ⟨bY,bZ,cD,cE⟩:=aO A0 hx2;have z0:=(A0.ext hx2).lt;go_wp2_with fail
  exact bodyPost_ret (by simp [results,Tryz.results118,go_sem,bY,bZ]) rfl (bX.cI fin x0 (Touch.two _ (Nat.le_refl _) (by rw [Z0.out];omega) _ _))
 ·obtain ⟨n,rfl⟩: ∃n:Nat,v=(n:Int):=⟨v.natAbs,by omega⟩
  have e1:IntKind.u64.wrap (n:Int)=(n:Int):=by rw [IntKind.wrap_u64];omega
  go_enter Tryz.func118,Tryz.ntmps118
  go_wp2_with fail
  obtain ⟨W,hW,x0,Z0,A0⟩:=aB w 117 [.bool false,.slice none 0 0];rw [←hW];clear hW;obtain ⟨bY,bZ,cD,cE⟩:=aO A0 (Ext.refl _);have z0:=(A0.ext (Ext.refl _)).lt;refine (iV _ n (by omega)).mono ?_;rintro e w1 ⟨a1,c1,rfl,hr1,xW,hx1⟩;obtain ⟨bY,bZ,cD,cE⟩:=aO A0 hx1;have z0:=(A0.ext hx1).lt;go_wp2_with fail
  refine (iA _ false _ _ _ _ hr1).mono ?_;rintro e w2 xr;have fin:=xr.base hx1;obtain ⟨a2,c2,rfl,hr2,hf2,hx2⟩:=id fin;obtain ⟨bY,bZ,cD,cE⟩:=aO A0 hx2;have z0:=(A0.ext hx2).lt;go_wp2_with fail
  exact bodyPost_ret (by simp [results,Tryz.results118,go_sem,bY,bZ]) rfl (bX.cI fin x0 (Touch.two _ (Nat.le_refl _) (by rw [Z0.out];omega) _ _))
set_option maxHeartbeats 1000000 in
theorem zI (w:World) (s:Bool) (a b:Option Addr) (k c k' c' n m:Nat) (h:Raw w a k c n) (h':Raw w b k' c' m) (b1:k<1000000000) (b2:k'<1000000000):
 Calls Tryz.prog 208 #[.agg #[.bool s,.slice a k c],.agg #[.bool s,.slice b k' c']] w (bX (dw s n+dw s m) w):=by
 rw [←J0];go_enter Tryz.func208,Tryz.ntmps208
 go_wp2_with fail
 obtain ⟨W,hW,x0,Z0,A0,A1,A2⟩:=ik w 117 [.bool s,.slice a k c] 117 [.bool s,.slice b k' c'] 117 [.bool false,.slice none 0 0];rw [←hW];clear hW;obtain ⟨bY,bZ,cD,cE⟩:=aO A0 (Ext.refl _);have z0:=(A0.ext (Ext.refl _)).lt;obtain ⟨cS,cT,dy,dz⟩:=aO A1 (Ext.refl _);have z1:=(A1.ext (Ext.refl _)).lt;obtain ⟨cV,cW,dJ,dK⟩:=aO A2 (Ext.refl _);have z2:=(A2.ext (Ext.refl _)).lt
 go_region_held3 (fun w'=>w'.cell? ⟨w.heap.size,0,none⟩=some (.bool s)∧w'.cell? ⟨w.heap.size,1,none⟩=some (.slice a k c)∧w'.cell? ⟨w.heap.size+1,0,none⟩=some (.bool s)∧w'.cell? ⟨w.heap.size+1,1,none⟩=some (.slice b k' c')) (first|exact ⟨bY,bZ,cS,cT⟩|(simp [go_sem,bY,bZ,cS,cT])) (first
  |(go_at_call 226;refine (oD _ _ _ _ _ _ _ _ _ ((h.ext x0).ext (by exact (Ext.refl _).drew)) ((h'.ext x0).ext (by exact (Ext.refl _).drew)) b1 b2).mono ?_;rintro e w1 ⟨a1,c1,rfl,hr1,xW,hx1⟩;obtain ⟨bY,bZ,cD,cE⟩:=aO A0 (((Ext.refl _).drew).trans hx1);have z0:=(A0.ext (((Ext.refl _).drew).trans hx1)).lt;obtain ⟨cS,cT,dy,dz⟩:=aO A1 (((Ext.refl _).drew).trans hx1);have z1:=(A1.ext (((Ext.refl _).drew).trans hx1)).lt;obtain ⟨cV,cW,dJ,dK⟩:=aO A2 (((Ext.refl _).drew).trans hx1);have z2:=(A2.ext (((Ext.refl _).drew).trans hx1)).lt)
  |(go_at_call 175;refine (iA _ _ _ _ _ _ hr1).mono ?_;rintro e w2 ⟨a2,c2,rfl,hr2,hf2,hx2⟩;obtain ⟨bY,bZ,cD,cE⟩:=aO A0 ((((Ext.refl _).drew).trans hx1).trans hx2);have z0:=(A0.ext ((((Ext.refl _).drew).trans hx1).trans hx2)).lt;obtain ⟨cS,cT,dy,dz⟩:=aO A1 ((((Ext.refl _).drew).trans hx1).trans hx2);have z1:=(A1.ext ((((Ext.refl _).drew).trans hx1).trans hx2)).lt;obtain ⟨cV,cW,dJ,dK⟩:=aO A2 ((((Ext.refl _).drew).trans hx1).trans hx2);have z2:=(A2.ext ((((Ext.refl _).drew).trans hx1).trans hx2)).lt))
 have fin:bX (dw s (n+m)) W.drew _ w2:=⟨a2,c2,rfl,hr2,hf2.mono hx1.size,hx1.trans hx2⟩;go_wp2
 exact bodyPost_ret (by simp [results,Tryz.results208,go_sem,cV,cW]) rfl (bX.cI fin x0.drew (Touch.two _ (by omega) (by rw [World.drew,Z0.out];omega) _ _))
set_option maxHeartbeats 1000000 in
theorem xt (w:World) (s:Bool) (a b:Option Addr) (k c k' c' n m:Nat) (h:Raw w a k c n) (h':Raw w b k' c' m):
 Calls Tryz.prog 208 #[.agg #[.bool s,.slice a k c],.agg #[.bool (!s),.slice b k' c']] w (bX (dw s n+dw (!s) m) w):=by
 have hne:(s== !s)=false:=by cases s<;>rfl
 by_cases hle:m≤n
 ·rw [←Hf s n m hle]
  go_enter Tryz.func208,Tryz.ntmps208
  go_wp2_with fail
  obtain ⟨W,hW,x0,Z0,A0,A1,A2⟩:=ik w 117 [.bool s,.slice a k c] 117 [.bool (!s),.slice b k' c'] 117 [.bool false,.slice none 0 0];rw [←hW];clear hW;obtain ⟨bY,bZ,cD,cE⟩:=aO A0 (Ext.refl _);have z0:=(A0.ext (Ext.refl _)).lt;obtain ⟨cS,cT,dy,dz⟩:=aO A1 (Ext.refl _);have z1:=(A1.ext (Ext.refl _)).lt;obtain ⟨cV,cW,dJ,dK⟩:=aO A2 (Ext.refl _);have z2:=(A2.ext (Ext.refl _)).lt;refine (xp _ _ _ _ _ _ _ _ _ (h.ext x0) (h'.ext x0) hle).mono ?_;rintro e w1 ⟨a1,c1,rfl,hr1,xW,hx1⟩;obtain ⟨bY,bZ,cD,cE⟩:=aO A0 hx1;have z0:=(A0.ext hx1).lt;obtain ⟨cS,cT,dy,dz⟩:=aO A1 hx1;have z1:=(A1.ext hx1).lt;obtain ⟨cV,cW,dJ,dK⟩:=aO A2 hx1;have z2:=(A2.ext hx1).lt;go_wp2_with fail
  refine (iA _ s _ _ _ _ hr1).mono ?_;rintro e w2 xr;have fin:=xr.base hx1;obtain ⟨a2,c2,rfl,hr2,hf2,hx2⟩:=id fin;obtain ⟨bY,bZ,cD,cE⟩:=aO A0 hx2;have z0:=(A0.ext hx2).lt;obtain ⟨cS,cT,dy,dz⟩:=aO A1 hx2;have z1:=(A1.ext hx2).lt;obtain ⟨cV,cW,dJ,dK⟩:=aO A2 hx2;have z2:=(A2.ext hx2).lt;go_wp2
  exact bodyPost_ret (by simp [results,Tryz.results208,go_sem,cV,cW]) rfl (bX.cI fin x0 (Touch.two _ (by omega) (by rw [Z0.out];omega) _ _))
 ·rw [←Hg s n m (by omega)]
  go_enter Tryz.func208,Tryz.ntmps208
  go_wp2_with fail
  obtain ⟨W,hW,x0,Z0,A0,A1,A2⟩:=ik w 117 [.bool s,.slice a k c] 117 [.bool (!s),.slice b k' c'] 117 [.bool false,.slice none 0 0];rw [←hW];clear hW;obtain ⟨bY,bZ,cD,cE⟩:=aO A0 (Ext.refl _);have z0:=(A0.ext (Ext.refl _)).lt;obtain ⟨cS,cT,dy,dz⟩:=aO A1 (Ext.refl _);have z1:=(A1.ext (Ext.refl _)).lt;obtain ⟨cV,cW,dJ,dK⟩:=aO A2 (Ext.refl _);have z2:=(A2.ext (Ext.refl _)).lt;refine (qG _ _ _ _ _ _ _ _ _ (h.ext x0) (h'.ext x0) (by omega)).mono ?_;rintro e w1 ⟨rfl,uw⟩;obtain ⟨bY,bZ,cD,cE⟩:=aO A0 uw;have z0:=(A0.ext uw).lt;obtain ⟨cS,cT,dy,dz⟩:=aO A1 uw;have z1:=(A1.ext uw).lt;obtain ⟨cV,cW,dJ,dK⟩:=aO A2 uw;have z2:=(A2.ext uw).lt;go_wp2_with fail
  refine (xp _ _ _ _ _ _ _ _ _ ((h'.ext x0).ext uw) ((h.ext x0).ext uw) (by omega)).mono ?_;rintro e w2 ⟨a1,c1,rfl,hr1,xW,hx1⟩;obtain ⟨bY,bZ,cD,cE⟩:=aO A0 (uw.trans hx1);have z0:=(A0.ext (uw.trans hx1)).lt;obtain ⟨cS,cT,dy,dz⟩:=aO A1 (uw.trans hx1);have z1:=(A1.ext (uw.trans hx1)).lt;obtain ⟨cV,cW,dJ,dK⟩:=aO A2 (uw.trans hx1);have z2:=(A2.ext (uw.trans hx1)).lt;go_wp2_with fail
  refine (iA _ (!s) _ _ _ _ hr1).mono ?_;rintro e w3 xr;have fin:=xr.base (uw.trans hx1);obtain ⟨a2,c2,rfl,hr2,hf2,hx2⟩:=id fin;obtain ⟨bY,bZ,cD,cE⟩:=aO A0 hx2;have z0:=(A0.ext hx2).lt;obtain ⟨cS,cT,dy,dz⟩:=aO A1 hx2;have z1:=(A1.ext hx2).lt;obtain ⟨cV,cW,dJ,dK⟩:=aO A2 hx2;have z2:=(A2.ext hx2).lt;go_wp2
  exact bodyPost_ret (by simp [results,Tryz.results208,go_sem,cV,cW]) rfl (bX.cI fin x0 (Touch.two _ (by omega) (by rw [Z0.out];omega) _ _))
theorem BK (w:World) (s t:Bool) (a b:Option Addr) (k c k' c' n m:Nat) (h:Raw w a k c n) (h':Raw w b k' c' m) (b1:k<1000000000) (b2:k'<1000000000):
 Calls Tryz.prog 208 #[.agg #[.bool s,.slice a k c],.agg #[.bool t,.slice b k' c']] w (bX (dw s n+dw t m) w):=by
 by_cases e:t=s
 ·subst e;exact zI w t a b k c k' c' n m h h' b1 b2
 ·obtain rfl:t= !s:=by cases s<;>cases t<;>simp_all
  exact xt w s a b k c k' c' n m h h'
set_option maxHeartbeats 1000000 in
theorem Hm (w:World) (s t:Bool) (a b:Option Addr) (k c k' c' n m:Nat) (h:Raw w a k c n) (h':Raw w b k' c' m) (b1:len n<900000000) (b2:len m<900000000):
 Calls Tryz.prog 172 #[.agg #[.bool s,.slice a k c],.agg #[.bool t,.slice b k' c']] w (bX (Nat.gcd n m:Nat) w):=by
 rw [←iM];go_enter Tryz.func172,Tryz.ntmps172
 go_wp2_with fail
 obtain ⟨W,hW,x0,Z0,A0,A1,A2⟩:=ik w 117 [.bool s,.slice a k c] 117 [.bool t,.slice b k' c'] 117 [.bool false,.slice none 0 0];rw [←hW];clear hW;obtain ⟨bY,bZ,cD,cE⟩:=aO A0 (Ext.refl _);have z0:=(A0.ext (Ext.refl _)).lt;obtain ⟨cS,cT,dy,dz⟩:=aO A1 (Ext.refl _);have z1:=(A1.ext (Ext.refl _)).lt;obtain ⟨cV,cW,dJ,dK⟩:=aO A2 (Ext.refl _);have z2:=(A2.ext (Ext.refl _)).lt;refine (Nl _ _ _ _ _ _ _ _ _ (h.ext x0) (h'.ext x0) b1 b2).mono ?_;rintro e w1 ⟨a1,c1,rfl,hr1,xW,hx1⟩;obtain ⟨bY,bZ,cD,cE⟩:=aO A0 hx1;have z0:=(A0.ext hx1).lt;obtain ⟨cS,cT,dy,dz⟩:=aO A1 hx1;have z1:=(A1.ext hx1).lt;obtain ⟨cV,cW,dJ,dK⟩:=aO A2 hx1;have z2:=(A2.ext hx1).lt;go_wp2_with fail
 refine (iA _ false _ _ _ _ hr1).mono ?_;rintro e w2 xr;have fin:=xr.base hx1;obtain ⟨a2,c2,rfl,hr2,hf2,hx2⟩:=id fin;obtain ⟨bY,bZ,cD,cE⟩:=aO A0 hx2;have z0:=(A0.ext hx2).lt;obtain ⟨cS,cT,dy,dz⟩:=aO A1 hx2;have z1:=(A1.ext hx2).lt;obtain ⟨cV,cW,dJ,dK⟩:=aO A2 hx2;have z2:=(A2.ext hx2).lt;go_wp2
 exact bodyPost_ret (by simp [results,Tryz.results172,go_sem,cV,cW]) rfl (bX.cI fin x0 (Touch.two _ (by omega) (by rw [Z0.out];omega) _ _))
set_option maxHeartbeats 1000000 in
set_option maxRecDepth 100000 in
theorem Np (w:World) (s t:Bool) (a b:Option Addr) (k c k' c' n m:Nat) (h:Raw w a k c n) (h':Raw w b k' c' m) (b1:k<1000000000) (b2:len m<1000000000):
 Calls Tryz.prog 210 #[.agg #[.bool s,.slice a k c],.agg #[.bool t,.slice b k' c']] w (bX (dw s n-dw t m) w):=by
 obtain ⟨z,hz⟩: ∃z,z= -dw t m:=⟨_,rfl⟩
 have hN: ∀V,Ext w V→Calls Tryz.prog 174 #[.agg #[.bool t,.slice b k' c']] V (bX z V):=by
  intro V hV;rw [hz];exact BJ V t b k' c' m (h'.ext hV)
 have hA: ∀V a' c',Ext w V→Raw V a' (len z.natAbs) c' z.natAbs→Calls Tryz.prog 208 #[.agg #[.bool s,.slice a k c],.agg #[.bool (decide (z<0)),.slice a' (len z.natAbs) c']] V (bX (dw s n-dw t m) V):=by
  intro V a' c' hV hR;have:=BK V s (decide (z<0)) a a' k c _ c' n _ (h.ext hV) hR b1 (by rw [hz,Int.natAbs_neg,cP];exact b2);have e:dw s n+z=dw s n-dw t m:=by rw [hz,←Int.sub_eq_add_neg]
  rw [jv,e]at this;exact this
 have HA:=ae hA;have HN:=ae hN;clear hA hN hz
 obtain ⟨zr,Za⟩: ∃zr,zr=dw s n-dw t m:=⟨_,rfl⟩;rw [←Za]at HA⊢;clear Za;go_enter Tryz.func210,Tryz.ntmps210
 go_wp2_with fail
 obtain ⟨W,hW,x0,Z0,A0,A1,A2⟩:=ik w 117 [.bool s,.slice a k c] 117 [.bool t,.slice b k' c'] 117 [.bool false,.slice none 0 0];rw [←hW];clear hW;obtain ⟨bY,bZ,cD,cE⟩:=aO A0 (Ext.refl _);have z0:=(A0.ext (Ext.refl _)).lt;obtain ⟨cS,cT,dy,dz⟩:=aO A1 (Ext.refl _);have z1:=(A1.ext (Ext.refl _)).lt;obtain ⟨cV,cW,dJ,dK⟩:=aO A2 (Ext.refl _);have z2:=(A2.ext (Ext.refl _)).lt
 go_region_held3 (fun w'=>w'.cell? ⟨w.heap.size,0,none⟩=some (.bool s)∧w'.cell? ⟨w.heap.size,1,none⟩=some (.slice a k c)∧w'.cell? ⟨w.heap.size+1,0,none⟩=some (.bool t)∧w'.cell? ⟨w.heap.size+1,1,none⟩=some (.slice b k' c')) (first|exact ⟨bY,bZ,cS,cT⟩|(simp [go_sem,bY,bZ,cS,cT])) (first
  |(go_at_call 174;refine (HN.out _ (by exact x0.drew)).mono ?_;rintro e w1 ⟨a1,c1,rfl,hr1,xW,hx1⟩;obtain ⟨bY,bZ,cD,cE⟩:=aO A0 (((Ext.refl _).drew).trans hx1);have z0:=(A0.ext (((Ext.refl _).drew).trans hx1)).lt;obtain ⟨cS,cT,dy,dz⟩:=aO A1 (((Ext.refl _).drew).trans hx1);have z1:=(A1.ext (((Ext.refl _).drew).trans hx1)).lt;obtain ⟨cV,cW,dJ,dK⟩:=aO A2 (((Ext.refl _).drew).trans hx1);have z2:=(A2.ext (((Ext.refl _).drew).trans hx1)).lt)
  |(go_at_call 208;refine (HA.out _ _ _ (x0.drew.trans hx1) hr1).mono ?_;rintro e w2 ⟨a2,c2,rfl,hr2,hf2,hx2⟩;obtain ⟨bY,bZ,cD,cE⟩:=aO A0 ((((Ext.refl _).drew).trans hx1).trans hx2);have z0:=(A0.ext ((((Ext.refl _).drew).trans hx1).trans hx2)).lt;obtain ⟨cS,cT,dy,dz⟩:=aO A1 ((((Ext.refl _).drew).trans hx1).trans hx2);have z1:=(A1.ext ((((Ext.refl _).drew).trans hx1).trans hx2)).lt;obtain ⟨cV,cW,dJ,dK⟩:=aO A2 ((((Ext.refl _).drew).trans hx1).trans hx2);have z2:=(A2.ext ((((Ext.refl _).drew).trans hx1).trans hx2)).lt))
 have fin:bX zr W.drew _ w2:=⟨a2,c2,rfl,hr2,hf2.mono hx1.size,hx1.trans hx2⟩;go_wp2
 exact bodyPost_ret (by simp [results,Tryz.results210,go_sem,cV,cW]) rfl (bX.cI fin x0.drew (Touch.two _ (by omega) (by rw [World.drew,Z0.out];omega) _ _))
theorem kh.VN {w W w4 w5:World} {a a':Option Addr} {c c':Nat} {x y:Int} (h:Raw w4 a (len x.natAbs) c x.natAbs) (h':Raw w4 a' (len y.natAbs) c' y.natAbs) (hf:Fr W.heap.size a) (hf':Fr W.heap.size a') (hW:Ext w W) (h2:Ext w w4)
 (t:Touch w.heap.size W.heap.size w4 w5):kh x y w (.returned (.tuple #[.agg #[.bool (decide (x<0)),.slice a (len x.natAbs) c],.agg #[.bool (decide (y<0)),.slice a' (len y.natAbs) c'],.bool true])) w5:=
 ⟨a,c,a',c',rfl,h.cI t hf.out,hf.mono hW.size,h'.cI t hf'.out,hf'.mono hW.size,h2.pL t⟩
theorem aG.zC {w:World} {b:Nat} {T:TypeId} {x y:Value} (h:aG w b T [x,y]) (u v:Value):aG ((w.setCell ⟨b,0,none⟩ u).setCell ⟨b,1,none⟩ v) b T [u,v]:=(h.set 0 u).set 1 v
theorem aG.iN {w:World} {b b':Nat} {T:TypeId} {vs:List Value} (h:aG w b T vs) (u v:Value) (hb:b'≠b):aG ((w.setCell ⟨b',0,none⟩ u).setCell ⟨b',1,none⟩ v) b T vs:=(h.other _ _ hb).other _ _ hb
set_option maxHeartbeats 400000 in
theorem sI (w:World) (s:Bool) (a:Option Addr) (k c n:Nat) (h:Raw w a k c n):
 Calls Tryz.prog 128 #[.agg #[.bool s,.slice a k c]] w fun e w'=>e= .returned (.int .i64 (dw s n).sign)∧Ext w w':=by
 have hN:=fun V (hV:Ext w V)=>pN V s a k c n (h.ext hV);generalize dw s n=z at hN⊢;have HN:=ae hN;clear hN
 go_enter Tryz.func128,Tryz.ntmps128
 go_wp2_with fail
 obtain ⟨W,hW,x0,Z0,A0⟩:=aB w 117 [.bool s,.slice a k c];rw [←hW];clear hW;obtain ⟨bY,bZ,cD,cE⟩:=aO A0 (Ext.refl _);have z0:=(A0.ext (Ext.refl _)).lt;refine (HN.out _ x0).mono ?_;rintro e w1 ⟨a1,c1,rfl,hr1,xW,hx1⟩;obtain ⟨bY,bZ,cD,cE⟩:=aO A0 hx1;have z0:=(A0.ext hx1).lt;have fin: ∀v0 v1,Ext w ((w1.setCell ⟨w.heap.size,0,none⟩ v0).setCell ⟨w.heap.size,1,none⟩ v1):=fun v0 v1=>x0.cI hx1 (Touch.two _ (Nat.le_refl _) (by rw [Z0.out];omega) _ _);have Nf:=ae fin;clear fin
 have lz:=hr1.le;rcases Int.lt_trichotomy z 0 with hz|hz|hz
 ·have hs:=Int.sign_eq_neg_one_of_neg hz
  have HS:=ae hs;clear hs
  rw [decide_eq_true hz];go_wp2_with fail
  go_ret;exact ⟨jt HS.out.symm,Nf.out _ _⟩
 ·subst hz
  have hd:decide ((0:Int)<0)=false:=rfl;have hl:len (Int.natAbs 0)=0:=rfl;rw [hd,hl];go_wp2_with fail
  go_ret;exact ⟨rfl,Nf.out _ _⟩
 ·have hs:=Int.sign_eq_one_of_pos hz
  have HS:=ae hs;clear hs
  have hp:=lH.2 (show 0<z.natAbs by omega);have hb:(((len z.natAbs:Nat):Int)==0)=false:=by rw [beq_eq_false_iff_ne];omega
  rw [decide_eq_false (show¬z<0 by omega)];go_wp2_with fail
  go_ret;exact ⟨jt HS.out.symm,Nf.out _ _⟩
set_option maxHeartbeats 4000000 in
set_option maxRecDepth 100000 in
theorem vZ (w:World) (s t:Bool) (a b:Option Addr) (k c k' c' n m:Nat) (h:Raw w a k c n) (h':Raw w b k' c' m) (hm:0<m) (b1:k<900000000) (b2:k'<900000000):
 Calls Tryz.prog 173 #[.agg #[.bool s,.slice a k c],.agg #[.bool t,.slice b k' c']] w (kh (dw s n/dw t m) (dw s n % dw t m) w):=by
 have uw:=fun V a' c' (hV:Raw V a' (len (n/m)) c' (n/m))=>iA V (s !=t) a' _ c' _ hV;have PY:=fun V a' c' (hV:Raw V a' (len (n % m)) c' (n % m))=>iA V s a' _ c' _ hV;obtain ⟨Q,hQ⟩: ∃Q,Q=dw (s !=t) (n/m):=⟨_,rfl⟩;obtain ⟨R,hR⟩: ∃R,R=dw s (n % m):=⟨_,rfl⟩;rw [←hQ]at uw;rw [←hR]at PY;have kt:=ae uw;have j4:=ae PY;have HQ:=ae hQ;have HR:=ae hR;clear uw PY hQ hR
 go_enter Tryz.func173,Tryz.ntmps173
 go_wp2_with fail
 obtain ⟨W,hW,x0,Z0,A0,A1,A2,A3⟩:=Lm w 117 [.bool s,.slice a k c] 117 [.bool t,.slice b k' c'] 117 [.bool false,.slice none 0 0] 117 [.bool false,.slice none 0 0];rw [←hW];clear hW;obtain ⟨bY,bZ,cD,cE⟩:=aO A0 (Ext.refl _);have z0:=(A0.ext (Ext.refl _)).lt;obtain ⟨cS,cT,dy,dz⟩:=aO A1 (Ext.refl _);have z1:=(A1.ext (Ext.refl _)).lt;obtain ⟨cV,cW,dJ,dK⟩:=aO A2 (Ext.refl _);have z2:=(A2.ext (Ext.refl _)).lt;obtain ⟨l9,l_,oH,oI⟩:=aO A3 (Ext.refl _);have z3:=(A3.ext (Ext.refl _)).lt;refine (vY _ _ _ _ _ _ _ _ _ (h.ext x0) (h'.ext x0) hm b1 b2).mono ?_;rintro e w1 ⟨a1,c1,a2,c2,rfl,hr1,xW,hr2,hf2,hx1⟩;obtain ⟨bY,bZ,cD,cE⟩:=aO A0 hx1;have z0:=(A0.ext hx1).lt;obtain ⟨cS,cT,dy,dz⟩:=aO A1 hx1;have z1:=(A1.ext hx1).lt;obtain ⟨cV,cW,dJ,dK⟩:=aO A2 hx1;have z2:=(A2.ext hx1).lt;obtain ⟨l9,l_,oH,oI⟩:=aO A3 hx1;have z3:=(A3.ext hx1).lt;have zH:True:=trivial;go_wp2_with fail
 go_region_held3 (fun w'=>w'.cell? ⟨w.heap.size,0,none⟩=some (.bool s)∧w'.cell? ⟨w.heap.size,1,none⟩=some (.slice a k c)∧w'.cell? ⟨w.heap.size+1,0,none⟩=some (.bool t)∧w'.cell? ⟨w.heap.size+1,1,none⟩=some (.slice b k' c')) (first|exact ⟨bY,bZ,cS,cT⟩|(simp [go_sem,bY,bZ,cS,cT])) (first
  |(go_at_call 175;have _t:=zH;refine (kt.out _ _ _ (hr1.ext (by exact (Ext.refl _).drew))).mono ?_;rintro e w2 ⟨a3,c3,rfl,hr3,hf3,hx2⟩;clear zH _t;obtain ⟨bY,bZ,cD,cE⟩:=aO A0 (hx1.drew.trans hx2);have z0:=(A0.ext (hx1.drew.trans hx2)).lt;obtain ⟨cS,cT,dy,dz⟩:=aO A1 (hx1.drew.trans hx2);have z1:=(A1.ext (hx1.drew.trans hx2)).lt;obtain ⟨cV,cW,dJ,dK⟩:=aO A2 (hx1.drew.trans hx2);have z2:=(A2.ext (hx1.drew.trans hx2)).lt;obtain ⟨l9,l_,oH,oI⟩:=aO A3 (hx1.drew.trans hx2);have z3:=(A3.ext (hx1.drew.trans hx2)).lt)
  |(go_at_call 175;refine (j4.out _ _ _ ((hr2.ext (by exact (Ext.refl _).drew)).ext hx2)).mono ?_;rintro e w3 ⟨a4,c4,rfl,hr4,OG,hx3⟩;obtain ⟨bY,bZ,cD,cE⟩:=aO A0 ((hx1.drew.trans hx2).trans hx3);have z0:=(A0.ext ((hx1.drew.trans hx2).trans hx3)).lt;obtain ⟨cS,cT,dy,dz⟩:=aO A1 ((hx1.drew.trans hx2).trans hx3);have z1:=(A1.ext ((hx1.drew.trans hx2).trans hx3)).lt;obtain ⟨cV,cW,dJ,dK⟩:=aO A2 ((hx1.drew.trans hx2).trans hx3);have z2:=(A2.ext ((hx1.drew.trans hx2).trans hx3)).lt;obtain ⟨l9,l_,oH,oI⟩:=aO A3 ((hx1.drew.trans hx2).trans hx3);have z3:=(A3.ext ((hx1.drew.trans hx2).trans hx3)).lt))
 go_upto_region 5 with fail
 have xx:Ext W w3:=(hx1.drew.trans hx2).trans hx3;have tt:Touch w.heap.size W.heap.size w3 ((((w3.setCell ⟨w.heap.size+1+1,0,none⟩ (.bool (decide (Q<0)))).setCell ⟨w.heap.size+1+1,1,none⟩ (.slice a3 (len Q.natAbs) c3)).setCell ⟨w.heap.size+1+1+1,0,none⟩ (.bool (decide (R<0)))).setCell ⟨w.heap.size+1+1+1,1,none⟩ (.slice a4 (len R.natAbs) c4)):=(Touch.two _ (by omega) (by rw [Z0.out];omega) _ _).trans (Touch.two _ (by omega) (by rw [Z0.out];omega) _ _);have D0:aG ((((w3.setCell ⟨w.heap.size+1+1,0,none⟩ (.bool (decide (Q<0)))).setCell ⟨w.heap.size+1+1,1,none⟩ (.slice a3 (len Q.natAbs) c3)).setCell ⟨w.heap.size+1+1+1,0,none⟩ (.bool (decide (R<0)))).setCell ⟨w.heap.size+1+1+1,1,none⟩ (.slice a4 (len R.natAbs) c4)) w.heap.size 117 [.bool s,.slice a k c]:=((A0.ext xx).iN _ _ (by omega)).iN _ _ (by omega);have D1:aG ((((w3.setCell ⟨w.heap.size+1+1,0,none⟩ (.bool (decide (Q<0)))).setCell ⟨w.heap.size+1+1,1,none⟩ (.slice a3 (len Q.natAbs) c3)).setCell ⟨w.heap.size+1+1+1,0,none⟩ (.bool (decide (R<0)))).setCell ⟨w.heap.size+1+1+1,1,none⟩ (.slice a4 (len R.natAbs) c4)) (w.heap.size+1) 117 [.bool t,.slice b k' c']:=((A1.ext xx).iN _ _ (by omega)).iN _ _ (by omega);have D2:aG ((((w3.setCell ⟨w.heap.size+1+1,0,none⟩ (.bool (decide (Q<0)))).setCell ⟨w.heap.size+1+1,1,none⟩ (.slice a3 (len Q.natAbs) c3)).setCell ⟨w.heap.size+1+1+1,0,none⟩ (.bool (decide (R<0)))).setCell ⟨w.heap.size+1+1+1,1,none⟩ (.slice a4 (len R.natAbs) c4)) (w.heap.size+2) 117 [.bool (decide (Q<0)),.slice a3 (len Q.natAbs) c3]:=((A2.ext xx).zC _ _).iN _ _ (by omega);have D3:aG ((((w3.setCell ⟨w.heap.size+1+1,0,none⟩ (.bool (decide (Q<0)))).setCell ⟨w.heap.size+1+1,1,none⟩ (.slice a3 (len Q.natAbs) c3)).setCell ⟨w.heap.size+1+1+1,0,none⟩ (.bool (decide (R<0)))).setCell ⟨w.heap.size+1+1+1,1,none⟩ (.slice a4 (len R.natAbs) c4)) (w.heap.size+3) 117 [.bool (decide (R<0)),.slice a4 (len R.natAbs) c4]:=((A3.ext xx).iN _ _ (by omega)).zC _ _;have e4:=x0.cI xx tt;have f3:=hf3.mono (hx1.drew).size;have f4:=OG.mono ((hx1.drew).trans hx2).size;have r3:=(hr3.ext hx3).cI tt (Fr.out f3);have r4:=hr4.cI tt (Fr.out f4);have zw:=tt.size;generalize ((((w3.setCell ⟨w.heap.size+1+1,0,none⟩ (.bool (decide (Q<0)))).setCell ⟨w.heap.size+1+1,1,none⟩ (.slice a3 (len Q.natAbs) c3)).setCell ⟨w.heap.size+1+1+1,0,none⟩ (.bool (decide (R<0)))).setCell ⟨w.heap.size+1+1+1,1,none⟩ (.slice a4 (len R.natAbs) c4))=w4 at*;clear tt hr3 hr4 hf3 OG hr1 hr2 xW hf2 kt j4 bY bZ cD cE cS cT dy dz cV cW dJ dK l9 l_ oH oI A0 A1 A2 A3;have F3:Fr w.heap.size a3:=f3.mono x0.size;have F4:Fr w.heap.size a4:=f4.mono x0.size;obtain ⟨bY,bZ,cD,cE⟩:=aO D0 (Ext.refl _);obtain ⟨cS,cT,dy,dz⟩:=aO D1 (Ext.refl _);obtain ⟨cV,cW,dJ,dK⟩:=aO D2 (Ext.refl _);obtain ⟨l9,l_,oH,oI⟩:=aO D3 (Ext.refl _);have zW:=Z0.out;have HZW:=ae zW;by_cases OH:R<0
 ·have hs1:s=true:=by
   cases s with
   |true=>rfl
   |false=>rw [HR.out,iM]at OH;omega
  subst hs1;have vx:0<n % m:=by rw [HR.out,jS]at OH;omega
  obtain ⟨q1,q2⟩:=uY (t:=t) hm vx;obtain ⟨M,hM⟩: ∃M:Int,M=(m:Int):=⟨_,rfl⟩;obtain ⟨R2,vd⟩: ∃R2:Int,R2=R+M:=⟨_,rfl⟩
  have Rx:dw true n % dw t m=R2:=by
   have:=Nat.mod_lt n hm;rw [q2,vd,HR.out,hM,jS];omega
  have Ry:decide (R2<0)=false:=decide_eq_false (by have:=Nat.mod_lt n hm;rw [vd,HR.out,hM,jS];omega)
  have hA: ∀V,Ext w V→Calls Tryz.prog 209 #[.agg #[.bool t,.slice b k' c']] V (bX M V):=by
   intro V hV;rw [hM];exact Nn V t b k' c' m (h'.ext hV)
  have Rz:R.natAbs=n % m:=by rw [HR.out,cP]
  have hlr:len R.natAbs<900000000:=by
   have e1:=eA (Nat.le_of_lt (Nat.mod_lt n hm));have e2:=h'.eH;rw [Rz];omega
  have hlM:len M.natAbs<900000000:=by
   have e2:=h'.eH;rw [hM,Int.natAbs_natCast];omega
  have hS: ∀V a' c',Ext w4 V→Raw V a' (len M.natAbs) c' M.natAbs→Calls Tryz.prog 208 #[.agg #[.bool true,.slice a4 (len R.natAbs) c4],.agg #[.bool (decide (M<0)),.slice a' (len M.natAbs) c']] V (bX R2 V):=by
   intro V a' c' hV RA;have:=BK V true (decide (M<0)) a4 a' _ c4 _ c' _ _ (r4.ext hV) RA (by omega) (by omega);rw [jv]at this;rw [vd];rw [show dw true R.natAbs=R from by rw [←decide_eq_true OH];exact jv R]at this;exact this
  have hlQ:len Q.natAbs<900000000:=by
   have e1:Q.natAbs=n/m:=by rw [HQ.out,cP]
   have e2:=eA (Nat.div_le_self n m);have e3:=h.eH;rw [e1];omega
  obtain ⟨ONE,Nq⟩: ∃O:Int,O=1:=⟨_,rfl⟩
  have hO: ∀V,Calls Tryz.prog 118 #[.int .i64 1] V (bX ONE V):=by
   intro V;rw [Nq];exact oG V 1 (by decide) (by decide)
  have HA:=ae hA;have HS:=ae hS;have HO:=ae hO
  have o0:=ae Rx;have abD:=ae Ry;have uQ:=ae Nq;have kt:=ae q1
  clear hA hS hO q1 q2 vd Rx Ry hM Rz Nq vx;rw [decide_eq_true OH]at*;go_upto_region 6 with fail
  go_cut [] (fun wx=> ∃a6 c6,aG wx w.heap.size 117 [.bool true,.slice a k c]∧aG wx (w.heap.size+1) 117 [.bool t,.slice b k' c']∧aG wx (w.heap.size+2) 117 [.bool (decide (Q<0)),.slice a3 (len Q.natAbs) c3]∧aG wx (w.heap.size+3) 117 [.bool (decide (R2<0)),.slice a6 (len R2.natAbs) c6]∧Raw wx a6 (len R2.natAbs) c6 R2.natAbs∧Raw wx a3 (len Q.natAbs) c3 Q.natAbs∧Fr W.heap.size a6∧Ext w wx∧W.heap.size≤wx.heap.size)
  case first=>
   go_region_with (first
    |(go_at_call 209;refine (HA.out _ (by exact e4.drew)).mono ?_;rintro e w5 ⟨a5,c5,rfl,VJ,YV,dA⟩;obtain ⟨bY,bZ,cD,cE⟩:=aO D0 ((Ext.refl _).drew.trans dA);obtain ⟨cS,cT,dy,dz⟩:=aO D1 ((Ext.refl _).drew.trans dA);obtain ⟨cV,cW,dJ,dK⟩:=aO D2 ((Ext.refl _).drew.trans dA);obtain ⟨l9,l_,oH,oI⟩:=aO D3 ((Ext.refl _).drew.trans dA))
    |(go_at_call 208;refine (HS.out _ _ _ (by exact (Ext.refl _).drew.trans dA) VJ).mono ?_;rintro e w6 ⟨a6,c6,rfl,hr6,hf6,eT⟩;obtain ⟨bY,bZ,cD,cE⟩:=aO D0 (((Ext.refl _).drew.trans dA).trans eT);obtain ⟨cS,cT,dy,dz⟩:=aO D1 (((Ext.refl _).drew.trans dA).trans eT);obtain ⟨cV,cW,dJ,dK⟩:=aO D2 (((Ext.refl _).drew.trans dA).trans eT);obtain ⟨l9,l_,oH,oI⟩:=aO D3 (((Ext.refl _).drew.trans dA).trans eT)))
   all_goals go_wp2_with fail
   all_goals go_meet
   all_goals have Nr:Ext w4 w6:=((Ext.refl _).drew.trans dA).trans eT
   all_goals have Zb:W.heap.size≤w4.heap.size:=by rw [zw];exact xx.size
   all_goals have f6:Fr W.heap.size a6:=hf6.mono (Nat.le_trans Zb (Nat.le_trans (Ext.refl _).drew.size dA.size))
   all_goals have t6:=Touch.two (lo:=w.heap.size) (hi:=W.heap.size) (b:=w.heap.size+3) w6 (by omega) (by omega) (.bool (decide (R2<0))) (.slice a6 (len R2.natAbs) c6)
   all_goals exact ⟨a6,c6,(D0.ext Nr).iN _ _ (by omega),(D1.ext Nr).iN _ _ (by omega),(D2.ext Nr).iN _ _ (by omega),(D3.ext Nr).zC _ _,hr6.cI t6 (Fr.out f6),(r3.ext Nr).cI t6 (Fr.out f3),f6,(e4.trans Nr).pL t6,by rw [t6.size];exact Nat.le_trans Zb Nr.size⟩
  case rest=>
   obtain ⟨a6,c6,E0,E1,E2,E3,Zc,Zd,f67,e7,Ze⟩:=hcut;obtain ⟨w7,rfl⟩: ∃w7:World,w7=wc:=⟨_,rfl⟩;clear D0 D1 D2 D3 bY bZ cD cE cS cT dy dz cV cW dJ dK l9 l_ oH oI r3 r4 HS HA;obtain ⟨bY,bZ,cD,cE⟩:=aO E0 (Ext.refl _);obtain ⟨cS,cT,dy,dz⟩:=aO E1 (Ext.refl _);obtain ⟨cV,cW,dJ,dK⟩:=aO E2 (Ext.refl _);obtain ⟨l9,l_,oH,oI⟩:=aO E3 (Ext.refl _)
   cases t with
   |true=>
    obtain ⟨Q2,Eh⟩: ∃Q2:Int,Q2=Q+ONE:=⟨_,rfl⟩
    have RB: ∀V a' c',Ext w7 V→Raw V a' (len ONE.natAbs) c' ONE.natAbs→Calls Tryz.prog 208 #[.agg #[.bool (decide (Q<0)),.slice a3 (len Q.natAbs) c3],.agg #[.bool (decide (ONE<0)),.slice a' (len ONE.natAbs) c']] V (bX Q2 V):=by
     intro V a' c' hV RA;have:=BK V (decide (Q<0)) (decide (ONE<0)) a3 a' _ c3 _ c' _ _ (Zd.ext hV) RA (by omega) (by rw [uQ.out];decide);rw [jv,jv]at this;rw [Eh];exact this
    have RD:dw true n/dw true m=Q2:=by
     rw [kt.out,Eh,HQ.out,uQ.out];simp [dw]
    have nc:=ae RB;have Lc:=ae RD
    clear RB RD Eh;go_wp2_with fail
    go_region_with (first
     |(go_at_call 118;refine (HO.out _).mono ?_;rintro e w8 ⟨a8,c8,rfl,VO,hf8,fF⟩;obtain ⟨bY,bZ,cD,cE⟩:=aO E0 ((Ext.refl _).drew.trans fF);obtain ⟨cS,cT,dy,dz⟩:=aO E1 ((Ext.refl _).drew.trans fF);obtain ⟨cV,cW,dJ,dK⟩:=aO E2 ((Ext.refl _).drew.trans fF);obtain ⟨l9,l_,oH,oI⟩:=aO E3 ((Ext.refl _).drew.trans fF))
     |(go_at_call 208;refine (nc.out _ _ _ (by exact (Ext.refl _).drew.trans fF) VO).mono ?_;rintro e w9 ⟨a9,c9,rfl,VP,VQ,iD⟩;obtain ⟨bY,bZ,cD,cE⟩:=aO E0 (((Ext.refl _).drew.trans fF).trans iD);obtain ⟨cS,cT,dy,dz⟩:=aO E1 (((Ext.refl _).drew.trans fF).trans iD);obtain ⟨cV,cW,dJ,dK⟩:=aO E2 (((Ext.refl _).drew.trans fF).trans iD);obtain ⟨l9,l_,oH,oI⟩:=aO E3 (((Ext.refl _).drew.trans fF).trans iD)))
    all_goals have J7:Ext w7 w9:=((Ext.refl _).drew.trans fF).trans iD
    all_goals have f9:Fr W.heap.size a9:=VQ.mono (Nat.le_trans Ze (Nat.le_trans (Ext.refl _).drew.size fF.size))
    all_goals go_upto_region 10 with fail
    all_goals have t9:=Touch.two (lo:=w.heap.size) (hi:=W.heap.size) (b:=w.heap.size+2) w9 (by omega) (by omega) (.bool (decide (Q2<0))) (.slice a9 (len Q2.natAbs) c9)
    all_goals have G2:=(E2.ext J7).zC (.bool (decide (Q2<0))) (.slice a9 (len Q2.natAbs) c9)
    all_goals have G3:=(E3.ext J7).iN (b':=w.heap.size+2) (.bool (decide (Q2<0))) (.slice a9 (len Q2.natAbs) c9) (by omega)
    all_goals have Cl:=(e7.trans J7).pL t9
    all_goals have r9:=VP.cI t9 (Fr.out f9)
    all_goals have r6:=(Zc.ext J7).cI t9 (Fr.out f67)
    all_goals rw [show w.heap.size+1+1=w.heap.size+2 from rfl]
    all_goals generalize (w9.setCell ⟨w.heap.size+2,0,none⟩ (.bool (decide (Q2<0)))).setCell ⟨w.heap.size+2,1,none⟩ (.slice a9 (len Q2.natAbs) c9)=xh at*
    all_goals obtain ⟨cV,cW,dJ,dK⟩:=aO G2 (Ext.refl _)
    all_goals obtain ⟨l9,l_,oH,oI⟩:=aO G3 (Ext.refl _)
    all_goals go_wp2_with fail
    all_goals go_region
    all_goals go_wp2_with fail
    all_goals rw [Lc.out,o0.out]
    all_goals exact bodyPost_ret (v:= .tuple #[.agg #[.bool (decide (Q2<0)),.slice a9 (len Q2.natAbs) c9],.agg #[.bool (decide (R2<0)),.slice a6 (len R2.natAbs) c6],.bool true]) (by simp [results,Tryz.results173,go_sem,cV,cW,l9,l_]) rfl (kh.VN r9 r6 f9 f67 x0 Cl (((Touch.two _ (by omega) (by omega) _ _).trans (Touch.two _ (by omega) (by omega) _ _)).drew))
   |false=>
    obtain ⟨Q2,Eh⟩: ∃Q2:Int,Q2=Q-ONE:=⟨_,rfl⟩
    have RB: ∀V a' c',Ext w7 V→Raw V a' (len ONE.natAbs) c' ONE.natAbs→Calls Tryz.prog 210 #[.agg #[.bool (decide (Q<0)),.slice a3 (len Q.natAbs) c3],.agg #[.bool (decide (ONE<0)),.slice a' (len ONE.natAbs) c']] V (bX Q2 V):=by
     intro V a' c' hV RA;have:=Np V (decide (Q<0)) (decide (ONE<0)) a3 a' _ c3 _ c' _ _ (Zd.ext hV) RA (by omega) (by rw [uQ.out];decide);rw [jv,jv]at this;rw [Eh];exact this
    have RD:dw true n/dw false m=Q2:=by
     rw [kt.out,Eh,HQ.out,uQ.out];simp [dw];omega
    have nc:=ae RB;have Lc:=ae RD
    clear RB RD Eh;go_wp2_with fail
    go_region_with (first
     |(go_at_call 118;refine (HO.out _).mono ?_;rintro e w8 ⟨a8,c8,rfl,VO,hf8,fF⟩;obtain ⟨bY,bZ,cD,cE⟩:=aO E0 ((Ext.refl _).drew.trans fF);obtain ⟨cS,cT,dy,dz⟩:=aO E1 ((Ext.refl _).drew.trans fF);obtain ⟨cV,cW,dJ,dK⟩:=aO E2 ((Ext.refl _).drew.trans fF);obtain ⟨l9,l_,oH,oI⟩:=aO E3 ((Ext.refl _).drew.trans fF))
     |(go_at_call 210;refine (nc.out _ _ _ (by exact (Ext.refl _).drew.trans fF) VO).mono ?_;rintro e w9 ⟨a9,c9,rfl,VP,VQ,iD⟩;obtain ⟨bY,bZ,cD,cE⟩:=aO E0 (((Ext.refl _).drew.trans fF).trans iD);obtain ⟨cS,cT,dy,dz⟩:=aO E1 (((Ext.refl _).drew.trans fF).trans iD);obtain ⟨cV,cW,dJ,dK⟩:=aO E2 (((Ext.refl _).drew.trans fF).trans iD);obtain ⟨l9,l_,oH,oI⟩:=aO E3 (((Ext.refl _).drew.trans fF).trans iD)))
    all_goals have J7:Ext w7 w9:=((Ext.refl _).drew.trans fF).trans iD
    all_goals have f9:Fr W.heap.size a9:=VQ.mono (Nat.le_trans Ze (Nat.le_trans (Ext.refl _).drew.size fF.size))
    all_goals go_upto_region 10 with fail
    all_goals have t9:=Touch.two (lo:=w.heap.size) (hi:=W.heap.size) (b:=w.heap.size+2) w9 (by omega) (by omega) (.bool (decide (Q2<0))) (.slice a9 (len Q2.natAbs) c9)
    all_goals have G2:=(E2.ext J7).zC (.bool (decide (Q2<0))) (.slice a9 (len Q2.natAbs) c9)
    all_goals have G3:=(E3.ext J7).iN (b':=w.heap.size+2) (.bool (decide (Q2<0))) (.slice a9 (len Q2.natAbs) c9) (by omega)
    all_goals have Cl:=(e7.trans J7).pL t9
    all_goals have r9:=VP.cI t9 (Fr.out f9)
    all_goals have r6:=(Zc.ext J7).cI t9 (Fr.out f67)
    all_goals rw [show w.heap.size+1+1=w.heap.size+2 from rfl]
    all_goals generalize (w9.setCell ⟨w.heap.size+2,0,none⟩ (.bool (decide (Q2<0)))).setCell ⟨w.heap.size+2,1,none⟩ (.slice a9 (len Q2.natAbs) c9)=xh at*
    all_goals obtain ⟨cV,cW,dJ,dK⟩:=aO G2 (Ext.refl _)
    all_goals obtain ⟨l9,l_,oH,oI⟩:=aO G3 (Ext.refl _)
    all_goals go_wp2_with fail
    all_goals go_region
    all_goals go_wp2_with fail
    all_goals rw [Lc.out,o0.out]
    all_goals exact bodyPost_ret (v:= .tuple #[.agg #[.bool (decide (Q2<0)),.slice a9 (len Q2.natAbs) c9],.agg #[.bool (decide (R2<0)),.slice a6 (len R2.natAbs) c6],.bool true]) (by simp [results,Tryz.results173,go_sem,cV,cW,l9,l_]) rfl (kh.VN r9 r6 f9 f67 x0 Cl (((Touch.two _ (by omega) (by omega) _ _).trans (Touch.two _ (by omega) (by omega) _ _)).drew))
 ·have hres:dw s n/dw t m=Q∧dw s n % dw t m=R:=by
   have hc:s=false∨n % m=0:=by
    by_cases hn0:n % m=0
    ·exact Or.inr hn0
    ·cases s with
     |false=>exact Or.inl rfl
     |true=>exact absurd (by rw [HR.out,jS];omega) OH
   obtain ⟨q1,q2⟩:=qF (s:=s) (t:=t) hm hc;refine ⟨by rw [q1,HQ.out],?_⟩;rw [q2,HR.out];rcases hc with hc|hc
   ·rw [hc,iM]
   ·rw [hc,zB];rfl
  have RF:=ae hres;clear hres
  have hdR:0≤R:=by omega
  rw [decide_eq_false OH]at*;go_wp2_with fail
  go_region
  all_goals go_wp2_with fail
  all_goals rw [RF.out.1,RF.out.2]
  all_goals exact bodyPost_ret (v:= .tuple #[.agg #[.bool (decide (Q<0)),.slice a3 (len Q.natAbs) c3],.agg #[.bool (decide (R<0)),.slice a4 (len R.natAbs) c4],.bool true]) (by simp [results,Tryz.results173,go_sem,cV,cW,l9,l_,hdR]) rfl (kh.VN r3 r4 f3 f4 x0 e4 (((Touch.two _ (by omega) (by omega) _ _).trans (Touch.two _ (by omega) (by omega) _ _)).drew))
end Go.Proofs.YtkpngkdgphojlaaGreat
