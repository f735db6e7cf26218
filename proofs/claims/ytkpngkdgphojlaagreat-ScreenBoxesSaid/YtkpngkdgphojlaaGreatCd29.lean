/- Texts of the proof. -/
import Derived.Test.YtkpngkdgphojlaaGreatCd28
set_option linter.all false
set_option maxHeartbeats 4000000
set_option maxRecDepth 100000
namespace Go.Proofs.YtkpngkdgphojlaaGreat
open Go.Proofs.Tryz
open Go.RowKit
theorem eH (z:Int):bA (decide (z<0)) z.natAbs=z:=by
 unfold bA;by_cases h:z<0<;>simp [h]<;>omega
theorem iw (w:World) (s:Bool) (a:Option Addr) (k c n:Nat) (h:Raw w a k c n):
 Calls prog 175 #[.bool s,.slice a k c] w (bw (bA s n) w):=by
 have hl:=h.cj;have hle:=h.le;cases s with
 |false=>
  go_enter func175,ntmps175
  go_wp2_with fail
  obtain ⟨W,hW,x0,Z0,A0⟩:=aH w 117 [.bool false,.slice none 0 0];rw [←hW];clear hW;obtain ⟨aK,bf,bN,bO⟩:=aG A0 (Ext.refl _);have z0:=(A0.ext (Ext.refl _)).lt;refine (dU _ _ _ _ _ (h.ext x0)).mono ?_;rintro e w1 ⟨a1,c1,rfl,hr1,pA,hx1⟩;obtain ⟨aK,bf,bN,bO⟩:=aG A0 hx1;have z0:=(A0.ext hx1).lt;have fin:=bw.lA (s:=false) hr1 pA hx1 ⟨rfl,Ext.refl _⟩;rw [Bool.false_and]at fin;go_wp2_with fail
  exact bodyPost_ret (by simp [results,results175,go_sem,aK,bf]) rfl (bw.bF fin x0 (Touch.two _ (Nat.le_refl _) (by rw [Z0.o];omega) _ _))
 |true=>
  by_cases h0:0<len n
  ·have d0:decide ((0:Int)<((len n:Nat):Int))=true:=by simp;exact h0
   go_enter func175,ntmps175
   go_wp2_with fail
   obtain ⟨W,hW,x0,Z0,A0⟩:=aH w 117 [.bool false,.slice none 0 0];rw [←hW];clear hW;obtain ⟨aK,bf,bN,bO⟩:=aG A0 (Ext.refl _);have z0:=(A0.ext (Ext.refl _)).lt;refine (dU _ _ _ _ _ (h.ext x0)).mono ?_;rintro e w1 ⟨a1,c1,rfl,hr1,pA,hx1⟩;obtain ⟨aK,bf,bN,bO⟩:=aG A0 hx1;have z0:=(A0.ext hx1).lt;have fin:=bw.lA (s:=true) hr1 pA hx1 ⟨rfl,Ext.refl _⟩;rw [decide_eq_true h0,Bool.true_and]at fin;go_wp2_with fail
   exact bodyPost_ret (by simp [results,results175,go_sem,aK,bf]) rfl (bw.bF fin x0 (Touch.two _ (Nat.le_refl _) (by rw [Z0.o];omega) _ _))
  ·have d0:decide ((0:Int)<((len n:Nat):Int))=false:=by simp;omega
   go_enter func175,ntmps175
   go_wp2_with fail
   obtain ⟨W,hW,x0,Z0,A0⟩:=aH w 117 [.bool false,.slice none 0 0];rw [←hW];clear hW;obtain ⟨aK,bf,bN,bO⟩:=aG A0 (Ext.refl _);have z0:=(A0.ext (Ext.refl _)).lt;refine (dU _ _ _ _ _ (h.ext x0)).mono ?_;rintro e w1 ⟨a1,c1,rfl,hr1,pA,hx1⟩;obtain ⟨aK,bf,bN,bO⟩:=aG A0 hx1;have z0:=(A0.ext hx1).lt;have fin:=bw.lA (s:=true) hr1 pA hx1 ⟨rfl,Ext.refl _⟩;rw [decide_eq_false h0,Bool.and_false]at fin;go_wp2_with fail
   exact bodyPost_ret (by simp [results,results175,go_sem,aK,bf]) rfl (bw.bF fin x0 (Touch.two _ (Nat.le_refl _) (by rw [Z0.o];omega) _ _))
theorem qw (w:World) (s:Bool) (a:Option Addr) (k c n:Nat) (h:Raw w a k c n):
 Calls prog 170 #[.agg #[.bool s,.slice a k c]] w (bw (bA s n) w):=by
 go_enter func170,ntmps170
 go_wp2_with fail
 obtain ⟨W,hW,x0,Z0,A0,A1⟩:=fu w 117 [.bool s,.slice a k c] 117 [.bool false,.slice none 0 0];rw [←hW];clear hW;have aK:=aG A0 (Ext.refl _);have z0:=(A0.ext (Ext.refl _)).lt;obtain ⟨aT,bH,cM,cN⟩:=aG A1 (Ext.refl _);have z1:=(A1.ext (Ext.refl _)).lt;refine (iw _ s _ _ _ _ (h.ext x0)).mono ?_;rintro e w1 fin;obtain ⟨a1,c1,rfl,hr1,pA,hx1⟩:=id fin;have aK:=aG A0 hx1;have z0:=(A0.ext hx1).lt;obtain ⟨aT,bH,cM,cN⟩:=aG A1 hx1;have z1:=(A1.ext hx1).lt;go_wp2_with fail
 exact bodyPost_ret (by simp [results,results170,go_sem,aT,bH]) rfl (bw.bF fin x0 (Touch.two _ (by omega) (by rw [Z0.o];omega) _ _))
theorem zu (w:World) (s:Bool) (a:Option Addr) (k c n:Nat) (h:Raw w a k c n):
 Calls prog 174 #[.agg #[.bool s,.slice a k c]] w (bw (-bA s n) w):=by
 rw [←zg];go_enter func174,ntmps174
 go_wp2_with fail
 obtain ⟨W,hW,x0,Z0,A0,A1⟩:=fu w 117 [.bool s,.slice a k c] 117 [.bool false,.slice none 0 0];rw [←hW];clear hW;have aK:=aG A0 (Ext.refl _);have z0:=(A0.ext (Ext.refl _)).lt;obtain ⟨aT,bH,cM,cN⟩:=aG A1 (Ext.refl _);have z1:=(A1.ext (Ext.refl _)).lt;refine (iw _ (!s) _ _ _ _ (h.ext x0)).mono ?_;rintro e w1 fin;obtain ⟨a1,c1,rfl,hr1,pA,hx1⟩:=id fin;have aK:=aG A0 hx1;have z0:=(A0.ext hx1).lt;obtain ⟨aT,bH,cM,cN⟩:=aG A1 hx1;have z1:=(A1.ext hx1).lt;go_wp2_with fail
 exact bodyPost_ret (by simp [results,results174,go_sem,aT,bH]) rfl (bw.bF fin x0 (Touch.two _ (by omega) (by rw [Z0.o];omega) _ _))
theorem Ow (w:World) (s:Bool) (a:Option Addr) (k c n:Nat) (h:Raw w a k c n):
 Calls prog 209 #[.agg #[.bool s,.slice a k c]] w (bw ((n:Int)) w):=by
 rw [←eX];go_enter func209,ntmps209
 go_wp2_with fail
 obtain ⟨W,hW,x0,Z0,A0,A1⟩:=fu w 117 [.bool s,.slice a k c] 117 [.bool false,.slice none 0 0];rw [←hW];clear hW;have aK:=aG A0 (Ext.refl _);have z0:=(A0.ext (Ext.refl _)).lt;obtain ⟨aT,bH,cM,cN⟩:=aG A1 (Ext.refl _);have z1:=(A1.ext (Ext.refl _)).lt;refine (iw _ false _ _ _ _ (h.ext x0)).mono ?_;rintro e w1 fin;obtain ⟨a1,c1,rfl,hr1,pA,hx1⟩:=id fin;have aK:=aG A0 hx1;have z0:=(A0.ext hx1).lt;obtain ⟨aT,bH,cM,cN⟩:=aG A1 hx1;have z1:=(A1.ext hx1).lt;go_wp2_with fail
 exact bodyPost_ret (by simp [results,results209,go_sem,aT,bH]) rfl (bw.bF fin x0 (Touch.two _ (by omega) (by rw [Z0.o];omega) _ _))
theorem pd (w:World) (v:Int) (h1: -9223372036854775808≤v) (h2:v≤9223372036854775807):
 Calls prog 118 #[.int .i64 v] w (bw v w):=by
 by_cases h0:v<0
 ·obtain ⟨n,rfl⟩: ∃n:Nat,v= -(n:Int):=⟨v.natAbs,by omega⟩
  go_enter func118,ntmps118
  go_wp2_with fail
  obtain ⟨W,hW,x0,Z0,A0⟩:=aH w 117 [.bool false,.slice none 0 0];rw [←hW];clear hW;obtain ⟨aK,bf,bN,bO⟩:=aG A0 (Ext.refl _);have z0:=(A0.ext (Ext.refl _)).lt;rw [show-(-(n:Int)+1)+1=(n:Int)from by omega];refine (jq _ n (by omega)).mono ?_;rintro e w1 ⟨a1,c1,rfl,hr1,pA,hx1⟩;obtain ⟨aK,bf,bN,bO⟩:=aG A0 hx1;have z0:=(A0.ext hx1).lt;go_wp2_with fail
  refine (iw _ true _ _ _ _ hr1).mono ?_;rintro e w2 zv;have fin:=zv.base hx1;obtain ⟨a2,c2,rfl,hr2,hf2,hx2⟩:=id fin;obtain ⟨aK,bf,bN,bO⟩:=aG A0 hx2;have z0:=(A0.ext hx2).lt;go_wp2_with fail
  exact bodyPost_ret (by simp [results,results118,go_sem,aK,bf]) rfl (bw.bF fin x0 (Touch.two _ (Nat.le_refl _) (by rw [Z0.o];omega) _ _))
 ·obtain ⟨n,rfl⟩: ∃n:Nat,v=(n:Int):=⟨v.natAbs,by omega⟩
  have e1:IntKind.u64.wrap (n:Int)=(n:Int):=by rw [IntKind.wrap_u64];omega
  go_enter func118,ntmps118
  go_wp2_with fail
  obtain ⟨W,hW,x0,Z0,A0⟩:=aH w 117 [.bool false,.slice none 0 0];rw [←hW];clear hW;obtain ⟨aK,bf,bN,bO⟩:=aG A0 (Ext.refl _);have z0:=(A0.ext (Ext.refl _)).lt;refine (jq _ n (by omega)).mono ?_;rintro e w1 ⟨a1,c1,rfl,hr1,pA,hx1⟩;obtain ⟨aK,bf,bN,bO⟩:=aG A0 hx1;have z0:=(A0.ext hx1).lt;go_wp2_with fail
  refine (iw _ false _ _ _ _ hr1).mono ?_;rintro e w2 zv;have fin:=zv.base hx1;obtain ⟨a2,c2,rfl,hr2,hf2,hx2⟩:=id fin;obtain ⟨aK,bf,bN,bO⟩:=aG A0 hx2;have z0:=(A0.ext hx2).lt;go_wp2_with fail
  exact bodyPost_ret (by simp [results,results118,go_sem,aK,bf]) rfl (bw.bF fin x0 (Touch.two _ (Nat.le_refl _) (by rw [Z0.o];omega) _ _))
theorem Ox (w:World) (s t:Bool) (a b:Option Addr) (k c k' c' n m:Nat) (h:Raw w a k c n) (h':Raw w b k' c' m) (b1:k<1000000000) (b2:k'<1000000000):
 Calls prog 212 #[.agg #[.bool s,.slice a k c],.agg #[.bool t,.slice b k' c']] w (bw (bA s n*bA t m) w):=by
 rw [←Lm];go_enter func212,ntmps212
 go_wp2_with fail
 obtain ⟨W,hW,x0,Z0,A0,A1,A2⟩:=eT w 117 [.bool s,.slice a k c] 117 [.bool t,.slice b k' c'] 117 [.bool false,.slice none 0 0];rw [←hW];clear hW;obtain ⟨aK,bf,bN,bO⟩:=aG A0 (Ext.refl _);have z0:=(A0.ext (Ext.refl _)).lt;obtain ⟨aT,bH,cM,cN⟩:=aG A1 (Ext.refl _);have z1:=(A1.ext (Ext.refl _)).lt;obtain ⟨bD,bY,cQ,cR⟩:=aG A2 (Ext.refl _);have z2:=(A2.ext (Ext.refl _)).lt
 go_region_held3 (fun w'=>w'.cell? ⟨w.heap.size,0,none⟩=some (.bool s)∧w'.cell? ⟨w.heap.size,1,none⟩=some (.slice a k c)∧w'.cell? ⟨w.heap.size+1,0,none⟩=some (.bool t)∧w'.cell? ⟨w.heap.size+1,1,none⟩=some (.slice b k' c')) (first|exact ⟨aK,bf,aT,bH⟩|(simp [go_sem,aK,bf,aT,bH])) (first
  |(go_at_call 229;refine (Ol _ _ _ _ _ _ _ _ _ ((h.ext x0).ext (by exact (Ext.refl _).drew)) ((h'.ext x0).ext (by exact (Ext.refl _).drew)) b1 b2).mono ?_;rintro e w1 ⟨a1,c1,rfl,hr1,pA,hx1⟩;obtain ⟨aK,bf,bN,bO⟩:=aG A0 (((Ext.refl _).drew).trans hx1);have z0:=(A0.ext (((Ext.refl _).drew).trans hx1)).lt;obtain ⟨aT,bH,cM,cN⟩:=aG A1 (((Ext.refl _).drew).trans hx1);have z1:=(A1.ext (((Ext.refl _).drew).trans hx1)).lt;obtain ⟨bD,bY,cQ,cR⟩:=aG A2 (((Ext.refl _).drew).trans hx1);have z2:=(A2.ext (((Ext.refl _).drew).trans hx1)).lt)
  |(go_at_call 175;refine (iw _ _ _ _ _ _ hr1).mono ?_;rintro e w2 ⟨a2,c2,rfl,hr2,hf2,hx2⟩;obtain ⟨aK,bf,bN,bO⟩:=aG A0 ((((Ext.refl _).drew).trans hx1).trans hx2);have z0:=(A0.ext ((((Ext.refl _).drew).trans hx1).trans hx2)).lt;obtain ⟨aT,bH,cM,cN⟩:=aG A1 ((((Ext.refl _).drew).trans hx1).trans hx2);have z1:=(A1.ext ((((Ext.refl _).drew).trans hx1).trans hx2)).lt;obtain ⟨bD,bY,cQ,cR⟩:=aG A2 ((((Ext.refl _).drew).trans hx1).trans hx2);have z2:=(A2.ext ((((Ext.refl _).drew).trans hx1).trans hx2)).lt))
 have fin:bw (bA (s !=t) (n*m)) W.drew _ w2:=⟨a2,c2,rfl,hr2,hf2.mono hx1.size,hx1.trans hx2⟩;go_wp2
 exact bodyPost_ret (by simp [results,results212,go_sem,bD,bY];cases s<;>cases t<;>simp) rfl (bw.bF fin x0.drew (Touch.two _ (by omega) (by rw [World.drew,Z0.o];omega) _ _))
theorem BO (w:World) (s:Bool) (a b:Option Addr) (k c k' c' n m:Nat) (h:Raw w a k c n) (h':Raw w b k' c' m) (b1:k<1000000000) (b2:k'<1000000000):
 Calls prog 208 #[.agg #[.bool s,.slice a k c],.agg #[.bool s,.slice b k' c']] w (bw (bA s n+bA s m) w):=by
 rw [←Ln];go_enter func208,ntmps208
 go_wp2_with fail
 obtain ⟨W,hW,x0,Z0,A0,A1,A2⟩:=eT w 117 [.bool s,.slice a k c] 117 [.bool s,.slice b k' c'] 117 [.bool false,.slice none 0 0];rw [←hW];clear hW;obtain ⟨aK,bf,bN,bO⟩:=aG A0 (Ext.refl _);have z0:=(A0.ext (Ext.refl _)).lt;obtain ⟨aT,bH,cM,cN⟩:=aG A1 (Ext.refl _);have z1:=(A1.ext (Ext.refl _)).lt;obtain ⟨bD,bY,cQ,cR⟩:=aG A2 (Ext.refl _);have z2:=(A2.ext (Ext.refl _)).lt
 go_region_held3 (fun w'=>w'.cell? ⟨w.heap.size,0,none⟩=some (.bool s)∧w'.cell? ⟨w.heap.size,1,none⟩=some (.slice a k c)∧w'.cell? ⟨w.heap.size+1,0,none⟩=some (.bool s)∧w'.cell? ⟨w.heap.size+1,1,none⟩=some (.slice b k' c')) (first|exact ⟨aK,bf,aT,bH⟩|(simp [go_sem,aK,bf,aT,bH])) (first
  |(go_at_call 226;refine (o9 _ _ _ _ _ _ _ _ _ ((h.ext x0).ext (by exact (Ext.refl _).drew)) ((h'.ext x0).ext (by exact (Ext.refl _).drew)) b1 b2).mono ?_;rintro e w1 ⟨a1,c1,rfl,hr1,pA,hx1⟩;obtain ⟨aK,bf,bN,bO⟩:=aG A0 (((Ext.refl _).drew).trans hx1);have z0:=(A0.ext (((Ext.refl _).drew).trans hx1)).lt;obtain ⟨aT,bH,cM,cN⟩:=aG A1 (((Ext.refl _).drew).trans hx1);have z1:=(A1.ext (((Ext.refl _).drew).trans hx1)).lt;obtain ⟨bD,bY,cQ,cR⟩:=aG A2 (((Ext.refl _).drew).trans hx1);have z2:=(A2.ext (((Ext.refl _).drew).trans hx1)).lt)
  |(go_at_call 175;refine (iw _ _ _ _ _ _ hr1).mono ?_;rintro e w2 ⟨a2,c2,rfl,hr2,hf2,hx2⟩;obtain ⟨aK,bf,bN,bO⟩:=aG A0 ((((Ext.refl _).drew).trans hx1).trans hx2);have z0:=(A0.ext ((((Ext.refl _).drew).trans hx1).trans hx2)).lt;obtain ⟨aT,bH,cM,cN⟩:=aG A1 ((((Ext.refl _).drew).trans hx1).trans hx2);have z1:=(A1.ext ((((Ext.refl _).drew).trans hx1).trans hx2)).lt;obtain ⟨bD,bY,cQ,cR⟩:=aG A2 ((((Ext.refl _).drew).trans hx1).trans hx2);have z2:=(A2.ext ((((Ext.refl _).drew).trans hx1).trans hx2)).lt))
 have fin:bw (bA s (n+m)) W.drew _ w2:=⟨a2,c2,rfl,hr2,hf2.mono hx1.size,hx1.trans hx2⟩;go_wp2
 exact bodyPost_ret (by simp [results,results208,go_sem,bD,bY]) rfl (bw.bF fin x0.drew (Touch.two _ (by omega) (by rw [World.drew,Z0.o];omega) _ _))
theorem zx (w:World) (s:Bool) (a b:Option Addr) (k c k' c' n m:Nat) (h:Raw w a k c n) (h':Raw w b k' c' m):
 Calls prog 208 #[.agg #[.bool s,.slice a k c],.agg #[.bool (!s),.slice b k' c']] w (bw (bA s n+bA (!s) m) w):=by
 have hne:(s== !s)=false:=by cases s<;>rfl
 by_cases hle:m≤n
 ·rw [←I1 s n m hle]
  go_enter func208,ntmps208
  go_wp2_with fail
  obtain ⟨W,hW,x0,Z0,A0,A1,A2⟩:=eT w 117 [.bool s,.slice a k c] 117 [.bool (!s),.slice b k' c'] 117 [.bool false,.slice none 0 0];rw [←hW];clear hW;have aK:=aG A0 (Ext.refl _);have z0:=(A0.ext (Ext.refl _)).lt;have aT:=aG A1 (Ext.refl _);have z1:=(A1.ext (Ext.refl _)).lt;obtain ⟨bD,bY,cQ,cR⟩:=aG A2 (Ext.refl _);have z2:=(A2.ext (Ext.refl _)).lt;refine (zo _ _ _ _ _ _ _ _ _ (h.ext x0) (h'.ext x0) hle).mono ?_;rintro e w1 ⟨a1,c1,rfl,hr1,pA,hx1⟩;have aK:=aG A0 hx1;have z0:=(A0.ext hx1).lt;have aT:=aG A1 hx1;have z1:=(A1.ext hx1).lt;obtain ⟨bD,bY,cQ,cR⟩:=aG A2 hx1;have z2:=(A2.ext hx1).lt;go_wp2_with fail
  refine (iw _ s _ _ _ _ hr1).mono ?_;rintro e w2 zv;have fin:=zv.base hx1;obtain ⟨a2,c2,rfl,hr2,hf2,hx2⟩:=id fin;have aK:=aG A0 hx2;have z0:=(A0.ext hx2).lt;have aT:=aG A1 hx2;have z1:=(A1.ext hx2).lt;obtain ⟨bD,bY,cQ,cR⟩:=aG A2 hx2;have z2:=(A2.ext hx2).lt;go_wp2
  exact bodyPost_ret (by simp [results,results208,go_sem,bD,bY]) rfl (bw.bF fin x0 (Touch.two _ (by omega) (by rw [Z0.o];omega) _ _))
 ·rw [←I2 s n m (by omega)]
  go_enter func208,ntmps208
  go_wp2_with fail
  obtain ⟨W,hW,x0,Z0,A0,A1,A2⟩:=eT w 117 [.bool s,.slice a k c] 117 [.bool (!s),.slice b k' c'] 117 [.bool false,.slice none 0 0];rw [←hW];clear hW;have aK:=aG A0 (Ext.refl _);have z0:=(A0.ext (Ext.refl _)).lt;have aT:=aG A1 (Ext.refl _);have z1:=(A1.ext (Ext.refl _)).lt;obtain ⟨bD,bY,cQ,cR⟩:=aG A2 (Ext.refl _);have z2:=(A2.ext (Ext.refl _)).lt;refine (rO _ _ _ _ _ _ _ _ _ (h.ext x0) (h'.ext x0) (by omega)).mono ?_;rintro e w1 ⟨rfl,mZ⟩;have aK:=aG A0 mZ;have z0:=(A0.ext mZ).lt;have aT:=aG A1 mZ;have z1:=(A1.ext mZ).lt;obtain ⟨bD,bY,cQ,cR⟩:=aG A2 mZ;have z2:=(A2.ext mZ).lt;go_wp2_with fail
  refine (zo _ _ _ _ _ _ _ _ _ ((h'.ext x0).ext mZ) ((h.ext x0).ext mZ) (by omega)).mono ?_;rintro e w2 ⟨a1,c1,rfl,hr1,pA,hx1⟩;have aK:=aG A0 (mZ.trans hx1);have z0:=(A0.ext (mZ.trans hx1)).lt;have aT:=aG A1 (mZ.trans hx1);have z1:=(A1.ext (mZ.trans hx1)).lt;obtain ⟨bD,bY,cQ,cR⟩:=aG A2 (mZ.trans hx1);have z2:=(A2.ext (mZ.trans hx1)).lt;go_wp2_with fail
  refine (iw _ (!s) _ _ _ _ hr1).mono ?_;rintro e w3 zv;have fin:=zv.base (mZ.trans hx1);obtain ⟨a2,c2,rfl,hr2,hf2,hx2⟩:=id fin;have aK:=aG A0 hx2;have z0:=(A0.ext hx2).lt;have aT:=aG A1 hx2;have z1:=(A1.ext hx2).lt;obtain ⟨bD,bY,cQ,cR⟩:=aG A2 hx2;have z2:=(A2.ext hx2).lt;go_wp2
  exact bodyPost_ret (by simp [results,results208,go_sem,bD,bY]) rfl (bw.bF fin x0 (Touch.two _ (by omega) (by rw [Z0.o];omega) _ _))
theorem zy (w:World) (s t:Bool) (a b:Option Addr) (k c k' c' n m:Nat) (h:Raw w a k c n) (h':Raw w b k' c' m) (b1:k<1000000000) (b2:k'<1000000000):
 Calls prog 208 #[.agg #[.bool s,.slice a k c],.agg #[.bool t,.slice b k' c']] w (bw (bA s n+bA t m) w):=by
 by_cases e:t=s
 ·subst e;exact BO w t a b k c k' c' n m h h' b1 b2
 ·obtain rfl:t= !s:=by cases s<;>cases t<;>simp_all
  exact zx w s a b k c k' c' n m h h'
theorem Jc (w:World) (s t:Bool) (a b:Option Addr) (k c k' c' n m:Nat) (h:Raw w a k c n) (h':Raw w b k' c' m) (b1:len n<900000000) (b2:len m<900000000):
 Calls prog 172 #[.agg #[.bool s,.slice a k c],.agg #[.bool t,.slice b k' c']] w (bw (Nat.gcd n m:Nat) w):=by
 rw [←eX];go_enter func172,ntmps172
 go_wp2_with fail
 obtain ⟨W,hW,x0,Z0,A0,A1,A2⟩:=eT w 117 [.bool s,.slice a k c] 117 [.bool t,.slice b k' c'] 117 [.bool false,.slice none 0 0];rw [←hW];clear hW;have aK:=aG A0 (Ext.refl _);have z0:=(A0.ext (Ext.refl _)).lt;have aT:=aG A1 (Ext.refl _);have z1:=(A1.ext (Ext.refl _)).lt;obtain ⟨bD,bY,cQ,cR⟩:=aG A2 (Ext.refl _);have z2:=(A2.ext (Ext.refl _)).lt;refine (Ov _ _ _ _ _ _ _ _ _ (h.ext x0) (h'.ext x0) b1 b2).mono ?_;rintro e w1 ⟨a1,c1,rfl,hr1,pA,hx1⟩;have aK:=aG A0 hx1;have z0:=(A0.ext hx1).lt;have aT:=aG A1 hx1;have z1:=(A1.ext hx1).lt;obtain ⟨bD,bY,cQ,cR⟩:=aG A2 hx1;have z2:=(A2.ext hx1).lt;go_wp2_with fail
 refine (iw _ false _ _ _ _ hr1).mono ?_;rintro e w2 zv;have fin:=zv.base hx1;obtain ⟨a2,c2,rfl,hr2,hf2,hx2⟩:=id fin;have aK:=aG A0 hx2;have z0:=(A0.ext hx2).lt;have aT:=aG A1 hx2;have z1:=(A1.ext hx2).lt;obtain ⟨bD,bY,cQ,cR⟩:=aG A2 hx2;have z2:=(A2.ext hx2).lt;go_wp2
 exact bodyPost_ret (by simp [results,results172,go_sem,bD,bY]) rfl (bw.bF fin x0 (Touch.two _ (by omega) (by rw [Z0.o];omega) _ _))
theorem Oy (w:World) (s t:Bool) (a b:Option Addr) (k c k' c' n m:Nat) (h:Raw w a k c n) (h':Raw w b k' c' m) (b1:k<1000000000) (b2:len m<1000000000):
 Calls prog 210 #[.agg #[.bool s,.slice a k c],.agg #[.bool t,.slice b k' c']] w (bw (bA s n-bA t m) w):=by
 obtain ⟨z,hz⟩: ∃z,z= -bA t m:=⟨_,rfl⟩
 have hN: ∀V,Ext w V→Calls prog 174 #[.agg #[.bool t,.slice b k' c']] V (bw z V):=by
  intro V hV;rw [hz];exact zu V t b k' c' m (h'.ext hV)
 have hA: ∀V a' c',Ext w V→Raw V a' (len z.natAbs) c' z.natAbs→Calls prog 208 #[.agg #[.bool s,.slice a k c],.agg #[.bool (decide (z<0)),.slice a' (len z.natAbs) c']] V (bw (bA s n-bA t m) V):=by
  intro V a' c' hV hR;have:=zy V s (decide (z<0)) a a' k c _ c' n _ (h.ext hV) hR b1 (by rw [hz,Int.natAbs_neg,cd];exact b2);have e:bA s n+z=bA s n-bA t m:=by rw [hz,←Int.sub_eq_add_neg]
  rw [eH,e]at this;exact this
 have HA:=ae hA;have HN:=ae hN;clear hA hN hz
 obtain ⟨zr,hzr⟩: ∃zr,zr=bA s n-bA t m:=⟨_,rfl⟩;rw [←hzr]at HA⊢;clear hzr;go_enter func210,ntmps210
 go_wp2_with fail
 obtain ⟨W,hW,x0,Z0,A0,A1,A2⟩:=eT w 117 [.bool s,.slice a k c] 117 [.bool t,.slice b k' c'] 117 [.bool false,.slice none 0 0];rw [←hW];clear hW;obtain ⟨aK,bf,bN,bO⟩:=aG A0 (Ext.refl _);have z0:=(A0.ext (Ext.refl _)).lt;obtain ⟨aT,bH,cM,cN⟩:=aG A1 (Ext.refl _);have z1:=(A1.ext (Ext.refl _)).lt;obtain ⟨bD,bY,cQ,cR⟩:=aG A2 (Ext.refl _);have z2:=(A2.ext (Ext.refl _)).lt
 go_region_held3 (fun w'=>w'.cell? ⟨w.heap.size,0,none⟩=some (.bool s)∧w'.cell? ⟨w.heap.size,1,none⟩=some (.slice a k c)∧w'.cell? ⟨w.heap.size+1,0,none⟩=some (.bool t)∧w'.cell? ⟨w.heap.size+1,1,none⟩=some (.slice b k' c')) (first|exact ⟨aK,bf,aT,bH⟩|(simp [go_sem,aK,bf,aT,bH])) (first
  |(go_at_call 174;refine (HN.o _ (by exact x0.drew)).mono ?_;rintro e w1 ⟨a1,c1,rfl,hr1,pA,hx1⟩;obtain ⟨aK,bf,bN,bO⟩:=aG A0 (((Ext.refl _).drew).trans hx1);have z0:=(A0.ext (((Ext.refl _).drew).trans hx1)).lt;obtain ⟨aT,bH,cM,cN⟩:=aG A1 (((Ext.refl _).drew).trans hx1);have z1:=(A1.ext (((Ext.refl _).drew).trans hx1)).lt;obtain ⟨bD,bY,cQ,cR⟩:=aG A2 (((Ext.refl _).drew).trans hx1);have z2:=(A2.ext (((Ext.refl _).drew).trans hx1)).lt)
  |(go_at_call 208;refine (HA.o _ _ _ (x0.drew.trans hx1) hr1).mono ?_;rintro e w2 ⟨a2,c2,rfl,hr2,hf2,hx2⟩;obtain ⟨aK,bf,bN,bO⟩:=aG A0 ((((Ext.refl _).drew).trans hx1).trans hx2);have z0:=(A0.ext ((((Ext.refl _).drew).trans hx1).trans hx2)).lt;obtain ⟨aT,bH,cM,cN⟩:=aG A1 ((((Ext.refl _).drew).trans hx1).trans hx2);have z1:=(A1.ext ((((Ext.refl _).drew).trans hx1).trans hx2)).lt;obtain ⟨bD,bY,cQ,cR⟩:=aG A2 ((((Ext.refl _).drew).trans hx1).trans hx2);have z2:=(A2.ext ((((Ext.refl _).drew).trans hx1).trans hx2)).lt))
 have fin:bw zr W.drew _ w2:=⟨a2,c2,rfl,hr2,hf2.mono hx1.size,hx1.trans hx2⟩;go_wp2
 exact bodyPost_ret (by simp [results,results210,go_sem,bD,bY]) rfl (bw.bF fin x0.drew (Touch.two _ (by omega) (by rw [World.drew,Z0.o];omega) _ _))
theorem kE.Ya {w W w4 w5:World} {a a':Option Addr} {c c':Nat} {x y:Int} (h:Raw w4 a (len x.natAbs) c x.natAbs) (h':Raw w4 a' (len y.natAbs) c' y.natAbs) (hf:Fr W.heap.size a) (hf':Fr W.heap.size a') (hW:Ext w W) (h2:Ext w w4)
 (t:Touch w.heap.size W.heap.size w4 w5):kE x y w (.returned (.tuple #[.agg #[.bool (decide (x<0)),.slice a (len x.natAbs) c],.agg #[.bool (decide (y<0)),.slice a' (len y.natAbs) c'],.bool true])) w5:=
 ⟨a,c,a',c',rfl,h.bF t hf.o,hf.mono hW.size,h'.bF t hf'.o,hf'.mono hW.size,h2.qo t⟩
theorem aJ.BG {w:World} {b:Nat} {T:TypeId} {x y:Value} (h:aJ w b T [x,y]) (u v:Value):aJ ((w.setCell ⟨b,0,none⟩ u).setCell ⟨b,1,none⟩ v) b T [u,v]:=(h.set 0 u).set 1 v
theorem aJ.jh {w:World} {b b':Nat} {T:TypeId} {vs:List Value} (h:aJ w b T vs) (u v:Value) (hb:b'≠b):aJ ((w.setCell ⟨b',0,none⟩ u).setCell ⟨b',1,none⟩ v) b T vs:=(h.other _ _ hb).other _ _ hb
theorem qx (w:World) (s:Bool) (a:Option Addr) (k c n:Nat) (h:Raw w a k c n):
 Calls prog 128 #[.agg #[.bool s,.slice a k c]] w fun e w'=>e= .returned (.int .i64 (bA s n).sign)∧Ext w w':=by
 have hN:=fun V (hV:Ext w V)=>qw V s a k c n (h.ext hV);generalize bA s n=z at hN⊢;have HN:=ae hN;clear hN
 go_enter func128,ntmps128
 go_wp2_with fail
 obtain ⟨W,hW,x0,Z0,A0⟩:=aH w 117 [.bool s,.slice a k c];rw [←hW];clear hW;have aK:=aG A0 (Ext.refl _);have z0:=(A0.ext (Ext.refl _)).lt;refine (HN.o _ x0).mono ?_;rintro e w1 ⟨a1,c1,rfl,hr1,pA,hx1⟩;have aK:=aG A0 hx1;have z0:=(A0.ext hx1).lt;have fin: ∀v0 v1,Ext w ((w1.setCell ⟨w.heap.size,0,none⟩ v0).setCell ⟨w.heap.size,1,none⟩ v1):=fun v0 v1=>x0.bF hx1 (Touch.two _ (Nat.le_refl _) (by rw [Z0.o];omega) _ _);have Ok:=ae fin;clear fin
 have lz:=hr1.le;rcases Int.lt_trichotomy z 0 with hz|hz|hz
 ·have hs:=Int.sign_eq_neg_one_of_neg hz
  have HS:=ae hs;clear hs
  rw [decide_eq_true hz];go_wp2_with fail
  go_ret;exact ⟨cS HS.o.symm,Ok.o _ _⟩
 ·subst hz
  have hd:decide ((0:Int)<0)=false:=rfl;have hl:len (Int.natAbs 0)=0:=rfl;rw [hd,hl];go_wp2_with fail
  go_ret;exact ⟨rfl,Ok.o _ _⟩
 ·have hs:=Int.sign_eq_one_of_pos hz
  have HS:=ae hs;clear hs
  have hp:=mm.2 (show 0<z.natAbs by omega);have hb:(((len z.natAbs:Nat):Int)==0)=false:=by rw [beq_eq_false_iff_ne];omega
  rw [decide_eq_false (show¬z<0 by omega)];go_wp2_with fail
  go_ret;exact ⟨cS HS.o.symm,Ok.o _ _⟩
theorem yc (w:World) (s t:Bool) (a b:Option Addr) (k c k' c' n m:Nat) (h:Raw w a k c n) (h':Raw w b k' c' m) (hm:0<m) (b1:k<900000000) (b2:k'<900000000):
 Calls prog 173 #[.agg #[.bool s,.slice a k c],.agg #[.bool t,.slice b k' c']] w (kE (bA s n/bA t m) (bA s n % bA t m) w):=by
 have mZ:=fun V a' c' (hV:Raw V a' (len (n/m)) c' (n/m))=>iw V (s !=t) a' _ c' _ hV;have NY:=fun V a' c' (hV:Raw V a' (len (n % m)) c' (n % m))=>iw V s a' _ c' _ hV;obtain ⟨Q,hQ⟩: ∃Q,Q=bA (s !=t) (n/m):=⟨_,rfl⟩;obtain ⟨R,hR⟩: ∃R,R=bA s (n % m):=⟨_,rfl⟩;rw [←hQ]at mZ;rw [←hR]at NY;have yL:=ae mZ;have wE:=ae NY;have HQ:=ae hQ;have HR:=ae hR;clear mZ NY hQ hR
 go_enter func173,ntmps173
 go_wp2_with fail
 obtain ⟨W,hW,x0,Z0,A0,A1,A2,A3⟩:=Nb w 117 [.bool s,.slice a k c] 117 [.bool t,.slice b k' c'] 117 [.bool false,.slice none 0 0] 117 [.bool false,.slice none 0 0];rw [←hW];clear hW;obtain ⟨aK,bf,bN,bO⟩:=aG A0 (Ext.refl _);have z0:=(A0.ext (Ext.refl _)).lt;obtain ⟨aT,bH,cM,cN⟩:=aG A1 (Ext.refl _);have z1:=(A1.ext (Ext.refl _)).lt;obtain ⟨bD,bY,cQ,cR⟩:=aG A2 (Ext.refl _);have z2:=(A2.ext (Ext.refl _)).lt;obtain ⟨mV,mW,pg,pj⟩:=aG A3 (Ext.refl _);have z3:=(A3.ext (Ext.refl _)).lt;refine (yb _ _ _ _ _ _ _ _ _ (h.ext x0) (h'.ext x0) hm b1 b2).mono ?_;rintro e w1 ⟨a1,c1,a2,c2,rfl,hr1,pA,hr2,hf2,hx1⟩;obtain ⟨aK,bf,bN,bO⟩:=aG A0 hx1;have z0:=(A0.ext hx1).lt;obtain ⟨aT,bH,cM,cN⟩:=aG A1 hx1;have z1:=(A1.ext hx1).lt;obtain ⟨bD,bY,cQ,cR⟩:=aG A2 hx1;have z2:=(A2.ext hx1).lt;obtain ⟨mV,mW,pg,pj⟩:=aG A3 hx1;have z3:=(A3.ext hx1).lt;have lB:True:=trivial;go_wp2_with fail
 go_region_held3 (fun w'=>w'.cell? ⟨w.heap.size,0,none⟩=some (.bool s)∧w'.cell? ⟨w.heap.size,1,none⟩=some (.slice a k c)∧w'.cell? ⟨w.heap.size+1,0,none⟩=some (.bool t)∧w'.cell? ⟨w.heap.size+1,1,none⟩=some (.slice b k' c')) (first|exact ⟨aK,bf,aT,bH⟩|(simp [go_sem,aK,bf,aT,bH])) (first
  |(go_at_call 175;have _t:=lB;refine (yL.o _ _ _ (hr1.ext (by exact (Ext.refl _).drew))).mono ?_;rintro e w2 ⟨a3,c3,rfl,hr3,hf3,hx2⟩;clear lB _t;obtain ⟨aK,bf,bN,bO⟩:=aG A0 (hx1.drew.trans hx2);have z0:=(A0.ext (hx1.drew.trans hx2)).lt;obtain ⟨aT,bH,cM,cN⟩:=aG A1 (hx1.drew.trans hx2);have z1:=(A1.ext (hx1.drew.trans hx2)).lt;obtain ⟨bD,bY,cQ,cR⟩:=aG A2 (hx1.drew.trans hx2);have z2:=(A2.ext (hx1.drew.trans hx2)).lt;obtain ⟨mV,mW,pg,pj⟩:=aG A3 (hx1.drew.trans hx2);have z3:=(A3.ext (hx1.drew.trans hx2)).lt)
  |(go_at_call 175;refine (wE.o _ _ _ ((hr2.ext (by exact (Ext.refl _).drew)).ext hx2)).mono ?_;rintro e w3 ⟨a4,c4,rfl,hr4,PZ,hx3⟩;obtain ⟨aK,bf,bN,bO⟩:=aG A0 ((hx1.drew.trans hx2).trans hx3);have z0:=(A0.ext ((hx1.drew.trans hx2).trans hx3)).lt;obtain ⟨aT,bH,cM,cN⟩:=aG A1 ((hx1.drew.trans hx2).trans hx3);have z1:=(A1.ext ((hx1.drew.trans hx2).trans hx3)).lt;obtain ⟨bD,bY,cQ,cR⟩:=aG A2 ((hx1.drew.trans hx2).trans hx3);have z2:=(A2.ext ((hx1.drew.trans hx2).trans hx3)).lt;obtain ⟨mV,mW,pg,pj⟩:=aG A3 ((hx1.drew.trans hx2).trans hx3);have z3:=(A3.ext ((hx1.drew.trans hx2).trans hx3)).lt))
 go_upto_region 5 with fail
 have xx:Ext W w3:=(hx1.drew.trans hx2).trans hx3;have tt:Touch w.heap.size W.heap.size w3 ((((w3.setCell ⟨w.heap.size+1+1,0,none⟩ (.bool (decide (Q<0)))).setCell ⟨w.heap.size+1+1,1,none⟩ (.slice a3 (len Q.natAbs) c3)).setCell ⟨w.heap.size+1+1+1,0,none⟩ (.bool (decide (R<0)))).setCell ⟨w.heap.size+1+1+1,1,none⟩ (.slice a4 (len R.natAbs) c4)):=(Touch.two _ (by omega) (by rw [Z0.o];omega) _ _).trans (Touch.two _ (by omega) (by rw [Z0.o];omega) _ _);have D0:aJ ((((w3.setCell ⟨w.heap.size+1+1,0,none⟩ (.bool (decide (Q<0)))).setCell ⟨w.heap.size+1+1,1,none⟩ (.slice a3 (len Q.natAbs) c3)).setCell ⟨w.heap.size+1+1+1,0,none⟩ (.bool (decide (R<0)))).setCell ⟨w.heap.size+1+1+1,1,none⟩ (.slice a4 (len R.natAbs) c4)) w.heap.size 117 [.bool s,.slice a k c]:=((A0.ext xx).jh _ _ (by omega)).jh _ _ (by omega);have D1:aJ ((((w3.setCell ⟨w.heap.size+1+1,0,none⟩ (.bool (decide (Q<0)))).setCell ⟨w.heap.size+1+1,1,none⟩ (.slice a3 (len Q.natAbs) c3)).setCell ⟨w.heap.size+1+1+1,0,none⟩ (.bool (decide (R<0)))).setCell ⟨w.heap.size+1+1+1,1,none⟩ (.slice a4 (len R.natAbs) c4)) (w.heap.size+1) 117 [.bool t,.slice b k' c']:=((A1.ext xx).jh _ _ (by omega)).jh _ _ (by omega);have D2:aJ ((((w3.setCell ⟨w.heap.size+1+1,0,none⟩ (.bool (decide (Q<0)))).setCell ⟨w.heap.size+1+1,1,none⟩ (.slice a3 (len Q.natAbs) c3)).setCell ⟨w.heap.size+1+1+1,0,none⟩ (.bool (decide (R<0)))).setCell ⟨w.heap.size+1+1+1,1,none⟩ (.slice a4 (len R.natAbs) c4)) (w.heap.size+2) 117 [.bool (decide (Q<0)),.slice a3 (len Q.natAbs) c3]:=((A2.ext xx).BG _ _).jh _ _ (by omega);have D3:aJ ((((w3.setCell ⟨w.heap.size+1+1,0,none⟩ (.bool (decide (Q<0)))).setCell ⟨w.heap.size+1+1,1,none⟩ (.slice a3 (len Q.natAbs) c3)).setCell ⟨w.heap.size+1+1+1,0,none⟩ (.bool (decide (R<0)))).setCell ⟨w.heap.size+1+1+1,1,none⟩ (.slice a4 (len R.natAbs) c4)) (w.heap.size+3) 117 [.bool (decide (R<0)),.slice a4 (len R.natAbs) c4]:=((A3.ext xx).jh _ _ (by omega)).BG _ _;have e4:=x0.bF xx tt;have f3:=hf3.mono (hx1.drew).size;have f4:=PZ.mono ((hx1.drew).trans hx2).size;have r3:=(hr3.ext hx3).bF tt (Fr.o f3);have r4:=hr4.bF tt (Fr.o f4);have zw:=tt.size;generalize ((((w3.setCell ⟨w.heap.size+1+1,0,none⟩ (.bool (decide (Q<0)))).setCell ⟨w.heap.size+1+1,1,none⟩ (.slice a3 (len Q.natAbs) c3)).setCell ⟨w.heap.size+1+1+1,0,none⟩ (.bool (decide (R<0)))).setCell ⟨w.heap.size+1+1+1,1,none⟩ (.slice a4 (len R.natAbs) c4))=w4 at*;clear tt hr3 hr4 hf3 PZ hr1 hr2 pA hf2 yL wE aK bf bN bO aT bH cM cN bD bY cQ cR mV mW pg pj A0 A1 A2 A3;have F3:Fr w.heap.size a3:=f3.mono x0.size;have F4:Fr w.heap.size a4:=f4.mono x0.size;obtain ⟨aK,bf,bN,bO⟩:=aG D0 (Ext.refl _);obtain ⟨aT,bH,cM,cN⟩:=aG D1 (Ext.refl _);obtain ⟨bD,bY,cQ,cR⟩:=aG D2 (Ext.refl _);obtain ⟨mV,mW,pg,pj⟩:=aG D3 (Ext.refl _);have zW:=Z0.o;have HZW:=ae zW;by_cases P_:R<0
 ·have hs1:s=true:=by
   cases s with
   |true=>rfl
   |false=>rw [HR.o,eX]at P_;omega
  subst hs1;have Ct:0<n % m:=by rw [HR.o,jB]at P_;omega
  obtain ⟨q1,q2⟩:=wT (t:=t) hm Ct;obtain ⟨M,hM⟩: ∃M:Int,M=(m:Int):=⟨_,rfl⟩;obtain ⟨R2,wZ⟩: ∃R2:Int,R2=R+M:=⟨_,rfl⟩
  have SN:bA true n % bA t m=R2:=by
   have:=Nat.mod_lt n hm;rw [q2,wZ,HR.o,hM,jB];omega
  have SP:decide (R2<0)=false:=decide_eq_false (by have:=Nat.mod_lt n hm;rw [wZ,HR.o,hM,jB];omega)
  have hA: ∀V,Ext w V→Calls prog 209 #[.agg #[.bool t,.slice b k' c']] V (bw M V):=by
   intro V hV;rw [hM];exact Ow V t b k' c' m (h'.ext hV)
  have SQ:R.natAbs=n % m:=by rw [HR.o,cd]
  have hlr:len R.natAbs<900000000:=by
   have e1:=dJ (Nat.le_of_lt (Nat.mod_lt n hm));have e2:=h'.cj;rw [SQ];omega
  have hlM:len M.natAbs<900000000:=by
   have e2:=h'.cj;rw [hM,Int.natAbs_natCast];omega
  have hS: ∀V a' c',Ext w4 V→Raw V a' (len M.natAbs) c' M.natAbs→Calls prog 208 #[.agg #[.bool true,.slice a4 (len R.natAbs) c4],.agg #[.bool (decide (M<0)),.slice a' (len M.natAbs) c']] V (bw R2 V):=by
   intro V a' c' hV SR;have:=zy V true (decide (M<0)) a4 a' _ c4 _ c' _ _ (r4.ext hV) SR (by omega) (by omega);rw [eH]at this;rw [wZ];rw [show bA true R.natAbs=R from by rw [←decide_eq_true P_];exact eH R]at this;exact this
  have hlQ:len Q.natAbs<900000000:=by
   have e1:Q.natAbs=n/m:=by rw [HQ.o,cd]
   have e2:=dJ (Nat.div_le_self n m);have e3:=h.cj;rw [e1];omega
  obtain ⟨ONE,Oz⟩: ∃O:Int,O=1:=⟨_,rfl⟩
  have hO: ∀V,Calls prog 118 #[.int .i64 1] V (bw ONE V):=by
   intro V;rw [Oz];exact pd V 1 (by decide) (by decide)
  have HA:=ae hA;have HS:=ae hS;have HO:=ae hO
  have tU:=ae SN;have adT:=ae SP;have wQ:=ae Oz;have yL:=ae q1
  clear hA hS hO q1 q2 wZ SN SP hM SQ Oz Ct;rw [decide_eq_true P_]at*;go_upto_region 6 with fail
  go_cut [] (fun wx=> ∃a6 c6,aJ wx w.heap.size 117 [.bool true,.slice a k c]∧aJ wx (w.heap.size+1) 117 [.bool t,.slice b k' c']∧aJ wx (w.heap.size+2) 117 [.bool (decide (Q<0)),.slice a3 (len Q.natAbs) c3]∧aJ wx (w.heap.size+3) 117 [.bool (decide (R2<0)),.slice a6 (len R2.natAbs) c6]∧Raw wx a6 (len R2.natAbs) c6 R2.natAbs∧Raw wx a3 (len Q.natAbs) c3 Q.natAbs∧Fr W.heap.size a6∧Ext w wx∧W.heap.size≤wx.heap.size)
  case first=>
   go_region_with (first
    |(go_at_call 209;refine (HA.o _ (by exact e4.drew)).mono ?_;rintro e w5 ⟨a5,c5,rfl,LD,hf5,eY⟩;obtain ⟨aK,bf,bN,bO⟩:=aG D0 ((Ext.refl _).drew.trans eY);obtain ⟨aT,bH,cM,cN⟩:=aG D1 ((Ext.refl _).drew.trans eY);obtain ⟨bD,bY,cQ,cR⟩:=aG D2 ((Ext.refl _).drew.trans eY);obtain ⟨mV,mW,pg,pj⟩:=aG D3 ((Ext.refl _).drew.trans eY))
    |(go_at_call 208;refine (HS.o _ _ _ (by exact (Ext.refl _).drew.trans eY) LD).mono ?_;rintro e w6 ⟨a6,c6,rfl,LG,U5,kU⟩;obtain ⟨aK,bf,bN,bO⟩:=aG D0 (((Ext.refl _).drew.trans eY).trans kU);obtain ⟨aT,bH,cM,cN⟩:=aG D1 (((Ext.refl _).drew.trans eY).trans kU);obtain ⟨bD,bY,cQ,cR⟩:=aG D2 (((Ext.refl _).drew.trans eY).trans kU);obtain ⟨mV,mW,pg,pj⟩:=aG D3 (((Ext.refl _).drew.trans eY).trans kU)))
   all_goals go_wp2_with fail
   all_goals go_meet
   all_goals have OA:Ext w4 w6:=((Ext.refl _).drew.trans eY).trans kU
   all_goals have zz6:W.heap.size≤w4.heap.size:=by rw [zw];exact xx.size
   all_goals have f6:Fr W.heap.size a6:=U5.mono (Nat.le_trans zz6 (Nat.le_trans (Ext.refl _).drew.size eY.size))
   all_goals have t6:=Touch.two (lo:=w.heap.size) (hi:=W.heap.size) (b:=w.heap.size+3) w6 (by omega) (by omega) (.bool (decide (R2<0))) (.slice a6 (len R2.natAbs) c6)
   all_goals exact ⟨a6,c6,(D0.ext OA).jh _ _ (by omega),(D1.ext OA).jh _ _ (by omega),(D2.ext OA).jh _ _ (by omega),(D3.ext OA).BG _ _,LG.bF t6 (Fr.o f6),(r3.ext OA).bF t6 (Fr.o f3),f6,(e4.trans OA).qo t6,by rw [t6.size];exact Nat.le_trans zz6 OA.size⟩
  case rest=>
   obtain ⟨a6,c6,E0,E1,E2,E3,r67,r37,f67,e7,zw7⟩:=hcut;obtain ⟨w7,rfl⟩: ∃w7:World,w7=wc:=⟨_,rfl⟩;clear D0 D1 D2 D3 aK bf bN bO aT bH cM cN bD bY cQ cR mV mW pg pj r3 r4 HS HA;obtain ⟨aK,bf,bN,bO⟩:=aG E0 (Ext.refl _);obtain ⟨aT,bH,cM,cN⟩:=aG E1 (Ext.refl _);obtain ⟨bD,bY,cQ,cR⟩:=aG E2 (Ext.refl _);obtain ⟨mV,mW,pg,pj⟩:=aG E3 (Ext.refl _)
   cases t with
   |true=>
    obtain ⟨Q2,OB⟩: ∃Q2:Int,Q2=Q+ONE:=⟨_,rfl⟩
    have SS: ∀V a' c',Ext w7 V→Raw V a' (len ONE.natAbs) c' ONE.natAbs→Calls prog 208 #[.agg #[.bool (decide (Q<0)),.slice a3 (len Q.natAbs) c3],.agg #[.bool (decide (ONE<0)),.slice a' (len ONE.natAbs) c']] V (bw Q2 V):=by
     intro V a' c' hV SR;have:=zy V (decide (Q<0)) (decide (ONE<0)) a3 a' _ c3 _ c' _ _ (r37.ext hV) SR (by omega) (by rw [wQ.o];decide);rw [eH,eH]at this;rw [OB];exact this
    have SU:bA true n/bA true m=Q2:=by
     rw [yL.o,OB,HQ.o,wQ.o];simp [bA]
    have yM:=ae SS;have MI:=ae SU
    clear SS SU OB;go_wp2_with fail
    go_region_with (first
     |(go_at_call 118;refine (HO.o _).mono ?_;rintro e w8 ⟨a8,c8,rfl,Yb,hf8,jD⟩;obtain ⟨aK,bf,bN,bO⟩:=aG E0 ((Ext.refl _).drew.trans jD);obtain ⟨aT,bH,cM,cN⟩:=aG E1 ((Ext.refl _).drew.trans jD);obtain ⟨bD,bY,cQ,cR⟩:=aG E2 ((Ext.refl _).drew.trans jD);obtain ⟨mV,mW,pg,pj⟩:=aG E3 ((Ext.refl _).drew.trans jD))
     |(go_at_call 208;refine (yM.o _ _ _ (by exact (Ext.refl _).drew.trans jD) Yb).mono ?_;rintro e w9 ⟨a9,c9,rfl,Yc,Yd,yU⟩;obtain ⟨aK,bf,bN,bO⟩:=aG E0 (((Ext.refl _).drew.trans jD).trans yU);obtain ⟨aT,bH,cM,cN⟩:=aG E1 (((Ext.refl _).drew.trans jD).trans yU);obtain ⟨bD,bY,cQ,cR⟩:=aG E2 (((Ext.refl _).drew.trans jD).trans yU);obtain ⟨mV,mW,pg,pj⟩:=aG E3 (((Ext.refl _).drew.trans jD).trans yU)))
    all_goals have LH:Ext w7 w9:=((Ext.refl _).drew.trans jD).trans yU
    all_goals have f9:Fr W.heap.size a9:=Yd.mono (Nat.le_trans zw7 (Nat.le_trans (Ext.refl _).drew.size jD.size))
    all_goals go_upto_region 10 with fail
    all_goals have t9:=Touch.two (lo:=w.heap.size) (hi:=W.heap.size) (b:=w.heap.size+2) w9 (by omega) (by omega) (.bool (decide (Q2<0))) (.slice a9 (len Q2.natAbs) c9)
    all_goals have G2:=(E2.ext LH).BG (.bool (decide (Q2<0))) (.slice a9 (len Q2.natAbs) c9)
    all_goals have G3:=(E3.ext LH).jh (b':=w.heap.size+2) (.bool (decide (Q2<0))) (.slice a9 (len Q2.natAbs) c9) (by omega)
    all_goals have Kh:=(e7.trans LH).qo t9
    all_goals have r9:=Yc.bF t9 (Fr.o f9)
    all_goals have r6:=(r67.ext LH).bF t9 (Fr.o f67)
    all_goals rw [show w.heap.size+1+1=w.heap.size+2 from rfl]
    all_goals generalize (w9.setCell ⟨w.heap.size+2,0,none⟩ (.bool (decide (Q2<0)))).setCell ⟨w.heap.size+2,1,none⟩ (.slice a9 (len Q2.natAbs) c9)=Ew at*
    all_goals obtain ⟨bD,bY,cQ,cR⟩:=aG G2 (Ext.refl _)
    all_goals obtain ⟨mV,mW,pg,pj⟩:=aG G3 (Ext.refl _)
    all_goals go_wp2_with fail
    all_goals go_region
    all_goals go_wp2_with fail
    all_goals rw [MI.o,tU.o]
    all_goals exact bodyPost_ret (v:= .tuple #[.agg #[.bool (decide (Q2<0)),.slice a9 (len Q2.natAbs) c9],.agg #[.bool (decide (R2<0)),.slice a6 (len R2.natAbs) c6],.bool true]) (by simp [results,results173,go_sem,bD,bY,mV,mW]) rfl (kE.Ya r9 r6 f9 f67 x0 Kh (((Touch.two _ (by omega) (by omega) _ _).trans (Touch.two _ (by omega) (by omega) _ _)).drew))
   |false=>
    obtain ⟨Q2,OB⟩: ∃Q2:Int,Q2=Q-ONE:=⟨_,rfl⟩
    have SS: ∀V a' c',Ext w7 V→Raw V a' (len ONE.natAbs) c' ONE.natAbs→Calls prog 210 #[.agg #[.bool (decide (Q<0)),.slice a3 (len Q.natAbs) c3],.agg #[.bool (decide (ONE<0)),.slice a' (len ONE.natAbs) c']] V (bw Q2 V):=by
     intro V a' c' hV SR;have:=Oy V (decide (Q<0)) (decide (ONE<0)) a3 a' _ c3 _ c' _ _ (r37.ext hV) SR (by omega) (by rw [wQ.o];decide);rw [eH,eH]at this;rw [OB];exact this
    have SU:bA true n/bA false m=Q2:=by
     rw [yL.o,OB,HQ.o,wQ.o];simp [bA];omega
    have yM:=ae SS;have MI:=ae SU
    clear SS SU OB;go_wp2_with fail
    go_region_with (first
     |(go_at_call 118;refine (HO.o _).mono ?_;rintro e w8 ⟨a8,c8,rfl,Yb,hf8,jD⟩;obtain ⟨aK,bf,bN,bO⟩:=aG E0 ((Ext.refl _).drew.trans jD);obtain ⟨aT,bH,cM,cN⟩:=aG E1 ((Ext.refl _).drew.trans jD);obtain ⟨bD,bY,cQ,cR⟩:=aG E2 ((Ext.refl _).drew.trans jD);obtain ⟨mV,mW,pg,pj⟩:=aG E3 ((Ext.refl _).drew.trans jD))
     |(go_at_call 210;refine (yM.o _ _ _ (by exact (Ext.refl _).drew.trans jD) Yb).mono ?_;rintro e w9 ⟨a9,c9,rfl,Yc,Yd,yU⟩;obtain ⟨aK,bf,bN,bO⟩:=aG E0 (((Ext.refl _).drew.trans jD).trans yU);obtain ⟨aT,bH,cM,cN⟩:=aG E1 (((Ext.refl _).drew.trans jD).trans yU);obtain ⟨bD,bY,cQ,cR⟩:=aG E2 (((Ext.refl _).drew.trans jD).trans yU);obtain ⟨mV,mW,pg,pj⟩:=aG E3 (((Ext.refl _).drew.trans jD).trans yU)))
    all_goals have LH:Ext w7 w9:=((Ext.refl _).drew.trans jD).trans yU
    all_goals have f9:Fr W.heap.size a9:=Yd.mono (Nat.le_trans zw7 (Nat.le_trans (Ext.refl _).drew.size jD.size))
    all_goals go_upto_region 10 with fail
    all_goals have t9:=Touch.two (lo:=w.heap.size) (hi:=W.heap.size) (b:=w.heap.size+2) w9 (by omega) (by omega) (.bool (decide (Q2<0))) (.slice a9 (len Q2.natAbs) c9)
    all_goals have G2:=(E2.ext LH).BG (.bool (decide (Q2<0))) (.slice a9 (len Q2.natAbs) c9)
    all_goals have G3:=(E3.ext LH).jh (b':=w.heap.size+2) (.bool (decide (Q2<0))) (.slice a9 (len Q2.natAbs) c9) (by omega)
    all_goals have Kh:=(e7.trans LH).qo t9
    all_goals have r9:=Yc.bF t9 (Fr.o f9)
    all_goals have r6:=(r67.ext LH).bF t9 (Fr.o f67)
    all_goals rw [show w.heap.size+1+1=w.heap.size+2 from rfl]
    all_goals generalize (w9.setCell ⟨w.heap.size+2,0,none⟩ (.bool (decide (Q2<0)))).setCell ⟨w.heap.size+2,1,none⟩ (.slice a9 (len Q2.natAbs) c9)=Ew at*
    all_goals obtain ⟨bD,bY,cQ,cR⟩:=aG G2 (Ext.refl _)
    all_goals obtain ⟨mV,mW,pg,pj⟩:=aG G3 (Ext.refl _)
    all_goals go_wp2_with fail
    all_goals go_region
    all_goals go_wp2_with fail
    all_goals rw [MI.o,tU.o]
    all_goals exact bodyPost_ret (v:= .tuple #[.agg #[.bool (decide (Q2<0)),.slice a9 (len Q2.natAbs) c9],.agg #[.bool (decide (R2<0)),.slice a6 (len R2.natAbs) c6],.bool true]) (by simp [results,results173,go_sem,bD,bY,mV,mW]) rfl (kE.Ya r9 r6 f9 f67 x0 Kh (((Touch.two _ (by omega) (by omega) _ _).trans (Touch.two _ (by omega) (by omega) _ _)).drew))
 ·have hres:bA s n/bA t m=Q∧bA s n % bA t m=R:=by
   have hc:s=false∨n % m=0:=by
    by_cases Oj:n % m=0
    ·exact Or.inr Oj
    ·cases s with
     |false=>exact Or.inl rfl
     |true=>exact absurd (by rw [HR.o,jB];omega) P_
   obtain ⟨q1,q2⟩:=rK (s:=s) (t:=t) hm hc;refine ⟨by rw [q1,HQ.o],?_⟩;rw [q2,HR.o];rcases hc with hc|hc
   ·rw [hc,eX]
   ·rw [hc,vk];rfl
  have SV:=ae hres;clear hres
  have hdR:0≤R:=by omega
  rw [decide_eq_false P_]at*;go_wp2_with fail
  go_region
  all_goals go_wp2_with fail
  all_goals rw [SV.o.1,SV.o.2]
  all_goals exact bodyPost_ret (v:= .tuple #[.agg #[.bool (decide (Q<0)),.slice a3 (len Q.natAbs) c3],.agg #[.bool (decide (R<0)),.slice a4 (len R.natAbs) c4],.bool true]) (by simp [results,results173,go_sem,bD,bY,mV,mW,hdR]) rfl (kE.Ya r3 r4 f3 f4 x0 e4 (((Touch.two _ (by omega) (by omega) _ _).trans (Touch.two _ (by omega) (by omega) _ _)).drew))
end Go.Proofs.YtkpngkdgphojlaaGreat
