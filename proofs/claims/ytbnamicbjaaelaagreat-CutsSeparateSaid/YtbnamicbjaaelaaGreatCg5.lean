/- Texts of the proof. -/
import Derived.Test.YtbnamicbjaaelaaGreatCg4
set_option linter.all false
set_option maxHeartbeats 1000000
namespace Go.Proofs.YtbnamicbjaaelaaGreat
open Go.Proofs.Tryz
open Go.RowKit
theorem rk (s:Bool) (n:Nat):decide (bp s n<0)=(s&&decide (0<n)):=by
 unfold bp;cases s
 .simp
 .simp
theorem ep (n:Nat):bp false n=n:=rfl
theorem gW (n:Nat):bp true n= -(n:Int):=rfl
theorem oI (s:Bool):bp s 0=0:=by cases s<;>rfl
theorem AO (s:Bool) (n:Nat):bp (!s) n= -bp s n:=by cases s<;>simp [bp]
theorem je (w:World) (s:Bool) (a:Option Addr) (k c:Nat) (_hk:k<=1099511627776):
 Calls prog 143 #[.bool s,.slice a k c] w λe w'=>e= .returned (.agg #[.bool (s&&decide (0<k)),.slice a k c])/\Ext w w':=by
 cases s
 .go_enter func143,ntmps143
  go_wp2
  exact bodyPost_ret (v:= .agg #[.bool false,.slice a k c]) (by simp [results,results143,go_sem]) rfl ⟨rfl,ar.alloc _⟩
 .by_cases h0:0<k
  .have d0:decide (0<k)=true:=by simp [h0]
   go_enter func143,ntmps143
   go_wp2
   exact bodyPost_ret (v:= .agg #[.bool true,.slice a k c]) (by simp [results,results143,go_sem]) rfl ⟨by simp [h0],ar.alloc _⟩
  .have d0:decide (0<k)=false:=by simp [h0]
   go_enter func143,ntmps143
   go_wp2
   exact bodyPost_ret (v:= .agg #[.bool false,.slice a k c]) (by simp [results,results143,go_sem]) rfl ⟨by simp [h0],ar.alloc _⟩
theorem bB.h_ {w w1 w2:World} {s:Bool} {a:Option Addr} {c n:Nat} {e:Ending} (h:Raw w1 a (len n) c n) (hf:Fr w.heap.size a) (hx:Ext w w1)
 (he:e= .returned (.agg #[.bool (s&&decide (0<len n)),.slice a (len n) c])/\Ext w1 w2):bB (bp s n) w e w2:=by
 obtain ⟨rfl,hx2⟩:=he;refine ⟨a,c,?_,?_,hf,hx.trans hx2⟩
 .rw [bF,rk];simp only [gM]
 .rw [bF];exact h.ext hx2
theorem GU (s t:Bool) (n m:Nat):bp (s !=t) (n*m)=bp s n*bp t m:=by
 cases s<;>cases t<;>simp [bp,Int.neg_mul,Int.mul_neg]
theorem GV (s:Bool) (n m:Nat):bp s (n+m)=bp s n+bp s m:=by
 cases s<;>simp [bp];omega
theorem CG (s:Bool) (n m:Nat) (h:m<=n):bp s (n-m)=bp s n+bp (!s) m:=by
 cases s<;>simp [bp]<;>omega
theorem CH (s:Bool) (n m:Nat) (h:n<=m):bp (!s) (m-n)=bp s n+bp (!s) m:=by
 cases s<;>simp [bp]<;>omega
theorem KL (n:Nat) (h0:0<n) (h:n<=9223372036854775808):IntKind.u64.wrap (-IntKind.u64.wrap (-(n:Int)))=(n:Int):=by
 rw [IntKind.wrap_u64,IntKind.wrap_u64];omega
theorem CI (w:World) (v:Int) (h1: -9223372036854775808<=v) (h2:v<=9223372036854775807):
 Calls prog 83 #[.int .i64 v] w (bB v w):=by
 by_cases h0:v<0
 .obtain ⟨n,rfl⟩: ∃n:Nat,v= -(n:Int):=⟨v.natAbs,ae⟩
  have e1:=KL n ae ae;go_enter func83,ntmps83
  go_wp2_with fail
  obtain ⟨W,hW,x0,Z0,A0⟩:=aV w 90 [.bool false,.slice none 0 0];rw [<-hW];clear hW;obtain ⟨aM,bg,bL,bM⟩:=aH A0 ar;have z0:=(A0.ext ar).lt;refine (di _ _ ae).mono ?_;rintro e w1 ⟨a1,c1,rfl,hr1,jI,hx1⟩;obtain ⟨aM,bg,bL,bM⟩:=aH A0 hx1;have z0:=(A0.ext hx1).lt;go_wp2_with fail
  refine (je _ _ _ _ _ (bA hr1.le)).mono ?_;rintro e w2 ⟨rfl,hx2⟩;obtain ⟨aM,bg,bL,bM⟩:=aH A0 (hx1.trans hx2);have z0:=(A0.ext (hx1.trans hx2)).lt;have fin:=bB.h_ (s:=true) hr1 jI hx1 ⟨rfl,hx2⟩;go_wp2
  exact bodyPost_ret (by simp [results,results83,go_sem,aM,bg]) rfl (bB.bt fin x0 (Touch.two _ bY (by rw [Z0.o];omega) _ _))
 .obtain ⟨n,rfl⟩: ∃n:Nat,v=(n:Int):=⟨v.natAbs,ae⟩
  have e1:IntKind.u64.wrap (n:Int)=(n:Int):=by rw [IntKind.wrap_u64];omega
  go_enter func83,ntmps83
  go_wp2_with fail
  obtain ⟨W,hW,x0,Z0,A0⟩:=aV w 90 [.bool false,.slice none 0 0];rw [<-hW];clear hW;obtain ⟨aM,bg,bL,bM⟩:=aH A0 ar;have z0:=(A0.ext ar).lt;refine (di _ _ ae).mono ?_;rintro e w1 ⟨a1,c1,rfl,hr1,jI,hx1⟩;obtain ⟨aM,bg,bL,bM⟩:=aH A0 hx1;have z0:=(A0.ext hx1).lt;go_wp2_with fail
  refine (je _ _ _ _ _ (bA hr1.le)).mono ?_;rintro e w2 ⟨rfl,hx2⟩;obtain ⟨aM,bg,bL,bM⟩:=aH A0 (hx1.trans hx2);have z0:=(A0.ext (hx1.trans hx2)).lt;have fin:=bB.h_ (s:=false) hr1 jI hx1 ⟨rfl,hx2⟩;go_wp2
  exact bodyPost_ret (by simp [results,results83,go_sem,aM,bg]) rfl (bB.bt fin x0 (Touch.two _ bY (by rw [Z0.o];omega) _ _))
theorem KM (w:World) (s:Bool) (a:Option Addr) (k c n:Nat) (h:Raw w a k c n):
 Calls prog 169 #[.agg #[.bool s,.slice a k c]] w (bB (bp s n) w):=by
 go_enter func169,ntmps169
 go_wp2
 obtain ⟨W,hW,x0,Z0,A0,A1⟩:=dZ w 90 [.bool s,.slice a k c] 90 [.bool false,.slice none 0 0];rw [<-hW];clear hW;obtain ⟨aM,bg,bL,bM⟩:=aH A0 ar;have z0:=(A0.ext ar).lt;obtain ⟨aU,bq,cA,cC⟩:=aH A1 ar;have z1:=(A1.ext ar).lt
 go_region_held3 (λw'=>w'.cell? ⟨w.heap.size,0,none⟩=some (.bool s)/\w'.cell? ⟨w.heap.size,1,none⟩=some (.slice a k c)) (first|exact ⟨aM,bg⟩|(simp [go_sem,aM,bg])) (first
  |(go_at_call 170;refine (qX _ _ _ _ _ ((h.ext x0).ext (by exact ar.drew))).mono ?_;rintro e w1 ⟨a1,c1,rfl,hr1,jI,hx1⟩;obtain ⟨aM,bg,bL,bM⟩:=aH A0 ((ar.drew).trans hx1);have z0:=(A0.ext ((ar.drew).trans hx1)).lt;obtain ⟨aU,bq,cA,cC⟩:=aH A1 ((ar.drew).trans hx1);have z1:=(A1.ext ((ar.drew).trans hx1)).lt)
  |(go_at_call 143;refine (je _ _ _ _ _ (bA hr1.le)).mono ?_;rintro e w2 ⟨rfl,hx2⟩;obtain ⟨aM,bg,bL,bM⟩:=aH A0 (((ar.drew).trans hx1).trans hx2);have z0:=(A0.ext (((ar.drew).trans hx1).trans hx2)).lt;obtain ⟨aU,bq,cA,cC⟩:=aH A1 (((ar.drew).trans hx1).trans hx2);have z1:=(A1.ext (((ar.drew).trans hx1).trans hx2)).lt))
 have fin:=bB.h_ (s:=s) hr1 jI hx1 ⟨rfl,hx2⟩;go_wp2
 exact bodyPost_ret (by simp [results,results169,go_sem,aU,bq]) rfl (bB.bt fin x0.drew (Touch.two _ ae (by rw [World.drew,Z0.o];omega) _ _))
theorem vN (w:World) (s t:Bool) (a b:Option Addr) (k c k' c' n m:Nat) (h:Raw w a k c n) (h':Raw w b k' c' m) (b1:len n<1000000000) (b2:len m<1000000000):
 Calls prog 90 #[.agg #[.bool s,.slice a k c],.agg #[.bool t,.slice b k' c']] w (bB (bp s n*bp t m) w):=by
 rw [<-GU];go_enter func90,ntmps90
 go_wp2
 obtain ⟨W,hW,x0,Z0,A0,A1,A2⟩:=fC w 90 [.bool s,.slice a k c] 90 [.bool t,.slice b k' c'] 90 [.bool false,.slice none 0 0];rw [<-hW];clear hW;obtain ⟨aM,bg,bL,bM⟩:=aH A0 ar;have z0:=(A0.ext ar).lt;obtain ⟨aU,bq,cA,cC⟩:=aH A1 ar;have z1:=(A1.ext ar).lt;obtain ⟨bK,cD,cT,cU⟩:=aH A2 ar;have z2:=(A2.ext ar).lt
 go_region_held3 (λw'=>w'.cell? ⟨w.heap.size,0,none⟩=some (.bool s)/\w'.cell? ⟨w.heap.size,1,none⟩=some (.slice a k c)/\w'.cell? ⟨w.heap.size+1,0,none⟩=some (.bool t)/\w'.cell? ⟨w.heap.size+1,1,none⟩=some (.slice b k' c')) (first|exact ⟨aM,bg,aU,bq⟩|(simp [go_sem,aM,bg,aU,bq])) (first
  |(go_at_call 149;refine (vL _ _ _ _ _ _ _ _ _ ((h.ext x0).ext (by exact ar.drew)) ((h'.ext x0).ext (by exact ar.drew)) b1 b2).mono ?_;rintro e w1 ⟨a1,c1,rfl,hr1,jI,hx1⟩;obtain ⟨aM,bg,bL,bM⟩:=aH A0 ((ar.drew).trans hx1);have z0:=(A0.ext ((ar.drew).trans hx1)).lt;obtain ⟨aU,bq,cA,cC⟩:=aH A1 ((ar.drew).trans hx1);have z1:=(A1.ext ((ar.drew).trans hx1)).lt;obtain ⟨bK,cD,cT,cU⟩:=aH A2 ((ar.drew).trans hx1);have z2:=(A2.ext ((ar.drew).trans hx1)).lt)
  |(go_at_call 143;refine (je _ _ _ _ _ (bA hr1.le)).mono ?_;rintro e w2 ⟨rfl,hx2⟩;obtain ⟨aM,bg,bL,bM⟩:=aH A0 (((ar.drew).trans hx1).trans hx2);have z0:=(A0.ext (((ar.drew).trans hx1).trans hx2)).lt;obtain ⟨aU,bq,cA,cC⟩:=aH A1 (((ar.drew).trans hx1).trans hx2);have z1:=(A1.ext (((ar.drew).trans hx1).trans hx2)).lt;obtain ⟨bK,cD,cT,cU⟩:=aH A2 (((ar.drew).trans hx1).trans hx2);have z2:=(A2.ext (((ar.drew).trans hx1).trans hx2)).lt))
 have fin:=bB.h_ (s:=s !=t) hr1 jI hx1 ⟨rfl,hx2⟩;go_wp2
 exact bodyPost_ret (by simp [results,results90,go_sem,bK,cD];cases s<;>cases t<;>rfl) rfl (bB.bt fin x0.drew (Touch.two _ ae (by rw [World.drew,Z0.o];omega) _ _))
theorem AP (w:World) (s:Bool) (a b:Option Addr) (k c k' c' n m:Nat) (h:Raw w a k c n) (h':Raw w b k' c' m) (b1:len n<1000000000) (b2:len m<1000000000):
 Calls prog 153 #[.agg #[.bool s,.slice a k c],.agg #[.bool s,.slice b k' c']] w (bB (bp s n+bp s m) w):=by
 rw [<-GV];go_enter func153,ntmps153
 go_wp2
 obtain ⟨W,hW,x0,Z0,A0,A1,A2⟩:=fC w 90 [.bool s,.slice a k c] 90 [.bool s,.slice b k' c'] 90 [.bool false,.slice none 0 0];rw [<-hW];clear hW;obtain ⟨aM,bg,bL,bM⟩:=aH A0 ar;have z0:=(A0.ext ar).lt;obtain ⟨aU,bq,cA,cC⟩:=aH A1 ar;have z1:=(A1.ext ar).lt;obtain ⟨bK,cD,cT,cU⟩:=aH A2 ar;have z2:=(A2.ext ar).lt
 go_region_held3 (λw'=>w'.cell? ⟨w.heap.size,0,none⟩=some (.bool s)/\w'.cell? ⟨w.heap.size,1,none⟩=some (.slice a k c)/\w'.cell? ⟨w.heap.size+1,0,none⟩=some (.bool s)/\w'.cell? ⟨w.heap.size+1,1,none⟩=some (.slice b k' c')) (first|exact ⟨aM,bg,aU,bq⟩|(simp [go_sem,aM,bg,aU,bq])) (first
  |(go_at_call 173;refine (NN _ _ _ _ _ _ _ _ _ ((h.ext x0).ext (by exact ar.drew)) ((h'.ext x0).ext (by exact ar.drew)) b1 b2).mono ?_;rintro e w1 ⟨a1,c1,rfl,hr1,jI,hx1⟩;obtain ⟨aM,bg,bL,bM⟩:=aH A0 ((ar.drew).trans hx1);have z0:=(A0.ext ((ar.drew).trans hx1)).lt;obtain ⟨aU,bq,cA,cC⟩:=aH A1 ((ar.drew).trans hx1);have z1:=(A1.ext ((ar.drew).trans hx1)).lt;obtain ⟨bK,cD,cT,cU⟩:=aH A2 ((ar.drew).trans hx1);have z2:=(A2.ext ((ar.drew).trans hx1)).lt)
  |(go_at_call 143;refine (je _ _ _ _ _ (bA hr1.le)).mono ?_;rintro e w2 ⟨rfl,hx2⟩;obtain ⟨aM,bg,bL,bM⟩:=aH A0 (((ar.drew).trans hx1).trans hx2);have z0:=(A0.ext (((ar.drew).trans hx1).trans hx2)).lt;obtain ⟨aU,bq,cA,cC⟩:=aH A1 (((ar.drew).trans hx1).trans hx2);have z1:=(A1.ext (((ar.drew).trans hx1).trans hx2)).lt;obtain ⟨bK,cD,cT,cU⟩:=aH A2 (((ar.drew).trans hx1).trans hx2);have z2:=(A2.ext (((ar.drew).trans hx1).trans hx2)).lt))
 have fin:=bB.h_ (s:=s) hr1 jI hx1 ⟨rfl,hx2⟩;go_wp2
 exact bodyPost_ret (by simp [results,results153,go_sem,bK,cD]) rfl (bB.bt fin x0.drew (Touch.two _ ae (by rw [World.drew,Z0.o];omega) _ _))
theorem yE (w:World) (s:Bool) (a b:Option Addr) (k c k' c' n m:Nat) (h:Raw w a k c n) (h':Raw w b k' c' m):
 Calls prog 153 #[.agg #[.bool s,.slice a k c],.agg #[.bool (!s),.slice b k' c']] w (bB (bp s n+bp (!s) m) w):=by
 have hne:(s== !s)=false:=by cases s<;>rfl
 by_cases hle:m<=n
 .rw [<-CG s n m hle]
  go_enter func153,ntmps153
  go_wp2_with fail
  obtain ⟨W,hW,x0,Z0,A0,A1,A2⟩:=fC w 90 [.bool s,.slice a k c] 90 [.bool (!s),.slice b k' c'] 90 [.bool false,.slice none 0 0];rw [<-hW];clear hW;have aM:=aH A0 ar;have z0:=(A0.ext ar).lt;have aU:=aH A1 ar;have z1:=(A1.ext ar).lt;obtain ⟨bK,cD,cT,cU⟩:=aH A2 ar;have z2:=(A2.ext ar).lt;refine (Ay _ _ _ _ _ _ _ _ _ (h.ext x0) (h'.ext x0) hle).mono ?_;rintro e w1 ⟨a1,c1,rfl,hr1,jI,hx1⟩;have aM:=aH A0 hx1;have z0:=(A0.ext hx1).lt;have aU:=aH A1 hx1;have z1:=(A1.ext hx1).lt;obtain ⟨bK,cD,cT,cU⟩:=aH A2 hx1;have z2:=(A2.ext hx1).lt;go_wp2_with fail
  refine (je _ _ _ _ _ (bA hr1.le)).mono ?_;rintro e w2 ⟨rfl,hx2⟩;have aM:=aH A0 (hx1.trans hx2);have z0:=(A0.ext (hx1.trans hx2)).lt;have aU:=aH A1 (hx1.trans hx2);have z1:=(A1.ext (hx1.trans hx2)).lt;obtain ⟨bK,cD,cT,cU⟩:=aH A2 (hx1.trans hx2);have z2:=(A2.ext (hx1.trans hx2)).lt;have fin:=bB.h_ (s:=s) hr1 jI hx1 ⟨rfl,hx2⟩;go_wp2
  exact bodyPost_ret (by simp [results,results153,go_sem,bK,cD]) rfl (bB.bt fin x0 (Touch.two _ ae (by rw [Z0.o];omega) _ _))
 .rw [<-CH s n m ae]
  go_enter func153,ntmps153
  go_wp2_with fail
  obtain ⟨W,hW,x0,Z0,A0,A1,A2⟩:=fC w 90 [.bool s,.slice a k c] 90 [.bool (!s),.slice b k' c'] 90 [.bool false,.slice none 0 0];rw [<-hW];clear hW;have aM:=aH A0 ar;have z0:=(A0.ext ar).lt;have aU:=aH A1 ar;have z1:=(A1.ext ar).lt;obtain ⟨bK,cD,cT,cU⟩:=aH A2 ar;have z2:=(A2.ext ar).lt;refine (ER _ _ _ _ _ _ _ _ _ (h.ext x0) (h'.ext x0) ae).mono ?_;rintro e w1 ⟨rfl,js⟩;have aM:=aH A0 js.ext;have z0:=(A0.ext js.ext).lt;have aU:=aH A1 js.ext;have z1:=(A1.ext js.ext).lt;obtain ⟨bK,cD,cT,cU⟩:=aH A2 js.ext;have z2:=(A2.ext js.ext).lt;go_wp2_with fail
  refine (Ay _ _ _ _ _ _ _ _ _ ((h'.ext x0).ext js.ext) ((h.ext x0).ext js.ext) ae).mono ?_;rintro e w2 ⟨a1,c1,rfl,hr1,jI,hx1⟩;have aM:=aH A0 (js.ext.trans hx1);have z0:=(A0.ext (js.ext.trans hx1)).lt;have aU:=aH A1 (js.ext.trans hx1);have z1:=(A1.ext (js.ext.trans hx1)).lt;obtain ⟨bK,cD,cT,cU⟩:=aH A2 (js.ext.trans hx1);have z2:=(A2.ext (js.ext.trans hx1)).lt;go_wp2_with fail
  refine (je _ _ _ _ _ (bA hr1.le)).mono ?_;rintro e w3 ⟨rfl,hx2⟩;have aM:=aH A0 ((js.ext.trans hx1).trans hx2);have z0:=(A0.ext ((js.ext.trans hx1).trans hx2)).lt;have aU:=aH A1 ((js.ext.trans hx1).trans hx2);have z1:=(A1.ext ((js.ext.trans hx1).trans hx2)).lt;obtain ⟨bK,cD,cT,cU⟩:=aH A2 ((js.ext.trans hx1).trans hx2);have z2:=(A2.ext ((js.ext.trans hx1).trans hx2)).lt;have fin:=bB.h_ (s:= !s) hr1 (jI.mono js.ext.size) (js.ext.trans hx1) ⟨rfl,hx2⟩;go_wp2
  exact bodyPost_ret (by simp [results,results153,go_sem,bK,cD]) rfl (bB.bt fin x0 (Touch.two _ ae (by rw [Z0.o];omega) _ _))
theorem GW (w:World) (s t:Bool) (a b:Option Addr) (k c k' c' n m:Nat) (h:Raw w a k c n) (h':Raw w b k' c' m) (b1:len n<1000000000) (b2:len m<1000000000):
 Calls prog 153 #[.agg #[.bool s,.slice a k c],.agg #[.bool t,.slice b k' c']] w (bB (bp s n+bp t m) w):=by
 by_cases e:t=s
 .subst e;exact AP w t a b k c k' c' n m h h' b1 b2
 .obtain rfl:t= !s:=by cases s<;>cases t<;>simp_all
  exact yE w s a b k c k' c' n m h h'
theorem jv (w:World) (s:Bool) (a:Option Addr) (k c n:Nat) (h:Raw w a k c n):
 Calls prog 85 #[.agg #[.bool s,.slice a k c]] w λe w'=>e= .returned (.int .i64 (bp s n).sign)/\Ext w w':=by
 have hb:=aV w 90 [.bool s,.slice a k c];by_cases h0:n=0
 .subst h0
  have hc:fV 0 0=0:=rfl;go_enter func85,ntmps85
  go_wp2_with fail
  refine (eu _ _ _ _ _ _ _ _ _ (h.ext (ar.alloc _)) (Raw.nil _)).mono ?_;rintro e w1 ⟨rfl,hq⟩;rw [hc];go_wp2
  go_ret;exact ⟨by rw [oI];rfl,((ar.alloc _).trans hq.ext)⟩
 .have hc:fV n 0=1:=by unfold fV;rw [if_neg ae,if_neg h0]
  have HC:=ah hc;clear hc
  cases s
  .have e1:(bp false n).sign=1:=by rw [ep,Int.sign_eq_one_of_pos ae]
   have E1:=ah e1;clear e1
   go_enter func85,ntmps85
   go_wp2_with fail
   refine (eu _ _ _ _ _ _ _ _ _ (h.ext (ar.alloc _)) (Raw.nil _)).mono ?_;rintro e w1 ⟨rfl,hq⟩;rw [HC.o];have k0:=aH (aT.alloc w 90 [.bool false,.slice a k c]) hq.ext;go_wp2
   go_ret;exact ⟨cL E1.o.symm,((ar.alloc _).trans hq.ext)⟩
  .have e1:(bp true n).sign= -1:=by rw [gW,Int.sign_eq_neg_one_of_neg ae]
   have E1:=ah e1;clear e1
   go_enter func85,ntmps85
   go_wp2_with fail
   refine (eu _ _ _ _ _ _ _ _ _ (h.ext (ar.alloc _)) (Raw.nil _)).mono ?_;rintro e w1 ⟨rfl,hq⟩;rw [HC.o];have k0:=aH (aT.alloc w 90 [.bool true,.slice a k c]) hq.ext;go_wp2
   go_ret;exact ⟨cL E1.o.symm,((ar.alloc _).trans hq.ext)⟩
