/- Texts of the proof. -/
import Derived.Test.YtfokdakioeoniaaGreatCj6
set_option linter.all false
set_option maxHeartbeats 1000000
set_option maxRecDepth 100000
namespace Go.Proofs.YtfokdakioeoniaaGreat
open Go.Proofs.Tryz
open Go.RowKit
theorem uH (s:Bool) (n:Nat):decide (bf s n<0)=(s&&decide (0<n)):=by
 unfold bf;cases s
 .simp
 .simp
theorem dy (n:Nat):bf false n=n:=rfl
theorem gD (n:Nat):bf true n= -(n:Int):=rfl
theorem qO (s:Bool):bf s 0=0:=by cases s<;>rfl
theorem uI (s:Bool) (n:Nat):bf (!s) n= -bf s n:=by cases s<;>simp [bf]
theorem eR (w:World) (s:Bool) (a:Option Addr) (k c:Nat) (_hk:k<=1099511627776):
 Calls prog 197 #[.bool s,.slice a k c] w λe w'=>e= .returned (.agg #[.bool (s&&decide (0<k)),.slice a k c])/\Ext w w':=by
 cases s
 .go_enter func197,ntmps197
  go_wp2
  exact bodyPost_ret (v:= .agg #[.bool false,.slice a k c]) (by simp [results,results197,go_sem]) rfl ⟨rfl,ah.alloc _⟩
 .by_cases h0:0<k
  .have d0:decide (0<k)=true:=by simp [h0]
   go_enter func197,ntmps197
   go_wp2
   exact bodyPost_ret (v:= .agg #[.bool true,.slice a k c]) (by simp [results,results197,go_sem]) rfl ⟨by simp [h0],ah.alloc _⟩
  .have d0:decide (0<k)=false:=by simp [h0]
   go_enter func197,ntmps197
   go_wp2
   exact bodyPost_ret (v:= .agg #[.bool false,.slice a k c]) (by simp [results,results197,go_sem]) rfl ⟨by simp [h0],ah.alloc _⟩
theorem bP.iD {w w1 w2:World} {s:Bool} {a:Option Addr} {c n:Nat} {e:Ending} (h:Raw w1 a (len n) c n) (hf:Fr w.heap.size a) (hx:Ext w w1)
 (he:e= .returned (.agg #[.bool (s&&decide (0<len n)),.slice a (len n) c])/\Ext w1 w2):bP (bf s n) w e w2:=by
 obtain ⟨rfl,hx2⟩:=he;refine ⟨a,c,?_,?_,hf,hx.trans hx2⟩
 .rw [bL,uH];simp only [iy]
 .rw [bL];exact h.ext hx2
theorem Db (s t:Bool) (n m:Nat):bf (s !=t) (n*m)=bf s n*bf t m:=by
 cases s<;>cases t<;>simp [bf,Int.neg_mul,Int.mul_neg]
theorem J2 (s:Bool) (n m:Nat):bf s (n+m)=bf s n+bf s m:=by
 cases s<;>simp [bf];omega
theorem Ff (s:Bool) (n m:Nat) (h:m<=n):bf s (n-m)=bf s n+bf (!s) m:=by
 cases s<;>simp [bf]<;>omega
theorem Fg (s:Bool) (n m:Nat) (h:n<=m):bf (!s) (m-n)=bf s n+bf (!s) m:=by
 cases s<;>simp [bf]<;>omega
theorem NY (n:Nat) (h0:0<n) (h:n<=9223372036854775808):IntKind.u64.wrap (-IntKind.u64.wrap (-(n:Int)))=(n:Int):=by
 rw [IntKind.wrap_u64,IntKind.wrap_u64];omega
theorem Fh (w:World) (v:Int) (h1: -9223372036854775808<=v) (h2:v<=9223372036854775807):
 Calls prog 112 #[.int .i64 v] w (bP v w):=by
 by_cases h0:v<0
 .obtain ⟨n,rfl⟩: ∃n:Nat,v= -(n:Int):=⟨v.natAbs,ae⟩
  have e1:=NY n ae ae;go_enter func112,ntmps112
  go_wp2_with fail
  obtain ⟨W,hW,x0,Z0,A0⟩:=bS w 61 [.bool false,.slice none 0 0];rw [<-hW];clear hW;obtain ⟨z0,aD,aF,aM,aN⟩:=bb1 aC A0 ah;refine (dD _ _ ae).mono ?_;rintro e w1 ⟨a1,c1,rfl,hr1,jw,hx1⟩;obtain ⟨z0,aD,aF,aM,aN⟩:=bb1 aC A0 hx1;go_wp2_with fail
  refine (eR _ _ _ _ _ (dB hr1.le)).mono ?_;rintro e w2 ⟨rfl,hx2⟩;obtain ⟨z0,aD,aF,aM,aN⟩:=bb1 aC A0 (hx1.trans hx2);have fin:=bP.iD (s:=true) hr1 jw hx1 ⟨rfl,hx2⟩;go_wp2
  exact bodyPost_ret (by simp [results,results112,go_sem,aD,aF]) rfl (bP.bH fin x0 (Touch.two _ cG (by rw [Z0.o];omega) _ _))
 .obtain ⟨n,rfl⟩: ∃n:Nat,v=(n:Int):=⟨v.natAbs,ae⟩
  have e1:IntKind.u64.wrap (n:Int)=(n:Int):=by rw [IntKind.wrap_u64];omega
  go_enter func112,ntmps112
  go_wp2_with fail
  obtain ⟨W,hW,x0,Z0,A0⟩:=bS w 61 [.bool false,.slice none 0 0];rw [<-hW];clear hW;obtain ⟨z0,aD,aF,aM,aN⟩:=bb1 aC A0 ah;refine (dD _ _ ae).mono ?_;rintro e w1 ⟨a1,c1,rfl,hr1,jw,hx1⟩;obtain ⟨z0,aD,aF,aM,aN⟩:=bb1 aC A0 hx1;go_wp2_with fail
  refine (eR _ _ _ _ _ (dB hr1.le)).mono ?_;rintro e w2 ⟨rfl,hx2⟩;obtain ⟨z0,aD,aF,aM,aN⟩:=bb1 aC A0 (hx1.trans hx2);have fin:=bP.iD (s:=false) hr1 jw hx1 ⟨rfl,hx2⟩;go_wp2
  exact bodyPost_ret (by simp [results,results112,go_sem,aD,aF]) rfl (bP.bH fin x0 (Touch.two _ cG (by rw [Z0.o];omega) _ _))
theorem NZ (w:World) (s:Bool) (a:Option Addr) (k c n:Nat) (h:Raw w a k c n):
 Calls prog 193 #[.agg #[.bool s,.slice a k c]] w (bP (bf s n) w):=by
 go_enter func193,ntmps193
 go_wp2
 obtain ⟨W,hW,x0,Z0,A0,A1⟩:=dV w 61 [.bool s,.slice a k c] 61 [.bool false,.slice none 0 0];rw [<-hW];clear hW;obtain ⟨z0,z1,⟨aD,aF,aM,aN⟩,aJ,aK,aR,aS⟩:=bb2 aC aC A0 A1 ah
 go_region_held3 (λw'=>w'.cell? ⟨w.heap.size,0,none⟩=some (.bool s)/\w'.cell? ⟨w.heap.size,1,none⟩=some (.slice a k c)) (first|exact ⟨aD,aF⟩|(simp [go_sem,aD,aF])) (first
  |(go_at_call 194;refine (qL _ _ _ _ _ ((h.ext x0).ext (by exact ah.drew))).mono ?_;rintro e w1 ⟨a1,c1,rfl,hr1,jw,hx1⟩;obtain ⟨z0,z1,⟨aD,aF,aM,aN⟩,aJ,aK,aR,aS⟩:=bb2 aC aC A0 A1 ((ah.drew).trans hx1))
  |(go_at_call 197;refine (eR _ _ _ _ _ (dB hr1.le)).mono ?_;rintro e w2 ⟨rfl,hx2⟩;obtain ⟨z0,z1,⟨aD,aF,aM,aN⟩,aJ,aK,aR,aS⟩:=bb2 aC aC A0 A1 (((ah.drew).trans hx1).trans hx2)))
 have fin:=bP.iD (s:=s) hr1 jw hx1 ⟨rfl,hx2⟩;go_wp2
 exact bodyPost_ret (by simp [results,results193,go_sem,aJ,aK]) rfl (bP.bH fin x0.drew (Touch.two _ ae (by rw [World.drew,Z0.o];omega) _ _))
theorem QO (w:World) (s:Bool) (a:Option Addr) (k c n:Nat) (h:Raw w a k c n):
 Calls prog 141 #[.agg #[.bool s,.slice a k c]] w (bP (-bf s n) w):=by
 rw [<-uI];go_enter func141,ntmps141
 go_wp2
 obtain ⟨W,hW,x0,Z0,A0,A1⟩:=dV w 61 [.bool s,.slice a k c] 61 [.bool false,.slice none 0 0];rw [<-hW];clear hW;obtain ⟨z0,z1,⟨aD,aF,aM,aN⟩,aJ,aK,aR,aS⟩:=bb2 aC aC A0 A1 ah
 go_region_held3 (λw'=>w'.cell? ⟨w.heap.size,0,none⟩=some (.bool s)/\w'.cell? ⟨w.heap.size,1,none⟩=some (.slice a k c)) (first|exact ⟨aD,aF⟩|(simp [go_sem,aD,aF])) (first
  |(go_at_call 194;refine (qL _ _ _ _ _ ((h.ext x0).ext (by exact ah.drew))).mono ?_;rintro e w1 ⟨a1,c1,rfl,hr1,jw,hx1⟩;obtain ⟨z0,z1,⟨aD,aF,aM,aN⟩,aJ,aK,aR,aS⟩:=bb2 aC aC A0 A1 ((ah.drew).trans hx1))
  |(go_at_call 197;refine (eR _ _ _ _ _ (dB hr1.le)).mono ?_;rintro e w2 ⟨rfl,hx2⟩;obtain ⟨z0,z1,⟨aD,aF,aM,aN⟩,aJ,aK,aR,aS⟩:=bb2 aC aC A0 A1 (((ah.drew).trans hx1).trans hx2)))
 have fin:=bP.iD (s:= !s) hr1 jw hx1 ⟨rfl,hx2⟩;go_wp2
 exact bodyPost_ret (by simp [results,results141,go_sem,aJ,aK]) rfl (bP.bH fin x0.drew (Touch.two _ ae (by rw [World.drew,Z0.o];omega) _ _))
theorem pG (w:World) (s t:Bool) (a b:Option Addr) (k c k' c' n m:Nat) (h:Raw w a k c n) (h':Raw w b k' c' m) (b1:len n<1000000000) (b2:len m<1000000000):
 Calls prog 108 #[.agg #[.bool s,.slice a k c],.agg #[.bool t,.slice b k' c']] w (bP (bf s n*bf t m) w):=by
 rw [<-Db];go_enter func108,ntmps108
 go_wp2
 obtain ⟨W,hW,x0,Z0,A0,A1,A2⟩:=et w 61 [.bool s,.slice a k c] 61 [.bool t,.slice b k' c'] 61 [.bool false,.slice none 0 0];rw [<-hW];clear hW;obtain ⟨z0,z1,z2,⟨aD,aF,aM,aN⟩,⟨aJ,aK,aR,aS⟩,aZ,a_,bA,bB⟩:=bb3 aC aC aC A0 A1 A2 ah
 go_region_held3 (λw'=>w'.cell? ⟨w.heap.size,0,none⟩=some (.bool s)/\w'.cell? ⟨w.heap.size,1,none⟩=some (.slice a k c)/\w'.cell? ⟨w.heap.size+1,0,none⟩=some (.bool t)/\w'.cell? ⟨w.heap.size+1,1,none⟩=some (.slice b k' c')) (first|exact ⟨aD,aF,aJ,aK⟩|(simp [go_sem,aD,aF,aJ,aK])) (first
  |(go_at_call 109;refine (pD _ _ _ _ _ _ _ _ _ ((h.ext x0).ext (by exact ah.drew)) ((h'.ext x0).ext (by exact ah.drew)) b1 b2).mono ?_;rintro e w1 ⟨a1,c1,rfl,hr1,jw,hx1⟩;obtain ⟨z0,z1,z2,⟨aD,aF,aM,aN⟩,⟨aJ,aK,aR,aS⟩,aZ,a_,bA,bB⟩:=bb3 aC aC aC A0 A1 A2 ((ah.drew).trans hx1))
  |(go_at_call 197;refine (eR _ _ _ _ _ (dB hr1.le)).mono ?_;rintro e w2 ⟨rfl,hx2⟩;obtain ⟨z0,z1,z2,⟨aD,aF,aM,aN⟩,⟨aJ,aK,aR,aS⟩,aZ,a_,bA,bB⟩:=bb3 aC aC aC A0 A1 A2 (((ah.drew).trans hx1).trans hx2)))
 have fin:=bP.iD (s:=s !=t) hr1 jw hx1 ⟨rfl,hx2⟩;go_wp2
 exact bodyPost_ret (by simp [results,results108,go_sem,aZ,a_];cases s<;>cases t<;>rfl) rfl (bP.bH fin x0.drew (Touch.two _ ae (by rw [World.drew,Z0.o];omega) _ _))
theorem Dc (w:World) (s:Bool) (a b:Option Addr) (k c k' c' n m:Nat) (h:Raw w a k c n) (h':Raw w b k' c' m) (b1:len n<1000000000) (b2:len m<1000000000):
 Calls prog 107 #[.agg #[.bool s,.slice a k c],.agg #[.bool s,.slice b k' c']] w (bP (bf s n+bf s m) w):=by
 rw [<-J2];go_enter func107,ntmps107
 go_wp2
 obtain ⟨W,hW,x0,Z0,A0,A1,A2⟩:=et w 61 [.bool s,.slice a k c] 61 [.bool s,.slice b k' c'] 61 [.bool false,.slice none 0 0];rw [<-hW];clear hW;obtain ⟨z0,z1,z2,⟨aD,aF,aM,aN⟩,⟨aJ,aK,aR,aS⟩,aZ,a_,bA,bB⟩:=bb3 aC aC aC A0 A1 A2 ah
 go_region_held3 (λw'=>w'.cell? ⟨w.heap.size,0,none⟩=some (.bool s)/\w'.cell? ⟨w.heap.size,1,none⟩=some (.slice a k c)/\w'.cell? ⟨w.heap.size+1,0,none⟩=some (.bool s)/\w'.cell? ⟨w.heap.size+1,1,none⟩=some (.slice b k' c')) (first|exact ⟨aD,aF,aJ,aK⟩|(simp [go_sem,aD,aF,aJ,aK])) (first
  |(go_at_call 198;refine (JX _ _ _ _ _ _ _ _ _ ((h.ext x0).ext (by exact ah.drew)) ((h'.ext x0).ext (by exact ah.drew)) b1 b2).mono ?_;rintro e w1 ⟨a1,c1,rfl,hr1,jw,hx1⟩;obtain ⟨z0,z1,z2,⟨aD,aF,aM,aN⟩,⟨aJ,aK,aR,aS⟩,aZ,a_,bA,bB⟩:=bb3 aC aC aC A0 A1 A2 ((ah.drew).trans hx1))
  |(go_at_call 197;refine (eR _ _ _ _ _ (dB hr1.le)).mono ?_;rintro e w2 ⟨rfl,hx2⟩;obtain ⟨z0,z1,z2,⟨aD,aF,aM,aN⟩,⟨aJ,aK,aR,aS⟩,aZ,a_,bA,bB⟩:=bb3 aC aC aC A0 A1 A2 (((ah.drew).trans hx1).trans hx2)))
 have fin:=bP.iD (s:=s) hr1 jw hx1 ⟨rfl,hx2⟩;go_wp2
 exact bodyPost_ret (by simp [results,results107,go_sem,aZ,a_]) rfl (bP.bH fin x0.drew (Touch.two _ ae (by rw [World.drew,Z0.o];omega) _ _))
theorem Bg (w:World) (s:Bool) (a b:Option Addr) (k c k' c' n m:Nat) (h:Raw w a k c n) (h':Raw w b k' c' m):
 Calls prog 107 #[.agg #[.bool s,.slice a k c],.agg #[.bool (!s),.slice b k' c']] w (bP (bf s n+bf (!s) m) w):=by
 have hne:(s== !s)=false:=by cases s<;>rfl
 by_cases hle:m<=n
 .rw [<-Ff s n m hle]
  go_enter func107,ntmps107
  go_wp2_with fail
  obtain ⟨W,hW,x0,Z0,A0,A1,A2⟩:=et w 61 [.bool s,.slice a k c] 61 [.bool (!s),.slice b k' c'] 61 [.bool false,.slice none 0 0];rw [<-hW];clear hW;obtain ⟨z0,z1,z2,⟨aD,aF,aM,aN⟩,⟨aJ,aK,aR,aS⟩,aZ,a_,bA,bB⟩:=bb3 aC aC aC A0 A1 A2 ah;refine (yG _ _ _ _ _ _ _ _ _ (h.ext x0) (h'.ext x0) hle).mono ?_;rintro e w1 ⟨a1,c1,rfl,hr1,jw,hx1⟩;obtain ⟨z0,z1,z2,⟨aD,aF,aM,aN⟩,⟨aJ,aK,aR,aS⟩,aZ,a_,bA,bB⟩:=bb3 aC aC aC A0 A1 A2 hx1;go_wp2_with fail
  refine (eR _ _ _ _ _ (dB hr1.le)).mono ?_;rintro e w2 ⟨rfl,hx2⟩;obtain ⟨z0,z1,z2,⟨aD,aF,aM,aN⟩,⟨aJ,aK,aR,aS⟩,aZ,a_,bA,bB⟩:=bb3 aC aC aC A0 A1 A2 (hx1.trans hx2);have fin:=bP.iD (s:=s) hr1 jw hx1 ⟨rfl,hx2⟩;go_wp2
  exact bodyPost_ret (by simp [results,results107,go_sem,aZ,a_]) rfl (bP.bH fin x0 (Touch.two _ ae (by rw [Z0.o];omega) _ _))
 .rw [<-Fg s n m ae]
  go_enter func107,ntmps107
  go_wp2_with fail
  obtain ⟨W,hW,x0,Z0,A0,A1,A2⟩:=et w 61 [.bool s,.slice a k c] 61 [.bool (!s),.slice b k' c'] 61 [.bool false,.slice none 0 0];rw [<-hW];clear hW;obtain ⟨z0,z1,z2,⟨aD,aF,aM,aN⟩,⟨aJ,aK,aR,aS⟩,aZ,a_,bA,bB⟩:=bb3 aC aC aC A0 A1 A2 ah;refine (Ii _ _ _ _ _ _ _ _ _ (h.ext x0) (h'.ext x0) ae).mono ?_;rintro e w1 ⟨rfl,pE⟩;obtain ⟨z0,z1,z2,⟨aD,aF,aM,aN⟩,⟨aJ,aK,aR,aS⟩,aZ,a_,bA,bB⟩:=bb3 aC aC aC A0 A1 A2 pE.ext;go_wp2_with fail
  refine (yG _ _ _ _ _ _ _ _ _ ((h'.ext x0).ext pE.ext) ((h.ext x0).ext pE.ext) ae).mono ?_;rintro e w2 ⟨a1,c1,rfl,hr1,jw,hx1⟩;obtain ⟨z0,z1,z2,⟨aD,aF,aM,aN⟩,⟨aJ,aK,aR,aS⟩,aZ,a_,bA,bB⟩:=bb3 aC aC aC A0 A1 A2 (pE.ext.trans hx1);go_wp2_with fail
  refine (eR _ _ _ _ _ (dB hr1.le)).mono ?_;rintro e w3 ⟨rfl,hx2⟩;obtain ⟨z0,z1,z2,⟨aD,aF,aM,aN⟩,⟨aJ,aK,aR,aS⟩,aZ,a_,bA,bB⟩:=bb3 aC aC aC A0 A1 A2 ((pE.ext.trans hx1).trans hx2);have fin:=bP.iD (s:= !s) hr1 (jw.mono pE.ext.size) (pE.ext.trans hx1) ⟨rfl,hx2⟩;go_wp2
  exact bodyPost_ret (by simp [results,results107,go_sem,aZ,a_]) rfl (bP.bH fin x0 (Touch.two _ ae (by rw [Z0.o];omega) _ _))
theorem J3 (w:World) (s t:Bool) (a b:Option Addr) (k c k' c' n m:Nat) (h:Raw w a k c n) (h':Raw w b k' c' m) (b1:len n<1000000000) (b2:len m<1000000000):
 Calls prog 107 #[.agg #[.bool s,.slice a k c],.agg #[.bool t,.slice b k' c']] w (bP (bf s n+bf t m) w):=by
 by_cases e:t=s
 .subst e;exact Dc w t a b k c k' c' n m h h' b1 b2
 .obtain rfl:t= !s:=by cases s<;>cases t<;>simp_all
  exact Bg w s a b k c k' c' n m h h'
theorem kF (w:World) (s:Bool) (a:Option Addr) (k c n:Nat) (h:Raw w a k c n):
 Calls prog 190 #[.agg #[.bool s,.slice a k c]] w λe w'=>e= .returned (.int .i64 (bf s n).sign)/\Ext w w':=by
 have hb:=bS w 61 [.bool s,.slice a k c];by_cases h0:n=0
 .subst h0
  have hc:gp 0 0=0:=rfl;go_enter func190,ntmps190
  go_wp2_with fail
  refine (ep _ _ _ _ _ _ _ _ _ (h.ext (ah.alloc _)) (Raw.nil _)).mono ?_;rintro e w1 ⟨rfl,hq⟩;rw [hc];go_wp2
  go_ret;exact ⟨by rw [qO];rfl,((ah.alloc _).trans hq.ext)⟩
 .have hc:gp n 0=1:=by unfold gp;rw [if_neg ae,if_neg h0]
  have HC:=af hc;clear hc
  cases s
  .have e1:(bf false n).sign=1:=by rw [dy,Int.sign_eq_one_of_pos ae]
   have E1:=af e1;clear e1
   go_enter func190,ntmps190
   go_wp2_with fail
   refine (ep _ _ _ _ _ _ _ _ _ (h.ext (ah.alloc _)) (Raw.nil _)).mono ?_;rintro e w1 ⟨rfl,hq⟩;rw [HC.o];have k0:=aC (aY.alloc w 61 [.bool false,.slice a k c]) hq.ext;go_wp2
   go_ret;exact ⟨cL E1.o.symm,((ah.alloc _).trans hq.ext)⟩
  .have e1:(bf true n).sign= -1:=by rw [gD,Int.sign_eq_neg_one_of_neg ae]
   have E1:=af e1;clear e1
   go_enter func190,ntmps190
   go_wp2_with fail
   refine (ep _ _ _ _ _ _ _ _ _ (h.ext (ah.alloc _)) (Raw.nil _)).mono ?_;rintro e w1 ⟨rfl,hq⟩;rw [HC.o];have k0:=aC (aY.alloc w 61 [.bool true,.slice a k c]) hq.ext;go_wp2
   go_ret;exact ⟨cL E1.o.symm,((ah.alloc _).trans hq.ext)⟩
def eK (x y:Int):Int:=if x<y then-1 else if x=y then 0 else 1
theorem uJ {x y:Int} (h:x<y):eK x y= -1:=by unfold eK;rw [if_pos h]
theorem uK {x y:Int} (h:y<x):eK x y=1:=by unfold eK;rw [if_neg ae,if_neg ae]
theorem Fi (n m:Nat):eK (n:Int) (m:Int)=gp n m:=by
 unfold eK gp;simp only [Int.ofNat_lt]
 by_cases h:n<m
 .simp [h]
 .by_cases h':n=m
  .simp [h']
  .have: ¬(n:Int)=m:=ae
   simp [h,h',this]
theorem N0 (x y:Int):eK (-x) (-y)=eK y x:=by
 unfold eK;by_cases h:y<x
 .rw [if_pos ae,if_pos h]
 .rw [if_neg ae,if_neg h]
  by_cases h':x=y
  .rw [if_pos ae,if_pos ae]
  .rw [if_neg ae,if_neg ae]
theorem yI {x y:Int} (h:x.sign<y.sign):x<y:=by
 rcases Int.lt_trichotomy x 0 with h1|h1|h1
 .rcases Int.lt_trichotomy y 0 with h2|h2|h2
  .rw [Int.sign_eq_neg_one_of_neg h1,Int.sign_eq_neg_one_of_neg h2]at h;omega
  .omega
  .omega
 .subst h1
  rcases Int.lt_trichotomy y 0 with h2|h2|h2
  .rw [Int.sign_eq_neg_one_of_neg h2]at h;simp at h
  .subst h2;simp at h
  .exact h2
 .rcases Int.lt_trichotomy y 0 with h2|h2|h2
  .rw [Int.sign_eq_one_of_pos h1,Int.sign_eq_neg_one_of_neg h2]at h;omega
  .subst h2;rw [Int.sign_eq_one_of_pos h1]at h;simp at h
  .rw [Int.sign_eq_one_of_pos h1,Int.sign_eq_one_of_pos h2]at h;omega
theorem Fj (w:World) (s t:Bool) (a b:Option Addr) (k c k' c' n m:Nat) (h:Raw w a k c n) (h':Raw w b k' c' m):
 Calls prog 140 #[.agg #[.bool s,.slice a k c],.agg #[.bool t,.slice b k' c']] w λe w'=>e= .returned (.int .i64 (eK (bf s n) (bf t m)))/\Ext w w':=by
 by_cases c1:(bf s n).sign<(bf t m).sign
 .have e1:=uJ (yI c1)
  have E1:=af e1;clear e1
  go_enter func140,ntmps140
  go_wp2
  obtain ⟨W,hW,x0,Z0,A0,A1⟩:=dV w 61 [.bool s,.slice a k c] 61 [.bool t,.slice b k' c'];rw [<-hW];clear hW;obtain ⟨z0,z1,⟨aD,aF,aM,aN⟩,aJ,aK,aR,aS⟩:=bb2 aC aC A0 A1 ah;have gC:True:=trivial
  go_region_held3 (λw'=>w'.cell? ⟨w.heap.size,0,none⟩=some (.bool s)/\w'.cell? ⟨w.heap.size,1,none⟩=some (.slice a k c)/\w'.cell? ⟨w.heap.size+1,0,none⟩=some (.bool t)/\w'.cell? ⟨w.heap.size+1,1,none⟩=some (.slice b k' c')) (first|exact ⟨aD,aF,aJ,aK⟩|(simp [go_sem,aD,aF,aJ,aK])) (first
   |(go_at_call 190;have _t:=gC;refine (kF _ _ _ _ _ _ ((h.ext x0).ext (by exact ah.drew))).mono ?_;rintro e w1 ⟨rfl,hx1⟩;clear gC _t;obtain ⟨z0,z1,⟨aD,aF,aM,aN⟩,aJ,aK,aR,aS⟩:=bb2 aC aC A0 A1 ((ah.drew).trans hx1))
   |(go_at_call 190;refine (kF _ _ _ _ _ _ (((h'.ext x0).ext (by exact ah.drew)).ext hx1)).mono ?_;rintro e w2 ⟨rfl,hx2⟩;obtain ⟨z0,z1,⟨aD,aF,aM,aN⟩,aJ,aK,aR,aS⟩:=bb2 aC aC A0 A1 (((ah.drew).trans hx1).trans hx2)))
  generalize (bf s n).sign=p at*;generalize (bf t m).sign=q at*;go_wp2
  go_ret;exact ⟨cL E1.o.symm,(x0.drew.trans hx1).trans hx2⟩
 by_cases c2:(bf t m).sign<(bf s n).sign
 .have e1:=uK (yI c2)
  have E1:=af e1;clear e1
  go_enter func140,ntmps140
  go_wp2
  obtain ⟨W,hW,x0,Z0,A0,A1⟩:=dV w 61 [.bool s,.slice a k c] 61 [.bool t,.slice b k' c'];rw [<-hW];clear hW;obtain ⟨z0,z1,⟨aD,aF,aM,aN⟩,aJ,aK,aR,aS⟩:=bb2 aC aC A0 A1 ah;have gC:True:=trivial
  go_region_held3 (λw'=>w'.cell? ⟨w.heap.size,0,none⟩=some (.bool s)/\w'.cell? ⟨w.heap.size,1,none⟩=some (.slice a k c)/\w'.cell? ⟨w.heap.size+1,0,none⟩=some (.bool t)/\w'.cell? ⟨w.heap.size+1,1,none⟩=some (.slice b k' c')) (first|exact ⟨aD,aF,aJ,aK⟩|(simp [go_sem,aD,aF,aJ,aK])) (first
   |(go_at_call 190;have _t:=gC;refine (kF _ _ _ _ _ _ ((h.ext x0).ext (by exact ah.drew))).mono ?_;rintro e w1 ⟨rfl,hx1⟩;clear gC _t;obtain ⟨z0,z1,⟨aD,aF,aM,aN⟩,aJ,aK,aR,aS⟩:=bb2 aC aC A0 A1 ((ah.drew).trans hx1))
   |(go_at_call 190;refine (kF _ _ _ _ _ _ (((h'.ext x0).ext (by exact ah.drew)).ext hx1)).mono ?_;rintro e w2 ⟨rfl,hx2⟩;obtain ⟨z0,z1,⟨aD,aF,aM,aN⟩,aJ,aK,aR,aS⟩:=bb2 aC aC A0 A1 (((ah.drew).trans hx1).trans hx2)))
  generalize (bf s n).sign=p at*;generalize (bf t m).sign=q at*;go_wp2
  go_ret;exact ⟨cL E1.o.symm,(x0.drew.trans hx1).trans hx2⟩
 have c3:(bf s n).sign=(bf t m).sign:=ae;by_cases c4:(bf s n).sign<0
 .have e1:eK (bf s n) (bf t m)=gp m n:=by
   have n1:bf s n<0:=by apply Int.not_le.1;intro h;have:=Int.sign_nonneg_iff.2 h;omega
   have n2:bf t m<0:=by apply Int.not_le.1;intro h;have:=Int.sign_nonneg_iff.2 h;omega
   cases s
   .rw [dy]at n1;omega
   .cases t
    .rw [dy]at n2;omega
    .rw [gD,gD,N0,Fi]
  have E1:=af e1;clear e1 c3
  go_enter func140,ntmps140
  go_wp2
  obtain ⟨W,hW,x0,Z0,A0,A1⟩:=dV w 61 [.bool s,.slice a k c] 61 [.bool t,.slice b k' c'];rw [<-hW];clear hW;obtain ⟨z0,z1,⟨aD,aF,aM,aN⟩,aJ,aK,aR,aS⟩:=bb2 aC aC A0 A1 ah;have gC:True:=trivial
  go_region_held3 (λw'=>w'.cell? ⟨w.heap.size,0,none⟩=some (.bool s)/\w'.cell? ⟨w.heap.size,1,none⟩=some (.slice a k c)/\w'.cell? ⟨w.heap.size+1,0,none⟩=some (.bool t)/\w'.cell? ⟨w.heap.size+1,1,none⟩=some (.slice b k' c')) (first|exact ⟨aD,aF,aJ,aK⟩|(simp [go_sem,aD,aF,aJ,aK])) (first
   |(go_at_call 190;have _t:=gC;refine (kF _ _ _ _ _ _ ((h.ext x0).ext (by exact ah.drew))).mono ?_;rintro e w1 ⟨rfl,hx1⟩;clear gC _t;obtain ⟨z0,z1,⟨aD,aF,aM,aN⟩,aJ,aK,aR,aS⟩:=bb2 aC aC A0 A1 ((ah.drew).trans hx1))
   |(go_at_call 190;refine (kF _ _ _ _ _ _ (((h'.ext x0).ext (by exact ah.drew)).ext hx1)).mono ?_;rintro e w2 ⟨rfl,hx2⟩;obtain ⟨z0,z1,⟨aD,aF,aM,aN⟩,aJ,aK,aR,aS⟩:=bb2 aC aC A0 A1 (((ah.drew).trans hx1).trans hx2)))
  generalize (bf s n).sign=p at*;generalize (bf t m).sign=q at*;go_wp2_with fail
  refine (ep _ _ _ _ _ _ _ _ _ ((((h'.ext x0).ext (by exact ah.drew)).ext hx1).ext hx2) ((((h.ext x0).ext (by exact ah.drew)).ext hx1).ext hx2)).mono ?_;rintro e w3 ⟨rfl,hq⟩;go_wp2
  go_ret;exact ⟨cL E1.o.symm,((x0.drew.trans hx1).trans hx2).trans hq.ext⟩
 .have e1:eK (bf s n) (bf t m)=gp n m:=by
   have n1:0<=bf s n:=by apply Int.not_lt.1;intro h;have:=Int.sign_eq_neg_one_of_neg h;omega
   have n2:0<=bf t m:=by apply Int.not_lt.1;intro h;have:=Int.sign_eq_neg_one_of_neg h;omega
   have m1:bf s n=n:=by cases s
                        .rfl
                        .rw [gD]at*;omega
   have m2:bf t m=m:=by cases t
                        .rfl
                        .rw [gD]at*;omega
   rw [m1,m2,Fi]
  have E1:=af e1;clear e1 c3
  go_enter func140,ntmps140
  go_wp2
  obtain ⟨W,hW,x0,Z0,A0,A1⟩:=dV w 61 [.bool s,.slice a k c] 61 [.bool t,.slice b k' c'];rw [<-hW];clear hW;obtain ⟨z0,z1,⟨aD,aF,aM,aN⟩,aJ,aK,aR,aS⟩:=bb2 aC aC A0 A1 ah;have gC:True:=trivial
  go_region_held3 (λw'=>w'.cell? ⟨w.heap.size,0,none⟩=some (.bool s)/\w'.cell? ⟨w.heap.size,1,none⟩=some (.slice a k c)/\w'.cell? ⟨w.heap.size+1,0,none⟩=some (.bool t)/\w'.cell? ⟨w.heap.size+1,1,none⟩=some (.slice b k' c')) (first|exact ⟨aD,aF,aJ,aK⟩|(simp [go_sem,aD,aF,aJ,aK])) (first
   |(go_at_call 190;have _t:=gC;refine (kF _ _ _ _ _ _ ((h.ext x0).ext (by exact ah.drew))).mono ?_;rintro e w1 ⟨rfl,hx1⟩;clear gC _t;obtain ⟨z0,z1,⟨aD,aF,aM,aN⟩,aJ,aK,aR,aS⟩:=bb2 aC aC A0 A1 ((ah.drew).trans hx1))
   |(go_at_call 190;refine (kF _ _ _ _ _ _ (((h'.ext x0).ext (by exact ah.drew)).ext hx1)).mono ?_;rintro e w2 ⟨rfl,hx2⟩;obtain ⟨z0,z1,⟨aD,aF,aM,aN⟩,aJ,aK,aR,aS⟩:=bb2 aC aC A0 A1 (((ah.drew).trans hx1).trans hx2)))
  generalize (bf s n).sign=p at*;generalize (bf t m).sign=q at*;go_wp2_with fail
  refine (ep _ _ _ _ _ _ _ _ _ ((((h.ext x0).ext (by exact ah.drew)).ext hx1).ext hx2) ((((h'.ext x0).ext (by exact ah.drew)).ext hx1).ext hx2)).mono ?_;rintro e w3 ⟨rfl,hq⟩;go_wp2
  go_ret;exact ⟨cL E1.o.symm,((x0.drew.trans hx1).trans hx2).trans hq.ext⟩
theorem BX (w:World) (s:Bool) (a:Option Addr) (k c n:Nat) (h:Raw w a k c n) (h1: -9223372036854775808<=bf s n) (h2:bf s n<=9223372036854775807):
 Calls prog 65 #[.agg #[.bool s,.slice a k c]] w λe w'=>e= .returned (.tuple #[.int .i64 (bf s n),.bool true])/\Ext w w':=by
 cases s
 .rw [dy]at*
  have d1: ¬(9223372036854775808:Int)<=(n:Int):=ae;go_enter func65,ntmps65
  go_wp2_with fail
  refine (cS _ _ _ _ _ (h.ext (ah.alloc _)) ae).mono ?_;rintro e w1 ⟨rfl,rfl⟩;go_wp2
  go_ret2
  exact ⟨rfl,ah.alloc _⟩
 .rw [gD]at*
  have e1:wrap64 (IntKind.u64.wrap (-(n:Int)))= -(n:Int):=by
   rw [IntKind.wrap_u64];unfold wrap64;omega
  have E1:=af e1;clear e1
  have d1:(n:Int)<=9223372036854775808:=ae;go_enter func65,ntmps65
  go_wp2_with fail
  refine (cS _ _ _ _ _ (h.ext (ah.alloc _)) ae).mono ?_;rintro e w1 ⟨rfl,rfl⟩;go_wp2
  go_ret2
  refine ⟨?_,ah.alloc _⟩;simp [go_sem,E1.o]
def jl (x y:Int) (w:World) (e:Ending) (w':World):Prop:= ∃a c a' c',e= .returned (.tuple #[.agg #[.bool (decide (x<0)),.slice a (len x.natAbs) c],.agg #[.bool (decide (y<0)),.slice a' (len y.natAbs) c'],.bool true])/\
 Raw w' a (len x.natAbs) c x.natAbs/\Fr w.heap.size a/\Raw w' a' (len y.natAbs) c' y.natAbs/\Fr w.heap.size a'/\Ext w w'
theorem jl.of {w W w2 w3:World} {s:Bool} {a a':Option Addr} {c c' n m:Nat} {x y:Int} (hx:x=bf s n) (hy:y=m) (h:Raw w2 a (len n) c n) (hf:Fr W.heap.size a) (h':Raw w2 a' (len m) c' m) (hf':Fr W.heap.size a') (hW:Ext w W) (h2:Ext W w2)
 (t:Touch w.heap.size W.heap.size w2 w3):jl x y w (.returned (.tuple #[.agg #[.bool (s&&decide (0<len n)),.slice a (len n) c],.agg #[.bool false,.slice a' (len m) c'],.bool true])) w3:=by
 subst hx;subst hy
 refine ⟨a,c,a',c',?_,?_,hf.mono hW.size,?_,hf'.mono hW.size,hW.bH h2 t⟩
 .rw [bL,uH];simp only [iy,Int.natAbs_natCast]
  have:decide ((m:Int)<0)=false:=aX;rw [this]
 .rw [bL];exact h.bH t hf.o
 .rw [Int.natAbs_natCast];exact h'.bH t hf'.o
theorem rX {s t:Bool} {n m:Nat} (hm:0<m) (h:s=false\/n % m=0):bf s n/bf t m=bf (s !=t) (n/m)/\bf s n % bf t m=(n % m:Nat):=by
 have hmz:(m:Int)≠0:=ae;cases s
 .cases t
  .simp [bf]
  .simp [bf,Int.ediv_neg,Int.emod_neg]
 .have h0:n % m=0:=by simpa using h
  obtain ⟨q,rfl⟩: ∃q,n=m*q:=⟨n/m,dB (Nat.div_add_mod n m)⟩;cases t
  .simp only [bf];constructor
   .simp [Nat.mul_div_cancel_left _ hm]
    rw [<-Int.mul_neg,Int.mul_ediv_cancel_left _ hmz]
   .simp
  .simp only [bf];constructor
   .simp [Nat.mul_div_cancel_left _ hm]
    rw [<-Int.mul_neg,Int.mul_ediv_cancel_left _ hmz];omega
   .simp
theorem tA {t:Bool} {n m:Nat} (hm:0<m) (h:0<n % m):bf true n/bf t m=bf (true !=t) (n/m+1)/\bf true n % bf t m=(m-n % m:Nat):=by
 have h1:=Nat.div_add_mod n m;have h2:=Nat.mod_lt n hm;have hmz:(0:Int)<(m:Int):=ae
 have e:(-(n:Int))=(m:Int)*(-((n/m:Nat):Int)-1)+((m-n % m:Nat):Int):=by
  rw [Int.ofNat_sub (Nat.le_of_lt h2),Int.mul_sub,Int.mul_neg];have:(n:Int)=(m:Int)*((n/m:Nat):Int)+((n % m:Nat):Int):=by exact_mod_cast h1.symm
  rw [Int.mul_one];omega
 have q1:(-(n:Int))/(m:Int)= -((n/m:Nat):Int)-1:=by
  rw [e,Int.mul_add_ediv_left _ _ ae,Int.ediv_eq_zero_of_lt ae ae];omega
 have r1:(-(n:Int)) % (m:Int)=((m-n % m:Nat):Int):=by
  rw [e,Int.mul_add_emod_self_left,Int.emod_eq_of_lt ae ae]
 cases t
 .simp only [bf];simp
  refine ⟨?_,?_⟩
  .rw [q1];simp;omega
  .rw [r1]
 .simp only [bf];simp
  refine ⟨?_,?_⟩
  .rw [q1];simp;omega
  .rw [r1]
theorem zn (w:World) (s t:Bool) (a b:Option Addr) (k c k' c' n m:Nat) (h:Raw w a k c n) (h':Raw w b k' c' m) (hm:0<m) (b1:len n<1000000000-1):
 Calls prog 228 #[.agg #[.bool s,.slice a k c],.agg #[.bool t,.slice b k' c']] w (jl (bf s n/bf t m) (bf s n % bf t m) w):=by
 by_cases hc:s=false\/n % m=0
 .obtain ⟨e1,e2⟩:=rX (t:=t) hm hc
  have E1:=af e1;have E2:=af e2;clear e1 e2
  have hg:(s&&decide (0<len (n % m)))=false:=by
   rcases hc with rfl|h0
   .rfl
   .rw [h0,nc];simp
  go_enter func228,ntmps228
  go_wp2_with fail
  obtain ⟨W,hW,x0,Z0,A0,A1,A2,A3⟩:=za w 61 [.bool s,.slice a k c] 61 [.bool t,.slice b k' c'] 61 [.bool false,.slice none 0 0] 61 [.bool false,.slice none 0 0];rw [<-hW];clear hW;obtain ⟨z0,z1,z2,⟨aD,aF,aM,aN⟩,⟨aJ,aK,aR,aS⟩,aZ,a_,bA,bB⟩:=bb3 aC aC aC A0 A1 A2 ah;obtain ⟨z3,fV,fX,il,iq⟩:=bb1 aC A3 ah;refine (ke _ _ _ _ _ _ _ _ _ (h.ext x0) (h'.ext x0) hm ae).mono ?_;rintro e w1 ⟨a1,c1,a2,c2,rfl,hr1,jw,hr2,hf2,hx1⟩;obtain ⟨z0,z1,z2,⟨aD,aF,aM,aN⟩,⟨aJ,aK,aR,aS⟩,aZ,a_,bA,bB⟩:=bb3 aC aC aC A0 A1 A2 hx1;obtain ⟨z3,fV,fX,il,iq⟩:=bb1 aC A3 hx1;have BS:=hr1.le;have hl2:=hr2.le;cases s
  .go_wp2_with fail
   refine (eR _ _ _ _ _ ae).mono ?_;rintro e w2 ⟨rfl,hx2⟩;obtain ⟨z0,z1,z2,⟨aD,aF,aM,aN⟩,⟨aJ,aK,aR,aS⟩,aZ,a_,bA,bB⟩:=bb3 aC aC aC A0 A1 A2 (hx1.trans hx2);obtain ⟨z3,fV,fX,il,iq⟩:=bb1 aC A3 (hx1.trans hx2);go_wp2_with fail
   refine (eR _ _ _ _ _ ae).mono ?_;rintro e w3 ⟨rfl,hx3⟩;obtain ⟨z0,z1,z2,⟨aD,aF,aM,aN⟩,⟨aJ,aK,aR,aS⟩,aZ,a_,bA,bB⟩:=bb3 aC aC aC A0 A1 A2 ((hx1.trans hx2).trans hx3);obtain ⟨z3,fV,fX,il,iq⟩:=bb1 aC A3 ((hx1.trans hx2).trans hx3);have fin:=λw4 t4=>jl.of (w:=w) (w3:=w4) (x:=bf false n/bf t m) (y:=bf false n % bf t m) E1.o E2.o ((hr1.ext hx2).ext hx3) jw ((hr2.ext hx2).ext hx3) hf2 x0 ((hx1.trans hx2).trans hx3) t4;go_wp2
   exact bodyPost_ret (by simp [results,results228,go_sem,aZ,a_,fV,fX]) rfl (fin _ ((Touch.two _ ae (by rw [Z0.o];omega) _ _).trans (Touch.two _ ae (by rw [Z0.o];omega) _ _)))
  .have h0:n % m=0:=by simpa using hc
   have Ub:len (n % m)=0:=by rw [h0];rfl
   have H0:=af h0;clear h0 hg hc
   have hd0:decide (0<len (n % m))=false:=by rw [Ub];rfl
   have H0':=af Ub;clear Ub
   go_wp2_with fail
   refine (eR _ _ _ _ _ ae).mono ?_;rintro e w2 ⟨rfl,hx2⟩;obtain ⟨z0,z1,z2,⟨aD,aF,aM,aN⟩,⟨aJ,aK,aR,aS⟩,aZ,a_,bA,bB⟩:=bb3 aC aC aC A0 A1 A2 (hx1.trans hx2);obtain ⟨z3,fV,fX,il,iq⟩:=bb1 aC A3 (hx1.trans hx2);go_wp2_with fail
   refine (eR _ _ _ _ _ ae).mono ?_;rintro e w3 ⟨rfl,hx3⟩;obtain ⟨z0,z1,z2,⟨aD,aF,aM,aN⟩,⟨aJ,aK,aR,aS⟩,aZ,a_,bA,bB⟩:=bb3 aC aC aC A0 A1 A2 ((hx1.trans hx2).trans hx3);obtain ⟨z3,fV,fX,il,iq⟩:=bb1 aC A3 ((hx1.trans hx2).trans hx3);have fin:=λw4 t4=>jl.of (w:=w) (w3:=w4) (x:=bf true n/bf t m) (y:=bf true n % bf t m) E1.o E2.o ((hr1.ext hx2).ext hx3) jw ((hr2.ext hx2).ext hx3) hf2 x0 ((hx1.trans hx2).trans hx3) t4;go_wp2
   exact bodyPost_ret (by simp [results,results228,go_sem,aZ,a_,fV,fX]) rfl (fin _ ((Touch.two _ ae (by rw [Z0.o];omega) _ _).trans (Touch.two _ ae (by rw [Z0.o];omega) _ _)))
 .obtain ⟨rfl,Qf⟩:s=true/\0<n % m:=by
   cases s
   .exact absurd (Or.inl rfl) hc
   .exact ⟨rfl,Nat.pos_of_ne_zero λh=>hc (Or.inr h)⟩
  clear hc;obtain ⟨e1,e2⟩:=tA (t:=t) hm Qf;have E1:=af e1;have E2:=af e2;clear e1 e2
  have hlr:=iy.2 Qf;have hrm:=Nat.mod_lt n hm;go_enter func228,ntmps228
  go_wp2_with fail
  obtain ⟨W,hW,x0,Z0,A0,A1,A2,A3⟩:=za w 61 [.bool true,.slice a k c] 61 [.bool t,.slice b k' c'] 61 [.bool false,.slice none 0 0] 61 [.bool false,.slice none 0 0];rw [<-hW];clear hW;obtain ⟨z0,z1,z2,⟨aD,aF,aM,aN⟩,⟨aJ,aK,aR,aS⟩,aZ,a_,bA,bB⟩:=bb3 aC aC aC A0 A1 A2 ah;obtain ⟨z3,fV,fX,il,iq⟩:=bb1 aC A3 ah;refine (ke _ _ _ _ _ _ _ _ _ (h.ext x0) (h'.ext x0) hm ae).mono ?_;rintro e w1 ⟨a1,c1,a2,c2,rfl,hr1,jw,hr2,hf2,hx1⟩;obtain ⟨z0,z1,z2,⟨aD,aF,aM,aN⟩,⟨aJ,aK,aR,aS⟩,aZ,a_,bA,bB⟩:=bb3 aC aC aC A0 A1 A2 hx1;obtain ⟨z3,fV,fX,il,iq⟩:=bb1 aC A3 hx1;have hd0:decide (0<len (n % m))=true:=by simp [hlr]
  have Dd: ∀W:World,Raw (W.alloc (Obj.cells #[.int .u32 1] 93)) (some ⟨W.heap.size,0,none⟩) 1 1 1:=λW=>
   ⟨[1],rfl,rfl,(aY.alloc W 93 (dC [1])).limbs (Small.one ai) aX⟩
  have Qi:len (n/m)<=len n:=dt (Nat.div_le_self _ _);go_wp2_with fail
  refine (JX _ _ _ _ _ _ _ _ _ (hr1.ext (ah.alloc _)) (Dd _) ae (by rw [JT ai ai];decide)).mono ?_;rintro e w2 ⟨a3,c3,rfl,hr3,hf3,hx2⟩;obtain ⟨z0,z1,z2,⟨aD,aF,aM,aN⟩,⟨aJ,aK,aR,aS⟩,aZ,a_,bA,bB⟩:=bb3 aC aC aC A0 A1 A2 ((hx1.alloc _).trans hx2);obtain ⟨z3,fV,fX,il,iq⟩:=bb1 aC A3 ((hx1.alloc _).trans hx2);go_wp2_with fail
  refine (yG _ _ _ _ _ _ _ _ _ (((h'.ext x0).ext (hx1.alloc _)).ext hx2) ((hr2.ext (ah.alloc _)).ext hx2) (Nat.le_of_lt hrm)).mono ?_;rintro e w3 ⟨a4,c4,rfl,hr4,J4,hx3⟩;obtain ⟨z0,z1,z2,⟨aD,aF,aM,aN⟩,⟨aJ,aK,aR,aS⟩,aZ,a_,bA,bB⟩:=bb3 aC aC aC A0 A1 A2 (((hx1.alloc _).trans hx2).trans hx3);obtain ⟨z3,fV,fX,il,iq⟩:=bb1 aC A3 (((hx1.alloc _).trans hx2).trans hx3);have Xf:=hr3.le;have hl4:=hr4.le;go_wp2_with fail
  refine (eR _ _ _ _ _ ae).mono ?_;rintro e w4 ⟨rfl,gW⟩;obtain ⟨z0,z1,z2,⟨aD,aF,aM,aN⟩,⟨aJ,aK,aR,aS⟩,aZ,a_,bA,bB⟩:=bb3 aC aC aC A0 A1 A2 ((((hx1.alloc _).trans hx2).trans hx3).trans gW);obtain ⟨z3,fV,fX,il,iq⟩:=bb1 aC A3 ((((hx1.alloc _).trans hx2).trans hx3).trans gW);go_wp2_with fail
  refine (eR _ _ _ _ _ ae).mono ?_;rintro e w5 ⟨rfl,gl⟩;obtain ⟨z0,z1,z2,⟨aD,aF,aM,aN⟩,⟨aJ,aK,aR,aS⟩,aZ,a_,bA,bB⟩:=bb3 aC aC aC A0 A1 A2 (((((hx1.alloc _).trans hx2).trans hx3).trans gW).trans gl);obtain ⟨z3,fV,fX,il,iq⟩:=bb1 aC A3 (((((hx1.alloc _).trans hx2).trans hx3).trans gW).trans gl);have SK:W.heap.size<=w1.heap.size:=hx1.size;have Xg:W.heap.size<=w2.heap.size:=((hx1.alloc _).trans hx2).size;have fin:=λw6 t6=>jl.of (w:=w) (w3:=w6) (x:=bf true n/bf t m) (y:=bf true n % bf t m) E1.o E2.o (((hr3.ext hx3).ext gW).ext gl) (hf3.mono (by simp;omega)) ((hr4.ext gW).ext gl) (J4.mono Xg) x0 (((((hx1.alloc _).trans hx2).trans hx3).trans gW).trans gl) t6;go_wp2
  exact bodyPost_ret (by simp [results,results228,go_sem,aZ,a_,fV,fX]) rfl (fin _ ((Touch.two _ ae (by rw [Z0.o];omega) _ _).trans (Touch.two _ ae (by rw [Z0.o];omega) _ _)))
def QP (s:Bool) (n m:Nat) (w:World) (e:Ending) (w':World):Prop:= ∃s1 a1 k1 c1 n1 b1 j1 d1 m1,e= .returned (.tuple #[.agg #[.bool s1,.slice a1 k1 c1],.slice b1 j1 d1])/\
 Raw w' a1 k1 c1 n1/\Raw w' b1 j1 d1 m1/\0<m1/\mkRat (bf s1 n1) m1=mkRat (bf s n) m/\len n1<=len n/\len m1<=len m+1/\Ext w w'
theorem yJ (w:World):Raw (w.alloc (Obj.cells #[.int .u32 1] 93)) (some ⟨w.heap.size,0,none⟩) 1 1 1:=
 ⟨[1],rfl,rfl,(aY.alloc w 93 (dC [1])).limbs (Small.one ai) aX⟩
theorem gU (w:World) (s:Bool) (a b:Option Addr) (k c j d n m:Nat) (h:Raw w a k c n) (g:Raw w b j d m):
 Calls prog 104 #[.agg #[.bool s,.slice a k c,.slice b j d]] w (QP s n m w):=by
 by_cases hm:m=0
 .subst hm
  have hc:gp 0 0=0:=rfl;go_enter func104,ntmps104
  go_wp2_with fail
  obtain ⟨W,hW,x0,Z0,A0,A1⟩:=dV w 63 [.bool s,.slice a k c,.slice b j d] 61 [.bool false,.slice none 0 0];rw [<-hW];clear hW;obtain ⟨z0,z1,⟨aD,aF,bn,aM,aN,bG⟩,aJ,aK,aR,aS⟩:=bb2 aA aC A0 A1 ah;refine (ep _ _ _ _ _ _ _ _ _ (g.ext x0) (Raw.nil _)).mono ?_;rintro e w1 ⟨rfl,pE⟩;rw [hc];obtain ⟨z0,z1,⟨aD,aF,bn,aM,aN,bG⟩,aJ,aK,aR,aS⟩:=bb2 aA aC A0 A1 pE.ext;go_wp2
  refine bodyPost_ret (v:= .tuple #[.agg #[.bool false,.slice none 0 0],.slice (some ⟨w1.heap.size,0,none⟩) 1 1]) (by simp [results,results104,go_sem,aJ,aK,z1]) rfl ?_;refine ⟨false,none,0,0,0,some ⟨w1.heap.size,0,none⟩,1,1,1,rfl,Raw.nil _,?_,ae,by simp [bf],by rw [nc];omega,by rw [ze];omega,?_⟩
  .have:=yJ ((w1.setCell ⟨w.heap.size+1,0,none⟩ (.bool false)).setCell ⟨w.heap.size+1,1,none⟩ (.slice none 0 0));simpa using this
  .refine Ext.alloc (Ext.setCell (Ext.setCell (x0.trans pE.ext) ?_ _) ?_ _) _<;>simp
 .have hc:gp m 0=1:=by unfold gp;rw [if_neg ae,if_neg hm]
  have HC:=af hc;clear hc
  go_enter func104,ntmps104
  go_wp2_with fail
  obtain ⟨W,hW,x0,Z0,A0,A1⟩:=dV w 63 [.bool s,.slice a k c,.slice b j d] 61 [.bool false,.slice none 0 0];rw [<-hW];clear hW;obtain ⟨z0,z1,⟨aD,aF,bn,aM,aN,bG⟩,aJ,aK,aR,aS⟩:=bb2 aA aC A0 A1 ah;refine (ep _ _ _ _ _ _ _ _ _ (g.ext x0) (Raw.nil _)).mono ?_;rintro e w1 ⟨rfl,pE⟩;rw [HC.o];obtain ⟨z0,z1,⟨aD,aF,bn,aM,aN,bG⟩,aJ,aK,aR,aS⟩:=bb2 aA aC A0 A1 pE.ext;go_wp2
  go_region
  go_wp2
  refine bodyPost_ret (v:= .tuple #[.agg #[.bool s,.slice a k c],.slice b j d]) (by simp [results,results104,go_sem,aJ,aK]) rfl ?_;have hx:Ext w ((w1.setCell ⟨w.heap.size+1,0,none⟩ (.bool s)).setCell ⟨w.heap.size+1,1,none⟩ (.slice a k c)).drew:=(((x0.trans pE.ext).setCell aX _).setCell aX _).drew;exact ⟨s,a,k,c,n,b,j,d,m,rfl,h.ext hx,g.ext hx,ae,rfl,cG,ae,hx⟩
theorem jJ (w:World) (s:Bool) (a b:Option Addr) (k c j d n m:Nat) (h:Raw w a k c n) (g:Raw w b j d m) (Da: ¬(n<2147483648/\m<2147483648)):
 Calls prog 102 #[.agg #[.bool s,.slice a k c,.slice b j d]] w λe w'=>e= .returned (.tuple #[.int .i64 0,.int .i64 0,.bool false])/\Ext w w':=by
 by_cases hn:n<18446744073709551616
 .by_cases hm:m<18446744073709551616
  .by_cases Xh:n<2147483648
   .have qN:(2147483648:Int)<=(m:Int):=ae
    have dn:decide ((2147483648:Int)<=(n:Int))=false:=decide_eq_false ae;have HN:=af hn;have J5:=af Xh;clear Xh hn
    clear Da;go_enter func102,ntmps102
    go_wp2_with fail
    refine (cS _ _ _ _ _ (h.ext (ah.alloc _)) HN.o).mono ?_;rintro e w1 ⟨rfl,rfl⟩;go_wp2_with fail
    refine (cS _ _ _ _ _ (g.ext (ah.alloc _)) hm).mono ?_;rintro e w1 ⟨rfl,rfl⟩;go_wp2
    go_ret3
    exact ⟨rfl,ah.alloc _⟩
   .have Uc:(2147483648:Int)<=(n:Int):=ae
    clear Da;go_enter func102,ntmps102
    go_wp2_with fail
    refine (cS _ _ _ _ _ (h.ext (ah.alloc _)) hn).mono ?_;rintro e w1 ⟨rfl,rfl⟩;go_wp2_with fail
    refine (cS _ _ _ _ _ (g.ext (ah.alloc _)) hm).mono ?_;rintro e w1 ⟨rfl,rfl⟩;go_wp2
    go_ret3
    exact ⟨rfl,ah.alloc _⟩
  .clear Da
   go_enter func102,ntmps102
   go_wp2_with fail
   refine (cS _ _ _ _ _ (h.ext (ah.alloc _)) hn).mono ?_;rintro e w1 ⟨rfl,rfl⟩;go_wp2_with fail
   refine (lM _ _ _ _ _ (g.ext (ah.alloc _)) ae).mono ?_;rintro e w1 ⟨rfl,rfl⟩;go_wp2
   go_ret3
   exact ⟨rfl,ah.alloc _⟩
 .clear Da
  by_cases hm:m<18446744073709551616
  .go_enter func102,ntmps102
   go_wp2_with fail
   refine (lM _ _ _ _ _ (h.ext (ah.alloc _)) ae).mono ?_;rintro e w1 ⟨rfl,rfl⟩;go_wp2_with fail
   refine (cS _ _ _ _ _ (g.ext (ah.alloc _)) hm).mono ?_;rintro e w1 ⟨rfl,rfl⟩;go_wp2
   go_ret3
   exact ⟨rfl,ah.alloc _⟩
  .go_enter func102,ntmps102
   go_wp2_with fail
   refine (lM _ _ _ _ _ (h.ext (ah.alloc _)) ae).mono ?_;rintro e w1 ⟨rfl,rfl⟩;go_wp2_with fail
   refine (lM _ _ _ _ _ (g.ext (ah.alloc _)) ae).mono ?_;rintro e w1 ⟨rfl,rfl⟩;go_wp2
   go_ret3
   exact ⟨rfl,ah.alloc _⟩
def QQ (s:Bool) (n m:Nat) (w:World) (e:Ending) (w':World):Prop:= ∃(x:Int) (y:Nat),e= .returned (.tuple #[.int .i64 x,.int .i64 (y:Nat),.bool true])/\
 -2147483648<x/\x<2147483648/\0<y/\y<2147483648/\mkRat x y=mkRat (bf s n) m/\Ext w w'
theorem jd (w:World) (s:Bool) (a b:Option Addr) (k c j d n m:Nat) (h:Raw w a k c n) (g:Raw w b j d m) (hn:n<2147483648) (hm:m<2147483648):
 Calls prog 102 #[.agg #[.bool s,.slice a k c,.slice b j d]] w (QQ s n m w):=by
 have dn:decide ((2147483648:Int)<=(n:Int))=false:=decide_eq_false ae;have dm:decide ((2147483648:Int)<=(m:Int))=false:=decide_eq_false ae;have Xi:n<3000000000:=ae;have hm3:m<3000000000:=ae;have HN:=af hn;have HM:=af hm;clear hn hm
 by_cases h0:m=0
 .subst h0
  go_enter func102,ntmps102
  go_wp2_with fail
  refine (cS _ _ _ _ _ (h.ext (ah.alloc _)) (dB HN.o)).mono ?_;rintro e w1 ⟨rfl,rfl⟩;go_wp2_with fail
  refine (cS _ _ _ _ _ (g.ext (ah.alloc _)) (dB HM.o)).mono ?_;rintro e w1 ⟨rfl,rfl⟩;go_wp2
  go_ret3
  exact ⟨0,1,rfl,ae,ae,ae,ae,aX,ah.alloc _⟩
 .have LA:((m:Int)==0)=false:=by rw [beq_eq_false_iff_ne];omega
  cases s
  .go_enter func102,ntmps102
   go_wp2_with fail
   refine (cS _ _ _ _ _ (h.ext (ah.alloc _)) (dB HN.o)).mono ?_;rintro e w1 ⟨rfl,rfl⟩;go_wp2_with fail
   refine (cS _ _ _ _ _ (g.ext (ah.alloc _)) (dB HM.o)).mono ?_;rintro e w1 ⟨rfl,rfl⟩;go_wp2
   go_ret3
   have hn:=HN.o;have hm:=HM.o
   exact ⟨n,m,rfl,ae,ae,ae,ae,rfl,ah.alloc _⟩
  .go_enter func102,ntmps102
   go_wp2_with fail
   refine (cS _ _ _ _ _ (h.ext (ah.alloc _)) (dB HN.o)).mono ?_;rintro e w1 ⟨rfl,rfl⟩;go_wp2_with fail
   refine (cS _ _ _ _ _ (g.ext (ah.alloc _)) (dB HM.o)).mono ?_;rintro e w1 ⟨rfl,rfl⟩;go_wp2
   go_ret3
   have hn:=HN.o;have hm:=HM.o
   exact ⟨-(n:Int),m,rfl,ae,ae,ae,ae,rfl,ah.alloc _⟩
