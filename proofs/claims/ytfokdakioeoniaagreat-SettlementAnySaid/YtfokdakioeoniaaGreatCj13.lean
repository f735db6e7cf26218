/- Texts of the proof. -/
import Derived.Test.YtfokdakioeoniaaGreatCj12
set_option linter.all false
set_option maxHeartbeats 1000000
set_option maxRecDepth 100000
namespace Go.Proofs.YtfokdakioeoniaaGreat
open Go.Proofs.Tryz
open Go.RowKit
theorem df (z:Int):bf (decide (z<0)) z.natAbs=z:=by
 unfold bf;by_cases h:z<0<;>simp [h]<;>omega
theorem j9 (w:World) (s:Bool) (a:Option Addr) (k c n:Nat) (h:Raw w a k c n):
 Calls prog 85 #[.bool s,.slice a k c] w (bP (bf s n) w):=by
 have hl:=h.cg;have hle:=h.le;cases s with
 |false=>
  go_enter func85,ntmps85
  go_wp2_with fail
  obtain ⟨W,hW,x0,Z0,A0⟩:=bS w 61 [.bool false,.slice none 0 0];rw [<-hW];clear hW;obtain ⟨z0,aD,aF,aM,aN⟩:=bb1 aC A0 ah;refine (fL _ _ _ _ _ (h.ext x0)).mono ?_;rintro e w1 ⟨a1,c1,rfl,hr1,jw,hx1⟩;obtain ⟨z0,aD,aF,aM,aN⟩:=bb1 aC A0 hx1;have fin:=bP.iD (s:=false) hr1 jw hx1 ⟨rfl,ah⟩;rw [Bool.false_and]at fin;go_wp2
  exact bodyPost_ret (by simp [results,results85,go_sem,aD,aF]) rfl (bP.bH fin x0 (Touch.two _ cG (by rw [Z0.o];omega) _ _))
 |true=>
  by_cases h0:0<len n
  .have d0:decide ((0:Int)<((len n:Nat):Int))=true:=by simp;exact h0
   go_enter func85,ntmps85
   go_wp2_with fail
   obtain ⟨W,hW,x0,Z0,A0⟩:=bS w 61 [.bool false,.slice none 0 0];rw [<-hW];clear hW;obtain ⟨z0,aD,aF,aM,aN⟩:=bb1 aC A0 ah;refine (fL _ _ _ _ _ (h.ext x0)).mono ?_;rintro e w1 ⟨a1,c1,rfl,hr1,jw,hx1⟩;obtain ⟨z0,aD,aF,aM,aN⟩:=bb1 aC A0 hx1;have fin:=bP.iD (s:=true) hr1 jw hx1 ⟨rfl,ah⟩;rw [decide_eq_true h0,Bool.true_and]at fin;go_wp2
   exact bodyPost_ret (by simp [results,results85,go_sem,aD,aF]) rfl (bP.bH fin x0 (Touch.two _ cG (by rw [Z0.o];omega) _ _))
  .have d0:decide ((0:Int)<((len n:Nat):Int))=false:=by simp;omega
   go_enter func85,ntmps85
   go_wp2_with fail
   obtain ⟨W,hW,x0,Z0,A0⟩:=bS w 61 [.bool false,.slice none 0 0];rw [<-hW];clear hW;obtain ⟨z0,aD,aF,aM,aN⟩:=bb1 aC A0 ah;refine (fL _ _ _ _ _ (h.ext x0)).mono ?_;rintro e w1 ⟨a1,c1,rfl,hr1,jw,hx1⟩;obtain ⟨z0,aD,aF,aM,aN⟩:=bb1 aC A0 hx1;have fin:=bP.iD (s:=true) hr1 jw hx1 ⟨rfl,ah⟩;rw [decide_eq_false h0,Bool.and_false]at fin;go_wp2
   exact bodyPost_ret (by simp [results,results85,go_sem,aD,aF]) rfl (bP.bH fin x0 (Touch.two _ cG (by rw [Z0.o];omega) _ _))
theorem se (w:World) (s:Bool) (a:Option Addr) (k c n:Nat) (h:Raw w a k c n):
 Calls prog 80 #[.agg #[.bool s,.slice a k c]] w (bP (bf s n) w):=by
 go_enter func80,ntmps80
 go_wp2_with fail
 obtain ⟨W,hW,x0,Z0,A0,A1⟩:=dV w 61 [.bool s,.slice a k c] 61 [.bool false,.slice none 0 0];rw [<-hW];clear hW;obtain ⟨z0,z1,⟨aD,aF,aM,aN⟩,aJ,aK,aR,aS⟩:=bb2 aC aC A0 A1 ah;refine (j9 _ s _ _ _ _ (h.ext x0)).mono ?_;rintro e w1 fin;obtain ⟨a1,c1,rfl,hr1,jw,hx1⟩:=id fin;obtain ⟨z0,z1,⟨aD,aF,aM,aN⟩,aJ,aK,aR,aS⟩:=bb2 aC aC A0 A1 hx1;go_wp2
 exact bodyPost_ret (by simp [results,results80,go_sem,aJ,aK]) rfl (bP.bH fin x0 (Touch.two _ ae (by rw [Z0.o];omega) _ _))
theorem Dm (w:World) (s:Bool) (a:Option Addr) (k c n:Nat) (h:Raw w a k c n):
 Calls prog 84 #[.agg #[.bool s,.slice a k c]] w (bP (-bf s n) w):=by
 rw [<-uI];go_enter func84,ntmps84
 go_wp2_with fail
 obtain ⟨W,hW,x0,Z0,A0,A1⟩:=dV w 61 [.bool s,.slice a k c] 61 [.bool false,.slice none 0 0];rw [<-hW];clear hW;obtain ⟨z0,z1,⟨aD,aF,aM,aN⟩,aJ,aK,aR,aS⟩:=bb2 aC aC A0 A1 ah;refine (j9 _ (!s) _ _ _ _ (h.ext x0)).mono ?_;rintro e w1 fin;obtain ⟨a1,c1,rfl,hr1,jw,hx1⟩:=id fin;obtain ⟨z0,z1,⟨aD,aF,aM,aN⟩,aJ,aK,aR,aS⟩:=bb2 aC aC A0 A1 hx1;go_wp2
 exact bodyPost_ret (by simp [results,results84,go_sem,aJ,aK]) rfl (bP.bH fin x0 (Touch.two _ ae (by rw [Z0.o];omega) _ _))
theorem Ut (w:World) (s:Bool) (a:Option Addr) (k c n:Nat) (h:Raw w a k c n):
 Calls prog 159 #[.agg #[.bool s,.slice a k c]] w (bP ((n:Int)) w):=by
 rw [<-dy];go_enter func159,ntmps159
 go_wp2_with fail
 obtain ⟨W,hW,x0,Z0,A0,A1⟩:=dV w 61 [.bool s,.slice a k c] 61 [.bool false,.slice none 0 0];rw [<-hW];clear hW;obtain ⟨z0,z1,⟨aD,aF,aM,aN⟩,aJ,aK,aR,aS⟩:=bb2 aC aC A0 A1 ah;refine (j9 _ false _ _ _ _ (h.ext x0)).mono ?_;rintro e w1 fin;obtain ⟨a1,c1,rfl,hr1,jw,hx1⟩:=id fin;obtain ⟨z0,z1,⟨aD,aF,aM,aN⟩,aJ,aK,aR,aS⟩:=bb2 aC aC A0 A1 hx1;go_wp2
 exact bodyPost_ret (by simp [results,results159,go_sem,aJ,aK]) rfl (bP.bH fin x0 (Touch.two _ ae (by rw [Z0.o];omega) _ _))
theorem nk (w:World) (v:Int) (h1: -9223372036854775808<=v) (h2:v<=9223372036854775807):
 Calls prog 38 #[.int .i64 v] w (bP v w):=by
 by_cases h0:v<0
 .obtain ⟨n,rfl⟩: ∃n:Nat,v= -(n:Int):=⟨v.natAbs,ae⟩
  go_enter func38,ntmps38
  go_wp2_with fail
  obtain ⟨W,hW,x0,Z0,A0⟩:=bS w 61 [.bool false,.slice none 0 0];rw [<-hW];clear hW;obtain ⟨z0,aD,aF,aM,aN⟩:=bb1 aC A0 ah;rw [show-(-(n:Int)+1)+1=(n:Int)from by omega];refine (lQ _ n ae).mono ?_;rintro e w1 ⟨a1,c1,rfl,hr1,jw,hx1⟩;obtain ⟨z0,aD,aF,aM,aN⟩:=bb1 aC A0 hx1;go_wp2_with fail
  refine (j9 _ true _ _ _ _ hr1).mono ?_;rintro e w2 Dn;have fin:=Dn.base hx1;obtain ⟨a2,c2,rfl,hr2,hf2,hx2⟩:=id fin;obtain ⟨z0,aD,aF,aM,aN⟩:=bb1 aC A0 hx2;go_wp2
  exact bodyPost_ret (by simp [results,results38,go_sem,aD,aF]) rfl (bP.bH fin x0 (Touch.two _ cG (by rw [Z0.o];omega) _ _))
 .obtain ⟨n,rfl⟩: ∃n:Nat,v=(n:Int):=⟨v.natAbs,ae⟩
  have e1:IntKind.u64.wrap (n:Int)=(n:Int):=by rw [IntKind.wrap_u64];omega
  go_enter func38,ntmps38
  go_wp2_with fail
  obtain ⟨W,hW,x0,Z0,A0⟩:=bS w 61 [.bool false,.slice none 0 0];rw [<-hW];clear hW;obtain ⟨z0,aD,aF,aM,aN⟩:=bb1 aC A0 ah;refine (lQ _ n ae).mono ?_;rintro e w1 ⟨a1,c1,rfl,hr1,jw,hx1⟩;obtain ⟨z0,aD,aF,aM,aN⟩:=bb1 aC A0 hx1;go_wp2_with fail
  refine (j9 _ false _ _ _ _ hr1).mono ?_;rintro e w2 Dn;have fin:=Dn.base hx1;obtain ⟨a2,c2,rfl,hr2,hf2,hx2⟩:=id fin;obtain ⟨z0,aD,aF,aM,aN⟩:=bb1 aC A0 hx2;go_wp2
  exact bodyPost_ret (by simp [results,results38,go_sem,aD,aF]) rfl (bP.bH fin x0 (Touch.two _ cG (by rw [Z0.o];omega) _ _))
theorem Uu (w:World) (s t:Bool) (a b:Option Addr) (k c k' c' n m:Nat) (h:Raw w a k c n) (h':Raw w b k' c' m) (b1:k<1000000000) (b2:k'<1000000000):
 Calls prog 132 #[.agg #[.bool s,.slice a k c],.agg #[.bool t,.slice b k' c']] w (bP (bf s n*bf t m) w):=by
 rw [<-Db];go_enter func132,ntmps132
 go_wp2_with fail
 obtain ⟨W,hW,x0,Z0,A0,A1,A2⟩:=et w 61 [.bool s,.slice a k c] 61 [.bool t,.slice b k' c'] 61 [.bool false,.slice none 0 0];rw [<-hW];clear hW;obtain ⟨z0,z1,z2,⟨aD,aF,aM,aN⟩,⟨aJ,aK,aR,aS⟩,aZ,a_,bA,bB⟩:=bb3 aC aC aC A0 A1 A2 ah
 go_region_held3 (λw'=>w'.cell? ⟨w.heap.size,0,none⟩=some (.bool s)/\w'.cell? ⟨w.heap.size,1,none⟩=some (.slice a k c)/\w'.cell? ⟨w.heap.size+1,0,none⟩=some (.bool t)/\w'.cell? ⟨w.heap.size+1,1,none⟩=some (.slice b k' c')) (first|exact ⟨aD,aF,aJ,aK⟩|(simp [go_sem,aD,aF,aJ,aK])) (first
  |(go_at_call 225;refine (Uj _ _ _ _ _ _ _ _ _ ((h.ext x0).ext (by exact ah.drew)) ((h'.ext x0).ext (by exact ah.drew)) b1 b2).mono ?_;rintro e w1 ⟨a1,c1,rfl,hr1,jw,hx1⟩;obtain ⟨z0,z1,z2,⟨aD,aF,aM,aN⟩,⟨aJ,aK,aR,aS⟩,aZ,a_,bA,bB⟩:=bb3 aC aC aC A0 A1 A2 ((ah.drew).trans hx1))
  |(go_at_call 85;refine (j9 _ _ _ _ _ _ hr1).mono ?_;rintro e w2 ⟨a2,c2,rfl,hr2,hf2,hx2⟩;obtain ⟨z0,z1,z2,⟨aD,aF,aM,aN⟩,⟨aJ,aK,aR,aS⟩,aZ,a_,bA,bB⟩:=bb3 aC aC aC A0 A1 A2 (((ah.drew).trans hx1).trans hx2)))
 have fin:bP (bf (s !=t) (n*m)) W.drew _ w2:=⟨a2,c2,rfl,hr2,hf2.mono hx1.size,hx1.trans hx2⟩;go_wp2
 exact bodyPost_ret (by simp [results,results132,go_sem,aZ,a_];cases s<;>cases t<;>simp) rfl (bP.bH fin x0.drew (Touch.two _ ae (by rw [World.drew,Z0.o];omega) _ _))
theorem Fu (w:World) (s:Bool) (a b:Option Addr) (k c k' c' n m:Nat) (h:Raw w a k c n) (h':Raw w b k' c' m) (b1:k<1000000000) (b2:k'<1000000000):
 Calls prog 131 #[.agg #[.bool s,.slice a k c],.agg #[.bool s,.slice b k' c']] w (bP (bf s n+bf s m) w):=by
 rw [<-J2];go_enter func131,ntmps131
 go_wp2_with fail
 obtain ⟨W,hW,x0,Z0,A0,A1,A2⟩:=et w 61 [.bool s,.slice a k c] 61 [.bool s,.slice b k' c'] 61 [.bool false,.slice none 0 0];rw [<-hW];clear hW;obtain ⟨z0,z1,z2,⟨aD,aF,aM,aN⟩,⟨aJ,aK,aR,aS⟩,aZ,a_,bA,bB⟩:=bb3 aC aC aC A0 A1 A2 ah
 go_region_held3 (λw'=>w'.cell? ⟨w.heap.size,0,none⟩=some (.bool s)/\w'.cell? ⟨w.heap.size,1,none⟩=some (.slice a k c)/\w'.cell? ⟨w.heap.size+1,0,none⟩=some (.bool s)/\w'.cell? ⟨w.heap.size+1,1,none⟩=some (.slice b k' c')) (first|exact ⟨aD,aF,aJ,aK⟩|(simp [go_sem,aD,aF,aJ,aK])) (first
  |(go_at_call 223;refine (tX _ _ _ _ _ _ _ _ _ ((h.ext x0).ext (by exact ah.drew)) ((h'.ext x0).ext (by exact ah.drew)) b1 b2).mono ?_;rintro e w1 ⟨a1,c1,rfl,hr1,jw,hx1⟩;obtain ⟨z0,z1,z2,⟨aD,aF,aM,aN⟩,⟨aJ,aK,aR,aS⟩,aZ,a_,bA,bB⟩:=bb3 aC aC aC A0 A1 A2 ((ah.drew).trans hx1))
  |(go_at_call 85;refine (j9 _ _ _ _ _ _ hr1).mono ?_;rintro e w2 ⟨a2,c2,rfl,hr2,hf2,hx2⟩;obtain ⟨z0,z1,z2,⟨aD,aF,aM,aN⟩,⟨aJ,aK,aR,aS⟩,aZ,a_,bA,bB⟩:=bb3 aC aC aC A0 A1 A2 (((ah.drew).trans hx1).trans hx2)))
 have fin:bP (bf s (n+m)) W.drew _ w2:=⟨a2,c2,rfl,hr2,hf2.mono hx1.size,hx1.trans hx2⟩;go_wp2
 exact bodyPost_ret (by simp [results,results131,go_sem,aZ,a_]) rfl (bP.bH fin x0.drew (Touch.two _ ae (by rw [World.drew,Z0.o];omega) _ _))
theorem Dp (w:World) (s:Bool) (a b:Option Addr) (k c k' c' n m:Nat) (h:Raw w a k c n) (h':Raw w b k' c' m):
 Calls prog 131 #[.agg #[.bool s,.slice a k c],.agg #[.bool (!s),.slice b k' c']] w (bP (bf s n+bf (!s) m) w):=by
 have hne:(s== !s)=false:=by cases s<;>rfl
 by_cases hle:m<=n
 .rw [<-Ff s n m hle]
  go_enter func131,ntmps131
  go_wp2_with fail
  obtain ⟨W,hW,x0,Z0,A0,A1,A2⟩:=et w 61 [.bool s,.slice a k c] 61 [.bool (!s),.slice b k' c'] 61 [.bool false,.slice none 0 0];rw [<-hW];clear hW;obtain ⟨z0,z1,z2,⟨aD,aF,aM,aN⟩,⟨aJ,aK,aR,aS⟩,aZ,a_,bA,bB⟩:=bb3 aC aC aC A0 A1 A2 ah;refine (Di _ _ _ _ _ _ _ _ _ (h.ext x0) (h'.ext x0) hle).mono ?_;rintro e w1 ⟨a1,c1,rfl,hr1,jw,hx1⟩;obtain ⟨z0,z1,z2,⟨aD,aF,aM,aN⟩,⟨aJ,aK,aR,aS⟩,aZ,a_,bA,bB⟩:=bb3 aC aC aC A0 A1 A2 hx1;go_wp2_with fail
  refine (j9 _ s _ _ _ _ hr1).mono ?_;rintro e w2 Dn;have fin:=Dn.base hx1;obtain ⟨a2,c2,rfl,hr2,hf2,hx2⟩:=id fin;obtain ⟨z0,z1,z2,⟨aD,aF,aM,aN⟩,⟨aJ,aK,aR,aS⟩,aZ,a_,bA,bB⟩:=bb3 aC aC aC A0 A1 A2 hx2;go_wp2
  exact bodyPost_ret (by simp [results,results131,go_sem,aZ,a_]) rfl (bP.bH fin x0 (Touch.two _ ae (by rw [Z0.o];omega) _ _))
 .rw [<-Fg s n m ae]
  go_enter func131,ntmps131
  go_wp2_with fail
  obtain ⟨W,hW,x0,Z0,A0,A1,A2⟩:=et w 61 [.bool s,.slice a k c] 61 [.bool (!s),.slice b k' c'] 61 [.bool false,.slice none 0 0];rw [<-hW];clear hW;obtain ⟨z0,z1,z2,⟨aD,aF,aM,aN⟩,⟨aJ,aK,aR,aS⟩,aZ,a_,bA,bB⟩:=bb3 aC aC aC A0 A1 A2 ah;refine (vM _ _ _ _ _ _ _ _ _ (h.ext x0) (h'.ext x0) ae).mono ?_;rintro e w1 ⟨rfl,pE⟩;obtain ⟨z0,z1,z2,⟨aD,aF,aM,aN⟩,⟨aJ,aK,aR,aS⟩,aZ,a_,bA,bB⟩:=bb3 aC aC aC A0 A1 A2 pE;go_wp2_with fail
  refine (Di _ _ _ _ _ _ _ _ _ ((h'.ext x0).ext pE) ((h.ext x0).ext pE) ae).mono ?_;rintro e w2 ⟨a1,c1,rfl,hr1,jw,hx1⟩;obtain ⟨z0,z1,z2,⟨aD,aF,aM,aN⟩,⟨aJ,aK,aR,aS⟩,aZ,a_,bA,bB⟩:=bb3 aC aC aC A0 A1 A2 (pE.trans hx1);go_wp2_with fail
  refine (j9 _ (!s) _ _ _ _ hr1).mono ?_;rintro e w3 Dn;have fin:=Dn.base (pE.trans hx1);obtain ⟨a2,c2,rfl,hr2,hf2,hx2⟩:=id fin;obtain ⟨z0,z1,z2,⟨aD,aF,aM,aN⟩,⟨aJ,aK,aR,aS⟩,aZ,a_,bA,bB⟩:=bb3 aC aC aC A0 A1 A2 hx2;go_wp2
  exact bodyPost_ret (by simp [results,results131,go_sem,aZ,a_]) rfl (bP.bH fin x0 (Touch.two _ ae (by rw [Z0.o];omega) _ _))
theorem Dq (w:World) (s t:Bool) (a b:Option Addr) (k c k' c' n m:Nat) (h:Raw w a k c n) (h':Raw w b k' c' m) (b1:k<1000000000) (b2:k'<1000000000):
 Calls prog 131 #[.agg #[.bool s,.slice a k c],.agg #[.bool t,.slice b k' c']] w (bP (bf s n+bf t m) w):=by
 by_cases e:t=s
 .subst e;exact Fu w t a b k c k' c' n m h h' b1 b2
 .obtain rfl:t= !s:=by cases s<;>cases t<;>simp_all
  exact Dp w s a b k c k' c' n m h h'
theorem Oe (w:World) (s t:Bool) (a b:Option Addr) (k c k' c' n m:Nat) (h:Raw w a k c n) (h':Raw w b k' c' m) (b1:len n<900000000) (b2:len m<900000000):
 Calls prog 82 #[.agg #[.bool s,.slice a k c],.agg #[.bool t,.slice b k' c']] w (bP (Nat.gcd n m:Nat) w):=by
 rw [<-dy];go_enter func82,ntmps82
 go_wp2_with fail
 obtain ⟨W,hW,x0,Z0,A0,A1,A2⟩:=et w 61 [.bool s,.slice a k c] 61 [.bool t,.slice b k' c'] 61 [.bool false,.slice none 0 0];rw [<-hW];clear hW;obtain ⟨z0,z1,z2,⟨aD,aF,aM,aN⟩,⟨aJ,aK,aR,aS⟩,aZ,a_,bA,bB⟩:=bb3 aC aC aC A0 A1 A2 ah;refine (Us _ _ _ _ _ _ _ _ _ (h.ext x0) (h'.ext x0) b1 b2).mono ?_;rintro e w1 ⟨a1,c1,rfl,hr1,jw,hx1⟩;obtain ⟨z0,z1,z2,⟨aD,aF,aM,aN⟩,⟨aJ,aK,aR,aS⟩,aZ,a_,bA,bB⟩:=bb3 aC aC aC A0 A1 A2 hx1;go_wp2_with fail
 refine (j9 _ false _ _ _ _ hr1).mono ?_;rintro e w2 Dn;have fin:=Dn.base hx1;obtain ⟨a2,c2,rfl,hr2,hf2,hx2⟩:=id fin;obtain ⟨z0,z1,z2,⟨aD,aF,aM,aN⟩,⟨aJ,aK,aR,aS⟩,aZ,a_,bA,bB⟩:=bb3 aC aC aC A0 A1 A2 hx2;go_wp2
 exact bodyPost_ret (by simp [results,results82,go_sem,aZ,a_]) rfl (bP.bH fin x0 (Touch.two _ ae (by rw [Z0.o];omega) _ _))
theorem Uv (w:World) (s t:Bool) (a b:Option Addr) (k c k' c' n m:Nat) (h:Raw w a k c n) (h':Raw w b k' c' m) (b1:k<1000000000) (b2:len m<1000000000):
 Calls prog 160 #[.agg #[.bool s,.slice a k c],.agg #[.bool t,.slice b k' c']] w (bP (bf s n-bf t m) w):=by
 obtain ⟨z,hz⟩: ∃z,z= -bf t m:=⟨_,rfl⟩
 have hN: ∀V,Ext w V->Calls prog 84 #[.agg #[.bool t,.slice b k' c']] V (bP z V):=by
  intro V hV;rw [hz];exact Dm V t b k' c' m (h'.ext hV)
 have hA: ∀V a' c',Ext w V->Raw V a' (len z.natAbs) c' z.natAbs->Calls prog 131 #[.agg #[.bool s,.slice a k c],.agg #[.bool (decide (z<0)),.slice a' (len z.natAbs) c']] V (bP (bf s n-bf t m) V):=by
  intro V a' c' hV hR;have:=Dq V s (decide (z<0)) a a' k c _ c' n _ (h.ext hV) hR b1 (by rw [hz,Int.natAbs_neg,bL];exact b2);have e:bf s n+z=bf s n-bf t m:=by rw [hz,<-Int.sub_eq_add_neg]
  rw [df,e]at this;exact this
 have HA:=af hA;have HN:=af hN;clear hA hN hz
 obtain ⟨zr,hzr⟩: ∃zr,zr=bf s n-bf t m:=⟨_,rfl⟩;rw [<-hzr]at HA⊢;clear hzr;go_enter func160,ntmps160
 go_wp2_with fail
 obtain ⟨W,hW,x0,Z0,A0,A1,A2⟩:=et w 61 [.bool s,.slice a k c] 61 [.bool t,.slice b k' c'] 61 [.bool false,.slice none 0 0];rw [<-hW];clear hW;obtain ⟨z0,z1,z2,⟨aD,aF,aM,aN⟩,⟨aJ,aK,aR,aS⟩,aZ,a_,bA,bB⟩:=bb3 aC aC aC A0 A1 A2 ah
 go_region_held3 (λw'=>w'.cell? ⟨w.heap.size,0,none⟩=some (.bool s)/\w'.cell? ⟨w.heap.size,1,none⟩=some (.slice a k c)/\w'.cell? ⟨w.heap.size+1,0,none⟩=some (.bool t)/\w'.cell? ⟨w.heap.size+1,1,none⟩=some (.slice b k' c')) (first|exact ⟨aD,aF,aJ,aK⟩|(simp [go_sem,aD,aF,aJ,aK])) (first
  |(go_at_call 84;refine (HN.o _ (by exact x0.drew)).mono ?_;rintro e w1 ⟨a1,c1,rfl,hr1,jw,hx1⟩;obtain ⟨z0,z1,z2,⟨aD,aF,aM,aN⟩,⟨aJ,aK,aR,aS⟩,aZ,a_,bA,bB⟩:=bb3 aC aC aC A0 A1 A2 ((ah.drew).trans hx1))
  |(go_at_call 131;refine (HA.o _ _ _ (x0.drew.trans hx1) hr1).mono ?_;rintro e w2 ⟨a2,c2,rfl,hr2,hf2,hx2⟩;obtain ⟨z0,z1,z2,⟨aD,aF,aM,aN⟩,⟨aJ,aK,aR,aS⟩,aZ,a_,bA,bB⟩:=bb3 aC aC aC A0 A1 A2 (((ah.drew).trans hx1).trans hx2)))
 have fin:bP zr W.drew _ w2:=⟨a2,c2,rfl,hr2,hf2.mono hx1.size,hx1.trans hx2⟩;go_wp2
 exact bodyPost_ret (by simp [results,results160,go_sem,aZ,a_]) rfl (bP.bH fin x0.drew (Touch.two _ ae (by rw [World.drew,Z0.o];omega) _ _))
