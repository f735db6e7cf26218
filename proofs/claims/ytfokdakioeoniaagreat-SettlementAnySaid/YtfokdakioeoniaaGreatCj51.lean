/- Texts of the proof. -/
import Derived.Test.YtfokdakioeoniaaGreatCj48
set_option linter.all false
set_option maxHeartbeats 4000000
set_option maxRecDepth 100000
namespace Go.Proofs.YtfokdakioeoniaaGreat
open Go.Proofs.Tryz
open Go.RowKit
def lI (fs:List Rat) (n t k:Nat) (b:Int):Prop:=(b= -1/\ ∀i,i<k->Up fs n t i)\/ ∃m:Nat,b=(m:Int)/\m<k/\ ¬Up fs n t m/\ ∀i,i<k-> ¬Up fs n t i->i=m\/nu fs m i
theorem JH (fs:List Rat) (n t:Nat):lI fs n t 0 (-1):=Or.inl ⟨rfl,λ_ hi=>absurd hi (Nat.not_lt_zero _)⟩
theorem M0 {fs:List Rat} {n t k:Nat} {b:Int} (hu:Up fs n t k) (h:lI fs n t k b):lI fs n t (k+1) b:=by
 rcases h with⟨rfl,h⟩|⟨m,rfl,hm,hv,h⟩
 .refine Or.inl ⟨rfl,λi hi=> ?_⟩
  by_cases hk:i<k
  .exact h i hk
  .obtain rfl:i=k:=ae
   exact hu
 .refine Or.inr ⟨m,rfl,ae,hv,λi hi hw=> ?_⟩
  by_cases hk:i<k
  .exact h i hk hw
  .obtain rfl:i=k:=ae
   exact absurd hu hw
theorem JI {fs:List Rat} {n t k:Nat} (hu: ¬Up fs n t k) (h:lI fs n t k (-1)):lI fs n t (k+1) (k:Int):=by
 rcases h with⟨-,h⟩|⟨m,e,_⟩
 .refine Or.inr ⟨k,rfl,ae,hu,λi hi hw=> ?_⟩
  by_cases hk:i<k
  .exact absurd (h i hk) hw
  .exact Or.inl ae
 .omega
theorem M4 {fs:List Rat} {n t k m:Nat} (hu: ¬Up fs n t k) (h:lI fs n t k (m:Int)) (hl:fs[m]?.getD 0<fs[k]?.getD 0):lI fs n t (k+1) (k:Int):=by
 rcases h with⟨e,_⟩|⟨m',e,hm,hv,h⟩
 .omega
 .obtain rfl:m=m':=ae
  refine Or.inr ⟨k,rfl,ae,hu,λi hi hw=> ?_⟩;by_cases hk:i<k
  .rcases h i hk hw with rfl|h5
   .exact Or.inr (Or.inl hl)
   .exact Or.inr (nv (Or.inl hl) h5)
  .exact Or.inl ae
theorem M5 {fs:List Rat} {n t k m:Nat} (h:lI fs n t k (m:Int)) (hl: ¬fs[m]?.getD 0<fs[k]?.getD 0):lI fs n t (k+1) (m:Int):=by
 rcases h with⟨e,_⟩|⟨m',e,hm,hv,h⟩
 .omega
 .obtain rfl:m=m':=ae
  refine Or.inr ⟨m,rfl,ae,hv,λi hi hw=> ?_⟩;by_cases hk:i<k
  .exact h i hk hw
  .obtain rfl:i=k:=ae
   refine Or.inr ?_;have h6:=Rat.not_lt.1 hl;by_cases h5:fs[i]?.getD 0=fs[m]?.getD 0
   .exact Or.inr ⟨h5,hm⟩
   .exact Or.inl (by grind)
theorem M6 {fs:List Rat} {n t:Nat} (ht:t<n): ¬Up fs n t (fj fs n t):=by
 rintro ⟨j,hj,he⟩;have:=zJ fs n j t ae ht he;omega
theorem PT {fs:List Rat} {n t:Nat} {b:Int} (ht:t<n) (h:lI fs n t n b):b=(fj fs n t:Int):=by
 have hv:=M6 (fs:=fs) ht;have hl:=oy fs n t ht;rcases h with⟨_,h⟩|⟨m,rfl,hm,hw,h⟩
 .exact absurd (h _ hl) hv
 .rcases h _ hl hv with e|e
  .rw [e]
  .obtain ⟨j,hj,hje⟩:=CM fs n m hm
   have h1: ¬j<t:=λhjt=>hw ⟨j,hjt,hje⟩
   have h2:j≠t:=by
    rintro rfl;rw [hje]at e;exact oh _ _ e
   have h3:=vR fs n t j ae hj;rw [hje]at h3;exact absurd (nv e h3) (oh _ _)
theorem Ey {fs:List Rat} {n t i:Nat}:Up fs n (t+1) i↔Up fs n t i\/fj fs n t=i:=by
 constructor
 .rintro ⟨j,hj,he⟩
  by_cases h:j<t
  .exact Or.inl ⟨j,h,he⟩
  .obtain rfl:j=t:=ae
   exact Or.inr he
 .rintro (⟨j,hj,he⟩|he)
  .exact ⟨j,ae,he⟩
  .exact ⟨t,ae,he⟩
open Classical in
noncomputable def partAt (fs:List Rat) (n t i:Nat):Rat:=if Up fs n t i then((-1:Int):Rat)else fs[i]?.getD 0
theorem G' (fs:List Rat) (n i:Nat):partAt fs n 0 i=fs[i]?.getD 0:=by
 unfold partAt;rw [if_neg];rintro ⟨j,hj,_⟩;omega
theorem pC {fs:List Rat} {n t i:Nat} (h:Up fs n t i):partAt fs n t i=((-1:Int):Rat):=by unfold partAt;rw [if_pos h]
theorem lJ {fs:List Rat} {n t i:Nat} (h: ¬Up fs n t i):partAt fs n t i=fs[i]?.getD 0:=by unfold partAt;rw [if_neg h]
theorem JJ (fs:List Rat) (n t i:Nat):partAt fs n (t+1) i=if fj fs n t=i then((-1:Int):Rat)else partAt fs n t i:=by
 by_cases h:fj fs n t=i
 .rw [if_pos h,pC (Ey.2 (Or.inr h))]
 .rw [if_neg h]
  by_cases hu:Up fs n t i
  .rw [pC hu,pC (Ey.2 (Or.inl hu))]
  .rw [lJ hu,lJ (λh5=>(Ey.1 h5).elim hu h)]
theorem Ha (qs:List Rat) (i:Nat):0<=(cR qs)[i]?.getD 0:=by
 by_cases h:i<qs.length
 .rw [wQ qs i h];have:=Rat.floor_le qs[i];grind
 .rw [List.getElem?_eq_none (by simp [cR];omega)];exact Rat.le_refl
theorem Hb {q:Rat} (h:0<=q):decide ((0:Int)<=q.num.sign)=true:=by
 apply decide_eq_true;apply Int.not_lt.1;intro h1;exact absurd (pM.1 h1) (Rat.not_lt.2 h)
theorem JK:decide ((0:Int)<=(((-1:Int):Rat)).num.sign)=false:=by
 rw [Rat.num_intCast];decide
theorem Ez (l:List bE) (b:Nat) (r:bE) (h:b<l.length):(((bX l).set (b*3) (.bool r.s)).set (b*3+1) (.slice r.a r.k r.c)).set (b*3+2) (.slice r.b r.j r.d)=bX (l.set b r):=by
 induction l generalizing b with
 |nil=>simp at h
 |cons x l ih=>
  have e: ∀y:bE,∀m,bX (y::m)= .bool y.s:: .slice y.a y.k y.c:: .slice y.b y.j y.d::bX m:=λy m=>rfl;cases b with
  |zero=>rfl
  |succ b=>
   have h':b<l.length:=by simpa using h
   rw [e,List.set_cons_succ,e,<-ih b h',show(b+1)*3=b*3+3 by omega];rfl
theorem AQ {q:Rat}:my q↔yj q<=eU:=by
 unfold my yj;have hM:0<=eU:=by unfold eU;decide
 split<;>constructor
 .intro h;exact h.2
 .intro h;exact ⟨by grind,h⟩
 .intro h;exact h.1
 .intro h;exact ⟨h,by grind⟩
theorem PU:dW eU<=2:=by show dW (((281474976710656:Int):Rat))<=2;rw [gi];decide
theorem Lh (w:World) (y:bE) (q:Rat) (L:Nat) (h:fI w y q L) (hk:y.k<=1000) (hj:y.j<=1000) (hL:L<=1000):(∀V,Ext w V->Calls prog 153 #[.agg #[.bool y.s,.slice y.a y.k y.c,.slice y.b y.j y.d]] V (Om (yj q) (L+1) 1001 V))/\
 (∀V (r r':bE) (B:Nat),fI V r (yj q) (L+1)->r.k<=1001->r.j<=1001->dO V r' eU B->Calls prog 20 #[.agg #[.bool r.s,.slice r.a r.k r.c,.slice r.b r.j r.d],.agg #[.bool r'.s,.slice r'.a r'.k r'.c,.slice r'.b r'.j r'.d]] V λe w'=>e= .returned (.int .i64 (fY (yj q) eU))/\Ext V w'):=by
 constructor
 .intro V hV
  refine (Q9 V y q L (h.ext hV) ae ae ae).mono ?_;rintro e w' ⟨r,he,h1,h2,h3,h4⟩;exact ⟨r,he,h1,ae,ae,h4⟩
 .intro V r r' B h1 k1 k2 h2
  obtain ⟨n,m,g1,g2,gq,N9,N_⟩:=h1;have hs:=h2.short PU;have h5:=pL V r.s _ _ _ _ _ _ _ _ g1 g2 r'.s _ _ _ _ _ _ _ _ h2.num h2.den ae ae ae ae;rw [<-gq,h2.s,dJ,Rat.mkRat_self]at h5;rw [h2.s];exact h5
theorem Sk (w:World) (a:Option Addr) (c L:Nat) (rs:List bE) (qs:List Rat) (h:jV w a c rs qs L) (hn:rs.length<=128) (hL:L<=1000) (hK:jh rs 1000) (jb:Nat) (hjb:jb<rs.length) (hall: ∀i (hi:i<jb),my (qs[i]'(by rw [h.len];omega))) (jc: ¬my (qs[jb]'(by rw [h.len];exact hjb))):
 Calls prog 78 #[.slice a rs.length c] w λe w'=>e= .returned (.tuple #[.slice none 0 0,.int .i64 8])/\Ext w w':=by
 have hle:=h.le;have eI:=h.cap;have Zf: ∀V,Calls prog 16 #[.int .i64 281474976710656] V (bD eU V):=λV=>kf V 281474976710656 ai ai;have HFM:=af Zf;clear Zf;go_enter func78,ntmps78
 go_wp2
 go_loopw [4] (λii wr=> ∃j:Nat,j<=jb/\Ext w wr/\ii= .int .i64 j) (λii _=>rs.length-(intOf ii).toNat)
 case atStart=>exact ⟨0,bm,ah,rfl⟩
 case round=>
  obtain ⟨j,hj,hE,rfl⟩:=hrel;have hlt:j<rs.length:=ae;obtain ⟨b,o,rfl⟩:=h.at ae;obtain ⟨b',o',e',c0,c1,c2⟩:=(h.ext hE).cell j hlt;cases e'
  obtain ⟨ks1,ks2⟩:=hK j hlt;obtain ⟨hA,hC⟩:=Lh w rs[j] _ L (h.num j hlt) ks1 ks2 hL
  have hz:(j<jb/\decide ((0:Int)<fY (yj (qs[j]'(by rw [h.len];exact hlt))) eU)=false)\/decide ((0:Int)<fY (yj (qs[j]'(by rw [h.len];exact hlt))) eU)=true:=by
   by_cases VV:j<jb
   .exact Or.inl ⟨VV,gJ (AQ.1 (hall j VV))⟩
   .obtain rfl:j=jb:=ae
    exact Or.inr (oI (λh2=>jc (AQ.2 h2)))
  generalize fY (yj (qs[j]'(by rw [h.len];exact hlt))) eU=t1 at*;generalize rs[j]=y at*;have HA:=af hA;have HC:=af hC;have HZ:=af hz
  clear hA hC hz;go_wp2_with fail
  refine (HA.o _ hE).mono ?_;rintro e w1 ⟨r1,rfl,hr1,k1,k2,x1⟩;go_wp2_with fail
  refine (HFM.o _).mono ?_;intro e w2 hN;obtain ⟨r2,rfl,hr2,x2⟩:=hN.jR;clear hN;go_wp2_with fail
  refine (HC.o _ _ _ _ (hr1.ext x2) k1 k2 hr2).mono ?_;rintro e w3 ⟨rfl,x3⟩;rcases HZ.o with⟨VV,z1⟩|z1
  .go_wp2_with fail
   go_roundw
   case rel=>exact ⟨j+1,ae,((hE.trans x1).trans x2).trans x3,bq⟩
   case measure=>simp [intOf]<;>omega
  .go_wp2_with fail
   go_ret2
   exact ⟨rfl,((hE.trans x1).trans x2).trans x3⟩
