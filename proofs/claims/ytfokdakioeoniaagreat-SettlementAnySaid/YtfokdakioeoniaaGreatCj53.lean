/- Texts of the proof. -/
import Derived.Test.YtfokdakioeoniaaGreatCj49
import Derived.Test.YtfokdakioeoniaaGreatCj52
set_option linter.all false
set_option maxHeartbeats 4000000
set_option maxRecDepth 100000
namespace Go.Proofs.YtfokdakioeoniaaGreat
open Go.Proofs.Tryz
open Go.RowKit
theorem Hd (c:aq) (S:aQ) (p:aU) (h:Nat):bO (mN c S p h)=0:=by
 unfold mN;rw [tj];grind
theorem Hf {c:aq} (t:Ti c) (S:aQ) (p:aU) (h:Nat):0<(mN c S p h).length/\(mN c S p h).length<=128:=by
 unfold mN;rw [List.length_append,fU]
 have:=t.ar;have:=t.ay;have:=t.stores;have:=t.bF
 simp;omega
theorem AW {qs:List Rat} (h:bO qs=0):bO qs=(((bO qs).floor:Int):Rat):=by
 rw [h];decide
theorem VZ (w:World) (a:Option Addr) (c L:Nat) (rs:List bE) (qs:List Rat) (h:jV w a c rs qs L) (hL:L<=1000) (h1:0<qs.length/\qs.length<=128) (hq:bO qs=0):
 Calls prog 28 #[.slice a rs.length c] w (Ch qs w):=by
 have NW:=h.len;have h3:=AW hq;unfold Ch IL;by_cases h2: ∃q∈qs,¬my q
 .obtain ⟨j,hj,hb,hg⟩:=CR qs h2
  refine (VU w a c L rs qs h ae ae j ae hg hb).mono ?_;rintro e w' ⟨he,hx⟩;rw [if_pos (Or.inr h2)];exact Or.inr ⟨ai,he,hx⟩
 .have hall: ∀q∈qs,my q:=λq hq=>Classical.byContradiction (λhc=>h2 ⟨q,hq,hc⟩)
  rw [if_neg (by rintro (h5|h5);omega;exact h2 h5),if_pos h3];exact (Em w a c L rs qs h ae ae ae (λi hi=>hall _ (List.getElem_mem _)) h3).mono (λe w' he=>Or.inl ⟨rfl,he⟩)
theorem Sm (w:World) (a:Option Addr) (c L:Nat) (rs:List bE) (qs:List Rat) (h:jV w a c rs qs L) (hL:L<=1000) (hK:jh rs 1000) (h1:0<qs.length/\qs.length<=128) (hq:bO qs=0):
 Calls prog 78 #[.slice a rs.length c] w (Ch qs w):=by
 have NW:=h.len;have h3:=AW hq;unfold Ch IL;by_cases h2: ∃q∈qs,¬my q
 .obtain ⟨j,hj,hb,hg⟩:=CR qs h2
  refine (Sk w a c L rs qs h ae hL hK j ae hg hb).mono ?_;rintro e w' ⟨he,hx⟩;rw [if_pos (Or.inr h2)];exact Or.inr ⟨ai,he,hx⟩
 .have hall: ∀q∈qs,my q:=λq hq=>Classical.byContradiction (λhc=>h2 ⟨q,hq,hc⟩)
  have hN:=Sl qs ae hall;rw [if_neg (by rintro (h5|h5);omega;exact h2 h5),if_pos h3];have h5:=PX w a c L rs qs h ae hL hK (λi hi=>hall _ (List.getElem_mem _)) hN.lo hN.hi (by rw [hq,show dW (0:Rat)=1 from BJ];decide) h3 hN.m0 (dB hN.m1);refine h5.mono (λe w' he=>Or.inl ⟨rfl,?_⟩);unfold kr;rw [NW];exact he
noncomputable def Hg (c:aq) (S:aQ) (p:aU):Nat->Int
 |0=>0
 |n+1=>if Hg c S p n=0 then IL (mN c S p n)else Hg c S p n
noncomputable def JN (c:aq) (S:aQ) (p:aU):Int:=if nX c S p 0=0 then Hg c S p c.hours.toNat else nX c S p 0
noncomputable def wT (c:aq) (S:aQ) (p:aU) (n:Nat):List Int:=kr (mN c S p n)
theorem Hh {c:aq} {S:aQ} {p:aU} {n:Nat} (h: ¬Hg c S p n=0): ∀k,Hg c S p (n+k)=Hg c S p n
 |0=>rfl
 |k+1=>by
  have:=Hh h k;show(if Hg c S p (n+k)=0 then _ else Hg c S p (n+k))=_;rw [this,if_neg h]
theorem Hj {c:aq} {S:aQ} {p:aU} {n m:Nat} (h0:Hg c S p n=0) (h: ¬IL (mN c S p n)=0) (hm:n<m):Hg c S p m=IL (mN c S p n):=by
 have h1:Hg c S p (n+1)=IL (mN c S p n):=if_pos h0;have h2:=Hh (c:=c) (S:=S) (p:=p) (n:=n+1) (by rw [h1];exact h) (m-(n+1));rw [show n+1+(m-(n+1))=m by omega,h1]at h2;exact h2
theorem PY {c:aq} {S:aQ} {p:aU} {h:Int} (h0:0<c.hours) (hh:0<=h/\h<c.hours):nX c S p h=nX c S p 0:=by
 by_cases q:eY c S/\mQ c p
 .rw [Ev q hh,Ev q ⟨Int.le_refl _,h0⟩]
 .rw [wS q,wS q]
def nS (w:World) (a:Option Addr) (n:Nat) (l:Nat->List Int):Prop:= ∀i,i<n-> ∃b o a2 c2,a=some ⟨b,o,none⟩/\w.cell? ⟨b,o+i,none⟩=some (.slice a2 (l i).length c2)/\oD w a2 (l i)
theorem nS.ext {w w':World} {a:Option Addr} {n:Nat} {l:Nat->List Int} (h:nS w a n l) (x:Ext w w'):nS w' a n l:=λi hi=>by
 obtain ⟨b,o,a2,c2,e1,e2,e3⟩:=h i hi;exact ⟨b,o,a2,c2,e1,aB x e2,e3.ext x⟩
def Li (V:World) (c:aq) (S:aQ) (p:aU) (e:Ending) (w':World):Prop:=
 ((JN c S p=0/\ ∃a cap,e= .returned (.tuple #[.slice a c.hours.toNat cap,i64 0])/\nS w' a c.hours.toNat (wT c S p))\/(¬JN c S p=0/\e= .returned (.tuple #[.slice none 0 0,i64 (JN c S p)])))/\Ext V w'
theorem Tryz.info_ints:(Tryz.prog.info? 22).map (λi=>(i.zero,i.size,i.bytes))=some (some (.slice none 0 0),1,24):=aw
structure H_ (W0:World) (E n:Nat) (l:Nat->List Int) (i:Nat) (w:World):Prop where
 ext:Ext W0 w
 le:W0.heap.size<=E
 arr: ∃vs:List Value,vs.length=n/\aY w E 22 vs/\ ∀j,j<i-> ∃b,vs[j]?=some (.slice (some ⟨b,0,none⟩) (l j).length (l j).length)/\aY w b 3 (ju (l j))/\b≠E
theorem H_.next {W0 w w':World} {E n i:Nat} {l:Nat->List Int} (h:H_ W0 E n l i w) (x:Ext w w'):H_ W0 E n l i w':=by
 obtain ⟨vs,h1,h2,h3⟩:=h.arr;exact ⟨h.ext.trans x,h.le,vs,h1,h2.ext x,λj hj=>by obtain ⟨b,e1,e2,e3⟩:=h3 j hj;exact ⟨b,e1,e2.ext x,e3⟩⟩
theorem H_.cell {W0 w:World} {E n i:Nat} {l:Nat->List Int} (h:H_ W0 E n l i w) (j:Nat) (hj:j<n): ∃v,w.cell? ⟨E,j,none⟩=some v:=by
 obtain ⟨vs,h1,h2,-⟩:=h.arr;exact ⟨vs[j],by rw [h2.cell];exact List.getElem?_eq_getElem ae⟩
theorem H_.frozen {W0 w:World} {E n i:Nat} {l:Nat->List Int} (h:H_ W0 E n l i w) (j:Nat):w.frozen? ⟨E,j,none⟩=false:=by obtain ⟨vs,-,h2,-⟩:=h.arr;exact h2.frozen j
theorem H_.lt {W0 w:World} {E n i:Nat} {l:Nat->List Int} (h:H_ W0 E n l i w):E<w.heap.size:=by obtain ⟨vs,-,h2,-⟩:=h.arr;exact h2.lt
theorem H_.put {W0 w:World} {E n i b:Nat} {l:Nat->List Int} (h:H_ W0 E n l i w) (hi:i<n) (hA:aY w b 3 (ju (l i))) (hb:b≠E):H_ W0 E n l (i+1) (w.setCell ⟨E,i,none⟩ (.slice (some ⟨b,0,none⟩) (l i).length (l i).length)):=by
 obtain ⟨vs,h1,h2,h3⟩:=h.arr;have x:aH E w (w.setCell ⟨E,i,none⟩ (.slice (some ⟨b,0,none⟩) (l i).length (l i).length)):=(aH.refl E w).nT;refine ⟨x.ext h.ext h.le,h.le,_,by rw [List.length_set];exact h1,h2.set i _,λj hj=> ?_⟩;by_cases e:j=i
 .subst e
  exact ⟨b,List.getElem?_set_self ae,hA.gw x hb,hb⟩
 .obtain ⟨b',e1,e2,e3⟩:=h3 j ae
  exact ⟨b',by rw [List.getElem?_set_ne (Ne.symm e)];exact e1,e2.gw x e3,e3⟩
theorem H_.rows {W0 w:World} {E n:Nat} {l:Nat->List Int} (h:H_ W0 E n l n w):nS w (some ⟨E,0,none⟩) n l:=λi hi=>by
 obtain ⟨vs,h1,h2,h3⟩:=h.arr;obtain ⟨b,e1,e2,-⟩:=h3 i hi;exact ⟨E,0,_,_,rfl,by rw [Nat.zero_add,h2.cell];exact e1,nt e2⟩
theorem Hk (V:World) (c:aq) (S:aQ) (p:aU) (h:Int) (hc:bK V c) (hl:kU c) (h0: ¬cC c=0):
 Calls prog 19 #[.agg (C8 c),.agg S.cells.toArray,.agg p.cells.toArray,.int .i64 h] V λe w'=>e= .returned (.tuple #[.agg #[.bool false,.slice none 0 0,.slice none 0 0],i64 (cC c)])/\Ext V w':=by
 try unfold C8
 have p7:=af (λU (x:Ext V U)=>px U c (hc.ext x) hl);have t1:(cC c !=0)=true:=by simpa using h0
 clear hc hl h0;unfold aQ.cells aU.cells;go_enter func19,ntmps19
 go_upto_region 1 with fail
 generalize hW1:World.alloc V _=W1;generalize hW2:World.alloc W1 _=W2;generalize hW3:World.alloc W2 _=W3;generalize hW:World.alloc W3 _=W;obtain ⟨G,R,B,Z,hG,hR,hB,hZ,HX,dY,gH,iU,yC,nW⟩:=G9 hW1 hW2 hW3 hW;rw [<-hG];try rw [hR]
 try rw [hB]
 try rw [hZ]
 clear hW hW1 hW2 hW3 hG hR hB hZ;have K: ∀Y,Ext W Y->_:=λY e=>aq.at (dY.o.ext e);have st:=Ext.refl W;go_wp2_with fail
 refine (p7.o W HX.o).mono ?_;rintro e w1 ⟨ek,ei,ef,rfl,xx⟩;clear p7;replace st:=st.trans xx;clear xx;go_upto_region 2 with fail
 generalize hW2:World.alloc w1 _=W2;obtain ⟨B2,-,x2,-⟩:=aI hW2;replace st:=st.trans x2;clear hW2 x2;have py:=yC.o.ext st;go_wp2_with (refine cA rfl 63 _ _ rfl Z [.bool false,.slice none 0 0,.slice none 0 0] [.bool false,.slice none 0 0,.slice none 0 0] py rfl rfl aw rfl rfl ?_;intro EH rH ji)
 refine bodyPost_ret (v:= .tuple #[.agg #[.bool false,.slice none 0 0,.slice none 0 0],i64 (cC c)]) (jE 8 9 _ rfl rfl rfl rH underlying63 rfl aw) rfl ?_;exact ⟨rfl,ji.ext (HX.o.trans st) nW.o⟩
theorem AX (V:World) (c:aq) (S:aQ) (p:aU) (h:Int) (hc:bK V c) (hl:kU c) (h0: ¬cC c=0):
 Calls prog 31 #[.agg (C8 c),.agg S.cells.toArray,.agg p.cells.toArray,.int .i64 h] V λe w'=>e= .returned (.tuple #[.slice none 0 0,i64 (cC c)])/\Ext V w':=by
 try unfold C8
 have NF:=af (λU (x:Ext V U)=>Hk U c S p h (hc.ext x) hl h0);have t1:(cC c !=0)=true:=by simpa using h0
 clear hc hl h0;unfold aQ.cells aU.cells at*;go_enter func31,ntmps31
 go_upto_region 1 with fail
 generalize hW1:World.alloc V _=W1;generalize hW2:World.alloc W1 _=W2;generalize hW:World.alloc W2 _=W;obtain ⟨G,R,B,hG,hR,hB,HB,dY,gH,iU,nW⟩:=fw hW1 hW2 hW;rw [<-hG];try rw [hR]
 try rw [hB]
 clear hW hW1 hW2 hG hR hB;have K: ∀Y,Ext W Y->_:=λY e=>aq.at (dY.o.ext e);have K1: ∀Y,Ext W Y->_:=λY e=>(gH.o.ext e).cs;have K2: ∀Y,Ext W Y->_:=λY e=>(iU.o.ext e).cs;replace K1:=gO K1;replace K2:=gO K2;have st:=Ext.refl W;go_wp2_with fail
 refine (NF.o W HB.o).mono ?_;rintro e w1 ⟨rfl,x1⟩;replace st:=st.trans x1;clear NF x1;go_upto_region 2 with fail
 generalize hW2:World.alloc w1 _=W0;obtain ⟨B2,-,x2,-⟩:=aI hW2;replace st:=st.trans x2;clear hW2 x2;go_wp2_with fail
 go_ret2
 exact ⟨rfl,HB.o.trans st⟩
theorem wU (V:World) (c:aq) (S:aQ) (p:aU) (hc:bK V c) (hl:kU c) (h0: ¬cC c=0):
 Calls prog 33 #[.agg (C8 c),.agg S.cells.toArray,.agg p.cells.toArray] V λe w'=>e= .returned (.tuple #[.slice none 0 0,i64 (cC c)])/\Ext V w':=by
 try unfold C8
 have p7:=af (λU (x:Ext V U)=>px U c (hc.ext x) hl);have t1:(cC c !=0)=true:=by simpa using h0
 clear hc hl h0;unfold aQ.cells aU.cells;go_enter func33,ntmps33
 go_upto_region 1 with fail
 generalize hW1:World.alloc V _=W1;generalize hW2:World.alloc W1 _=W2;generalize hW:World.alloc W2 _=W;obtain ⟨G,R,B,hG,hR,hB,HB,dY,gH,iU,nW⟩:=fw hW1 hW2 hW;rw [<-hG];try rw [hR]
 try rw [hB]
 clear hW hW1 hW2 hG hR hB;have K: ∀Y,Ext W Y->_:=λY e=>aq.at (dY.o.ext e);have K1: ∀Y,Ext W Y->_:=λY e=>(gH.o.ext e).cs;have K2: ∀Y,Ext W Y->_:=λY e=>(iU.o.ext e).cs;replace K1:=gO K1;replace K2:=gO K2;have st:=Ext.refl W;go_wp2_with fail
 refine (p7.o W HB.o).mono ?_;rintro e w1 ⟨ek,ei,ef,rfl,xx⟩;clear p7;replace st:=st.trans xx;clear xx;go_upto_region 2 with fail
 generalize hW2:World.alloc w1 _=W2;obtain ⟨B2,-,x2,-⟩:=aI hW2;replace st:=st.trans x2;clear hW2 x2;go_wp2_with fail
 go_ret2
 exact ⟨rfl,HB.o.trans st⟩
theorem EA (V:World) (c:aq) (S:aQ) (p:aU) (hc:bK V c) (hl:kU c) (h0:cC c=0) (hA:Acc c) (hs:eM V S 4) (hp:fS V p 4) (hn:S.moves.length<=1000000) (hm:p.moves.length<=100) (ht:Ti c):
 Calls prog 33 #[.agg (C8 c),.agg S.cells.toArray,.agg p.cells.toArray] V (Li V c S p):=by
 try unfold C8
 have PS:=af (λU (x:Ext V U) (h:Nat)=>AO U c S p h (hc.ext x) hl h0 hA (hs.ext x) (hp.ext x) hn hm ht);have p7:=af (λU (x:Ext V U)=>px U c (hc.ext x) hl);rw [h0]at p7;have ND:=af hA.ok.frame.hours;have Lf:=af ht
 obtain ⟨H,HH⟩: ∃H:Nat,Hid (c.hours=(H:Int)):=⟨c.hours.toNat,by show _=_;have:=hA.ok.frame.hours;omega⟩;have adG:H<=24:=ux ND.o HH.o;clear hc hl h0 hA hs hp hn hm ht;unfold aQ.cells aU.cells at*;go_enter func33,ntmps33
 go_upto_region 1 with fail
 generalize hW1:World.alloc V _=W1;generalize hW2:World.alloc W1 _=W2;generalize hW:World.alloc W2 _=W;obtain ⟨G,R,B,hG,hR,hB,HB,dY,gH,iU,nW⟩:=fw hW1 hW2 hW;rw [<-hG];try rw [hR]
 try rw [hB]
 clear hW hW1 hW2 hG hR hB;have K: ∀Y,Ext W Y->_:=λY e=>aq.at (dY.o.ext e);have K1: ∀Y,Ext W Y->_:=λY e=>(gH.o.ext e).cs;have K2: ∀Y,Ext W Y->_:=λY e=>(iU.o.ext e).cs;replace K1:=gO K1;replace K2:=gO K2;have st:=Ext.refl W;go_wp2_with fail
 refine (p7.o W HB.o).mono ?_;rintro e w1 ⟨ek,ei,ef,rfl,xx⟩;clear p7;replace st:=st.trans xx;clear xx;go_upto_region 2 with fail
 generalize hW2:World.alloc w1 _=W2;obtain ⟨B2,-,x2,-⟩:=aI hW2;replace st:=st.trans x2;clear hW2 x2;go_upto_region 5 with(refine bU _ rfl _ _ 82 rfl 22 (.slice none 0 0) 24 underlying82 Tryz.info_ints rfl c.hours c.hours H rfl rfl HH.o HH.o (ux ND.o HH.o) (ux ND.o HH.o) ?_;intro W0 EK hx0 hz0)
 obtain ⟨E,hE⟩: ∃E,E=W2.heap.size:=⟨_,rfl⟩;rw [<-hE]at EK⊢;have HI:Hid (H_ W2 E H (wT c S p) 0 W0):=⟨hx0,ae,_,aX,EK.o,λj hj=>absurd hj (Nat.not_lt_zero _)⟩;replace HB:=af (HB.o.trans st);replace dY:=af (dY.o.ext st);replace gH:=af (gH.o.ext st);replace iU:=af (iU.o.ext st)
 clear EK hx0 hz0 hE st K K1 K2;have s:=Ext.refl W0;go_wp2
 go_loopw [27] (λii wr=> ∃i:Nat,i<=H/\ii= .int .i64 i/\(nX c S p 0=0->Hg c S p i=0)/\(¬nX c S p 0=0->i=0)/\H_ W2 E H (wT c S p) i wr) (λii _=>H-(intOf ii).toNat)
 case atStart=>exact ⟨0,bm,rfl,λ_=>rfl,λ_=>rfl,HI.o⟩
 case round=>
  clear HI s;obtain ⟨i,hi,rfl,hX,hZ,hI⟩:=hrel;have HI:=af hI;have HX:=af hX;have HZ:=af hZ
  clear hI hX hZ;by_cases hlt:i<H
  .have b1:(i:Int)<(H:Int):=Int.ofNat_lt.2 hlt
   have b0:(0:Int)<=(i:Int):=Int.natCast_nonneg i;have Y7:Hid (nX c S p (i:Int)=nX c S p 0):=PY (dB ND.o) (dB HH.o);have K:=λY (e:Ext wr Y)=>aq.at ((dY.o.ext HI.o.ext).ext e);have K1:=λY (e:Ext wr Y)=>((gH.o.ext HI.o.ext).ext e).cs;have K2:=λY (e:Ext wr Y)=>((iU.o.ext HI.o.ext).ext e).cs;replace K1:=gO K1;replace K2:=gO K2;have s:=Ext.refl wr;go_wp2_with fail
   refine (PS.o wr (HB.o.trans HI.o.ext) i).mono ?_;rintro e w3 ⟨hr,x3⟩;rw [Y7.o,Int.toNat_natCast]at hr;replace HI:=af (HI.o.next x3);clear x3 K K1 K2 s;have s:=Ext.refl w3;rcases hr with⟨hz,a,cap,rs,rfl,EG,hrt,ur⟩|⟨hz,rfl⟩
   case inr=>
    have V8:=af hz;have t1:(nX c S p 0 !=0)=true:=by simpa using hz
    have AL:Hid (JN c S p=nX c S p 0):=if_neg hz;clear hz;go_wp2_with fail
    go_ret2
    exact ⟨Or.inr ⟨by rw [AL.o];exact V8.o,by rw [AL.o];rfl⟩,HB.o.trans HI.o.ext⟩
   have Ks:=af hz;have JO:=af (VZ w3 a cap 1000 rs _ hrt cG (Hf Lf.o _ _ _) (Hd _ _ _ _));rw [EG]at JO;clear hz hrt ur EG;go_wp2_with fail
   refine JO.o.mono ?_;rintro e w4 hr;clear JO;rcases hr with⟨hz,b,rfl,hb,Zm,x4⟩|⟨hz,rfl,x4⟩
   case inr=>
    have V8:=af hz;have t1:(IL (mN c S p i) !=0)=true:=by simpa using hz
    have AL:Hid (JN c S p=IL (mN c S p i)):=by
     show _=_;rw [JN,if_pos Ks.o];exact Hj (HX.o Ks.o) hz (dB HH.o)
    replace HI:=af (HI.o.next x4);obtain ⟨v0,kc⟩:=HI.o.cell i hlt;have f3:=λi=>HI.o.frozen i;clear hz x4 s;have s:=Ext.refl w4;go_wp2_with fail
    go_ret2
    exact ⟨Or.inr ⟨by rw [AL.o];exact V8.o,by rw [AL.o];rfl⟩,HB.o.trans ((aH.refl E w4).nT.ext HI.o.ext HI.o.le)⟩
   have Ma:Hid (Hg c S p (i+1)=0):=by show _=_;rw [Hg,if_pos (HX.o Ks.o)];exact hz
   have tM:Hid (aY w4 b 3 (ju (wT c S p i))/\b≠E):=⟨Zm,dB HI.o.lt⟩;replace HI:=af (HI.o.next x4);obtain ⟨v0,kc⟩:=HI.o.cell i hlt;have f3:=λi=>HI.o.frozen i;have dK:=af (HI.o.put hlt tM.o.1 tM.o.2);clear hz x4 s hb Zm;have s:=Ext.refl w4;have EG:Hid ((wT c S p i).length=(kr (mN c S p i)).length):=rfl;rw [EG.o]at dK;go_wp2
   exact ⟨⟨i+1,hlt,bq,λ_=>Ma.o,λq=>absurd Ks.o q,dK.o⟩,bz⟩
  .obtain rfl:i=H:=ae
   clear hlt hi;have s:=Ext.refl wr
   have Ks:Hid (nX c S p 0=0):=by
    show _=_;by_cases q:nX c S p 0=0
    .exact q
    .have:=HZ.o q;have:=ND.o;have:=HH.o;omega
   have AL:Hid (JN c S p=0/\c.hours.toNat=i):=by
    have h1:c.hours.toNat=i:=dB HH.o;exact ⟨by rw [JN,if_pos Ks.o,h1];exact HX.o Ks.o,h1⟩
   go_wp2_with fail
   go_ret2
   exact ⟨Or.inl ⟨AL.o.1,some ⟨E,0,none⟩,_,by rw [AL.o.2];rfl,by rw [AL.o.2];exact HI.o.rows⟩,HB.o.trans HI.o.ext⟩
