/- Texts of the proof. -/
import Derived.Test.YtfokdakioeoniaaGreatCj16
import Derived.Test.YtfokdakioeoniaaGreatCj22
set_option linter.all false
set_option maxRecDepth 100000
namespace Go.Proofs.YtfokdakioeoniaaGreat
open Go.Proofs.Tryz
open Go.RowKit
def nd (e:Int) (ok:Bool) (code:Int):Int:=if e=0/\ok=false then code else e
theorem fZ {e:Int} (h:e≠0) (ok:Bool) (code:Int):nd e ok code=e:=by unfold nd;rw [if_neg (λh'=>h h'.1)]
theorem jK (e code:Int):nd e true code=e:=by unfold nd;rw [if_neg (λh=>by cases h.2)]
theorem FR (code:Int):nd 0 false code=code:=by unfold nd;rw [if_pos ⟨rfl,rfl⟩]
theorem qj (e:Int) (a b:Bool) (code:Int) (hc:code≠0):nd (nd e a code) b code=nd e (a&&b) code:=by
 by_cases h:e=0
 .subst h
  cases a with
  |true=>rw [jK,Bool.true_and]
  |false=>rw [FR,fZ hc,Bool.false_and,FR]
 .rw [fZ h,fZ h,fZ h]
def FE (w:World) (K:Nat) (e:Int):Prop:= ∃k i f,S8 w K ⟨k,i,f,e⟩
theorem FE.ext {w w':World} {K:Nat} {e:Int} (h:FE w K e) (x:Ext w w'):FE w' K e:=by
 obtain ⟨k,i,f,h⟩:=h;exact ⟨k,i,f,h.ext x⟩
theorem FE.alloc {w:World} {K:Nat} {e:Int} (h:FE w K e) (o:Obj):FE (w.alloc o) K e:=h.ext (ah.alloc _)
theorem FE.lt {w:World} {K:Nat} {e:Int} (h:FE w K e):K<w.heap.size:=by obtain ⟨k,i,f,h⟩:=h;exact h.lt
theorem FE.cell {w:World} {K:Nat} {e:Int} (h:FE w K e):w.cell? ⟨K,3,none⟩=some (i64 e):=by
 obtain ⟨k,i,f,h⟩:=h;exact (Kk h).2.2.2.1
def vS (V:World) (K:Nat) (x:Int) (e:Ending) (w':World):Prop:=e= .returned (.tuple #[])/\FE w' K x/\aH K V w'
theorem d_ (V:World) (K:Nat) (e:Int) (ok:Bool) (kind idx field code:Int) (h:FE V K e):
 Calls prog 116 #[.pointer (some ⟨K,0,none⟩),.bool ok,i64 kind,i64 idx,i64 field,i64 code] V λe' w'=>vS V K (nd e ok code) e' w':=by
 obtain ⟨k,i,f,h⟩:=h;refine (UR V K _ ok kind idx field code h).mono ?_;rintro e' w' ⟨h1,h2,h3⟩;refine ⟨h1,?_,h3⟩;unfold St.found at h2;unfold nd;split at h2
 .rename_i hq;rw [if_pos hq];exact ⟨_,_,_,h2⟩
 .rename_i hq;rw [if_neg hq];exact ⟨_,_,_,h2⟩
theorem FE.but {w w':World} {K:Nat} {e:Int} {b:Nat} (h:FE w K e) (x:aH b w w') (hb:K≠b):FE w' K e:=by
 obtain ⟨k,i,f,h⟩:=h;have hl:=h.lt;refine ⟨k,i,f,?_⟩;unfold S8 aY at*;rw [x.block K hl hb];exact h
theorem aH.alloc' {b:Nat} {w w':World} (h:aH b w w') (o:Obj):aH b w (w'.alloc o):=h.trans (((Ext.refl w').alloc o).but b)
theorem bV.one (W:World) (x:Int) (hx:dx x):bV (W.alloc (.cells #[i64 x] 3)) (some ⟨W.heap.size,0,none⟩) 1 [x]:=
 ⟨aX,ae,λi hi=>⟨W.heap.size,0,rfl,by
   have h0:i=0:=by simpa using hi
   subst h0;exact (aY.alloc W 3 [i64 x]).cell 0⟩,λi hi=>by
   have h0:i=0:=by simpa using hi
   subst h0;unfold dx at hx;simp only [List.getElem_cons_zero];omega⟩
theorem FT (W:World) (x lo hi:Int) (hx:dx x):
 Calls prog 117 #[i64 lo,i64 hi,.slice (some ⟨W.heap.size,0,none⟩) 1 1] (W.alloc (.cells #[i64 x] 3)) λe w'=>e= .returned (.bool (cJ lo hi [x]))/\w'=W.alloc (.cells #[i64 x] 3):=
 dH _ lo hi _ 1 [x] (bV.one W x hx)
theorem IQ (n d:Int):(cJ 1 1048576 [d]&&cJ (-1048576) 1048576 [n])=jX n d:=by
 unfold cJ jX;simp [Bool.and_assoc]
theorem mX (w:World) (n d:Int) (hn:dx n) (hd:dx d):
 Calls prog 207 #[.agg #[i64 n,i64 d]] w λe w'=>e= .returned (.bool (jX n d))/\Ext w w':=by
 have HB:=af (IQ n d);have H1:=af (λW=>FT W d 1 1048576 hd);have H2:=af (λW=>FT W n (-1048576) 1048576 hn);clear hn hd;obtain ⟨W,hW,x0,Z0,A0⟩:=bS w 116 [i64 n,i64 d];have Wq:Hid (w.alloc (.cells #[i64 n,i64 d] 116)=W):=hW.symm;have HX:=af x0;have f0:W.cell? ⟨w.heap.size,0,none⟩=some (i64 n):=(A0.cell 0).trans rfl;have f1:W.cell? ⟨w.heap.size,1,none⟩=some (i64 d):=(A0.cell 1).trans rfl;clear hW x0 Z0;obtain ⟨B,hB⟩: ∃B,B=w.heap.size:=⟨_,rfl⟩;rw [<-hB]at f0 f1;have g0:(W.alloc (.cells #[i64 d] 3)).cell? ⟨B,0,none⟩=some (i64 n):=aB (ah.alloc _) f0;clear A0;cases d1:cJ 1 1048576 [d]with
 |false=>
  have HV:Hid (jX n d=false):=by show _=_;rw [<-HB.o,d1];rfl
  rw [d1]at H1;clear d1;go_enter func207,ntmps207
  go_upto_region 1 with fail
  rw [Wq.o,<-hB];clear hB;go_wp2_with fail
  refine (H1.o _).mono ?_;rintro e w1 ⟨rfl,rfl⟩;go_wp2
  go_ret;exact ⟨by rw [HV.o];rfl,HX.o.alloc _⟩
 |true=>
  have HV:Hid (jX n d=cJ (-1048576) 1048576 [n]):=by show _=_;rw [<-HB.o,d1];rfl
  rw [d1]at H1;clear d1;go_enter func207,ntmps207
  go_upto_region 1 with fail
  rw [Wq.o,<-hB];clear hB;go_wp2_with fail
  refine (H1.o _).mono ?_;rintro e w1 ⟨rfl,rfl⟩;obtain ⟨W2,hW2,x2,Z2,-⟩:=bS W 3 [i64 d];have g1:W2.cell? ⟨B,0,none⟩=some (i64 n):=aB x2 f0;rw [show W.alloc (.cells #[i64 d] 3)=W2 from hW2.symm];have kz:=af (HX.o.trans x2);clear g0 f0 f1 hW2 x2 Z2;go_wp2_with fail
  refine (H2.o _).mono ?_;rintro e w1 ⟨rfl,rfl⟩;go_wp2
  go_ret;exact ⟨by rw [HV.o];rfl,kz.o.alloc _⟩
def vT (e:Int) (c:aq) (i:Int):Int:=nd e (cJ 0 ((c.ar.length:Int)-1) [i]) 12
def jq (e:Int) (c:aq) (l:List Int) (lo hi:Int):Int:=nd (nd e (decide ((l.length:Int)=c.hours)) 4) (cJ lo hi l) 3
def tG (e:Int) (c:aq) (l:List Int):Int:=nd (nd e (cJ 0 (IntKind.i64.wrap (c.hours-1)) l) 3) (lr l) 11
theorem aq.at {w:World} {B:Nat} {T:TypeId} {c:aq} (h:aY w B T c.cells):w.cell? ⟨B,0,none⟩=some (i64 c.hours)/\w.cell? ⟨B,1,none⟩=some (.slice c.ra c.bC.length c.rc)/\w.cell? ⟨B,2,none⟩=some (.slice c.ba c.ar.length c.bc)/\w.cell? ⟨B,3,none⟩=some (.slice c.la c.lines.length c.lc)/\w.cell? ⟨B,4,none⟩=some (.slice c.ua c.ay.length c.uc)/\w.cell? ⟨B,5,none⟩=some (.slice c.sa c.stores.length c.sc)/\w.cell? ⟨B,6,none⟩=some (.slice c.ta c.bF.length c.tc)/\w.cell? ⟨B,7,none⟩=some (.slice c.oa c.outs.length c.oc):=
 ⟨(h.cell 0).trans rfl,(h.cell 1).trans rfl,(h.cell 2).trans rfl,(h.cell 3).trans rfl,(h.cell 4).trans rfl,(h.cell 5).trans rfl,(h.cell 6).trans rfl,(h.cell 7).trans rfl⟩
theorem yN (w0 V:World) (K:Nat) (c:aq) (e:Int) (i kind idx field:Int) (hV:Ext w0 V) (hc:bK w0 c) (hi:dx i) (h:FE V K e):
 Calls prog 206 #[.pointer (some ⟨K,0,none⟩),.agg (C8 c),i64 i,i64 kind,i64 idx,i64 field] V λe' w'=>vS V K (vT e c i) e' w':=by
 try unfold C8
 have hle:=hc.ar.le;have eI:=hc.ar.cap
 rw [List.length_map]at hle;have HH:=af h;have HB:=af (λW=>FT W i 0 ((c.ar.length:Int)-1) hi);have b0:(0:Int)<=(c.ar.length:Int):=ae;have b1:(c.ar.length:Int)<=9223372036854775807:=ae;have hw:IntKind.i64.wrap ((c.ar.length:Int)-1)=(c.ar.length:Int)-1:=nY;unfold vT;clear hc hi h hV hle eI;go_enter func206,ntmps206
 go_upto_region 1 with fail
 obtain ⟨W,hW,x0,Z0,A0⟩:=bS V 30 c.cells;rw [show V.alloc (.cells (C8 c) 30)=W from hW.symm];clear hW;have HF:=af (HH.o.ext x0);obtain ⟨-,-,c2,-⟩:=aq.at A0;have HX:=af (x0.but K);clear Z0 x0;clear A0;go_wp2_with fail
 refine (HB.o _).mono ?_;rintro e w1 ⟨rfl,rfl⟩;go_wp2_with fail
 refine (d_ _ K _ _ _ _ _ _ (HF.o.alloc _)).mono ?_;rintro e w1 ⟨rfl,hf,hx⟩;go_wp2
 exact bodyPost_end (v:= .tuple #[]) aw rfl ⟨rfl,hf,(HX.o.alloc' _).trans hx⟩
theorem FU (w0 V:World) (K:Nat) (c:aq) (e:Int) (a:Option Addr) (cc:Nat) (l:List Int) (kind idx field:Int) (hK:w0.heap.size<=K) (hV:Ext w0 V) (hl:bV w0 a cc l) (h:FE V K e):
 Calls prog 208 #[.pointer (some ⟨K,0,none⟩),.agg (C8 c),.slice a l.length cc,i64 kind,i64 idx,i64 field] V λe' w'=>vS V K (tG e c l) e' w':=by
 try unfold C8
 have HH:=af h;have HL:=af hl;have HV:=af hV;have eQ:=af hK
 unfold tG;obtain ⟨H1,hH1⟩: ∃H1,IntKind.i64.wrap (c.hours-1)=H1:=⟨_,rfl⟩;rw [hH1];clear h hV hl hK;go_enter func208,ntmps208
 go_upto_region 1 with fail
 obtain ⟨W,hW,x0,Z0,A0⟩:=bS V 30 c.cells;rw [show V.alloc (.cells (C8 c) 30)=W from hW.symm];clear hW;have HF:=af (HH.o.ext x0);obtain ⟨c0,-⟩:=aq.at A0;have HX:=af (x0.but K);have HE:=af (HV.o.trans x0)
 clear Z0 x0;clear A0;go_wp2_with fail
 refine (dH _ _ _ a cc l (HL.o.ext HE.o)).mono ?_;rintro e w1 ⟨rfl,rfl⟩;go_wp2_with fail
 refine (d_ _ K _ _ _ _ _ _ HF.o).mono ?_;rintro e w1 ⟨rfl,hf,hx⟩;have kH:=af (hx.ext HE.o eQ.o);have Cn:=af hf;have jZ:=af (HX.o.trans hx)
 clear hf hx c0;go_wp2_with fail
 refine (nz _ a cc l (HL.o.ext kH.o)).mono ?_;rintro e w2 ⟨rfl,x2⟩;go_wp2_with fail
 refine (d_ _ K _ _ _ _ _ _ (Cn.o.ext x2)).mono ?_;rintro e w3 ⟨rfl,hf3,hx3⟩;go_wp2
 exact bodyPost_end (v:= .tuple #[]) aw rfl ⟨rfl,hf3,(jZ.o.trans (x2.but K)).trans hx3⟩
theorem ug (w0 V:World) (K:Nat) (c:aq) (e:Int) (a:Option Addr) (cc:Nat) (l:List Int) (lo hi kind idx field:Int) (hK:w0.heap.size<=K) (hV:Ext w0 V) (hl:bV w0 a cc l) (h:FE V K e):
 Calls prog 115 #[.pointer (some ⟨K,0,none⟩),.agg (C8 c),.slice a l.length cc,i64 lo,i64 hi,i64 kind,i64 idx,i64 field] V λe' w'=>vS V K (jq e c l lo hi) e' w':=by
 try unfold C8
 have hle:=hl.le;have eI:=hl.cap
 have HH:=af h;have HL:=af hl;have HV:=af hV;have eQ:=af hK
 have hq:((l.length:Int)==c.hours)=decide ((l.length:Int)=c.hours):=by rw [Bool.eq_iff_iff];simp
 unfold jq;rw [<-hq];clear h hV hl hK hq;go_enter func115,ntmps115
 go_upto_region 1 with fail
 obtain ⟨W,hW,x0,Z0,A0⟩:=bS V 30 c.cells;rw [show V.alloc (.cells (C8 c) 30)=W from hW.symm];clear hW;have HF:=af (HH.o.ext x0);obtain ⟨c0,-⟩:=aq.at A0;have HX:=af (x0.but K);have HE:=af (HV.o.trans x0)
 clear Z0 x0;clear A0;go_wp2_with fail
 refine (d_ _ K _ _ _ _ _ _ HF.o).mono ?_;rintro e w1 ⟨rfl,hf,hx⟩;have kH:=af (hx.ext HE.o eQ.o);have Cn:=af hf;have jZ:=af (HX.o.trans hx)
 clear hf hx c0;go_wp2_with fail
 refine (dH _ _ _ a cc l (HL.o.ext kH.o)).mono ?_;rintro e w2 ⟨rfl,rfl⟩;go_wp2_with fail
 refine (d_ _ K _ _ _ _ _ _ Cn.o).mono ?_;rintro e w3 ⟨rfl,hf3,hx3⟩;go_wp2
 exact bodyPost_end (v:= .tuple #[]) aw rfl ⟨rfl,hf3,jZ.o.trans hx3⟩
