/- Texts of the proof. -/
import Derived.Test.YtkpngkdgphojlaaGreatCd2
set_option linter.all false
set_option maxHeartbeats 1000000
set_option maxRecDepth 100000
namespace Go.Proofs.YtkpngkdgphojlaaGreat
open Go.Proofs.Tryz
open Go.RowKit
def nd (e:Int) (ok:Bool) (code:Int):Int:=if e=0∧ok=false then code else e
theorem ee {e:Int} (h:e≠0) (ok:Bool) (code:Int):nd e ok code=e:=by unfold nd;rw [if_neg (fun h'=>h h'.1)]
theorem bI (e code:Int):nd e true code=e:=by unfold nd;rw [if_neg (fun h=>by cases h.2)]
theorem Al (code:Int):nd 0 false code=code:=by unfold nd;rw [if_pos ⟨rfl,rfl⟩]
theorem mI (e:Int) (a b:Bool) (code:Int) (hc:code≠0):nd (nd e a code) b code=nd e (a&&b) code:=by
 by_cases h:e=0
 ·subst h
  cases a with
  |true=>rw [bI,Bool.true_and]
  |false=>rw [Al,ee hc,Bool.false_and,Al]
 ·rw [ee h,ee h,ee h]
def FE (w:World) (K:Nat) (e:Int):Prop:= ∃k i f,Mb w K ⟨k,i,f,e⟩
theorem FE.ext {w w':World} {K:Nat} {e:Int} (h:FE w K e) (x:Ext w w'):FE w' K e:=by
 obtain ⟨k,i,f,h⟩:=h;exact ⟨k,i,f,h.ext x⟩
theorem FE.alloc {w:World} {K:Nat} {e:Int} (h:FE w K e) (o:Obj):FE (w.alloc o) K e:=h.ext ((Ext.refl _).alloc _)
theorem FE.lt {w:World} {K:Nat} {e:Int} (h:FE w K e):K<w.heap.size:=by obtain ⟨k,i,f,h⟩:=h;exact h.lt
theorem FE.cell {w:World} {K:Nat} {e:Int} (h:FE w K e):w.cell? ⟨K,3,none⟩=some (i64 e):=by
 obtain ⟨k,i,f,h⟩:=h;exact (Ed h).2.2.2.1
def qT (V:World) (K:Nat) (x:Int) (e:Ending) (w':World):Prop:=e= .returned (.tuple #[])∧FE w' K x∧ar K V w'
theorem cf (V:World) (K:Nat) (e:Int) (ok:Bool) (kind idx field code:Int) (h:FE V K e):
 Calls prog 55 #[.pointer (some ⟨K,0,none⟩),.bool ok,i64 kind,i64 idx,i64 field,i64 code] V fun e' w'=>qT V K (nd e ok code) e' w':=by
 obtain ⟨k,i,f,h⟩:=h;refine (Ng V K _ ok kind idx field code h).mono ?_;rintro e' w' ⟨h1,h2,h3⟩;refine ⟨h1,?_,h3⟩;unfold St.found at h2;unfold nd;split at h2
 ·rename_i hq;rw [if_pos hq];exact ⟨_,_,_,h2⟩
 ·rename_i hq;rw [if_neg hq];exact ⟨_,_,_,h2⟩
theorem FE.but {w w':World} {K:Nat} {e:Int} {b:Nat} (h:FE w K e) (x:ar b w w') (hb:K≠b):FE w' K e:=by
 obtain ⟨k,i,f,h⟩:=h;have hl:=h.lt;refine ⟨k,i,f,?_⟩;unfold Mb aJ at*;rw [x.block K hl hb];exact h
theorem aJ.alloc' {w:World} {b:Nat} {T:TypeId} {vs:List Value} (h:aJ w b T vs) (o:Obj):aJ (w.alloc o) b T vs:=h.ext ((Ext.refl _).alloc _)
theorem ar.alloc' {b:Nat} {w w':World} (h:ar b w w') (o:Obj):ar b w (w'.alloc o):=h.trans (((Ext.refl w').alloc o).but b)
theorem aD.one (W:World) (x:Int) (hx:bp x):aD (W.alloc (.cells #[i64 x] 3)) (some ⟨W.heap.size,0,none⟩) 1 [x]:=
 ⟨by simp,by omega,fun i hi=>⟨W.heap.size,0,rfl,by
     have h0:i=0:=by simpa using hi
     subst h0;exact (aJ.alloc W 3 [i64 x]).cell 0⟩,fun i hi=>by
     have h0:i=0:=by simpa using hi
     subst h0;unfold bp at hx;simp only [List.getElem_cons_zero];omega⟩
theorem yD (W:World) (x lo hi:Int) (hx:bp x):
 Calls prog 56 #[i64 lo,i64 hi,.slice (some ⟨W.heap.size,0,none⟩) 1 1] (W.alloc (.cells #[i64 x] 3)) fun e w'=>e= .returned (.bool (bk lo hi [x]))∧w'=W.alloc (.cells #[i64 x] 3):=
 eI _ lo hi _ 1 [x] (aD.one W x hx)
theorem CJ (n d:Int):(bk 1 1048576 [d]&&bk (-1048576) 1048576 [n])=eG n d:=by
 unfold bk eG;simp [Bool.and_assoc]
theorem jT (w:World) (n d:Int) (hn:bp n) (hd:bp d):
 Calls prog 99 #[.agg #[i64 n,i64 d]] w fun e w'=>e= .returned (.bool (eG n d))∧Ext w w':=by
 have HB:=ae (CJ n d);have H1:=ae (fun W=>yD W d 1 1048576 hd);have H2:=ae (fun W=>yD W n (-1048576) 1048576 hn);clear hn hd;obtain ⟨W,hW,x0,Z0,A0⟩:=aH w 76 [i64 n,i64 d];have Py:Hid (w.alloc (.cells #[i64 n,i64 d] 76)=W):=hW.symm;have HX:=ae x0;have f0:W.cell? ⟨w.heap.size,0,none⟩=some (i64 n):=(A0.cell 0).trans rfl;have f1:W.cell? ⟨w.heap.size,1,none⟩=some (i64 d):=(A0.cell 1).trans rfl;clear hW x0 Z0;obtain ⟨B,hB⟩: ∃B,B=w.heap.size:=⟨_,rfl⟩;rw [←hB]at f0 f1;have g0:(W.alloc (.cells #[i64 d] 3)).cell? ⟨B,0,none⟩=some (i64 n):=aj ((Ext.refl _).alloc _) f0;clear A0;cases d1:bk 1 1048576 [d]with
 |false=>
  have HV:Hid (eG n d=false):=by show _=_;rw [←HB.o,d1];rfl
  rw [d1]at H1;clear d1;go_enter func99,ntmps99
  go_upto_region 1 with fail
  rw [Py.o,←hB];clear hB;go_wp2_with fail
  refine (H1.o _).mono ?_;rintro e w1 ⟨rfl,rfl⟩;go_wp2_with fail
  go_ret;exact ⟨by rw [HV.o];rfl,HX.o.alloc _⟩
 |true=>
  have HV:Hid (eG n d=bk (-1048576) 1048576 [n]):=by show _=_;rw [←HB.o,d1];rfl
  rw [d1]at H1;clear d1;go_enter func99,ntmps99
  go_upto_region 1 with fail
  rw [Py.o,←hB];clear hB;go_wp2_with fail
  refine (H1.o _).mono ?_;rintro e w1 ⟨rfl,rfl⟩;obtain ⟨W2,hW2,x2,Z2,-⟩:=aH W 3 [i64 d];have g1:W2.cell? ⟨B,0,none⟩=some (i64 n):=aj x2 f0;rw [show W.alloc (.cells #[i64 d] 3)=W2 from hW2.symm];have fg:=ae (HX.o.trans x2);clear g0 f0 f1 hW2 x2 Z2;go_wp2_with fail
  refine (H2.o _).mono ?_;rintro e w1 ⟨rfl,rfl⟩;go_wp2_with fail
  go_ret;exact ⟨by rw [HV.o];rfl,fg.o.alloc _⟩
def oT (e:Int) (c:ai) (i:Int):Int:=nd e (bk 0 ((c.ak.length:Int)-1) [i]) 12
def fl (e:Int) (c:ai) (l:List Int) (lo hi:Int):Int:=nd (nd e (decide ((l.length:Int)=c.hours)) 4) (bk lo hi l) 3
def mJ (e:Int) (c:ai) (l:List Int):Int:=nd (nd e (bk 0 (IntKind.i64.wrap (c.hours-1)) l) 3) (g_ l) 11
theorem ai.at {w:World} {B:Nat} {T:TypeId} {c:ai} (h:aJ w B T c.cells):w.cell? ⟨B,0,none⟩=some (i64 c.hours)∧w.cell? ⟨B,1,none⟩=some (.slice c.ra c.aV.length c.rc)∧w.cell? ⟨B,2,none⟩=some (.slice c.ba c.ak.length c.bc)∧w.cell? ⟨B,3,none⟩=some (.slice c.la c.lines.length c.lc)∧w.cell? ⟨B,4,none⟩=some (.slice c.ua c.au.length c.uc)∧w.cell? ⟨B,5,none⟩=some (.slice c.sa c.stores.length c.sc)∧w.cell? ⟨B,6,none⟩=some (.slice c.ta c.aL.length c.tc)∧w.cell? ⟨B,7,none⟩=some (.slice c.oa c.outs.length c.oc):=
 ⟨(h.cell 0).trans rfl,(h.cell 1).trans rfl,(h.cell 2).trans rfl,(h.cell 3).trans rfl,(h.cell 4).trans rfl,(h.cell 5).trans rfl,(h.cell 6).trans rfl,(h.cell 7).trans rfl⟩
theorem tP (w0 V:World) (K:Nat) (c:ai) (e:Int) (i kind idx field:Int) (hV:Ext w0 V) (hc:aS w0 c) (hi:bp i) (h:FE V K e):
 Calls prog 98 #[.pointer (some ⟨K,0,none⟩),.agg (C8 c),i64 i,i64 kind,i64 idx,i64 field] V fun e' w'=>qT V K (oT e c i) e' w':=by
 try unfold C8
 have hle:=hc.ak.le;have dy:=hc.ak.cap
 rw [List.length_map]at hle;have HH:=ae h;have HB:=ae (fun W=>yD W i 0 ((c.ak.length:Int)-1) hi);have b0:(0:Int)≤(c.ak.length:Int):=by omega
 have b1:(c.ak.length:Int)≤9223372036854775807:=by omega
 have hw:IntKind.i64.wrap ((c.ak.length:Int)-1)=(c.ak.length:Int)-1:=by rw [IntKind.wrap_i64];omega
 unfold oT;clear hc hi h hV hle dy;go_enter func98,ntmps98
 go_upto_region 1 with fail
 obtain ⟨W,hW,x0,Z0,A0⟩:=aH V 32 c.cells;rw [show V.alloc (.cells (C8 c) 32)=W from hW.symm];clear hW;have HF:=ae (HH.o.ext x0);obtain ⟨-,-,c2,-⟩:=ai.at A0;have HX:=ae (x0.but K);clear Z0 x0;clear A0;go_wp2_with fail
 refine (HB.o _).mono ?_;rintro e w1 ⟨rfl,rfl⟩;go_wp2_with fail
 refine (cf _ K _ _ _ _ _ _ (HF.o.alloc _)).mono ?_;rintro e w1 ⟨rfl,hf,hx⟩;go_wp2_with fail
 exact bodyPost_end (v:= .tuple #[]) (by simp [results,results98,go_sem]) rfl ⟨rfl,hf,(HX.o.alloc' _).trans hx⟩
theorem Am (w0 V:World) (K:Nat) (c:ai) (e:Int) (a:Option Addr) (cc:Nat) (l:List Int) (kind idx field:Int) (hK:w0.heap.size≤K) (hV:Ext w0 V) (hl:aD w0 a cc l) (h:FE V K e):
 Calls prog 100 #[.pointer (some ⟨K,0,none⟩),.agg (C8 c),.slice a l.length cc,i64 kind,i64 idx,i64 field] V fun e' w'=>qT V K (mJ e c l) e' w':=by
 try unfold C8
 have HH:=ae h;have HL:=ae hl;have HV:=ae hV;have cX:=ae hK
 unfold mJ;obtain ⟨H1,Vy⟩: ∃H1,IntKind.i64.wrap (c.hours-1)=H1:=⟨_,rfl⟩;rw [Vy];clear h hV hl hK;go_enter func100,ntmps100
 go_upto_region 1 with fail
 obtain ⟨W,hW,x0,Z0,A0⟩:=aH V 32 c.cells;rw [show V.alloc (.cells (C8 c) 32)=W from hW.symm];clear hW;have HF:=ae (HH.o.ext x0);obtain ⟨c0,-⟩:=ai.at A0;have HX:=ae (x0.but K);have HE:=ae (HV.o.trans x0)
 clear Z0 x0;clear A0;go_wp2_with fail
 refine (eI _ _ _ a cc l (HL.o.ext HE.o)).mono ?_;rintro e w1 ⟨rfl,rfl⟩;go_wp2_with fail
 refine (cf _ K _ _ _ _ _ _ HF.o).mono ?_;rintro e w1 ⟨rfl,hf,hx⟩;have kX:=ae (hx.ext HE.o cX.o);have sj:=ae hf;have fJ:=ae (HX.o.trans hx)
 clear hf hx c0;go_wp2_with fail
 refine (oQ _ a cc l (HL.o.ext kX.o)).mono ?_;rintro e w2 ⟨rfl,x2⟩;go_wp2_with fail
 refine (cf _ K _ _ _ _ _ _ (sj.o.ext x2)).mono ?_;rintro e w3 ⟨rfl,hf3,hx3⟩;go_wp2_with fail
 exact bodyPost_end (v:= .tuple #[]) (by simp [results,results100,go_sem]) rfl ⟨rfl,hf3,(fJ.o.trans (x2.but K)).trans hx3⟩
theorem oU (w0 V:World) (K:Nat) (c:ai) (e:Int) (a:Option Addr) (cc:Nat) (l:List Int) (lo hi kind idx field:Int) (hK:w0.heap.size≤K) (hV:Ext w0 V) (hl:aD w0 a cc l) (h:FE V K e):
 Calls prog 54 #[.pointer (some ⟨K,0,none⟩),.agg (C8 c),.slice a l.length cc,i64 lo,i64 hi,i64 kind,i64 idx,i64 field] V fun e' w'=>qT V K (fl e c l lo hi) e' w':=by
 try unfold C8
 have hle:=hl.le;have dy:=hl.cap
 have HH:=ae h;have HL:=ae hl;have HV:=ae hV;have cX:=ae hK
 have hq:((l.length:Int)==c.hours)=decide ((l.length:Int)=c.hours):=by rw [Bool.eq_iff_iff];simp
 unfold fl;rw [←hq];clear h hV hl hK hq;go_enter func54,ntmps54
 go_upto_region 1 with fail
 obtain ⟨W,hW,x0,Z0,A0⟩:=aH V 32 c.cells;rw [show V.alloc (.cells (C8 c) 32)=W from hW.symm];clear hW;have HF:=ae (HH.o.ext x0);obtain ⟨c0,-⟩:=ai.at A0;have HX:=ae (x0.but K);have HE:=ae (HV.o.trans x0)
 clear Z0 x0;clear A0;go_wp2_with fail
 refine (cf _ K _ _ _ _ _ _ HF.o).mono ?_;rintro e w1 ⟨rfl,hf,hx⟩;have kX:=ae (hx.ext HE.o cX.o);have sj:=ae hf;have fJ:=ae (HX.o.trans hx)
 clear hf hx c0;go_wp2_with fail
 refine (eI _ _ _ a cc l (HL.o.ext kX.o)).mono ?_;rintro e w2 ⟨rfl,rfl⟩;go_wp2_with fail
 refine (cf _ K _ _ _ _ _ _ sj.o).mono ?_;rintro e w3 ⟨rfl,hf3,hx3⟩;go_wp2_with fail
 exact bodyPost_end (v:= .tuple #[]) (by simp [results,results54,go_sem]) rfl ⟨rfl,hf3,fJ.o.trans hx3⟩
def dz (s:ByteArray) (i:Nat):Nat:=if h:i<s.size then s[i].toNat else 0
theorem qU (s:ByteArray) (i:Nat) (h:i<s.size):dz s i=s[i].toNat:=dif_pos h
def ja (x:Nat):Bool:=decide (97≤x)&&decide (x≤122)
def okB (x:Nat):Bool:=ja x||(decide (48≤x)&&decide (x≤57))||decide (x=95)
def dh (s:ByteArray):Bool:=decide (1≤s.size)&&decide (s.size≤16)&& !(s.toList== [99,111,114,114,101,99,116,105,118,101])&&ja (dz s 0)&&(List.range s.size).all fun i=>okB (dz s i)
theorem xr {x:Nat} (h:(x<97∨122<x)∧(x<48∨57<x)∧x≠95):okB x=false:=by
 unfold okB ja;simp only [Bool.or_eq_false_iff,Bool.and_eq_false_iff,decide_eq_false_iff_not];omega
theorem Ao {x:Nat} (h: ¬((x<97∨122<x)∧(x<48∨57<x)∧x≠95)):okB x=true:=by
 unfold okB ja;simp only [Bool.or_eq_true,Bool.and_eq_true,decide_eq_true_eq];omega
theorem Hc {x:Nat} (h:ja x=true):okB x=true:=by unfold okB;rw [h];rfl
theorem xt {s:ByteArray} {i:Nat} (hi:i<s.size) (h:okB (dz s i)=false):dh s=false:=by
 unfold dh
 have:(List.range s.size).all (fun i=>okB (dz s i))=false:=by
  rw [List.all_eq_false];exact ⟨i,List.mem_range.2 hi,by rw [h];decide⟩
 rw [this,Bool.and_false]
theorem oV {s:ByteArray} (h1:1≤s.size) (h2:s.size≤16) (h3:(s.toList== [99,111,114,114,101,99,116,105,118,101])=false) (h4:ja (dz s 0)=true) (h5: ∀j,j<s.size→okB (dz s j)=true):dh s=true:=by
 unfold dh;rw [h3,h4,List.all_eq_true.2 (fun j hj=>h5 j (List.mem_range.1 hj))];simp [h1,h2]
theorem KH (w:World) (s:ByteArray) (hs:s.size≤maxLen):
 Calls prog 181 #[.string s] w fun e w'=>e= .returned (.bool (dh s))∧w'=w:=by
 unfold maxLen at hs;by_cases h1:1≤s.size
 rotate_left
 ·have d1:decide ((s.size:Int)<1)=true:=by simp;omega
  have hn:dh s=false:=by unfold dh;simp [h1]
  rw [hn];clear hn;go_enter func181,ntmps181
  go_wp2_with fail
  go_ret;exact ⟨rfl,rfl⟩
 have d1:decide ((s.size:Int)<1)=false:=by simp;omega
 by_cases h2:s.size≤16
 rotate_left
 ·have d2:decide ((16:Int)<(s.size:Int))=true:=by simp;omega
  have hn:dh s=false:=by unfold dh;simp [h2]
  rw [hn];clear hn;go_enter func181,ntmps181
  go_wp2_with fail
  go_ret;exact ⟨rfl,rfl⟩
 have d2:decide ((16:Int)<(s.size:Int))=false:=by simp;omega
 cases d3:(s.toList== [99,111,114,114,101,99,116,105,118,101])with
 |true=>
  have hn:dh s=false:=by unfold dh;rw [d3];simp
  rw [hn];clear hn;go_enter func181,ntmps181
  go_wp2_with fail
  go_ret;exact ⟨rfl,rfl⟩
 |false=>
  have z0:0<s.size:=by omega
  have e0:=qU s 0 z0;by_cases h4:ja (dz s 0)=true
  rotate_left
  ·have hn:dh s=false:=by unfold dh;simp [h4]
   rw [hn];rw [e0]at h4;unfold ja at h4
   have hq:decide (((s[0].toNat:Nat):Int)<97)=true∨(decide (((s[0].toNat:Nat):Int)<97)=false∧decide ((122:Int)<((s[0].toNat:Nat):Int))=true):=by
    simp at h4⊢;omega
   clear hn h4 e0;rcases hq with q1|⟨q1,q2⟩
   ·go_enter func181,ntmps181
    go_wp2_with fail
    go_ret;exact ⟨rfl,rfl⟩
   ·go_enter func181,ntmps181
    go_wp2_with fail
    go_ret;exact ⟨rfl,rfl⟩
  have Vz:=ae h4;rw [e0]at h4;unfold ja at h4;have q1:decide (((s[0].toNat:Nat):Int)<97)=false:=by simp at h4⊢;omega
  have q2:decide ((122:Int)<((s[0].toNat:Nat):Int))=false:=by simp at h4⊢;omega
  clear h4 e0;have Mc:=ae d3;go_enter func181,ntmps181
  go_wp2_with fail
  go_loopw [29] (fun ii wr=> ∃i:Nat,i≤s.size∧wr=w∧(∀j,j<i→okB (dz s j)=true)∧ii= .int .i64 i) (fun ii _=>s.size-(intOf ii).toNat)
  case atStart=>exact ⟨0,Nat.zero_le _,rfl,fun j hj=>absurd hj (Nat.not_lt_zero _),rfl⟩
  case round=>
   obtain ⟨i,hi,rfl,hA,rfl⟩:=hrel;by_cases hlt:i<s.size
   ·have ei:=qU s i hlt
    have HA:=ae hA;have f_:(0:Int)≤(i:Int):=by omega
    have fU:(i:Int)<(s.size:Int):=by omega
    obtain ⟨x,hx⟩: ∃x:Nat,s[i].toNat=x:=⟨_,rfl⟩;rw [hx]at ei;have Md:=ae ei;clear hA ei q1 q2 d1 d2 d3
    have hq:(decide ((x:Int)<97)=false∧decide ((122:Int)<(x:Int))=false)∨(decide ((x:Int)<97)=true∧decide ((x:Int)<48)=true∧((x:Int) !=95)=true)∨(decide ((x:Int)<97)=true∧decide ((x:Int)<48)=false∧decide ((57:Int)<(x:Int))=false)∨(decide ((x:Int)<97)=true∧decide ((x:Int)<48)=false∧decide ((57:Int)<(x:Int))=true∧((x:Int) !=95)=true)∨(decide ((x:Int)<97)=true∧decide ((x:Int)<48)=false∧decide ((57:Int)<(x:Int))=true∧((x:Int) !=95)=false)∨(decide ((x:Int)<97)=false∧decide ((122:Int)<(x:Int))=true∧decide ((x:Int)<48)=false∧decide ((57:Int)<(x:Int))=true∧((x:Int) !=95)=true):=by
     simp only [decide_eq_true_eq,decide_eq_false_iff_not,bne_iff_ne,ne_eq,bne_eq_false_iff_eq];omega
    have kM:okB (dz s i)=okB x:=by rw [Md.o]
    have sk:okB x=true→ ∀j,j<i+1→okB (dz s j)=true:=fun ht j hj=>by
     by_cases oP:j=i
     ·subst oP;rw [Md.o];exact ht
     ·exact HA.o j (by omega)
    have iy:okB x=false→dh s=false:=fun hf=>xt hlt (by rw [Md.o];exact hf);have gf:= @xr x;have gt:= @Ao x;rcases hq with⟨q1,q2⟩|⟨q1,q3,q5⟩|⟨q1,q3,q4⟩|⟨q1,q3,q4,q5⟩|⟨q1,q3,q4,q5⟩|⟨q1,q2,q3,q4,q5⟩
    ·have HN:=ae (sk (gt (by simp only [decide_eq_true_eq,decide_eq_false_iff_not,bne_iff_ne,ne_eq,bne_eq_false_iff_eq]at q1 q2;omega)))
     clear sk iy gf gt kM;go_wp2_with fail
     exact ⟨⟨i+1,by omega,by first|trivial|rfl,HN.o,by go_num⟩,by simp only [intOf];omega⟩
    ·have HN:=ae (iy (gf (by simp only [decide_eq_true_eq,decide_eq_false_iff_not,bne_iff_ne,ne_eq,bne_eq_false_iff_eq]at q1 q3 q5;omega)))
     clear sk iy gf gt kM;go_wp2_with fail
     go_ret;exact ⟨by rw [HN.o];rfl,rfl⟩
    ·have HN:=ae (sk (gt (by simp only [decide_eq_true_eq,decide_eq_false_iff_not,bne_iff_ne,ne_eq,bne_eq_false_iff_eq]at q1 q3 q4;omega)))
     clear sk iy gf gt kM;go_wp2_with fail
     exact ⟨⟨i+1,by omega,by first|trivial|rfl,HN.o,by go_num⟩,by simp only [intOf];omega⟩
    ·have HN:=ae (iy (gf (by simp only [decide_eq_true_eq,decide_eq_false_iff_not,bne_iff_ne,ne_eq,bne_eq_false_iff_eq]at q1 q3 q4 q5;omega)))
     clear sk iy gf gt kM;go_wp2_with fail
     go_ret;exact ⟨by rw [HN.o];rfl,rfl⟩
    ·have HN:=ae (sk (gt (by simp only [decide_eq_true_eq,decide_eq_false_iff_not,bne_iff_ne,ne_eq,bne_eq_false_iff_eq]at q1 q3 q4 q5;omega)))
     clear sk iy gf gt kM;go_wp2_with fail
     exact ⟨⟨i+1,by omega,by first|trivial|rfl,HN.o,by go_num⟩,by simp only [intOf];omega⟩
    ·have HN:=ae (iy (gf (by simp only [decide_eq_true_eq,decide_eq_false_iff_not,bne_iff_ne,ne_eq,bne_eq_false_iff_eq]at q1 q2 q3 q4 q5;omega)))
     clear sk iy gf gt kM;go_wp2_with fail
     go_ret;exact ⟨by rw [HN.o];rfl,rfl⟩
   ·have hn:=oV h1 h2 Mc.o Vz.o (fun j hj=>hA j (by omega))
    clear hA;go_wp2_with fail
    go_ret;exact ⟨by rw [hn];rfl,rfl⟩
theorem Fi {x:Nat} (h:97≤x∧x≤122):ja x=true:=by unfold ja;simp [h.1,h.2]
theorem CK {x:Nat} (h: ¬(97≤x∧x≤122)):ja x=false:=by
 unfold ja;simp only [Bool.and_eq_false_iff,decide_eq_false_iff_not];omega
theorem Fj {s:ByteArray} (h:ja (dz s 0)=false):dh s=false:=by unfold dh;simp [h]
theorem Hd (w:World) (s:ByteArray) (hs:s.size≤maxLen):
 Calls prog 97 #[.string s] w fun e w'=>e= .returned (.bool (dh s))∧w'=w:=by
 unfold maxLen at hs;by_cases h1:1≤s.size
 rotate_left
 ·have d1:decide ((s.size:Int)<1)=true:=by simp;omega
  have hn:dh s=false:=by unfold dh;simp [h1]
  rw [hn];clear hn;go_enter func97,ntmps97
  go_wp2_with fail
  go_ret;exact ⟨rfl,rfl⟩
 have d1:decide ((s.size:Int)<1)=false:=by simp;omega
 by_cases h2:s.size≤16
 rotate_left
 ·have d2:decide ((16:Int)<(s.size:Int))=true:=by simp;omega
  have hn:dh s=false:=by unfold dh;simp [h2]
  rw [hn];clear hn;go_enter func97,ntmps97
  go_wp2_with fail
  go_ret;exact ⟨rfl,rfl⟩
 have d2:decide ((16:Int)<(s.size:Int))=false:=by simp;omega
 cases d3:(s.toList== [99,111,114,114,101,99,116,105,118,101])with
 |true=>
  have hn:dh s=false:=by unfold dh;rw [d3];simp
  rw [hn];clear hn;go_enter func97,ntmps97
  go_wp2_with fail
  go_ret;exact ⟨rfl,rfl⟩
 |false=>
  have Mc:=ae d3;go_enter func97,ntmps97
  go_wp2_with fail
  go_loopw [3] (fun ii wr=> ∃i:Nat,i≤s.size∧wr=w∧(∀j,j<i→okB (dz s j)=true)∧(0<i→ja (dz s 0)=true)∧ii= .int .i64 i) (fun ii _=>s.size-(intOf ii).toNat)
  case atStart=>exact ⟨0,Nat.zero_le _,rfl,fun j hj=>absurd hj (Nat.not_lt_zero _),fun h=>absurd h (Nat.lt_irrefl _),rfl⟩
  case round=>
   obtain ⟨i,hi,rfl,hA,hL,rfl⟩:=hrel;by_cases hlt:i<s.size
   ·have ei:=qU s i hlt
    have HA:=ae hA;have HL:=ae hL
    have f_:(0:Int)≤(i:Int):=by omega
    have fU:(i:Int)<(s.size:Int):=by omega
    obtain ⟨x,hx⟩: ∃x:Nat,s[i].toNat=x:=⟨_,rfl⟩;rw [hx]at ei;have Md:=ae ei;clear hA hL ei d1 d2 d3
    have sk:okB x=true→(i=0→ja x=true)→(∀j,j<i+1→okB (dz s j)=true)∧(0<i+1→ja (dz s 0)=true):=fun ht hl=>⟨fun j hj=>by
     by_cases oP:j=i
     ·subst oP;rw [Md.o];exact ht
     ·exact HA.o j (by omega),fun _=>by
     by_cases h0:i=0
     ·have:=hl h0;subst h0;rw [Md.o];exact this
     ·exact HL.o (by omega)⟩
    have iy:okB x=false→dh s=false:=fun hf=>xt hlt (by rw [Md.o];exact hf);have kY:i=0→ja x=false→dh s=false:=fun h0 hf=>Fj (by subst h0;rw [Md.o];exact hf);have gf:= @xr x;have gt:= @Ao x;have lf:= @CK x;have lt:= @Fi x;cases q1:decide ((97:Int)≤(x:Int))with
    |false=>
     cases q3:((i:Int)==0)with
     |false=>
      cases q4:((x:Int) !=95)with
      |false=>
       have HN:Hid ((∀j,j<i+1→okB (dz s j)=true)∧(0<i+1→ja (dz s 0)=true)):=sk (gt (by have p1:=q1;have p3:=q3;have p4:=q4;simp only [decide_eq_true_eq,decide_eq_false_iff_not,bne_iff_ne,ne_eq,bne_eq_false_iff_eq,beq_iff_eq,beq_eq_false_iff_ne]at p1 p3 p4;omega)) (fun h0=>by first|(exact lt (by have p1:=q1;have p3:=q3;have p4:=q4;simp only [decide_eq_true_eq,decide_eq_false_iff_not,bne_iff_ne,ne_eq,bne_eq_false_iff_eq,beq_iff_eq,beq_eq_false_iff_ne]at p1 p3 p4;omega))|(exfalso;have p1:=q1;have p3:=q3;have p4:=q4;simp only [decide_eq_true_eq,decide_eq_false_iff_not,bne_iff_ne,ne_eq,bne_eq_false_iff_eq,beq_iff_eq,beq_eq_false_iff_ne]at p1 p3 p4;omega));clear sk iy kY gf gt lf lt;go_wp2_with fail
       exact ⟨⟨i+1,by omega,by first|trivial|rfl,HN.o.1,HN.o.2,by go_num⟩,by simp only [intOf];omega⟩
      |true=>
       cases q5:decide ((x:Int)<48)with
       |false=>
        cases q6:decide ((57:Int)<(x:Int))with
        |false=>
         have HN:Hid ((∀j,j<i+1→okB (dz s j)=true)∧(0<i+1→ja (dz s 0)=true)):=sk (gt (by have p1:=q1;have p3:=q3;have p4:=q4;have p5:=q5;have p6:=q6;simp only [decide_eq_true_eq,decide_eq_false_iff_not,bne_iff_ne,ne_eq,bne_eq_false_iff_eq,beq_iff_eq,beq_eq_false_iff_ne]at p1 p3 p4 p5 p6;omega)) (fun h0=>by first|(exact lt (by have p1:=q1;have p3:=q3;have p4:=q4;have p5:=q5;have p6:=q6;simp only [decide_eq_true_eq,decide_eq_false_iff_not,bne_iff_ne,ne_eq,bne_eq_false_iff_eq,beq_iff_eq,beq_eq_false_iff_ne]at p1 p3 p4 p5 p6;omega))|(exfalso;have p1:=q1;have p3:=q3;have p4:=q4;have p5:=q5;have p6:=q6;simp only [decide_eq_true_eq,decide_eq_false_iff_not,bne_iff_ne,ne_eq,bne_eq_false_iff_eq,beq_iff_eq,beq_eq_false_iff_ne]at p1 p3 p4 p5 p6;omega));clear sk iy kY gf gt lf lt;go_wp2_with fail
         exact ⟨⟨i+1,by omega,by first|trivial|rfl,HN.o.1,HN.o.2,by go_num⟩,by simp only [intOf];omega⟩
        |true=>
         have HN:Hid (dh s=false):=iy (gf (by have p1:=q1;have p3:=q3;have p4:=q4;have p5:=q5;have p6:=q6;simp only [decide_eq_true_eq,decide_eq_false_iff_not,bne_iff_ne,ne_eq,bne_eq_false_iff_eq,beq_iff_eq,beq_eq_false_iff_ne]at p1 p3 p4 p5 p6;omega));clear sk iy kY gf gt lf lt;go_wp2_with fail
         go_ret;exact ⟨by rw [HN.o];rfl,rfl⟩
       |true=>
        have HN:Hid (dh s=false):=iy (gf (by have p1:=q1;have p3:=q3;have p4:=q4;have p5:=q5;simp only [decide_eq_true_eq,decide_eq_false_iff_not,bne_iff_ne,ne_eq,bne_eq_false_iff_eq,beq_iff_eq,beq_eq_false_iff_ne]at p1 p3 p4 p5;omega));clear sk iy kY gf gt lf lt;go_wp2_with fail
        go_ret;exact ⟨by rw [HN.o];rfl,rfl⟩
     |true=>
      have HN:Hid (dh s=false):=kY (by have p1:=q1;have p3:=q3;simp only [decide_eq_true_eq,decide_eq_false_iff_not,bne_iff_ne,ne_eq,bne_eq_false_iff_eq,beq_iff_eq,beq_eq_false_iff_ne]at p1 p3;omega) (lf (by have p1:=q1;have p3:=q3;simp only [decide_eq_true_eq,decide_eq_false_iff_not,bne_iff_ne,ne_eq,bne_eq_false_iff_eq,beq_iff_eq,beq_eq_false_iff_ne]at p1 p3;omega));clear sk iy kY gf gt lf lt;go_wp2_with fail
      go_ret;exact ⟨by rw [HN.o];rfl,rfl⟩
    |true=>
     cases q2:decide ((x:Int)≤122)with
     |false=>
      cases q3:((i:Int)==0)with
      |false=>
       cases q4:((x:Int) !=95)with
       |false=>
        have HN:Hid ((∀j,j<i+1→okB (dz s j)=true)∧(0<i+1→ja (dz s 0)=true)):=sk (gt (by have p1:=q1;have p2:=q2;have p3:=q3;have p4:=q4;simp only [decide_eq_true_eq,decide_eq_false_iff_not,bne_iff_ne,ne_eq,bne_eq_false_iff_eq,beq_iff_eq,beq_eq_false_iff_ne]at p1 p2 p3 p4;omega)) (fun h0=>by first|(exact lt (by have p1:=q1;have p2:=q2;have p3:=q3;have p4:=q4;simp only [decide_eq_true_eq,decide_eq_false_iff_not,bne_iff_ne,ne_eq,bne_eq_false_iff_eq,beq_iff_eq,beq_eq_false_iff_ne]at p1 p2 p3 p4;omega))|(exfalso;have p1:=q1;have p2:=q2;have p3:=q3;have p4:=q4;simp only [decide_eq_true_eq,decide_eq_false_iff_not,bne_iff_ne,ne_eq,bne_eq_false_iff_eq,beq_iff_eq,beq_eq_false_iff_ne]at p1 p2 p3 p4;omega));clear sk iy kY gf gt lf lt;go_wp2_with fail
        exact ⟨⟨i+1,by omega,by first|trivial|rfl,HN.o.1,HN.o.2,by go_num⟩,by simp only [intOf];omega⟩
       |true=>
        cases q5:decide ((x:Int)<48)with
        |false=>
         cases q6:decide ((57:Int)<(x:Int))with
         |false=>
          have HN:Hid ((∀j,j<i+1→okB (dz s j)=true)∧(0<i+1→ja (dz s 0)=true)):=sk (gt (by have p1:=q1;have p2:=q2;have p3:=q3;have p4:=q4;have p5:=q5;have p6:=q6;simp only [decide_eq_true_eq,decide_eq_false_iff_not,bne_iff_ne,ne_eq,bne_eq_false_iff_eq,beq_iff_eq,beq_eq_false_iff_ne]at p1 p2 p3 p4 p5 p6;omega)) (fun h0=>by first|(exact lt (by have p1:=q1;have p2:=q2;have p3:=q3;have p4:=q4;have p5:=q5;have p6:=q6;simp only [decide_eq_true_eq,decide_eq_false_iff_not,bne_iff_ne,ne_eq,bne_eq_false_iff_eq,beq_iff_eq,beq_eq_false_iff_ne]at p1 p2 p3 p4 p5 p6;omega))|(exfalso;have p1:=q1;have p2:=q2;have p3:=q3;have p4:=q4;have p5:=q5;have p6:=q6;simp only [decide_eq_true_eq,decide_eq_false_iff_not,bne_iff_ne,ne_eq,bne_eq_false_iff_eq,beq_iff_eq,beq_eq_false_iff_ne]at p1 p2 p3 p4 p5 p6;omega));clear sk iy kY gf gt lf lt;go_wp2_with fail
          exact ⟨⟨i+1,by omega,by first|trivial|rfl,HN.o.1,HN.o.2,by go_num⟩,by simp only [intOf];omega⟩
         |true=>
          have HN:Hid (dh s=false):=iy (gf (by have p1:=q1;have p2:=q2;have p3:=q3;have p4:=q4;have p5:=q5;have p6:=q6;simp only [decide_eq_true_eq,decide_eq_false_iff_not,bne_iff_ne,ne_eq,bne_eq_false_iff_eq,beq_iff_eq,beq_eq_false_iff_ne]at p1 p2 p3 p4 p5 p6;omega));clear sk iy kY gf gt lf lt;go_wp2_with fail
          go_ret;exact ⟨by rw [HN.o];rfl,rfl⟩
        |true=>
         have HN:Hid (dh s=false):=iy (gf (by have p1:=q1;have p2:=q2;have p3:=q3;have p4:=q4;have p5:=q5;simp only [decide_eq_true_eq,decide_eq_false_iff_not,bne_iff_ne,ne_eq,bne_eq_false_iff_eq,beq_iff_eq,beq_eq_false_iff_ne]at p1 p2 p3 p4 p5;omega));clear sk iy kY gf gt lf lt;go_wp2_with fail
         go_ret;exact ⟨by rw [HN.o];rfl,rfl⟩
      |true=>
       have HN:Hid (dh s=false):=kY (by have p1:=q1;have p2:=q2;have p3:=q3;simp only [decide_eq_true_eq,decide_eq_false_iff_not,bne_iff_ne,ne_eq,bne_eq_false_iff_eq,beq_iff_eq,beq_eq_false_iff_ne]at p1 p2 p3;omega) (lf (by have p1:=q1;have p2:=q2;have p3:=q3;simp only [decide_eq_true_eq,decide_eq_false_iff_not,bne_iff_ne,ne_eq,bne_eq_false_iff_eq,beq_iff_eq,beq_eq_false_iff_ne]at p1 p2 p3;omega));clear sk iy kY gf gt lf lt;go_wp2_with fail
       go_ret;exact ⟨by rw [HN.o];rfl,rfl⟩
     |true=>
      have HN:Hid ((∀j,j<i+1→okB (dz s j)=true)∧(0<i+1→ja (dz s 0)=true)):=sk (gt (by have p1:=q1;have p2:=q2;simp only [decide_eq_true_eq,decide_eq_false_iff_not,bne_iff_ne,ne_eq,bne_eq_false_iff_eq,beq_iff_eq,beq_eq_false_iff_ne]at p1 p2;omega)) (fun h0=>by first|(exact lt (by have p1:=q1;have p2:=q2;simp only [decide_eq_true_eq,decide_eq_false_iff_not,bne_iff_ne,ne_eq,bne_eq_false_iff_eq,beq_iff_eq,beq_eq_false_iff_ne]at p1 p2;omega))|(exfalso;have p1:=q1;have p2:=q2;simp only [decide_eq_true_eq,decide_eq_false_iff_not,bne_iff_ne,ne_eq,bne_eq_false_iff_eq,beq_iff_eq,beq_eq_false_iff_ne]at p1 p2;omega));clear sk iy kY gf gt lf lt;go_wp2_with fail
      exact ⟨⟨i+1,by omega,by first|trivial|rfl,HN.o.1,HN.o.2,by go_num⟩,by simp only [intOf];omega⟩
   ·have hn:=oV h1 h2 Mc.o (hL (by omega)) (fun j hj=>hA j (by omega))
    clear hA hL;go_wp2_with fail
    go_ret;exact ⟨by rw [hn];rfl,rfl⟩
def CL (p q:ByteArray):Bool:= !(p.toList==q.toList)
def St.kZ (s:St) (nm:ByteArray) (prev:List ByteArray):St:=prev.foldl (fun s p=>s.need (CL p nm) 0 10) s
def St.name (s:St) (nm:ByteArray) (prev:List ByteArray):St:=(s.need (dh nm) 0 9).kZ nm prev
theorem St.He (s:St) (ok:Bool) (f e:Int):(s.need ok f e).idx=s.idx:=by unfold St.need;split<;>rfl
theorem St.ng (s:St) (nm:ByteArray) (prev:List ByteArray) (h:s.err≠0):s.kZ nm prev=s:=by
 unfold St.kZ;induction prev with
 |nil=>rfl
 |cons x l ih=>rw [List.foldl_cons,St.gm s _ _ _ h,ih]
theorem St.Fk (s:St) (nm:ByteArray) (prev:List ByteArray) (i:Nat) (h:i<prev.length):s.kZ nm (prev.take (i+1))=(s.kZ nm (prev.take i)).need (CL prev[i] nm) 0 10:=by
 unfold St.kZ;rw [List.take_succ_eq_append_getElem h,List.foldl_append];rfl
theorem St.Fl (s:St) (nm:ByteArray) (prev:List ByteArray) (i:Nat) (h:(s.kZ nm (prev.take i)).err≠0):s.kZ nm (prev.take i)=s.kZ nm prev:=by
 have h1:s.kZ nm prev=(s.kZ nm (prev.take i)).kZ nm (prev.drop i):=by
  unfold St.kZ;rw [←List.foldl_append,List.take_append_drop]
 rw [h1,St.ng _ _ _ h]
theorem St.xu {s:St} {ok:Bool} {f e:Int} (h:(s.need ok f e).err=0):s.err=0:=by
 by_cases h0:s.err=0
 ·exact h0
 ·rw [St.gm s ok f e h0]at h;exact h
theorem St.Fm {s:St} {nm:ByteArray} {prev:List ByteArray} (h:(s.kZ nm prev).err=0):s.err=0:=by
 by_cases h0:s.err=0
 ·exact h0
 ·rw [St.ng s nm prev h0]at h;exact h
theorem qV (V:World) (K:Nat) (c:ai) (s:St) (nm:ByteArray) (Ct:nm.size≤maxLen) (prev:List ByteArray) (F:Nat) (B:Nat) (CM:s.err=0→s.idx=(prev.length:Int)) (hpl:prev.length≤1000000)
 (hen: ∀args w,(callFunc F args).run prog w= .ok (.enter F args) w)
 (hF: ∀V' s' (i:Nat) (hi:i<prev.length),ar K V V'→gY V' K c s'→Calls prog F #[i64 i,.pointer (some ⟨B,0,none⟩)] V' fun e w'=>e= .returned (.string prev[i])∧w'=V') (h:gY V K c s):
 Calls prog 135 #[.pointer (some ⟨K,0,none⟩),.string nm,.func (.func F) #[] #[.pointer (some ⟨B,0,none⟩)]] V fun e' w'=>kW V K c (s.name nm prev) e' w':=by
 have hC:=eF V K c s (dh nm) 0 9 h;unfold St.name;have Nk:=St.He s (dh nm) 0 9;have hz:= @St.xu s (dh nm) 0 9;have hne:=St.gm s (dh nm) 0 9;obtain ⟨s1,hs1⟩: ∃s1,s.need (dh nm) 0 9=s1:=⟨_,rfl⟩;rw [hs1]at hC Nk hz hne⊢;have Me:s1.err=0→s1.idx=(prev.length:Int):=fun h0=>by rw [Nk];exact CM (hz h0)
 have HC:=ae hC;have HF:=ae hF;have HI:=ae Me;have HN:=ae (KH V nm Ct)
 clear hs1 hC hF Me CM Nk hz hne h;go_enter func135,ntmps135
 go_wp2_with fail
 refine HN.o.mono ?_;rintro e w1 ⟨rfl,fK⟩;subst fK;go_wp2_with fail
 refine HC.o.mono ?_;rintro e w1 ⟨rfl,KG,hx1⟩;obtain ⟨-,c9,-⟩:=m_ KG;have H1:=ae KG;have X1:=ae hx1
 clear KG hx1 HC HN;go_wp2_with fail
 clear c9;go_loopw [16] (fun ii wr=> ∃i:Nat,gY wr K c (s1.kZ nm (prev.take i))∧ar K w1 wr∧(s1.err=0→i≤prev.length)∧(s1.err≠0→i=0)∧ii= .int .i64 i) (fun ii _=>(s1.idx-intOf ii).toNat)
 case atStart=>exact ⟨0,H1.o,ar.refl _ _,fun _=>Nat.zero_le _,fun _=>rfl,rfl⟩
 case round=>
  obtain ⟨i,hk,hx,hle,hz,rfl⟩:=hrel;clear H1;by_cases hlt:(i:Int)<s1.idx
  ·have t0:decide ((i:Int)<s1.idx)=true:=by simpa using hlt
   obtain ⟨-,-,-,c11,-⟩:=m_ hk;have VA:= @St.Fm s1 nm (prev.take i);have hst:=St.Fl s1 nm prev i;have VB:=St.Fk s1 nm prev i;generalize s1.kZ nm (prev.take i)=s2 at*;by_cases h0:s2.err=0
   ·have t1:(s2.err !=0)=false:=by simpa using h0
    have Cu:=VA h0;have CM:=HI.o Cu;have iG:i<prev.length:=by omega
    have Qu:=ae (HF.o wr s2 i iG (X1.o.trans hx) hk);have Zl:=ae (eF wr K c s2 (CL prev[i] nm) 0 10 hk);have HT:=ae (VB iG);have HX:=ae hx
    unfold CL at Zl;clear VA hst VB hk hx h0 CM hle hz;go_wp2_with fail
    refine Qu.o.mono ?_;rintro e w2 ⟨rfl,hw2⟩;subst hw2;go_wp2_with fail
    refine Zl.o.mono ?_;rintro e w3 ⟨rfl,hk3,hx3⟩;go_wp2_with fail
    exact ⟨⟨i+1,by rw [HT.o];exact hk3,HX.o.trans hx3,fun _=>by omega,fun hc=>absurd Cu hc,by go_num⟩,by simp only [intOf];omega⟩
   ·have t1:(s2.err !=0)=true:=by simpa using h0
    have HS:=ae (hst h0);have uA:=ae hk;have HX:=ae hx
    clear VA hst VB h0 hk hx;go_wp2_with fail
    exact bodyPost_ret (v:= .tuple #[]) (by simp [results,results135,go_sem]) rfl ⟨rfl,by rw [←HS.o];exact uA.o,X1.o.trans HX.o⟩
  ·have t0:decide ((i:Int)<s1.idx)=false:=by simpa using hlt
   have na:s1.kZ nm (prev.take i)=s1.kZ nm prev:=by
    by_cases he:s1.err=0
    ·have h1:=hle he
     have h2:=HI.o he;rw [List.take_of_length_le (by omega)]
    ·rw [St.ng _ _ _ he,St.ng _ _ _ he]
   rw [na]at hk;clear na hle hz;go_wp2_with fail
   exact bodyPost_end (v:= .tuple #[]) (by simp [results,results135,go_sem]) rfl ⟨rfl,hk,X1.o.trans hx⟩
theorem bS.ak {w:World} {a:Option Addr} {c:Nat} {l:List cA} (h:bS w 3 a c (l.map cA.cells)) (i:Nat) (hi:i<l.length): ∃b o,a=some ⟨b,o,none⟩∧w.cell? ⟨b,o+i*3,none⟩=some (.string l[i].name)∧w.cell? ⟨b,o+i*3+1,none⟩=some (.slice l[i].da l[i].bP.length l[i].dc)∧w.cell? ⟨b,o+i*3+2,none⟩=some (i64 l[i].gC):=by
 obtain ⟨b,o,ha,hc⟩:=h.cell i (by simpa using hi);simp only [List.getElem_map]at hc;exact ⟨b,o,ha,hc 0 (by simp [cA.cells]),hc 1 (by simp [cA.cells]),hc 2 (by simp [cA.cells])⟩
theorem cA.at {w:World} {E:Nat} {T:TypeId} {x:cA} (h:aJ w E T x.cells):w.cell? ⟨E,0,none⟩=some (.string x.name)∧w.cell? ⟨E,1,none⟩=some (.slice x.da x.bP.length x.dc)∧w.cell? ⟨E,2,none⟩=some (i64 x.gC):=
 ⟨(h.cell 0).trans rfl,(h.cell 1).trans rfl,(h.cell 2).trans rfl⟩
theorem bS.lines {w:World} {a:Option Addr} {c:Nat} {l:List aP} (h:bS w 12 a c (l.map aP.cells)) (i:Nat) (hi:i<l.length): ∃b o,a=some ⟨b,o,none⟩∧w.cell? ⟨b,o+i*12,none⟩=some (.string l[i].name)∧w.cell? ⟨b,o+i*12+1,none⟩=some (i64 l[i].cU)∧w.cell? ⟨b,o+i*12+2,none⟩=some (i64 l[i].j5)∧w.cell? ⟨b,o+i*12+3,none⟩=some (i64 l[i].rn)∧w.cell? ⟨b,o+i*12+4,none⟩=some (i64 l[i].rd)∧w.cell? ⟨b,o+i*12+5,none⟩=some (i64 l[i].se)∧w.cell? ⟨b,o+i*12+6,none⟩=some (i64 l[i].vW)∧w.cell? ⟨b,o+i*12+7,none⟩=some (i64 l[i].tj)∧w.cell? ⟨b,o+i*12+8,none⟩=some (i64 l[i].yA)∧w.cell? ⟨b,o+i*12+9,none⟩=some (i64 l[i].cY)∧w.cell? ⟨b,o+i*12+10,none⟩=some (i64 l[i].jS)∧w.cell? ⟨b,o+i*12+11,none⟩=some (.slice l[i].aa l[i].away.length l[i].ac):=by
 obtain ⟨b,o,ha,hc⟩:=h.cell i (by simpa using hi);simp only [List.getElem_map]at hc;exact ⟨b,o,ha,hc 0 (by simp [aP.cells]),hc 1 (by simp [aP.cells]),hc 2 (by simp [aP.cells]),hc 3 (by simp [aP.cells]),hc 4 (by simp [aP.cells]),hc 5 (by simp [aP.cells]),hc 6 (by simp [aP.cells]),hc 7 (by simp [aP.cells]),hc 8 (by simp [aP.cells]),hc 9 (by simp [aP.cells]),hc 10 (by simp [aP.cells]),hc 11 (by simp [aP.cells])⟩
theorem aP.at {w:World} {E:Nat} {T:TypeId} {x:aP} (h:aJ w E T x.cells):w.cell? ⟨E,0,none⟩=some (.string x.name)∧w.cell? ⟨E,1,none⟩=some (i64 x.cU)∧w.cell? ⟨E,2,none⟩=some (i64 x.j5)∧w.cell? ⟨E,3,none⟩=some (i64 x.rn)∧w.cell? ⟨E,4,none⟩=some (i64 x.rd)∧w.cell? ⟨E,5,none⟩=some (i64 x.se)∧w.cell? ⟨E,6,none⟩=some (i64 x.vW)∧w.cell? ⟨E,7,none⟩=some (i64 x.tj)∧w.cell? ⟨E,8,none⟩=some (i64 x.yA)∧w.cell? ⟨E,9,none⟩=some (i64 x.cY)∧w.cell? ⟨E,10,none⟩=some (i64 x.jS)∧w.cell? ⟨E,11,none⟩=some (.slice x.aa x.away.length x.ac):=
 ⟨(h.cell 0).trans rfl,(h.cell 1).trans rfl,(h.cell 2).trans rfl,(h.cell 3).trans rfl,(h.cell 4).trans rfl,(h.cell 5).trans rfl,(h.cell 6).trans rfl,(h.cell 7).trans rfl,(h.cell 8).trans rfl,(h.cell 9).trans rfl,(h.cell 10).trans rfl,(h.cell 11).trans rfl⟩
theorem bS.au {w:World} {a:Option Addr} {c:Nat} {l:List aF} (h:bS w 22 a c (l.map aF.cells)) (i:Nat) (hi:i<l.length): ∃b o,a=some ⟨b,o,none⟩∧w.cell? ⟨b,o+i*22,none⟩=some (.string l[i].name)∧w.cell? ⟨b,o+i*22+1,none⟩=some (i64 l[i].bus)∧w.cell? ⟨b,o+i*22+2,none⟩=some (i64 l[i].min)∧w.cell? ⟨b,o+i*22+3,none⟩=some (i64 l[i].max)∧w.cell? ⟨b,o+i*22+4,none⟩=some (.slice l[i].sa l[i].aM.length l[i].sc)∧w.cell? ⟨b,o+i*22+5,none⟩=some (i64 l[i].eu)∧w.cell? ⟨b,o+i*22+6,none⟩=some (i64 l[i].ez)∧w.cell? ⟨b,o+i*22+7,none⟩=some (i64 l[i].cD)∧w.cell? ⟨b,o+i*22+8,none⟩=some (i64 l[i].bW)∧w.cell? ⟨b,o+i*22+9,none⟩=some (i64 l[i].cE)∧w.cell? ⟨b,o+i*22+10,none⟩=some (i64 l[i].eE)∧w.cell? ⟨b,o+i*22+11,none⟩=some (i64 l[i].cF)∧w.cell? ⟨b,o+i*22+12,none⟩=some (i64 l[i].startTime)∧w.cell? ⟨b,o+i*22+13,none⟩=some (i64 l[i].dr)∧w.cell? ⟨b,o+i*22+14,none⟩=some (i64 l[i].cG)∧w.cell? ⟨b,o+i*22+15,none⟩=some (i64 l[i].cJ)∧w.cell? ⟨b,o+i*22+16,none⟩=some (i64 l[i].aV)∧w.cell? ⟨b,o+i*22+17,none⟩=some (i64 l[i].bg)∧w.cell? ⟨b,o+i*22+18,none⟩=some (.slice l[i].aa l[i].away.length l[i].ac)∧w.cell? ⟨b,o+i*22+19,none⟩=some (i64 l[i].state)∧w.cell? ⟨b,o+i*22+20,none⟩=some (i64 l[i].hours)∧w.cell? ⟨b,o+i*22+21,none⟩=some (i64 l[i].output):=by
 obtain ⟨b,o,ha,hc⟩:=h.cell i (by simpa using hi);simp only [List.getElem_map]at hc;exact ⟨b,o,ha,hc 0 (by simp [aF.cells]),hc 1 (by simp [aF.cells]),hc 2 (by simp [aF.cells]),hc 3 (by simp [aF.cells]),hc 4 (by simp [aF.cells]),hc 5 (by simp [aF.cells]),hc 6 (by simp [aF.cells]),hc 7 (by simp [aF.cells]),hc 8 (by simp [aF.cells]),hc 9 (by simp [aF.cells]),hc 10 (by simp [aF.cells]),hc 11 (by simp [aF.cells]),hc 12 (by simp [aF.cells]),hc 13 (by simp [aF.cells]),hc 14 (by simp [aF.cells]),hc 15 (by simp [aF.cells]),hc 16 (by simp [aF.cells]),hc 17 (by simp [aF.cells]),hc 18 (by simp [aF.cells]),hc 19 (by simp [aF.cells]),hc 20 (by simp [aF.cells]),hc 21 (by simp [aF.cells])⟩
theorem aF.at {w:World} {E:Nat} {T:TypeId} {x:aF} (h:aJ w E T x.cells):w.cell? ⟨E,0,none⟩=some (.string x.name)∧w.cell? ⟨E,1,none⟩=some (i64 x.bus)∧w.cell? ⟨E,2,none⟩=some (i64 x.min)∧w.cell? ⟨E,3,none⟩=some (i64 x.max)∧w.cell? ⟨E,4,none⟩=some (.slice x.sa x.aM.length x.sc)∧w.cell? ⟨E,5,none⟩=some (i64 x.eu)∧w.cell? ⟨E,6,none⟩=some (i64 x.ez)∧w.cell? ⟨E,7,none⟩=some (i64 x.cD)∧w.cell? ⟨E,8,none⟩=some (i64 x.bW)∧w.cell? ⟨E,9,none⟩=some (i64 x.cE)∧w.cell? ⟨E,10,none⟩=some (i64 x.eE)∧w.cell? ⟨E,11,none⟩=some (i64 x.cF)∧w.cell? ⟨E,12,none⟩=some (i64 x.startTime)∧w.cell? ⟨E,13,none⟩=some (i64 x.dr)∧w.cell? ⟨E,14,none⟩=some (i64 x.cG)∧w.cell? ⟨E,15,none⟩=some (i64 x.cJ)∧w.cell? ⟨E,16,none⟩=some (i64 x.aV)∧w.cell? ⟨E,17,none⟩=some (i64 x.bg)∧w.cell? ⟨E,18,none⟩=some (.slice x.aa x.away.length x.ac)∧w.cell? ⟨E,19,none⟩=some (i64 x.state)∧w.cell? ⟨E,20,none⟩=some (i64 x.hours)∧w.cell? ⟨E,21,none⟩=some (i64 x.output):=
 ⟨(h.cell 0).trans rfl,(h.cell 1).trans rfl,(h.cell 2).trans rfl,(h.cell 3).trans rfl,(h.cell 4).trans rfl,(h.cell 5).trans rfl,(h.cell 6).trans rfl,(h.cell 7).trans rfl,(h.cell 8).trans rfl,(h.cell 9).trans rfl,(h.cell 10).trans rfl,(h.cell 11).trans rfl,(h.cell 12).trans rfl,(h.cell 13).trans rfl,(h.cell 14).trans rfl,(h.cell 15).trans rfl,(h.cell 16).trans rfl,(h.cell 17).trans rfl,(h.cell 18).trans rfl,(h.cell 19).trans rfl,(h.cell 20).trans rfl,(h.cell 21).trans rfl⟩
theorem bS.stores {w:World} {a:Option Addr} {c:Nat} {l:List bj} (h:bS w 9 a c (l.map bj.cells)) (i:Nat) (hi:i<l.length): ∃b o,a=some ⟨b,o,none⟩∧w.cell? ⟨b,o+i*9,none⟩=some (.string l[i].name)∧w.cell? ⟨b,o+i*9+1,none⟩=some (i64 l[i].bus)∧w.cell? ⟨b,o+i*9+2,none⟩=some (i64 l[i].capacity)∧w.cell? ⟨b,o+i*9+3,none⟩=some (i64 l[i].initial)∧w.cell? ⟨b,o+i*9+4,none⟩=some (i64 l[i].final)∧w.cell? ⟨b,o+i*9+5,none⟩=some (i64 l[i].dg)∧w.cell? ⟨b,o+i*9+6,none⟩=some (i64 l[i].discharge)∧w.cell? ⟨b,o+i*9+7,none⟩=some (i64 l[i].en)∧w.cell? ⟨b,o+i*9+8,none⟩=some (i64 l[i].ed):=by
 obtain ⟨b,o,ha,hc⟩:=h.cell i (by simpa using hi);simp only [List.getElem_map]at hc;exact ⟨b,o,ha,hc 0 (by simp [bj.cells]),hc 1 (by simp [bj.cells]),hc 2 (by simp [bj.cells]),hc 3 (by simp [bj.cells]),hc 4 (by simp [bj.cells]),hc 5 (by simp [bj.cells]),hc 6 (by simp [bj.cells]),hc 7 (by simp [bj.cells]),hc 8 (by simp [bj.cells])⟩
theorem bj.at {w:World} {E:Nat} {T:TypeId} {x:bj} (h:aJ w E T x.cells):w.cell? ⟨E,0,none⟩=some (.string x.name)∧w.cell? ⟨E,1,none⟩=some (i64 x.bus)∧w.cell? ⟨E,2,none⟩=some (i64 x.capacity)∧w.cell? ⟨E,3,none⟩=some (i64 x.initial)∧w.cell? ⟨E,4,none⟩=some (i64 x.final)∧w.cell? ⟨E,5,none⟩=some (i64 x.dg)∧w.cell? ⟨E,6,none⟩=some (i64 x.discharge)∧w.cell? ⟨E,7,none⟩=some (i64 x.en)∧w.cell? ⟨E,8,none⟩=some (i64 x.ed):=
 ⟨(h.cell 0).trans rfl,(h.cell 1).trans rfl,(h.cell 2).trans rfl,(h.cell 3).trans rfl,(h.cell 4).trans rfl,(h.cell 5).trans rfl,(h.cell 6).trans rfl,(h.cell 7).trans rfl,(h.cell 8).trans rfl⟩
theorem bS.aL {w:World} {a:Option Addr} {c:Nat} {l:List dS} (h:bS w 5 a c (l.map dS.cells)) (i:Nat) (hi:i<l.length): ∃b o,a=some ⟨b,o,none⟩∧w.cell? ⟨b,o+i*5,none⟩=some (.string l[i].name)∧w.cell? ⟨b,o+i*5+1,none⟩=some (i64 l[i].bus)∧w.cell? ⟨b,o+i*5+2,none⟩=some (.slice l[i].ia l[i].imp.length l[i].ic)∧w.cell? ⟨b,o+i*5+3,none⟩=some (.slice l[i].ea l[i].exp.length l[i].ec)∧w.cell? ⟨b,o+i*5+4,none⟩=some (.slice l[i].pa l[i].aX.length l[i].pc):=by
 obtain ⟨b,o,ha,hc⟩:=h.cell i (by simpa using hi);simp only [List.getElem_map]at hc;exact ⟨b,o,ha,hc 0 (by simp [dS.cells]),hc 1 (by simp [dS.cells]),hc 2 (by simp [dS.cells]),hc 3 (by simp [dS.cells]),hc 4 (by simp [dS.cells])⟩
theorem dS.at {w:World} {E:Nat} {T:TypeId} {x:dS} (h:aJ w E T x.cells):w.cell? ⟨E,0,none⟩=some (.string x.name)∧w.cell? ⟨E,1,none⟩=some (i64 x.bus)∧w.cell? ⟨E,2,none⟩=some (.slice x.ia x.imp.length x.ic)∧w.cell? ⟨E,3,none⟩=some (.slice x.ea x.exp.length x.ec)∧w.cell? ⟨E,4,none⟩=some (.slice x.pa x.aX.length x.pc):=
 ⟨(h.cell 0).trans rfl,(h.cell 1).trans rfl,(h.cell 2).trans rfl,(h.cell 3).trans rfl,(h.cell 4).trans rfl⟩
theorem bS.outs {w:World} {a:Option Addr} {c:Nat} {l:List bB} (h:bS w 4 a c (l.map bB.cells)) (i:Nat) (hi:i<l.length): ∃b o,a=some ⟨b,o,none⟩∧w.cell? ⟨b,o+i*4,none⟩=some (.string l[i].name)∧w.cell? ⟨b,o+i*4+1,none⟩=some (.slice l[i].la l[i].lines.length l[i].lc)∧w.cell? ⟨b,o+i*4+2,none⟩=some (.bool l[i].bC)∧w.cell? ⟨b,o+i*4+3,none⟩=some (.slice l[i].ma l[i].moves.length l[i].mc):=by
 obtain ⟨b,o,ha,hc⟩:=h.cell i (by simpa using hi);simp only [List.getElem_map]at hc;exact ⟨b,o,ha,hc 0 (by simp [bB.cells]),hc 1 (by simp [bB.cells]),hc 2 (by simp [bB.cells]),hc 3 (by simp [bB.cells])⟩
theorem bB.at {w:World} {E:Nat} {T:TypeId} {x:bB} (h:aJ w E T x.cells):w.cell? ⟨E,0,none⟩=some (.string x.name)∧w.cell? ⟨E,1,none⟩=some (.slice x.la x.lines.length x.lc)∧w.cell? ⟨E,2,none⟩=some (.bool x.bC)∧w.cell? ⟨E,3,none⟩=some (.slice x.ma x.moves.length x.mc):=
 ⟨(h.cell 0).trans rfl,(h.cell 1).trans rfl,(h.cell 2).trans rfl,(h.cell 3).trans rfl⟩
theorem bS.aM {w:World} {a:Option Addr} {c:Nat} {l:List dp} (h:bS w 2 a c (l.map dp.cells)) (i:Nat) (hi:i<l.length): ∃b o,a=some ⟨b,o,none⟩∧w.cell? ⟨b,o+i*2,none⟩=some (i64 l[i].width)∧w.cell? ⟨b,o+i*2+1,none⟩=some (i64 l[i].aX):=by
 obtain ⟨b,o,ha,hc⟩:=h.cell i (by simpa using hi);simp only [List.getElem_map]at hc;exact ⟨b,o,ha,hc 0 (by simp [dp.cells]),hc 1 (by simp [dp.cells])⟩
theorem dp.at {w:World} {E:Nat} {T:TypeId} {x:dp} (h:aJ w E T x.cells):w.cell? ⟨E,0,none⟩=some (i64 x.width)∧w.cell? ⟨E,1,none⟩=some (i64 x.aX):=
 ⟨(h.cell 0).trans rfl,(h.cell 1).trans rfl⟩
theorem bS.moves {w:World} {a:Option Addr} {c:Nat} {l:List bE} (h:bS w 3 a c (l.map bE.cells)) (i:Nat) (hi:i<l.length): ∃b o,a=some ⟨b,o,none⟩∧w.cell? ⟨b,o+i*3,none⟩=some (i64 l[i].unit)∧w.cell? ⟨b,o+i*3+1,none⟩=some (i64 l[i].up)∧w.cell? ⟨b,o+i*3+2,none⟩=some (i64 l[i].down):=by
 obtain ⟨b,o,ha,hc⟩:=h.cell i (by simpa using hi);simp only [List.getElem_map]at hc;exact ⟨b,o,ha,hc 0 (by simp [bE.cells]),hc 1 (by simp [bE.cells]),hc 2 (by simp [bE.cells])⟩
theorem bE.at {w:World} {E:Nat} {T:TypeId} {x:bE} (h:aJ w E T x.cells):w.cell? ⟨E,0,none⟩=some (i64 x.unit)∧w.cell? ⟨E,1,none⟩=some (i64 x.up)∧w.cell? ⟨E,2,none⟩=some (i64 x.down):=
 ⟨(h.cell 0).trans rfl,(h.cell 1).trans rfl,(h.cell 2).trans rfl⟩
theorem aJ.but {K:Nat} {w w':World} {b:Nat} {T:TypeId} {vs:List Value} (h:aJ w b T vs) (e:ar K w w') (hb:b≠K):aJ w' b T vs:=by
 unfold aJ;rw [e.block b h.lt hb];exact h
theorem bL {K:Nat} {w w':World} {p:Addr} {v:Value} (h:w.cell? p=some v) (e:ar K w w') (hb:p.block≠K):w'.cell? p=some v:=by
 have h2:=bm h;unfold World.cell? at*;rw [e.block _ h2 hb];exact h
theorem Hf (w0 V:World) (K B:Nat) (c:ai) (s:St) (i:Nat) (hK:w0.heap.size≤K) (hV:Ext w0 V) (hc:aS w0 c) (h:gY V K c s) (hB:V.cell? ⟨B,0,none⟩=some (.pointer (some ⟨K,0,none⟩))) (hi:i<c.ak.length):
 Calls prog 136 #[i64 i,.pointer (some ⟨B,0,none⟩)] V fun e w'=>e= .returned (.string c.ak[i].name)∧w'=V:=by
 have hr:=(hc.ak.ext hV);have hle:=hr.le;have dy:=hr.cap
 rw [List.length_map]at hle;obtain ⟨b,o,ha,c0,-⟩:=hr.ak i hi;obtain ⟨k0,k1,k2,k3,k4,k5,k6,k7⟩:=dO h;rw [ha]at k2;have f_:(0:Int)≤(i:Int):=by omega
 have fU:(i:Int)<(c.ak.length:Int):=by omega
 clear h hc hr hV ha;go_enter func136,ntmps136
 go_wp2_with fail
 go_ret;exact ⟨rfl,rfl⟩
theorem Hg (w0 V:World) (K B:Nat) (c:ai) (s:St) (i:Nat) (hK:w0.heap.size≤K) (hV:Ext w0 V) (hc:aS w0 c) (h:gY V K c s) (hB:V.cell? ⟨B,0,none⟩=some (.pointer (some ⟨K,0,none⟩))) (hi:i<c.lines.length):
 Calls prog 137 #[i64 i,.pointer (some ⟨B,0,none⟩)] V fun e w'=>e= .returned (.string c.lines[i].name)∧w'=V:=by
 have hr:=(hc.lines.ext hV);have hle:=hr.le;have dy:=hr.cap
 rw [List.length_map]at hle;obtain ⟨b,o,ha,c0,-⟩:=hr.lines i hi;obtain ⟨k0,k1,k2,k3,k4,k5,k6,k7⟩:=dO h;rw [ha]at k3;have f_:(0:Int)≤(i:Int):=by omega
 have fU:(i:Int)<(c.lines.length:Int):=by omega
 clear h hc hr hV ha;go_enter func137,ntmps137
 go_wp2_with fail
 go_ret;exact ⟨rfl,rfl⟩
theorem Hh (w0 V:World) (K B:Nat) (c:ai) (s:St) (i:Nat) (hK:w0.heap.size≤K) (hV:Ext w0 V) (hc:aS w0 c) (h:gY V K c s) (hB:V.cell? ⟨B,0,none⟩=some (.pointer (some ⟨K,0,none⟩))) (hi:i<c.au.length):
 Calls prog 141 #[i64 i,.pointer (some ⟨B,0,none⟩)] V fun e w'=>e= .returned (.string c.au[i].name)∧w'=V:=by
 have hr:=(hc.au.ext hV);have hle:=hr.le;have dy:=hr.cap
 rw [List.length_map]at hle;obtain ⟨b,o,ha,c0,-⟩:=hr.au i hi;obtain ⟨k0,k1,k2,k3,k4,k5,k6,k7⟩:=dO h;rw [ha]at k4;have f_:(0:Int)≤(i:Int):=by omega
 have fU:(i:Int)<(c.au.length:Int):=by omega
 clear h hc hr hV ha;go_enter func141,ntmps141
 go_wp2_with fail
 go_ret;exact ⟨rfl,rfl⟩
theorem Fp (w0 V:World) (K B:Nat) (c:ai) (s:St) (i:Nat) (hK:w0.heap.size≤K) (hV:Ext w0 V) (hc:aS w0 c) (h:gY V K c s) (hB:V.cell? ⟨B,0,none⟩=some (.pointer (some ⟨K,0,none⟩))) (hi:i<c.stores.length):
 Calls prog 143 #[i64 i,.pointer (some ⟨B,0,none⟩)] V fun e w'=>e= .returned (.string c.stores[i].name)∧w'=V:=by
 have hr:=(hc.stores.ext hV);have hle:=hr.le;have dy:=hr.cap
 rw [List.length_map]at hle;obtain ⟨b,o,ha,c0,-⟩:=hr.stores i hi;obtain ⟨k0,k1,k2,k3,k4,k5,k6,k7⟩:=dO h;rw [ha]at k5;have f_:(0:Int)≤(i:Int):=by omega
 have fU:(i:Int)<(c.stores.length:Int):=by omega
 clear h hc hr hV ha;go_enter func143,ntmps143
 go_wp2_with fail
 go_ret;exact ⟨rfl,rfl⟩
theorem KI (w0 V:World) (K B:Nat) (c:ai) (s:St) (i:Nat) (hK:w0.heap.size≤K) (hV:Ext w0 V) (hc:aS w0 c) (h:gY V K c s) (hB:V.cell? ⟨B,0,none⟩=some (.pointer (some ⟨K,0,none⟩))) (hi:i<c.aL.length):
 Calls prog 144 #[i64 i,.pointer (some ⟨B,0,none⟩)] V fun e w'=>e= .returned (.string c.aL[i].name)∧w'=V:=by
 have hr:=(hc.aL.ext hV);have hle:=hr.le;have dy:=hr.cap
 rw [List.length_map]at hle;obtain ⟨b,o,ha,c0,-⟩:=hr.aL i hi;obtain ⟨k0,k1,k2,k3,k4,k5,k6,k7⟩:=dO h;rw [ha]at k6;have f_:(0:Int)≤(i:Int):=by omega
 have fU:(i:Int)<(c.aL.length:Int):=by omega
 clear h hc hr hV ha;go_enter func144,ntmps144
 go_wp2_with fail
 go_ret;exact ⟨rfl,rfl⟩
theorem KJ (w0 V:World) (K B:Nat) (c:ai) (s:St) (i:Nat) (hK:w0.heap.size≤K) (hV:Ext w0 V) (hc:aS w0 c) (h:gY V K c s) (hB:V.cell? ⟨B,0,none⟩=some (.pointer (some ⟨K,0,none⟩))) (hi:i<c.outs.length):
 Calls prog 145 #[i64 i,.pointer (some ⟨B,0,none⟩)] V fun e w'=>e= .returned (.string c.outs[i].name)∧w'=V:=by
 have hr:=(hc.outs.ext hV);have hle:=hr.le;have dy:=hr.cap
 rw [List.length_map]at hle;obtain ⟨b,o,ha,c0,-⟩:=hr.outs i hi;obtain ⟨k0,k1,k2,k3,k4,k5,k6,k7⟩:=dO h;rw [ha]at k7;have f_:(0:Int)≤(i:Int):=by omega
 have fU:(i:Int)<(c.outs.length:Int):=by omega
 clear h hc hr hV ha;go_enter func145,ntmps145
 go_wp2_with fail
 go_ret;exact ⟨rfl,rfl⟩
end Go.Proofs.YtkpngkdgphojlaaGreat
