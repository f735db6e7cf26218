/- Texts of the proof. -/
import Derived.Test.YtkpngkdgphojlaaGreatCc2
set_option linter.all false
namespace Go.Proofs.YtkpngkdgphojlaaGreat
open Go.RowKit
def nd (e:Int) (ok:Bool) (code:Int):Int:=if e=0∧ok=false then code else e
theorem dX {e:Int} (h:e≠0) (ok:Bool) (code:Int):nd e ok code=e:=by unfold nd;rw [if_neg (fun h'=>h h'.1)]
theorem bk (e code:Int):nd e true code=e:=by unfold nd;rw [if_neg (fun h=>by cases h.2)]
theorem ym (code:Int):nd 0 false code=code:=by unfold nd;rw [if_pos ⟨rfl,rfl⟩]
theorem lM (e:Int) (a b:Bool) (code:Int) (hc:code≠0):nd (nd e a code) b code=nd e (a&&b) code:=by
 by_cases h:e=0
 ·subst h
  cases a with
  |true=>rw [bk,Bool.true_and]
  |false=>rw [ym,dX hc,Bool.false_and,ym]
 ·rw [dX h,dX h,dX h]
def FE (w:World) (K:Nat) (e:Int):Prop:= ∃k i f,KF w K ⟨k,i,f,e⟩
theorem FE.ext {w w':World} {K:Nat} {e:Int} (h:FE w K e) (x:Ext w w'):FE w' K e:=by
 obtain ⟨k,i,f,h⟩:=h;exact ⟨k,i,f,h.ext x⟩
theorem FE.alloc {w:World} {K:Nat} {e:Int} (h:FE w K e) (o:Obj):FE (w.alloc o) K e:=h.ext ((Ext.refl _).alloc _)
theorem FE.lt {w:World} {K:Nat} {e:Int} (h:FE w K e):K<w.heap.size:=by obtain ⟨k,i,f,h⟩:=h;exact h.lt
theorem FE.cell {w:World} {K:Nat} {e:Int} (h:FE w K e):w.cell? ⟨K,3,none⟩=some (i64 e):=by
 obtain ⟨k,i,f,h⟩:=h;exact (Cj h).2.2.2.1
def rG (V:World) (K:Nat) (x:Int) (e:Ending) (w':World):Prop:=e= .returned (.tuple #[])∧FE w' K x∧ak K V w'
theorem aU (V:World) (K:Nat) (e:Int) (ok:Bool) (kind idx field code:Int) (h:FE V K e):
 Calls Tryz.prog 55 #[.pointer (some ⟨K,0,none⟩),.bool ok,i64 kind,i64 idx,i64 field,i64 code] V fun e' w'=>rG V K (nd e ok code) e' w':=by
 obtain ⟨k,i,f,h⟩:=h;refine (Ls V K _ ok kind idx field code h).mono ?_;rintro e' w' ⟨h1,h2,h3⟩;refine ⟨h1,?_,h3⟩;unfold St.found at h2;unfold nd;split at h2
 ·rename_i hq;rw [if_pos hq];exact ⟨_,_,_,h2⟩
 ·rename_i hq;rw [if_neg hq];exact ⟨_,_,_,h2⟩
theorem FE.but {w w':World} {K:Nat} {e:Int} {b:Nat} (h:FE w K e) (x:ak b w w') (hb:K≠b):FE w' K e:=by
 obtain ⟨k,i,f,h⟩:=h;have hl:=h.lt;refine ⟨k,i,f,?_⟩;unfold KF aG at*;rw [x.block K hl hb];exact h
theorem aG.alloc' {w:World} {b:Nat} {T:TypeId} {vs:List Value} (h:aG w b T vs) (o:Obj):aG (w.alloc o) b T vs:=h.ext ((Ext.refl _).alloc _)
theorem ak.alloc' {b:Nat} {w w':World} (h:ak b w w') (o:Obj):ak b w (w'.alloc o):=h.trans (((Ext.refl w').alloc o).but b)
theorem aA.one (W:World) (x:Int) (hx:br x):aA (W.alloc (.cells #[i64 x] 3)) (some ⟨W.heap.size,0,none⟩) 1 [x]:=
 ⟨by simp,by omega,fun i hi=>⟨W.heap.size,0,rfl,by
     have h0:i=0:=by simpa using hi
     subst h0;exact (aG.alloc W 3 [i64 x]).cell 0⟩,fun i hi=>by
     have h0:i=0:=by simpa using hi
     subst h0;unfold br at hx;simp only [List.getElem_cons_zero];omega⟩
theorem gh (W:World) (x lo hi:Int) (hx:br x):
 Calls Tryz.prog 56 #[i64 lo,i64 hi,.slice (some ⟨W.heap.size,0,none⟩) 1 1] (W.alloc (.cells #[i64 x] 3)) fun e w'=>e= .returned (.bool (aY lo hi [x]))∧w'=W.alloc (.cells #[i64 x] 3):=
 gU _ lo hi _ 1 [x] (aA.one W x hx)
theorem Ax (n d:Int):(aY 1 1048576 [d]&&aY (-1048576) 1048576 [n])=bq n d:=by
 unfold aY bq;simp [Bool.and_assoc]
set_option maxRecDepth 100000 in
theorem eh (w:World) (n d:Int) (hn:br n) (hd:br d):
 Calls Tryz.prog 99 #[.agg #[i64 n,i64 d]] w fun e w'=>e= .returned (.bool (bq n d))∧Ext w w':=by
 have HB:=ae (Ax n d);have H1:=ae (fun W=>gh W d 1 1048576 hd);have H2:=ae (fun W=>gh W n (-1048576) 1048576 hn);clear hn hd;obtain ⟨W,hW,x0,Z0,A0⟩:=aB w 76 [i64 n,i64 d];have KG:Hid (w.alloc (.cells #[i64 n,i64 d] 76)=W):=hW.symm;have HX:=ae x0;have f0:W.cell? ⟨w.heap.size,0,none⟩=some (i64 n):=(A0.cell 0).trans rfl;have f1:W.cell? ⟨w.heap.size,1,none⟩=some (i64 d):=(A0.cell 1).trans rfl;clear hW x0 Z0;obtain ⟨B,hB⟩: ∃B,B=w.heap.size:=⟨_,rfl⟩;rw [←hB]at f0 f1;have g0:(W.alloc (.cells #[i64 d] 3)).cell? ⟨B,0,none⟩=some (i64 n):=ai ((Ext.refl _).alloc _) f0;clear A0;cases d1:aY 1 1048576 [d]with
 |false=>
  have HV:Hid (bq n d=false):=by show _=_;rw [←HB.out,d1];rfl
  rw [d1]at H1;clear d1;go_enter Tryz.func99,Tryz.ntmps99
  go_upto_region 1 with fail
  rw [KG.out,←hB];clear hB;go_wp2_with fail
  refine (H1.out _).mono ?_;rintro e w1 ⟨rfl,rfl⟩;go_wp2_with fail
  go_ret;exact ⟨by rw [HV.out];rfl,HX.out.alloc _⟩
 |true=>
  have HV:Hid (bq n d=aY (-1048576) 1048576 [n]):=by show _=_;rw [←HB.out,d1];rfl
  rw [d1]at H1;clear d1;go_enter Tryz.func99,Tryz.ntmps99
  go_upto_region 1 with fail
  rw [KG.out,←hB];clear hB;go_wp2_with fail
  refine (H1.out _).mono ?_;rintro e w1 ⟨rfl,rfl⟩;obtain ⟨W2,hW2,x2,Z2,-⟩:=aB W 3 [i64 d];have g1:W2.cell? ⟨B,0,none⟩=some (i64 n):=ai x2 f0;rw [show W.alloc (.cells #[i64 d] 3)=W2 from hW2.symm];have dC:=ae (HX.out.trans x2);clear g0 f0 f1 hW2 x2 Z2;go_wp2_with fail
  refine (H2.out _).mono ?_;rintro e w1 ⟨rfl,rfl⟩;go_wp2_with fail
  go_ret;exact ⟨by rw [HV.out];rfl,dC.out.alloc _⟩
def kD (e:Int) (c:aq) (i:Int):Int:=nd e (aY 0 ((c.au.length:Int)-1) [i]) 12
def eo (e:Int) (c:aq) (l:List Int) (lo hi:Int):Int:=nd (nd e (decide ((l.length:Int)=c.hours)) 4) (aY lo hi l) 3
def j2 (e:Int) (c:aq) (l:List Int):Int:=nd (nd e (aY 0 (IntKind.i64.wrap (c.hours-1)) l) 3) (gG l) 11
theorem aq.at {w:World} {B:Nat} {T:TypeId} {c:aq} (h:aG w B T c.cells):w.cell? ⟨B,0,none⟩=some (i64 c.hours)∧w.cell? ⟨B,1,none⟩=some (.slice c.ra c.az.length c.rc)∧w.cell? ⟨B,2,none⟩=some (.slice c.ba c.au.length c.bc)∧w.cell? ⟨B,3,none⟩=some (.slice c.la c.lines.length c.lc)∧w.cell? ⟨B,4,none⟩=some (.slice c.ua c.aj.length c.uc)∧w.cell? ⟨B,5,none⟩=some (.slice c.sa c.stores.length c.sc)∧w.cell? ⟨B,6,none⟩=some (.slice c.ta c.aN.length c.tc)∧w.cell? ⟨B,7,none⟩=some (.slice c.oa c.outs.length c.oc):=
 ⟨(h.cell 0).trans rfl,(h.cell 1).trans rfl,(h.cell 2).trans rfl,(h.cell 3).trans rfl,(h.cell 4).trans rfl,(h.cell 5).trans rfl,(h.cell 6).trans rfl,(h.cell 7).trans rfl⟩
set_option maxRecDepth 100000 in
theorem oT (w0 V:World) (K:Nat) (c:aq) (e:Int) (i kind idx field:Int) (hV:Ext w0 V) (hc:aT w0 c) (hi:br i) (h:FE V K e):
 Calls Tryz.prog 98 #[.pointer (some ⟨K,0,none⟩),.agg (C8 c),i64 i,i64 kind,i64 idx,i64 field] V fun e' w'=>rG V K (kD e c i) e' w':=by
 try unfold C8
 have hle:=hc.au.le;have di:=hc.au.cap
 rw [List.length_map]at hle;have HH:=ae h;have HB:=ae (fun W=>gh W i 0 ((c.au.length:Int)-1) hi);have b0:(0:Int)≤(c.au.length:Int):=by omega
 have b1:(c.au.length:Int)≤9223372036854775807:=by omega
 have hw:IntKind.i64.wrap ((c.au.length:Int)-1)=(c.au.length:Int)-1:=by rw [IntKind.wrap_i64];omega
 unfold kD;clear hc hi h hV hle di;go_enter Tryz.func98,Tryz.ntmps98
 go_upto_region 1 with fail
 obtain ⟨W,hW,x0,Z0,A0⟩:=aB V 32 c.cells;rw [show V.alloc (.cells (C8 c) 32)=W from hW.symm];clear hW;have HF:=ae (HH.out.ext x0);obtain ⟨-,-,c2,-⟩:=aq.at A0;have HX:=ae (x0.but K);clear Z0 x0;clear A0;go_wp2_with fail
 refine (HB.out _).mono ?_;rintro e w1 ⟨rfl,rfl⟩;go_wp2_with fail
 refine (aU _ K _ _ _ _ _ _ (HF.out.alloc _)).mono ?_;rintro e w1 ⟨rfl,hf,hx⟩;go_wp2_with fail
 exact bodyPost_end (v:= .tuple #[]) (by simp [results,Tryz.results98,go_sem]) rfl ⟨rfl,hf,(HX.out.alloc' _).trans hx⟩
set_option maxRecDepth 100000 in
theorem yo (w0 V:World) (K:Nat) (c:aq) (e:Int) (a:Option Addr) (cc:Nat) (l:List Int) (kind idx field:Int) (hK:w0.heap.size≤K) (hV:Ext w0 V) (hl:aA w0 a cc l) (h:FE V K e):
 Calls Tryz.prog 100 #[.pointer (some ⟨K,0,none⟩),.agg (C8 c),.slice a l.length cc,i64 kind,i64 idx,i64 field] V fun e' w'=>rG V K (j2 e c l) e' w':=by
 try unfold C8
 have HH:=ae h;have HL:=ae hl;have HV:=ae hV;have bB:=ae hK
 unfold j2;obtain ⟨H1,TI⟩: ∃H1,IntKind.i64.wrap (c.hours-1)=H1:=⟨_,rfl⟩;rw [TI];clear h hV hl hK;go_enter Tryz.func100,Tryz.ntmps100
 go_upto_region 1 with fail
 obtain ⟨W,hW,x0,Z0,A0⟩:=aB V 32 c.cells;rw [show V.alloc (.cells (C8 c) 32)=W from hW.symm];clear hW;have HF:=ae (HH.out.ext x0);obtain ⟨c0,-⟩:=aq.at A0;have HX:=ae (x0.but K);have HE:=ae (HV.out.trans x0)
 clear Z0 x0;clear A0;go_wp2_with fail
 refine (gU _ _ _ a cc l (HL.out.ext HE.out)).mono ?_;rintro e w1 ⟨rfl,rfl⟩;go_wp2_with fail
 refine (aU _ K _ _ _ _ _ _ HF.out).mono ?_;rintro e w1 ⟨rfl,hf,hx⟩;have p7:=ae (hx.ext HE.out bB.out);have sV:=ae hf;have eK:=ae (HX.out.trans hx)
 clear hf hx c0;go_wp2_with fail
 refine (om _ a cc l (HL.out.ext p7.out)).mono ?_;rintro e w2 ⟨rfl,x2⟩;go_wp2_with fail
 refine (aU _ K _ _ _ _ _ _ (sV.out.ext x2)).mono ?_;rintro e w3 ⟨rfl,hf3,hx3⟩;go_wp2_with fail
 exact bodyPost_end (v:= .tuple #[]) (by simp [results,Tryz.results100,go_sem]) rfl ⟨rfl,hf3,(eK.out.trans (x2.but K)).trans hx3⟩
set_option maxRecDepth 100000 in
theorem jC (w0 V:World) (K:Nat) (c:aq) (e:Int) (a:Option Addr) (cc:Nat) (l:List Int) (lo hi kind idx field:Int) (hK:w0.heap.size≤K) (hV:Ext w0 V) (hl:aA w0 a cc l) (h:FE V K e):
 Calls Tryz.prog 54 #[.pointer (some ⟨K,0,none⟩),.agg (C8 c),.slice a l.length cc,i64 lo,i64 hi,i64 kind,i64 idx,i64 field] V fun e' w'=>rG V K (eo e c l lo hi) e' w':=by
 try unfold C8
 have hle:=hl.le;have di:=hl.cap
 have HH:=ae h;have HL:=ae hl;have HV:=ae hV;have bB:=ae hK
 have hq:((l.length:Int)==c.hours)=decide ((l.length:Int)=c.hours):=by rw [Bool.eq_iff_iff];simp
 unfold eo;rw [←hq];clear h hV hl hK hq;go_enter Tryz.func54,Tryz.ntmps54
 go_upto_region 1 with fail
 obtain ⟨W,hW,x0,Z0,A0⟩:=aB V 32 c.cells;rw [show V.alloc (.cells (C8 c) 32)=W from hW.symm];clear hW;have HF:=ae (HH.out.ext x0);obtain ⟨c0,-⟩:=aq.at A0;have HX:=ae (x0.but K);have HE:=ae (HV.out.trans x0)
 clear Z0 x0;clear A0;go_wp2_with fail
 refine (aU _ K _ _ _ _ _ _ HF.out).mono ?_;rintro e w1 ⟨rfl,hf,hx⟩;have p7:=ae (hx.ext HE.out bB.out);have sV:=ae hf;have eK:=ae (HX.out.trans hx)
 clear hf hx c0;go_wp2_with fail
 refine (gU _ _ _ a cc l (HL.out.ext p7.out)).mono ?_;rintro e w2 ⟨rfl,rfl⟩;go_wp2_with fail
 refine (aU _ K _ _ _ _ _ _ sV.out).mono ?_;rintro e w3 ⟨rfl,hf3,hx3⟩;go_wp2_with fail
 exact bodyPost_end (v:= .tuple #[]) (by simp [results,Tryz.results54,go_sem]) rfl ⟨rfl,hf3,eK.out.trans hx3⟩
def dr (s:ByteArray) (i:Nat):Nat:=if h:i<s.size then s[i].toNat else 0
theorem p8 (s:ByteArray) (i:Nat) (h:i<s.size):dr s i=s[i].toNat:=dif_pos h
def iu (x:Nat):Bool:=decide (97≤x)&&decide (x≤122)
def okB (x:Nat):Bool:=iu x||(decide (48≤x)&&decide (x≤57))||decide (x=95)
def cZ (s:ByteArray):Bool:=decide (1≤s.size)&&decide (s.size≤16)&& !(s.toList== [99,111,114,114,101,99,116,105,118,101])&&iu (dr s 0)&&(List.range s.size).all fun i=>okB (dr s i)
theorem vu {x:Nat} (h:(x<97∨122<x)∧(x<48∨57<x)∧x≠95):okB x=false:=by
 unfold okB iu;simp only [Bool.or_eq_false_iff,Bool.and_eq_false_iff,decide_eq_false_iff_not];omega
theorem yq {x:Nat} (h: ¬((x<97∨122<x)∧(x<48∨57<x)∧x≠95)):okB x=true:=by
 unfold okB iu;simp only [Bool.or_eq_true,Bool.and_eq_true,decide_eq_true_eq];omega
theorem yr {x:Nat} (h:iu x=true):okB x=true:=by unfold okB;rw [h];rfl
theorem vv {s:ByteArray} {i:Nat} (hi:i<s.size) (h:okB (dr s i)=false):cZ s=false:=by
 unfold cZ
 have:(List.range s.size).all (fun i=>okB (dr s i))=false:=by
  rw [List.all_eq_false];exact ⟨i,List.mem_range.2 hi,by rw [h];decide⟩
 rw [this,Bool.and_false]
theorem lj {s:ByteArray} (h1:1≤s.size) (h2:s.size≤16) (h3:(s.toList== [99,111,114,114,101,99,116,105,118,101])=false) (h4:iu (dr s 0)=true) (h5: ∀j,j<s.size→okB (dr s j)=true):cZ s=true:=by
 unfold cZ;rw [h3,h4,List.all_eq_true.2 (fun j hj=>h5 j (List.mem_range.1 hj))];simp [h1,h2]
set_option maxRecDepth 100000 in
theorem I6 (w:World) (s:ByteArray) (hs:s.size≤maxLen):
 Calls Tryz.prog 181 #[.string s] w fun e w'=>e= .returned (.bool (cZ s))∧w'=w:=by
 unfold maxLen at hs;by_cases h1:1≤s.size
 rotate_left
 ·have d1:decide ((s.size:Int)<1)=true:=by simp;omega
  have hn:cZ s=false:=by unfold cZ;simp [h1]
  rw [hn];clear hn;go_enter Tryz.func181,Tryz.ntmps181
  go_wp2_with fail
  go_ret;exact ⟨rfl,rfl⟩
 have d1:decide ((s.size:Int)<1)=false:=by simp;omega
 by_cases h2:s.size≤16
 rotate_left
 ·have d2:decide ((16:Int)<(s.size:Int))=true:=by simp;omega
  have hn:cZ s=false:=by unfold cZ;simp [h2]
  rw [hn];clear hn;go_enter Tryz.func181,Tryz.ntmps181
  go_wp2_with fail
  go_ret;exact ⟨rfl,rfl⟩
 have d2:decide ((16:Int)<(s.size:Int))=false:=by simp;omega
 cases d3:(s.toList== [99,111,114,114,101,99,116,105,118,101])with
 |true=>
  have hn:cZ s=false:=by unfold cZ;rw [d3];simp
  rw [hn];clear hn;go_enter Tryz.func181,Tryz.ntmps181
  go_wp2_with fail
  go_ret;exact ⟨rfl,rfl⟩
 |false=>
  have z0:0<s.size:=by omega
  have e0:=p8 s 0 z0;by_cases h4:iu (dr s 0)=true
  rotate_left
  ·have hn:cZ s=false:=by unfold cZ;simp [h4]
   rw [hn];rw [e0]at h4;unfold iu at h4
   have hq:decide (((s[0].toNat:Nat):Int)<97)=true∨(decide (((s[0].toNat:Nat):Int)<97)=false∧decide ((122:Int)<((s[0].toNat:Nat):Int))=true):=by
    simp at h4⊢;omega
   clear hn h4 e0;rcases hq with q1|⟨q1,q2⟩
   ·go_enter Tryz.func181,Tryz.ntmps181
    go_wp2_with fail
    go_ret;exact ⟨rfl,rfl⟩
   ·go_enter Tryz.func181,Tryz.ntmps181
    go_wp2_with fail
    go_ret;exact ⟨rfl,rfl⟩
  have TJ:=ae h4;rw [e0]at h4;unfold iu at h4;have q1:decide (((s[0].toNat:Nat):Int)<97)=false:=by simp at h4⊢;omega
  have q2:decide ((122:Int)<((s[0].toNat:Nat):Int))=false:=by simp at h4⊢;omega
  clear h4 e0;have NU:=ae d3;go_enter Tryz.func181,Tryz.ntmps181
  go_wp2_with fail
  go_loopw [29] (fun ii wr=> ∃i:Nat,i≤s.size∧wr=w∧(∀j,j<i→okB (dr s j)=true)∧ii= .int .i64 i) (fun ii _=>s.size-(intOf ii).toNat)
  case atStart=>exact ⟨0,Nat.zero_le _,rfl,fun j hj=>absurd hj (Nat.not_lt_zero _),rfl⟩
  case round=>
   obtain ⟨i,hi,rfl,hA,rfl⟩:=hrel;by_cases hlt:i<s.size
   ·have ei:=p8 s i hlt
    have HA:=ae hA;have fM:(0:Int)≤(i:Int):=by omega
    have fH:(i:Int)<(s.size:Int):=by omega
    obtain ⟨x,hx⟩: ∃x:Nat,s[i].toNat=x:=⟨_,rfl⟩;rw [hx]at ei;have KH:=ae ei;clear hA ei q1 q2 d1 d2 d3
    have hq:(decide ((x:Int)<97)=false∧decide ((122:Int)<(x:Int))=false)∨(decide ((x:Int)<97)=true∧decide ((x:Int)<48)=true∧((x:Int) !=95)=true)∨(decide ((x:Int)<97)=true∧decide ((x:Int)<48)=false∧decide ((57:Int)<(x:Int))=false)∨(decide ((x:Int)<97)=true∧decide ((x:Int)<48)=false∧decide ((57:Int)<(x:Int))=true∧((x:Int) !=95)=true)∨(decide ((x:Int)<97)=true∧decide ((x:Int)<48)=false∧decide ((57:Int)<(x:Int))=true∧((x:Int) !=95)=false)∨(decide ((x:Int)<97)=false∧decide ((122:Int)<(x:Int))=true∧decide ((x:Int)<48)=false∧decide ((57:Int)<(x:Int))=true∧((x:Int) !=95)=true):=by
     simp only [decide_eq_true_eq,decide_eq_false_iff_not,bne_iff_ne,ne_eq,bne_eq_false_iff_eq];omega
    have eR:okB (dr s i)=okB x:=by rw [KH.out]
    have qP:okB x=true→ ∀j,j<i+1→okB (dr s j)=true:=fun ht j hj=>by
     by_cases rF:j=i
     ·subst rF;rw [KH.out];exact ht
     ·exact HA.out j (by omega)
    have gN:okB x=false→cZ s=false:=fun hf=>vv hlt (by rw [KH.out];exact hf);have gf:= @vu x;have gt:= @yq x;rcases hq with⟨q1,q2⟩|⟨q1,q3,q5⟩|⟨q1,q3,q4⟩|⟨q1,q3,q4,q5⟩|⟨q1,q3,q4,q5⟩|⟨q1,q2,q3,q4,q5⟩
    ·have HN:=ae (qP (gt (by simp only [decide_eq_true_eq,decide_eq_false_iff_not,bne_iff_ne,ne_eq,bne_eq_false_iff_eq]at q1 q2;omega)))
     clear qP gN gf gt eR;go_wp2_with fail
     exact ⟨⟨i+1,by omega,by first|trivial|rfl,HN.out,by go_num⟩,by simp only [intOf];omega⟩
    ·have HN:=ae (gN (gf (by simp only [decide_eq_true_eq,decide_eq_false_iff_not,bne_iff_ne,ne_eq,bne_eq_false_iff_eq]at q1 q3 q5;omega)))
     clear qP gN gf gt eR;go_wp2_with fail
     go_ret;exact ⟨by rw [HN.out];rfl,rfl⟩
    ·have HN:=ae (qP (gt (by simp only [decide_eq_true_eq,decide_eq_false_iff_not,bne_iff_ne,ne_eq,bne_eq_false_iff_eq]at q1 q3 q4;omega)))
     clear qP gN gf gt eR;go_wp2_with fail
     exact ⟨⟨i+1,by omega,by first|trivial|rfl,HN.out,by go_num⟩,by simp only [intOf];omega⟩
    ·have HN:=ae (gN (gf (by simp only [decide_eq_true_eq,decide_eq_false_iff_not,bne_iff_ne,ne_eq,bne_eq_false_iff_eq]at q1 q3 q4 q5;omega)))
     clear qP gN gf gt eR;go_wp2_with fail
     go_ret;exact ⟨by rw [HN.out];rfl,rfl⟩
    ·have HN:=ae (qP (gt (by simp only [decide_eq_true_eq,decide_eq_false_iff_not,bne_iff_ne,ne_eq,bne_eq_false_iff_eq]at q1 q3 q4 q5;omega)))
     clear qP gN gf gt eR;go_wp2_with fail
     exact ⟨⟨i+1,by omega,by first|trivial|rfl,HN.out,by go_num⟩,by simp only [intOf];omega⟩
    ·have HN:=ae (gN (gf (by simp only [decide_eq_true_eq,decide_eq_false_iff_not,bne_iff_ne,ne_eq,bne_eq_false_iff_eq]at q1 q2 q3 q4 q5;omega)))
     clear qP gN gf gt eR;go_wp2_with fail
     go_ret;exact ⟨by rw [HN.out];rfl,rfl⟩
   ·have hn:=lj h1 h2 NU.out TJ.out (fun j hj=>hA j (by omega))
    clear hA;go_wp2_with fail
    go_ret;exact ⟨by rw [hn];rfl,rfl⟩
theorem Dd {x:Nat} (h:97≤x∧x≤122):iu x=true:=by unfold iu;simp [h.1,h.2]
theorem Ay {x:Nat} (h: ¬(97≤x∧x≤122)):iu x=false:=by
 unfold iu;simp only [Bool.and_eq_false_iff,decide_eq_false_iff_not];omega
theorem De {s:ByteArray} (h:iu (dr s 0)=false):cZ s=false:=by unfold cZ;simp [h]
set_option maxHeartbeats 1000000 in
set_option maxRecDepth 100000 in
theorem Fi (w:World) (s:ByteArray) (hs:s.size≤maxLen):
 Calls Tryz.prog 97 #[.string s] w fun e w'=>e= .returned (.bool (cZ s))∧w'=w:=by
 unfold maxLen at hs;by_cases h1:1≤s.size
 rotate_left
 ·have d1:decide ((s.size:Int)<1)=true:=by simp;omega
  have hn:cZ s=false:=by unfold cZ;simp [h1]
  rw [hn];clear hn;go_enter Tryz.func97,Tryz.ntmps97
  go_wp2_with fail
  go_ret;exact ⟨rfl,rfl⟩
 have d1:decide ((s.size:Int)<1)=false:=by simp;omega
 by_cases h2:s.size≤16
 rotate_left
 ·have d2:decide ((16:Int)<(s.size:Int))=true:=by simp;omega
  have hn:cZ s=false:=by unfold cZ;simp [h2]
  rw [hn];clear hn;go_enter Tryz.func97,Tryz.ntmps97
  go_wp2_with fail
  go_ret;exact ⟨rfl,rfl⟩
 have d2:decide ((16:Int)<(s.size:Int))=false:=by simp;omega
 cases d3:(s.toList== [99,111,114,114,101,99,116,105,118,101])with
 |true=>
  have hn:cZ s=false:=by unfold cZ;rw [d3];simp
  rw [hn];clear hn;go_enter Tryz.func97,Tryz.ntmps97
  go_wp2_with fail
  go_ret;exact ⟨rfl,rfl⟩
 |false=>
  have NU:=ae d3;go_enter Tryz.func97,Tryz.ntmps97
  go_wp2_with fail
  go_loopw [3] (fun ii wr=> ∃i:Nat,i≤s.size∧wr=w∧(∀j,j<i→okB (dr s j)=true)∧(0<i→iu (dr s 0)=true)∧ii= .int .i64 i) (fun ii _=>s.size-(intOf ii).toNat)
  case atStart=>exact ⟨0,Nat.zero_le _,rfl,fun j hj=>absurd hj (Nat.not_lt_zero _),fun h=>absurd h (Nat.lt_irrefl _),rfl⟩
  case round=>
   obtain ⟨i,hi,rfl,hA,hL,rfl⟩:=hrel;by_cases hlt:i<s.size
   ·have ei:=p8 s i hlt
    have HA:=ae hA;have HL:=ae hL
    have fM:(0:Int)≤(i:Int):=by omega
    have fH:(i:Int)<(s.size:Int):=by omega
    obtain ⟨x,hx⟩: ∃x:Nat,s[i].toNat=x:=⟨_,rfl⟩;rw [hx]at ei;have KH:=ae ei;clear hA hL ei d1 d2 d3
    have qP:okB x=true→(i=0→iu x=true)→(∀j,j<i+1→okB (dr s j)=true)∧(0<i+1→iu (dr s 0)=true):=fun ht hl=>⟨fun j hj=>by
     by_cases rF:j=i
     ·subst rF;rw [KH.out];exact ht
     ·exact HA.out j (by omega),fun _=>by
     by_cases h0:i=0
     ·have:=hl h0;subst h0;rw [KH.out];exact this
     ·exact HL.out (by omega)⟩
    have gN:okB x=false→cZ s=false:=fun hf=>vv hlt (by rw [KH.out];exact hf);have kE:i=0→iu x=false→cZ s=false:=fun h0 hf=>De (by subst h0;rw [KH.out];exact hf);have gf:= @vu x;have gt:= @yq x;have lf:= @Ay x;have lt:= @Dd x;cases q1:decide ((97:Int)≤(x:Int))with
    |false=>
     cases q3:((i:Int)==0)with
     |false=>
      cases q4:((x:Int) !=95)with
      |false=>
       have HN:Hid ((∀j,j<i+1→okB (dr s j)=true)∧(0<i+1→iu (dr s 0)=true)):=qP (gt (by have p1:=q1;have p3:=q3;have p4:=q4;simp only [decide_eq_true_eq,decide_eq_false_iff_not,bne_iff_ne,ne_eq,bne_eq_false_iff_eq,beq_iff_eq,beq_eq_false_iff_ne]at p1 p3 p4;omega)) (fun h0=>by first|(exact lt (by have p1:=q1;have p3:=q3;have p4:=q4;simp only [decide_eq_true_eq,decide_eq_false_iff_not,bne_iff_ne,ne_eq,bne_eq_false_iff_eq,beq_iff_eq,beq_eq_false_iff_ne]at p1 p3 p4;omega))|(exfalso;have p1:=q1;have p3:=q3;have p4:=q4;simp only [decide_eq_true_eq,decide_eq_false_iff_not,bne_iff_ne,ne_eq,bne_eq_false_iff_eq,beq_iff_eq,beq_eq_false_iff_ne]at p1 p3 p4;omega));clear qP gN kE gf gt lf lt;go_wp2_with fail
       exact ⟨⟨i+1,by omega,by first|trivial|rfl,HN.out.1,HN.out.2,by go_num⟩,by simp only [intOf];omega⟩
      |true=>
       cases q5:decide ((x:Int)<48)with
       |false=>
        cases q6:decide ((57:Int)<(x:Int))with
        |false=>
         have HN:Hid ((∀j,j<i+1→okB (dr s j)=true)∧(0<i+1→iu (dr s 0)=true)):=qP (gt (by have p1:=q1;have p3:=q3;have p4:=q4;have p5:=q5;have p6:=q6;simp only [decide_eq_true_eq,decide_eq_false_iff_not,bne_iff_ne,ne_eq,bne_eq_false_iff_eq,beq_iff_eq,beq_eq_false_iff_ne]at p1 p3 p4 p5 p6;omega)) (fun h0=>by first|(exact lt (by have p1:=q1;have p3:=q3;have p4:=q4;have p5:=q5;have p6:=q6;simp only [decide_eq_true_eq,decide_eq_false_iff_not,bne_iff_ne,ne_eq,bne_eq_false_iff_eq,beq_iff_eq,beq_eq_false_iff_ne]at p1 p3 p4 p5 p6;omega))|(exfalso;have p1:=q1;have p3:=q3;have p4:=q4;have p5:=q5;have p6:=q6;simp only [decide_eq_true_eq,decide_eq_false_iff_not,bne_iff_ne,ne_eq,bne_eq_false_iff_eq,beq_iff_eq,beq_eq_false_iff_ne]at p1 p3 p4 p5 p6;omega));clear qP gN kE gf gt lf lt;go_wp2_with fail
         exact ⟨⟨i+1,by omega,by first|trivial|rfl,HN.out.1,HN.out.2,by go_num⟩,by simp only [intOf];omega⟩
        |true=>
         have HN:Hid (cZ s=false):=gN (gf (by have p1:=q1;have p3:=q3;have p4:=q4;have p5:=q5;have p6:=q6;simp only [decide_eq_true_eq,decide_eq_false_iff_not,bne_iff_ne,ne_eq,bne_eq_false_iff_eq,beq_iff_eq,beq_eq_false_iff_ne]at p1 p3 p4 p5 p6;omega));clear qP gN kE gf gt lf lt;go_wp2_with fail
         go_ret;exact ⟨by rw [HN.out];rfl,rfl⟩
       |true=>
        have HN:Hid (cZ s=false):=gN (gf (by have p1:=q1;have p3:=q3;have p4:=q4;have p5:=q5;simp only [decide_eq_true_eq,decide_eq_false_iff_not,bne_iff_ne,ne_eq,bne_eq_false_iff_eq,beq_iff_eq,beq_eq_false_iff_ne]at p1 p3 p4 p5;omega));clear qP gN kE gf gt lf lt;go_wp2_with fail
        go_ret;exact ⟨by rw [HN.out];rfl,rfl⟩
     |true=>
      have HN:Hid (cZ s=false):=kE (by have p1:=q1;have p3:=q3;simp only [decide_eq_true_eq,decide_eq_false_iff_not,bne_iff_ne,ne_eq,bne_eq_false_iff_eq,beq_iff_eq,beq_eq_false_iff_ne]at p1 p3;omega) (lf (by have p1:=q1;have p3:=q3;simp only [decide_eq_true_eq,decide_eq_false_iff_not,bne_iff_ne,ne_eq,bne_eq_false_iff_eq,beq_iff_eq,beq_eq_false_iff_ne]at p1 p3;omega));clear qP gN kE gf gt lf lt;go_wp2_with fail
      go_ret;exact ⟨by rw [HN.out];rfl,rfl⟩
    |true=>
     cases q2:decide ((x:Int)≤122)with
     |false=>
      cases q3:((i:Int)==0)with
      |false=>
       cases q4:((x:Int) !=95)with
       |false=>
        have HN:Hid ((∀j,j<i+1→okB (dr s j)=true)∧(0<i+1→iu (dr s 0)=true)):=qP (gt (by have p1:=q1;have p2:=q2;have p3:=q3;have p4:=q4;simp only [decide_eq_true_eq,decide_eq_false_iff_not,bne_iff_ne,ne_eq,bne_eq_false_iff_eq,beq_iff_eq,beq_eq_false_iff_ne]at p1 p2 p3 p4;omega)) (fun h0=>by first|(exact lt (by have p1:=q1;have p2:=q2;have p3:=q3;have p4:=q4;simp only [decide_eq_true_eq,decide_eq_false_iff_not,bne_iff_ne,ne_eq,bne_eq_false_iff_eq,beq_iff_eq,beq_eq_false_iff_ne]at p1 p2 p3 p4;omega))|(exfalso;have p1:=q1;have p2:=q2;have p3:=q3;have p4:=q4;simp only [decide_eq_true_eq,decide_eq_false_iff_not,bne_iff_ne,ne_eq,bne_eq_false_iff_eq,beq_iff_eq,beq_eq_false_iff_ne]at p1 p2 p3 p4;omega));clear qP gN kE gf gt lf lt;go_wp2_with fail
        exact ⟨⟨i+1,by omega,by first|trivial|rfl,HN.out.1,HN.out.2,by go_num⟩,by simp only [intOf];omega⟩
       |true=>
        cases q5:decide ((x:Int)<48)with
        |false=>
         cases q6:decide ((57:Int)<(x:Int))with
         |false=>
          have HN:Hid ((∀j,j<i+1→okB (dr s j)=true)∧(0<i+1→iu (dr s 0)=true)):=qP (gt (by have p1:=q1;have p2:=q2;have p3:=q3;have p4:=q4;have p5:=q5;have p6:=q6;simp only [decide_eq_true_eq,decide_eq_false_iff_not,bne_iff_ne,ne_eq,bne_eq_false_iff_eq,beq_iff_eq,beq_eq_false_iff_ne]at p1 p2 p3 p4 p5 p6;omega)) (fun h0=>by first|(exact lt (by have p1:=q1;have p2:=q2;have p3:=q3;have p4:=q4;have p5:=q5;have p6:=q6;simp only [decide_eq_true_eq,decide_eq_false_iff_not,bne_iff_ne,ne_eq,bne_eq_false_iff_eq,beq_iff_eq,beq_eq_false_iff_ne]at p1 p2 p3 p4 p5 p6;omega))|(exfalso;have p1:=q1;have p2:=q2;have p3:=q3;have p4:=q4;have p5:=q5;have p6:=q6;simp only [decide_eq_true_eq,decide_eq_false_iff_not,bne_iff_ne,ne_eq,bne_eq_false_iff_eq,beq_iff_eq,beq_eq_false_iff_ne]at p1 p2 p3 p4 p5 p6;omega));clear qP gN kE gf gt lf lt;go_wp2_with fail
          exact ⟨⟨i+1,by omega,by first|trivial|rfl,HN.out.1,HN.out.2,by go_num⟩,by simp only [intOf];omega⟩
         |true=>
          have HN:Hid (cZ s=false):=gN (gf (by have p1:=q1;have p2:=q2;have p3:=q3;have p4:=q4;have p5:=q5;have p6:=q6;simp only [decide_eq_true_eq,decide_eq_false_iff_not,bne_iff_ne,ne_eq,bne_eq_false_iff_eq,beq_iff_eq,beq_eq_false_iff_ne]at p1 p2 p3 p4 p5 p6;omega));clear qP gN kE gf gt lf lt;go_wp2_with fail
          go_ret;exact ⟨by rw [HN.out];rfl,rfl⟩
        |true=>
         have HN:Hid (cZ s=false):=gN (gf (by have p1:=q1;have p2:=q2;have p3:=q3;have p4:=q4;have p5:=q5;simp only [decide_eq_true_eq,decide_eq_false_iff_not,bne_iff_ne,ne_eq,bne_eq_false_iff_eq,beq_iff_eq,beq_eq_false_iff_ne]at p1 p2 p3 p4 p5;omega));clear qP gN kE gf gt lf lt;go_wp2_with fail
         go_ret;exact ⟨by rw [HN.out];rfl,rfl⟩
      |true=>
       have HN:Hid (cZ s=false):=kE (by have p1:=q1;have p2:=q2;have p3:=q3;simp only [decide_eq_true_eq,decide_eq_false_iff_not,bne_iff_ne,ne_eq,bne_eq_false_iff_eq,beq_iff_eq,beq_eq_false_iff_ne]at p1 p2 p3;omega) (lf (by have p1:=q1;have p2:=q2;have p3:=q3;simp only [decide_eq_true_eq,decide_eq_false_iff_not,bne_iff_ne,ne_eq,bne_eq_false_iff_eq,beq_iff_eq,beq_eq_false_iff_ne]at p1 p2 p3;omega));clear qP gN kE gf gt lf lt;go_wp2_with fail
       go_ret;exact ⟨by rw [HN.out];rfl,rfl⟩
     |true=>
      have HN:Hid ((∀j,j<i+1→okB (dr s j)=true)∧(0<i+1→iu (dr s 0)=true)):=qP (gt (by have p1:=q1;have p2:=q2;simp only [decide_eq_true_eq,decide_eq_false_iff_not,bne_iff_ne,ne_eq,bne_eq_false_iff_eq,beq_iff_eq,beq_eq_false_iff_ne]at p1 p2;omega)) (fun h0=>by first|(exact lt (by have p1:=q1;have p2:=q2;simp only [decide_eq_true_eq,decide_eq_false_iff_not,bne_iff_ne,ne_eq,bne_eq_false_iff_eq,beq_iff_eq,beq_eq_false_iff_ne]at p1 p2;omega))|(exfalso;have p1:=q1;have p2:=q2;simp only [decide_eq_true_eq,decide_eq_false_iff_not,bne_iff_ne,ne_eq,bne_eq_false_iff_eq,beq_iff_eq,beq_eq_false_iff_ne]at p1 p2;omega));clear qP gN kE gf gt lf lt;go_wp2_with fail
      exact ⟨⟨i+1,by omega,by first|trivial|rfl,HN.out.1,HN.out.2,by go_num⟩,by simp only [intOf];omega⟩
   ·have hn:=lj h1 h2 NU.out (hL (by omega)) (fun j hj=>hA j (by omega))
    clear hA hL;go_wp2_with fail
    go_ret;exact ⟨by rw [hn];rfl,rfl⟩
def xN (p q:ByteArray):Bool:= !(p.toList==q.toList)
def St.kF (s:St) (nm:ByteArray) (prev:List ByteArray):St:=prev.foldl (fun s p=>s.need (xN p nm) 0 10) s
def St.name (s:St) (nm:ByteArray) (prev:List ByteArray):St:=(s.need (cZ nm) 0 9).kF nm prev
theorem St.Fj (s:St) (ok:Bool) (f e:Int):(s.need ok f e).idx=s.idx:=by unfold St.need;split<;>rfl
theorem St.mr (s:St) (nm:ByteArray) (prev:List ByteArray) (h:s.err≠0):s.kF nm prev=s:=by
 unfold St.kF;induction prev with
 |nil=>rfl
 |cons x l ih=>rw [List.foldl_cons,St.fQ s _ _ _ h,ih]
theorem St.Df (s:St) (nm:ByteArray) (prev:List ByteArray) (i:Nat) (h:i<prev.length):s.kF nm (prev.take (i+1))=(s.kF nm (prev.take i)).need (xN prev[i] nm) 0 10:=by
 unfold St.kF;rw [List.take_succ_eq_append_getElem h,List.foldl_append];rfl
theorem St.Dg (s:St) (nm:ByteArray) (prev:List ByteArray) (i:Nat) (h:(s.kF nm (prev.take i)).err≠0):s.kF nm (prev.take i)=s.kF nm prev:=by
 have h1:s.kF nm prev=(s.kF nm (prev.take i)).kF nm (prev.drop i):=by
  unfold St.kF;rw [←List.foldl_append,List.take_append_drop]
 rw [h1,St.mr _ _ _ h]
theorem St.vw {s:St} {ok:Bool} {f e:Int} (h:(s.need ok f e).err=0):s.err=0:=by
 by_cases h0:s.err=0
 ·exact h0
 ·rw [St.fQ s ok f e h0]at h;exact h
theorem St.Dh {s:St} {nm:ByteArray} {prev:List ByteArray} (h:(s.kF nm prev).err=0):s.err=0:=by
 by_cases h0:s.err=0
 ·exact h0
 ·rw [St.mr s nm prev h0]at h;exact h
set_option maxHeartbeats 400000 in
set_option maxRecDepth 100000 in
theorem p9 (V:World) (K:Nat) (c:aq) (s:St) (nm:ByteArray) (vx:nm.size≤maxLen) (prev:List ByteArray) (F:Nat) (B:Nat) (jW:s.err=0→s.idx=(prev.length:Int)) (hpl:prev.length≤1000000)
 (hen: ∀args w,(callFunc F args).run Tryz.prog w= .ok (.enter F args) w)
 (hF: ∀V' s' (i:Nat) (hi:i<prev.length),ak K V V'→cY V' K c s'→Calls Tryz.prog F #[i64 i,.pointer (some ⟨B,0,none⟩)] V' fun e w'=>e= .returned (.string prev[i])∧w'=V') (h:cY V K c s):
 Calls Tryz.prog 135 #[.pointer (some ⟨K,0,none⟩),.string nm,.func (.func F) #[] #[.pointer (some ⟨B,0,none⟩)]] V fun e' w'=>km V K c (s.name nm prev) e' w':=by
 have hC:=bN V K c s (cZ nm) 0 9 h;unfold St.name;have Lx:=St.Fj s (cZ nm) 0 9;have hz:= @St.vw s (cZ nm) 0 9;have hne:=St.fQ s (cZ nm) 0 9;obtain ⟨s1,hs1⟩: ∃s1,s.need (cZ nm) 0 9=s1:=⟨_,rfl⟩;rw [hs1]at hC Lx hz hne⊢;have KI:s1.err=0→s1.idx=(prev.length:Int):=fun h0=>by rw [Lx];exact jW (hz h0)
 have HC:=ae hC;have HF:=ae hF;have HI:=ae KI;have HN:=ae (I6 V nm vx)
 clear hs1 hC hF KI jW Lx hz hne h;go_enter Tryz.func135,Tryz.ntmps135
 go_wp2_with fail
 refine HN.out.mono ?_;rintro e w1 ⟨rfl,eE⟩;subst eE;go_wp2_with fail
 refine HC.out.mono ?_;rintro e w1 ⟨rfl,oJ,hx1⟩;obtain ⟨-,c9,-⟩:=mq oJ;have H1:=ae oJ;have X1:=ae hx1
 clear oJ hx1 HC HN;go_wp2_with fail
 clear c9;go_loopw [16] (fun ii wr=> ∃i:Nat,cY wr K c (s1.kF nm (prev.take i))∧ak K w1 wr∧(s1.err=0→i≤prev.length)∧(s1.err≠0→i=0)∧ii= .int .i64 i) (fun ii _=>(s1.idx-intOf ii).toNat)
 case atStart=>exact ⟨0,H1.out,ak.refl _ _,fun _=>Nat.zero_le _,fun _=>rfl,rfl⟩
 case round=>
  obtain ⟨i,hk,hx,hle,hz,rfl⟩:=hrel;clear H1;by_cases hlt:(i:Int)<s1.idx
  ·have t0:decide ((i:Int)<s1.idx)=true:=by simpa using hlt
   obtain ⟨-,-,-,c11,-⟩:=mq hk;have TK:= @St.Dh s1 nm (prev.take i);have hst:=St.Dg s1 nm prev i;have TL:=St.Df s1 nm prev i;generalize s1.kF nm (prev.take i)=s2 at*;by_cases h0:s2.err=0
   ·have t1:(s2.err !=0)=false:=by simpa using h0
    have Ac:=TK h0;have jW:=HI.out Ac;have oK:i<prev.length:=by omega
    have O2:=ae (HF.out wr s2 i oK (X1.out.trans hx) hk);have Xj:=ae (bN wr K c s2 (xN prev[i] nm) 0 10 hk);have HT:=ae (TL oK);have HX:=ae hx
    unfold xN at Xj;clear TK hst TL hk hx h0 jW hle hz;go_wp2_with fail
    refine O2.out.mono ?_;rintro e w2 ⟨rfl,hw2⟩;subst hw2;go_wp2_with fail
    refine Xj.out.mono ?_;rintro e w3 ⟨rfl,hk3,hx3⟩;go_wp2_with fail
    exact ⟨⟨i+1,by rw [HT.out];exact hk3,HX.out.trans hx3,fun _=>by omega,fun hc=>absurd Ac hc,by go_num⟩,by simp only [intOf];omega⟩
   ·have t1:(s2.err !=0)=true:=by simpa using h0
    have HS:=ae (hst h0);have pS:=ae hk;have HX:=ae hx
    clear TK hst TL h0 hk hx;go_wp2_with fail
    exact bodyPost_ret (v:= .tuple #[]) (by simp [results,Tryz.results135,go_sem]) rfl ⟨rfl,by rw [←HS.out];exact pS.out,X1.out.trans HX.out⟩
  ·have t0:decide ((i:Int)<s1.idx)=false:=by simpa using hlt
   have yl:s1.kF nm (prev.take i)=s1.kF nm prev:=by
    by_cases he:s1.err=0
    ·have h1:=hle he
     have h2:=HI.out he;rw [List.take_of_length_le (by omega)]
    ·rw [St.mr _ _ _ he,St.mr _ _ _ he]
   rw [yl]at hk;clear yl hle hz;go_wp2_with fail
   exact bodyPost_end (v:= .tuple #[]) (by simp [results,Tryz.results135,go_sem]) rfl ⟨rfl,hk,X1.out.trans hx⟩
theorem bP.au {w:World} {a:Option Addr} {c:Nat} {l:List cN} (h:bP w 3 a c (l.map cN.cells)) (i:Nat) (hi:i<l.length): ∃b o,a=some ⟨b,o,none⟩∧w.cell? ⟨b,o+i*3,none⟩=some (.string l[i].name)∧w.cell? ⟨b,o+i*3+1,none⟩=some (.slice l[i].da l[i].bU.length l[i].dc)∧w.cell? ⟨b,o+i*3+2,none⟩=some (i64 l[i].gF):=by
 obtain ⟨b,o,ha,hc⟩:=h.cell i (by simpa using hi);simp only [List.getElem_map]at hc;exact ⟨b,o,ha,hc 0 (by simp [cN.cells]),hc 1 (by simp [cN.cells]),hc 2 (by simp [cN.cells])⟩
theorem cN.at {w:World} {E:Nat} {T:TypeId} {x:cN} (h:aG w E T x.cells):w.cell? ⟨E,0,none⟩=some (.string x.name)∧w.cell? ⟨E,1,none⟩=some (.slice x.da x.bU.length x.dc)∧w.cell? ⟨E,2,none⟩=some (i64 x.gF):=
 ⟨(h.cell 0).trans rfl,(h.cell 1).trans rfl,(h.cell 2).trans rfl⟩
theorem bP.lines {w:World} {a:Option Addr} {c:Nat} {l:List aS} (h:bP w 12 a c (l.map aS.cells)) (i:Nat) (hi:i<l.length): ∃b o,a=some ⟨b,o,none⟩∧w.cell? ⟨b,o+i*12,none⟩=some (.string l[i].name)∧w.cell? ⟨b,o+i*12+1,none⟩=some (i64 l[i].cd)∧w.cell? ⟨b,o+i*12+2,none⟩=some (i64 l[i].ie)∧w.cell? ⟨b,o+i*12+3,none⟩=some (i64 l[i].rn)∧w.cell? ⟨b,o+i*12+4,none⟩=some (i64 l[i].rd)∧w.cell? ⟨b,o+i*12+5,none⟩=some (i64 l[i].iH)∧w.cell? ⟨b,o+i*12+6,none⟩=some (i64 l[i].kq)∧w.cell? ⟨b,o+i*12+7,none⟩=some (i64 l[i].iO)∧w.cell? ⟨b,o+i*12+8,none⟩=some (i64 l[i].lg)∧w.cell? ⟨b,o+i*12+9,none⟩=some (i64 l[i].cf)∧w.cell? ⟨b,o+i*12+10,none⟩=some (i64 l[i].gw)∧w.cell? ⟨b,o+i*12+11,none⟩=some (.slice l[i].aa l[i].away.length l[i].ac):=by
 obtain ⟨b,o,ha,hc⟩:=h.cell i (by simpa using hi);simp only [List.getElem_map]at hc;exact ⟨b,o,ha,hc 0 (by simp [aS.cells]),hc 1 (by simp [aS.cells]),hc 2 (by simp [aS.cells]),hc 3 (by simp [aS.cells]),hc 4 (by simp [aS.cells]),hc 5 (by simp [aS.cells]),hc 6 (by simp [aS.cells]),hc 7 (by simp [aS.cells]),hc 8 (by simp [aS.cells]),hc 9 (by simp [aS.cells]),hc 10 (by simp [aS.cells]),hc 11 (by simp [aS.cells])⟩
theorem aS.at {w:World} {E:Nat} {T:TypeId} {x:aS} (h:aG w E T x.cells):w.cell? ⟨E,0,none⟩=some (.string x.name)∧w.cell? ⟨E,1,none⟩=some (i64 x.cd)∧w.cell? ⟨E,2,none⟩=some (i64 x.ie)∧w.cell? ⟨E,3,none⟩=some (i64 x.rn)∧w.cell? ⟨E,4,none⟩=some (i64 x.rd)∧w.cell? ⟨E,5,none⟩=some (i64 x.iH)∧w.cell? ⟨E,6,none⟩=some (i64 x.kq)∧w.cell? ⟨E,7,none⟩=some (i64 x.iO)∧w.cell? ⟨E,8,none⟩=some (i64 x.lg)∧w.cell? ⟨E,9,none⟩=some (i64 x.cf)∧w.cell? ⟨E,10,none⟩=some (i64 x.gw)∧w.cell? ⟨E,11,none⟩=some (.slice x.aa x.away.length x.ac):=
 ⟨(h.cell 0).trans rfl,(h.cell 1).trans rfl,(h.cell 2).trans rfl,(h.cell 3).trans rfl,(h.cell 4).trans rfl,(h.cell 5).trans rfl,(h.cell 6).trans rfl,(h.cell 7).trans rfl,(h.cell 8).trans rfl,(h.cell 9).trans rfl,(h.cell 10).trans rfl,(h.cell 11).trans rfl⟩
theorem bP.aj {w:World} {a:Option Addr} {c:Nat} {l:List aF} (h:bP w 22 a c (l.map aF.cells)) (i:Nat) (hi:i<l.length): ∃b o,a=some ⟨b,o,none⟩∧w.cell? ⟨b,o+i*22,none⟩=some (.string l[i].name)∧w.cell? ⟨b,o+i*22+1,none⟩=some (i64 l[i].cX)∧w.cell? ⟨b,o+i*22+2,none⟩=some (i64 l[i].min)∧w.cell? ⟨b,o+i*22+3,none⟩=some (i64 l[i].max)∧w.cell? ⟨b,o+i*22+4,none⟩=some (.slice l[i].sa l[i].aI.length l[i].sc)∧w.cell? ⟨b,o+i*22+5,none⟩=some (i64 l[i].cg)∧w.cell? ⟨b,o+i*22+6,none⟩=some (i64 l[i].cj)∧w.cell? ⟨b,o+i*22+7,none⟩=some (i64 l[i].a_)∧w.cell? ⟨b,o+i*22+8,none⟩=some (i64 l[i].aW)∧w.cell? ⟨b,o+i*22+9,none⟩=some (i64 l[i].bf)∧w.cell? ⟨b,o+i*22+10,none⟩=some (i64 l[i].bQ)∧w.cell? ⟨b,o+i*22+11,none⟩=some (i64 l[i].bg)∧w.cell? ⟨b,o+i*22+12,none⟩=some (i64 l[i].startTime)∧w.cell? ⟨b,o+i*22+13,none⟩=some (i64 l[i].bA)∧w.cell? ⟨b,o+i*22+14,none⟩=some (i64 l[i].bh)∧w.cell? ⟨b,o+i*22+15,none⟩=some (i64 l[i].bj)∧w.cell? ⟨b,o+i*22+16,none⟩=some (i64 l[i].az)∧w.cell? ⟨b,o+i*22+17,none⟩=some (i64 l[i].aJ)∧w.cell? ⟨b,o+i*22+18,none⟩=some (.slice l[i].aa l[i].away.length l[i].ac)∧w.cell? ⟨b,o+i*22+19,none⟩=some (i64 l[i].state)∧w.cell? ⟨b,o+i*22+20,none⟩=some (i64 l[i].hours)∧w.cell? ⟨b,o+i*22+21,none⟩=some (i64 l[i].output):=by
 obtain ⟨b,o,ha,hc⟩:=h.cell i (by simpa using hi);simp only [List.getElem_map]at hc;exact ⟨b,o,ha,hc 0 (by simp [aF.cells]),hc 1 (by simp [aF.cells]),hc 2 (by simp [aF.cells]),hc 3 (by simp [aF.cells]),hc 4 (by simp [aF.cells]),hc 5 (by simp [aF.cells]),hc 6 (by simp [aF.cells]),hc 7 (by simp [aF.cells]),hc 8 (by simp [aF.cells]),hc 9 (by simp [aF.cells]),hc 10 (by simp [aF.cells]),hc 11 (by simp [aF.cells]),hc 12 (by simp [aF.cells]),hc 13 (by simp [aF.cells]),hc 14 (by simp [aF.cells]),hc 15 (by simp [aF.cells]),hc 16 (by simp [aF.cells]),hc 17 (by simp [aF.cells]),hc 18 (by simp [aF.cells]),hc 19 (by simp [aF.cells]),hc 20 (by simp [aF.cells]),hc 21 (by simp [aF.cells])⟩
theorem aF.at {w:World} {E:Nat} {T:TypeId} {x:aF} (h:aG w E T x.cells):w.cell? ⟨E,0,none⟩=some (.string x.name)∧w.cell? ⟨E,1,none⟩=some (i64 x.cX)∧w.cell? ⟨E,2,none⟩=some (i64 x.min)∧w.cell? ⟨E,3,none⟩=some (i64 x.max)∧w.cell? ⟨E,4,none⟩=some (.slice x.sa x.aI.length x.sc)∧w.cell? ⟨E,5,none⟩=some (i64 x.cg)∧w.cell? ⟨E,6,none⟩=some (i64 x.cj)∧w.cell? ⟨E,7,none⟩=some (i64 x.a_)∧w.cell? ⟨E,8,none⟩=some (i64 x.aW)∧w.cell? ⟨E,9,none⟩=some (i64 x.bf)∧w.cell? ⟨E,10,none⟩=some (i64 x.bQ)∧w.cell? ⟨E,11,none⟩=some (i64 x.bg)∧w.cell? ⟨E,12,none⟩=some (i64 x.startTime)∧w.cell? ⟨E,13,none⟩=some (i64 x.bA)∧w.cell? ⟨E,14,none⟩=some (i64 x.bh)∧w.cell? ⟨E,15,none⟩=some (i64 x.bj)∧w.cell? ⟨E,16,none⟩=some (i64 x.az)∧w.cell? ⟨E,17,none⟩=some (i64 x.aJ)∧w.cell? ⟨E,18,none⟩=some (.slice x.aa x.away.length x.ac)∧w.cell? ⟨E,19,none⟩=some (i64 x.state)∧w.cell? ⟨E,20,none⟩=some (i64 x.hours)∧w.cell? ⟨E,21,none⟩=some (i64 x.output):=
 ⟨(h.cell 0).trans rfl,(h.cell 1).trans rfl,(h.cell 2).trans rfl,(h.cell 3).trans rfl,(h.cell 4).trans rfl,(h.cell 5).trans rfl,(h.cell 6).trans rfl,(h.cell 7).trans rfl,(h.cell 8).trans rfl,(h.cell 9).trans rfl,(h.cell 10).trans rfl,(h.cell 11).trans rfl,(h.cell 12).trans rfl,(h.cell 13).trans rfl,(h.cell 14).trans rfl,(h.cell 15).trans rfl,(h.cell 16).trans rfl,(h.cell 17).trans rfl,(h.cell 18).trans rfl,(h.cell 19).trans rfl,(h.cell 20).trans rfl,(h.cell 21).trans rfl⟩
theorem bP.stores {w:World} {a:Option Addr} {c:Nat} {l:List bp} (h:bP w 9 a c (l.map bp.cells)) (i:Nat) (hi:i<l.length): ∃b o,a=some ⟨b,o,none⟩∧w.cell? ⟨b,o+i*9,none⟩=some (.string l[i].name)∧w.cell? ⟨b,o+i*9+1,none⟩=some (i64 l[i].cX)∧w.cell? ⟨b,o+i*9+2,none⟩=some (i64 l[i].capacity)∧w.cell? ⟨b,o+i*9+3,none⟩=some (i64 l[i].initial)∧w.cell? ⟨b,o+i*9+4,none⟩=some (i64 l[i].final)∧w.cell? ⟨b,o+i*9+5,none⟩=some (i64 l[i].dI)∧w.cell? ⟨b,o+i*9+6,none⟩=some (i64 l[i].discharge)∧w.cell? ⟨b,o+i*9+7,none⟩=some (i64 l[i].en)∧w.cell? ⟨b,o+i*9+8,none⟩=some (i64 l[i].ed):=by
 obtain ⟨b,o,ha,hc⟩:=h.cell i (by simpa using hi);simp only [List.getElem_map]at hc;exact ⟨b,o,ha,hc 0 (by simp [bp.cells]),hc 1 (by simp [bp.cells]),hc 2 (by simp [bp.cells]),hc 3 (by simp [bp.cells]),hc 4 (by simp [bp.cells]),hc 5 (by simp [bp.cells]),hc 6 (by simp [bp.cells]),hc 7 (by simp [bp.cells]),hc 8 (by simp [bp.cells])⟩
theorem bp.at {w:World} {E:Nat} {T:TypeId} {x:bp} (h:aG w E T x.cells):w.cell? ⟨E,0,none⟩=some (.string x.name)∧w.cell? ⟨E,1,none⟩=some (i64 x.cX)∧w.cell? ⟨E,2,none⟩=some (i64 x.capacity)∧w.cell? ⟨E,3,none⟩=some (i64 x.initial)∧w.cell? ⟨E,4,none⟩=some (i64 x.final)∧w.cell? ⟨E,5,none⟩=some (i64 x.dI)∧w.cell? ⟨E,6,none⟩=some (i64 x.discharge)∧w.cell? ⟨E,7,none⟩=some (i64 x.en)∧w.cell? ⟨E,8,none⟩=some (i64 x.ed):=
 ⟨(h.cell 0).trans rfl,(h.cell 1).trans rfl,(h.cell 2).trans rfl,(h.cell 3).trans rfl,(h.cell 4).trans rfl,(h.cell 5).trans rfl,(h.cell 6).trans rfl,(h.cell 7).trans rfl,(h.cell 8).trans rfl⟩
theorem bP.aN {w:World} {a:Option Addr} {c:Nat} {l:List dW} (h:bP w 5 a c (l.map dW.cells)) (i:Nat) (hi:i<l.length): ∃b o,a=some ⟨b,o,none⟩∧w.cell? ⟨b,o+i*5,none⟩=some (.string l[i].name)∧w.cell? ⟨b,o+i*5+1,none⟩=some (i64 l[i].cX)∧w.cell? ⟨b,o+i*5+2,none⟩=some (.slice l[i].ia l[i].imp.length l[i].ic)∧w.cell? ⟨b,o+i*5+3,none⟩=some (.slice l[i].ea l[i].exp.length l[i].ec)∧w.cell? ⟨b,o+i*5+4,none⟩=some (.slice l[i].pa l[i].aX.length l[i].pc):=by
 obtain ⟨b,o,ha,hc⟩:=h.cell i (by simpa using hi);simp only [List.getElem_map]at hc;exact ⟨b,o,ha,hc 0 (by simp [dW.cells]),hc 1 (by simp [dW.cells]),hc 2 (by simp [dW.cells]),hc 3 (by simp [dW.cells]),hc 4 (by simp [dW.cells])⟩
theorem dW.at {w:World} {E:Nat} {T:TypeId} {x:dW} (h:aG w E T x.cells):w.cell? ⟨E,0,none⟩=some (.string x.name)∧w.cell? ⟨E,1,none⟩=some (i64 x.cX)∧w.cell? ⟨E,2,none⟩=some (.slice x.ia x.imp.length x.ic)∧w.cell? ⟨E,3,none⟩=some (.slice x.ea x.exp.length x.ec)∧w.cell? ⟨E,4,none⟩=some (.slice x.pa x.aX.length x.pc):=
 ⟨(h.cell 0).trans rfl,(h.cell 1).trans rfl,(h.cell 2).trans rfl,(h.cell 3).trans rfl,(h.cell 4).trans rfl⟩
theorem bP.outs {w:World} {a:Option Addr} {c:Nat} {l:List bI} (h:bP w 4 a c (l.map bI.cells)) (i:Nat) (hi:i<l.length): ∃b o,a=some ⟨b,o,none⟩∧w.cell? ⟨b,o+i*4,none⟩=some (.string l[i].name)∧w.cell? ⟨b,o+i*4+1,none⟩=some (.slice l[i].la l[i].lines.length l[i].lc)∧w.cell? ⟨b,o+i*4+2,none⟩=some (.bool l[i].bJ)∧w.cell? ⟨b,o+i*4+3,none⟩=some (.slice l[i].ma l[i].moves.length l[i].mc):=by
 obtain ⟨b,o,ha,hc⟩:=h.cell i (by simpa using hi);simp only [List.getElem_map]at hc;exact ⟨b,o,ha,hc 0 (by simp [bI.cells]),hc 1 (by simp [bI.cells]),hc 2 (by simp [bI.cells]),hc 3 (by simp [bI.cells])⟩
theorem bI.at {w:World} {E:Nat} {T:TypeId} {x:bI} (h:aG w E T x.cells):w.cell? ⟨E,0,none⟩=some (.string x.name)∧w.cell? ⟨E,1,none⟩=some (.slice x.la x.lines.length x.lc)∧w.cell? ⟨E,2,none⟩=some (.bool x.bJ)∧w.cell? ⟨E,3,none⟩=some (.slice x.ma x.moves.length x.mc):=
 ⟨(h.cell 0).trans rfl,(h.cell 1).trans rfl,(h.cell 2).trans rfl,(h.cell 3).trans rfl⟩
theorem bP.aI {w:World} {a:Option Addr} {c:Nat} {l:List cL} (h:bP w 2 a c (l.map cL.cells)) (i:Nat) (hi:i<l.length): ∃b o,a=some ⟨b,o,none⟩∧w.cell? ⟨b,o+i*2,none⟩=some (i64 l[i].width)∧w.cell? ⟨b,o+i*2+1,none⟩=some (i64 l[i].aX):=by
 obtain ⟨b,o,ha,hc⟩:=h.cell i (by simpa using hi);simp only [List.getElem_map]at hc;exact ⟨b,o,ha,hc 0 (by simp [cL.cells]),hc 1 (by simp [cL.cells])⟩
theorem cL.at {w:World} {E:Nat} {T:TypeId} {x:cL} (h:aG w E T x.cells):w.cell? ⟨E,0,none⟩=some (i64 x.width)∧w.cell? ⟨E,1,none⟩=some (i64 x.aX):=
 ⟨(h.cell 0).trans rfl,(h.cell 1).trans rfl⟩
theorem bP.moves {w:World} {a:Option Addr} {c:Nat} {l:List bH} (h:bP w 3 a c (l.map bH.cells)) (i:Nat) (hi:i<l.length): ∃b o,a=some ⟨b,o,none⟩∧w.cell? ⟨b,o+i*3,none⟩=some (i64 l[i].unit)∧w.cell? ⟨b,o+i*3+1,none⟩=some (i64 l[i].up)∧w.cell? ⟨b,o+i*3+2,none⟩=some (i64 l[i].down):=by
 obtain ⟨b,o,ha,hc⟩:=h.cell i (by simpa using hi);simp only [List.getElem_map]at hc;exact ⟨b,o,ha,hc 0 (by simp [bH.cells]),hc 1 (by simp [bH.cells]),hc 2 (by simp [bH.cells])⟩
theorem bH.at {w:World} {E:Nat} {T:TypeId} {x:bH} (h:aG w E T x.cells):w.cell? ⟨E,0,none⟩=some (i64 x.unit)∧w.cell? ⟨E,1,none⟩=some (i64 x.up)∧w.cell? ⟨E,2,none⟩=some (i64 x.down):=
 ⟨(h.cell 0).trans rfl,(h.cell 1).trans rfl,(h.cell 2).trans rfl⟩
theorem aG.but {K:Nat} {w w':World} {b:Nat} {T:TypeId} {vs:List Value} (h:aG w b T vs) (e:ak K w w') (hb:b≠K):aG w' b T vs:=by
 unfold aG;rw [e.block b h.lt hb];exact h
theorem aR {K:Nat} {w w':World} {p:Addr} {v:Value} (h:w.cell? p=some v) (e:ak K w w') (hb:p.block≠K):w'.cell? p=some v:=by
 have h2:=cU h;unfold World.cell? at*;rw [e.block _ h2 hb];exact h
set_option maxRecDepth 100000 in
theorem Fk (w0 V:World) (K B:Nat) (c:aq) (s:St) (i:Nat) (hK:w0.heap.size≤K) (hV:Ext w0 V) (hc:aT w0 c) (h:cY V K c s) (hB:V.cell? ⟨B,0,none⟩=some (.pointer (some ⟨K,0,none⟩))) (hi:i<c.au.length):
 Calls Tryz.prog 136 #[i64 i,.pointer (some ⟨B,0,none⟩)] V fun e w'=>e= .returned (.string c.au[i].name)∧w'=V:=by
 have hr:=(hc.au.ext hV);have hle:=hr.le;have di:=hr.cap
 rw [List.length_map]at hle;obtain ⟨b,o,ha,c0,-⟩:=hr.au i hi;obtain ⟨k0,k1,k2,k3,k4,k5,k6,k7⟩:=cF h;rw [ha]at k2;have fM:(0:Int)≤(i:Int):=by omega
 have fH:(i:Int)<(c.au.length:Int):=by omega
 clear h hc hr hV ha;go_enter Tryz.func136,Tryz.ntmps136
 go_wp2_with fail
 go_ret;exact ⟨rfl,rfl⟩
set_option maxRecDepth 100000 in
theorem Fl (w0 V:World) (K B:Nat) (c:aq) (s:St) (i:Nat) (hK:w0.heap.size≤K) (hV:Ext w0 V) (hc:aT w0 c) (h:cY V K c s) (hB:V.cell? ⟨B,0,none⟩=some (.pointer (some ⟨K,0,none⟩))) (hi:i<c.lines.length):
 Calls Tryz.prog 137 #[i64 i,.pointer (some ⟨B,0,none⟩)] V fun e w'=>e= .returned (.string c.lines[i].name)∧w'=V:=by
 have hr:=(hc.lines.ext hV);have hle:=hr.le;have di:=hr.cap
 rw [List.length_map]at hle;obtain ⟨b,o,ha,c0,-⟩:=hr.lines i hi;obtain ⟨k0,k1,k2,k3,k4,k5,k6,k7⟩:=cF h;rw [ha]at k3;have fM:(0:Int)≤(i:Int):=by omega
 have fH:(i:Int)<(c.lines.length:Int):=by omega
 clear h hc hr hV ha;go_enter Tryz.func137,Tryz.ntmps137
 go_wp2_with fail
 go_ret;exact ⟨rfl,rfl⟩
set_option maxRecDepth 100000 in
theorem Fm (w0 V:World) (K B:Nat) (c:aq) (s:St) (i:Nat) (hK:w0.heap.size≤K) (hV:Ext w0 V) (hc:aT w0 c) (h:cY V K c s) (hB:V.cell? ⟨B,0,none⟩=some (.pointer (some ⟨K,0,none⟩))) (hi:i<c.aj.length):
 Calls Tryz.prog 141 #[i64 i,.pointer (some ⟨B,0,none⟩)] V fun e w'=>e= .returned (.string c.aj[i].name)∧w'=V:=by
 have hr:=(hc.aj.ext hV);have hle:=hr.le;have di:=hr.cap
 rw [List.length_map]at hle;obtain ⟨b,o,ha,c0,-⟩:=hr.aj i hi;obtain ⟨k0,k1,k2,k3,k4,k5,k6,k7⟩:=cF h;rw [ha]at k4;have fM:(0:Int)≤(i:Int):=by omega
 have fH:(i:Int)<(c.aj.length:Int):=by omega
 clear h hc hr hV ha;go_enter Tryz.func141,Tryz.ntmps141
 go_wp2_with fail
 go_ret;exact ⟨rfl,rfl⟩
set_option maxRecDepth 100000 in
theorem Di (w0 V:World) (K B:Nat) (c:aq) (s:St) (i:Nat) (hK:w0.heap.size≤K) (hV:Ext w0 V) (hc:aT w0 c) (h:cY V K c s) (hB:V.cell? ⟨B,0,none⟩=some (.pointer (some ⟨K,0,none⟩))) (hi:i<c.stores.length):
 Calls Tryz.prog 143 #[i64 i,.pointer (some ⟨B,0,none⟩)] V fun e w'=>e= .returned (.string c.stores[i].name)∧w'=V:=by
 have hr:=(hc.stores.ext hV);have hle:=hr.le;have di:=hr.cap
 rw [List.length_map]at hle;obtain ⟨b,o,ha,c0,-⟩:=hr.stores i hi;obtain ⟨k0,k1,k2,k3,k4,k5,k6,k7⟩:=cF h;rw [ha]at k5;have fM:(0:Int)≤(i:Int):=by omega
 have fH:(i:Int)<(c.stores.length:Int):=by omega
 clear h hc hr hV ha;go_enter Tryz.func143,Tryz.ntmps143
 go_wp2_with fail
 go_ret;exact ⟨rfl,rfl⟩
set_option maxRecDepth 100000 in
theorem I7 (w0 V:World) (K B:Nat) (c:aq) (s:St) (i:Nat) (hK:w0.heap.size≤K) (hV:Ext w0 V) (hc:aT w0 c) (h:cY V K c s) (hB:V.cell? ⟨B,0,none⟩=some (.pointer (some ⟨K,0,none⟩))) (hi:i<c.aN.length):
 Calls Tryz.prog 144 #[i64 i,.pointer (some ⟨B,0,none⟩)] V fun e w'=>e= .returned (.string c.aN[i].name)∧w'=V:=by
 have hr:=(hc.aN.ext hV);have hle:=hr.le;have di:=hr.cap
 rw [List.length_map]at hle;obtain ⟨b,o,ha,c0,-⟩:=hr.aN i hi;obtain ⟨k0,k1,k2,k3,k4,k5,k6,k7⟩:=cF h;rw [ha]at k6;have fM:(0:Int)≤(i:Int):=by omega
 have fH:(i:Int)<(c.aN.length:Int):=by omega
 clear h hc hr hV ha;go_enter Tryz.func144,Tryz.ntmps144
 go_wp2_with fail
 go_ret;exact ⟨rfl,rfl⟩
set_option maxRecDepth 100000 in
theorem I8 (w0 V:World) (K B:Nat) (c:aq) (s:St) (i:Nat) (hK:w0.heap.size≤K) (hV:Ext w0 V) (hc:aT w0 c) (h:cY V K c s) (hB:V.cell? ⟨B,0,none⟩=some (.pointer (some ⟨K,0,none⟩))) (hi:i<c.outs.length):
 Calls Tryz.prog 145 #[i64 i,.pointer (some ⟨B,0,none⟩)] V fun e w'=>e= .returned (.string c.outs[i].name)∧w'=V:=by
 have hr:=(hc.outs.ext hV);have hle:=hr.le;have di:=hr.cap
 rw [List.length_map]at hle;obtain ⟨b,o,ha,c0,-⟩:=hr.outs i hi;obtain ⟨k0,k1,k2,k3,k4,k5,k6,k7⟩:=cF h;rw [ha]at k7;have fM:(0:Int)≤(i:Int):=by omega
 have fH:(i:Int)<(c.outs.length:Int):=by omega
 clear h hc hr hV ha;go_enter Tryz.func145,Tryz.ntmps145
 go_wp2_with fail
 go_ret;exact ⟨rfl,rfl⟩
end Go.Proofs.YtkpngkdgphojlaaGreat
