/- Texts of the proof. -/
import Derived.Test.YtkpngkdgphojlaaGreatCf2
set_option linter.all false
set_option maxHeartbeats 1000000
set_option maxRecDepth 100000
namespace Go.Proofs.YtkpngkdgphojlaaGreat
open Go.Proofs.Tryz
open Go.RowKit
def nd (e:Int) (ok:Bool) (code:Int):Int:=if e=0∧ok=false then code else e
theorem eM {e:Int} (h:e≠0) (ok:Bool) (code:Int):nd e ok code=e:=by unfold nd;rw [if_neg (fun h'=>h h'.1)]
theorem bY (e code:Int):nd e true code=e:=by unfold nd;rw [if_neg (fun h=>by cases h.2)]
theorem AV (code:Int):nd 0 false code=code:=by unfold nd;rw [if_pos ⟨rfl,rfl⟩]
theorem nL (e:Int) (a b:Bool) (code:Int) (hc:code≠0):nd (nd e a code) b code=nd e (a&&b) code:=by
 by_cases h:e=0
 ·subst h
  cases a with
  |true=>rw [bY,Bool.true_and]
  |false=>rw [AV,eM hc,Bool.false_and,AV]
 ·rw [eM h,eM h,eM h]
def FE (w:World) (K:Nat) (e:Int):Prop:= ∃k i f,MO w K ⟨k,i,f,e⟩
theorem FE.ext {w w':World} {K:Nat} {e:Int} (h:FE w K e) (x:Ext w w'):FE w' K e:=by
 obtain ⟨k,i,f,h⟩:=h;exact ⟨k,i,f,h.ext x⟩
theorem FE.alloc {w:World} {K:Nat} {e:Int} (h:FE w K e) (o:Obj):FE (w.alloc o) K e:=h.ext ((Ext.refl _).alloc _)
theorem FE.lt {w:World} {K:Nat} {e:Int} (h:FE w K e):K<w.heap.size:=by obtain ⟨k,i,f,h⟩:=h;exact h.lt
theorem FE.cell {w:World} {K:Nat} {e:Int} (h:FE w K e):w.cell? ⟨K,3,none⟩=some (i64 e):=by
 obtain ⟨k,i,f,h⟩:=h;exact (EL h).2.2.2.1
def sy (V:World) (K:Nat) (x:Int) (e:Ending) (w':World):Prop:=e= .returned (.tuple #[])∧FE w' K x∧ar K V w'
theorem cP (V:World) (K:Nat) (e:Int) (ok:Bool) (kind idx field code:Int) (h:FE V K e):
 Calls prog 55 #[.pointer (some ⟨K,0,none⟩),.bool ok,i64 kind,i64 idx,i64 field,i64 code] V fun e' w'=>sy V K (nd e ok code) e' w':=by
 obtain ⟨k,i,f,h⟩:=h;refine (NY V K _ ok kind idx field code h).mono ?_;rintro e' w' ⟨h1,h2,h3⟩;refine ⟨h1,?_,h3⟩;unfold St.found at h2;unfold nd;split at h2
 ·rename_i hq;rw [if_pos hq];exact ⟨_,_,_,h2⟩
 ·rename_i hq;rw [if_neg hq];exact ⟨_,_,_,h2⟩
theorem FE.but {w w':World} {K:Nat} {e:Int} {b:Nat} (h:FE w K e) (x:ar b w w') (hb:K≠b):FE w' K e:=by
 obtain ⟨k,i,f,h⟩:=h;have hl:=h.lt;refine ⟨k,i,f,?_⟩;unfold MO aQ at*;rw [x.block K hl hb];exact h
theorem aQ.alloc' {w:World} {b:Nat} {T:TypeId} {vs:List Value} (h:aQ w b T vs) (o:Obj):aQ (w.alloc o) b T vs:=h.ext ((Ext.refl _).alloc _)
theorem ar.alloc' {b:Nat} {w w':World} (h:ar b w w') (o:Obj):ar b w (w'.alloc o):=h.trans (((Ext.refl w').alloc o).but b)
theorem aI.one (W:World) (x:Int) (hx:bB x):aI (W.alloc (.cells #[i64 x] 3)) (some ⟨W.heap.size,0,none⟩) 1 [x]:=
 ⟨by simp,by omega,fun i hi=>⟨W.heap.size,0,rfl,by
     have h0:i=0:=by simpa using hi
     subst h0;exact (aQ.alloc W 3 [i64 x]).cell 0⟩,fun i hi=>by
     have h0:i=0:=by simpa using hi
     subst h0;unfold bB at hx;simp only [List.getElem_cons_zero];omega⟩
theorem zb (W:World) (x lo hi:Int) (hx:bB x):
 Calls prog 56 #[i64 lo,i64 hi,.slice (some ⟨W.heap.size,0,none⟩) 1 1] (W.alloc (.cells #[i64 x] 3)) fun e w'=>e= .returned (.bool (bP lo hi [x]))∧w'=W.alloc (.cells #[i64 x] 3):=
 eY _ lo hi _ 1 [x] (aI.one W x hx)
theorem C5 (n d:Int):(bP 1 1048576 [d]&&bP (-1048576) 1048576 [n])=eU n d:=by
 unfold bP eU;simp [Bool.and_assoc]
theorem kI (w:World) (n d:Int) (hn:bB n) (hd:bB d):
 Calls prog 99 #[.agg #[i64 n,i64 d]] w fun e w'=>e= .returned (.bool (eU n d))∧Ext w w':=by
 have HB:=ae (C5 n d);have H1:=ae (fun W=>zb W d 1 1048576 hd);have H2:=ae (fun W=>zb W n (-1048576) 1048576 hn);clear hn hd;obtain ⟨W,hW,x0,Z0,A0⟩:=aX w 76 [i64 n,i64 d];have PZ:Hid (w.alloc (.cells #[i64 n,i64 d] 76)=W):=hW.symm;have HX:=ae x0;have f0:W.cell? ⟨w.heap.size,0,none⟩=some (i64 n):=(A0.cell 0).trans rfl;have f1:W.cell? ⟨w.heap.size,1,none⟩=some (i64 d):=(A0.cell 1).trans rfl;clear hW x0 Z0;obtain ⟨B,hB⟩: ∃B,B=w.heap.size:=⟨_,rfl⟩;rw [←hB]at f0 f1;have g0:(W.alloc (.cells #[i64 d] 3)).cell? ⟨B,0,none⟩=some (i64 n):=ak ((Ext.refl _).alloc _) f0;clear A0;cases d1:bP 1 1048576 [d]with
 |false=>
  have HV:Hid (eU n d=false):=by show _=_;rw [←HB.o,d1];rfl
  rw [d1]at H1;clear d1;go_enter func99,ntmps99
  go_upto_region 1 with fail
  rw [PZ.o,←hB];clear hB;go_wp2_with fail
  refine (H1.o _).mono ?_;rintro e w1 ⟨rfl,rfl⟩;go_wp2_with fail
  go_ret;exact ⟨by rw [HV.o];rfl,HX.o.alloc _⟩
 |true=>
  have HV:Hid (eU n d=bP (-1048576) 1048576 [n]):=by show _=_;rw [←HB.o,d1];rfl
  rw [d1]at H1;clear d1;go_enter func99,ntmps99
  go_upto_region 1 with fail
  rw [PZ.o,←hB];clear hB;go_wp2_with fail
  refine (H1.o _).mono ?_;rintro e w1 ⟨rfl,rfl⟩;obtain ⟨W2,hW2,x2,Z2,-⟩:=aX W 3 [i64 d];have g1:W2.cell? ⟨B,0,none⟩=some (i64 n):=ak x2 f0;rw [show W.alloc (.cells #[i64 d] 3)=W2 from hW2.symm];have ez:=ae (HX.o.trans x2);clear g0 f0 f1 hW2 x2 Z2;go_wp2_with fail
  refine (H2.o _).mono ?_;rintro e w1 ⟨rfl,rfl⟩;go_wp2_with fail
  go_ret;exact ⟨by rw [HV.o];rfl,ez.o.alloc _⟩
def pV (e:Int) (c:ai) (i:Int):Int:=nd e (bP 0 ((c.aj.length:Int)-1) [i]) 12
def fZ (e:Int) (c:ai) (l:List Int) (lo hi:Int):Int:=nd (nd e (decide ((l.length:Int)=c.hours)) 4) (bP lo hi l) 3
def nO (e:Int) (c:ai) (l:List Int):Int:=nd (nd e (bP 0 (IntKind.i64.wrap (c.hours-1)) l) 3) (iP l) 11
theorem ai.at {w:World} {B:Nat} {T:TypeId} {c:ai} (h:aQ w B T c.cells):w.cell? ⟨B,0,none⟩=some (i64 c.hours)∧w.cell? ⟨B,1,none⟩=some (.slice c.ra c.aA.length c.rc)∧w.cell? ⟨B,2,none⟩=some (.slice c.ba c.aj.length c.bc)∧w.cell? ⟨B,3,none⟩=some (.slice c.la c.lines.length c.lc)∧w.cell? ⟨B,4,none⟩=some (.slice c.ua c.aq.length c.uc)∧w.cell? ⟨B,5,none⟩=some (.slice c.sa c.stores.length c.sc)∧w.cell? ⟨B,6,none⟩=some (.slice c.ta c.aB.length c.tc)∧w.cell? ⟨B,7,none⟩=some (.slice c.oa c.outs.length c.oc):=
 ⟨(h.cell 0).trans rfl,(h.cell 1).trans rfl,(h.cell 2).trans rfl,(h.cell 3).trans rfl,(h.cell 4).trans rfl,(h.cell 5).trans rfl,(h.cell 6).trans rfl,(h.cell 7).trans rfl⟩
theorem uA (w0 V:World) (K:Nat) (c:ai) (e:Int) (i kind idx field:Int) (hV:Ext w0 V) (hc:a_ w0 c) (hi:bB i) (h:FE V K e):
 Calls prog 98 #[.pointer (some ⟨K,0,none⟩),.agg (C8 c),i64 i,i64 kind,i64 idx,i64 field] V fun e' w'=>sy V K (pV e c i) e' w':=by
 try unfold C8
 have hle:=hc.aj.le;have dQ:=hc.aj.cap
 rw [List.length_map]at hle;have HH:=ae h;have HB:=ae (fun W=>zb W i 0 ((c.aj.length:Int)-1) hi);have b0:(0:Int)≤(c.aj.length:Int):=by omega
 have b1:(c.aj.length:Int)≤9223372036854775807:=by omega
 have hw:IntKind.i64.wrap ((c.aj.length:Int)-1)=(c.aj.length:Int)-1:=by rw [IntKind.wrap_i64];omega
 unfold pV;clear hc hi h hV hle dQ;go_enter func98,ntmps98
 go_upto_region 1 with fail
 obtain ⟨W,hW,x0,Z0,A0⟩:=aX V 32 c.cells;rw [show V.alloc (.cells (C8 c) 32)=W from hW.symm];clear hW;have HF:=ae (HH.o.ext x0);obtain ⟨-,-,c2,-⟩:=ai.at A0;have HX:=ae (x0.but K);clear Z0 x0;clear A0;go_wp2_with fail
 refine (HB.o _).mono ?_;rintro e w1 ⟨rfl,rfl⟩;go_wp2_with fail
 refine (cP _ K _ _ _ _ _ _ (HF.o.alloc _)).mono ?_;rintro e w1 ⟨rfl,hf,hx⟩;go_wp2_with fail
 exact bodyPost_end (v:= .tuple #[]) (by simp [results,results98,go_sem]) rfl ⟨rfl,hf,(HX.o.alloc' _).trans hx⟩
theorem AW (w0 V:World) (K:Nat) (c:ai) (e:Int) (a:Option Addr) (cc:Nat) (l:List Int) (kind idx field:Int) (hK:w0.heap.size≤K) (hV:Ext w0 V) (hl:aI w0 a cc l) (h:FE V K e):
 Calls prog 100 #[.pointer (some ⟨K,0,none⟩),.agg (C8 c),.slice a l.length cc,i64 kind,i64 idx,i64 field] V fun e' w'=>sy V K (nO e c l) e' w':=by
 try unfold C8
 have HH:=ae h;have HL:=ae hl;have HV:=ae hV;have df:=ae hK
 unfold nO;obtain ⟨H1,Wh⟩: ∃H1,IntKind.i64.wrap (c.hours-1)=H1:=⟨_,rfl⟩;rw [Wh];clear h hV hl hK;go_enter func100,ntmps100
 go_upto_region 1 with fail
 obtain ⟨W,hW,x0,Z0,A0⟩:=aX V 32 c.cells;rw [show V.alloc (.cells (C8 c) 32)=W from hW.symm];clear hW;have HF:=ae (HH.o.ext x0);obtain ⟨c0,-⟩:=ai.at A0;have HX:=ae (x0.but K);have HE:=ae (HV.o.trans x0)
 clear Z0 x0;clear A0;go_wp2_with fail
 refine (eY _ _ _ a cc l (HL.o.ext HE.o)).mono ?_;rintro e w1 ⟨rfl,rfl⟩;go_wp2_with fail
 refine (cP _ K _ _ _ _ _ _ HF.o).mono ?_;rintro e w1 ⟨rfl,hf,hx⟩;have mr:=ae (hx.ext HE.o df.o);have vh:=ae hf;have eE:=ae (HX.o.trans hx)
 clear hf hx c0;go_wp2_with fail
 refine (pT _ a cc l (HL.o.ext mr.o)).mono ?_;rintro e w2 ⟨rfl,x2⟩;go_wp2_with fail
 refine (cP _ K _ _ _ _ _ _ (vh.o.ext x2)).mono ?_;rintro e w3 ⟨rfl,hf3,hx3⟩;go_wp2_with fail
 exact bodyPost_end (v:= .tuple #[]) (by simp [results,results100,go_sem]) rfl ⟨rfl,hf3,(eE.o.trans (x2.but K)).trans hx3⟩
theorem pW (w0 V:World) (K:Nat) (c:ai) (e:Int) (a:Option Addr) (cc:Nat) (l:List Int) (lo hi kind idx field:Int) (hK:w0.heap.size≤K) (hV:Ext w0 V) (hl:aI w0 a cc l) (h:FE V K e):
 Calls prog 54 #[.pointer (some ⟨K,0,none⟩),.agg (C8 c),.slice a l.length cc,i64 lo,i64 hi,i64 kind,i64 idx,i64 field] V fun e' w'=>sy V K (fZ e c l lo hi) e' w':=by
 try unfold C8
 have hle:=hl.le;have dQ:=hl.cap
 have HH:=ae h;have HL:=ae hl;have HV:=ae hV;have df:=ae hK
 have hq:((l.length:Int)==c.hours)=decide ((l.length:Int)=c.hours):=by rw [Bool.eq_iff_iff];simp
 unfold fZ;rw [←hq];clear h hV hl hK hq;go_enter func54,ntmps54
 go_upto_region 1 with fail
 obtain ⟨W,hW,x0,Z0,A0⟩:=aX V 32 c.cells;rw [show V.alloc (.cells (C8 c) 32)=W from hW.symm];clear hW;have HF:=ae (HH.o.ext x0);obtain ⟨c0,-⟩:=ai.at A0;have HX:=ae (x0.but K);have HE:=ae (HV.o.trans x0)
 clear Z0 x0;clear A0;go_wp2_with fail
 refine (cP _ K _ _ _ _ _ _ HF.o).mono ?_;rintro e w1 ⟨rfl,hf,hx⟩;have mr:=ae (hx.ext HE.o df.o);have vh:=ae hf;have eE:=ae (HX.o.trans hx)
 clear hf hx c0;go_wp2_with fail
 refine (eY _ _ _ a cc l (HL.o.ext mr.o)).mono ?_;rintro e w2 ⟨rfl,rfl⟩;go_wp2_with fail
 refine (cP _ K _ _ _ _ _ _ vh.o).mono ?_;rintro e w3 ⟨rfl,hf3,hx3⟩;go_wp2_with fail
 exact bodyPost_end (v:= .tuple #[]) (by simp [results,results54,go_sem]) rfl ⟨rfl,hf3,eE.o.trans hx3⟩
def dV (s:ByteArray) (i:Nat):Nat:=if h:i<s.size then s[i].toNat else 0
theorem sA (s:ByteArray) (i:Nat) (h:i<s.size):dV s i=s[i].toNat:=dif_pos h
def jJ (x:Nat):Bool:=decide (97≤x)&&decide (x≤122)
def okB (x:Nat):Bool:=jJ x||(decide (48≤x)&&decide (x≤57))||decide (x=95)
def dK (s:ByteArray):Bool:=decide (1≤s.size)&&decide (s.size≤16)&& !(s.toList== [99,111,114,114,101,99,116,105,118,101])&&jJ (dV s 0)&&(List.range s.size).all fun i=>okB (dV s i)
theorem xY {x:Nat} (h:(x<97∨122<x)∧(x<48∨57<x)∧x≠95):okB x=false:=by
 unfold okB jJ;simp only [Bool.or_eq_false_iff,Bool.and_eq_false_iff,decide_eq_false_iff_not];omega
theorem AY {x:Nat} (h: ¬((x<97∨122<x)∧(x<48∨57<x)∧x≠95)):okB x=true:=by
 unfold okB jJ;simp only [Bool.or_eq_true,Bool.and_eq_true,decide_eq_true_eq];omega
theorem Ik {x:Nat} (h:jJ x=true):okB x=true:=by unfold okB;rw [h];rfl
theorem xZ {s:ByteArray} {i:Nat} (hi:i<s.size) (h:okB (dV s i)=false):dK s=false:=by
 unfold dK
 have:(List.range s.size).all (fun i=>okB (dV s i))=false:=by
  rw [List.all_eq_false];exact ⟨i,List.mem_range.2 hi,by rw [h];decide⟩
 rw [this,Bool.and_false]
theorem pX {s:ByteArray} (h1:1≤s.size) (h2:s.size≤16) (h3:(s.toList== [99,111,114,114,101,99,116,105,118,101])=false) (h4:jJ (dV s 0)=true) (h5: ∀j,j<s.size→okB (dV s j)=true):dK s=true:=by
 unfold dK;rw [h3,h4,List.all_eq_true.2 (fun j hj=>h5 j (List.mem_range.1 hj))];simp [h1,h2]
theorem K8 (w:World) (s:ByteArray) (hs:s.size≤maxLen):
 Calls prog 181 #[.string s] w fun e w'=>e= .returned (.bool (dK s))∧w'=w:=by
 unfold maxLen at hs;by_cases h1:1≤s.size
 rotate_left
 ·have d1:decide ((s.size:Int)<1)=true:=by simp;omega
  have hn:dK s=false:=by unfold dK;simp [h1]
  rw [hn];clear hn;go_enter func181,ntmps181
  go_wp2_with fail
  go_ret;exact ⟨rfl,rfl⟩
 have d1:decide ((s.size:Int)<1)=false:=by simp;omega
 by_cases h2:s.size≤16
 rotate_left
 ·have d2:decide ((16:Int)<(s.size:Int))=true:=by simp;omega
  have hn:dK s=false:=by unfold dK;simp [h2]
  rw [hn];clear hn;go_enter func181,ntmps181
  go_wp2_with fail
  go_ret;exact ⟨rfl,rfl⟩
 have d2:decide ((16:Int)<(s.size:Int))=false:=by simp;omega
 cases d3:(s.toList== [99,111,114,114,101,99,116,105,118,101])with
 |true=>
  have hn:dK s=false:=by unfold dK;rw [d3];simp
  rw [hn];clear hn;go_enter func181,ntmps181
  go_wp2_with fail
  go_ret;exact ⟨rfl,rfl⟩
 |false=>
  have z0:0<s.size:=by omega
  have e0:=sA s 0 z0;by_cases h4:jJ (dV s 0)=true
  rotate_left
  ·have hn:dK s=false:=by unfold dK;simp [h4]
   rw [hn];rw [e0]at h4;unfold jJ at h4
   have hq:decide (((s[0].toNat:Nat):Int)<97)=true∨(decide (((s[0].toNat:Nat):Int)<97)=false∧decide ((122:Int)<((s[0].toNat:Nat):Int))=true):=by
    simp at h4⊢;omega
   clear hn h4 e0;rcases hq with q1|⟨q1,q2⟩
   ·go_enter func181,ntmps181
    go_wp2_with fail
    go_ret;exact ⟨rfl,rfl⟩
   ·go_enter func181,ntmps181
    go_wp2_with fail
    go_ret;exact ⟨rfl,rfl⟩
  have Wi:=ae h4;rw [e0]at h4;unfold jJ at h4;have q1:decide (((s[0].toNat:Nat):Int)<97)=false:=by simp at h4⊢;omega
  have q2:decide ((122:Int)<((s[0].toNat:Nat):Int))=false:=by simp at h4⊢;omega
  clear h4 e0;have P8:=ae d3;go_enter func181,ntmps181
  go_wp2_with fail
  go_loopw [29] (fun ii wr=> ∃i:Nat,i≤s.size∧wr=w∧(∀j,j<i→okB (dV s j)=true)∧ii= .int .i64 i) (fun ii _=>s.size-(intOf ii).toNat)
  case atStart=>exact ⟨0,Nat.zero_le _,rfl,fun j hj=>absurd hj (Nat.not_lt_zero _),rfl⟩
  case round=>
   obtain ⟨i,hi,rfl,hA,rfl⟩:=hrel;by_cases hlt:i<s.size
   ·have ei:=sA s i hlt
    have HA:=ae hA;have jS:(0:Int)≤(i:Int):=by omega
    have jI:(i:Int)<(s.size:Int):=by omega
    obtain ⟨x,hx⟩: ∃x:Nat,s[i].toNat=x:=⟨_,rfl⟩;rw [hx]at ei;have MP:=ae ei;clear hA ei q1 q2 d1 d2 d3
    have hq:(decide ((x:Int)<97)=false∧decide ((122:Int)<(x:Int))=false)∨(decide ((x:Int)<97)=true∧decide ((x:Int)<48)=true∧((x:Int) !=95)=true)∨(decide ((x:Int)<97)=true∧decide ((x:Int)<48)=false∧decide ((57:Int)<(x:Int))=false)∨(decide ((x:Int)<97)=true∧decide ((x:Int)<48)=false∧decide ((57:Int)<(x:Int))=true∧((x:Int) !=95)=true)∨(decide ((x:Int)<97)=true∧decide ((x:Int)<48)=false∧decide ((57:Int)<(x:Int))=true∧((x:Int) !=95)=false)∨(decide ((x:Int)<97)=false∧decide ((122:Int)<(x:Int))=true∧decide ((x:Int)<48)=false∧decide ((57:Int)<(x:Int))=true∧((x:Int) !=95)=true):=by
     simp only [decide_eq_true_eq,decide_eq_false_iff_not,bne_iff_ne,ne_eq,bne_eq_false_iff_eq];omega
    have pY:okB (dV s i)=okB x:=by rw [MP.o]
    have qE:okB x=true→ ∀j,j<i+1→okB (dV s j)=true:=fun ht j hj=>by
     by_cases Aq:j=i
     ·subst Aq;rw [MP.o];exact ht
     ·exact HA.o j (by omega)
    have ja:okB x=false→dK s=false:=fun hf=>xZ hlt (by rw [MP.o];exact hf);have gf:= @xY x;have gt:= @AY x;rcases hq with⟨q1,q2⟩|⟨q1,q3,q5⟩|⟨q1,q3,q4⟩|⟨q1,q3,q4,q5⟩|⟨q1,q3,q4,q5⟩|⟨q1,q2,q3,q4,q5⟩
    ·have HN:=ae (qE (gt (by simp only [decide_eq_true_eq,decide_eq_false_iff_not,bne_iff_ne,ne_eq,bne_eq_false_iff_eq]at q1 q2;omega)))
     clear qE ja gf gt pY;go_wp2_with fail
     exact ⟨⟨i+1,by omega,by first|trivial|rfl,HN.o,by go_num⟩,by simp only [intOf];omega⟩
    ·have HN:=ae (ja (gf (by simp only [decide_eq_true_eq,decide_eq_false_iff_not,bne_iff_ne,ne_eq,bne_eq_false_iff_eq]at q1 q3 q5;omega)))
     clear qE ja gf gt pY;go_wp2_with fail
     go_ret;exact ⟨by rw [HN.o];rfl,rfl⟩
    ·have HN:=ae (qE (gt (by simp only [decide_eq_true_eq,decide_eq_false_iff_not,bne_iff_ne,ne_eq,bne_eq_false_iff_eq]at q1 q3 q4;omega)))
     clear qE ja gf gt pY;go_wp2_with fail
     exact ⟨⟨i+1,by omega,by first|trivial|rfl,HN.o,by go_num⟩,by simp only [intOf];omega⟩
    ·have HN:=ae (ja (gf (by simp only [decide_eq_true_eq,decide_eq_false_iff_not,bne_iff_ne,ne_eq,bne_eq_false_iff_eq]at q1 q3 q4 q5;omega)))
     clear qE ja gf gt pY;go_wp2_with fail
     go_ret;exact ⟨by rw [HN.o];rfl,rfl⟩
    ·have HN:=ae (qE (gt (by simp only [decide_eq_true_eq,decide_eq_false_iff_not,bne_iff_ne,ne_eq,bne_eq_false_iff_eq]at q1 q3 q4 q5;omega)))
     clear qE ja gf gt pY;go_wp2_with fail
     exact ⟨⟨i+1,by omega,by first|trivial|rfl,HN.o,by go_num⟩,by simp only [intOf];omega⟩
    ·have HN:=ae (ja (gf (by simp only [decide_eq_true_eq,decide_eq_false_iff_not,bne_iff_ne,ne_eq,bne_eq_false_iff_eq]at q1 q2 q3 q4 q5;omega)))
     clear qE ja gf gt pY;go_wp2_with fail
     go_ret;exact ⟨by rw [HN.o];rfl,rfl⟩
   ·have hn:=pX h1 h2 P8.o Wi.o (fun j hj=>hA j (by omega))
    clear hA;go_wp2_with fail
    go_ret;exact ⟨by rw [hn];rfl,rfl⟩
theorem F8 {x:Nat} (h:97≤x∧x≤122):jJ x=true:=by unfold jJ;simp [h.1,h.2]
theorem C_ {x:Nat} (h: ¬(97≤x∧x≤122)):jJ x=false:=by
 unfold jJ;simp only [Bool.and_eq_false_iff,decide_eq_false_iff_not];omega
theorem F9 {s:ByteArray} (h:jJ (dV s 0)=false):dK s=false:=by unfold dK;simp [h]
theorem Il (w:World) (s:ByteArray) (hs:s.size≤maxLen):
 Calls prog 97 #[.string s] w fun e w'=>e= .returned (.bool (dK s))∧w'=w:=by
 unfold maxLen at hs;by_cases h1:1≤s.size
 rotate_left
 ·have d1:decide ((s.size:Int)<1)=true:=by simp;omega
  have hn:dK s=false:=by unfold dK;simp [h1]
  rw [hn];clear hn;go_enter func97,ntmps97
  go_wp2_with fail
  go_ret;exact ⟨rfl,rfl⟩
 have d1:decide ((s.size:Int)<1)=false:=by simp;omega
 by_cases h2:s.size≤16
 rotate_left
 ·have d2:decide ((16:Int)<(s.size:Int))=true:=by simp;omega
  have hn:dK s=false:=by unfold dK;simp [h2]
  rw [hn];clear hn;go_enter func97,ntmps97
  go_wp2_with fail
  go_ret;exact ⟨rfl,rfl⟩
 have d2:decide ((16:Int)<(s.size:Int))=false:=by simp;omega
 cases d3:(s.toList== [99,111,114,114,101,99,116,105,118,101])with
 |true=>
  have hn:dK s=false:=by unfold dK;rw [d3];simp
  rw [hn];clear hn;go_enter func97,ntmps97
  go_wp2_with fail
  go_ret;exact ⟨rfl,rfl⟩
 |false=>
  have P8:=ae d3;go_enter func97,ntmps97
  go_wp2_with fail
  go_loopw [3] (fun ii wr=> ∃i:Nat,i≤s.size∧wr=w∧(∀j,j<i→okB (dV s j)=true)∧(0<i→jJ (dV s 0)=true)∧ii= .int .i64 i) (fun ii _=>s.size-(intOf ii).toNat)
  case atStart=>exact ⟨0,Nat.zero_le _,rfl,fun j hj=>absurd hj (Nat.not_lt_zero _),fun h=>absurd h (Nat.lt_irrefl _),rfl⟩
  case round=>
   obtain ⟨i,hi,rfl,hA,hL,rfl⟩:=hrel;by_cases hlt:i<s.size
   ·have ei:=sA s i hlt
    have HA:=ae hA;have HL:=ae hL
    have jS:(0:Int)≤(i:Int):=by omega
    have jI:(i:Int)<(s.size:Int):=by omega
    obtain ⟨x,hx⟩: ∃x:Nat,s[i].toNat=x:=⟨_,rfl⟩;rw [hx]at ei;have MP:=ae ei;clear hA hL ei d1 d2 d3
    have qE:okB x=true→(i=0→jJ x=true)→(∀j,j<i+1→okB (dV s j)=true)∧(0<i+1→jJ (dV s 0)=true):=fun ht hl=>⟨fun j hj=>by
     by_cases Aq:j=i
     ·subst Aq;rw [MP.o];exact ht
     ·exact HA.o j (by omega),fun _=>by
     by_cases h0:i=0
     ·have:=hl h0;subst h0;rw [MP.o];exact this
     ·exact HL.o (by omega)⟩
    have ja:okB x=false→dK s=false:=fun hf=>xZ hlt (by rw [MP.o];exact hf);have my:i=0→jJ x=false→dK s=false:=fun h0 hf=>F9 (by subst h0;rw [MP.o];exact hf);have gf:= @xY x;have gt:= @AY x;have lf:= @C_ x;have lt:= @F8 x;cases q1:decide ((97:Int)≤(x:Int))with
    |false=>
     cases q3:((i:Int)==0)with
     |false=>
      cases q4:((x:Int) !=95)with
      |false=>
       have HN:Hid ((∀j,j<i+1→okB (dV s j)=true)∧(0<i+1→jJ (dV s 0)=true)):=qE (gt (by have p1:=q1;have p3:=q3;have p4:=q4;simp only [decide_eq_true_eq,decide_eq_false_iff_not,bne_iff_ne,ne_eq,bne_eq_false_iff_eq,beq_iff_eq,beq_eq_false_iff_ne]at p1 p3 p4;omega)) (fun h0=>by first|(exact lt (by have p1:=q1;have p3:=q3;have p4:=q4;simp only [decide_eq_true_eq,decide_eq_false_iff_not,bne_iff_ne,ne_eq,bne_eq_false_iff_eq,beq_iff_eq,beq_eq_false_iff_ne]at p1 p3 p4;omega))|(exfalso;have p1:=q1;have p3:=q3;have p4:=q4;simp only [decide_eq_true_eq,decide_eq_false_iff_not,bne_iff_ne,ne_eq,bne_eq_false_iff_eq,beq_iff_eq,beq_eq_false_iff_ne]at p1 p3 p4;omega));clear qE ja my gf gt lf lt;go_wp2_with fail
       exact ⟨⟨i+1,by omega,by first|trivial|rfl,HN.o.1,HN.o.2,by go_num⟩,by simp only [intOf];omega⟩
      |true=>
       cases q5:decide ((x:Int)<48)with
       |false=>
        cases q6:decide ((57:Int)<(x:Int))with
        |false=>
         have HN:Hid ((∀j,j<i+1→okB (dV s j)=true)∧(0<i+1→jJ (dV s 0)=true)):=qE (gt (by have p1:=q1;have p3:=q3;have p4:=q4;have p5:=q5;have p6:=q6;simp only [decide_eq_true_eq,decide_eq_false_iff_not,bne_iff_ne,ne_eq,bne_eq_false_iff_eq,beq_iff_eq,beq_eq_false_iff_ne]at p1 p3 p4 p5 p6;omega)) (fun h0=>by first|(exact lt (by have p1:=q1;have p3:=q3;have p4:=q4;have p5:=q5;have p6:=q6;simp only [decide_eq_true_eq,decide_eq_false_iff_not,bne_iff_ne,ne_eq,bne_eq_false_iff_eq,beq_iff_eq,beq_eq_false_iff_ne]at p1 p3 p4 p5 p6;omega))|(exfalso;have p1:=q1;have p3:=q3;have p4:=q4;have p5:=q5;have p6:=q6;simp only [decide_eq_true_eq,decide_eq_false_iff_not,bne_iff_ne,ne_eq,bne_eq_false_iff_eq,beq_iff_eq,beq_eq_false_iff_ne]at p1 p3 p4 p5 p6;omega));clear qE ja my gf gt lf lt;go_wp2_with fail
         exact ⟨⟨i+1,by omega,by first|trivial|rfl,HN.o.1,HN.o.2,by go_num⟩,by simp only [intOf];omega⟩
        |true=>
         have HN:Hid (dK s=false):=ja (gf (by have p1:=q1;have p3:=q3;have p4:=q4;have p5:=q5;have p6:=q6;simp only [decide_eq_true_eq,decide_eq_false_iff_not,bne_iff_ne,ne_eq,bne_eq_false_iff_eq,beq_iff_eq,beq_eq_false_iff_ne]at p1 p3 p4 p5 p6;omega));clear qE ja my gf gt lf lt;go_wp2_with fail
         go_ret;exact ⟨by rw [HN.o];rfl,rfl⟩
       |true=>
        have HN:Hid (dK s=false):=ja (gf (by have p1:=q1;have p3:=q3;have p4:=q4;have p5:=q5;simp only [decide_eq_true_eq,decide_eq_false_iff_not,bne_iff_ne,ne_eq,bne_eq_false_iff_eq,beq_iff_eq,beq_eq_false_iff_ne]at p1 p3 p4 p5;omega));clear qE ja my gf gt lf lt;go_wp2_with fail
        go_ret;exact ⟨by rw [HN.o];rfl,rfl⟩
     |true=>
      have HN:Hid (dK s=false):=my (by have p1:=q1;have p3:=q3;simp only [decide_eq_true_eq,decide_eq_false_iff_not,bne_iff_ne,ne_eq,bne_eq_false_iff_eq,beq_iff_eq,beq_eq_false_iff_ne]at p1 p3;omega) (lf (by have p1:=q1;have p3:=q3;simp only [decide_eq_true_eq,decide_eq_false_iff_not,bne_iff_ne,ne_eq,bne_eq_false_iff_eq,beq_iff_eq,beq_eq_false_iff_ne]at p1 p3;omega));clear qE ja my gf gt lf lt;go_wp2_with fail
      go_ret;exact ⟨by rw [HN.o];rfl,rfl⟩
    |true=>
     cases q2:decide ((x:Int)≤122)with
     |false=>
      cases q3:((i:Int)==0)with
      |false=>
       cases q4:((x:Int) !=95)with
       |false=>
        have HN:Hid ((∀j,j<i+1→okB (dV s j)=true)∧(0<i+1→jJ (dV s 0)=true)):=qE (gt (by have p1:=q1;have p2:=q2;have p3:=q3;have p4:=q4;simp only [decide_eq_true_eq,decide_eq_false_iff_not,bne_iff_ne,ne_eq,bne_eq_false_iff_eq,beq_iff_eq,beq_eq_false_iff_ne]at p1 p2 p3 p4;omega)) (fun h0=>by first|(exact lt (by have p1:=q1;have p2:=q2;have p3:=q3;have p4:=q4;simp only [decide_eq_true_eq,decide_eq_false_iff_not,bne_iff_ne,ne_eq,bne_eq_false_iff_eq,beq_iff_eq,beq_eq_false_iff_ne]at p1 p2 p3 p4;omega))|(exfalso;have p1:=q1;have p2:=q2;have p3:=q3;have p4:=q4;simp only [decide_eq_true_eq,decide_eq_false_iff_not,bne_iff_ne,ne_eq,bne_eq_false_iff_eq,beq_iff_eq,beq_eq_false_iff_ne]at p1 p2 p3 p4;omega));clear qE ja my gf gt lf lt;go_wp2_with fail
        exact ⟨⟨i+1,by omega,by first|trivial|rfl,HN.o.1,HN.o.2,by go_num⟩,by simp only [intOf];omega⟩
       |true=>
        cases q5:decide ((x:Int)<48)with
        |false=>
         cases q6:decide ((57:Int)<(x:Int))with
         |false=>
          have HN:Hid ((∀j,j<i+1→okB (dV s j)=true)∧(0<i+1→jJ (dV s 0)=true)):=qE (gt (by have p1:=q1;have p2:=q2;have p3:=q3;have p4:=q4;have p5:=q5;have p6:=q6;simp only [decide_eq_true_eq,decide_eq_false_iff_not,bne_iff_ne,ne_eq,bne_eq_false_iff_eq,beq_iff_eq,beq_eq_false_iff_ne]at p1 p2 p3 p4 p5 p6;omega)) (fun h0=>by first|(exact lt (by have p1:=q1;have p2:=q2;have p3:=q3;have p4:=q4;have p5:=q5;have p6:=q6;simp only [decide_eq_true_eq,decide_eq_false_iff_not,bne_iff_ne,ne_eq,bne_eq_false_iff_eq,beq_iff_eq,beq_eq_false_iff_ne]at p1 p2 p3 p4 p5 p6;omega))|(exfalso;have p1:=q1;have p2:=q2;have p3:=q3;have p4:=q4;have p5:=q5;have p6:=q6;simp only [decide_eq_true_eq,decide_eq_false_iff_not,bne_iff_ne,ne_eq,bne_eq_false_iff_eq,beq_iff_eq,beq_eq_false_iff_ne]at p1 p2 p3 p4 p5 p6;omega));clear qE ja my gf gt lf lt;go_wp2_with fail
          exact ⟨⟨i+1,by omega,by first|trivial|rfl,HN.o.1,HN.o.2,by go_num⟩,by simp only [intOf];omega⟩
         |true=>
          have HN:Hid (dK s=false):=ja (gf (by have p1:=q1;have p2:=q2;have p3:=q3;have p4:=q4;have p5:=q5;have p6:=q6;simp only [decide_eq_true_eq,decide_eq_false_iff_not,bne_iff_ne,ne_eq,bne_eq_false_iff_eq,beq_iff_eq,beq_eq_false_iff_ne]at p1 p2 p3 p4 p5 p6;omega));clear qE ja my gf gt lf lt;go_wp2_with fail
          go_ret;exact ⟨by rw [HN.o];rfl,rfl⟩
        |true=>
         have HN:Hid (dK s=false):=ja (gf (by have p1:=q1;have p2:=q2;have p3:=q3;have p4:=q4;have p5:=q5;simp only [decide_eq_true_eq,decide_eq_false_iff_not,bne_iff_ne,ne_eq,bne_eq_false_iff_eq,beq_iff_eq,beq_eq_false_iff_ne]at p1 p2 p3 p4 p5;omega));clear qE ja my gf gt lf lt;go_wp2_with fail
         go_ret;exact ⟨by rw [HN.o];rfl,rfl⟩
      |true=>
       have HN:Hid (dK s=false):=my (by have p1:=q1;have p2:=q2;have p3:=q3;simp only [decide_eq_true_eq,decide_eq_false_iff_not,bne_iff_ne,ne_eq,bne_eq_false_iff_eq,beq_iff_eq,beq_eq_false_iff_ne]at p1 p2 p3;omega) (lf (by have p1:=q1;have p2:=q2;have p3:=q3;simp only [decide_eq_true_eq,decide_eq_false_iff_not,bne_iff_ne,ne_eq,bne_eq_false_iff_eq,beq_iff_eq,beq_eq_false_iff_ne]at p1 p2 p3;omega));clear qE ja my gf gt lf lt;go_wp2_with fail
       go_ret;exact ⟨by rw [HN.o];rfl,rfl⟩
     |true=>
      have HN:Hid ((∀j,j<i+1→okB (dV s j)=true)∧(0<i+1→jJ (dV s 0)=true)):=qE (gt (by have p1:=q1;have p2:=q2;simp only [decide_eq_true_eq,decide_eq_false_iff_not,bne_iff_ne,ne_eq,bne_eq_false_iff_eq,beq_iff_eq,beq_eq_false_iff_ne]at p1 p2;omega)) (fun h0=>by first|(exact lt (by have p1:=q1;have p2:=q2;simp only [decide_eq_true_eq,decide_eq_false_iff_not,bne_iff_ne,ne_eq,bne_eq_false_iff_eq,beq_iff_eq,beq_eq_false_iff_ne]at p1 p2;omega))|(exfalso;have p1:=q1;have p2:=q2;simp only [decide_eq_true_eq,decide_eq_false_iff_not,bne_iff_ne,ne_eq,bne_eq_false_iff_eq,beq_iff_eq,beq_eq_false_iff_ne]at p1 p2;omega));clear qE ja my gf gt lf lt;go_wp2_with fail
      exact ⟨⟨i+1,by omega,by first|trivial|rfl,HN.o.1,HN.o.2,by go_num⟩,by simp only [intOf];omega⟩
   ·have hn:=pX h1 h2 P8.o (hL (by omega)) (fun j hj=>hA j (by omega))
    clear hA hL;go_wp2_with fail
    go_ret;exact ⟨by rw [hn];rfl,rfl⟩
def Da (p q:ByteArray):Bool:= !(p.toList==q.toList)
def St.mz (s:St) (nm:ByteArray) (prev:List ByteArray):St:=prev.foldl (fun s p=>s.need (Da p nm) 0 10) s
def St.name (s:St) (nm:ByteArray) (prev:List ByteArray):St:=(s.need (dK nm) 0 9).mz nm prev
theorem St.Im (s:St) (ok:Bool) (f e:Int):(s.need ok f e).idx=s.idx:=by unfold St.need;split<;>rfl
theorem St.om (s:St) (nm:ByteArray) (prev:List ByteArray) (h:s.err≠0):s.mz nm prev=s:=by
 unfold St.mz;induction prev with
 |nil=>rfl
 |cons x l ih=>rw [List.foldl_cons,St.ik s _ _ _ h,ih]
theorem St.F_ (s:St) (nm:ByteArray) (prev:List ByteArray) (i:Nat) (h:i<prev.length):s.mz nm (prev.take (i+1))=(s.mz nm (prev.take i)).need (Da prev[i] nm) 0 10:=by
 unfold St.mz;rw [List.take_succ_eq_append_getElem h,List.foldl_append];rfl
theorem St.Ga (s:St) (nm:ByteArray) (prev:List ByteArray) (i:Nat) (h:(s.mz nm (prev.take i)).err≠0):s.mz nm (prev.take i)=s.mz nm prev:=by
 have h1:s.mz nm prev=(s.mz nm (prev.take i)).mz nm (prev.drop i):=by
  unfold St.mz;rw [←List.foldl_append,List.take_append_drop]
 rw [h1,St.om _ _ _ h]
theorem St.x_ {s:St} {ok:Bool} {f e:Int} (h:(s.need ok f e).err=0):s.err=0:=by
 by_cases h0:s.err=0
 ·exact h0
 ·rw [St.ik s ok f e h0]at h;exact h
theorem St.Gb {s:St} {nm:ByteArray} {prev:List ByteArray} (h:(s.mz nm prev).err=0):s.err=0:=by
 by_cases h0:s.err=0
 ·exact h0
 ·rw [St.om s nm prev h0]at h;exact h
theorem sB (V:World) (K:Nat) (c:ai) (s:St) (nm:ByteArray) (CH:nm.size≤maxLen) (prev:List ByteArray) (F:Nat) (B:Nat) (Db:s.err=0→s.idx=(prev.length:Int)) (hpl:prev.length≤1000000)
 (hen: ∀args w,(callFunc F args).run prog w= .ok (.enter F args) w)
 (hF: ∀V' s' (i:Nat) (hi:i<prev.length),ar K V V'→iN V' K c s'→Calls prog F #[i64 i,.pointer (some ⟨B,0,none⟩)] V' fun e w'=>e= .returned (.string prev[i])∧w'=V') (h:iN V K c s):
 Calls prog 135 #[.pointer (some ⟨K,0,none⟩),.string nm,.func (.func F) #[] #[.pointer (some ⟨B,0,none⟩)]] V fun e' w'=>mq V K c (s.name nm prev) e' w':=by
 have hC:=eT V K c s (dK nm) 0 9 h;unfold St.name;have N2:=St.Im s (dK nm) 0 9;have hz:= @St.x_ s (dK nm) 0 9;have hne:=St.ik s (dK nm) 0 9;obtain ⟨s1,hs1⟩: ∃s1,s.need (dK nm) 0 9=s1:=⟨_,rfl⟩;rw [hs1]at hC N2 hz hne⊢;have MQ:s1.err=0→s1.idx=(prev.length:Int):=fun h0=>by rw [N2];exact Db (hz h0)
 have HC:=ae hC;have HF:=ae hF;have HI:=ae MQ;have HN:=ae (K8 V nm CH)
 clear hs1 hC hF MQ Db N2 hz hne h;go_enter func135,ntmps135
 go_wp2_with fail
 refine HN.o.mono ?_;rintro e w1 ⟨rfl,gH⟩;subst gH;go_wp2_with fail
 refine HC.o.mono ?_;rintro e w1 ⟨rfl,K7,hx1⟩;obtain ⟨-,c9,-⟩:=oh K7;have H1:=ae K7;have X1:=ae hx1
 clear K7 hx1 HC HN;go_wp2_with fail
 clear c9;go_loopw [16] (fun ii wr=> ∃i:Nat,iN wr K c (s1.mz nm (prev.take i))∧ar K w1 wr∧(s1.err=0→i≤prev.length)∧(s1.err≠0→i=0)∧ii= .int .i64 i) (fun ii _=>(s1.idx-intOf ii).toNat)
 case atStart=>exact ⟨0,H1.o,ar.refl _ _,fun _=>Nat.zero_le _,fun _=>rfl,rfl⟩
 case round=>
  obtain ⟨i,hk,hx,hle,hz,rfl⟩:=hrel;clear H1;by_cases hlt:(i:Int)<s1.idx
  ·have t0:decide ((i:Int)<s1.idx)=true:=by simpa using hlt
   obtain ⟨-,-,-,c11,-⟩:=oh hk;have Wj:= @St.Gb s1 nm (prev.take i);have hst:=St.Ga s1 nm prev i;have N3:=St.F_ s1 nm prev i;generalize s1.mz nm (prev.take i)=s2 at*;by_cases h0:s2.err=0
   ·have t1:(s2.err !=0)=false:=by simpa using h0
    have CI:=Wj h0;have Db:=HI.o CI;have jE:i<prev.length:=by omega
    have QZ:=ae (HF.o wr s2 i jE (X1.o.trans hx) hk);have HNd:=ae (eT wr K c s2 (Da prev[i] nm) 0 10 hk);have HT:=ae (N3 jE);have HX:=ae hx
    unfold Da at HNd;clear Wj hst N3 hk hx h0 Db hle hz;go_wp2_with fail
    refine QZ.o.mono ?_;rintro e w2 ⟨rfl,hw2⟩;subst hw2;go_wp2_with fail
    refine HNd.o.mono ?_;rintro e w3 ⟨rfl,hk3,hx3⟩;go_wp2_with fail
    exact ⟨⟨i+1,by rw [HT.o];exact hk3,HX.o.trans hx3,fun _=>by omega,fun hc=>absurd CI hc,by go_num⟩,by simp only [intOf];omega⟩
   ·have t1:(s2.err !=0)=true:=by simpa using h0
    have HS:=ae (hst h0);have ve:=ae hk;have HX:=ae hx
    clear Wj hst N3 h0 hk hx;go_wp2_with fail
    exact bodyPost_ret (v:= .tuple #[]) (by simp [results,results135,go_sem]) rfl ⟨rfl,by rw [←HS.o];exact ve.o,X1.o.trans HX.o⟩
  ·have t0:decide ((i:Int)<s1.idx)=false:=by simpa using hlt
   have pA:s1.mz nm (prev.take i)=s1.mz nm prev:=by
    by_cases he:s1.err=0
    ·have h1:=hle he
     have h2:=HI.o he;rw [List.take_of_length_le (by omega)]
    ·rw [St.om _ _ _ he,St.om _ _ _ he]
   rw [pA]at hk;clear pA hle hz;go_wp2_with fail
   exact bodyPost_end (v:= .tuple #[]) (by simp [results,results135,go_sem]) rfl ⟨rfl,hk,X1.o.trans hx⟩
theorem bH.aj {w:World} {a:Option Addr} {c:Nat} {l:List cN} (h:bH w 3 a c (l.map cN.cells)) (i:Nat) (hi:i<l.length): ∃b o,a=some ⟨b,o,none⟩∧w.cell? ⟨b,o+i*3,none⟩=some (.string l[i].name)∧w.cell? ⟨b,o+i*3+1,none⟩=some (.slice l[i].da l[i].cf.length l[i].dc)∧w.cell? ⟨b,o+i*3+2,none⟩=some (i64 l[i].lF):=by
 obtain ⟨b,o,ha,hc⟩:=h.cell i (by simpa using hi);simp only [List.getElem_map]at hc;exact ⟨b,o,ha,hc 0 (by simp [cN.cells]),hc 1 (by simp [cN.cells]),hc 2 (by simp [cN.cells])⟩
theorem cN.at {w:World} {E:Nat} {T:TypeId} {x:cN} (h:aQ w E T x.cells):w.cell? ⟨E,0,none⟩=some (.string x.name)∧w.cell? ⟨E,1,none⟩=some (.slice x.da x.cf.length x.dc)∧w.cell? ⟨E,2,none⟩=some (i64 x.lF):=
 ⟨(h.cell 0).trans rfl,(h.cell 1).trans rfl,(h.cell 2).trans rfl⟩
theorem bH.lines {w:World} {a:Option Addr} {c:Nat} {l:List aS} (h:bH w 12 a c (l.map aS.cells)) (i:Nat) (hi:i<l.length): ∃b o,a=some ⟨b,o,none⟩∧w.cell? ⟨b,o+i*12,none⟩=some (.string l[i].name)∧w.cell? ⟨b,o+i*12+1,none⟩=some (i64 l[i].cR)∧w.cell? ⟨b,o+i*12+2,none⟩=some (i64 l[i].kq)∧w.cell? ⟨b,o+i*12+3,none⟩=some (i64 l[i].rn)∧w.cell? ⟨b,o+i*12+4,none⟩=some (i64 l[i].rd)∧w.cell? ⟨b,o+i*12+5,none⟩=some (i64 l[i].qD)∧w.cell? ⟨b,o+i*12+6,none⟩=some (i64 l[i].uf)∧w.cell? ⟨b,o+i*12+7,none⟩=some (i64 l[i].sk)∧w.cell? ⟨b,o+i*12+8,none⟩=some (i64 l[i].wI)∧w.cell? ⟨b,o+i*12+9,none⟩=some (i64 l[i].cY)∧w.cell? ⟨b,o+i*12+10,none⟩=some (i64 l[i].jH)∧w.cell? ⟨b,o+i*12+11,none⟩=some (.slice l[i].aa l[i].away.length l[i].ac):=by
 obtain ⟨b,o,ha,hc⟩:=h.cell i (by simpa using hi);simp only [List.getElem_map]at hc;exact ⟨b,o,ha,hc 0 (by simp [aS.cells]),hc 1 (by simp [aS.cells]),hc 2 (by simp [aS.cells]),hc 3 (by simp [aS.cells]),hc 4 (by simp [aS.cells]),hc 5 (by simp [aS.cells]),hc 6 (by simp [aS.cells]),hc 7 (by simp [aS.cells]),hc 8 (by simp [aS.cells]),hc 9 (by simp [aS.cells]),hc 10 (by simp [aS.cells]),hc 11 (by simp [aS.cells])⟩
theorem aS.at {w:World} {E:Nat} {T:TypeId} {x:aS} (h:aQ w E T x.cells):w.cell? ⟨E,0,none⟩=some (.string x.name)∧w.cell? ⟨E,1,none⟩=some (i64 x.cR)∧w.cell? ⟨E,2,none⟩=some (i64 x.kq)∧w.cell? ⟨E,3,none⟩=some (i64 x.rn)∧w.cell? ⟨E,4,none⟩=some (i64 x.rd)∧w.cell? ⟨E,5,none⟩=some (i64 x.qD)∧w.cell? ⟨E,6,none⟩=some (i64 x.uf)∧w.cell? ⟨E,7,none⟩=some (i64 x.sk)∧w.cell? ⟨E,8,none⟩=some (i64 x.wI)∧w.cell? ⟨E,9,none⟩=some (i64 x.cY)∧w.cell? ⟨E,10,none⟩=some (i64 x.jH)∧w.cell? ⟨E,11,none⟩=some (.slice x.aa x.away.length x.ac):=
 ⟨(h.cell 0).trans rfl,(h.cell 1).trans rfl,(h.cell 2).trans rfl,(h.cell 3).trans rfl,(h.cell 4).trans rfl,(h.cell 5).trans rfl,(h.cell 6).trans rfl,(h.cell 7).trans rfl,(h.cell 8).trans rfl,(h.cell 9).trans rfl,(h.cell 10).trans rfl,(h.cell 11).trans rfl⟩
theorem bH.aq {w:World} {a:Option Addr} {c:Nat} {l:List aK} (h:bH w 22 a c (l.map aK.cells)) (i:Nat) (hi:i<l.length): ∃b o,a=some ⟨b,o,none⟩∧w.cell? ⟨b,o+i*22,none⟩=some (.string l[i].name)∧w.cell? ⟨b,o+i*22+1,none⟩=some (i64 l[i].cS)∧w.cell? ⟨b,o+i*22+2,none⟩=some (i64 l[i].min)∧w.cell? ⟨b,o+i*22+3,none⟩=some (i64 l[i].max)∧w.cell? ⟨b,o+i*22+4,none⟩=some (.slice l[i].sa l[i].aU.length l[i].sc)∧w.cell? ⟨b,o+i*22+5,none⟩=some (i64 l[i].fu)∧w.cell? ⟨b,o+i*22+6,none⟩=some (i64 l[i].fw)∧w.cell? ⟨b,o+i*22+7,none⟩=some (i64 l[i].dv)∧w.cell? ⟨b,o+i*22+8,none⟩=some (i64 l[i].cL)∧w.cell? ⟨b,o+i*22+9,none⟩=some (i64 l[i].dx)∧w.cell? ⟨b,o+i*22+10,none⟩=some (i64 l[i].fz)∧w.cell? ⟨b,o+i*22+11,none⟩=some (i64 l[i].dy)∧w.cell? ⟨b,o+i*22+12,none⟩=some (i64 l[i].startTime)∧w.cell? ⟨b,o+i*22+13,none⟩=some (i64 l[i].dS)∧w.cell? ⟨b,o+i*22+14,none⟩=some (i64 l[i].dz)∧w.cell? ⟨b,o+i*22+15,none⟩=some (i64 l[i].dA)∧w.cell? ⟨b,o+i*22+16,none⟩=some (i64 l[i].aA)∧w.cell? ⟨b,o+i*22+17,none⟩=some (i64 l[i].bK)∧w.cell? ⟨b,o+i*22+18,none⟩=some (.slice l[i].aa l[i].away.length l[i].ac)∧w.cell? ⟨b,o+i*22+19,none⟩=some (i64 l[i].state)∧w.cell? ⟨b,o+i*22+20,none⟩=some (i64 l[i].hours)∧w.cell? ⟨b,o+i*22+21,none⟩=some (i64 l[i].output):=by
 obtain ⟨b,o,ha,hc⟩:=h.cell i (by simpa using hi);simp only [List.getElem_map]at hc;exact ⟨b,o,ha,hc 0 (by simp [aK.cells]),hc 1 (by simp [aK.cells]),hc 2 (by simp [aK.cells]),hc 3 (by simp [aK.cells]),hc 4 (by simp [aK.cells]),hc 5 (by simp [aK.cells]),hc 6 (by simp [aK.cells]),hc 7 (by simp [aK.cells]),hc 8 (by simp [aK.cells]),hc 9 (by simp [aK.cells]),hc 10 (by simp [aK.cells]),hc 11 (by simp [aK.cells]),hc 12 (by simp [aK.cells]),hc 13 (by simp [aK.cells]),hc 14 (by simp [aK.cells]),hc 15 (by simp [aK.cells]),hc 16 (by simp [aK.cells]),hc 17 (by simp [aK.cells]),hc 18 (by simp [aK.cells]),hc 19 (by simp [aK.cells]),hc 20 (by simp [aK.cells]),hc 21 (by simp [aK.cells])⟩
theorem aK.at {w:World} {E:Nat} {T:TypeId} {x:aK} (h:aQ w E T x.cells):w.cell? ⟨E,0,none⟩=some (.string x.name)∧w.cell? ⟨E,1,none⟩=some (i64 x.cS)∧w.cell? ⟨E,2,none⟩=some (i64 x.min)∧w.cell? ⟨E,3,none⟩=some (i64 x.max)∧w.cell? ⟨E,4,none⟩=some (.slice x.sa x.aU.length x.sc)∧w.cell? ⟨E,5,none⟩=some (i64 x.fu)∧w.cell? ⟨E,6,none⟩=some (i64 x.fw)∧w.cell? ⟨E,7,none⟩=some (i64 x.dv)∧w.cell? ⟨E,8,none⟩=some (i64 x.cL)∧w.cell? ⟨E,9,none⟩=some (i64 x.dx)∧w.cell? ⟨E,10,none⟩=some (i64 x.fz)∧w.cell? ⟨E,11,none⟩=some (i64 x.dy)∧w.cell? ⟨E,12,none⟩=some (i64 x.startTime)∧w.cell? ⟨E,13,none⟩=some (i64 x.dS)∧w.cell? ⟨E,14,none⟩=some (i64 x.dz)∧w.cell? ⟨E,15,none⟩=some (i64 x.dA)∧w.cell? ⟨E,16,none⟩=some (i64 x.aA)∧w.cell? ⟨E,17,none⟩=some (i64 x.bK)∧w.cell? ⟨E,18,none⟩=some (.slice x.aa x.away.length x.ac)∧w.cell? ⟨E,19,none⟩=some (i64 x.state)∧w.cell? ⟨E,20,none⟩=some (i64 x.hours)∧w.cell? ⟨E,21,none⟩=some (i64 x.output):=
 ⟨(h.cell 0).trans rfl,(h.cell 1).trans rfl,(h.cell 2).trans rfl,(h.cell 3).trans rfl,(h.cell 4).trans rfl,(h.cell 5).trans rfl,(h.cell 6).trans rfl,(h.cell 7).trans rfl,(h.cell 8).trans rfl,(h.cell 9).trans rfl,(h.cell 10).trans rfl,(h.cell 11).trans rfl,(h.cell 12).trans rfl,(h.cell 13).trans rfl,(h.cell 14).trans rfl,(h.cell 15).trans rfl,(h.cell 16).trans rfl,(h.cell 17).trans rfl,(h.cell 18).trans rfl,(h.cell 19).trans rfl,(h.cell 20).trans rfl,(h.cell 21).trans rfl⟩
theorem bH.stores {w:World} {a:Option Addr} {c:Nat} {l:List bG} (h:bH w 9 a c (l.map bG.cells)) (i:Nat) (hi:i<l.length): ∃b o,a=some ⟨b,o,none⟩∧w.cell? ⟨b,o+i*9,none⟩=some (.string l[i].name)∧w.cell? ⟨b,o+i*9+1,none⟩=some (i64 l[i].cS)∧w.cell? ⟨b,o+i*9+2,none⟩=some (i64 l[i].capacity)∧w.cell? ⟨b,o+i*9+3,none⟩=some (i64 l[i].initial)∧w.cell? ⟨b,o+i*9+4,none⟩=some (i64 l[i].final)∧w.cell? ⟨b,o+i*9+5,none⟩=some (i64 l[i].fS)∧w.cell? ⟨b,o+i*9+6,none⟩=some (i64 l[i].discharge)∧w.cell? ⟨b,o+i*9+7,none⟩=some (i64 l[i].en)∧w.cell? ⟨b,o+i*9+8,none⟩=some (i64 l[i].ed):=by
 obtain ⟨b,o,ha,hc⟩:=h.cell i (by simpa using hi);simp only [List.getElem_map]at hc;exact ⟨b,o,ha,hc 0 (by simp [bG.cells]),hc 1 (by simp [bG.cells]),hc 2 (by simp [bG.cells]),hc 3 (by simp [bG.cells]),hc 4 (by simp [bG.cells]),hc 5 (by simp [bG.cells]),hc 6 (by simp [bG.cells]),hc 7 (by simp [bG.cells]),hc 8 (by simp [bG.cells])⟩
theorem bG.at {w:World} {E:Nat} {T:TypeId} {x:bG} (h:aQ w E T x.cells):w.cell? ⟨E,0,none⟩=some (.string x.name)∧w.cell? ⟨E,1,none⟩=some (i64 x.cS)∧w.cell? ⟨E,2,none⟩=some (i64 x.capacity)∧w.cell? ⟨E,3,none⟩=some (i64 x.initial)∧w.cell? ⟨E,4,none⟩=some (i64 x.final)∧w.cell? ⟨E,5,none⟩=some (i64 x.fS)∧w.cell? ⟨E,6,none⟩=some (i64 x.discharge)∧w.cell? ⟨E,7,none⟩=some (i64 x.en)∧w.cell? ⟨E,8,none⟩=some (i64 x.ed):=
 ⟨(h.cell 0).trans rfl,(h.cell 1).trans rfl,(h.cell 2).trans rfl,(h.cell 3).trans rfl,(h.cell 4).trans rfl,(h.cell 5).trans rfl,(h.cell 6).trans rfl,(h.cell 7).trans rfl,(h.cell 8).trans rfl⟩
theorem bH.aB {w:World} {a:Option Addr} {c:Nat} {l:List dX} (h:bH w 5 a c (l.map dX.cells)) (i:Nat) (hi:i<l.length): ∃b o,a=some ⟨b,o,none⟩∧w.cell? ⟨b,o+i*5,none⟩=some (.string l[i].name)∧w.cell? ⟨b,o+i*5+1,none⟩=some (i64 l[i].cS)∧w.cell? ⟨b,o+i*5+2,none⟩=some (.slice l[i].ia l[i].imp.length l[i].ic)∧w.cell? ⟨b,o+i*5+3,none⟩=some (.slice l[i].ea l[i].exp.length l[i].ec)∧w.cell? ⟨b,o+i*5+4,none⟩=some (.slice l[i].pa l[i].aV.length l[i].pc):=by
 obtain ⟨b,o,ha,hc⟩:=h.cell i (by simpa using hi);simp only [List.getElem_map]at hc;exact ⟨b,o,ha,hc 0 (by simp [dX.cells]),hc 1 (by simp [dX.cells]),hc 2 (by simp [dX.cells]),hc 3 (by simp [dX.cells]),hc 4 (by simp [dX.cells])⟩
theorem dX.at {w:World} {E:Nat} {T:TypeId} {x:dX} (h:aQ w E T x.cells):w.cell? ⟨E,0,none⟩=some (.string x.name)∧w.cell? ⟨E,1,none⟩=some (i64 x.cS)∧w.cell? ⟨E,2,none⟩=some (.slice x.ia x.imp.length x.ic)∧w.cell? ⟨E,3,none⟩=some (.slice x.ea x.exp.length x.ec)∧w.cell? ⟨E,4,none⟩=some (.slice x.pa x.aV.length x.pc):=
 ⟨(h.cell 0).trans rfl,(h.cell 1).trans rfl,(h.cell 2).trans rfl,(h.cell 3).trans rfl,(h.cell 4).trans rfl⟩
theorem bH.outs {w:World} {a:Option Addr} {c:Nat} {l:List aY} (h:bH w 4 a c (l.map aY.cells)) (i:Nat) (hi:i<l.length): ∃b o,a=some ⟨b,o,none⟩∧w.cell? ⟨b,o+i*4,none⟩=some (.string l[i].name)∧w.cell? ⟨b,o+i*4+1,none⟩=some (.slice l[i].la l[i].lines.length l[i].lc)∧w.cell? ⟨b,o+i*4+2,none⟩=some (.bool l[i].bI)∧w.cell? ⟨b,o+i*4+3,none⟩=some (.slice l[i].ma l[i].moves.length l[i].mc):=by
 obtain ⟨b,o,ha,hc⟩:=h.cell i (by simpa using hi);simp only [List.getElem_map]at hc;exact ⟨b,o,ha,hc 0 (by simp [aY.cells]),hc 1 (by simp [aY.cells]),hc 2 (by simp [aY.cells]),hc 3 (by simp [aY.cells])⟩
theorem aY.at {w:World} {E:Nat} {T:TypeId} {x:aY} (h:aQ w E T x.cells):w.cell? ⟨E,0,none⟩=some (.string x.name)∧w.cell? ⟨E,1,none⟩=some (.slice x.la x.lines.length x.lc)∧w.cell? ⟨E,2,none⟩=some (.bool x.bI)∧w.cell? ⟨E,3,none⟩=some (.slice x.ma x.moves.length x.mc):=
 ⟨(h.cell 0).trans rfl,(h.cell 1).trans rfl,(h.cell 2).trans rfl,(h.cell 3).trans rfl⟩
theorem bH.aU {w:World} {a:Option Addr} {c:Nat} {l:List dH} (h:bH w 2 a c (l.map dH.cells)) (i:Nat) (hi:i<l.length): ∃b o,a=some ⟨b,o,none⟩∧w.cell? ⟨b,o+i*2,none⟩=some (i64 l[i].width)∧w.cell? ⟨b,o+i*2+1,none⟩=some (i64 l[i].aV):=by
 obtain ⟨b,o,ha,hc⟩:=h.cell i (by simpa using hi);simp only [List.getElem_map]at hc;exact ⟨b,o,ha,hc 0 (by simp [dH.cells]),hc 1 (by simp [dH.cells])⟩
theorem dH.at {w:World} {E:Nat} {T:TypeId} {x:dH} (h:aQ w E T x.cells):w.cell? ⟨E,0,none⟩=some (i64 x.width)∧w.cell? ⟨E,1,none⟩=some (i64 x.aV):=
 ⟨(h.cell 0).trans rfl,(h.cell 1).trans rfl⟩
theorem bH.moves {w:World} {a:Option Addr} {c:Nat} {l:List bL} (h:bH w 3 a c (l.map bL.cells)) (i:Nat) (hi:i<l.length): ∃b o,a=some ⟨b,o,none⟩∧w.cell? ⟨b,o+i*3,none⟩=some (i64 l[i].unit)∧w.cell? ⟨b,o+i*3+1,none⟩=some (i64 l[i].up)∧w.cell? ⟨b,o+i*3+2,none⟩=some (i64 l[i].down):=by
 obtain ⟨b,o,ha,hc⟩:=h.cell i (by simpa using hi);simp only [List.getElem_map]at hc;exact ⟨b,o,ha,hc 0 (by simp [bL.cells]),hc 1 (by simp [bL.cells]),hc 2 (by simp [bL.cells])⟩
theorem bL.at {w:World} {E:Nat} {T:TypeId} {x:bL} (h:aQ w E T x.cells):w.cell? ⟨E,0,none⟩=some (i64 x.unit)∧w.cell? ⟨E,1,none⟩=some (i64 x.up)∧w.cell? ⟨E,2,none⟩=some (i64 x.down):=
 ⟨(h.cell 0).trans rfl,(h.cell 1).trans rfl,(h.cell 2).trans rfl⟩
theorem aQ.but {K:Nat} {w w':World} {b:Nat} {T:TypeId} {vs:List Value} (h:aQ w b T vs) (e:ar K w w') (hb:b≠K):aQ w' b T vs:=by
 unfold aQ;rw [e.block b h.lt hb];exact h
theorem cK {K:Nat} {w w':World} {p:Addr} {v:Value} (h:w.cell? p=some v) (e:ar K w w') (hb:p.block≠K):w'.cell? p=some v:=by
 have h2:=cG h;unfold World.cell? at*;rw [e.block _ h2 hb];exact h
theorem Io (w0 V:World) (K B:Nat) (c:ai) (s:St) (i:Nat) (hK:w0.heap.size≤K) (hV:Ext w0 V) (hc:a_ w0 c) (h:iN V K c s) (hB:V.cell? ⟨B,0,none⟩=some (.pointer (some ⟨K,0,none⟩))) (hi:i<c.aj.length):
 Calls prog 136 #[i64 i,.pointer (some ⟨B,0,none⟩)] V fun e w'=>e= .returned (.string c.aj[i].name)∧w'=V:=by
 have hr:=(hc.aj.ext hV);have hle:=hr.le;have dQ:=hr.cap
 rw [List.length_map]at hle;obtain ⟨b,o,ha,c0,-⟩:=hr.aj i hi;obtain ⟨k0,k1,k2,k3,k4,k5,k6,k7⟩:=eC h;rw [ha]at k2;have jS:(0:Int)≤(i:Int):=by omega
 have jI:(i:Int)<(c.aj.length:Int):=by omega
 clear h hc hr hV ha;go_enter func136,ntmps136
 go_wp2_with fail
 go_ret;exact ⟨rfl,rfl⟩
theorem Ip (w0 V:World) (K B:Nat) (c:ai) (s:St) (i:Nat) (hK:w0.heap.size≤K) (hV:Ext w0 V) (hc:a_ w0 c) (h:iN V K c s) (hB:V.cell? ⟨B,0,none⟩=some (.pointer (some ⟨K,0,none⟩))) (hi:i<c.lines.length):
 Calls prog 137 #[i64 i,.pointer (some ⟨B,0,none⟩)] V fun e w'=>e= .returned (.string c.lines[i].name)∧w'=V:=by
 have hr:=(hc.lines.ext hV);have hle:=hr.le;have dQ:=hr.cap
 rw [List.length_map]at hle;obtain ⟨b,o,ha,c0,-⟩:=hr.lines i hi;obtain ⟨k0,k1,k2,k3,k4,k5,k6,k7⟩:=eC h;rw [ha]at k3;have jS:(0:Int)≤(i:Int):=by omega
 have jI:(i:Int)<(c.lines.length:Int):=by omega
 clear h hc hr hV ha;go_enter func137,ntmps137
 go_wp2_with fail
 go_ret;exact ⟨rfl,rfl⟩
theorem Iq (w0 V:World) (K B:Nat) (c:ai) (s:St) (i:Nat) (hK:w0.heap.size≤K) (hV:Ext w0 V) (hc:a_ w0 c) (h:iN V K c s) (hB:V.cell? ⟨B,0,none⟩=some (.pointer (some ⟨K,0,none⟩))) (hi:i<c.aq.length):
 Calls prog 141 #[i64 i,.pointer (some ⟨B,0,none⟩)] V fun e w'=>e= .returned (.string c.aq[i].name)∧w'=V:=by
 have hr:=(hc.aq.ext hV);have hle:=hr.le;have dQ:=hr.cap
 rw [List.length_map]at hle;obtain ⟨b,o,ha,c0,-⟩:=hr.aq i hi;obtain ⟨k0,k1,k2,k3,k4,k5,k6,k7⟩:=eC h;rw [ha]at k4;have jS:(0:Int)≤(i:Int):=by omega
 have jI:(i:Int)<(c.aq.length:Int):=by omega
 clear h hc hr hV ha;go_enter func141,ntmps141
 go_wp2_with fail
 go_ret;exact ⟨rfl,rfl⟩
theorem Gc (w0 V:World) (K B:Nat) (c:ai) (s:St) (i:Nat) (hK:w0.heap.size≤K) (hV:Ext w0 V) (hc:a_ w0 c) (h:iN V K c s) (hB:V.cell? ⟨B,0,none⟩=some (.pointer (some ⟨K,0,none⟩))) (hi:i<c.stores.length):
 Calls prog 143 #[i64 i,.pointer (some ⟨B,0,none⟩)] V fun e w'=>e= .returned (.string c.stores[i].name)∧w'=V:=by
 have hr:=(hc.stores.ext hV);have hle:=hr.le;have dQ:=hr.cap
 rw [List.length_map]at hle;obtain ⟨b,o,ha,c0,-⟩:=hr.stores i hi;obtain ⟨k0,k1,k2,k3,k4,k5,k6,k7⟩:=eC h;rw [ha]at k5;have jS:(0:Int)≤(i:Int):=by omega
 have jI:(i:Int)<(c.stores.length:Int):=by omega
 clear h hc hr hV ha;go_enter func143,ntmps143
 go_wp2_with fail
 go_ret;exact ⟨rfl,rfl⟩
theorem K9 (w0 V:World) (K B:Nat) (c:ai) (s:St) (i:Nat) (hK:w0.heap.size≤K) (hV:Ext w0 V) (hc:a_ w0 c) (h:iN V K c s) (hB:V.cell? ⟨B,0,none⟩=some (.pointer (some ⟨K,0,none⟩))) (hi:i<c.aB.length):
 Calls prog 144 #[i64 i,.pointer (some ⟨B,0,none⟩)] V fun e w'=>e= .returned (.string c.aB[i].name)∧w'=V:=by
 have hr:=(hc.aB.ext hV);have hle:=hr.le;have dQ:=hr.cap
 rw [List.length_map]at hle;obtain ⟨b,o,ha,c0,-⟩:=hr.aB i hi;obtain ⟨k0,k1,k2,k3,k4,k5,k6,k7⟩:=eC h;rw [ha]at k6;have jS:(0:Int)≤(i:Int):=by omega
 have jI:(i:Int)<(c.aB.length:Int):=by omega
 clear h hc hr hV ha;go_enter func144,ntmps144
 go_wp2_with fail
 go_ret;exact ⟨rfl,rfl⟩
theorem K_ (w0 V:World) (K B:Nat) (c:ai) (s:St) (i:Nat) (hK:w0.heap.size≤K) (hV:Ext w0 V) (hc:a_ w0 c) (h:iN V K c s) (hB:V.cell? ⟨B,0,none⟩=some (.pointer (some ⟨K,0,none⟩))) (hi:i<c.outs.length):
 Calls prog 145 #[i64 i,.pointer (some ⟨B,0,none⟩)] V fun e w'=>e= .returned (.string c.outs[i].name)∧w'=V:=by
 have hr:=(hc.outs.ext hV);have hle:=hr.le;have dQ:=hr.cap
 rw [List.length_map]at hle;obtain ⟨b,o,ha,c0,-⟩:=hr.outs i hi;obtain ⟨k0,k1,k2,k3,k4,k5,k6,k7⟩:=eC h;rw [ha]at k7;have jS:(0:Int)≤(i:Int):=by omega
 have jI:(i:Int)<(c.outs.length:Int):=by omega
 clear h hc hr hV ha;go_enter func145,ntmps145
 go_wp2_with fail
 go_ret;exact ⟨rfl,rfl⟩
end Go.Proofs.YtkpngkdgphojlaaGreat
