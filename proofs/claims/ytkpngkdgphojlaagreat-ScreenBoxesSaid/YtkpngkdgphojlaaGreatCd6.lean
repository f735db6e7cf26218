/- Texts of the proof. -/
import Derived.Test.YtkpngkdgphojlaaGreatCd4
import Derived.Test.YtkpngkdgphojlaaGreatCd5
set_option linter.all false
set_option maxHeartbeats 4000000
set_option maxRecDepth 100000
namespace Go.Proofs.YtkpngkdgphojlaaGreat
open Go.Proofs.Tryz
open Go.RowKit
def pI (c:ai) (x:aP) (prev:List ByteArray) (e:Int):Int:=mJ (nd (nd (nd (nd (nd (nd (oT (oT (gP e x.name prev) c x.cU) c x.j5) (x.cU !=x.j5) 1) (eG x.rn x.rd&&decide (0<x.rn)) 3) (eG x.se x.vW&&decide (x.se≤0)) 3) (eG x.tj x.yA&&decide (0≤x.tj)) 3) (bk 0 1048576 [x.cY]) 3) (bk x.cY 1048576 [x.jS]) 3) c x.away
theorem Hn (w0 V:World) (K:Nat) (c:ai) (e:Int) (i:Nat) (hi:i<c.lines.length) (hK:w0.heap.size≤K) (hV:Ext w0 V) (hc:aS w0 c) (hn:c.lines.length≤1000000) (h:FE V K e):
 Calls prog 57 #[.pointer (some ⟨K,0,none⟩),.agg (C8 c),i64 i] V fun e' w'=>qT V K (pI c c.lines[i] ((c.lines.take i).map aP.name) e) e' w':=by
 try unfold C8
 have hle:=hc.lines.le;have dy:=hc.lines.cap
 rw [List.length_map]at hle;have iz:=ae (hc.line c.lines[i] (List.getElem_mem hi));have kN:Hid (∃h:i<(c.lines.map aP.name).length,(c.lines.map aP.name)[i]=c.lines[i].name∧(c.lines.map aP.name).take i=(c.lines.take i).map aP.name):=⟨by simpa using hi,by simp,by rw [List.map_take]⟩;have uF:Hid ((c.lines.map aP.name).length≤1000000):=by(show _≤_;rw [List.length_map];exact hn)
 generalize hx:c.lines[i]=x at iz kN⊢;generalize (c.lines.take i).map aP.name=prev at kN⊢;have Au:=ae hx;have HV:=ae hV;have et:=ae hc;have HF:=ae h;have cX:=ae hK;have qY:=ae h.lt
 have f_:(0:Int)≤(i:Int):=by omega
 have fU:(i:Int)<(c.lines.length:Int):=by omega
 clear hc hV h hK hn hx;go_enter func57,ntmps57
 go_upto_region 1 with fail
 generalize hW:World.alloc _ _=W;obtain ⟨B,hB,x0,A⟩:=dv hW;rw [←hB];have fP:B≠K:=by have:=qY.o;omega
 obtain ⟨b,o,ha,D⟩:=(et.o.lines.ext (HV.o.trans x0)).cs i hi;rw [Au.o]at D;have HI:=ae (iz.o.2.2);have C:=A.cs;simp only [Cs,ai.cells,aP.cells,Nat.zero_add,Nat.add_zero,Nat.reduceAdd,and_true]at D C;rw [ha]at C;clear hW hB ha;go_upto_region 2 with fail
 generalize hW1:World.alloc _ _=W1;obtain ⟨E,hE,x1,A1⟩:=dv hW1;rw [←hE];have lg:E≠K:=by have:=qY.o;have:=x0.size;omega
 have F:=fun Y (e:ar K W1 Y)=>And.intro ((A.ext x1).dA e fP).cs (A1.dA e lg).cs;simp only [Cs,ai.cells,aP.cells,Nat.zero_add,Nat.add_zero,Nat.reduceAdd,and_true]at F;have X:=ar.refl K W1;have HX:=ae ((x0.trans x1).but K);have kX:=ae ((HV.o.trans x0).trans x1)
 replace HF:=ae ((HF.o.ext x0).ext x1);have P:=Ar;clear x0 A C D hW1 hE x1 A1 HV qY Au;go_wp2_with (first|((first|(go_at_call 53;refine (k9 w0 _ K c _ 2 i prev _ x.name (oD c) (by decide) kN.o uF.o cX.o (X.ext kX.o cX.o) et.o iz.o.1 HF.o).mono ?_)|(go_at_call 98;refine (tP w0 _ K c _ _ _ _ _ (X.ext kX.o cX.o) et.o (HI.o _ (by simp)) HF.o).mono ?_)|(go_at_call 55;refine (cf _ K _ _ _ _ _ _ HF.o).mono ?_)|(go_at_call 100;refine (Am w0 _ K c _ _ _ _ _ _ _ cX.o (X.ext kX.o cX.o) iz.o.2.1 HF.o).mono ?_));rintro e w ⟨rfl,hf,hx⟩;replace X:=X.trans hx;replace HF:=ae hf;clear hx hf)|(go_at_call 56;generalize hU:World.alloc _ _=U;obtain ⟨G,hG,xU,AU⟩:=dv hU;rw [←hG];refine (eI U _ _ (some ⟨G,0,none⟩) 1 [_] (AU.KM (HI.o _ (by simp)))).mono ?_;rintro e _ ⟨rfl,rfl⟩;replace X:=X.trans (xU.but K);replace HF:=ae (HF.o.ext xU);clear hU hG xU AU)|(go_at_call 99;refine (jT _ _ _ (HI.o _ (by simp)) (HI.o _ (by simp))).mono ?_;rintro e w ⟨rfl,hx⟩;replace X:=X.trans (hx.but K);replace HF:=ae (HF.o.ext hx);clear hx)|(refine Qy ?_))
 exact bodyPost_end (v:= .tuple #[]) (by simp [results,results57,go_sem]) rfl ⟨rfl,by first|exact HF.o|simpa [pI]using HF.o,HX.o.trans X⟩
def lV (c:ai) (x:bj) (prev:List ByteArray) (e:Int):Int:=nd (nd (nd (nd (nd (nd (oT (gP e x.name prev) c x.bus) (bk 0 1048576 [x.capacity]) 3) (bk 0 x.capacity [x.initial]) 3) (bk 0 x.capacity [x.final]) 3) (bk 0 1048576 [x.dg]) 3) (bk 0 1048576 [x.discharge]) 3) ((eG x.en x.ed&&decide (0<x.en))&&decide (x.en≤x.ed)) 3
theorem Fq (w0 V:World) (K:Nat) (c:ai) (e:Int) (i:Nat) (hi:i<c.stores.length) (hK:w0.heap.size≤K) (hV:Ext w0 V) (hc:aS w0 c) (hn:c.stores.length≤1000000) (h:FE V K e):
 Calls prog 59 #[.pointer (some ⟨K,0,none⟩),.agg (C8 c),i64 i] V fun e' w'=>qT V K (lV c c.stores[i] ((c.stores.take i).map bj.name) e) e' w':=by
 try unfold C8
 have hle:=hc.stores.le;have dy:=hc.stores.cap
 rw [List.length_map]at hle;have iz:=ae (hc.store c.stores[i] (List.getElem_mem hi));have kN:Hid (∃h:i<(c.stores.map bj.name).length,(c.stores.map bj.name)[i]=c.stores[i].name∧(c.stores.map bj.name).take i=(c.stores.take i).map bj.name):=⟨by simpa using hi,by simp,by rw [List.map_take]⟩;have uF:Hid ((c.stores.map bj.name).length≤1000000):=by(show _≤_;rw [List.length_map];exact hn)
 generalize hx:c.stores[i]=x at iz kN⊢;generalize (c.stores.take i).map bj.name=prev at kN⊢;have Au:=ae hx;have HV:=ae hV;have et:=ae hc;have HF:=ae h;have cX:=ae hK;have qY:=ae h.lt
 have f_:(0:Int)≤(i:Int):=by omega
 have fU:(i:Int)<(c.stores.length:Int):=by omega
 clear hc hV h hK hn hx;go_enter func59,ntmps59
 go_upto_region 1 with fail
 generalize hW:World.alloc _ _=W;obtain ⟨B,hB,x0,A⟩:=dv hW;rw [←hB];have fP:B≠K:=by have:=qY.o;omega
 obtain ⟨b,o,ha,D⟩:=(et.o.stores.ext (HV.o.trans x0)).cs i hi;rw [Au.o]at D;have HI:=ae (iz.o.2);have C:=A.cs;simp only [Cs,ai.cells,bj.cells,Nat.zero_add,Nat.add_zero,Nat.reduceAdd,and_true]at D C;rw [ha]at C;clear hW hB ha;go_upto_region 2 with fail
 generalize hW1:World.alloc _ _=W1;obtain ⟨E,hE,x1,A1⟩:=dv hW1;rw [←hE];have lg:E≠K:=by have:=qY.o;have:=x0.size;omega
 have F:=fun Y (e:ar K W1 Y)=>And.intro ((A.ext x1).dA e fP).cs (A1.dA e lg).cs;simp only [Cs,ai.cells,bj.cells,Nat.zero_add,Nat.add_zero,Nat.reduceAdd,and_true]at F;have X:=ar.refl K W1;have HX:=ae ((x0.trans x1).but K);have kX:=ae ((HV.o.trans x0).trans x1)
 replace HF:=ae ((HF.o.ext x0).ext x1);have P:=Ar;clear x0 A C D hW1 hE x1 A1 HV qY Au;go_wp2_with (first|((first|(go_at_call 53;refine (k9 w0 _ K c _ 4 i prev _ x.name (nh c) (by decide) kN.o uF.o cX.o (X.ext kX.o cX.o) et.o iz.o.1 HF.o).mono ?_)|(go_at_call 98;refine (tP w0 _ K c _ _ _ _ _ (X.ext kX.o cX.o) et.o (HI.o _ (by simp)) HF.o).mono ?_)|(go_at_call 55;refine (cf _ K _ _ _ _ _ _ HF.o).mono ?_));rintro e w ⟨rfl,hf,hx⟩;replace X:=X.trans hx;replace HF:=ae hf;clear hx hf)|(go_at_call 56;generalize hU:World.alloc _ _=U;obtain ⟨G,hG,xU,AU⟩:=dv hU;rw [←hG];refine (eI U _ _ (some ⟨G,0,none⟩) 1 [_] (AU.KM (HI.o _ (by simp)))).mono ?_;rintro e _ ⟨rfl,rfl⟩;replace X:=X.trans (xU.but K);replace HF:=ae (HF.o.ext xU);clear hU hG xU AU)|(go_at_call 99;refine (jT _ _ _ (HI.o _ (by simp)) (HI.o _ (by simp))).mono ?_;rintro e w ⟨rfl,hx⟩;replace X:=X.trans (hx.but K);replace HF:=ae (HF.o.ext hx);clear hx)|(refine Qy ?_))
 exact bodyPost_end (v:= .tuple #[]) (by simp [results,results59,go_sem]) rfl ⟨rfl,by first|exact HF.o|simpa [lV]using HF.o,HX.o.trans X⟩
def yF (c:ai) (x:dS) (prev:List ByteArray) (e:Int):Int:=fl (fl (fl (oT (gP e x.name prev) c x.bus) c x.imp 0 1048576) c x.exp 0 1048576) c x.aX (-1048576) 1048576
theorem KN (w0 V:World) (K:Nat) (c:ai) (e:Int) (i:Nat) (hi:i<c.aL.length) (hK:w0.heap.size≤K) (hV:Ext w0 V) (hc:aS w0 c) (hn:c.aL.length≤1000000) (h:FE V K e):
 Calls prog 60 #[.pointer (some ⟨K,0,none⟩),.agg (C8 c),i64 i] V fun e' w'=>qT V K (yF c c.aL[i] ((c.aL.take i).map dS.name) e) e' w':=by
 try unfold C8
 have hle:=hc.aL.le;have dy:=hc.aL.cap
 rw [List.length_map]at hle;have iz:=ae (hc.tie c.aL[i] (List.getElem_mem hi));have kN:Hid (∃h:i<(c.aL.map dS.name).length,(c.aL.map dS.name)[i]=c.aL[i].name∧(c.aL.map dS.name).take i=(c.aL.take i).map dS.name):=⟨by simpa using hi,by simp,by rw [List.map_take]⟩;have uF:Hid ((c.aL.map dS.name).length≤1000000):=by(show _≤_;rw [List.length_map];exact hn)
 generalize hx:c.aL[i]=x at iz kN⊢;generalize (c.aL.take i).map dS.name=prev at kN⊢;have Au:=ae hx;have HV:=ae hV;have et:=ae hc;have HF:=ae h;have cX:=ae hK;have qY:=ae h.lt
 have f_:(0:Int)≤(i:Int):=by omega
 have fU:(i:Int)<(c.aL.length:Int):=by omega
 clear hc hV h hK hn hx;go_enter func60,ntmps60
 go_upto_region 1 with fail
 generalize hW:World.alloc _ _=W;obtain ⟨B,hB,x0,A⟩:=dv hW;rw [←hB];have fP:B≠K:=by have:=qY.o;omega
 obtain ⟨b,o,ha,D⟩:=(et.o.aL.ext (HV.o.trans x0)).cs i hi;rw [Au.o]at D;have HI:=ae (show gl [x.bus]from fun z hz=>by rw [List.mem_singleton]at hz;subst hz;exact iz.o.2.2.2.2);have C:=A.cs;simp only [Cs,ai.cells,dS.cells,Nat.zero_add,Nat.add_zero,Nat.reduceAdd,and_true]at D C;rw [ha]at C;clear hW hB ha;go_upto_region 2 with fail
 generalize hW1:World.alloc _ _=W1;obtain ⟨E,hE,x1,A1⟩:=dv hW1;rw [←hE];have lg:E≠K:=by have:=qY.o;have:=x0.size;omega
 have F:=fun Y (e:ar K W1 Y)=>And.intro ((A.ext x1).dA e fP).cs (A1.dA e lg).cs;simp only [Cs,ai.cells,dS.cells,Nat.zero_add,Nat.add_zero,Nat.reduceAdd,and_true]at F;have X:=ar.refl K W1;have HX:=ae ((x0.trans x1).but K);have kX:=ae ((HV.o.trans x0).trans x1)
 replace HF:=ae ((HF.o.ext x0).ext x1);have P:=Ar;clear x0 A C D hW1 hE x1 A1 HV qY Au;go_wp2_with (first|((first|(go_at_call 53;refine (k9 w0 _ K c _ 5 i prev _ x.name (pE c) (by decide) kN.o uF.o cX.o (X.ext kX.o cX.o) et.o iz.o.1 HF.o).mono ?_)|(go_at_call 98;refine (tP w0 _ K c _ _ _ _ _ (X.ext kX.o cX.o) et.o (HI.o _ (by simp)) HF.o).mono ?_)|(go_at_call 55;refine (cf _ K _ _ _ _ _ _ HF.o).mono ?_)|(go_at_call 54;refine (oU w0 _ K c _ _ _ _ _ _ _ _ _ cX.o (X.ext kX.o cX.o) (by first|exact iz.o.2.1|exact iz.o.2.2.1|exact iz.o.2.2.2.1) HF.o).mono ?_));rintro e w ⟨rfl,hf,hx⟩;replace X:=X.trans hx;replace HF:=ae hf;clear hx hf)|(go_at_call 56;generalize hU:World.alloc _ _=U;obtain ⟨G,hG,xU,AU⟩:=dv hU;rw [←hG];refine (eI U _ _ (some ⟨G,0,none⟩) 1 [_] (AU.KM (HI.o _ (by simp)))).mono ?_;rintro e _ ⟨rfl,rfl⟩;replace X:=X.trans (xU.but K);replace HF:=ae (HF.o.ext xU);clear hU hG xU AU)|(go_at_call 99;refine (jT _ _ _ (HI.o _ (by simp)) (HI.o _ (by simp))).mono ?_;rintro e w ⟨rfl,hx⟩;replace X:=X.trans (hx.but K);replace HF:=ae (HF.o.ext hx);clear hx)|(refine Qy ?_))
 exact bodyPost_end (v:= .tuple #[]) (by simp [results,results60,go_sem]) rfl ⟨rfl,by first|exact HF.o|simpa [yF]using HF.o,HX.o.trans X⟩
end Go.Proofs.YtkpngkdgphojlaaGreat
