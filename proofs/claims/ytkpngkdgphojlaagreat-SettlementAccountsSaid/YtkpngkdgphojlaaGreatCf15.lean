/- Texts of the proof. -/
import Derived.Test.YtkpngkdgphojlaaGreatCf4
import Derived.Test.YtkpngkdgphojlaaGreatCf5
set_option linter.all false
set_option maxHeartbeats 4000000
set_option maxRecDepth 100000
namespace Go.Proofs.YtkpngkdgphojlaaGreat
open Go.Proofs.Tryz
open Go.RowKit
def qT (c:ai) (x:aS) (prev:List ByteArray) (e:Int):Int:=nO (nd (nd (nd (nd (nd (nd (pV (pV (iF e x.name prev) c x.cR) c x.kq) (x.cR !=x.kq) 1) (eU x.rn x.rd&&decide (0<x.rn)) 3) (eU x.qD x.uf&&decide (x.qD≤0)) 3) (eU x.sk x.wI&&decide (0≤x.sk)) 3) (bP 0 1048576 [x.cY]) 3) (bP x.cY 1048576 [x.jH]) 3) c x.away
theorem I5 (w0 V:World) (K:Nat) (c:ai) (e:Int) (i:Nat) (hi:i<c.lines.length) (hK:w0.heap.size≤K) (hV:Ext w0 V) (hc:a_ w0 c) (hn:c.lines.length≤1000000) (h:FE V K e):
 Calls prog 57 #[.pointer (some ⟨K,0,none⟩),.agg (C8 c),i64 i] V fun e' w'=>sy V K (qT c c.lines[i] ((c.lines.take i).map aS.name) e) e' w':=by
 try unfold C8
 have hle:=hc.lines.le;have dQ:=hc.lines.cap
 rw [List.length_map]at hle;have jf:=ae (hc.line c.lines[i] (List.getElem_mem hi));have l_:Hid (∃h:i<(c.lines.map aS.name).length,(c.lines.map aS.name)[i]=c.lines[i].name∧(c.lines.map aS.name).take i=(c.lines.take i).map aS.name):=⟨by simpa using hi,by simp,by rw [List.map_take]⟩;have vr:Hid ((c.lines.map aS.name).length≤1000000):=by(show _≤_;rw [List.length_map];exact hn)
 generalize hx:c.lines[i]=x at jf l_⊢;generalize (c.lines.take i).map aS.name=prev at l_⊢;have vu:=ae hx;have HV:=ae hV;have f_:=ae hc;have HF:=ae h;have df:=ae hK;have qx:=ae h.lt
 have jS:(0:Int)≤(i:Int):=by omega
 have jI:(i:Int)<(c.lines.length:Int):=by omega
 clear hc hV h hK hn hx;go_enter func57,ntmps57
 go_upto_region 1 with fail
 generalize hW:World.alloc _ _=W;obtain ⟨B,hB,x0,A⟩:=bX hW;rw [←hB];have gQ:B≠K:=by have:=qx.o;omega
 obtain ⟨b,o,ha,D⟩:=(f_.o.lines.ext (HV.o.trans x0)).cs i hi;rw [vu.o]at D;have HI:=ae (jf.o.2.2);have C:=A.cs;simp only [Cs,ai.cells,aS.cells,Nat.zero_add,Nat.add_zero,Nat.reduceAdd,and_true]at D C;rw [ha]at C;clear hW hB ha;go_upto_region 2 with fail
 generalize hW1:World.alloc _ _=W1;obtain ⟨E,hE,x1,A1⟩:=bX hW1;rw [←hE];have mC:E≠K:=by have:=qx.o;have:=x0.size;omega
 have F:=fun Y (e:ar K W1 Y)=>And.intro ((A.ext x1).dC e gQ).cs (A1.dC e mC).cs;simp only [Cs,ai.cells,aS.cells,Nat.zero_add,Nat.add_zero,Nat.reduceAdd,and_true]at F;have X:=ar.refl K W1;have HX:=ae ((x0.trans x1).but K);have mr:=ae ((HV.o.trans x0).trans x1)
 replace HF:=ae ((HF.o.ext x0).ext x1);have P:=A7;clear x0 A C D hW1 hE x1 A1 HV qx vu;go_wp2_with (first|((first|(go_at_call 53;refine (mA w0 _ K c _ 2 i prev _ x.name (pH c) (by decide) l_.o vr.o df.o (X.ext mr.o df.o) f_.o jf.o.1 HF.o).mono ?_)|(go_at_call 98;refine (uA w0 _ K c _ _ _ _ _ (X.ext mr.o df.o) f_.o (HI.o _ (by simp)) HF.o).mono ?_)|(go_at_call 55;refine (cP _ K _ _ _ _ _ _ HF.o).mono ?_)|(go_at_call 100;refine (AW w0 _ K c _ _ _ _ _ _ _ df.o (X.ext mr.o df.o) jf.o.2.1 HF.o).mono ?_));rintro e w ⟨rfl,hf,hx⟩;replace X:=X.trans hx;replace HF:=ae hf;clear hx hf)|(go_at_call 56;generalize hU:World.alloc _ _=U;obtain ⟨G,hG,xU,AU⟩:=bX hU;rw [←hG];refine (eY U _ _ (some ⟨G,0,none⟩) 1 [_] (AU.Lb (HI.o _ (by simp)))).mono ?_;rintro e _ ⟨rfl,rfl⟩;replace X:=X.trans (xU.but K);replace HF:=ae (HF.o.ext xU);clear hU hG xU AU)|(go_at_call 99;refine (kI _ _ _ (HI.o _ (by simp)) (HI.o _ (by simp))).mono ?_;rintro e w ⟨rfl,hx⟩;replace X:=X.trans (hx.but K);replace HF:=ae (HF.o.ext hx);clear hx)|(refine Q_ ?_))
 exact bodyPost_end (v:= .tuple #[]) (by simp [results,results57,go_sem]) rfl ⟨rfl,by first|exact HF.o|simpa [qT]using HF.o,HX.o.trans X⟩
def ng (c:ai) (x:bG) (prev:List ByteArray) (e:Int):Int:=nd (nd (nd (nd (nd (nd (pV (iF e x.name prev) c x.cS) (bP 0 1048576 [x.capacity]) 3) (bP 0 x.capacity [x.initial]) 3) (bP 0 x.capacity [x.final]) 3) (bP 0 1048576 [x.fS]) 3) (bP 0 1048576 [x.discharge]) 3) ((eU x.en x.ed&&decide (0<x.en))&&decide (x.en≤x.ed)) 3
theorem Gv (w0 V:World) (K:Nat) (c:ai) (e:Int) (i:Nat) (hi:i<c.stores.length) (hK:w0.heap.size≤K) (hV:Ext w0 V) (hc:a_ w0 c) (hn:c.stores.length≤1000000) (h:FE V K e):
 Calls prog 59 #[.pointer (some ⟨K,0,none⟩),.agg (C8 c),i64 i] V fun e' w'=>sy V K (ng c c.stores[i] ((c.stores.take i).map bG.name) e) e' w':=by
 try unfold C8
 have hle:=hc.stores.le;have dQ:=hc.stores.cap
 rw [List.length_map]at hle;have jf:=ae (hc.store c.stores[i] (List.getElem_mem hi));have l_:Hid (∃h:i<(c.stores.map bG.name).length,(c.stores.map bG.name)[i]=c.stores[i].name∧(c.stores.map bG.name).take i=(c.stores.take i).map bG.name):=⟨by simpa using hi,by simp,by rw [List.map_take]⟩;have vr:Hid ((c.stores.map bG.name).length≤1000000):=by(show _≤_;rw [List.length_map];exact hn)
 generalize hx:c.stores[i]=x at jf l_⊢;generalize (c.stores.take i).map bG.name=prev at l_⊢;have vu:=ae hx;have HV:=ae hV;have f_:=ae hc;have HF:=ae h;have df:=ae hK;have qx:=ae h.lt
 have jS:(0:Int)≤(i:Int):=by omega
 have jI:(i:Int)<(c.stores.length:Int):=by omega
 clear hc hV h hK hn hx;go_enter func59,ntmps59
 go_upto_region 1 with fail
 generalize hW:World.alloc _ _=W;obtain ⟨B,hB,x0,A⟩:=bX hW;rw [←hB];have gQ:B≠K:=by have:=qx.o;omega
 obtain ⟨b,o,ha,D⟩:=(f_.o.stores.ext (HV.o.trans x0)).cs i hi;rw [vu.o]at D;have HI:=ae (jf.o.2);have C:=A.cs;simp only [Cs,ai.cells,bG.cells,Nat.zero_add,Nat.add_zero,Nat.reduceAdd,and_true]at D C;rw [ha]at C;clear hW hB ha;go_upto_region 2 with fail
 generalize hW1:World.alloc _ _=W1;obtain ⟨E,hE,x1,A1⟩:=bX hW1;rw [←hE];have mC:E≠K:=by have:=qx.o;have:=x0.size;omega
 have F:=fun Y (e:ar K W1 Y)=>And.intro ((A.ext x1).dC e gQ).cs (A1.dC e mC).cs;simp only [Cs,ai.cells,bG.cells,Nat.zero_add,Nat.add_zero,Nat.reduceAdd,and_true]at F;have X:=ar.refl K W1;have HX:=ae ((x0.trans x1).but K);have mr:=ae ((HV.o.trans x0).trans x1)
 replace HF:=ae ((HF.o.ext x0).ext x1);have P:=A7;clear x0 A C D hW1 hE x1 A1 HV qx vu;go_wp2_with (first|((first|(go_at_call 53;refine (mA w0 _ K c _ 4 i prev _ x.name (oq c) (by decide) l_.o vr.o df.o (X.ext mr.o df.o) f_.o jf.o.1 HF.o).mono ?_)|(go_at_call 98;refine (uA w0 _ K c _ _ _ _ _ (X.ext mr.o df.o) f_.o (HI.o _ (by simp)) HF.o).mono ?_)|(go_at_call 55;refine (cP _ K _ _ _ _ _ _ HF.o).mono ?_));rintro e w ⟨rfl,hf,hx⟩;replace X:=X.trans hx;replace HF:=ae hf;clear hx hf)|(go_at_call 56;generalize hU:World.alloc _ _=U;obtain ⟨G,hG,xU,AU⟩:=bX hU;rw [←hG];refine (eY U _ _ (some ⟨G,0,none⟩) 1 [_] (AU.Lb (HI.o _ (by simp)))).mono ?_;rintro e _ ⟨rfl,rfl⟩;replace X:=X.trans (xU.but K);replace HF:=ae (HF.o.ext xU);clear hU hG xU AU)|(go_at_call 99;refine (kI _ _ _ (HI.o _ (by simp)) (HI.o _ (by simp))).mono ?_;rintro e w ⟨rfl,hx⟩;replace X:=X.trans (hx.but K);replace HF:=ae (HF.o.ext hx);clear hx)|(refine Q_ ?_))
 exact bodyPost_end (v:= .tuple #[]) (by simp [results,results59,go_sem]) rfl ⟨rfl,by first|exact HF.o|simpa [ng]using HF.o,HX.o.trans X⟩
def zx (c:ai) (x:dX) (prev:List ByteArray) (e:Int):Int:=fZ (fZ (fZ (pV (iF e x.name prev) c x.cS) c x.imp 0 1048576) c x.exp 0 1048576) c x.aV (-1048576) 1048576
theorem Lz (w0 V:World) (K:Nat) (c:ai) (e:Int) (i:Nat) (hi:i<c.aB.length) (hK:w0.heap.size≤K) (hV:Ext w0 V) (hc:a_ w0 c) (hn:c.aB.length≤1000000) (h:FE V K e):
 Calls prog 60 #[.pointer (some ⟨K,0,none⟩),.agg (C8 c),i64 i] V fun e' w'=>sy V K (zx c c.aB[i] ((c.aB.take i).map dX.name) e) e' w':=by
 try unfold C8
 have hle:=hc.aB.le;have dQ:=hc.aB.cap
 rw [List.length_map]at hle;have jf:=ae (hc.tie c.aB[i] (List.getElem_mem hi));have l_:Hid (∃h:i<(c.aB.map dX.name).length,(c.aB.map dX.name)[i]=c.aB[i].name∧(c.aB.map dX.name).take i=(c.aB.take i).map dX.name):=⟨by simpa using hi,by simp,by rw [List.map_take]⟩;have vr:Hid ((c.aB.map dX.name).length≤1000000):=by(show _≤_;rw [List.length_map];exact hn)
 generalize hx:c.aB[i]=x at jf l_⊢;generalize (c.aB.take i).map dX.name=prev at l_⊢;have vu:=ae hx;have HV:=ae hV;have f_:=ae hc;have HF:=ae h;have df:=ae hK;have qx:=ae h.lt
 have jS:(0:Int)≤(i:Int):=by omega
 have jI:(i:Int)<(c.aB.length:Int):=by omega
 clear hc hV h hK hn hx;go_enter func60,ntmps60
 go_upto_region 1 with fail
 generalize hW:World.alloc _ _=W;obtain ⟨B,hB,x0,A⟩:=bX hW;rw [←hB];have gQ:B≠K:=by have:=qx.o;omega
 obtain ⟨b,o,ha,D⟩:=(f_.o.aB.ext (HV.o.trans x0)).cs i hi;rw [vu.o]at D;have HI:=ae (show eI [x.cS]from fun z hz=>by rw [List.mem_singleton]at hz;subst hz;exact jf.o.2.2.2.2);have C:=A.cs;simp only [Cs,ai.cells,dX.cells,Nat.zero_add,Nat.add_zero,Nat.reduceAdd,and_true]at D C;rw [ha]at C;clear hW hB ha;go_upto_region 2 with fail
 generalize hW1:World.alloc _ _=W1;obtain ⟨E,hE,x1,A1⟩:=bX hW1;rw [←hE];have mC:E≠K:=by have:=qx.o;have:=x0.size;omega
 have F:=fun Y (e:ar K W1 Y)=>And.intro ((A.ext x1).dC e gQ).cs (A1.dC e mC).cs;simp only [Cs,ai.cells,dX.cells,Nat.zero_add,Nat.add_zero,Nat.reduceAdd,and_true]at F;have X:=ar.refl K W1;have HX:=ae ((x0.trans x1).but K);have mr:=ae ((HV.o.trans x0).trans x1)
 replace HF:=ae ((HF.o.ext x0).ext x1);have P:=A7;clear x0 A C D hW1 hE x1 A1 HV qx vu;go_wp2_with (first|((first|(go_at_call 53;refine (mA w0 _ K c _ 5 i prev _ x.name (qF c) (by decide) l_.o vr.o df.o (X.ext mr.o df.o) f_.o jf.o.1 HF.o).mono ?_)|(go_at_call 98;refine (uA w0 _ K c _ _ _ _ _ (X.ext mr.o df.o) f_.o (HI.o _ (by simp)) HF.o).mono ?_)|(go_at_call 55;refine (cP _ K _ _ _ _ _ _ HF.o).mono ?_)|(go_at_call 54;refine (pW w0 _ K c _ _ _ _ _ _ _ _ _ df.o (X.ext mr.o df.o) (by first|exact jf.o.2.1|exact jf.o.2.2.1|exact jf.o.2.2.2.1) HF.o).mono ?_));rintro e w ⟨rfl,hf,hx⟩;replace X:=X.trans hx;replace HF:=ae hf;clear hx hf)|(go_at_call 56;generalize hU:World.alloc _ _=U;obtain ⟨G,hG,xU,AU⟩:=bX hU;rw [←hG];refine (eY U _ _ (some ⟨G,0,none⟩) 1 [_] (AU.Lb (HI.o _ (by simp)))).mono ?_;rintro e _ ⟨rfl,rfl⟩;replace X:=X.trans (xU.but K);replace HF:=ae (HF.o.ext xU);clear hU hG xU AU)|(go_at_call 99;refine (kI _ _ _ (HI.o _ (by simp)) (HI.o _ (by simp))).mono ?_;rintro e w ⟨rfl,hx⟩;replace X:=X.trans (hx.but K);replace HF:=ae (HF.o.ext hx);clear hx)|(refine Q_ ?_))
 exact bodyPost_end (v:= .tuple #[]) (by simp [results,results60,go_sem]) rfl ⟨rfl,by first|exact HF.o|simpa [zx]using HF.o,HX.o.trans X⟩
end Go.Proofs.YtkpngkdgphojlaaGreat
