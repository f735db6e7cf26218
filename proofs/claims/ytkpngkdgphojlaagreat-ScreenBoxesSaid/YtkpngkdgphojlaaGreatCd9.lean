/- Texts of the proof. -/
import Derived.Test.YtkpngkdgphojlaaGreatCd4
import Derived.Test.YtkpngkdgphojlaaGreatCd8
set_option linter.all false
set_option maxHeartbeats 4000000
set_option maxRecDepth 100000
namespace Go.Proofs.YtkpngkdgphojlaaGreat
open Go.Proofs.Tryz
open Go.RowKit
theorem Hu (w0 V:World) (K:Nat) (e:Int) (x:aF) (idx:Int) (hK:w0.heap.size≤K) (hV:Ext w0 V) (hs:bS w0 2 x.sa x.sc (x.aM.map dp.cells)) (Np: ∀g∈x.aM,gl [g.width,g.aX]) (h:FE V K e):
 Calls prog 101 #[.pointer (some ⟨K,0,none⟩),.agg x.cells.toArray,i64 idx] V fun e' w'=>qT V K (lj e x) e' w':=yK w0 V K e x idx hK hV hs Np h
def pM (c:ai) (x:aF) (prev:List ByteArray) (e:Int):Int:=nd (nd (nd (nd (nd (mJ (nd (nd (nd (nd (nd (nd (nd (nd (nd (nd (nd (nd (nd (lj (nd (nd (oT (gP e x.name prev) c x.bus) (bk 0 1048576 [x.min]) 3) (bk x.min 1048576 [x.max]) 3) x) (bk 0 1048576 [x.eu]) 3) (bk 0 1048576 [x.ez]) 3) (bk 0 1048576 [x.cD]) 3) (bk x.min x.max [x.bW]) 3) (bk x.min x.max [x.cE]) 3) (bk 0 24 [x.eE]) 3) (bk 0 24 [x.cF]) 3) (bk 0 24 [x.startTime]) 3) (bk 0 1048576 [x.dr]) 3) (bk 0 1048576 [x.cG]) 3) (bk 0 24 [x.cJ]) 3) (bk 0 1048576 [x.aV]) 3) (bk 0 1048576 [x.bg]) 3) c x.away) (bk 0 2 [x.state]) 12) ((x.state !=1)||decide (0<x.startTime)) 16) (bk 1 48 [x.hours]) 3) ((x.state !=1)||decide (x.hours≤x.startTime)) 3) (if(x.state==2)=true then bk x.min x.max [x.output]else(x.output==0)) 3
theorem Hv (w0 V:World) (K:Nat) (c:ai) (e:Int) (i:Nat) (hi:i<c.au.length) (hK:w0.heap.size≤K) (hV:Ext w0 V) (hc:aS w0 c) (hn:c.au.length≤1000000) (h:FE V K e):
 Calls prog 58 #[.pointer (some ⟨K,0,none⟩),.agg (C8 c),i64 i] V fun e' w'=>qT V K (pM c c.au[i] ((c.au.take i).map aF.name) e) e' w':=by
 try unfold C8
 have hle:=hc.au.le;have dy:=hc.au.cap
 rw [List.length_map]at hle;have iz:=ae (hc.unit c.au[i] (List.getElem_mem hi));have kN:Hid (∃h:i<(c.au.map aF.name).length,(c.au.map aF.name)[i]=c.au[i].name∧(c.au.map aF.name).take i=(c.au.take i).map aF.name):=⟨by simpa using hi,by simp,by rw [List.map_take]⟩;have uF:Hid ((c.au.map aF.name).length≤1000000):=by(show _≤_;rw [List.length_map];exact hn)
 generalize hx:c.au[i]=x at iz kN⊢;generalize (c.au.take i).map aF.name=prev at kN⊢;have Au:=ae hx;have HV:=ae hV;have et:=ae hc;have HF:=ae h;have cX:=ae hK;have qY:=ae h.lt
 have f_:(0:Int)≤(i:Int):=by omega
 have fU:(i:Int)<(c.au.length:Int):=by omega
 clear hc hV h hK hn hx;go_enter func58,ntmps58
 go_upto_region 1 with fail
 generalize hW:World.alloc _ _=W;obtain ⟨B,hB,x0,A⟩:=dv hW;rw [←hB];have fP:B≠K:=by have:=qY.o;omega
 obtain ⟨b,o,ha,D⟩:=(et.o.au.ext (HV.o.trans x0)).adds i (by simpa using hi);rw [List.getElem_map,Au.o]at D;have HD:=ae D;clear D;have HI:=ae (iz.o.2.2.2.2);have C:=A.cs;simp only [Cs,ai.cells,aF.cells,Nat.zero_add,Nat.add_zero,Nat.reduceAdd,and_true]at C;rw [ha]at C;clear hW hB ha;go_upto_region 2 with(first|(refine bG rfl 67 _ rfl ⟨b,o+i*22,none⟩ rfl x.cells _ HD.o underlying67 rfl (by kernel_rfl) ?_)|(refine dw rfl 67 _ _ rfl _ x.cells rfl rfl (by kernel_rfl) rfl rfl ?_))
 try simp only [Act.put]
 generalize hW1:World.alloc _ _=W1;obtain ⟨E,hE,x1,A1⟩:=dv hW1;rw [←hE];have lg:E≠K:=by have:=qY.o;have:=x0.size;omega
 have F:=fun Y (e:ar K W1 Y)=>And.intro ((A.ext x1).dA e fP).cs (A1.dA e lg).cs;simp only [Cs,ai.cells,aF.cells,Nat.zero_add,Nat.add_zero,Nat.reduceAdd,and_true]at F;have X:=ar.refl K W1;have HX:=ae ((x0.trans x1).but K);have kX:=ae ((HV.o.trans x0).trans x1)
 replace HF:=ae ((HF.o.ext x0).ext x1);have P:=Ar;have mY:=ae A1;clear x0 A C hW1 hE x1 A1 HV qY Au HD;go_wp2_with (first|((first|(go_at_call 53;refine (k9 w0 _ K c _ 3 i prev _ x.name (oF c) (by decide) kN.o uF.o cX.o (X.ext kX.o cX.o) et.o iz.o.1 HF.o).mono ?_)|(go_at_call 98;refine (tP w0 _ K c _ _ _ _ _ (X.ext kX.o cX.o) et.o (HI.o _ (by simp)) HF.o).mono ?_)|(go_at_call 55;refine (cf _ K _ _ _ _ _ _ HF.o).mono ?_)|(go_at_call 100;refine (Am w0 _ K c _ _ _ _ _ _ _ cX.o (X.ext kX.o cX.o) iz.o.2.1 HF.o).mono ?_)|(go_at_call 101;refine (Hu w0 _ K _ x _ cX.o (X.ext kX.o cX.o) iz.o.2.2.1 iz.o.2.2.2.1 HF.o).mono ?_));rintro e w ⟨rfl,hf,hx⟩;replace X:=X.trans hx;replace HF:=ae hf;clear hx hf)|(go_at_call 56;generalize hU:World.alloc _ _=U;obtain ⟨G,hG,xU,AU⟩:=dv hU;rw [←hG];refine (eI U _ _ (some ⟨G,0,none⟩) 1 [_] (AU.KM (HI.o _ (by simp)))).mono ?_;rintro e _ ⟨rfl,rfl⟩;replace X:=X.trans (xU.but K);replace HF:=ae (HF.o.ext xU);clear hU hG xU AU)|(go_at_call 99;refine (jT _ _ _ (HI.o _ (by simp)) (HI.o _ (by simp))).mono ?_;rintro e w ⟨rfl,hx⟩;replace X:=X.trans (hx.but K);replace HF:=ae (HF.o.ext hx);clear hx)|(refine Qy ?_)|(refine bG rfl 67 _ rfl ⟨E,0,none⟩ rfl x.cells _ (mY.o.dA X lg).adds underlying67 rfl (by kernel_rfl) ?_))
 all_goals exact bodyPost_end (v:= .tuple #[]) (by simp [results,results58,go_sem]) rfl ⟨rfl,by simpa [pM, *]using HF.o,HX.o.trans X⟩
end Go.Proofs.YtkpngkdgphojlaaGreat
