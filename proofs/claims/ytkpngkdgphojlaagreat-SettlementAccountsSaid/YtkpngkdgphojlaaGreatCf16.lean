/- Texts of the proof. -/
import Derived.Test.YtkpngkdgphojlaaGreatCf4
import Derived.Test.YtkpngkdgphojlaaGreatCf8
set_option linter.all false
set_option maxHeartbeats 4000000
set_option maxRecDepth 100000
namespace Go.Proofs.YtkpngkdgphojlaaGreat
open Go.Proofs.Tryz
open Go.RowKit
theorem I6 (w0 V:World) (K:Nat) (e:Int) (x:aK) (idx:Int) (hK:w0.heap.size≤K) (hV:Ext w0 V) (hs:bH w0 2 x.sa x.sc (x.aU.map dH.cells)) (N7: ∀g∈x.aU,eI [g.width,g.aV]) (h:FE V K e):
 Calls prog 101 #[.pointer (some ⟨K,0,none⟩),.agg x.cells.toArray,i64 idx] V fun e' w'=>sy V K (mF e x) e' w':=zn w0 V K e x idx hK hV hs N7 h
def qU (c:ai) (x:aK) (prev:List ByteArray) (e:Int):Int:=nd (nd (nd (nd (nd (nO (nd (nd (nd (nd (nd (nd (nd (nd (nd (nd (nd (nd (nd (mF (nd (nd (pV (iF e x.name prev) c x.cS) (bP 0 1048576 [x.min]) 3) (bP x.min 1048576 [x.max]) 3) x) (bP 0 1048576 [x.fu]) 3) (bP 0 1048576 [x.fw]) 3) (bP 0 1048576 [x.dv]) 3) (bP x.min x.max [x.cL]) 3) (bP x.min x.max [x.dx]) 3) (bP 0 24 [x.fz]) 3) (bP 0 24 [x.dy]) 3) (bP 0 24 [x.startTime]) 3) (bP 0 1048576 [x.dS]) 3) (bP 0 1048576 [x.dz]) 3) (bP 0 24 [x.dA]) 3) (bP 0 1048576 [x.aA]) 3) (bP 0 1048576 [x.bK]) 3) c x.away) (bP 0 2 [x.state]) 12) ((x.state !=1)||decide (0<x.startTime)) 16) (bP 1 48 [x.hours]) 3) ((x.state !=1)||decide (x.hours≤x.startTime)) 3) (if(x.state==2)=true then bP x.min x.max [x.output]else(x.output==0)) 3
theorem I7 (w0 V:World) (K:Nat) (c:ai) (e:Int) (i:Nat) (hi:i<c.aq.length) (hK:w0.heap.size≤K) (hV:Ext w0 V) (hc:a_ w0 c) (hn:c.aq.length≤1000000) (h:FE V K e):
 Calls prog 58 #[.pointer (some ⟨K,0,none⟩),.agg (C8 c),i64 i] V fun e' w'=>sy V K (qU c c.aq[i] ((c.aq.take i).map aK.name) e) e' w':=by
 try unfold C8
 have hle:=hc.aq.le;have dQ:=hc.aq.cap
 rw [List.length_map]at hle;have jf:=ae (hc.unit c.aq[i] (List.getElem_mem hi));have l_:Hid (∃h:i<(c.aq.map aK.name).length,(c.aq.map aK.name)[i]=c.aq[i].name∧(c.aq.map aK.name).take i=(c.aq.take i).map aK.name):=⟨by simpa using hi,by simp,by rw [List.map_take]⟩;have vr:Hid ((c.aq.map aK.name).length≤1000000):=by(show _≤_;rw [List.length_map];exact hn)
 generalize hx:c.aq[i]=x at jf l_⊢;generalize (c.aq.take i).map aK.name=prev at l_⊢;have vu:=ae hx;have HV:=ae hV;have f_:=ae hc;have HF:=ae h;have df:=ae hK;have qx:=ae h.lt
 have jS:(0:Int)≤(i:Int):=by omega
 have jI:(i:Int)<(c.aq.length:Int):=by omega
 clear hc hV h hK hn hx;go_enter func58,ntmps58
 go_upto_region 1 with fail
 generalize hW:World.alloc _ _=W;obtain ⟨B,hB,x0,A⟩:=bX hW;rw [←hB];have gQ:B≠K:=by have:=qx.o;omega
 obtain ⟨b,o,ha,D⟩:=(f_.o.aq.ext (HV.o.trans x0)).adds i (by simpa using hi);rw [List.getElem_map,vu.o]at D;have HD:=ae D;clear D;have HI:=ae (jf.o.2.2.2.2);have C:=A.cs;simp only [Cs,ai.cells,aK.cells,Nat.zero_add,Nat.add_zero,Nat.reduceAdd,and_true]at C;rw [ha]at C;clear hW hB ha;go_upto_region 2 with(first|(refine aT rfl 67 _ rfl ⟨b,o+i*22,none⟩ rfl x.cells _ HD.o underlying67 rfl (by kernel_rfl) ?_)|(refine dR rfl 67 _ _ rfl _ x.cells rfl rfl (by kernel_rfl) rfl rfl ?_))
 try simp only [Act.put]
 generalize hW1:World.alloc _ _=W1;obtain ⟨E,hE,x1,A1⟩:=bX hW1;rw [←hE];have mC:E≠K:=by have:=qx.o;have:=x0.size;omega
 have F:=fun Y (e:ar K W1 Y)=>And.intro ((A.ext x1).dC e gQ).cs (A1.dC e mC).cs;simp only [Cs,ai.cells,aK.cells,Nat.zero_add,Nat.add_zero,Nat.reduceAdd,and_true]at F;have X:=ar.refl K W1;have HX:=ae ((x0.trans x1).but K);have mr:=ae ((HV.o.trans x0).trans x1)
 replace HF:=ae ((HF.o.ext x0).ext x1);have P:=A7;have mi:=ae A1;clear x0 A C hW1 hE x1 A1 HV qx vu HD;go_wp2_with (first|((first|(go_at_call 53;refine (mA w0 _ K c _ 3 i prev _ x.name (pI c) (by decide) l_.o vr.o df.o (X.ext mr.o df.o) f_.o jf.o.1 HF.o).mono ?_)|(go_at_call 98;refine (uA w0 _ K c _ _ _ _ _ (X.ext mr.o df.o) f_.o (HI.o _ (by simp)) HF.o).mono ?_)|(go_at_call 55;refine (cP _ K _ _ _ _ _ _ HF.o).mono ?_)|(go_at_call 100;refine (AW w0 _ K c _ _ _ _ _ _ _ df.o (X.ext mr.o df.o) jf.o.2.1 HF.o).mono ?_)|(go_at_call 101;refine (I6 w0 _ K _ x _ df.o (X.ext mr.o df.o) jf.o.2.2.1 jf.o.2.2.2.1 HF.o).mono ?_));rintro e w ⟨rfl,hf,hx⟩;replace X:=X.trans hx;replace HF:=ae hf;clear hx hf)|(go_at_call 56;generalize hU:World.alloc _ _=U;obtain ⟨G,hG,xU,AU⟩:=bX hU;rw [←hG];refine (eY U _ _ (some ⟨G,0,none⟩) 1 [_] (AU.Lb (HI.o _ (by simp)))).mono ?_;rintro e _ ⟨rfl,rfl⟩;replace X:=X.trans (xU.but K);replace HF:=ae (HF.o.ext xU);clear hU hG xU AU)|(go_at_call 99;refine (kI _ _ _ (HI.o _ (by simp)) (HI.o _ (by simp))).mono ?_;rintro e w ⟨rfl,hx⟩;replace X:=X.trans (hx.but K);replace HF:=ae (HF.o.ext hx);clear hx)|(refine Q_ ?_)|(refine aT rfl 67 _ rfl ⟨E,0,none⟩ rfl x.cells _ (mi.o.dC X mC).adds underlying67 rfl (by kernel_rfl) ?_))
 all_goals exact bodyPost_end (v:= .tuple #[]) (by simp [results,results58,go_sem]) rfl ⟨rfl,by simpa [qU, *]using HF.o,HX.o.trans X⟩
end Go.Proofs.YtkpngkdgphojlaaGreat
