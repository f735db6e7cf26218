/- Texts of the proof. -/
import Derived.Test.YtbnamicbjaaelaaGreatCg14
set_option linter.all false
set_option maxHeartbeats 4000000
set_option maxRecDepth 100000
namespace Go.Proofs.YtbnamicbjaaelaaGreat
open Go.Proofs.Tryz
open Go.RowKit
theorem LI (w0 V:World) (K:Nat) (e:Int) (x:aP) (idx:Int) (hK:w0.heap.size<=K) (hV:Ext w0 V) (hs:ct w0 2 x.sa x.sc (x.aY.map dy.cells)) (RD: ∀g∈x.aY,gO [g.width,g.bE]) (h:FE V K e):
 Calls prog 106 #[.pointer (some ⟨K,0,none⟩),.agg x.cells.toArray,i64 idx] V λe' w'=>tV V K (lp e x) e' w':=BA w0 V K e x idx hK hV hs RD h
def od (c:ay) (x:aP) (prev:List ByteArray) (e:Int):Int:=nd (nd (nd (nd (nd (n9 (nd (nd (nd (nd (nd (nd (nd (nd (nd (nd (nd (nd (nd (lp (nd (nd (qy (gJ e x.name prev) c x.fE) (bN 0 1048576 [x.min]) 3) (bN x.min 1048576 [x.max]) 3) x) (bN 0 1048576 [x.fF]) 3) (bN 0 1048576 [x.fG]) 3) (bN 0 1048576 [x.dA]) 3) (bN x.min x.max [x.cQ]) 3) (bN x.min x.max [x.dB]) 3) (bN 0 24 [x.eK]) 3) (bN 0 24 [x.dC]) 3) (bN 0 24 [x.startTime]) 3) (bN 0 1048576 [x.dX]) 3) (bN 0 1048576 [x.dD]) 3) (bN 0 24 [x.dE]) 3) (bN 0 1048576 [x.aX]) 3) (bN 0 1048576 [x.bR]) 3) c x.away) (bN 0 2 [x.state]) 12) ((x.state !=1)||decide (0<x.startTime)) 16) (bN 1 48 [x.hours]) 3) ((x.state !=1)||decide (x.hours<=x.startTime)) 3) (if(x.state==2)=true then bN x.min x.max [x.output]else(x.output==0)) 3
theorem LJ (w0 V:World) (K:Nat) (c:ay) (e:Int) (i:Nat) (hi:i<c.aA.length) (hK:w0.heap.size<=K) (hV:Ext w0 V) (hc:bm w0 c) (hn:c.aA.length<=1000000) (h:FE V K e):
 Calls prog 60 #[.pointer (some ⟨K,0,none⟩),.agg (C8 c),i64 i] V λe' w'=>tV V K (od c c.aA[i] ((c.aA.take i).map aP.name) e) e' w':=by
 try unfold C8
 have hle:=hc.aA.le;have dS:=hc.aA.cap
 rw [List.length_map]at hle;have jq:=ah (hc.unit c.aA[i] (List.getElem_mem hi));have mr:Hid (∃h:i<(c.aA.map aP.name).length,(c.aA.map aP.name)[i]=c.aA[i].name/\(c.aA.map aP.name).take i=(c.aA.take i).map aP.name):=⟨by simpa using hi,aG,by rw [List.map_take]⟩;have xv:Hid ((c.aA.map aP.name).length<=1000000):=by(show _<=_;rw [List.length_map];exact hn)
 generalize hx:c.aA[i]=x at jq mr⊢;generalize (c.aA.take i).map aP.name=prev at mr⊢;have rZ:=ah hx;have HV:=ah hV;have eT:=ah hc;have HF:=ah h;have dN:=ah hK;have t_:=ah h.lt
 have iM:(0:Int)<=(i:Int):=ae;have iK:(i:Int)<(c.aA.length:Int):=ae;clear hc hV h hK hn hx;go_enter func60,ntmps60
 go_upto_region 1 with fail
 generalize hW:World.alloc _ _=W;obtain ⟨B,hB,x0,A⟩:=bV hW;rw [<-hB];have gZ:B≠K:=bA t_.o;obtain ⟨b,o,ha,D⟩:=(eT.o.aA.ext (HV.o.trans x0)).adds i (by simpa using hi);rw [List.getElem_map,rZ.o]at D;have HD:=ah D;clear D;have HI:=ah (jq.o.2.2.2.2);have C:=A.cs;simp only [Cs,ay.cells,aP.cells,Nat.zero_add,Nat.add_zero,Nat.reduceAdd,and_true]at C;rw [ha]at C;clear hW hB ha;go_upto_region 2 with(first|(refine br rfl 55 _ rfl ⟨b,o+i*22,none⟩ rfl x.cells _ HD.o underlying55 rfl ax ?_)|(refine bP rfl 55 _ _ rfl _ x.cells rfl rfl ax rfl rfl ?_))
 try simp only [Act.put]
 generalize hW1:World.alloc _ _=W1;obtain ⟨E,hE,x1,A1⟩:=bV hW1;rw [<-hE];have mN:E≠K:=qj t_.o x0.size;have F:=λY (e:aB K W1 Y)=>And.intro ((A.ext x1).eH e gZ).cs (A1.eH e mN).cs;simp only [Cs,ay.cells,aP.cells,Nat.zero_add,Nat.add_zero,Nat.reduceAdd,and_true]at F;have X:=aB.refl K W1;have HX:=ah ((x0.trans x1).but K);have jB:=ah ((HV.o.trans x0).trans x1)
 replace HF:=ah ((HF.o.ext x0).ext x1);have P:=Dr;have mP:=ah A1;clear x0 A C hW1 hE x1 A1 HV t_ rZ HD;go_wp2_with (first|((first|(go_at_call 55;refine (mL w0 _ K c _ 3 i prev _ x.name (p9 c) aq mr.o xv.o dN.o (X.ext jB.o dN.o) eT.o jq.o.1 HF.o).mono ?_)|(go_at_call 103;refine (vX w0 _ K c _ _ _ _ _ (X.ext jB.o dN.o) eT.o (HI.o _ aG) HF.o).mono ?_)|(go_at_call 57;refine (cZ _ K _ _ _ _ _ _ HF.o).mono ?_)|(go_at_call 105;refine (Dk w0 _ K c _ _ _ _ _ _ _ dN.o (X.ext jB.o dN.o) jq.o.2.1 HF.o).mono ?_)|(go_at_call 106;refine (LI w0 _ K _ x _ dN.o (X.ext jB.o dN.o) jq.o.2.2.1 jq.o.2.2.2.1 HF.o).mono ?_));rintro e w ⟨rfl,hf,hx⟩;replace X:=X.trans hx;replace HF:=ah hf;clear hx hf)|(go_at_call 58;generalize hU:World.alloc _ _=U;obtain ⟨G,hG,xU,AU⟩:=bV hU;rw [<-hG];refine (fJ U _ _ (some ⟨G,0,none⟩) 1 [_] (AU.Oh (HI.o _ aG))).mono ?_;rintro e _ ⟨rfl,rfl⟩;replace X:=X.trans (xU.but K);replace HF:=ah (HF.o.ext xU);clear hU hG xU AU)|(go_at_call 104;refine (kL _ _ _ (HI.o _ aG) (HI.o _ aG)).mono ?_;rintro e w ⟨rfl,hx⟩;replace X:=X.trans (hx.but K);replace HF:=ah (HF.o.ext hx);clear hx)|(refine U6 ?_)|(refine br rfl 55 _ rfl ⟨E,0,none⟩ rfl x.cells _ (mP.o.eH X mN).adds underlying55 rfl ax ?_))
 all_goals exact bodyPost_end (v:= .tuple #[]) ax rfl ⟨rfl,by simpa [od, *]using HF.o,HX.o.trans X⟩
