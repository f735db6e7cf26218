/- Texts of the proof. -/
import Derived.Shelf.Abstract
import Derived.Test.YtkpngkdgphojlaaGreatCd3
import Derived.Test.YtkpngkdgphojlaaGreatCd5
set_option linter.all false
set_option maxHeartbeats 2000000
set_option maxRecDepth 100000
namespace Go.Proofs.YtkpngkdgphojlaaGreat
open Go.Proofs.Tryz
open Go.RowKit
def St.pJ (c:ai) (x:cA) (prev:List ByteArray) (i:Int) (s:St):St:=(((s.at 1 i).name x.name prev).lS c 1 x.bP 0 1048576).within 2 x.gC 0 1048576
abbrev St.tR (c:ai) (s:St) (n:Nat):St:=St.upTo (St.pJ c) cA.name c.ak s n
def St.ak (s:St) (c:ai):St:=St.tR c s c.ak.length
theorem KO (w0 V:World) (K:Nat) (c:ai) (s:St) (hK:w0.heap.size≤K) (hV:Ext w0 V) (hc:aS w0 c) (hn:c.ak.length≤1000000) (h:gY V K c s):
 Calls prog 79 #[.pointer (some ⟨K,0,none⟩)] V fun e' w'=>kW V K c (s.ak c) e' w':=by
 have hle:=hc.ak.le;have dy:=hc.ak.cap
 rw [List.length_map]at hle;have Ho:=ae (show∀args w,(callFunc 136 args).run prog w= .ok (.enter 136 args) w from enters_of func136 (by kernel_rfl) rfl);have HV:=ae hV;have et:=ae hc;have cX:=ae hK;have qY:=ae h.lt
 unfold St.ak;clear hc hV hK;go_enter func79,ntmps79
 go_upto_region 1 with fail
 generalize hW:World.alloc _ _=W;obtain ⟨B,hB,x0,A⟩:=dv hW;rw [←hB];have fP:B≠K:=by have:=qY.o;omega
 have F:=fun Y (e:ar K W Y)=>(A.dA e fP).cs;simp only [Cs,cA.cells,Nat.zero_add,Nat.add_zero,Nat.reduceAdd,and_true]at F;have HK:=ae (h.ext x0);have C:=dO HK.o;have X:=ar.refl K W;have HX:=ae (x0.but K);have HE:=ae (HV.o.trans x0)
 clear hW A x0 hB h HV;go_wp2_with fail
 clear C;go_loopw [10] (fun ii wr=> ∃i:Nat,i≤c.ak.length∧gY wr K c (St.tR c s i)∧ar K W wr∧ii= .int .i64 i) (fun ii _=>c.ak.length-(intOf ii).toNat)
 case atStart=>exact ⟨0,Nat.zero_le _,HK.o,X,rfl⟩
 case round=>
  clear X HK;obtain ⟨i,hi,hk,X,rfl⟩:=hrel;by_cases hlt:i<c.ak.length
  ·have hE:=X.ext HE.o cX.o
   obtain ⟨b,o,ha,D⟩:=(et.o.ak.ext hE).cs i hlt;have iz:=ae (et.o.bus c.ak[i] (List.getElem_mem hlt));have qZ:=ae (St.ld (St.pJ c) cA.name c.ak s i hlt);obtain ⟨prev,hp,xy,vZ⟩:=Aq cA.name c.ak i hlt;rw [←hp]at qZ;have zP:=ae vZ;have HK:=ae hk
   generalize c.ak[i]=x at D iz qZ;have f_:(0:Int)≤(i:Int):=by omega
   have fU:(i:Int)<(c.ak.length:Int):=by omega
   simp only [Cs,cA.cells,Nat.zero_add,Nat.add_zero,Nat.reduceAdd,and_true]at D;clear hp vZ hk;rw [ha];go_upto_region 4 with fail
   generalize hW1:World.alloc _ _=W1;obtain ⟨E,lh,x1,A⟩:=dv hW1;rw [←lh];have lg:E≠K:=by have:=HK.o.lt;omega
   replace F:=fun Y (e:ar K W1 Y)=>And.intro (F Y ((X.trans (x1.but K)).trans e)) (A.dA e lg).cs;simp only [Cs,cA.cells,Nat.zero_add,Nat.add_zero,Nat.reduceAdd,and_true]at F;have fJ:=ae (X.trans (x1.but K));have kX:=ae (hE.trans x1)
   replace X:=ar.refl K W1;replace HK:=ae (HK.o.ext x1);clear D A hW1 x1 lh hE ha;go_wp2_with ((first|(go_at_call 131;refine (Aj _ K c _ _ _ HK.o).mono ?_)|(go_at_call 135;refine (qV _ K c _ _ iz.o.1 prev 136 B (fun h=>by rw [xy.o];exact St.uE _ _ _ h) (by rw [xy.o];omega) Ho.o (fun V' s' j hj mH Hp=>by obtain ⟨hj',ej⟩:=zP.o j hj;rw [ej];exact Hf w0 V' K B c s' j cX.o (mH.ext (X.ext kX.o cX.o) cX.o) et.o Hp (F V' (X.trans mH)).1 hj') HK.o).mono ?_)|(go_at_call 133;refine (uz w0 _ K c _ _ _ _ _ _ _ cX.o (X.ext kX.o cX.o) iz.o.2.1 HK.o).mono ?_)|(go_at_call 132;refine (gZ _ K c _ _ _ _ _ HK.o).mono ?_));rintro e w ⟨rfl,hk,hx⟩;replace X:=X.trans hx;replace HK:=ae hk;clear hx hk)
   exact ⟨⟨i+1,by omega,by rw [show St.tR c s (i+1)=_ from qZ.o];exact HK.o,fJ.o.trans X,by go_num⟩,by simp only [intOf];omega⟩
  ·obtain rfl:i=c.ak.length:=by omega
   go_wp2_with fail
   exact bodyPost_end (v:= .tuple #[]) (by simp [results,results79,go_sem]) rfl ⟨rfl,hk,HX.o.trans X⟩
def St.tS (c:ai) (x:dS) (prev:List ByteArray) (i:Int) (s:St):St:=(((((s.at 5 i).name x.name prev).bus c 1 x.bus).lS c 2 x.imp 0 1048576).lS c 3 x.exp 0 1048576).lS c 4 x.aX (-1048576) 1048576
abbrev St.yG (c:ai) (s:St) (n:Nat):St:=St.upTo (St.tS c) dS.name c.aL s n
def St.aL (s:St) (c:ai):St:=St.yG c s c.aL.length
theorem Nl (w0 V:World) (K:Nat) (c:ai) (s:St) (hK:w0.heap.size≤K) (hV:Ext w0 V) (hc:aS w0 c) (hn:c.aL.length≤1000000) (h:gY V K c s):
 Calls prog 83 #[.pointer (some ⟨K,0,none⟩)] V fun e' w'=>kW V K c (s.aL c) e' w':=by
 have hle:=hc.aL.le;have dy:=hc.aL.cap
 rw [List.length_map]at hle;have Ho:=ae (show∀args w,(callFunc 144 args).run prog w= .ok (.enter 144 args) w from enters_of func144 (by kernel_rfl) rfl);have HV:=ae hV;have et:=ae hc;have cX:=ae hK;have qY:=ae h.lt
 unfold St.aL;clear hc hV hK;go_enter func83,ntmps83
 go_upto_region 1 with fail
 generalize hW:World.alloc _ _=W;obtain ⟨B,hB,x0,A⟩:=dv hW;rw [←hB];have fP:B≠K:=by have:=qY.o;omega
 have F:=fun Y (e:ar K W Y)=>(A.dA e fP).cs;simp only [Cs,dS.cells,Nat.zero_add,Nat.add_zero,Nat.reduceAdd,and_true]at F;have HK:=ae (h.ext x0);have C:=dO HK.o;have X:=ar.refl K W;have HX:=ae (x0.but K);have HE:=ae (HV.o.trans x0)
 clear hW A x0 hB h HV;go_wp2_with fail
 clear C;go_loopw [10] (fun ii wr=> ∃i:Nat,i≤c.aL.length∧gY wr K c (St.yG c s i)∧ar K W wr∧ii= .int .i64 i) (fun ii _=>c.aL.length-(intOf ii).toNat)
 case atStart=>exact ⟨0,Nat.zero_le _,HK.o,X,rfl⟩
 case round=>
  clear X HK;obtain ⟨i,hi,hk,X,rfl⟩:=hrel;by_cases hlt:i<c.aL.length
  ·have hE:=X.ext HE.o cX.o
   obtain ⟨b,o,ha,D⟩:=(et.o.aL.ext hE).cs i hlt;have iz:=ae (et.o.tie c.aL[i] (List.getElem_mem hlt));have qZ:=ae (St.ld (St.tS c) dS.name c.aL s i hlt);obtain ⟨prev,hp,xy,vZ⟩:=Aq dS.name c.aL i hlt;rw [←hp]at qZ;have zP:=ae vZ;have HK:=ae hk
   generalize c.aL[i]=x at D iz qZ;have f_:(0:Int)≤(i:Int):=by omega
   have fU:(i:Int)<(c.aL.length:Int):=by omega
   simp only [Cs,dS.cells,Nat.zero_add,Nat.add_zero,Nat.reduceAdd,and_true]at D;clear hp vZ hk;rw [ha];go_upto_region 4 with fail
   generalize hW1:World.alloc _ _=W1;obtain ⟨E,lh,x1,A⟩:=dv hW1;rw [←lh];have lg:E≠K:=by have:=HK.o.lt;omega
   replace F:=fun Y (e:ar K W1 Y)=>And.intro (F Y ((X.trans (x1.but K)).trans e)) (A.dA e lg).cs;simp only [Cs,dS.cells,Nat.zero_add,Nat.add_zero,Nat.reduceAdd,and_true]at F;have fJ:=ae (X.trans (x1.but K));have kX:=ae (hE.trans x1)
   replace X:=ar.refl K W1;replace HK:=ae (HK.o.ext x1);clear D A hW1 x1 lh hE ha;go_wp2_with ((first|(go_at_call 131;refine (Aj _ K c _ _ _ HK.o).mono ?_)|(go_at_call 135;refine (qV _ K c _ _ iz.o.1 prev 144 B (fun h=>by rw [xy.o];exact St.uE _ _ _ h) (by rw [xy.o];omega) Ho.o (fun V' s' j hj mH Hp=>by obtain ⟨hj',ej⟩:=zP.o j hj;rw [ej];exact KI w0 V' K B c s' j cX.o (mH.ext (X.ext kX.o cX.o) cX.o) et.o Hp (F V' (X.trans mH)).1 hj') HK.o).mono ?_)|(go_at_call 138;refine (Ec _ K c _ _ _ HK.o).mono ?_)|(go_at_call 133;refine (uz w0 _ K c _ _ _ _ _ _ _ cX.o (X.ext kX.o cX.o) (by first|exact iz.o.2.1|exact iz.o.2.2.1|exact iz.o.2.2.2.1) HK.o).mono ?_));rintro e w ⟨rfl,hk,hx⟩;replace X:=X.trans hx;replace HK:=ae hk;clear hx hk)
   exact ⟨⟨i+1,by omega,by rw [show St.yG c s (i+1)=_ from qZ.o];exact HK.o,fJ.o.trans X,by go_num⟩,by simp only [intOf];omega⟩
  ·obtain rfl:i=c.aL.length:=by omega
   go_wp2_with fail
   exact bodyPost_end (v:= .tuple #[]) (by simp [results,results83,go_sem]) rfl ⟨rfl,hk,HX.o.trans X⟩
def St.pK (c:ai) (x:aP) (prev:List ByteArray) (i:Int) (s:St):St:=((((((((((s.at 2 i).name x.name prev).bus c 1 x.cU).bus c 2 x.j5).need (x.j5 !=x.cU) 2 1).need (eG x.rn x.rd&&decide (0<x.rn)) 3 3).need (eG x.se x.vW&&decide (x.se≤0)) 4 3).need (eG x.tj x.yA&&decide (0≤x.tj)) 5 3).within 6 x.cY 0 1048576).within 7 x.jS x.cY 1048576).away c 8 x.away
abbrev St.tT (c:ai) (s:St) (n:Nat):St:=St.upTo (St.pK c) aP.name c.lines s n
def St.lines (s:St) (c:ai):St:=St.tT c s c.lines.length
theorem KP (w0 V:World) (K:Nat) (c:ai) (s:St) (hK:w0.heap.size≤K) (hV:Ext w0 V) (hc:aS w0 c) (hn:c.lines.length≤1000000) (h:gY V K c s):
 Calls prog 80 #[.pointer (some ⟨K,0,none⟩)] V fun e' w'=>kW V K c (s.lines c) e' w':=by
 have hle:=hc.lines.le;have dy:=hc.lines.cap
 rw [List.length_map]at hle;have Ho:=ae (show∀args w,(callFunc 137 args).run prog w= .ok (.enter 137 args) w from enters_of func137 (by kernel_rfl) rfl);have HV:=ae hV;have et:=ae hc;have cX:=ae hK;have qY:=ae h.lt
 unfold St.lines;clear hc hV hK;go_enter func80,ntmps80
 go_upto_region 1 with fail
 generalize hW:World.alloc _ _=W;obtain ⟨B,hB,x0,A⟩:=dv hW;rw [←hB];have fP:B≠K:=by have:=qY.o;omega
 have F:=fun Y (e:ar K W Y)=>(A.dA e fP).cs;simp only [Cs,aP.cells,Nat.zero_add,Nat.add_zero,Nat.reduceAdd,and_true]at F;have HK:=ae (h.ext x0);have C:=dO HK.o;have X:=ar.refl K W;have HX:=ae (x0.but K);have HE:=ae (HV.o.trans x0)
 clear hW A x0 hB h HV;go_wp2_with fail
 clear C;go_loopw [10] (fun ii wr=> ∃i:Nat,i≤c.lines.length∧gY wr K c (St.tT c s i)∧ar K W wr∧ii= .int .i64 i) (fun ii _=>c.lines.length-(intOf ii).toNat)
 case atStart=>exact ⟨0,Nat.zero_le _,HK.o,X,rfl⟩
 case round=>
  clear X HK;obtain ⟨i,hi,hk,X,rfl⟩:=hrel;by_cases hlt:i<c.lines.length
  ·have hE:=X.ext HE.o cX.o
   obtain ⟨b,o,ha,D⟩:=(et.o.lines.ext hE).cs i hlt;have iz:=ae (et.o.line c.lines[i] (List.getElem_mem hlt));have qZ:=ae (St.ld (St.pK c) aP.name c.lines s i hlt);obtain ⟨prev,hp,xy,vZ⟩:=Aq aP.name c.lines i hlt;rw [←hp]at qZ;have zP:=ae vZ;have HK:=ae hk
   generalize c.lines[i]=x at D iz qZ;have f_:(0:Int)≤(i:Int):=by omega
   have fU:(i:Int)<(c.lines.length:Int):=by omega
   simp only [Cs,aP.cells,Nat.zero_add,Nat.add_zero,Nat.reduceAdd,and_true]at D;clear hp vZ hk;rw [ha];go_upto_region 4 with fail
   generalize hW1:World.alloc _ _=W1;obtain ⟨E,lh,x1,A⟩:=dv hW1;rw [←lh];have lg:E≠K:=by have:=HK.o.lt;omega
   replace F:=fun Y (e:ar K W1 Y)=>And.intro (F Y ((X.trans (x1.but K)).trans e)) (A.dA e lg).cs;simp only [Cs,aP.cells,Nat.zero_add,Nat.add_zero,Nat.reduceAdd,and_true]at F;have fJ:=ae (X.trans (x1.but K));have kX:=ae (hE.trans x1)
   replace X:=ar.refl K W1;replace HK:=ae (HK.o.ext x1);clear D A hW1 x1 lh hE ha;go_wp2_with (first|((first|(go_at_call 131;refine (Aj _ K c _ _ _ HK.o).mono ?_)|(go_at_call 135;refine (qV _ K c _ _ iz.o.1 prev 137 B (fun h=>by rw [xy.o];exact St.uE _ _ _ h) (by rw [xy.o];omega) Ho.o (fun V' s' j hj mH Hp=>by obtain ⟨hj',ej⟩:=zP.o j hj;rw [ej];exact Hg w0 V' K B c s' j cX.o (mH.ext (X.ext kX.o cX.o) cX.o) et.o Hp (F V' (X.trans mH)).1 hj') HK.o).mono ?_)|(go_at_call 138;refine (Ec _ K c _ _ _ HK.o).mono ?_)|(go_at_call 134;refine (eF _ K c _ _ _ _ HK.o).mono ?_)|(go_at_call 132;refine (gZ _ K c _ _ _ _ _ HK.o).mono ?_)|(go_at_call 140;refine (Ha w0 _ K c _ _ _ _ _ cX.o (X.ext kX.o cX.o) iz.o.2.1 HK.o).mono ?_));rintro e w ⟨rfl,hk,hx⟩;replace X:=X.trans hx;replace HK:=ae hk;clear hx hk)|(refine wG (ar K W1) (X.trans ((Ext.refl _).drew.but K)) (fun av=> ?_);refine wV 0 av ?_;refine wV 1 av ?_;refine wV 2 av ?_;refine wR 3 (fun Kc hK=> ?_);go_simp;refine (Ak _ _ _).mono ?_;rintro e z ⟨rfl,xz⟩;refine hK.o _ _ (av.trans (xz.but K)) (fun av=> ?_);clear hK Kc;replace HK:=ae (HK.o.ext ((Ext.refl _).drew.trans xz));clear xz;(try simp only [sS]);refine wV 4 av ?_;refine wB 5 av ?_;refine wB 6 av ?_;refine wB 7 av ?_;refine wB 8 av ?_;refine wP 9 av ?_;refine wR 10 (fun Kc hK=> ?_);go_simp;refine (eF _ K c _ _ _ _ HK.o).mono ?_;rintro e z ⟨rfl,hk,hx⟩;refine hK.o _ _ (av.trans hx) (fun av=> ?_);clear hK Kc;(try simp only [sS]);refine wD ?_;replace X:=av;replace HK:=ae hk;clear hk hx av))
   exact ⟨⟨i+1,by omega,by rw [show St.tT c s (i+1)=_ from qZ.o];exact HK.o,fJ.o.trans X,by go_num⟩,by simp only [intOf];omega⟩
  ·obtain rfl:i=c.lines.length:=by omega
   go_wp2_with fail
   exact bodyPost_end (v:= .tuple #[]) (by simp [results,results80,go_sem]) rfl ⟨rfl,hk,HX.o.trans X⟩
def St.whole (s:St) (c:ai):St:=((((((((s.at 0 0).within 0 c.hours 1 24).lS c 1 c.aV 0 1048576).need (decide ((1:Int)≤c.ak.length)&&decide ((c.ak.length:Int)≤32)) 2 8).need (decide ((c.lines.length:Int)≤64)) 3 8).need (decide ((c.au.length:Int)≤16)) 4 8).need (decide ((c.stores.length:Int)≤8)) 5 8).need (decide ((c.aL.length:Int)≤8)) 6 8).need (decide ((c.outs.length:Int)≤64)) 7 8
theorem KQ (w0 V:World) (K:Nat) (c:ai) (s:St) (hK:w0.heap.size≤K) (hV:Ext w0 V) (hc:aS w0 c) (h:gY V K c s):
 Calls prog 78 #[.pointer (some ⟨K,0,none⟩)] V fun e' w'=>kW V K c (s.whole c) e' w':=by
 have b2:=hc.ak.le;have Mg:=hc.ak.cap;have b3:=hc.lines.le;have b3':=hc.lines.cap;have b4:=hc.au.le;have b4':=hc.au.cap;have b5:=hc.stores.le;have b5':=hc.stores.cap;have b6:=hc.aL.le;have b6':=hc.aL.cap;have b7:=hc.outs.le;have b7':=hc.outs.cap
 rw [List.length_map]at b2 b3 b4 b5 b6 b7;have HR:=ae hc.aV;have HV:=ae hV;have cX:=ae hK;have HK:=ae h
 have X:=ar.refl K V;have C:=dO HK.o
 clear hc hV hK h;rcases Bool.eq_false_or_eq_true (decide ((1:Int)≤c.ak.length))with d1|d1
 all_goals
  go_enter func78,ntmps78
  go_wp2_with ((first|(go_at_call 131;refine (Aj _ K c _ _ _ HK.o).mono ?_)|(go_at_call 132;refine (gZ _ K c _ _ _ _ _ HK.o).mono ?_)|(go_at_call 134;refine (eF _ K c _ _ _ _ HK.o).mono ?_)|(go_at_call 133;refine (uz w0 _ K c _ _ _ _ _ _ _ cX.o (X.ext HV.o cX.o) HR.o HK.o).mono ?_));rintro e w ⟨rfl,hk,hx⟩;replace X:=X.trans hx;replace HK:=ae hk;replace C:=dO HK.o;clear hx hk)
  exact bodyPost_end (v:= .tuple #[]) (by simp [results,results78,go_sem]) rfl ⟨rfl,by simpa [St.whole,d1]using HK.o,X⟩
def St.nO (c:ai) (x:bj) (prev:List ByteArray) (i:Int) (s:St):St:=((((((((s.at 4 i).name x.name prev).bus c 1 x.bus).within 2 x.capacity 0 1048576).within 3 x.initial 0 x.capacity).within 4 x.final 0 x.capacity).within 5 x.dg 0 1048576).within 6 x.discharge 0 1048576).need (eG x.en x.ed&&decide (0<x.en)&&decide (x.en≤x.ed)) 7 3
abbrev St.pL (c:ai) (s:St) (n:Nat):St:=St.upTo (St.nO c) bj.name c.stores s n
def St.stores (s:St) (c:ai):St:=St.pL c s c.stores.length
theorem Hq (w0 V:World) (K:Nat) (c:ai) (s:St) (hK:w0.heap.size≤K) (hV:Ext w0 V) (hc:aS w0 c) (hn:c.stores.length≤1000000) (h:gY V K c s):
 Calls prog 82 #[.pointer (some ⟨K,0,none⟩)] V fun e' w'=>kW V K c (s.stores c) e' w':=by
 have hle:=hc.stores.le;have dy:=hc.stores.cap
 rw [List.length_map]at hle;have Ho:=ae (show∀args w,(callFunc 143 args).run prog w= .ok (.enter 143 args) w from enters_of func143 (by kernel_rfl) rfl);have HV:=ae hV;have et:=ae hc;have cX:=ae hK;have qY:=ae h.lt
 unfold St.stores;clear hc hV hK;go_enter func82,ntmps82
 go_upto_region 1 with fail
 generalize hW:World.alloc _ _=W;obtain ⟨B,hB,x0,A⟩:=dv hW;rw [←hB];have fP:B≠K:=by have:=qY.o;omega
 have F:=fun Y (e:ar K W Y)=>(A.dA e fP).cs;simp only [Cs,bj.cells,Nat.zero_add,Nat.add_zero,Nat.reduceAdd,and_true]at F;have HK:=ae (h.ext x0);have C:=dO HK.o;have X:=ar.refl K W;have HX:=ae (x0.but K);have HE:=ae (HV.o.trans x0)
 clear hW A x0 hB h HV;go_wp2_with fail
 clear C;go_loopw [11] (fun ii wr=> ∃i:Nat,i≤c.stores.length∧gY wr K c (St.pL c s i)∧ar K W wr∧ii= .int .i64 i) (fun ii _=>c.stores.length-(intOf ii).toNat)
 case atStart=>exact ⟨0,Nat.zero_le _,HK.o,X,rfl⟩
 case round=>
  clear X HK;obtain ⟨i,hi,hk,X,rfl⟩:=hrel;by_cases hlt:i<c.stores.length
  ·have hE:=X.ext HE.o cX.o
   obtain ⟨b,o,ha,D⟩:=(et.o.stores.ext hE).cs i hlt;have iz:=ae (et.o.store c.stores[i] (List.getElem_mem hlt));have qZ:=ae (St.ld (St.nO c) bj.name c.stores s i hlt);obtain ⟨prev,hp,xy,vZ⟩:=Aq bj.name c.stores i hlt;rw [←hp]at qZ;have zP:=ae vZ;have HK:=ae hk
   generalize c.stores[i]=x at D iz qZ;have f_:(0:Int)≤(i:Int):=by omega
   have fU:(i:Int)<(c.stores.length:Int):=by omega
   simp only [Cs,bj.cells,Nat.zero_add,Nat.add_zero,Nat.reduceAdd,and_true]at D;clear hp vZ hk;rw [ha];go_upto_region 4 with fail
   generalize hW1:World.alloc _ _=W1;obtain ⟨E,lh,x1,A⟩:=dv hW1;rw [←lh];have lg:E≠K:=by have:=HK.o.lt;omega
   replace F:=fun Y (e:ar K W1 Y)=>And.intro (F Y ((X.trans (x1.but K)).trans e)) (A.dA e lg).cs;simp only [Cs,bj.cells,Nat.zero_add,Nat.add_zero,Nat.reduceAdd,and_true]at F;have fJ:=ae (X.trans (x1.but K));have kX:=ae (hE.trans x1)
   replace X:=ar.refl K W1;replace HK:=ae (HK.o.ext x1);clear D A hW1 x1 lh hE ha;go_wp2_with (first|((first|(go_at_call 131;refine (Aj _ K c _ _ _ HK.o).mono ?_)|(go_at_call 135;refine (qV _ K c _ _ iz.o.1 prev 143 B (fun h=>by rw [xy.o];exact St.uE _ _ _ h) (by rw [xy.o];omega) Ho.o (fun V' s' j hj mH Hp=>by obtain ⟨hj',ej⟩:=zP.o j hj;rw [ej];exact Fp w0 V' K B c s' j cX.o (mH.ext (X.ext kX.o cX.o) cX.o) et.o Hp (F V' (X.trans mH)).1 hj') HK.o).mono ?_)|(go_at_call 138;refine (Ec _ K c _ _ _ HK.o).mono ?_)|(go_at_call 132;refine (gZ _ K c _ _ _ _ _ HK.o).mono ?_));rintro e w ⟨rfl,hk,hx⟩;replace X:=X.trans hx;replace HK:=ae hk;clear hx hk)|(generalize Zp:World.alloc _ _=Wf;obtain ⟨G,hG,xf,Af⟩:=dv Zp;rw [←hG];have VD:G≠K:=(by have:=HK.o.lt;omega);have F2:=fun Y (e:ar K Wf Y)=>And.intro (F Y (X.trans ((xf.but K).trans e))) (Af.dA e VD).cs;simp only [Cs,Nat.zero_add,Nat.add_zero,Nat.reduceAdd,and_true]at F2;replace HK:=ae (HK.o.ext xf);replace X:=X.trans (xf.but K);clear Zp Af hG xf;refine wG (ar K Wf) ((Ext.refl _).drew.but K) (fun av=> ?_);refine wV 0 av ?_;refine wV 1 av ?_;refine wR 2 (fun Kc hK=> ?_);go_simp;refine (Ak _ _ _).mono ?_;rintro e z ⟨rfl,xz⟩;refine hK.o _ _ (av.trans (xz.but K)) (fun av=> ?_);clear hK Kc;replace HK:=ae (HK.o.ext ((Ext.refl _).drew.trans xz));clear xz;(try simp only [sS]);refine wV 3 av ?_;refine wB 4 av ?_;refine wB 5 av ?_;refine wB 6 av ?_;refine wP 7 av ?_;refine wV 8 av ?_;refine wB 9 av ?_;refine wB 10 av ?_;refine wB 11 av ?_;refine wB 12 av ?_;refine wB 13 av ?_;refine wP 14 av ?_;refine wR 15 (fun Kc hK=> ?_);go_simp;refine (eF _ K c _ _ _ _ HK.o).mono ?_;rintro e z ⟨rfl,hk,hx⟩;refine hK.o _ _ (av.trans hx) (fun av=> ?_);clear hK Kc;(try simp only [sS]);refine wD ?_;replace X:=X.trans av;replace HK:=ae hk;clear hk hx av F2))
   exact ⟨⟨i+1,by omega,by rw [show St.pL c s (i+1)=_ from qZ.o];exact HK.o,fJ.o.trans X,by go_num⟩,by simp only [intOf];omega⟩
  ·obtain rfl:i=c.stores.length:=by omega
   go_wp2_with fail
   exact bodyPost_end (v:= .tuple #[]) (by simp [results,results82,go_sem]) rfl ⟨rfl,hk,HX.o.trans X⟩
def St.mK (s:St) (l:List dp):St:=l.foldl (fun s g=>(s.within 4 g.width 1 1048576).within 4 g.aX (-1048576) 1048576) s
def CP (l:List dp) (j:Nat):Int:=(l[j]?.map dp.aX).getD 0
def St.ju (s:St) (l:List dp) (n:Nat):St:=(List.range n).foldl (fun s j=>if j=0 then s else s.need (decide (CP l (j-1)≤CP l j)) 4 11) s
def bR (l:List dp):Int:=(l.map dp.width).sum
def St.segments (s:St) (x:aF):St:=
 if(s.need (decide ((x.aM.length:Int)≤8)) 4 8).err≠0 then s.need (decide ((x.aM.length:Int)≤8)) 4 8
 else(((s.need (decide ((x.aM.length:Int)≤8)) 4 8).mK x.aM).ju x.aM x.aM.length).need (decide (bR x.aM=IntKind.i64.wrap (x.max-x.min))) 4 4
theorem yH {l:List dp} {j:Nat} (h:j<l.length):CP l j=l[j].aX:=by unfold CP;rw [List.getElem?_eq_getElem h];rfl
theorem St.CQ (s:St) (l:List dp) (i:Nat) (h:i<l.length):s.mK (l.take (i+1))=((s.mK (l.take i)).within 4 l[i].width 1 1048576).within 4 l[i].aX (-1048576) 1048576:=by
 unfold St.mK;rw [List.take_succ_eq_append_getElem h,List.foldl_append];rfl
theorem nj (l:List dp) (i:Nat) (h:i<l.length):bR (l.take (i+1))=bR (l.take i)+l[i].width:=by
 unfold bR;rw [List.take_succ_eq_append_getElem h,List.map_append,List.sum_append];simp
theorem St.CR (s:St) (l:List dp) (p:Nat):s.ju l (p+1+1)=(s.ju l (p+1)).need (decide (CP l p≤CP l (p+1))) 4 11:=by
 unfold St.ju;rw [List.range_succ,List.foldl_append,List.foldl_cons,List.foldl_nil,if_neg (by omega)];rfl
theorem St.Fs (s:St) (l:List dp) (i:Nat) (h1:1≤i) (h:l.length≤i) (h2:i≤l.length∨i=1):s.ju l i=s.ju l l.length:=by
 rcases h2 with h2|rfl
 ·rw [Nat.le_antisymm h2 h]
 ·have:l.length=0∨l.length=1:=by omega
  rcases this with e|e<;>rw [e]<;>rfl
theorem St.yI {s:St} {ok:Bool} {f e:Int} (he:e≠0) (h:(s.need ok f e).err=0):s.err=0∧ok=true:=by
 have h0:=St.xu h;refine ⟨h0,?_⟩;cases ok with
 |true=>rfl
 |false=>unfold St.need at h;rw [if_pos ⟨h0,rfl⟩]at h;exact absurd h he
theorem St.xD {s:St} {f n a b:Int} (h:(s.within f n a b).err=0):s.err=0∧a≤n∧n≤b:=by
 obtain ⟨h1,h2⟩:=St.yI (by decide) h;rw [Bool.and_eq_true,decide_eq_true_eq,decide_eq_true_eq]at h2;exact ⟨h1,h2⟩
theorem CS (z:Int):bp (IntKind.i64.wrap z):=by unfold bp;rw [IntKind.wrap_i64];omega
theorem Nn (w0 V:World) (K:Nat) (c:ai) (s:St) (x:aF) (hK:w0.heap.size≤K) (hV:Ext w0 V) (hs:bS w0 2 x.sa x.sc (x.aM.map dp.cells)) (Np: ∀g∈x.aM,gl [g.width,g.aX]) (h:gY V K c s):
 Calls prog 142 #[.pointer (some ⟨K,0,none⟩),.agg x.cells.toArray] V fun e' w'=>kW V K c (s.segments x) e' w':=by
 have hle:=hs.le;have dy:=hs.cap
 rw [List.length_map]at hle;have HV:=ae hV;have HS:=ae hs;have VE:=ae Np;have cX:=ae hK;have qY:=ae h.lt;have HK:=ae h
 unfold St.segments;generalize hs1:s.need (decide ((x.aM.length:Int)≤8)) 4 8=s1;generalize hM:IntKind.i64.wrap (x.max-x.min)=M;generalize Pz:(if s1.err≠0 then s1 else((s1.mK x.aM).ju x.aM x.aM.length).need (decide (bR x.aM=M)) 4 4)=sf;have GL:=ae hs1;have Hr:=ae Pz
 have HL8:Hid (s1.err=0→x.aM.length≤8):=fun h0=>by
  rw [←GL.o]at h0;have:=(St.yI (by decide) h0).2;rw [decide_eq_true_eq]at this;omega
 clear hs hV Np h hs1 Pz hK;go_enter func142,ntmps142
 go_upto_region 1 with fail
 generalize hW:World.alloc _ _=W;obtain ⟨B,hB,x0,A⟩:=dv hW;rw [←hB];have fP:B≠K:=by have:=qY.o;omega
 have F:=fun Y (e:ar K W Y)=>(A.dA e fP).cs;simp only [Cs,aF.cells,Nat.zero_add,Nat.add_zero,Nat.reduceAdd,and_true]at F;have X:=ar.refl K W;have HX:=ae (x0.but K);have HE:=ae (HV.o.trans x0)
 replace HK:=ae (HK.o.ext x0);clear hW hB x0 A;go_upto_region 2 with(go_at_call 134;refine (eF _ K c _ _ _ _ HK.o).mono ?_;rintro e w ⟨rfl,hk,hx⟩;rw [GL.o]at hk;replace X:=X.trans hx;replace HK:=ae hk;clear hk hx)
 obtain ⟨-,-,-,Qz,-⟩:=m_ HK.o;by_cases h0:s1.err=0
 rotate_left
 ·have t1:(s1.err !=0)=true:=by simpa using h0
  have hf:=Hr.o;rw [if_pos h0]at hf;have HF:=ae hf;clear h0 hf;go_wp2_with fail
  exact bodyPost_ret (v:= .tuple #[]) (by simp [results,results142,go_sem]) rfl ⟨rfl,HF.o▸HK.o,HX.o.trans X⟩
 have t1:(s1.err !=0)=false:=by simpa using h0
 have h8:=HL8.o h0;have Ua:=ae h0;clear h0;go_wp2_with fail
 clear Qz t1;go_loopw [4,22] (fun vs ii wr=> ∃(i:Nat) (t:Int),i≤x.aM.length∧gY wr K c (s1.mK (x.aM.take i))∧ar K W wr∧bp t∧((s1.mK (x.aM.take i)).err=0→t=bR (x.aM.take i)∧0≤t∧t≤i*1048576)∧vs= .int .i64 t∧ii= .int .i64 i) (fun _ ii _=>x.aM.length-(intOf ii).toNat)
 case atStart=>exact ⟨0,0,Nat.zero_le _,HK.o,X,by unfold bp;omega,fun _=>⟨rfl,by omega,by omega⟩,rfl,rfl⟩
 case round=>
  clear HK X;obtain ⟨i,t,hi,hk,X,acF,Fu,rfl,rfl⟩:=hrel;by_cases hlt:i<x.aM.length
  ·obtain ⟨b,o,ha,D⟩:=(HS.o.ext (X.ext HE.o cX.o)).cs i hlt
   have lW:=ae (St.CQ s1 x.aM i hlt);have mX:=ae (nj x.aM i hlt)
   have GM:=VE.o x.aM[i] (List.getElem_mem hlt);generalize s1.mK (x.aM.take i)=s2 at*;generalize bR (x.aM.take i)=σ at*;generalize x.aM[i]=g at D lW mX GM;simp only [Cs,dp.cells,Nat.zero_add,Nat.add_zero,Nat.reduceAdd,and_true]at D;have HK:=ae hk;have VF:=ae Fu
   have f_:(0:Int)≤(i:Int):=by omega
   have fU:(i:Int)<(x.aM.length:Int):=by omega
   clear hk Fu;rw [ha];go_upto_region 7 with fail
   generalize hW1:World.alloc _ _=W1;obtain ⟨E,hE,x1,A⟩:=dv hW1;rw [←hE];have lg:E≠K:=by have:=HK.o.lt;omega
   have G:=fun Y (e:ar K W1 Y)=>(A.dA e lg).cs;simp only [Cs,dp.cells,Nat.zero_add,Nat.add_zero,Nat.reduceAdd,and_true]at G;have fJ:=ae (X.trans (x1.but K));replace X:=ar.refl K W1;replace HK:=ae (HK.o.ext x1)
   clear D A hW1 x1 hE ha;obtain ⟨t',Zq⟩: ∃t',IntKind.i64.wrap (t+g.width)=t':=⟨_,rfl⟩;have H64:Hid (bp t'):=Zq▸CS _
   have VG:Hid (((s2.within 4 g.width 1 1048576).within 4 g.aX (-1048576) 1048576).err=0→t'=σ+g.width∧0≤t'∧t'≤((i+1:Nat):Int)*1048576):=fun he=>by
    obtain ⟨Cu,-,-⟩:=St.xD he;obtain ⟨J_,ha1,ha2⟩:=St.xD Cu;obtain ⟨hb1,hb2,hb3⟩:=VF.o J_;have:t'=t+g.width:=by rw [←Zq,IntKind.wrap_i64];omega
    omega
   clear GM;go_wp2_with (go_at_call 132;refine (gZ _ K c _ _ _ _ _ HK.o).mono ?_;rintro e w ⟨rfl,hk,hx⟩;replace X:=X.trans hx;replace HK:=ae hk;clear hk hx)
   exact ⟨⟨i+1,t',by omega,by rw [lW.o];exact HK.o,fJ.o.trans X,H64.o,by rw [lW.o,mX.o];exact VG.o,rfl,by go_num⟩,by simp only [intOf];omega⟩
  ·obtain rfl:i=x.aM.length:=by omega
   rw [List.take_length]at hk Fu;have Nq:gY wr K c ((s1.mK x.aM).ju x.aM 1):=hk;generalize hs2:s1.mK x.aM=s2 at Fu Nq;have zQ:=ae hs2;have VF:=ae Fu;have QA:=ae Nq
   clear hk Fu Nq hs2;go_wp2_with fail
   go_loopw [7] (fun ii wl=> ∃i:Nat,1≤i∧(i≤x.aM.length∨i=1)∧gY wl K c (s2.ju x.aM i)∧ar K W wl∧ii= .int .i64 i) (fun ii _=>x.aM.length-(intOf ii).toNat)
   case atStart=>exact ⟨1,Nat.le_refl _,Or.inr rfl,QA.o,X,rfl⟩
   case round=>
    clear X QA;obtain ⟨i,h1,hi,hk,X,rfl⟩:=hrel;by_cases hlt:i<x.aM.length
    ·obtain ⟨p,rfl⟩: ∃p,i=p+1:=⟨i-1,by omega⟩
     obtain ⟨b,o,ha,-⟩:=HS.o.cs p (by omega);have Ka:Hid (bS w0 2 (some ⟨b,o,none⟩) x.sc (x.aM.map dp.cells)):=ha▸HS.o;have G:=fun Y (e:ar K W Y)=>And.intro ((Ka.o.ext (e.ext HE.o cX.o)).cs' (p+1) hlt) ((Ka.o.ext (e.ext HE.o cX.o)).cs' p (by omega));have e1:=(yH hlt).symm;have e0:=(yH (show p<x.aM.length by omega)).symm;simp only [Cs,dp.cells,Nat.zero_add,Nat.add_zero,Nat.reduceAdd,and_true,e0,e1]at G;clear e0 e1;have Qx:=ae (St.CR s2 x.aM p);have HK:=ae hk
     have hw:IntKind.i64.wrap (((p+1:Nat):Int)-1)=(p:Int):=by rw [IntKind.wrap_i64];omega
     have hw2:IntKind.i64.wrap (p:Int)=(p:Int):=by rw [IntKind.wrap_i64];omega
     have f_:(0:Int)≤((p+1:Nat):Int):=by omega
     have fU:((p+1:Nat):Int)<(x.aM.length:Int):=by omega
     have Qr:(0:Int)≤(p:Int):=by omega
     have Nh:(p:Int)<(x.aM.length:Int):=by omega
     have Qs:(0:Int)≤(p:Int)+1:=by omega
     have Ni:(p:Int)+1<(x.aM.length:Int):=by omega
     have Vx: ¬((p:Int)+1<0):=by omega
     clear hk;go_wp2_with (refine wG (ar K W) (X.trans ((Ext.refl _).drew.but K)) (fun av=> ?_);refine wV 0 av ?_;refine wV 1 av ?_;refine wV 2 av ?_;refine wV 3 av ?_;refine wV 4 av ?_;refine wV 5 av ?_;refine wV 6 av ?_;refine wV 7 av ?_;refine wV 8 av ?_;refine wV 9 av ?_;refine wV 10 av ?_;refine wV 11 av ?_;refine wV 12 av ?_;refine wV 13 av ?_;refine wV 14 av ?_;refine wR 15 (fun Kc hK=> ?_);go_simp;refine (eF _ K c _ _ _ _ (HK.o.ext (Ext.refl _).drew)).mono ?_;rintro e w ⟨rfl,hk,hx⟩;refine hK.o _ _ (av.trans hx) (fun av=> ?_);clear hK Kc;(try simp only [sS]);refine wD ?_;replace X:=av;replace HK:=ae hk;clear hk hx av)
     exact ⟨⟨p+1+1,by omega,Or.inl (by omega),by rw [Qx.o];exact HK.o,by go_num⟩,by simp only [intOf];omega⟩
    ·have hmx:=St.Fs s2 x.aM i h1 (by omega) hi
     rw [hmx]at hk;obtain ⟨s3,hs3⟩: ∃s3,s2.ju x.aM x.aM.length=s3:=⟨_,rfl⟩
     have hz:s3.err=0→s2.err=0:=fun he=>by
      rw [←hs3]at he;apply Classical.byContradiction;intro hne
      have key: ∀n,s2.ju x.aM n=s2:=by
       intro n;induction n with
       |zero=>rfl
       |succ n ih=>
        have e1:s2.ju x.aM (n+1)=(if n=0 then s2.ju x.aM n else(s2.ju x.aM n).need (decide (CP x.aM (n-1)≤CP x.aM n)) 4 11):=by
             unfold St.ju;rw [List.range_succ,List.foldl_append,List.foldl_cons,List.foldl_nil]
        rw [e1,ih];split
        ·rfl
        ·exact St.gm _ _ _ _ hne
      rw [key]at he;exact hne he
     rw [hs3]at hk
     have na:s3.need (t==M) 4 4=s3.need (decide (bR x.aM=M)) 4 4:=by
      by_cases he:s3.err=0
      ·obtain ⟨e1,-,-⟩:=VF.o (hz he)
       rw [←e1];have hb:(t==M)=decide (t=M):=by rw [Bool.eq_iff_iff];simp
       rw [hb]
      ·rw [St.gm _ _ _ _ he,St.gm _ _ _ _ he]
     have hend:s3.need (t==M) 4 4=sf:=by
      have h9:=Hr.o;rw [if_neg (fun hne=>hne Ua.o),zQ.o,hs3]at h9;rw [na,h9]
     have GK:=ae hend;have HK:=ae hk
     clear hk hmx hz na hs3 hend;go_wp2_with (go_at_call 134;refine (eF _ K c s3 (t==M) _ _ HK.o).mono ?_;rintro e w ⟨rfl,hk,hx⟩;rw [GK.o]at hk;replace X:=X.trans hx;replace HK:=ae hk;clear hk hx)
     exact bodyPost_end (v:= .tuple #[]) (by simp [results,results142,go_sem]) rfl ⟨rfl,HK.o,HX.o.trans X⟩
end Go.Proofs.YtkpngkdgphojlaaGreat
