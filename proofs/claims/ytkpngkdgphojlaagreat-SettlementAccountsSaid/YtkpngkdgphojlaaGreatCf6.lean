/- Texts of the proof. -/
import Derived.Shelf.Abstract
import Derived.Test.YtkpngkdgphojlaaGreatCf3
import Derived.Test.YtkpngkdgphojlaaGreatCf5
set_option linter.all false
set_option maxHeartbeats 2000000
set_option maxRecDepth 100000
namespace Go.Proofs.YtkpngkdgphojlaaGreat
open Go.Proofs.Tryz
open Go.RowKit
def St.qJ (c:ai) (x:cN) (prev:List ByteArray) (i:Int) (s:St):St:=(((s.at 1 i).name x.name prev).mW c 1 x.cf 0 1048576).within 2 x.lF 0 1048576
abbrev St.uC (c:ai) (s:St) (n:Nat):St:=St.upTo (St.qJ c) cN.name c.aj s n
def St.aj (s:St) (c:ai):St:=St.uC c s c.aj.length
theorem Lc (w0 V:World) (K:Nat) (c:ai) (s:St) (hK:w0.heap.size≤K) (hV:Ext w0 V) (hc:a_ w0 c) (hn:c.aj.length≤1000000) (h:iN V K c s):
 Calls prog 79 #[.pointer (some ⟨K,0,none⟩)] V fun e' w'=>mq V K c (s.aj c) e' w':=by
 have hle:=hc.aj.le;have dQ:=hc.aj.cap
 rw [List.length_map]at hle;have IA:=ae (show∀args w,(callFunc 136 args).run prog w= .ok (.enter 136 args) w from enters_of func136 (by kernel_rfl) rfl);have HV:=ae hV;have f_:=ae hc;have df:=ae hK;have qx:=ae h.lt
 unfold St.aj;clear hc hV hK;go_enter func79,ntmps79
 go_upto_region 1 with fail
 generalize hW:World.alloc _ _=W;obtain ⟨B,hB,x0,A⟩:=bX hW;rw [←hB];have gQ:B≠K:=by have:=qx.o;omega
 have F:=fun Y (e:ar K W Y)=>(A.dC e gQ).cs;simp only [Cs,cN.cells,Nat.zero_add,Nat.add_zero,Nat.reduceAdd,and_true]at F;have HK:=ae (h.ext x0);have C:=eC HK.o;have X:=ar.refl K W;have HX:=ae (x0.but K);have HE:=ae (HV.o.trans x0)
 clear hW A x0 hB h HV;go_wp2_with fail
 clear C;go_loopw [10] (fun ii wr=> ∃i:Nat,i≤c.aj.length∧iN wr K c (St.uC c s i)∧ar K W wr∧ii= .int .i64 i) (fun ii _=>c.aj.length-(intOf ii).toNat)
 case atStart=>exact ⟨0,Nat.zero_le _,HK.o,X,rfl⟩
 case round=>
  clear X HK;obtain ⟨i,hi,hk,X,rfl⟩:=hrel;by_cases hlt:i<c.aj.length
  ·have hE:=X.ext HE.o df.o
   obtain ⟨b,o,ha,D⟩:=(f_.o.aj.ext hE).cs i hlt;have jf:=ae (f_.o.cS c.aj[i] (List.getElem_mem hlt));have sG:=ae (St.mB (St.qJ c) cN.name c.aj s i hlt);obtain ⟨prev,hp,yb,wL⟩:=A5 cN.name c.aj i hlt;rw [←hp]at sG;have Ar:=ae wL;have HK:=ae hk
   generalize c.aj[i]=x at D jf sG;have jS:(0:Int)≤(i:Int):=by omega
   have jI:(i:Int)<(c.aj.length:Int):=by omega
   simp only [Cs,cN.cells,Nat.zero_add,Nat.add_zero,Nat.reduceAdd,and_true]at D;clear hp wL hk;rw [ha];go_upto_region 4 with fail
   generalize hW1:World.alloc _ _=W1;obtain ⟨E,nP,x1,A⟩:=bX hW1;rw [←nP];have mC:E≠K:=by have:=HK.o.lt;omega
   replace F:=fun Y (e:ar K W1 Y)=>And.intro (F Y ((X.trans (x1.but K)).trans e)) (A.dC e mC).cs;simp only [Cs,cN.cells,Nat.zero_add,Nat.add_zero,Nat.reduceAdd,and_true]at F;have eE:=ae (X.trans (x1.but K));have mr:=ae (hE.trans x1)
   replace X:=ar.refl K W1;replace HK:=ae (HK.o.ext x1);clear D A hW1 x1 nP hE ha;go_wp2_with ((first|(go_at_call 131;refine (AQ _ K c _ _ _ HK.o).mono ?_)|(go_at_call 135;refine (sB _ K c _ _ jf.o.1 prev 136 B (fun h=>by rw [yb.o];exact St.vq _ _ _ h) (by rw [yb.o];omega) IA.o (fun V' s' j hj pU EM=>by obtain ⟨hj',ej⟩:=Ar.o j hj;rw [ej];exact Io w0 V' K B c s' j df.o (pU.ext (X.ext mr.o df.o) df.o) f_.o EM (F V' (X.trans pU)).1 hj') HK.o).mono ?_)|(go_at_call 133;refine (vd w0 _ K c _ _ _ _ _ _ _ df.o (X.ext mr.o df.o) jf.o.2.1 HK.o).mono ?_)|(go_at_call 132;refine (iO _ K c _ _ _ _ _ HK.o).mono ?_));rintro e w ⟨rfl,hk,hx⟩;replace X:=X.trans hx;replace HK:=ae hk;clear hx hk)
   exact ⟨⟨i+1,by omega,by rw [show St.uC c s (i+1)=_ from sG.o];exact HK.o,eE.o.trans X,by go_num⟩,by simp only [intOf];omega⟩
  ·obtain rfl:i=c.aj.length:=by omega
   go_wp2_with fail
   exact bodyPost_end (v:= .tuple #[]) (by simp [results,results79,go_sem]) rfl ⟨rfl,hk,HX.o.trans X⟩
def St.uD (c:ai) (x:dX) (prev:List ByteArray) (i:Int) (s:St):St:=(((((s.at 5 i).name x.name prev).cS c 1 x.cS).mW c 2 x.imp 0 1048576).mW c 3 x.exp 0 1048576).mW c 4 x.aV (-1048576) 1048576
abbrev St.zf (c:ai) (s:St) (n:Nat):St:=St.upTo (St.uD c) dX.name c.aB s n
def St.aB (s:St) (c:ai):St:=St.zf c s c.aB.length
theorem N5 (w0 V:World) (K:Nat) (c:ai) (s:St) (hK:w0.heap.size≤K) (hV:Ext w0 V) (hc:a_ w0 c) (hn:c.aB.length≤1000000) (h:iN V K c s):
 Calls prog 83 #[.pointer (some ⟨K,0,none⟩)] V fun e' w'=>mq V K c (s.aB c) e' w':=by
 have hle:=hc.aB.le;have dQ:=hc.aB.cap
 rw [List.length_map]at hle;have IA:=ae (show∀args w,(callFunc 144 args).run prog w= .ok (.enter 144 args) w from enters_of func144 (by kernel_rfl) rfl);have HV:=ae hV;have f_:=ae hc;have df:=ae hK;have qx:=ae h.lt
 unfold St.aB;clear hc hV hK;go_enter func83,ntmps83
 go_upto_region 1 with fail
 generalize hW:World.alloc _ _=W;obtain ⟨B,hB,x0,A⟩:=bX hW;rw [←hB];have gQ:B≠K:=by have:=qx.o;omega
 have F:=fun Y (e:ar K W Y)=>(A.dC e gQ).cs;simp only [Cs,dX.cells,Nat.zero_add,Nat.add_zero,Nat.reduceAdd,and_true]at F;have HK:=ae (h.ext x0);have C:=eC HK.o;have X:=ar.refl K W;have HX:=ae (x0.but K);have HE:=ae (HV.o.trans x0)
 clear hW A x0 hB h HV;go_wp2_with fail
 clear C;go_loopw [10] (fun ii wr=> ∃i:Nat,i≤c.aB.length∧iN wr K c (St.zf c s i)∧ar K W wr∧ii= .int .i64 i) (fun ii _=>c.aB.length-(intOf ii).toNat)
 case atStart=>exact ⟨0,Nat.zero_le _,HK.o,X,rfl⟩
 case round=>
  clear X HK;obtain ⟨i,hi,hk,X,rfl⟩:=hrel;by_cases hlt:i<c.aB.length
  ·have hE:=X.ext HE.o df.o
   obtain ⟨b,o,ha,D⟩:=(f_.o.aB.ext hE).cs i hlt;have jf:=ae (f_.o.tie c.aB[i] (List.getElem_mem hlt));have sG:=ae (St.mB (St.uD c) dX.name c.aB s i hlt);obtain ⟨prev,hp,yb,wL⟩:=A5 dX.name c.aB i hlt;rw [←hp]at sG;have Ar:=ae wL;have HK:=ae hk
   generalize c.aB[i]=x at D jf sG;have jS:(0:Int)≤(i:Int):=by omega
   have jI:(i:Int)<(c.aB.length:Int):=by omega
   simp only [Cs,dX.cells,Nat.zero_add,Nat.add_zero,Nat.reduceAdd,and_true]at D;clear hp wL hk;rw [ha];go_upto_region 4 with fail
   generalize hW1:World.alloc _ _=W1;obtain ⟨E,nP,x1,A⟩:=bX hW1;rw [←nP];have mC:E≠K:=by have:=HK.o.lt;omega
   replace F:=fun Y (e:ar K W1 Y)=>And.intro (F Y ((X.trans (x1.but K)).trans e)) (A.dC e mC).cs;simp only [Cs,dX.cells,Nat.zero_add,Nat.add_zero,Nat.reduceAdd,and_true]at F;have eE:=ae (X.trans (x1.but K));have mr:=ae (hE.trans x1)
   replace X:=ar.refl K W1;replace HK:=ae (HK.o.ext x1);clear D A hW1 x1 nP hE ha;go_wp2_with ((first|(go_at_call 131;refine (AQ _ K c _ _ _ HK.o).mono ?_)|(go_at_call 135;refine (sB _ K c _ _ jf.o.1 prev 144 B (fun h=>by rw [yb.o];exact St.vq _ _ _ h) (by rw [yb.o];omega) IA.o (fun V' s' j hj pU EM=>by obtain ⟨hj',ej⟩:=Ar.o j hj;rw [ej];exact K9 w0 V' K B c s' j df.o (pU.ext (X.ext mr.o df.o) df.o) f_.o EM (F V' (X.trans pU)).1 hj') HK.o).mono ?_)|(go_at_call 138;refine (EK _ K c _ _ _ HK.o).mono ?_)|(go_at_call 133;refine (vd w0 _ K c _ _ _ _ _ _ _ df.o (X.ext mr.o df.o) (by first|exact jf.o.2.1|exact jf.o.2.2.1|exact jf.o.2.2.2.1) HK.o).mono ?_));rintro e w ⟨rfl,hk,hx⟩;replace X:=X.trans hx;replace HK:=ae hk;clear hx hk)
   exact ⟨⟨i+1,by omega,by rw [show St.zf c s (i+1)=_ from sG.o];exact HK.o,eE.o.trans X,by go_num⟩,by simp only [intOf];omega⟩
  ·obtain rfl:i=c.aB.length:=by omega
   go_wp2_with fail
   exact bodyPost_end (v:= .tuple #[]) (by simp [results,results83,go_sem]) rfl ⟨rfl,hk,HX.o.trans X⟩
def St.qK (c:ai) (x:aS) (prev:List ByteArray) (i:Int) (s:St):St:=((((((((((s.at 2 i).name x.name prev).cS c 1 x.cR).cS c 2 x.kq).need (x.kq !=x.cR) 2 1).need (eU x.rn x.rd&&decide (0<x.rn)) 3 3).need (eU x.qD x.uf&&decide (x.qD≤0)) 4 3).need (eU x.sk x.wI&&decide (0≤x.sk)) 5 3).within 6 x.cY 0 1048576).within 7 x.jH x.cY 1048576).away c 8 x.away
abbrev St.uE (c:ai) (s:St) (n:Nat):St:=St.upTo (St.qK c) aS.name c.lines s n
def St.lines (s:St) (c:ai):St:=St.uE c s c.lines.length
theorem Ld (w0 V:World) (K:Nat) (c:ai) (s:St) (hK:w0.heap.size≤K) (hV:Ext w0 V) (hc:a_ w0 c) (hn:c.lines.length≤1000000) (h:iN V K c s):
 Calls prog 80 #[.pointer (some ⟨K,0,none⟩)] V fun e' w'=>mq V K c (s.lines c) e' w':=by
 have hle:=hc.lines.le;have dQ:=hc.lines.cap
 rw [List.length_map]at hle;have IA:=ae (show∀args w,(callFunc 137 args).run prog w= .ok (.enter 137 args) w from enters_of func137 (by kernel_rfl) rfl);have HV:=ae hV;have f_:=ae hc;have df:=ae hK;have qx:=ae h.lt
 unfold St.lines;clear hc hV hK;go_enter func80,ntmps80
 go_upto_region 1 with fail
 generalize hW:World.alloc _ _=W;obtain ⟨B,hB,x0,A⟩:=bX hW;rw [←hB];have gQ:B≠K:=by have:=qx.o;omega
 have F:=fun Y (e:ar K W Y)=>(A.dC e gQ).cs;simp only [Cs,aS.cells,Nat.zero_add,Nat.add_zero,Nat.reduceAdd,and_true]at F;have HK:=ae (h.ext x0);have C:=eC HK.o;have X:=ar.refl K W;have HX:=ae (x0.but K);have HE:=ae (HV.o.trans x0)
 clear hW A x0 hB h HV;go_wp2_with fail
 clear C;go_loopw [10] (fun ii wr=> ∃i:Nat,i≤c.lines.length∧iN wr K c (St.uE c s i)∧ar K W wr∧ii= .int .i64 i) (fun ii _=>c.lines.length-(intOf ii).toNat)
 case atStart=>exact ⟨0,Nat.zero_le _,HK.o,X,rfl⟩
 case round=>
  clear X HK;obtain ⟨i,hi,hk,X,rfl⟩:=hrel;by_cases hlt:i<c.lines.length
  ·have hE:=X.ext HE.o df.o
   obtain ⟨b,o,ha,D⟩:=(f_.o.lines.ext hE).cs i hlt;have jf:=ae (f_.o.line c.lines[i] (List.getElem_mem hlt));have sG:=ae (St.mB (St.qK c) aS.name c.lines s i hlt);obtain ⟨prev,hp,yb,wL⟩:=A5 aS.name c.lines i hlt;rw [←hp]at sG;have Ar:=ae wL;have HK:=ae hk
   generalize c.lines[i]=x at D jf sG;have jS:(0:Int)≤(i:Int):=by omega
   have jI:(i:Int)<(c.lines.length:Int):=by omega
   simp only [Cs,aS.cells,Nat.zero_add,Nat.add_zero,Nat.reduceAdd,and_true]at D;clear hp wL hk;rw [ha];go_upto_region 4 with fail
   generalize hW1:World.alloc _ _=W1;obtain ⟨E,nP,x1,A⟩:=bX hW1;rw [←nP];have mC:E≠K:=by have:=HK.o.lt;omega
   replace F:=fun Y (e:ar K W1 Y)=>And.intro (F Y ((X.trans (x1.but K)).trans e)) (A.dC e mC).cs;simp only [Cs,aS.cells,Nat.zero_add,Nat.add_zero,Nat.reduceAdd,and_true]at F;have eE:=ae (X.trans (x1.but K));have mr:=ae (hE.trans x1)
   replace X:=ar.refl K W1;replace HK:=ae (HK.o.ext x1);clear D A hW1 x1 nP hE ha;go_wp2_with (first|((first|(go_at_call 131;refine (AQ _ K c _ _ _ HK.o).mono ?_)|(go_at_call 135;refine (sB _ K c _ _ jf.o.1 prev 137 B (fun h=>by rw [yb.o];exact St.vq _ _ _ h) (by rw [yb.o];omega) IA.o (fun V' s' j hj pU EM=>by obtain ⟨hj',ej⟩:=Ar.o j hj;rw [ej];exact Ip w0 V' K B c s' j df.o (pU.ext (X.ext mr.o df.o) df.o) f_.o EM (F V' (X.trans pU)).1 hj') HK.o).mono ?_)|(go_at_call 138;refine (EK _ K c _ _ _ HK.o).mono ?_)|(go_at_call 134;refine (eT _ K c _ _ _ _ HK.o).mono ?_)|(go_at_call 132;refine (iO _ K c _ _ _ _ _ HK.o).mono ?_)|(go_at_call 140;refine (Ii w0 _ K c _ _ _ _ _ df.o (X.ext mr.o df.o) jf.o.2.1 HK.o).mono ?_));rintro e w ⟨rfl,hk,hx⟩;replace X:=X.trans hx;replace HK:=ae hk;clear hx hk)|(refine wG (ar K W1) (X.trans ((Ext.refl _).drew.but K)) (fun av=> ?_);refine wV 0 av ?_;refine wV 1 av ?_;refine wV 2 av ?_;refine wR 3 (fun Kc hK=> ?_);go_simp;refine (AR _ _ _).mono ?_;rintro e z ⟨rfl,xz⟩;refine hK.o _ _ (av.trans (xz.but K)) (fun av=> ?_);clear hK Kc;replace HK:=ae (HK.o.ext ((Ext.refl _).drew.trans xz));clear xz;(try simp only [sS]);refine wV 4 av ?_;refine wB 5 av ?_;refine wB 6 av ?_;refine wB 7 av ?_;refine wB 8 av ?_;refine wP 9 av ?_;refine wR 10 (fun Kc hK=> ?_);go_simp;refine (eT _ K c _ _ _ _ HK.o).mono ?_;rintro e z ⟨rfl,hk,hx⟩;refine hK.o _ _ (av.trans hx) (fun av=> ?_);clear hK Kc;(try simp only [sS]);refine wD ?_;replace X:=av;replace HK:=ae hk;clear hk hx av))
   exact ⟨⟨i+1,by omega,by rw [show St.uE c s (i+1)=_ from sG.o];exact HK.o,eE.o.trans X,by go_num⟩,by simp only [intOf];omega⟩
  ·obtain rfl:i=c.lines.length:=by omega
   go_wp2_with fail
   exact bodyPost_end (v:= .tuple #[]) (by simp [results,results80,go_sem]) rfl ⟨rfl,hk,HX.o.trans X⟩
def St.whole (s:St) (c:ai):St:=((((((((s.at 0 0).within 0 c.hours 1 24).mW c 1 c.aA 0 1048576).need (decide ((1:Int)≤c.aj.length)&&decide ((c.aj.length:Int)≤32)) 2 8).need (decide ((c.lines.length:Int)≤64)) 3 8).need (decide ((c.aq.length:Int)≤16)) 4 8).need (decide ((c.stores.length:Int)≤8)) 5 8).need (decide ((c.aB.length:Int)≤8)) 6 8).need (decide ((c.outs.length:Int)≤64)) 7 8
theorem Le (w0 V:World) (K:Nat) (c:ai) (s:St) (hK:w0.heap.size≤K) (hV:Ext w0 V) (hc:a_ w0 c) (h:iN V K c s):
 Calls prog 78 #[.pointer (some ⟨K,0,none⟩)] V fun e' w'=>mq V K c (s.whole c) e' w':=by
 have b2:=hc.aj.le;have KG:=hc.aj.cap;have b3:=hc.lines.le;have b3':=hc.lines.cap;have b4:=hc.aq.le;have b4':=hc.aq.cap;have b5:=hc.stores.le;have b5':=hc.stores.cap;have b6:=hc.aB.le;have b6':=hc.aB.cap;have b7:=hc.outs.le;have b7':=hc.outs.cap
 rw [List.length_map]at b2 b3 b4 b5 b6 b7;have HR:=ae hc.aA;have HV:=ae hV;have df:=ae hK;have HK:=ae h
 have X:=ar.refl K V;have C:=eC HK.o
 clear hc hV hK h;rcases Bool.eq_false_or_eq_true (decide ((1:Int)≤c.aj.length))with d1|d1
 all_goals
  go_enter func78,ntmps78
  go_wp2_with ((first|(go_at_call 131;refine (AQ _ K c _ _ _ HK.o).mono ?_)|(go_at_call 132;refine (iO _ K c _ _ _ _ _ HK.o).mono ?_)|(go_at_call 134;refine (eT _ K c _ _ _ _ HK.o).mono ?_)|(go_at_call 133;refine (vd w0 _ K c _ _ _ _ _ _ _ df.o (X.ext HV.o df.o) HR.o HK.o).mono ?_));rintro e w ⟨rfl,hk,hx⟩;replace X:=X.trans hx;replace HK:=ae hk;replace C:=eC HK.o;clear hx hk)
  exact bodyPost_end (v:= .tuple #[]) (by simp [results,results78,go_sem]) rfl ⟨rfl,by simpa [St.whole,d1]using HK.o,X⟩
def St.oY (c:ai) (x:bG) (prev:List ByteArray) (i:Int) (s:St):St:=((((((((s.at 4 i).name x.name prev).cS c 1 x.cS).within 2 x.capacity 0 1048576).within 3 x.initial 0 x.capacity).within 4 x.final 0 x.capacity).within 5 x.fS 0 1048576).within 6 x.discharge 0 1048576).need (eU x.en x.ed&&decide (0<x.en)&&decide (x.en≤x.ed)) 7 3
abbrev St.qL (c:ai) (s:St) (n:Nat):St:=St.upTo (St.oY c) bG.name c.stores s n
def St.stores (s:St) (c:ai):St:=St.qL c s c.stores.length
theorem IB (w0 V:World) (K:Nat) (c:ai) (s:St) (hK:w0.heap.size≤K) (hV:Ext w0 V) (hc:a_ w0 c) (hn:c.stores.length≤1000000) (h:iN V K c s):
 Calls prog 82 #[.pointer (some ⟨K,0,none⟩)] V fun e' w'=>mq V K c (s.stores c) e' w':=by
 have hle:=hc.stores.le;have dQ:=hc.stores.cap
 rw [List.length_map]at hle;have IA:=ae (show∀args w,(callFunc 143 args).run prog w= .ok (.enter 143 args) w from enters_of func143 (by kernel_rfl) rfl);have HV:=ae hV;have f_:=ae hc;have df:=ae hK;have qx:=ae h.lt
 unfold St.stores;clear hc hV hK;go_enter func82,ntmps82
 go_upto_region 1 with fail
 generalize hW:World.alloc _ _=W;obtain ⟨B,hB,x0,A⟩:=bX hW;rw [←hB];have gQ:B≠K:=by have:=qx.o;omega
 have F:=fun Y (e:ar K W Y)=>(A.dC e gQ).cs;simp only [Cs,bG.cells,Nat.zero_add,Nat.add_zero,Nat.reduceAdd,and_true]at F;have HK:=ae (h.ext x0);have C:=eC HK.o;have X:=ar.refl K W;have HX:=ae (x0.but K);have HE:=ae (HV.o.trans x0)
 clear hW A x0 hB h HV;go_wp2_with fail
 clear C;go_loopw [11] (fun ii wr=> ∃i:Nat,i≤c.stores.length∧iN wr K c (St.qL c s i)∧ar K W wr∧ii= .int .i64 i) (fun ii _=>c.stores.length-(intOf ii).toNat)
 case atStart=>exact ⟨0,Nat.zero_le _,HK.o,X,rfl⟩
 case round=>
  clear X HK;obtain ⟨i,hi,hk,X,rfl⟩:=hrel;by_cases hlt:i<c.stores.length
  ·have hE:=X.ext HE.o df.o
   obtain ⟨b,o,ha,D⟩:=(f_.o.stores.ext hE).cs i hlt;have jf:=ae (f_.o.store c.stores[i] (List.getElem_mem hlt));have sG:=ae (St.mB (St.oY c) bG.name c.stores s i hlt);obtain ⟨prev,hp,yb,wL⟩:=A5 bG.name c.stores i hlt;rw [←hp]at sG;have Ar:=ae wL;have HK:=ae hk
   generalize c.stores[i]=x at D jf sG;have jS:(0:Int)≤(i:Int):=by omega
   have jI:(i:Int)<(c.stores.length:Int):=by omega
   simp only [Cs,bG.cells,Nat.zero_add,Nat.add_zero,Nat.reduceAdd,and_true]at D;clear hp wL hk;rw [ha];go_upto_region 4 with fail
   generalize hW1:World.alloc _ _=W1;obtain ⟨E,nP,x1,A⟩:=bX hW1;rw [←nP];have mC:E≠K:=by have:=HK.o.lt;omega
   replace F:=fun Y (e:ar K W1 Y)=>And.intro (F Y ((X.trans (x1.but K)).trans e)) (A.dC e mC).cs;simp only [Cs,bG.cells,Nat.zero_add,Nat.add_zero,Nat.reduceAdd,and_true]at F;have eE:=ae (X.trans (x1.but K));have mr:=ae (hE.trans x1)
   replace X:=ar.refl K W1;replace HK:=ae (HK.o.ext x1);clear D A hW1 x1 nP hE ha;go_wp2_with (first|((first|(go_at_call 131;refine (AQ _ K c _ _ _ HK.o).mono ?_)|(go_at_call 135;refine (sB _ K c _ _ jf.o.1 prev 143 B (fun h=>by rw [yb.o];exact St.vq _ _ _ h) (by rw [yb.o];omega) IA.o (fun V' s' j hj pU EM=>by obtain ⟨hj',ej⟩:=Ar.o j hj;rw [ej];exact Gc w0 V' K B c s' j df.o (pU.ext (X.ext mr.o df.o) df.o) f_.o EM (F V' (X.trans pU)).1 hj') HK.o).mono ?_)|(go_at_call 138;refine (EK _ K c _ _ _ HK.o).mono ?_)|(go_at_call 132;refine (iO _ K c _ _ _ _ _ HK.o).mono ?_));rintro e w ⟨rfl,hk,hx⟩;replace X:=X.trans hx;replace HK:=ae hk;clear hx hk)|(generalize hWf:World.alloc _ _=Wf;obtain ⟨G,hG,xf,Af⟩:=bX hWf;rw [←hG];have Wk:G≠K:=(by have:=HK.o.lt;omega);have F2:=fun Y (e:ar K Wf Y)=>And.intro (F Y (X.trans ((xf.but K).trans e))) (Af.dC e Wk).cs;simp only [Cs,Nat.zero_add,Nat.add_zero,Nat.reduceAdd,and_true]at F2;replace HK:=ae (HK.o.ext xf);replace X:=X.trans (xf.but K);clear hWf Af hG xf;refine wG (ar K Wf) ((Ext.refl _).drew.but K) (fun av=> ?_);refine wV 0 av ?_;refine wV 1 av ?_;refine wR 2 (fun Kc hK=> ?_);go_simp;refine (AR _ _ _).mono ?_;rintro e z ⟨rfl,xz⟩;refine hK.o _ _ (av.trans (xz.but K)) (fun av=> ?_);clear hK Kc;replace HK:=ae (HK.o.ext ((Ext.refl _).drew.trans xz));clear xz;(try simp only [sS]);refine wV 3 av ?_;refine wB 4 av ?_;refine wB 5 av ?_;refine wB 6 av ?_;refine wP 7 av ?_;refine wV 8 av ?_;refine wB 9 av ?_;refine wB 10 av ?_;refine wB 11 av ?_;refine wB 12 av ?_;refine wB 13 av ?_;refine wP 14 av ?_;refine wR 15 (fun Kc hK=> ?_);go_simp;refine (eT _ K c _ _ _ _ HK.o).mono ?_;rintro e z ⟨rfl,hk,hx⟩;refine hK.o _ _ (av.trans hx) (fun av=> ?_);clear hK Kc;(try simp only [sS]);refine wD ?_;replace X:=X.trans av;replace HK:=ae hk;clear hk hx av F2))
   exact ⟨⟨i+1,by omega,by rw [show St.qL c s (i+1)=_ from sG.o];exact HK.o,eE.o.trans X,by go_num⟩,by simp only [intOf];omega⟩
  ·obtain rfl:i=c.stores.length:=by omega
   go_wp2_with fail
   exact bodyPost_end (v:= .tuple #[]) (by simp [results,results82,go_sem]) rfl ⟨rfl,hk,HX.o.trans X⟩
def St.nQ (s:St) (l:List dH):St:=l.foldl (fun s g=>(s.within 4 g.width 1 1048576).within 4 g.aV (-1048576) 1048576) s
def De (l:List dH) (j:Nat):Int:=(l[j]?.map dH.aV).getD 0
def St.kf (s:St) (l:List dH) (n:Nat):St:=(List.range n).foldl (fun s j=>if j=0 then s else s.need (decide (De l (j-1)≤De l j)) 4 11) s
def cE (l:List dH):Int:=(l.map dH.width).sum
def St.segments (s:St) (x:aK):St:=
 if(s.need (decide ((x.aU.length:Int)≤8)) 4 8).err≠0 then s.need (decide ((x.aU.length:Int)≤8)) 4 8
 else(((s.need (decide ((x.aU.length:Int)≤8)) 4 8).nQ x.aU).kf x.aU x.aU.length).need (decide (cE x.aU=IntKind.i64.wrap (x.max-x.min))) 4 4
theorem zg {l:List dH} {j:Nat} (h:j<l.length):De l j=l[j].aV:=by unfold De;rw [List.getElem?_eq_getElem h];rfl
theorem St.Df (s:St) (l:List dH) (i:Nat) (h:i<l.length):s.nQ (l.take (i+1))=((s.nQ (l.take i)).within 4 l[i].width 1 1048576).within 4 l[i].aV (-1048576) 1048576:=by
 unfold St.nQ;rw [List.take_succ_eq_append_getElem h,List.foldl_append];rfl
theorem ot (l:List dH) (i:Nat) (h:i<l.length):cE (l.take (i+1))=cE (l.take i)+l[i].width:=by
 unfold cE;rw [List.take_succ_eq_append_getElem h,List.map_append,List.sum_append];simp
theorem St.Dg (s:St) (l:List dH) (p:Nat):s.kf l (p+1+1)=(s.kf l (p+1)).need (decide (De l p≤De l (p+1))) 4 11:=by
 unfold St.kf;rw [List.range_succ,List.foldl_append,List.foldl_cons,List.foldl_nil,if_neg (by omega)];rfl
theorem St.Gd (s:St) (l:List dH) (i:Nat) (h1:1≤i) (h:l.length≤i) (h2:i≤l.length∨i=1):s.kf l i=s.kf l l.length:=by
 rcases h2 with h2|rfl
 ·rw [Nat.le_antisymm h2 h]
 ·have:l.length=0∨l.length=1:=by omega
  rcases this with e|e<;>rw [e]<;>rfl
theorem St.zh {s:St} {ok:Bool} {f e:Int} (he:e≠0) (h:(s.need ok f e).err=0):s.err=0∧ok=true:=by
 have h0:=St.x_ h;refine ⟨h0,?_⟩;cases ok with
 |true=>rfl
 |false=>unfold St.need at h;rw [if_pos ⟨h0,rfl⟩]at h;exact absurd h he
theorem St.yf {s:St} {f n a b:Int} (h:(s.within f n a b).err=0):s.err=0∧a≤n∧n≤b:=by
 obtain ⟨h1,h2⟩:=St.zh (by decide) h;rw [Bool.and_eq_true,decide_eq_true_eq,decide_eq_true_eq]at h2;exact ⟨h1,h2⟩
theorem Dh (z:Int):bB (IntKind.i64.wrap z):=by unfold bB;rw [IntKind.wrap_i64];omega
theorem N6 (w0 V:World) (K:Nat) (c:ai) (s:St) (x:aK) (hK:w0.heap.size≤K) (hV:Ext w0 V) (hs:bH w0 2 x.sa x.sc (x.aU.map dH.cells)) (N7: ∀g∈x.aU,eI [g.width,g.aV]) (h:iN V K c s):
 Calls prog 142 #[.pointer (some ⟨K,0,none⟩),.agg x.cells.toArray] V fun e' w'=>mq V K c (s.segments x) e' w':=by
 have hle:=hs.le;have dQ:=hs.cap
 rw [List.length_map]at hle;have HV:=ae hV;have HS:=ae hs;have Wl:=ae N7;have df:=ae hK;have qx:=ae h.lt;have HK:=ae h
 unfold St.segments;generalize hs1:s.need (decide ((x.aU.length:Int)≤8)) 4 8=s1;generalize hM:IntKind.i64.wrap (x.max-x.min)=M;generalize P_:(if s1.err≠0 then s1 else((s1.nQ x.aU).kf x.aU x.aU.length).need (decide (cE x.aU=M)) 4 4)=sf;have zi:=ae hs1;have IC:=ae P_
 have HL8:Hid (s1.err=0→x.aU.length≤8):=fun h0=>by
  rw [←zi.o]at h0;have:=(St.zh (by decide) h0).2;rw [decide_eq_true_eq]at this;omega
 clear hs hV N7 h hs1 P_ hK;go_enter func142,ntmps142
 go_upto_region 1 with fail
 generalize hW:World.alloc _ _=W;obtain ⟨B,hB,x0,A⟩:=bX hW;rw [←hB];have gQ:B≠K:=by have:=qx.o;omega
 have F:=fun Y (e:ar K W Y)=>(A.dC e gQ).cs;simp only [Cs,aK.cells,Nat.zero_add,Nat.add_zero,Nat.reduceAdd,and_true]at F;have X:=ar.refl K W;have HX:=ae (x0.but K);have HE:=ae (HV.o.trans x0)
 replace HK:=ae (HK.o.ext x0);clear hW hB x0 A;go_upto_region 2 with(go_at_call 134;refine (eT _ K c _ _ _ _ HK.o).mono ?_;rintro e w ⟨rfl,hk,hx⟩;rw [zi.o]at hk;replace X:=X.trans hx;replace HK:=ae hk;clear hk hx)
 obtain ⟨-,-,-,Ra,-⟩:=oh HK.o;by_cases h0:s1.err=0
 rotate_left
 ·have t1:(s1.err !=0)=true:=by simpa using h0
  have hf:=IC.o;rw [if_pos h0]at hf;have HF:=ae hf;clear h0 hf;go_wp2_with fail
  exact bodyPost_ret (v:= .tuple #[]) (by simp [results,results142,go_sem]) rfl ⟨rfl,HF.o▸HK.o,HX.o.trans X⟩
 have t1:(s1.err !=0)=false:=by simpa using h0
 have h8:=HL8.o h0;have UM:=ae h0;clear h0;go_wp2_with fail
 clear Ra t1;go_loopw [4,22] (fun vs ii wr=> ∃(i:Nat) (t:Int),i≤x.aU.length∧iN wr K c (s1.nQ (x.aU.take i))∧ar K W wr∧bB t∧((s1.nQ (x.aU.take i)).err=0→t=cE (x.aU.take i)∧0≤t∧t≤i*1048576)∧vs= .int .i64 t∧ii= .int .i64 i) (fun _ ii _=>x.aU.length-(intOf ii).toNat)
 case atStart=>exact ⟨0,0,Nat.zero_le _,HK.o,X,by unfold bB;omega,fun _=>⟨rfl,by omega,by omega⟩,rfl,rfl⟩
 case round=>
  clear HK X;obtain ⟨i,t,hi,hk,X,adk,Di,rfl,rfl⟩:=hrel;by_cases hlt:i<x.aU.length
  ·obtain ⟨b,o,ha,D⟩:=(HS.o.ext (X.ext HE.o df.o)).cs i hlt
   have zj:=ae (St.Df s1 x.aU i hlt);have p7:=ae (ot x.aU i hlt)
   have Hy:=Wl.o x.aU[i] (List.getElem_mem hlt);generalize s1.nQ (x.aU.take i)=s2 at*;generalize cE (x.aU.take i)=σ at*;generalize x.aU[i]=g at D zj p7 Hy;simp only [Cs,dH.cells,Nat.zero_add,Nat.add_zero,Nat.reduceAdd,and_true]at D;have HK:=ae hk;have Wm:=ae Di
   have jS:(0:Int)≤(i:Int):=by omega
   have jI:(i:Int)<(x.aU.length:Int):=by omega
   clear hk Di;rw [ha];go_upto_region 7 with fail
   generalize hW1:World.alloc _ _=W1;obtain ⟨E,hE,x1,A⟩:=bX hW1;rw [←hE];have mC:E≠K:=by have:=HK.o.lt;omega
   have G:=fun Y (e:ar K W1 Y)=>(A.dC e mC).cs;simp only [Cs,dH.cells,Nat.zero_add,Nat.add_zero,Nat.reduceAdd,and_true]at G;have eE:=ae (X.trans (x1.but K));replace X:=ar.refl K W1;replace HK:=ae (HK.o.ext x1)
   clear D A hW1 x1 hE ha;obtain ⟨t',ht'⟩: ∃t',IntKind.i64.wrap (t+g.width)=t':=⟨_,rfl⟩;have H64:Hid (bB t'):=ht'▸Dh _
   have Wn:Hid (((s2.within 4 g.width 1 1048576).within 4 g.aV (-1048576) 1048576).err=0→t'=σ+g.width∧0≤t'∧t'≤((i+1:Nat):Int)*1048576):=fun he=>by
    obtain ⟨CI,-,-⟩:=St.yf he;obtain ⟨Ge,ha1,ha2⟩:=St.yf CI;obtain ⟨hb1,hb2,hb3⟩:=Wm.o Ge;have:t'=t+g.width:=by rw [←ht',IntKind.wrap_i64];omega
    omega
   clear Hy;go_wp2_with (go_at_call 132;refine (iO _ K c _ _ _ _ _ HK.o).mono ?_;rintro e w ⟨rfl,hk,hx⟩;replace X:=X.trans hx;replace HK:=ae hk;clear hk hx)
   exact ⟨⟨i+1,t',by omega,by rw [zj.o];exact HK.o,eE.o.trans X,H64.o,by rw [zj.o,p7.o];exact Wn.o,rfl,by go_num⟩,by simp only [intOf];omega⟩
  ·obtain rfl:i=x.aU.length:=by omega
   rw [List.take_length]at hk Di;have N8:iN wr K c ((s1.nQ x.aU).kf x.aU 1):=hk;generalize hs2:s1.nQ x.aU=s2 at Di N8;have Aw:=ae hs2;have Wm:=ae Di;have Rb:=ae N8
   clear hk Di N8 hs2;go_wp2_with fail
   go_loopw [7] (fun ii wl=> ∃i:Nat,1≤i∧(i≤x.aU.length∨i=1)∧iN wl K c (s2.kf x.aU i)∧ar K W wl∧ii= .int .i64 i) (fun ii _=>x.aU.length-(intOf ii).toNat)
   case atStart=>exact ⟨1,Nat.le_refl _,Or.inr rfl,Rb.o,X,rfl⟩
   case round=>
    clear X Rb;obtain ⟨i,h1,hi,hk,X,rfl⟩:=hrel;by_cases hlt:i<x.aU.length
    ·obtain ⟨p,rfl⟩: ∃p,i=p+1:=⟨i-1,by omega⟩
     obtain ⟨b,o,ha,-⟩:=HS.o.cs p (by omega);have Dj:Hid (bH w0 2 (some ⟨b,o,none⟩) x.sc (x.aU.map dH.cells)):=ha▸HS.o;have G:=fun Y (e:ar K W Y)=>And.intro ((Dj.o.ext (e.ext HE.o df.o)).cs' (p+1) hlt) ((Dj.o.ext (e.ext HE.o df.o)).cs' p (by omega));have e1:=(zg hlt).symm;have e0:=(zg (show p<x.aU.length by omega)).symm;simp only [Cs,dH.cells,Nat.zero_add,Nat.add_zero,Nat.reduceAdd,and_true,e0,e1]at G;clear e0 e1;have Q8:=ae (St.Dg s2 x.aU p);have HK:=ae hk
     have hw:IntKind.i64.wrap (((p+1:Nat):Int)-1)=(p:Int):=by rw [IntKind.wrap_i64];omega
     have hw2:IntKind.i64.wrap (p:Int)=(p:Int):=by rw [IntKind.wrap_i64];omega
     have jS:(0:Int)≤((p+1:Nat):Int):=by omega
     have jI:((p+1:Nat):Int)<(x.aU.length:Int):=by omega
     have NZ:(0:Int)≤(p:Int):=by omega
     have N1:(p:Int)<(x.aU.length:Int):=by omega
     have CY:(0:Int)≤(p:Int)+1:=by omega
     have CZ:(p:Int)+1<(x.aU.length:Int):=by omega
     have We: ¬((p:Int)+1<0):=by omega
     clear hk;go_wp2_with (refine wG (ar K W) (X.trans ((Ext.refl _).drew.but K)) (fun av=> ?_);refine wV 0 av ?_;refine wV 1 av ?_;refine wV 2 av ?_;refine wV 3 av ?_;refine wV 4 av ?_;refine wV 5 av ?_;refine wV 6 av ?_;refine wV 7 av ?_;refine wV 8 av ?_;refine wV 9 av ?_;refine wV 10 av ?_;refine wV 11 av ?_;refine wV 12 av ?_;refine wV 13 av ?_;refine wV 14 av ?_;refine wR 15 (fun Kc hK=> ?_);go_simp;refine (eT _ K c _ _ _ _ (HK.o.ext (Ext.refl _).drew)).mono ?_;rintro e w ⟨rfl,hk,hx⟩;refine hK.o _ _ (av.trans hx) (fun av=> ?_);clear hK Kc;(try simp only [sS]);refine wD ?_;replace X:=av;replace HK:=ae hk;clear hk hx av)
     exact ⟨⟨p+1+1,by omega,Or.inl (by omega),by rw [Q8.o];exact HK.o,by go_num⟩,by simp only [intOf];omega⟩
    ·have hmx:=St.Gd s2 x.aU i h1 (by omega) hi
     rw [hmx]at hk;obtain ⟨s3,hs3⟩: ∃s3,s2.kf x.aU x.aU.length=s3:=⟨_,rfl⟩
     have hz:s3.err=0→s2.err=0:=fun he=>by
      rw [←hs3]at he;apply Classical.byContradiction;intro hne
      have key: ∀n,s2.kf x.aU n=s2:=by
       intro n;induction n with
       |zero=>rfl
       |succ n ih=>
        have e1:s2.kf x.aU (n+1)=(if n=0 then s2.kf x.aU n else(s2.kf x.aU n).need (decide (De x.aU (n-1)≤De x.aU n)) 4 11):=by
             unfold St.kf;rw [List.range_succ,List.foldl_append,List.foldl_cons,List.foldl_nil]
        rw [e1,ih];split
        ·rfl
        ·exact St.ik _ _ _ _ hne
      rw [key]at he;exact hne he
     rw [hs3]at hk
     have pA:s3.need (t==M) 4 4=s3.need (decide (cE x.aU=M)) 4 4:=by
      by_cases he:s3.err=0
      ·obtain ⟨e1,-,-⟩:=Wm.o (hz he)
       rw [←e1];have hb:(t==M)=decide (t=M):=by rw [Bool.eq_iff_iff];simp
       rw [hb]
      ·rw [St.ik _ _ _ _ he,St.ik _ _ _ _ he]
     have hend:s3.need (t==M) 4 4=sf:=by
      have h9:=IC.o;rw [if_neg (fun hne=>hne UM.o),Aw.o,hs3]at h9;rw [pA,h9]
     have Hx:=ae hend;have HK:=ae hk
     clear hk hmx hz pA hs3 hend;go_wp2_with (go_at_call 134;refine (eT _ K c s3 (t==M) _ _ HK.o).mono ?_;rintro e w ⟨rfl,hk,hx⟩;rw [Hx.o]at hk;replace X:=X.trans hx;replace HK:=ae hk;clear hk hx)
     exact bodyPost_end (v:= .tuple #[]) (by simp [results,results142,go_sem]) rfl ⟨rfl,HK.o,HX.o.trans X⟩
end Go.Proofs.YtkpngkdgphojlaaGreat
