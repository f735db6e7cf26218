/- Texts of the proof. -/
import Derived.Shelf.Abstract
import Derived.Test.YtbnamicbjaaelaaGreatCg10
import Derived.Test.YtbnamicbjaaelaaGreatCg11
set_option linter.all false
set_option maxHeartbeats 2000000
set_option maxRecDepth 100000
namespace Go.Proofs.YtbnamicbjaaelaaGreat
open Go.Proofs.Tryz
open Go.RowKit
def St.r_ (c:ay) (x:dK) (prev:List ByteArray) (i:Int) (s:St):St:=(((s.at 1 i).name x.name prev).nw c 1 x.cV 0 1048576).within 2 x.jF 0 1048576
abbrev St.wh (c:ay) (s:St) (n:Nat):St:=St.upTo (St.r_ c) dK.name c.aF s n
def St.aF (s:St) (c:ay):St:=St.wh c s c.aF.length
theorem Om (w0 V:World) (K:Nat) (c:ay) (s:St) (hK:w0.heap.size<=K) (hV:Ext w0 V) (hc:bm w0 c) (hn:c.aF.length<=1000000) (h:iW V K c s):
 Calls prog 68 #[.pointer (some ⟨K,0,none⟩)] V λe' w'=>mI V K c (s.aF c) e' w':=by
 have hle:=hc.aF.le;have dS:=hc.aF.cap
 rw [List.length_map]at hle;have I8:=ah (show∀args w,(callFunc 116 args).run prog w= .ok (.enter 116 args) w from enters_of func116 ax rfl);have HV:=ah hV;have eT:=ah hc;have dN:=ah hK;have t_:=ah h.lt
 unfold St.aF;clear hc hV hK;go_enter func68,ntmps68
 go_upto_region 1 with fail
 generalize hW:World.alloc _ _=W;obtain ⟨B,hB,x0,A⟩:=bV hW;rw [<-hB];have gZ:B≠K:=bA t_.o;have F:=λY (e:aB K W Y)=>(A.eH e gZ).cs;simp only [Cs,dK.cells,Nat.zero_add,Nat.add_zero,Nat.reduceAdd,and_true]at F;have HK:=ah (h.ext x0);have C:=eM HK.o;have X:=aB.refl K W;have HX:=ah (x0.but K);have HE:=ah (HV.o.trans x0)
 clear hW A x0 hB h HV;go_wp2_with fail
 clear C;go_loopw [10] (λii wr=> ∃i:Nat,i<=c.aF.length/\iW wr K c (St.wh c s i)/\aB K W wr/\ii= .int .i64 i) (λii _=>c.aF.length-(intOf ii).toNat)
 case atStart=>exact ⟨0,aZ,HK.o,X,rfl⟩
 case round=>
  clear X HK;obtain ⟨i,hi,hk,X,rfl⟩:=hrel;by_cases hlt:i<c.aF.length
  .have hE:=X.ext HE.o dN.o
   obtain ⟨b,o,ha,D⟩:=(eT.o.aF.ext hE).cs i hlt;have jq:=ah (eT.o.fE c.aF[i] (List.getElem_mem hlt));have se:=ah (St.mM (St.r_ c) dK.name c.aF s i hlt);obtain ⟨prev,hp,v_,yv⟩:=Dp dK.name c.aF i hlt;rw [<-hp]at se;have Cl:=ah yv;have HK:=ah hk
   generalize c.aF[i]=x at D jq se;have iM:(0:Int)<=(i:Int):=ae;have iK:(i:Int)<(c.aF.length:Int):=ae;simp only [Cs,dK.cells,Nat.zero_add,Nat.add_zero,Nat.reduceAdd,and_true]at D;clear hp yv hk;rw [ha];go_upto_region 4 with fail
   generalize hW1:World.alloc _ _=W1;obtain ⟨E,mO,x1,A⟩:=bV hW1;rw [<-mO];have mN:E≠K:=bA HK.o.lt;replace F:=λY (e:aB K W1 Y)=>And.intro (F Y ((X.trans (x1.but K)).trans e)) (A.eH e mN).cs;simp only [Cs,dK.cells,Nat.zero_add,Nat.add_zero,Nat.reduceAdd,and_true]at F;have eC:=ah (X.trans (x1.but K));have jB:=ah (hE.trans x1)
   replace X:=aB.refl K W1;replace HK:=ah (HK.o.ext x1);clear D A hW1 x1 mO hE ha;go_wp2_with ((first|(go_at_call 111;refine (Dh _ K c _ _ _ HK.o).mono ?_)|(go_at_call 115;refine (tX _ K c _ _ jq.o.1 prev 116 B (λh=>by rw [v_.o];exact St.xt _ _ _ h) (by rw [v_.o];omega) I8.o (λV' s' j hj nY LC=>by obtain ⟨hj',ej⟩:=Cl.o j hj;rw [ej];exact Lr w0 V' K B c s' j dN.o (nY.ext (X.ext jB.o dN.o) dN.o) eT.o LC (F V' (X.trans nY)).1 hj') HK.o).mono ?_)|(go_at_call 113;refine (xm w0 _ K c _ _ _ _ _ _ _ dN.o (X.ext jB.o dN.o) jq.o.2.1 HK.o).mono ?_)|(go_at_call 112;refine (iX _ K c _ _ _ _ _ HK.o).mono ?_));rintro e w ⟨rfl,hk,hx⟩;replace X:=X.trans hx;replace HK:=ah hk;clear hx hk)
   exact ⟨⟨i+1,ae,by rw [show St.wh c s (i+1)=_ from se.o];exact HK.o,eC.o.trans X,bf⟩,a_⟩
  .obtain rfl:i=c.aF.length:=ae
   go_wp2
   exact bodyPost_end (v:= .tuple #[]) ax rfl ⟨rfl,hk,HX.o.trans X⟩
def St.wj (c:ay) (x:fp) (prev:List ByteArray) (i:Int) (s:St):St:=(((((s.at 5 i).name x.name prev).fE c 1 x.fE).nw c 2 x.imp 0 1048576).nw c 3 x.exp 0 1048576).nw c 4 x.bE (-1048576) 1048576
abbrev St.Bv (c:ay) (s:St) (n:Nat):St:=St.upTo (St.wj c) fp.name c.bh s n
def St.bh (s:St) (c:ay):St:=St.Bv c s c.bh.length
theorem Rz (w0 V:World) (K:Nat) (c:ay) (s:St) (hK:w0.heap.size<=K) (hV:Ext w0 V) (hc:bm w0 c) (hn:c.bh.length<=1000000) (h:iW V K c s):
 Calls prog 72 #[.pointer (some ⟨K,0,none⟩)] V λe' w'=>mI V K c (s.bh c) e' w':=by
 have hle:=hc.bh.le;have dS:=hc.bh.cap
 rw [List.length_map]at hle;have I8:=ah (show∀args w,(callFunc 124 args).run prog w= .ok (.enter 124 args) w from enters_of func124 ax rfl);have HV:=ah hV;have eT:=ah hc;have dN:=ah hK;have t_:=ah h.lt
 unfold St.bh;clear hc hV hK;go_enter func72,ntmps72
 go_upto_region 1 with fail
 generalize hW:World.alloc _ _=W;obtain ⟨B,hB,x0,A⟩:=bV hW;rw [<-hB];have gZ:B≠K:=bA t_.o;have F:=λY (e:aB K W Y)=>(A.eH e gZ).cs;simp only [Cs,fp.cells,Nat.zero_add,Nat.add_zero,Nat.reduceAdd,and_true]at F;have HK:=ah (h.ext x0);have C:=eM HK.o;have X:=aB.refl K W;have HX:=ah (x0.but K);have HE:=ah (HV.o.trans x0)
 clear hW A x0 hB h HV;go_wp2_with fail
 clear C;go_loopw [10] (λii wr=> ∃i:Nat,i<=c.bh.length/\iW wr K c (St.Bv c s i)/\aB K W wr/\ii= .int .i64 i) (λii _=>c.bh.length-(intOf ii).toNat)
 case atStart=>exact ⟨0,aZ,HK.o,X,rfl⟩
 case round=>
  clear X HK;obtain ⟨i,hi,hk,X,rfl⟩:=hrel;by_cases hlt:i<c.bh.length
  .have hE:=X.ext HE.o dN.o
   obtain ⟨b,o,ha,D⟩:=(eT.o.bh.ext hE).cs i hlt;have jq:=ah (eT.o.tie c.bh[i] (List.getElem_mem hlt));have se:=ah (St.mM (St.wj c) fp.name c.bh s i hlt);obtain ⟨prev,hp,v_,yv⟩:=Dp fp.name c.bh i hlt;rw [<-hp]at se;have Cl:=ah yv;have HK:=ah hk
   generalize c.bh[i]=x at D jq se;have iM:(0:Int)<=(i:Int):=ae;have iK:(i:Int)<(c.bh.length:Int):=ae;simp only [Cs,fp.cells,Nat.zero_add,Nat.add_zero,Nat.reduceAdd,and_true]at D;clear hp yv hk;rw [ha];go_upto_region 4 with fail
   generalize hW1:World.alloc _ _=W1;obtain ⟨E,mO,x1,A⟩:=bV hW1;rw [<-mO];have mN:E≠K:=bA HK.o.lt;replace F:=λY (e:aB K W1 Y)=>And.intro (F Y ((X.trans (x1.but K)).trans e)) (A.eH e mN).cs;simp only [Cs,fp.cells,Nat.zero_add,Nat.add_zero,Nat.reduceAdd,and_true]at F;have eC:=ah (X.trans (x1.but K));have jB:=ah (hE.trans x1)
   replace X:=aB.refl K W1;replace HK:=ah (HK.o.ext x1);clear D A hW1 x1 mO hE ha;go_wp2_with ((first|(go_at_call 111;refine (Dh _ K c _ _ _ HK.o).mono ?_)|(go_at_call 115;refine (tX _ K c _ _ jq.o.1 prev 124 B (λh=>by rw [v_.o];exact St.xt _ _ _ h) (by rw [v_.o];omega) I8.o (λV' s' j hj nY LC=>by obtain ⟨hj',ej⟩:=Cl.o j hj;rw [ej];exact Od w0 V' K B c s' j dN.o (nY.ext (X.ext jB.o dN.o) dN.o) eT.o LC (F V' (X.trans nY)).1 hj') HK.o).mono ?_)|(go_at_call 118;refine (G_ _ K c _ _ _ HK.o).mono ?_)|(go_at_call 113;refine (xm w0 _ K c _ _ _ _ _ _ _ dN.o (X.ext jB.o dN.o) (by first|exact jq.o.2.1|exact jq.o.2.2.1|exact jq.o.2.2.2.1) HK.o).mono ?_));rintro e w ⟨rfl,hk,hx⟩;replace X:=X.trans hx;replace HK:=ah hk;clear hx hk)
   exact ⟨⟨i+1,ae,by rw [show St.Bv c s (i+1)=_ from se.o];exact HK.o,eC.o.trans X,bf⟩,a_⟩
  .obtain rfl:i=c.bh.length:=ae
   go_wp2
   exact bodyPost_end (v:= .tuple #[]) ax rfl ⟨rfl,hk,HX.o.trans X⟩
def St.sk (c:ay) (x:bn) (prev:List ByteArray) (i:Int) (s:St):St:=((((((((((s.at 2 i).name x.name prev).fE c 1 x.dL).fE c 2 x.ld).need (x.ld !=x.dL) 2 1).need (fI x.rn x.rd&&decide (0<x.rn)) 3 3).need (fI x.uH x.yt&&decide (x.uH<=0)) 4 3).need (fI x.vw x.Bn&&decide (0<=x.vw)) 5 3).within 6 x.dO 0 1048576).within 7 x.kK x.dO 1048576).away c 8 x.away
abbrev St.wk (c:ay) (s:St) (n:Nat):St:=St.upTo (St.sk c) bn.name c.lines s n
def St.lines (s:St) (c:ay):St:=St.wk c s c.lines.length
theorem Oo (w0 V:World) (K:Nat) (c:ay) (s:St) (hK:w0.heap.size<=K) (hV:Ext w0 V) (hc:bm w0 c) (hn:c.lines.length<=1000000) (h:iW V K c s):
 Calls prog 69 #[.pointer (some ⟨K,0,none⟩)] V λe' w'=>mI V K c (s.lines c) e' w':=by
 have hle:=hc.lines.le;have dS:=hc.lines.cap
 rw [List.length_map]at hle;have I8:=ah (show∀args w,(callFunc 117 args).run prog w= .ok (.enter 117 args) w from enters_of func117 ax rfl);have HV:=ah hV;have eT:=ah hc;have dN:=ah hK;have t_:=ah h.lt
 unfold St.lines;clear hc hV hK;go_enter func69,ntmps69
 go_upto_region 1 with fail
 generalize hW:World.alloc _ _=W;obtain ⟨B,hB,x0,A⟩:=bV hW;rw [<-hB];have gZ:B≠K:=bA t_.o;have F:=λY (e:aB K W Y)=>(A.eH e gZ).cs;simp only [Cs,bn.cells,Nat.zero_add,Nat.add_zero,Nat.reduceAdd,and_true]at F;have HK:=ah (h.ext x0);have C:=eM HK.o;have X:=aB.refl K W;have HX:=ah (x0.but K);have HE:=ah (HV.o.trans x0)
 clear hW A x0 hB h HV;go_wp2_with fail
 clear C;go_loopw [10] (λii wr=> ∃i:Nat,i<=c.lines.length/\iW wr K c (St.wk c s i)/\aB K W wr/\ii= .int .i64 i) (λii _=>c.lines.length-(intOf ii).toNat)
 case atStart=>exact ⟨0,aZ,HK.o,X,rfl⟩
 case round=>
  clear X HK;obtain ⟨i,hi,hk,X,rfl⟩:=hrel;by_cases hlt:i<c.lines.length
  .have hE:=X.ext HE.o dN.o
   obtain ⟨b,o,ha,D⟩:=(eT.o.lines.ext hE).cs i hlt;have jq:=ah (eT.o.line c.lines[i] (List.getElem_mem hlt));have se:=ah (St.mM (St.sk c) bn.name c.lines s i hlt);obtain ⟨prev,hp,v_,yv⟩:=Dp bn.name c.lines i hlt;rw [<-hp]at se;have Cl:=ah yv;have HK:=ah hk
   generalize c.lines[i]=x at D jq se;have iM:(0:Int)<=(i:Int):=ae;have iK:(i:Int)<(c.lines.length:Int):=ae;simp only [Cs,bn.cells,Nat.zero_add,Nat.add_zero,Nat.reduceAdd,and_true]at D;clear hp yv hk;rw [ha];go_upto_region 4 with fail
   generalize hW1:World.alloc _ _=W1;obtain ⟨E,mO,x1,A⟩:=bV hW1;rw [<-mO];have mN:E≠K:=bA HK.o.lt;replace F:=λY (e:aB K W1 Y)=>And.intro (F Y ((X.trans (x1.but K)).trans e)) (A.eH e mN).cs;simp only [Cs,bn.cells,Nat.zero_add,Nat.add_zero,Nat.reduceAdd,and_true]at F;have eC:=ah (X.trans (x1.but K));have jB:=ah (hE.trans x1)
   replace X:=aB.refl K W1;replace HK:=ah (HK.o.ext x1);clear D A hW1 x1 mO hE ha;go_wp2_with (first|((first|(go_at_call 111;refine (Dh _ K c _ _ _ HK.o).mono ?_)|(go_at_call 115;refine (tX _ K c _ _ jq.o.1 prev 117 B (λh=>by rw [v_.o];exact St.xt _ _ _ h) (by rw [v_.o];omega) I8.o (λV' s' j hj nY LC=>by obtain ⟨hj',ej⟩:=Cl.o j hj;rw [ej];exact Ls w0 V' K B c s' j dN.o (nY.ext (X.ext jB.o dN.o) dN.o) eT.o LC (F V' (X.trans nY)).1 hj') HK.o).mono ?_)|(go_at_call 118;refine (G_ _ K c _ _ _ HK.o).mono ?_)|(go_at_call 114;refine (fH _ K c _ _ _ _ HK.o).mono ?_)|(go_at_call 112;refine (iX _ K c _ _ _ _ _ HK.o).mono ?_)|(go_at_call 120;refine (Ll w0 _ K c _ _ _ _ _ dN.o (X.ext jB.o dN.o) jq.o.2.1 HK.o).mono ?_));rintro e w ⟨rfl,hk,hx⟩;replace X:=X.trans hx;replace HK:=ah hk;clear hx hk)|(refine wG (aB K W1) (X.trans (ar.drew.but K)) (λav=> ?_);refine wV 0 av ?_;refine wV 1 av ?_;refine wV 2 av ?_;refine wR 3 (λKc hK=> ?_);go_simp;refine (Di _ _ _).mono ?_;rintro e z ⟨rfl,xz⟩;refine hK.o _ _ (av.trans (xz.but K)) (λav=> ?_);clear hK Kc;replace HK:=ah (HK.o.ext (ar.drew.trans xz));clear xz;(try simp only [sS]);refine wV 4 av ?_;refine wB 5 av ?_;refine wB 6 av ?_;refine wB 7 av ?_;refine wB 8 av ?_;refine wP 9 av ?_;refine wR 10 (λKc hK=> ?_);go_simp;refine (fH _ K c _ _ _ _ HK.o).mono ?_;rintro e z ⟨rfl,hk,hx⟩;refine hK.o _ _ (av.trans hx) (λav=> ?_);clear hK Kc;(try simp only [sS]);refine wD ?_;replace X:=av;replace HK:=ah hk;clear hk hx av))
   exact ⟨⟨i+1,ae,by rw [show St.wk c s (i+1)=_ from se.o];exact HK.o,eC.o.trans X,bf⟩,a_⟩
  .obtain rfl:i=c.lines.length:=ae
   go_wp2
   exact bodyPost_end (v:= .tuple #[]) ax rfl ⟨rfl,hk,HX.o.trans X⟩
def St.whole (s:St) (c:ay):St:=((((((((s.at 0 0).within 0 c.hours 1 24).nw c 1 c.aX 0 1048576).need (decide ((1:Int)<=c.aF.length)&&decide ((c.aF.length:Int)<=32)) 2 8).need (decide ((c.lines.length:Int)<=64)) 3 8).need (decide ((c.aA.length:Int)<=16)) 4 8).need (decide ((c.stores.length:Int)<=8)) 5 8).need (decide ((c.bh.length:Int)<=8)) 6 8).need (decide ((c.outs.length:Int)<=64)) 7 8
theorem Oq (w0 V:World) (K:Nat) (c:ay) (s:St) (hK:w0.heap.size<=K) (hV:Ext w0 V) (hc:bm w0 c) (h:iW V K c s):
 Calls prog 67 #[.pointer (some ⟨K,0,none⟩)] V λe' w'=>mI V K c (s.whole c) e' w':=by
 have b2:=hc.aF.le;have ED:=hc.aF.cap;have b3:=hc.lines.le;have b3':=hc.lines.cap;have b4:=hc.aA.le;have b4':=hc.aA.cap;have b5:=hc.stores.le;have b5':=hc.stores.cap;have b6:=hc.bh.le;have b6':=hc.bh.cap;have b7:=hc.outs.le;have b7':=hc.outs.cap
 rw [List.length_map]at b2 b3 b4 b5 b6 b7;have HR:=ah hc.aX;have HV:=ah hV;have dN:=ah hK;have HK:=ah h
 have X:=aB.refl K V;have C:=eM HK.o
 clear hc hV hK h;rcases Bool.eq_false_or_eq_true (decide ((1:Int)<=c.aF.length))with d1|d1
 all_goals
  go_enter func67,ntmps67
  go_wp2_with ((first|(go_at_call 111;refine (Dh _ K c _ _ _ HK.o).mono ?_)|(go_at_call 112;refine (iX _ K c _ _ _ _ _ HK.o).mono ?_)|(go_at_call 114;refine (fH _ K c _ _ _ _ HK.o).mono ?_)|(go_at_call 113;refine (xm w0 _ K c _ _ _ _ _ _ _ dN.o (X.ext HV.o dN.o) HR.o HK.o).mono ?_));rintro e w ⟨rfl,hk,hx⟩;replace X:=X.trans hx;replace HK:=ah hk;replace C:=eM HK.o;clear hx hk)
  exact bodyPost_end (v:= .tuple #[]) ax rfl ⟨rfl,by simpa [St.whole,d1]using HK.o,X⟩
def St.pH (c:ay) (x:bW) (prev:List ByteArray) (i:Int) (s:St):St:=((((((((s.at 4 i).name x.name prev).fE c 1 x.fE).within 2 x.capacity 0 1048576).within 3 x.initial 0 x.capacity).within 4 x.final 0 x.capacity).within 5 x.gN 0 1048576).within 6 x.discharge 0 1048576).need (fI x.en x.ed&&decide (0<x.en)&&decide (x.en<=x.ed)) 7 3
abbrev St.sq (c:ay) (s:St) (n:Nat):St:=St.upTo (St.pH c) bW.name c.stores s n
def St.stores (s:St) (c:ay):St:=St.sq c s c.stores.length
theorem LD (w0 V:World) (K:Nat) (c:ay) (s:St) (hK:w0.heap.size<=K) (hV:Ext w0 V) (hc:bm w0 c) (hn:c.stores.length<=1000000) (h:iW V K c s):
 Calls prog 71 #[.pointer (some ⟨K,0,none⟩)] V λe' w'=>mI V K c (s.stores c) e' w':=by
 have hle:=hc.stores.le;have dS:=hc.stores.cap
 rw [List.length_map]at hle;have I8:=ah (show∀args w,(callFunc 123 args).run prog w= .ok (.enter 123 args) w from enters_of func123 ax rfl);have HV:=ah hV;have eT:=ah hc;have dN:=ah hK;have t_:=ah h.lt
 unfold St.stores;clear hc hV hK;go_enter func71,ntmps71
 go_upto_region 1 with fail
 generalize hW:World.alloc _ _=W;obtain ⟨B,hB,x0,A⟩:=bV hW;rw [<-hB];have gZ:B≠K:=bA t_.o;have F:=λY (e:aB K W Y)=>(A.eH e gZ).cs;simp only [Cs,bW.cells,Nat.zero_add,Nat.add_zero,Nat.reduceAdd,and_true]at F;have HK:=ah (h.ext x0);have C:=eM HK.o;have X:=aB.refl K W;have HX:=ah (x0.but K);have HE:=ah (HV.o.trans x0)
 clear hW A x0 hB h HV;go_wp2_with fail
 clear C;go_loopw [11] (λii wr=> ∃i:Nat,i<=c.stores.length/\iW wr K c (St.sq c s i)/\aB K W wr/\ii= .int .i64 i) (λii _=>c.stores.length-(intOf ii).toNat)
 case atStart=>exact ⟨0,aZ,HK.o,X,rfl⟩
 case round=>
  clear X HK;obtain ⟨i,hi,hk,X,rfl⟩:=hrel;by_cases hlt:i<c.stores.length
  .have hE:=X.ext HE.o dN.o
   obtain ⟨b,o,ha,D⟩:=(eT.o.stores.ext hE).cs i hlt;have jq:=ah (eT.o.store c.stores[i] (List.getElem_mem hlt));have se:=ah (St.mM (St.pH c) bW.name c.stores s i hlt);obtain ⟨prev,hp,v_,yv⟩:=Dp bW.name c.stores i hlt;rw [<-hp]at se;have Cl:=ah yv;have HK:=ah hk
   generalize c.stores[i]=x at D jq se;have iM:(0:Int)<=(i:Int):=ae;have iK:(i:Int)<(c.stores.length:Int):=ae;simp only [Cs,bW.cells,Nat.zero_add,Nat.add_zero,Nat.reduceAdd,and_true]at D;clear hp yv hk;rw [ha];go_upto_region 4 with fail
   generalize hW1:World.alloc _ _=W1;obtain ⟨E,mO,x1,A⟩:=bV hW1;rw [<-mO];have mN:E≠K:=bA HK.o.lt;replace F:=λY (e:aB K W1 Y)=>And.intro (F Y ((X.trans (x1.but K)).trans e)) (A.eH e mN).cs;simp only [Cs,bW.cells,Nat.zero_add,Nat.add_zero,Nat.reduceAdd,and_true]at F;have eC:=ah (X.trans (x1.but K));have jB:=ah (hE.trans x1)
   replace X:=aB.refl K W1;replace HK:=ah (HK.o.ext x1);clear D A hW1 x1 mO hE ha;go_wp2_with (first|((first|(go_at_call 111;refine (Dh _ K c _ _ _ HK.o).mono ?_)|(go_at_call 115;refine (tX _ K c _ _ jq.o.1 prev 123 B (λh=>by rw [v_.o];exact St.xt _ _ _ h) (by rw [v_.o];omega) I8.o (λV' s' j hj nY LC=>by obtain ⟨hj',ej⟩:=Cl.o j hj;rw [ej];exact I4 w0 V' K B c s' j dN.o (nY.ext (X.ext jB.o dN.o) dN.o) eT.o LC (F V' (X.trans nY)).1 hj') HK.o).mono ?_)|(go_at_call 118;refine (G_ _ K c _ _ _ HK.o).mono ?_)|(go_at_call 112;refine (iX _ K c _ _ _ _ _ HK.o).mono ?_));rintro e w ⟨rfl,hk,hx⟩;replace X:=X.trans hx;replace HK:=ah hk;clear hx hk)|(generalize hWf:World.alloc _ _=Wf;obtain ⟨G,hG,xf,Af⟩:=bV hWf;rw [<-hG];have hGK:G≠K:=(bA HK.o.lt);have F2:=λY (e:aB K Wf Y)=>And.intro (F Y (X.trans ((xf.but K).trans e))) (Af.eH e hGK).cs;simp only [Cs,Nat.zero_add,Nat.add_zero,Nat.reduceAdd,and_true]at F2;replace HK:=ah (HK.o.ext xf);replace X:=X.trans (xf.but K);clear hWf Af hG xf;refine wG (aB K Wf) (ar.drew.but K) (λav=> ?_);refine wV 0 av ?_;refine wV 1 av ?_;refine wR 2 (λKc hK=> ?_);go_simp;refine (Di _ _ _).mono ?_;rintro e z ⟨rfl,xz⟩;refine hK.o _ _ (av.trans (xz.but K)) (λav=> ?_);clear hK Kc;replace HK:=ah (HK.o.ext (ar.drew.trans xz));clear xz;(try simp only [sS]);refine wV 3 av ?_;refine wB 4 av ?_;refine wB 5 av ?_;refine wB 6 av ?_;refine wP 7 av ?_;refine wV 8 av ?_;refine wB 9 av ?_;refine wB 10 av ?_;refine wB 11 av ?_;refine wB 12 av ?_;refine wB 13 av ?_;refine wP 14 av ?_;refine wR 15 (λKc hK=> ?_);go_simp;refine (fH _ K c _ _ _ _ HK.o).mono ?_;rintro e z ⟨rfl,hk,hx⟩;refine hK.o _ _ (av.trans hx) (λav=> ?_);clear hK Kc;(try simp only [sS]);refine wD ?_;replace X:=X.trans av;replace HK:=ah hk;clear hk hx av F2))
   exact ⟨⟨i+1,ae,by rw [show St.sq c s (i+1)=_ from se.o];exact HK.o,eC.o.trans X,bf⟩,a_⟩
  .obtain rfl:i=c.stores.length:=ae
   go_wp2
   exact bodyPost_end (v:= .tuple #[]) ax rfl ⟨rfl,hk,HX.o.trans X⟩
def St.n_ (s:St) (l:List dy):St:=l.foldl (λs g=>(s.within 4 g.width 1 1048576).within 4 g.bE (-1048576) 1048576) s
def FK (l:List dy) (j:Nat):Int:=(l[j]?.map dy.bE).getD 0
def St.kj (s:St) (l:List dy) (n:Nat):St:=(List.range n).foldl (λs j=>if j=0 then s else s.need (decide (FK l (j-1)<=FK l j)) 4 11) s
def cG (l:List dy):Int:=(l.map dy.width).sum
def St.segments (s:St) (x:aP):St:=
 if(s.need (decide ((x.aY.length:Int)<=8)) 4 8).err≠0 then s.need (decide ((x.aY.length:Int)<=8)) 4 8
 else(((s.need (decide ((x.aY.length:Int)<=8)) 4 8).n_ x.aY).kj x.aY x.aY.length).need (decide (cG x.aY=IntKind.i64.wrap (x.max-x.min))) 4 4
theorem Bw {l:List dy} {j:Nat} (h:j<l.length):FK l j=l[j].bE:=by unfold FK;rw [List.getElem?_eq_getElem h];rfl
theorem St.FL (s:St) (l:List dy) (i:Nat) (h:i<l.length):s.n_ (l.take (i+1))=((s.n_ (l.take i)).within 4 l[i].width 1 1048576).within 4 l[i].bE (-1048576) 1048576:=by
 unfold St.n_;rw [List.take_succ_eq_append_getElem h,List.foldl_append];rfl
theorem oV (l:List dy) (i:Nat) (h:i<l.length):cG (l.take (i+1))=cG (l.take i)+l[i].width:=by
 unfold cG;rw [List.take_succ_eq_append_getElem h,List.map_append,List.sum_append];simp
theorem St.FM (s:St) (l:List dy) (p:Nat):s.kj l (p+1+1)=(s.kj l (p+1)).need (decide (FK l p<=FK l (p+1))) 4 11:=by
 unfold St.kj;rw [List.range_succ,List.foldl_append,List.foldl_cons,List.foldl_nil,if_neg ae];rfl
theorem St.I9 (s:St) (l:List dy) (i:Nat) (h1:1<=i) (h:l.length<=i) (h2:i<=l.length\/i=1):s.kj l i=s.kj l l.length:=by
 rcases h2 with h2|rfl
 .rw [Nat.le_antisymm h2 h]
 .have:l.length=0\/l.length=1:=ae
  rcases this with e|e<;>rw [e]<;>rfl
theorem St.Bx {s:St} {ok:Bool} {f e:Int} (he:e≠0) (h:(s.need ok f e).err=0):s.err=0/\ok=true:=by
 have h0:=St.zM h;refine ⟨h0,?_⟩;cases ok with
 |true=>rfl
 |false=>unfold St.need at h;rw [if_pos ⟨h0,rfl⟩]at h;exact absurd h he
theorem St.zS {s:St} {f n a b:Int} (h:(s.within f n a b).err=0):s.err=0/\a<=n/\n<=b:=by
 obtain ⟨h1,h2⟩:=St.Bx aq h;rw [Bool.and_eq_true,decide_eq_true_eq,decide_eq_true_eq]at h2;exact ⟨h1,h2⟩
theorem FN (z:Int):b_ (IntKind.i64.wrap z):=by unfold b_;rw [IntKind.wrap_i64];omega
theorem RA (w0 V:World) (K:Nat) (c:ay) (s:St) (x:aP) (hK:w0.heap.size<=K) (hV:Ext w0 V) (hs:ct w0 2 x.sa x.sc (x.aY.map dy.cells)) (RD: ∀g∈x.aY,gO [g.width,g.bE]) (h:iW V K c s):
 Calls prog 122 #[.pointer (some ⟨K,0,none⟩),.agg x.cells.toArray] V λe' w'=>mI V K c (s.segments x) e' w':=by
 have hle:=hs.le;have dS:=hs.cap
 rw [List.length_map]at hle;have HV:=ah hV;have HS:=ah hs;have HSI:=ah RD;have dN:=ah hK;have t_:=ah h.lt;have HK:=ah h
 unfold St.segments;generalize hs1:s.need (decide ((x.aY.length:Int)<=8)) 4 8=s1;generalize hM:IntKind.i64.wrap (x.max-x.min)=M;generalize Tq:(if s1.err≠0 then s1 else((s1.n_ x.aY).kj x.aY x.aY.length).need (decide (cG x.aY=M)) 4 4)=sf;have FO:=ah hs1;have LF:=ah Tq
 have HL8:Hid (s1.err=0->x.aY.length<=8):=λh0=>by
  rw [<-FO.o]at h0;have:=(St.Bx aq h0).2;rw [decide_eq_true_eq]at this;omega
 clear hs hV RD h hs1 Tq hK;go_enter func122,ntmps122
 go_upto_region 1 with fail
 generalize hW:World.alloc _ _=W;obtain ⟨B,hB,x0,A⟩:=bV hW;rw [<-hB];have gZ:B≠K:=bA t_.o;have F:=λY (e:aB K W Y)=>(A.eH e gZ).cs;simp only [Cs,aP.cells,Nat.zero_add,Nat.add_zero,Nat.reduceAdd,and_true]at F;have X:=aB.refl K W;have HX:=ah (x0.but K);have HE:=ah (HV.o.trans x0)
 replace HK:=ah (HK.o.ext x0);clear hW hB x0 A;go_upto_region 2 with(go_at_call 114;refine (fH _ K c _ _ _ _ HK.o).mono ?_;rintro e w ⟨rfl,hk,hx⟩;rw [FO.o]at hk;replace X:=X.trans hx;replace HK:=ah hk;clear hk hx)
 obtain ⟨-,-,-,U7,-⟩:=oN HK.o;by_cases h0:s1.err=0
 rotate_left
 .have t1:(s1.err !=0)=true:=by simpa using h0
  have hf:=LF.o;rw [if_pos h0]at hf;have HF:=ah hf;clear h0 hf;go_wp2
  exact bodyPost_ret (v:= .tuple #[]) ax rfl ⟨rfl,HF.o▸HK.o,HX.o.trans X⟩
 have t1:(s1.err !=0)=false:=by simpa using h0
 have h8:=HL8.o h0;have PR:=ah h0;clear h0;go_wp2_with fail
 clear U7 t1;go_loopw [4,22] (λvs ii wr=> ∃(i:Nat) (t:Int),i<=x.aY.length/\iW wr K c (s1.n_ (x.aY.take i))/\aB K W wr/\b_ t/\((s1.n_ (x.aY.take i)).err=0->t=cG (x.aY.take i)/\0<=t/\t<=i*1048576)/\vs= .int .i64 t/\ii= .int .i64 i) (λ_ ii _=>x.aY.length-(intOf ii).toNat)
 case atStart=>exact ⟨0,0,aZ,HK.o,X,by unfold b_;omega,λ_=>⟨rfl,ae,ae⟩,rfl,rfl⟩
 case round=>
  clear HK X;obtain ⟨i,t,hi,hk,X,ahw,AK,rfl,rfl⟩:=hrel;by_cases hlt:i<x.aY.length
  .obtain ⟨b,o,ha,D⟩:=(HS.o.ext (X.ext HE.o dN.o)).cs i hlt
   have wm:=ah (St.FL s1 x.aY i hlt);have lX:=ah (oV x.aY i hlt)
   have Kd:=HSI.o x.aY[i] (List.getElem_mem hlt);generalize s1.n_ (x.aY.take i)=s2 at*;generalize cG (x.aY.take i)=σ at*;generalize x.aY[i]=g at D wm lX Kd;simp only [Cs,dy.cells,Nat.zero_add,Nat.add_zero,Nat.reduceAdd,and_true]at D;have HK:=ah hk;have Ke:=ah AK
   have iM:(0:Int)<=(i:Int):=ae;have iK:(i:Int)<(x.aY.length:Int):=ae;clear hk AK;rw [ha];go_upto_region 7 with fail
   generalize hW1:World.alloc _ _=W1;obtain ⟨E,hE,x1,A⟩:=bV hW1;rw [<-hE];have mN:E≠K:=bA HK.o.lt;have G:=λY (e:aB K W1 Y)=>(A.eH e mN).cs;simp only [Cs,dy.cells,Nat.zero_add,Nat.add_zero,Nat.reduceAdd,and_true]at G;have eC:=ah (X.trans (x1.but K));replace X:=aB.refl K W1;replace HK:=ah (HK.o.ext x1)
   clear D A hW1 x1 hE ha;obtain ⟨t',ht'⟩: ∃t',IntKind.i64.wrap (t+g.width)=t':=⟨_,rfl⟩;have H64:Hid (b_ t'):=ht'▸FN _
   have aaR:Hid (((s2.within 4 g.width 1 1048576).within 4 g.bE (-1048576) 1048576).err=0->t'=σ+g.width/\0<=t'/\t'<=((i+1:Nat):Int)*1048576):=λhe=>by
    obtain ⟨EF,-,-⟩:=St.zS he;obtain ⟨Nr,ha1,ha2⟩:=St.zS EF;obtain ⟨hb1,hb2,hb3⟩:=Ke.o Nr;have:t'=t+g.width:=by rw [<-ht',IntKind.wrap_i64];omega
    omega
   clear Kd;go_wp2_with (go_at_call 112;refine (iX _ K c _ _ _ _ _ HK.o).mono ?_;rintro e w ⟨rfl,hk,hx⟩;replace X:=X.trans hx;replace HK:=ah hk;clear hk hx)
   exact ⟨⟨i+1,t',ae,by rw [wm.o];exact HK.o,eC.o.trans X,H64.o,by rw [wm.o,lX.o];exact aaR.o,rfl,bf⟩,a_⟩
  .obtain rfl:i=x.aY.length:=ae
   rw [List.take_length]at hk AK;have RF:iW wr K c ((s1.n_ x.aY).kj x.aY 1):=hk;generalize hs2:s1.n_ x.aY=s2 at AK RF;have zT:=ah hs2;have Ke:=ah AK;have U8:=ah RF
   clear hk AK RF hs2;go_wp2
   go_loopw [7] (λii wl=> ∃i:Nat,1<=i/\(i<=x.aY.length\/i=1)/\iW wl K c (s2.kj x.aY i)/\aB K W wl/\ii= .int .i64 i) (λii _=>x.aY.length-(intOf ii).toNat)
   case atStart=>exact ⟨1,bY,Or.inr rfl,U8.o,X,rfl⟩
   case round=>
    clear X U8;obtain ⟨i,h1,hi,hk,X,rfl⟩:=hrel;by_cases hlt:i<x.aY.length
    .obtain ⟨p,rfl⟩: ∃p,i=p+1:=⟨i-1,ae⟩
     obtain ⟨b,o,ha,-⟩:=HS.o.cs p ae;have zv:Hid (ct w0 2 (some ⟨b,o,none⟩) x.sc (x.aY.map dy.cells)):=ha▸HS.o;have G:=λY (e:aB K W Y)=>And.intro ((zv.o.ext (e.ext HE.o dN.o)).cs' (p+1) hlt) ((zv.o.ext (e.ext HE.o dN.o)).cs' p ae);have e1:=(Bw hlt).symm;have e0:=(Bw (show p<x.aY.length by omega)).symm;simp only [Cs,dy.cells,Nat.zero_add,Nat.add_zero,Nat.reduceAdd,and_true,e0,e1]at G;clear e0 e1;have I5:=ah (St.FM s2 x.aY p);have HK:=ah hk
     have hw:IntKind.i64.wrap (((p+1:Nat):Int)-1)=(p:Int):=dW;have hw2:IntKind.i64.wrap (p:Int)=(p:Int):=dW;have iM:(0:Int)<=((p+1:Nat):Int):=ae;have iK:((p+1:Nat):Int)<(x.aY.length:Int):=ae;have Tj:(0:Int)<=(p:Int):=ae;have Tk:(p:Int)<(x.aY.length:Int):=ae;have Tl:(0:Int)<=(p:Int)+1:=ae;have Tm:(p:Int)+1<(x.aY.length:Int):=ae;have YL: ¬((p:Int)+1<0):=ae;clear hk;go_wp2_with (refine wG (aB K W) (X.trans (ar.drew.but K)) (λav=> ?_);refine wV 0 av ?_;refine wV 1 av ?_;refine wV 2 av ?_;refine wV 3 av ?_;refine wV 4 av ?_;refine wV 5 av ?_;refine wV 6 av ?_;refine wV 7 av ?_;refine wV 8 av ?_;refine wV 9 av ?_;refine wV 10 av ?_;refine wV 11 av ?_;refine wV 12 av ?_;refine wV 13 av ?_;refine wV 14 av ?_;refine wR 15 (λKc hK=> ?_);go_simp;refine (fH _ K c _ _ _ _ (HK.o.ext ar.drew)).mono ?_;rintro e w ⟨rfl,hk,hx⟩;refine hK.o _ _ (av.trans hx) (λav=> ?_);clear hK Kc;(try simp only [sS]);refine wD ?_;replace X:=av;replace HK:=ah hk;clear hk hx av)
     exact ⟨⟨p+1+1,ae,Or.inl ae,by rw [I5.o];exact HK.o,bf⟩,a_⟩
    .have hmx:=St.I9 s2 x.aY i h1 ae hi
     rw [hmx]at hk;obtain ⟨s3,hs3⟩: ∃s3,s2.kj x.aY x.aY.length=s3:=⟨_,rfl⟩
     have hz:s3.err=0->s2.err=0:=λhe=>by
      rw [<-hs3]at he;apply Classical.byContradiction;intro hne
      have key: ∀n,s2.kj x.aY n=s2:=by
       intro n;induction n with
       |zero=>rfl
       |succ n ih=>
        have e1:s2.kj x.aY (n+1)=(if n=0 then s2.kj x.aY n else(s2.kj x.aY n).need (decide (FK x.aY (n-1)<=FK x.aY n)) 4 11):=by
             unfold St.kj;rw [List.range_succ,List.foldl_append,List.foldl_cons,List.foldl_nil]
        rw [e1,ih];split
        .rfl
        .exact St.iy _ _ _ _ hne
      rw [key]at he;exact hne he
     rw [hs3]at hk
     have lL:s3.need (t==M) 4 4=s3.need (decide (cG x.aY=M)) 4 4:=by
      by_cases he:s3.err=0
      .obtain ⟨e1,-,-⟩:=Ke.o (hz he)
       rw [<-e1];have hb:(t==M)=decide (t=M):=by rw [Bool.eq_iff_iff];simp
       rw [hb]
      .rw [St.iy _ _ _ _ he,St.iy _ _ _ _ he]
     have hend:s3.need (t==M) 4 4=sf:=by
      have h9:=LF.o;rw [if_neg (λhne=>hne PR.o),zT.o,hs3]at h9;rw [lL,h9]
     have FH:=ah hend;have HK:=ah hk
     clear hk hmx hz lL hs3 hend;go_wp2_with (go_at_call 114;refine (fH _ K c s3 (t==M) _ _ HK.o).mono ?_;rintro e w ⟨rfl,hk,hx⟩;rw [FH.o]at hk;replace X:=X.trans hx;replace HK:=ah hk;clear hk hx)
     exact bodyPost_end (v:= .tuple #[]) ax rfl ⟨rfl,HK.o,HX.o.trans X⟩
