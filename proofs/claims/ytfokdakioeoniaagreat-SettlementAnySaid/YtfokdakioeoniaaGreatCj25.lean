/- Texts of the proof. -/
import Derived.Shelf.Abstract
import Derived.Test.YtfokdakioeoniaaGreatCj24
set_option linter.all false
set_option maxHeartbeats 4000000
set_option maxRecDepth 100000
namespace Go.Proofs.YtfokdakioeoniaaGreat
open Go.Proofs.Tryz
open Go.RowKit
def zY (c:aq) (x:cX) (prev:List ByteArray) (e:Int):Int:=tG (nd (nd (nd (nd (nd (nd (vT (vT (nA e x.name prev) c x.fQ) c x.qZ) (x.fQ !=x.qZ) 1) (jX x.rn x.rd&&decide (0<x.rn)) 3) (jX x.Qp x.S4&&decide (x.Qp<=0)) 3) (jX x.Qq x.S5&&decide (0<=x.Qq)) 3) (cJ 0 1048576 [x.tE]) 3) (cJ x.tE 1048576 [x.FK]) 3) c x.away
theorem OL (w0 V:World) (K:Nat) (c:aq) (e:Int) (i:Nat) (hi:i<c.lines.length) (hK:w0.heap.size<=K) (hV:Ext w0 V) (hc:bK w0 c) (hn:c.lines.length<=1000000) (h:FE V K e):
 Calls prog 118 #[.pointer (some ⟨K,0,none⟩),.agg (C8 c),i64 i] V λe' w'=>vS V K (zY c c.lines[i] ((c.lines.take i).map cX.name) e) e' w':=by
 try unfold C8
 have hle:=hc.lines.le;have eI:=hc.lines.cap
 rw [List.length_map]at hle;have iR:=af (hc.line c.lines[i] (List.getElem_mem hi));have l_:Hid (∃h:i<(c.lines.map cX.name).length,(c.lines.map cX.name)[i]=c.lines[i].name/\(c.lines.map cX.name).take i=(c.lines.take i).map cX.name):=⟨by simpa using hi,aX,by rw [List.map_take]⟩;have uX:Hid ((c.lines.map cX.name).length<=1000000):=by(show _<=_;rw [List.length_map];exact hn)
 generalize hx:c.lines[i]=x at iR l_⊢;generalize (c.lines.take i).map cX.name=prev at l_⊢;have zZ:=af hx;have HV:=af hV;have iL:=af hc;have HF:=af h;have eQ:=af hK;have lT:=af h.lt
 have mn:(0:Int)<=(i:Int):=ae;have mq:(i:Int)<(c.lines.length:Int):=ae;clear hc hV h hK hn hx;go_enter func118,ntmps118
 go_upto_region 1 with fail
 generalize hW:World.alloc _ _=W;obtain ⟨B,hB,x0,A⟩:=aI hW;rw [<-hB];have mP:B≠K:=dB lT.o;obtain ⟨b,o,ha,D⟩:=(iL.o.lines.ext (HV.o.trans x0)).cs i hi;rw [zZ.o]at D;have HI:=af (iR.o.2.2);have C:=A.cs;simp only [Cs,aq.cells,cX.cells,Nat.zero_add,Nat.add_zero,Nat.reduceAdd,and_true]at D C;rw [ha]at C;clear hW hB ha;go_upto_region 2 with fail
 generalize hW1:World.alloc _ _=W1;obtain ⟨E,hE,x1,A1⟩:=aI hW1;rw [<-hE];have oY:E≠K:=ux lT.o x0.size;have F:=λY (e:aH K W1 Y)=>And.intro ((A.ext x1).gw e mP).cs (A1.gw e oY).cs;simp only [Cs,aq.cells,cX.cells,Nat.zero_add,Nat.add_zero,Nat.reduceAdd,and_true]at F;have X:=aH.refl K W1;have HX:=af ((x0.trans x1).but K);have kH:=af ((HV.o.trans x0).trans x1)
 replace HF:=af ((HF.o.ext x0).ext x1);have P:=FO;clear x0 A C D hW1 hE x1 A1 HV lT zZ;go_wp2_with (first|((first|(go_at_call 114;refine (kJ w0 _ K c _ 2 i prev _ x.name (tI c) ai l_.o uX.o eQ.o (X.ext kH.o eQ.o) iL.o iR.o.1 HF.o).mono ?_)|(go_at_call 206;refine (yN w0 _ K c _ _ _ _ _ (X.ext kH.o eQ.o) iL.o (HI.o _ aX) HF.o).mono ?_)|(go_at_call 116;refine (d_ _ K _ _ _ _ _ _ HF.o).mono ?_)|(go_at_call 208;refine (FU w0 _ K c _ _ _ _ _ _ _ eQ.o (X.ext kH.o eQ.o) iR.o.2.1 HF.o).mono ?_));rintro e w ⟨rfl,hf,hx⟩;replace X:=X.trans hx;replace HF:=af hf;clear hx hf)|(go_at_call 117;generalize hU:World.alloc _ _=U;obtain ⟨G,hG,xU,AU⟩:=aI hU;rw [<-hG];refine (dH U _ _ (some ⟨G,0,none⟩) 1 [_] (AU.FM (HI.o _ aX))).mono ?_;rintro e _ ⟨rfl,rfl⟩;replace X:=X.trans (xU.but K);replace HF:=af (HF.o.ext xU);clear hU hG xU AU)|(go_at_call 207;refine (mX _ _ _ (HI.o _ aX) (HI.o _ aX)).mono ?_;rintro e w ⟨rfl,hx⟩;replace X:=X.trans (hx.but K);replace HF:=af (HF.o.ext hx);clear hx)|(refine XT ?_))
 exact bodyPost_end (v:= .tuple #[]) aw rfl ⟨rfl,by first|exact HF.o|simpa [zY]using HF.o,HX.o.trans X⟩
def ui (c:aq) (x:cI) (prev:List ByteArray) (e:Int):Int:=nd (nd (nd (nd (nd (nd (vT (nA e x.name prev) c x.fc) (cJ 0 1048576 [x.capacity]) 3) (cJ 0 x.capacity [x.initial]) 3) (cJ 0 x.capacity [x.final]) 3) (cJ 0 1048576 [x.cB]) 3) (cJ 0 1048576 [x.discharge]) 3) ((jX x.en x.ed&&decide (0<x.en))&&decide (x.en<=x.ed)) 3
theorem L8 (w0 V:World) (K:Nat) (c:aq) (e:Int) (i:Nat) (hi:i<c.stores.length) (hK:w0.heap.size<=K) (hV:Ext w0 V) (hc:bK w0 c) (hn:c.stores.length<=1000000) (h:FE V K e):
 Calls prog 120 #[.pointer (some ⟨K,0,none⟩),.agg (C8 c),i64 i] V λe' w'=>vS V K (ui c c.stores[i] ((c.stores.take i).map cI.name) e) e' w':=by
 try unfold C8
 have hle:=hc.stores.le;have eI:=hc.stores.cap
 rw [List.length_map]at hle;have iR:=af (hc.store c.stores[i] (List.getElem_mem hi));have l_:Hid (∃h:i<(c.stores.map cI.name).length,(c.stores.map cI.name)[i]=c.stores[i].name/\(c.stores.map cI.name).take i=(c.stores.take i).map cI.name):=⟨by simpa using hi,aX,by rw [List.map_take]⟩;have uX:Hid ((c.stores.map cI.name).length<=1000000):=by(show _<=_;rw [List.length_map];exact hn)
 generalize hx:c.stores[i]=x at iR l_⊢;generalize (c.stores.take i).map cI.name=prev at l_⊢;have zZ:=af hx;have HV:=af hV;have iL:=af hc;have HF:=af h;have eQ:=af hK;have lT:=af h.lt
 have mn:(0:Int)<=(i:Int):=ae;have mq:(i:Int)<(c.stores.length:Int):=ae;clear hc hV h hK hn hx;go_enter func120,ntmps120
 go_upto_region 1 with fail
 generalize hW:World.alloc _ _=W;obtain ⟨B,hB,x0,A⟩:=aI hW;rw [<-hB];have mP:B≠K:=dB lT.o;obtain ⟨b,o,ha,D⟩:=(iL.o.stores.ext (HV.o.trans x0)).cs i hi;rw [zZ.o]at D;have HI:=af (iR.o.2);have C:=A.cs;simp only [Cs,aq.cells,cI.cells,Nat.zero_add,Nat.add_zero,Nat.reduceAdd,and_true]at D C;rw [ha]at C;clear hW hB ha;go_upto_region 2 with fail
 generalize hW1:World.alloc _ _=W1;obtain ⟨E,hE,x1,A1⟩:=aI hW1;rw [<-hE];have oY:E≠K:=ux lT.o x0.size;have F:=λY (e:aH K W1 Y)=>And.intro ((A.ext x1).gw e mP).cs (A1.gw e oY).cs;simp only [Cs,aq.cells,cI.cells,Nat.zero_add,Nat.add_zero,Nat.reduceAdd,and_true]at F;have X:=aH.refl K W1;have HX:=af ((x0.trans x1).but K);have kH:=af ((HV.o.trans x0).trans x1)
 replace HF:=af ((HF.o.ext x0).ext x1);have P:=FO;clear x0 A C D hW1 hE x1 A1 HV lT zZ;go_wp2_with (first|((first|(go_at_call 114;refine (kJ w0 _ K c _ 4 i prev _ x.name (rh c) ai l_.o uX.o eQ.o (X.ext kH.o eQ.o) iL.o iR.o.1 HF.o).mono ?_)|(go_at_call 206;refine (yN w0 _ K c _ _ _ _ _ (X.ext kH.o eQ.o) iL.o (HI.o _ aX) HF.o).mono ?_)|(go_at_call 116;refine (d_ _ K _ _ _ _ _ _ HF.o).mono ?_));rintro e w ⟨rfl,hf,hx⟩;replace X:=X.trans hx;replace HF:=af hf;clear hx hf)|(go_at_call 117;generalize hU:World.alloc _ _=U;obtain ⟨G,hG,xU,AU⟩:=aI hU;rw [<-hG];refine (dH U _ _ (some ⟨G,0,none⟩) 1 [_] (AU.FM (HI.o _ aX))).mono ?_;rintro e _ ⟨rfl,rfl⟩;replace X:=X.trans (xU.but K);replace HF:=af (HF.o.ext xU);clear hU hG xU AU)|(go_at_call 207;refine (mX _ _ _ (HI.o _ aX) (HI.o _ aX)).mono ?_;rintro e w ⟨rfl,hx⟩;replace X:=X.trans (hx.but K);replace HF:=af (HF.o.ext hx);clear hx)|(refine XT ?_))
 exact bodyPost_end (v:= .tuple #[]) aw rfl ⟨rfl,by first|exact HF.o|simpa [ui]using HF.o,HX.o.trans X⟩
def IW (c:aq) (x:gY) (prev:List ByteArray) (e:Int):Int:=jq (jq (jq (vT (nA e x.name prev) c x.fc) c x.imp 0 1048576) c x.exp 0 1048576) c x.gm (-1048576) 1048576
theorem Ri (w0 V:World) (K:Nat) (c:aq) (e:Int) (i:Nat) (hi:i<c.bF.length) (hK:w0.heap.size<=K) (hV:Ext w0 V) (hc:bK w0 c) (hn:c.bF.length<=1000000) (h:FE V K e):
 Calls prog 121 #[.pointer (some ⟨K,0,none⟩),.agg (C8 c),i64 i] V λe' w'=>vS V K (IW c c.bF[i] ((c.bF.take i).map gY.name) e) e' w':=by
 try unfold C8
 have hle:=hc.bF.le;have eI:=hc.bF.cap
 rw [List.length_map]at hle;have iR:=af (hc.tie c.bF[i] (List.getElem_mem hi));have l_:Hid (∃h:i<(c.bF.map gY.name).length,(c.bF.map gY.name)[i]=c.bF[i].name/\(c.bF.map gY.name).take i=(c.bF.take i).map gY.name):=⟨by simpa using hi,aX,by rw [List.map_take]⟩;have uX:Hid ((c.bF.map gY.name).length<=1000000):=by(show _<=_;rw [List.length_map];exact hn)
 generalize hx:c.bF[i]=x at iR l_⊢;generalize (c.bF.take i).map gY.name=prev at l_⊢;have zZ:=af hx;have HV:=af hV;have iL:=af hc;have HF:=af h;have eQ:=af hK;have lT:=af h.lt
 have mn:(0:Int)<=(i:Int):=ae;have mq:(i:Int)<(c.bF.length:Int):=ae;clear hc hV h hK hn hx;go_enter func121,ntmps121
 go_upto_region 1 with fail
 generalize hW:World.alloc _ _=W;obtain ⟨B,hB,x0,A⟩:=aI hW;rw [<-hB];have mP:B≠K:=dB lT.o;obtain ⟨b,o,ha,D⟩:=(iL.o.bF.ext (HV.o.trans x0)).cs i hi;rw [zZ.o]at D;have HI:=af (show lq [x.fc]from λz hz=>by rw [List.mem_singleton]at hz;subst hz;exact iR.o.2.2.2.2);have C:=A.cs;simp only [Cs,aq.cells,gY.cells,Nat.zero_add,Nat.add_zero,Nat.reduceAdd,and_true]at D C;rw [ha]at C;clear hW hB ha;go_upto_region 2 with fail
 generalize hW1:World.alloc _ _=W1;obtain ⟨E,hE,x1,A1⟩:=aI hW1;rw [<-hE];have oY:E≠K:=ux lT.o x0.size;have F:=λY (e:aH K W1 Y)=>And.intro ((A.ext x1).gw e mP).cs (A1.gw e oY).cs;simp only [Cs,aq.cells,gY.cells,Nat.zero_add,Nat.add_zero,Nat.reduceAdd,and_true]at F;have X:=aH.refl K W1;have HX:=af ((x0.trans x1).but K);have kH:=af ((HV.o.trans x0).trans x1)
 replace HF:=af ((HF.o.ext x0).ext x1);have P:=FO;clear x0 A C D hW1 hE x1 A1 HV lT zZ;go_wp2_with (first|((first|(go_at_call 114;refine (kJ w0 _ K c _ 5 i prev _ x.name (uV c) ai l_.o uX.o eQ.o (X.ext kH.o eQ.o) iL.o iR.o.1 HF.o).mono ?_)|(go_at_call 206;refine (yN w0 _ K c _ _ _ _ _ (X.ext kH.o eQ.o) iL.o (HI.o _ aX) HF.o).mono ?_)|(go_at_call 116;refine (d_ _ K _ _ _ _ _ _ HF.o).mono ?_)|(go_at_call 115;refine (ug w0 _ K c _ _ _ _ _ _ _ _ _ eQ.o (X.ext kH.o eQ.o) (by first|exact iR.o.2.1|exact iR.o.2.2.1|exact iR.o.2.2.2.1) HF.o).mono ?_));rintro e w ⟨rfl,hf,hx⟩;replace X:=X.trans hx;replace HF:=af hf;clear hx hf)|(go_at_call 117;generalize hU:World.alloc _ _=U;obtain ⟨G,hG,xU,AU⟩:=aI hU;rw [<-hG];refine (dH U _ _ (some ⟨G,0,none⟩) 1 [_] (AU.FM (HI.o _ aX))).mono ?_;rintro e _ ⟨rfl,rfl⟩;replace X:=X.trans (xU.but K);replace HF:=af (HF.o.ext xU);clear hU hG xU AU)|(go_at_call 207;refine (mX _ _ _ (HI.o _ aX) (HI.o _ aX)).mono ?_;rintro e w ⟨rfl,hx⟩;replace X:=X.trans (hx.but K);replace HF:=af (HF.o.ext hx);clear hx)|(refine XT ?_))
 exact bodyPost_end (v:= .tuple #[]) aw rfl ⟨rfl,by first|exact HF.o|simpa [IW]using HF.o,HX.o.trans X⟩
def St.uY (c:aq) (x:iQ) (prev:List ByteArray) (i:Int) (s:St):St:=(((s.at 1 i).name x.name prev).pQ c 1 x.eE 0 1048576).within 2 x.er 0 1048576
abbrev St.yP (c:aq) (s:St) (n:Nat):St:=St.upTo (St.uY c) iQ.name c.ar s n
def St.ar (s:St) (c:aq):St:=St.yP c s c.ar.length
theorem Rj (w0 V:World) (K:Nat) (c:aq) (s:St) (hK:w0.heap.size<=K) (hV:Ext w0 V) (hc:bK w0 c) (hn:c.ar.length<=1000000) (h:kg V K c s):
 Calls prog 88 #[.pointer (some ⟨K,0,none⟩)] V λe' w'=>oU V K c (s.ar c) e' w':=by
 have hle:=hc.ar.le;have eI:=hc.ar.cap
 rw [List.length_map]at hle;have si:=af (show∀args w,(callFunc 167 args).run prog w= .ok (.enter 167 args) w from enters_of func167 aw rfl);have HV:=af hV;have iL:=af hc;have eQ:=af hK;have lT:=af h.lt
 unfold St.ar;clear hc hV hK;go_enter func88,ntmps88
 go_upto_region 1 with fail
 generalize hW:World.alloc _ _=W;obtain ⟨B,hB,x0,A⟩:=aI hW;rw [<-hB];have mP:B≠K:=dB lT.o;have F:=λY (e:aH K W Y)=>(A.gw e mP).cs;replace F:=Bv F;have HK:=af (h.ext x0);have C:=fJ HK.o;have X:=aH.refl K W;have HX:=af (x0.but K);have HE:=af (HV.o.trans x0)
 clear hW A x0 hB h HV;go_wp2_with fail
 clear C;go_loopw [10] (λii wr=> ∃i:Nat,i<=c.ar.length/\kg wr K c (St.yP c s i)/\aH K W wr/\ii= .int .i64 i) (λii _=>c.ar.length-(intOf ii).toNat)
 case atStart=>exact ⟨0,bm,HK.o,X,rfl⟩
 case round=>
  clear X HK;obtain ⟨i,hi,hk,X,rfl⟩:=hrel;by_cases hlt:i<c.ar.length
  .have hE:=X.ext HE.o eQ.o
   obtain ⟨b,o,ha,D⟩:=(iL.o.ar.ext hE).cs i hlt;have iR:=af (iL.o.fc c.ar[i] (List.getElem_mem hlt));have vX:=af (St.oV (St.uY c) iQ.name c.ar s i hlt);obtain ⟨prev,hp,uW,A_⟩:=FN iQ.name c.ar i hlt;rw [<-hp]at vX;have tq:=af A_;have HK:=af hk
   generalize c.ar[i]=x at D iR vX;have mn:(0:Int)<=(i:Int):=ae;have mq:(i:Int)<(c.ar.length:Int):=ae;replace D:=Bv D;clear hp A_ hk;rw [ha];go_upto_region 4 with fail
   generalize hW1:World.alloc _ _=W1;obtain ⟨E,tK,x1,A⟩:=aI hW1;rw [<-tK];have oY:E≠K:=dB HK.o.lt;replace F:=λY (e:aH K W1 Y)=>And.intro (F Y ((X.trans (x1.but K)).trans e)) (A.gw e oY).cs;replace F:=Bv F;have jZ:=af (X.trans (x1.but K));have kH:=af (hE.trans x1)
   replace X:=aH.refl K W1;replace HK:=af (HK.o.ext x1);clear D A hW1 x1 tK hE ha;go_wp2_with ((first|(go_at_call 162;refine (FL _ K c _ _ _ HK.o).mono ?_)|(go_at_call 166;refine (vV _ K c _ _ iR.o.1 prev 167 B (λh=>by rw [uW.o];exact St.zK _ _ _ h) (by rw [uW.o];omega) si.o (λV' s' j hj uf Kl=>by obtain ⟨hj',ej⟩:=tq.o j hj;rw [ej];exact OA w0 V' K B c s' j eQ.o (uf.ext (X.ext kH.o eQ.o) eQ.o) iL.o Kl (F V' (X.trans uf)).1 hj') HK.o).mono ?_)|(go_at_call 164;refine (zQ w0 _ K c _ _ _ _ _ _ _ eQ.o (X.ext kH.o eQ.o) iR.o.2.1 HK.o).mono ?_)|(go_at_call 163;refine (j3 _ K c _ _ _ _ _ HK.o).mono ?_));rintro e w ⟨rfl,hk,hx⟩;replace X:=X.trans hx;replace HK:=af hk;clear hx hk)
   exact ⟨⟨i+1,ae,by rw [show St.yP c s (i+1)=_ from vX.o];exact HK.o,jZ.o.trans X,bq⟩,bz⟩
  .obtain rfl:i=c.ar.length:=ae
   go_wp2
   exact bodyPost_end (v:= .tuple #[]) aw rfl ⟨rfl,hk,HX.o.trans X⟩
def St.yQ (c:aq) (x:gY) (prev:List ByteArray) (i:Int) (s:St):St:=(((((s.at 5 i).name x.name prev).fc c 1 x.fc).pQ c 2 x.imp 0 1048576).pQ c 3 x.exp 0 1048576).pQ c 4 x.gm (-1048576) 1048576
abbrev St.DB (c:aq) (s:St) (n:Nat):St:=St.upTo (St.yQ c) gY.name c.bF s n
def St.bF (s:St) (c:aq):St:=St.DB c s c.bF.length
theorem U0 (w0 V:World) (K:Nat) (c:aq) (s:St) (hK:w0.heap.size<=K) (hV:Ext w0 V) (hc:bK w0 c) (hn:c.bF.length<=1000000) (h:kg V K c s):
 Calls prog 92 #[.pointer (some ⟨K,0,none⟩)] V λe' w'=>oU V K c (s.bF c) e' w':=by
 have hle:=hc.bF.le;have eI:=hc.bF.cap
 rw [List.length_map]at hle;have si:=af (show∀args w,(callFunc 175 args).run prog w= .ok (.enter 175 args) w from enters_of func175 aw rfl);have HV:=af hV;have iL:=af hc;have eQ:=af hK;have lT:=af h.lt
 unfold St.bF;clear hc hV hK;go_enter func92,ntmps92
 go_upto_region 1 with fail
 generalize hW:World.alloc _ _=W;obtain ⟨B,hB,x0,A⟩:=aI hW;rw [<-hB];have mP:B≠K:=dB lT.o;have F:=λY (e:aH K W Y)=>(A.gw e mP).cs;replace F:=Bv F;have HK:=af (h.ext x0);have C:=fJ HK.o;have X:=aH.refl K W;have HX:=af (x0.but K);have HE:=af (HV.o.trans x0)
 clear hW A x0 hB h HV;go_wp2_with fail
 clear C;go_loopw [10] (λii wr=> ∃i:Nat,i<=c.bF.length/\kg wr K c (St.DB c s i)/\aH K W wr/\ii= .int .i64 i) (λii _=>c.bF.length-(intOf ii).toNat)
 case atStart=>exact ⟨0,bm,HK.o,X,rfl⟩
 case round=>
  clear X HK;obtain ⟨i,hi,hk,X,rfl⟩:=hrel;by_cases hlt:i<c.bF.length
  .have hE:=X.ext HE.o eQ.o
   obtain ⟨b,o,ha,D⟩:=(iL.o.bF.ext hE).cs i hlt;have iR:=af (iL.o.tie c.bF[i] (List.getElem_mem hlt));have vX:=af (St.oV (St.yQ c) gY.name c.bF s i hlt);obtain ⟨prev,hp,uW,A_⟩:=FN gY.name c.bF i hlt;rw [<-hp]at vX;have tq:=af A_;have HK:=af hk
   generalize c.bF[i]=x at D iR vX;have mn:(0:Int)<=(i:Int):=ae;have mq:(i:Int)<(c.bF.length:Int):=ae;replace D:=Bv D;clear hp A_ hk;rw [ha];go_upto_region 4 with fail
   generalize hW1:World.alloc _ _=W1;obtain ⟨E,tK,x1,A⟩:=aI hW1;rw [<-tK];have oY:E≠K:=dB HK.o.lt;replace F:=λY (e:aH K W1 Y)=>And.intro (F Y ((X.trans (x1.but K)).trans e)) (A.gw e oY).cs;replace F:=Bv F;have jZ:=af (X.trans (x1.but K));have kH:=af (hE.trans x1)
   replace X:=aH.refl K W1;replace HK:=af (HK.o.ext x1);clear D A hW1 x1 tK hE ha;go_wp2_with ((first|(go_at_call 162;refine (FL _ K c _ _ _ HK.o).mono ?_)|(go_at_call 166;refine (vV _ K c _ _ iR.o.1 prev 175 B (λh=>by rw [uW.o];exact St.zK _ _ _ h) (by rw [uW.o];omega) si.o (λV' s' j hj uf Kl=>by obtain ⟨hj',ej⟩:=tq.o j hj;rw [ej];exact Re w0 V' K B c s' j eQ.o (uf.ext (X.ext kH.o eQ.o) eQ.o) iL.o Kl (F V' (X.trans uf)).1 hj') HK.o).mono ?_)|(go_at_call 169;refine (Kj _ K c _ _ _ HK.o).mono ?_)|(go_at_call 164;refine (zQ w0 _ K c _ _ _ _ _ _ _ eQ.o (X.ext kH.o eQ.o) (by first|exact iR.o.2.1|exact iR.o.2.2.1|exact iR.o.2.2.2.1) HK.o).mono ?_));rintro e w ⟨rfl,hk,hx⟩;replace X:=X.trans hx;replace HK:=af hk;clear hx hk)
   exact ⟨⟨i+1,ae,by rw [show St.DB c s (i+1)=_ from vX.o];exact HK.o,jZ.o.trans X,bq⟩,bz⟩
  .obtain rfl:i=c.bF.length:=ae
   go_wp2
   exact bodyPost_end (v:= .tuple #[]) aw rfl ⟨rfl,hk,HX.o.trans X⟩
def St.uZ (c:aq) (x:cX) (prev:List ByteArray) (i:Int) (s:St):St:=((((((((((s.at 2 i).name x.name prev).fc c 1 x.fQ).fc c 2 x.qZ).need (x.qZ !=x.fQ) 2 1).need (jX x.rn x.rd&&decide (0<x.rn)) 3 3).need (jX x.Qp x.S4&&decide (x.Qp<=0)) 4 3).need (jX x.Qq x.S5&&decide (0<=x.Qq)) 5 3).within 6 x.tE 0 1048576).within 7 x.FK x.tE 1048576).away c 8 x.away
abbrev St.yR (c:aq) (s:St) (n:Nat):St:=St.upTo (St.uZ c) cX.name c.lines s n
def St.lines (s:St) (c:aq):St:=St.yR c s c.lines.length
theorem Rk (w0 V:World) (K:Nat) (c:aq) (s:St) (hK:w0.heap.size<=K) (hV:Ext w0 V) (hc:bK w0 c) (hn:c.lines.length<=1000000) (h:kg V K c s):
 Calls prog 89 #[.pointer (some ⟨K,0,none⟩)] V λe' w'=>oU V K c (s.lines c) e' w':=by
 have hle:=hc.lines.le;have eI:=hc.lines.cap
 rw [List.length_map]at hle;have si:=af (show∀args w,(callFunc 168 args).run prog w= .ok (.enter 168 args) w from enters_of func168 aw rfl);have HV:=af hV;have iL:=af hc;have eQ:=af hK;have lT:=af h.lt
 unfold St.lines;clear hc hV hK;go_enter func89,ntmps89
 go_upto_region 1 with fail
 generalize hW:World.alloc _ _=W;obtain ⟨B,hB,x0,A⟩:=aI hW;rw [<-hB];have mP:B≠K:=dB lT.o;have F:=λY (e:aH K W Y)=>(A.gw e mP).cs;replace F:=Bv F;have HK:=af (h.ext x0);have C:=fJ HK.o;have X:=aH.refl K W;have HX:=af (x0.but K);have HE:=af (HV.o.trans x0)
 clear hW A x0 hB h HV;go_wp2_with fail
 clear C;go_loopw [10] (λii wr=> ∃i:Nat,i<=c.lines.length/\kg wr K c (St.yR c s i)/\aH K W wr/\ii= .int .i64 i) (λii _=>c.lines.length-(intOf ii).toNat)
 case atStart=>exact ⟨0,bm,HK.o,X,rfl⟩
 case round=>
  clear X HK;obtain ⟨i,hi,hk,X,rfl⟩:=hrel;by_cases hlt:i<c.lines.length
  .have hE:=X.ext HE.o eQ.o
   obtain ⟨b,o,ha,D⟩:=(iL.o.lines.ext hE).cs i hlt;have iR:=af (iL.o.line c.lines[i] (List.getElem_mem hlt));have vX:=af (St.oV (St.uZ c) cX.name c.lines s i hlt);obtain ⟨prev,hp,uW,A_⟩:=FN cX.name c.lines i hlt;rw [<-hp]at vX;have tq:=af A_;have HK:=af hk
   generalize c.lines[i]=x at D iR vX;have mn:(0:Int)<=(i:Int):=ae;have mq:(i:Int)<(c.lines.length:Int):=ae;replace D:=Bv D;clear hp A_ hk;rw [ha];go_upto_region 4 with fail
   generalize hW1:World.alloc _ _=W1;obtain ⟨E,tK,x1,A⟩:=aI hW1;rw [<-tK];have oY:E≠K:=dB HK.o.lt;replace F:=λY (e:aH K W1 Y)=>And.intro (F Y ((X.trans (x1.but K)).trans e)) (A.gw e oY).cs;replace F:=Bv F;have jZ:=af (X.trans (x1.but K));have kH:=af (hE.trans x1)
   replace X:=aH.refl K W1;replace HK:=af (HK.o.ext x1);clear D A hW1 x1 tK hE ha;go_wp2_with (first|((first|(go_at_call 162;refine (FL _ K c _ _ _ HK.o).mono ?_)|(go_at_call 166;refine (vV _ K c _ _ iR.o.1 prev 168 B (λh=>by rw [uW.o];exact St.zK _ _ _ h) (by rw [uW.o];omega) si.o (λV' s' j hj uf Kl=>by obtain ⟨hj',ej⟩:=tq.o j hj;rw [ej];exact OB w0 V' K B c s' j eQ.o (uf.ext (X.ext kH.o eQ.o) eQ.o) iL.o Kl (F V' (X.trans uf)).1 hj') HK.o).mono ?_)|(go_at_call 169;refine (Kj _ K c _ _ _ HK.o).mono ?_)|(go_at_call 165;refine (gj _ K c _ _ _ _ HK.o).mono ?_)|(go_at_call 163;refine (j3 _ K c _ _ _ _ _ HK.o).mono ?_)|(go_at_call 171;refine (Ow w0 _ K c _ _ _ _ _ eQ.o (X.ext kH.o eQ.o) iR.o.2.1 HK.o).mono ?_));rintro e w ⟨rfl,hk,hx⟩;replace X:=X.trans hx;replace HK:=af hk;clear hx hk)|(refine wG (aH K W1) (X.trans (ah.drew.but K)) (λav=> ?_);refine wV 0 av ?_;refine wV 1 av ?_;refine wV 2 av ?_;refine wR 3 (λKc hK=> ?_);go_simp;refine (FP _ _ _).mono ?_;rintro e z ⟨rfl,xz⟩;refine hK.o _ _ (av.trans (xz.but K)) (λav=> ?_);clear hK Kc;replace HK:=af (HK.o.ext (ah.drew.trans xz));clear xz;(try simp only [sS]);refine wV 4 av ?_;refine wB 5 av ?_;refine wB 6 av ?_;refine wB 7 av ?_;refine wB 8 av ?_;refine wP 9 av ?_;refine wR 10 (λKc hK=> ?_);go_simp;refine (gj _ K c _ _ _ _ HK.o).mono ?_;rintro e z ⟨rfl,hk,hx⟩;refine hK.o _ _ (av.trans hx) (λav=> ?_);clear hK Kc;(try simp only [sS]);refine wD ?_;replace X:=av;replace HK:=af hk;clear hk hx av))
   exact ⟨⟨i+1,ae,by rw [show St.yR c s (i+1)=_ from vX.o];exact HK.o,jZ.o.trans X,bq⟩,bz⟩
  .obtain rfl:i=c.lines.length:=ae
   go_wp2
   exact bodyPost_end (v:= .tuple #[]) aw rfl ⟨rfl,hk,HX.o.trans X⟩
def St.whole (s:St) (c:aq):St:=((((((((s.at 0 0).within 0 c.hours 1 24).pQ c 1 c.bC 0 1048576).need (decide ((1:Int)<=c.ar.length)&&decide ((c.ar.length:Int)<=32)) 2 8).need (decide ((c.lines.length:Int)<=64)) 3 8).need (decide ((c.ay.length:Int)<=16)) 4 8).need (decide ((c.stores.length:Int)<=8)) 5 8).need (decide ((c.bF.length:Int)<=8)) 6 8).need (decide ((c.outs.length:Int)<=64)) 7 8
theorem Rl (w0 V:World) (K:Nat) (c:aq) (s:St) (hK:w0.heap.size<=K) (hV:Ext w0 V) (hc:bK w0 c) (h:kg V K c s):
 Calls prog 87 #[.pointer (some ⟨K,0,none⟩)] V λe' w'=>oU V K c (s.whole c) e' w':=by
 have b2:=hc.ar.le;have rW:=hc.ar.cap;have b3:=hc.lines.le;have b3':=hc.lines.cap;have b4:=hc.ay.le;have b4':=hc.ay.cap;have b5:=hc.stores.le;have b5':=hc.stores.cap;have b6:=hc.bF.le;have b6':=hc.bF.cap;have b7:=hc.outs.le;have b7':=hc.outs.cap
 rw [List.length_map]at b2 b3 b4 b5 b6 b7;have HR:=af hc.bC;have HV:=af hV;have eQ:=af hK;have HK:=af h
 have X:=aH.refl K V;have C:=fJ HK.o
 clear hc hV hK h;rcases Bool.eq_false_or_eq_true (decide ((1:Int)<=c.ar.length))with d1|d1
 all_goals
  go_enter func87,ntmps87
  go_wp2_with ((first|(go_at_call 162;refine (FL _ K c _ _ _ HK.o).mono ?_)|(go_at_call 163;refine (j3 _ K c _ _ _ _ _ HK.o).mono ?_)|(go_at_call 165;refine (gj _ K c _ _ _ _ HK.o).mono ?_)|(go_at_call 164;refine (zQ w0 _ K c _ _ _ _ _ _ _ eQ.o (X.ext HV.o eQ.o) HR.o HK.o).mono ?_));rintro e w ⟨rfl,hk,hx⟩;replace X:=X.trans hx;replace HK:=af hk;replace C:=fJ HK.o;clear hx hk)
  exact bodyPost_end (v:= .tuple #[]) aw rfl ⟨rfl,by simpa [St.whole,d1]using HK.o,X⟩
def St.sj (c:aq) (x:cI) (prev:List ByteArray) (i:Int) (s:St):St:=((((((((s.at 4 i).name x.name prev).fc c 1 x.fc).within 2 x.capacity 0 1048576).within 3 x.initial 0 x.capacity).within 4 x.final 0 x.capacity).within 5 x.cB 0 1048576).within 6 x.discharge 0 1048576).need (jX x.en x.ed&&decide (0<x.en)&&decide (x.en<=x.ed)) 7 3
abbrev St.u9 (c:aq) (s:St) (n:Nat):St:=St.upTo (St.sj c) cI.name c.stores s n
def St.stores (s:St) (c:aq):St:=St.u9 c s c.stores.length
theorem OM (w0 V:World) (K:Nat) (c:aq) (s:St) (hK:w0.heap.size<=K) (hV:Ext w0 V) (hc:bK w0 c) (hn:c.stores.length<=1000000) (h:kg V K c s):
 Calls prog 91 #[.pointer (some ⟨K,0,none⟩)] V λe' w'=>oU V K c (s.stores c) e' w':=by
 have hle:=hc.stores.le;have eI:=hc.stores.cap
 rw [List.length_map]at hle;have si:=af (show∀args w,(callFunc 174 args).run prog w= .ok (.enter 174 args) w from enters_of func174 aw rfl);have HV:=af hV;have iL:=af hc;have eQ:=af hK;have lT:=af h.lt
 unfold St.stores;clear hc hV hK;go_enter func91,ntmps91
 go_upto_region 1 with fail
 generalize hW:World.alloc _ _=W;obtain ⟨B,hB,x0,A⟩:=aI hW;rw [<-hB];have mP:B≠K:=dB lT.o;have F:=λY (e:aH K W Y)=>(A.gw e mP).cs;replace F:=Bv F;have HK:=af (h.ext x0);have C:=fJ HK.o;have X:=aH.refl K W;have HX:=af (x0.but K);have HE:=af (HV.o.trans x0)
 clear hW A x0 hB h HV;go_wp2_with fail
 clear C;go_loopw [11] (λii wr=> ∃i:Nat,i<=c.stores.length/\kg wr K c (St.u9 c s i)/\aH K W wr/\ii= .int .i64 i) (λii _=>c.stores.length-(intOf ii).toNat)
 case atStart=>exact ⟨0,bm,HK.o,X,rfl⟩
 case round=>
  clear X HK;obtain ⟨i,hi,hk,X,rfl⟩:=hrel;by_cases hlt:i<c.stores.length
  .have hE:=X.ext HE.o eQ.o
   obtain ⟨b,o,ha,D⟩:=(iL.o.stores.ext hE).cs i hlt;have iR:=af (iL.o.store c.stores[i] (List.getElem_mem hlt));have vX:=af (St.oV (St.sj c) cI.name c.stores s i hlt);obtain ⟨prev,hp,uW,A_⟩:=FN cI.name c.stores i hlt;rw [<-hp]at vX;have tq:=af A_;have HK:=af hk
   generalize c.stores[i]=x at D iR vX;have mn:(0:Int)<=(i:Int):=ae;have mq:(i:Int)<(c.stores.length:Int):=ae;replace D:=Bv D;clear hp A_ hk;rw [ha];go_upto_region 4 with fail
   generalize hW1:World.alloc _ _=W1;obtain ⟨E,tK,x1,A⟩:=aI hW1;rw [<-tK];have oY:E≠K:=dB HK.o.lt;replace F:=λY (e:aH K W1 Y)=>And.intro (F Y ((X.trans (x1.but K)).trans e)) (A.gw e oY).cs;replace F:=Bv F;have jZ:=af (X.trans (x1.but K));have kH:=af (hE.trans x1)
   replace X:=aH.refl K W1;replace HK:=af (HK.o.ext x1);clear D A hW1 x1 tK hE ha;go_wp2_with (first|((first|(go_at_call 162;refine (FL _ K c _ _ _ HK.o).mono ?_)|(go_at_call 166;refine (vV _ K c _ _ iR.o.1 prev 174 B (λh=>by rw [uW.o];exact St.zK _ _ _ h) (by rw [uW.o];omega) si.o (λV' s' j hj uf Kl=>by obtain ⟨hj',ej⟩:=tq.o j hj;rw [ej];exact L6 w0 V' K B c s' j eQ.o (uf.ext (X.ext kH.o eQ.o) eQ.o) iL.o Kl (F V' (X.trans uf)).1 hj') HK.o).mono ?_)|(go_at_call 169;refine (Kj _ K c _ _ _ HK.o).mono ?_)|(go_at_call 163;refine (j3 _ K c _ _ _ _ _ HK.o).mono ?_));rintro e w ⟨rfl,hk,hx⟩;replace X:=X.trans hx;replace HK:=af hk;clear hx hk)|(generalize hWf:World.alloc _ _=Wf;obtain ⟨G,hG,xf,Af⟩:=aI hWf;rw [<-hG];have hGK:G≠K:=(dB HK.o.lt);have F2:=λY (e:aH K Wf Y)=>And.intro (F Y (X.trans ((xf.but K).trans e))) (Af.gw e hGK).cs;simp only [Cs,Nat.zero_add,Nat.add_zero,Nat.reduceAdd,and_true]at F2;replace HK:=af (HK.o.ext xf);replace X:=X.trans (xf.but K);clear hWf Af hG xf;refine wG (aH K Wf) (ah.drew.but K) (λav=> ?_);refine wV 0 av ?_;refine wV 1 av ?_;refine wR 2 (λKc hK=> ?_);go_simp;refine (FP _ _ _).mono ?_;rintro e z ⟨rfl,xz⟩;refine hK.o _ _ (av.trans (xz.but K)) (λav=> ?_);clear hK Kc;replace HK:=af (HK.o.ext (ah.drew.trans xz));clear xz;(try simp only [sS]);refine wV 3 av ?_;refine wB 4 av ?_;refine wB 5 av ?_;refine wB 6 av ?_;refine wP 7 av ?_;refine wV 8 av ?_;refine wB 9 av ?_;refine wB 10 av ?_;refine wB 11 av ?_;refine wB 12 av ?_;refine wB 13 av ?_;refine wP 14 av ?_;refine wR 15 (λKc hK=> ?_);go_simp;refine (gj _ K c _ _ _ _ HK.o).mono ?_;rintro e z ⟨rfl,hk,hx⟩;refine hK.o _ _ (av.trans hx) (λav=> ?_);clear hK Kc;(try simp only [sS]);refine wD ?_;replace X:=X.trans av;replace HK:=af hk;clear hk hx av F2))
   exact ⟨⟨i+1,ae,by rw [show St.u9 c s (i+1)=_ from vX.o];exact HK.o,jZ.o.trans X,bq⟩,bz⟩
  .obtain rfl:i=c.stores.length:=ae
   go_wp2
   exact bodyPost_end (v:= .tuple #[]) aw rfl ⟨rfl,hk,HX.o.trans X⟩
def St.qo (s:St) (l:List iI):St:=l.foldl (λs g=>(s.within 4 g.width 1 1048576).within 4 g.gm (-1048576) 1048576) s
def Km (l:List iI) (j:Nat):Int:=(l[j]?.map iI.gm).getD 0
def St.mb (s:St) (l:List iI) (n:Nat):St:=(List.range n).foldl (λs j=>if j=0 then s else s.need (decide (Km l (j-1)<=Km l j)) 4 11) s
def jk (l:List iI):Int:=(l.map iI.width).sum
def St.segments (s:St) (x:cw):St:=
 if(s.need (decide ((x.bR.length:Int)<=8)) 4 8).err≠0 then s.need (decide ((x.bR.length:Int)<=8)) 4 8
 else(((s.need (decide ((x.bR.length:Int)<=8)) 4 8).qo x.bR).mb x.bR x.bR.length).need (decide (jk x.bR=IntKind.i64.wrap (x.max-x.min))) 4 4
theorem DC {l:List iI} {j:Nat} (h:j<l.length):Km l j=l[j].gm:=by unfold Km;rw [List.getElem?_eq_getElem h];rfl
theorem St.IX (s:St) (l:List iI) (i:Nat) (h:i<l.length):s.qo (l.take (i+1))=((s.qo (l.take i)).within 4 l[i].width 1 1048576).within 4 l[i].gm (-1048576) 1048576:=by
 unfold St.qo;rw [List.take_succ_eq_append_getElem h,List.foldl_append];rfl
theorem rj (l:List iI) (i:Nat) (h:i<l.length):jk (l.take (i+1))=jk (l.take i)+l[i].width:=by
 unfold jk;rw [List.take_succ_eq_append_getElem h,List.map_append,List.sum_append];simp
theorem St.IY (s:St) (l:List iI) (p:Nat):s.mb l (p+1+1)=(s.mb l (p+1)).need (decide (Km l p<=Km l (p+1))) 4 11:=by
 unfold St.mb;rw [List.range_succ,List.foldl_append,List.foldl_cons,List.foldl_nil,if_neg ae];rfl
theorem St.L9 (s:St) (l:List iI) (i:Nat) (h1:1<=i) (h:l.length<=i) (h2:i<=l.length\/i=1):s.mb l i=s.mb l l.length:=by
 rcases h2 with h2|rfl
 .rw [Nat.le_antisymm h2 h]
 .have:l.length=0\/l.length=1:=ae
  rcases this with e|e<;>rw [e]<;>rfl
theorem St.DD {s:St} {ok:Bool} {f e:Int} (he:e≠0) (h:(s.need ok f e).err=0):s.err=0/\ok=true:=by
 have h0:=St.Cq h;refine ⟨h0,?_⟩;cases ok with
 |true=>rfl
 |false=>unfold St.need at h;rw [if_pos ⟨h0,rfl⟩]at h;exact absurd h he
theorem St.Ct {s:St} {f n a b:Int} (h:(s.within f n a b).err=0):s.err=0/\a<=n/\n<=b:=by
 obtain ⟨h1,h2⟩:=St.DD ai h;rw [Bool.and_eq_true,decide_eq_true_eq,decide_eq_true_eq]at h2;exact ⟨h1,h2⟩
theorem IZ (z:Int):dx (IntKind.i64.wrap z):=by unfold dx;rw [IntKind.wrap_i64];omega
theorem U1 (w0 V:World) (K:Nat) (c:aq) (s:St) (x:cw) (hK:w0.heap.size<=K) (hV:Ext w0 V) (hs:di w0 2 x.sa x.sc (x.bR.map iI.cells)) (U3: ∀g∈x.bR,lq [g.width,g.gm]) (h:kg V K c s):
 Calls prog 173 #[.pointer (some ⟨K,0,none⟩),.agg x.cells.toArray] V λe' w'=>oU V K c (s.segments x) e' w':=by
 have hle:=hs.le;have eI:=hs.cap
 rw [List.length_map]at hle;have HV:=af hV;have HS:=af hs;have Rm:=af U3;have eQ:=af hK;have lT:=af h.lt;have HK:=af h
 unfold St.segments;generalize hs1:s.need (decide ((x.bR.length:Int)<=8)) 4 8=s1;generalize hM:IntKind.i64.wrap (x.max-x.min)=M;generalize Ws:(if s1.err≠0 then s1 else((s1.qo x.bR).mb x.bR x.bR.length).need (decide (jk x.bR=M)) 4 4)=sf;have xq:=af hs1;have Hu:=af Ws
 have HL8:Hid (s1.err=0->x.bR.length<=8):=λh0=>by
  rw [<-xq.o]at h0;have:=(St.DD ai h0).2;rw [decide_eq_true_eq]at this;omega
 clear hs hV U3 h hs1 Ws hK;go_enter func173,ntmps173
 go_upto_region 1 with fail
 generalize hW:World.alloc _ _=W;obtain ⟨B,hB,x0,A⟩:=aI hW;rw [<-hB];have mP:B≠K:=dB lT.o;have F:=λY (e:aH K W Y)=>(A.gw e mP).cs;replace F:=Bv F;have X:=aH.refl K W;have HX:=af (x0.but K);have HE:=af (HV.o.trans x0)
 replace HK:=af (HK.o.ext x0);clear hW hB x0 A;go_upto_region 2 with(go_at_call 165;refine (gj _ K c _ _ _ _ HK.o).mono ?_;rintro e w ⟨rfl,hk,hx⟩;rw [xq.o]at hk;replace X:=X.trans hx;replace HK:=af hk;clear hk hx)
 obtain ⟨-,-,-,U4,-⟩:=q8 HK.o;by_cases h0:s1.err=0
 rotate_left
 .have t1:(s1.err !=0)=true:=by simpa using h0
  have hf:=Hu.o;rw [if_pos h0]at hf;have HF:=af hf;clear h0 hf;go_wp2
  exact bodyPost_ret (v:= .tuple #[]) aw rfl ⟨rfl,HF.o▸HK.o,HX.o.trans X⟩
 have t1:(s1.err !=0)=false:=by simpa using h0
 have h8:=HL8.o h0;have HE0:=af h0;clear h0;go_wp2_with fail
 clear U4 t1;go_loopw [4,22] (λvs ii wr=> ∃(i:Nat) (t:Int),i<=x.bR.length/\kg wr K c (s1.qo (x.bR.take i))/\aH K W wr/\dx t/\((s1.qo (x.bR.take i)).err=0->t=jk (x.bR.take i)/\0<=t/\t<=i*1048576)/\vs= .int .i64 t/\ii= .int .i64 i) (λ_ ii _=>x.bR.length-(intOf ii).toNat)
 case atStart=>exact ⟨0,0,bm,HK.o,X,by unfold dx;omega,λ_=>⟨rfl,ae,ae⟩,rfl,rfl⟩
 case round=>
  clear HK X;obtain ⟨i,t,hi,hk,X,ahA,Ir,rfl,rfl⟩:=hrel;by_cases hlt:i<x.bR.length
  .obtain ⟨b,o,ha,D⟩:=(HS.o.ext (X.ext HE.o eQ.o)).cs i hlt
   have Rn:=af (St.IX s1 x.bR i hlt);have Bw:=af (rj x.bR i hlt)
   have OO:=Rm.o x.bR[i] (List.getElem_mem hlt);generalize s1.qo (x.bR.take i)=s2 at*;generalize jk (x.bR.take i)=σ at*;generalize x.bR[i]=g at D Rn Bw OO;replace D:=Bv D;have HK:=af hk;have U5:=af Ir
   have mn:(0:Int)<=(i:Int):=ae;have mq:(i:Int)<(x.bR.length:Int):=ae;clear hk Ir;rw [ha];go_upto_region 7 with fail
   generalize hW1:World.alloc _ _=W1;obtain ⟨E,hE,x1,A⟩:=aI hW1;rw [<-hE];have oY:E≠K:=dB HK.o.lt;have G:=λY (e:aH K W1 Y)=>(A.gw e oY).cs;replace G:=Bv G;have jZ:=af (X.trans (x1.but K));replace X:=aH.refl K W1;replace HK:=af (HK.o.ext x1)
   clear D A hW1 x1 hE ha;obtain ⟨t',ht'⟩: ∃t',IntKind.i64.wrap (t+g.width)=t':=⟨_,rfl⟩;have H64:Hid (dx t'):=ht'▸IZ _
   have ab3:Hid (((s2.within 4 g.width 1 1048576).within 4 g.gm (-1048576) 1048576).err=0->t'=σ+g.width/\0<=t'/\t'<=((i+1:Nat):Int)*1048576):=λhe=>by
    obtain ⟨Ht,-,-⟩:=St.Ct he;obtain ⟨DF,ha1,ha2⟩:=St.Ct Ht;obtain ⟨hb1,hb2,hb3⟩:=U5.o DF;have:t'=t+g.width:=by rw [<-ht',IntKind.wrap_i64];omega
    omega
   clear OO;go_wp2_with (go_at_call 163;refine (j3 _ K c _ _ _ _ _ HK.o).mono ?_;rintro e w ⟨rfl,hk,hx⟩;replace X:=X.trans hx;replace HK:=af hk;clear hk hx)
   exact ⟨⟨i+1,t',ae,by rw [Rn.o];exact HK.o,jZ.o.trans X,H64.o,by rw [Rn.o,Bw.o];exact ab3.o,rfl,bq⟩,bz⟩
  .obtain rfl:i=x.bR.length:=ae
   rw [List.take_length]at hk Ir;have U6:kg wr K c ((s1.qo x.bR).mb x.bR 1):=hk;generalize hs2:s1.qo x.bR=s2 at Ir U6;have mf:=af hs2;have U5:=af Ir;have XZ:=af U6
   clear hk Ir U6 hs2;go_wp2
   go_loopw [7] (λii wl=> ∃i:Nat,1<=i/\(i<=x.bR.length\/i=1)/\kg wl K c (s2.mb x.bR i)/\aH K W wl/\ii= .int .i64 i) (λii _=>x.bR.length-(intOf ii).toNat)
   case atStart=>exact ⟨1,cG,Or.inr rfl,XZ.o,X,rfl⟩
   case round=>
    clear X XZ;obtain ⟨i,h1,hi,hk,X,rfl⟩:=hrel;by_cases hlt:i<x.bR.length
    .obtain ⟨p,rfl⟩: ∃p,i=p+1:=⟨i-1,ae⟩
     obtain ⟨b,o,ha,-⟩:=HS.o.cs p ae;have Ql:Hid (di w0 2 (some ⟨b,o,none⟩) x.sc (x.bR.map iI.cells)):=ha▸HS.o;have G:=λY (e:aH K W Y)=>And.intro ((Ql.o.ext (e.ext HE.o eQ.o)).cs' (p+1) hlt) ((Ql.o.ext (e.ext HE.o eQ.o)).cs' p ae);have e1:=(DC hlt).symm;have e0:=(DC (show p<x.bR.length by omega)).symm;simp only [Cs,iI.cells,Nat.zero_add,Nat.add_zero,Nat.reduceAdd,and_true,e0,e1]at G;clear e0 e1;have UZ:=af (St.IY s2 x.bR p);have HK:=af hk
     have hw:IntKind.i64.wrap (((p+1:Nat):Int)-1)=(p:Int):=nY;have hw2:IntKind.i64.wrap (p:Int)=(p:Int):=nY;have mn:(0:Int)<=((p+1:Nat):Int):=ae;have mq:((p+1:Nat):Int)<(x.bR.length:Int):=ae;have UT:(0:Int)<=(p:Int):=ae;have UU:(p:Int)<(x.bR.length:Int):=ae;have Wn:(0:Int)<=(p:Int)+1:=ae;have Wo:(p:Int)+1<(x.bR.length:Int):=ae;have bk2: ¬((p:Int)+1<0):=ae;clear hk;go_wp2_with (refine wG (aH K W) (X.trans (ah.drew.but K)) (λav=> ?_);refine wV 0 av ?_;refine wV 1 av ?_;refine wV 2 av ?_;refine wV 3 av ?_;refine wV 4 av ?_;refine wV 5 av ?_;refine wV 6 av ?_;refine wV 7 av ?_;refine wV 8 av ?_;refine wV 9 av ?_;refine wV 10 av ?_;refine wV 11 av ?_;refine wV 12 av ?_;refine wV 13 av ?_;refine wV 14 av ?_;refine wR 15 (λKc hK=> ?_);go_simp;refine (gj _ K c _ _ _ _ (HK.o.ext ah.drew)).mono ?_;rintro e w ⟨rfl,hk,hx⟩;refine hK.o _ _ (av.trans hx) (λav=> ?_);clear hK Kc;(try simp only [sS]);refine wD ?_;replace X:=av;replace HK:=af hk;clear hk hx av)
     exact ⟨⟨p+1+1,ae,Or.inl ae,by rw [UZ.o];exact HK.o,bq⟩,bz⟩
    .have hmx:=St.L9 s2 x.bR i h1 ae hi
     rw [hmx]at hk;obtain ⟨s3,hs3⟩: ∃s3,s2.mb x.bR x.bR.length=s3:=⟨_,rfl⟩
     have hz:s3.err=0->s2.err=0:=λhe=>by
      rw [<-hs3]at he;apply Classical.byContradiction;intro hne
      have key: ∀n,s2.mb x.bR n=s2:=by
       intro n;induction n with
       |zero=>rfl
       |succ n ih=>
        have e1:s2.mb x.bR (n+1)=(if n=0 then s2.mb x.bR n else(s2.mb x.bR n).need (decide (Km x.bR (n-1)<=Km x.bR n)) 4 11):=by
             unfold St.mb;rw [List.range_succ,List.foldl_append,List.foldl_cons,List.foldl_nil]
        rw [e1,ih];split
        .rfl
        .exact St.jy _ _ _ _ hne
      rw [key]at he;exact hne he
     rw [hs3]at hk
     have kd:s3.need (t==M) 4 4=s3.need (decide (jk x.bR=M)) 4 4:=by
      by_cases he:s3.err=0
      .obtain ⟨e1,-,-⟩:=U5.o (hz he)
       rw [<-e1];have hb:(t==M)=decide (t=M):=by rw [Bool.eq_iff_iff];simp
       rw [hb]
      .rw [St.jy _ _ _ _ he,St.jy _ _ _ _ he]
     have hend:s3.need (t==M) 4 4=sf:=by
      have h9:=Hu.o;rw [if_neg (λhne=>hne HE0.o),mf.o,hs3]at h9;rw [kd,h9]
     have Nu:=af hend;have HK:=af hk
     clear hk hmx hz kd hs3 hend;go_wp2_with (go_at_call 165;refine (gj _ K c s3 (t==M) _ _ HK.o).mono ?_;rintro e w ⟨rfl,hk,hx⟩;rw [Nu.o]at hk;replace X:=X.trans hx;replace HK:=af hk;clear hk hx)
     exact bodyPost_end (v:= .tuple #[]) aw rfl ⟨rfl,HK.o,HX.o.trans X⟩
