/- Texts of the proof. -/
import Derived.Test.YtkpngkdgphojlaaGreatCd16
set_option linter.all false
set_option maxHeartbeats 4000000
set_option maxRecDepth 100000
namespace Go.Proofs.YtkpngkdgphojlaaGreat
open Go.Proofs.Tryz
open Go.RowKit
structure rF (x:aF) (i bu:Nat) (hours:Int):Prop where
 name:x.name=aI 117 i
 bus:x.bus=(bu:Int)
 min:0≤x.min∧x.min≤7
 K4:1≤x.aM.length∧x.aM.length≤2
 GU: ∀g∈x.aM,1≤g.width∧g.width≤15∧ -2≤g.aX∧g.aX≤40
 FN:oq x.aM x.aM.length=true
 max:x.max=x.min+bR x.aM
 eu:0≤x.eu∧x.eu<20
 ez:0≤x.ez∧x.ez<20
 cD:0≤x.cD∧x.cD<20
 bW:x.min≤x.bW∧x.bW≤x.max
 cE:x.min≤x.cE∧x.cE≤x.max
 eE:0≤x.eE∧x.eE<3
 cF:0≤x.cF∧x.cF<3
 startTime:0≤x.startTime∧x.startTime<2
 dr:0≤x.dr∧x.dr<30
 cG:x.dr≤x.cG∧x.cG<60
 cJ:0≤x.cJ∧x.cJ<4
 aV:0≤x.aV∧x.aV<8
 bg:0≤x.bg∧x.bg<4
 NB:x.away.length≤1∧(x.away= []→x.aa=none)
 away: ∀z∈x.away,0≤z∧z<hours
 state:x.state=0∨x.state=2∨(x.state=1∧x.startTime=1)
 hours:1≤x.hours∧x.hours≤4∧(x.state=1→x.hours=1)
 output:(x.state=2→x.min≤x.output∧x.output≤x.max)∧(x.state≠2→x.output=0)
def nA:aF:=⟨{data:= #[]},0,0,0,none,0,[],0,0,0,0,0,0,0,0,0,0,0,0,0,none,0,[],0,0,0⟩
theorem je {w:World} {base:Nat} {e:TypeId} {s:Nat} {v:Value} {n:Nat} {xs:List Value} (h:w.ownsRow base e s v n xs): ∃a cap,v= .slice a n cap:=by
 rcases h.2 with⟨rfl,rfl⟩|⟨g,cap,cur,rfl,_,_,_,hc,_⟩
 ·exact ⟨none,0,rfl⟩
 ·exact ⟨_,_,rfl⟩
def gQ:Nat→Int
 |0=>0
 |1=>2
 |_=>1
theorem lu {w:World} {B iv:Nat} (h:aJ w B 3 [i64 0,i64 2,i64 1]) (hi:iv<3):w.cell? ⟨B,iv,none⟩=some (i64 (gQ iv)):=by
 rw [h.cell iv];match iv,hi with
 |0,_=>rfl
 |1,_=>rfl
 |2,_=>rfl
theorem gM (R j:Nat):(⟨R,0,none⟩:Addr).add j=⟨R,j,none⟩:=by
 by_cases h:j=0
 ·subst h;simp [Addr.add]
 ·simp [Addr.add,h]
theorem nB {P:Program} {fn:Func} {tmps:Array Value} {w:World} {R:Nat} {ty:TypeId} {cs:List Value} (k:Nat) (d:TypeDesc) (hres:fn.results= #[.cell k ty]) (ht:tmps.getD k undef= .pointer (some ⟨R,0,none⟩)) (hA:aJ w R ty cs)
 (hu:P.underlying ty=some d) (hd:(match d with| .struct _| .array _ _=>true|_=>false)=true) (hi:(P.info? ty).map (·.size)=some cs.length):(results fn tmps).run P w= .ok (.agg cs.toArray) w:=by
 have h:=kx (P:=P) w ⟨R,0,none⟩ ty cs d (fun j v hj=>by rw [gM,hA.cell j];exact hj) hu hd hi;simp only [results,hres];simp only [Array.getD_eq_getD_getElem?]at ht;simp [ht,asAddr,h]
def iU (l:List dp):List (List Value):=l.map dp.cells
theorem yV (l:List dp) (g:dp):iU (l++ [g])=iU l++ [[i64 g.width,i64 g.aX]]:=by simp [iU,dp.cells]
theorem kj (l:List dp):(iU l).length=l.length:=by simp [iU]
theorem Tryz.info_seg:(Tryz.prog.info? 138).map (fun i=>(i.zero,i.size,i.bytes))=some (some (.agg #[i64 0,i64 0]),2,16):=by kernel_rfl
structure xP (l:List dp) (aX:Int):Prop where
 GU: ∀g∈l,1≤g.width∧g.width≤15∧ -2≤g.aX∧g.aX≤40∧g.aX≤aX
 FN:oq l l.length=true
 aX: -2≤aX∧aX≤20+10*l.length
theorem Ba (l:List dp) (g:dp):bR (l++ [g])=bR l+g.width:=by unfold bR;rw [List.map_append,List.sum_append];simp
theorem xP.snoc {l:List dp} {aX w d:Int} (h:xP l aX) (hw:1≤w∧w≤15) (hl:l.length≤1) (hd:0≤d∧d<10):xP (l++ [⟨w,aX⟩]) (aX+d):=by
 have hp:=h.aX;refine ⟨?_,?_,?_⟩
 ·intro g hg
  rcases List.mem_append.1 hg with e|e
  ·have:=h.GU g e;omega
  ·rw [List.mem_singleton]at e;subst e;simp only;omega
 ·unfold oq
  rw [List.all_eq_true];intro j hj;have yy:=List.mem_range.1 hj;rw [List.length_append]at yy;simp only [List.length_cons,List.length_nil]at yy;by_cases q0:j=0
  ·subst q0;rfl
  ·have ZP:j=1∧l.length=1:=by omega
   obtain ⟨rfl,Kf⟩:=ZP
   obtain ⟨g,rfl⟩: ∃g,l= [g]:=by
    match l,Kf with
    | [g],_=>exact ⟨g,rfl⟩
   have:=h.GU g (by simp);simp [CP];omega
 ·rw [List.length_append];simp only [List.length_cons,List.length_nil];omega
theorem p_ {l:List dp} {aX:Int} (h:xP l aX):0≤bR l∧bR l≤15*l.length:=by
 have: ∀m:List dp,(∀g∈m,1≤g.width∧g.width≤15)→0≤bR m∧bR m≤15*m.length:=by
  intro m;induction m with
  |nil=>intro _;simp [bR]
  |cons g m ih=>
   intro hm;have h1:=ih (fun x hx=>hm x (List.mem_cons_of_mem _ hx));have h2:=hm g (by simp);unfold bR at*;rw [List.map_cons,List.sum_cons,List.length_cons];omega
 exact this l (fun g hg=>⟨(h.GU g hg).1,(h.GU g hg).2.1⟩)
structure UW (V:World) (T R X D:Nat) (a:Option Addr) (c:Nat) (l:List Int) (x:aF) (W:World):Prop where
 tape:aY W T a c l
 unit:aJ W X 67 x.cells
 res:aJ W R 67 nA.cells
 ext:ar T V W
 size:D≤W.heap.size
 aM:bS W 2 x.sa x.sc (x.aM.map dp.cells)
 sf:Fr D x.sa
 away:aD W x.aa x.ac x.away
 af:Fr D x.aa
 pos:T<D∧X<D∧R<D∧X≠T∧X≠R∧R≠T∧V.heap.size≤X
theorem UW.next {V W W':World} {T R X D:Nat} {a:Option Addr} {c:Nat} {l:List Int} {x:aF} (h:UW V T R X D a c l x W) (hT:aY W' T a c l) (hx:ar T W W'):UW V T R X D a c l x W':=
 ⟨hT,h.unit.but hx h.pos.2.2.2.1,h.res.but hx h.pos.2.2.2.2.2.1,h.ext.trans hx,Nat.le_trans h.size hx.size,h.aM.but hx (h.sf.ne h.pos.1),h.sf,h.away.dA hx (h.af.ne h.pos.1),h.af,h.pos⟩
theorem UW.drew {V W:World} {T R X D:Nat} {a:Option Addr} {c:Nat} {l:List Int} {x:aF} (h:UW V T R X D a c l x W):UW V T R X D a c l x W.drew:=
 h.next (h.tape.ext (Ext.refl W).drew) ((Ext.refl W).drew.but T)
theorem UW.set {V W:World} {T R X D:Nat} {a:Option Addr} {c:Nat} {l:List Int} {x:aF} (h:UW V T R X D a c l x W) (j:Nat) (v:Value) (x':aF) (hc:x'.cells=x.cells.set j v) (hs:x'.sa=x.sa∧x'.sc=x.sc∧x'.aM=x.aM∧x'.aa=x.aa∧x'.ac=x.ac∧x'.away=x.away):UW V T R X D a c l x' (W.setCell ⟨X,j,none⟩ v):=by
 obtain ⟨h1,h2,h3,h4,h5,h6⟩:=hs;have hx:=((ar.refl X W).gD (o:=j) (v:=v));refine ⟨h.tape.but hx h.pos.2.2.2.1.symm,by rw [hc];exact h.unit.set j v,h.res.but hx h.pos.2.2.2.2.1.symm,h.ext.setCell (p:=⟨X,j,none⟩) h.pos.2.2.2.2.2.2 _,Nat.le_trans h.size hx.size,?_,by rw [h1];exact h.sf,?_,by rw [h4];exact h.af,h.pos⟩
 ·rw [h1,h2,h3];exact h.aM.but hx (h.sf.ne h.pos.2.1)
 ·rw [h4,h5,h6];exact h.away.dA hx (h.af.ne h.pos.2.1)
theorem K5 (w0 V:World) (T:Nat) (a:Option Addr) (c:Nat) (l:List Int) (i nb:Nat) (hours:Int) (hK:w0.heap.size≤T) (hV:Ext w0 V) (hl:aD w0 a c l) (hT:aY V T a c l) (hi:i<16) (PO:0<nb) (Re:nb<1000) (hh:0<hours) (Ik:hours<1000):
 Calls prog 35 #[.pointer (some ⟨T,0,none⟩),.int .i64 (i:Int),.int .i64 (nb:Int),i64 hours] V fun e w'=> ∃(x:aF) (bu:Nat),e= .returned (.agg x.cells.toArray)∧bu<nb∧rF x i bu hours∧aD w' x.aa x.ac x.away∧Fr V.heap.size x.aa∧bS w' 2 x.sa x.sc (x.aM.map dp.cells)∧Fr V.heap.size x.sa∧jX V T a c l w':=by
 have fL:=ae (eW.of w0 V T a c l hK hV hl);have NC:=ae (fun U (hx:ar T V U) (hU:aY U T a c l)=>Es w0 U T a c l hours hK (hx.ext hV hK) hl hU hh (by omega));have CO:=ae (fun U=>tW U 117 i hi);have HT:=ae hT;have fM:=ae hT.lt;have jE:=ae (And.intro PO Re);clear hK hV hl hT hi hh Ik PO Re;go_enter func35,ntmps35
 go_upto_region 1 with fail
 obtain ⟨W0,hW,x0,Z0,A0⟩:=aH V 67 nA.cells;rw [show V.alloc (.cells #[.string {data:= #[]},i64 0,i64 0,i64 0,.slice none 0 0,i64 0,i64 0,i64 0,i64 0,i64 0,i64 0,i64 0,i64 0,i64 0,i64 0,i64 0,i64 0,i64 0,.slice none 0 0,i64 0,i64 0,i64 0] 67)=W0 from hW.symm];obtain ⟨R,hR⟩: ∃R,R=V.heap.size:=⟨_,rfl⟩;rw [←hR]at A0⊢;have p9:R≠T:=by have:=fM.o;omega
 have GP:Hid (V.heap.size≤R):=by show _≤_;omega
 have HR:=ae A0;have HX:=ae (x0.but T);have HT:=ae (HT.o.ext x0)
 clear hW Z0 A0 hR x0;go_wp2_with fail
 refine (CO.o W0).mono ?_;rintro e w1 ⟨rfl,fK⟩;rw [fK];clear fK
 go_wp2_with fail
 refine (fL.o W0 (nb:Int) HX.o HT.o (by have:=jE.o.1;omega) (by have:=jE.o.2;omega)).mono ?_;rintro e W1 ⟨bz,rfl,Wn,hT,hx⟩;have HX:=ae (HX.o.trans hx);have HT:=ae hT;have HR:=ae (HR.o.but hx p9)
 clear hT hx;obtain ⟨bu,Rf⟩: ∃bu:Nat,bz=(bu:Int):=⟨bz.toNat,by omega⟩;subst Rf;have HBU:Hid (bu<nb):=by show _<_;omega
 clear Wn;go_wp2_with fail
 refine (fL.o W1 8 HX.o HT.o (by decide) (by decide)).mono ?_;rintro e W2 ⟨mn,rfl,Rg,hT,hx⟩;have HX:=ae (HX.o.trans hx);have HT:=ae hT;have HR:=ae (HR.o.but hx p9)
 clear hT hx;go_wp2_with fail
 refine (fL.o W2 20 HX.o HT.o (by decide) (by decide)).mono ?_;rintro e W3 ⟨nl,rfl,Rh,hT,hx⟩;have HX:=ae (HX.o.trans hx);have HT:=ae hT;have HR:=ae (HR.o.but hx p9)
 clear hT hx;go_upto_region 2 with(refine dw rfl 67 _ _ rfl nA.cells (⟨aI 117 i,(bu:Int),mn,0,none,0,[],nl,0,0,0,0,0,0,0,0,0,0,0,0,none,0,[],0,0,0⟩:aF).cells rfl rfl (by kernel_rfl) rfl rfl ?_)
 obtain ⟨WX,Mv,xx,ZX,AX⟩:=aH W3 67 (⟨aI 117 i,(bu:Int),mn,0,none,0,[],nl,0,0,0,0,0,0,0,0,0,0,0,0,none,0,[],0,0,0⟩:aF).cells;rw [←Mv];obtain ⟨X,Ki⟩: ∃X,X=W3.heap.size:=⟨_,rfl⟩;rw [←Ki]at AX⊢;have pz:X≠T:=by have:=HT.o.lt;omega
 have Ev:X≠R:=by have:=HR.o.lt;omega
 have GW:Hid (V.heap.size≤X):=by show _≤_;rw [Ki];exact HX.o.size
 have HA:=ae AX;have HX:=ae (HX.o.trans (xx.but T));have HT:=ae (HT.o.ext xx);have HR:=ae (HR.o.ext xx)
 clear Mv Ki ZX AX xx CO;have Ri:=ae Rg;clear Rg;have Wo:=ae Rh;clear Rh;have c2:=HA.o.cl 2 (i64 mn) rfl;have c3:=HA.o.cl 3 (i64 0) rfl;have f3:=HA.o.frozen 3;have tB:Hid (aJ (WX.setCell ⟨X,3,none⟩ (i64 mn)) X 67 (⟨aI 117 i,(bu:Int),mn,mn,none,0,[],nl,0,0,0,0,0,0,0,0,0,0,0,0,none,0,[],0,0,0⟩:aF).cells):=(HA.o).set 3 (i64 mn)
 have mX:Hid (aY (WX.setCell ⟨X,3,none⟩ (i64 mn)) T a c l):=by
  obtain ⟨j,hj,hA⟩:=HT.o;exact ⟨j,hj,(hA).other _ _ pz⟩
 have fg:Hid (ar T V (WX.setCell ⟨X,3,none⟩ (i64 mn))):=(HX.o).setCell (p:=⟨X,3,none⟩) GW.o _;have tU:Hid (aJ (WX.setCell ⟨X,3,none⟩ (i64 mn)) R 67 nA.cells):=(HR.o).other _ _ Ev;clear HA HT HX HR;go_upto_region 3 with fail
 generalize (WX.setCell ⟨X,3,none⟩ (i64 mn))=W4 at*;have HA:=tB;have HT:=mX;have HX:=fg;have HR:=tU
 clear tB mX fg tU c2 c3 f3;go_wp2_with fail
 refine (fL.o W4 20 HX.o HT.o (by decide) (by decide)).mono ?_;rintro e W5 ⟨pr,rfl,Wp,hT,hx⟩;have HX:=ae (HX.o.trans hx);have HT:=ae hT;have HR:=ae (HR.o.but hx p9);have HA:=ae (HA.o.but hx pz)
 clear hT hx;have q1:IntKind.i64.wrap (pr-2)=pr-2:=by rw [IntKind.wrap_i64];omega
 obtain ⟨p0,Uq⟩: ∃p0,p0=pr-2:=⟨_,rfl⟩;have HP0:Hid (-2≤p0∧p0≤17):=by show _∧_;omega
 go_wp2_with fail
 refine (fL.o W5 2 HX.o HT.o (by decide) (by decide)).mono ?_;rintro e W6 ⟨nn,rfl,Wq,hT,hx⟩;have HX:=ae (HX.o.trans hx);have HT:=ae hT;have HR:=ae (HR.o.but hx p9);have HA:=ae (HA.o.but hx pz)
 clear hT hx;have q2:IntKind.i64.wrap (1+nn)=1+nn:=by rw [IntKind.wrap_i64];omega
 obtain ⟨nr,hnr⟩: ∃nr:Nat,1+nn=(nr:Int):=⟨(1+nn).toNat,by omega⟩;have Rj:Hid (1≤nr∧nr≤2):=by show _∧_;omega
 go_wp2_with fail
 rw [←Uq];clear q1 q2 Uq hnr Wp Wq;have ZQ:=Ri;have Di:Hid (T<W6.heap.size):=HT.o.lt;have Rk:Hid (X<W6.heap.size):=HA.o.lt;have Ws:Hid (R<W6.heap.size):=HR.o.lt;have PK:Hid (V.heap.size≤W6.heap.size):=HX.o.size;go_loopw [10,11] (fun pv nv wr=> ∃(k:Nat) (sg:List dp) (sa:Option Addr) (sc:Nat) (aX:Int),k≤nr∧sg.length=k∧xP sg aX∧aN wr W6.heap.size 138 2 (.slice sa sg.length sc) (iU sg)∧aJ wr X 67 (⟨aI 117 i,(bu:Int),mn,mn+bR sg,sa,sc,sg,nl,0,0,0,0,0,0,0,0,0,0,0,0,none,0,[],0,0,0⟩:aF).cells∧aY wr T a c l∧ar T V wr∧aJ wr R 67 nA.cells∧W6.heap.size≤wr.heap.size∧pv= .int .i64 aX∧nv= .int .i64 ((nr-k:Nat):Int)) (fun _ nv _=>(intOf nv).toNat)
 case atStart=>exact ⟨0,[],none,0,p0,Nat.zero_le _,rfl,⟨fun g hg=>absurd hg (by simp),rfl,by have:=HP0.o;simp only [List.length_nil];omega⟩,aN.nil _ _ _ _,by simpa [bR]using HA.o,HT.o,HX.o,HR.o,Nat.le_refl _,rfl,rfl⟩
 case round=>
  obtain ⟨k,sg,sa,sc,aX,hk,Il,hsm,hown,hA,hT,hX,hR,hD,rfl,rfl⟩:=hrel;clear HA HT HX HR;have HA:=ae hA;have HT:=ae hT;have HX:=ae hX;have HR:=ae hR;have HO:=ae hown;have HD:=ae hD;have wb:=ae hsm;have Mw:=ae Il
  clear hA hT hX hR hown hD hsm Il;by_cases hlt:k<nr
  ·as_aux_lemma=>
   have b0:(0:Int)<((nr-k:Nat):Int):=by omega
   have KG:k≤1:=by have:=Rj.o;omega
   go_wp2_with fail
   refine (fL.o wr 15 HX.o HT.o (by decide) (by decide)).mono ?_;rintro e W7 ⟨wd,rfl,Wu,hT,hx⟩;have Im:=hx;have Ex:=hx.size
   have HX:=ae (HX.o.trans hx);have HT:=ae hT;have HR:=ae (HR.o.but hx p9);have HA:=ae (HA.o.but hx pz)
   clear hT hx;have q1:IntKind.i64.wrap (1+wd)=1+wd:=by rw [IntKind.wrap_i64];omega
   obtain ⟨w1,fK⟩: ∃w1,w1=1+wd:=⟨_,rfl⟩;have Ur:Hid (1≤w1∧w1≤15):=by show _∧_;omega
   go_upto_region 8 with fail
   rw [←fK];clear q1 fK Wu;obtain ⟨WB,ZR,xb,ZB,AB⟩:=aH W7 138 [i64 w1,i64 aX];rw [show W7.alloc (.cells #[i64 w1,i64 aX] 138)=WB from ZR.symm];obtain ⟨B,Rl⟩: ∃B,B=W7.heap.size:=⟨_,rfl⟩;rw [←Rl]at AB⊢;have yX:B≠T:=by have:=HT.o.lt;omega
   have NG:B≠X:=by have:=HA.o.lt;omega
   have hBR:B≠R:=by have:=HR.o.lt;omega
   have ZT:Hid (V.heap.size≤B):=by show _≤_;rw [Rl];exact HX.o.size
   have hDB:W6.heap.size≤B:=by rw [Rl];exact Nat.le_trans HD.o Ex
   have K1:=ae (HO.o.but Im Di.o);have HO:Hid (aN WB W6.heap.size 138 2 (.slice sa sg.length sc) (iU sg)):=K1.o.ext xb;have NI:=K1.o.own.lt;rw [←Rl]at NI;have QC:=ae NI;have HA:=ae (HA.o.ext xb);have HX:=ae (HX.o.trans (xb.but T));have HT:=ae (HT.o.ext xb);have HR:=ae (HR.o.ext xb);have HB:=ae AB
   clear ZR Rl ZB AB xb Ex Im NI K1;obtain ⟨mx,hmx⟩: ∃mx,mx=mn+bR sg:=⟨_,rfl⟩
   have Io:Hid (0≤mx∧mx≤30):=by
    show _∧_;have h1:=ZQ.o;have h2:=p_ wb.o;have h3:=Mw.o
    omega
   have Wv:=ae hmx;rw [←hmx]at HA;clear hmx;have c0:=HB.o.cl 0 (i64 w1) rfl;have c1:=HB.o.cl 1 (i64 aX) rfl;have c4:=HA.o.cl 4 (.slice sa sg.length sc) rfl
   have HOW:Hid (WB.ownsRow W6.heap.size 138 2 (.slice sa sg.length sc) sg.length (iU sg).flatten):=by
    have h5:=HO.o.own;rw [kj]at h5;exact h5
   have Ww:W6.heap.size≤WB.heap.size:=by have:=HB.o.lt;omega
   obtain ⟨Cv,NJ⟩: ∃Cv,Cv=sg++ [(⟨w1,aX⟩:dp)]:=⟨_,rfl⟩;have Kd:Hid (sg.length+1=Cv.length):=by show _=_;rw [NJ,List.length_append];rfl
   have NK:=ae NJ;clear NJ
   go_wp2_with (
    at_builtin
    refine aW _ rfl _ _ 65 rfl W6.heap.size 138 (.agg #[i64 0,i64 0]) 2 16 underlying65 Tryz.info_seg rfl (by decide) (.slice sa sg.length sc) sg.length (iU sg).flatten rfl ?c1 (some ⟨WB.heap.size,0,none⟩) 1 1 [i64 w1,i64 aX] rfl rfl ?c2 ?c3 ?c4 ?c5 (by decide) ?c6 ?_
    case c1=>exact bq HOW.o ((Ext.refl _).alloc _)
    case c2=>exact fun _=>⟨_,rfl,cu WB 138 [i64 w1,i64 aX]⟩
    case c3=>intro u hu;rcases List.mem_cons.1 hu with e|hu;·subst e;rfl
             rw [List.mem_singleton]at hu;subst hu;rfl
    case c4=>intro e;cases e
    case c5=>have:=Mw.o;omega
    case c6=>simp;omega
    intro v1 w5 ho he hb hz hv;obtain ⟨Cw,Cx,rfl⟩:=je ho.o;have kd:=HOW.o.lt;have zU:(WB.alloc (.cells #[i64 w1,i64 aX] 138)).heap.size=WB.heap.size+1:=by simp
    have Us: ∀k,Value.ownBlock (.slice sa sg.length sc)=some k→W6.heap.size≤k∧k<B:=by
     exact QC.o
    have QT:=HT.o.lt;have hXl:=HA.o.lt;have QK:=HR.o.lt;have hBl:=HB.o.lt
    have A_:aY w5 T a c l:=aY.keep (HT.o.ext ((Ext.refl WB).alloc _)) (hb.o T (by omega) (fun e=>by have:=(kd T e.symm).1;have:=Di.o;omega));have ZU:ar T V w5:=ar.append (HX.o.alloc' _) PK.o (fun k e=>(kd k e).1) he.o hb.o hz.o;have ZW:aJ w5 X 67 _:=(HA.o.ext ((Ext.refl WB).alloc _)).keep (hb.o X (by omega) (fun e=>by have:=(kd X e.symm).1;have:=Rk.o;omega));have ZY:aJ w5 R 67 _:=(HR.o.ext ((Ext.refl WB).alloc _)).keep (hb.o R (by omega) (fun e=>by have:=(kd R e.symm).1;have:=Ws.o;omega));have ZZ:aJ w5 B 138 [i64 w1,i64 aX]:=(HB.o.ext ((Ext.refl WB).alloc _)).keep (hb.o B (by omega) (fun e=>by have:=(Us B e.symm).2;omega));have i5:=HO.o.snoc (w':=w5) (r:= [i64 w1,i64 aX]) rfl (by rw [kj];exact ho.o);have K6:=yV sg ⟨w1,aX⟩;simp only at K6;rw [←K6,←NK.o]at i5;rw [Kd.o]at i5⊢;have Rm:W6.heap.size≤w5.heap.size:=by have:=hz.o;omega
    clear HA HT HX HR HB HO QC;have HA:=ae ZW;have HT:=ae A_;have HX:=ae ZU;have HR:=ae ZY;have HB:=ae ZZ;have HO:=ae i5;have Wx:=ae Rm
    clear ZW A_ ZU ZY ZZ i5 K6 QT hXl QK hBl Us zU kd ho he hb hz hv HOW Rm Ww c0 c1 c4;have c4:=HA.o.cl 4 (.slice sa sg.length sc) rfl;have f4:=HA.o.frozen 4)
   go_upto_region 9 with fail
   obtain ⟨W8,GX⟩: ∃W8,W8=w5.setCell ⟨X,4,none⟩ (.slice Cw Cv.length Cx):=⟨_,rfl⟩;rw [←GX];have tB:Hid (aJ W8 X 67 (⟨aI 117 i,(bu:Int),mn,mx,Cw,Cx,Cv,nl,0,0,0,0,0,0,0,0,0,0,0,0,none,0,[],0,0,0⟩:aF).cells):=by rw [GX];exact HA.o.set 4 (.slice Cw Cv.length Cx)
   have mX:Hid (aY W8 T a c l):=by
    rw [GX];obtain ⟨j,hj,hA⟩:=HT.o;exact ⟨j,hj,hA.other _ _ pz⟩
   have fg:Hid (ar T V W8):=by rw [GX];exact HX.o.setCell (p:=⟨X,4,none⟩) GW.o _
   have tU:Hid (aJ W8 R 67 nA.cells):=by rw [GX];exact HR.o.other _ _ Ev
   have q9:Hid (aJ W8 B 138 [i64 w1,i64 aX]):=by rw [GX];exact HB.o.other _ _ NG.symm
   have zV:Hid (aN W8 W6.heap.size 138 2 (.slice Cw Cv.length Cx) (iU Cv)):=by rw [GX];exact HO.o.but ((ar.refl X w5).gD) Rk.o
   have Ut:Hid (W6.heap.size≤W8.heap.size):=by have:=Wx.o;have h5:=((ar.refl X w5).gD (o:=4) (v:= .slice Cw Cv.length Cx)).size;rw [←GX]at h5;show _≤_;omega
   clear HA HT HX HR HB HO Wx c4 f4 GX;have HA:=tB;have HT:=mX;have HX:=fg;have HR:=tU;have HB:=q9;have HO:=zV;have HZ:=Ut
   clear tB mX fg tU q9 zV Ut;have c3:=HA.o.cl 3 (i64 mx) rfl;have c0:=HB.o.cl 0 (i64 w1) rfl;have q1:IntKind.i64.wrap (mx+w1)=mx+w1:=by rw [IntKind.wrap_i64];have:=Io.o;have:=Ur.o;omega
   refine aB (fun w'=>True) (fun w'=>w'.cell? ⟨X,3,none⟩=some (i64 mx)∧w'.cell? ⟨B,0,none⟩=some (i64 w1)) (fun i=>i==10) (by kernel_rfl) (trivial) (⟨c3,c0⟩) (fun aq ah=> ?_);refine ay 0 aq ah ?_;refine kr 1 aq ah ?_ (v:=i64 mx);refine ay 2 aq ah ?_;refine kr 3 aq ah ?_ (v:=i64 w1);refine ay 4 aq ah ?_ (v:=i64 (mx+w1));refine ay 5 aq ah ?_ (v:=i64 aX);refine ay 6 aq ah ?_;refine ay 9 aq ah ?_;refine dX 7 rfl (fun Kc hK=> ?_);go_simp;refine (fL.o W8.drew 10 (HX.o.trans ((Ext.refl W8).drew.but T)) (HT.o.ext (Ext.refl _).drew) (by decide) (by decide)).mono ?_;rintro e W9 ⟨d,rfl,Z7,hT,hx⟩;refine hK.o _ _ (trivial) (⟨bL (aj (Ext.refl W8).drew c3) hx pz,bL (aj (Ext.refl W8).drew c0) hx yX⟩) (fun aq ah=> ?_);clear hK Kc;try simp only [sS]
   have q2:IntKind.i64.wrap (aX+d)=aX+d:=by rw [IntKind.wrap_i64];have:=wb.o.aX;have:=Mw.o;omega
   refine ay 8 aq ah ?_ (v:=i64 (aX+d));have NL:=(HA.o.ext (Ext.refl W8).drew).but hx pz;have f3:=NL.frozen 3;have e3:W9.cell? ⟨X,3,none⟩=some (i64 mx):=(NL.cell 3).trans rfl
   refine aQ (rs:= [10]) (by kernel_rfl) (by simp) ?_;refine aA.late rfl (by kernel_rfl) (fun Kc hK=> ?_) aA.nil;go_simp;refine hK.o _ _ (trivial) (fun aq=> ?_);clear hK Kc;try simp only [sS]
   refine Vv 11 aq ?_ (v:=i64 (aX+d));refine ax (by kernel_rfl) ?_ _;clear aq
   have tB:Hid (aJ (W9.setCell ⟨X,3,none⟩ (i64 (mx+w1))) X 67 (⟨aI 117 i,(bu:Int),mn,mn+bR Cv,Cw,Cx,Cv,nl,0,0,0,0,0,0,0,0,0,0,0,0,none,0,[],0,0,0⟩:aF).cells):=by
    have h5:=NL.set 3 (i64 (mx+w1));have h6:mx+w1=mn+bR Cv:=by rw [NK.o,Ba,Wv.o];show _=mn+(bR sg+w1);omega
    rw [h6]at h5⊢;exact h5
   have QX:=hT;have Z8:=(HX.o.trans ((Ext.refl W8).drew.but T)).trans hx
   have mX:Hid (aY (W9.setCell ⟨X,3,none⟩ (i64 (mx+w1))) T a c l):=by
    obtain ⟨j,hj,hA⟩:=QX;exact ⟨j,hj,hA.other _ _ pz⟩
   have fg:Hid (ar T V (W9.setCell ⟨X,3,none⟩ (i64 (mx+w1)))):=Z8.setCell (p:=⟨X,3,none⟩) GW.o _;have tU:Hid (aJ (W9.setCell ⟨X,3,none⟩ (i64 (mx+w1))) R 67 nA.cells):=((HR.o.ext (Ext.refl W8).drew).but hx p9).other _ _ Ev;have zV:Hid (aN (W9.setCell ⟨X,3,none⟩ (i64 (mx+w1))) W6.heap.size 138 2 (.slice Cw Cv.length Cx) (iU Cv)):=((HO.o.ext (Ext.refl W8).drew).but hx Di.o).but ((ar.refl X W9).gD) Rk.o
   have Ut:Hid (W6.heap.size≤(W9.setCell ⟨X,3,none⟩ (i64 (mx+w1))).heap.size):=by
    have:=HZ.o;have h5:=hx.size;have h6:=((Ext.refl W8).drew).size
    show _≤_;rw [World.size_setCell];omega
   have Wy:Hid (xP Cv (aX+d)):=by rw [NK.o];exact wb.o.snoc Ur.o (by rw [Mw.o];exact KG) Z7
   generalize (W9.setCell ⟨X,3,none⟩ (i64 (mx+w1)))=v_ at*;clear HA HT HX HR HB HO HZ QX Z8 NL e3 f3 c3 c0 q1 q2 hT hx Z7;have q3:IntKind.i64.wrap (((nr-k:Nat):Int)-1)=((nr-(k+1):Nat):Int):=by rw [IntKind.wrap_i64];have:=Rj.o;omega
   go_wp2_with fail
   exact ⟨⟨k+1,Cv,Cw,Cx,aX+d,by omega,by have:=Kd.o;have:=Mw.o;omega,Wy.o,zV.o,tB.o,mX.o,fg.o,tU.o,Ut.o,rfl,rfl⟩,by show(((nr-(k+1):Nat):Int)).toNat<(((nr-k:Nat):Int)).toNat;omega⟩
  ·obtain rfl:k=nr:=by omega
   clear hlt hk;rw [Nat.sub_self k,show((0:Nat):Int)=0 from rfl];obtain ⟨mx,hmx⟩: ∃mx,mx=mn+bR sg:=⟨_,rfl⟩
   have Io:Hid (mn≤mx∧mx≤40∧0≤mn):=by
    show _∧_;have h1:=ZQ.o;have h2:=p_ wb.o;have h3:=Mw.o;have h4:=Rj.o
    omega
   have Wz:=ae hmx;rw [←hmx]at HA;clear hmx
   have HU:Hid (UW V T R X W6.heap.size a c l (⟨aI 117 i,(bu:Int),mn,mx,sa,sc,sg,nl,0,0,0,0,0,0,0,0,0,0,0,0,none,0,[],0,0,0⟩:aF) wr):=by
    obtain ⟨ra,rc,sK,Bb,Ey⟩:=HO.o.recs (by decide);rw [kj]at sK;cases sK
    exact ⟨HT.o,HA.o,HR.o,HX.o,HD.o,Bb,Ey,aD.nil _,Fr.none _,⟨Di.o,Rk.o,Ws.o,pz,Ev,p9,GW.o⟩⟩
   have Rn:=PK;clear HT HA HR HX HD HO Di Rk Ws PK;go_wp2_with fail
   refine (fL.o wr 20 HU.o.ext HU.o.tape (by decide) (by decide)).mono ?_;rintro e W8 ⟨ru,rfl,Ro,hT,hx⟩;replace HU:=ae (HU.o.next hT hx);clear hT hx;have WA:=ae Ro;clear Ro;go_wp2_with fail
   refine (fL.o W8 20 HU.o.ext HU.o.tape (by decide) (by decide)).mono ?_;rintro e W9 ⟨rd,rfl,Rp,hT,hx⟩;replace HU:=ae (HU.o.next hT hx);clear hT hx;have WG:=ae Rp;clear Rp;have c6:=HU.o.unit.cl 6 (i64 0) rfl;have f6:=HU.o.unit.frozen 6;have c7:=HU.o.unit.cl 7 (i64 0) rfl;have f7:=HU.o.unit.frozen 7;replace HU:Hid (UW V T R X W6.heap.size a c l (⟨aI 117 i,(bu:Int),mn,mx,sa,sc,sg,nl,ru,0,0,0,0,0,0,0,0,0,0,0,none,0,[],0,0,0⟩:aF) (W9.setCell ⟨X,6,none⟩ (i64 ru))):=HU.o.set 6 (i64 ru) _ rfl ⟨rfl,rfl,rfl,rfl,rfl,rfl⟩;replace HU:Hid (UW V T R X W6.heap.size a c l (⟨aI 117 i,(bu:Int),mn,mx,sa,sc,sg,nl,ru,rd,0,0,0,0,0,0,0,0,0,0,none,0,[],0,0,0⟩:aF) ((W9.setCell ⟨X,6,none⟩ (i64 ru)).setCell ⟨X,7,none⟩ (i64 rd))):=HU.o.set 7 (i64 rd) _ rfl ⟨rfl,rfl,rfl,rfl,rfl,rfl⟩;go_upto_region 11 with fail
   clear c6 f6 c7 f7;generalize ((W9.setCell ⟨X,6,none⟩ (i64 ru)).setCell ⟨X,7,none⟩ (i64 rd))=v_ at*;have PQ:Hid (0<mx-mn+1∧mx-mn+1<100):=by have:=Io.o;show _∧_;omega
   have q1:IntKind.i64.wrap (mx-mn)=mx-mn:=by rw [IntKind.wrap_i64];have:=Io.o;omega
   have q2:IntKind.i64.wrap (mx-mn+1)=mx-mn+1:=by rw [IntKind.wrap_i64];have:=Io.o;omega
   refine aB (fun w'=>w'.cell? ⟨X,2,none⟩=some (i64 mn)∧w'.cell? ⟨X,3,none⟩=some (i64 mx)) (fun w'=>True) (fun i=>false) (by kernel_rfl) (⟨(HU.o.unit.cell 2).trans rfl,(HU.o.unit.cell 3).trans rfl⟩) (trivial) (fun aq ah=> ?_);refine ay 0 aq ah ?_;refine ay 1 aq ah ?_ (v:=i64 mn);refine ay 2 aq ah ?_;refine ay 3 aq ah ?_;refine ay 4 aq ah ?_ (v:=i64 mx);refine ay 5 aq ah ?_;refine ay 6 aq ah ?_ (v:=i64 mn);refine ay 7 aq ah ?_ (v:=i64 (mx-mn));refine ay 8 aq ah ?_ (v:=i64 (mx-mn+1));refine ay 11 aq ah ?_;refine ay 12 aq ah ?_ (v:=i64 mn);refine ay 13 aq ah ?_;refine ay 14 aq ah ?_;refine ay 15 aq ah ?_ (v:=i64 mx);refine ay 16 aq ah ?_;refine ay 17 aq ah ?_ (v:=i64 mn);refine ay 18 aq ah ?_ (v:=i64 (mx-mn));refine ay 19 aq ah ?_ (v:=i64 (mx-mn+1));replace HU:=ae (HU.o.drew);refine dX 9 rfl (fun Kc hK=> ?_);go_simp;refine (fL.o v_.drew (mx-mn+1) HU.o.ext HU.o.tape PQ.o.1 (by have:=PQ.o.2;omega)).mono ?_;rintro e Z9 ⟨sr,rfl,Rq,hT,hx⟩;replace HU:=ae (HU.o.next hT hx);clear hT hx;have Rs:=ae Rq;clear Rq;refine hK.o _ _ (⟨(HU.o.unit.cell 2).trans rfl,(HU.o.unit.cell 3).trans rfl⟩) (trivial) (fun aq ah=> ?_);clear hK Kc;try simp only [sS]
   have q3:IntKind.i64.wrap (mn+sr)=mn+sr:=by rw [IntKind.wrap_i64];have:=Io.o;have:=Rs.o;omega
   refine ay 10 aq ah ?_ (v:=i64 (mn+sr));refine ay 22 aq ah ?_;refine dX 20 rfl (fun Kc hK=> ?_);go_simp;refine (fL.o Z9 (mx-mn+1) HU.o.ext HU.o.tape PQ.o.1 (by have:=PQ.o.2;omega)).mono ?_;rintro e Z_ ⟨tr,rfl,Rt,hT,hx⟩;replace HU:=ae (HU.o.next hT hx);clear hT hx;have Ru:=ae Rt;clear Rt;refine hK.o _ _ (⟨(HU.o.unit.cell 2).trans rfl,(HU.o.unit.cell 3).trans rfl⟩) (trivial) (fun aq ah=> ?_);clear hK Kc;try simp only [sS]
   have q4:IntKind.i64.wrap (mn+tr)=mn+tr:=by rw [IntKind.wrap_i64];have:=Io.o;have:=Ru.o;omega
   refine ay 21 aq ah ?_ (v:=i64 (mn+tr));have c8:=HU.o.unit.cl 8 (i64 0) rfl;have f8:=HU.o.unit.frozen 8;refine dX 23 rfl (fun Kc hK=> ?_);go_simp;replace HU:Hid (UW V T R X W6.heap.size a c l (⟨aI 117 i,(bu:Int),mn,mx,sa,sc,sg,nl,ru,rd,mn+sr,0,0,0,0,0,0,0,0,0,none,0,[],0,0,0⟩:aF) (Z_.setCell ⟨X,8,none⟩ (i64 (mn+sr)))):=HU.o.set 8 (i64 (mn+sr)) _ rfl ⟨rfl,rfl,rfl,rfl,rfl,rfl⟩;generalize (Z_.setCell ⟨X,8,none⟩ (i64 (mn+sr)))=Z' at*;refine hK.o _ _ (⟨(HU.o.unit.cell 2).trans rfl,(HU.o.unit.cell 3).trans rfl⟩) (trivial) (fun aq ah=> ?_);clear hK Kc;try simp only [sS]
   clear c8 f8;refine ay 24 aq ah ?_;have c9:=HU.o.unit.cl 9 (i64 0) rfl;have f9:=HU.o.unit.frozen 9;refine dX 25 rfl (fun Kc hK=> ?_);go_simp;replace HU:Hid (UW V T R X W6.heap.size a c l (⟨aI 117 i,(bu:Int),mn,mx,sa,sc,sg,nl,ru,rd,mn+sr,mn+tr,0,0,0,0,0,0,0,0,none,0,[],0,0,0⟩:aF) (Z'.setCell ⟨X,9,none⟩ (i64 (mn+tr)))):=HU.o.set 9 (i64 (mn+tr)) _ rfl ⟨rfl,rfl,rfl,rfl,rfl,rfl⟩;generalize (Z'.setCell ⟨X,9,none⟩ (i64 (mn+tr)))=W14 at*;refine hK.o _ _ (⟨(HU.o.unit.cell 2).trans rfl,(HU.o.unit.cell 3).trans rfl⟩) (trivial) (fun aq ah=> ?_);clear hK Kc;try simp only [sS]
   clear c9 f9;refine ax (by kernel_rfl) ?_ _;clear aq ah q1 q2 q3 q4;go_wp2_with fail
   refine (fL.o W14 3 HU.o.ext HU.o.tape (by decide) (by decide)).mono ?_;rintro e W15 ⟨ut,rfl,Rv,hT,hx⟩;replace HU:=ae (HU.o.next hT hx);clear hT hx;have WH:=ae Rv;clear Rv;go_wp2_with fail
   refine (fL.o W15 3 HU.o.ext HU.o.tape (by decide) (by decide)).mono ?_;rintro e W16 ⟨dt,rfl,Rw,hT,hx⟩;replace HU:=ae (HU.o.next hT hx);clear hT hx;have WI:=ae Rw;clear Rw;go_wp2_with fail
   refine (fL.o W16 2 HU.o.ext HU.o.tape (by decide) (by decide)).mono ?_;rintro e Uu ⟨st,rfl,Rx,hT,hx⟩;replace HU:=ae (HU.o.next hT hx);clear hT hx;have Ip:=ae Rx;clear Rx;have c10:=HU.o.unit.cl 10 (i64 0) rfl;have f10:=HU.o.unit.frozen 10;have c11:=HU.o.unit.cl 11 (i64 0) rfl;have f11:=HU.o.unit.frozen 11;have c12:=HU.o.unit.cl 12 (i64 0) rfl;have f12:=HU.o.unit.frozen 12;replace HU:Hid (UW V T R X W6.heap.size a c l (⟨aI 117 i,(bu:Int),mn,mx,sa,sc,sg,nl,ru,rd,mn+sr,mn+tr,ut,0,0,0,0,0,0,0,none,0,[],0,0,0⟩:aF) (Uu.setCell ⟨X,10,none⟩ (i64 ut))):=HU.o.set 10 (i64 ut) _ rfl ⟨rfl,rfl,rfl,rfl,rfl,rfl⟩;replace HU:Hid (UW V T R X W6.heap.size a c l (⟨aI 117 i,(bu:Int),mn,mx,sa,sc,sg,nl,ru,rd,mn+sr,mn+tr,ut,dt,0,0,0,0,0,0,none,0,[],0,0,0⟩:aF) ((Uu.setCell ⟨X,10,none⟩ (i64 ut)).setCell ⟨X,11,none⟩ (i64 dt))):=HU.o.set 11 (i64 dt) _ rfl ⟨rfl,rfl,rfl,rfl,rfl,rfl⟩;replace HU:Hid (UW V T R X W6.heap.size a c l (⟨aI 117 i,(bu:Int),mn,mx,sa,sc,sg,nl,ru,rd,mn+sr,mn+tr,ut,dt,st,0,0,0,0,0,none,0,[],0,0,0⟩:aF) (((Uu.setCell ⟨X,10,none⟩ (i64 ut)).setCell ⟨X,11,none⟩ (i64 dt)).setCell ⟨X,12,none⟩ (i64 st))):=HU.o.set 12 (i64 st) _ rfl ⟨rfl,rfl,rfl,rfl,rfl,rfl⟩;go_upto_region 13 with fail
   clear c10 f10 c11 f11 c12 f12;generalize (((Uu.setCell ⟨X,10,none⟩ (i64 ut)).setCell ⟨X,11,none⟩ (i64 dt)).setCell ⟨X,12,none⟩ (i64 st))=W18 at*;go_wp2_with fail
   refine (fL.o W18 30 HU.o.ext HU.o.tape (by decide) (by decide)).mono ?_;rintro e W19 ⟨hc,rfl,Ry,hT,hx⟩;replace HU:=ae (HU.o.next hT hx);clear hT hx;have NM:=ae Ry;clear Ry;have c13:=HU.o.unit.cl 13 (i64 0) rfl;have f13:=HU.o.unit.frozen 13;replace HU:Hid (UW V T R X W6.heap.size a c l (⟨aI 117 i,(bu:Int),mn,mx,sa,sc,sg,nl,ru,rd,mn+sr,mn+tr,ut,dt,st,hc,0,0,0,0,none,0,[],0,0,0⟩:aF) (W19.setCell ⟨X,13,none⟩ (i64 hc))):=HU.o.set 13 (i64 hc) _ rfl ⟨rfl,rfl,rfl,rfl,rfl,rfl⟩;go_upto_region 14 with fail
   clear c13 f13;generalize (W19.setCell ⟨X,13,none⟩ (i64 hc))=W20 at*;refine aB (fun w'=>w'.cell? ⟨X,13,none⟩=some (i64 hc)) (fun w'=>True) (fun i=>false) (by kernel_rfl) ((HU.o.unit.cell 13).trans rfl) (trivial) (fun aq ah=> ?_);refine ay 0 aq ah ?_;refine ay 1 aq ah ?_ (v:=i64 hc);refine ay 2 aq ah ?_;replace HU:=ae (HU.o.drew);refine dX 3 rfl (fun Kc hK=> ?_);go_simp;refine (fL.o W20.drew (30) HU.o.ext HU.o.tape (by decide) (by decide)).mono ?_;rintro e W21 ⟨cc,rfl,Rz,hT,hx⟩;replace HU:=ae (HU.o.next hT hx);clear hT hx;have RA:=ae Rz;clear Rz;refine hK.o _ _ ((HU.o.unit.cell 13).trans rfl) (trivial) (fun aq ah=> ?_);clear hK Kc;try simp only [sS]
   have q1:IntKind.i64.wrap (hc+cc)=hc+cc:=by rw [IntKind.wrap_i64];have:=NM.o;have:=RA.o;omega
   refine ay 4 aq ah ?_ (v:=i64 (hc+cc));refine ay 5 aq ah ?_;have c14:=HU.o.unit.cl 14 (i64 0) rfl;have f14:=HU.o.unit.frozen 14;refine dX 6 rfl (fun Kc hK=> ?_);go_simp;replace HU:Hid (UW V T R X W6.heap.size a c l (⟨aI 117 i,(bu:Int),mn,mx,sa,sc,sg,nl,ru,rd,mn+sr,mn+tr,ut,dt,st,hc,hc+cc,0,0,0,none,0,[],0,0,0⟩:aF) (W21.setCell ⟨X,14,none⟩ (i64 (hc+cc)))):=HU.o.set 14 (i64 (hc+cc)) _ rfl ⟨rfl,rfl,rfl,rfl,rfl,rfl⟩;generalize (W21.setCell ⟨X,14,none⟩ (i64 (hc+cc)))=W22 at*;refine hK.o _ _ ((HU.o.unit.cell 13).trans rfl) (trivial) (fun aq ah=> ?_);clear hK Kc;try simp only [sS]
   clear c14 f14;refine ax (by kernel_rfl) ?_ _;clear aq ah q1;go_wp2_with fail
   refine (fL.o W22 4 HU.o.ext HU.o.tape (by decide) (by decide)).mono ?_;rintro e W23 ⟨hh,rfl,RD,hT,hx⟩;replace HU:=ae (HU.o.next hT hx);clear hT hx;have WJ:=ae RD;clear RD;go_wp2_with fail
   refine (fL.o W23 8 HU.o.ext HU.o.tape (by decide) (by decide)).mono ?_;rintro e W24 ⟨rs,rfl,RF,hT,hx⟩;replace HU:=ae (HU.o.next hT hx);clear hT hx;have WK:=ae RF;clear RF;go_wp2_with fail
   refine (fL.o W24 4 HU.o.ext HU.o.tape (by decide) (by decide)).mono ?_;rintro e Uv ⟨rp,rfl,RG,hT,hx⟩;replace HU:=ae (HU.o.next hT hx);clear hT hx;have WY:=ae RG;clear RG;have c15:=HU.o.unit.cl 15 (i64 0) rfl;have f15:=HU.o.unit.frozen 15;have c16:=HU.o.unit.cl 16 (i64 0) rfl;have f16:=HU.o.unit.frozen 16;have c17:=HU.o.unit.cl 17 (i64 0) rfl;have f17:=HU.o.unit.frozen 17;replace HU:Hid (UW V T R X W6.heap.size a c l (⟨aI 117 i,(bu:Int),mn,mx,sa,sc,sg,nl,ru,rd,mn+sr,mn+tr,ut,dt,st,hc,hc+cc,hh,0,0,none,0,[],0,0,0⟩:aF) (Uv.setCell ⟨X,15,none⟩ (i64 hh))):=HU.o.set 15 (i64 hh) _ rfl ⟨rfl,rfl,rfl,rfl,rfl,rfl⟩;replace HU:Hid (UW V T R X W6.heap.size a c l (⟨aI 117 i,(bu:Int),mn,mx,sa,sc,sg,nl,ru,rd,mn+sr,mn+tr,ut,dt,st,hc,hc+cc,hh,rs,0,none,0,[],0,0,0⟩:aF) ((Uv.setCell ⟨X,15,none⟩ (i64 hh)).setCell ⟨X,16,none⟩ (i64 rs))):=HU.o.set 16 (i64 rs) _ rfl ⟨rfl,rfl,rfl,rfl,rfl,rfl⟩;replace HU:Hid (UW V T R X W6.heap.size a c l (⟨aI 117 i,(bu:Int),mn,mx,sa,sc,sg,nl,ru,rd,mn+sr,mn+tr,ut,dt,st,hc,hc+cc,hh,rs,rp,none,0,[],0,0,0⟩:aF) (((Uv.setCell ⟨X,15,none⟩ (i64 hh)).setCell ⟨X,16,none⟩ (i64 rs)).setCell ⟨X,17,none⟩ (i64 rp))):=HU.o.set 17 (i64 rp) _ rfl ⟨rfl,rfl,rfl,rfl,rfl,rfl⟩;go_upto_region 16 with fail
   clear c15 f15 c16 f16 c17 f17;generalize (((Uv.setCell ⟨X,15,none⟩ (i64 hh)).setCell ⟨X,16,none⟩ (i64 rs)).setCell ⟨X,17,none⟩ (i64 rp))=W26 at*;go_wp2_with fail
   refine (NC.o W26 HU.o.ext HU.o.tape).mono ?_;rintro e WZ ⟨aa,ac,aw,rfl,RH,RI,RJ,NN,hT,hx⟩;have Ez:=ae (HU.o.next hT hx);have c18:=Ez.o.unit.cl 18 (.slice none 0 0) rfl;have f18:=Ez.o.unit.frozen 18
   have Iq:Hid (UW V T R X W6.heap.size a c l (⟨aI 117 i,(bu:Int),mn,mx,sa,sc,sg,nl,ru,rd,mn+sr,mn+tr,ut,dt,st,hc,hc+cc,hh,rs,rp,aa,ac,aw,0,0,0⟩:aF) (WZ.setCell ⟨X,18,none⟩ (.slice aa aw.length ac))):=by
    have hx2:=((ar.refl X WZ).gD (o:=18) (v:= .slice aa aw.length ac));have hf2:Fr W6.heap.size aa:=NN.mono HU.o.size;have h:=Ez.o;exact ⟨h.tape.but hx2 h.pos.2.2.2.1.symm,h.unit.set 18 _,h.res.but hx2 h.pos.2.2.2.2.1.symm,h.ext.setCell (p:=⟨X,18,none⟩) h.pos.2.2.2.2.2.2 _,Nat.le_trans h.size hx2.size,h.aM.but hx2 (h.sf.ne h.pos.2.1),h.sf,RI.dA hx2 (hf2.ne h.pos.2.1),hf2,h.pos⟩
   have RL:Hid ((aw.length≤1∧(aw= []→aa=none))∧(∀x∈aw,0≤x∧x<hours)∧Fr V.heap.size aa):=⟨RH,RJ,NN.mono HU.o.ext.size⟩;clear HU Ez hT hx RH RI RJ NN NC;go_upto_region 17 with fail
   have HU:=Iq;clear c18 f18 Iq;generalize (WZ.setCell ⟨X,18,none⟩ (.slice aa aw.length ac))=W28 at*;have HST:Hid (0<2+st∧2+st≤3):=by have:=Ip.o;show _∧_;omega
   have q1:IntKind.i64.wrap (2+st)=2+st:=by rw [IntKind.wrap_i64];have:=Ip.o;omega
   go_cut [] (fun wx=> ∃(iv:Nat) (hr:Int),(iv:Int)<2+st∧(0≤hr∧hr<4)∧UW V T R X W6.heap.size a c l (⟨aI 117 i,(bu:Int),mn,mx,sa,sc,sg,nl,ru,rd,mn+sr,mn+tr,ut,dt,st,hc,hc+cc,hh,rs,rp,aa,ac,aw,(gQ iv),(1+hr),0⟩:aF) wx)
   case first=>
    as_aux_lemma=>
     refine aB (fun w'=>w'.cell? ⟨X,12,none⟩=some (i64 st)) (fun w'=>True) (fun i=>false) (by kernel_rfl) ((HU.o.unit.cell 12).trans rfl) (trivial) (fun aq ah=> ?_);refine ay 1 aq ah ?_;refine ay 2 aq ah ?_;refine ay 3 aq ah ?_ (v:=i64 st);refine ay 4 aq ah ?_ (v:=i64 (2+st));refine ay 8 aq ah ?_;replace HU:=ae (HU.o.drew);generalize W28.drew=Uw at*;refine aQ (rs:= [0,5]) (by kernel_rfl) (by simp) ?_;refine aA.cons rfl (fun Kc hK=> ?_) (aA.cons rfl (fun Kc hK=> ?_) aA.nil)
     ·go_simp
      obtain ⟨W30,kC,xa,-,AA⟩:=aH (Uw) 3 [i64 0,i64 2,i64 1];rw [show(Uw).alloc (.cells #[i64 0,i64 2,i64 1] 3)=W30 from kC.symm];obtain ⟨B,hB⟩: ∃B,B=(Uw).heap.size:=⟨_,rfl⟩;rw [←hB]at AA⊢;have yX:B≠T:=by have:=HU.o.tape.lt;omega
      have HB:=ae AA;replace HU:=ae (HU.o.next (HU.o.tape.ext xa) (xa.but T));clear kC xa AA hB;refine hK.o _ _ ((HU.o.unit.cell 12).trans rfl) (trivial) (fun aq ah=> ?_);clear hK Kc;try simp only [sS]
      refine dX 5 rfl (fun Kc hK=> ?_);go_simp;refine (fL.o (W30) (2+st) HU.o.ext HU.o.tape HST.o.1 (by have:=HST.o.2;omega)).mono ?_;rintro e W_ ⟨vz,rfl,Ir,hT,hx⟩;replace HU:=ae (HU.o.next hT hx);replace HB:=ae (HB.o.but hx yX);obtain ⟨iv,RM⟩: ∃iv:Nat,vz=(iv:Int):=⟨vz.toNat,by omega⟩;subst RM;have bi:(iv:Int)<3:=by have:=HST.o.2;omega
      have PR:Hid ((iv:Int)<2+st):=Ir.2;clear Ir;clear hT hx;refine hK.o _ _ ((HU.o.unit.cell 12).trans rfl) (trivial) (fun aq ah=> ?_);clear hK Kc;try simp only [sS]
      refine ay 6 aq ah ?_;refine aQ (rs:= [7,9]) (by kernel_rfl) (by simp) ?_;refine aA.cons rfl (fun Kc hK=> ?_) (aA.cons rfl (fun Kc hK=> ?_) aA.nil)
      ·have cB:(W_).cell? ⟨B,iv,none⟩=some (i64 (gQ iv)):=lu HB.o (by omega)
       go_simp;refine hK.o _ _ ((HU.o.unit.cell 12).trans rfl) (trivial) (fun aq ah=> ?_);clear hK Kc;try simp only [sS]
       clear cB;refine ay 11 aq ah ?_;refine dX 9 rfl (fun Kc hK=> ?_);go_simp;refine (fL.o (W_) 4 HU.o.ext HU.o.tape (by decide) (by decide)).mono ?_;rintro e W32 ⟨hr,rfl,qa,hT,hx⟩;replace HU:=ae (HU.o.next hT hx);replace HB:=ae (HB.o.but hx yX);have qc:=ae qa;clear qa;clear hT hx;refine hK.o _ _ ((HU.o.unit.cell 12).trans rfl) (trivial) (fun aq ah=> ?_);clear hK Kc;try simp only [sS]
       have q2:IntKind.i64.wrap (1+hr)=1+hr:=by rw [IntKind.wrap_i64];have:=qc.o;omega
       refine ay 10 aq ah ?_ (v:=i64 (1+hr));refine dX 12 rfl (fun Kc hK=> ?_);have c19:=HU.o.unit.cl 19 (i64 0) rfl;have f19:=HU.o.unit.frozen 19;go_simp;replace HU:Hid (UW V T R X W6.heap.size a c l (⟨aI 117 i,(bu:Int),mn,mx,sa,sc,sg,nl,ru,rd,mn+sr,mn+tr,ut,dt,st,hc,hc+cc,hh,rs,rp,aa,ac,aw,(gQ iv),0,0⟩:aF) (W32.setCell ⟨X,19,none⟩ (i64 (gQ iv)))):=HU.o.set 19 (i64 (gQ iv)) _ rfl ⟨rfl,rfl,rfl,rfl,rfl,rfl⟩;generalize (W32.setCell ⟨X,19,none⟩ (i64 (gQ iv)))=W33 at*;refine hK.o _ _ ((HU.o.unit.cell 12).trans rfl) (trivial) (fun aq ah=> ?_);clear hK Kc;try simp only [sS]
       clear c19 f19;refine ay 13 aq ah ?_;refine dX 14 rfl (fun Kc hK=> ?_);have c20:=HU.o.unit.cl 20 (i64 0) rfl;have f20:=HU.o.unit.frozen 20;go_simp;replace HU:Hid (UW V T R X W6.heap.size a c l (⟨aI 117 i,(bu:Int),mn,mx,sa,sc,sg,nl,ru,rd,mn+sr,mn+tr,ut,dt,st,hc,hc+cc,hh,rs,rp,aa,ac,aw,(gQ iv),(1+hr),0⟩:aF) (W33.setCell ⟨X,20,none⟩ (i64 (1+hr)))):=HU.o.set 20 (i64 (1+hr)) _ rfl ⟨rfl,rfl,rfl,rfl,rfl,rfl⟩;generalize (W33.setCell ⟨X,20,none⟩ (i64 (1+hr)))=W34 at*;refine hK.o _ _ ((HU.o.unit.cell 12).trans rfl) (trivial) (fun aq ah=> ?_);clear hK Kc;try simp only [sS]
       clear c20 f20;refine ax (by kernel_rfl) ?_ _;clear aq ah;go_wp2_with fail
       go_meet
       exact ⟨iv,hr,by have:=PR.o;omega,qc.o,HU.o⟩
      ·go_simp
       refine (fL.o (W_) 4 HU.o.ext HU.o.tape (by decide) (by decide)).mono ?_;rintro e Xa ⟨hr,rfl,qa,hT,hx⟩;replace HU:=ae (HU.o.next hT hx);replace HB:=ae (HB.o.but hx yX);have qc:=ae qa;clear qa;clear hT hx;refine hK.o _ _ ((HU.o.unit.cell 12).trans rfl) (trivial) (fun aq ah=> ?_);clear hK Kc;try simp only [sS]
       have q2:IntKind.i64.wrap (1+hr)=1+hr:=by rw [IntKind.wrap_i64];have:=qc.o;omega
       refine ay 10 aq ah ?_ (v:=i64 (1+hr));refine dX 7 rfl (fun Kc hK=> ?_);have cB:(Xa).cell? ⟨B,iv,none⟩=some (i64 (gQ iv)):=lu HB.o (by omega);go_simp;refine hK.o _ _ ((HU.o.unit.cell 12).trans rfl) (trivial) (fun aq ah=> ?_);clear hK Kc;try simp only [sS]
       clear cB;refine ay 11 aq ah ?_;refine dX 12 rfl (fun Kc hK=> ?_);have c19:=HU.o.unit.cl 19 (i64 0) rfl;have f19:=HU.o.unit.frozen 19;go_simp;replace HU:Hid (UW V T R X W6.heap.size a c l (⟨aI 117 i,(bu:Int),mn,mx,sa,sc,sg,nl,ru,rd,mn+sr,mn+tr,ut,dt,st,hc,hc+cc,hh,rs,rp,aa,ac,aw,(gQ iv),0,0⟩:aF) (Xa.setCell ⟨X,19,none⟩ (i64 (gQ iv)))):=HU.o.set 19 (i64 (gQ iv)) _ rfl ⟨rfl,rfl,rfl,rfl,rfl,rfl⟩;generalize (Xa.setCell ⟨X,19,none⟩ (i64 (gQ iv)))=W36 at*;refine hK.o _ _ ((HU.o.unit.cell 12).trans rfl) (trivial) (fun aq ah=> ?_);clear hK Kc;try simp only [sS]
       clear c19 f19;refine ay 13 aq ah ?_;refine dX 14 rfl (fun Kc hK=> ?_);have c20:=HU.o.unit.cl 20 (i64 0) rfl;have f20:=HU.o.unit.frozen 20;go_simp;replace HU:Hid (UW V T R X W6.heap.size a c l (⟨aI 117 i,(bu:Int),mn,mx,sa,sc,sg,nl,ru,rd,mn+sr,mn+tr,ut,dt,st,hc,hc+cc,hh,rs,rp,aa,ac,aw,(gQ iv),(1+hr),0⟩:aF) (W36.setCell ⟨X,20,none⟩ (i64 (1+hr)))):=HU.o.set 20 (i64 (1+hr)) _ rfl ⟨rfl,rfl,rfl,rfl,rfl,rfl⟩;generalize (W36.setCell ⟨X,20,none⟩ (i64 (1+hr)))=W37 at*;refine hK.o _ _ ((HU.o.unit.cell 12).trans rfl) (trivial) (fun aq ah=> ?_);clear hK Kc;try simp only [sS]
       clear c20 f20;refine ax (by kernel_rfl) ?_ _;clear aq ah;go_wp2_with fail
       go_meet
       exact ⟨iv,hr,by have:=PR.o;omega,qc.o,HU.o⟩
     ·go_simp
      refine (fL.o (Uw) (2+st) HU.o.ext HU.o.tape HST.o.1 (by have:=HST.o.2;omega)).mono ?_;rintro e Ux ⟨vz,rfl,Ir,hT,hx⟩;replace HU:=ae (HU.o.next hT hx);obtain ⟨iv,RM⟩: ∃iv:Nat,vz=(iv:Int):=⟨vz.toNat,by omega⟩;subst RM;have bi:(iv:Int)<3:=by have:=HST.o.2;omega
      have PR:Hid ((iv:Int)<2+st):=Ir.2;clear Ir;clear hT hx;refine hK.o _ _ ((HU.o.unit.cell 12).trans rfl) (trivial) (fun aq ah=> ?_);clear hK Kc;try simp only [sS]
      refine aQ (rs:= [0,9]) (by kernel_rfl) (by simp) ?_;refine aA.cons rfl (fun Kc hK=> ?_) (aA.cons rfl (fun Kc hK=> ?_) aA.nil)
      ·go_simp
       obtain ⟨Uy,kC,xa,-,AA⟩:=aH (Ux) 3 [i64 0,i64 2,i64 1];rw [show(Ux).alloc (.cells #[i64 0,i64 2,i64 1] 3)=Uy from kC.symm];obtain ⟨B,hB⟩: ∃B,B=(Ux).heap.size:=⟨_,rfl⟩;rw [←hB]at AA⊢;have yX:B≠T:=by have:=HU.o.tape.lt;omega
       have HB:=ae AA;replace HU:=ae (HU.o.next (HU.o.tape.ext xa) (xa.but T));clear kC xa AA hB;refine hK.o _ _ ((HU.o.unit.cell 12).trans rfl) (trivial) (fun aq ah=> ?_);clear hK Kc;try simp only [sS]
       refine ay 6 aq ah ?_;refine aQ (rs:= [7,9]) (by kernel_rfl) (by simp) ?_;refine aA.cons rfl (fun Kc hK=> ?_) (aA.cons rfl (fun Kc hK=> ?_) aA.nil)
       ·have cB:(Uy).cell? ⟨B,iv,none⟩=some (i64 (gQ iv)):=lu HB.o (by omega)
        go_simp;refine hK.o _ _ ((HU.o.unit.cell 12).trans rfl) (trivial) (fun aq ah=> ?_);clear hK Kc;try simp only [sS]
        clear cB;refine ay 11 aq ah ?_;refine dX 9 rfl (fun Kc hK=> ?_);go_simp;refine (fL.o (Uy) 4 HU.o.ext HU.o.tape (by decide) (by decide)).mono ?_;rintro e W40 ⟨hr,rfl,qa,hT,hx⟩;replace HU:=ae (HU.o.next hT hx);replace HB:=ae (HB.o.but hx yX);have qc:=ae qa;clear qa;clear hT hx;refine hK.o _ _ ((HU.o.unit.cell 12).trans rfl) (trivial) (fun aq ah=> ?_);clear hK Kc;try simp only [sS]
        have q2:IntKind.i64.wrap (1+hr)=1+hr:=by rw [IntKind.wrap_i64];have:=qc.o;omega
        refine ay 10 aq ah ?_ (v:=i64 (1+hr));refine dX 12 rfl (fun Kc hK=> ?_);have c19:=HU.o.unit.cl 19 (i64 0) rfl;have f19:=HU.o.unit.frozen 19;go_simp;replace HU:Hid (UW V T R X W6.heap.size a c l (⟨aI 117 i,(bu:Int),mn,mx,sa,sc,sg,nl,ru,rd,mn+sr,mn+tr,ut,dt,st,hc,hc+cc,hh,rs,rp,aa,ac,aw,(gQ iv),0,0⟩:aF) (W40.setCell ⟨X,19,none⟩ (i64 (gQ iv)))):=HU.o.set 19 (i64 (gQ iv)) _ rfl ⟨rfl,rfl,rfl,rfl,rfl,rfl⟩;generalize (W40.setCell ⟨X,19,none⟩ (i64 (gQ iv)))=W41 at*;refine hK.o _ _ ((HU.o.unit.cell 12).trans rfl) (trivial) (fun aq ah=> ?_);clear hK Kc;try simp only [sS]
        clear c19 f19;refine ay 13 aq ah ?_;refine dX 14 rfl (fun Kc hK=> ?_);have c20:=HU.o.unit.cl 20 (i64 0) rfl;have f20:=HU.o.unit.frozen 20;go_simp;replace HU:Hid (UW V T R X W6.heap.size a c l (⟨aI 117 i,(bu:Int),mn,mx,sa,sc,sg,nl,ru,rd,mn+sr,mn+tr,ut,dt,st,hc,hc+cc,hh,rs,rp,aa,ac,aw,(gQ iv),(1+hr),0⟩:aF) (W41.setCell ⟨X,20,none⟩ (i64 (1+hr)))):=HU.o.set 20 (i64 (1+hr)) _ rfl ⟨rfl,rfl,rfl,rfl,rfl,rfl⟩;generalize (W41.setCell ⟨X,20,none⟩ (i64 (1+hr)))=W42 at*;refine hK.o _ _ ((HU.o.unit.cell 12).trans rfl) (trivial) (fun aq ah=> ?_);clear hK Kc;try simp only [sS]
        clear c20 f20;refine ax (by kernel_rfl) ?_ _;clear aq ah;go_wp2_with fail
        go_meet
        exact ⟨iv,hr,by have:=PR.o;omega,qc.o,HU.o⟩
       ·go_simp
        refine (fL.o (Uy) 4 HU.o.ext HU.o.tape (by decide) (by decide)).mono ?_;rintro e Xb ⟨hr,rfl,qa,hT,hx⟩;replace HU:=ae (HU.o.next hT hx);replace HB:=ae (HB.o.but hx yX);have qc:=ae qa;clear qa;clear hT hx;refine hK.o _ _ ((HU.o.unit.cell 12).trans rfl) (trivial) (fun aq ah=> ?_);clear hK Kc;try simp only [sS]
        have q2:IntKind.i64.wrap (1+hr)=1+hr:=by rw [IntKind.wrap_i64];have:=qc.o;omega
        refine ay 10 aq ah ?_ (v:=i64 (1+hr));refine dX 7 rfl (fun Kc hK=> ?_);have cB:(Xb).cell? ⟨B,iv,none⟩=some (i64 (gQ iv)):=lu HB.o (by omega);go_simp;refine hK.o _ _ ((HU.o.unit.cell 12).trans rfl) (trivial) (fun aq ah=> ?_);clear hK Kc;try simp only [sS]
        clear cB;refine ay 11 aq ah ?_;refine dX 12 rfl (fun Kc hK=> ?_);have c19:=HU.o.unit.cl 19 (i64 0) rfl;have f19:=HU.o.unit.frozen 19;go_simp;replace HU:Hid (UW V T R X W6.heap.size a c l (⟨aI 117 i,(bu:Int),mn,mx,sa,sc,sg,nl,ru,rd,mn+sr,mn+tr,ut,dt,st,hc,hc+cc,hh,rs,rp,aa,ac,aw,(gQ iv),0,0⟩:aF) (Xb.setCell ⟨X,19,none⟩ (i64 (gQ iv)))):=HU.o.set 19 (i64 (gQ iv)) _ rfl ⟨rfl,rfl,rfl,rfl,rfl,rfl⟩;generalize (Xb.setCell ⟨X,19,none⟩ (i64 (gQ iv)))=W44 at*;refine hK.o _ _ ((HU.o.unit.cell 12).trans rfl) (trivial) (fun aq ah=> ?_);clear hK Kc;try simp only [sS]
        clear c19 f19;refine ay 13 aq ah ?_;refine dX 14 rfl (fun Kc hK=> ?_);have c20:=HU.o.unit.cl 20 (i64 0) rfl;have f20:=HU.o.unit.frozen 20;go_simp;replace HU:Hid (UW V T R X W6.heap.size a c l (⟨aI 117 i,(bu:Int),mn,mx,sa,sc,sg,nl,ru,rd,mn+sr,mn+tr,ut,dt,st,hc,hc+cc,hh,rs,rp,aa,ac,aw,(gQ iv),(1+hr),0⟩:aF) (W44.setCell ⟨X,20,none⟩ (i64 (1+hr)))):=HU.o.set 20 (i64 (1+hr)) _ rfl ⟨rfl,rfl,rfl,rfl,rfl,rfl⟩;generalize (W44.setCell ⟨X,20,none⟩ (i64 (1+hr)))=W45 at*;refine hK.o _ _ ((HU.o.unit.cell 12).trans rfl) (trivial) (fun aq ah=> ?_);clear hK Kc;try simp only [sS]
        clear c20 f20;refine ax (by kernel_rfl) ?_ _;clear aq ah;go_wp2_with fail
        go_meet
        exact ⟨iv,hr,by have:=PR.o;omega,qc.o,HU.o⟩
      ·go_simp
       refine (fL.o (Ux) 4 HU.o.ext HU.o.tape (by decide) (by decide)).mono ?_;rintro e Xc ⟨hr,rfl,qa,hT,hx⟩;replace HU:=ae (HU.o.next hT hx);have qc:=ae qa;clear qa;clear hT hx;refine hK.o _ _ ((HU.o.unit.cell 12).trans rfl) (trivial) (fun aq ah=> ?_);clear hK Kc;try simp only [sS]
       have q2:IntKind.i64.wrap (1+hr)=1+hr:=by rw [IntKind.wrap_i64];have:=qc.o;omega
       refine ay 10 aq ah ?_ (v:=i64 (1+hr));refine dX 0 rfl (fun Kc hK=> ?_);go_simp;obtain ⟨Uz,kC,xa,-,AA⟩:=aH (Xc) 3 [i64 0,i64 2,i64 1];rw [show(Xc).alloc (.cells #[i64 0,i64 2,i64 1] 3)=Uz from kC.symm];obtain ⟨B,hB⟩: ∃B,B=(Xc).heap.size:=⟨_,rfl⟩;rw [←hB]at AA⊢;have yX:B≠T:=by have:=HU.o.tape.lt;omega
       have HB:=ae AA;replace HU:=ae (HU.o.next (HU.o.tape.ext xa) (xa.but T));clear kC xa AA hB;refine hK.o _ _ ((HU.o.unit.cell 12).trans rfl) (trivial) (fun aq ah=> ?_);clear hK Kc;try simp only [sS]
       refine ay 6 aq ah ?_;refine dX 7 rfl (fun Kc hK=> ?_);have cB:(Uz).cell? ⟨B,iv,none⟩=some (i64 (gQ iv)):=lu HB.o (by omega);go_simp;refine hK.o _ _ ((HU.o.unit.cell 12).trans rfl) (trivial) (fun aq ah=> ?_);clear hK Kc;try simp only [sS]
       clear cB;refine ay 11 aq ah ?_;refine dX 12 rfl (fun Kc hK=> ?_);have c19:=HU.o.unit.cl 19 (i64 0) rfl;have f19:=HU.o.unit.frozen 19;go_simp;replace HU:Hid (UW V T R X W6.heap.size a c l (⟨aI 117 i,(bu:Int),mn,mx,sa,sc,sg,nl,ru,rd,mn+sr,mn+tr,ut,dt,st,hc,hc+cc,hh,rs,rp,aa,ac,aw,(gQ iv),0,0⟩:aF) (Uz.setCell ⟨X,19,none⟩ (i64 (gQ iv)))):=HU.o.set 19 (i64 (gQ iv)) _ rfl ⟨rfl,rfl,rfl,rfl,rfl,rfl⟩;generalize (Uz.setCell ⟨X,19,none⟩ (i64 (gQ iv)))=W48 at*;refine hK.o _ _ ((HU.o.unit.cell 12).trans rfl) (trivial) (fun aq ah=> ?_);clear hK Kc;try simp only [sS]
       clear c19 f19;refine ay 13 aq ah ?_;refine dX 14 rfl (fun Kc hK=> ?_);have c20:=HU.o.unit.cl 20 (i64 0) rfl;have f20:=HU.o.unit.frozen 20;go_simp;replace HU:Hid (UW V T R X W6.heap.size a c l (⟨aI 117 i,(bu:Int),mn,mx,sa,sc,sg,nl,ru,rd,mn+sr,mn+tr,ut,dt,st,hc,hc+cc,hh,rs,rp,aa,ac,aw,(gQ iv),(1+hr),0⟩:aF) (W48.setCell ⟨X,20,none⟩ (i64 (1+hr)))):=HU.o.set 20 (i64 (1+hr)) _ rfl ⟨rfl,rfl,rfl,rfl,rfl,rfl⟩;generalize (W48.setCell ⟨X,20,none⟩ (i64 (1+hr)))=W49 at*;refine hK.o _ _ ((HU.o.unit.cell 12).trans rfl) (trivial) (fun aq ah=> ?_);clear hK Kc;try simp only [sS]
       clear c20 f20;refine ax (by kernel_rfl) ?_ _;clear aq ah;go_wp2_with fail
       go_meet
       exact ⟨iv,hr,by have:=PR.o;omega,qc.o,HU.o⟩
   case rest=>
    obtain ⟨iv,hr,RM,hhr,hU⟩:=hcut;generalize wc=WR at*;clear HU;have HH:=ae hhr;have h3:iv=0∨iv=1∨iv=2:=by have:=HST.o.2;omega
    clear hhr q1;obtain ⟨sv,RN⟩: ∃sv,sv=gQ iv:=⟨_,rfl⟩;rw [←RN]at hU
    have HSV:Hid (sv=0∨sv=2∨(sv=1∧st=1)):=by
     have h5:=Ip.o;show _∨_;rcases h3 with rfl|rfl|rfl
     ·exact Or.inl RN
     ·exact Or.inr (Or.inl RN)
     ·exact Or.inr (Or.inr ⟨RN,by omega⟩)
    have HU:=ae hU;have c19:=HU.o.unit.cl 19 (i64 sv) rfl;clear hU RN h3 RM;go_upto_if 133 with fail
    clear c19;go_cut [] (fun wx=> ∃hz:Int,(1≤hz∧hz≤4∧(sv=1→hz=1))∧UW V T R X W6.heap.size a c l (⟨aI 117 i,(bu:Int),mn,mx,sa,sc,sg,nl,ru,rd,mn+sr,mn+tr,ut,dt,st,hc,hc+cc,hh,rs,rp,aa,ac,aw,sv,hz,0⟩:aF) wx)
    case first=>
     as_aux_lemma=>
      rcases Bool.eq_false_or_eq_true (sv==1)with h1|h1
      ·have c20:=HU.o.unit.cl 20 (i64 (1+hr)) rfl
       have f20:=HU.o.unit.frozen 20;have Ez:Hid (UW V T R X W6.heap.size a c l (⟨aI 117 i,(bu:Int),mn,mx,sa,sc,sg,nl,ru,rd,mn+sr,mn+tr,ut,dt,st,hc,hc+cc,hh,rs,rp,aa,ac,aw,sv,1,0⟩:aF) (WR.setCell ⟨X,20,none⟩ (i64 1))):=HU.o.set 20 (i64 1) _ rfl ⟨rfl,rfl,rfl,rfl,rfl,rfl⟩;go_wp2_with fail
       go_meet
       exact ⟨1,⟨by decide,by decide,fun _=>rfl⟩,Ez.o⟩
      ·go_wp2_with fail
       go_meet
       exact ⟨1+hr,⟨by have:=HH.o;omega,by have:=HH.o;omega,fun h=>(by rw [h]at h1;cases h1)⟩,HU.o⟩
    case rest=>
     obtain ⟨hz,hhz,hU⟩:=hcut;generalize wc=WS at*;clear HU HH;have HH:=ae hhz;have HU:=ae hU;have c19:=HU.o.unit.cl 19 (i64 sv) rfl;clear hU hhz;go_upto_if 137 with fail
     clear c19;go_cut [] (fun wx=> ∃oo:Int,((sv=2→mn≤oo∧oo≤mx)∧(sv≠2→oo=0))∧UW V T R X W6.heap.size a c l (⟨aI 117 i,(bu:Int),mn,mx,sa,sc,sg,nl,ru,rd,mn+sr,mn+tr,ut,dt,st,hc,hc+cc,hh,rs,rp,aa,ac,aw,sv,hz,oo⟩:aF) wx)
     case first=>
      as_aux_lemma=>
       rcases Bool.eq_false_or_eq_true (sv==2)with h1|h1
       ·go_upto_region 21 with fail
        have q1:IntKind.i64.wrap (mx-mn)=mx-mn:=by rw [IntKind.wrap_i64];have:=Io.o;omega
        have q2:IntKind.i64.wrap (mx-mn+1)=mx-mn+1:=by rw [IntKind.wrap_i64];have:=Io.o;omega
        refine aB (fun w'=>w'.cell? ⟨X,2,none⟩=some (i64 mn)∧w'.cell? ⟨X,3,none⟩=some (i64 mx)) (fun w'=>True) (fun i=>false) (by kernel_rfl) (⟨(HU.o.unit.cell 2).trans rfl,(HU.o.unit.cell 3).trans rfl⟩) (trivial) (fun aq ah=> ?_);refine ay 0 aq ah ?_;refine ay 1 aq ah ?_ (v:=i64 mn);refine ay 2 aq ah ?_;refine ay 3 aq ah ?_;refine ay 4 aq ah ?_ (v:=i64 mx);refine ay 5 aq ah ?_;refine ay 6 aq ah ?_ (v:=i64 mn);refine ay 7 aq ah ?_ (v:=i64 (mx-mn));refine ay 8 aq ah ?_ (v:=i64 (mx-mn+1));replace HU:=ae (HU.o.drew);refine dX 9 rfl (fun Kc hK=> ?_);go_simp;refine (fL.o WS.drew (mx-mn+1) HU.o.ext HU.o.tape PQ.o.1 (by have:=PQ.o.2;omega)).mono ?_;rintro e W50 ⟨ou,rfl,RO,hT,hx⟩;replace HU:=ae (HU.o.next hT hx);clear hT hx;have RP:=ae RO;clear RO;refine hK.o _ _ (⟨(HU.o.unit.cell 2).trans rfl,(HU.o.unit.cell 3).trans rfl⟩) (trivial) (fun aq ah=> ?_);clear hK Kc;try simp only [sS]
        have q3:IntKind.i64.wrap (mn+ou)=mn+ou:=by rw [IntKind.wrap_i64];have:=Io.o;have:=RP.o;omega
        refine ay 10 aq ah ?_ (v:=i64 (mn+ou));refine ay 11 aq ah ?_;have c21:=HU.o.unit.cl 21 (i64 0) rfl;have f21:=HU.o.unit.frozen 21;refine dX 12 rfl (fun Kc hK=> ?_);go_simp;replace HU:Hid (UW V T R X W6.heap.size a c l (⟨aI 117 i,(bu:Int),mn,mx,sa,sc,sg,nl,ru,rd,mn+sr,mn+tr,ut,dt,st,hc,hc+cc,hh,rs,rp,aa,ac,aw,sv,hz,(mn+ou)⟩:aF) (W50.setCell ⟨X,21,none⟩ (i64 (mn+ou)))):=HU.o.set 21 (i64 (mn+ou)) _ rfl ⟨rfl,rfl,rfl,rfl,rfl,rfl⟩;generalize (W50.setCell ⟨X,21,none⟩ (i64 (mn+ou)))=W51 at*;refine hK.o _ _ (⟨(HU.o.unit.cell 2).trans rfl,(HU.o.unit.cell 3).trans rfl⟩) (trivial) (fun aq ah=> ?_);clear hK Kc;try simp only [sS]
        clear c21 f21;refine ax (by kernel_rfl) ?_ _;clear aq ah q1 q2 q3;go_wp2_with fail
        go_meet
        exact ⟨mn+ou,⟨fun _=>(by have:=RP.o;omega),fun h=>absurd (by simpa using h1) h⟩,HU.o⟩
       ·go_wp2_with fail
        go_meet
        exact ⟨0,⟨fun h=>(by rw [h]at h1;cases h1),fun _=>rfl⟩,HU.o⟩
     case rest=>
      obtain ⟨oo,hoo,hU⟩:=hcut;generalize wc=WT at*;clear HU;have HOO:=ae hoo;have HU:=ae hU;clear hU hoo;go_upto_region 22 with fail
      as_aux_lemma=>
       obtain ⟨xf,NP⟩: ∃xf,xf=(⟨aI 117 i,(bu:Int),mn,mx,sa,sc,sg,nl,ru,rd,mn+sr,mn+tr,ut,dt,st,hc,hc+cc,hh,rs,rp,aa,ac,aw,sv,hz,oo⟩:aF):=⟨_,rfl⟩
       have HF:Hid (rF xf i bu hours∧xf.aa=aa∧xf.aM=sg):=by
        have Xd: ∀g∈sg,1≤g.width∧g.width≤15∧ -2≤g.aX∧g.aX≤40:=fun g hg=>by
             have h1:=wb.o.GU g hg;have h2:=wb.o.aX;have h3:=Mw.o;have h4:=Rj.o;omega
        have h1:=Mw.o;have h2:=Rj.o;have h3:=Io.o;have h4:=Wz.o;have h5:=Ri.o;have h6:=Rs.o;have h7:=Ru.o;have h8:=HH.o;have h9:=Ip.o
        rw [NP];exact ⟨{name:=rfl,bus:=rfl,min:=by simp only;omega,K4:=by simp only;omega,GU:=Xd,FN:=wb.o.FN,max:=h4,eu:=Wo.o,ez:=WA.o,cD:=WG.o,bW:=by simp only;omega,cE:=by simp only;omega,eE:=WH.o,cF:=WI.o,startTime:=Ip.o,dr:=NM.o,cG:=by have:=NM.o;have:=RA.o;simp only;omega,cJ:=WJ.o,aV:=WK.o,bg:=WY.o,NB:=RL.o.1,away:=RL.o.2.1,state:=HSV.o,hours:=HH.o,output:=HOO.o},rfl,rfl⟩
       rw [←NP]at HU;clear NP;have Iu: ∀j v,xf.cells[j]?=some v→WT.cell? ((⟨X,0,none⟩:Addr).add j)=some v:=fun j v hj=>by rw [gM,HU.o.unit.cell j];exact hj
       go_wp2_with (first|(refine bG rfl 67 _ rfl ⟨X,0,none⟩ rfl xf.cells _ Iu rfl rfl rfl ?_)|(refine dM rfl 67 _ _ rfl R nA.cells xf.cells HU.o.res rfl rfl (by kernel_rfl) rfl rfl ?_;intro Ew rE ij))
       have hRV:=GP.o;have wN:=ae (HU.o.ext.over ij hRV);have Dg:=ae (HU.o.tape.but ij (fun e=>p9 e.symm))
       have Dh:Hid (aD Ew xf.aa xf.ac xf.away):=HU.o.away.dA ij (HU.o.af.ne HU.o.pos.2.2.1);have NQ:Hid (bS Ew 2 xf.sa xf.sc (xf.aM.map dp.cells)):=HU.o.aM.but ij (HU.o.sf.ne HU.o.pos.2.2.1);have FU:Hid (Fr V.heap.size xf.aa∧Fr V.heap.size xf.sa):=⟨HU.o.af.mono Rn.o,HU.o.sf.mono Rn.o⟩;exact bodyPost_ret (v:= .agg xf.cells.toArray) (nB 8 _ rfl rfl rE rfl rfl rfl) rfl ⟨xf,bu,rfl,HBU.o,HF.o.1,Dh.o,FU.o.1,NQ.o,FU.o.2,Dg.o,wN.o⟩
end Go.Proofs.YtkpngkdgphojlaaGreat
