/- Texts of the proof. -/
import Derived.Test.YtkpngkdgphojlaaGreatCf11
set_option linter.all false
set_option maxHeartbeats 4000000
set_option maxRecDepth 100000
namespace Go.Proofs.YtkpngkdgphojlaaGreat
open Go.Proofs.Tryz
open Go.RowKit
structure sJ (x:aK) (i bu:Nat) (hours:Int):Prop where
 name:x.name=aR 117 i
 cS:x.cS=(bu:Int)
 min:0≤x.min∧x.min≤7
 Ln:1≤x.aU.length∧x.aU.length≤2
 H5: ∀g∈x.aU,1≤g.width∧g.width≤15∧ -2≤g.aV∧g.aV≤40
 M6:pC x.aU x.aU.length=true
 max:x.max=x.min+cE x.aU
 fu:0≤x.fu∧x.fu<20
 fw:0≤x.fw∧x.fw<20
 dv:0≤x.dv∧x.dv<20
 cL:x.min≤x.cL∧x.cL≤x.max
 dx:x.min≤x.dx∧x.dx≤x.max
 fz:0≤x.fz∧x.fz<3
 dy:0≤x.dy∧x.dy<3
 startTime:0≤x.startTime∧x.startTime<2
 dS:0≤x.dS∧x.dS<30
 dz:x.dS≤x.dz∧x.dz<60
 dA:0≤x.dA∧x.dA<4
 aA:0≤x.aA∧x.aA<8
 bK:0≤x.bK∧x.bK<4
 Ll:x.away.length≤1∧(x.away= []→x.aa=none)
 away: ∀z∈x.away,0≤z∧z<hours
 state:x.state=0∨x.state=2∨(x.state=1∧x.startTime=1)
 hours:1≤x.hours∧x.hours≤4∧(x.state=1→x.hours=1)
 output:(x.state=2→x.min≤x.output∧x.output≤x.max)∧(x.state≠2→x.output=0)
def oz:aK:=⟨{data:= #[]},0,0,0,none,0,[],0,0,0,0,0,0,0,0,0,0,0,0,0,none,0,[],0,0,0⟩
theorem fg {w:World} {base:Nat} {e:TypeId} {s:Nat} {v:Value} {n:Nat} {xs:List Value} (h:w.ownsRow base e s v n xs): ∃a cap,v= .slice a n cap:=by
 rcases h.2 with⟨rfl,rfl⟩|⟨g,cap,cur,rfl,_,_,_,hc,_⟩
 ·exact ⟨none,0,rfl⟩
 ·exact ⟨_,_,rfl⟩
def iI:Nat→Int
 |0=>0
 |1=>2
 |_=>1
theorem mG {w:World} {B iv:Nat} (h:aQ w B 3 [i64 0,i64 2,i64 1]) (hi:iv<3):w.cell? ⟨B,iv,none⟩=some (i64 (iI iv)):=by
 rw [h.cell iv];match iv,hi with
 |0,_=>rfl
 |1,_=>rfl
 |2,_=>rfl
theorem cF (R j:Nat):(⟨R,0,none⟩:Addr).add j=⟨R,j,none⟩:=by
 by_cases h:j=0
 ·subst h;simp [Addr.add]
 ·simp [Addr.add,h]
theorem fL {P:Program} {fn:Func} {tmps:Array Value} {w:World} {R:Nat} {ty:TypeId} {cs:List Value} (k:Nat) (d:TypeDesc) (hres:fn.results= #[.cell k ty]) (ht:tmps.getD k undef= .pointer (some ⟨R,0,none⟩)) (hA:aQ w R ty cs)
 (hu:P.underlying ty=some d) (hd:(match d with| .struct _| .array _ _=>true|_=>false)=true) (hi:(P.info? ty).map (·.size)=some cs.length):(results fn tmps).run P w= .ok (.agg cs.toArray) w:=by
 have h:=lN (P:=P) w ⟨R,0,none⟩ ty cs d (fun j v hj=>by rw [cF,hA.cell j];exact hj) hu hd hi;simp only [results,hres];simp only [Array.getD_eq_getD_getElem?]at ht;simp [ht,asAddr,h]
def jo (l:List dH):List (List Value):=l.map dH.cells
theorem zt (l:List dH) (g:dH):jo (l++ [g])=jo l++ [[i64 g.width,i64 g.aV]]:=by simp [jo,dH.cells]
theorem k9 (l:List dH):(jo l).length=l.length:=by simp [jo]
theorem Tryz.info_seg:(Tryz.prog.info? 138).map (fun i=>(i.zero,i.size,i.bytes))=some (some (.agg #[i64 0,i64 0]),2,16):=by kernel_rfl
structure yr (l:List dH) (aV:Int):Prop where
 H5: ∀g∈l,1≤g.width∧g.width≤15∧ -2≤g.aV∧g.aV≤40∧g.aV≤aV
 M6:pC l l.length=true
 aV: -2≤aV∧aV≤20+10*l.length
theorem Bh (l:List dH) (g:dH):cE (l++ [g])=cE l+g.width:=by unfold cE;rw [List.map_append,List.sum_append];simp
theorem yr.snoc {l:List dH} {aV w d:Int} (h:yr l aV) (hw:1≤w∧w≤15) (hl:l.length≤1) (hd:0≤d∧d<10):yr (l++ [⟨w,aV⟩]) (aV+d):=by
 have hp:=h.aV;refine ⟨?_,?_,?_⟩
 ·intro g hg
  rcases List.mem_append.1 hg with e|e
  ·have:=h.H5 g e;omega
  ·rw [List.mem_singleton]at e;subst e;simp only;omega
 ·unfold pC
  rw [List.all_eq_true];intro j hj;have yY:=List.mem_range.1 hj;rw [List.length_append]at yY;simp only [List.length_cons,List.length_nil]at yY;by_cases q0:j=0
  ·subst q0;rfl
  ·have hj1:j=1∧l.length=1:=by omega
   obtain ⟨rfl,wM⟩:=hj1
   obtain ⟨g,rfl⟩: ∃g,l= [g]:=by
    match l,wM with
    | [g],_=>exact ⟨g,rfl⟩
   have:=h.H5 g (by simp);simp [De];omega
 ·rw [List.length_append];simp only [List.length_cons,List.length_nil];omega
theorem qP {l:List dH} {aV:Int} (h:yr l aV):0≤cE l∧cE l≤15*l.length:=by
 have: ∀m:List dH,(∀g∈m,1≤g.width∧g.width≤15)→0≤cE m∧cE m≤15*m.length:=by
  intro m;induction m with
  |nil=>intro _;simp [cE]
  |cons g m ih=>
   intro hm;have h1:=ih (fun x hx=>hm x (List.mem_cons_of_mem _ hx));have h2:=hm g (by simp);unfold cE at*;rw [List.map_cons,List.sum_cons,List.length_cons];omega
 exact this l (fun g hg=>⟨(h.H5 g hg).1,(h.H5 g hg).2.1⟩)
structure UW (V:World) (T R X D:Nat) (a:Option Addr) (c:Nat) (l:List Int) (x:aK) (W:World):Prop where
 tape:bJ W T a c l
 unit:aQ W X 67 x.cells
 res:aQ W R 67 oz.cells
 ext:ar T V W
 size:D≤W.heap.size
 aU:bH W 2 x.sa x.sc (x.aU.map dH.cells)
 sf:Fr D x.sa
 away:aI W x.aa x.ac x.away
 af:Fr D x.aa
 pos:T<D∧X<D∧R<D∧X≠T∧X≠R∧R≠T∧V.heap.size≤X
theorem UW.next {V W W':World} {T R X D:Nat} {a:Option Addr} {c:Nat} {l:List Int} {x:aK} (h:UW V T R X D a c l x W) (hT:bJ W' T a c l) (hx:ar T W W'):UW V T R X D a c l x W':=
 ⟨hT,h.unit.but hx h.pos.2.2.2.1,h.res.but hx h.pos.2.2.2.2.2.1,h.ext.trans hx,Nat.le_trans h.size hx.size,h.aU.but hx (h.sf.ne h.pos.1),h.sf,h.away.dC hx (h.af.ne h.pos.1),h.af,h.pos⟩
theorem UW.drew {V W:World} {T R X D:Nat} {a:Option Addr} {c:Nat} {l:List Int} {x:aK} (h:UW V T R X D a c l x W):UW V T R X D a c l x W.drew:=
 h.next (h.tape.ext (Ext.refl W).drew) ((Ext.refl W).drew.but T)
theorem UW.set {V W:World} {T R X D:Nat} {a:Option Addr} {c:Nat} {l:List Int} {x:aK} (h:UW V T R X D a c l x W) (j:Nat) (v:Value) (x':aK) (hc:x'.cells=x.cells.set j v) (hs:x'.sa=x.sa∧x'.sc=x.sc∧x'.aU=x.aU∧x'.aa=x.aa∧x'.ac=x.ac∧x'.away=x.away):UW V T R X D a c l x' (W.setCell ⟨X,j,none⟩ v):=by
 obtain ⟨h1,h2,h3,h4,h5,h6⟩:=hs;have hx:=((ar.refl X W).eL (o:=j) (v:=v));refine ⟨h.tape.but hx h.pos.2.2.2.1.symm,by rw [hc];exact h.unit.set j v,h.res.but hx h.pos.2.2.2.2.1.symm,h.ext.setCell (p:=⟨X,j,none⟩) h.pos.2.2.2.2.2.2 _,Nat.le_trans h.size hx.size,?_,by rw [h1];exact h.sf,?_,by rw [h4];exact h.af,h.pos⟩
 ·rw [h1,h2,h3];exact h.aU.but hx (h.sf.ne h.pos.2.1)
 ·rw [h4,h5,h6];exact h.away.dC hx (h.af.ne h.pos.2.1)
theorem Lp (w0 V:World) (T:Nat) (a:Option Addr) (c:Nat) (l:List Int) (i nb:Nat) (hours:Int) (hK:w0.heap.size≤T) (hV:Ext w0 V) (hl:aI w0 a c l) (hT:bJ V T a c l) (hi:i<16) (Ql:0<nb) (RI:nb<1000) (hh:0<hours) (UU:hours<1000):
 Calls prog 35 #[.pointer (some ⟨T,0,none⟩),.int .i64 (i:Int),.int .i64 (nb:Int),i64 hours] V fun e w'=> ∃(x:aK) (bu:Nat),e= .returned (.agg x.cells.toArray)∧bu<nb∧sJ x i bu hours∧aI w' x.aa x.ac x.away∧Fr V.heap.size x.aa∧bH w' 2 x.sa x.sc (x.aU.map dH.cells)∧Fr V.heap.size x.sa∧lQ V T a c l w':=by
 have gD:=ae (fI.of w0 V T a c l hK hV hl);have Oh:=ae (fun U (hx:ar T V U) (hU:bJ U T a c l)=>ER w0 U T a c l hours hK (hx.ext hV hK) hl hU hh (by omega));have Dd:=ae (fun U=>uH U 117 i hi);have HT:=ae hT;have IP:=ae hT.lt;have jD:=ae (And.intro Ql RI);clear hK hV hl hT hi hh UU Ql RI;go_enter func35,ntmps35
 go_upto_region 1 with fail
 obtain ⟨W0,hW,x0,Z0,A0⟩:=aX V 67 oz.cells;rw [show V.alloc (.cells #[.string {data:= #[]},i64 0,i64 0,i64 0,.slice none 0 0,i64 0,i64 0,i64 0,i64 0,i64 0,i64 0,i64 0,i64 0,i64 0,i64 0,i64 0,i64 0,i64 0,.slice none 0 0,i64 0,i64 0,i64 0] 67)=W0 from hW.symm];obtain ⟨R,hR⟩: ∃R,R=V.heap.size:=⟨_,rfl⟩;rw [←hR]at A0⊢;have qN:R≠T:=by have:=IP.o;omega
 have ET:Hid (V.heap.size≤R):=by show _≤_;omega
 have HR:=ae A0;have HX:=ae (x0.but T);have HT:=ae (HT.o.ext x0)
 clear hW Z0 A0 hR x0;go_wp2_with fail
 refine (Dd.o W0).mono ?_;rintro e w1 ⟨rfl,gH⟩;rw [gH];clear gH
 go_wp2_with fail
 refine (gD.o W0 (nb:Int) HX.o HT.o (by have:=jD.o.1;omega) (by have:=jD.o.2;omega)).mono ?_;rintro e W1 ⟨bz,rfl,Xi,hT,hx⟩;have HX:=ae (HX.o.trans hx);have HT:=ae hT;have HR:=ae (HR.o.but hx qN)
 clear hT hx;obtain ⟨bu,RJ⟩: ∃bu:Nat,bz=(bu:Int):=⟨bz.toNat,by omega⟩;subst RJ;have HBU:Hid (bu<nb):=by show _<_;omega
 clear Xi;go_wp2_with fail
 refine (gD.o W1 8 HX.o HT.o (by decide) (by decide)).mono ?_;rintro e W2 ⟨mn,rfl,RL,hT,hx⟩;have HX:=ae (HX.o.trans hx);have HT:=ae hT;have HR:=ae (HR.o.but hx qN)
 clear hT hx;go_wp2_with fail
 refine (gD.o W2 20 HX.o HT.o (by decide) (by decide)).mono ?_;rintro e W3 ⟨nl,rfl,RM,hT,hx⟩;have HX:=ae (HX.o.trans hx);have HT:=ae hT;have HR:=ae (HR.o.but hx qN)
 clear hT hx;go_upto_region 2 with(refine dR rfl 67 _ _ rfl oz.cells (⟨aR 117 i,(bu:Int),mn,0,none,0,[],nl,0,0,0,0,0,0,0,0,0,0,0,0,none,0,[],0,0,0⟩:aK).cells rfl rfl (by kernel_rfl) rfl rfl ?_)
 obtain ⟨WX,M7,xx,ZX,AX⟩:=aX W3 67 (⟨aR 117 i,(bu:Int),mn,0,none,0,[],nl,0,0,0,0,0,0,0,0,0,0,0,0,none,0,[],0,0,0⟩:aK).cells;rw [←M7];obtain ⟨X,KJ⟩: ∃X,X=W3.heap.size:=⟨_,rfl⟩;rw [←KJ]at AX⊢;have qy:X≠T:=by have:=HT.o.lt;omega
 have EU:X≠R:=by have:=HR.o.lt;omega
 have EW:Hid (V.heap.size≤X):=by show _≤_;rw [KJ];exact HX.o.size
 have HA:=ae AX;have HX:=ae (HX.o.trans (xx.but T));have HT:=ae (HT.o.ext xx);have HR:=ae (HR.o.ext xx)
 clear M7 KJ ZX AX xx Dd;have RN:=ae RL;clear RL;have Xj:=ae RM;clear RM;have c2:=HA.o.cl 2 (i64 mn) rfl;have c3:=HA.o.cl 3 (i64 0) rfl;have f3:=HA.o.frozen 3;have sq:Hid (aQ (WX.setCell ⟨X,3,none⟩ (i64 mn)) X 67 (⟨aR 117 i,(bu:Int),mn,mn,none,0,[],nl,0,0,0,0,0,0,0,0,0,0,0,0,none,0,[],0,0,0⟩:aK).cells):=(HA.o).set 3 (i64 mn)
 have p7:Hid (bJ (WX.setCell ⟨X,3,none⟩ (i64 mn)) T a c l):=by
  obtain ⟨j,hj,hA⟩:=HT.o;exact ⟨j,hj,(hA).other _ _ qy⟩
 have ez:Hid (ar T V (WX.setCell ⟨X,3,none⟩ (i64 mn))):=(HX.o).setCell (p:=⟨X,3,none⟩) EW.o _;have xg:Hid (aQ (WX.setCell ⟨X,3,none⟩ (i64 mn)) R 67 oz.cells):=(HR.o).other _ _ EU;clear HA HT HX HR;go_upto_region 3 with fail
 generalize (WX.setCell ⟨X,3,none⟩ (i64 mn))=W4 at*;have HA:=sq;have HT:=p7;have HX:=ez;have HR:=xg
 clear sq p7 ez xg c2 c3 f3;go_wp2_with fail
 refine (gD.o W4 20 HX.o HT.o (by decide) (by decide)).mono ?_;rintro e W5 ⟨pr,rfl,Xk,hT,hx⟩;have HX:=ae (HX.o.trans hx);have HT:=ae hT;have HR:=ae (HR.o.but hx qN);have HA:=ae (HA.o.but hx qy)
 clear hT hx;have q1:IntKind.i64.wrap (pr-2)=pr-2:=by rw [IntKind.wrap_i64];omega
 obtain ⟨p0,U7⟩: ∃p0,p0=pr-2:=⟨_,rfl⟩;have HP0:Hid (-2≤p0∧p0≤17):=by show _∧_;omega
 go_wp2_with fail
 refine (gD.o W5 2 HX.o HT.o (by decide) (by decide)).mono ?_;rintro e W6 ⟨nn,rfl,Xl,hT,hx⟩;have HX:=ae (HX.o.trans hx);have HT:=ae hT;have HR:=ae (HR.o.but hx qN);have HA:=ae (HA.o.but hx qy)
 clear hT hx;have q2:IntKind.i64.wrap (1+nn)=1+nn:=by rw [IntKind.wrap_i64];omega
 obtain ⟨nr,hnr⟩: ∃nr:Nat,1+nn=(nr:Int):=⟨(1+nn).toNat,by omega⟩;have RO:Hid (1≤nr∧nr≤2):=by show _∧_;omega
 go_wp2_with fail
 rw [←U7];clear q1 q2 U7 hnr Xk Xl;have HMN:=RN;have Dt:Hid (T<W6.heap.size):=HT.o.lt;have IV:Hid (X<W6.heap.size):=HA.o.lt;have Xm:Hid (R<W6.heap.size):=HR.o.lt;have Qf:Hid (V.heap.size≤W6.heap.size):=HX.o.size;go_loopw [10,11] (fun pv nv wr=> ∃(k:Nat) (sg:List dH) (sa:Option Addr) (sc:Nat) (aV:Int),k≤nr∧sg.length=k∧yr sg aV∧aJ wr W6.heap.size 138 2 (.slice sa sg.length sc) (jo sg)∧aQ wr X 67 (⟨aR 117 i,(bu:Int),mn,mn+cE sg,sa,sc,sg,nl,0,0,0,0,0,0,0,0,0,0,0,0,none,0,[],0,0,0⟩:aK).cells∧bJ wr T a c l∧ar T V wr∧aQ wr R 67 oz.cells∧W6.heap.size≤wr.heap.size∧pv= .int .i64 aV∧nv= .int .i64 ((nr-k:Nat):Int)) (fun _ nv _=>(intOf nv).toNat)
 case atStart=>exact ⟨0,[],none,0,p0,Nat.zero_le _,rfl,⟨fun g hg=>absurd hg (by simp),rfl,by have:=HP0.o;simp only [List.length_nil];omega⟩,aJ.nil _ _ _ _,by simpa [cE]using HA.o,HT.o,HX.o,HR.o,Nat.le_refl _,rfl,rfl⟩
 case round=>
  obtain ⟨k,sg,sa,sc,aV,hk,AE,hsm,hown,hA,hT,hX,hR,hD,rfl,rfl⟩:=hrel;clear HA HT HX HR;have HA:=ae hA;have HT:=ae hT;have HX:=ae hX;have HR:=ae hR;have HO:=ae hown;have HD:=ae hD;have kg:=ae hsm;have Gp:=ae AE
  clear hA hT hX hR hown hD hsm AE;by_cases hlt:k<nr
  ·as_aux_lemma=>
   have b0:(0:Int)<((nr-k:Nat):Int):=by omega
   have K7:k≤1:=by have:=RO.o;omega
   go_wp2_with fail
   refine (gD.o wr 15 HX.o HT.o (by decide) (by decide)).mono ?_;rintro e W7 ⟨wd,rfl,Xn,hT,hx⟩;have IW:=hx;have EX:=hx.size
   have HX:=ae (HX.o.trans hx);have HT:=ae hT;have HR:=ae (HR.o.but hx qN);have HA:=ae (HA.o.but hx qy)
   clear hT hx;have q1:IntKind.i64.wrap (1+wd)=1+wd:=by rw [IntKind.wrap_i64];omega
   obtain ⟨w1,gH⟩: ∃w1,w1=1+wd:=⟨_,rfl⟩;have IX:Hid (1≤w1∧w1≤15):=by show _∧_;omega
   go_upto_region 8 with fail
   rw [←gH];clear q1 gH Xn;obtain ⟨WB,hWB,xb,ZB,AB⟩:=aX W7 138 [i64 w1,i64 aV];rw [show W7.alloc (.cells #[i64 w1,i64 aV] 138)=WB from hWB.symm];obtain ⟨B,RP⟩: ∃B,B=W7.heap.size:=⟨_,rfl⟩;rw [←RP]at AB⊢;have zu:B≠T:=by have:=HT.o.lt;omega
   have Oj:B≠X:=by have:=HA.o.lt;omega
   have hBR:B≠R:=by have:=HR.o.lt;omega
   have HBV:Hid (V.heap.size≤B):=by show _≤_;rw [RP];exact HX.o.size
   have hDB:W6.heap.size≤B:=by rw [RP];exact Nat.le_trans HD.o EX
   have p9:=ae (HO.o.but IW Dt.o);have HO:Hid (aJ WB W6.heap.size 138 2 (.slice sa sg.length sc) (jo sg)):=p9.o.ext xb;have Ol:=p9.o.own.lt;rw [←RP]at Ol;have Re:=ae Ol;have HA:=ae (HA.o.ext xb);have HX:=ae (HX.o.trans (xb.but T));have HT:=ae (HT.o.ext xb);have HR:=ae (HR.o.ext xb);have HB:=ae AB
   clear hWB RP ZB AB xb EX IW Ol p9;obtain ⟨mx,hmx⟩: ∃mx,mx=mn+cE sg:=⟨_,rfl⟩
   have IY:Hid (0≤mx∧mx≤30):=by
    show _∧_;have h1:=HMN.o;have h2:=qP kg.o;have h3:=Gp.o
    omega
   have Xo:=ae hmx;rw [←hmx]at HA;clear hmx;have c0:=HB.o.cl 0 (i64 w1) rfl;have c1:=HB.o.cl 1 (i64 aV) rfl;have c4:=HA.o.cl 4 (.slice sa sg.length sc) rfl
   have HOW:Hid (WB.ownsRow W6.heap.size 138 2 (.slice sa sg.length sc) sg.length (jo sg).flatten):=by
    have h5:=HO.o.own;rw [k9]at h5;exact h5
   have Xp:W6.heap.size≤WB.heap.size:=by have:=HB.o.lt;omega
   obtain ⟨CK,Om⟩: ∃CK,CK=sg++ [(⟨w1,aV⟩:dH)]:=⟨_,rfl⟩;have MU:Hid (sg.length+1=CK.length):=by show _=_;rw [Om,List.length_append];rfl
   have Oo:=ae Om;clear Om
   go_wp2_with (
    at_builtin
    refine bn _ rfl _ _ 65 rfl W6.heap.size 138 (.agg #[i64 0,i64 0]) 2 16 underlying65 Tryz.info_seg rfl (by decide) (.slice sa sg.length sc) sg.length (jo sg).flatten rfl ?c1 (some ⟨WB.heap.size,0,none⟩) 1 1 [i64 w1,i64 aV] rfl rfl ?c2 ?c3 ?c4 ?c5 (by decide) ?c6 ?_
    case c1=>exact bW HOW.o ((Ext.refl _).alloc _)
    case c2=>exact fun _=>⟨_,rfl,dD WB 138 [i64 w1,i64 aV]⟩
    case c3=>intro u hu;rcases List.mem_cons.1 hu with e|hu;·subst e;rfl
             rw [List.mem_singleton]at hu;subst hu;rfl
    case c4=>intro e;cases e
    case c5=>have:=Gp.o;omega
    case c6=>simp;omega
    intro v1 w5 ho he hb hz hv;obtain ⟨CM,CN,rfl⟩:=fg ho.o;have na:=HOW.o.lt;have AD:(WB.alloc (.cells #[i64 w1,i64 aV] 138)).heap.size=WB.heap.size+1:=by simp
    have U8: ∀k,Value.ownBlock (.slice sa sg.length sc)=some k→W6.heap.size≤k∧k<B:=by
     exact Re.o
    have W_:=HT.o.lt;have hXl:=HA.o.lt;have Rm:=HR.o.lt;have hBl:=HB.o.lt
    have Rs:bJ w5 T a c l:=bJ.keep (HT.o.ext ((Ext.refl WB).alloc _)) (hb.o T (by omega) (fun e=>by have:=(na T e.symm).1;have:=Dt.o;omega));have hX5:ar T V w5:=ar.append (HX.o.alloc' _) Qf.o (fun k e=>(na k e).1) he.o hb.o hz.o;have Bi:aQ w5 X 67 _:=(HA.o.ext ((Ext.refl WB).alloc _)).keep (hb.o X (by omega) (fun e=>by have:=(na X e.symm).1;have:=IV.o;omega));have hR5:aQ w5 R 67 _:=(HR.o.ext ((Ext.refl WB).alloc _)).keep (hb.o R (by omega) (fun e=>by have:=(na R e.symm).1;have:=Xm.o;omega));have hB5:aQ w5 B 138 [i64 w1,i64 aV]:=(HB.o.ext ((Ext.refl WB).alloc _)).keep (hb.o B (by omega) (fun e=>by have:=(U8 B e.symm).2;omega));have kF:=HO.o.snoc (w':=w5) (r:= [i64 w1,i64 aV]) rfl (by rw [k9];exact ho.o);have Lq:=zt sg ⟨w1,aV⟩;simp only at Lq;rw [←Lq,←Oo.o]at kF;rw [MU.o]at kF⊢;have M8:W6.heap.size≤w5.heap.size:=by have:=hz.o;omega
    clear HA HT HX HR HB HO Re;have HA:=ae Bi;have HT:=ae Rs;have HX:=ae hX5;have HR:=ae hR5;have HB:=ae hB5;have HO:=ae kF;have Xq:=ae M8
    clear Bi Rs hX5 hR5 hB5 kF Lq W_ hXl Rm hBl U8 AD na ho he hb hz hv HOW M8 Xp c0 c1 c4;have c4:=HA.o.cl 4 (.slice sa sg.length sc) rfl;have f4:=HA.o.frozen 4)
   go_upto_region 9 with fail
   obtain ⟨W8,H6⟩: ∃W8,W8=w5.setCell ⟨X,4,none⟩ (.slice CM CK.length CN):=⟨_,rfl⟩;rw [←H6];have sq:Hid (aQ W8 X 67 (⟨aR 117 i,(bu:Int),mn,mx,CM,CN,CK,nl,0,0,0,0,0,0,0,0,0,0,0,0,none,0,[],0,0,0⟩:aK).cells):=by rw [H6];exact HA.o.set 4 (.slice CM CK.length CN)
   have p7:Hid (bJ W8 T a c l):=by
    rw [H6];obtain ⟨j,hj,hA⟩:=HT.o;exact ⟨j,hj,hA.other _ _ qy⟩
   have ez:Hid (ar T V W8):=by rw [H6];exact HX.o.setCell (p:=⟨X,4,none⟩) EW.o _
   have xg:Hid (aQ W8 R 67 oz.cells):=by rw [H6];exact HR.o.other _ _ EU
   have sI:Hid (aQ W8 B 138 [i64 w1,i64 aV]):=by rw [H6];exact HB.o.other _ _ Oj.symm
   have o6:Hid (aJ W8 W6.heap.size 138 2 (.slice CM CK.length CN) (jo CK)):=by rw [H6];exact HO.o.but ((ar.refl X w5).eL) IV.o
   have Qm:Hid (W6.heap.size≤W8.heap.size):=by have:=Xq.o;have h5:=((ar.refl X w5).eL (o:=4) (v:= .slice CM CK.length CN)).size;rw [←H6]at h5;show _≤_;omega
   clear HA HT HX HR HB HO Xq c4 f4 H6;have HA:=sq;have HT:=p7;have HX:=ez;have HR:=xg;have HB:=sI;have HO:=o6;have HZ:=Qm
   clear sq p7 ez xg sI o6 Qm;have c3:=HA.o.cl 3 (i64 mx) rfl;have c0:=HB.o.cl 0 (i64 w1) rfl;have q1:IntKind.i64.wrap (mx+w1)=mx+w1:=by rw [IntKind.wrap_i64];have:=IY.o;have:=IX.o;omega
   refine aL (fun w'=>True) (fun w'=>w'.cell? ⟨X,3,none⟩=some (i64 mx)∧w'.cell? ⟨B,0,none⟩=some (i64 w1)) (fun i=>i==10) (by kernel_rfl) (trivial) (⟨c3,c0⟩) (fun ay ah=> ?_);refine aF 0 ay ah ?_;refine Hw 1 ay ah ?_ (v:=i64 mx);refine aF 2 ay ah ?_;refine Hw 3 ay ah ?_ (v:=i64 w1);refine aF 4 ay ah ?_ (v:=i64 (mx+w1));refine aF 5 ay ah ?_ (v:=i64 aV);refine aF 6 ay ah ?_;refine aF 9 ay ah ?_;refine fp 7 rfl (fun Kc hK=> ?_);go_simp;refine (gD.o W8.drew 10 (HX.o.trans ((Ext.refl W8).drew.but T)) (HT.o.ext (Ext.refl _).drew) (by decide) (by decide)).mono ?_;rintro e W9 ⟨d,rfl,h_d,hT,hx⟩;refine hK.o _ _ (trivial) (⟨cK (ak (Ext.refl W8).drew c3) hx qy,cK (ak (Ext.refl W8).drew c0) hx zu⟩) (fun ay ah=> ?_);clear hK Kc;try simp only [sS]
   have q2:IntKind.i64.wrap (aV+d)=aV+d:=by rw [IntKind.wrap_i64];have:=kg.o.aV;have:=Gp.o;omega
   refine aF 8 ay ah ?_ (v:=i64 (aV+d));have uI:=(HA.o.ext (Ext.refl W8).drew).but hx qy;have f3:=uI.frozen 3;have e3:W9.cell? ⟨X,3,none⟩=some (i64 mx):=(uI.cell 3).trans rfl
   refine bE (rs:= [10]) (by kernel_rfl) (by simp) ?_;refine aH.late rfl (by kernel_rfl) (fun Kc hK=> ?_) aH.nil;go_simp;refine hK.o _ _ (trivial) (fun ay=> ?_);clear hK Kc;try simp only [sS]
   refine wTl 11 ay ?_ (v:=i64 (aV+d));refine aD (by kernel_rfl) ?_ _;clear ay
   have sq:Hid (aQ (W9.setCell ⟨X,3,none⟩ (i64 (mx+w1))) X 67 (⟨aR 117 i,(bu:Int),mn,mn+cE CK,CM,CN,CK,nl,0,0,0,0,0,0,0,0,0,0,0,0,none,0,[],0,0,0⟩:aK).cells):=by
    have h5:=uI.set 3 (i64 (mx+w1));have h6:mx+w1=mn+cE CK:=by rw [Oo.o,Bh,Xo.o];show _=mn+(cE sg+w1);omega
    rw [h6]at h5⊢;exact h5
   have Rv:=hT;have hX9:=(HX.o.trans ((Ext.refl W8).drew.but T)).trans hx
   have p7:Hid (bJ (W9.setCell ⟨X,3,none⟩ (i64 (mx+w1))) T a c l):=by
    obtain ⟨j,hj,hA⟩:=Rv;exact ⟨j,hj,hA.other _ _ qy⟩
   have ez:Hid (ar T V (W9.setCell ⟨X,3,none⟩ (i64 (mx+w1)))):=hX9.setCell (p:=⟨X,3,none⟩) EW.o _;have xg:Hid (aQ (W9.setCell ⟨X,3,none⟩ (i64 (mx+w1))) R 67 oz.cells):=((HR.o.ext (Ext.refl W8).drew).but hx qN).other _ _ EU;have o6:Hid (aJ (W9.setCell ⟨X,3,none⟩ (i64 (mx+w1))) W6.heap.size 138 2 (.slice CM CK.length CN) (jo CK)):=((HO.o.ext (Ext.refl W8).drew).but hx Dt.o).but ((ar.refl X W9).eL) IV.o
   have Qm:Hid (W6.heap.size≤(W9.setCell ⟨X,3,none⟩ (i64 (mx+w1))).heap.size):=by
    have:=HZ.o;have h5:=hx.size;have h6:=((Ext.refl W8).drew).size
    show _≤_;rw [World.size_setCell];omega
   have Xr:Hid (yr CK (aV+d)):=by rw [Oo.o];exact kg.o.snoc IX.o (by rw [Gp.o];exact K7) h_d
   generalize (W9.setCell ⟨X,3,none⟩ (i64 (mx+w1)))=yq at*;clear HA HT HX HR HB HO HZ Rv hX9 uI e3 f3 c3 c0 q1 q2 hT hx h_d;have q3:IntKind.i64.wrap (((nr-k:Nat):Int)-1)=((nr-(k+1):Nat):Int):=by rw [IntKind.wrap_i64];have:=RO.o;omega
   go_wp2_with fail
   exact ⟨⟨k+1,CK,CM,CN,aV+d,by omega,by have:=MU.o;have:=Gp.o;omega,Xr.o,o6.o,sq.o,p7.o,ez.o,xg.o,Qm.o,rfl,rfl⟩,by show(((nr-(k+1):Nat):Int)).toNat<(((nr-k:Nat):Int)).toNat;omega⟩
  ·obtain rfl:k=nr:=by omega
   clear hlt hk;rw [Nat.sub_self k,show((0:Nat):Int)=0 from rfl];obtain ⟨mx,hmx⟩: ∃mx,mx=mn+cE sg:=⟨_,rfl⟩
   have IY:Hid (mn≤mx∧mx≤40∧0≤mn):=by
    show _∧_;have h1:=HMN.o;have h2:=qP kg.o;have h3:=Gp.o;have h4:=RO.o
    omega
   have Xs:=ae hmx;rw [←hmx]at HA;clear hmx
   have HU:Hid (UW V T R X W6.heap.size a c l (⟨aR 117 i,(bu:Int),mn,mx,sa,sc,sg,nl,0,0,0,0,0,0,0,0,0,0,0,0,none,0,[],0,0,0⟩:aK) wr):=by
    obtain ⟨ra,rc,kK,su,Gq⟩:=HO.o.recs (by decide);rw [k9]at kK;cases kK
    exact ⟨HT.o,HA.o,HR.o,HX.o,HD.o,su,Gq,aI.nil _,Fr.none _,⟨Dt.o,IV.o,Xm.o,qy,EU,qN,EW.o⟩⟩
   have RS:=Qf;clear HT HA HR HX HD HO Dt IV Xm Qf;go_wp2_with fail
   refine (gD.o wr 20 HU.o.ext HU.o.tape (by decide) (by decide)).mono ?_;rintro e W8 ⟨ru,rfl,RT,hT,hx⟩;replace HU:=ae (HU.o.next hT hx);clear hT hx;have Xt:=ae RT;clear RT;go_wp2_with fail
   refine (gD.o W8 20 HU.o.ext HU.o.tape (by decide) (by decide)).mono ?_;rintro e W9 ⟨rd,rfl,RU,hT,hx⟩;replace HU:=ae (HU.o.next hT hx);clear hT hx;have Xu:=ae RU;clear RU;have c6:=HU.o.unit.cl 6 (i64 0) rfl;have f6:=HU.o.unit.frozen 6;have c7:=HU.o.unit.cl 7 (i64 0) rfl;have f7:=HU.o.unit.frozen 7;replace HU:Hid (UW V T R X W6.heap.size a c l (⟨aR 117 i,(bu:Int),mn,mx,sa,sc,sg,nl,ru,0,0,0,0,0,0,0,0,0,0,0,none,0,[],0,0,0⟩:aK) (W9.setCell ⟨X,6,none⟩ (i64 ru))):=HU.o.set 6 (i64 ru) _ rfl ⟨rfl,rfl,rfl,rfl,rfl,rfl⟩;replace HU:Hid (UW V T R X W6.heap.size a c l (⟨aR 117 i,(bu:Int),mn,mx,sa,sc,sg,nl,ru,rd,0,0,0,0,0,0,0,0,0,0,none,0,[],0,0,0⟩:aK) ((W9.setCell ⟨X,6,none⟩ (i64 ru)).setCell ⟨X,7,none⟩ (i64 rd))):=HU.o.set 7 (i64 rd) _ rfl ⟨rfl,rfl,rfl,rfl,rfl,rfl⟩;go_upto_region 11 with fail
   clear c6 f6 c7 f7;generalize ((W9.setCell ⟨X,6,none⟩ (i64 ru)).setCell ⟨X,7,none⟩ (i64 rd))=yq at*;have Qn:Hid (0<mx-mn+1∧mx-mn+1<100):=by have:=IY.o;show _∧_;omega
   have q1:IntKind.i64.wrap (mx-mn)=mx-mn:=by rw [IntKind.wrap_i64];have:=IY.o;omega
   have q2:IntKind.i64.wrap (mx-mn+1)=mx-mn+1:=by rw [IntKind.wrap_i64];have:=IY.o;omega
   refine aL (fun w'=>w'.cell? ⟨X,2,none⟩=some (i64 mn)∧w'.cell? ⟨X,3,none⟩=some (i64 mx)) (fun w'=>True) (fun i=>false) (by kernel_rfl) (⟨(HU.o.unit.cell 2).trans rfl,(HU.o.unit.cell 3).trans rfl⟩) (trivial) (fun ay ah=> ?_);refine aF 0 ay ah ?_;refine aF 1 ay ah ?_ (v:=i64 mn);refine aF 2 ay ah ?_;refine aF 3 ay ah ?_;refine aF 4 ay ah ?_ (v:=i64 mx);refine aF 5 ay ah ?_;refine aF 6 ay ah ?_ (v:=i64 mn);refine aF 7 ay ah ?_ (v:=i64 (mx-mn));refine aF 8 ay ah ?_ (v:=i64 (mx-mn+1));refine aF 11 ay ah ?_;refine aF 12 ay ah ?_ (v:=i64 mn);refine aF 13 ay ah ?_;refine aF 14 ay ah ?_;refine aF 15 ay ah ?_ (v:=i64 mx);refine aF 16 ay ah ?_;refine aF 17 ay ah ?_ (v:=i64 mn);refine aF 18 ay ah ?_ (v:=i64 (mx-mn));refine aF 19 ay ah ?_ (v:=i64 (mx-mn+1));replace HU:=ae (HU.o.drew);refine fp 9 rfl (fun Kc hK=> ?_);go_simp;refine (gD.o yq.drew (mx-mn+1) HU.o.ext HU.o.tape Qn.o.1 (by have:=Qn.o.2;omega)).mono ?_;rintro e W11 ⟨sr,rfl,RV,hT,hx⟩;replace HU:=ae (HU.o.next hT hx);clear hT hx;have RX:=ae RV;clear RV;refine hK.o _ _ (⟨(HU.o.unit.cell 2).trans rfl,(HU.o.unit.cell 3).trans rfl⟩) (trivial) (fun ay ah=> ?_);clear hK Kc;try simp only [sS]
   have q3:IntKind.i64.wrap (mn+sr)=mn+sr:=by rw [IntKind.wrap_i64];have:=IY.o;have:=RX.o;omega
   refine aF 10 ay ah ?_ (v:=i64 (mn+sr));refine aF 22 ay ah ?_;refine fp 20 rfl (fun Kc hK=> ?_);go_simp;refine (gD.o W11 (mx-mn+1) HU.o.ext HU.o.tape Qn.o.1 (by have:=Qn.o.2;omega)).mono ?_;rintro e W12 ⟨tr,rfl,RY,hT,hx⟩;replace HU:=ae (HU.o.next hT hx);clear hT hx;have RZ:=ae RY;clear RY;refine hK.o _ _ (⟨(HU.o.unit.cell 2).trans rfl,(HU.o.unit.cell 3).trans rfl⟩) (trivial) (fun ay ah=> ?_);clear hK Kc;try simp only [sS]
   have q4:IntKind.i64.wrap (mn+tr)=mn+tr:=by rw [IntKind.wrap_i64];have:=IY.o;have:=RZ.o;omega
   refine aF 21 ay ah ?_ (v:=i64 (mn+tr));have c8:=HU.o.unit.cl 8 (i64 0) rfl;have f8:=HU.o.unit.frozen 8;refine fp 23 rfl (fun Kc hK=> ?_);go_simp;replace HU:Hid (UW V T R X W6.heap.size a c l (⟨aR 117 i,(bu:Int),mn,mx,sa,sc,sg,nl,ru,rd,mn+sr,0,0,0,0,0,0,0,0,0,none,0,[],0,0,0⟩:aK) (W12.setCell ⟨X,8,none⟩ (i64 (mn+sr)))):=HU.o.set 8 (i64 (mn+sr)) _ rfl ⟨rfl,rfl,rfl,rfl,rfl,rfl⟩;generalize (W12.setCell ⟨X,8,none⟩ (i64 (mn+sr)))=W13 at*;refine hK.o _ _ (⟨(HU.o.unit.cell 2).trans rfl,(HU.o.unit.cell 3).trans rfl⟩) (trivial) (fun ay ah=> ?_);clear hK Kc;try simp only [sS]
   clear c8 f8;refine aF 24 ay ah ?_;have c9:=HU.o.unit.cl 9 (i64 0) rfl;have f9:=HU.o.unit.frozen 9;refine fp 25 rfl (fun Kc hK=> ?_);go_simp;replace HU:Hid (UW V T R X W6.heap.size a c l (⟨aR 117 i,(bu:Int),mn,mx,sa,sc,sg,nl,ru,rd,mn+sr,mn+tr,0,0,0,0,0,0,0,0,none,0,[],0,0,0⟩:aK) (W13.setCell ⟨X,9,none⟩ (i64 (mn+tr)))):=HU.o.set 9 (i64 (mn+tr)) _ rfl ⟨rfl,rfl,rfl,rfl,rfl,rfl⟩;generalize (W13.setCell ⟨X,9,none⟩ (i64 (mn+tr)))=W14 at*;refine hK.o _ _ (⟨(HU.o.unit.cell 2).trans rfl,(HU.o.unit.cell 3).trans rfl⟩) (trivial) (fun ay ah=> ?_);clear hK Kc;try simp only [sS]
   clear c9 f9;refine aD (by kernel_rfl) ?_ _;clear ay ah q1 q2 q3 q4;go_wp2_with fail
   refine (gD.o W14 3 HU.o.ext HU.o.tape (by decide) (by decide)).mono ?_;rintro e W15 ⟨ut,rfl,R3,hT,hx⟩;replace HU:=ae (HU.o.next hT hx);clear hT hx;have Xv:=ae R3;clear R3;go_wp2_with fail
   refine (gD.o W15 3 HU.o.ext HU.o.tape (by decide) (by decide)).mono ?_;rintro e W16 ⟨dt,rfl,R4,hT,hx⟩;replace HU:=ae (HU.o.next hT hx);clear hT hx;have Xw:=ae R4;clear R4;go_wp2_with fail
   refine (gD.o W16 2 HU.o.ext HU.o.tape (by decide) (by decide)).mono ?_;rintro e U_ ⟨st,rfl,R5,hT,hx⟩;replace HU:=ae (HU.o.next hT hx);clear hT hx;have IZ:=ae R5;clear R5;have c10:=HU.o.unit.cl 10 (i64 0) rfl;have f10:=HU.o.unit.frozen 10;have c11:=HU.o.unit.cl 11 (i64 0) rfl;have f11:=HU.o.unit.frozen 11;have c12:=HU.o.unit.cl 12 (i64 0) rfl;have f12:=HU.o.unit.frozen 12;replace HU:Hid (UW V T R X W6.heap.size a c l (⟨aR 117 i,(bu:Int),mn,mx,sa,sc,sg,nl,ru,rd,mn+sr,mn+tr,ut,0,0,0,0,0,0,0,none,0,[],0,0,0⟩:aK) (U_.setCell ⟨X,10,none⟩ (i64 ut))):=HU.o.set 10 (i64 ut) _ rfl ⟨rfl,rfl,rfl,rfl,rfl,rfl⟩;replace HU:Hid (UW V T R X W6.heap.size a c l (⟨aR 117 i,(bu:Int),mn,mx,sa,sc,sg,nl,ru,rd,mn+sr,mn+tr,ut,dt,0,0,0,0,0,0,none,0,[],0,0,0⟩:aK) ((U_.setCell ⟨X,10,none⟩ (i64 ut)).setCell ⟨X,11,none⟩ (i64 dt))):=HU.o.set 11 (i64 dt) _ rfl ⟨rfl,rfl,rfl,rfl,rfl,rfl⟩;replace HU:Hid (UW V T R X W6.heap.size a c l (⟨aR 117 i,(bu:Int),mn,mx,sa,sc,sg,nl,ru,rd,mn+sr,mn+tr,ut,dt,st,0,0,0,0,0,none,0,[],0,0,0⟩:aK) (((U_.setCell ⟨X,10,none⟩ (i64 ut)).setCell ⟨X,11,none⟩ (i64 dt)).setCell ⟨X,12,none⟩ (i64 st))):=HU.o.set 12 (i64 st) _ rfl ⟨rfl,rfl,rfl,rfl,rfl,rfl⟩;go_upto_region 13 with fail
   clear c10 f10 c11 f11 c12 f12;generalize (((U_.setCell ⟨X,10,none⟩ (i64 ut)).setCell ⟨X,11,none⟩ (i64 dt)).setCell ⟨X,12,none⟩ (i64 st))=W18 at*;go_wp2_with fail
   refine (gD.o W18 30 HU.o.ext HU.o.tape (by decide) (by decide)).mono ?_;rintro e W19 ⟨hc,rfl,R6,hT,hx⟩;replace HU:=ae (HU.o.next hT hx);clear hT hx;have Oq:=ae R6;clear R6;have c13:=HU.o.unit.cl 13 (i64 0) rfl;have f13:=HU.o.unit.frozen 13;replace HU:Hid (UW V T R X W6.heap.size a c l (⟨aR 117 i,(bu:Int),mn,mx,sa,sc,sg,nl,ru,rd,mn+sr,mn+tr,ut,dt,st,hc,0,0,0,0,none,0,[],0,0,0⟩:aK) (W19.setCell ⟨X,13,none⟩ (i64 hc))):=HU.o.set 13 (i64 hc) _ rfl ⟨rfl,rfl,rfl,rfl,rfl,rfl⟩;go_upto_region 14 with fail
   clear c13 f13;generalize (W19.setCell ⟨X,13,none⟩ (i64 hc))=W20 at*;refine aL (fun w'=>w'.cell? ⟨X,13,none⟩=some (i64 hc)) (fun w'=>True) (fun i=>false) (by kernel_rfl) ((HU.o.unit.cell 13).trans rfl) (trivial) (fun ay ah=> ?_);refine aF 0 ay ah ?_;refine aF 1 ay ah ?_ (v:=i64 hc);refine aF 2 ay ah ?_;replace HU:=ae (HU.o.drew);refine fp 3 rfl (fun Kc hK=> ?_);go_simp;refine (gD.o W20.drew (30) HU.o.ext HU.o.tape (by decide) (by decide)).mono ?_;rintro e W21 ⟨cc,rfl,R7,hT,hx⟩;replace HU:=ae (HU.o.next hT hx);clear hT hx;have R8:=ae R7;clear R7;refine hK.o _ _ ((HU.o.unit.cell 13).trans rfl) (trivial) (fun ay ah=> ?_);clear hK Kc;try simp only [sS]
   have q1:IntKind.i64.wrap (hc+cc)=hc+cc:=by rw [IntKind.wrap_i64];have:=Oq.o;have:=R8.o;omega
   refine aF 4 ay ah ?_ (v:=i64 (hc+cc));refine aF 5 ay ah ?_;have c14:=HU.o.unit.cl 14 (i64 0) rfl;have f14:=HU.o.unit.frozen 14;refine fp 6 rfl (fun Kc hK=> ?_);go_simp;replace HU:Hid (UW V T R X W6.heap.size a c l (⟨aR 117 i,(bu:Int),mn,mx,sa,sc,sg,nl,ru,rd,mn+sr,mn+tr,ut,dt,st,hc,hc+cc,0,0,0,none,0,[],0,0,0⟩:aK) (W21.setCell ⟨X,14,none⟩ (i64 (hc+cc)))):=HU.o.set 14 (i64 (hc+cc)) _ rfl ⟨rfl,rfl,rfl,rfl,rfl,rfl⟩;generalize (W21.setCell ⟨X,14,none⟩ (i64 (hc+cc)))=W22 at*;refine hK.o _ _ ((HU.o.unit.cell 13).trans rfl) (trivial) (fun ay ah=> ?_);clear hK Kc;try simp only [sS]
   clear c14 f14;refine aD (by kernel_rfl) ?_ _;clear ay ah q1;go_wp2_with fail
   refine (gD.o W22 4 HU.o.ext HU.o.tape (by decide) (by decide)).mono ?_;rintro e W23 ⟨hh,rfl,R9,hT,hx⟩;replace HU:=ae (HU.o.next hT hx);clear hT hx;have Xx:=ae R9;clear R9;go_wp2_with fail
   refine (gD.o W23 8 HU.o.ext HU.o.tape (by decide) (by decide)).mono ?_;rintro e W24 ⟨rs,rfl,R_,hT,hx⟩;replace HU:=ae (HU.o.next hT hx);clear hT hx;have Xy:=ae R_;clear R_;go_wp2_with fail
   refine (gD.o W24 4 HU.o.ext HU.o.tape (by decide) (by decide)).mono ?_;rintro e Va ⟨rp,rfl,Sa,hT,hx⟩;replace HU:=ae (HU.o.next hT hx);clear hT hx;have Xz:=ae Sa;clear Sa;have c15:=HU.o.unit.cl 15 (i64 0) rfl;have f15:=HU.o.unit.frozen 15;have c16:=HU.o.unit.cl 16 (i64 0) rfl;have f16:=HU.o.unit.frozen 16;have c17:=HU.o.unit.cl 17 (i64 0) rfl;have f17:=HU.o.unit.frozen 17;replace HU:Hid (UW V T R X W6.heap.size a c l (⟨aR 117 i,(bu:Int),mn,mx,sa,sc,sg,nl,ru,rd,mn+sr,mn+tr,ut,dt,st,hc,hc+cc,hh,0,0,none,0,[],0,0,0⟩:aK) (Va.setCell ⟨X,15,none⟩ (i64 hh))):=HU.o.set 15 (i64 hh) _ rfl ⟨rfl,rfl,rfl,rfl,rfl,rfl⟩;replace HU:Hid (UW V T R X W6.heap.size a c l (⟨aR 117 i,(bu:Int),mn,mx,sa,sc,sg,nl,ru,rd,mn+sr,mn+tr,ut,dt,st,hc,hc+cc,hh,rs,0,none,0,[],0,0,0⟩:aK) ((Va.setCell ⟨X,15,none⟩ (i64 hh)).setCell ⟨X,16,none⟩ (i64 rs))):=HU.o.set 16 (i64 rs) _ rfl ⟨rfl,rfl,rfl,rfl,rfl,rfl⟩;replace HU:Hid (UW V T R X W6.heap.size a c l (⟨aR 117 i,(bu:Int),mn,mx,sa,sc,sg,nl,ru,rd,mn+sr,mn+tr,ut,dt,st,hc,hc+cc,hh,rs,rp,none,0,[],0,0,0⟩:aK) (((Va.setCell ⟨X,15,none⟩ (i64 hh)).setCell ⟨X,16,none⟩ (i64 rs)).setCell ⟨X,17,none⟩ (i64 rp))):=HU.o.set 17 (i64 rp) _ rfl ⟨rfl,rfl,rfl,rfl,rfl,rfl⟩;go_upto_region 16 with fail
   clear c15 f15 c16 f16 c17 f17;generalize (((Va.setCell ⟨X,15,none⟩ (i64 hh)).setCell ⟨X,16,none⟩ (i64 rs)).setCell ⟨X,17,none⟩ (i64 rp))=W26 at*;go_wp2_with fail
   refine (Oh.o W26 HU.o.ext HU.o.tape).mono ?_;rintro e XA ⟨aa,ac,aw,rfl,Sb,Sc,Sd,Ot,hT,hx⟩;have KL:=ae (HU.o.next hT hx);have c18:=KL.o.unit.cl 18 (.slice none 0 0) rfl;have f18:=KL.o.unit.frozen 18
   have Ou:Hid (UW V T R X W6.heap.size a c l (⟨aR 117 i,(bu:Int),mn,mx,sa,sc,sg,nl,ru,rd,mn+sr,mn+tr,ut,dt,st,hc,hc+cc,hh,rs,rp,aa,ac,aw,0,0,0⟩:aK) (XA.setCell ⟨X,18,none⟩ (.slice aa aw.length ac))):=by
    have hx2:=((ar.refl X XA).eL (o:=18) (v:= .slice aa aw.length ac));have hf2:Fr W6.heap.size aa:=Ot.mono HU.o.size;have h:=KL.o;exact ⟨h.tape.but hx2 h.pos.2.2.2.1.symm,h.unit.set 18 _,h.res.but hx2 h.pos.2.2.2.2.1.symm,h.ext.setCell (p:=⟨X,18,none⟩) h.pos.2.2.2.2.2.2 _,Nat.le_trans h.size hx2.size,h.aU.but hx2 (h.sf.ne h.pos.2.1),h.sf,Sc.dC hx2 (hf2.ne h.pos.2.1),hf2,h.pos⟩
   have Sg:Hid ((aw.length≤1∧(aw= []→aa=none))∧(∀x∈aw,0≤x∧x<hours)∧Fr V.heap.size aa):=⟨Sb,Sd,Ot.mono HU.o.ext.size⟩;clear HU KL hT hx Sb Sc Sd Ot Oh;go_upto_region 17 with fail
   have HU:=Ou;clear c18 f18 Ou;generalize (XA.setCell ⟨X,18,none⟩ (.slice aa aw.length ac))=W28 at*;have HST:Hid (0<2+st∧2+st≤3):=by have:=IZ.o;show _∧_;omega
   have q1:IntKind.i64.wrap (2+st)=2+st:=by rw [IntKind.wrap_i64];have:=IZ.o;omega
   go_cut [] (fun wx=> ∃(iv:Nat) (hr:Int),(iv:Int)<2+st∧(0≤hr∧hr<4)∧UW V T R X W6.heap.size a c l (⟨aR 117 i,(bu:Int),mn,mx,sa,sc,sg,nl,ru,rd,mn+sr,mn+tr,ut,dt,st,hc,hc+cc,hh,rs,rp,aa,ac,aw,(iI iv),(1+hr),0⟩:aK) wx)
   case first=>
    as_aux_lemma=>
     refine aL (fun w'=>w'.cell? ⟨X,12,none⟩=some (i64 st)) (fun w'=>True) (fun i=>false) (by kernel_rfl) ((HU.o.unit.cell 12).trans rfl) (trivial) (fun ay ah=> ?_);refine aF 1 ay ah ?_;refine aF 2 ay ah ?_;refine aF 3 ay ah ?_ (v:=i64 st);refine aF 4 ay ah ?_ (v:=i64 (2+st));refine aF 8 ay ah ?_;replace HU:=ae (HU.o.drew);generalize W28.drew=Vb at*;refine bE (rs:= [0,5]) (by kernel_rfl) (by simp) ?_;refine aH.cons rfl (fun Kc hK=> ?_) (aH.cons rfl (fun Kc hK=> ?_) aH.nil)
     ·go_simp
      obtain ⟨W30,Bj,xa,-,AA⟩:=aX (Vb) 3 [i64 0,i64 2,i64 1];rw [show(Vb).alloc (.cells #[i64 0,i64 2,i64 1] 3)=W30 from Bj.symm];obtain ⟨B,hB⟩: ∃B,B=(Vb).heap.size:=⟨_,rfl⟩;rw [←hB]at AA⊢;have zu:B≠T:=by have:=HU.o.tape.lt;omega
      have HB:=ae AA;replace HU:=ae (HU.o.next (HU.o.tape.ext xa) (xa.but T));clear Bj xa AA hB;refine hK.o _ _ ((HU.o.unit.cell 12).trans rfl) (trivial) (fun ay ah=> ?_);clear hK Kc;try simp only [sS]
      refine fp 5 rfl (fun Kc hK=> ?_);go_simp;refine (gD.o (W30) (2+st) HU.o.ext HU.o.tape HST.o.1 (by have:=HST.o.2;omega)).mono ?_;rintro e XB ⟨vz,rfl,I0,hT,hx⟩;replace HU:=ae (HU.o.next hT hx);replace HB:=ae (HB.o.but hx zu);obtain ⟨iv,Sh⟩: ∃iv:Nat,vz=(iv:Int):=⟨vz.toNat,by omega⟩;subst Sh;have bi:(iv:Int)<3:=by have:=HST.o.2;omega
      have Qo:Hid ((iv:Int)<2+st):=I0.2;clear I0;clear hT hx;refine hK.o _ _ ((HU.o.unit.cell 12).trans rfl) (trivial) (fun ay ah=> ?_);clear hK Kc;try simp only [sS]
      refine aF 6 ay ah ?_;refine bE (rs:= [7,9]) (by kernel_rfl) (by simp) ?_;refine aH.cons rfl (fun Kc hK=> ?_) (aH.cons rfl (fun Kc hK=> ?_) aH.nil)
      ·have cB:(XB).cell? ⟨B,iv,none⟩=some (i64 (iI iv)):=mG HB.o (by omega)
       go_simp;refine hK.o _ _ ((HU.o.unit.cell 12).trans rfl) (trivial) (fun ay ah=> ?_);clear hK Kc;try simp only [sS]
       clear cB;refine aF 11 ay ah ?_;refine fp 9 rfl (fun Kc hK=> ?_);go_simp;refine (gD.o (XB) 4 HU.o.ext HU.o.tape (by decide) (by decide)).mono ?_;rintro e W32 ⟨hr,rfl,qQ,hT,hx⟩;replace HU:=ae (HU.o.next hT hx);replace HB:=ae (HB.o.but hx zu);have qR:=ae qQ;clear qQ;clear hT hx;refine hK.o _ _ ((HU.o.unit.cell 12).trans rfl) (trivial) (fun ay ah=> ?_);clear hK Kc;try simp only [sS]
       have q2:IntKind.i64.wrap (1+hr)=1+hr:=by rw [IntKind.wrap_i64];have:=qR.o;omega
       refine aF 10 ay ah ?_ (v:=i64 (1+hr));refine fp 12 rfl (fun Kc hK=> ?_);have c19:=HU.o.unit.cl 19 (i64 0) rfl;have f19:=HU.o.unit.frozen 19;go_simp;replace HU:Hid (UW V T R X W6.heap.size a c l (⟨aR 117 i,(bu:Int),mn,mx,sa,sc,sg,nl,ru,rd,mn+sr,mn+tr,ut,dt,st,hc,hc+cc,hh,rs,rp,aa,ac,aw,(iI iv),0,0⟩:aK) (W32.setCell ⟨X,19,none⟩ (i64 (iI iv)))):=HU.o.set 19 (i64 (iI iv)) _ rfl ⟨rfl,rfl,rfl,rfl,rfl,rfl⟩;generalize (W32.setCell ⟨X,19,none⟩ (i64 (iI iv)))=W33 at*;refine hK.o _ _ ((HU.o.unit.cell 12).trans rfl) (trivial) (fun ay ah=> ?_);clear hK Kc;try simp only [sS]
       clear c19 f19;refine aF 13 ay ah ?_;refine fp 14 rfl (fun Kc hK=> ?_);have c20:=HU.o.unit.cl 20 (i64 0) rfl;have f20:=HU.o.unit.frozen 20;go_simp;replace HU:Hid (UW V T R X W6.heap.size a c l (⟨aR 117 i,(bu:Int),mn,mx,sa,sc,sg,nl,ru,rd,mn+sr,mn+tr,ut,dt,st,hc,hc+cc,hh,rs,rp,aa,ac,aw,(iI iv),(1+hr),0⟩:aK) (W33.setCell ⟨X,20,none⟩ (i64 (1+hr)))):=HU.o.set 20 (i64 (1+hr)) _ rfl ⟨rfl,rfl,rfl,rfl,rfl,rfl⟩;generalize (W33.setCell ⟨X,20,none⟩ (i64 (1+hr)))=W34 at*;refine hK.o _ _ ((HU.o.unit.cell 12).trans rfl) (trivial) (fun ay ah=> ?_);clear hK Kc;try simp only [sS]
       clear c20 f20;refine aD (by kernel_rfl) ?_ _;clear ay ah;go_wp2_with fail
       go_meet
       exact ⟨iv,hr,by have:=Qo.o;omega,qR.o,HU.o⟩
      ·go_simp
       refine (gD.o (XB) 4 HU.o.ext HU.o.tape (by decide) (by decide)).mono ?_;rintro e XC ⟨hr,rfl,qQ,hT,hx⟩;replace HU:=ae (HU.o.next hT hx);replace HB:=ae (HB.o.but hx zu);have qR:=ae qQ;clear qQ;clear hT hx;refine hK.o _ _ ((HU.o.unit.cell 12).trans rfl) (trivial) (fun ay ah=> ?_);clear hK Kc;try simp only [sS]
       have q2:IntKind.i64.wrap (1+hr)=1+hr:=by rw [IntKind.wrap_i64];have:=qR.o;omega
       refine aF 10 ay ah ?_ (v:=i64 (1+hr));refine fp 7 rfl (fun Kc hK=> ?_);have cB:(XC).cell? ⟨B,iv,none⟩=some (i64 (iI iv)):=mG HB.o (by omega);go_simp;refine hK.o _ _ ((HU.o.unit.cell 12).trans rfl) (trivial) (fun ay ah=> ?_);clear hK Kc;try simp only [sS]
       clear cB;refine aF 11 ay ah ?_;refine fp 12 rfl (fun Kc hK=> ?_);have c19:=HU.o.unit.cl 19 (i64 0) rfl;have f19:=HU.o.unit.frozen 19;go_simp;replace HU:Hid (UW V T R X W6.heap.size a c l (⟨aR 117 i,(bu:Int),mn,mx,sa,sc,sg,nl,ru,rd,mn+sr,mn+tr,ut,dt,st,hc,hc+cc,hh,rs,rp,aa,ac,aw,(iI iv),0,0⟩:aK) (XC.setCell ⟨X,19,none⟩ (i64 (iI iv)))):=HU.o.set 19 (i64 (iI iv)) _ rfl ⟨rfl,rfl,rfl,rfl,rfl,rfl⟩;generalize (XC.setCell ⟨X,19,none⟩ (i64 (iI iv)))=W36 at*;refine hK.o _ _ ((HU.o.unit.cell 12).trans rfl) (trivial) (fun ay ah=> ?_);clear hK Kc;try simp only [sS]
       clear c19 f19;refine aF 13 ay ah ?_;refine fp 14 rfl (fun Kc hK=> ?_);have c20:=HU.o.unit.cl 20 (i64 0) rfl;have f20:=HU.o.unit.frozen 20;go_simp;replace HU:Hid (UW V T R X W6.heap.size a c l (⟨aR 117 i,(bu:Int),mn,mx,sa,sc,sg,nl,ru,rd,mn+sr,mn+tr,ut,dt,st,hc,hc+cc,hh,rs,rp,aa,ac,aw,(iI iv),(1+hr),0⟩:aK) (W36.setCell ⟨X,20,none⟩ (i64 (1+hr)))):=HU.o.set 20 (i64 (1+hr)) _ rfl ⟨rfl,rfl,rfl,rfl,rfl,rfl⟩;generalize (W36.setCell ⟨X,20,none⟩ (i64 (1+hr)))=W37 at*;refine hK.o _ _ ((HU.o.unit.cell 12).trans rfl) (trivial) (fun ay ah=> ?_);clear hK Kc;try simp only [sS]
       clear c20 f20;refine aD (by kernel_rfl) ?_ _;clear ay ah;go_wp2_with fail
       go_meet
       exact ⟨iv,hr,by have:=Qo.o;omega,qR.o,HU.o⟩
     ·go_simp
      refine (gD.o (Vb) (2+st) HU.o.ext HU.o.tape HST.o.1 (by have:=HST.o.2;omega)).mono ?_;rintro e Vc ⟨vz,rfl,I0,hT,hx⟩;replace HU:=ae (HU.o.next hT hx);obtain ⟨iv,Sh⟩: ∃iv:Nat,vz=(iv:Int):=⟨vz.toNat,by omega⟩;subst Sh;have bi:(iv:Int)<3:=by have:=HST.o.2;omega
      have Qo:Hid ((iv:Int)<2+st):=I0.2;clear I0;clear hT hx;refine hK.o _ _ ((HU.o.unit.cell 12).trans rfl) (trivial) (fun ay ah=> ?_);clear hK Kc;try simp only [sS]
      refine bE (rs:= [0,9]) (by kernel_rfl) (by simp) ?_;refine aH.cons rfl (fun Kc hK=> ?_) (aH.cons rfl (fun Kc hK=> ?_) aH.nil)
      ·go_simp
       obtain ⟨Vd,Bj,xa,-,AA⟩:=aX (Vc) 3 [i64 0,i64 2,i64 1];rw [show(Vc).alloc (.cells #[i64 0,i64 2,i64 1] 3)=Vd from Bj.symm];obtain ⟨B,hB⟩: ∃B,B=(Vc).heap.size:=⟨_,rfl⟩;rw [←hB]at AA⊢;have zu:B≠T:=by have:=HU.o.tape.lt;omega
       have HB:=ae AA;replace HU:=ae (HU.o.next (HU.o.tape.ext xa) (xa.but T));clear Bj xa AA hB;refine hK.o _ _ ((HU.o.unit.cell 12).trans rfl) (trivial) (fun ay ah=> ?_);clear hK Kc;try simp only [sS]
       refine aF 6 ay ah ?_;refine bE (rs:= [7,9]) (by kernel_rfl) (by simp) ?_;refine aH.cons rfl (fun Kc hK=> ?_) (aH.cons rfl (fun Kc hK=> ?_) aH.nil)
       ·have cB:(Vd).cell? ⟨B,iv,none⟩=some (i64 (iI iv)):=mG HB.o (by omega)
        go_simp;refine hK.o _ _ ((HU.o.unit.cell 12).trans rfl) (trivial) (fun ay ah=> ?_);clear hK Kc;try simp only [sS]
        clear cB;refine aF 11 ay ah ?_;refine fp 9 rfl (fun Kc hK=> ?_);go_simp;refine (gD.o (Vd) 4 HU.o.ext HU.o.tape (by decide) (by decide)).mono ?_;rintro e W40 ⟨hr,rfl,qQ,hT,hx⟩;replace HU:=ae (HU.o.next hT hx);replace HB:=ae (HB.o.but hx zu);have qR:=ae qQ;clear qQ;clear hT hx;refine hK.o _ _ ((HU.o.unit.cell 12).trans rfl) (trivial) (fun ay ah=> ?_);clear hK Kc;try simp only [sS]
        have q2:IntKind.i64.wrap (1+hr)=1+hr:=by rw [IntKind.wrap_i64];have:=qR.o;omega
        refine aF 10 ay ah ?_ (v:=i64 (1+hr));refine fp 12 rfl (fun Kc hK=> ?_);have c19:=HU.o.unit.cl 19 (i64 0) rfl;have f19:=HU.o.unit.frozen 19;go_simp;replace HU:Hid (UW V T R X W6.heap.size a c l (⟨aR 117 i,(bu:Int),mn,mx,sa,sc,sg,nl,ru,rd,mn+sr,mn+tr,ut,dt,st,hc,hc+cc,hh,rs,rp,aa,ac,aw,(iI iv),0,0⟩:aK) (W40.setCell ⟨X,19,none⟩ (i64 (iI iv)))):=HU.o.set 19 (i64 (iI iv)) _ rfl ⟨rfl,rfl,rfl,rfl,rfl,rfl⟩;generalize (W40.setCell ⟨X,19,none⟩ (i64 (iI iv)))=W41 at*;refine hK.o _ _ ((HU.o.unit.cell 12).trans rfl) (trivial) (fun ay ah=> ?_);clear hK Kc;try simp only [sS]
        clear c19 f19;refine aF 13 ay ah ?_;refine fp 14 rfl (fun Kc hK=> ?_);have c20:=HU.o.unit.cl 20 (i64 0) rfl;have f20:=HU.o.unit.frozen 20;go_simp;replace HU:Hid (UW V T R X W6.heap.size a c l (⟨aR 117 i,(bu:Int),mn,mx,sa,sc,sg,nl,ru,rd,mn+sr,mn+tr,ut,dt,st,hc,hc+cc,hh,rs,rp,aa,ac,aw,(iI iv),(1+hr),0⟩:aK) (W41.setCell ⟨X,20,none⟩ (i64 (1+hr)))):=HU.o.set 20 (i64 (1+hr)) _ rfl ⟨rfl,rfl,rfl,rfl,rfl,rfl⟩;generalize (W41.setCell ⟨X,20,none⟩ (i64 (1+hr)))=W42 at*;refine hK.o _ _ ((HU.o.unit.cell 12).trans rfl) (trivial) (fun ay ah=> ?_);clear hK Kc;try simp only [sS]
        clear c20 f20;refine aD (by kernel_rfl) ?_ _;clear ay ah;go_wp2_with fail
        go_meet
        exact ⟨iv,hr,by have:=Qo.o;omega,qR.o,HU.o⟩
       ·go_simp
        refine (gD.o (Vd) 4 HU.o.ext HU.o.tape (by decide) (by decide)).mono ?_;rintro e XD ⟨hr,rfl,qQ,hT,hx⟩;replace HU:=ae (HU.o.next hT hx);replace HB:=ae (HB.o.but hx zu);have qR:=ae qQ;clear qQ;clear hT hx;refine hK.o _ _ ((HU.o.unit.cell 12).trans rfl) (trivial) (fun ay ah=> ?_);clear hK Kc;try simp only [sS]
        have q2:IntKind.i64.wrap (1+hr)=1+hr:=by rw [IntKind.wrap_i64];have:=qR.o;omega
        refine aF 10 ay ah ?_ (v:=i64 (1+hr));refine fp 7 rfl (fun Kc hK=> ?_);have cB:(XD).cell? ⟨B,iv,none⟩=some (i64 (iI iv)):=mG HB.o (by omega);go_simp;refine hK.o _ _ ((HU.o.unit.cell 12).trans rfl) (trivial) (fun ay ah=> ?_);clear hK Kc;try simp only [sS]
        clear cB;refine aF 11 ay ah ?_;refine fp 12 rfl (fun Kc hK=> ?_);have c19:=HU.o.unit.cl 19 (i64 0) rfl;have f19:=HU.o.unit.frozen 19;go_simp;replace HU:Hid (UW V T R X W6.heap.size a c l (⟨aR 117 i,(bu:Int),mn,mx,sa,sc,sg,nl,ru,rd,mn+sr,mn+tr,ut,dt,st,hc,hc+cc,hh,rs,rp,aa,ac,aw,(iI iv),0,0⟩:aK) (XD.setCell ⟨X,19,none⟩ (i64 (iI iv)))):=HU.o.set 19 (i64 (iI iv)) _ rfl ⟨rfl,rfl,rfl,rfl,rfl,rfl⟩;generalize (XD.setCell ⟨X,19,none⟩ (i64 (iI iv)))=W44 at*;refine hK.o _ _ ((HU.o.unit.cell 12).trans rfl) (trivial) (fun ay ah=> ?_);clear hK Kc;try simp only [sS]
        clear c19 f19;refine aF 13 ay ah ?_;refine fp 14 rfl (fun Kc hK=> ?_);have c20:=HU.o.unit.cl 20 (i64 0) rfl;have f20:=HU.o.unit.frozen 20;go_simp;replace HU:Hid (UW V T R X W6.heap.size a c l (⟨aR 117 i,(bu:Int),mn,mx,sa,sc,sg,nl,ru,rd,mn+sr,mn+tr,ut,dt,st,hc,hc+cc,hh,rs,rp,aa,ac,aw,(iI iv),(1+hr),0⟩:aK) (W44.setCell ⟨X,20,none⟩ (i64 (1+hr)))):=HU.o.set 20 (i64 (1+hr)) _ rfl ⟨rfl,rfl,rfl,rfl,rfl,rfl⟩;generalize (W44.setCell ⟨X,20,none⟩ (i64 (1+hr)))=W45 at*;refine hK.o _ _ ((HU.o.unit.cell 12).trans rfl) (trivial) (fun ay ah=> ?_);clear hK Kc;try simp only [sS]
        clear c20 f20;refine aD (by kernel_rfl) ?_ _;clear ay ah;go_wp2_with fail
        go_meet
        exact ⟨iv,hr,by have:=Qo.o;omega,qR.o,HU.o⟩
      ·go_simp
       refine (gD.o (Vc) 4 HU.o.ext HU.o.tape (by decide) (by decide)).mono ?_;rintro e XE ⟨hr,rfl,qQ,hT,hx⟩;replace HU:=ae (HU.o.next hT hx);have qR:=ae qQ;clear qQ;clear hT hx;refine hK.o _ _ ((HU.o.unit.cell 12).trans rfl) (trivial) (fun ay ah=> ?_);clear hK Kc;try simp only [sS]
       have q2:IntKind.i64.wrap (1+hr)=1+hr:=by rw [IntKind.wrap_i64];have:=qR.o;omega
       refine aF 10 ay ah ?_ (v:=i64 (1+hr));refine fp 0 rfl (fun Kc hK=> ?_);go_simp;obtain ⟨Ve,Bj,xa,-,AA⟩:=aX (XE) 3 [i64 0,i64 2,i64 1];rw [show(XE).alloc (.cells #[i64 0,i64 2,i64 1] 3)=Ve from Bj.symm];obtain ⟨B,hB⟩: ∃B,B=(XE).heap.size:=⟨_,rfl⟩;rw [←hB]at AA⊢;have zu:B≠T:=by have:=HU.o.tape.lt;omega
       have HB:=ae AA;replace HU:=ae (HU.o.next (HU.o.tape.ext xa) (xa.but T));clear Bj xa AA hB;refine hK.o _ _ ((HU.o.unit.cell 12).trans rfl) (trivial) (fun ay ah=> ?_);clear hK Kc;try simp only [sS]
       refine aF 6 ay ah ?_;refine fp 7 rfl (fun Kc hK=> ?_);have cB:(Ve).cell? ⟨B,iv,none⟩=some (i64 (iI iv)):=mG HB.o (by omega);go_simp;refine hK.o _ _ ((HU.o.unit.cell 12).trans rfl) (trivial) (fun ay ah=> ?_);clear hK Kc;try simp only [sS]
       clear cB;refine aF 11 ay ah ?_;refine fp 12 rfl (fun Kc hK=> ?_);have c19:=HU.o.unit.cl 19 (i64 0) rfl;have f19:=HU.o.unit.frozen 19;go_simp;replace HU:Hid (UW V T R X W6.heap.size a c l (⟨aR 117 i,(bu:Int),mn,mx,sa,sc,sg,nl,ru,rd,mn+sr,mn+tr,ut,dt,st,hc,hc+cc,hh,rs,rp,aa,ac,aw,(iI iv),0,0⟩:aK) (Ve.setCell ⟨X,19,none⟩ (i64 (iI iv)))):=HU.o.set 19 (i64 (iI iv)) _ rfl ⟨rfl,rfl,rfl,rfl,rfl,rfl⟩;generalize (Ve.setCell ⟨X,19,none⟩ (i64 (iI iv)))=W48 at*;refine hK.o _ _ ((HU.o.unit.cell 12).trans rfl) (trivial) (fun ay ah=> ?_);clear hK Kc;try simp only [sS]
       clear c19 f19;refine aF 13 ay ah ?_;refine fp 14 rfl (fun Kc hK=> ?_);have c20:=HU.o.unit.cl 20 (i64 0) rfl;have f20:=HU.o.unit.frozen 20;go_simp;replace HU:Hid (UW V T R X W6.heap.size a c l (⟨aR 117 i,(bu:Int),mn,mx,sa,sc,sg,nl,ru,rd,mn+sr,mn+tr,ut,dt,st,hc,hc+cc,hh,rs,rp,aa,ac,aw,(iI iv),(1+hr),0⟩:aK) (W48.setCell ⟨X,20,none⟩ (i64 (1+hr)))):=HU.o.set 20 (i64 (1+hr)) _ rfl ⟨rfl,rfl,rfl,rfl,rfl,rfl⟩;generalize (W48.setCell ⟨X,20,none⟩ (i64 (1+hr)))=W49 at*;refine hK.o _ _ ((HU.o.unit.cell 12).trans rfl) (trivial) (fun ay ah=> ?_);clear hK Kc;try simp only [sS]
       clear c20 f20;refine aD (by kernel_rfl) ?_ _;clear ay ah;go_wp2_with fail
       go_meet
       exact ⟨iv,hr,by have:=Qo.o;omega,qR.o,HU.o⟩
   case rest=>
    obtain ⟨iv,hr,Sh,hhr,hU⟩:=hcut;generalize wc=WR at*;clear HU;have HH:=ae hhr;have h3:iv=0∨iv=1∨iv=2:=by have:=HST.o.2;omega
    clear hhr q1;obtain ⟨sv,Si⟩: ∃sv,sv=iI iv:=⟨_,rfl⟩;rw [←Si]at hU
    have HSV:Hid (sv=0∨sv=2∨(sv=1∧st=1)):=by
     have h5:=IZ.o;show _∨_;rcases h3 with rfl|rfl|rfl
     ·exact Or.inl Si
     ·exact Or.inr (Or.inl Si)
     ·exact Or.inr (Or.inr ⟨Si,by omega⟩)
    have HU:=ae hU;have c19:=HU.o.unit.cl 19 (i64 sv) rfl;clear hU Si h3 Sh;go_upto_if 133 with fail
    clear c19;go_cut [] (fun wx=> ∃hz:Int,(1≤hz∧hz≤4∧(sv=1→hz=1))∧UW V T R X W6.heap.size a c l (⟨aR 117 i,(bu:Int),mn,mx,sa,sc,sg,nl,ru,rd,mn+sr,mn+tr,ut,dt,st,hc,hc+cc,hh,rs,rp,aa,ac,aw,sv,hz,0⟩:aK) wx)
    case first=>
     as_aux_lemma=>
      rcases Bool.eq_false_or_eq_true (sv==1)with h1|h1
      ·have c20:=HU.o.unit.cl 20 (i64 (1+hr)) rfl
       have f20:=HU.o.unit.frozen 20;have KL:Hid (UW V T R X W6.heap.size a c l (⟨aR 117 i,(bu:Int),mn,mx,sa,sc,sg,nl,ru,rd,mn+sr,mn+tr,ut,dt,st,hc,hc+cc,hh,rs,rp,aa,ac,aw,sv,1,0⟩:aK) (WR.setCell ⟨X,20,none⟩ (i64 1))):=HU.o.set 20 (i64 1) _ rfl ⟨rfl,rfl,rfl,rfl,rfl,rfl⟩;go_wp2_with fail
       go_meet
       exact ⟨1,⟨by decide,by decide,fun _=>rfl⟩,KL.o⟩
      ·go_wp2_with fail
       go_meet
       exact ⟨1+hr,⟨by have:=HH.o;omega,by have:=HH.o;omega,fun h=>(by rw [h]at h1;cases h1)⟩,HU.o⟩
    case rest=>
     obtain ⟨hz,hhz,hU⟩:=hcut;generalize wc=WS at*;clear HU HH;have HH:=ae hhz;have HU:=ae hU;have c19:=HU.o.unit.cl 19 (i64 sv) rfl;clear hU hhz;go_upto_if 137 with fail
     clear c19;go_cut [] (fun wx=> ∃oo:Int,((sv=2→mn≤oo∧oo≤mx)∧(sv≠2→oo=0))∧UW V T R X W6.heap.size a c l (⟨aR 117 i,(bu:Int),mn,mx,sa,sc,sg,nl,ru,rd,mn+sr,mn+tr,ut,dt,st,hc,hc+cc,hh,rs,rp,aa,ac,aw,sv,hz,oo⟩:aK) wx)
     case first=>
      as_aux_lemma=>
       rcases Bool.eq_false_or_eq_true (sv==2)with h1|h1
       ·go_upto_region 21 with fail
        have q1:IntKind.i64.wrap (mx-mn)=mx-mn:=by rw [IntKind.wrap_i64];have:=IY.o;omega
        have q2:IntKind.i64.wrap (mx-mn+1)=mx-mn+1:=by rw [IntKind.wrap_i64];have:=IY.o;omega
        refine aL (fun w'=>w'.cell? ⟨X,2,none⟩=some (i64 mn)∧w'.cell? ⟨X,3,none⟩=some (i64 mx)) (fun w'=>True) (fun i=>false) (by kernel_rfl) (⟨(HU.o.unit.cell 2).trans rfl,(HU.o.unit.cell 3).trans rfl⟩) (trivial) (fun ay ah=> ?_);refine aF 0 ay ah ?_;refine aF 1 ay ah ?_ (v:=i64 mn);refine aF 2 ay ah ?_;refine aF 3 ay ah ?_;refine aF 4 ay ah ?_ (v:=i64 mx);refine aF 5 ay ah ?_;refine aF 6 ay ah ?_ (v:=i64 mn);refine aF 7 ay ah ?_ (v:=i64 (mx-mn));refine aF 8 ay ah ?_ (v:=i64 (mx-mn+1));replace HU:=ae (HU.o.drew);refine fp 9 rfl (fun Kc hK=> ?_);go_simp;refine (gD.o WS.drew (mx-mn+1) HU.o.ext HU.o.tape Qn.o.1 (by have:=Qn.o.2;omega)).mono ?_;rintro e W50 ⟨ou,rfl,Sj,hT,hx⟩;replace HU:=ae (HU.o.next hT hx);clear hT hx;have Sk:=ae Sj;clear Sj;refine hK.o _ _ (⟨(HU.o.unit.cell 2).trans rfl,(HU.o.unit.cell 3).trans rfl⟩) (trivial) (fun ay ah=> ?_);clear hK Kc;try simp only [sS]
        have q3:IntKind.i64.wrap (mn+ou)=mn+ou:=by rw [IntKind.wrap_i64];have:=IY.o;have:=Sk.o;omega
        refine aF 10 ay ah ?_ (v:=i64 (mn+ou));refine aF 11 ay ah ?_;have c21:=HU.o.unit.cl 21 (i64 0) rfl;have f21:=HU.o.unit.frozen 21;refine fp 12 rfl (fun Kc hK=> ?_);go_simp;replace HU:Hid (UW V T R X W6.heap.size a c l (⟨aR 117 i,(bu:Int),mn,mx,sa,sc,sg,nl,ru,rd,mn+sr,mn+tr,ut,dt,st,hc,hc+cc,hh,rs,rp,aa,ac,aw,sv,hz,(mn+ou)⟩:aK) (W50.setCell ⟨X,21,none⟩ (i64 (mn+ou)))):=HU.o.set 21 (i64 (mn+ou)) _ rfl ⟨rfl,rfl,rfl,rfl,rfl,rfl⟩;generalize (W50.setCell ⟨X,21,none⟩ (i64 (mn+ou)))=W51 at*;refine hK.o _ _ (⟨(HU.o.unit.cell 2).trans rfl,(HU.o.unit.cell 3).trans rfl⟩) (trivial) (fun ay ah=> ?_);clear hK Kc;try simp only [sS]
        clear c21 f21;refine aD (by kernel_rfl) ?_ _;clear ay ah q1 q2 q3;go_wp2_with fail
        go_meet
        exact ⟨mn+ou,⟨fun _=>(by have:=Sk.o;omega),fun h=>absurd (by simpa using h1) h⟩,HU.o⟩
       ·go_wp2_with fail
        go_meet
        exact ⟨0,⟨fun h=>(by rw [h]at h1;cases h1),fun _=>rfl⟩,HU.o⟩
     case rest=>
      obtain ⟨oo,hoo,hU⟩:=hcut;generalize wc=WT at*;clear HU;have XF:=ae hoo;have HU:=ae hU;clear hU hoo;go_upto_region 22 with fail
      as_aux_lemma=>
       obtain ⟨xf,Ov⟩: ∃xf,xf=(⟨aR 117 i,(bu:Int),mn,mx,sa,sc,sg,nl,ru,rd,mn+sr,mn+tr,ut,dt,st,hc,hc+cc,hh,rs,rp,aa,ac,aw,sv,hz,oo⟩:aK):=⟨_,rfl⟩
       have HF:Hid (sJ xf i bu hours∧xf.aa=aa∧xf.aU=sg):=by
        have XG: ∀g∈sg,1≤g.width∧g.width≤15∧ -2≤g.aV∧g.aV≤40:=fun g hg=>by
             have h1:=kg.o.H5 g hg;have h2:=kg.o.aV;have h3:=Gp.o;have h4:=RO.o;omega
        have h1:=Gp.o;have h2:=RO.o;have h3:=IY.o;have h4:=Xs.o;have h5:=RN.o;have h6:=RX.o;have h7:=RZ.o;have h8:=HH.o;have h9:=IZ.o
        rw [Ov];exact ⟨{name:=rfl,cS:=rfl,min:=by simp only;omega,Ln:=by simp only;omega,H5:=XG,M6:=kg.o.M6,max:=h4,fu:=Xj.o,fw:=Xt.o,dv:=Xu.o,cL:=by simp only;omega,dx:=by simp only;omega,fz:=Xv.o,dy:=Xw.o,startTime:=IZ.o,dS:=Oq.o,dz:=by have:=Oq.o;have:=R8.o;simp only;omega,dA:=Xx.o,aA:=Xy.o,bK:=Xz.o,Ll:=Sg.o.1,away:=Sg.o.2.1,state:=HSV.o,hours:=HH.o,output:=XF.o},rfl,rfl⟩
       rw [←Ov]at HU;clear Ov;have mH: ∀j v,xf.cells[j]?=some v→WT.cell? ((⟨X,0,none⟩:Addr).add j)=some v:=fun j v hj=>by rw [cF,HU.o.unit.cell j];exact hj
       go_wp2_with (first|(refine aT rfl 67 _ rfl ⟨X,0,none⟩ rfl xf.cells _ mH rfl rfl rfl ?_)|(refine bp rfl 67 _ _ rfl R oz.cells xf.cells HU.o.res rfl rfl (by kernel_rfl) rfl rfl ?_;intro qO kZ dI))
       have hRV:=ET.o;have xe:=ae (HU.o.ext.over dI hRV);have Dr:=ae (HU.o.tape.but dI (fun e=>qN e.symm))
       have Ds:Hid (aI qO xf.aa xf.ac xf.away):=HU.o.away.dC dI (HU.o.af.ne HU.o.pos.2.2.1);have Ow:Hid (bH qO 2 xf.sa xf.sc (xf.aU.map dH.cells)):=HU.o.aU.but dI (HU.o.sf.ne HU.o.pos.2.2.1);have Gr:Hid (Fr V.heap.size xf.aa∧Fr V.heap.size xf.sa):=⟨HU.o.af.mono RS.o,HU.o.sf.mono RS.o⟩;exact bodyPost_ret (v:= .agg xf.cells.toArray) (fL 8 _ rfl rfl kZ rfl rfl rfl) rfl ⟨xf,bu,rfl,HBU.o,HF.o.1,Ds.o,Gr.o.1,Ow.o,Gr.o.2,Dr.o,xe.o⟩
end Go.Proofs.YtkpngkdgphojlaaGreat
