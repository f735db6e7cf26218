/- Texts of the proof. -/
import Derived.Test.YtkpngkdgphojlaaGreatCc19
set_option linter.all false
namespace Go.Proofs.YtkpngkdgphojlaaGreat
open Go.RowKit
structure qz (x:aF) (i bu:Nat) (hours:Int):Prop where
 name:x.name=aL 117 i
 cX:x.cX=(bu:Int)
 min:0≤x.min∧x.min≤7
 JQ:1≤x.aI.length∧x.aI.length≤2
 EP: ∀g∈x.aI,1≤g.width∧g.width≤15∧ -2≤g.aX∧g.aX≤40
 wU:mD x.aI x.aI.length=true
 max:x.max=x.min+bS x.aI
 cg:0≤x.cg∧x.cg<20
 cj:0≤x.cj∧x.cj<20
 a_:0≤x.a_∧x.a_<20
 aW:x.min≤x.aW∧x.aW≤x.max
 bf:x.min≤x.bf∧x.bf≤x.max
 bQ:0≤x.bQ∧x.bQ<3
 bg:0≤x.bg∧x.bg<3
 startTime:0≤x.startTime∧x.startTime<2
 bA:0≤x.bA∧x.bA<30
 bh:x.bA≤x.bh∧x.bh<60
 bj:0≤x.bj∧x.bj<4
 az:0≤x.az∧x.az<8
 aJ:0≤x.aJ∧x.aJ<4
 MV:x.away.length≤1∧(x.away= []→x.aa=none)
 away: ∀z∈x.away,0≤z∧z<hours
 state:x.state=0∨x.state=2∨(x.state=1∧x.startTime=1)
 hours:1≤x.hours∧x.hours≤4∧(x.state=1→x.hours=1)
 output:(x.state=2→x.min≤x.output∧x.output≤x.max)∧(x.state≠2→x.output=0)
def jb:aF:=⟨{data:= #[]},0,0,0,none,0,[],0,0,0,0,0,0,0,0,0,0,0,0,0,none,0,[],0,0,0⟩
theorem fc {w:World} {base:Nat} {e:TypeId} {s:Nat} {v:Value} {n:Nat} {xs:List Value} (h:w.ownsRow base e s v n xs): ∃a cap,v= .slice a n cap:=by
 rcases h.2 with⟨rfl,rfl⟩|⟨g,cap,cur,rfl,_,_,_,hc,_⟩
 ·exact ⟨none,0,rfl⟩
 ·exact ⟨_,_,rfl⟩
def gB:Nat→Int
 |0=>0
 |1=>2
 |_=>1
theorem kQ {w:World} {B iv:Nat} (h:aG w B 3 [i64 0,i64 2,i64 1]) (hi:iv<3):w.cell? ⟨B,iv,none⟩=some (i64 (gB iv)):=by
 rw [h.cell iv];match iv,hi with
 |0,_=>rfl
 |1,_=>rfl
 |2,_=>rfl
theorem dP (R j:Nat):(⟨R,0,none⟩:Addr).add j=⟨R,j,none⟩:=by
 by_cases h:j=0
 ·subst h;simp [Addr.add]
 ·simp [Addr.add,h]
theorem fo {P:Program} {fn:Func} {tmps:Array Value} {w:World} {R:Nat} {ty:TypeId} {cs:List Value} (k:Nat) (d:TypeDesc) (hres:fn.results= #[.cell k ty]) (ht:tmps.getD k undef= .pointer (some ⟨R,0,none⟩)) (hA:aG w R ty cs)
 (hu:P.underlying ty=some d) (hd:(match d with| .struct _| .array _ _=>true|_=>false)=true) (hi:(P.info? ty).map (·.size)=some cs.length):(results fn tmps).run P w= .ok (.agg cs.toArray) w:=by
 have h:=eL (P:=P) w ⟨R,0,none⟩ ty cs d (fun j v hj=>by rw [dP,hA.cell j];exact hj) hu hd hi;simp only [results,hres];simp only [Array.getD_eq_getD_getElem?]at ht;simp [ht,asAddr,h]
def iy (l:List cL):List (List Value):=l.map cL.cells
theorem xi (l:List cL) (g:cL):iy (l++ [g])=iy l++ [[i64 g.width,i64 g.aX]]:=by simp [iy,cL.cells]
theorem jQ (l:List cL):(iy l).length=l.length:=by simp [iy]
theorem Tryz.info_seg:(Tryz.prog.info? 138).map (fun i=>(i.zero,i.size,i.bytes))=some (some (.agg #[i64 0,i64 0]),2,16):=by kernel_rfl
structure vT (l:List cL) (aX:Int):Prop where
 EP: ∀g∈l,1≤g.width∧g.width≤15∧ -2≤g.aX∧g.aX≤40∧g.aX≤aX
 wU:mD l l.length=true
 aX: -2≤aX∧aX≤20+10*l.length
theorem zm (l:List cL) (g:cL):bS (l++ [g])=bS l+g.width:=by unfold bS;rw [List.map_append,List.sum_append];simp
theorem vT.snoc {l:List cL} {aX w d:Int} (h:vT l aX) (hw:1≤w∧w≤15) (hl:l.length≤1) (hd:0≤d∧d<10):vT (l++ [⟨w,aX⟩]) (aX+d):=by
 have hp:=h.aX;refine ⟨?_,?_,?_⟩
 ·intro g hg
  rcases List.mem_append.1 hg with e|e
  ·have:=h.EP g e;omega
  ·rw [List.mem_singleton]at e;subst e;simp only;omega
 ·unfold mD
  rw [List.all_eq_true];intro j hj;have Au:=List.mem_range.1 hj;rw [List.length_append]at Au;simp only [List.length_cons,List.length_nil]at Au;by_cases q0:j=0
  ·subst q0;rfl
  ·have Qv:j=1∧l.length=1:=by omega
   obtain ⟨rfl,KV⟩:=Qv
   obtain ⟨g,rfl⟩: ∃g,l= [g]:=by
    match l,KV with
    | [g],_=>exact ⟨g,rfl⟩
   have:=h.EP g (by simp);simp [wJ];omega
 ·rw [List.length_append];simp only [List.length_cons,List.length_nil];omega
theorem pC {l:List cL} {aX:Int} (h:vT l aX):0≤bS l∧bS l≤15*l.length:=by
 have: ∀m:List cL,(∀g∈m,1≤g.width∧g.width≤15)→0≤bS m∧bS m≤15*m.length:=by
  intro m;induction m with
  |nil=>intro _;simp [bS]
  |cons g m ih=>
   intro hm;have h1:=ih (fun x hx=>hm x (List.mem_cons_of_mem _ hx));have h2:=hm g (by simp);unfold bS at*;rw [List.map_cons,List.sum_cons,List.length_cons];omega
 exact this l (fun g hg=>⟨(h.EP g hg).1,(h.EP g hg).2.1⟩)
structure UW (V:World) (T R X D:Nat) (a:Option Addr) (c:Nat) (l:List Int) (x:aF) (W:World):Prop where
 tape:bn W T a c l
 unit:aG W X 67 x.cells
 res:aG W R 67 jb.cells
 ext:ak T V W
 size:D≤W.heap.size
 aI:bP W 2 x.sa x.sc (x.aI.map cL.cells)
 sf:Fr D x.sa
 away:aA W x.aa x.ac x.away
 af:Fr D x.aa
 pos:T<D∧X<D∧R<D∧X≠T∧X≠R∧R≠T∧V.heap.size≤X
theorem UW.next {V W W':World} {T R X D:Nat} {a:Option Addr} {c:Nat} {l:List Int} {x:aF} (h:UW V T R X D a c l x W) (hT:bn W' T a c l) (hx:ak T W W'):UW V T R X D a c l x W':=
 ⟨hT,h.unit.but hx h.pos.2.2.2.1,h.res.but hx h.pos.2.2.2.2.2.1,h.ext.trans hx,Nat.le_trans h.size hx.size,h.aI.but hx (h.sf.ne h.pos.1),h.sf,h.away.fS hx (h.af.ne h.pos.1),h.af,h.pos⟩
theorem UW.drew {V W:World} {T R X D:Nat} {a:Option Addr} {c:Nat} {l:List Int} {x:aF} (h:UW V T R X D a c l x W):UW V T R X D a c l x W.drew:=
 h.next (h.tape.ext (Ext.refl W).drew) ((Ext.refl W).drew.but T)
theorem UW.set {V W:World} {T R X D:Nat} {a:Option Addr} {c:Nat} {l:List Int} {x:aF} (h:UW V T R X D a c l x W) (j:Nat) (v:Value) (x':aF) (hc:x'.cells=x.cells.set j v) (hs:x'.sa=x.sa∧x'.sc=x.sc∧x'.aI=x.aI∧x'.aa=x.aa∧x'.ac=x.ac∧x'.away=x.away):UW V T R X D a c l x' (W.setCell ⟨X,j,none⟩ v):=by
 obtain ⟨h1,h2,h3,h4,h5,h6⟩:=hs;have hx:=((ak.refl X W).et (o:=j) (v:=v));refine ⟨h.tape.but hx h.pos.2.2.2.1.symm,by rw [hc];exact h.unit.set j v,h.res.but hx h.pos.2.2.2.2.1.symm,h.ext.setCell (p:=⟨X,j,none⟩) h.pos.2.2.2.2.2.2 _,Nat.le_trans h.size hx.size,?_,by rw [h1];exact h.sf,?_,by rw [h4];exact h.af,h.pos⟩
 ·rw [h1,h2,h3];exact h.aI.but hx (h.sf.ne h.pos.2.1)
 ·rw [h4,h5,h6];exact h.away.fS hx (h.af.ne h.pos.2.1)
set_option maxHeartbeats 4000000 in
set_option maxRecDepth 100000 in
theorem JR (w0 V:World) (T:Nat) (a:Option Addr) (c:Nat) (l:List Int) (i nb:Nat) (hours:Int) (hK:w0.heap.size≤T) (hV:Ext w0 V) (hl:aA w0 a c l) (hT:bn V T a c l) (hi:i<16) (Oz:0<nb) (Qw:nb<1000) (hh:0<hours) (SY:hours<1000):
 Calls Tryz.prog 35 #[.pointer (some ⟨T,0,none⟩),.int .i64 (i:Int),.int .i64 (nb:Int),i64 hours] V fun e w'=> ∃(x:aF) (bu:Nat),e= .returned (.agg x.cells.toArray)∧bu<nb∧qz x i bu hours∧aA w' x.aa x.ac x.away∧Fr V.heap.size x.aa∧bP w' 2 x.sa x.sc (x.aI.map cL.cells)∧Fr V.heap.size x.sa∧ke V T a c l w':=by
 have eQ:=ae (eu.of w0 V T a c l hK hV hl);have JD:=ae (fun U (hx:ak T V U) (hU:bn U T a c l)=>CJ w0 U T a c l hours hK (hx.ext hV hK) hl hU hh (by omega));have Az:=ae (fun U=>sG U 117 i hi);have HT:=ae hT;have JL:=ae hT.lt;have iB:=ae (And.intro Oz Qw);clear hK hV hl hT hi hh SY Oz Qw;go_enter Tryz.func35,Tryz.ntmps35
 go_upto_region 1 with fail
 obtain ⟨W0,hW,x0,Z0,A0⟩:=aB V 67 jb.cells;rw [show V.alloc (.cells #[.string {data:= #[]},i64 0,i64 0,i64 0,.slice none 0 0,i64 0,i64 0,i64 0,i64 0,i64 0,i64 0,i64 0,i64 0,i64 0,i64 0,i64 0,i64 0,i64 0,.slice none 0 0,i64 0,i64 0,i64 0] 67)=W0 from hW.symm];obtain ⟨R,hR⟩: ∃R,R=V.heap.size:=⟨_,rfl⟩;rw [←hR]at A0⊢;have pA:R≠T:=by have:=JL.out;omega
 have xP:Hid (V.heap.size≤R):=by show _≤_;omega
 have HR:=ae A0;have HX:=ae (x0.but T);have HT:=ae (HT.out.ext x0)
 clear hW Z0 A0 hR x0;go_wp2_with fail
 refine (Az.out W0).mono ?_;rintro e w1 ⟨rfl,eE⟩;rw [eE];clear eE
 go_wp2_with fail
 refine (eQ.out W0 (nb:Int) HX.out HT.out (by have:=iB.out.1;omega) (by have:=iB.out.2;omega)).mono ?_;rintro e W1 ⟨bz,rfl,Ve,hT,hx⟩;have HX:=ae (HX.out.trans hx);have HT:=ae hT;have HR:=ae (HR.out.but hx pA)
 clear hT hx;obtain ⟨bu,Qx⟩: ∃bu:Nat,bz=(bu:Int):=⟨bz.toNat,by omega⟩;subst Qx;have HBU:Hid (bu<nb):=by show _<_;omega
 clear Ve;go_wp2_with fail
 refine (eQ.out W1 8 HX.out HT.out (by decide) (by decide)).mono ?_;rintro e W2 ⟨mn,rfl,Qy,hT,hx⟩;have HX:=ae (HX.out.trans hx);have HT:=ae hT;have HR:=ae (HR.out.but hx pA)
 clear hT hx;go_wp2_with fail
 refine (eQ.out W2 20 HX.out HT.out (by decide) (by decide)).mono ?_;rintro e W3 ⟨nl,rfl,Qz,hT,hx⟩;have HX:=ae (HX.out.trans hx);have HT:=ae hT;have HR:=ae (HR.out.but hx pA)
 clear hT hx;go_upto_region 2 with(refine bD rfl 67 _ _ rfl jb.cells (⟨aL 117 i,(bu:Int),mn,0,none,0,[],nl,0,0,0,0,0,0,0,0,0,0,0,0,none,0,[],0,0,0⟩:aF).cells rfl rfl (by kernel_rfl) rfl rfl ?_)
 obtain ⟨WX,K9,xx,ZX,AX⟩:=aB W3 67 (⟨aL 117 i,(bu:Int),mn,0,none,0,[],nl,0,0,0,0,0,0,0,0,0,0,0,0,none,0,[],0,0,0⟩:aF).cells;rw [←K9];obtain ⟨X,IP⟩: ∃X,X=W3.heap.size:=⟨_,rfl⟩;rw [←IP]at AX⊢;have oM:X≠T:=by have:=HT.out.lt;omega
 have CL:X≠R:=by have:=HR.out.lt;omega
 have ET:Hid (V.heap.size≤X):=by show _≤_;rw [IP];exact HX.out.size
 have HA:=ae AX;have HX:=ae (HX.out.trans (xx.but T));have HT:=ae (HT.out.ext xx);have HR:=ae (HR.out.ext xx)
 clear K9 IP ZX AX xx Az;have QA:=ae Qy;clear Qy;have Vf:=ae Qz;clear Qz;have c2:=HA.out.cl 2 (i64 mn) rfl;have c3:=HA.out.cl 3 (i64 0) rfl;have f3:=HA.out.frozen 3;have nY:Hid (aG (WX.setCell ⟨X,3,none⟩ (i64 mn)) X 67 (⟨aL 117 i,(bu:Int),mn,mn,none,0,[],nl,0,0,0,0,0,0,0,0,0,0,0,0,none,0,[],0,0,0⟩:aF).cells):=(HA.out).set 3 (i64 mn)
 have ku:Hid (bn (WX.setCell ⟨X,3,none⟩ (i64 mn)) T a c l):=by
  obtain ⟨j,hj,hA⟩:=HT.out;exact ⟨j,hj,(hA).other _ _ oM⟩
 have dC:Hid (ak T V (WX.setCell ⟨X,3,none⟩ (i64 mn))):=(HX.out).setCell (p:=⟨X,3,none⟩) ET.out _;have o0:Hid (aG (WX.setCell ⟨X,3,none⟩ (i64 mn)) R 67 jb.cells):=(HR.out).other _ _ CL;clear HA HT HX HR;go_upto_region 3 with fail
 generalize (WX.setCell ⟨X,3,none⟩ (i64 mn))=W4 at*;have HA:=nY;have HT:=ku;have HX:=dC;have HR:=o0
 clear nY ku dC o0 c2 c3 f3;go_wp2_with fail
 refine (eQ.out W4 20 HX.out HT.out (by decide) (by decide)).mono ?_;rintro e W5 ⟨pr,rfl,Vg,hT,hx⟩;have HX:=ae (HX.out.trans hx);have HT:=ae hT;have HR:=ae (HR.out.but hx pA);have HA:=ae (HA.out.but hx oM)
 clear hT hx;have q1:IntKind.i64.wrap (pr-2)=pr-2:=by rw [IntKind.wrap_i64];omega
 obtain ⟨p0,Yp⟩: ∃p0,p0=pr-2:=⟨_,rfl⟩;have HP0:Hid (-2≤p0∧p0≤17):=by show _∧_;omega
 go_wp2_with fail
 refine (eQ.out W5 2 HX.out HT.out (by decide) (by decide)).mono ?_;rintro e W6 ⟨nn,rfl,Vh,hT,hx⟩;have HX:=ae (HX.out.trans hx);have HT:=ae hT;have HR:=ae (HR.out.but hx pA);have HA:=ae (HA.out.but hx oM)
 clear hT hx;have q2:IntKind.i64.wrap (1+nn)=1+nn:=by rw [IntKind.wrap_i64];omega
 obtain ⟨nr,hnr⟩: ∃nr:Nat,1+nn=(nr:Int):=⟨(1+nn).toNat,by omega⟩;have QB:Hid (1≤nr∧nr≤2):=by show _∧_;omega
 go_wp2_with fail
 rw [←Yp];clear q1 q2 Yp hnr Vg Vh;have Yq:=QA;have Bw:Hid (T<W6.heap.size):=HT.out.lt;have QC:Hid (X<W6.heap.size):=HA.out.lt;have Vi:Hid (R<W6.heap.size):=HR.out.lt;have N_:Hid (V.heap.size≤W6.heap.size):=HX.out.size;go_loopw [10,11] (fun pv nv wr=> ∃(k:Nat) (sg:List cL) (sa:Option Addr) (sc:Nat) (aX:Int),k≤nr∧sg.length=k∧vT sg aX∧aH wr W6.heap.size 138 2 (.slice sa sg.length sc) (iy sg)∧aG wr X 67 (⟨aL 117 i,(bu:Int),mn,mn+bS sg,sa,sc,sg,nl,0,0,0,0,0,0,0,0,0,0,0,0,none,0,[],0,0,0⟩:aF).cells∧bn wr T a c l∧ak T V wr∧aG wr R 67 jb.cells∧W6.heap.size≤wr.heap.size∧pv= .int .i64 aX∧nv= .int .i64 ((nr-k:Nat):Int)) (fun _ nv _=>(intOf nv).toNat)
 case atStart=>exact ⟨0,[],none,0,p0,Nat.zero_le _,rfl,⟨fun g hg=>absurd hg (by simp),rfl,by have:=HP0.out;simp only [List.length_nil];omega⟩,aH.nil _ _ _ _,by simpa [bS]using HA.out,HT.out,HX.out,HR.out,Nat.le_refl _,rfl,rfl⟩
 case round=>
  obtain ⟨k,sg,sa,sc,aX,hk,CM,hsm,hown,hA,hT,hX,hR,hD,rfl,rfl⟩:=hrel;clear HA HT HX HR;have HA:=ae hA;have HT:=ae hT;have HX:=ae hX;have HR:=ae hR;have HO:=ae hown;have HD:=ae hD;have vU:=ae hsm;have EU:=ae CM
  clear hA hT hX hR hown hD hsm CM;by_cases hlt:k<nr
  ·as_aux_lemma=>
   have b0:(0:Int)<((nr-k:Nat):Int):=by omega
   have oJ:k≤1:=by have:=QB.out;omega
   go_wp2_with fail
   refine (eQ.out wr 15 HX.out HT.out (by decide) (by decide)).mono ?_;rintro e W7 ⟨wd,rfl,Vj,hT,hx⟩;have GX:=hx;have CN:=hx.size
   have HX:=ae (HX.out.trans hx);have HT:=ae hT;have HR:=ae (HR.out.but hx pA);have HA:=ae (HA.out.but hx oM)
   clear hT hx;have q1:IntKind.i64.wrap (1+wd)=1+wd:=by rw [IntKind.wrap_i64];omega
   obtain ⟨w1,eE⟩: ∃w1,w1=1+wd:=⟨_,rfl⟩;have Yr:Hid (1≤w1∧w1≤15):=by show _∧_;omega
   go_upto_region 8 with fail
   rw [←eE];clear q1 eE Vj;obtain ⟨WB,Ys,xb,ZB,AB⟩:=aB W7 138 [i64 w1,i64 aX];rw [show W7.alloc (.cells #[i64 w1,i64 aX] 138)=WB from Ys.symm];obtain ⟨B,QD⟩: ∃B,B=W7.heap.size:=⟨_,rfl⟩;rw [←QD]at AB⊢;have xj:B≠T:=by have:=HT.out.lt;omega
   have MX:B≠X:=by have:=HA.out.lt;omega
   have hBR:B≠R:=by have:=HR.out.lt;omega
   have HBV:Hid (V.heap.size≤B):=by show _≤_;rw [QD];exact HX.out.size
   have hDB:W6.heap.size≤B:=by rw [QD];exact Nat.le_trans HD.out CN
   have JM:=ae (HO.out.but GX Bw.out);have HO:Hid (aH WB W6.heap.size 138 2 (.slice sa sg.length sc) (iy sg)):=JM.out.ext xb;have MZ:=JM.out.own.lt;rw [←QD]at MZ;have Ph:=ae MZ;have HA:=ae (HA.out.ext xb);have HX:=ae (HX.out.trans (xb.but T));have HT:=ae (HT.out.ext xb);have HR:=ae (HR.out.ext xb);have HB:=ae AB
   clear Ys QD ZB AB xb CN GX MZ JM;obtain ⟨mx,hmx⟩: ∃mx,mx=mn+bS sg:=⟨_,rfl⟩
   have GY:Hid (0≤mx∧mx≤30):=by
    show _∧_;have h1:=Yq.out;have h2:=pC vU.out;have h3:=EU.out
    omega
   have Vk:=ae hmx;rw [←hmx]at HA;clear hmx;have c0:=HB.out.cl 0 (i64 w1) rfl;have c1:=HB.out.cl 1 (i64 aX) rfl;have c4:=HA.out.cl 4 (.slice sa sg.length sc) rfl
   have HOW:Hid (WB.ownsRow W6.heap.size 138 2 (.slice sa sg.length sc) sg.length (iy sg).flatten):=by
    have h5:=HO.out.own;rw [jQ]at h5;exact h5
   have Vl:W6.heap.size≤WB.heap.size:=by have:=HB.out.lt;omega
   obtain ⟨Aj,M0⟩: ∃Aj,Aj=sg++ [(⟨w1,aX⟩:cL)]:=⟨_,rfl⟩;have KU:Hid (sg.length+1=Aj.length):=by show _=_;rw [M0,List.length_append];rfl
   have M4:=ae M0;clear M0
   go_wp2_with (
    at_builtin
    refine aV _ rfl _ _ 65 rfl W6.heap.size 138 (.agg #[i64 0,i64 0]) 2 16 Tryz.underlying65 Tryz.info_seg rfl (by decide) (.slice sa sg.length sc) sg.length (iy sg).flatten rfl ?c1 (some ⟨WB.heap.size,0,none⟩) 1 1 [i64 w1,i64 aX] rfl rfl ?c2 ?c3 ?c4 ?c5 (by decide) ?c6 ?_
    case c1=>exact bG HOW.out ((Ext.refl _).alloc _)
    case c2=>exact fun _=>⟨_,rfl,cC WB 138 [i64 w1,i64 aX]⟩
    case c3=>intro u hu;rcases List.mem_cons.1 hu with e|hu;·subst e;rfl
             rw [List.mem_singleton]at hu;subst hu;rfl
    case c4=>intro e;cases e
    case c5=>have:=EU.out;omega
    case c6=>simp;omega
    intro v1 w5 ho he hb hz hv;obtain ⟨Ak,Al,rfl⟩:=fc ho.out;have lx:=HOW.out.lt;have nj:(WB.alloc (.cells #[i64 w1,i64 aX] 138)).heap.size=WB.heap.size+1:=by simp
    have Tc: ∀k,Value.ownBlock (.slice sa sg.length sc)=some k→W6.heap.size≤k∧k<B:=by
     exact Ph.out
    have U8:=HT.out.lt;have hXl:=HA.out.lt;have Pr:=HR.out.lt;have hBl:=HB.out.lt
    have Ql:bn w5 T a c l:=bn.keep (HT.out.ext ((Ext.refl WB).alloc _)) (hb.out T (by omega) (fun e=>by have:=(lx T e.symm).1;have:=Bw.out;omega));have rK:ak T V w5:=ak.append (HX.out.alloc' _) N_.out (fun k e=>(lx k e).1) he.out hb.out hz.out;have Yt:aG w5 X 67 _:=(HA.out.ext ((Ext.refl WB).alloc _)).keep (hb.out X (by omega) (fun e=>by have:=(lx X e.symm).1;have:=QC.out;omega));have Yu:aG w5 R 67 _:=(HR.out.ext ((Ext.refl WB).alloc _)).keep (hb.out R (by omega) (fun e=>by have:=(lx R e.symm).1;have:=Vi.out;omega));have Yv:aG w5 B 138 [i64 w1,i64 aX]:=(HB.out.ext ((Ext.refl WB).alloc _)).keep (hb.out B (by omega) (fun e=>by have:=(Tc B e.symm).2;omega));have iC:=HO.out.snoc (w':=w5) (r:= [i64 w1,i64 aX]) rfl (by rw [jQ];exact ho.out);have JS:=xi sg ⟨w1,aX⟩;simp only at JS;rw [←JS,←M4.out]at iC;rw [KU.out]at iC⊢;have QE:W6.heap.size≤w5.heap.size:=by have:=hz.out;omega
    clear HA HT HX HR HB HO Ph;have HA:=ae Yt;have HT:=ae Ql;have HX:=ae rK;have HR:=ae Yu;have HB:=ae Yv;have HO:=ae iC;have Vm:=ae QE
    clear Yt Ql rK Yu Yv iC JS U8 hXl Pr hBl Tc nj lx ho he hb hz hv HOW QE Vl c0 c1 c4;have c4:=HA.out.cl 4 (.slice sa sg.length sc) rfl;have f4:=HA.out.frozen 4)
   go_upto_region 9 with fail
   obtain ⟨W8,EX⟩: ∃W8,W8=w5.setCell ⟨X,4,none⟩ (.slice Ak Aj.length Al):=⟨_,rfl⟩;rw [←EX];have nY:Hid (aG W8 X 67 (⟨aL 117 i,(bu:Int),mn,mx,Ak,Al,Aj,nl,0,0,0,0,0,0,0,0,0,0,0,0,none,0,[],0,0,0⟩:aF).cells):=by rw [EX];exact HA.out.set 4 (.slice Ak Aj.length Al)
   have ku:Hid (bn W8 T a c l):=by
    rw [EX];obtain ⟨j,hj,hA⟩:=HT.out;exact ⟨j,hj,hA.other _ _ oM⟩
   have dC:Hid (ak T V W8):=by rw [EX];exact HX.out.setCell (p:=⟨X,4,none⟩) ET.out _
   have o0:Hid (aG W8 R 67 jb.cells):=by rw [EX];exact HR.out.other _ _ CL
   have qf:Hid (aG W8 B 138 [i64 w1,i64 aX]):=by rw [EX];exact HB.out.other _ _ MX.symm
   have pn:Hid (aH W8 W6.heap.size 138 2 (.slice Ak Aj.length Al) (iy Aj)):=by rw [EX];exact HO.out.but ((ak.refl X w5).et) QC.out
   have M5:Hid (W6.heap.size≤W8.heap.size):=by have:=Vm.out;have h5:=((ak.refl X w5).et (o:=4) (v:= .slice Ak Aj.length Al)).size;rw [←EX]at h5;show _≤_;omega
   clear HA HT HX HR HB HO Vm c4 f4 EX;have HA:=nY;have HT:=ku;have HX:=dC;have HR:=o0;have HB:=qf;have HO:=pn;have HZ:=M5
   clear nY ku dC o0 qf pn M5;have c3:=HA.out.cl 3 (i64 mx) rfl;have c0:=HB.out.cl 0 (i64 w1) rfl;have q1:IntKind.i64.wrap (mx+w1)=mx+w1:=by rw [IntKind.wrap_i64];have:=GY.out;have:=Yr.out;omega
   refine ay (fun w'=>True) (fun w'=>w'.cell? ⟨X,3,none⟩=some (i64 mx)∧w'.cell? ⟨B,0,none⟩=some (i64 w1)) (fun i=>i==10) (by kernel_rfl) (trivial) (⟨c3,c0⟩) (fun ar ah=> ?_);refine av 0 (.pointer (some ⟨X,3,none⟩)) rfl ar ah ?_;simp only [sS];refine cK (i:=1) (v:=i64 mx) rfl (by kernel_rfl) (by kernel_rfl) (by kernel_rfl) (by kernel_rfl) (by kernel_rfl) (by kernel_rfl) (fun _ _ _ h=>h) (Or.inl ⟨by rfl,fun w hSw=>by(obtain ⟨hSw,qA⟩:=hSw;have e0:=hSw;obtain ⟨d0,d1⟩:=qA;go_simp)⟩) ar ah ?_;try simp only [sS]
   refine av 2 (.pointer (some ⟨B,0,none⟩)) rfl ar ah ?_;simp only [sS];refine cK (i:=3) (v:=i64 w1) rfl (by kernel_rfl) (by kernel_rfl) (by kernel_rfl) (by kernel_rfl) (by kernel_rfl) (by kernel_rfl) (fun _ _ _ h=>h) (Or.inl ⟨by rfl,fun w hSw=>by(obtain ⟨hSw,qA⟩:=hSw;have e0:=hSw;obtain ⟨d0,d1⟩:=qA;go_simp)⟩) ar ah ?_;try simp only [sS]
   refine av 4 (i64 (mx+w1)) rfl ar ah ?_;simp only [sS];refine av 5 (i64 aX) rfl ar ah ?_;simp only [sS];refine av 6 (.pointer (some ⟨T,0,none⟩)) rfl ar ah ?_;simp only [sS];refine av 9 (.pointer (some ⟨X,3,none⟩)) rfl ar ah ?_;simp only [sS];refine cG 7 rfl (fun Kc hK=> ?_);go_simp;refine (eQ.out W8.drew 10 (HX.out.trans ((Ext.refl W8).drew.but T)) (HT.out.ext (Ext.refl _).drew) (by decide) (by decide)).mono ?_;rintro e W9 ⟨d,rfl,Yw,hT,hx⟩;refine hK.out _ _ (trivial) (⟨aR (ai (Ext.refl W8).drew c3) hx oM,aR (ai (Ext.refl W8).drew c0) hx xj⟩) (fun ar ah=> ?_);clear hK Kc;try simp only [sS]
   have q2:IntKind.i64.wrap (aX+d)=aX+d:=by rw [IntKind.wrap_i64];have:=vU.out.aX;have:=EU.out;omega
   refine av 8 (i64 (aX+d)) rfl ar ah ?_;simp only [sS];have M6:=(HA.out.ext (Ext.refl W8).drew).but hx oM;have f3:=M6.frozen 3;have e3:W9.cell? ⟨X,3,none⟩=some (i64 mx):=(M6.cell 3).trans rfl
   refine aZ (rs:= [10]) (by kernel_rfl) (by simp) ?_;refine aD.late rfl (by kernel_rfl) (fun Kc hK=> ?_) aD.nil;go_simp;refine hK.out _ _ (trivial) (fun ar=> ?_);clear hK Kc;try simp only [sS]
   refine jZ (i:=11) (v:=i64 (aX+d)) rfl (by kernel_rfl) (by kernel_rfl) (by kernel_rfl) (by kernel_rfl) (fun _ _ _ h=>h) (Or.inl ⟨by rfl,fun w hSw=>by(have e0:=hSw;go_simp)⟩) ar (Or.inr (by kernel_rfl)) ?_;try simp only [sS]
   refine ax (by kernel_rfl) ?_ _;clear ar
   have nY:Hid (aG (W9.setCell ⟨X,3,none⟩ (i64 (mx+w1))) X 67 (⟨aL 117 i,(bu:Int),mn,mn+bS Aj,Ak,Al,Aj,nl,0,0,0,0,0,0,0,0,0,0,0,0,none,0,[],0,0,0⟩:aF).cells):=by
    have h5:=M6.set 3 (i64 (mx+w1));have h6:mx+w1=mn+bS Aj:=by rw [M4.out,zm,Vk.out];show _=mn+(bS sg+w1);omega
    rw [h6]at h5⊢;exact h5
   have Qm:=hT;have Ae:=(HX.out.trans ((Ext.refl W8).drew.but T)).trans hx
   have ku:Hid (bn (W9.setCell ⟨X,3,none⟩ (i64 (mx+w1))) T a c l):=by
    obtain ⟨j,hj,hA⟩:=Qm;exact ⟨j,hj,hA.other _ _ oM⟩
   have dC:Hid (ak T V (W9.setCell ⟨X,3,none⟩ (i64 (mx+w1)))):=Ae.setCell (p:=⟨X,3,none⟩) ET.out _;have o0:Hid (aG (W9.setCell ⟨X,3,none⟩ (i64 (mx+w1))) R 67 jb.cells):=((HR.out.ext (Ext.refl W8).drew).but hx pA).other _ _ CL;have pn:Hid (aH (W9.setCell ⟨X,3,none⟩ (i64 (mx+w1))) W6.heap.size 138 2 (.slice Ak Aj.length Al) (iy Aj)):=((HO.out.ext (Ext.refl W8).drew).but hx Bw.out).but ((ak.refl X W9).et) QC.out
   have M5:Hid (W6.heap.size≤(W9.setCell ⟨X,3,none⟩ (i64 (mx+w1))).heap.size):=by
    have:=HZ.out;have h5:=hx.size;have h6:=((Ext.refl W8).drew).size
    show _≤_;rw [World.size_setCell];omega
   have Vn:Hid (vT Aj (aX+d)):=by rw [M4.out];exact vU.out.snoc Yr.out (by rw [EU.out];exact oJ) Yw
   generalize (W9.setCell ⟨X,3,none⟩ (i64 (mx+w1)))=jG at*;clear HA HT HX HR HB HO HZ Qm Ae M6 e3 f3 c3 c0 q1 q2 hT hx Yw;have q3:IntKind.i64.wrap (((nr-k:Nat):Int)-1)=((nr-(k+1):Nat):Int):=by rw [IntKind.wrap_i64];have:=QB.out;omega
   go_wp2_with fail
   exact ⟨⟨k+1,Aj,Ak,Al,aX+d,by omega,by have:=KU.out;have:=EU.out;omega,Vn.out,pn.out,nY.out,ku.out,dC.out,o0.out,M5.out,rfl,rfl⟩,by show(((nr-(k+1):Nat):Int)).toNat<(((nr-k:Nat):Int)).toNat;omega⟩
  ·obtain rfl:k=nr:=by omega
   clear hlt hk;rw [Nat.sub_self k,show((0:Nat):Int)=0 from rfl];obtain ⟨mx,hmx⟩: ∃mx,mx=mn+bS sg:=⟨_,rfl⟩
   have GY:Hid (mn≤mx∧mx≤40∧0≤mn):=by
    show _∧_;have h1:=Yq.out;have h2:=pC vU.out;have h3:=EU.out;have h4:=QB.out
    omega
   have Vo:=ae hmx;rw [←hmx]at HA;clear hmx
   have HU:Hid (UW V T R X W6.heap.size a c l (⟨aL 117 i,(bu:Int),mn,mx,sa,sc,sg,nl,0,0,0,0,0,0,0,0,0,0,0,0,none,0,[],0,0,0⟩:aF) wr):=by
    obtain ⟨ra,rc,oN,tM,Bx⟩:=HO.out.recs (by decide);rw [jQ]at oN;cases oN
    exact ⟨HT.out,HA.out,HR.out,HX.out,HD.out,tM,Bx,aA.nil _,Fr.none _,⟨Bw.out,QC.out,Vi.out,oM,CL,pA,ET.out⟩⟩
   have QF:=N_;clear HT HA HR HX HD HO Bw QC Vi N_;go_wp2_with fail
   refine (eQ.out wr 20 HU.out.ext HU.out.tape (by decide) (by decide)).mono ?_;rintro e W8 ⟨ru,rfl,QG,hT,hx⟩;replace HU:=ae (HU.out.next hT hx);clear hT hx;have Vp:=ae QG;clear QG;go_wp2_with fail
   refine (eQ.out W8 20 HU.out.ext HU.out.tape (by decide) (by decide)).mono ?_;rintro e W9 ⟨rd,rfl,QH,hT,hx⟩;replace HU:=ae (HU.out.next hT hx);clear hT hx;have Vq:=ae QH;clear QH;have c6:=HU.out.unit.cl 6 (i64 0) rfl;have f6:=HU.out.unit.frozen 6;have c7:=HU.out.unit.cl 7 (i64 0) rfl;have f7:=HU.out.unit.frozen 7;replace HU:Hid (UW V T R X W6.heap.size a c l (⟨aL 117 i,(bu:Int),mn,mx,sa,sc,sg,nl,ru,0,0,0,0,0,0,0,0,0,0,0,none,0,[],0,0,0⟩:aF) (W9.setCell ⟨X,6,none⟩ (i64 ru))):=HU.out.set 6 (i64 ru) _ rfl ⟨rfl,rfl,rfl,rfl,rfl,rfl⟩;replace HU:Hid (UW V T R X W6.heap.size a c l (⟨aL 117 i,(bu:Int),mn,mx,sa,sc,sg,nl,ru,rd,0,0,0,0,0,0,0,0,0,0,none,0,[],0,0,0⟩:aF) ((W9.setCell ⟨X,6,none⟩ (i64 ru)).setCell ⟨X,7,none⟩ (i64 rd))):=HU.out.set 7 (i64 rd) _ rfl ⟨rfl,rfl,rfl,rfl,rfl,rfl⟩;go_upto_region 11 with fail
   clear c6 f6 c7 f7;generalize ((W9.setCell ⟨X,6,none⟩ (i64 ru)).setCell ⟨X,7,none⟩ (i64 rd))=jG at*;have OA:Hid (0<mx-mn+1∧mx-mn+1<100):=by have:=GY.out;show _∧_;omega
   have q1:IntKind.i64.wrap (mx-mn)=mx-mn:=by rw [IntKind.wrap_i64];have:=GY.out;omega
   have q2:IntKind.i64.wrap (mx-mn+1)=mx-mn+1:=by rw [IntKind.wrap_i64];have:=GY.out;omega
   refine ay (fun w'=>w'.cell? ⟨X,2,none⟩=some (i64 mn)∧w'.cell? ⟨X,3,none⟩=some (i64 mx)) (fun w'=>True) (fun i=>false) (by kernel_rfl) (⟨(HU.out.unit.cell 2).trans rfl,(HU.out.unit.cell 3).trans rfl⟩) (trivial) (fun ar ah=> ?_);refine av 0 (.pointer (some ⟨X,2,none⟩)) rfl ar ah ?_;simp only [sS];refine av 1 (i64 mn) rfl ar ah ?_;simp only [sS];refine av 2 (.pointer (some ⟨T,0,none⟩)) rfl ar ah ?_;simp only [sS];refine av 3 (.pointer (some ⟨X,3,none⟩)) rfl ar ah ?_;simp only [sS];refine av 4 (i64 mx) rfl ar ah ?_;simp only [sS];refine av 5 (.pointer (some ⟨X,2,none⟩)) rfl ar ah ?_;simp only [sS];refine av 6 (i64 mn) rfl ar ah ?_;simp only [sS];refine av 7 (i64 (mx-mn)) rfl ar ah ?_;simp only [sS];refine av 8 (i64 (mx-mn+1)) rfl ar ah ?_;simp only [sS];refine av 11 (.pointer (some ⟨X,2,none⟩)) rfl ar ah ?_;simp only [sS];refine av 12 (i64 mn) rfl ar ah ?_;simp only [sS];refine av 13 (.pointer (some ⟨T,0,none⟩)) rfl ar ah ?_;simp only [sS];refine av 14 (.pointer (some ⟨X,3,none⟩)) rfl ar ah ?_;simp only [sS];refine av 15 (i64 mx) rfl ar ah ?_;simp only [sS];refine av 16 (.pointer (some ⟨X,2,none⟩)) rfl ar ah ?_;simp only [sS];refine av 17 (i64 mn) rfl ar ah ?_;simp only [sS];refine av 18 (i64 (mx-mn)) rfl ar ah ?_;simp only [sS];refine av 19 (i64 (mx-mn+1)) rfl ar ah ?_;simp only [sS];replace HU:=ae (HU.out.drew);refine cG 9 rfl (fun Kc hK=> ?_);go_simp;refine (eQ.out jG.drew (mx-mn+1) HU.out.ext HU.out.tape OA.out.1 (by have:=OA.out.2;omega)).mono ?_;rintro e EI ⟨sr,rfl,QI,hT,hx⟩;replace HU:=ae (HU.out.next hT hx);clear hT hx;have QJ:=ae QI;clear QI;refine hK.out _ _ (⟨(HU.out.unit.cell 2).trans rfl,(HU.out.unit.cell 3).trans rfl⟩) (trivial) (fun ar ah=> ?_);clear hK Kc;try simp only [sS]
   have q3:IntKind.i64.wrap (mn+sr)=mn+sr:=by rw [IntKind.wrap_i64];have:=GY.out;have:=QJ.out;omega
   refine av 10 (i64 (mn+sr)) rfl ar ah ?_;simp only [sS];refine av 22 (.pointer (some ⟨X,8,none⟩)) rfl ar ah ?_;simp only [sS];refine cG 20 rfl (fun Kc hK=> ?_);go_simp;refine (eQ.out EI (mx-mn+1) HU.out.ext HU.out.tape OA.out.1 (by have:=OA.out.2;omega)).mono ?_;rintro e LK ⟨tr,rfl,QK,hT,hx⟩;replace HU:=ae (HU.out.next hT hx);clear hT hx;have QL:=ae QK;clear QK;refine hK.out _ _ (⟨(HU.out.unit.cell 2).trans rfl,(HU.out.unit.cell 3).trans rfl⟩) (trivial) (fun ar ah=> ?_);clear hK Kc;try simp only [sS]
   have q4:IntKind.i64.wrap (mn+tr)=mn+tr:=by rw [IntKind.wrap_i64];have:=GY.out;have:=QL.out;omega
   refine av 21 (i64 (mn+tr)) rfl ar ah ?_;simp only [sS];have c8:=HU.out.unit.cl 8 (i64 0) rfl;have f8:=HU.out.unit.frozen 8;refine cG 23 rfl (fun Kc hK=> ?_);go_simp;replace HU:Hid (UW V T R X W6.heap.size a c l (⟨aL 117 i,(bu:Int),mn,mx,sa,sc,sg,nl,ru,rd,mn+sr,0,0,0,0,0,0,0,0,0,none,0,[],0,0,0⟩:aF) (LK.setCell ⟨X,8,none⟩ (i64 (mn+sr)))):=HU.out.set 8 (i64 (mn+sr)) _ rfl ⟨rfl,rfl,rfl,rfl,rfl,rfl⟩;generalize (LK.setCell ⟨X,8,none⟩ (i64 (mn+sr)))=Yx at*;refine hK.out _ _ (⟨(HU.out.unit.cell 2).trans rfl,(HU.out.unit.cell 3).trans rfl⟩) (trivial) (fun ar ah=> ?_);clear hK Kc;try simp only [sS]
   clear c8 f8;refine av 24 (.pointer (some ⟨X,9,none⟩)) rfl ar ah ?_;simp only [sS];have c9:=HU.out.unit.cl 9 (i64 0) rfl;have f9:=HU.out.unit.frozen 9;refine cG 25 rfl (fun Kc hK=> ?_);go_simp;replace HU:Hid (UW V T R X W6.heap.size a c l (⟨aL 117 i,(bu:Int),mn,mx,sa,sc,sg,nl,ru,rd,mn+sr,mn+tr,0,0,0,0,0,0,0,0,none,0,[],0,0,0⟩:aF) (Yx.setCell ⟨X,9,none⟩ (i64 (mn+tr)))):=HU.out.set 9 (i64 (mn+tr)) _ rfl ⟨rfl,rfl,rfl,rfl,rfl,rfl⟩;generalize (Yx.setCell ⟨X,9,none⟩ (i64 (mn+tr)))=W14 at*;refine hK.out _ _ (⟨(HU.out.unit.cell 2).trans rfl,(HU.out.unit.cell 3).trans rfl⟩) (trivial) (fun ar ah=> ?_);clear hK Kc;try simp only [sS]
   clear c9 f9;refine ax (by kernel_rfl) ?_ _;clear ar ah q1 q2 q3 q4;go_wp2_with fail
   refine (eQ.out W14 3 HU.out.ext HU.out.tape (by decide) (by decide)).mono ?_;rintro e W15 ⟨ut,rfl,QM,hT,hx⟩;replace HU:=ae (HU.out.next hT hx);clear hT hx;have Vr:=ae QM;clear QM;go_wp2_with fail
   refine (eQ.out W15 3 HU.out.ext HU.out.tape (by decide) (by decide)).mono ?_;rintro e W16 ⟨dt,rfl,QN,hT,hx⟩;replace HU:=ae (HU.out.next hT hx);clear hT hx;have Vs:=ae QN;clear QN;go_wp2_with fail
   refine (eQ.out W16 2 HU.out.ext HU.out.tape (by decide) (by decide)).mono ?_;rintro e Td ⟨st,rfl,QO,hT,hx⟩;replace HU:=ae (HU.out.next hT hx);clear hT hx;have GZ:=ae QO;clear QO;have c10:=HU.out.unit.cl 10 (i64 0) rfl;have f10:=HU.out.unit.frozen 10;have c11:=HU.out.unit.cl 11 (i64 0) rfl;have f11:=HU.out.unit.frozen 11;have c12:=HU.out.unit.cl 12 (i64 0) rfl;have f12:=HU.out.unit.frozen 12;replace HU:Hid (UW V T R X W6.heap.size a c l (⟨aL 117 i,(bu:Int),mn,mx,sa,sc,sg,nl,ru,rd,mn+sr,mn+tr,ut,0,0,0,0,0,0,0,none,0,[],0,0,0⟩:aF) (Td.setCell ⟨X,10,none⟩ (i64 ut))):=HU.out.set 10 (i64 ut) _ rfl ⟨rfl,rfl,rfl,rfl,rfl,rfl⟩;replace HU:Hid (UW V T R X W6.heap.size a c l (⟨aL 117 i,(bu:Int),mn,mx,sa,sc,sg,nl,ru,rd,mn+sr,mn+tr,ut,dt,0,0,0,0,0,0,none,0,[],0,0,0⟩:aF) ((Td.setCell ⟨X,10,none⟩ (i64 ut)).setCell ⟨X,11,none⟩ (i64 dt))):=HU.out.set 11 (i64 dt) _ rfl ⟨rfl,rfl,rfl,rfl,rfl,rfl⟩;replace HU:Hid (UW V T R X W6.heap.size a c l (⟨aL 117 i,(bu:Int),mn,mx,sa,sc,sg,nl,ru,rd,mn+sr,mn+tr,ut,dt,st,0,0,0,0,0,none,0,[],0,0,0⟩:aF) (((Td.setCell ⟨X,10,none⟩ (i64 ut)).setCell ⟨X,11,none⟩ (i64 dt)).setCell ⟨X,12,none⟩ (i64 st))):=HU.out.set 12 (i64 st) _ rfl ⟨rfl,rfl,rfl,rfl,rfl,rfl⟩;go_upto_region 13 with fail
   clear c10 f10 c11 f11 c12 f12;generalize (((Td.setCell ⟨X,10,none⟩ (i64 ut)).setCell ⟨X,11,none⟩ (i64 dt)).setCell ⟨X,12,none⟩ (i64 st))=W18 at*;go_wp2_with fail
   refine (eQ.out W18 30 HU.out.ext HU.out.tape (by decide) (by decide)).mono ?_;rintro e Yy ⟨hc,rfl,QP,hT,hx⟩;replace HU:=ae (HU.out.next hT hx);clear hT hx;have M7:=ae QP;clear QP;have c13:=HU.out.unit.cl 13 (i64 0) rfl;have f13:=HU.out.unit.frozen 13;replace HU:Hid (UW V T R X W6.heap.size a c l (⟨aL 117 i,(bu:Int),mn,mx,sa,sc,sg,nl,ru,rd,mn+sr,mn+tr,ut,dt,st,hc,0,0,0,0,none,0,[],0,0,0⟩:aF) (Yy.setCell ⟨X,13,none⟩ (i64 hc))):=HU.out.set 13 (i64 hc) _ rfl ⟨rfl,rfl,rfl,rfl,rfl,rfl⟩;go_upto_region 14 with fail
   clear c13 f13;generalize (Yy.setCell ⟨X,13,none⟩ (i64 hc))=W20 at*;refine ay (fun w'=>w'.cell? ⟨X,13,none⟩=some (i64 hc)) (fun w'=>True) (fun i=>false) (by kernel_rfl) ((HU.out.unit.cell 13).trans rfl) (trivial) (fun ar ah=> ?_);refine av 0 (.pointer (some ⟨X,13,none⟩)) rfl ar ah ?_;simp only [sS];refine av 1 (i64 hc) rfl ar ah ?_;simp only [sS];refine av 2 (.pointer (some ⟨T,0,none⟩)) rfl ar ah ?_;simp only [sS];replace HU:=ae (HU.out.drew);refine cG 3 rfl (fun Kc hK=> ?_);go_simp;refine (eQ.out W20.drew (30) HU.out.ext HU.out.tape (by decide) (by decide)).mono ?_;rintro e Yz ⟨cc,rfl,QQ,hT,hx⟩;replace HU:=ae (HU.out.next hT hx);clear hT hx;have QR:=ae QQ;clear QQ;refine hK.out _ _ ((HU.out.unit.cell 13).trans rfl) (trivial) (fun ar ah=> ?_);clear hK Kc;try simp only [sS]
   have q1:IntKind.i64.wrap (hc+cc)=hc+cc:=by rw [IntKind.wrap_i64];have:=M7.out;have:=QR.out;omega
   refine av 4 (i64 (hc+cc)) rfl ar ah ?_;simp only [sS];refine av 5 (.pointer (some ⟨X,14,none⟩)) rfl ar ah ?_;simp only [sS];have c14:=HU.out.unit.cl 14 (i64 0) rfl;have f14:=HU.out.unit.frozen 14;refine cG 6 rfl (fun Kc hK=> ?_);go_simp;replace HU:Hid (UW V T R X W6.heap.size a c l (⟨aL 117 i,(bu:Int),mn,mx,sa,sc,sg,nl,ru,rd,mn+sr,mn+tr,ut,dt,st,hc,hc+cc,0,0,0,none,0,[],0,0,0⟩:aF) (Yz.setCell ⟨X,14,none⟩ (i64 (hc+cc)))):=HU.out.set 14 (i64 (hc+cc)) _ rfl ⟨rfl,rfl,rfl,rfl,rfl,rfl⟩;generalize (Yz.setCell ⟨X,14,none⟩ (i64 (hc+cc)))=W22 at*;refine hK.out _ _ ((HU.out.unit.cell 13).trans rfl) (trivial) (fun ar ah=> ?_);clear hK Kc;try simp only [sS]
   clear c14 f14;refine ax (by kernel_rfl) ?_ _;clear ar ah q1;go_wp2_with fail
   refine (eQ.out W22 4 HU.out.ext HU.out.tape (by decide) (by decide)).mono ?_;rintro e W23 ⟨hh,rfl,QS,hT,hx⟩;replace HU:=ae (HU.out.next hT hx);clear hT hx;have Vt:=ae QS;clear QS;go_wp2_with fail
   refine (eQ.out W23 8 HU.out.ext HU.out.tape (by decide) (by decide)).mono ?_;rintro e W24 ⟨rs,rfl,QT,hT,hx⟩;replace HU:=ae (HU.out.next hT hx);clear hT hx;have Vu:=ae QT;clear QT;go_wp2_with fail
   refine (eQ.out W24 4 HU.out.ext HU.out.tape (by decide) (by decide)).mono ?_;rintro e Te ⟨rp,rfl,QU,hT,hx⟩;replace HU:=ae (HU.out.next hT hx);clear hT hx;have Vv:=ae QU;clear QU;have c15:=HU.out.unit.cl 15 (i64 0) rfl;have f15:=HU.out.unit.frozen 15;have c16:=HU.out.unit.cl 16 (i64 0) rfl;have f16:=HU.out.unit.frozen 16;have c17:=HU.out.unit.cl 17 (i64 0) rfl;have f17:=HU.out.unit.frozen 17;replace HU:Hid (UW V T R X W6.heap.size a c l (⟨aL 117 i,(bu:Int),mn,mx,sa,sc,sg,nl,ru,rd,mn+sr,mn+tr,ut,dt,st,hc,hc+cc,hh,0,0,none,0,[],0,0,0⟩:aF) (Te.setCell ⟨X,15,none⟩ (i64 hh))):=HU.out.set 15 (i64 hh) _ rfl ⟨rfl,rfl,rfl,rfl,rfl,rfl⟩;replace HU:Hid (UW V T R X W6.heap.size a c l (⟨aL 117 i,(bu:Int),mn,mx,sa,sc,sg,nl,ru,rd,mn+sr,mn+tr,ut,dt,st,hc,hc+cc,hh,rs,0,none,0,[],0,0,0⟩:aF) ((Te.setCell ⟨X,15,none⟩ (i64 hh)).setCell ⟨X,16,none⟩ (i64 rs))):=HU.out.set 16 (i64 rs) _ rfl ⟨rfl,rfl,rfl,rfl,rfl,rfl⟩;replace HU:Hid (UW V T R X W6.heap.size a c l (⟨aL 117 i,(bu:Int),mn,mx,sa,sc,sg,nl,ru,rd,mn+sr,mn+tr,ut,dt,st,hc,hc+cc,hh,rs,rp,none,0,[],0,0,0⟩:aF) (((Te.setCell ⟨X,15,none⟩ (i64 hh)).setCell ⟨X,16,none⟩ (i64 rs)).setCell ⟨X,17,none⟩ (i64 rp))):=HU.out.set 17 (i64 rp) _ rfl ⟨rfl,rfl,rfl,rfl,rfl,rfl⟩;go_upto_region 16 with fail
   clear c15 f15 c16 f16 c17 f17;generalize (((Te.setCell ⟨X,15,none⟩ (i64 hh)).setCell ⟨X,16,none⟩ (i64 rs)).setCell ⟨X,17,none⟩ (i64 rp))=W26 at*;go_wp2_with fail
   refine (JD.out W26 HU.out.ext HU.out.tape).mono ?_;rintro e Vw ⟨aa,ac,aw,rfl,QV,QX,QY,M8,hT,hx⟩;have Am:=ae (HU.out.next hT hx);have c18:=Am.out.unit.cl 18 (.slice none 0 0) rfl;have f18:=Am.out.unit.frozen 18
   have D4:Hid (UW V T R X W6.heap.size a c l (⟨aL 117 i,(bu:Int),mn,mx,sa,sc,sg,nl,ru,rd,mn+sr,mn+tr,ut,dt,st,hc,hc+cc,hh,rs,rp,aa,ac,aw,0,0,0⟩:aF) (Vw.setCell ⟨X,18,none⟩ (.slice aa aw.length ac))):=by
    have hx2:=((ak.refl X Vw).et (o:=18) (v:= .slice aa aw.length ac));have hf2:Fr W6.heap.size aa:=M8.mono HU.out.size;have h:=Am.out;exact ⟨h.tape.but hx2 h.pos.2.2.2.1.symm,h.unit.set 18 _,h.res.but hx2 h.pos.2.2.2.2.1.symm,h.ext.setCell (p:=⟨X,18,none⟩) h.pos.2.2.2.2.2.2 _,Nat.le_trans h.size hx2.size,h.aI.but hx2 (h.sf.ne h.pos.2.1),h.sf,QX.fS hx2 (hf2.ne h.pos.2.1),hf2,h.pos⟩
   have QZ:Hid ((aw.length≤1∧(aw= []→aa=none))∧(∀x∈aw,0≤x∧x<hours)∧Fr V.heap.size aa):=⟨QV,QY,M8.mono HU.out.ext.size⟩;clear HU Am hT hx QV QX QY M8 JD;go_upto_region 17 with fail
   have HU:=D4;clear c18 f18 D4;generalize (Vw.setCell ⟨X,18,none⟩ (.slice aa aw.length ac))=W28 at*;have HST:Hid (0<2+st∧2+st≤3):=by have:=GZ.out;show _∧_;omega
   have q1:IntKind.i64.wrap (2+st)=2+st:=by rw [IntKind.wrap_i64];have:=GZ.out;omega
   go_cut [] (fun wx=> ∃(iv:Nat) (hr:Int),(iv:Int)<2+st∧(0≤hr∧hr<4)∧UW V T R X W6.heap.size a c l (⟨aL 117 i,(bu:Int),mn,mx,sa,sc,sg,nl,ru,rd,mn+sr,mn+tr,ut,dt,st,hc,hc+cc,hh,rs,rp,aa,ac,aw,(gB iv),(1+hr),0⟩:aF) wx)
   case first=>
    as_aux_lemma=>
     refine ay (fun w'=>w'.cell? ⟨X,12,none⟩=some (i64 st)) (fun w'=>True) (fun i=>false) (by kernel_rfl) ((HU.out.unit.cell 12).trans rfl) (trivial) (fun ar ah=> ?_);refine av 1 (.pointer (some ⟨T,0,none⟩)) rfl ar ah ?_;simp only [sS];refine av 2 (.pointer (some ⟨X,12,none⟩)) rfl ar ah ?_;simp only [sS];refine av 3 (i64 st) rfl ar ah ?_;simp only [sS];refine av 4 (i64 (2+st)) rfl ar ah ?_;simp only [sS];refine av 8 (.pointer (some ⟨T,0,none⟩)) rfl ar ah ?_;simp only [sS];replace HU:=ae (HU.out.drew);generalize W28.drew=Tf at*;refine aZ (rs:= [0,5]) (by kernel_rfl) (by simp) ?_;refine aD.cons rfl (fun Kc hK=> ?_) (aD.cons rfl (fun Kc hK=> ?_) aD.nil)
     ·go_simp
      obtain ⟨YA,pD,xa,-,AA⟩:=aB (Tf) 3 [i64 0,i64 2,i64 1];rw [show(Tf).alloc (.cells #[i64 0,i64 2,i64 1] 3)=YA from pD.symm];obtain ⟨B,hB⟩: ∃B,B=(Tf).heap.size:=⟨_,rfl⟩;rw [←hB]at AA⊢;have xj:B≠T:=by have:=HU.out.tape.lt;omega
      have HB:=ae AA;replace HU:=ae (HU.out.next (HU.out.tape.ext xa) (xa.but T));clear pD xa AA hB;refine hK.out _ _ ((HU.out.unit.cell 12).trans rfl) (trivial) (fun ar ah=> ?_);clear hK Kc;try simp only [sS]
      refine cG 5 rfl (fun Kc hK=> ?_);go_simp;refine (eQ.out (YA) (2+st) HU.out.ext HU.out.tape HST.out.1 (by have:=HST.out.2;omega)).mono ?_;rintro e Vx ⟨vz,rfl,G1,hT,hx⟩;replace HU:=ae (HU.out.next hT hx);replace HB:=ae (HB.out.but hx xj);obtain ⟨iv,Q5⟩: ∃iv:Nat,vz=(iv:Int):=⟨vz.toNat,by omega⟩;subst Q5;have bi:(iv:Int)<3:=by have:=HST.out.2;omega
      have OB:Hid ((iv:Int)<2+st):=G1.2;clear G1;clear hT hx;refine hK.out _ _ ((HU.out.unit.cell 12).trans rfl) (trivial) (fun ar ah=> ?_);clear hK Kc;try simp only [sS]
      refine av 6 (.pointer (some ⟨B,iv,none⟩)) rfl ar ah ?_;simp only [sS];refine aZ (rs:= [7,9]) (by kernel_rfl) (by simp) ?_;refine aD.cons rfl (fun Kc hK=> ?_) (aD.cons rfl (fun Kc hK=> ?_) aD.nil)
      ·have cB:(Vx).cell? ⟨B,iv,none⟩=some (i64 (gB iv)):=kQ HB.out (by omega)
       go_simp;refine hK.out _ _ ((HU.out.unit.cell 12).trans rfl) (trivial) (fun ar ah=> ?_);clear hK Kc;try simp only [sS]
       clear cB;refine av 11 (.pointer (some ⟨X,19,none⟩)) rfl ar ah ?_;simp only [sS];refine cG 9 rfl (fun Kc hK=> ?_);go_simp;refine (eQ.out (Vx) 4 HU.out.ext HU.out.tape (by decide) (by decide)).mono ?_;rintro e YB ⟨hr,rfl,pE,hT,hx⟩;replace HU:=ae (HU.out.next hT hx);replace HB:=ae (HB.out.but hx xj);have pF:=ae pE;clear pE;clear hT hx;refine hK.out _ _ ((HU.out.unit.cell 12).trans rfl) (trivial) (fun ar ah=> ?_);clear hK Kc;try simp only [sS]
       have q2:IntKind.i64.wrap (1+hr)=1+hr:=by rw [IntKind.wrap_i64];have:=pF.out;omega
       refine av 10 (i64 (1+hr)) rfl ar ah ?_;simp only [sS];refine cG 12 rfl (fun Kc hK=> ?_);have c19:=HU.out.unit.cl 19 (i64 0) rfl;have f19:=HU.out.unit.frozen 19;go_simp;replace HU:Hid (UW V T R X W6.heap.size a c l (⟨aL 117 i,(bu:Int),mn,mx,sa,sc,sg,nl,ru,rd,mn+sr,mn+tr,ut,dt,st,hc,hc+cc,hh,rs,rp,aa,ac,aw,(gB iv),0,0⟩:aF) (YB.setCell ⟨X,19,none⟩ (i64 (gB iv)))):=HU.out.set 19 (i64 (gB iv)) _ rfl ⟨rfl,rfl,rfl,rfl,rfl,rfl⟩;generalize (YB.setCell ⟨X,19,none⟩ (i64 (gB iv)))=YC at*;refine hK.out _ _ ((HU.out.unit.cell 12).trans rfl) (trivial) (fun ar ah=> ?_);clear hK Kc;try simp only [sS]
       clear c19 f19;refine av 13 (.pointer (some ⟨X,20,none⟩)) rfl ar ah ?_;simp only [sS];refine cG 14 rfl (fun Kc hK=> ?_);have c20:=HU.out.unit.cl 20 (i64 0) rfl;have f20:=HU.out.unit.frozen 20;go_simp;replace HU:Hid (UW V T R X W6.heap.size a c l (⟨aL 117 i,(bu:Int),mn,mx,sa,sc,sg,nl,ru,rd,mn+sr,mn+tr,ut,dt,st,hc,hc+cc,hh,rs,rp,aa,ac,aw,(gB iv),(1+hr),0⟩:aF) (YC.setCell ⟨X,20,none⟩ (i64 (1+hr)))):=HU.out.set 20 (i64 (1+hr)) _ rfl ⟨rfl,rfl,rfl,rfl,rfl,rfl⟩;generalize (YC.setCell ⟨X,20,none⟩ (i64 (1+hr)))=W34 at*;refine hK.out _ _ ((HU.out.unit.cell 12).trans rfl) (trivial) (fun ar ah=> ?_);clear hK Kc;try simp only [sS]
       clear c20 f20;refine ax (by kernel_rfl) ?_ _;clear ar ah;go_wp2_with fail
       go_meet
       exact ⟨iv,hr,by have:=OB.out;omega,pF.out,HU.out⟩
      ·go_simp
       refine (eQ.out (Vx) 4 HU.out.ext HU.out.tape (by decide) (by decide)).mono ?_;rintro e Vy ⟨hr,rfl,pE,hT,hx⟩;replace HU:=ae (HU.out.next hT hx);replace HB:=ae (HB.out.but hx xj);have pF:=ae pE;clear pE;clear hT hx;refine hK.out _ _ ((HU.out.unit.cell 12).trans rfl) (trivial) (fun ar ah=> ?_);clear hK Kc;try simp only [sS]
       have q2:IntKind.i64.wrap (1+hr)=1+hr:=by rw [IntKind.wrap_i64];have:=pF.out;omega
       refine av 10 (i64 (1+hr)) rfl ar ah ?_;simp only [sS];refine cG 7 rfl (fun Kc hK=> ?_);have cB:(Vy).cell? ⟨B,iv,none⟩=some (i64 (gB iv)):=kQ HB.out (by omega);go_simp;refine hK.out _ _ ((HU.out.unit.cell 12).trans rfl) (trivial) (fun ar ah=> ?_);clear hK Kc;try simp only [sS]
       clear cB;refine av 11 (.pointer (some ⟨X,19,none⟩)) rfl ar ah ?_;simp only [sS];refine cG 12 rfl (fun Kc hK=> ?_);have c19:=HU.out.unit.cl 19 (i64 0) rfl;have f19:=HU.out.unit.frozen 19;go_simp;replace HU:Hid (UW V T R X W6.heap.size a c l (⟨aL 117 i,(bu:Int),mn,mx,sa,sc,sg,nl,ru,rd,mn+sr,mn+tr,ut,dt,st,hc,hc+cc,hh,rs,rp,aa,ac,aw,(gB iv),0,0⟩:aF) (Vy.setCell ⟨X,19,none⟩ (i64 (gB iv)))):=HU.out.set 19 (i64 (gB iv)) _ rfl ⟨rfl,rfl,rfl,rfl,rfl,rfl⟩;generalize (Vy.setCell ⟨X,19,none⟩ (i64 (gB iv)))=YD at*;refine hK.out _ _ ((HU.out.unit.cell 12).trans rfl) (trivial) (fun ar ah=> ?_);clear hK Kc;try simp only [sS]
       clear c19 f19;refine av 13 (.pointer (some ⟨X,20,none⟩)) rfl ar ah ?_;simp only [sS];refine cG 14 rfl (fun Kc hK=> ?_);have c20:=HU.out.unit.cl 20 (i64 0) rfl;have f20:=HU.out.unit.frozen 20;go_simp;replace HU:Hid (UW V T R X W6.heap.size a c l (⟨aL 117 i,(bu:Int),mn,mx,sa,sc,sg,nl,ru,rd,mn+sr,mn+tr,ut,dt,st,hc,hc+cc,hh,rs,rp,aa,ac,aw,(gB iv),(1+hr),0⟩:aF) (YD.setCell ⟨X,20,none⟩ (i64 (1+hr)))):=HU.out.set 20 (i64 (1+hr)) _ rfl ⟨rfl,rfl,rfl,rfl,rfl,rfl⟩;generalize (YD.setCell ⟨X,20,none⟩ (i64 (1+hr)))=W37 at*;refine hK.out _ _ ((HU.out.unit.cell 12).trans rfl) (trivial) (fun ar ah=> ?_);clear hK Kc;try simp only [sS]
       clear c20 f20;refine ax (by kernel_rfl) ?_ _;clear ar ah;go_wp2_with fail
       go_meet
       exact ⟨iv,hr,by have:=OB.out;omega,pF.out,HU.out⟩
     ·go_simp
      refine (eQ.out (Tf) (2+st) HU.out.ext HU.out.tape HST.out.1 (by have:=HST.out.2;omega)).mono ?_;rintro e Tg ⟨vz,rfl,G1,hT,hx⟩;replace HU:=ae (HU.out.next hT hx);obtain ⟨iv,Q5⟩: ∃iv:Nat,vz=(iv:Int):=⟨vz.toNat,by omega⟩;subst Q5;have bi:(iv:Int)<3:=by have:=HST.out.2;omega
      have OB:Hid ((iv:Int)<2+st):=G1.2;clear G1;clear hT hx;refine hK.out _ _ ((HU.out.unit.cell 12).trans rfl) (trivial) (fun ar ah=> ?_);clear hK Kc;try simp only [sS]
      refine aZ (rs:= [0,9]) (by kernel_rfl) (by simp) ?_;refine aD.cons rfl (fun Kc hK=> ?_) (aD.cons rfl (fun Kc hK=> ?_) aD.nil)
      ·go_simp
       obtain ⟨Th,pD,xa,-,AA⟩:=aB (Tg) 3 [i64 0,i64 2,i64 1];rw [show(Tg).alloc (.cells #[i64 0,i64 2,i64 1] 3)=Th from pD.symm];obtain ⟨B,hB⟩: ∃B,B=(Tg).heap.size:=⟨_,rfl⟩;rw [←hB]at AA⊢;have xj:B≠T:=by have:=HU.out.tape.lt;omega
       have HB:=ae AA;replace HU:=ae (HU.out.next (HU.out.tape.ext xa) (xa.but T));clear pD xa AA hB;refine hK.out _ _ ((HU.out.unit.cell 12).trans rfl) (trivial) (fun ar ah=> ?_);clear hK Kc;try simp only [sS]
       refine av 6 (.pointer (some ⟨B,iv,none⟩)) rfl ar ah ?_;simp only [sS];refine aZ (rs:= [7,9]) (by kernel_rfl) (by simp) ?_;refine aD.cons rfl (fun Kc hK=> ?_) (aD.cons rfl (fun Kc hK=> ?_) aD.nil)
       ·have cB:(Th).cell? ⟨B,iv,none⟩=some (i64 (gB iv)):=kQ HB.out (by omega)
        go_simp;refine hK.out _ _ ((HU.out.unit.cell 12).trans rfl) (trivial) (fun ar ah=> ?_);clear hK Kc;try simp only [sS]
        clear cB;refine av 11 (.pointer (some ⟨X,19,none⟩)) rfl ar ah ?_;simp only [sS];refine cG 9 rfl (fun Kc hK=> ?_);go_simp;refine (eQ.out (Th) 4 HU.out.ext HU.out.tape (by decide) (by decide)).mono ?_;rintro e YE ⟨hr,rfl,pE,hT,hx⟩;replace HU:=ae (HU.out.next hT hx);replace HB:=ae (HB.out.but hx xj);have pF:=ae pE;clear pE;clear hT hx;refine hK.out _ _ ((HU.out.unit.cell 12).trans rfl) (trivial) (fun ar ah=> ?_);clear hK Kc;try simp only [sS]
        have q2:IntKind.i64.wrap (1+hr)=1+hr:=by rw [IntKind.wrap_i64];have:=pF.out;omega
        refine av 10 (i64 (1+hr)) rfl ar ah ?_;simp only [sS];refine cG 12 rfl (fun Kc hK=> ?_);have c19:=HU.out.unit.cl 19 (i64 0) rfl;have f19:=HU.out.unit.frozen 19;go_simp;replace HU:Hid (UW V T R X W6.heap.size a c l (⟨aL 117 i,(bu:Int),mn,mx,sa,sc,sg,nl,ru,rd,mn+sr,mn+tr,ut,dt,st,hc,hc+cc,hh,rs,rp,aa,ac,aw,(gB iv),0,0⟩:aF) (YE.setCell ⟨X,19,none⟩ (i64 (gB iv)))):=HU.out.set 19 (i64 (gB iv)) _ rfl ⟨rfl,rfl,rfl,rfl,rfl,rfl⟩;generalize (YE.setCell ⟨X,19,none⟩ (i64 (gB iv)))=YF at*;refine hK.out _ _ ((HU.out.unit.cell 12).trans rfl) (trivial) (fun ar ah=> ?_);clear hK Kc;try simp only [sS]
        clear c19 f19;refine av 13 (.pointer (some ⟨X,20,none⟩)) rfl ar ah ?_;simp only [sS];refine cG 14 rfl (fun Kc hK=> ?_);have c20:=HU.out.unit.cl 20 (i64 0) rfl;have f20:=HU.out.unit.frozen 20;go_simp;replace HU:Hid (UW V T R X W6.heap.size a c l (⟨aL 117 i,(bu:Int),mn,mx,sa,sc,sg,nl,ru,rd,mn+sr,mn+tr,ut,dt,st,hc,hc+cc,hh,rs,rp,aa,ac,aw,(gB iv),(1+hr),0⟩:aF) (YF.setCell ⟨X,20,none⟩ (i64 (1+hr)))):=HU.out.set 20 (i64 (1+hr)) _ rfl ⟨rfl,rfl,rfl,rfl,rfl,rfl⟩;generalize (YF.setCell ⟨X,20,none⟩ (i64 (1+hr)))=W42 at*;refine hK.out _ _ ((HU.out.unit.cell 12).trans rfl) (trivial) (fun ar ah=> ?_);clear hK Kc;try simp only [sS]
        clear c20 f20;refine ax (by kernel_rfl) ?_ _;clear ar ah;go_wp2_with fail
        go_meet
        exact ⟨iv,hr,by have:=OB.out;omega,pF.out,HU.out⟩
       ·go_simp
        refine (eQ.out (Th) 4 HU.out.ext HU.out.tape (by decide) (by decide)).mono ?_;rintro e Vz ⟨hr,rfl,pE,hT,hx⟩;replace HU:=ae (HU.out.next hT hx);replace HB:=ae (HB.out.but hx xj);have pF:=ae pE;clear pE;clear hT hx;refine hK.out _ _ ((HU.out.unit.cell 12).trans rfl) (trivial) (fun ar ah=> ?_);clear hK Kc;try simp only [sS]
        have q2:IntKind.i64.wrap (1+hr)=1+hr:=by rw [IntKind.wrap_i64];have:=pF.out;omega
        refine av 10 (i64 (1+hr)) rfl ar ah ?_;simp only [sS];refine cG 7 rfl (fun Kc hK=> ?_);have cB:(Vz).cell? ⟨B,iv,none⟩=some (i64 (gB iv)):=kQ HB.out (by omega);go_simp;refine hK.out _ _ ((HU.out.unit.cell 12).trans rfl) (trivial) (fun ar ah=> ?_);clear hK Kc;try simp only [sS]
        clear cB;refine av 11 (.pointer (some ⟨X,19,none⟩)) rfl ar ah ?_;simp only [sS];refine cG 12 rfl (fun Kc hK=> ?_);have c19:=HU.out.unit.cl 19 (i64 0) rfl;have f19:=HU.out.unit.frozen 19;go_simp;replace HU:Hid (UW V T R X W6.heap.size a c l (⟨aL 117 i,(bu:Int),mn,mx,sa,sc,sg,nl,ru,rd,mn+sr,mn+tr,ut,dt,st,hc,hc+cc,hh,rs,rp,aa,ac,aw,(gB iv),0,0⟩:aF) (Vz.setCell ⟨X,19,none⟩ (i64 (gB iv)))):=HU.out.set 19 (i64 (gB iv)) _ rfl ⟨rfl,rfl,rfl,rfl,rfl,rfl⟩;generalize (Vz.setCell ⟨X,19,none⟩ (i64 (gB iv)))=YG at*;refine hK.out _ _ ((HU.out.unit.cell 12).trans rfl) (trivial) (fun ar ah=> ?_);clear hK Kc;try simp only [sS]
        clear c19 f19;refine av 13 (.pointer (some ⟨X,20,none⟩)) rfl ar ah ?_;simp only [sS];refine cG 14 rfl (fun Kc hK=> ?_);have c20:=HU.out.unit.cl 20 (i64 0) rfl;have f20:=HU.out.unit.frozen 20;go_simp;replace HU:Hid (UW V T R X W6.heap.size a c l (⟨aL 117 i,(bu:Int),mn,mx,sa,sc,sg,nl,ru,rd,mn+sr,mn+tr,ut,dt,st,hc,hc+cc,hh,rs,rp,aa,ac,aw,(gB iv),(1+hr),0⟩:aF) (YG.setCell ⟨X,20,none⟩ (i64 (1+hr)))):=HU.out.set 20 (i64 (1+hr)) _ rfl ⟨rfl,rfl,rfl,rfl,rfl,rfl⟩;generalize (YG.setCell ⟨X,20,none⟩ (i64 (1+hr)))=W45 at*;refine hK.out _ _ ((HU.out.unit.cell 12).trans rfl) (trivial) (fun ar ah=> ?_);clear hK Kc;try simp only [sS]
        clear c20 f20;refine ax (by kernel_rfl) ?_ _;clear ar ah;go_wp2_with fail
        go_meet
        exact ⟨iv,hr,by have:=OB.out;omega,pF.out,HU.out⟩
      ·go_simp
       refine (eQ.out (Tg) 4 HU.out.ext HU.out.tape (by decide) (by decide)).mono ?_;rintro e VA ⟨hr,rfl,pE,hT,hx⟩;replace HU:=ae (HU.out.next hT hx);have pF:=ae pE;clear pE;clear hT hx;refine hK.out _ _ ((HU.out.unit.cell 12).trans rfl) (trivial) (fun ar ah=> ?_);clear hK Kc;try simp only [sS]
       have q2:IntKind.i64.wrap (1+hr)=1+hr:=by rw [IntKind.wrap_i64];have:=pF.out;omega
       refine av 10 (i64 (1+hr)) rfl ar ah ?_;simp only [sS];refine cG 0 rfl (fun Kc hK=> ?_);go_simp;obtain ⟨Ti,pD,xa,-,AA⟩:=aB (VA) 3 [i64 0,i64 2,i64 1];rw [show(VA).alloc (.cells #[i64 0,i64 2,i64 1] 3)=Ti from pD.symm];obtain ⟨B,hB⟩: ∃B,B=(VA).heap.size:=⟨_,rfl⟩;rw [←hB]at AA⊢;have xj:B≠T:=by have:=HU.out.tape.lt;omega
       have HB:=ae AA;replace HU:=ae (HU.out.next (HU.out.tape.ext xa) (xa.but T));clear pD xa AA hB;refine hK.out _ _ ((HU.out.unit.cell 12).trans rfl) (trivial) (fun ar ah=> ?_);clear hK Kc;try simp only [sS]
       refine av 6 (.pointer (some ⟨B,iv,none⟩)) rfl ar ah ?_;simp only [sS];refine cG 7 rfl (fun Kc hK=> ?_);have cB:(Ti).cell? ⟨B,iv,none⟩=some (i64 (gB iv)):=kQ HB.out (by omega);go_simp;refine hK.out _ _ ((HU.out.unit.cell 12).trans rfl) (trivial) (fun ar ah=> ?_);clear hK Kc;try simp only [sS]
       clear cB;refine av 11 (.pointer (some ⟨X,19,none⟩)) rfl ar ah ?_;simp only [sS];refine cG 12 rfl (fun Kc hK=> ?_);have c19:=HU.out.unit.cl 19 (i64 0) rfl;have f19:=HU.out.unit.frozen 19;go_simp;replace HU:Hid (UW V T R X W6.heap.size a c l (⟨aL 117 i,(bu:Int),mn,mx,sa,sc,sg,nl,ru,rd,mn+sr,mn+tr,ut,dt,st,hc,hc+cc,hh,rs,rp,aa,ac,aw,(gB iv),0,0⟩:aF) (Ti.setCell ⟨X,19,none⟩ (i64 (gB iv)))):=HU.out.set 19 (i64 (gB iv)) _ rfl ⟨rfl,rfl,rfl,rfl,rfl,rfl⟩;generalize (Ti.setCell ⟨X,19,none⟩ (i64 (gB iv)))=YH at*;refine hK.out _ _ ((HU.out.unit.cell 12).trans rfl) (trivial) (fun ar ah=> ?_);clear hK Kc;try simp only [sS]
       clear c19 f19;refine av 13 (.pointer (some ⟨X,20,none⟩)) rfl ar ah ?_;simp only [sS];refine cG 14 rfl (fun Kc hK=> ?_);have c20:=HU.out.unit.cl 20 (i64 0) rfl;have f20:=HU.out.unit.frozen 20;go_simp;replace HU:Hid (UW V T R X W6.heap.size a c l (⟨aL 117 i,(bu:Int),mn,mx,sa,sc,sg,nl,ru,rd,mn+sr,mn+tr,ut,dt,st,hc,hc+cc,hh,rs,rp,aa,ac,aw,(gB iv),(1+hr),0⟩:aF) (YH.setCell ⟨X,20,none⟩ (i64 (1+hr)))):=HU.out.set 20 (i64 (1+hr)) _ rfl ⟨rfl,rfl,rfl,rfl,rfl,rfl⟩;generalize (YH.setCell ⟨X,20,none⟩ (i64 (1+hr)))=W49 at*;refine hK.out _ _ ((HU.out.unit.cell 12).trans rfl) (trivial) (fun ar ah=> ?_);clear hK Kc;try simp only [sS]
       clear c20 f20;refine ax (by kernel_rfl) ?_ _;clear ar ah;go_wp2_with fail
       go_meet
       exact ⟨iv,hr,by have:=OB.out;omega,pF.out,HU.out⟩
   case rest=>
    obtain ⟨iv,hr,Q5,YI,hU⟩:=hcut;generalize wc=WR at*;clear HU;have HH:=ae YI;have h3:iv=0∨iv=1∨iv=2:=by have:=HST.out.2;omega
    clear YI q1;obtain ⟨sv,K_⟩: ∃sv,sv=gB iv:=⟨_,rfl⟩;rw [←K_]at hU
    have Tj:Hid (sv=0∨sv=2∨(sv=1∧st=1)):=by
     have h5:=GZ.out;show _∨_;rcases h3 with rfl|rfl|rfl
     ·exact Or.inl K_
     ·exact Or.inr (Or.inl K_)
     ·exact Or.inr (Or.inr ⟨K_,by omega⟩)
    have HU:=ae hU;have c19:=HU.out.unit.cl 19 (i64 sv) rfl;clear hU K_ h3 Q5;go_upto_if 133 with fail
    clear c19;go_cut [] (fun wx=> ∃hz:Int,(1≤hz∧hz≤4∧(sv=1→hz=1))∧UW V T R X W6.heap.size a c l (⟨aL 117 i,(bu:Int),mn,mx,sa,sc,sg,nl,ru,rd,mn+sr,mn+tr,ut,dt,st,hc,hc+cc,hh,rs,rp,aa,ac,aw,sv,hz,0⟩:aF) wx)
    case first=>
     as_aux_lemma=>
      rcases Bool.eq_false_or_eq_true (sv==1)with h1|h1
      ·have c20:=HU.out.unit.cl 20 (i64 (1+hr)) rfl
       have f20:=HU.out.unit.frozen 20;have Am:Hid (UW V T R X W6.heap.size a c l (⟨aL 117 i,(bu:Int),mn,mx,sa,sc,sg,nl,ru,rd,mn+sr,mn+tr,ut,dt,st,hc,hc+cc,hh,rs,rp,aa,ac,aw,sv,1,0⟩:aF) (WR.setCell ⟨X,20,none⟩ (i64 1))):=HU.out.set 20 (i64 1) _ rfl ⟨rfl,rfl,rfl,rfl,rfl,rfl⟩;go_wp2_with fail
       go_meet
       exact ⟨1,⟨by decide,by decide,fun _=>rfl⟩,Am.out⟩
      ·go_wp2_with fail
       go_meet
       exact ⟨1+hr,⟨by have:=HH.out;omega,by have:=HH.out;omega,fun h=>(by rw [h]at h1;cases h1)⟩,HU.out⟩
    case rest=>
     obtain ⟨hz,YJ,hU⟩:=hcut;generalize wc=WS at*;clear HU HH;have HH:=ae YJ;have HU:=ae hU;have c19:=HU.out.unit.cl 19 (i64 sv) rfl;clear hU YJ;go_upto_if 137 with fail
     clear c19;go_cut [] (fun wx=> ∃oo:Int,((sv=2→mn≤oo∧oo≤mx)∧(sv≠2→oo=0))∧UW V T R X W6.heap.size a c l (⟨aL 117 i,(bu:Int),mn,mx,sa,sc,sg,nl,ru,rd,mn+sr,mn+tr,ut,dt,st,hc,hc+cc,hh,rs,rp,aa,ac,aw,sv,hz,oo⟩:aF) wx)
     case first=>
      as_aux_lemma=>
       rcases Bool.eq_false_or_eq_true (sv==2)with h1|h1
       ·go_upto_region 21 with fail
        have q1:IntKind.i64.wrap (mx-mn)=mx-mn:=by rw [IntKind.wrap_i64];have:=GY.out;omega
        have q2:IntKind.i64.wrap (mx-mn+1)=mx-mn+1:=by rw [IntKind.wrap_i64];have:=GY.out;omega
        refine ay (fun w'=>w'.cell? ⟨X,2,none⟩=some (i64 mn)∧w'.cell? ⟨X,3,none⟩=some (i64 mx)) (fun w'=>True) (fun i=>false) (by kernel_rfl) (⟨(HU.out.unit.cell 2).trans rfl,(HU.out.unit.cell 3).trans rfl⟩) (trivial) (fun ar ah=> ?_);refine av 0 (.pointer (some ⟨X,2,none⟩)) rfl ar ah ?_;simp only [sS];refine av 1 (i64 mn) rfl ar ah ?_;simp only [sS];refine av 2 (.pointer (some ⟨T,0,none⟩)) rfl ar ah ?_;simp only [sS];refine av 3 (.pointer (some ⟨X,3,none⟩)) rfl ar ah ?_;simp only [sS];refine av 4 (i64 mx) rfl ar ah ?_;simp only [sS];refine av 5 (.pointer (some ⟨X,2,none⟩)) rfl ar ah ?_;simp only [sS];refine av 6 (i64 mn) rfl ar ah ?_;simp only [sS];refine av 7 (i64 (mx-mn)) rfl ar ah ?_;simp only [sS];refine av 8 (i64 (mx-mn+1)) rfl ar ah ?_;simp only [sS];replace HU:=ae (HU.out.drew);refine cG 9 rfl (fun Kc hK=> ?_);go_simp;refine (eQ.out WS.drew (mx-mn+1) HU.out.ext HU.out.tape OA.out.1 (by have:=OA.out.2;omega)).mono ?_;rintro e YK ⟨ou,rfl,Q6,hT,hx⟩;replace HU:=ae (HU.out.next hT hx);clear hT hx;have Q7:=ae Q6;clear Q6;refine hK.out _ _ (⟨(HU.out.unit.cell 2).trans rfl,(HU.out.unit.cell 3).trans rfl⟩) (trivial) (fun ar ah=> ?_);clear hK Kc;try simp only [sS]
        have q3:IntKind.i64.wrap (mn+ou)=mn+ou:=by rw [IntKind.wrap_i64];have:=GY.out;have:=Q7.out;omega
        refine av 10 (i64 (mn+ou)) rfl ar ah ?_;simp only [sS];refine av 11 (.pointer (some ⟨X,21,none⟩)) rfl ar ah ?_;simp only [sS];have mE:=HU.out.unit.cl 21 (i64 0) rfl;have f21:=HU.out.unit.frozen 21;refine cG 12 rfl (fun Kc hK=> ?_);go_simp;replace HU:Hid (UW V T R X W6.heap.size a c l (⟨aL 117 i,(bu:Int),mn,mx,sa,sc,sg,nl,ru,rd,mn+sr,mn+tr,ut,dt,st,hc,hc+cc,hh,rs,rp,aa,ac,aw,sv,hz,(mn+ou)⟩:aF) (YK.setCell ⟨X,21,none⟩ (i64 (mn+ou)))):=HU.out.set 21 (i64 (mn+ou)) _ rfl ⟨rfl,rfl,rfl,rfl,rfl,rfl⟩;generalize (YK.setCell ⟨X,21,none⟩ (i64 (mn+ou)))=W51 at*;refine hK.out _ _ (⟨(HU.out.unit.cell 2).trans rfl,(HU.out.unit.cell 3).trans rfl⟩) (trivial) (fun ar ah=> ?_);clear hK Kc;try simp only [sS]
        clear mE f21;refine ax (by kernel_rfl) ?_ _;clear ar ah q1 q2 q3;go_wp2_with fail
        go_meet
        exact ⟨mn+ou,⟨fun _=>(by have:=Q7.out;omega),fun h=>absurd (by simpa using h1) h⟩,HU.out⟩
       ·go_wp2_with fail
        go_meet
        exact ⟨0,⟨fun h=>(by rw [h]at h1;cases h1),fun _=>rfl⟩,HU.out⟩
     case rest=>
      obtain ⟨oo,YL,hU⟩:=hcut;generalize wc=WT at*;clear HU;have HOO:=ae YL;have HU:=ae hU;clear hU YL;go_upto_region 22 with fail
      as_aux_lemma=>
       obtain ⟨xf,M9⟩: ∃xf,xf=(⟨aL 117 i,(bu:Int),mn,mx,sa,sc,sg,nl,ru,rd,mn+sr,mn+tr,ut,dt,st,hc,hc+cc,hh,rs,rp,aa,ac,aw,sv,hz,oo⟩:aF):=⟨_,rfl⟩
       have HF:Hid (qz xf i bu hours∧xf.aa=aa∧xf.aI=sg):=by
        have VB: ∀g∈sg,1≤g.width∧g.width≤15∧ -2≤g.aX∧g.aX≤40:=fun g hg=>by
             have h1:=vU.out.EP g hg;have h2:=vU.out.aX;have h3:=EU.out;have h4:=QB.out;omega
        have h1:=EU.out;have h2:=QB.out;have h3:=GY.out;have h4:=Vo.out;have h5:=QA.out;have h6:=QJ.out;have h7:=QL.out;have h8:=HH.out;have h9:=GZ.out
        rw [M9];exact ⟨{name:=rfl,cX:=rfl,min:=by simp only;omega,JQ:=by simp only;omega,EP:=VB,wU:=vU.out.wU,max:=h4,cg:=Vf.out,cj:=Vp.out,a_:=Vq.out,aW:=by simp only;omega,bf:=by simp only;omega,bQ:=Vr.out,bg:=Vs.out,startTime:=GZ.out,bA:=M7.out,bh:=by have:=M7.out;have:=QR.out;simp only;omega,bj:=Vt.out,az:=Vu.out,aJ:=Vv.out,MV:=QZ.out.1,away:=QZ.out.2.1,state:=Tj.out,hours:=HH.out,output:=HOO.out},rfl,rfl⟩
       rw [←M9]at HU;clear M9;have xk: ∀j v,xf.cells[j]?=some v→WT.cell? ((⟨X,0,none⟩:Addr).add j)=some v:=fun j v hj=>by rw [dP,HU.out.unit.cell j];exact hj
       go_wp2_with (first|(refine aQ rfl 67 _ rfl ⟨X,0,none⟩ rfl xf.cells _ xk rfl rfl rfl ?_)|(refine bF rfl 67 _ _ rfl R jb.cells xf.cells HU.out.res rfl rfl (by kernel_rfl) rfl rfl ?_;intro xh jP dO))
       have hRV:=xP.out;have uS:=ae (HU.out.ext.over dO hRV);have Bu:=ae (HU.out.tape.but dO (fun e=>pA e.symm))
       have Bv:Hid (aA xh xf.aa xf.ac xf.away):=HU.out.away.fS dO (HU.out.af.ne HU.out.pos.2.2.1);have wI:Hid (bP xh 2 xf.sa xf.sc (xf.aI.map cL.cells)):=HU.out.aI.but dO (HU.out.sf.ne HU.out.pos.2.2.1);have D5:Hid (Fr V.heap.size xf.aa∧Fr V.heap.size xf.sa):=⟨HU.out.af.mono QF.out,HU.out.sf.mono QF.out⟩;exact bodyPost_ret (v:= .agg xf.cells.toArray) (fo 8 _ rfl rfl jP rfl rfl rfl) rfl ⟨xf,bu,rfl,HBU.out,HF.out.1,Bv.out,D5.out.1,wI.out,D5.out.2,Bu.out,uS.out⟩
end Go.Proofs.YtkpngkdgphojlaaGreat
