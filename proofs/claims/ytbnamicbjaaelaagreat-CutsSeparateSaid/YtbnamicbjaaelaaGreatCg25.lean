/- Texts of the proof. -/
import Derived.Test.YtbnamicbjaaelaaGreatCg24
set_option linter.all false
set_option maxHeartbeats 4000000
set_option maxRecDepth 100000
namespace Go.Proofs.YtbnamicbjaaelaaGreat
open Go.Proofs.Tryz
open Go.RowKit
structure uu (x:aP) (i bu:Nat) (hours:Int):Prop where
 name:x.name=aW 117 i
 fE:x.fE=(bu:Int)
 min:0<=x.min/\x.min<=7
 OE:1<=x.aY.length/\x.aY.length<=2
 Kh: ∀g∈x.aY,1<=g.width/\g.width<=15/\ -2<=g.bE/\g.bE<=40
 L1:oW x.aY x.aY.length=true
 max:x.max=x.min+cG x.aY
 fF:0<=x.fF/\x.fF<20
 fG:0<=x.fG/\x.fG<20
 dA:0<=x.dA/\x.dA<20
 cQ:x.min<=x.cQ/\x.cQ<=x.max
 dB:x.min<=x.dB/\x.dB<=x.max
 eK:0<=x.eK/\x.eK<3
 dC:0<=x.dC/\x.dC<3
 startTime:0<=x.startTime/\x.startTime<2
 dX:0<=x.dX/\x.dX<30
 dD:x.dX<=x.dD/\x.dD<60
 dE:0<=x.dE/\x.dE<4
 aX:0<=x.aX/\x.aX<8
 bR:0<=x.bR/\x.bR<4
 R5:x.away.length<=1/\(x.away= []->x.aa=none)
 away: ∀z∈x.away,0<=z/\z<hours
 state:x.state=0\/x.state=2\/(x.state=1/\x.startTime=1)
 hours:1<=x.hours/\x.hours<=4/\(x.state=1->x.hours=1)
 output:(x.state=2->x.min<=x.output/\x.output<=x.max)/\(x.state≠2->x.output=0)
def kp:aP:=⟨{data:= #[]},0,0,0,none,0,[],0,0,0,0,0,0,0,0,0,0,0,0,0,none,0,[],0,0,0⟩
theorem jn {w:World} {base:Nat} {e:TypeId} {s:Nat} {v:Value} {n:Nat} {xs:List Value} (h:w.ownsRow base e s v n xs): ∃a cap,v= .slice a n cap:=by
 rcases h.2 with⟨rfl,rfl⟩|⟨g,cap,cur,rfl,_,_,_,hc,_⟩
 .exact ⟨none,0,rfl⟩
 .exact ⟨_,_,rfl⟩
def iO:Nat->Int
 |0=>0
 |1=>2
 |_=>1
theorem mS {w:World} {B iv:Nat} (h:aT w B 3 [i64 0,i64 2,i64 1]) (hi:iv<3):w.cell? ⟨B,iv,none⟩=some (i64 (iO iv)):=by
 rw [h.cell iv];match iv,hi with
 |0,_=>rfl
 |1,_=>rfl
 |2,_=>rfl
theorem fj (R j:Nat):(⟨R,0,none⟩:Addr).add j=⟨R,j,none⟩:=by
 by_cases h:j=0
 .subst h;simp [Addr.add]
 .simp [Addr.add,h]
theorem jo {P:Program} {fn:Func} {tmps:Array Value} {w:World} {R:Nat} {ty:TypeId} {cs:List Value} (k:Nat) (d:TypeDesc) (hres:fn.results= #[.cell k ty]) (ht:tmps.getD k undef= .pointer (some ⟨R,0,none⟩)) (hA:aT w R ty cs)
 (hu:P.underlying ty=some d) (hd:(match d with| .struct _| .array _ _=>true|_=>false)=true) (hi:(P.info? ty).map (·.size)=some cs.length):(results fn tmps).run P w= .ok (.agg cs.toArray) w:=by
 have h:=f_ (P:=P) w ⟨R,0,none⟩ ty cs d (λj v hj=>by rw [fj,hA.cell j];exact hj) hu hd hi;simp only [results,hres];simp only [Array.getD_eq_getD_getElem?]at ht;simp [ht,asAddr,h]
def jy (l:List dy):List (List Value):=l.map dy.cells
theorem BR (l:List dy) (g:dy):jy (l++ [g])=jy l++ [[i64 g.width,i64 g.bE]]:=by simp [jy,dy.cells]
theorem lC (l:List dy):(jy l).length=l.length:=by simp [jy]
theorem Tryz.info_seg:(Tryz.prog.info? 110).map (λi=>(i.zero,i.size,i.bytes))=some (some (.agg #[i64 0,i64 0]),2,16):=ax
structure Ae (l:List dy) (bE:Int):Prop where
 Kh: ∀g∈l,1<=g.width/\g.width<=15/\ -2<=g.bE/\g.bE<=40/\g.bE<=bE
 L1:oW l l.length=true
 bE: -2<=bE/\bE<=20+10*l.length
theorem DR (l:List dy) (g:dy):cG (l++ [g])=cG l+g.width:=by unfold cG;rw [List.map_append,List.sum_append];simp
theorem Ae.snoc {l:List dy} {bE w d:Int} (h:Ae l bE) (hw:1<=w/\w<=15) (hl:l.length<=1) (hd:0<=d/\d<10):Ae (l++ [⟨w,bE⟩]) (bE+d):=by
 have hp:=h.bE;refine ⟨?_,?_,?_⟩
 .intro g hg
  rcases List.mem_append.1 hg with e|e
  .have:=h.Kh g e;omega
  .rw [List.mem_singleton]at e;subst e;simp only;omega
 .unfold oW
  rw [List.all_eq_true];intro j hj;have EB:=List.mem_range.1 hj;rw [List.length_append]at EB;simp only [List.length_cons,List.length_nil]at EB;by_cases q0:j=0
  .subst q0;rfl
  .have hj1:j=1/\l.length=1:=ae
   obtain ⟨rfl,zn⟩:=hj1
   obtain ⟨g,rfl⟩: ∃g,l= [g]:=by
    match l,zn with
    | [g],_=>exact ⟨g,rfl⟩
   have:=h.Kh g aG;simp [FK];omega
 .rw [List.length_append];simp only [List.length_cons,List.length_nil];omega
theorem sU {l:List dy} {bE:Int} (h:Ae l bE):0<=cG l/\cG l<=15*l.length:=by
 have: ∀m:List dy,(∀g∈m,1<=g.width/\g.width<=15)->0<=cG m/\cG m<=15*m.length:=by
  intro m;induction m with
  |nil=>intro _;simp [cG]
  |cons g m ih=>
   intro hm;have h1:=ih (λx hx=>hm x (List.mem_cons_of_mem _ hx));have h2:=hm g aG;unfold cG at*;rw [List.map_cons,List.sum_cons,List.length_cons];omega
 exact this l (λg hg=>⟨(h.Kh g hg).1,(h.Kh g hg).2.1⟩)
structure UW (V:World) (T R X D:Nat) (a:Option Addr) (c:Nat) (l:List Int) (x:aP) (W:World):Prop where
 tape:bO W T a c l
 unit:aT W X 55 x.cells
 res:aT W R 55 kp.cells
 ext:aB T V W
 size:D<=W.heap.size
 aY:ct W 2 x.sa x.sc (x.aY.map dy.cells)
 sf:Fr D x.sa
 away:aS W x.aa x.ac x.away
 af:Fr D x.aa
 pos:T<D/\X<D/\R<D/\X≠T/\X≠R/\R≠T/\V.heap.size<=X
theorem UW.next {V W W':World} {T R X D:Nat} {a:Option Addr} {c:Nat} {l:List Int} {x:aP} (h:UW V T R X D a c l x W) (hT:bO W' T a c l) (hx:aB T W W'):UW V T R X D a c l x W':=
 ⟨hT,h.unit.but hx h.pos.2.2.2.1,h.res.but hx h.pos.2.2.2.2.2.1,h.ext.trans hx,Nat.le_trans h.size hx.size,h.aY.but hx (h.sf.ne h.pos.1),h.sf,h.away.eH hx (h.af.ne h.pos.1),h.af,h.pos⟩
theorem UW.drew {V W:World} {T R X D:Nat} {a:Option Addr} {c:Nat} {l:List Int} {x:aP} (h:UW V T R X D a c l x W):UW V T R X D a c l x W.drew:=
 h.next (h.tape.ext (Ext.refl W).drew) ((Ext.refl W).drew.but T)
theorem UW.set {V W:World} {T R X D:Nat} {a:Option Addr} {c:Nat} {l:List Int} {x:aP} (h:UW V T R X D a c l x W) (j:Nat) (v:Value) (x':aP) (hc:x'.cells=x.cells.set j v) (hs:x'.sa=x.sa/\x'.sc=x.sc/\x'.aY=x.aY/\x'.aa=x.aa/\x'.ac=x.ac/\x'.away=x.away):UW V T R X D a c l x' (W.setCell ⟨X,j,none⟩ v):=by
 obtain ⟨h1,h2,h3,h4,h5,h6⟩:=hs;have hx:=((aB.refl X W).ez (o:=j) (v:=v));refine ⟨h.tape.but hx h.pos.2.2.2.1.symm,by rw [hc];exact h.unit.set j v,h.res.but hx h.pos.2.2.2.2.1.symm,h.ext.setCell (p:=⟨X,j,none⟩) h.pos.2.2.2.2.2.2 _,Nat.le_trans h.size hx.size,?_,by rw [h1];exact h.sf,?_,by rw [h4];exact h.af,h.pos⟩
 .rw [h1,h2,h3];exact h.aY.but hx (h.sf.ne h.pos.2.1)
 .rw [h4,h5,h6];exact h.away.eH hx (h.af.ne h.pos.2.1)
theorem OG (w0 V:World) (T:Nat) (a:Option Addr) (c:Nat) (l:List Int) (i nb:Nat) (hours:Int) (hK:w0.heap.size<=T) (hV:Ext w0 V) (hl:aS w0 a c l) (hT:bO V T a c l) (hi:i<16) (Tf:0<nb) (VF:nb<1000) (hh:0<hours) (YT:hours<1000):
 Calls prog 25 #[.pointer (some ⟨T,0,none⟩),.int .i64 (i:Int),.int .i64 (nb:Int),i64 hours] V λe w'=> ∃(x:aP) (bu:Nat),e= .returned (.agg x.cells.toArray)/\bu<nb/\uu x i bu hours/\aS w' x.aa x.ac x.away/\Fr V.heap.size x.aa/\ct w' 2 x.sa x.sc (x.aY.map dy.cells)/\Fr V.heap.size x.sa/\mh V T a c l w':=by
 have gl:=ah (fY.of w0 V T a c l hK hV hl);have R6:=ah (λU (hx:aB T V U) (hU:bO U T a c l)=>Hh w0 U T a c l hours hK (hx.ext hV hK) hl hU hh ae);have FC:=ah (λU=>wu U 117 i hi);have HT:=ah hT;have KH:=ah hT.lt;have jC:=ah (And.intro Tf VF);clear hK hV hl hT hi hh YT Tf VF;go_enter func25,ntmps25
 go_upto_region 1 with fail
 obtain ⟨W0,hW,x0,Z0,A0⟩:=aV V 55 kp.cells;rw [show V.alloc (.cells #[.string {data:= #[]},i64 0,i64 0,i64 0,.slice none 0 0,i64 0,i64 0,i64 0,i64 0,i64 0,i64 0,i64 0,i64 0,i64 0,i64 0,i64 0,i64 0,i64 0,.slice none 0 0,i64 0,i64 0,i64 0] 55)=W0 from hW.symm];obtain ⟨R,hR⟩: ∃R,R=V.heap.size:=⟨_,rfl⟩;rw [<-hR]at A0⊢;have sO:R≠T:=bA KH.o;have GR:Hid (V.heap.size<=R):=by show _<=_;omega
 have HR:=ah A0;have HX:=ah (x0.but T);have HT:=ah (HT.o.ext x0)
 clear hW Z0 A0 hR x0;go_wp2_with fail
 refine (FC.o W0).mono ?_;rintro e w1 ⟨rfl,eL⟩;rw [eL];clear eL
 go_wp2_with fail
 refine (gl.o W0 (nb:Int) HX.o HT.o (bA jC.o.1) (bA jC.o.2)).mono ?_;rintro e W1 ⟨bz,rfl,abl,hT,hx⟩;have HX:=ah (HX.o.trans hx);have HT:=ah hT;have HR:=ah (HR.o.but hx sO)
 clear hT hx;obtain ⟨bu,VG⟩: ∃bu:Nat,bz=(bu:Int):=⟨bz.toNat,ae⟩;subst VG;have HBU:Hid (bu<nb):=by show _<_;omega
 clear abl;go_wp2_with fail
 refine (gl.o W1 8 HX.o HT.o aq aq).mono ?_;rintro e W2 ⟨mn,rfl,VH,hT,hx⟩;have HX:=ah (HX.o.trans hx);have HT:=ah hT;have HR:=ah (HR.o.but hx sO)
 clear hT hx;go_wp2_with fail
 refine (gl.o W2 20 HX.o HT.o aq aq).mono ?_;rintro e W3 ⟨nl,rfl,VI,hT,hx⟩;have HX:=ah (HX.o.trans hx);have HT:=ah hT;have HR:=ah (HR.o.but hx sO)
 clear hT hx;go_upto_region 2 with(refine bP rfl 55 _ _ rfl kp.cells (⟨aW 117 i,(bu:Int),mn,0,none,0,[],nl,0,0,0,0,0,0,0,0,0,0,0,0,none,0,[],0,0,0⟩:aP).cells rfl rfl ax rfl rfl ?_)
 obtain ⟨WX,Hk,xx,ZX,AX⟩:=aV W3 55 (⟨aW 117 i,(bu:Int),mn,0,none,0,[],nl,0,0,0,0,0,0,0,0,0,0,0,0,none,0,[],0,0,0⟩:aP).cells;rw [<-Hk];obtain ⟨X,Nu⟩: ∃X,X=W3.heap.size:=⟨_,rfl⟩;rw [<-Nu]at AX⊢;have qP:X≠T:=bA HT.o.lt;have Hj:X≠R:=bA HR.o.lt;have GQ:Hid (V.heap.size<=X):=by show _<=_;rw [Nu];exact HX.o.size
 have HA:=ah AX;have HX:=ah (HX.o.trans (xx.but T));have HT:=ah (HT.o.ext xx);have HR:=ah (HR.o.ext xx)
 clear Hk Nu ZX AX xx FC;have VJ:=ah VH;clear VH;have abm:=ah VI;clear VI;have c2:=HA.o.cl 2 (i64 mn) rfl;have c3:=HA.o.cl 3 (i64 0) rfl;have f3:=HA.o.frozen 3;have vG:Hid (aT (WX.setCell ⟨X,3,none⟩ (i64 mn)) X 55 (⟨aW 117 i,(bu:Int),mn,mn,none,0,[],nl,0,0,0,0,0,0,0,0,0,0,0,0,none,0,[],0,0,0⟩:aP).cells):=(HA.o).set 3 (i64 mn)
 have lX:Hid (bO (WX.setCell ⟨X,3,none⟩ (i64 mn)) T a c l):=by
  obtain ⟨j,hj,hA⟩:=HT.o;exact ⟨j,hj,(hA).other _ _ qP⟩
 have eR:Hid (aB T V (WX.setCell ⟨X,3,none⟩ (i64 mn))):=(HX.o).setCell (p:=⟨X,3,none⟩) GQ.o _;have nk:Hid (aT (WX.setCell ⟨X,3,none⟩ (i64 mn)) R 55 kp.cells):=(HR.o).other _ _ Hj;clear HA HT HX HR;go_upto_region 3 with fail
 generalize (WX.setCell ⟨X,3,none⟩ (i64 mn))=W4 at*;have HA:=vG;have HT:=lX;have HX:=eR;have HR:=nk
 clear vG lX eR nk c2 c3 f3;go_wp2_with fail
 refine (gl.o W4 20 HX.o HT.o aq aq).mono ?_;rintro e W5 ⟨pr,rfl,abn,hT,hx⟩;have HX:=ah (HX.o.trans hx);have HT:=ah hT;have HR:=ah (HR.o.but hx sO);have HA:=ah (HA.o.but hx qP)
 clear hT hx;have q1:IntKind.i64.wrap (pr-2)=pr-2:=dW;obtain ⟨p0,Yv⟩: ∃p0,p0=pr-2:=⟨_,rfl⟩;have HP0:Hid (-2<=p0/\p0<=17):=by show _/\_;omega
 go_wp2_with fail
 refine (gl.o W5 2 HX.o HT.o aq aq).mono ?_;rintro e W6 ⟨nn,rfl,abo,hT,hx⟩;have HX:=ah (HX.o.trans hx);have HT:=ah hT;have HR:=ah (HR.o.but hx sO);have HA:=ah (HA.o.but hx qP)
 clear hT hx;have q2:IntKind.i64.wrap (1+nn)=1+nn:=dW;obtain ⟨nr,hnr⟩: ∃nr:Nat,1+nn=(nr:Int):=⟨(1+nn).toNat,ae⟩;have VK:Hid (1<=nr/\nr<=2):=by show _/\_;omega
 go_wp2_with fail
 rw [<-Yv];clear q1 q2 Yv hnr abn abo;have Za:=VJ;have yy:Hid (T<W6.heap.size):=HT.o.lt;have VL:Hid (X<W6.heap.size):=HA.o.lt;have HRD:Hid (R<W6.heap.size):=HR.o.lt;have Tu:Hid (V.heap.size<=W6.heap.size):=HX.o.size;go_loopw [10,11] (λpv nv wr=> ∃(k:Nat) (sg:List dy) (sa:Option Addr) (sc:Nat) (bE:Int),k<=nr/\sg.length=k/\Ae sg bE/\aL wr W6.heap.size 110 2 (.slice sa sg.length sc) (jy sg)/\aT wr X 55 (⟨aW 117 i,(bu:Int),mn,mn+cG sg,sa,sc,sg,nl,0,0,0,0,0,0,0,0,0,0,0,0,none,0,[],0,0,0⟩:aP).cells/\bO wr T a c l/\aB T V wr/\aT wr R 55 kp.cells/\W6.heap.size<=wr.heap.size/\pv= .int .i64 bE/\nv= .int .i64 ((nr-k:Nat):Int)) (λ_ nv _=>(intOf nv).toNat)
 case atStart=>exact ⟨0,[],none,0,p0,aZ,rfl,⟨λg hg=>absurd hg aG,rfl,by have:=HP0.o;simp only [List.length_nil];omega⟩,aL.nil _ _ _ _,by simpa [cG]using HA.o,HT.o,HX.o,HR.o,bY,rfl,rfl⟩
 case round=>
  obtain ⟨k,sg,sa,sc,bE,hk,Ch,hsm,hown,hA,hT,hX,hR,hD,rfl,rfl⟩:=hrel;clear HA HT HX HR;have HA:=ah hA;have HT:=ah hT;have HX:=ah hX;have HR:=ah hR;have HO:=ah hown;have HD:=ah hD;have CZ:=ah hsm;have Kl:=ah Ch
  clear hA hT hX hR hown hD hsm Ch;by_cases hlt:k<nr
  .as_aux_lemma=>
   have b0:(0:Int)<((nr-k:Nat):Int):=ae;have zI:k<=1:=bA VK.o;go_wp2_with fail
   refine (gl.o wr 15 HX.o HT.o aq aq).mono ?_;rintro e W7 ⟨wd,rfl,abq,hT,hx⟩;have Md:=hx;have Hl:=hx.size
   have HX:=ah (HX.o.trans hx);have HT:=ah hT;have HR:=ah (HR.o.but hx sO);have HA:=ah (HA.o.but hx qP)
   clear hT hx;have q1:IntKind.i64.wrap (1+wd)=1+wd:=dW;obtain ⟨w1,eL⟩: ∃w1,w1=1+wd:=⟨_,rfl⟩;have Ta:Hid (1<=w1/\w1<=15):=by show _/\_;omega
   go_upto_region 8 with fail
   rw [<-eL];clear q1 eL abq;obtain ⟨WB,hWB,xb,ZB,AB⟩:=aV W7 110 [i64 w1,i64 bE];rw [show W7.alloc (.cells #[i64 w1,i64 bE] 110)=WB from hWB.symm];obtain ⟨B,VM⟩: ∃B,B=W7.heap.size:=⟨_,rfl⟩;rw [<-VM]at AB⊢;have zb:B≠T:=bA HT.o.lt;have R7:B≠X:=bA HA.o.lt;have hBR:B≠R:=bA HR.o.lt;have Zb:Hid (V.heap.size<=B):=by show _<=_;rw [VM];exact HX.o.size
   have hDB:W6.heap.size<=B:=by rw [VM];exact Nat.le_trans HD.o Hl
   have Tz:=ah (HO.o.but Md yy.o);have HO:Hid (aL WB W6.heap.size 110 2 (.slice sa sg.length sc) (jy sg)):=Tz.o.ext xb;have R8:=Tz.o.own.lt;rw [<-VM]at R8;have U':=ah R8;have HA:=ah (HA.o.ext xb);have HX:=ah (HX.o.trans (xb.but T));have HT:=ah (HT.o.ext xb);have HR:=ah (HR.o.ext xb);have HB:=ah AB
   clear hWB VM ZB AB xb Hl Md R8 Tz;obtain ⟨mx,hmx⟩: ∃mx,mx=mn+cG sg:=⟨_,rfl⟩
   have Me:Hid (0<=mx/\mx<=30):=by
    show _/\_;have h1:=Za.o;have h2:=sU CZ.o;have h3:=Kl.o
    omega
   have abr:=ah hmx;rw [<-hmx]at HA;clear hmx;have c0:=HB.o.cl 0 (i64 w1) rfl;have c1:=HB.o.cl 1 (i64 bE) rfl;have c4:=HA.o.cl 4 (.slice sa sg.length sc) rfl
   have HOW:Hid (WB.ownsRow W6.heap.size 110 2 (.slice sa sg.length sc) sg.length (jy sg).flatten):=by
    have h5:=HO.o.own;rw [lC]at h5;exact h5
   have abt:W6.heap.size<=WB.heap.size:=bA HB.o.lt;obtain ⟨EG,R9⟩: ∃EG,EG=sg++ [(⟨w1,bE⟩:dy)]:=⟨_,rfl⟩;have Tr:Hid (sg.length+1=EG.length):=by show _=_;rw [R9,List.length_append];rfl
   have R_:=ah R9;clear R9
   go_wp2_with (
    at_builtin
    refine bC _ rfl _ _ 53 rfl W6.heap.size 110 (.agg #[i64 0,i64 0]) 2 16 underlying53 Tryz.info_seg rfl aq (.slice sa sg.length sc) sg.length (jy sg).flatten rfl ?c1 (some ⟨WB.heap.size,0,none⟩) 1 1 [i64 w1,i64 bE] rfl rfl ?c2 ?c3 ?c4 ?c5 aq ?c6 ?_
    case c1=>exact bZ HOW.o (ar.alloc _)
    case c2=>exact λ_=>⟨_,rfl,dH WB 110 [i64 w1,i64 bE]⟩
    case c3=>intro u hu;rcases List.mem_cons.1 hu with e|hu;·subst e;rfl
             rw [List.mem_singleton]at hu;subst hu;rfl
    case c4=>intro e;cases e
    case c5=>have:=Kl.o;omega
    case c6=>simp;omega
    intro v1 w5 ho he hb hz hv;obtain ⟨EH,EI,rfl⟩:=jn ho.o;have nH:=HOW.o.lt;have Co:(WB.alloc (.cells #[i64 w1,i64 bE] 110)).heap.size=WB.heap.size+1:=aG
    have TC: ∀k,Value.ownBlock (.slice sa sg.length sc)=some k->W6.heap.size<=k/\k<B:=by
     exact U'.o
    have hTl:=HT.o.lt;have hXl:=HA.o.lt;have Vi:=HR.o.lt;have hBl:=HB.o.lt
    have Vu:bO w5 T a c l:=bO.keep (HT.o.ext ((Ext.refl WB).alloc _)) (hb.o T ae (λe=>qj ((nH T e.symm).1) yy.o));have TD:aB T V w5:=aB.append (HX.o.alloc' _) Tu.o (λk e=>(nH k e).1) he.o hb.o hz.o;have hA5:aT w5 X 55 _:=(HA.o.ext ((Ext.refl WB).alloc _)).keep (hb.o X ae (λe=>qj ((nH X e.symm).1) VL.o));have hR5:aT w5 R 55 _:=(HR.o.ext ((Ext.refl WB).alloc _)).keep (hb.o R ae (λe=>qj ((nH R e.symm).1) HRD.o));have VN:aT w5 B 110 [i64 w1,i64 bE]:=(HB.o.ext ((Ext.refl WB).alloc _)).keep (hb.o B ae (λe=>bA ((TC B e.symm).2)));have jl:=HO.o.snoc (w':=w5) (r:= [i64 w1,i64 bE]) rfl (by rw [lC];exact ho.o);have N7:=BR sg ⟨w1,bE⟩;simp only at N7;rw [<-N7,<-R_.o]at jl;rw [Tr.o]at jl⊢;have UD:W6.heap.size<=w5.heap.size:=bA hz.o;clear HA HT HX HR HB HO U';have HA:=ah hA5;have HT:=ah Vu;have HX:=ah TD;have HR:=ah hR5;have HB:=ah VN;have HO:=ah jl;have HZ5:=ah UD
    clear hA5 Vu TD hR5 VN jl N7 hTl hXl Vi hBl TC Co nH ho he hb hz hv HOW UD abt c0 c1 c4;have c4:=HA.o.cl 4 (.slice sa sg.length sc) rfl;have f4:=HA.o.frozen 4)
   go_upto_region 9 with fail
   obtain ⟨W8,Km⟩: ∃W8,W8=w5.setCell ⟨X,4,none⟩ (.slice EH EG.length EI):=⟨_,rfl⟩;rw [<-Km];have vG:Hid (aT W8 X 55 (⟨aW 117 i,(bu:Int),mn,mx,EH,EI,EG,nl,0,0,0,0,0,0,0,0,0,0,0,0,none,0,[],0,0,0⟩:aP).cells):=by rw [Km];exact HA.o.set 4 (.slice EH EG.length EI)
   have lX:Hid (bO W8 T a c l):=by
    rw [Km];obtain ⟨j,hj,hA⟩:=HT.o;exact ⟨j,hj,hA.other _ _ qP⟩
   have eR:Hid (aB T V W8):=by rw [Km];exact HX.o.setCell (p:=⟨X,4,none⟩) GQ.o _
   have nk:Hid (aT W8 R 55 kp.cells):=by rw [Km];exact HR.o.other _ _ Hj
   have ud:Hid (aT W8 B 110 [i64 w1,i64 bE]):=by rw [Km];exact HB.o.other _ _ R7.symm
   have Cp:Hid (aL W8 W6.heap.size 110 2 (.slice EH EG.length EI) (jy EG)):=by rw [Km];exact HO.o.but ((aB.refl X w5).ez) VL.o
   have Zc:Hid (W6.heap.size<=W8.heap.size):=by have:=HZ5.o;have h5:=((aB.refl X w5).ez (o:=4) (v:= .slice EH EG.length EI)).size;rw [<-Km]at h5;show _<=_;omega
   clear HA HT HX HR HB HO HZ5 c4 f4 Km;have HA:=vG;have HT:=lX;have HX:=eR;have HR:=nk;have HB:=ud;have HO:=Cp;have HZ:=Zc
   clear vG lX eR nk ud Cp Zc;have c3:=HA.o.cl 3 (i64 mx) rfl;have c0:=HB.o.cl 0 (i64 w1) rfl;have q1:IntKind.i64.wrap (mx+w1)=mx+w1:=by rw [IntKind.wrap_i64];have:=Me.o;have:=Ta.o;omega
   refine aO (λw'=>True) (λw'=>w'.cell? ⟨X,3,none⟩=some (i64 mx)/\w'.cell? ⟨B,0,none⟩=some (i64 w1)) (λi=>i==10) ax (trivial) (⟨c3,c0⟩) (λaD ai=> ?_);refine aJ 0 aD ai ?_;refine GL 1 aD ai ?_ (v:=i64 mx);refine aJ 2 aD ai ?_;refine GL 3 aD ai ?_ (v:=i64 w1);refine aJ 4 aD ai ?_ (v:=i64 (mx+w1));refine aJ 5 aD ai ?_ (v:=i64 bE);refine aJ 6 aD ai ?_;refine aJ 9 aD ai ?_;refine eI 7 rfl (λKc hK=> ?_);go_simp;refine (gl.o W8.drew 10 (HX.o.trans ((Ext.refl W8).drew.but T)) (HT.o.ext ar.drew) aq aq).mono ?_;rintro e W9 ⟨d,rfl,h_d,hT,hx⟩;refine hK.o _ _ (trivial) (⟨bU (aC (Ext.refl W8).drew c3) hx qP,bU (aC (Ext.refl W8).drew c0) hx zb⟩) (λaD ai=> ?_);clear hK Kc;try simp only [sS]
   have q2:IntKind.i64.wrap (bE+d)=bE+d:=by rw [IntKind.wrap_i64];have:=CZ.o.bE;have:=Kl.o;omega
   refine aJ 8 aD ai ?_ (v:=i64 (bE+d));have Sa:=(HA.o.ext (Ext.refl W8).drew).but hx qP;have f3:=Sa.frozen 3;have e3:W9.cell? ⟨X,3,none⟩=some (i64 mx):=(Sa.cell 3).trans rfl
   refine bH (rs:= [10]) ax aG ?_;refine aQ.late rfl ax (λKc hK=> ?_) aQ.nil;go_simp;refine hK.o _ _ (trivial) (λaD=> ?_);clear hK Kc;try simp only [sS]
   refine wTl 11 aD ?_ (v:=i64 (bE+d));refine aI ax ?_ _;clear aD
   have vG:Hid (aT (W9.setCell ⟨X,3,none⟩ (i64 (mx+w1))) X 55 (⟨aW 117 i,(bu:Int),mn,mn+cG EG,EH,EI,EG,nl,0,0,0,0,0,0,0,0,0,0,0,0,none,0,[],0,0,0⟩:aP).cells):=by
    have h5:=Sa.set 3 (i64 (mx+w1));have h6:mx+w1=mn+cG EG:=by rw [R_.o,DR,abr.o];show _=mn+(cG sg+w1);omega
    rw [h6]at h5⊢;exact h5
   have Vw:=hT;have hX9:=(HX.o.trans ((Ext.refl W8).drew.but T)).trans hx
   have lX:Hid (bO (W9.setCell ⟨X,3,none⟩ (i64 (mx+w1))) T a c l):=by
    obtain ⟨j,hj,hA⟩:=Vw;exact ⟨j,hj,hA.other _ _ qP⟩
   have eR:Hid (aB T V (W9.setCell ⟨X,3,none⟩ (i64 (mx+w1)))):=hX9.setCell (p:=⟨X,3,none⟩) GQ.o _;have nk:Hid (aT (W9.setCell ⟨X,3,none⟩ (i64 (mx+w1))) R 55 kp.cells):=((HR.o.ext (Ext.refl W8).drew).but hx sO).other _ _ Hj;have Cp:Hid (aL (W9.setCell ⟨X,3,none⟩ (i64 (mx+w1))) W6.heap.size 110 2 (.slice EH EG.length EI) (jy EG)):=((HO.o.ext (Ext.refl W8).drew).but hx yy.o).but ((aB.refl X W9).ez) VL.o
   have Zc:Hid (W6.heap.size<=(W9.setCell ⟨X,3,none⟩ (i64 (mx+w1))).heap.size):=by
    have:=HZ.o;have h5:=hx.size;have h6:=((Ext.refl W8).drew).size
    show _<=_;rw [World.size_setCell];omega
   have abu:Hid (Ae EG (bE+d)):=by rw [R_.o];exact CZ.o.snoc Ta.o (by rw [Kl.o];exact zI) h_d
   generalize (W9.setCell ⟨X,3,none⟩ (i64 (mx+w1)))=tD at*;clear HA HT HX HR HB HO HZ Vw hX9 Sa e3 f3 c3 c0 q1 q2 hT hx h_d;have q3:IntKind.i64.wrap (((nr-k:Nat):Int)-1)=((nr-(k+1):Nat):Int):=by rw [IntKind.wrap_i64];have:=VK.o;omega
   go_wp2
   exact ⟨⟨k+1,EG,EH,EI,bE+d,ae,qj Tr.o Kl.o,abu.o,Cp.o,vG.o,lX.o,eR.o,nk.o,Zc.o,rfl,rfl⟩,by show(((nr-(k+1):Nat):Int)).toNat<(((nr-k:Nat):Int)).toNat;omega⟩
  .obtain rfl:k=nr:=ae
   clear hlt hk;rw [Nat.sub_self k,show((0:Nat):Int)=0 from rfl];obtain ⟨mx,hmx⟩: ∃mx,mx=mn+cG sg:=⟨_,rfl⟩
   have Me:Hid (mn<=mx/\mx<=40/\0<=mn):=by
    show _/\_;have h1:=Za.o;have h2:=sU CZ.o;have h3:=Kl.o;have h4:=VK.o
    omega
   have abv:=ah hmx;rw [<-hmx]at HA;clear hmx
   have HU:Hid (UW V T R X W6.heap.size a c l (⟨aW 117 i,(bu:Int),mn,mx,sa,sc,sg,nl,0,0,0,0,0,0,0,0,0,0,0,0,none,0,[],0,0,0⟩:aP) wr):=by
    obtain ⟨ra,rc,xO,yx,Ju⟩:=HO.o.recs aq;rw [lC]at xO;cases xO
    exact ⟨HT.o,HA.o,HR.o,HX.o,HD.o,yx,Ju,aS.nil _,Fr.none _,⟨yy.o,VL.o,HRD.o,qP,Hj,sO,GQ.o⟩⟩
   have VO:=Tu;clear HT HA HR HX HD HO yy VL HRD Tu;go_wp2_with fail
   refine (gl.o wr 20 HU.o.ext HU.o.tape aq aq).mono ?_;rintro e W8 ⟨ru,rfl,VP,hT,hx⟩;replace HU:=ah (HU.o.next hT hx);clear hT hx;have abw:=ah VP;clear VP;go_wp2_with fail
   refine (gl.o W8 20 HU.o.ext HU.o.tape aq aq).mono ?_;rintro e W9 ⟨rd,rfl,VQ,hT,hx⟩;replace HU:=ah (HU.o.next hT hx);clear hT hx;have abx:=ah VQ;clear VQ;have c6:=HU.o.unit.cl 6 (i64 0) rfl;have f6:=HU.o.unit.frozen 6;have c7:=HU.o.unit.cl 7 (i64 0) rfl;have f7:=HU.o.unit.frozen 7;replace HU:Hid (UW V T R X W6.heap.size a c l (⟨aW 117 i,(bu:Int),mn,mx,sa,sc,sg,nl,ru,0,0,0,0,0,0,0,0,0,0,0,none,0,[],0,0,0⟩:aP) (W9.setCell ⟨X,6,none⟩ (i64 ru))):=HU.o.set 6 (i64 ru) _ rfl ⟨rfl,rfl,rfl,rfl,rfl,rfl⟩;replace HU:Hid (UW V T R X W6.heap.size a c l (⟨aW 117 i,(bu:Int),mn,mx,sa,sc,sg,nl,ru,rd,0,0,0,0,0,0,0,0,0,0,none,0,[],0,0,0⟩:aP) ((W9.setCell ⟨X,6,none⟩ (i64 ru)).setCell ⟨X,7,none⟩ (i64 rd))):=HU.o.set 7 (i64 rd) _ rfl ⟨rfl,rfl,rfl,rfl,rfl,rfl⟩;go_upto_region 11 with fail
   clear c6 f6 c7 f7;generalize ((W9.setCell ⟨X,6,none⟩ (i64 ru)).setCell ⟨X,7,none⟩ (i64 rd))=tD at*;have TE:Hid (0<mx-mn+1/\mx-mn+1<100):=by have:=Me.o;show _/\_;omega
   have q1:IntKind.i64.wrap (mx-mn)=mx-mn:=by rw [IntKind.wrap_i64];have:=Me.o;omega
   have q2:IntKind.i64.wrap (mx-mn+1)=mx-mn+1:=by rw [IntKind.wrap_i64];have:=Me.o;omega
   refine aO (λw'=>w'.cell? ⟨X,2,none⟩=some (i64 mn)/\w'.cell? ⟨X,3,none⟩=some (i64 mx)) (λw'=>True) (λi=>false) ax (⟨(HU.o.unit.cell 2).trans rfl,(HU.o.unit.cell 3).trans rfl⟩) (trivial) (λaD ai=> ?_);refine aJ 0 aD ai ?_;refine aJ 1 aD ai ?_ (v:=i64 mn);refine aJ 2 aD ai ?_;refine aJ 3 aD ai ?_;refine aJ 4 aD ai ?_ (v:=i64 mx);refine aJ 5 aD ai ?_;refine aJ 6 aD ai ?_ (v:=i64 mn);refine aJ 7 aD ai ?_ (v:=i64 (mx-mn));refine aJ 8 aD ai ?_ (v:=i64 (mx-mn+1));refine aJ 11 aD ai ?_;refine aJ 12 aD ai ?_ (v:=i64 mn);refine aJ 13 aD ai ?_;refine aJ 14 aD ai ?_;refine aJ 15 aD ai ?_ (v:=i64 mx);refine aJ 16 aD ai ?_;refine aJ 17 aD ai ?_ (v:=i64 mn);refine aJ 18 aD ai ?_ (v:=i64 (mx-mn));refine aJ 19 aD ai ?_ (v:=i64 (mx-mn+1));replace HU:=ah (HU.o.drew);refine eI 9 rfl (λKc hK=> ?_);go_simp;refine (gl.o tD.drew (mx-mn+1) HU.o.ext HU.o.tape TE.o.1 (bA TE.o.2)).mono ?_;rintro e OH ⟨sr,rfl,VR,hT,hx⟩;replace HU:=ah (HU.o.next hT hx);clear hT hx;have VS:=ah VR;clear VR;refine hK.o _ _ (⟨(HU.o.unit.cell 2).trans rfl,(HU.o.unit.cell 3).trans rfl⟩) (trivial) (λaD ai=> ?_);clear hK Kc;try simp only [sS]
   have q3:IntKind.i64.wrap (mn+sr)=mn+sr:=by rw [IntKind.wrap_i64];have:=Me.o;have:=VS.o;omega
   refine aJ 10 aD ai ?_ (v:=i64 (mn+sr));refine aJ 22 aD ai ?_;refine eI 20 rfl (λKc hK=> ?_);go_simp;refine (gl.o OH (mx-mn+1) HU.o.ext HU.o.tape TE.o.1 (bA TE.o.2)).mono ?_;rintro e VT ⟨tr,rfl,VU,hT,hx⟩;replace HU:=ah (HU.o.next hT hx);clear hT hx;have VV:=ah VU;clear VU;refine hK.o _ _ (⟨(HU.o.unit.cell 2).trans rfl,(HU.o.unit.cell 3).trans rfl⟩) (trivial) (λaD ai=> ?_);clear hK Kc;try simp only [sS]
   have q4:IntKind.i64.wrap (mn+tr)=mn+tr:=by rw [IntKind.wrap_i64];have:=Me.o;have:=VV.o;omega
   refine aJ 21 aD ai ?_ (v:=i64 (mn+tr));have c8:=HU.o.unit.cl 8 (i64 0) rfl;have f8:=HU.o.unit.frozen 8;refine eI 23 rfl (λKc hK=> ?_);go_simp;replace HU:Hid (UW V T R X W6.heap.size a c l (⟨aW 117 i,(bu:Int),mn,mx,sa,sc,sg,nl,ru,rd,mn+sr,0,0,0,0,0,0,0,0,0,none,0,[],0,0,0⟩:aP) (VT.setCell ⟨X,8,none⟩ (i64 (mn+sr)))):=HU.o.set 8 (i64 (mn+sr)) _ rfl ⟨rfl,rfl,rfl,rfl,rfl,rfl⟩;generalize (VT.setCell ⟨X,8,none⟩ (i64 (mn+sr)))=W13 at*;refine hK.o _ _ (⟨(HU.o.unit.cell 2).trans rfl,(HU.o.unit.cell 3).trans rfl⟩) (trivial) (λaD ai=> ?_);clear hK Kc;try simp only [sS]
   clear c8 f8;refine aJ 24 aD ai ?_;have c9:=HU.o.unit.cl 9 (i64 0) rfl;have f9:=HU.o.unit.frozen 9;refine eI 25 rfl (λKc hK=> ?_);go_simp;replace HU:Hid (UW V T R X W6.heap.size a c l (⟨aW 117 i,(bu:Int),mn,mx,sa,sc,sg,nl,ru,rd,mn+sr,mn+tr,0,0,0,0,0,0,0,0,none,0,[],0,0,0⟩:aP) (W13.setCell ⟨X,9,none⟩ (i64 (mn+tr)))):=HU.o.set 9 (i64 (mn+tr)) _ rfl ⟨rfl,rfl,rfl,rfl,rfl,rfl⟩;generalize (W13.setCell ⟨X,9,none⟩ (i64 (mn+tr)))=W14 at*;refine hK.o _ _ (⟨(HU.o.unit.cell 2).trans rfl,(HU.o.unit.cell 3).trans rfl⟩) (trivial) (λaD ai=> ?_);clear hK Kc;try simp only [sS]
   clear c9 f9;refine aI ax ?_ _;clear aD ai q1 q2 q3 q4;go_wp2_with fail
   refine (gl.o W14 3 HU.o.ext HU.o.tape aq aq).mono ?_;rintro e W15 ⟨ut,rfl,VW,hT,hx⟩;replace HU:=ah (HU.o.next hT hx);clear hT hx;have aby:=ah VW;clear VW;go_wp2_with fail
   refine (gl.o W15 3 HU.o.ext HU.o.tape aq aq).mono ?_;rintro e W16 ⟨dt,rfl,VX,hT,hx⟩;replace HU:=ah (HU.o.next hT hx);clear hT hx;have abz:=ah VX;clear VX;go_wp2_with fail
   refine (gl.o W16 2 HU.o.ext HU.o.tape aq aq).mono ?_;rintro e Zd ⟨st,rfl,VY,hT,hx⟩;replace HU:=ah (HU.o.next hT hx);clear hT hx;have Mf:=ah VY;clear VY;have c10:=HU.o.unit.cl 10 (i64 0) rfl;have f10:=HU.o.unit.frozen 10;have c11:=HU.o.unit.cl 11 (i64 0) rfl;have f11:=HU.o.unit.frozen 11;have c12:=HU.o.unit.cl 12 (i64 0) rfl;have f12:=HU.o.unit.frozen 12;replace HU:Hid (UW V T R X W6.heap.size a c l (⟨aW 117 i,(bu:Int),mn,mx,sa,sc,sg,nl,ru,rd,mn+sr,mn+tr,ut,0,0,0,0,0,0,0,none,0,[],0,0,0⟩:aP) (Zd.setCell ⟨X,10,none⟩ (i64 ut))):=HU.o.set 10 (i64 ut) _ rfl ⟨rfl,rfl,rfl,rfl,rfl,rfl⟩;replace HU:Hid (UW V T R X W6.heap.size a c l (⟨aW 117 i,(bu:Int),mn,mx,sa,sc,sg,nl,ru,rd,mn+sr,mn+tr,ut,dt,0,0,0,0,0,0,none,0,[],0,0,0⟩:aP) ((Zd.setCell ⟨X,10,none⟩ (i64 ut)).setCell ⟨X,11,none⟩ (i64 dt))):=HU.o.set 11 (i64 dt) _ rfl ⟨rfl,rfl,rfl,rfl,rfl,rfl⟩;replace HU:Hid (UW V T R X W6.heap.size a c l (⟨aW 117 i,(bu:Int),mn,mx,sa,sc,sg,nl,ru,rd,mn+sr,mn+tr,ut,dt,st,0,0,0,0,0,none,0,[],0,0,0⟩:aP) (((Zd.setCell ⟨X,10,none⟩ (i64 ut)).setCell ⟨X,11,none⟩ (i64 dt)).setCell ⟨X,12,none⟩ (i64 st))):=HU.o.set 12 (i64 st) _ rfl ⟨rfl,rfl,rfl,rfl,rfl,rfl⟩;go_upto_region 13 with fail
   clear c10 f10 c11 f11 c12 f12;generalize (((Zd.setCell ⟨X,10,none⟩ (i64 ut)).setCell ⟨X,11,none⟩ (i64 dt)).setCell ⟨X,12,none⟩ (i64 st))=W18 at*;go_wp2_with fail
   refine (gl.o W18 30 HU.o.ext HU.o.tape aq aq).mono ?_;rintro e W19 ⟨hc,rfl,VZ,hT,hx⟩;replace HU:=ah (HU.o.next hT hx);clear hT hx;have Sc:=ah VZ;clear VZ;have c13:=HU.o.unit.cl 13 (i64 0) rfl;have f13:=HU.o.unit.frozen 13;replace HU:Hid (UW V T R X W6.heap.size a c l (⟨aW 117 i,(bu:Int),mn,mx,sa,sc,sg,nl,ru,rd,mn+sr,mn+tr,ut,dt,st,hc,0,0,0,0,none,0,[],0,0,0⟩:aP) (W19.setCell ⟨X,13,none⟩ (i64 hc))):=HU.o.set 13 (i64 hc) _ rfl ⟨rfl,rfl,rfl,rfl,rfl,rfl⟩;go_upto_region 14 with fail
   clear c13 f13;generalize (W19.setCell ⟨X,13,none⟩ (i64 hc))=W20 at*;refine aO (λw'=>w'.cell? ⟨X,13,none⟩=some (i64 hc)) (λw'=>True) (λi=>false) ax ((HU.o.unit.cell 13).trans rfl) (trivial) (λaD ai=> ?_);refine aJ 0 aD ai ?_;refine aJ 1 aD ai ?_ (v:=i64 hc);refine aJ 2 aD ai ?_;replace HU:=ah (HU.o.drew);refine eI 3 rfl (λKc hK=> ?_);go_simp;refine (gl.o W20.drew (30) HU.o.ext HU.o.tape aq aq).mono ?_;rintro e W21 ⟨cc,rfl,V0,hT,hx⟩;replace HU:=ah (HU.o.next hT hx);clear hT hx;have V8:=ah V0;clear V0;refine hK.o _ _ ((HU.o.unit.cell 13).trans rfl) (trivial) (λaD ai=> ?_);clear hK Kc;try simp only [sS]
   have q1:IntKind.i64.wrap (hc+cc)=hc+cc:=by rw [IntKind.wrap_i64];have:=Sc.o;have:=V8.o;omega
   refine aJ 4 aD ai ?_ (v:=i64 (hc+cc));refine aJ 5 aD ai ?_;have c14:=HU.o.unit.cl 14 (i64 0) rfl;have f14:=HU.o.unit.frozen 14;refine eI 6 rfl (λKc hK=> ?_);go_simp;replace HU:Hid (UW V T R X W6.heap.size a c l (⟨aW 117 i,(bu:Int),mn,mx,sa,sc,sg,nl,ru,rd,mn+sr,mn+tr,ut,dt,st,hc,hc+cc,0,0,0,none,0,[],0,0,0⟩:aP) (W21.setCell ⟨X,14,none⟩ (i64 (hc+cc)))):=HU.o.set 14 (i64 (hc+cc)) _ rfl ⟨rfl,rfl,rfl,rfl,rfl,rfl⟩;generalize (W21.setCell ⟨X,14,none⟩ (i64 (hc+cc)))=W22 at*;refine hK.o _ _ ((HU.o.unit.cell 13).trans rfl) (trivial) (λaD ai=> ?_);clear hK Kc;try simp only [sS]
   clear c14 f14;refine aI ax ?_ _;clear aD ai q1;go_wp2_with fail
   refine (gl.o W22 4 HU.o.ext HU.o.tape aq aq).mono ?_;rintro e W23 ⟨hh,rfl,V9,hT,hx⟩;replace HU:=ah (HU.o.next hT hx);clear hT hx;have abA:=ah V9;clear V9;go_wp2_with fail
   refine (gl.o W23 8 HU.o.ext HU.o.tape aq aq).mono ?_;rintro e W24 ⟨rs,rfl,V_,hT,hx⟩;replace HU:=ah (HU.o.next hT hx);clear hT hx;have abB:=ah V_;clear V_;go_wp2_with fail
   refine (gl.o W24 4 HU.o.ext HU.o.tape aq aq).mono ?_;rintro e Ze ⟨rp,rfl,Wa,hT,hx⟩;replace HU:=ah (HU.o.next hT hx);clear hT hx;have abC:=ah Wa;clear Wa;have c15:=HU.o.unit.cl 15 (i64 0) rfl;have f15:=HU.o.unit.frozen 15;have c16:=HU.o.unit.cl 16 (i64 0) rfl;have f16:=HU.o.unit.frozen 16;have c17:=HU.o.unit.cl 17 (i64 0) rfl;have f17:=HU.o.unit.frozen 17;replace HU:Hid (UW V T R X W6.heap.size a c l (⟨aW 117 i,(bu:Int),mn,mx,sa,sc,sg,nl,ru,rd,mn+sr,mn+tr,ut,dt,st,hc,hc+cc,hh,0,0,none,0,[],0,0,0⟩:aP) (Ze.setCell ⟨X,15,none⟩ (i64 hh))):=HU.o.set 15 (i64 hh) _ rfl ⟨rfl,rfl,rfl,rfl,rfl,rfl⟩;replace HU:Hid (UW V T R X W6.heap.size a c l (⟨aW 117 i,(bu:Int),mn,mx,sa,sc,sg,nl,ru,rd,mn+sr,mn+tr,ut,dt,st,hc,hc+cc,hh,rs,0,none,0,[],0,0,0⟩:aP) ((Ze.setCell ⟨X,15,none⟩ (i64 hh)).setCell ⟨X,16,none⟩ (i64 rs))):=HU.o.set 16 (i64 rs) _ rfl ⟨rfl,rfl,rfl,rfl,rfl,rfl⟩;replace HU:Hid (UW V T R X W6.heap.size a c l (⟨aW 117 i,(bu:Int),mn,mx,sa,sc,sg,nl,ru,rd,mn+sr,mn+tr,ut,dt,st,hc,hc+cc,hh,rs,rp,none,0,[],0,0,0⟩:aP) (((Ze.setCell ⟨X,15,none⟩ (i64 hh)).setCell ⟨X,16,none⟩ (i64 rs)).setCell ⟨X,17,none⟩ (i64 rp))):=HU.o.set 17 (i64 rp) _ rfl ⟨rfl,rfl,rfl,rfl,rfl,rfl⟩;go_upto_region 16 with fail
   clear c15 f15 c16 f16 c17 f17;generalize (((Ze.setCell ⟨X,15,none⟩ (i64 hh)).setCell ⟨X,16,none⟩ (i64 rs)).setCell ⟨X,17,none⟩ (i64 rp))=W26 at*;go_wp2_with fail
   refine (R6.o W26 HU.o.ext HU.o.tape).mono ?_;rintro e W27 ⟨aa,ac,aw,rfl,Wb,Wc,Wd,Sd,hT,hx⟩;have Nv:=ah (HU.o.next hT hx);have c18:=Nv.o.unit.cl 18 (.slice none 0 0) rfl;have f18:=Nv.o.unit.frozen 18
   have Sg:Hid (UW V T R X W6.heap.size a c l (⟨aW 117 i,(bu:Int),mn,mx,sa,sc,sg,nl,ru,rd,mn+sr,mn+tr,ut,dt,st,hc,hc+cc,hh,rs,rp,aa,ac,aw,0,0,0⟩:aP) (W27.setCell ⟨X,18,none⟩ (.slice aa aw.length ac))):=by
    have hx2:=((aB.refl X W27).ez (o:=18) (v:= .slice aa aw.length ac));have hf2:Fr W6.heap.size aa:=Sd.mono HU.o.size;have h:=Nv.o;exact ⟨h.tape.but hx2 h.pos.2.2.2.1.symm,h.unit.set 18 _,h.res.but hx2 h.pos.2.2.2.2.1.symm,h.ext.setCell (p:=⟨X,18,none⟩) h.pos.2.2.2.2.2.2 _,Nat.le_trans h.size hx2.size,h.aY.but hx2 (h.sf.ne h.pos.2.1),h.sf,Wc.eH hx2 (hf2.ne h.pos.2.1),hf2,h.pos⟩
   have We:Hid ((aw.length<=1/\(aw= []->aa=none))/\(∀x∈aw,0<=x/\x<hours)/\Fr V.heap.size aa):=⟨Wb,Wd,Sd.mono HU.o.ext.size⟩;clear HU Nv hT hx Wb Wc Wd Sd R6;go_upto_region 17 with fail
   have HU:=Sg;clear c18 f18 Sg;generalize (W27.setCell ⟨X,18,none⟩ (.slice aa aw.length ac))=W28 at*;have HST:Hid (0<2+st/\2+st<=3):=by have:=Mf.o;show _/\_;omega
   have q1:IntKind.i64.wrap (2+st)=2+st:=by rw [IntKind.wrap_i64];have:=Mf.o;omega
   go_cut [] (λwx=> ∃(iv:Nat) (hr:Int),(iv:Int)<2+st/\(0<=hr/\hr<4)/\UW V T R X W6.heap.size a c l (⟨aW 117 i,(bu:Int),mn,mx,sa,sc,sg,nl,ru,rd,mn+sr,mn+tr,ut,dt,st,hc,hc+cc,hh,rs,rp,aa,ac,aw,(iO iv),(1+hr),0⟩:aP) wx)
   case first=>
    as_aux_lemma=>
     refine aO (λw'=>w'.cell? ⟨X,12,none⟩=some (i64 st)) (λw'=>True) (λi=>false) ax ((HU.o.unit.cell 12).trans rfl) (trivial) (λaD ai=> ?_);refine aJ 1 aD ai ?_;refine aJ 2 aD ai ?_;refine aJ 3 aD ai ?_ (v:=i64 st);refine aJ 4 aD ai ?_ (v:=i64 (2+st));refine aJ 8 aD ai ?_;replace HU:=ah (HU.o.drew);generalize W28.drew=Zf at*;refine bH (rs:= [0,5]) ax aG ?_;refine aQ.cons rfl (λKc hK=> ?_) (aQ.cons rfl (λKc hK=> ?_) aQ.nil)
     .go_simp
      obtain ⟨W30,sV,xa,-,AA⟩:=aV (Zf) 3 [i64 0,i64 2,i64 1];rw [show(Zf).alloc (.cells #[i64 0,i64 2,i64 1] 3)=W30 from sV.symm];obtain ⟨B,hB⟩: ∃B,B=(Zf).heap.size:=⟨_,rfl⟩;rw [<-hB]at AA⊢;have zb:B≠T:=bA HU.o.tape.lt;have HB:=ah AA;replace HU:=ah (HU.o.next (HU.o.tape.ext xa) (xa.but T));clear sV xa AA hB;refine hK.o _ _ ((HU.o.unit.cell 12).trans rfl) (trivial) (λaD ai=> ?_);clear hK Kc;try simp only [sS]
      refine eI 5 rfl (λKc hK=> ?_);go_simp;refine (gl.o (W30) (2+st) HU.o.ext HU.o.tape HST.o.1 (bA HST.o.2)).mono ?_;rintro e W31 ⟨vz,rfl,Mg,hT,hx⟩;replace HU:=ah (HU.o.next hT hx);replace HB:=ah (HB.o.but hx zb);obtain ⟨iv,Wi⟩: ∃iv:Nat,vz=(iv:Int):=⟨vz.toNat,ae⟩;subst Wi;have bi:(iv:Int)<3:=bA HST.o.2;have P_:Hid ((iv:Int)<2+st):=Mg.2;clear Mg;clear hT hx;refine hK.o _ _ ((HU.o.unit.cell 12).trans rfl) (trivial) (λaD ai=> ?_);clear hK Kc;try simp only [sS]
      refine aJ 6 aD ai ?_;refine bH (rs:= [7,9]) ax aG ?_;refine aQ.cons rfl (λKc hK=> ?_) (aQ.cons rfl (λKc hK=> ?_) aQ.nil)
      .have cB:(W31).cell? ⟨B,iv,none⟩=some (i64 (iO iv)):=mS HB.o ae
       go_simp;refine hK.o _ _ ((HU.o.unit.cell 12).trans rfl) (trivial) (λaD ai=> ?_);clear hK Kc;try simp only [sS]
       clear cB;refine aJ 11 aD ai ?_;refine eI 9 rfl (λKc hK=> ?_);go_simp;refine (gl.o (W31) 4 HU.o.ext HU.o.tape aq aq).mono ?_;rintro e W32 ⟨hr,rfl,sZ,hT,hx⟩;replace HU:=ah (HU.o.next hT hx);replace HB:=ah (HB.o.but hx zb);have td:=ah sZ;clear sZ;clear hT hx;refine hK.o _ _ ((HU.o.unit.cell 12).trans rfl) (trivial) (λaD ai=> ?_);clear hK Kc;try simp only [sS]
       have q2:IntKind.i64.wrap (1+hr)=1+hr:=by rw [IntKind.wrap_i64];have:=td.o;omega
       refine aJ 10 aD ai ?_ (v:=i64 (1+hr));refine eI 12 rfl (λKc hK=> ?_);have c19:=HU.o.unit.cl 19 (i64 0) rfl;have f19:=HU.o.unit.frozen 19;go_simp;replace HU:Hid (UW V T R X W6.heap.size a c l (⟨aW 117 i,(bu:Int),mn,mx,sa,sc,sg,nl,ru,rd,mn+sr,mn+tr,ut,dt,st,hc,hc+cc,hh,rs,rp,aa,ac,aw,(iO iv),0,0⟩:aP) (W32.setCell ⟨X,19,none⟩ (i64 (iO iv)))):=HU.o.set 19 (i64 (iO iv)) _ rfl ⟨rfl,rfl,rfl,rfl,rfl,rfl⟩;generalize (W32.setCell ⟨X,19,none⟩ (i64 (iO iv)))=W33 at*;refine hK.o _ _ ((HU.o.unit.cell 12).trans rfl) (trivial) (λaD ai=> ?_);clear hK Kc;try simp only [sS]
       clear c19 f19;refine aJ 13 aD ai ?_;refine eI 14 rfl (λKc hK=> ?_);have c20:=HU.o.unit.cl 20 (i64 0) rfl;have f20:=HU.o.unit.frozen 20;go_simp;replace HU:Hid (UW V T R X W6.heap.size a c l (⟨aW 117 i,(bu:Int),mn,mx,sa,sc,sg,nl,ru,rd,mn+sr,mn+tr,ut,dt,st,hc,hc+cc,hh,rs,rp,aa,ac,aw,(iO iv),(1+hr),0⟩:aP) (W33.setCell ⟨X,20,none⟩ (i64 (1+hr)))):=HU.o.set 20 (i64 (1+hr)) _ rfl ⟨rfl,rfl,rfl,rfl,rfl,rfl⟩;generalize (W33.setCell ⟨X,20,none⟩ (i64 (1+hr)))=W34 at*;refine hK.o _ _ ((HU.o.unit.cell 12).trans rfl) (trivial) (λaD ai=> ?_);clear hK Kc;try simp only [sS]
       clear c20 f20;refine aI ax ?_ _;clear aD ai;go_wp2
       go_meet
       exact ⟨iv,hr,bA P_.o,td.o,HU.o⟩
      .go_simp
       refine (gl.o (W31) 4 HU.o.ext HU.o.tape aq aq).mono ?_;rintro e W35 ⟨hr,rfl,sZ,hT,hx⟩;replace HU:=ah (HU.o.next hT hx);replace HB:=ah (HB.o.but hx zb);have td:=ah sZ;clear sZ;clear hT hx;refine hK.o _ _ ((HU.o.unit.cell 12).trans rfl) (trivial) (λaD ai=> ?_);clear hK Kc;try simp only [sS]
       have q2:IntKind.i64.wrap (1+hr)=1+hr:=by rw [IntKind.wrap_i64];have:=td.o;omega
       refine aJ 10 aD ai ?_ (v:=i64 (1+hr));refine eI 7 rfl (λKc hK=> ?_);have cB:(W35).cell? ⟨B,iv,none⟩=some (i64 (iO iv)):=mS HB.o ae;go_simp;refine hK.o _ _ ((HU.o.unit.cell 12).trans rfl) (trivial) (λaD ai=> ?_);clear hK Kc;try simp only [sS]
       clear cB;refine aJ 11 aD ai ?_;refine eI 12 rfl (λKc hK=> ?_);have c19:=HU.o.unit.cl 19 (i64 0) rfl;have f19:=HU.o.unit.frozen 19;go_simp;replace HU:Hid (UW V T R X W6.heap.size a c l (⟨aW 117 i,(bu:Int),mn,mx,sa,sc,sg,nl,ru,rd,mn+sr,mn+tr,ut,dt,st,hc,hc+cc,hh,rs,rp,aa,ac,aw,(iO iv),0,0⟩:aP) (W35.setCell ⟨X,19,none⟩ (i64 (iO iv)))):=HU.o.set 19 (i64 (iO iv)) _ rfl ⟨rfl,rfl,rfl,rfl,rfl,rfl⟩;generalize (W35.setCell ⟨X,19,none⟩ (i64 (iO iv)))=W36 at*;refine hK.o _ _ ((HU.o.unit.cell 12).trans rfl) (trivial) (λaD ai=> ?_);clear hK Kc;try simp only [sS]
       clear c19 f19;refine aJ 13 aD ai ?_;refine eI 14 rfl (λKc hK=> ?_);have c20:=HU.o.unit.cl 20 (i64 0) rfl;have f20:=HU.o.unit.frozen 20;go_simp;replace HU:Hid (UW V T R X W6.heap.size a c l (⟨aW 117 i,(bu:Int),mn,mx,sa,sc,sg,nl,ru,rd,mn+sr,mn+tr,ut,dt,st,hc,hc+cc,hh,rs,rp,aa,ac,aw,(iO iv),(1+hr),0⟩:aP) (W36.setCell ⟨X,20,none⟩ (i64 (1+hr)))):=HU.o.set 20 (i64 (1+hr)) _ rfl ⟨rfl,rfl,rfl,rfl,rfl,rfl⟩;generalize (W36.setCell ⟨X,20,none⟩ (i64 (1+hr)))=W37 at*;refine hK.o _ _ ((HU.o.unit.cell 12).trans rfl) (trivial) (λaD ai=> ?_);clear hK Kc;try simp only [sS]
       clear c20 f20;refine aI ax ?_ _;clear aD ai;go_wp2
       go_meet
       exact ⟨iv,hr,bA P_.o,td.o,HU.o⟩
     .go_simp
      refine (gl.o (Zf) (2+st) HU.o.ext HU.o.tape HST.o.1 (bA HST.o.2)).mono ?_;rintro e Zg ⟨vz,rfl,Mg,hT,hx⟩;replace HU:=ah (HU.o.next hT hx);obtain ⟨iv,Wi⟩: ∃iv:Nat,vz=(iv:Int):=⟨vz.toNat,ae⟩;subst Wi;have bi:(iv:Int)<3:=bA HST.o.2;have P_:Hid ((iv:Int)<2+st):=Mg.2;clear Mg;clear hT hx;refine hK.o _ _ ((HU.o.unit.cell 12).trans rfl) (trivial) (λaD ai=> ?_);clear hK Kc;try simp only [sS]
      refine bH (rs:= [0,9]) ax aG ?_;refine aQ.cons rfl (λKc hK=> ?_) (aQ.cons rfl (λKc hK=> ?_) aQ.nil)
      .go_simp
       obtain ⟨Zh,sV,xa,-,AA⟩:=aV (Zg) 3 [i64 0,i64 2,i64 1];rw [show(Zg).alloc (.cells #[i64 0,i64 2,i64 1] 3)=Zh from sV.symm];obtain ⟨B,hB⟩: ∃B,B=(Zg).heap.size:=⟨_,rfl⟩;rw [<-hB]at AA⊢;have zb:B≠T:=bA HU.o.tape.lt;have HB:=ah AA;replace HU:=ah (HU.o.next (HU.o.tape.ext xa) (xa.but T));clear sV xa AA hB;refine hK.o _ _ ((HU.o.unit.cell 12).trans rfl) (trivial) (λaD ai=> ?_);clear hK Kc;try simp only [sS]
       refine aJ 6 aD ai ?_;refine bH (rs:= [7,9]) ax aG ?_;refine aQ.cons rfl (λKc hK=> ?_) (aQ.cons rfl (λKc hK=> ?_) aQ.nil)
       .have cB:(Zh).cell? ⟨B,iv,none⟩=some (i64 (iO iv)):=mS HB.o ae
        go_simp;refine hK.o _ _ ((HU.o.unit.cell 12).trans rfl) (trivial) (λaD ai=> ?_);clear hK Kc;try simp only [sS]
        clear cB;refine aJ 11 aD ai ?_;refine eI 9 rfl (λKc hK=> ?_);go_simp;refine (gl.o (Zh) 4 HU.o.ext HU.o.tape aq aq).mono ?_;rintro e W40 ⟨hr,rfl,sZ,hT,hx⟩;replace HU:=ah (HU.o.next hT hx);replace HB:=ah (HB.o.but hx zb);have td:=ah sZ;clear sZ;clear hT hx;refine hK.o _ _ ((HU.o.unit.cell 12).trans rfl) (trivial) (λaD ai=> ?_);clear hK Kc;try simp only [sS]
        have q2:IntKind.i64.wrap (1+hr)=1+hr:=by rw [IntKind.wrap_i64];have:=td.o;omega
        refine aJ 10 aD ai ?_ (v:=i64 (1+hr));refine eI 12 rfl (λKc hK=> ?_);have c19:=HU.o.unit.cl 19 (i64 0) rfl;have f19:=HU.o.unit.frozen 19;go_simp;replace HU:Hid (UW V T R X W6.heap.size a c l (⟨aW 117 i,(bu:Int),mn,mx,sa,sc,sg,nl,ru,rd,mn+sr,mn+tr,ut,dt,st,hc,hc+cc,hh,rs,rp,aa,ac,aw,(iO iv),0,0⟩:aP) (W40.setCell ⟨X,19,none⟩ (i64 (iO iv)))):=HU.o.set 19 (i64 (iO iv)) _ rfl ⟨rfl,rfl,rfl,rfl,rfl,rfl⟩;generalize (W40.setCell ⟨X,19,none⟩ (i64 (iO iv)))=W41 at*;refine hK.o _ _ ((HU.o.unit.cell 12).trans rfl) (trivial) (λaD ai=> ?_);clear hK Kc;try simp only [sS]
        clear c19 f19;refine aJ 13 aD ai ?_;refine eI 14 rfl (λKc hK=> ?_);have c20:=HU.o.unit.cl 20 (i64 0) rfl;have f20:=HU.o.unit.frozen 20;go_simp;replace HU:Hid (UW V T R X W6.heap.size a c l (⟨aW 117 i,(bu:Int),mn,mx,sa,sc,sg,nl,ru,rd,mn+sr,mn+tr,ut,dt,st,hc,hc+cc,hh,rs,rp,aa,ac,aw,(iO iv),(1+hr),0⟩:aP) (W41.setCell ⟨X,20,none⟩ (i64 (1+hr)))):=HU.o.set 20 (i64 (1+hr)) _ rfl ⟨rfl,rfl,rfl,rfl,rfl,rfl⟩;generalize (W41.setCell ⟨X,20,none⟩ (i64 (1+hr)))=W42 at*;refine hK.o _ _ ((HU.o.unit.cell 12).trans rfl) (trivial) (λaD ai=> ?_);clear hK Kc;try simp only [sS]
        clear c20 f20;refine aI ax ?_ _;clear aD ai;go_wp2
        go_meet
        exact ⟨iv,hr,bA P_.o,td.o,HU.o⟩
       .go_simp
        refine (gl.o (Zh) 4 HU.o.ext HU.o.tape aq aq).mono ?_;rintro e W43 ⟨hr,rfl,sZ,hT,hx⟩;replace HU:=ah (HU.o.next hT hx);replace HB:=ah (HB.o.but hx zb);have td:=ah sZ;clear sZ;clear hT hx;refine hK.o _ _ ((HU.o.unit.cell 12).trans rfl) (trivial) (λaD ai=> ?_);clear hK Kc;try simp only [sS]
        have q2:IntKind.i64.wrap (1+hr)=1+hr:=by rw [IntKind.wrap_i64];have:=td.o;omega
        refine aJ 10 aD ai ?_ (v:=i64 (1+hr));refine eI 7 rfl (λKc hK=> ?_);have cB:(W43).cell? ⟨B,iv,none⟩=some (i64 (iO iv)):=mS HB.o ae;go_simp;refine hK.o _ _ ((HU.o.unit.cell 12).trans rfl) (trivial) (λaD ai=> ?_);clear hK Kc;try simp only [sS]
        clear cB;refine aJ 11 aD ai ?_;refine eI 12 rfl (λKc hK=> ?_);have c19:=HU.o.unit.cl 19 (i64 0) rfl;have f19:=HU.o.unit.frozen 19;go_simp;replace HU:Hid (UW V T R X W6.heap.size a c l (⟨aW 117 i,(bu:Int),mn,mx,sa,sc,sg,nl,ru,rd,mn+sr,mn+tr,ut,dt,st,hc,hc+cc,hh,rs,rp,aa,ac,aw,(iO iv),0,0⟩:aP) (W43.setCell ⟨X,19,none⟩ (i64 (iO iv)))):=HU.o.set 19 (i64 (iO iv)) _ rfl ⟨rfl,rfl,rfl,rfl,rfl,rfl⟩;generalize (W43.setCell ⟨X,19,none⟩ (i64 (iO iv)))=W44 at*;refine hK.o _ _ ((HU.o.unit.cell 12).trans rfl) (trivial) (λaD ai=> ?_);clear hK Kc;try simp only [sS]
        clear c19 f19;refine aJ 13 aD ai ?_;refine eI 14 rfl (λKc hK=> ?_);have c20:=HU.o.unit.cl 20 (i64 0) rfl;have f20:=HU.o.unit.frozen 20;go_simp;replace HU:Hid (UW V T R X W6.heap.size a c l (⟨aW 117 i,(bu:Int),mn,mx,sa,sc,sg,nl,ru,rd,mn+sr,mn+tr,ut,dt,st,hc,hc+cc,hh,rs,rp,aa,ac,aw,(iO iv),(1+hr),0⟩:aP) (W44.setCell ⟨X,20,none⟩ (i64 (1+hr)))):=HU.o.set 20 (i64 (1+hr)) _ rfl ⟨rfl,rfl,rfl,rfl,rfl,rfl⟩;generalize (W44.setCell ⟨X,20,none⟩ (i64 (1+hr)))=W45 at*;refine hK.o _ _ ((HU.o.unit.cell 12).trans rfl) (trivial) (λaD ai=> ?_);clear hK Kc;try simp only [sS]
        clear c20 f20;refine aI ax ?_ _;clear aD ai;go_wp2
        go_meet
        exact ⟨iv,hr,bA P_.o,td.o,HU.o⟩
      .go_simp
       refine (gl.o (Zg) 4 HU.o.ext HU.o.tape aq aq).mono ?_;rintro e W46 ⟨hr,rfl,sZ,hT,hx⟩;replace HU:=ah (HU.o.next hT hx);have td:=ah sZ;clear sZ;clear hT hx;refine hK.o _ _ ((HU.o.unit.cell 12).trans rfl) (trivial) (λaD ai=> ?_);clear hK Kc;try simp only [sS]
       have q2:IntKind.i64.wrap (1+hr)=1+hr:=by rw [IntKind.wrap_i64];have:=td.o;omega
       refine aJ 10 aD ai ?_ (v:=i64 (1+hr));refine eI 0 rfl (λKc hK=> ?_);go_simp;obtain ⟨Zi,sV,xa,-,AA⟩:=aV (W46) 3 [i64 0,i64 2,i64 1];rw [show(W46).alloc (.cells #[i64 0,i64 2,i64 1] 3)=Zi from sV.symm];obtain ⟨B,hB⟩: ∃B,B=(W46).heap.size:=⟨_,rfl⟩;rw [<-hB]at AA⊢;have zb:B≠T:=bA HU.o.tape.lt;have HB:=ah AA;replace HU:=ah (HU.o.next (HU.o.tape.ext xa) (xa.but T));clear sV xa AA hB;refine hK.o _ _ ((HU.o.unit.cell 12).trans rfl) (trivial) (λaD ai=> ?_);clear hK Kc;try simp only [sS]
       refine aJ 6 aD ai ?_;refine eI 7 rfl (λKc hK=> ?_);have cB:(Zi).cell? ⟨B,iv,none⟩=some (i64 (iO iv)):=mS HB.o ae;go_simp;refine hK.o _ _ ((HU.o.unit.cell 12).trans rfl) (trivial) (λaD ai=> ?_);clear hK Kc;try simp only [sS]
       clear cB;refine aJ 11 aD ai ?_;refine eI 12 rfl (λKc hK=> ?_);have c19:=HU.o.unit.cl 19 (i64 0) rfl;have f19:=HU.o.unit.frozen 19;go_simp;replace HU:Hid (UW V T R X W6.heap.size a c l (⟨aW 117 i,(bu:Int),mn,mx,sa,sc,sg,nl,ru,rd,mn+sr,mn+tr,ut,dt,st,hc,hc+cc,hh,rs,rp,aa,ac,aw,(iO iv),0,0⟩:aP) (Zi.setCell ⟨X,19,none⟩ (i64 (iO iv)))):=HU.o.set 19 (i64 (iO iv)) _ rfl ⟨rfl,rfl,rfl,rfl,rfl,rfl⟩;generalize (Zi.setCell ⟨X,19,none⟩ (i64 (iO iv)))=W48 at*;refine hK.o _ _ ((HU.o.unit.cell 12).trans rfl) (trivial) (λaD ai=> ?_);clear hK Kc;try simp only [sS]
       clear c19 f19;refine aJ 13 aD ai ?_;refine eI 14 rfl (λKc hK=> ?_);have c20:=HU.o.unit.cl 20 (i64 0) rfl;have f20:=HU.o.unit.frozen 20;go_simp;replace HU:Hid (UW V T R X W6.heap.size a c l (⟨aW 117 i,(bu:Int),mn,mx,sa,sc,sg,nl,ru,rd,mn+sr,mn+tr,ut,dt,st,hc,hc+cc,hh,rs,rp,aa,ac,aw,(iO iv),(1+hr),0⟩:aP) (W48.setCell ⟨X,20,none⟩ (i64 (1+hr)))):=HU.o.set 20 (i64 (1+hr)) _ rfl ⟨rfl,rfl,rfl,rfl,rfl,rfl⟩;generalize (W48.setCell ⟨X,20,none⟩ (i64 (1+hr)))=W49 at*;refine hK.o _ _ ((HU.o.unit.cell 12).trans rfl) (trivial) (λaD ai=> ?_);clear hK Kc;try simp only [sS]
       clear c20 f20;refine aI ax ?_ _;clear aD ai;go_wp2
       go_meet
       exact ⟨iv,hr,bA P_.o,td.o,HU.o⟩
   case rest=>
    obtain ⟨iv,hr,Wi,hhr,hU⟩:=hcut;generalize wc=WR at*;clear HU;have HH:=ah hhr;have h3:iv=0\/iv=1\/iv=2:=bA HST.o.2;clear hhr q1;obtain ⟨sv,Qa⟩: ∃sv,sv=iO iv:=⟨_,rfl⟩;rw [<-Qa]at hU
    have Zj:Hid (sv=0\/sv=2\/(sv=1/\st=1)):=by
     have h5:=Mf.o;show _\/_;rcases h3 with rfl|rfl|rfl
     .exact Or.inl Qa
     .exact Or.inr (Or.inl Qa)
     .exact Or.inr (Or.inr ⟨Qa,ae⟩)
    have HU:=ah hU;have c19:=HU.o.unit.cl 19 (i64 sv) rfl;clear hU Qa h3 Wi;go_upto_if 133 with fail
    clear c19;go_cut [] (λwx=> ∃hz:Int,(1<=hz/\hz<=4/\(sv=1->hz=1))/\UW V T R X W6.heap.size a c l (⟨aW 117 i,(bu:Int),mn,mx,sa,sc,sg,nl,ru,rd,mn+sr,mn+tr,ut,dt,st,hc,hc+cc,hh,rs,rp,aa,ac,aw,sv,hz,0⟩:aP) wx)
    case first=>
     as_aux_lemma=>
      rcases Bool.eq_false_or_eq_true (sv==1)with h1|h1
      .have c20:=HU.o.unit.cl 20 (i64 (1+hr)) rfl
       have f20:=HU.o.unit.frozen 20;have Nv:Hid (UW V T R X W6.heap.size a c l (⟨aW 117 i,(bu:Int),mn,mx,sa,sc,sg,nl,ru,rd,mn+sr,mn+tr,ut,dt,st,hc,hc+cc,hh,rs,rp,aa,ac,aw,sv,1,0⟩:aP) (WR.setCell ⟨X,20,none⟩ (i64 1))):=HU.o.set 20 (i64 1) _ rfl ⟨rfl,rfl,rfl,rfl,rfl,rfl⟩;go_wp2
       go_meet
       exact ⟨1,⟨aq,aq,λ_=>rfl⟩,Nv.o⟩
      .go_wp2
       go_meet
       exact ⟨1+hr,⟨bA HH.o,bA HH.o,λh=>(by rw [h]at h1;cases h1)⟩,HU.o⟩
    case rest=>
     obtain ⟨hz,hhz,hU⟩:=hcut;generalize wc=WS at*;clear HU HH;have HH:=ah hhz;have HU:=ah hU;have c19:=HU.o.unit.cl 19 (i64 sv) rfl;clear hU hhz;go_upto_if 137 with fail
     clear c19;go_cut [] (λwx=> ∃oo:Int,((sv=2->mn<=oo/\oo<=mx)/\(sv≠2->oo=0))/\UW V T R X W6.heap.size a c l (⟨aW 117 i,(bu:Int),mn,mx,sa,sc,sg,nl,ru,rd,mn+sr,mn+tr,ut,dt,st,hc,hc+cc,hh,rs,rp,aa,ac,aw,sv,hz,oo⟩:aP) wx)
     case first=>
      as_aux_lemma=>
       rcases Bool.eq_false_or_eq_true (sv==2)with h1|h1
       .go_upto_region 21 with fail
        have q1:IntKind.i64.wrap (mx-mn)=mx-mn:=by rw [IntKind.wrap_i64];have:=Me.o;omega
        have q2:IntKind.i64.wrap (mx-mn+1)=mx-mn+1:=by rw [IntKind.wrap_i64];have:=Me.o;omega
        refine aO (λw'=>w'.cell? ⟨X,2,none⟩=some (i64 mn)/\w'.cell? ⟨X,3,none⟩=some (i64 mx)) (λw'=>True) (λi=>false) ax (⟨(HU.o.unit.cell 2).trans rfl,(HU.o.unit.cell 3).trans rfl⟩) (trivial) (λaD ai=> ?_);refine aJ 0 aD ai ?_;refine aJ 1 aD ai ?_ (v:=i64 mn);refine aJ 2 aD ai ?_;refine aJ 3 aD ai ?_;refine aJ 4 aD ai ?_ (v:=i64 mx);refine aJ 5 aD ai ?_;refine aJ 6 aD ai ?_ (v:=i64 mn);refine aJ 7 aD ai ?_ (v:=i64 (mx-mn));refine aJ 8 aD ai ?_ (v:=i64 (mx-mn+1));replace HU:=ah (HU.o.drew);refine eI 9 rfl (λKc hK=> ?_);go_simp;refine (gl.o WS.drew (mx-mn+1) HU.o.ext HU.o.tape TE.o.1 (bA TE.o.2)).mono ?_;rintro e W50 ⟨ou,rfl,Wj,hT,hx⟩;replace HU:=ah (HU.o.next hT hx);clear hT hx;have Wk:=ah Wj;clear Wj;refine hK.o _ _ (⟨(HU.o.unit.cell 2).trans rfl,(HU.o.unit.cell 3).trans rfl⟩) (trivial) (λaD ai=> ?_);clear hK Kc;try simp only [sS]
        have q3:IntKind.i64.wrap (mn+ou)=mn+ou:=by rw [IntKind.wrap_i64];have:=Me.o;have:=Wk.o;omega
        refine aJ 10 aD ai ?_ (v:=i64 (mn+ou));refine aJ 11 aD ai ?_;have c21:=HU.o.unit.cl 21 (i64 0) rfl;have f21:=HU.o.unit.frozen 21;refine eI 12 rfl (λKc hK=> ?_);go_simp;replace HU:Hid (UW V T R X W6.heap.size a c l (⟨aW 117 i,(bu:Int),mn,mx,sa,sc,sg,nl,ru,rd,mn+sr,mn+tr,ut,dt,st,hc,hc+cc,hh,rs,rp,aa,ac,aw,sv,hz,(mn+ou)⟩:aP) (W50.setCell ⟨X,21,none⟩ (i64 (mn+ou)))):=HU.o.set 21 (i64 (mn+ou)) _ rfl ⟨rfl,rfl,rfl,rfl,rfl,rfl⟩;generalize (W50.setCell ⟨X,21,none⟩ (i64 (mn+ou)))=W51 at*;refine hK.o _ _ (⟨(HU.o.unit.cell 2).trans rfl,(HU.o.unit.cell 3).trans rfl⟩) (trivial) (λaD ai=> ?_);clear hK Kc;try simp only [sS]
        clear c21 f21;refine aI ax ?_ _;clear aD ai q1 q2 q3;go_wp2
        go_meet
        exact ⟨mn+ou,⟨λ_=>(bA Wk.o),λh=>absurd (by simpa using h1) h⟩,HU.o⟩
       .go_wp2
        go_meet
        exact ⟨0,⟨λh=>(by rw [h]at h1;cases h1),λ_=>rfl⟩,HU.o⟩
     case rest=>
      obtain ⟨oo,hoo,hU⟩:=hcut;generalize wc=WT at*;clear HU;have HOO:=ah hoo;have HU:=ah hU;clear hU hoo;go_upto_region 22 with fail
      as_aux_lemma=>
       obtain ⟨xf,Sh⟩: ∃xf,xf=(⟨aW 117 i,(bu:Int),mn,mx,sa,sc,sg,nl,ru,rd,mn+sr,mn+tr,ut,dt,st,hc,hc+cc,hh,rs,rp,aa,ac,aw,sv,hz,oo⟩:aP):=⟨_,rfl⟩
       have HF:Hid (uu xf i bu hours/\xf.aa=aa/\xf.aY=sg):=by
        have abI: ∀g∈sg,1<=g.width/\g.width<=15/\ -2<=g.bE/\g.bE<=40:=λg hg=>by
             have h1:=CZ.o.Kh g hg;have h2:=CZ.o.bE;have h3:=Kl.o;have h4:=VK.o;omega
        have h1:=Kl.o;have h2:=VK.o;have h3:=Me.o;have h4:=abv.o;have h5:=VJ.o;have h6:=VS.o;have h7:=VV.o;have h8:=HH.o;have h9:=Mf.o
        rw [Sh];exact ⟨{name:=rfl,fE:=rfl,min:=by simp only;omega,OE:=by simp only;omega,Kh:=abI,L1:=CZ.o.L1,max:=h4,fF:=abm.o,fG:=abw.o,dA:=abx.o,cQ:=by simp only;omega,dB:=by simp only;omega,eK:=aby.o,dC:=abz.o,startTime:=Mf.o,dX:=Sc.o,dD:=by have:=Sc.o;have:=V8.o;simp only;omega,dE:=abA.o,aX:=abB.o,bR:=abC.o,R5:=We.o.1,away:=We.o.2.1,state:=Zj.o,hours:=HH.o,output:=HOO.o},rfl,rfl⟩
       rw [<-Sh]at HU;clear Sh;have Jv: ∀j v,xf.cells[j]?=some v->WT.cell? ((⟨X,0,none⟩:Addr).add j)=some v:=λj v hj=>by rw [fj,HU.o.unit.cell j];exact hj
       go_wp2_with (first|(refine br rfl 55 _ rfl ⟨X,0,none⟩ rfl xf.cells _ Jv rfl rfl rfl ?_)|(refine cX rfl 55 _ _ rfl R kp.cells xf.cells HU.o.res rfl rfl ax rfl rfl ?_;intro Ci my eW))
       have hRV:=GR.o;have za:=ah (HU.o.ext.over eW hRV);have F_:=ah (HU.o.tape.but eW (λe=>sO e.symm))
       have Ga:Hid (aS Ci xf.aa xf.ac xf.away):=HU.o.away.eH eW (HU.o.af.ne HU.o.pos.2.2.1);have Si:Hid (ct Ci 2 xf.sa xf.sc (xf.aY.map dy.cells)):=HU.o.aY.but eW (HU.o.sf.ne HU.o.pos.2.2.1);have Jw:Hid (Fr V.heap.size xf.aa/\Fr V.heap.size xf.sa):=⟨HU.o.af.mono VO.o,HU.o.sf.mono VO.o⟩;exact bodyPost_ret (v:= .agg xf.cells.toArray) (jo 8 _ rfl rfl my rfl rfl rfl) rfl ⟨xf,bu,rfl,HBU.o,HF.o.1,Ga.o,Jw.o.1,Si.o,Jw.o.2,F_.o,za.o⟩
