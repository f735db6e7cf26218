/- Texts of the proof. -/
import Derived.Test.YtbnamicbjaaelaaGreatCg37
set_option linter.all false
set_option maxHeartbeats 2000000
set_option maxRecDepth 100000
namespace Go.Proofs.YtbnamicbjaaelaaGreat
open Go.Proofs.Tryz
open Go.RowKit
theorem mZ.one (x:mZ):x.cells.all (·.oneCell')=true:=rfl
structure kH (x:dK) (i:Nat) (hours:Nat):Prop where
 name:x.name=aW 98 i
 len:x.cV.length=hours
 cV: ∀z∈x.cV,0<=z/\z<14
 jF:x.jF=0\/(100<=x.jF/\x.jF<300)
structure nT (x:bW) (nb:Nat):Prop where
 name:x.name={data:= #[115,48]}
 fE:0<=x.fE/\x.fE<nb
 capacity:0<=x.capacity/\x.capacity<20
 initial:0<=x.initial/\x.initial<=x.capacity
 final:0<=x.final/\x.final<=x.capacity
 gN:0<=x.gN/\x.gN<8
 discharge:0<=x.discharge/\x.discharge<8
 eff:1<=x.en/\x.en<=4/\x.ed=4
structure H7 (x:fp) (nb hours:Nat):Prop where
 name:x.name={data:= #[116,48]}
 fE:0<=x.fE/\x.fE<nb
 imp:x.imp.length=hours/\ ∀z∈x.imp,0<=z/\z<12
 exp:x.exp.length=hours/\ ∀z∈x.exp,0<=z/\z<12
 bE:x.bE.length=hours/\ ∀z∈x.bE,0<=z/\z<40
def gT (l:List bn) (nb hh:Nat):Prop:= ∀j (hj:j<l.length),∃fr tb,fr<nb/\tb<nb/\fr≠tb/\qH l[j] j fr tb hh
def j7 (l:List aP) (nb hh:Nat):Prop:= ∀j (hj:j<l.length),∃bu,bu<nb/\uu l[j] j bu hh
def qJ (l:List cJ) (nl nu:Nat):Prop:= ∀j (hj:j<l.length),Ag l[j] j nl nu
structure gU (hh nb:Nat) (c:ay):Prop where
 hours:c.hours=(hh:Int)
 hr:1<=hh/\hh<=3
 res:c.aX.length=hh/\ ∀z∈c.aX,0<=z/\z<5
 SJ:c.aF.length=nb/\1<=nb/\nb<=4
 fE: ∀j (hj:j<c.aF.length),kH c.aF[j] j hh
 lines:c.lines.length<=7
 line:gT c.lines nb hh
 aA:1<=c.aA.length/\c.aA.length<=3
 unit:j7 c.aA nb hh
 stores:c.stores.length<=1
 store: ∀s∈c.stores,nT s nb
 bh:c.bh.length<=1
 tie: ∀t∈c.bh,H7 t nb hh
 outs:c.outs.length<=3
 o:qJ c.outs c.lines.length c.aA.length
theorem gU.lens {hh nb:Nat} {c:ay} (h:gU hh nb c):oX c:=by
 have h1:=h.SJ;have h2:=h.lines;have h3:=h.aA;have h4:=h.stores;have h5:=h.bh;have h6:=h.outs
 refine ⟨ae,ae,ae,ae,ae,ae,λo ho=> ?_⟩;obtain ⟨j,hj,rfl⟩:=List.getElem_of_mem ho;have:=(h.o j hj).moves.len;omega
theorem nU: ∀(l:List dy),(∀g∈l,1<=g.width/\g.width<=15/\ -2<=g.bE/\g.bE<=40)->0<=cG l/\cG l<=15*l.length
 | [],_=>by simp [cG]
 |g::l,h=>by
  have h1:=nU l (λg hg=>h g (List.mem_cons_of_mem _ hg));have h2:=h g aG;have h3:cG (g::l)=g.width+cG l:=by simp [cG]
  rw [h3,List.length_cons];omega
theorem MH (s d want:Int) (l:List Int):Jn s (d::l) want=if want<=s then 0 else Jn (s+d) l want+1:=rfl
theorem uX (w0 V:World) (c:ay) (h:Nat) (us:List Nat) (a:Option Addr) (cap:Nat) (hV:Ext w0 V) (hc:bm w0 c) (gA:iB c) (hh:(h:Int)<c.hours) (hu:nK c.aA.length us) (hne:0<us.length) (hI:aS V a cap (aR us)):
 Calls prog 32 #[.agg (C8 c),.int .i64 (h:Int),.slice a us.length cap] V λe w'=>e= .returned (i64 ((qF c h us:Nat):Int))/\Ext V w':=by
 try unfold C8
 have hle:=hI.le;have dS:=hI.cap
 rw [aN]at hle;have ZL:=gA.frame.aA;have L_:=ah (o5 gA (h:Int) (aR us));have Qe:=ah (mb gA (h:Int));have HIS:=ah (Jo (c:=c) (h:=(h:Int)) hu)
 have ue:us.length<=16:=by
  have h1:(mf c h (aR us) c.aA.length).length<=c.aA.length:=by
   unfold mf;rw [List.length_map];have:=List.length_filter_le (λ(u:Nat)=>hasB (aR us) (u:Int)) (List.range c.aA.length);rw [List.length_range]at this;exact this
  rw [HIS.o,List.length_map]at h1;omega
 have MI:Hid (qF c h us=Jn (i9 c h (aR us) c.aA.length) (desc (us.map (dG c h))) (jx c h)):=rfl;obtain ⟨gr,hgr⟩: ∃gr,gr=qF c h us:=⟨_,rfl⟩;rw [<-hgr]at MI⊢;have FH:=ah (λU (hU:Ext w0 U)=>Hg w0 U c h hU hc gA hh);have Ql:=ah (λU (hU:Ext w0 U)=>qc w0 U c (h:Int) hU hc ae);have HV:=ah hV;have HI:=ah hI
 clear hc gA hh hu hI hV hgr;go_enter func32,ntmps32
 go_upto_region 1 with fail
 obtain ⟨W,hW,x0,Z0,A0⟩:=aV V 32 c.cells;rw [show V.alloc (.cells (C8 c) 32)=W from hW.symm];obtain ⟨B,hB⟩: ∃B,B=V.heap.size:=⟨_,rfl⟩;rw [<-hB]at A0⊢;have HX:=ah x0;have HA:=ah A0
 clear hW x0 Z0 A0;have k0:=ay.at HA.o;have Qd:=ah (Ql.o W (HV.o.trans HX.o));clear hB;go_wp2_with fail
 refine Qd.o.mono ?_;rintro e W1 ⟨L,rfl,hT,x1,hL⟩;have HT:=ah hT;have eC:=ah (HX.o.trans x1);have mP:=ah (HA.o.ext x1)
 clear k0 hT x1 Qd Ql hL HX HA;go_wp2
 go_loopw [7,8,19] (λsv v ii wr=> ∃(k:Nat) (s:Int),k<=c.aA.length/\s=i9 c h (aR us) k/\sv= .int .i64 s/\aL wr W1.heap.size 3 1 v (dY (mf c h (aR us) k))/\Ext W1 wr/\ii= .int .i64 k) (λ_ _ ii _=>c.aA.length-(intOf ii).toNat)
 case atStart=>exact ⟨0,0,aZ,rfl,rfl,aL.nil _ _ _ _,ar,rfl⟩
 case round=>
  obtain ⟨k,s,hk,hs,rfl,hown,hE,rfl⟩:=hrel;by_cases hlt:k<c.aA.length
  .obtain ⟨t0,-⟩:=(HT.o.ext hE).cell k hlt
   have SK:=nJ c h (aR us) k;have SL:=F8 c h (aR us) k;have hr1:=L_.o k;have hr2:=Qe.o k
   obtain ⟨z,hz⟩: ∃z,z=dG c h k:=⟨_,rfl⟩;rw [<-hz]at t0 SK SL hr2;have jg:=ah (lV wr a cap (aR us) (k:Int) ((HI.o.ext eC.o).ext hE));rw [aN]at jg;have HO:=ah hown
   have HLEN:Hid ((mf c h (aR us) k).length<=k):=by
    show _<=_;unfold mf;rw [List.length_map];have:=List.length_filter_le (λ(u:Nat)=>hasB (aR us) (u:Int)) (List.range k);rw [List.length_range]at this;exact this
   have hw:IntKind.i64.wrap (s+z)=s+z:=by rw [IntKind.wrap_i64,hs];omega
   have XE:=ah SK;have XF:=ah SL;have HS:=ah hs
   generalize mf c h (aR us) k=il at*;have HE:=ah hE;have vY:=hE.size
   have iM:(0:Int)<=(k:Int):=ae;have iK:(k:Int)<(c.aA.length:Int):=ae;clear hs SK SL hown hE hz hr1 hr2;rcases Bool.eq_false_or_eq_true (hasB (aR us) (k:Int))with hq|hq
   .rw [hq]at jg
    have nX:Hid (s=i9 c h (aR us) (k+1)):=by show _=_;rw [XE.o,if_pos hq];exact HS.o
    have pY:Hid (mf c h (aR us) (k+1)=il++ [z]):=by show _=_;rw [XF.o,if_pos hq]
    have HOW:Hid (wr.ownsRow W1.heap.size 3 1 u8 il.length (dY il).flatten):=by
     have h5:=HO.o.own;rw [cf]at h5;exact h5
    clear hq;go_wp2_with fail
    refine jg.o.mono ?_;rintro e w1 ⟨rfl,eL⟩;rw [eL];clear eL
    go_wp2_with (at_builtin;refine bC _ rfl (.tmp 27) (.tmp 29) 22 rfl W1.heap.size 3 (.int .i64 0) 1 8 underlying22 Tryz.info_int rfl aq u8 il.length (dY il).flatten rfl ?c1 (some ⟨wr.heap.size,0,none⟩) 1 1 [i64 z] rfl rfl ?c2 ?c3 ?c4 ?c5 aq ?c6 ?_;rotate_right;intro v1 w5 ho he hb hz hv)
    case c1=>exact bZ HOW.o (ar.alloc _)
    case c2=>exact λ_=>⟨_,rfl,dH wr 3 [i64 z]⟩
    case c3=>intro u hu;rw [List.mem_singleton]at hu;subst hu;rfl
    case c4=>intro e;cases e
    case c5=>have:=HLEN.o;omega
    case c6=>have:=vY;simp;omega
    have x5:Ext W1 w5:=he.o W1 (HE.o.alloc _) bY;have jl:=HO.o.snoc (w':=w5) (v':=v1) (r:= [i64 z]) rfl (by rw [cf];exact ho.o);rw [<-kM]at jl;exact ⟨⟨k+1,s,ae,nX.o,bf,by rw [pY.o];exact jl,x5,bf⟩,a_⟩
   .rw [hq]at jg
    have hqn: ¬hasB (aR us) (k:Int)=true:=by rw [hq];simp
    have nX:Hid (s+z=i9 c h (aR us) (k+1)):=by show _=_;rw [XE.o,if_neg hqn,HS.o]
    have pY:Hid (mf c h (aR us) (k+1)=il):=by show _=_;rw [XF.o,if_neg hqn]
    clear hq hqn;go_wp2_with fail
    refine jg.o.mono ?_;rintro e w1 ⟨rfl,eL⟩;rw [eL];clear eL
    go_wp2
    exact ⟨⟨k+1,s+z,ae,nX.o,bf,by rw [pY.o];exact HO.o,HE.o,bf⟩,a_⟩
  .obtain rfl:k=c.aA.length:=ae
   rw [HIS.o]at hown;have hsr:=L_.o c.aA.length;rw [<-hs]at MI hsr;obtain ⟨ia,ic,rfl,hS,-⟩:=hown.recs aq
   have Qc: ∀x∈us.map (dG c h),0<=x/\x<=1048576:=λx hx=>by
    obtain ⟨u,_,rfl⟩:=List.mem_map.1 hx;exact Qe.o u
   have Nl:(us.map (dG c h)).length=us.length:=aG;rw [cf];generalize us.map (dG c h)=ml at*;have hI2:aS wr ia ic ml:=aS.nC hS (λz hz=>by have:=Qc z hz;unfold b_;omega);obtain ⟨ib,io,hia,-⟩:=hI2.cell 0 ae;subst hia;have Ja:=ah hI2;have XG:=ah (FH.o wr ((HV.o.trans eC.o).trans hE));have HE:=ah hE;have O7:=ah Nl;have XH:=ah Qc
   have k0:=ay.at (mP.o.ext hE);obtain ⟨wo,BP⟩: ∃wo:World,wo=wr:=⟨_,rfl⟩;subst BP;clear hs hown hS hI2 hE FH Nl Qc;go_wp2_with fail
   refine XG.o.mono ?_;rintro e W2 ⟨rfl,x2⟩;have HDS:=ah (zh W2 ib io ic ml (Ja.o.ext x2) (bA O7.o) (bA O7.o));have yP:=ah (HE.o.trans x2);obtain ⟨want,Qm⟩: ∃want,want=jx c h:=⟨_,rfl⟩;rw [<-Qm]at MI⊢;clear k0 x2 XG Ja Qm;go_wp2_with fail
   refine HDS.o.mono ?_;rintro e W3 ⟨g,gc,rfl,hg,x3⟩;have uY:(desc ml).length=us.length:=by rw [uW];exact O7.o
   have hdr: ∀x∈desc ml,0<=x/\x<=1048576:=λx hx=>XH.o x ((ur ml).mem_iff.1 hx);have Nl:=O7.o;have HG:=ah hg;have FP:=ah (yP.o.trans x3);have HDL:=ah uY;have HDR:=ah hdr
   have NA:=ah hsr;rw [Nl];generalize desc ml=D at*;clear hg x3 uY hdr HDS O7 XH hsr Nl;go_wp2
   go_loopw [7,11,41] (λsv lv ii wl=> ∃(k:Nat) (t:Int),k<=us.length/\0<=t/\t<=c.aA.length*1048576+k*1048576/\gr=k+Jn t (D.drop k) want/\sv= .int .i64 t/\lv= .int .i64 k/\wl=W3/\ii= .int .i64 k) (λ_ _ ii _=>us.length-(intOf ii).toNat)
   case atStart=>exact ⟨0,s,aZ,NA.o.1,bA NA.o.2,by rw [MI.o,List.drop_zero,Nat.zero_add],rfl,rfl,rfl,rfl⟩
   case round=>
    obtain ⟨k,t,hk,ht0,ht1,TQ,rfl,rfl,hwl,rfl⟩:=hrel;subst hwl;clear MI;by_cases E5:k<us.length
    .have hkD:k<D.length:=bA HDL.o
     have d0:=HG.o k hkD;have hdr:=HDR.o D[k] (List.getElem_mem hkD);rw [List.drop_eq_getElem_cons hkD,MH]at TQ;obtain ⟨d,hd⟩: ∃d,d=D[k]:=⟨_,rfl⟩;rw [<-hd]at d0 hdr TQ;have iM:(0:Int)<=(k:Int):=ae;have iK:(k:Int)<(us.length:Int):=ae;have hw:IntKind.i64.wrap (t+d)=t+d:=dW;have HGK:=ah TQ
     have Qh:Hid (0<=t+d/\t+d<=c.aA.length*1048576+((k+1:Nat):Int)*1048576):=by
      show _/\_;constructor<;>omega
     clear hd hdr TQ ht0 ht1;by_cases hwt:want<=t
     .have HQ:Hid (gr=k):=by show _=_;rw [HGK.o,if_pos hwt];omega
      go_wp2
      go_ret;exact ⟨by rw [HQ.o];rfl,eC.o.trans FP.o⟩
     .have HQ:Hid (gr=k+1+Jn (t+d) (D.drop (k+1)) want):=by show _=_;rw [HGK.o,if_neg hwt];omega
      go_wp2
      exact ⟨⟨k+1,t+d,ae,Qh.o.1,Qh.o.2,HQ.o,bf,bf,by first|trivial|rfl,bf⟩,a_⟩
    .obtain rfl:k=us.length:=ae
     have HQ:Hid (gr=us.length):=by
      show _=_;rw [TQ,List.drop_eq_nil_of_le (bA HDL.o)];rfl
     clear TQ ht0 ht1;go_wp2
     go_ret;exact ⟨by rw [HQ.o];rfl,eC.o.trans FP.o⟩
