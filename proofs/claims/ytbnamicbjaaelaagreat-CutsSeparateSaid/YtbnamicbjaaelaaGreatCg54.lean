/- Texts of the proof. -/
import Derived.Test.YtbnamicbjaaelaaGreatCg38
import Derived.Test.YtbnamicbjaaelaaGreatCg50
import Derived.Test.YtbnamicbjaaelaaGreatCg53
set_option linter.all false
set_option maxHeartbeats 4000000
set_option maxRecDepth 100000
namespace Go.Proofs.YtbnamicbjaaelaaGreat
open Go.Proofs.Tryz
open Go.RowKit
def u_ (w:World) (a:Option Addr) (c:Nat) (xs:List kF):Prop:=ct w 1 a c (xs.map kF.cells)/\ ∀x∈xs,mq w x.a x.c x.rs
theorem pZ.num {w:World} {r:cH} (h:pZ w r.a r.k r.c) (h2:pZ w r.b r.j r.d) (hk:r.k<=4) (hj:r.j<=4): ∃q,jZ w r q 4:=by
 obtain ⟨n,hn⟩:=h.2.2 ae;obtain ⟨m,hm⟩:=h2.2.2 ae;exact ⟨_,⟨n,m,hn,hm,rfl,Nat.le_trans hn.cI hk,Nat.le_trans hm.cI hj⟩,hk,hj⟩
theorem u_.on {w:World} {a:Option Addr} {c:Nat} {xs:List kF} (h:u_ w a c xs) (hr: ∀u (hu:u<xs.length),G9 xs[u].rs): ∃f,ow w a c xs f:=by
 have hq: ∀u i,∃q:Rat,∀(hu:u<xs.length) (hi:i<xs[u].rs.length),jZ w xs[u].rs[i] q 4:=λu i=>by
  by_cases hu:u<xs.length
  .by_cases hi:i<xs[u].rs.length
   .obtain ⟨h1,h2⟩:=(h.2 _ (List.getElem_mem hu)).num i hi
    obtain ⟨q,hq⟩:=h1.num h2 ((hr u hu).2 i hi).1 ((hr u hu).2 i hi).2;exact ⟨q,λ_ _=>hq⟩
   .exact ⟨0,λ_ e=>absurd e hi⟩
  .exact ⟨0,λe=>absurd e hu⟩
 refine ⟨λu i=>Classical.choose (hq u i),h.1,λu hu=> ?_⟩;have h1:=h.2 _ (List.getElem_mem hu)
 exact ⟨⟨h1.le,h1.cap⟩,λi hi=>by
  obtain ⟨b,o,ha,c0,c1,c2⟩:=h1.cell i hi;exact ⟨b,o,ha,⟨c0,c1,c2,trivial⟩,Classical.choose_spec (hq u i) hu hi⟩⟩
theorem u_.at {w:World} {a:Option Addr} {c:Nat} {xs:List kF} (h:u_ w a c xs) (u:Nat) (hu:u<xs.length): ∃b o x,a=some ⟨b,o,none⟩/\x=xs[u]/\mq w x.a x.c x.rs/\ ∀Y,Ext w Y->Y.cell? ⟨b,o+u,none⟩=some (.slice x.a x.rs.length x.c):=by
 obtain ⟨b,o,ha,hc⟩:=h.1.cs u hu;refine ⟨b,o,xs[u],ha,rfl,h.2 _ (List.getElem_mem hu),λY e=> ?_⟩;have:=hc.1;rw [Nat.mul_one,Nat.add_zero]at this;exact aC e this
theorem mq.ext {w w':World} {a:Option Addr} {c:Nat} {rs:List cH} (h:mq w a c rs) (e:Ext w w'):mq w' a c rs:=
 ⟨h.le,h.cap,h.Kq,λi hi=>by
   obtain ⟨b,o,ha,c0,c1,c2⟩:=h.cell i hi;exact ⟨b,o,ha,aC e c0,aC e c1,aC e c2⟩,λi hi=>by
   obtain ⟨h1,h2⟩:=h.num i hi;exact ⟨⟨h1.1,h1.2.1,λk=>by obtain ⟨n,hn⟩:=h1.2.2 k;exact ⟨n,hn.ext e⟩⟩,⟨h2.1,h2.2.1,λk=>by obtain ⟨n,hn⟩:=h2.2.2 k;exact ⟨n,hn.ext e⟩⟩⟩⟩
theorem qK (V:World) (a0:Option Addr) (c0:Nat) (l:List Int) (a1:Option Addr) (c1:Nat) (raw:List Int) (a2:Option Addr) (c2:Nat) (xs:List kF) (c:ay) (X_:Bool)
 (hl:aS V a0 c0 l) (hr:aS V a1 c1 raw) (hx:u_ V a2 c2 xs) (hc:bm V c) (hm: ∀o∈c.outs,o.moves.length<=5900000000000):
 Calls prog 4 #[.slice a0 l.length c0,.slice a1 raw.length c1,.slice a2 xs.length c2,.agg (C8 c),.bool X_] V λe w'=>e= .returned (.bool true)/\Ext V w':=by
 try unfold C8
 have HL:=ah hl;have HR:=ah hr;have HXS:=ah hx;have HC:=ah hc;have HM:=ah hm
 have hle:=hx.1.le;have dS:=hx.1.cap
 rw [List.length_map]at hle;clear hl hr hx hc hm;go_enter func4,ntmps4
 go_upto_region 1 with fail
 generalize hW:World.alloc V _=W;obtain ⟨G,hG,x0,A0⟩:=bV hW;rw [<-hG];have K: ∀Y,Ext W Y->_:=λY e=>ay.at (A0.ext e);have HX:=ah x0;have HGV:=ah hG;have Dz:=ah A0
 have s:=Ext.refl W;have Xl:=ah (λU (h:Ext W U)=>O9 U c (HC.o.ext (HX.o.trans h)));clear hW hG x0 A0;go_wp2_with fail
 refine (MK W a0 a1 l.length raw.length c0 c1).mono ?_;rintro e w ⟨rfl,hw⟩;rw [hw];clear hw;cases (decide (l.length<=200)&&decide (raw.length<=200))with
 |false=>
  go_wp2_with fail
  all_goals (go_ret;exact ⟨rfl,HX.o⟩)
 |true=>
 by_cases h6:(6:Int)<(xs.length:Int)
 .go_wp2_with fail
  all_goals (go_ret;exact ⟨rfl,HX.o⟩)
 go_wp2_with fail
 refine (Xl.o W s).mono ?_;rintro e W1 ⟨t,rfl,ht,x1⟩;have HTT:=ah ht;replace s:=s.trans x1;clear x1 Xl ht;cases t with
 |false=>
  go_wp2_with fail
  all_goals (go_ret;exact ⟨rfl,HX.o.trans s⟩)
 |true=>
 have Xd:Hid (oX c/\c.aA.length<=4):=by
  have h:=HTT.o rfl;exact ⟨⟨ae,ae,ae,ae,ae,ae,HM.o⟩,h.2.2.1⟩
 clear HTT HM;go_wp2
 go_loopw [11] (λii wr=> ∃i:Nat,i<=xs.length/\ii= .int .i64 i/\(∀u (hu:u<xs.length),u<i->G9 xs[u].rs)/\Ext W wr) (λii _=>xs.length-(intOf ii).toNat)
 case atStart=>exact ⟨0,aZ,rfl,λu _ h=>absurd h (Nat.not_lt_zero _),s⟩
 case round=>
  clear s;obtain ⟨i,hi,rfl,hR,s⟩:=hrel;have D7:=ah hR;clear hR;by_cases hlt:i<xs.length
  .have b1:(i:Int)<(xs.length:Int):=ae
   have b0:(0:Int)<=(i:Int):=ae;obtain ⟨g,o,x,rfl,hx,hrow,cx⟩:=HXS.o.at i hlt;have cx:=cx wr (HX.o.trans s);have NA:=ah (JK wr x.a x.c x.rs (hrow.ext (HX.o.trans s)));have rZ:=ah hx;have Ge:=hrow.le;have agk:=hrow.cap
   clear hx hrow;go_wp2_with fail
   refine NA.o.mono ?_;rintro e w2 ⟨b,rfl,hb,hw⟩;rw [<-hw];clear hw;cases b with
   |false=>
    go_wp2
    go_ret;exact ⟨rfl,HX.o.trans s⟩
   |true=>
    have nk:Hid (∀u (hu:u<xs.length),u<i+1->G9 xs[u].rs):=λu hu h=>by
     rcases Nat.lt_or_ge u i with q|q
     .exact D7.o u hu q
     .obtain rfl:u=i:=ae
      rw [<-rZ.o];exact hb rfl
    clear hb;go_wp2
    exact ⟨⟨i+1,hlt,bf,nk.o,s⟩,a_⟩
  .obtain rfl:i=xs.length:=ae
   obtain ⟨f,hf⟩:=HXS.o.on λu hu=>D7.o u hu hu;have HF:=ah hf;clear hf D7 HXS;go_wp2_with fail
   refine (Pg wr a0 c0 l (HL.o.ext (HX.o.trans s))).mono ?_;rintro e W3 ⟨hh,nb,m,rfl,hc,hm,ha,-,x3⟩;go_upto_region 9 with(refine bP rfl 32 _ _ rfl kG.cells m.cells rfl rfl ax rfl rfl ?_)
   have hWM:=(s.trans x3).size;generalize KZ:World.alloc W3 _=W4;obtain ⟨M,hM,x4,A4⟩:=bV KZ;rw [<-hM];replace s:=s.trans (x3.trans x4);have Ya:=ah (hc.ext x4);have uy:Hid (oX m/\m.aA.length<=4):=⟨hm.lens,bA hm.aA⟩
   have HMH:Hid ((0<=m.hours/\m.hours<=1000)/\m.aA.length<=1000):=by have h1:=hm.hours;have h2:=hm.hr;have h3:=hm.aA;show _/\_;omega
   have O7:Hid (G<M/\V.heap.size<=M/\M<W4.heap.size):=by have h1:=Dz.o.lt;have h2:=A4.lt;have h3:=HX.o.size;show _/\_;omega
   have HA:=ah A4;have K4: ∀Y,Ext W4 Y->_:=λY e=>ay.at (A4.ext e);have Lx:=ah s;have s:=Ext.refl W4;clear KZ hM x3 x4 A4 hc hm ha hWM;go_upto_if 46 with fail
   go_cut [2] (λv2 wx=> ∃(a':Option Addr) (k':Nat) (on:List kF) (f':Nat->Nat->Rat),v2= .slice a' on.length k'/\Hid (ow wx a' k' on f'/\El M a' on)/\Ext W4 wx)
   case first=>
    cases X_ with
    |false=>
     go_wp2
     go_meet
     exact ⟨a2,c2,xs,f,rfl,⟨HF.o.ext (HX.o.trans Lx.o),HF.o.yg O7.o.2.1⟩,s⟩
    |true=>
     go_wp2_with fail
     refine (Em W4 m a1 c1 raw Ya.o (HR.o.ext (HX.o.trans Lx.o)) HMH.o.1 HMH.o.2).mono ?_;rintro e w5 ⟨a',k',on,f',rfl,h1,h2,x5⟩;have H1:=ah (And.intro h1 (h2 M O7.o.2.2));replace s:=s.trans x5;clear h1 h2 x5;go_wp2
     go_meet
     exact ⟨a',k',on,f',rfl,H1.o,s⟩
   case rest=>
    obtain ⟨a',k',on,f',rfl,HO,s⟩:=hcut;generalize wc=W5 at*;have h0:=ah ((HX.o.trans Lx.o).trans s);have HA:=ah (HA.o.ext s);have Ya:=ah (Ya.o.ext s);have Dz:=ah (Dz.o.ext (Lx.o.trans s))
    clear s K K4;go_wp2
    go_loopw [13] (λii wr=> ∃(i:Nat) (cc:ay),i<=2/\ii= .int .i64 i/\Hid (aT wr M 32 cc.cells/\bm wr cc/\(oX cc/\cc.aA.length<=4)/\aT wr G 32 c.cells/\ow wr a' k' on f')/\Ext V wr) (λii _=>2-(intOf ii).toNat)
    case atStart=>exact ⟨0,m,ae,rfl,⟨HA.o,Ya.o,uy.o,Dz.o,HO.o.1⟩,h0.o⟩
    case round=>
     clear HA Ya uy Dz h0;obtain ⟨i,cc,hi,rfl,HH,hX⟩:=hrel;have HX:=ah hX;clear hX;by_cases hlt:i<2
     .have b1:(i:Int)<2:=ae
      have K: ∀Y,Ext wr Y->_:=λY e=>ay.at (HH.o.1.ext e);have s:=Ext.refl wr;have hA: ∀Y,Ext wr Y->aT Y M 32 cc.cells:=λY e=>HH.o.1.ext e;have HAY:=ah hA;clear hA;go_wp2_with fail
      refine (Ej wr cc a' k' on f' HH.o.2.1 HH.o.2.2.1.1 HH.o.2.2.2.2 HH.o.2.2.1.2).mono ?_;intro e w6 hq;obtain ⟨D1,g1,k1,cs,rfl,hC1,Xa,x6⟩:=hq.val;have zq:=ah hC1;have Th:=ah Xa
      replace s:=s.trans x6;have HS6:=ah x6;clear hq hC1 Xa x6;go_wp2_with fail
      refine (B7 w6 cc a' k' on f' (HH.o.2.1.ext HS6.o) HH.o.2.2.1.1 (HH.o.2.2.2.2.ext HS6.o) HH.o.2.2.1.2).mono ?_;intro e w7 hq;obtain ⟨D2,g2,k2,ds,rfl,Qp,hM2,x7⟩:=hq.val;have qM:=ah (And.intro (zq.o.ext x7) Qp);have DO:=ah (Th.o.trans hM2.symm);have qO:=ah (O5 Th.o HH.o.2.2.1.2)
      replace s:=s.trans x7;clear hq Qp hM2 x7;generalize pg cc on f'=er at*;go_wp2_with fail
      refine (Ez _).mono ?_;rintro e w8 ⟨rfl,x8⟩;have RM:=ah (And.intro (qM.o.1.ext x8) (qM.o.2.ext x8));replace s:=s.trans x8;clear x8;go_wp2_with fail
      refine (MG w8 D1 D2 g1 g2 k1 k2 cs ds RM.o.1 RM.o.2 DO.o qO.o).mono ?_;rintro e w9 ⟨rfl,x9⟩;replace s:=s.trans x9;clear x9;have hML:=HH.o.1.ext s;have hGL:=(HH.o.2.2.2.1.ext s);have hne:=O7.o;have Hp:=ah hGL;have hGA:=hGL.adds
      go_wp2_with (first|(refine br rfl 32 _ rfl ⟨G,0,none⟩ rfl c.cells _ hGA rfl rfl ax ?_)|(refine cX rfl 32 _ _ rfl M cc.cells c.cells hML rfl rfl ax rfl rfl ?_;intro tD my eW))
      have Yb:Ext V tD:=eW.ext (HX.o.trans s) hne.2.1;exact ⟨⟨i+1,c,ae,bf,⟨my,HC.o.ext Yb,Xd.o,Hp.o.but eW ae,(HH.o.2.2.2.2.ext s).but eW HO.o.2⟩,Yb⟩,a_⟩
     .obtain rfl:i=2:=ae
      go_wp2
      go_ret;exact ⟨rfl,HX.o⟩
