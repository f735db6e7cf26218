/- Texts of the proof. -/
import Derived.Test.YtbnamicbjaaelaaGreatCg27
import Derived.Test.YtbnamicbjaaelaaGreatCg28
import Derived.Test.YtbnamicbjaaelaaGreatCg29
set_option linter.all false
set_option maxHeartbeats 2000000
set_option maxRecDepth 100000
namespace Go.Proofs.YtbnamicbjaaelaaGreat
open Go.Proofs.Tryz
open Go.RowKit
theorem Tryz.info_cutA:(Tryz.prog.info? 24).map (λi=>(i.zero,i.size,i.bytes))=some (some (.agg #[i64 0,i64 0,.slice none 0 0,i64 0,i64 0,i64 0]),6,64):=ax
theorem xV {c:ay} {on:List kF} {f:Nat->Nat->Rat} (h:cE c≠0):pg c on f=cE c:=by unfold pg;rw [if_pos h]
theorem xW {c:ay} {on:List kF} {f:Nat->Nat->Rat} (h:cE c=0) (h2: ¬pN c on):pg c on f=4:=by unfold pg;rw [if_neg (λe=>e h),if_pos h2]
theorem xY {c:ay} {on:List kF} {f:Nat->Nat->Rat} (h:cE c=0) (h2:pN c on) (h3: ¬tj c f):pg c on f=3:=by unfold pg;rw [if_neg (λe=>e h),if_neg (λe=>e h2),if_pos h3]
theorem Hq {c:ay} {on:List kF} {f:Nat->Nat->Rat} (h:cE c=0) (h2:pN c on) (h3:tj c f):pg c on f=0:=by unfold pg;rw [if_neg (λe=>e h),if_neg (λe=>e h2),if_neg (λe=>e h3)]
theorem iP.err {V w:World} {c:ay} {on:List kF} {f:Nat->Nat->Rat} {e:Int} (h:pg c on f=e) (h0:e≠0) (x:Ext V w):iP V c on f (.returned (.tuple #[.slice none 0 0,i64 e])) w:=⟨x,.inl ⟨by rw [h];exact h0,by rw [h]⟩⟩
theorem Ms: ∀n,n<=4->wrap64 ((2:Int)^n)=((2^n:Nat):Int):=by decide+kernel
theorem Gg: ∀n,n<=4-> ∀b,b<2^n->0<b->members b n≠ []:=by decide+kernel
theorem OV {n:Nat} {x:Nat->Rat} {cap:Nat->Int} {need:Int} {bD l:List Nat} (h: ¬(Ka n x cap need l/\(bD= []\/Cj x l bD))):fD n x cap need bD l=bD:=if_neg h
theorem Mt {n:Nat} {x:Nat->Rat} {cap:Nat->Int} {need:Int} {bD l:List Nat} (h:Ka n x cap need l/\(bD= []\/Cj x l bD)):fD n x cap need bD l=l:=if_pos h
theorem B7 (V:World) (c:ay) (a:Option Addr) (oc:Nat) (on:List kF) (f:Nat->Nat->Rat) (hc:bm V c) (hl:oX c) (hO:ow V a oc on f) (hn:c.aA.length<=4):
 Calls prog 18 #[.agg (C8 c),.slice a on.length oc] V (iP V c on f):=by
 try unfold C8
 have eT:=ah hc;have oB:=ah hl;have HO:=ah hO;have qG:Hid (cE c=0->iB c):=pM
 have DN:=ah (@xV c on f);have I5:=ah (@xW c on f);have NA:=ah (@xY c on f);have Qg:=ah (@Hq c on f)
 have W_:=ah (λU (hU:Ext V U)=>Ai U c (hc.ext hU) hl);have hle:=hO.recs.le;have dS:=hO.recs.cap
 rw [List.length_map]at hle;generalize hce:cE c=ce at*;clear hc hl hO;go_enter func18,ntmps18
 go_upto_region 1 with fail
 generalize hW:World.alloc V _=W;obtain ⟨B,hB,x0,A0⟩:=bV hW;rw [<-hB];have K: ∀Y,Ext W Y->_:=λY e=>ay.at (A0.ext e);have HX:=ah x0;have HB:=ah hB
 have s:=Ext.refl W;clear hW hB x0 A0;go_wp2_with fail
 refine (W_.o W HX.o).mono ?_;rintro e w1 ⟨ek,ei,ef,rfl,x1⟩;replace s:=s.trans x1;go_upto_region 2 with fail
 generalize hW2:World.alloc w1 _=W2;obtain ⟨B2,hB2,x2,-⟩:=bV hW2;replace s:=s.trans x2;clear hW2 hB2 x1 x2 W_;by_cases hz:ce=0
 rotate_left
 .have tz:(ce !=0)=true:=by simpa using hz
  have HQ:=ah (iP.err (DN.o hz) hz (HX.o.trans s));clear hz;go_wp2
  exact bodyPost_ret ax rfl HQ.o
 have HZ:=ah hz;have tz:(ce !=0)=false:=by simpa using hz
 have gA:=ah (qG.o hz);clear hz qG DN;by_cases hlen:on.length=c.aA.length
 rotate_left
 .have t2:((on.length:Int) !=(c.aA.length:Int))=true:=by simp;omega
  have HQ:=ah (iP.err (I5.o HZ.o λe=>hlen e.1) aq (HX.o.trans s));go_wp2
  exact bodyPost_ret ax rfl HQ.o
 have t2:((on.length:Int) !=(c.aA.length:Int))=false:=by simp;omega
 have Dv:=ah hlen;clear hlen;go_wp2
 go_loopw [8] (λii wr=> ∃i:Nat,i<=on.length/\ii= .int .i64 i/\(∀u (hu:u<on.length),u<i->(on[u].rs.length:Int)=c.hours)/\Ext W wr) (λii _=>on.length-(intOf ii).toNat)
 case atStart=>exact ⟨0,aZ,rfl,λu hu h=>absurd h (Nat.not_lt_zero _),s⟩
 case round=>
  clear s;obtain ⟨i,hi,rfl,hR,s⟩:=hrel;have HR:=ah hR;clear hR;by_cases hlt:i<on.length
  .have b1:(i:Int)<(on.length:Int):=ae
   have b0:(0:Int)<=(i:Int):=ae;obtain ⟨g,o,x,rfl,hx,hrow,c1⟩:=(HO.o.ext HX.o).at i hlt;have rZ:=ah hx;have Ge:=hrow.le;clear hx hrow;go_wp2_with fail
   refine wG (λw=>Ext W w) s.drew λs=> ?_;generalize wr.drew=Y at*;refine wV 0 s ?_;refine wV 1 s ?_;refine wV 2 s ?_;refine wV 3 s ?_;refine wV 4 s ?_;refine wV 5 s ?_;refine wV 6 s ?_;refine wV 7 s ?_;refine wD ?_;by_cases h4:(x.rs.length:Int)=c.hours
   .have t4:((x.rs.length:Int) !=c.hours)=false:=by simpa using h4
    have nk:Hid (∀u (hu:u<on.length),u<i+1->(on[u].rs.length:Int)=c.hours):=λu hu h=>by
     rcases Nat.lt_or_ge u i with q|q
     .exact HR.o u hu q
     .obtain rfl:u=i:=ae
      rw [<-rZ.o];exact h4
    clear h4;go_wp2
    exact ⟨⟨i+1,hlt,bf,nk.o,s⟩,a_⟩
   .have t4:((x.rs.length:Int) !=c.hours)=true:=by simpa using h4
    have HQ:=ah (iP.err (I5.o HZ.o λe=>h4 (e.2 x (by rw [rZ.o];exact List.getElem_mem hlt))) aq (HX.o.trans s));clear h4;go_wp2
    exact bodyPost_ret ax rfl HQ.o
  .obtain rfl:i=on.length:=ae
   have OX:Hid (pN c on):=⟨Dv.o,λx hx=>by obtain ⟨u,hu,rfl⟩:=List.mem_iff_getElem.1 hx;exact HR.o u hu hu⟩;obtain ⟨H,hH⟩: ∃H:Nat,c.hours=(H:Int):=⟨c.hours.toNat,bA gA.o.frame.hours⟩;have HH:=ah (And.intro hH (show H<=24 by have:=gA.o.frame.hours;omega));have hHB:=HH.o.2;rw [hH]at K;have Mu:Hid (∀u h,u<on.length->h<H-> ¬(0<=f u h/\f u h<=1)->pg c on f=3):=λu h hu hh q=>NA.o HZ.o OX.o λe=>q (e u (by rw [<-Dv.o];exact hu) h (by rw [hH];omega));have Jh:Hid (∀x∈on,x.rs.length=H):=λx hx=>bA (OX.o.2 x hx);clear HR I5 NA hH;go_wp2
   go_loopw [9] (λii wr=> ∃i:Nat,i<=on.length/\ii= .int .i64 i/\(∀u,u<i-> ∀h,h<H->0<=f u h/\f u h<=1)/\Ext W wr) (λii _=>on.length-(intOf ii).toNat)
   case atStart=>exact ⟨0,aZ,rfl,λu h=>absurd h (Nat.not_lt_zero _),s⟩
   case round=>
    clear s;obtain ⟨i,hi,rfl,hR,s⟩:=hrel;have HR:=ah hR;clear hR;by_cases hlt:i<on.length
    .have b1:(i:Int)<(on.length:Int):=ae
     go_wp2
     go_loopw [10] (λii wr=> ∃h:Nat,h<=H/\ii= .int .i64 h/\(∀k,k<h->0<=f i k/\f i k<=1)/\Ext W wr) (λii _=>H-(intOf ii).toNat)
     case atStart=>exact ⟨0,aZ,rfl,λu h=>absurd h (Nat.not_lt_zero _),s⟩
     case round=>
      clear s;obtain ⟨h,hh,rfl,hT,s⟩:=hrel;have HT:=ah hT;clear hT;by_cases JB:h<H
      .have b2:(h:Int)<(H:Int):=ae
       have b3:(0:Int)<=(h:Int):=ae;have b0:(0:Int)<=(i:Int):=ae;obtain ⟨g,o,x,rfl,hx,hrow,c1⟩:=(HO.o.ext HX.o).at i hlt;have Ge:=hrow.le;have tQ:=Jh.o x (by rw [hx];exact List.getElem_mem hlt);have hkx:h<x.rs.length:=ae;obtain ⟨g3,o3,Ko,hc3,Nz⟩:=hrow.cell h hkx;rw [Ko]at c1;have c3: ∀Y,Ext W Y->_:=λY e=>hc3.ext e;simp only [Cs,cH.cells,Nat.add_zero]at c3;generalize x.rs[h]=r at*;have TI:=ah (λU (hU:Ext W U)=>IQ U r _ 4 (Nz.ext hU) aq);have Sp:=ah (λU (hU:Ext W U) r2 (h2:jZ U r2 1 1)=>np U r r2 _ 1 4 1 (Nz.ext hU) h2 aq);have q1:= @sign_neg (f i h);have q2:= @vQ (f i h) 1
       generalize (f i h).num.sign=z1 at*;generalize jJ (f i h) 1=z2 at*;have nX:=ah q1;have pY:=ah q2
       have Sq:=ah (Mu.o i h hlt JB);have e1:(h:Int)<(x.rs.length:Int):=ae;clear q1 q2 hx hrow Ko hc3 Nz tQ;go_wp2_with fail
       refine wG (λw=>Ext W w) s.drew λs=> ?_;generalize wr.drew=Y at*;refine wV 0 s ?_;refine wV 1 s ?_;refine wV 2 s ?_;refine wV 3 s ?_;refine wV 4 s ?_;refine wV 5 s ?_;refine wV 6 s ?_;refine wR 7 λK' hK=> ?_;rw [if_pos eN];go_simp;refine (TI.o Y s).mono ?_;rintro e w3 ⟨rfl,x3⟩;refine hK.o _ _ (s.trans x3) λs=> ?_;clear hK K' x3;by_cases hs:z1<0
       .have HQ:=λU (hU:Ext W U)=>iP.err (Sq.o λe=>Rat.not_le.2 (nX.o.1 hs) e.1) aq (HX.o.trans hU)
        have HQ:=ah HQ;refine wV 8 s ?_;refine wV 9 s ?_;refine wN 10 s ?_;refine wN 11 s ?_;refine wN 12 s ?_;refine wN 13 s ?_;refine wN 14 s ?_;refine wN 15 s ?_;refine wN 16 s ?_;refine wN 17 s ?_;refine wN 18 s ?_;refine wN 19 s ?_;refine wV 20 s ?_;refine wD ?_;go_wp2
        exact bodyPost_ret ax rfl (HQ.o _ s)
       .have hs2:0<=f i h:=Rat.not_lt.1 λe=>hs (nX.o.2 e)
        have zT:=ah hs2;clear hs2;refine wV 8 s ?_;refine wV 9 s ?_;refine wV 10 s ?_;refine wV 11 s ?_;refine wV 12 s ?_;refine wV 13 s ?_;refine wV 14 s ?_;refine wV 15 s ?_;refine wV 16 s ?_;refine wR 17 λK' hK=> ?_;rw [if_pos eN];go_simp;refine (rQ _ 1 aq aq).mono ?_;rintro e w3 ⟨r2,rfl,hN,-,x3⟩;refine hK.o _ _ (s.trans x3) λs=> ?_;have HN:=ah hN;clear hN
        clear hK K' x3;refine wR 18 λK' hK=> ?_;rw [if_pos eN];go_simp;refine (Sp.o _ s r2 HN.o).mono ?_;rintro e w3 ⟨rfl,x3⟩;refine hK.o _ _ (s.trans x3) λs=> ?_;clear hK K' x3;refine wV 19 s ?_;refine wV 20 s ?_;refine wD ?_;by_cases hc2:0<z2
        .have HQ:=ah (iP.err (Sq.o λe=>Rat.not_le.2 (pY.o.1 hc2) e.2) aq (HX.o.trans s))
         go_wp2
         exact bodyPost_ret ax rfl HQ.o
        .have lX:Hid (∀k,k<h+1->0<=f i k/\f i k<=1):=λk hk=>by
          rcases Nat.lt_or_ge k h with q|q
          .exact HT.o k q
          .obtain rfl:k=h:=ae
           exact ⟨zT.o,Rat.not_lt.1 λe=>hc2 (pY.o.2 e)⟩
         go_wp2
         exact ⟨⟨h+1,JB,bf,lX.o,s⟩,a_⟩
      .obtain rfl:h=H:=ae
       have nk:Hid (∀u,u<i+1-> ∀k,k<h->0<=f u k/\f u k<=1):=λu hu k hk=>by
        rcases Nat.lt_or_ge u i with q|q
        .exact HR.o u q k hk
        .obtain rfl:u=i:=ae
         exact HT.o k hk
       go_wp2
       exact ⟨⟨i+1,hlt,bf,nk.o,s⟩,a_⟩
    .have L_:Hid (tj c f):=λu hu k hk=>HR.o u (bA Dv.o) k (bA HH.o.1)
     have HS0:=ah (Qg.o HZ.o OX.o L_.o);have HW0:=ah s.size;clear HR Qg Mu;go_wp2
     go_loopw [11,12] (λv ii wr=> ∃(h:Nat) (ga:Option Addr) (gc:Nat) (cs:List kN),h<=H/\ii= .int .i64 h/\v= .slice ga cs.length gc/\CL W.heap.size ga gc cs wr/\cs.map (λx=>(x.h,x.l))=nN c f h/\Ext W wr) (λ_ ii _=>H-(intOf ii).toNat)
     case atStart=>exact ⟨0,none,0,[],aZ,rfl,rfl,CL.nil _ _,rfl,s⟩
     case round=>
      clear s HW0 hi hlt;obtain ⟨h,ga,gc,cs,hh,rfl,rfl,hC,hM,s⟩:=hrel;have HC:=ah hC;have HM:=ah hM
      clear hC hM;by_cases JB:h<H
      .have b2:(h:Int)<(H:Int):=ae
       have b3:(0:Int)<=(h:Int):=ae;obtain ⟨x,hx⟩: ∃x,x=λu=>f u h:=⟨_,rfl⟩;obtain ⟨fold,hf⟩: ∃fold:Nat->List Nat,fold=λb=>(((List.range b).drop 1).map (λb=>members b c.aA.length)).foldl (fD c.aA.length x (dG c h) (jx c h)) []:=⟨_,rfl⟩;have vA:Hid (fold (2^c.aA.length)=pd c f h):=by show _=_;rw [hf,hx];rfl
       have TG:Hid (∀b,0<b->fold (b+1)=fD c.aA.length x (dG c h) (jx c h) (fold b) (members b c.aA.length)):=λb hb=>by rw [hf];exact BZ _ _ _ _ b hb
       have HF0:Hid (fold 1= []):=by show _=_;rw [hf];rfl
       have HWT:=ah (λU (hU:Ext W U) l g k (hI:aS U g k (aR l)) (hl: ∀u∈l,u<on.length) (h4:l.length<=4)=>Gd U a oc on f (HO.o.ext (HX.o.trans hU)) h (λy hy=>by rw [Jh.o y hy];exact JB) l g k hI hl h4);rw [<-hx]at HWT;have NB:=ah (λU (hU:Ext W U) l g k (hI:aS U g k (aR l))=>by have q:=D5 V U c h (aR l) g k (HX.o.trans hU) eT.o gA.o (bA HH.o.1) hI;unfold C8 at q;rw [aN,HH.o.1]at q;exact q);have hwp:=Ms _ hn;have hP:2^c.aA.length<=2^4:=Nat.pow_le_pow_right aq hn;have hP1:1<=2^c.aA.length:=Nat.one_le_two_pow;have Ts:Hid (∀b,0<b->b<2^c.aA.length->members b c.aA.length≠ []):=λb h1 h2=>Gg _ hn b h2 h1;generalize 2^c.aA.length=P at*;clear hx hf;go_wp2_with fail
       obtain ⟨Wh,hWh⟩: ∃Wh,Wh=wr:=⟨_,rfl⟩;subst hWh;have HSW:=ah s;go_loopw [13,14] (λv ii wb=> ∃(b:Nat) (g:Option Addr) (k:Nat) (bl:List Nat),1<=b/\b<=P/\ii= .int .i64 b/\v= .slice g bl.length k/\(aS wb g k (aR bl)/\Fr Wh.heap.size g)/\bl=fold b/\((∀u∈bl,u<on.length)/\bl.length<=4)/\Ext Wh wb) (λ_ ii _=>P-(intOf ii).toNat)
       case atStart=>exact ⟨1,none,0,[],bY,hP1,rfl,rfl,⟨aS.nil _,Fr.none _⟩,HF0.o.symm,⟨(λu h=>nomatch h),aq⟩,ar⟩
       case round=>
        clear s HF0;obtain ⟨b,g,k,bl,hb1,hb2,rfl,rfl,hI,hB,hU,s⟩:=hrel;have HI:=ah hI;have qB:=ah hB;have HU:=ah hU
        clear hI hB hU;have zv:=ah s;replace s:=HSW.o.trans s;by_cases TC:b<P
        .have b4:(b:Int)<(P:Int):=ae
         go_wp2_with fail
         refine (DZ wr b c.aA.length ae hn).mono ?_;rintro e w3 ⟨g1,k1,rfl,Xa,x3⟩;have HST:=ah (TG.o b ae);have Sr:=ah (o_ b c.aA.length);have RG:Hid (∀u∈members b c.aA.length,u<on.length):=λu hu=>by have:=List.mem_filter.1 hu;have:=List.mem_range.1 this.1;have:=Dv.o;omega
         have Za:=ah (Ts.o b ae TC);generalize members b c.aA.length=m at*;have h5:=DX Xa (lY RG.o ae);have BG:=ah h5;have Ss:=ah (zv.o.trans x3);have OD:=ah x3
         replace s:=s.trans x3;clear Xa h5 x3;go_wp2_with fail
         refine (HWT.o w3 s m g1 k1 BG.o.1 RG.o (bA Sr.o)).mono ?_;rintro e w4 ⟨r,rfl,hN,x4⟩;go_upto_region 29 with(refine bP rfl 92 _ _ rfl [.bool false,.slice none 0 0,.slice none 0 0] [.bool r.s,.slice r.a r.k r.c,.slice r.b r.j r.d] rfl rfl ax rfl rfl ?_)
         generalize K0:World.alloc w4 _=W5;obtain ⟨B5,VN,x5,A5⟩:=bV K0;rw [<-VN];have G: ∀Y,Ext W5 Y->_:=λY e=>(A5.ext e).cs;simp only [Cs,Nat.zero_add]at G;have K5: ∀Y,Ext W5 Y->_:=λY e=>K Y ((s.trans (x4.trans x5)).trans e);have HN:=ah (hN.ext x5);have lW:=ah (x4.trans x5);have YM:=ah (s.trans lW.o);have s:=Ext.refl W5;clear K0 VN A5 hN x4 x5;rw [<-qB.o]at HST;have PK:=ah (λq=>HST.o.trans (OV q));have Hr:=ah (λq=>HST.o.trans (Mt q))
         have Qg:=Ad c h m c.aA.length;refine wG (λw=>Ext W5 w) s.drew λs=> ?_;generalize W5.drew=Y at*;refine wV 0 s ?_;refine wV 1 s ?_;refine wV 2 s ?_;refine wR 3 λK' hK=> ?_;rw [if_pos eN];go_simp;refine (NB.o Y (YM.o.trans s) m g1 k1 (BG.o.1.ext (lW.o.trans s))).mono ?_;rintro e w5 ⟨rfl,x3⟩;refine hK.o _ _ (s.trans x3) λs=> ?_;clear hK K' x3;rw [Qg];have Sp:=ah (λU (hU:Ext W5 U) r2 (h2:jZ U r2 1 1)=>np U r r2 _ 1 _ 1 (HN.o.ext hU) h2 (bA Sr.o));have q1:= @vP (lN x m) 1;have nX:=ah q1;generalize jJ (lN x m) 1=z1 at*;clear q1 Qg NB;by_cases hcv:nt (dG c h) c.aA.length m<jx c h
         rotate_left
         .rw [decide_eq_false hcv]
          have HE:=ah (PK.o λq=>hcv q.1.2.1);clear hcv;refine wV 4 s ?_;refine wV 5 s ?_;refine wN 6 s ?_;refine wN 7 s ?_;refine wN 8 s ?_;refine wN 9 s ?_;refine wV 10 s ?_;refine wD ?_;go_wp2
          exact ⟨⟨b+1,g,k,bl,ae,ae,bf,rfl,⟨HI.o.1.ext (OD.o.trans (lW.o.trans s)),HI.o.2⟩,(HE.o.symm),HU.o,Ss.o.trans (lW.o.trans s)⟩,a_⟩
         rw [decide_eq_true hcv];have NB:=ah hcv;clear hcv;refine wV 4 s ?_;refine wV 5 s ?_;refine wV 6 s ?_;refine wR 7 λK' hK=> ?_;rw [if_pos eN];go_simp;refine (rQ _ 1 aq aq).mono ?_;rintro e w5 ⟨r2,rfl,hN,-,x3⟩;refine hK.o _ _ (s.trans x3) λs=> ?_;have GX:=ah hN;clear hN
         clear hK K' x3;refine wR 8 λK' hK=> ?_;rw [if_pos eN];go_simp;refine (Sp.o _ s r2 GX.o).mono ?_;rintro e w5 ⟨rfl,x3⟩;refine hK.o _ _ (s.trans x3) λs=> ?_;clear hK K' x3;refine wV 9 s ?_;refine wV 10 s ?_;refine wD ?_;by_cases hz1:0<=z1
         .have HE:=ah (PK.o λq=>bA (nX.o.2 q.1.2.2))
          go_wp2
          exact ⟨⟨b+1,g,k,bl,ae,ae,bf,rfl,⟨HI.o.1.ext (OD.o.trans (lW.o.trans s)),HI.o.2⟩,(HE.o.symm),HU.o,Ss.o.trans (lW.o.trans s)⟩,a_⟩
         have Su:Hid (Ka c.aA.length x (dG c h) (jx c h) m):=⟨Za.o,NB.o,nX.o.1 ae⟩;go_wp2_with fail
         refine wG (λw=>Ext W5 w) s.drew λs=> ?_;generalize w5.drew=Z at*;refine wV 0 s ?_;refine wV 1 s ?_;refine wV 2 s ?_;refine wV 3 s ?_;refine wR 4 λK' hK=> ?_;rw [if_pos eN];go_simp;refine (HWT.o _ (YM.o.trans s) bl g k (HI.o.1.ext (OD.o.trans (lW.o.trans s))) HU.o.1 HU.o.2).mono ?_;rintro e w6 ⟨r3,rfl,hN,x3⟩;refine hK.o _ _ (s.trans x3) λs=> ?_;have HN3:=ah hN;clear hN
         clear hK K' x3;refine wR 5 λK' hK=> ?_;rw [if_pos eN];go_simp;refine (np _ r r3 _ _ _ _ (HN.o.ext s) HN3.o (qj Sr.o HU.o.2)).mono ?_;rintro e w6 ⟨rfl,x3⟩;refine hK.o _ _ (s.trans x3) λs=> ?_;have q1:= @vP (lN x m) (lN x bl);have q2:= @AW (lN x m) (lN x bl)
         clear hK K' x3;refine wV 6 s ?_;refine wD ?_;have nX:=ah q1;have pY:=ah q2
         generalize jJ (lN x m) (lN x bl)=z2 at*;have Sv:=HI.o.1.le;have Xb:=HI.o.1.cap;have ab':=BG.o.1.le;have ae8:=BG.o.1.cap
         rw [aN]at Sv ab';clear q1 q2 hz1;by_cases hbl:bl= []
         .have t6:((bl.length:Int)==0)=true:=by rw [hbl];rfl
          have HE:=ah (Hr.o ⟨Su.o,.inl hbl⟩);clear hbl;go_wp2
          exact ⟨⟨b+1,g1,k1,m,ae,ae,bf,rfl,⟨BG.o.1.ext (lW.o.trans s),BG.o.2.mono zv.o.size⟩,(HE.o.symm),⟨RG.o,bA Sr.o⟩,Ss.o.trans (lW.o.trans s)⟩,a_⟩
         have t6:((bl.length:Int)==0)=false:=by have:=List.length_pos_iff.2 hbl;simp;omega
         have lK:=ah hbl;clear hbl;by_cases hz2:z2<0
         .have HE:=ah (Hr.o ⟨Su.o,.inr (.inl (nX.o.1 hz2))⟩)
          go_wp2
          exact ⟨⟨b+1,g1,k1,m,ae,ae,bf,rfl,⟨BG.o.1.ext (lW.o.trans s),BG.o.2.mono zv.o.size⟩,(HE.o.symm),⟨RG.o,bA Sr.o⟩,Ss.o.trans (lW.o.trans s)⟩,a_⟩
         have t7:decide (z2<0)=false:=decide_eq_false hz2;by_cases hz3:z2=0
         rotate_left
         .have t8:(z2==0)=false:=beq_eq_false_iff_ne.2 hz3
          have HE:=ah (PK.o λq=>q.2.elim lK.o λq=>q.elim (λq=>hz2 (nX.o.2 q)) λq=>hz3 (pY.o.2 q.1));go_wp2
          exact ⟨⟨b+1,g,k,bl,ae,ae,bf,rfl,⟨HI.o.1.ext (OD.o.trans (lW.o.trans s)),HI.o.2⟩,(HE.o.symm),HU.o,Ss.o.trans (lW.o.trans s)⟩,a_⟩
         have HQE:=ah (pY.o.1 hz3);have t8:(z2==0)=true:=beq_iff_eq.2 hz3;clear hz3;go_wp2_with fail
         refine (Mo _ g1 g k1 k m bl (BG.o.1.ext (lW.o.trans s)) (HI.o.1.ext (OD.o.trans (lW.o.trans s))) (bA Sr.o)).mono ?_;rintro e w7 ⟨rfl,x3⟩;replace s:=s.trans x3;cases Xc:iU m bl with
         |true=>
          have HE:=ah (Hr.o ⟨Su.o,.inr (.inr ⟨HQE.o,Xc⟩)⟩);go_wp2
          exact ⟨⟨b+1,g1,k1,m,ae,ae,bf,rfl,⟨BG.o.1.ext (lW.o.trans s),BG.o.2.mono zv.o.size⟩,(HE.o.symm),⟨RG.o,bA Sr.o⟩,Ss.o.trans (lW.o.trans s)⟩,a_⟩
         |false=>
          have HE:=ah (PK.o λq=>q.2.elim lK.o λq=>q.elim (λq=>absurd (nX.o.2 q) ae) λq=>by rw [Xc]at q;cases q.2);go_wp2
          exact ⟨⟨b+1,g,k,bl,ae,ae,bf,rfl,⟨HI.o.1.ext (OD.o.trans (lW.o.trans s)),HI.o.2⟩,(HE.o.symm),HU.o,Ss.o.trans (lW.o.trans s)⟩,a_⟩
        .obtain rfl:b=P:=ae
         have HBE:Hid (bl=pd c f h):=qB.o.trans vA.o;have Sv:=HI.o.1.le;have Xb:=HI.o.1.cap
         rw [aN]at Sv;by_cases hbl:bl= []
         .have t6: ¬(0:Int)<(bl.length:Int):=by rw [hbl];decide
          have DO:Hid (cs.map (λx=>(x.h,x.l))=nN c f (h+1)):=by show _=_;rw [nN,<-HBE.o,if_pos hbl,List.append_nil];exact HM.o
          clear hbl;go_wp2
          exact ⟨⟨h+1,ga,gc,cs,JB,bf,rfl,HC.o.ext zv.o,DO.o,s⟩,a_⟩
         .have t6:(0:Int)<(bl.length:Int):=bA (List.length_pos_iff.2 hbl)
          have DO:Hid ((cs++ [(⟨h,bl,g,k⟩:kN)]).map (λx=>(x.h,x.l))=nN c f (h+1)):=by show _=_;rw [nN,<-HBE.o,if_neg hbl,List.map_append,HM.o];rfl
          have Xd:Hid ((cs++ [(⟨h,bl,g,k⟩:kN)]).length=cs.length+1):=by show _=_;simp
          have JC:Hid (cs.length<=1000):=by
            have h1:=congrArg List.length HM.o;rw [List.length_map]at h1;have:=D6 c f h;show _<=_;omega
          have Xe:Hid (∀p,g=some p->p.block<wr.heap.size/\ ∀q,ga=some q->p.block≠q.block):=λp hp=>by
            obtain ⟨b',o',e,hc⟩:=HI.o.1.cell 0 (by rw [aN];omega);rw [hp]at e;cases e
            refine ⟨cY hc,λq hq=> ?_⟩;have h1:=HI.o.2 _ hp;have h2:=(HC.o.own.own.lt q.block (by rw [hq];rfl)).2;have h3:b'≠q.block:=by have:Wh.heap.size<=b':=h1;omega
            exact h3
          have HWS:Hid (W.heap.size<=wr.heap.size):=s.size;clear hbl
          go_wp2_with (first
            |(refine ij rfl 48 _ rfl 24 (.agg #[i64 0,i64 0,.slice none 0 0,i64 0,i64 0,i64 0]) 6 64 underlying48 Tryz.info_cutA aq aq [i64 0,.int .i64 (h:Int),.slice g bl.length k,i64 1,i64 0,i64 0] rfl rfl ?_
              intro W1 Xf x1;have zq:=ah (HC.o.ext (zv.o.trans x1));have BC:=ah Xf;have eC:=ah x1;clear Xf x1)
            |(at_builtin
              refine jQ _ _ 48 24 (.agg #[i64 0,i64 0,.slice none 0 0,i64 0,i64 0,i64 0]) 6 64 rfl rfl underlying48 Tryz.info_cutA rfl aq aq (ga:=ga) (gc:=gc) (rows:=cs.map kN.cells) (by rw [List.length_map];rfl) (by rw [List.length_map];exact zq.o.own) rfl BC.o rfl (by intro u hu;simp only [List.mem_cons,List.not_mem_nil,or_false]at hu;rcases hu with e|e|e|e|e|e<;>(rw [e];rfl)) (by rw [List.length_map];have:=JC.o;omega) (qj HWS.o eC.o.size) ?_;intro g2 k2 W2 Kb xR hK2 x2;rw [List.length_map]at xR;rw [List.length_map];have qM:=ah (zq.o.put (x:=⟨h,bl,g,k⟩) (HI.o.1.ext eC.o) (λp hp=>⟨Nat.lt_of_lt_of_le (Xe.o p hp).1 eC.o.size,(Xe.o p hp).2⟩) xR hK2.o.2.1 hK2.o.2.2 x2);have eR:=ah (x2.ext (s.trans eC.o) hK2.o.1);clear xR hK2 x2))
          exact ⟨⟨h+1,g2,k2,cs++ [⟨h,bl,g,k⟩],JB,bf,by rw [Xd.o],qM.o,DO.o,eR.o⟩,a_⟩
      .obtain rfl:h=H:=ae
       have DO:Hid (cs.map (λx=>(x.h,x.l))=nN c f c.hours.toNat):=by show _=_;rw [HH.o.1];exact HM.o
       go_wp2
       exact bodyPost_ret (by simp [results,results18,go_sem]) rfl ⟨HX.o.trans s,.inr ⟨HS0.o,_,ga,gc,cs,rfl,HC.o,DO.o⟩⟩
