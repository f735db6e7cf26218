/- Texts of the proof. -/
import Derived.Test.YtfokdakioeoniaaGreatCj47
set_option linter.all false
set_option maxHeartbeats 4000000
set_option maxRecDepth 100000
namespace Go.Proofs.YtfokdakioeoniaaGreat
open Go.Proofs.Tryz
open Go.RowKit
theorem eC.Wx {w:World} {b o c L:Nat} {l:List QV} (h:eC w ⟨some ⟨b,o,none⟩,c,l⟩ L) (i:Nat) (hi:i<l.length): ∃r,Hid (fE w r ((fM.mk (some ⟨b,o,none⟩) c l).q i) L)/\ ∀Y,Ext w Y->Y.cell? ⟨b,o+i*3,none⟩=some (.bool r.s)/\Y.cell? ⟨b,o+i*3+1,none⟩=some (.slice r.a r.k r.c)/\Y.cell? ⟨b,o+i*3+2,none⟩=some (.slice r.b r.j r.d):=by
 obtain ⟨b',o',r,ha,hr,K⟩:=h.at i hi;cases ha
 exact ⟨r,hr,K⟩
theorem Sh {W:World} {R j:Nat} {T:TypeId} {vs:List Value} (A:aY W R T vs) {t:ku} {L:Nat} (h:jW W t L) (hv:vs[j]?=some (.slice t.a t.l.length t.c)) {n m:Int} (ht:cE t n m=true) (i:Nat) (hi:(i:Int)<n) (hm:0<m):
 ∃b o b5 o5 c5 l5,Hid (eC W ⟨some ⟨b5,o5,none⟩,c5,l5⟩ L)/\Hid (∀k,(fM.mk (some ⟨b5,o5,none⟩) c5 l5).q k=t.q i k)/\Hid ((l5.length:Int)=m)/\(i:Int)<(t.l.length:Int)/\ ∀Y,Ext W Y->Y.cell? ⟨R,j,none⟩=some (.slice (some ⟨b,o,none⟩) t.l.length t.c)/\Y.cell? ⟨b,o+i,none⟩=some (.slice (some ⟨b5,o5,none⟩) l5.length c5):=by
 obtain ⟨h1,h2⟩:=gZ.1 ht;have hi':i<t.l.length:=ae;obtain ⟨b,o,y,ha,hy,HY,hq,K⟩:=h.at i hi';have hl:=h2 _ (List.getElem_mem hi');rw [<-hy.o]at hl;obtain ⟨b5,o5,r,hb,-,-⟩:=HY.o.at 0 ae;rw [ha]at hv;obtain ⟨ya,yc,yl⟩:=y;simp only at hb;subst hb;exact ⟨b,o,b5,o5,yc,yl,HY.o,λk=>(hq.o k).symm,hl,ae,λY e=>⟨by rw [(A.ext e).cell];exact hv,K Y e⟩⟩
def Ew (V:World) (c:aq) (S:aQ) (p:aU) (h:Int) (e:Ending) (w':World):Prop:=
 ((nX c S p h=0/\ ∃a cap rs,e= .returned (.tuple #[.slice a (mN c S p h.toNat).length cap,i64 0])/\rs.length=(mN c S p h.toNat).length/\jV w' a cap rs (mN c S p h.toNat) 1000/\jh rs 1000)\/(¬nX c S p h=0/\e= .returned (.tuple #[.slice none 0 0,i64 (nX c S p h)])))/\Ext V w'
theorem MX {c:aq} {S:aQ} {p:aU} {h:Int} (q:nX c S p h=0):eY c S/\mQ c p/\0<=h/\h<c.hours:=by
 unfold nX at q;split at q
 .rename_i h1
  split at q
  .rename_i h2;exact ⟨h1.1,h1.2,h2⟩
  .cases q
 .cases q
theorem iu.mono {W0 w:World} {v:Value} {qs:List Rat} {L L':Nat} (h:iu W0 v qs L w) (hl:L<=L'):iu W0 v qs L' w:=by
 obtain ⟨rs,h1,h2⟩:=h;exact ⟨rs,⟨h1.len,h1.own,λk hk=>(h1.num k hk).mono hl,h1.off,h1.ext⟩,λk hk=>⟨Nat.le_trans (h2 k hk).1 hl,Nat.le_trans (h2 k hk).2 hl⟩⟩
theorem Ex {ops:Array Oper} {Q:Exit->Act->World->Prop} {rest:List Oper} {o:Oper} {a:Act} {w:World} {W0:World} {v:Value} {qs:List Rat} {L:Nat} (s x:Operand) (hgd:o.guard=none) (ho:o.op= .call {callee:= .builtin .append,args:= #[s,x],argTypes:= #[32,32]}) (hs:a.eval s=v) (hR:iu W0 v qs L w) (hn:qs.length<=100000) {E n c:Nat} {g:Nat->Rat}
 (hx:a.eval x= .slice (some ⟨E,0,none⟩) n c) (h0:0<n/\n<=100000) (hq:QA w E n g L) (hE: ∀k,v.ownBlock=some k->k<=E) (h: ∀v' w',iu W0 v' (qs++nJ g n) L w'->wpList prog ops Q rest (a.put o.dst v') w'):wpList prog ops Q (o::rest) a w:=
 wpList_plain hgd λK hK=>Er s x ho hs hR hn hx h0 hq hE λv' w' h2=>hK _ _ (h v' w' h2)
theorem PK (c:aq) (S:aQ) (p:aU) (h:Nat):xM c S p h c.ay.length c.stores.length c.bF.length 0++nJ (EL c S p h) c.ar.length=lD c S p h:=by simp [xM,lD,sZ]
theorem fU (c:aq) (S:aQ) (p:aU) (h:Nat):(lD c S p h).length=c.ay.length+c.stores.length+c.bF.length+c.ar.length:=by unfold lD;rw [nK]
theorem fE.val {w:World} {r:bE} {q q':Rat} {L:Nat} (h:fE w r q L) (e:q=q'):fE w r q' L:=e▸h
theorem AO (V:World) (c:aq) (S:aQ) (p:aU) (h:Int) (hc:bK V c) (hl:kU c) (h0:cC c=0) (hA:Acc c) (hs:eM V S 4) (hp:fS V p 4) (hn:S.moves.length<=1000000) (hm:p.moves.length<=100) (ht:Ti c):
 Calls prog 31 #[.agg (C8 c),.agg S.cells.toArray,.agg p.cells.toArray,.int .i64 h] V (Ew V c S p h):=by
 try unfold C8
 have NF:=af (λU (x:Ext V U)=>Sd U c S p h (hc.ext x) hl h0 hA (hs.ext x) (hp.ext x) hn hm);have HC:=af hc;have HA:=af hA;have HS:=af hs;have HP:=af hp;have HM:=af hm;have Y9:=af ht
 have xL:Hid (c.ar.length<=5/\c.ay.length<=4/\c.stores.length<=4/\c.bF.length<=4):=⟨ht.ar,ht.ay,ht.stores,ht.bF⟩;have Sg:=af hA.ok.frame.ar.1;have pj:=hc.ay.lens;have Ar:=hc.stores.lens;have Gn:=hc.bF.lens;have RU:=hs.ay.lens
 clear hc hl h0 hA hs hp hn hm ht;unfold aQ.cells aU.cells at*;go_enter func31,ntmps31
 go_upto_region 1 with fail
 generalize hW1:World.alloc V _=W1;generalize hW2:World.alloc W1 _=W2;generalize hW:World.alloc W2 _=W;obtain ⟨G,R,B,hG,hR,hB,HB,dY,gH,iU,nW⟩:=fw hW1 hW2 hW;rw [<-hG];try rw [hR]
 try rw [hB]
 clear hW hW1 hW2 hG hR hB;have K: ∀Y,Ext W Y->_:=λY e=>aq.at (dY.o.ext e);have K1: ∀Y,Ext W Y->_:=λY e=>(gH.o.ext e).cs;have K2: ∀Y,Ext W Y->_:=λY e=>(iU.o.ext e).cs;replace K1:=gO K1;replace K2:=gO K2;have st:=Ext.refl W;go_wp2_with fail
 refine (NF.o W HB.o).mono ?_;rintro e w1 ⟨r1,q1,rfl,-,-,-,x1⟩;replace st:=st.trans x1;clear NF x1;go_upto_region 2 with(refine aT rfl 63 _ _ rfl _ [.bool r1.s,.slice r1.a r1.k r1.c,.slice r1.b r1.j r1.d] rfl rfl aw rfl rfl ?_)
 generalize hW2:World.alloc w1 _=W0;obtain ⟨B2,-,x2,-⟩:=aI hW2;replace st:=st.trans x2;try simp only [Act.put]
 clear hW2 x2;by_cases hz:nX c S p h=0
 case neg=>
  have BK:=af hz;have t1:(nX c S p h !=0)=true:=by simpa using hz
  clear hz;go_wp2_with fail
  go_ret2
  exact ⟨Or.inr ⟨BK.o,rfl⟩,HB.o.trans st⟩
 have HZ:=af hz;have t1:(nX c S p h !=0)=false:=by simpa using hz
 obtain ⟨ur,hfo,TI,hh⟩:=MX hz;obtain ⟨h,rfl⟩: ∃k:Nat,h=(k:Int):=⟨h.toNat,ae⟩;have kX:=af ur;have td:=af hfo;have HH:=af hh
 have k6:(0:Int)<=(h:Int):=TI;replace HB:=af (HB.o.trans st);replace dY:=af (dY.o.ext st);replace gH:=af (gH.o.ext st);replace iU:=af (iU.o.ext st)
 have ID:=af (H9.of HS.o HP.o);clear st K K1 K2 ur hfo hh hz TI;obtain ⟨b1,o1,yb,yo,yc,yl,RF,Y_,Za,ky,KY⟩:=Sh (j:=0) iU.o (HP.o.b_.ext HB.o) rfl td.o.b_ h HH.o (dB Sg.o);have Ip:Hid (yl.length=c.ar.length):=by have:=Za.o;show _=_;omega
 have HYQ:Hid (∀k,(fM.mk (some ⟨yb,yo,none⟩) yc yl).q k=p.b_.q h k):=Y_.o;have s:=Ext.refl W0;go_upto_region 6 with fail
 have HI:Hid (iu W0 (.slice none 0 0) (xM c S p h 0 0 0 0) 81 W0):=iu.start (Ext.refl W0) 81;clear s KY Za Y_;have s:=Ext.refl W0;have K: ∀Y,Ext W0 Y->_:=λY e=>aq.at (dY.o.ext e);have SX:=HI.o.ext
 go_upto_block 0 with fail
 go_cut [12] (λv wx=>iu W0 v (xM c S p h c.ay.length 0 0 0) 81 wx)
 case first=>
  as_aux_lemma=>
   go_wp2
   go_loopw [42,12] (λii v wr=> ∃(i:Nat) (v0:Value),i<=c.ay.length/\ii= .int .i64 i/\v0=v/\iu W0 v0 (xM c S p h i 0 0 0) 81 wr) (λii _ _=>c.ay.length-(intOf ii).toNat)
   case atStart=>exact ⟨0,_,bm,rfl,rfl,HI.o⟩
   case round=>
    clear HI s SX K;obtain ⟨i,v,hi,rfl,rfl,hI⟩:=hrel;have HI:=af hI;clear hI;by_cases hlt:i<c.ay.length
    .have b1:(i:Int)<(c.ay.length:Int):=Int.ofNat_lt.2 hlt
     have b0:(0:Int)<=(i:Int):=Int.natCast_nonneg i;have SX:=HI.o.ext;obtain ⟨b,ob,ha,D⟩:=(HC.o.ext (HB.o.trans SX)).ay.adds i (by simpa using hlt);rw [List.getElem_map]at D;have HX:=af (HA.o.ok.unit _ (List.getElem_mem hlt)).fc;have qy:=af (sD (c:=c) hlt);generalize c.ay[i]=x at D HX qy;have HD:=af D;rw [ha];clear ha D;go_upto_region 9 with(first|(refine cT rfl 51 _ rfl ⟨b,ob+i*22,none⟩ rfl x.cells _ HD.o underlying51 rfl aw ?_)|(refine aT rfl 51 _ _ rfl _ x.cells rfl rfl aw rfl rfl ?_))
     generalize hW2:World.alloc _ _=w2;obtain ⟨B1,NB,x2,A2⟩:=aI hW2;rw [<-NB];try simp only [Act.put]
     have vp:=af (HI.o.next x2);have BL:Hid (x.fc=((fG c i:Nat):Int)):=by show _=_;have:=HX.o;rw [qy.o];omega
     have ig:Hid (fG c i<c.ar.length):=by show _<_;have:=HX.o;have:=BL.o;omega
     have KB: ∀Y,Ext w2 Y->Y.cell? ⟨B1,1,none⟩=some (i64 ((fG c i:Nat):Int)):=λY e=>by rw [(A2.ext e).cell,<-BL.o];rfl
     have k7:((fG c i:Nat):Int)<(yl.length:Int):=by rw [Ip.o];exact Int.ofNat_lt.2 ig.o
     have k8:(0:Int)<=((fG c i:Nat):Int):=Int.natCast_nonneg _;replace SX:=SX.trans x2;have xr:=af A2;have HI0:=HI;have Si:Hid (wr.heap.size<=B1):=by show _<=_;omega
     clear A2 x2 NB hW2 HD HX qy HI;obtain ⟨b2,o2,z,hz,KP⟩:=eZ (gH.o.ext SX) (HS.o.ext (HB.o.trans SX)).ay 0 rfl i (by rw [kX.o.ay];exact hlt);replace KP:=jo KP;have k9:(i:Int)<(S.ay.length:Int):=by rw [kX.o.ay];exact b1
     have QB:i<S.ay.length:=by rw [kX.o.ay];exact hlt
     have MP:=af ((HS.o.ext (HB.o.trans SX)).unit z (by rw [hz.o];exact List.getElem_mem QB)).2
     have AD:Hid (h<z.e.l.length/\h<z.r.l.length/\z.e.q h=Aw S i h/\z.r.q h=uw S i h):=by
      have h1:=kX.o.unit _ (List.getElem_mem QB);have:=HH.o;show _/\_/\_/\_;rw [Ji QB,Eb QB,hz.o];exact ⟨ae,ae,rfl,rfl⟩
     have s:=Ext.refl w2;go_upto_region 10 with(refine aT rfl 41 _ _ rfl _ z.cells rfl rfl aw rfl rfl ?_)
     generalize hW3:World.alloc _ _=w3;obtain ⟨B2,TH,x3,A3⟩:=aI hW3;rw [<-TH];try simp only [Act.put]
     have Y6:=af A3;replace vp:=af (vp.o.next x3);replace KB: ∀Y,Ext w3 Y->_:=λY e=>KB Y (x3.trans e);replace MP:=af (And.intro (MP.o.1.ext x3) (MP.o.2.ext x3));replace SX:=SX.trans x3;clear A3 x3 TH hW3 KP hz s;obtain ⟨rE,Et,KE⟩:=(RF.o.ext SX).Wx (fG c i) (by rw [Ip.o];exact ig.o);obtain ⟨b6,o6,re,RI,k10,KZ⟩:=jP (j:=1) Y6.o MP.o.1 rfl h AD.o.1;have s:=Ext.refl w3;go_cut [17] (λv wx=> ∃B3 r,v= .pointer (some ⟨B3,0,none⟩)/\Ext w3 wx/\Hid (w3.heap.size<=B3)/\aY wx B3 63 r.cells/\fE wx r (p.b_.q h (fG c i)*Aw S i h) 9)
     case first=>
      as_aux_lemma=>
       refine wG (λw=>Ext w3 w) (s.drew) λs=> ?_;generalize w3.drew=Y at*;refine wV 0 s ?_;refine wV 1 s ?_;refine wV 5 s ?_;refine wV 7 s ?_;refine wV 2 s ?_;refine wV 6 s ?_;refine wV 3 s ?_;refine wV 8 s ?_;refine wV 4 s ?_;refine wV 9 s ?_;refine Mz 10 11 (λK' hK=> ?_) (λK' hK=> ?_)
       .rw [if_pos bQ]
        go_simp;refine (rJ _ _ _ _ _ 4 4 (Et.o.ext s) (RI.o.ext s)).mono ?_;rintro e xZ ⟨r1,rfl,hn,bJ,x⟩;have cD:=af hn;refine hK.o _ _ (s.trans x) λs=> ?_;clear hK K' x hn bJ;refine wR 11 λK' hK=> ?_;rw [if_pos bQ];go_simp;generalize jS:World.alloc _ _=Wa;obtain ⟨B,jT,x,A⟩:=aI jS;rw [<-jT];have fz:=af A;have ig:Hid (w3.heap.size<=B):=by have:=s.size;show _<=_;omega
        replace cD:=af (cD.o.ext x);refine hK.o _ _ (s.trans x) λs=> ?_;clear hK K' x A jS jT;refine wR 12 λK' hK=> ?_;rw [if_pos bQ];have KA:=(fz.o).cs;replace KA:=gO KA;have f3:=λi=>fz.o.frozen i;go_simp;have iB:=af (dE fz.o rfl cD.o);refine hK.o _ _ ((cF _ B r1).ext s ig.o) λs=> ?_;clear hK K' KA f3;refine wD ?_;go_wp2
        go_meet
        exact ⟨B,r1,rfl,s,ig.o,iB.o.1,by rw [<-HYQ.o,<-AD.o.2.2.1];exact iB.o.2⟩
       .rw [if_pos bQ]
        go_simp;generalize jS:World.alloc _ _=Wa;obtain ⟨B,jT,x,A⟩:=aI jS;rw [<-jT];have fz:=af A;have ig:Hid (w3.heap.size<=B):=by have:=s.size;show _<=_;omega
        refine hK.o _ _ (s.trans x) λs=> ?_;clear hK K' x A jS jT;refine wR 10 λK' hK=> ?_;rw [if_pos bQ];go_simp;refine (rJ _ _ _ _ _ 4 4 (Et.o.ext s) (RI.o.ext s)).mono ?_;rintro e xZ ⟨r1,rfl,hn,bJ,x⟩;have cD:=af hn;replace fz:=af (fz.o.ext x);refine hK.o _ _ (s.trans x) λs=> ?_;clear hK K' x hn bJ;refine wR 12 λK' hK=> ?_;rw [if_pos bQ];have KA:=(fz.o).cs;replace KA:=gO KA;have f3:=λi=>fz.o.frozen i;go_simp;have iB:=af (dE fz.o rfl cD.o);refine hK.o _ _ ((cF _ B r1).ext s ig.o) λs=> ?_;clear hK K' KA f3;refine wD ?_;go_wp2
        go_meet
        exact ⟨B,r1,rfl,s,ig.o,iB.o.1,by rw [<-HYQ.o,<-AD.o.2.2.1];exact iB.o.2⟩
     case rest=>
      obtain ⟨B3,r1,rfl,x5,Gm,A5,hr1⟩:=hcut;generalize wc=w5 at*;have DN:=af A5;have tO:=af hr1;have nB:=af x5
      clear A5 hr1 x5 s;obtain ⟨b7,o7,rr,YZ,U4,KR⟩:=jP (j:=2) (Y6.o.ext nB.o) (MP.o.2.ext nB.o) rfl h AD.o.2.1;obtain ⟨b8,o8,rv,Y0,k12,KV⟩:=jP (j:=1) (iU.o.ext (SX.trans nB.o)) (HP.o.bC.ext (HB.o.trans (SX.trans nB.o))) rfl h (ux td.o.bC HH.o);have KA: ∀Y,Ext w5 Y->_:=λY e=>(DN.o.ext e).cs;replace KA:=gO KA;have s:=Ext.refl w5;clear KZ KE KB;go_upto_region 11 with fail
      refine zG 13 (λw=>Ext w5 w) (s.drew) λs=> ?_;generalize w5.drew=Y at*;refine zV 0 s ?_;refine zV 1 s ?_;refine zV 3 s ?_;refine zV 6 s ?_;refine zV 8 s ?_;refine zV 2 s ?_;refine zV 7 s ?_;refine zV 4 s ?_;refine zV 9 s ?_;refine zV 5 s ?_;refine zV 10 s ?_;refine zN 11 s (rJ _ _ _ _ _ 4 4 (Y0.o.ext s) (YZ.o.ext s)) λr2 N7 dL bJ x s=> ?_;clear x bJ;refine zN 12 s (vq _ _ _ _ _ 9 9 (tO.o.ext s) dL.o) λr3 Qx iH bJ x s=> ?_;clear x bJ;have HA6:=af (DN.o.ext s);have f3:=λi=>HA6.o.frozen i;refine zL 13 λK' hK=> ?_;rw [if_pos bQ];go_simp;refine hK.o _ _ ?_;have iB:=af (dE HA6.o rfl iH.o);have yS:=af ((cF _ B3 r3).ext (nB.o.trans s) Gm.o);clear hK K' f3;unfold mK at iB yS;clear s KA KR KV;generalize World.setCell _ _ _=w6 at iB yS⊢;have G_:=af (vp.o.next yS.o);have NG:=SX.trans yS.o;have K:=λY (e:oz W0 w6 v Y)=>aq.at (dY.o.ext e.1);have K1:=λY (e:oz W0 w6 v Y)=>(gH.o.ext e.1).cs;have K2:=λY (e:oz W0 w6 v Y)=>(iU.o.ext e.1).cs;have KA:=λY (e:oz W0 w6 v Y)=>(e.arr iB.o.1 (vp.o.ne Gm.o)).cs;replace K1:=gO K1;replace K2:=gO K2;replace KA:=gO KA;have Rq:=af (λU (x:Ext w6 U)=>Py U c S p h i (HC.o.ext (HB.o.trans (NG.trans x))) HA.o (HS.o.ext (HB.o.trans (NG.trans x))) (HP.o.ext (HB.o.trans (NG.trans x))) kX.o td.o hlt HM.o);unfold aQ.cells aU.cells at Rq;have s:=Ext.refl w6;go_upto_region 12 with fail
      refine mG 10 (oz W0 w6 v) (λw=>Ext w6 w) (oz.of NG (s.drew)) (s.drew) λo s=> ?_;generalize w6.drew=Y at*;refine mV 0 o s ?_;refine mV 1 o s ?_;refine mV 2 o s ?_;refine mV 3 o s ?_;refine mV 4 o s ?_;refine mV 5 o s ?_;refine mV 6 o s ?_;refine mR 7 λK' hK=> ?_;rw [if_pos bQ];go_simp;refine (Rq.o _ s).mono ?_;rintro e w7 ⟨rm,rfl,hn,x⟩;have JB:=af hn;refine hK.o _ _ (oz.of NG (s.trans x)) (s.trans x) λo s=> ?_;clear hK K' x hn;refine mR 8 λK' hK=> ?_;rw [if_pos bQ];go_simp;refine (vq _ _ _ _ _ 19 2000 (iB.o.2.ext s) JB.o).mono ?_;rintro e w8 ⟨r8,rfl,rY,bJ,x⟩;have hn:fE _ r8 (K0 c S p h i) 81:=fE.tight (by rw [K0,<-AD.o.2.2.2];exact bJ) (yZ ID.o kX.o.moves td.o Y9.o h i)
      have qf:=af hn;replace JB:=af (JB.o.ext x);have QC:=af (G_.o.off bJ s.size);clear rY;refine hK.o _ _ (oz.of NG (s.trans x)) (s.trans x) λo s=> ?_;clear hK K' x hn bJ;refine mR 9 λK' hK=> ?_;rw [if_pos bQ];refine j7 32 _ rfl 63 (.agg iV.toArray) 3 56 underlying32 Tryz.info_rat ai ai [.bool r8.s,.slice r8.a r8.k r8.c,.slice r8.b r8.j r8.d] rfl rfl ?_;intro wb H7 x;have qI:=af H7;replace qf:=af (qf.o.ext x);have VN:=af (G_.o.next (s.trans x));refine hK.o _ _ (oz.of NG (s.trans x)) (s.trans x) λo s=> ?_;clear hK K' x H7;refine mM 10 λK' hK=> ?_;rw [if_pos bQ];refine mY (v:=v) (L:=81) _ _ rfl rfl VN.o (by rw [nK];have:=xL.o;omega) rfl qI.o qf.o QC.o ?_;intro v9 w9 EO hb;have Hw:=af EO;refine hK.o _ _ (oz.app s EO.ext hb.o) ?_;replace o:=oz.app s EO.ext hb.o;clear hK K' EO hb s;refine mW 11 o ?_;refine mD ?_;clear o;clear K K1 K2 KA;generalize w9=W9 at Hw⊢;go_wp2
      exact ⟨⟨i+1,_,hlt,bq,rfl,by rw [YK];exact Hw.o⟩,bz⟩
    .obtain rfl:i=c.ay.length:=ae
     clear hlt hi;have s:=HI.o.ext;go_wp2
     go_meet
     exact HI.o
 case rest=>
  have dK:=af hcut;clear HI s hcut SX K;have HI:=dK;clear dK;have s:=Ext.refl W0;have K: ∀Y,Ext W0 Y->_:=λY e=>aq.at (dY.o.ext e);have SX:=HI.o.ext
  go_upto_block 2 with fail
  go_cut [12] (λv wx=>iu W0 v (xM c S p h c.ay.length c.stores.length 0 0) 81 wx)
  case first=>
   as_aux_lemma=>
    go_wp2
    go_loopw [91,12] (λii v wr=> ∃(i:Nat) (v0:Value),i<=c.stores.length/\ii= .int .i64 i/\v0=v/\iu W0 v0 (xM c S p h c.ay.length i 0 0) 81 wr) (λii _ _=>c.stores.length-(intOf ii).toNat)
    case atStart=>exact ⟨0,_,bm,rfl,rfl,HI.o⟩
    case round=>
     clear HI s SX K;obtain ⟨i,v,hi,rfl,rfl,hI⟩:=hrel;have HI:=af hI;clear hI;by_cases hlt:i<c.stores.length
     .have b1:(i:Int)<(c.stores.length:Int):=Int.ofNat_lt.2 hlt
      have b0:(0:Int)<=(i:Int):=Int.natCast_nonneg i;have SX:=HI.o.ext;obtain ⟨b,ob,ha,D⟩:=(HC.o.ext (HB.o.trans SX)).stores.adds i (by simpa using hlt);rw [List.getElem_map]at D;have HX:=af (HA.o.ok.store _ (List.getElem_mem hlt)).fc;have qy:=af (DR (c:=c) hlt);generalize c.stores[i]=x at D HX qy;have HD:=af D;rw [ha];clear ha D;go_upto_region 17 with(first|(refine cT rfl 118 _ rfl ⟨b,ob+i*9,none⟩ rfl x.cells _ HD.o underlying118 rfl aw ?_)|(refine aT rfl 118 _ _ rfl _ x.cells rfl rfl aw rfl rfl ?_))
      generalize hW2:World.alloc _ _=w2;obtain ⟨B1,NB,x2,A2⟩:=aI hW2;rw [<-NB];try simp only [Act.put]
      have vp:=af (HI.o.next x2);have BL:Hid (x.fc=((ki c i:Nat):Int)):=by show _=_;have:=HX.o;rw [qy.o];omega
      have ig:Hid (ki c i<c.ar.length):=by show _<_;have:=HX.o;have:=BL.o;omega
      have KB: ∀Y,Ext w2 Y->Y.cell? ⟨B1,1,none⟩=some (i64 ((ki c i:Nat):Int)):=λY e=>by rw [(A2.ext e).cell,<-BL.o];rfl
      have k7:((ki c i:Nat):Int)<(yl.length:Int):=by rw [Ip.o];exact Int.ofNat_lt.2 ig.o
      have k8:(0:Int)<=((ki c i:Nat):Int):=Int.natCast_nonneg _;replace SX:=SX.trans x2;have xr:=af A2;have HI0:=HI;have Si:Hid (wr.heap.size<=B1):=by show _<=_;omega
      clear A2 x2 NB hW2 HD HX qy HI;obtain ⟨d1,d2,d3,d4,d5,d6,rd,CG,kd1,kd2,Kd⟩:=ie (j:=2) (gH.o.ext SX) ((HS.o.ext (HB.o.trans SX)).kT S.disch aX) rfl kX.o.disch i h ae HH.o;obtain ⟨c1,c2,c3,c4,c5,c6,rc,WA,kc1,kc2,Kc⟩:=ie (j:=1) (gH.o.ext SX) ((HS.o.ext (HB.o.trans SX)).kT S.cB aX) rfl kX.o.cB i h ae HH.o;have s:=Ext.refl w2;go_cut [20] (λv wx=> ∃B3 r,v= .pointer (some ⟨B3,0,none⟩)/\Ext w2 wx/\Hid (w2.heap.size<=B3)/\aY wx B3 63 r.cells/\fE wx r (Ny S i h) 9)
      case first=>
       as_aux_lemma=>
        refine wG (λw=>Ext w2 w) (s.drew) λs=> ?_;generalize w2.drew=Y at*;refine wV 0 s ?_;refine wV 2 s ?_;refine wV 5 s ?_;refine wV 8 s ?_;refine wV 10 s ?_;refine wV 13 s ?_;refine wV 1 s ?_;refine wV 9 s ?_;refine wV 3 s ?_;refine wV 11 s ?_;refine wV 4 s ?_;refine wV 12 s ?_;refine wV 6 s ?_;refine wV 14 s ?_;refine wV 7 s ?_;refine wV 15 s ?_;refine Mz 16 17 (λK' hK=> ?_) (λK' hK=> ?_)
        .rw [if_pos bQ]
         go_simp;refine (rI _ _ _ _ _ 4 4 (CG.o.ext s) (WA.o.ext s)).mono ?_;rintro e w16 ⟨r1,rfl,hn,bJ,x⟩;have cD:=af hn;refine hK.o _ _ (s.trans x) λs=> ?_;clear hK K' x hn bJ;refine wR 17 λK' hK=> ?_;rw [if_pos bQ];go_simp;generalize jS:World.alloc _ _=Wa;obtain ⟨B,jT,x,A⟩:=aI jS;rw [<-jT];have fz:=af A;have ig:Hid (w2.heap.size<=B):=by have:=s.size;show _<=_;omega
         replace cD:=af (cD.o.ext x);refine hK.o _ _ (s.trans x) λs=> ?_;clear hK K' x A jS jT;refine wR 18 λK' hK=> ?_;rw [if_pos bQ];have KA:=(fz.o).cs;replace KA:=gO KA;have f3:=λi=>fz.o.frozen i;go_simp;have iB:=af (dE fz.o rfl cD.o);refine hK.o _ _ ((cF _ B r1).ext s ig.o) λs=> ?_;clear hK K' KA f3;refine wD ?_;go_wp2
         go_meet
         exact ⟨B,r1,rfl,s,ig.o,iB.o.1,iB.o.2⟩
        .rw [if_pos bQ]
         go_simp;generalize jS:World.alloc _ _=Wa;obtain ⟨B,jT,x,A⟩:=aI jS;rw [<-jT];have fz:=af A;have ig:Hid (w2.heap.size<=B):=by have:=s.size;show _<=_;omega
         refine hK.o _ _ (s.trans x) λs=> ?_;clear hK K' x A jS jT;refine wR 16 λK' hK=> ?_;rw [if_pos bQ];go_simp;refine (rI _ _ _ _ _ 4 4 (CG.o.ext s) (WA.o.ext s)).mono ?_;rintro e w16 ⟨r1,rfl,hn,bJ,x⟩;have cD:=af hn;replace fz:=af (fz.o.ext x);refine hK.o _ _ (s.trans x) λs=> ?_;clear hK K' x hn bJ;refine wR 18 λK' hK=> ?_;rw [if_pos bQ];have KA:=(fz.o).cs;replace KA:=gO KA;have f3:=λi=>fz.o.frozen i;go_simp;have iB:=af (dE fz.o rfl cD.o);refine hK.o _ _ ((cF _ B r1).ext s ig.o) λs=> ?_;clear hK K' KA f3;refine wD ?_;go_wp2
         go_meet
         exact ⟨B,r1,rfl,s,ig.o,iB.o.1,iB.o.2⟩
      case rest=>
       obtain ⟨B3,r1,rfl,x5,Gm,A5,hr1⟩:=hcut;generalize wc=w5 at*;have DN:=af A5;have tO:=af hr1;have nB:=af x5
       clear A5 hr1 x5 s;have NG:=SX.trans nB.o;have G_:=af (vp.o.next nB.o);obtain ⟨rE,Et,KE⟩:=RF.o.Wx (ki c i) (by rw [Ip.o];exact ig.o);replace KE:=λY (e:oz W0 w5 v Y)=>KE Y e.1;replace Et:=af (Et.o.ext NG);replace KB: ∀Y,oz W0 w5 v Y->Y.cell? ⟨B1,1,none⟩=some (i64 ((ki c i:Nat):Int)):=λY e=>by rw [(e.arr (xr.o.ext nB.o) (HI0.o.ne Si.o)).cell,<-BL.o];rfl
       have KA: ∀Y,oz W0 w5 v Y->_:=λY e=>(e.arr DN.o (vp.o.ne Gm.o)).cs;replace KA:=gO KA;have s:=Ext.refl w5;clear Kd Kc;go_upto_region 18 with fail
       refine mG 9 (oz W0 w5 v) (λw=>Ext w5 w) (oz.of NG (s.drew)) (s.drew) λo s=> ?_;generalize w5.drew=Y at*;refine mV 0 o s ?_;refine mV 1 o s ?_;refine mV 2 o s ?_;refine mV 6 o s ?_;refine mV 3 o s ?_;refine mV 4 o s ?_;refine mV 5 o s ?_;refine mR 7 λK' hK=> ?_;rw [if_pos bQ];go_simp;refine (rJ _ _ _ _ _ 4 9 (Et.o.ext s) (tO.o.ext s)).mono ?_;rintro e w7 ⟨r8,rfl,rY,bJ,x⟩;have hn:fE _ r8 (Px c S p h i) 81:=(rY.mono ai).val (by rw [HYQ.o];rfl)
       have qf:=af hn;have QC:=af (G_.o.off bJ s.size);clear rY;refine hK.o _ _ (oz.of NG (s.trans x)) (s.trans x) λo s=> ?_;clear hK K' x hn bJ;refine mR 8 λK' hK=> ?_;rw [if_pos bQ];refine j7 32 _ rfl 63 (.agg iV.toArray) 3 56 underlying32 Tryz.info_rat ai ai [.bool r8.s,.slice r8.a r8.k r8.c,.slice r8.b r8.j r8.d] rfl rfl ?_;intro wb H7 x;have qI:=af H7;replace qf:=af (qf.o.ext x);have VN:=af (G_.o.next (s.trans x));refine hK.o _ _ (oz.of NG (s.trans x)) (s.trans x) λo s=> ?_;clear hK K' x H7;refine mM 9 λK' hK=> ?_;rw [if_pos bQ];refine mY (v:=v) (L:=81) _ _ rfl rfl VN.o (by rw [nK];have:=xL.o;omega) rfl qI.o qf.o QC.o ?_;intro v9 w9 EO hb;have Hw:=af EO;refine hK.o _ _ (oz.app s EO.ext hb.o) ?_;replace o:=oz.app s EO.ext hb.o;clear hK K' EO hb s;refine mW 10 o ?_;refine mD ?_;clear o;clear KA KE KB;generalize w9=W9 at Hw⊢;go_wp2
       exact ⟨⟨i+1,_,hlt,bq,rfl,by rw [YL];exact Hw.o⟩,bz⟩
     .obtain rfl:i=c.stores.length:=ae
      clear hlt hi;have s:=HI.o.ext;go_wp2
      go_meet
      exact HI.o
  case rest=>
   have dK:=af hcut;clear HI s hcut SX K;have HI:=dK;clear dK;have s:=Ext.refl W0;have K: ∀Y,Ext W0 Y->_:=λY e=>aq.at (dY.o.ext e);have SX:=HI.o.ext
   go_upto_block 4 with fail
   go_cut [12] (λv wx=>iu W0 v (xM c S p h c.ay.length c.stores.length c.bF.length 0) 81 wx)
   case first=>
    as_aux_lemma=>
     go_wp2
     go_loopw [127,12] (λii v wr=> ∃(i:Nat) (v0:Value),i<=c.bF.length/\ii= .int .i64 i/\v0=v/\iu W0 v0 (xM c S p h c.ay.length c.stores.length i 0) 81 wr) (λii _ _=>c.bF.length-(intOf ii).toNat)
     case atStart=>exact ⟨0,_,bm,rfl,rfl,HI.o⟩
     case round=>
      clear HI s SX K;obtain ⟨i,v,hi,rfl,rfl,hI⟩:=hrel;have HI:=af hI;clear hI;by_cases hlt:i<c.bF.length
      .have b1:(i:Int)<(c.bF.length:Int):=Int.ofNat_lt.2 hlt
       have b0:(0:Int)<=(i:Int):=Int.natCast_nonneg i;have SX:=HI.o.ext;obtain ⟨b,ob,ha,D⟩:=(HC.o.ext (HB.o.trans SX)).bF.adds i (by simpa using hlt);rw [List.getElem_map]at D;have HX:=af (HA.o.ok.tie _ (List.getElem_mem hlt)).fc;have qy:=af (DT (c:=c) hlt);generalize c.bF[i]=x at D HX qy;have HD:=af D;rw [ha];clear ha D;go_upto_region 23 with(first|(refine cT rfl 120 _ rfl ⟨b,ob+i*5,none⟩ rfl x.cells _ HD.o underlying120 rfl aw ?_)|(refine aT rfl 120 _ _ rfl _ x.cells rfl rfl aw rfl rfl ?_))
       generalize hW2:World.alloc _ _=w2;obtain ⟨B1,NB,x2,A2⟩:=aI hW2;rw [<-NB];try simp only [Act.put]
       have vp:=af (HI.o.next x2);have BL:Hid (x.fc=((kL c i:Nat):Int)):=by show _=_;have:=HX.o;rw [qy.o];omega
       have ig:Hid (kL c i<c.ar.length):=by show _<_;have:=HX.o;have:=BL.o;omega
       have KB: ∀Y,Ext w2 Y->Y.cell? ⟨B1,1,none⟩=some (i64 ((kL c i:Nat):Int)):=λY e=>by rw [(A2.ext e).cell,<-BL.o];rfl
       have k7:((kL c i:Nat):Int)<(yl.length:Int):=by rw [Ip.o];exact Int.ofNat_lt.2 ig.o
       have k8:(0:Int)<=((kL c i:Nat):Int):=Int.natCast_nonneg _;replace SX:=SX.trans x2;have xr:=af A2;have HI0:=HI;have Si:Hid (wr.heap.size<=B1):=by show _<=_;omega
       clear A2 x2 NB hW2 HD HX qy HI;obtain ⟨rE,Et,KE⟩:=RF.o.Wx (kL c i) (by rw [Ip.o];exact ig.o);replace KE:=λY (e:oz W0 w2 v Y)=>KE Y e.1;replace Et:=af (Et.o.ext SX);replace KB: ∀Y,oz W0 w2 v Y->Y.cell? ⟨B1,1,none⟩=some (i64 ((kL c i:Nat):Int)):=λY e=>by rw [(e.arr xr.o (HI0.o.ne Si.o)).cell,<-BL.o];rfl
       obtain ⟨d1,d2,d3,d4,d5,d6,rd,CG,kd1,kd2,Kd⟩:=ie (j:=4) gH.o ((HS.o.ext HB.o).kT S.imp aX) rfl kX.o.imp i h ae HH.o;replace Kd:=λY (e:oz W0 w2 v Y)=>Kd Y e.1;replace CG:=af (CG.o.ext SX);have G_:=vp;have s:=Ext.refl w2;refine mG 16 (oz W0 w2 v) (λw=>Ext w2 w) (oz.of SX (s.drew)) (s.drew) λo s=> ?_;generalize w2.drew=Y at*;refine mV 0 o s ?_;refine mV 1 o s ?_;refine mV 2 o s ?_;refine mV 6 o s ?_;refine mV 8 o s ?_;refine mV 11 o s ?_;refine mV 3 o s ?_;refine mV 7 o s ?_;refine mV 4 o s ?_;refine mV 9 o s ?_;refine mV 5 o s ?_;refine mV 10 o s ?_;refine mV 12 o s ?_;refine mV 13 o s ?_;refine mR 14 λK' hK=> ?_;rw [if_pos bQ];go_simp;refine (rJ _ _ _ _ _ 4 4 (Et.o.ext s) (CG.o.ext s)).mono ?_;rintro e Qz ⟨r8,rfl,rY,bJ,x⟩;have hn:fE _ r8 (Qv c S p h i) 81:=(rY.mono ai).val (by rw [HYQ.o];rfl)
       have qf:=af hn;have QC:=af (G_.o.off bJ s.size);clear rY;refine hK.o _ _ (oz.of SX (s.trans x)) (s.trans x) λo s=> ?_;clear hK K' x hn bJ;refine mR 15 λK' hK=> ?_;rw [if_pos bQ];refine j7 32 _ rfl 63 (.agg iV.toArray) 3 56 underlying32 Tryz.info_rat ai ai [.bool r8.s,.slice r8.a r8.k r8.c,.slice r8.b r8.j r8.d] rfl rfl ?_;intro wb H7 x;have qI:=af H7;replace qf:=af (qf.o.ext x);have VN:=af (G_.o.next (s.trans x));refine hK.o _ _ (oz.of SX (s.trans x)) (s.trans x) λo s=> ?_;clear hK K' x H7;refine mM 16 λK' hK=> ?_;rw [if_pos bQ];refine mY (v:=v) (L:=81) _ _ rfl rfl VN.o (by rw [nK];have:=xL.o;omega) rfl qI.o qf.o QC.o ?_;intro v9 w9 EO hb;have Hw:=af EO;refine hK.o _ _ (oz.app s EO.ext hb.o) ?_;replace o:=oz.app s EO.ext hb.o;clear hK K' EO hb s;refine mW 17 o ?_;refine mD ?_;clear o;clear Kd KE KB;generalize w9=W9 at Hw⊢;go_wp2
       exact ⟨⟨i+1,_,hlt,bq,rfl,by rw [YM];exact Hw.o⟩,bz⟩
      .obtain rfl:i=c.bF.length:=ae
       clear hlt hi;have s:=HI.o.ext;go_wp2
       go_meet
       exact HI.o
   case rest=>
    have dK:=af hcut;clear HI s hcut SX K;have HI:=dK;clear dK;have SX:=HI.o.ext;have K:=λY (e:Ext wc Y)=>aq.at ((dY.o.ext SX).ext e);have K1:=λY (e:Ext wc Y)=>((gH.o.ext SX).ext e).cs;have K2:=λY (e:Ext wc Y)=>((iU.o.ext SX).ext e).cs;replace K1:=gO K1;replace K2:=gO K2;have HLO:=af (PJ wc c S p h (HC.o.ext (HB.o.trans SX)) HA.o (HS.o.ext (HB.o.trans SX)) (HP.o.ext (HB.o.trans SX)) kX.o td.o HH.o);unfold aQ.cells aU.cells at HLO;have s:=Ext.refl wc;go_wp2_with fail
    refine HLO.o.mono ?_;rintro e w2 ⟨E,rfl,hq,hE,x2⟩;have HQ:Hid (QA w2 E c.ar.length (EL c S p h) 325):=hq;have HEE:=af (λk hk=>Nat.le_of_lt (Nat.lt_of_lt_of_le (HI.o.blk (k:=k) hk) hE));have vp:=af ((HI.o.next x2).mono (show 81<=325 by decide));clear hq hE x2 HLO K K1 K2 s SX HI;go_upto_region 26 with(refine Ex (L:=325) _ _ rfl rfl rfl vp.o (by rw [nK];have:=xL.o;omega) rfl (ux xL.o.1 Sg.o) HQ.o HEE.o ?_;intro v8 w8 WG)
    try simp only [Act.put]
    rw [PK]at WG;have HI:=af (WG.mono (show 325<=1000 by decide));clear WG HQ HEE vp;obtain ⟨ga,gc,rs,rfl,EG,hrt,ur⟩:=HI.o.slice (by rw [fU];have:=xL.o;omega);have U5:=af (Dh w8 ga gc rs _ 1000 hrt (by rw [EG,fU];have:=xL.o;omega));rw [EG]at U5;clear hrt ur EG;have s:=HI.o.ext;go_wp2_with fail
    refine U5.o.mono ?_;rintro e w3 hh;obtain ⟨r3,rfl,Xi,hc3,x3⟩:=kN.of hh (G4 ID.o HA.o kX.o.moves td.o Y9.o h);have HN3:=af Xi;clear hh Xi hc3 U5;go_wp2_with fail
    refine (Tq w3 r3 _ 900 HN3.o).mono ?_;rintro e w4 ⟨r4,rfl,Y2,hc4,x4⟩;have Mi:=af (Y2.mono (show 900<=1000 by decide));have QC:=af (HI.o.off hc4 x3.size);have vp:=af (HI.o.next (x3.trans x4));clear Y2 hc4 x3 x4 HI s;go_wp2_with (first|(refine lW rfl 32 _ rfl 63 (.agg iV.toArray) 3 56 underlying32 Tryz.info_rat ai ai [.bool r4.s,.slice r4.a r4.k r4.c,.slice r4.b r4.j r4.d] rfl rfl ?_;intro w5 EN x5)|(refine vv (L:=1000) _ _ rfl rfl rfl (vp.o.next x5) (by rw [fU];have:=xL.o;omega) rfl EN (Mi.o.ext x5) QC.o ?_;intro v6 w6 Bh))
    obtain ⟨ga6,gc6,rs6,rfl,PL,PM,PN⟩:=Bh.slice (by rw [List.length_append,fU];have:=xL.o;simp;omega);have PO:=af (And.intro PL (And.intro PM (And.intro PN Bh.ext)));clear PL PM PN Bh;go_wp2_with fail
    go_ret2
    exact ⟨Or.inl ⟨HZ.o,ga6,gc6,rs6,rfl,PO.o.1,PO.o.2.1,PO.o.2.2.1⟩,HB.o.trans PO.o.2.2.2⟩
