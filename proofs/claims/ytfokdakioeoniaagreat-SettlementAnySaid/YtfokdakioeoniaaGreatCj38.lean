/- Texts of the proof. -/
import Derived.Test.YtfokdakioeoniaaGreatCj35
import Derived.Test.YtfokdakioeoniaaGreatCj37
set_option linter.all false
set_option maxHeartbeats 4000000
set_option maxRecDepth 100000
namespace Go.Proofs.YtfokdakioeoniaaGreat
open Go.Proofs.Tryz
open Go.RowKit
theorem jF.mono {V w:World} {c:aq} {s:aQ} {G R K n L L':Nat} {g:Nat->Rat} (h:jF V c s G R K n g L w) (e:L<=L'):jF V c s G R K n g L' w:=⟨h.ext,h.cb,h.sb,h.own.mono e,h.ne⟩
theorem jF.start {V w:World} {c:aq} {s:aQ} {G R K n L:Nat} {g:Nat->Rat} (h:jF V c s G R K n g L w) (p:Nat->Nat) (f:Nat->Rat):jF V c s G R K n (λj=>g j+jY p f 0 j) L w:=h.congr λi _=>by rw [Mt,Rat.add_zero]
theorem Vj {A:Nat->Rat} {D:Nat->Int} (j i:Nat) (z:Int) (hz:z=D i):(if j=i then A i-(z:Rat)else if j<i then A j-(D j:Rat)else 0)=if j<i+1 then A j-(D j:Rat)else 0:=by
 subst hz;by_cases e:j=i
 .subst e;rw [if_pos rfl,if_pos (Nat.lt_succ_self _)]
 .rw [if_neg e]
  by_cases q:j<i
  .rw [if_pos q,if_pos ae]
  .rw [if_neg q,if_neg ae]
def wI:Nat->Code->Code
 |0,c=>c
 |n+1,.seq _ b=>wI n b
 |_+1,c=>c
noncomputable def Tryz.injCode:Code:=(Tryz.f111).body.getD .skip
theorem Pf (V:World) (c:aq) (S:aQ) (h:Nat) (o:Int) (G R E:Nat) (wr:World) (HC:Hid (bK V c)) (HA:Hid (Acc c)) (HS:Hid (eM V S 4)) (kX:Hid (eY c S)) (HN:Hid (S.moves.length<=1000000))
 (HI:Hid (jF V c S G R E c.ar.length (BF c S h) 206 wr)) {u0 u1 u6 u7 u8 u10 u11 u12 u13 u14 u15 u16 u17 u18 u19 u20 u21 u22 u23 u24 u25 u26 u27 u28 u29 u30 u31 u32 u33 u34 u35 u36 u37 u38 u39 u40 u41 u42 u43 u44 u45 u46 u47 u48 u49 u50 u51 u52 u53 u54 u55 u56 u57 u58 u59 u60 u61 u62 u63 u64 u65 u66 u67 u68 u69 u70 u71 u72 u73 u74 u75 u76 u77 u78 u79 u80 u81 u82 u83 u84 u85 u86 u87 u88 u89 u90 u91 u92 u93 u94 u95 u96 u97 u98 u99 u100 u101 u102 u103 u104 u105 u106 u107 u108 u109 u110 u111 u112 u113 u114 u115 u116 u117 u118 u119 u120 u121 u122 u123 u124 u125 u126 u127 u128 u129 u130 u131 u132 u133 u134 u135 u136 u137 u138 u139 u140 u141 u142 u143 u144 u145 u146 u147 u148 u149 u150 u151 u152 u153 u154 u155 u156 u157 u158 u159 u160 u161 u162 u163 u164 u165 u166 u167 u168 u169 u170 u171 u172 u173 u174 u175 u176 u177 u178 u179 u180 u181 u182 u183 u184 u185 u186 u187 u188 u189 u190 u191 u192:Value}:
 Code.wp prog (wI 6 Tryz.injCode) (bodyPost prog Tryz.f111 λe w'=> ∃K,e= .returned (.slice (some ⟨K,0,none⟩) c.ar.length c.ar.length)/\QA w' K c.ar.length (mj c S h o) 400/\V.heap.size<=K/\Ext V w') {tmps:= #[u0,u1,.int .i64 (h:Int),.int .i64 o,.pointer (some ⟨G,0,none⟩),.pointer (some ⟨R,0,none⟩),u6,u7,u8,.slice (some ⟨E,0,none⟩) c.ar.length c.ar.length,u10,u11,u12,u13,u14,u15,u16,u17,u18,u19,u20,u21,u22,u23,u24,u25,u26,u27,u28,u29,u30,u31,u32,u33,u34,u35,u36,u37,u38,u39,u40,u41,u42,u43,u44,u45,u46,u47,u48,u49,u50,u51,u52,u53,u54,u55,u56,u57,u58,u59,u60,u61,u62,u63,u64,u65,u66,u67,u68,u69,u70,u71,u72,u73,u74,u75,u76,u77,u78,u79,u80,u81,u82,u83,u84,u85,u86,u87,u88,u89,u90,u91,u92,u93,u94,u95,u96,u97,u98,u99,u100,u101,u102,u103,u104,u105,u106,u107,u108,u109,u110,u111,u112,u113,u114,u115,u116,u117,u118,u119,u120,u121,u122,u123,u124,u125,u126,u127,u128,u129,u130,u131,u132,u133,u134,u135,u136,u137,u138,u139,u140,u141,u142,u143,u144,u145,u146,u147,u148,u149,u150,u151,u152,u153,u154,u155,u156,u157,u158,u159,u160,u161,u162,u163,u164,u165,u166,u167,u168,u169,u170,u171,u172,u173,u174,u175,u176,u177,u178,u179,u180,u181,u182,u183,u184,u185,u186,u187,u188,u189,u190,u191,u192],defers:= []} wr:=by
 have nE:=HC.o.ar.lens;have pj:=HC.o.ay.lens;have Yt:=HC.o.outs.lens
 have k6:(0:Int)<=(h:Int):=Int.natCast_nonneg h;conv=>arg 2;dsimp only [Tryz.injCode,Tryz.f111,wI,Option.getD]
 have hSL: ∀j v,S.cells[j]?=some v->wr.cell? ((⟨R,0,none⟩:Addr).add j)=some v:=λj v e=>by rw [kt,HI.o.sb.cell j];exact e
 have HSL:=af hSL;have Nx:=af (Jh wr c S 4 h o (HS.o.ext HI.o.ext) kX.o.moves HN.o);clear hSL;have s:=Ext.refl wr;go_wp2_with (refine cT rfl 39 _ rfl ⟨R,0,none⟩ rfl S.cells _ HSL.o underlying39 rfl aw ?_)
 refine Nx.o.mono ?_;rintro e w3 ⟨x,t,rfl,h1,h2,x3⟩;have H1:=af h1;have H2:=af h2
 replace HI:=af (HI.o.next x3);clear h1 h2 x3 s Nx HSL;have s:=Ext.refl w3;go_upto_region 23 with(refine aT rfl 58 _ _ rfl _ x.cells rfl rfl aw rfl rfl ?_)
 generalize hW2:World.alloc w3 _=W2;obtain ⟨B,hB,x2,A2⟩:=aI hW2;rw [<-hB];try simp only [Act.put]
 have HBE:Hid (B≠E):=by have:=HI.o.own.lt;show _≠_;omega
 have HB:=af A2;replace HI:=af (HI.o.next x2);clear hB hW2 x2 A2 s;have s:=Ext.refl W2;cases t with
 |false=>
  go_wp2
  go_ret;refine ⟨E,rfl,(HI.o.own.mono ae).congr λj _=>(Mv (H2.o (by trivial)) j).symm,HI.o.ne.2.2,HI.o.ext⟩
 |true=>
  obtain ⟨i0,hi0,hx0⟩:=H1.o rfl;have Gl:=af (kX.o.moves i0 hi0 hi0).1;have Tu:Hid (x∈S.moves):=by show _∈_;rw [hx0.1];exact List.getElem_mem hi0
  have tx:=af hx0;obtain ⟨n,rfl⟩: ∃n:Nat,o=(n:Int):=⟨o.toNat,by have:=Gl.o.jO.o;rw [<-hx0.1,hx0.2.2]at this;omega⟩;have hno:n<c.outs.length:=by have:=Gl.o.jO.o;rw [<-hx0.1,hx0.2.2]at this;omega
  clear hx0 H1 H2;obtain ⟨b1,o1,y,hy,KO⟩:=eZ HI.o.cb (HC.o.ext HI.o.ext).outs 7 rfl n hno;replace KO:=jo KO;have RF:=af (HC.o.o y (by rw [hy.o];exact List.getElem_mem hno)).2.2.1;have Pg:Hid (j5 c n=y.moves):=by show _=_;rw [vo hno,hy.o]
  have Ip:Hid (y.moves.length<=16):=by have:=(HA.o.o _ (List.getElem_mem hno)).moves;rw [<-hy.o]at this;exact this
  have HXU:Hid (x.up.l.length=y.moves.length/\x.down.l.length=y.moves.length):=by
   have h1:=Gl.o.up;have h2:=Gl.o.down
   rw [<-tx.o.1,tx.o.2.2,Int.toNat_natCast,Pg.o]at h1 h2;exact ⟨h1,h2⟩
  have Vk:Hid (y.moves=c.outs[n].moves):=by show _=_;rw [hy.o]
  have RG:=RF.o.lens;obtain ⟨yn,yla,ylc,yl,yc,yma,ymc,ym⟩:=y;dsimp only at KO RG RF Pg Ip HXU Vk
  have t1:(n:Int)<(c.outs.length:Int):=Int.ofNat_lt.2 hno;have t0:(0:Int)<=(n:Int):=Int.natCast_nonneg n;replace HI:Hid (jF V c S G R E c.ar.length (λj=>(BF c S h) j+jY (yB c n) (Qs x) 0 j) (206+10*0) W2):=jF.start HI.o _ _;clear hy;go_wp2
  go_loopw [160] (λii wr=> ∃i:Nat,i<=ym.length/\ii= .int .i64 i/\jF V c S G R E c.ar.length (λj=>(BF c S h) j+jY (yB c n) (Qs x) i j) (206+10*i) wr/\aY wr B 58 x.cells) (λii _=>ym.length-(intOf ii).toNat)
  case atStart=>exact ⟨0,bm,rfl,HI.o,HB.o⟩
  case round=>
   clear HI KO s HB;obtain ⟨i,hi,rfl,hI⟩:=hrel;have HI:=af hI;clear hI;by_cases hlt:i<ym.length
   .have b1:(i:Int)<(ym.length:Int):=Int.ofNat_lt.2 hlt
    have b0:(0:Int)<=(i:Int):=Int.natCast_nonneg i;obtain ⟨b3,o3,m,rfl,hm,K3⟩:=(RF.o.ext HI.o.1.ext).pick i hlt;have HM:Hid (m=(j5 c n)[i]'(by rw [Pg.o];exact hlt)):=by show _=_;rw [hm.o];simp only [Pg.o]
    obtain ⟨mu,mup,mdn⟩:=m;have OW:Hid (0<=mu/\mu<c.ay.length):=(HA.o.o _ (List.getElem_mem hno)).unit ⟨mu,mup,mdn⟩ (by rw [<-Vk.o,hm.o];exact List.getElem_mem hlt);obtain ⟨un,rfl⟩: ∃un:Nat,mu=(un:Int):=⟨mu.toNat,dB OW.o⟩;have TS:un<c.ay.length:=dB OW.o;have HBM:Hid (yB c n i=fG c un):=by show _=_;rw [RD (by rw [Pg.o];exact hlt),<-HM.o];rfl
    have EI:=af (HA.o.ok.unit _ (List.getElem_mem TS)).fc;have HUB:Hid (c.ay[un].fc=((yB c n i:Nat):Int)):=by show _=_;rw [HBM.o,sD TS];have:=EI.o;omega
    have ig:Hid (yB c n i<c.ar.length):=by show _<_;have:=EI.o;have:=HUB.o;omega
    have k5:(un:Int)<(c.ay.length:Int):=Int.ofNat_lt.2 TS;have k9:(0:Int)<=(un:Int):=Int.natCast_nonneg un;replace K3:=jo K3;clear hm;have s:=Ext.refl wr;go_upto_region 27 with(refine aT rfl 107 _ _ rfl _ [i64 (un:Int),i64 mup,i64 mdn] rfl rfl aw rfl rfl ?_)
    generalize hW2:World.alloc wr _=W3;obtain ⟨B3,Gm,x3,A3⟩:=aI hW2;rw [<-Gm];try simp only [Act.put]
    have dK:=af (HI.o.1.next x3);have I1:=af (HI.o.2.ext x3);have lT:=af dK.o.own.lt;have KB: ∀Y,Ext W3 Y->_:=λY e=>(A3.ext e).cs;replace KB:=jo KB;obtain ⟨b4,o4,u,hu,K4⟩:=eZ dK.o.cb (HC.o.ext dK.o.ext).ay 4 rfl un TS;replace K4: ∀Y,Ext W3 Y->Y.cell? ⟨G,4,none⟩=some (.slice (some ⟨b4,o4,none⟩) c.ay.length c.uc)/\Y.cell? ⟨b4,o4+un*22+1,none⟩=some (i64 ((yB c n i:Nat):Int)):=λY e=>⟨(K4 Y e).1,by rw [<-HUB.o,<-hu.o];exact (K4 Y e).2.2.1⟩;have k7:((yB c n i:Nat):Int)<(c.ar.length:Int):=Int.ofNat_lt.2 ig.o;have k8:(0:Int)<=((yB c n i:Nat):Int):=Int.natCast_nonneg _;clear A3 x3 Gm hW2 s HI hu K3;have s:=Ext.refl W3;go_upto_region 28 with fail
    obtain ⟨rg,HG,KG⟩:=dK.o.own.get _ ig.o;obtain ⟨b5,o5,ru,Vl,k1,Ku⟩:=jP (j:=2) I1.o ((HS.o.ext dK.o.ext).move x Tu.o).2.2.1 rfl i (by rw [HXU.o.1];exact hlt);obtain ⟨b6,o6,rd,CG,k2,Kd⟩:=jP (j:=3) I1.o ((HS.o.ext dK.o.ext).move x Tu.o).2.2.2 rfl i (by rw [HXU.o.2];exact hlt);have tr:Hid (i<16):=by show _<_;have:=Ip.o;omega
    refine zG 19 (λw=>Ext W3 w) (s.drew) λs=> ?_;generalize W3.drew=Y at*;refine zV 0 s ?_;refine zV 1 s ?_;refine zV 2 s ?_;refine zV 3 s ?_;refine zV 6 s ?_;refine zV 8 s ?_;refine zV 11 s ?_;refine zV 13 s ?_;refine zV 4 s ?_;refine zV 7 s ?_;refine zV 12 s ?_;refine zV 5 s ?_;refine zV 9 s ?_;refine zV 14 s ?_;refine zV 10 s ?_;refine zV 15 s ?_;have sz:=Nat.lt_of_lt_of_le lT.o s.size;refine zN 16 s (rI _ _ _ _ _ 4 4 (Vl.o.ext s) (CG.o.ext s)) λr1 w16 cD bJ x s=> ?_;have RH:=af (iG bJ.o sz);clear x bJ sz;have sz:=Nat.lt_of_lt_of_le lT.o s.size;refine zN 17 s (vq _ _ _ _ _ (206+10*i) 9 (HG.o.ext s) cD.o (dB tr.o)) λr2 w17 dL bJ x s=> ?_;have wJ:=af (iG bJ.o sz);clear x bJ sz;refine zV 18 s ?_;have kW:=af (dK.o.next s);have f3:=λi=>kW.o.own.frozen i;refine zL 19 λK' hK=> ?_;rw [if_pos bQ];go_simp;refine hK.o _ _ ?_;clear hK K' f3;have mJ:=af (kW.o.bin (p:=yB c n) (f:=Qs x) (k:=i) ig.o (L':=206+10*(i+1)) ae (dL.o.mono ae) wJ.o);have Vm:=af ((I1.o.ext s).gw ((kW.o.own.mono (L':=206+10*(i+1)) ae).put _ ig.o (dL.o.mono ae) wJ.o).2 HBE.o);clear s;generalize World.setCell _ _ _=W9 at mJ Vm⊢;go_wp2
    exact ⟨⟨i+1,hlt,bq,mJ.o,Vm.o⟩,bz⟩
   .obtain rfl:i=ym.length:=ae
    clear hlt hi;have s:=Ext.refl wr;go_wp2
    go_ret;refine ⟨E,rfl,(HI.o.1.own.mono (dB Ip.o)).congr λj _=> ?_,HI.o.1.ne.2.2,HI.o.1.ext⟩;rw [Mw kX.o.moves t0 hi0 (by rw [<-tx.o.1];exact tx.o.2.1) (by rw [<-tx.o.1];exact tx.o.2.2) j,<-tx.o.1];unfold Vh;rw [Int.toNat_natCast,Pg.o]
theorem BG (V:World) (c:aq) (S:aQ) (h:Nat) (o:Int) (hc:bK V c) (hA:Acc c) (hs:eM V S 4) (ur:eY c S) (hh:(h:Int)<c.hours) (hn:S.moves.length<=1000000):
 Calls prog 111 #[.agg (C8 c),.agg S.cells.toArray,.int .i64 (h:Int),.int .i64 o] V λe w'=> ∃K,e= .returned (.slice (some ⟨K,0,none⟩) c.ar.length c.ar.length)/\QA w' K c.ar.length (mj c S h o) 400/\V.heap.size<=K/\Ext V w':=by
 try unfold C8
 have HC:=af hc;have HA:=af hA;have HS:=af hs;have kX:=af ur;have HH:=af hh;have HN:=af hn
 have nE:=hc.ar.lens;have pj:=hc.ay.lens;have Ar:=hc.stores.lens;have Gn:=hc.bF.lens
 have EJ:Hid (c.ar.length<=32/\c.ay.length<=16/\c.stores.length<=8/\c.bF.length<=8):=⟨hA.ok.frame.ar.2,hA.ok.frame.ay,hA.ok.frame.stores,hA.ok.frame.bF⟩;have k6:(0:Int)<=(h:Int):=Int.natCast_nonneg h;clear hc hA hs ur hh hn;unfold aQ.cells;go_enter func111,ntmps111
 go_upto_region 1 with fail
 generalize hW1:World.alloc V _=W1;generalize hW:World.alloc W1 _=W;obtain ⟨G,R,hG,hR,HX,dY,gH,nW⟩:=jD hW1 hW;rw [<-hG];try rw [hR]
 clear hW hW1 hG hR;have K: ∀Y,Ext W Y->_:=λY e=>aq.at (dY.o.ext e);have s:=Ext.refl W;go_upto_region 2 with(refine jr _ rfl _ _ 32 rfl 63 (.agg iV.toArray) 56 underlying32 Tryz.info_rat rfl _ _ c.ar.length rfl rfl bq bq (dB EJ.o) (dB EJ.o) ?_;intro W0 EK hx0 hz0)
 obtain ⟨E,hE⟩: ∃E,E=W.heap.size:=⟨_,rfl⟩;rw [<-hE]at EK⊢;have HI:Hid (jF V c S G R E c.ar.length (λj=>if j<0 then S.er.q j h-(kO c j h:Rat)else 0) 6 W0):=⟨HX.o.trans hx0,dY.o.ext hx0,gH.o.ext hx0,((QA.Ea EK.o).mono ae).congr λi _=>aX,dB nW.o⟩;clear EK hx0 hz0 hE HX dY gH nW s K;have s:=Ext.refl W0;have K: ∀Y,Ext W0 Y->_:=λY e=>aq.at (HI.o.cb.ext e)
 go_upto_block 0 with fail
 go_cut [] (λwx=>jF V c S G R E c.ar.length (λj=>S.er.q j h-(kO c j h:Rat)) 6 wx)
 case first=>
  as_aux_lemma=>
   go_wp2
   go_loopw [30] (λii wr=> ∃i:Nat,i<=c.ar.length/\ii= .int .i64 i/\jF V c S G R E c.ar.length (λj=>if j<i then S.er.q j h-(kO c j h:Rat)else 0) 6 wr) (λii _=>c.ar.length-(intOf ii).toNat)
   case atStart=>exact ⟨0,bm,rfl,HI.o⟩
   case round=>
    clear HI K s;obtain ⟨i,hi,rfl,hI⟩:=hrel;have HI:=af hI;clear hI;by_cases hlt:i<c.ar.length
    .have b1:(i:Int)<(c.ar.length:Int):=Int.ofNat_lt.2 hlt
     have b0:(0:Int)<=(i:Int):=Int.natCast_nonneg i;obtain ⟨b,ob,x,ha,hx,K2⟩:=(HC.o.ext HI.o.ext).ar.pick i hlt
     have CF:Hid ((x.eE.length:Int)=c.hours/\cJ 0 1048576 x.eE=true/\bV wr x.da x.dc x.eE/\kO c i h=kE x.eE h):=by
      show _/\_/\_/\_;obtain ⟨wZ,zD,-⟩:=HA.o.ok.fc _ (List.getElem_mem hlt);rw [DZ hlt,hx.o];exact ⟨wZ,zD,((HC.o.ext HI.o.ext).fc _ (List.getElem_mem hlt)).2.1,rfl⟩
     obtain ⟨xn,xa,xc,xl,xs⟩:=x;dsimp only at CF
     have D_:h<xl.length:=ux CF.o.1 HH.o;obtain ⟨b3,o3,z,rfl,hz,Pd,K3⟩:=pg CF.o.2.2.1 h D_
     have HZ:Hid (z=kO c i h/\0<=z/\z<=1048576):=by
      have h1:=yT CF.o.2.1 h D_;rw [gh D_,<-hz.o]at h1;exact ⟨by rw [CF.o.2.2.2,gh D_,hz.o],h1⟩
     replace K2:=jo K2;have k3:(h:Int)<(xl.length:Int):=Int.ofNat_lt.2 D_;clear hx hz Pd CF D_;rw [ha];clear ha;have s:=Ext.refl wr;go_upto_region 5 with(refine aT rfl 89 _ _ rfl _ [.string xn,.slice (some ⟨b3,o3,none⟩) xl.length xc,i64 xs] rfl rfl aw rfl rfl ?_)
     generalize hW2:World.alloc wr _=W2;obtain ⟨B,hB,x2,A2⟩:=aI hW2;rw [<-hB];try simp only [Act.put]
     have dK:=af (HI.o.next x2);have lT:=af dK.o.own.lt;have KB: ∀Y,Ext W2 Y->_:=λY e=>(A2.ext e).cs;replace KB:=jo KB;replace K3: ∀Y,Ext W2 Y->_:=λY e=>K3 Y (x2.trans e);obtain ⟨rg,-,KG⟩:=dK.o.own.get i hlt;clear A2 x2 hB hW2 s K2 HI;obtain ⟨ahX,ahY,ahZ,ah0,ah1,ah2,rs,Hrs,ah4,ah5,Krs⟩:=ie (j:=5) dK.o.sb ((HS.o.ext dK.o.ext).kT S.er aX) rfl kX.o.er i h ae HH.o;refine zG 18 (λw=>Ext W2 w) ((Ext.refl W2).drew) λs=> ?_;generalize W2.drew=Y at*;refine zV 0 s ?_;refine zV 1 s ?_;refine zV 2 s ?_;refine zV 4 s ?_;refine zV 7 s ?_;refine zV 10 s ?_;refine zV 12 s ?_;refine zV 3 s ?_;refine zV 11 s ?_;refine zV 5 s ?_;refine zV 13 s ?_;refine zV 6 s ?_;refine zV 14 s ?_;refine zV 8 s ?_;refine zV 9 s ?_;have sz:=Nat.lt_of_lt_of_le lT.o s.size;refine zN 15 s (CD Y z (dB HZ.o) (dB HZ.o)) λr1 w15 cD bJ x s=> ?_;have RH:=af (iG bJ.o sz);clear x bJ sz;have sz:=Nat.lt_of_lt_of_le lT.o s.size;refine zN 16 s (rI _ _ _ _ _ 4 1 (Hrs.o.ext s) cD.o) λr2 w16 dL bJ x s=> ?_;have wJ:=af (iG bJ.o sz);clear x bJ sz;refine zV 17 s ?_;have kW:=af (dK.o.next s);have f3:=λi=>kW.o.own.frozen i;refine zL 18 λK' hK=> ?_;rw [if_pos bQ];go_simp;refine hK.o _ _ ?_;clear hK K' f3;have Kv:=kW.o.own.put i hlt dL.o wJ.o;have mJ:=af ((kW.o.but Kv.2 Kv.1).congr (g':=λj=>if j<i+1 then S.er.q j h-(kO c j h:Rat)else 0) λj _=>Vj (A:=λj=>S.er.q j h) (D:=λj=>kO c j h) j i z HZ.o.1);clear Kv;clear s;generalize World.setCell _ _ _=W9 at mJ⊢;go_wp2
     exact ⟨⟨i+1,hlt,bq,mJ.o⟩,bz⟩
    .obtain rfl:i=c.ar.length:=ae
     clear hlt hi;have s:=Ext.refl wr;have K: ∀Y,Ext wr Y->_:=λY e=>aq.at (HI.o.cb.ext e);go_wp2
     go_meet
     exact HI.o.congr λj hj=>if_pos hj
 case rest=>
  have dK:=af hcut;generalize wc=W9 at*;clear HI K s hcut;have HI:=dK;clear dK;replace HI:=af (jF.start HI.o (fG c) (λi=>Aw S i h));have s:=Ext.refl W9;have K: ∀Y,Ext W9 Y->_:=λY e=>aq.at (HI.o.cb.ext e)
  go_upto_block 2 with fail
  go_cut [] (λwx=>jF V c S G R E c.ar.length (λj=>(λj=>S.er.q j h-(kO c j h:Rat)) j+jY (fG c) (λi=>Aw S i h) c.ay.length j) (6+5*c.ay.length) wx)
  case first=>
   as_aux_lemma=>
    go_wp2
    go_loopw [57] (λii wr=> ∃i:Nat,i<=c.ay.length/\ii= .int .i64 i/\jF V c S G R E c.ar.length (λj=>(λj=>S.er.q j h-(kO c j h:Rat)) j+jY (fG c) (λi=>Aw S i h) i j) (6+5*i) wr) (λii _=>c.ay.length-(intOf ii).toNat)
    case atStart=>exact ⟨0,bm,rfl,HI.o⟩
    case round=>
     clear HI K s;obtain ⟨i,hi,rfl,hI⟩:=hrel;have HI:=af hI;clear hI;by_cases hlt:i<c.ay.length
     .have b1:(i:Int)<(c.ay.length:Int):=Int.ofNat_lt.2 hlt
      have b0:(0:Int)<=(i:Int):=Int.natCast_nonneg i;obtain ⟨b,ob,ha,D⟩:=(HC.o.ext HI.o.ext).ay.adds i (by simpa using hlt);rw [List.getElem_map]at D;have HX:=af (HA.o.ok.unit _ (List.getElem_mem hlt)).fc;have qy:Hid ((fG c) i=(c.ay[i]).fc.toNat):=sD hlt;generalize c.ay[i]=x at D HX qy;have HD:=af D;rw [ha];clear ha D;have s:=Ext.refl wr;go_upto_region 10 with(first|(refine cT rfl 51 _ rfl ⟨b,ob+i*22,none⟩ rfl x.cells _ HD.o underlying51 rfl aw ?_)|refine aT rfl 51 _ _ rfl _ x.cells rfl rfl aw rfl rfl ?_)
      generalize hW2:World.alloc wr _=W2;obtain ⟨B,hB,x2,A2⟩:=aI hW2;rw [<-hB];try simp only [Act.put]
      have dK:=af (HI.o.next x2);have lT:=af dK.o.own.lt;have qI:Hid (x.fc=((fG c i:Nat):Int)):=by show _=_;have:=HX.o;rw [qy.o];omega
      have ig:Hid (fG c i<c.ar.length):=by show _<_;have:=HX.o;have:=qI.o;omega
      have KB: ∀Y,Ext W2 Y->Y.cell? ⟨B,1,none⟩=some (i64 ((fG c i:Nat):Int)):=λY e=>by rw [(A2.ext e).cell,<-qI.o];rfl
      have k7:((fG c i:Nat):Int)<(c.ar.length:Int):=Int.ofNat_lt.2 ig.o;have k8:(0:Int)<=((fG c i:Nat):Int):=Int.natCast_nonneg _;obtain ⟨rg,HG,KG⟩:=dK.o.own.get _ ig.o;clear A2 x2 hB hW2 s HX HD qy HI;obtain ⟨a1,a2,a3,a4,a5,a6,re,a7,a8,a9,Fc,r6,RI,-,Tv,Nz,-,Ke⟩:=Gk dK.o.sb (HS.o.ext dK.o.ext) rfl kX.o.unit i h (by rw [kX.o.ay];exact hlt) HH.o;have tr:Hid (i<16):=by show _<_;have:=EJ.o;omega
      refine zG 19 (λw=>Ext W2 w) ((Ext.refl W2).drew) λs=> ?_;generalize W2.drew=Y at*;refine zV 0 s ?_;refine zV 1 s ?_;refine zV 3 s ?_;refine zV 4 s ?_;refine zV 8 s ?_;refine zV 10 s ?_;refine zV 14 s ?_;refine zV 2 s ?_;refine zV 5 s ?_;refine zV 9 s ?_;refine zV 6 s ?_;refine zV 11 s ?_;refine zV 7 s ?_;refine zV 12 s ?_;refine zV 13 s ?_;refine zV 15 s ?_;refine zV 16 s ?_;have sz:=Nat.lt_of_lt_of_le lT.o s.size;refine zN 17 s (vq _ _ _ _ _ (6+5*i) 4 (HG.o.ext s) (RI.o.ext s) (dB tr.o)) λr2 w17 dL bJ x s=> ?_;have wJ:=af (iG bJ.o sz);clear x bJ sz;refine zV 18 s ?_;have kW:=af (dK.o.next s);have f3:=λi=>kW.o.own.frozen i;refine zL 19 λK' hK=> ?_;rw [if_pos bQ];go_simp;refine hK.o _ _ ?_;clear hK K' f3;have mJ:=af (kW.o.bin (p:=fG c) (f:=λi=>Aw S i h) (k:=i) ig.o (L':=6+5*(i+1)) ae (dL.o.mono ae) wJ.o);clear s;generalize World.setCell _ _ _=W9 at mJ⊢;go_wp2
      exact ⟨⟨i+1,hlt,bq,mJ.o⟩,bz⟩
     .obtain rfl:i=c.ay.length:=ae
      clear hlt hi;have s:=Ext.refl wr;have K: ∀Y,Ext wr Y->_:=λY e=>aq.at (HI.o.cb.ext e);go_wp2
      go_meet
      exact HI.o
  case rest=>
   have dK:=af hcut;generalize wc=W9 at*;clear HI K s hcut;have HI:=dK;clear dK;replace HI:=af (jF.start HI.o (ki c) (λi=>Ny S i h));have s:=Ext.refl W9;have K: ∀Y,Ext W9 Y->_:=λY e=>aq.at (HI.o.cb.ext e)
   go_upto_block 4 with fail
   go_cut [] (λwx=>jF V c S G R E c.ar.length (λj=>(λj=>(λj=>S.er.q j h-(kO c j h:Rat)) j+jY (fG c) (λi=>Aw S i h) c.ay.length j) j+jY (ki c) (λi=>Ny S i h) c.stores.length j) ((6+5*c.ay.length)+10*c.stores.length) wx)
   case first=>
    as_aux_lemma=>
     go_wp2
     go_loopw [85] (λii wr=> ∃i:Nat,i<=c.stores.length/\ii= .int .i64 i/\jF V c S G R E c.ar.length (λj=>(λj=>(λj=>S.er.q j h-(kO c j h:Rat)) j+jY (fG c) (λi=>Aw S i h) c.ay.length j) j+jY (ki c) (λi=>Ny S i h) i j) ((6+5*c.ay.length)+10*i) wr) (λii _=>c.stores.length-(intOf ii).toNat)
     case atStart=>exact ⟨0,bm,rfl,HI.o⟩
     case round=>
      clear HI K s;obtain ⟨i,hi,rfl,hI⟩:=hrel;have HI:=af hI;clear hI;by_cases hlt:i<c.stores.length
      .have b1:(i:Int)<(c.stores.length:Int):=Int.ofNat_lt.2 hlt
       have b0:(0:Int)<=(i:Int):=Int.natCast_nonneg i;obtain ⟨b,ob,ha,D⟩:=(HC.o.ext HI.o.ext).stores.adds i (by simpa using hlt);rw [List.getElem_map]at D;have HX:=af (HA.o.ok.store _ (List.getElem_mem hlt)).fc;have qy:Hid ((ki c) i=(c.stores[i]).fc.toNat):=DR hlt;generalize c.stores[i]=x at D HX qy;have HD:=af D;rw [ha];clear ha D;have s:=Ext.refl wr;go_upto_region 15 with(first|(refine cT rfl 118 _ rfl ⟨b,ob+i*9,none⟩ rfl x.cells _ HD.o underlying118 rfl aw ?_)|refine aT rfl 118 _ _ rfl _ x.cells rfl rfl aw rfl rfl ?_)
       generalize hW2:World.alloc wr _=W2;obtain ⟨B,hB,x2,A2⟩:=aI hW2;rw [<-hB];try simp only [Act.put]
       have dK:=af (HI.o.next x2);have lT:=af dK.o.own.lt;have qI:Hid (x.fc=((ki c i:Nat):Int)):=by show _=_;have:=HX.o;rw [qy.o];omega
       have ig:Hid (ki c i<c.ar.length):=by show _<_;have:=HX.o;have:=qI.o;omega
       have KB: ∀Y,Ext W2 Y->Y.cell? ⟨B,1,none⟩=some (i64 ((ki c i:Nat):Int)):=λY e=>by rw [(A2.ext e).cell,<-qI.o];rfl
       have k7:((ki c i:Nat):Int)<(c.ar.length:Int):=Int.ofNat_lt.2 ig.o;have k8:(0:Int)<=((ki c i:Nat):Int):=Int.natCast_nonneg _;obtain ⟨rg,HG,KG⟩:=dK.o.own.get _ ig.o;clear A2 x2 hB hW2 s HX HD qy HI;obtain ⟨ah6,ah7,ah8,ah9,ah_,ah',rd,CG,aia,aib,Krd⟩:=ie (j:=2) dK.o.sb ((HS.o.ext dK.o.ext).kT S.disch aX) rfl kX.o.disch i h ae HH.o;obtain ⟨aic,aid,aie,aif,aih,aii,rc,WA,aij,aik,Krc⟩:=ie (j:=1) dK.o.sb ((HS.o.ext dK.o.ext).kT S.cB aX) rfl kX.o.cB i h ae HH.o;have tr:Hid (i<16):=by show _<_;have:=EJ.o;omega
       refine zG 27 (λw=>Ext W2 w) ((Ext.refl W2).drew) λs=> ?_;generalize W2.drew=Y at*;refine zV 0 s ?_;refine zV 1 s ?_;refine zV 3 s ?_;refine zV 4 s ?_;refine zV 8 s ?_;refine zV 10 s ?_;refine zV 13 s ?_;refine zV 16 s ?_;refine zV 18 s ?_;refine zV 21 s ?_;refine zV 2 s ?_;refine zV 5 s ?_;refine zV 9 s ?_;refine zV 17 s ?_;refine zV 6 s ?_;refine zV 11 s ?_;refine zV 19 s ?_;refine zV 7 s ?_;refine zV 12 s ?_;refine zV 20 s ?_;refine zV 14 s ?_;refine zV 22 s ?_;refine zV 15 s ?_;refine zV 23 s ?_;have sz:=Nat.lt_of_lt_of_le lT.o s.size;refine zN 24 s (rI _ _ _ _ _ 4 4 (CG.o.ext s) (WA.o.ext s)) λr1 w24 cD bJ x s=> ?_;have RH:=af (iG bJ.o sz);clear x bJ sz;have sz:=Nat.lt_of_lt_of_le lT.o s.size;refine zN 25 s (vq _ _ _ _ _ (6+5*c.ay.length+10*i) 9 (HG.o.ext s) cD.o (ux tr.o EJ.o)) λr2 w25 dL bJ x s=> ?_;have wJ:=af (iG bJ.o sz);clear x bJ sz;refine zV 26 s ?_;have kW:=af (dK.o.next s);have f3:=λi=>kW.o.own.frozen i;refine zL 27 λK' hK=> ?_;rw [if_pos bQ];go_simp;refine hK.o _ _ ?_;clear hK K' f3;have mJ:=af (kW.o.bin (p:=ki c) (f:=λi=>Ny S i h) (k:=i) ig.o (L':=(6+5*c.ay.length)+10*(i+1)) ae (dL.o.mono ae) wJ.o);clear s;generalize World.setCell _ _ _=W9 at mJ⊢;go_wp2
       exact ⟨⟨i+1,hlt,bq,mJ.o⟩,bz⟩
      .obtain rfl:i=c.stores.length:=ae
       clear hlt hi;have s:=Ext.refl wr;have K: ∀Y,Ext wr Y->_:=λY e=>aq.at (HI.o.cb.ext e);go_wp2
       go_meet
       exact HI.o
   case rest=>
    have dK:=af hcut;generalize wc=W9 at*;clear HI K s hcut;have HI:=dK;clear dK;replace HI:=af (jF.start HI.o (kL c) (λi=>S.imp.q i h));have s:=Ext.refl W9;have K: ∀Y,Ext W9 Y->_:=λY e=>aq.at (HI.o.cb.ext e)
    go_upto_block 6 with fail
    go_cut [] (λwx=>jF V c S G R E c.ar.length (λj=>(λj=>(λj=>(λj=>S.er.q j h-(kO c j h:Rat)) j+jY (fG c) (λi=>Aw S i h) c.ay.length j) j+jY (ki c) (λi=>Ny S i h) c.stores.length j) j+jY (kL c) (λi=>S.imp.q i h) c.bF.length j) ((6+5*c.ay.length+10*c.stores.length)+5*c.bF.length) wx)
    case first=>
     as_aux_lemma=>
      go_wp2
      go_loopw [121] (λii wr=> ∃i:Nat,i<=c.bF.length/\ii= .int .i64 i/\jF V c S G R E c.ar.length (λj=>(λj=>(λj=>(λj=>S.er.q j h-(kO c j h:Rat)) j+jY (fG c) (λi=>Aw S i h) c.ay.length j) j+jY (ki c) (λi=>Ny S i h) c.stores.length j) j+jY (kL c) (λi=>S.imp.q i h) i j) ((6+5*c.ay.length+10*c.stores.length)+5*i) wr) (λii _=>c.bF.length-(intOf ii).toNat)
      case atStart=>exact ⟨0,bm,rfl,HI.o⟩
      case round=>
       clear HI K s;obtain ⟨i,hi,rfl,hI⟩:=hrel;have HI:=af hI;clear hI;by_cases hlt:i<c.bF.length
       .have b1:(i:Int)<(c.bF.length:Int):=Int.ofNat_lt.2 hlt
        have b0:(0:Int)<=(i:Int):=Int.natCast_nonneg i;obtain ⟨b,ob,ha,D⟩:=(HC.o.ext HI.o.ext).bF.adds i (by simpa using hlt);rw [List.getElem_map]at D;have HX:=af (HA.o.ok.tie _ (List.getElem_mem hlt)).fc;have qy:Hid ((kL c) i=(c.bF[i]).fc.toNat):=DT hlt;generalize c.bF[i]=x at D HX qy;have HD:=af D;rw [ha];clear ha D;have s:=Ext.refl wr;go_upto_region 20 with(first|(refine cT rfl 120 _ rfl ⟨b,ob+i*5,none⟩ rfl x.cells _ HD.o underlying120 rfl aw ?_)|refine aT rfl 120 _ _ rfl _ x.cells rfl rfl aw rfl rfl ?_)
        generalize hW2:World.alloc wr _=W2;obtain ⟨B,hB,x2,A2⟩:=aI hW2;rw [<-hB];try simp only [Act.put]
        have dK:=af (HI.o.next x2);have lT:=af dK.o.own.lt;have qI:Hid (x.fc=((kL c i:Nat):Int)):=by show _=_;have:=HX.o;rw [qy.o];omega
        have ig:Hid (kL c i<c.ar.length):=by show _<_;have:=HX.o;have:=qI.o;omega
        have KB: ∀Y,Ext W2 Y->Y.cell? ⟨B,1,none⟩=some (i64 ((kL c i:Nat):Int)):=λY e=>by rw [(A2.ext e).cell,<-qI.o];rfl
        have k7:((kL c i:Nat):Int)<(c.ar.length:Int):=Int.ofNat_lt.2 ig.o;have k8:(0:Int)<=((kL c i:Nat):Int):=Int.natCast_nonneg _;obtain ⟨rg,HG,KG⟩:=dK.o.own.get _ ig.o;clear A2 x2 hB hW2 s HX HD qy HI;obtain ⟨ail,aim,ain,aio,aip,aiq,re,RI,air,ais,Kre⟩:=ie (j:=4) dK.o.sb ((HS.o.ext dK.o.ext).kT S.imp aX) rfl kX.o.imp i h ae HH.o;have tr:Hid (i<16):=by show _<_;have:=EJ.o;omega
        refine zG 18 (λw=>Ext W2 w) ((Ext.refl W2).drew) λs=> ?_;generalize W2.drew=Y at*;refine zV 0 s ?_;refine zV 1 s ?_;refine zV 3 s ?_;refine zV 4 s ?_;refine zV 8 s ?_;refine zV 10 s ?_;refine zV 13 s ?_;refine zV 2 s ?_;refine zV 5 s ?_;refine zV 9 s ?_;refine zV 6 s ?_;refine zV 11 s ?_;refine zV 7 s ?_;refine zV 12 s ?_;refine zV 14 s ?_;refine zV 15 s ?_;have sz:=Nat.lt_of_lt_of_le lT.o s.size;refine zN 16 s (vq _ _ _ _ _ (6+5*c.ay.length+10*c.stores.length+5*i) 4 (HG.o.ext s) (RI.o.ext s) (ux tr.o EJ.o)) λr2 w16 dL bJ x s=> ?_;have wJ:=af (iG bJ.o sz);clear x bJ sz;refine zV 17 s ?_;have kW:=af (dK.o.next s);have f3:=λi=>kW.o.own.frozen i;refine zL 18 λK' hK=> ?_;rw [if_pos bQ];go_simp;refine hK.o _ _ ?_;clear hK K' f3;have mJ:=af (kW.o.bin (p:=kL c) (f:=λi=>S.imp.q i h) (k:=i) ig.o (L':=(6+5*c.ay.length+10*c.stores.length)+5*(i+1)) ae (dL.o.mono ae) wJ.o);clear s;generalize World.setCell _ _ _=W9 at mJ⊢;go_wp2
        exact ⟨⟨i+1,hlt,bq,mJ.o⟩,bz⟩
       .obtain rfl:i=c.bF.length:=ae
        clear hlt hi;have s:=Ext.refl wr;have K: ∀Y,Ext wr Y->_:=λY e=>aq.at (HI.o.cb.ext e);go_wp2
        go_meet
        exact HI.o
    case rest=>
     have dK:=af hcut;generalize wc=W9 at*;clear HI K s hcut;have HI:=dK;clear dK;have dK:Hid (jF V c S G R E c.ar.length (BF c S h) 206 W9):=(HI.o.mono (dB EJ.o)).congr λj _=>Mx c S h j;clear HI;go_step
     exact Pf V c S h o G R E W9 HC HA HS kX HN dK
