/- Texts of the proof. -/
import Derived.Test.YtfokdakioeoniaaGreatCj43
set_option linter.all false
set_option maxHeartbeats 20000000
set_option maxRecDepth 100000
namespace Go.Proofs.YtfokdakioeoniaaGreat
open Go.Proofs.Tryz
open Go.RowKit
theorem GR {w W1 W2 W3 W4 W5 W:World} {T0 T1 T2 T3 T4 T5:TypeId} {c0 c1 c2 c3 c4 c5:List Value} (h1:w.alloc (.cells c0.toArray T0)=W1) (h2:W1.alloc (.cells c1.toArray T1)=W2) (h3:W2.alloc (.cells c2.toArray T2)=W3) (h4:W3.alloc (.cells c3.toArray T3)=W4) (h5:W4.alloc (.cells c4.toArray T4)=W5) (h6:W5.alloc (.cells c5.toArray T5)=W):
 ∃G R B H U Z,G=w.heap.size/\G+1=R/\R+1=B/\B+1=H/\H+1=U/\U+1=Z/\Hid (Ext w W)/\Hid (aY W G T0 c0)/\Hid (aY W R T1 c1)/\Hid (aY W B T2 c2)/\Hid (aY W H T3 c3)/\Hid (aY W U T4 c4)/\Hid (aY W Z T5 c5)/\Hid (w.heap.size<=Z):=by
 obtain ⟨G,R,B,hG,hR,hB,x,A0,A1,A2,hw⟩:=fw h1 h2 h3;obtain ⟨H,U,Z,hH,hU,hZ,x2,A3,A4,A5,hw2⟩:=fw h4 h5 h6;have h:B+1=H:=by rw [hH,<-h3];simp;rw [<-hB,<-hR,hG,<-h2,<-h1];simp
 have:=hw.o;exact ⟨G,R,B,H,U,Z,hG,hR,hB,h,hU,hZ,x.o.trans x2.o,A0.o.ext x2.o,A1.o.ext x2.o,A2.o.ext x2.o,A3,A4,A5,(show _<=_ by omega)⟩
theorem dE {w:World} {B L:Nat} {r:bE} {q:Rat} {vs:List Value} (A:aY w B 63 vs) (hv:(vs.length==3&&Ei vs)=true) (hr:fE w r q L):aY (mK w B r) B 63 r.cells/\fE (mK w B r) r q L:=by
 rw [Bool.and_eq_true]at hv;have h3:vs.length=3:=by simpa using hv.1
 match vs,h3 with
 | [x,y,z],_=>exact ⟨((A.set 0 (.bool r.s)).set 1 (.slice r.a r.k r.c)).set 2 (.slice r.b r.j r.d),hr.but (cF w B r) (hr.Vx A hv.2)⟩
theorem GS {W:World} {y:fM} {L:Nat} (h:eC W y L) (k:Nat) (hk:k<y.l.length) {A:Addr} (hA: ∀Y,Ext W Y->Y.cell? A=some (.slice y.a y.l.length y.c)):
 ∃b o r,Hid (fE W r (y.q k) L)/\(k:Int)<(y.l.length:Int)/\ ∀Y,Ext W Y->Y.cell? A=some (.slice (some ⟨b,o,none⟩) y.l.length y.c)/\Y.cell? ⟨b,o+k*3,none⟩=some (.bool r.s)/\Y.cell? ⟨b,o+k*3+1,none⟩=some (.slice r.a r.k r.c)/\Y.cell? ⟨b,o+k*3+2,none⟩=some (.slice r.b r.j r.d):=by
 obtain ⟨b,o,r,ha,hr,K⟩:=h.at k hk;rw [ha]at hA;exact ⟨b,o,r,hr,Int.ofNat_lt.2 hk,λY e=>⟨hA Y e,K Y e⟩⟩
theorem K7 (c:aq) (n u:Nat):Ej c n u=rG (λi=>decide (((j5 c n)[i]?.map cH.unit)=some (u:Int))) (j5 c n).length:=rfl
theorem YN (x y:Int):(x==y)=decide (x=y):=rfl
theorem eA.kP {W0 w:World} {E L:Nat} {q q':Rat} (h:eA W0 E q L w) (e:q=q'):eA W0 E q' L w:=e▸h
theorem Py (V:World) (c:aq) (S:aQ) (p:aU) (h u:Nat) (hc:bK V c) (hA:Acc c) (hs:eM V S 4) (hp:fS V p 4) (ur:eY c S) (hf:mQ c p) (hu:u<c.ay.length) (hm:p.moves.length<=100):
 Calls prog 72 #[.agg (C8 c),.agg S.cells.toArray,.agg p.cells.toArray,.int .i64 (h:Int),.int .i64 (u:Int)] V (λe w'=> ∃r:bE,e= .returned (.agg #[.bool r.s,.slice r.a r.k r.c,.slice r.b r.j r.d])/\fE w' r (mL c u h p.moves S.moves p.moves.length) 2000/\Ext V w'):=by
 try unfold C8
 have HC:=af hc;have HA:=af hA;have HS:=af hs;have HP:=af hp;have kX:=af ur;have td:=af hf;have HM:=af hm
 have RG:=hp.moves.lens;have nE:=hc.ar.lens;have pj:=hc.ay.lens;have Yt:=hc.outs.lens;have RU:=hs.moves.lens
 clear hc hA hs hp ur hf hm;unfold aQ.cells aU.cells at*;go_enter func72,ntmps72
 go_upto_region 1 with fail
 generalize hW1:World.alloc V _=W1;generalize hW2:World.alloc W1 _=W2;generalize hW3:World.alloc W2 _=W3;generalize Nq:World.alloc W3 _=W4;generalize t_:World.alloc W4 _=W5;generalize hW:World.alloc W5 _=W;obtain ⟨G,R,B,H,U,Z,hG,hR,hB,hH,hU,hZ,HX,dY,gH,iU,HAH,HAU,yC,nW⟩:=GR hW1 hW2 hW3 Nq t_ hW;rw [<-hG];try rw [hR]
 try rw [hB]
 try rw [hH]
 try rw [hU]
 try rw [hZ]
 clear hW hW1 hW2 hW3 Nq t_ hG hR hB hH hU hZ;go_wp2_with fail
 refine (CD W 0 ai ai).mono ?_;rintro e w6 ⟨r0,rfl,rY,-,x6⟩;have MO:=af rY;go_upto_region 2 with(refine aT rfl 63 _ _ rfl _ [.bool r0.s,.slice r0.a r0.k r0.c,.slice r0.b r0.j r0.d] rfl rfl aw rfl rfl ?_)
 generalize K8:World.alloc w6 _=W7;obtain ⟨E,hE,x7,A7⟩:=aI K8;rw [<-hE];try simp only [Act.put]
 have HI:Hid (eA w6 E (mL c u h p.moves S.moves 0) (1+15*0) W7):=eA.kP ⟨x7,ae,r0,A7,MO.o.ext x7⟩ (by show((0:Int):Rat)=(0:Rat);decide);have HB:=af (HX.o.trans x6);replace dY:=af (dY.o.ext x6);replace gH:=af (gH.o.ext x6);replace iU:=af (iU.o.ext x6);replace yC:=af (yC.o.ext x6);replace HAH:=af (HAH.o.ext x6);replace HAU:=af (HAU.o.ext x6)
 clear K8 hE x7 A7 MO rY x6 HX;have s:=Ext.refl W7;have K1: ∀Y,Ext W7 Y->_:=λY e=>((iU.o.ext HI.o.ext).ext e).cs;replace K1:=gO K1
 go_upto_block 0 with fail
 go_cut [] (λwx=>eA w6 E (mL c u h p.moves S.moves p.moves.length) (1+15*p.moves.length) wx)
 case first=>
  as_aux_lemma=>
   go_wp2
   go_loopw [22] (λii wr=> ∃i:Nat,i<=p.moves.length/\ii= .int .i64 i/\eA w6 E (mL c u h p.moves S.moves i) (1+15*i) wr) (λii _=>p.moves.length-(intOf ii).toNat)
   case atStart=>exact ⟨0,bm,rfl,HI.o⟩
   case round=>
    clear HI K1 s;obtain ⟨i,hi,rfl,hI⟩:=hrel;have HI:=af hI;clear hI;by_cases hlt:i<p.moves.length
    .have b1:(i:Int)<(p.moves.length:Int):=Int.ofNat_lt.2 hlt
     have b0:(0:Int)<=(i:Int):=Int.natCast_nonneg i;obtain ⟨b,o,x,ha,hx,K2⟩:=(HP.o.moves.ext (HB.o.trans HI.o.ext)).pick i hlt;have YO:=af ((HP.o.ext HB.o).move x (by rw [hx.o];exact List.getElem_mem hlt)).2.2;have Tu:Hid (Gf c x):=by show _;rw [hx.o];exact (td.o.moves i hlt hlt).1
     have H5:=af (wO (c:=c) (u:=u) (h:=(h:Int)) (ms:=S.moves) hlt);rw [<-hx.o]at H5;obtain ⟨xh,xo,xb⟩:=x;replace K2:=jo K2;have Nv:Hid (xb.l.length=c.ar.length):=Tu.o.fc;have BV:=af hlt;rw [ha];clear ha hx;have s:=Ext.refl wr;go_upto_region 5 with(refine aT rfl 55 _ _ rfl _ (oK.mk xh xo xb).cells rfl rfl aw rfl rfl ?_)
     generalize hW2:World.alloc wr _=W2;obtain ⟨D2,Cf,x2,A2⟩:=aI hW2;rw [<-Cf];try simp only [Act.put]
     have HD:=af A2;replace HI:=af (HI.o.next x2);clear A2 x2 Cf hW2 K2 s;have s:=Ext.refl W2;have KB: ∀Y,Ext W2 Y->_:=λY e=>(HD.o.ext e).cs;replace KB:=gO KB;have KH: ∀Y,Ext W2 Y->_:=λY e=>((HAH.o.ext HI.o.ext).ext e).cs;replace KH:=gO KH;by_cases q:xh=(h:Int)
     case neg=>
      have t1:(xh !=(h:Int))=true:=by simpa using q
      have Qw:Hid (qc c u h ⟨xh,xo,xb⟩ S.moves S.moves.length=0):=GM q;clear q;have HN:=af (HI.o.kP (q':=mL c u h p.moves S.moves (i+1)) (by rw [H5.o,Qw.o,Rat.add_zero]));go_wp2
      exact ⟨⟨i+1,hlt,bq,HN.o.mono ae⟩,bz⟩
     have t1:(xh !=(h:Int))=false:=by simpa using q
     subst q;have tq:=af Tu.o.jO.o;obtain ⟨n,rfl⟩: ∃n:Nat,xo=(n:Int):=⟨xo.toNat,by have:=tq.o;simp only at this;omega⟩;have hno:n<c.outs.length:=by have:=tq.o;simp only at this;omega
     have HIR:=af (Mq W2 S.ma S.mc S.moves (HS.o.ext (HB.o.trans HI.o.ext)).moves 148 (.pointer (some ⟨H,0,none⟩)) (.pointer (some ⟨D2,0,none⟩)) (λj=>decide ((S.moves[j]?.map eF.hour)=some (h:Int)/\(S.moves[j]?.map eF.br)=some (n:Int))) (enters_of func148 aw rfl) (λY j hj e=>(MK Y S.moves[j] h ⟨h,n,xb⟩ H D2 ((HAH.o.ext HI.o.ext).ext e) (HD.o.ext e)).mono λe w' q=>⟨by rw [q.1];simp [List.getElem?_eq_getElem hj,YN],q.2⟩));obtain ⟨z1,TA⟩: ∃z1,Hid (rG (λj=>decide ((S.moves[j]?.map eF.hour)=some (h:Int)/\(S.moves[j]?.map eF.br)=some (n:Int))) S.moves.length=z1):=⟨_,rfl⟩;rw [TA.o]at HIR;have K1: ∀Y,Ext W2 Y->_:=λY e=>((gH.o.ext HI.o.ext).ext e).cs;replace K1:=gO K1;go_wp2_with fail
     refine HIR.o.mono ?_;rintro e w3 ⟨rfl,x3⟩;clear HIR K1;replace s:=s.trans x3;obtain ⟨b1,o1,y,hy,KO⟩:=eZ ((dY.o.ext HI.o.ext).ext s) (HC.o.ext (HB.o.trans (HI.o.ext.trans s))).outs 7 rfl n hno;replace KO:=jo KO;have RF:=af ((HC.o.ext (HB.o.trans (HI.o.ext.trans s))).o y (by rw [hy.o];exact List.getElem_mem hno)).2.2.1;have Pg:Hid (j5 c n=y.moves):=by show _=_;rw [vo hno,hy.o]
     have KU: ∀Y,Ext w3 Y->_:=λY e=>(((HAU.o.ext HI.o.ext).ext s).ext e).cs;replace KU:=gO KU;replace KB: ∀Y,Ext w3 Y->_:=λY e=>KB Y (s.trans e);have k1:(n:Int)<(c.outs.length:Int):=Int.ofNat_lt.2 hno;have k0:(0:Int)<=(n:Int):=Int.natCast_nonneg n;obtain ⟨z2,RV⟩: ∃z2,Hid (Ej c n u=z2):=⟨_,rfl⟩
     have HIM:Hid (Calls prog 149 #[.slice y.ma y.moves.length y.mc,.func (.func 150) #[] #[.pointer (some ⟨U,0,none⟩)]] w3 λe w'=>e= .returned (i64 z2)/\Ext w3 w'):=by
      have h1:=Mr w3 y.ma y.mc y.moves RF.o 150 (.pointer (some ⟨U,0,none⟩)) (λi=>decide ((y.moves[i]?.map cH.unit)=some (u:Int))) (enters_of func150 aw rfl) (λY j hj e=>(ML Y y.moves[j] u U (((HAU.o.ext HI.o.ext).ext s).ext e)).mono λe w' q=>⟨by rw [q.1];simp [List.getElem?_eq_getElem hj,YN],q.2⟩);rw [<-RV.o,K7,Pg.o];exact h1
     have wH:=af s;clear s KH hy x3;have s:=Ext.refl w3;go_wp2_with fail
     refine HIM.o.mono ?_;rintro e w4 ⟨rfl,x4⟩;replace wH:=af (wH.o.trans x4);clear HIM KO s;replace KB: ∀Y,Ext w4 Y->_:=λY e=>KB Y (x4.trans e);replace KU: ∀Y,Ext w4 Y->_:=λY e=>KU Y (x4.trans e);replace HI:=af (HI.o.next wH.o);replace HD:=af (HD.o.ext wH.o);clear x4 wH;have s:=Ext.refl w4;rcases pY (λj=>decide ((S.moves[j]?.map eF.hour)=some (h:Int)/\(S.moves[j]?.map eF.br)=some (n:Int))) S.moves.length with⟨i0,g1,g2,-,g4⟩|⟨g1,g2⟩
     case inr=>
      have Qw:Hid (qc c u h ⟨h,n,xb⟩ S.moves S.moves.length=0):=wM λj hj q=>by have:=g1 j hj;simp [List.getElem?_eq_getElem hj,q.2.1,q.2.2]at this
      obtain rfl:z1= -1:=by rw [<-TA.o];exact g2
      clear g1 g2 KU;have HN:=af (HI.o.kP (q':=mL c u h p.moves S.moves (i+1)) (by rw [H5.o,Qw.o,Rat.add_zero]));go_wp2
      exact ⟨⟨i+1,hlt,bq,HN.o.mono ae⟩,bz⟩
     have HG:Hid (S.moves[i0].hour=(h:Int)/\S.moves[i0].br=(n:Int)):=by show _/\_;simpa [List.getElem?_eq_getElem g1]using g2
     have HPE:=af (GL (c:=c) (u:=u) (h:=(h:Int)) (m:=⟨h,n,xb⟩) kX.o.moves g1 rfl HG.o.1 HG.o.2);obtain rfl:z1=(i0:Int):=by rw [<-TA.o];exact g4
     clear g2 g4;have e1:(0:Int)<=(i0:Int):=Int.natCast_nonneg i0
     rcases (show(∃k:Nat,Ej c n u=k/\k<(j5 c n).length)\/Ej c n u= -1 from by
      rcases pY (λi=>decide (((j5 c n)[i]?.map cH.unit)=some (u:Int))) (j5 c n).length with⟨k,f1,-,-,f4⟩|⟨-,f2⟩
      .exact .inl ⟨k,f4,f1⟩
      .exact .inr f2)with⟨k,f1,f2⟩|f1
     case inr=>
      have Qw:Hid (qc c u h ⟨h,n,xb⟩ S.moves S.moves.length=0):=by show _=_;rw [HPE.o];exact GN (by show Ej c (n:Int).toNat u<0;rw [Int.toNat_natCast,f1];decide)
      obtain rfl:z2= -1:=by rw [<-RV.o];exact f1
      clear f1 KU;have HN:=af (HI.o.kP (q':=mL c u h p.moves S.moves (i+1)) (by rw [H5.o,Qw.o,Rat.add_zero]));go_wp2
      exact ⟨⟨i+1,hlt,bq,HN.o.mono ae⟩,bz⟩
     have Qw:Hid (qc c u h ⟨h,n,xb⟩ S.moves S.moves.length=xb.q (fG c u)*Qs S.moves[i0] k):=by show _=_;rw [HPE.o];exact GP (by show Ej c (n:Int).toNat u=k;rw [Int.toNat_natCast,f1])
     obtain rfl:z2=(k:Int):=by rw [<-RV.o];exact f1
     clear f1 HPE;have e2:(0:Int)<=(k:Int):=Int.natCast_nonneg k;have Gl:=af (kX.o.moves i0 g1 g1).1;obtain ⟨b2,o2,z,hz,KM⟩:=eZ (gH.o.ext HI.o.ext) (HS.o.ext (HB.o.trans HI.o.ext)).moves 7 rfl i0 g1;replace KM:=jo KM;have MP:=af ((HS.o.ext (HB.o.trans HI.o.ext)).move z (by rw [hz.o];exact List.getElem_mem g1)).2.2
     have AD:Hid (k<z.up.l.length/\k<z.down.l.length):=by
      have h1:=Gl.o.up;have h2:=Gl.o.down
      rw [HG.o.2,Int.toNat_natCast,<-hz.o]at h1 h2;show _/\_;omega
     have HZE:Hid (Qs S.moves[i0] k=z.up.q k-z.down.q k):=by show _=_;rw [<-hz.o];rfl
     obtain ⟨b5,o5,ru,Vl,k2,Ku⟩:=GS MP.o.1 k AD.o.1 (λY e=>(KM Y e).2.2.2.1);obtain ⟨b6,o6,rd,CG,k3,Kd⟩:=GS MP.o.2 k AD.o.2 (λY e=>(KM Y e).2.2.2.2.1);replace KM:=λY e=>(KM Y e).1;have k4:(i0:Int)<(S.moves.length:Int):=Int.ofNat_lt.2 g1;clear hz;go_upto_region 10 with fail
     go_cut [17] (λv wx=> ∃B1 r,v= .pointer (some ⟨B1,0,none⟩)/\Ext w4 wx/\Hid (w4.heap.size<=B1)/\aY wx B1 63 r.cells/\fE wx r (z.up.q k-z.down.q k) 9)
     case first=>
      as_aux_lemma=>
       refine wG (λw=>Ext w4 w) (s.drew) λs=> ?_;generalize w4.drew=Y at*;refine wV 0 s ?_;refine wV 2 s ?_;refine wV 6 s ?_;refine wV 9 s ?_;refine wV 11 s ?_;refine wV 15 s ?_;refine wV 1 s ?_;refine wV 10 s ?_;refine wV 3 s ?_;refine wV 12 s ?_;refine wV 4 s ?_;refine wV 13 s ?_;refine wV 5 s ?_;refine wV 14 s ?_;refine wV 7 s ?_;refine wV 16 s ?_;refine wV 8 s ?_;refine wV 17 s ?_;refine Mz 18 19 (λK' hK=> ?_) (λK' hK=> ?_)
       .rw [if_pos bQ]
        go_simp;refine (rI _ _ _ _ _ 4 4 (Vl.o.ext s) (CG.o.ext s)).mono ?_;rintro e w18 ⟨r1,rfl,hn,bJ,x⟩;have cD:=af hn;refine hK.o _ _ (s.trans x) λs=> ?_;clear hK K' x hn bJ;refine wR 19 λK' hK=> ?_;rw [if_pos bQ];go_simp;generalize jS:World.alloc _ _=Wa;obtain ⟨B,jT,x,A⟩:=aI jS;rw [<-jT];have fz:=af A;have ig:Hid (w4.heap.size<=B):=by have:=s.size;show _<=_;omega
        replace cD:=af (cD.o.ext x);refine hK.o _ _ (s.trans x) λs=> ?_;clear hK K' x A jS jT;refine wR 20 λK' hK=> ?_;rw [if_pos bQ];have KA:=(fz.o).cs;replace KA:=gO KA;have f3:=λi=>fz.o.frozen i;go_simp;have iB:=af (dE fz.o rfl cD.o);refine hK.o _ _ ((cF _ B r1).ext s ig.o) λs=> ?_;clear hK K' KA f3;refine wD ?_;go_wp2
        go_meet
        exact ⟨B,r1,rfl,s,ig.o,iB.o.1,iB.o.2⟩
       .rw [if_pos bQ]
        go_simp;generalize jS:World.alloc _ _=Wa;obtain ⟨B,jT,x,A⟩:=aI jS;rw [<-jT];have fz:=af A;have ig:Hid (w4.heap.size<=B):=by have:=s.size;show _<=_;omega
        refine hK.o _ _ (s.trans x) λs=> ?_;clear hK K' x A jS jT;refine wR 18 λK' hK=> ?_;rw [if_pos bQ];go_simp;refine (rI _ _ _ _ _ 4 4 (Vl.o.ext s) (CG.o.ext s)).mono ?_;rintro e w18 ⟨r1,rfl,hn,bJ,x⟩;have cD:=af hn;replace fz:=af (fz.o.ext x);refine hK.o _ _ (s.trans x) λs=> ?_;clear hK K' x hn bJ;refine wR 20 λK' hK=> ?_;rw [if_pos bQ];have KA:=(fz.o).cs;replace KA:=gO KA;have f3:=λi=>fz.o.frozen i;go_simp;have iB:=af (dE fz.o rfl cD.o);refine hK.o _ _ ((cF _ B r1).ext s ig.o) λs=> ?_;clear hK K' KA f3;refine wD ?_;go_wp2
        go_meet
        exact ⟨B,r1,rfl,s,ig.o,iB.o.1,iB.o.2⟩
     case rest=>
      obtain ⟨B1,r1,rfl,x5,NB,A5,hr1⟩:=hcut;generalize wc=w5 at*;have DN:=af A5;have tO:=af hr1
      replace KB: ∀Y,Ext w5 Y->_:=λY e=>KB Y (x5.trans e);replace KU: ∀Y,Ext w5 Y->_:=λY e=>KU Y (x5.trans e);have KA: ∀Y,Ext w5 Y->_:=λY e=>(DN.o.ext e).cs;replace KA:=gO KA;replace HI:=af (HI.o.next x5);have yf:=af (HD.o.ext x5);clear x5 A5 hr1 NB HD Gl KM Ku Kd Vl CG s;have EI:=af (HA.o.ok.unit _ (List.getElem_mem hu)).fc;have qy:=af (sD hu);have ig:Hid (fG c u<c.ar.length):=by show _<_;rw [qy.o];have:=EI.o;omega
      obtain ⟨b7,o7,v,hv,KV⟩:=eZ (dY.o.ext HI.o.ext) (HC.o.ext (HB.o.trans HI.o.ext)).ay 4 rfl u hu
      replace KV: ∀Y,Ext w5 Y->Y.cell? ⟨G,4,none⟩=some (.slice (some ⟨b7,o7,none⟩) c.ay.length c.uc)/\Y.cell? ⟨b7,o7+u*22+1,none⟩=some (i64 ((fG c u:Nat):Int)):=λY e=>⟨(KV Y e).1,by
       have h1:v.fc=((fG c u:Nat):Int):=by rw [qy.o,hv.o];have:=EI.o;omega
       rw [<-h1];exact (KV Y e).2.2.1⟩
      obtain ⟨b8,o8,re,He,k5,Ke⟩:=jP (j:=2) yf.o (YO.o.ext HI.o.ext) rfl (fG c u) (by rw [Nv.o];exact ig.o);obtain ⟨rs,Hs,KS⟩:=HI.o.get;have k7:(u:Int)<(c.ay.length:Int):=Int.ofNat_lt.2 hu;have k8:(0:Int)<=(u:Int):=Int.natCast_nonneg u;have k9:(0:Int)<=((fG c u:Nat):Int):=Int.natCast_nonneg _;have dK:=HI;have s:=Ext.refl w5;clear hv HI KB;go_upto_region 11 with fail
      refine zG 14 (λw=>Ext w5 w) (s.drew) λs=> ?_;generalize w5.drew=Y at*;refine zV 0 s ?_;refine zV 1 s ?_;refine zV 3 s ?_;refine zV 5 s ?_;refine zV 11 s ?_;refine zV 2 s ?_;refine zV 4 s ?_;refine zV 6 s ?_;refine zV 7 s ?_;refine zV 8 s ?_;refine zV 9 s ?_;refine zV 10 s ?_;refine zN 12 s (rJ _ _ _ _ _ 4 9 (He.o.ext s) (tO.o.ext s)) λr2 Qx dL bJ x s=> ?_;clear x bJ;refine zN 13 s (vq _ _ _ _ _ (1+15*i) 14 (Hs.o.ext s) dL.o (ux HM.o BV.o)) λr3 Vy iH bJ x s=> ?_;clear x bJ;have kW:=af (dK.o.next s);have f3:=λi=>kW.o.frozen i;refine zL 14 λK' hK=> ?_;rw [if_pos bQ];go_simp;refine hK.o _ _ ?_;clear hK K' f3;have mJ:=af (((kW.o.put iH.o).mono (show _<=1+15*(i+1) by omega)).kP (q':=mL c u h p.moves S.moves (i+1)) (by rw [H5.o,Qw.o,HZE.o]));unfold mK at mJ;clear s;generalize World.setCell _ _ _=W9 at mJ⊢;go_wp2
      exact ⟨⟨i+1,hlt,bq,mJ.o⟩,bz⟩
    .obtain rfl:i=p.moves.length:=ae
     clear hlt hi;have s:=Ext.refl wr;go_wp2
     go_meet
     exact HI.o
 case rest=>
  have dK:=af hcut;generalize wc=EH at*;clear HI K1 s hcut;obtain ⟨rs,Hs,KS⟩:=dK.o.get;have s:=Ext.refl EH;have py:=yC.o.ext dK.o.ext;go_wp2_with (refine cA rfl 63 _ _ rfl Z [.bool false,.slice none 0 0,.slice none 0 0] [.bool rs.s,.slice rs.a rs.k rs.c,.slice rs.b rs.j rs.d] py rfl rfl aw rfl rfl ?_;intro W11 Pz tW)
  refine bodyPost_ret (v:= .agg #[.bool rs.s,.slice rs.a rs.k rs.c,.slice rs.b rs.j rs.d]) (ib 10 _ rfl rfl Pz underlying63 rfl aw) rfl ?_;exact ⟨rs,rfl,((Hs.o.vu (r0:=⟨false,none,0,0,none,0,0⟩) py tW)).mono (dB HM.o),tW.ext (HB.o.trans dK.o.ext) nW.o⟩
theorem adi {a b c d:Int} (h:b<a): ¬(a<b\/a=b/\c<d):=ae
theorem adj {a b c d:Int} (h:a=b) (h':d<=c): ¬(a<b\/a=b/\c<d):=ae
theorem adk {a b c d:Int} (h: ¬b<a) (h': ¬a=b):a<b\/a=b/\c<d:=ae
theorem Sa {i j n k:Nat} (e:i=j+1) (h:i<n) (h1:n<=k) (h2:k<=9223372036854775807):wrap64 ((i:Int)-1)=(j:Int)/\IntKind.i64.wrap ((i:Int)-1)=(j:Int)/\(j:Int)<(n:Int)/\(0:Int)<=(j:Int)/\(0:Int)<(i:Int):=by
 subst e;refine ⟨by unfold wrap64;omega,by rw [IntKind.wrap_i64]<;>omega,ae,ae,ae⟩
theorem PI {i n:Nat} (h:i<n):n-((i:Int)+1).toNat<n-((i:Int)).toNat:=ae
theorem dlt {a b:Int} (h: ¬b<=a):decide (a<b)=true:=decide_eq_true ae
theorem dge {a b:Int} (h:b<=a):decide (a<b)=false:=decide_eq_false ae
theorem dle {a b:Int} (h: ¬a<b):decide (b<=a)=true:=decide_eq_true ae
theorem adl {a b:Int} (h:a<b):decide (b<=a)=false:=decide_eq_false ae
theorem Sb (V:World) (c:aq) (p:aU) (L:Nat) (hc:bK V c) (hl:kU c) (h0:cC c=0) (hA:Acc c) (hp:fS V p L):
 Calls prog 53 #[.agg (C8 c),.agg p.cells.toArray] V (DU V (mQ c p)):=by
 try unfold C8
 have HC:=af hc;have HA:=af hA;have HP:=af hp
 have tq:Hid (∀U,Ext V U-> ∀h n,0<=h/\h<c.hours->n<c.outs.length->_):=λU (hU:Ext V U) h n hh hn=>xJ U c h n (hc.ext hU) hl h0 hA hh hn;have hle:=hp.b_.le;have nE:=hp.bC.le;have Pe:=hp.moves.lens;have Ar:=hc.ar.lens
 clear hc hA hp hl h0;obtain ⟨⟨ea,ec,el⟩,rv,ma,mc,ms⟩:=p;unfold aU.cells;dsimp only at*
 go_enter func53,ntmps53
 go_upto_region 1 with fail
 generalize hW1:World.alloc V _=W1;generalize hW:World.alloc W1 _=W;obtain ⟨G,R,hG,hR,HX,dY,gH,nW⟩:=jD hW1 hW;rw [<-hG];try rw [hR]
 clear hW hW1 hG hR;have vE:=af (HC.o.ext HX.o);have K: ∀Y,Ext W Y->_:=λY e=>aq.at (dY.o.ext e);have K1: ∀Y,Ext W Y->_:=λY e=>(gH.o.ext e).cs;replace K1:=jo K1;have st:=Ext.refl W;by_cases q1:(el.length:Int)=c.hours
 case neg=>
  have h1:((el.length:Int) !=c.hours)=true:=by simpa using q1
  go_wp2
  go_ret;exact ⟨false,rfl,by simp only [Bool.false_eq_true,false_iff];intro q;exact q1 (gZ.1 q.b_).1,HX.o.trans st⟩
 have h1:((el.length:Int) !=c.hours)=false:=by simpa using q1
 by_cases q2:(rv.l.length:Int)=c.hours
 case neg=>
  have h2:((rv.l.length:Int) !=c.hours)=true:=by simpa using q2
  have vD:=af q1;clear q1;go_wp2
  go_ret;exact ⟨false,rfl,by simp only [Bool.false_eq_true,false_iff];intro q;exact q2 q.bC,HX.o.trans st⟩
 have h2:((rv.l.length:Int) !=c.hours)=false:=by simpa using q2
 have HQ:=af (And.intro q1 q2);clear q1 q2;go_wp2_with fail
 clear h1 h2;go_loopw [5] (λii wr=> ∃i:Nat,i<=el.length/\ii= .int .i64 i/\(∀j (hj:j<el.length),j<i->(el[j].l.length:Int)=(c.ar.length:Int))/\Ext W wr) (λii _=>el.length-(intOf ii).toNat)
 case atStart=>exact ⟨0,bm,rfl,λj _ h=>absurd h (Nat.not_lt_zero _),st⟩
 case round=>
  clear st;obtain ⟨i,hi,rfl,hB,st⟩:=hrel;have HB:=af hB;clear hB;by_cases hlt:i<el.length
  .have b1:(i:Int)<(el.length:Int):=ae
   have b0:(0:Int)<=(i:Int):=ae;have bh:(i:Int)<c.hours:=dB HQ.o;obtain ⟨b,o,y,ha,hy,-,-,K2⟩:=(HP.o.ext (HX.o.trans st)).b_.at i hlt;dsimp only at ha hy
   subst ha;have HY:Hid ((y.l.length:Int)=(el[i].l.length:Int)):=by rw [hy.o];exact rfl
   go_wp2_with fail
   have s:=Ext.refl wr;replace K: ∀Y,Ext wr Y->_:=λY e=>K Y (st.trans e);replace K1: ∀Y,Ext wr Y->_:=λY e=>K1 Y (st.trans e);refine wG (λw=>Ext wr w) s.drew λs=> ?_;generalize wr.drew=Y at*;refine wV 0 s ?_;refine wV 1 s ?_;refine wV 2 s ?_;refine wV 3 s ?_;refine wV 4 s ?_;refine wV 5 s ?_;refine wV 6 s ?_;refine wV 7 s ?_;refine wV 8 s ?_;by_cases pb:(y.l.length:Int)=(c.ar.length:Int)
   .have t5:((y.l.length:Int) !=(c.ar.length:Int))=false:=by simpa using pb
    have Jv:=af pb;clear pb;refine wV 9 s ?_;refine wD ?_;go_wp2
    exact ⟨⟨i+1,hlt,bq,λj hj qF=>by
     by_cases e:j<i
     .exact HB.o j hj e
     .obtain rfl:j=i:=ae
      rw [<-HY.o];exact Jv.o,st.trans s⟩,bz⟩
   .have t5:((y.l.length:Int) !=(c.ar.length:Int))=true:=by simpa using pb
    have Jv:=af pb;clear pb;refine wV 9 s ?_;refine wD ?_;go_wp2
    go_ret;exact ⟨false,rfl,by simp only [Bool.false_eq_true,false_iff];intro q;exact Jv.o (by rw [HY.o];exact (gZ.1 q.b_).2 _ (List.getElem_mem hlt)),HX.o.trans (st.trans s)⟩
  .obtain rfl:i=el.length:=ae
   have bh: ¬(el.length:Int)<c.hours:=dB HQ.o;go_wp2_with fail
   have si:Hid (cE ⟨ea,ec,el⟩ c.hours c.ar.length=true):=gZ.2 ⟨HQ.o.1,λy hy=>by
    obtain ⟨j,hj,rfl⟩:=List.mem_iff_getElem.1 hy;exact HB.o j hj hj⟩
   clear HB bh hi;go_loopw [6] (λii wr=> ∃i:Nat,i<=ms.length/\ii= .int .i64 i/\ox c ms i/\Ext W wr) (λii _=>ms.length-(intOf ii).toNat)
   case atStart=>exact ⟨0,bm,rfl,λj _ h=>absurd h (Nat.not_lt_zero _),st⟩
   case round=>
    clear st;obtain ⟨i,hi,rfl,hB,st⟩:=hrel;have HB:=af hB;clear hB;by_cases hlt:i<ms.length
    .have b1:(i:Int)<(ms.length:Int):=ae
     have b0:(0:Int)<=(i:Int):=ae;obtain ⟨b,o,x,e0,hx,K2⟩:=(HP.o.ext (HX.o.trans st)).moves.pick i hlt;dsimp only at e0 hx
     subst e0;replace K2:=jo K2;obtain ⟨xh,xo,xb⟩:=x;dsimp only at K2
     replace K1: ∀Y,Ext wr Y->_:=λY e=>K1 Y (st.trans e);have s:=Ext.refl wr;clear K;go_upto_region 12 with(refine aT rfl 53 _ _ rfl [i64 0,i64 0] [i64 xh,i64 xo] rfl rfl aw rfl rfl ?_)
     generalize hW2:World.alloc wr _=W2;obtain ⟨B,hB,x2,A2⟩:=aI hW2;rw [<-hB];simp only [Act.put];have KB: ∀Y,Ext W2 Y->_:=λY e=>(A2.ext e).cs;replace KB:=jo KB;replace K1: ∀Y,Ext W2 Y->_:=λY e=>K1 Y (x2.trans e);replace K2: ∀Y,Ext W2 Y->_:=λY e=>K2 Y (x2.trans e);have mf:=af (st.trans x2);have nV:Hid ((Gf c ⟨xh,xo,xb⟩->False)->(ox c ms ms.length->False)):=λh q=>h (by have:=(q i hlt hlt).1;rw [<-hx.o]at this;exact this);clear hW2 hB A2 x2 s st;go_cut [106] (λv w=> ∃t:Bool,v= .bool t/\Hid (t=false↔Gf c ⟨xh,xo,xb⟩)/\Ext W2 w)
     case first=>
      have K: ∀Y,Ext W2 Y->_:=λY e=>aq.at (dY.o.ext (mf.o.trans e));have s:=Ext.refl W2;refine wG (λw=>Ext W2 w) s.drew λs=> ?_;generalize W2.drew=Y1 at*;refine wV 0 s ?_;refine wV 1 s ?_;by_cases p1:0<=xh
      case neg=>
       have t1:=dlt p1;refine wV 2 s ?_;refine wV 3 s ?_;refine wN 4 s ?_;refine wN 5 s ?_;refine wN 6 s ?_;refine wN 7 s ?_;refine wN 8 s ?_;refine wV 9 s ?_;refine wV 10 s ?_;refine wN 11 s ?_;refine wN 12 s ?_;refine wN 13 s ?_;refine wV 14 s ?_;refine wV 15 s ?_;refine wN 16 s ?_;refine wN 17 s ?_;refine wN 18 s ?_;refine wN 19 s ?_;refine wN 20 s ?_;refine wN 21 s ?_;refine wV 22 s ?_;refine wV 23 s ?_;refine wN 24 s ?_;refine wN 25 s ?_;refine wN 26 s ?_;refine wN 27 s ?_;refine wN 28 s ?_;refine wN 29 s ?_;refine wN 30 s ?_;refine wN 31 s ?_;refine wV 32 s ?_;refine wV 33 s ?_;refine wN 34 s ?_;refine wN 35 s ?_;refine wN 36 s ?_;refine wN 37 s ?_;refine wN 38 s ?_;refine wN 39 s ?_;refine wN 40 s ?_;refine wV 41 s ?_;refine wV 42 s ?_;refine wN 43 s ?_;refine wN 44 s ?_;refine wN 45 s ?_;refine wN 46 s ?_;refine wN 47 s ?_;refine wN 48 s ?_;refine wN 49 s ?_;refine wN 50 s ?_;refine wN 51 s ?_;refine wN 52 s ?_;refine wN 53 s ?_;refine wV 54 s ?_;refine wD ?_;go_wp2
       go_meet
       exact ⟨true,rfl,(by show _↔_;simp only [Bool.true_eq_false,false_iff];intro q;first|exact p1 q.jO.hour.1|exact absurd q.jO.hour.1 (Int.not_le.2 p1)),s⟩
      have t1:=dge p1;refine wV 2 s ?_;refine wV 3 s ?_;refine wV 4 s ?_;refine wV 5 s ?_;refine wV 6 s ?_;refine wV 7 s ?_;by_cases p2:xh<c.hours
      case neg=>
       have t2:=dle p2;refine wV 8 s ?_;refine wV 9 s ?_;refine wV 10 s ?_;refine wN 11 s ?_;refine wN 12 s ?_;refine wN 13 s ?_;refine wV 14 s ?_;refine wV 15 s ?_;refine wN 16 s ?_;refine wN 17 s ?_;refine wN 18 s ?_;refine wN 19 s ?_;refine wN 20 s ?_;refine wN 21 s ?_;refine wV 22 s ?_;refine wV 23 s ?_;refine wN 24 s ?_;refine wN 25 s ?_;refine wN 26 s ?_;refine wN 27 s ?_;refine wN 28 s ?_;refine wN 29 s ?_;refine wN 30 s ?_;refine wN 31 s ?_;refine wV 32 s ?_;refine wV 33 s ?_;refine wN 34 s ?_;refine wN 35 s ?_;refine wN 36 s ?_;refine wN 37 s ?_;refine wN 38 s ?_;refine wN 39 s ?_;refine wN 40 s ?_;refine wV 41 s ?_;refine wV 42 s ?_;refine wN 43 s ?_;refine wN 44 s ?_;refine wN 45 s ?_;refine wN 46 s ?_;refine wN 47 s ?_;refine wN 48 s ?_;refine wN 49 s ?_;refine wN 50 s ?_;refine wN 51 s ?_;refine wN 52 s ?_;refine wN 53 s ?_;refine wV 54 s ?_;refine wD ?_;go_wp2
       go_meet
       exact ⟨true,rfl,(by show _↔_;simp only [Bool.true_eq_false,false_iff];intro q;first|exact p2 q.jO.hour.2|exact absurd q.jO.hour.2 (Int.not_lt.2 p2)),s⟩
      have t2:=adl p2;refine wV 8 s ?_;refine wV 9 s ?_;refine wV 10 s ?_;refine wV 11 s ?_;refine wV 12 s ?_;by_cases p3:0<=xo
      case neg=>
       have t3:=dlt p3;refine wV 13 s ?_;refine wV 14 s ?_;refine wV 15 s ?_;refine wN 16 s ?_;refine wN 17 s ?_;refine wN 18 s ?_;refine wN 19 s ?_;refine wN 20 s ?_;refine wN 21 s ?_;refine wV 22 s ?_;refine wV 23 s ?_;refine wN 24 s ?_;refine wN 25 s ?_;refine wN 26 s ?_;refine wN 27 s ?_;refine wN 28 s ?_;refine wN 29 s ?_;refine wN 30 s ?_;refine wN 31 s ?_;refine wV 32 s ?_;refine wV 33 s ?_;refine wN 34 s ?_;refine wN 35 s ?_;refine wN 36 s ?_;refine wN 37 s ?_;refine wN 38 s ?_;refine wN 39 s ?_;refine wN 40 s ?_;refine wV 41 s ?_;refine wV 42 s ?_;refine wN 43 s ?_;refine wN 44 s ?_;refine wN 45 s ?_;refine wN 46 s ?_;refine wN 47 s ?_;refine wN 48 s ?_;refine wN 49 s ?_;refine wN 50 s ?_;refine wN 51 s ?_;refine wN 52 s ?_;refine wN 53 s ?_;refine wV 54 s ?_;refine wD ?_;go_wp2
       go_meet
       exact ⟨true,rfl,(by show _↔_;simp only [Bool.true_eq_false,false_iff];intro q;first|exact p3 q.jO.o.1|exact absurd q.jO.o.1 (Int.not_le.2 p3)),s⟩
      obtain ⟨n,rfl⟩: ∃n:Nat,xo=(n:Int):=⟨xo.toNat,(Int.toNat_of_nonneg p3).symm⟩;refine wV 13 s ?_;refine wV 14 s ?_;refine wV 15 s ?_;refine wV 16 s ?_;refine wV 17 s ?_;refine wV 18 s ?_;refine wV 19 s ?_;refine wV 20 s ?_;by_cases p4:n<c.outs.length
      case neg=>
       have t4:decide (c.outs.length<=n)=true:=decide_eq_true (Nat.le_of_not_lt p4);refine wV 21 s ?_;refine wV 22 s ?_;refine wV 23 s ?_;refine wN 24 s ?_;refine wN 25 s ?_;refine wN 26 s ?_;refine wN 27 s ?_;refine wN 28 s ?_;refine wN 29 s ?_;refine wN 30 s ?_;refine wN 31 s ?_;refine wV 32 s ?_;refine wV 33 s ?_;refine wN 34 s ?_;refine wN 35 s ?_;refine wN 36 s ?_;refine wN 37 s ?_;refine wN 38 s ?_;refine wN 39 s ?_;refine wN 40 s ?_;refine wV 41 s ?_;refine wV 42 s ?_;refine wN 43 s ?_;refine wN 44 s ?_;refine wN 45 s ?_;refine wN 46 s ?_;refine wN 47 s ?_;refine wN 48 s ?_;refine wN 49 s ?_;refine wN 50 s ?_;refine wN 51 s ?_;refine wN 52 s ?_;refine wN 53 s ?_;refine wV 54 s ?_;refine wD ?_;go_wp2
       go_meet
       exact ⟨true,rfl,(by show _↔_;simp only [Bool.true_eq_false,false_iff];intro q;first|exact p4 (Int.ofNat_lt.1 q.jO.o.2)|exact absurd (Int.ofNat_lt.1 q.jO.o.2) (Nat.not_lt.2 p4)),s⟩
      have t4:decide (c.outs.length<=n)=false:=decide_eq_false (Nat.not_le_of_lt p4);refine wV 21 s ?_;refine wV 22 s ?_;refine wV 23 s ?_;have pj:=vE.o.outs.lens;have k1:(n:Int)<(c.outs.length:Int):=Int.ofNat_lt.2 p4;have k0:(0:Int)<=(n:Int):=Int.natCast_nonneg n;obtain ⟨b4,o4,y,ha,hy,K4⟩:=(vE.o.ext mf.o).outs.pick n p4;replace K4:=jo K4;have HY:Hid (yA c n=y.bY):=by show _=_;rw [yX p4,hy.o]
      have Yy:=tq.o W2 (HX.o.trans mf.o) xh n ⟨p1,p2⟩ p4;have Y6:=af (λU (hU:Ext W2 U)=>tq.o U (HX.o.trans (mf.o.trans hU)) xh n ⟨p1,p2⟩ p4);have Tw:=af (And.intro (And.intro p1 p2) p4);try unfold C8 at Y6
      rw [ha]at K Y6;clear hy ha Yy p1 p2 p3 p4;cases Nw:y.bY with
      |false=>
       have H6:=af Nw;refine wV 24 s ?_;refine wV 25 s ?_;refine wV 26 s ?_;refine wV 27 s ?_;refine wV 28 s ?_;refine wV 29 s ?_;refine wV 30 s ?_;refine wV 31 s ?_;refine wV 32 s ?_;refine wV 33 s ?_;refine wN 34 s ?_;refine wN 35 s ?_;refine wN 36 s ?_;refine wN 37 s ?_;refine wN 38 s ?_;refine wN 39 s ?_;refine wN 40 s ?_;refine wV 41 s ?_;refine wV 42 s ?_;refine wN 43 s ?_;refine wN 44 s ?_;refine wN 45 s ?_;refine wN 46 s ?_;refine wN 47 s ?_;refine wN 48 s ?_;refine wN 49 s ?_;refine wN 50 s ?_;refine wN 51 s ?_;refine wN 52 s ?_;refine wN 53 s ?_;refine wV 54 s ?_;refine wD ?_;go_wp2
       go_meet
       exact ⟨true,rfl,(by show _↔_;simp only [Bool.true_eq_false,false_iff];intro q;have:yA c n=true:=q.O9;rw [HY.o,H6.o]at this;cases this),s⟩
      |true=>
      have H6:=af Nw;refine wV 24 s ?_;refine wV 25 s ?_;refine wV 26 s ?_;refine wV 27 s ?_;refine wV 28 s ?_;refine wV 29 s ?_;refine wV 30 s ?_;refine wV 31 s ?_;refine wV 32 s ?_;refine wV 33 s ?_;refine wV 34 s ?_;refine wV 35 s ?_;refine wV 36 s ?_;refine wV 37 s ?_;refine wV 38 s ?_;refine wR 39 λK' hK=> ?_;rw [if_pos bQ];go_simp;refine (Y6.o _ s).mono ?_;rintro e w3 ⟨rfl,x3⟩;refine hK.o _ _ (s.trans x3) λs=> ?_;clear hK K' x3;cases hp:kM c xh n with
      |false=>
       have HP:=af hp;refine wV 40 s ?_;refine wV 41 s ?_;refine wV 42 s ?_;refine wN 43 s ?_;refine wN 44 s ?_;refine wN 45 s ?_;refine wN 46 s ?_;refine wN 47 s ?_;refine wN 48 s ?_;refine wN 49 s ?_;refine wN 50 s ?_;refine wN 51 s ?_;refine wN 52 s ?_;refine wN 53 s ?_;refine wV 54 s ?_;refine wD ?_;go_wp2
       go_meet
       exact ⟨true,rfl,(by show _↔_;simp only [Bool.true_eq_false,false_iff];intro q;have:kM c xh n=true:=q.jO.jO;rw [HP.o]at this;cases this),s⟩
      |true=>
      have HP:=af hp;refine wV 40 s ?_;refine wV 41 s ?_;refine wV 42 s ?_;refine wV 43 s ?_;refine wV 44 s ?_;refine wV 45 s ?_;refine wV 46 s ?_;refine wV 47 s ?_;refine wV 48 s ?_;refine wV 49 s ?_;refine wV 50 s ?_;refine wV 51 s ?_;refine wV 52 s ?_;by_cases pb:(xb.l.length:Int)=(c.ar.length:Int)
      case neg=>
       have t5:((xb.l.length:Int) !=(c.ar.length:Int))=true:=by simpa using pb
       have Jv:=af pb;clear pb;refine wV 53 s ?_;refine wV 54 s ?_;refine wD ?_;go_wp2
       go_meet
       exact ⟨true,rfl,(by show _↔_;simp only [Bool.true_eq_false,false_iff];intro q;have:xb.l.length=c.ar.length:=q.fc;exact Jv.o (by rw [this])),s⟩
      have t5:((xb.l.length:Int) !=(c.ar.length:Int))=false:=by simpa using pb
      have Jv:=af pb;clear pb;refine wV 53 s ?_;refine wV 54 s ?_;refine wD ?_;go_wp2
      go_meet
      exact ⟨false,rfl,by show _↔_;simp only [true_iff];exact ⟨⟨Tw.o.1,⟨Int.natCast_nonneg n,Int.ofNat_lt.2 Tw.o.2⟩,HP.o⟩,HY.o.trans H6.o,Int.ofNat_inj.1 Jv.o⟩,s⟩
     case rest=>
      obtain ⟨t,rfl,hT,s⟩:=hcut;generalize hw4:wc=w4 at*;clear hw4;have st:=mf.o.trans s;cases t with
      |true=>
       go_wp2
       go_ret;refine ⟨false,rfl,?_,HX.o.trans st⟩;simp only [Bool.false_eq_true,false_iff];intro q;exact nV.o (λh=>by have:=hT.o.2 h;cases this) q.moves
      |false=>
      have Vo:=af (hT.o.1 rfl);clear hT;by_cases i0:i=0
      .subst i0
       go_wp2
       exact ⟨⟨0+1,hlt,bq,HB.o.snoc hlt (by rw [<-hx.o];exact Vo.o) (λh0=>absurd h0 (Nat.lt_irrefl _)),st⟩,bz⟩
      obtain ⟨j,qF⟩:=Nat.exists_eq_succ_of_ne_zero i0;have HJI:=af qF;have hj:j<ms.length:=by rw [qF]at hlt;exact Nat.lt_of_succ_lt hlt
      obtain ⟨w1,w2,c1,c0,c2⟩:=Sa qF hlt Pe.1 Pe.2;clear qF i0;obtain ⟨b',o',y,e',hy,K3⟩:=((HP.o.ext HX.o).ext st).moves.pick j hj;cases e'
      dsimp only at hy
      replace K3:=jo K3;replace K1: ∀Y,Ext w4 Y->_:=λY e=>K1 Y (s.trans e);have s4:=Ext.refl w4
      have HT:Hid (h_ ms[i-1].hour ms[i-1].br ms[i].hour ms[i].br↔y.hour<xh\/y.hour=xh/\y.br<xo):=by
       show _↔_;have e0:i-1=j:=by rw [HJI.o];rfl
       have e1:ms[i-1]=y:=by simp only [e0];exact hy.o.symm
       rw [e1,<-hx.o];exact Iff.rfl
      obtain ⟨yh,yo,yb⟩:=y;dsimp only at K3 HT
      clear hy K2;by_cases q1:xh<yh
      .have t6:decide (xh<yh)=true:=by simpa using q1
       have vD:=af (show¬(yh<xh\/yh=xh/\yo<xo)from adi q1);clear q1;go_upto_region 16 with(refine aT rfl 53 _ _ rfl [i64 0,i64 0] [i64 yh,i64 yo] rfl rfl aw rfl rfl ?_)
       generalize t_:World.alloc w4 _=W5;obtain ⟨B5,EN,x5,A5⟩:=aI t_;rw [<-EN];simp only [Act.put];have K5: ∀Y,Ext W5 Y->_:=λY e=>(A5.ext e).cs;replace K5:=jo K5;replace KB: ∀Y,Ext W5 Y->_:=λY e=>KB Y (s.trans (x5.trans e));replace s:=s.trans x5;have s5:=Ext.refl W5;clear t_ EN x5 A5 K3;go_wp2
       go_ret;exact ⟨false,rfl,by simp only [Bool.false_eq_true,false_iff];intro q;exact vD.o (HT.o.1 ((q.moves _ hlt hlt).2 (Int.ofNat_lt.1 c2))),HX.o.trans (mf.o.trans s)⟩
      .have t6:decide (xh<yh)=false:=by simpa using q1
       by_cases q2:yh=xh
       .have t7:(yh==xh)=true:=by simpa using q2
        by_cases q3:xo<=yo
        .have t8:decide (xo<=yo)=true:=by simpa using q3
         have vD:=af (show¬(yh<xh\/yh=xh/\yo<xo)from adj q2 q3);clear q1 q2 q3;go_upto_region 16 with(refine aT rfl 53 _ _ rfl [i64 0,i64 0] [i64 yh,i64 yo] rfl rfl aw rfl rfl ?_)
         generalize t_:World.alloc w4 _=W5;obtain ⟨B5,EN,x5,A5⟩:=aI t_;rw [<-EN];simp only [Act.put];have K5: ∀Y,Ext W5 Y->_:=λY e=>(A5.ext e).cs;replace K5:=jo K5;replace KB: ∀Y,Ext W5 Y->_:=λY e=>KB Y (s.trans (x5.trans e));replace s:=s.trans x5;have s5:=Ext.refl W5;clear t_ EN x5 A5 K3;go_wp2
         go_ret;exact ⟨false,rfl,by simp only [Bool.false_eq_true,false_iff];intro q;exact vD.o (HT.o.1 ((q.moves _ hlt hlt).2 (Int.ofNat_lt.1 c2))),HX.o.trans (mf.o.trans s)⟩
        .have t8:decide (xo<=yo)=false:=by simpa using q3
         have vD:=af (show yh<xh\/yh=xh/\yo<xo from .inr ⟨q2,Int.lt_of_not_ge q3⟩);clear q1 q2 q3;go_upto_region 16 with(refine aT rfl 53 _ _ rfl [i64 0,i64 0] [i64 yh,i64 yo] rfl rfl aw rfl rfl ?_)
         generalize t_:World.alloc w4 _=W5;obtain ⟨B5,EN,x5,A5⟩:=aI t_;rw [<-EN];simp only [Act.put];have K5: ∀Y,Ext W5 Y->_:=λY e=>(A5.ext e).cs;replace K5:=jo K5;replace KB: ∀Y,Ext W5 Y->_:=λY e=>KB Y (s.trans (x5.trans e));replace s:=s.trans x5;have s5:=Ext.refl W5;clear t_ EN x5 A5 K3;go_wp2
         exact ⟨⟨i+1,hlt,bq,HB.o.snoc hlt (by rw [<-hx.o];exact Vo.o) (λ_=>HT.o.2 vD.o),mf.o.trans s⟩,by simp only [intOf];exact PI hlt⟩
       .have t7:(yh==xh)=false:=by simpa using q2
        have vD:=af (show yh<xh\/yh=xh/\yo<xo from adk q1 q2);clear q1 q2;go_upto_region 16 with(refine aT rfl 53 _ _ rfl [i64 0,i64 0] [i64 yh,i64 yo] rfl rfl aw rfl rfl ?_)
        generalize t_:World.alloc w4 _=W5;obtain ⟨B5,EN,x5,A5⟩:=aI t_;rw [<-EN];simp only [Act.put];have K5: ∀Y,Ext W5 Y->_:=λY e=>(A5.ext e).cs;replace K5:=jo K5;replace KB: ∀Y,Ext W5 Y->_:=λY e=>KB Y (s.trans (x5.trans e));replace s:=s.trans x5;have s5:=Ext.refl W5;clear t_ EN x5 A5 K3;go_wp2
        exact ⟨⟨i+1,hlt,bq,HB.o.snoc hlt (by rw [<-hx.o];exact Vo.o) (λ_=>HT.o.2 vD.o),mf.o.trans s⟩,by simp only [intOf];exact PI hlt⟩
    .obtain rfl:i=ms.length:=ae
     go_wp2
     go_ret;exact ⟨true,rfl,by simp only [true_iff];exact ⟨si.o,HQ.o.2,HB.o⟩,HX.o.trans st⟩
