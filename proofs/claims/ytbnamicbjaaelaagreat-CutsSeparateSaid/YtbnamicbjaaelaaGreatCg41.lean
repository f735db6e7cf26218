/- Texts of the proof. -/
import Derived.Test.YtbnamicbjaaelaaGreatCg40
set_option linter.all false
set_option maxHeartbeats 2000000
set_option maxRecDepth 100000
namespace Go.Proofs.YtbnamicbjaaelaaGreat
open Go.Proofs.Tryz
open Go.RowKit
theorem nK.le {n:Nat} {us:List Nat} (h:nK n us):us.length<=n:=by
 have hp:=List.pairwise_iff_getElem.1 h.L1
 have key: ∀i (hi:i<us.length),i<=us[i]:=by
  intro i;induction i with
  |zero=>intro _;exact aZ
  |succ i ih=>
   intro hi;have h1:=ih ae;have h2:=hp i (i+1) ae hi ae;omega
 by_cases q:us.length=0
 .omega
 .have h1:=key (us.length-1) ae
  have h2:=h.lt _ (List.getElem_mem (show us.length-1<us.length by omega));omega
theorem uZ (V:World) (c:ay) (hour:Int) (a:Option Addr) (cap:Nat) (l:List Int) (hc:bm V c) (hl:oX c) (hI:aS V a cap l) (hh:b_ hour):
 Calls prog 10 #[.agg (C8 c),i64 hour,.slice a l.length cap] V λe w'=>e= .returned (.tuple #[i64 (yi c hour l).1,i64 (yi c hour l).2])/\Ext V w':=by
 try unfold C8
 have eT:=ah hc;have HI:=ah hI;have oB:=ah hl
 have hle:=hI.le;have dS:=hI.cap
 have ue:c.aA.length<=9223372036854775807:=bA hl.aA;have O8:Hid (yi c hour l=if cE c≠0 then(0,cE c)else if mg c hour=false then(0,12)else if pW c.aA.length l=false then(0,72)else((qF c hour.toNat (l.map Int.toNat):Int),0)):=rfl;have Gy:Hid (cE c=0->iB c):=pM;obtain ⟨ce,hce⟩: ∃ce,ce=cE c:=⟨_,rfl⟩;rw [<-hce]at O8 Gy;obtain ⟨⟨g1,g2⟩,XI⟩: ∃ve,ve=yi c hour l:=⟨_,rfl⟩;rw [<-XI]at O8⊢;have Mp:=ah hce;clear hc hI hl hce XI;go_enter func10,ntmps10
 go_upto_region 1 with fail
 obtain ⟨W,hW,x0,Z0,A0⟩:=aV V 32 c.cells;rw [show V.alloc (.cells (C8 c) 32)=W from hW.symm];obtain ⟨B,hB⟩: ∃B,B=V.heap.size:=⟨_,rfl⟩;rw [<-hB]at A0⊢;have HX:=ah x0;have HA:=ah A0
 clear hW x0 Z0 A0;have k0:=ay.at HA.o;clear hB;go_wp2_with fail
 refine (yf W c (eT.o.ext HX.o) oB.o).mono ?_;rintro e w1 ⟨ek,ei,ef,rfl,xx⟩;go_upto_region 2 with fail
 obtain ⟨W2,hW2,x2,Z2,A2⟩:=aV w1 78 [i64 ek,i64 ei,i64 ef];rw [show w1.alloc (.cells #[i64 ek,i64 ei,i64 ef] 78)=W2 from hW2.symm];clear hW2 Z2 A2;rw [<-Mp.o];clear k0;have HA:=ah (HA.o.ext (xx.trans x2));have HX:=ah (HX.o.trans (xx.trans x2))
 clear xx x2;have k0:=ay.at HA.o;by_cases hz:ce=0
 rotate_left
 .have HQ:Hid (g1=0/\g2=ce):=by
   have:=O8.o;rw [if_pos hz,Prod.mk.injEq]at this;exact this
  have tz:(ce !=0)=true:=by simpa using hz
  clear hz;go_wp2_with fail
  go_ret2
  exact ⟨by rw [HQ.o.1,HQ.o.2];rfl,HX.o⟩
 have tz:(ce !=0)=false:=by simpa using hz
 have gA:=Gy.o hz;have zk:Hid ((g1,g2)=if mg c hour=false then(0,12)else if pW c.aA.length l=false then(0,72)else((qF c hour.toNat (l.map Int.toNat):Int),0)):=by show _=_;rw [O8.o,if_neg (λe=>e hz)]
 have qG:=ah gA;clear hz gA Gy;clear ue hle dS;go_wp2_with fail
 refine (Ac W2 c hour).mono ?_;rintro e w3 ⟨rfl,xx⟩;clear k0;have HA:=ah (HA.o.ext xx);have HX:=ah (HX.o.trans xx)
 clear xx;have k0:=ay.at HA.o;rcases Bool.eq_false_or_eq_true (mg c hour)with th|th;rotate_left
 .rw [th]
  have HQ:Hid (g1=0/\g2=12):=by
   have hv:=zk.o;rw [if_pos th]at hv;rw [Prod.mk.injEq]at hv;exact hv
  go_wp2_with fail
  go_ret2
  exact ⟨by rw [HQ.o.1,HQ.o.2];rfl,HX.o⟩
 rw [th];have TH:=ah th;clear th;have HST:=ah (DM w3 c a cap l (HI.o.ext HX.o));go_wp2_with fail
 refine HST.o.mono ?_;rintro e w4 ⟨rfl,xx⟩;clear k0;have HA:=ah (HA.o.ext xx);have HX:=ah (HX.o.trans xx)
 clear xx;have k0:=ay.at HA.o;rcases Bool.eq_false_or_eq_true (pW c.aA.length l)with ts|ts;rotate_left
 .rw [ts]
  have HQ:Hid (g1=0/\g2=72):=by
   have hv:=zk.o;rw [if_neg (by rw [TH.o];simp),if_pos ts]at hv;rw [Prod.mk.injEq]at hv;exact hv
  go_wp2_with fail
  go_ret2
  exact ⟨by rw [HQ.o.1,HQ.o.2];rfl,HX.o⟩
 rw [ts];have TS:=ah ts;clear ts HST;obtain ⟨n,e1,e2⟩:=yj TH.o;obtain ⟨us,u1,u2,u3⟩:=En TS.o;subst e1 u1
 have HQ:Hid (g1=((qF c n us:Nat):Int)/\g2=0):=by
  have hv:=zk.o;rw [if_neg (by rw [TH.o];simp),if_neg (by rw [TS.o];simp),qd,Int.toNat_natCast,Prod.mk.injEq]at hv;exact hv
 have Zz:=ah (uX V w4 c n us a cap HX.o eT.o qG.o e2 u2 u3 (HI.o.ext HX.o));rw [aN];generalize qF c n us=gr at*;clear e2 u2 u3;go_wp2_with fail
 refine Zz.o.mono ?_;rintro e w5 ⟨rfl,xx⟩;have HX:=ah (HX.o.trans xx);go_wp2_with fail
 go_ret2
 exact ⟨by rw [HQ.o.1,HQ.o.2];rfl,HX.o⟩
theorem MK (V:World) (a b:Option Addr) (n m ca cb:Nat):
 Calls prog 5 #[.slice a n ca,.slice b m cb] V λe w'=>e= .returned (.bool (decide (n<=200)&&decide (m<=200)))/\w'=V:=by
 go_enter func5,ntmps5
 by_cases hn:n<=200
 .have g1:(n:Int)<=200:=ae
  by_cases hm:m<=200
  .have g2:(m:Int)<=200:=ae
   have e1:(decide (n<=200)&&decide (m<=200))=true:=by simp [hn,hm]
   rw [e1];go_wp2
   go_ret;exact ⟨rfl,rfl⟩
  .have g2:decide ((m:Int)<=200)=false:=by rw [decide_eq_false_iff_not];omega
   have e1:(decide (n<=200)&&decide (m<=200))=false:=by simp [hm]
   rw [e1];go_wp2
   go_ret;exact ⟨rfl,rfl⟩
 .have g1:decide ((n:Int)<=200)=false:=by rw [decide_eq_false_iff_not];omega
  have e1:(decide (n<=200)&&decide (m<=200))=false:=by simp [hn]
  rw [e1];go_wp2
  go_ret;exact ⟨rfl,rfl⟩
theorem O9 (V:World) (c:ay) (hc:bm V c):
 Calls prog 7 #[.agg (C8 c)] V λe w'=> ∃t:Bool,e= .returned (.bool t)/\(t=true->c.aF.length<=5/\c.lines.length<=6/\c.aA.length<=4/\c.stores.length<=4/\c.bh.length<=4/\c.outs.length<=4/\c.hours<=3)/\Ext V w':=by
 try unfold C8
 have eT:=ah hc;clear hc;go_enter func7,ntmps7
 go_upto_region 1 with fail
 obtain ⟨W0,hW,x0,Z0,A0⟩:=aV V 32 c.cells;rw [show V.alloc (.cells (C8 c) 32)=W0 from hW.symm];obtain ⟨B,hB⟩: ∃B,B=V.heap.size:=⟨_,rfl⟩;rw [<-hB]at A0⊢;have HX:=ah x0;have HA:=ah A0
 clear hW Z0 A0 x0 hB;obtain ⟨k0,k1,k2,k3,k4,k5,k6,k7⟩:=ay.at HA.o;clear k1;by_cases h0:5<c.aF.length
 .have g0:(5:Int)<(c.aF.length:Int):=ae
  go_wp2
  go_ret;exact ⟨false,rfl,(λe=>by cases e),HX.o⟩
 .have g0:decide ((5:Int)<(c.aF.length:Int))=false:=by rw [decide_eq_false_iff_not];omega
  by_cases h1:6<c.lines.length
  .have g1:(6:Int)<(c.lines.length:Int):=ae
   go_wp2
   go_ret;exact ⟨false,rfl,(λe=>by cases e),HX.o⟩
  .have g1:decide ((6:Int)<(c.lines.length:Int))=false:=by rw [decide_eq_false_iff_not];omega
   by_cases h2:4<c.aA.length
   .have g2:(4:Int)<(c.aA.length:Int):=ae
    go_wp2
    go_ret;exact ⟨false,rfl,(λe=>by cases e),HX.o⟩
   .have g2:decide ((4:Int)<(c.aA.length:Int))=false:=by rw [decide_eq_false_iff_not];omega
    by_cases h3:4<c.stores.length
    .have g3:(4:Int)<(c.stores.length:Int):=ae
     go_wp2
     go_ret;exact ⟨false,rfl,(λe=>by cases e),HX.o⟩
    .have g3:decide ((4:Int)<(c.stores.length:Int))=false:=by rw [decide_eq_false_iff_not];omega
     by_cases h4:4<c.bh.length
     .have g4:(4:Int)<(c.bh.length:Int):=ae
      go_wp2
      go_ret;exact ⟨false,rfl,(λe=>by cases e),HX.o⟩
     .have g4:decide ((4:Int)<(c.bh.length:Int))=false:=by rw [decide_eq_false_iff_not];omega
      by_cases h5:4<c.outs.length
      .have g5:(4:Int)<(c.outs.length:Int):=ae
       go_wp2
       go_ret;exact ⟨false,rfl,(λe=>by cases e),HX.o⟩
      .have g5:decide ((4:Int)<(c.outs.length:Int))=false:=by rw [decide_eq_false_iff_not];omega
       by_cases h6:3<c.hours
       .go_wp2
        go_ret;exact ⟨false,rfl,(λe=>by cases e),HX.o⟩
       .have HT:Hid (c.aF.length<=5/\c.lines.length<=6/\c.aA.length<=4/\c.stores.length<=4/\c.bh.length<=4/\c.outs.length<=4/\c.hours<=3):=by(show _/\_/\_/\_/\_/\_/\_;omega)
        have g6:decide ((3:Int)<c.hours)=false:=by rw [decide_eq_false_iff_not];exact h6
        have HU:=ah HT.o.2.2.1;clear h0 h1 h2 h3 h4 h5 h6;go_wp2_with fail
        clear g0 g1 g2 g3 g4 g5 g6 k0 k2 k3 k4 k5 k6 k7;go_loopw [3] (λii wr=> ∃i:Nat,i<=c.aA.length/\Ext W0 wr/\ii= .int .i64 (i:Int)) (λii _=>c.aA.length-(intOf ii).toNat)
        case atStart=>exact ⟨0,aZ,ar,rfl⟩
        case round=>
             obtain ⟨i,hi,hx,rfl⟩:=hrel;have BH:=ah hx;have k4:wr.cell? ⟨B,4,none⟩=some (.slice c.ua c.aA.length c.uc):=aC hx ((HA.o.cell 4).trans rfl);clear hx;by_cases hlt:i<c.aA.length
             .have b1:(i:Int)<(c.aA.length:Int):=ae
              have b0:(0:Int)<=(i:Int):=ae;have hr:=(eT.o.ext (HX.o.trans BH.o)).aA;have hle:=hr.le;have dS:=hr.cap
              rw [List.length_map]at hle;obtain ⟨b,o,ha,hcell⟩:=hr.cell i (by rw [List.length_map];exact hlt);simp only [List.getElem_map]at hcell;have e4:wr.cell? ⟨b,o+i*22+4,none⟩=some (.slice c.aA[i].sa c.aA[i].aY.length c.aA[i].sc):=hcell 4 (by show 4<22;decide);have e18:wr.cell? ⟨b,o+i*22+18,none⟩=some (.slice c.aA[i].aa c.aA[i].away.length c.aA[i].ac):=hcell 18 (by show 18<22;decide);rw [ha]at k4;have q5:IntKind.i64.wrap ((i:Int)+1)=((i+1:Nat):Int):=by rw [IntKind.wrap_i64];have:=HU.o;omega
              have q6:wrap64 ((i:Int)+1)=((i+1:Nat):Int):=by unfold wrap64;have:=HU.o;omega
              have AH:=ah hlt;clear hr hcell ha hi;generalize c.aA[i]=x at*;clear hlt;by_cases h1:30<x.away.length
              .have g1:(30:Int)<(x.away.length:Int):=ae
               go_wp2
               go_ret;exact ⟨false,rfl,(λe=>by cases e),HX.o.trans BH.o⟩
              .have g1:decide ((30:Int)<(x.away.length:Int))=false:=by rw [decide_eq_false_iff_not];omega
               clear h1;by_cases h2:20<x.aY.length
               .have g2:(20:Int)<(x.aY.length:Int):=ae
                go_wp2
                go_ret;exact ⟨false,rfl,(λe=>by cases e),HX.o.trans BH.o⟩
               .have g2:decide ((20:Int)<(x.aY.length:Int))=false:=by rw [decide_eq_false_iff_not];omega
                clear h2;go_wp2
                exact ⟨⟨i+1,by(have:=AH.o;omega),BH.o,by first|rfl|exact congrArg (Value.int IntKind.i64) q6⟩,by first|(show c.aA.length-(((i+1:Nat):Int)).toNat<c.aA.length-((i:Int)).toNat;have:=AH.o;omega)|exact Nat.lt_of_le_of_lt (Nat.le_of_eq (congrArg (λz=>c.aA.length-Int.toNat z) q6)) (by show c.aA.length-(((i+1:Nat):Int)).toNat<c.aA.length-((i:Int)).toNat;have:=AH.o;omega)⟩
             .obtain rfl:i=c.aA.length:=ae
              go_wp2
              go_ret;exact ⟨true,rfl,λ_=>HT.o,HX.o.trans BH.o⟩
