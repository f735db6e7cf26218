/- Texts of the proof. -/
import Derived.Shelf.SlSortCmp.NoneTotal
import Derived.Test.YtkpngkdgphojlaaGreatCf14
import Derived.Test.YtkpngkdgphojlaaGreatCf24
import Derived.Test.YtkpngkdgphojlaaGreatCf25
import Derived.Test.YtkpngkdgphojlaaGreatCf27
set_option linter.all false
set_option maxHeartbeats 2000000
set_option maxRecDepth 100000
namespace Go.Proofs
open Go.Shelf
def Tryz.sortL_ren:Go.Shelf.Ren:=⟨fun|6=>113|15=>168|14=>167|28=>204|29=>205|20=>196|21=>197|22=>198|23=>199|24=>200|25=>201|26=>202|27=>203|46=>219|47=>220|48=>221|49=>222|50=>223|57=>234|n=>n,fun|22=>22|24=>3|25=>46|3=>3|39=>216|0=>0|53=>185|55=>95|4=>4|46=>234|45=>233|50=>171|5=>5|9=>9|66=>245|70=>249|76=>260|77=>261|n=>n,fun|n=>n⟩
theorem Tryz.sortL:Go.Proofs.SlLaysF.n6 Tryz.prog Tryz.sortL_ren:={
 mixed:=by kernel_rfl,
 f6:=⟨Tryz.f113.name,by decide,Tryz.func113.trans (congrArg some (by kernel_rfl))⟩,
 f14:=⟨Tryz.f167.name,by decide,Tryz.func167.trans (congrArg some (by kernel_rfl))⟩,
 f15:=Tryz.func168.trans (congrArg some (by kernel_rfl)),
 f20:=⟨Tryz.f196.name,by decide,Tryz.func196.trans (congrArg some (by kernel_rfl))⟩,
 f21:=⟨Tryz.f197.name,by decide,Tryz.func197.trans (congrArg some (by kernel_rfl))⟩,
 f22:=⟨Tryz.f198.name,by decide,Tryz.func198.trans (congrArg some (by kernel_rfl))⟩,
 f23:=⟨Tryz.f199.name,by decide,Tryz.func199.trans (congrArg some (by kernel_rfl))⟩,
 f24:=⟨Tryz.f200.name,by decide,Tryz.func200.trans (congrArg some (by kernel_rfl))⟩,
 f25:=⟨Tryz.f201.name,by decide,Tryz.func201.trans (congrArg some (by kernel_rfl))⟩,
 f26:=⟨Tryz.f202.name,by decide,Tryz.func202.trans (congrArg some (by kernel_rfl))⟩,
 f27:=⟨Tryz.f203.name,by decide,Tryz.func203.trans (congrArg some (by kernel_rfl))⟩,
 f28:=Tryz.func204.trans (congrArg some (by kernel_rfl)),
 f29:=Tryz.func205.trans (congrArg some (by kernel_rfl)),
 f46:=⟨Tryz.f219.name,by decide,Tryz.func219.trans (congrArg some (by kernel_rfl))⟩,
 f47:=Tryz.func220.trans (congrArg some (by kernel_rfl)),
 f48:=Tryz.func221.trans (congrArg some (by kernel_rfl)),
 f49:=⟨Tryz.f222.name,by decide,Tryz.func222.trans (congrArg some (by kernel_rfl))⟩,
 f50:=⟨Tryz.f223.name,by decide,Tryz.func223.trans (congrArg some (by kernel_rfl))⟩,
 f57:=⟨Tryz.f234.name,by decide,Tryz.func234.trans (congrArg some (by kernel_rfl))⟩,
 t0:=Tryz.underlying0,
 a0:=Tryz.isAgg0,
 z0:=Tryz.sizeOf0,
 v0:=Tryz.zeroValue0,
 t3:=Tryz.underlying3,
 a3:=Tryz.isAgg3,
 z3:=Tryz.sizeOf3,
 v3:=Tryz.zeroValue3,
 t4:=Tryz.underlying4,
 a4:=Tryz.isAgg4,
 z4:=Tryz.sizeOf4,
 v4:=Tryz.zeroValue4,
 t5:=Tryz.underlying5,
 a5:=Tryz.isAgg5,
 z5:=Tryz.sizeOf5,
 v5:=Tryz.zeroValue5,
 t9:=Tryz.underlying9,
 a9:=Tryz.isAgg9,
 z9:=Tryz.sizeOf9,
 v9:=Tryz.zeroValue9,
 t22:=Tryz.underlying22,
 a22:=Tryz.isAgg22,
 z22:=Tryz.sizeOf22,
 v22:=Tryz.zeroValue22,
 a24:=Tryz.isAgg3,
 z24:=Tryz.sizeOf3,
 t25:=Tryz.underlying46,
 a25:=Tryz.isAgg46,
 z25:=Tryz.sizeOf46,
 v25:=Tryz.zeroValue46,
 t39:=Tryz.underlying216,
 a39:=Tryz.isAgg216,
 z39:=Tryz.sizeOf216,
 v39:=Tryz.zeroValue216,
 t45:=Tryz.underlying233,
 a45:=Tryz.isAgg233,
 z45:=Tryz.sizeOf233,
 v45:=Tryz.zeroValue233,
 t46:=Tryz.underlying234,
 a46:=Tryz.isAgg234,
 z46:=Tryz.sizeOf234,
 v46:=Tryz.zeroValue234,
 t50:=Tryz.underlying171,
 a50:=Tryz.isAgg171,
 z50:=Tryz.sizeOf171,
 v50:=Tryz.zeroValue171,
 t53:=Tryz.underlying185,
 a53:=Tryz.isAgg185,
 z53:=Tryz.sizeOf185,
 v53:=Tryz.zeroValue185,
 t55:=Tryz.underlying95,
 a55:=Tryz.isAgg95,
 z55:=Tryz.sizeOf95,
 v55:=Tryz.zeroValue95,
 t66:=Tryz.underlying245,
 a66:=Tryz.isAgg245,
 z66:=Tryz.sizeOf245,
 v66:=Tryz.zeroValue245,
 t70:=Tryz.underlying249,
 a70:=Tryz.isAgg249,
 z70:=Tryz.sizeOf249,
 v70:=Tryz.zeroValue249,
 t76:=Tryz.underlying260,
 a76:=Tryz.isAgg260,
 z76:=Tryz.sizeOf260,
 v76:=Tryz.zeroValue260,
 t77:=Tryz.underlying261,
 a77:=Tryz.isAgg261,
 z77:=Tryz.sizeOf261,
 v77:=Tryz.zeroValue261}
end Go.Proofs
namespace Go.Proofs.YtkpngkdgphojlaaGreat
open Go.Proofs.Tryz
open Go.RowKit
theorem L_ (V:World) (c:ai) (hc:a_ V c):
 Calls prog 9 #[.agg (C8 c)] V fun e w'=> ∃t:Bool,e= .returned (.bool t)∧(t=true→c.aj.length≤5∧c.lines.length≤6∧c.aq.length≤4∧c.stores.length≤4∧c.aB.length≤4∧c.outs.length≤4∧c.hours≤3)∧Ext V w':=by
 try unfold C8
 have f_:=ae hc;clear hc;go_enter func9,ntmps9
 go_upto_region 1 with fail
 obtain ⟨W0,hW,x0,Z0,A0⟩:=aX V 32 c.cells;rw [show V.alloc (.cells (C8 c) 32)=W0 from hW.symm];obtain ⟨B,hB⟩: ∃B,B=V.heap.size:=⟨_,rfl⟩;rw [←hB]at A0⊢;have HX:=ae x0;have HA:=ae A0
 clear hW Z0 A0 x0 hB;obtain ⟨k0,k1,k2,k3,k4,k5,k6,k7⟩:=ai.at HA.o;clear k1;by_cases h0:5<c.aj.length
 ·have g0:(5:Int)<(c.aj.length:Int):=by omega
  go_wp2_with fail
  go_ret;exact ⟨false,rfl,(fun e=>by cases e),HX.o⟩
 ·have g0:decide ((5:Int)<(c.aj.length:Int))=false:=by rw [decide_eq_false_iff_not];omega
  by_cases h1:6<c.lines.length
  ·have g1:(6:Int)<(c.lines.length:Int):=by omega
   go_wp2_with fail
   go_ret;exact ⟨false,rfl,(fun e=>by cases e),HX.o⟩
  ·have g1:decide ((6:Int)<(c.lines.length:Int))=false:=by rw [decide_eq_false_iff_not];omega
   by_cases h2:4<c.aq.length
   ·have g2:(4:Int)<(c.aq.length:Int):=by omega
    go_wp2_with fail
    go_ret;exact ⟨false,rfl,(fun e=>by cases e),HX.o⟩
   ·have g2:decide ((4:Int)<(c.aq.length:Int))=false:=by rw [decide_eq_false_iff_not];omega
    by_cases h3:4<c.stores.length
    ·have g3:(4:Int)<(c.stores.length:Int):=by omega
     go_wp2_with fail
     go_ret;exact ⟨false,rfl,(fun e=>by cases e),HX.o⟩
    ·have g3:decide ((4:Int)<(c.stores.length:Int))=false:=by rw [decide_eq_false_iff_not];omega
     by_cases h4:4<c.aB.length
     ·have g4:(4:Int)<(c.aB.length:Int):=by omega
      go_wp2_with fail
      go_ret;exact ⟨false,rfl,(fun e=>by cases e),HX.o⟩
     ·have g4:decide ((4:Int)<(c.aB.length:Int))=false:=by rw [decide_eq_false_iff_not];omega
      by_cases h5:4<c.outs.length
      ·have g5:(4:Int)<(c.outs.length:Int):=by omega
       go_wp2_with fail
       go_ret;exact ⟨false,rfl,(fun e=>by cases e),HX.o⟩
      ·have g5:decide ((4:Int)<(c.outs.length:Int))=false:=by rw [decide_eq_false_iff_not];omega
       by_cases h6:3<c.hours
       ·go_wp2_with fail
        go_ret;exact ⟨false,rfl,(fun e=>by cases e),HX.o⟩
       ·have HT:Hid (c.aj.length≤5∧c.lines.length≤6∧c.aq.length≤4∧c.stores.length≤4∧c.aB.length≤4∧c.outs.length≤4∧c.hours≤3):=by(show _∧_∧_∧_∧_∧_∧_;omega)
        have g6:decide ((3:Int)<c.hours)=false:=by rw [decide_eq_false_iff_not];exact h6
        have HU:=ae HT.o.2.2.1;clear h0 h1 h2 h3 h4 h5 h6;go_wp2_with fail
        clear g0 g1 g2 g3 g4 g5 g6 k0 k2 k3 k4 k5 k6 k7;go_loopw [3] (fun ii wr=> ∃i:Nat,i≤c.aq.length∧Ext W0 wr∧ii= .int .i64 (i:Int)) (fun ii _=>c.aq.length-(intOf ii).toNat)
        case atStart=>exact ⟨0,Nat.zero_le _,Ext.refl _,rfl⟩
        case round=>
             obtain ⟨i,hi,hx,rfl⟩:=hrel;have zy:=ae hx;have k4:wr.cell? ⟨B,4,none⟩=some (.slice c.ua c.aq.length c.uc):=ak hx ((HA.o.cell 4).trans rfl);clear hx;by_cases hlt:i<c.aq.length
             ·have b1:(i:Int)<(c.aq.length:Int):=by omega
              have b0:(0:Int)≤(i:Int):=by omega
              have hr:=(f_.o.ext (HX.o.trans zy.o)).aq;have hle:=hr.le;have dQ:=hr.cap
              rw [List.length_map]at hle;obtain ⟨b,o,ha,hcell⟩:=hr.cell i (by rw [List.length_map];exact hlt);simp only [List.getElem_map]at hcell;have e4:wr.cell? ⟨b,o+i*22+4,none⟩=some (.slice c.aq[i].sa c.aq[i].aU.length c.aq[i].sc):=hcell 4 (by show 4<22;decide);have e18:wr.cell? ⟨b,o+i*22+18,none⟩=some (.slice c.aq[i].aa c.aq[i].away.length c.aq[i].ac):=hcell 18 (by show 18<22;decide);rw [ha]at k4;have q5:IntKind.i64.wrap ((i:Int)+1)=((i+1:Nat):Int):=by rw [IntKind.wrap_i64];have:=HU.o;omega
              have q6:wrap64 ((i:Int)+1)=((i+1:Nat):Int):=by unfold wrap64;have:=HU.o;omega
              have Gi:=ae hlt;clear hr hcell ha hi;generalize c.aq[i]=x at*;clear hlt;by_cases h1:30<x.away.length
              ·have g1:(30:Int)<(x.away.length:Int):=by omega
               go_wp2_with fail
               go_ret;exact ⟨false,rfl,(fun e=>by cases e),HX.o.trans zy.o⟩
              ·have g1:decide ((30:Int)<(x.away.length:Int))=false:=by rw [decide_eq_false_iff_not];omega
               clear h1;by_cases h2:20<x.aU.length
               ·have g2:(20:Int)<(x.aU.length:Int):=by omega
                go_wp2_with fail
                go_ret;exact ⟨false,rfl,(fun e=>by cases e),HX.o.trans zy.o⟩
               ·have g2:decide ((20:Int)<(x.aU.length:Int))=false:=by rw [decide_eq_false_iff_not];omega
                clear h2;go_wp2_with fail
                exact ⟨⟨i+1,by(have:=Gi.o;omega),zy.o,by first|rfl|exact congrArg (Value.int IntKind.i64) q6⟩,by first|(show c.aq.length-(((i+1:Nat):Int)).toNat<c.aq.length-((i:Int)).toNat;have:=Gi.o;omega)|exact Nat.lt_of_le_of_lt (Nat.le_of_eq (congrArg (fun z=>c.aq.length-Int.toNat z) q6)) (by show c.aq.length-(((i+1:Nat):Int)).toNat<c.aq.length-((i:Int)).toNat;have:=Gi.o;omega)⟩
             ·obtain rfl:i=c.aq.length:=by omega
              go_wp2_with fail
              go_ret;exact ⟨true,rfl,fun _=>HT.o,HX.o.trans zy.o⟩
end Go.Proofs.YtkpngkdgphojlaaGreat
