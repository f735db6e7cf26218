/- Texts of the proof. -/
import Derived.Test.YtkpngkdgphojlaaGreatCf36
set_option linter.all false
set_option maxHeartbeats 40000000
set_option maxRecDepth 100000
namespace Go.Proofs.YtkpngkdgphojlaaGreat
open Go.Proofs.Tryz
open Go.RowKit
theorem JU (V:World) (T:Nat) (R:Nat) (X:Nat) (a:Option Addr) (c:Nat) (l:List Int) (hh:Nat) (nb:Nat) (rc:Nat) (bc:Nat) (rb:Option Addr) (ba:Option Addr) (rs:List Int) (bs:List cN) (D:Nat) (Nu:List aS) (Tr:Option Addr) (Ts:Nat) (HL:Hid (aI V a c l)) (pD:Hid (V.heap.size≤T∧V.heap.size≤R)) (HH:Hid (1≤hh∧hh≤3)) (DZ:Hid (rs.length=hh∧ ∀z∈rs,0≤z∧z<5)) (jD:Hid (1≤nb∧nb≤4)) (BZ:Hid (∀j (h:j<bs.length),kH bs[j] j hh)) (iG:Hid (bs.length=nb)) (uN:Hid (gK Nu nb hh)) (nS:Hid (Nu.length+1=nb)) (WM:World) (HP:Hid (iJ V T R X D a c l [i64 (hh:Int),.slice rb hh rc,.slice ba nb bc,.slice Tr Nu.length Ts,.slice none 0 0,.slice none 0 0,.slice none 0 0,.slice none 0 0] (⟨hh,rb,rc,rs,ba,bc,bs,none,0,[],none,0,[],none,0,[],none,0,[],none,0,[]⟩:ai) 78 12 Tr Ts (Nu.map aS.cells) (kD Nu) [] WM)) {u0 u1 u5 u6 u8 u9 u10 u11 u12 u13 u14 u15 u16 u17 u18 u19 u20 u21 u22 u23 u24 u25 u26 u27 u28 u29 u30 u31 u32 u33 u34 u35 u36 u37 u38 u39 u40 u41 u42 u43 u44 u45 u46 u47 u48 u49 u50 u51 u52 u53 u54 u55 u56 u57 u58 u59 u60 u61 u62 u63 u64 u65 u66 u67 u68 u69 u70 u71 u72 u73 u74 u75 u76 u77 u78 u79 u80 u81 u82 u83 u84 u85 u86 u87 u88 u89 u90 u91 u92 u93 u94 u95 u96 u97 u98 u99 u100 u101 u102 u103 u104 u105 u106 u107 u108 u109 u110 u111 u112 u113 u114 u115 u116 u117 u118 u119 u120 u121 u122 u123 u124 u125 u126 u127 u128 u129 u130 u131 u132 u133 u134 u135 u136 u137 u138 u139 u140 u141 u142 u143 u144 u145 u146 u147 u148 u149 u150 u151 u152 u153 u154 u155 u156 u157 u158 u159 u160 u161 u162 u163 u164 u165 u166 u167 u168 u169 u170 u171 u172 u173 u174 u175 u176 u177 u178 u179 u180 u181 u182 u183 u184 u185 u186 u187 u188 u189 u190 u191 u192 u193 u194 u195 u196 u197 u198 u199 u200 u201 u202 u203 u204 u205 u206 u207 u208 u209 u210 u211 u212 u213 u214 u215 u216 u217 u218 u219 u220 u221 u222 u223 u224 u225 u226 u227 u228 u229 u230 u231 u232 u233 u234 u235 u236:Value}:Code.wp prog (fh 7 Tryz.caseCode) (bodyPost prog Tryz.f10 fun e w'=> ∃(hh nb:Nat) (x:ai),e= .returned (.agg x.cells.toArray)∧a_ w' x∧fT hh nb x∧dW x=0∧(bZ (fun b=>V.heap.size≤b) x∧eh w' x∧bZ (fun b=>b<w'.heap.size) x)∧Ext V w') {tmps:= #[u0,u1,.pointer (some ⟨R,0,none⟩),.pointer (some ⟨T,0,none⟩),.pointer (some ⟨X,0,none⟩),u5,u6,.int .i64 (nb:Int),u8,u9,u10,u11,u12,u13,u14,u15,u16,u17,u18,u19,u20,u21,u22,u23,u24,u25,u26,u27,u28,u29,u30,u31,u32,u33,u34,u35,u36,u37,u38,u39,u40,u41,u42,u43,u44,u45,u46,u47,u48,u49,u50,u51,u52,u53,u54,u55,u56,u57,u58,u59,u60,u61,u62,u63,u64,u65,u66,u67,u68,u69,u70,u71,u72,u73,u74,u75,u76,u77,u78,u79,u80,u81,u82,u83,u84,u85,u86,u87,u88,u89,u90,u91,u92,u93,u94,u95,u96,u97,u98,u99,u100,u101,u102,u103,u104,u105,u106,u107,u108,u109,u110,u111,u112,u113,u114,u115,u116,u117,u118,u119,u120,u121,u122,u123,u124,u125,u126,u127,u128,u129,u130,u131,u132,u133,u134,u135,u136,u137,u138,u139,u140,u141,u142,u143,u144,u145,u146,u147,u148,u149,u150,u151,u152,u153,u154,u155,u156,u157,u158,u159,u160,u161,u162,u163,u164,u165,u166,u167,u168,u169,u170,u171,u172,u173,u174,u175,u176,u177,u178,u179,u180,u181,u182,u183,u184,u185,u186,u187,u188,u189,u190,u191,u192,u193,u194,u195,u196,u197,u198,u199,u200,u201,u202,u203,u204,u205,u206,u207,u208,u209,u210,u211,u212,u213,u214,u215,u216,u217,u218,u219,u220,u221,u222,u223,u224,u225,u226,u227,u228,u229,u230,u231,u232,u233,u234,u235,u236],defers:= []} WM:=by
 have gD:=ae (fI.of V V T a c l pD.o.1 (Ext.refl V) HL.o);have Fw:=ae (fun U (hx:Ext V U) (hU:bJ U T a c l) (m:Int) (hm:0<m) (nc:m<1000000)=>kY V U T a c l hh m pD.o.1 hx HL.o hU (by have:=HH.o;omega) hm nc);have Hz:=ae (fun U (hx:Ext V U) (hU:bJ U T a c l) (i fr tb:Nat) (hi:i<16)=>ES V U T a c l i fr tb (hh:Int) pD.o.1 hx HL.o hU hi (by have:=HH.o;omega) (by have:=HH.o;omega));conv=>arg 2;dsimp only [Tryz.caseCode,Tryz.f10,fh,Option.getD]
 go_wp2_with fail
 refine (gD.o WM 5 (HP.o.cw.ext.but T) HP.o.cw.tape (by decide) (by decide)).mono ?_;rintro e WN ⟨kv,rfl,JM,hT,hx⟩;replace HP:=ae (HP.o.next hT hx);clear hT hx;obtain ⟨n2,EH⟩: ∃n2:Nat,kv=(n2:Int):=⟨kv.toNat,by omega⟩;subst EH;have yj:Hid (n2≤4):=by(show _≤_;omega)
 clear JM
 go_upto_block 4 with fail
 go_cut [] (fun wx=> ∃(ls:List aS) (la:Option Addr) (lc:Nat),ls.length≤7∧gK ls nb hh∧iJ V T R X D a c l [i64 (hh:Int),.slice rb hh rc,.slice ba nb bc,.slice la ls.length lc,.slice none 0 0,.slice none 0 0,.slice none 0 0,.slice none 0 0] (⟨hh,rb,rc,rs,ba,bc,bs,none,0,[],none,0,[],none,0,[],none,0,[],none,0,[]⟩:ai) 78 12 la lc (ls.map aS.cells) (kD ls) [] wx)
 case first=>
  as_aux_lemma=>
   go_wp2_with fail
   go_loopw [9] (fun v wr=> ∃(k:Nat) (ls:List aS) (la:Option Addr) (lc:Nat),k≤4∧ls.length+k≤7∧gK ls nb hh∧iJ V T R X D a c l [i64 (hh:Int),.slice rb hh rc,.slice ba nb bc,.slice la ls.length lc,.slice none 0 0,.slice none 0 0,.slice none 0 0,.slice none 0 0] (⟨hh,rb,rc,rs,ba,bc,bs,none,0,[],none,0,[],none,0,[],none,0,[],none,0,[]⟩:ai) 78 12 la lc (ls.map aS.cells) (kD ls) [] wr∧v= .int .i64 (k:Int)) (fun v _=>(intOf v).toNat)
   case atStart=>exact ⟨n2,Nu,Tr,Ts,yj.o,by(have:=nS.o;have:=jD.o;have:=yj.o;omega),uN.o,HP.o,rfl⟩
   case round=>
    obtain ⟨k,ls,la,lc,hk,pJ,wO,hP,rfl⟩:=hrel;clear HP uN nS;have HP:=ae hP;have uN:=ae wO;have I2:=ae pJ;have HK:=ae hk
    clear hP wO pJ hk;by_cases YD:0<k
    ·have b0:(0:Int)<(k:Int):=by omega
     by_cases hlt:1<nb
     ·have nS:Hid (ls.length<7):=by(have:=I2.o;show _<_;omega)
      have Gi:=ae hlt;go_wp2_with fail
      refine (gD.o wr (nb:Int) (HP.o.cw.ext.but T) HP.o.cw.tape (by omega) (by have:=jD.o;omega)).mono ?_;rintro e wr2 ⟨y,rfl,KM,hT,hx⟩;replace HP:=ae (HP.o.next hT hx);obtain ⟨fr,Gm⟩: ∃fr:Nat,y=(fr:Int):=⟨y.toNat,by omega⟩;subst Gm;have L4:Hid (fr<nb):=by(show _<_;omega)
      clear KM hT hx;have q8:IntKind.i64.wrap ((fr:Int)+1)=(fr:Int)+1:=by rw [IntKind.wrap_i64];have:=L4.o;have:=jD.o;omega
      have q11:IntKind.i64.wrap ((nb:Int)-1)=(nb:Int)-1:=by rw [IntKind.wrap_i64];have:=jD.o;omega
      go_upto_region 20 with fail
      refine aL (fun w'=>w'.cell? ⟨X,0,none⟩=some (i64 (hh:Int))) (fun w'=>w'.cell? ⟨X,3,none⟩=some (.slice la ls.length lc)) (fun i=>i==22) (by kernel_rfl) ((HP.o.cw.b_.cell 0).trans rfl) ((HP.o.cw.b_.cell 3).trans rfl) (fun ay ah=> ?_);refine aF 0 ay ah ?_;refine Hw 1 ay ah ?_;refine aF 2 ay ah ?_;refine aF 3 ay ah ?_;refine Hw 4 ay ah ?_;refine aF 5 ay ah ?_ (v:= .int .i64 (ls.length:Int));refine aF 6 ay ah ?_ (v:=i64 (fr:Int));refine aF 7 ay ah ?_ (v:=i64 (fr:Int));refine aF 8 ay ah ?_ (v:=i64 ((fr:Int)+1));refine aF 9 ay ah ?_;refine aF 10 ay ah ?_ (v:=i64 (nb:Int));refine aF 11 ay ah ?_ (v:=i64 ((nb:Int)-1));refine aF 14 ay ah ?_ (v:=i64 (nb:Int));refine aF 16 ay ah ?_;refine aF 17 ay ah ?_ (v:=i64 (hh:Int));replace HP:=ae (HP.o.grow (Ext.refl wr2).drew);generalize wr2.drew=Y2 at*;refine fp 12 rfl (fun Kc hK=> ?_);go_simp;refine (gD.o Y2 ((nb:Int)-1) (HP.o.cw.ext.but T) HP.o.cw.tape (by have:=Gi.o;omega) (by have:=jD.o;omega)).mono ?_;rintro e Y3 ⟨y,rfl,KM,hT,hx⟩;replace HP:=ae (HP.o.next hT hx);have hlt:=Gi.o;obtain ⟨yn,hyn⟩: ∃yn:Nat,y=(yn:Int):=⟨y.toNat,by omega⟩;subst hyn;obtain ⟨tb,Tt⟩: ∃tb:Nat,(fr+1+yn) % nb=tb:=⟨_,rfl⟩;have QI:Hid (tb<nb∧fr≠tb):=OX L4.o (by omega) Tt;have YK:IntKind.i64.wrap ((fr:Int)+1+(yn:Int))=(fr:Int)+1+(yn:Int):=by rw [IntKind.wrap_i64];have:=L4.o;have:=jD.o;omega
      have q14:Int.tmod ((fr:Int)+1+(yn:Int)) (nb:Int)=(tb:Int):=by rw [Int.tmod_eq_emod_of_nonneg (by omega),←Tt];push_cast;rfl
      have q15:IntKind.i64.wrap (tb:Int)=(tb:Int):=by rw [IntKind.wrap_i64];have:=QI.o;have:=jD.o;omega
      have q16:((nb:Int)==0)=false:=by rw [beq_eq_false_iff_ne];omega
      have q17: ¬nb=0:=by omega
      have zq:Hid (fr<nb∧tb<nb∧fr≠tb):=⟨L4.o,QI.o⟩;clear KM hT hx Tt hlt;refine hK.o _ _ ((HP.o.cw.b_.cell 0).trans rfl) ((HP.o.cw.b_.cell 3).trans rfl) (fun ay ah=> ?_);clear hK Kc;try simp only [jw,jx,jy,List.setIfInBounds_toArray,jz,jA,Act.put]
      refine aF 13 ay ah ?_ (v:=i64 ((fr:Int)+1+(yn:Int)));refine aF 15 ay ah ?_ (v:= .int .i64 (tb:Int));clear YK q14 q15 q16 q17;refine fp 18 rfl (fun Kc hK=> ?_);go_simp;refine (Hz.o Y3 HP.o.cw.ext HP.o.cw.tape ls.length fr tb (by have:=nS.o;have:=jD.o;omega)).mono ?_;rintro e Y4 ⟨x,rfl,hm,hi,hf,hT,hx⟩;replace HP:=ae (HP.o.addLine hT hx hi hf hm.Ll.2);have HM:=ae hm;clear hm hi hf hT hx;refine hK.o _ _ ((HP.o.cw.b_.cell 0).trans rfl) ((HP.o.cw.b_.cell 3).trans rfl) (fun ay ah=> ?_);clear hK Kc;try simp only [jw,jx,jy,List.setIfInBounds_toArray,jz,jA,Act.put]
      refine fp 19 rfl (fun Kc hK=> ?_);rw [if_pos (by rfl)];refine dL 26 (.tmp 113) rfl 78 (.agg kG.cells.toArray) 12 120 underlying26 Tryz.info_line (by decide) (by decide) x.cells rfl rfl ?_;intro Y5 mj x5;replace HP:=ae (HP.o.grow x5);have zU:=ae mj;clear mj x5;refine hK.o _ _ ((HP.o.cw.b_.cell 0).trans rfl) ((HP.o.cw.b_.cell 3).trans rfl) (fun ay ah=> ?_);clear hK Kc;try simp only [jw,jx,jy,List.setIfInBounds_toArray,jz,jA,Act.put]
      refine fp 20 rfl (fun Kc hK=> ?_);rw [if_pos (by rfl)];refine dO _ (.tmp 96) (.tmp 114) 26 rfl D 78 (.agg kG.cells.toArray) 12 120 underlying26 Tryz.info_line rfl (by decide) (.slice la ls.length lc) ls.length (ls.map aS.cells).flatten rfl ?c1 Y4.heap.size x.cells rfl rfl zU.o rfl ?c5 (by decide) HP.o.size ?_
      case c1=>
       have h5:=HP.o.own.own;rw [List.length_map]at h5;exact h5
      case c5=>have:=nS.o;have:=jD.o;omega
      intro v1 w5 ho he hb hz hv;obtain ⟨g2,k2,rfl,c3,c0,f3,lH⟩:=yz HP.o ho.o he.o hb.o hz.o hv.o;obtain ⟨GX,D_⟩: ∃GX,GX=ls++ [x]:=⟨_,rfl⟩
      have GY:Hid (GX.length=ls.length+1∧gK GX nb hh):=by
       rw [D_];exact ⟨by simp,uN.o.snoc (by have:=zq.o;have:=jD.o;omega) (by have:=zq.o;have:=jD.o;omega) (by have:=zq.o;omega) HM.o⟩
      rw [←D_]at lH⊢;have JT:=ae lH;clear HP zU ho he hb hz hv lH D_ HM uN;refine hK.o _ _ (c0) (c3) (fun ay ah=> ?_);clear hK Kc;try simp only [jw,jx,jy,List.setIfInBounds_toArray,jz,jA,Act.put]
      refine aF 21 ay ah ?_;refine bE (rs:= [22]) (by kernel_rfl) (by simp) ?_;refine aH.late rfl (by kernel_rfl) (fun Kc hK=> ?_) aH.nil;go_simp;refine hK.o _ _ ((JT.o.cw.b_.cell 0).trans rfl) (fun ay=> ?_);clear hK Kc;try simp only [jw,jx,jy,List.setIfInBounds_toArray,jz,jA,Act.put]
      refine aD (by kernel_rfl) ?_ _;clear ay c3 f3 c0;generalize (w5.setCell ⟨X,3,none⟩ (.slice g2 GX.length k2))=Y6 at*;have q3:IntKind.i64.wrap ((k:Int)-1)=((k-1:Nat):Int):=by rw [IntKind.wrap_i64];have:=HK.o;omega
      have q4:wrap64 ((k:Int)-1)=((k-1:Nat):Int):=by unfold wrap64;have:=HK.o;omega
      clear q8 q11;go_wp2_with fail
      exact ⟨⟨k-1,GX,g2,k2,by(have:=HK.o;omega),by(have:=GY.o.1;have:=I2.o;omega),GY.o.2,JT.o,by first|rfl|exact congrArg (Value.int IntKind.i64) q4⟩,by first|exact Nat.lt_of_le_of_lt (Nat.le_of_eq (congrArg Int.toNat q4)) (by show(((k-1:Nat):Int)).toNat<((k:Int)).toNat;omega)|(show(((k-1:Nat):Int)).toNat<((k:Int)).toNat;omega)⟩
     ·have I1:Hid (nb≤1):=by(show _≤_;omega)
      have b1:decide ((1:Int)<(nb:Int))=false:=by rw [decide_eq_false_iff_not];omega
      go_wp2_with fail
      go_meet
      exact ⟨ls,la,lc,by(have:=I2.o;omega),uN.o,HP.o⟩
    ·obtain rfl:k=0:=by omega
     go_wp2_with fail
     go_meet
     exact ⟨ls,la,lc,by(have:=I2.o;omega),uN.o,HP.o⟩
 case rest=>
  obtain ⟨ls,la,lc,pJ,wO,hP⟩:=hcut;generalize wc=WO at*;clear HP uN nS
  have HC:Hid (CW V T R X a c l [i64 (hh:Int),.slice rb hh rc,.slice ba nb bc,.slice la ls.length lc,.slice none 0 0,.slice none 0 0,.slice none 0 0,.slice none 0 0] (⟨hh,rb,rc,rs,ba,bc,bs,la,lc,ls,none,0,[],none,0,[],none,0,[],none,0,[]⟩:ai) WO):=GN hP (fun x hx=>by
   obtain ⟨j,hj,rfl⟩:=List.getElem_of_mem hx;obtain ⟨fr,tb,h1,h2,-,h3⟩:=wO j hj;have:=jD.o;exact h3.ji (by omega) (by omega) (by omega))
  have uN:=ae wO;have nS:=ae pJ
  clear hP wO pJ;go_step
  exact JS V T R X a c l hh nb rc bc rb ba rs bs ls la lc HL pD HH DZ jD BZ iG uN nS WO HC
end Go.Proofs.YtkpngkdgphojlaaGreat
