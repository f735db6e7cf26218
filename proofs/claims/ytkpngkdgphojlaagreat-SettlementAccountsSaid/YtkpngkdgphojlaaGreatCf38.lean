/- Texts of the proof. -/
import Derived.Test.YtkpngkdgphojlaaGreatCf37
set_option linter.all false
set_option maxHeartbeats 40000000
set_option maxRecDepth 100000
namespace Go.Proofs.YtkpngkdgphojlaaGreat
open Go.Proofs.Tryz
open Go.RowKit
theorem JV (V:World) (T:Nat) (R:Nat) (X:Nat) (a:Option Addr) (c:Nat) (l:List Int) (hh:Nat) (nb:Nat) (rc:Nat) (bc:Nat) (rb:Option Addr) (ba:Option Addr) (rs:List Int) (bs:List cN) (HL:Hid (aI V a c l)) (pD:Hid (V.heap.size≤T∧V.heap.size≤R)) (HH:Hid (1≤hh∧hh≤3)) (DZ:Hid (rs.length=hh∧ ∀z∈rs,0≤z∧z<5)) (jD:Hid (1≤nb∧nb≤4)) (BZ:Hid (∀j (h:j<bs.length),kH bs[j] j hh)) (iG:Hid (bs.length=nb)) (WL:World) (HC:Hid (CW V T R X a c l [i64 (hh:Int),.slice rb hh rc,.slice ba nb bc,.slice none 0 0,.slice none 0 0,.slice none 0 0,.slice none 0 0,.slice none 0 0] (⟨hh,rb,rc,rs,ba,bc,bs,none,0,[],none,0,[],none,0,[],none,0,[],none,0,[]⟩:ai) WL)) {u0 u1 u5 u6 u7 u8 u9 u10 u11 u12 u13 u14 u15 u16 u17 u18 u19 u20 u21 u22 u23 u24 u25 u26 u27 u28 u29 u30 u31 u32 u33 u34 u35 u36 u37 u38 u39 u40 u41 u42 u43 u44 u45 u46 u47 u48 u49 u50 u51 u52 u53 u54 u55 u56 u57 u58 u59 u60 u61 u62 u63 u64 u65 u66 u67 u68 u69 u70 u71 u72 u73 u74 u75 u76 u77 u78 u79 u80 u81 u82 u83 u84 u85 u86 u87 u88 u89 u90 u91 u92 u93 u94 u95 u96 u97 u98 u99 u100 u101 u102 u103 u104 u105 u106 u107 u108 u109 u110 u111 u112 u113 u114 u115 u116 u117 u118 u119 u120 u121 u122 u123 u124 u125 u126 u127 u128 u129 u130 u131 u132 u133 u134 u135 u136 u137 u138 u139 u140 u141 u142 u143 u144 u145 u146 u147 u148 u149 u150 u151 u152 u153 u154 u155 u156 u157 u158 u159 u160 u161 u162 u163 u164 u165 u166 u167 u168 u169 u170 u171 u172 u173 u174 u175 u176 u177 u178 u179 u180 u181 u182 u183 u184 u185 u186 u187 u188 u189 u190 u191 u192 u193 u194 u195 u196 u197 u198 u199 u200 u201 u202 u203 u204 u205 u206 u207 u208 u209 u210 u211 u212 u213 u214 u215 u216 u217 u218 u219 u220 u221 u222 u223 u224 u225 u226 u227 u228 u229 u230 u231 u232 u233 u234 u235 u236:Value}:Code.wp prog (fh 5 Tryz.caseCode) (bodyPost prog Tryz.f10 fun e w'=> ∃(hh nb:Nat) (x:ai),e= .returned (.agg x.cells.toArray)∧a_ w' x∧fT hh nb x∧dW x=0∧(bZ (fun b=>V.heap.size≤b) x∧eh w' x∧bZ (fun b=>b<w'.heap.size) x)∧Ext V w') {tmps:= #[u0,u1,.pointer (some ⟨R,0,none⟩),.pointer (some ⟨T,0,none⟩),.pointer (some ⟨X,0,none⟩),u5,u6,u7,u8,u9,u10,u11,u12,u13,u14,u15,u16,u17,u18,u19,u20,u21,u22,u23,u24,u25,u26,u27,u28,u29,u30,u31,u32,u33,u34,u35,u36,u37,u38,u39,u40,u41,u42,u43,u44,u45,u46,u47,u48,u49,u50,u51,u52,u53,u54,u55,u56,u57,u58,u59,u60,u61,u62,u63,u64,u65,u66,u67,u68,u69,u70,u71,u72,u73,u74,u75,u76,u77,u78,u79,u80,u81,u82,u83,u84,u85,u86,u87,u88,u89,u90,u91,u92,u93,u94,u95,u96,u97,u98,u99,u100,u101,u102,u103,u104,u105,u106,u107,u108,u109,u110,u111,u112,u113,u114,u115,u116,u117,u118,u119,u120,u121,u122,u123,u124,u125,u126,u127,u128,u129,u130,u131,u132,u133,u134,u135,u136,u137,u138,u139,u140,u141,u142,u143,u144,u145,u146,u147,u148,u149,u150,u151,u152,u153,u154,u155,u156,u157,u158,u159,u160,u161,u162,u163,u164,u165,u166,u167,u168,u169,u170,u171,u172,u173,u174,u175,u176,u177,u178,u179,u180,u181,u182,u183,u184,u185,u186,u187,u188,u189,u190,u191,u192,u193,u194,u195,u196,u197,u198,u199,u200,u201,u202,u203,u204,u205,u206,u207,u208,u209,u210,u211,u212,u213,u214,u215,u216,u217,u218,u219,u220,u221,u222,u223,u224,u225,u226,u227,u228,u229,u230,u231,u232,u233,u234,u235,u236],defers:= []} WL:=by
 have gD:=ae (fI.of V V T a c l pD.o.1 (Ext.refl V) HL.o);have Fw:=ae (fun U (hx:Ext V U) (hU:bJ U T a c l) (m:Int) (hm:0<m) (nc:m<1000000)=>kY V U T a c l hh m pD.o.1 hx HL.o hU (by have:=HH.o;omega) hm nc);conv=>arg 2;dsimp only [Tryz.caseCode,Tryz.f10,fh,Option.getD]
 have Hz:=ae (fun U (hx:Ext V U) (hU:bJ U T a c l) (i fr tb:Nat) (hi:i<16)=>ES V U T a c l i fr tb (hh:Int) pD.o.1 hx HL.o hU hi (by have:=HH.o;omega) (by have:=HH.o;omega));have c2:WL.cell? ⟨X,2,none⟩=some (.slice ba nb bc):=(HC.o.b_.cell 2).trans rfl
 go_upto_block 2 with fail
 clear c2;obtain ⟨D,hD⟩: ∃D,D=WL.heap.size:=⟨_,rfl⟩
 have HP:Hid (iJ V T R X D a c l [i64 (hh:Int),.slice rb hh rc,.slice ba nb bc,.slice none ([]:List aS).length 0,.slice none 0 0,.slice none 0 0,.slice none 0 0,.slice none 0 0] (⟨hh,rb,rc,rs,ba,bc,bs,none,0,[],none,0,[],none,0,[],none,0,[],none,0,[]⟩:ai) 78 12 none 0 (([]:List aS).map aS.cells) (kD []) [] WL):=by
  rw [hD];exact ⟨HC.o,aJ.nil _ _ _ _,fun s hs=>absurd hs (by simp [kD]),fun s hs=>absurd hs (by simp),HC.o.bl.mono fun b hb=>hb.2,Nat.le_refl _,HC.o.b_.lt⟩
 clear HC hD;go_cut [] (fun wx=> ∃(ls:List aS) (la:Option Addr) (lc:Nat),ls.length+1=nb∧gK ls nb hh∧iJ V T R X D a c l [i64 (hh:Int),.slice rb hh rc,.slice ba nb bc,.slice la ls.length lc,.slice none 0 0,.slice none 0 0,.slice none 0 0,.slice none 0 0] (⟨hh,rb,rc,rs,ba,bc,bs,none,0,[],none,0,[],none,0,[],none,0,[],none,0,[]⟩:ai) 78 12 la lc (ls.map aS.cells) (kD ls) [] wx)
 case first=>
  as_aux_lemma=>
   go_wp2_with fail
   go_loopw [8] (fun v wr=> ∃(k:Nat) (ls:List aS) (la:Option Addr) (lc:Nat),k+1≤nb∧ls.length=k∧gK ls nb hh∧iJ V T R X D a c l [i64 (hh:Int),.slice rb hh rc,.slice ba nb bc,.slice la ls.length lc,.slice none 0 0,.slice none 0 0,.slice none 0 0,.slice none 0 0] (⟨hh,rb,rc,rs,ba,bc,bs,none,0,[],none,0,[],none,0,[],none,0,[],none,0,[]⟩:ai) 78 12 la lc (ls.map aS.cells) (kD ls) [] wr∧v= .int .i64 ((k+1:Nat):Int)) (fun v _=>nb-(intOf v).toNat)
   case atStart=>exact ⟨0,[],none,0,jD.o.1,rfl,fun j h=>absurd h (by simp),HP.o,rfl⟩
   case round=>
    obtain ⟨k,ls,la,lc,hk,pJ,wO,hP,rfl⟩:=hrel;clear HP;have HP:=ae hP;have uN:=ae wO;have nS:Hid (ls.length<nb):=by(show _<_;omega)
    have HLK:=ae pJ;clear hP wO pJ;by_cases hlt:k+1<nb
    ·have b0:((k+1:Nat):Int)<(nb:Int):=by omega
     have b1:decide (((k+1:Nat):Int)<(nb:Int))=true:=by simpa using b0
     go_upto_region 15 with fail
     refine aL (fun w'=>w'.cell? ⟨X,0,none⟩=some (i64 (hh:Int))) (fun w'=>w'.cell? ⟨X,3,none⟩=some (.slice la ls.length lc)) (fun i=>i==16) (by kernel_rfl) ((HP.o.cw.b_.cell 0).trans rfl) ((HP.o.cw.b_.cell 3).trans rfl) (fun ay ah=> ?_);refine aF 0 ay ah ?_;refine Hw 1 ay ah ?_;refine aF 2 ay ah ?_;refine aF 3 ay ah ?_;refine Hw 4 ay ah ?_;refine aF 5 ay ah ?_ (v:= .int .i64 (ls.length:Int));refine aF 6 ay ah ?_;refine aF 7 ay ah ?_ (v:= .int .i64 ((k+1:Nat):Int));refine aF 9 ay ah ?_ (v:= .int .i64 ((k+1:Nat):Int));refine aF 10 ay ah ?_;refine aF 11 ay ah ?_ (v:=i64 (hh:Int));replace HP:=ae (HP.o.grow (Ext.refl wr).drew);generalize wr.drew=Y2 at*;refine fp 8 rfl (fun Kc hK=> ?_);go_simp;refine (gD.o Y2 ((k+1:Nat):Int) (HP.o.cw.ext.but T) HP.o.cw.tape (by omega) (by have:=jD.o;omega)).mono ?_;rintro e Y3 ⟨y,rfl,KM,hT,hx⟩;replace HP:=ae (HP.o.next hT hx);obtain ⟨fr,Gm⟩: ∃fr:Nat,y=(fr:Int):=⟨y.toNat,by omega⟩;subst Gm;have zq:Hid (fr<k+1∧k+1<nb):=by(show _∧_;omega)
     clear KM hT hx;refine hK.o _ _ ((HP.o.cw.b_.cell 0).trans rfl) ((HP.o.cw.b_.cell 3).trans rfl) (fun ay ah=> ?_);clear hK Kc;try simp only [jw,jx,jy,List.setIfInBounds_toArray,jz,jA,Act.put]
     refine fp 12 rfl (fun Kc hK=> ?_);go_simp;refine (Hz.o Y3 HP.o.cw.ext HP.o.cw.tape ls.length fr (k+1) (by have:=nS.o;have:=jD.o;omega)).mono ?_;rintro e Y4 ⟨x,rfl,hm,hi,hf,hT,hx⟩;replace HP:=ae (HP.o.addLine hT hx hi hf hm.Ll.2);have HM:=ae hm;clear hm hi hf hT hx;refine hK.o _ _ ((HP.o.cw.b_.cell 0).trans rfl) ((HP.o.cw.b_.cell 3).trans rfl) (fun ay ah=> ?_);clear hK Kc;try simp only [jw,jx,jy,List.setIfInBounds_toArray,jz,jA,Act.put]
     as_aux_lemma=>
      refine fp 13 rfl (fun Kc hK=> ?_);rw [if_pos (by rfl)];refine dL 26 (.tmp 78) rfl 78 (.agg kG.cells.toArray) 12 120 underlying26 Tryz.info_line (by decide) (by decide) x.cells rfl rfl ?_;intro Y5 mj x5;replace HP:=ae (HP.o.grow x5);have zU:=ae mj;clear mj x5;refine hK.o _ _ ((HP.o.cw.b_.cell 0).trans rfl) ((HP.o.cw.b_.cell 3).trans rfl) (fun ay ah=> ?_);clear hK Kc;try simp only [jw,jx,jy,List.setIfInBounds_toArray,jz,jA,Act.put]
      refine fp 14 rfl (fun Kc hK=> ?_);rw [if_pos (by rfl)];refine dO _ (.tmp 67) (.tmp 79) 26 rfl D 78 (.agg kG.cells.toArray) 12 120 underlying26 Tryz.info_line rfl (by decide) (.slice la ls.length lc) ls.length (ls.map aS.cells).flatten rfl ?c1 Y4.heap.size x.cells rfl rfl zU.o rfl ?c5 (by decide) HP.o.size ?_
      case c1=>
       have h5:=HP.o.own.own;rw [List.length_map]at h5;exact h5
      case c5=>have:=nS.o;have:=jD.o;omega
      intro v1 w5 ho he hb hz hv;obtain ⟨g2,k2,rfl,c3,c0,f3,lH⟩:=yz HP.o ho.o he.o hb.o hz.o hv.o;obtain ⟨GX,D_⟩: ∃GX,GX=ls++ [x]:=⟨_,rfl⟩
      have GY:Hid (GX.length=ls.length+1∧gK GX nb hh):=by
       rw [D_];exact ⟨by simp,uN.o.snoc (by have:=zq.o;have:=jD.o;omega) (by have:=zq.o;have:=jD.o;omega) (by have:=zq.o;omega) HM.o⟩
      rw [←D_]at lH⊢;have JT:=ae lH;clear HP zU ho he hb hz hv lH D_ HM uN;refine hK.o _ _ (c0) (c3) (fun ay ah=> ?_);clear hK Kc;try simp only [jw,jx,jy,List.setIfInBounds_toArray,jz,jA,Act.put]
      refine aF 15 ay ah ?_;refine bE (rs:= [16]) (by kernel_rfl) (by simp) ?_;refine aH.late rfl (by kernel_rfl) (fun Kc hK=> ?_) aH.nil;go_simp;refine hK.o _ _ ((JT.o.cw.b_.cell 0).trans rfl) (fun ay=> ?_);clear hK Kc;try simp only [jw,jx,jy,List.setIfInBounds_toArray,jz,jA,Act.put]
      refine aD (by kernel_rfl) ?_ _;clear ay c3 f3 c0;generalize (w5.setCell ⟨X,3,none⟩ (.slice g2 GX.length k2))=Y6 at*;have q3:IntKind.i64.wrap (((k+1:Nat):Int)+1)=((k+1+1:Nat):Int):=by rw [IntKind.wrap_i64];have:=jD.o;omega
      have q4:wrap64 ((k:Int)+1+1)=((k+1+1:Nat):Int):=by unfold wrap64;have:=jD.o;omega
      go_wp2_with fail
      refine ⟨⟨k+1,GX,g2,k2,by omega,by rw [GY.o.1,HLK.o],GY.o.2,JT.o,congrArg (Value.int IntKind.i64) q4⟩,?_⟩;clear JT GY gD Fw Hz;generalize hz:wrap64 ((k:Int)+1+1)=z at*;subst q4;simp only [intOf,Int.toNat_natCast];omega
    ·have b1:decide (((k+1:Nat):Int)<(nb:Int))=false:=by rw [decide_eq_false_iff_not];omega
     go_wp2_with fail
     go_meet
     exact ⟨ls,la,lc,by rw [HLK.o];omega,uN.o,HP.o⟩
 case rest=>
  obtain ⟨Nu,Tr,Ts,pJ,wO,hP⟩:=hcut;generalize wc=WM at*;clear HP;have HP:=ae hP;have uN:=ae wO;have nS:=ae pJ
  clear hP wO pJ;go_step
  exact JU V T R X a c l hh nb rc bc rb ba rs bs D Nu Tr Ts HL pD HH DZ jD BZ iG uN nS WM HP
end Go.Proofs.YtkpngkdgphojlaaGreat
