/- Texts of the proof. -/
import Derived.Test.YtkpngkdgphojlaaGreatCf35
set_option linter.all false
set_option maxHeartbeats 40000000
set_option maxRecDepth 100000
namespace Go.Proofs.YtkpngkdgphojlaaGreat
open Go.Proofs.Tryz
open Go.RowKit
theorem JS (V:World) (T:Nat) (R:Nat) (X:Nat) (a:Option Addr) (c:Nat) (l:List Int) (hh:Nat) (nb:Nat) (rc:Nat) (bc:Nat) (rb:Option Addr) (ba:Option Addr) (rs:List Int) (bs:List cN) (ls:List aS) (la:Option Addr) (lc:Nat) (HL:Hid (aI V a c l)) (pD:Hid (V.heap.size≤T∧V.heap.size≤R)) (HH:Hid (1≤hh∧hh≤3)) (DZ:Hid (rs.length=hh∧ ∀z∈rs,0≤z∧z<5)) (jD:Hid (1≤nb∧nb≤4)) (BZ:Hid (∀j (h:j<bs.length),kH bs[j] j hh)) (iG:Hid (bs.length=nb)) (uN:Hid (gK ls nb hh)) (nS:Hid (ls.length≤7)) (WO:World) (HC:Hid (CW V T R X a c l [i64 (hh:Int),.slice rb hh rc,.slice ba nb bc,.slice la ls.length lc,.slice none 0 0,.slice none 0 0,.slice none 0 0,.slice none 0 0] (⟨hh,rb,rc,rs,ba,bc,bs,la,lc,ls,none,0,[],none,0,[],none,0,[],none,0,[]⟩:ai) WO)) {u0 u1 u5 u6 u8 u9 u10 u11 u12 u13 u14 u15 u16 u17 u18 u19 u20 u21 u22 u23 u24 u25 u26 u27 u28 u29 u30 u31 u32 u33 u34 u35 u36 u37 u38 u39 u40 u41 u42 u43 u44 u45 u46 u47 u48 u49 u50 u51 u52 u53 u54 u55 u56 u57 u58 u59 u60 u61 u62 u63 u64 u65 u66 u67 u68 u69 u70 u71 u72 u73 u74 u75 u76 u77 u78 u79 u80 u81 u82 u83 u84 u85 u86 u87 u88 u89 u90 u91 u92 u93 u94 u95 u96 u97 u98 u99 u100 u101 u102 u103 u104 u105 u106 u107 u108 u109 u110 u111 u112 u113 u114 u115 u116 u117 u118 u119 u120 u121 u122 u123 u124 u125 u126 u127 u128 u129 u130 u131 u132 u133 u134 u135 u136 u137 u138 u139 u140 u141 u142 u143 u144 u145 u146 u147 u148 u149 u150 u151 u152 u153 u154 u155 u156 u157 u158 u159 u160 u161 u162 u163 u164 u165 u166 u167 u168 u169 u170 u171 u172 u173 u174 u175 u176 u177 u178 u179 u180 u181 u182 u183 u184 u185 u186 u187 u188 u189 u190 u191 u192 u193 u194 u195 u196 u197 u198 u199 u200 u201 u202 u203 u204 u205 u206 u207 u208 u209 u210 u211 u212 u213 u214 u215 u216 u217 u218 u219 u220 u221 u222 u223 u224 u225 u226 u227 u228 u229 u230 u231 u232 u233 u234 u235 u236:Value}:Code.wp prog (fh 8 Tryz.caseCode) (bodyPost prog Tryz.f10 fun e w'=> ∃(hh nb:Nat) (x:ai),e= .returned (.agg x.cells.toArray)∧a_ w' x∧fT hh nb x∧dW x=0∧(bZ (fun b=>V.heap.size≤b) x∧eh w' x∧bZ (fun b=>b<w'.heap.size) x)∧Ext V w') {tmps:= #[u0,u1,.pointer (some ⟨R,0,none⟩),.pointer (some ⟨T,0,none⟩),.pointer (some ⟨X,0,none⟩),u5,u6,.int .i64 (nb:Int),u8,u9,u10,u11,u12,u13,u14,u15,u16,u17,u18,u19,u20,u21,u22,u23,u24,u25,u26,u27,u28,u29,u30,u31,u32,u33,u34,u35,u36,u37,u38,u39,u40,u41,u42,u43,u44,u45,u46,u47,u48,u49,u50,u51,u52,u53,u54,u55,u56,u57,u58,u59,u60,u61,u62,u63,u64,u65,u66,u67,u68,u69,u70,u71,u72,u73,u74,u75,u76,u77,u78,u79,u80,u81,u82,u83,u84,u85,u86,u87,u88,u89,u90,u91,u92,u93,u94,u95,u96,u97,u98,u99,u100,u101,u102,u103,u104,u105,u106,u107,u108,u109,u110,u111,u112,u113,u114,u115,u116,u117,u118,u119,u120,u121,u122,u123,u124,u125,u126,u127,u128,u129,u130,u131,u132,u133,u134,u135,u136,u137,u138,u139,u140,u141,u142,u143,u144,u145,u146,u147,u148,u149,u150,u151,u152,u153,u154,u155,u156,u157,u158,u159,u160,u161,u162,u163,u164,u165,u166,u167,u168,u169,u170,u171,u172,u173,u174,u175,u176,u177,u178,u179,u180,u181,u182,u183,u184,u185,u186,u187,u188,u189,u190,u191,u192,u193,u194,u195,u196,u197,u198,u199,u200,u201,u202,u203,u204,u205,u206,u207,u208,u209,u210,u211,u212,u213,u214,u215,u216,u217,u218,u219,u220,u221,u222,u223,u224,u225,u226,u227,u228,u229,u230,u231,u232,u233,u234,u235,u236],defers:= []} WO:=by
 have gD:=ae (fI.of V V T a c l pD.o.1 (Ext.refl V) HL.o);have Fw:=ae (fun U (hx:Ext V U) (hU:bJ U T a c l) (m:Int) (hm:0<m) (nc:m<1000000)=>kY V U T a c l hh m pD.o.1 hx HL.o hU (by have:=HH.o;omega) hm nc);conv=>arg 2;dsimp only [Tryz.caseCode,Tryz.f10,fh,Option.getD]
 have Ri:=ae (fun U (hx:Ext V U) (hU:bJ U T a c l) (i:Nat) (hi:i<16)=>Lp V U T a c l i nb (hh:Int) pD.o.1 hx HL.o hU hi (by have:=jD.o;omega) (by have:=jD.o;omega) (by have:=HH.o;omega) (by have:=HH.o;omega));go_wp2_with fail
 refine (gD.o WO 3 (HC.o.ext.but T) HC.o.tape (by decide) (by decide)).mono ?_;rintro e WP ⟨kv,rfl,JM,hT,hx⟩;replace HC:=ae (HC.o.next hT hx);clear hT hx;obtain ⟨nu,Vh⟩: ∃nu:Nat,1+kv=(nu:Int):=⟨(1+kv).toNat,by omega⟩;have Ls:Hid (1≤nu∧nu≤3):=by(show _∧_;omega)
 have q1:IntKind.i64.wrap (1+kv)=(nu:Int):=by rw [IntKind.wrap_i64];omega
 clear JM Vh
 go_upto_block 6 with fail
 clear q1;obtain ⟨E,hE⟩: ∃E,E=WP.heap.size:=⟨_,rfl⟩
 have HP:Hid (iJ V T R X E a c l [i64 (hh:Int),.slice rb hh rc,.slice ba nb bc,.slice la ls.length lc,.slice none ([]:List aK).length 0,.slice none 0 0,.slice none 0 0,.slice none 0 0] (⟨hh,rb,rc,rs,ba,bc,bs,la,lc,ls,none,0,[],none,0,[],none,0,[],none,0,[]⟩:ai) 67 22 none 0 (([]:List aK).map aK.cells) (nC []) (nD []) WP):=by
  rw [hE];exact ⟨HC.o,aJ.nil _ _ _ _,fun s hs=>absurd hs (by simp [nC]),fun s hs=>absurd hs (by simp [nD]),HC.o.bl.mono fun b hb=>hb.2,Nat.le_refl _,HC.o.b_.lt⟩
 clear HC hE;go_cut [] (fun wx=> ∃(us:List aK) (ua:Option Addr) (uc:Nat),us.length=nu∧jX us nb hh∧iJ V T R X E a c l [i64 (hh:Int),.slice rb hh rc,.slice ba nb bc,.slice la ls.length lc,.slice ua us.length uc,.slice none 0 0,.slice none 0 0,.slice none 0 0] (⟨hh,rb,rc,rs,ba,bc,bs,la,lc,ls,none,0,[],none,0,[],none,0,[],none,0,[]⟩:ai) 67 22 ua uc (us.map aK.cells) (nC us) (nD us) wx)
 case first=>
  as_aux_lemma=>
   go_wp2_with fail
   go_loopw [11] (fun v wr=> ∃(k:Nat) (us:List aK) (ua:Option Addr) (uc:Nat),k≤nu∧us.length+k=nu∧jX us nb hh∧iJ V T R X E a c l [i64 (hh:Int),.slice rb hh rc,.slice ba nb bc,.slice la ls.length lc,.slice ua us.length uc,.slice none 0 0,.slice none 0 0,.slice none 0 0] (⟨hh,rb,rc,rs,ba,bc,bs,la,lc,ls,none,0,[],none,0,[],none,0,[],none,0,[]⟩:ai) 67 22 ua uc (us.map aK.cells) (nC us) (nD us) wr∧v= .int .i64 (k:Int)) (fun v _=>(intOf v).toNat)
   case atStart=>exact ⟨nu,[],none,0,Nat.le_refl _,Nat.zero_add _,fun j h=>absurd h (by simp),HP.o,rfl⟩
   case round=>
    obtain ⟨k,us,ua,uc,hk,A9,QG,hP,rfl⟩:=hrel;clear HP;have HP:=ae hP;have JL:=ae QG;have Rg:=ae A9;have HK:=ae hk
    clear hP QG A9 hk;by_cases YD:0<k
    ·have b0:(0:Int)<(k:Int):=by omega
     have Bf:Hid (us.length<3):=by(have:=Rg.o;have:=Ls.o;show _<_;omega)
     go_upto_region 24 with fail
     refine aL (fun w'=>w'.cell? ⟨X,0,none⟩=some (i64 (hh:Int))) (fun w'=>w'.cell? ⟨X,4,none⟩=some (.slice ua us.length uc)) (fun i=>i==13) (by kernel_rfl) ((HP.o.cw.b_.cell 0).trans rfl) ((HP.o.cw.b_.cell 4).trans rfl) (fun ay ah=> ?_);refine aF 0 ay ah ?_;refine Hw 1 ay ah ?_;refine aF 2 ay ah ?_;refine aF 3 ay ah ?_;refine Hw 4 ay ah ?_;refine aF 5 ay ah ?_ (v:= .int .i64 (us.length:Int));refine aF 6 ay ah ?_ (v:= .int .i64 (nb:Int));refine aF 7 ay ah ?_;refine aF 8 ay ah ?_ (v:=i64 (hh:Int));replace HP:=ae (HP.o.grow (Ext.refl wr).drew);generalize wr.drew=Y3 at*;refine fp 9 rfl (fun Kc hK=> ?_);go_simp;refine (Ri.o Y3 HP.o.cw.ext HP.o.cw.tape us.length (by have:=Bf.o;omega)).mono ?_;rintro e Y4 ⟨x,bu,rfl,RJ,hm,hi,hf,Qu,hf2,hT,hx⟩;replace HP:=ae (HP.o.LQ hT hx hi hf hm.Ll.2 Qu hf2 (LR Qu (by rw [List.length_map];exact hm.Ln.1) (fun r hr=>by obtain ⟨g,-,rfl⟩:=List.mem_map.1 hr;exact Nat.zero_lt_succ _)));have HM:=ae (And.intro RJ hm);clear RJ hm hi hf Qu hf2 hT hx;refine hK.o _ _ ((HP.o.cw.b_.cell 0).trans rfl) ((HP.o.cw.b_.cell 4).trans rfl) (fun ay ah=> ?_);clear hK Kc;try simp only [jw,jx,jy,List.setIfInBounds_toArray,jz,jA,Act.put]
     refine fp 10 rfl (fun Kc hK=> ?_);rw [if_pos (by rfl)];refine dL 27 (.tmp 133) rfl 67 (.agg oz.cells.toArray) 22 216 underlying27 Tryz.info_unit (by decide) (by decide) x.cells rfl rfl ?_;intro Y5 mj x5;replace HP:=ae (HP.o.grow x5);have zU:=ae mj;clear mj x5;refine hK.o _ _ ((HP.o.cw.b_.cell 0).trans rfl) ((HP.o.cw.b_.cell 4).trans rfl) (fun ay ah=> ?_);clear hK Kc;try simp only [jw,jx,jy,List.setIfInBounds_toArray,jz,jA,Act.put]
     refine fp 11 rfl (fun Kc hK=> ?_);rw [if_pos (by rfl)];refine dO _ (.tmp 125) (.tmp 134) 27 rfl E 67 (.agg oz.cells.toArray) 22 216 underlying27 Tryz.info_unit rfl (by decide) (.slice ua us.length uc) us.length (us.map aK.cells).flatten rfl ?c1 Y4.heap.size x.cells rfl rfl zU.o rfl ?c5 (by decide) HP.o.size ?_
     case c1=>
      have h5:=HP.o.own.own;rw [List.length_map]at h5;exact h5
     case c5=>have:=Bf.o;omega
     intro v1 w5 ho he hb hz hv;obtain ⟨g2,k2,rfl,c4,c0,f4,lH⟩:=GU HP.o ho.o he.o hb.o hz.o hv.o;obtain ⟨QH,O9⟩: ∃QH,QH=us++ [x]:=⟨_,rfl⟩
     have Tq:Hid (QH.length=us.length+1∧jX QH nb hh):=by
      rw [O9];exact ⟨by simp,JL.o.snoc HM.o.1 HM.o.2⟩
     rw [←O9]at lH⊢;have JT:=ae lH;clear HP zU ho he hb hz hv lH O9 HM JL;refine hK.o _ _ (c0) (c4) (fun ay ah=> ?_);clear hK Kc;try simp only [jw,jx,jy,List.setIfInBounds_toArray,jz,jA,Act.put]
     refine aF 12 ay ah ?_;refine bE (rs:= [13]) (by kernel_rfl) (by simp) ?_;refine aH.late rfl (by kernel_rfl) (fun Kc hK=> ?_) aH.nil;go_simp;refine hK.o _ _ ((JT.o.cw.b_.cell 0).trans rfl) (fun ay=> ?_);clear hK Kc;try simp only [jw,jx,jy,List.setIfInBounds_toArray,jz,jA,Act.put]
     refine aD (by kernel_rfl) ?_ _;clear ay c4 f4 c0;generalize (w5.setCell ⟨X,4,none⟩ (.slice g2 QH.length k2))=Y6 at*;have q3:IntKind.i64.wrap ((k:Int)-1)=((k-1:Nat):Int):=by rw [IntKind.wrap_i64];have:=HK.o;have:=Ls.o;omega
     have q4:wrap64 ((k:Int)-1)=((k-1:Nat):Int):=by unfold wrap64;have:=HK.o;have:=Ls.o;omega
     go_wp2_with fail
     exact ⟨⟨k-1,QH,g2,k2,by(have:=HK.o;omega),by(have:=Tq.o.1;have:=Rg.o;omega),Tq.o.2,JT.o,by first|rfl|exact congrArg (Value.int IntKind.i64) q4⟩,by first|exact Nat.lt_of_le_of_lt (Nat.le_of_eq (congrArg Int.toNat q4)) (by show(((k-1:Nat):Int)).toNat<((k:Int)).toNat;omega)|(show(((k-1:Nat):Int)).toNat<((k:Int)).toNat;omega)⟩
    ·obtain rfl:k=0:=by omega
     go_wp2_with fail
     go_meet
     exact ⟨us,ua,uc,Rg.o,JL.o,HP.o⟩
 case rest=>
  obtain ⟨us,ua,uc,A9,QG,hP⟩:=hcut;generalize wc=WQ at*;clear HP
  have HC:Hid (CW V T R X a c l [i64 (hh:Int),.slice rb hh rc,.slice ba nb bc,.slice la ls.length lc,.slice ua us.length uc,.slice none 0 0,.slice none 0 0,.slice none 0 0] (⟨hh,rb,rc,rs,ba,bc,bs,la,lc,ls,ua,uc,us,none,0,[],none,0,[],none,0,[]⟩:ai) WQ):=GP hP (fun w hc hr hs=>by
   refine {hc with aq:=hr,unit:=fun b hb=> ?_};replace hb:b∈us:=hb;obtain ⟨j,hj,rfl⟩:=List.getElem_of_mem hb;obtain ⟨bu,h1,h2⟩:=QG j hj;have hn:=jD.o;have EH:=Ls.o
   have h3:=h2.ji (by omega) (by omega);have h4:=hs _ hb;exact ⟨h3.1,h4.1,h4.2,h3.2⟩)
  have JL:=ae QG;have Bf:Hid (1≤us.length∧us.length≤3):=by rw [A9];exact Ls.o
  clear hP QG A9 Ls;go_step
  exact JR V T R X a c l hh nb rc bc rb ba rs bs ls la lc us ua uc HL pD HH DZ jD BZ iG uN nS JL Bf WQ HC
end Go.Proofs.YtkpngkdgphojlaaGreat
