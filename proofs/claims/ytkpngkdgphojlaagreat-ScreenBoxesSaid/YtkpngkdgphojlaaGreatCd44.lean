/- Texts of the proof. -/
import Derived.Test.YtkpngkdgphojlaaGreatCd43
set_option linter.all false
set_option maxHeartbeats 40000000
set_option maxRecDepth 100000
namespace Go.Proofs.YtkpngkdgphojlaaGreat
open Go.Proofs.Tryz
open Go.RowKit
theorem JH (V:World) (T:Nat) (R:Nat) (X:Nat) (a:Option Addr) (c:Nat) (l:List Int) (hh:Nat) (nb:Nat) (rc:Nat) (bc:Nat) (rb:Option Addr) (ba:Option Addr) (rs:List Int) (bs:List cA) (ls:List aP) (la:Option Addr) (lc:Nat) (HL:Hid (aD V a c l)) (mU:Hid (V.heap.size≤T∧V.heap.size≤R)) (HH:Hid (1≤hh∧hh≤3)) (DU:Hid (rs.length=hh∧ ∀z∈rs,0≤z∧z<5)) (jE:Hid (1≤nb∧nb≤4)) (Ce:Hid (∀j (h:j<bs.length),jR bs[j] j hh)) (jo:Hid (bs.length=nb)) (rV:Hid (fH ls nb hh)) (nU:Hid (ls.length≤7)) (WO:World) (HC:Hid (CW V T R X a c l [i64 (hh:Int),.slice rb hh rc,.slice ba nb bc,.slice la ls.length lc,.slice none 0 0,.slice none 0 0,.slice none 0 0,.slice none 0 0] (⟨hh,rb,rc,rs,ba,bc,bs,la,lc,ls,none,0,[],none,0,[],none,0,[],none,0,[]⟩:ai) WO)) {u0 u1 u5 u6 u8 u9 u10 u11 u12 u13 u14 u15 u16 u17 u18 u19 u20 u21 u22 u23 u24 u25 u26 u27 u28 u29 u30 u31 u32 u33 u34 u35 u36 u37 u38 u39 u40 u41 u42 u43 u44 u45 u46 u47 u48 u49 u50 u51 u52 u53 u54 u55 u56 u57 u58 u59 u60 u61 u62 u63 u64 u65 u66 u67 u68 u69 u70 u71 u72 u73 u74 u75 u76 u77 u78 u79 u80 u81 u82 u83 u84 u85 u86 u87 u88 u89 u90 u91 u92 u93 u94 u95 u96 u97 u98 u99 u100 u101 u102 u103 u104 u105 u106 u107 u108 u109 u110 u111 u112 u113 u114 u115 u116 u117 u118 u119 u120 u121 u122 u123 u124 u125 u126 u127 u128 u129 u130 u131 u132 u133 u134 u135 u136 u137 u138 u139 u140 u141 u142 u143 u144 u145 u146 u147 u148 u149 u150 u151 u152 u153 u154 u155 u156 u157 u158 u159 u160 u161 u162 u163 u164 u165 u166 u167 u168 u169 u170 u171 u172 u173 u174 u175 u176 u177 u178 u179 u180 u181 u182 u183 u184 u185 u186 u187 u188 u189 u190 u191 u192 u193 u194 u195 u196 u197 u198 u199 u200 u201 u202 u203 u204 u205 u206 u207 u208 u209 u210 u211 u212 u213 u214 u215 u216 u217 u218 u219 u220 u221 u222 u223 u224 u225 u226 u227 u228 u229 u230 u231 u232 u233 u234 u235 u236:Value}:Code.wp prog (eL 8 Tryz.caseCode) (bodyPost prog Tryz.f10 fun e w'=> ∃(hh nb:Nat) (x:ai),e= .returned (.agg x.cells.toArray)∧aS w' x∧fI hh nb x∧cV x=0∧dN (fun b=>V.heap.size≤b) x∧Ext V w') {tmps:= #[u0,u1,.pointer (some ⟨R,0,none⟩),.pointer (some ⟨T,0,none⟩),.pointer (some ⟨X,0,none⟩),u5,u6,.int .i64 (nb:Int),u8,u9,u10,u11,u12,u13,u14,u15,u16,u17,u18,u19,u20,u21,u22,u23,u24,u25,u26,u27,u28,u29,u30,u31,u32,u33,u34,u35,u36,u37,u38,u39,u40,u41,u42,u43,u44,u45,u46,u47,u48,u49,u50,u51,u52,u53,u54,u55,u56,u57,u58,u59,u60,u61,u62,u63,u64,u65,u66,u67,u68,u69,u70,u71,u72,u73,u74,u75,u76,u77,u78,u79,u80,u81,u82,u83,u84,u85,u86,u87,u88,u89,u90,u91,u92,u93,u94,u95,u96,u97,u98,u99,u100,u101,u102,u103,u104,u105,u106,u107,u108,u109,u110,u111,u112,u113,u114,u115,u116,u117,u118,u119,u120,u121,u122,u123,u124,u125,u126,u127,u128,u129,u130,u131,u132,u133,u134,u135,u136,u137,u138,u139,u140,u141,u142,u143,u144,u145,u146,u147,u148,u149,u150,u151,u152,u153,u154,u155,u156,u157,u158,u159,u160,u161,u162,u163,u164,u165,u166,u167,u168,u169,u170,u171,u172,u173,u174,u175,u176,u177,u178,u179,u180,u181,u182,u183,u184,u185,u186,u187,u188,u189,u190,u191,u192,u193,u194,u195,u196,u197,u198,u199,u200,u201,u202,u203,u204,u205,u206,u207,u208,u209,u210,u211,u212,u213,u214,u215,u216,u217,u218,u219,u220,u221,u222,u223,u224,u225,u226,u227,u228,u229,u230,u231,u232,u233,u234,u235,u236],defers:= []} WO:=by
 have fL:=ae (eW.of V V T a c l mU.o.1 (Ext.refl V) HL.o);have E5:=ae (fun U (hx:Ext V U) (hU:aY U T a c l) (m:Int) (hm:0<m) (qM:m<1000000)=>ki V U T a c l hh m mU.o.1 hx HL.o hU (by have:=HH.o;omega) hm qM);conv=>arg 2;dsimp only [Tryz.caseCode,Tryz.f10,eL,Option.getD]
 have KT:=ae (fun U (hx:Ext V U) (hU:aY U T a c l) (i:Nat) (hi:i<16)=>K5 V U T a c l i nb (hh:Int) mU.o.1 hx HL.o hU hi (by have:=jE.o;omega) (by have:=jE.o;omega) (by have:=HH.o;omega) (by have:=HH.o;omega));go_wp2_with fail
 refine (fL.o WO 3 (HC.o.ext.but T) HC.o.tape (by decide) (by decide)).mono ?_;rintro e WP ⟨kv,rfl,JC,hT,hx⟩;replace HC:=ae (HC.o.next hT hx);clear hT hx;obtain ⟨nu,UC⟩: ∃nu:Nat,1+kv=(nu:Int):=⟨(1+kv).toNat,by omega⟩;have K7:Hid (1≤nu∧nu≤3):=by(show _∧_;omega)
 have q1:IntKind.i64.wrap (1+kv)=(nu:Int):=by rw [IntKind.wrap_i64];omega
 clear JC UC
 go_upto_block 6 with fail
 clear q1;obtain ⟨E,hE⟩: ∃E,E=WP.heap.size:=⟨_,rfl⟩
 have HP:Hid (gT V T R X E a c l [i64 (hh:Int),.slice rb hh rc,.slice ba nb bc,.slice la ls.length lc,.slice none ([]:List aF).length 0,.slice none 0 0,.slice none 0 0,.slice none 0 0] (⟨hh,rb,rc,rs,ba,bc,bs,la,lc,ls,none,0,[],none,0,[],none,0,[],none,0,[]⟩:ai) 67 22 none 0 (([]:List aF).map aF.cells) (mD []) (mE []) WP):=by
  rw [hE];exact ⟨HC.o,aN.nil _ _ _ _,fun s hs=>absurd hs (by simp [mD]),fun s hs=>absurd hs (by simp [mE]),HC.o.bl.mono fun b hb=>hb.2,Nat.le_refl _,HC.o.bJ.lt⟩
 clear HC hE;go_cut [] (fun wx=> ∃(us:List aF) (ua:Option Addr) (uc:Nat),us.length=nu∧js us nb hh∧gT V T R X E a c l [i64 (hh:Int),.slice rb hh rc,.slice ba nb bc,.slice la ls.length lc,.slice ua us.length uc,.slice none 0 0,.slice none 0 0,.slice none 0 0] (⟨hh,rb,rc,rs,ba,bc,bs,la,lc,ls,none,0,[],none,0,[],none,0,[],none,0,[]⟩:ai) 67 22 ua uc (us.map aF.cells) (mD us) (mE us) wx)
 case first=>
  as_aux_lemma=>
   go_wp2_with fail
   go_loopw [11] (fun v wr=> ∃(k:Nat) (us:List aF) (ua:Option Addr) (uc:Nat),k≤nu∧us.length+k=nu∧js us nb hh∧gT V T R X E a c l [i64 (hh:Int),.slice rb hh rc,.slice ba nb bc,.slice la ls.length lc,.slice ua us.length uc,.slice none 0 0,.slice none 0 0,.slice none 0 0] (⟨hh,rb,rc,rs,ba,bc,bs,la,lc,ls,none,0,[],none,0,[],none,0,[],none,0,[]⟩:ai) 67 22 ua uc (us.map aF.cells) (mD us) (mE us) wr∧v= .int .i64 (k:Int)) (fun v _=>(intOf v).toNat)
   case atStart=>exact ⟨nu,[],none,0,Nat.le_refl _,Nat.zero_add _,fun j h=>absurd h (by simp),HP.o,rfl⟩
   case round=>
    obtain ⟨k,us,ua,uc,hk,jv,Qe,hP,rfl⟩:=hrel;clear HP;have HP:=ae hP;have JB:=ae Qe;have QE:=ae jv;have HK:=ae hk
    clear hP Qe jv hk;by_cases Yn:0<k
    ·have b0:(0:Int)<(k:Int):=by omega
     have lK:Hid (us.length<3):=by(have:=QE.o;have:=K7.o;show _<_;omega)
     go_upto_region 24 with fail
     refine aB (fun w'=>w'.cell? ⟨X,0,none⟩=some (i64 (hh:Int))) (fun w'=>w'.cell? ⟨X,4,none⟩=some (.slice ua us.length uc)) (fun i=>i==13) (by kernel_rfl) ((HP.o.cw.bJ.cell 0).trans rfl) ((HP.o.cw.bJ.cell 4).trans rfl) (fun aq ah=> ?_);refine ay 0 aq ah ?_;refine kr 1 aq ah ?_;refine ay 2 aq ah ?_;refine ay 3 aq ah ?_;refine kr 4 aq ah ?_;refine ay 5 aq ah ?_ (v:= .int .i64 (us.length:Int));refine ay 6 aq ah ?_ (v:= .int .i64 (nb:Int));refine ay 7 aq ah ?_;refine ay 8 aq ah ?_ (v:=i64 (hh:Int));replace HP:=ae (HP.o.grow (Ext.refl wr).drew);generalize wr.drew=Y3 at*;refine dX 9 rfl (fun Kc hK=> ?_);go_simp;refine (KT.o Y3 HP.o.cw.ext HP.o.cw.tape us.length (by have:=lK.o;omega)).mono ?_;rintro e Y4 ⟨x,bu,rfl,Rf,hm,hi,hf,Le,hf2,hT,hx⟩;replace HP:=ae (HP.o.LP hT hx hi hf hm.NB.2 Le hf2 (LQ Le (by rw [List.length_map];exact hm.K4.1) (fun r hr=>by obtain ⟨g,-,rfl⟩:=List.mem_map.1 hr;exact Nat.zero_lt_succ _)));have HM:=ae (And.intro Rf hm);clear Rf hm hi hf Le hf2 hT hx;refine hK.o _ _ ((HP.o.cw.bJ.cell 0).trans rfl) ((HP.o.cw.bJ.cell 4).trans rfl) (fun aq ah=> ?_);clear hK Kc;try simp only [iK,iL,iM,List.setIfInBounds_toArray,iN,iO,Act.put]
     refine dX 10 rfl (fun Kc hK=> ?_);rw [if_pos (by rfl)];refine eJ 27 (.tmp 133) rfl 67 (.agg nA.cells.toArray) 22 216 underlying27 Tryz.info_unit (by decide) (by decide) x.cells rfl rfl ?_;intro Y5 sW x5;replace HP:=ae (HP.o.grow x5);have E_:=ae sW;clear sW x5;refine hK.o _ _ ((HP.o.cw.bJ.cell 0).trans rfl) ((HP.o.cw.bJ.cell 4).trans rfl) (fun aq ah=> ?_);clear hK Kc;try simp only [iK,iL,iM,List.setIfInBounds_toArray,iN,iO,Act.put]
     refine dX 11 rfl (fun Kc hK=> ?_);rw [if_pos (by rfl)];refine eP _ (.tmp 125) (.tmp 134) 27 rfl E 67 (.agg nA.cells.toArray) 22 216 underlying27 Tryz.info_unit rfl (by decide) (.slice ua us.length uc) us.length (us.map aF.cells).flatten rfl ?c1 Y4.heap.size x.cells rfl rfl E_.o rfl ?c5 (by decide) HP.o.size ?_
     case c1=>
      have h5:=HP.o.own.own;rw [List.length_map]at h5;exact h5
     case c5=>have:=lK.o;omega
     intro v1 w5 ho he hb hz hv;obtain ⟨g2,k2,rfl,c4,c0,f4,m7⟩:=Gl HP.o ho.o he.o hb.o hz.o hv.o;obtain ⟨Qf,O6⟩: ∃Qf,Qf=us++ [x]:=⟨_,rfl⟩
     have Tz:Hid (Qf.length=us.length+1∧js Qf nb hh):=by
      rw [O6];exact ⟨by simp,JB.o.snoc HM.o.1 HM.o.2⟩
     rw [←O6]at m7⊢;have JI:=ae m7;clear HP E_ ho he hb hz hv m7 O6 HM JB;refine hK.o _ _ (c0) (c4) (fun aq ah=> ?_);clear hK Kc;try simp only [iK,iL,iM,List.setIfInBounds_toArray,iN,iO,Act.put]
     refine ay 12 aq ah ?_;refine aQ (rs:= [13]) (by kernel_rfl) (by simp) ?_;refine aA.late rfl (by kernel_rfl) (fun Kc hK=> ?_) aA.nil;go_simp;refine hK.o _ _ ((JI.o.cw.bJ.cell 0).trans rfl) (fun aq=> ?_);clear hK Kc;try simp only [iK,iL,iM,List.setIfInBounds_toArray,iN,iO,Act.put]
     refine ax (by kernel_rfl) ?_ _;clear aq c4 f4 c0;generalize (w5.setCell ⟨X,4,none⟩ (.slice g2 Qf.length k2))=Y6 at*;have q3:IntKind.i64.wrap ((k:Int)-1)=((k-1:Nat):Int):=by rw [IntKind.wrap_i64];have:=HK.o;have:=K7.o;omega
     have q4:wrap64 ((k:Int)-1)=((k-1:Nat):Int):=by unfold wrap64;have:=HK.o;have:=K7.o;omega
     go_wp2_with fail
     exact ⟨⟨k-1,Qf,g2,k2,by(have:=HK.o;omega),by(have:=Tz.o.1;have:=QE.o;omega),Tz.o.2,JI.o,by first|rfl|exact congrArg (Value.int IntKind.i64) q4⟩,by first|exact Nat.lt_of_le_of_lt (Nat.le_of_eq (congrArg Int.toNat q4)) (by show(((k-1:Nat):Int)).toNat<((k:Int)).toNat;omega)|(show(((k-1:Nat):Int)).toNat<((k:Int)).toNat;omega)⟩
    ·obtain rfl:k=0:=by omega
     go_wp2_with fail
     go_meet
     exact ⟨us,ua,uc,QE.o,JB.o,HP.o⟩
 case rest=>
  obtain ⟨us,ua,uc,jv,Qe,hP⟩:=hcut;generalize wc=WQ at*;clear HP
  have HC:Hid (CW V T R X a c l [i64 (hh:Int),.slice rb hh rc,.slice ba nb bc,.slice la ls.length lc,.slice ua us.length uc,.slice none 0 0,.slice none 0 0,.slice none 0 0] (⟨hh,rb,rc,rs,ba,bc,bs,la,lc,ls,ua,uc,us,none,0,[],none,0,[],none,0,[]⟩:ai) WQ):=FY hP (fun w hc hr hs=>by
   refine {hc with au:=hr,unit:=fun b hb=> ?_};replace hb:b∈us:=hb;obtain ⟨j,hj,rfl⟩:=List.getElem_of_mem hb;obtain ⟨bu,h1,h2⟩:=Qe j hj;have hn:=jE.o;have CE:=K7.o
   have h3:=h2.lQ (by omega) (by omega);have h4:=hs _ hb;exact ⟨h3.1,h4.1,h4.2,h3.2⟩)
  have JB:=ae Qe;have lK:Hid (1≤us.length∧us.length≤3):=by rw [jv];exact K7.o
  clear hP Qe jv K7;go_step
  exact JG V T R X a c l hh nb rc bc rb ba rs bs ls la lc us ua uc HL mU HH DU jE Ce jo rV nU JB lK WQ HC
end Go.Proofs.YtkpngkdgphojlaaGreat
