/- Texts of the proof. -/
import Derived.Test.YtbnamicbjaaelaaGreatCg46
set_option linter.all false
set_option maxHeartbeats 40000000
set_option maxRecDepth 100000
namespace Go.Proofs.YtbnamicbjaaelaaGreat
open Go.Proofs.Tryz
open Go.RowKit
theorem M6 (V:World) (T:Nat) (R:Nat) (X:Nat) (a:Option Addr) (c:Nat) (l:List Int) (hh:Nat) (nb:Nat) (rc:Nat) (bc:Nat) (rb:Option Addr) (ba:Option Addr) (rs:List Int) (bs:List dK) (ls:List bn) (la:Option Addr) (lc:Nat) (HL:Hid (aS V a c l)) (oq:Hid (V.heap.size<=T/\V.heap.size<=R)) (HH:Hid (1<=hh/\hh<=3)) (Cr:Hid (rs.length=hh/\ ∀z∈rs,0<=z/\z<5)) (jC:Hid (1<=nb/\nb<=4)) (Et:Hid (∀j (h:j<bs.length),kH bs[j] j hh)) (lK:Hid (bs.length=nb)) (uy:Hid (gT ls nb hh)) (tC:Hid (ls.length<=7)) (WO:World) (HC:Hid (CW V T R X a c l [i64 (hh:Int),.slice rb hh rc,.slice ba nb bc,.slice la ls.length lc,.slice none 0 0,.slice none 0 0,.slice none 0 0,.slice none 0 0] (⟨hh,rb,rc,rs,ba,bc,bs,la,lc,ls,none,0,[],none,0,[],none,0,[],none,0,[]⟩:ay) WO)) {u0 u1 u5 u6 u8 u9 u10 u11 u12 u13 u14 u15 u16 u17 u18 u19 u20 u21 u22 u23 u24 u25 u26 u27 u28 u29 u30 u31 u32 u33 u34 u35 u36 u37 u38 u39 u40 u41 u42 u43 u44 u45 u46 u47 u48 u49 u50 u51 u52 u53 u54 u55 u56 u57 u58 u59 u60 u61 u62 u63 u64 u65 u66 u67 u68 u69 u70 u71 u72 u73 u74 u75 u76 u77 u78 u79 u80 u81 u82 u83 u84 u85 u86 u87 u88 u89 u90 u91 u92 u93 u94 u95 u96 u97 u98 u99 u100 u101 u102 u103 u104 u105 u106 u107 u108 u109 u110 u111 u112 u113 u114 u115 u116 u117 u118 u119 u120 u121 u122 u123 u124 u125 u126 u127 u128 u129 u130 u131 u132 u133 u134 u135 u136 u137 u138 u139 u140 u141 u142 u143 u144 u145 u146 u147 u148 u149 u150 u151 u152 u153 u154 u155 u156 u157 u158 u159 u160 u161 u162 u163 u164 u165 u166 u167 u168 u169 u170 u171 u172 u173 u174 u175 u176 u177 u178 u179 u180 u181 u182 u183 u184 u185 u186 u187 u188 u189 u190 u191 u192 u193 u194 u195 u196 u197 u198 u199 u200 u201 u202 u203 u204 u205 u206 u207 u208 u209 u210 u211 u212 u213 u214 u215 u216 u217 u218 u219 u220 u221 u222 u223 u224 u225 u226 u227 u228 u229 u230 u231 u232 u233 u234 u235 u236:Value}:Code.wp prog (fO 8 Tryz.caseCode) (bodyPost prog Tryz.f8 λe w'=> ∃(hh nb:Nat) (x:ay),e= .returned (.agg x.cells.toArray)/\bm w' x/\gU hh nb x/\cE x=0/\(cP (λb=>V.heap.size<=b) x/\eE w' x/\cP (λb=>b<w'.heap.size) x)/\Ext V w') {tmps:= #[u0,u1,.pointer (some ⟨R,0,none⟩),.pointer (some ⟨T,0,none⟩),.pointer (some ⟨X,0,none⟩),u5,u6,.int .i64 (nb:Int),u8,u9,u10,u11,u12,u13,u14,u15,u16,u17,u18,u19,u20,u21,u22,u23,u24,u25,u26,u27,u28,u29,u30,u31,u32,u33,u34,u35,u36,u37,u38,u39,u40,u41,u42,u43,u44,u45,u46,u47,u48,u49,u50,u51,u52,u53,u54,u55,u56,u57,u58,u59,u60,u61,u62,u63,u64,u65,u66,u67,u68,u69,u70,u71,u72,u73,u74,u75,u76,u77,u78,u79,u80,u81,u82,u83,u84,u85,u86,u87,u88,u89,u90,u91,u92,u93,u94,u95,u96,u97,u98,u99,u100,u101,u102,u103,u104,u105,u106,u107,u108,u109,u110,u111,u112,u113,u114,u115,u116,u117,u118,u119,u120,u121,u122,u123,u124,u125,u126,u127,u128,u129,u130,u131,u132,u133,u134,u135,u136,u137,u138,u139,u140,u141,u142,u143,u144,u145,u146,u147,u148,u149,u150,u151,u152,u153,u154,u155,u156,u157,u158,u159,u160,u161,u162,u163,u164,u165,u166,u167,u168,u169,u170,u171,u172,u173,u174,u175,u176,u177,u178,u179,u180,u181,u182,u183,u184,u185,u186,u187,u188,u189,u190,u191,u192,u193,u194,u195,u196,u197,u198,u199,u200,u201,u202,u203,u204,u205,u206,u207,u208,u209,u210,u211,u212,u213,u214,u215,u216,u217,u218,u219,u220,u221,u222,u223,u224,u225,u226,u227,u228,u229,u230,u231,u232,u233,u234,u235,u236],defers:= []} WO:=by
 have gl:=ah (fY.of V V T a c l oq.o.1 (Ext.refl V) HL.o);have H9:=ah (λU (hx:Ext V U) (hU:bO U T a c l) (m:Int) (hm:0<m) (ri:m<1000000)=>lB V U T a c l hh m oq.o.1 hx HL.o hU (bA HH.o) hm ri);conv=>arg 2;dsimp only [Tryz.caseCode,Tryz.f8,fO,Option.getD]
 have Ow:=ah (λU (hx:Ext V U) (hU:bO U T a c l) (i:Nat) (hi:i<16)=>OG V U T a c l i nb (hh:Int) oq.o.1 hx HL.o hU hi (bA jC.o) (bA jC.o) (bA HH.o) (bA HH.o));go_wp2_with fail
 refine (gl.o WO 3 (HC.o.ext.but T) HC.o.tape aq aq).mono ?_;rintro e WP ⟨kv,rfl,MZ,hT,hx⟩;replace HC:=ah (HC.o.next hT hx);clear hT hx;obtain ⟨nu,Zm⟩: ∃nu:Nat,1+kv=(nu:Int):=⟨(1+kv).toNat,ae⟩;have OI:Hid (1<=nu/\nu<=3):=by(show _/\_;omega)
 have q1:IntKind.i64.wrap (1+kv)=(nu:Int):=dW;clear MZ Zm
 go_upto_block 6 with fail
 clear q1;obtain ⟨E,hE⟩: ∃E,E=WP.heap.size:=⟨_,rfl⟩
 have HP:Hid (iQ V T R X E a c l [i64 (hh:Int),.slice rb hh rc,.slice ba nb bc,.slice la ls.length lc,.slice none ([]:List aP).length 0,.slice none 0 0,.slice none 0 0,.slice none 0 0] (⟨hh,rb,rc,rs,ba,bc,bs,la,lc,ls,none,0,[],none,0,[],none,0,[],none,0,[]⟩:ay) 55 22 none 0 (([]:List aP).map aP.cells) (nV []) (nW []) WP):=by
  rw [hE];exact ⟨HC.o,aL.nil _ _ _ _,λs hs=>absurd hs (by simp [nV]),λs hs=>absurd hs (by simp [nW]),HC.o.bl.mono λb hb=>hb.2,bY,HC.o.cg.lt⟩
 clear HC hE;go_cut [] (λwx=> ∃(us:List aP) (ua:Option Addr) (uc:Nat),us.length=nu/\j7 us nb hh/\iQ V T R X E a c l [i64 (hh:Int),.slice rb hh rc,.slice ba nb bc,.slice la ls.length lc,.slice ua us.length uc,.slice none 0 0,.slice none 0 0,.slice none 0 0] (⟨hh,rb,rc,rs,ba,bc,bs,la,lc,ls,none,0,[],none,0,[],none,0,[],none,0,[]⟩:ay) 55 22 ua uc (us.map aP.cells) (nV us) (nW us) wx)
 case first=>
  as_aux_lemma=>
   go_wp2
   go_loopw [11] (λv wr=> ∃(k:Nat) (us:List aP) (ua:Option Addr) (uc:Nat),k<=nu/\us.length+k=nu/\j7 us nb hh/\iQ V T R X E a c l [i64 (hh:Int),.slice rb hh rc,.slice ba nb bc,.slice la ls.length lc,.slice ua us.length uc,.slice none 0 0,.slice none 0 0,.slice none 0 0] (⟨hh,rb,rc,rs,ba,bc,bs,la,lc,ls,none,0,[],none,0,[],none,0,[],none,0,[]⟩:ay) 55 22 ua uc (us.map aP.cells) (nV us) (nW us) wr/\v= .int .i64 (k:Int)) (λv _=>(intOf v).toNat)
   case atStart=>exact ⟨nu,[],none,0,bY,Nat.zero_add _,λj h=>absurd h aG,HP.o,rfl⟩
   case round=>
    obtain ⟨k,us,ua,uc,hk,ue,TX,hP,rfl⟩:=hrel;clear HP;have HP:=ah hP;have MX:=ah TX;have Ov:=ah ue;have HK:=ah hk
    clear hP TX ue hk;by_cases hk0:0<k
    .have b0:(0:Int)<(k:Int):=ae
     have BK:Hid (us.length<3):=by(have:=Ov.o;have:=OI.o;show _<_;omega)
     go_upto_region 24 with fail
     refine aO (λw'=>w'.cell? ⟨X,0,none⟩=some (i64 (hh:Int))) (λw'=>w'.cell? ⟨X,4,none⟩=some (.slice ua us.length uc)) (λi=>i==13) ax ((HP.o.cw.cg.cell 0).trans rfl) ((HP.o.cw.cg.cell 4).trans rfl) (λaD ai=> ?_);refine aJ 0 aD ai ?_;refine GL 1 aD ai ?_;refine aJ 2 aD ai ?_;refine aJ 3 aD ai ?_;refine GL 4 aD ai ?_;refine aJ 5 aD ai ?_ (v:= .int .i64 (us.length:Int));refine aJ 6 aD ai ?_ (v:= .int .i64 (nb:Int));refine aJ 7 aD ai ?_;refine aJ 8 aD ai ?_ (v:=i64 (hh:Int));replace HP:=ah (HP.o.grow (Ext.refl wr).drew);generalize wr.drew=Y3 at*;refine eI 9 rfl (λKc hK=> ?_);go_simp;refine (Ow.o Y3 HP.o.cw.ext HP.o.cw.tape us.length (bA BK.o)).mono ?_;rintro e Y4 ⟨x,bu,rfl,VG,hm,hi,hf,Qi,hf2,hT,hx⟩;replace HP:=ah (HP.o.Pc hT hx hi hf hm.R5.2 Qi hf2 (Pd Qi (by rw [List.length_map];exact hm.OE.1) (λr hr=>by obtain ⟨g,-,rfl⟩:=List.mem_map.1 hr;exact Nat.zero_lt_succ _)));have HM:=ah (And.intro VG hm);clear VG hm hi hf Qi hf2 hT hx;refine hK.o _ _ ((HP.o.cw.cg.cell 0).trans rfl) ((HP.o.cw.cg.cell 4).trans rfl) (λaD ai=> ?_);clear hK Kc;try simp only [j8,j9,j_,List.setIfInBounds_toArray,ke,kf,Act.put]
     refine eI 10 rfl (λKc hK=> ?_);rw [if_pos eN];refine dM 27 (.tmp 133) rfl 55 (.agg kp.cells.toArray) 22 216 underlying27 Tryz.info_unit aq aq x.cells rfl rfl ?_;intro Y5 tA x5;replace HP:=ah (HP.o.grow x5);have Am:=ah tA;clear tA x5;refine hK.o _ _ ((HP.o.cw.cg.cell 0).trans rfl) ((HP.o.cw.cg.cell 4).trans rfl) (λaD ai=> ?_);clear hK Kc;try simp only [j8,j9,j_,List.setIfInBounds_toArray,ke,kf,Act.put]
     refine eI 11 rfl (λKc hK=> ?_);rw [if_pos eN];refine gD _ (.tmp 125) (.tmp 134) 27 rfl E 55 (.agg kp.cells.toArray) 22 216 underlying27 Tryz.info_unit rfl aq (.slice ua us.length uc) us.length (us.map aP.cells).flatten rfl ?c1 Y4.heap.size x.cells rfl rfl Am.o rfl ?c5 aq HP.o.size ?_
     case c1=>
      have h5:=HP.o.own.own;rw [List.length_map]at h5;exact h5
     case c5=>have:=BK.o;omega
     intro v1 w5 ho he hb hz hv;obtain ⟨g2,k2,rfl,c4,c0,f4,vJ⟩:=JQ HP.o ho.o he.o hb.o hz.o hv.o;obtain ⟨TY,SV⟩: ∃TY,TY=us++ [x]:=⟨_,rfl⟩
     have XY:Hid (TY.length=us.length+1/\j7 TY nb hh):=by
      rw [SV];exact ⟨aG,MX.o.snoc HM.o.1 HM.o.2⟩
     rw [<-SV]at vJ⊢;have M7:=ah vJ;clear HP Am ho he hb hz hv vJ SV HM MX;refine hK.o _ _ (c0) (c4) (λaD ai=> ?_);clear hK Kc;try simp only [j8,j9,j_,List.setIfInBounds_toArray,ke,kf,Act.put]
     refine aJ 12 aD ai ?_;refine bH (rs:= [13]) ax aG ?_;refine aQ.late rfl ax (λKc hK=> ?_) aQ.nil;go_simp;refine hK.o _ _ ((M7.o.cw.cg.cell 0).trans rfl) (λaD=> ?_);clear hK Kc;try simp only [j8,j9,j_,List.setIfInBounds_toArray,ke,kf,Act.put]
     refine aI ax ?_ _;clear aD c4 f4 c0;generalize (w5.setCell ⟨X,4,none⟩ (.slice g2 TY.length k2))=Y6 at*;have q3:IntKind.i64.wrap ((k:Int)-1)=((k-1:Nat):Int):=by rw [IntKind.wrap_i64];have:=HK.o;have:=OI.o;omega
     have q4:wrap64 ((k:Int)-1)=((k-1:Nat):Int):=by unfold wrap64;have:=HK.o;have:=OI.o;omega
     go_wp2
     exact ⟨⟨k-1,TY,g2,k2,by(have:=HK.o;omega),by(have:=XY.o.1;have:=Ov.o;omega),XY.o.2,M7.o,by first|rfl|exact congrArg (Value.int IntKind.i64) q4⟩,by first|exact Nat.lt_of_le_of_lt (Nat.le_of_eq (congrArg Int.toNat q4)) (by show(((k-1:Nat):Int)).toNat<((k:Int)).toNat;omega)|(show(((k-1:Nat):Int)).toNat<((k:Int)).toNat;omega)⟩
    .obtain rfl:k=0:=ae
     go_wp2
     go_meet
     exact ⟨us,ua,uc,Ov.o,MX.o,HP.o⟩
 case rest=>
  obtain ⟨us,ua,uc,ue,TX,hP⟩:=hcut;generalize wc=WQ at*;clear HP
  have HC:Hid (CW V T R X a c l [i64 (hh:Int),.slice rb hh rc,.slice ba nb bc,.slice la ls.length lc,.slice ua us.length uc,.slice none 0 0,.slice none 0 0,.slice none 0 0] (⟨hh,rb,rc,rs,ba,bc,bs,la,lc,ls,ua,uc,us,none,0,[],none,0,[],none,0,[]⟩:ay) WQ):=JI hP (λw hc hr hs=>by
   refine {hc with aA:=hr,unit:=λb hb=> ?_};replace hb:b∈us:=hb;obtain ⟨j,hj,rfl⟩:=List.getElem_of_mem hb;obtain ⟨bu,h1,h2⟩:=TX j hj;have hn:=jC.o;have Ig:=OI.o
   have h3:=h2.wE ae ae;have h4:=hs _ hb;exact ⟨h3.1,h4.1,h4.2,h3.2⟩)
  have MX:=ah TX;have BK:Hid (1<=us.length/\us.length<=3):=by rw [ue];exact OI.o
  clear hP TX ue OI;go_step
  exact M5 V T R X a c l hh nb rc bc rb ba rs bs ls la lc us ua uc HL oq HH Cr jC Et lK uy tC MX BK WQ HC
