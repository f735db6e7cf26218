/- Texts of the proof. -/
import Derived.Test.YtkpngkdgphojlaaGreatCf34
set_option linter.all false
set_option maxHeartbeats 40000000
set_option maxRecDepth 100000
namespace Go.Proofs.YtkpngkdgphojlaaGreat
open Go.Proofs.Tryz
open Go.RowKit
theorem JR (V:World) (T:Nat) (R:Nat) (X:Nat) (a:Option Addr) (c:Nat) (l:List Int) (hh:Nat) (nb:Nat) (rc:Nat) (bc:Nat) (rb:Option Addr) (ba:Option Addr) (rs:List Int) (bs:List cN) (ls:List aS) (la:Option Addr) (lc:Nat) (us:List aK) (ua:Option Addr) (uc:Nat) (HL:Hid (aI V a c l)) (pD:Hid (V.heap.size≤T∧V.heap.size≤R)) (HH:Hid (1≤hh∧hh≤3)) (DZ:Hid (rs.length=hh∧ ∀z∈rs,0≤z∧z<5)) (jD:Hid (1≤nb∧nb≤4)) (BZ:Hid (∀j (h:j<bs.length),kH bs[j] j hh)) (iG:Hid (bs.length=nb)) (uN:Hid (gK ls nb hh)) (nS:Hid (ls.length≤7)) (JL:Hid (jX us nb hh)) (Bf:Hid (1≤us.length∧us.length≤3)) (WQ:World) (HC:Hid (CW V T R X a c l [i64 (hh:Int),.slice rb hh rc,.slice ba nb bc,.slice la ls.length lc,.slice ua us.length uc,.slice none 0 0,.slice none 0 0,.slice none 0 0] (⟨hh,rb,rc,rs,ba,bc,bs,la,lc,ls,ua,uc,us,none,0,[],none,0,[],none,0,[]⟩:ai) WQ)) {u0 u1 u5 u6 u8 u9 u10 u11 u12 u13 u14 u15 u16 u17 u18 u19 u20 u21 u22 u23 u24 u25 u26 u27 u28 u29 u30 u31 u32 u33 u34 u35 u36 u37 u38 u39 u40 u41 u42 u43 u44 u45 u46 u47 u48 u49 u50 u51 u52 u53 u54 u55 u56 u57 u58 u59 u60 u61 u62 u63 u64 u65 u66 u67 u68 u69 u70 u71 u72 u73 u74 u75 u76 u77 u78 u79 u80 u81 u82 u83 u84 u85 u86 u87 u88 u89 u90 u91 u92 u93 u94 u95 u96 u97 u98 u99 u100 u101 u102 u103 u104 u105 u106 u107 u108 u109 u110 u111 u112 u113 u114 u115 u116 u117 u118 u119 u120 u121 u122 u123 u124 u125 u126 u127 u128 u129 u130 u131 u132 u133 u134 u135 u136 u137 u138 u139 u140 u141 u142 u143 u144 u145 u146 u147 u148 u149 u150 u151 u152 u153 u154 u155 u156 u157 u158 u159 u160 u161 u162 u163 u164 u165 u166 u167 u168 u169 u170 u171 u172 u173 u174 u175 u176 u177 u178 u179 u180 u181 u182 u183 u184 u185 u186 u187 u188 u189 u190 u191 u192 u193 u194 u195 u196 u197 u198 u199 u200 u201 u202 u203 u204 u205 u206 u207 u208 u209 u210 u211 u212 u213 u214 u215 u216 u217 u218 u219 u220 u221 u222 u223 u224 u225 u226 u227 u228 u229 u230 u231 u232 u233 u234 u235 u236:Value}:Code.wp prog (fh 9 Tryz.caseCode) (bodyPost prog Tryz.f10 fun e w'=> ∃(hh nb:Nat) (x:ai),e= .returned (.agg x.cells.toArray)∧a_ w' x∧fT hh nb x∧dW x=0∧(bZ (fun b=>V.heap.size≤b) x∧eh w' x∧bZ (fun b=>b<w'.heap.size) x)∧Ext V w') {tmps:= #[u0,u1,.pointer (some ⟨R,0,none⟩),.pointer (some ⟨T,0,none⟩),.pointer (some ⟨X,0,none⟩),u5,u6,.int .i64 (nb:Int),u8,u9,u10,u11,u12,u13,u14,u15,u16,u17,u18,u19,u20,u21,u22,u23,u24,u25,u26,u27,u28,u29,u30,u31,u32,u33,u34,u35,u36,u37,u38,u39,u40,u41,u42,u43,u44,u45,u46,u47,u48,u49,u50,u51,u52,u53,u54,u55,u56,u57,u58,u59,u60,u61,u62,u63,u64,u65,u66,u67,u68,u69,u70,u71,u72,u73,u74,u75,u76,u77,u78,u79,u80,u81,u82,u83,u84,u85,u86,u87,u88,u89,u90,u91,u92,u93,u94,u95,u96,u97,u98,u99,u100,u101,u102,u103,u104,u105,u106,u107,u108,u109,u110,u111,u112,u113,u114,u115,u116,u117,u118,u119,u120,u121,u122,u123,u124,u125,u126,u127,u128,u129,u130,u131,u132,u133,u134,u135,u136,u137,u138,u139,u140,u141,u142,u143,u144,u145,u146,u147,u148,u149,u150,u151,u152,u153,u154,u155,u156,u157,u158,u159,u160,u161,u162,u163,u164,u165,u166,u167,u168,u169,u170,u171,u172,u173,u174,u175,u176,u177,u178,u179,u180,u181,u182,u183,u184,u185,u186,u187,u188,u189,u190,u191,u192,u193,u194,u195,u196,u197,u198,u199,u200,u201,u202,u203,u204,u205,u206,u207,u208,u209,u210,u211,u212,u213,u214,u215,u216,u217,u218,u219,u220,u221,u222,u223,u224,u225,u226,u227,u228,u229,u230,u231,u232,u233,u234,u235,u236],defers:= []} WQ:=by
 have gD:=ae (fI.of V V T a c l pD.o.1 (Ext.refl V) HL.o);have Fw:=ae (fun U (hx:Ext V U) (hU:bJ U T a c l) (m:Int) (hm:0<m) (nc:m<1000000)=>kY V U T a c l hh m pD.o.1 hx HL.o hU (by have:=HH.o;omega) hm nc);conv=>arg 2;dsimp only [Tryz.caseCode,Tryz.f10,fh,Option.getD]
 go_wp2_with fail
 refine (gD.o WQ 3 (HC.o.ext.but T) HC.o.tape (by decide) (by decide)).mono ?_;rintro e WR ⟨q,rfl,Lu,hT,hx⟩;replace HC:=ae (HC.o.next hT hx);clear hT hx Lu;go_upto_if 139 with fail
 go_cut [] (fun wx=> ∃(ss:List bG) (sa:Option Addr) (sc:Nat),ss.length≤1∧(∀s∈ss,nA s nb)∧CW V T R X a c l [i64 (hh:Int),.slice rb hh rc,.slice ba nb bc,.slice la ls.length lc,.slice ua us.length uc,.slice sa ss.length sc,.slice none 0 0,.slice none 0 0] (⟨hh,rb,rc,rs,ba,bc,bs,la,lc,ls,ua,uc,us,sa,sc,ss,none,0,[],none,0,[]⟩:ai) wx)
 case first=>
  as_aux_lemma=>
   rcases Bool.eq_false_or_eq_true (q==2)with hq|hq
   ·go_wp2_with fail
    refine (gD.o WR (nb:Int) (HC.o.ext.but T) HC.o.tape (by have:=jD.o;omega) (by have:=jD.o;omega)).mono ?_;rintro e Z1 ⟨JP,rfl,B9,hT,hx⟩;replace HC:=ae (HC.o.next hT hx);have B_:=ae B9;clear hT hx B9;go_wp2_with fail
    refine (gD.o Z1 20 (HC.o.ext.but T) HC.o.tape (by decide) (by decide)).mono ?_;rintro e Z2 ⟨cp,rfl,Th,hT,hx⟩;replace HC:=ae (HC.o.next hT hx);have D5:=ae Th;clear hT hx Th;go_wp2_with fail
    refine (gD.o Z2 8 (HC.o.ext.but T) HC.o.tape (by decide) (by decide)).mono ?_;rintro e Z3 ⟨ch,rfl,Ti,hT,hx⟩;replace HC:=ae (HC.o.next hT hx);have Tj:=ae Ti;clear hT hx Ti;go_wp2_with fail
    refine (gD.o Z3 8 (HC.o.ext.but T) HC.o.tape (by decide) (by decide)).mono ?_;rintro e Z4 ⟨dc,rfl,Tk,hT,hx⟩;replace HC:=ae (HC.o.next hT hx);have Tl:=ae Tk;clear hT hx Tk;go_wp2_with fail
    refine (gD.o Z4 4 (HC.o.ext.but T) HC.o.tape (by decide) (by decide)).mono ?_;rintro e Z5 ⟨ef,rfl,Tm,hT,hx⟩;replace HC:=ae (HC.o.next hT hx);have O8:=ae Tm;clear hT hx Tm;have q1:IntKind.i64.wrap (1+ef)=1+ef:=by rw [IntKind.wrap_i64];have:=O8.o;omega
    simp only [];first|go_values|go_skip|go_guarded|go_step|go_upon
    first|go_values|go_skip|go_guarded|go_step|go_upon
    first|go_values|go_skip|go_guarded|go_step|go_upon
    first|go_values|go_skip|go_guarded|go_step|go_upon
    first|go_values|go_skip|go_guarded|go_step|go_upon
    first|go_values|go_skip|go_guarded|go_step|go_upon
    first|go_values|go_skip|go_guarded|go_step|go_upon
    first|go_values|go_skip|go_guarded|go_step|go_upon
    refine zv 82 _ rfl [(0,.string {data:= #[115,48]}),(1,i64 JP),(2,i64 cp),(5,i64 ch),(6,i64 dc),(7,.agg #[i64 (1+ef),i64 4])] [.string {data:= #[115,48]},i64 JP,i64 cp,i64 0,i64 0,i64 ch,i64 dc,i64 (1+ef),i64 4] (by go_simp) (by kernel_rfl) ?_;go_upto_region 27 with(refine dR rfl 82 _ _ rfl zN.cells [.string {data:= #[115,48]},i64 JP,i64 cp,i64 0,i64 0,i64 ch,i64 dc,i64 (1+ef),i64 4] rfl rfl (by kernel_rfl) rfl rfl ?_)
    clear q1;obtain ⟨WS,hWS,xs,-,AS⟩:=aX Z5 82 [.string {data:= #[115,48]},i64 JP,i64 cp,i64 0,i64 0,i64 ch,i64 dc,i64 (1+ef),i64 4];rw [show Z5.alloc (.cells #[.string {data:= #[115,48]},i64 JP,i64 cp,i64 0,i64 0,i64 ch,i64 dc,i64 (1+ef),i64 4] 82)=WS from hWS.symm];obtain ⟨B,hB⟩: ∃B,B=Z5.heap.size:=⟨_,rfl⟩;rw [←hB]at AS⊢;have iG:Hid (bZ (fun b=>b≠B) (⟨hh,rb,rc,rs,ba,bc,bs,la,lc,ls,ua,uc,us,none,0,[],none,0,[],none,0,[]⟩:ai)):=HC.o.bl.mono fun b hb=>by rw [hB];omega
    have H7:Hid (B≠T):=by(have:=HC.o.tape.lt;show _≠_;omega)
    have SY:Hid (X<B):=by(have:=HC.o.b_.lt;show _<_;omega)
    have HB:=ae AS;replace HC:=ae (HC.o.grow xs);clear hWS AS xs hB;have q3:IntKind.i64.wrap (cp+1)=cp+1:=by rw [IntKind.wrap_i64];have:=D5.o;omega
    refine aL (fun w'=>w'.cell? ⟨B,2,none⟩=some (i64 cp)) (fun w'=>True) (fun i=>i==11||i==13) (by kernel_rfl) ((HB.o.cell 2).trans rfl) (trivial) (fun ay ah=> ?_);refine aF 0 ay ah ?_;refine aF 1 ay ah ?_;refine aF 2 ay ah ?_ (v:=i64 cp);refine aF 3 ay ah ?_ (v:=i64 (cp+1));refine aF 5 ay ah ?_;refine aF 6 ay ah ?_;refine aF 7 ay ah ?_ (v:=i64 cp);refine aF 8 ay ah ?_ (v:=i64 (cp+1));replace HC:=ae (HC.o.grow (Ext.refl WS).drew);replace HB:=ae (HB.o.ext (Ext.refl WS).drew);generalize WS.drew=Y1 at*;refine fp 4 rfl (fun Kc hK=> ?_);go_simp;refine (gD.o Y1 (cp+1) (HC.o.ext.but T) HC.o.tape (by have:=D5.o;omega) (by have:=D5.o;omega)).mono ?_;rintro e Y2 ⟨Tn,rfl,Nq,hT,hx⟩;replace HC:=ae (HC.o.next hT hx);replace HB:=ae (HB.o.but hx H7.o);have Nr:=ae Nq;clear hT hx Nq;refine hK.o _ _ ((HB.o.cell 2).trans rfl) (trivial) (fun ay ah=> ?_);clear hK Kc;try simp only [jw,jx,jy,List.setIfInBounds_toArray,jz,jA,Act.put]
    refine aF 10 ay ah ?_;refine fp 9 rfl (fun Kc hK=> ?_);go_simp;refine (gD.o Y2 (cp+1) (HC.o.ext.but T) HC.o.tape (by have:=D5.o;omega) (by have:=D5.o;omega)).mono ?_;rintro e Y3 ⟨fin,rfl,Ns,hT,hx⟩;replace HC:=ae (HC.o.next hT hx);replace HB:=ae (HB.o.but hx H7.o);have Nt:=ae Ns;clear hT hx Ns;refine hK.o _ _ ((HB.o.cell 2).trans rfl) (trivial) (fun ay ah=> ?_);clear hK Kc;try simp only [jw,jx,jy,List.setIfInBounds_toArray,jz,jA,Act.put]
    have d3:=HB.o.cl 3 (i64 0) rfl;have f3:=HB.o.frozen 3;have sI:=ae (HB.o.set 3 (i64 Tn));have xq:=ae (HC.o.but ((ar.refl B Y3).eL (o:=3) (v:=i64 Tn)) SY.o iG.o);refine bE (rs:= [11]) (by kernel_rfl) (by simp) ?_;refine aH.late rfl (by kernel_rfl) (fun Kc hK=> ?_) aH.nil;go_simp;refine hK.o _ _ ((sI.o.cell 2).trans rfl) (fun ay=> ?_);clear hK Kc;try simp only [jw,jx,jy,List.setIfInBounds_toArray,jz,jA,Act.put]
    clear HB HC d3 f3;have HB:=sI;have HC:=xq;clear sI xq;generalize (Y3.setCell ⟨B,3,none⟩ (i64 Tn))=Y4 at*;refine wTl 12 ay ?_;have d4:=HB.o.cl 4 (i64 0) rfl;have f4:=HB.o.frozen 4;have sI:=ae (HB.o.set 4 (i64 fin));have xq:=ae (HC.o.but ((ar.refl B Y4).eL (o:=4) (v:=i64 fin)) SY.o iG.o);refine bE (rs:= [13]) (by kernel_rfl) (by simp) ?_;refine aH.late rfl (by kernel_rfl) (fun Kc hK=> ?_) aH.nil;go_simp;refine hK.o _ _ ((sI.o.cell 2).trans rfl) (fun ay=> ?_);clear hK Kc;try simp only [jw,jx,jy,List.setIfInBounds_toArray,jz,jA,Act.put]
    clear HB HC d4 f4;have HB:=sI;have HC:=xq;clear sI xq;generalize (Y4.setCell ⟨B,4,none⟩ (i64 fin))=Y5 at*;refine aD (by kernel_rfl) ?_ _;clear ay;clear q3;obtain ⟨x,hx⟩: ∃x:bG,x=⟨{data:= #[115,48]},JP,cp,Tn,fin,ch,dc,1+ef,4⟩:=⟨_,rfl⟩;have Tg: [.string {data:= #[115,48]},i64 JP,i64 cp,i64 Tn,i64 fin,i64 ch,i64 dc,i64 (1+ef),i64 4]=x.cells:=by rw [hx];rfl
    have HM:Hid (nA x nb):=by
     have h1:=B_.o;have h2:=D5.o;have h3:=Tj.o;have h4:=Tl.o;have h5:=O8.o;have h6:=Nr.o;have h7:=Nt.o
     rw [hx];exact ⟨rfl,h1,h2,⟨h6.1,by simp only;omega⟩,⟨h7.1,by simp only;omega⟩,h3,h4,by simp only;omega,by simp only;omega,rfl⟩
    replace HB:Hid (aQ Y5 B 82 x.cells):=by rw [←Tg];exact HB.o
    clear hx Tg B_ D5 Tj Tl O8 Nr Nt;obtain ⟨F,hF⟩: ∃F,F=Y5.heap.size:=⟨_,rfl⟩
    have HP:Hid (iJ V T R X F a c l [i64 (hh:Int),.slice rb hh rc,.slice ba nb bc,.slice la ls.length lc,.slice ua us.length uc,.slice none 0 0,.slice none 0 0,.slice none 0 0] (⟨hh,rb,rc,rs,ba,bc,bs,la,lc,ls,ua,uc,us,none,0,[],none,0,[],none,0,[]⟩:ai) 82 9 none 0 [] [] [] Y5):=by
     rw [hF];exact ⟨HC.o,aJ.nil _ _ _ _,fun s hs=>absurd hs (by simp),fun s hs=>absurd hs (by simp),HC.o.bl.mono fun b hb=>hb.2,Nat.le_refl _,HC.o.b_.lt⟩
    clear HC hF;have c5:Y5.cell? ⟨X,5,none⟩=some (.slice none 0 0):=(HP.o.cw.b_.cell 5).trans rfl;have mH: ∀j v,x.cells[j]?=some v→Y5.cell? ((⟨B,0,none⟩:Addr).add j)=some v:=fun j v hj=>by rw [cF,HB.o.cell j];exact hj
    go_wp2_with (first|(refine aT rfl 82 _ rfl ⟨B,0,none⟩ rfl x.cells _ mH rfl rfl rfl ?_)|(
     refine gW rfl 28 _ rfl 82 (.agg zN.cells.toArray) 9 80 underlying28 Tryz.info_store (by decide) (by decide) x.cells rfl rfl ?_;intro Y6 mj x6;have Tp:=ae (HP.o.grow x6);have zU:=ae mj;have d5:Y6.cell? ⟨X,5,none⟩=some (.slice none 0 0):=(Tp.o.cw.b_.cell 5).trans rfl;clear mj x6 HP c5 mH HB)|(
     at_builtin
     refine bn _ rfl _ _ 28 rfl F 82 (.agg zN.cells.toArray) 9 80 underlying28 Tryz.info_store rfl (by decide) (.slice none 0 0) 0 [] rfl ?c1 (some ⟨Y5.heap.size,0,none⟩) 1 1 x.cells rfl rfl ?c2 ?c3 ?c4 ?c5 (by decide) ?c6 ?_
     case c1=>exact Tp.o.own.own
     case c2=>exact fun _=>⟨_,rfl,zU.o.adds⟩
     case c3=>exact fun u hu=>List.all_eq_true.1 (show x.cells.all (·.oneCell')=true from rfl) u hu
     case c4=>intro e;cases e
     case c5=>omega
     case c6=>exact Tp.o.size
     intro v1 w5 ho he hb hz hv;obtain ⟨g2,k2,rfl,c5',f5',Fy⟩:=DO Tp.o (HM.o.ji (by have:=jD.o;omega)) ho.o he.o hb.o hz.o hv.o;have xq:=ae Fy;clear Tp zU d5 ho he hb hz hv Fy))
    go_meet
    exact ⟨[x],g2,k2,Nat.le_refl _,fun s hs=>by rw [List.mem_singleton]at hs;rw [hs];exact HM.o,xq.o⟩
   ·go_wp2_with fail
    go_meet
    exact ⟨[],none,0,Nat.zero_le _,fun s hs=>absurd hs (by simp),HC.o⟩
 case rest=>
  obtain ⟨ss,sa,sc,AE,hsm,hC⟩:=hcut;generalize wc=WT at*;clear HC;have HC:=ae hC;have kg:=ae (And.intro AE hsm)
  clear hC AE hsm;go_step
  exact JO V T R X a c l hh nb rc bc rb ba rs bs ls la lc us ua uc ss sa sc HL pD HH DZ jD BZ iG uN nS JL Bf kg WT HC
end Go.Proofs.YtkpngkdgphojlaaGreat
