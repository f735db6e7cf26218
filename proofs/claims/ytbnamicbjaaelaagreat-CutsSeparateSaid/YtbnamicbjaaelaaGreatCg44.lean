/- Texts of the proof. -/
import Derived.Test.YtbnamicbjaaelaaGreatCg43
set_option linter.all false
set_option maxHeartbeats 40000000
set_option maxRecDepth 100000
namespace Go.Proofs.YtbnamicbjaaelaaGreat
open Go.Proofs.Tryz
open Go.RowKit
theorem MW (V:World) (T:Nat) (R:Nat) (X:Nat) (a:Option Addr) (c:Nat) (l:List Int) (hh:Nat) (nb:Nat) (rc:Nat) (bc:Nat) (rb:Option Addr) (ba:Option Addr) (rs:List Int) (bs:List dK) (ls:List bn) (la:Option Addr) (lc:Nat) (us:List aP) (ua:Option Addr) (uc:Nat) (ss:List bW) (sa:Option Addr) (sc:Nat) (ts:List fp) (ta:Option Addr) (tc:Nat) (HL:Hid (aS V a c l)) (oq:Hid (V.heap.size<=T/\V.heap.size<=R)) (HH:Hid (1<=hh/\hh<=3)) (Cr:Hid (rs.length=hh/\ ∀z∈rs,0<=z/\z<5)) (jC:Hid (1<=nb/\nb<=4)) (Et:Hid (∀j (h:j<bs.length),kH bs[j] j hh)) (lK:Hid (bs.length=nb)) (uy:Hid (gT ls nb hh)) (tC:Hid (ls.length<=7)) (MX:Hid (j7 us nb hh)) (BK:Hid (1<=us.length/\us.length<=3)) (CZ:Hid (ss.length<=1/\ ∀s∈ss,nT s nb)) (XJ:Hid (ts.length<=1/\ ∀t∈ts,H7 t nb hh)) (WV:World) (HC:Hid (CW V T R X a c l [i64 (hh:Int),.slice rb hh rc,.slice ba nb bc,.slice la ls.length lc,.slice ua us.length uc,.slice sa ss.length sc,.slice ta ts.length tc,.slice none 0 0] (⟨hh,rb,rc,rs,ba,bc,bs,la,lc,ls,ua,uc,us,sa,sc,ss,ta,tc,ts,none,0,[]⟩:ay) WV)) {u0 u1 u5 u6 u8 u9 u10 u11 u12 u13 u14 u15 u16 u17 u18 u19 u20 u21 u22 u23 u24 u25 u26 u27 u28 u29 u30 u31 u32 u33 u34 u35 u36 u37 u38 u39 u40 u41 u42 u43 u44 u45 u46 u47 u48 u49 u50 u51 u52 u53 u54 u55 u56 u57 u58 u59 u60 u61 u62 u63 u64 u65 u66 u67 u68 u69 u70 u71 u72 u73 u74 u75 u76 u77 u78 u79 u80 u81 u82 u83 u84 u85 u86 u87 u88 u89 u90 u91 u92 u93 u94 u95 u96 u97 u98 u99 u100 u101 u102 u103 u104 u105 u106 u107 u108 u109 u110 u111 u112 u113 u114 u115 u116 u117 u118 u119 u120 u121 u122 u123 u124 u125 u126 u127 u128 u129 u130 u131 u132 u133 u134 u135 u136 u137 u138 u139 u140 u141 u142 u143 u144 u145 u146 u147 u148 u149 u150 u151 u152 u153 u154 u155 u156 u157 u158 u159 u160 u161 u162 u163 u164 u165 u166 u167 u168 u169 u170 u171 u172 u173 u174 u175 u176 u177 u178 u179 u180 u181 u182 u183 u184 u185 u186 u187 u188 u189 u190 u191 u192 u193 u194 u195 u196 u197 u198 u199 u200 u201 u202 u203 u204 u205 u206 u207 u208 u209 u210 u211 u212 u213 u214 u215 u216 u217 u218 u219 u220 u221 u222 u223 u224 u225 u226 u227 u228 u229 u230 u231 u232 u233 u234 u235 u236:Value}:Code.wp prog (fO 11 Tryz.caseCode) (bodyPost prog Tryz.f8 λe w'=> ∃(hh nb:Nat) (x:ay),e= .returned (.agg x.cells.toArray)/\bm w' x/\gU hh nb x/\cE x=0/\(cP (λb=>V.heap.size<=b) x/\eE w' x/\cP (λb=>b<w'.heap.size) x)/\Ext V w') {tmps:= #[u0,u1,.pointer (some ⟨R,0,none⟩),.pointer (some ⟨T,0,none⟩),.pointer (some ⟨X,0,none⟩),u5,u6,.int .i64 (nb:Int),u8,u9,u10,u11,u12,u13,u14,u15,u16,u17,u18,u19,u20,u21,u22,u23,u24,u25,u26,u27,u28,u29,u30,u31,u32,u33,u34,u35,u36,u37,u38,u39,u40,u41,u42,u43,u44,u45,u46,u47,u48,u49,u50,u51,u52,u53,u54,u55,u56,u57,u58,u59,u60,u61,u62,u63,u64,u65,u66,u67,u68,u69,u70,u71,u72,u73,u74,u75,u76,u77,u78,u79,u80,u81,u82,u83,u84,u85,u86,u87,u88,u89,u90,u91,u92,u93,u94,u95,u96,u97,u98,u99,u100,u101,u102,u103,u104,u105,u106,u107,u108,u109,u110,u111,u112,u113,u114,u115,u116,u117,u118,u119,u120,u121,u122,u123,u124,u125,u126,u127,u128,u129,u130,u131,u132,u133,u134,u135,u136,u137,u138,u139,u140,u141,u142,u143,u144,u145,u146,u147,u148,u149,u150,u151,u152,u153,u154,u155,u156,u157,u158,u159,u160,u161,u162,u163,u164,u165,u166,u167,u168,u169,u170,u171,u172,u173,u174,u175,u176,u177,u178,u179,u180,u181,u182,u183,u184,u185,u186,u187,u188,u189,u190,u191,u192,u193,u194,u195,u196,u197,u198,u199,u200,u201,u202,u203,u204,u205,u206,u207,u208,u209,u210,u211,u212,u213,u214,u215,u216,u217,u218,u219,u220,u221,u222,u223,u224,u225,u226,u227,u228,u229,u230,u231,u232,u233,u234,u235,u236],defers:= []} WV:=by
 have gl:=ah (fY.of V V T a c l oq.o.1 (Ext.refl V) HL.o);have H9:=ah (λU (hx:Ext V U) (hU:bO U T a c l) (m:Int) (hm:0<m) (ri:m<1000000)=>lB V U T a c l hh m oq.o.1 hx HL.o hU (bA HH.o) hm ri);conv=>arg 2;dsimp only [Tryz.caseCode,Tryz.f8,fO,Option.getD]
 have HOU:=ah (λU (hx:Ext V U) (hU:bO U T a c l) (i:Nat) (hi:i<16) (Tt:0<ls.length)=>Jy V U T a c l i ls.length us.length oq.o.1 hx HL.o hU hi Tt (bA tC.o) (bA BK.o));go_wp2_with fail
 refine (gl.o WV 4 (HC.o.ext.but T) HC.o.tape aq aq).mono ?_;rintro e WW ⟨kv,rfl,MZ,hT,hx⟩;replace HC:=ah (HC.o.next hT hx);clear hT hx;obtain ⟨n3,hn3⟩: ∃n3:Nat,kv=(n3:Int):=⟨kv.toNat,ae⟩;subst hn3;have HN3:Hid (n3<=3):=by(show _<=_;omega)
 clear MZ
 go_upto_block 8 with fail
 go_cut [] (λwx=> ∃(os:List cJ) (oa:Option Addr) (oc:Nat),os.length<=3/\qJ os ls.length us.length/\(os= []\/cE (⟨hh,rb,rc,rs,ba,bc,bs,la,lc,ls,ua,uc,us,sa,sc,ss,ta,tc,ts,oa,oc,os⟩:ay)=0)/\CW V T R X a c l [i64 (hh:Int),.slice rb hh rc,.slice ba nb bc,.slice la ls.length lc,.slice ua us.length uc,.slice sa ss.length sc,.slice ta ts.length tc,.slice oa os.length oc] (⟨hh,rb,rc,rs,ba,bc,bs,la,lc,ls,ua,uc,us,sa,sc,ss,ta,tc,ts,oa,oc,os⟩:ay) wx)
 case first=>
  as_aux_lemma=>
   go_wp2
   go_loopw [13] (λv wr=> ∃(k:Nat) (os:List cJ) (oa:Option Addr) (oc:Nat),k+os.length<=3/\qJ os ls.length us.length/\(os= []->oa=none/\oc=0)/\(os= []\/cE (⟨hh,rb,rc,rs,ba,bc,bs,la,lc,ls,ua,uc,us,sa,sc,ss,ta,tc,ts,oa,oc,os⟩:ay)=0)/\CW V T R X a c l [i64 (hh:Int),.slice rb hh rc,.slice ba nb bc,.slice la ls.length lc,.slice ua us.length uc,.slice sa ss.length sc,.slice ta ts.length tc,.slice oa os.length oc] (⟨hh,rb,rc,rs,ba,bc,bs,la,lc,ls,ua,uc,us,sa,sc,ss,ta,tc,ts,oa,oc,os⟩:ay) wr/\v= .int .i64 (k:Int)) (λv _=>(intOf v).toNat)
   case atStart=>exact ⟨n3,[],none,0,HN3.o,λj h=>absurd h aG,λ_=>⟨rfl,rfl⟩,Or.inl rfl,HC.o,rfl⟩
   case round=>
    obtain ⟨k,os,oa,oc,hk,XK,hnil,gA,hC,rfl⟩:=hrel;clear HC;have HC:=ah hC;have Pe:=ah XK;have Mi:=ah hnil;have qG:=ah gA;have HK:=ah hk
    clear hC XK hnil gA hk;by_cases hk0:0<k
    .have b0:(0:Int)<(k:Int):=ae
     have c3:wr.cell? ⟨X,3,none⟩=some (.slice la ls.length lc):=(HC.o.cg.cell 3).trans rfl;have c4:wr.cell? ⟨X,4,none⟩=some (.slice ua us.length uc):=(HC.o.cg.cell 4).trans rfl;have c7:wr.cell? ⟨X,7,none⟩=some (.slice oa os.length oc):=(HC.o.cg.cell 7).trans rfl;have OZ:=ah hk0;by_cases hlt:0<ls.length
     .have b1:(0:Int)<(ls.length:Int):=ae
      have TT:Hid (os.length<3):=by(have:=HK.o;show _<_;omega)
      have AH:=ah hlt;go_wp2_with fail
      refine (HOU.o wr HC.o.ext HC.o.tape os.length (bA TT.o) AH.o).mono ?_;rintro e W1 ⟨x,rfl,hm,hi,hf,hr,hf2,hb2,hT,hx⟩;have hXw:=HC.o.cg.lt;have Ty:=HC.o.bl.outer;have hb1:=int_lt hi (by rcases hm.lines with q|q<;>omega);replace HC:=ah (HC.o.next hT hx);have HM:=ah hm;have eC:Hid (aS W1 x.la x.lc x.lines/\ct W1 3 x.ma x.mc (x.moves.map cj.cells)/\(∀p,x.la=some p->X<p.block/\p.block<W1.heap.size/\fX (⟨hh,rb,rc,rs,ba,bc,bs,la,lc,ls,ua,uc,us,sa,sc,ss,ta,tc,ts,oa,oc,os⟩:ay) p.block)/\(∀p,x.ma=some p->X<p.block/\p.block<W1.heap.size/\fX (⟨hh,rb,rc,rs,ba,bc,bs,la,lc,ls,ua,uc,us,sa,sc,ss,ta,tc,ts,oa,oc,os⟩:ay) p.block)):=⟨hi,hr,λp hp=>⟨bA (hf p hp),hb1 p hp,λq hq=>qj (Ty q hq) (hf p hp)⟩,λp hp=>⟨bA (hf2 p hp),hb2 p hp,λq hq=>qj (Ty q hq) (hf2 p hp)⟩⟩;clear hm hi hf hr hf2 hb2 hT hx hXw hb1 Ty c3 c4 c7;go_upto_region 35 with(refine bP rfl 75 _ _ rfl xP.cells x.cells rfl rfl ax rfl rfl ?_)
      obtain ⟨W2,hW2,x2,-,A2⟩:=aV W1 75 x.cells;rw [show W1.alloc (.cells x.cells.toArray 75)=W2 from hW2.symm];obtain ⟨BX,R7⟩: ∃BX,BX=W1.heap.size:=⟨_,rfl⟩;have hs2:W2.heap.size=BX+1:=by rw [hW2,R7];simp
      rw [<-R7]at A2;replace HC:=ah (HC.o.grow x2);have eR:Hid (aS W2 x.la x.lc x.lines/\ct W2 3 x.ma x.mc (x.moves.map cj.cells)/\(∀p,x.la=some p->X<p.block/\p.block<BX/\fX (⟨hh,rb,rc,rs,ba,bc,bs,la,lc,ls,ua,uc,us,sa,sc,ss,ta,tc,ts,oa,oc,os⟩:ay) p.block)/\(∀p,x.ma=some p->X<p.block/\p.block<BX/\fX (⟨hh,rb,rc,rs,ba,bc,bs,la,lc,ls,ua,uc,us,sa,sc,ss,ta,tc,ts,oa,oc,os⟩:ay) p.block)):=⟨eC.o.1.ext x2,eC.o.2.1.ext x2,by rw [R7];exact eC.o.2.2⟩;have ud:=ah A2;have zT:=ah hs2;try rw [<-R7]
      clear eC hW2 x2 A2 hs2 R7;have Jv: ∀j v,([i64 (hh:Int),.slice rb hh rc,.slice ba nb bc,.slice la ls.length lc,.slice ua us.length uc,.slice sa ss.length sc,.slice ta ts.length tc,.slice oa os.length oc])[j]?=some v->W2.cell? ((⟨X,0,none⟩:Addr).add j)=some v:=λj v hj=>by rw [fj,HC.o.cg.cell j];exact hj
      go_upto_region 36 with(first|(refine br rfl 32 _ rfl ⟨X,0,none⟩ rfl [i64 (hh:Int),.slice rb hh rc,.slice ba nb bc,.slice la ls.length lc,.slice ua us.length uc,.slice sa ss.length sc,.slice ta ts.length tc,.slice oa os.length oc] _ Jv rfl rfl ax ?_)|(refine bP rfl 32 _ _ rfl kG.cells [i64 (hh:Int),.slice rb hh rc,.slice ba nb bc,.slice la ls.length lc,.slice ua us.length uc,.slice sa ss.length sc,.slice ta ts.length tc,.slice oa os.length oc] rfl rfl ax rfl rfl ?_))
      obtain ⟨W3,hW3,x3,-,A3⟩:=aV W2 32 [i64 (hh:Int),.slice rb hh rc,.slice ba nb bc,.slice la ls.length lc,.slice ua us.length uc,.slice sa ss.length sc,.slice ta ts.length tc,.slice oa os.length oc];rw [show W2.alloc (.cells #[i64 (hh:Int),.slice rb hh rc,.slice ba nb bc,.slice la ls.length lc,.slice ua us.length uc,.slice sa ss.length sc,.slice ta ts.length tc,.slice oa os.length oc] 32)=W3 from hW3.symm];obtain ⟨KD,ZC⟩: ∃KD,KD=W2.heap.size:=⟨_,rfl⟩;obtain ⟨G,hG⟩: ∃G,G=W3.heap.size:=⟨_,rfl⟩;have hs3:G=KD+1:=by rw [hG,hW3,ZC];simp
      have hs2:=zT.o;rw [<-ZC]at A3;try rw [<-ZC]
      have ZE:=ah A3;have SQ:Hid (cP (λb=>b≠KD) (⟨hh,rb,rc,rs,ba,bc,bs,la,lc,ls,ua,uc,us,sa,sc,ss,ta,tc,ts,oa,oc,os⟩:ay)):=HC.o.bl.mono λb hb=>ae;have HOLD:Hid (cP (λb=>b<G) (⟨hh,rb,rc,rs,ba,bc,bs,la,lc,ls,ua,uc,us,sa,sc,ss,ta,tc,ts,oa,oc,os⟩:ay)):=HC.o.bl.mono λb hb=>ae;have LL:=HC.o.cg.lt;have HXG:Hid (X<G):=by(show _<_;omega)
      have HKX:Hid (X<KD/\KD<G):=by(show _/\_;omega)
      have XL:Hid (G=W3.heap.size):=hG;have TM:Hid (W3.heap.size<=G):=Nat.le_of_eq hG.symm;have uI:Hid (aS W3 x.la x.lc x.lines/\ct W3 3 x.ma x.mc (x.moves.map cj.cells)/\(∀p,x.la=some p->X<p.block/\p.block<G/\fX (⟨hh,rb,rc,rs,ba,bc,bs,la,lc,ls,ua,uc,us,sa,sc,ss,ta,tc,ts,oa,oc,os⟩:ay) p.block)/\(∀p,x.ma=some p->X<p.block/\p.block<G/\fX (⟨hh,rb,rc,rs,ba,bc,bs,la,lc,ls,ua,uc,us,sa,sc,ss,ta,tc,ts,oa,oc,os⟩:ay) p.block)):=⟨eR.o.1.ext x3,eR.o.2.1.ext x3,λp hp=>by have h7:=eR.o.2.2.1 p hp;exact ⟨h7.1,ae,h7.2.2⟩,λp hp=>by have h7:=eR.o.2.2.2 p hp;exact ⟨h7.1,ae,h7.2.2⟩⟩
      have Qn:Hid (∀y∈os++ [x],eY (λb=>b≠KD) y.la/\eY (λb=>b≠KD) y.ma):=λy hy=>by
       rcases List.mem_append.1 hy with q|q
       .exact SQ.o.o y q
       .rw [List.mem_singleton]at q;subst q
        exact ⟨λp hp=>bA (eR.o.2.2.1 p hp),λp hp=>bA (eR.o.2.2.2 p hp)⟩
      have XM:Hid (∀y∈os++ [x],y.name.size<=maxLen/\ ∀m∈y.moves,gO [m.unit,m.up,m.down]):=λy hy=>by
       rcases List.mem_append.1 hy with q|q
       .have h5:=HC.o.case'.o y q
        exact ⟨h5.1,h5.2.2.2⟩
       .rw [List.mem_singleton]at q;subst q
        exact HM.o.wE (bA TT.o) (bA BK.o)
      have SR:Hid (oa=none->os.length=0/\oc=0):=λe=>by
       have h5:=HC.o.case'.outs;by_cases q:os= []
       .exact ⟨by rw [q];rfl,(Mi.o q).2⟩
       .obtain ⟨b3,o3,h6,-⟩:=h5.cell 0 (by rw [List.length_map];exact List.length_pos_iff.2 q)
        rw [e]at h6;cases h6
      have kS:Hid (W3.cell? ⟨X,7,none⟩=some (.slice oa os.length oc)/\W3.cell? ⟨BX,0,none⟩=some (.string x.name)/\W3.cell? ⟨BX,1,none⟩=some (.slice x.la x.lines.length x.lc)/\W3.cell? ⟨BX,2,none⟩=some (.bool x.cd)/\W3.cell? ⟨BX,3,none⟩=some (.slice x.ma x.moves.length x.mc)):=
       ⟨aC x3 ((HC.o.cg.cell 7).trans rfl),aC x3 ((ud.o.cell 0).trans rfl),aC x3 ((ud.o.cell 1).trans rfl),aC x3 ((ud.o.cell 2).trans rfl),aC x3 ((ud.o.cell 3).trans rfl)⟩
      replace HC:=ah (HC.o.grow x3);clear hW3 x3 A3 hs3 hs2 ZC hG LL Jv eR ud zT;simp only [Act.put];go_cut [] (λwx=> ∃(os2:List cJ) (g2:Option Addr) (k2:Nat),os2=os++ [x]/\CW V T R X a c l [i64 (hh:Int),.slice rb hh rc,.slice ba nb bc,.slice la ls.length lc,.slice ua us.length uc,.slice sa ss.length sc,.slice ta ts.length tc,.slice oa os.length oc] (⟨hh,rb,rc,rs,ba,bc,bs,la,lc,ls,ua,uc,us,sa,sc,ss,ta,tc,ts,oa,oc,os⟩:ay) wx/\bm wx (⟨hh,rb,rc,rs,ba,bc,bs,la,lc,ls,ua,uc,us,sa,sc,ss,ta,tc,ts,g2,k2,os2⟩:ay)/\(cP (λb=>X<b/\b<wx.heap.size) (⟨hh,rb,rc,rs,ba,bc,bs,la,lc,ls,ua,uc,us,sa,sc,ss,ta,tc,ts,g2,k2,os2⟩:ay)/\eE wx (⟨hh,rb,rc,rs,ba,bc,bs,la,lc,ls,ua,uc,us,sa,sc,ss,ta,tc,ts,g2,k2,os2⟩:ay))/\aT wx KD 32 [i64 (hh:Int),.slice rb hh rc,.slice ba nb bc,.slice la ls.length lc,.slice ua us.length uc,.slice sa ss.length sc,.slice ta ts.length tc,.slice g2 os2.length k2])
      case first=>
       as_aux_lemma=>
        refine aO (λw'=>True) (λw'=>w'.cell? ⟨X,7,none⟩=some (.slice oa os.length oc)/\w'.cell? ⟨BX,0,none⟩=some (.string x.name)/\w'.cell? ⟨BX,1,none⟩=some (.slice x.la x.lines.length x.lc)/\w'.cell? ⟨BX,2,none⟩=some (.bool x.cd)/\w'.cell? ⟨BX,3,none⟩=some (.slice x.ma x.moves.length x.mc)) (λi=>i==8) ax (trivial) (⟨aC ((Ext.refl W3).drew) kS.o.1,aC ((Ext.refl W3).drew) kS.o.2.1,aC ((Ext.refl W3).drew) kS.o.2.2.1,aC ((Ext.refl W3).drew) kS.o.2.2.2.1,aC ((Ext.refl W3).drew) kS.o.2.2.2.2⟩) (λaD ai=> ?_);refine aJ 1 aD ai ?_;refine GL 2 aD ai ?_;refine GL 4 aD ai ?_ (v:= .agg #[.string x.name,.slice x.la x.lines.length x.lc,.bool x.cd,.slice x.ma x.moves.length x.mc]);have HX:=ah ((Ext.refl W3).drew);replace HC:=ah (HC.o.grow HX.o);replace uI:Hid (aS W3.drew x.la x.lc x.lines/\ct W3.drew 3 x.ma x.mc (x.moves.map cj.cells)/\(∀p,x.la=some p->X<p.block/\p.block<G/\fX (⟨hh,rb,rc,rs,ba,bc,bs,la,lc,ls,ua,uc,us,sa,sc,ss,ta,tc,ts,oa,oc,os⟩:ay) p.block)/\(∀p,x.ma=some p->X<p.block/\p.block<G/\fX (⟨hh,rb,rc,rs,ba,bc,bs,la,lc,ls,ua,uc,us,sa,sc,ss,ta,tc,ts,oa,oc,os⟩:ay) p.block)):=⟨uI.o.1.ext HX.o,uI.o.2.1.ext HX.o,uI.o.2.2⟩;have Qk:Hid (G<=W3.drew.heap.size):=Nat.le_trans (Nat.le_of_eq XL.o) HX.o.size;generalize W3.drew=Q0 at*;apply once
        case h=>
            intro key;apply once
            case h=>
             intro XN;refine bH (rs:= [0,5]) ax aG ?_;refine aQ.cons rfl (λKc hK=> ?_) (aQ.cons rfl (λKc hK=> ?_) aQ.nil)
             .go_simp
              obtain ⟨Q1,hW2⟩: ∃W2,W2=Q0.alloc (.cells #[] 75):=⟨_,rfl⟩;have x2:Ext Q0 Q1:=by rw [hW2];exact (Ext.refl Q0).alloc _
              obtain ⟨G0,Iz⟩: ∃G0,G0=Q0.heap.size:=⟨_,rfl⟩
              have HP:Hid (iQ V T R X G a c l [i64 (hh:Int),.slice rb hh rc,.slice ba nb bc,.slice la ls.length lc,.slice ua us.length uc,.slice sa ss.length sc,.slice ta ts.length tc,.slice oa os.length oc] (⟨hh,rb,rc,rs,ba,bc,bs,la,lc,ls,ua,uc,us,sa,sc,ss,ta,tc,ts,oa,oc,os⟩:ay) 75 4 (some ⟨G0,0,none⟩) 0 ([]) (Er (os++ [x])) (Es (os++ [x])) Q1):=by
                rw [hW2,Iz];exact Aq HC.o Qk.o HOLD.o HXG.o uI.o.1 uI.o.2.1 uI.o.2.2.1 uI.o.2.2.2
              rw [<-hW2,<-Iz];replace HX:=ah (HX.o.trans x2);clear Iz hW2 x2;refine hK.o _ _ (trivial) (⟨aC (HX.o) kS.o.1,aC (HX.o) kS.o.2.1,aC (HX.o) kS.o.2.2.1,aC (HX.o) kS.o.2.2.2.1,aC (HX.o) kS.o.2.2.2.2⟩) (λaD ai=> ?_);clear hK Kc;try simp only [j8,j9,j_,List.setIfInBounds_toArray,ke,kf,Act.put]
              refine bH (rs:= [3,5]) ax aG ?_;refine aQ.cons rfl (λKc hK=> ?_) (aQ.cons rfl (λKc hK=> ?_) aQ.nil)
              .rw [if_pos eN]
               refine px _ (.tmp 220) (.tmp 222) 30 rfl G 75 (.agg xP.cells.toArray) 4 72 underlying30 Tryz.info_outage rfl aq (.slice (some ⟨G0,0,none⟩) 0 0) 0 [] rfl HP.o.own.own oa os.length oc (os.map cJ.cells).flatten rfl ?c1 ?c2 ?c3 ?c4 ?c5 aq HP.o.size ?_
               case c1=>rw [ki (m:=4) _ (λr hr=>by obtain ⟨o,-,rfl⟩:=List.mem_map.1 hr;rfl),List.length_map]
               case c2=>exact HP.o.cw.case'.outs.flat aq (λr hr=>by obtain ⟨o,-,rfl⟩:=List.mem_map.1 hr;rfl)
               case c3=>
                intro u hu;obtain ⟨r,hr,hu⟩:=List.mem_flatten.1 hu;obtain ⟨o,-,rfl⟩:=List.mem_map.1 hr;exact List.all_eq_true.1 (show o.cells.all (·.oneCell')=true from rfl) u hu
               case c4=>exact λe=>SR.o e
               case c5=>have:=TT.o;omega
               intro v1 Q2 ho he hb hz hv;replace HX:=ah (he.o W3 HX.o TM.o);obtain ⟨ga,gc,rfl,vJ⟩:=HP.o.SP (rows':=os.map cJ.cells) ⟨by have h5:=ho.o;rw [Nat.zero_add,List.nil_append]at h5;rw [List.length_map];exact h5,λr hr=>by obtain ⟨o,-,rfl⟩:=List.mem_map.1 hr;rfl⟩ he.o hb.o hz.o hv.o;rw [List.length_map];replace HP:=ah vJ;clear vJ ho he hb hz hv;refine hK.o _ _ (trivial) (⟨aC (HX.o) kS.o.1,aC (HX.o) kS.o.2.1,aC (HX.o) kS.o.2.2.1,aC (HX.o) kS.o.2.2.2.1,aC (HX.o) kS.o.2.2.2.2⟩) (λaD ai=> ?_);clear hK Kc;try simp only [j8,j9,j_,List.setIfInBounds_toArray,ke,kf,Act.put]
               refine eI 5 rfl (λKc hK=> ?_);rw [if_pos eN];refine dM 30 (.tmp 224) rfl 75 (.agg xP.cells.toArray) 4 72 underlying30 Tryz.info_outage aq aq x.cells rfl rfl ?_;intro Q3 tA x2;obtain ⟨BS,Qo⟩: ∃BS,BS=Q2.heap.size:=⟨_,rfl⟩;rw [<-Qo]at tA⊢;have HAS:=ah tA;replace HP:=ah (HP.o.grow x2);replace HX:=ah (HX.o.trans x2);clear Qo tA x2;refine hK.o _ _ (trivial) (⟨aC (HX.o) kS.o.1,aC (HX.o) kS.o.2.1,aC (HX.o) kS.o.2.2.1,aC (HX.o) kS.o.2.2.2.1,aC (HX.o) kS.o.2.2.2.2⟩) (λaD ai=> ?_);clear hK Kc;try simp only [j8,j9,j_,List.setIfInBounds_toArray,ke,kf,Act.put]
               clear aD ai
               revert HX
               revert HP
               revert HAS
               revert BS
               revert gc
               revert ga
               revert G0
               revert Q3
               exact key.o
              .rw [if_pos eN]
               refine dM 30 (.tmp 224) rfl 75 (.agg xP.cells.toArray) 4 72 underlying30 Tryz.info_outage aq aq x.cells rfl rfl ?_;intro Q2 tA x2;obtain ⟨BS,Qo⟩: ∃BS,BS=Q1.heap.size:=⟨_,rfl⟩;rw [<-Qo]at tA⊢;have HAS:=ah tA;have qO:Hid (BS≠G0):=by(have:=(HP.o.kq _ rfl).2;simp only at this;show _≠_;omega)
               replace HP:=ah (HP.o.grow x2);replace HX:=ah (HX.o.trans x2);clear Qo tA x2;refine hK.o _ _ (trivial) (⟨aC (HX.o) kS.o.1,aC (HX.o) kS.o.2.1,aC (HX.o) kS.o.2.2.1,aC (HX.o) kS.o.2.2.2.1,aC (HX.o) kS.o.2.2.2.2⟩) (λaD ai=> ?_);clear hK Kc;try simp only [j8,j9,j_,List.setIfInBounds_toArray,ke,kf,Act.put]
               clear aD ai
               revert HX
               revert HP
               revert HAS
               revert qO
               revert BS
               revert G0
               revert Q2
               exact XN.o
             .rw [if_pos eN]
              refine dM 30 (.tmp 224) rfl 75 (.agg xP.cells.toArray) 4 72 underlying30 Tryz.info_outage aq aq x.cells rfl rfl ?_;intro Q1 tA x2;obtain ⟨BS,Qo⟩: ∃BS,BS=Q0.heap.size:=⟨_,rfl⟩;rw [<-Qo]at tA⊢;have HAS:=ah tA;replace HC:=ah (HC.o.grow x2);replace uI:Hid (aS Q1 x.la x.lc x.lines/\ct Q1 3 x.ma x.mc (x.moves.map cj.cells)/\(∀p,x.la=some p->X<p.block/\p.block<G/\fX (⟨hh,rb,rc,rs,ba,bc,bs,la,lc,ls,ua,uc,us,sa,sc,ss,ta,tc,ts,oa,oc,os⟩:ay) p.block)/\(∀p,x.ma=some p->X<p.block/\p.block<G/\fX (⟨hh,rb,rc,rs,ba,bc,bs,la,lc,ls,ua,uc,us,sa,sc,ss,ta,tc,ts,oa,oc,os⟩:ay) p.block)):=⟨uI.o.1.ext x2,uI.o.2.1.ext x2,uI.o.2.2⟩;replace Qk:Hid (G<=Q1.heap.size):=Nat.le_trans Qk.o x2.size;replace HX:=ah (HX.o.trans x2);clear Qo tA x2;refine hK.o _ _ (trivial) (⟨aC (HX.o) kS.o.1,aC (HX.o) kS.o.2.1,aC (HX.o) kS.o.2.2.1,aC (HX.o) kS.o.2.2.2.1,aC (HX.o) kS.o.2.2.2.2⟩) (λaD ai=> ?_);clear hK Kc;try simp only [j8,j9,j_,List.setIfInBounds_toArray,ke,kf,Act.put]
              refine eI 0 rfl (λKc hK=> ?_);go_simp;obtain ⟨Q2,hW2⟩: ∃W2,W2=Q1.alloc (.cells #[] 75):=⟨_,rfl⟩;have x2:Ext Q1 Q2:=by rw [hW2];exact (Ext.refl Q1).alloc _
              obtain ⟨G0,Iz⟩: ∃G0,G0=Q1.heap.size:=⟨_,rfl⟩
              have HP:Hid (iQ V T R X G a c l [i64 (hh:Int),.slice rb hh rc,.slice ba nb bc,.slice la ls.length lc,.slice ua us.length uc,.slice sa ss.length sc,.slice ta ts.length tc,.slice oa os.length oc] (⟨hh,rb,rc,rs,ba,bc,bs,la,lc,ls,ua,uc,us,sa,sc,ss,ta,tc,ts,oa,oc,os⟩:ay) 75 4 (some ⟨G0,0,none⟩) 0 ([]) (Er (os++ [x])) (Es (os++ [x])) Q2):=by
                rw [hW2,Iz];exact Aq HC.o Qk.o HOLD.o HXG.o uI.o.1 uI.o.2.1 uI.o.2.2.1 uI.o.2.2.2
              rw [<-hW2,<-Iz];replace HX:=ah (HX.o.trans x2);have qO:Hid (BS≠G0):=by(have:=HAS.o.lt;show _≠_;omega)
              replace HAS:=ah (HAS.o.ext x2);clear Iz hW2 x2;refine hK.o _ _ (trivial) (⟨aC (HX.o) kS.o.1,aC (HX.o) kS.o.2.1,aC (HX.o) kS.o.2.2.1,aC (HX.o) kS.o.2.2.2.1,aC (HX.o) kS.o.2.2.2.2⟩) (λaD ai=> ?_);clear hK Kc;try simp only [j8,j9,j_,List.setIfInBounds_toArray,ke,kf,Act.put]
              clear aD ai
              revert HX
              revert HP
              revert HAS
              revert qO
              revert BS
              revert G0
              revert Q2
              exact XN.o
            case t=>
             intro Q2 G0 BS qO HAS HP HX;refine eI 3 rfl (λKc hK=> ?_);rw [if_pos eN];refine px _ (.tmp 220) (.tmp 222) 30 rfl G 75 (.agg xP.cells.toArray) 4 72 underlying30 Tryz.info_outage rfl aq (.slice (some ⟨G0,0,none⟩) 0 0) 0 [] rfl HP.o.own.own oa os.length oc (os.map cJ.cells).flatten rfl ?c1 ?c2 ?c3 ?c4 ?c5 aq HP.o.size ?_
             case c1=>rw [ki (m:=4) _ (λr hr=>by obtain ⟨o,-,rfl⟩:=List.mem_map.1 hr;rfl),List.length_map]
             case c2=>exact HP.o.cw.case'.outs.flat aq (λr hr=>by obtain ⟨o,-,rfl⟩:=List.mem_map.1 hr;rfl)
             case c3=>
                intro u hu;obtain ⟨r,hr,hu⟩:=List.mem_flatten.1 hu;obtain ⟨o,-,rfl⟩:=List.mem_map.1 hr;exact List.all_eq_true.1 (show o.cells.all (·.oneCell')=true from rfl) u hu
             case c4=>exact λe=>SR.o e
             case c5=>have:=TT.o;omega
             intro v1 Q3 ho he hb hz hv;replace HX:=ah (he.o W3 HX.o TM.o);obtain ⟨ga,gc,rfl,vJ⟩:=HP.o.SP (rows':=os.map cJ.cells) ⟨by have h5:=ho.o;rw [Nat.zero_add,List.nil_append]at h5;rw [List.length_map];exact h5,λr hr=>by obtain ⟨o,-,rfl⟩:=List.mem_map.1 hr;rfl⟩ he.o hb.o hz.o hv.o;rw [List.length_map];replace HAS:Hid (aT Q3 BS 75 x.cells):=(hb.o BS HAS.o.lt (by have:=qO.o;intro e;cases e;exact this rfl)).trans HAS.o;replace HP:=ah vJ;clear vJ ho he hb hz hv;refine hK.o _ _ (trivial) (⟨aC (HX.o) kS.o.1,aC (HX.o) kS.o.2.1,aC (HX.o) kS.o.2.2.1,aC (HX.o) kS.o.2.2.2.1,aC (HX.o) kS.o.2.2.2.2⟩) (λaD ai=> ?_);clear hK Kc;try simp only [j8,j9,j_,List.setIfInBounds_toArray,ke,kf,Act.put]
             clear aD ai qO
             revert HX
             revert HP
             revert HAS
             revert BS
             revert gc
             revert ga
             revert G0
             revert Q3
             exact key.o
        case t=>
            intro Q3 G0 ga gc BS HAS HP HX;refine eI 6 rfl (λKc hK=> ?_);rw [if_pos eN];refine gD _ (.tmp 223) (.tmp 225) 30 rfl G 75 (.agg xP.cells.toArray) 4 72 underlying30 Tryz.info_outage rfl aq (.slice ga os.length gc) os.length (os.map cJ.cells).flatten rfl ?c1 BS x.cells rfl rfl HAS.o rfl ?c5 aq HP.o.size ?_
            case c1=>
             have h5:=HP.o.own.own;rw [List.length_map]at h5;exact h5
            case c5=>have:=TT.o;omega
            intro v1 Q4 ho he hb hz hv;replace HX:=ah (he.o W3 HX.o TM.o);have hl0:(os.map cJ.cells).length=os.length:=List.length_map _;have ri:(os++ [x]).map cJ.cells=os.map cJ.cells++ [x.cells]:=aG;obtain ⟨g2,k2,rfl,vJ⟩:=HP.o.SP (rows':=(os++ [x]).map cJ.cells) (by rw [ri];exact HP.o.own.snoc (w':=Q4) (r:=x.cells) rfl (by rw [hl0];exact ho.o)) he.o (by rw [hl0];exact hb.o) hz.o (by rw [hl0];exact hv.o);rw [List.length_map];obtain ⟨os2,SS⟩: ∃os2,os2=os++ [x]:=⟨_,rfl⟩;rw [<-SS]at vJ⊢;have Cp:=ah SS;clear HP;have HP:=ah vJ;clear vJ ho he hb hz hv hl0 ri SS;refine hK.o _ _ (trivial) (⟨aC (HX.o) kS.o.1,aC (HX.o) kS.o.2.1,aC (HX.o) kS.o.2.2.1,aC (HX.o) kS.o.2.2.2.1,aC (HX.o) kS.o.2.2.2.2⟩) (λaD ai=> ?_);clear hK Kc;try simp only [j8,j9,j_,List.setIfInBounds_toArray,ke,kf,Act.put]
            refine aJ 7 aD ai ?_;refine bH (rs:= [8]) ax aG ?_;refine aQ.late rfl ax (λKc hK=> ?_) aQ.nil;have c7d:Q4.cell? ⟨KD,7,none⟩=some (.slice oa os.length oc):=((ZE.o.ext HX.o).cell 7).trans rfl;have f7d:=(ZE.o.ext HX.o).frozen 7;have hD8:aT (Q4.setCell ⟨KD,7,none⟩ (.slice g2 os2.length k2)) KD 32 [i64 (hh:Int),.slice rb hh rc,.slice ba nb bc,.slice la ls.length lc,.slice ua us.length uc,.slice sa ss.length sc,.slice ta ts.length tc,.slice g2 os2.length k2]:=(ZE.o.ext HX.o).set 7 _;have hO:=MV (K:=KD) (j:=7) (v:= .slice g2 os2.length k2) HP.o (by rw [Cp.o];exact XM.o) HKX.o.1 HKX.o.2 SQ.o (by rw [Cp.o];exact Qn.o);go_simp;refine hK.o _ _ (trivial) (λaD=> ?_);clear hK Kc c7d f7d;try simp only [j8,j9,j_,List.setIfInBounds_toArray,ke,kf,Act.put]
            refine aI ax ?_ _;clear aD;go_wp2
            go_meet
            exact ⟨os2,g2,k2,Cp.o,hO.1,hO.2.1,hO.2.2,hD8⟩
      case rest=>
       obtain ⟨os2,g2,k2,SH,hC,ZF,hcb,hD⟩:=hcut;generalize wc=W6 at*;clear HC uI kS Qn XM SR TM XL ZE SQ HOLD HXG;obtain ⟨cn,Dd⟩: ∃cn:ay,cn=(⟨hh,rb,rc,rs,ba,bc,bs,la,lc,ls,ua,uc,us,sa,sc,ss,ta,tc,ts,g2,k2,os2⟩:ay):=⟨_,rfl⟩;have hCX: [i64 (hh:Int),.slice rb hh rc,.slice ba nb bc,.slice la ls.length lc,.slice ua us.length uc,.slice sa ss.length sc,.slice ta ts.length tc,.slice g2 os2.length k2]=cn.cells:=by rw [Dd];simp only [ay.cells];rw [Cr.o.1,lK.o]
       have hos:os2.length=os.length+1:=by rw [SH,List.length_append];rfl
       have oB:Hid (oX cn):=by
        have h1:=jC.o;have h2:=tC.o;have h3:=BK.o;have h4:=CZ.o.1;have h5:=XJ.o.1;have h6:=TT.o;have h7:=lK.o
        rw [Dd];refine ⟨by simp only;omega,by simp only;omega,by simp only;omega,by simp only;omega,by simp only;omega,by simp only;omega,λo ho=> ?_⟩;replace ho:o∈os++ [x]:=by rw [<-SH];exact ho
        rcases List.mem_append.1 ho with q|q
        .obtain ⟨j,hj,rfl⟩:=List.getElem_of_mem q
         have:=(Pe.o j hj).moves.len;omega
        .rw [List.mem_singleton]at q;subst q
         have:=HM.o.moves.len;omega
       have acO:Hid (qJ os2 ls.length us.length):=by rw [SH];exact Pe.o.snoc HM.o
       have HC:=ah hC;have eT:Hid (bm W6 cn):=by rw [Dd];exact ZF
       have TU:Hid (cP (λb=>X<b/\b<W6.heap.size) cn/\eE W6 cn):=by rw [Dd];exact hcb
       have HD:Hid (aT W6 KD 32 cn.cells):=by rw [<-hCX];exact hD
       have JC:Hid (cn=(⟨hh,rb,rc,rs,ba,bc,bs,la,lc,ls,ua,uc,us,sa,sc,ss,ta,tc,ts,g2,k2,os2⟩:ay)/\ [i64 (hh:Int),.slice rb hh rc,.slice ba nb bc,.slice la ls.length lc,.slice ua us.length uc,.slice sa ss.length sc,.slice ta ts.length tc,.slice g2 os2.length k2]=cn.cells/\os2.length=os.length+1):=⟨Dd,hCX,hos⟩;clear hC ZF hcb hD Dd hCX hos SH;have XO: ∀j v,([i64 cn.hours,.slice cn.ra cn.aX.length cn.rc,.slice cn.ba cn.aF.length cn.bc,.slice cn.la cn.lines.length cn.lc,.slice cn.ua cn.aA.length cn.uc,.slice cn.sa cn.stores.length cn.sc,.slice cn.ta cn.bh.length cn.tc,.slice cn.oa cn.outs.length cn.oc])[j]?=some v->W6.cell? ((⟨KD,0,none⟩:Addr).add j)=some v:=λj v hj=>by rw [fj,HD.o.cell j];exact hj
       go_wp2_with (refine br rfl 32 _ rfl ⟨KD,0,none⟩ rfl [i64 cn.hours,.slice cn.ra cn.aX.length cn.rc,.slice cn.ba cn.aF.length cn.bc,.slice cn.la cn.lines.length cn.lc,.slice cn.ua cn.aA.length cn.uc,.slice cn.sa cn.stores.length cn.sc,.slice cn.ta cn.bh.length cn.tc,.slice cn.oa cn.outs.length cn.oc] _ XO rfl rfl ax ?_)
       refine (Ai W6 cn eT.o oB.o).mono ?_;rintro e W7 ⟨k1,i1,f1,rfl,x7⟩;obtain ⟨ce,hce⟩: ∃ce,ce=cE cn:=⟨_,rfl⟩;rw [<-hce];have Mp:=ah hce;clear hce XO;go_upto_region 38 with fail
       obtain ⟨W8,Km,x8,-,-⟩:=aV W7 78 [i64 k1,i64 i1,i64 f1];rw [show W7.alloc (.cells #[i64 k1,i64 i1,i64 f1] 78)=W8 from Km.symm];have TV:=x7.trans x8;replace HC:=ah (HC.o.grow TV);replace eT:=ah (eT.o.ext TV);replace HD:=ah (HD.o.ext TV)
       replace TU:Hid (cP (λb=>X<b/\b<W8.heap.size) cn/\eE W8 cn):=⟨TU.o.1.mono λb hb=>bA TV.size,TU.o.2.ext TV⟩;clear Km x8 x7 TV;by_cases h0:ce=0
       .have t1:(ce==0)=true:=by simpa using h0
        have HZ:Hid (cE cn=0):=by rw [<-Mp.o];exact h0
        clear h0;have XO: ∀j v,([i64 cn.hours,.slice cn.ra cn.aX.length cn.rc,.slice cn.ba cn.aF.length cn.bc,.slice cn.la cn.lines.length cn.lc,.slice cn.ua cn.aA.length cn.uc,.slice cn.sa cn.stores.length cn.sc,.slice cn.ta cn.bh.length cn.tc,.slice cn.oa cn.outs.length cn.oc])[j]?=some v->W8.cell? ((⟨KD,0,none⟩:Addr).add j)=some v:=λj v hj=>by rw [fj,HD.o.cell j];exact hj
        go_upto_region 33 with(first|(refine br rfl 32 _ rfl ⟨KD,0,none⟩ rfl [i64 cn.hours,.slice cn.ra cn.aX.length cn.rc,.slice cn.ba cn.aF.length cn.bc,.slice cn.la cn.lines.length cn.lc,.slice cn.ua cn.aA.length cn.uc,.slice cn.sa cn.stores.length cn.sc,.slice cn.ta cn.bh.length cn.tc,.slice cn.oa cn.outs.length cn.oc] _ XO rfl rfl ax ?_)|(
            refine cX rfl 32 _ _ rfl X [i64 (hh:Int),.slice rb hh rc,.slice ba nb bc,.slice la ls.length lc,.slice ua us.length uc,.slice sa ss.length sc,.slice ta ts.length tc,.slice oa os.length oc] [i64 cn.hours,.slice cn.ra cn.aX.length cn.rc,.slice cn.ba cn.aF.length cn.bc,.slice cn.la cn.lines.length cn.lc,.slice cn.ua cn.aA.length cn.uc,.slice cn.sa cn.stores.length cn.sc,.slice cn.ta cn.bh.length cn.tc,.slice cn.oa cn.outs.length cn.oc] HC.o.cg rfl rfl ax rfl rfl ?_;intro W9 Sa oA
            have HC9:Hid (CW V T R X a c l [i64 (hh:Int),.slice rb hh rc,.slice ba nb bc,.slice la ls.length lc,.slice ua us.length uc,.slice sa ss.length sc,.slice ta ts.length tc,.slice g2 os2.length k2] (⟨hh,rb,rc,rs,ba,bc,bs,la,lc,ls,ua,uc,us,sa,sc,ss,ta,tc,ts,g2,k2,os2⟩:ay) W9):=by
             rw [JC.o.2.1,<-JC.o.1];exact HC.o.reset Sa oA eT.o TU.o.1 TU.o.2
            clear Sa oA HC eT TU HD XO))
        clear t1;have q3:IntKind.i64.wrap ((k:Int)-1)=((k-1:Nat):Int):=by rw [IntKind.wrap_i64];have:=HK.o;omega
        have q4:wrap64 ((k:Int)-1)=((k-1:Nat):Int):=by unfold wrap64;have:=HK.o;omega
        go_wp2
        exact ⟨⟨k-1,os2,g2,k2,by(have:=JC.o.2.2;have:=HK.o;have:=OZ.o;omega),acO.o,λe=>absurd (congrArg List.length e) (by rw [JC.o.2.2];simp),Or.inr (by rw [<-JC.o.1];exact HZ.o),HC9.o,by first|rfl|exact congrArg (Value.int IntKind.i64) q4⟩,by first|exact Nat.lt_of_le_of_lt (Nat.le_of_eq (congrArg Int.toNat q4)) (by show(((k-1:Nat):Int)).toNat<((k:Int)).toNat;omega)|(show(((k-1:Nat):Int)).toNat<((k:Int)).toNat;omega)⟩
       .have t1:(ce==0)=false:=by simpa using h0
        clear h0;go_upto_region 33 with fail
        clear t1;have q3:IntKind.i64.wrap ((k:Int)-1)=((k-1:Nat):Int):=by rw [IntKind.wrap_i64];have:=HK.o;omega
        have q4:wrap64 ((k:Int)-1)=((k-1:Nat):Int):=by unfold wrap64;have:=HK.o;omega
        go_wp2
        exact ⟨⟨k-1,os,oa,oc,by(have:=HK.o;omega),Pe.o,Mi.o,qG.o,HC.o,by first|rfl|exact congrArg (Value.int IntKind.i64) q4⟩,by first|exact Nat.lt_of_le_of_lt (Nat.le_of_eq (congrArg Int.toNat q4)) (by show(((k-1:Nat):Int)).toNat<((k:Int)).toNat;omega)|(show(((k-1:Nat):Int)).toNat<((k:Int)).toNat;omega)⟩
     .have b1:decide ((0:Int)<(ls.length:Int))=false:=by rw [decide_eq_false_iff_not];omega
      have hl0:ls.length=0:=ae;go_wp2
      go_meet
      exact ⟨os,oa,oc,by(have:=HK.o;omega),Pe.o,qG.o,HC.o⟩
    .obtain rfl:k=0:=ae
     go_wp2
     go_meet
     exact ⟨os,oa,oc,by(have:=HK.o;omega),Pe.o,qG.o,HC.o⟩
 case rest=>
  obtain ⟨os,oa,oc,hol,XK,gA,hC⟩:=hcut;generalize wc=WE at*;clear HC;have HC:=ah hC;have Pe:=ah (And.intro hol (And.intro XK gA))
  clear hC hol XK gA
  as_aux_lemma=>
   have HQ:Hid (∃x:ay,bm WE x/\gU hh nb x/\cE x=0/\cP (λb=>X<b/\b<WE.heap.size) x/\eE WE x/\ [i64 (hh:Int),.slice rb hh rc,.slice ba nb bc,.slice la ls.length lc,.slice ua us.length uc,.slice sa ss.length sc,.slice ta ts.length tc,.slice oa os.length oc]=x.cells):=by
    have SG:gU hh nb (⟨hh,rb,rc,rs,ba,bc,bs,la,lc,ls,ua,uc,us,sa,sc,ss,ta,tc,ts,oa,oc,os⟩:ay):=⟨rfl,HH.o,Cr.o,⟨lK.o,jC.o⟩,Et.o,tC.o,uy.o,BK.o,MX.o,CZ.o.1,CZ.o.2,XJ.o.1,XJ.o.2,Pe.o.1,Pe.o.2.1⟩;refine ⟨(⟨hh,rb,rc,rs,ba,bc,bs,la,lc,ls,ua,uc,us,sa,sc,ss,ta,tc,ts,oa,oc,os⟩:ay),HC.o.case',SG,?_,HC.o.bl,HC.o.sep,?_⟩
    .rcases Pe.o.2.2 with q|q
     .exact SG.accept q
     .exact q
    .simp only [ay.cells]
     rw [Cr.o.1,lK.o]
   have Jv: ∀j v,([i64 (hh:Int),.slice rb hh rc,.slice ba nb bc,.slice la ls.length lc,.slice ua us.length uc,.slice sa ss.length sc,.slice ta ts.length tc,.slice oa os.length oc])[j]?=some v->WE.cell? ((⟨X,0,none⟩:Addr).add j)=some v:=λj v hj=>by rw [fj,HC.o.cg.cell j];exact hj
   go_wp2_with (first|(refine br rfl 32 _ rfl ⟨X,0,none⟩ rfl [i64 (hh:Int),.slice rb hh rc,.slice ba nb bc,.slice la ls.length lc,.slice ua us.length uc,.slice sa ss.length sc,.slice ta ts.length tc,.slice oa os.length oc] _ Jv rfl rfl ax ?_)|(refine cX rfl 32 _ _ rfl R kG.cells [i64 (hh:Int),.slice rb hh rc,.slice ba nb bc,.slice la ls.length lc,.slice ua us.length uc,.slice sa ss.length sc,.slice ta ts.length tc,.slice oa os.length oc] HC.o.res rfl rfl ax rfl rfl ?_;intro Ci my eW))
   obtain ⟨xf,ZF,SG,hz,hbl,hsp,hce⟩:=HQ.o;have hp:=HC.o.pos;exact bodyPost_ret (v:= .agg ([i64 (hh:Int),.slice rb hh rc,.slice ba nb bc,.slice la ls.length lc,.slice ua us.length uc,.slice sa ss.length sc,.slice ta ts.length tc,.slice oa os.length oc]).toArray) (jo 2 _ rfl rfl my rfl rfl ax) rfl ⟨hh,nb,xf,by rw [hce],ZF.but eW (hbl.mono λb hb=>ae),SG,hz,⟨hbl.mono (λb hb=>ae),hsp.but eW λq hq=>bA (hbl.outer q hq),hbl.mono λb hb=>Nat.lt_of_lt_of_le hb.2 eW.size⟩,eW.ext HC.o.ext hp.2.1⟩
