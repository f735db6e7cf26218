/- Texts of the proof. -/
import Derived.Test.YtkpngkdgphojlaaGreatCd40
set_option linter.all false
set_option maxHeartbeats 40000000
set_option maxRecDepth 100000
namespace Go.Proofs.YtkpngkdgphojlaaGreat
open Go.Proofs.Tryz
open Go.RowKit
theorem JA (V:World) (T:Nat) (R:Nat) (X:Nat) (a:Option Addr) (c:Nat) (l:List Int) (hh:Nat) (nb:Nat) (rc:Nat) (bc:Nat) (rb:Option Addr) (ba:Option Addr) (rs:List Int) (bs:List cA) (ls:List aP) (la:Option Addr) (lc:Nat) (us:List aF) (ua:Option Addr) (uc:Nat) (ss:List bj) (sa:Option Addr) (sc:Nat) (ts:List dS) (ta:Option Addr) (tc:Nat) (HL:Hid (aD V a c l)) (mU:Hid (V.heap.size≤T∧V.heap.size≤R)) (HH:Hid (1≤hh∧hh≤3)) (DU:Hid (rs.length=hh∧ ∀z∈rs,0≤z∧z<5)) (jE:Hid (1≤nb∧nb≤4)) (Ce:Hid (∀j (h:j<bs.length),jR bs[j] j hh)) (jo:Hid (bs.length=nb)) (rV:Hid (fH ls nb hh)) (nU:Hid (ls.length≤7)) (JB:Hid (js us nb hh)) (lK:Hid (1≤us.length∧us.length≤3)) (wb:Hid (ss.length≤1∧ ∀s∈ss,mB s nb)) (Tf:Hid (ts.length≤1∧ ∀t∈ts,EX t nb hh)) (WV:World) (HC:Hid (CW V T R X a c l [i64 (hh:Int),.slice rb hh rc,.slice ba nb bc,.slice la ls.length lc,.slice ua us.length uc,.slice sa ss.length sc,.slice ta ts.length tc,.slice none 0 0] (⟨hh,rb,rc,rs,ba,bc,bs,la,lc,ls,ua,uc,us,sa,sc,ss,ta,tc,ts,none,0,[]⟩:ai) WV)) {u0 u1 u5 u6 u8 u9 u10 u11 u12 u13 u14 u15 u16 u17 u18 u19 u20 u21 u22 u23 u24 u25 u26 u27 u28 u29 u30 u31 u32 u33 u34 u35 u36 u37 u38 u39 u40 u41 u42 u43 u44 u45 u46 u47 u48 u49 u50 u51 u52 u53 u54 u55 u56 u57 u58 u59 u60 u61 u62 u63 u64 u65 u66 u67 u68 u69 u70 u71 u72 u73 u74 u75 u76 u77 u78 u79 u80 u81 u82 u83 u84 u85 u86 u87 u88 u89 u90 u91 u92 u93 u94 u95 u96 u97 u98 u99 u100 u101 u102 u103 u104 u105 u106 u107 u108 u109 u110 u111 u112 u113 u114 u115 u116 u117 u118 u119 u120 u121 u122 u123 u124 u125 u126 u127 u128 u129 u130 u131 u132 u133 u134 u135 u136 u137 u138 u139 u140 u141 u142 u143 u144 u145 u146 u147 u148 u149 u150 u151 u152 u153 u154 u155 u156 u157 u158 u159 u160 u161 u162 u163 u164 u165 u166 u167 u168 u169 u170 u171 u172 u173 u174 u175 u176 u177 u178 u179 u180 u181 u182 u183 u184 u185 u186 u187 u188 u189 u190 u191 u192 u193 u194 u195 u196 u197 u198 u199 u200 u201 u202 u203 u204 u205 u206 u207 u208 u209 u210 u211 u212 u213 u214 u215 u216 u217 u218 u219 u220 u221 u222 u223 u224 u225 u226 u227 u228 u229 u230 u231 u232 u233 u234 u235 u236:Value}:Code.wp prog (eL 11 Tryz.caseCode) (bodyPost prog Tryz.f10 fun e w'=> ∃(hh nb:Nat) (x:ai),e= .returned (.agg x.cells.toArray)∧aS w' x∧fI hh nb x∧cV x=0∧dN (fun b=>V.heap.size≤b) x∧Ext V w') {tmps:= #[u0,u1,.pointer (some ⟨R,0,none⟩),.pointer (some ⟨T,0,none⟩),.pointer (some ⟨X,0,none⟩),u5,u6,.int .i64 (nb:Int),u8,u9,u10,u11,u12,u13,u14,u15,u16,u17,u18,u19,u20,u21,u22,u23,u24,u25,u26,u27,u28,u29,u30,u31,u32,u33,u34,u35,u36,u37,u38,u39,u40,u41,u42,u43,u44,u45,u46,u47,u48,u49,u50,u51,u52,u53,u54,u55,u56,u57,u58,u59,u60,u61,u62,u63,u64,u65,u66,u67,u68,u69,u70,u71,u72,u73,u74,u75,u76,u77,u78,u79,u80,u81,u82,u83,u84,u85,u86,u87,u88,u89,u90,u91,u92,u93,u94,u95,u96,u97,u98,u99,u100,u101,u102,u103,u104,u105,u106,u107,u108,u109,u110,u111,u112,u113,u114,u115,u116,u117,u118,u119,u120,u121,u122,u123,u124,u125,u126,u127,u128,u129,u130,u131,u132,u133,u134,u135,u136,u137,u138,u139,u140,u141,u142,u143,u144,u145,u146,u147,u148,u149,u150,u151,u152,u153,u154,u155,u156,u157,u158,u159,u160,u161,u162,u163,u164,u165,u166,u167,u168,u169,u170,u171,u172,u173,u174,u175,u176,u177,u178,u179,u180,u181,u182,u183,u184,u185,u186,u187,u188,u189,u190,u191,u192,u193,u194,u195,u196,u197,u198,u199,u200,u201,u202,u203,u204,u205,u206,u207,u208,u209,u210,u211,u212,u213,u214,u215,u216,u217,u218,u219,u220,u221,u222,u223,u224,u225,u226,u227,u228,u229,u230,u231,u232,u233,u234,u235,u236],defers:= []} WV:=by
 have fL:=ae (eW.of V V T a c l mU.o.1 (Ext.refl V) HL.o);have E5:=ae (fun U (hx:Ext V U) (hU:aY U T a c l) (m:Int) (hm:0<m) (qM:m<1000000)=>ki V U T a c l hh m mU.o.1 hx HL.o hU (by have:=HH.o;omega) hm qM);conv=>arg 2;dsimp only [Tryz.caseCode,Tryz.f10,eL,Option.getD]
 have HOU:=ae (fun U (hx:Ext V U) (hU:aY U T a c l) (i:Nat) (hi:i<16) (PF:0<ls.length)=>FW V U T a c l i ls.length us.length mU.o.1 hx HL.o hU hi PF (by have:=nU.o;omega) (by have:=lK.o;omega));go_wp2_with fail
 refine (fL.o WV 4 (HC.o.ext.but T) HC.o.tape (by decide) (by decide)).mono ?_;rintro e WW ⟨kv,rfl,JC,hT,hx⟩;replace HC:=ae (HC.o.next hT hx);clear hT hx;obtain ⟨n3,hn3⟩: ∃n3:Nat,kv=(n3:Int):=⟨kv.toNat,by omega⟩;subst hn3;have HN3:Hid (n3≤3):=by(show _≤_;omega)
 clear JC
 go_upto_block 8 with fail
 go_cut [] (fun wx=> ∃(os:List bB) (oa:Option Addr) (oc:Nat),os.length≤3∧pn os ls.length us.length∧(os= []∨cV (⟨hh,rb,rc,rs,ba,bc,bs,la,lc,ls,ua,uc,us,sa,sc,ss,ta,tc,ts,oa,oc,os⟩:ai)=0)∧CW V T R X a c l [i64 (hh:Int),.slice rb hh rc,.slice ba nb bc,.slice la ls.length lc,.slice ua us.length uc,.slice sa ss.length sc,.slice ta ts.length tc,.slice oa os.length oc] (⟨hh,rb,rc,rs,ba,bc,bs,la,lc,ls,ua,uc,us,sa,sc,ss,ta,tc,ts,oa,oc,os⟩:ai) wx)
 case first=>
  as_aux_lemma=>
   go_wp2_with fail
   go_loopw [13] (fun v wr=> ∃(k:Nat) (os:List bB) (oa:Option Addr) (oc:Nat),k+os.length≤3∧pn os ls.length us.length∧(os= []→oa=none∧oc=0)∧(os= []∨cV (⟨hh,rb,rc,rs,ba,bc,bs,la,lc,ls,ua,uc,us,sa,sc,ss,ta,tc,ts,oa,oc,os⟩:ai)=0)∧CW V T R X a c l [i64 (hh:Int),.slice rb hh rc,.slice ba nb bc,.slice la ls.length lc,.slice ua us.length uc,.slice sa ss.length sc,.slice ta ts.length tc,.slice oa os.length oc] (⟨hh,rb,rc,rs,ba,bc,bs,la,lc,ls,ua,uc,us,sa,sc,ss,ta,tc,ts,oa,oc,os⟩:ai) wr∧v= .int .i64 (k:Int)) (fun v _=>(intOf v).toNat)
   case atStart=>exact ⟨n3,[],none,0,HN3.o,fun j h=>absurd h (by simp),fun _=>⟨rfl,rfl⟩,Or.inl rfl,HC.o,rfl⟩
   case round=>
    obtain ⟨k,os,oa,oc,hk,Tg,hnil,kM,hC,rfl⟩:=hrel;clear HC;have HC:=ae hC;have LR:=ae Tg;have Iw:=ae hnil;have tJ:=ae kM;have HK:=ae hk
    clear hC Tg hnil kM hk;by_cases Yn:0<k
    ·have b0:(0:Int)<(k:Int):=by omega
     have c3:wr.cell? ⟨X,3,none⟩=some (.slice la ls.length lc):=(HC.o.bJ.cell 3).trans rfl;have c4:wr.cell? ⟨X,4,none⟩=some (.slice ua us.length uc):=(HC.o.bJ.cell 4).trans rfl;have c7:wr.cell? ⟨X,7,none⟩=some (.slice oa os.length oc):=(HC.o.bJ.cell 7).trans rfl;have Ld:=ae Yn;by_cases hlt:0<ls.length
     ·have b1:(0:Int)<(ls.length:Int):=by omega
      have LS:Hid (os.length<3):=by(have:=HK.o;show _<_;omega)
      have yN:=ae hlt;go_wp2_with fail
      refine (HOU.o wr HC.o.ext HC.o.tape os.length (by have:=LS.o;omega) yN.o).mono ?_;rintro e W1 ⟨x,rfl,hm,hi,hf,hr,hf2,hb2,hT,hx⟩;have hXw:=HC.o.bJ.lt;have hb1:=int_lt hi (by rcases hm.lines with q|q<;>omega);replace HC:=ae (HC.o.next hT hx);have HM:=ae hm;have fJ:Hid (aD W1 x.la x.lc x.lines∧bS W1 3 x.ma x.mc (x.moves.map bE.cells)∧(∀p,x.la=some p→X<p.block∧p.block<W1.heap.size)∧(∀p,x.ma=some p→X<p.block∧p.block<W1.heap.size)):=⟨hi,hr,fun p hp=>⟨by have:=hf p hp;omega,hb1 p hp⟩,fun p hp=>⟨by have:=hf2 p hp;omega,hb2 p hp⟩⟩;clear hm hi hf hr hf2 hb2 hT hx hXw hb1 c3 c4 c7;go_upto_region 35 with(refine dw rfl 87 _ _ rfl qd.cells x.cells rfl rfl (by kernel_rfl) rfl rfl ?_)
      obtain ⟨W2,hW2,x2,-,A2⟩:=aH W1 87 x.cells;rw [show W1.alloc (.cells x.cells.toArray 87)=W2 from hW2.symm];obtain ⟨BX,NG⟩: ∃BX,BX=W1.heap.size:=⟨_,rfl⟩;have hs2:W2.heap.size=BX+1:=by rw [hW2,NG];simp
      rw [←NG]at A2;replace HC:=ae (HC.o.grow x2);have fg:Hid (aD W2 x.la x.lc x.lines∧bS W2 3 x.ma x.mc (x.moves.map bE.cells)∧(∀p,x.la=some p→X<p.block∧p.block<BX)∧(∀p,x.ma=some p→X<p.block∧p.block<BX)):=⟨fJ.o.1.ext x2,fJ.o.2.1.ext x2,by rw [NG];exact fJ.o.2.2⟩;have q9:=ae A2;have zQ:=ae hs2;try rw [←NG]
      clear fJ hW2 x2 A2 hs2 NG;have Iu: ∀j v,([i64 (hh:Int),.slice rb hh rc,.slice ba nb bc,.slice la ls.length lc,.slice ua us.length uc,.slice sa ss.length sc,.slice ta ts.length tc,.slice oa os.length oc])[j]?=some v→W2.cell? ((⟨X,0,none⟩:Addr).add j)=some v:=fun j v hj=>by rw [gM,HC.o.bJ.cell j];exact hj
      go_upto_region 36 with(first|(refine bG rfl 32 _ rfl ⟨X,0,none⟩ rfl [i64 (hh:Int),.slice rb hh rc,.slice ba nb bc,.slice la ls.length lc,.slice ua us.length uc,.slice sa ss.length sc,.slice ta ts.length tc,.slice oa os.length oc] _ Iu rfl rfl (by kernel_rfl) ?_)|(refine dw rfl 32 _ _ rfl Bd.cells [i64 (hh:Int),.slice rb hh rc,.slice ba nb bc,.slice la ls.length lc,.slice ua us.length uc,.slice sa ss.length sc,.slice ta ts.length tc,.slice oa os.length oc] rfl rfl (by kernel_rfl) rfl rfl ?_))
      obtain ⟨W3,hW3,x3,-,A3⟩:=aH W2 32 [i64 (hh:Int),.slice rb hh rc,.slice ba nb bc,.slice la ls.length lc,.slice ua us.length uc,.slice sa ss.length sc,.slice ta ts.length tc,.slice oa os.length oc];rw [show W2.alloc (.cells #[i64 (hh:Int),.slice rb hh rc,.slice ba nb bc,.slice la ls.length lc,.slice ua us.length uc,.slice sa ss.length sc,.slice ta ts.length tc,.slice oa os.length oc] 32)=W3 from hW3.symm];obtain ⟨KD,Vf⟩: ∃KD,KD=W2.heap.size:=⟨_,rfl⟩;obtain ⟨G,hG⟩: ∃G,G=W3.heap.size:=⟨_,rfl⟩;have hs3:G=KD+1:=by rw [hG,hW3,Vf];simp
      have hs2:=zQ.o;rw [←Vf]at A3;try rw [←Vf]
      have Kw:=ae A3;have JD:Hid (dN (fun b=>b≠KD) (⟨hh,rb,rc,rs,ba,bc,bs,la,lc,ls,ua,uc,us,sa,sc,ss,ta,tc,ts,oa,oc,os⟩:ai)):=HC.o.bl.mono fun b hb=>by omega
      have HOLD:Hid (dN (fun b=>b<G) (⟨hh,rb,rc,rs,ba,bc,bs,la,lc,ls,ua,uc,us,sa,sc,ss,ta,tc,ts,oa,oc,os⟩:ai)):=HC.o.bl.mono fun b hb=>by omega
      have Hx:=HC.o.bJ.lt;have Yo:Hid (X<G):=by(show _<_;omega)
      have Qc:Hid (X<KD∧KD<G):=by(show _∧_;omega)
      have Th:Hid (G=W3.heap.size):=hG;have IM:Hid (W3.heap.size≤G):=Nat.le_of_eq hG.symm;have py:Hid (aD W3 x.la x.lc x.lines∧bS W3 3 x.ma x.mc (x.moves.map bE.cells)∧(∀p,x.la=some p→X<p.block∧p.block<G)∧(∀p,x.ma=some p→X<p.block∧p.block<G)):=⟨fg.o.1.ext x3,fg.o.2.1.ext x3,fun p hp=>by have:=fg.o.2.2.1 p hp;omega,fun p hp=>by have:=fg.o.2.2.2 p hp;omega⟩
      have E8:Hid (∀y∈os++ [x],iq (fun b=>b≠KD) y.la∧iq (fun b=>b≠KD) y.ma):=fun y hy=>by
       rcases List.mem_append.1 hy with q|q
       ·exact JD.o.o y q
       ·rw [List.mem_singleton]at q;subst q
        exact ⟨fun p hp=>by have:=fg.o.2.2.1 p hp;omega,fun p hp=>by have:=fg.o.2.2.2 p hp;omega⟩
      have LU:Hid (∀y∈os++ [x],y.name.size≤maxLen∧ ∀m∈y.moves,gl [m.unit,m.up,m.down]):=fun y hy=>by
       rcases List.mem_append.1 hy with q|q
       ·have h5:=HC.o.case'.o y q
        exact ⟨h5.1,h5.2.2.2⟩
       ·rw [List.mem_singleton]at q;subst q
        exact HM.o.lQ (by have:=LS.o;omega) (by have:=lK.o;omega)
      have LV:Hid (oa=none→os.length=0∧oc=0):=fun e=>by
       have h5:=HC.o.case'.outs;by_cases q:os= []
       ·exact ⟨by rw [q];rfl,(Iw.o q).2⟩
       ·obtain ⟨b3,o3,h6,-⟩:=h5.cell 0 (by rw [List.length_map];exact List.length_pos_iff.2 q)
        rw [e]at h6;cases h6
      have gH:Hid (W3.cell? ⟨X,7,none⟩=some (.slice oa os.length oc)∧W3.cell? ⟨BX,0,none⟩=some (.string x.name)∧W3.cell? ⟨BX,1,none⟩=some (.slice x.la x.lines.length x.lc)∧W3.cell? ⟨BX,2,none⟩=some (.bool x.bC)∧W3.cell? ⟨BX,3,none⟩=some (.slice x.ma x.moves.length x.mc)):=
       ⟨aj x3 ((HC.o.bJ.cell 7).trans rfl),aj x3 ((q9.o.cell 0).trans rfl),aj x3 ((q9.o.cell 1).trans rfl),aj x3 ((q9.o.cell 2).trans rfl),aj x3 ((q9.o.cell 3).trans rfl)⟩
      replace HC:=ae (HC.o.grow x3);clear hW3 x3 A3 hs3 hs2 Vf hG Hx Iu fg q9 zQ;simp only [Act.put];go_cut [] (fun wx=> ∃(os2:List bB) (g2:Option Addr) (k2:Nat),os2=os++ [x]∧CW V T R X a c l [i64 (hh:Int),.slice rb hh rc,.slice ba nb bc,.slice la ls.length lc,.slice ua us.length uc,.slice sa ss.length sc,.slice ta ts.length tc,.slice oa os.length oc] (⟨hh,rb,rc,rs,ba,bc,bs,la,lc,ls,ua,uc,us,sa,sc,ss,ta,tc,ts,oa,oc,os⟩:ai) wx∧aS wx (⟨hh,rb,rc,rs,ba,bc,bs,la,lc,ls,ua,uc,us,sa,sc,ss,ta,tc,ts,g2,k2,os2⟩:ai)∧dN (fun b=>X<b∧b<wx.heap.size) (⟨hh,rb,rc,rs,ba,bc,bs,la,lc,ls,ua,uc,us,sa,sc,ss,ta,tc,ts,g2,k2,os2⟩:ai)∧aJ wx KD 32 [i64 (hh:Int),.slice rb hh rc,.slice ba nb bc,.slice la ls.length lc,.slice ua us.length uc,.slice sa ss.length sc,.slice ta ts.length tc,.slice g2 os2.length k2])
      case first=>
       as_aux_lemma=>
        refine aB (fun w'=>True) (fun w'=>w'.cell? ⟨X,7,none⟩=some (.slice oa os.length oc)∧w'.cell? ⟨BX,0,none⟩=some (.string x.name)∧w'.cell? ⟨BX,1,none⟩=some (.slice x.la x.lines.length x.lc)∧w'.cell? ⟨BX,2,none⟩=some (.bool x.bC)∧w'.cell? ⟨BX,3,none⟩=some (.slice x.ma x.moves.length x.mc)) (fun i=>i==8) (by kernel_rfl) (trivial) (⟨aj ((Ext.refl W3).drew) gH.o.1,aj ((Ext.refl W3).drew) gH.o.2.1,aj ((Ext.refl W3).drew) gH.o.2.2.1,aj ((Ext.refl W3).drew) gH.o.2.2.2.1,aj ((Ext.refl W3).drew) gH.o.2.2.2.2⟩) (fun aq ah=> ?_);refine ay 1 aq ah ?_;refine kr 2 aq ah ?_;refine kr 4 aq ah ?_ (v:= .agg #[.string x.name,.slice x.la x.lines.length x.lc,.bool x.bC,.slice x.ma x.moves.length x.mc]);have HX:=ae ((Ext.refl W3).drew);replace HC:=ae (HC.o.grow HX.o);replace py:Hid (aD W3.drew x.la x.lc x.lines∧bS W3.drew 3 x.ma x.mc (x.moves.map bE.cells)∧(∀p,x.la=some p→X<p.block∧p.block<G)∧(∀p,x.ma=some p→X<p.block∧p.block<G)):=⟨py.o.1.ext HX.o,py.o.2.1.ext HX.o,py.o.2.2⟩;have Qd:Hid (G≤W3.drew.heap.size):=Nat.le_trans (Nat.le_of_eq Th.o) HX.o.size;generalize W3.drew=Q0 at*;refine aQ (rs:= [0,5]) (by kernel_rfl) (by simp) ?_;refine aA.cons rfl (fun Kc hK=> ?_) (aA.cons rfl (fun Kc hK=> ?_) aA.nil)
        ·go_simp
         obtain ⟨Q1,hW2⟩: ∃W2,W2=Q0.alloc (.cells #[] 87):=⟨_,rfl⟩;have x2:Ext Q0 Q1:=by rw [hW2];exact (Ext.refl Q0).alloc _
         obtain ⟨G0,O3⟩: ∃G0,G0=Q0.heap.size:=⟨_,rfl⟩
         have HP:Hid (gT V T R X G a c l [i64 (hh:Int),.slice rb hh rc,.slice ba nb bc,.slice la ls.length lc,.slice ua us.length uc,.slice sa ss.length sc,.slice ta ts.length tc,.slice oa os.length oc] (⟨hh,rb,rc,rs,ba,bc,bs,la,lc,ls,ua,uc,us,sa,sc,ss,ta,tc,ts,oa,oc,os⟩:ai) 87 4 (some ⟨G0,0,none⟩) 0 ([]) (Cb (os++ [x])) (Cc (os++ [x])) Q1):=by
             rw [hW2,O3];exact yj HC.o Qd.o HOLD.o Yo.o py.o.1 py.o.2.1 py.o.2.2.1 py.o.2.2.2
         rw [←hW2,←O3];replace HX:=ae (HX.o.trans x2);clear HC py Qd O3 hW2 x2;refine hK.o _ _ (trivial) (⟨aj (HX.o) gH.o.1,aj (HX.o) gH.o.2.1,aj (HX.o) gH.o.2.2.1,aj (HX.o) gH.o.2.2.2.1,aj (HX.o) gH.o.2.2.2.2⟩) (fun aq ah=> ?_);clear hK Kc;try simp only [iK,iL,iM,List.setIfInBounds_toArray,iN,iO,Act.put]
         refine aQ (rs:= [3,5]) (by kernel_rfl) (by simp) ?_;refine aA.cons rfl (fun Kc hK=> ?_) (aA.cons rfl (fun Kc hK=> ?_) aA.nil)
         ·rw [if_pos (by rfl)]
          refine kp _ (.tmp 220) (.tmp 222) 30 rfl G 87 (.agg qd.cells.toArray) 4 72 underlying30 Tryz.info_outage rfl (by decide) (.slice (some ⟨G0,0,none⟩) 0 0) 0 [] rfl HP.o.own.own oa os.length oc (os.map bB.cells).flatten rfl ?c1 ?c2 ?c3 ?c4 ?c5 (by decide) HP.o.size ?_
          case c1=>rw [iC (m:=4) _ (fun r hr=>by obtain ⟨o,-,rfl⟩:=List.mem_map.1 hr;rfl),List.length_map]
          case c2=>exact HP.o.cw.case'.outs.flat (by decide) (fun r hr=>by obtain ⟨o,-,rfl⟩:=List.mem_map.1 hr;rfl)
          case c3=>
                intro u hu;obtain ⟨r,hr,hu⟩:=List.mem_flatten.1 hu;obtain ⟨o,-,rfl⟩:=List.mem_map.1 hr;exact List.all_eq_true.1 (show o.cells.all (·.oneCell')=true from rfl) u hu
          case c4=>exact fun e=>LV.o e
          case c5=>have:=LS.o;omega
          intro v1 Q2 ho he hb hz hv;replace HX:=ae (he.o W3 HX.o IM.o);obtain ⟨ga,gc,rfl,m7⟩:=HP.o.Gm (rows':=os.map bB.cells) ⟨by have h5:=ho.o;rw [Nat.zero_add,List.nil_append]at h5;rw [List.length_map];exact h5,fun r hr=>by obtain ⟨o,-,rfl⟩:=List.mem_map.1 hr;rfl⟩ he.o hb.o hz.o hv.o;rw [List.length_map];replace HP:=ae m7;clear m7 ho he hb hz hv;refine hK.o _ _ (trivial) (⟨aj (HX.o) gH.o.1,aj (HX.o) gH.o.2.1,aj (HX.o) gH.o.2.2.1,aj (HX.o) gH.o.2.2.2.1,aj (HX.o) gH.o.2.2.2.2⟩) (fun aq ah=> ?_);clear hK Kc;try simp only [iK,iL,iM,List.setIfInBounds_toArray,iN,iO,Act.put]
          refine dX 5 rfl (fun Kc hK=> ?_);rw [if_pos (by rfl)];refine eJ 30 (.tmp 224) rfl 87 (.agg qd.cells.toArray) 4 72 underlying30 Tryz.info_outage (by decide) (by decide) x.cells rfl rfl ?_;intro Q3 sW x2;obtain ⟨BS,MO⟩: ∃BS,BS=Q2.heap.size:=⟨_,rfl⟩;rw [←MO]at sW⊢;have HAS:=ae sW;replace HP:=ae (HP.o.grow x2);replace HX:=ae (HX.o.trans x2);clear MO sW x2;refine hK.o _ _ (trivial) (⟨aj (HX.o) gH.o.1,aj (HX.o) gH.o.2.1,aj (HX.o) gH.o.2.2.1,aj (HX.o) gH.o.2.2.2.1,aj (HX.o) gH.o.2.2.2.2⟩) (fun aq ah=> ?_);clear hK Kc;try simp only [iK,iL,iM,List.setIfInBounds_toArray,iN,iO,Act.put]
          refine dX 6 rfl (fun Kc hK=> ?_);rw [if_pos (by rfl)];refine eP _ (.tmp 223) (.tmp 225) 30 rfl G 87 (.agg qd.cells.toArray) 4 72 underlying30 Tryz.info_outage rfl (by decide) (.slice ga os.length gc) os.length (os.map bB.cells).flatten rfl ?c1 BS x.cells rfl rfl HAS.o rfl ?c5 (by decide) HP.o.size ?_
          case c1=>
                have h5:=HP.o.own.own;rw [List.length_map]at h5;exact h5
          case c5=>have:=LS.o;omega
          intro v1 Q4 ho he hb hz hv;replace HX:=ae (he.o W3 HX.o IM.o);have hl0:(os.map bB.cells).length=os.length:=List.length_map _;have qM:(os++ [x]).map bB.cells=os.map bB.cells++ [x.cells]:=by simp
          obtain ⟨g2,k2,rfl,m7⟩:=HP.o.Gm (rows':=(os++ [x]).map bB.cells) (by rw [qM];exact HP.o.own.snoc (w':=Q4) (r:=x.cells) rfl (by rw [hl0];exact ho.o)) he.o (by rw [hl0];exact hb.o) hz.o (by rw [hl0];exact hv.o);rw [List.length_map];obtain ⟨os2,vF⟩: ∃os2,os2=os++ [x]:=⟨_,rfl⟩;rw [←vF]at m7⊢;have zV:=ae vF;clear HP;have HP:=ae m7;clear m7 ho he hb hz hv hl0 qM vF;refine hK.o _ _ (trivial) (⟨aj (HX.o) gH.o.1,aj (HX.o) gH.o.2.1,aj (HX.o) gH.o.2.2.1,aj (HX.o) gH.o.2.2.2.1,aj (HX.o) gH.o.2.2.2.2⟩) (fun aq ah=> ?_);clear hK Kc;try simp only [iK,iL,iM,List.setIfInBounds_toArray,iN,iO,Act.put]
          refine ay 7 aq ah ?_;refine aQ (rs:= [8]) (by kernel_rfl) (by simp) ?_;refine aA.late rfl (by kernel_rfl) (fun Kc hK=> ?_) aA.nil;have Ti:Q4.cell? ⟨KD,7,none⟩=some (.slice oa os.length oc):=((Kw.o.ext HX.o).cell 7).trans rfl;have Tj:=(Kw.o.ext HX.o).frozen 7;have Tk:aJ (Q4.setCell ⟨KD,7,none⟩ (.slice g2 os2.length k2)) KD 32 [i64 (hh:Int),.slice rb hh rc,.slice ba nb bc,.slice la ls.length lc,.slice ua us.length uc,.slice sa ss.length sc,.slice ta ts.length tc,.slice g2 os2.length k2]:=(Kw.o.ext HX.o).set 7 _;have hO:=vE (K:=KD) (j:=7) (v:= .slice g2 os2.length k2) HP.o (by rw [zV.o];exact LU.o) Qc.o.1 Qc.o.2 JD.o (by rw [zV.o];exact E8.o);go_simp;refine hK.o _ _ (trivial) (fun aq=> ?_);clear hK Kc Ti Tj;try simp only [iK,iL,iM,List.setIfInBounds_toArray,iN,iO,Act.put]
          refine ax (by kernel_rfl) ?_ _;clear aq;go_wp2_with fail
          go_meet
          exact ⟨os2,g2,k2,zV.o,hO.1,hO.2.1,hO.2.2,Tk⟩
         ·rw [if_pos (by rfl)]
          refine eJ 30 (.tmp 224) rfl 87 (.agg qd.cells.toArray) 4 72 underlying30 Tryz.info_outage (by decide) (by decide) x.cells rfl rfl ?_;intro Q2 sW x2;obtain ⟨BS,MO⟩: ∃BS,BS=Q1.heap.size:=⟨_,rfl⟩;rw [←MO]at sW⊢;have HAS:=ae sW;have jV:Hid (BS≠G0):=by(have:=(HP.o.jQ _ rfl).2;simp only at this;show _≠_;omega)
          replace HP:=ae (HP.o.grow x2);replace HX:=ae (HX.o.trans x2);clear MO sW x2;refine hK.o _ _ (trivial) (⟨aj (HX.o) gH.o.1,aj (HX.o) gH.o.2.1,aj (HX.o) gH.o.2.2.1,aj (HX.o) gH.o.2.2.2.1,aj (HX.o) gH.o.2.2.2.2⟩) (fun aq ah=> ?_);clear hK Kc;try simp only [iK,iL,iM,List.setIfInBounds_toArray,iN,iO,Act.put]
          refine dX 3 rfl (fun Kc hK=> ?_);rw [if_pos (by rfl)];refine kp _ (.tmp 220) (.tmp 222) 30 rfl G 87 (.agg qd.cells.toArray) 4 72 underlying30 Tryz.info_outage rfl (by decide) (.slice (some ⟨G0,0,none⟩) 0 0) 0 [] rfl HP.o.own.own oa os.length oc (os.map bB.cells).flatten rfl ?c1 ?c2 ?c3 ?c4 ?c5 (by decide) HP.o.size ?_
          case c1=>rw [iC (m:=4) _ (fun r hr=>by obtain ⟨o,-,rfl⟩:=List.mem_map.1 hr;rfl),List.length_map]
          case c2=>exact HP.o.cw.case'.outs.flat (by decide) (fun r hr=>by obtain ⟨o,-,rfl⟩:=List.mem_map.1 hr;rfl)
          case c3=>
                intro u hu;obtain ⟨r,hr,hu⟩:=List.mem_flatten.1 hu;obtain ⟨o,-,rfl⟩:=List.mem_map.1 hr;exact List.all_eq_true.1 (show o.cells.all (·.oneCell')=true from rfl) u hu
          case c4=>exact fun e=>LV.o e
          case c5=>have:=LS.o;omega
          intro v1 Q3 ho he hb hz hv;replace HX:=ae (he.o W3 HX.o IM.o);obtain ⟨ga,gc,rfl,m7⟩:=HP.o.Gm (rows':=os.map bB.cells) ⟨by have h5:=ho.o;rw [Nat.zero_add,List.nil_append]at h5;rw [List.length_map];exact h5,fun r hr=>by obtain ⟨o,-,rfl⟩:=List.mem_map.1 hr;rfl⟩ he.o hb.o hz.o hv.o;rw [List.length_map];replace HAS:Hid (aJ Q3 BS 87 x.cells):=(hb.o BS HAS.o.lt (by have:=jV.o;intro e;cases e;exact this rfl)).trans HAS.o;replace HP:=ae m7;clear m7 ho he hb hz hv;refine hK.o _ _ (trivial) (⟨aj (HX.o) gH.o.1,aj (HX.o) gH.o.2.1,aj (HX.o) gH.o.2.2.1,aj (HX.o) gH.o.2.2.2.1,aj (HX.o) gH.o.2.2.2.2⟩) (fun aq ah=> ?_);clear hK Kc;try simp only [iK,iL,iM,List.setIfInBounds_toArray,iN,iO,Act.put]
          refine dX 6 rfl (fun Kc hK=> ?_);rw [if_pos (by rfl)];refine eP _ (.tmp 223) (.tmp 225) 30 rfl G 87 (.agg qd.cells.toArray) 4 72 underlying30 Tryz.info_outage rfl (by decide) (.slice ga os.length gc) os.length (os.map bB.cells).flatten rfl ?c1 BS x.cells rfl rfl HAS.o rfl ?c5 (by decide) HP.o.size ?_
          case c1=>
                have h5:=HP.o.own.own;rw [List.length_map]at h5;exact h5
          case c5=>have:=LS.o;omega
          intro v1 Q4 ho he hb hz hv;replace HX:=ae (he.o W3 HX.o IM.o);have hl0:(os.map bB.cells).length=os.length:=List.length_map _;have qM:(os++ [x]).map bB.cells=os.map bB.cells++ [x.cells]:=by simp
          obtain ⟨g2,k2,rfl,m7⟩:=HP.o.Gm (rows':=(os++ [x]).map bB.cells) (by rw [qM];exact HP.o.own.snoc (w':=Q4) (r:=x.cells) rfl (by rw [hl0];exact ho.o)) he.o (by rw [hl0];exact hb.o) hz.o (by rw [hl0];exact hv.o);rw [List.length_map];obtain ⟨os2,vF⟩: ∃os2,os2=os++ [x]:=⟨_,rfl⟩;rw [←vF]at m7⊢;have zV:=ae vF;clear HP;have HP:=ae m7;clear m7 ho he hb hz hv hl0 qM vF;refine hK.o _ _ (trivial) (⟨aj (HX.o) gH.o.1,aj (HX.o) gH.o.2.1,aj (HX.o) gH.o.2.2.1,aj (HX.o) gH.o.2.2.2.1,aj (HX.o) gH.o.2.2.2.2⟩) (fun aq ah=> ?_);clear hK Kc;try simp only [iK,iL,iM,List.setIfInBounds_toArray,iN,iO,Act.put]
          refine ay 7 aq ah ?_;refine aQ (rs:= [8]) (by kernel_rfl) (by simp) ?_;refine aA.late rfl (by kernel_rfl) (fun Kc hK=> ?_) aA.nil;have Ti:Q4.cell? ⟨KD,7,none⟩=some (.slice oa os.length oc):=((Kw.o.ext HX.o).cell 7).trans rfl;have Tj:=(Kw.o.ext HX.o).frozen 7;have Tk:aJ (Q4.setCell ⟨KD,7,none⟩ (.slice g2 os2.length k2)) KD 32 [i64 (hh:Int),.slice rb hh rc,.slice ba nb bc,.slice la ls.length lc,.slice ua us.length uc,.slice sa ss.length sc,.slice ta ts.length tc,.slice g2 os2.length k2]:=(Kw.o.ext HX.o).set 7 _;have hO:=vE (K:=KD) (j:=7) (v:= .slice g2 os2.length k2) HP.o (by rw [zV.o];exact LU.o) Qc.o.1 Qc.o.2 JD.o (by rw [zV.o];exact E8.o);go_simp;refine hK.o _ _ (trivial) (fun aq=> ?_);clear hK Kc Ti Tj;try simp only [iK,iL,iM,List.setIfInBounds_toArray,iN,iO,Act.put]
          refine ax (by kernel_rfl) ?_ _;clear aq;go_wp2_with fail
          go_meet
          exact ⟨os2,g2,k2,zV.o,hO.1,hO.2.1,hO.2.2,Tk⟩
        ·rw [if_pos (by rfl)]
         refine eJ 30 (.tmp 224) rfl 87 (.agg qd.cells.toArray) 4 72 underlying30 Tryz.info_outage (by decide) (by decide) x.cells rfl rfl ?_;intro Q1 sW x2;obtain ⟨BS,MO⟩: ∃BS,BS=Q0.heap.size:=⟨_,rfl⟩;rw [←MO]at sW⊢;have HAS:=ae sW;replace HC:=ae (HC.o.grow x2);replace py:Hid (aD Q1 x.la x.lc x.lines∧bS Q1 3 x.ma x.mc (x.moves.map bE.cells)∧(∀p,x.la=some p→X<p.block∧p.block<G)∧(∀p,x.ma=some p→X<p.block∧p.block<G)):=⟨py.o.1.ext x2,py.o.2.1.ext x2,py.o.2.2⟩;replace Qd:Hid (G≤Q1.heap.size):=Nat.le_trans Qd.o x2.size;replace HX:=ae (HX.o.trans x2);clear MO sW x2;refine hK.o _ _ (trivial) (⟨aj (HX.o) gH.o.1,aj (HX.o) gH.o.2.1,aj (HX.o) gH.o.2.2.1,aj (HX.o) gH.o.2.2.2.1,aj (HX.o) gH.o.2.2.2.2⟩) (fun aq ah=> ?_);clear hK Kc;try simp only [iK,iL,iM,List.setIfInBounds_toArray,iN,iO,Act.put]
         refine dX 0 rfl (fun Kc hK=> ?_);go_simp;obtain ⟨Q2,hW2⟩: ∃W2,W2=Q1.alloc (.cells #[] 87):=⟨_,rfl⟩;have x2:Ext Q1 Q2:=by rw [hW2];exact (Ext.refl Q1).alloc _
         obtain ⟨G0,O3⟩: ∃G0,G0=Q1.heap.size:=⟨_,rfl⟩
         have HP:Hid (gT V T R X G a c l [i64 (hh:Int),.slice rb hh rc,.slice ba nb bc,.slice la ls.length lc,.slice ua us.length uc,.slice sa ss.length sc,.slice ta ts.length tc,.slice oa os.length oc] (⟨hh,rb,rc,rs,ba,bc,bs,la,lc,ls,ua,uc,us,sa,sc,ss,ta,tc,ts,oa,oc,os⟩:ai) 87 4 (some ⟨G0,0,none⟩) 0 ([]) (Cb (os++ [x])) (Cc (os++ [x])) Q2):=by
             rw [hW2,O3];exact yj HC.o Qd.o HOLD.o Yo.o py.o.1 py.o.2.1 py.o.2.2.1 py.o.2.2.2
         rw [←hW2,←O3];replace HX:=ae (HX.o.trans x2);have jV:Hid (BS≠G0):=by(have:=HAS.o.lt;show _≠_;omega)
         replace HAS:=ae (HAS.o.ext x2);clear HC py Qd O3 hW2 x2;refine hK.o _ _ (trivial) (⟨aj (HX.o) gH.o.1,aj (HX.o) gH.o.2.1,aj (HX.o) gH.o.2.2.1,aj (HX.o) gH.o.2.2.2.1,aj (HX.o) gH.o.2.2.2.2⟩) (fun aq ah=> ?_);clear hK Kc;try simp only [iK,iL,iM,List.setIfInBounds_toArray,iN,iO,Act.put]
         refine dX 3 rfl (fun Kc hK=> ?_);rw [if_pos (by rfl)];refine kp _ (.tmp 220) (.tmp 222) 30 rfl G 87 (.agg qd.cells.toArray) 4 72 underlying30 Tryz.info_outage rfl (by decide) (.slice (some ⟨G0,0,none⟩) 0 0) 0 [] rfl HP.o.own.own oa os.length oc (os.map bB.cells).flatten rfl ?c1 ?c2 ?c3 ?c4 ?c5 (by decide) HP.o.size ?_
         case c1=>rw [iC (m:=4) _ (fun r hr=>by obtain ⟨o,-,rfl⟩:=List.mem_map.1 hr;rfl),List.length_map]
         case c2=>exact HP.o.cw.case'.outs.flat (by decide) (fun r hr=>by obtain ⟨o,-,rfl⟩:=List.mem_map.1 hr;rfl)
         case c3=>
             intro u hu;obtain ⟨r,hr,hu⟩:=List.mem_flatten.1 hu;obtain ⟨o,-,rfl⟩:=List.mem_map.1 hr;exact List.all_eq_true.1 (show o.cells.all (·.oneCell')=true from rfl) u hu
         case c4=>exact fun e=>LV.o e
         case c5=>have:=LS.o;omega
         intro v1 Q3 ho he hb hz hv;replace HX:=ae (he.o W3 HX.o IM.o);obtain ⟨ga,gc,rfl,m7⟩:=HP.o.Gm (rows':=os.map bB.cells) ⟨by have h5:=ho.o;rw [Nat.zero_add,List.nil_append]at h5;rw [List.length_map];exact h5,fun r hr=>by obtain ⟨o,-,rfl⟩:=List.mem_map.1 hr;rfl⟩ he.o hb.o hz.o hv.o;rw [List.length_map];replace HAS:Hid (aJ Q3 BS 87 x.cells):=(hb.o BS HAS.o.lt (by have:=jV.o;intro e;cases e;exact this rfl)).trans HAS.o;replace HP:=ae m7;clear m7 ho he hb hz hv;refine hK.o _ _ (trivial) (⟨aj (HX.o) gH.o.1,aj (HX.o) gH.o.2.1,aj (HX.o) gH.o.2.2.1,aj (HX.o) gH.o.2.2.2.1,aj (HX.o) gH.o.2.2.2.2⟩) (fun aq ah=> ?_);clear hK Kc;try simp only [iK,iL,iM,List.setIfInBounds_toArray,iN,iO,Act.put]
         refine dX 6 rfl (fun Kc hK=> ?_);rw [if_pos (by rfl)];refine eP _ (.tmp 223) (.tmp 225) 30 rfl G 87 (.agg qd.cells.toArray) 4 72 underlying30 Tryz.info_outage rfl (by decide) (.slice ga os.length gc) os.length (os.map bB.cells).flatten rfl ?c1 BS x.cells rfl rfl HAS.o rfl ?c5 (by decide) HP.o.size ?_
         case c1=>
             have h5:=HP.o.own.own;rw [List.length_map]at h5;exact h5
         case c5=>have:=LS.o;omega
         intro v1 Q4 ho he hb hz hv;replace HX:=ae (he.o W3 HX.o IM.o);have hl0:(os.map bB.cells).length=os.length:=List.length_map _;have qM:(os++ [x]).map bB.cells=os.map bB.cells++ [x.cells]:=by simp
         obtain ⟨g2,k2,rfl,m7⟩:=HP.o.Gm (rows':=(os++ [x]).map bB.cells) (by rw [qM];exact HP.o.own.snoc (w':=Q4) (r:=x.cells) rfl (by rw [hl0];exact ho.o)) he.o (by rw [hl0];exact hb.o) hz.o (by rw [hl0];exact hv.o);rw [List.length_map];obtain ⟨os2,vF⟩: ∃os2,os2=os++ [x]:=⟨_,rfl⟩;rw [←vF]at m7⊢;have zV:=ae vF;clear HP;have HP:=ae m7;clear m7 ho he hb hz hv hl0 qM vF;refine hK.o _ _ (trivial) (⟨aj (HX.o) gH.o.1,aj (HX.o) gH.o.2.1,aj (HX.o) gH.o.2.2.1,aj (HX.o) gH.o.2.2.2.1,aj (HX.o) gH.o.2.2.2.2⟩) (fun aq ah=> ?_);clear hK Kc;try simp only [iK,iL,iM,List.setIfInBounds_toArray,iN,iO,Act.put]
         refine ay 7 aq ah ?_;refine aQ (rs:= [8]) (by kernel_rfl) (by simp) ?_;refine aA.late rfl (by kernel_rfl) (fun Kc hK=> ?_) aA.nil;have Ti:Q4.cell? ⟨KD,7,none⟩=some (.slice oa os.length oc):=((Kw.o.ext HX.o).cell 7).trans rfl;have Tj:=(Kw.o.ext HX.o).frozen 7;have Tk:aJ (Q4.setCell ⟨KD,7,none⟩ (.slice g2 os2.length k2)) KD 32 [i64 (hh:Int),.slice rb hh rc,.slice ba nb bc,.slice la ls.length lc,.slice ua us.length uc,.slice sa ss.length sc,.slice ta ts.length tc,.slice g2 os2.length k2]:=(Kw.o.ext HX.o).set 7 _;have hO:=vE (K:=KD) (j:=7) (v:= .slice g2 os2.length k2) HP.o (by rw [zV.o];exact LU.o) Qc.o.1 Qc.o.2 JD.o (by rw [zV.o];exact E8.o);go_simp;refine hK.o _ _ (trivial) (fun aq=> ?_);clear hK Kc Ti Tj;try simp only [iK,iL,iM,List.setIfInBounds_toArray,iN,iO,Act.put]
         refine ax (by kernel_rfl) ?_ _;clear aq;go_wp2_with fail
         go_meet
         exact ⟨os2,g2,k2,zV.o,hO.1,hO.2.1,hO.2.2,Tk⟩
      case rest=>
       obtain ⟨os2,g2,k2,O4,hC,Vg,hcb,hD⟩:=hcut;generalize wc=W6 at*;clear HC py gH E8 LU LV IM Th Kw JD HOLD Yo;obtain ⟨cn,Bj⟩: ∃cn:ai,cn=(⟨hh,rb,rc,rs,ba,bc,bs,la,lc,ls,ua,uc,us,sa,sc,ss,ta,tc,ts,g2,k2,os2⟩:ai):=⟨_,rfl⟩;have Yp: [i64 (hh:Int),.slice rb hh rc,.slice ba nb bc,.slice la ls.length lc,.slice ua us.length uc,.slice sa ss.length sc,.slice ta ts.length tc,.slice g2 os2.length k2]=cn.cells:=by rw [Bj];simp only [ai.cells];rw [DU.o.1,jo.o]
       have Tl:os2.length=os.length+1:=by rw [O4,List.length_append];rfl
       have qL:Hid (oW cn):=by
        have h1:=jE.o;have h2:=nU.o;have h3:=lK.o;have h4:=wb.o.1;have h5:=Tf.o.1;have h6:=LS.o;have h7:=jo.o
        rw [Bj];refine ⟨by simp only;omega,by simp only;omega,by simp only;omega,by simp only;omega,by simp only;omega,by simp only;omega,fun o ho=> ?_⟩;replace ho:o∈os++ [x]:=by rw [←O4];exact ho
        rcases List.mem_append.1 ho with q|q
        ·obtain ⟨j,hj,rfl⟩:=List.getElem_of_mem q
         have:=(LR.o j hj).moves.len;omega
        ·rw [List.mem_singleton]at q;subst q
         have:=HM.o.moves.len;omega
       have Yq:Hid (pn os2 ls.length us.length):=by rw [O4];exact LR.o.snoc HM.o
       have HC:=ae hC;have et:Hid (aS W6 cn):=by rw [Bj];exact Vg
       have Vh:Hid (dN (fun b=>X<b∧b<W6.heap.size) cn):=by rw [Bj];exact hcb
       have HD:Hid (aJ W6 KD 32 cn.cells):=by rw [←Yp];exact hD
       have Lb:Hid (cn=(⟨hh,rb,rc,rs,ba,bc,bs,la,lc,ls,ua,uc,us,sa,sc,ss,ta,tc,ts,g2,k2,os2⟩:ai)∧ [i64 (hh:Int),.slice rb hh rc,.slice ba nb bc,.slice la ls.length lc,.slice ua us.length uc,.slice sa ss.length sc,.slice ta ts.length tc,.slice g2 os2.length k2]=cn.cells∧os2.length=os.length+1):=⟨Bj,Yp,Tl⟩;clear hC Vg hcb hD Bj Yp Tl O4;have Tm: ∀j v,([i64 cn.hours,.slice cn.ra cn.aV.length cn.rc,.slice cn.ba cn.ak.length cn.bc,.slice cn.la cn.lines.length cn.lc,.slice cn.ua cn.au.length cn.uc,.slice cn.sa cn.stores.length cn.sc,.slice cn.ta cn.aL.length cn.tc,.slice cn.oa cn.outs.length cn.oc])[j]?=some v→W6.cell? ((⟨KD,0,none⟩:Addr).add j)=some v:=fun j v hj=>by rw [gM,HD.o.cell j];exact hj
       go_wp2_with (refine bG rfl 32 _ rfl ⟨KD,0,none⟩ rfl [i64 cn.hours,.slice cn.ra cn.aV.length cn.rc,.slice cn.ba cn.ak.length cn.bc,.slice cn.la cn.lines.length cn.lc,.slice cn.ua cn.au.length cn.uc,.slice cn.sa cn.stores.length cn.sc,.slice cn.ta cn.aL.length cn.tc,.slice cn.oa cn.outs.length cn.oc] _ Tm rfl rfl (by kernel_rfl) ?_)
       refine (xZ W6 cn et.o qL.o).mono ?_;rintro e W7 ⟨k1,i1,f1,rfl,x7⟩;obtain ⟨ce,hce⟩: ∃ce,ce=cV cn:=⟨_,rfl⟩;rw [←hce];have Cy:=ae hce;clear hce Tm;go_upto_region 38 with fail
       obtain ⟨W8,GX,x8,-,-⟩:=aH W7 52 [i64 k1,i64 i1,i64 f1];rw [show W7.alloc (.cells #[i64 k1,i64 i1,i64 f1] 52)=W8 from GX.symm];have Tn:=x7.trans x8;replace HC:=ae (HC.o.grow Tn);replace et:=ae (et.o.ext Tn);replace HD:=ae (HD.o.ext Tn)
       replace Vh:Hid (dN (fun b=>X<b∧b<W8.heap.size) cn):=Vh.o.mono fun b hb=>by have:=Tn.size;omega
       clear GX x8 x7 Tn;by_cases h0:ce=0
       ·have t1:(ce==0)=true:=by simpa using h0
        have HZ:Hid (cV cn=0):=by rw [←Cy.o];exact h0
        clear h0;have Tm: ∀j v,([i64 cn.hours,.slice cn.ra cn.aV.length cn.rc,.slice cn.ba cn.ak.length cn.bc,.slice cn.la cn.lines.length cn.lc,.slice cn.ua cn.au.length cn.uc,.slice cn.sa cn.stores.length cn.sc,.slice cn.ta cn.aL.length cn.tc,.slice cn.oa cn.outs.length cn.oc])[j]?=some v→W8.cell? ((⟨KD,0,none⟩:Addr).add j)=some v:=fun j v hj=>by rw [gM,HD.o.cell j];exact hj
        go_upto_region 33 with(first|(refine bG rfl 32 _ rfl ⟨KD,0,none⟩ rfl [i64 cn.hours,.slice cn.ra cn.aV.length cn.rc,.slice cn.ba cn.ak.length cn.bc,.slice cn.la cn.lines.length cn.lc,.slice cn.ua cn.au.length cn.uc,.slice cn.sa cn.stores.length cn.sc,.slice cn.ta cn.aL.length cn.tc,.slice cn.oa cn.outs.length cn.oc] _ Tm rfl rfl (by kernel_rfl) ?_)|(
            refine dM rfl 32 _ _ rfl X [i64 (hh:Int),.slice rb hh rc,.slice ba nb bc,.slice la ls.length lc,.slice ua us.length uc,.slice sa ss.length sc,.slice ta ts.length tc,.slice oa os.length oc] [i64 cn.hours,.slice cn.ra cn.aV.length cn.rc,.slice cn.ba cn.ak.length cn.bc,.slice cn.la cn.lines.length cn.lc,.slice cn.ua cn.au.length cn.uc,.slice cn.sa cn.stores.length cn.sc,.slice cn.ta cn.aL.length cn.tc,.slice cn.oa cn.outs.length cn.oc] HC.o.bJ rfl rfl (by kernel_rfl) rfl rfl ?_;intro W9 NL yU
            have HC9:Hid (CW V T R X a c l [i64 (hh:Int),.slice rb hh rc,.slice ba nb bc,.slice la ls.length lc,.slice ua us.length uc,.slice sa ss.length sc,.slice ta ts.length tc,.slice g2 os2.length k2] (⟨hh,rb,rc,rs,ba,bc,bs,la,lc,ls,ua,uc,us,sa,sc,ss,ta,tc,ts,g2,k2,os2⟩:ai) W9):=by
             rw [Lb.o.2.1,←Lb.o.1];exact HC.o.reset NL yU et.o Vh.o
            clear NL yU HC et Vh HD Tm))
        clear t1;have q3:IntKind.i64.wrap ((k:Int)-1)=((k-1:Nat):Int):=by rw [IntKind.wrap_i64];have:=HK.o;omega
        have q4:wrap64 ((k:Int)-1)=((k-1:Nat):Int):=by unfold wrap64;have:=HK.o;omega
        go_wp2_with fail
        exact ⟨⟨k-1,os2,g2,k2,by(have:=Lb.o.2.2;have:=HK.o;have:=Ld.o;omega),Yq.o,fun e=>absurd (congrArg List.length e) (by rw [Lb.o.2.2];simp),Or.inr (by rw [←Lb.o.1];exact HZ.o),HC9.o,by first|rfl|exact congrArg (Value.int IntKind.i64) q4⟩,by first|exact Nat.lt_of_le_of_lt (Nat.le_of_eq (congrArg Int.toNat q4)) (by show(((k-1:Nat):Int)).toNat<((k:Int)).toNat;omega)|(show(((k-1:Nat):Int)).toNat<((k:Int)).toNat;omega)⟩
       ·have t1:(ce==0)=false:=by simpa using h0
        clear h0;go_upto_region 33 with fail
        clear t1;have q3:IntKind.i64.wrap ((k:Int)-1)=((k-1:Nat):Int):=by rw [IntKind.wrap_i64];have:=HK.o;omega
        have q4:wrap64 ((k:Int)-1)=((k-1:Nat):Int):=by unfold wrap64;have:=HK.o;omega
        go_wp2_with fail
        exact ⟨⟨k-1,os,oa,oc,by(have:=HK.o;omega),LR.o,Iw.o,tJ.o,HC.o,by first|rfl|exact congrArg (Value.int IntKind.i64) q4⟩,by first|exact Nat.lt_of_le_of_lt (Nat.le_of_eq (congrArg Int.toNat q4)) (by show(((k-1:Nat):Int)).toNat<((k:Int)).toNat;omega)|(show(((k-1:Nat):Int)).toNat<((k:Int)).toNat;omega)⟩
     ·have b1:decide ((0:Int)<(ls.length:Int))=false:=by rw [decide_eq_false_iff_not];omega
      have hl0:ls.length=0:=by omega
      go_wp2_with fail
      go_meet
      exact ⟨os,oa,oc,by(have:=HK.o;omega),LR.o,tJ.o,HC.o⟩
    ·obtain rfl:k=0:=by omega
     go_wp2_with fail
     go_meet
     exact ⟨os,oa,oc,by(have:=HK.o;omega),LR.o,tJ.o,HC.o⟩
 case rest=>
  obtain ⟨os,oa,oc,hol,Tg,kM,hC⟩:=hcut;generalize wc=WE at*;clear HC;have HC:=ae hC;have LR:=ae (And.intro hol (And.intro Tg kM))
  clear hC hol Tg kM
  as_aux_lemma=>
   have HQ:Hid (∃x:ai,aS WE x∧fI hh nb x∧cV x=0∧dN (fun b=>X<b∧b<WE.heap.size) x∧ [i64 (hh:Int),.slice rb hh rc,.slice ba nb bc,.slice la ls.length lc,.slice ua us.length uc,.slice sa ss.length sc,.slice ta ts.length tc,.slice oa os.length oc]=x.cells):=by
    have MM:fI hh nb (⟨hh,rb,rc,rs,ba,bc,bs,la,lc,ls,ua,uc,us,sa,sc,ss,ta,tc,ts,oa,oc,os⟩:ai):=⟨rfl,HH.o,DU.o,⟨jo.o,jE.o⟩,Ce.o,nU.o,rV.o,lK.o,JB.o,wb.o.1,wb.o.2,Tf.o.1,Tf.o.2,LR.o.1,LR.o.2.1⟩;refine ⟨(⟨hh,rb,rc,rs,ba,bc,bs,la,lc,ls,ua,uc,us,sa,sc,ss,ta,tc,ts,oa,oc,os⟩:ai),HC.o.case',MM,?_,HC.o.bl,?_⟩
    ·rcases LR.o.2.2 with q|q
     ·exact MM.accept q
     ·exact q
    ·simp only [ai.cells]
     rw [DU.o.1,jo.o]
   have Iu: ∀j v,([i64 (hh:Int),.slice rb hh rc,.slice ba nb bc,.slice la ls.length lc,.slice ua us.length uc,.slice sa ss.length sc,.slice ta ts.length tc,.slice oa os.length oc])[j]?=some v→WE.cell? ((⟨X,0,none⟩:Addr).add j)=some v:=fun j v hj=>by rw [gM,HC.o.bJ.cell j];exact hj
   go_wp2_with (first|(refine bG rfl 32 _ rfl ⟨X,0,none⟩ rfl [i64 (hh:Int),.slice rb hh rc,.slice ba nb bc,.slice la ls.length lc,.slice ua us.length uc,.slice sa ss.length sc,.slice ta ts.length tc,.slice oa os.length oc] _ Iu rfl rfl (by kernel_rfl) ?_)|(refine dM rfl 32 _ _ rfl R Bd.cells [i64 (hh:Int),.slice rb hh rc,.slice ba nb bc,.slice la ls.length lc,.slice ua us.length uc,.slice sa ss.length sc,.slice ta ts.length tc,.slice oa os.length oc] HC.o.res rfl rfl (by kernel_rfl) rfl rfl ?_;intro Ew rE ij))
   obtain ⟨xf,Vg,MM,hz,hbl,hce⟩:=HQ.o;have hp:=HC.o.pos;exact bodyPost_ret (v:= .agg ([i64 (hh:Int),.slice rb hh rc,.slice ba nb bc,.slice la ls.length lc,.slice ua us.length uc,.slice sa ss.length sc,.slice ta ts.length tc,.slice oa os.length oc]).toArray) (nB 2 _ rfl rfl rE rfl rfl (by kernel_rfl)) rfl ⟨hh,nb,xf,by rw [hce],Vg.but ij (hbl.mono fun b hb=>by omega),MM,hz,hbl.mono (fun b hb=>by omega),ij.ext HC.o.ext hp.2.1⟩
end Go.Proofs.YtkpngkdgphojlaaGreat
