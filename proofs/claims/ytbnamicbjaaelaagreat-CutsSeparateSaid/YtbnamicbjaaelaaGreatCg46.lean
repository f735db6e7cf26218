/- Texts of the proof. -/
import Derived.Test.YtbnamicbjaaelaaGreatCg45
set_option linter.all false
set_option maxHeartbeats 40000000
set_option maxRecDepth 100000
namespace Go.Proofs.YtbnamicbjaaelaaGreat
open Go.Proofs.Tryz
open Go.RowKit
theorem M5 (V:World) (T:Nat) (R:Nat) (X:Nat) (a:Option Addr) (c:Nat) (l:List Int) (hh:Nat) (nb:Nat) (rc:Nat) (bc:Nat) (rb:Option Addr) (ba:Option Addr) (rs:List Int) (bs:List dK) (ls:List bn) (la:Option Addr) (lc:Nat) (us:List aP) (ua:Option Addr) (uc:Nat) (HL:Hid (aS V a c l)) (oq:Hid (V.heap.size<=T/\V.heap.size<=R)) (HH:Hid (1<=hh/\hh<=3)) (Cr:Hid (rs.length=hh/\ ∀z∈rs,0<=z/\z<5)) (jC:Hid (1<=nb/\nb<=4)) (Et:Hid (∀j (h:j<bs.length),kH bs[j] j hh)) (lK:Hid (bs.length=nb)) (uy:Hid (gT ls nb hh)) (tC:Hid (ls.length<=7)) (MX:Hid (j7 us nb hh)) (BK:Hid (1<=us.length/\us.length<=3)) (WQ:World) (HC:Hid (CW V T R X a c l [i64 (hh:Int),.slice rb hh rc,.slice ba nb bc,.slice la ls.length lc,.slice ua us.length uc,.slice none 0 0,.slice none 0 0,.slice none 0 0] (⟨hh,rb,rc,rs,ba,bc,bs,la,lc,ls,ua,uc,us,none,0,[],none,0,[],none,0,[]⟩:ay) WQ)) {u0 u1 u5 u6 u8 u9 u10 u11 u12 u13 u14 u15 u16 u17 u18 u19 u20 u21 u22 u23 u24 u25 u26 u27 u28 u29 u30 u31 u32 u33 u34 u35 u36 u37 u38 u39 u40 u41 u42 u43 u44 u45 u46 u47 u48 u49 u50 u51 u52 u53 u54 u55 u56 u57 u58 u59 u60 u61 u62 u63 u64 u65 u66 u67 u68 u69 u70 u71 u72 u73 u74 u75 u76 u77 u78 u79 u80 u81 u82 u83 u84 u85 u86 u87 u88 u89 u90 u91 u92 u93 u94 u95 u96 u97 u98 u99 u100 u101 u102 u103 u104 u105 u106 u107 u108 u109 u110 u111 u112 u113 u114 u115 u116 u117 u118 u119 u120 u121 u122 u123 u124 u125 u126 u127 u128 u129 u130 u131 u132 u133 u134 u135 u136 u137 u138 u139 u140 u141 u142 u143 u144 u145 u146 u147 u148 u149 u150 u151 u152 u153 u154 u155 u156 u157 u158 u159 u160 u161 u162 u163 u164 u165 u166 u167 u168 u169 u170 u171 u172 u173 u174 u175 u176 u177 u178 u179 u180 u181 u182 u183 u184 u185 u186 u187 u188 u189 u190 u191 u192 u193 u194 u195 u196 u197 u198 u199 u200 u201 u202 u203 u204 u205 u206 u207 u208 u209 u210 u211 u212 u213 u214 u215 u216 u217 u218 u219 u220 u221 u222 u223 u224 u225 u226 u227 u228 u229 u230 u231 u232 u233 u234 u235 u236:Value}:Code.wp prog (fO 9 Tryz.caseCode) (bodyPost prog Tryz.f8 λe w'=> ∃(hh nb:Nat) (x:ay),e= .returned (.agg x.cells.toArray)/\bm w' x/\gU hh nb x/\cE x=0/\(cP (λb=>V.heap.size<=b) x/\eE w' x/\cP (λb=>b<w'.heap.size) x)/\Ext V w') {tmps:= #[u0,u1,.pointer (some ⟨R,0,none⟩),.pointer (some ⟨T,0,none⟩),.pointer (some ⟨X,0,none⟩),u5,u6,.int .i64 (nb:Int),u8,u9,u10,u11,u12,u13,u14,u15,u16,u17,u18,u19,u20,u21,u22,u23,u24,u25,u26,u27,u28,u29,u30,u31,u32,u33,u34,u35,u36,u37,u38,u39,u40,u41,u42,u43,u44,u45,u46,u47,u48,u49,u50,u51,u52,u53,u54,u55,u56,u57,u58,u59,u60,u61,u62,u63,u64,u65,u66,u67,u68,u69,u70,u71,u72,u73,u74,u75,u76,u77,u78,u79,u80,u81,u82,u83,u84,u85,u86,u87,u88,u89,u90,u91,u92,u93,u94,u95,u96,u97,u98,u99,u100,u101,u102,u103,u104,u105,u106,u107,u108,u109,u110,u111,u112,u113,u114,u115,u116,u117,u118,u119,u120,u121,u122,u123,u124,u125,u126,u127,u128,u129,u130,u131,u132,u133,u134,u135,u136,u137,u138,u139,u140,u141,u142,u143,u144,u145,u146,u147,u148,u149,u150,u151,u152,u153,u154,u155,u156,u157,u158,u159,u160,u161,u162,u163,u164,u165,u166,u167,u168,u169,u170,u171,u172,u173,u174,u175,u176,u177,u178,u179,u180,u181,u182,u183,u184,u185,u186,u187,u188,u189,u190,u191,u192,u193,u194,u195,u196,u197,u198,u199,u200,u201,u202,u203,u204,u205,u206,u207,u208,u209,u210,u211,u212,u213,u214,u215,u216,u217,u218,u219,u220,u221,u222,u223,u224,u225,u226,u227,u228,u229,u230,u231,u232,u233,u234,u235,u236],defers:= []} WQ:=by
 have gl:=ah (fY.of V V T a c l oq.o.1 (Ext.refl V) HL.o);have H9:=ah (λU (hx:Ext V U) (hU:bO U T a c l) (m:Int) (hm:0<m) (ri:m<1000000)=>lB V U T a c l hh m oq.o.1 hx HL.o hU (bA HH.o) hm ri);conv=>arg 2;dsimp only [Tryz.caseCode,Tryz.f8,fO,Option.getD]
 go_wp2_with fail
 refine (gl.o WQ 3 (HC.o.ext.but T) HC.o.tape aq aq).mono ?_;rintro e WR ⟨q,rfl,OJ,hT,hx⟩;replace HC:=ah (HC.o.next hT hx);clear hT hx OJ;go_upto_if 139 with fail
 go_cut [] (λwx=> ∃(ss:List bW) (sa:Option Addr) (sc:Nat),ss.length<=1/\(∀s∈ss,nT s nb)/\CW V T R X a c l [i64 (hh:Int),.slice rb hh rc,.slice ba nb bc,.slice la ls.length lc,.slice ua us.length uc,.slice sa ss.length sc,.slice none 0 0,.slice none 0 0] (⟨hh,rb,rc,rs,ba,bc,bs,la,lc,ls,ua,uc,us,sa,sc,ss,none,0,[],none,0,[]⟩:ay) wx)
 case first=>
  as_aux_lemma=>
   rcases Bool.eq_false_or_eq_true (q==2)with hq|hq
   .go_wp2_with fail
    refine (gl.o WR (nb:Int) (HC.o.ext.but T) HC.o.tape (bA jC.o) (bA jC.o)).mono ?_;rintro e Z1 ⟨M4,rfl,Eu,hT,hx⟩;replace HC:=ah (HC.o.next hT hx);have Ev:=ah Eu;clear hT hx Eu;go_wp2_with fail
    refine (gl.o Z1 20 (HC.o.ext.but T) HC.o.tape aq aq).mono ?_;rintro e Z2 ⟨cp,rfl,XQ,hT,hx⟩;replace HC:=ah (HC.o.next hT hx);have GD:=ah XQ;clear hT hx XQ;go_wp2_with fail
    refine (gl.o Z2 8 (HC.o.ext.but T) HC.o.tape aq aq).mono ?_;rintro e Z3 ⟨ch,rfl,XR,hT,hx⟩;replace HC:=ah (HC.o.next hT hx);have XS:=ah XR;clear hT hx XR;go_wp2_with fail
    refine (gl.o Z3 8 (HC.o.ext.but T) HC.o.tape aq aq).mono ?_;rintro e Z4 ⟨dc,rfl,XT,hT,hx⟩;replace HC:=ah (HC.o.next hT hx);have XU:=ah XT;clear hT hx XT;go_wp2_with fail
    refine (gl.o Z4 4 (HC.o.ext.but T) HC.o.tape aq aq).mono ?_;rintro e Z5 ⟨ef,rfl,XV,hT,hx⟩;replace HC:=ah (HC.o.next hT hx);have SU:=ah XV;clear hT hx XV;have q1:IntKind.i64.wrap (1+ef)=1+ef:=by rw [IntKind.wrap_i64];have:=SU.o;omega
    simp only [];first|go_values|go_skip|go_guarded|go_step|go_upon
    first|go_values|go_skip|go_guarded|go_step|go_upon
    first|go_values|go_skip|go_guarded|go_step|go_upon
    first|go_values|go_skip|go_guarded|go_step|go_upon
    first|go_values|go_skip|go_guarded|go_step|go_upon
    first|go_values|go_skip|go_guarded|go_step|go_upon
    first|go_values|go_skip|go_guarded|go_step|go_upon
    first|go_values|go_skip|go_guarded|go_step|go_upon
    refine tv 70 _ rfl [(0,.string {data:= #[115,48]}),(1,i64 M4),(2,i64 cp),(5,i64 ch),(6,i64 dc),(7,.agg #[i64 (1+ef),i64 4])] [.string {data:= #[115,48]},i64 M4,i64 cp,i64 0,i64 0,i64 ch,i64 dc,i64 (1+ef),i64 4] (by go_simp) ax ?_;go_upto_region 27 with(refine bP rfl 70 _ _ rfl Cf.cells [.string {data:= #[115,48]},i64 M4,i64 cp,i64 0,i64 0,i64 ch,i64 dc,i64 (1+ef),i64 4] rfl rfl ax rfl rfl ?_)
    clear q1;obtain ⟨WS,hWS,xs,-,AS⟩:=aV Z5 70 [.string {data:= #[115,48]},i64 M4,i64 cp,i64 0,i64 0,i64 ch,i64 dc,i64 (1+ef),i64 4];rw [show Z5.alloc (.cells #[.string {data:= #[115,48]},i64 M4,i64 cp,i64 0,i64 0,i64 ch,i64 dc,i64 (1+ef),i64 4] 70)=WS from hWS.symm];obtain ⟨B,hB⟩: ∃B,B=Z5.heap.size:=⟨_,rfl⟩;rw [<-hB]at AS⊢;have lK:Hid (cP (λb=>b≠B) (⟨hh,rb,rc,rs,ba,bc,bs,la,lc,ls,ua,uc,us,none,0,[],none,0,[],none,0,[]⟩:ay)):=HC.o.bl.mono λb hb=>by rw [hB];omega
    have J8:Hid (B≠T):=by(have:=HC.o.tape.lt;show _≠_;omega)
    have HBX:Hid (X<B):=by(have:=HC.o.cg.lt;show _<_;omega)
    have HB:=ah AS;replace HC:=ah (HC.o.grow xs);clear hWS AS xs hB;have q3:IntKind.i64.wrap (cp+1)=cp+1:=by rw [IntKind.wrap_i64];have:=GD.o;omega
    refine aO (λw'=>w'.cell? ⟨B,2,none⟩=some (i64 cp)) (λw'=>True) (λi=>i==11||i==13) ax ((HB.o.cell 2).trans rfl) (trivial) (λaD ai=> ?_);refine aJ 0 aD ai ?_;refine aJ 1 aD ai ?_;refine aJ 2 aD ai ?_ (v:=i64 cp);refine aJ 3 aD ai ?_ (v:=i64 (cp+1));refine aJ 5 aD ai ?_;refine aJ 6 aD ai ?_;refine aJ 7 aD ai ?_ (v:=i64 cp);refine aJ 8 aD ai ?_ (v:=i64 (cp+1));replace HC:=ah (HC.o.grow (Ext.refl WS).drew);replace HB:=ah (HB.o.ext (Ext.refl WS).drew);generalize WS.drew=Y1 at*;refine eI 4 rfl (λKc hK=> ?_);go_simp;refine (gl.o Y1 (cp+1) (HC.o.ext.but T) HC.o.tape (bA GD.o) (bA GD.o)).mono ?_;rintro e Y2 ⟨XW,rfl,Qq,hT,hx⟩;replace HC:=ah (HC.o.next hT hx);replace HB:=ah (HB.o.but hx J8.o);have Qr:=ah Qq;clear hT hx Qq;refine hK.o _ _ ((HB.o.cell 2).trans rfl) (trivial) (λaD ai=> ?_);clear hK Kc;try simp only [j8,j9,j_,List.setIfInBounds_toArray,ke,kf,Act.put]
    refine aJ 10 aD ai ?_;refine eI 9 rfl (λKc hK=> ?_);go_simp;refine (gl.o Y2 (cp+1) (HC.o.ext.but T) HC.o.tape (bA GD.o) (bA GD.o)).mono ?_;rintro e Y3 ⟨fin,rfl,Qs,hT,hx⟩;replace HC:=ah (HC.o.next hT hx);replace HB:=ah (HB.o.but hx J8.o);have Qt:=ah Qs;clear hT hx Qs;refine hK.o _ _ ((HB.o.cell 2).trans rfl) (trivial) (λaD ai=> ?_);clear hK Kc;try simp only [j8,j9,j_,List.setIfInBounds_toArray,ke,kf,Act.put]
    have d3:=HB.o.cl 3 (i64 0) rfl;have f3:=HB.o.frozen 3;have ud:=ah (HB.o.set 3 (i64 XW));have qM:=ah (HC.o.but ((aB.refl B Y3).ez (o:=3) (v:=i64 XW)) HBX.o lK.o);refine bH (rs:= [11]) ax aG ?_;refine aQ.late rfl ax (λKc hK=> ?_) aQ.nil;go_simp;refine hK.o _ _ ((ud.o.cell 2).trans rfl) (λaD=> ?_);clear hK Kc;try simp only [j8,j9,j_,List.setIfInBounds_toArray,ke,kf,Act.put]
    clear HB HC d3 f3;have HB:=ud;have HC:=qM;clear ud qM;generalize (Y3.setCell ⟨B,3,none⟩ (i64 XW))=Y4 at*;refine wTl 12 aD ?_;have d4:=HB.o.cl 4 (i64 0) rfl;have f4:=HB.o.frozen 4;have ud:=ah (HB.o.set 4 (i64 fin));have qM:=ah (HC.o.but ((aB.refl B Y4).ez (o:=4) (v:=i64 fin)) HBX.o lK.o);refine bH (rs:= [13]) ax aG ?_;refine aQ.late rfl ax (λKc hK=> ?_) aQ.nil;go_simp;refine hK.o _ _ ((ud.o.cell 2).trans rfl) (λaD=> ?_);clear hK Kc;try simp only [j8,j9,j_,List.setIfInBounds_toArray,ke,kf,Act.put]
    clear HB HC d4 f4;have HB:=ud;have HC:=qM;clear ud qM;generalize (Y4.setCell ⟨B,4,none⟩ (i64 fin))=Y5 at*;refine aI ax ?_ _;clear aD;clear q3;obtain ⟨x,hx⟩: ∃x:bW,x=⟨{data:= #[115,48]},M4,cp,XW,fin,ch,dc,1+ef,4⟩:=⟨_,rfl⟩;have XP: [.string {data:= #[115,48]},i64 M4,i64 cp,i64 XW,i64 fin,i64 ch,i64 dc,i64 (1+ef),i64 4]=x.cells:=by rw [hx];rfl
    have HM:Hid (nT x nb):=by
     have h1:=Ev.o;have h2:=GD.o;have h3:=XS.o;have h4:=XU.o;have h5:=SU.o;have h6:=Qr.o;have h7:=Qt.o
     rw [hx];exact ⟨rfl,h1,h2,⟨h6.1,by simp only;omega⟩,⟨h7.1,by simp only;omega⟩,h3,h4,by simp only;omega,by simp only;omega,rfl⟩
    replace HB:Hid (aT Y5 B 70 x.cells):=by rw [<-XP];exact HB.o
    clear hx XP Ev GD XS XU SU Qr Qt;obtain ⟨F,hF⟩: ∃F,F=Y5.heap.size:=⟨_,rfl⟩
    have HP:Hid (iQ V T R X F a c l [i64 (hh:Int),.slice rb hh rc,.slice ba nb bc,.slice la ls.length lc,.slice ua us.length uc,.slice none 0 0,.slice none 0 0,.slice none 0 0] (⟨hh,rb,rc,rs,ba,bc,bs,la,lc,ls,ua,uc,us,none,0,[],none,0,[],none,0,[]⟩:ay) 70 9 none 0 [] [] [] Y5):=by
     rw [hF];exact ⟨HC.o,aL.nil _ _ _ _,λs hs=>absurd hs aG,λs hs=>absurd hs aG,HC.o.bl.mono λb hb=>hb.2,bY,HC.o.cg.lt⟩
    clear HC hF;have c5:Y5.cell? ⟨X,5,none⟩=some (.slice none 0 0):=(HP.o.cw.cg.cell 5).trans rfl;have Jv: ∀j v,x.cells[j]?=some v->Y5.cell? ((⟨B,0,none⟩:Addr).add j)=some v:=λj v hj=>by rw [fj,HB.o.cell j];exact hj
    go_wp2_with (first|(refine br rfl 70 _ rfl ⟨B,0,none⟩ rfl x.cells _ Jv rfl rfl rfl ?_)|(
     refine ij rfl 28 _ rfl 70 (.agg Cf.cells.toArray) 9 80 underlying28 Tryz.info_store aq aq x.cells rfl rfl ?_;intro Y6 tA x6;have XX:=ah (HP.o.grow x6);have Am:=ah tA;have d5:Y6.cell? ⟨X,5,none⟩=some (.slice none 0 0):=(XX.o.cw.cg.cell 5).trans rfl;clear tA x6 HP c5 Jv HB)|(
     at_builtin
     refine bC _ rfl _ _ 28 rfl F 70 (.agg Cf.cells.toArray) 9 80 underlying28 Tryz.info_store rfl aq (.slice none 0 0) 0 [] rfl ?c1 (some ⟨Y5.heap.size,0,none⟩) 1 1 x.cells rfl rfl ?c2 ?c3 ?c4 ?c5 aq ?c6 ?_
     case c1=>exact XX.o.own.own
     case c2=>exact λ_=>⟨_,rfl,Am.o.adds⟩
     case c3=>exact λu hu=>List.all_eq_true.1 (show x.cells.all (·.oneCell')=true from rfl) u hu
     case c4=>intro e;cases e
     case c5=>omega
     case c6=>exact XX.o.size
     intro v1 w5 ho he hb hz hv;obtain ⟨g2,k2,rfl,c5',f5',Qp⟩:=GC XX.o (HM.o.wE (bA jC.o)) ho.o he.o hb.o hz.o hv.o;have qM:=ah Qp;clear XX Am d5 ho he hb hz hv Qp))
    go_meet
    exact ⟨[x],g2,k2,bY,λs hs=>by rw [List.mem_singleton]at hs;rw [hs];exact HM.o,qM.o⟩
   .go_wp2
    go_meet
    exact ⟨[],none,0,aZ,λs hs=>absurd hs aG,HC.o⟩
 case rest=>
  obtain ⟨ss,sa,sc,Ch,hsm,hC⟩:=hcut;generalize wc=WT at*;clear HC;have HC:=ah hC;have CZ:=ah (And.intro Ch hsm)
  clear hC Ch hsm;go_step
  exact M0 V T R X a c l hh nb rc bc rb ba rs bs ls la lc us ua uc ss sa sc HL oq HH Cr jC Et lK uy tC MX BK CZ WT HC
