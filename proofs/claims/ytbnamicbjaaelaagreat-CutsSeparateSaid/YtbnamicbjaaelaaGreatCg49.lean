/- Texts of the proof. -/
import Derived.Test.YtbnamicbjaaelaaGreatCg48
set_option linter.all false
set_option maxHeartbeats 40000000
set_option maxRecDepth 100000
namespace Go.Proofs.YtbnamicbjaaelaaGreat
open Go.Proofs.Tryz
open Go.RowKit
theorem M9 (V:World) (T:Nat) (R:Nat) (X:Nat) (a:Option Addr) (c:Nat) (l:List Int) (hh:Nat) (nb:Nat) (rc:Nat) (bc:Nat) (rb:Option Addr) (ba:Option Addr) (rs:List Int) (bs:List dK) (HL:Hid (aS V a c l)) (oq:Hid (V.heap.size<=T/\V.heap.size<=R)) (HH:Hid (1<=hh/\hh<=3)) (Cr:Hid (rs.length=hh/\ ∀z∈rs,0<=z/\z<5)) (jC:Hid (1<=nb/\nb<=4)) (Et:Hid (∀j (h:j<bs.length),kH bs[j] j hh)) (lK:Hid (bs.length=nb)) (WL:World) (HC:Hid (CW V T R X a c l [i64 (hh:Int),.slice rb hh rc,.slice ba nb bc,.slice none 0 0,.slice none 0 0,.slice none 0 0,.slice none 0 0,.slice none 0 0] (⟨hh,rb,rc,rs,ba,bc,bs,none,0,[],none,0,[],none,0,[],none,0,[],none,0,[]⟩:ay) WL)) {u0 u1 u5 u6 u7 u8 u9 u10 u11 u12 u13 u14 u15 u16 u17 u18 u19 u20 u21 u22 u23 u24 u25 u26 u27 u28 u29 u30 u31 u32 u33 u34 u35 u36 u37 u38 u39 u40 u41 u42 u43 u44 u45 u46 u47 u48 u49 u50 u51 u52 u53 u54 u55 u56 u57 u58 u59 u60 u61 u62 u63 u64 u65 u66 u67 u68 u69 u70 u71 u72 u73 u74 u75 u76 u77 u78 u79 u80 u81 u82 u83 u84 u85 u86 u87 u88 u89 u90 u91 u92 u93 u94 u95 u96 u97 u98 u99 u100 u101 u102 u103 u104 u105 u106 u107 u108 u109 u110 u111 u112 u113 u114 u115 u116 u117 u118 u119 u120 u121 u122 u123 u124 u125 u126 u127 u128 u129 u130 u131 u132 u133 u134 u135 u136 u137 u138 u139 u140 u141 u142 u143 u144 u145 u146 u147 u148 u149 u150 u151 u152 u153 u154 u155 u156 u157 u158 u159 u160 u161 u162 u163 u164 u165 u166 u167 u168 u169 u170 u171 u172 u173 u174 u175 u176 u177 u178 u179 u180 u181 u182 u183 u184 u185 u186 u187 u188 u189 u190 u191 u192 u193 u194 u195 u196 u197 u198 u199 u200 u201 u202 u203 u204 u205 u206 u207 u208 u209 u210 u211 u212 u213 u214 u215 u216 u217 u218 u219 u220 u221 u222 u223 u224 u225 u226 u227 u228 u229 u230 u231 u232 u233 u234 u235 u236:Value}:Code.wp prog (fO 5 Tryz.caseCode) (bodyPost prog Tryz.f8 λe w'=> ∃(hh nb:Nat) (x:ay),e= .returned (.agg x.cells.toArray)/\bm w' x/\gU hh nb x/\cE x=0/\(cP (λb=>V.heap.size<=b) x/\eE w' x/\cP (λb=>b<w'.heap.size) x)/\Ext V w') {tmps:= #[u0,u1,.pointer (some ⟨R,0,none⟩),.pointer (some ⟨T,0,none⟩),.pointer (some ⟨X,0,none⟩),u5,u6,u7,u8,u9,u10,u11,u12,u13,u14,u15,u16,u17,u18,u19,u20,u21,u22,u23,u24,u25,u26,u27,u28,u29,u30,u31,u32,u33,u34,u35,u36,u37,u38,u39,u40,u41,u42,u43,u44,u45,u46,u47,u48,u49,u50,u51,u52,u53,u54,u55,u56,u57,u58,u59,u60,u61,u62,u63,u64,u65,u66,u67,u68,u69,u70,u71,u72,u73,u74,u75,u76,u77,u78,u79,u80,u81,u82,u83,u84,u85,u86,u87,u88,u89,u90,u91,u92,u93,u94,u95,u96,u97,u98,u99,u100,u101,u102,u103,u104,u105,u106,u107,u108,u109,u110,u111,u112,u113,u114,u115,u116,u117,u118,u119,u120,u121,u122,u123,u124,u125,u126,u127,u128,u129,u130,u131,u132,u133,u134,u135,u136,u137,u138,u139,u140,u141,u142,u143,u144,u145,u146,u147,u148,u149,u150,u151,u152,u153,u154,u155,u156,u157,u158,u159,u160,u161,u162,u163,u164,u165,u166,u167,u168,u169,u170,u171,u172,u173,u174,u175,u176,u177,u178,u179,u180,u181,u182,u183,u184,u185,u186,u187,u188,u189,u190,u191,u192,u193,u194,u195,u196,u197,u198,u199,u200,u201,u202,u203,u204,u205,u206,u207,u208,u209,u210,u211,u212,u213,u214,u215,u216,u217,u218,u219,u220,u221,u222,u223,u224,u225,u226,u227,u228,u229,u230,u231,u232,u233,u234,u235,u236],defers:= []} WL:=by
 have gl:=ah (fY.of V V T a c l oq.o.1 (Ext.refl V) HL.o);have H9:=ah (λU (hx:Ext V U) (hU:bO U T a c l) (m:Int) (hm:0<m) (ri:m<1000000)=>lB V U T a c l hh m oq.o.1 hx HL.o hU (bA HH.o) hm ri);conv=>arg 2;dsimp only [Tryz.caseCode,Tryz.f8,fO,Option.getD]
 have PU:=ah (λU (hx:Ext V U) (hU:bO U T a c l) (i fr tb:Nat) (hi:i<16)=>Hi V U T a c l i fr tb (hh:Int) oq.o.1 hx HL.o hU hi (bA HH.o) (bA HH.o));have c2:WL.cell? ⟨X,2,none⟩=some (.slice ba nb bc):=(HC.o.cg.cell 2).trans rfl
 go_upto_block 2 with fail
 clear c2;obtain ⟨D,hD⟩: ∃D,D=WL.heap.size:=⟨_,rfl⟩
 have HP:Hid (iQ V T R X D a c l [i64 (hh:Int),.slice rb hh rc,.slice ba nb bc,.slice none ([]:List bn).length 0,.slice none 0 0,.slice none 0 0,.slice none 0 0,.slice none 0 0] (⟨hh,rb,rc,rs,ba,bc,bs,none,0,[],none,0,[],none,0,[],none,0,[],none,0,[]⟩:ay) 66 12 none 0 (([]:List bn).map bn.cells) (kC []) [] WL):=by
  rw [hD];exact ⟨HC.o,aL.nil _ _ _ _,λs hs=>absurd hs (by simp [kC]),λs hs=>absurd hs aG,HC.o.bl.mono λb hb=>hb.2,bY,HC.o.cg.lt⟩
 clear HC hD;go_cut [] (λwx=> ∃(ls:List bn) (la:Option Addr) (lc:Nat),ls.length+1=nb/\gT ls nb hh/\iQ V T R X D a c l [i64 (hh:Int),.slice rb hh rc,.slice ba nb bc,.slice la ls.length lc,.slice none 0 0,.slice none 0 0,.slice none 0 0,.slice none 0 0] (⟨hh,rb,rc,rs,ba,bc,bs,none,0,[],none,0,[],none,0,[],none,0,[],none,0,[]⟩:ay) 66 12 la lc (ls.map bn.cells) (kC ls) [] wx)
 case first=>
  as_aux_lemma=>
   go_wp2
   go_loopw [8] (λv wr=> ∃(k:Nat) (ls:List bn) (la:Option Addr) (lc:Nat),k+1<=nb/\ls.length=k/\gT ls nb hh/\iQ V T R X D a c l [i64 (hh:Int),.slice rb hh rc,.slice ba nb bc,.slice la ls.length lc,.slice none 0 0,.slice none 0 0,.slice none 0 0,.slice none 0 0] (⟨hh,rb,rc,rs,ba,bc,bs,none,0,[],none,0,[],none,0,[],none,0,[],none,0,[]⟩:ay) 66 12 la lc (ls.map bn.cells) (kC ls) [] wr/\v= .int .i64 ((k+1:Nat):Int)) (λv _=>nb-(intOf v).toNat)
   case atStart=>exact ⟨0,[],none,0,jC.o.1,rfl,λj h=>absurd h aG,HP.o,rfl⟩
   case round=>
    obtain ⟨k,ls,la,lc,hk,uM,wI,hP,rfl⟩:=hrel;clear HP;have HP:=ah hP;have uy:=ah wI;have tC:Hid (ls.length<nb):=by(show _<_;omega)
    have HLK:=ah uM;clear hP wI uM;by_cases hlt:k+1<nb
    .have b0:((k+1:Nat):Int)<(nb:Int):=ae
     have b1:decide (((k+1:Nat):Int)<(nb:Int))=true:=by simpa using b0
     go_upto_region 15 with fail
     refine aO (λw'=>w'.cell? ⟨X,0,none⟩=some (i64 (hh:Int))) (λw'=>w'.cell? ⟨X,3,none⟩=some (.slice la ls.length lc)) (λi=>i==16) ax ((HP.o.cw.cg.cell 0).trans rfl) ((HP.o.cw.cg.cell 3).trans rfl) (λaD ai=> ?_);refine aJ 0 aD ai ?_;refine GL 1 aD ai ?_;refine aJ 2 aD ai ?_;refine aJ 3 aD ai ?_;refine GL 4 aD ai ?_;refine aJ 5 aD ai ?_ (v:= .int .i64 (ls.length:Int));refine aJ 6 aD ai ?_;refine aJ 7 aD ai ?_ (v:= .int .i64 ((k+1:Nat):Int));refine aJ 9 aD ai ?_ (v:= .int .i64 ((k+1:Nat):Int));refine aJ 10 aD ai ?_;refine aJ 11 aD ai ?_ (v:=i64 (hh:Int));replace HP:=ah (HP.o.grow (Ext.refl wr).drew);generalize wr.drew=Y2 at*;refine eI 8 rfl (λKc hK=> ?_);go_simp;refine (gl.o Y2 ((k+1:Nat):Int) (HP.o.cw.ext.but T) HP.o.cw.tape ae (bA jC.o)).mono ?_;rintro e Y3 ⟨y,rfl,Nw,hT,hx⟩;replace HP:=ah (HP.o.next hT hx);obtain ⟨fr,Jt⟩: ∃fr:Nat,y=(fr:Int):=⟨y.toNat,ae⟩;subst Jt;have Mc:Hid (fr<k+1/\k+1<nb):=by(show _/\_;omega)
     clear Nw hT hx;refine hK.o _ _ ((HP.o.cw.cg.cell 0).trans rfl) ((HP.o.cw.cg.cell 3).trans rfl) (λaD ai=> ?_);clear hK Kc;try simp only [j8,j9,j_,List.setIfInBounds_toArray,ke,kf,Act.put]
     refine eI 12 rfl (λKc hK=> ?_);go_simp;refine (PU.o Y3 HP.o.cw.ext HP.o.cw.tape ls.length fr (k+1) (qj tC.o jC.o)).mono ?_;rintro e Y4 ⟨x,rfl,hm,hi,hf,hT,hx⟩;replace HP:=ah (HP.o.addLine hT hx hi hf hm.R5.2);have HM:=ah hm;clear hm hi hf hT hx;refine hK.o _ _ ((HP.o.cw.cg.cell 0).trans rfl) ((HP.o.cw.cg.cell 3).trans rfl) (λaD ai=> ?_);clear hK Kc;try simp only [j8,j9,j_,List.setIfInBounds_toArray,ke,kf,Act.put]
     as_aux_lemma=>
      refine eI 13 rfl (λKc hK=> ?_);rw [if_pos eN];refine dM 26 (.tmp 78) rfl 66 (.agg mj.cells.toArray) 12 120 underlying26 Tryz.info_line aq aq x.cells rfl rfl ?_;intro Y5 tA x5;replace HP:=ah (HP.o.grow x5);have Am:=ah tA;clear tA x5;refine hK.o _ _ ((HP.o.cw.cg.cell 0).trans rfl) ((HP.o.cw.cg.cell 3).trans rfl) (λaD ai=> ?_);clear hK Kc;try simp only [j8,j9,j_,List.setIfInBounds_toArray,ke,kf,Act.put]
      refine eI 14 rfl (λKc hK=> ?_);rw [if_pos eN];refine gD _ (.tmp 67) (.tmp 79) 26 rfl D 66 (.agg mj.cells.toArray) 12 120 underlying26 Tryz.info_line rfl aq (.slice la ls.length lc) ls.length (ls.map bn.cells).flatten rfl ?c1 Y4.heap.size x.cells rfl rfl Am.o rfl ?c5 aq HP.o.size ?_
      case c1=>
       have h5:=HP.o.own.own;rw [List.length_map]at h5;exact h5
      case c5=>have:=tC.o;have:=jC.o;omega
      intro v1 w5 ho he hb hz hv;obtain ⟨g2,k2,rfl,c3,c0,f3,vJ⟩:=Ap HP.o ho.o he.o hb.o hz.o hv.o;obtain ⟨JR,GF⟩: ∃JR,JR=ls++ [x]:=⟨_,rfl⟩
      have JS:Hid (JR.length=ls.length+1/\gT JR nb hh):=by
       rw [GF];exact ⟨aG,uy.o.snoc (qj Mc.o jC.o) (qj Mc.o jC.o) (bA Mc.o) HM.o⟩
      rw [<-GF]at vJ⊢;have M7:=ah vJ;clear HP Am ho he hb hz hv vJ GF HM uy;refine hK.o _ _ (c0) (c3) (λaD ai=> ?_);clear hK Kc;try simp only [j8,j9,j_,List.setIfInBounds_toArray,ke,kf,Act.put]
      refine aJ 15 aD ai ?_;refine bH (rs:= [16]) ax aG ?_;refine aQ.late rfl ax (λKc hK=> ?_) aQ.nil;go_simp;refine hK.o _ _ ((M7.o.cw.cg.cell 0).trans rfl) (λaD=> ?_);clear hK Kc;try simp only [j8,j9,j_,List.setIfInBounds_toArray,ke,kf,Act.put]
      refine aI ax ?_ _;clear aD c3 f3 c0;generalize (w5.setCell ⟨X,3,none⟩ (.slice g2 JR.length k2))=Y6 at*;have q3:IntKind.i64.wrap (((k+1:Nat):Int)+1)=((k+1+1:Nat):Int):=by rw [IntKind.wrap_i64];have:=jC.o;omega
      have q4:wrap64 ((k:Int)+1+1)=((k+1+1:Nat):Int):=by unfold wrap64;have:=jC.o;omega
      go_wp2_with fail
      refine ⟨⟨k+1,JR,g2,k2,ae,by rw [JS.o.1,HLK.o],JS.o.2,M7.o,congrArg (Value.int IntKind.i64) q4⟩,?_⟩;clear M7 JS gl H9 PU;generalize hz:wrap64 ((k:Int)+1+1)=z at*;subst q4;simp only [intOf,Int.toNat_natCast];omega
    .have b1:decide (((k+1:Nat):Int)<(nb:Int))=false:=by rw [decide_eq_false_iff_not];omega
     go_wp2
     go_meet
     exact ⟨ls,la,lc,by rw [HLK.o];omega,uy.o,HP.o⟩
 case rest=>
  obtain ⟨Qu,XZ,X2,uM,wI,hP⟩:=hcut;generalize wc=WM at*;clear HP;have HP:=ah hP;have uy:=ah wI;have tC:=ah uM
  clear hP wI uM;go_step
  exact M8 V T R X a c l hh nb rc bc rb ba rs bs D Qu XZ X2 HL oq HH Cr jC Et lK uy tC WM HP
