/- Texts of the proof. -/
import Derived.Test.YtkpngkdgphojlaaGreatCd45
set_option linter.all false
set_option maxHeartbeats 40000000
set_option maxRecDepth 100000
namespace Go.Proofs.YtkpngkdgphojlaaGreat
open Go.Proofs.Tryz
open Go.RowKit
theorem JK (V:World) (T:Nat) (R:Nat) (X:Nat) (a:Option Addr) (c:Nat) (l:List Int) (hh:Nat) (nb:Nat) (rc:Nat) (bc:Nat) (rb:Option Addr) (ba:Option Addr) (rs:List Int) (bs:List cA) (HL:Hid (aD V a c l)) (mU:Hid (V.heap.size≤T∧V.heap.size≤R)) (HH:Hid (1≤hh∧hh≤3)) (DU:Hid (rs.length=hh∧ ∀z∈rs,0≤z∧z<5)) (jE:Hid (1≤nb∧nb≤4)) (Ce:Hid (∀j (h:j<bs.length),jR bs[j] j hh)) (jo:Hid (bs.length=nb)) (WL:World) (HC:Hid (CW V T R X a c l [i64 (hh:Int),.slice rb hh rc,.slice ba nb bc,.slice none 0 0,.slice none 0 0,.slice none 0 0,.slice none 0 0,.slice none 0 0] (⟨hh,rb,rc,rs,ba,bc,bs,none,0,[],none,0,[],none,0,[],none,0,[],none,0,[]⟩:ai) WL)) {u0 u1 u5 u6 u7 u8 u9 u10 u11 u12 u13 u14 u15 u16 u17 u18 u19 u20 u21 u22 u23 u24 u25 u26 u27 u28 u29 u30 u31 u32 u33 u34 u35 u36 u37 u38 u39 u40 u41 u42 u43 u44 u45 u46 u47 u48 u49 u50 u51 u52 u53 u54 u55 u56 u57 u58 u59 u60 u61 u62 u63 u64 u65 u66 u67 u68 u69 u70 u71 u72 u73 u74 u75 u76 u77 u78 u79 u80 u81 u82 u83 u84 u85 u86 u87 u88 u89 u90 u91 u92 u93 u94 u95 u96 u97 u98 u99 u100 u101 u102 u103 u104 u105 u106 u107 u108 u109 u110 u111 u112 u113 u114 u115 u116 u117 u118 u119 u120 u121 u122 u123 u124 u125 u126 u127 u128 u129 u130 u131 u132 u133 u134 u135 u136 u137 u138 u139 u140 u141 u142 u143 u144 u145 u146 u147 u148 u149 u150 u151 u152 u153 u154 u155 u156 u157 u158 u159 u160 u161 u162 u163 u164 u165 u166 u167 u168 u169 u170 u171 u172 u173 u174 u175 u176 u177 u178 u179 u180 u181 u182 u183 u184 u185 u186 u187 u188 u189 u190 u191 u192 u193 u194 u195 u196 u197 u198 u199 u200 u201 u202 u203 u204 u205 u206 u207 u208 u209 u210 u211 u212 u213 u214 u215 u216 u217 u218 u219 u220 u221 u222 u223 u224 u225 u226 u227 u228 u229 u230 u231 u232 u233 u234 u235 u236:Value}:Code.wp prog (eL 5 Tryz.caseCode) (bodyPost prog Tryz.f10 fun e w'=> ∃(hh nb:Nat) (x:ai),e= .returned (.agg x.cells.toArray)∧aS w' x∧fI hh nb x∧cV x=0∧dN (fun b=>V.heap.size≤b) x∧Ext V w') {tmps:= #[u0,u1,.pointer (some ⟨R,0,none⟩),.pointer (some ⟨T,0,none⟩),.pointer (some ⟨X,0,none⟩),u5,u6,u7,u8,u9,u10,u11,u12,u13,u14,u15,u16,u17,u18,u19,u20,u21,u22,u23,u24,u25,u26,u27,u28,u29,u30,u31,u32,u33,u34,u35,u36,u37,u38,u39,u40,u41,u42,u43,u44,u45,u46,u47,u48,u49,u50,u51,u52,u53,u54,u55,u56,u57,u58,u59,u60,u61,u62,u63,u64,u65,u66,u67,u68,u69,u70,u71,u72,u73,u74,u75,u76,u77,u78,u79,u80,u81,u82,u83,u84,u85,u86,u87,u88,u89,u90,u91,u92,u93,u94,u95,u96,u97,u98,u99,u100,u101,u102,u103,u104,u105,u106,u107,u108,u109,u110,u111,u112,u113,u114,u115,u116,u117,u118,u119,u120,u121,u122,u123,u124,u125,u126,u127,u128,u129,u130,u131,u132,u133,u134,u135,u136,u137,u138,u139,u140,u141,u142,u143,u144,u145,u146,u147,u148,u149,u150,u151,u152,u153,u154,u155,u156,u157,u158,u159,u160,u161,u162,u163,u164,u165,u166,u167,u168,u169,u170,u171,u172,u173,u174,u175,u176,u177,u178,u179,u180,u181,u182,u183,u184,u185,u186,u187,u188,u189,u190,u191,u192,u193,u194,u195,u196,u197,u198,u199,u200,u201,u202,u203,u204,u205,u206,u207,u208,u209,u210,u211,u212,u213,u214,u215,u216,u217,u218,u219,u220,u221,u222,u223,u224,u225,u226,u227,u228,u229,u230,u231,u232,u233,u234,u235,u236],defers:= []} WL:=by
 have fL:=ae (eW.of V V T a c l mU.o.1 (Ext.refl V) HL.o);have E5:=ae (fun U (hx:Ext V U) (hU:aY U T a c l) (m:Int) (hm:0<m) (qM:m<1000000)=>ki V U T a c l hh m mU.o.1 hx HL.o hU (by have:=HH.o;omega) hm qM);conv=>arg 2;dsimp only [Tryz.caseCode,Tryz.f10,eL,Option.getD]
 have Mm:=ae (fun U (hx:Ext V U) (hU:aY U T a c l) (i fr tb:Nat) (hi:i<16)=>Et V U T a c l i fr tb (hh:Int) mU.o.1 hx HL.o hU hi (by have:=HH.o;omega) (by have:=HH.o;omega));have c2:WL.cell? ⟨X,2,none⟩=some (.slice ba nb bc):=(HC.o.bJ.cell 2).trans rfl
 go_upto_block 2 with fail
 clear c2;obtain ⟨D,hD⟩: ∃D,D=WL.heap.size:=⟨_,rfl⟩
 have HP:Hid (gT V T R X D a c l [i64 (hh:Int),.slice rb hh rc,.slice ba nb bc,.slice none ([]:List aP).length 0,.slice none 0 0,.slice none 0 0,.slice none 0 0,.slice none 0 0] (⟨hh,rb,rc,rs,ba,bc,bs,none,0,[],none,0,[],none,0,[],none,0,[],none,0,[]⟩:ai) 78 12 none 0 (([]:List aP).map aP.cells) (jN []) [] WL):=by
  rw [hD];exact ⟨HC.o,aN.nil _ _ _ _,fun s hs=>absurd hs (by simp [jN]),fun s hs=>absurd hs (by simp),HC.o.bl.mono fun b hb=>hb.2,Nat.le_refl _,HC.o.bJ.lt⟩
 clear HC hD;go_cut [] (fun wx=> ∃(ls:List aP) (la:Option Addr) (lc:Nat),ls.length+1=nb∧fH ls nb hh∧gT V T R X D a c l [i64 (hh:Int),.slice rb hh rc,.slice ba nb bc,.slice la ls.length lc,.slice none 0 0,.slice none 0 0,.slice none 0 0,.slice none 0 0] (⟨hh,rb,rc,rs,ba,bc,bs,none,0,[],none,0,[],none,0,[],none,0,[],none,0,[]⟩:ai) 78 12 la lc (ls.map aP.cells) (jN ls) [] wx)
 case first=>
  as_aux_lemma=>
   go_wp2_with fail
   go_loopw [8] (fun v wr=> ∃(k:Nat) (ls:List aP) (la:Option Addr) (lc:Nat),k+1≤nb∧ls.length=k∧fH ls nb hh∧gT V T R X D a c l [i64 (hh:Int),.slice rb hh rc,.slice ba nb bc,.slice la ls.length lc,.slice none 0 0,.slice none 0 0,.slice none 0 0,.slice none 0 0] (⟨hh,rb,rc,rs,ba,bc,bs,none,0,[],none,0,[],none,0,[],none,0,[],none,0,[]⟩:ai) 78 12 la lc (ls.map aP.cells) (jN ls) [] wr∧v= .int .i64 ((k+1:Nat):Int)) (fun v _=>nb-(intOf v).toNat)
   case atStart=>exact ⟨0,[],none,0,jE.o.1,rfl,fun j h=>absurd h (by simp),HP.o,rfl⟩
   case round=>
    obtain ⟨k,ls,la,lc,hk,tC,zY,hP,rfl⟩:=hrel;clear HP;have HP:=ae hP;have rV:=ae zY;have nU:Hid (ls.length<nb):=by(show _<_;omega)
    have HLK:=ae tC;clear hP zY tC;by_cases hlt:k+1<nb
    ·have b0:((k+1:Nat):Int)<(nb:Int):=by omega
     have b1:decide (((k+1:Nat):Int)<(nb:Int))=true:=by simpa using b0
     go_upto_region 15 with fail
     refine aB (fun w'=>w'.cell? ⟨X,0,none⟩=some (i64 (hh:Int))) (fun w'=>w'.cell? ⟨X,3,none⟩=some (.slice la ls.length lc)) (fun i=>i==16) (by kernel_rfl) ((HP.o.cw.bJ.cell 0).trans rfl) ((HP.o.cw.bJ.cell 3).trans rfl) (fun aq ah=> ?_);refine ay 0 aq ah ?_;refine kr 1 aq ah ?_;refine ay 2 aq ah ?_;refine ay 3 aq ah ?_;refine kr 4 aq ah ?_;refine ay 5 aq ah ?_ (v:= .int .i64 (ls.length:Int));refine ay 6 aq ah ?_;refine ay 7 aq ah ?_ (v:= .int .i64 ((k+1:Nat):Int));refine ay 9 aq ah ?_ (v:= .int .i64 ((k+1:Nat):Int));refine ay 10 aq ah ?_;refine ay 11 aq ah ?_ (v:=i64 (hh:Int));replace HP:=ae (HP.o.grow (Ext.refl wr).drew);generalize wr.drew=Y2 at*;refine dX 8 rfl (fun Kc hK=> ?_);go_simp;refine (fL.o Y2 ((k+1:Nat):Int) (HP.o.cw.ext.but T) HP.o.cw.tape (by omega) (by have:=jE.o;omega)).mono ?_;rintro e Y3 ⟨y,rfl,Kk,hT,hx⟩;replace HP:=ae (HP.o.next hT hx);obtain ⟨fr,FR⟩: ∃fr:Nat,y=(fr:Int):=⟨y.toNat,by omega⟩;subst FR;have FT:Hid (fr<k+1∧k+1<nb):=by(show _∧_;omega)
     clear Kk hT hx;refine hK.o _ _ ((HP.o.cw.bJ.cell 0).trans rfl) ((HP.o.cw.bJ.cell 3).trans rfl) (fun aq ah=> ?_);clear hK Kc;try simp only [iK,iL,iM,List.setIfInBounds_toArray,iN,iO,Act.put]
     refine dX 12 rfl (fun Kc hK=> ?_);go_simp;refine (Mm.o Y3 HP.o.cw.ext HP.o.cw.tape ls.length fr (k+1) (by have:=nU.o;have:=jE.o;omega)).mono ?_;rintro e Y4 ⟨x,rfl,hm,hi,hf,hT,hx⟩;replace HP:=ae (HP.o.addLine hT hx hi hf hm.NB.2);have HM:=ae hm;clear hm hi hf hT hx;refine hK.o _ _ ((HP.o.cw.bJ.cell 0).trans rfl) ((HP.o.cw.bJ.cell 3).trans rfl) (fun aq ah=> ?_);clear hK Kc;try simp only [iK,iL,iM,List.setIfInBounds_toArray,iN,iO,Act.put]
     as_aux_lemma=>
      refine dX 13 rfl (fun Kc hK=> ?_);rw [if_pos (by rfl)];refine eJ 26 (.tmp 78) rfl 78 (.agg kB.cells.toArray) 12 120 underlying26 Tryz.info_line (by decide) (by decide) x.cells rfl rfl ?_;intro Y5 sW x5;replace HP:=ae (HP.o.grow x5);have E_:=ae sW;clear sW x5;refine hK.o _ _ ((HP.o.cw.bJ.cell 0).trans rfl) ((HP.o.cw.bJ.cell 3).trans rfl) (fun aq ah=> ?_);clear hK Kc;try simp only [iK,iL,iM,List.setIfInBounds_toArray,iN,iO,Act.put]
      refine dX 14 rfl (fun Kc hK=> ?_);rw [if_pos (by rfl)];refine eP _ (.tmp 67) (.tmp 79) 26 rfl D 78 (.agg kB.cells.toArray) 12 120 underlying26 Tryz.info_line rfl (by decide) (.slice la ls.length lc) ls.length (ls.map aP.cells).flatten rfl ?c1 Y4.heap.size x.cells rfl rfl E_.o rfl ?c5 (by decide) HP.o.size ?_
      case c1=>
       have h5:=HP.o.own.own;rw [List.length_map]at h5;exact h5
      case c5=>have:=nU.o;have:=jE.o;omega
      intro v1 w5 ho he hb hz hv;obtain ⟨g2,k2,rfl,c3,c0,f3,m7⟩:=yi HP.o ho.o he.o hb.o hz.o hv.o;obtain ⟨Gn,DW⟩: ∃Gn,Gn=ls++ [x]:=⟨_,rfl⟩
      have Gp:Hid (Gn.length=ls.length+1∧fH Gn nb hh):=by
       rw [DW];exact ⟨by simp,rV.o.snoc (by have:=FT.o;have:=jE.o;omega) (by have:=FT.o;have:=jE.o;omega) (by have:=FT.o;omega) HM.o⟩
      rw [←DW]at m7⊢;have JI:=ae m7;clear HP E_ ho he hb hz hv m7 DW HM rV;refine hK.o _ _ (c0) (c3) (fun aq ah=> ?_);clear hK Kc;try simp only [iK,iL,iM,List.setIfInBounds_toArray,iN,iO,Act.put]
      refine ay 15 aq ah ?_;refine aQ (rs:= [16]) (by kernel_rfl) (by simp) ?_;refine aA.late rfl (by kernel_rfl) (fun Kc hK=> ?_) aA.nil;go_simp;refine hK.o _ _ ((JI.o.cw.bJ.cell 0).trans rfl) (fun aq=> ?_);clear hK Kc;try simp only [iK,iL,iM,List.setIfInBounds_toArray,iN,iO,Act.put]
      refine ax (by kernel_rfl) ?_ _;clear aq c3 f3 c0;generalize (w5.setCell ⟨X,3,none⟩ (.slice g2 Gn.length k2))=Y6 at*;have q3:IntKind.i64.wrap (((k+1:Nat):Int)+1)=((k+1+1:Nat):Int):=by rw [IntKind.wrap_i64];have:=jE.o;omega
      have q4:wrap64 ((k:Int)+1+1)=((k+1+1:Nat):Int):=by unfold wrap64;have:=jE.o;omega
      go_wp2_with fail
      refine ⟨⟨k+1,Gn,g2,k2,by omega,by rw [Gp.o.1,HLK.o],Gp.o.2,JI.o,congrArg (Value.int IntKind.i64) q4⟩,?_⟩;clear JI Gp fL E5 Mm;generalize hz:wrap64 ((k:Int)+1+1)=z at*;subst q4;simp only [intOf,Int.toNat_natCast];omega
    ·have b1:decide (((k+1:Nat):Int)<(nb:Int))=false:=by rw [decide_eq_false_iff_not];omega
     go_wp2_with fail
     go_meet
     exact ⟨ls,la,lc,by rw [HLK.o];omega,rV.o,HP.o⟩
 case rest=>
  obtain ⟨MT,TA,TB,tC,zY,hP⟩:=hcut;generalize wc=WM at*;clear HP;have HP:=ae hP;have rV:=ae zY;have nU:=ae tC
  clear hP zY tC;go_step
  exact JJ V T R X a c l hh nb rc bc rb ba rs bs D MT TA TB HL mU HH DU jE Ce jo rV nU WM HP
end Go.Proofs.YtkpngkdgphojlaaGreat
