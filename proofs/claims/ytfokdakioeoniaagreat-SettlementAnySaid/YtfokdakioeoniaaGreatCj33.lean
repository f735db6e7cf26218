/- Texts of the proof. -/
import Derived.Test.YtfokdakioeoniaaGreatCj32
set_option linter.all false
set_option maxHeartbeats 4000000
set_option maxRecDepth 100000
namespace Go.Proofs.YtfokdakioeoniaaGreat
open Go.Proofs.Tryz
open Go.RowKit
theorem pg {w:World} {a:Option Addr} {c:Nat} {l:List Int} (h:bV w a c l) (i:Nat) (hi:i<l.length): ∃b o z,a=some ⟨b,o,none⟩/\Hid (z=l[i])/\dx z/\ ∀Y,Ext w Y->Y.cell? ⟨b,o+i,none⟩=some (.int .i64 z):=by
 obtain ⟨b,o,ha,hc⟩:=h.cell i hi;exact ⟨b,o,l[i],ha,rfl,h.ju _ (List.getElem_mem hi),λY e=>aB e hc⟩
theorem Acc.line {c:aq} (h:Acc c) {n:Nat} (hn:n<c.outs.length) {z:Int} (hz:z∈c.outs[n].lines): ∃k:Nat,z=(k:Int)/\k<c.lines.length:=by
 have:=(h.o _ (List.getElem_mem hn)).line z hz;exact ⟨z.toNat,ae,ae⟩
theorem sJ {c:aq} {h:Int} {n:Nat} (hn:n<c.outs.length):kM c h n=true↔ ∃i,∃hi:i<c.outs[n].lines.length,hasB (jz c (c.outs[n].lines[i]).toNat) h=false:=by
 unfold kM;rw [yU hn,List.any_eq_true];constructor
 .rintro ⟨x,hx,q⟩
  obtain ⟨i,hi,rfl⟩:=List.mem_iff_getElem.1 hx;exact ⟨i,hi,by simpa using q⟩
 .rintro ⟨i,hi,q⟩
  exact ⟨_,List.getElem_mem hi,by simpa using q⟩
theorem Al (V:World) (c:aq) (h o:Int) (hc:bK V c) (hA:Acc c):
 Calls prog 201 #[.agg (C8 c),.int .i64 h,.int .i64 o] V (DU V (Jb c h o)):=by
 try unfold C8
 have HC:=af hc;have HA:=af hA
 clear hc hA;go_enter func201,ntmps201
 go_upto_region 1 with fail
 generalize hW:World.alloc V _=W;obtain ⟨G,hG,x0,A0⟩:=aI hW;rw [<-hG];have HX:=af x0;have dY:=af A0
 have K: ∀Y,Ext W Y->_:=λY e=>aq.at (A0.ext e);have vE:=af (HC.o.ext x0);have s:=Ext.refl W;clear hW hG x0 A0;go_wp2_with fail
 refine (CA W c h).mono ?_;rintro e w1 ⟨rfl,x1⟩;replace s:=s.trans x1;clear x1;cases hq:(decide (0<=h)&&decide (h<c.hours))with
 |false=>
  have HQ:=af hq;clear hq;go_wp2
  go_ret;exact ⟨false,rfl,by have:=HQ.o;simp;intro q;have:=q.hour;simp at*;omega,HX.o.trans s⟩
 |true=>
 have HQ:Hid (0<=h/\h<c.hours):=by show _/\_;simpa using hq
 clear hq;by_cases h0:o<0
 .go_wp2
  go_ret;exact ⟨false,rfl,by simp;intro q;have:=q.o;omega,HX.o.trans s⟩
 obtain ⟨n,rfl⟩: ∃n:Nat,o=(n:Int):=⟨o.toNat,ae⟩;by_cases h1:(c.outs.length:Int)<=(n:Int)
 .go_wp2
  go_ret;exact ⟨false,rfl,by simp;intro q;have:=q.o;omega,HX.o.trans s⟩
 have hn:n<c.outs.length:=ae;obtain ⟨b,ob,x,hx,K2⟩:=eZ dY.o vE.o.outs 7 rfl n hn;simp only [Cs,ee.cells,Nat.add_zero,Nat.zero_add]at K2;have HL:Hid (bV W x.la x.lc x.lines):=by show bV _ _ _ _;rw [hx.o];exact (vE.o.o _ (List.getElem_mem hn)).2.1
 have HZ:Hid (∀z∈x.lines,∃k:Nat,z=(k:Int)/\k<c.lines.length):=λz hz=>HA.o.line hn (by rw [<-hx.o];exact hz);have HP:Hid (kM c h n=true↔ ∃i,∃hi:i<x.lines.length,hasB (jz c (x.lines[i]).toNat) h=false):=by have:=sJ (c:=c) (h:=h) hn;rw [<-hx.o]at this;exact this
 have hle:=HL.o.le;have eI:=HL.o.cap;have nE:=vE.o.outs.lens
 clear K hx;obtain ⟨nm,la,lc,ls,cr,ma,mc,ms⟩:=x;dsimp only at*
 go_wp2
 go_loopw [31] (λii wr=> ∃i:Nat,i<=ls.length/\ii= .int .i64 i/\(∀j (hj:j<ls.length),j<i->hasB (jz c (ls[j]).toNat) h=true)/\Ext W wr) (λii _=>ls.length-(intOf ii).toNat)
 case atStart=>exact ⟨0,bm,rfl,λj _ h=>absurd h (Nat.not_lt_zero _),s⟩
 case round=>
  clear s;obtain ⟨i,hi,rfl,hB,s⟩:=hrel;have HB:=af hB;clear hB;by_cases hlt:i<ls.length
  .have b1:(i:Int)<(ls.length:Int):=ae
   have b0:(0:Int)<=(i:Int):=ae;obtain ⟨b2,o2,z,rfl,hz,-,K3⟩:=pg (HL.o.ext s) i hlt;obtain ⟨k,rfl,hk⟩:=HZ.o z (by rw [hz.o];exact List.getElem_mem hlt);obtain ⟨b4,o4,y,hy,K4⟩:=eZ (dY.o.ext s) (vE.o.ext s).lines 3 rfl k hk;simp only [Cs,cX.cells,Nat.add_zero,Nat.zero_add]at K4;have pj:=vE.o.lines.lens;have k1:(k:Int)<(c.lines.length:Int):=ae;have k0:(0:Int)<=(k:Int):=ae;have HS:=af (DV wr y h (by rw [hy.o];exact ((vE.o.ext s).line _ (List.getElem_mem hk)).2.1));have HY:Hid (jz c (ls[i]).toNat=y.away):=by show _=_;rw [<-hz.o,Int.toNat_natCast,sk hk,hy.o]
   have s0:=Ext.refl wr;go_wp2_with fail
   refine HS.o.mono ?_;rintro e w2 ⟨rfl,x2⟩;replace s:=s.trans x2;clear x2 s0;cases q:hasB y.away h with
   |false=>
    have CZ:=af q;clear q;go_wp2
    go_ret;exact ⟨true,rfl,by simp only [true_iff];exact ⟨HQ.o,ae,HP.o.2 ⟨i,hlt,by rw [HY.o];exact CZ.o⟩⟩,HX.o.trans s⟩
   |true=>
    have CZ:=af q;clear q;go_wp2
    exact ⟨⟨i+1,hlt,bq,λj hj qF=>by
     by_cases e:j<i
     .exact HB.o j hj e
     .obtain rfl:j=i:=ae
      rw [HY.o];exact CZ.o,s⟩,bz⟩
  .obtain rfl:i=ls.length:=ae
   go_wp2
   go_ret;refine ⟨false,rfl,?_,HX.o.trans s⟩;simp only [Bool.false_eq_true,false_iff];intro q;obtain ⟨j,hj,e⟩:=HP.o.1 q.jO;rw [HB.o j hj hj]at e;cases e
theorem Pc (V:World) (t:ku) (n m:Int) (L:Nat) (ht:jW V t L):
 Calls prog 135 #[.slice t.a t.l.length t.c,.int .i64 n,.int .i64 m] V λe w'=>e= .returned (.bool (cE t n m))/\Ext V w':=by
 have hle:=ht.le;have HT:=af ht;clear ht;by_cases hn:(t.l.length:Int)=n
 .subst hn
  obtain ⟨ta,tc,tl⟩:=t;dsimp only at*
  go_enter func135,ntmps135
  go_wp2
  go_loopw [7] (λii wr=> ∃i:Nat,i<=tl.length/\ii= .int .i64 i/\(∀j (hj:j<tl.length),j<i->(tl[j].l.length:Int)=m)/\Ext V wr) (λii _=>tl.length-(intOf ii).toNat)
  case atStart=>exact ⟨0,bm,rfl,λj _ h=>absurd h (Nat.not_lt_zero _),ah⟩
  case round=>
   obtain ⟨i,hi,rfl,hA,s⟩:=hrel;have HA:=af hA;clear hA;by_cases hlt:i<tl.length
   .have b1:(i:Int)<(tl.length:Int):=ae
    have b0:(0:Int)<=(i:Int):=ae;obtain ⟨b,o,y,ha,hy,-,-,K⟩:=HT.o.at i hlt;dsimp only at ha hy
    subst ha;have hY:Hid ((y.l.length:Int)=(tl[i].l.length:Int)):=by rw [hy.o];exact rfl
    by_cases hm:(y.l.length:Int)=m
    .have hq:((y.l.length:Int) !=m)=false:=by simpa using hm
     have HM:=af hm;clear hm;go_wp2_with fail
     refine ⟨⟨i+1,hlt,bq,λj hj qF=> ?_,s⟩,bz⟩;by_cases e:j<i
     .exact HA.o j hj e
     .obtain rfl:j=i:=ae
      rw [<-hY.o];exact HM.o
    .have hq:((y.l.length:Int) !=m)=true:=by simpa using hm
     have HM:=af hm;clear hm;go_wp2
     go_ret;refine ⟨?_,s⟩
     have:cE ⟨some ⟨b,o,none⟩,tc,tl⟩ tl.length m=false:=by
      rw [Bool.eq_false_iff];intro h
      exact HM.o (by rw [hY.o];exact (gZ.1 h).2 _ (List.getElem_mem hlt))
     rw [this];rfl
   .obtain rfl:i=tl.length:=ae
    go_wp2
    go_ret;refine ⟨?_,s⟩
    have:cE ⟨ta,tc,tl⟩ tl.length m=true:=gZ.2 ⟨rfl,λy hy=>by
     obtain ⟨j,hj,rfl⟩:=List.mem_iff_getElem.1 hy;exact HA.o j hj hj⟩
    rw [this];rfl
 .have hq:((t.l.length:Int) !=n)=true:=by simpa using hn
  have HN:=af hn;clear hn;go_enter func135,ntmps135
  go_wp2
  go_ret
  have:cE t n m=false:=by
   rw [Bool.eq_false_iff];intro h
   exact HN.o (gZ.1 h).1
  exact ⟨by rw [this];rfl,ah⟩
theorem Jf (V:World) (x:eF):
 Calls prog 247 #[.agg x.cells.toArray] V λe w'=>e= .returned (.agg #[i64 x.hour,i64 x.br])/\Ext V w':=by
 unfold eF.cells;go_enter func247,ntmps247
 go_upto_region 1 with fail
 generalize hW1:World.alloc V _=W1;obtain ⟨G,hG,x0,A0⟩:=aI hW1;rw [<-hG];generalize hW:World.alloc W1 _=W;obtain ⟨R,hR,x1,A1⟩:=aI hW;have Tm:G+1=R:=by rw [hG,hR,<-hW1];simp
 rw [Tm];replace A0:=A0.ext x1;have HX:=af (x0.trans x1);have HV:Hid (V.heap.size<=R):=by show _<=_;omega
 have K:=A0.cs;simp only [Cs,Nat.add_zero,Nat.zero_add]at K;have f1:=λi=>A1.frozen i;have c1:=A1.cs;simp only [Cs,Nat.add_zero,Nat.zero_add]at c1;have hA:=A1;clear hW hW1 hG hR Tm x0 x1 A0 A1;go_wp2_with fail
 have Vf:=(hA.set 0 (i64 x.hour)).set 1 (i64 x.br);have s4:=(aH.refl R W).nT (o:=0) (v:=i64 x.hour)|>.nT (o:=1) (v:=i64 x.br)
 exact bodyPost_ret (v:= .agg #[i64 x.hour,i64 x.br]) (ib 2 _ rfl rfl Vf underlying53 rfl aw) rfl ⟨rfl,s4.ext HX.o HV.o⟩
theorem Gh (V:World) (h o h' o':Int):
 Calls prog 246 #[.agg #[i64 h,i64 o],.agg #[i64 h',i64 o']] V λe w'=>e= .returned (i64 (EE (eK h h') (eK o o')))/\Ext V w':=by
 go_enter func246,ntmps246
 go_upto_region 1 with fail
 generalize hW1:World.alloc V _=W1;obtain ⟨G,hG,x0,A0⟩:=aI hW1;rw [<-hG];generalize hW:World.alloc W1 _=W;obtain ⟨R,hR,x1,A1⟩:=aI hW;have Tm:G+1=R:=by rw [hG,hR,<-hW1];simp
 rw [Tm];replace A0:=A0.ext x1;have HX:=af (x0.trans x1);have K: ∀Y,Ext W Y->_:=λY e=>(A0.ext e).cs;have K1: ∀Y,Ext W Y->_:=λY e=>(A1.ext e).cs;simp only [Cs,Nat.add_zero,Nat.zero_add]at K K1;have s:=Ext.refl W;clear hW hW1 hG hR Tm x0 x1 A0 A1;refine wG (λw=>Ext W w) s.drew λs=> ?_;generalize W.drew=Y at*;refine wV 0 s ?_;refine wV 1 s ?_;refine wV 2 s ?_;refine wV 3 s ?_;refine wV 5 s ?_;refine wV 6 s ?_;refine wV 7 s ?_;refine wV 8 s ?_;refine wR 4 λK' hK=> ?_;rw [if_pos bQ];go_simp;refine (uM _ _ _).mono ?_;rintro e w3 ⟨rfl,rfl⟩;refine hK.o _ _ s λs=> ?_;clear hK K';refine wR 9 λK' hK=> ?_;rw [if_pos bQ];go_simp;refine (uM _ _ _).mono ?_;rintro e w3 ⟨rfl,rfl⟩;refine hK.o _ _ s λs=> ?_;clear hK K';refine wR 10 λK' hK=> ?_;rw [if_pos bQ];go_simp;generalize hW:World.alloc _ _=W3;obtain ⟨E,hE,x3,A3⟩:=aI hW;rw [<-hE];refine hK.o _ _ (s.trans x3) λs=> ?_;clear hK K' hW hE x3;refine wR 11 λK' hK=> ?_;rw [if_pos bQ];go_simp;refine (Ou _ _ _ _ A3).mono ?_;rintro e w3 ⟨rfl,x4⟩;refine hK.o _ _ (s.trans x4) λs=> ?_;clear hK K' x4;refine wV 12 s ?_;refine wD ?_;go_wp2
 go_ret;exact ⟨rfl,HX.o.trans s⟩
theorem wF {h o h' o':Int}:EE (eK h h') (eK o o')<0↔h_ h o h' o':=by
 unfold h_ EE;by_cases q:eK h h'=0
 .rw [if_pos q,pO]
  have:h=h':=by
   unfold eK at q;by_cases e:h<h'
   .rw [if_pos e]at q;cases q
   .by_cases e2:h=h'
    .exact e2
    .rw [if_neg e,if_neg e2]at q;cases q
  omega
 .rw [if_neg q,pO]
  have:h≠h':=λe=>q (by subst e;unfold eK;rw [if_neg ae,if_pos rfl]);omega
theorem sG.snoc {c:aq} {ms:List eF} {i:Nat} (h:sG c ms i) (hi:i<ms.length) (h1:Cz c ms[i]) (h2:0<i->h_ ms[i-1].hour ms[i-1].br ms[i].hour ms[i].br):sG c ms (i+1):=λj hj qF=>by
 by_cases e:j<i
 .exact h j hj e
 .obtain rfl:j=i:=ae
  exact ⟨h1,h2⟩
theorem CC {t:Bool} {j:Nat} {P Q:Prop} (h:P↔Q) (q:t=false↔Q):Hid (t=false↔(0<j+1->P)):=⟨λe _=>h.2 (q.1 e),λe=>q.2 (h.1 (e (Nat.succ_pos _)))⟩
theorem Am (j:Nat) (h:(j:Int)<=9223372036854775807):IntKind.i64.wrap (j:Int)=(j:Int)/\wrap64 (j:Int)=(j:Int):=by
 constructor
 .rw [IntKind.wrap_i64]<;>omega
 .unfold wrap64;omega
theorem BD (V:World) (c:aq) (a:Option Addr) (k:Nat) (ms:List eF) (hc:bK V c) (hA:Acc c) (hm:di V 4 a k (ms.map eF.cells)):
 Calls prog 183 #[.agg (C8 c),.slice a ms.length k] V (DU V (fp c ms)):=by
 try unfold C8
 have HC:=af hc;have HA:=af hA;have HM:=af hm
 have hle:=hm.lens;clear hc hA hm;go_enter func183,ntmps183
 go_upto_region 1 with fail
 generalize hW:World.alloc V _=W;obtain ⟨G,hG,x0,A0⟩:=aI hW;rw [<-hG];have HX:=af x0;have dY:=af A0
 have vE:=af (HC.o.ext x0);have s:=Ext.refl W;clear hW hG x0 A0;go_wp2
 go_loopw [10] (λii wr=> ∃i:Nat,i<=ms.length/\ii= .int .i64 i/\sG c ms i/\Ext W wr) (λii _=>ms.length-(intOf ii).toNat)
 case atStart=>exact ⟨0,bm,rfl,λj _ h=>absurd h (Nat.not_lt_zero _),s⟩
 case round=>
  clear s;obtain ⟨i,hi,rfl,hB,s⟩:=hrel;have HB:=af hB;clear hB;by_cases hlt:i<ms.length
  .have b1:(i:Int)<(ms.length:Int):=ae
   have b0:(0:Int)<=(i:Int):=ae;obtain ⟨b,o,x,rfl,hx,K2⟩:=(HM.o.ext (HX.o.trans s)).pick i hlt;replace K2:=jo K2;obtain ⟨xh,xo,xu,xd⟩:=x;dsimp only at K2
   have s0:=Ext.refl wr;go_upto_region 4 with(refine aT rfl 58 _ _ rfl [i64 0,i64 0,.slice none 0 0,.slice none 0 0] (eF.mk xh xo xu xd).cells rfl rfl aw rfl rfl ?_)
   generalize hW2:World.alloc wr _=W2;obtain ⟨B,hB,x2,A2⟩:=aI hW2;rw [<-hB];simp only [Act.put];have KB: ∀Y,Ext W2 Y->_:=λY e=>(A2.ext e).cs;replace KB:=jo KB;have mf:=af (s.trans x2);clear hW2 hB A2 s0 K2;go_cut [28] (λv w=> ∃t:Bool,v= .bool t/\Hid (t=false↔(0<i->h_ ms[i-1].hour ms[i-1].br xh xo))/\Ext W2 w)
   case first=>
    have s:=Ext.refl W2;cases i with
    |zero=>
     refine wG (λw=>Ext W2 w) s.drew λs=> ?_;generalize W2.drew=Y at*;refine wV 0 s ?_;refine wV 1 s ?_;refine wV 2 s ?_;refine wN 3 s ?_;refine wN 4 s ?_;refine wN 5 s ?_;refine wN 6 s ?_;refine wN 7 s ?_;refine wN 8 s ?_;refine wN 9 s ?_;refine wN 10 s ?_;refine wN 11 s ?_;refine wN 12 s ?_;refine wV 13 s ?_;refine wD ?_;go_wp2
     go_meet
     exact ⟨false,rfl,by show _↔_;simp,s⟩
    |succ j=>
     have hj:j<ms.length:=ae;obtain ⟨b',o',y,e',hy,K3⟩:=(HM.o.ext (HX.o.trans mf.o)).pick j hj;cases e'
     replace K3:=jo K3;have w1:=Am j ae;have c1:(j:Int)<(ms.length:Int):=ae;have c0:(0:Int)<=(j:Int):=ae;have c2:(0:Int)<((j+1:Nat):Int):=ae
     have HT:Hid (EE (eK y.hour xh) (eK y.br xo)<0↔h_ ms[j+1-1].hour ms[j+1-1].br xh xo):=by
      show _↔_;rw [wF,hy.o];simp only [Nat.add_sub_cancel]
     refine wG (λw=>Ext W2 w) s.drew λs=> ?_;generalize W2.drew=Y at*;refine wV 0 s ?_;refine wV 1 s ?_;refine wV 2 s ?_;refine wV 3 s ?_;refine wV 4 s ?_;refine wV 5 s ?_;refine wV 6 s ?_;refine wV 7 s ?_;refine wV 9 s ?_;refine wR 8 λK' hK=> ?_;rw [if_pos bQ];go_simp;refine (Jf _ y).mono ?_;rintro e w3 ⟨rfl,x3⟩;refine hK.o _ _ (s.trans x3) λs=> ?_;clear hK K' x3;refine wR 10 λK' hK=> ?_;rw [if_pos bQ];go_simp;refine (Jf _ ⟨xh,xo,xu,xd⟩).mono ?_;rintro e w3 ⟨rfl,x3⟩;refine hK.o _ _ (s.trans x3) λs=> ?_;clear hK K' x3;refine wR 11 λK' hK=> ?_;rw [if_pos bQ];go_simp;refine (Gh _ _ _ _ _).mono ?_;rintro e w3 ⟨rfl,x3⟩;refine hK.o _ _ (s.trans x3) λs=> ?_;clear hK K' x3;refine wV 12 s ?_;refine wV 13 s ?_;refine wD ?_;go_wp2
     go_meet
     exact ⟨_,rfl,by show _↔_;rw [<-HT.o];simp,s⟩
   case rest=>
    obtain ⟨t,rfl,hT,s⟩:=hcut;generalize wc=W3 at*;replace KB: ∀Y,Ext W3 Y->_:=λY e=>KB Y (s.trans e);have HS:=af (mf.o.trans s);clear s mf;have s:=Ext.refl W3;cases t with
    |true=>
     go_wp2
     go_ret;refine ⟨false,rfl,?_,HX.o.trans HS.o⟩;simp only [Bool.false_eq_true,false_iff];intro q;have:=hT.o.2 (λh0=>by have:=(q i hlt hlt).2 h0;rw [<-hx.o]at this;exact this);cases this
    |false=>
    have HU:=af (hT.o.1 rfl);have K: ∀Y,Ext W3 Y->_:=λY e=>aq.at (dY.o.ext (HS.o.trans e));go_wp2_with fail
    refine (Al W3 c xh xo (vE.o.ext HS.o) HA.o).mono ?_;rintro e w4 ⟨t,rfl,ht,x4⟩;replace s:=s.trans x4;clear x4;cases t with
    |false=>
     go_wp2
     go_ret;refine ⟨false,rfl,?_,HX.o.trans (HS.o.trans s)⟩;simp only [Bool.false_eq_true,false_iff];intro q;have:=ht.2 (by have:=(q i hlt hlt).1.jO;rw [<-hx.o]at this;exact this);cases this
    |true=>
    have HP:=af (ht.1 rfl);clear ht;obtain ⟨n,rfl⟩: ∃n:Nat,xo=(n:Int):=⟨xo.toNat,dB HP.o.o⟩;have X6:n<c.outs.length:=dB HP.o.o;obtain ⟨b4,o4,y,hy,K4⟩:=eZ (dY.o.ext HS.o) (vE.o.ext HS.o).outs 7 rfl n X6;replace K4:=jo K4;have k1:(n:Int)<(c.outs.length:Int):=ae;have k0:(0:Int)<=(n:Int):=ae;have pj:=vE.o.outs.lens
    have HY:Hid (yA c n=y.bY/\(j5 c n).length=y.moves.length):=by
     show _/\_;rw [yX X6,vo X6,hy.o];exact ⟨rfl,rfl⟩
    have jc:(Cz c ⟨xh,(n:Int),xu,xd⟩->False)->(fp c ms->False):=λh q=>h (by have:=(q i hlt hlt).1;rw [<-hx.o]at this;exact this);have nV:=af jc;clear K hy jc;cases Nw:y.bY with
    |false=>
     have H6:=af Nw;go_wp2
     go_ret;refine ⟨false,rfl,?_,HX.o.trans (HS.o.trans s)⟩;simp only [Bool.false_eq_true,false_iff];refine nV.o λq=> ?_;have:yA c n=true:=q.O9;rw [HY.o.1,H6.o]at this;cases this
    |true=>
    have H6:=af Nw;by_cases hu:(xu.l.length:Int)=(y.moves.length:Int)
    .have hq:((xu.l.length:Int) !=(y.moves.length:Int))=false:=by simpa using hu
     by_cases hd:(xd.l.length:Int)=(y.moves.length:Int)
     .have BU:((xd.l.length:Int) !=(y.moves.length:Int))=false:=by simpa using hd
      have Ms:=af (And.intro hu hd);clear hu hd;go_wp2_with fail
      refine ⟨⟨i+1,hlt,bq,HB.o.snoc hlt (by rw [<-hx.o];exact ⟨HP.o,HY.o.1.trans H6.o,by show xu.l.length=(j5 c n).length;rw [HY.o.2];have:=Ms.o.1;omega,by show xd.l.length=(j5 c n).length;rw [HY.o.2];have:=Ms.o.2;omega⟩) (λh0=>by rw [<-hx.o];exact HU.o h0),HS.o.trans s⟩,bz⟩
     .have BU:((xd.l.length:Int) !=(y.moves.length:Int))=true:=by simpa using hd
      have Ms:=af hd;clear hu hd;go_wp2
      go_ret;refine ⟨false,rfl,?_,HX.o.trans (HS.o.trans s)⟩;simp only [Bool.false_eq_true,false_iff];refine nV.o λq=> ?_;have:xd.l.length=(j5 c n).length:=q.down;rw [HY.o.2]at this;exact Ms.o (by rw [this])
    .have hq:((xu.l.length:Int) !=(y.moves.length:Int))=true:=by simpa using hu
     have Ms:=af hu;clear hu;go_wp2
     go_ret;refine ⟨false,rfl,?_,HX.o.trans (HS.o.trans s)⟩;simp only [Bool.false_eq_true,false_iff];refine nV.o λq=> ?_;have:xu.l.length=(j5 c n).length:=q.up;rw [HY.o.2]at this;exact Ms.o (by rw [this])
  .obtain rfl:i=ms.length:=ae
   go_wp2
   go_ret;exact ⟨true,rfl,by simp only [true_iff];exact HB.o,HX.o.trans s⟩
theorem Jg {c:aq} (h:cC c=0):Acc c:=⟨Mn h,λx hx=>by
 unfold cC at h;unfold wu at h;obtain ⟨i,hi,rfl⟩:=List.getElem_of_mem hx;exact Mo ((lB (rC c) (ir (o_ c) h).1).2 i hi)⟩
theorem h_.trans {h o h' o' h2 o2:Int} (p:h_ h o h' o') (q:h_ h' o' h2 o2):h_ h o h2 o2:=by unfold h_ at*;omega
theorem fp.lt {c:aq} {ms:List eF} (h:fp c ms) (i:Nat): ∀j (hi:i<ms.length) (hj:j<ms.length),i<j->h_ ms[i].hour ms[i].br ms[j].hour ms[j].br
 |0,_,_,e=>absurd e (Nat.not_lt_zero _)
 |j+1,hi,hj,e=>by
  have h1:=(h (j+1) hj hj).2 (Nat.succ_pos _);simp only [Nat.add_sub_cancel]at h1;by_cases q:i=j
  .subst q;exact h1
  .exact (fp.lt h i j hi ae ae).trans h1
theorem Ao {h o h' o':Int}:EE (eK h h') (eK o o')=0↔h=h'/\o=o':=by
 have key: ∀x y:Int,eK x y=0↔x=y:=λx y=>by
  unfold eK;by_cases e:x<y
  .rw [if_pos e];constructor
   .intro q;cases q
   .intro q;omega
  .by_cases e2:x=y
   .rw [if_neg e,if_pos e2];simp [e2]
   .rw [if_neg e,if_neg e2];simp [e2]
 unfold EE;by_cases q:eK h h'=0
 .rw [if_pos q,key];exact ⟨λe=>⟨(key _ _).1 q,e⟩,λe=>e.2⟩
 .rw [if_neg q];exact ⟨λe=>absurd e q,λe=>absurd ((key _ _).2 e.1) q⟩
theorem Gi (V:World) (x:eF) (h o:Int):
 Calls prog 266 #[.agg x.cells.toArray,.agg #[i64 h,i64 o]] V λe w'=>e= .returned (i64 (EE (eK x.hour h) (eK x.br o)))/\Ext V w':=by
 unfold eF.cells;go_enter func266,ntmps266
 go_upto_region 1 with fail
 generalize hW1:World.alloc V _=W1;generalize hW:World.alloc W1 _=W;obtain ⟨G,R,hG,hR,HX,dY,gH,nW⟩:=jD hW1 hW;rw [<-hG];try rw [hR]
 clear hW hW1 hG hR;have K: ∀Y,Ext W Y->_:=λY e=>(dY.o.ext e).cs;have K1: ∀Y,Ext W Y->_:=λY e=>(gH.o.ext e).cs;replace K:=jo K;replace K1:=jo K1;have s:=Ext.refl W;refine wG (λw=>Ext W w) s.drew λs=> ?_;generalize W.drew=Y at*;refine wV 0 s ?_;refine wV 2 s ?_;refine wR 1 λK' hK=> ?_;rw [if_pos bQ];go_simp;refine (Jf _ x).mono ?_;rintro e w3 ⟨rfl,x3⟩;refine hK.o _ _ (s.trans x3) λs=> ?_;clear hK K' x3;refine wR 3 λK' hK=> ?_;rw [if_pos bQ];go_simp;refine (Gh _ _ _ _ _).mono ?_;rintro e w3 ⟨rfl,x3⟩;refine hK.o _ _ (s.trans x3) λs=> ?_;clear hK K' x3;refine wV 4 s ?_;refine wD ?_;go_wp2
 go_ret;exact ⟨rfl,HX.o.trans s⟩
def Vg (V:World) (ms:List eF) (h o:Int) (e:Ending) (w':World):Prop:= ∃(i:Nat) (t:Bool),e= .returned (.tuple #[i64 i,.bool t])/\(t=true-> ∃hi:i<ms.length,ms[i].hour=h/\ms[i].br=o)/\(t=false-> ∀j (hj:j<ms.length),¬(ms[j].hour=h/\ms[j].br=o))/\Ext V w'
theorem RA (V:World) (a:Option Addr) (k:Nat) (ms:List eF) (h o:Int) (hm:di V 4 a k (ms.map eF.cells)) (hn:ms.length<=1000000) (F:Nat) (hen: ∀args w,(callFunc F args).run prog w= .ok (.enter F args) w)
 (hF: ∀U (x:eF),Calls prog F #[.agg x.cells.toArray,.agg #[i64 h,i64 o]] U λe w'=>e= .returned (i64 (EE (eK x.hour h) (eK x.br o)))/\Ext U w')
 (hs: ∀i j (hi:i<ms.length) (hj:j<ms.length),i<j->h_ ms[i].hour ms[i].br ms[j].hour ms[j].br):
 Calls prog 265 #[.slice a ms.length k,.agg #[i64 h,i64 o],.func (.func F) #[] #[]] V (Vg V ms h o):=by
 have HM:=af hm;have si:=af hen;have HF:=af hF;have HS:=af hs
 have hle:=hm.lens;clear hm hen hF hs;go_enter func265,ntmps265
 go_upto_region 1 with fail
 generalize hW:World.alloc V _=W;obtain ⟨G,hG,x0,A0⟩:=aI hW;rw [<-hG];have HX:=af x0;have dY:=af A0
 clear hW hG x0 A0;have K: ∀Y,Ext W Y->_:=λY e=>(dY.o.ext e).cs;replace K:=jo K;have s:=Ext.refl W;go_wp2
 go_loopw [9,10] (λvi vj wr=> ∃i j:Nat,i<=j/\j<=ms.length/\vi= .int .i64 i/\vj= .int .i64 j/\(∀m (hm:m<ms.length),m<i->h_ ms[m].hour ms[m].br h o)/\(∀m (hm:m<ms.length),j<=m-> ¬h_ ms[m].hour ms[m].br h o)/\Ext W wr) (λvi vj _=>(intOf vj).toNat-(intOf vi).toNat)
 case atStart=>exact ⟨0,ms.length,bm,cG,rfl,rfl,λm _ h=>absurd h (Nat.not_lt_zero _),λm h1 h2=>absurd h1 (Nat.not_lt.2 h2),s⟩
 case round=>
  clear s;obtain ⟨i,j,hij,hj,rfl,rfl,hA,hB,s⟩:=hrel;have HA:=af hA;have HB:=af hB
  clear hA hB;by_cases hlt:i<j
  .have b1:(i:Int)<(j:Int):=Int.ofNat_lt.2 hlt
   obtain ⟨m,hm⟩: ∃m,m=(i+j)/2:=⟨_,rfl⟩;have qN:i<=m/\m<j:=ae;have SE:m<ms.length:=ae;obtain ⟨b,ob,x,rfl,hx,K2⟩:=(HM.o.ext (HX.o.trans s)).pick m SE;replace K2:=jo K2;go_upto_region 5 with fail
   have hM:((i:Int)+(j:Int))/2=(m:Int):=by subst hm;omega
   rw [hM];have Tn:=af qN;have k1:(m:Int)<(ms.length:Int):=Int.ofNat_lt.2 SE;have k0:(0:Int)<=(m:Int):=Int.natCast_nonneg m;have hen:=si.o;have wH:=af s;replace K: ∀Y,Ext wr Y->_:=λY e=>K Y (s.trans e);clear s hm hM qN;have s:=Ext.refl wr;refine wG (λw=>Ext wr w) s.drew λs=> ?_;generalize wr.drew=Y at*;refine wV 0 s ?_;refine wV 1 s ?_;refine wV 2 s ?_;refine wV 3 s ?_;refine wV 4 s ?_;refine wV 5 s ?_;refine wR 6 λK' hK=> ?_;rw [if_pos bQ];go_simp;refine (HF.o _ x).mono ?_;rintro e w3 ⟨rfl,x3⟩;refine hK.o _ _ (s.trans x3) λs=> ?_;clear hK K' x3;by_cases q:EE (eK x.hour h) (eK x.br o)<0
   .have t1:decide (EE (eK x.hour h) (eK x.br o)<0)=true:=decide_eq_true q
    have HU:=af (wF.1 q);clear q;refine wV 7 s ?_;refine wD ?_;go_wp2_with fail
    refine ⟨⟨m+1,j,Tn.o.2,hj,bq,rfl,λl hl Hp=> ?_,HB.o,wH.o.trans s⟩,by have:=Tn.o;simp only [intOf];omega⟩;by_cases e:l=m
    .subst e;rw [<-hx.o];exact HU.o
    .have:=HS.o l m hl SE ae
     rw [<-hx.o]at this;exact this.trans HU.o
   .have t1:decide (EE (eK x.hour h) (eK x.br o)<0)=false:=decide_eq_false q
    have HU:=af (λe=>q (wF.2 e));clear q;refine wV 7 s ?_;refine wD ?_;go_wp2_with fail
    refine ⟨⟨i,m,Tn.o.1,Nat.le_of_lt SE,rfl,rfl,HA.o,λl hl Hp e=> ?_,wH.o.trans s⟩,by have:=Tn.o;simp only [intOf];omega⟩;by_cases e2:l=m
    .subst e2;rw [<-hx.o]at e;exact HU.o e
    .have:=HS.o m l SE hl ae
     rw [<-hx.o]at this;exact HU.o (this.trans e)
  .obtain rfl:i=j:=ae
   have hen:=si.o;go_upto_region 8 with fail
   have wH:=af s;replace K: ∀Y,Ext wr Y->_:=λY e=>K Y (s.trans e);by_cases gu:i<ms.length
   .obtain ⟨b,ob,x,rfl,hx,K2⟩:=(HM.o.ext (HX.o.trans s)).pick i gu
    replace K2:=jo K2;have k1:(i:Int)<(ms.length:Int):=Int.ofNat_lt.2 gu;have k0:(0:Int)<=(i:Int):=Int.natCast_nonneg i;clear s;have s:=Ext.refl wr;refine wG (λw=>Ext wr w) s.drew λs=> ?_;generalize wr.drew=Y at*;refine wV 0 s ?_;refine wV 1 s ?_;refine wV 2 s ?_;refine wV 3 s ?_;refine wV 4 s ?_;refine wV 5 s ?_;refine wV 6 s ?_;refine wV 7 s ?_;refine wV 8 s ?_;refine wV 9 s ?_;refine wV 10 s ?_;refine wR 11 λK' hK=> ?_;rw [if_pos bQ];go_simp;refine (HF.o _ x).mono ?_;rintro e w3 ⟨rfl,x3⟩;refine hK.o _ _ (s.trans x3) λs=> ?_;clear hK K' x3;by_cases q:EE (eK x.hour h) (eK x.br o)=0
    .have t1:(EE (eK x.hour h) (eK x.br o)==0)=true:=by simpa using q
     have HU:=af (Ao.1 q);clear q;refine wV 12 s ?_;refine wV 13 s ?_;refine wV 14 s ?_;refine wV 15 s ?_;refine wD ?_;go_wp2_with fail
     refine bodyPost_ret (v:= .tuple #[i64 i,.bool true]) (by simp [results,results265,go_sem]) rfl ?_;exact ⟨i,true,rfl,λ_=>⟨gu,by rw [<-hx.o];exact HU.o⟩,λe=>(nomatch e),HX.o.trans (wH.o.trans s)⟩
    .have t1:(EE (eK x.hour h) (eK x.br o)==0)=false:=by simpa using q
     have HU:=af (λe=>q (Ao.2 e));clear q;refine wV 12 s ?_;refine wV 13 s ?_;refine wV 14 s ?_;refine wV 15 s ?_;refine wD ?_;go_wp2_with fail
     refine bodyPost_ret (v:= .tuple #[i64 i,.bool false]) (by simp [results,results265,go_sem]) rfl ?_;refine ⟨i,false,rfl,λe=>(nomatch e),λ_ l hl e=> ?_,HX.o.trans (wH.o.trans s)⟩;by_cases e1:l<i
     .have:=HA.o l hl e1
      rw [e.1,e.2]at this;unfold h_ at this;omega
     .by_cases e2:l=i
      .subst e2;rw [<-hx.o]at e;exact HU.o e
      .have h1:=HS.o i l gu hl ae
       rw [e.1,e.2]at h1;exact HB.o i gu cG h1
   .have k1: ¬(i:Int)<(ms.length:Int):=λe=>gu (Int.ofNat_lt.1 e)
    clear s;have s:=Ext.refl wr;refine wG (λw=>Ext wr w) s.drew λs=> ?_;generalize wr.drew=Y at*;refine wV 0 s ?_;refine wV 1 s ?_;refine wV 2 s ?_;refine wV 3 s ?_;refine wV 4 s ?_;refine wN 5 s ?_;refine wN 6 s ?_;refine wN 7 s ?_;refine wN 8 s ?_;refine wN 9 s ?_;refine wN 10 s ?_;refine wN 11 s ?_;refine wN 12 s ?_;refine wV 13 s ?_;refine wV 14 s ?_;refine wV 15 s ?_;refine wD ?_;go_wp2_with fail
    refine bodyPost_ret (v:= .tuple #[i64 i,.bool false]) (by simp [results,results265,go_sem]) rfl ?_;refine ⟨i,false,rfl,λe=>(nomatch e),λ_ l hl e=> ?_,HX.o.trans (wH.o.trans s)⟩;have:=HA.o l hl ae;rw [e.1,e.2]at this;unfold h_ at this;omega
section
variable{P:Program}
theorem cA {ops:Array Oper} {rest:List Oper} {o:Oper} {a:Act} {w:World} {Q:Exit->Act->World->Prop} (hgd:o.guard=none) (ty:TypeId) (x y:Operand) (ho:o.op= .store ty x y)
 (R:Nat) (cs cs':List Value) (hA:aY w R ty cs) (hx:a.eval x= .pointer (some ⟨R,0,none⟩)) (hy:a.eval y= .agg cs'.toArray) (hi:(P.info? ty).map (·.size)=some cs'.length) (hold:cs.length=cs'.length) (h1:cs'.all (·.oneCell')=true)
 (h: ∀w',aY w' R ty cs'->aH R w w'->wpList P ops Q rest (a.put o.dst undef) w'):wpList P ops Q (o::rest) a w:=
 wpList_plain hgd λK hK=>by
  have hr:=run_storeVar_row (P:=P) w R ty ty cs.toArray cs'.toArray hA (by simpa using hi) (by simpa using hold) (by simpa using h1);unfold Oper.wp execOp;simp only [ho,hx,hy,Instr.storeAt,Instr.sureAddr,Sem.run_bind,Sem.run_pure,Result.andThen_ok,hr];refine hK _ _ (h _ ?_ ?_)
  .exact setRow_heap w R cs.toArray cs'.toArray ty (0,0) hA
  .refine ⟨rfl,rfl,rfl,cG,by simp [World.setRow],λk hk hne=> ?_⟩
   simp [World.setRow,Array.getElem?_modify,Ne.symm hne]
end
theorem jE {P:Program} {fn:Func} {tmps:Array Value} {w:World} {R:Nat} {ty:TypeId} {cs:List Value} {v:Value} (k j:Nat) (d:TypeDesc) (hres:fn.results= #[.cell k ty,.tmp j]) (ht:tmps.getD k undef= .pointer (some ⟨R,0,none⟩)) (hv:tmps.getD j undef=v) (hA:aY w R ty cs)
 (hu:P.underlying ty=some d) (hd:(match d with| .struct _| .array _ _=>true|_=>false)=true) (hi:(P.info? ty).map (·.size)=some cs.length):(results fn tmps).run P w= .ok (.tuple #[.agg cs.toArray,v]) w:=by
 have h:=jn (P:=P) w ⟨R,0,none⟩ ty cs d (λj v hj=>by rw [kt,hA.cell j];exact hj) hu hd hi;simp only [results,hres];simp only [Array.getD_eq_getD_getElem?]at ht hv;simp [ht,hv,asAddr,h]
def Yn (V:World) (ms:List eF) (h o:Int) (e:Ending) (w':World):Prop:= ∃(x:eF) (t:Bool),e= .returned (.tuple #[.agg x.cells.toArray,.bool t])/\(t=true-> ∃i,∃hi:i<ms.length,x=ms[i]/\x.hour=h/\x.br=o)/\(t=false-> ∀j (hj:j<ms.length),¬(ms[j].hour=h/\ms[j].br=o))/\Ext V w'
theorem Jh (V:World) (c:aq) (s:aQ) (L:Nat) (h o:Int) (hs:eM V s L) (hm:fp c s.moves) (hn:s.moves.length<=1000000):
 Calls prog 202 #[.agg s.cells.toArray,.int .i64 h,.int .i64 o] V (Yn V s.moves h o):=by
 have si:=af (show∀args w,(callFunc 266 args).run prog w= .ok (.enter 266 args) w from enters_of func266 aw rfl);have HB:=af (λU (hU:Ext V U)=>RA U s.ma s.mc s.moves h o (hs.moves.ext hU) hn 266 si.o (λU2 x=>Gi U2 x h o) (λi j hi hj e=>fp.lt hm i j hi hj e));have Nx:=af hs.moves;have hle:=hs.moves.lens;clear hs hm si;obtain ⟨ua,uc,us,m1,m2,m3,m4,m5,m6,ma,mc,ms⟩:=s;unfold aQ.cells;dsimp only at*
 go_enter func202,ntmps202
 go_upto_region 1 with fail
 generalize hW1:World.alloc V _=W1;generalize hW:World.alloc W1 _=W;obtain ⟨G,R,hG,hR,HX,dY,gH,nW⟩:=jD hW1 hW;rw [<-hG];try rw [hR]
 clear hW hW1 hG hR;have K: ∀Y,Ext W Y->_:=λY e=>(dY.o.ext e).cs;replace K:=jo K;have st:=Ext.refl W;go_upto_region 2 with(refine aT rfl 53 _ _ rfl [i64 0,i64 0] [i64 h,i64 o] rfl rfl aw rfl rfl ?_)
 generalize hW2:World.alloc W _=W2;obtain ⟨B,hB,x2,A2⟩:=aI hW2;rw [<-hB];try simp only [Act.put]
 have KB: ∀Y,Ext W2 Y->_:=λY e=>(A2.ext e).cs;replace KB:=jo KB;replace K: ∀Y,Ext W2 Y->_:=λY e=>K Y (x2.trans e);have mf:=af (st.trans x2);clear hW2 hB x2 A2 st;have st:=Ext.refl W2;go_wp2_with fail
 refine (HB.o W2 (HX.o.trans mf.o)).mono ?_;rintro e w3 ⟨i,t,rfl,h1,h2,x3⟩;have H1:=af h1;have H2:=af h2
 replace st:=st.trans x3;clear x3 h1 h2 HB;have hAR:=gH.o.ext (mf.o.trans st);cases t with
 |false=>
  go_wp2_with (refine cA rfl 58 _ _ rfl R [i64 0,i64 0,.slice none 0 0,.slice none 0 0] [i64 0,i64 0,.slice none 0 0,.slice none 0 0] hAR rfl rfl aw rfl rfl ?_;intro EH rH ji)
  refine bodyPost_ret (v:= .tuple #[.agg #[i64 0,i64 0,.slice none 0 0,.slice none 0 0],.bool false]) (jE 6 7 _ rfl rfl rfl rH underlying58 rfl aw) rfl ?_;exact ⟨⟨0,0,⟨none,0,[]⟩,⟨none,0,[]⟩⟩,false,rfl,λe=>(nomatch e),λ_=>(by first|exact H2.o rfl|exact H2.o trivial),ji.ext (HX.o.trans (mf.o.trans st)) nW.o.2.1⟩
 |true=>
  obtain ⟨hi,hx1,hx2⟩:=H1.o rfl;obtain ⟨b,ob,x,rfl,hx,K2⟩:=(Nx.o.ext (HX.o.trans (mf.o.trans st))).pick i hi;replace K2:=jo K2;have HQ:=af (And.intro hx1 hx2);have k1:(i:Int)<(ms.length:Int):=Int.ofNat_lt.2 hi;have k0:(0:Int)<=(i:Int):=Int.natCast_nonneg i;replace K: ∀Y,Ext w3 Y->_:=λY e=>K Y (st.trans e);have Tp:=af st;clear hx1 hx2 st KB;have st:=Ext.refl w3;go_wp2_with (refine cA rfl 58 _ _ rfl R [i64 0,i64 0,.slice none 0 0,.slice none 0 0] x.cells hAR rfl rfl aw rfl rfl ?_;intro EH rH ji)
  refine bodyPost_ret (v:= .tuple #[.agg x.cells.toArray,.bool true]) (jE 6 7 _ rfl rfl rfl rH underlying58 rfl aw) rfl ?_;exact ⟨x,true,rfl,λ_=>⟨i,hi,hx.o,by rw [hx.o];exact HQ.o⟩,λe=>(nomatch e),ji.ext (HX.o.trans (mf.o.trans Tp.o)) nW.o.2.1⟩
theorem aQ.at {w:World} {E:Nat} {T:TypeId} {s:aQ} (h:aY w E T s.cells):Cs w E 0 0 s.cells:=h.cs
def Kw (c:aq) (s:aQ) (n:Nat):Prop:= ∀i (h:i<s.ay.length),i<n->(s.ay[i].states.length:Int)=c.hours/\(s.ay[i].e.l.length:Int)=c.hours/\(s.ay[i].r.l.length:Int)=c.hours
theorem Gp (V:World) (c:aq) (s:aQ) (L:Nat) (hc:bK V c) (hA:Acc c) (hs:eM V s L):
 Calls prog 97 #[.agg (C8 c),.agg s.cells.toArray] V (DU V (eY c s)):=by
 try unfold C8
 have HC:=af hc;have HA:=af hA;have Rm:=af hs
 have hle:=hs.ay.lens;have nE:=hc.ay.lens;have Pe:=hc.stores.lens;have pj:=hc.bF.lens;have Ar:=hc.ar.lens;have Gn:=hc.lines.lens
 clear hc hA hs;unfold aQ.cells;go_enter func97,ntmps97
 go_upto_region 1 with fail
 generalize hW1:World.alloc V _=W1;obtain ⟨G,hG,x0,A0⟩:=aI hW1;rw [<-hG];generalize hW:World.alloc W1 _=W;obtain ⟨R,hR,x1,A1⟩:=aI hW;have Tm:G+1=R:=by rw [hG,hR,<-hW1];simp
 rw [Tm];replace A0:=A0.ext x1;have HX:=af (x0.trans x1);have dY:=af A0;have gH:=af A1
 have K: ∀Y,Ext W Y->_:=λY e=>aq.at (A0.ext e);have K1: ∀Y,Ext W Y->_:=λY e=>(A1.ext e).cs;replace K1:=jo K1;have s0:=Ext.refl W;clear hW hW1 hG hR Tm x0 x1 A0 A1;by_cases hn:(s.ay.length:Int)=(c.ay.length:Int)
 .have hq:((s.ay.length:Int) !=(c.ay.length:Int))=false:=by simpa using hn
  have HN:=af hn;clear hn;go_wp2_with fail
  clear hq;go_loopw [17] (λii wr=> ∃i:Nat,i<=s.ay.length/\ii= .int .i64 i/\Kw c s i/\Ext W wr) (λii _=>s.ay.length-(intOf ii).toNat)
  case atStart=>exact ⟨0,bm,rfl,λj _ h=>absurd h (Nat.not_lt_zero _),s0⟩
  case round=>
   clear s0 K K1;obtain ⟨i,hi,rfl,hB,st⟩:=hrel;have HB:=af hB;clear hB;by_cases hlt:i<s.ay.length
   .have b1:(i:Int)<(s.ay.length:Int):=ae
    have b0:(0:Int)<=(i:Int):=ae;obtain ⟨b,o,x,ha,hx,K2⟩:=(Rm.o.ext (HX.o.trans st)).ay.pick i hlt;replace K2:=jo K2;have xr:=af ha;have s0:=Ext.refl wr;have KH: ∀Y,Ext wr Y->Y.cell? ⟨G,0,none⟩=some (i64 c.hours):=λY e=>(aq.at ((dY.o.ext st).ext e)).1;rw [ha];clear ha;go_upto_region 6 with(refine aT rfl 41 _ _ rfl [.slice none 0 0,.slice none 0 0,.slice none 0 0] x.cells rfl rfl aw rfl rfl ?_)
    generalize hW2:World.alloc wr _=W2;obtain ⟨B,hB,x2,A2⟩:=aI hW2;rw [<-hB];try simp only [Act.put]
    have KB: ∀Y,Ext W2 Y->_:=λY e=>(A2.ext e).cs;replace KB:=jo KB;replace KH: ∀Y,Ext W2 Y->Y.cell? ⟨G,0,none⟩=some (i64 c.hours):=λY e=>KH Y (x2.trans e);have mf:=af (st.trans x2);clear hW2 hB A2 s0 K2 st;have s0:=Ext.refl W2;by_cases q1:(x.states.length:Int)=c.hours
    case neg=>
     have h1:((x.states.length:Int) !=c.hours)=true:=by simpa using q1
     have HQ:=af q1;clear q1;go_wp2
     go_ret;refine ⟨false,rfl,?_,HX.o.trans mf.o⟩;simp only [Bool.false_eq_true,false_iff];intro q;have:=q.unit _ (List.getElem_mem hlt);rw [<-hx.o]at this;exact HQ.o this.1
    have h1:((x.states.length:Int) !=c.hours)=false:=by simpa using q1
    by_cases q2:(x.e.l.length:Int)=c.hours
    case neg=>
     have h2:((x.e.l.length:Int) !=c.hours)=true:=by simpa using q2
     have vD:=af q1;clear q1;have HQ:=af q2;clear q2;go_wp2
     go_ret;refine ⟨false,rfl,?_,HX.o.trans mf.o⟩;simp only [Bool.false_eq_true,false_iff];intro q;have:=q.unit _ (List.getElem_mem hlt);rw [<-hx.o]at this;exact HQ.o this.2.1
    have h2:((x.e.l.length:Int) !=c.hours)=false:=by simpa using q2
    by_cases q3:(x.r.l.length:Int)=c.hours
    case neg=>
     have h3:((x.r.l.length:Int) !=c.hours)=true:=by simpa using q3
     have vD:=af q1;have CZ:=af q2
     clear q1 q2;have HQ:=af q3;clear q3;go_wp2
     go_ret;refine ⟨false,rfl,?_,HX.o.trans mf.o⟩;simp only [Bool.false_eq_true,false_iff];intro q;have:=q.unit _ (List.getElem_mem hlt);rw [<-hx.o]at this;exact HQ.o this.2.2
    have h3:((x.r.l.length:Int) !=c.hours)=false:=by simpa using q3
    have HQ:=af (And.intro q1 (And.intro q2 q3));clear q1 q2 q3;go_wp2
    exact ⟨⟨i+1,hlt,bq,λj hj qF=>by
     by_cases e:j<i
     .exact HB.o j hj e
     .obtain rfl:j=i:=ae
      rw [<-hx.o];exact HQ.o,mf.o⟩,bz⟩
   .obtain rfl:i=s.ay.length:=ae
    have s0:=st;have K: ∀Y,Ext W Y->_:=λY e=>aq.at (dY.o.ext e);have K1: ∀Y,Ext W Y->_:=λY e=>(gH.o.ext e).cs;replace K1:=jo K1;have HT:Hid (∀U,Ext W U-> ∀t n,t∈ [s.cB,s.disch,s.level,s.imp,s.er,s.shift]->Calls prog 182 #[.slice t.a t.l.length t.c,.int .i64 n,.int .i64 c.hours] U λe w'=>e= .returned (.bool (cE t n c.hours))/\Ext U w'):=λU hU t n ht=>Jc U t n c.hours L ((Rm.o.ext (HX.o.trans hU)).kT t ht);have Nx:Hid (∀U,Ext W U->_):=λU hU=>BD U c s.ma s.mc s.moves (HC.o.ext (HX.o.trans hU)) HA.o (Rm.o.ext (HX.o.trans hU)).moves
    have OW:Hid (∀(b:Bool),(b=true↔cE s.cB c.stores.length c.hours=true/\cE s.disch c.stores.length c.hours=true/\cE s.level c.stores.length c.hours=true/\cE s.imp c.bF.length c.hours=true/\cE s.er c.ar.length c.hours=true/\cE s.shift c.lines.length c.hours=true/\fp c s.moves)->(b=true↔eY c s)):=λb h=>h.trans ⟨λ⟨h1,h2,h3,h4,h5,h6,h7⟩=>⟨dB HN.o,λp hp=>by
     obtain ⟨j,hj,rfl⟩:=List.mem_iff_getElem.1 hp;exact HB.o j hj hj,h1,h2,h3,h4,h5,h6,h7⟩,λq=>⟨q.cB,q.disch,q.level,q.imp,q.er,q.shift,q.moves⟩⟩
    have hcs:(cE s.cB c.stores.length c.hours=false)\/(cE s.cB c.stores.length c.hours=true/\cE s.disch c.stores.length c.hours=false)\/(cE s.cB c.stores.length c.hours=true/\cE s.disch c.stores.length c.hours=true/\cE s.level c.stores.length c.hours=false)\/(cE s.cB c.stores.length c.hours=true/\cE s.disch c.stores.length c.hours=true/\cE s.level c.stores.length c.hours=true/\cE s.imp c.bF.length c.hours=false)\/(cE s.cB c.stores.length c.hours=true/\cE s.disch c.stores.length c.hours=true/\cE s.level c.stores.length c.hours=true/\cE s.imp c.bF.length c.hours=true/\cE s.er c.ar.length c.hours=false)\/(cE s.cB c.stores.length c.hours=true/\cE s.disch c.stores.length c.hours=true/\cE s.level c.stores.length c.hours=true/\cE s.imp c.bF.length c.hours=true/\cE s.er c.ar.length c.hours=true/\cE s.shift c.lines.length c.hours=false)\/(cE s.cB c.stores.length c.hours=true/\cE s.disch c.stores.length c.hours=true/\cE s.level c.stores.length c.hours=true/\cE s.imp c.bF.length c.hours=true/\cE s.er c.ar.length c.hours=true/\cE s.shift c.lines.length c.hours=true):=by
     cases cE s.cB c.stores.length c.hours<;>cases cE s.disch c.stores.length c.hours<;>cases cE s.level c.stores.length c.hours<;>cases cE s.imp c.bF.length c.hours<;>cases cE s.er c.ar.length c.hours<;>cases cE s.shift c.lines.length c.hours<;>simp
    clear HN HB;clear st;go_upto_region 9 with fail
    simp only [List.append_eq,List.cons_append,List.nil_append];rcases hcs with q1|⟨q1,q2⟩|⟨q1,q2,q3⟩|⟨q1,q2,q3,q4⟩|⟨q1,q2,q3,q4,q5⟩|⟨q1,q2,q3,q4,q5,q6⟩|⟨q1,q2,q3,q4,q5,q6⟩;all_goals go_wp2_with (first|(go_at_call 182;refine (HT.o _ s0 _ _ aX).mono ?_;rintro e w ⟨rfl,hx⟩;replace s0:=s0.trans hx;clear hx)|(go_at_call 183;refine (Nx.o _ s0).mono ?_;rintro e w ⟨tm,rfl,Yu,hx⟩;have Yv:=af Yu;replace s0:=s0.trans hx;clear hx Yu))
    all_goals go_ret
    iterate 6 (case' _=>exact ⟨false,rfl,OW.o false ⟨λh=>(nomatch h),λ⟨h1,h2,h3,h4,h5,h6,_⟩=>by first|exact absurd (h1.symm.trans q1) ai|exact absurd (h2.symm.trans q2) ai|exact absurd (h3.symm.trans q3) ai|exact absurd (h4.symm.trans q4) ai|exact absurd (h5.symm.trans q5) ai|exact absurd (h6.symm.trans q6) ai⟩,HX.o.trans s0⟩)
    exact ⟨tm,rfl,OW.o tm ⟨λh=>⟨q1,q2,q3,q4,q5,q6,Yv.o.1 h⟩,λh=>Yv.o.2 h.2.2.2.2.2.2⟩,HX.o.trans s0⟩
 .have hq:((s.ay.length:Int) !=(c.ay.length:Int))=true:=by simpa using hn
  have HN:=af hn;clear hn;go_wp2
  go_ret;refine ⟨false,rfl,?_,HX.o.trans s0⟩;simp only [Bool.false_eq_true,false_iff];intro q;exact HN.o (by rw [q.ay])
