/- Texts of the proof. -/
import Derived.Test.YtfokdakioeoniaaGreatCj27
set_option linter.all false
set_option maxHeartbeats 2000000
set_option maxRecDepth 100000
namespace Go.Proofs.YtfokdakioeoniaaGreat
open Go.Proofs.Tryz
open Go.RowKit
theorem St.Mh (s:St) (n:Int) (l:List cH) (i:Nat) (h:i<l.length):s.DM n 3 ((l.take (i+1)).map cH.unit)=(s.DM n 3 ((l.take i).map cH.unit)).need (decide (0<=l[i].unit)&&decide (l[i].unit<n)) 3 12:=by
 rw [List.take_succ_eq_append_getElem h,List.map_append];exact St.Ga _ _ _ _ _
theorem xF {w w':World} {base:Nat} {e:TypeId} {s:Nat} {v:Value} {n:Nat} {xs:List Value} {K:Nat} (h:w.ownsRow base e s v n xs) (hX:aH K w w') (hK:K<base):w'.ownsRow base e s v n xs:=by
 obtain ⟨h1,h2⟩:=h;refine ⟨h1,?_⟩;rcases h2 with h2|⟨g,cap,cur,hv,hb,hg,hr⟩
 .exact .inl h2
 .refine .inr ⟨g,cap,cur,hv,hb,?_,hr⟩
  rw [hX.block g (Array.getElem?_eq_some_iff.1 hg).1 ae];exact hg
theorem cj.but {w w':World} {B:Nat} {e:TypeId} {m:Nat} {v:Value} {rows:List (List Value)} {K:Nat} (h:cj w B e m v rows) (x:aH K w w') (hK:K<B):cj w' B e m v rows:=⟨xF h.own x hK,h.len⟩
theorem aY.keep {w w':World} {b:Nat} {T:TypeId} {vs:List Value} (h:aY w b T vs) (e:w'.heap[b]?=w.heap[b]?):aY w' b T vs:=by
 unfold aY;rw [e];exact h
theorem aH.append {K:Nat} {V w w':World} {base:Nat} {v:Value} (h:aH K V w) (hV:V.heap.size<=base) (hown: ∀k,v.ownBlock=some k->base<=k) (he: ∀a0,Ext a0 w->a0.heap.size<=base->Ext a0 w') (hb: ∀k,k<w.heap.size->some k≠v.ownBlock->w'.heap[k]?=w.heap[k]?) (hz:w.heap.size<=w'.heap.size):aH K V w':=by
 have h0:Ext {w with heap:= #[]} w:=⟨⟨rfl,rfl,rfl,bm,λk hk=>absurd hk (Nat.not_lt_zero _)⟩,cG⟩;have h1:=he _ h0 bm;refine ⟨h1.below.os.trans h.os,h1.below.tape.trans h.tape,h1.below.output.trans h.output,Nat.le_trans h.drawn h1.drawn,Nat.le_trans h.size hz,λk hk hkK=> ?_⟩;have hs:=h.size;rw [hb k ae (λe=>dB (hown k e.symm))];exact h.block k hk hkK
theorem Rv (w0 V:World) (K:Nat) (c:aq) (s:St) (x:ee) (hK:w0.heap.size<=K) (hV:Ext w0 V) (X5:c.ay.length<=9223372036854775807) (hm:di w0 3 x.ma x.mc (x.moves.map cH.cells)) (ZL: ∀m∈x.moves,lq [m.unit,m.up,m.down]) (h:kg V K c s):
 Calls prog 178 #[.pointer (some ⟨K,0,none⟩),.agg #[.string x.name,.slice x.la x.lines.length x.lc,.bool x.bY,.slice x.ma x.moves.length x.mc]] V λe' w'=>oU V K c (s.moves c x) e' w':=by
 have Rg:=h.lt;have hle:=hm.le;have eI:=hm.cap
 rw [List.length_map]at hle;have HV:=af hV;have HM:=af hm;have HMI:=af ZL;have eQ:=af hK;have Ro:=af X5;have HH:=af h
 obtain ⟨s1,hs1⟩: ∃s1,s.need (decide (x.moves.length=0)||x.bY) 3 16=s1:=⟨_,rfl⟩;obtain ⟨s2,hs2⟩: ∃s2,s1.need (decide ((x.moves.length:Int)<=16)) 3 8=s2:=⟨_,rfl⟩;unfold St.moves;rw [hs1,hs2];obtain ⟨sf,Ws⟩: ∃sf,(if s2.err≠0 then s2 else((s2.DM c.ay.length 3 (x.moves.map cH.unit)).need (lr (x.moves.map cH.unit)) 3 11).Ru x.moves)=sf:=⟨_,rfl⟩;rw [Ws];have Hu:=af Ws;have xq:=af hs1;have mf:=af hs2
 have ach:Hid (s2.err=0->x.moves.length<=16):=λh0=>by
  rw [<-hs2]at h0;have:=(St.DD ai h0).2;rw [decide_eq_true_eq]at this;omega
 clear hs1 hs2 Ws h hm ZL hV hK X5;go_enter func178,ntmps178
 go_upto_region 1 with fail
 obtain ⟨W,hW,x0,Z0,A0⟩:=bS V 105 x.cells;rw [show V.alloc (.cells #[.string x.name,.slice x.la x.lines.length x.lc,.bool x.bY,.slice x.ma x.moves.length x.mc] 105)=W from hW.symm];clear hW;obtain ⟨B,hB⟩: ∃B,B=V.heap.size:=⟨_,rfl⟩;rw [<-hB]at A0⊢;have mP:B≠K:=ae;have I0:=af A0;have tx:=af x0;have qI:=af hB
 clear hB Z0 A0 x0;go_upto_region 1 with fail
 go_cut [] (λwx=>kg wx K c s1/\aH K W wx/\aY wx B 105 x.cells)
 case first=>
  as_aux_lemma=>
   obtain ⟨b0,b1,b2,b3⟩:=ee.at I0.o
   have HN:Hid (∀ok,ok=(decide (x.moves.length=0)||x.bY)->Calls prog 165 #[.pointer (some ⟨K,0,none⟩),.bool ok,i64 3,i64 16] W λe' w'=>oU W K c s1 e' w'):=λok yq=>by
    have h5:=gj W K c s ok 3 16 (HH.o.ext tx.o);rw [yq,xq.o]at h5;rw [yq];exact h5
   by_cases q:x.moves.length=0
   .have t:((x.moves.length:Int)==0)=true:=by rw [q];rfl
    have HQ:Hid (true=(decide (x.moves.length=0)||x.bY)):=by show _=_;rw [q];simp
    clear q;go_wp2_with fail
    refine (HN.o true HQ.o).mono ?_;rintro e w2 ⟨rfl,hk,hx⟩;have HR:=af (And.intro hk (And.intro hx (I0.o.but hx mP)));clear hk hx b0 b1 b2 b3 t;go_wp2
    go_meet
    exact HR.o
   .have t:((x.moves.length:Int)==0)=false:=by rw [beq_eq_false_iff_ne];omega
    have HQ:Hid (x.bY=(decide (x.moves.length=0)||x.bY)):=by
     show _=_;have:decide (x.moves.length=0)=false:=decide_eq_false q;rw [this,Bool.false_or]
    clear q;go_wp2_with fail
    refine (HN.o x.bY HQ.o).mono ?_;rintro e w2 ⟨rfl,hk,hx⟩;have HR:=af (And.intro hk (And.intro hx (I0.o.but hx mP)));clear hk hx b0 b1 b2 b3 t;go_wp2
    go_meet
    exact HR.o
 case rest=>
  obtain ⟨hk,hx,hA⟩:=hcut;generalize wc=W1 at*;have oZ:=af hA;have jZ:Hid (aH K V W1):=(tx.o.but K).trans hx
  have h5:=gj W1 K c s1 (decide ((x.moves.length:Int)<=16)) 3 8 hk;rw [mf.o]at h5;have Nr:=af h5;obtain ⟨b0,b1,b2,b3⟩:=ee.at oZ.o;clear hk hx hA h5 I0 tx;go_wp2_with fail
  refine Nr.o.mono ?_;rintro e W2 ⟨rfl,hK2,hx2⟩;clear b0 b1 b2 b3;have xr:=af (oZ.o.but hx2 mP);have kz:=af (jZ.o.trans hx2);have zS:=af hK2;obtain ⟨-,-,-,U4,-⟩:=q8 hK2;clear hx2 hK2 oZ jZ Nr;by_cases h0:s2.err=0
  rotate_left
  .have t1:(s2.err !=0)=true:=by simpa using h0
   have hf:=Hu.o;rw [if_pos h0]at hf;have HR:Hid (kg W2 K c sf):=by show kg _ _ _ _;rw [<-hf];exact zS.o
   clear h0 hf;go_wp2
   exact bodyPost_ret (v:= .tuple #[]) aw rfl ⟨rfl,HR.o,kz.o⟩
  have t1:(s2.err !=0)=false:=by simpa using h0
  have h16:=ach.o h0;have hf:=Hu.o;rw [if_neg (λe=>e h0)]at hf;have Hu:=af hf;clear h0 hf;obtain ⟨b0,b1,b2,b3⟩:=ee.at xr.o;have hBl:B<W2.heap.size:=xr.o.lt;have Vb:K<W2.heap.size:=zS.o.lt;obtain ⟨D,hD⟩: ∃D,D=W2.heap.size:=⟨_,rfl⟩;rw [<-hD]at hBl Vb;have HD:=af hD;have HVD:Hid (V.heap.size<=D):=by show _<=_;rw [hD];exact kz.o.size
  clear hD;go_wp2_with fail
  clear b0 b1 b2 b3 t1 U4;go_loopw [4,33] (λv ii wr=> ∃i:Nat,i<=x.moves.length/\kg wr K c (s2.DM c.ay.length 3 ((x.moves.take i).map cH.unit))/\aH K V wr/\aY wr B 105 x.cells/\cj wr D 3 1 v ((x.moves.take i).map λm=> [i64 m.unit])/\D<=wr.heap.size/\ii= .int .i64 i) (λ_ ii _=>x.moves.length-(intOf ii).toNat)
  case atStart=>exact ⟨0,bm,zS.o,kz.o,xr.o,cj.nil _ _ _ _,by rw [HD.o];exact cG,rfl⟩
  case round=>
   obtain ⟨i,hi,hk,hx,hA,hown,hD,rfl⟩:=hrel;clear zS kz xr;by_cases hlt:i<x.moves.length
   .have hE:=hx.ext HV.o eQ.o
    obtain ⟨b,o,ha,c0,c1,c2⟩:=(HM.o.ext hE).moves i hlt;have HT:=af (St.Mh s2 (c.ay.length:Int) x.moves i hlt);have Tg:Hid ((x.moves.take (i+1)).map (λm=> [i64 m.unit])=(x.moves.take i).map (λm=> [i64 m.unit])++ [[i64 x.moves[i].unit]]):=by show _=_;rw [List.take_succ_eq_append_getElem hlt,List.map_append];rfl
    have hRl:((x.moves.take i).map (λm=> [i64 m.unit])).length=i:=by simp;omega
    have Ya:=af hRl;generalize s2.DM (c.ay.length:Int) 3 ((x.moves.take i).map cH.unit)=s3 at*;generalize (x.moves.take i).map (λm=> [i64 m.unit])=R at*;obtain ⟨m,LI⟩: ∃m,m=x.moves[i]:=⟨_,rfl⟩;rw [<-LI]at c0 c1 c2 HT Tg
    have HOW:Hid (wr.ownsRow D 3 1 u4 i R.flatten):=by
     have h5:=hown.own;rw [hRl]at h5;exact h5
    have HO:=af hown;have Ko:=af hk;have EF:=af hx;have Wu:=af hA;have XU:=af hD
    have mn:(0:Int)<=(i:Int):=ae;have mq:(i:Int)<(x.moves.length:Int):=ae;clear hown hk hx hA hE hD LI hRl;rw [ha];go_upto_region 8 with fail
    obtain ⟨W3,hW3,x3,Z3,A3⟩:=bS wr 107 m.cells;rw [show wr.alloc (.cells #[i64 m.unit,i64 m.up,i64 m.down] 107)=W3 from hW3.symm];obtain ⟨E,tK⟩: ∃E,E=wr.heap.size:=⟨_,rfl⟩;rw [<-tK]at A3⊢;have oY:E≠K:=dB Ko.o.lt;have e0:W3.cell? ⟨E,0,none⟩=some (i64 m.unit):=(A3.cell 0).trans rfl;have Ma:=af A3;have O7:=af x3
    have Vc:=af (Ko.o.ext x3);obtain ⟨-,-,-,-,k4,-⟩:=fJ Vc.o;have X5:=Ro.o;clear hW3 tK Z3 A3 x3 c0 c1 c2;go_cut [] (λwx=>kg wx K c (s3.need (decide (0<=m.unit)&&decide (m.unit<(c.ay.length:Int))) 3 12)/\aH K W3 wx)
    case first=>
     as_aux_lemma=>
      have KE:=λY (e:aH K W3 Y)=>g_ e0 e oY;rcases Bool.eq_false_or_eq_true (decide (0<=m.unit))with hp|hp
      .have s:aH K W3 W3.drew/\W3.drew.cell? ⟨K,4,none⟩=some (.slice c.ua c.ay.length c.uc):=⟨(Ext.refl W3).drew.but K,k4⟩
       refine wG (λw=>aH K W3 w/\w.cell? ⟨K,4,none⟩=some (.slice c.ua c.ay.length c.uc)) s λs=> ?_;refine wV 0 s ?_;refine wV 1 s ?_;refine wV 2 s ?_;refine wV 3 s ?_;refine wV 4 s ?_;refine wV 5 s ?_;refine wV 6 s ?_;refine wV 7 s ?_;refine wV 8 s ?_;refine wV 9 s ?_;refine wV 10 s ?_;refine wV 11 s ?_;refine wV 12 s ?_;refine wV 13 s ?_;refine wV 14 s ?_;refine wR 15 λK' hK=> ?_;rw [if_pos bQ];go_simp;refine (gj W3.drew K c s3 (decide (m.unit<(c.ay.length:Int))) 3 12 (Vc.o.ext ah.drew)).mono ?_;rintro e W4 ⟨rfl,hK4,gW⟩;refine hK.o _ _ ⟨s.1.trans gW,(fJ hK4).2.2.2.2.1⟩ λs=> ?_;refine wD ?_;clear hK K';go_wp2
       go_meet
       exact ⟨by rw [hp,Bool.true_and];exact hK4,s.1⟩
      .have s:aH K W3 W3.drew/\W3.drew.cell? ⟨K,4,none⟩=some (.slice c.ua c.ay.length c.uc):=⟨(Ext.refl W3).drew.but K,k4⟩
       refine wG (λw=>aH K W3 w/\w.cell? ⟨K,4,none⟩=some (.slice c.ua c.ay.length c.uc)) s λs=> ?_;refine wV 0 s ?_;refine wV 1 s ?_;refine wV 2 s ?_;refine wV 3 s ?_;refine wV 4 s ?_;refine wN 5 s ?_;refine wN 6 s ?_;refine wN 7 s ?_;refine wN 8 s ?_;refine wN 9 s ?_;refine wN 10 s ?_;refine wN 11 s ?_;refine wN 12 s ?_;refine wN 13 s ?_;refine wV 14 s ?_;refine wR 15 λK' hK=> ?_;rw [if_pos bQ];go_simp;refine (gj W3.drew K c s3 false 3 12 (Vc.o.ext ah.drew)).mono ?_;rintro e W4 ⟨rfl,hK4,gW⟩;refine hK.o _ _ ⟨s.1.trans gW,(fJ hK4).2.2.2.2.1⟩ λs=> ?_;refine wD ?_;clear hK K';go_wp2
       go_meet
       exact ⟨by rw [hp,Bool.false_and];exact hK4,s.1⟩
    case rest=>
    obtain ⟨Gc,gl⟩:=hcut;have Rw:=af Gc;have nB:=af gl;have e0':=g_ e0 gl oY;clear e0 k4;generalize wc=W4 at*;have Yc:Hid (W4.ownsRow D 3 1 u4 i R.flatten):=xF (fg HOW.o O7.o) gl Vb;have HO4:Hid (cj W4 D 3 1 u4 R):=(HO.o.ext O7.o).but gl Vb;have hDs:D<=W4.heap.size:=Nat.le_trans XU.o (Nat.le_trans O7.o.size gl.size);have HDs:=af hDs;clear gl Gc X5;go_wp2_with (at_builtin;refine fC _ rfl (.tmp 53) (.tmp 56) 22 rfl D 3 (.int .i64 0) 1 8 underlying22 Tryz.info_int rfl ai u4 i R.flatten rfl ?c1 (some ⟨W4.heap.size,0,none⟩) 1 1 [i64 m.unit] rfl rfl ?c2 ?c3 ?c4 ?c5 ai ?c6 ?_;rotate_right;intro v1 w5 ho he hb hz hv)
    case c1=>exact fg Yc.o (ah.alloc _)
    case c2=>exact λ_=>⟨_,rfl,kY W4 3 [i64 m.unit]⟩
    case c3=>intro u hu;rw [List.mem_singleton]at hu;subst hu;rfl
    case c4=>intro e;cases e
    case c5=>omega
    case c6=>have:=HDs.o;simp;omega
    have Rx:=Yc.o.lt;have Ry:(W4.alloc (.cells #[i64 m.unit] 3)).heap.size=W4.heap.size+1:=aX;have xK:kg w5 K c (s3.need (decide (0<=m.unit)&&decide (m.unit<(c.ay.length:Int))) 3 12):=aY.keep (Rw.o.ext ((Ext.refl W4).alloc _)) (hb.o K (dB Rw.o.lt) (λe=>dB ((Rx K e.symm).1)));have xB:aY w5 B 105 x.cells:=aY.keep ((Wu.o.ext O7.o).but nB.o mP|>.ext ((Ext.refl W4).alloc _)) (hb.o B (dB HDs.o) (λe=>dB ((Rx B e.symm).1)));have xX:aH K V w5:=aH.append ((EF.o.trans ((O7.o.but K).trans nB.o)).alloc' _) HVD.o (λk e=>(Rx k e).1) he.o hb.o hz.o;have yO:=HO4.o.snoc (w':=w5) (v':=v1) (r:= [i64 m.unit]) rfl (by rw [Ya.o];exact ho.o);have hD5:D<=w5.heap.size:=ux hz.o HDs.o;have HR:=af (And.intro xK (And.intro xX (And.intro xB (And.intro yO hD5))));clear xK xB xX yO hD5 Ry Rx ho he hb hz hv e0';exact ⟨⟨i+1,ae,by rw [HT.o];exact HR.o.1,HR.o.2.1,HR.o.2.2.1,by rw [Tg.o];exact HR.o.2.2.2.1,HR.o.2.2.2.2,bq⟩,bz⟩
   .obtain rfl:i=x.moves.length:=ae
    rw [List.take_length]at hk hown;obtain ⟨ra,rc,rfl,hS,-⟩:=hown.recs ai;have hSl:(x.moves.map λm=> [i64 m.unit])=(x.moves.map cH.unit).map λz=> [i64 z]:=by rw [List.map_map];rfl
    have OV:(x.moves.map λm=> [i64 m.unit]).length=(x.moves.map cH.unit).length:=aX;rw [hSl]at hS;rw [OV]
    have hI:bV wr ra rc (x.moves.map cH.unit):=bV.Aa hS (λz hz=>by
     obtain ⟨m,hm,rfl⟩:=List.mem_map.1 hz;exact HMI.o m hm m.unit aX)
    have Yd:=af (pR wr ra rc (x.moves.map cH.unit) hI);obtain ⟨s3,hs3⟩: ∃s3,s3=s2.DM (c.ay.length:Int) 3 (x.moves.map cH.unit):=⟨_,rfl⟩;rw [<-hs3]at hk;have hf:=Hu.o;rw [<-hs3]at hf;have Hu:=af hf;have Ko:=af hk;have EF:=af hx;have Wu:=af hA
    clear hown hS hI hk hx hA hs3 hf hSl OV hD;generalize lr (x.moves.map cH.unit)=ab at*;generalize (x.moves.map cH.unit).length=ul at*;go_wp2_with fail
    refine Yd.o.mono ?_;rintro e W4 ⟨rfl,x4⟩;have h6:=gj W4 K c s3 ab 3 11 (Ko.o.ext x4);obtain ⟨s4,Ry⟩: ∃s4,s4=s3.need ab 3 11:=⟨_,rfl⟩;rw [<-Ry]at h6;have hf:=Hu.o;rw [<-Ry]at hf;have Hu:=af hf;have Mi:=af h6;have OS:=af (Wu.o.ext x4);have uu:=af (EF.o.trans (x4.but K))
    clear h6 Ry hf x4 Yd Wu EF Ko;go_wp2_with fail
    refine Mi.o.mono ?_;rintro e W5 ⟨rfl,hk5,gl⟩;have Rw:=af hk5;have nB:=af (uu.o.trans gl);have DN:=af (OS.o.but gl mP)
    obtain ⟨-,-,-,b3⟩:=ee.at DN.o;clear hk5 gl Mi OS uu;go_wp2_with fail
    clear b3;go_loopw [66] (λii wl=> ∃i:Nat,i<=x.moves.length/\kg wl K c (s4.Ru (x.moves.take i))/\aH K V wl/\ii= .int .i64 i) (λii _=>x.moves.length-(intOf ii).toNat)
    case atStart=>exact ⟨0,bm,Rw.o,nB.o,rfl⟩
    case round=>
     obtain ⟨i,hi,hk,hx,rfl⟩:=hrel;clear Rw nB DN;by_cases hlt:i<x.moves.length
     .have hE:=hx.ext HV.o eQ.o
      obtain ⟨b,o,ha,c0,c1,c2⟩:=(HM.o.ext hE).moves i hlt;have HT:=af (St.O5 s4 x.moves i hlt);generalize s4.Ru (x.moves.take i)=s5 at*;obtain ⟨m,LI⟩: ∃m,m=x.moves[i]:=⟨_,rfl⟩;rw [<-LI]at c0 c1 c2 HT;have HK6:=af hk;have yS:=af hx
      have mn:(0:Int)<=(i:Int):=ae;have mq:(i:Int)<(x.moves.length:Int):=ae;clear hk hx hE LI;rw [ha];go_upto_region 15 with fail
      obtain ⟨W6,SR,x6,Z6,A6⟩:=bS wr 107 m.cells;rw [show wr.alloc (.cells #[i64 m.unit,i64 m.up,i64 m.down] 107)=W6 from SR.symm];obtain ⟨E,tK⟩: ∃E,E=wr.heap.size:=⟨_,rfl⟩;rw [<-tK]at A6⊢;have oY:E≠K:=dB HK6.o.lt;have Ma:=af A6;have HX7:=af (yS.o.trans (x6.but K));have HK7:=af (HK6.o.ext x6);clear SR tK Z6 A6 x6 c0 c1 c2 yS HK6;obtain ⟨-,e1,e2⟩:=cH.at Ma.o;go_wp2_with fail
      refine (j3 W6 K c s5 3 m.up 0 1048576 HK7.o).mono ?_;rintro e W7 ⟨rfl,hk7,tU⟩;clear e1 e2;obtain ⟨-,e1,e2⟩:=cH.at (Ma.o.but tU oY);go_wp2_with fail
      refine (j3 W7 K c _ 3 m.down 0 1048576 hk7).mono ?_;rintro e W8 ⟨rfl,hk8,lh⟩;have HR:=af (And.intro hk8 ((HX7.o.trans tU).trans lh));clear hk7 tU hk8 lh e1 e2;go_wp2
      exact ⟨⟨i+1,ae,by rw [HT.o];exact HR.o.1,HR.o.2,bq⟩,bz⟩
     .obtain rfl:i=x.moves.length:=ae
      rw [List.take_length,Hu.o]at hk;have HR:=af (And.intro hk hx);clear hk hx;go_wp2
      exact bodyPost_end (v:= .tuple #[]) aw rfl ⟨rfl,HR.o.1,HR.o.2⟩
theorem ME (w0 V:World) (K:Nat) (c:aq) (s:St) (hK:w0.heap.size<=K) (hV:Ext w0 V) (hc:bK w0 c) (hn:c.outs.length<=1000000) (h:kg V K c s):
 Calls prog 93 #[.pointer (some ⟨K,0,none⟩)] V λe' w'=>oU V K c (s.outs c) e' w':=by
 have Rg:=h.lt;have hr:=hc.outs;have hle:=hr.le;have eI:=hr.cap
 rw [List.length_map]at hle;have hen: ∀args w,(callFunc 176 args).run prog w= .ok (.enter 176 args) w:=enters_of func176 aw rfl;have si:=af hen;have HV:=af hV;have iL:=af hc;have HH:=af h;have eQ:=af hK
 unfold St.outs;clear hr h hc hV hen hK;go_enter func93,ntmps93
 go_upto_region 1 with fail
 obtain ⟨W,hW,x0,Z0,A0⟩:=bS V 145 [.pointer (some ⟨K,0,none⟩)];rw [show V.alloc (.cells #[.pointer (some ⟨K,0,none⟩)] 145)=W from hW.symm];clear hW;obtain ⟨B,hB⟩: ∃B,B=V.heap.size:=⟨_,rfl⟩;rw [<-hB]at A0⊢;have mP:B≠K:=ae;have kb:W.cell? ⟨B,0,none⟩=some (.pointer (some ⟨K,0,none⟩)):=(A0.cell 0).trans rfl;have hKW:=HH.o.ext x0;obtain ⟨k0,k1,k2,k3,k4,k5,k6,k7⟩:=fJ hKW;have I0:=af A0;have YF:=af hKW;have X0:=af (x0.but K)
 have qI:=af hB;clear A0 hKW Z0 x0 hB HH;go_wp2_with fail
 clear kb k0 k1 k2 k3 k4 k5 k6 k7;go_loopw [12] (λii wr=> ∃i:Nat,i<=c.outs.length/\kg wr K c (St.kh c s i)/\aH K V wr/\aY wr B 145 [.pointer (some ⟨K,0,none⟩)]/\ii= .int .i64 i) (λii _=>c.outs.length-(intOf ii).toNat)
 case atStart=>exact ⟨0,bm,YF.o,X0.o,I0.o,rfl⟩
 case round=>
  obtain ⟨i,hi,hk,hx,hA,rfl⟩:=hrel;clear I0 YF X0;by_cases hlt:i<c.outs.length
  .have hE:=hx.ext HV.o eQ.o
   have vX:=af (St.F_ c s i hlt);obtain ⟨b,o,ha,c0,c1,c2,c3⟩:=(iL.o.outs.ext hE).outs i hlt;have Jo:=iL.o.o c.outs[i] (List.getElem_mem hlt);generalize St.kh c s i=s0 at*;obtain ⟨prev,OG⟩: ∃prev,prev=(c.outs.take i).map ee.name:=⟨_,rfl⟩;rw [<-OG]at vX;have FX:prev.length=i:=by subst OG;simp;omega
   have Ty: ∀j (hj:j<prev.length),∃h:j<c.outs.length,prev[j]=c.outs[j].name:=λj hj=>⟨ae,by subst OG;simp⟩;obtain ⟨x,Dl⟩: ∃x,x=c.outs[i]:=⟨_,rfl⟩;rw [<-Dl]at c0 c1 c2 c3 Jo vX;have iR:=af Jo;have tq:=af Ty;have uW:=af FX
   have Vs:=af hk;have HX:=af hx;have HE:=af hE;have HA:=af hA
   have kb:wr.cell? ⟨B,0,none⟩=some (.pointer (some ⟨K,0,none⟩)):=(hA.cell 0).trans rfl;have mn:(0:Int)<=(i:Int):=ae;have mq:(i:Int)<(c.outs.length:Int):=ae;clear Jo Ty FX OG Dl hk hx hE hA;rw [ha];go_upto_region 4 with fail
   obtain ⟨W1,hW1,x1,Z1,A1⟩:=bS wr 105 x.cells;rw [show wr.alloc (.cells #[.string x.name,.slice x.la x.lines.length x.lc,.bool x.bY,.slice x.ma x.moves.length x.mc] 105)=W1 from hW1.symm];clear hW1 c0 c1 c2 c3;obtain ⟨E,tK⟩: ∃E,E=wr.heap.size:=⟨_,rfl⟩;rw [<-tK]at A1⊢;have oY:E≠K:=dB Vs.o.lt;have hK0:=Vs.o.ext x1;have oZ:=af A1;have tM:=af (HA.o.ext x1);have NR:aH K V W1:=HX.o.trans (x1.but K);have Vu:Ext w0 W1:=HE.o.trans x1;clear tK A1 Z1 x1 Vs HA kb;have kb:=tM.o.cl 0 (.pointer (some ⟨K,0,none⟩)) rfl;obtain ⟨c0,c1,c2,c3⟩:=ee.at oZ.o;go_wp2_with fail
   refine (FL W1 K c s0 6 i hK0).mono ?_;rintro e W2 ⟨rfl,hK1,hx1⟩;obtain ⟨s1,hs1⟩: ∃s',s'=(s0.at 6 i):=⟨_,rfl⟩;rw [<-hs1]at hK1;have xq:=af hs1;clear hs1;clear kb c0 c1 c2 c3;have oZ:=af (oZ.o.but hx1 oY);have tM:=af (tM.o.but hx1 mP)
   have Qk:aH K V W2:=NR.trans hx1;have Vu:Ext w0 W2:=hx1.ext Vu eQ.o;clear hx1 NR hK0;have kb:=tM.o.cl 0 (.pointer (some ⟨K,0,none⟩)) rfl;obtain ⟨c0,c1,c2,c3⟩:=ee.at oZ.o
   have IV:s1.err=0->s1.idx=(prev.length:Int):=λh0=>by
    rw [uW.o];rw [xq.o]at h0⊢;unfold St.at at h0⊢;split
    .rfl
    .rename_i hne;rw [if_neg hne]at h0;exact absurd h0 hne
   have HN:=af (vV W2 K c s1 x.name iR.o.1 prev 176 B IV (by rw [uW.o];omega) si.o (λV' s' j hj uf Kl=>by
    obtain ⟨hj',ej⟩:=tq.o j hj;rw [ej];exact Rf w0 V' K B c s' j eQ.o (uf.ext Vu eQ.o) iL.o Kl (g_ ((tM.o.cell 0).trans rfl) uf mP) hj') hK1)
   clear IV;go_wp2_with fail
   refine HN.o.mono ?_;rintro e W3 ⟨rfl,hK2,hx2⟩;obtain ⟨s2,hs2⟩: ∃s',s'=(s1.name x.name prev):=⟨_,rfl⟩;rw [<-hs2]at hK2;have mf:=af hs2;clear hs2;clear kb c0 c1 c2 c3;have oZ:=af (oZ.o.but hx2 oY);have tM:=af (tM.o.but hx2 mP)
   have hX3:aH K V W3:=Qk.trans hx2;have Vu:Ext w0 W3:=hx2.ext Vu eQ.o;clear hx2 Qk hK1;obtain ⟨s3,hs3⟩: ∃s',s'=s2.need (decide (x.lines.length=1)||decide (x.lines.length=2)) 1 4:=⟨_,rfl⟩;have Tp:=af hs3;have zS:=af hK2;have EF:=af hX3;have Rp:=af Vu
   have Ro:Hid (c.ay.length<=9223372036854775807):=by
    show _<=_;have h1:=iL.o.ay.le;have h2:=iL.o.ay.cap;rw [List.length_map]at h1;omega
   have HLL:Hid (c.lines.length<=9223372036854775807):=by
    show _<=_;have h1:=iL.o.lines.le;have h2:=iL.o.lines.cap;rw [List.length_map]at h1;omega
   clear hs3 hK2 hX3 Vu;go_upto_region 6 with fail
   go_cut [] (λwx=>kg wx K c s3/\aH K W3 wx/\aY wx E 105 x.cells/\aY wx B 145 [.pointer (some ⟨K,0,none⟩)])
   case first=>
    as_aux_lemma=>
     have kb:=tM.o.cl 0 (.pointer (some ⟨K,0,none⟩)) rfl;obtain ⟨c0,c1,c2,c3⟩:=ee.at oZ.o
     have HLB:Hid (x.lines.length<=9223372036854775807):=by
      show _<=_;have h1:=iR.o.2.1.le;have h2:=iR.o.2.1.cap;omega
     have HN:Hid (∀ok,ok=(decide (x.lines.length=1)||decide (x.lines.length=2))->Calls prog 165 #[.pointer (some ⟨K,0,none⟩),.bool ok,i64 1,i64 4] W3 λe' w'=>oU W3 K c s3 e' w'):=λok yq=>by
      have h5:=gj W3 K c s2 ok 1 4 zS.o;rw [yq,<-Tp.o]at h5;rw [yq];exact h5
     by_cases q:x.lines.length=1
     .have t:((x.lines.length:Int)==1)=true:=by rw [q];rfl
      have HQ:Hid (true=(decide (x.lines.length=1)||decide (x.lines.length=2))):=by show _=_;rw [q];simp
      clear q;go_wp2_with fail
      refine (HN.o true HQ.o).mono ?_;rintro e w2 ⟨rfl,hk,hx⟩;have HR:=af (And.intro hk (And.intro hx (And.intro (oZ.o.but hx oY) (tM.o.but hx mP))));clear hk hx c0 c1 c2 c3 t kb;go_wp2
      go_meet
      exact HR.o
     .have t:((x.lines.length:Int)==1)=false:=by rw [beq_eq_false_iff_ne];omega
      have HQ:Hid (((x.lines.length:Int)==2)=(decide (x.lines.length=1)||decide (x.lines.length=2))):=by
       show _=_;rw [decide_eq_false q,Bool.false_or,Bool.eq_iff_iff,beq_iff_eq,decide_eq_true_eq];omega
      clear q;go_wp2_with fail
      refine (HN.o ((x.lines.length:Int)==2) HQ.o).mono ?_;rintro e w2 ⟨rfl,hk,hx⟩;have HR:=af (And.intro hk (And.intro hx (And.intro (oZ.o.but hx oY) (tM.o.but hx mP))));clear hk hx c0 c1 c2 c3 t kb;go_wp2
      go_meet
      exact HR.o
   case rest=>
    obtain ⟨hk,hx,hE',hB'⟩:=hcut;generalize wc=W4 at*;have Ko:=af hk;have oZ:=af hE';have tM:=af hB';have uu:=af (EF.o.trans hx);have aix:=af (hx.ext Rp.o eQ.o)
    clear hk hx hE' hB' EF zS;obtain ⟨-,-,-,U4,-⟩:=q8 Ko.o;have kb:=tM.o.cl 0 (.pointer (some ⟨K,0,none⟩)) rfl;obtain ⟨c0,c1,c2,c3⟩:=ee.at oZ.o;by_cases h0:s3.err=0
    rotate_left
    .have t1:(s3.err !=0)=true:=by simpa using h0
     have h1:St.kh c s (i+1)=s3:=by
      rw [vX.o];unfold St.ov
      rw [<-xq.o,<-mf.o,<-Tp.o,if_pos h0]
     have h2:St.kh c s c.outs.length=s3:=by
      rw [St.I8 c s (i+1) c.outs.length ae (by rw [h1];exact h0),h1]
     have HR:Hid (kg W4 K c (St.kh c s c.outs.length)):=by show kg _ _ _ _;rw [h2];exact Ko.o
     clear h0 h1 h2;go_wp2
     exact bodyPost_ret (v:= .tuple #[]) aw rfl ⟨rfl,HR.o,uu.o⟩
    have t1:(s3.err !=0)=false:=by simpa using h0
    have Br:Hid (St.kh c s (i+1)=((s3.DM c.lines.length 1 x.lines).need (lr x.lines) 1 11).moves c x):=by
     show _=_;rw [vX.o];unfold St.ov
     rw [<-xq.o,<-mf.o,<-Tp.o,if_neg (λe=>e h0)]
    have aiy:=iR.o.2.1.le;have afy:=iR.o.2.1.cap
    clear h0 vX xq mf Tp;obtain ⟨wo,Ve⟩: ∃wo:World,wo=wr:=⟨_,rfl⟩;subst Ve;go_wp2_with fail
    clear kb c0 c1 c2 c3 U4 t1;go_loopw [45] (λjj wl=> ∃j:Nat,j<=x.lines.length/\kg wl K c (s3.DM c.lines.length 1 (x.lines.take j))/\aH K V wl/\aY wl E 105 x.cells/\aY wl B 145 [.pointer (some ⟨K,0,none⟩)]/\jj= .int .i64 j) (λjj _=>x.lines.length-(intOf jj).toNat)
    case atStart=>exact ⟨0,bm,Ko.o,uu.o,oZ.o,tM.o,rfl⟩
    case round=>
     obtain ⟨j,hj,hk,hx,hA,hB,rfl⟩:=hrel;clear Ko uu oZ tM;by_cases Qe:j<x.lines.length
     .have hE:=hx.ext HV.o eQ.o
      obtain ⟨lb,lo,hla,cl⟩:=(iR.o.2.1.ext hE).cell j Qe;have HT:=af (St.O4 s3 (c.lines.length:Int) 1 x.lines j Qe);generalize s3.DM (c.lines.length:Int) 1 (x.lines.take j)=s4 at*;obtain ⟨z,hz⟩: ∃z,z=x.lines[j]:=⟨_,rfl⟩;rw [<-hz]at cl HT;have Vt:=af hk;have uu:=af hx;have OS:=af hA;have Vm:=af hB
      have UT:(0:Int)<=(j:Int):=ae;have UU:(j:Int)<(x.lines.length:Int):=ae;have kb:wr.cell? ⟨B,0,none⟩=some (.pointer (some ⟨K,0,none⟩)):=(hB.cell 0).trans rfl;obtain ⟨-,-,-,k3,-⟩:=fJ hk;have OV:=HLL.o;clear hk hx hA hB hE hz;rw [hla];have KB:=λY (e:aH K wr Y)=>g_ kb e mP;rcases Bool.eq_false_or_eq_true (decide (0<=z))with hp|hp
      .go_wp2_with fail
       refine wG (λw=>aH K wr w/\w.cell? ⟨K,3,none⟩=some (.slice c.la c.lines.length c.lc)) ⟨(Ext.refl wr).drew.but K,k3⟩ λs=> ?_;refine wV 0 s ?_;refine wV 1 s ?_;refine wV 2 s ?_;refine wV 3 s ?_;refine wV 4 s ?_;refine wV 5 s ?_;refine wV 6 s ?_;refine wV 7 s ?_;refine wV 8 s ?_;refine wV 9 s ?_;refine wV 10 s ?_;refine wV 11 s ?_;refine wV 12 s ?_;refine wR 13 λK' hK=> ?_;rw [if_pos bQ];go_simp;refine (gj wr.drew K c s4 (decide (z<(c.lines.length:Int))) 1 12 (Vt.o.ext ah.drew)).mono ?_;rintro e W5 ⟨rfl,Gc,gl⟩;refine hK.o _ _ ⟨s.1.trans gl,(fJ Gc).2.2.2.1⟩ λs=> ?_;refine wD ?_;have Ef:kg W5 K c (s4.need (decide (0<=z)&&decide (z<(c.lines.length:Int))) 1 12):=by rw [hp,Bool.true_and];exact Gc
       have HR:=af (And.intro Ef (And.intro (uu.o.trans s.1) (And.intro (OS.o.but s.1 oY) (Vm.o.but s.1 mP))));clear hK K' s Gc gl Ef hp OV k3 kb KB;go_wp2
       exact ⟨⟨j+1,ae,by rw [HT.o];exact HR.o.1,HR.o.2.1,HR.o.2.2.1,HR.o.2.2.2,bq⟩,bz⟩
      .go_wp2_with fail
       refine wG (λw=>aH K wr w/\w.cell? ⟨K,3,none⟩=some (.slice c.la c.lines.length c.lc)) ⟨(Ext.refl wr).drew.but K,k3⟩ λs=> ?_;refine wV 0 s ?_;refine wV 1 s ?_;refine wV 2 s ?_;refine wV 3 s ?_;refine wN 4 s ?_;refine wN 5 s ?_;refine wN 6 s ?_;refine wN 7 s ?_;refine wN 8 s ?_;refine wN 9 s ?_;refine wN 10 s ?_;refine wN 11 s ?_;refine wV 12 s ?_;refine wR 13 λK' hK=> ?_;rw [if_pos bQ];go_simp;refine (gj wr.drew K c s4 false 1 12 (Vt.o.ext ah.drew)).mono ?_;rintro e W5 ⟨rfl,Gc,gl⟩;refine hK.o _ _ ⟨s.1.trans gl,(fJ Gc).2.2.2.1⟩ λs=> ?_;refine wD ?_;have Ef:kg W5 K c (s4.need (decide (0<=z)&&decide (z<(c.lines.length:Int))) 1 12):=by rw [hp,Bool.false_and];exact Gc
       have HR:=af (And.intro Ef (And.intro (uu.o.trans s.1) (And.intro (OS.o.but s.1 oY) (Vm.o.but s.1 mP))));clear hK K' s Gc gl Ef hp OV k3 kb KB;go_wp2
       exact ⟨⟨j+1,ae,by rw [HT.o];exact HR.o.1,HR.o.2.1,HR.o.2.2.1,HR.o.2.2.2,bq⟩,bz⟩
     .obtain rfl:j=x.lines.length:=ae
      rw [List.take_length]at hk;obtain ⟨s4,Ry⟩: ∃s',s'=s3.DM (c.lines.length:Int) 1 x.lines:=⟨_,rfl⟩;rw [<-Ry]at hk;have Dd:=Br.o;rw [<-Ry]at Dd;have Br:=af Dd;have Vt:=af hk;have uu:=af hx;have OS:=af hA;have Vm:=af hB
      have Tx:=af (hx.ext HV.o eQ.o);have kb:wr.cell? ⟨B,0,none⟩=some (.pointer (some ⟨K,0,none⟩)):=(hB.cell 0).trans rfl;have e1:wr.cell? ⟨E,1,none⟩=some (.slice x.la x.lines.length x.lc):=(hA.cell 1).trans rfl;clear hk hx hA hB Ry Dd;go_wp2_with fail
      refine eo (λw'=>w'.cell? ⟨B,0,none⟩=some (.pointer (some ⟨K,0,none⟩))/\w'.cell? ⟨E,1,none⟩=some (.slice x.la x.lines.length x.lc)) (λw'=>True) (λi=>false) aw (⟨kb,e1⟩) (trivial) (λdA aL=> ?_);refine eG 0 dA aL ?_;refine eG 1 dA aL ?_;refine eG 2 dA aL ?_;refine Nj 3 rfl (λKc hK=> ?_);go_simp;refine (pR wr.drew x.la x.lc x.lines (iR.o.2.1.ext (Tx.o.trans ah.drew))).mono ?_;rintro e z1 ⟨rfl,xz⟩;refine hK.o _ _ (⟨aB ((Ext.refl wr).drew.trans xz) kb,aB ((Ext.refl wr).drew.trans xz) e1⟩) (trivial) (λdA aL=> ?_);clear hK Kc;try simp only [sS]
      refine Nj 4 rfl (λKc hK=> ?_);go_simp;refine (gj z1 K c s4 (lr x.lines) 1 11 (Vt.o.ext ((Ext.refl wr).drew.trans xz))).mono ?_;rintro e W5 ⟨rfl,Gc,gl⟩;refine hK.o _ _ (⟨g_ (aB ((Ext.refl wr).drew.trans xz) kb) gl mP,g_ (aB ((Ext.refl wr).drew.trans xz) e1) gl oY⟩) (trivial) (λdA aL=> ?_);clear hK Kc;try simp only [sS]
      refine eh aw ?_ _;clear dA aL kb e1;obtain ⟨s5,hs5⟩: ∃s',s'=s4.need (lr x.lines) 1 11:=⟨_,rfl⟩;rw [<-hs5]at Gc;have Dd:=Br.o;rw [<-hs5]at Dd;have Br:=af Dd;have kZ:aH K wr W5:=(((Ext.refl wr).drew.trans xz).but K).trans gl;have DN:=af (OS.o.but kZ oY);have HB5:=af (Vm.o.but kZ mP)
      have nB:=af (uu.o.trans kZ);have HE5:=af (kZ.ext Tx.o eQ.o)
      have Nx:=af (Rv w0 W5 K c s5 x eQ.o HE5.o Ro.o iR.o.2.2.1 iR.o.2.2.2 Gc);have kb:=HB5.o.cl 0 (.pointer (some ⟨K,0,none⟩)) rfl;obtain ⟨c0,c1,c2,c3⟩:=ee.at DN.o;clear hs5 Dd gl kZ xz Gc;go_wp2_with fail
      refine Nx.o.mono ?_;rintro e W6 ⟨rfl,Ef,kZ⟩;have HR:=af (And.intro Ef (And.intro (nB.o.trans kZ) (HB5.o.but kZ mP)));clear Ef kZ kb c0 c1 c2 c3;go_wp2
      exact ⟨⟨i+1,ae,by rw [Br.o];exact HR.o.1,HR.o.2.1,HR.o.2.2,bq⟩,bz⟩
  .obtain rfl:i=c.outs.length:=ae
   go_wp2
   exact bodyPost_end (v:= .tuple #[]) aw rfl ⟨rfl,hk,hx⟩
