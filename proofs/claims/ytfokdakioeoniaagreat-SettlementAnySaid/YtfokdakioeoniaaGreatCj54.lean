/- Texts of the proof. -/
import Derived.Test.YtfokdakioeoniaaGreatCj50
import Derived.Test.YtfokdakioeoniaaGreatCj53
set_option linter.all false
set_option maxHeartbeats 4000000
set_option maxRecDepth 100000
namespace Go.Proofs.YtfokdakioeoniaaGreat
open Go.Proofs.Tryz
open Go.RowKit
structure rQ (W0:World) (l:Nat->List Int) (i:Nat) (v:Value) (w:World):Prop where
 ext:Ext W0 w
 arr: ∃(ga:Option Addr) (gc:Nat) (rows:List (List Value)),v= .slice ga rows.length gc/\rows.length=i/\cj w W0.heap.size 22 1 (.slice ga rows.length gc) rows/\ ∀j,j<i-> ∃b,rows[j]?=some [.slice (some ⟨b,0,none⟩) (l j).length (l j).length]/\aY w b 3 (ju (l j))/\ ∀q,ga=some q->q.block≠b
theorem rQ.next {W0 w w':World} {l:Nat->List Int} {i:Nat} {v:Value} (h:rQ W0 l i v w) (x:Ext w w'):rQ W0 l i v w':=by
 obtain ⟨ga,gc,rows,e1,e2,e3,e4⟩:=h.arr;exact ⟨h.ext.trans x,ga,gc,rows,e1,e2,e3.ext x,λj hj=>by obtain ⟨b,f1,f2,f3⟩:=e4 j hj;exact ⟨b,f1,f2.ext x,f3⟩⟩
theorem rQ.start {W0 w:World} (h:Ext W0 w) (l:Nat->List Int):rQ W0 l 0 (.slice none 0 0) w:=
 ⟨h,none,0,[],rfl,rfl,cj.nil _ _ _ _,λj hj=>absurd hj (Nat.not_lt_zero _)⟩
theorem rQ.rows {W0 w:World} {l:Nat->List Int} {n:Nat} {v:Value} (h:rQ W0 l n v w): ∃a c,v= .slice a n c/\nS w a n l:=by
 obtain ⟨ga,gc,rows,e1,e2,e3,e4⟩:=h.arr;obtain ⟨a,c,f1,f2,-⟩:=e3.recs ai;cases f1
 refine ⟨ga,gc,by rw [e1,e2],λi hi=> ?_⟩;obtain ⟨b,g1,g2,-⟩:=e4 i hi;obtain ⟨b',o,k1,k2⟩:=f2.cell i ae
 have hrow:rows[i]'ae= [.slice (some ⟨b,0,none⟩) (l i).length (l i).length]:=by
  have h5:=g1;rw [List.getElem?_eq_getElem ae]at h5;exact Option.some.inj h5
 have h6:=k2 0 (by rw [hrow];exact Nat.one_pos);simp only [hrow]at h6;exact ⟨b',o,_,_,k1,by simpa using h6,nt g2⟩
theorem qD (V:World) (c:aq) (S:aQ) (p:aU) (h:Int) (hc:bK V c) (hl:kU c) (h0: ¬cC c=0):
 Calls prog 32 #[.agg (C8 c),.agg S.cells.toArray,.agg p.cells.toArray,.int .i64 h] V λe w'=>e= .returned (.tuple #[.slice none 0 0,i64 (cC c)])/\Ext V w':=by
 try unfold C8
 have p7:=af (λU (x:Ext V U)=>sI U c (hc.ext x) hl);have t1:(cC c !=0)=true:=by simpa using h0
 clear hc hl h0;unfold aQ.cells aU.cells;go_enter func32,ntmps32
 go_upto_region 1 with fail
 generalize hW1:World.alloc V _=W1;generalize hW2:World.alloc W1 _=W2;generalize hW:World.alloc W2 _=W;obtain ⟨G,R,B,hG,hR,hB,HB,dY,gH,iU,nW⟩:=fw hW1 hW2 hW;rw [<-hG];try rw [hR]
 try rw [hB]
 clear hW hW1 hW2 hG hR hB;have K: ∀Y,Ext W Y->_:=λY e=>aq.at (dY.o.ext e);have K1: ∀Y,Ext W Y->_:=λY e=>(gH.o.ext e).cs;have K2: ∀Y,Ext W Y->_:=λY e=>(iU.o.ext e).cs;replace K1:=gO K1;replace K2:=gO K2;have st:=Ext.refl W;go_wp2_with fail
 refine (p7.o W HB.o).mono ?_;rintro e w1 ⟨ek,ei,ef,rfl,xx⟩;clear p7;replace st:=st.trans xx;clear xx;go_upto_region 2 with fail
 generalize hW2:World.alloc w1 _=W2;obtain ⟨B2,-,x2,-⟩:=aI hW2;replace st:=st.trans x2;clear hW2 x2;go_wp2_with fail
 go_ret2
 exact ⟨rfl,HB.o.trans st⟩
theorem vC (V:World) (c:aq) (S:aQ) (p:aU) (hc:bK V c) (hl:kU c) (h0: ¬cC c=0):
 Calls prog 34 #[.agg (C8 c),.agg S.cells.toArray,.agg p.cells.toArray] V λe w'=>e= .returned (.tuple #[.slice none 0 0,i64 (cC c)])/\Ext V w':=by
 try unfold C8
 have PS:=af (λU (x:Ext V U)=>qD U c S p 0 (hc.ext x) hl h0);have t1:(cC c !=0)=true:=by simpa using h0
 clear hc hl h0;unfold aQ.cells aU.cells at*;go_enter func34,ntmps34
 go_upto_region 1 with fail
 generalize hW1:World.alloc V _=W1;generalize hW2:World.alloc W1 _=W2;generalize hW:World.alloc W2 _=W;obtain ⟨G,R,B,hG,hR,hB,HB,dY,gH,iU,nW⟩:=fw hW1 hW2 hW;rw [<-hG];try rw [hR]
 try rw [hB]
 clear hW hW1 hW2 hG hR hB;have K: ∀Y,Ext W Y->_:=λY e=>aq.at (dY.o.ext e);have K1: ∀Y,Ext W Y->_:=λY e=>(gH.o.ext e).cs;have K2: ∀Y,Ext W Y->_:=λY e=>(iU.o.ext e).cs;replace K1:=gO K1;replace K2:=gO K2;have st:=Ext.refl W;go_wp2_with fail
 refine (PS.o W HB.o).mono ?_;rintro e w1 ⟨rfl,x1⟩;replace st:=st.trans x1;clear PS x1;go_wp2_with fail
 go_ret2
 exact ⟨rfl,HB.o.trans st⟩
theorem BO (V:World) (c:aq) (S:aQ) (p:aU) (hc:bK V c) (hl:kU c) (h0:cC c=0) (hA:Acc c) (hs:eM V S 4) (hp:fS V p 4) (hn:S.moves.length<=1000) (hm:p.moves.length<=100) (ht:Ti c):
 Calls prog 34 #[.agg (C8 c),.agg S.cells.toArray,.agg p.cells.toArray] V (Li V c S p):=by
 try unfold C8
 have Zn:=af (λU (x:Ext V U)=>rP U c S p 0 (hc.ext x) hl h0 hA (hs.ext x) (hp.ext x) hn hm ht);have PS:=af (λU (x:Ext V U) (h:Nat)=>rP U c S p h (hc.ext x) hl h0 hA (hs.ext x) (hp.ext x) hn hm ht);have ND:=af hA.ok.frame.hours;have Lf:=af ht
 obtain ⟨H,HH⟩: ∃H:Nat,Hid (c.hours=(H:Int)):=⟨c.hours.toNat,by show _=_;have:=hA.ok.frame.hours;omega⟩;have adG:H<=24:=ux ND.o HH.o;clear hc hl h0 hA hs hp hn hm ht;unfold aQ.cells aU.cells at*;go_enter func34,ntmps34
 go_upto_region 1 with fail
 generalize hW1:World.alloc V _=W1;generalize hW2:World.alloc W1 _=W2;generalize hW:World.alloc W2 _=W;obtain ⟨G,R,B,hG,hR,hB,HB,dY,gH,iU,nW⟩:=fw hW1 hW2 hW;rw [<-hG];try rw [hR]
 try rw [hB]
 clear hW hW1 hW2 hG hR hB;have K: ∀Y,Ext W Y->_:=λY e=>aq.at (dY.o.ext e);have K1: ∀Y,Ext W Y->_:=λY e=>(gH.o.ext e).cs;have K2: ∀Y,Ext W Y->_:=λY e=>(iU.o.ext e).cs;replace K1:=gO K1;replace K2:=gO K2;have st:=Ext.refl W;go_wp2_with fail
 refine (Zn.o W HB.o).mono ?_;rintro e w1 ⟨hr,x1⟩;replace st:=st.trans x1;clear Zn x1;rcases hr with⟨hz,a,cap,rs,rfl,-⟩|⟨hz,rfl⟩
 case inr=>
  have V8:=af hz;have t1:(nX c S p 0 !=0)=true:=by simpa using hz
  have AL:Hid (JN c S p=nX c S p 0):=if_neg hz;clear hz;go_wp2_with fail
  go_ret2
  exact ⟨Or.inr ⟨by rw [AL.o];exact V8.o,by rw [AL.o];rfl⟩,HB.o.trans st⟩
 have Ks:=af hz;replace HB:=af (HB.o.trans st);replace dY:=af (dY.o.ext st);replace gH:=af (gH.o.ext st);replace iU:=af (iU.o.ext st)
 have HI:Hid (rQ w1 (wT c S p) 0 (.slice none 0 0) w1):=rQ.start (Ext.refl w1) _;have KH: ∀Y,Ext w1 Y->Y.cell? ⟨G,0,none⟩=some (i64 (H:Int)):=λY e=>by rw [<-HH.o];exact (aq.at (dY.o.ext e)).1
 clear hz st K K1 K2;have s:=Ext.refl w1;go_wp2
 go_loopw [11,10] (λii v wr=> ∃(i:Nat) (v0:Value),i<=H/\ii= .int .i64 i/\v0=v/\Hg c S p i=0/\rQ w1 (wT c S p) i v0 wr) (λii _ _=>H-(intOf ii).toNat)
 case atStart=>exact ⟨0,_,bm,rfl,rfl,rfl,HI.o⟩
 case round=>
  clear HI s;obtain ⟨i,v,hi,rfl,rfl,hX,hI⟩:=hrel;have HI:=af hI;have HX:=af hX
  clear hI hX;by_cases hlt:i<H
  .have b1:(i:Int)<(H:Int):=Int.ofNat_lt.2 hlt
   have b0:(0:Int)<=(i:Int):=Int.natCast_nonneg i;have Y7:Hid (nX c S p (i:Int)=nX c S p 0):=PY (dB ND.o) (dB HH.o);have K:=λY (e:Ext wr Y)=>aq.at ((dY.o.ext HI.o.ext).ext e);have K1:=λY (e:Ext wr Y)=>((gH.o.ext HI.o.ext).ext e).cs;have K2:=λY (e:Ext wr Y)=>((iU.o.ext HI.o.ext).ext e).cs;replace K1:=gO K1;replace K2:=gO K2;have Zo:decide ((i:Int)<c.hours)=true:=by have:=HH.o;simp;omega
   have s:=Ext.refl wr;clear KH;go_wp2_with fail
   refine (PS.o wr (HB.o.trans HI.o.ext) i).mono ?_;rintro e w3 ⟨hr,x3⟩;rw [Y7.o,Int.toNat_natCast]at hr;replace HI:=af (HI.o.next x3);clear x3 K K1 K2 s Zo;have s:=Ext.refl w3;rcases hr with⟨hz,a,cap,rs,rfl,EG,hrt,ur⟩|⟨hz,rfl⟩
   case inr=>exact absurd Ks.o hz
   have JO:=af (Sm w3 a cap 1000 rs _ hrt cG ur (Hf Lf.o _ _ _) (Hd _ _ _ _));rw [EG]at JO;clear hz hrt ur EG;go_wp2_with fail
   refine JO.o.mono ?_;rintro e w4 hr;clear JO;rcases hr with⟨hz,b,rfl,hb,Zm,x4⟩|⟨hz,rfl,x4⟩
   case inr=>
    have V8:=af hz;have t1:(IL (mN c S p i) !=0)=true:=by simpa using hz
    have AL:Hid (JN c S p=IL (mN c S p i)):=by
     show _=_;rw [JN,if_pos Ks.o];exact Hj HX.o hz (dB HH.o)
    replace HI:=af (HI.o.next x4);clear hz x4 s;have s:=Ext.refl w4;go_wp2_with fail
    go_ret2
    exact ⟨Or.inr ⟨by rw [AL.o];exact V8.o,by rw [AL.o];rfl⟩,HB.o.trans HI.o.ext⟩
   have Ma:Hid (Hg c S p (i+1)=0):=by show _=_;rw [Hg,if_pos HX.o];exact hz
   obtain ⟨ga,gc,rows,rfl,EG,hown,hrw⟩:=HI.o.arr
   have tM:Hid (aY w4 b 3 (ju (wT c S p i))/\ ∀q,ga=some q->q.block≠b):=⟨Zm,λq hq e=>by
    have h1:=(hown.own.lt q.block (by rw [hq];rfl)).2;omega⟩
   have HOW:=af (hown.ext x4);have Gl:=af (And.intro EG λj hj=>hrw j hj);have uu:=af x4;have Tx:=af (HI.o.ext.trans x4);have hLL:Hid ((wT c S p i).length=(kr (mN c S p i)).length):=rfl;clear hz x4 s hb Zm EG hown hrw HI;have s:=Ext.refl w4;go_wp2_with (generalize t_:World.alloc w4 _=w5;obtain ⟨B5,hBe,x5,EN⟩:=aI t_;rw [<-hBe];refine Ak (B:=B5) _ _ 82 22 (.slice none 0 0) 1 24 rfl rfl underlying82 Tryz.info_ints rfl ai ai rfl (HOW.o.ext x5) rfl EN rfl (λu hu=>by simp only [List.mem_singleton]at hu;subst hu;rfl) (dB Gl.o.1) (Tx.o.trans x5).size ?_;intro g2 k2 w6 b6 TK Ts kZ)
   have si:Hid (rQ w1 (wT c S p) (i+1) (.slice g2 (rows.length+1) k2) w6):=by
    have hlen:(rows++ [[Value.slice (some ⟨b,0,none⟩) (kr (mN c S p i)).length (kr (mN c S p i)).length]]).length=rows.length+1:=aX;refine ⟨kZ.ext (Tx.o.trans x5) Ts.o.1,g2,k2,_,by rw [hlen],by rw [hlen,Gl.o.1],by rw [hlen];exact TK,λj hj=> ?_⟩;have hsz:=(uu.o.trans x5).size;by_cases e:j<i
    .obtain ⟨bj,f1,f2,f3⟩:=Gl.o.2 j e
     have hbj:bj≠b6:=λq=>by
      rcases Ts.o.2.1 with q1|⟨q',q1,q2⟩
      .have:=(f2.ext (uu.o.trans x5)).lt;omega
      .exact f3 q' q1 (by rw [q2,q])
     refine ⟨bj,by rw [List.getElem?_append_left (dB Gl.o.1)];exact f1,(f2.ext (uu.o.trans x5)).gw kZ hbj,λq hq e2=> ?_⟩;rcases Ts.o.2.2 q hq with q1|⟨p',q1,q2⟩
     .have:=(f2.ext (uu.o.trans x5)).lt;omega
     .exact f3 p' q1 (by rw [q2,e2])
    .obtain rfl:j=i:=ae
     have hbj:b≠b6:=λq=>by
      rcases Ts.o.2.1 with q1|⟨q',q1,q2⟩
      .have:=(tM.o.1.ext x5).lt;omega
      .exact tM.o.2 q' q1 (by rw [q2,q])
     refine ⟨b,by rw [List.getElem?_append_right (dB Gl.o.1),Gl.o.1,Nat.sub_self];rfl,(tM.o.1.ext x5).gw kZ hbj,λq hq e2=> ?_⟩;rcases Ts.o.2.2 q hq with q1|⟨p',q1,q2⟩
     .have:=(tM.o.1.ext x5).lt;omega
     .exact tM.o.2 p' q1 (by rw [q2,e2])
   clear TK Ts kZ EN x5 s;have s:=Ext.refl w6;go_wp2
   exact ⟨⟨i+1,_,hlt,bq,rfl,Ma.o,si.o⟩,bz⟩
  .obtain rfl:i=H:=ae
   clear hlt hi;have s:=HI.o.ext
   have AL:Hid (JN c S p=0/\c.hours.toNat=i):=by
    have h1:c.hours.toNat=i:=dB HH.o;exact ⟨by rw [JN,if_pos Ks.o,h1];exact HX.o,h1⟩
   obtain ⟨a2,c2,rfl,hro⟩:=HI.o.rows;have Gl:=af hro;clear hro;go_wp2_with fail
   go_ret2
   exact ⟨Or.inl ⟨AL.o.1,a2,c2,by rw [AL.o.2];rfl,by rw [AL.o.2];exact Gl.o⟩,HB.o.trans HI.o.ext⟩
theorem jV.row {w:World} {a:Option Addr} {c L:Nat} {rs:List bE} {qs:List Rat} (h:jV w a c rs qs L) (hs:jh rs L): ∃l:List QV,l.length=rs.length/\eC w ⟨a,c,l⟩ L/\ ∀i (hi:i<qs.length),(fM.mk a c l).q i=qs[i]:=by
 have hl:=h.len;have hzl:(List.zipWith QV.mk rs qs).length=rs.length:=by simp [hl]
 refine ⟨List.zipWith QV.mk rs qs,hzl,⟨⟨by rw [List.length_map,hzl];exact h.le,h.cap,λi hi=> ?_⟩,λy hy=> ?_⟩,λi hi=> ?_⟩
 .have hi':i<rs.length:=by rw [List.length_map,hzl]at hi;exact hi
  obtain ⟨b,o,e,c0,c1,c2⟩:=h.cell i hi';refine ⟨b,o,e,λj hj=> ?_⟩;simp only [List.getElem_map,List.getElem_zipWith,QV.cells,bE.cells]at hj⊢;match j,hj with
  |0,_=>exact c0
  |1,_=>exact c1
  |2,_=>exact c2
 .obtain ⟨i,hi,rfl⟩:=List.mem_iff_getElem.1 hy
  have hi':i<rs.length:=by rw [hzl]at hi;exact hi
  rw [List.getElem_zipWith];exact ⟨h.num i hi',(hs i hi').1,(hs i hi').2⟩
 .unfold fM.q
  rw [List.getElem?_eq_getElem (show i<(List.zipWith QV.mk rs qs).length by rw [hzl];omega),List.getElem_zipWith];rfl
def Lj (V:World) (n:Nat) (z:Int) (f:Nat->Rat) (e:Ending) (w':World):Prop:= ∃(a:Option Addr) (cap:Nat) (l:List QV),e= .returned (.tuple #[.slice a l.length cap,i64 z])/\l.length=n/\eC w' ⟨a,cap,l⟩ 1000/\(∀i,i<n->(fM.mk a cap l).q i=f i)/\Ext V w'
def Lk (V:World) (n:Nat) (z:Int) (l:Nat->List Int) (e:Ending) (w':World):Prop:= ∃(a:Option Addr) (cap:Nat),e= .returned (.tuple #[.slice a n cap,i64 z])/\nS w' a n l/\Ext V w'
theorem eC.nil (w:World):eC w ⟨none,0,[]⟩ 1000:=⟨⟨aX,by show(0:Nat)<=9223372036854775807;decide,λi hi=>by simp at hi⟩,λy hy=>by simp at hy⟩
theorem CS (V:World) (c:aq) (S:aQ) (p:aU) (h:Int) (n m:Nat) (z y:Int) (f:Nat->Rat) (l:Nat->List Int) (hl: ∀i,i<m->(l i).length<1000000) (LI:m<=1000000)
 (h1: ∀U,Ext V U->Calls prog 31 #[.agg (C8 c),.agg S.cells.toArray,.agg p.cells.toArray,.int .i64 h] U (Lj U n z f))
 (h2: ∀U,Ext V U->Calls prog 32 #[.agg (C8 c),.agg S.cells.toArray,.agg p.cells.toArray,.int .i64 h] U (Lj U n z f))
 (h3: ∀U,Ext V U->Calls prog 33 #[.agg (C8 c),.agg S.cells.toArray,.agg p.cells.toArray] U (Lk U m y l))
 (h4: ∀U,Ext V U->Calls prog 34 #[.agg (C8 c),.agg S.cells.toArray,.agg p.cells.toArray] U (Lk U m y l)):
 Calls prog 13 #[.agg (C8 c),.agg S.cells.toArray,.agg p.cells.toArray,.int .i64 h] V λe w'=>e= .returned (.bool true)/\Ext V w':=by
 try unfold C8
 have H1:=af h1;have H2:=af h2;have H3:=af h3;have H4:=af h4;have HL:=af hl
 clear h1 h2 h3 h4 hl;unfold aQ.cells aU.cells at*;go_enter func13,ntmps13
 go_upto_region 1 with fail
 generalize hW1:World.alloc V _=W1;generalize hW2:World.alloc W1 _=W2;generalize hW:World.alloc W2 _=W;obtain ⟨G,R,B,hG,hR,hB,HB,dY,gH,iU,nW⟩:=fw hW1 hW2 hW;rw [<-hG];try rw [hR]
 try rw [hB]
 clear hW hW1 hW2 hG hR hB;have K: ∀Y,Ext W Y->_:=λY e=>aq.at (dY.o.ext e);have K1: ∀Y,Ext W Y->_:=λY e=>(gH.o.ext e).cs;have K2: ∀Y,Ext W Y->_:=λY e=>(iU.o.ext e).cs;replace K1:=gO K1;replace K2:=gO K2;have st:=Ext.refl W;go_wp2_with fail
 refine (H1.o W HB.o).mono ?_;rintro e w1 ⟨a1,c1,l1,rfl,Xh,hr1,pE,x1⟩;replace st:=st.trans x1;have tO:=af (And.intro Xh (And.intro hr1 pE));clear Xh hr1 pE x1;go_wp2_with fail
 refine (H2.o w1 (HB.o.trans st)).mono ?_;rintro e w2 ⟨a2,c2,l2,rfl,Uc,hr2,BU,x2⟩;replace st:=st.trans x2;have Dr:=af (And.intro Uc (And.intro hr2 BU));replace tO:=af (And.intro tO.o.1 (And.intro (tO.o.2.1.ext x2) tO.o.2.2));clear Uc hr2 BU x2;go_wp2_with fail
 refine (H3.o w2 (HB.o.trans st)).mono ?_;rintro e w3 ⟨a3,c3,rfl,hr3,x3⟩;replace st:=st.trans x3;replace tO:=af (And.intro tO.o.1 (And.intro (tO.o.2.1.ext x3) tO.o.2.2));replace Dr:=af (And.intro Dr.o.1 (And.intro (Dr.o.2.1.ext x3) Dr.o.2.2));have Hy:=af hr3;clear hr3 x3;go_wp2_with fail
 refine (H4.o w3 (HB.o.trans st)).mono ?_;rintro e w4 ⟨a4,c4,rfl,hr4,x4⟩;replace st:=st.trans x4;replace tO:=af (And.intro tO.o.1 (And.intro (tO.o.2.1.ext x4) tO.o.2.2));replace Dr:=af (And.intro Dr.o.1 (And.intro (Dr.o.2.1.ext x4) Dr.o.2.2));replace Hy:=af (Hy.o.ext x4);have HR4:=af hr4
 have HV:=af (Jw w4 ⟨a1,c1,l1⟩ ⟨a2,c2,l2⟩ 1000 tO.o.2.1 Dr.o.2.1 ai (λ_ i hi=>by
  have hi':i<n:=by have h5:=tO.o.1;have h6:i<l1.length:=hi;omega
  rw [tO.o.2.2 i hi',Dr.o.2.2 i hi']))
 have HVD:Hid (decide (l1.length=l2.length)=true):=decide_eq_true (by rw [tO.o.1,Dr.o.1]);have HST:=af st;simp only at HV;rw [HVD.o]at HV;clear hr4 x4 K K1 K2 st;have t1:(z !=z)=false:=aX;have t2:(y !=y)=false:=aX;have s:=Ext.refl w4;go_wp2_with fail
 refine HV.o.mono ?_;rintro e w5 ⟨rfl,x5⟩;replace HST:=af (HST.o.trans x5);replace Hy:=af (Hy.o.ext x5);replace HR4:=af (HR4.o.ext x5)
 clear x5 HV s;have s:=Ext.refl w5;go_wp2
 go_loopw [17] (λii wr=> ∃i:Nat,i<=m/\ii= .int .i64 i/\Ext w5 wr) (λii _=>m-(intOf ii).toNat)
 case atStart=>exact ⟨0,bm,rfl,s⟩
 case round=>
  clear s;obtain ⟨i,hi,rfl,s⟩:=hrel;by_cases hlt:i<m
  .have b1:(i:Int)<(m:Int):=Int.ofNat_lt.2 hlt
   have b0:(0:Int)<=(i:Int):=Int.natCast_nonneg i;obtain ⟨b,o,sa,sc,rfl,e2,e3⟩:=Hy.o i hlt;obtain ⟨b',o',sa',sc',rfl,f2,f3⟩:=HR4.o i hlt;have K: ∀Y,Ext w5 Y->_:=λY e=>aB e e2;have K1: ∀Y,Ext w5 Y->_:=λY e=>aB e f2;have HI:=af (λU (x:Ext w5 U)=>oJ U sa sa' sc sc' (l i) (e3.ext x) (f3.ext x) (HL.o i hlt));clear e2 e3 f2 f3;go_upto_region 10 with fail
   refine wG (λw=>Ext w5 w) s.drew λs=> ?_;generalize wr.drew=Y at*;refine wV 0 s ?_;refine wV 1 s ?_;refine wV 4 s ?_;refine wV 5 s ?_;refine wV 2 s ?_;refine wV 6 s ?_;refine wV 3 s ?_;refine wV 7 s ?_;refine wR 8 λK' hK=> ?_;rw [if_pos bQ];go_simp;refine (HI.o Y s).mono ?_;rintro e w6 ⟨rfl,x6⟩;refine hK.o _ _ (s.trans x6) λs=> ?_;clear hK K' x6;refine wV 9 s ?_;refine wD ?_;go_wp2
   exact ⟨⟨i+1,hlt,bq,s⟩,bz⟩
  .obtain rfl:i=m:=ae
   go_wp2
   go_ret;exact ⟨rfl,HB.o.trans (HST.o.trans s)⟩
theorem BP (fs:List Rat) (n:Nat): ∀(l:List Int) (t:Nat),(dZ fs n l t).length=l.length:=by
 intro l t;induction t with
 |zero=>simp [dZ]
 |succ t ih=>simp [dZ,ih]
theorem BQ (qs:List Rat):(kr qs).length=qs.length:=by unfold kr;rw [BP,List.length_map]
theorem JP {c:aq} (S:aQ) (p:aU) (ht:Ti c) (i:Nat):(wT c S p i).length<1000000:=by
 unfold wT;rw [BQ,mN,List.length_append,fU];have:=ht.ay;have:=ht.stores;have:=ht.bF;have:=ht.ar
 simp;omega
theorem Ew.pair {V:World} {c:aq} {S:aQ} {p:aU} {h:Int} {e:Ending} {w':World} (q:Ew V c S p h e w'):Lj V (if nX c S p h=0 then(mN c S p h.toNat).length else 0) (nX c S p h) (λi=>((mN c S p h.toNat)[i]?).getD 0) e w':=by
 obtain ⟨q,hx⟩:=q;rcases q with⟨hz,a,cap,rs,rfl,hl,hr,hs⟩|⟨hz,rfl⟩
 .obtain ⟨l,h1,h2,h3⟩:=hr.row hs
  refine ⟨a,cap,l,by rw [hz,h1,hl],by rw [if_pos hz,h1,hl],h2,λi hi=> ?_,hx⟩;rw [if_pos hz]at hi;rw [h3 i hi];show _=((mN c S p h.toNat)[i]?).getD 0;rw [List.getElem?_eq_getElem hi];rfl
 .refine ⟨none,0,[],rfl,by rw [if_neg hz];rfl,eC.nil w',λi hi=> ?_,hx⟩
  rw [if_neg hz]at hi;omega
theorem nS.nil (w:World) (l:Nat->List Int):nS w none 0 l:=λi hi=>absurd hi (Nat.not_lt_zero _)
theorem Li.pair {V:World} {c:aq} {S:aQ} {p:aU} {e:Ending} {w':World} (q:Li V c S p e w'):Lk V (if JN c S p=0 then c.hours.toNat else 0) (JN c S p) (wT c S p) e w':=by
 obtain ⟨q,hx⟩:=q;rcases q with⟨hz,a,cap,rfl,hr⟩|⟨hz,rfl⟩
 .exact ⟨a,cap,by rw [if_pos hz,hz],by rw [if_pos hz];exact hr,hx⟩
 .exact ⟨none,0,by rw [if_neg hz],by rw [if_neg hz];exact nS.nil w' _,hx⟩
theorem EB (V:World) (c:aq) (S:aQ) (p:aU) (h:Int) (hc:bK V c) (hl:kU c) (hs:eM V S 4) (hp:fS V p 4) (hn:S.moves.length<=1000) (hm:p.moves.length<=100) (ht:Ti c):
 Calls prog 13 #[.agg (C8 c),.agg S.cells.toArray,.agg p.cells.toArray,.int .i64 h] V λe w'=>e= .returned (.bool true)/\Ext V w':=by
 try unfold C8
 by_cases h0:cC c=0
 .have hA:=Jg h0
  exact CS V c S p h _ _ _ _ _ _ (λi _=>JP S p ht i) (by have:=hA.ok.frame.hours;split<;>omega)
   (λU x=>(AO U c S p h (hc.ext x) hl h0 hA (hs.ext x) (hp.ext x) ae hm ht).mono λe w' q=>q.pair)
   (λU x=>(rP U c S p h (hc.ext x) hl h0 hA (hs.ext x) (hp.ext x) hn hm ht).mono λe w' q=>q.pair)
   (λU x=>(EA U c S p (hc.ext x) hl h0 hA (hs.ext x) (hp.ext x) ae hm ht).mono λe w' q=>q.pair)
   (λU x=>(BO U c S p (hc.ext x) hl h0 hA (hs.ext x) (hp.ext x) hn hm ht).mono λe w' q=>q.pair)
 .have ka: ∀{U:World} {e:Ending} {w':World},e= .returned (.tuple #[.slice none 0 0,i64 (cC c)])/\Ext U w'->Lj U 0 (cC c) (λ_=>0) e w':=λq=>⟨none,0,[],q.1,rfl,eC.nil _,λi hi=>absurd hi (Nat.not_lt_zero _),q.2⟩
  have ks: ∀{U:World} {e:Ending} {w':World},e= .returned (.tuple #[.slice none 0 0,i64 (cC c)])/\Ext U w'->Lk U 0 (cC c) (λ_=> []) e w':=λq=>⟨none,0,q.1,nS.nil _ _,q.2⟩
  exact CS V c S p h 0 0 (cC c) (cC c) (λ_=>0) (λ_=> []) (λi hi=>absurd hi (Nat.not_lt_zero _)) ae
   (λU x=>(AX U c S p h (hc.ext x) hl h0).mono λe w' q=>ka q)
   (λU x=>(qD U c S p h (hc.ext x) hl h0).mono λe w' q=>ka q)
   (λU x=>(wU U c S p (hc.ext x) hl h0).mono λe w' q=>ks q)
   (λU x=>(vC U c S p (hc.ext x) hl h0).mono λe w' q=>ks q)
theorem Sp (V:World) (c:aq) (hc:bK V c):
 Calls prog 5 #[.agg (C8 c)] V λe w'=> ∃t:Bool,e= .returned (.bool t)/\(t=true->c.ar.length<=5/\c.lines.length<=6/\c.ay.length<=4/\c.stores.length<=4/\c.bF.length<=4/\c.outs.length<=4/\c.hours<=3)/\Ext V w':=by
 try unfold C8
 have iL:=af hc;clear hc;go_enter func5,ntmps5
 go_upto_region 1 with fail
 obtain ⟨W0,hW,x0,Z0,A0⟩:=bS V 30 c.cells;rw [show V.alloc (.cells (C8 c) 30)=W0 from hW.symm];obtain ⟨B,hB⟩: ∃B,B=V.heap.size:=⟨_,rfl⟩;rw [<-hB]at A0⊢;have HX:=af x0;have HA:=af A0
 clear hW Z0 A0 x0 hB;obtain ⟨k0,k1,k2,k3,k4,k5,k6,k7⟩:=aq.at HA.o;clear k1;by_cases h0:5<c.ar.length
 .have g0:(5:Int)<(c.ar.length:Int):=ae
  go_wp2
  go_ret;exact ⟨false,rfl,(λe=>by cases e),HX.o⟩
 .have g0:decide ((5:Int)<(c.ar.length:Int))=false:=by rw [decide_eq_false_iff_not];omega
  by_cases h1:6<c.lines.length
  .have g1:(6:Int)<(c.lines.length:Int):=ae
   go_wp2
   go_ret;exact ⟨false,rfl,(λe=>by cases e),HX.o⟩
  .have g1:decide ((6:Int)<(c.lines.length:Int))=false:=by rw [decide_eq_false_iff_not];omega
   by_cases h2:4<c.ay.length
   .have g2:(4:Int)<(c.ay.length:Int):=ae
    go_wp2
    go_ret;exact ⟨false,rfl,(λe=>by cases e),HX.o⟩
   .have g2:decide ((4:Int)<(c.ay.length:Int))=false:=by rw [decide_eq_false_iff_not];omega
    by_cases h3:4<c.stores.length
    .have g3:(4:Int)<(c.stores.length:Int):=ae
     go_wp2
     go_ret;exact ⟨false,rfl,(λe=>by cases e),HX.o⟩
    .have g3:decide ((4:Int)<(c.stores.length:Int))=false:=by rw [decide_eq_false_iff_not];omega
     by_cases h4:4<c.bF.length
     .have g4:(4:Int)<(c.bF.length:Int):=ae
      go_wp2
      go_ret;exact ⟨false,rfl,(λe=>by cases e),HX.o⟩
     .have g4:decide ((4:Int)<(c.bF.length:Int))=false:=by rw [decide_eq_false_iff_not];omega
      by_cases h5:4<c.outs.length
      .have g5:(4:Int)<(c.outs.length:Int):=ae
       go_wp2
       go_ret;exact ⟨false,rfl,(λe=>by cases e),HX.o⟩
      .have g5:decide ((4:Int)<(c.outs.length:Int))=false:=by rw [decide_eq_false_iff_not];omega
       by_cases h6:3<c.hours
       .go_wp2
        go_ret;exact ⟨false,rfl,(λe=>by cases e),HX.o⟩
       .have HT:Hid (c.ar.length<=5/\c.lines.length<=6/\c.ay.length<=4/\c.stores.length<=4/\c.bF.length<=4/\c.outs.length<=4/\c.hours<=3):=by(show _/\_/\_/\_/\_/\_/\_;omega)
        have g6:decide ((3:Int)<c.hours)=false:=by rw [decide_eq_false_iff_not];exact h6
        have HU:=af HT.o.2.2.1;clear h0 h1 h2 h3 h4 h5 h6;go_wp2_with fail
        clear g0 g1 g2 g3 g4 g5 g6 k0 k2 k3 k4 k5 k6 k7;go_loopw [3] (λii wr=> ∃i:Nat,i<=c.ay.length/\Ext W0 wr/\ii= .int .i64 (i:Int)) (λii _=>c.ay.length-(intOf ii).toNat)
        case atStart=>exact ⟨0,bm,ah,rfl⟩
        case round=>
             obtain ⟨i,hi,hx,rfl⟩:=hrel;have Mg:=af hx;have k4:wr.cell? ⟨B,4,none⟩=some (.slice c.ua c.ay.length c.uc):=aB hx ((HA.o.cell 4).trans rfl);clear hx;by_cases hlt:i<c.ay.length
             .have b1:(i:Int)<(c.ay.length:Int):=ae
              have b0:(0:Int)<=(i:Int):=ae;have hr:=(iL.o.ext (HX.o.trans Mg.o)).ay;have hle:=hr.le;have eI:=hr.cap
              rw [List.length_map]at hle;obtain ⟨b,o,ha,hcell⟩:=hr.cell i (by rw [List.length_map];exact hlt);simp only [List.getElem_map]at hcell;have e4:wr.cell? ⟨b,o+i*22+4,none⟩=some (.slice c.ay[i].sa c.ay[i].bR.length c.ay[i].sc):=hcell 4 (by show 4<22;decide);have e18:wr.cell? ⟨b,o+i*22+18,none⟩=some (.slice c.ay[i].aa c.ay[i].away.length c.ay[i].ac):=hcell 18 (by show 18<22;decide);rw [ha]at k4;have q5:IntKind.i64.wrap ((i:Int)+1)=((i+1:Nat):Int):=by rw [IntKind.wrap_i64];have:=HU.o;omega
              have q6:wrap64 ((i:Int)+1)=((i+1:Nat):Int):=by unfold wrap64;have:=HU.o;omega
              have BV:=af hlt;clear hr hcell ha hi;generalize c.ay[i]=x at*;clear hlt;by_cases h1:30<x.away.length
              .have g1:(30:Int)<(x.away.length:Int):=ae
               go_wp2
               go_ret;exact ⟨false,rfl,(λe=>by cases e),HX.o.trans Mg.o⟩
              .have g1:decide ((30:Int)<(x.away.length:Int))=false:=by rw [decide_eq_false_iff_not];omega
               clear h1;by_cases h2:20<x.bR.length
               .have g2:(20:Int)<(x.bR.length:Int):=ae
                go_wp2
                go_ret;exact ⟨false,rfl,(λe=>by cases e),HX.o.trans Mg.o⟩
               .have g2:decide ((20:Int)<(x.bR.length:Int))=false:=by rw [decide_eq_false_iff_not];omega
                clear h2;go_wp2
                exact ⟨⟨i+1,by(have:=BV.o;omega),Mg.o,by first|rfl|exact congrArg (Value.int IntKind.i64) q6⟩,by first|(show c.ay.length-(((i+1:Nat):Int)).toNat<c.ay.length-((i:Int)).toNat;have:=BV.o;omega)|exact Nat.lt_of_le_of_lt (Nat.le_of_eq (congrArg (λz=>c.ay.length-Int.toNat z) q6)) (by show c.ay.length-(((i+1:Nat):Int)).toNat<c.ay.length-((i:Int)).toNat;have:=BV.o;omega)⟩
             .obtain rfl:i=c.ay.length:=ae
              go_wp2
              go_ret;exact ⟨true,rfl,λ_=>HT.o,HX.o.trans Mg.o⟩
theorem tu (V:World) (c:aq) (S:aQ) (p:aU) (h:Int) (hc:bK V c) (hl: ∀o∈c.outs,o.moves.length<=5900000000000) (hs:j8 V S) (hp:jg V p):
 Calls prog 4 #[.agg (C8 c),.agg S.cells.toArray,.agg p.cells.toArray,.int .i64 h] V λe w'=>e= .returned (.bool true)/\Ext V w':=by
 try unfold C8
 have HT:=af (λU (x:Ext V U)=>Sp U c (hc.ext x));have HS:=af (λU (x:Ext V U)=>PZ U S (hs.ext x));have HP:=af (λU (x:Ext V U)=>P6 U p (hp.ext x));have HG:Hid (∀U,Ext V U->Ti c->c.lines.length<=6->EC S->AY p->_):=λU x ht Qi We hps=>EB U c S p h (hc.ext x) ⟨dB ht.ar,ae,dB ht.ay,dB ht.stores,dB ht.bF,dB ht.outs,hl⟩ ((hs.in We).ext x) ((hp.in hps).ext x) (dB We.moves) (dB hps.moves) ht;clear hc hl hs hp;unfold aQ.cells aU.cells at*;go_enter func4,ntmps4
 go_upto_region 1 with fail
 generalize hW1:World.alloc V _=W1;generalize hW2:World.alloc W1 _=W2;generalize hW:World.alloc W2 _=W;obtain ⟨G,R,B,hG,hR,hB,HB,dY,gH,iU,nW⟩:=fw hW1 hW2 hW;rw [<-hG];try rw [hR]
 try rw [hB]
 clear hW hW1 hW2 hG hR hB;have K: ∀Y,Ext W Y->_:=λY e=>aq.at (dY.o.ext e);have K1: ∀Y,Ext W Y->_:=λY e=>(gH.o.ext e).cs;have K2: ∀Y,Ext W Y->_:=λY e=>(iU.o.ext e).cs;replace K1:=gO K1;replace K2:=gO K2;have s:=Ext.refl W;go_wp2_with fail
 refine (HT.o W HB.o).mono ?_;rintro e w1 ⟨t,rfl,h1,x1⟩;have H1:=af h1;replace s:=s.trans x1;clear h1 x1;cases t with
 |false=>
  go_wp2
  go_ret;exact ⟨rfl,HB.o.trans s⟩
 |true=>
 have xL:Hid (Ti c):=by
  have q:=H1.o rfl;exact ⟨q.1,q.2.2.1,q.2.2.2.1,q.2.2.2.2.1,q.2.2.2.2.2.1⟩
 have tr:Hid (c.lines.length<=6):=(H1.o rfl).2.1;go_wp2_with fail
 refine (HS.o w1 (HB.o.trans s)).mono ?_;rintro e w2 ⟨t,rfl,h2,x2⟩;have H2:=af h2;replace s:=s.trans x2;clear h2 x2;cases t with
 |false=>
  go_wp2
  go_ret;exact ⟨rfl,HB.o.trans s⟩
 |true=>
 go_wp2_with fail
 refine (HP.o w2 (HB.o.trans s)).mono ?_;rintro e w3 ⟨t,rfl,h3,x3⟩;have H3:=af h3;replace s:=s.trans x3;clear h3 x3;cases t with
 |true=>
  go_wp2
  go_ret;exact ⟨rfl,HB.o.trans s⟩
 |false=>
 go_wp2_with fail
 refine (GY w3).mono ?_;rintro e w4 ⟨rfl,x4⟩;replace s:=s.trans x4;clear x4;have HGG:=af (HG.o w4 (HB.o.trans s) xL.o tr.o (H2.o (by trivial)) (H3.o (by trivial)));go_wp2_with fail
 refine HGG.o.mono ?_;rintro e w5 ⟨rfl,x5⟩;go_wp2
 go_ret;exact ⟨rfl,HB.o.trans (s.trans x5)⟩
open Go.ChangeShapes Go.WideShapes Go.ChangeAt Go.Deep
section
variable{H:Type} {enc:TypeId×Value->H} {w:World} {base:Nat} {spare:Nat->Bool} {held:Bool} {fuel:Nat} {cs:List Value} {x:DataW H×List MemPlace}
theorem Hm {v:Value} (h:DataW.trod enc prog w base spare held fuel 32 [v]=some x): ∃r:fM,v= .slice r.a (List.length r.l) r.c/\fH w r:=by
 obtain ⟨a,c,rs,rfl,f⟩:=LV h
 have hex: ∀r:bE,∃q:Rat,qX w r.a r.k r.c->qX w r.b r.j r.d->r.k<=4->r.j<=4->fE w r q 4:=by
  intro r;by_cases hr:qX w r.a r.k r.c/\qX w r.b r.j r.d/\r.k<=4/\r.j<=4
  .obtain ⟨h1,h2,r1,r2⟩:=hr
   obtain ⟨n,hn⟩:=h1.2.2 ae;obtain ⟨m,hm⟩:=h2.2.2 ae;have l1:=hn.cg;have l2:=hm.cg;exact ⟨mkRat (bf r.s n) m,λ_ _ _ _=>⟨⟨n,m,hn,hm,rfl,ae,ae⟩,r1,r2⟩⟩
  .exact ⟨0,λh1 h2 h3 h4=>absurd ⟨h1,h2,h3,h4⟩ hr⟩
 obtain ⟨Q,hQ⟩:=Classical.axiomOfChoice hex;have hm:(rs.map λr=>(⟨r,Q r⟩:QV)).map QV.r=rs:=by rw [List.map_map];exact List.map_id' rs
 refine ⟨⟨a,c,rs.map λr=>⟨r,Q r⟩⟩,aX,by rw [hm];exact f,λy hy=> ?_⟩;obtain ⟨r,hr,rfl⟩:=List.mem_map.1 hy;obtain ⟨i,hi,rfl⟩:=List.mem_iff_getElem.1 hr;have:=f.num i hi;exact hQ _ this.1 this.2
section
variable{n k:Nat} {c c':Value}
theorem gQ (g: ∃y,DataW.trod enc prog w base spare held n 32 ((cs.drop k).take (prog.cellsOf 32))=some y/\Wt y.1 32) (hc:(cs.drop k).take 1= [c]:=by rfl): ∃r:fM,c= .slice r.a (List.length r.l) r.c/\fH w r:=by
 rw [show prog.cellsOf 32=1 from aw,hc]at g;obtain ⟨y,g,-⟩:=g;exact Hm g
theorem gM (g: ∃y,DataW.trod enc prog w base spare held n 31 ((cs.drop k).take (prog.cellsOf 31))=some y/\Wt y.1 31) (hc:(cs.drop k).take 1= [c]:=by rfl): ∃r:ku,c= .slice r.a (List.length r.l) r.c/\qg w r:=by
 obtain ⟨a,q,rs,h1,h2,h3,-⟩:=gR (c:=c) (cells:=fM.cells) (Q:=fH w) 1 ⟨none,0,[]⟩ underlying31 (λn cs y h hw=>by
  obtain ⟨v,rfl⟩: ∃v,cs= [v]:=by rcases open_slice underlying32 h with⟨hcs,_⟩|⟨a,len,cap,k,n,D,Pl,hcs,_⟩<;>exact ⟨_,hcs⟩
  obtain ⟨r,rfl,hl⟩:=Hm h;exact ⟨r,rfl,hl⟩) g (hc:=hc)
 exact ⟨⟨a,q,rs⟩,h1,h2,h3⟩
end
theorem Ng (h:DataW.trod enc prog w base spare held fuel 41 cs=some x) (hw:Wt x.1 41): ∃r:tF,cs=r.cells/\(bV w r.sa r.sc r.states/\fH w r.e/\fH w r.r):=by
 obtain ⟨hlen,n,hf⟩:=H' underlying41 h hw;rw [show prog.cellsOf 41=3 from by kernel_rfl]at hlen;clear h hw;match cs,hlen,hf with
 | [c0,c1,c2],_,hf=>
   obtain ⟨a0,k0,l0,rfl,f0⟩:=gL (k:=0) (hf 0 _ rfl);obtain ⟨r1,rfl,f1⟩:=gQ (k:=1) (hf 1 _ rfl);obtain ⟨r2,rfl,f2⟩:=gQ (k:=2) (hf 2 _ rfl);exact ⟨⟨a0,k0,l0,r1,r2⟩,rfl,f0,f1,f2⟩
theorem Qb (h:DataW.trod enc prog w base spare held fuel 58 cs=some x) (hw:Wt x.1 58): ∃r:eF,cs=r.cells/\(dx r.hour/\dx r.br/\fH w r.up/\fH w r.down):=by
 obtain ⟨hlen,n,hf⟩:=H' underlying58 h hw;rw [show prog.cellsOf 58=4 from by kernel_rfl]at hlen;clear h hw;match cs,hlen,hf with
 | [c0,c1,c2,c3],_,hf=>
   obtain ⟨z0,rfl,f0⟩:=gI (k:=0) (hf 0 _ rfl);obtain ⟨z1,rfl,f1⟩:=gI (k:=1) (hf 1 _ rfl);obtain ⟨r2,rfl,f2⟩:=gQ (k:=2) (hf 2 _ rfl);obtain ⟨r3,rfl,f3⟩:=gQ (k:=3) (hf 3 _ rfl);exact ⟨⟨z0,z1,r2,r3⟩,rfl,f0,f1,f2,f3⟩
theorem JS (h:DataW.trod enc prog w base spare held fuel 39 cs=some x) (hw:Wt x.1 39): ∃r:aQ,cs=r.cells/\j8 w r:=by
 obtain ⟨hlen,n,hf⟩:=H' underlying39 h hw;rw [show prog.cellsOf 39=8 from by kernel_rfl]at hlen;clear h hw;match cs,hlen,hf with
 | [c0,c1,c2,c3,c4,c5,c6,c7],_,hf=>
   obtain ⟨a0,k0,l0,rfl,f0,q0,b0⟩:=gR (cells:=tF.cells) 3 ⟨none,0,[],⟨none,0,[]⟩,⟨none,0,[]⟩⟩ underlying36 (λ_ _ _ h hw=>Ng h hw) (k:=0) (hf 0 _ rfl);obtain ⟨m1,rfl,f1⟩:=gM (k:=1) (hf 1 _ rfl);obtain ⟨m2,rfl,f2⟩:=gM (k:=2) (hf 2 _ rfl);obtain ⟨m3,rfl,f3⟩:=gM (k:=3) (hf 3 _ rfl);obtain ⟨m4,rfl,f4⟩:=gM (k:=4) (hf 4 _ rfl);obtain ⟨m5,rfl,f5⟩:=gM (k:=5) (hf 5 _ rfl);obtain ⟨m6,rfl,f6⟩:=gM (k:=6) (hf 6 _ rfl);obtain ⟨a7,k7,l7,rfl,f7,q7,b7⟩:=gR (cells:=eF.cells) 4 ⟨0,0,⟨none,0,[]⟩,⟨none,0,[]⟩⟩ underlying37 (λ_ _ _ h hw=>Qb h hw) (k:=7) (hf 7 _ rfl);refine ⟨⟨a0,k0,l0,m1,m2,m3,m4,m5,m6,a7,k7,l7⟩,rfl,f0,q0,?_,f7,q7⟩;intro m hm;simp only [List.mem_cons,List.not_mem_nil,or_false]at hm;rcases hm with rfl|rfl|rfl|rfl|rfl|rfl<;>assumption
set_option maxRecDepth 10000 in
theorem Qc (h:DataW.trod enc prog w base spare held fuel 53 cs=some x) (hw:Wt x.1 53): ∃a b:Int,cs= [i64 a,i64 b]/\dx a/\dx b:=by
 obtain ⟨hlen,n,hf⟩:=H' underlying53 h hw;rw [show prog.cellsOf 53=2 from by kernel_rfl]at hlen;clear h hw;match cs,hlen,hf with
 | [c0,c1],_,hf=>
   obtain ⟨z0,rfl,f0⟩:=gI (k:=0) (hf 0 _ rfl);obtain ⟨z1,rfl,f1⟩:=gI (k:=1) (hf 1 _ rfl);exact ⟨z0,z1,rfl,f0,f1⟩
theorem Sv (h:DataW.trod enc prog w base spare held fuel 55 cs=some x) (hw:Wt x.1 55): ∃r:oK,cs=r.cells/\(dx r.hour/\dx r.br/\fH w r.fc):=by
 obtain ⟨hlen,n,hf⟩:=H' underlying55 h hw;rw [show prog.cellsOf 55=3 from by kernel_rfl]at hlen;clear h hw;match cs,hlen,hf with
 | [c0,c1,c2],_,hf=>
   have g0: ∃y,DataW.trod enc prog w base spare held n 53 (([c0,c1,c2].drop 0).take (prog.cellsOf 53))=some y/\Wt y.1 53:=hf 0 _ rfl;rw [show prog.cellsOf 53=2 from by kernel_rfl]at g0;obtain ⟨y0,g0,w0⟩:=g0;obtain ⟨z0,z1,e0,f0,f1⟩:=Qc g0 w0;obtain ⟨rfl,rfl⟩:c0=i64 z0/\c1=i64 z1:=by simpa using e0
   obtain ⟨r2,rfl,f2⟩:=gQ (k:=2) (hf 1 _ rfl);exact ⟨⟨z0,z1,r2⟩,rfl,f0,f1,f2⟩
theorem Hn (h:DataW.trod enc prog w base spare held fuel 35 cs=some x) (hw:Wt x.1 35): ∃r:aU,cs=r.cells/\jg w r:=by
 obtain ⟨hlen,n,hf⟩:=H' underlying35 h hw;rw [show prog.cellsOf 35=3 from by kernel_rfl]at hlen;clear h hw;match cs,hlen,hf with
 | [c0,c1,c2],_,hf=>
   obtain ⟨m0,rfl,f0⟩:=gM (k:=0) (hf 0 _ rfl);obtain ⟨r1,rfl,f1⟩:=gQ (k:=1) (hf 1 _ rfl);obtain ⟨a2,k2,l2,rfl,f2,q2,b2⟩:=gR (cells:=oK.cells) 3 ⟨0,0,⟨none,0,[]⟩⟩ underlying33 (λ_ _ _ h hw=>Sv h hw) (k:=2) (hf 2 _ rfl);exact ⟨⟨m0,r1,a2,k2,l2⟩,rfl,f0,f1,f2,q2⟩
end
