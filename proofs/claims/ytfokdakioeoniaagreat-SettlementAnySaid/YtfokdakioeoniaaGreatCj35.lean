/- Texts of the proof. -/
import Derived.Test.YtfokdakioeoniaaGreatCj34
set_option linter.all false
set_option maxHeartbeats 4000000
set_option maxRecDepth 100000
namespace Go.Proofs.YtfokdakioeoniaaGreat
open Go.Proofs.Tryz
open Go.RowKit
def Aw (s:aQ) (i h:Nat):Rat:=(s.ay[i]?.map λp=>p.e.q h).getD 0
def uw (s:aQ) (i h:Nat):Rat:=(s.ay[i]?.map λp=>p.r.q h).getD 0
theorem Ji {s:aQ} {i:Nat} (h:i<s.ay.length) (j:Nat):Aw s i j=s.ay[i].e.q j:=by unfold Aw;rw [List.getElem?_eq_getElem h];rfl
theorem Eb {s:aQ} {i:Nat} (h:i<s.ay.length) (j:Nat):uw s i j=s.ay[i].r.q j:=by unfold uw;rw [List.getElem?_eq_getElem h];rfl
def Ny (s:aQ) (i h:Nat):Rat:=s.disch.q i h-s.cB.q i h
def Qs (x:eF) (i:Nat):Rat:=x.up.q i-x.down.q i
def yB (c:aq) (o i:Nat):Nat:=fG c (((j5 c o)[i]?.map cH.unit).getD 0).toNat
theorem RD {c:aq} {o i:Nat} (h:i<(j5 c o).length):yB c o i=fG c ((j5 c o)[i]).unit.toNat:=by unfold yB;rw [List.getElem?_eq_getElem h];rfl
def jY (p:Nat->Nat) (f:Nat->Rat) (k b:Nat):Rat:=eL (λi=>if p i=b then f i else 0) k
theorem Mt (p:Nat->Nat) (f:Nat->Rat) (b:Nat):jY p f 0 b=0:=rfl
theorem Mu (B:Nat->Rat) (p:Nat->Nat) (f:Nat->Rat) (k j:Nat):(if j=p k then(B (p k)+jY p f k (p k))+f k else B j+jY p f k j)=B j+jY p f (k+1) j:=by
 show _=B j+(jY p f k j+if p k=j then f k else 0);by_cases e:p k=j
 .subst e;rw [if_pos rfl,if_pos rfl,Rat.add_assoc]
 .rw [if_neg λq=>e q.symm,if_neg e,Rat.add_zero]
theorem QA.bin {w:World} {K n L L':Nat} {B:Nat->Rat} {p:Nat->Nat} {f:Nat->Rat} {k:Nat} (h:QA w K n (λj=>B j+jY p f k j) L) (hi:p k<n) (hL:L<=L') {r:bE} (hr:fE w r ((B (p k)+jY p f k (p k))+f k) L') (ho:Gj r K):
 QA (((w.setCell ⟨K,p k*3,none⟩ (.bool r.s)).setCell ⟨K,p k*3+1,none⟩ (.slice r.a r.k r.c)).setCell ⟨K,p k*3+2,none⟩ (.slice r.b r.j r.d)) K n (λj=>B j+jY p f (k+1) j) L'/\
 aH K w (((w.setCell ⟨K,p k*3,none⟩ (.bool r.s)).setCell ⟨K,p k*3+1,none⟩ (.slice r.a r.k r.c)).setCell ⟨K,p k*3+2,none⟩ (.slice r.b r.j r.d)):=by
 obtain ⟨h1,h2⟩:=(h.mono hL).put (p k) hi hr ho;exact ⟨h1.congr λj _=>Mu B p f k j,h2⟩
def Ys (c:aq) (s:aQ) (h b:Nat):Rat:=jY (fG c) (λi=>Aw s i h) c.ay.length b+jY (ki c) (λi=>Ny s i h) c.stores.length b+jY (kL c) (λi=>s.imp.q i h) c.bF.length b
def BF (c:aq) (s:aQ) (h b:Nat):Rat:=Ys c s h b+(s.er.q b h-(kO c b h:Rat))
def Vh (c:aq) (o:Nat) (x:eF) (b:Nat):Rat:=jY (yB c o) (Qs x) (j5 c o).length b
open Classical in
noncomputable def mj (c:aq) (s:aQ) (h:Nat) (o:Int) (b:Nat):Rat:=
 if e:0<=o/\ ∃x∈s.moves,x.hour=h/\x.br=o then BF c s h b+Vh c o.toNat (Classical.choose e.2) b else BF c s h b
theorem Mv {c:aq} {s:aQ} {h:Nat} {o:Int} (hn: ∀j (hj:j<s.moves.length),¬(s.moves[j].hour=(h:Int)/\s.moves[j].br=o)) (b:Nat):mj c s h o b=BF c s h b:=dif_neg λe=>by
 obtain ⟨x,hx,e⟩:=e.2;obtain ⟨j,hj,rfl⟩:=List.mem_iff_getElem.1 hx;exact hn j hj e
theorem fp.one {c:aq} {ms:List eF} (hm:fp c ms) {h o:Int} {i j:Nat} (hi:i<ms.length) (hj:j<ms.length) (e:ms[i].hour=h/\ms[i].br=o) (e':ms[j].hour=h/\ms[j].br=o):i=j:=by
 have key: ∀i j (hi:i<ms.length) (hj:j<ms.length),ms[i].hour=h/\ms[i].br=o->ms[j].hour=h/\ms[j].br=o-> ¬i<j:=λi j hi hj e e' q=>by
  have:=hm.lt i j hi hj q;unfold h_ at this;omega
 have h1:=key i j hi hj e e';have h2:=key j i hj hi e' e;omega
theorem Mw {c:aq} {s:aQ} {h:Nat} {o:Int} (hm:fp c s.moves) (ho:0<=o) {i:Nat} (hi:i<s.moves.length) (e1:s.moves[i].hour=h) (e2:s.moves[i].br=o) (b:Nat):mj c s h o b=BF c s h b+Vh c o.toNat s.moves[i] b:=by
 have he:0<=o/\ ∃x∈s.moves,x.hour=h/\x.br=o:=⟨ho,_,List.getElem_mem hi,e1,e2⟩;unfold mj;rw [dif_pos he];obtain ⟨hx,hy⟩:=Classical.choose_spec he.2;obtain ⟨j,hj,hjx⟩:=List.mem_iff_getElem.1 hx;rw [<-hjx]at hy⊢;obtain rfl:=hm.one hi hj ⟨e1,e2⟩ hy;rfl
theorem Mx (c:aq) (s:aQ) (h b:Nat):((s.er.q b h-(kO c b h:Rat))+jY (fG c) (λi=>Aw s i h) c.ay.length b)+jY (ki c) (λi=>Ny s i h) c.stores.length b+jY (kL c) (λi=>s.imp.q i h) c.bF.length b=BF c s h b:=by
 unfold BF Ys;grind
theorem jP {W:World} {R j:Nat} {T:TypeId} {vs:List Value} (A:aY W R T vs) {y:fM} {L:Nat} (h:eC W y L) (hv:vs[j]?=some (.slice y.a y.l.length y.c)) (k:Nat) (hk:k<y.l.length):
 ∃b o r,Hid (fE W r (y.q k) L)/\(k:Int)<(y.l.length:Int)/\ ∀Y,Ext W Y->Y.cell? ⟨R,j,none⟩=some (.slice (some ⟨b,o,none⟩) y.l.length y.c)/\Y.cell? ⟨b,o+k*3,none⟩=some (.bool r.s)/\Y.cell? ⟨b,o+k*3+1,none⟩=some (.slice r.a r.k r.c)/\Y.cell? ⟨b,o+k*3+2,none⟩=some (.slice r.b r.j r.d):=by
 obtain ⟨b,o,r,ha,hr,K⟩:=h.at k hk;rw [ha]at hv;exact ⟨b,o,r,hr,Int.ofNat_lt.2 hk,λY e=>⟨by rw [(A.ext e).cell];exact hv,K Y e⟩⟩
theorem ie {W:World} {R j:Nat} {T:TypeId} {vs:List Value} (A:aY W R T vs) {t:ku} {L:Nat} (h:jW W t L) (hv:vs[j]?=some (.slice t.a t.l.length t.c)) {n m:Int} (ht:cE t n m=true) (i k:Nat) (hi:(i:Int)<n) (hk:(k:Int)<m):
 ∃b o b5 o5 n5 c5 r,Hid (fE W r (t.q i k) L)/\(i:Int)<(t.l.length:Int)/\(k:Int)<((n5:Nat):Int)/\ ∀Y,Ext W Y->Y.cell? ⟨R,j,none⟩=some (.slice (some ⟨b,o,none⟩) t.l.length t.c)/\Y.cell? ⟨b,o+i,none⟩=some (.slice (some ⟨b5,o5,none⟩) n5 c5)/\Y.cell? ⟨b5,o5+k*3,none⟩=some (.bool r.s)/\Y.cell? ⟨b5,o5+k*3+1,none⟩=some (.slice r.a r.k r.c)/\Y.cell? ⟨b5,o5+k*3+2,none⟩=some (.slice r.b r.j r.d):=by
 obtain ⟨h1,h2⟩:=gZ.1 ht;have hi':i<t.l.length:=ae;obtain ⟨b,o,y,ha,hy,HY,hq,K⟩:=h.at i hi';have hl:=h2 _ (List.getElem_mem hi');rw [<-hy.o]at hl;have qJ:k<y.l.length:=ae;obtain ⟨b5,o5,r,hb,hr,K5⟩:=HY.o.at k qJ;rw [ha]at hv;rw [hb]at K;refine ⟨b,o,b5,o5,y.l.length,y.c,r,by rw [hq.o k];exact hr,ae,ae,λY e=>⟨by rw [(A.ext e).cell];exact hv,K Y e,K5 Y e⟩⟩
theorem Gk {W:World} {R:Nat} {T:TypeId} {vs:List Value} (A:aY W R T vs) {s:aQ} {L:Nat} (h:eM W s L) (hv:vs[0]?=some (.slice s.ua s.ay.length s.uc)) {m:Int} (ht: ∀p∈s.ay,(p.states.length:Int)=m/\(p.e.l.length:Int)=m/\(p.r.l.length:Int)=m) (i k:Nat) (hi:i<s.ay.length) (hk:(k:Int)<m):
 ∃b o b5 o5 n5 c5 r b6 o6 n6 c6 r6,Hid (fE W r (Aw s i k) L)/\Hid (fE W r6 (uw s i k) L)/\(i:Int)<(s.ay.length:Int)/\(k:Int)<((n5:Nat):Int)/\(k:Int)<((n6:Nat):Int)/\ ∀Y,Ext W Y->Y.cell? ⟨R,0,none⟩=some (.slice (some ⟨b,o,none⟩) s.ay.length s.uc)/\Y.cell? ⟨b,o+i*3+1,none⟩=some (.slice (some ⟨b5,o5,none⟩) n5 c5)/\Y.cell? ⟨b5,o5+k*3,none⟩=some (.bool r.s)/\Y.cell? ⟨b5,o5+k*3+1,none⟩=some (.slice r.a r.k r.c)/\Y.cell? ⟨b5,o5+k*3+2,none⟩=some (.slice r.b r.j r.d)/\
  Y.cell? ⟨b,o+i*3+2,none⟩=some (.slice (some ⟨b6,o6,none⟩) n6 c6)/\Y.cell? ⟨b6,o6+k*3,none⟩=some (.bool r6.s)/\Y.cell? ⟨b6,o6+k*3+1,none⟩=some (.slice r6.a r6.k r6.c)/\Y.cell? ⟨b6,o6+k*3+2,none⟩=some (.slice r6.b r6.j r6.d):=by
 have hm:=List.getElem_mem hi;obtain ⟨-,e1,e2⟩:=ht _ hm;obtain ⟨-,i1,i2⟩:=h.unit _ hm;obtain ⟨b,o,ha,hc⟩:=h.ay.cs i hi;obtain ⟨b5,o5,r,hb,hr,K5⟩:=i1.at k ae;obtain ⟨b6,o6,r6,Ts,C_,K6⟩:=i2.at k ae;simp only [Cs,tF.cells,Nat.zero_add,Nat.reduceAdd,hb,Ts]at hc;obtain ⟨-,c1,c2,-⟩:=hc;rw [ha]at hv;refine ⟨b,o,b5,o5,_,_,r,b6,o6,_,_,r6,by rw [Ji hi];exact hr,by rw [Eb hi];exact C_,ae,ae,ae,λY e=>⟨by rw [(A.ext e).cell];exact hv,aB e c1,(K5 Y e).1,(K5 Y e).2.1,(K5 Y e).2.2,aB e c2,K6 Y e⟩⟩
structure jF (V:World) (c:aq) (s:aQ) (G R K n:Nat) (g:Nat->Rat) (L:Nat) (w:World):Prop where
 ext:Ext V w
 cb:aY w G 30 c.cells
 sb:aY w R 39 s.cells
 own:QA w K n g L
 ne:G≠K/\R≠K/\V.heap.size<=K
theorem jF.next {V w w':World} {c:aq} {s:aQ} {G R K n L:Nat} {g:Nat->Rat} (h:jF V c s G R K n g L w) (x:Ext w w'):jF V c s G R K n g L w':=⟨h.ext.trans x,h.cb.ext x,h.sb.ext x,h.own.ext x,h.ne⟩
theorem jF.but {V w w':World} {c:aq} {s:aQ} {G R K n L L':Nat} {g g':Nat->Rat} (h:jF V c s G R K n g L w) (x:aH K w w') (q:QA w' K n g' L'):jF V c s G R K n g' L' w':=⟨x.ext h.ext h.ne.2.2,h.cb.gw x h.ne.1,h.sb.gw x h.ne.2.1,q,h.ne⟩
theorem jF.congr {V w:World} {c:aq} {s:aQ} {G R K n L:Nat} {g g':Nat->Rat} (h:jF V c s G R K n g L w) (e: ∀i,i<n->g i=g' i):jF V c s G R K n g' L w:=⟨h.ext,h.cb,h.sb,h.own.congr e,h.ne⟩
theorem jF.bin {V w:World} {c:aq} {s:aQ} {G R K n L L':Nat} {B:Nat->Rat} {p:Nat->Nat} {f:Nat->Rat} {k:Nat} (h:jF V c s G R K n (λj=>B j+jY p f k j) L w) (hi:p k<n) (hL:L<=L') {r:bE} (hr:fE w r ((B (p k)+jY p f k (p k))+f k) L') (ho:Gj r K):
 jF V c s G R K n (λj=>B j+jY p f (k+1) j) L' (((w.setCell ⟨K,p k*3,none⟩ (.bool r.s)).setCell ⟨K,p k*3+1,none⟩ (.slice r.a r.k r.c)).setCell ⟨K,p k*3+2,none⟩ (.slice r.b r.j r.d)):=by
 obtain ⟨h1,h2⟩:=h.own.bin hi hL hr ho;exact h.but h2 h1
theorem MB (V:World) (c:aq) (a:Option Addr) (k:Nat) (ms:List eF) (hc:bK V c) (hl:kU c) (h0:cC c=0) (hA:Acc c) (hm:di V 4 a k (ms.map eF.cells)):
 Calls prog 54 #[.agg (C8 c),.slice a ms.length k] V (DU V (fp c ms)):=by
 try unfold C8
 have HC:=af hc;have HA:=af hA;have HM:=af hm
 have tq:Hid (∀U,Ext V U-> ∀h n,0<=h/\h<c.hours->n<c.outs.length->_):=λU (hU:Ext V U) h n hh hn=>xJ U c h n (hc.ext hU) hl h0 hA hh hn;have hle:=hm.lens;clear hc hA hm hl h0;go_enter func54,ntmps54
 go_upto_region 1 with fail
 generalize hW:World.alloc V _=W;obtain ⟨G,hG,x0,A0⟩:=aI hW;rw [<-hG];have HX:=af x0;have dY:=af A0
 clear hW hG x0 A0;have vE:=af (HC.o.ext HX.o);have s:=Ext.refl W;go_wp2
 go_loopw [5] (λii wr=> ∃i:Nat,i<=ms.length/\ii= .int .i64 i/\sG c ms i/\Ext W wr) (λii _=>ms.length-(intOf ii).toNat)
 case atStart=>exact ⟨0,bm,rfl,λj _ h=>absurd h (Nat.not_lt_zero _),s⟩
 case round=>
  clear s;obtain ⟨i,hi,rfl,hB,s⟩:=hrel;have HB:=af hB;clear hB;by_cases hlt:i<ms.length
  .have b1:(i:Int)<(ms.length:Int):=ae
   have b0:(0:Int)<=(i:Int):=ae;obtain ⟨b,o,x,rfl,hx,K2⟩:=(HM.o.ext (HX.o.trans s)).pick i hlt;replace K2:=jo K2;obtain ⟨xh,xo,xu,xd⟩:=x;dsimp only at K2
   have s0:=Ext.refl wr;go_upto_region 5 with(refine aT rfl 58 _ _ rfl [i64 0,i64 0,.slice none 0 0,.slice none 0 0] (eF.mk xh xo xu xd).cells rfl rfl aw rfl rfl ?_)
   generalize hW2:World.alloc wr _=W2;obtain ⟨B,hB,x2,A2⟩:=aI hW2;rw [<-hB];simp only [Act.put];have tM:=af A2;have KB: ∀Y,Ext W2 Y->_:=λY e=>(A2.ext e).cs;replace KB:=jo KB;have mf:=af (s.trans x2);have K: ∀Y,Ext W2 Y->_:=λY e=>aq.at (dY.o.ext (mf.o.trans e));have st:=mf.o;have nV:Hid ((Cz c ⟨xh,xo,xu,xd⟩->False)->(fp c ms->False)):=λh q=>h (by have:=(q i hlt hlt).1;rw [<-hx.o]at this;exact this);clear hW2 hB A2 x2 s0 K2 s;have s:=Ext.refl W2;by_cases p1:0<=xh
   case neg=>
    have t1:decide (xh<0)=true:=by simp;omega
    go_wp2
    go_ret;refine ⟨false,rfl,?_,HX.o.trans st⟩;simp only [Bool.false_eq_true,false_iff];refine nV.o λq=> ?_;have:=q.jO.hour;dsimp only at this;omega
   have t1:decide (xh<0)=false:=by simp;omega
   by_cases p2:xh<c.hours
   case neg=>
    have t2:decide (c.hours<=xh)=true:=by simp;omega
    go_wp2
    go_ret;refine ⟨false,rfl,?_,HX.o.trans st⟩;simp only [Bool.false_eq_true,false_iff];refine nV.o λq=> ?_;have:=q.jO.hour;dsimp only at this;omega
   have t2:decide (c.hours<=xh)=false:=by simp;omega
   by_cases p3:0<=xo
   case neg=>
    have t3:decide (xo<0)=true:=by simp;omega
    go_wp2
    go_ret;refine ⟨false,rfl,?_,HX.o.trans st⟩;simp only [Bool.false_eq_true,false_iff];refine nV.o λq=> ?_;have:=q.jO.o;dsimp only at this;omega
   obtain ⟨n,rfl⟩: ∃n:Nat,xo=(n:Int):=⟨xo.toNat,ae⟩;by_cases p4:n<c.outs.length
   case neg=>
    have t4:decide ((c.outs.length:Int)<=(n:Int))=true:=by simp;omega
    go_wp2
    go_ret;refine ⟨false,rfl,?_,HX.o.trans st⟩;simp only [Bool.false_eq_true,false_iff];refine nV.o λq=> ?_;have:=q.jO.o;dsimp only at this;omega
   have t4:decide ((c.outs.length:Int)<=(n:Int))=false:=by simp;omega
   have pj:=vE.o.outs.lens;have k1:(n:Int)<(c.outs.length:Int):=ae;have k0:(0:Int)<=(n:Int):=ae;obtain ⟨b4,o4,y,ha,hy,K4⟩:=(vE.o.ext mf.o).outs.pick n p4;replace K4:=jo K4
   have HY:Hid (yA c n=y.bY/\(j5 c n).length=y.moves.length):=by
    show _/\_;rw [yX p4,vo p4,hy.o];exact ⟨rfl,rfl⟩
   have Yy:=tq.o W2 (HX.o.trans mf.o) xh n ⟨p1,p2⟩ p4;try unfold C8 at Yy
   rw [ha]at K Yy;have tq:=af Yy;clear hy ha Yy;have Tw:=af (And.intro (And.intro p1 p2) p4);cases Nw:y.bY with
   |false=>
    have H6:=af Nw;clear p1 p2 p3 p4;go_wp2
    go_ret;refine ⟨false,rfl,?_,HX.o.trans st⟩;simp only [Bool.false_eq_true,false_iff];refine nV.o λq=> ?_;have:yA c n=true:=q.O9;rw [HY.o.1,H6.o]at this;cases this
   |true=>
   have H6:=af Nw;clear p1 p2 p3 p4;go_wp2_with fail
   refine tq.o.mono ?_;rintro e w4 ⟨rfl,x4⟩;replace st:=st.trans x4;replace s:=s.trans x4;clear x4;cases hp:kM c xh n with
   |false=>
    have HP:=af hp;clear hp;go_wp2
    go_ret;refine ⟨false,rfl,?_,HX.o.trans st⟩;simp only [Bool.false_eq_true,false_iff];refine nV.o λq=> ?_;have:kM c xh n=true:=q.jO.jO;rw [HP.o]at this;cases this
   |true=>
   have HP:=af hp;clear hp;by_cases hu:(xu.l.length:Int)=(y.moves.length:Int)
   case neg=>
    have hq:((xu.l.length:Int) !=(y.moves.length:Int))=true:=by simpa using hu
    have Ms:=af hu;clear hu;go_wp2
    go_ret;refine ⟨false,rfl,?_,HX.o.trans st⟩;simp only [Bool.false_eq_true,false_iff];refine nV.o λq=> ?_;have:xu.l.length=(j5 c n).length:=q.up;rw [HY.o.2]at this;exact Ms.o (by rw [this])
   have hq:((xu.l.length:Int) !=(y.moves.length:Int))=false:=by simpa using hu
   by_cases hd:(xd.l.length:Int)=(y.moves.length:Int)
   case neg=>
    have BU:((xd.l.length:Int) !=(y.moves.length:Int))=true:=by simpa using hd
    have Ms:=af hd;clear hd hu;go_wp2
    go_ret;refine ⟨false,rfl,?_,HX.o.trans st⟩;simp only [Bool.false_eq_true,false_iff];refine nV.o λq=> ?_;have:xd.l.length=(j5 c n).length:=q.down;rw [HY.o.2]at this;exact Ms.o (by rw [this])
   have BU:((xd.l.length:Int) !=(y.moves.length:Int))=false:=by simpa using hd
   have Ms:=af (And.intro hu hd);clear hu hd;go_upto_region 10 with fail
   clear hq BU t1 t2 t4;have Vo:Hid (Cz c ⟨xh,(n:Int),xu,xd⟩):=⟨⟨Tw.o.1,by have:=Tw.o.2;show 0<=(n:Int)/\(n:Int)<(c.outs.length:Int);omega,HP.o⟩,HY.o.1.trans H6.o,by show xu.l.length=(j5 c n).length;rw [HY.o.2];have:=Ms.o.1;omega,by show xd.l.length=(j5 c n).length;rw [HY.o.2];have:=Ms.o.2;omega⟩;have HMI:=af hx.o;clear Nw HY H6;generalize Nq:w4=W4 at*;go_cut [114] (λv w=> ∃t:Bool,v= .bool t/\Hid (t=false↔(0<i->h_ ms[i-1].hour ms[i-1].br xh (n:Int)))/\Ext W2 w)
   case first=>
    clear K4 K k0 k1 pj;cases i with
    |zero=>
     refine wG (λw=>Ext W2 w) s.drew λs=> ?_;generalize W4.drew=Y at*;refine wV 0 s ?_;refine wV 1 s ?_;refine wV 2 s ?_;refine wN 3 s ?_;refine wN 4 s ?_;refine wN 5 s ?_;refine wN 6 s ?_;refine wN 7 s ?_;refine wN 8 s ?_;refine wN 9 s ?_;refine wN 10 s ?_;refine wN 11 s ?_;refine wN 12 s ?_;refine wN 13 s ?_;refine wN 14 s ?_;refine wN 15 s ?_;refine wN 16 s ?_;refine wN 17 s ?_;refine wN 18 s ?_;refine wN 19 s ?_;refine wN 20 s ?_;refine wN 21 s ?_;refine wN 22 s ?_;refine wN 23 s ?_;refine wN 24 s ?_;refine wN 25 s ?_;refine wN 26 s ?_;refine wN 27 s ?_;refine wN 28 s ?_;refine wN 29 s ?_;refine wN 30 s ?_;refine wN 31 s ?_;refine wN 32 s ?_;refine wN 33 s ?_;refine wV 34 s ?_;refine wD ?_;go_wp2
     go_meet
     exact ⟨false,rfl,by show _↔_;simp,s⟩
    |succ j=>
     have hj:j<ms.length:=ae;obtain ⟨b',o',y,e',hy,K3⟩:=(HM.o.ext (HX.o.trans mf.o)).pick j hj;cases e'
     replace K3:=jo K3;have w1:=Am j ae;have c1:(j:Int)<(ms.length:Int):=ae;have c0:(0:Int)<=(j:Int):=ae;have c2:(0:Int)<((j+1:Nat):Int):=ae
     have HT:Hid (h_ ms[j+1-1].hour ms[j+1-1].br xh (n:Int)↔y.hour<xh\/y.hour=xh/\y.br<(n:Int)):=by
      show _↔_;simp only [Nat.add_sub_cancel,<-hy.o,h_]
     obtain ⟨yh,yo,yu,yd⟩:=y;dsimp only at K3 HT
     clear hy;refine wG (λw=>Ext W2 w) s.drew λs=> ?_;generalize W4.drew=Y at*;refine wV 0 s ?_;refine wV 1 s ?_;refine wV 2 s ?_;refine wV 3 s ?_;refine wV 4 s ?_;refine wV 5 s ?_;refine wV 6 s ?_;refine wV 7 s ?_;refine wV 8 s ?_;refine wV 9 s ?_;refine wV 10 s ?_;by_cases q1:xh<yh
     .have t1:decide (xh<yh)=true:=by simpa using q1
      refine wV 11 s ?_;refine wV 12 s ?_;refine wN 13 s ?_;refine wN 14 s ?_;refine wN 15 s ?_;refine wN 16 s ?_;refine wN 17 s ?_;refine wN 18 s ?_;refine wN 19 s ?_;refine wN 20 s ?_;refine wN 21 s ?_;refine wN 22 s ?_;refine wN 23 s ?_;refine wN 24 s ?_;refine wN 25 s ?_;refine wN 26 s ?_;refine wN 27 s ?_;refine wN 28 s ?_;refine wN 29 s ?_;refine wN 30 s ?_;refine wN 31 s ?_;refine wN 32 s ?_;refine wV 33 s ?_;refine wV 34 s ?_;refine wD ?_;go_wp2
      go_meet
      exact ⟨true,rfl,CC HT.o (by simp;omega),s⟩
     .have t1:decide (xh<yh)=false:=by simpa using q1
      refine wV 11 s ?_;refine wV 12 s ?_;refine wV 13 s ?_;refine wV 14 s ?_;refine wV 15 s ?_;refine wV 16 s ?_;refine wV 17 s ?_;refine wV 18 s ?_;refine wV 19 s ?_;refine wV 20 s ?_;by_cases q2:yh=xh
      .have t2:(yh==xh)=true:=by simpa using q2
       refine wV 21 s ?_;refine wV 22 s ?_;refine wV 23 s ?_;refine wV 24 s ?_;refine wV 25 s ?_;refine wV 26 s ?_;refine wV 27 s ?_;refine wV 28 s ?_;refine wV 29 s ?_;refine wV 30 s ?_;refine wV 31 s ?_;refine wV 32 s ?_;refine wV 33 s ?_;refine wV 34 s ?_;refine wD ?_;go_wp2
       go_meet
       exact ⟨_,rfl,CC HT.o (by simp;omega),s⟩
      .have t2:(yh==xh)=false:=by simpa using q2
       refine wV 21 s ?_;refine wV 22 s ?_;refine wN 23 s ?_;refine wN 24 s ?_;refine wN 25 s ?_;refine wN 26 s ?_;refine wN 27 s ?_;refine wN 28 s ?_;refine wN 29 s ?_;refine wN 30 s ?_;refine wN 31 s ?_;refine wV 32 s ?_;refine wV 33 s ?_;refine wV 34 s ?_;refine wD ?_;go_wp2
       go_meet
       exact ⟨false,rfl,CC HT.o (by simp;omega),s⟩
   case rest=>
    obtain ⟨t,rfl,hT,s1⟩:=hcut;cases t with
    |true=>
     go_wp2
     go_ret;refine ⟨false,rfl,?_,HX.o.trans (mf.o.trans s1)⟩;simp only [Bool.false_eq_true,false_iff];intro q;have:=hT.o.2 (λh0=>by have:=(q i hlt hlt).2 h0;rw [<-hx.o]at this;exact this);cases this
    |false=>
     go_wp2
     exact ⟨⟨i+1,hlt,bq,HB.o.snoc hlt (by rw [<-hx.o];exact Vo.o) (λh0=>by rw [<-hx.o];exact hT.o.1 rfl h0),mf.o.trans s1⟩,bz⟩
  .obtain rfl:i=ms.length:=ae
   go_wp2
   go_ret;exact ⟨true,rfl,by simp only [true_iff];exact HB.o,HX.o.trans s⟩
theorem ox.snoc {c:aq} {ms:List oK} {i:Nat} (h:ox c ms i) (hi:i<ms.length) (h1:Gf c ms[i]) (h2:0<i->h_ ms[i-1].hour ms[i-1].br ms[i].hour ms[i].br):ox c ms (i+1):=λj hj qF=>by
 by_cases e:j<i
 .exact h j hj e
 .obtain rfl:j=i:=ae
  exact ⟨h1,h2⟩
theorem GH (V:World) (B:Nat) (c:aq) (a:Option Addr) (n k:Nat) (hB:aY V B 30 c.cells):
 Calls prog 95 #[.slice a n k,.pointer (some ⟨B,0,none⟩)] V λe w'=>e= .returned (.bool ((n:Int)==(c.ar.length:Int)))/\w'=V:=by
 have K:=aq.at hB;clear hB;go_enter func95,ntmps95
 go_wp2
 go_ret;exact ⟨rfl,rfl⟩
theorem GI (V:World) (c:aq) (a:Option Addr) (k:Nat) (ms:List oK) (F:Nat) (v0:Value) (hc:bK V c) (hA:Acc c) (hm:di V 3 a k (ms.map oK.cells))
 (hen: ∀args w,(callFunc F args).run prog w= .ok (.enter F args) w)
 (hF: ∀U,Ext V U-> ∀a n k,Calls prog F #[.slice a n k,v0] U λe w'=>e= .returned (.bool ((n:Int)==(c.ar.length:Int)))/\w'=U):
 Calls prog 96 #[.agg (C8 c),.slice a ms.length k,.func (.func F) #[] #[v0]] V (DU V (ox c ms ms.length)):=by
 try unfold C8
 have HC:=af hc;have HA:=af hA;have HM:=af hm;have si:=af hen;have HF:=af hF
 have hle:=hm.lens;clear hc hA hm hen hF;go_enter func96,ntmps96
 go_upto_region 1 with fail
 generalize hW:World.alloc V _=W;obtain ⟨G,hG,x0,A0⟩:=aI hW;rw [<-hG];have HX:=af x0;have dY:=af A0
 clear hW hG x0 A0;have vE:=af (HC.o.ext HX.o);have s:=Ext.refl W;go_wp2
 go_loopw [13] (λii wr=> ∃i:Nat,i<=ms.length/\ii= .int .i64 i/\ox c ms i/\Ext W wr) (λii _=>ms.length-(intOf ii).toNat)
 case atStart=>exact ⟨0,bm,rfl,λj _ h=>absurd h (Nat.not_lt_zero _),s⟩
 case round=>
  clear s;obtain ⟨i,hi,rfl,hB,s⟩:=hrel;have HB:=af hB;clear hB;by_cases hlt:i<ms.length
  .have b1:(i:Int)<(ms.length:Int):=ae
   have b0:(0:Int)<=(i:Int):=ae;obtain ⟨b,o,x,rfl,hx,K2⟩:=(HM.o.ext (HX.o.trans s)).pick i hlt;replace K2:=jo K2;obtain ⟨xh,xo,xb⟩:=x;dsimp only at K2
   have s0:=Ext.refl wr;go_upto_region 4 with(refine aT rfl 55 _ _ rfl [i64 0,i64 0,.slice none 0 0] (oK.mk xh xo xb).cells rfl rfl aw rfl rfl ?_)
   generalize hW2:World.alloc wr _=W2;obtain ⟨B,hB,x2,A2⟩:=aI hW2;rw [<-hB];simp only [Act.put];have KB: ∀Y,Ext W2 Y->_:=λY e=>(A2.ext e).cs;replace KB:=jo KB;have mf:=af (s.trans x2);have K: ∀Y,Ext W2 Y->_:=λY e=>aq.at (dY.o.ext (mf.o.trans e));have nV:Hid ((Gf c ⟨xh,xo,xb⟩->False)->(ox c ms ms.length->False)):=λh q=>h (by have:=(q i hlt hlt).1;rw [<-hx.o]at this;exact this);clear hW2 hB A2 x2 s0 K2 s;have s:=Ext.refl W2;have SP:Hid (B<W2.heap.size):=(KB W2 s).1|>eH
   refine wG (λw=>Ext W2 w) s.drew λs=> ?_;generalize W2.drew=Y at*;refine wV 0 s ?_;refine wV 1 s ?_;refine wV 2 s ?_;refine wV 3 s ?_;refine wV 4 s ?_;refine wV 5 s ?_;refine wV 6 s ?_;refine wV 7 s ?_;refine wD ?_;have st:=mf.o.trans s;by_cases p1:0<=xh
   case neg=>
    have t1:decide (xh<0)=true:=by simp;omega
    go_wp2
    go_ret;refine ⟨false,rfl,?_,HX.o.trans st⟩;simp only [Bool.false_eq_true,false_iff];refine nV.o λq=> ?_;have:=q.jO.hour;dsimp only at this;omega
   have t1:decide (xh<0)=false:=by simp;omega
   by_cases p2:xh<c.hours
   case neg=>
    have t2:decide (c.hours<=xh)=true:=by simp;omega
    go_wp2
    go_ret;refine ⟨false,rfl,?_,HX.o.trans st⟩;simp only [Bool.false_eq_true,false_iff];refine nV.o λq=> ?_;have:=q.jO.hour;dsimp only at this;omega
   have t2:decide (c.hours<=xh)=false:=by simp;omega
   by_cases p3:0<=xo
   case neg=>
    have t3:decide (xo<0)=true:=by simp;omega
    go_wp2
    go_ret;refine ⟨false,rfl,?_,HX.o.trans st⟩;simp only [Bool.false_eq_true,false_iff];refine nV.o λq=> ?_;have:=q.jO.o;dsimp only at this;omega
   obtain ⟨n,rfl⟩: ∃n:Nat,xo=(n:Int):=⟨xo.toNat,ae⟩;by_cases p4:n<c.outs.length
   case neg=>
    have t4:decide ((c.outs.length:Int)<=(n:Int))=true:=by simp;omega
    go_wp2
    go_ret;refine ⟨false,rfl,?_,HX.o.trans st⟩;simp only [Bool.false_eq_true,false_iff];refine nV.o λq=> ?_;have:=q.jO.o;dsimp only at this;omega
   have t4:decide ((c.outs.length:Int)<=(n:Int))=false:=by simp;omega
   have pj:=vE.o.outs.lens;have k1:(n:Int)<(c.outs.length:Int):=ae;have k0:(0:Int)<=(n:Int):=ae;obtain ⟨b4,o4,y,ha,hy,K4⟩:=(vE.o.ext mf.o).outs.pick n p4;replace K4:=jo K4
   have HY:Hid (yA c n=y.bY):=by
    show _=_;rw [yX p4,hy.o]
   have tq:Hid (∀U,Ext W2 U->_):=λU (hU:Ext W2 U)=>Ju U c xh n (HC.o.ext (HX.o.trans (mf.o.trans hU))) HA.o p4;try unfold C8 at tq
   rw [ha]at K tq;clear hy ha;have Tw:=af (And.intro (And.intro p1 p2) p4);cases Nw:y.bY with
   |false=>
    have H6:=af Nw;clear p1 p2 p3 p4;go_wp2
    go_ret;refine ⟨false,rfl,?_,HX.o.trans st⟩;simp only [Bool.false_eq_true,false_iff];refine nV.o λq=> ?_;have:yA c n=true:=q.O9;rw [HY.o,H6.o]at this;cases this
   |true=>
   have H6:=af Nw;clear p1 p2 p3 p4;have Qu:=af (HF.o Y (HX.o.trans st) xb.a xb.l.length xb.c);have hen:=si.o;by_cases pb:(xb.l.length:Int)=(c.ar.length:Int)
   case neg=>
    have t5:((xb.l.length:Int)==(c.ar.length:Int))=false:=by simpa using pb
    have Jv:=af pb;clear pb;go_wp2_with fail
    refine Qu.o.mono ?_;rintro e w5 ⟨rfl,rfl⟩;go_wp2
    go_ret;refine ⟨false,rfl,?_,HX.o.trans st⟩;simp only [Bool.false_eq_true,false_iff];refine nV.o λq=> ?_;have:xb.l.length=c.ar.length:=q.fc;exact Jv.o (by rw [this])
   have t5:((xb.l.length:Int)==(c.ar.length:Int))=true:=by simpa using pb
   have Jv:=af pb;clear pb;go_wp2_with fail
   refine Qu.o.mono ?_;rintro e w5 ⟨rfl,rfl⟩;go_upto_region 7 with fail
   go_cut [93] (λv w=> ∃t:Bool,v= .bool t/\Hid (t=false↔(0<i->h_ ms[i-1].hour ms[i-1].br xh (n:Int)))/\w=w5)
   case first=>
    clear K4 K k0 k1 pj;cases i with
    |zero=>
     go_wp2
     go_meet
     exact ⟨false,rfl,by show _↔_;simp,rfl⟩
    |succ j=>
     have hj:j<ms.length:=ae;obtain ⟨b',o',y,e',hy,K3⟩:=(HM.o.ext (HX.o.trans mf.o)).pick j hj;cases e'
     replace K3:=jo K3;have w1:=Am j ae;have c1:(j:Int)<(ms.length:Int):=ae;have c0:(0:Int)<=(j:Int):=ae;have c2:(0:Int)<((j+1:Nat):Int):=ae
     have HT:Hid (h_ ms[j+1-1].hour ms[j+1-1].br xh (n:Int)↔y.hour<xh\/y.hour=xh/\y.br<(n:Int)):=by
      show _↔_;simp only [Nat.add_sub_cancel,<-hy.o,h_]
     obtain ⟨yh,yo,yb⟩:=y;dsimp only at K3 HT
     clear hy;by_cases q1:xh<yh
     .have t6:decide (xh<yh)=true:=by simpa using q1
      go_wp2
      go_meet
      exact ⟨true,rfl,CC HT.o (by simp;omega),rfl⟩
     .have t6:decide (xh<yh)=false:=by simpa using q1
      by_cases q2:xh=yh
      .have t7:(xh==yh)=true:=by simpa using q2
       have HQ:=af (And.intro q1 q2);clear q1 q2;go_wp2
       go_meet
       exact ⟨_,rfl,CC HT.o (by have:=HQ.o;simp;omega),rfl⟩
      .have t7:(xh==yh)=false:=by simpa using q2
       have HQ:=af (And.intro q1 q2);clear q1 q2;go_wp2
       go_meet
       exact ⟨false,rfl,CC HT.o (by have:=HQ.o;simp;omega),rfl⟩
   case rest=>
    obtain ⟨t,rfl,hT,rfl⟩:=hcut;cases t with
    |true=>
     go_wp2
     go_ret;refine ⟨false,rfl,?_,HX.o.trans st⟩;simp only [Bool.false_eq_true,false_iff];intro q;have:=hT.o.2 (λh0=>by have:=(q i hlt hlt).2 h0;rw [<-hx.o]at this;exact this);cases this
    |false=>
    have HU:=af (hT.o.1 rfl);clear hT;go_wp2_with fail
    refine (tq.o _ s).mono ?_;rintro e w6 ⟨rfl,x6⟩;replace st:=st.trans x6;replace s:=s.trans x6;clear x6;cases hp:kM c xh n with
    |false=>
     have HP:=af hp;clear hp;go_wp2
     go_ret;refine ⟨false,rfl,?_,HX.o.trans st⟩;simp only [Bool.false_eq_true,false_iff];refine nV.o λq=> ?_;have:kM c xh n=true:=q.jO.jO;rw [HP.o]at this;cases this
    |true=>
     have HP:=af hp;clear hp;go_wp2_with fail
     have Vo:Hid (Gf c ⟨xh,(n:Int),xb⟩):=⟨⟨Tw.o.1,by have:=Tw.o.2;show 0<=(n:Int)/\(n:Int)<(c.outs.length:Int);omega,HP.o⟩,HY.o.trans H6.o,by have:=Jv.o;show xb.l.length=c.ar.length;omega⟩;exact ⟨⟨i+1,hlt,bq,HB.o.snoc hlt (by rw [<-hx.o];exact Vo.o) (λh0=>by rw [<-hx.o];exact HU.o h0),st⟩,bz⟩
  .obtain rfl:i=ms.length:=ae
   go_wp2
   go_ret;exact ⟨true,rfl,by simp only [true_iff];exact HB.o,HX.o.trans s⟩
theorem RT (V:World) (c:aq) (p:aU) (L:Nat) (hc:bK V c) (hA:Acc c) (hp:fS V p L):
 Calls prog 40 #[.agg (C8 c),.agg p.cells.toArray] V (DU V (mQ c p)):=by
 try unfold C8
 have HC:=af hc;have HA:=af hA;have HP:=af hp
 have hle:=hp.b_.le;have nE:=hp.bC.le
 have si:=af (show∀args w,(callFunc 95 args).run prog w= .ok (.enter 95 args) w from enters_of func95 aw rfl);clear hc hA hp;obtain ⟨⟨ea,ec,el⟩,rv,ma,mc,ms⟩:=p;unfold aU.cells;dsimp only at*
 go_enter func40,ntmps40
 go_upto_region 1 with fail
 generalize hW1:World.alloc V _=W1;generalize hW:World.alloc W1 _=W;obtain ⟨G,R,hG,hR,HX,dY,gH,nW⟩:=jD hW1 hW;rw [<-hG];try rw [hR]
 clear hW hW1 hG hR;have K: ∀Y,Ext W Y->_:=λY e=>aq.at (dY.o.ext e);have K1: ∀Y,Ext W Y->_:=λY e=>(gH.o.ext e).cs;replace K1:=jo K1;have st:=Ext.refl W;by_cases q1:(el.length:Int)=c.hours
 case neg=>
  have h1:((el.length:Int) !=c.hours)=true:=by simpa using q1
  go_wp2
  go_ret;exact ⟨false,rfl,by simp only [Bool.false_eq_true,false_iff];intro q;exact q1 (gZ.1 q.b_).1,HX.o.trans st⟩
 have h1:((el.length:Int) !=c.hours)=false:=by simpa using q1
 by_cases q2:(rv.l.length:Int)=c.hours
 case neg=>
  have h2:((rv.l.length:Int) !=c.hours)=true:=by simpa using q2
  have vD:=af q1;clear q1;go_wp2
  go_ret;exact ⟨false,rfl,by simp only [Bool.false_eq_true,false_iff];intro q;exact q2 q.bC,HX.o.trans st⟩
 have h2:((rv.l.length:Int) !=c.hours)=false:=by simpa using q2
 have HQ:=af (And.intro q1 q2);clear q1 q2;go_wp2_with fail
 clear h1 h2;go_loopw [26] (λii wr=> ∃i:Nat,i<=el.length/\ii= .int .i64 i/\(∀j (hj:j<el.length),j<i->(el[j].l.length:Int)=(c.ar.length:Int))/\Ext W wr) (λii _=>el.length-(intOf ii).toNat)
 case atStart=>exact ⟨0,bm,rfl,λj _ h=>absurd h (Nat.not_lt_zero _),st⟩
 case round=>
  clear st;obtain ⟨i,hi,rfl,hB,st⟩:=hrel;have HB:=af hB;clear hB;by_cases hlt:i<el.length
  .have b1:(i:Int)<(el.length:Int):=ae
   have b0:(0:Int)<=(i:Int):=ae;obtain ⟨b,o,y,ha,hy,-,-,K2⟩:=(HP.o.ext (HX.o.trans st)).b_.at i hlt;dsimp only at ha hy
   subst ha;have HY:Hid ((y.l.length:Int)=(el[i].l.length:Int)):=by rw [hy.o];exact rfl
   have Qu:=af (GH wr G c y.a y.l.length y.c (dY.o.ext st));have hen:=si.o;have s:=Ext.refl wr;clear K K1;by_cases pb:(y.l.length:Int)=(c.ar.length:Int)
   .have t5:((y.l.length:Int)==(c.ar.length:Int))=true:=by simpa using pb
    have Jv:=af pb;clear pb;go_wp2_with fail
    refine Qu.o.mono ?_;rintro e w5 ⟨rfl,rfl⟩;go_wp2
    exact ⟨⟨i+1,hlt,bq,λj hj qF=>by
     by_cases e:j<i
     .exact HB.o j hj e
     .obtain rfl:j=i:=ae
      rw [<-HY.o];exact Jv.o,st⟩,bz⟩
   .have t5:((y.l.length:Int)==(c.ar.length:Int))=false:=by simpa using pb
    have Jv:=af pb;clear pb;go_wp2_with fail
    refine Qu.o.mono ?_;rintro e w5 ⟨rfl,rfl⟩;go_wp2
    go_ret;exact ⟨false,rfl,by simp only [Bool.false_eq_true,false_iff];intro q;exact Jv.o (by rw [HY.o];exact (gZ.1 q.b_).2 _ (List.getElem_mem hlt)),HX.o.trans st⟩
  .obtain rfl:i=el.length:=ae
   have HMF:=af (GI wr c ma mc ms 95 (.pointer (some ⟨G,0,none⟩)) (HC.o.ext (HX.o.trans st)) HA.o (HP.o.ext (HX.o.trans st)).moves si.o (λU hU a n k=>GH U G c a n k (dY.o.ext (st.trans hU))));have s:=st;go_wp2_with fail
   refine HMF.o.mono ?_;rintro e w6 ⟨t,rfl,ht,x6⟩;have HT:=af ht;replace st:=st.trans x6;clear x6 ht;go_wp2
   go_ret
   exact ⟨t,rfl,HT.o.trans ⟨λq=>⟨gZ.2 ⟨HQ.o.1,λy hy=>by
    obtain ⟨j,hj,rfl⟩:=List.mem_iff_getElem.1 hy;exact HB.o j hj hj⟩,HQ.o.2,q⟩,λq=>q.moves⟩,HX.o.trans st⟩
theorem Pw {f:Nat->Rat} {n i:Nat} (hi:i<n) (h: ∀j,j<n->j≠i->f j=0):eL f n=f i:=by
 induction n with
 |zero=>exact absurd hi (Nat.not_lt_zero _)
 |succ n ih=>
  by_cases e:i=n
  .subst e
   rw [eL,pZ (g:=λ_=>0) λj hj=>h j ae ae,CE,Rat.zero_add]
  .rw [eL,ih ae λj hj=>h j ae,h n ae (Ne.symm e),Rat.add_zero]
theorem MM {f:Nat->Rat} {n:Nat} (h: ∀j,j<n->f j=0):eL f n=0:=(pZ (g:=λ_=>0) h).trans CE
def Ej (c:aq) (o:Nat) (u:Int):Int:=rG (λi=>decide (((j5 c o)[i]?.map cH.unit)=some u)) (j5 c o).length
def AB (c:aq) (u:Nat) (m:oK) (x:eF):Rat:=if 0<=Ej c m.br.toNat u then m.fc.q (fG c u)*Qs x (Ej c m.br.toNat u).toNat else 0
def GJ (c:aq) (u:Nat) (h:Int) (m:oK) (ms:List eF) (k:Nat):Rat:=if m.hour=h/\(ms[k]?.map eF.hour=some h/\ms[k]?.map eF.br=some m.br)then(ms[k]?.map (AB c u m)).getD 0 else 0
def qc (c:aq) (u:Nat) (h:Int) (m:oK) (ms:List eF) (n:Nat):Rat:=eL (GJ c u h m ms) n
def mL (c:aq) (u:Nat) (h:Int) (ps:List oK) (ms:List eF) (n:Nat):Rat:=eL (λi=>(ps[i]?.map λm=>qc c u h m ms ms.length).getD 0) n
theorem GK {c:aq} {u:Nat} {h:Int} {m:oK} {ms:List eF} {k:Nat} (hk:k<ms.length) (e0:m.hour=h) (e1:ms[k].hour=h) (e2:ms[k].br=m.br):GJ c u h m ms k=AB c u m ms[k]:=by
 unfold GJ;simp [List.getElem?_eq_getElem hk,e0,e1,e2]
theorem Ek {c:aq} {u:Nat} {h:Int} {m:oK} {ms:List eF} {k:Nat} (hk:k<ms.length) (e: ¬(m.hour=h/\ms[k].hour=h/\ms[k].br=m.br)):GJ c u h m ms k=0:=by
 unfold GJ;simp only [List.getElem?_eq_getElem hk,Option.map_some,Option.some.injEq];exact if_neg e
theorem GL {c:aq} {u:Nat} {h:Int} {m:oK} {ms:List eF} (hm:fp c ms) {i:Nat} (hi:i<ms.length) (e0:m.hour=h) (e1:ms[i].hour=h) (e2:ms[i].br=m.br):qc c u h m ms ms.length=AB c u m ms[i]:=by
 unfold qc;rw [Pw hi λj hj hne=>Ek hj λq=>hne (hm.one hj hi q.2 ⟨e1,e2⟩),GK hi e0 e1 e2]
theorem wM {c:aq} {u:Nat} {h:Int} {m:oK} {ms:List eF} (e: ∀j (hj:j<ms.length),¬(m.hour=h/\ms[j].hour=h/\ms[j].br=m.br)):qc c u h m ms ms.length=0:=
 MM λj hj=>Ek hj (e j hj)
theorem GM {c:aq} {u:Nat} {h:Int} {m:oK} {ms:List eF} (e: ¬m.hour=h):qc c u h m ms ms.length=0:=wM λ_ _ q=>e q.1
theorem MN (c:aq) (u:Nat) (h:Int) (m:oK) (ms:List eF) (k:Nat):qc c u h m ms (k+1)=qc c u h m ms k+GJ c u h m ms k:=rfl
theorem wO {c:aq} {u:Nat} {h:Int} {ps:List oK} {ms:List eF} {i:Nat} (hi:i<ps.length):mL c u h ps ms (i+1)=mL c u h ps ms i+qc c u h ps[i] ms ms.length:=by
 unfold mL;rw [eL];simp [List.getElem?_eq_getElem hi]
theorem GN {c:aq} {u:Nat} {m:oK} {x:eF} (h:Ej c m.br.toNat u<0):AB c u m x=0:=if_neg ae
theorem GP {c:aq} {u:Nat} {m:oK} {x:eF} {k:Nat} (h:Ej c m.br.toNat u=k):AB c u m x=m.fc.q (fG c u)*Qs x k:=by
 unfold AB;rw [if_pos ae,h];rfl
def jG (c:aq) (s:aQ) (h b:Nat):Rat:=(kO c b h:Rat)-s.er.q b h
def qA (c:aq) (s:aQ) (p:aU) (h:Nat):Rat:=(p.bC.q h*eL (λi=>uw s i h) c.ay.length)/eL (jG c s h) c.ar.length
def K0 (c:aq) (s:aQ) (p:aU) (h i:Nat):Rat:=(p.b_.q h (fG c i)*Aw s i h+p.bC.q h*uw s i h)+mL c i h p.moves s.moves p.moves.length
def Px (c:aq) (s:aQ) (p:aU) (h i:Nat):Rat:=p.b_.q h (ki c i)*Ny s i h
def Qv (c:aq) (s:aQ) (p:aU) (h i:Nat):Rat:=p.b_.q h (kL c i)*s.imp.q i h
def EL (c:aq) (s:aQ) (p:aU) (h b:Nat):Rat:= -((p.b_.q h b+qA c s p h)*jG c s h b)
def nJ (f:Nat->Rat) (n:Nat):List Rat:=(List.range n).map f
theorem cP (f:Nat->Rat) (n:Nat):(nJ f n).length=n:=by simp [nJ]
theorem sV (f:Nat->Rat) (n:Nat):nJ f (n+1)=nJ f n++ [f n]:=by simp [nJ,List.range_succ]
theorem sZ (f:Nat->Rat):nJ f 0= []:=rfl
def xM (c:aq) (s:aQ) (p:aU) (h n k m b:Nat):List Rat:=nJ (K0 c s p h) n++nJ (Px c s p h) k++nJ (Qv c s p h) m++nJ (EL c s p h) b
theorem nK (c:aq) (s:aQ) (p:aU) (h n k m b:Nat):(xM c s p h n k m b).length=n+k+m+b:=by simp [xM,cP];omega
theorem YK (c:aq) (s:aQ) (p:aU) (h n:Nat):xM c s p h (n+1) 0 0 0=xM c s p h n 0 0 0++ [K0 c s p h n]:=by simp [xM,sV,sZ]
theorem YL (c:aq) (s:aQ) (p:aU) (h n k:Nat):xM c s p h n (k+1) 0 0=xM c s p h n k 0 0++ [Px c s p h k]:=by simp [xM,sV,sZ]
theorem YM (c:aq) (s:aQ) (p:aU) (h n k m:Nat):xM c s p h n k (m+1) 0=xM c s p h n k m 0++ [Qv c s p h m]:=by simp [xM,sV,sZ]
def lD (c:aq) (s:aQ) (p:aU) (h:Nat):List Rat:=xM c s p h c.ay.length c.stores.length c.bF.length c.ar.length
def mN (c:aq) (s:aQ) (p:aU) (h:Nat):List Rat:=lD c s p h++ [-(bO (lD c s p h))]
