/- Texts of the proof. -/
import Derived.Test.YtfokdakioeoniaaGreatCj33
set_option linter.all false
set_option maxHeartbeats 4000000
set_option maxRecDepth 100000
namespace Go.Proofs.YtfokdakioeoniaaGreat
open Go.Proofs.Tryz
open Go.RowKit
def kO (c:aq) (b h:Nat):Int:=kE ((c.ar[b]?.map iQ.eE).getD []) h
theorem DZ {c:aq} {b:Nat} (hb:b<c.ar.length) (h:Nat):kO c b h=kE c.ar[b].eE h:=by unfold kO;rw [List.getElem?_eq_getElem hb];rfl
def acE (V:World) (q:Rat) (L:Nat) (e:Ending) (w':World):Prop:= ∃r:bE,e= .returned (.agg #[.bool r.s,.slice r.a r.k r.c,.slice r.b r.j r.d])/\fE w' r q L/\(∀K,K<V.heap.size->xi r (some K))/\Ext V w'
theorem fw {w W1 W W3:World} {T0 T1 T2:TypeId} {c0 c1 c2:List Value} (h1:w.alloc (.cells c0.toArray T0)=W1) (h2:W1.alloc (.cells c1.toArray T1)=W) (h3:W.alloc (.cells c2.toArray T2)=W3): ∃G R B,G=w.heap.size/\G+1=R/\R+1=B/\Hid (Ext w W3)/\Hid (aY W3 G T0 c0)/\Hid (aY W3 R T1 c1)/\Hid (aY W3 B T2 c2)/\Hid (w.heap.size<=G/\w.heap.size<=R/\w.heap.size<=B):=by
 obtain ⟨G,R,hG,hR,x,A0,A1,hw⟩:=jD h1 h2;obtain ⟨B,hB,x3,A3⟩:=aI h3;have h:R+1=B:=by rw [hB,<-h2];simp;rw [<-hR,hG,<-h1];simp
 have:=hw.o;exact ⟨G,R,B,hG,hR,h,x.o.trans x3,A0.o.ext x3,A1.o.ext x3,A3,(show _/\_/\_ by omega)⟩
theorem Aq (V:World) (c:aq) (s:aQ) (b h:Nat) (hc:bK V c) (hA:Acc c) (hs:eM V s 4) (hb:b<c.ar.length) (hh:(h:Int)<c.hours) (ht:cE s.er c.ar.length c.hours=true):
 Calls prog 74 #[.agg (C8 c),.agg s.cells.toArray,.int .i64 (b:Int),.int .i64 (h:Int)] V (acE V ((kO c b h:Rat)-s.er.q b h) 6):=by
 try unfold C8
 have HC:=af hc;have HS:=af hs
 obtain ⟨wZ,zD,-⟩:=hA.ok.fc _ (List.getElem_mem hb);have Tr:b<s.er.l.length:=dB ((gZ.1 ht).1);have hrow:=(gZ.1 ht).2;have HT:=af hrow;have HD:=af (And.intro wZ zD);have HH:=af hh
 clear hc hA hs ht hrow wZ zD;unfold aQ.cells;go_enter func74,ntmps74
 go_upto_region 1 with fail
 generalize hW1:World.alloc V _=W1;generalize hW2:World.alloc W1 _=W2;generalize hW:World.alloc W2 _=W;obtain ⟨G,R,B,hG,hR,hB,HX,dY,gH,tM,nW⟩:=fw hW1 hW2 hW;rw [<-hG];try rw [hR]
 try rw [hB]
 clear hW hW1 hW2 hG hR hB;have K: ∀Y,Ext W Y->_:=λY e=>aq.at (dY.o.ext e);have K1: ∀Y,Ext W Y->_:=λY e=>(gH.o.ext e).cs;replace K1:=jo K1;obtain ⟨b2,o2,x,ha,hx,K2⟩:=(HC.o.ext HX.o).ar.pick b hb;replace K2:=jo K2
 have CF:Hid ((x.eE.length:Int)=c.hours/\cJ 0 1048576 x.eE=true/\bV W x.da x.dc x.eE/\kO c b h=kE x.eE h):=by
  show _/\_/\_/\_;rw [DZ hb,hx.o];exact ⟨HD.o.1,HD.o.2,((HC.o.ext HX.o).fc _ (List.getElem_mem hb)).2.1,rfl⟩
 have D_:h<x.eE.length:=ux CF.o.1 HH.o;obtain ⟨b3,o3,z,hda,hz,Pd,K3⟩:=pg CF.o.2.2.1 h D_;obtain ⟨b4,o4,y,hya,hy,HY,hyq,K4⟩:=((HS.o.ext HX.o).kT s.er aX).at b Tr;have hhy:h<y.l.length:=by have:=HT.o s.er.l[b] (List.getElem_mem Tr);rw [<-hy.o]at this;have:=HH.o;omega
 obtain ⟨b5,o5,r,hra,HR,K5⟩:=HY.o.at h hhy;have hle:=(HC.o).ar.lens;have nE:=CF.o.2.2.1.le;have Pe:=CF.o.2.2.1.cap;have pj:=((HS.o.ext HX.o).kT s.er aX).le;have Ar:=HY.o.le
 have HZ:Hid (z=kO c b h/\0<=z/\z<=1048576):=by
  have h1:=yT CF.o.2.1 h D_;rw [gh D_,<-hz.o]at h1;exact ⟨by rw [CF.o.2.2.2,gh D_,hz.o],h1⟩
 have HSQ:Hid (s.er.q b h=y.q h):=hyq.o h;have k1:(b:Int)<(c.ar.length:Int):=Int.ofNat_lt.2 hb;have k2:(b:Int)<(s.er.l.length:Int):=Int.ofNat_lt.2 Tr;have k3:(h:Int)<(x.eE.length:Int):=Int.ofNat_lt.2 D_;have k4:(h:Int)<(y.l.length:Int):=Int.ofNat_lt.2 hhy;have k5:(0:Int)<=(b:Int):=Int.natCast_nonneg b;have k6:(0:Int)<=(h:Int):=Int.natCast_nonneg h;have K9: ∀Y,Ext W Y->_:=λY e=>(tM.o.ext e).cs;replace K9:=jo K9;clear hx hz hy hyq Pd;have HXW:=af (HX.o.size);refine zG 19 (λw=>Ext W w) ((Ext.refl W).drew) λs=> ?_;generalize W.drew=Y at*;refine zV 0 s ?_;refine zV 1 s ?_;refine zV 2 s ?_;refine zV 3 s ?_;refine zV 4 s ?_;refine zV 5 s ?_;refine zV 6 s ?_;refine zV 7 s ?_;refine zV 8 s ?_;refine zV 10 s ?_;refine zV 11 s ?_;refine zV 12 s ?_;refine zV 13 s ?_;refine zV 14 s ?_;refine zV 15 s ?_;refine zV 16 s ?_;refine zV 17 s ?_;refine zR 9 λK' hK=> ?_;rw [if_pos bQ];go_simp;refine (Yq Y z (dB HZ.o) (dB HZ.o)).mono ?_;rintro e w3 ⟨r1,rfl,XK,hc1,x3⟩;have J5:=af XK;clear XK hc1;refine hK.o _ _ (s.trans x3) λs=> ?_;clear hK K';refine zR 18 λK' hK=> ?_;rw [if_pos bQ];go_simp;refine (Kt _ _ _ _ _ 1 4 J5.o (HR.o.ext s)).mono ?_;rintro e w4 ⟨r4,rfl,hN4,bJ,x4⟩;have Mi:=af (And.intro hN4 bJ);have HBW:Hid (B<w3.heap.size):=by have:=(tM.o.ext s).lt;exact this
 have HBS:Hid (W.heap.size<=w3.heap.size/\V.heap.size<=W.heap.size):=⟨s.size,HX.o.size⟩;refine hK.o _ _ (s.trans x4) λs=> ?_;have Yr:=tM.o.ext s;have f3:=λi=>Yr.frozen i;clear hK K' x4 hN4 bJ;refine zL 19 λK' hK=> ?_;rw [if_pos bQ];go_simp;refine hK.o _ _ ?_;have Hq:=((Yr.set 0 (.bool r4.s)).set 1 (.slice r4.a r4.k r4.c)).set 2 (.slice r4.b r4.j r4.d);have s4:=(aH.refl B w4).nT (o:=0) (v:= .bool r4.s)|>.nT (o:=1) (v:= .slice r4.a r4.k r4.c)|>.nT (o:=2) (v:= .slice r4.b r4.j r4.d)
 clear hK K';go_wp2_with fail
 refine bodyPost_ret (v:= .agg #[.bool r4.s,.slice r4.a r4.k r4.c,.slice r4.b r4.j r4.d]) (ib 8 _ rfl rfl Hq underlying63 rfl aw) rfl ?_;have hX:=s4.ext (HX.o.trans s) nW.o.2.2;have hs3:V.heap.size<=w3.heap.size:=dB HBS.o;refine ⟨r4,rfl,?_,λK hK=>om Mi.o.2 (Nat.lt_of_lt_of_le hK hs3),hX⟩;have h1:=Mi.o.1.but s4 (om Mi.o.2 HBW.o);rw [<-HZ.o.1,HSQ.o];exact h1
theorem Jj (V:World) (c:aq) (h:Int) (hc:bK V c) (hl:kU c) (h0:cC c=0) (hh:0<=h/\h<c.hours):
 Calls prog 267 #[.agg (C8 c),.int .i64 h] V λe w'=> ∃a cap,e= .returned (.slice a (cK c h c.lines.length).length cap)/\bV w' a cap (cU (cK c h c.lines.length))/\Ext V w':=by
 try unfold C8
 have p7:=af (λU (x:Ext V U)=>sI U c (hc.ext x) hl);have HIS:=af (λU (x:Ext V U)=>tL V U c h x hc hl.lines);rw [h0]at p7;have h1:=hh.1;have h2:=hh.2
 clear hc hl h0;go_enter func267,ntmps267
 go_upto_region 1 with fail
 generalize hW:World.alloc V _=W;obtain ⟨B,hB,x,A⟩:=aI hW;rw [<-hB];have HX:=af x;have K: ∀Y,Ext W Y->_:=λY e=>aq.at (A.ext e);have s:=Ext.refl W;clear hW hB x A;go_wp2_with fail
 refine (p7.o W HX.o).mono ?_;rintro e w1 ⟨ek,ei,ef,rfl,xx⟩;clear p7;replace s:=s.trans xx;clear xx;go_upto_region 2 with fail
 generalize hW2:World.alloc w1 _=W2;obtain ⟨B2,-,x2,-⟩:=aI hW2;replace s:=s.trans x2;clear hW2 x2;go_wp2_with fail
 refine (HIS.o W2 (HX.o.trans s)).mono ?_;rintro e w3 ⟨a,cap,rfl,hI,x3,-⟩;have HI:=af hI;replace s:=s.trans x3;clear x3 hI;go_wp2
 go_ret;exact ⟨a,cap,rfl,HI.o,HX.o.trans s⟩
def j6 (c:aq) (h:Int) (n:Nat) (l:List Nat):List Nat:=l.filter λi=>hasB (Mp c n) i
theorem Gq {c:aq} {h:Int} {n:Nat} (hA:Acc c) (hn:n<c.outs.length):decide (0<(j6 c h n (cK c h c.lines.length)).length)=kM c h n:=by
 have key:j6 c h n (cK c h c.lines.length)≠ []↔kM c h n=true:=by
  rw [sJ hn,<-List.length_pos_iff];constructor
  .intro q
   obtain ⟨i,hi⟩:=List.exists_mem_of_length_pos q;unfold j6 at hi;obtain ⟨h1,h2⟩:=List.mem_filter.1 hi;obtain ⟨h3,h4⟩:=List.mem_filter.1 h1;rw [yU hn]at h2;obtain ⟨j,hj,e⟩:=(q9 _ _).1 h2;rw [gh hj]at e;exact ⟨j,hj,by rw [e,Int.toNat_natCast];simpa using h4⟩
  .rintro ⟨j,hj,e⟩
   obtain ⟨k,hk,hkl⟩:=hA.line hn (List.getElem_mem hj);rw [hk,Int.toNat_natCast]at e;have:k∈j6 c h n (cK c h c.lines.length):=List.mem_filter.2 ⟨List.mem_filter.2 ⟨List.mem_range.2 hkl,by simpa using e⟩,by rw [yU hn];exact (q9 _ _).2 ⟨j,hj,by rw [gh hj,hk]⟩⟩;exact List.length_pos_of_mem this
 by_cases q:j6 c h n (cK c h c.lines.length)= []
 .have h1:kM c h n=false:=by rw [Bool.eq_false_iff];exact λe=>key.2 e q
  rw [h1,q];rfl
 .rw [key.1 q];have:=List.length_pos_iff.2 q;simpa using this
theorem Jk (c:aq) (h:Int) (n:Nat) (l:List Nat) (i:Nat):j6 c h n (l++ [i])=if hasB (Mp c n) i=true then j6 c h n l++ [i]else j6 c h n l:=by
 unfold j6;rw [List.filter_append,List.filter_cons];split<;>simp
theorem MA (c:aq) (h:Int) (n:Nat) (l:List Nat):(j6 c h n l).length<=l.length:=List.length_filter_le _ _
theorem Gr (V:World) (c:aq) (h:Int) (n:Nat) (hc:bK V c) (hl:kU c) (h0:cC c=0) (hh:0<=h/\h<c.hours) (hn:n<c.outs.length):
 Calls prog 214 #[.agg (C8 c),.int .i64 (n:Int),.int .i64 h] V λe w'=> ∃a cap,e= .returned (.slice a (j6 c h n (cK c h c.lines.length)).length cap)/\Ext V w':=by
 try unfold C8
 have HC:=af hc;have Yw:=af (λU (x:Ext V U)=>Jj U c h (hc.ext x) hl h0 hh);have ZF:(cK c h c.lines.length).length<=1000000:=Nat.le_trans (jf _ _ _) hl.lines;have k1:(n:Int)<(c.outs.length:Int):=ae;have k0:(0:Int)<=(n:Int):=ae;clear hc hl h0 hh;generalize cK c h c.lines.length=l at*;go_enter func214,ntmps214
 go_upto_region 1 with fail
 generalize hW:World.alloc V _=W;obtain ⟨B,hB,x,A⟩:=aI hW;rw [<-hB];have HX:=af x;have dY:=af A
 have K: ∀Y,Ext W Y->_:=λY e=>aq.at (A.ext e);have vE:=af (HC.o.ext x);have s:=Ext.refl W;clear hW hB x A;obtain ⟨b,ob,x,hx,K2⟩:=eZ dY.o vE.o.outs 7 rfl n hn;simp only [Cs,ee.cells,Nat.add_zero,Nat.zero_add]at K2;have HL:Hid (bV W x.la x.lc x.lines):=by show bV _ _ _ _;rw [hx.o];exact (vE.o.o _ (List.getElem_mem hn)).2.1
 have HLX:Hid (Mp c n=x.lines):=by show _=_;rw [yU hn,hx.o]
 have nE:=vE.o.outs.lens;clear hx;obtain ⟨nm,xa,xc,xs,cr,ma,mc,ms⟩:=x;dsimp only at*
 go_wp2_with fail
 refine (Yw.o W HX.o).mono ?_;rintro e w1 ⟨la,lc,rfl,hI,x1⟩;have HI:=af hI;have hle:=hI.le;have eI:=hI.cap
 rw [cp]at hle;replace s:=s.trans x1;have xq:=af s;have jZ:=af x1
 clear x1 hI;clear K;go_wp2
 go_loopw [7,23] (λv ii wr=> ∃(i:Nat) (g:Option Addr) (k:Nat),i<=l.length/\ii= .int .i64 i/\v= .slice g (j6 c h n (l.take i)).length k/\cj wr w1.heap.size 3 1 (.slice g (j6 c h n (l.take i)).length k) (pW (cU (j6 c h n (l.take i))))/\Ext w1 wr) (λ_ ii _=>l.length-(intOf ii).toNat)
 case atStart=>exact ⟨0,none,0,bm,rfl,rfl,cj.nil _ _ _ _,ah⟩
 case round=>
  obtain ⟨i,g,k,hi,rfl,rfl,hO,hX⟩:=hrel;have HO:=af hO;have Yx:=af hX
  clear hO hX s;have s:=xq.o.trans Yx.o;by_cases hlt:i<l.length
  .have b1:(i:Int)<(l.length:Int):=ae
   have b0:(0:Int)<=(i:Int):=ae;have hi2:i<(cU l).length:=by rw [cp];exact hlt
   obtain ⟨b2,o2,z,rfl,hz,-,K3⟩:=pg (HI.o.ext Yx.o) i hi2;have HZ:Hid (z=((l[i]:Nat):Int)):=by show _=_;rw [hz.o];simp [cU]
   have HS:=af (yM wr xa xc xs z (HL.o.ext s));have HF:Hid (j6 c h n (l.take (i+1))=if hasB xs z=true then j6 c h n (l.take i)++ [l[i]]else j6 c h n (l.take i)):=by show _=_;rw [List.take_succ_eq_append_getElem hlt,Jk,HLX.o,HZ.o]
   have SE:=MA c h n (l.take i);have QI:(l.take i).length<=1000000:=by rw [List.length_take];omega
   have s0:=Ext.refl wr;go_wp2_with fail
   refine HS.o.mono ?_;rintro e w2 ⟨rfl,rfl⟩;cases q:hasB xs z with
   |false=>
    have HF:=HF.o;rw [q]at HF;simp only [Bool.false_eq_true,if_false]at HF;have HF:=af HF;clear q;go_wp2
    exact ⟨⟨i+1,g,k,hlt,bq,by rw [HF.o],by rw [HF.o];exact HO.o,Yx.o⟩,bz⟩
   |true=>
    have HF:=HF.o;rw [q,if_pos rfl]at HF;have HF:=af HF;clear q;generalize l[i]=m at*;generalize j6 c h n (l.take i)=fl at*;have hs:=Yx.o.size;go_wp2_with (at_builtin;refine Ak _ _ 22 3 (.int .i64 0) 1 8 rfl rfl underlying22 Tryz.info_int rfl ai ai (ga:=g) (gc:=k) (rows:=pW (cU fl)) (by rw [jB,cp];rfl) (by rw [jB,cp];exact HO.o.ext ((Ext.refl w2).alloc _)) rfl (aY.alloc w2 3 [i64 z]) rfl (by intro u hu;rw [List.mem_singleton]at hu;subst hu;rfl) (by rw [jB,cp];omega) (by simp;omega) ?_;intro g2 k2 w4 Kb NA hK2 x4)
    have HLE:Hid ((j6 c h n (l.take (i+1))).length=fl.length+1):=by show _=_;rw [HF.o];simp
    rw [jB,cp,HZ.o]at NA;rw [<-DO,show cU fl++ [((m:Nat):Int)]=cU (j6 c h n (l.take (i+1))) by rw [HF.o];simp [cU],<-HLE.o]at NA;have Vn:=af NA;have kz:=af (x4.ext (Yx.o.alloc _) (dB hK2.1));clear NA hK2 x4;rw [jB,cp];exact ⟨⟨i+1,g2,k2,hlt,bq,by rw [HLE.o],Vn.o,kz.o⟩,bz⟩
  .obtain rfl:i=l.length:=ae
   rw [List.take_length];go_wp2
   go_ret;exact ⟨g,k,rfl,HX.o.trans s⟩
theorem xJ (V:World) (c:aq) (h:Int) (n:Nat) (hc:bK V c) (hl:kU c) (h0:cC c=0) (hA:Acc c) (hh:0<=h/\h<c.hours) (hn:n<c.outs.length):
 Calls prog 126 #[.agg (C8 c),.int .i64 h,.int .i64 (n:Int)] V λe w'=>e= .returned (.bool (kM c h n))/\Ext V w':=by
 try unfold C8
 have HF:=af (λU (x:Ext V U)=>Gr U c h n (hc.ext x) hl h0 hh hn);have HP:=af (Gq (h:=h) hA hn);clear hc hl h0 hA hh hn;generalize j6 c h n (cK c h c.lines.length)=l at*;go_enter func126,ntmps126
 go_upto_region 1 with fail
 generalize hW:World.alloc V _=W;obtain ⟨B,hB,x,A⟩:=aI hW;rw [<-hB];have HX:=af x;have K: ∀Y,Ext W Y->_:=λY e=>aq.at (A.ext e);have s:=Ext.refl W;clear hW hB x A;go_wp2_with fail
 refine (HF.o W HX.o).mono ?_;rintro e w ⟨a,cap,rfl,x2⟩;go_wp2
 go_ret;exact ⟨by rw [<-HP.o];rfl,HX.o.trans x2⟩
theorem GG (w0 V:World) (B H:Nat) (c:aq) (h:Int) (k:Nat) (hV:Ext w0 V) (hc:bK w0 c) (hB:aY V B 30 c.cells) (hH:aY V H 3 [i64 h]) (hk:k<c.lines.length):
 Calls prog 245 #[i64 (k:Int),.pointer (some ⟨B,0,none⟩),.pointer (some ⟨H,0,none⟩)] V λe w'=>e= .returned (.bool (!hasB (jz c k) h))/\Ext V w':=by
 have K: ∀Y,Ext V Y->_:=λY e=>aq.at (hB.ext e);have K1: ∀Y,Ext V Y->_:=λY e=>(hH.ext e).cs;simp only [Cs,Nat.add_zero]at K1;obtain ⟨b4,o4,y,ha4,hy,K4⟩:=(hc.ext hV).lines.pick k hk;simp only [Cs,cX.cells,Nat.add_zero,Nat.zero_add]at K4;have pj:=hc.lines.lens;have k1:(k:Int)<(c.lines.length:Int):=ae;have k0:(0:Int)<=(k:Int):=ae;have HS:=af (λU (x:Ext V U)=>oq U y.aa y.ac y.away h (by rw [hy.o];exact (((hc.ext hV).ext x).line _ (List.getElem_mem hk)).2.1));have HY:Hid (jz c k=y.away):=by show _=_;rw [sk hk,hy.o]
 have s:=Ext.refl V;clear hB hH hc hV;go_enter func245,ntmps245
 go_wp2_with fail
 refine wG (λw=>Ext V w) s.drew λs=> ?_;generalize V.drew=Y at*;refine wV 0 s ?_;refine wV 1 s ?_;refine wV 2 s ?_;refine wV 3 s ?_;refine wV 4 s ?_;refine wV 5 s ?_;refine wV 6 s ?_;refine wR 7 λK' hK=> ?_;rw [if_pos bQ];go_simp;refine (HS.o Y s).mono ?_;rintro e w3 ⟨rfl,rfl⟩;refine hK.o _ _ s λs=> ?_;clear hK K';refine wV 8 s ?_;refine wV 9 s ?_;refine wD ?_;go_wp2
 go_ret;exact ⟨by rw [HY.o];rfl,s⟩
theorem MI {c:aq} {h:Int} {n:Nat} (hA:Acc c) (hn:n<c.outs.length):decide (0<=rG (λi=> !hasB (jz c (kE c.outs[n].lines i).toNat) h) c.outs[n].lines.length)=kM c h n:=by
 rcases pY (λi=> !hasB (jz c (kE c.outs[n].lines i).toNat) h) c.outs[n].lines.length with⟨i,h1,h2,-,h4⟩|⟨h1,h2⟩
 .rw [h4]
  have:kM c h n=true:=(sJ hn).2 ⟨i,h1,by rw [gh h1]at h2;simpa using h2⟩;rw [this];simp
 .rw [h2]
  have:kM c h n=false:=by
   rw [Bool.eq_false_iff];intro q
   obtain ⟨i,hi,e⟩:=(sJ hn).1 q;have:=h1 i hi;rw [gh hi,e]at this;cases this
  rw [this];rfl
theorem Ju (V:World) (c:aq) (h:Int) (n:Nat) (hc:bK V c) (hA:Acc c) (hn:n<c.outs.length):
 Calls prog 181 #[.agg (C8 c),.int .i64 h,.int .i64 (n:Int)] V λe w'=>e= .returned (.bool (kM c h n))/\Ext V w':=by
 try unfold C8
 have HC:=af hc;have HA:=af hA
 have si:=af (show∀args w,(callFunc 245 args).run prog w= .ok (.enter 245 args) w from enters_of func245 aw rfl);clear hc hA;go_enter func181,ntmps181
 go_upto_region 1 with fail
 generalize hW1:World.alloc V _=W1;obtain ⟨G,hG,x0,A0⟩:=aI hW1;rw [<-hG];generalize hW:World.alloc W1 _=W;obtain ⟨H,hH,x1,A1⟩:=aI hW;have hGH:G+1=H:=by rw [hG,hH,<-hW1];simp
 try rw [hGH]
 have HX:=af (x0.trans x1);have HB:=af (A0.ext x1);have HH:=af A1
 have vE:=af (HC.o.ext HX.o);clear hW hW1 hG hH x0 x1 A0 A1 hGH;obtain ⟨b,ob,x,hx,K2⟩:=eZ HB.o vE.o.outs 7 rfl n hn;simp only [Cs,ee.cells,Nat.add_zero,Nat.zero_add]at K2;have HP:Hid (decide (0<=rG (λi=> !hasB (jz c (kE x.lines i).toNat) h) x.lines.length)=kM c h n):=by have:=MI (h:=h) HA.o hn;rw [<-hx.o]at this;exact this
 have HS:Hid (∀U,Ext W U->_):=λU (hU:Ext W U)=>O_ U x.la x.lc x.lines (by rw [hx.o];exact ((vE.o.ext hU).o _ (List.getElem_mem hn)).2.1) 245 (.pointer (some ⟨G,0,none⟩)) (.pointer (some ⟨H,0,none⟩)) (λi=> !hasB (jz c (kE x.lines i).toNat) h) si.o (λU2 i hi hU2=>by
  obtain ⟨k,hk,hkl⟩:=HA.o.line hn (show x.lines[i]∈c.outs[n].lines by rw [<-hx.o];exact List.getElem_mem hi);rw [gh hi,hk,Int.toNat_natCast];exact GG W U2 G H c h k (hU.trans hU2) vE.o (HB.o.ext (hU.trans hU2)) (HH.o.ext (hU.trans hU2)) hkl)
 have nE:=vE.o.outs.lens;have k1:(n:Int)<(c.outs.length:Int):=ae;have k0:(0:Int)<=(n:Int):=ae;have s:=Ext.refl W;go_wp2_with fail
 refine (HS.o _ s).mono ?_;rintro e w ⟨rfl,x2⟩;rw [HP.o];go_wp2
 go_ret;exact ⟨rfl,HX.o.trans x2⟩
theorem Jw (V:World) (x y:fM) (L:Nat) (hx:eC V x L) (hy:eC V y L) (hL:1<=L/\L<=1000000) (hq:x.l.length=y.l.length-> ∀i,i<x.l.length->x.q i=y.q i):
 Calls prog 35 #[.slice x.a x.l.length x.c,.slice y.a y.l.length y.c] V λe w'=>e= .returned (.bool (decide (x.l.length=y.l.length)))/\Ext V w':=by
 have HX:=af hx;have HY:=af hy;have HQ:=af hq;have HL:=af hL
 have hle:=hx.le;have nE:=hy.le
 clear hx hy hq hL;by_cases hn:x.l.length=y.l.length
 case neg=>
  have t:((x.l.length:Int) !=(y.l.length:Int))=true:=by simp;omega
  have HN:=af hn;clear hn;go_enter func35,ntmps35
  go_wp2
  go_ret;exact ⟨by rw [decide_eq_false HN.o];rfl,ah⟩
 have t:((x.l.length:Int) !=(y.l.length:Int))=false:=by simp;omega
 have HN:=af hn;clear hn;obtain ⟨xa,xc,xl⟩:=x;obtain ⟨ya,yc,yl⟩:=y;dsimp only at*
 go_enter func35,ntmps35
 go_wp2_with fail
 clear t;go_loopw [5] (λii wr=> ∃i:Nat,i<=xl.length/\ii= .int .i64 i/\Ext V wr) (λii _=>xl.length-(intOf ii).toNat)
 case atStart=>exact ⟨0,bm,rfl,ah⟩
 case round=>
  obtain ⟨i,hi,rfl,s⟩:=hrel;by_cases hlt:i<xl.length
  .have b1:(i:Int)<(xl.length:Int):=Int.ofNat_lt.2 hlt
   have hly:i<yl.length:=by rw [<-HN.o];exact hlt
   have b2:(i:Int)<(yl.length:Int):=Int.ofNat_lt.2 hly;have b0:(0:Int)<=(i:Int):=Int.natCast_nonneg i;obtain ⟨b,o,r,e1,hr,K⟩:=(HX.o.ext s).at i hlt;obtain ⟨b',o',r',e2,oB,K'⟩:=(HY.o.ext s).at i hly;dsimp only at e1 e2
   subst e1 e2;have HC:=af (λU (hU:Ext wr U)=>Yo U r r' _ _ L L (hr.o.ext hU) (oB.o.ext hU) (dB HL.o));rw [HQ.o HN.o i hlt]at HC;rw [r_.2 rfl]at HC;have wH:=af s;clear s;have s:=Ext.refl wr;go_wp2_with fail
   refine wG (λw=>Ext wr w) s.drew λs=> ?_;generalize wr.drew=Y at*;refine wV 0 s ?_;refine wV 1 s ?_;refine wV 2 s ?_;refine wV 3 s ?_;refine wV 4 s ?_;refine wV 5 s ?_;refine wV 6 s ?_;refine wV 7 s ?_;refine wR 8 λK' hK=> ?_;rw [if_pos bQ];go_simp;refine (HC.o _ s).mono ?_;rintro e w3 ⟨rfl,x3⟩;refine hK.o _ _ (s.trans x3) λs=> ?_;clear hK K' x3;refine wV 9 s ?_;refine wD ?_;go_wp2
   exact ⟨⟨i+1,hlt,bq,wH.o.trans s⟩,bz⟩
  .obtain rfl:i=xl.length:=ae
   go_wp2
   go_ret;exact ⟨by rw [decide_eq_true HN.o];rfl,s⟩
theorem MJ (V:World) (x:ee) (u:Int) (hm:di V 3 x.ma x.mc (x.moves.map cH.cells)):
 Calls prog 133 #[.agg x.cells.toArray,.int .i64 u] V λe w'=>e= .returned (i64 (rG (λi=>decide ((x.moves[i]?.map cH.unit)=some u)) x.moves.length))/\Ext V w':=by
 have HM:=af hm;have hle:=hm.lens;clear hm;obtain ⟨nm,la,lc,ls,cr,ma,mc,ms⟩:=x;unfold ee.cells;dsimp only at*
 generalize hp:(λi:Nat=>decide ((ms[i]?.map cH.unit)=some u))=p;have HP:Hid (∀i (hi:i<ms.length),p i=decide (ms[i].unit=u)):=λi hi=>by rw [<-hp];simp [hi]
 clear hp;go_enter func133,ntmps133
 go_upto_region 1 with fail
 generalize hW:World.alloc V _=W;obtain ⟨G,hG,x0,A0⟩:=aI hW;rw [<-hG];have HX:=af x0;have dY:=af A0
 clear hW hG x0 A0;have K: ∀Y,Ext W Y->_:=λY e=>(dY.o.ext e).cs;replace K:=jo K;have s:=Ext.refl W;go_wp2
 go_loopw [5] (λii wr=> ∃i:Nat,i<=ms.length/\ii= .int .i64 i/\(∀j,j<i->p j=false)/\Ext W wr) (λii _=>ms.length-(intOf ii).toNat)
 case atStart=>exact ⟨0,bm,rfl,λj h=>absurd h (Nat.not_lt_zero _),s⟩
 case round=>
  clear s;obtain ⟨i,hi,rfl,hA,s⟩:=hrel;have HA:=af hA;clear hA;by_cases hlt:i<ms.length
  .have b1:(i:Int)<(ms.length:Int):=Int.ofNat_lt.2 hlt
   have b0:(0:Int)<=(i:Int):=Int.natCast_nonneg i;obtain ⟨b,o,x,rfl,hx,K2⟩:=(HM.o.ext (HX.o.trans s)).pick i hlt;replace K2:=jo K2;have HQ:Hid (p i=decide (x.unit=u)):=by show _=_;rw [HP.o i hlt,hx.o]
   replace K: ∀Y,Ext wr Y->_:=λY e=>K Y (s.trans e);have s0:=Ext.refl wr;by_cases q:x.unit=u
   .have t:(x.unit==u)=true:=by simpa using q
    have HU:Hid (p i=true):=by show _=_;rw [HQ.o];simpa using q
    clear q;go_wp2
    go_ret;exact ⟨by rw [sH hlt HU.o HA.o];rfl,HX.o.trans s⟩
   .have t:(x.unit==u)=false:=by simpa using q
    have HU:Hid (p i=false):=by show _=_;rw [HQ.o];simpa using q
    clear q;go_wp2
    exact ⟨⟨i+1,hlt,bq,λj hj=>by
     by_cases e:j<i
     .exact HA.o j e
     .obtain rfl:j=i:=ae
      exact HU.o,s⟩,bz⟩
  .obtain rfl:i=ms.length:=ae
   go_wp2
   go_ret;exact ⟨by rw [pd HA.o];rfl,HX.o.trans s⟩
theorem MK (V:World) (x:eF) (h:Int) (m:oK) (H M:Nat) (hH:aY V H 3 [i64 h]) (hM:aY V M 55 m.cells):
 Calls prog 148 #[.agg x.cells.toArray,.pointer (some ⟨H,0,none⟩),.pointer (some ⟨M,0,none⟩)] V λe w'=>e= .returned (.bool ((x.hour==h)&&(x.br==m.br)))/\Ext V w':=by
 have HH:=af hH;have HM:=af hM
 clear hH hM;unfold eF.cells;go_enter func148,ntmps148
 go_upto_region 1 with fail
 generalize hW:World.alloc V _=W;obtain ⟨G,hG,x0,A0⟩:=aI hW;rw [<-hG];have HX:=af x0;have dY:=af A0
 clear hW hG x0 A0;have K: ∀Y,Ext W Y->_:=λY e=>(dY.o.ext e).cs;have K1: ∀Y,Ext W Y->_:=λY e=>((HH.o.ext HX.o).ext e).cs;have K2: ∀Y,Ext W Y->_:=λY e=>((HM.o.ext HX.o).ext e).cs;replace K:=jo K;replace K1:=jo K1;replace K2:=jo K2;have s:=Ext.refl W;cases q:x.hour==h with
 |false=>
  go_wp2
  go_ret;exact ⟨by simp [q],HX.o⟩
 |true=>
  go_wp2
  go_ret;exact ⟨by simp [q],HX.o⟩
theorem ML (V:World) (x:cH) (u:Int) (U:Nat) (hU:aY V U 3 [i64 u]):
 Calls prog 150 #[.agg x.cells.toArray,.pointer (some ⟨U,0,none⟩)] V λe w'=>e= .returned (.bool (x.unit==u))/\Ext V w':=by
 have HH:=af hU;clear hU;unfold cH.cells;go_enter func150,ntmps150
 go_upto_region 1 with fail
 generalize hW:World.alloc V _=W;obtain ⟨G,hG,x0,A0⟩:=aI hW;rw [<-hG];have HX:=af x0;have dY:=af A0
 clear hW hG x0 A0;have K: ∀Y,Ext W Y->_:=λY e=>(dY.o.ext e).cs;have K1: ∀Y,Ext W Y->_:=λY e=>((HH.o.ext HX.o).ext e).cs;replace K:=jo K;replace K1:=jo K1;have s:=Ext.refl W;go_wp2
 go_ret;exact ⟨rfl,HX.o⟩
theorem M8 (w:World) (a:Option Addr) (c:Nat) (rs:List bE) (h:oG w a c rs):
 Calls prog 8 #[.slice a rs.length c] w λe w'=> ∃b,e= .returned (.bool b)/\(b=true->Ot rs)/\w=w':=by
 have hle:=h.le;have eI:=h.cap;have HR:=af h;clear h;go_enter func8,ntmps8
 by_cases h30:30<rs.length
 .go_wp2
  go_ret;exact ⟨false,rfl,(λh=>nomatch h),rfl⟩
 go_wp2
 go_loopw [3] (λii wr=> ∃j:Nat,j<=rs.length/\ii= .int .i64 j/\(∀i (hi:i<rs.length),i<j->rs[i].k<=4/\rs[i].j<=4)/\w=wr) (λii _=>rs.length-(intOf ii).toNat)
 case atStart=>exact ⟨0,bm,rfl,λi _ h=>absurd h (Nat.not_lt_zero _),rfl⟩
 case round=>
  obtain ⟨j,hj,rfl,hA,rfl⟩:=hrel;have HA:=af hA;clear hA;by_cases hlt:j<rs.length
  .obtain ⟨b,o,rfl,c0,c1,c2⟩:=HR.o.cell j hlt
   have HB:Hid (rs[j].k<=4/\rs[j].j<=4-> ∀i (hi:i<rs.length),i<j+1->rs[i].k<=4/\rs[i].j<=4):=λq i hi h=>by
    rcases Nat.lt_or_ge i j with e|e
    .exact HA.o i hi e
    .obtain rfl:i=j:=ae
     exact q
   generalize rs[j]=y at*;by_cases h1:y.k<=4
   .by_cases h2:y.j<=4
    .have HC:=af (HB.o ⟨h1,h2⟩)
     have t1:decide ((4:Int)<(y.k:Int))=false:=by simp;omega
     have t2:decide ((4:Int)<(y.j:Int))=false:=by simp;omega
     go_wp2
     exact ⟨⟨j+1,hlt,bq,HC.o,by trivial⟩,bz⟩
    .have t1:decide ((4:Int)<(y.k:Int))=false:=by simp;omega
     have t2:decide ((4:Int)<(y.j:Int))=true:=by simp;omega
     go_wp2
     go_ret;exact ⟨false,rfl,(λh=>nomatch h),rfl⟩
   .have t1:decide ((4:Int)<(y.k:Int))=true:=by simp;omega
    go_wp2
    go_ret;exact ⟨false,rfl,(λh=>nomatch h),rfl⟩
  .obtain rfl:j=rs.length:=ae
   go_wp2
   go_ret;exact ⟨true,rfl,λ_=>⟨ae,λi hi=>HA.o i hi hi⟩,rfl⟩
def fH (w:World) (x:fM):Prop:=oG w x.a x.c (x.l.map QV.r)/\ ∀y∈x.l,y.r.k<=4->y.r.j<=4->fE w y.r y.q 4
def jH (x:fM):Prop:=Ot (x.l.map QV.r)
structure qg (w:World) (x:ku):Prop where
 recs:di w 1 x.a x.c (x.l.map fM.cells)
 row: ∀y∈x.l,fH w y
def qE (x:ku):Prop:=x.l.length<=8/\ ∀y∈x.l,jH y
theorem fH.in {w:World} {x:fM} (h:fH w x) (hs:jH x):eC w x 4:=
 ⟨⟨by have:=h.1.le;simpa using this,h.1.cap,λi hi=>by
   have hi':i<(x.l.map QV.r).length:=by simpa using hi
   obtain ⟨b,o,ha,c0,c1,c2⟩:=h.1.cell i hi';refine ⟨b,o,ha,λj hj=> ?_⟩;simp only [List.getElem_map,QV.cells,bE.cells]at hj c0 c1 c2⊢;match j,hj with
   |0,_=>exact c0
   |1,_=>exact c1
   |2,_=>exact c2⟩,λy hy=>by
   obtain ⟨i,hi,rfl⟩:=List.mem_iff_getElem.1 hy;have:=hs.2 i (by simpa using hi);rw [List.getElem_map]at this;exact h.2 _ hy this.1 this.2⟩
theorem qg.in {w:World} {x:ku} (h:qg w x) (hs:qE x):jW w x 4:=⟨h.recs,λy hy=>(h.row y hy).in (hs.2 y hy)⟩
theorem oG.ext {w w':World} {a:Option Addr} {c:Nat} {rs:List bE} (h:oG w a c rs) (e:Ext w w'):oG w' a c rs:=
 ⟨h.le,h.cap,h.Ni,λi hi=>by
   obtain ⟨b,o,ha,c0,c1,c2⟩:=h.cell i hi;exact ⟨b,o,ha,aB e c0,aB e c1,aB e c2⟩,λi hi=>by
   obtain ⟨h1,h2⟩:=h.num i hi;exact ⟨⟨h1.1,h1.2.1,λk=>by obtain ⟨n,hn⟩:=h1.2.2 k;exact ⟨n,hn.ext e⟩⟩,⟨h2.1,h2.2.1,λk=>by obtain ⟨n,hn⟩:=h2.2.2 k;exact ⟨n,hn.ext e⟩⟩⟩⟩
theorem fH.ext {w w':World} {x:fM} (h:fH w x) (e:Ext w w'):fH w' x:=⟨h.1.ext e,λy hy a b=>(h.2 y hy a b).ext e⟩
theorem qg.ext {w w':World} {x:ku} (h:qg w x) (e:Ext w w'):qg w' x:=⟨h.recs.ext e,λy hy=>(h.row y hy).ext e⟩
theorem nb (V:World) (x:fM) (h:fH V x):Calls prog 8 #[.slice x.a x.l.length x.c] V λe w'=> ∃b,e= .returned (.bool b)/\(b=true->jH x)/\Ext V w':=by
 have:=M8 V x.a x.c (x.l.map QV.r) h.1;rw [List.length_map]at this;exact this.mono λe w' ⟨b,h1,h2,h3⟩=>⟨b,h1,h2,by rw [<-h3];exact ah⟩
theorem Sn (V:World) (t:ku) (ht:qg V t):
 Calls prog 14 #[.slice t.a t.l.length t.c] V λe w'=> ∃b,e= .returned (.bool b)/\(b=true->qE t)/\Ext V w':=by
 have hle:=ht.recs.lens;have HT:=af ht;clear ht;obtain ⟨ta,tc,tl⟩:=t;dsimp only at*
 by_cases h8:(8:Int)<(tl.length:Int)
 .have t8:decide ((8:Int)<(tl.length:Int))=true:=decide_eq_true h8
  go_enter func14,ntmps14
  go_wp2
  go_ret;exact ⟨false,rfl,λe=>(nomatch e),ah⟩
 have H8:Hid (tl.length<=8):=by show _<=_;omega
 go_enter func14,ntmps14
 go_wp2_with fail
 clear h8;go_loopw [3] (λii wr=> ∃i:Nat,i<=tl.length/\ii= .int .i64 i/\(∀j (hj:j<tl.length),j<i->jH tl[j])/\Ext V wr) (λii _=>tl.length-(intOf ii).toNat)
 case atStart=>exact ⟨0,bm,rfl,λj _ h=>absurd h (Nat.not_lt_zero _),ah⟩
 case round=>
  obtain ⟨i,hi,rfl,hA,s⟩:=hrel;have HA:=af hA;clear hA;by_cases hlt:i<tl.length
  .have b1:(i:Int)<(tl.length:Int):=Int.ofNat_lt.2 hlt
   have b0:(0:Int)<=(i:Int):=Int.natCast_nonneg i;obtain ⟨b,o,x,rfl,hx,K⟩:=(HT.o.ext s).recs.pick i hlt;simp only [Cs,fM.cells,Nat.mul_one,Nat.add_zero,Nat.zero_add,Nat.reduceAdd]at K;have HR:=af (λU (hU:Ext wr U)=>nb U x (((HT.o.ext s).row x (by rw [hx.o];exact List.getElem_mem hlt)).ext hU));have s0:=Ext.refl wr;go_wp2_with fail
   refine (HR.o _ s0).mono ?_;rintro e w2 ⟨t,rfl,ht,x2⟩;have Lf:=af ht;replace s:=s.trans x2;clear x2 ht s0;cases t with
   |false=>
    go_wp2
    go_ret;exact ⟨false,rfl,λe=>(nomatch e),s⟩
   |true=>
    have HS:=af (Lf.o rfl);clear Lf;go_wp2
    exact ⟨⟨i+1,hlt,bq,λj hj qF=>by
     by_cases e:j<i
     .exact HA.o j hj e
     .obtain rfl:j=i:=ae
      rw [<-hx.o];exact HS.o,s⟩,bz⟩
  .obtain rfl:i=tl.length:=ae
   go_wp2
   go_ret
   exact ⟨true,rfl,λ_=>⟨H8.o,λy hy=>by
    obtain ⟨j,hj,rfl⟩:=List.mem_iff_getElem.1 hy;exact HA.o j hj hj⟩,s⟩
structure j8 (w:World) (s:aQ):Prop where
 ay:di w 3 s.ua s.uc (s.ay.map tF.cells)
 unit: ∀p∈s.ay,bV w p.sa p.sc p.states/\fH w p.e/\fH w p.r
 kT: ∀m∈ [s.cB,s.disch,s.level,s.imp,s.er,s.shift],qg w m
 moves:di w 4 s.ma s.mc (s.moves.map eF.cells)
 move: ∀m∈s.moves,dx m.hour/\dx m.br/\fH w m.up/\fH w m.down
structure EC (s:aQ):Prop where
 ay:s.ay.length<=8
 moves:s.moves.length<=20
 kT: ∀m∈ [s.cB,s.disch,s.level,s.imp,s.er,s.shift],qE m
 unit: ∀p∈s.ay,p.states.length<=30/\jH p.e/\jH p.r
 move: ∀m∈s.moves,jH m.up/\jH m.down
def Zq (V:World) (P:Prop) (e:Ending) (w':World):Prop:= ∃b:Bool,e= .returned (.bool b)/\(b=true->P)/\Ext V w'
theorem j8.ext {w w':World} {s:aQ} (h:j8 w s) (e:Ext w w'):j8 w' s:=
 ⟨h.ay.ext e,λp hp=>⟨(h.unit p hp).1.ext e,(h.unit p hp).2.1.ext e,(h.unit p hp).2.2.ext e⟩,λm hm=>(h.kT m hm).ext e,h.moves.ext e,λm hm=>⟨(h.move m hm).1,(h.move m hm).2.1,(h.move m hm).2.2.1.ext e,(h.move m hm).2.2.2.ext e⟩⟩
theorem j8.in {w:World} {s:aQ} (h:j8 w s) (hs:EC s):eM w s 4:=
 ⟨h.ay,λp hp=>⟨(h.unit p hp).1,(h.unit p hp).2.1.in (hs.unit p hp).2.1,(h.unit p hp).2.2.in (hs.unit p hp).2.2⟩,λm hm=>(h.kT m hm).in (hs.kT m hm),h.moves,λm hm=>⟨(h.move m hm).1,(h.move m hm).2.1,(h.move m hm).2.2.1.in (hs.move m hm).1,(h.move m hm).2.2.2.in (hs.move m hm).2⟩⟩
theorem PZ (V:World) (s:aQ) (hs:j8 V s):
 Calls prog 7 #[.agg s.cells.toArray] V (Zq V (EC s)):=by
 have HS:=af hs;have hle:=hs.ay.lens;have nE:=hs.moves.lens
 clear hs;obtain ⟨ua,uc,us,m1,m2,m3,m4,m5,m6,ma,mc,ms⟩:=s;unfold aQ.cells;dsimp only at*
 go_enter func7,ntmps7
 go_upto_region 1 with fail
 generalize hW:World.alloc V _=W;obtain ⟨G,hG,x0,A0⟩:=aI hW;rw [<-hG];have HX:=af x0;have dY:=af A0
 clear hW hG x0 A0;have K: ∀Y,Ext W Y->_:=λY e=>(dY.o.ext e).cs;replace K:=jo K;have s0:=Ext.refl W;by_cases h8:(8:Int)<(us.length:Int)
 .have t8:decide ((8:Int)<(us.length:Int))=true:=decide_eq_true h8
  go_wp2
  go_ret;exact ⟨false,rfl,λe=>(nomatch e),HX.o.trans s0⟩
 by_cases h20:(20:Int)<(ms.length:Int)
 .have t20:decide ((20:Int)<(ms.length:Int))=true:=decide_eq_true h20
  go_wp2
  go_ret;exact ⟨false,rfl,λe=>(nomatch e),HX.o.trans s0⟩
 have HN:Hid (us.length<=8/\ms.length<=20):=by show _/\_;omega
 have HG:Hid (∀U,Ext W U-> ∀m,m∈ [m1,m2,m3,m4,m5,m6]->Calls prog 14 #[.slice m.a m.l.length m.c] U λe w'=> ∃b,e= .returned (.bool b)/\(b=true->qE m)/\Ext U w'):=λU hU m hm=>Sn U m ((HS.o.ext (HX.o.trans hU)).kT m hm);go_wp2_with (go_at_call 14;refine (HG.o _ s0 _ aX).mono ?_;rintro e w ⟨b,rfl,hb,hx⟩;replace s0:=s0.trans hx;clear hx;cases b;case' true=>replace hb:=af (hb rfl))
 all_goals first|(go_ret;exact ⟨false,rfl,(λe=>(nomatch e)),HX.o.trans s0⟩)|skip
 have HM:Hid (∀m∈ [m1,m2,m3,m4,m5,m6],qE m):=by
  have e1:Hid (qE m1):=by assumption
  have e2:Hid (qE m2):=by assumption
  have e3:Hid (qE m3):=by assumption
  have e4:Hid (qE m4):=by assumption
  have e5:Hid (qE m5):=by assumption
  have e6:Hid (qE m6):=by assumption
  intro m hm;simp only [List.mem_cons,List.not_mem_nil,or_false]at hm;rcases hm with rfl|rfl|rfl|rfl|rfl|rfl<;>first|exact e1.o|exact e2.o|exact e3.o|exact e4.o|exact e5.o|exact e6.o
 clear K h8 h20;go_loopw [3] (λii wr=> ∃i:Nat,i<=us.length/\ii= .int .i64 i/\(∀j (hj:j<us.length),j<i->us[j].states.length<=30/\jH us[j].e/\jH us[j].r)/\Ext W wr) (λii _=>us.length-(intOf ii).toNat)
 case atStart=>exact ⟨0,bm,rfl,λj _ h=>absurd h (Nat.not_lt_zero _),s0⟩
 case round=>
  clear s0;obtain ⟨i,hi,rfl,hA,s⟩:=hrel;have HA:=af hA;clear hA;by_cases hlt:i<us.length
  .have b1:(i:Int)<(us.length:Int):=Int.ofNat_lt.2 hlt
   have b0:(0:Int)<=(i:Int):=Int.natCast_nonneg i;obtain ⟨b,o,x,hx,K⟩:=eZ (dY.o.ext s) (HS.o.ext (HX.o.trans s)).ay 0 rfl i hlt;replace K:=jo K;have HR:=af (λU (hU:Ext wr U)=>show fH U x.e/\fH U x.r by rw [hx.o];exact ((HS.o.ext (HX.o.trans (s.trans hU))).unit _ (List.getElem_mem hlt)).2);have wH:=af s;clear s;by_cases h30:(30:Int)<(x.states.length:Int)
   .have t30:decide ((30:Int)<(x.states.length:Int))=true:=decide_eq_true h30
    have s0:=Ext.refl wr;go_wp2
    go_ret;exact ⟨false,rfl,λe=>(nomatch e),HX.o.trans (wH.o.trans s0)⟩
   have H30:Hid (x.states.length<=30):=by show _<=_;omega
   have s0:=Ext.refl wr;go_wp2_with (go_at_call 8;refine (nb _ _ (by first|exact (HR.o _ s0).1|exact (HR.o _ s0).2)).mono ?_;rintro e w ⟨b,rfl,hb,hx⟩;replace s0:=s0.trans hx;clear hx;cases b;case' true=>replace hb:=af (hb rfl))
   all_goals first|(go_ret;exact ⟨false,rfl,(λe=>(nomatch e)),HX.o.trans (wH.o.trans s0)⟩)|skip
   have e1:Hid (jH x.e):=by assumption
   have e2:Hid (jH x.r):=by assumption
   exact ⟨⟨i+1,hlt,bq,λj hj qF=>by
    by_cases e:j<i
    .exact HA.o j hj e
    .obtain rfl:j=i:=ae
     rw [<-hx.o];exact ⟨H30.o,e1.o,e2.o⟩,wH.o.trans s0⟩,bz⟩
  .obtain rfl:i=us.length:=ae
   have K: ∀Y,Ext W Y->_:=λY e=>(dY.o.ext e).cs;replace K:=jo K;go_wp2_with fail
   clear K;go_loopw [4] (λii wr=> ∃i:Nat,i<=ms.length/\ii= .int .i64 i/\(∀j (hj:j<ms.length),j<i->jH ms[j].up/\jH ms[j].down)/\Ext W wr) (λii _=>ms.length-(intOf ii).toNat)
   case atStart=>exact ⟨0,bm,rfl,λj _ h=>absurd h (Nat.not_lt_zero _),s⟩
   case round=>
    clear s;obtain ⟨i,hi,rfl,hB,s⟩:=hrel;have HB:=af hB;clear hB;by_cases hlt:i<ms.length
    .have b1:(i:Int)<(ms.length:Int):=Int.ofNat_lt.2 hlt
     have b0:(0:Int)<=(i:Int):=Int.natCast_nonneg i;obtain ⟨b,o,x,hx,K⟩:=eZ (dY.o.ext s) (HS.o.ext (HX.o.trans s)).moves 7 rfl i hlt;replace K:=jo K;have HR:=af (λU (hU:Ext wr U)=>show fH U x.up/\fH U x.down by rw [hx.o];exact ((HS.o.ext (HX.o.trans (s.trans hU))).move _ (List.getElem_mem hlt)).2.2);have wH:=af s;clear s;have s0:=Ext.refl wr;go_wp2_with (go_at_call 8;refine (nb _ _ (by first|exact (HR.o _ s0).1|exact (HR.o _ s0).2)).mono ?_;rintro e w ⟨b,rfl,hb,hx⟩;replace s0:=s0.trans hx;clear hx;cases b;case' true=>replace hb:=af (hb rfl))
     all_goals first|(go_ret;exact ⟨false,rfl,(λe=>(nomatch e)),HX.o.trans (wH.o.trans s0)⟩)|skip
     have e1:Hid (jH x.up):=by assumption
     have e2:Hid (jH x.down):=by assumption
     exact ⟨⟨i+1,hlt,bq,λj hj qF=>by
      by_cases e:j<i
      .exact HB.o j hj e
      .obtain rfl:j=i:=ae
       rw [<-hx.o];exact ⟨e1.o,e2.o⟩,wH.o.trans s0⟩,bz⟩
    .obtain rfl:i=ms.length:=ae
     have K: ∀Y,Ext W Y->_:=λY e=>(dY.o.ext e).cs;replace K:=jo K;go_wp2
     go_ret
     exact ⟨true,rfl,λ_=>⟨HN.o.1,HN.o.2,HM.o,λp hp=>by
      obtain ⟨j,hj,rfl⟩:=List.mem_iff_getElem.1 hp;exact HA.o j hj hj,λp hp=>by
      obtain ⟨j,hj,rfl⟩:=List.mem_iff_getElem.1 hp;exact HB.o j hj hj⟩,HX.o.trans s⟩
structure jg (w:World) (p:aU):Prop where
 b_:qg w p.b_
 bC:fH w p.bC
 moves:di w 3 p.ma p.mc (p.moves.map oK.cells)
 move: ∀m∈p.moves,dx m.hour/\dx m.br/\fH w m.fc
structure AY (p:aU):Prop where
 b_:qE p.b_
 bC:jH p.bC
 moves:p.moves.length<=12
 move: ∀m∈p.moves,jH m.fc
theorem jg.ext {w w':World} {p:aU} (h:jg w p) (e:Ext w w'):jg w' p:=⟨h.b_.ext e,h.bC.ext e,h.moves.ext e,λm hm=>⟨(h.move m hm).1,(h.move m hm).2.1,(h.move m hm).2.2.ext e⟩⟩
theorem jg.in {w:World} {p:aU} (h:jg w p) (hs:AY p):fS w p 4:=⟨h.b_.in hs.b_,h.bC.in hs.bC,h.moves,λm hm=>⟨(h.move m hm).1,(h.move m hm).2.1,(h.move m hm).2.2.in (hs.move m hm)⟩⟩
def Zr (V:World) (P:Prop) (e:Ending) (w':World):Prop:= ∃b:Bool,e= .returned (.bool b)/\(b=false->P)/\Ext V w'
theorem P6 (V:World) (p:aU) (hp:jg V p):
 Calls prog 11 #[.agg p.cells.toArray] V (Zr V (AY p)):=by
 have HP:=af hp;have hle:=hp.b_.recs.lens;have nE:=hp.moves.lens
 clear hp;obtain ⟨⟨ea,ec,el⟩,rv,ma,mc,ms⟩:=p;unfold aU.cells;dsimp only at*
 go_enter func11,ntmps11
 go_upto_region 1 with fail
 generalize hW:World.alloc V _=W;obtain ⟨G,hG,x0,A0⟩:=aI hW;rw [<-hG];have HX:=af x0;have dY:=af A0
 clear hW hG x0 A0;have K: ∀Y,Ext W Y->_:=λY e=>(dY.o.ext e).cs;replace K:=jo K;have s0:=Ext.refl W;by_cases h8:(8:Int)<(el.length:Int)
 .have t8:decide ((8:Int)<(el.length:Int))=true:=decide_eq_true h8
  go_wp2
  go_ret;exact ⟨true,rfl,λe=>(nomatch e),HX.o.trans s0⟩
 by_cases Kv:(12:Int)<(ms.length:Int)
 .have t12:decide ((12:Int)<(ms.length:Int))=true:=decide_eq_true Kv
  go_wp2
  go_ret;exact ⟨true,rfl,λe=>(nomatch e),HX.o.trans s0⟩
 have HN:Hid (el.length<=8/\ms.length<=12):=by show _/\_;omega
 go_wp2_with (go_at_call 8;refine (nb _ _ ((HP.o.ext (HX.o.trans s0)).bC)).mono ?_;rintro e w ⟨b,rfl,hb,hx⟩;replace s0:=s0.trans hx;clear hx;cases b;case' true=>replace hb:=af (hb rfl))
 all_goals first|(go_ret;exact ⟨true,rfl,(λe=>(nomatch e)),HX.o.trans s0⟩)|skip
 have HR:Hid (jH rv):=by assumption
 clear K h8 Kv;go_loopw [3] (λii wr=> ∃i:Nat,i<=el.length/\ii= .int .i64 i/\(∀j (hj:j<el.length),j<i->jH el[j])/\Ext W wr) (λii _=>el.length-(intOf ii).toNat)
 case atStart=>exact ⟨0,bm,rfl,λj _ h=>absurd h (Nat.not_lt_zero _),s0⟩
 case round=>
  clear s0;obtain ⟨i,hi,rfl,hA,s⟩:=hrel;have HA:=af hA;clear hA;by_cases hlt:i<el.length
  .have b1:(i:Int)<(el.length:Int):=Int.ofNat_lt.2 hlt
   have b0:(0:Int)<=(i:Int):=Int.natCast_nonneg i;obtain ⟨b,o,x,hx,K⟩:=eZ (dY.o.ext s) (HP.o.ext (HX.o.trans s)).b_.recs 0 rfl i hlt;simp only [Cs,fM.cells,Nat.mul_one,Nat.add_zero,Nat.zero_add,Nat.reduceAdd]at K;have HRX:=af (λU (hU:Ext wr U)=>show fH U x by rw [hx.o];exact (HP.o.ext (HX.o.trans (s.trans hU))).b_.row _ (List.getElem_mem hlt));have wH:=af s;clear s;have s0:=Ext.refl wr;go_wp2_with (go_at_call 8;refine (nb _ _ (HRX.o _ s0)).mono ?_;rintro e w ⟨b,rfl,hb,hx⟩;replace s0:=s0.trans hx;clear hx;cases b;case' true=>replace hb:=af (hb rfl))
   all_goals first|(go_ret;exact ⟨true,rfl,(λe=>(nomatch e)),HX.o.trans (wH.o.trans s0)⟩)|skip
   have e1:Hid (jH x):=by assumption
   exact ⟨⟨i+1,hlt,bq,λj hj qF=>by
    by_cases e:j<i
    .exact HA.o j hj e
    .obtain rfl:j=i:=ae
     rw [<-hx.o];exact e1.o,wH.o.trans s0⟩,bz⟩
  .obtain rfl:i=el.length:=ae
   have K: ∀Y,Ext W Y->_:=λY e=>(dY.o.ext e).cs;replace K:=jo K;go_wp2_with fail
   clear K;go_loopw [4] (λii wr=> ∃i:Nat,i<=ms.length/\ii= .int .i64 i/\(∀j (hj:j<ms.length),j<i->jH ms[j].fc)/\Ext W wr) (λii _=>ms.length-(intOf ii).toNat)
   case atStart=>exact ⟨0,bm,rfl,λj _ h=>absurd h (Nat.not_lt_zero _),s⟩
   case round=>
    clear s;obtain ⟨i,hi,rfl,hB,s⟩:=hrel;have HB:=af hB;clear hB;by_cases hlt:i<ms.length
    .have b1:(i:Int)<(ms.length:Int):=Int.ofNat_lt.2 hlt
     have b0:(0:Int)<=(i:Int):=Int.natCast_nonneg i;obtain ⟨b,o,x,hx,K⟩:=eZ (dY.o.ext s) (HP.o.ext (HX.o.trans s)).moves 2 rfl i hlt;replace K:=jo K;have HRX:=af (λU (hU:Ext wr U)=>show fH U x.fc by rw [hx.o];exact ((HP.o.ext (HX.o.trans (s.trans hU))).move _ (List.getElem_mem hlt)).2.2);have wH:=af s;clear s;have s0:=Ext.refl wr;go_wp2_with (go_at_call 8;refine (nb _ _ (HRX.o _ s0)).mono ?_;rintro e w ⟨b,rfl,hb,hx⟩;replace s0:=s0.trans hx;clear hx;cases b;case' true=>replace hb:=af (hb rfl))
     all_goals first|(go_ret;exact ⟨true,rfl,(λe=>(nomatch e)),HX.o.trans (wH.o.trans s0)⟩)|skip
     have e1:Hid (jH x.fc):=by assumption
     exact ⟨⟨i+1,hlt,bq,λj hj qF=>by
      by_cases e:j<i
      .exact HB.o j hj e
      .obtain rfl:j=i:=ae
       rw [<-hx.o];exact e1.o,wH.o.trans s0⟩,bz⟩
    .obtain rfl:i=ms.length:=ae
     have K: ∀Y,Ext W Y->_:=λY e=>(dY.o.ext e).cs;replace K:=jo K;go_wp2
     go_ret
     exact ⟨false,rfl,λ_=>⟨⟨HN.o.1,λp hp=>by
      obtain ⟨j,hj,rfl⟩:=List.mem_iff_getElem.1 hp;exact HA.o j hj hj⟩,HR.o,HN.o.2,λp hp=>by
      obtain ⟨j,hj,rfl⟩:=List.mem_iff_getElem.1 hp;exact HB.o j hj hj⟩,HX.o.trans s⟩
