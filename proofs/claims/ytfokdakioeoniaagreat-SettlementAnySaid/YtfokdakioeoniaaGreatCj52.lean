/- Texts of the proof. -/
import Derived.Test.YtfokdakioeoniaaGreatCj51
set_option linter.all false
set_option maxHeartbeats 4000000
set_option maxRecDepth 100000
namespace Go.Proofs.YtfokdakioeoniaaGreat
open Go.Proofs.Tryz
open Go.RowKit
theorem AR (w:World) (T1 T2:TypeId) (l1 l2:List Value):aY ((w.alloc (.cells l1.toArray T1)).alloc (.cells l2.toArray T2)).drew w.heap.size T1 l1/\aY ((w.alloc (.cells l1.toArray T1)).alloc (.cells l2.toArray T2)).drew (w.heap.size+1) T2 l2/\Ext w ((w.alloc (.cells l1.toArray T1)).alloc (.cells l2.toArray T2)).drew:=
 ⟨((aY.alloc w T1 l1).ext (ah.alloc _)).ext ah.drew,(aY.qV w _ T2 l2).ext ah.drew,((ah.alloc _).alloc _).drew⟩
def VW (w:World) (fl:List Int) (fs:List Rat) (n bw bp BB i:Nat) (wr:World):Prop:=
 ∃gP:List bE,gP.length=i/\i<=n/\aY wr bw 3 (ju (fl.take i++List.replicate (n-i) 0))/\aY wr bp 63 (bX gP++fh (n-i))/\(∀k (hk:k<gP.length),dO wr gP[k] (fs[k]?.getD 0) BB)/\Ext w wr/\BB<=wr.heap.size
def PW (w:World) (fs:List Rat) (fl:List Int) (n bw bp BB t:Nat) (wr:World):Prop:=
 ∃gP:List bE,gP.length=n/\aY wr bw 3 (ju (dZ fs n fl t))/\aY wr bp 63 (bX gP)/\(∀k (hk:k<gP.length),dO wr gP[k] (partAt fs n t k) BB)/\Ext w wr/\BB<=wr.heap.size
theorem Hc:fh 0= []:=rfl
open Classical in
theorem JL (fs:List Rat) (n:Nat) (l:List Int) (hl:l.length=n) (t:Nat) (ht:t<=n) (p:Nat) (hp:p<n):l[p]?.getD 0<=(dZ fs n l t)[p]?.getD 0/\(dZ fs n l t)[p]?.getD 0<=l[p]?.getD 0+1:=by
 rw [MR fs n l hl t ht p hp];split<;>omega
theorem qB (qs:List Rat) (h: ∀i (hi:i<qs.length),-281474976710656<=qs[i].floor/\qs[i].floor<=281474976710656) (j:Nat) (hl:qs.length<=128): -36028797018963968<=gN ((qs.map Rat.floor).take j)/\gN ((qs.map Rat.floor).take j)<=36028797018963968:=by
 have h1:=uj ((qs.map Rat.floor).take j) 281474976710656 (by
  intro x hx;obtain ⟨q,hq,rfl⟩:=List.mem_map.1 (List.mem_of_mem_take hx);obtain ⟨i,hi,rfl⟩:=List.getElem_of_mem hq;exact h i hi)
 have h2:((((qs.map Rat.floor).take j).length:Nat):Int)<=128:=by rw [List.length_take,List.length_map];omega
 omega
def qC (w:World) (b i:Nat) (r:bE):World:=((w.setCell ⟨b,i*3,none⟩ (.bool r.s)).setCell ⟨b,i*3+1,none⟩ (.slice r.a r.k r.c)).setCell ⟨b,i*3+2,none⟩ (.slice r.b r.j r.d)
section
variable{w w0:World} {b b' B o:Nat} {T:TypeId} {vs:List Value} {q:Rat} {r':bE} {v:Value}
theorem CP (A:aY w b T vs) (i:Nat) (r:bE):aY (qC w b i r) b T (((vs.set (i*3) (.bool r.s)).set (i*3+1) (.slice r.a r.k r.c)).set (i*3+2) (.slice r.b r.j r.d)):=((A.set _ _).set _ _).set _ _
theorem xP (A:aY w b' T vs) (h:b≠b') (i:Nat) (r:bE):aY (qC w b i r) b' T vs:=((A.other _ _ h).other _ _ h).other _ _ h
theorem tk (h:dO w r' q B) (hb:b<B) (i:Nat) (r:bE):dO (qC w b i r) r' q B:=((h.setCell _ _ hb).setCell _ _ hb).setCell _ _ hb
theorem CQ (h:Ext w0 w) (hb:w0.heap.size<=b) (i:Nat) (r:bE):Ext w0 (qC w b i r):=((h.setCell hb _).setCell hb _).setCell hb _
theorem AV (i:Nat) (r:bE):(qC w b i r).heap.size=w.heap.size:=by simp [qC,World.setCell]
theorem JM (h:w.cell? ⟨b',o,none⟩=some v) (hb:b'≠b) (i:Nat) (r:bE):(qC w b i r).cell? ⟨b',o,none⟩=some v:=MU h hb
end
theorem PX (w:World) (a:Option Addr) (c L:Nat) (rs:List bE) (qs:List Rat) (h:jV w a c rs qs L) (hn:rs.length<=128) (hL:L<=1000) (hK:jh rs 1000) (hall: ∀i (hi:i<rs.length),my (qs[i]'(by rw [h.len];exact hi)))
 (SM: -72057594037927936<=(bO qs).floor) (hF2:(bO qs).floor<=72057594037927936) (acZ:dW (bO qs)<1000000) (hint:bO qs=(((bO qs).floor:Int):Rat)) (LA:gN (qs.map Rat.floor)<=(bO qs).floor) (qN:(bO qs).floor<=gN (qs.map Rat.floor)+rs.length):
 Calls prog 78 #[.slice a rs.length c] w (Dy (dZ (cR qs) rs.length (qs.map Rat.floor) ((bO qs).floor-gN (qs.map Rat.floor)).toNat) w):=by
 have hcz:((fY (bO qs) (((bO qs).floor:Int):Rat)) !=0)=false:=by rw [bne_eq_false_iff_eq];exact r_.2 hint
 obtain ⟨out,hout⟩: ∃out,out=dZ (cR qs) rs.length (qs.map Rat.floor) ((bO qs).floor-gN (qs.map Rat.floor)).toNat:=⟨_,rfl⟩;rw [<-hout];have VF:=af hout;have HM0:=af LA;have UA:=af qN;clear hint hout LA qN;have hle:=h.le;have eI:=h.cap;have ur:=h.short;have Zf: ∀V,Calls prog 16 #[.int .i64 281474976710656] V (bD eU V):=λV=>kf V 281474976710656 ai ai;have HFM:=af Zf;clear Zf;go_enter func78,ntmps78
 go_wp2
 go_loopw [4] (λii wr=> ∃j:Nat,j<=rs.length/\Ext w wr/\ii= .int .i64 j) (λii _=>rs.length-(intOf ii).toNat)
 case atStart=>exact ⟨0,bm,ah,rfl⟩
 case round=>
  obtain ⟨j,hj,hE,rfl⟩:=hrel;by_cases hlt:j<rs.length
  .obtain ⟨b,o,rfl⟩:=h.at ae
   obtain ⟨b',o',e',c0,c1,c2⟩:=(h.ext hE).cell j hlt;cases e'
   obtain ⟨ks1,ks2⟩:=hK j hlt;obtain ⟨hA,hC⟩:=Lh w rs[j] _ L (h.num j hlt) ks1 ks2 hL;have z1:decide ((0:Int)<fY (yj (qs[j]'(by rw [h.len];exact hlt))) eU)=false:=gJ (AQ.1 (hall j hlt));generalize fY (yj (qs[j]'(by rw [h.len];exact hlt))) eU=t1 at*;generalize rs[j]=y at*;have HA:=af hA;have HC:=af hC
   clear hA hC;go_wp2_with fail
   refine (HA.o _ hE).mono ?_;rintro e w1 ⟨r1,rfl,hr1,k1,k2,x1⟩;go_wp2_with fail
   refine (HFM.o _).mono ?_;intro e w2 hN;obtain ⟨r2,rfl,hr2,x2⟩:=hN.jR;clear hN;go_wp2_with fail
   refine (HC.o _ _ _ _ (hr1.ext x2) k1 k2 hr2).mono ?_;rintro e w3 ⟨rfl,x3⟩;go_wp2_with fail
   go_roundw
   case rel=>exact ⟨j+1,ae,((hE.trans x1).trans x2).trans x3,bq⟩
   case measure=>simp [intOf]<;>omega
  .obtain rfl:j=rs.length:=ae
   have Zg:=λV (hV:Ext w V)=>UL V a c rs qs L (h.ext hV) (dB (Nat.mul_le_mul hn (show L+2<=1002 by omega))) (λi hi=>dB (hK i hi));have Uz:=iN (bO qs);have hsd:=iw (bO qs)
   have CK: ∀V (r:bE) (B:Nat),dO V r (bO qs) B->Calls prog 156 #[.agg #[.bool r.s,.slice r.a r.k r.c,.slice r.b r.j r.d]] V (eJ (decide ((bO qs).floor<0)) (bO qs).floor.natAbs V):=by
    intro V r B hr;have hk:=hr.k;have hj:=hr.j;have h5:=FI V r.s _ _ _ _ _ _ _ _ hr.num hr.den ae ae;rw [hr.s,dJ,Rat.mkRat_self]at h5;rw [hr.s];exact h5.mono (λ_ _ hh=>hh.intOf)
   have qd: ∀V a c,Raw V a (len (bO qs).floor.natAbs) c (bO qs).floor.natAbs->Calls prog 155 #[.agg #[.bool (decide ((bO qs).floor<0)),.slice a (len (bO qs).floor.natAbs) c]] V λe w'=>e= .returned (.tuple #[.int .i64 (bO qs).floor,.bool true])/\Ext V w':=by
    intro V a c hV;have h5:=Fv V (decide ((bO qs).floor<0)) a _ c _ hV (by rw [df];omega) (by rw [df];omega);rw [df]at h5;exact h5
   have kV:=λV=>kf V (bO qs).floor ae ae;have AZ:dW (((bO qs).floor:Int):Rat)<=2:=by rw [gi];have:=eT (z:=(bO qs).floor) ae ae;omega
   have NC: ∀V (r r':bE) (B B':Nat),dO V r (bO qs) B->dO V r' (((bO qs).floor:Int):Rat) B'->Calls prog 20 #[.agg #[.bool r.s,.slice r.a r.k r.c,.slice r.b r.j r.d],.agg #[.bool r'.s,.slice r'.a r'.k r'.c,.slice r'.b r'.j r'.d]] V λe w'=>e= .returned (.int .i64 (fY (bO qs) (((bO qs).floor:Int):Rat)))/\Ext V w':=by
    intro V r r' B B' hr oB;have hk:=hr.k;have hj:=hr.j;have hs:=oB.short AZ;have h5:=pL V r.s _ _ _ _ _ _ _ _ hr.num hr.den r'.s _ _ _ _ _ _ _ _ oB.num oB.den ae ae ae ae;rw [hr.s,dJ,Rat.mkRat_self,oB.s,dJ,Rat.mkRat_self]at h5;rw [hr.s,oB.s];exact h5
   generalize fY (bO qs) (((bO qs).floor:Int):Rat)=zc at NC hcz;generalize (((bO qs).floor:Int):Rat)=fr at kV NC;generalize decide ((bO qs).floor<0)=sF at CK qd;generalize (bO qs).floor.natAbs=nF at CK qd;obtain ⟨F,hF⟩: ∃F,F=(bO qs).floor:=⟨_,rfl⟩;rw [<-hF]at kV qd SM hF2;have Zh:=af Zg;have R3:=af CK;have qm:=af kV;have El:=af qd;have YQ:=af NC;have HF:=af hF
   clear Zg CK kV qd NC hF Uz hsd AZ;go_wp2_with fail
   refine (Zh.o _ hE).mono ?_;intro e w2 hN;obtain ⟨r2,rfl,hr2,x2⟩:=hN.jR;clear hN;go_upto_region 9 with fail
   obtain ⟨W3,hW3,x3,Z3,A3⟩:=bS w2 63 [.bool r2.s,.slice r2.a r2.k r2.c,.slice r2.b r2.j r2.d];rw [<-hW3];clear hW3;obtain ⟨k0,k1,k2,-,-,-⟩:=aA A3 ah;go_wp2_with fail
   refine (R3.o _ _ _ (hr2.ext x3)).mono ?_;rintro e w4 ⟨a4,c4,rfl,r4,f4,x4⟩;go_wp2_with fail
   refine (El.o _ _ _ r4).mono ?_;rintro e w5 ⟨rfl,x5⟩;clear k0 k1 k2 r4 f4;have y5:Ext W3 w5:=x4.trans x5;go_wp2_with fail
   have hk:=aA A3 y5.drew;obtain ⟨k0,k1,k2,-,-,-⟩:=hk;have hk:w5.drew.cell? ⟨w2.heap.size,0,none⟩=some (.bool r2.s)/\w5.drew.cell? ⟨w2.heap.size,1,none⟩=some (.slice r2.a r2.k r2.c)/\w5.drew.cell? ⟨w2.heap.size,2,none⟩=some (.slice r2.b r2.j r2.d):=⟨k0,k1,k2⟩;clear k0 k1 k2
   go_region_held3 (λw'=>w'.cell? ⟨w2.heap.size,0,none⟩=some (.bool r2.s)/\w'.cell? ⟨w2.heap.size,1,none⟩=some (.slice r2.a r2.k r2.c)/\w'.cell? ⟨w2.heap.size,2,none⟩=some (.slice r2.b r2.j r2.d)) (exact hk) (first
    |(go_at_call 16;refine (qm.o _).mono ?_;intro e w6 hN;obtain ⟨r6,rfl,C_,x6⟩:=hN.jR;clear hN;have y6:Ext W3 w6:=y5.drew.trans x6;have hk:w6.cell? ⟨w2.heap.size,0,none⟩=some (.bool r2.s)/\w6.cell? ⟨w2.heap.size,1,none⟩=some (.slice r2.a r2.k r2.c)/\w6.cell? ⟨w2.heap.size,2,none⟩=some (.slice r2.b r2.j r2.d):=(by obtain ⟨q0,q1,q2,-,-,-⟩:=aA A3 y6;exact ⟨q0,q1,q2⟩))
    |(go_at_call 20;refine (YQ.o _ _ _ _ _ (hr2.ext (x3.trans y6)) C_).mono ?_;rintro e w7 ⟨rfl,x7⟩;have y7:Ext W3 w7:=y6.trans x7;have hk:w7.cell? ⟨w2.heap.size,0,none⟩=some (.bool r2.s)/\w7.cell? ⟨w2.heap.size,1,none⟩=some (.slice r2.a r2.k r2.c)/\w7.cell? ⟨w2.heap.size,2,none⟩=some (.slice r2.b r2.j r2.d):=(by obtain ⟨q0,q1,q2,-,-,-⟩:=aA A3 y7;exact ⟨q0,q1,q2⟩)))
   have xE:Ext w w7:=((hE.trans x2).trans x3).trans y7;clear hk Zh R3 qm El YQ A3 hr2 C_ x2 x3 x4 x5 x6 x7 y5 y6 y7;have adD:=LS rs.length hn;have adE:=LU rs.length hn;go_wp2_with fail
   go_cut [8,9] (λs8 s9 wx=> ∃(bw bp:Nat),s8= .slice (some ⟨bw,0,none⟩) rs.length rs.length/\s9= .slice (some ⟨bp,0,none⟩) rs.length rs.length/\w7.heap.size<=bw/\w7.heap.size<=bp/\bw≠bp/\aY wx bw 3 (List.replicate rs.length (Value.int .i64 0))/\aY wx bp 63 (fh rs.length)/\Ext w7 wx)
   case first=>
    go_region
    all_goals go_wp2_with fail
    all_goals go_meet
    all_goals rw [<-List.toArray_replicate]
    .obtain ⟨q1,q2,q3⟩:=AR w7 3 63 (List.replicate rs.length (Value.int .i64 0)) (fh rs.length)
     exact ⟨_,_,rfl,rfl,cG,Nat.le_succ _,ae,q1,q2,q3⟩
    .obtain ⟨q1,q2,q3⟩:=AR w7 63 3 (fh rs.length) (List.replicate rs.length (Value.int .i64 0))
     exact ⟨_,_,rfl,rfl,Nat.le_succ _,cG,ae,q2,q1,q3⟩
   case rest=>
    obtain ⟨bw,bp,rfl,rfl,ow,op,Zi,aW,aP,xc⟩:=hcut;clear adD adE;have xC:Ext w wc:=xE.trans xc;have sE:=xE.size;have lw:=aW.lt;have lp:=aP.lt;obtain ⟨BB,H7⟩: ∃BB,BB=wc.heap.size:=⟨_,rfl⟩;have NW:=h.len;have SI:Hid (VW w (qs.map Rat.floor) (cR qs) rs.length bw bp BB 0 wc):=⟨[],rfl,bm,by rw [List.take_zero,List.nil_append,Nat.sub_zero,<-ud];exact aW,by exact aP,λk hk=>absurd hk (Nat.not_lt_zero _),xC,ae⟩;have o1:bw<BB:=ae;have o2:bp<BB:=ae;have hfb: ∀i (hi:i<qs.length),-281474976710656<=qs[i].floor/\qs[i].floor<=281474976710656:=λi hi=>kj (hall i (by rw [<-NW];exact hi));have Qu:=af hfb;have ED:=af NW;clear aW aP xc H7 lw lp hfb NW;go_wp2
    go_loopw [6,10] (λtt ii wr=> ∃i:Nat,VW w (qs.map Rat.floor) (cR qs) rs.length bw bp BB i wr/\tt= .int .i64 (F-gN ((qs.map Rat.floor).take i))/\ii= .int .i64 i) (λ_ ii _=>rs.length-(intOf ii).toNat)
    case atStart=>exact ⟨0,SI.o,by simp [gN],rfl⟩
    case round=>
     obtain ⟨i,hAt,rfl,rfl⟩:=hrel;obtain ⟨gP,M7,hi,aW,aG,bJ,hx,hBw⟩:=hAt;obtain ⟨b1,b2⟩:=qB qs (λk hk=>Qu.o k hk) i (by rw [ED.o];exact hn);by_cases hlt:i<rs.length
     .have gu:i<qs.length:=by rw [ED.o];exact hlt
      obtain ⟨b,o,rfl⟩:=h.at ae;obtain ⟨b',o',e',c0,c1,c2⟩:=h.cell i hlt;cases e'
      obtain ⟨nn,mm,g1,g2,gq,N9,N_⟩:=h.num i hlt;obtain ⟨ks1,ks2⟩:=hK i hlt;obtain ⟨fb1,fb2⟩:=Qu.o i gu;have CK:=λV (hV:Ext w V)=>FI V rs[i].s _ _ _ _ _ _ _ _ (g1.ext hV) (g2.ext hV) ae ae
      have TJ: ∀V,Ext w V-> ∀(r:bE) (B:Nat),dO V r (((qs[i]'gu).floor:Int):Rat) B->r.k<200000->r.j<200000->Calls prog 49 #[.agg #[.bool rs[i].s,.slice rs[i].a rs[i].k rs[i].c,.slice rs[i].b rs[i].j rs[i].d],.agg #[.bool r.s,.slice r.a r.k r.c,.slice r.b r.j r.d]] V (bD ((qs[i]'gu)-(((qs[i]'gu).floor:Int):Rat)) V):=by
       intro V hV r B hr k1 k2;have h5:=IK V rs[i].s _ _ _ _ _ _ _ _ (g1.ext hV) (g2.ext hV) r.s _ _ _ _ _ _ _ _ hr.num hr.den ae ae ae ae;rw [<-gq,hr.s,dJ,Rat.mkRat_self]at h5;rw [hr.s];exact h5
      rw [<-gq]at CK
      have qd: ∀V a c,Raw V a (len (qs[i]'gu).floor.natAbs) c (qs[i]'gu).floor.natAbs->Calls prog 155 #[.agg #[.bool (decide ((qs[i]'gu).floor<0)),.slice a (len (qs[i]'gu).floor.natAbs) c]] V λe w'=>e= .returned (.tuple #[.int .i64 (qs[i]'gu).floor,.bool true])/\Ext V w':=by
       intro V a c hV;have h5:=Fv V (decide ((qs[i]'gu).floor<0)) a _ c _ hV (by rw [df];omega) (by rw [df];omega);rw [df]at h5;exact h5
      have hFI:=λV=>kf V (qs[i]'gu).floor ae ae;have AZ:dW (((qs[i]'gu).floor:Int):Rat)<=2:=by rw [gi];have:=eT (z:=(qs[i]'gu).floor) ae ae;omega
      have Zj: ∀V,Ext w V->Calls prog 156 #[.agg #[.bool rs[i].s,.slice rs[i].a rs[i].k rs[i].c,.slice rs[i].b rs[i].j rs[i].d]] V (eJ (decide ((qs[i]'gu).floor<0)) (qs[i]'gu).floor.natAbs V):=λV hV=>(CK V hV).mono (λ_ _ hh=>hh.intOf);have qm:Hid ((cR qs)[i]?.getD 0=(qs[i]'gu)-(((qs[i]'gu).floor:Int):Rat)):=af (wQ qs i gu);have hSu:Hid (gN ((qs.map Rat.floor).take (i+1))=gN ((qs.map Rat.floor).take i)+(qs[i]'gu).floor):=af (GW gu);have HT:Hid ((qs.map Rat.floor).take (i+1)=(qs.map Rat.floor).take i++ [(qs[i]'gu).floor]):=af (by rw [List.take_succ_eq_append_getElem (by simpa using gu),List.getElem_map]);have QJ:Hid (((qs.map Rat.floor).take i).length=i):=af (by rw [List.length_take,List.length_map];omega);clear CK gq;generalize (qs[i]'gu)-(((qs[i]'gu).floor:Int):Rat)=f at*;generalize (((qs[i]'gu).floor:Int):Rat)=zr at*;generalize decide ((qs[i]'gu).floor<0)=sf at*;generalize (qs[i]'gu).floor.natAbs=nf at*;generalize (qs[i]'gu).floor=z at*;generalize rs[i]=y at*;generalize gN ((qs.map Rat.floor).take i)=su at*;have R3:=af Zj;have HSub:=af TJ;have El:=af qd;have PO:=af hFI
      clear Zj TJ qd hFI g1 g2 N9 N_;have mn:(0:Int)<=(i:Int):=ae;have mq:(i:Int)<(rs.length:Int):=ae;have zb:b<w.heap.size:=eH c0;have c0':=aB hx c0;have c1':=aB hx c1;have c2':=aB hx c2;obtain ⟨m,hm⟩: ∃m,rs.length-i=m+1:=⟨rs.length-i-1,ae⟩;have ZT:Hid (rs.length-(i+1)=m):=af ae;rw [hm]at aW aG;clear hm;go_wp2_with fail
      refine (R3.o _ hx).mono ?_;rintro e w7' ⟨a7,c7,rfl,r7,f7,x7⟩;clear c0' c1' c2';go_wp2_with fail
      refine (El.o _ _ _ r7).mono ?_;rintro e w8 ⟨rfl,x8⟩;clear r7 f7;have u8:Ext wr w8:=x7.trans x8;have aW8:=aW.ext u8
      have q0:w8.cell? ⟨bw,i,none⟩=some (.int .i64 0):=by
       rw [aW8.cell,kB _ _ (by rw [List.length_append,QJ.o];simp)];rw [List.getElem_append_right (by rw [QJ.o];exact cG)];simp
      have q1:=aW8.frozen i;go_wp2_with fail
      have C1:aY (w8.setCell ⟨bw,i,none⟩ (.int .i64 z)) bw 3 (ju ((qs.map Rat.floor).take (i+1)++List.replicate m 0)):=by
       have h5:=aW8.set i (.int .i64 z);have h6:=vQ ((qs.map Rat.floor).take i) m z;rw [QJ.o]at h6;rw [h6]at h5;rw [HT.o];exact h5
      have C2:aY (w8.setCell ⟨bw,i,none⟩ (.int .i64 z)) bp 63 (bX gP++fh (m+1)):=(aG.ext u8).other _ _ (by simp only;exact Zi);have C3:=λk hk=>((bJ k hk).ext u8).setCell ⟨bw,i,none⟩ (.int .i64 z) (by simp only;omega);have C4:Ext w (w8.setCell ⟨bw,i,none⟩ (.int .i64 z)):=(hx.trans u8).setCell (by simp only;omega) _;have C5:BB<=(w8.setCell ⟨bw,i,none⟩ (.int .i64 z)).heap.size:=by have:=u8.size;simp [World.setCell];omega
      generalize hX:w8.setCell ⟨bw,i,none⟩ (.int .i64 z)=X at*;clear hX q0 q1 aW8 aW aG bJ u8 x7 x8 hx
      have cz:X.cell? ⟨bw,i,none⟩=some (.int .i64 z):=by
       rw [C1.cell,kB _ _ (by rw [HT.o,List.length_append,List.length_append,QJ.o];simp;omega)];congr 2
       rw [List.getElem_append_left (by rw [HT.o,List.length_append,QJ.o];simp)]
       have: ∀(A:List Int) (hA:A=(qs.map Rat.floor).take i++ [z]) (hl:i<A.length),A[i]=z:=by
        intro A hA hl;subst hA;rw [List.getElem_append_right (by rw [QJ.o];exact cG)];simp [QJ.o]
       exact this _ HT.o _
      have KY:=λV (e:Ext X V)=>And.intro (aB (C4.trans e) c0) (And.intro (aB (C4.trans e) c1) (And.intro (aB (C4.trans e) c2) (aB e cz)));refine zG 13 (λw=>Ext X w) (Ext.refl X).drew λs=> ?_;generalize X.drew=Y at*;refine zV 0 s ?_;refine zV 1 s ?_;refine zV 2 s ?_;refine zV 3 s ?_;refine zV 4 s ?_;refine zV 5 s ?_;refine zV 6 s ?_;refine zV 7 s ?_;refine zV 8 s ?_;refine zV 9 s ?_;refine zR 10 λK' hK=> ?_;rw [if_pos bQ];go_simp;refine (PO.o _).mono ?_;intro e w9 hN;obtain ⟨r9,rfl,Nl,x9⟩:=hN.jR;refine hK.o _ _ (s.trans x9) λs=> ?_;clear hN hK K';refine zR 11 λK' hK=> ?_;rw [if_pos bQ];go_simp;refine (HSub.o _ (C4.trans s) _ _ Nl (Nat.lt_of_le_of_lt (Nl.short AZ).1 ai) (Nat.lt_of_le_of_lt (Nl.short AZ).2 ai)).mono ?_;intro e xZ hN;obtain ⟨zE,rfl,LD,Qo⟩:=hN.jR;have su9:=s.size;refine hK.o _ _ (s.trans Qo) λu10=> ?_;clear hN hK K' s;refine zV 12 u10 ?_;obtain ⟨p0,p1,p2,p3,p4,p5⟩:=K_ (C2.ext u10) (by rw [eu,M7]);refine zL 13 λK' hK=> ?_;rw [if_pos bQ];go_simp;refine hK.o _ _ ?_;have D1:=CP (C2.ext u10) i zE;have h6:=Tt (bX gP) m (.bool zE.s) (.slice zE.a zE.k zE.c) (.slice zE.b zE.j zE.d);rw [eu,M7]at h6;rw [h6]at D1;replace D1:aY (qC xZ bp i zE) bp 63 (bX (gP++ [zE])++fh m):=by rw [oH];exact D1
      have D2:=xP (C1.ext u10) (Ne.symm Zi) i zE;have D3:=λk hk=>tk ((C3 k hk).ext u10) o2 i zE;have D4:=tk (LD.mono (show BB<=w9.heap.size by omega)) o2 i zE;have D5:=CQ (C4.trans u10) (show w.heap.size<=bp by omega) i zE;have D6:BB<=(qC xZ bp i zE).heap.size:=by rw [AV];have:=u10.size;omega
      have D7:=JM (aB u10 cz) Zi i zE;unfold qC at D1 D2 D3 D4 D5 D6 D7;generalize World.setCell (World.setCell (World.setCell xZ _ _) _ _) _ _=Y at D1 D2 D3 D4 D5 D6 D7⊢;clear hK K' p0 p1 p2 p3 p4 p5 C1 C2 C3 C4 C5 cz KY h6
      have HD:Hid (VW w (qs.map Rat.floor) (cR qs) rs.length bw bp BB (i+1) Y):=by
       refine ⟨gP++ [zE],by simp [M7],ae,by rw [ZT.o];exact D2,by rw [ZT.o];exact D1,?_,D5,D6⟩;intro k hk;by_cases TR:k<gP.length
       .rw [List.getElem_append_left TR];exact D3 k TR
       .have qJ:k=i:=by simp at hk;omega
        subst qJ;rw [List.getElem_append_right ae];simp only [M7,Nat.sub_self,List.getElem_cons_zero];rw [qm.o];exact D4
      clear D1 D2 D3 D4 D5 D6 LD Nl;go_wp2_with fail
      go_roundw
      case rel=>exact ⟨i+1,HD.o,by rw [hSu.o];go_num,bq⟩
      case measure=>simp [intOf]<;>omega
     .obtain rfl:i=rs.length:=ae
      rw [List.take_of_length_le (by rw [List.length_map,ED.o];exact cG)]at aW b1 b2;rw [List.take_of_length_le (show(qs.map Rat.floor).length<=rs.length by rw [List.length_map,ED.o];exact cG)];rw [Nat.sub_self]at aW aG;obtain ⟨M,hM⟩: ∃M:Nat,F-gN (qs.map Rat.floor)=(M:Int):=⟨(F-gN (qs.map Rat.floor)).toNat,ux HF.o HM0.o⟩;have hMn:M<=rs.length:=ux HF.o UA.o;have Tn:Hid (M=((bO qs).floor-gN (qs.map Rat.floor)).toNat):=af (dB HF.o);rw [hM];clear hM b1 b2
      have hfr: ∀k,k<rs.length->dW ((cR qs)[k]?.getD 0)<=1005:=by
       intro k hk;have La:k<qs.length:=by rw [ED.o];exact hk
       rw [wQ qs k La];obtain ⟨f1,f2⟩:=Qu.o k La;have h1:dW ((qs[k].floor:Int):Rat)<=2:=by rw [gi];have:=eT (z:=qs[k].floor) ae ae;omega
       have h2:=od qs[k] ((qs[k].floor:Int):Rat);have h3:=(h.num k hk).dW;omega
      have hnn: ∀k:Nat,(0:Rat)<=(cR qs)[k]?.getD 0:=Ha qs;have hfl:(qs.map Rat.floor).length=rs.length:=by rw [List.length_map,ED.o]
      have hob: ∀t,t<=rs.length-> ∀k,k<rs.length-> -281474976710656<=(dZ (cR qs) rs.length (qs.map Rat.floor) t)[k]?.getD 0/\(dZ (cR qs) rs.length (qs.map Rat.floor) t)[k]?.getD 0<=281474976710657:=by
       intro t ht k hk;have La:k<qs.length:=by rw [ED.o];exact hk
       have h5:=JL (cR qs) rs.length (qs.map Rat.floor) hfl t ht k hk;obtain ⟨f1,f2⟩:=Qu.o k La;rw [List.getElem?_eq_getElem (by simpa using La),Option.getD_some,List.getElem_map]at h5;omega
      have SL:Hid (PW w (cR qs) (qs.map Rat.floor) rs.length bw bp BB 0 wr):=⟨gP,M7,by simpa [dZ]using aW,by simpa [Hc]using aG,λk hk=>by rw [G'];exact bJ k hk,hx,hBw⟩;have HOB:=af hob;have SQ:=af hnn;have HFR:=af hfr;have Zk:=af hfl;clear aW aG bJ hx hBw M7 hob hnn hfr hfl SI;generalize cR qs=fs at*;generalize qs.map Rat.floor=fl at*;go_wp2
      go_loopw [6] (λtt wl=> ∃t:Nat,t<=M/\PW w fs fl rs.length bw bp BB t wl/\tt= .int .i64 ((M:Int)-(t:Int))) (λtt _=>(intOf tt).toNat)
      case atStart=>exact ⟨0,bm,SL.o,aX⟩
      case round=>
       obtain ⟨t,ht,⟨gP,hpl,aW,aG,bJ,hx,hBw⟩,rfl⟩:=hrel;obtain ⟨wl,rfl⟩: ∃wl:World,wl=wr:=⟨_,rfl⟩;by_cases htM:t<M
       .have htn:t<rs.length:=ae
        have hpz: ∀k,k<rs.length->dW (partAt fs rs.length t k)<=1005:=by
            intro k hk;by_cases hu:Up fs rs.length t k
            .rw [pC hu,gi];decide
            .rw [lJ hu];exact HFR.o k hk
        have hsg: ∀k (hk:k<gP.length) V,Ext wl V->Calls prog 21 #[.agg #[.bool gP[k].s,.slice gP[k].a gP[k].k gP[k].c,.slice gP[k].b gP[k].j gP[k].d]] V λe w'=>e= .returned (.int .i64 (partAt fs rs.length t k).num.sign)/\Ext V w':=by
            intro k hk V hV;have hc:=(bJ k hk).ext hV;have hs:=hc.short (hpz k ae);have h5:=uQ V gP[k].s _ _ _ _ _ _ _ _ hc.num hc.den ae ae;rw [hc.s,dJ,Rat.mkRat_self]at h5;rw [hc.s];exact h5
        have hcm: ∀k m (hk:k<gP.length) (hm:m<gP.length) V,Ext wl V->Calls prog 20 #[.agg #[.bool gP[k].s,.slice gP[k].a gP[k].k gP[k].c,.slice gP[k].b gP[k].j gP[k].d],.agg #[.bool gP[m].s,.slice gP[m].a gP[m].k gP[m].c,.slice gP[m].b gP[m].j gP[m].d]] V λe w'=>e= .returned (.int .i64 (fY (partAt fs rs.length t k) (partAt fs rs.length t m)))/\Ext V w':=by
            intro k m hk hm V hV;have hc:=(bJ k hk).ext hV;have hc':=(bJ m hm).ext hV;have hs:=hc.short (hpz k ae);have hs':=hc'.short (hpz m ae);have h5:=pL V gP[k].s _ _ _ _ _ _ _ _ hc.num hc.den gP[m].s _ _ _ _ _ _ _ _ hc'.num hc'.den ae ae ae ae;rw [hc.s,dJ,Rat.mkRat_self,hc'.s,dJ,Rat.mkRat_self]at h5;rw [hc.s,hc'.s];exact h5
        have UM: ∀k (hk:k<gP.length) V,Ext wl V->V.cell? ⟨bp,k*3,none⟩=some (.bool gP[k].s)/\V.cell? ⟨bp,k*3+1,none⟩=some (.slice gP[k].a gP[k].k gP[k].c)/\V.cell? ⟨bp,k*3+2,none⟩=some (.slice gP[k].b gP[k].j gP[k].d):=by
            intro k hk V hV;have aV:=aG.ext hV;refine ⟨?_,?_,?_⟩
            .rw [aV.cell];exact dz gP k 0 hk ai
            .rw [aV.cell];exact dz gP k 1 hk ai
            .rw [aV.cell];exact dz gP k 2 hk ai
        have HSG:=af hsg;have HCM:=af hcm;have WB:=af UM
        have uW:=af hpl;clear hsg hcm UM hpz hpl;go_wp2
        go_loopw [11,12] (λbb kk wq=> ∃(k:Nat) (bI:Int),k<=rs.length/\lI fs rs.length t k bI/\Ext wl wq/\bb= .int .i64 bI/\kk= .int .i64 k) (λ_ kk _=>rs.length-(intOf kk).toNat)
        case atStart=>exact ⟨0,-1,bm,JH _ _ _,ah,rfl,rfl⟩
        case round=>
            obtain ⟨k,bI,hk,hB,hY,rfl,rfl⟩:=hrel;obtain ⟨wq,rfl⟩: ∃wq:World,wq=wr:=⟨_,rfl⟩;by_cases hlk:k<rs.length
            .have XY:k<gP.length:=by rw [uW.o];exact hlk
             have xq:=af (HSG.o k XY);have Wn:(0:Int)<=(k:Int):=ae;have Wo:(k:Int)<(rs.length:Int):=ae;have zm:=af (HCM.o k);have KK:=WB.o k XY;by_cases hu:Up fs rs.length t k
             .have tz:decide ((0:Int)<=(partAt fs rs.length t k).num.sign)=false:=by rw [pC hu];exact JK
              have VX:=af (M0 hu hB);generalize (partAt fs rs.length t k).num.sign=sg at xq tz;generalize gP[k]=y at xq KK;clear zm;go_wp2_with fail
              refine wG (λw=>Ext wl w) hY.drew λs=> ?_;generalize wq.drew=Y at*;refine wV 0 s ?_;refine wV 1 s ?_;refine wV 2 s ?_;refine wV 3 s ?_;refine wR 4 λK' hK=> ?_;rw [if_pos bQ];go_simp;refine (xq.o _ s).mono ?_;rintro e w1 ⟨rfl,x1⟩;refine hK.o _ _ (s.trans x1) λs=> ?_;clear hK K' x1;refine wV 5 s ?_;refine wV 6 s ?_;refine wN 7 s ?_;refine wN 8 s ?_;refine wN 9 s ?_;refine wN 10 s ?_;refine wN 11 s ?_;refine wN 12 s ?_;refine wN 13 s ?_;refine wN 14 s ?_;refine wN 15 s ?_;refine wN 16 s ?_;refine wN 17 s ?_;refine wN 18 s ?_;refine wN 19 s ?_;refine wN 20 s ?_;refine wV 21 s ?_;refine wD ?_;go_wp2
              exact ⟨⟨k+1,bI,ae,VX.o,s,rfl,bq⟩,bz⟩
             .have tz:decide ((0:Int)<=(partAt fs rs.length t k).num.sign)=true:=by rw [lJ hu];exact Hb (SQ.o k)
              rcases id hB with⟨rfl,_⟩|⟨m,rfl,hmk,hmu,_⟩
              .have VX:=af (JI hu hB)
               generalize (partAt fs rs.length t k).num.sign=sg at xq tz;generalize gP[k]=y at xq KK;clear zm;go_wp2_with fail
               refine wG (λw=>Ext wl w) hY.drew λs=> ?_;generalize wq.drew=Y at*;refine wV 0 s ?_;refine wV 1 s ?_;refine wV 2 s ?_;refine wV 3 s ?_;refine wR 4 λK' hK=> ?_;rw [if_pos bQ];go_simp;refine (xq.o _ s).mono ?_;rintro e w1 ⟨rfl,x1⟩;refine hK.o _ _ (s.trans x1) λs=> ?_;clear hK K' x1;refine wV 5 s ?_;refine wV 6 s ?_;refine wV 7 s ?_;refine wV 8 s ?_;refine wV 9 s ?_;refine wN 10 s ?_;refine wN 11 s ?_;refine wN 12 s ?_;refine wN 13 s ?_;refine wN 14 s ?_;refine wN 15 s ?_;refine wN 16 s ?_;refine wN 17 s ?_;refine wN 18 s ?_;refine wN 19 s ?_;refine wV 20 s ?_;refine wV 21 s ?_;refine wD ?_;go_wp2
               exact ⟨⟨k+1,(k:Int),ae,VX.o,s,rfl,bq⟩,bz⟩
              .have hmp:m<gP.length:=by rw [uW.o];omega
               have Fe:=af (zm.o m XY hmp);have KM:=WB.o m hmp
               have HCT:Hid (((0:Int)<fY (partAt fs rs.length t k) (partAt fs rs.length t m)/\lI fs rs.length t (k+1) (k:Int))\/(¬(0:Int)<fY (partAt fs rs.length t k) (partAt fs rs.length t m)/\lI fs rs.length t (k+1) (m:Int))):=by
                show _\/_;rw [lJ hu,lJ hmu];by_cases hl:fs[m]?.getD 0<fs[k]?.getD 0
                .exact Or.inl ⟨uL.2 hl,M4 hu hB hl⟩
                .exact Or.inr ⟨λhh=>hl (uL.1 hh),M5 hB hl⟩
               generalize fY (partAt fs rs.length t k) (partAt fs rs.length t m)=ct at Fe HCT;generalize (partAt fs rs.length t k).num.sign=sg at xq tz;clear zm;generalize gP[k]=y at xq KK Fe;generalize gP[m]=y' at KM Fe;have bm0:(0:Int)<=(m:Int):=ae;have bm1:(m:Int)<(rs.length:Int):=ae;have bm2:decide ((m:Int)<0)=false:=aX;go_wp2_with fail
               refine wG (λw=>Ext wl w) hY.drew λs=> ?_;generalize wq.drew=Y at*;refine wV 0 s ?_;refine wV 1 s ?_;refine wV 2 s ?_;refine wV 3 s ?_;refine wR 4 λK' hK=> ?_;rw [if_pos bQ];go_simp;refine (xq.o _ s).mono ?_;rintro e w1 ⟨rfl,x1⟩;refine hK.o _ _ (s.trans x1) λs=> ?_;clear hK K' x1;refine wV 5 s ?_;refine wV 6 s ?_;refine wV 7 s ?_;refine wV 8 s ?_;refine wV 9 s ?_;refine wV 10 s ?_;refine wV 11 s ?_;refine wV 12 s ?_;refine wV 13 s ?_;refine wV 14 s ?_;refine wV 15 s ?_;refine wV 16 s ?_;refine wV 17 s ?_;refine wR 18 λK' hK=> ?_;rw [if_pos bQ];go_simp;refine (Fe.o _ s).mono ?_;rintro e w2 ⟨rfl,x1⟩;refine hK.o _ _ (s.trans x1) λs=> ?_;clear hK K' x1;refine wV 19 s ?_;refine wV 20 s ?_;refine wV 21 s ?_;refine wD ?_;rcases HCT.o with⟨z1,hb⟩|⟨z1,hb⟩
               .have VX:=af hb
                clear hb;go_wp2
                exact ⟨⟨k+1,(k:Int),ae,VX.o,s,rfl,bq⟩,bz⟩
               .have VX:=af hb
                clear hb;go_wp2
                exact ⟨⟨k+1,(m:Int),ae,VX.o,s,rfl,bq⟩,bz⟩
            .obtain rfl:k=rs.length:=ae
             obtain rfl:=PT htn hB;have Tr:=oy fs rs.length t htn;have hbp:fj fs rs.length t<gP.length:=by rw [uW.o];exact Tr
             obtain ⟨vb1,vb2⟩:=HOB.o t ae _ Tr;have gu:(dZ fs rs.length fl t).length=rs.length:=by rw [kQ,Zk.o]
             have aWq:=aW.ext hY
             have q0:wq.cell? ⟨bw,fj fs rs.length t,none⟩=some (.int .i64 ((dZ fs rs.length fl t)[fj fs rs.length t]?.getD 0)):=by
              rw [aWq.cell,kB _ _ (by rw [gu];exact Tr),List.getElem?_eq_getElem (by rw [gu];exact Tr)];rfl
             have q1:=aWq.frozen (fj fs rs.length t);have WW:Hid (dZ fs rs.length fl (t+1)=(dZ fs rs.length fl t).set (fj fs rs.length t) ((dZ fs rs.length fl t)[fj fs rs.length t]?.getD 0+1)):=af rfl;have adF:Hid (∀v:Int,(ju (dZ fs rs.length fl t)).set (fj fs rs.length t) (.int .i64 v)=ju ((dZ fs rs.length fl t).set (fj fs rs.length t) v)):=af (λv=>by simp [ju,List.map_set]);have YJ:Hid (∀k,partAt fs rs.length (t+1) k=if fj fs rs.length t=k then((-1:Int):Rat)else partAt fs rs.length t k):=af (λk=>JJ fs rs.length t k);have UA:Hid (∀V,Calls prog 16 #[.int .i64 (-1)] V (bD ((-1:Int):Rat) V)):=af (λV=>kf V (-1) ai ai);generalize (dZ fs rs.length fl t)[fj fs rs.length t]?.getD 0=v at*;have HBS:Hid (fj fs rs.length t=fj fs rs.length t):=af rfl;generalize hbb:fj fs rs.length t=bs at*;have bb0:(0:Int)<=(bs:Int):=ae;have bb1:(bs:Int)<(rs.length:Int):=ae;clear hbb hB HBS gu;have aGq:=aG.ext hY;have hcq:=λk hk=>(bJ k hk).ext hY;have Ul:=hx.trans hY;have Wk:=hY.size;go_wp2_with fail
             have C1:aY (wq.setCell ⟨bw,bs,none⟩ (.int .i64 (v+1))) bw 3 (ju (dZ fs rs.length fl (t+1))):=by
              have h5:=aWq.set bs (.int .i64 (v+1));rw [adF.o,<-WW.o]at h5;exact h5
             have C2:aY (wq.setCell ⟨bw,bs,none⟩ (.int .i64 (v+1))) bp 63 (bX gP):=aGq.other _ _ (by simp only;exact Zi);have C3:=λk hk=>(hcq k hk).setCell ⟨bw,bs,none⟩ (.int .i64 (v+1)) (by simp only;omega);have C4:Ext w (wq.setCell ⟨bw,bs,none⟩ (.int .i64 (v+1))):=Ul.setCell (by simp only;omega) _;have C5:BB<=(wq.setCell ⟨bw,bs,none⟩ (.int .i64 (v+1))).heap.size:=by simp [World.setCell];omega
             generalize hX:wq.setCell ⟨bw,bs,none⟩ (.int .i64 (v+1))=X at*;clear hX q0 q1 aWq aGq hcq Ul aW aG bJ hx HSG HCM WB;refine (UA.o _).mono ?_;intro e Zl hN;obtain ⟨r5,rfl,BZ,x5⟩:=hN.jR;clear hN;have D0:=C2.ext x5;have n0:Zl.cell? ⟨bp,bs*3,none⟩=some (.bool gP[bs].s):=by rw [D0.cell];exact dz gP bs 0 hbp ai
             have n1:Zl.cell? ⟨bp,bs*3+1,none⟩=some (.slice gP[bs].a gP[bs].k gP[bs].c):=by rw [D0.cell];exact dz gP bs 1 hbp ai
             have n2:Zl.cell? ⟨bp,bs*3+2,none⟩=some (.slice gP[bs].b gP[bs].j gP[bs].d):=by rw [D0.cell];exact dz gP bs 2 hbp ai
             have n3:=D0.frozen (bs*3);have n4:=D0.frozen (bs*3+1);have n5:=D0.frozen (bs*3+2);go_wp2_with fail
             have sx5:=x5.size;have D1:=CP D0 bs r5;rw [Ez gP bs r5 hbp]at D1;have D2:=xP (C1.ext x5) (Ne.symm Zi) bs r5;have D3:=λk hk=>tk ((C3 k hk).ext x5) o2 bs r5;have D4:=tk (BZ.mono C5) o2 bs r5;have D5:=CQ (C4.trans x5) (show w.heap.size<=bp by omega) bs r5;have D6:BB<=(qC Zl bp bs r5).heap.size:=by rw [AV];omega
             have HD:PW w fs fl rs.length bw bp BB (t+1) (qC Zl bp bs r5):=by
              refine ⟨gP.set bs r5,by rw [List.length_set,uW.o],D2,D1,?_,D5,D6⟩;intro k hk;have qJ:k<gP.length:=by simpa using hk
              rw [YJ.o,List.getElem_set];by_cases he:bs=k
              .rw [if_pos he,if_pos he];exact D4
              .rw [if_neg he,if_neg he];exact D3 k qJ
             exact ⟨⟨t+1,ae,HD,bq⟩,bz⟩
       .obtain rfl:t=M:=ae
        have hze:((t:Int)-(t:Int))=0:=ae;rw [hze];clear hze;go_wp2_with fail
        go_ret2
        have ho:out=dZ fs rs.length fl t:=by rw [VF.o,<-Tn.o]
        refine ⟨bw,?_,ae,by rw [ho];exact aW,hx⟩;rw [ho,kQ,Zk.o];rfl
theorem CR (qs:List Rat) (h: ∃q∈qs,¬my q): ∃j,∃hj:j<qs.length,¬my qs[j]/\ ∀i (hi:i<j),my (qs[i]'(by omega)):=by
 induction qs with
 |nil=>obtain ⟨q,hq,_⟩:=h;simp at hq
 |cons a l ih=>
  by_cases ha:my a
  .obtain ⟨q,hq,hb⟩:=h
   rcases List.mem_cons.1 hq with rfl|hq
   .exact absurd ha hb
   .obtain ⟨j,hj,h1,h2⟩:=ih ⟨q,hq,hb⟩
    refine ⟨j+1,by simpa using hj,h1,?_⟩;intro i hi;cases i with
    |zero=>exact ha
    |succ i=>exact h2 i ae
  .exact ⟨0,aX,ha,λi hi=>absurd hi (Nat.not_lt_zero _)⟩
structure VY (qs:List Rat):Prop where
 lo: -72057594037927936<=(bO qs).floor
 hi:(bO qs).floor<=72057594037927936
 m0:gN (qs.map Rat.floor)<=(bO qs).floor
 m1:(bO qs).floor<=gN (qs.map Rat.floor)+qs.length
theorem Sl (qs:List Rat) (hn:qs.length<=128) (hall: ∀q∈qs,my q):VY qs:=by
 have hb:=xN qs qs.length cG;rw [List.take_of_length_le aX,List.take_length]at hb;have LA:gN (qs.map Rat.floor)<=(bO qs).floor:=by rw [Rat.le_floor_iff];exact hb.1
 have qN:(bO qs).floor<=gN (qs.map Rat.floor)+qs.length:=by
  have h1:(((bO qs).floor:Int):Rat)<=((gN (qs.map Rat.floor)+qs.length:Int):Rat):=Rat.le_trans (Rat.floor_le _) hb.2;exact Rat.intCast_le_intCast.1 h1
 have h2:=qB qs (λi hi=>kj (hall _ (List.getElem_mem hi))) qs.length hn;rw [List.take_of_length_le aX]at h2;exact ⟨ae,ae,LA,qN⟩
