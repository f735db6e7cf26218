/- Texts of the proof. -/
import Derived.Test.YtfokdakioeoniaaGreatCj19
set_option linter.all false
set_option maxHeartbeats 4000000
set_option maxRecDepth 100000
namespace Go.Proofs.YtfokdakioeoniaaGreat
open Go.Proofs.Tryz
open Go.RowKit
theorem gJ {p q:Rat} (h:p<=q):decide ((0:Int)<fY p q)=false:=by
 rw [decide_eq_false_iff_not,uL];exact Rat.not_lt.2 h
theorem oI {p q:Rat} (h: ¬p<=q):decide ((0:Int)<fY p q)=true:=by
 rw [decide_eq_true_iff,uL];exact Rat.not_le.1 h
theorem kj {q:Rat} (h:my q): -281474976710656<=q.floor/\q.floor<=281474976710656:=by
 obtain ⟨h1,h2⟩:=h;unfold eU at h1 h2;constructor
 .rw [Rat.le_floor_iff]
  grind
 .have h3:=Rat.floor_le q
  have h4:((q.floor:Int):Rat)<=((281474976710656:Int):Rat):=by grind
  exact Rat.intCast_le_intCast.1 h4
theorem uj (l:List Int) (M:Int) (h: ∀x∈l,-M<=x/\x<=M): -((l.length:Int)*M)<=gN l/\gN l<=(l.length:Int)*M:=by
 unfold gN;induction l with
 |nil=>simp
 |cons x l ih=>
  have h1:=h x (List.mem_cons_self ..);have h2:=ih (λy hy=>h y (List.mem_cons_of_mem _ hy));simp only [List.sum_cons,List.length_cons,Int.natCast_add,Int.add_mul];omega
theorem K_ {w:World} {b m x:Nat} {T:TypeId} {A:List Value} (h:aY w b T (A++fh (m+1))) (hA:A.length=x*3):
 w.cell? ⟨b,x*3,none⟩=some (.bool false)/\w.cell? ⟨b,x*3+1,none⟩=some (.slice none 0 0)/\w.cell? ⟨b,x*3+2,none⟩=some (.slice none 0 0)/\w.frozen? ⟨b,x*3,none⟩=false/\w.frozen? ⟨b,x*3+1,none⟩=false/\w.frozen? ⟨b,x*3+2,none⟩=false:=by
 have e:fh (m+1)= .bool false:: .slice none 0 0:: .slice none 0 0::fh m:=rfl;rw [e]at h;refine ⟨?_,?_,?_,h.frozen _,h.frozen _,h.frozen _⟩
 .rw [h.cell,List.getElem?_append_right ae,hA,Nat.sub_self];rfl
 .rw [h.cell,List.getElem?_append_right ae,hA,Nat.add_sub_cancel_left];rfl
 .rw [h.cell,List.getElem?_append_right ae,hA,Nat.add_sub_cancel_left];rfl
theorem kQ (fs:List Rat) (n:Nat) (l:List Int) (t:Nat):(dZ fs n l t).length=l.length:=by
 induction t with
 |zero=>rfl
 |succ t ih=>unfold dZ;rw [List.length_set];exact ih
theorem oy (fs:List Rat) (n j:Nat) (h:j<n):fj fs n j<n:=by
 unfold fj;have hl:j<(iP fs n).length:=by simpa [iP]using h
 rw [List.getElem?_eq_getElem hl];exact ((iP fs n)[j]).2
theorem GU (fs:List Rat) (n:Nat) (l:List Int) (t p:Nat) (h: ∀x∈l,-281474976710656<=x/\x<=281474976710656): -281474976710656<=(dZ fs n l t)[p]?.getD 0/\(dZ fs n l t)[p]?.getD 0<=281474976710656+t:=by
 induction t generalizing p with
 |zero=>
  unfold dZ;by_cases hp:p<l.length
  .rw [List.getElem?_eq_getElem hp]
   have:=h _ (List.getElem_mem hp);simp only [Option.getD_some];omega
  .rw [List.getElem?_eq_none ae];simp
 |succ t ih=>
  unfold dZ;rw [List.getElem?_set];split
  .split
   .have:=ih (fj fs n t);simp only [Option.getD_some];omega
   .simp;omega
  .have:=ih p;omega
def ApAt (w:World) (qs:List Rat) (n bw bg pb bo BB:Nat) (_F:Int) (i:Nat) (wr:World):Prop:=
 ∃gP:List bE,gP.length=i/\i<=n/\aY wr bw 3 (ju ((qs.map Rat.floor).take i++List.replicate (n-i) 0))/\aY wr bg 63 (bX gP++fh (n-i))/\aY wr pb 32 [.slice (some ⟨bg,0,none⟩) n n]/\
  aY wr bo 3 (ju ((List.range i).map (λk:Nat=>(k:Int))++List.replicate (n-i) 0))/\(∀k (hk:k<gP.length),dO wr gP[k] (qs[k]?.getD 0-(((qs[k]?.getD 0).floor:Int):Rat)) BB)/\Ext w wr/\BB<=wr.heap.size
theorem RY (w:World) (a:Option Addr) (c L:Nat) (rs:List bE) (qs:List Rat) (h:jV w a c rs qs L) (hn:rs.length<=128) (hL:L<100000) (hall: ∀i (hi:i<rs.length),my (qs[i]'(by rw [h.len];exact hi)))
 (SM: -72057594037927936<=(bO qs).floor) (hF2:(bO qs).floor<=72057594037927936) (hint:bO qs=(((bO qs).floor:Int):Rat)) (h0n:0<rs.length) (LA:gN (qs.map Rat.floor)<=(bO qs).floor) (qN:(bO qs).floor<=gN (qs.map Rat.floor)+rs.length) (acZ:dW (bO qs)<100000000):
 Calls prog 28 #[.slice a rs.length c] w (Dy (dZ (cR qs) rs.length (qs.map Rat.floor) ((bO qs).floor-gN (qs.map Rat.floor)).toNat) w):=by
 obtain ⟨out,hout⟩: ∃out,out=dZ (cR qs) rs.length (qs.map Rat.floor) ((bO qs).floor-gN (qs.map Rat.floor)).toNat:=⟨_,rfl⟩;rw [<-hout];have VF:=af hout;clear hout;have hle:=h.le
 have hSb:rs.length*(L+2)+L+1<100000000:=by
  have:=Nat.mul_le_mul hn (show L+2<=100002 by omega);omega
 have eI:=h.cap;have ur:=h.short;go_enter func28,ntmps28
 go_wp2_with fail
 refine (ko _ _ ai ai).mono ?_;intro e w1 hN;obtain ⟨r1,rfl,hr1,hx1⟩:=hN.jR;have lim:=hr1.lZ;clear hN;go_upto_region 4 with fail
 obtain ⟨W,hW,x0,Z0,A0⟩:=bS w1 63 [.bool r1.s,.slice r1.a r1.k r1.c,.slice r1.b r1.j r1.d];rw [<-hW];clear hW;have xW:Ext w W:=hx1.trans x0;have RZ:fI W r1 eU 2:=(lim.ext x0).mono (by show dW (((281474976710656:Int):Rat))<=2;rw [gi];decide);have hW:=h.ext xW;clear lim hr1;go_wp2
 go_loopw [23] (λii wr=> ∃j:Nat,j<=rs.length/\Ext W wr/\ii= .int .i64 j) (λii _=>rs.length-(intOf ii).toNat)
 case atStart=>exact ⟨0,bm,ah,rfl⟩
 case round=>
  obtain ⟨j,hj,hE,rfl⟩:=hrel;by_cases hlt:j<rs.length
  .have hq:=hW.ext hE
   obtain ⟨b,o,rfl⟩:=h.at ae;obtain ⟨b',o',e',c0,c1,c2⟩:=hq.cell j hlt;cases e'
   obtain ⟨n2,EM,g1,g2,gq,N9,N_⟩:=hq.num j hlt;obtain ⟨n1,m1',f1,f2,fq,ZX,ZY⟩:=RZ.ext hE;have PA:=λV (hV:Ext wr V)=>kq V rs[j].s _ _ _ _ _ _ _ _ (g1.ext hV) (g2.ext hV) r1.s _ _ _ _ _ _ _ _ (f1.ext hV) (f2.ext hV) ae ae ae ae;have MQ:=λV (hV:Ext wr V)=>(De V rs[j].s _ _ _ _ _ _ _ _ (g1.ext hV) (g2.ext hV) ae ae).mono (λ_ _ hh=>hh.mO)
   have AZ:dW (-(qs[j]'(by rw [h.len];exact hlt)))<100000000:=by
    rw [mU];have:=(hq.num j hlt).dW;omega
   have GV: ∀V a1 c1 b1 d1,Ext wr V->Raw V a1 (len (-(mkRat (bf rs[j].s n2) EM)).num.natAbs) c1 (-(mkRat (bf rs[j].s n2) EM)).num.natAbs->Raw V b1 (len (-(mkRat (bf rs[j].s n2) EM)).den) d1 (-(mkRat (bf rs[j].s n2) EM)).den->Calls prog 62 #[.agg #[.bool (decide ((-(mkRat (bf rs[j].s n2) EM)).num<0)),.slice a1 (len (-(mkRat (bf rs[j].s n2) EM)).num.natAbs) c1,.slice b1 (len (-(mkRat (bf rs[j].s n2) EM)).den) d1],.agg #[.bool r1.s,.slice r1.a r1.k r1.c,.slice r1.b r1.j r1.d]] V λe w'=>e= .returned (.int .i64 (fY (-(mkRat (bf rs[j].s n2) EM)) (mkRat (bf r1.s n1) m1')))/\Ext V w':=by
    intro V a1 c1 b1 d1 hV hR IE;rw [<-gq]at*;have l1:=iN (-(qs[j]'(by rw [h.len];exact hlt)));have l2:=iw (-(qs[j]'(by rw [h.len];exact hlt)));have:=kq V (decide ((-(qs[j]'(by rw [h.len];exact hlt))).num<0)) a1 b1 _ c1 _ d1 _ _ hR IE r1.s _ _ _ _ _ _ _ _ (f1.ext hV) (f2.ext hV) ae ae ae ae;rw [dJ,Rat.mkRat_self]at this;exact this
   rw [<-fq]at PA GV;rw [<-gq]at PA MQ GV;have yq:=hall j hlt;have z1:=gJ yq.1;have z2:=gJ yq.2;generalize fY (qs[j]'(by rw [h.len];exact hlt)) eU=t1 at PA z1;generalize fY (-(qs[j]'(by rw [h.len];exact hlt))) eU=t2 at GV z2;generalize decide ((-(qs[j]'(by rw [h.len];exact hlt))).num<0)=sN at MQ GV;generalize (-(qs[j]'(by rw [h.len];exact hlt))).num.natAbs=nN at MQ GV;generalize (-(qs[j]'(by rw [h.len];exact hlt))).den=dN at MQ GV;generalize rs[j]=y at*;clear gq fq yq hq;have zm:=af PA;have TC:=af MQ;have Fe:=af GV
   clear PA MQ GV;go_upto_region 7 with fail
   obtain ⟨V,hV,xv,Zv,Av⟩:=bS wr 63 [.bool y.s,.slice y.a y.k y.c,.slice y.b y.j y.d];rw [<-hV];clear hV;obtain ⟨m0,m1,m2,-,-,-⟩:=aA Av ah;obtain ⟨k0,k1,k2,-,-,-⟩:=aA A0 (hE.trans xv);clear c0 c1 c2;have zm:=af (λU (hU:Ext V U)=>zm.o U (xv.trans hU));have TC:=af (λU (hU:Ext V U)=>TC.o U (xv.trans hU));have Fe:=af (λU a c b d (hU:Ext V U)=>Fe.o U a c b d (xv.trans hU))
   have FB:True:=trivial
   go_region_held3 (λw'=>w'.cell? ⟨w1.heap.size,0,none⟩=some (.bool r1.s)/\w'.cell? ⟨w1.heap.size,1,none⟩=some (.slice r1.a r1.k r1.c)/\w'.cell? ⟨w1.heap.size,2,none⟩=some (.slice r1.b r1.j r1.d)/\w'.cell? ⟨wr.heap.size,0,none⟩=some (.bool y.s)/\w'.cell? ⟨wr.heap.size,1,none⟩=some (.slice y.a y.k y.c)/\w'.cell? ⟨wr.heap.size,2,none⟩=some (.slice y.b y.j y.d)) (first|exact ⟨k0,k1,k2,m0,m1,m2⟩) (first
    |(go_at_call 62;have _t:=FB;refine (zm.o _ (by exact ah.drew)).mono ?_;rintro e w3 ⟨rfl,x3⟩;clear FB _t;have y3:Ext V w3:=ah.drew.trans x3;have k0:=aB (ah.drew.trans x3) k0;have k1:=aB (ah.drew.trans x3) k1;have k2:=aB (ah.drew.trans x3) k2;have m0:=aB (ah.drew.trans x3) m0;have m1:=aB (ah.drew.trans x3) m1;have m2:=aB (ah.drew.trans x3) m2)
    |(go_at_call 63;refine (TC.o _ (by exact y3)).mono ?_;rintro e w4 ⟨a4,c4,b4,d4,rfl,r4,f4,q4,g4,x4⟩;have y4:Ext V w4:=y3.trans x4;have k0:=aB x4 k0;have k1:=aB x4 k1;have k2:=aB x4 k2;have m0:=aB x4 m0;have m1:=aB x4 m1;have m2:=aB x4 m2)
    |(go_at_call 62;refine (Fe.o _ _ _ _ _ (by exact y4) r4 q4).mono ?_;rintro e w5 ⟨rfl,x5⟩;have y5:Ext V w5:=y4.trans x5;have k0:=aB x5 k0;have k1:=aB x5 k1;have k2:=aB x5 k2;have m0:=aB x5 m0;have m1:=aB x5 m1;have m2:=aB x5 m2))
   go_wp2_with fail
   go_roundw
   case rel=>exact ⟨j+1,ae,(hE.trans xv).trans y5,bq⟩
   case measure=>simp [intOf]<;>omega
  .obtain rfl:j=rs.length:=ae
   go_wp2_with fail
   refine (Dh _ _ _ _ _ _ (hW.ext hE) hSb).mono ?_;intro e w2 hN;obtain ⟨r2,rfl,hr2,hx2⟩:=hN.jR;clear hN;have hS2:=hr2.lZ;have f2:=hr2.fa;have Xe:=hr2.fb;clear hr2;obtain ⟨n5,m5,g1,g2,gq,N9,N_⟩:=hS2;have CK:=λV (hV:Ext w2 V)=>(Ca V r2.s _ _ _ _ _ _ _ _ (g1.ext hV) (g2.ext hV) ae ae).mono (λ_ _ hh=>hh.intOf);have kV:=λV=>(ko V (bO qs).floor ae ae).mono (λ_ _ hh=>hh.mO)
   have qd: ∀V a c,Raw V a (len (bO qs).floor.natAbs) c (bO qs).floor.natAbs->Calls prog 65 #[.agg #[.bool (decide ((bO qs).floor<0)),.slice a (len (bO qs).floor.natAbs) c]] V λe w'=>e= .returned (.tuple #[.int .i64 (bO qs).floor,.bool true])/\Ext V w':=by
    intro V a c hR;have:=BX V (decide ((bO qs).floor<0)) a _ c _ hR (by rw [dJ];omega) (by rw [dJ];omega);rw [dJ]at this;exact this
   have NC: ∀V a1 c1 b1 d1,Ext w2 V->Raw V a1 (len (((bO qs).floor:Int):Rat).num.natAbs) c1 (((bO qs).floor:Int):Rat).num.natAbs->Raw V b1 (len (((bO qs).floor:Int):Rat).den) d1 (((bO qs).floor:Int):Rat).den->Calls prog 62 #[.agg #[.bool r2.s,.slice r2.a r2.k r2.c,.slice r2.b r2.j r2.d],.agg #[.bool (decide ((((bO qs).floor:Int):Rat).num<0)),.slice a1 (len (((bO qs).floor:Int):Rat).num.natAbs) c1,.slice b1 (len (((bO qs).floor:Int):Rat).den) d1]] V λe w'=>e= .returned (.int .i64 (fY (mkRat (bf r2.s n5) m5) (((bO qs).floor:Int):Rat)))/\Ext V w':=by
    intro V a1 c1 b1 d1 hV hR IE;have l1:=iN (((bO qs).floor:Int):Rat);have l2:=iw (((bO qs).floor:Int):Rat);have l3:=gi (bO qs).floor;have l4:=eT (z:=(bO qs).floor) ae ae;have:=kq V r2.s _ _ _ _ _ _ _ _ (g1.ext hV) (g2.ext hV) (decide ((((bO qs).floor:Int):Rat).num<0)) a1 b1 _ c1 _ d1 _ _ hR IE ae ae ae ae;rw [dJ,Rat.mkRat_self]at this;exact this
   rw [<-gq]at CK NC;have hcz:((fY (bO qs) (((bO qs).floor:Int):Rat)) !=0)=false:=by rw [bne_eq_false_iff_eq];exact r_.2 hint
   generalize fY (bO qs) (((bO qs).floor:Int):Rat)=zc at NC hcz;generalize decide ((((bO qs).floor:Int):Rat).num<0)=sM at kV NC;generalize (((bO qs).floor:Int):Rat).num.natAbs=nM at kV NC;generalize (((bO qs).floor:Int):Rat).den=dM at kV NC;generalize decide ((bO qs).floor<0)=sF at CK qd;generalize (bO qs).floor.natAbs=nF at CK qd;obtain ⟨F,hF⟩: ∃F,F=(bO qs).floor:=⟨_,rfl⟩;rw [<-hF]at kV qd SM hF2;have R3:=af CK;have qm:=af kV;have El:=af qd;have YQ:=af NC;have HF:=af hF
   clear CK kV qd NC gq hF;go_upto_region 11 with fail
   obtain ⟨W3,hW3,x3,Z3,A3⟩:=bS w2 63 [.bool r2.s,.slice r2.a r2.k r2.c,.slice r2.b r2.j r2.d];rw [<-hW3];clear hW3;obtain ⟨k0,k1,k2,-,-,-⟩:=aA A3 ah;go_wp2_with fail
   refine (R3.o _ x3).mono ?_;rintro e w4 ⟨a4,c4,rfl,r4,f4,x4⟩;go_wp2_with fail
   refine (El.o _ _ _ r4).mono ?_;rintro e w5 ⟨rfl,x5⟩;clear k0 k1 k2;have y5:Ext W3 w5:=x4.trans x5;obtain ⟨k0,k1,k2,-,-,-⟩:=aA A3 y5;go_wp2_with fail
   go_region_held3 (λw'=>w'.cell? ⟨w2.heap.size,0,none⟩=some (.bool r2.s)/\w'.cell? ⟨w2.heap.size,1,none⟩=some (.slice r2.a r2.k r2.c)/\w'.cell? ⟨w2.heap.size,2,none⟩=some (.slice r2.b r2.j r2.d)) (first|exact ⟨k0,k1,k2⟩) (first
    |(go_at_call 48;refine (qm.o _).mono ?_;rintro e w6 ⟨a6,c6,b6,d6,rfl,r6,f6,q6,g6,x6⟩;have y6:Ext W3 w6:=(y5.drew).trans x6;have k0:=aB (ah.drew.trans x6) k0;have k1:=aB (ah.drew.trans x6) k1;have k2:=aB (ah.drew.trans x6) k2)
    |(go_at_call 62;refine (YQ.o _ _ _ _ _ (by exact x3.trans y6) r6 q6).mono ?_;rintro e w7 ⟨rfl,x7⟩;have y7:Ext W3 w7:=y6.trans x7;have k0:=aB x7 k0;have k1:=aB x7 k1;have k2:=aB x7 k2))
   have xE:Ext w w7:=((xW.trans hE).trans hx2).trans (x3.trans y7);clear k0 k1 k2 R3 qm El YQ;go_upto_region 15 with(at_make;refine bU _ rfl _ _ 22 rfl 3 (.int .i64 0) 8 underlying22 Tryz.info_int rfl _ _ rs.length rfl rfl bq bq ae ae ?_;intro w8 WG lh hz8)
   go_upto_region 16 with(at_make;refine jr _ rfl _ _ 32 rfl 63 (.agg iV.toArray) 56 underlying32 Tryz.info_rat rfl _ _ rs.length rfl rfl bq bq ae ae ?_;intro w9 Yl tC Z7)
   obtain ⟨Wp,hWp,xp,Zp,Ap⟩:=bS w9 32 [.slice (some ⟨w8.heap.size,0,none⟩) rs.length rs.length];rw [<-hWp];clear hWp;go_upto_region 17 with(at_make;refine bU _ rfl _ _ 22 rfl 3 (.int .i64 0) 8 underlying22 Tryz.info_int rfl _ _ rs.length rfl rfl bq bq ae ae ?_;intro xZ YR ji YS)
   have ac2:Ext w xZ:=(((xE.trans lh).trans tC).trans xp).trans ji;have z8:=hz8.o;have z9:=Z7.o;have zp:=Zp.o;have Qj:=YS.o;have sw7:=xE.size;obtain ⟨bw,hbw⟩: ∃bw,bw=w7.heap.size:=⟨_,rfl⟩;obtain ⟨bg,hbg⟩: ∃bg,bg=w8.heap.size:=⟨_,rfl⟩;obtain ⟨pb,YP⟩: ∃pb,pb=w9.heap.size:=⟨_,rfl⟩;obtain ⟨bo,hbo⟩: ∃bo,bo=Wp.heap.size:=⟨_,rfl⟩;obtain ⟨BB,H7⟩: ∃BB,BB=xZ.heap.size:=⟨_,rfl⟩;have o1:w.heap.size<=bw:=ae;have o2:bw<bg:=ae;have o3:bg<pb:=ae;have o4:pb<bo:=ae;have o5:bo<BB:=ae
   have aW:aY xZ bw 3 (ju (([]:List Int)++List.replicate rs.length 0)):=by
    have h5:=WG.o;rw [ud,<-hbw]at h5;exact ((h5.ext tC).ext xp).ext ji
   have aG:aY xZ bg 63 (bX []++fh rs.length):=by
    have h5:=Yl.o;rw [<-hbg]at h5;exact (h5.ext xp).ext ji
   have aP:aY xZ pb 32 [.slice (some ⟨bg,0,none⟩) rs.length rs.length]:=by
    rw [YP,hbg];exact Ap.ext ji
   have aO:aY xZ bo 3 (ju (([]:List Int)++List.replicate rs.length 0)):=by
    have h5:=YR.o;rw [ud,<-hbo]at h5;exact h5
   rw [<-hbw,<-hbg,<-YP,<-hbo];have qI:=af H7;clear WG Yl YR Ap hz8 Z7 Zp YS z8 z9 zp Qj sw7 lh tC xp ji hbw hbg YP hbo H7 hE hx2 x3 y7 y6 y5 x7 x6 r6 q6 f6 g6 r4 f4 x4 x5 A3 hW RZ A0 x0 xW f2 Xe g1 g2;have SI:Hid (ApAt w qs rs.length bw bg pb bo BB F 0 xZ):=⟨[],rfl,bm,aW,aG,aP,aO,λk hk=>absurd hk aX,ac2,by rw [qI.o];exact cG⟩;go_wp2
   go_loopw [8,63] (λs8 ii wr=> ∃i:Nat,ApAt w qs rs.length bw bg pb bo BB F i wr/\s8= .int .i64 (F-gN ((qs.map Rat.floor).take i))/\ii= .int .i64 i) (λ_ ii _=>rs.length-(intOf ii).toNat)
   case atStart=>exact ⟨0,SI.o,by show _=Value.int .i64 (F-0);rw [Int.sub_zero],rfl⟩
   case round=>
    obtain ⟨i,hAt,rfl,rfl⟩:=hrel;obtain ⟨gP,hpl,hi,aW,aG,aP,aO,bJ,Qy,hBw⟩:=hAt;by_cases hlt:i<rs.length
    .have gu:i<qs.length:=by rw [h.len];exact hlt
     obtain ⟨b,o,rfl⟩:=h.at ae;obtain ⟨b',o',e',c0,c1,c2⟩:=(h.ext Qy).cell i hlt;cases e'
     obtain ⟨n2,EM,g1,g2,gq,N9,N_⟩:=h.num i hlt;have hqi:qs[i]?.getD 0=qs[i]'gu:=by rw [List.getElem?_eq_getElem gu];rfl
     have yq:=hall i hlt;obtain ⟨ZX,ZY⟩:=kj yq;have CK:=λV (hV:Ext w V)=>(Ca V rs[i].s _ _ _ _ _ _ _ _ (g1.ext hV) (g2.ext hV) ae ae).mono (λ_ _ hh=>hh.intOf);rw [<-gq]at CK;have AZ:dW (qs[i]'gu)<100000000:=dB ((h.num i hlt).dW);have kV:=λV=>(ko V (qs[i]'gu).floor ae ae).mono (λ_ _ hh=>hh.mO)
     have qd: ∀V a c,Raw V a (len (qs[i]'gu).floor.natAbs) c (qs[i]'gu).floor.natAbs->Calls prog 65 #[.agg #[.bool (decide ((qs[i]'gu).floor<0)),.slice a (len (qs[i]'gu).floor.natAbs) c]] V λe w'=>e= .returned (.tuple #[.int .i64 (qs[i]'gu).floor,.bool true])/\Ext V w':=by
      intro V a c hR;have:=BX V (decide ((qs[i]'gu).floor<0)) a _ c _ hR (by rw [dJ];omega) (by rw [dJ];omega);rw [dJ]at this;exact this
     have hSub: ∀V a1 c1 b1 d1,Ext w V->Raw V a1 (len (((qs[i]'gu).floor:Int):Rat).num.natAbs) c1 (((qs[i]'gu).floor:Int):Rat).num.natAbs->Raw V b1 (len (((qs[i]'gu).floor:Int):Rat).den) d1 (((qs[i]'gu).floor:Int):Rat).den->Calls prog 46 #[.agg #[.bool rs[i].s,.slice rs[i].a rs[i].k rs[i].c,.slice rs[i].b rs[i].j rs[i].d],.agg #[.bool (decide ((((qs[i]'gu).floor:Int):Rat).num<0)),.slice a1 (len (((qs[i]'gu).floor:Int):Rat).num.natAbs) c1,.slice b1 (len (((qs[i]'gu).floor:Int):Rat).den) d1]] V (bD (qs[i]?.getD 0-(((qs[i]?.getD 0).floor:Int):Rat)) V):=by
      intro V a1 c1 b1 d1 hV hR IE;have l1:=iN (((qs[i]'gu).floor:Int):Rat);have l2:=iw (((qs[i]'gu).floor:Int):Rat);have l3:=gi (qs[i]'gu).floor;have l4:=eT (z:=(qs[i]'gu).floor) ae ae;have:=Ka V rs[i].s _ _ _ _ _ _ _ _ (g1.ext hV) (g2.ext hV) (decide ((((qs[i]'gu).floor:Int):Rat).num<0)) a1 b1 _ c1 _ d1 _ _ hR IE ae ae ae ae;rw [dJ,Rat.mkRat_self,<-gq]at this;rw [hqi];exact this
     have hfs:(qs.map Rat.floor)[i]'(by simpa using gu)=(qs[i]'gu).floor:=aX
     have UY:(qs.map Rat.floor).take (i+1)=(qs.map Rat.floor).take i++ [(qs[i]'gu).floor]:=by
      rw [List.take_succ_eq_append_getElem (by simpa using gu),hfs]
     have TD:gN ((qs.map Rat.floor).take (i+1))=gN ((qs.map Rat.floor).take i)+(qs[i]'gu).floor:=by
      rw [UY];unfold gN;simp
     have hib:=uj ((qs.map Rat.floor).take i) 281474976710656 (by
      intro x hx;obtain ⟨q,hq,rfl⟩:=List.mem_map.1 (List.mem_of_mem_take hx);obtain ⟨k,hk,rfl⟩:=List.getElem_of_mem hq;exact kj (hall k (by rw [<-h.len];exact hk)))
     rw [List.length_take,List.length_map,Nat.min_eq_left ae]at hib;generalize decide ((((qs[i]'gu).floor:Int):Rat).num<0)=sM at kV hSub;generalize (((qs[i]'gu).floor:Int):Rat).num.natAbs=nM at kV hSub;generalize (((qs[i]'gu).floor:Int):Rat).den=dM at kV hSub;generalize decide ((qs[i]'gu).floor<0)=sF at CK qd;generalize (qs[i]'gu).floor.natAbs=nF at CK qd;generalize (qs[i]'gu).floor=z at*;have R3:=af CK;have qm:=af kV;have El:=af qd;have HSub:=af hSub;have Tg:=af UY;have HIS:=af TD
     clear CK kV qd hSub UY TD hfs gq g1 g2 yq hqi;generalize rs[i]=y at*;have b0:(0:Int)<=(i:Int):=ae;have b1:(i:Int)<(rs.length:Int):=ae;go_upto_region 20 with fail
     obtain ⟨V0,Lq,xv,Zv,Av⟩:=bS wr 63 [.bool y.s,.slice y.a y.k y.c,.slice y.b y.j y.d];rw [<-Lq];clear Lq c0 c1 c2;obtain ⟨m0,m1,m2,-,-,-⟩:=aA Av ah;go_wp2_with fail
     refine (R3.o _ (Qy.trans xv)).mono ?_;rintro e N7 ⟨ZO,c11,rfl,r11,f11,Wm⟩;go_wp2_with fail
     refine (El.o _ _ _ r11).mono ?_;rintro e Qx ⟨rfl,x12⟩;clear m0 m1 m2 r11 f11;have v12:Ext wr Qx:=(xv.trans Wm).trans x12;obtain ⟨m,hm⟩: ∃m,rs.length-i=m+1:=⟨rs.length-i-1,ae⟩;have NK:rs.length-(i+1)=m:=ae;rw [hm]at aW aG aO;have eW:((qs.map Rat.floor).take i).length=i:=by rw [List.length_take,List.length_map];omega
     have cW:Qx.cell? ⟨bw,i,none⟩=some (.int .i64 0):=by
      rw [(aW.ext v12).cell,kB _ _ (by simp;omega)];congr 2
      rw [List.getElem_append_right ae];simp
     have fW:=(aW.ext v12).frozen i
     have B1:aY (Qx.setCell ⟨bw,i,none⟩ (.int .i64 z)) bw 3 (ju ((qs.map Rat.floor).take (i+1)++List.replicate m 0)):=by
      have h5:=(aW.ext v12).set i (.int .i64 z);have h6:=vQ ((qs.map Rat.floor).take i) m z;rw [eW]at h6;rw [h6,<-Tg.o]at h5;exact h5
     have B2:=(aG.ext v12).other ⟨bw,i,none⟩ (.int .i64 z) (by simp only;omega);have B3:=(aP.ext v12).other ⟨bw,i,none⟩ (.int .i64 z) (by simp only;omega);have B4:=(aO.ext v12).other ⟨bw,i,none⟩ (.int .i64 z) (by simp only;omega);have B5:=(Av.ext (Wm.trans x12)).other ⟨bw,i,none⟩ (.int .i64 z) (by simp only;omega);have B6:=λk hk=>((bJ k hk).ext v12).setCell ⟨bw,i,none⟩ (.int .i64 z) (by simp only;omega);have B7:Ext w (Qx.setCell ⟨bw,i,none⟩ (.int .i64 z)):=(Qy.trans v12).setCell (by simp only;omega) _
     have B8:BB<=(Qx.setCell ⟨bw,i,none⟩ (.int .i64 z)).heap.size:=by
      have:=v12.size;simp [World.setCell];omega
     have s4:(Qx.setCell ⟨bw,i,none⟩ (.int .i64 z)).cell? ⟨bw,i,none⟩=some (.int .i64 z):=by
      rw [B1.cell,kB _ _ (by simp;omega)];congr 2
      rw [List.getElem_append_left (by simp;omega)];have h7:=Tg.o;simp [h7,eW]
     go_upto_region 21 with fail
     clear cW fW aW aG aP aO bJ;generalize Qx.setCell ⟨bw,i,none⟩ (.int .i64 z)=V1 at*;have s0:=B3.cell 0;obtain ⟨s1,s2,s3,-,-,-⟩:=aA B5 ah;simp at s0;have hpc:(bX gP).length=i*3:=by rw [eu,hpl]
     have HPC:=af hpc;clear hpc
     go_region_held3 (λw'=>w'.cell? ⟨pb,0,none⟩=some (.slice (some ⟨bg,0,none⟩) rs.length rs.length)/\w'.cell? ⟨wr.heap.size,0,none⟩=some (.bool y.s)/\w'.cell? ⟨wr.heap.size,1,none⟩=some (.slice y.a y.k y.c)/\w'.cell? ⟨wr.heap.size,2,none⟩=some (.slice y.b y.j y.d)/\w'.cell? ⟨bw,i,none⟩=some (.int .i64 z)) (first|exact ⟨s0,s1,s2,s3,s4⟩|exact ⟨lC s0 (by simp only;omega),lC s1 (by simp only;omega),lC s2 (by simp only;omega),lC s3 (by simp only;omega),lC s4 (by simp only;omega)⟩) (first
      |(go_at_call 48;refine (qm.o _).mono ?_;rintro e Vy ⟨a13,c13,b13,d13,rfl,r13,f13,q13,g13,WH⟩;have v13:Ext V1 Vy:=ah.drew.trans WH;have s0:=aB (ah.drew.trans WH) s0;have s1:=aB (ah.drew.trans WH) s1;have s2:=aB (ah.drew.trans WH) s2;have s3:=aB (ah.drew.trans WH) s3;have s4:=aB (ah.drew.trans WH) s4)
      |(go_at_call 46;refine (HSub.o _ _ _ _ _ (by exact B7.trans v13) r13 q13).mono ?_;intro e Qz hN;obtain ⟨iv,rfl,YT,WI⟩:=hN.jR;clear hN;have v14:Ext V1 Qz:=v13.trans WI;have s0:=aB WI s0;have s1:=aB WI s1;have s2:=aB WI s2;have s3:=aB WI s3;have s4:=aB WI s4;obtain ⟨p0,p1,p2,p3,p4,p5⟩:=K_ (B2.ext v14) HPC.o))
     go_upto_region 22 with fail
     have aiK:=v14.size;have C1:=((((B1.ext v14).other ⟨bg,i*3,none⟩ (.bool iv.s) (by simp only;omega)).other ⟨bg,i*3+1,none⟩ (.slice iv.a iv.k iv.c) (by simp only;omega)).other ⟨bg,i*3+2,none⟩ (.slice iv.b iv.j iv.d) (by simp only;omega))
     have C2:aY (((Qz.setCell ⟨bg,i*3,none⟩ (.bool iv.s)).setCell ⟨bg,i*3+1,none⟩ (.slice iv.a iv.k iv.c)).setCell ⟨bg,i*3+2,none⟩ (.slice iv.b iv.j iv.d)) bg 63 (bX (gP++ [iv])++fh m):=by
      have h5:=(((B2.ext v14).set (i*3) (.bool iv.s)).set (i*3+1) (.slice iv.a iv.k iv.c)).set (i*3+2) (.slice iv.b iv.j iv.d);have h6:=Tt (bX gP) m (.bool iv.s) (.slice iv.a iv.k iv.c) (.slice iv.b iv.j iv.d);rw [HPC.o]at h6;rw [h6]at h5;rw [oH];exact h5
     have C3:=((((B3.ext v14).other ⟨bg,i*3,none⟩ (.bool iv.s) (by simp only;omega)).other ⟨bg,i*3+1,none⟩ (.slice iv.a iv.k iv.c) (by simp only;omega)).other ⟨bg,i*3+2,none⟩ (.slice iv.b iv.j iv.d) (by simp only;omega));have C4:=((((B4.ext v14).other ⟨bg,i*3,none⟩ (.bool iv.s) (by simp only;omega)).other ⟨bg,i*3+1,none⟩ (.slice iv.a iv.k iv.c) (by simp only;omega)).other ⟨bg,i*3+2,none⟩ (.slice iv.b iv.j iv.d) (by simp only;omega));have C6:=λk hk=>((((B6 k hk).ext v14).setCell ⟨bg,i*3,none⟩ (.bool iv.s) (by simp only;omega)).setCell ⟨bg,i*3+1,none⟩ (.slice iv.a iv.k iv.c) (by simp only;omega)).setCell ⟨bg,i*3+2,none⟩ (.slice iv.b iv.j iv.d) (by simp only;omega);have C6':=(((YT.mono (show BB<=Vy.heap.size by have:=v13.size;omega)).setCell ⟨bg,i*3,none⟩ (.bool iv.s) (by simp only;omega)).setCell ⟨bg,i*3+1,none⟩ (.slice iv.a iv.k iv.c) (by simp only;omega)).setCell ⟨bg,i*3+2,none⟩ (.slice iv.b iv.j iv.d) (by simp only;omega);have C7:Ext w (((Qz.setCell ⟨bg,i*3,none⟩ (.bool iv.s)).setCell ⟨bg,i*3+1,none⟩ (.slice iv.a iv.k iv.c)).setCell ⟨bg,i*3+2,none⟩ (.slice iv.b iv.j iv.d)):=((((B7.trans v14).setCell (by simp only;omega) _).setCell (by simp only;omega) _).setCell (by simp only;omega) _);have C8:BB<=(((Qz.setCell ⟨bg,i*3,none⟩ (.bool iv.s)).setCell ⟨bg,i*3+1,none⟩ (.slice iv.a iv.k iv.c)).setCell ⟨bg,i*3+2,none⟩ (.slice iv.b iv.j iv.d)).heap.size:=by simp [World.setCell];omega
     have C9:=lC (b:=bg) (x:=i*3) (v0:= .bool iv.s) (v1:= .slice iv.a iv.k iv.c) (v2:= .slice iv.b iv.j iv.d) s4 (by simp only;omega);clear s0 s1 s2 s3 s4 p0 p1 p2 p3 p4 p5 B1 B2 B3 B4 B5 B6 YT;generalize ((Qz.setCell ⟨bg,i*3,none⟩ (.bool iv.s)).setCell ⟨bg,i*3+1,none⟩ (.slice iv.a iv.k iv.c)).setCell ⟨bg,i*3+2,none⟩ (.slice iv.b iv.j iv.d)=V2 at*;have eO:((List.range i).map (λk:Nat=>(k:Int))).length=i:=aX
     have cO:V2.cell? ⟨bo,i,none⟩=some (.int .i64 0):=by
      rw [C4.cell,kB _ _ aX];congr 2
      rw [List.getElem_append_right aX];simp
     have fO:=C4.frozen i
     have D4:aY (V2.setCell ⟨bo,i,none⟩ (.int .i64 (i:Nat))) bo 3 (ju ((List.range (i+1)).map (λk:Nat=>(k:Int))++List.replicate m 0)):=by
      have h5:=C4.set i (.int .i64 (i:Nat));have h6:=vQ ((List.range i).map (λk:Nat=>(k:Int))) m (i:Int);rw [eO]at h6;rw [h6]at h5;rw [List.range_succ,List.map_append];exact h5
     have D1:=C1.other ⟨bo,i,none⟩ (.int .i64 (i:Nat)) (by simp only;omega);have D2:=C2.other ⟨bo,i,none⟩ (.int .i64 (i:Nat)) (by simp only;omega);have D3:=C3.other ⟨bo,i,none⟩ (.int .i64 (i:Nat)) (by simp only;omega);have D6:=λk hk=>(C6 k hk).setCell ⟨bo,i,none⟩ (.int .i64 (i:Nat)) (by simp only;omega);have D6':=C6'.setCell ⟨bo,i,none⟩ (.int .i64 (i:Nat)) (by simp only;omega);have D7:Ext w (V2.setCell ⟨bo,i,none⟩ (.int .i64 (i:Nat))):=C7.setCell (by simp only;omega) _;have D8:BB<=(V2.setCell ⟨bo,i,none⟩ (.int .i64 (i:Nat))).heap.size:=by simp [World.setCell];exact C8
     have D9:(V2.setCell ⟨bo,i,none⟩ (.int .i64 (i:Nat))).cell? ⟨bw,i,none⟩=some (.int .i64 z):=by
      rw [World.cell?_setCell_other _ _ _ _ (by intro e;simp only [Addr.mk.injEq]at e;omega)];exact C9
     have HD:Hid (ApAt w qs rs.length bw bg pb bo BB F (i+1) (V2.setCell ⟨bo,i,none⟩ (.int .i64 (i:Nat)))):=by
      refine ⟨gP++ [iv],by simp [hpl],ae,by rw [NK];exact D1,by rw [NK];exact D2,D3,by rw [NK];exact D4,?_,D7,D8⟩;intro k hk;by_cases TR:k<gP.length
      .rw [List.getElem_append_left TR];exact D6 k TR
      .have qJ:k=i:=by simp at hk;omega
       subst qJ;rw [List.getElem_append_right ae];simp only [hpl,Nat.sub_self,List.getElem_cons_zero];exact D6'
     go_upto_region 23 with fail
     generalize V2.setCell ⟨bo,i,none⟩ (.int .i64 (i:Nat))=V3 at*;clear C1 C2 C3 C4 C6 C6' D1 D2 D3 D4 D6 D6';go_wp2_with fail
     refine ⟨⟨i+1,HD.o,congrArg (Value.int .i64) ?_,bq⟩,by simp [intOf]<;>omega⟩;rw [HIS.o];have:(i:Int)*281474976710656<=128*281474976710656:=Int.mul_le_mul_of_nonneg_right ae ai;first|omega|(unfold wrap64;omega)
    .obtain rfl:i=rs.length:=ae
     rw [Nat.sub_self]at aW aG aO;rw [List.take_of_length_le (by rw [List.length_map,h.len];exact cG)]at aW⊢;have YU:(cR qs).length=rs.length:=by unfold cR;rw [List.length_map,h.len]
     have hRt:jV wr (some ⟨bg,0,none⟩) rs.length gP (cR qs) (L+10):=by
      refine ⟨by rw [YU,hpl],ae,ae,ae,λk hk=>⟨bg,0,rfl,?_,?_,?_⟩,λk hk=> ?_⟩
      .rw [Nat.zero_add,aG.cell,List.getElem?_append_left (by rw [eu];omega)];exact dz gP k 0 hk ai
      .rw [Nat.zero_add,aG.cell,List.getElem?_append_left (by rw [eu];omega)];exact dz gP k 1 hk ai
      .rw [Nat.zero_add,aG.cell,List.getElem?_append_left (by rw [eu];omega)];exact dz gP k 2 hk ai
      .have h5:=(bJ k hk).lZ
       have La:k<qs.length:=by rw [h.len];omega
       have e5:qs[k]?.getD 0=qs[k]'La:=by rw [List.getElem?_eq_getElem La];rfl
       rw [e5]at h5;have e6:(cR qs)[k]'ae=qs[k]'La-(((qs[k]'La).floor:Int):Rat):=by unfold cR;simp
       rw [e6];refine h5.mono ?_;have l1:=od (qs[k]'La) (((qs[k]'La).floor:Int):Rat);have l2:=gi (qs[k]'La).floor;obtain ⟨l3,l4⟩:=kj (hall k ae);have l5:=eT (z:=(qs[k]'La).floor) ae ae;have l6:=(h.num k ae).dW;omega
     have TE:=RX wr pb bg bo rs.length (L+10) rs.length gP (cR qs) (by have:=aP.cell 0;simpa using this) hRt hpl ae h0n ae ae ae
      (λk hk=>⟨λx e=>dB ((bJ k hk).fa x e),λx e=>dB ((bJ k hk).fb x e)⟩)
      (λk hk=>⟨by
        rw [aO.cell,kB _ _ (by simp;exact hk)];simp,aO.frozen k⟩)
     have HS:=af TE;clear TE hRt;obtain ⟨M,hM⟩: ∃M:Nat,F-gN (qs.map Rat.floor)=(M:Int):=⟨(F-gN (qs.map Rat.floor)).toNat,dB HF.o⟩;have hMn:M<=rs.length:=dB HF.o;rw [hM];have Tn:Hid (M=((bO qs).floor-gN (qs.map Rat.floor)).toNat):=(show _=_ by have:=HF.o;omega);clear hM;go_wp2_with fail
     refine HS.o.mono ?_;rintro e w15 ⟨rfl,R4⟩;have aiM:=R4.size
     have A1:aY w15 bw 3 (ju (dZ (cR qs) rs.length (qs.map Rat.floor) 0)):=by
      unfold aY;rw [R4.agree bw ae ae];have h5:=aW;rw [List.replicate_zero,List.append_nil]at h5;exact h5
     have X15:Ext w w15:=⟨⟨R4.os.trans Qy.below.os,R4.tape.trans Qy.below.tape,R4.output.trans Qy.below.output,dB Qy.size,λk hk=>(R4.agree k (dB Qy.size) ae).trans (Qy.below.block k hk)⟩,Nat.le_trans Qy.drawn R4.drawn⟩;have cO:=R4.cell;have CO:=af cO;clear cO aW aG aP aO bJ HS R4;go_wp2
     go_loopw [105] (λii wr=> ∃t:Nat,t<=M/\Hid (aY wr bw 3 (ju (dZ (cR qs) rs.length (qs.map Rat.floor) t)))/\Hid (∀j,j<rs.length->wr.cell? ⟨bo,j,none⟩=some (.int .i64 (fj (cR qs) rs.length j:Nat)))/\Ext w wr/\ii= .int .i64 t) (λii _=>M-(intOf ii).toNat)
     case atStart=>exact ⟨0,bm,A1,CO,X15,rfl⟩
     case round=>
      obtain ⟨t,ht,hA,hC,hX,rfl⟩:=hrel;by_cases QI:t<M
      .have c1:=hC.o t ae
       have hp:=oy (cR qs) rs.length t ae;have hl:=kQ (cR qs) rs.length (qs.map Rat.floor) t;rw [List.length_map,h.len]at hl
       have c2:wr.cell? ⟨bw,fj (cR qs) rs.length t,none⟩=some (.int .i64 ((dZ (cR qs) rs.length (qs.map Rat.floor) t)[fj (cR qs) rs.length t]?.getD 0)):=by
        rw [hA.o.cell,kB _ _ ae,List.getElem?_eq_getElem ae];rfl
       have c3:=hA.o.frozen (fj (cR qs) rs.length t)
       have hbd:=GU (cR qs) rs.length (qs.map Rat.floor) t (fj (cR qs) rs.length t) (by
        intro x hx;obtain ⟨q,hq,rfl⟩:=List.mem_map.1 hx;obtain ⟨k,hk,rfl⟩:=List.getElem_of_mem hq;exact kj (hall k (by rw [<-h.len];exact hk)))
       have D1:aY (wr.setCell ⟨bw,fj (cR qs) rs.length t,none⟩ (.int .i64 ((dZ (cR qs) rs.length (qs.map Rat.floor) t)[fj (cR qs) rs.length t]?.getD 0+1))) bw 3 (ju (dZ (cR qs) rs.length (qs.map Rat.floor) (t+1))):=by
        have h5:=hA.o.set (fj (cR qs) rs.length t) (.int .i64 ((dZ (cR qs) rs.length (qs.map Rat.floor) t)[fj (cR qs) rs.length t]?.getD 0+1));unfold ju at h5;rw [<-List.map_set]at h5;exact h5
       have D2: ∀j,j<rs.length->(wr.setCell ⟨bw,fj (cR qs) rs.length t,none⟩ (.int .i64 ((dZ (cR qs) rs.length (qs.map Rat.floor) t)[fj (cR qs) rs.length t]?.getD 0+1))).cell? ⟨bo,j,none⟩=some (.int .i64 (fj (cR qs) rs.length j:Nat)):=by
        intro j hj;rw [World.cell?_setCell_other _ _ _ _ (by intro e;simp only [Addr.mk.injEq]at e;omega)];exact hC.o j hj
       have LN:=af D1;have yf:=af D2
       clear D1 D2;generalize (dZ (cR qs) rs.length (qs.map Rat.floor) t)[fj (cR qs) rs.length t]?.getD 0=v at*;generalize fj (cR qs) rs.length t=p at*;go_wp2_with fail
       go_roundw
       case rel=>exact ⟨t+1,ae,LN,yf,hX.setCell (by simp only;omega) _,bq⟩
       case measure=>simp [intOf]<;>omega
      .obtain rfl:t=M:=ae
       have hl:=kQ (cR qs) rs.length (qs.map Rat.floor) t;rw [List.length_map,h.len]at hl;have HL:=af hl;clear hl
       go_wp2_with fail
       go_ret2
       have kd:=VF.o;rw [<-Tn.o]at kd;rw [kd];exact ⟨bw,by rw [HL.o];rfl,o1,hA.o,hX⟩
theorem GW {l:List Rat} {i:Nat} (h:i<l.length):gN ((l.map Rat.floor).take (i+1))=gN ((l.map Rat.floor).take i)+l[i].floor:=by
 rw [List.take_succ_eq_append_getElem (by simpa using h)];unfold gN;simp
theorem xN (l:List Rat): ∀i,i<=l.length->((gN ((l.map Rat.floor).take i):Int):Rat)<=bO (l.take i)/\bO (l.take i)<=((gN ((l.map Rat.floor).take i)+i:Int):Rat):=by
 intro i;induction i with
 |zero=>
  intro _;rw [qY];have:gN ((l.map Rat.floor).take 0)=0:=rfl;rw [this];exact ⟨aX,aX⟩
 |succ i ih=>
  intro hi;obtain ⟨h1,h2⟩:=ih ae;rw [m_ ae,GW ae];have h3:=Rat.floor_le l[i];have h4:=Rat.lt_floor_add_one l[i];generalize bO (l.take i)=s at*;generalize gN ((l.map Rat.floor).take i)=z at*;generalize l[i]=q at*;generalize q.floor=f at*;constructor
  .rw [Rat.intCast_add];grind
  .have e:((z+f+((i+1:Nat):Int):Int):Rat)=((z+(i:Int):Int):Rat)+((f:Int):Rat)+1:=by
    push_cast;grind
   rw [e];grind
theorem Em (w:World) (a:Option Addr) (c L:Nat) (rs:List bE) (qs:List Rat) (h:jV w a c rs qs L) (hn:rs.length<=128) (h0:0<rs.length) (hL:L<100000) (hall: ∀i (hi:i<rs.length),my (qs[i]'(by rw [h.len];exact hi))) (hint:bO qs=(((bO qs).floor:Int):Rat)):
 Calls prog 28 #[.slice a rs.length c] w (Dy (kr qs) w):=by
 have hb:=xN qs qs.length cG;rw [List.take_of_length_le aX,List.take_length]at hb;have LA:gN (qs.map Rat.floor)<=(bO qs).floor:=by rw [Rat.le_floor_iff];exact hb.1
 have qN:(bO qs).floor<=gN (qs.map Rat.floor)+rs.length:=by
  rw [<-h.len];have h2:=hb.2;rw [hint]at h2;exact Rat.intCast_le_intCast.1 h2
 have hib:=uj (qs.map Rat.floor) 281474976710656 (by
  intro x hx;obtain ⟨q,hq,rfl⟩:=List.mem_map.1 hx;obtain ⟨k,hk,rfl⟩:=List.getElem_of_mem hq;exact kj (hall k (by rw [<-h.len];exact hk)))
 rw [List.length_map,h.len]at hib;have yE:(rs.length:Int)*281474976710656<=128*281474976710656:=Int.mul_le_mul_of_nonneg_right ae ai
 have hsz:dW (bO qs)<100000000:=by
  have h5:=zH qs (L+1) (λi hi=>by have:=(h.num i (by rw [<-h.len];exact hi)).dW;omega) qs.length cG;rw [List.take_length,h.len]at h5;have:=Nat.mul_le_mul hn (show L+1+1<=100001 by omega);omega
 have:=RY w a c L rs qs h hn hL hall ae ae hint h0 LA qN hsz;rw [<-h.len]at this⊢;exact this
theorem CM (fs:List Rat) (n p:Nat) (hp:p<n): ∃j,j<n/\fj fs n j=p:=by
 have hm:(⟨p,hp⟩:Fin n)∈iP fs n:=(pP fs n).mem_iff.2 (List.mem_finRange _);obtain ⟨j,hj,he⟩:=List.getElem_of_mem hm;exact ⟨j,by rw [<-nw fs n];exact hj,by rw [uT fs n j hj,he]⟩
def Up (fs:List Rat) (n t p:Nat):Prop:= ∃j,j<t/\fj fs n j=p
open Classical in
theorem MR (fs:List Rat) (n:Nat) (l:List Int) (hl:l.length=n): ∀t,t<=n-> ∀p,p<n->(dZ fs n l t)[p]?.getD 0=l[p]?.getD 0+(if Up fs n t p then 1 else 0):=by
 intro t;induction t with
 |zero=>
  intro _ p _;have: ¬Up fs n 0 p:=by rintro ⟨j,hj,_⟩;omega
  simp [dZ,this]
 |succ t ih=>
  intro ht p hp;have hlen:=kQ fs n l t;have hat:=oy fs n t ae;unfold dZ;by_cases he:fj fs n t=p
  .have h1: ¬Up fs n t p:=by
    rintro ⟨j,hj,DF⟩;have:=zJ fs n j t ae ae ae;omega
   have h2:Up fs n (t+1) p:=⟨t,ae,he⟩;have:=ih ae p hp;rw [if_neg h1]at this;rw [if_pos h2,he,List.getElem?_set_self ae];simp only [Option.getD_some];omega
  .have h3:Up fs n (t+1) p↔Up fs n t p:=by
    constructor
    .rintro ⟨j,hj,DF⟩
     refine ⟨j,?_,DF⟩;have:j≠t:=λh=>he (h▸DF);omega
    .rintro ⟨j,hj,DF⟩;exact ⟨j,ae,DF⟩
   have:=ih ae p hp;rw [List.getElem?_set_ne he,this];simp only [h3]
theorem wQ (qs:List Rat) (p:Nat) (hp:p<qs.length):(cR qs)[p]?.getD 0=qs[p]-((qs[p].floor:Int):Rat):=by
 simp [cR,hp]
theorem Jx (fs:List Rat) (f:Rat) (h: ∀i,i<3->fs[i]?.getD 0=f):fj fs 3 0=0/\fj fs 3 1=1/\fj fs 3 2=2:=by
 have hm: ∀j k,j<k->k<3->fj fs 3 j<fj fs 3 k:=by
  intro j k hj hk;have h1:=vR fs 3 j k hj hk;unfold nu at h1;rw [h _ (oy fs 3 j ae),h _ (oy fs 3 k hk)]at h1;rcases h1 with h1|⟨_,h1⟩
  .exact absurd h1 Rat.lt_irrefl
  .exact h1
 have a:=hm 0 1 ae ae;have b:=hm 1 2 ae ae;have c:=oy fs 3 2 ae;omega
theorem GX {q:Rat} {z:Int} (h1:(z:Rat)<=q) (h2:q<(z:Rat)+1):q.floor=z:=by
 have a:=Rat.le_floor_iff.2 h1
 have b: ¬(z+1<=q.floor):=by
  rw [Rat.le_floor_iff,Rat.not_le,Rat.intCast_add];exact h2
 omega
theorem AE (x:Rat):bO [x,x,x]=3*x:=by
 simp only [bO,List.foldl];grind
theorem MS (x:Rat) (T z:Int) (hx:3*x=(T:Rat)) (h1:(z:Rat)<=x) (h2:x<(z:Rat)+1):kr [x,x,x]=dZ (cR [x,x,x]) 3 [z,z,z] (T-3*z).toNat/\fj (cR [x,x,x]) 3 0=0/\fj (cR [x,x,x]) 3 1=1:=by
 have hf:=GX h1 h2
 obtain ⟨h0,h1,h2⟩:=Jx (cR [x,x,x]) (x-(x.floor:Int)) (by
  intro i hi;rcases (show i=0\/i=1\/i=2 by omega)with rfl|rfl|rfl<;>simp [cR])
 refine ⟨?_,h0,h1⟩;unfold kr;rw [AE,hx,Rat.floor_intCast];simp only [List.length_cons,List.length_nil,Nat.reduceAdd,List.map_cons,List.map_nil,hf];rw [show gN [z,z,z]=3*z by simp [gN];omega]
theorem BI (w:World) (a b:Option Addr) (c c':Nat) (l:List Int) (hA:oD w a l) (hB:oD w b l) (hl:l.length<1000000):
 Calls prog 71 #[.slice a l.length c,.slice b l.length c'] w λe w'=>e= .returned (.bool true)/\Ext w w':=by
 obtain ⟨b1,o1,rfl,hA⟩:=hA;obtain ⟨b2,o2,rfl,hB⟩:=hB;go_enter func71,ntmps71
 go_wp2
 go_loopw [5] (λi wr=> ∃j:Nat,j<=l.length/\i= .int .i64 j/\Quiet w wr) (λi _=>l.length-(intOf i).toNat)
 case atStart=>exact ⟨0,bm,rfl,Quiet.refl _⟩
 case round=>
  obtain ⟨j,hj,rfl,hq⟩:=hrel;by_cases h0:j<l.length
  .have hc:=(hq.ext.cell (eH (hA j h0))).trans (hA j h0)
   have hc':=(hq.ext.cell (eH (hB j h0))).trans (hB j h0);have g1:(j:Int)<(l.length:Int):=ae;have g2:(0:Int)<=(j:Int):=ae;go_wp2
   go_quiet (fail)
   go_wp2
   exact ⟨⟨j+1,ae,rfl,hq.drewN _⟩,bz⟩
  .have hj':j=l.length:=ae
   subst hj';go_wp2
   go_ret;exact ⟨rfl,hq.ext⟩
theorem oJ (w:World) (a b:Option Addr) (c c':Nat) (l:List Int) (hA:oD w a l) (hB:oD w b l) (hl:l.length<1000000):
 Calls prog 30 #[.slice a l.length c,.slice b l.length c'] w λe w'=>e= .returned (.bool true)/\Ext w w':=by
 go_enter func30,ntmps30
 go_wp2_with fail
 refine (BI _ _ _ _ _ _ hA hB hl).mono ?_;rintro e w1 ⟨rfl,hX⟩;go_wp2
 go_ret;exact ⟨rfl,hX⟩
open Go.ChangeShapes Go.WideShapes Go.ChangeAt
theorem Jy (fs:List Rat) (n:Nat) (hn:0<n) (h: ∀i,i<n->fs[i]?.getD 0<=fs[0]?.getD 0):fj fs n 0=0:=by
 obtain ⟨k,hk,he⟩:=CM fs n 0 hn;rcases Nat.eq_zero_or_pos k with rfl|hp
 .exact he
 .have h1:=vR fs n 0 k hp hk
  rw [he]at h1;have h2:=h _ (oy fs n 0 hn);unfold nu at h1;rcases h1 with h1|⟨_,h1⟩
  .exact absurd h1 (Rat.not_lt.2 h2)
  .omega
theorem PB:kr [mkRat 1 2,mkRat 1 2,((-1:Int):Rat)]= [1,0,-1]:=by
 have e2:mkRat 1 2=(1:Rat)/2:=by rw [Rat.mkRat_eq_div];rfl
 have e1:((-1:Int):Rat)= -1:=rfl;have z0:((0:Int):Rat)=0:=rfl;have f1:(mkRat 1 2).floor=0:=GX (by rw [e2,z0];grind) (by rw [e2,z0];grind);have f2:(((-1:Int):Rat)).floor= -1:=Rat.floor_intCast _
 have hs:bO [mkRat 1 2,mkRat 1 2,((-1:Int):Rat)]=((0:Int):Rat):=by
  rw [e2,e1];simp only [bO,List.foldl]
  have:((0:Int):Rat)=0:=rfl;grind
 have hz:fj (cR [mkRat 1 2,mkRat 1 2,((-1:Int):Rat)]) 3 0=0:=by
  refine Jy _ 3 ai ?_;intro i hi;have z0:((0:Int):Rat)=0:=rfl;rcases (show i=0\/i=1\/i=2 by omega)with rfl|rfl|rfl
  .exact Rat.le_refl
  .simp [cR]
  .simp only [cR,List.map_cons,List.map_nil,List.getElem?_cons_succ,List.getElem?_cons_zero,Option.getD_some,f1,f2]
   rw [e2,e1,z0];grind
 unfold kr;rw [hs,Rat.floor_intCast];simp only [List.length_cons,List.length_nil,Nat.reduceAdd,List.map_cons,List.map_nil,f1,f2];rw [show((0:Int)-gN [0,0,-1]).toNat=1 by decide];simp only [dZ];rw [hz];rfl
theorem MT:kr [mkRat 1 3,mkRat 1 3,mkRat 1 3]= [1,0,0]:=by
 have e3:mkRat 1 3=(1:Rat)/3:=by rw [Rat.mkRat_eq_div];rfl
 obtain ⟨h1,h2,h3⟩:=MS (mkRat 1 3) 1 0 (by rw [e3,show((1:Int):Rat)=1 from rfl];grind) (by rw [e3,show((0:Int):Rat)=0 from rfl];grind) (by rw [e3,show((0:Int):Rat)=0 from rfl];grind);rw [h1];simp [dZ,h2]
theorem CN {w:World} {r1 r2 r3:bE} {q1 q2 q3:Rat} {L b:Nat} {T:TypeId} (h1:fI w r1 q1 L) (h2:fI w r2 q2 L) (h3:fI w r3 q3 L) (hA:aY w b T (bX [r1,r2,r3])):
 jV w (some ⟨b,0,none⟩) 3 [r1,r2,r3] [q1,q2,q3] L:=by
 refine ⟨rfl,aX,ai,aX,?_,?_⟩
 .intro i hi
  refine ⟨b,0,rfl,?_,?_,?_⟩
  .rw [Nat.zero_add,hA.cell];exact dz _ i 0 hi ai
  .rw [Nat.zero_add,hA.cell];exact dz _ i 1 hi ai
  .rw [Nat.zero_add,hA.cell];exact dz _ i 2 hi ai
 .intro i hi
  have hi':i<3:=hi;rcases (show i=0\/i=1\/i=2 by omega)with rfl|rfl|rfl
  .exact h1
  .exact h2
  .exact h3
theorem uk {q:Rat} (h1:q<=1000000) (h2: -1000000<=q):my q:=by
 unfold my eU;have:((281474976710656:Int):Rat)=281474976710656:=rfl;constructor<;>grind
theorem GY (w:World):Calls prog 12 #[] w λe w'=>e= .returned (.bool true)/\Ext w w':=by
 have hH: ∀V,Calls prog 29 #[.int .i64 1,.int .i64 2] V (bD (mkRat 1 2) V):=λV=>SV V 1 2 ai ai ai;have hT: ∀V,Calls prog 29 #[.int .i64 1,.int .i64 3] V (bD (mkRat 1 3) V):=λV=>SV V 1 3 ai ai ai;have hM: ∀V,Calls prog 16 #[.int .i64 (-1)] V (bD ((-1:Int):Rat) V):=λV=>kf V (-1) ai ai;have e2:mkRat 1 2=(1:Rat)/2:=by rw [Rat.mkRat_eq_div];rfl
 have e3:mkRat 1 3=(1:Rat)/3:=by rw [Rat.mkRat_eq_div];rfl
 have e1:((-1:Int):Rat)= -1:=rfl;have l2:dW (mkRat 1 2)<=2:=by(have:=kn 1 2;have h1:len (1:Int).natAbs<=2:=ai;have h2:len 2<=2:=ai;omega)
 have l3:dW (mkRat 1 3)<=2:=by(have:=kn 1 3;have h1:len (1:Int).natAbs<=2:=ai;have h2:len 3<=2:=ai;omega)
 have l1:dW ((-1:Int):Rat)<=2:=by rw [gi];decide
 have k2:my (mkRat 1 2):=uk (by rw [e2];grind) (by rw [e2];grind);have k3:my (mkRat 1 3):=uk (by rw [e3];grind) (by rw [e3];grind);have k1:my ((-1:Int):Rat):=uk (by rw [e1];grind) (by rw [e1];grind)
 have hs:bO [mkRat 1 2,mkRat 1 2,((-1:Int):Rat)]=((0:Int):Rat):=by
  rw [e2,e1];simp only [bO,List.foldl]
  have:((0:Int):Rat)=0:=rfl;grind
 have hs3:bO [mkRat 1 3,mkRat 1 3,mkRat 1 3]=((1:Int):Rat):=by rw [AE,e3,show((1:Int):Rat)=1 from rfl];grind
 have o1:=PB;have o2:=MT;generalize mkRat 1 2=p at*;generalize mkRat 1 3=q at*;generalize ((-1:Int):Rat)=m at*;have HH:=af hH;have HT:=af hT;have HM:=af hM;have HS:=af hs;have Tp:=af hs3
 have O1:=af o1;have O2:=af o2
 clear hH hT hM hs hs3 o1 o2 e1 e2 e3;go_enter func12,ntmps12
 go_wp2_with fail
 refine (HH.o _).mono ?_;intro e w1 hN;obtain ⟨r1,rfl,hr1,x1⟩:=hN.jR;clear hN
 go_wp2_with fail
 refine (HH.o _).mono ?_;intro e w2 hN;obtain ⟨r2,rfl,hr2,x2⟩:=hN.jR;clear hN
 go_wp2_with fail
 refine (HM.o _).mono ?_;intro e w3 hN;obtain ⟨r3,rfl,hr3,x3⟩:=hN.jR;clear hN
 go_wp2_with fail
 obtain ⟨V,hV,xv,Zv,Av⟩:=bS w3 63 (bX [r1,r2,r3]);have hV':V=w3.alloc (.cells #[.bool r1.s,.slice r1.a r1.k r1.c,.slice r1.b r1.j r1.d,.bool r2.s,.slice r2.a r2.k r2.c,.slice r2.b r2.j r2.d,.bool r3.s,.slice r3.a r3.k r3.c,.slice r3.b r3.j r3.d] 63):=hV;rw [<-hV'];clear hV hV';have YV:=CN ((hr1.lZ.mono l2).ext ((x2.trans x3).trans xv)) ((hr2.lZ.mono l2).ext (x3.trans xv)) ((hr3.lZ.mono l1).ext xv) Av
 have hap:=Em V _ 3 2 _ _ YV aX aX ai (by
  intro i hi;have hi':i<3:=hi;rcases (show i=0\/i=1\/i=2 by omega)with rfl|rfl|rfl
  .exact k2
  .exact k2
  .exact k1) (by rw [HS.o,Rat.floor_intCast])
 rw [O1.o]at hap;have iU:=af hap;clear hap YV;refine iU.o.mono ?_;rintro e w4 ⟨p4,rfl,hp4,Hq,x4⟩;go_wp2_with fail
 refine (HT.o _).mono ?_;intro e w5 hN;obtain ⟨r5,rfl,BZ,x5⟩:=hN.jR;clear hN
 go_wp2_with fail
 refine (HT.o _).mono ?_;intro e w6 hN;obtain ⟨r6,rfl,C_,x6⟩:=hN.jR;clear hN
 go_wp2_with fail
 refine (HT.o _).mono ?_;intro e w7 hN;obtain ⟨r7,rfl,Ud,x7⟩:=hN.jR;clear hN
 go_wp2_with fail
 obtain ⟨U,hU,xu,Zu,Au⟩:=bS w7 63 (bX [r5,r6,r7]);have hU':U=w7.alloc (.cells #[.bool r5.s,.slice r5.a r5.k r5.c,.slice r5.b r5.j r5.d,.bool r6.s,.slice r6.a r6.k r6.c,.slice r6.b r6.j r6.d,.bool r7.s,.slice r7.a r7.k r7.c,.slice r7.b r7.j r7.d] 63):=hU;rw [<-hU'];clear hU hU';have YV:=CN ((BZ.lZ.mono l3).ext ((x6.trans x7).trans xu)) ((C_.lZ.mono l3).ext (x7.trans xu)) ((Ud.lZ.mono l3).ext xu) Au
 have hap:=Em U _ 3 2 _ _ YV aX aX ai (by
  intro i hi;have hi':i<3:=hi;rcases (show i=0\/i=1\/i=2 by omega)with rfl|rfl|rfl<;>exact k3) (by rw [Tp.o,Rat.floor_intCast])
 rw [O2.o]at hap;have iU:=af hap;clear hap YV;refine iU.o.mono ?_;rintro e w8 ⟨p8,rfl,hp8,hA8,x8⟩;have ac6:=Hq.ext ((((x5.trans x6).trans x7).trans xu).trans x8);have xw:Ext w w8:=((((((((x1.trans x2).trans x3).trans xv).trans x4).trans x5).trans x6).trans x7).trans xu).trans x8;clear Hq x1 x2 x3 xv x4 x5 x6 x7 xu x8;go_wp2_with fail
 have y5:=(Ext.refl w8).alloc (.cells #[.int .i64 1,.int .i64 0,.int .i64 (-1)] 3);refine (oJ _ _ _ _ _ [1,0,-1] (nt (ac6.ext y5)) (nt (aY.alloc w8 3 (ju [1,0,-1]))) ai).mono ?_;rintro e w9 ⟨rfl,y9⟩;go_wp2_with fail
 have y10:=(Ext.refl w9).alloc (.cells #[.int .i64 1,.int .i64 0,.int .i64 0] 3);refine (oJ _ _ _ _ _ [1,0,0] (nt (hA8.ext ((y5.trans y9).trans y10))) (nt (aY.alloc w9 3 (ju [1,0,0]))) ai).mono ?_;rintro e N7 ⟨rfl,y11⟩;go_wp2
 go_ret;exact ⟨rfl,(((xw.trans y5).trans y9).trans y10).trans y11⟩
theorem MU {w:World} {b i0 i1 i2:Nat} {p:Addr} {x v0 v1 v2:Value} (h:w.cell? p=some x) (hb:p.block≠b):(((w.setCell ⟨b,i0,none⟩ v0).setCell ⟨b,i1,none⟩ v1).setCell ⟨b,i2,none⟩ v2).cell? p=some x:=by
 rw [World.cell?_setCell_other _ _ _ _ (by intro e;exact hb (by rw [<-e])),World.cell?_setCell_other _ _ _ _ (by intro e;exact hb (by rw [<-e])),World.cell?_setCell_other _ _ _ _ (by intro e;exact hb (by rw [<-e])),h]
