/- Texts of the proof. -/
import Derived.Test.YtfokdakioeoniaaGreatCj47
set_option linter.all false
set_option maxHeartbeats 4000000
set_option maxRecDepth 100000
namespace Go.Proofs.YtfokdakioeoniaaGreat
open Go.Proofs.Tryz
open Go.RowKit
theorem AH {P:Program} {o:Oper} {a:Act} {w:World} (ty:TypeId) (x:Operand) (ho:o.op= .load ty x) (p:Addr) (hx:a.eval x= .pointer (some p)) (cs:List Value) (d:TypeDesc) (hc: ∀j v,cs[j]?=some v->w.cell? (p.add j)=some v)
 (hu:P.underlying ty=some d) (hd:(match d with| .struct _| .array _ _=>true|_=>false)=true) (hi:(P.info? ty).map (·.size)=some cs.length):(execOp a.eval o).run P w= .ok (.value (.agg cs.toArray)) w:=by
 unfold execOp;simp only [ho,hx,Instr.loadAt,Instr.sureAddr,Sem.run_bind,Sem.run_pure,Result.andThen_ok,jn w p ty cs d hc hu hd hi]
theorem jQ {P:Program} {o:Oper} {a:Act} {w:World} {Q:Exit->Act->World->Prop} {K:Act->World->Prop} (ty:TypeId) (x y:Operand) (ho:o.op= .store ty x y)
 (R:Nat) (cs cs':List Value) (hA:aY w R ty cs) (hx:a.eval x= .pointer (some ⟨R,0,none⟩)) (hy:a.eval y= .agg cs'.toArray) (hi:(P.info? ty).map (·.size)=some cs'.length) (hold:cs.length=cs'.length) (h1:cs'.all (·.oneCell')=true)
 (h: ∀w',aY w' R ty cs'->aH R w w'->K (a.put o.dst undef) w'):Oper.wp P o a w K Q:=by
 have hr:=run_storeVar_row (P:=P) w R ty ty cs.toArray cs'.toArray hA (by simpa using hi) (by simpa using hold) (by simpa using h1);unfold Oper.wp execOp;simp only [ho,hx,hy,Instr.storeAt,Instr.sureAddr,Sem.run_bind,Sem.run_pure,Result.andThen_ok,hr];refine h _ ?_ ?_
 .exact setRow_heap w R cs.toArray cs'.toArray ty (0,0) hA
 .refine ⟨rfl,rfl,rfl,cG,by simp [World.setRow],λk hk hne=> ?_⟩
  simp [World.setRow,Array.getElem?_modify,Ne.symm hne]
def MV (c:aq) (S:aQ) (p:aU) (h:Nat):Nat->Nat->Rat
 |0,i=>K0 c S p h i
 |1,i=>Px c S p h i
 |2,i=>Qv c S p h i
 |_,i=>EL c S p h i
theorem VI (c:aq) (S:aQ) (p:aU) (h i:Nat): -(p.b_.q h i*jG c S h i+qA c S p h*jG c S h i)=EL c S p h i:=by
 unfold EL;grind
theorem fE.YY {w:World} {r:bE} {q q':Rat} {L:Nat} (h:fE w r q L) (e:q=q'):fE w r q' L:=e▸h
theorem JA (V:World) (c:aq) (S:aQ) (p:aU) (h k i:Nat) (rs:bE) (hc:bK V c) (hA:Acc c) (hs:eM V S 4) (hp:fS V p 4) (ur:eY c S) (hf:mQ c p) (hh:(h:Int)<c.hours) (hm:p.moves.length<=100) (hn:S.moves.length<=1000) (ht:Ti c) (hq:fE V rs (qA c S p h) 100)
 (hk:(k=0/\i<c.ay.length)\/(k=1/\i<c.stores.length)\/(k=2/\i<c.bF.length)\/(k=3/\i<c.ar.length)):
 Calls prog 77 #[.agg (C8 c),.agg S.cells.toArray,.agg p.cells.toArray,.int .i64 (h:Int),.agg #[i64 (k:Int),i64 (i:Int)],.agg #[.bool rs.s,.slice rs.a rs.k rs.c,.slice rs.b rs.j rs.d]] V (λe w'=> ∃r:bE,e= .returned (.agg #[.bool r.s,.slice r.a r.k r.c,.slice r.b r.j r.d])/\fE w' r (MV c S p h k i) 81/\(∀k,k<V.heap.size->xi r (some k))/\Ext V w'):=by
 try unfold C8
 have HC:=af hc;have HA:=af hA;have HS:=af hs;have HP:=af hp;have kX:=af ur;have td:=af hf;have HH:=af hh;have HM:=af hm;have HN:=af hn;have xL:=af ht;have HQ:=af hq
 have ID:=af (H9.of hs hp);have pj:=hc.ay.lens;have Ar:=hc.stores.lens;have Gn:=hc.bF.lens;have RU:=hs.ay.lens;have nE:=hc.ar.lens
 have k6:(0:Int)<=(h:Int):=Int.natCast_nonneg h;have k5:(0:Int)<=(i:Int):=Int.natCast_nonneg i;clear hc hA hs hp ur hf hh hm hn ht hq;unfold aQ.cells aU.cells at*;go_enter func77,ntmps77
 go_upto_region 1 with fail
 generalize hW1:World.alloc V _=W1;generalize hW2:World.alloc W1 _=W2;generalize hW3:World.alloc W2 _=W3;generalize Nq:World.alloc W3 _=W4;generalize t_:World.alloc W4 _=W5;generalize hW:World.alloc W5 _=W;obtain ⟨G,R,B,N,U,Z,hG,hR,hB,hH,hU,hZ,HX,dY,gH,iU,HAN,Xz,yC,nW⟩:=GR hW1 hW2 hW3 Nq t_ hW;rw [<-hG];try rw [hR]
 try rw [hB]
 try rw [hH]
 try rw [hU]
 try rw [hZ]
 clear hW hW1 hW2 hW3 Nq t_ hG hR hB hH hU hZ;have s:=Ext.refl W;have KN:=λY (e:Ext W Y)=>(HAN.o.ext e).cs;replace KN:=gO KN;rcases hk with⟨rfl,hi⟩|⟨rfl,hi⟩|⟨rfl,hi⟩|⟨rfl,hi⟩
 .obtain ⟨b,ob,ha,D⟩:=(HC.o.ext HX.o).ay.adds i (by simpa using hi)
  rw [List.getElem_map]at D;have EI:=af (HA.o.ok.unit _ (List.getElem_mem hi)).fc;have qy:=af (sD (c:=c) hi);have ig:Hid (fG c i<c.ar.length):=by show _<_;rw [qy.o];have:=EI.o;omega
  have qI:Hid (c.ay[i].fc=((fG c i:Nat):Int)):=by show _=_;rw [qy.o];have:=EI.o;omega
  have KG: ∀Y,Ext W Y->Y.cell? ⟨G,4,none⟩=some (.slice (some ⟨b,ob,none⟩) c.ay.length c.uc):=λY e=>by rw [<-ha,(dY.o.ext e).cell];rfl
  have HD:Hid (∀Y,Ext W Y-> ∀j v,(c.ay[i].cells)[j]?=some v->Y.cell? ((⟨b,ob+i*22,none⟩:Addr).add j)=some v):=λY e j v q=>aB e (D j v q);generalize c.ay[i]=x at HD qI;clear ha D EI;obtain ⟨b2,o2,z,hz,KP⟩:=eZ gH.o (HS.o.ext HX.o).ay 0 rfl i (by rw [kX.o.ay];exact hi);replace KP:=jo KP;have QB:i<S.ay.length:=by rw [kX.o.ay];exact hi
  have k9:(i:Int)<(S.ay.length:Int):=Int.ofNat_lt.2 QB;have k7:(i:Int)<(c.ay.length:Int):=Int.ofNat_lt.2 hi;have MP:=af ((HS.o.ext HX.o).unit z (by rw [hz.o];exact List.getElem_mem QB)).2
  have AD:Hid (h<z.e.l.length/\h<z.r.l.length/\z.e.q h=Aw S i h/\z.r.q h=uw S i h):=by
   have h1:=kX.o.unit _ (List.getElem_mem QB);have:=HH.o;show _/\_/\_/\_;rw [Ji QB,Eb QB,hz.o];exact ⟨ae,ae,rfl,rfl⟩
  clear hz;go_upto_region 3 with fail
  go_cut [13,14] (λv1 v2 wx=> ∃B1 B2,v1= .pointer (some ⟨B1,0,none⟩)/\v2= .pointer (some ⟨B2,0,none⟩)/\Ext W wx/\aY wx B1 51 x.cells/\aY wx B2 41 z.cells)
  case first=>
   as_aux_lemma=>
    refine wG (λw=>Ext W w) (s.drew) λs=> ?_;generalize W.drew=Y at*;refine wV 0 s ?_;refine wV 1 s ?_;refine wV 2 s ?_;refine wV 3 s ?_;refine wV 4 s ?_;refine wV 5 (v:= .agg x.cells.toArray) s ?_ (hy:=λw e=>AH 51 _ rfl ⟨b,ob+i*22,none⟩ rfl x.cells _ (HD.o w e) underlying51 rfl aw);refine wV 6 s ?_;refine wV 7 s ?_;refine wV 8 s ?_;refine wV 9 s ?_;refine wV 10 s ?_;refine wV 11 s ?_;refine Mz 12 13 (λK' hK=> ?_) (λK' hK=> ?_)
    .rw [if_pos bQ]
     go_simp;generalize jS:World.alloc _ _=Wa;obtain ⟨B1,jT,x,A⟩:=aI jS;rw [<-jT];have DJ:=af A;have VJ:Hid (W.heap.size<=B1):=by have:=s.size;show _<=_;omega
     refine hK.o _ _ (s.trans x) λs=> ?_;clear hK K' x A jS jT;refine wR 13 λK' hK=> ?_;rw [if_pos bQ];go_simp;generalize jS:World.alloc _ _=Wb;obtain ⟨B2,jT,x,A⟩:=aI jS;rw [<-jT];have I1:=af A;have VK:Hid (W.heap.size<=B2):=by have:=s.size;show _<=_;omega
     have yx:Hid (B1≠B2):=by have:=DJ.o.lt;show _≠_;omega
     replace DJ:=af (DJ.o.ext x);refine hK.o _ _ (s.trans x) λs=> ?_;clear hK K' x A jS jT;refine wR 14 λK' hK=> ?_;rw [if_pos bQ];refine jQ 51 _ _ rfl B1 _ x.cells DJ.o rfl rfl aw rfl rfl ?_;intro wd wZ hx1;have LN:=af wZ;replace I1:=af (I1.o.gw hx1 (Ne.symm yx.o));refine hK.o _ _ (hx1.ext s VJ.o) λs=> ?_;clear hK K' wZ hx1;refine wR 15 λK' hK=> ?_;rw [if_pos bQ];refine jQ 41 _ _ rfl B2 _ z.cells I1.o rfl rfl aw rfl rfl ?_;intro we zD hx2;have yf:=af zD;replace LN:=af (LN.o.gw hx2 yx.o);refine hK.o _ _ (hx2.ext s VK.o) λs=> ?_;clear hK K' zD hx2;refine wD ?_;go_wp2
     go_meet
     exact ⟨B1,B2,rfl,rfl,s,LN.o,yf.o⟩
    .rw [if_pos bQ]
     go_simp;generalize jS:World.alloc _ _=Wa;obtain ⟨B2,jT,x,A⟩:=aI jS;rw [<-jT];have I1:=af A;have VK:Hid (W.heap.size<=B2):=by have:=s.size;show _<=_;omega
     refine hK.o _ _ (s.trans x) λs=> ?_;clear hK K' x A jS jT;refine wR 12 λK' hK=> ?_;rw [if_pos bQ];go_simp;generalize jS:World.alloc _ _=Wb;obtain ⟨B1,jT,x,A⟩:=aI jS;rw [<-jT];have DJ:=af A;have VJ:Hid (W.heap.size<=B1):=by have:=s.size;show _<=_;omega
     have yx:Hid (B1≠B2):=by have:=I1.o.lt;show _≠_;omega
     replace I1:=af (I1.o.ext x);refine hK.o _ _ (s.trans x) λs=> ?_;clear hK K' x A jS jT;refine wR 14 λK' hK=> ?_;rw [if_pos bQ];refine jQ 51 _ _ rfl B1 _ x.cells DJ.o rfl rfl aw rfl rfl ?_;intro wd wZ hx1;have LN:=af wZ;replace I1:=af (I1.o.gw hx1 (Ne.symm yx.o));refine hK.o _ _ (hx1.ext s VJ.o) λs=> ?_;clear hK K' wZ hx1;refine wR 15 λK' hK=> ?_;rw [if_pos bQ];refine jQ 41 _ _ rfl B2 _ z.cells I1.o rfl rfl aw rfl rfl ?_;intro we zD hx2;have yf:=af zD;replace LN:=af (LN.o.gw hx2 yx.o);refine hK.o _ _ (hx2.ext s VK.o) λs=> ?_;clear hK K' zD hx2;refine wD ?_;go_wp2
     go_meet
     exact ⟨B1,B2,rfl,rfl,s,LN.o,yf.o⟩
  case rest=>
   obtain ⟨B1,B2,rfl,rfl,x5,A1,A2⟩:=hcut;generalize wc=w5 at*;have oZ:=af A1;have xr:=af A2;have nB:=af x5
   clear A1 A2 x5 s KP KG HD KN;have KN:=λY (e:Ext w5 Y)=>(HAN.o.ext (nB.o.trans e)).cs;replace KN:=gO KN;have KB: ∀Y,Ext w5 Y->Y.cell? ⟨B1,1,none⟩=some (i64 ((fG c i:Nat):Int)):=λY e=>by rw [(oZ.o.ext e).cell,<-qI.o];rfl
   have k8:(0:Int)<=((fG c i:Nat):Int):=Int.natCast_nonneg _;obtain ⟨e1,e2,e3,e4,e5,e6,rE,Et,Tv,Nz,KE⟩:=ie (j:=0) (iU.o.ext nB.o) (HP.o.ext (HX.o.trans nB.o)).b_ rfl td.o.b_ h (fG c i) HH.o (Int.ofNat_lt.2 ig.o);obtain ⟨b6,o6,re,RI,k10,KZ⟩:=jP (j:=1) xr.o (MP.o.1.ext nB.o) rfl h AD.o.1;obtain ⟨b5,o5,rr,YZ,U4,KR⟩:=jP (j:=2) xr.o (MP.o.2.ext nB.o) rfl h AD.o.2.1;obtain ⟨b8,o8,rv,Y0,k12,KV⟩:=jP (j:=1) (iU.o.ext nB.o) (HP.o.bC.ext (HX.o.trans nB.o)) rfl h (ux td.o.bC HH.o);have s:=Ext.refl w5;go_upto_region 4 with fail
   go_cut [15] (λv wx=> ∃B3 r,v= .pointer (some ⟨B3,0,none⟩)/\Ext w5 wx/\Hid (w5.heap.size<=B3)/\aY wx B3 63 r.cells/\fE wx r (p.b_.q h (fG c i)*Aw S i h+p.bC.q h*uw S i h) 19)
   case first=>
    as_aux_lemma=>
     refine wG (λw=>Ext w5 w) (s.drew) λs=> ?_;generalize w5.drew=Y at*;refine wV 0 s ?_;refine wV 2 s ?_;refine wV 5 s ?_;refine wV 9 s ?_;refine wV 11 s ?_;refine wV 15 s ?_;refine wV 17 s ?_;refine wV 20 s ?_;refine wV 22 s ?_;refine wV 1 s ?_;refine wV 6 s ?_;refine wV 10 s ?_;refine wV 16 s ?_;refine wV 21 s ?_;refine wV 3 s ?_;refine wV 12 s ?_;refine wV 18 s ?_;refine wV 23 s ?_;refine wV 4 s ?_;refine wV 13 s ?_;refine wV 19 s ?_;refine wV 24 s ?_;refine wV 7 s ?_;refine wV 8 s ?_;refine Mz 14 27 (λK' hK=> ?_) (λK' hK=> ?_)
     .rw [if_pos bQ]
      go_simp;refine (qx _ _ _ _ _ 4 4 (Et.o.ext s) (RI.o.ext s)).mono ?_;rintro e Qz ⟨r1,rfl,hn,bJ,x⟩;have cD:=af hn;refine hK.o _ _ (s.trans x) λs=> ?_;clear hK K' x hn bJ;refine Mz 25 27 (λK' hK=> ?_) (λK' hK=> ?_)
      .rw [if_pos bQ]
       go_simp;refine (qx _ _ _ _ _ 4 4 (Y0.o.ext s) (YZ.o.ext s)).mono ?_;rintro e w25 ⟨r2,rfl,hn,bJ,x⟩;have dL:=af hn;replace cD:=af (cD.o.ext x);refine hK.o _ _ (s.trans x) λs=> ?_;clear hK K' x hn bJ;refine Mz 26 27 (λK' hK=> ?_) (λK' hK=> ?_)
       .rw [if_pos bQ]
        go_simp;refine (vr _ _ _ _ _ 9 9 cD.o dL.o).mono ?_;rintro e w26 ⟨r3,rfl,hn,bJ,x⟩;have iH:=af hn;replace cD:=af (cD.o.ext x);replace dL:=af (dL.o.ext x);refine hK.o _ _ (s.trans x) λs=> ?_;clear hK K' x hn bJ;refine wR 27 λK' hK=> ?_;rw [if_pos bQ];go_simp;generalize jS:World.alloc _ _=Wa;obtain ⟨B,jT,x,A⟩:=aI jS;rw [<-jT];have fz:=af A;have ig:Hid (w5.heap.size<=B):=by have:=s.size;show _<=_;omega
        replace cD:=af (cD.o.ext x);replace dL:=af (dL.o.ext x);replace iH:=af (iH.o.ext x);refine hK.o _ _ (s.trans x) λs=> ?_;clear hK K' x A jS jT;refine wR 28 λK' hK=> ?_;rw [if_pos bQ];have KA:=(fz.o).cs;replace KA:=gO KA;have f3:=λi=>fz.o.frozen i;go_simp;have iB:=af (dE fz.o rfl iH.o);refine hK.o _ _ ((cF _ B r3).ext s ig.o) λs=> ?_;clear hK K' KA f3;refine wD ?_;go_wp2
        go_meet
        exact ⟨B,r3,rfl,s,ig.o,iB.o.1,by rw [<-AD.o.2.2.1,<-AD.o.2.2.2];exact iB.o.2⟩
       .rw [if_pos bQ]
        go_simp;generalize jS:World.alloc _ _=Wa;obtain ⟨B,jT,x,A⟩:=aI jS;rw [<-jT];have fz:=af A;have ig:Hid (w5.heap.size<=B):=by have:=s.size;show _<=_;omega
        replace cD:=af (cD.o.ext x);replace dL:=af (dL.o.ext x);refine hK.o _ _ (s.trans x) λs=> ?_;clear hK K' x A jS jT;refine wR 26 λK' hK=> ?_;rw [if_pos bQ];go_simp;refine (vr _ _ _ _ _ 9 9 cD.o dL.o).mono ?_;rintro e w26 ⟨r3,rfl,hn,bJ,x⟩;have iH:=af hn;replace cD:=af (cD.o.ext x);replace dL:=af (dL.o.ext x);replace fz:=af (fz.o.ext x);refine hK.o _ _ (s.trans x) λs=> ?_;clear hK K' x hn bJ;refine wR 28 λK' hK=> ?_;rw [if_pos bQ];have KA:=(fz.o).cs;replace KA:=gO KA;have f3:=λi=>fz.o.frozen i;go_simp;have iB:=af (dE fz.o rfl iH.o);refine hK.o _ _ ((cF _ B r3).ext s ig.o) λs=> ?_;clear hK K' KA f3;refine wD ?_;go_wp2
        go_meet
        exact ⟨B,r3,rfl,s,ig.o,iB.o.1,by rw [<-AD.o.2.2.1,<-AD.o.2.2.2];exact iB.o.2⟩
      .rw [if_pos bQ]
       go_simp;generalize jS:World.alloc _ _=Wa;obtain ⟨B,jT,x,A⟩:=aI jS;rw [<-jT];have fz:=af A;have ig:Hid (w5.heap.size<=B):=by have:=s.size;show _<=_;omega
       replace cD:=af (cD.o.ext x);refine hK.o _ _ (s.trans x) λs=> ?_;clear hK K' x A jS jT;refine wR 25 λK' hK=> ?_;rw [if_pos bQ];go_simp;refine (qx _ _ _ _ _ 4 4 (Y0.o.ext s) (YZ.o.ext s)).mono ?_;rintro e w25 ⟨r2,rfl,hn,bJ,x⟩;have dL:=af hn;replace cD:=af (cD.o.ext x);replace fz:=af (fz.o.ext x);refine hK.o _ _ (s.trans x) λs=> ?_;clear hK K' x hn bJ;refine wR 26 λK' hK=> ?_;rw [if_pos bQ];go_simp;refine (vr _ _ _ _ _ 9 9 cD.o dL.o).mono ?_;rintro e w26 ⟨r3,rfl,hn,bJ,x⟩;have iH:=af hn;replace cD:=af (cD.o.ext x);replace dL:=af (dL.o.ext x);replace fz:=af (fz.o.ext x);refine hK.o _ _ (s.trans x) λs=> ?_;clear hK K' x hn bJ;refine wR 28 λK' hK=> ?_;rw [if_pos bQ];have KA:=(fz.o).cs;replace KA:=gO KA;have f3:=λi=>fz.o.frozen i;go_simp;have iB:=af (dE fz.o rfl iH.o);refine hK.o _ _ ((cF _ B r3).ext s ig.o) λs=> ?_;clear hK K' KA f3;refine wD ?_;go_wp2
       go_meet
       exact ⟨B,r3,rfl,s,ig.o,iB.o.1,by rw [<-AD.o.2.2.1,<-AD.o.2.2.2];exact iB.o.2⟩
     .rw [if_pos bQ]
      go_simp;generalize jS:World.alloc _ _=Wa;obtain ⟨B,jT,x,A⟩:=aI jS;rw [<-jT];have fz:=af A;have ig:Hid (w5.heap.size<=B):=by have:=s.size;show _<=_;omega
      refine hK.o _ _ (s.trans x) λs=> ?_;clear hK K' x A jS jT;refine wR 14 λK' hK=> ?_;rw [if_pos bQ];go_simp;refine (qx _ _ _ _ _ 4 4 (Et.o.ext s) (RI.o.ext s)).mono ?_;rintro e Qz ⟨r1,rfl,hn,bJ,x⟩;have cD:=af hn;replace fz:=af (fz.o.ext x);refine hK.o _ _ (s.trans x) λs=> ?_;clear hK K' x hn bJ;refine wR 25 λK' hK=> ?_;rw [if_pos bQ];go_simp;refine (qx _ _ _ _ _ 4 4 (Y0.o.ext s) (YZ.o.ext s)).mono ?_;rintro e w25 ⟨r2,rfl,hn,bJ,x⟩;have dL:=af hn;replace cD:=af (cD.o.ext x);replace fz:=af (fz.o.ext x);refine hK.o _ _ (s.trans x) λs=> ?_;clear hK K' x hn bJ;refine wR 26 λK' hK=> ?_;rw [if_pos bQ];go_simp;refine (vr _ _ _ _ _ 9 9 cD.o dL.o).mono ?_;rintro e w26 ⟨r3,rfl,hn,bJ,x⟩;have iH:=af hn;replace cD:=af (cD.o.ext x);replace dL:=af (dL.o.ext x);replace fz:=af (fz.o.ext x);refine hK.o _ _ (s.trans x) λs=> ?_;clear hK K' x hn bJ;refine wR 28 λK' hK=> ?_;rw [if_pos bQ];have KA:=(fz.o).cs;replace KA:=gO KA;have f3:=λi=>fz.o.frozen i;go_simp;have iB:=af (dE fz.o rfl iH.o);refine hK.o _ _ ((cF _ B r3).ext s ig.o) λs=> ?_;clear hK K' KA f3;refine wD ?_;go_wp2
      go_meet
      exact ⟨B,r3,rfl,s,ig.o,iB.o.1,by rw [<-AD.o.2.2.1,<-AD.o.2.2.2];exact iB.o.2⟩
   case rest=>
    obtain ⟨B3,r1,rfl,x6,Gm,A5,hr1⟩:=hcut;generalize wc=w6 at*;have DN:=af A5;have tO:=af hr1;have yS:=af (nB.o.trans x6)
    clear A5 hr1 x6 s KB KE KZ KR KV KN;have K:=λY (e:Ext w6 Y)=>aq.at (dY.o.ext (yS.o.trans e));have K1:=λY (e:Ext w6 Y)=>(gH.o.ext (yS.o.trans e)).cs;have K2:=λY (e:Ext w6 Y)=>(iU.o.ext (yS.o.trans e)).cs;have KN:=λY (e:Ext w6 Y)=>(HAN.o.ext (yS.o.trans e)).cs;have KA:=λY (e:Ext w6 Y)=>(DN.o.ext e).cs;simp only [Cs,bE.cells,aQ.cells,Nat.add_zero,Nat.zero_add,Nat.reduceAdd,and_true]at K1 K2 KN KA;have Rq:=af (λU (x:Ext w6 U)=>G8 U c p i (h:Int) S.ma S.mc S.moves (HC.o.ext (HX.o.trans (yS.o.trans x))) HA.o (HP.o.ext (HX.o.trans (yS.o.trans x))) td.o (HS.o.ext (HX.o.trans (yS.o.trans x))).moves (HS.o.ext (HX.o.trans (yS.o.trans x))).move kX.o.moves hi HM.o HN.o);unfold aU.cells at Rq;have s:=Ext.refl w6;go_upto_region 5 with fail
    refine zG 10 (λw=>Ext w6 w) (s.drew) λs=> ?_;generalize w6.drew=Y at*;refine zV 0 s ?_;refine zV 1 s ?_;refine zV 2 s ?_;refine zV 3 s ?_;refine zV 5 s ?_;refine zV 6 s ?_;refine zV 4 s ?_;refine zV 7 s ?_;refine zR 8 λK' hK=> ?_;rw [if_pos bQ];go_simp;refine (Rq.o _ s).mono ?_;rintro e w8 ⟨rm,rfl,hn,x⟩;have JB:=af hn;refine hK.o _ _ (s.trans x) λs=> ?_;clear hK K' x hn;refine zR 9 λK' hK=> ?_;rw [if_pos bQ];go_simp;refine (vr _ _ _ _ _ 19 2000000 (tO.o.ext s) JB.o).mono ?_;rintro e w9 ⟨r8,rfl,hn,bJ,x⟩;have qf:=af (fE.tight (show dO _ r8 (K0 c S p h i) _ by rw [K0];exact bJ) (yZ ID.o kX.o.moves td.o xL.o h i));replace JB:=af (JB.o.ext x);have JC:=af (λk (hk:k<V.heap.size)=>om bJ (Nat.lt_of_lt_of_le hk ((HX.o.trans yS.o).trans s).size));refine hK.o _ _ (s.trans x) λs=> ?_;clear hK K' x hn bJ;have JD:=af (yC.o.ext (yS.o.trans s));have KZ:=JD.o.cs;replace KZ:=gO KZ;have f3:=λi=>JD.o.frozen i;refine zL 10 λK' hK=> ?_;rw [if_pos bQ];go_simp;refine hK.o _ _ ?_;have iB:=af (dE JD.o rfl (qf.o));have AJ:=af ((cF _ Z r8).ext (HX.o.trans (yS.o.trans s)) nW.o);clear hK K' f3 KZ;unfold mK at iB AJ;clear s;generalize World.setCell _ _ _=W9 at iB AJ⊢;go_wp2_with fail
    refine bodyPost_ret (v:= .agg #[.bool r8.s,.slice r8.a r8.k r8.c,.slice r8.b r8.j r8.d]) (ib 12 _ rfl rfl iB.o.1 underlying63 rfl aw) rfl ?_;exact ⟨r8,rfl,iB.o.2,JC.o,AJ.o⟩
 .obtain ⟨b7,o7,v,hv,KV⟩:=eZ dY.o (HC.o.ext HX.o).stores 5 rfl i hi
  have EI:=af (HA.o.ok.store _ (List.getElem_mem hi)).fc;have qy:=af (DR (c:=c) hi);have ig:Hid (ki c i<c.ar.length):=by show _<_;rw [qy.o];have:=EI.o;omega
  replace KV: ∀Y,Ext W Y->Y.cell? ⟨G,5,none⟩=some (.slice (some ⟨b7,o7,none⟩) c.stores.length c.sc)/\Y.cell? ⟨b7,o7+i*9+1,none⟩=some (i64 ((ki c i:Nat):Int)):=λY e=>⟨(KV Y e).1,by
   have h1:v.fc=((ki c i:Nat):Int):=by rw [qy.o,hv.o];have:=EI.o;omega
   rw [<-h1];exact (KV Y e).2.2.1⟩
  have k9:(0:Int)<=((ki c i:Nat):Int):=Int.natCast_nonneg _;have k7:(i:Int)<(c.stores.length:Int):=Int.ofNat_lt.2 hi;obtain ⟨e1,e2,e3,e4,e5,e6,rE,Et,Tv,Nz,KE⟩:=ie (j:=0) iU.o (HP.o.ext HX.o).b_ rfl td.o.b_ h (ki c i) HH.o (Int.ofNat_lt.2 ig.o);clear hv;obtain ⟨d1,d2,d3,d4,d5,d6,rd,CG,kd1,kd2,Kd⟩:=ie (j:=2) gH.o ((HS.o.ext HX.o).kT S.disch aX) rfl kX.o.disch i h ae HH.o;obtain ⟨g1,g2,g3,g4,g5,g6,rc,WA,kg1,kg2,Kg⟩:=ie (j:=1) gH.o ((HS.o.ext HX.o).kT S.cB aX) rfl kX.o.cB i h ae HH.o;go_upto_region 7 with fail
  refine zG 34 (λw=>Ext W w) (s.drew) λs=> ?_;generalize W.drew=Y at*;refine zV 0 s ?_;refine zV 2 s ?_;refine zV 5 s ?_;refine zV 7 s ?_;refine zV 14 s ?_;refine zV 16 s ?_;refine zV 20 s ?_;refine zV 23 s ?_;refine zV 25 s ?_;refine zV 29 s ?_;refine zV 1 s ?_;refine zV 6 s ?_;refine zV 8 s ?_;refine zV 15 s ?_;refine zV 17 s ?_;refine zV 24 s ?_;refine zV 26 s ?_;refine zV 3 s ?_;refine zV 9 s ?_;refine zV 18 s ?_;refine zV 27 s ?_;refine zV 4 s ?_;refine zV 10 s ?_;refine zV 19 s ?_;refine zV 28 s ?_;refine zV 11 s ?_;refine zV 21 s ?_;refine zV 30 s ?_;refine zV 12 s ?_;refine zV 22 s ?_;refine zV 31 s ?_;refine zV 13 s ?_;refine zN 32 s (Kt _ _ _ _ _ 4 4 (CG.o.ext s) (WA.o.ext s)) λr1 w32 cD bJ x s=> ?_;clear x bJ;have sy:=(HX.o.trans s).size;refine zN 33 s (qx _ _ _ _ _ 4 9 (Et.o.ext s) cD.o) λr8 w33 qf bJ x s=> ?_;have JC:=af (λk (hk:k<V.heap.size)=>om bJ.o (Nat.lt_of_lt_of_le hk sy));clear x bJ sy;have JD:=af (yC.o.ext ((Ext.refl W).trans s));have KZ:=JD.o.cs;replace KZ:=gO KZ;have f3:=λi=>JD.o.frozen i;refine zL 34 λK' hK=> ?_;rw [if_pos bQ];go_simp;refine hK.o _ _ ?_;have iB:=af (dE JD.o rfl ((qf.o.mono (show _<=81 by decide)).YY (q':=MV c S p h 1 i) rfl));have AJ:=af ((cF _ Z r8).ext (HX.o.trans ((Ext.refl W).trans s)) nW.o);clear hK K' f3 KZ;unfold mK at iB AJ;clear s;generalize World.setCell _ _ _=W9 at iB AJ⊢;go_wp2_with fail
  refine bodyPost_ret (v:= .agg #[.bool r8.s,.slice r8.a r8.k r8.c,.slice r8.b r8.j r8.d]) (ib 12 _ rfl rfl iB.o.1 underlying63 rfl aw) rfl ?_;exact ⟨r8,rfl,iB.o.2,JC.o,AJ.o⟩
 .obtain ⟨b7,o7,v,hv,KV⟩:=eZ dY.o (HC.o.ext HX.o).bF 6 rfl i hi
  have EI:=af (HA.o.ok.tie _ (List.getElem_mem hi)).fc;have qy:=af (DT (c:=c) hi);have ig:Hid (kL c i<c.ar.length):=by show _<_;rw [qy.o];have:=EI.o;omega
  replace KV: ∀Y,Ext W Y->Y.cell? ⟨G,6,none⟩=some (.slice (some ⟨b7,o7,none⟩) c.bF.length c.tc)/\Y.cell? ⟨b7,o7+i*5+1,none⟩=some (i64 ((kL c i:Nat):Int)):=λY e=>⟨(KV Y e).1,by
   have h1:v.fc=((kL c i:Nat):Int):=by rw [qy.o,hv.o];have:=EI.o;omega
   rw [<-h1];exact (KV Y e).2.2.1⟩
  have k9:(0:Int)<=((kL c i:Nat):Int):=Int.natCast_nonneg _;have k7:(i:Int)<(c.bF.length:Int):=Int.ofNat_lt.2 hi;obtain ⟨e1,e2,e3,e4,e5,e6,rE,Et,Tv,Nz,KE⟩:=ie (j:=0) iU.o (HP.o.ext HX.o).b_ rfl td.o.b_ h (kL c i) HH.o (Int.ofNat_lt.2 ig.o);clear hv;obtain ⟨d1,d2,d3,d4,d5,d6,rd,CG,kd1,kd2,Kd⟩:=ie (j:=4) gH.o ((HS.o.ext HX.o).kT S.imp aX) rfl kX.o.imp i h ae HH.o;go_upto_region 9 with fail
  refine zG 24 (λw=>Ext W w) (s.drew) λs=> ?_;generalize W.drew=Y at*;refine zV 0 s ?_;refine zV 2 s ?_;refine zV 5 s ?_;refine zV 7 s ?_;refine zV 14 s ?_;refine zV 16 s ?_;refine zV 20 s ?_;refine zV 1 s ?_;refine zV 6 s ?_;refine zV 8 s ?_;refine zV 15 s ?_;refine zV 17 s ?_;refine zV 3 s ?_;refine zV 9 s ?_;refine zV 18 s ?_;refine zV 4 s ?_;refine zV 10 s ?_;refine zV 19 s ?_;refine zV 11 s ?_;refine zV 21 s ?_;refine zV 12 s ?_;refine zV 22 s ?_;refine zV 13 s ?_;have sy:=(HX.o.trans s).size;refine zN 23 s (qx _ _ _ _ _ 4 4 (Et.o.ext s) (CG.o.ext s)) λr8 w23 qf bJ x s=> ?_;have JC:=af (λk (hk:k<V.heap.size)=>om bJ.o (Nat.lt_of_lt_of_le hk sy));clear x bJ sy;have JD:=af (yC.o.ext ((Ext.refl W).trans s));have KZ:=JD.o.cs;replace KZ:=gO KZ;have f3:=λi=>JD.o.frozen i;refine zL 24 λK' hK=> ?_;rw [if_pos bQ];go_simp;refine hK.o _ _ ?_;have iB:=af (dE JD.o rfl ((qf.o.mono (show _<=81 by decide)).YY (q':=MV c S p h 2 i) rfl));have AJ:=af ((cF _ Z r8).ext (HX.o.trans ((Ext.refl W).trans s)) nW.o);clear hK K' f3 KZ;unfold mK at iB AJ;clear s;generalize World.setCell _ _ _=W9 at iB AJ⊢;go_wp2_with fail
  refine bodyPost_ret (v:= .agg #[.bool r8.s,.slice r8.a r8.k r8.c,.slice r8.b r8.j r8.d]) (ib 12 _ rfl rfl iB.o.1 underlying63 rfl aw) rfl ?_;exact ⟨r8,rfl,iB.o.2,JC.o,AJ.o⟩
 .have K:=λY (e:Ext W Y)=>aq.at (dY.o.ext e)
  have K1:=λY (e:Ext W Y)=>(gH.o.ext e).cs;simp only [Cs,aQ.cells,Nat.add_zero,Nat.zero_add,Nat.reduceAdd,and_true]at K1;have WJ:=af (Aq W c S i h (HC.o.ext HX.o) HA.o (HS.o.ext HX.o) hi HH.o kX.o.er);unfold aQ.cells at WJ;go_wp2_with fail
  refine WJ.o.mono ?_;rintro e w4 ⟨rd,rfl,Y2,-,x4⟩;have Mi:=af Y2;go_upto_region 11 with(refine aT rfl 63 _ _ rfl _ [.bool rd.s,.slice rd.a rd.k rd.c,.slice rd.b rd.j rd.d] rfl rfl aw rfl rfl ?_)
  generalize t_:World.alloc w4 _=w5;obtain ⟨B3,Gm,x5,A5⟩:=aI t_;rw [<-Gm];try simp only [Act.put]
  have KA:=λY (e:Ext w5 Y)=>(A5.ext e).cs;have nB:=af (x4.trans x5);replace Mi:=af (Mi.o.ext x5);clear t_ Gm x4 x5 A5 Y2 s K K1 WJ KN;have KN:=λY (e:Ext w5 Y)=>(HAN.o.ext (nB.o.trans e)).cs;have KQ:=λY (e:Ext w5 Y)=>(Xz.o.ext (nB.o.trans e)).cs;replace KA:=gO KA;replace KN:=gO KN;replace KQ:=gO KQ;obtain ⟨e1,e2,e3,e4,e5,e6,rE,Et,Tv,Nz,KE⟩:=ie (j:=0) (iU.o.ext nB.o) (HP.o.ext (HX.o.trans nB.o)).b_ rfl td.o.b_ h i HH.o (Int.ofNat_lt.2 hi);have HRQ:=af (HQ.o.ext (HX.o.trans nB.o));have s:=Ext.refl w5;refine zG 16 (λw=>Ext w5 w) (s.drew) λs=> ?_;generalize w5.drew=Y at*;refine zV 0 s ?_;refine zV 2 s ?_;refine zV 5 s ?_;refine zV 9 s ?_;refine zV 11 s ?_;refine zV 12 s ?_;refine zV 1 s ?_;refine zV 6 s ?_;refine zV 3 s ?_;refine zV 4 s ?_;refine zV 7 s ?_;refine zV 8 s ?_;refine zR 10 λK' hK=> ?_;rw [if_pos bQ];go_simp;refine (qx _ _ _ _ _ 4 6 (Et.o.ext s) (Mi.o.ext s)).mono ?_;rintro e xZ ⟨r1,rfl,hn,bJ,x⟩;have cD:=af hn;refine hK.o _ _ (s.trans x) λs=> ?_;clear hK K' x hn bJ;refine zR 13 λK' hK=> ?_;rw [if_pos bQ];go_simp;refine (qx _ _ _ _ _ 100 6 (HRQ.o.ext s) (Mi.o.ext s)).mono ?_;rintro e Vy ⟨r2,rfl,hn,bJ,x⟩;have dL:=af hn;replace cD:=af (cD.o.ext x);refine hK.o _ _ (s.trans x) λs=> ?_;clear hK K' x hn bJ;refine zR 14 λK' hK=> ?_;rw [if_pos bQ];go_simp;refine (vr _ _ _ _ _ 11 107 cD.o dL.o).mono ?_;rintro e Qz ⟨r3,rfl,hn,bJ,x⟩;have iH:=af hn;replace cD:=af (cD.o.ext x);replace dL:=af (dL.o.ext x);refine hK.o _ _ (s.trans x) λs=> ?_;clear hK K' x hn bJ;refine zR 15 λK' hK=> ?_;rw [if_pos bQ];go_simp;refine (Yp _ _ _ 119 iH.o).mono ?_;rintro e w15 ⟨r8,rfl,hn,bJ,x⟩;have qf:=af (fE.tight (show dO _ r8 (EL c S p h i) _ by rw [<-VI];exact bJ) (Nat.le_trans (Ep ID.o HA.o xL.o h i) (show 76<=81 by decide)));replace cD:=af (cD.o.ext x);replace dL:=af (dL.o.ext x);replace iH:=af (iH.o.ext x);have JC:=af (λk (hk:k<V.heap.size)=>om bJ (Nat.lt_of_lt_of_le hk ((HX.o.trans nB.o).trans s).size));refine hK.o _ _ (s.trans x) λs=> ?_;clear hK K' x hn bJ;have JD:=af (yC.o.ext (nB.o.trans s));have KZ:=JD.o.cs;replace KZ:=gO KZ;have f3:=λi=>JD.o.frozen i;refine zL 16 λK' hK=> ?_;rw [if_pos bQ];go_simp;refine hK.o _ _ ?_;have iB:=af (dE JD.o rfl (qf.o));have AJ:=af ((cF _ Z r8).ext (HX.o.trans (nB.o.trans s)) nW.o);clear hK K' f3 KZ;unfold mK at iB AJ;clear s;generalize World.setCell _ _ _=W9 at iB AJ⊢;go_wp2_with fail
  refine bodyPost_ret (v:= .agg #[.bool r8.s,.slice r8.a r8.k r8.c,.slice r8.b r8.j r8.d]) (ib 12 _ rfl rfl iB.o.1 underlying63 rfl aw) rfl ?_;exact ⟨r8,rfl,iB.o.2,JC.o,AJ.o⟩
theorem VU (w:World) (a:Option Addr) (c L:Nat) (rs:List bE) (qs:List Rat) (h:jV w a c rs qs L) (hn:rs.length<=128) (hL:L<100000) (jb:Nat) (hjb:jb<rs.length) (hall: ∀i (hi:i<jb),my (qs[i]'(by rw [h.len];omega))) (jc: ¬my (qs[jb]'(by rw [h.len];exact hjb))):
 Calls prog 28 #[.slice a rs.length c] w λe w'=>e= .returned (.tuple #[.slice none 0 0,.int .i64 8])/\Ext w w':=by
 have hle:=h.le;have eI:=h.cap;have ur:=h.short;go_enter func28,ntmps28
 go_wp2_with fail
 refine (ko _ _ ai ai).mono ?_;intro e w1 hN;obtain ⟨r1,rfl,hr1,hx1⟩:=hN.jR;have lim:=hr1.lZ;clear hN;go_upto_region 4 with fail
 obtain ⟨W,hW,x0,Z0,A0⟩:=bS w1 63 [.bool r1.s,.slice r1.a r1.k r1.c,.slice r1.b r1.j r1.d];rw [<-hW];clear hW;have xW:Ext w W:=hx1.trans x0;have RZ:fI W r1 eU 2:=(lim.ext x0).mono (by show dW (((281474976710656:Int):Rat))<=2;rw [gi];decide);have hW:=h.ext xW;clear lim hr1;go_wp2
 go_loopw [23] (λii wr=> ∃j:Nat,j<=jb/\Ext W wr/\ii= .int .i64 j) (λii _=>rs.length-(intOf ii).toNat)
 case atStart=>exact ⟨0,bm,ah,rfl⟩
 case round=>
  obtain ⟨j,hj,hE,rfl⟩:=hrel;have hlt:j<rs.length:=ae
  .have hq:=hW.ext hE
   obtain ⟨b,o,rfl⟩:=h.at ae;obtain ⟨b',o',e',c0,c1,c2⟩:=hq.cell j hlt;cases e'
   obtain ⟨n2,EM,g1,g2,gq,N9,N_⟩:=hq.num j hlt;obtain ⟨n1,m1',f1,f2,fq,ZX,ZY⟩:=RZ.ext hE;have PA:=λV (hV:Ext wr V)=>kq V rs[j].s _ _ _ _ _ _ _ _ (g1.ext hV) (g2.ext hV) r1.s _ _ _ _ _ _ _ _ (f1.ext hV) (f2.ext hV) ae ae ae ae;have MQ:=λV (hV:Ext wr V)=>(De V rs[j].s _ _ _ _ _ _ _ _ (g1.ext hV) (g2.ext hV) ae ae).mono (λ_ _ hh=>hh.mO)
   have AZ:dW (-(qs[j]'(by rw [h.len];exact hlt)))<100000000:=by
    rw [mU];have:=(hq.num j hlt).dW;omega
   have GV: ∀V a1 c1 b1 d1,Ext wr V->Raw V a1 (len (-(mkRat (bf rs[j].s n2) EM)).num.natAbs) c1 (-(mkRat (bf rs[j].s n2) EM)).num.natAbs->Raw V b1 (len (-(mkRat (bf rs[j].s n2) EM)).den) d1 (-(mkRat (bf rs[j].s n2) EM)).den->Calls prog 62 #[.agg #[.bool (decide ((-(mkRat (bf rs[j].s n2) EM)).num<0)),.slice a1 (len (-(mkRat (bf rs[j].s n2) EM)).num.natAbs) c1,.slice b1 (len (-(mkRat (bf rs[j].s n2) EM)).den) d1],.agg #[.bool r1.s,.slice r1.a r1.k r1.c,.slice r1.b r1.j r1.d]] V λe w'=>e= .returned (.int .i64 (fY (-(mkRat (bf rs[j].s n2) EM)) (mkRat (bf r1.s n1) m1')))/\Ext V w':=by
    intro V a1 c1 b1 d1 hV hR IE;rw [<-gq]at*;have l1:=iN (-(qs[j]'(by rw [h.len];exact hlt)));have l2:=iw (-(qs[j]'(by rw [h.len];exact hlt)));have:=kq V (decide ((-(qs[j]'(by rw [h.len];exact hlt))).num<0)) a1 b1 _ c1 _ d1 _ _ hR IE r1.s _ _ _ _ _ _ _ _ (f1.ext hV) (f2.ext hV) ae ae ae ae;rw [dJ,Rat.mkRat_self]at this;exact this
   rw [<-fq]at PA GV;rw [<-gq]at PA MQ GV
   have hz:(j<jb/\decide ((0:Int)<fY (qs[j]'(by rw [h.len];exact hlt)) eU)=false/\decide ((0:Int)<fY (-(qs[j]'(by rw [h.len];exact hlt))) eU)=false)\/decide ((0:Int)<fY (qs[j]'(by rw [h.len];exact hlt)) eU)=true\/(decide ((0:Int)<fY (qs[j]'(by rw [h.len];exact hlt)) eU)=false/\decide ((0:Int)<fY (-(qs[j]'(by rw [h.len];exact hlt))) eU)=true):=by
    by_cases VV:j<jb
    .have yq:=hall j VV
     exact Or.inl ⟨VV,gJ yq.1,gJ yq.2⟩
    .obtain rfl:j=jb:=ae
     by_cases h1:(qs[j]'(by rw [h.len];exact hlt))<=eU
     .exact Or.inr (Or.inr ⟨gJ h1,oI (λh2=>jc ⟨h1,h2⟩)⟩)
     .exact Or.inr (Or.inl (oI h1))
   generalize fY (qs[j]'(by rw [h.len];exact hlt)) eU=t1 at PA hz;generalize fY (-(qs[j]'(by rw [h.len];exact hlt))) eU=t2 at GV hz;generalize decide ((-(qs[j]'(by rw [h.len];exact hlt))).num<0)=sN at MQ GV;generalize (-(qs[j]'(by rw [h.len];exact hlt))).num.natAbs=nN at MQ GV;generalize (-(qs[j]'(by rw [h.len];exact hlt))).den=dN at MQ GV;generalize rs[j]=y at*;clear gq fq hq;have zm:=af PA;have TC:=af MQ;have Fe:=af GV
   clear PA MQ GV;go_upto_region 7 with fail
   obtain ⟨V,hV,xv,Zv,Av⟩:=bS wr 63 [.bool y.s,.slice y.a y.k y.c,.slice y.b y.j y.d];rw [<-hV];clear hV;obtain ⟨m0,m1,m2,-,-,-⟩:=aA Av ah;obtain ⟨k0,k1,k2,-,-,-⟩:=aA A0 (hE.trans xv);clear c0 c1 c2;have zm:=af (λU (hU:Ext V U)=>zm.o U (xv.trans hU));have TC:=af (λU (hU:Ext V U)=>TC.o U (xv.trans hU));have Fe:=af (λU a c b d (hU:Ext V U)=>Fe.o U a c b d (xv.trans hU))
   rcases hz with⟨VV,z1,z2⟩|z1|⟨z1,z2⟩
   .have FB:True:=trivial
    go_region_held3 (λw'=>w'.cell? ⟨w1.heap.size,0,none⟩=some (.bool r1.s)/\w'.cell? ⟨w1.heap.size,1,none⟩=some (.slice r1.a r1.k r1.c)/\w'.cell? ⟨w1.heap.size,2,none⟩=some (.slice r1.b r1.j r1.d)/\w'.cell? ⟨wr.heap.size,0,none⟩=some (.bool y.s)/\w'.cell? ⟨wr.heap.size,1,none⟩=some (.slice y.a y.k y.c)/\w'.cell? ⟨wr.heap.size,2,none⟩=some (.slice y.b y.j y.d)) (first|exact ⟨k0,k1,k2,m0,m1,m2⟩) (first
     |(go_at_call 62;have _t:=FB;refine (zm.o _ (by exact ah.drew)).mono ?_;rintro e w3 ⟨rfl,x3⟩;clear FB _t;have y3:Ext V w3:=ah.drew.trans x3;have k0:=aB (ah.drew.trans x3) k0;have k1:=aB (ah.drew.trans x3) k1;have k2:=aB (ah.drew.trans x3) k2;have m0:=aB (ah.drew.trans x3) m0;have m1:=aB (ah.drew.trans x3) m1;have m2:=aB (ah.drew.trans x3) m2)
     |(go_at_call 63;refine (TC.o _ (by exact y3)).mono ?_;rintro e w4 ⟨a4,c4,b4,d4,rfl,r4,f4,q4,g4,x4⟩;have y4:Ext V w4:=y3.trans x4;have k0:=aB x4 k0;have k1:=aB x4 k1;have k2:=aB x4 k2;have m0:=aB x4 m0;have m1:=aB x4 m1;have m2:=aB x4 m2)
     |(go_at_call 62;refine (Fe.o _ _ _ _ _ (by exact y4) r4 q4).mono ?_;rintro e w5 ⟨rfl,x5⟩;have y5:Ext V w5:=y4.trans x5;have k0:=aB x5 k0;have k1:=aB x5 k1;have k2:=aB x5 k2;have m0:=aB x5 m0;have m1:=aB x5 m1;have m2:=aB x5 m2))
    go_wp2_with fail
    go_roundw
    case rel=>exact ⟨j+1,ae,(hE.trans xv).trans y5,bq⟩
    case measure=>simp [intOf]<;>omega
   .go_region_with (go_at_call 62;refine (zm.o _ (by exact ah.drew)).mono ?_;rintro e w3 ⟨rfl,x3⟩;have y3:Ext V w3:=ah.drew.trans x3)
    all_goals go_wp2_with fail
    all_goals go_ret2
    all_goals exact ⟨rfl,((xW.trans hE).trans xv).trans y3⟩
   .have FB:True:=trivial
    go_region_held3 (λw'=>w'.cell? ⟨w1.heap.size,0,none⟩=some (.bool r1.s)/\w'.cell? ⟨w1.heap.size,1,none⟩=some (.slice r1.a r1.k r1.c)/\w'.cell? ⟨w1.heap.size,2,none⟩=some (.slice r1.b r1.j r1.d)/\w'.cell? ⟨wr.heap.size,0,none⟩=some (.bool y.s)/\w'.cell? ⟨wr.heap.size,1,none⟩=some (.slice y.a y.k y.c)/\w'.cell? ⟨wr.heap.size,2,none⟩=some (.slice y.b y.j y.d)) (first|exact ⟨k0,k1,k2,m0,m1,m2⟩) (first
     |(go_at_call 62;have _t:=FB;refine (zm.o _ (by exact ah.drew)).mono ?_;rintro e w3 ⟨rfl,x3⟩;clear FB _t;have y3:Ext V w3:=ah.drew.trans x3;have k0:=aB (ah.drew.trans x3) k0;have k1:=aB (ah.drew.trans x3) k1;have k2:=aB (ah.drew.trans x3) k2;have m0:=aB (ah.drew.trans x3) m0;have m1:=aB (ah.drew.trans x3) m1;have m2:=aB (ah.drew.trans x3) m2)
     |(go_at_call 63;refine (TC.o _ (by exact y3)).mono ?_;rintro e w4 ⟨a4,c4,b4,d4,rfl,r4,f4,q4,g4,x4⟩;have y4:Ext V w4:=y3.trans x4;have k0:=aB x4 k0;have k1:=aB x4 k1;have k2:=aB x4 k2;have m0:=aB x4 m0;have m1:=aB x4 m1;have m2:=aB x4 m2)
     |(go_at_call 62;refine (Fe.o _ _ _ _ _ (by exact y4) r4 q4).mono ?_;rintro e w5 ⟨rfl,x5⟩;have y5:Ext V w5:=y4.trans x5;have k0:=aB x5 k0;have k1:=aB x5 k1;have k2:=aB x5 k2;have m0:=aB x5 m0;have m1:=aB x5 m1;have m2:=aB x5 m2))
    go_wp2_with fail
    go_ret2
    exact ⟨rfl,((xW.trans hE).trans xv).trans y5⟩
