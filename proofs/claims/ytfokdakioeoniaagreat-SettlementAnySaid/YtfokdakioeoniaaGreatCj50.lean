/- Texts of the proof. -/
import Derived.Test.YtfokdakioeoniaaGreatCj48
import Derived.Test.YtfokdakioeoniaaGreatCj49
set_option linter.all false
set_option maxHeartbeats 4000000
set_option maxRecDepth 100000
namespace Go.Proofs.YtfokdakioeoniaaGreat
open Go.Proofs.Tryz
open Go.RowKit
theorem vz {k:Int} {n j:Nat} (h:j<n):(pA k n)[j]?=some (k,(j:Int)):=by simp [pA,h]
theorem vA {f:Nat->Rat} {n j:Nat} (h:j<n):(nJ f n)[j]?=some (f j):=by simp [nJ,h]
theorem BM (c:aq):(lH c).length=c.ay.length+c.stores.length+c.bF.length+c.ar.length+1:=by simp [lH,cV];omega
theorem VO (c:aq) (S:aQ) (p:aU) (h i:Nat) (hi:i<c.ay.length+c.stores.length+c.bF.length+c.ar.length): ∃k j:Nat,(lH c)[i]?=some ((k:Int),(j:Int))/\((k=0/\j<c.ay.length)\/(k=1/\j<c.stores.length)\/(k=2/\j<c.bF.length)\/(k=3/\j<c.ar.length))/\(lD c S p h)[i]?=some (MV c S p h k j):=by
 unfold lH lD xM;by_cases h1:i<c.ay.length
 .refine ⟨0,i,?_,.inl ⟨rfl,h1⟩,?_⟩
  .rw [List.append_assoc,List.append_assoc,List.append_assoc,List.getElem?_append_left (by rw [cV];exact h1)];exact vz h1
  .rw [List.append_assoc,List.append_assoc,List.getElem?_append_left (by rw [cP];exact h1)];exact vA h1
 by_cases h2:i<c.ay.length+c.stores.length
 .refine ⟨1,i-c.ay.length,?_,.inr (.inl ⟨rfl,ae⟩),?_⟩
  .rw [List.append_assoc,List.append_assoc,List.append_assoc,List.getElem?_append_right (by rw [cV];omega),cV,List.getElem?_append_left (by rw [cV];omega)];exact vz ae
  .rw [List.append_assoc,List.append_assoc,List.getElem?_append_right (by rw [cP];omega),cP,List.getElem?_append_left (by rw [cP];omega)];exact vA ae
 by_cases h3:i<c.ay.length+c.stores.length+c.bF.length
 .refine ⟨2,i-c.ay.length-c.stores.length,?_,.inr (.inr (.inl ⟨rfl,ae⟩)),?_⟩
  .rw [List.append_assoc,List.append_assoc,List.append_assoc,List.getElem?_append_right (by rw [cV];omega),cV,List.getElem?_append_right (by rw [cV];omega),cV,List.getElem?_append_left (by rw [cV];omega)];exact vz ae
  .rw [List.append_assoc,List.append_assoc,List.getElem?_append_right (by rw [cP];omega),cP,List.getElem?_append_right (by rw [cP];omega),cP,List.getElem?_append_left (by rw [cP];omega)];exact vA ae
 .refine ⟨3,i-c.ay.length-c.stores.length-c.bF.length,?_,.inr (.inr (.inr ⟨rfl,ae⟩)),?_⟩
  .rw [List.append_assoc,List.append_assoc,List.append_assoc,List.getElem?_append_right (by rw [cV];omega),cV,List.getElem?_append_right (by rw [cV];omega),cV,List.getElem?_append_right (by rw [cV];omega),cV,List.getElem?_append_left (by rw [cV];omega)];exact vz ae
  .rw [List.append_assoc,List.append_assoc,List.getElem?_append_right (by rw [cP];omega),cP,List.getElem?_append_right (by rw [cP];omega),cP,List.getElem?_append_right (by rw [cP];omega),cP];exact vA ae
structure AP (W0:World) (E:Nat) (v:Value) (q:Rat) (w:World):Prop where
 le:W0.heap.size<=E
 ne:some E≠v.ownBlock
 num: ∃r:bE,aY w E 63 r.cells/\fE w r q (dW q)/\xi r v.ownBlock
theorem AP.next {W0 w w':World} {E:Nat} {v:Value} {q:Rat} (h:AP W0 E v q w) (x:Ext w w'):AP W0 E v q w':=by
 obtain ⟨r,h1,h2,h3⟩:=h.num;exact ⟨h.le,h.ne,r,h1.ext x,h2.ext x,h3⟩
section
variable{o:Oper} {a:Act} {w:World} {Q:Exit->Act->World->Prop} {W0:World} {v:Value} {qs:List Rat} {L:Nat}
theorem BN {K:Act->World->Prop} (s x:Operand) (ho:o.op= .call {callee:= .builtin .append,args:= #[s,x],argTypes:= #[32,32]}) (hs:a.eval s=v) (hR:iu W0 v qs L w) (hn:qs.length<=100000) {B:Nat} {r:bE} {q:Rat}
 (hx:a.eval x= .slice (some ⟨B,0,none⟩) 1 1) (hB:aY w B 63 r.cells) (hr:fE w r q L) (hro:xi r v.ownBlock) (h: ∀v' w',iu W0 v' (qs++ [q]) L w'->Hid (∀k,k<w.heap.size->some k≠v.ownBlock->w'.heap[k]?=w.heap[k]?)->Hid (w.heap.size<=w'.heap.size)->Hid (v'.ownBlock=v.ownBlock\/ ∃g,v'.ownBlock=some g/\w.heap.size<=g)->K (a.put o.dst v') w'):Oper.wp prog o a w K Q:=by
 obtain ⟨rs,hR,hS⟩:=hR;have hl:=hR.len;refine j4 w s x 32 ho W0.heap.size 63 (.agg iV.toArray) 3 56 underlying32 Tryz.info_rat rfl ai v rs.length (bX rs) hs hR.own (some ⟨B,0,none⟩) 1 1 r.cells hx rfl (λ_=>⟨_,rfl,λj u hj=>by rw [kt,hB.cell];exact hj⟩) (qW r) (λe=>by cases e) ae ai hR.ext.size ?_ ai;intro v1 w5 ho he hb hz hv;exact h v1 w5 ⟨_,hR.snoc hr.rat hro ho.o (he.o W0 hR.ext cG) hb.o hv.o,hS.snoc hr.k hr.j⟩ hb hz hv
end
theorem nLt {N n i:Nat} (h1:N=n+1) (h2:i+1<N):i<n:=ae
theorem ads {N n i:Nat} (h1:N=n+1) (h2:i+1<N):i<=n:=ae
theorem nLe {N n i:Nat} (h1:N=n+1) (h2: ¬i+1<N):n<=i:=ae
theorem nSz {r i N:Nat} (h1:r<=i*82+1) (h2:1<=r) (h3:1<N/\N<=18) (h4:i+1<N):1<=r/\1<=81/\r+81<=10000000:=ae
theorem take_len {l:List Rat} {i n N:Nat} (h:l.length=n) (h1:N=n+1) (h2:1<N/\N<=18):(l.take i).length<=100000:=by rw [List.length_take];omega
theorem Zb {N i:Nat} (h:i+1<N):N-((i:Int)+1).toNat<N-((i:Nat):Int).toNat:=ae
theorem Zc {N i:Nat} (h:i+1<N):N-(((i+1:Nat)):Int).toNat<N-((i:Nat):Int).toNat:=ae
theorem MZ {l:List Rat} {i:Nat} {q:Rat} (h:l[i]?=some q):l.take (i+1)=l.take i++ [q]:=by rw [List.take_succ,h];rfl
theorem PQ {l:List Rat} (h: ∀q∈l,dW q<=81) (i:Nat) (hi:i<=l.length):dW (-(bO (l.take i)))<=i*82+1:=by
 rw [mU];exact zH l 81 (λj hj=>h _ (List.getElem_mem hj)) i hi
theorem iu.adt {W0 w w':World} {v:Value} {qs:List Rat} {L E:Nat} {r0:bE} (h:iu W0 v qs L w) (A:aY w E 63 r0.cells) (x:aH E w w') (hE:some E≠v.ownBlock) (h0:W0.heap.size<=E):iu W0 v qs L w':=by
 obtain ⟨rs,h1,h2⟩:=h;refine ⟨rs,⟨h1.len,?_,λk hk=>(h1.num k hk).keep (λj hj hne=>x.block j hj λe=>hne (by rw [e])) ?_,h1.off,x.ext h1.ext h0⟩,h2⟩
 .obtain ⟨e1,e2⟩:=h1.own
  refine ⟨e1,?_⟩;rcases e2 with e2|⟨g,cap,cur,rfl,hb,hg,e3⟩
  .exact .inl e2
  .refine .inr ⟨g,cap,cur,rfl,hb,?_,e3⟩
   have hlt:g<w.heap.size:=by
    by_cases q:g<w.heap.size
    .exact q
    .rw [Array.getElem?_eq_none ae]at hg;cases hg
   rw [x.block g hlt λe=>hE (by subst e;rfl)];exact hg
 .obtain ⟨n,m,g1,g2,-⟩:=h1.num k hk
  exact ⟨λh0 p hp=>g1.off A (qa r0) h0 p hp,λh0 p hp=>g2.off A (qa r0) h0 p hp⟩
theorem rP (V:World) (c:aq) (S:aQ) (p:aU) (h:Int) (hc:bK V c) (hl:kU c) (h0:cC c=0) (hA:Acc c) (hs:eM V S 4) (hp:fS V p 4) (hn:S.moves.length<=1000) (hm:p.moves.length<=100) (ht:Ti c):
 Calls prog 32 #[.agg (C8 c),.agg S.cells.toArray,.agg p.cells.toArray,.int .i64 h] V (Ew V c S p h):=by
 try unfold C8
 have p7:=af (λU (x:Ext V U)=>sI U c (hc.ext x) hl);rw [h0]at p7;have Hu:=af (λU (x:Ext V U)=>MG U c S 4 (hc.ext x) hl h0 hA (hs.ext x));have HFT:=af (λU (x:Ext V U)=>Sb U c p 4 (hc.ext x) hl h0 hA (hp.ext x));have HC:=af hc;have HA:=af hA;have HS:=af hs;have HP:=af hp;have HM:=af hm;have HN:=af hn;have WC:=af ht
 have xL:Hid (c.ar.length<=5/\c.ay.length<=4/\c.stores.length<=4/\c.bF.length<=4):=⟨ht.ar,ht.ay,ht.stores,ht.bF⟩;have Sg:=af hA.ok.frame.ar.1;have pj:=hc.ay.lens;have Ar:=hc.ar.lens;have RU:=hs.ay.lens
 clear hc hl h0 hA hs hp hn hm ht;unfold aQ.cells aU.cells at*;go_enter func32,ntmps32
 go_upto_region 1 with fail
 generalize hW1:World.alloc V _=W1;generalize hW2:World.alloc W1 _=W2;generalize hW:World.alloc W2 _=W;obtain ⟨G,R,B,hG,hR,hB,HB,dY,gH,iU,nW⟩:=fw hW1 hW2 hW;rw [<-hG];try rw [hR]
 try rw [hB]
 clear hW hW1 hW2 hG hR hB;have K: ∀Y,Ext W Y->_:=λY e=>aq.at (dY.o.ext e);have K1: ∀Y,Ext W Y->_:=λY e=>(gH.o.ext e).cs;have K2: ∀Y,Ext W Y->_:=λY e=>(iU.o.ext e).cs;replace K1:=gO K1;replace K2:=gO K2;have st:=Ext.refl W;go_wp2_with fail
 refine (p7.o W HB.o).mono ?_;rintro e w1 ⟨ek,ei,ef,rfl,xx⟩;clear p7;replace st:=st.trans xx;clear xx;go_upto_region 2 with fail
 generalize hW2:World.alloc w1 _=W2;obtain ⟨B2,-,x2,-⟩:=aI hW2;replace st:=st.trans x2;clear hW2 x2;go_wp2_with fail
 refine (Hu.o W2 (HB.o.trans st)).mono ?_;rintro e w3 ⟨t,rfl,ht,x3⟩;have HT:=af ht;replace st:=st.trans x3;clear x3 ht;cases t with
 |false=>
  have BK:Hid (nX c S p h=4):=wS λq=>by have:=HT.o.2 q.1;cases this
  go_wp2_with fail
  go_ret2
  exact ⟨Or.inr ⟨by rw [BK.o];decide,by rw [BK.o];rfl⟩,HB.o.trans st⟩
 |true=>
 have kX:=af (HT.o.1 (by trivial));clear HT;go_wp2_with fail
 refine (HFT.o w3 (HB.o.trans st)).mono ?_;rintro e w4 ⟨t,rfl,ht,x4⟩;have HT:=af ht;replace st:=st.trans x4;clear x4 ht;cases t with
 |false=>
  have BK:Hid (nX c S p h=4):=wS λq=>by have:=HT.o.2 q.2;cases this
  go_wp2_with fail
  go_ret2
  exact ⟨Or.inr ⟨by rw [BK.o];decide,by rw [BK.o];rfl⟩,HB.o.trans st⟩
 |true=>
 have td:=af (HT.o.1 (by trivial));clear HT;by_cases TI:0<=h
 case neg=>
  have t1:decide (h<0)=true:=by simp;omega
  have HQ:=af TI;clear TI;have BK:Hid (nX c S p h=12):=vx ⟨kX.o,td.o⟩ λq=>HQ.o q.1;go_wp2_with fail
  go_ret2
  exact ⟨Or.inr ⟨by rw [BK.o];decide,by rw [BK.o];rfl⟩,HB.o.trans st⟩
 have t1:decide (h<0)=false:=by simp;omega
 by_cases hh:h<c.hours
 case neg=>
  have t2:decide (c.hours<=h)=true:=by simp;omega
  have HQ:=af hh;clear hh TI;have BK:Hid (nX c S p h=12):=vx ⟨kX.o,td.o⟩ λq=>HQ.o q.2;go_wp2_with fail
  go_ret2
  exact ⟨Or.inr ⟨by rw [BK.o];decide,by rw [BK.o];rfl⟩,HB.o.trans st⟩
 have t2:decide (c.hours<=h)=false:=by simp;omega
 have HZ:Hid (nX c S p h=0):=Ev ⟨kX.o,td.o⟩ ⟨TI,hh⟩;obtain ⟨h,rfl⟩: ∃k:Nat,h=(k:Int):=⟨h.toNat,ae⟩;have HH:=af hh;have k6:(0:Int)<=(h:Int):=Int.natCast_nonneg h;clear hh TI;go_wp2_with fail
 refine (DY w4).mono ?_;rintro e wA ⟨ra,rfl,Xa,-,xa⟩;replace st:=st.trans xa;go_wp2_with fail
 refine (DY wA).mono ?_;rintro e wB ⟨rb,rfl,Z4,-,xb⟩;replace st:=st.trans xb;have HNa:=af (Xa.ext xb);have HNb:=af Z4
 replace HB:=af (HB.o.trans st);replace dY:=af (dY.o.ext st);replace gH:=af (gH.o.ext st);replace iU:=af (iU.o.ext st)
 have ID:=af (H9.of HS.o HP.o);clear Xa Z4 xa xb st K K1 K2 t1 t2;go_upto_region 9 with(first|(generalize SJ:World.alloc wB _=W1;generalize Vf:World.alloc W1 _=W2;obtain ⟨E1,E2,Yb,hE2,xV,kH,Qr,hne⟩:=jD SJ Vf;rw [<-Yb];(try rw [hE2]);refine cA rfl 63 _ _ rfl E1 [.bool false,.slice none 0 0,.slice none 0 0] [.bool ra.s,.slice ra.a ra.k ra.c,.slice ra.b ra.j ra.d] kH.o rfl rfl aw rfl rfl ?_;intro W3 Yr hx3)|(refine cA rfl 63 _ _ rfl E2 [.bool false,.slice none 0 0,.slice none 0 0] [.bool rb.s,.slice rb.a rb.k rb.c,.slice rb.b rb.j rb.d] (Qr.o.gw hx3 (Ne.symm hne.o.2.2.2.2)) rfl rfl aw rfl rfl ?_;intro W9 Hq gW))
 have yx:Hid (E1≠E2):=hne.o.2.2.2.2;have VP:=Qr.o.gw hx3 (Ne.symm hne.o.2.2.2.2)
 have HI:Hid (eA wB E1 (eL (λi=>uw S i h) 0) (1+5*0) W9/\eA wB E2 0 1 W9):=
  ⟨⟨gW.ext (hx3.ext xV.o hne.o.1) hne.o.2.1,hne.o.1,ra,Yr.gw gW hne.o.2.2.2.2,((HNa.o.ext xV.o).vu (r0:=⟨false,none,0,0,none,0,0⟩) kH.o hx3).vu (r0:=⟨false,none,0,0,none,0,0⟩) VP gW⟩,
   ⟨gW.ext (hx3.ext xV.o hne.o.1) hne.o.2.1,hne.o.2.1,rb,Hq,((HNb.o.ext xV.o).vu (r0:=⟨false,none,0,0,none,0,0⟩) kH.o hx3).vu (r0:=⟨false,none,0,0,none,0,0⟩) VP gW⟩⟩
 try simp only [Act.put]
 clear hx3 gW xV kH Qr Yr Hq VP hne Yb hE2 SJ Vf;have s:=Ext.refl W9;have K: ∀Y,Ext W9 Y->_:=λY e=>aq.at ((dY.o.ext HI.o.1.ext).ext e)
 go_upto_block 0 with fail
 go_cut [] (λwx=>eA wB E1 (eL (λi=>uw S i h) c.ay.length) (1+5*c.ay.length) wx/\eA wB E2 0 1 wx)
 case first=>
  as_aux_lemma=>
   go_wp2
   go_loopw [14] (λii wx=> ∃i:Nat,i<=c.ay.length/\ii= .int .i64 i/\eA wB E1 (eL (λi=>uw S i h) i) (1+5*i) wx/\eA wB E2 0 1 wx) (λii _=>c.ay.length-(intOf ii).toNat)
   case atStart=>exact ⟨0,bm,rfl,HI.o⟩
   case round=>
    clear HI s K;obtain ⟨i,hi,rfl,hI⟩:=hrel;have HI:=af hI;clear hI;have K: ∀Y,Ext wr Y->_:=λY e=>aq.at ((dY.o.ext HI.o.1.ext).ext e);by_cases hlt:i<c.ay.length
    .have b1:(i:Int)<(c.ay.length:Int):=Int.ofNat_lt.2 hlt
     have b0:(0:Int)<=(i:Int):=Int.natCast_nonneg i;obtain ⟨a1,a2,a3,a4,a5,a6,r6,a7,a8,a9,Fc,re,-,He,Tv,-,Nz,Ke⟩:=Gk (gH.o.ext HI.o.1.ext) (HS.o.ext (HB.o.trans HI.o.1.ext)) rfl kX.o.unit i h (by rw [kX.o.ay];exact hlt) HH.o;obtain ⟨rs,Hs,KS⟩:=HI.o.1.get;have dK:=af HI.o.1;have yf:=af HI.o.2;have BV:Hid (i<4):=by have:=xL.o;show _<_;omega
     have s:=Ext.refl wr;clear HI;go_upto_region 12 with fail
     refine zG 11 (λw=>Ext wr w) (s.drew) λs=> ?_;generalize wr.drew=Y at*;refine zV 0 s ?_;refine zV 1 s ?_;refine zV 3 s ?_;refine zV 7 s ?_;refine zV 2 s ?_;refine zV 4 s ?_;refine zV 5 s ?_;refine zV 6 s ?_;refine zV 8 s ?_;refine zV 9 s ?_;refine zN 10 s (vr _ _ _ _ _ (1+5*i) 4 (Hs.o.ext s) (He.o.ext s) (dB BV.o)) λr2 xZ dL bJ x s=> ?_;clear x bJ;have kW:=af (dK.o.next s);have f3:=λi=>kW.o.frozen i;refine zL 11 λK' hK=> ?_;rw [if_pos bQ];go_simp;refine hK.o _ _ ?_;clear hK K' f3;have mJ:=af (((kW.o.put dL.o).mono (show _<=1+5*(i+1) by omega)).kP (q':=eL (λi=>uw S i h) (i+1)) rfl)
     have Pm:Hid (eA wB E2 0 1 (mK xZ E1 r2)):=by
      obtain ⟨r9,h9⟩:=kW.o.arr;exact (yf.o.next s).RS h9 (cF _ _ _) (Ne.symm yx.o) kW.o.le
     unfold mK at Pm;unfold mK at mJ;clear s;generalize World.setCell _ _ _=W9 at mJ Pm⊢;go_wp2
     exact ⟨⟨i+1,hlt,bq,mJ.o,Pm.o⟩,bz⟩
    .obtain rfl:i=c.ay.length:=ae
     clear hlt hi;have s:=Ext.refl wr;go_wp2
     go_meet
     exact HI.o
 case rest=>
  have dK:=af hcut;clear HI s hcut K;generalize wc=W9 at*;have HI:=dK;clear dK;replace HI:Hid (eA wB E2 (eL (jG c S h) 0) (1+7*0) W9/\eA wB E1 (eL (λi=>uw S i h) c.ay.length) 21 W9):=⟨HI.o.2,HI.o.1.mono (dB xL.o)⟩;have s:=Ext.refl W9;have K: ∀Y,Ext W9 Y->_:=λY e=>aq.at ((dY.o.ext HI.o.1.ext).ext e)
  go_upto_block 2 with fail
  go_cut [] (λwx=>eA wB E2 (eL (jG c S h) c.ar.length) (1+7*c.ar.length) wx/\eA wB E1 (eL (λi=>uw S i h) c.ay.length) 21 wx)
  case first=>
   as_aux_lemma=>
    go_wp2
    go_loopw [15] (λii wx=> ∃i:Nat,i<=c.ar.length/\ii= .int .i64 i/\eA wB E2 (eL (jG c S h) i) (1+7*i) wx/\eA wB E1 (eL (λi=>uw S i h) c.ay.length) 21 wx) (λii _=>c.ar.length-(intOf ii).toNat)
    case atStart=>exact ⟨0,bm,rfl,HI.o⟩
    case round=>
     clear HI s K;obtain ⟨i,hi,rfl,hI⟩:=hrel;have HI:=af hI;clear hI;have K: ∀Y,Ext wr Y->_:=λY e=>aq.at ((dY.o.ext HI.o.1.ext).ext e);by_cases hlt:i<c.ar.length
     .have b1:(i:Int)<(c.ar.length:Int):=Int.ofNat_lt.2 hlt
      have b0:(0:Int)<=(i:Int):=Int.natCast_nonneg i;obtain ⟨rs,Hs,KS⟩:=HI.o.1.get;have dK:=af HI.o.1;have yf:=af HI.o.2;have BV:Hid (i<5):=by have:=xL.o;show _<_;omega
      have K1:=λY (e:Ext wr Y)=>((gH.o.ext HI.o.1.ext).ext e).cs;replace K1:=gO K1;have WJ:=af (λU (x:Ext wr U)=>Aq U c S i h (HC.o.ext (HB.o.trans (HI.o.1.ext.trans x))) HA.o (HS.o.ext (HB.o.trans (HI.o.1.ext.trans x))) hlt HH.o kX.o.er);unfold aQ.cells at WJ;have s:=Ext.refl wr;clear HI;go_upto_region 16 with fail
      refine zG 7 (λw=>Ext wr w) (s.drew) λs=> ?_;generalize wr.drew=Y at*;refine zV 0 s ?_;refine zV 1 s ?_;refine zV 2 s ?_;refine zV 3 s ?_;refine zV 4 s ?_;refine zR 5 λK' hK=> ?_;rw [if_pos bQ];go_simp;refine (WJ.o _ s).mono ?_;rintro e w5 ⟨r1,rfl,hn,bJ,x⟩;have cD:=af hn;refine hK.o _ _ (s.trans x) λs=> ?_;clear hK K' x hn bJ;refine zN 6 s (vr _ _ _ _ _ (1+7*i) 6 (Hs.o.ext s) cD.o (dB BV.o)) λr2 w6 dL bJ x s=> ?_;clear x bJ;have kW:=af (dK.o.next s);have f3:=λi=>kW.o.frozen i;refine zL 7 λK' hK=> ?_;rw [if_pos bQ];go_simp;refine hK.o _ _ ?_;clear hK K' f3;have mJ:=af (((kW.o.put dL.o).mono (show _<=1+7*(i+1) by omega)).kP (q':=eL (jG c S h) (i+1)) rfl)
      have Pm:Hid (eA wB E1 (eL (λi=>uw S i h) c.ay.length) 21 (mK w6 E2 r2)):=by
       obtain ⟨r9,h9⟩:=kW.o.arr;exact (yf.o.next s).RS h9 (cF _ _ _) yx.o kW.o.le
      unfold mK at Pm;unfold mK at mJ;clear s;generalize World.setCell _ _ _=W9 at mJ Pm⊢;go_wp2
      exact ⟨⟨i+1,hlt,bq,mJ.o,Pm.o⟩,bz⟩
     .obtain rfl:i=c.ar.length:=ae
      clear hlt hi;have s:=Ext.refl wr;go_wp2
      go_meet
      exact HI.o
  case rest=>
   have dK:=af hcut;clear HI s hcut K;generalize wc=W9 at*;have HI:=dK;clear dK;obtain ⟨r2,H2,K2⟩:=HI.o.1.get;obtain ⟨r1,H1,K1⟩:=HI.o.2.get;have AJ:=af HI.o.1.ext;replace H2:=af (H2.o.mono (show 1+7*c.ar.length<=36 by have:=xL.o;omega));obtain ⟨b5,o5,re,He,Nz,Ke⟩:=jP (j:=1) (iU.o.ext AJ.o) ((HP.o.ext (HB.o.trans AJ.o)).bC) rfl h (ux td.o.bC HH.o);have s:=Ext.refl W9;clear HI;go_upto_region 17 with fail
   go_cut [16] (λv wx=> ∃B1 r,v= .pointer (some ⟨B1,0,none⟩)/\Ext W9 wx/\aY wx B1 63 r.cells/\fE wx r (qA c S p h) 64)
   case first=>
    as_aux_lemma=>
     refine wG (λw=>Ext W9 w) (s.drew) λs=> ?_;generalize W9.drew=Y at*;refine wV 0 s ?_;refine wV 2 s ?_;refine wV 5 s ?_;refine wV 7 s ?_;refine wV 1 s ?_;refine wV 3 s ?_;refine wV 4 s ?_;refine Mz 6 9 (λK' hK=> ?_) (λK' hK=> ?_)
     .rw [if_pos bQ]
      go_simp;refine (qx _ _ _ _ _ 4 21 (He.o.ext s) (H1.o.ext s)).mono ?_;rintro e w6 ⟨ra,rfl,hn,bJ,x⟩;have vB:=af hn;refine hK.o _ _ (s.trans x) λs=> ?_;clear hK K' x hn bJ;refine Mz 8 9 (λK' hK=> ?_) (λK' hK=> ?_)
      .rw [if_pos bQ]
       go_simp;refine (Jz _ _ _ _ _ 26 36 vB.o (H2.o.ext s)).mono ?_;rintro e w8 ⟨r3,rfl,hn,x⟩;have iH:=af hn;replace vB:=af (vB.o.ext x);refine hK.o _ _ (s.trans x) λs=> ?_;clear hK K' x hn;refine wR 9 λK' hK=> ?_;rw [if_pos bQ];go_simp;generalize jS:World.alloc _ _=Wa;obtain ⟨B,jT,x,A⟩:=aI jS;rw [<-jT];have fz:=af A;have ig:Hid (W9.heap.size<=B):=by have:=s.size;show _<=_;omega
       replace vB:=af (vB.o.ext x);replace iH:=af (iH.o.ext x);refine hK.o _ _ (s.trans x) λs=> ?_;clear hK K' x A jS jT;refine wR 10 λK' hK=> ?_;rw [if_pos bQ];have KA:=(fz.o).cs;replace KA:=gO KA;have f3:=λi=>fz.o.frozen i;go_simp;have iB:=af (dE fz.o rfl iH.o);refine hK.o _ _ ((cF _ B r3).ext s ig.o) λs=> ?_;clear hK K' KA f3;refine wD ?_;go_wp2
       go_meet
       exact ⟨B,r3,rfl,s,iB.o.1,iB.o.2⟩
      .rw [if_pos bQ]
       go_simp;generalize jS:World.alloc _ _=Wa;obtain ⟨B,jT,x,A⟩:=aI jS;rw [<-jT];have fz:=af A;have ig:Hid (W9.heap.size<=B):=by have:=s.size;show _<=_;omega
       replace vB:=af (vB.o.ext x);refine hK.o _ _ (s.trans x) λs=> ?_;clear hK K' x A jS jT;refine wR 8 λK' hK=> ?_;rw [if_pos bQ];go_simp;refine (Jz _ _ _ _ _ 26 36 vB.o (H2.o.ext s)).mono ?_;rintro e w8 ⟨r3,rfl,hn,x⟩;have iH:=af hn;replace vB:=af (vB.o.ext x);replace fz:=af (fz.o.ext x);refine hK.o _ _ (s.trans x) λs=> ?_;clear hK K' x hn;refine wR 10 λK' hK=> ?_;rw [if_pos bQ];have KA:=(fz.o).cs;replace KA:=gO KA;have f3:=λi=>fz.o.frozen i;go_simp;have iB:=af (dE fz.o rfl iH.o);refine hK.o _ _ ((cF _ B r3).ext s ig.o) λs=> ?_;clear hK K' KA f3;refine wD ?_;go_wp2
       go_meet
       exact ⟨B,r3,rfl,s,iB.o.1,iB.o.2⟩
     .rw [if_pos bQ]
      go_simp;generalize jS:World.alloc _ _=Wa;obtain ⟨B,jT,x,A⟩:=aI jS;rw [<-jT];have fz:=af A;have ig:Hid (W9.heap.size<=B):=by have:=s.size;show _<=_;omega
      refine hK.o _ _ (s.trans x) λs=> ?_;clear hK K' x A jS jT;refine wR 6 λK' hK=> ?_;rw [if_pos bQ];go_simp;refine (qx _ _ _ _ _ 4 21 (He.o.ext s) (H1.o.ext s)).mono ?_;rintro e w6 ⟨ra,rfl,hn,bJ,x⟩;have vB:=af hn;replace fz:=af (fz.o.ext x);refine hK.o _ _ (s.trans x) λs=> ?_;clear hK K' x hn bJ;refine wR 8 λK' hK=> ?_;rw [if_pos bQ];go_simp;refine (Jz _ _ _ _ _ 26 36 vB.o (H2.o.ext s)).mono ?_;rintro e w8 ⟨r3,rfl,hn,x⟩;have iH:=af hn;replace vB:=af (vB.o.ext x);replace fz:=af (fz.o.ext x);refine hK.o _ _ (s.trans x) λs=> ?_;clear hK K' x hn;refine wR 10 λK' hK=> ?_;rw [if_pos bQ];have KA:=(fz.o).cs;replace KA:=gO KA;have f3:=λi=>fz.o.frozen i;go_simp;have iB:=af (dE fz.o rfl iH.o);refine hK.o _ _ ((cF _ B r3).ext s ig.o) λs=> ?_;clear hK K' KA f3;refine wD ?_;go_wp2
      go_meet
      exact ⟨B,r3,rfl,s,iB.o.1,iB.o.2⟩
   case rest=>
    obtain ⟨B1,rq,rfl,x5,A5,BZ⟩:=hcut;generalize wc=w5 at*;have HQ:=af (And.intro A5 (BZ.mono (show 64<=100 by decide)));replace HB:=af (HB.o.trans (AJ.o.trans x5));replace dY:=af (dY.o.ext (AJ.o.trans x5));replace gH:=af (gH.o.ext (AJ.o.trans x5));replace iU:=af (iU.o.ext (AJ.o.trans x5))
    clear A5 BZ x5 s K1 K2 Ke H1 H2 He AJ;have K: ∀Y,Ext w5 Y->_:=λY e=>aq.at (dY.o.ext e);have s:=Ext.refl w5;go_wp2_with fail
    refine (Eu w5 c (HC.o.ext HB.o) (dB xL.o)).mono ?_;rintro e w8 ⟨x8,ga,gc,rfl,Zd⟩;obtain ⟨N,SQ⟩: ∃N,Hid ((lH c).length=N):=⟨_,rfl⟩;have J5:Hid (N=c.ay.length+c.stores.length+c.bF.length+c.ar.length+1):=by show _=_;rw [<-SQ.o];exact BM c
    have Nr:Hid (1<N/\N<=18):=by have:=xL.o;have:=Sg.o;have:=J5.o;show _/\_;omega
    have PR:=af Zd;rw [SQ.o];go_wp2_with fail
    refine (DY w8).mono ?_;rintro e w9 ⟨r9,rfl,hn9,hc9,x9⟩;have HN9:=af hn9;go_upto_region 20 with(refine aT rfl 63 _ _ rfl _ [.bool r9.s,.slice r9.a r9.k r9.c,.slice r9.b r9.j r9.d] rfl rfl aw rfl rfl ?_)
    generalize K8:World.alloc w9 _=EH;obtain ⟨E3,hE,x7,A7⟩:=aI K8;rw [<-hE];try simp only [Act.put]
    have VQ:=x8.trans x9;replace HB:=af (HB.o.trans VQ);replace dY:=af (dY.o.ext VQ);replace gH:=af (gH.o.ext VQ);replace iU:=af (iU.o.ext VQ)
    replace HQ:=af (And.intro (HQ.o.1.ext VQ) (HQ.o.2.ext VQ));replace PR:=af (PR.o.ext x9)
    have hle:=PR.o.le;have eI:=PR.o.cap
    rw [dF,SQ.o]at hle
    have HI:Hid (iu w9 (.slice none 0 0) ((lD c S p h).take 0) 81 EH/\AP w9 E3 (.slice none 0 0) (-(bO ((lD c S p h).take 0))) EH):=by
     refine ⟨iu.start x7 81,ae,λe=>(nomatch e),r9,A7,?_,λ_ _ _ e=>(nomatch e),λ_ _ _ e=>(nomatch e)⟩;rw [show-(bO ((lD c S p h).take 0))=(0:Rat)from by show-(0:Rat)=0;decide,BJ];exact HN9.o.ext x7
    clear K8 hE x7 A7 HN9 hn9 hc9 x8 x9 VQ Zd s K;have s:=Ext.refl EH
    go_upto_block 4 with fail
    go_cut [17] (λv wx=>iu w9 v (lD c S p h) 81 wx/\AP w9 E3 v (-(bO (lD c S p h))) wx)
    case first=>
     as_aux_lemma=>
      go_wp2
      go_loopw [20,17] (λii v wx=> ∃(i:Nat) (v0:Value),i<N/\ii= .int .i64 i/\v0=v/\iu w9 v0 ((lD c S p h).take i) 81 wx/\AP w9 E3 v0 (-(bO ((lD c S p h).take i))) wx) (λii _ _=>N-(intOf ii).toNat)
      case atStart=>exact ⟨0,_,dB Nr.o,rfl,rfl,HI.o⟩
      case round=>
       clear HI s;obtain ⟨i,v,hi,rfl,rfl,hI⟩:=hrel;have HI:=af hI;clear hI;by_cases hlt:i+1<N
       .have b1:(i:Int)+1<(N:Int):=ae
        have b0:(0:Int)<=(i:Int):=Int.natCast_nonneg i;have b2:(i:Int)<(N:Int):=ae;have q5:IntKind.i64.wrap ((i:Int)+1)=(i:Int)+1:=by rw [IntKind.wrap_i64];have:=Nr.o;omega
        have q6:wrap64 ((i:Int)+1)=(i:Int)+1:=by unfold wrap64;have:=Nr.o;omega
        obtain ⟨k,j,Yw,HKJ,LJ⟩:=VO c S p h i (nLt J5.o hlt);have Tg:=af (MZ LJ);have SX:=HI.o.1.ext
        obtain ⟨b,o,y,hy,KY⟩: ∃(b o:Nat) (y:Int×Int),ga=some ⟨b,o,none⟩/\Hid (y=((k:Int),(j:Int)))/\ ∀Y,Ext wr Y->Cs Y b (o+i*2) 0 [i64 y.1,i64 y.2]:=by
         have hiA:i<(lH c).length:=by rw [SQ.o];omega
         have h1:(lH c)[i]=((k:Int),(j:Int)):=by rw [List.getElem?_eq_getElem hiA]at Yw;exact Option.some.inj Yw
         obtain ⟨b,o,x,e1,e2,e3⟩:=(PR.o.ext SX).pick (f:=λx:Int×Int=> [i64 x.1,i64 x.2]) (l:=lH c) i hiA;exact ⟨b,o,x,e1,by rw [e2.o];exact h1,e3⟩
        obtain ⟨y1,y2⟩:=y;obtain ⟨rfl,rfl⟩:y1=(k:Int)/\y2=(j:Int):=by have:=KY.1.o;simp only [Prod.mk.injEq]at this;exact this
        replace KY:=KY.2;subst hy;replace KY:=gO KY;have K:=λY (e:Ext wr Y)=>aq.at ((dY.o.ext SX).ext e);have K1:=λY (e:Ext wr Y)=>((gH.o.ext SX).ext e).cs;have K2:=λY (e:Ext wr Y)=>((iU.o.ext SX).ext e).cs;have KQ:=λY (e:Ext wr Y)=>((HQ.o.1.ext SX).ext e).cs;replace K1:=gO K1;replace K2:=gO K2;replace KQ:=gO KQ;have PS:=af (λU (x:Ext wr U)=>JA U c S p h k j rq (HC.o.ext (HB.o.trans (SX.trans x))) HA.o (HS.o.ext (HB.o.trans (SX.trans x))) (HP.o.ext (HB.o.trans (SX.trans x))) kX.o td.o HH.o HM.o HN.o WC.o (HQ.o.2.ext (SX.trans x)) HKJ);unfold aQ.cells aU.cells at PS;clear HKJ Yw;have s:=Ext.refl wr;go_upto_region 23 with fail
        go_cut [21] (λv wx=> ∃B3 r,v= .pointer (some ⟨B3,0,none⟩)/\Ext wr wx/\Hid (wr.heap.size<=B3)/\aY wx B3 63 r.cells/\fE wx r (MV c S p h k j) 81/\(∀k,k<wr.heap.size->xi r (some k)))
        case first=>
         as_aux_lemma=>
          refine wG (λw=>Ext wr w) (s.drew) λs=> ?_;generalize wr.drew=Y at*;refine wV 0 s ?_;refine wV 1 s ?_;refine wV 2 s ?_;refine wV 3 s ?_;refine wV 4 s ?_;refine wV 5 s ?_;refine wV 8 s ?_;refine wV 6 s ?_;refine wV 7 s ?_;refine Mz 9 10 (λK' hK=> ?_) (λK' hK=> ?_)
          .rw [if_pos bQ]
           go_simp;refine (PS.o _ s).mono ?_;rintro e w9 ⟨r1,rfl,hn,hf,x⟩;have HF:=af (λk (hk:k<wr.heap.size)=>hf k (Nat.lt_of_lt_of_le hk s.size));clear hf
           have cD:=af hn;refine hK.o _ _ (s.trans x) λs=> ?_;clear hK K' x hn;refine wR 10 λK' hK=> ?_;rw [if_pos bQ];go_simp;generalize jS:World.alloc _ _=Wa;obtain ⟨B,jT,x,A⟩:=aI jS;rw [<-jT];have fz:=af A;have ig:Hid (wr.heap.size<=B):=by have:=s.size;show _<=_;omega
           replace cD:=af (cD.o.ext x);refine hK.o _ _ (s.trans x) λs=> ?_;clear hK K' x A jS jT;refine wR 11 λK' hK=> ?_;rw [if_pos bQ];have KA:=(fz.o).cs;replace KA:=gO KA;have f3:=λi=>fz.o.frozen i;go_simp;have iB:=af (dE fz.o rfl cD.o);refine hK.o _ _ ((cF _ B r1).ext s ig.o) λs=> ?_;clear hK K' KA f3;refine wD ?_;go_wp2
           go_meet
           exact ⟨B,r1,rfl,s,ig.o,iB.o.1,iB.o.2,HF.o⟩
          .rw [if_pos bQ]
           go_simp;generalize jS:World.alloc _ _=Wa;obtain ⟨B,jT,x,A⟩:=aI jS;rw [<-jT];have fz:=af A;have ig:Hid (wr.heap.size<=B):=by have:=s.size;show _<=_;omega
           refine hK.o _ _ (s.trans x) λs=> ?_;clear hK K' x A jS jT;refine wR 9 λK' hK=> ?_;rw [if_pos bQ];go_simp;refine (PS.o _ s).mono ?_;rintro e w9 ⟨r1,rfl,hn,hf,x⟩;have HF:=af (λk (hk:k<wr.heap.size)=>hf k (Nat.lt_of_lt_of_le hk s.size));clear hf
           have cD:=af hn;replace fz:=af (fz.o.ext x);refine hK.o _ _ (s.trans x) λs=> ?_;clear hK K' x hn;refine wR 11 λK' hK=> ?_;rw [if_pos bQ];have KA:=(fz.o).cs;replace KA:=gO KA;have f3:=λi=>fz.o.frozen i;go_simp;have iB:=af (dE fz.o rfl cD.o);refine hK.o _ _ ((cF _ B r1).ext s ig.o) λs=> ?_;clear hK K' KA f3;refine wD ?_;go_wp2
           go_meet
           exact ⟨B,r1,rfl,s,ig.o,iB.o.1,iB.o.2,HF.o⟩
        case rest=>
         obtain ⟨B3,r1,rfl,x5,Gm,A5,hr1,jw⟩:=hcut;generalize wc=w6 at*;have DN:=af A5;have tO:=af hr1;have nB:=af x5
         have QC:Hid (xi r1 v.ownBlock):=by
          show _;cases hv:v.ownBlock with
          |none=>exact ⟨λ_ _ _ e=>(nomatch e),λ_ _ _ e=>(nomatch e)⟩
          |some b=>exact jw b (HI.o.1.blk hv)
         have vp:=af (HI.o.1.next x5);have NF:=af (HI.o.2.next x5)
         have adu:Hid (some B3≠v.ownBlock/\B3≠E3):=by
          obtain ⟨r0,h1,-⟩:=HI.o.2.num;exact ⟨HI.o.1.ne Gm.o,λe=>absurd h1.lt (Nat.not_lt.2 (by rw [<-e];exact Gm.o))⟩
         replace SX:=SX.trans x5;clear A5 hr1 x5 jw s K K1 K2 KQ KY PS HI;obtain ⟨rr,Lt,Ze,Sz⟩:=NF.o.num;have HRR:=af Lt;have HNR:=af Ze;have Un:=af Sz
         have HLQ:=af (PQ (l:=lD c S p h) (λq hq=>R9 ID.o HA.o kX.o.moves td.o WC.o hq) i (by rw [fU];exact ads J5.o hlt):dW (-(bO ((lD c S p h).take i)))<=i*82+1);have RL:=af (R6 (-(bO ((lD c S p h).take i))));clear Lt Ze Sz;have KA:=λY (e:oz w9 w6 v Y)=>(e.arr DN.o adu.o.1).cs;have KR:=λY (e:oz w9 w6 v Y)=>(e.arr HRR.o NF.o.ne).cs;replace KA:=gO KA;replace KR:=gO KR;have s:=Ext.refl w6;go_upto_region 24 with fail
         refine zG 8 (λw=>oz w9 w6 v w) (oz.of SX s.drew) λo=> ?_;replace s:=s.drew;generalize w6.drew=Y at*;refine zV 0 o ?_;refine zV 1 o ?_;refine zV 4 o ?_;refine zV 5 o ?_;refine zR 2 λK' hK=> ?_;rw [if_pos bQ];refine j7 32 _ rfl 63 (.agg iV.toArray) 3 56 underlying32 Tryz.info_rat ai ai [.bool r1.s,.slice r1.a r1.k r1.c,.slice r1.b r1.j r1.d] rfl rfl ?_;intro wb H7 x;have qI:=af H7;replace s:=s.trans x;have VN:=af (vp.o.next s);have HNb:=af (tO.o.ext s);have HRb:=af (HNR.o.ext s);have VR:=af (HRR.o.ext s);refine hK.o _ _ (oz.of SX s) λo=> ?_;clear hK K' x H7;refine zR 3 λK' hK=> ?_;rw [if_pos bQ];refine BN (v:=v) (L:=81) _ _ rfl rfl VN.o (take_len (fU c S p h) J5.o Nr.o) rfl qI.o HNb.o QC.o ?_;intro v9 xZ EO hb hz hv9;have Hw:=af EO;have adx:=af (HNb.o.app QC.o hb.o);have ady:=af (HRb.o.app Un.o hb.o);have aja:=af (xi.PH HRb.o Un.o hv9.o)
         have adz:Hid (aY xZ E3 63 rr.cells):=by
          have h1:=VR.o;show aY _ _ _ _;unfold aY at h1⊢;rw [hb.o E3 VR.o.lt NF.o.ne];exact h1
         have HE9:Hid (some E3≠v9.ownBlock):=λe=>by
          rcases hv9.o with q|⟨g,q,hg⟩
          .exact NF.o.ne (by rw [<-q];exact e)
          .rw [q]at e;cases e;exact absurd VR.o.lt (Nat.not_lt.2 hg)
         have HZ9:Hid (w6.heap.size<=xZ.heap.size):=Nat.le_trans s.size hz.o;refine hK.o _ _ (oz.app s EO.ext hb.o) λo=> ?_;clear hK K' EO hb hz hv9 s;refine zR 6 λK' hK=> ?_;rw [if_pos bQ];go_simp;refine (Kt _ _ _ _ _ (dW (-(bO ((lD c S p h).take i)))) 81 ady.o adx.o (nSz HLQ.o RL.o Nr.o hlt)).mono ?_;rintro e N7 ⟨r3,rfl,Xi,hc3,x⟩;have HQE:Hid (-(bO ((lD c S p h).take i))-MV c S p h k j= -(bO ((lD c S p h).take (i+1)))):=by show _=_;rw [Tg.o,tj];grind
         rw [HQE.o]at hc3;have HN3:=af (fE.tight hc3 cG);have HO3:=af (Hw.o.off hc3 cG);have adA:=af (Hw.o.next x);have Sj:=af (adz.o.ext x);refine hK.o _ _ (o.next HZ9.o x) λo=> ?_;clear hK K' x Xi hc3;refine zV 7 o ?_;have KE:=Sj.o.cs;replace KE:=gO KE;have f3:=λi=>Sj.o.frozen i;refine zL 8 λK' hK=> ?_;rw [if_pos bQ];go_simp;refine hK.o _ _ ?_;have iB:=af (dE Sj.o rfl HN3.o);have SP:=af (cF N7 E3 r3);have VS:Hid (AP w9 E3 v9 (-(bO ((lD c S p h).take (i+1)))) (mK N7 E3 r3)):=⟨NF.o.le,HE9.o,r3,iB.o.1,iB.o.2,HO3.o⟩;have VT:=af (adA.o.adt Sj.o SP.o HE9.o NF.o.le);clear hK K' f3 KE o;unfold mK at VS VT;clear KA KR;generalize World.setCell _ _ _=W9 at VS VT⊢;go_wp2
         exact ⟨⟨i+1,_,hlt,bq,rfl,by rw [Tg.o];exact VT.o,VS.o⟩,by simp only [intOf];first|exact Zb hlt|exact Zc hlt⟩
       .have b1: ¬(i:Int)+1<(N:Int):=ae
        have b3:decide ((i:Int)+1<(N:Int))=false:=decide_eq_false b1;have q5:IntKind.i64.wrap ((i:Int)+1)=(i:Int)+1:=by rw [IntKind.wrap_i64];have:=Nr.o;omega
        have q6:wrap64 ((i:Int)+1)=(i:Int)+1:=by unfold wrap64;have:=Nr.o;omega
        have HTA:Hid ((lD c S p h).take i=lD c S p h):=List.take_of_length_le (by rw [fU];exact nLe J5.o hlt);rw [HTA.o]at HI;have s:=Ext.refl wr;go_wp2
        go_meet
        exact HI.o
    case rest=>
     have dK:=af hcut;clear HI hcut s;generalize wc=wz at*;obtain ⟨rr,Lt,Ze,Sz⟩:=dK.o.2.num;have HRR:=af Lt;have HNR:=af (Ze.mono (show dW (-(bO (lD c S p h)))<=1000 by rw [mU];have:=G4 ID.o HA.o kX.o.moves td.o WC.o h;omega));have Un:=af Sz;have vp:=af (dK.o.1.mono (show 81<=1000 by decide));have KR:=λY (e:Ext wz Y)=>(HRR.o.ext e).cs;replace KR:=gO KR;clear Lt Ze Sz dK;have s:=Ext.refl wz;go_wp2_with (first|(refine lW rfl 32 _ rfl 63 (.agg iV.toArray) 3 56 underlying32 Tryz.info_rat ai ai [.bool rr.s,.slice rr.a rr.k rr.c,.slice rr.b rr.j rr.d] rfl rfl ?_;intro w5 EN x5)|(refine vv (L:=1000) _ _ rfl rfl rfl (vp.o.next x5) (by rw [fU];have:=xL.o;omega) rfl EN (HNR.o.ext x5) Un.o ?_;intro v6 w6 Bh))
     obtain ⟨ga6,gc6,rs6,rfl,PL,PM,PN⟩:=Bh.slice (by rw [List.length_append,fU];have:=xL.o;simp;omega);have PO:=af (And.intro PL (And.intro PM (And.intro PN Bh.ext)));clear PL PM PN Bh;go_wp2_with fail
     go_ret2
     exact ⟨Or.inl ⟨HZ.o,ga6,gc6,rs6,rfl,PO.o.1,PO.o.2.1,PO.o.2.2.1⟩,HB.o.trans PO.o.2.2.2⟩
