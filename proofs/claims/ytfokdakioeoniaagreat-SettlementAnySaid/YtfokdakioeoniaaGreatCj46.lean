/- Texts of the proof. -/
import Derived.Test.YtfokdakioeoniaaGreatCj44
import Derived.Test.YtfokdakioeoniaaGreatCj45
set_option linter.all false
set_option maxHeartbeats 4000000
set_option maxRecDepth 100000
namespace Go.Proofs.YtfokdakioeoniaaGreat
open Go.Proofs.Tryz
open Go.RowKit
theorem R5 (q:Rat):dW q⁻¹<=dW q+1:=by
 unfold dW;rw [Rat.num_inv,Rat.den_inv,Int.natAbs_mul,Int.natAbs_natCast]
 have h1:q.num.sign.natAbs<=1:=by
  rcases Int.lt_trichotomy q.num 0 with h|h|h
  .rw [Int.sign_eq_neg_one_of_neg h];decide
  .rw [h];decide
  .rw [Int.sign_eq_one_of_pos h];decide
 have h2:len (q.num.sign.natAbs*q.den)<=len q.den:=dt (by
  have:=Nat.mul_le_mul_right q.den h1;omega)
 split
 .rw [ze];omega
 .omega
theorem En (p q:Rat):dW (p/q)<=dW p+dW q+2:=by
 rw [Rat.div_def];have h1:=lS p q⁻¹;have h2:=R5 q;omega
theorem eC.LP {w:World} {y:fM} {L:Nat} (h:eC w y L) (hn:y.l.length<=1099511627776):jV w y.a y.c (y.l.map QV.r) (y.l.map QV.q) L:=
 ⟨aX,by rw [List.length_map];exact h.le.1,h.le.2,by rw [List.length_map];exact hn,λi hi=>by
   rw [List.length_map]at hi;obtain ⟨b,o,ha,hc⟩:=h.recs.cs i hi;obtain ⟨h1,h2,h3,-⟩:=hc;refine ⟨b,o,ha,?_⟩;rw [List.getElem_map];exact ⟨h1,h2,h3⟩,λi hi=>by
   rw [List.getElem_map,List.getElem_map];exact (h.num _ (List.getElem_mem _)).rat⟩
theorem eC.short {w:World} {y:fM} {L:Nat} (h:eC w y L):jh (y.l.map QV.r) L:=λk hk=>by
 rw [List.getElem_map];rw [List.length_map]at hk;exact ⟨(h.num _ (List.getElem_mem hk)).k,(h.num _ (List.getElem_mem hk)).j⟩
theorem fM.vals (y:fM):y.l.map QV.q=nJ y.q y.l.length:=List.ext_getElem (by simp [nJ]) λi h1 h2=>by
 have hi:i<y.l.length:=by simpa using h1
 simp only [nJ,List.getElem_map,List.getElem_range];unfold fM.q;rw [List.getElem?_eq_getElem hi];rfl
theorem tj (l:List Rat) (x:Rat):bO (l++ [x])=bO l+x:=by simp [bO,List.foldl_append]
theorem lF (f:Nat->Rat): ∀n,bO (nJ f n)=eL f n
 |0=>rfl
 |n+1=>by rw [sV,tj,lF f n,eL]
theorem YW (V:World) (y:fM) (L:Nat) (h:eC V y L) (hn:y.l.length<=1000/\L<=10000/\1<=L):Calls prog 64 #[.slice y.a y.l.length y.c] V (kN V (eL y.q y.l.length) (y.l.length*(L+1)+1)):=by
 have h1:=Dh V y.a y.c (y.l.map QV.r) (y.l.map QV.q) L (h.LP ae) (by
  rw [List.length_map];have:=Nat.mul_le_mul hn.1 (show L+2<=10002 by omega);omega)
 rw [fM.vals,lF,List.length_map]at h1;refine h1.mono λe w' hh=>kN.of hh ?_
 have:=zH (nJ y.q y.l.length) L (λi hi=>by
  rw [cP]at hi;simp only [nJ,List.getElem_map,List.getElem_range];have h2:=(h.num _ (List.getElem_mem hi)).rat.dW;unfold fM.q;rw [List.getElem?_eq_getElem hi];show dW y.l[i].q<=L;have:=hn.2.2;omega) y.l.length (by rw [cP];exact cG)
 rw [List.take_of_length_le (by rw [cP];exact cG),lF]at this;exact this
theorem Lb (V:World) (r r':bE) (q q':Rat) (L L':Nat) (h:fE V r q L) (h':fE V r' q' L') (hL:1<=L/\1<=L'/\L+L'<=10000000:=by omega):Calls prog 151 #[.agg #[.bool r.s,.slice r.a r.k r.c,.slice r.b r.j r.d],.agg #[.bool r'.s,.slice r'.a r'.k r'.c,.slice r'.b r'.j r'.d]] V λe w'=> ∃(r2:bE) (t:Bool),e= .returned (.tuple #[.agg #[.bool r2.s,.slice r2.a r2.k r2.c,.slice r2.b r2.j r2.d],.bool t])/\(t=true↔ ¬q'=0)/\fE w' r2 (q/q') (L+L'+2)/\Ext V w':=by
 have hs:=En q q';have h1:=h.rat.dW;have h2:=h'.rat.dW
 obtain ⟨⟨n,m,a1,a2,rfl,a3,a4⟩,ak,aj⟩:=h;obtain ⟨⟨n',m',b1,b2,hq,b3,b4⟩,bk,bj⟩:=h';by_cases h0:q'=0
 .refine (Ec V _ _ _ _ _ _ _ _ _ a1 a2 _ _ _ _ _ _ _ _ _ b1 b2 (by rw [<-hq];exact h0)).mono λe w' hh=>⟨⟨false,none,0,0,none,0,0⟩,false,hh.1,by simp [h0],?_,hh.2⟩
  rw [h0,Rat.div_def,Rat.inv_zero,Rat.mul_zero];exact (sK w').mono ae
 .rw [hq]at hs h2⊢h0
  refine (QS V _ _ _ _ _ _ _ _ _ a1 a2 _ _ _ _ _ _ _ _ _ b1 b2 ae ae ae ae h0).mono λe w' hh=> ?_;have h1':=h0;generalize mkRat (bf r.s n) m/mkRat (bf r'.s n') m'=q0 at hs hh⊢;obtain ⟨a,c,a',c',rfl,g1,g2,g3,g4,g5⟩:=hh;have hc:dO w' ⟨decide (q0.num<0),a,len q0.num.natAbs,c,a',len q0.den,c'⟩ q0 V.heap.size:=⟨rfl,rfl,rfl,g1,g3,g2,g4⟩;have hs2:=hc.short (L:=L+L'+2) ae;exact ⟨⟨decide (q0.num<0),a,len q0.num.natAbs,c,a',len q0.den,c'⟩,true,rfl,by simp [h1'],⟨hc.lZ.mono ae,hs2.1,hs2.2⟩,g5⟩
structure rL (W0:World) (E n:Nat) (g:Nat->Rat) (L:Nat) (w:World):Prop where
 ext:Ext W0 w
 le:W0.heap.size<=E
 own:QA w E n g L
theorem rL.next {W0 w w':World} {E n L:Nat} {g:Nat->Rat} (h:rL W0 E n g L w) (x:Ext w w'):rL W0 E n g L w':=⟨h.ext.trans x,h.le,h.own.ext x⟩
theorem rL.but {W0 w w':World} {E n L L':Nat} {g g':Nat->Rat} (h:rL W0 E n g L w) (x:aH E w w') (q:QA w' E n g' L'):rL W0 E n g' L' w':=⟨x.ext h.ext h.le,h.le,q⟩
theorem rL.congr {W0 w:World} {E n L:Nat} {g g':Nat->Rat} (h:rL W0 E n g L w) (e: ∀i,i<n->g i=g' i):rL W0 E n g' L w:=⟨h.ext,h.le,h.own.congr e⟩
theorem rL.lt {W0 w:World} {E n L:Nat} {g:Nat->Rat} (h:rL W0 E n g L w):E<w.heap.size:=h.own.lt
theorem Lc {A:Nat->Rat} (i j:Nat) {q:Rat} (hq:q=A i):(if j=i then q else if j<i then A j else 0)=if j<i+1 then A j else 0:=by
 subst hq;by_cases e:j=i
 .subst e;rw [if_pos rfl,if_pos (Nat.lt_succ_self _)]
 .rw [if_neg e]
  by_cases q:j<i
  .rw [if_pos q,if_pos ae]
  .rw [if_neg q,if_neg ae]
theorem BJ:dW (0:Rat)=1:=by have:=gi 0;rw [show((0:Int):Rat)=0 from rfl]at this;rw [this];decide
theorem R6 (q:Rat):1<=dW q:=by
 have h:=Nat.pos_of_ne_zero q.den_nz;have h2:=iw q
 have h3:1<=len q.den:=Nat.one_le_iff_ne_zero.2 λe=>by
  have h4:=cg.1 (show len q.den<=0 by omega);simp at h4;omega
 omega
theorem nL {f:Nat->Rat} {L:Nat}: ∀{n:Nat},(∀i,i<n->dW (f i)<=L)->dW (eL f n)<=n*(L+1)+1
 |0,_=>by rw [eL,BJ];omega
 |n+1,h=>by
  have h1:=nL λi hi=>h i (Nat.lt_succ_of_lt hi);have h2:=h n (Nat.lt_succ_self n);have h3:=jm (eL f n) (f n);rw [eL,Nat.succ_mul];omega
theorem eC.dW {w:World} {y:fM} {L:Nat} (h:eC w y L) (hL:1<=L) (i:Nat):dW (y.q i)<=L:=by
 unfold fM.q;by_cases hi:i<y.l.length
 .rw [List.getElem?_eq_getElem hi]
  have:=(h.num _ (List.getElem_mem hi)).rat.dW;show Go.Proofs.YtfokdakioeoniaaGreat.dW (y.l[i]).q<=L;omega
 .rw [List.getElem?_eq_none ae];show Go.Proofs.YtfokdakioeoniaaGreat.dW (0:Rat)<=L;rw [BJ];exact hL
theorem jW.dW {w:World} {t:ku} {L:Nat} (h:jW w t L) (hL:1<=L) (i j:Nat):dW (t.q i j)<=L:=by
 unfold ku.q;by_cases hi:i<t.l.length
 .rw [List.getElem?_eq_getElem hi];exact (h.row _ (List.getElem_mem hi)).dW hL j
 .rw [List.getElem?_eq_none ae];show Go.Proofs.YtfokdakioeoniaaGreat.dW (0:Rat)<=L;rw [BJ];exact hL
structure H9 (S:aQ) (p:aU):Prop where
 e: ∀i j,dW (Aw S i j)<=4
 r: ∀i j,dW (uw S i j)<=4
 kT: ∀m∈ [S.cB,S.disch,S.level,S.imp,S.er,S.shift],∀i j,dW (m.q i j)<=4
 mv: ∀x∈S.moves,∀i,dW (x.up.q i)<=4/\dW (x.down.q i)<=4
 en: ∀i j,dW (p.b_.q i j)<=4
 re: ∀i,dW (p.bC.q i)<=4
 pm: ∀m∈p.moves,∀i,dW (m.fc.q i)<=4
theorem H9.of {w:World} {S:aQ} {p:aU} (hs:eM w S 4) (hp:fS w p 4):H9 S p:=
 ⟨λi j=>by
   unfold Aw;by_cases hi:i<S.ay.length
   .rw [List.getElem?_eq_getElem hi];exact (hs.unit _ (List.getElem_mem hi)).2.1.dW ai j
   .rw [List.getElem?_eq_none ae];show dW (0:Rat)<=4;rw [BJ];decide,
 λi j=>by
  unfold uw;by_cases hi:i<S.ay.length
  .rw [List.getElem?_eq_getElem hi];exact (hs.unit _ (List.getElem_mem hi)).2.2.dW ai j
  .rw [List.getElem?_eq_none ae];show dW (0:Rat)<=4;rw [BJ];decide,
 λm hm i j=>(hs.kT m hm).dW ai i j,λx hx i=>⟨(hs.move x hx).2.2.1.dW ai i,(hs.move x hx).2.2.2.dW ai i⟩,
 λi j=>hp.b_.dW ai i j,λi=>hp.bC.dW ai i,λm hm i=>(hp.move m hm).2.2.dW ai i⟩
def PC (ps:List oK) (h:Int):Nat->Nat
 |0=>0
 |n+1=>PC ps h n+if ps[n]?.map oK.hour=some h then 1 else 0
theorem ox.lt {c:aq} {ms:List oK} (h:ox c ms ms.length) (i:Nat): ∀j (hi:i<ms.length) (hj:j<ms.length),i<j->h_ ms[i].hour ms[i].br ms[j].hour ms[j].br
 |0,_,_,e=>absurd e (Nat.not_lt_zero _)
 |j+1,hi,hj,e=>by
  have h1:=(h (j+1) hj hj).2 (Nat.succ_pos _);simp only [Nat.add_sub_cancel]at h1;by_cases q:i=j
  .subst q;exact h1
  .exact (ox.lt h i j hi ae ae).trans h1
theorem Eo {c:aq} {ms:List oK} (hm:ox c ms ms.length) (h:Int): ∀n,n<=ms.length-> ∀b:Nat,(∀j (hj:j<ms.length),j<n->ms[j].hour=h->ms[j].br<b)->PC ms h n<=b
 |0,_,_,_=>bm
 |n+1,hn,b,hb=>by
  have yE:n<ms.length:=hn;have h0:=(hm n yE yE).1.jO.o.1;unfold PC;rw [List.getElem?_eq_getElem yE];by_cases e:ms[n].hour=h
  .rw [if_pos (by simp [e])]
   have h1:=hb n yE (Nat.lt_succ_self n) e
   have h2:=Eo hm h n ae ms[n].br.toNat λj hj hjn ej=>by
    have:=ox.lt hm j n hj yE hjn;unfold h_ at this;omega
   omega
  .rw [if_neg (by simpa using e)]
   exact Eo hm h n ae b λj hj hjn=>hb j hj ae
theorem PD {c:aq} {S:aQ} {p:aU} (hS:H9 S p) {u:Nat} {m:oK} {x:eF} (hm:m∈p.moves) (hx:x∈S.moves):dW (AB c u m x)<=14:=by
 unfold AB;split
 .have h1:=lS (m.fc.q (fG c u)) (Qs x (Ej c m.br.toNat u).toNat)
  have h2:=od (x.up.q (Ej c m.br.toNat u).toNat) (x.down.q (Ej c m.br.toNat u).toNat);have h3:=hS.pm m hm (fG c u);have h4:=hS.mv x hx (Ej c m.br.toNat u).toNat;unfold Qs at h1⊢;omega
 .rw [BJ];decide
theorem PE {c:aq} {S:aQ} {p:aU} (hS:H9 S p) (hM:fp c S.moves) {u:Nat} {h:Int} {m:oK} (hm:m∈p.moves):dW (qc c u h m S.moves S.moves.length)<=14:=by
 by_cases e: ∃i,∃hi:i<S.moves.length,m.hour=h/\S.moves[i].hour=h/\S.moves[i].br=m.br
 .obtain ⟨i,hi,e0,e1,e2⟩:=e
  rw [GL hM hi e0 e1 e2];exact PD hS hm (List.getElem_mem hi)
 .rw [wM λj hj q=>e ⟨j,hj,q⟩,BJ];decide
theorem GZ {c:aq} {S:aQ} {p:aU} (hS:H9 S p) (hM:fp c S.moves) (u:Nat) (h:Int): ∀n,n<=p.moves.length->dW (mL c u h p.moves S.moves n)<=1+15*PC p.moves h n
 |0,_=>by show dW (0:Rat)<=_;rw [BJ];omega
 |n+1,hn=>by
  have yE:n<p.moves.length:=hn;have h1:=GZ hS hM u h n ae;rw [wO yE];unfold PC;rw [List.getElem?_eq_getElem yE];by_cases e:p.moves[n].hour=h
  .rw [if_pos (by simp [e])]
   have h2:=PE (c:=c) hS hM (u:=u) (h:=h) (List.getElem_mem yE);have h3:=jm (mL c u h p.moves S.moves n) (qc c u h p.moves[n] S.moves S.moves.length);omega
  .rw [if_neg (by simpa using e),GM e,Rat.add_zero]
   omega
structure Ti (c:aq):Prop where
 ar:c.ar.length<=5
 ay:c.ay.length<=4
 stores:c.stores.length<=4
 bF:c.bF.length<=4
 outs:c.outs.length<=4
section
variable{c:aq} {S:aQ} {p:aU}
theorem yZ (hS:H9 S p) (hM:fp c S.moves) (hf:mQ c p) (ht:Ti c) (h i:Nat):dW (K0 c S p h i)<=81:=by
 have h1:=GZ (c:=c) hS hM i h p.moves.length cG;have h2:=Eo hf.moves h p.moves.length cG c.outs.length λj hj _ _=>(hf.moves j hj hj).1.jO.o.2;have h3:=ht.outs;have h4:=lS (p.b_.q h (fG c i)) (Aw S i h);have h5:=lS (p.bC.q h) (uw S i h)
 have h6:=jm (p.b_.q h (fG c i)*Aw S i h) (p.bC.q h*uw S i h);have h7:=jm (p.b_.q h (fG c i)*Aw S i h+p.bC.q h*uw S i h) (mL c i h p.moves S.moves p.moves.length);have h8:=hS.en h (fG c i);have h9:=hS.e i h;have h10:=hS.re h;have h11:=hS.r i h
 unfold K0;omega
theorem Ld (hS:H9 S p) (h i:Nat):dW (Px c S p h i)<=14:=by
 have h1:=lS (p.b_.q h (ki c i)) (Ny S i h);have h2:=od (S.disch.q i h) (S.cB.q i h)
 have h3:=hS.en h (ki c i);have h4:=hS.kT S.disch aX i h;have h5:=hS.kT S.cB aX i h
 unfold Px;unfold Ny at h1⊢;omega
theorem Le (hS:H9 S p) (h i:Nat):dW (Qv c S p h i)<=9:=by
 have h1:=lS (p.b_.q h (kL c i)) (S.imp.q i h);have h3:=hS.en h (kL c i);have h4:=hS.kT S.imp aX i h
 unfold Qv;omega
theorem R7 (hA:Acc c) (b h:Nat):dW ((kO c b h:Int):Rat)<=1:=by
 have key:0<=kO c b h/\kO c b h<=1048576:=by
  unfold kO;by_cases hb:b<c.ar.length
  .rw [List.getElem?_eq_getElem hb]
   show 0<=kE c.ar[b].eE h/\_;by_cases hh:h<c.ar[b].eE.length
   .exact yT (hA.ok.fc _ (List.getElem_mem hb)).2.1 h hh
   .simp [kE,List.getElem?_eq_none (show c.ar[b].eE.length<=h by omega)]
  .rw [List.getElem?_eq_none ae];simp [kE]
 rw [gi];have:=cg.2 (show(kO c b h).natAbs<4294967296^1 by omega);omega
theorem G0 (hS:H9 S p) (hA:Acc c) (h b:Nat):dW (jG c S h b)<=6:=by
 have h1:=od ((kO c b h:Int):Rat) (S.er.q b h);have h2:=R7 hA b h;have h3:=hS.kT S.er aX b h
 unfold jG;omega
theorem PF (hS:H9 S p) (hA:Acc c) (ht:Ti c) (h:Nat):dW (qA c S p h)<=64:=by
 have h1:=nL (f:=λi=>uw S i h) (n:=c.ay.length) λi _=>hS.r i h;have h2:=nL (f:=jG c S h) (n:=c.ar.length) λi _=>G0 hS hA h i;have h3:=lS (p.bC.q h) (eL (λi=>uw S i h) c.ay.length);have h4:=En (p.bC.q h*eL (λi=>uw S i h) c.ay.length) (eL (jG c S h) c.ar.length);have h5:=hS.re h;have h6:=ht.ay;have h7:=ht.ar
 unfold qA;omega
theorem Ep (hS:H9 S p) (hA:Acc c) (ht:Ti c) (h b:Nat):dW (EL c S p h b)<=76:=by
 have h1:=jm (p.b_.q h b) (qA c S p h);have h2:=lS (p.b_.q h b+qA c S p h) (jG c S h b)
 have h3:=PF hS hA ht h;have h4:=G0 hS hA h b;have h5:=hS.en h b
 unfold EL;rw [mU];omega
theorem R8 {n k m b h:Nat} {q:Rat} (hq:q∈xM c S p h n k m b):(∃i,q=K0 c S p h i)\/(∃i,q=Px c S p h i)\/(∃i,q=Qv c S p h i)\/ ∃i,q=EL c S p h i:=by
 unfold xM nJ at hq;simp only [List.mem_append,List.mem_map,List.mem_range]at hq;rcases hq with((⟨i,-,rfl⟩|⟨i,-,rfl⟩)|⟨i,-,rfl⟩)|⟨i,-,rfl⟩
 .exact .inl ⟨i,rfl⟩
 .exact .inr (.inl ⟨i,rfl⟩)
 .exact .inr (.inr (.inl ⟨i,rfl⟩))
 .exact .inr (.inr (.inr ⟨i,rfl⟩))
theorem R9 (hS:H9 S p) (hA:Acc c) (hM:fp c S.moves) (hf:mQ c p) (ht:Ti c) {n k m b h:Nat} {q:Rat} (hq:q∈xM c S p h n k m b):dW q<=81:=by
 rcases R8 hq with⟨i,rfl⟩|⟨i,rfl⟩|⟨i,rfl⟩|⟨i,rfl⟩
 .exact yZ hS hM hf ht h i
 .have:=Ld (c:=c) hS h i;omega
 .have:=Le (c:=c) hS h i;omega
 .have:=Ep hS hA ht h i;omega
theorem rM (l l':List Rat):bO (l++l')=bO l+bO l':=by
 induction l' generalizing l with
 |nil=>rw [List.append_nil];show _=bO l+0;rw [Rat.add_zero]
 |cons x l' ih=>
  rw [show l++x::l'=(l++ [x])++l' by simp,ih,tj];have h1:=ih [x];rw [show [x]++l'=x::l' from rfl]at h1;rw [h1,show bO [x]=0+x from rfl];grind
theorem G4 (hS:H9 S p) (hA:Acc c) (hM:fp c S.moves) (hf:mQ c p) (ht:Ti c) (h:Nat):dW (bO (lD c S p h))<=900:=by
 unfold lD xM;rw [rM,rM,rM,lF,lF,lF,lF];have h1:=nL (f:=K0 c S p h) (n:=c.ay.length) λi _=>yZ hS hM hf ht h i;have h2:=nL (f:=Px c S p h) (n:=c.stores.length) λi _=>Ld hS h i;have h3:=nL (f:=Qv c S p h) (n:=c.bF.length) λi _=>Le hS h i;have h4:=nL (f:=EL c S p h) (n:=c.ar.length) λi _=>Ep hS hA ht h i;have h5:=jm (eL (K0 c S p h) c.ay.length) (eL (Px c S p h) c.stores.length);have h6:=jm (eL (K0 c S p h) c.ay.length+eL (Px c S p h) c.stores.length) (eL (Qv c S p h) c.bF.length);have h7:=jm (eL (K0 c S p h) c.ay.length+eL (Px c S p h) c.stores.length+eL (Qv c S p h) c.bF.length) (eL (EL c S p h) c.ar.length);have t1:=ht.ay;have t2:=ht.stores;have t3:=ht.bF;have t4:=ht.ar
 omega
end
theorem eA.ne {W0 w:World} {E L:Nat} {q:Rat} (h:eA W0 E q L w) {D:Nat} (hD:w.heap.size<=D):D≠E:=dB h.lt
theorem G8 (V:World) (c:aq) (p:aU) (u:Nat) (h:Int) (ma:Option Addr) (mc:Nat) (ms:List eF) (hc:bK V c) (hA:Acc c) (hp:fS V p 4) (hf:mQ c p) (hr:di V 4 ma mc (ms.map eF.cells)) (hv: ∀m∈ms,dx m.hour/\dx m.br/\eC V m.up 4/\eC V m.down 4) (hmo:fp c ms) (hu:u<c.ay.length) (hm:p.moves.length<=100) (hn:ms.length<=1000):
 Calls prog 59 #[.agg (C8 c),.agg p.cells.toArray,.int .i64 (u:Int),.int .i64 h,.slice ma ms.length mc] V (λe w'=> ∃r:bE,e= .returned (.agg #[.bool r.s,.slice r.a r.k r.c,.slice r.b r.j r.d])/\fE w' r (mL c u h p.moves ms p.moves.length) 2000000/\Ext V w'):=by
 try unfold C8
 have HC:=af hc;have HP:=af hp;have td:=af hf;have Qw:=af hm;have HMR:=af hr;have Nx:=af hv;have Rq:=af hmo;have HMN:=af hn
 have RG:=hp.moves.lens;have pj:=hc.ay.lens;have Yt:=hc.outs.lens;have RU:=hr.lens
 have EI:=af (hA.ok.unit _ (List.getElem_mem hu)).fc;have qy:=af (sD hu);have ig:Hid (fG c u<c.ar.length):=by show _<_;rw [qy.o];have:=EI.o;omega
 clear hc hp hf hm hr hv hmo hn;unfold aU.cells at*;go_enter func59,ntmps59
 go_upto_region 1 with fail
 generalize hW1:World.alloc V _=W1;generalize hW2:World.alloc W1 _=W2;generalize hW:World.alloc W2 _=W;obtain ⟨G,P,Z,hG,hR,hB,HX,dY,iU,yC,nW⟩:=fw hW1 hW2 hW;rw [<-hG];try rw [hR]
 try rw [hB]
 clear hW hW1 hW2 hG hR hB;go_wp2_with fail
 refine (DY W).mono ?_;rintro e w6 ⟨r0,rfl,rY,-,x6⟩;have MO:=af rY;go_upto_region 2 with(refine aT rfl 63 _ _ rfl _ [.bool r0.s,.slice r0.a r0.k r0.c,.slice r0.b r0.j r0.d] rfl rfl aw rfl rfl ?_)
 generalize K8:World.alloc w6 _=W7;obtain ⟨E,hE,x7,A7⟩:=aI K8;rw [<-hE];try simp only [Act.put]
 have HI:Hid (eA w6 E (mL c u h p.moves ms 0) (1+15000*0) W7):=⟨x7,ae,r0,A7,MO.o.ext x7⟩;have HB:=af (HX.o.trans x6);replace dY:=af (dY.o.ext x6);replace iU:=af (iU.o.ext x6);replace yC:=af (yC.o.ext x6)
 clear K8 hE x7 A7 MO rY x6 HX;have s:=Ext.refl W7
 go_upto_block 0 with fail
 go_cut [] (λwx=>eA w6 E (mL c u h p.moves ms p.moves.length) (1+15000*p.moves.length) wx)
 case first=>
  as_aux_lemma=>
   go_wp2
   go_loopw [12] (λii wr=> ∃i:Nat,i<=p.moves.length/\ii= .int .i64 i/\eA w6 E (mL c u h p.moves ms i) (1+15000*i) wr) (λii _=>p.moves.length-(intOf ii).toNat)
   case atStart=>exact ⟨0,bm,rfl,HI.o⟩
   case round=>
    clear HI s;obtain ⟨i,hi,rfl,hI⟩:=hrel;have HI:=af hI;clear hI;by_cases hlt:i<p.moves.length
    .have b1:(i:Int)<(p.moves.length:Int):=Int.ofNat_lt.2 hlt
     have b0:(0:Int)<=(i:Int):=Int.natCast_nonneg i;obtain ⟨b,o,x,hx,KP⟩:=eZ iU.o (HP.o.moves.ext HB.o) 2 rfl i hlt;have YO:=af ((HP.o.ext HB.o).move x (by rw [hx.o];exact List.getElem_mem hlt)).2.2;have Nv:Hid (x.fc.l.length=c.ar.length):=by show _;rw [hx.o];exact (td.o.moves i hlt hlt).1.fc
     have HSQ:=af (wO (c:=c) (u:=u) (h:=h) (ms:=ms) hlt);rw [<-hx.o]at HSQ;obtain ⟨xh,xo,xb⟩:=x;replace KP:=gO KP;have BV:=af hlt;clear hx;replace KP: ∀Y,Ext w6 Y->_:=KP;have KQ:=λY (e:Ext wr Y)=>KP Y (HI.o.ext.trans e);have s:=Ext.refl wr;go_upto_region 6 with(refine aT rfl 53 _ _ rfl _ [i64 xh,i64 xo] rfl rfl aw rfl rfl ?_)
     generalize hW2:World.alloc wr _=W2;obtain ⟨D2,Cf,x2,A2⟩:=aI hW2;rw [<-Cf];try simp only [Act.put]
     have HDE:Hid (D2≠E):=HI.o.ne ae;have HJ:Hid (eA w6 E (mL c u h p.moves ms i+qc c u h ⟨xh,xo,xb⟩ ms 0) (1+15000*i+15*0) W2/\aY W2 D2 53 [i64 xh,i64 xo]):=⟨(HI.o.next x2).kP (by show _=_+(0:Rat);rw [Rat.add_zero]),A2⟩;clear A2 x2 Cf hW2 KQ s HI;have s:=Ext.refl W2;go_wp2
     go_loopw [14] (λii wr=> ∃k:Nat,k<=ms.length/\ii= .int .i64 k/\eA w6 E (mL c u h p.moves ms i+qc c u h ⟨xh,xo,xb⟩ ms k) (1+15000*i+15*k) wr/\aY wr D2 53 [i64 xh,i64 xo]) (λii _=>ms.length-(intOf ii).toNat)
     case atStart=>exact ⟨0,bm,rfl,HJ.o⟩
     case round=>
      clear HJ s;obtain ⟨k,hk,rfl,hJ⟩:=hrel;have HJ:=af hJ;clear hJ;by_cases mr:k<ms.length
      .have b1:(k:Int)<(ms.length:Int):=Int.ofNat_lt.2 mr
       have b0:(0:Int)<=(k:Int):=Int.natCast_nonneg k;obtain ⟨b3,o3,y,rfl,hy,KM⟩:=(HMR.o.ext (HB.o.trans HJ.o.1.ext)).pick k mr;have Pg:=af (Nx.o y (by rw [hy.o];exact List.getElem_mem mr));have Vk:Hid (Cz c y):=by show _;rw [hy.o];exact (Rq.o k mr mr).1
       have HY:=hy;have H5:=af (MN c u h ⟨xh,xo,xb⟩ ms k);replace KM:=jo KM;have KD:=λY (e:Ext wr Y)=>(HJ.o.2.ext e).cs;replace KD:=gO KD;clear hy;have s:=Ext.refl wr;go_upto_region 9 with fail
       refine wG (λw=>Ext wr w) (s.drew) λs=> ?_;generalize wr.drew=Y at*;refine wV 0 s ?_;refine wV 1 s ?_;refine wV 2 s ?_;refine wV 3 s ?_;refine wV 4 s ?_;refine wB 5 s ?_;refine wB 6 s ?_;refine wB 7 s ?_;refine wB 8 s ?_;refine wB 9 s ?_;refine wB 10 s ?_;refine wB 11 s ?_;refine wP 12 s ?_;refine wV 13 s ?_;refine wB 14 s ?_;refine wB 15 s ?_;refine wB 16 s ?_;refine wB 17 s ?_;refine wB 18 s ?_;refine wB 19 s ?_;refine wB 20 s ?_;refine wB 21 s ?_;refine wP 22 s ?_;refine wD ?_;obtain ⟨bb,qI⟩: ∃bb,Hid (((xh !=h)||(y.hour !=h)||(y.br !=xo))=bb):=⟨_,rfl⟩;rw [qI.o];have dK:=af (HJ.o.1.next s);have yf:=af (HJ.o.2.ext s);cases bb with
       |true=>
        have Wz:Hid (GJ c u h ⟨xh,xo,xb⟩ ms k=0):=Ek mr λq=>by
         have q1:xh=h:=q.1;have:=qI.o;rw [HY.o,q.2.1,q.2.2,q1]at this;simp at this
        have HN:=af (dK.o.kP (q':=mL c u h p.moves ms i+qc c u h ⟨xh,xo,xb⟩ ms (k+1)) (by rw [H5.o,Wz.o,Rat.add_zero]));clear KM;go_wp2
        exact ⟨⟨k+1,mr,bq,HN.o.mono ae,yf.o⟩,bz⟩
       |false=>
       have TG:Hid (xh=h/\y.hour=h/\y.br=xo):=by
        have:=qI.o;simp at this;exact ⟨this.1.1,this.1.2,this.2⟩
       have t1:(xh !=h)=false:=by simpa using TG.o.1
       have t2:(y.hour !=h)=false:=by simpa using TG.o.2.1
       have Wz:Hid (GJ c u h ⟨xh,xo,xb⟩ ms k=AB c u ⟨xh,xo,xb⟩ y):=by
        show _=_;rw [GK mr TG.o.1 (by rw [<-HY.o];exact TG.o.2.1) (by rw [<-HY.o];exact TG.o.2.2),<-HY.o]
       obtain ⟨n,YX⟩: ∃n:Nat,Hid (xo=(n:Int)):=⟨xo.toNat,by show _=_;have:=Vk.o.jO.o;rw [TG.o.2.2]at this;omega⟩;have hno:n<c.outs.length:=by have:=Vk.o.jO.o;rw [TG.o.2.2,YX.o]at this;omega
       obtain ⟨b1,o1,z,hz,KO⟩:=eZ (dY.o.ext dK.o.ext) (HC.o.ext (HB.o.trans dK.o.ext)).outs 7 rfl n hno;replace KO:=jo KO;have HZR:=af ((HC.o.ext (HB.o.trans dK.o.ext)).o z (by rw [hz.o];exact List.getElem_mem hno)).2.2.1;have MP:Hid (j5 c n=z.moves):=by show _=_;rw [vo hno,hz.o]
       obtain ⟨z2,RV⟩: ∃z2,Hid (Ej c n u=z2):=⟨_,rfl⟩
       have uW:Hid (∀U,Ext Y U->Calls prog 133 #[.agg z.cells.toArray,.int .i64 (u:Int)] U λe w'=>e= .returned (i64 z2)/\Ext U w'):=λU hU=>by
        have h1:=MJ U z u (HZR.o.ext hU);rw [<-RV.o,K7,MP.o];exact h1
       unfold ee.cells at uW;have KD2:=λU (e:Ext Y U)=>(yf.o.ext e).cs;simp only [Cs,Nat.add_zero,Nat.zero_add,Nat.reduceAdd,and_true,YX.o]at KD2;have k1:(n:Int)<(c.outs.length:Int):=Int.ofNat_lt.2 hno;have k0:(0:Int)<=(n:Int):=Int.natCast_nonneg n;clear KD hz;have s2:=Ext.refl Y;go_wp2_with fail
       refine (uW.o _ (by first|exact s2|exact ah)).mono ?_;rintro e w4 ⟨rfl,x4⟩;repeat(clear h)
       replace dK:=af (dK.o.next x4);replace yf:=af (yf.o.ext x4);have HSX:=af (s.trans x4);clear uW KO KD2 s s2 x4;have s:=Ext.refl w4
       rcases (show(∃t:Nat,Ej c n u=t/\t<(j5 c n).length)\/Ej c n u= -1 from by
        rcases pY (λi=>decide (((j5 c n)[i]?.map cH.unit)=some (u:Int))) (j5 c n).length with⟨t,f1,-,-,f4⟩|⟨-,f2⟩
        .exact .inl ⟨t,f4,f1⟩
        .exact .inr f2)with⟨t,f1,f2⟩|f1
       case inr=>
        have HPT:Hid (AB c u ⟨xh,xo,xb⟩ y=0):=GN (by show Ej c xo.toNat u<0;rw [YX.o,Int.toNat_natCast,f1];decide);obtain rfl:z2= -1:=by rw [<-RV.o];exact f1
        have HN:=af (dK.o.kP (q':=mL c u h p.moves ms i+qc c u h ⟨xh,xo,xb⟩ ms (k+1)) (by rw [H5.o,Wz.o,HPT.o,Rat.add_zero]));clear KM f1;go_wp2
        exact ⟨⟨k+1,mr,bq,HN.o.mono ae,yf.o⟩,bz⟩
       have HPT:Hid (AB c u ⟨xh,xo,xb⟩ y=xb.q (fG c u)*(y.up.q t-y.down.q t)):=GP (by show Ej c xo.toNat u=t;rw [YX.o,Int.toNat_natCast,f1]);obtain rfl:z2=(t:Int):=by rw [<-RV.o];exact f1
       have e2:(0:Int)<=(t:Int):=Int.natCast_nonneg t
       have Ip:Hid (t<y.up.l.length/\t<y.down.l.length):=by
        have h1:=Vk.o.up;have h2:=Vk.o.down
        rw [TG.o.2.2,YX.o,Int.toNat_natCast]at h1 h2;show _/\_;omega
       replace KM:=λY (e:Ext w4 Y)=>KM Y (HSX.o.trans e);obtain ⟨b5,o5,ru,Vl,k2,Ku⟩:=GS (W:=w4) ((Pg.o.2.2.1).ext (HB.o.trans dK.o.ext)) t Ip.o.1 (λY e=>(KM Y e).2.2.1);obtain ⟨b6,o6,rd,CG,k3,Kd⟩:=GS (W:=w4) ((Pg.o.2.2.2).ext (HB.o.trans dK.o.ext)) t Ip.o.2 (λY e=>(KM Y e).2.2.2.1);obtain ⟨b7,o7,v,hv,KV⟩:=eZ (dY.o.ext dK.o.ext) (HC.o.ext (HB.o.trans dK.o.ext)).ay 4 rfl u hu
       replace KV: ∀Y,Ext w4 Y->Y.cell? ⟨G,4,none⟩=some (.slice (some ⟨b7,o7,none⟩) c.ay.length c.uc)/\Y.cell? ⟨b7,o7+u*22+1,none⟩=some (i64 ((fG c u:Nat):Int)):=λY e=>⟨(KV Y e).1,by
        have h1:v.fc=((fG c u:Nat):Int):=by rw [qy.o,hv.o];have:=EI.o;omega
        rw [<-h1];exact (KV Y e).2.2.1⟩
       obtain ⟨b8,o8,re,He,k5,Ke⟩:=GS (W:=w4) (YO.o.ext dK.o.ext) (fG c u) (by rw [Nv.o];exact ig.o) (λY e=>(KP Y (dK.o.ext.trans e)).2.2.2);have KP2:=λY (e:Ext w4 Y)=>(KP Y (dK.o.ext.trans e)).1;obtain ⟨rs,Hs,KS⟩:=dK.o.get;have k7:(u:Int)<(c.ay.length:Int):=Int.ofNat_lt.2 hu;have k8:(0:Int)<=(u:Int):=Int.natCast_nonneg u;have k9:(0:Int)<=((fG c u:Nat):Int):=Int.natCast_nonneg _;clear hv KM f1;go_upto_region 12 with fail
       refine zG 34 (λw=>Ext w4 w) (s.drew) λs=> ?_;generalize w4.drew=Y at*;refine zV 0 s ?_;refine zV 1 s ?_;refine zV 3 s ?_;refine zV 7 s ?_;refine zV 9 s ?_;refine zV 15 s ?_;refine zV 16 s ?_;refine zV 20 s ?_;refine zV 23 s ?_;refine zV 24 s ?_;refine zV 28 s ?_;refine zV 2 s ?_;refine zV 8 s ?_;refine zV 17 s ?_;refine zV 25 s ?_;refine zV 4 s ?_;refine zV 10 s ?_;refine zV 18 s ?_;refine zV 26 s ?_;refine zV 5 s ?_;refine zV 11 s ?_;refine zV 19 s ?_;refine zV 27 s ?_;refine zV 6 s ?_;refine zV 12 s ?_;refine zV 21 s ?_;refine zV 29 s ?_;refine zV 13 s ?_;refine zV 22 s ?_;refine zV 30 s ?_;refine zV 14 s ?_;refine zN 31 s (Kt _ _ _ _ _ 4 4 (Vl.o.ext s) (CG.o.ext s)) λr1 w31 cD bJ x s=> ?_;clear x bJ;refine zN 32 s (qx _ _ _ _ _ 4 9 (He.o.ext s) cD.o) λr2 w32 dL bJ x s=> ?_;clear x bJ;refine zN 33 s (vr _ _ _ _ _ (1+15000*i+15*k) 14 (Hs.o.ext s) dL.o (aO3 Qw.o BV.o HMN.o)) λr3 w33 iH bJ x s=> ?_;clear x bJ;have kW:=af (dK.o.next s);have f3:=λi=>kW.o.frozen i;refine zL 34 λK' hK=> ?_;rw [if_pos bQ];go_simp;refine hK.o _ _ ?_;clear hK K' f3;have mJ:=af (((kW.o.put iH.o).mono (show _<=1+15000*i+15*(k+1) by omega)).kP (q':=mL c u h p.moves ms i+qc c u h ⟨xh,xo,xb⟩ ms (k+1)) (by rw [H5.o,Wz.o,HPT.o,Rat.add_assoc]));have VH:=af ((yf.o.ext s).gw (cF _ _ r3) HDE.o);unfold mK at VH;unfold mK at mJ;clear s;generalize World.setCell _ _ _=W9 at mJ VH⊢;go_wp2
       exact ⟨⟨k+1,mr,bq,mJ.o,VH.o⟩,bz⟩
      .obtain rfl:k=ms.length:=ae
       clear mr hk;have s:=Ext.refl wr;have HN:=af (HJ.o.1.kP (q':=mL c u h p.moves ms (i+1)) (by rw [HSQ.o]));have HL9:Hid (1+15000*i+15*ms.length<=1+15000*(i+1)):=by have:=HMN.o;show _<=_;omega
       clear KP;go_wp2
       exact ⟨⟨i+1,hlt,bq,HN.o.mono HL9.o⟩,bz⟩
    .obtain rfl:i=p.moves.length:=ae
     clear hlt hi;have s:=Ext.refl wr;have K1:=λY (e:Ext wr Y)=>((iU.o.ext HI.o.ext).ext e).cs;replace K1:=gO K1;go_wp2
     go_meet
     exact HI.o
 case rest=>
  have dK:=af hcut;generalize wc=EH at*;clear HI s hcut;obtain ⟨rs,Hs,KS⟩:=dK.o.get;have s:=Ext.refl EH;have py:=yC.o.ext dK.o.ext;go_wp2_with (refine cA rfl 63 _ _ rfl Z [.bool false,.slice none 0 0,.slice none 0 0] [.bool rs.s,.slice rs.a rs.k rs.c,.slice rs.b rs.j rs.d] py rfl rfl aw rfl rfl ?_;intro W11 Pz tW)
  refine bodyPost_ret (v:= .agg #[.bool rs.s,.slice rs.a rs.k rs.c,.slice rs.b rs.j rs.d]) (ib 10 _ rfl rfl Pz underlying63 rfl aw) rfl ?_;exact ⟨rs,rfl,((Hs.o.vu (r0:=⟨false,none,0,0,none,0,0⟩) py tW)).mono (dB Qw.o),tW.ext (HB.o.trans dK.o.ext) nW.o.2.2⟩
theorem G9 {w W1 W2 W W3:World} {T0 T1 T2 T3:TypeId} {c0 c1 c2 c3:List Value} (h1:w.alloc (.cells c0.toArray T0)=W1) (h2:W1.alloc (.cells c1.toArray T1)=W2) (h3:W2.alloc (.cells c2.toArray T2)=W3) (h4:W3.alloc (.cells c3.toArray T3)=W): ∃G R B Z,G=w.heap.size/\G+1=R/\R+1=B/\B+1=Z/\Hid (Ext w W)/\Hid (aY W G T0 c0)/\Hid (aY W R T1 c1)/\Hid (aY W B T2 c2)/\Hid (aY W Z T3 c3)/\Hid (w.heap.size<=Z):=by
 obtain ⟨G,R,B,hG,hR,hB,x,A0,A1,A2,hw⟩:=fw h1 h2 h3;obtain ⟨Z,hZ,x3,A3⟩:=aI h4;have h:B+1=Z:=by rw [hZ,<-h3];simp;rw [<-hB,<-hR,hG,<-h2,<-h1];simp
 have:=hw.o;exact ⟨G,R,B,Z,hG,hR,hB,h,x.o.trans x3,A0.o.ext x3,A1.o.ext x3,A2.o.ext x3,A3,(show _<=_ by omega)⟩
def oA (p:aU) (h:Nat) (x:Nat->Rat) (n:Nat):Rat:=eL (λb=>p.b_.q h b*x b) n
noncomputable def AK (c:aq) (S:aQ) (h:Nat) (m:oK) (n:Nat):Rat:=eL (λb=>m.fc.q b*(mj c S h m.br b-mj c S h (-1) b)) n
noncomputable def Lg (c:aq) (S:aQ) (h:Nat) (m:oK):Rat:=if m.hour=(h:Int)then AK c S h m c.ar.length else 0
noncomputable def nO (c:aq) (S:aQ) (p:aU) (h n:Nat):Rat:=eL (λi=>(p.moves[i]?.map (Lg c S h)).getD 0) n
theorem VL (p:aU) (h:Nat) (x:Nat->Rat) (i:Nat): -(oA p h x i)-p.b_.q h i*x i= -(oA p h x (i+1)):=by
 show _= -(oA p h x i+p.b_.q h i*x i);grind
theorem VM (c:aq) (S:aQ) (h:Nat) (m:oK) (A:Rat) (i:Nat):(A-AK c S h m i)-m.fc.q i*(mj c S h m.br i-mj c S h (-1) i)=A-AK c S h m (i+1):=by
 show _=A-(AK c S h m i+m.fc.q i*(mj c S h m.br i-mj c S h (-1) i));grind
theorem JF {c:aq} {S:aQ} {p:aU} {h i:Nat} (hi:i<p.moves.length):nO c S p h (i+1)=nO c S p h i+Lg c S h p.moves[i]:=by
 unfold nO;rw [eL];simp [List.getElem?_eq_getElem hi]
noncomputable def Y8 (c:aq) (S:aQ) (p:aU) (h:Nat):Rat:= -(oA p h (mj c S h (-1)) c.ar.length)-nO c S p h p.moves.length
open Classical in
noncomputable def nX (c:aq) (S:aQ) (p:aU) (h:Int):Int:=if eY c S/\mQ c p then(if 0<=h/\h<c.hours then 0 else 12)else 4
theorem wS {c:aq} {S:aQ} {p:aU} {h:Int} (q: ¬(eY c S/\mQ c p)):nX c S p h=4:=by unfold nX;rw [if_neg q]
theorem vx {c:aq} {S:aQ} {p:aU} {h:Int} (q:eY c S/\mQ c p) (r: ¬(0<=h/\h<c.hours)):nX c S p h=12:=by unfold nX;rw [if_pos q,if_neg r]
theorem Ev {c:aq} {S:aQ} {p:aU} {h:Int} (q:eY c S/\mQ c p) (r:0<=h/\h<c.hours):nX c S p h=0:=by unfold nX;rw [if_pos q,if_pos r]
theorem JG {c:aq} {S:aQ} {p:aU} {h:Int} (q:eY c S/\mQ c p):GF c S h (-1)=nX c S p h:=by
 by_cases r:0<=h/\h<c.hours
 .rw [Eh q.1 ⟨r,.inl rfl⟩,Ev q r]
 .rw [Js q.1 λe=>r e.1,vx q r]
def Sc (V:World) (c:aq) (S:aQ) (p:aU) (h:Int) (e:Ending) (w':World):Prop:= ∃(r:bE) (q:Rat),e= .returned (.tuple #[.agg #[.bool r.s,.slice r.a r.k r.c,.slice r.b r.j r.d],i64 (nX c S p h)])/\fE w' r q 4000000/\(nX c S p h=0->q=Y8 c S p h.toNat)/\(¬nX c S p h=0->q=0)/\Ext V w'
theorem QA.vu {w w':World} {K n L E:Nat} {g:Nat->Rat} {r0:bE} (h:QA w K n g L) (A:aY w E 63 r0.cells) (x:aH E w w') (hE:K≠E):QA w' K n g L:=by
 obtain ⟨vs,h1,h2,h3⟩:=h.arr;exact ⟨vs,h1,h2.gw x hE,λi hi=>by obtain ⟨r,c0,c1,c2,hn,ho⟩:=h3 i hi;exact ⟨r,c0,c1,c2,hn.vu A x,ho⟩⟩
theorem eA.congr {W0 w:World} {E L:Nat} {q q':Rat} (h:eA W0 E q L w) (e:q=q'):eA W0 E q' L w:=e▸h
theorem Sd (V:World) (c:aq) (S:aQ) (p:aU) (h:Int) (hc:bK V c) (hl:kU c) (h0:cC c=0) (hA:Acc c) (hs:eM V S 4) (hp:fS V p 4) (hn:S.moves.length<=1000000) (hm:p.moves.length<=100):
 Calls prog 19 #[.agg (C8 c),.agg S.cells.toArray,.agg p.cells.toArray,.int .i64 h] V (Sc V c S p h):=by
 try unfold C8
 have p7:=af (λU (x:Ext V U)=>px U c (hc.ext x) hl);rw [h0]at p7;have Hu:=af (λU (x:Ext V U)=>Pu U c S 4 (hc.ext x) hl h0 hA (hs.ext x));have HFT:=af (λU (x:Ext V U)=>RT U c p 4 (hc.ext x) hA (hp.ext x));have Hz:=af (λU (x:Ext V U) o=>BH U c S h o (hc.ext x) hl h0 hA (hs.ext x) hn);have HP:=af hp;have HM:=af hm;have Sg:=af hA.ok.frame.ar.2
 have RG:=hp.moves.lens;have nE:=hc.ar.lens
 clear hc hl h0 hA hs hn hp hm;unfold aQ.cells aU.cells at*;go_enter func19,ntmps19
 go_upto_region 1 with fail
 generalize hW1:World.alloc V _=W1;generalize hW2:World.alloc W1 _=W2;generalize hW3:World.alloc W2 _=W3;generalize hW:World.alloc W3 _=W;obtain ⟨G,R,B,Z,hG,hR,hB,hZ,HX,dY,gH,iU,yC,nW⟩:=G9 hW1 hW2 hW3 hW;rw [<-hG];try rw [hR]
 try rw [hB]
 try rw [hZ]
 clear hW hW1 hW2 hW3 hG hR hB hZ;have K: ∀Y,Ext W Y->_:=λY e=>aq.at (dY.o.ext e);have K1: ∀Y,Ext W Y->_:=λY e=>(gH.o.ext e).cs;have K2: ∀Y,Ext W Y->_:=λY e=>(iU.o.ext e).cs;replace K1:=gO K1;replace K2:=gO K2;have st:=Ext.refl W;go_wp2_with fail
 refine (p7.o W HX.o).mono ?_;rintro e w1 ⟨ek,ei,ef,rfl,xx⟩;clear p7;replace st:=st.trans xx;clear xx;go_upto_region 2 with fail
 generalize hW2:World.alloc w1 _=W2;obtain ⟨B2,-,x2,-⟩:=aI hW2;replace st:=st.trans x2;clear hW2 x2;go_wp2_with fail
 refine (Hu.o W2 (HX.o.trans st)).mono ?_;rintro e w3 ⟨t,rfl,ht,x3⟩;have HT:=af ht;replace st:=st.trans x3;clear x3 ht;cases t with
 |false=>
  have BK:Hid (nX c S p h=4):=wS λq=>by have:=HT.o.2 q.1;cases this
  have py:=yC.o.ext st;go_wp2_with (refine cA rfl 63 _ _ rfl Z [.bool false,.slice none 0 0,.slice none 0 0] [.bool false,.slice none 0 0,.slice none 0 0] py rfl rfl aw rfl rfl ?_;intro EH rH ji)
  refine bodyPost_ret (v:= .tuple #[.agg #[.bool false,.slice none 0 0,.slice none 0 0],i64 4]) (jE 8 9 _ rfl rfl rfl rH underlying63 rfl aw) rfl ?_;exact ⟨⟨false,none,0,0,none,0,0⟩,0,by rw [BK.o],(sK _).mono ai,λq=>(by rw [BK.o]at q;cases q),λ_=>rfl,ji.ext (HX.o.trans st) nW.o⟩
 |true=>
 have Tz:=af (HT.o.1 (by trivial));clear HT;go_wp2_with fail
 refine (HFT.o w3 (HX.o.trans st)).mono ?_;rintro e w4 ⟨t,rfl,ht,x4⟩;have HT:=af ht;replace st:=st.trans x4;clear x4 ht;cases t with
 |false=>
  have BK:Hid (nX c S p h=4):=wS λq=>by have:=HT.o.2 q.2;cases this
  have py:=yC.o.ext st;go_wp2_with (refine cA rfl 63 _ _ rfl Z [.bool false,.slice none 0 0,.slice none 0 0] [.bool false,.slice none 0 0,.slice none 0 0] py rfl rfl aw rfl rfl ?_;intro EH rH ji)
  refine bodyPost_ret (v:= .tuple #[.agg #[.bool false,.slice none 0 0,.slice none 0 0],i64 4]) (jE 8 9 _ rfl rfl rfl rH underlying63 rfl aw) rfl ?_;exact ⟨⟨false,none,0,0,none,0,0⟩,0,by rw [BK.o],(sK _).mono ai,λq=>(by rw [BK.o]at q;cases q),λ_=>rfl,ji.ext (HX.o.trans st) nW.o⟩
 |true=>
 have td:=af (HT.o.1 (by trivial));clear HT;go_wp2_with fail
 refine (Hz.o w4 (HX.o.trans st) (-1)).mono ?_;rintro e w5 hr;rw [Jt,JG ⟨Tz.o,td.o⟩]at hr;rcases hr with⟨hz,X,rfl,hq,hXl,x5⟩|⟨hz,rfl,x5⟩
 case inr=>
  replace st:=st.trans x5;have BK:=af hz;have t1:(nX c S p h !=0)=true:=by simpa using hz
  clear hz x5;have py:=yC.o.ext st;go_wp2_with (refine cA rfl 63 _ _ rfl Z [.bool false,.slice none 0 0,.slice none 0 0] [.bool false,.slice none 0 0,.slice none 0 0] py rfl rfl aw rfl rfl ?_;intro EH rH ji)
  refine bodyPost_ret (v:= .tuple #[.agg #[.bool false,.slice none 0 0,.slice none 0 0],i64 (nX c S p h)]) (jE 8 9 _ rfl rfl rfl rH underlying63 rfl aw) rfl ?_;exact ⟨⟨false,none,0,0,none,0,0⟩,0,rfl,(sK _).mono ai,λq=>absurd q BK.o,λ_=>rfl,ji.ext (HX.o.trans st) nW.o⟩
 have HQ:=af hq;have HZ:=af hz;replace st:=st.trans x5
 have ND:Hid (0<=h/\h<c.hours):=by
  show _;by_cases r:0<=h/\h<c.hours
  .exact r
  .have:=vx ⟨Tz.o,td.o⟩ r;rw [hz]at this;cases this
 clear hq hz x5 hXl;obtain ⟨k,rfl⟩: ∃k:Nat,h=(k:Int):=⟨h.toNat,dB ND.o⟩;rw [Int.toNat_natCast]at HQ;have k6:(0:Int)<=(k:Int):=Int.natCast_nonneg k;go_wp2_with fail
 refine (CD w5 0 ai ai).mono ?_;rintro e w6 ⟨r0,rfl,rY,-,x6⟩;replace st:=st.trans x6;have MO:=af rY;go_upto_region 10 with(refine aT rfl 63 _ _ rfl _ [.bool r0.s,.slice r0.a r0.k r0.c,.slice r0.b r0.j r0.d] rfl rfl aw rfl rfl ?_)
 generalize K8:World.alloc w6 _=W7;obtain ⟨E,hE,x7,A7⟩:=aI K8;rw [<-hE];try simp only [Act.put]
 have HI:Hid (eA w6 E (-(oA p k (mj c S k (-1)) 0)) (1+406*0) W7):=eA.congr ⟨x7,ae,r0,A7,MO.o.ext x7⟩ (by show((0:Int):Rat)= -(0:Rat);decide);have HB:=af (HX.o.trans st);replace dY:=af (dY.o.ext st);replace gH:=af (gH.o.ext st);replace iU:=af (iU.o.ext st);replace yC:=af (yC.o.ext st);replace HQ:=af (HQ.o.ext x6)
 clear K8 hE x7 A7 MO rY x6 st K K1 K2 Hu HFT HX;have s:=Ext.refl W7;have K1: ∀Y,Ext W7 Y->_:=λY e=>((iU.o.ext HI.o.ext).ext e).cs;replace K1:=gO K1
 go_upto_block 0 with fail
 go_cut [] (λwx=>eA w6 E (-(oA p k (mj c S k (-1)) c.ar.length)) (1+406*c.ar.length) wx)
 case first=>
  as_aux_lemma=>
   go_wp2
   go_loopw [57] (λii wr=> ∃i:Nat,i<=c.ar.length/\ii= .int .i64 i/\eA w6 E (-(oA p k (mj c S k (-1)) i)) (1+406*i) wr) (λii _=>c.ar.length-(intOf ii).toNat)
   case atStart=>exact ⟨0,bm,rfl,HI.o⟩
   case round=>
    clear HI K1 s;obtain ⟨i,hi,rfl,hI⟩:=hrel;have HI:=af hI;clear hI;by_cases hlt:i<c.ar.length
    .have b1:(i:Int)<(c.ar.length:Int):=Int.ofNat_lt.2 hlt
     have b0:(0:Int)<=(i:Int):=Int.natCast_nonneg i;obtain ⟨rx,Hx,KX⟩:=HQ.o.get i hlt;replace Hx:=af (Hx.o.ext HI.o.ext);replace KX: ∀Y,Ext wr Y->_:=λY e=>KX Y (HI.o.ext.trans e);have s:=Ext.refl wr;go_upto_region 13 with(refine aT rfl 63 _ _ rfl _ [.bool rx.s,.slice rx.a rx.k rx.c,.slice rx.b rx.j rx.d] rfl rfl aw rfl rfl ?_)
     generalize hW2:World.alloc wr _=W2;obtain ⟨B2,TH,x2,A2⟩:=aI hW2;rw [<-TH];try simp only [Act.put]
     have dK:=af (HI.o.next x2);have KB: ∀Y,Ext W2 Y->_:=λY e=>(A2.ext e).cs;replace KB:=gO KB;replace Hx:=af (Hx.o.ext x2);clear A2 x2 TH hW2 s HI KX;obtain ⟨rs,Hs,KS⟩:=dK.o.get;obtain ⟨a1,a2,a3,a4,a5,a6,re,He,Tv,Nz,Ke⟩:=ie (j:=0) (iU.o.ext dK.o.ext) (HP.o.b_.ext (HB.o.trans dK.o.ext)) rfl td.o.b_ k i ND.o.2 b1;refine zG 12 (λw=>Ext W2 w) ((Ext.refl W2).drew) λs=> ?_;generalize W2.drew=Y at*;refine zV 0 s ?_;refine zV 1 s ?_;refine zV 3 s ?_;refine zV 6 s ?_;refine zV 9 s ?_;refine zV 2 s ?_;refine zV 4 s ?_;refine zV 5 s ?_;refine zV 7 s ?_;refine zV 8 s ?_;refine zN 10 s (rJ _ _ _ _ _ 4 400 (He.o.ext s) (Hx.o.ext s)) λr1 xZ cD bJ x s=> ?_;clear x bJ;refine zN 11 s (rI _ _ _ _ _ (1+406*i) 405 (Hs.o.ext s) cD.o (dB Sg.o)) λr2 N7 dL bJ x s=> ?_;clear x bJ;have kW:=af (dK.o.next s);have f3:=λi=>kW.o.frozen i;refine zL 12 λK' hK=> ?_;rw [if_pos bQ];go_simp;refine hK.o _ _ ?_;clear hK K' f3;have mJ:=af (((kW.o.put dL.o).mono (show _<=1+406*(i+1) by omega)).congr (VL _ _ _ i));unfold mK at mJ;clear s;generalize World.setCell _ _ _=W9 at mJ⊢;go_wp2
     exact ⟨⟨i+1,hlt,bq,mJ.o⟩,bz⟩
    .obtain rfl:i=c.ar.length:=ae
     clear hlt hi;have s:=Ext.refl wr;go_wp2
     go_meet
     exact HI.o
 case rest=>
  have dK:=af hcut;generalize wc=W9 at*;clear HI K1 s hcut;have HI:=dK;clear dK;replace HI:Hid (eA w6 E ((-(oA p k (mj c S k (-1)) c.ar.length))-nO c S p k 0) (13000+26000*0) W9):=(HI.o.mono (dB Sg.o)).congr (by show _=_-(0:Rat);grind);have s:=Ext.refl W9;have K1: ∀Y,Ext W9 Y->_:=λY e=>((iU.o.ext HI.o.ext).ext e).cs;replace K1:=gO K1
  go_upto_block 2 with fail
  go_cut [] (λwx=>eA w6 E ((-(oA p k (mj c S k (-1)) c.ar.length))-nO c S p k p.moves.length) (13000+26000*p.moves.length) wx)
  case first=>
   as_aux_lemma=>
    go_wp2
    go_loopw [78] (λii wr=> ∃i:Nat,i<=p.moves.length/\ii= .int .i64 i/\eA w6 E ((-(oA p k (mj c S k (-1)) c.ar.length))-nO c S p k i) (13000+26000*i) wr) (λii _=>p.moves.length-(intOf ii).toNat)
    case atStart=>exact ⟨0,bm,rfl,HI.o⟩
    case round=>
     clear HI K1 s;obtain ⟨i,hi,rfl,hI⟩:=hrel;have HI:=af hI;clear hI;by_cases hlt:i<p.moves.length
     .have b1:(i:Int)<(p.moves.length:Int):=Int.ofNat_lt.2 hlt
      have b0:(0:Int)<=(i:Int):=Int.natCast_nonneg i;obtain ⟨b,o,x,ha,hx,K2⟩:=(HP.o.moves.ext (HB.o.trans HI.o.ext)).pick i hlt;have YO:=af ((HP.o.ext HB.o).move x (by rw [hx.o];exact List.getElem_mem hlt)).2.2;have Tu:Hid (Gf c x):=by show _;rw [hx.o];exact (td.o.moves i hlt hlt).1
      have H5:=af (JF (c:=c) (S:=S) (h:=k) hlt);rw [<-hx.o]at H5;obtain ⟨xh,xo,xb⟩:=x;replace K2:=jo K2;have Nv:Hid (xb.l.length=c.ar.length):=Tu.o.fc;have BV:=af hlt;rw [ha];clear ha hx;have s:=Ext.refl wr;go_upto_region 18 with(refine aT rfl 55 _ _ rfl _ (oK.mk xh xo xb).cells rfl rfl aw rfl rfl ?_)
      generalize hW2:World.alloc wr _=W2;obtain ⟨D2,Cf,x2,A2⟩:=aI hW2;rw [<-Cf];try simp only [Act.put]
      have HD:=af A2;have HED:Hid (D2≠E):=by have:=HI.o.lt;show _≠_;omega
      replace HI:=af (HI.o.next x2);clear A2 x2 Cf hW2 K2 s;have s:=Ext.refl W2;have KB: ∀Y,Ext W2 Y->_:=λY e=>(HD.o.ext e).cs;replace KB:=gO KB;by_cases q:xh=(k:Int)
      case neg=>
       have t1:(xh !=(k:Int))=true:=by simpa using q
       have AL:Hid (nO c S p k (i+1)=nO c S p k i):=by
        show _=_;rw [H5.o,Lg,if_neg q,Rat.add_zero]
       have HN:=af (HI.o.congr (q':=(-(oA p k (mj c S k (-1)) c.ar.length))-nO c S p k (i+1)) (by rw [AL.o]));clear q;go_wp2
       exact ⟨⟨i+1,hlt,bq,HN.o.mono ae⟩,bz⟩
      have t1:(xh !=(k:Int))=false:=by simpa using q
      have AL:Hid (nO c S p k (i+1)=nO c S p k i+AK c S k ⟨xh,xo,xb⟩ c.ar.length):=by
       show _=_;rw [H5.o,Lg,if_pos q]
      have HPO:Hid (GF c S k xo=0):=Eh Tz.o ⟨ND.o,.inr (by have:=Tu.o.jO;simp only at this;rw [q]at this;exact this)⟩;subst q;clear H5;have K:=λY (e:Ext W2 Y)=>aq.at ((dY.o.ext HI.o.ext).ext e);have K1:=λY (e:Ext W2 Y)=>((gH.o.ext HI.o.ext).ext e).cs;replace K1:=gO K1;go_wp2_with fail
      refine (Hz.o W2 (HB.o.trans HI.o.ext) xo).mono ?_;rintro e w8 hr;rw [Jt,HPO.o]at hr;rcases hr with⟨-,X2,rfl,BU,Qk,x8⟩|⟨hz,-⟩
      case inr=>exact absurd rfl hz
      rw [Int.toNat_natCast]at BU;have zZ:Hid (X2≠E/\D2≠E):=by have:=HI.o.lt;have:=HED.o;show _/\_;omega
      have HJ:Hid (eA w6 E (((-(oA p k (mj c S k (-1)) c.ar.length))-nO c S p k i)-AK c S k ⟨(k:Int),xo,xb⟩ 0) (13000+26000*i+807*0) w8/\QA w8 X2 c.ar.length (mj c S k xo) 400/\aY w8 D2 55 (oK.mk (k:Int) xo xb).cells):=⟨(HI.o.next x8).congr (by show _=_-(0:Rat);grind),BU,HD.o.ext x8⟩;clear BU Qk x8 HI HD HED KB s K K1;have s:=Ext.refl w8;go_wp2
      go_loopw [103] (λii wr=> ∃j:Nat,j<=c.ar.length/\ii= .int .i64 j/\eA w6 E (((-(oA p k (mj c S k (-1)) c.ar.length))-nO c S p k i)-AK c S k ⟨(k:Int),xo,xb⟩ j) (13000+26000*i+807*j) wr/\QA wr X2 c.ar.length (mj c S k xo) 400/\aY wr D2 55 (oK.mk (k:Int) xo xb).cells) (λii _=>c.ar.length-(intOf ii).toNat)
      case atStart=>exact ⟨0,bm,rfl,HJ.o⟩
      case round=>
       clear HJ s;obtain ⟨j,hj,rfl,hJ⟩:=hrel;have HJ:=af hJ;clear hJ;by_cases mr:j<c.ar.length
       .have b1:(j:Int)<(c.ar.length:Int):=Int.ofNat_lt.2 mr
        have b0:(0:Int)<=(j:Int):=Int.natCast_nonneg j;obtain ⟨rx,Hx,KX⟩:=HJ.o.2.1.get j mr;have s:=Ext.refl wr;go_upto_region 25 with(refine aT rfl 63 _ _ rfl _ [.bool rx.s,.slice rx.a rx.k rx.c,.slice rx.b rx.j rx.d] rfl rfl aw rfl rfl ?_)
        generalize hW2:World.alloc wr _=W2;obtain ⟨B2,TH,x2,A2⟩:=aI hW2;rw [<-TH];try simp only [Act.put]
        have dK:=af (HJ.o.1.next x2);have CZ:=af (HJ.o.2.1.ext x2);have yf:=af (HJ.o.2.2.ext x2);have KB: ∀Y,Ext W2 Y->_:=λY e=>(A2.ext e).cs;replace KB:=gO KB;replace Hx:=af (Hx.o.ext x2);clear A2 x2 TH hW2 s HJ KX;obtain ⟨rs,Hs,KS⟩:=dK.o.get;obtain ⟨ri,Hi,KI⟩:=(HQ.o.ext dK.o.ext).get j mr;obtain ⟨b5,o5,re,He,Nz,Ke⟩:=jP (j:=2) yf.o (YO.o.ext dK.o.ext) rfl j (by rw [Nv.o];exact mr);refine zG 14 (λw=>Ext W2 w) ((Ext.refl W2).drew) λs=> ?_;generalize W2.drew=Y at*;refine zV 0 s ?_;refine zV 1 s ?_;refine zV 3 s ?_;refine zV 6 s ?_;refine zV 7 s ?_;refine zV 8 s ?_;refine zV 2 s ?_;refine zV 9 s ?_;refine zV 4 s ?_;refine zV 10 s ?_;refine zV 5 s ?_;refine zN 11 s (rI _ _ _ _ _ 400 400 (Hx.o.ext s) (Hi.o.ext s)) λr1 N7 cD bJ x s=> ?_;clear x bJ;refine zN 12 s (rJ _ _ _ _ _ 4 801 (He.o.ext s) cD.o) λr2 Qx dL bJ x s=> ?_;clear x bJ;refine zN 13 s (rI _ _ _ _ _ (13000+26000*i+807*j) 806 (Hs.o.ext s) dL.o (aO3 Sg.o HM.o BV.o)) λr3 Vy iH bJ x s=> ?_;clear x bJ;have kW:=af (dK.o.next s);have f3:=λi=>kW.o.frozen i;refine zL 14 λK' hK=> ?_;rw [if_pos bQ];go_simp;refine hK.o _ _ ?_;clear hK K' f3;have mJ:=af (((kW.o.put iH.o).mono (show _<=13000+26000*i+807*(j+1) by omega)).congr (VM c S k ⟨(k:Int),xo,xb⟩ _ j))
        have Tk:Hid (QA (mK Vy E r3) X2 c.ar.length (mj c S k xo) 400):=by
             obtain ⟨r9,h9⟩:=kW.o.arr;exact (CZ.o.ext s).vu h9 (cF _ _ _) zZ.o.1
        have VH:=af ((yf.o.ext s).gw (cF _ _ r3) zZ.o.2);unfold mK at Tk VH;unfold mK at mJ;clear s;generalize World.setCell _ _ _=W9 at mJ Tk VH⊢;go_wp2
        exact ⟨⟨j+1,mr,bq,mJ.o,Tk.o,VH.o⟩,bz⟩
       .obtain rfl:j=c.ar.length:=ae
        clear mr hj;have s:=Ext.refl wr;have HN:=af (HJ.o.1.congr (q':=(-(oA p k (mj c S k (-1)) c.ar.length))-nO c S p k (i+1)) (by rw [AL.o];grind));have HL9:Hid (13000+26000*i+807*c.ar.length<=13000+26000*(i+1)):=by have:=Sg.o;show _<=_;omega
        go_wp2
        exact ⟨⟨i+1,hlt,bq,HN.o.mono HL9.o⟩,bz⟩
     .obtain rfl:i=p.moves.length:=ae
      clear hlt hi;have s:=Ext.refl wr;go_wp2
      go_meet
      exact HI.o
  case rest=>
   have dK:=af hcut;generalize wc=EH at*;clear HI K1 s hcut;obtain ⟨rs,Hs,KS⟩:=dK.o.get;have s:=Ext.refl EH;have py:=yC.o.ext dK.o.ext;go_wp2_with (refine cA rfl 63 _ _ rfl Z [.bool false,.slice none 0 0,.slice none 0 0] [.bool rs.s,.slice rs.a rs.k rs.c,.slice rs.b rs.j rs.d] py rfl rfl aw rfl rfl ?_;intro W11 Pz tW)
   refine bodyPost_ret (v:= .tuple #[.agg #[.bool rs.s,.slice rs.a rs.k rs.c,.slice rs.b rs.j rs.d],i64 0]) (jE 8 9 _ rfl rfl rfl Pz underlying63 rfl aw) rfl ?_;exact ⟨rs,_,by rw [HZ.o],((Hs.o.vu (r0:=⟨false,none,0,0,none,0,0⟩) py tW)).mono (dB HM.o),λ_=>rfl,λq=>absurd HZ.o q,tW.ext (HB.o.trans dK.o.ext) nW.o⟩
