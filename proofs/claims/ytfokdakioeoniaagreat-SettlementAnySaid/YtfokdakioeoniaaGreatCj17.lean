/- Texts of the proof. -/
import Derived.Test.YtfokdakioeoniaaGreatRows
import Derived.Test.YtfokdakioeoniaaGreatChecked
import Derived.Test.YtfokdakioeoniaaGreatCj16
set_option linter.all false
set_option maxHeartbeats 20000000
set_option maxRecDepth 100000
namespace Go.Proofs.YtfokdakioeoniaaGreat
open Go.Proofs.Tryz
open Go.RowKit
theorem FH (w:World) (s:Bool) (a b:Option Addr) (k c j d:Nat) (s':Bool) (a' b':Option Addr) (k' c' j' d':Nat) (s1 sR:Bool) (n1 m1 nR dR:Nat) (hN: ∀V,Ext w V->Calls prog 56 #[.agg #[.bool s',.slice a' k' c',.slice b' j' d']] V (dG s1 n1 m1 V)) (hA: ∀V a1 c1 b1 d1,Ext w V->Raw V a1 (len n1) c1 n1->Raw V b1 (len m1) d1 m1->Calls prog 57 #[.agg #[.bool s,.slice a k c,.slice b j d],.agg #[.bool s1,.slice a1 (len n1) c1,.slice b1 (len m1) d1]] V (dG sR nR dR V)):
 Calls prog 49 #[.agg #[.bool s,.slice a k c,.slice b j d],.agg #[.bool s',.slice a' k' c',.slice b' j' d']] w (dG sR nR dR w):=by
 have HN:=af hN;have HA:=af hA;clear hN hA
 have SU:=Tryz.rat_num;have SS:=Tryz.rat_den;go_enter func49,ntmps49
 go_wp2_with fail
 obtain ⟨W,hW,x0,Z0,A0,A1,A2⟩:=et w 63 [.bool s,.slice a k c,.slice b j d] 63 [.bool s',.slice a' k' c',.slice b' j' d'] 63 [.bool false,.slice none 0 0,.slice none 0 0];rw [<-hW];clear hW;obtain ⟨z0,z1,z2,⟨aD,aF,bn,aM,aN,bG⟩,⟨aJ,aK,bM,aR,aS,bT⟩,aZ,a_,bW,bA,bB,cf⟩:=bb3 aA aA aA A0 A1 A2 ah
 go_region_held3 (λw'=>w'.cell? ⟨w.heap.size,0,none⟩=some (.bool s)/\w'.cell? ⟨w.heap.size,1,none⟩=some (.slice a k c)/\w'.cell? ⟨w.heap.size,2,none⟩=some (.slice b j d)/\w'.cell? ⟨w.heap.size+1,0,none⟩=some (.bool s')/\w'.cell? ⟨w.heap.size+1,1,none⟩=some (.slice a' k' c')/\w'.cell? ⟨w.heap.size+1,2,none⟩=some (.slice b' j' d')) (first|exact ⟨aD,aF,bn,aJ,aK,bM⟩|(simp [go_sem,aD,aF,bn,aJ,aK,bM])) (first
  |(go_at_call 56;refine (HN.o _ (by exact x0.trans (ah.drew))).mono ?_;rintro e w1 ⟨a1,c1,b1,d1,rfl,r1,f1,q1,g1,x1⟩;obtain ⟨z0,z1,z2,⟨aD,aF,bn,aM,aN,bG⟩,⟨aJ,aK,bM,aR,aS,bT⟩,aZ,a_,bW,bA,bB,cf⟩:=bb3 aA aA aA A0 A1 A2 ((ah.drew).trans x1))
  |(go_at_call 57;refine (HA.o _ _ _ _ _ (by exact x0.trans ((ah.drew).trans x1)) r1 q1).mono ?_;intro e w2 kd;obtain ⟨a2,c2,b2,d2,rfl,r2,f2,q2,g2,x2⟩:=id kd;obtain ⟨z0,z1,z2,⟨aD,aF,bn,aM,aN,bG⟩,⟨aJ,aK,bM,aR,aS,bT⟩,aZ,a_,bW,bA,bB,cf⟩:=bb3 aA aA aA A0 A1 A2 (((ah.drew).trans x1).trans x2)))
 go_wp2
 exact bodyPost_ret (by simp [results,results49,go_sem,aZ,a_,bW]) rfl (dG.bH (kd.base x1) x0.drew (Touch.three _ ae (by rw [World.drew,Z0.o];omega) _ _ _))
theorem yi (w:World) (s:Bool) (a b:Option Addr) (k c j d:Nat) (s':Bool) (a' b':Option Addr) (k' c' j' d':Nat) (s1:Bool) (n1 m1:Nat) (z:Int) (hN: ∀V,Ext w V->Calls prog 49 #[.agg #[.bool s,.slice a k c,.slice b j d],.agg #[.bool s',.slice a' k' c',.slice b' j' d']] V (dG s1 n1 m1 V)) (hA: ∀V a1 c1 b1 d1,Ext w V->Raw V a1 (len n1) c1 n1->Raw V b1 (len m1) d1 m1->Calls prog 21 #[.agg #[.bool s1,.slice a1 (len n1) c1,.slice b1 (len m1) d1]] V λe w'=>e= .returned (.int .i64 z)/\Ext V w'):
 Calls prog 20 #[.agg #[.bool s,.slice a k c,.slice b j d],.agg #[.bool s',.slice a' k' c',.slice b' j' d']] w (λe w'=>e= .returned (.int .i64 z)/\Ext w w'):=by
 have HN:=af hN;have HA:=af hA;clear hN hA
 have SU:=Tryz.rat_num;have SS:=Tryz.rat_den;go_enter func20,ntmps20
 go_wp2_with fail
 obtain ⟨W,hW,x0,Z0,A0,A1⟩:=dV w 63 [.bool s,.slice a k c,.slice b j d] 63 [.bool s',.slice a' k' c',.slice b' j' d'];rw [<-hW];clear hW;obtain ⟨z0,z1,⟨aD,aF,bn,aM,aN,bG⟩,aJ,aK,bM,aR,aS,bT⟩:=bb2 aA aA A0 A1 ah;refine (HN.o _ x0).mono ?_;rintro e w1 ⟨a1,c1,b1,d1,rfl,r1,f1,q1,g1,x1⟩;go_wp2_with fail
 refine (HA.o _ _ _ _ _ (x0.trans x1) r1 q1).mono ?_;rintro e w2 ⟨rfl,x2⟩;go_wp2
 go_ret;exact ⟨rfl,(x0.trans x1).trans x2⟩
theorem Dw (w:World) (s:Bool) (a b:Option Addr) (k c j d:Nat) (s':Bool) (a' b':Option Addr) (k' c' j' d':Nat) (sR:Bool) (nR dR:Nat) (hN: ∀V,Ext w V->Calls prog 152 #[.agg #[.bool s,.slice a k c,.slice b j d],.agg #[.bool s',.slice a' k' c',.slice b' j' d']] V (yD sR nR dR V)):
 Calls prog 75 #[.agg #[.bool s,.slice a k c,.slice b j d],.agg #[.bool s',.slice a' k' c',.slice b' j' d']] w (dG sR nR dR w):=by
 have HN:=af hN;clear hN
 have SU:=Tryz.rat_num;have SS:=Tryz.rat_den;go_enter func75,ntmps75
 go_wp2_with fail
 obtain ⟨W,hW,x0,Z0,A0,A1,A2⟩:=et w 63 [.bool s,.slice a k c,.slice b j d] 63 [.bool s',.slice a' k' c',.slice b' j' d'] 63 [.bool false,.slice none 0 0,.slice none 0 0];rw [<-hW];clear hW;obtain ⟨z0,z1,z2,⟨aD,aF,bn,aM,aN,bG⟩,⟨aJ,aK,bM,aR,aS,bT⟩,aZ,a_,bW,bA,bB,cf⟩:=bb3 aA aA aA A0 A1 A2 ah;refine (HN.o _ x0).mono ?_;rintro e w1 ⟨a1,c1,b1,d1,rfl,r1,f1,q1,g1,x1⟩;go_upto_region 2 with fail
 obtain ⟨W2,hW2,y2,ZZ2,P0⟩:=bS w1 63 [.bool sR,.slice a1 (len nR) c1,.slice b1 (len dR) d1];rw [<-hW2];clear hW2;have g2:Ext W W2:=x1.trans y2;obtain ⟨z0,z1,z2,⟨aD,aF,bn,aM,aN,bG⟩,⟨aJ,aK,bM,aR,aS,bT⟩,aZ,a_,bW,bA,bB,cf⟩:=bb3 aA aA aA A0 A1 A2 g2;have p0:=aA P0 ah;go_wp2_with fail
 have fin:dG sR nR dR W (.returned (.agg #[.bool sR,.slice a1 (len nR) c1,.slice b1 (len dR) d1])) W2:=⟨_,_,_,_,rfl,r1.ext y2,f1,q1.ext y2,g1,g2⟩;exact bodyPost_ret (by simp [results,results75,go_sem,aZ,a_,bW]) rfl (dG.bH fin x0 (Touch.three _ ae (by rw [Z0.o];omega) _ _ _))
theorem Oj (p q:Rat):(p-q).num.sign=fY p q:=by
 rcases Iw p q with h|h|h
 .have h1:p<q:=J_.1 ae
  have h2:p-q<0:=by
   rw [Rat.lt_iff_sub_pos]at h1⊢;have e:0-(p-q)=q-p:=by grind
   rw [e];exact h1
  have h3:(p-q).num<0:=by
   apply Int.lt_of_not_ge;intro h4;exact absurd (Rat.num_nonneg.1 h4) (Rat.not_le.2 h2)
  rw [h,Int.sign_eq_neg_one_of_neg h3]
 .have h1:p=q:=r_.1 h
  rw [h,h1,Rat.sub_self];rfl
 .have h1:q<p:=uL.1 ae
  rw [Rat.lt_iff_sub_pos]at h1
  have h3:0<(p-q).num:=by
   have h4:0<=(p-q).num:=Rat.num_nonneg.2 (Rat.le_of_lt h1)
   have h5:(p-q).num≠0:=λe=>by
    rw [Rat.num_eq_zero.1 e]at h1;exact absurd h1 (Rat.lt_irrefl)
   omega
  rw [h,Int.sign_eq_one_of_pos h3]
theorem IK (w:World) (s:Bool) (a b:Option Addr) (k c j d n m:Nat) (h:Raw w a k c n) (g:Raw w b j d m) (s':Bool) (a' b':Option Addr) (k' c' j' d' n' m':Nat) (h':Raw w a' k' c' n') (g':Raw w b' j' d' m') (b1:k<200000000) (b2:j<200000000) (rZ:k'<200000000) (rW:j'<200000000):Calls prog 49 #[.agg #[.bool s,.slice a k c,.slice b j d],.agg #[.bool s',.slice a' k' c',.slice b' j' d']] w (bD (mkRat (bf s n) m-mkRat (bf s' n') m') w):=by
 obtain ⟨l3,l4⟩:=kG s' n' m' h'.cg g'.cg rZ rW;have hN:=λV (hV:Ext w V)=>(II V s' a' b' k' c' j' d' n' m' (h'.ext hV) (g'.ext hV) rZ rW).mono (λ_ _ hh=>hh.mO);generalize mkRat (bf s' n') m'=Q at*;refine (FH w s a b k c j d s' a' b' k' c' j' d' _ _ _ _ _ _ hN ?_).mono (λ_ _ hh=>hh.qP);intro V a1 c1 rZ d1 hV hR IE;have:=IJ V s a b k c j d n m (h.ext hV) (g.ext hV) (decide ((-Q).num<0)) a1 rZ _ c1 _ d1 _ _ hR IE b1 b2 (by rw [Rat.neg_num,Int.natAbs_neg];omega) (by rw [Rat.neg_den];omega);rw [df,Rat.mkRat_self,<-Rat.sub_eq_add_neg]at this;exact this
theorem pL (w:World) (s:Bool) (a b:Option Addr) (k c j d n m:Nat) (h:Raw w a k c n) (g:Raw w b j d m) (s':Bool) (a' b':Option Addr) (k' c' j' d' n' m':Nat) (h':Raw w a' k' c' n') (g':Raw w b' j' d' m') (b1:k<60000000) (b2:j<60000000) (rZ:k'<60000000) (rW:j'<60000000):Calls prog 20 #[.agg #[.bool s,.slice a k c,.slice b j d],.agg #[.bool s',.slice a' k' c',.slice b' j' d']] w λe w'=>e= .returned (.int .i64 (fY (mkRat (bf s n) m) (mkRat (bf s' n') m')))/\Ext w w':=by
 have hN:=λV (hV:Ext w V)=>(IK V s a b k c j d n m (h.ext hV) (g.ext hV) s' a' b' k' c' j' d' n' m' (h'.ext hV) (g'.ext hV) ae ae ae ae).mono (λ_ _ hh=>hh.mO)
 have hl:dW (mkRat (bf s n) m-mkRat (bf s' n') m')<150000000:=by
  have h1:=kn (bf s n) m;have h2:=kn (bf s' n') m';rw [bL]at h1 h2;have h3:=od (mkRat (bf s n) m) (mkRat (bf s' n') m');have h4:=h.cg;have h5:=g.cg;have h6:=h'.cg;have h7:=g'.cg;omega
 rw [<-Oj];generalize mkRat (bf s n) m-mkRat (bf s' n') m'=D at*;have BS:=iN D;have hl2:=iw D;refine yi w s a b k c j d s' a' b' k' c' j' d' _ _ _ _ hN ?_;intro V a1 c1 rZ d1 hV hR IE;have:=uQ V (decide (D.num<0)) a1 rZ _ c1 _ d1 _ _ hR IE ae ae;rw [df,Rat.mkRat_self]at this;exact this
theorem Q6 (w:World) (s:Bool) (a b:Option Addr) (k c j d n m:Nat) (h:Raw w a k c n) (g:Raw w b j d m) (s':Bool) (a' b':Option Addr) (k' c' j' d' n' m':Nat) (h':Raw w a' k' c' n') (g':Raw w b' j' d' m') (b1:k<200000000) (b2:j<200000000) (rZ:k'<200000000) (rW:j'<200000000) (h0: ¬mkRat (bf s' n') m'=0):Calls prog 75 #[.agg #[.bool s,.slice a k c,.slice b j d],.agg #[.bool s',.slice a' k' c',.slice b' j' d']] w (bD (mkRat (bf s n) m/mkRat (bf s' n') m') w):=
 (Dw w s a b k c j d s' a' b' k' c' j' d' _ _ _ (λV (hV:Ext w V)=>UG V s a b k c j d n m (h.ext hV) (g.ext hV) s' a' b' k' c' j' d' n' m' (h'.ext hV) (g'.ext hV) b1 b2 rZ rW h0)).mono (λ_ _ hh=>hh.qP)
theorem nt {w:World} {b:Nat} {T:TypeId} {l:List Int} (h:aY w b T (ju l)):oD w (some ⟨b,0,none⟩) l:=
 ⟨b,0,rfl,λi hi=>by rw [h.cell,Nat.zero_add];exact kB l i hi⟩
def xi (r:bE) (row:Option Nat):Prop:=(0<r.k-> ∀x,r.a=some x->some x.block≠row)/\(0<r.j-> ∀x,r.b=some x->some x.block≠row)
structure gG (w wr:World) (v:Value) (rs:List bE) (qs:List Rat) (L:Nat):Prop where
 len:qs.length=rs.length
 own:wr.ownsRow w.heap.size 63 3 v rs.length (bX rs)
 num: ∀k (hk:k<rs.length),fI wr rs[k] (qs[k]'(by omega)) L
 off: ∀k (hk:k<rs.length),xi rs[k] v.ownBlock
 ext:Ext w wr
theorem gG.start {w wr:World} (h:Ext w wr) (L:Nat):gG w wr (.slice none 0 0) [] [] L:=
 ⟨rfl,⟨rfl,.inl ⟨rfl,rfl⟩⟩,λ_k hk=>absurd hk (Nat.not_lt_zero _),λ_k hk=>absurd hk (Nat.not_lt_zero _),h⟩
theorem gG.LP {w wr:World} {v:Value} {rs:List bE} {qs:List Rat} {L:Nat} (h:gG w wr v rs qs L) (hs:rs.length<=1000000): ∃a c,v= .slice a rs.length c/\jV wr a c rs qs L:=by
 obtain ⟨h1,h2⟩:=h.own;have hl:=h.len;rcases h2 with⟨rfl,h0⟩|⟨g,cap,cur,rfl,hb,hg,hn,eI,hcs,zg⟩
 .refine ⟨none,0,by rw [h0],hl,ae,ae,ae,λi hi=>ae,h.num⟩
 .refine ⟨some ⟨g,0,none⟩,cap,rfl,hl,ae,by unfold maxLen at eI;omega,ae,?_,h.num⟩
  intro i hi
  have hc: ∀k,k<3->wr.cell? ⟨g,0+i*3+k,none⟩=(rs[i].cells)[k]?:=by
   intro k hk;have h3:(cur.toList.take (rs.length*3))[i*3+k]?=(bX rs)[i*3+k]?:=by rw [zg]
   rw [dz rs i k hi hk,List.getElem?_take,if_pos ae]at h3;simp only [World.cell?,hg];rw [Nat.zero_add];simpa using h3
  exact ⟨g,0,rfl,hc 0 ae,hc 1 ae,hc 2 ae⟩
open Go.ChangeShapes Go.WideShapes Go.ChangeAt
theorem Tryz.own:ownKnob Tryz.prog.godebug=none:=aw
theorem LQ {w:World} {b:Nat} {p:Addr} {x v0 v1:Value} (h:w.cell? p=some x) (hb:p.block≠b):((w.setCell ⟨b,0,none⟩ v0).setCell ⟨b,1,none⟩ v1).cell? p=some x:=by
 rw [World.cell?_setCell_other _ _ _ _ (by intro e;exact hb (by rw [<-e])),World.cell?_setCell_other _ _ _ _ (by intro e;exact hb (by rw [<-e])),h]
def Ol (s:Bool) (n:Nat) (s':Bool) (n':Nat) (w:World) (e:Ending) (w':World):Prop:= ∃a c a' c',e= .returned (.tuple #[.agg #[.bool s,.slice a (len n) c],.agg #[.bool s',.slice a' (len n') c'],.bool true])/\Raw w' a (len n) c n/\Fr w.heap.size a/\Raw w' a' (len n') c' n'/\Fr w.heap.size a'/\Ext w w'
theorem Bu (w:World) (s:Bool) (a b:Option Addr) (k c j d:Nat) (sP sq sr:Bool) (nP dP nq nr:Nat) (hN: ∀V,Ext w V->Calls prog 51 #[.agg #[.bool s,.slice a k c,.slice b j d]] V (dG sP nP dP V)) (hD: ∀V,Ext w V->Calls prog 130 #[.agg #[.bool s,.slice a k c,.slice b j d]] V (eJ false dP V)) (hV: ∀V a c b d,Raw V a (len nP) c nP->Raw V b (len dP) d dP->Calls prog 83 #[.agg #[.bool sP,.slice a (len nP) c],.agg #[.bool false,.slice b (len dP) d]] V (Ol sq nq sr nr V)):
 Calls prog 156 #[.agg #[.bool s,.slice a k c,.slice b j d]] w (eJ sq nq w):=by
 have HN:=af hN;have HD:=af hD;have HV:=af hV;clear hN hD hV
 have SU:=Tryz.rat_num;have SS:=Tryz.rat_den;go_enter func156,ntmps156
 go_wp2_with fail
 obtain ⟨W,hW,x0,Z0,A0,A1⟩:=dV w 63 [.bool s,.slice a k c,.slice b j d] 61 [.bool false,.slice none 0 0];rw [<-hW];clear hW;obtain ⟨z0,z1,⟨aD,aF,bn,aM,aN,bG⟩,aJ,aK,aR,aS⟩:=bb2 aA aC A0 A1 ah;have sW0:w.heap.size<W.heap.size:=by rw [Z0.o];omega
 clear aM aN bG aR aS aJ aK z1;go_cut [3] (λs3 wx=> ∃(g3:Nat) (a3:Option Addr) (c3:Nat),s3= .pointer (some ⟨g3,0,none⟩)/\W.heap.size<=g3/\Hid (aY wx g3 61 [.bool sq,.slice a3 (len nq) c3])/\Raw wx a3 (len nq) c3 nq/\Fr W.heap.size a3/\Ext W wx)
 case first=>
  go_region_held3 (λw'=>w'.cell? ⟨w.heap.size,0,none⟩=some (.bool s)/\w'.cell? ⟨w.heap.size,1,none⟩=some (.slice a k c)/\w'.cell? ⟨w.heap.size,2,none⟩=some (.slice b j d)) (first|with_reducible exact ⟨aD,aF,bn⟩|(refine ⟨?_,?_,?_⟩<;>(repeat(with_reducible first|exact aD|exact aF|exact bn|refine ub ?_|refine xg ?_|(refine LQ ?_ ?_;rotate_left;(·simp only;omega)))))) (first
   |(go_at_call 51;(with_reducible refine (HN.o _ (by refine x0.trans ?_;repeat(with_reducible first|exact ah|refine Ext.drew ?_|refine Ext.alloc ?_ _))).mono ?_);rintro e w1 ⟨a1,c1,b1,d1,rfl,r1,f1,q1,g1,x1⟩;have v1:Ext W w1:=(by refine Ext.trans ?_ x1;repeat(with_reducible first|exact ah|refine Ext.drew ?_|refine Ext.alloc ?_ _));clear aD aF bn;obtain ⟨z0,aD,aF,bn,-,-,-⟩:=bb1 aA A0 v1;(first|(have y1:Ext ((W.alloc (.cells #[.bool false,.slice none 0 0] 61)).alloc (.cells #[.bool false,.slice none 0 0] 61)) w1:=(by with_reducible exact Ext.trans (Ext.drew ah) x1);have LR:aY w1 (W.heap.size+1) 61 [.bool false,.slice none 0 0]:=(aY.qV W (.cells #[.bool false,.slice none 0 0] 61) 61 [.bool false,.slice none 0 0]).ext y1;have Hr:aY w1 W.heap.size 61 [.bool false,.slice none 0 0]:=((aY.alloc W 61 [.bool false,.slice none 0 0]).ext (ah.alloc (.cells #[.bool false,.slice none 0 0] 61))).ext y1;have UH:=aC Hr ah;have UI:=Hr.lt;have XM:=aC LR ah;have XN:=LR.lt;clear y1)|(have y1:Ext (W.alloc (.cells #[.bool false,.slice none 0 0] 61)) w1:=(by with_reducible exact Ext.trans (Ext.drew ah) x1);have Hr:aY w1 W.heap.size 61 [.bool false,.slice none 0 0]:=(aY.alloc W 61 [.bool false,.slice none 0 0]).ext y1;have UH:=aC Hr ah;have UI:=Hr.lt;clear y1)|skip))
   |(go_at_call 130;(with_reducible refine (HD.o _ (by refine x0.trans ?_;repeat(with_reducible first|exact v1|refine Ext.drew ?_|refine Ext.alloc ?_ _))).mono ?_);rintro e w2 ⟨a2,c2,rfl,r2,f2,x2⟩;have v2:Ext W w2:=(by refine Ext.trans ?_ x2;repeat(with_reducible first|exact v1|refine Ext.drew ?_|refine Ext.alloc ?_ _));have Z_:Ext w1 w2:=(by refine Ext.trans ?_ x2;repeat(with_reducible first|exact ah|refine Ext.drew ?_|refine Ext.alloc ?_ _));clear aD aF bn;obtain ⟨z0,aD,aF,bn,-,-,-⟩:=bb1 aA A0 v2;have r1:=r1.ext Z_;(first|(have Hr:=Hr.ext Z_;have UH:=aC Hr ah;have UI:=Hr.lt)|skip);(first|(have LR:=LR.ext Z_;have XM:=aC LR ah;have XN:=LR.lt)|skip);(first|(have y1:Ext ((w1.alloc (.cells #[.bool false,.slice none 0 0] 61)).alloc (.cells #[.bool false,.slice none 0 0] 61)) w2:=(by with_reducible exact x2);have Q8:aY w2 (w1.heap.size+1) 61 [.bool false,.slice none 0 0]:=(aY.qV w1 (.cells #[.bool false,.slice none 0 0] 61) 61 [.bool false,.slice none 0 0]).ext y1;have Ns:aY w2 w1.heap.size 61 [.bool false,.slice none 0 0]:=((aY.alloc w1 61 [.bool false,.slice none 0 0]).ext (ah.alloc (.cells #[.bool false,.slice none 0 0] 61))).ext y1;have XO:=aC Ns ah;have XP:=Ns.lt;have abQ:=aC Q8 ah;have abR:=Q8.lt;clear y1)|(have y1:Ext (w1.alloc (.cells #[.bool false,.slice none 0 0] 61)) w2:=(by with_reducible exact x2);have Ns:aY w2 w1.heap.size 61 [.bool false,.slice none 0 0]:=(aY.alloc w1 61 [.bool false,.slice none 0 0]).ext y1;have XO:=aC Ns ah;have XP:=Ns.lt;clear y1)|skip))
   |(go_at_call 83;(with_reducible refine (HV.o _ _ _ _ _ (by repeat(with_reducible first|exact r1|refine Raw.alloc' ?_ _)) (by repeat(with_reducible first|exact r2|refine Raw.alloc' ?_ _))).mono ?_);rintro e w3 ⟨a3,c3,a4,c4,rfl,r3,f3,r4,f4,x3⟩;have v3:Ext W w3:=(by refine Ext.trans ?_ x3;repeat(with_reducible first|exact v2|refine Ext.drew ?_|refine Ext.alloc ?_ _));have XQ:Ext w2 w3:=(by refine Ext.trans ?_ x3;repeat(with_reducible first|exact ah|refine Ext.drew ?_|refine Ext.alloc ?_ _));clear aD aF bn;obtain ⟨z0,aD,aF,bn,-,-,-⟩:=bb1 aA A0 v3;(first|(have Hr:=Hr.ext XQ;have UH:=aC Hr ah;have UI:=Hr.lt)|skip);(first|(have LR:=LR.ext XQ;have XM:=aC LR ah;have XN:=LR.lt)|skip);(first|(have Ns:=Ns.ext XQ;have XO:=aC Ns ah;have XP:=Ns.lt)|skip);(first|(have Q8:=Q8.ext XQ;have abQ:=aC Q8 ah;have abR:=Q8.lt)|skip);(first|(have y1:Ext ((w2.alloc (.cells #[.bool false,.slice none 0 0] 61)).alloc (.cells #[.bool false,.slice none 0 0] 61)) w3:=(by with_reducible exact x3);have XR:aY w3 (w2.heap.size+1) 61 [.bool false,.slice none 0 0]:=(aY.qV w2 (.cells #[.bool false,.slice none 0 0] 61) 61 [.bool false,.slice none 0 0]).ext y1;have S0:aY w3 w2.heap.size 61 [.bool false,.slice none 0 0]:=((aY.alloc w2 61 [.bool false,.slice none 0 0]).ext (ah.alloc (.cells #[.bool false,.slice none 0 0] 61))).ext y1;have abS:=aC S0 ah;have abT:=S0.lt;have ahq:=aC XR ah;have ahr:=XR.lt;clear y1)|(have y1:Ext (w2.alloc (.cells #[.bool false,.slice none 0 0] 61)) w3:=(by with_reducible exact x3);have S0:aY w3 w2.heap.size 61 [.bool false,.slice none 0 0]:=(aY.alloc w2 61 [.bool false,.slice none 0 0]).ext y1;have abS:=aC S0 ah;have abT:=S0.lt;clear y1)|skip)))
  all_goals go_wp2_with fail
  all_goals go_meet
  all_goals have SK:=x1.size
  all_goals have Xg:=x2.size
  all_goals have sz3:=x3.size
  all_goals simp at SK Xg sz3
  all_goals have o1:=v1.size
  all_goals have o2:=Z_.size
  all_goals have o3:=XQ.size
  all_goals refine ⟨_,a3,c3,rfl,?_,?_,?_,?_,?_⟩
  all_goals first
   |(with_reducible refine af ?_;(repeat(with_reducible first|exact aY.alloc _ _ _|exact aY.qV _ _ _ _|(refine aY.alloc_at _ _ () ?_;simp;done)|exact Hr|exact Hr.lY _ _|(refine (Hr.iE _ _ ?_).lY _ _;omega)|exact LR|exact LR.lY _ _|(refine (LR.iE _ _ ?_).lY _ _;omega)|exact Ns|exact Ns.lY _ _|(refine (Ns.iE _ _ ?_).lY _ _;omega)|exact Q8|exact Q8.lY _ _|(refine (Q8.iE _ _ ?_).lY _ _;omega)|exact S0|exact S0.lY _ _|(refine (S0.iE _ _ ?_).lY _ _;omega)|exact XR|exact XR.lY _ _|(refine (XR.iE _ _ ?_).lY _ _;omega)|(refine aY.iE ?_ _ _ ?_;rotate_left;(·omega))|refine aY.alloc' ?_ _));done)
   |((repeat(with_reducible first|exact r3|refine Raw.alloc' ?_ _|(refine Raw.setCell ?_ _ _ (f3.ne ?_);rotate_left;(·first|(simp;done)|(simp only;omega)|(simp;omega)))));done)
   |(refine Fr.mono f3 ?_;first|(simp;omega)|omega)
   |((repeat(with_reducible first|exact v3|refine Ext.alloc ?_ _|(refine Ext.setCell ?_ ?_ _;rotate_left;(·first|(simp;done)|(simp only;omega)|(simp;omega)))));done)
   |omega
 case rest=>
  obtain ⟨g3,a3,c3,rfl,s3,G3,r3,f3,hx⟩:=hcut;obtain ⟨z0,z1,⟨aD,aF,bn,aM,aN,bG⟩,aJ,aK,aR,aS⟩:=bb2 aA aC A0 A1 hx;obtain ⟨m0,m1,-,-⟩:=aC G3.o ah;go_wp2_with fail
  have fin:eJ sq nq W (.returned (.agg #[.bool sq,.slice a3 (len nq) c3])) wc:=⟨_,_,rfl,r3,f3,hx⟩;exact bodyPost_ret (by simp [results,results156,go_sem,aJ,aK]) rfl (eJ.bH fin x0 (Touch.two _ ae (by rw [Z0.o];omega) _ _))
theorem jl.UJ {x y:Int} {w w':World} {e:Ending} (h:jl x y w e w'):Ol (decide (x<0)) x.natAbs (decide (y<0)) y.natAbs w e w':=h
theorem eJ.UK {z:Int} {w w':World} {e:Ending} (h:eJ (decide (z<0)) z.natAbs w e w'):bP z w e w':=h
theorem FI (w:World) (s:Bool) (a b:Option Addr) (k c j d n m:Nat) (h:Raw w a k c n) (g:Raw w b j d m) (b1:k<200000000) (b2:j<200000000):
 Calls prog 156 #[.agg #[.bool s,.slice a k c,.slice b j d]] w (bP (mkRat (bf s n) m).floor w):=by
 obtain ⟨l1,l2⟩:=kG s n m h.cg g.cg b1 b2;have hN:=λV (hV:Ext w V)=>(lR V s a b k c j d n m (h.ext hV) (g.ext hV) b1 b2).mono (λ_ _ hh=>hh.mO);have hD:=λV (hV:Ext w V)=>qU V s a b k c j d n m (h.ext hV) (g.ext hV) b1 b2;generalize mkRat (bf s n) m=P at*;have hd:0<P.den:=P.den_pos;have hF:P.floor=P.num/(P.den:Int):=by rw [Rat.floor_def]
 rw [hF];refine (Bu w s a b k c j d _ _ (decide (P.num % (P.den:Int)<0)) _ _ _ (P.num % (P.den:Int)).natAbs hN hD (λV a c b d h1 h2=> ?_)).mono (λ_ _ hh=>hh.UK);have:=vO V (decide (P.num<0)) false a b _ c _ d _ _ h1 h2 hd ae ae;rw [df,dy]at this;exact this.mono (λ_ _ hh=>hh.UJ)
theorem UL (w:World) (a:Option Addr) (c:Nat) (rs:List bE) (qs:List Rat) (L:Nat) (h:jV w a c rs qs L) (hb:rs.length*(L+2)+L+1<100000000) (hK: ∀i (hi:i<rs.length),rs[i].k<200000000/\rs[i].j<200000000):
 Calls prog 154 #[.slice a rs.length c] w (bD (bO qs) w):=by
 have hle:=h.le;have eI:=h.cap;have ur:=h.short;go_enter func154,ntmps154
 go_wp2_with fail
 obtain ⟨W,hW,x0,Z0,A0⟩:=bS w 63 [.bool false,.slice none 0 0,.slice none 0 0];rw [<-hW];clear hW;obtain ⟨z0,aD,aF,bn,aM,aN,bG⟩:=bb1 aA A0 ah;refine (Ds _).mono ?_;intro e w1 hN;obtain ⟨r1,rfl,hr1,hx1⟩:=hN.jR;obtain ⟨z0,aD,aF,bn,aM,aN,bG⟩:=bb1 aA A0 hx1;go_wp2
 obtain ⟨w2,hw2⟩: ∃w2,w2=w1.alloc (Obj.cells #[.bool r1.s,.slice r1.a r1.k r1.c,.slice r1.b r1.j r1.d] 63):=⟨_,rfl⟩;rw [<-hw2];have E2:Ext w w2:=by rw [hw2];exact (x0.trans hx1).alloc _
 have P2:aY w2 w1.heap.size 63 r1.cells:=by rw [hw2];exact aY.alloc _ _ _
 have R2:dO w2 r1 (bO (qs.take 0)) (w.heap.size+1):=by rw [hw2,<-Z0.o];exact hr1.ext (ah.alloc _)
 have Q2:dW (bO (qs.take 0))<=2:=by show dW (((0:Int):Rat))<=2;rw [gi];decide
 have C2:aY w2 w.heap.size 63 [.bool false,.slice none 0 0,.slice none 0 0]:=by rw [hw2];exact (A0.ext hx1).ext (ah.alloc _)
 have S1:w.heap.size<w1.heap.size:=z0;clear hw2 aD aF bn aM aN bG z0 hr1 hN;go_loopw [4] (λii wr=> ∃(i:Nat) (r:bE),i<=rs.length/\Hid (aY wr w1.heap.size 63 r.cells)/\dO wr r (bO (qs.take i)) (w.heap.size+1)/\Hid (dW (bO (qs.take i))<=i*(L+2)+2)/\Hid (aY wr w.heap.size 63 [.bool false,.slice none 0 0,.slice none 0 0])/\Ext w wr/\ii= .int .i64 i) (λii _=>rs.length-(intOf ii).toNat)
 case atStart=>exact ⟨0,r1,bm,P2,R2,Nat.le_trans Q2 ae,C2,E2,rfl⟩
 case round=>
  obtain ⟨i,r,hi,hP,hR,hS,hC,hE,rfl⟩:=hrel;by_cases hlt:i<rs.length
  .have hq:=h.ext hE
   obtain ⟨b,o,rfl⟩:=h.at ae;obtain ⟨b',o',e',c0,c1,c2⟩:=hq.cell i hlt;cases e'
   obtain ⟨n',m',g1,g2,gq,N9,N_⟩:=hq.num i hlt;obtain ⟨n,m,f1,f2,fq,ZX,ZY⟩:=hR.lZ.mono hS.o
   have hmul:i*(L+2)+(L+2)<=rs.length*(L+2):=by
    rw [<-Nat.succ_mul];exact Nat.mul_le_mul_right _ hlt
   have hKi:=hK i hlt;generalize rs[i]=y at*;have FQ:=af fq;have GQ:=af gq;clear fq gq
   obtain ⟨p0,p1,p2,p3,p4,p5⟩:=aA hP.o ah;have pz:=hP.o.lt;have cz:=hC.o.lt
   have Wk:dW (bO (qs.take i)+qs[i]'(by rw [h.len];exact hlt))<=(i+1)*(L+2)+2:=by
    have a1:=jm (bO (qs.take i)) (qs[i]'(by rw [h.len];exact hlt));have a2:=hS.o;have a3:=fI.dW ⟨n',m',g1,g2,GQ.o,N9,N_⟩;rw [Nat.succ_mul];omega
   have SZ:=af Wk;clear Wk;have kr1:r.k<200000000:=by rw [hR.k];have:=iN (bO (qs.take i));have:=hS.o;omega
   have kr2:r.j<200000000:=by rw [hR.j];have:=iw (bO (qs.take i));have:=hS.o;omega
   have mn:(0:Int)<=(i:Int):=ae;have mq:(i:Int)<(rs.length:Int):=ae;go_wp2_with fail
   go_region_with ((go_at_call 57;(refine (IJ _ _ _ _ _ _ _ _ _ _ (by exact f1.ext ah.drew) (by exact f2.ext ah.drew) _ _ _ _ _ _ _ _ _ (by exact g1.ext ah.drew) (by exact g2.ext ah.drew) ae ae ae ae).mono ?_);intro e w3 hN;rw [<-FQ.o,<-GQ.o]at hN;obtain ⟨r3,rfl,hr3,hx3⟩:=hN.jR;obtain ⟨pz3,p0,p1,p2,p3,p4,p5⟩:=bb1 aA hP.o (ah.drew.trans hx3)))
   all_goals have hP3:=hP.o.ext (ah.drew.trans hx3)
   all_goals have hC3:=hC.o.ext (ah.drew.trans hx3)
   all_goals have hsz:w1.heap.size<wr.drew.heap.size:=pz
   all_goals go_wp2
   all_goals refine ⟨⟨i+1,r3,ae,?_,?_,?_,?_,Ext.tT ((hE.drew).trans hx3) ae _ _ _,bq⟩,by simp [intOf];omega⟩
   all_goals first
    |exact (((hP3.set 0 _).set 1 _).set 2 _)
    |(rw [m_ (by rw [h.len];exact hlt)]
      exact (((hr3.setCell _ _ hsz).setCell _ _ hsz).setCell _ _ hsz).mono (by have:=hE.size;simp;omega))
    |(rw [m_ (by rw [h.len];exact hlt)];exact SZ.o)
    |exact ((hC3.other _ _ (by simp;omega)).other _ _ (by simp;omega)).other _ _ (by simp;omega)
  .obtain rfl:i=rs.length:=ae
   rw [show qs.take rs.length=qs from List.take_of_length_le (by rw [h.len];exact cG)]at hR;obtain ⟨p0,p1,p2,p3,p4,p5⟩:=aA hP.o ah;have q0:=aA hC.o ah;go_wp2
   exact bodyPost_ret (by simp [results,results154,go_sem, *]) rfl (dO.qP ((((hR.setCell _ _ (Nat.lt_succ_self _)).setCell _ _ (Nat.lt_succ_self _)).setCell _ _ (Nat.lt_succ_self _)).mono (Nat.le_succ _)) (Ext.tT hE cG _ _ _))
theorem qW (r:bE): ∀u∈r.cells,u.oneCell'=true:=by
 intro u hu;simp only [bE.cells,List.mem_cons,List.not_mem_nil,or_false]at hu;rcases hu with rfl|rfl|rfl<;>rfl
def yj (q:Rat):Rat:=if q<0 then-q else q
theorem pM {q:Rat}:q.num.sign<0↔q<0:=by
 have h0:=Rat.num_nonneg (q:=q);constructor
 .intro h
  apply Rat.not_le.1;intro h1;have h2:=h0.2 h1;rcases Int.lt_or_eq_of_le h2 with h5|h5
  .rw [Int.sign_eq_one_of_pos h5]at h;omega
  .rw [<-h5]at h;exact absurd h ai
 .intro h
  have h1:q.num<0:=Int.not_le.1 (λh2=>absurd h (Rat.not_lt.2 (h0.1 h2)));rw [Int.sign_eq_neg_one_of_neg h1];decide
def Om (q:Rat) (L K:Nat) (w:World) (e:Ending) (w':World):Prop:= ∃r:bE,e= .returned (.agg #[.bool r.s,.slice r.a r.k r.c,.slice r.b r.j r.d])/\fI w' r q L/\r.k<=K/\r.j<=K/\Ext w w'
theorem zF {w w':World} {b:Nat} (h:Ext w w') (hb:w.heap.size<=b) (u v t:Value):Ext w (((w'.setCell ⟨b,0,none⟩ u).setCell ⟨b,1,none⟩ v).setCell ⟨b,2,none⟩ t):=
 ((h.setCell (p:=⟨b,0,none⟩) hb _).setCell (p:=⟨b,1,none⟩) hb _).setCell (p:=⟨b,2,none⟩) hb _
theorem Q9 (w:World) (y:bE) (q:Rat) (L:Nat) (h:fI w y q L) (hk:y.k<=1000000) (hj:y.j<=1000000) (_hL:L<=1000000):
 Calls prog 153 #[.agg #[.bool y.s,.slice y.a y.k y.c,.slice y.b y.j y.d]] w (Om (yj q) (L+1) (max (max y.k y.j) (L+1)) w):=by
 obtain ⟨n,m,g1,g2,gq,N9,N_⟩:=id h;have hS:=λV (hV:Ext w V)=>uQ V y.s _ _ _ _ _ _ _ _ (g1.ext hV) (g2.ext hV) ae ae;have hN:=λV (hV:Ext w V)=>II V y.s _ _ _ _ _ _ _ _ (g1.ext hV) (g2.ext hV) ae ae;rw [<-gq]at hS hN;have AZ:=h.dW;clear gq;unfold yj;by_cases h0:q<0
 .rw [if_pos h0]
  have t0:decide (q.num.sign<0)=true:=decide_eq_true (pM.2 h0);have tV:dW (-q)<=L+1:=by rw [mU];omega
  generalize q.num.sign=sg at*;generalize-q=p at*;have HS:=af hS;have HN:=af hN
  clear hS hN;go_enter func153,ntmps153
  go_wp2_with fail
  obtain ⟨W,hW,x0,Z0,A0,A1⟩:=dV w 63 [.bool y.s,.slice y.a y.k y.c,.slice y.b y.j y.d] 63 [.bool false,.slice none 0 0,.slice none 0 0];rw [<-hW];clear hW;obtain ⟨k0,k1,k2,-,-,-⟩:=aA A0 ah;refine (HS.o _ x0).mono ?_;rintro e w1 ⟨rfl,x1⟩;clear k0 k1 k2;obtain ⟨k0,k1,k2,-,-,-⟩:=aA A0 x1;go_wp2_with fail
  refine (HN.o _ (x0.trans x1)).mono ?_;intro e w2 hNR;obtain ⟨r,rfl,hr,x2⟩:=hNR.jR;clear hNR k0 k1 k2;obtain ⟨k0,k1,k2,k3,k4,k5⟩:=aA A1 (x1.trans x2);have hks:=hr.short tV;have z0:=Z0.o;have z1:=x1.size;go_wp2_with fail
  have hR3:=((hr.setCell ⟨w.heap.size+1,0,none⟩ (.bool r.s) (by simp only;omega)).setCell ⟨w.heap.size+1,1,none⟩ (.slice r.a r.k r.c) (by simp only;omega)).setCell ⟨w.heap.size+1,2,none⟩ (.slice r.b r.j r.d) (by simp only;omega);exact bodyPost_ret (by simp [results,results153,go_sem,k0,k1,k2]) rfl ⟨r,rfl,hR3.lZ.mono tV,ae,ae,zF ((x0.trans x1).trans x2) ae _ _ _⟩
 .rw [if_neg h0]
  have t0:decide (q.num.sign<0)=false:=decide_eq_false (λhh=>h0 (pM.1 hh));generalize q.num.sign=sg at*;have HS:=af hS;clear hS hN;have HI:=af h;go_enter func153,ntmps153
  go_wp2_with fail
  obtain ⟨W,hW,x0,Z0,A0,A1⟩:=dV w 63 [.bool y.s,.slice y.a y.k y.c,.slice y.b y.j y.d] 63 [.bool false,.slice none 0 0,.slice none 0 0];rw [<-hW];clear hW;obtain ⟨k0,k1,k2,-,-,-⟩:=aA A0 ah;refine (HS.o _ x0).mono ?_;rintro e w1 ⟨rfl,x1⟩;clear k0 k1 k2;obtain ⟨k0,k1,k2,-,-,-⟩:=aA A0 x1;obtain ⟨l0,l1,l2,l3,l4,l5⟩:=aA A1 x1;have z0:=Z0.o;have z1:=x1.size;go_wp2_with fail
  have hR3:fI (((w1.setCell ⟨w.heap.size+1,0,none⟩ (.bool y.s)).setCell ⟨w.heap.size+1,1,none⟩ (.slice y.a y.k y.c)).setCell ⟨w.heap.size+1,2,none⟩ (.slice y.b y.j y.d)) y q L:=fI.ext HI.o (zF (x0.trans x1) ae _ _ _);exact bodyPost_ret (by simp [results,results153,go_sem,l0,l1,l2]) rfl ⟨y,rfl,hR3.mono ae,ae,ae,zF (x0.trans x1) ae _ _ _⟩
theorem LS (n:Nat) (hn:n<=128) (w:World):(Instr.makeSlice 22 (.int .i64 (n:Int)) (.int .i64 (n:Int))).run prog w= .ok (.slice (some ⟨w.heap.size,0,none⟩) n n) (w.alloc (.cells (List.replicate n (Value.int .i64 0)).toArray 3)):=by
 obtain ⟨i,h2,h4,h5,h6⟩:=info_parts Tryz.info_int;have hrun:=run_make (P:=prog) w 22 3 i _ underlying22 h2 h4 .i64 .i64 n n ae (Int.le_refl _) (by rw [h6];omega) ae;simp only [Int.toNat_natCast,h5,Nat.mul_one,show(Value.int IntKind.i64 0).cells= #[Value.int IntKind.i64 0]from rfl,tv]at hrun;exact hrun
theorem LU (n:Nat) (hn:n<=128) (w:World):(Instr.makeSlice 32 (.int .i64 (n:Int)) (.int .i64 (n:Int))).run prog w= .ok (.slice (some ⟨w.heap.size,0,none⟩) n n) (w.alloc (.cells (fh n).toArray 63)):=by
 obtain ⟨i,h2,h4,h5,h6⟩:=info_parts Tryz.info_rat;have hrun:=run_make (P:=prog) w 32 63 i _ underlying32 h2 h4 .i64 .i64 n n ae (Int.le_refl _) (by rw [h6];omega) ae;have h3:(Value.agg iV.toArray).cells=iV.toArray:=rfl;rw [h3,h5,Int.toNat_natCast,qh]at hrun;exact hrun
open Go.Deep
def qX (w:World) (a:Option Addr) (k c:Nat):Prop:=k<=c/\c<=9223372036854775807/\(k<=1000-> ∃n,Raw w a k c n)
structure oG (w:World) (a:Option Addr) (c:Nat) (rs:List bE):Prop where
 le:rs.length<=c
 cap:c<=9223372036854775807
 Ni:a=none->c=0
 cell: ∀i (h:i<rs.length),∃b o,a=some ⟨b,o,none⟩/\w.cell? ⟨b,o+i*3,none⟩=some (.bool rs[i].s)/\w.cell? ⟨b,o+i*3+1,none⟩=some (.slice rs[i].a rs[i].k rs[i].c)/\w.cell? ⟨b,o+i*3+2,none⟩=some (.slice rs[i].b rs[i].j rs[i].d)
 num: ∀i (h:i<rs.length),qX w rs[i].a rs[i].k rs[i].c/\qX w rs[i].b rs[i].j rs[i].d
theorem Oo {l:List Value} (h:l.length=3): ∃a b c,l= [a,b,c]:=by
 match l,h with
 | [a,b,c],_=>exact ⟨a,b,c,rfl⟩
section
variable{H:Type} {enc:TypeId×Value->H} {w:World} {base:Nat} {spare:Nat->Bool} {held:Bool}
theorem wf_u32 {n:Int} (h:(Lit.int .u32 n).wf=true):0<=n/\n<4294967296:=by
 simp [Lit.wf,IntKind.min,IntKind.max,IntKind.signed,IntKind.bits]at h;omega
theorem FJ {fuel:Nat} {v:Value} {x:DataW H×List MemPlace} (h:DataW.trod enc prog w base spare held fuel 59 [v]=some x): ∃a k c,v= .slice a k c/\qX w a k c:=by
 rcases open_ints underlying59 underlying93 aw h with⟨hcs,_⟩|⟨a,len,cap,zs,hcs,_,hl,hm,hz,_,hcell,Z'⟩
 .simp only [List.cons.injEq,and_true]at hcs
  exact ⟨none,0,0,hcs,cG,ae,λ_=>⟨0,Raw.nil w⟩⟩
 .simp only [List.cons.injEq,and_true]at hcs
  refine ⟨some a,len,cap,hcs,hl,by unfold maxLen at hm;omega,λhk=> ?_⟩;have QH:len<=zs.length:=by rw [hz];split<;>omega
  refine ⟨val ((zs.take len).map Int.toNat),(zs.take len).map Int.toNat,by simp;omega,rfl,by simp;omega,by unfold maxLen at hm;omega,by simp;omega,(λe=>by cases e),?_,?_⟩
  .intro n hn
   obtain ⟨z,hz',rfl⟩:=List.mem_map.1 hn;have:=wf_u32 (Z' z (List.mem_of_mem_take hz'));omega
  .intro i hi
   have hi':i<len:=by simp at hi;omega
   have hc:=hcell i ae;obtain ⟨b,off,spot⟩:=a;have hspot:spot=none:=by simpa [Addr.add]using World.cell?_spot (hcell 0 ae)
   subst hspot;refine ⟨b,off,rfl,?_⟩;rw [show(Addr.add ⟨b,off,none⟩ i)=⟨b,off+i,none⟩from by unfold Addr.add;split<;>simp_all]at hc;rw [hc];have hiz:i<zs.length:=ae;have hw:=wf_u32 (Z' zs[i] (List.getElem_mem hiz));have e1:zs.getD i 0=zs[i]:=by simp [hiz]
   have e2:limb ((zs.take len).map Int.toNat) i=zs[i].toNat:=by
    unfold limb;rw [List.getElem?_eq_getElem (by rw [List.length_map,List.length_take];omega),Option.getD_some,List.getElem_map,List.getElem_take]
   rw [e1,e2,Int.toNat_of_nonneg hw.1]
theorem Oq {fuel:Nat} {cs:List Value} {x:DataW H×List MemPlace} (h:DataW.trod enc prog w base spare held fuel 63 cs=some x): ∃r:bE,cs=r.cells/\qX w r.a r.k r.c/\qX w r.b r.j r.d:=by
 obtain ⟨xs,n,_,_,hlen,Nn,hf⟩:=DataW.trod_struct underlying63 h;rw [show prog.cellsOf 63=3 from by kernel_rfl]at hlen;obtain ⟨c0,c1,c2,rfl⟩:=Oo hlen;have k53:prog.cellsOf 61=2:=aw;have k51:prog.cellsOf 59=1:=aw;have h0:DataW.trod enc prog w base spare held n 61 (([c0,c1,c2].drop 0).take (prog.cellsOf 61))=xs[0]?:=hf 0 _ rfl;have h1:DataW.trod enc prog w base spare held n 59 (([c0,c1,c2].drop 2).take (prog.cellsOf 59))=xs[1]?:=hf 1 _ rfl;have hx2:xs.length=2:=Nn;rw [k53,List.getElem?_eq_getElem ae]at h0;rw [k51,List.getElem?_eq_getElem ae]at h1;obtain ⟨b,j,d,hb,hr⟩:=FJ (show DataW.trod enc prog w base spare held n 59 [c2]=some xs[1]from h1);obtain ⟨ys,m,_,_,aeH,hyl,hg⟩:=DataW.trod_struct underlying61 (show DataW.trod enc prog w base spare held n 61 [c0,c1]=some xs[0]from h0);have k4:prog.cellsOf 4=1:=aw;have g0:DataW.trod enc prog w base spare held m 4 (([c0,c1].drop 0).take (prog.cellsOf 4))=ys[0]?:=hg 0 _ rfl;have g1:DataW.trod enc prog w base spare held m 59 (([c0,c1].drop 1).take (prog.cellsOf 59))=ys[1]?:=hg 1 _ rfl;have hy2:ys.length=2:=hyl;rw [k4,List.getElem?_eq_getElem ae]at g0;rw [k51,List.getElem?_eq_getElem ae]at g1;obtain ⟨s,hs,_⟩:=DataW.trod_bool underlying4 (show DataW.trod enc prog w base spare held m 4 [c0]=some ys[0]from g0);obtain ⟨a,k,c,ha,oB⟩:=FJ (show DataW.trod enc prog w base spare held m 59 [c1]=some ys[1]from g1);simp only [List.cons.injEq,and_true]at hs;subst hs ha hb;exact ⟨⟨s,a,k,c,b,j,d⟩,rfl,oB,hr⟩
theorem LV {fuel:Nat} {v:Value} {x:DataW H×List MemPlace} (h:DataW.trod enc prog w base spare held fuel 32 [v]=some x): ∃a c rs,v= .slice a rs.length c/\oG w a c rs:=by
 rcases open_slice underlying32 h with⟨hcs,_⟩|⟨a,len,cap,m,n,D,Pl,hcs,hb,hl,hm,LI,hx,hi⟩
 .simp only [List.cons.injEq,and_true]at hcs
  exact ⟨none,0,[],hcs,cG,ae,λ_=>rfl,λi hi=>absurd hi (Nat.not_lt_zero _),λi hi=>absurd hi (Nat.not_lt_zero _)⟩
 .simp only [List.cons.injEq,and_true]at hcs
  have Hp:len<=m:=by rw [LI];split<;>omega
  have hC:prog.cellsOf 63=3:=aw
  have hex: ∀i,∃r:bE,i<len->w.cells? base (a.add (i*3)) 3=some r.cells/\qX w r.a r.k r.c/\qX w r.b r.j r.d:=by
   intro i;by_cases gu:i<len
   .obtain ⟨cs',h1,h2⟩:=hi i ae
    rw [hC]at h1;obtain ⟨r,rfl,h3,h4⟩:=Oq h2;exact ⟨r,λ_=>⟨h1,h3,h4⟩⟩
   .exact ⟨⟨false,none,0,0,none,0,0⟩,λhh=>absurd hh gu⟩
  obtain ⟨R,hR⟩:=Classical.axiomOfChoice hex;refine ⟨some a,cap,(List.range len).map R,by rw [hcs];simp,by simp;exact hl,by unfold maxLen at hm;omega,(λe=>by cases e),?_,?_⟩
  .intro i hi'
   have gu:i<len:=by simpa using hi'
   obtain ⟨h1,-,-⟩:=hR i gu;obtain ⟨_,UM,hat⟩:=World.cells?_some h1;obtain ⟨b,off,spot⟩:=a
   have hspot:spot=none:=by
    obtain ⟨h0,-,-⟩:=hR 0 ae;obtain ⟨_,_,UN⟩:=World.cells?_some h0;have:=UN 0 ae;simp [bE.cells,Addr.add]at this;exact World.cell?_spot this
   subst hspot;have hg:(((List.range len).map R)[i]'hi')=R i:=aX;rw [hg]
   have ik: ∀j,Addr.add (Addr.add ⟨b,off,none⟩ (i*3)) j=⟨b,off+i*3+j,none⟩:=by
    intro j;unfold Addr.add;split<;>split<;>simp_all
   refine ⟨b,off,rfl,?_,?_,?_⟩
   .have:=hat 0 ae;rw [ik]at this;simpa [bE.cells]using this
   .have:=hat 1 ae;rw [ik]at this;simpa [bE.cells]using this
   .have:=hat 2 ae;rw [ik]at this;simpa [bE.cells]using this
  .intro i hi'
   have gu:i<len:=by simpa using hi'
   obtain ⟨-,h2,h3⟩:=hR i gu;have hg:(((List.range len).map R)[i]'hi')=R i:=aX;rw [hg];exact ⟨h2,h3⟩
end
theorem oG.at {w:World} {a:Option Addr} {c:Nat} {rs:List bE} (h:oG w a c rs) (h0:0<rs.length): ∃b o,a=some ⟨b,o,none⟩:=by
 obtain ⟨b,o,ha,_⟩:=h.cell 0 h0;exact ⟨b,o,ha⟩
def Ot (rs:List bE):Prop:=rs.length<=30/\ ∀i (hi:i<rs.length),rs[i].k<=4/\rs[i].j<=4
theorem oG.LP {w:World} {a:Option Addr} {c:Nat} {rs:List bE} (h:oG w a c rs) (hr:Ot rs): ∃qs,jV w a c rs qs 4/\jh rs 4:=by
 have hex: ∀i,∃q:Rat,∀hi:i<rs.length,fI w rs[i] q 4:=by
  intro i;by_cases hi:i<rs.length
  .obtain ⟨h1,h2⟩:=h.num i hi
   obtain ⟨r1,r2⟩:=hr.2 i hi;obtain ⟨n,hn⟩:=h1.2.2 ae;obtain ⟨m,hm⟩:=h2.2.2 ae;have l1:=hn.cg;have l2:=hm.cg;exact ⟨mkRat (bf rs[i].s n) m,λ_=>⟨n,m,hn,hm,rfl,ae,ae⟩⟩
  .exact ⟨0,λhh=>absurd hh hi⟩
 obtain ⟨Q,hQ⟩:=Classical.axiomOfChoice hex;refine ⟨(List.range rs.length).map Q,⟨aX,h.le,h.cap,dB hr.1,h.cell,λi hi=> ?_⟩,hr.2⟩;have hg:(((List.range rs.length).map Q)[i]'(by simpa using hi))=Q i:=aX;rw [hg];exact hQ i hi
theorem Dx {w:World} {base base':Nat} {e:TypeId} {s:Nat} {v:Value} {n:Nat} {xs:List Value} (h:w.ownsRow base e s v n xs) (hb:base'<=base):w.ownsRow base' e s v n xs:=by
 obtain ⟨h1,h2⟩:=h;refine ⟨h1,?_⟩;rcases h2 with h2|⟨g,cap,cur,hv,hb',hg,hr⟩
 .exact .inl h2
 .exact .inr ⟨g,cap,cur,hv,Nat.le_trans hb hb',hg,hr⟩
theorem gG.base {w w4 wr:World} {v:Value} {rs:List bE} {qs:List Rat} {L:Nat} (h:gG w4 wr v rs qs L) (hx:Ext w w4):gG w wr v rs qs L:=
 ⟨h.len,Dx h.own hx.size,h.num,h.off,hx.trans h.ext⟩
theorem gG.mono {w wr:World} {v:Value} {rs:List bE} {qs:List Rat} {L L':Nat} (h:gG w wr v rs qs L) (hl:L<=L'):gG w wr v rs qs L':=
 ⟨h.len,h.own,λk hk=>(h.num k hk).mono hl,h.off,h.ext⟩
theorem jh.mono {rs:List bE} {L L':Nat} (h:jh rs L) (hl:L<=L'):jh rs L':=λk hk=>dB (h k hk)
theorem jV.src {w:World} {a:Option Addr} {c:Nat} {rs:List bE} {qs:List Rat} {L:Nat} (h:jV w a c rs qs L) (h0:0<rs.length): ∃ad,a=some ad/\ ∀j u,(bX rs)[j]?=some u->w.cell? (ad.add j)=some u:=by
 obtain ⟨b,o,rfl⟩:=h.at h0;refine ⟨_,rfl,λj u hu=> ?_⟩;have hj:j<(bX rs).length:=(List.getElem?_eq_some_iff.1 hu).1;rw [eu]at hj;have hi:j/3<rs.length:=ae;have hk:j % 3<3:=ae;have hg:=dz rs (j/3) (j % 3) hi hk;rw [show j/3*3+j % 3=j by omega,hu]at hg;obtain ⟨b',o',e',c0,c1,c2⟩:=h.cell (j/3) hi;cases e'
 rw [show(Addr.add ⟨b,o,none⟩ j)=⟨b,o+j,none⟩from by unfold Addr.add;split<;>simp_all];rcases (show j % 3=0\/j % 3=1\/j % 3=2 by omega)with e|e|e
 .rw [e]at hg;rw [show o+j=o+j/3*3 by omega,c0];simpa [bE.cells]using hg.symm
 .rw [e]at hg;rw [show o+j=o+j/3*3+1 by omega,c1];simpa [bE.cells]using hg.symm
 .rw [e]at hg;rw [show o+j=o+j/3*3+2 by omega,c2];simpa [bE.cells]using hg.symm
theorem gG.copy {w4 w5:World} {v1:Value} {a:Option Addr} {c:Nat} {rs:List bE} {qs:List Rat} {L:Nat} (h:jV w4 a c rs qs L) (ho:w5.ownsRow w4.heap.size 63 3 v1 rs.length (bX rs)) (hX:Ext w4 w5)
 (hv:v1.ownBlock=some w4.heap.size\/ ∃g,v1.ownBlock=some g/\w4.heap.size+1<=g):gG w4 w5 v1 rs qs L:=by
 refine ⟨h.len,ho,λk hk=>(h.num k hk).ext hX,λk hk=> ?_,hX⟩;obtain ⟨n,m,g1,g2,_⟩:=h.num k hk
 have key: ∀{a:Option Addr} {k c n:Nat},Raw w4 a k c n->0<k-> ∀x,a=some x->some x.block≠v1.ownBlock:=by
  intro a k c n hr h0 x hx e;have:=hr.lt h0 x hx;rcases hv with hv|⟨g,hv,hg⟩
  .rw [hv,Option.some.injEq]at e;omega
  .rw [hv,Option.some.injEq]at e;omega
 exact ⟨key g1,key g2⟩
open Go
open Go.Maps Go.ChangeMaps Go.MapKept
theorem lS (p q:Rat):dW (p*q)<=dW p+dW q+1:=by
 rw [Rat.mul_def'];refine Nat.le_trans (kn _ _) ?_;rw [Int.natAbs_mul];have h2:=gX p.num.natAbs q.num.natAbs;have h4:=gX p.den q.den;have a1:=iN p;have a2:=iw p;have a3:=iN q;have a4:=iw q
 omega
theorem vQ (A:List Int) (m:Nat) (x:Int):(ju (A++List.replicate (m+1) 0)).set A.length (.int .i64 x)=ju ((A++ [x])++List.replicate m 0):=by
 unfold ju;rw [<-List.map_set,List.set_append_right _ _ ae,Nat.sub_self,List.replicate_succ,List.set_cons_zero,List.append_assoc];rfl
theorem ud (n:Nat):List.replicate n (Value.int .i64 0)=ju (List.replicate n 0):=by simp [ju]
theorem oH (l:List bE) (r:bE):bX (l++ [r])=bX l++r.cells:=by simp [bX]
theorem Tryz.laidOut:laidOutB Tryz.prog=true:=aw
end Go.Proofs.YtfokdakioeoniaaGreat
namespace Go.Proofs.YtfokdakioeoniaaGreat.settlementAny
open Go Go.ChangeShapes Go.WideShapes Go.ChangeAt Go.RowKit
theorem named:Tryz.pinned.checked.prog.funcNamed Rows.settlementAnyRow.func=some 4:=aw
theorem inst:Tryz.f4.isInstance Tryz.pinned.checked.prog Rows.settlementAnyRow.origin Rows.settlementAnyRow.targs:=of_decide_eq_true aw
theorem wrap:Tryz.f4.isWrapper Tryz.pinned.checked.prog Rows.settlementAnyRow.wrapper Rows.settlementAnyRow.mainSum:=by unfold Func.isWrapper;first|(rw [if_pos (by decide+kernel)];kernel_rfl)|(rw [if_neg (by decide+kernel)];exact ⟨rfl,rfl⟩)
end Go.Proofs.YtfokdakioeoniaaGreat.settlementAny
namespace Go.Proofs.YtfokdakioeoniaaGreat.settlementAny
open Go Go.ChangeShapes Go.WideShapes Go.ChangeAt Go.RowKit
theorem Qd:(Rows.settlementAnyRow.inPlace==Tryz.pinned.checked.prog.inPlace 4)=true:=aw
end Go.Proofs.YtfokdakioeoniaaGreat.settlementAny
namespace Go.Proofs.YtfokdakioeoniaaGreat.settlementAny
open Go Go.ChangeShapes Go.WideShapes Go.ChangeAt Go.RowKit
theorem Ho:(Rows.settlementAnyRow.unfollowed==Tryz.pinned.checked.prog.unfollowed 4)=true:=aw
end Go.Proofs.YtfokdakioeoniaaGreat.settlementAny
namespace Go.Proofs.YtfokdakioeoniaaGreat.settlementAny
open Go Go.ChangeShapes Go.WideShapes Go.ChangeAt Go.RowKit
theorem Nh:(Rows.settlementAnyRow.recurses==Tryz.pinned.checked.prog.recurses 4)=true:=aw
end Go.Proofs.YtfokdakioeoniaaGreat.settlementAny
