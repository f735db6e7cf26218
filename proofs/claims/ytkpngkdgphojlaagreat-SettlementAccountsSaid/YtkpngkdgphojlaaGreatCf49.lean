/- Texts of the proof. -/
import Derived.Test.YtkpngkdgphojlaaGreatCf48
set_option linter.all false
set_option maxHeartbeats 2000000
set_option maxRecDepth 100000
namespace Go.Proofs.YtkpngkdgphojlaaGreat
open Go.Proofs.Tryz
open Go.RowKit
theorem Mn (w:World) (s:Bool) (a b:Option Addr) (k c j d n m:Nat) (h:Raw w a k c n) (g:Raw w b j d m) (s':Bool) (a' b':Option Addr) (k' c' j' d' n' m':Nat) (h':Raw w a' k' c' n') (g':Raw w b' j' d' m') (b1:len n<100000000) (b2:len m<100000000) (QP:len n'<100000000) (KG:len m'<100000000):
 Calls prog 112 #[.agg #[.bool s,.slice a k c,.slice b j d],.agg #[.bool s',.slice a' k' c',.slice b' j' d']] w (br (mkRat (aZ s n) m-mkRat (aZ s' n') m') w):=by
 go_enter func112,ntmps112
 go_wp2_with fail
 obtain ⟨W,hW,x0,Z0,A0,A1,A2⟩:=gl w 119 [.bool s,.slice a k c,.slice b j d] 119 [.bool (!s'),.slice a' k' c',.slice b' j' d'] 119 [.bool false,.slice none 0 0,.slice none 0 0];rw [←hW];clear hW;have aC:=aN A0 (Ext.refl _);have z0:=(A0.ext (Ext.refl _)).lt;have aM:=aN A1 (Ext.refl _);have z1:=(A1.ext (Ext.refl _)).lt;have bj:=aN A2 (Ext.refl _);have z2:=(A2.ext (Ext.refl _)).lt;refine (FM _ _ _ _ _ _ _ _ _ _ (h.ext x0) (g.ext x0) _ _ _ _ _ _ _ _ _ (h'.ext x0) (g'.ext x0) b1 b2 QP KG).mono ?_;intro e wz hN;rw [xH,←Rat.sub_eq_add_neg]at hN;obtain ⟨az,cz,QN,QO,rfl,Mi,rF,Em,En,kr⟩:=id hN;have aC:=aN A0 ((Ext.refl W).trans kr);have z0:=(A0.ext ((Ext.refl W).trans kr)).lt;have aM:=aN A1 ((Ext.refl W).trans kr);have z1:=(A1.ext ((Ext.refl W).trans kr)).lt;have bj:=aN A2 ((Ext.refl W).trans kr);have z2:=(A2.ext ((Ext.refl W).trans kr)).lt;go_wp2
 exact bodyPost_ret (by simp [results,results112,go_sem, *]) rfl (br.bh (hN.base (Ext.refl W)) x0 (Touch.three _ (by omega) (by rw [Z0.o];omega) _ _ _))
theorem Ext.mP {w w3 w4:World} {hi:Nat} (h:Ext w w3) (t:Touch w.heap.size hi w3 w4):Ext w w4:=
 ⟨⟨t.os.trans h.below.os,t.tape.trans h.below.tape,t.output.trans h.below.output,by rw [t.size];exact h.below.size,fun k hk=>(t.block k (Or.inl hk)).trans (h.below.block k hk)⟩,Nat.le_trans h.drawn t.drawn⟩
theorem tX (x:Int) (y:Nat) (h:0<y):(mkRat x y).floor=x/y:=by
 obtain ⟨g,g0,e1,e2⟩:=nH x y h;generalize mkRat x y=p at*;subst e1 e2;rw [Rat.floor_def,Int.natCast_mul,Int.mul_ediv_mul_of_pos_left _ _ (by omega)]
def Ae (q:Rat) (w:World) (e:Ending) (w':World):Prop:= ∃(r:Int) (a c:_) (a1:Option Addr) (c1:Nat) (a2:Option Addr) (k2 c2:Nat),e= .returned (.tuple #[.agg #[.bool (decide (q.floor<0)),.slice a (len q.floor.natAbs) c],.agg #[.bool (decide (r<0)),.slice a1 (len r.natAbs) c1],.agg #[.bool false,.slice a2 k2 c2]])∧
 Raw w' a (len q.floor.natAbs) c q.floor.natAbs∧Fr w.heap.size a∧Raw w' a1 (len r.natAbs) c1 r.natAbs∧Fr w.heap.size a1∧(r=0↔(q.floor:Rat)=q)∧Ext w w'
theorem xI (w:World) (s:Bool) (a b:Option Addr) (k c j d n m:Nat) (_h:Raw w a k c n) (g:Raw w b j d m) (hm:0<m):
 Calls prog 159 #[.agg #[.bool s,.slice a k c,.slice b j d]] w fun e w'=>e= .returned (.tuple #[.agg #[.bool s,.slice a k c],.slice b j d])∧Ext w w':=by
 have hc:fc m 0=1:=by unfold fc;rw [if_neg (by omega),if_neg (by omega)]
 have HC:=ae hc;clear hc
 go_enter func159,ntmps159
 go_wp2_with fail
 obtain ⟨W,hW,x0,Z0,A0,A1⟩:=er w 119 [.bool s,.slice a k c,.slice b j d] 117 [.bool false,.slice none 0 0];rw [←hW];clear hW;have aC:=aN A0 (Ext.refl _);have z0:=(A0.ext (Ext.refl _)).lt;have aM:=ax A1 (Ext.refl _);have z1:=(A1.ext (Ext.refl _)).lt;refine (dJ _ _ _ _ _ _ _ _ _ (g.ext x0) (Raw.nil _)).mono ?_;rintro e w1 ⟨rfl,ib⟩;rw [HC.o];have aC:=aN A0 ib.ext;have z0:=(A0.ext ib.ext).lt;have aM:=ax A1 ib.ext;have z1:=(A1.ext ib.ext).lt;go_wp2
 go_region
 go_wp2
 exact bodyPost_ret (v:= .tuple #[.agg #[.bool s,.slice a k c],.slice b j d]) (by simp [results,results159,go_sem, *]) rfl ⟨rfl,(Ext.rS (x0.trans ib.ext) (by omega) _ _).drew⟩
theorem wj (w:World) (s:Bool) (a b:Option Addr) (k c j d:Nat) (g:Raw w b j d 0):
 Calls prog 159 #[.agg #[.bool s,.slice a k c,.slice b j d]] w fun e w'=> ∃e1,e= .returned (.tuple #[.agg #[.bool false,.slice none 0 0],.slice e1 1 1])∧Raw w' e1 1 1 1∧Fr w.heap.size e1∧Ext w w':=by
 have hc:fc 0 0=0:=rfl;go_enter func159,ntmps159
 go_wp2_with fail
 obtain ⟨W,hW,x0,Z0,A0,A1⟩:=er w 119 [.bool s,.slice a k c,.slice b j d] 117 [.bool false,.slice none 0 0];rw [←hW];clear hW;have aC:=aN A0 (Ext.refl _);have z0:=(A0.ext (Ext.refl _)).lt;have aM:=ax A1 (Ext.refl _);have z1:=(A1.ext (Ext.refl _)).lt;refine (dJ _ _ _ _ _ _ _ _ _ (g.ext x0) (Raw.nil _)).mono ?_;rintro e w1 ⟨rfl,ib⟩;rw [hc];have aC:=aN A0 ib.ext;have z0:=(A0.ext ib.ext).lt;have aM:=ax A1 ib.ext;have z1:=(A1.ext ib.ext).lt;go_wp2
 refine bodyPost_ret (v:= .tuple #[.agg #[.bool false,.slice none 0 0],.slice (some ⟨w1.heap.size,0,none⟩) 1 1]) (by simp [results,results159,go_sem, *]) rfl ⟨some ⟨w1.heap.size,0,none⟩,rfl,?_,Fr.some (x0.trans ib.ext).size,?_⟩
 ·have:=uT ((w1.setCell ⟨w.heap.size+1,0,none⟩ (.bool false)).setCell ⟨w.heap.size+1,1,none⟩ (.slice none 0 0));simpa using this
 ·exact (Ext.rS (x0.trans ib.ext) (by omega) _ _).alloc _
theorem Hf (x:Int) (y:Nat) (h:0<y):x % (y:Int)=0↔(((mkRat x y).floor:Int):Rat)=mkRat x y:=by
 rw [tX x y h];constructor
 ·intro h0
  obtain ⟨z,rfl⟩:=Int.dvd_of_emod_eq_zero h0;rw [Int.mul_ediv_cancel_left _ (by omega),Rat.mkRat_eq_div];rw [Rat.intCast_mul,Rat.intCast_natCast,Rat.mul_comm,Rat.mul_div_cancel (by intro h1;rw [Rat.natCast_eq_zero_iff]at h1;omega)]
 ·intro h0
  rw [Rat.mkRat_eq_div]at h0
  have h1:(((x/(y:Int)):Int):Rat)*(y:Rat)=(x:Rat):=by
   rw [h0,Rat.div_mul_cancel (by intro h1;rw [Rat.natCast_eq_zero_iff]at h1;omega)]
  rw [←Rat.intCast_natCast,←Rat.intCast_mul,Rat.intCast_inj]at h1;have:=Int.emod_add_mul_ediv x y;rw [Int.mul_comm]at h1;omega
theorem Hg (w:World) (s:Bool) (a b:Option Addr) (k c j d n m:Nat) (h:Raw w a k c n) (g:Raw w b j d m) (b1:len n<100000000) (b2:len m<100000000):
 Calls prog 166 #[.agg #[.bool s,.slice a k c,.slice b j d]] w (Ae (mkRat (aZ s n) m) w):=by
 by_cases hm:0<m
 ·skip
  go_enter func166,ntmps166
  go_wp2_with fail
  obtain ⟨W,hW,x0,Z0,A0,A1,A2,A3⟩:=uW w 119 [.bool s,.slice a k c,.slice b j d] 117 [.bool false,.slice none 0 0] 117 [.bool false,.slice none 0 0] 117 [.bool false,.slice none 0 0];rw [←hW];clear hW;have aC:=aN A0 (Ext.refl _);have z0:=(A0.ext (Ext.refl _)).lt;obtain ⟨aM,bD,cj,cq⟩:=ax A1 (Ext.refl _);have z1:=(A1.ext (Ext.refl _)).lt;obtain ⟨bj,bQ,ct,cA⟩:=ax A2 (Ext.refl _);have z2:=(A2.ext (Ext.refl _)).lt;obtain ⟨eP,eQ,fU,fV⟩:=ax A3 (Ext.refl _);have z3:=(A3.ext (Ext.refl _)).lt;refine (xI _ _ _ _ _ _ _ _ _ _ (h.ext x0) (g.ext x0) hm).mono ?_;rintro e w1 ⟨rfl,hx1⟩;have aC:=aN A0 hx1;have z0:=(A0.ext hx1).lt;obtain ⟨aM,bD,cj,cq⟩:=ax A1 hx1;have z1:=(A1.ext hx1).lt;obtain ⟨bj,bQ,ct,cA⟩:=ax A2 hx1;have z2:=(A2.ext hx1).lt;obtain ⟨eP,eQ,fU,fV⟩:=ax A3 hx1;have z3:=(A3.ext hx1).lt;go_wp2_with fail
  obtain ⟨w2,hw2⟩: ∃w2,w2=((w1.setCell ⟨w.heap.size+1+1+1,0,none⟩ (.bool false)).setCell ⟨w.heap.size+1+1+1,1,none⟩ (.slice b j d)).alloc (Obj.cells #[.bool s,.slice a k c] 117):=⟨_,rfl⟩;rw [←hw2];have E2:Ext w w2:=by rw [hw2];exact (Ext.rS (x0.trans hx1) (by omega) _ _).alloc _
  have S2:w2.heap.size=w1.heap.size+1:=by rw [hw2];simp
  have C1:aQ w2 (w.heap.size+1) 117 [.bool false,.slice none 0 0]:=by rw [hw2];exact (((A1.ext hx1).other _ _ (by simp<;>omega)).other _ _ (by simp<;>omega)).ext ((Ext.refl _).alloc _)
  have C2:aQ w2 (w.heap.size+2) 117 [.bool false,.slice none 0 0]:=by rw [hw2];exact (((A2.ext hx1).other _ _ (by simp<;>omega)).other _ _ (by simp<;>omega)).ext ((Ext.refl _).alloc _)
  have C3:aQ w2 (w.heap.size+3) 117 [.bool false,.slice b j d]:=by rw [hw2];exact (((A3.ext hx1).set 0 _).set 1 _).ext ((Ext.refl _).alloc _)
  have VL:=hx1.size;rw [Z0.o]at VL;clear hw2 aM cj bD cq bj ct bQ cA eP fU eQ fV aC z0 z1 z2 z3;refine (vX _ _ _ _ _ _ _ _ _ _ _ (h.ext E2) (g.ext E2) hm (by omega)).mono ?_;rintro e w3 ⟨a3,c3,a4,c4,rfl,hr3,hf3,hr4,FL,hx3⟩;obtain ⟨aM,bD,cj,cq⟩:=ax C1 hx3;have z1:=(C1.ext hx3).lt;obtain ⟨bj,bQ,ct,cA⟩:=ax C2 hx3;have z2:=(C2.ext hx3).lt;obtain ⟨eP,eQ,fU,fV⟩:=ax C3 hx3;have z3:=(C3.ext hx3).lt;generalize hX:aZ s n/aZ false m=X at*;generalize hY:aZ s n % aZ false m=Y at*;have HX:=ae hX;have HY:=ae hY;clear hX hY
  go_wp2
  obtain ⟨w4,hw4⟩: ∃w4,w4=((((w3.setCell ⟨w.heap.size+1,0,none⟩ (.bool (decide (X<0)))).setCell ⟨w.heap.size+1,1,none⟩ (.slice a3 (len X.natAbs) c3)).setCell ⟨w.heap.size+1+1,0,none⟩ (.bool (decide (Y<0)))).setCell ⟨w.heap.size+1+1,1,none⟩ (.slice a4 (len Y.natAbs) c4)):=⟨_,rfl⟩;rw [←hw4];have T4:Touch w.heap.size W.heap.size w3 w4:=by rw [hw4];exact (Touch.two _ (by omega) (by rw [Z0.o];omega) _ _).trans (Touch.two _ (by omega) (by rw [Z0.o];omega) _ _)
  have D1:aQ w4 (w.heap.size+1) 117 [.bool (decide (X<0)),.slice a3 (len X.natAbs) c3]:=by rw [hw4];exact ((((C1.ext hx3).set 0 _).set 1 _).other _ _ (by simp<;>omega)).other _ _ (by simp<;>omega)
  have D2:aQ w4 (w.heap.size+2) 117 [.bool (decide (Y<0)),.slice a4 (len Y.natAbs) c4]:=by rw [hw4];exact ((((C2.ext hx3).other _ _ (by simp<;>omega)).other _ _ (by simp<;>omega)).set 0 _).set 1 _
  have D3:aQ w4 (w.heap.size+3) 117 [.bool false,.slice b j d]:=by rw [hw4];exact (((((C3.ext hx3).other _ _ (by simp<;>omega)).other _ _ (by simp<;>omega))).other _ _ (by simp<;>omega)).other _ _ (by simp<;>omega)
  clear hw4 aM cj bD cq bj ct bQ cA eP fU eQ fV z1 z2 z3;obtain ⟨aM,bD,cj,cq⟩:=ax D1 (Ext.refl _);have z1:=D1.lt;obtain ⟨bj,bQ,ct,cA⟩:=ax D2 (Ext.refl _);have z2:=D2.lt;obtain ⟨eP,eQ,fU,fV⟩:=ax D3 (Ext.refl _);have z3:=D3.lt;go_region
  go_wp2
  obtain ⟨w5,CR⟩: ∃w5,w5=((((((w4.setCell ⟨w.heap.size+1,0,none⟩ (.bool (decide (X<0)))).setCell ⟨w.heap.size+1,1,none⟩ (.slice a3 (len X.natAbs) c3)).setCell ⟨w.heap.size+1+1,0,none⟩ (.bool (decide (Y<0)))).setCell ⟨w.heap.size+1+1,1,none⟩ (.slice a4 (len Y.natAbs) c4)).setCell ⟨w.heap.size+1+1+1,0,none⟩ (.bool false)).setCell ⟨w.heap.size+1+1+1,1,none⟩ (.slice b j d)).drew:=⟨_,rfl⟩;rw [←CR];have T5:Touch w.heap.size W.heap.size w4 w5:=by rw [CR];exact (((Touch.two _ (by omega) (by rw [Z0.o];omega) _ _).trans (Touch.two _ (by omega) (by rw [Z0.o];omega) _ _)).trans (Touch.two _ (by omega) (by rw [Z0.o];omega) _ _)).drew
  have dr: ∀(wa:World),Ext wa wa.drew:=fun wa=>(Ext.refl wa).drew;have E1:aQ w5 (w.heap.size+1) 117 [.bool (decide (X<0)),.slice a3 (len X.natAbs) c3]:=by rw [CR];exact (((((((D1.set 0 _).set 1 _).other _ _ (by simp<;>omega)).other _ _ (by simp<;>omega)).other _ _ (by simp<;>omega)).other _ _ (by simp<;>omega))).ext (dr _)
  have ZI:aQ w5 (w.heap.size+2) 117 [.bool (decide (Y<0)),.slice a4 (len Y.natAbs) c4]:=by rw [CR];exact ((((((D2.other _ _ (by simp<;>omega)).other _ _ (by simp<;>omega)).set 0 _).set 1 _).other _ _ (by simp<;>omega)).other _ _ (by simp<;>omega)).ext (dr _)
  have E3:aQ w5 (w.heap.size+3) 117 [.bool false,.slice b j d]:=by rw [CR];exact ((((((D3.other _ _ (by simp<;>omega)).other _ _ (by simp<;>omega)).other _ _ (by simp<;>omega)).other _ _ (by simp<;>omega)).set 0 _).set 1 _).ext (dr _)
  clear CR aM cj bD cq bj ct bQ cA eP fU eQ fV z1 z2 z3;obtain ⟨aM,bD,cj,cq⟩:=ax E1 (Ext.refl _);obtain ⟨bj,bQ,ct,cA⟩:=ax ZI (Ext.refl _);obtain ⟨eP,eQ,fU,fV⟩:=ax E3 (Ext.refl _);have F3:Fr W.heap.size a3:=hf3.mono (by rw [Z0.o];omega);have F4:Fr W.heap.size a4:=FL.mono (by rw [Z0.o];omega)
  have fin: ∀w4,Touch w.heap.size W.heap.size w3 w4→Ae (mkRat (aZ s n) m) w (.returned (.tuple #[.agg #[.bool (decide (X<0)),.slice a3 (len X.natAbs) c3],.agg #[.bool (decide (Y<0)),.slice a4 (len Y.natAbs) c4],.agg #[.bool false,.slice b j d]])) w4:=by
   intro w4 t4;have T7:(mkRat (aZ s n) m).floor=X:=by rw [tX _ _ hm,←HX.o];rfl
   have e2:=Hf (aZ s n) m hm;have e3:aZ s n % (m:Int)=Y:=HY.o;rw [e3]at e2;refine ⟨Y,a3,c3,a4,c4,b,j,d,by rw [T7],by rw [T7];exact hr3.bh t4 F3.o,F3.mono x0.size,hr4.bh t4 F4.o,F4.mono x0.size,e2,(E2.trans hx3).mP t4⟩
  exact bodyPost_ret (by simp [results,results166,go_sem,aM,bD,bj,bQ,eP,eQ]) rfl (fin _ (T4.trans T5))
 ·obtain rfl:m=0:=by omega
  go_enter func166,ntmps166
  go_wp2_with fail
  obtain ⟨W,hW,x0,Z0,A0,A1,A2,A3⟩:=uW w 119 [.bool s,.slice a k c,.slice b j d] 117 [.bool false,.slice none 0 0] 117 [.bool false,.slice none 0 0] 117 [.bool false,.slice none 0 0];rw [←hW];clear hW;have aC:=aN A0 (Ext.refl _);have z0:=(A0.ext (Ext.refl _)).lt;obtain ⟨aM,bD,cj,cq⟩:=ax A1 (Ext.refl _);have z1:=(A1.ext (Ext.refl _)).lt;obtain ⟨bj,bQ,ct,cA⟩:=ax A2 (Ext.refl _);have z2:=(A2.ext (Ext.refl _)).lt;obtain ⟨eP,eQ,fU,fV⟩:=ax A3 (Ext.refl _);have z3:=(A3.ext (Ext.refl _)).lt;refine (wj _ _ _ _ _ _ _ _ (g.ext x0)).mono ?_;rintro e w1 ⟨e1,rfl,kK,hfe,hx1⟩;have aC:=aN A0 hx1;have z0:=(A0.ext hx1).lt;obtain ⟨aM,bD,cj,cq⟩:=ax A1 hx1;have z1:=(A1.ext hx1).lt;obtain ⟨bj,bQ,ct,cA⟩:=ax A2 hx1;have z2:=(A2.ext hx1).lt;obtain ⟨eP,eQ,fU,fV⟩:=ax A3 hx1;have z3:=(A3.ext hx1).lt;go_wp2_with fail
  obtain ⟨w2,hw2⟩: ∃w2,w2=((w1.setCell ⟨w.heap.size+1+1+1,0,none⟩ (.bool false)).setCell ⟨w.heap.size+1+1+1,1,none⟩ (.slice e1 1 1)).alloc (Obj.cells #[.bool false,.slice none 0 0] 117):=⟨_,rfl⟩;rw [←hw2];have E2:Ext w w2:=by rw [hw2];exact (Ext.rS (x0.trans hx1) (by omega) _ _).alloc _
  have S2:w2.heap.size=w1.heap.size+1:=by rw [hw2];simp
  have C1:aQ w2 (w.heap.size+1) 117 [.bool false,.slice none 0 0]:=by rw [hw2];exact (((A1.ext hx1).other _ _ (by simp<;>omega)).other _ _ (by simp<;>omega)).ext ((Ext.refl _).alloc _)
  have C2:aQ w2 (w.heap.size+2) 117 [.bool false,.slice none 0 0]:=by rw [hw2];exact (((A2.ext hx1).other _ _ (by simp<;>omega)).other _ _ (by simp<;>omega)).ext ((Ext.refl _).alloc _)
  have C3:aQ w2 (w.heap.size+3) 117 [.bool false,.slice e1 1 1]:=by rw [hw2];exact (((A3.ext hx1).set 0 _).set 1 _).ext ((Ext.refl _).alloc _)
  have re2:Raw w2 e1 1 1 1:=by rw [hw2];exact (kK.bh (Touch.two (lo:=w.heap.size) (hi:=W.heap.size) _ (by omega) (by rw [Z0.o];omega) _ _) hfe.o).ext ((Ext.refl _).alloc _)
  have VL:=hx1.size;rw [Z0.o]at VL;clear hw2 aM cj bD cq bj ct bQ cA eP fU eQ fV aC z0 z1 z2 z3;refine (vX _ _ _ _ _ _ _ _ _ _ _ (Raw.nil _) re2 (by omega) (by rw [kQ];omega)).mono ?_;rintro e w3 ⟨a3,c3,a4,c4,rfl,hr3,hf3,hr4,FL,hx3⟩;obtain ⟨aM,bD,cj,cq⟩:=ax C1 hx3;have z1:=(C1.ext hx3).lt;obtain ⟨bj,bQ,ct,cA⟩:=ax C2 hx3;have z2:=(C2.ext hx3).lt;obtain ⟨eP,eQ,fU,fV⟩:=ax C3 hx3;have z3:=(C3.ext hx3).lt;generalize hX:aZ false 0/aZ false 1=X at*;generalize hY:aZ false 0 % aZ false 1=Y at*;have HX:=ae hX;have HY:=ae hY;clear hX hY
  go_wp2
  obtain ⟨w4,hw4⟩: ∃w4,w4=((((w3.setCell ⟨w.heap.size+1,0,none⟩ (.bool (decide (X<0)))).setCell ⟨w.heap.size+1,1,none⟩ (.slice a3 (len X.natAbs) c3)).setCell ⟨w.heap.size+1+1,0,none⟩ (.bool (decide (Y<0)))).setCell ⟨w.heap.size+1+1,1,none⟩ (.slice a4 (len Y.natAbs) c4)):=⟨_,rfl⟩;rw [←hw4];have T4:Touch w.heap.size W.heap.size w3 w4:=by rw [hw4];exact (Touch.two _ (by omega) (by rw [Z0.o];omega) _ _).trans (Touch.two _ (by omega) (by rw [Z0.o];omega) _ _)
  have D1:aQ w4 (w.heap.size+1) 117 [.bool (decide (X<0)),.slice a3 (len X.natAbs) c3]:=by rw [hw4];exact ((((C1.ext hx3).set 0 _).set 1 _).other _ _ (by simp<;>omega)).other _ _ (by simp<;>omega)
  have D2:aQ w4 (w.heap.size+2) 117 [.bool (decide (Y<0)),.slice a4 (len Y.natAbs) c4]:=by rw [hw4];exact ((((C2.ext hx3).other _ _ (by simp<;>omega)).other _ _ (by simp<;>omega)).set 0 _).set 1 _
  have D3:aQ w4 (w.heap.size+3) 117 [.bool false,.slice e1 1 1]:=by rw [hw4];exact (((((C3.ext hx3).other _ _ (by simp<;>omega)).other _ _ (by simp<;>omega))).other _ _ (by simp<;>omega)).other _ _ (by simp<;>omega)
  clear hw4 aM cj bD cq bj ct bQ cA eP fU eQ fV z1 z2 z3;obtain ⟨aM,bD,cj,cq⟩:=ax D1 (Ext.refl _);have z1:=D1.lt;obtain ⟨bj,bQ,ct,cA⟩:=ax D2 (Ext.refl _);have z2:=D2.lt;obtain ⟨eP,eQ,fU,fV⟩:=ax D3 (Ext.refl _);have z3:=D3.lt;go_region
  go_wp2
  obtain ⟨w5,CR⟩: ∃w5,w5=((((((w4.setCell ⟨w.heap.size+1,0,none⟩ (.bool (decide (X<0)))).setCell ⟨w.heap.size+1,1,none⟩ (.slice a3 (len X.natAbs) c3)).setCell ⟨w.heap.size+1+1,0,none⟩ (.bool (decide (Y<0)))).setCell ⟨w.heap.size+1+1,1,none⟩ (.slice a4 (len Y.natAbs) c4)).setCell ⟨w.heap.size+1+1+1,0,none⟩ (.bool false)).setCell ⟨w.heap.size+1+1+1,1,none⟩ (.slice e1 1 1)).drew:=⟨_,rfl⟩;rw [←CR];have T5:Touch w.heap.size W.heap.size w4 w5:=by rw [CR];exact (((Touch.two _ (by omega) (by rw [Z0.o];omega) _ _).trans (Touch.two _ (by omega) (by rw [Z0.o];omega) _ _)).trans (Touch.two _ (by omega) (by rw [Z0.o];omega) _ _)).drew
  have dr: ∀(wa:World),Ext wa wa.drew:=fun wa=>(Ext.refl wa).drew;have E1:aQ w5 (w.heap.size+1) 117 [.bool (decide (X<0)),.slice a3 (len X.natAbs) c3]:=by rw [CR];exact (((((((D1.set 0 _).set 1 _).other _ _ (by simp<;>omega)).other _ _ (by simp<;>omega)).other _ _ (by simp<;>omega)).other _ _ (by simp<;>omega))).ext (dr _)
  have ZI:aQ w5 (w.heap.size+2) 117 [.bool (decide (Y<0)),.slice a4 (len Y.natAbs) c4]:=by rw [CR];exact ((((((D2.other _ _ (by simp<;>omega)).other _ _ (by simp<;>omega)).set 0 _).set 1 _).other _ _ (by simp<;>omega)).other _ _ (by simp<;>omega)).ext (dr _)
  have E3:aQ w5 (w.heap.size+3) 117 [.bool false,.slice e1 1 1]:=by rw [CR];exact ((((((D3.other _ _ (by simp<;>omega)).other _ _ (by simp<;>omega)).other _ _ (by simp<;>omega)).other _ _ (by simp<;>omega)).set 0 _).set 1 _).ext (dr _)
  clear CR aM cj bD cq bj ct bQ cA eP fU eQ fV z1 z2 z3;obtain ⟨aM,bD,cj,cq⟩:=ax E1 (Ext.refl _);obtain ⟨bj,bQ,ct,cA⟩:=ax ZI (Ext.refl _);obtain ⟨eP,eQ,fU,fV⟩:=ax E3 (Ext.refl _);have F3:Fr W.heap.size a3:=hf3.mono (by rw [Z0.o];omega);have F4:Fr W.heap.size a4:=FL.mono (by rw [Z0.o];omega)
  have fin: ∀w4,Touch w.heap.size W.heap.size w3 w4→Ae (mkRat (aZ s n) 0) w (.returned (.tuple #[.agg #[.bool (decide (X<0)),.slice a3 (len X.natAbs) c3],.agg #[.bool (decide (Y<0)),.slice a4 (len Y.natAbs) c4],.agg #[.bool false,.slice e1 1 1]])) w4:=by
   intro w4 t4;have T7:(mkRat (aZ s n) 0).floor=X:=by rw [Rat.mkRat_zero,←HX.o];rfl
   have e2:Y=0↔(((mkRat (aZ s n) 0).floor:Int):Rat)=mkRat (aZ s n) 0:=by rw [Rat.mkRat_zero,←HY.o];constructor<;>(intro _;rfl)
   refine ⟨Y,a3,c3,a4,c4,e1,1,1,by rw [T7],by rw [T7];exact hr3.bh t4 F3.o,F3.mono x0.size,hr4.bh t4 F4.o,F4.mono x0.size,e2,(E2.trans hx3).mP t4⟩
  exact bodyPost_ret (by simp [results,results166,go_sem,aM,bD,bj,bQ,eP,eQ]) rfl (fin _ (T4.trans T5))
theorem yJ (w:World) (s:Bool) (a b:Option Addr) (k c j d n m:Nat) (h:Raw w a k c n) (g:Raw w b j d m) (b1:len n<100000000) (b2:len m<100000000):
 Calls prog 111 #[.agg #[.bool s,.slice a k c,.slice b j d]] w (bm (mkRat (aZ s n) m).floor w):=by
 go_enter func111,ntmps111
 go_wp2_with fail
 obtain ⟨W,hW,x0,Z0,A0,A1⟩:=er w 119 [.bool s,.slice a k c,.slice b j d] 117 [.bool false,.slice none 0 0];rw [←hW];clear hW;have aC:=aN A0 (Ext.refl _);have z0:=(A0.ext (Ext.refl _)).lt;have aM:=ax A1 (Ext.refl _);have z1:=(A1.ext (Ext.refl _)).lt;refine (Hg _ _ _ _ _ _ _ _ _ _ (h.ext x0) (g.ext x0) b1 b2).mono ?_;rintro e w1 ⟨r,a1,c1,a2,c2,a3,k3,c3,rfl,hr1,iX,hr2,hf2,_,hx1⟩;have aC:=aN A0 hx1;have z0:=(A0.ext hx1).lt;have aM:=ax A1 hx1;have z1:=(A1.ext hx1).lt;go_wp2
 have T:Touch w.heap.size W.heap.size w1 ((w1.setCell ⟨w.heap.size+1,0,none⟩ (.bool (decide ((mkRat (aZ s n) m).floor<0)))).setCell ⟨w.heap.size+1,1,none⟩ (.slice a1 (len (mkRat (aZ s n) m).floor.natAbs) c1)):=Touch.two _ (by omega) (by rw [Z0.o];omega) _ _;refine bodyPost_ret (v:= .agg #[.bool (decide ((mkRat (aZ s n) m).floor<0)),.slice a1 (len (mkRat (aZ s n) m).floor.natAbs) c1]) (by simp [results,results111,go_sem, *]) rfl ?_;exact ⟨a1,c1,rfl,(hr1.bh T iX.o).ext ((((Ext.refl _).alloc _).alloc _).alloc _),iX.mono x0.size,(((x0.bh hx1 T).alloc _).alloc _).alloc _⟩
theorem FN (q:Rat):mR (-q)=mR q:=by unfold mR;rw [Rat.neg_num,Rat.neg_den,Int.natAbs_neg]
theorem Ag (p q:Rat):mR (p+q)≤mR p+mR q+1:=by
 rw [Rat.add_def'];refine Nat.le_trans (oW _ _) ?_;have h1:=qi (p.num*q.den) (q.num*p.den);rw [Int.natAbs_mul,Int.natAbs_mul,Int.natAbs_natCast,Int.natAbs_natCast]at h1;have h2:=lX p.num.natAbs q.den;have h3:=lX q.num.natAbs p.den;have h4:=lX p.den q.den;have a1:=lL p;have a2:=lM p;have a3:=lL q;have a4:=lM q
 omega
theorem Mo (p q:Rat):mR (p-q)≤mR p+mR q+1:=by
 rw [Rat.sub_eq_add_neg];have:=Ag p (-q);rw [FN]at this;exact this
theorem nI (z:Int):mR (z:Rat)=max (len z.natAbs) 1:=by
 unfold mR;rw [Rat.num_intCast,Rat.den_intCast,n4]
theorem gz {z:Int} (h1: -9223372036854775808≤z) (h2:z≤9223372036854775807):len z.natAbs≤2:=fC.2 (by omega)
theorem br.oL {q:Rat} {w w':World} {e:Ending} (h:br q w e w'): ∃r:fG,e= .returned (.agg #[.bool r.s,.slice r.a r.k r.c,.slice r.b r.j r.d])∧ij w' r q (Go.Proofs.YtkpngkdgphojlaaGreat.mR q)∧Fr w.heap.size r.a∧Fr w.heap.size r.b∧Ext w w':=by
 obtain ⟨a,c,a',c',he,hr,hf,qB,hf',hx⟩:=h;refine ⟨⟨decide (q.num<0),a,len q.num.natAbs,c,a',len q.den,c'⟩,he,⟨_,_,hr,qB,?_,lL q,lM q⟩,hf,hf',hx⟩;rw [fQ,Rat.mkRat_self]
theorem gA.oL {w:World} {r:fG} {q:Rat} {B:Nat} (h:gA w r q B):ij w r q (Go.Proofs.YtkpngkdgphojlaaGreat.mR q):=
 ⟨_,_,h.num,h.den,by rw [h.s,fQ,Rat.mkRat_self],lL q,lM q⟩
theorem br.oM {q:Rat} {w w':World} {e:Ending} (h:br q w e w'): ∃r:fG,e= .returned (.agg #[.bool r.s,.slice r.a r.k r.c,.slice r.b r.j r.d])∧gA w' r q w.heap.size∧Ext w w':=by
 obtain ⟨a,c,a',c',he,hr,hf,qB,hf',hx⟩:=h;exact ⟨⟨decide (q.num<0),a,len q.num.natAbs,c,a',len q.den,c'⟩,he,⟨rfl,rfl,rfl,hr,qB,hf,hf'⟩,hx⟩
theorem gA.Kl {w w':World} {r:fG} {q:Rat} (h:gA w' r q w.heap.size) (hx:Ext w w'):br q w (.returned (.agg #[.bool r.s,.slice r.a r.k r.c,.slice r.b r.j r.d])) w':=by
 refine ⟨r.a,r.c,r.b,r.d,by rw [h.s,h.k,h.j],?_,h.fa,?_,h.fb,hx⟩
 ·have:=h.num;rwa [h.k]at this
 ·have:=h.den;rwa [h.j]at this
def dF (l:List Rat):Rat:=l.foldl (· + ·) 0
theorem py {l:List Rat} {i:Nat} (h:i<l.length):dF (l.take (i+1))=dF (l.take i)+l[i]:=by
 unfold dF;rw [List.take_succ_eq_append_getElem h,List.foldl_append];rfl
theorem Mp (w:World) (a:Option Addr) (c:Nat) (rs:List fG) (qs:List Rat) (L:Nat) (h:mS w a c rs qs L) (hb:rs.length*(L+2)+L+1<100000000):
 Calls prog 109 #[.slice a rs.length c] w (br (dF qs) w):=by
 have hle:=h.le;have dQ:=h.cap;have MT:=h.short;go_enter func109,ntmps109
 go_wp2_with fail
 obtain ⟨W,hW,x0,Z0,A0⟩:=aX w 119 [.bool false,.slice none 0 0,.slice none 0 0];rw [←hW];clear hW;have aC:=aN A0 (Ext.refl _);have z0:=(A0.ext (Ext.refl _)).lt;refine (lW _ _ (by decide) (by decide)).mono ?_;intro e w1 hN;obtain ⟨r1,rfl,hr1,hx1⟩:=hN.oM;have aC:=aN A0 hx1;have z0:=(A0.ext hx1).lt;go_wp2
 obtain ⟨w2,hw2⟩: ∃w2,w2=w1.alloc (Obj.cells #[.bool r1.s,.slice r1.a r1.k r1.c,.slice r1.b r1.j r1.d] 119):=⟨_,rfl⟩;rw [←hw2];have E2:Ext w w2:=by rw [hw2];exact (x0.trans hx1).alloc _
 have P2:aQ w2 w1.heap.size 119 r1.cells:=by rw [hw2];exact aQ.alloc _ _ _
 have R2:gA w2 r1 (dF (qs.take 0)) (w.heap.size+1):=by rw [hw2,←Z0.o];exact hr1.ext ((Ext.refl _).alloc _)
 have Q2:mR (dF (qs.take 0))≤2:=by show mR (((0:Int):Rat))≤2;rw [nI];decide
 have C2:aQ w2 w.heap.size 119 [.bool false,.slice none 0 0,.slice none 0 0]:=by rw [hw2];exact (A0.ext hx1).ext ((Ext.refl _).alloc _)
 have S1:w.heap.size<w1.heap.size:=z0;clear hw2 aC z0 hr1 hN;go_loopw [9] (fun ii wr=> ∃(i:Nat) (r:fG),i≤rs.length∧Hid (aQ wr w1.heap.size 119 r.cells)∧gA wr r (dF (qs.take i)) (w.heap.size+1)∧Hid (mR (dF (qs.take i))≤i*(L+2)+2)∧Hid (aQ wr w.heap.size 119 [.bool false,.slice none 0 0,.slice none 0 0])∧Ext w wr∧ii= .int .i64 i) (fun ii _=>rs.length-(intOf ii).toNat)
 case atStart=>exact ⟨0,r1,Nat.zero_le _,P2,R2,Nat.le_trans Q2 (by omega),C2,E2,rfl⟩
 case round=>
  obtain ⟨i,r,hi,hP,hR,hS,hC,hE,rfl⟩:=hrel;by_cases hlt:i<rs.length
  ·have hq:=h.ext hE
   obtain ⟨b,o,rfl⟩:=h.at (by omega);obtain ⟨b',o',e',c0,c1,c2⟩:=hq.cell i hlt;cases e'
   obtain ⟨n',m',g1,g2,gq,VQ,VR⟩:=hq.num i hlt;obtain ⟨n,m,f1,f2,fq,fl1,fl2⟩:=hR.oL.mono hS.o
   have hmul:i*(L+2)+(L+2)≤rs.length*(L+2):=by
    rw [←Nat.succ_mul];exact Nat.mul_le_mul_right _ hlt
   generalize rs[i]=y at*;have FQ:=ae fq;have GQ:=ae gq;clear fq gq
   have p0:=aN hP.o (Ext.refl _);have pz:=hP.o.lt;have cz:=hC.o.lt;go_wp2_with fail
   refine (FM _ _ _ _ _ _ _ _ _ _ (f1.ext ((Ext.refl _).alloc _)) (f2.ext ((Ext.refl _).alloc _)) _ _ _ _ _ _ _ _ _ (g1.ext ((Ext.refl _).alloc _)) (g2.ext ((Ext.refl _).alloc _)) (by omega) (by omega) (by omega) (by omega)).mono ?_;intro e w3 hN;rw [←FQ.o,←GQ.o]at hN;obtain ⟨r3,rfl,hr3,hx3⟩:=hN.oM;have p0:=aN hP.o (((Ext.refl _).alloc _).trans hx3);have pz3:=(hP.o.ext (((Ext.refl _).alloc _).trans hx3)).lt;have Qz:=hP.o.ext (((Ext.refl _).alloc _).trans hx3);have hC3:=hC.o.ext (((Ext.refl _).alloc _).trans hx3)
   have szq:mR (dF (qs.take i)+qs[i]'(by rw [h.len];exact hlt))≤(i+1)*(L+2)+2:=by
    have a1:=Ag (dF (qs.take i)) (qs[i]'(by rw [h.len];exact hlt));have a2:=hS.o;have a3:=ij.mR ⟨n',m',g1,g2,GQ.o,VQ,VR⟩;rw [Nat.succ_mul];omega
   have SZ:=ae szq;clear szq
   have hsz:w1.heap.size<(wr.alloc (Obj.cells #[.bool y.s,.slice y.a y.k y.c,.slice y.b y.j y.d] 119)).heap.size:=by simp;omega
   go_wp2
   go_roundw
   case rel=>
    refine ⟨i+1,r3,by omega,?_,?_,?_,?_,Ext.Cr ((hE.alloc _).trans hx3) (by omega) _ _ _,by go_num⟩
    ·exact (((Qz.set 0 _).set 1 _).set 2 _)
    ·rw [py (by rw [h.len];exact hlt)]
     exact (((hr3.setCell _ _ hsz).setCell _ _ hsz).setCell _ _ hsz).mono (by simp;omega)
    ·rw [py (by rw [h.len];exact hlt)];exact SZ.o
    ·exact ((hC3.other _ _ (by simp;omega)).other _ _ (by simp;omega)).other _ _ (by simp;omega)
   case measure=>simp [intOf];omega
  ·obtain rfl:i=rs.length:=by omega
   rw [show qs.take rs.length=qs from List.take_of_length_le (by rw [h.len];exact Nat.le_refl _)]at hR;have p0:=aN hP.o (Ext.refl _);have q0:=aN hC.o (Ext.refl _);go_wp2
   exact bodyPost_ret (by simp [results,results109,go_sem, *]) rfl (gA.Kl ((((hR.setCell _ _ (Nat.lt_succ_self _)).setCell _ _ (Nat.lt_succ_self _)).setCell _ _ (Nat.lt_succ_self _)).mono (Nat.le_succ _)) (Ext.Cr hE (Nat.le_refl _) _ _ _))
def oN:List Value:= [.bool false,.slice none 0 0,.slice none 0 0]
def gY:Nat→List Value
 |0=> []
 |n+1=>oN++gY n
theorem xJ (n:Nat):(gY n).length=n*3:=by
 induction n with
 |zero=>rfl
 |succ n ih=>unfold gY;rw [List.length_append,ih];simp [oN];omega
theorem Er (n i:Nat) (h:i<n*3):(gY n)[i]?=oN[i % 3]?:=by
 induction n generalizing i with
 |zero=>omega
 |succ n ih=>
  unfold gY;by_cases hi:i<3
  ·rw [List.getElem?_append_left (by simpa [oN]using hi),Nat.mod_eq_of_lt hi]
  ·rw [List.getElem?_append_right (by simp [oN];omega)]
   have:oN.length=3:=rfl;rw [this,ih (i-3) (by omega)];congr 1;omega
theorem uw (n:Nat):madeCells oN.toArray (n*3)=(gY n).toArray:=by
 apply Array.ext_getElem?;intro i;unfold madeCells;by_cases h:i<n*3
 ·rw [Array.getElem?_map,Array.getElem?_range,List.getElem?_toArray,Er n i h]
  simp only [h,if_true,Option.map_some];have h3:i % 3<3:=Nat.mod_lt _ (by decide);have hz:oN.toArray.size=3:=rfl;rw [hz];generalize i % 3=k at h3⊢;match k,h3 with
  |0,_=>rfl
  |1,_=>rfl
  |2,_=>rfl
 ·rw [Array.getElem?_eq_none (by simp;omega),List.getElem?_toArray,List.getElem?_eq_none (by rw [xJ];omega)]
theorem Tryz.info_rat:(Tryz.prog.info? 119).map (fun i=>(i.zero,i.size,i.bytes))=some (some (.agg oN.toArray),3,56):=by kernel_rfl
def ep (l:List fG):List Value:=l.flatMap fG.cells
theorem gU (l:List fG):(ep l).length=l.length*3:=by
 induction l with
 |nil=>rfl
 |cons r l ih=>simp only [ep,List.flatMap_cons,List.length_append,fG.cells,List.length_cons,List.length_nil]at*;omega
theorem gN (l:List fG) (i k:Nat) (h:i<l.length) (hk:k<3):(ep l)[i*3+k]?=(l[i].cells)[k]?:=by
 induction l generalizing i with
 |nil=>simp at h
 |cons r l ih=>
  have e:ep (r::l)=r.cells++ep l:=by simp [ep]
  rw [e];have hc:r.cells.length=3:=rfl;cases i with
  |zero=>rw [List.getElem?_append_left (by omega)];simp
  |succ i=>
   rw [List.getElem?_append_right (by omega),hc,show(i+1)*3+k-3=i*3+k from by omega,ih i (by simpa using h)];simp
theorem FO (N m b:Nat) (hm:0<m) (hb:b<2):
 (m≤2*(N % m)+b→(2*N+b)/m=2*(N/m)+1∧(2*N+b) % m=2*(N % m)+b-m)∧
 (¬m≤2*(N % m)+b→(2*N+b)/m=2*(N/m)∧(2*N+b) % m=2*(N % m)+b):=by
 have h1:=Nat.div_add_mod N m;have h2:=Nat.mod_lt N hm;generalize N/m=q at*;generalize N % m=r at*;constructor
 ·intro h
  have e:2*N+b=(2*r+b-m)+m*(2*q+1):=by
   rw [←h1,Nat.mul_add m,Nat.mul_left_comm m 2];omega
  rw [e,Nat.add_mul_div_left _ _ hm,Nat.add_mul_mod_self_left,Nat.div_eq_of_lt (by omega),Nat.mod_eq_of_lt (by omega)];exact ⟨by omega,rfl⟩
 ·intro h
  have e:2*N+b=(2*r+b)+m*(2*q):=by
   rw [←h1,Nat.mul_left_comm m 2];omega
  rw [e,Nat.add_mul_div_left _ _ hm,Nat.add_mul_mod_self_left,Nat.div_eq_of_lt (by omega),Nat.mod_eq_of_lt (by omega)];exact ⟨by omega,rfl⟩
theorem Hh (n i:Nat):n/2^i=2*(n/2^(i+1))+n/2^i % 2:=by
 rw [Nat.pow_succ,←Nat.div_div_eq_div_mul];omega
theorem Mq {l:List Nat} (hs:Small l) {t:Nat} (ht:t<l.length):limb l t=val l/4294967296^t % 4294967296:=by
 have e:=iE l t ht;have hv:=gG hs (t:=t) (by omega);rw [e,Nat.add_mul_div_left _ _ (Nat.pow_pos (by decide)),Nat.div_eq_of_lt hv,Nat.zero_add,Nat.add_mul_mod_self_left,Nat.mod_eq_of_lt (bN hs t)]
theorem Mr {l:List Nat} (hs:Small l) {i Q:Nat} (hv:val l=Q*2^(i+1)) (hi:i/32<l.length):
 limb l (i/32)|||2^(i % 32)<4294967296∧val (l.set (i/32) (limb l (i/32)|||2^(i % 32)))=Q*2^(i+1)+2^i:=by
 have hk:i % 32<32:=Nat.mod_lt _ (by decide);have T8:=Mq hs hi
 have e1:Q*2^(i+1)=4294967296^(i/32)*(Q*2^(i % 32+1)):=by
  rw [pow_eq,Nat.mul_left_comm,←Nat.pow_add];congr 2;omega
 have e2:2^i=4294967296^(i/32)*2^(i % 32):=by
  rw [pow_eq,←Nat.pow_add];congr 1;omega
 rw [hv,e1,Nat.mul_div_cancel_left _ (Nat.pow_pos (by decide))]at T8;have hval:=zX hi (limb l (i/32)|||2^(i % 32));rw [hv,e1]at hval;rw [e1,e2];generalize i % 32=k at*;generalize i/32=t at*;have e3:(4294967296:Nat)=2^(k+1)*2^(31-k):=by rw [←Nat.pow_add,show k+1+(31-k)=32 from by omega]
 have e4:limb l t=2^(k+1)*(Q % 2^(31-k)):=by
  rw [T8];conv=>lhs;rw [e3]
  rw [Nat.mul_comm Q,Nat.mul_mod_mul_left]
 have e5:limb l t|||2^k=limb l t+2^k:=by
  rw [e4,Nat.two_pow_add_eq_or_of_lt (Nat.pow_lt_pow_right (by decide) (by omega))]
 have h6:=Nat.mod_lt Q (Nat.two_pow_pos (31-k));have h7:=Nat.mul_le_mul_left (2^(k+1)) (show Q % 2^(31-k)+1≤2^(31-k)from h6);rw [←e3,Nat.mul_add,Nat.mul_one,←e4]at h7;have h8:2^k<2^(k+1):=Nat.pow_lt_pow_right (by decide) (by omega);refine ⟨by rw [e5];omega,?_⟩;rw [e5]at hval⊢;rw [Nat.mul_add (4294967296^t)]at hval;omega
theorem eK (w:World) (a:Option Addr) (k c n:Nat) (h:Raw w a k c n):
 Calls prog 211 #[.slice a k c] w (iZ n w):=by
 have hR:=h;obtain ⟨l,rfl,rfl,h⟩:=h;have h1:=h.le;have h2:=h.cap;have h3:=h.short;go_enter func211,ntmps211
 go_wp2
 go_loop [3] (fun i=> ∃k:Nat,k≤l.length∧val (l.take k)=val l∧i= .int .i64 k) (fun i=>(intOf i).toNat)
 case atStart=>exact ⟨_,Nat.le_refl _,by rw [List.take_length],rfl⟩
 case round=>
  obtain ⟨k,hk,hv,rfl⟩:=hrel;have HV:=ae hv;clear hv
  have fin:len (val l)=k→ ∀v' w',(w'.ownsRow w.heap.size 185 1 v' (0+k) ([]++cV (l.take k)))→Ext w w'→iZ (val l) w (.returned v') w':=by
   intro e v' w' ho he;rw [List.nil_append,Nat.zero_add]at ho;obtain ⟨a',c',rfl,_,hL,hF⟩:=wS ho (h.small.take k) (by rw [List.length_take];omega);refine ⟨a',c',by rw [e],?_,hF,he⟩;rw [e];exact ⟨l.take k,by rw [List.length_take];omega,HV.o,hL⟩
  have Pw:=ae fin;clear fin
  by_cases h0:0<k
  ·obtain ⟨b,o,rfl⟩:=h.at (by omega)
   have hc:=h.cellAt (k-1) (by omega);by_cases hz:limb l (k-1)=0
   ·have hz':((limb l (k-1):Nat):Int)=0:=by omega
    rw [hz']at hc;have HZ:=ae hz;clear hz hz'
    go_wp2
    go_round
    case rel=>
     refine ⟨k-1,by omega,?_,by go_num⟩;have:=bR (l:=l) (k:=k-1) (by omega);rw [HZ.o,show k-1+1=k from by omega,HV.o]at this;rw [this];simp
    case measure=>simp [intOf];omega
   ·have hz':(((limb l (k-1):Nat):Int)==0)=false:=by rw [beq_eq_false_iff_ne];omega
    have e:len (val l)=k:=by
     rw [←HV.o];have:=FA (h.small.take k) (by rw [List.length_take];omega) (by rw [List.length_take,Nat.min_eq_left hk,sw (by omega)];exact hz);rw [this,List.length_take,Nat.min_eq_left hk]
    have E:=ae e;clear e
    have HZ:=ae hz;clear hz
    have hT:=(h.take k hk);go_wp2_with (at_builtin;refine jk _ rfl _ _ 115 rfl w.heap.size 185 (.int .u32 0) 1 4 underlying115 Tryz.info_u32 rfl (by decide) _ 0 [] rfl ?c1 _ k c (cV (l.take k)) rfl ?c2 ?c3 (qA _) ?c4 ?c5 (by decide) ?c6 ?_;rotate_right;intro v' w' ho he hb hz)
    case c1=>exact l9 _ _ _ _ (Nat.le_refl _) (aQ.alloc w _ [])
    case c2=>rw [ig,List.length_take];omega
    case c3=>
     intro j u hu;obtain ⟨ad,e,hh⟩:=(hT.ext ((Ext.refl w).alloc (.cells #[] 185))).src (by rw [List.length_take];omega);cases e
     have hh':=hh j u hu;by_cases hj:j=0<;>simpa [Addr.add,hj]using hh'
    case c5=>omega
    go_ret;exact Pw.o E.o _ _ ho.o (he.o w ((Ext.refl _).alloc _) (Nat.le_refl _))
  ·obtain rfl:k=0:=by omega
   have e:len (val l)=0:=by rw [←HV.o];rfl
   have E:=ae e;clear e
   rcases a with _|⟨b,o⟩
   ·have hl0:l.length=0:=by
     rcases Nat.eq_zero_or_pos l.length with e|e
     ·exact e
     ·obtain ⟨b,o,e'⟩:=h.at e;cases e'
    have hc0:=h.Ia rfl;subst hc0;go_wp2_with (at_builtin;refine jk _ rfl _ _ 115 rfl w.heap.size 185 (.int .u32 0) 1 4 underlying115 Tryz.info_u32 rfl (by decide) _ 0 [] rfl ?d1 _ 0 0 (cV (l.take 0)) rfl ?d2 ?d3 (qA _) ?d4 ?d5 (by decide) ?d6 ?_;rotate_right;intro v' w' ho he hb hz)
    case d1=>exact l9 _ _ _ _ (Nat.le_refl _) (aQ.alloc w _ [])
    go_ret;exact Pw.o E.o _ _ ho.o (he.o w ((Ext.refl _).alloc _) (Nat.le_refl _));rfl
   ·go_wp2_with (at_builtin;refine jk _ rfl _ _ 115 rfl w.heap.size 185 (.int .u32 0) 1 4 underlying115 Tryz.info_u32 rfl (by decide) _ 0 [] rfl ?e1 _ 0 c (cV (l.take 0)) rfl ?e2 ?e3 (qA _) ?e4 ?e5 (by decide) ?e6 ?_;rotate_right;intro v' w' ho he hb hz)
    case e1=>exact l9 _ _ _ _ (Nat.le_refl _) (aQ.alloc w _ [])
    go_ret;exact Pw.o E.o _ _ ho.o (he.o w ((Ext.refl _).alloc _) (Nat.le_refl _));rfl
theorem j9 (w:World) (n:Nat) (hn:n<18446744073709551616):
 Calls prog 176 #[.int .u64 (n:Nat)] w (iZ n w):=by
 have hr:Raw (w.alloc (Obj.cells #[.int .u32 ((n:Int) % 4294967296),.int .u32 ((n:Int)/4294967296)] 185)) (some ⟨w.heap.size,0,none⟩) 2 2 n:=by
  have ha:=aQ.alloc w 185 (cV [n % 4294967296,n/4294967296]);exact ⟨_,rfl,by simp [val];omega,ha.limbs (Small.append (l:= [_]) (m:= [_]) (Small.one (by omega)) (Small.one (by omega))) (by simp)⟩
 go_enter func176,ntmps176
 go_wp2_with fail
 refine (eK _ _ _ _ _ hr).mono ?_;rintro e w' ⟨a,c,rfl,h1,h2,h3⟩;go_wp2
 go_ret;exact ⟨_,_,rfl,h1,h2.mono (by simp),((Ext.refl _).alloc _).trans h3⟩
theorem j_ (w:World) (a:Option Addr) (k c n:Nat) (h:Raw w a k c n) (hn:n<18446744073709551616):
 Calls prog 224 #[.slice a k c] w fun e w'=>e= .returned (.tuple #[.int .u64 (n:Nat),.bool true])∧Ext w w':=by
 have h2:=fC.2 hn;go_enter func224,ntmps224
 go_wp2_with fail
 refine (eK _ _ _ _ _ h).mono ?_;rintro e w' ⟨a',c',rfl,hR,hF,hX⟩;have hE:=ae hX;clear hX hn
 obtain ⟨l,hl,rfl,hL⟩:=hR;have hs:=hL.small;rw [←hl]at h2⊢;clear hl;rcases l with _|⟨x,_|⟨y,_|⟨z,l⟩⟩⟩
 ·have h:=hL
  go_wp2
  refine wp_loop_rounds 1 ?_;rw [rounds_succ]
  go_wp2
  go_ret2
  exact ⟨rfl,hE.o⟩
 ·have h:=hL
  obtain ⟨b,o,rfl⟩:=h.at (by simp);have hc:=h.cellAt 0 (by simp);have hx:=hs x (by simp);simp [limb]at hc;go_wp2
  refine wp_loop_rounds 2 ?_;rw [rounds_succ]
  go_wp2
  rw [rounds_succ];go_wp2
  go_ret2
  refine ⟨?_,hE.o⟩;simp [Array.getD,val];exact or_zero x (by omega)
 ·have h:=hL
  obtain ⟨b,o,rfl⟩:=h.at (by simp);have hc:=h.cellAt 0 (by simp);have hc1:=h.cellAt 1 (by simp);have hx:=hs x (by simp);have hy:=hs y (by simp);simp [limb]at hc hc1;go_wp2
  refine wp_loop_rounds 3 ?_;rw [rounds_succ]
  go_wp2
  rw [rounds_succ];go_wp2
  rw [rounds_succ];go_wp2
  go_ret2
  refine ⟨?_,hE.o⟩;simp [Array.getD,val];rw [or_zero y (by omega)]
  have e:IntKind.u64.wrap ((y:Int)*4294967296)=(y:Int)*4294967296:=by
   rw [IntKind.wrap_u64];omega
  rw [e,AG y x hy hx];omega
 ·simp at h2
theorem rV (w:World) (a:Option Addr) (k c n:Nat) (h:Raw w a k c n) (hn:18446744073709551616≤n):
 Calls prog 224 #[.slice a k c] w fun e w'=>e= .returned (.tuple #[.int .u64 0,.bool false])∧Ext w w':=by
 have h2:2<len n:=by have:= @fC n;omega
 have hl:=h.cut.le;go_enter func224,ntmps224
 go_wp2_with fail
 refine (eK _ _ _ _ _ h).mono ?_;rintro e w' ⟨a',c',rfl,hR,hF,hX⟩;have hE:=ae hX;clear hX hn
 go_wp2
 go_ret2
 exact ⟨rfl,hE.o⟩
theorem wk (w:World) (a b:Option Addr) (k k' c c' n m:Nat) (ha:Raw w a k c n) (hb:Raw w b k' c' m):
 Calls prog 235 #[.slice a k c,.slice b k' c'] w fun e w'=>e= .returned (.int .i64 (fc n m))∧Ext w w':=by
 go_enter func235,ntmps235
 go_wp2_with fail
 refine (eK _ _ _ _ _ ha).mono ?_;rintro e w1 ⟨a1,c1,rfl,VS,Qe,Jh⟩;go_wp2_with fail
 refine (eK _ _ _ _ _ (hb.ext Jh)).mono ?_;rintro e w2 ⟨b1,d1,rfl,vO,hF2,Ji⟩;have ha':=VS.ext Ji;have hb':=vO;have la:=ha'.le;have lb:=hb'.le;have HX:=ae (Jh.trans Ji);by_cases hne:len n=len m
 ·obtain ⟨l,hl,hv,hA⟩:=ha'
  obtain ⟨l',hl',hv',hB⟩:=hb';have s1:=hA.small;have s2:=hB.small;have Eb:(((len n:Nat):Int) !=((len m:Nat):Int))=false:=by simp [hne]
  rw [←hne]at hl' lb Eb;have HL:=ae hl;have kn:=ae hl';have HV:=ae hv;have Cb:=ae hv';have HN:=ae hne
  clear hl hl' hv hv' hne;rw [←HN.o];go_wp2
  go_loopw [5] (fun i wr=> ∃j:Nat,j≤len n∧l.drop j=l'.drop j∧i= .int .i64 ((j:Int)-1)∧Quiet w2 wr) (fun i _=>(intOf i+1).toNat)
  case atStart=>exact ⟨len n,Nat.le_refl _,by rw [List.drop_of_length_le (by rw [HL.o];exact Nat.le_refl _),List.drop_of_length_le (by rw [kn.o];exact Nat.le_refl _)],rfl,Quiet.refl _⟩
  case round=>
   obtain ⟨j,hj,hd,rfl,hq⟩:=hrel;have HD:=ae hd;clear hd
   by_cases h0:0<j
   ·obtain ⟨i,rfl⟩: ∃i,j=i+1:=⟨j-1,by omega⟩
    rw [show(((i+1:Nat):Int)-1)=(i:Int)from by omega];obtain ⟨p,o,rfl⟩:=hA.at (by rw [HL.o];omega);obtain ⟨p',o',rfl⟩:=hB.at (by rw [kn.o];omega);have hc:=(hA.ext hq.ext).cellAt i (by rw [HL.o];omega);have hc':=(hB.ext hq.ext).cellAt i (by rw [kn.o];omega);have hx:=bN s1 i;have hy:=bN s2 i;have g1:(i:Int)<(len n:Int):=by omega
    have g2:(0:Int)≤(i:Int):=by omega
    by_cases c1:limb l i<limb l' i
    ·have d1:decide (((limb l i:Nat):Int)<((limb l' i:Nat):Int))=true:=by simp;omega
     go_wp2
     go_quiet (fail)
     go_wp2
     go_ret;refine ⟨cd ?_,HX.o.trans (hq.drewN _).ext⟩;have:=pg s1 (k:=i) (by rw [HL.o];omega) (by rw [kn.o];omega) (by rw [HD.o]) c1;rw [HV.o,Cb.o]at this;unfold fc;rw [if_pos this]
    ·by_cases c2:limb l' i<limb l i
     ·have d1:decide (((limb l i:Nat):Int)<((limb l' i:Nat):Int))=false:=by simp;omega
      have d2:decide (((limb l' i:Nat):Int)<((limb l i:Nat):Int))=true:=by simp;omega
      go_wp2
      go_quiet (fail)
      go_wp2
      go_quiet (fail)
      go_wp2
      go_ret;refine ⟨cd ?_,HX.o.trans ((hq.drewN _).drewN _).ext⟩;have:=pg s2 (k:=i) (by rw [kn.o];omega) (by rw [HL.o];omega) (by rw [HD.o]) c2;rw [HV.o,Cb.o]at this;unfold fc;rw [if_neg (by omega),if_neg (by omega)]
     ·have d1:decide (((limb l i:Nat):Int)<((limb l' i:Nat):Int))=false:=by simp;omega
      have d2:decide (((limb l' i:Nat):Int)<((limb l i:Nat):Int))=false:=by simp;omega
      go_wp2
      go_quiet (fail)
      go_wp2
      go_quiet (fail)
      go_wp2
      go_roundw
      case rel=>
           refine ⟨i,by omega,?_,rfl,hq.drewN _⟩;have e1:limb l i=limb l' i:=by omega
           have e2:i<l.length:=by rw [HL.o];omega
           have e3:i<l'.length:=by rw [kn.o];omega
           rw [List.drop_eq_getElem_cons e2,List.drop_eq_getElem_cons e3,HD.o];simp only [limb,List.getElem?_eq_getElem e2,List.getElem?_eq_getElem e3,Option.getD_some]at e1;rw [e1]
      case measure=>simp [intOf]
   ·obtain rfl:j=0:=by omega
    go_wp2
    go_ret;refine ⟨cd ?_,HX.o.trans hq.ext⟩;have:n=m:=by rw [←HV.o,←Cb.o];have:=HD.o;simp at this;rw [this]
    unfold fc;rw [if_neg (by omega),if_pos this]
 ·have Eb:(((len n:Nat):Int) !=((len m:Nat):Int))=true:=by simp;omega
  by_cases hlt:len n<len m
  ·go_wp2
   go_ret;refine ⟨cd ?_,HX.o⟩
   have:n<m:=by
    apply Nat.lt_of_not_le;intro h;have:=cM h;omega
   unfold fc;rw [if_pos this]
  ·go_wp2
   go_ret;refine ⟨cd ?_,HX.o⟩
   have:m<n:=by
    apply Nat.lt_of_not_le;intro h;have:=cM h;omega
   unfold fc;rw [if_neg (by omega),if_neg (by omega)]
theorem Cv (w:World) (a b:Option Addr) (c c':Nat) (l l':List Nat) (hA:eG w a c l) (hB:eG w b c' l'):
 Calls prog 171 #[.slice a l.length c,.slice b l'.length c'] w fun e w'=>e= .returned (.bool (decide (l=l')))∧Quiet w w':=by
 have s1:=hA.small;have s2:=hB.small;have h1:=hA.le;have h2:=hA.short;have h3:=hB.short;by_cases hne:l.length=l'.length
 ·have Eb:(((l.length:Nat):Int) !=((l'.length:Nat):Int))=false:=by simp [hne]
  have HN:=ae hne;clear hne
  go_enter func171,ntmps171
  go_wp2
  go_loopw [5] (fun i wr=> ∃j:Nat,j≤l.length∧l.take j=l'.take j∧i= .int .i64 (j:Int)∧Quiet w wr) (fun i _=>l.length-(intOf i).toNat)
  case atStart=>exact ⟨0,Nat.zero_le _,by simp,rfl,Quiet.refl _⟩
  case round=>
   obtain ⟨j,hj,hd,rfl,hq⟩:=hrel;have HD:=ae hd;clear hd
   by_cases h0:j<l.length
   ·obtain ⟨p,o,rfl⟩:=hA.at (by omega)
    obtain ⟨p',o',rfl⟩:=hB.at (by rw [←HN.o];omega);have hc:=(hA.ext hq.ext).cellAt j (by omega);have hc':=(hB.ext hq.ext).cellAt j (by rw [←HN.o];omega);have g1:(j:Int)<(l.length:Int):=by omega
    have g1':(j:Int)<(l'.length:Int):=by rw [←HN.o];omega
    have g2:(0:Int)≤(j:Int):=by omega
    by_cases c1:limb l j=limb l' j
    ·have d1:(((limb l j:Nat):Int) !=((limb l' j:Nat):Int))=false:=by simp;omega
     go_wp2
     go_quiet (fail)
     go_wp2
     go_roundw
     case rel=>
      refine ⟨j+1,by omega,?_,by go_num,hq.drewN _⟩;rw [tx h0,tx (by rw [←HN.o];exact h0),HD.o,c1]
     case measure=>simp [intOf];omega
    ·have d1:(((limb l j:Nat):Int) !=((limb l' j:Nat):Int))=true:=by simp;omega
     go_wp2
     go_quiet (fail)
     go_wp2
     go_ret
     have:decide (l=l')=false:=by
      rw [decide_eq_false_iff_not];intro e;exact c1 (by rw [e])
     exact ⟨by rw [this];rfl,hq.drewN _⟩
   ·obtain rfl:j=l.length:=by omega
    go_wp2
    go_ret
    have:decide (l=l')=true:=by
     rw [decide_eq_true_iff];have:=HD.o;rwa [List.take_length,HN.o,List.take_length]at this
    exact ⟨by rw [this];rfl,hq⟩
 ·have Eb:(((l.length:Nat):Int) !=((l'.length:Nat):Int))=true:=by simp;omega
  go_enter func171,ntmps171
  go_wp2
  go_ret
  have:decide (l=l')=false:=by
   rw [decide_eq_false_iff_not];intro e;exact hne (by rw [e])
  exact ⟨by rw [this];rfl,Quiet.refl _⟩
theorem oO (l:List Nat) (k:Nat):val (l.take (k+1))=val (l.take k)+4294967296^k*limb l k:=by
 by_cases h:k<l.length
 ·exact bR h
 ·rw [List.take_of_length_le (by omega),List.take_of_length_le (by omega),fF (by omega)];simp
theorem yK {L M r:List Nat} {i cy:Nat} (hr:r.length=i) (hv:val r+4294967296^i*cy=val (L.take i)+val (M.take i)):
 val (r++ [(cy+limb L i+limb M i) % 4294967296])+4294967296^(i+1)*((cy+limb L i+limb M i)/4294967296)=val (L.take (i+1))+val (M.take (i+1)):=by
 rw [cI,eA,hr,oO L,oO M,Nat.pow_succ,Nat.mul_assoc];generalize 4294967296^i=p at*
 have e2:p*((cy+limb L i+limb M i) % 4294967296)+p*(4294967296*((cy+limb L i+limb M i)/4294967296))=p*cy+p*limb L i+p*limb M i:=by
  rw [←Nat.mul_add,Nat.mod_add_div,Nat.mul_add,Nat.mul_add]
 omega
theorem wm {w:World} {b K j:Nat} {T:TypeId} {r:List Nat} (h:aQ w b T (cV (r++List.replicate (K-j) 0))) (hr:r.length=j) (hj:j<K) (x:Nat):aQ (w.setCell ⟨b,j,none⟩ (.int .u32 (x:Nat))) b T (cV ((r++ [x])++List.replicate (K-(j+1)) 0)):=by
 have:=h.set j (.int .u32 (x:Nat));rw [fo,List.set_append_right _ _ (by rw [hr];exact Nat.le_refl _),hr,Nat.sub_self,show K-j=(K-(j+1))+1 from by omega,List.replicate_succ,List.set_cons_zero]at this;rw [List.append_assoc];exact this
theorem wu {w:World} {b K j:Nat} {T:TypeId} {r:List Nat} (h:aQ w b T (cV (r++List.replicate (K-j) 0))) (hr:r.length=j) (hj:j<K):w.cell? ⟨b,j,none⟩=some (.int .u32 0):=by
 rw [h.cell,et _ _ (by simp [hr];omega)];simp [limb,hr,show 0<K-j from by omega]
theorem carry_zero {l l':List Nat} (s1:Small l) (s2:Small l') {M q x:Nat} (h1:l.length≤M) (h2:l'.length≤M) (hv:x+4294967296^(M+1)*q=val l+val l'):q=0:=by
 have v1:=jh s1;have v2:=jh s2;have p1:=Nat.pow_le_pow_right (show 0<4294967296 by decide) h1;have p2:=Nat.pow_le_pow_right (show 0<4294967296 by decide) h2;rcases Nat.eq_zero_or_pos q with e|e
 ·exact e
 ·rw [Nat.pow_succ]at hv
  generalize 4294967296^M=z at*;have:=Nat.le_mul_of_pos_right (z*4294967296) e;omega
theorem FP {wr:World} {b:Nat} {T:TypeId} {l l' r:List Nat} (s1:Small l) (s2:Small l') {M q:Nat} (h1:l.length≤M) (h2:l'.length≤M) (hM:M<1000000000) (hr:r.length=M+1) (hs:Small r)
 (hv:val r+4294967296^(M+1)*q=val (l.take (M+1))+val (l'.take (M+1))) (di:aQ wr b T (cV (r++List.replicate (M+1-(M+1)) 0))):Raw wr (some ⟨b,0,none⟩) (M+1) (M+1) (val l+val l'):=by
 rw [List.take_of_length_le (by omega),List.take_of_length_le (by omega)]at hv;rw [carry_zero s1 s2 h1 h2 hv,Nat.mul_zero,Nat.add_zero]at hv;rw [Nat.sub_self,List.replicate_zero,List.append_nil]at di;have h4:=di.limbs hs (by rw [hr];omega);rw [hr]at h4;exact ⟨r,hr,hv,h4⟩
theorem qj (w:World) (a b:Option Addr) (k k' c c' n m:Nat) (ha:Raw w a k c n) (hb:Raw w b k' c' m) (hk:k<1000000000) (NR:k'<1000000000):
 Calls prog 226 #[.slice a k c,.slice b k' c'] w (iZ (n+m) w):=by
 obtain ⟨l,rfl,rfl,hA⟩:=ha;obtain ⟨l',rfl,rfl,hB⟩:=hb;have s1:=hA.small;have s2:=hB.small;by_cases hlt:l.length<l'.length
 ·go_enter func226,ntmps226
  go_wp2_with (at_make;refine bO _ rfl _ _ 115 rfl 185 (.int .u32 0) 4 underlying115 Tryz.info_u32 rfl _ _ (l'.length+1) rfl rfl (by go_num) (by go_num) (by omega) (by omega) ?_;intro w1 gH hx1 hz1)
  go_loopw [6,7] (fun cy i wr=> ∃(j q:Nat) (r:List Nat),j≤l'.length+1∧Hid (r.length=j)∧Small r∧q≤1∧Hid (val r+4294967296^j*q=val (l.take j)+val (l'.take j))∧Hid (aQ wr w.heap.size 185 (cV (r++List.replicate (l'.length+1-j) 0)))∧Ext w wr∧cy= .int .u64 q∧i= .int .i64 j) (fun _ i _=>l'.length+1-(intOf i).toNat)
  case atStart=>exact ⟨0,0,[],Nat.zero_le _,rfl,Small.nil,Nat.zero_le _,rfl,by have:=gH.o;rw [cT]at this;exact this,hx1,rfl,rfl⟩
  case round=>
   obtain ⟨j,q,r,hj,hr,hs,hq,hval,di,dG,rfl,rfl⟩:=hrel;by_cases h0:j<l'.length+1
   ·have hst:=wu di.o hr.o h0
    have rF:=di.o.frozen j;have HN:=ae (fun x=>wm di.o hr.o h0 x);have gM:=ae (yK (L:=l) (M:=l') (cy:=q) (i:=j) hr.o hval.o);have hx:=bN s1 j;have hy:=bN s2 j;by_cases h1:j<l.length
    ·by_cases h2:j<l'.length
     ·obtain ⟨p,o,rfl⟩:=hA.at (by omega)
      have hc:=(hA.ext dG).cellAt j (by omega);obtain ⟨p',o',rfl⟩:=hB.at (by omega);have hc':=(hB.ext dG).cellAt j (by omega);go_wp2
      go_roundw
      case rel=>
       have gM:=gM.o;refine ⟨j+1,(q+limb l j+limb l' j)/4294967296,r++ [(q+limb l j+limb l' j) % 4294967296],by omega,(show _=_ by simp [hr.o]),hs.append (Small.one (Nat.mod_lt _ (by decide))),by omega,gM,HN.o _,dG.setCell (Nat.le_refl _) _,?_,?_⟩<;>go_num
      case measure=>simp [intOf];omega
     ·exfalso;omega
    ·by_cases h2:j<l'.length
     ·have e1:=ae (fF (l:=l) (i:=j) (by omega))
      obtain ⟨p',o',rfl⟩:=hB.at (by omega);have hc':=(hB.ext dG).cellAt j (by omega);go_wp2
      go_roundw
      case rel=>
       have gM:=gM.o;rw [e1.o,Nat.add_zero]at gM;refine ⟨j+1,(q+limb l' j)/4294967296,r++ [(q+limb l' j) % 4294967296],by omega,(show _=_ by simp [hr.o]),hs.append (Small.one (Nat.mod_lt _ (by decide))),by omega,gM,HN.o _,dG.setCell (Nat.le_refl _) _,?_,?_⟩<;>go_num
      case measure=>simp [intOf];omega
     ·have e1:=ae (fF (l:=l) (i:=j) (by omega))
      have e2:=ae (fF (l:=l') (i:=j) (by omega));go_wp2
      go_roundw
      case rel=>
       have gM:=gM.o;rw [e1.o,Nat.add_zero]at gM;rw [e2.o,Nat.add_zero]at gM;rw [Nat.mod_eq_of_lt (show q<4294967296 by omega)]at gM;refine ⟨j+1,q/4294967296,r++ [q],by omega,(show _=_ by simp [hr.o]),hs.append (Small.one (by omega)),by omega,gM,HN.o _,dG.setCell (Nat.le_refl _) _,?_,?_⟩<;>go_num
      case measure=>simp [intOf];omega
   ·obtain rfl:j=l'.length+1:=by omega
    have HR:=ae (FP s1 s2 (M:=l'.length) (by omega) (by omega) (by omega) hr.o hs hval.o di.o);clear hval;go_wp2_with fail
    refine (eK _ _ _ _ _ HR.o).mono ?_;rintro e w' ⟨a',c',rfl,hR,hF,hX⟩;go_wp2
    go_ret;exact ⟨_,_,rfl,hR,hF.mono dG.size,dG.trans hX⟩
 ·go_enter func226,ntmps226
  go_wp2_with (at_make;refine bO _ rfl _ _ 115 rfl 185 (.int .u32 0) 4 underlying115 Tryz.info_u32 rfl _ _ (l.length+1) rfl rfl (by go_num) (by go_num) (by omega) (by omega) ?_;intro w1 gH hx1 hz1)
  go_loopw [6,7] (fun cy i wr=> ∃(j q:Nat) (r:List Nat),j≤l.length+1∧Hid (r.length=j)∧Small r∧q≤1∧Hid (val r+4294967296^j*q=val (l.take j)+val (l'.take j))∧Hid (aQ wr w.heap.size 185 (cV (r++List.replicate (l.length+1-j) 0)))∧Ext w wr∧cy= .int .u64 q∧i= .int .i64 j) (fun _ i _=>l.length+1-(intOf i).toNat)
  case atStart=>exact ⟨0,0,[],Nat.zero_le _,rfl,Small.nil,Nat.zero_le _,rfl,by have:=gH.o;rw [cT]at this;exact this,hx1,rfl,rfl⟩
  case round=>
   obtain ⟨j,q,r,hj,hr,hs,hq,hval,di,dG,rfl,rfl⟩:=hrel;by_cases h0:j<l.length+1
   ·have hst:=wu di.o hr.o h0
    have rF:=di.o.frozen j;have HN:=ae (fun x=>wm di.o hr.o h0 x);have gM:=ae (yK (L:=l) (M:=l') (cy:=q) (i:=j) hr.o hval.o);have hx:=bN s1 j;have hy:=bN s2 j;by_cases h1:j<l.length
    ·by_cases h2:j<l'.length
     ·obtain ⟨p,o,rfl⟩:=hA.at (by omega)
      have hc:=(hA.ext dG).cellAt j (by omega);obtain ⟨p',o',rfl⟩:=hB.at (by omega);have hc':=(hB.ext dG).cellAt j (by omega);go_wp2
      go_roundw
      case rel=>
       have gM:=gM.o;refine ⟨j+1,(q+limb l j+limb l' j)/4294967296,r++ [(q+limb l j+limb l' j) % 4294967296],by omega,(show _=_ by simp [hr.o]),hs.append (Small.one (Nat.mod_lt _ (by decide))),by omega,gM,HN.o _,dG.setCell (Nat.le_refl _) _,?_,?_⟩<;>go_num
      case measure=>simp [intOf];omega
     ·have e2:=ae (fF (l:=l') (i:=j) (by omega))
      obtain ⟨p,o,rfl⟩:=hA.at (by omega);have hc:=(hA.ext dG).cellAt j (by omega);go_wp2
      go_roundw
      case rel=>
       have gM:=gM.o;rw [e2.o,Nat.add_zero]at gM;refine ⟨j+1,(q+limb l j)/4294967296,r++ [(q+limb l j) % 4294967296],by omega,(show _=_ by simp [hr.o]),hs.append (Small.one (Nat.mod_lt _ (by decide))),by omega,gM,HN.o _,dG.setCell (Nat.le_refl _) _,?_,?_⟩<;>go_num
      case measure=>simp [intOf];omega
    ·by_cases h2:j<l'.length
     ·exfalso;omega
     ·have e1:=ae (fF (l:=l) (i:=j) (by omega))
      have e2:=ae (fF (l:=l') (i:=j) (by omega));go_wp2
      go_roundw
      case rel=>
       have gM:=gM.o;rw [e1.o,Nat.add_zero]at gM;rw [e2.o,Nat.add_zero]at gM;rw [Nat.mod_eq_of_lt (show q<4294967296 by omega)]at gM;refine ⟨j+1,q/4294967296,r++ [q],by omega,(show _=_ by simp [hr.o]),hs.append (Small.one (by omega)),by omega,gM,HN.o _,dG.setCell (Nat.le_refl _) _,?_,?_⟩<;>go_num
      case measure=>simp [intOf];omega
   ·obtain rfl:j=l.length+1:=by omega
    have HR:=ae (FP s1 s2 (M:=l.length) (by omega) (by omega) (by omega) hr.o hs hval.o di.o);clear hval;go_wp2_with fail
    refine (eK _ _ _ _ _ HR.o).mono ?_;rintro e w' ⟨a',c',rfl,hR,hF,hX⟩;go_wp2
    go_ret;exact ⟨_,_,rfl,hR,hF.mono dG.size,dG.trans hX⟩
end Go.Proofs.YtkpngkdgphojlaaGreat
