/- Texts of the proof. -/
import Derived.Test.YtfokdakioeoniaaGreatCj9
set_option linter.all false
set_option maxHeartbeats 2000000
namespace Go.Proofs.YtfokdakioeoniaaGreat
open Go.Proofs.Tryz
open Go.RowKit
theorem Ka (w:World) (s:Bool) (a b:Option Addr) (k c j d n m:Nat) (h:Raw w a k c n) (g:Raw w b j d m) (s':Bool) (a' b':Option Addr) (k' c' j' d' n' m':Nat) (h':Raw w a' k' c' n') (g':Raw w b' j' d' m') (b1:len n<100000000) (b2:len m<100000000) (rZ:len n'<100000000) (rW:len m'<100000000):
 Calls prog 46 #[.agg #[.bool s,.slice a k c,.slice b j d],.agg #[.bool s',.slice a' k' c',.slice b' j' d']] w (bD (mkRat (bf s n) m-mkRat (bf s' n') m') w):=by
 go_enter func46,ntmps46
 go_wp2_with fail
 obtain ⟨W,hW,x0,Z0,A0,A1,A2⟩:=et w 63 [.bool s,.slice a k c,.slice b j d] 63 [.bool (!s'),.slice a' k' c',.slice b' j' d'] 63 [.bool false,.slice none 0 0,.slice none 0 0];rw [<-hW];clear hW;obtain ⟨z0,z1,z2,⟨aD,aF,bn,aM,aN,bG⟩,⟨aJ,aK,bM,aR,aS,bT⟩,aZ,a_,bW,bA,bB,cf⟩:=bb3 aA aA aA A0 A1 A2 ah;refine (Df _ _ _ _ _ _ _ _ _ _ (h.ext x0) (g.ext x0) _ _ _ _ _ _ _ _ _ (h'.ext x0) (g'.ext x0) b1 b2 rZ rW).mono ?_;intro e wz hN;rw [Bn,<-Rat.sub_eq_add_neg]at hN;obtain ⟨az,cz,J7,J8,rfl,AZ,qG,tV,xY,w_⟩:=id hN;obtain ⟨z0,z1,z2,⟨aD,aF,bn,aM,aN,bG⟩,⟨aJ,aK,bM,aR,aS,bT⟩,aZ,a_,bW,bA,bB,cf⟩:=bb3 aA aA aA A0 A1 A2 ((Ext.refl W).trans w_);go_wp2
 exact bodyPost_ret (by simp [results,results46,go_sem, *]) rfl (bD.bH (hN.base (Ext.refl W)) x0 (Touch.three _ ae (by rw [Z0.o];omega) _ _ _))
def N8 (q:Rat) (w:World) (e:Ending) (w':World):Prop:= ∃a c a' c',e= .returned (.tuple #[.agg #[.bool (decide (q.num<0)),.slice a (len q.num.natAbs) c,.slice a' (len q.den) c'],.bool true])/\
 Raw w' a (len q.num.natAbs) c q.num.natAbs/\Fr w.heap.size a/\Raw w' a' (len q.den) c' q.den/\Fr w.heap.size a'/\Ext w w'
theorem B_ (s:Bool) (n m:Nat):mkRat (bf s m) n=(mkRat (bf s n) m)⁻¹:=by
 rw [<-Rat.divInt_ofNat,<-Rat.divInt_ofNat,Rat.inv_divInt];cases s
 .rfl
 .rw [gD,gD,Rat.divInt_neg']
theorem QS (w:World) (s:Bool) (a b:Option Addr) (k c j d n m:Nat) (h:Raw w a k c n) (g:Raw w b j d m) (s':Bool) (a' b':Option Addr) (k' c' j' d' n' m':Nat) (h':Raw w a' k' c' n') (g':Raw w b' j' d' m') (b1:len n<100000000) (b2:len m<100000000) (rZ:len n'<100000000) (rW:len m'<100000000) (h0: ¬mkRat (bf s' n') m'=0):
 Calls prog 151 #[.agg #[.bool s,.slice a k c,.slice b j d],.agg #[.bool s',.slice a' k' c',.slice b' j' d']] w (N8 (mkRat (bf s n) m/mkRat (bf s' n') m') w):=by
 have hs:((mkRat (bf s' n') m').num.sign==0)=false:=by rw [beq_eq_false_iff_ne];exact λh=>h0 (eP.1 h)
 clear h0;go_enter func151,ntmps151
 go_wp2_with fail
 obtain ⟨W,hW,x0,Z0,A0,A1,A2⟩:=et w 63 [.bool s,.slice a k c,.slice b j d] 63 [.bool s',.slice a' k' c',.slice b' j' d'] 63 [.bool false,.slice none 0 0,.slice none 0 0];rw [<-hW];clear hW;obtain ⟨z0,z1,z2,⟨aD,aF,bn,aM,aN,bG⟩,⟨aJ,aK,bM,aR,aS,bT⟩,aZ,a_,bW,bA,bB,cf⟩:=bb3 aA aA aA A0 A1 A2 ah;refine (fP _ _ _ _ _ _ _ _ _ _ (h'.ext x0) (g'.ext x0)).mono ?_;rintro e w1 ⟨rfl,hx1⟩;obtain ⟨z0,z1,z2,⟨aD,aF,bn,aM,aN,bG⟩,⟨aJ,aK,bM,aR,aS,bT⟩,aZ,a_,bW,bA,bB,cf⟩:=bb3 aA aA aA A0 A1 A2 hx1;go_wp2_with fail
 refine (J9 _ _ _ _ _ _ _ _ _ _ ((h.ext x0).ext hx1) ((g.ext x0).ext hx1) _ _ _ _ _ _ _ _ _ ((g'.ext x0).ext hx1) ((h'.ext x0).ext hx1) b1 b2 rW rZ).mono ?_;intro e wz hN;rw [B_ s' n' m',<-Rat.div_def]at hN;obtain ⟨az,cz,J7,J8,rfl,AZ,qG,tV,xY,w_⟩:=id hN;obtain ⟨z0,z1,z2,⟨aD,aF,bn,aM,aN,bG⟩,⟨aJ,aK,bM,aR,aS,bT⟩,aZ,a_,bW,bA,bB,cf⟩:=bb3 aA aA aA A0 A1 A2 (hx1.trans w_);go_wp2
 obtain ⟨au,cu,au',cu',he,hr,hf,oB,hf',hx⟩:=bD.bH (hN.base hx1) x0 (Touch.three (b:=w.heap.size+2) wz ae (by rw [Z0.o];omega) (.bool (decide ((mkRat (bf s n) m/mkRat (bf s' n') m').num<0))) (.slice az (len (mkRat (bf s n) m/mkRat (bf s' n') m').num.natAbs) cz) (.slice J7 (len (mkRat (bf s n) m/mkRat (bf s' n') m').den) J8));cases he
 exact bodyPost_ret (v:= .tuple #[.agg #[.bool (decide ((mkRat (bf s n) m/mkRat (bf s' n') m').num<0)),.slice az (len (mkRat (bf s n) m/mkRat (bf s' n') m').num.natAbs) cz,.slice J7 (len (mkRat (bf s n) m/mkRat (bf s' n') m').den) J8],.bool true]) (by simp [results,results151,go_sem, *]) rfl ⟨az,cz,J7,J8,rfl,hr,hf,oB,hf',hx⟩
theorem Ext.oQ {w w3 w4:World} {hi:Nat} (h:Ext w w3) (t:Touch w.heap.size hi w3 w4):Ext w w4:=
 ⟨⟨t.os.trans h.below.os,t.tape.trans h.below.tape,t.output.trans h.below.output,by rw [t.size];exact h.below.size,λk hk=>(t.block k (Or.inl hk)).trans (h.below.block k hk)⟩,Nat.le_trans h.drawn t.drawn⟩
theorem xe (x:Int) (y:Nat) (h:0<y):(mkRat x y).floor=x/y:=by
 obtain ⟨g,g0,e1,e2⟩:=pI x y h;generalize mkRat x y=p at*;subst e1 e2;rw [Rat.floor_def,Int.natCast_mul,Int.mul_ediv_mul_of_pos_left _ _ ae]
def Dg (q:Rat) (w:World) (e:Ending) (w':World):Prop:= ∃(r:Int) (a c:_) (a1:Option Addr) (c1:Nat) (a2:Option Addr) (k2 c2:Nat),e= .returned (.tuple #[.agg #[.bool (decide (q.floor<0)),.slice a (len q.floor.natAbs) c],.agg #[.bool (decide (r<0)),.slice a1 (len r.natAbs) c1],.agg #[.bool false,.slice a2 k2 c2]])/\
 Raw w' a (len q.floor.natAbs) c q.floor.natAbs/\Fr w.heap.size a/\Raw w' a1 (len r.natAbs) c1 r.natAbs/\Fr w.heap.size a1/\(r=0↔(q.floor:Rat)=q)/\Ext w w'
theorem Bo (w:World) (s:Bool) (a b:Option Addr) (k c j d n m:Nat) (_h:Raw w a k c n) (g:Raw w b j d m) (hm:0<m):
 Calls prog 104 #[.agg #[.bool s,.slice a k c,.slice b j d]] w λe w'=>e= .returned (.tuple #[.agg #[.bool s,.slice a k c],.slice b j d])/\Ext w w':=by
 have hc:gp m 0=1:=by unfold gp;rw [if_neg ae,if_neg ae]
 have HC:=af hc;clear hc
 go_enter func104,ntmps104
 go_wp2_with fail
 obtain ⟨W,hW,x0,Z0,A0,A1⟩:=dV w 63 [.bool s,.slice a k c,.slice b j d] 61 [.bool false,.slice none 0 0];rw [<-hW];clear hW;obtain ⟨z0,z1,⟨aD,aF,bn,aM,aN,bG⟩,aJ,aK,aR,aS⟩:=bb2 aA aC A0 A1 ah;refine (ep _ _ _ _ _ _ _ _ _ (g.ext x0) (Raw.nil _)).mono ?_;rintro e w1 ⟨rfl,pE⟩;rw [HC.o];obtain ⟨z0,z1,⟨aD,aF,bn,aM,aN,bG⟩,aJ,aK,aR,aS⟩:=bb2 aA aC A0 A1 pE.ext;go_wp2
 go_region
 go_wp2
 exact bodyPost_ret (v:= .tuple #[.agg #[.bool s,.slice a k c],.slice b j d]) (by simp [results,results104,go_sem, *]) rfl ⟨rfl,(Ext.lY (x0.trans pE.ext) ae _ _).drew⟩
theorem zx (w:World) (s:Bool) (a b:Option Addr) (k c j d:Nat) (g:Raw w b j d 0):
 Calls prog 104 #[.agg #[.bool s,.slice a k c,.slice b j d]] w λe w'=> ∃e1,e= .returned (.tuple #[.agg #[.bool false,.slice none 0 0],.slice e1 1 1])/\Raw w' e1 1 1 1/\Fr w.heap.size e1/\Ext w w':=by
 have hc:gp 0 0=0:=rfl;go_enter func104,ntmps104
 go_wp2_with fail
 obtain ⟨W,hW,x0,Z0,A0,A1⟩:=dV w 63 [.bool s,.slice a k c,.slice b j d] 61 [.bool false,.slice none 0 0];rw [<-hW];clear hW;obtain ⟨z0,z1,⟨aD,aF,bn,aM,aN,bG⟩,aJ,aK,aR,aS⟩:=bb2 aA aC A0 A1 ah;refine (ep _ _ _ _ _ _ _ _ _ (g.ext x0) (Raw.nil _)).mono ?_;rintro e w1 ⟨rfl,pE⟩;rw [hc];obtain ⟨z0,z1,⟨aD,aF,bn,aM,aN,bG⟩,aJ,aK,aR,aS⟩:=bb2 aA aC A0 A1 pE.ext;go_wp2
 refine bodyPost_ret (v:= .tuple #[.agg #[.bool false,.slice none 0 0],.slice (some ⟨w1.heap.size,0,none⟩) 1 1]) (by simp [results,results104,go_sem, *]) rfl ⟨some ⟨w1.heap.size,0,none⟩,rfl,?_,Fr.some (x0.trans pE.ext).size,?_⟩
 .have:=yJ ((w1.setCell ⟨w.heap.size+1,0,none⟩ (.bool false)).setCell ⟨w.heap.size+1,1,none⟩ (.slice none 0 0));simpa using this
 .exact (Ext.lY (x0.trans pE.ext) ae _ _).alloc _
theorem LF (x:Int) (y:Nat) (h:0<y):x % (y:Int)=0↔(((mkRat x y).floor:Int):Rat)=mkRat x y:=by
 rw [xe x y h];constructor
 .intro h0
  obtain ⟨z,rfl⟩:=Int.dvd_of_emod_eq_zero h0;rw [Int.mul_ediv_cancel_left _ ae,Rat.mkRat_eq_div];rw [Rat.intCast_mul,Rat.intCast_natCast,Rat.mul_comm,Rat.mul_div_cancel (by intro h1;rw [Rat.natCast_eq_zero_iff]at h1;omega)]
 .intro h0
  rw [Rat.mkRat_eq_div]at h0
  have h1:(((x/(y:Int)):Int):Rat)*(y:Rat)=(x:Rat):=by
   rw [h0,Rat.div_mul_cancel (by intro h1;rw [Rat.natCast_eq_zero_iff]at h1;omega)]
  rw [<-Rat.intCast_natCast,<-Rat.intCast_mul,Rat.intCast_inj]at h1;have:=Int.emod_add_mul_ediv x y;rw [Int.mul_comm]at h1;omega
theorem LG (w:World) (s:Bool) (a b:Option Addr) (k c j d n m:Nat) (h:Raw w a k c n) (g:Raw w b j d m) (b1:len n<100000000) (b2:len m<100000000):
 Calls prog 143 #[.agg #[.bool s,.slice a k c,.slice b j d]] w (Dg (mkRat (bf s n) m) w):=by
 by_cases hm:0<m
 .skip
  go_enter func143,ntmps143
  go_wp2_with fail
  obtain ⟨W,hW,x0,Z0,A0,A1,A2,A3⟩:=za w 63 [.bool s,.slice a k c,.slice b j d] 61 [.bool false,.slice none 0 0] 61 [.bool false,.slice none 0 0] 61 [.bool false,.slice none 0 0];rw [<-hW];clear hW;obtain ⟨z0,z1,z2,⟨aD,aF,bn,aM,aN,bG⟩,⟨aJ,aK,aR,aS⟩,aZ,a_,bA,bB⟩:=bb3 aA aC aC A0 A1 A2 ah;obtain ⟨z3,fV,fX,il,iq⟩:=bb1 aC A3 ah;refine (Bo _ _ _ _ _ _ _ _ _ _ (h.ext x0) (g.ext x0) hm).mono ?_;rintro e w1 ⟨rfl,hx1⟩;obtain ⟨z0,z1,z2,⟨aD,aF,bn,aM,aN,bG⟩,⟨aJ,aK,aR,aS⟩,aZ,a_,bA,bB⟩:=bb3 aA aC aC A0 A1 A2 hx1;obtain ⟨z3,fV,fX,il,iq⟩:=bb1 aC A3 hx1;go_wp2_with fail
  obtain ⟨w2,hw2⟩: ∃w2,w2=((w1.setCell ⟨w.heap.size+1+1+1,0,none⟩ (.bool false)).setCell ⟨w.heap.size+1+1+1,1,none⟩ (.slice b j d)).alloc (Obj.cells #[.bool s,.slice a k c] 61):=⟨_,rfl⟩;rw [<-hw2];have E2:Ext w w2:=by rw [hw2];exact (Ext.lY (x0.trans hx1) ae _ _).alloc _
  have S2:w2.heap.size=w1.heap.size+1:=by rw [hw2];simp
  have C1:aY w2 (w.heap.size+1) 61 [.bool false,.slice none 0 0]:=by rw [hw2];exact (((A1.ext hx1).other _ _ (by simp<;>omega)).other _ _ (by simp<;>omega)).ext (ah.alloc _)
  have C2:aY w2 (w.heap.size+2) 61 [.bool false,.slice none 0 0]:=by rw [hw2];exact (((A2.ext hx1).other _ _ (by simp<;>omega)).other _ _ (by simp<;>omega)).ext (ah.alloc _)
  have C3:aY w2 (w.heap.size+3) 61 [.bool false,.slice b j d]:=by rw [hw2];exact (((A3.ext hx1).set 0 _).set 1 _).ext (ah.alloc _)
  have SK:=hx1.size;rw [Z0.o]at SK;clear hw2 aJ aR aK aS aZ bA a_ bB fV il fX iq aD aF bn aM aN bG z0 z1 z2 z3;refine (zn _ _ _ _ _ _ _ _ _ _ _ (h.ext E2) (g.ext E2) hm ae).mono ?_;rintro e w3 ⟨a3,c3,a4,c4,rfl,hr3,hf3,hr4,J4,hx3⟩;obtain ⟨z1,z2,z3,⟨aJ,aK,aR,aS⟩,⟨aZ,a_,bA,bB⟩,fV,fX,il,iq⟩:=bb3 aC aC aC C1 C2 C3 hx3;generalize hX:bf s n/bf false m=X at*;generalize hY:bf s n % bf false m=Y at*;have HX:=af hX;have HY:=af hY;clear hX hY
  go_wp2
  obtain ⟨w4,hw4⟩: ∃w4,w4=((((w3.setCell ⟨w.heap.size+1,0,none⟩ (.bool (decide (X<0)))).setCell ⟨w.heap.size+1,1,none⟩ (.slice a3 (len X.natAbs) c3)).setCell ⟨w.heap.size+1+1,0,none⟩ (.bool (decide (Y<0)))).setCell ⟨w.heap.size+1+1,1,none⟩ (.slice a4 (len Y.natAbs) c4)):=⟨_,rfl⟩;rw [<-hw4];have T4:Touch w.heap.size W.heap.size w3 w4:=by rw [hw4];exact (Touch.two _ ae (by rw [Z0.o];omega) _ _).trans (Touch.two _ ae (by rw [Z0.o];omega) _ _)
  have D1:aY w4 (w.heap.size+1) 61 [.bool (decide (X<0)),.slice a3 (len X.natAbs) c3]:=by rw [hw4];exact ((((C1.ext hx3).set 0 _).set 1 _).other _ _ (by simp<;>omega)).other _ _ (by simp<;>omega)
  have D2:aY w4 (w.heap.size+2) 61 [.bool (decide (Y<0)),.slice a4 (len Y.natAbs) c4]:=by rw [hw4];exact ((((C2.ext hx3).other _ _ (by simp<;>omega)).other _ _ (by simp<;>omega)).set 0 _).set 1 _
  have D3:aY w4 (w.heap.size+3) 61 [.bool false,.slice b j d]:=by rw [hw4];exact (((((C3.ext hx3).other _ _ (by simp<;>omega)).other _ _ (by simp<;>omega))).other _ _ (by simp<;>omega)).other _ _ (by simp<;>omega)
  clear hw4 aJ aR aK aS aZ bA a_ bB fV il fX iq z1 z2 z3;obtain ⟨aJ,aK,aR,aS⟩:=aC D1 ah;have z1:=D1.lt;obtain ⟨aZ,a_,bA,bB⟩:=aC D2 ah;have z2:=D2.lt;obtain ⟨fV,fX,il,iq⟩:=aC D3 ah;have z3:=D3.lt;go_region
  go_wp2
  obtain ⟨w5,uq⟩: ∃w5,w5=((((((w4.setCell ⟨w.heap.size+1,0,none⟩ (.bool (decide (X<0)))).setCell ⟨w.heap.size+1,1,none⟩ (.slice a3 (len X.natAbs) c3)).setCell ⟨w.heap.size+1+1,0,none⟩ (.bool (decide (Y<0)))).setCell ⟨w.heap.size+1+1,1,none⟩ (.slice a4 (len Y.natAbs) c4)).setCell ⟨w.heap.size+1+1+1,0,none⟩ (.bool false)).setCell ⟨w.heap.size+1+1+1,1,none⟩ (.slice b j d)).drew:=⟨_,rfl⟩;rw [<-uq];have T5:Touch w.heap.size W.heap.size w4 w5:=by rw [uq];exact (((Touch.two _ ae (by rw [Z0.o];omega) _ _).trans (Touch.two _ ae (by rw [Z0.o];omega) _ _)).trans (Touch.two _ ae (by rw [Z0.o];omega) _ _)).drew
  have dr: ∀(wa:World),Ext wa wa.drew:=λwa=>(Ext.refl wa).drew;have E1:aY w5 (w.heap.size+1) 61 [.bool (decide (X<0)),.slice a3 (len X.natAbs) c3]:=by rw [uq];exact (((((((D1.set 0 _).set 1 _).other _ _ (by simp<;>omega)).other _ _ (by simp<;>omega)).other _ _ (by simp<;>omega)).other _ _ (by simp<;>omega))).ext (dr _)
  have E2':aY w5 (w.heap.size+2) 61 [.bool (decide (Y<0)),.slice a4 (len Y.natAbs) c4]:=by rw [uq];exact ((((((D2.other _ _ (by simp<;>omega)).other _ _ (by simp<;>omega)).set 0 _).set 1 _).other _ _ (by simp<;>omega)).other _ _ (by simp<;>omega)).ext (dr _)
  have E3:aY w5 (w.heap.size+3) 61 [.bool false,.slice b j d]:=by rw [uq];exact ((((((D3.other _ _ (by simp<;>omega)).other _ _ (by simp<;>omega)).other _ _ (by simp<;>omega)).other _ _ (by simp<;>omega)).set 0 _).set 1 _).ext (dr _)
  clear uq aJ aR aK aS aZ bA a_ bB fV il fX iq z1 z2 z3;obtain ⟨aJ,aK,aR,aS⟩:=aC E1 ah;obtain ⟨aZ,a_,bA,bB⟩:=aC E2' ah;obtain ⟨fV,fX,il,iq⟩:=aC E3 ah;have F3:Fr W.heap.size a3:=hf3.mono (by rw [Z0.o];omega);have F4:Fr W.heap.size a4:=J4.mono (by rw [Z0.o];omega)
  have fin: ∀w4,Touch w.heap.size W.heap.size w3 w4->Dg (mkRat (bf s n) m) w (.returned (.tuple #[.agg #[.bool (decide (X<0)),.slice a3 (len X.natAbs) c3],.agg #[.bool (decide (Y<0)),.slice a4 (len Y.natAbs) c4],.agg #[.bool false,.slice b j d]])) w4:=by
   intro w4 t4;have Xr:(mkRat (bf s n) m).floor=X:=by rw [xe _ _ hm,<-HX.o];rfl
   have e2:=LF (bf s n) m hm;have e3:bf s n % (m:Int)=Y:=HY.o;rw [e3]at e2;refine ⟨Y,a3,c3,a4,c4,b,j,d,by rw [Xr],by rw [Xr];exact hr3.bH t4 F3.o,F3.mono x0.size,hr4.bH t4 F4.o,F4.mono x0.size,e2,(E2.trans hx3).oQ t4⟩
  exact bodyPost_ret (by simp [results,results143,go_sem,aJ,aK,aZ,a_,fV,fX]) rfl (fin _ (T4.trans T5))
 .obtain rfl:m=0:=ae
  go_enter func143,ntmps143
  go_wp2_with fail
  obtain ⟨W,hW,x0,Z0,A0,A1,A2,A3⟩:=za w 63 [.bool s,.slice a k c,.slice b j d] 61 [.bool false,.slice none 0 0] 61 [.bool false,.slice none 0 0] 61 [.bool false,.slice none 0 0];rw [<-hW];clear hW;obtain ⟨z0,z1,z2,⟨aD,aF,bn,aM,aN,bG⟩,⟨aJ,aK,aR,aS⟩,aZ,a_,bA,bB⟩:=bb3 aA aC aC A0 A1 A2 ah;obtain ⟨z3,fV,fX,il,iq⟩:=bb1 aC A3 ah;refine (zx _ _ _ _ _ _ _ _ (g.ext x0)).mono ?_;rintro e w1 ⟨e1,rfl,hre,hfe,hx1⟩;obtain ⟨z0,z1,z2,⟨aD,aF,bn,aM,aN,bG⟩,⟨aJ,aK,aR,aS⟩,aZ,a_,bA,bB⟩:=bb3 aA aC aC A0 A1 A2 hx1;obtain ⟨z3,fV,fX,il,iq⟩:=bb1 aC A3 hx1;go_wp2_with fail
  obtain ⟨w2,hw2⟩: ∃w2,w2=((w1.setCell ⟨w.heap.size+1+1+1,0,none⟩ (.bool false)).setCell ⟨w.heap.size+1+1+1,1,none⟩ (.slice e1 1 1)).alloc (Obj.cells #[.bool false,.slice none 0 0] 61):=⟨_,rfl⟩;rw [<-hw2];have E2:Ext w w2:=by rw [hw2];exact (Ext.lY (x0.trans hx1) ae _ _).alloc _
  have S2:w2.heap.size=w1.heap.size+1:=by rw [hw2];simp
  have C1:aY w2 (w.heap.size+1) 61 [.bool false,.slice none 0 0]:=by rw [hw2];exact (((A1.ext hx1).other _ _ (by simp<;>omega)).other _ _ (by simp<;>omega)).ext (ah.alloc _)
  have C2:aY w2 (w.heap.size+2) 61 [.bool false,.slice none 0 0]:=by rw [hw2];exact (((A2.ext hx1).other _ _ (by simp<;>omega)).other _ _ (by simp<;>omega)).ext (ah.alloc _)
  have C3:aY w2 (w.heap.size+3) 61 [.bool false,.slice e1 1 1]:=by rw [hw2];exact (((A3.ext hx1).set 0 _).set 1 _).ext (ah.alloc _)
  have re2:Raw w2 e1 1 1 1:=by rw [hw2];exact (hre.bH (Touch.two (lo:=w.heap.size) (hi:=W.heap.size) _ ae (by rw [Z0.o];omega) _ _) hfe.o).ext (ah.alloc _)
  have SK:=hx1.size;rw [Z0.o]at SK;clear hw2 aJ aR aK aS aZ bA a_ bB fV il fX iq aD aF bn aM aN bG z0 z1 z2 z3;refine (zn _ _ _ _ _ _ _ _ _ _ _ (Raw.nil _) re2 ae (by rw [nc];omega)).mono ?_;rintro e w3 ⟨a3,c3,a4,c4,rfl,hr3,hf3,hr4,J4,hx3⟩;obtain ⟨z1,z2,z3,⟨aJ,aK,aR,aS⟩,⟨aZ,a_,bA,bB⟩,fV,fX,il,iq⟩:=bb3 aC aC aC C1 C2 C3 hx3;generalize hX:bf false 0/bf false 1=X at*;generalize hY:bf false 0 % bf false 1=Y at*;have HX:=af hX;have HY:=af hY;clear hX hY
  go_wp2
  obtain ⟨w4,hw4⟩: ∃w4,w4=((((w3.setCell ⟨w.heap.size+1,0,none⟩ (.bool (decide (X<0)))).setCell ⟨w.heap.size+1,1,none⟩ (.slice a3 (len X.natAbs) c3)).setCell ⟨w.heap.size+1+1,0,none⟩ (.bool (decide (Y<0)))).setCell ⟨w.heap.size+1+1,1,none⟩ (.slice a4 (len Y.natAbs) c4)):=⟨_,rfl⟩;rw [<-hw4];have T4:Touch w.heap.size W.heap.size w3 w4:=by rw [hw4];exact (Touch.two _ ae (by rw [Z0.o];omega) _ _).trans (Touch.two _ ae (by rw [Z0.o];omega) _ _)
  have D1:aY w4 (w.heap.size+1) 61 [.bool (decide (X<0)),.slice a3 (len X.natAbs) c3]:=by rw [hw4];exact ((((C1.ext hx3).set 0 _).set 1 _).other _ _ (by simp<;>omega)).other _ _ (by simp<;>omega)
  have D2:aY w4 (w.heap.size+2) 61 [.bool (decide (Y<0)),.slice a4 (len Y.natAbs) c4]:=by rw [hw4];exact ((((C2.ext hx3).other _ _ (by simp<;>omega)).other _ _ (by simp<;>omega)).set 0 _).set 1 _
  have D3:aY w4 (w.heap.size+3) 61 [.bool false,.slice e1 1 1]:=by rw [hw4];exact (((((C3.ext hx3).other _ _ (by simp<;>omega)).other _ _ (by simp<;>omega))).other _ _ (by simp<;>omega)).other _ _ (by simp<;>omega)
  clear hw4 aJ aR aK aS aZ bA a_ bB fV il fX iq z1 z2 z3;obtain ⟨aJ,aK,aR,aS⟩:=aC D1 ah;have z1:=D1.lt;obtain ⟨aZ,a_,bA,bB⟩:=aC D2 ah;have z2:=D2.lt;obtain ⟨fV,fX,il,iq⟩:=aC D3 ah;have z3:=D3.lt;go_region
  go_wp2
  obtain ⟨w5,uq⟩: ∃w5,w5=((((((w4.setCell ⟨w.heap.size+1,0,none⟩ (.bool (decide (X<0)))).setCell ⟨w.heap.size+1,1,none⟩ (.slice a3 (len X.natAbs) c3)).setCell ⟨w.heap.size+1+1,0,none⟩ (.bool (decide (Y<0)))).setCell ⟨w.heap.size+1+1,1,none⟩ (.slice a4 (len Y.natAbs) c4)).setCell ⟨w.heap.size+1+1+1,0,none⟩ (.bool false)).setCell ⟨w.heap.size+1+1+1,1,none⟩ (.slice e1 1 1)).drew:=⟨_,rfl⟩;rw [<-uq];have T5:Touch w.heap.size W.heap.size w4 w5:=by rw [uq];exact (((Touch.two _ ae (by rw [Z0.o];omega) _ _).trans (Touch.two _ ae (by rw [Z0.o];omega) _ _)).trans (Touch.two _ ae (by rw [Z0.o];omega) _ _)).drew
  have dr: ∀(wa:World),Ext wa wa.drew:=λwa=>(Ext.refl wa).drew;have E1:aY w5 (w.heap.size+1) 61 [.bool (decide (X<0)),.slice a3 (len X.natAbs) c3]:=by rw [uq];exact (((((((D1.set 0 _).set 1 _).other _ _ (by simp<;>omega)).other _ _ (by simp<;>omega)).other _ _ (by simp<;>omega)).other _ _ (by simp<;>omega))).ext (dr _)
  have E2':aY w5 (w.heap.size+2) 61 [.bool (decide (Y<0)),.slice a4 (len Y.natAbs) c4]:=by rw [uq];exact ((((((D2.other _ _ (by simp<;>omega)).other _ _ (by simp<;>omega)).set 0 _).set 1 _).other _ _ (by simp<;>omega)).other _ _ (by simp<;>omega)).ext (dr _)
  have E3:aY w5 (w.heap.size+3) 61 [.bool false,.slice e1 1 1]:=by rw [uq];exact ((((((D3.other _ _ (by simp<;>omega)).other _ _ (by simp<;>omega)).other _ _ (by simp<;>omega)).other _ _ (by simp<;>omega)).set 0 _).set 1 _).ext (dr _)
  clear uq aJ aR aK aS aZ bA a_ bB fV il fX iq z1 z2 z3;obtain ⟨aJ,aK,aR,aS⟩:=aC E1 ah;obtain ⟨aZ,a_,bA,bB⟩:=aC E2' ah;obtain ⟨fV,fX,il,iq⟩:=aC E3 ah;have F3:Fr W.heap.size a3:=hf3.mono (by rw [Z0.o];omega);have F4:Fr W.heap.size a4:=J4.mono (by rw [Z0.o];omega)
  have fin: ∀w4,Touch w.heap.size W.heap.size w3 w4->Dg (mkRat (bf s n) 0) w (.returned (.tuple #[.agg #[.bool (decide (X<0)),.slice a3 (len X.natAbs) c3],.agg #[.bool (decide (Y<0)),.slice a4 (len Y.natAbs) c4],.agg #[.bool false,.slice e1 1 1]])) w4:=by
   intro w4 t4;have Xr:(mkRat (bf s n) 0).floor=X:=by rw [Rat.mkRat_zero,<-HX.o];rfl
   have e2:Y=0↔(((mkRat (bf s n) 0).floor:Int):Rat)=mkRat (bf s n) 0:=by rw [Rat.mkRat_zero,<-HY.o];constructor<;>(intro _;rfl)
   refine ⟨Y,a3,c3,a4,c4,e1,1,1,by rw [Xr],by rw [Xr];exact hr3.bH t4 F3.o,F3.mono x0.size,hr4.bH t4 F4.o,F4.mono x0.size,e2,(E2.trans hx3).oQ t4⟩
  exact bodyPost_ret (by simp [results,results143,go_sem,aJ,aK,aZ,a_,fV,fX]) rfl (fin _ (T4.trans T5))
theorem Ca (w:World) (s:Bool) (a b:Option Addr) (k c j d n m:Nat) (h:Raw w a k c n) (g:Raw w b j d m) (b1:len n<100000000) (b2:len m<100000000):
 Calls prog 66 #[.agg #[.bool s,.slice a k c,.slice b j d]] w (bP (mkRat (bf s n) m).floor w):=by
 go_enter func66,ntmps66
 go_wp2_with fail
 obtain ⟨W,hW,x0,Z0,A0,A1⟩:=dV w 63 [.bool s,.slice a k c,.slice b j d] 61 [.bool false,.slice none 0 0];rw [<-hW];clear hW;obtain ⟨z0,z1,⟨aD,aF,bn,aM,aN,bG⟩,aJ,aK,aR,aS⟩:=bb2 aA aC A0 A1 ah;refine (LG _ _ _ _ _ _ _ _ _ _ (h.ext x0) (g.ext x0) b1 b2).mono ?_;rintro e w1 ⟨r,a1,c1,a2,c2,a3,k3,c3,rfl,hr1,jw,hr2,hf2,_,hx1⟩;obtain ⟨z0,z1,⟨aD,aF,bn,aM,aN,bG⟩,aJ,aK,aR,aS⟩:=bb2 aA aC A0 A1 hx1;go_wp2
 have T:Touch w.heap.size W.heap.size w1 ((w1.setCell ⟨w.heap.size+1,0,none⟩ (.bool (decide ((mkRat (bf s n) m).floor<0)))).setCell ⟨w.heap.size+1,1,none⟩ (.slice a1 (len (mkRat (bf s n) m).floor.natAbs) c1)):=Touch.two _ ae (by rw [Z0.o];omega) _ _;refine bodyPost_ret (v:= .agg #[.bool (decide ((mkRat (bf s n) m).floor<0)),.slice a1 (len (mkRat (bf s n) m).floor.natAbs) c1]) (by simp [results,results66,go_sem, *]) rfl ?_;exact ⟨a1,c1,rfl,(hr1.bH T jw.o).ext (((ah.alloc _).alloc _).alloc _),jw.mono x0.size,(((x0.bH hx1 T).alloc _).alloc _).alloc _⟩
theorem mU (q:Rat):dW (-q)=dW q:=by unfold dW;rw [Rat.neg_num,Rat.neg_den,Int.natAbs_neg]
theorem jm (p q:Rat):dW (p+q)<=dW p+dW q+1:=by
 rw [Rat.add_def'];refine Nat.le_trans (kn _ _) ?_;have h1:=pJ (p.num*q.den) (q.num*p.den);rw [Int.natAbs_mul,Int.natAbs_mul,Int.natAbs_natCast,Int.natAbs_natCast]at h1;have h2:=gX p.num.natAbs q.den;have h3:=gX q.num.natAbs p.den;have h4:=gX p.den q.den;have a1:=iN p;have a2:=iw p;have a3:=iN q;have a4:=iw q
 omega
theorem od (p q:Rat):dW (p-q)<=dW p+dW q+1:=by
 rw [Rat.sub_eq_add_neg];have:=jm p (-q);rw [mU]at this;exact this
theorem gi (z:Int):dW (z:Rat)=max (len z.natAbs) 1:=by
 unfold dW;rw [Rat.num_intCast,Rat.den_intCast,ze]
theorem eT {z:Int} (h1: -9223372036854775808<=z) (h2:z<=9223372036854775807):len z.natAbs<=2:=gA.2 ae
theorem bD.lZ {q:Rat} {w w':World} {e:Ending} (h:bD q w e w'): ∃r:bE,e= .returned (.agg #[.bool r.s,.slice r.a r.k r.c,.slice r.b r.j r.d])/\fI w' r q (Go.Proofs.YtfokdakioeoniaaGreat.dW q)/\Fr w.heap.size r.a/\Fr w.heap.size r.b/\Ext w w':=by
 obtain ⟨a,c,a',c',he,hr,hf,oB,hf',hx⟩:=h;refine ⟨⟨decide (q.num<0),a,len q.num.natAbs,c,a',len q.den,c'⟩,he,⟨_,_,hr,oB,?_,iN q,iw q⟩,hf,hf',hx⟩;rw [dJ,Rat.mkRat_self]
theorem dO.lZ {w:World} {r:bE} {q:Rat} {B:Nat} (h:dO w r q B):fI w r q (Go.Proofs.YtfokdakioeoniaaGreat.dW q):=
 ⟨_,_,h.num,h.den,by rw [h.s,dJ,Rat.mkRat_self],iN q,iw q⟩
theorem bD.jR {q:Rat} {w w':World} {e:Ending} (h:bD q w e w'): ∃r:bE,e= .returned (.agg #[.bool r.s,.slice r.a r.k r.c,.slice r.b r.j r.d])/\dO w' r q w.heap.size/\Ext w w':=by
 obtain ⟨a,c,a',c',he,hr,hf,oB,hf',hx⟩:=h;exact ⟨⟨decide (q.num<0),a,len q.num.natAbs,c,a',len q.den,c'⟩,he,⟨rfl,rfl,rfl,hr,oB,hf,hf'⟩,hx⟩
theorem dO.qP {w w':World} {r:bE} {q:Rat} (h:dO w' r q w.heap.size) (hx:Ext w w'):bD q w (.returned (.agg #[.bool r.s,.slice r.a r.k r.c,.slice r.b r.j r.d])) w':=by
 refine ⟨r.a,r.c,r.b,r.d,by rw [h.s,h.k,h.j],?_,h.fa,?_,h.fb,hx⟩
 .have:=h.num;rwa [h.k]at this
 .have:=h.den;rwa [h.j]at this
def bO (l:List Rat):Rat:=l.foldl (· + ·) 0
theorem m_ {l:List Rat} {i:Nat} (h:i<l.length):bO (l.take (i+1))=bO (l.take i)+l[i]:=by
 unfold bO;rw [List.take_succ_eq_append_getElem h,List.foldl_append];rfl
theorem Dh (w:World) (a:Option Addr) (c:Nat) (rs:List bE) (qs:List Rat) (L:Nat) (h:jV w a c rs qs L) (hb:rs.length*(L+2)+L+1<100000000):
 Calls prog 64 #[.slice a rs.length c] w (bD (bO qs) w):=by
 have hle:=h.le;have eI:=h.cap;have ur:=h.short;go_enter func64,ntmps64
 go_wp2_with fail
 obtain ⟨W,hW,x0,Z0,A0⟩:=bS w 63 [.bool false,.slice none 0 0,.slice none 0 0];rw [<-hW];clear hW;obtain ⟨z0,aD,aF,bn,aM,aN,bG⟩:=bb1 aA A0 ah;refine (ko _ _ ai ai).mono ?_;intro e w1 hN;obtain ⟨r1,rfl,hr1,hx1⟩:=hN.jR;obtain ⟨z0,aD,aF,bn,aM,aN,bG⟩:=bb1 aA A0 hx1;go_wp2
 obtain ⟨w2,hw2⟩: ∃w2,w2=w1.alloc (Obj.cells #[.bool r1.s,.slice r1.a r1.k r1.c,.slice r1.b r1.j r1.d] 63):=⟨_,rfl⟩;rw [<-hw2];have E2:Ext w w2:=by rw [hw2];exact (x0.trans hx1).alloc _
 have P2:aY w2 w1.heap.size 63 r1.cells:=by rw [hw2];exact aY.alloc _ _ _
 have R2:dO w2 r1 (bO (qs.take 0)) (w.heap.size+1):=by rw [hw2,<-Z0.o];exact hr1.ext (ah.alloc _)
 have Q2:dW (bO (qs.take 0))<=2:=by show dW (((0:Int):Rat))<=2;rw [gi];decide
 have C2:aY w2 w.heap.size 63 [.bool false,.slice none 0 0,.slice none 0 0]:=by rw [hw2];exact (A0.ext hx1).ext (ah.alloc _)
 have S1:w.heap.size<w1.heap.size:=z0;clear hw2 aD aF bn aM aN bG z0 hr1 hN;go_loopw [9] (λii wr=> ∃(i:Nat) (r:bE),i<=rs.length/\Hid (aY wr w1.heap.size 63 r.cells)/\dO wr r (bO (qs.take i)) (w.heap.size+1)/\Hid (dW (bO (qs.take i))<=i*(L+2)+2)/\Hid (aY wr w.heap.size 63 [.bool false,.slice none 0 0,.slice none 0 0])/\Ext w wr/\ii= .int .i64 i) (λii _=>rs.length-(intOf ii).toNat)
 case atStart=>exact ⟨0,r1,bm,P2,R2,Nat.le_trans Q2 ae,C2,E2,rfl⟩
 case round=>
  obtain ⟨i,r,hi,hP,hR,hS,hC,hE,rfl⟩:=hrel;by_cases hlt:i<rs.length
  .have hq:=h.ext hE
   obtain ⟨b,o,rfl⟩:=h.at ae;obtain ⟨b',o',e',c0,c1,c2⟩:=hq.cell i hlt;cases e'
   obtain ⟨n',m',g1,g2,gq,N9,N_⟩:=hq.num i hlt;obtain ⟨n,m,f1,f2,fq,ZX,ZY⟩:=hR.lZ.mono hS.o
   have hmul:i*(L+2)+(L+2)<=rs.length*(L+2):=by
    rw [<-Nat.succ_mul];exact Nat.mul_le_mul_right _ hlt
   generalize rs[i]=y at*;have FQ:=af fq;have GQ:=af gq;clear fq gq
   obtain ⟨p0,p1,p2,p3,p4,p5⟩:=aA hP.o ah;have pz:=hP.o.lt;have cz:=hC.o.lt;go_wp2_with fail
   refine (Df _ _ _ _ _ _ _ _ _ _ (f1.ext (ah.alloc _)) (f2.ext (ah.alloc _)) _ _ _ _ _ _ _ _ _ (g1.ext (ah.alloc _)) (g2.ext (ah.alloc _)) ae ae ae ae).mono ?_;intro e w3 hN;rw [<-FQ.o,<-GQ.o]at hN;obtain ⟨r3,rfl,hr3,hx3⟩:=hN.jR;obtain ⟨pz3,p0,p1,p2,p3,p4,p5⟩:=bb1 aA hP.o ((ah.alloc _).trans hx3);have hP3:=hP.o.ext ((ah.alloc _).trans hx3);have hC3:=hC.o.ext ((ah.alloc _).trans hx3)
   have Wk:dW (bO (qs.take i)+qs[i]'(by rw [h.len];exact hlt))<=(i+1)*(L+2)+2:=by
    have a1:=jm (bO (qs.take i)) (qs[i]'(by rw [h.len];exact hlt));have a2:=hS.o;have a3:=fI.dW ⟨n',m',g1,g2,GQ.o,N9,N_⟩;rw [Nat.succ_mul];omega
   have SZ:=af Wk;clear Wk
   have hsz:w1.heap.size<(wr.alloc (Obj.cells #[.bool y.s,.slice y.a y.k y.c,.slice y.b y.j y.d] 63)).heap.size:=by simp;omega
   go_wp2
   go_roundw
   case rel=>
    refine ⟨i+1,r3,ae,?_,?_,?_,?_,Ext.tT ((hE.alloc _).trans hx3) ae _ _ _,bq⟩
    .exact (((hP3.set 0 _).set 1 _).set 2 _)
    .rw [m_ (by rw [h.len];exact hlt)]
     exact (((hr3.setCell _ _ hsz).setCell _ _ hsz).setCell _ _ hsz).mono (by simp;omega)
    .rw [m_ (by rw [h.len];exact hlt)];exact SZ.o
    .exact ((hC3.other _ _ (by simp;omega)).other _ _ (by simp;omega)).other _ _ (by simp;omega)
   case measure=>simp [intOf];omega
  .obtain rfl:i=rs.length:=ae
   rw [show qs.take rs.length=qs from List.take_of_length_le (by rw [h.len];exact cG)]at hR;obtain ⟨p0,p1,p2,p3,p4,p5⟩:=aA hP.o ah;have q0:=aA hC.o ah;go_wp2
   exact bodyPost_ret (by simp [results,results64,go_sem, *]) rfl (dO.qP ((((hR.setCell _ _ (Nat.lt_succ_self _)).setCell _ _ (Nat.lt_succ_self _)).setCell _ _ (Nat.lt_succ_self _)).mono (Nat.le_succ _)) (Ext.tT hE cG _ _ _))
def iV:List Value:= [.bool false,.slice none 0 0,.slice none 0 0]
def fh:Nat->List Value
 |0=> []
 |n+1=>iV++fh n
theorem tD (n:Nat):(fh n).length=n*3:=by
 induction n with
 |zero=>rfl
 |succ n ih=>unfold fh;rw [List.length_append,ih];simp [iV];omega
theorem pK (n i:Nat) (h:i<n*3):(fh n)[i]?=iV[i % 3]?:=by
 induction n generalizing i with
 |zero=>omega
 |succ n ih=>
  unfold fh;by_cases hi:i<3
  .rw [List.getElem?_append_left (by simpa [iV]using hi),Nat.mod_eq_of_lt hi]
  .rw [List.getElem?_append_right (by simp [iV];omega)]
   have:iV.length=3:=rfl;rw [this,ih (i-3) ae];congr 1;omega
theorem qh (n:Nat):madeCells iV.toArray (n*3)=(fh n).toArray:=by
 apply Array.ext_getElem?;intro i;unfold madeCells;by_cases h:i<n*3
 .rw [Array.getElem?_map,Array.getElem?_range,List.getElem?_toArray,pK n i h]
  simp only [h,if_true,Option.map_some];have h3:i % 3<3:=Nat.mod_lt _ ai;have hz:iV.toArray.size=3:=rfl;rw [hz];generalize i % 3=k at h3⊢;match k,h3 with
  |0,_=>rfl
  |1,_=>rfl
  |2,_=>rfl
 .rw [Array.getElem?_eq_none (by simp;omega),List.getElem?_toArray,List.getElem?_eq_none (by rw [tD];omega)]
theorem Tryz.info_rat:(Tryz.prog.info? 63).map (λi=>(i.zero,i.size,i.bytes))=some (some (.agg iV.toArray),3,56):=aw
def bX (l:List bE):List Value:=l.flatMap bE.cells
theorem eu (l:List bE):(bX l).length=l.length*3:=by
 induction l with
 |nil=>rfl
 |cons r l ih=>simp only [bX,List.flatMap_cons,List.length_append,bE.cells,List.length_cons,List.length_nil]at*;omega
theorem dz (l:List bE) (i k:Nat) (h:i<l.length) (hk:k<3):(bX l)[i*3+k]?=(l[i].cells)[k]?:=by
 induction l generalizing i with
 |nil=>simp at h
 |cons r l ih=>
  have e:bX (r::l)=r.cells++bX l:=by simp [bX]
  rw [e];have hc:r.cells.length=3:=rfl;cases i with
  |zero=>rw [List.getElem?_append_left ae];simp
  |succ i=>
   rw [List.getElem?_append_right ae,hc,show(i+1)*3+k-3=i*3+k from ae,ih i (by simpa using h)];simp
