/- Texts of the proof. -/
import Derived.Test.YtfokdakioeoniaaGreatCj18
import Derived.Test.YtfokdakioeoniaaGreatCj19
import Derived.Test.YtfokdakioeoniaaGreatCj20
set_option linter.all false
namespace Go.Proofs.YtfokdakioeoniaaGreat
open Go.Proofs.Tryz
open Go.RowKit
theorem fE.but {w w':World} {r:bE} {q:Rat} {L F:Nat} (h:fE w r q L) (x:aH F w w') (o:xi r (some F)):fE w' r q L:=
 ⟨h.rat.keep (λk hk hne=>x.block k hk λe=>hne (by rw [e])) o,h.k,h.j⟩
theorem om {w:World} {r:bE} {q:Rat} {B F:Nat} (h:dO w r q B) (hB:F<B):xi r (some F):=
 ⟨λ_ p e g=>by have:=h.fa p e;cases g;omega,λ_ p e g=>by have:=h.fb p e;cases g;omega⟩
theorem fE.off {w:World} {r:bE} {q:Rat} {L F:Nat} (h:fE w r q L) (hF:w.heap.size<=F):xi r (some F):=by
 obtain ⟨⟨n,m,h1,h2,-⟩,-,-⟩:=h;exact ⟨λh0 p e g=>by have:=h1.lt h0 p e;cases g;omega,λh0 p e g=>by have:=h2.lt h0 p e;cases g;omega⟩
structure QV where
 r:bE
 q:Rat
structure fM where
 a:Option Addr
 c:Nat
 l:List QV
def QV.cells (x:QV):List Value:=x.r.cells
def fM.v (x:fM):Value:= .slice x.a x.l.length x.c
def fM.cells (x:fM):List Value:= [.slice x.a x.l.length x.c]
def fM.q (x:fM) (i:Nat):Rat:=(x.l[i]?.map QV.q).getD 0
structure ku where
 a:Option Addr
 c:Nat
 l:List fM
def ku.v (x:ku):Value:= .slice x.a x.l.length x.c
def ku.q (x:ku) (i j:Nat):Rat:=(x.l[i]?.map λy=>y.q j).getD 0
structure tF where
 sa:Option Addr
 sc:Nat
 states:List Int
 e:fM
 r:fM
def tF.cells (x:tF):List Value:= [.slice x.sa x.states.length x.sc,.slice x.e.a x.e.l.length x.e.c,.slice x.r.a x.r.l.length x.r.c]
structure eF where
 hour:Int
 br:Int
 up:fM
 down:fM
def eF.cells (x:eF):List Value:= [i64 x.hour,i64 x.br,.slice x.up.a x.up.l.length x.up.c,.slice x.down.a x.down.l.length x.down.c]
structure aQ where
 ua:Option Addr
 uc:Nat
 ay:List tF
 cB:ku
 disch:ku
 level:ku
 imp:ku
 er:ku
 shift:ku
 ma:Option Addr
 mc:Nat
 moves:List eF
def aQ.cells (s:aQ):List Value:= [.slice s.ua s.ay.length s.uc,.slice s.cB.a s.cB.l.length s.cB.c,.slice s.disch.a s.disch.l.length s.disch.c,.slice s.level.a s.level.l.length s.level.c,.slice s.imp.a s.imp.l.length s.imp.c,.slice s.er.a s.er.l.length s.er.c,.slice s.shift.a s.shift.l.length s.shift.c,.slice s.ma s.moves.length s.mc]
structure oK where
 hour:Int
 br:Int
 fc:fM
def oK.cells (x:oK):List Value:= [i64 x.hour,i64 x.br,.slice x.fc.a x.fc.l.length x.fc.c]
structure aU where
 b_:ku
 bC:fM
 ma:Option Addr
 mc:Nat
 moves:List oK
def aU.cells (p:aU):List Value:= [.slice p.b_.a p.b_.l.length p.b_.c,.slice p.bC.a p.bC.l.length p.bC.c,.slice p.ma p.moves.length p.mc]
structure eC (w:World) (x:fM) (L:Nat):Prop where
 recs:di w 3 x.a x.c (x.l.map QV.cells)
 num: ∀y∈x.l,fE w y.r y.q L
structure jW (w:World) (x:ku) (L:Nat):Prop where
 recs:di w 1 x.a x.c (x.l.map fM.cells)
 row: ∀y∈x.l,eC w y L
structure eM (w:World) (s:aQ) (L:Nat):Prop where
 ay:di w 3 s.ua s.uc (s.ay.map tF.cells)
 unit: ∀p∈s.ay,bV w p.sa p.sc p.states/\eC w p.e L/\eC w p.r L
 kT: ∀m∈ [s.cB,s.disch,s.level,s.imp,s.er,s.shift],jW w m L
 moves:di w 4 s.ma s.mc (s.moves.map eF.cells)
 move: ∀m∈s.moves,dx m.hour/\dx m.br/\eC w m.up L/\eC w m.down L
structure fS (w:World) (p:aU) (L:Nat):Prop where
 b_:jW w p.b_ L
 bC:eC w p.bC L
 moves:di w 3 p.ma p.mc (p.moves.map oK.cells)
 move: ∀m∈p.moves,dx m.hour/\dx m.br/\eC w m.fc L
theorem eC.ext {w w':World} {x:fM} {L:Nat} (h:eC w x L) (e:Ext w w'):eC w' x L:=⟨h.recs.ext e,λy hy=>(h.num y hy).ext e⟩
theorem jW.ext {w w':World} {x:ku} {L:Nat} (h:jW w x L) (e:Ext w w'):jW w' x L:=⟨h.recs.ext e,λy hy=>(h.row y hy).ext e⟩
theorem eM.ext {w w':World} {s:aQ} {L:Nat} (h:eM w s L) (e:Ext w w'):eM w' s L:=
 ⟨h.ay.ext e,λp hp=>⟨(h.unit p hp).1.ext e,(h.unit p hp).2.1.ext e,(h.unit p hp).2.2.ext e⟩,λm hm=>(h.kT m hm).ext e,h.moves.ext e,λm hm=>⟨(h.move m hm).1,(h.move m hm).2.1,(h.move m hm).2.2.1.ext e,(h.move m hm).2.2.2.ext e⟩⟩
theorem fS.ext {w w':World} {p:aU} {L:Nat} (h:fS w p L) (e:Ext w w'):fS w' p L:=
 ⟨h.b_.ext e,h.bC.ext e,h.moves.ext e,λm hm=>⟨(h.move m hm).1,(h.move m hm).2.1,(h.move m hm).2.2.ext e⟩⟩
theorem eC.le {w:World} {x:fM} {L:Nat} (h:eC w x L):x.l.length<=x.c/\x.c<=9223372036854775807:=⟨by have:=h.recs.le;rwa [List.length_map]at this,h.recs.cap⟩
theorem jW.le {w:World} {x:ku} {L:Nat} (h:jW w x L):x.l.length<=x.c/\x.c<=9223372036854775807:=⟨by have:=h.recs.le;rwa [List.length_map]at this,h.recs.cap⟩
theorem eC.at {w:World} {x:fM} {L:Nat} (h:eC w x L) (i:Nat) (hi:i<x.l.length): ∃b o r,x.a=some ⟨b,o,none⟩/\Hid (fE w r (x.q i) L)/\ ∀Y,Ext w Y->Y.cell? ⟨b,o+i*3,none⟩=some (.bool r.s)/\Y.cell? ⟨b,o+i*3+1,none⟩=some (.slice r.a r.k r.c)/\Y.cell? ⟨b,o+i*3+2,none⟩=some (.slice r.b r.j r.d):=by
 obtain ⟨b,o,ha,hc⟩:=h.recs.cs i hi;have hn:=h.num _ (List.getElem_mem hi);have hq:x.q i=(x.l[i]).q:=by unfold fM.q;rw [List.getElem?_eq_getElem hi];rfl
 refine ⟨b,o,(x.l[i]).r,ha,by rw [hq];exact hn,λY e=> ?_⟩;obtain ⟨h1,h2,h3,-⟩:=hc;exact ⟨aB e h1,aB e h2,aB e h3⟩
theorem jW.at {w:World} {x:ku} {L:Nat} (h:jW w x L) (i:Nat) (hi:i<x.l.length): ∃b o y,x.a=some ⟨b,o,none⟩/\Hid (y=x.l[i])/\Hid (eC w y L)/\Hid (∀j,x.q i j=y.q j)/\ ∀Y,Ext w Y->Y.cell? ⟨b,o+i,none⟩=some (.slice y.a y.l.length y.c):=by
 obtain ⟨b,o,ha,hc⟩:=h.recs.cs i hi;refine ⟨b,o,x.l[i],ha,rfl,h.row _ (List.getElem_mem hi),λj=> ?_,λY e=> ?_⟩
 .unfold ku.q;rw [List.getElem?_eq_getElem hi];rfl
 .have:=hc.1
  rw [Nat.mul_one,Nat.add_zero]at this;exact aB e this
def cE (t:ku) (n m:Int):Bool:=decide ((t.l.length:Int)=n)&&t.l.all λy=>decide ((y.l.length:Int)=m)
theorem gZ {t:ku} {n m:Int}:cE t n m=true↔(t.l.length:Int)=n/\ ∀y∈t.l,(y.l.length:Int)=m:=by
 unfold cE;simp [List.all_eq_true]
theorem jo {P Q:Prop} (h:P) (e:P=Q:=by simp only [Cs,cH.cells,ee.cells,iQ.cells,cw.cells,gY.cells,cI.cells,cX.cells,bE.cells,QV.cells,fM.cells,tF.cells,eF.cells,oK.cells,Nat.add_zero,Nat.zero_add,Nat.reduceAdd];rfl):Q:=e▸h
theorem gO {P Q:Prop} (h:P) (e:P=Q:=by simp only [Cs,cH.cells,ee.cells,iQ.cells,cw.cells,gY.cells,cI.cells,cX.cells,bE.cells,QV.cells,fM.cells,tF.cells,eF.cells,oK.cells,Nat.add_zero,Nat.zero_add,Nat.reduceAdd,and_true];rfl):Q:=e▸h
def kN (V:World) (q:Rat) (L:Nat) (e:Ending) (w':World):Prop:= ∃r:bE,e= .returned (.agg #[.bool r.s,.slice r.a r.k r.c,.slice r.b r.j r.d])/\fE w' r q L/\dO w' r q V.heap.size/\Ext V w'
theorem kN.of {w w':World} {q:Rat} {e:Ending} {L:Nat} (h:bD q w e w') (hl:dW q<=L):kN w q L e w':=fE.new h hl
theorem vq (V:World) (r r':bE) (q q':Rat) (L L':Nat) (h:fE V r q L) (h':fE V r' q' L') (hL:1<=L/\1<=L'/\L+L'<=10000000:=by omega):Calls prog 44 #[.agg #[.bool r.s,.slice r.a r.k r.c,.slice r.b r.j r.d],.agg #[.bool r'.s,.slice r'.a r'.k r'.c,.slice r'.b r'.j r'.d]] V (kN V (q+q') (L+L'+1)):=by
 have hs:=jm q q';have h1:=h.rat.dW;have h2:=h'.rat.dW
 obtain ⟨⟨n,m,a1,a2,rfl,a3,a4⟩,ak,aj⟩:=h;obtain ⟨⟨n',m',b1,b2,rfl,b3,b4⟩,bk,bj⟩:=h';exact (Df V _ _ _ _ _ _ _ _ _ a1 a2 _ _ _ _ _ _ _ _ _ b1 b2 ae ae ae ae).mono λe w' hh=>kN.of hh ae
theorem rI (V:World) (r r':bE) (q q':Rat) (L L':Nat) (h:fE V r q L) (h':fE V r' q' L') (hL:1<=L/\1<=L'/\L+L'<=10000000:=by omega):Calls prog 46 #[.agg #[.bool r.s,.slice r.a r.k r.c,.slice r.b r.j r.d],.agg #[.bool r'.s,.slice r'.a r'.k r'.c,.slice r'.b r'.j r'.d]] V (kN V (q-q') (L+L'+1)):=by
 have hs:=od q q';have h1:=h.rat.dW;have h2:=h'.rat.dW
 obtain ⟨⟨n,m,a1,a2,rfl,a3,a4⟩,ak,aj⟩:=h;obtain ⟨⟨n',m',b1,b2,rfl,b3,b4⟩,bk,bj⟩:=h';exact (Ka V _ _ _ _ _ _ _ _ _ a1 a2 _ _ _ _ _ _ _ _ _ b1 b2 ae ae ae ae).mono λe w' hh=>kN.of hh ae
theorem rJ (V:World) (r r':bE) (q q':Rat) (L L':Nat) (h:fE V r q L) (h':fE V r' q' L') (hL:1<=L/\1<=L'/\L+L'<=10000000:=by omega):Calls prog 45 #[.agg #[.bool r.s,.slice r.a r.k r.c,.slice r.b r.j r.d],.agg #[.bool r'.s,.slice r'.a r'.k r'.c,.slice r'.b r'.j r'.d]] V (kN V (q*q') (L+L'+1)):=by
 have hs:=lS q q';have h1:=h.rat.dW;have h2:=h'.rat.dW
 obtain ⟨⟨n,m,a1,a2,rfl,a3,a4⟩,ak,aj⟩:=h;obtain ⟨⟨n',m',b1,b2,rfl,b3,b4⟩,bk,bj⟩:=h';exact (J9 V _ _ _ _ _ _ _ _ _ a1 a2 _ _ _ _ _ _ _ _ _ b1 b2 ae ae ae ae).mono λe w' hh=>kN.of hh ae
theorem Tq (V:World) (r:bE) (q:Rat) (L:Nat) (h:fE V r q L) (hL:1<=L/\L<=10000000:=by omega):Calls prog 63 #[.agg #[.bool r.s,.slice r.a r.k r.c,.slice r.b r.j r.d]] V (kN V (-q) L):=by
 have hs:=mU q;have h1:=h.rat.dW
 obtain ⟨⟨n,m,a1,a2,rfl,a3,a4⟩,ak,aj⟩:=h;exact (De V _ _ _ _ _ _ _ _ _ a1 a2 ae ae).mono λe w' hh=>kN.of hh ae
theorem CD (V:World) (z:Int) (h0: -4294967296<z) (h1:z<4294967296):Calls prog 48 #[.int .i64 z] V (kN V (z:Rat) 1):=
 (ko V z ae ae).mono λe w' hh=>kN.of hh (by rw [gi];have:=cg.2 (show z.natAbs<4294967296^1 by omega);omega)
theorem vr (V:World) (r r':bE) (q q':Rat) (L L':Nat) (h:fE V r q L) (h':fE V r' q' L') (hL:1<=L/\1<=L'/\L+L'<=10000000:=by omega):Calls prog 57 #[.agg #[.bool r.s,.slice r.a r.k r.c,.slice r.b r.j r.d],.agg #[.bool r'.s,.slice r'.a r'.k r'.c,.slice r'.b r'.j r'.d]] V (kN V (q+q') (L+L'+1)):=by
 have hs:=jm q q';have h1:=h.rat.dW;have h2:=h'.rat.dW
 obtain ⟨⟨n,m,a1,a2,rfl,a3,a4⟩,ak,aj⟩:=h;obtain ⟨⟨n',m',b1,b2,rfl,b3,b4⟩,bk,bj⟩:=h';exact (IJ V _ _ _ _ _ _ _ _ _ a1 a2 _ _ _ _ _ _ _ _ _ b1 b2 ae ae ae ae).mono λe w' hh=>kN.of hh ae
theorem Kt (V:World) (r r':bE) (q q':Rat) (L L':Nat) (h:fE V r q L) (h':fE V r' q' L') (hL:1<=L/\1<=L'/\L+L'<=10000000:=by omega):Calls prog 49 #[.agg #[.bool r.s,.slice r.a r.k r.c,.slice r.b r.j r.d],.agg #[.bool r'.s,.slice r'.a r'.k r'.c,.slice r'.b r'.j r'.d]] V (kN V (q-q') (L+L'+1)):=by
 have hs:=od q q';have h1:=h.rat.dW;have h2:=h'.rat.dW
 obtain ⟨⟨n,m,a1,a2,rfl,a3,a4⟩,ak,aj⟩:=h;obtain ⟨⟨n',m',b1,b2,rfl,b3,b4⟩,bk,bj⟩:=h';exact (IK V _ _ _ _ _ _ _ _ _ a1 a2 _ _ _ _ _ _ _ _ _ b1 b2 ae ae ae ae).mono λe w' hh=>kN.of hh ae
theorem qx (V:World) (r r':bE) (q q':Rat) (L L':Nat) (h:fE V r q L) (h':fE V r' q' L') (hL:1<=L/\1<=L'/\L+L'<=10000000:=by omega):Calls prog 58 #[.agg #[.bool r.s,.slice r.a r.k r.c,.slice r.b r.j r.d],.agg #[.bool r'.s,.slice r'.a r'.k r'.c,.slice r'.b r'.j r'.d]] V (kN V (q*q') (L+L'+1)):=by
 have hs:=lS q q';have h1:=h.rat.dW;have h2:=h'.rat.dW
 obtain ⟨⟨n,m,a1,a2,rfl,a3,a4⟩,ak,aj⟩:=h;obtain ⟨⟨n',m',b1,b2,rfl,b3,b4⟩,bk,bj⟩:=h';exact (UF V _ _ _ _ _ _ _ _ _ a1 a2 _ _ _ _ _ _ _ _ _ b1 b2 ae ae ae ae).mono λe w' hh=>kN.of hh ae
theorem Yo (V:World) (r r':bE) (q q':Rat) (L L':Nat) (h:fE V r q L) (h':fE V r' q' L') (hL:1<=L/\1<=L'/\L+L'<=10000000:=by omega):Calls prog 20 #[.agg #[.bool r.s,.slice r.a r.k r.c,.slice r.b r.j r.d],.agg #[.bool r'.s,.slice r'.a r'.k r'.c,.slice r'.b r'.j r'.d]] V λe w'=>e= .returned (.int .i64 (fY q q'))/\Ext V w':=by
 obtain ⟨⟨n,m,a1,a2,rfl,a3,a4⟩,ak,aj⟩:=h;obtain ⟨⟨n',m',b1,b2,rfl,b3,b4⟩,bk,bj⟩:=h';exact pL V _ _ _ _ _ _ _ _ _ a1 a2 _ _ _ _ _ _ _ _ _ b1 b2 ae ae ae ae
theorem Yp (V:World) (r:bE) (q:Rat) (L:Nat) (h:fE V r q L) (hL:1<=L/\L<=10000000:=by omega):Calls prog 56 #[.agg #[.bool r.s,.slice r.a r.k r.c,.slice r.b r.j r.d]] V (kN V (-q) L):=by
 have hs:=mU q;have h1:=h.rat.dW
 obtain ⟨⟨n,m,a1,a2,rfl,a3,a4⟩,ak,aj⟩:=h;exact (II V _ _ _ _ _ _ _ _ _ a1 a2 ae ae).mono λe w' hh=>kN.of hh ae
theorem Yq (V:World) (z:Int) (h0: -4294967296<z) (h1:z<4294967296):Calls prog 16 #[.int .i64 z] V (kN V (z:Rat) 1):=
 (kf V z ae ae).mono λe w' hh=>kN.of hh (by rw [gi];have:=cg.2 (show z.natAbs<4294967296^1 by omega);omega)
theorem DY (V:World):Calls prog 17 #[] V (kN V 0 1):=LX V
