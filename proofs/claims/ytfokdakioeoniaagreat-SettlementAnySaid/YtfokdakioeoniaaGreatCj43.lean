/- Texts of the proof. -/
import Derived.Test.YtfokdakioeoniaaGreatCj38
import Derived.Test.YtfokdakioeoniaaGreatCj42
set_option linter.all false
set_option maxHeartbeats 4000000
set_option maxRecDepth 100000
namespace Go.Proofs.YtfokdakioeoniaaGreat
open Go.Proofs.Tryz
open Go.RowKit
def Ei (vs:List Value):Bool:=vs.all λv=>match v with| .int _ _=>false|_=>true
theorem Raw.off {w:World} {a:Option Addr} {k c n:Nat} {E:Nat} {T:TypeId} {vs:List Value} (h:Raw w a k c n) (A:aY w E T vs) (hv:Ei vs=true) (hk:0<k) (p:Addr) (hp:a=some p):some p.block≠some E:=by
 intro e;cases e
 obtain ⟨l,e1,e2,e3⟩:=h;obtain ⟨b,o,ha,hc⟩:=e3.cell 0 ae;rw [hp]at ha;cases ha
 rw [A.cell,List.getElem?_eq_some_iff]at hc;obtain ⟨h1,h2⟩:=hc;have:=List.all_eq_true.1 hv _ (List.getElem_mem h1);rw [h2]at this;cases this
theorem fE.Vx {w:World} {r:bE} {q:Rat} {L E:Nat} {T:TypeId} {vs:List Value} (h:fE w r q L) (A:aY w E T vs) (hv:Ei vs=true):xi r (some E):=by
 obtain ⟨⟨n,m,h1,h2,-⟩,-,-⟩:=h;exact ⟨λhk p hp=>h1.off A hv hk p hp,λhk p hp=>h2.off A hv hk p hp⟩
theorem qa (r:bE):Ei r.cells=true:=rfl
theorem di.RS {w w':World} {m c E:Nat} {a:Option Addr} {l:List (List Value)} (h:di w m a c l) (hE: ∀p,a=some p->p.block≠E) (x:aH E w w'):di w' m a c l:=
 ⟨h.le,h.cap,λi hi=>by
   obtain ⟨b,o,ha,hc⟩:=h.cell i hi;refine ⟨b,o,ha,λj hj=> ?_⟩;have h1:=hc j hj;have hlt:=eH h1;unfold World.cell? at h1⊢;rw [x.block b hlt (hE _ ha)];exact h1⟩
structure eA (W0:World) (E:Nat) (q:Rat) (L:Nat) (w:World):Prop where
 ext:Ext W0 w
 le:W0.heap.size<=E
 num: ∃r:bE,aY w E 63 r.cells/\fE w r q L
theorem eA.next {W0 w w':World} {E L:Nat} {q:Rat} (h:eA W0 E q L w) (x:Ext w w'):eA W0 E q L w':=by
 obtain ⟨r,h1,h2⟩:=h.num;exact ⟨h.ext.trans x,h.le,r,h1.ext x,h2.ext x⟩
theorem eA.mono {W0 w:World} {E L L':Nat} {q:Rat} (h:eA W0 E q L w) (e:L<=L'):eA W0 E q L' w:=by
 obtain ⟨r,h1,h2⟩:=h.num;exact ⟨h.ext,h.le,r,h1,h2.mono e⟩
theorem eA.lt {W0 w:World} {E L:Nat} {q:Rat} (h:eA W0 E q L w):E<w.heap.size:=by obtain ⟨r,h1,-⟩:=h.num;exact h1.lt
theorem eA.get {W0 w:World} {E L:Nat} {q:Rat} (h:eA W0 E q L w): ∃r:bE,Hid (fE w r q L)/\ ∀Y,Ext w Y->Y.cell? ⟨E,0,none⟩=some (.bool r.s)/\Y.cell? ⟨E,1,none⟩=some (.slice r.a r.k r.c)/\Y.cell? ⟨E,2,none⟩=some (.slice r.b r.j r.d):=by
 obtain ⟨r,h1,h2⟩:=h.num;exact ⟨r,h2,λY e=>⟨by rw [(h1.ext e).cell];rfl,by rw [(h1.ext e).cell];rfl,by rw [(h1.ext e).cell];rfl⟩⟩
theorem eA.frozen {W0 w:World} {E L:Nat} {q:Rat} (h:eA W0 E q L w) (i:Nat):w.frozen? ⟨E,i,none⟩=false:=by obtain ⟨r,h1,-⟩:=h.num;exact h1.frozen i
def mK (w:World) (E:Nat) (r:bE):World:=((w.setCell ⟨E,0,none⟩ (.bool r.s)).setCell ⟨E,1,none⟩ (.slice r.a r.k r.c)).setCell ⟨E,2,none⟩ (.slice r.b r.j r.d)
theorem cF (w:World) (E:Nat) (r:bE):aH E w (mK w E r):=(((aH.refl E w).nT).nT).nT
theorem eA.arr {W0 w:World} {E L:Nat} {q:Rat} (h:eA W0 E q L w): ∃r0:bE,aY w E 63 r0.cells:=by obtain ⟨r,h1,-⟩:=h.num;exact ⟨r,h1⟩
theorem eA.put {W0 w:World} {E L L':Nat} {q q':Rat} (h:eA W0 E q L w) {r:bE} (hr:fE w r q' L'):eA W0 E q' L' (mK w E r):=by
 obtain ⟨r0,h1,-⟩:=h.num;exact ⟨(cF w E r).ext h.ext h.le,h.le,r,((h1.set 0 (.bool r.s)).set 1 (.slice r.a r.k r.c)).set 2 (.slice r.b r.j r.d),hr.but (cF w E r) (hr.Vx h1 (qa r0))⟩
theorem fE.vu {w w':World} {r r0:bE} {q:Rat} {L E:Nat} (h:fE w r q L) (A:aY w E 63 r0.cells) (x:aH E w w'):fE w' r q L:=h.but x (h.Vx A (qa r0))
theorem eC.vu {w w':World} {y:fM} {r0:bE} {L E:Nat} (h:eC w y L) (A:aY w E 63 r0.cells) (x:aH E w w') (hE: ∀p,y.a=some p->p.block≠E):eC w' y L:=⟨h.recs.RS hE x,λz hz=>(h.num z hz).vu A x⟩
def Jt (V:World) (c:aq) (S:aQ) (h o:Int) (e:Ending) (w':World):Prop:=
 (GF c S h o=0/\ ∃K,e= .returned (.tuple #[.slice (some ⟨K,0,none⟩) c.ar.length c.ar.length,i64 0])/\QA w' K c.ar.length (mj c S h.toNat o) 400/\V.heap.size<=K/\Ext V w')\/(¬GF c S h o=0/\e= .returned (.tuple #[.slice none 0 0,i64 (GF c S h o)])/\Ext V w')
theorem wL {c:aq} {S:aQ} {h o:Int} (q:GF c S h o=0):eY c S/\0<=h/\h<c.hours:=by
 unfold GF at q;split at q
 .rename_i h1
  split at q
  .rename_i h2;exact ⟨h1,h2.1⟩
  .cases q
 .cases q
theorem BH (V:World) (c:aq) (S:aQ) (h o:Int) (hc:bK V c) (hl:kU c) (h0:cC c=0) (hA:Acc c) (hs:eM V S 4) (hn:S.moves.length<=1000000):
 Calls prog 47 #[.agg (C8 c),.agg S.cells.toArray,.int .i64 h,.int .i64 o] V (Jt V c S h o):=by
 try unfold C8
 have p7:=af (λU (x:Ext V U)=>Pv U c S 4 h o (hc.ext x) hl h0 hA (hs.ext x));have Hz:=af (λU (x:Ext V U) (k:Nat) (hk:(k:Int)<c.hours) (q:eY c S)=>BG U c S k o (hc.ext x) hA (hs.ext x) q hk hn);clear hc hl h0 hA hs hn;unfold aQ.cells at p7 Hz⊢;go_enter func47,ntmps47
 go_upto_region 1 with fail
 generalize hW1:World.alloc V _=W1;generalize hW:World.alloc W1 _=W;obtain ⟨G,R,hG,hR,HX,dY,gH,nW⟩:=jD hW1 hW;rw [<-hG];try rw [hR]
 clear hW hW1 hG hR;have K: ∀Y,Ext W Y->_:=λY e=>aq.at (dY.o.ext e);have K1: ∀Y,Ext W Y->_:=λY e=>(gH.o.ext e).cs;replace K1:=jo K1;have st:=Ext.refl W;go_wp2_with fail
 refine (p7.o W HX.o).mono ?_;rintro e w1 ⟨rfl,xx⟩;clear p7;replace st:=st.trans xx;clear xx;by_cases q:GF c S h o=0
 .have HQ:=af q
  have t1:(GF c S h o !=0)=false:=by simpa using q
  obtain ⟨k,rfl⟩: ∃k:Nat,h=(k:Int):=⟨h.toNat,dB (wL q)⟩;clear q;go_wp2_with fail
  refine (Hz.o w1 (HX.o.trans st) k (wL HQ.o).2.2 (wL HQ.o).1).mono ?_;rintro e w2 ⟨E,rfl,hq,hle,x2⟩;have HE:=af (And.intro hq (And.intro hle x2));clear hq hle x2;go_wp2_with fail
  go_ret2
  exact Or.inl ⟨HQ.o,E,rfl,HE.o.1,Nat.le_trans (HX.o.trans st).size HE.o.2.1,(HX.o.trans st).trans HE.o.2.2⟩
 .have HQ:=af q
  have t1:(GF c S h o !=0)=true:=by simpa using q
  clear q;go_wp2_with fail
  go_ret2
  exact Or.inr ⟨HQ.o,rfl,HX.o.trans st⟩
