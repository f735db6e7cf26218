/- Texts of the proof. -/
import Derived.Test.YtkpngkdgphojlaaGreatCf12
set_option linter.all false
set_option maxHeartbeats 4000000
set_option maxRecDepth 100000
namespace Go.Proofs.YtkpngkdgphojlaaGreat
open Go.Proofs.Tryz
open Go.RowKit
theorem Gs {l:List Int} {u:Int} (h:iP l=true) (hu: ∀z∈l,z<u):iP (l++ [u])=true:=by
 rw [kT]at h⊢;intro j h1 h2;rw [List.length_append]at h2;simp only [List.length_cons,List.length_nil]at h2;have e1:jG (l++ [u]) (j-1)=jG l (j-1):=by unfold jG;rw [List.getElem?_append_left (by omega)]
 by_cases q:j<l.length
 ·have e2:jG (l++ [u]) j=jG l j:=by unfold jG;rw [List.getElem?_append_left q]
  rw [e1,e2];exact h j h1 q
 ·have e2:jG (l++ [u]) j=u:=by unfold jG;rw [List.getElem?_append_right (by omega),show j-l.length=0 by omega];rfl
  have e3:jG l (j-1)=l[j-1]'(by omega):=by unfold jG;rw [List.getElem?_eq_getElem (by omega)];rfl
  rw [e1,e2,e3];exact hu _ (List.getElem_mem _)
structure jT (l:List bL) (u:Nat):Prop where
 move: ∀m∈l,(0≤m.unit∧m.unit<u)∧(0≤m.up∧m.up<8)∧(0≤m.down∧m.down<8)
 M6:iP (l.map bL.unit)=true
 len:l.length≤u
theorem jT.next {l:List bL} {u:Nat} (h:jT l u):jT l (u+1):=⟨fun m hm=>by have:=h.move m hm;refine ⟨⟨this.1.1,by omega⟩,this.2⟩,h.M6,by have:=h.len;omega⟩
theorem jT.snoc {l:List bL} {u:Nat} {up dn:Int} (h:jT l u) (h1:0≤up∧up<8) (h2:0≤dn∧dn<8):jT (l++ [⟨(u:Int),up,dn⟩]) (u+1):=by
 refine ⟨?_,?_,by have:=h.len;rw [List.length_append];simp only [List.length_cons,List.length_nil];omega⟩
 ·intro m hm
  rcases List.mem_append.1 hm with e|e
  ·have:=h.move m e;refine ⟨⟨this.1.1,by omega⟩,this.2⟩
  ·rw [List.mem_singleton]at e;subst e;exact ⟨⟨by simp only;omega,by simp only;omega⟩,h1,h2⟩
 ·rw [List.map_append]
  refine Gs h.M6 ?_;intro z hz;obtain ⟨m,hm,rfl⟩:=List.mem_map.1 hz;exact (h.move m hm).1.2
structure yt (x:aY) (i nl nu:Nat):Prop where
 name:x.name=aR 111 i
 lines:x.lines.length=1∨x.lines.length=2
 line: ∀z∈x.lines,0≤z∧z<nl
 M6:iP x.lines=true
 moves:jT x.moves nu
 adO:x.bI=false→x.moves= []
def kx:aY:=⟨{data:= #[]},none,0,[],false,none,0,[]⟩
def iR (l:List bL):List (List Value):=l.map bL.cells
theorem xh (l:List bL) (g:bL):iR (l++ [g])=iR l++ [[i64 g.unit,i64 g.up,i64 g.down]]:=by simp [iR,bL.cells]
theorem ky (l:List bL):(iR l).length=l.length:=by simp [iR]
theorem Tryz.info_move:(Tryz.prog.info? 140).map (fun i=>(i.zero,i.size,i.bytes))=some (some (.agg #[i64 0,i64 0,i64 0]),3,24):=by kernel_rfl
theorem jM {w w':World} {base:Nat} {v:Value} (hle:base≤w.heap.size) (hown: ∀k,v.ownBlock=some k→base≤k) (he: ∀a0,Ext a0 w→a0.heap.size≤base→Ext a0 w') (hb: ∀k,k<w.heap.size→some k≠v.ownBlock→w'.heap[k]?=w.heap[k]?) (hz:w.heap.size≤w'.heap.size): ∃K,base≤K∧(K=w.heap.size∨v.ownBlock=some K)∧ar K w w':=by
 have h0:Ext {w with heap:= #[]} w:=⟨⟨rfl,rfl,rfl,Nat.zero_le _,fun k hk=>absurd hk (Nat.not_lt_zero _)⟩,Nat.le_refl _⟩;have h1:=he _ h0 (Nat.zero_le _);cases q:v.ownBlock with
 |none=>exact ⟨w.heap.size,hle,.inl rfl,h1.below.os,h1.below.tape,h1.below.output,h1.drawn,hz,fun k hk _=>hb k hk (by rw [q];simp)⟩
 |some g=>exact ⟨g,hown g q,.inr rfl,h1.below.os,h1.below.tape,h1.below.output,h1.drawn,hz,fun k hk hne=>hb k hk (by rw [q];intro e;cases e;exact hne rfl)⟩
structure OW (V:World) (T R X:Nat) (a:Option Addr) (c:Nat) (l:List Int) (x:aY) (W:World):Prop where
 tape:bJ W T a c l
 o:aQ W X 87 x.cells
 res:aQ W R 87 kx.cells
 ext:ar T V W
 lines:aI W x.la x.lc x.lines
 lf: ∀p,x.la=some p→V.heap.size≤p.block∧p.block≠X∧p.block≠R∧p.block≠T∧p.block<W.heap.size
 pos:X≠T∧X≠R∧R≠T∧V.heap.size≤X∧V.heap.size≤R∧T<V.heap.size
theorem OW.next {V W W':World} {T R X:Nat} {a:Option Addr} {c:Nat} {l:List Int} {x:aY} (h:OW V T R X a c l x W) (hT:bJ W' T a c l) (hx:ar T W W'):OW V T R X a c l x W':=
 ⟨hT,h.o.but hx h.pos.1,h.res.but hx h.pos.2.2.1,h.ext.trans hx,h.lines.dC hx (fun p hp=>(h.lf p hp).2.2.2.1),fun p hp=>by have:=h.lf p hp;have:=hx.size;refine ⟨?_,?_,?_,?_,?_⟩<;>omega,h.pos⟩
theorem OW.grow {V W W':World} {T R X:Nat} {a:Option Addr} {c:Nat} {l:List Int} {x:aY} (h:OW V T R X a c l x W) (hx:Ext W W'):OW V T R X a c l x W':=h.next (h.tape.ext hx) (hx.but T)
theorem OW.but {V W W':World} {T R X K:Nat} {a:Option Addr} {c:Nat} {l:List Int} {x:aY} (h:OW V T R X a c l x W) (hx:ar K W W') (hV:V.heap.size≤K) (hX:X≠K) (hR:R≠K) (hl: ∀p,x.la=some p→p.block≠K):OW V T R X a c l x W':=
 ⟨h.tape.but hx (by have:=h.pos.2.2.2.2.2;omega),h.o.but hx hX,h.res.but hx hR,h.ext.over hx hV,h.lines.dC hx hl,fun p hp=>by have:=h.lf p hp;have:=hx.size;refine ⟨?_,?_,?_,?_,?_⟩<;>omega,h.pos⟩
theorem OW.set {V W:World} {T R X:Nat} {a:Option Addr} {c:Nat} {l:List Int} {x:aY} (h:OW V T R X a c l x W) (j:Nat) (v:Value) (x':aY) (hc:x'.cells=x.cells.set j v) (hs:aI W x'.la x'.lc x'.lines) (hf: ∀p,x'.la=some p→V.heap.size≤p.block∧p.block≠X∧p.block≠R∧p.block≠T∧p.block<W.heap.size):OW V T R X a c l x' (W.setCell ⟨X,j,none⟩ v):=by
 have hx:=((ar.refl X W).eL (o:=j) (v:=v));exact ⟨h.tape.but hx h.pos.1.symm,by rw [hc];exact h.o.set j v,h.res.but hx h.pos.2.1.symm,h.ext.setCell (p:=⟨X,j,none⟩) h.pos.2.2.2.1 _,hs.dC hx (fun p hp=>(hf p hp).2.1),fun p hp=>by have:=hf p hp;have:=hx.size;refine ⟨?_,?_,?_,?_,?_⟩<;>omega,h.pos⟩
theorem OW.Sl {V WB w5:World} {T R X BL:Nat} {a:Option Addr} {c:Nat} {l:List Int} {nm:ByteArray} {z0 z1:Int} {v1:Value} (h:OW V T R X a c l (⟨nm,some ⟨BL,0,none⟩,1,[z0],false,none,0,[]⟩:aY) WB) (hX:BL≠X) (hL:BL<WB.heap.size) (hz0:bB z0) (hz1:bB z1)
 (ho:w5.ownsRow BL 3 1 v1 2 [i64 z0,i64 z1]) (he: ∀a0,Ext a0 (WB.alloc (.cells #[i64 z1] 3))→a0.heap.size≤BL→Ext a0 w5) (hb: ∀k,k<(WB.alloc (.cells #[i64 z1] 3)).heap.size→some k≠Value.ownBlock (.slice (some ⟨BL,0,none⟩) 1 1)→w5.heap[k]?=(WB.alloc (.cells #[i64 z1] 3)).heap[k]?) (hz:(WB.alloc (.cells #[i64 z1] 3)).heap.size≤w5.heap.size)
 (hv:v1.ownBlock=Value.ownBlock (.slice (some ⟨BL,0,none⟩) 1 1)∨ ∃g,v1.ownBlock=some g∧(WB.alloc (.cells #[i64 z1] 3)).heap.size≤g):
 ∃a2 k2,v1= .slice a2 2 k2∧w5.cell? ⟨X,1,none⟩=some (.slice (some ⟨BL,0,none⟩) 1 1)∧w5.frozen? ⟨X,1,none⟩=false∧OW V T R X a c l (⟨nm,a2,k2,[z0,z1],false,none,0,[]⟩:aY) (w5.setCell ⟨X,1,none⟩ (.slice a2 2 k2)):=by
 have AD:(WB.alloc (.cells #[i64 z1] 3)).heap.size=WB.heap.size+1:=by simp
 have hl:=h.lf _ rfl;simp only at hl;obtain ⟨K,M9,Lr,hKx⟩:=jM (base:=BL) (v:= .slice (some ⟨BL,0,none⟩) 1 1) (by rw [AD];omega) (fun k e=>by cases e;exact Nat.le_refl _) he hb hz
 have Vf:X≠K∧R≠K∧V.heap.size≤K∧T≠K:=by
  have h1:=h.o.lt;have h2:=h.res.lt;have h4:=h.pos
  rcases Lr with e|e
  ·refine ⟨?_,?_,?_,?_⟩<;>omega
  ·cases e;exact ⟨hl.2.1.symm,hl.2.2.1.symm,hl.1,hl.2.2.2.1.symm⟩
 have hO5:aJ w5 BL 3 1 v1 (fK [z0,z1]):=⟨ho,fun r hr=>by simp [fK]at hr;rcases hr with rfl|rfl<;>rfl⟩;obtain ⟨a2,k2,rfl,Vg,jm⟩:=hO5.recs (by decide)
 have hI5:aI w5 a2 k2 [z0,z1]:=aI.ov Vg (fun z hz=>by
  simp only [List.mem_cons,List.not_mem_nil,or_false]at hz;rcases hz with rfl|rfl
  ·exact hz0
  ·exact hz1)
 have Ix: ∀q,a2=some q→V.heap.size≤q.block∧q.block≠X∧q.block≠R∧q.block≠T∧q.block<w5.heap.size:=by
  intro q hq;subst hq;obtain ⟨b3,o3,h3,h4⟩:=hI5.cell 0 (by simp);cases h3
  have h5:=cG h4;have h6:=jm _ rfl;have h8:=h.o.lt;have h9:=h.res.lt;have h10:=h.tape.lt;have h11:=h.pos;have h12:=h.ext.size
  simp only at h5 h6;rcases hv with e|⟨g,e,hg⟩
  ·cases e;exact ⟨hl.1,hl.2.1,hl.2.2.1,hl.2.2.2.1,h5⟩
  ·rw [AD]at hg;have e2:some b3=some g:=e;cases e2;simp only;refine ⟨?_,?_,?_,?_,h5⟩<;>omega
 have hx2:=((ar.refl X w5).eL (o:=1) (v:= .slice a2 2 k2));have al:=(Ext.refl WB).alloc (.cells #[i64 z1] 3);have Sm:=(h.o.ext al).but hKx Vf.1;refine ⟨a2,k2,rfl,(Sm.cell 1).trans rfl,Sm.frozen 1,((h.tape.ext al).but hKx Vf.2.2.2).but hx2 h.pos.1.symm,Sm.set 1 _,((h.res.ext al).but hKx Vf.2.1).but hx2 h.pos.2.1.symm,((h.ext.trans (al.but T)).over hKx Vf.2.2.1).setCell (p:=⟨X,1,none⟩) h.pos.2.2.2.1 _,hI5.dC hx2 (fun q hq=>(Ix q hq).2.1),fun q hq=> ?_,h.pos⟩;have h5:=Ix q hq;rw [World.size_setCell];exact h5
theorem Gt (w0 V:World) (T:Nat) (a:Option Addr) (c:Nat) (l:List Int) (i nl nu:Nat) (hK:w0.heap.size≤T) (hV:Ext w0 V) (hl:aI w0 a c l) (hT:bJ V T a c l) (hi:i<16) (Qp:0<nl) (Sn:nl<1000) (Vh:nu<1000):
 Calls prog 36 #[.pointer (some ⟨T,0,none⟩),.int .i64 (i:Int),.int .i64 (nl:Int),.int .i64 (nu:Int)] V fun e w'=> ∃(x:aY),e= .returned (.agg x.cells.toArray)∧yt x i nl nu∧aI w' x.la x.lc x.lines∧Fr V.heap.size x.la∧bH w' 3 x.ma x.mc (x.moves.map bL.cells)∧Fr V.heap.size x.ma∧(∀p,x.ma=some p→p.block<w'.heap.size)∧lQ V T a c l w':=by
 have gD:=ae (fI.of w0 V T a c l hK hV hl);have Dd:=ae (fun U=>uH U 111 i hi);have HT:=ae hT;have IP:=ae hT.lt;have I1:=ae (And.intro Qp Sn);have Ls:=ae Vh
 clear hK hV hl hT hi Qp Sn Vh;go_enter func36,ntmps36
 go_upto_region 1 with fail
 obtain ⟨W0,hW,x0,Z0,A0⟩:=aX V 87 kx.cells;rw [show V.alloc (.cells #[.string {data:= #[]},.slice none 0 0,.bool false,.slice none 0 0] 87)=W0 from hW.symm];obtain ⟨R,hR⟩: ∃R,R=V.heap.size:=⟨_,rfl⟩;rw [←hR]at A0⊢;have qN:R≠T:=by have:=IP.o;omega
 have ET:Hid (V.heap.size≤R):=by show _≤_;omega
 have HR:=ae A0;have HX:=ae (x0.but T);have HT:=ae (HT.o.ext x0)
 clear hW Z0 A0 hR x0;go_wp2_with fail
 refine (Dd.o W0).mono ?_;rintro e w1 ⟨rfl,gH⟩;rw [gH];clear gH
 go_wp2_with fail
 refine (gD.o W0 (nl:Int) HX.o HT.o (by have:=I1.o.1;omega) (by have:=I1.o.2;omega)).mono ?_;rintro e W1 ⟨z0,rfl,Sp,hT,hx⟩;have eE:=ae (HX.o.trans hx);have zj:=ae hT;have Lt:=ae (HR.o.but hx qN)
 have Vi:=ae Sp;clear hT hx HX HT HR Sp;go_upto_region 2 with fail
 obtain ⟨WL,Vj,xl,-,AL⟩:=aX W1 3 [i64 z0];rw [show W1.alloc (.cells #[i64 z0] 3)=WL from Vj.symm];obtain ⟨BL,Vk⟩: ∃BL,BL=W1.heap.size:=⟨_,rfl⟩;rw [←Vk]at AL⊢;obtain ⟨WX,M7,xx,-,AX⟩:=aX WL 87 (⟨aR 111 i,some ⟨BL,0,none⟩,1,[z0],false,none,0,[]⟩:aY).cells;rw [show WL.alloc (.cells #[.string (aR 111 i),.slice (some ⟨BL,0,none⟩) 1 1,.bool false,.slice none 0 0] 87)=WX from M7.symm];have Sq:WL.heap.size=BL+1:=by rw [Vj,Vk];simp
 obtain ⟨X,KJ⟩: ∃X,X=BL+1:=⟨_,rfl⟩;rw [Sq,←KJ]at AX;rw [←KJ]
 have zu:BL≠T∧BL≠R∧X≠T∧X≠R∧BL≠X∧V.heap.size≤BL∧V.heap.size≤X:=by
  have h1:=zj.o.lt;have h2:=Lt.o.lt;have h3:=eE.o.size
  refine ⟨?_,?_,?_,?_,?_,?_,?_⟩<;>omega
 have qy:=zu.2.2.1;have EU:=zu.2.2.2.1
 have iG:Hid (aQ WX BL 3 [i64 z0]):=AL.ext xx
 have HU:Hid (OW V T R X a c l (⟨aR 111 i,some ⟨BL,0,none⟩,1,[z0],false,none,0,[]⟩:aY) WX):=by
  refine ⟨(zj.o.ext xl).ext xx,AX,(Lt.o.ext xl).ext xx,(eE.o.trans (xl.but T)).trans (xx.but T),?_,?_,qy,EU,qN,zu.2.2.2.2.2.2,ET.o,IP.o⟩
  ·have h5:=aI.one W1 z0 (by have:=Vi.o;have:=I1.o.2;unfold bB;omega)
   rw [←Vj,←Vk]at h5;exact h5.ext xx
  ·intro q hq
   cases hq
   exact ⟨zu.2.2.2.2.2.1,zu.2.2.2.2.1,zu.2.1,zu.1,by have:=AX.lt;show BL<_;omega⟩
 have H7:=ae zu;clear M7 KJ xx Sq AX AL xl Vj Vk zj Lt eE zu Dd;go_wp2_with fail
 refine (gD.o WX (nl:Int) HU.o.ext HU.o.tape (by have:=I1.o.1;omega) (by have:=I1.o.2;omega)).mono ?_;rintro e W3 ⟨z1,rfl,Sr,hT,hx⟩;replace HU:=ae (HU.o.next hT hx);replace iG:=ae (iG.o.but hx H7.o.1);have Ox:=ae Sr;clear hT hx Sr;have c1:=HU.o.o.cl 1 (.slice (some ⟨BL,0,none⟩) 1 1) rfl;have c0:=iG.o.cl 0 (i64 z0) rfl;go_upto_region 3 with fail
 go_cut [32] (fun v wx=> ∃b:Bool,v= .bool b∧(b=true→z0<z1)∧OW V T R X a c l (⟨aR 111 i,some ⟨BL,0,none⟩,1,[z0],false,none,0,[]⟩:aY) wx∧aQ wx BL 3 [i64 z0])
 case first=>
  as_aux_lemma=>
   by_cases Bk:z0<z1
   ·go_wp2_with fail
    refine (gD.o W3 3 HU.o.ext HU.o.tape (by decide) (by decide)).mono ?_;rintro e W4 ⟨q,rfl,Lu,hT,hx⟩;have KL:=ae (HU.o.next hT hx);have XH:=ae (iG.o.but hx H7.o.1);clear hT hx Lu c1 c0;go_wp2_with fail
    go_meet
    exact ⟨_,rfl,fun _=>Bk,KL.o,XH.o⟩
   ·go_wp2_with fail
    go_meet
    exact ⟨_,rfl,fun h=>absurd h (by simp),HU.o,iG.o⟩
 case rest=>
  obtain ⟨b,rfl,hb,hU,hB⟩:=hcut;generalize wc=WB at*;clear HU iG c1 c0;have HU:=ae hU;have iG:=ae hB;have HB:=ae hb
  clear hU hB hb;go_upto_if 32 with fail
  go_cut [] (fun wx=> ∃(la:Option Addr) (lc:Nat) (ls:List Int),(ls= [z0]∨(ls= [z0,z1]∧z0<z1))∧OW V T R X a c l (⟨aR 111 i,la,lc,ls,false,none,0,[]⟩:aY) wx)
  case first=>
   as_aux_lemma=>
    cases b with
    |false=>
     go_wp2_with fail
     go_meet
     exact ⟨_,_,_,Or.inl rfl,HU.o⟩
    |true=>
     have hlt:=HB.o rfl;have c1:=HU.o.o.cl 1 (.slice (some ⟨BL,0,none⟩) 1 1) rfl;have HOW:Hid (WB.ownsRow BL 3 1 (.slice (some ⟨BL,0,none⟩) 1 1) 1 [i64 z0]):=⟨rfl,Or.inr ⟨BL,1,#[i64 z0],rfl,Nat.le_refl _,iG.o,Nat.le_refl _,by decide,rfl,rfl⟩⟩;have hBs:BL≤WB.heap.size:=Nat.le_of_lt iG.o.lt
     go_wp2_with (
      at_builtin
      refine bn _ rfl _ _ 22 rfl BL 3 (.int .i64 0) 1 8 underlying22 Tryz.info_int rfl (by decide) (.slice (some ⟨BL,0,none⟩) 1 1) 1 [i64 z0] rfl ?c1 (some ⟨WB.heap.size,0,none⟩) 1 1 [i64 z1] rfl rfl ?c2 ?c3 ?c4 ?c5 (by decide) ?c6 ?_
      case c1=>exact bW HOW.o ((Ext.refl _).alloc _)
      case c2=>exact fun _=>⟨_,rfl,dD WB 3 [i64 z1]⟩
      case c3=>intro u hu;rw [List.mem_singleton]at hu;subst hu;rfl
      case c4=>intro e;cases e
      case c5=>decide
      case c6=>simp;omega
      intro v1 w5 ho he hb hz hv;obtain ⟨a2,k2,rfl,c1,f1,hU2⟩:=HU.o.Sl H7.o.2.2.2.2.1 iG.o.lt (by have:=Vi.o;have:=I1.o.2;unfold bB;omega) (by have:=Ox.o;have:=I1.o.2;unfold bB;omega) ho.o he.o hb.o hz.o hv.o;have KL:=ae hU2;clear HU HOW ho he hb hz hv hBs hU2)
     go_wp2_with fail
     go_meet
     exact ⟨_,_,_,Or.inr ⟨rfl,hlt⟩,KL.o⟩
  case rest=>
   obtain ⟨la,lc,ls,Qq,hU⟩:=hcut;generalize wc=WC at*;clear HU iG HB;have HU:=ae hU;have I2:=ae Qq
   clear hU Qq;go_wp2_with fail
   refine (gD.o WC 2 HU.o.ext HU.o.tape (by decide) (by decide)).mono ?_;rintro e W5 ⟨q,rfl,Lu,hT,hx⟩;replace HU:=ae (HU.o.next hT hx);clear hT hx Lu;go_upto_if 41 with fail
   go_cut [] (fun wx=> ∃(cr:Bool) (ma:Option Addr) (mc:Nat) (ms:List bL),(cr=false→ms= [])∧jT ms nu∧bH wx 3 ma mc (iR ms)∧Fr V.heap.size ma∧(∀p,ma=some p→p.block≠R∧p.block<wx.heap.size)∧OW V T R X a c l (⟨aR 111 i,la,lc,ls,cr,ma,mc,ms⟩:aY) wx)
   case first=>
    rcases Bool.eq_false_or_eq_true (q==1)with hq|hq
    ·as_aux_lemma=>
      have c2:=HU.o.o.cl 2 (.bool false) rfl;have f2:=HU.o.o.frozen 2;have HU6:Hid (OW V T R X a c l (⟨aR 111 i,la,lc,ls,true,none,0,[]⟩:aY) (W5.setCell ⟨X,2,none⟩ (.bool true))):=HU.o.set 2 (.bool true) _ rfl HU.o.lines HU.o.lf;go_upto_region 7 with fail
      clear c2 f2 HU;have HU:=HU6;clear HU6;generalize (W5.setCell ⟨X,2,none⟩ (.bool true))=W6 at*;go_wp2_with fail
      rw [hq];clear hq;go_loopw [11] (fun uv wr=> ∃(u:Nat) (ms:List bL) (ma:Option Addr) (mc:Nat),u≤nu∧jT ms u∧aJ wr W6.heap.size 140 3 (.slice ma ms.length mc) (iR ms)∧OW V T R X a c l (⟨aR 111 i,la,lc,ls,true,ma,mc,ms⟩:aY) wr∧W6.heap.size≤wr.heap.size∧uv= .int .i64 (u:Int)) (fun uv _=>nu-(intOf uv).toNat)
      case atStart=>exact ⟨0,[],none,0,Nat.zero_le _,⟨fun m hm=>absurd hm (by simp),rfl,Nat.zero_le _⟩,aJ.nil _ _ _ _,HU.o,Nat.le_refl _,rfl⟩
      case round=>
       have Dt:Hid (T<W6.heap.size∧X<W6.heap.size∧R<W6.heap.size∧V.heap.size≤W6.heap.size):=⟨HU.o.tape.lt,HU.o.o.lt,HU.o.res.lt,HU.o.ext.size⟩;have HLF:Hid (∀p,la=some p→p.block<W6.heap.size):=fun p hp=>(HU.o.lf p hp).2.2.2.2;obtain ⟨u,ms,ma,mc,hu,Ss,hown,hU,hD,rfl⟩:=hrel;clear HU;have HU:=ae hU;have HM:=ae Ss;have HO:=ae hown;have HD:=ae hD
       clear hU Ss hown hD;by_cases hlt:u<nu
       ·have bi:(u:Int)<(nu:Int):=by omega
        go_wp2_with fail
        refine (gD.o wr 2 HU.o.ext HU.o.tape (by decide) (by decide)).mono ?_;rintro e W7 ⟨y,rfl,KM,hT,hx⟩;have yu:Hid (W6.heap.size≤W7.heap.size):=Nat.le_trans HD.o hx.size;have Bl:=ae (HU.o.next hT hx);have KN:=ae (HO.o.but hx Dt.o.1);clear hT hx KM HU HO HD;have hwu:IntKind.i64.wrap ((u:Int)+1)=((u+1:Nat):Int):=by rw [IntKind.wrap_i64];have:=Ls.o;omega
        rcases Bool.eq_false_or_eq_true (y==1)with hy|hy
        ·go_upto_region 11 with fail
         refine aL (fun w'=>True) (fun w'=>w'.cell? ⟨X,3,none⟩=some (.slice ma ms.length mc)) (fun i=>i==11) (by kernel_rfl) (trivial) ((Bl.o.o.cell 3).trans rfl) (fun ay ah=> ?_);refine aF 0 ay ah ?_;refine Hw 1 ay ah ?_;refine aF 2 ay ah ?_ (v:= .int .i64 (u:Int));refine aF 3 ay ah ?_;refine aF 5 ay ah ?_;replace Bl:=ae (Bl.o.grow (Ext.refl W7).drew);replace KN:=ae (KN.o.ext (Ext.refl W7).drew);replace yu:Hid (W6.heap.size≤W7.drew.heap.size):=yu.o;generalize W7.drew=W8 at*;refine fp 4 rfl (fun Kc hK=> ?_);go_simp;refine (gD.o W8 8 Bl.o.ext Bl.o.tape (by decide) (by decide)).mono ?_;rintro e W9 ⟨up,rfl,Su,hT,hx⟩;replace Bl:=ae (Bl.o.next hT hx);replace KN:=ae (KN.o.but hx Dt.o.1);replace yu:Hid (W6.heap.size≤W9.heap.size):=Nat.le_trans yu.o hx.size;have XI:=ae Su;clear hT hx Su;refine hK.o _ _ (trivial) ((Bl.o.o.cell 3).trans rfl) (fun ay ah=> ?_);clear hK Kc;try simp only [sS]
         refine fp 6 rfl (fun Kc hK=> ?_);go_simp;refine (gD.o W9 8 Bl.o.ext Bl.o.tape (by decide) (by decide)).mono ?_;rintro e yq ⟨dn,rfl,Sv,hT,hx⟩;replace Bl:=ae (Bl.o.next hT hx);replace KN:=ae (KN.o.but hx Dt.o.1);replace yu:Hid (W6.heap.size≤yq.heap.size):=Nat.le_trans yu.o hx.size;have XJ:=ae Sv;clear hT hx Sv;refine hK.o _ _ (trivial) ((Bl.o.o.cell 3).trans rfl) (fun ay ah=> ?_);clear hK Kc;try simp only [sS]
         refine aF 7 ay ah ?_ (v:= .agg #[.int .i64 (u:Int),i64 up,i64 dn]);have M_:=(Ext.refl yq).alloc (.cells #[i64 (u:Int),i64 up,i64 dn] 140);refine fp 8 rfl (fun Kc hK=> ?_);go_simp;refine hK.o _ _ (trivial) ((((Bl.o.grow M_).o.cell 3).trans rfl)) (fun ay ah=> ?_);clear hK Kc;try simp only [sS]
         have HOW:Hid ((yq.alloc (.cells #[i64 (u:Int),i64 up,i64 dn] 140)).ownsRow W6.heap.size 140 3 (.slice ma ms.length mc) ms.length (iR ms).flatten):=by
             have h5:=(KN.o.ext M_).own;rw [ky]at h5;exact h5
         have Sw:ms.length≤1000:=by have:=HM.o.len;have:=Ls.o;omega
         have Lv:(yq.alloc (.cells #[i64 (u:Int),i64 up,i64 dn] 140)).heap.size=yq.heap.size+1:=by simp
         refine fp 9 rfl (fun Kc hK=> ?_);rw [if_pos (by rfl)];refine pK _ (.tmp 52) (.tmp 59) 85 rfl W6.heap.size 140 (.agg #[i64 0,i64 0,i64 0]) 3 24 underlying85 Tryz.info_move rfl (by decide) (.slice ma ms.length mc) ms.length (iR ms).flatten rfl ?c1 (some ⟨yq.heap.size,0,none⟩) 1 1 [i64 (u:Int),i64 up,i64 dn] rfl rfl ?c2 ?c3 ?c4 ?c5 (by decide) ?c6 ?c7 (by decide)
         case c1=>exact HOW.o
         case c2=>exact fun _=>⟨_,rfl,dD yq 140 [i64 (u:Int),i64 up,i64 dn]⟩
         case c3=>intro z hz;simp only [List.mem_cons,List.not_mem_nil,or_false]at hz;rcases hz with rfl|rfl|rfl<;>rfl
         case c4=>intro e;cases e
         case c5=>omega
         case c6=>rw [Lv];have:=yu.o;omega
         intro v1 w5 ho he hb hz hv;obtain ⟨CM,CN,rfl⟩:=fg ho.o;obtain ⟨K,M9,-,hKx⟩:=jM (base:=W6.heap.size) (v:= .slice ma ms.length mc) (by rw [Lv];have:=yu.o;omega) (fun k e=>(HOW.o.lt k e).1) he.o hb.o hz.o;have Oy:Hid (OW V T R X a c l (⟨aR 111 i,la,lc,ls,true,ma,mc,ms⟩:aY) w5):=(Bl.o.grow M_).but hKx (by have:=Dt.o;omega) (by have:=Dt.o;omega) (by have:=Dt.o;omega) (fun p hp=>by have:=HLF.o p hp;omega);obtain ⟨I3,Lx⟩: ∃I3,I3=ms++ [(⟨(u:Int),up,dn⟩:bL)]:=⟨_,rfl⟩;have hl2:ms.length+1=I3.length:=by rw [Lx,List.length_append];rfl
         have XK:Hid (aJ w5 W6.heap.size 140 3 (.slice CM (ms.length+1) CN) (iR I3)):=by
             have h5:=(KN.o.ext M_).snoc (w':=w5) (r:= [i64 (u:Int),i64 up,i64 dn]) rfl (by rw [ky];exact ho.o);have h6:=xh ms ⟨(u:Int),up,dn⟩;show aJ _ _ _ _ _ _;rw [Lx,h6];exact h5
         have WY:Hid (jT I3 (u+1)):=by rw [Lx];exact HM.o.snoc XI.o XJ.o
         have HD8:Hid (W6.heap.size≤w5.heap.size):=by have:=hz.o;have:=yu.o;rw [Lv]at*;show _≤_;omega
         rw [hl2]at XK;rw [hl2];clear Lx hl2 ho he hb hz hv M9 hKx HOW Sw Lv M_ KN Bl yu;refine hK.o _ _ (trivial) ((Oy.o.o.cell 3).trans rfl) (fun ay ah=> ?_);clear hK Kc;try simp only [sS]
         refine aF 10 ay ah ?_;have c3:=Oy.o.o.cl 3 (.slice ma ms.length mc) rfl;have f3:=Oy.o.o.frozen 3;refine bE (rs:= [11]) (by kernel_rfl) (by simp) ?_;refine aH.late rfl (by kernel_rfl) (fun Kc hK=> ?_) aH.nil;go_simp;refine hK.o _ _ (trivial) (fun ay=> ?_);clear hK Kc;try simp only [sS]
         refine aD (by kernel_rfl) ?_ _;clear ay c3 f3;have Qr:Hid (OW V T R X a c l (⟨aR 111 i,la,lc,ls,true,CM,CN,I3⟩:aY) (w5.setCell ⟨X,3,none⟩ (.slice CM I3.length CN))):=Oy.o.set 3 _ _ rfl Oy.o.lines Oy.o.lf;have hx3:=((ar.refl X w5).eL (o:=3) (v:= .slice CM I3.length CN));have Gu:=ae (XK.o.but hx3 Dt.o.2.1);have HD9:Hid (W6.heap.size≤(w5.setCell ⟨X,3,none⟩ (.slice CM I3.length CN)).heap.size):=Nat.le_trans HD8.o hx3.size;clear hx3 Oy XK HD8;generalize (w5.setCell ⟨X,3,none⟩ (.slice CM I3.length CN))=W11 at*;go_wp2_with fail
         exact ⟨⟨u+1,I3,CM,CN,by omega,WY.o,Gu.o,Qr.o,HD9.o,rfl⟩,by show nu-(((u+1:Nat):Int)).toNat<nu-((u:Int)).toNat;omega⟩
        ·go_wp2_with fail
         exact ⟨⟨u+1,ms,ma,mc,by omega,HM.o.next,KN.o,Bl.o,yu.o,rfl⟩,by show nu-(((u+1:Nat):Int)).toNat<nu-((u:Int)).toNat;omega⟩
       ·obtain rfl:u=nu:=by omega
        go_wp2_with fail
        go_meet
        have hob: ∀p,ma=some p→p.block<wr.heap.size:=fun p hp=>(HO.o.own.lt p.block (by rw [hp];rfl)).2;obtain ⟨ra,rc,kK,su,Gq⟩:=HO.o.recs (by decide);rw [ky]at kK;cases kK
        exact ⟨true,_,_,ms,fun h=>(by cases h),HM.o,su,Gq.mono Dt.o.2.2.2,fun p hp=>⟨Gq.ne Dt.o.2.2.1 p hp,hob p hp⟩,HU.o⟩
    ·as_aux_lemma=>
      go_wp2_with fail
      go_meet
      exact ⟨false,none,0,[],fun _=>rfl,⟨fun m hm=>absurd hm (by simp),rfl,Nat.zero_le _⟩,⟨Nat.le_refl _,by decide,fun i hi=>absurd hi (Nat.not_lt_zero _)⟩,Fr.none _,(fun p hp=>by cases hp),HU.o⟩
   case rest=>
    obtain ⟨cr,ma,mc,ms,hcr,Ss,Vg,jm,hne,hU⟩:=hcut;generalize wc=WD at*;clear HU;have HU:=ae hU;have HM:=ae (And.intro hcr (And.intro Ss (And.intro Vg (And.intro jm hne))))
    clear hU hcr Ss Vg jm hne;go_upto_region 12 with fail
    as_aux_lemma=>
     obtain ⟨xf,Ov⟩: ∃xf,xf=(⟨aR 111 i,la,lc,ls,cr,ma,mc,ms⟩:aY):=⟨_,rfl⟩
     have HF:Hid (yt xf i nl nu∧xf.ma=ma∧xf.mc=mc∧xf.moves=ms):=by
      have h1:=Vi.o;have h2:=Ox.o
      rw [Ov];refine ⟨⟨rfl,?_,?_,?_,HM.o.2.1,HM.o.1⟩,rfl,rfl,rfl⟩
      ·rcases I2.o with rfl|⟨rfl,-⟩
       ·exact Or.inl rfl
       ·exact Or.inr rfl
      ·intro z hz
       rcases I2.o with rfl|⟨rfl,-⟩
       ·simp only [List.mem_cons,List.not_mem_nil,or_false]at hz;subst hz;exact h1
       ·simp only [List.mem_cons,List.not_mem_nil,or_false]at hz
        rcases hz with rfl|rfl
        ·exact h1
        ·exact h2
      ·rcases I2.o with rfl|⟨rfl,h5⟩
       ·rfl
       ·show iP [z0,z1]=true
        rw [kT];intro j hj1 XL;have:j=1:=by simp only [List.length_cons,List.length_nil]at XL;omega
        subst this;exact h5
     rw [←Ov]at HU;clear Ov;have mH: ∀j v,xf.cells[j]?=some v→WD.cell? ((⟨X,0,none⟩:Addr).add j)=some v:=fun j v hj=>by rw [cF,HU.o.o.cell j];exact hj
     go_wp2_with (first|(refine aT rfl 87 _ rfl ⟨X,0,none⟩ rfl xf.cells _ mH rfl rfl rfl ?_)|(refine bp rfl 87 _ _ rfl R kx.cells xf.cells HU.o.res rfl rfl (by kernel_rfl) rfl rfl ?_;intro qO kZ dI))
     have xe:=ae (HU.o.ext.over dI ET.o);have Dr:=ae (HU.o.tape.but dI (fun e=>qN e.symm))
     have Ds:Hid (aI qO xf.la xf.lc xf.lines):=HU.o.lines.dC dI (fun p hp=>(HU.o.lf p hp).2.2.1)
     have Ow:Hid (bH qO 3 xf.ma xf.mc (xf.moves.map bL.cells)):=by
      have h5:=HM.o.2.2.1.but dI (fun p hp=>(HM.o.2.2.2.2 p hp).1);rw [HF.o.2.1,HF.o.2.2.1,HF.o.2.2.2];exact h5
     have Gr:Hid (Fr V.heap.size xf.la∧Fr V.heap.size xf.ma∧ ∀p,xf.ma=some p→p.block<qO.heap.size):=⟨fun p hp=>(HU.o.lf p hp).1,by rw [HF.o.2.1];exact HM.o.2.2.2.1,fun p hp=>Nat.lt_of_lt_of_le (HM.o.2.2.2.2 p (by rw [←HF.o.2.1];exact hp)).2 dI.size⟩;exact bodyPost_ret (v:= .agg xf.cells.toArray) (fL 8 _ rfl rfl kZ rfl rfl rfl) rfl ⟨xf,rfl,HF.o.1,Ds.o,Gr.o.1,Ow.o,Gr.o.2.1,Gr.o.2.2,Dr.o,xe.o⟩
end Go.Proofs.YtkpngkdgphojlaaGreat
