/- Texts of the proof. -/
import Derived.Test.YtkpngkdgphojlaaGreatCd17
set_option linter.all false
set_option maxHeartbeats 4000000
set_option maxRecDepth 100000
namespace Go.Proofs.YtkpngkdgphojlaaGreat
open Go.Proofs.Tryz
open Go.RowKit
theorem FV {l:List Int} {u:Int} (h:g_ l=true) (hu: ∀z∈l,z<u):g_ (l++ [u])=true:=by
 rw [j6]at h⊢;intro j h1 h2;rw [List.length_append]at h2;simp only [List.length_cons,List.length_nil]at h2;have e1:aR (l++ [u]) (j-1)=aR l (j-1):=by unfold aR;rw [List.getElem?_append_left (by omega)]
 by_cases q:j<l.length
 ·have e2:aR (l++ [u]) j=aR l j:=by unfold aR;rw [List.getElem?_append_left q]
  rw [e1,e2];exact h j h1 q
 ·have e2:aR (l++ [u]) j=u:=by unfold aR;rw [List.getElem?_append_right (by omega),show j-l.length=0 by omega];rfl
  have e3:aR l (j-1)=l[j-1]'(by omega):=by unfold aR;rw [List.getElem?_eq_getElem (by omega)];rfl
  rw [e1,e2,e3];exact hu _ (List.getElem_mem _)
structure jn (l:List bE) (u:Nat):Prop where
 move: ∀m∈l,(0≤m.unit∧m.unit<u)∧(0≤m.up∧m.up<8)∧(0≤m.down∧m.down<8)
 FN:g_ (l.map bE.unit)=true
 len:l.length≤u
theorem jn.next {l:List bE} {u:Nat} (h:jn l u):jn l (u+1):=⟨fun m hm=>by have:=h.move m hm;refine ⟨⟨this.1.1,by omega⟩,this.2⟩,h.FN,by have:=h.len;omega⟩
theorem jn.snoc {l:List bE} {u:Nat} {up dn:Int} (h:jn l u) (h1:0≤up∧up<8) (h2:0≤dn∧dn<8):jn (l++ [⟨(u:Int),up,dn⟩]) (u+1):=by
 refine ⟨?_,?_,by have:=h.len;rw [List.length_append];simp only [List.length_cons,List.length_nil];omega⟩
 ·intro m hm
  rcases List.mem_append.1 hm with e|e
  ·have:=h.move m e;refine ⟨⟨this.1.1,by omega⟩,this.2⟩
  ·rw [List.mem_singleton]at e;subst e;exact ⟨⟨by simp only;omega,by simp only;omega⟩,h1,h2⟩
 ·rw [List.map_append]
  refine FV h.FN ?_;intro z hz;obtain ⟨m,hm,rfl⟩:=List.mem_map.1 hz;exact (h.move m hm).1.2
structure xQ (x:bB) (i nl nu:Nat):Prop where
 name:x.name=aI 111 i
 lines:x.lines.length=1∨x.lines.length=2
 line: ∀z∈x.lines,0≤z∧z<nl
 FN:g_ x.lines=true
 moves:jn x.moves nu
 ac_:x.bC=false→x.moves= []
def qd:bB:=⟨{data:= #[]},none,0,[],false,none,0,[]⟩
def ik (l:List bE):List (List Value):=l.map bE.cells
theorem wO (l:List bE) (g:bE):ik (l++ [g])=ik l++ [[i64 g.unit,i64 g.up,i64 g.down]]:=by simp [ik,bE.cells]
theorem jL (l:List bE):(ik l).length=l.length:=by simp [ik]
theorem Tryz.info_move:(Tryz.prog.info? 140).map (fun i=>(i.zero,i.size,i.bytes))=some (some (.agg #[i64 0,i64 0,i64 0]),3,24):=by kernel_rfl
theorem iB {w w':World} {base:Nat} {v:Value} (hle:base≤w.heap.size) (hown: ∀k,v.ownBlock=some k→base≤k) (he: ∀a0,Ext a0 w→a0.heap.size≤base→Ext a0 w') (hb: ∀k,k<w.heap.size→some k≠v.ownBlock→w'.heap[k]?=w.heap[k]?) (hz:w.heap.size≤w'.heap.size): ∃K,base≤K∧(K=w.heap.size∨v.ownBlock=some K)∧ar K w w':=by
 have h0:Ext {w with heap:= #[]} w:=⟨⟨rfl,rfl,rfl,Nat.zero_le _,fun k hk=>absurd hk (Nat.not_lt_zero _)⟩,Nat.le_refl _⟩;have h1:=he _ h0 (Nat.zero_le _);cases q:v.ownBlock with
 |none=>exact ⟨w.heap.size,hle,.inl rfl,h1.below.os,h1.below.tape,h1.below.output,h1.drawn,hz,fun k hk _=>hb k hk (by rw [q];simp)⟩
 |some g=>exact ⟨g,hown g q,.inr rfl,h1.below.os,h1.below.tape,h1.below.output,h1.drawn,hz,fun k hk hne=>hb k hk (by rw [q];intro e;cases e;exact hne rfl)⟩
structure OW (V:World) (T R X:Nat) (a:Option Addr) (c:Nat) (l:List Int) (x:bB) (W:World):Prop where
 tape:aY W T a c l
 o:aJ W X 87 x.cells
 res:aJ W R 87 qd.cells
 ext:ar T V W
 lines:aD W x.la x.lc x.lines
 lf: ∀p,x.la=some p→V.heap.size≤p.block∧p.block≠X∧p.block≠R∧p.block≠T∧p.block<W.heap.size
 pos:X≠T∧X≠R∧R≠T∧V.heap.size≤X∧V.heap.size≤R∧T<V.heap.size
theorem OW.next {V W W':World} {T R X:Nat} {a:Option Addr} {c:Nat} {l:List Int} {x:bB} (h:OW V T R X a c l x W) (hT:aY W' T a c l) (hx:ar T W W'):OW V T R X a c l x W':=
 ⟨hT,h.o.but hx h.pos.1,h.res.but hx h.pos.2.2.1,h.ext.trans hx,h.lines.dA hx (fun p hp=>(h.lf p hp).2.2.2.1),fun p hp=>by have:=h.lf p hp;have:=hx.size;refine ⟨?_,?_,?_,?_,?_⟩<;>omega,h.pos⟩
theorem OW.grow {V W W':World} {T R X:Nat} {a:Option Addr} {c:Nat} {l:List Int} {x:bB} (h:OW V T R X a c l x W) (hx:Ext W W'):OW V T R X a c l x W':=h.next (h.tape.ext hx) (hx.but T)
theorem OW.but {V W W':World} {T R X K:Nat} {a:Option Addr} {c:Nat} {l:List Int} {x:bB} (h:OW V T R X a c l x W) (hx:ar K W W') (hV:V.heap.size≤K) (hX:X≠K) (hR:R≠K) (hl: ∀p,x.la=some p→p.block≠K):OW V T R X a c l x W':=
 ⟨h.tape.but hx (by have:=h.pos.2.2.2.2.2;omega),h.o.but hx hX,h.res.but hx hR,h.ext.over hx hV,h.lines.dA hx hl,fun p hp=>by have:=h.lf p hp;have:=hx.size;refine ⟨?_,?_,?_,?_,?_⟩<;>omega,h.pos⟩
theorem OW.set {V W:World} {T R X:Nat} {a:Option Addr} {c:Nat} {l:List Int} {x:bB} (h:OW V T R X a c l x W) (j:Nat) (v:Value) (x':bB) (hc:x'.cells=x.cells.set j v) (hs:aD W x'.la x'.lc x'.lines) (hf: ∀p,x'.la=some p→V.heap.size≤p.block∧p.block≠X∧p.block≠R∧p.block≠T∧p.block<W.heap.size):OW V T R X a c l x' (W.setCell ⟨X,j,none⟩ v):=by
 have hx:=((ar.refl X W).gD (o:=j) (v:=v));exact ⟨h.tape.but hx h.pos.1.symm,by rw [hc];exact h.o.set j v,h.res.but hx h.pos.2.1.symm,h.ext.setCell (p:=⟨X,j,none⟩) h.pos.2.2.2.1 _,hs.dA hx (fun p hp=>(hf p hp).2.1),fun p hp=>by have:=hf p hp;have:=hx.size;refine ⟨?_,?_,?_,?_,?_⟩<;>omega,h.pos⟩
theorem OW.RR {V WB w5:World} {T R X BL:Nat} {a:Option Addr} {c:Nat} {l:List Int} {nm:ByteArray} {z0 z1:Int} {v1:Value} (h:OW V T R X a c l (⟨nm,some ⟨BL,0,none⟩,1,[z0],false,none,0,[]⟩:bB) WB) (hX:BL≠X) (hL:BL<WB.heap.size) (hz0:bp z0) (hz1:bp z1)
 (ho:w5.ownsRow BL 3 1 v1 2 [i64 z0,i64 z1]) (he: ∀a0,Ext a0 (WB.alloc (.cells #[i64 z1] 3))→a0.heap.size≤BL→Ext a0 w5) (hb: ∀k,k<(WB.alloc (.cells #[i64 z1] 3)).heap.size→some k≠Value.ownBlock (.slice (some ⟨BL,0,none⟩) 1 1)→w5.heap[k]?=(WB.alloc (.cells #[i64 z1] 3)).heap[k]?) (hz:(WB.alloc (.cells #[i64 z1] 3)).heap.size≤w5.heap.size)
 (hv:v1.ownBlock=Value.ownBlock (.slice (some ⟨BL,0,none⟩) 1 1)∨ ∃g,v1.ownBlock=some g∧(WB.alloc (.cells #[i64 z1] 3)).heap.size≤g):
 ∃a2 k2,v1= .slice a2 2 k2∧w5.cell? ⟨X,1,none⟩=some (.slice (some ⟨BL,0,none⟩) 1 1)∧w5.frozen? ⟨X,1,none⟩=false∧OW V T R X a c l (⟨nm,a2,k2,[z0,z1],false,none,0,[]⟩:bB) (w5.setCell ⟨X,1,none⟩ (.slice a2 2 k2)):=by
 have zU:(WB.alloc (.cells #[i64 z1] 3)).heap.size=WB.heap.size+1:=by simp
 have hl:=h.lf _ rfl;simp only at hl;obtain ⟨K,NR,Kj,hKx⟩:=iB (base:=BL) (v:= .slice (some ⟨BL,0,none⟩) 1 1) (by rw [zU];omega) (fun k e=>by cases e;exact Nat.le_refl _) he hb hz
 have UA:X≠K∧R≠K∧V.heap.size≤K∧T≠K:=by
  have h1:=h.o.lt;have h2:=h.res.lt;have h4:=h.pos
  rcases Kj with e|e
  ·refine ⟨?_,?_,?_,?_⟩<;>omega
  ·cases e;exact ⟨hl.2.1.symm,hl.2.2.1.symm,hl.1,hl.2.2.2.1.symm⟩
 have hO5:aN w5 BL 3 1 v1 (dH [z0,z1]):=⟨ho,fun r hr=>by simp [dH]at hr;rcases hr with rfl|rfl<;>rfl⟩;obtain ⟨a2,k2,rfl,UB,jU⟩:=hO5.recs (by decide)
 have hI5:aD w5 a2 k2 [z0,z1]:=aD.nk UB (fun z hz=>by
  simp only [List.mem_cons,List.not_mem_nil,or_false]at hz;rcases hz with rfl|rfl
  ·exact hz0
  ·exact hz1)
 have Hl: ∀q,a2=some q→V.heap.size≤q.block∧q.block≠X∧q.block≠R∧q.block≠T∧q.block<w5.heap.size:=by
  intro q hq;subst hq;obtain ⟨b3,o3,h3,h4⟩:=hI5.cell 0 (by simp);cases h3
  have h5:=bm h4;have h6:=jU _ rfl;have h8:=h.o.lt;have h9:=h.res.lt;have h10:=h.tape.lt;have h11:=h.pos;have h12:=h.ext.size
  simp only at h5 h6;rcases hv with e|⟨g,e,hg⟩
  ·cases e;exact ⟨hl.1,hl.2.1,hl.2.2.1,hl.2.2.2.1,h5⟩
  ·rw [zU]at hg;have e2:some b3=some g:=e;cases e2;simp only;refine ⟨?_,?_,?_,?_,h5⟩<;>omega
 have hx2:=((ar.refl X w5).gD (o:=1) (v:= .slice a2 2 k2));have al:=(Ext.refl WB).alloc (.cells #[i64 z1] 3);have RS:=(h.o.ext al).but hKx UA.1;refine ⟨a2,k2,rfl,(RS.cell 1).trans rfl,RS.frozen 1,((h.tape.ext al).but hKx UA.2.2.2).but hx2 h.pos.1.symm,RS.set 1 _,((h.res.ext al).but hKx UA.2.1).but hx2 h.pos.2.1.symm,((h.ext.trans (al.but T)).over hKx UA.2.2.1).setCell (p:=⟨X,1,none⟩) h.pos.2.2.2.1 _,hI5.dA hx2 (fun q hq=>(Hl q hq).2.1),fun q hq=> ?_,h.pos⟩;have h5:=Hl q hq;rw [World.size_setCell];exact h5
theorem FW (w0 V:World) (T:Nat) (a:Option Addr) (c:Nat) (l:List Int) (i nl nu:Nat) (hK:w0.heap.size≤T) (hV:Ext w0 V) (hl:aD w0 a c l) (hT:aY V T a c l) (hi:i<16) (PF:0<nl) (RT:nl<1000) (UC:nu<1000):
 Calls prog 36 #[.pointer (some ⟨T,0,none⟩),.int .i64 (i:Int),.int .i64 (nl:Int),.int .i64 (nu:Int)] V fun e w'=> ∃(x:bB),e= .returned (.agg x.cells.toArray)∧xQ x i nl nu∧aD w' x.la x.lc x.lines∧Fr V.heap.size x.la∧bS w' 3 x.ma x.mc (x.moves.map bE.cells)∧Fr V.heap.size x.ma∧(∀p,x.ma=some p→p.block<w'.heap.size)∧jX V T a c l w':=by
 have fL:=ae (eW.of w0 V T a c l hK hV hl);have CO:=ae (fun U=>tW U 111 i hi);have HT:=ae hT;have fM:=ae hT.lt;have Iw:=ae (And.intro PF RT);have K7:=ae UC
 clear hK hV hl hT hi PF RT UC;go_enter func36,ntmps36
 go_upto_region 1 with fail
 obtain ⟨W0,hW,x0,Z0,A0⟩:=aH V 87 qd.cells;rw [show V.alloc (.cells #[.string {data:= #[]},.slice none 0 0,.bool false,.slice none 0 0] 87)=W0 from hW.symm];obtain ⟨R,hR⟩: ∃R,R=V.heap.size:=⟨_,rfl⟩;rw [←hR]at A0⊢;have p9:R≠T:=by have:=fM.o;omega
 have GP:Hid (V.heap.size≤R):=by show _≤_;omega
 have HR:=ae A0;have HX:=ae (x0.but T);have HT:=ae (HT.o.ext x0)
 clear hW Z0 A0 hR x0;go_wp2_with fail
 refine (CO.o W0).mono ?_;rintro e w1 ⟨rfl,fK⟩;rw [fK];clear fK
 go_wp2_with fail
 refine (fL.o W0 (nl:Int) HX.o HT.o (by have:=Iw.o.1;omega) (by have:=Iw.o.2;omega)).mono ?_;rintro e W1 ⟨z0,rfl,RU,hT,hx⟩;have fJ:=ae (HX.o.trans hx);have lW:=ae hT;have PS:=ae (HR.o.but hx p9)
 have UD:=ae RU;clear hT hx HX HT HR RU;go_upto_region 2 with fail
 obtain ⟨WL,UE,xl,-,AL⟩:=aH W1 3 [i64 z0];rw [show W1.alloc (.cells #[i64 z0] 3)=WL from UE.symm];obtain ⟨BL,UF⟩: ∃BL,BL=W1.heap.size:=⟨_,rfl⟩;rw [←UF]at AL⊢;obtain ⟨WX,Mv,xx,-,AX⟩:=aH WL 87 (⟨aI 111 i,some ⟨BL,0,none⟩,1,[z0],false,none,0,[]⟩:bB).cells;rw [show WL.alloc (.cells #[.string (aI 111 i),.slice (some ⟨BL,0,none⟩) 1 1,.bool false,.slice none 0 0] 87)=WX from Mv.symm];have RV:WL.heap.size=BL+1:=by rw [UE,UF];simp
 obtain ⟨X,Ki⟩: ∃X,X=BL+1:=⟨_,rfl⟩;rw [RV,←Ki]at AX;rw [←Ki]
 have yX:BL≠T∧BL≠R∧X≠T∧X≠R∧BL≠X∧V.heap.size≤BL∧V.heap.size≤X:=by
  have h1:=lW.o.lt;have h2:=PS.o.lt;have h3:=fJ.o.size
  refine ⟨?_,?_,?_,?_,?_,?_,?_⟩<;>omega
 have pz:=yX.2.2.1;have Ev:=yX.2.2.2.1
 have jo:Hid (aJ WX BL 3 [i64 z0]):=AL.ext xx
 have HU:Hid (OW V T R X a c l (⟨aI 111 i,some ⟨BL,0,none⟩,1,[z0],false,none,0,[]⟩:bB) WX):=by
  refine ⟨(lW.o.ext xl).ext xx,AX,(PS.o.ext xl).ext xx,(fJ.o.trans (xl.but T)).trans (xx.but T),?_,?_,pz,Ev,p9,yX.2.2.2.2.2.2,GP.o,fM.o⟩
  ·have h5:=aD.one W1 z0 (by have:=UD.o;have:=Iw.o.2;unfold bp;omega)
   rw [←UE,←UF]at h5;exact h5.ext xx
  ·intro q hq
   cases hq
   exact ⟨yX.2.2.2.2.2.1,yX.2.2.2.2.1,yX.2.1,yX.1,by have:=AX.lt;show BL<_;omega⟩
 have Dj:=ae yX;clear Mv Ki xx RV AX AL xl UE UF lW PS fJ yX CO;go_wp2_with fail
 refine (fL.o WX (nl:Int) HU.o.ext HU.o.tape (by have:=Iw.o.1;omega) (by have:=Iw.o.2;omega)).mono ?_;rintro e W3 ⟨z1,rfl,RX,hT,hx⟩;replace HU:=ae (HU.o.next hT hx);replace jo:=ae (jo.o.but hx Dj.o.1);have HZ1:=ae RX;clear hT hx RX;have c1:=HU.o.o.cl 1 (.slice (some ⟨BL,0,none⟩) 1 1) rfl;have c0:=jo.o.cl 0 (i64 z0) rfl;go_upto_region 3 with fail
 go_cut [32] (fun v wx=> ∃b:Bool,v= .bool b∧(b=true→z0<z1)∧OW V T R X a c l (⟨aI 111 i,some ⟨BL,0,none⟩,1,[z0],false,none,0,[]⟩:bB) wx∧aJ wx BL 3 [i64 z0])
 case first=>
  as_aux_lemma=>
   by_cases hgt:z0<z1
   ·go_wp2_with fail
    refine (fL.o W3 3 HU.o.ext HU.o.tape (by decide) (by decide)).mono ?_;rintro e W4 ⟨q,rfl,K8,hT,hx⟩;have Ez:=ae (HU.o.next hT hx);have Xe:=ae (jo.o.but hx Dj.o.1);clear hT hx K8 c1 c0;go_wp2_with fail
    go_meet
    exact ⟨_,rfl,fun _=>hgt,Ez.o,Xe.o⟩
   ·go_wp2_with fail
    go_meet
    exact ⟨_,rfl,fun h=>absurd h (by simp),HU.o,jo.o⟩
 case rest=>
  obtain ⟨b,rfl,hb,hU,hB⟩:=hcut;generalize wc=WB at*;clear HU jo c1 c0;have HU:=ae hU;have jo:=ae hB;have HB:=ae hb
  clear hU hB hb;go_upto_if 32 with fail
  go_cut [] (fun wx=> ∃(la:Option Addr) (lc:Nat) (ls:List Int),(ls= [z0]∨(ls= [z0,z1]∧z0<z1))∧OW V T R X a c l (⟨aI 111 i,la,lc,ls,false,none,0,[]⟩:bB) wx)
  case first=>
   as_aux_lemma=>
    cases b with
    |false=>
     go_wp2_with fail
     go_meet
     exact ⟨_,_,_,Or.inl rfl,HU.o⟩
    |true=>
     have hlt:=HB.o rfl;have c1:=HU.o.o.cl 1 (.slice (some ⟨BL,0,none⟩) 1 1) rfl;have HOW:Hid (WB.ownsRow BL 3 1 (.slice (some ⟨BL,0,none⟩) 1 1) 1 [i64 z0]):=⟨rfl,Or.inr ⟨BL,1,#[i64 z0],rfl,Nat.le_refl _,jo.o,Nat.le_refl _,by decide,rfl,rfl⟩⟩;have hBs:BL≤WB.heap.size:=Nat.le_of_lt jo.o.lt
     go_wp2_with (
      at_builtin
      refine aW _ rfl _ _ 22 rfl BL 3 (.int .i64 0) 1 8 underlying22 Tryz.info_int rfl (by decide) (.slice (some ⟨BL,0,none⟩) 1 1) 1 [i64 z0] rfl ?c1 (some ⟨WB.heap.size,0,none⟩) 1 1 [i64 z1] rfl rfl ?c2 ?c3 ?c4 ?c5 (by decide) ?c6 ?_
      case c1=>exact bq HOW.o ((Ext.refl _).alloc _)
      case c2=>exact fun _=>⟨_,rfl,cu WB 3 [i64 z1]⟩
      case c3=>intro u hu;rw [List.mem_singleton]at hu;subst hu;rfl
      case c4=>intro e;cases e
      case c5=>decide
      case c6=>simp;omega
      intro v1 w5 ho he hb hz hv;obtain ⟨a2,k2,rfl,c1,f1,hU2⟩:=HU.o.RR Dj.o.2.2.2.2.1 jo.o.lt (by have:=UD.o;have:=Iw.o.2;unfold bp;omega) (by have:=HZ1.o;have:=Iw.o.2;unfold bp;omega) ho.o he.o hb.o hz.o hv.o;have Ez:=ae hU2;clear HU HOW ho he hb hz hv hBs hU2)
     go_wp2_with fail
     go_meet
     exact ⟨_,_,_,Or.inr ⟨rfl,hlt⟩,Ez.o⟩
  case rest=>
   obtain ⟨la,lc,ls,hls,hU⟩:=hcut;generalize wc=WC at*;clear HU jo HB;have HU:=ae hU;have Mx:=ae hls
   clear hU hls;go_wp2_with fail
   refine (fL.o WC 2 HU.o.ext HU.o.tape (by decide) (by decide)).mono ?_;rintro e W5 ⟨q,rfl,K8,hT,hx⟩;replace HU:=ae (HU.o.next hT hx);clear hT hx K8;go_upto_if 41 with fail
   go_cut [] (fun wx=> ∃(cr:Bool) (ma:Option Addr) (mc:Nat) (ms:List bE),(cr=false→ms= [])∧jn ms nu∧bS wx 3 ma mc (ik ms)∧Fr V.heap.size ma∧(∀p,ma=some p→p.block≠R∧p.block<wx.heap.size)∧OW V T R X a c l (⟨aI 111 i,la,lc,ls,cr,ma,mc,ms⟩:bB) wx)
   case first=>
    rcases Bool.eq_false_or_eq_true (q==1)with hq|hq
    ·as_aux_lemma=>
      have c2:=HU.o.o.cl 2 (.bool false) rfl;have f2:=HU.o.o.frozen 2;have UG:Hid (OW V T R X a c l (⟨aI 111 i,la,lc,ls,true,none,0,[]⟩:bB) (W5.setCell ⟨X,2,none⟩ (.bool true))):=HU.o.set 2 (.bool true) _ rfl HU.o.lines HU.o.lf;go_upto_region 7 with fail
      clear c2 f2 HU;have HU:=UG;clear UG;generalize (W5.setCell ⟨X,2,none⟩ (.bool true))=W6 at*;go_wp2_with fail
      rw [hq];clear hq;go_loopw [11] (fun uv wr=> ∃(u:Nat) (ms:List bE) (ma:Option Addr) (mc:Nat),u≤nu∧jn ms u∧aN wr W6.heap.size 140 3 (.slice ma ms.length mc) (ik ms)∧OW V T R X a c l (⟨aI 111 i,la,lc,ls,true,ma,mc,ms⟩:bB) wr∧W6.heap.size≤wr.heap.size∧uv= .int .i64 (u:Int)) (fun uv _=>nu-(intOf uv).toNat)
      case atStart=>exact ⟨0,[],none,0,Nat.zero_le _,⟨fun m hm=>absurd hm (by simp),rfl,Nat.zero_le _⟩,aN.nil _ _ _ _,HU.o,Nat.le_refl _,rfl⟩
      case round=>
       have Di:Hid (T<W6.heap.size∧X<W6.heap.size∧R<W6.heap.size∧V.heap.size≤W6.heap.size):=⟨HU.o.tape.lt,HU.o.o.lt,HU.o.res.lt,HU.o.ext.size⟩;have HLF:Hid (∀p,la=some p→p.block<W6.heap.size):=fun p hp=>(HU.o.lf p hp).2.2.2.2;obtain ⟨u,ms,ma,mc,hu,Dk,hown,hU,hD,rfl⟩:=hrel;clear HU;have HU:=ae hU;have HM:=ae Dk;have HO:=ae hown;have HD:=ae hD
       clear hU Dk hown hD;by_cases hlt:u<nu
       ·have bi:(u:Int)<(nu:Int):=by omega
        go_wp2_with fail
        refine (fL.o wr 2 HU.o.ext HU.o.tape (by decide) (by decide)).mono ?_;rintro e W7 ⟨y,rfl,Kk,hT,hx⟩;have Ix:Hid (W6.heap.size≤W7.heap.size):=Nat.le_trans HD.o hx.size;have Bc:=ae (HU.o.next hT hx);have Kl:=ae (HO.o.but hx Di.o.1);clear hT hx Kk HU HO HD;have Zs:IntKind.i64.wrap ((u:Int)+1)=((u+1:Nat):Int):=by rw [IntKind.wrap_i64];have:=K7.o;omega
        rcases Bool.eq_false_or_eq_true (y==1)with hy|hy
        ·go_upto_region 11 with fail
         refine aB (fun w'=>True) (fun w'=>w'.cell? ⟨X,3,none⟩=some (.slice ma ms.length mc)) (fun i=>i==11) (by kernel_rfl) (trivial) ((Bc.o.o.cell 3).trans rfl) (fun aq ah=> ?_);refine ay 0 aq ah ?_;refine kr 1 aq ah ?_;refine ay 2 aq ah ?_ (v:= .int .i64 (u:Int));refine ay 3 aq ah ?_;refine ay 5 aq ah ?_;replace Bc:=ae (Bc.o.grow (Ext.refl W7).drew);replace Kl:=ae (Kl.o.ext (Ext.refl W7).drew);replace Ix:Hid (W6.heap.size≤W7.drew.heap.size):=Ix.o;generalize W7.drew=W8 at*;refine dX 4 rfl (fun Kc hK=> ?_);go_simp;refine (fL.o W8 8 Bc.o.ext Bc.o.tape (by decide) (by decide)).mono ?_;rintro e W9 ⟨up,rfl,RY,hT,hx⟩;replace Bc:=ae (Bc.o.next hT hx);replace Kl:=ae (Kl.o.but hx Di.o.1);replace Ix:Hid (W6.heap.size≤W9.heap.size):=Nat.le_trans Ix.o hx.size;have Xf:=ae RY;clear hT hx RY;refine hK.o _ _ (trivial) ((Bc.o.o.cell 3).trans rfl) (fun aq ah=> ?_);clear hK Kc;try simp only [sS]
         refine dX 6 rfl (fun Kc hK=> ?_);go_simp;refine (fL.o W9 8 Bc.o.ext Bc.o.tape (by decide) (by decide)).mono ?_;rintro e v_ ⟨dn,rfl,RZ,hT,hx⟩;replace Bc:=ae (Bc.o.next hT hx);replace Kl:=ae (Kl.o.but hx Di.o.1);replace Ix:Hid (W6.heap.size≤v_.heap.size):=Nat.le_trans Ix.o hx.size;have Xg:=ae RZ;clear hT hx RZ;refine hK.o _ _ (trivial) ((Bc.o.o.cell 3).trans rfl) (fun aq ah=> ?_);clear hK Kc;try simp only [sS]
         refine ay 7 aq ah ?_ (v:= .agg #[.int .i64 (u:Int),i64 up,i64 dn]);have EA:=(Ext.refl v_).alloc (.cells #[i64 (u:Int),i64 up,i64 dn] 140);refine dX 8 rfl (fun Kc hK=> ?_);go_simp;refine hK.o _ _ (trivial) ((((Bc.o.grow EA).o.cell 3).trans rfl)) (fun aq ah=> ?_);clear hK Kc;try simp only [sS]
         have HOW:Hid ((v_.alloc (.cells #[i64 (u:Int),i64 up,i64 dn] 140)).ownsRow W6.heap.size 140 3 (.slice ma ms.length mc) ms.length (ik ms).flatten):=by
             have h5:=(Kl.o.ext EA).own;rw [jL]at h5;exact h5
         have hml:ms.length≤1000:=by have:=HM.o.len;have:=K7.o;omega
         have K_:(v_.alloc (.cells #[i64 (u:Int),i64 up,i64 dn] 140)).heap.size=v_.heap.size+1:=by simp
         refine dX 9 rfl (fun Kc hK=> ?_);rw [if_pos (by rfl)];refine oG _ (.tmp 52) (.tmp 59) 85 rfl W6.heap.size 140 (.agg #[i64 0,i64 0,i64 0]) 3 24 underlying85 Tryz.info_move rfl (by decide) (.slice ma ms.length mc) ms.length (ik ms).flatten rfl ?c1 (some ⟨v_.heap.size,0,none⟩) 1 1 [i64 (u:Int),i64 up,i64 dn] rfl rfl ?c2 ?c3 ?c4 ?c5 (by decide) ?c6 ?c7 (by decide)
         case c1=>exact HOW.o
         case c2=>exact fun _=>⟨_,rfl,cu v_ 140 [i64 (u:Int),i64 up,i64 dn]⟩
         case c3=>intro z hz;simp only [List.mem_cons,List.not_mem_nil,or_false]at hz;rcases hz with rfl|rfl|rfl<;>rfl
         case c4=>intro e;cases e
         case c5=>omega
         case c6=>rw [K_];have:=Ix.o;omega
         intro v1 w5 ho he hb hz hv;obtain ⟨Cw,Cx,rfl⟩:=je ho.o;obtain ⟨K,NR,-,hKx⟩:=iB (base:=W6.heap.size) (v:= .slice ma ms.length mc) (by rw [K_];have:=Ix.o;omega) (fun k e=>(HOW.o.lt k e).1) he.o hb.o hz.o;have NS:Hid (OW V T R X a c l (⟨aI 111 i,la,lc,ls,true,ma,mc,ms⟩:bB) w5):=(Bc.o.grow EA).but hKx (by have:=Di.o;omega) (by have:=Di.o;omega) (by have:=Di.o;omega) (fun p hp=>by have:=HLF.o p hp;omega);obtain ⟨Iy,La⟩: ∃Iy,Iy=ms++ [(⟨(u:Int),up,dn⟩:bE)]:=⟨_,rfl⟩;have hl2:ms.length+1=Iy.length:=by rw [La,List.length_append];rfl
         have Xh:Hid (aN w5 W6.heap.size 140 3 (.slice Cw (ms.length+1) Cx) (ik Iy)):=by
             have h5:=(Kl.o.ext EA).snoc (w':=w5) (r:= [i64 (u:Int),i64 up,i64 dn]) rfl (by rw [jL];exact ho.o);have h6:=wO ms ⟨(u:Int),up,dn⟩;show aN _ _ _ _ _ _;rw [La,h6];exact h5
         have Ij:Hid (jn Iy (u+1)):=by rw [La];exact HM.o.snoc Xf.o Xg.o
         have HD8:Hid (W6.heap.size≤w5.heap.size):=by have:=hz.o;have:=Ix.o;rw [K_]at*;show _≤_;omega
         rw [hl2]at Xh;rw [hl2];clear La hl2 ho he hb hz hv NR hKx HOW hml K_ EA Kl Bc Ix;refine hK.o _ _ (trivial) ((NS.o.o.cell 3).trans rfl) (fun aq ah=> ?_);clear hK Kc;try simp only [sS]
         refine ay 10 aq ah ?_;have c3:=NS.o.o.cl 3 (.slice ma ms.length mc) rfl;have f3:=NS.o.o.frozen 3;refine aQ (rs:= [11]) (by kernel_rfl) (by simp) ?_;refine aA.late rfl (by kernel_rfl) (fun Kc hK=> ?_) aA.nil;go_simp;refine hK.o _ _ (trivial) (fun aq=> ?_);clear hK Kc;try simp only [sS]
         refine ax (by kernel_rfl) ?_ _;clear aq c3 f3;have UH:Hid (OW V T R X a c l (⟨aI 111 i,la,lc,ls,true,Cw,Cx,Iy⟩:bB) (w5.setCell ⟨X,3,none⟩ (.slice Cw Iy.length Cx))):=NS.o.set 3 _ _ rfl NS.o.lines NS.o.lf;have hx3:=((ar.refl X w5).gD (o:=3) (v:= .slice Cw Iy.length Cx));have HO9:=ae (Xh.o.but hx3 Di.o.2.1);have HD9:Hid (W6.heap.size≤(w5.setCell ⟨X,3,none⟩ (.slice Cw Iy.length Cx)).heap.size):=Nat.le_trans HD8.o hx3.size;clear hx3 NS Xh HD8;generalize (w5.setCell ⟨X,3,none⟩ (.slice Cw Iy.length Cx))=Z9 at*;go_wp2_with fail
         exact ⟨⟨u+1,Iy,Cw,Cx,by omega,Ij.o,HO9.o,UH.o,HD9.o,rfl⟩,by show nu-(((u+1:Nat):Int)).toNat<nu-((u:Int)).toNat;omega⟩
        ·go_wp2_with fail
         exact ⟨⟨u+1,ms,ma,mc,by omega,HM.o.next,Kl.o,Bc.o,Ix.o,rfl⟩,by show nu-(((u+1:Nat):Int)).toNat<nu-((u:Int)).toNat;omega⟩
       ·obtain rfl:u=nu:=by omega
        go_wp2_with fail
        go_meet
        have hob: ∀p,ma=some p→p.block<wr.heap.size:=fun p hp=>(HO.o.own.lt p.block (by rw [hp];rfl)).2;obtain ⟨ra,rc,sK,Bb,Ey⟩:=HO.o.recs (by decide);rw [jL]at sK;cases sK
        exact ⟨true,_,_,ms,fun h=>(by cases h),HM.o,Bb,Ey.mono Di.o.2.2.2,fun p hp=>⟨Ey.ne Di.o.2.2.1 p hp,hob p hp⟩,HU.o⟩
    ·as_aux_lemma=>
      go_wp2_with fail
      go_meet
      exact ⟨false,none,0,[],fun _=>rfl,⟨fun m hm=>absurd hm (by simp),rfl,Nat.zero_le _⟩,⟨Nat.le_refl _,by decide,fun i hi=>absurd hi (Nat.not_lt_zero _)⟩,Fr.none _,(fun p hp=>by cases hp),HU.o⟩
   case rest=>
    obtain ⟨cr,ma,mc,ms,hcr,Dk,UB,jU,hne,hU⟩:=hcut;generalize wc=WD at*;clear HU;have HU:=ae hU;have HM:=ae (And.intro hcr (And.intro Dk (And.intro UB (And.intro jU hne))))
    clear hU hcr Dk UB jU hne;go_upto_region 12 with fail
    as_aux_lemma=>
     obtain ⟨xf,NP⟩: ∃xf,xf=(⟨aI 111 i,la,lc,ls,cr,ma,mc,ms⟩:bB):=⟨_,rfl⟩
     have HF:Hid (xQ xf i nl nu∧xf.ma=ma∧xf.mc=mc∧xf.moves=ms):=by
      have h1:=UD.o;have h2:=HZ1.o
      rw [NP];refine ⟨⟨rfl,?_,?_,?_,HM.o.2.1,HM.o.1⟩,rfl,rfl,rfl⟩
      ·rcases Mx.o with rfl|⟨rfl,-⟩
       ·exact Or.inl rfl
       ·exact Or.inr rfl
      ·intro z hz
       rcases Mx.o with rfl|⟨rfl,-⟩
       ·simp only [List.mem_cons,List.not_mem_nil,or_false]at hz;subst hz;exact h1
       ·simp only [List.mem_cons,List.not_mem_nil,or_false]at hz
        rcases hz with rfl|rfl
        ·exact h1
        ·exact h2
      ·rcases Mx.o with rfl|⟨rfl,h5⟩
       ·rfl
       ·show g_ [z0,z1]=true
        rw [j6];intro j ZP hj2;have:j=1:=by simp only [List.length_cons,List.length_nil]at hj2;omega
        subst this;exact h5
     rw [←NP]at HU;clear NP;have Iu: ∀j v,xf.cells[j]?=some v→WD.cell? ((⟨X,0,none⟩:Addr).add j)=some v:=fun j v hj=>by rw [gM,HU.o.o.cell j];exact hj
     go_wp2_with (first|(refine bG rfl 87 _ rfl ⟨X,0,none⟩ rfl xf.cells _ Iu rfl rfl rfl ?_)|(refine dM rfl 87 _ _ rfl R qd.cells xf.cells HU.o.res rfl rfl (by kernel_rfl) rfl rfl ?_;intro Ew rE ij))
     have wN:=ae (HU.o.ext.over ij GP.o);have Dg:=ae (HU.o.tape.but ij (fun e=>p9 e.symm))
     have Dh:Hid (aD Ew xf.la xf.lc xf.lines):=HU.o.lines.dA ij (fun p hp=>(HU.o.lf p hp).2.2.1)
     have NQ:Hid (bS Ew 3 xf.ma xf.mc (xf.moves.map bE.cells)):=by
      have h5:=HM.o.2.2.1.but ij (fun p hp=>(HM.o.2.2.2.2 p hp).1);rw [HF.o.2.1,HF.o.2.2.1,HF.o.2.2.2];exact h5
     have FU:Hid (Fr V.heap.size xf.la∧Fr V.heap.size xf.ma∧ ∀p,xf.ma=some p→p.block<Ew.heap.size):=⟨fun p hp=>(HU.o.lf p hp).1,by rw [HF.o.2.1];exact HM.o.2.2.2.1,fun p hp=>Nat.lt_of_lt_of_le (HM.o.2.2.2.2 p (by rw [←HF.o.2.1];exact hp)).2 ij.size⟩;exact bodyPost_ret (v:= .agg xf.cells.toArray) (nB 8 _ rfl rfl rE rfl rfl rfl) rfl ⟨xf,rfl,HF.o.1,Dh.o,FU.o.1,NQ.o,FU.o.2.1,FU.o.2.2,Dg.o,wN.o⟩
def iq (P:Nat→Prop) (a:Option Addr):Prop:= ∀p,a=some p→P p.block
theorem iq.none (P:Nat→Prop):iq P Option.none:=fun _ h=>by cases h
theorem iq.mono {P Q:Nat→Prop} {a:Option Addr} (h:iq P a) (hp: ∀b,P b→Q b):iq Q a:=fun p e=>hp _ (h p e)
structure dN (P:Nat→Prop) (c:ai):Prop where
 aV:iq P c.ra
 ak:iq P c.ba
 bus: ∀b∈c.ak,iq P b.da
 lines:iq P c.la
 line: ∀l∈c.lines,iq P l.aa
 au:iq P c.ua
 unit: ∀u∈c.au,iq P u.sa∧iq P u.aa
 stores:iq P c.sa
 aL:iq P c.ta
 tie: ∀t∈c.aL,iq P t.ia∧iq P t.ea∧iq P t.pa
 outs:iq P c.oa
 o: ∀o∈c.outs,iq P o.la∧iq P o.ma
theorem dN.mono {P Q:Nat→Prop} {c:ai} (h:dN P c) (hp: ∀b,P b→Q b):dN Q c:=
 ⟨h.aV.mono hp,h.ak.mono hp,fun b hb=>(h.bus b hb).mono hp,h.lines.mono hp,fun l hl=>(h.line l hl).mono hp,h.au.mono hp,fun u hu=>⟨(h.unit u hu).1.mono hp,(h.unit u hu).2.mono hp⟩,h.stores.mono hp,h.aL.mono hp,
   fun t ht=>⟨(h.tie t ht).1.mono hp,(h.tie t ht).2.1.mono hp,(h.tie t ht).2.2.mono hp⟩,h.outs.mono hp,fun o ho=>⟨(h.o o ho).1.mono hp,(h.o o ho).2.mono hp⟩⟩
theorem aS.but {w w':World} {c:ai} {K:Nat} (h:aS w c) (x:ar K w w') (hb:dN (fun b=>b≠K) c):aS w' c:=
 ⟨h.hours,h.aV.dA x hb.aV,h.ak.but x hb.ak,fun b hm=>⟨(h.bus b hm).1,(h.bus b hm).2.1.dA x (hb.bus b hm),(h.bus b hm).2.2⟩,h.lines.but x hb.lines,fun l hl=>⟨(h.line l hl).1,(h.line l hl).2.1.dA x (hb.line l hl),(h.line l hl).2.2⟩,
   h.au.but x hb.au,fun u hu=>⟨(h.unit u hu).1,(h.unit u hu).2.1.dA x (hb.unit u hu).2,(h.unit u hu).2.2.1.but x (hb.unit u hu).1,(h.unit u hu).2.2.2⟩,h.stores.but x hb.stores,h.store,h.aL.but x hb.aL,
   fun t ht=>⟨(h.tie t ht).1,(h.tie t ht).2.1.dA x (hb.tie t ht).1,(h.tie t ht).2.2.1.dA x (hb.tie t ht).2.1,(h.tie t ht).2.2.2.1.dA x (hb.tie t ht).2.2,(h.tie t ht).2.2.2.2⟩,
   h.outs.but x hb.outs,fun o ho=>⟨(h.o o ho).1,(h.o o ho).2.1.dA x (hb.o o ho).1,(h.o o ho).2.2.1.but x (hb.o o ho).2,(h.o o ho).2.2.2⟩⟩
def Bd:ai:=⟨0,none,0,[],none,0,[],none,0,[],none,0,[],none,0,[],none,0,[],none,0,[]⟩
structure CW (V:World) (T R X:Nat) (a:Option Addr) (c:Nat) (l:List Int) (cs:List Value) (x:ai) (W:World):Prop where
 tape:aY W T a c l
 bJ:aJ W X 32 cs
 res:aJ W R 32 Bd.cells
 ext:Ext V W
 case':aS W x
 bl:dN (fun b=>X<b∧b<W.heap.size) x
 pos:V.heap.size≤T∧V.heap.size≤R∧T≠R∧T<X∧R<X
theorem CW.next {V W W':World} {T R X:Nat} {a:Option Addr} {c:Nat} {l:List Int} {cs:List Value} {x:ai} (h:CW V T R X a c l cs x W) (hT:aY W' T a c l) (hx:ar T W W'):CW V T R X a c l cs x W':=by
 have hp:=h.pos;have hs:=hx.size;exact ⟨hT,h.bJ.but hx (by omega),h.res.but hx (by omega),hx.ext h.ext (by omega),h.case'.but hx (h.bl.mono fun b hb=>by omega),h.bl.mono fun b hb=>by omega,h.pos⟩
theorem CW.grow {V W W':World} {T R X:Nat} {a:Option Addr} {c:Nat} {l:List Int} {cs:List Value} {x:ai} (h:CW V T R X a c l cs x W) (hx:Ext W W'):CW V T R X a c l cs x W':=h.next (h.tape.ext hx) (hx.but T)
theorem CW.but {V W W':World} {T R X K:Nat} {a:Option Addr} {c:Nat} {l:List Int} {cs:List Value} {x:ai} (h:CW V T R X a c l cs x W) (hx:ar K W W') (hK:X<K) (hb:dN (fun b=>b≠K) x):CW V T R X a c l cs x W':=by
 have hp:=h.pos;have hs:=hx.size;exact ⟨h.tape.but hx (by omega),h.bJ.but hx (by omega),h.res.but hx (by omega),hx.ext h.ext (by omega),h.case'.but hx hb,h.bl.mono fun b hb=>by omega,h.pos⟩
theorem CW.set {V W:World} {T R X:Nat} {a:Option Addr} {c:Nat} {l:List Int} {cs:List Value} {x x':ai} (h:CW V T R X a c l cs x W) (j:Nat) (v:Value) (hc:aS W x') (hb:dN (fun b=>X<b∧b<W.heap.size) x'):CW V T R X a c l (cs.set j v) x' (W.setCell ⟨X,j,none⟩ v):=by
 have hp:=h.pos;have hx:=((ar.refl X W).gD (o:=j) (v:=v));have hs:=hx.size;exact ⟨h.tape.but hx (by omega),h.bJ.set j v,h.res.but hx (by omega),hx.ext h.ext (by omega),hc.but hx (hb.mono fun b hb=>by omega),hb.mono fun b hb=>by omega,h.pos⟩
structure gT (V:World) (T R X D:Nat) (a:Option Addr) (c:Nat) (l:List Int) (cs:List Value) (x0:ai) (e:TypeId) (m:Nat) (ga:Option Addr) (gc:Nat) (rows:List (List Value)) (si:List (Option Addr×Nat×List Int)) (sr:List (Option Addr×Nat×Nat×List (List Value))) (W:World):Prop where
 cw:CW V T R X a c l cs x0 W
 own:aN W D e m (.slice ga rows.length gc) rows
 si: ∀s∈si,aD W s.1 s.2.1 s.2.2∧ ∀p,s.1=some p→X<p.block∧p.block<W.heap.size∧ ∀q,ga=some q→p.block≠q.block
 sr: ∀s∈sr,bS W s.2.2.1 s.1 s.2.1 s.2.2.2∧ ∀p,s.1=some p→X<p.block∧p.block<W.heap.size∧ ∀q,ga=some q→p.block≠q.block
 old:dN (fun b=>b<D) x0
 size:D≤W.heap.size
 lo:X<D
theorem gT.next {V W W':World} {T R X D:Nat} {a:Option Addr} {c:Nat} {l:List Int} {cs:List Value} {x0:ai} {e:TypeId} {m:Nat} {ga:Option Addr} {gc:Nat} {rows:List (List Value)} {si:List (Option Addr×Nat×List Int)} {sr:List (Option Addr×Nat×Nat×List (List Value))}
 (h:gT V T R X D a c l cs x0 e m ga gc rows si sr W) (hT:aY W' T a c l) (hx:ar T W W'):gT V T R X D a c l cs x0 e m ga gc rows si sr W':=by
 have hp:=h.cw.pos;have hs:=hx.size;have qN:=h.lo;have hsz:=h.size
 refine ⟨h.cw.next hT hx,h.own.but hx (by omega),fun s hm=> ?_,fun s hm=> ?_,h.old,by omega,h.lo⟩
 ·obtain ⟨h1,h2⟩:=h.si s hm
  exact ⟨h1.dA hx (fun p e=>by have:=h2 p e;omega),fun p e=>by have h3:=h2 p e;exact ⟨h3.1,by omega,h3.2.2⟩⟩
 ·obtain ⟨h1,h2⟩:=h.sr s hm
  exact ⟨h1.but hx (fun p e=>by have:=h2 p e;omega),fun p e=>by have h3:=h2 p e;exact ⟨h3.1,by omega,h3.2.2⟩⟩
theorem gT.grow {V W W':World} {T R X D:Nat} {a:Option Addr} {c:Nat} {l:List Int} {cs:List Value} {x0:ai} {e:TypeId} {m:Nat} {ga:Option Addr} {gc:Nat} {rows:List (List Value)} {si:List (Option Addr×Nat×List Int)} {sr:List (Option Addr×Nat×Nat×List (List Value))}
 (h:gT V T R X D a c l cs x0 e m ga gc rows si sr W) (hx:Ext W W'):gT V T R X D a c l cs x0 e m ga gc rows si sr W':=h.next (h.cw.tape.ext hx) (hx.but T)
theorem gT.jQ {V W:World} {T R X D:Nat} {a:Option Addr} {c:Nat} {l:List Int} {cs:List Value} {x0:ai} {e:TypeId} {m:Nat} {ga:Option Addr} {gc:Nat} {rows:List (List Value)} {si:List (Option Addr×Nat×List Int)} {sr:List (Option Addr×Nat×Nat×List (List Value))}
 (h:gT V T R X D a c l cs x0 e m ga gc rows si sr W): ∀q,ga=some q→D≤q.block∧q.block<W.heap.size:=fun q hq=>by
 have h1:=h.own.own.lt q.block (by rw [hq];rfl);exact h1
theorem gT.Be {V W W':World} {T R X D:Nat} {a:Option Addr} {c:Nat} {l:List Int} {cs:List Value} {x0:ai} {e:TypeId} {m:Nat} {ga:Option Addr} {gc:Nat} {rows:List (List Value)} {si:List (Option Addr×Nat×List Int)} {sr:List (Option Addr×Nat×Nat×List (List Value))}
 (h:gT V T R X D a c l cs x0 e m ga gc rows si sr W) {b:Option Addr} {k:Nat} {z:List Int} (hT:aY W' T a c l) (hx:ar T W W') (hi:aD W' b k z) (hf:Fr W.heap.size b) (hb: ∀p,b=some p→p.block<W'.heap.size):gT V T R X D a c l cs x0 e m ga gc rows (si++ [(b,k,z)]) sr W':=by
 have h':=h.next hT hx;refine {h' with si:=fun s hm=> ?_};rcases List.mem_append.1 hm with e1|e1
 ·exact h'.si s e1
 ·rw [List.mem_singleton]at e1;subst e1
  refine ⟨hi,fun p hp=> ?_⟩;replace hp:b=some p:=hp;have h1:=hf p hp;have h2:=h.lo;have h3:=h.size
  exact ⟨by omega,hb p hp,fun q hq=>by have:=(h.jQ q hq).2;omega⟩
theorem gT.Xi {V W W':World} {T R X D:Nat} {a:Option Addr} {c:Nat} {l:List Int} {cs:List Value} {x0:ai} {e:TypeId} {m:Nat} {ga:Option Addr} {gc:Nat} {rows:List (List Value)} {si:List (Option Addr×Nat×List Int)} {sr:List (Option Addr×Nat×Nat×List (List Value))}
 (h:gT V T R X D a c l cs x0 e m ga gc rows si sr W) {b:Option Addr} {k n:Nat} {z:List (List Value)} (hT:aY W' T a c l) (hx:ar T W W') (hi:bS W' n b k z) (hf:Fr W.heap.size b) (hb: ∀p,b=some p→p.block<W'.heap.size):gT V T R X D a c l cs x0 e m ga gc rows si (sr++ [(b,k,n,z)]) W':=by
 have h':=h.next hT hx;refine {h' with sr:=fun s hm=> ?_};rcases List.mem_append.1 hm with e1|e1
 ·exact h'.sr s e1
 ·rw [List.mem_singleton]at e1;subst e1
  refine ⟨hi,fun p hp=> ?_⟩;replace hp:b=some p:=hp;have h1:=hf p hp;have h2:=h.lo;have h3:=h.size
  exact ⟨by omega,hb p hp,fun q hq=>by have:=(h.jQ q hq).2;omega⟩
theorem gT.push {V W w5:World} {T R X D:Nat} {a:Option Addr} {c:Nat} {l:List Int} {cs:List Value} {x0:ai} {e:TypeId} {m:Nat} {ga:Option Addr} {gc:Nat} {rows:List (List Value)} {si:List (Option Addr×Nat×List Int)} {sr:List (Option Addr×Nat×Nat×List (List Value))}
 (h:gT V T R X D a c l cs x0 e m ga gc rows si sr W) {r:List Value} {v1:Value} (j:Nat) (hr:r.length=m)
 (ho:w5.ownsRow D e m v1 (rows.length+1) (rows.flatten++r)) (he: ∀a0,Ext a0 W→a0.heap.size≤D→Ext a0 w5) (hb: ∀k,k<W.heap.size→some k≠Value.ownBlock (.slice ga rows.length gc)→w5.heap[k]?=W.heap[k]?) (hz:W.heap.size≤w5.heap.size)
 (hv:v1.ownBlock=Value.ownBlock (.slice ga rows.length gc)∨ ∃g,v1.ownBlock=some g∧W.heap.size≤g):
 ∃g2 k2,v1= .slice g2 (rows.length+1) k2∧gT V T R X D a c l cs x0 e m g2 k2 (rows++ [r]) si sr w5∧gT V T R X D a c l (cs.set j (.slice g2 (rows.length+1) k2)) x0 e m g2 k2 (rows++ [r]) si sr (w5.setCell ⟨X,j,none⟩ (.slice g2 (rows.length+1) k2)):=by
 obtain ⟨g2,k2,rfl⟩:=je ho;have qN:=h.lo;have hsz:=h.size
 obtain ⟨K,NR,Kj,hKx⟩:=iB (base:=D) (v:= .slice ga rows.length gc) hsz (fun k q=>(h.own.own.lt k q).1) he hb hz
 have NT:K=W.heap.size∨ ∃q,ga=some q∧q.block=K:=by
  rcases Kj with q|q
  ·exact .inl q
  ·cases ga with
   |none=>cases q
   |some q'=>exact .inr ⟨q',rfl,by have e2:some q'.block=some K:=q;cases e2;rfl⟩
 have Bf: ∀p:Addr,X<p.block∧p.block<W.heap.size∧(∀q,ga=some q→p.block≠q.block)→p.block≠K:=fun p hp=>by
  rcases NT with q|⟨q,q1,q2⟩
  ·omega
  ·have:=hp.2.2 q q1;omega
 have hg2: ∀q,g2=some q→(∃q0,ga=some q0∧q.block=q0.block)∨W.heap.size≤q.block:=fun q hq=>by
  subst hq;rcases hv with e1|⟨g,e1,e2⟩
  ·cases ga with
   |none=>cases e1
   |some q'=>exact .inl ⟨q',rfl,by have e3:some q.block=some q'.block:=e1;exact Option.some.inj e3⟩
  ·have e3:some q.block=some g:=e1
   cases e3;exact .inr e2
 have hs5:=hKx.size
 have P5:gT V T R X D a c l cs x0 e m g2 k2 (rows++ [r]) si sr w5:=by
  refine ⟨h.cw.but hKx (by omega) (h.old.mono fun b hb=>by omega),?_,fun s hm=> ?_,fun s hm=> ?_,h.old,by omega,h.lo⟩
  ·have h5:=h.own.snoc (w':=w5) hr ho
   rw [List.length_append];exact h5
  ·obtain ⟨h1,h2⟩:=h.si s hm
   refine ⟨h1.dA hKx (fun p q=>Bf p (h2 p q)),fun p q=> ?_⟩;have h3:=h2 p q;refine ⟨h3.1,by omega,fun q' hq'=> ?_⟩;rcases hg2 q' hq' with⟨q0,h5,h6⟩|h5
   ·have:=h3.2.2 q0 h5;omega
   ·omega
  ·obtain ⟨h1,h2⟩:=h.sr s hm
   refine ⟨h1.but hKx (fun p q=>Bf p (h2 p q)),fun p q=> ?_⟩;have h3:=h2 p q;refine ⟨h3.1,by omega,fun q' hq'=> ?_⟩;rcases hg2 q' hq' with⟨q0,h5,h6⟩|h5
   ·have:=h3.2.2 q0 h5;omega
   ·omega
 refine ⟨g2,k2,rfl,P5,?_⟩;have hx:=((ar.refl X w5).gD (o:=j) (v:= .slice g2 (rows.length+1) k2));have hs6:=hx.size;refine ⟨P5.cw.set j _ P5.cw.case' P5.cw.bl,P5.own.but hx qN,fun s hm=> ?_,fun s hm=> ?_,h.old,by have:=P5.size;omega,h.lo⟩
 ·obtain ⟨h1,h2⟩:=P5.si s hm
  exact ⟨h1.dA hx (fun p q=>by have:=h2 p q;omega),fun p q=>by have h3:=h2 p q;exact ⟨h3.1,by omega,h3.2.2⟩⟩
 ·obtain ⟨h1,h2⟩:=P5.sr s hm
  exact ⟨h1.but hx (fun p q=>by have:=h2 p q;omega),fun p q=>by have h3:=h2 p q;exact ⟨h3.1,by omega,h3.2.2⟩⟩
theorem EB {W W':World} {D K m n gc:Nat} {e:TypeId} {ga:Option Addr} {rows:List (List Value)} (h:aN W D e m (.slice ga n gc) rows) (hx:ar K W W') (hg: ∀q,ga=some q→q.block≠K):aN W' D e m (.slice ga n gc) rows:=by
 refine ⟨⟨h.own.1,?_⟩,h.len⟩;rcases h.own.2 with h0|⟨g,cap,cur,hv,hb,hc,hr⟩
 ·exact .inl h0
 ·refine .inr ⟨g,cap,cur,hv,hb,?_,hr⟩
  have hne:g≠K:=by
   simp only [Value.slice.injEq]at hv;exact hg _ hv.1
  rw [hx.block g (Array.getElem?_eq_some_iff.1 hc).1 hne];exact hc
theorem gT.but {V W W':World} {T R X D K:Nat} {a:Option Addr} {c:Nat} {l:List Int} {cs:List Value} {x0:ai} {e:TypeId} {m:Nat} {ga:Option Addr} {gc:Nat} {rows:List (List Value)} {si:List (Option Addr×Nat×List Int)} {sr:List (Option Addr×Nat×Nat×List (List Value))}
 (h:gT V T R X D a c l cs x0 e m ga gc rows si sr W) (hx:ar K W W') (hK:D≤K) (hg: ∀q,ga=some q→q.block≠K) (hi: ∀s∈si,∀p,s.1=some p→p.block≠K) (hr: ∀s∈sr,∀p,s.1=some p→p.block≠K):gT V T R X D a c l cs x0 e m ga gc rows si sr W':=by
 have qN:=h.lo;have hsz:=h.size;have hs:=hx.size
 refine ⟨h.cw.but hx (by omega) (h.old.mono fun b hb=>by omega),EB h.own hx hg,fun s hm=> ?_,fun s hm=> ?_,h.old,by omega,h.lo⟩
 ·obtain ⟨h1,h2⟩:=h.si s hm
  exact ⟨h1.dA hx (hi s hm),fun p q=>by have h3:=h2 p q;exact ⟨h3.1,by omega,h3.2.2⟩⟩
 ·obtain ⟨h1,h2⟩:=h.sr s hm
  exact ⟨h1.but hx (hr s hm),fun p q=>by have h3:=h2 p q;exact ⟨h3.1,by omega,h3.2.2⟩⟩
theorem gT.far {V W:World} {T R X D:Nat} {a:Option Addr} {c:Nat} {l:List Int} {cs:List Value} {x0:ai} {e:TypeId} {m:Nat} {ga:Option Addr} {gc:Nat} {rows:List (List Value)} {si:List (Option Addr×Nat×List Int)} {sr:List (Option Addr×Nat×Nat×List (List Value))}
 (h:gT V T R X D a c l cs x0 e m ga gc rows si sr W):(∀q,ga=some q→q.block≠W.heap.size)∧(∀s∈si,∀p,s.1=some p→p.block≠W.heap.size)∧(∀s∈sr,∀p,s.1=some p→p.block≠W.heap.size):=
 ⟨fun q hq=>by have:=(h.jQ q hq).2;omega,fun s hm p hp=>by have:=((h.si s hm).2 p hp).2.1;omega,fun s hm p hp=>by have:=((h.sr s hm).2 p hp).2.1;omega⟩
theorem FX {V W:World} {T R X D:Nat} {a:Option Addr} {c:Nat} {l:List Int} {cs:List Value} {x0:ai} {ga:Option Addr} {gc:Nat} {xs:List aP}
 (h:gT V T R X D a c l cs x0 78 12 ga gc (xs.map aP.cells) (xs.map fun x=>(x.aa,x.ac,x.away)) [] W) (hm: ∀x∈xs,x.name.size≤maxLen∧gl [x.cU,x.j5,x.rn,x.rd,x.se,x.vW,x.tj,x.yA,x.cY,x.jS]):
 CW V T R X a c l cs {x0 with la:=ga,lc:=gc,lines:=xs} W:=by
 obtain ⟨ra,rc,sK,Bb,Ey⟩:=h.own.recs (by decide);simp only [Value.slice.injEq,true_and]at sK;obtain ⟨rfl,rfl⟩:=sK;have qN:=h.lo;refine {h.cw with case':={h.cw.case' with lines:=Bb,line:=fun b hb=> ?_},bl:={h.cw.bl with lines:=fun p hp=> ?_,line:=fun b hb p hp=> ?_}}
 ·exact ⟨(hm b hb).1,(h.si _ (List.mem_map.2 ⟨_,hb,rfl⟩)).1,(hm b hb).2⟩
 ·have:=h.jQ p hp
  show X<p.block∧p.block<W.heap.size;omega
 ·have h2:=(h.si _ (List.mem_map.2 ⟨_,hb,rfl⟩)).2 p hp
  exact ⟨h2.1,h2.2.1⟩
theorem FY {V W:World} {T R X D:Nat} {a:Option Addr} {c:Nat} {l:List Int} {cs:List Value} {x0:ai} {ga:Option Addr} {gc:Nat} {xs:List aF}
 (h:gT V T R X D a c l cs x0 67 22 ga gc (xs.map aF.cells) (xs.map fun x=>(x.aa,x.ac,x.away)) (xs.map fun x=>(x.sa,x.sc,2,x.aM.map dp.cells)) W) (hu: ∀w,aS w x0→bS w 22 ga gc (xs.map aF.cells)→(∀x∈xs,aD w x.aa x.ac x.away∧bS w 2 x.sa x.sc (x.aM.map dp.cells))→aS w {x0 with ua:=ga,uc:=gc,au:=xs}):
 CW V T R X a c l cs {x0 with ua:=ga,uc:=gc,au:=xs} W:=by
 obtain ⟨ra,rc,sK,Bb,Ey⟩:=h.own.recs (by decide);simp only [Value.slice.injEq,true_and]at sK;obtain ⟨rfl,rfl⟩:=sK;have qN:=h.lo;have hs:=fun b (hb:b∈xs)=>h.si _ (List.mem_map.2 ⟨b,hb,rfl⟩);have hr:=fun b (hb:b∈xs)=>h.sr _ (List.mem_map.2 ⟨b,hb,rfl⟩);refine {h.cw with case':=hu W h.cw.case' Bb (fun x hx=>⟨(hs x hx).1,(hr x hx).1⟩),bl:={h.cw.bl with au:=fun p hp=> ?_,unit:=fun b hb=>⟨fun p hp=> ?_,fun p hp=> ?_⟩}}
 ·have:=h.jQ p hp
  show X<p.block∧p.block<W.heap.size;omega
 ·have h2:=(hr b hb).2 p hp
  exact ⟨h2.1,h2.2.1⟩
 ·have h2:=(hs b hb).2 p hp
  exact ⟨h2.1,h2.2.1⟩
end Go.Proofs.YtkpngkdgphojlaaGreat
